/- The journal: fit, a range over a string. -/
import Derived.Test.YtdhkkdhooobdhaaGreatDoorT5
import Derived.WalkKit
import Derived.WalkSpells
import Derived.Deep.LoopGhost
import Derived.Lib.OthersKept
import Derived.BigQuiet
import Derived.Deep.QuietTactic
set_option linter.unusedVariables false
set_option linter.unusedSimpArgs false
namespace Go.Proofs
open Go Go.RowKit
set_option maxRecDepth 8000
set_option maxHeartbeats 4000000
theorem decode_lo (s : ByteArray) (i : Nat) (hb : (s.get! i).toNat < 128) : Utf8.decode s i = ((s.get! i).toNat, 1) := by
  unfold Utf8.decode
  simp [hb]
theorem decode_hi (s : ByteArray) (i : Nat) (hb : 128 ≤ (s.get! i).toNat) : 128 ≤ (Utf8.decode s i).1 := by
  unfold Utf8.decode
  simp only [Nat.add_zero]
  rw [if_neg (by omega)]
  split
  · split
    · assumption
    · decide
  · split
    · split
      · rename_i h; simp at h; simp only; omega
      · decide
    · split
      · split
        · rename_i h; simp at h; simp only; omega
        · decide
      · decide
theorem get!_toList (s : ByteArray) (i : Nat) : s.get! i = s.data.toList.getD i 0 := by
  cases s with
  | mk d => 
    show d[i]! = _
    rw [getElem!_def]
    simp [List.getD]
    cases d[i]? <;> rfl
set_option maxRecDepth 100000 in
set_option maxHeartbeats 1000000 in
theorem fit_calls (s : ByteArray) (w : World) : Calls Tryz.prog 37 #[.string s] w fun e w' => e = .returned (.bool (fit s.data.toList)) ∧ Below w.heap.size w w' := by
  by_cases hl : (200 : Int) < s.size
  · have hf : fit s.data.toList = false := by
      have : 200 < s.data.toList.length := by rw [Array.length_toList]; exact_mod_cast hl
      simp [fit]; omega
    rw [hf]
    go_enter Tryz.func37, Tryz.ntmps37
    go_wp2
    go_ret
    exact ⟨rfl, Below.refl _ _⟩
  · go_enter Tryz.func37, Tryz.ntmps37
    go_wp2
    go_loopw [4] (fun _ wr => ∃ pos : Nat, pos ≤ s.size ∧ wr.heap[w.heap.size]? = some (.stringIter s pos) ∧ Below w.heap.size w wr ∧ Hid ((s.data.toList.take pos).all okb = true)) (fun _ wr => s.size - wr.iterPos w.heap.size)
    case atStart => exact ⟨0, by omega, World.iter_heap w s 0, (Below.refl _ _).alloc (Nat.le_refl _) _, by unfold Hid; simp⟩
    case round =>
      obtain ⟨pos, hle, hit, hbw, HQ⟩ := hrel
      have hpos0 : wr.iterPos w.heap.size = pos := by simp [World.iterPos, hit]
      have hsz : s.data.toList.length = s.size := by rw [Array.length_toList]; rfl
      by_cases hp : pos < s.size
      · have hnx : ∀ ty, (Instr.next (.pointer (some ⟨w.heap.size, 0, none⟩)) true ty).run Tryz.prog wr = _ := fun ty => Lib.run_next_any_at wr w.heap.size s pos ty hit hp
        have hg := get!_toList s pos
        have hlo := decode_lo s pos
        have hhi := decode_hi s pos
        have hit2 := Lib.iterAt_heap wr w.heap.size s pos (pos + (Utf8.decode s pos).2) hit
        have hbw2 := Lib.below_iterAt hbw (k := w.heap.size) (Nat.le_refl _) s (pos + (Utf8.decode s pos).2)
        have hf := @all_false s.data.toList okb pos (by omega)
        have ht := @all_take_succ s.data.toList okb pos (by omega) HQ.out
        rw [okb_iff] at ht
        rw [okb_not] at hf
        rw [← hg] at ht hf
        generalize (s.get! pos).toNat = b at *
        clear hg
        have HF : Hid (b < 32 ∨ 126 < b → fit s.data.toList = false) := fun h => by simp [fit, hf h]
        have HT : Hid (32 ≤ b ∧ b ≤ 126 → (s.data.toList.take (pos + 1)).all okb = true) := ht
        have HL : Hid (b < 128 → Utf8.decode s pos = (b, 1)) := hlo
        have HH : Hid (128 ≤ b → 128 ≤ (Utf8.decode s pos).1) := hhi
        clear hf ht hlo hhi
        generalize hd : Utf8.decode s pos = d at *
        obtain ⟨c, wd⟩ := d
        clear hd
        simp only at hnx hit2 hbw2
        by_cases h1 : (c : Int) < 32
        · have hb : b < 128 := by
            by_cases hb : b < 128
            · exact hb
            · have := HH.out (by omega); simp only at this; omega
          have hcb := HL.out hb
          simp only [Prod.mk.injEq] at hcb
          have HV : Hid (fit s.data.toList = false) := HF.out (by omega)
          clear hcb HF HT HL HH HQ hb
          go_wp2
          go_ret
          exact ⟨by rw [HV.out]; rfl, hbw2⟩
        · by_cases h2 : 126 < (c : Int)
          · have hbb : b < 32 ∨ 126 < b := by
              by_cases hb : b < 128
              · have hcb := HL.out hb
                simp only [Prod.mk.injEq] at hcb
                omega
              · omega
            have HV : Hid (fit s.data.toList = false) := HF.out hbb
            clear hbb HF HT HL HH HQ
            go_wp2
            go_ret
            exact ⟨by rw [HV.out]; rfl, hbw2⟩
          · have hb : b < 128 := by
              by_cases hb : b < 128
              · exact hb
              · have := HH.out (by omega); simp only at this; omega
            have hcb := HL.out hb
            simp only [Prod.mk.injEq] at hcb
            obtain ⟨rfl, rfl⟩ := hcb
            have HT2 : Hid ((s.data.toList.take (pos + 1)).all okb = true) := HT.out (by omega)
            clear hb HT HF HL HH HQ
            go_wp2
            go_roundw
            case rel => exact ⟨pos + 1, by omega, hit2, hbw2, HT2⟩
            case measure =>
              have : (wr.iterAt w.heap.size s (pos + 1)).iterPos w.heap.size = pos + 1 := by simp [World.iterPos, hit2]
              rw [this, hpos0]; omega
      · have hnx : ∀ ty, (Instr.next (.pointer (some ⟨w.heap.size, 0, none⟩)) true ty).run Tryz.prog wr = _ := fun ty => Lib.run_next_end_at wr w.heap.size s pos ty hit hp
        have hf : fit s.data.toList = true := by
          have := HQ.out
          rw [List.take_of_length_le (by omega)] at this
          simp [fit, this]; have : s.data.size = s.size := rfl
          omega
        have HV : Hid (fit s.data.toList = true) := hf
        clear hf HQ
        go_wp2
        go_ret
        exact ⟨by rw [HV.out]; rfl, hbw⟩
theorem fit_spec (l : List UInt8) : Ideal.Spec Tryz.prog 37 [.str l] (.bool (fit l)) none := by
  refine ⟨⟨Tryz.f37, Tryz.func37, rfl, rfl⟩, (fun o h => by cases h), fun ok w vs hlt hp => ?_⟩
  obtain ⟨v, vs', rfl, hv, hp'⟩ := hp.cons_inv
  rw [hp'.nil_inv]
  cases hv
  refine (fit_calls ⟨l.toArray⟩ w).mono ?_
  rintro e w' ⟨rfl, hb⟩
  exact ⟨_, ok, fun _ => none, rfl, hb, fun _ h => h, fun b h => ⟨Nat.lt_of_lt_of_le (hlt b h) hb.size, .inl h⟩, .bool _, (fun k h => by cases h), ⟨by simp [Ideal.oneH, Ideal.look], by simp [Ideal.oneH, Ideal.look]⟩⟩
end Go.Proofs
