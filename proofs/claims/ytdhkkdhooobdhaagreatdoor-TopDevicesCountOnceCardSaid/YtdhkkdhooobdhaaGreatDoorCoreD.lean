/- The operations without effect do what CoreC says: numbers, strings, lengths. -/
import Derived.Test.YtdhkkdhooobdhaaGreatDoorCoreC
set_option linter.unusedVariables false
set_option linter.unusedSimpArgs false
namespace Go.Ideal
open Go.RowKit

section
variable {ok : Nat → Prop} {φ : Names} {w : World} {v u : Value} {P : Program}

theorem R1.int_inv {k : IntKind} {n : Int} (h : R1 ok φ w v (.int k n)) : v = .int k n := by cases h; rfl
theorem R1.bool_inv {b : Bool} (h : R1 ok φ w v (.bool b)) : v = .bool b := by cases h; rfl
theorem R1.str_inv {s : List UInt8} (h : R1 ok φ w v (.str s)) : v = .string ⟨s.toArray⟩ := by cases h; rfl
theorem R1.int (k : IntKind) (n : Int) : R1 ok φ w (.int k n) (.int k n) := R1.of_data (.int k n)
theorem R1.bool (b : Bool) : R1 ok φ w (.bool b) (.bool b) := R1.of_data (.bool b)
theorem R1.str (s : List UInt8) : R1 ok φ w (.string ⟨s.toArray⟩) (.str s) := R1.of_data (.str s)

theorem inR_lt {k : IntKind} {n : Int} (h0 : 0 ≤ n) (h : inR k n) : n.toNat < 2 ^ k.bits := by
  unfold inR IntKind.wrap at h
  cases k <;> simp [IntKind.bits, IntKind.signed] at h ⊢ <;> omega

theorem bits_toNat (k : IntKind) {a : Int} (h0 : 0 ≤ a) (h : a.toNat < 2 ^ k.bits) : (a % 2 ^ k.bits).toNat = a.toNat := by
  have e1 : ((2 ^ k.bits : Nat) : Int) = (2 : Int) ^ k.bits := by simp
  have : a % 2 ^ k.bits = a := Int.emod_eq_of_lt h0 (by omega)
  rw [this]

theorem evInt_sound {op : BinOp} {k : IntKind} {a b : Int} {t : TypeId} (h : (evInt op k a b).1) :
    ∃ v, (∀ w', (binOp op t (.int k a) (.int k b)).run P w' = .ok v w') ∧ R1 ok φ w v (evInt op k a b).2 := by
  cases op <;> simp only [evInt, no] at h ⊢ <;> first | exact h.elim | skip
  case add => exact ⟨_, by intro w'; simp [binOp, Op.intArith]; rfl, by rw [show k.wrap (a + b) = a + b from h]; exact .int ..⟩
  case sub => exact ⟨_, by intro w'; simp [binOp, Op.intArith]; rfl, by rw [show k.wrap (a - b) = a - b from h]; exact .int ..⟩
  case mul => exact ⟨_, by intro w'; simp [binOp, Op.intArith]; rfl, by rw [show k.wrap (a * b) = a * b from h]; exact .int ..⟩
  case quo =>
    obtain ⟨h0, h1, h2⟩ := h
    have hne : b ≠ 0 := by omega
    exact ⟨_, by intro w'; simp [binOp, Op.intDiv, hne]; rfl, by rw [Int.tdiv_eq_ediv_of_nonneg h0, show k.wrap (a / b) = a / b from h2]; exact .int ..⟩
  case rem =>
    have hne : b ≠ 0 := by have h : 0 < b := h; omega
    exact ⟨_, by intro w'; simp [binOp, Op.intDiv, hne]; rfl, .int ..⟩
  case and =>
    obtain ⟨h0, h1, h2, ha, hb⟩ := h
    refine ⟨_, by intro w'; simp [binOp, Op.intBits]; rfl, ?_⟩
    rw [bits_toNat k h0 (inR_lt h0 ha), bits_toNat k h1 (inR_lt h1 hb), show k.wrap ((a.toNat &&& b.toNat : Nat) : Int) = _ from h2]; exact .int ..
  case or =>
    obtain ⟨h0, h1, h2, ha, hb⟩ := h
    refine ⟨_, by intro w'; simp [binOp, Op.intBits]; rfl, ?_⟩
    rw [bits_toNat k h0 (inR_lt h0 ha), bits_toNat k h1 (inR_lt h1 hb), show k.wrap ((a.toNat ||| b.toNat : Nat) : Int) = _ from h2]; exact .int ..
  case xor =>
    obtain ⟨h0, h1, h2, ha, hb⟩ := h
    refine ⟨_, by intro w'; simp [binOp, Op.intBits]; rfl, ?_⟩
    rw [bits_toNat k h0 (inR_lt h0 ha), bits_toNat k h1 (inR_lt h1 hb), show k.wrap ((a.toNat ^^^ b.toNat : Nat) : Int) = _ from h2]; exact .int ..
  case eql => exact ⟨_, by intro w'; simp [binOp, Op.intCmp]; rfl, by rw [show (a == b) = decide (a = b) from rfl]; exact .bool _⟩
  case neq => exact ⟨_, by intro w'; simp [binOp, Op.intCmp]; rfl, by rw [show (a != b) = !decide (a = b) from rfl]; exact .bool _⟩
  case lss => exact ⟨_, by intro w'; simp [binOp, Op.intCmp], .bool _⟩
  case leq => exact ⟨_, by intro w'; simp [binOp, Op.intCmp], .bool _⟩
  case gtr => exact ⟨_, by intro w'; simp [binOp, Op.intCmp], .bool _⟩
  case geq => exact ⟨_, by intro w'; simp [binOp, Op.intCmp], .bool _⟩

theorem evShift_sound {op : BinOp} {k k' : IntKind} {a b : Int} {t : TypeId} (h : (evShift op k a b).1) :
    ∃ v, (∀ w', (binOp op t (.int k a) (.int k' b)).run P w' = .ok v w') ∧ R1 ok φ w v (evShift op k a b).2 := by
  cases op <;> simp only [evShift, no] at h ⊢ <;> first | exact h.elim | skip
  case shl =>
    obtain ⟨h0, h1, h2, h3, ha⟩ := h
    have hn : ¬ b < 0 := by omega
    refine ⟨_, by intro w'; simp [binOp, Op.shift, hn]; rfl, ?_⟩
    have : k.wrap (a * 2 ^ min b.toNat k.bits) = a * 2 ^ b.toNat := by
      rcases Nat.le_total b.toNat k.bits with hle | hle
      · rw [Nat.min_eq_left hle]; exact h3
      · rw [Nat.min_eq_right hle]
        have h4 := inR_lt (Int.mul_nonneg h0 (Int.pow_nonneg (by decide))) h3
        by_cases hz : a = 0
        · subst hz; simpa [inR] using h3
        · exfalso
          have h5 : (2 : Nat) ^ k.bits ≤ (a * 2 ^ b.toNat).toNat := by
            have h6 : (2 : Int) ^ k.bits ≤ 2 ^ b.toNat := by exact_mod_cast Nat.pow_le_pow_right (by decide) hle
            have h7 : (1 : Int) * 2 ^ b.toNat ≤ a * 2 ^ b.toNat := Int.mul_le_mul_of_nonneg_right (by omega) (Int.pow_nonneg (by decide))
            have h8 : ((2 ^ k.bits : Nat) : Int) = (2 : Int) ^ k.bits := by simp
            omega
          omega
    rw [this]; exact .int ..
  case shr =>
    obtain ⟨h0, h1, h2, ha⟩ := h
    have hn : ¬ b < 0 := by omega
    refine ⟨_, by intro w'; simp [binOp, Op.shift, hn]; rfl, ?_⟩
    have : a.fdiv (2 ^ min b.toNat k.bits) = a / 2 ^ b.toNat := by
      rw [Int.fdiv_eq_ediv_of_nonneg a (Int.pow_nonneg (by decide))]
      rcases Nat.le_total b.toNat k.bits with hle | hle
      · rw [Nat.min_eq_left hle]
      · rw [Nat.min_eq_right hle]
        have h4 := inR_lt h0 ha
        have h5 : (2 : Nat) ^ k.bits ≤ 2 ^ b.toNat := Nat.pow_le_pow_right (by decide) hle
        have e1 : ((2 ^ k.bits : Nat) : Int) = (2 : Int) ^ k.bits := by simp
        have e2 : ((2 ^ b.toNat : Nat) : Int) = (2 : Int) ^ b.toNat := by simp
        rw [Int.ediv_eq_zero_of_lt h0 (by omega), Int.ediv_eq_zero_of_lt h0 (by omega)]
    rw [this]; exact .int ..

end
end Go.Ideal
