/- Messages: a step of the program and of the reference. Written by mkm6.py. -/
import Derived.Test.YtomdfdppfhkbjaaM5
set_option linter.unusedVariables false
set_option linter.unusedSimpArgs false
namespace Go.Proofs
open Go Go.Ideal
set_option maxRecDepth 8000
set_option maxHeartbeats 4000000

structure OkM (s : MSt) : Prop where
  l : s.l.length ≤ 1000
  c : s.c.length = 2
  w : s.w.length ≤ 10000
  ok : ∀ c ∈ s.c, OkC c
  txt : ∀ p ∈ s.w, p.s.length ≤ 1000
theorem OkM.cl {s : MSt} (h : OkM s) {a : Nat} (ha : a < 2) : OkC (s.c.getD a default) := h.ok _ (by have := h.c; simp [List.getD, show a < s.c.length by omega])

end Go.Proofs
