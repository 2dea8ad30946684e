/- Lists of numbers as memory. -/
import Derived.Test.YtdhkkdhooobdhaaD5
set_option linter.unusedVariables false
set_option linter.unusedSimpArgs false
namespace Go.Proofs
open Go Go.Ideal
def intsOf (l : List Int) : List AV := l.map (AV.int .i64)
@[go_sem] theorem intsOf_len (l : List Int) : (intsOf l).length = l.length := by simp [intsOf]
@[go_sem] theorem intsOf_get {l : List Int} {i : Nat} (h : i < l.length) : (intsOf l).getD i .junk = .int .i64 (l.getD i default) := by simp [intsOf, List.getD, h]
@[go_sem] theorem intsOf_nil : intsOf [] = [] := rfl
@[go_sem] theorem intsOf_take (l : List Int) (n : Nat) : (intsOf l).take n = intsOf (l.take n) := by simp [intsOf]
@[go_sem] theorem intsOf_drop (l : List Int) (n : Nat) : (intsOf l).drop n = intsOf (l.drop n) := by simp [intsOf]
end Go.Proofs
