/-
  No cell of these rows narrows 'for every input' (looked for: loops, veiled, ifaces, maps, wideKeys, modest, calm, conditions, laid).
  DERIVED. THE GIVEN ROWS OF THIS SEAT. 7 by the template 'for every input the law returns true; each argument reads behind the call as it read before'; 0 by the template 'total and deterministic' (their statements: YtjbflniimfmnhaaTotals.lean).
  GIVEN WITH THE SEED: the statements are not yours to turn. If you find one false, say at which input.
  Laid BY PROGRAM, IN A SANDBOX (cutbox-rows.mjs): the forced cells as the released guide's own fill.sh prints them over the translation 78453e1e623e8e3b… (all of the seat's roots in one cut). By AI agents, Wed Nov 11 2026. No macro, syntax, notation, axiom, sorry.
-/
import Derived.Test.YtjbflniimfmnhaaChecked
import GoSem.Claim
import GoSem.ClaimJoined
import GoSem.ClaimMapViews
import Derived.JoinedTies
import Derived.KernelRfl
namespace Go.Proofs.Ytjbflniimfmnhaa
/- THE CELL 'sum', in the pinned program and in every row, IS THE sha256 OF THE DUMP (.gsa) THAT YtjbflniimfmnhaaProg.lean LOADS. Nothing in Lean hashes anything: it is a label: what it is worth is what the hold of that sum in a sandbox is worth. -/
noncomputable def Try.pinned : Pinned := { name := "ytjbflniimfmnhaa", sum := "78453e1e623e8e3bd3145c266ca41fd06edee2aab8514d3b403360b6adbd6ea2", checked := Try.checked }
namespace Rows
def none {H : Type} : Left H := { results := [], args := [] }

/-- 'syllabarylaw32.UndoTakesOut': WHATEVER THE INPUT: true; the input reads as it did. -/
def undoTakesOutSpec : ChangeSpec := { name := "undoTakesOut", fn := fun _ => fun
  | [d1, d2] => { results := [.lit (.bool true)], args := [d1, d2] }
  | _ => none }
def undoTakesOutRow : OpenClaim := { program := "ytjbflniimfmnhaa", sum := "78453e1e623e8e3bd3145c266ca41fd06edee2aab8514d3b403360b6adbd6ea2", func := "syllabary/syllabarylaw32.UndoTakesOut", spec := "undoTakesOut", unfollowed := true, recurses := true, apart := false }
def UndoTakesOutSaid : Prop := undoTakesOutRow.holds Try.pinned (OpenSpec.ofChange undoTakesOutSpec)

/-- ITS FALSE NEIGHBOUR: 'it returns false'. Refute it at one input. -/
def undoTakesOutWrong : ChangeSpec := { name := "undoTakesOut", fn := fun _ => fun
  | [d1, d2] => { results := [.lit (.bool false)], args := [d1, d2] }
  | _ => none }
def UndoTakesOutWrongFalsely : Prop := undoTakesOutRow.holds Try.pinned (OpenSpec.ofChange undoTakesOutWrong)

/-- 'syllabarylaw32.UndoReplays': WHATEVER THE INPUT: true; the input reads as it did. -/
def undoReplaysSpec : ChangeSpec := { name := "undoReplays", fn := fun _ => fun
  | [d1, d2] => { results := [.lit (.bool true)], args := [d1, d2] }
  | _ => none }
def undoReplaysRow : OpenClaim := { program := "ytjbflniimfmnhaa", sum := "78453e1e623e8e3bd3145c266ca41fd06edee2aab8514d3b403360b6adbd6ea2", func := "syllabary/syllabarylaw32.UndoReplays", spec := "undoReplays", unfollowed := true, recurses := true, apart := false }
def UndoReplaysSaid : Prop := undoReplaysRow.holds Try.pinned (OpenSpec.ofChange undoReplaysSpec)

/-- ITS FALSE NEIGHBOUR: 'it returns false'. Refute it at one input. -/
def undoReplaysWrong : ChangeSpec := { name := "undoReplays", fn := fun _ => fun
  | [d1, d2] => { results := [.lit (.bool false)], args := [d1, d2] }
  | _ => none }
def UndoReplaysWrongFalsely : Prop := undoReplaysRow.holds Try.pinned (OpenSpec.ofChange undoReplaysWrong)

/-- 'syllabarylaw32.UndoDepends': WHATEVER THE INPUT: true; the input reads as it did. -/
def undoDependsSpec : ChangeSpec := { name := "undoDepends", fn := fun _ => fun
  | [d1, d2] => { results := [.lit (.bool true)], args := [d1, d2] }
  | _ => none }
def undoDependsRow : OpenClaim := { program := "ytjbflniimfmnhaa", sum := "78453e1e623e8e3bd3145c266ca41fd06edee2aab8514d3b403360b6adbd6ea2", func := "syllabary/syllabarylaw32.UndoDepends", spec := "undoDepends", unfollowed := true, recurses := true, apart := false }
def UndoDependsSaid : Prop := undoDependsRow.holds Try.pinned (OpenSpec.ofChange undoDependsSpec)

/-- ITS FALSE NEIGHBOUR: 'it returns false'. Refute it at one input. -/
def undoDependsWrong : ChangeSpec := { name := "undoDepends", fn := fun _ => fun
  | [d1, d2] => { results := [.lit (.bool false)], args := [d1, d2] }
  | _ => none }
def UndoDependsWrongFalsely : Prop := undoDependsRow.holds Try.pinned (OpenSpec.ofChange undoDependsWrong)

/-- 'syllabarylaw32.UndoOrders': WHATEVER THE INPUT: true; the input reads as it did. -/
def undoOrdersSpec : ChangeSpec := { name := "undoOrders", fn := fun _ => fun
  | [d1, d2] => { results := [.lit (.bool true)], args := [d1, d2] }
  | _ => none }
def undoOrdersRow : OpenClaim := { program := "ytjbflniimfmnhaa", sum := "78453e1e623e8e3bd3145c266ca41fd06edee2aab8514d3b403360b6adbd6ea2", func := "syllabary/syllabarylaw32.UndoOrders", spec := "undoOrders", unfollowed := true, recurses := true, apart := false }
def UndoOrdersSaid : Prop := undoOrdersRow.holds Try.pinned (OpenSpec.ofChange undoOrdersSpec)

/-- ITS FALSE NEIGHBOUR: 'it returns false'. Refute it at one input. -/
def undoOrdersWrong : ChangeSpec := { name := "undoOrders", fn := fun _ => fun
  | [d1, d2] => { results := [.lit (.bool false)], args := [d1, d2] }
  | _ => none }
def UndoOrdersWrongFalsely : Prop := undoOrdersRow.holds Try.pinned (OpenSpec.ofChange undoOrdersWrong)

/-- 'syllabarylaw32.UndoLast': WHATEVER THE INPUT: true; the input reads as it did. -/
def undoLastSpec : ChangeSpec := { name := "undoLast", fn := fun _ => fun
  | [d1, d2] => { results := [.lit (.bool true)], args := [d1, d2] }
  | _ => none }
def undoLastRow : OpenClaim := { program := "ytjbflniimfmnhaa", sum := "78453e1e623e8e3bd3145c266ca41fd06edee2aab8514d3b403360b6adbd6ea2", func := "syllabary/syllabarylaw32.UndoLast", spec := "undoLast", unfollowed := true, recurses := true, apart := false }
def UndoLastSaid : Prop := undoLastRow.holds Try.pinned (OpenSpec.ofChange undoLastSpec)

/-- ITS FALSE NEIGHBOUR: 'it returns false'. Refute it at one input. -/
def undoLastWrong : ChangeSpec := { name := "undoLast", fn := fun _ => fun
  | [d1, d2] => { results := [.lit (.bool false)], args := [d1, d2] }
  | _ => none }
def UndoLastWrongFalsely : Prop := undoLastRow.holds Try.pinned (OpenSpec.ofChange undoLastWrong)

/-- 'syllabarylaw32.UndoMatchesReference': WHATEVER THE INPUT: true; the input reads as it did. -/
def undoMatchesReferenceSpec : ChangeSpec := { name := "undoMatchesReference", fn := fun _ => fun
  | [d1, d2, d3] => { results := [.lit (.bool true)], args := [d1, d2, d3] }
  | _ => none }
def undoMatchesReferenceRow : OpenClaim := { program := "ytjbflniimfmnhaa", sum := "78453e1e623e8e3bd3145c266ca41fd06edee2aab8514d3b403360b6adbd6ea2", func := "syllabary/syllabarylaw32.UndoMatchesReference", spec := "undoMatchesReference", unfollowed := true, recurses := true, apart := false }
def UndoMatchesReferenceSaid : Prop := undoMatchesReferenceRow.holds Try.pinned (OpenSpec.ofChange undoMatchesReferenceSpec)

/-- ITS FALSE NEIGHBOUR: 'it returns false'. Refute it at one input. -/
def undoMatchesReferenceWrong : ChangeSpec := { name := "undoMatchesReference", fn := fun _ => fun
  | [d1, d2, d3] => { results := [.lit (.bool false)], args := [d1, d2, d3] }
  | _ => none }
def UndoMatchesReferenceWrongFalsely : Prop := undoMatchesReferenceRow.holds Try.pinned (OpenSpec.ofChange undoMatchesReferenceWrong)

/-- 'syllabarylaw32.UndoForgets': WHATEVER THE INPUT: true; the input reads as it did. -/
def undoForgetsSpec : ChangeSpec := { name := "undoForgets", fn := fun _ => fun
  | [d1, d2] => { results := [.lit (.bool true)], args := [d1, d2] }
  | _ => none }
def undoForgetsRow : OpenClaim := { program := "ytjbflniimfmnhaa", sum := "78453e1e623e8e3bd3145c266ca41fd06edee2aab8514d3b403360b6adbd6ea2", func := "syllabary/syllabarylaw32.UndoForgets", spec := "undoForgets", unfollowed := true, recurses := true, apart := false }
def UndoForgetsSaid : Prop := undoForgetsRow.holds Try.pinned (OpenSpec.ofChange undoForgetsSpec)

/-- ITS FALSE NEIGHBOUR: 'it returns false'. Refute it at one input. -/
def undoForgetsWrong : ChangeSpec := { name := "undoForgets", fn := fun _ => fun
  | [d1, d2] => { results := [.lit (.bool false)], args := [d1, d2] }
  | _ => none }
def UndoForgetsWrongFalsely : Prop := undoForgetsRow.holds Try.pinned (OpenSpec.ofChange undoForgetsWrong)

/- THE SECOND FORM. 'bulk': how many values and letters a reading holds, each counted each time it is reached (what is shared counts as often as it is met; a slice's spare places count too). A statement '..UptoSaid' is the law's where the arguments, and the package variables that the reading takes, are together of bulk at most 1048576: NARROWER than '..Said'. Prove '..Said' where nothing that the law and all that it calls make is longer than what came in: it says more and counts as full. Else prove '..UptoSaid'. A law counts once. -/
mutual
def uptoBulk {H : Type} : DataW H → Nat
  | .lit (.string bytes) => bytes.length + 1
  | .lit _ => 1
  | .nil => 1
  | .ptr d => uptoBulk d + 1
  | .slice elems spare => uptoBulkAll elems + uptoBulkAll spare + 1
  | .agg parts => uptoBulkAll parts + 1
  | .iface _ d => uptoBulk d + 1
  | .map entries => uptoBulkEntries entries + 1
  | .held _ => 1
def uptoBulkAll {H : Type} : List (DataW H) → Nat
  | [] => 0
  | d :: r => uptoBulk d + uptoBulkAll r
def uptoBulkEntries {H : Type} : List (Lit × DataW H) → Nat
  | [] => 0
  | x :: r => uptoBulkEntry x + uptoBulkEntries r
def uptoBulkEntry {H : Type} : Lit × DataW H → Nat
  | (.string bytes, d) => bytes.length + uptoBulk d + 1
  | (_, d) => uptoBulk d + 1
 end
def uptoSmall : (H : Type) → List (DataW H) → Bool := fun _ ds => decide (uptoBulkAll ds ≤ 1048576)
def OpenSpec.upto (s : _root_.Go.ChangeSpec) : _root_.Go.OpenSpec := { _root_.Go.OpenSpec.ofChange s with cond := some uptoSmall }

/-- 'syllabarylaw32.UndoTakesOut', WHERE WHAT IT READS IS OF BULK AT MOST 1048576: true; the input reads as it did. -/
def undoTakesOutUptoRow : OpenClaim := { program := "ytjbflniimfmnhaa", sum := "78453e1e623e8e3bd3145c266ca41fd06edee2aab8514d3b403360b6adbd6ea2", func := "syllabary/syllabarylaw32.UndoTakesOut", spec := "undoTakesOut", unfollowed := true, recurses := true, apart := false, narrowed := true }
def UndoTakesOutUptoSaid : Prop := undoTakesOutUptoRow.holds Try.pinned (OpenSpec.upto undoTakesOutSpec)

/-- 'syllabarylaw32.UndoReplays', WHERE WHAT IT READS IS OF BULK AT MOST 1048576: true; the input reads as it did. -/
def undoReplaysUptoRow : OpenClaim := { program := "ytjbflniimfmnhaa", sum := "78453e1e623e8e3bd3145c266ca41fd06edee2aab8514d3b403360b6adbd6ea2", func := "syllabary/syllabarylaw32.UndoReplays", spec := "undoReplays", unfollowed := true, recurses := true, apart := false, narrowed := true }
def UndoReplaysUptoSaid : Prop := undoReplaysUptoRow.holds Try.pinned (OpenSpec.upto undoReplaysSpec)

/-- 'syllabarylaw32.UndoDepends', WHERE WHAT IT READS IS OF BULK AT MOST 1048576: true; the input reads as it did. -/
def undoDependsUptoRow : OpenClaim := { program := "ytjbflniimfmnhaa", sum := "78453e1e623e8e3bd3145c266ca41fd06edee2aab8514d3b403360b6adbd6ea2", func := "syllabary/syllabarylaw32.UndoDepends", spec := "undoDepends", unfollowed := true, recurses := true, apart := false, narrowed := true }
def UndoDependsUptoSaid : Prop := undoDependsUptoRow.holds Try.pinned (OpenSpec.upto undoDependsSpec)

/-- 'syllabarylaw32.UndoOrders', WHERE WHAT IT READS IS OF BULK AT MOST 1048576: true; the input reads as it did. -/
def undoOrdersUptoRow : OpenClaim := { program := "ytjbflniimfmnhaa", sum := "78453e1e623e8e3bd3145c266ca41fd06edee2aab8514d3b403360b6adbd6ea2", func := "syllabary/syllabarylaw32.UndoOrders", spec := "undoOrders", unfollowed := true, recurses := true, apart := false, narrowed := true }
def UndoOrdersUptoSaid : Prop := undoOrdersUptoRow.holds Try.pinned (OpenSpec.upto undoOrdersSpec)

/-- 'syllabarylaw32.UndoLast', WHERE WHAT IT READS IS OF BULK AT MOST 1048576: true; the input reads as it did. -/
def undoLastUptoRow : OpenClaim := { program := "ytjbflniimfmnhaa", sum := "78453e1e623e8e3bd3145c266ca41fd06edee2aab8514d3b403360b6adbd6ea2", func := "syllabary/syllabarylaw32.UndoLast", spec := "undoLast", unfollowed := true, recurses := true, apart := false, narrowed := true }
def UndoLastUptoSaid : Prop := undoLastUptoRow.holds Try.pinned (OpenSpec.upto undoLastSpec)

/-- 'syllabarylaw32.UndoMatchesReference', WHERE WHAT IT READS IS OF BULK AT MOST 1048576: true; the input reads as it did. -/
def undoMatchesReferenceUptoRow : OpenClaim := { program := "ytjbflniimfmnhaa", sum := "78453e1e623e8e3bd3145c266ca41fd06edee2aab8514d3b403360b6adbd6ea2", func := "syllabary/syllabarylaw32.UndoMatchesReference", spec := "undoMatchesReference", unfollowed := true, recurses := true, apart := false, narrowed := true }
def UndoMatchesReferenceUptoSaid : Prop := undoMatchesReferenceUptoRow.holds Try.pinned (OpenSpec.upto undoMatchesReferenceSpec)

/-- 'syllabarylaw32.UndoForgets', WHERE WHAT IT READS IS OF BULK AT MOST 1048576: true; the input reads as it did. -/
def undoForgetsUptoRow : OpenClaim := { program := "ytjbflniimfmnhaa", sum := "78453e1e623e8e3bd3145c266ca41fd06edee2aab8514d3b403360b6adbd6ea2", func := "syllabary/syllabarylaw32.UndoForgets", spec := "undoForgets", unfollowed := true, recurses := true, apart := false, narrowed := true }
def UndoForgetsUptoSaid : Prop := undoForgetsUptoRow.holds Try.pinned (OpenSpec.upto undoForgetsSpec)

end Rows
end Go.Proofs.Ytjbflniimfmnhaa
