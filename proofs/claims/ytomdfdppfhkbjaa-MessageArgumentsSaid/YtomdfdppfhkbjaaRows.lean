/-
  No cell of these rows narrows 'for every input' (looked for: loops, veiled, ifaces, maps, wideKeys, modest, calm, conditions, laid).
  DERIVED. THE GIVEN ROWS OF THIS SEAT. 6 by the template 'for every input the law returns true; each argument reads behind the call as it read before'; 0 by the template 'total and deterministic' (their statements: YtomdfdppfhkbjaaTotals.lean).
  GIVEN WITH THE SEED: the statements are not yours to turn. If you find one false, say at which input.
  Laid BY PROGRAM, IN A SANDBOX (cutbox-rows.mjs): the forced cells as the released guide's own fill.sh prints them over the translation aa075139d6498742… (all of the seat's roots in one cut). By AI agents, Wed Nov 11 2026. No macro, syntax, notation, axiom, sorry.
-/
import Derived.Test.YtomdfdppfhkbjaaChecked
import GoSem.Claim
import GoSem.ClaimJoined
import GoSem.ClaimMapViews
import Derived.JoinedTies
import Derived.KernelRfl
namespace Go.Proofs.Ytomdfdppfhkbjaa
/- THE CELL 'sum', in the pinned program and in every row, IS THE sha256 OF THE DUMP (.gsa) THAT YtomdfdppfhkbjaaProg.lean LOADS. Nothing in Lean hashes anything: it is a label: what it is worth is what the hold of that sum in a sandbox is worth. -/
noncomputable def Try.pinned : Pinned := { name := "ytomdfdppfhkbjaa", sum := "aa075139d64987424ffacffcf49ea7ae3a6d82263ddf71d538c72e47a40d1012", checked := Try.checked }
namespace Rows
def none {H : Type} : Left H := { results := [], args := [] }

/-- 'syllabarylaw30.MessageOnce': WHATEVER THE INPUT: true; the input reads as it did. -/
def messageOnceSpec : ChangeSpec := { name := "messageOnce", fn := fun _ => fun
  | [d] => { results := [.lit (.bool true)], args := [d] }
  | _ => none }
def messageOnceRow : OpenClaim := { program := "ytomdfdppfhkbjaa", sum := "aa075139d64987424ffacffcf49ea7ae3a6d82263ddf71d538c72e47a40d1012", func := "syllabary/syllabarylaw30.MessageOnce", spec := "messageOnce", inPlace := ["slices.overlaps[syllabary/api.Mark]"], unfollowed := true, recurses := true, apart := false }
def MessageOnceSaid : Prop := messageOnceRow.holds Try.pinned (OpenSpec.ofChange messageOnceSpec)

/-- ITS FALSE NEIGHBOUR: 'it returns false'. Refute it at one input. -/
def messageOnceWrong : ChangeSpec := { name := "messageOnce", fn := fun _ => fun
  | [d] => { results := [.lit (.bool false)], args := [d] }
  | _ => none }
def MessageOnceWrongFalsely : Prop := messageOnceRow.holds Try.pinned (OpenSpec.ofChange messageOnceWrong)

/-- 'syllabarylaw30.MessageTells': WHATEVER THE INPUT: true; the input reads as it did. -/
def messageTellsSpec : ChangeSpec := { name := "messageTells", fn := fun _ => fun
  | [d] => { results := [.lit (.bool true)], args := [d] }
  | _ => none }
def messageTellsRow : OpenClaim := { program := "ytomdfdppfhkbjaa", sum := "aa075139d64987424ffacffcf49ea7ae3a6d82263ddf71d538c72e47a40d1012", func := "syllabary/syllabarylaw30.MessageTells", spec := "messageTells", inPlace := ["slices.overlaps[syllabary/api.Mark]"], unfollowed := true, recurses := true, apart := false }
def MessageTellsSaid : Prop := messageTellsRow.holds Try.pinned (OpenSpec.ofChange messageTellsSpec)

/-- ITS FALSE NEIGHBOUR: 'it returns false'. Refute it at one input. -/
def messageTellsWrong : ChangeSpec := { name := "messageTells", fn := fun _ => fun
  | [d] => { results := [.lit (.bool false)], args := [d] }
  | _ => none }
def MessageTellsWrongFalsely : Prop := messageTellsRow.holds Try.pinned (OpenSpec.ofChange messageTellsWrong)

/-- 'syllabarylaw30.MessageRepeats': WHATEVER THE INPUT: true; the input reads as it did. -/
def messageRepeatsSpec : ChangeSpec := { name := "messageRepeats", fn := fun _ => fun
  | [d1, d2] => { results := [.lit (.bool true)], args := [d1, d2] }
  | _ => none }
def messageRepeatsRow : OpenClaim := { program := "ytomdfdppfhkbjaa", sum := "aa075139d64987424ffacffcf49ea7ae3a6d82263ddf71d538c72e47a40d1012", func := "syllabary/syllabarylaw30.MessageRepeats", spec := "messageRepeats", inPlace := ["slices.overlaps[syllabary/api.Mark]"], unfollowed := true, recurses := true, apart := false }
def MessageRepeatsSaid : Prop := messageRepeatsRow.holds Try.pinned (OpenSpec.ofChange messageRepeatsSpec)

/-- ITS FALSE NEIGHBOUR: 'it returns false'. Refute it at one input. -/
def messageRepeatsWrong : ChangeSpec := { name := "messageRepeats", fn := fun _ => fun
  | [d1, d2] => { results := [.lit (.bool false)], args := [d1, d2] }
  | _ => none }
def MessageRepeatsWrongFalsely : Prop := messageRepeatsRow.holds Try.pinned (OpenSpec.ofChange messageRepeatsWrong)

/-- 'syllabarylaw30.MessageArrives': WHATEVER THE INPUT: true; the input reads as it did. -/
def messageArrivesSpec : ChangeSpec := { name := "messageArrives", fn := fun _ => fun
  | [d1, d2, d3] => { results := [.lit (.bool true)], args := [d1, d2, d3] }
  | _ => none }
def messageArrivesRow : OpenClaim := { program := "ytomdfdppfhkbjaa", sum := "aa075139d64987424ffacffcf49ea7ae3a6d82263ddf71d538c72e47a40d1012", func := "syllabary/syllabarylaw30.MessageArrives", spec := "messageArrives", inPlace := ["slices.overlaps[syllabary/api.Mark]"], unfollowed := true, recurses := true, apart := false }
def MessageArrivesSaid : Prop := messageArrivesRow.holds Try.pinned (OpenSpec.ofChange messageArrivesSpec)

/-- ITS FALSE NEIGHBOUR: 'it returns false'. Refute it at one input. -/
def messageArrivesWrong : ChangeSpec := { name := "messageArrives", fn := fun _ => fun
  | [d1, d2, d3] => { results := [.lit (.bool false)], args := [d1, d2, d3] }
  | _ => none }
def MessageArrivesWrongFalsely : Prop := messageArrivesRow.holds Try.pinned (OpenSpec.ofChange messageArrivesWrong)

/-- 'syllabarylaw30.MessageRefuses': WHATEVER THE INPUT: true; the input reads as it did. -/
def messageRefusesSpec : ChangeSpec := { name := "messageRefuses", fn := fun _ => fun
  | [d1, d2, d3] => { results := [.lit (.bool true)], args := [d1, d2, d3] }
  | _ => none }
def messageRefusesRow : OpenClaim := { program := "ytomdfdppfhkbjaa", sum := "aa075139d64987424ffacffcf49ea7ae3a6d82263ddf71d538c72e47a40d1012", func := "syllabary/syllabarylaw30.MessageRefuses", spec := "messageRefuses", inPlace := ["slices.overlaps[syllabary/api.Mark]"], unfollowed := true, recurses := true, apart := false }
def MessageRefusesSaid : Prop := messageRefusesRow.holds Try.pinned (OpenSpec.ofChange messageRefusesSpec)

/-- ITS FALSE NEIGHBOUR: 'it returns false'. Refute it at one input. -/
def messageRefusesWrong : ChangeSpec := { name := "messageRefuses", fn := fun _ => fun
  | [d1, d2, d3] => { results := [.lit (.bool false)], args := [d1, d2, d3] }
  | _ => none }
def MessageRefusesWrongFalsely : Prop := messageRefusesRow.holds Try.pinned (OpenSpec.ofChange messageRefusesWrong)

/-- 'syllabarylaw30.MessageArguments': WHATEVER THE INPUT: true; the input reads as it did. -/
def messageArgumentsSpec : ChangeSpec := { name := "messageArguments", fn := fun _ => fun
  | [d1, d2, d3] => { results := [.lit (.bool true)], args := [d1, d2, d3] }
  | _ => none }
def messageArgumentsRow : OpenClaim := { program := "ytomdfdppfhkbjaa", sum := "aa075139d64987424ffacffcf49ea7ae3a6d82263ddf71d538c72e47a40d1012", func := "syllabary/syllabarylaw30.MessageArguments", spec := "messageArguments", inPlace := ["slices.overlaps[syllabary/api.Mark]"], unfollowed := true, recurses := true, apart := false }
def MessageArgumentsSaid : Prop := messageArgumentsRow.holds Try.pinned (OpenSpec.ofChange messageArgumentsSpec)

/-- ITS FALSE NEIGHBOUR: 'it returns false'. Refute it at one input. -/
def messageArgumentsWrong : ChangeSpec := { name := "messageArguments", fn := fun _ => fun
  | [d1, d2, d3] => { results := [.lit (.bool false)], args := [d1, d2, d3] }
  | _ => none }
def MessageArgumentsWrongFalsely : Prop := messageArgumentsRow.holds Try.pinned (OpenSpec.ofChange messageArgumentsWrong)

/- THE SECOND FORM. 'bulk': how many values and letters a reading holds, each counted each time it is reached (what is shared counts as often as it is met; a slice's spare places count too). A statement '..UptoSaid' is the law's where the arguments, and the package variables that the reading takes, are together of bulk at most 1048576: NARROWER than '..Said'. Prove '..Said' where nothing that the law and all that it calls make is longer than what came in: it says more and counts as full. Else prove '..UptoSaid'. A law counts once. -/
mutual
def uptoBulk {H : Type} : DataW H → Nat
  | .lit (.string bytes) => bytes.length + 1
  | .lit _ => 1
  | .nil => 1
  | .ptr d => uptoBulk d + 1
  | .slice elems spare => uptoBulkAll elems + uptoBulkAll spare + 1
  | .agg parts => uptoBulkAll parts + 1
  | .iface _ d => uptoBulk d + 1
  | .map entries => uptoBulkEntries entries + 1
  | .held _ => 1
def uptoBulkAll {H : Type} : List (DataW H) → Nat
  | [] => 0
  | d :: r => uptoBulk d + uptoBulkAll r
def uptoBulkEntries {H : Type} : List (Lit × DataW H) → Nat
  | [] => 0
  | x :: r => uptoBulkEntry x + uptoBulkEntries r
def uptoBulkEntry {H : Type} : Lit × DataW H → Nat
  | (.string bytes, d) => bytes.length + uptoBulk d + 1
  | (_, d) => uptoBulk d + 1
 end
def uptoSmall : (H : Type) → List (DataW H) → Bool := fun _ ds => decide (uptoBulkAll ds ≤ 1048576)
def OpenSpec.upto (s : _root_.Go.ChangeSpec) : _root_.Go.OpenSpec := { _root_.Go.OpenSpec.ofChange s with cond := some uptoSmall }

/-- 'syllabarylaw30.MessageOnce', WHERE WHAT IT READS IS OF BULK AT MOST 1048576: true; the input reads as it did. -/
def messageOnceUptoRow : OpenClaim := { program := "ytomdfdppfhkbjaa", sum := "aa075139d64987424ffacffcf49ea7ae3a6d82263ddf71d538c72e47a40d1012", func := "syllabary/syllabarylaw30.MessageOnce", spec := "messageOnce", inPlace := ["slices.overlaps[syllabary/api.Mark]"], unfollowed := true, recurses := true, apart := false, narrowed := true }
def MessageOnceUptoSaid : Prop := messageOnceUptoRow.holds Try.pinned (OpenSpec.upto messageOnceSpec)

/-- 'syllabarylaw30.MessageTells', WHERE WHAT IT READS IS OF BULK AT MOST 1048576: true; the input reads as it did. -/
def messageTellsUptoRow : OpenClaim := { program := "ytomdfdppfhkbjaa", sum := "aa075139d64987424ffacffcf49ea7ae3a6d82263ddf71d538c72e47a40d1012", func := "syllabary/syllabarylaw30.MessageTells", spec := "messageTells", inPlace := ["slices.overlaps[syllabary/api.Mark]"], unfollowed := true, recurses := true, apart := false, narrowed := true }
def MessageTellsUptoSaid : Prop := messageTellsUptoRow.holds Try.pinned (OpenSpec.upto messageTellsSpec)

/-- 'syllabarylaw30.MessageRepeats', WHERE WHAT IT READS IS OF BULK AT MOST 1048576: true; the input reads as it did. -/
def messageRepeatsUptoRow : OpenClaim := { program := "ytomdfdppfhkbjaa", sum := "aa075139d64987424ffacffcf49ea7ae3a6d82263ddf71d538c72e47a40d1012", func := "syllabary/syllabarylaw30.MessageRepeats", spec := "messageRepeats", inPlace := ["slices.overlaps[syllabary/api.Mark]"], unfollowed := true, recurses := true, apart := false, narrowed := true }
def MessageRepeatsUptoSaid : Prop := messageRepeatsUptoRow.holds Try.pinned (OpenSpec.upto messageRepeatsSpec)

/-- 'syllabarylaw30.MessageArrives', WHERE WHAT IT READS IS OF BULK AT MOST 1048576: true; the input reads as it did. -/
def messageArrivesUptoRow : OpenClaim := { program := "ytomdfdppfhkbjaa", sum := "aa075139d64987424ffacffcf49ea7ae3a6d82263ddf71d538c72e47a40d1012", func := "syllabary/syllabarylaw30.MessageArrives", spec := "messageArrives", inPlace := ["slices.overlaps[syllabary/api.Mark]"], unfollowed := true, recurses := true, apart := false, narrowed := true }
def MessageArrivesUptoSaid : Prop := messageArrivesUptoRow.holds Try.pinned (OpenSpec.upto messageArrivesSpec)

/-- 'syllabarylaw30.MessageRefuses', WHERE WHAT IT READS IS OF BULK AT MOST 1048576: true; the input reads as it did. -/
def messageRefusesUptoRow : OpenClaim := { program := "ytomdfdppfhkbjaa", sum := "aa075139d64987424ffacffcf49ea7ae3a6d82263ddf71d538c72e47a40d1012", func := "syllabary/syllabarylaw30.MessageRefuses", spec := "messageRefuses", inPlace := ["slices.overlaps[syllabary/api.Mark]"], unfollowed := true, recurses := true, apart := false, narrowed := true }
def MessageRefusesUptoSaid : Prop := messageRefusesUptoRow.holds Try.pinned (OpenSpec.upto messageRefusesSpec)

/-- 'syllabarylaw30.MessageArguments', WHERE WHAT IT READS IS OF BULK AT MOST 1048576: true; the input reads as it did. -/
def messageArgumentsUptoRow : OpenClaim := { program := "ytomdfdppfhkbjaa", sum := "aa075139d64987424ffacffcf49ea7ae3a6d82263ddf71d538c72e47a40d1012", func := "syllabary/syllabarylaw30.MessageArguments", spec := "messageArguments", inPlace := ["slices.overlaps[syllabary/api.Mark]"], unfollowed := true, recurses := true, apart := false, narrowed := true }
def MessageArgumentsUptoSaid : Prop := messageArgumentsUptoRow.holds Try.pinned (OpenSpec.upto messageArgumentsSpec)

end Rows
end Go.Proofs.Ytomdfdppfhkbjaa
