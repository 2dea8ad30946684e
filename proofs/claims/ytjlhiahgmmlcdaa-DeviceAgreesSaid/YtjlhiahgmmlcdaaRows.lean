/-
  No cell of these rows narrows 'for every input' (looked for: loops, veiled, ifaces, maps, wideKeys, modest, calm, conditions, laid).
  DERIVED. THE GIVEN ROWS OF THIS SEAT. 8 by the template 'for every input the law returns true; each argument reads behind the call as it read before'; 0 by the template 'total and deterministic' (their statements: YtjlhiahgmmlcdaaTotals.lean).
  GIVEN WITH THE SEED: the statements are not yours to turn. If you find one false, say at which input.
  Laid BY PROGRAM, IN A SANDBOX (cutbox-rows.mjs): the forced cells as the released guide's own fill.sh prints them over the translation 74ce87c9e5a00cb0… (all of the seat's roots in one cut). By AI agents, Wed Nov 11 2026. No macro, syntax, notation, axiom, sorry.
-/
import Derived.Test.YtjlhiahgmmlcdaaChecked
import GoSem.Claim
import GoSem.ClaimJoined
import GoSem.ClaimMapViews
import Derived.JoinedTies
import Derived.KernelRfl
namespace Go.Proofs.Ytjlhiahgmmlcdaa
/- THE CELL 'sum', in the pinned program and in every row, IS THE sha256 OF THE DUMP (.gsa) THAT YtjlhiahgmmlcdaaProg.lean LOADS. Nothing in Lean hashes anything: it is a label: what it is worth is what the hold of that sum in a sandbox is worth. -/
noncomputable def Try.pinned : Pinned := { name := "ytjlhiahgmmlcdaa", sum := "74ce87c9e5a00cb00d3e80c12b2cf4d37cd194f348b31aa9030db5109e280460", checked := Try.checked }
namespace Rows
def none {H : Type} : Left H := { results := [], args := [] }

/-- 'syllabarylaw26.DeviceMatchesReference': WHATEVER THE INPUT: true; the input reads as it did. -/
def deviceMatchesReferenceSpec : ChangeSpec := { name := "deviceMatchesReference", fn := fun _ => fun
  | [d1, d2, d3] => { results := [.lit (.bool true)], args := [d1, d2, d3] }
  | _ => none }
def deviceMatchesReferenceRow : OpenClaim := { program := "ytjlhiahgmmlcdaa", sum := "74ce87c9e5a00cb00d3e80c12b2cf4d37cd194f348b31aa9030db5109e280460", func := "syllabary/syllabarylaw26.DeviceMatchesReference", spec := "deviceMatchesReference", unfollowed := true, recurses := true, apart := false }
def DeviceMatchesReferenceSaid : Prop := deviceMatchesReferenceRow.holds Try.pinned (OpenSpec.ofChange deviceMatchesReferenceSpec)

/-- ITS FALSE NEIGHBOUR: 'it returns false'. Refute it at one input. -/
def deviceMatchesReferenceWrong : ChangeSpec := { name := "deviceMatchesReference", fn := fun _ => fun
  | [d1, d2, d3] => { results := [.lit (.bool false)], args := [d1, d2, d3] }
  | _ => none }
def DeviceMatchesReferenceWrongFalsely : Prop := deviceMatchesReferenceRow.holds Try.pinned (OpenSpec.ofChange deviceMatchesReferenceWrong)

/-- 'syllabarylaw26.DeviceMerges': WHATEVER THE INPUT: true; the input reads as it did. -/
def deviceMergesSpec : ChangeSpec := { name := "deviceMerges", fn := fun _ => fun
  | [d] => { results := [.lit (.bool true)], args := [d] }
  | _ => none }
def deviceMergesRow : OpenClaim := { program := "ytjlhiahgmmlcdaa", sum := "74ce87c9e5a00cb00d3e80c12b2cf4d37cd194f348b31aa9030db5109e280460", func := "syllabary/syllabarylaw26.DeviceMerges", spec := "deviceMerges", unfollowed := true, recurses := true, apart := false }
def DeviceMergesSaid : Prop := deviceMergesRow.holds Try.pinned (OpenSpec.ofChange deviceMergesSpec)

/-- ITS FALSE NEIGHBOUR: 'it returns false'. Refute it at one input. -/
def deviceMergesWrong : ChangeSpec := { name := "deviceMerges", fn := fun _ => fun
  | [d] => { results := [.lit (.bool false)], args := [d] }
  | _ => none }
def DeviceMergesWrongFalsely : Prop := deviceMergesRow.holds Try.pinned (OpenSpec.ofChange deviceMergesWrong)

/-- 'syllabarylaw26.DeviceSince': WHATEVER THE INPUT: true; the input reads as it did. -/
def deviceSinceSpec : ChangeSpec := { name := "deviceSince", fn := fun _ => fun
  | [d1, d2] => { results := [.lit (.bool true)], args := [d1, d2] }
  | _ => none }
def deviceSinceRow : OpenClaim := { program := "ytjlhiahgmmlcdaa", sum := "74ce87c9e5a00cb00d3e80c12b2cf4d37cd194f348b31aa9030db5109e280460", func := "syllabary/syllabarylaw26.DeviceSince", spec := "deviceSince", unfollowed := true, recurses := true, apart := false }
def DeviceSinceSaid : Prop := deviceSinceRow.holds Try.pinned (OpenSpec.ofChange deviceSinceSpec)

/-- ITS FALSE NEIGHBOUR: 'it returns false'. Refute it at one input. -/
def deviceSinceWrong : ChangeSpec := { name := "deviceSince", fn := fun _ => fun
  | [d1, d2] => { results := [.lit (.bool false)], args := [d1, d2] }
  | _ => none }
def DeviceSinceWrongFalsely : Prop := deviceSinceRow.holds Try.pinned (OpenSpec.ofChange deviceSinceWrong)

/-- 'syllabarylaw26.DeviceAgrees': WHATEVER THE INPUT: true; the input reads as it did. -/
def deviceAgreesSpec : ChangeSpec := { name := "deviceAgrees", fn := fun _ => fun
  | [d1, d2] => { results := [.lit (.bool true)], args := [d1, d2] }
  | _ => none }
def deviceAgreesRow : OpenClaim := { program := "ytjlhiahgmmlcdaa", sum := "74ce87c9e5a00cb00d3e80c12b2cf4d37cd194f348b31aa9030db5109e280460", func := "syllabary/syllabarylaw26.DeviceAgrees", spec := "deviceAgrees", unfollowed := true, recurses := true, apart := false }
def DeviceAgreesSaid : Prop := deviceAgreesRow.holds Try.pinned (OpenSpec.ofChange deviceAgreesSpec)

/-- ITS FALSE NEIGHBOUR: 'it returns false'. Refute it at one input. -/
def deviceAgreesWrong : ChangeSpec := { name := "deviceAgrees", fn := fun _ => fun
  | [d1, d2] => { results := [.lit (.bool false)], args := [d1, d2] }
  | _ => none }
def DeviceAgreesWrongFalsely : Prop := deviceAgreesRow.holds Try.pinned (OpenSpec.ofChange deviceAgreesWrong)

/-- 'syllabarylaw26.DeviceForgets': WHATEVER THE INPUT: true; the input reads as it did. -/
def deviceForgetsSpec : ChangeSpec := { name := "deviceForgets", fn := fun _ => fun
  | [d] => { results := [.lit (.bool true)], args := [d] }
  | _ => none }
def deviceForgetsRow : OpenClaim := { program := "ytjlhiahgmmlcdaa", sum := "74ce87c9e5a00cb00d3e80c12b2cf4d37cd194f348b31aa9030db5109e280460", func := "syllabary/syllabarylaw26.DeviceForgets", spec := "deviceForgets", unfollowed := true, recurses := true, apart := false }
def DeviceForgetsSaid : Prop := deviceForgetsRow.holds Try.pinned (OpenSpec.ofChange deviceForgetsSpec)

/-- ITS FALSE NEIGHBOUR: 'it returns false'. Refute it at one input. -/
def deviceForgetsWrong : ChangeSpec := { name := "deviceForgets", fn := fun _ => fun
  | [d] => { results := [.lit (.bool false)], args := [d] }
  | _ => none }
def DeviceForgetsWrongFalsely : Prop := deviceForgetsRow.holds Try.pinned (OpenSpec.ofChange deviceForgetsWrong)

/-- 'syllabarylaw26.DeviceCleans': WHATEVER THE INPUT: true; the input reads as it did. -/
def deviceCleansSpec : ChangeSpec := { name := "deviceCleans", fn := fun _ => fun
  | [d1, d2] => { results := [.lit (.bool true)], args := [d1, d2] }
  | _ => none }
def deviceCleansRow : OpenClaim := { program := "ytjlhiahgmmlcdaa", sum := "74ce87c9e5a00cb00d3e80c12b2cf4d37cd194f348b31aa9030db5109e280460", func := "syllabary/syllabarylaw26.DeviceCleans", spec := "deviceCleans", unfollowed := true, recurses := true, apart := false }
def DeviceCleansSaid : Prop := deviceCleansRow.holds Try.pinned (OpenSpec.ofChange deviceCleansSpec)

/-- ITS FALSE NEIGHBOUR: 'it returns false'. Refute it at one input. -/
def deviceCleansWrong : ChangeSpec := { name := "deviceCleans", fn := fun _ => fun
  | [d1, d2] => { results := [.lit (.bool false)], args := [d1, d2] }
  | _ => none }
def DeviceCleansWrongFalsely : Prop := deviceCleansRow.holds Try.pinned (OpenSpec.ofChange deviceCleansWrong)

/-- 'syllabarylaw26.DeviceDisagrees': WHATEVER THE INPUT: true; the input reads as it did. -/
def deviceDisagreesSpec : ChangeSpec := { name := "deviceDisagrees", fn := fun _ => fun
  | [d1, d2] => { results := [.lit (.bool true)], args := [d1, d2] }
  | _ => none }
def deviceDisagreesRow : OpenClaim := { program := "ytjlhiahgmmlcdaa", sum := "74ce87c9e5a00cb00d3e80c12b2cf4d37cd194f348b31aa9030db5109e280460", func := "syllabary/syllabarylaw26.DeviceDisagrees", spec := "deviceDisagrees", unfollowed := true, recurses := true, apart := false }
def DeviceDisagreesSaid : Prop := deviceDisagreesRow.holds Try.pinned (OpenSpec.ofChange deviceDisagreesSpec)

/-- ITS FALSE NEIGHBOUR: 'it returns false'. Refute it at one input. -/
def deviceDisagreesWrong : ChangeSpec := { name := "deviceDisagrees", fn := fun _ => fun
  | [d1, d2] => { results := [.lit (.bool false)], args := [d1, d2] }
  | _ => none }
def DeviceDisagreesWrongFalsely : Prop := deviceDisagreesRow.holds Try.pinned (OpenSpec.ofChange deviceDisagreesWrong)

/-- 'syllabarylaw26.DeviceCounts': WHATEVER THE INPUT: true; the input reads as it did. -/
def deviceCountsSpec : ChangeSpec := { name := "deviceCounts", fn := fun _ => fun
  | [d1, d2] => { results := [.lit (.bool true)], args := [d1, d2] }
  | _ => none }
def deviceCountsRow : OpenClaim := { program := "ytjlhiahgmmlcdaa", sum := "74ce87c9e5a00cb00d3e80c12b2cf4d37cd194f348b31aa9030db5109e280460", func := "syllabary/syllabarylaw26.DeviceCounts", spec := "deviceCounts", unfollowed := true, recurses := true, apart := false }
def DeviceCountsSaid : Prop := deviceCountsRow.holds Try.pinned (OpenSpec.ofChange deviceCountsSpec)

/-- ITS FALSE NEIGHBOUR: 'it returns false'. Refute it at one input. -/
def deviceCountsWrong : ChangeSpec := { name := "deviceCounts", fn := fun _ => fun
  | [d1, d2] => { results := [.lit (.bool false)], args := [d1, d2] }
  | _ => none }
def DeviceCountsWrongFalsely : Prop := deviceCountsRow.holds Try.pinned (OpenSpec.ofChange deviceCountsWrong)

/- THE SECOND FORM. 'bulk': how many values and letters a reading holds, each counted each time it is reached (what is shared counts as often as it is met; a slice's spare places count too). A statement '..UptoSaid' is the law's where the arguments, and the package variables that the reading takes, are together of bulk at most 1048576: NARROWER than '..Said'. Prove '..Said' where nothing that the law and all that it calls make is longer than what came in: it says more and counts as full. Else prove '..UptoSaid'. A law counts once. -/
mutual
def uptoBulk {H : Type} : DataW H → Nat
  | .lit (.string bytes) => bytes.length + 1
  | .lit _ => 1
  | .nil => 1
  | .ptr d => uptoBulk d + 1
  | .slice elems spare => uptoBulkAll elems + uptoBulkAll spare + 1
  | .agg parts => uptoBulkAll parts + 1
  | .iface _ d => uptoBulk d + 1
  | .map entries => uptoBulkEntries entries + 1
  | .held _ => 1
def uptoBulkAll {H : Type} : List (DataW H) → Nat
  | [] => 0
  | d :: r => uptoBulk d + uptoBulkAll r
def uptoBulkEntries {H : Type} : List (Lit × DataW H) → Nat
  | [] => 0
  | x :: r => uptoBulkEntry x + uptoBulkEntries r
def uptoBulkEntry {H : Type} : Lit × DataW H → Nat
  | (.string bytes, d) => bytes.length + uptoBulk d + 1
  | (_, d) => uptoBulk d + 1
 end
def uptoSmall : (H : Type) → List (DataW H) → Bool := fun _ ds => decide (uptoBulkAll ds ≤ 1048576)
def OpenSpec.upto (s : _root_.Go.ChangeSpec) : _root_.Go.OpenSpec := { _root_.Go.OpenSpec.ofChange s with cond := some uptoSmall }

/-- 'syllabarylaw26.DeviceMatchesReference', WHERE WHAT IT READS IS OF BULK AT MOST 1048576: true; the input reads as it did. -/
def deviceMatchesReferenceUptoRow : OpenClaim := { program := "ytjlhiahgmmlcdaa", sum := "74ce87c9e5a00cb00d3e80c12b2cf4d37cd194f348b31aa9030db5109e280460", func := "syllabary/syllabarylaw26.DeviceMatchesReference", spec := "deviceMatchesReference", unfollowed := true, recurses := true, apart := false, narrowed := true }
def DeviceMatchesReferenceUptoSaid : Prop := deviceMatchesReferenceUptoRow.holds Try.pinned (OpenSpec.upto deviceMatchesReferenceSpec)

/-- 'syllabarylaw26.DeviceMerges', WHERE WHAT IT READS IS OF BULK AT MOST 1048576: true; the input reads as it did. -/
def deviceMergesUptoRow : OpenClaim := { program := "ytjlhiahgmmlcdaa", sum := "74ce87c9e5a00cb00d3e80c12b2cf4d37cd194f348b31aa9030db5109e280460", func := "syllabary/syllabarylaw26.DeviceMerges", spec := "deviceMerges", unfollowed := true, recurses := true, apart := false, narrowed := true }
def DeviceMergesUptoSaid : Prop := deviceMergesUptoRow.holds Try.pinned (OpenSpec.upto deviceMergesSpec)

/-- 'syllabarylaw26.DeviceSince', WHERE WHAT IT READS IS OF BULK AT MOST 1048576: true; the input reads as it did. -/
def deviceSinceUptoRow : OpenClaim := { program := "ytjlhiahgmmlcdaa", sum := "74ce87c9e5a00cb00d3e80c12b2cf4d37cd194f348b31aa9030db5109e280460", func := "syllabary/syllabarylaw26.DeviceSince", spec := "deviceSince", unfollowed := true, recurses := true, apart := false, narrowed := true }
def DeviceSinceUptoSaid : Prop := deviceSinceUptoRow.holds Try.pinned (OpenSpec.upto deviceSinceSpec)

/-- 'syllabarylaw26.DeviceAgrees', WHERE WHAT IT READS IS OF BULK AT MOST 1048576: true; the input reads as it did. -/
def deviceAgreesUptoRow : OpenClaim := { program := "ytjlhiahgmmlcdaa", sum := "74ce87c9e5a00cb00d3e80c12b2cf4d37cd194f348b31aa9030db5109e280460", func := "syllabary/syllabarylaw26.DeviceAgrees", spec := "deviceAgrees", unfollowed := true, recurses := true, apart := false, narrowed := true }
def DeviceAgreesUptoSaid : Prop := deviceAgreesUptoRow.holds Try.pinned (OpenSpec.upto deviceAgreesSpec)

/-- 'syllabarylaw26.DeviceForgets', WHERE WHAT IT READS IS OF BULK AT MOST 1048576: true; the input reads as it did. -/
def deviceForgetsUptoRow : OpenClaim := { program := "ytjlhiahgmmlcdaa", sum := "74ce87c9e5a00cb00d3e80c12b2cf4d37cd194f348b31aa9030db5109e280460", func := "syllabary/syllabarylaw26.DeviceForgets", spec := "deviceForgets", unfollowed := true, recurses := true, apart := false, narrowed := true }
def DeviceForgetsUptoSaid : Prop := deviceForgetsUptoRow.holds Try.pinned (OpenSpec.upto deviceForgetsSpec)

/-- 'syllabarylaw26.DeviceCleans', WHERE WHAT IT READS IS OF BULK AT MOST 1048576: true; the input reads as it did. -/
def deviceCleansUptoRow : OpenClaim := { program := "ytjlhiahgmmlcdaa", sum := "74ce87c9e5a00cb00d3e80c12b2cf4d37cd194f348b31aa9030db5109e280460", func := "syllabary/syllabarylaw26.DeviceCleans", spec := "deviceCleans", unfollowed := true, recurses := true, apart := false, narrowed := true }
def DeviceCleansUptoSaid : Prop := deviceCleansUptoRow.holds Try.pinned (OpenSpec.upto deviceCleansSpec)

/-- 'syllabarylaw26.DeviceDisagrees', WHERE WHAT IT READS IS OF BULK AT MOST 1048576: true; the input reads as it did. -/
def deviceDisagreesUptoRow : OpenClaim := { program := "ytjlhiahgmmlcdaa", sum := "74ce87c9e5a00cb00d3e80c12b2cf4d37cd194f348b31aa9030db5109e280460", func := "syllabary/syllabarylaw26.DeviceDisagrees", spec := "deviceDisagrees", unfollowed := true, recurses := true, apart := false, narrowed := true }
def DeviceDisagreesUptoSaid : Prop := deviceDisagreesUptoRow.holds Try.pinned (OpenSpec.upto deviceDisagreesSpec)

/-- 'syllabarylaw26.DeviceCounts', WHERE WHAT IT READS IS OF BULK AT MOST 1048576: true; the input reads as it did. -/
def deviceCountsUptoRow : OpenClaim := { program := "ytjlhiahgmmlcdaa", sum := "74ce87c9e5a00cb00d3e80c12b2cf4d37cd194f348b31aa9030db5109e280460", func := "syllabary/syllabarylaw26.DeviceCounts", spec := "deviceCounts", unfollowed := true, recurses := true, apart := false, narrowed := true }
def DeviceCountsUptoSaid : Prop := deviceCountsUptoRow.holds Try.pinned (OpenSpec.upto deviceCountsSpec)

end Rows
end Go.Proofs.Ytjlhiahgmmlcdaa
