/-
  No cell of these rows narrows 'for every input' (looked for: loops, veiled, ifaces, maps, wideKeys, modest, calm, conditions, laid).
  DERIVED. THE GIVEN ROWS OF THIS SEAT. 7 by the template 'for every input the law returns true; each argument reads behind the call as it read before'; 0 by the template 'total and deterministic' (their statements: YthmeobfdmeepbaaTotals.lean).
  GIVEN WITH THE SEED: the statements are not yours to turn. If you find one false, say at which input.
  Laid BY PROGRAM, IN A SANDBOX (cutbox-rows.mjs): the forced cells as the released guide's own fill.sh prints them over the translation f64caa938b32d4bd… (all of the seat's roots in one cut). By AI agents, Wed Nov 11 2026. No macro, syntax, notation, axiom, sorry.
-/
import Derived.Test.YthmeobfdmeepbaaChecked
import GoSem.Claim
import GoSem.ClaimJoined
import GoSem.ClaimMapViews
import Derived.JoinedTies
import Derived.KernelRfl
namespace Go.Proofs.Ythmeobfdmeepbaa
/- THE CELL 'sum', in the pinned program and in every row, IS THE sha256 OF THE DUMP (.gsa) THAT YthmeobfdmeepbaaProg.lean LOADS. Nothing in Lean hashes anything: it is a label: what it is worth is what the hold of that sum in a sandbox is worth. -/
noncomputable def Try.pinned : Pinned := { name := "ythmeobfdmeepbaa", sum := "f64caa938b32d4bdfc1c11c3765593da699f88dfb7c43cff3ae4cb70551df72e", checked := Try.checked }
namespace Rows
def none {H : Type} : Left H := { results := [], args := [] }

/-- 'syllabarylaw25.JournalMatchesReference': WHATEVER THE INPUT: true; the input reads as it did. -/
def journalMatchesReferenceSpec : ChangeSpec := { name := "journalMatchesReference", fn := fun _ => fun
  | [d1, d2, d3] => { results := [.lit (.bool true)], args := [d1, d2, d3] }
  | _ => none }
def journalMatchesReferenceRow : OpenClaim := { program := "ythmeobfdmeepbaa", sum := "f64caa938b32d4bdfc1c11c3765593da699f88dfb7c43cff3ae4cb70551df72e", func := "syllabary/syllabarylaw25.JournalMatchesReference", spec := "journalMatchesReference", inPlace := ["internal/bytealg.IndexByte"], apart := false }
def JournalMatchesReferenceSaid : Prop := journalMatchesReferenceRow.holds Try.pinned (OpenSpec.ofChange journalMatchesReferenceSpec)

/-- ITS FALSE NEIGHBOUR: 'it returns false'. Refute it at one input. -/
def journalMatchesReferenceWrong : ChangeSpec := { name := "journalMatchesReference", fn := fun _ => fun
  | [d1, d2, d3] => { results := [.lit (.bool false)], args := [d1, d2, d3] }
  | _ => none }
def JournalMatchesReferenceWrongFalsely : Prop := journalMatchesReferenceRow.holds Try.pinned (OpenSpec.ofChange journalMatchesReferenceWrong)

/-- 'syllabarylaw25.JournalReads': WHATEVER THE INPUT: true; the input reads as it did. -/
def journalReadsSpec : ChangeSpec := { name := "journalReads", fn := fun _ => fun
  | [d] => { results := [.lit (.bool true)], args := [d] }
  | _ => none }
def journalReadsRow : OpenClaim := { program := "ythmeobfdmeepbaa", sum := "f64caa938b32d4bdfc1c11c3765593da699f88dfb7c43cff3ae4cb70551df72e", func := "syllabary/syllabarylaw25.JournalReads", spec := "journalReads", inPlace := ["internal/bytealg.IndexByte"], apart := false }
def JournalReadsSaid : Prop := journalReadsRow.holds Try.pinned (OpenSpec.ofChange journalReadsSpec)

/-- ITS FALSE NEIGHBOUR: 'it returns false'. Refute it at one input. -/
def journalReadsWrong : ChangeSpec := { name := "journalReads", fn := fun _ => fun
  | [d] => { results := [.lit (.bool false)], args := [d] }
  | _ => none }
def JournalReadsWrongFalsely : Prop := journalReadsRow.holds Try.pinned (OpenSpec.ofChange journalReadsWrong)

/-- 'syllabarylaw25.JournalTorn': WHATEVER THE INPUT: true; the input reads as it did. -/
def journalTornSpec : ChangeSpec := { name := "journalTorn", fn := fun _ => fun
  | [d1, d2] => { results := [.lit (.bool true)], args := [d1, d2] }
  | _ => none }
def journalTornRow : OpenClaim := { program := "ythmeobfdmeepbaa", sum := "f64caa938b32d4bdfc1c11c3765593da699f88dfb7c43cff3ae4cb70551df72e", func := "syllabary/syllabarylaw25.JournalTorn", spec := "journalTorn", inPlace := ["internal/bytealg.IndexByte"], apart := false }
def JournalTornSaid : Prop := journalTornRow.holds Try.pinned (OpenSpec.ofChange journalTornSpec)

/-- ITS FALSE NEIGHBOUR: 'it returns false'. Refute it at one input. -/
def journalTornWrong : ChangeSpec := { name := "journalTorn", fn := fun _ => fun
  | [d1, d2] => { results := [.lit (.bool false)], args := [d1, d2] }
  | _ => none }
def JournalTornWrongFalsely : Prop := journalTornRow.holds Try.pinned (OpenSpec.ofChange journalTornWrong)

/-- 'syllabarylaw25.JournalDamage': WHATEVER THE INPUT: true; the input reads as it did. -/
def journalDamageSpec : ChangeSpec := { name := "journalDamage", fn := fun _ => fun
  | [d1, d2, d3] => { results := [.lit (.bool true)], args := [d1, d2, d3] }
  | _ => none }
def journalDamageRow : OpenClaim := { program := "ythmeobfdmeepbaa", sum := "f64caa938b32d4bdfc1c11c3765593da699f88dfb7c43cff3ae4cb70551df72e", func := "syllabary/syllabarylaw25.JournalDamage", spec := "journalDamage", inPlace := ["internal/bytealg.IndexByte"], apart := false }
def JournalDamageSaid : Prop := journalDamageRow.holds Try.pinned (OpenSpec.ofChange journalDamageSpec)

/-- ITS FALSE NEIGHBOUR: 'it returns false'. Refute it at one input. -/
def journalDamageWrong : ChangeSpec := { name := "journalDamage", fn := fun _ => fun
  | [d1, d2, d3] => { results := [.lit (.bool false)], args := [d1, d2, d3] }
  | _ => none }
def JournalDamageWrongFalsely : Prop := journalDamageRow.holds Try.pinned (OpenSpec.ofChange journalDamageWrong)

/-- 'syllabarylaw25.JournalRepairs': WHATEVER THE INPUT: true; the input reads as it did. -/
def journalRepairsSpec : ChangeSpec := { name := "journalRepairs", fn := fun _ => fun
  | [d1, d2, d3] => { results := [.lit (.bool true)], args := [d1, d2, d3] }
  | _ => none }
def journalRepairsRow : OpenClaim := { program := "ythmeobfdmeepbaa", sum := "f64caa938b32d4bdfc1c11c3765593da699f88dfb7c43cff3ae4cb70551df72e", func := "syllabary/syllabarylaw25.JournalRepairs", spec := "journalRepairs", inPlace := ["internal/bytealg.IndexByte"], apart := false }
def JournalRepairsSaid : Prop := journalRepairsRow.holds Try.pinned (OpenSpec.ofChange journalRepairsSpec)

/-- ITS FALSE NEIGHBOUR: 'it returns false'. Refute it at one input. -/
def journalRepairsWrong : ChangeSpec := { name := "journalRepairs", fn := fun _ => fun
  | [d1, d2, d3] => { results := [.lit (.bool false)], args := [d1, d2, d3] }
  | _ => none }
def JournalRepairsWrongFalsely : Prop := journalRepairsRow.holds Try.pinned (OpenSpec.ofChange journalRepairsWrong)

/-- 'syllabarylaw25.JournalJoins': WHATEVER THE INPUT: true; the input reads as it did. -/
def journalJoinsSpec : ChangeSpec := { name := "journalJoins", fn := fun _ => fun
  | [d1, d2, d3] => { results := [.lit (.bool true)], args := [d1, d2, d3] }
  | _ => none }
def journalJoinsRow : OpenClaim := { program := "ythmeobfdmeepbaa", sum := "f64caa938b32d4bdfc1c11c3765593da699f88dfb7c43cff3ae4cb70551df72e", func := "syllabary/syllabarylaw25.JournalJoins", spec := "journalJoins", inPlace := ["internal/bytealg.IndexByte"], apart := false }
def JournalJoinsSaid : Prop := journalJoinsRow.holds Try.pinned (OpenSpec.ofChange journalJoinsSpec)

/-- ITS FALSE NEIGHBOUR: 'it returns false'. Refute it at one input. -/
def journalJoinsWrong : ChangeSpec := { name := "journalJoins", fn := fun _ => fun
  | [d1, d2, d3] => { results := [.lit (.bool false)], args := [d1, d2, d3] }
  | _ => none }
def JournalJoinsWrongFalsely : Prop := journalJoinsRow.holds Try.pinned (OpenSpec.ofChange journalJoinsWrong)

/-- 'syllabarylaw25.JournalLimits': WHATEVER THE INPUT: true; the input reads as it did. -/
def journalLimitsSpec : ChangeSpec := { name := "journalLimits", fn := fun _ => fun
  | [d1, d2] => { results := [.lit (.bool true)], args := [d1, d2] }
  | _ => none }
def journalLimitsRow : OpenClaim := { program := "ythmeobfdmeepbaa", sum := "f64caa938b32d4bdfc1c11c3765593da699f88dfb7c43cff3ae4cb70551df72e", func := "syllabary/syllabarylaw25.JournalLimits", spec := "journalLimits", inPlace := ["internal/bytealg.IndexByte"], apart := false }
def JournalLimitsSaid : Prop := journalLimitsRow.holds Try.pinned (OpenSpec.ofChange journalLimitsSpec)

/-- ITS FALSE NEIGHBOUR: 'it returns false'. Refute it at one input. -/
def journalLimitsWrong : ChangeSpec := { name := "journalLimits", fn := fun _ => fun
  | [d1, d2] => { results := [.lit (.bool false)], args := [d1, d2] }
  | _ => none }
def JournalLimitsWrongFalsely : Prop := journalLimitsRow.holds Try.pinned (OpenSpec.ofChange journalLimitsWrong)

/- THE SECOND FORM. 'bulk': how many values and letters a reading holds, each counted each time it is reached (what is shared counts as often as it is met; a slice's spare places count too). A statement '..UptoSaid' is the law's where the arguments, and the package variables that the reading takes, are together of bulk at most 1048576: NARROWER than '..Said'. Prove '..Said' where nothing that the law and all that it calls make is longer than what came in: it says more and counts as full. Else prove '..UptoSaid'. A law counts once. -/
mutual
def uptoBulk {H : Type} : DataW H → Nat
  | .lit (.string bytes) => bytes.length + 1
  | .lit _ => 1
  | .nil => 1
  | .ptr d => uptoBulk d + 1
  | .slice elems spare => uptoBulkAll elems + uptoBulkAll spare + 1
  | .agg parts => uptoBulkAll parts + 1
  | .iface _ d => uptoBulk d + 1
  | .map entries => uptoBulkEntries entries + 1
  | .held _ => 1
def uptoBulkAll {H : Type} : List (DataW H) → Nat
  | [] => 0
  | d :: r => uptoBulk d + uptoBulkAll r
def uptoBulkEntries {H : Type} : List (Lit × DataW H) → Nat
  | [] => 0
  | x :: r => uptoBulkEntry x + uptoBulkEntries r
def uptoBulkEntry {H : Type} : Lit × DataW H → Nat
  | (.string bytes, d) => bytes.length + uptoBulk d + 1
  | (_, d) => uptoBulk d + 1
 end
def uptoSmall : (H : Type) → List (DataW H) → Bool := fun _ ds => decide (uptoBulkAll ds ≤ 1048576)
def OpenSpec.upto (s : _root_.Go.ChangeSpec) : _root_.Go.OpenSpec := { _root_.Go.OpenSpec.ofChange s with cond := some uptoSmall }

/-- 'syllabarylaw25.JournalMatchesReference', WHERE WHAT IT READS IS OF BULK AT MOST 1048576: true; the input reads as it did. -/
def journalMatchesReferenceUptoRow : OpenClaim := { program := "ythmeobfdmeepbaa", sum := "f64caa938b32d4bdfc1c11c3765593da699f88dfb7c43cff3ae4cb70551df72e", func := "syllabary/syllabarylaw25.JournalMatchesReference", spec := "journalMatchesReference", inPlace := ["internal/bytealg.IndexByte"], apart := false, narrowed := true }
def JournalMatchesReferenceUptoSaid : Prop := journalMatchesReferenceUptoRow.holds Try.pinned (OpenSpec.upto journalMatchesReferenceSpec)

/-- 'syllabarylaw25.JournalReads', WHERE WHAT IT READS IS OF BULK AT MOST 1048576: true; the input reads as it did. -/
def journalReadsUptoRow : OpenClaim := { program := "ythmeobfdmeepbaa", sum := "f64caa938b32d4bdfc1c11c3765593da699f88dfb7c43cff3ae4cb70551df72e", func := "syllabary/syllabarylaw25.JournalReads", spec := "journalReads", inPlace := ["internal/bytealg.IndexByte"], apart := false, narrowed := true }
def JournalReadsUptoSaid : Prop := journalReadsUptoRow.holds Try.pinned (OpenSpec.upto journalReadsSpec)

/-- 'syllabarylaw25.JournalTorn', WHERE WHAT IT READS IS OF BULK AT MOST 1048576: true; the input reads as it did. -/
def journalTornUptoRow : OpenClaim := { program := "ythmeobfdmeepbaa", sum := "f64caa938b32d4bdfc1c11c3765593da699f88dfb7c43cff3ae4cb70551df72e", func := "syllabary/syllabarylaw25.JournalTorn", spec := "journalTorn", inPlace := ["internal/bytealg.IndexByte"], apart := false, narrowed := true }
def JournalTornUptoSaid : Prop := journalTornUptoRow.holds Try.pinned (OpenSpec.upto journalTornSpec)

/-- 'syllabarylaw25.JournalDamage', WHERE WHAT IT READS IS OF BULK AT MOST 1048576: true; the input reads as it did. -/
def journalDamageUptoRow : OpenClaim := { program := "ythmeobfdmeepbaa", sum := "f64caa938b32d4bdfc1c11c3765593da699f88dfb7c43cff3ae4cb70551df72e", func := "syllabary/syllabarylaw25.JournalDamage", spec := "journalDamage", inPlace := ["internal/bytealg.IndexByte"], apart := false, narrowed := true }
def JournalDamageUptoSaid : Prop := journalDamageUptoRow.holds Try.pinned (OpenSpec.upto journalDamageSpec)

/-- 'syllabarylaw25.JournalRepairs', WHERE WHAT IT READS IS OF BULK AT MOST 1048576: true; the input reads as it did. -/
def journalRepairsUptoRow : OpenClaim := { program := "ythmeobfdmeepbaa", sum := "f64caa938b32d4bdfc1c11c3765593da699f88dfb7c43cff3ae4cb70551df72e", func := "syllabary/syllabarylaw25.JournalRepairs", spec := "journalRepairs", inPlace := ["internal/bytealg.IndexByte"], apart := false, narrowed := true }
def JournalRepairsUptoSaid : Prop := journalRepairsUptoRow.holds Try.pinned (OpenSpec.upto journalRepairsSpec)

/-- 'syllabarylaw25.JournalJoins', WHERE WHAT IT READS IS OF BULK AT MOST 1048576: true; the input reads as it did. -/
def journalJoinsUptoRow : OpenClaim := { program := "ythmeobfdmeepbaa", sum := "f64caa938b32d4bdfc1c11c3765593da699f88dfb7c43cff3ae4cb70551df72e", func := "syllabary/syllabarylaw25.JournalJoins", spec := "journalJoins", inPlace := ["internal/bytealg.IndexByte"], apart := false, narrowed := true }
def JournalJoinsUptoSaid : Prop := journalJoinsUptoRow.holds Try.pinned (OpenSpec.upto journalJoinsSpec)

/-- 'syllabarylaw25.JournalLimits', WHERE WHAT IT READS IS OF BULK AT MOST 1048576: true; the input reads as it did. -/
def journalLimitsUptoRow : OpenClaim := { program := "ythmeobfdmeepbaa", sum := "f64caa938b32d4bdfc1c11c3765593da699f88dfb7c43cff3ae4cb70551df72e", func := "syllabary/syllabarylaw25.JournalLimits", spec := "journalLimits", inPlace := ["internal/bytealg.IndexByte"], apart := false, narrowed := true }
def JournalLimitsUptoSaid : Prop := journalLimitsUptoRow.holds Try.pinned (OpenSpec.upto journalLimitsSpec)

end Rows
end Go.Proofs.Ythmeobfdmeepbaa
