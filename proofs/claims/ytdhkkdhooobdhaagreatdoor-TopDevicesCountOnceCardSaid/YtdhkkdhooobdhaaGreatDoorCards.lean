/-
  DERIVED. GIVEN WITH THE SEED: THE CARDS: each row of YtdhkkdhooobdhaaGreatDoorRows.lean that lists a variable, with what it lists TIED to the program's text (the seventh form; the later family's looks); each row that meets fmt, with fmt's text TOLD by the authors' own Lean function (tested against real Go, not proved from fmt's source: count such statements apart). THE CARD IS WHAT COUNTS. Prove the row's statement (the work); the ties are given (YtdhkkdhooobdhaaGreatDoorTie.lean); close each card by the builder's one call (the guide's Derived/Test/ToyasCard.lean, 'card_holds'). Laid BY PROGRAM, IN A SANDBOX (cutbox-door.mjs). By AI agents, Wed Nov 11 2026. No macro, syntax, notation, axiom, sorry.
-/
import Derived.Test.YtdhkkdhooobdhaaGreatDoorRows
import GoSem.ClaimSeven
namespace Go.Proofs.YtdhkkdhooobdhaaGreatDoor
namespace Rows

/-- THE TIED CARD OF 'syllabarytop.TopDevicesCountOnce'. -/
def topDevicesCountOnceCard : Claim7 := { stood := { row := topDevicesCountOnceRow, standIns := [], harness := (true, "b3e378316ed014e12f60dc971b1328d7e63ad2181359564338ec7997d3a7bc5a"), looks := false }, kinds := [], alts := [], laidByText := true, laidKinds := [.data, .data, .data], laidTests := true, laidLooks := .later }
def TopDevicesCountOnceCardSaid : Prop := Claim7.holds Tryz.pinned (.plain (OpenSpec.ofChange topDevicesCountOnceSpec)) topDevicesCountOnceCard

/-- THE SECOND FORM's CARD OF 'syllabarytop.TopDevicesCountOnce'. -/
def topDevicesCountOnceUptoCard : Claim7 := { stood := { row := topDevicesCountOnceUptoRow, standIns := [], harness := (true, "b3e378316ed014e12f60dc971b1328d7e63ad2181359564338ec7997d3a7bc5a"), looks := false }, kinds := [], alts := [], laidByText := true, laidKinds := [.data, .data, .data], laidTests := true, laidLooks := .later }
def TopDevicesCountOnceUptoCardSaid : Prop := Claim7.holds Tryz.pinned (.plain (OpenSpec.upto topDevicesCountOnceSpec)) topDevicesCountOnceUptoCard
end Rows
end Go.Proofs.YtdhkkdhooobdhaaGreatDoor
