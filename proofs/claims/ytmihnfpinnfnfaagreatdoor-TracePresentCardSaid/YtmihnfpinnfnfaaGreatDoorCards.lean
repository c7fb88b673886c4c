/-
  DERIVED. GIVEN WITH THE SEED: THE CARDS: each row of YtmihnfpinnfnfaaGreatDoorRows.lean that lists a variable, with what it lists TIED to the program's text (the seventh form; the later family's looks); each row that meets fmt, with fmt's text TOLD by the authors' own Lean function (tested against real Go, not proved from fmt's source: count such statements apart). THE CARD IS WHAT COUNTS. Prove the row's statement (the work); the ties are given (YtmihnfpinnfnfaaGreatDoorTie.lean); close each card by the builder's one call (the guide's Derived/Test/ToyasCard.lean, 'card_holds'). Laid BY PROGRAM, IN A SANDBOX (cutbox-door.mjs). By AI agents, Wed Nov 11 2026. No macro, syntax, notation, axiom, sorry.
-/
import Derived.Test.YtmihnfpinnfnfaaGreatDoorRows
import GoSem.ClaimSeven
namespace Go.Proofs.YtmihnfpinnfnfaaGreatDoor
namespace Rows

/-- THE TIED CARD OF 'pandectlaw43.TracePresent'. -/
def tracePresentCard : Claim7 := { stood := { row := tracePresentRow, standIns := [], harness := (true, "7ed140a2b864ffeafcb0b891a9690a209787c14a3715aee5ea8ece22edf565c1"), looks := false }, kinds := [], alts := [], laidByText := true, laidKinds := [.data, .data, .data, .data, .data, .widerDeep, .funcs, .pinned], laidTests := true, laidLooks := .later }
def TracePresentCardSaid : Prop := Claim7.holds Tryz.pinned (.plain (OpenSpec.ofChange tracePresentSpec)) tracePresentCard

/-- THE SECOND FORM's CARD OF 'pandectlaw43.TracePresent'. -/
def tracePresentUptoCard : Claim7 := { stood := { row := tracePresentUptoRow, standIns := [], harness := (true, "7ed140a2b864ffeafcb0b891a9690a209787c14a3715aee5ea8ece22edf565c1"), looks := false }, kinds := [], alts := [], laidByText := true, laidKinds := [.data, .data, .data, .data, .data, .widerDeep, .funcs, .pinned], laidTests := true, laidLooks := .later }
def TracePresentUptoCardSaid : Prop := Claim7.holds Tryz.pinned (.plain (OpenSpec.upto tracePresentSpec)) tracePresentUptoCard
end Rows
end Go.Proofs.YtmihnfpinnfnfaaGreatDoor
