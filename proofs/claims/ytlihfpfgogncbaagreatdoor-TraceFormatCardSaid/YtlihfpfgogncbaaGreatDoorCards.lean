/-
  DERIVED. GIVEN WITH THE SEED: THE CARDS: each row of YtlihfpfgogncbaaGreatDoorRows.lean that lists a variable, with what it lists TIED to the program's text (the seventh form; the later family's looks); each row that meets fmt, with fmt's text TOLD by the authors' own Lean function (tested against real Go, not proved from fmt's source: count such statements apart). THE CARD IS WHAT COUNTS. Prove the row's statement (the work); the ties are given (YtlihfpfgogncbaaGreatDoorTie.lean); close each card by the builder's one call (the guide's Derived/Test/ToyasCard.lean, 'card_holds'). Laid BY PROGRAM, IN A SANDBOX (cutbox-door.mjs). By AI agents, Wed Nov 11 2026. No macro, syntax, notation, axiom, sorry.
-/
import Derived.Test.YtlihfpfgogncbaaGreatDoorRows
import GoSem.ClaimSeven
namespace Go.Proofs.YtlihfpfgogncbaaGreatDoor
namespace Rows

/-- THE TIED CARD OF 'pandectlaw43.TraceFormat'. -/
def traceFormatCard : Claim7 := { stood := { row := traceFormatRow, standIns := [], harness := (true, "f6d8f9f1aecdc0840d69e34856450b978567df995a54cc8a6b0d42a259fdd40c"), looks := false }, kinds := [], alts := [], laidByText := true, laidKinds := [.data, .data, .data, .data, .data, .widerDeep, .funcs, .pinned], laidTests := true, laidLooks := .later }
def TraceFormatCardSaid : Prop := Claim7.holds Tryz.pinned (.plain (OpenSpec.ofChange traceFormatSpec)) traceFormatCard

/-- THE SECOND FORM's CARD OF 'pandectlaw43.TraceFormat'. -/
def traceFormatUptoCard : Claim7 := { stood := { row := traceFormatUptoRow, standIns := [], harness := (true, "f6d8f9f1aecdc0840d69e34856450b978567df995a54cc8a6b0d42a259fdd40c"), looks := false }, kinds := [], alts := [], laidByText := true, laidKinds := [.data, .data, .data, .data, .data, .widerDeep, .funcs, .pinned], laidTests := true, laidLooks := .later }
def TraceFormatUptoCardSaid : Prop := Claim7.holds Tryz.pinned (.plain (OpenSpec.upto traceFormatSpec)) traceFormatUptoCard
end Rows
end Go.Proofs.YtlihfpfgogncbaaGreatDoor
