/-
  DERIVED. GIVEN WITH THE SEED: THE CARDS: each row of YtjmjekcaifkboaaGreatDoorRows.lean that lists a variable, with what it lists TIED to the program's text (the seventh form; the later family's looks); each row that meets fmt, with fmt's text TOLD by the authors' own Lean function (tested against real Go, not proved from fmt's source: count such statements apart). THE CARD IS WHAT COUNTS. Prove the row's statement (the work); the ties are given (YtjmjekcaifkboaaGreatDoorTie.lean); close each card by the builder's one call (the guide's Derived/Test/ToyasCard.lean, 'card_holds'). Laid BY PROGRAM, IN A SANDBOX (cutbox-door.mjs). By AI agents, Wed Nov 11 2026. No macro, syntax, notation, axiom, sorry.
-/
import Derived.Test.YtjmjekcaifkboaaGreatDoorRows
import GoSem.ClaimSeven
namespace Go.Proofs.YtjmjekcaifkboaaGreatDoor
namespace Rows

/-- THE TIED CARD OF 'pandectlaw43.TraceNeverLost'. -/
def traceNeverLostCard : Claim7 := { stood := { row := traceNeverLostRow, standIns := [], harness := (true, "ff68ece0ab4e4e511974beed0bdc3153e8d1bbefd44a606f0024c115732a6f24"), looks := false }, kinds := [], alts := [], laidByText := true, laidKinds := [.data, .data, .data, .data, .data, .widerDeep, .funcs, .pinned], laidTests := true, laidLooks := .later }
def TraceNeverLostCardSaid : Prop := Claim7.holds Tryz.pinned (.plain (OpenSpec.ofChange traceNeverLostSpec)) traceNeverLostCard

/-- THE TIED CARD OF 'pandectlaw43.TraceRemoved'. -/
def traceRemovedCard : Claim7 := { stood := { row := traceRemovedRow, standIns := [], harness := (true, "ff68ece0ab4e4e511974beed0bdc3153e8d1bbefd44a606f0024c115732a6f24"), looks := false }, kinds := [], alts := [], laidByText := true, laidKinds := [.data, .data, .data, .data, .data, .widerDeep, .funcs, .pinned], laidTests := true, laidLooks := .later }
def TraceRemovedCardSaid : Prop := Claim7.holds Tryz.pinned (.plain (OpenSpec.ofChange traceRemovedSpec)) traceRemovedCard

/-- THE SECOND FORM's CARD OF 'pandectlaw43.TraceNeverLost'. -/
def traceNeverLostUptoCard : Claim7 := { stood := { row := traceNeverLostUptoRow, standIns := [], harness := (true, "ff68ece0ab4e4e511974beed0bdc3153e8d1bbefd44a606f0024c115732a6f24"), looks := false }, kinds := [], alts := [], laidByText := true, laidKinds := [.data, .data, .data, .data, .data, .widerDeep, .funcs, .pinned], laidTests := true, laidLooks := .later }
def TraceNeverLostUptoCardSaid : Prop := Claim7.holds Tryz.pinned (.plain (OpenSpec.upto traceNeverLostSpec)) traceNeverLostUptoCard

/-- THE SECOND FORM's CARD OF 'pandectlaw43.TraceRemoved'. -/
def traceRemovedUptoCard : Claim7 := { stood := { row := traceRemovedUptoRow, standIns := [], harness := (true, "ff68ece0ab4e4e511974beed0bdc3153e8d1bbefd44a606f0024c115732a6f24"), looks := false }, kinds := [], alts := [], laidByText := true, laidKinds := [.data, .data, .data, .data, .data, .widerDeep, .funcs, .pinned], laidTests := true, laidLooks := .later }
def TraceRemovedUptoCardSaid : Prop := Claim7.holds Tryz.pinned (.plain (OpenSpec.upto traceRemovedSpec)) traceRemovedUptoCard
end Rows
end Go.Proofs.YtjmjekcaifkboaaGreatDoor
