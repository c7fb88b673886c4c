/-
  DERIVED. GIVEN WITH THE SEED: THE CARDS: each row of YtiipcnbedgamdaaGreatDoorRows.lean that lists a variable, with what it lists TIED to the program's text (the seventh form; the later family's looks); each row that meets fmt, with fmt's text TOLD by the authors' own Lean function (tested against real Go, not proved from fmt's source: count such statements apart). THE CARD IS WHAT COUNTS. Prove the row's statement (the work); the ties are given (YtiipcnbedgamdaaGreatDoorTie.lean); close each card by the builder's one call (the guide's Derived/Test/ToyasCard.lean, 'card_holds'). Laid BY PROGRAM, IN A SANDBOX (cutbox-door.mjs). By AI agents, Wed Nov 11 2026. No macro, syntax, notation, axiom, sorry.
-/
import Derived.Test.YtiipcnbedgamdaaGreatDoorRows
import GoSem.ClaimSeven
namespace Go.Proofs.YtiipcnbedgamdaaGreatDoor
namespace Rows

/-- THE TIED CARD OF 'pandectlaw42.AnchorAuthors'. -/
def anchorAuthorsCard : Claim7 := { stood := { row := anchorAuthorsRow, standIns := [], harness := (true, "ff0543f23797b61b04bdeda805f6acc27899155d8cc61d14b8f7a56b1f514c5f"), looks := false }, kinds := [], alts := [], laidByText := true, laidKinds := [.data, .data, .widerDeep, .funcs, .pinned], laidTests := true, laidLooks := .later }
def AnchorAuthorsCardSaid : Prop := Claim7.holds Tryz.pinned (.plain (OpenSpec.ofChange anchorAuthorsSpec)) anchorAuthorsCard

/-- THE SECOND FORM's CARD OF 'pandectlaw42.AnchorAuthors'. -/
def anchorAuthorsUptoCard : Claim7 := { stood := { row := anchorAuthorsUptoRow, standIns := [], harness := (true, "ff0543f23797b61b04bdeda805f6acc27899155d8cc61d14b8f7a56b1f514c5f"), looks := false }, kinds := [], alts := [], laidByText := true, laidKinds := [.data, .data, .widerDeep, .funcs, .pinned], laidTests := true, laidLooks := .later }
def AnchorAuthorsUptoCardSaid : Prop := Claim7.holds Tryz.pinned (.plain (OpenSpec.upto anchorAuthorsSpec)) anchorAuthorsUptoCard
end Rows
end Go.Proofs.YtiipcnbedgamdaaGreatDoor
