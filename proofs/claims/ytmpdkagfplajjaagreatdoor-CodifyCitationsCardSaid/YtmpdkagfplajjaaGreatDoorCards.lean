/-
  DERIVED. GIVEN WITH THE SEED: THE CARDS: each row of YtmpdkagfplajjaaGreatDoorRows.lean that lists a variable, with what it lists TIED to the program's text (the seventh form; the later family's looks); each row that meets fmt, with fmt's text TOLD by the authors' own Lean function (tested against real Go, not proved from fmt's source: count such statements apart). THE CARD IS WHAT COUNTS. Prove the row's statement (the work); the ties are given (YtmpdkagfplajjaaGreatDoorTie.lean); close each card by the builder's one call (the guide's Derived/Test/ToyasCard.lean, 'card_holds'). Laid BY PROGRAM, IN A SANDBOX (cutbox-door.mjs). By AI agents, Wed Nov 11 2026. No macro, syntax, notation, axiom, sorry.
-/
import Derived.Test.YtmpdkagfplajjaaGreatDoorRows
import GoSem.ClaimSeven
namespace Go.Proofs.YtmpdkagfplajjaaGreatDoor
namespace Rows

/-- THE TIED CARD OF 'pandectlaw46.CodifyValidation'. -/
def codifyValidationCard : Claim7 := { stood := { row := codifyValidationRow, standIns := [], harness := (true, "2386ac59eca4601797d5f3a0793bc1c5e007c8d368edfa11eb76113b4379a9ad"), looks := true }, kinds := [], alts := [], laidByText := true, laidKinds := [.data, .data, .data, .data, .sentinel, .sentinel, .data, .widerDeep, .funcs, .pinned], laidTests := true, laidLooks := .later }
def CodifyValidationCardSaid : Prop := Claim7.holds Tryz.pinned (.plain (OpenSpec.ofChange codifyValidationSpec)) codifyValidationCard

/-- THE TIED CARD OF 'pandectlaw46.CodifyRewrites'. -/
def codifyRewritesCard : Claim7 := { stood := { row := codifyRewritesRow, standIns := [], harness := (true, "2386ac59eca4601797d5f3a0793bc1c5e007c8d368edfa11eb76113b4379a9ad"), looks := true }, kinds := [], alts := [], laidByText := true, laidKinds := [.data, .data, .data, .data, .sentinel, .sentinel, .data, .widerDeep, .funcs, .pinned], laidTests := true, laidLooks := .later }
def CodifyRewritesCardSaid : Prop := Claim7.holds Tryz.pinned (.plain (OpenSpec.ofChange codifyRewritesSpec)) codifyRewritesCard

/-- THE TIED CARD OF 'pandectlaw46.CodifyActs'. -/
def codifyActsCard : Claim7 := { stood := { row := codifyActsRow, standIns := [], harness := (true, "2386ac59eca4601797d5f3a0793bc1c5e007c8d368edfa11eb76113b4379a9ad"), looks := true }, kinds := [], alts := [], laidByText := true, laidKinds := [.data, .data, .data, .data, .sentinel, .sentinel, .data, .widerDeep, .funcs, .pinned], laidTests := true, laidLooks := .later }
def CodifyActsCardSaid : Prop := Claim7.holds Tryz.pinned (.plain (OpenSpec.ofChange codifyActsSpec)) codifyActsCard

/-- THE TIED CARD OF 'pandectlaw46.CodifyEnacts'. -/
def codifyEnactsCard : Claim7 := { stood := { row := codifyEnactsRow, standIns := [], harness := (true, "2386ac59eca4601797d5f3a0793bc1c5e007c8d368edfa11eb76113b4379a9ad"), looks := true }, kinds := [], alts := [], laidByText := true, laidKinds := [.data, .data, .data, .data, .sentinel, .sentinel, .data, .widerDeep, .funcs, .pinned], laidTests := true, laidLooks := .later }
def CodifyEnactsCardSaid : Prop := Claim7.holds Tryz.pinned (.plain (OpenSpec.ofChange codifyEnactsSpec)) codifyEnactsCard

/-- THE TIED CARD OF 'pandectlaw46.CodifyDestinations'. -/
def codifyDestinationsCard : Claim7 := { stood := { row := codifyDestinationsRow, standIns := [], harness := (true, "2386ac59eca4601797d5f3a0793bc1c5e007c8d368edfa11eb76113b4379a9ad"), looks := true }, kinds := [], alts := [], laidByText := true, laidKinds := [.data, .data, .data, .data, .sentinel, .sentinel, .data, .widerDeep, .funcs, .pinned], laidTests := true, laidLooks := .later }
def CodifyDestinationsCardSaid : Prop := Claim7.holds Tryz.pinned (.plain (OpenSpec.ofChange codifyDestinationsSpec)) codifyDestinationsCard

/-- THE TIED CARD OF 'pandectlaw46.CodifyDefaultPlan'. -/
def codifyDefaultPlanCard : Claim7 := { stood := { row := codifyDefaultPlanRow, standIns := [], harness := (true, "2386ac59eca4601797d5f3a0793bc1c5e007c8d368edfa11eb76113b4379a9ad"), looks := true }, kinds := [], alts := [], laidByText := true, laidKinds := [.data, .data, .data, .data, .sentinel, .sentinel, .data, .widerDeep, .funcs, .pinned], laidTests := true, laidLooks := .later }
def CodifyDefaultPlanCardSaid : Prop := Claim7.holds Tryz.pinned (.plain (OpenSpec.ofChange codifyDefaultPlanSpec)) codifyDefaultPlanCard

/-- THE TIED CARD OF 'pandectlaw46.CodifyCitations'. -/
def codifyCitationsCard : Claim7 := { stood := { row := codifyCitationsRow, standIns := [], harness := (true, "2386ac59eca4601797d5f3a0793bc1c5e007c8d368edfa11eb76113b4379a9ad"), looks := true }, kinds := [], alts := [], laidByText := true, laidKinds := [.data, .data, .data, .data, .sentinel, .sentinel, .data, .widerDeep, .funcs, .pinned], laidTests := true, laidLooks := .later }
def CodifyCitationsCardSaid : Prop := Claim7.holds Tryz.pinned (.plain (OpenSpec.ofChange codifyCitationsSpec)) codifyCitationsCard

/-- THE SECOND FORM's CARD OF 'pandectlaw46.CodifyValidation'. -/
def codifyValidationUptoCard : Claim7 := { stood := { row := codifyValidationUptoRow, standIns := [], harness := (true, "2386ac59eca4601797d5f3a0793bc1c5e007c8d368edfa11eb76113b4379a9ad"), looks := true }, kinds := [], alts := [], laidByText := true, laidKinds := [.data, .data, .data, .data, .sentinel, .sentinel, .data, .widerDeep, .funcs, .pinned], laidTests := true, laidLooks := .later }
def CodifyValidationUptoCardSaid : Prop := Claim7.holds Tryz.pinned (.plain (OpenSpec.upto codifyValidationSpec)) codifyValidationUptoCard

/-- THE SECOND FORM's CARD OF 'pandectlaw46.CodifyRewrites'. -/
def codifyRewritesUptoCard : Claim7 := { stood := { row := codifyRewritesUptoRow, standIns := [], harness := (true, "2386ac59eca4601797d5f3a0793bc1c5e007c8d368edfa11eb76113b4379a9ad"), looks := true }, kinds := [], alts := [], laidByText := true, laidKinds := [.data, .data, .data, .data, .sentinel, .sentinel, .data, .widerDeep, .funcs, .pinned], laidTests := true, laidLooks := .later }
def CodifyRewritesUptoCardSaid : Prop := Claim7.holds Tryz.pinned (.plain (OpenSpec.upto codifyRewritesSpec)) codifyRewritesUptoCard

/-- THE SECOND FORM's CARD OF 'pandectlaw46.CodifyActs'. -/
def codifyActsUptoCard : Claim7 := { stood := { row := codifyActsUptoRow, standIns := [], harness := (true, "2386ac59eca4601797d5f3a0793bc1c5e007c8d368edfa11eb76113b4379a9ad"), looks := true }, kinds := [], alts := [], laidByText := true, laidKinds := [.data, .data, .data, .data, .sentinel, .sentinel, .data, .widerDeep, .funcs, .pinned], laidTests := true, laidLooks := .later }
def CodifyActsUptoCardSaid : Prop := Claim7.holds Tryz.pinned (.plain (OpenSpec.upto codifyActsSpec)) codifyActsUptoCard

/-- THE SECOND FORM's CARD OF 'pandectlaw46.CodifyEnacts'. -/
def codifyEnactsUptoCard : Claim7 := { stood := { row := codifyEnactsUptoRow, standIns := [], harness := (true, "2386ac59eca4601797d5f3a0793bc1c5e007c8d368edfa11eb76113b4379a9ad"), looks := true }, kinds := [], alts := [], laidByText := true, laidKinds := [.data, .data, .data, .data, .sentinel, .sentinel, .data, .widerDeep, .funcs, .pinned], laidTests := true, laidLooks := .later }
def CodifyEnactsUptoCardSaid : Prop := Claim7.holds Tryz.pinned (.plain (OpenSpec.upto codifyEnactsSpec)) codifyEnactsUptoCard

/-- THE SECOND FORM's CARD OF 'pandectlaw46.CodifyDestinations'. -/
def codifyDestinationsUptoCard : Claim7 := { stood := { row := codifyDestinationsUptoRow, standIns := [], harness := (true, "2386ac59eca4601797d5f3a0793bc1c5e007c8d368edfa11eb76113b4379a9ad"), looks := true }, kinds := [], alts := [], laidByText := true, laidKinds := [.data, .data, .data, .data, .sentinel, .sentinel, .data, .widerDeep, .funcs, .pinned], laidTests := true, laidLooks := .later }
def CodifyDestinationsUptoCardSaid : Prop := Claim7.holds Tryz.pinned (.plain (OpenSpec.upto codifyDestinationsSpec)) codifyDestinationsUptoCard

/-- THE SECOND FORM's CARD OF 'pandectlaw46.CodifyDefaultPlan'. -/
def codifyDefaultPlanUptoCard : Claim7 := { stood := { row := codifyDefaultPlanUptoRow, standIns := [], harness := (true, "2386ac59eca4601797d5f3a0793bc1c5e007c8d368edfa11eb76113b4379a9ad"), looks := true }, kinds := [], alts := [], laidByText := true, laidKinds := [.data, .data, .data, .data, .sentinel, .sentinel, .data, .widerDeep, .funcs, .pinned], laidTests := true, laidLooks := .later }
def CodifyDefaultPlanUptoCardSaid : Prop := Claim7.holds Tryz.pinned (.plain (OpenSpec.upto codifyDefaultPlanSpec)) codifyDefaultPlanUptoCard

/-- THE SECOND FORM's CARD OF 'pandectlaw46.CodifyCitations'. -/
def codifyCitationsUptoCard : Claim7 := { stood := { row := codifyCitationsUptoRow, standIns := [], harness := (true, "2386ac59eca4601797d5f3a0793bc1c5e007c8d368edfa11eb76113b4379a9ad"), looks := true }, kinds := [], alts := [], laidByText := true, laidKinds := [.data, .data, .data, .data, .sentinel, .sentinel, .data, .widerDeep, .funcs, .pinned], laidTests := true, laidLooks := .later }
def CodifyCitationsUptoCardSaid : Prop := Claim7.holds Tryz.pinned (.plain (OpenSpec.upto codifyCitationsSpec)) codifyCitationsUptoCard
end Rows
end Go.Proofs.YtmpdkagfplajjaaGreatDoor
