/-
  DERIVED. GIVEN WITH THE SEED: THE CARDS: each row of YtfednihcpihlgaaGreatDoorRows.lean that lists a variable, with what it lists TIED to the program's text (the seventh form; the later family's looks); each row that meets fmt, with fmt's text TOLD by the authors' own Lean function (tested against real Go, not proved from fmt's source: count such statements apart). THE CARD IS WHAT COUNTS. Prove the row's statement (the work); the ties are given (YtfednihcpihlgaaGreatDoorTie.lean); close each card by the builder's one call (the guide's Derived/Test/ToyasCard.lean, 'card_holds'). Laid BY PROGRAM, IN A SANDBOX (cutbox-door.mjs). By AI agents, Wed Nov 11 2026. No macro, syntax, notation, axiom, sorry.
-/
import Derived.Test.YtfednihcpihlgaaGreatDoorRows
import GoSem.ClaimSeven
namespace Go.Proofs.YtfednihcpihlgaaGreatDoor
namespace Rows

/-- THE TIED CARD OF 'armaturelaw25.BruteModels'. -/
def bruteModelsCard : Claim7 := { stood := { row := bruteModelsRow, standIns := [], harness := (true, "d0a7141ef7ca3c49d104e067030ee016426d034dfebcb74517ee2ba4d78f85c6"), looks := true }, kinds := [], alts := [], laidByText := true, laidKinds := [.data, .data, .data], laidTests := true, laidLooks := .later }
def BruteModelsCardSaid : Prop := Claim7.holds Tryz.pinned (.plain (OpenSpec.ofChange bruteModelsSpec)) bruteModelsCard

/-- THE TIED CARD OF 'armaturelaw25.BruteConjunction'. -/
def bruteConjunctionCard : Claim7 := { stood := { row := bruteConjunctionRow, standIns := [], harness := (true, "d0a7141ef7ca3c49d104e067030ee016426d034dfebcb74517ee2ba4d78f85c6"), looks := true }, kinds := [], alts := [], laidByText := true, laidKinds := [.data, .data, .data], laidTests := true, laidLooks := .later }
def BruteConjunctionCardSaid : Prop := Claim7.holds Tryz.pinned (.plain (OpenSpec.ofChange bruteConjunctionSpec)) bruteConjunctionCard

/-- THE TIED CARD OF 'armaturelaw25.BruteBounds'. -/
def bruteBoundsCard : Claim7 := { stood := { row := bruteBoundsRow, standIns := [], harness := (true, "d0a7141ef7ca3c49d104e067030ee016426d034dfebcb74517ee2ba4d78f85c6"), looks := true }, kinds := [], alts := [], laidByText := true, laidKinds := [.data, .data, .data], laidTests := true, laidLooks := .later }
def BruteBoundsCardSaid : Prop := Claim7.holds Tryz.pinned (.plain (OpenSpec.ofChange bruteBoundsSpec)) bruteBoundsCard

/-- THE SECOND FORM's CARD OF 'armaturelaw25.BruteModels'. -/
def bruteModelsUptoCard : Claim7 := { stood := { row := bruteModelsUptoRow, standIns := [], harness := (true, "d0a7141ef7ca3c49d104e067030ee016426d034dfebcb74517ee2ba4d78f85c6"), looks := true }, kinds := [], alts := [], laidByText := true, laidKinds := [.data, .data, .data], laidTests := true, laidLooks := .later }
def BruteModelsUptoCardSaid : Prop := Claim7.holds Tryz.pinned (.plain (OpenSpec.upto bruteModelsSpec)) bruteModelsUptoCard

/-- THE SECOND FORM's CARD OF 'armaturelaw25.BruteConjunction'. -/
def bruteConjunctionUptoCard : Claim7 := { stood := { row := bruteConjunctionUptoRow, standIns := [], harness := (true, "d0a7141ef7ca3c49d104e067030ee016426d034dfebcb74517ee2ba4d78f85c6"), looks := true }, kinds := [], alts := [], laidByText := true, laidKinds := [.data, .data, .data], laidTests := true, laidLooks := .later }
def BruteConjunctionUptoCardSaid : Prop := Claim7.holds Tryz.pinned (.plain (OpenSpec.upto bruteConjunctionSpec)) bruteConjunctionUptoCard

/-- THE SECOND FORM's CARD OF 'armaturelaw25.BruteBounds'. -/
def bruteBoundsUptoCard : Claim7 := { stood := { row := bruteBoundsUptoRow, standIns := [], harness := (true, "d0a7141ef7ca3c49d104e067030ee016426d034dfebcb74517ee2ba4d78f85c6"), looks := true }, kinds := [], alts := [], laidByText := true, laidKinds := [.data, .data, .data], laidTests := true, laidLooks := .later }
def BruteBoundsUptoCardSaid : Prop := Claim7.holds Tryz.pinned (.plain (OpenSpec.upto bruteBoundsSpec)) bruteBoundsUptoCard
end Rows
end Go.Proofs.YtfednihcpihlgaaGreatDoor
