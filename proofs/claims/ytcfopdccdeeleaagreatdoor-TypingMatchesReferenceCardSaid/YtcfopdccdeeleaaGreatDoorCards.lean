/-
  DERIVED. GIVEN WITH THE SEED: THE CARDS: each row of YtcfopdccdeeleaaGreatDoorRows.lean that lists a variable, with what it lists TIED to the program's text (the seventh form; the later family's looks); each row that meets fmt, with fmt's text TOLD by the authors' own Lean function (tested against real Go, not proved from fmt's source: count such statements apart). THE CARD IS WHAT COUNTS. Prove the row's statement (the work); the ties are given (YtcfopdccdeeleaaGreatDoorTie.lean); close each card by the builder's one call (the guide's Derived/Test/ToyasCard.lean, 'card_holds'). Laid BY PROGRAM, IN A SANDBOX (cutbox-door.mjs). By AI agents, Wed Nov 11 2026. No macro, syntax, notation, axiom, sorry.
-/
import Derived.Test.YtcfopdccdeeleaaGreatDoorRows
import GoSem.ClaimSeven
namespace Go.Proofs.YtcfopdccdeeleaaGreatDoor
namespace Rows

/-- THE TIED CARD OF 'armaturelaw04.TypingMatchesReference'. -/
def typingMatchesReferenceCard : Claim7 := { stood := { row := typingMatchesReferenceRow, standIns := [], harness := (true, "40cbdc13a9846a638c449d3d27a5a7afaf83a43f9e4c847a6ad804470124d811"), looks := true }, kinds := [], alts := [], laidByText := true, laidKinds := [.data, .data, .data], laidTests := true, laidLooks := .later }
def TypingMatchesReferenceCardSaid : Prop := Claim7.holds Tryz.pinned (.plain (OpenSpec.ofChange typingMatchesReferenceSpec)) typingMatchesReferenceCard

/-- THE TIED CARD OF 'armaturelaw04.TypingTypesAreSorted'. -/
def typingTypesAreSortedCard : Claim7 := { stood := { row := typingTypesAreSortedRow, standIns := [], harness := (true, "40cbdc13a9846a638c449d3d27a5a7afaf83a43f9e4c847a6ad804470124d811"), looks := true }, kinds := [], alts := [], laidByText := true, laidKinds := [.data, .data, .data], laidTests := true, laidLooks := .later }
def TypingTypesAreSortedCardSaid : Prop := Claim7.holds Tryz.pinned (.plain (OpenSpec.ofChange typingTypesAreSortedSpec)) typingTypesAreSortedCard

/-- THE TIED CARD OF 'armaturelaw04.TypingRenaming'. -/
def typingRenamingCard : Claim7 := { stood := { row := typingRenamingRow, standIns := [], harness := (true, "40cbdc13a9846a638c449d3d27a5a7afaf83a43f9e4c847a6ad804470124d811"), looks := true }, kinds := [], alts := [], laidByText := true, laidKinds := [.data, .data, .data], laidTests := true, laidLooks := .later }
def TypingRenamingCardSaid : Prop := Claim7.holds Tryz.pinned (.plain (OpenSpec.ofChange typingRenamingSpec)) typingRenamingCard

/-- THE TIED CARD OF 'armaturelaw04.TypingUnusedVariables'. -/
def typingUnusedVariablesCard : Claim7 := { stood := { row := typingUnusedVariablesRow, standIns := [], harness := (true, "40cbdc13a9846a638c449d3d27a5a7afaf83a43f9e4c847a6ad804470124d811"), looks := true }, kinds := [], alts := [], laidByText := true, laidKinds := [.data, .data, .data], laidTests := true, laidLooks := .later }
def TypingUnusedVariablesCardSaid : Prop := Claim7.holds Tryz.pinned (.plain (OpenSpec.ofChange typingUnusedVariablesSpec)) typingUnusedVariablesCard

/-- THE TIED CARD OF 'armaturelaw04.TypingConnectives'. -/
def typingConnectivesCard : Claim7 := { stood := { row := typingConnectivesRow, standIns := [], harness := (true, "40cbdc13a9846a638c449d3d27a5a7afaf83a43f9e4c847a6ad804470124d811"), looks := true }, kinds := [], alts := [], laidByText := true, laidKinds := [.data, .data, .data], laidTests := true, laidLooks := .later }
def TypingConnectivesCardSaid : Prop := Claim7.holds Tryz.pinned (.plain (OpenSpec.ofChange typingConnectivesSpec)) typingConnectivesCard

/-- THE TIED CARD OF 'armaturelaw04.TypingInlineResult'. -/
def typingInlineResultCard : Claim7 := { stood := { row := typingInlineResultRow, standIns := [], harness := (true, "40cbdc13a9846a638c449d3d27a5a7afaf83a43f9e4c847a6ad804470124d811"), looks := true }, kinds := [], alts := [], laidByText := true, laidKinds := [.data, .data, .data], laidTests := true, laidLooks := .later }
def TypingInlineResultCardSaid : Prop := Claim7.holds Tryz.pinned (.plain (OpenSpec.ofChange typingInlineResultSpec)) typingInlineResultCard

/-- THE TIED CARD OF 'armaturelaw04.TypingMonotone'. -/
def typingMonotoneCard : Claim7 := { stood := { row := typingMonotoneRow, standIns := [], harness := (true, "40cbdc13a9846a638c449d3d27a5a7afaf83a43f9e4c847a6ad804470124d811"), looks := true }, kinds := [], alts := [], laidByText := true, laidKinds := [.data, .data, .data], laidTests := true, laidLooks := .later }
def TypingMonotoneCardSaid : Prop := Claim7.holds Tryz.pinned (.plain (OpenSpec.ofChange typingMonotoneSpec)) typingMonotoneCard

/-- THE TIED CARD OF 'armaturelaw04.TypingFacts'. -/
def typingFactsCard : Claim7 := { stood := { row := typingFactsRow, standIns := [], harness := (true, "40cbdc13a9846a638c449d3d27a5a7afaf83a43f9e4c847a6ad804470124d811"), looks := true }, kinds := [], alts := [], laidByText := true, laidKinds := [.data, .data, .data], laidTests := true, laidLooks := .later }
def TypingFactsCardSaid : Prop := Claim7.holds Tryz.pinned (.plain (OpenSpec.ofChange typingFactsSpec)) typingFactsCard

/-- THE SECOND FORM's CARD OF 'armaturelaw04.TypingMatchesReference'. -/
def typingMatchesReferenceUptoCard : Claim7 := { stood := { row := typingMatchesReferenceUptoRow, standIns := [], harness := (true, "40cbdc13a9846a638c449d3d27a5a7afaf83a43f9e4c847a6ad804470124d811"), looks := true }, kinds := [], alts := [], laidByText := true, laidKinds := [.data, .data, .data], laidTests := true, laidLooks := .later }
def TypingMatchesReferenceUptoCardSaid : Prop := Claim7.holds Tryz.pinned (.plain (OpenSpec.upto typingMatchesReferenceSpec)) typingMatchesReferenceUptoCard

/-- THE SECOND FORM's CARD OF 'armaturelaw04.TypingTypesAreSorted'. -/
def typingTypesAreSortedUptoCard : Claim7 := { stood := { row := typingTypesAreSortedUptoRow, standIns := [], harness := (true, "40cbdc13a9846a638c449d3d27a5a7afaf83a43f9e4c847a6ad804470124d811"), looks := true }, kinds := [], alts := [], laidByText := true, laidKinds := [.data, .data, .data], laidTests := true, laidLooks := .later }
def TypingTypesAreSortedUptoCardSaid : Prop := Claim7.holds Tryz.pinned (.plain (OpenSpec.upto typingTypesAreSortedSpec)) typingTypesAreSortedUptoCard

/-- THE SECOND FORM's CARD OF 'armaturelaw04.TypingRenaming'. -/
def typingRenamingUptoCard : Claim7 := { stood := { row := typingRenamingUptoRow, standIns := [], harness := (true, "40cbdc13a9846a638c449d3d27a5a7afaf83a43f9e4c847a6ad804470124d811"), looks := true }, kinds := [], alts := [], laidByText := true, laidKinds := [.data, .data, .data], laidTests := true, laidLooks := .later }
def TypingRenamingUptoCardSaid : Prop := Claim7.holds Tryz.pinned (.plain (OpenSpec.upto typingRenamingSpec)) typingRenamingUptoCard

/-- THE SECOND FORM's CARD OF 'armaturelaw04.TypingUnusedVariables'. -/
def typingUnusedVariablesUptoCard : Claim7 := { stood := { row := typingUnusedVariablesUptoRow, standIns := [], harness := (true, "40cbdc13a9846a638c449d3d27a5a7afaf83a43f9e4c847a6ad804470124d811"), looks := true }, kinds := [], alts := [], laidByText := true, laidKinds := [.data, .data, .data], laidTests := true, laidLooks := .later }
def TypingUnusedVariablesUptoCardSaid : Prop := Claim7.holds Tryz.pinned (.plain (OpenSpec.upto typingUnusedVariablesSpec)) typingUnusedVariablesUptoCard

/-- THE SECOND FORM's CARD OF 'armaturelaw04.TypingConnectives'. -/
def typingConnectivesUptoCard : Claim7 := { stood := { row := typingConnectivesUptoRow, standIns := [], harness := (true, "40cbdc13a9846a638c449d3d27a5a7afaf83a43f9e4c847a6ad804470124d811"), looks := true }, kinds := [], alts := [], laidByText := true, laidKinds := [.data, .data, .data], laidTests := true, laidLooks := .later }
def TypingConnectivesUptoCardSaid : Prop := Claim7.holds Tryz.pinned (.plain (OpenSpec.upto typingConnectivesSpec)) typingConnectivesUptoCard

/-- THE SECOND FORM's CARD OF 'armaturelaw04.TypingInlineResult'. -/
def typingInlineResultUptoCard : Claim7 := { stood := { row := typingInlineResultUptoRow, standIns := [], harness := (true, "40cbdc13a9846a638c449d3d27a5a7afaf83a43f9e4c847a6ad804470124d811"), looks := true }, kinds := [], alts := [], laidByText := true, laidKinds := [.data, .data, .data], laidTests := true, laidLooks := .later }
def TypingInlineResultUptoCardSaid : Prop := Claim7.holds Tryz.pinned (.plain (OpenSpec.upto typingInlineResultSpec)) typingInlineResultUptoCard

/-- THE SECOND FORM's CARD OF 'armaturelaw04.TypingMonotone'. -/
def typingMonotoneUptoCard : Claim7 := { stood := { row := typingMonotoneUptoRow, standIns := [], harness := (true, "40cbdc13a9846a638c449d3d27a5a7afaf83a43f9e4c847a6ad804470124d811"), looks := true }, kinds := [], alts := [], laidByText := true, laidKinds := [.data, .data, .data], laidTests := true, laidLooks := .later }
def TypingMonotoneUptoCardSaid : Prop := Claim7.holds Tryz.pinned (.plain (OpenSpec.upto typingMonotoneSpec)) typingMonotoneUptoCard

/-- THE SECOND FORM's CARD OF 'armaturelaw04.TypingFacts'. -/
def typingFactsUptoCard : Claim7 := { stood := { row := typingFactsUptoRow, standIns := [], harness := (true, "40cbdc13a9846a638c449d3d27a5a7afaf83a43f9e4c847a6ad804470124d811"), looks := true }, kinds := [], alts := [], laidByText := true, laidKinds := [.data, .data, .data], laidTests := true, laidLooks := .later }
def TypingFactsUptoCardSaid : Prop := Claim7.holds Tryz.pinned (.plain (OpenSpec.upto typingFactsSpec)) typingFactsUptoCard
end Rows
end Go.Proofs.YtcfopdccdeeleaaGreatDoor
