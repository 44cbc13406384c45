/-
  DERIVED. GIVEN WITH THE SEED: THE CARDS: each row of YtlnbdknjkmmgbaaGreatDoorRows.lean that lists a variable, with what it lists TIED to the program's text (the seventh form; the later family's looks); each row that meets fmt, with fmt's text TOLD by the authors' own Lean function (tested against real Go, not proved from fmt's source: count such statements apart). THE CARD IS WHAT COUNTS. Prove the row's statement (the work); the ties are given (YtlnbdknjkmmgbaaGreatDoorTie.lean); close each card by the builder's one call (the guide's Derived/Test/ToyasCard.lean, 'card_holds'). Laid BY PROGRAM, IN A SANDBOX (cutbox-door.mjs). By AI agents, Wed Nov 11 2026. No macro, syntax, notation, axiom, sorry.
-/
import Derived.Test.YtlnbdknjkmmgbaaGreatDoorRows
import GoSem.ClaimSeven
namespace Go.Proofs.YtlnbdknjkmmgbaaGreatDoor
namespace Rows

/-- THE TIED CARD OF 'armaturelaw10.NarrowMatchesReference'. -/
def narrowMatchesReferenceCard : Claim7 := { stood := { row := narrowMatchesReferenceRow, standIns := [], harness := (true, "e74759a34abab90f5338648c23fc83ddca6a057db2994f63fc7879947551c7ba"), looks := true }, kinds := [], alts := [], laidByText := true, laidKinds := [.data, .data, .data], laidTests := true, laidLooks := .later }
def NarrowMatchesReferenceCardSaid : Prop := Claim7.holds Tryz.pinned (.plain (OpenSpec.ofChange narrowMatchesReferenceSpec)) narrowMatchesReferenceCard

/-- THE TIED CARD OF 'armaturelaw10.NarrowFixedPoint'. -/
def narrowFixedPointCard : Claim7 := { stood := { row := narrowFixedPointRow, standIns := [], harness := (true, "e74759a34abab90f5338648c23fc83ddca6a057db2994f63fc7879947551c7ba"), looks := true }, kinds := [], alts := [], laidByText := true, laidKinds := [.data, .data, .data], laidTests := true, laidLooks := .later }
def NarrowFixedPointCardSaid : Prop := Claim7.holds Tryz.pinned (.plain (OpenSpec.ofChange narrowFixedPointSpec)) narrowFixedPointCard

/-- THE TIED CARD OF 'armaturelaw10.NarrowMonotone'. -/
def narrowMonotoneCard : Claim7 := { stood := { row := narrowMonotoneRow, standIns := [], harness := (true, "e74759a34abab90f5338648c23fc83ddca6a057db2994f63fc7879947551c7ba"), looks := true }, kinds := [], alts := [], laidByText := true, laidKinds := [.data, .data, .data], laidTests := true, laidLooks := .later }
def NarrowMonotoneCardSaid : Prop := Claim7.holds Tryz.pinned (.plain (OpenSpec.ofChange narrowMonotoneSpec)) narrowMonotoneCard

/-- THE SECOND FORM's CARD OF 'armaturelaw10.NarrowMatchesReference'. -/
def narrowMatchesReferenceUptoCard : Claim7 := { stood := { row := narrowMatchesReferenceUptoRow, standIns := [], harness := (true, "e74759a34abab90f5338648c23fc83ddca6a057db2994f63fc7879947551c7ba"), looks := true }, kinds := [], alts := [], laidByText := true, laidKinds := [.data, .data, .data], laidTests := true, laidLooks := .later }
def NarrowMatchesReferenceUptoCardSaid : Prop := Claim7.holds Tryz.pinned (.plain (OpenSpec.upto narrowMatchesReferenceSpec)) narrowMatchesReferenceUptoCard

/-- THE SECOND FORM's CARD OF 'armaturelaw10.NarrowFixedPoint'. -/
def narrowFixedPointUptoCard : Claim7 := { stood := { row := narrowFixedPointUptoRow, standIns := [], harness := (true, "e74759a34abab90f5338648c23fc83ddca6a057db2994f63fc7879947551c7ba"), looks := true }, kinds := [], alts := [], laidByText := true, laidKinds := [.data, .data, .data], laidTests := true, laidLooks := .later }
def NarrowFixedPointUptoCardSaid : Prop := Claim7.holds Tryz.pinned (.plain (OpenSpec.upto narrowFixedPointSpec)) narrowFixedPointUptoCard

/-- THE SECOND FORM's CARD OF 'armaturelaw10.NarrowMonotone'. -/
def narrowMonotoneUptoCard : Claim7 := { stood := { row := narrowMonotoneUptoRow, standIns := [], harness := (true, "e74759a34abab90f5338648c23fc83ddca6a057db2994f63fc7879947551c7ba"), looks := true }, kinds := [], alts := [], laidByText := true, laidKinds := [.data, .data, .data], laidTests := true, laidLooks := .later }
def NarrowMonotoneUptoCardSaid : Prop := Claim7.holds Tryz.pinned (.plain (OpenSpec.upto narrowMonotoneSpec)) narrowMonotoneUptoCard
end Rows
end Go.Proofs.YtlnbdknjkmmgbaaGreatDoor
