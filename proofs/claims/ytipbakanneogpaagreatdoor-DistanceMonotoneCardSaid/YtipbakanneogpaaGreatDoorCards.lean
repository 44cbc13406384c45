/-
  DERIVED. GIVEN WITH THE SEED: THE CARDS: each row of YtipbakanneogpaaGreatDoorRows.lean that lists a variable, with what it lists TIED to the program's text (the seventh form; the later family's looks); each row that meets fmt, with fmt's text TOLD by the authors' own Lean function (tested against real Go, not proved from fmt's source: count such statements apart). THE CARD IS WHAT COUNTS. Prove the row's statement (the work); the ties are given (YtipbakanneogpaaGreatDoorTie.lean); close each card by the builder's one call (the guide's Derived/Test/ToyasCard.lean, 'card_holds'). Laid BY PROGRAM, IN A SANDBOX (cutbox-door.mjs). By AI agents, Wed Nov 11 2026. No macro, syntax, notation, axiom, sorry.
-/
import Derived.Test.YtipbakanneogpaaGreatDoorRows
import GoSem.ClaimSeven
namespace Go.Proofs.YtipbakanneogpaaGreatDoor
namespace Rows

/-- THE TIED CARD OF 'armaturelaw29.DistanceNearest'. -/
def distanceNearestCard : Claim7 := { stood := { row := distanceNearestRow, standIns := [], harness := (true, "6d56fcdda9a8f6eed0d81ff1dbc44f7b717adace3abf74ea1c64bb471ff0308e"), looks := true }, kinds := [], alts := [], laidByText := true, laidKinds := [.data, .data, .data], laidTests := true, laidLooks := .later }
def DistanceNearestCardSaid : Prop := Claim7.holds Tryz.pinned (.plain (OpenSpec.ofChange distanceNearestSpec)) distanceNearestCard

/-- THE TIED CARD OF 'armaturelaw29.DistanceExtremes'. -/
def distanceExtremesCard : Claim7 := { stood := { row := distanceExtremesRow, standIns := [], harness := (true, "6d56fcdda9a8f6eed0d81ff1dbc44f7b717adace3abf74ea1c64bb471ff0308e"), looks := true }, kinds := [], alts := [], laidByText := true, laidKinds := [.data, .data, .data], laidTests := true, laidLooks := .later }
def DistanceExtremesCardSaid : Prop := Claim7.holds Tryz.pinned (.plain (OpenSpec.ofChange distanceExtremesSpec)) distanceExtremesCard

/-- THE TIED CARD OF 'armaturelaw29.DistanceMonotone'. -/
def distanceMonotoneCard : Claim7 := { stood := { row := distanceMonotoneRow, standIns := [], harness := (true, "6d56fcdda9a8f6eed0d81ff1dbc44f7b717adace3abf74ea1c64bb471ff0308e"), looks := true }, kinds := [], alts := [], laidByText := true, laidKinds := [.data, .data, .data], laidTests := true, laidLooks := .later }
def DistanceMonotoneCardSaid : Prop := Claim7.holds Tryz.pinned (.plain (OpenSpec.ofChange distanceMonotoneSpec)) distanceMonotoneCard

/-- THE SECOND FORM's CARD OF 'armaturelaw29.DistanceNearest'. -/
def distanceNearestUptoCard : Claim7 := { stood := { row := distanceNearestUptoRow, standIns := [], harness := (true, "6d56fcdda9a8f6eed0d81ff1dbc44f7b717adace3abf74ea1c64bb471ff0308e"), looks := true }, kinds := [], alts := [], laidByText := true, laidKinds := [.data, .data, .data], laidTests := true, laidLooks := .later }
def DistanceNearestUptoCardSaid : Prop := Claim7.holds Tryz.pinned (.plain (OpenSpec.upto distanceNearestSpec)) distanceNearestUptoCard

/-- THE SECOND FORM's CARD OF 'armaturelaw29.DistanceExtremes'. -/
def distanceExtremesUptoCard : Claim7 := { stood := { row := distanceExtremesUptoRow, standIns := [], harness := (true, "6d56fcdda9a8f6eed0d81ff1dbc44f7b717adace3abf74ea1c64bb471ff0308e"), looks := true }, kinds := [], alts := [], laidByText := true, laidKinds := [.data, .data, .data], laidTests := true, laidLooks := .later }
def DistanceExtremesUptoCardSaid : Prop := Claim7.holds Tryz.pinned (.plain (OpenSpec.upto distanceExtremesSpec)) distanceExtremesUptoCard

/-- THE SECOND FORM's CARD OF 'armaturelaw29.DistanceMonotone'. -/
def distanceMonotoneUptoCard : Claim7 := { stood := { row := distanceMonotoneUptoRow, standIns := [], harness := (true, "6d56fcdda9a8f6eed0d81ff1dbc44f7b717adace3abf74ea1c64bb471ff0308e"), looks := true }, kinds := [], alts := [], laidByText := true, laidKinds := [.data, .data, .data], laidTests := true, laidLooks := .later }
def DistanceMonotoneUptoCardSaid : Prop := Claim7.holds Tryz.pinned (.plain (OpenSpec.upto distanceMonotoneSpec)) distanceMonotoneUptoCard
end Rows
end Go.Proofs.YtipbakanneogpaaGreatDoor
