/-
  DERIVED. GIVEN WITH THE SEED: THE CARDS: each row of YtpagnklaanbmbaaGreatDoorRows.lean that lists a variable, with what it lists TIED to the program's text (the seventh form; the later family's looks); each row that meets fmt, with fmt's text TOLD by the authors' own Lean function (tested against real Go, not proved from fmt's source: count such statements apart). THE CARD IS WHAT COUNTS. Prove the row's statement (the work); the ties are given (YtpagnklaanbmbaaGreatDoorTie.lean); close each card by the builder's one call (the guide's Derived/Test/ToyasCard.lean, 'card_holds'). Laid BY PROGRAM, IN A SANDBOX (cutbox-door.mjs). By AI agents, Wed Nov 11 2026. No macro, syntax, notation, axiom, sorry.
-/
import Derived.Test.YtpagnklaanbmbaaGreatDoorRows
import GoSem.ClaimSeven
namespace Go.Proofs.YtpagnklaanbmbaaGreatDoor
namespace Rows

/-- THE TIED CARD OF 'armaturelaw08.EvalHolds'. -/
def evalHoldsCard : Claim7 := { stood := { row := evalHoldsRow, standIns := [], harness := (true, "1a2676f0e17447b42968421c8e856efc95c12b1532f8335980a47d7b590e03a9"), looks := true }, kinds := [], alts := [], laidByText := true, laidKinds := [.data, .data, .data], laidTests := true, laidLooks := .later }
def EvalHoldsCardSaid : Prop := Claim7.holds Tryz.pinned (.plain (OpenSpec.ofChange evalHoldsSpec)) evalHoldsCard

/-- THE TIED CARD OF 'armaturelaw25.BruteOrder'. -/
def bruteOrderCard : Claim7 := { stood := { row := bruteOrderRow, standIns := [], harness := (true, "1a2676f0e17447b42968421c8e856efc95c12b1532f8335980a47d7b590e03a9"), looks := true }, kinds := [], alts := [], laidByText := true, laidKinds := [.data, .data, .data], laidTests := true, laidLooks := .later }
def BruteOrderCardSaid : Prop := Claim7.holds Tryz.pinned (.plain (OpenSpec.ofChange bruteOrderSpec)) bruteOrderCard

/-- THE TIED CARD OF 'armaturelaw25.BruteModels'. -/
def bruteModelsCard : Claim7 := { stood := { row := bruteModelsRow, standIns := [], harness := (true, "1a2676f0e17447b42968421c8e856efc95c12b1532f8335980a47d7b590e03a9"), looks := true }, kinds := [], alts := [], laidByText := true, laidKinds := [.data, .data, .data], laidTests := true, laidLooks := .later }
def BruteModelsCardSaid : Prop := Claim7.holds Tryz.pinned (.plain (OpenSpec.ofChange bruteModelsSpec)) bruteModelsCard

/-- THE TIED CARD OF 'armaturelaw25.BruteConjunction'. -/
def bruteConjunctionCard : Claim7 := { stood := { row := bruteConjunctionRow, standIns := [], harness := (true, "1a2676f0e17447b42968421c8e856efc95c12b1532f8335980a47d7b590e03a9"), looks := true }, kinds := [], alts := [], laidByText := true, laidKinds := [.data, .data, .data], laidTests := true, laidLooks := .later }
def BruteConjunctionCardSaid : Prop := Claim7.holds Tryz.pinned (.plain (OpenSpec.ofChange bruteConjunctionSpec)) bruteConjunctionCard

/-- THE TIED CARD OF 'armaturelaw25.BruteBounds'. -/
def bruteBoundsCard : Claim7 := { stood := { row := bruteBoundsRow, standIns := [], harness := (true, "1a2676f0e17447b42968421c8e856efc95c12b1532f8335980a47d7b590e03a9"), looks := true }, kinds := [], alts := [], laidByText := true, laidKinds := [.data, .data, .data], laidTests := true, laidLooks := .later }
def BruteBoundsCardSaid : Prop := Claim7.holds Tryz.pinned (.plain (OpenSpec.ofChange bruteBoundsSpec)) bruteBoundsCard

/-- THE TIED CARD OF 'armaturelaw25.BruteSymmetry'. -/
def bruteSymmetryCard : Claim7 := { stood := { row := bruteSymmetryRow, standIns := [], harness := (true, "1a2676f0e17447b42968421c8e856efc95c12b1532f8335980a47d7b590e03a9"), looks := true }, kinds := [], alts := [], laidByText := true, laidKinds := [.data, .data, .data], laidTests := true, laidLooks := .later }
def BruteSymmetryCardSaid : Prop := Claim7.holds Tryz.pinned (.plain (OpenSpec.ofChange bruteSymmetrySpec)) bruteSymmetryCard

/-- THE TIED CARD OF 'armaturelaw25.BruteInstances'. -/
def bruteInstancesCard : Claim7 := { stood := { row := bruteInstancesRow, standIns := [], harness := (true, "1a2676f0e17447b42968421c8e856efc95c12b1532f8335980a47d7b590e03a9"), looks := true }, kinds := [], alts := [], laidByText := true, laidKinds := [.data, .data, .data], laidTests := true, laidLooks := .later }
def BruteInstancesCardSaid : Prop := Claim7.holds Tryz.pinned (.plain (OpenSpec.ofChange bruteInstancesSpec)) bruteInstancesCard

/-- THE TIED CARD OF 'armaturelaw29.DistanceNearest'. -/
def distanceNearestCard : Claim7 := { stood := { row := distanceNearestRow, standIns := [], harness := (true, "1a2676f0e17447b42968421c8e856efc95c12b1532f8335980a47d7b590e03a9"), looks := true }, kinds := [], alts := [], laidByText := true, laidKinds := [.data, .data, .data], laidTests := true, laidLooks := .later }
def DistanceNearestCardSaid : Prop := Claim7.holds Tryz.pinned (.plain (OpenSpec.ofChange distanceNearestSpec)) distanceNearestCard

/-- THE TIED CARD OF 'armaturelaw29.DistanceExtremes'. -/
def distanceExtremesCard : Claim7 := { stood := { row := distanceExtremesRow, standIns := [], harness := (true, "1a2676f0e17447b42968421c8e856efc95c12b1532f8335980a47d7b590e03a9"), looks := true }, kinds := [], alts := [], laidByText := true, laidKinds := [.data, .data, .data], laidTests := true, laidLooks := .later }
def DistanceExtremesCardSaid : Prop := Claim7.holds Tryz.pinned (.plain (OpenSpec.ofChange distanceExtremesSpec)) distanceExtremesCard

/-- THE TIED CARD OF 'armaturelaw29.DistanceMonotone'. -/
def distanceMonotoneCard : Claim7 := { stood := { row := distanceMonotoneRow, standIns := [], harness := (true, "1a2676f0e17447b42968421c8e856efc95c12b1532f8335980a47d7b590e03a9"), looks := true }, kinds := [], alts := [], laidByText := true, laidKinds := [.data, .data, .data], laidTests := true, laidLooks := .later }
def DistanceMonotoneCardSaid : Prop := Claim7.holds Tryz.pinned (.plain (OpenSpec.ofChange distanceMonotoneSpec)) distanceMonotoneCard

/-- THE TIED CARD OF 'armaturelaw29.DistanceSymmetry'. -/
def distanceSymmetryCard : Claim7 := { stood := { row := distanceSymmetryRow, standIns := [], harness := (true, "1a2676f0e17447b42968421c8e856efc95c12b1532f8335980a47d7b590e03a9"), looks := true }, kinds := [], alts := [], laidByText := true, laidKinds := [.data, .data, .data], laidTests := true, laidLooks := .later }
def DistanceSymmetryCardSaid : Prop := Claim7.holds Tryz.pinned (.plain (OpenSpec.ofChange distanceSymmetrySpec)) distanceSymmetryCard

/-- THE SECOND FORM's CARD OF 'armaturelaw08.EvalHolds'. -/
def evalHoldsUptoCard : Claim7 := { stood := { row := evalHoldsUptoRow, standIns := [], harness := (true, "1a2676f0e17447b42968421c8e856efc95c12b1532f8335980a47d7b590e03a9"), looks := true }, kinds := [], alts := [], laidByText := true, laidKinds := [.data, .data, .data], laidTests := true, laidLooks := .later }
def EvalHoldsUptoCardSaid : Prop := Claim7.holds Tryz.pinned (.plain (OpenSpec.upto evalHoldsSpec)) evalHoldsUptoCard

/-- THE SECOND FORM's CARD OF 'armaturelaw25.BruteOrder'. -/
def bruteOrderUptoCard : Claim7 := { stood := { row := bruteOrderUptoRow, standIns := [], harness := (true, "1a2676f0e17447b42968421c8e856efc95c12b1532f8335980a47d7b590e03a9"), looks := true }, kinds := [], alts := [], laidByText := true, laidKinds := [.data, .data, .data], laidTests := true, laidLooks := .later }
def BruteOrderUptoCardSaid : Prop := Claim7.holds Tryz.pinned (.plain (OpenSpec.upto bruteOrderSpec)) bruteOrderUptoCard

/-- THE SECOND FORM's CARD OF 'armaturelaw25.BruteModels'. -/
def bruteModelsUptoCard : Claim7 := { stood := { row := bruteModelsUptoRow, standIns := [], harness := (true, "1a2676f0e17447b42968421c8e856efc95c12b1532f8335980a47d7b590e03a9"), looks := true }, kinds := [], alts := [], laidByText := true, laidKinds := [.data, .data, .data], laidTests := true, laidLooks := .later }
def BruteModelsUptoCardSaid : Prop := Claim7.holds Tryz.pinned (.plain (OpenSpec.upto bruteModelsSpec)) bruteModelsUptoCard

/-- THE SECOND FORM's CARD OF 'armaturelaw25.BruteConjunction'. -/
def bruteConjunctionUptoCard : Claim7 := { stood := { row := bruteConjunctionUptoRow, standIns := [], harness := (true, "1a2676f0e17447b42968421c8e856efc95c12b1532f8335980a47d7b590e03a9"), looks := true }, kinds := [], alts := [], laidByText := true, laidKinds := [.data, .data, .data], laidTests := true, laidLooks := .later }
def BruteConjunctionUptoCardSaid : Prop := Claim7.holds Tryz.pinned (.plain (OpenSpec.upto bruteConjunctionSpec)) bruteConjunctionUptoCard

/-- THE SECOND FORM's CARD OF 'armaturelaw25.BruteBounds'. -/
def bruteBoundsUptoCard : Claim7 := { stood := { row := bruteBoundsUptoRow, standIns := [], harness := (true, "1a2676f0e17447b42968421c8e856efc95c12b1532f8335980a47d7b590e03a9"), looks := true }, kinds := [], alts := [], laidByText := true, laidKinds := [.data, .data, .data], laidTests := true, laidLooks := .later }
def BruteBoundsUptoCardSaid : Prop := Claim7.holds Tryz.pinned (.plain (OpenSpec.upto bruteBoundsSpec)) bruteBoundsUptoCard

/-- THE SECOND FORM's CARD OF 'armaturelaw25.BruteSymmetry'. -/
def bruteSymmetryUptoCard : Claim7 := { stood := { row := bruteSymmetryUptoRow, standIns := [], harness := (true, "1a2676f0e17447b42968421c8e856efc95c12b1532f8335980a47d7b590e03a9"), looks := true }, kinds := [], alts := [], laidByText := true, laidKinds := [.data, .data, .data], laidTests := true, laidLooks := .later }
def BruteSymmetryUptoCardSaid : Prop := Claim7.holds Tryz.pinned (.plain (OpenSpec.upto bruteSymmetrySpec)) bruteSymmetryUptoCard

/-- THE SECOND FORM's CARD OF 'armaturelaw25.BruteInstances'. -/
def bruteInstancesUptoCard : Claim7 := { stood := { row := bruteInstancesUptoRow, standIns := [], harness := (true, "1a2676f0e17447b42968421c8e856efc95c12b1532f8335980a47d7b590e03a9"), looks := true }, kinds := [], alts := [], laidByText := true, laidKinds := [.data, .data, .data], laidTests := true, laidLooks := .later }
def BruteInstancesUptoCardSaid : Prop := Claim7.holds Tryz.pinned (.plain (OpenSpec.upto bruteInstancesSpec)) bruteInstancesUptoCard

/-- THE SECOND FORM's CARD OF 'armaturelaw29.DistanceNearest'. -/
def distanceNearestUptoCard : Claim7 := { stood := { row := distanceNearestUptoRow, standIns := [], harness := (true, "1a2676f0e17447b42968421c8e856efc95c12b1532f8335980a47d7b590e03a9"), looks := true }, kinds := [], alts := [], laidByText := true, laidKinds := [.data, .data, .data], laidTests := true, laidLooks := .later }
def DistanceNearestUptoCardSaid : Prop := Claim7.holds Tryz.pinned (.plain (OpenSpec.upto distanceNearestSpec)) distanceNearestUptoCard

/-- THE SECOND FORM's CARD OF 'armaturelaw29.DistanceExtremes'. -/
def distanceExtremesUptoCard : Claim7 := { stood := { row := distanceExtremesUptoRow, standIns := [], harness := (true, "1a2676f0e17447b42968421c8e856efc95c12b1532f8335980a47d7b590e03a9"), looks := true }, kinds := [], alts := [], laidByText := true, laidKinds := [.data, .data, .data], laidTests := true, laidLooks := .later }
def DistanceExtremesUptoCardSaid : Prop := Claim7.holds Tryz.pinned (.plain (OpenSpec.upto distanceExtremesSpec)) distanceExtremesUptoCard

/-- THE SECOND FORM's CARD OF 'armaturelaw29.DistanceMonotone'. -/
def distanceMonotoneUptoCard : Claim7 := { stood := { row := distanceMonotoneUptoRow, standIns := [], harness := (true, "1a2676f0e17447b42968421c8e856efc95c12b1532f8335980a47d7b590e03a9"), looks := true }, kinds := [], alts := [], laidByText := true, laidKinds := [.data, .data, .data], laidTests := true, laidLooks := .later }
def DistanceMonotoneUptoCardSaid : Prop := Claim7.holds Tryz.pinned (.plain (OpenSpec.upto distanceMonotoneSpec)) distanceMonotoneUptoCard

/-- THE SECOND FORM's CARD OF 'armaturelaw29.DistanceSymmetry'. -/
def distanceSymmetryUptoCard : Claim7 := { stood := { row := distanceSymmetryUptoRow, standIns := [], harness := (true, "1a2676f0e17447b42968421c8e856efc95c12b1532f8335980a47d7b590e03a9"), looks := true }, kinds := [], alts := [], laidByText := true, laidKinds := [.data, .data, .data], laidTests := true, laidLooks := .later }
def DistanceSymmetryUptoCardSaid : Prop := Claim7.holds Tryz.pinned (.plain (OpenSpec.upto distanceSymmetrySpec)) distanceSymmetryUptoCard
end Rows
end Go.Proofs.YtpagnklaanbmbaaGreatDoor
