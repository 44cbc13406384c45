/-
  DERIVED. GIVEN WITH THE SEED: THE CARDS: each row of YthkdjhkmlmjkbaaGreatDoorRows.lean that lists a variable, with what it lists TIED to the program's text (the seventh form; the later family's looks); each row that meets fmt, with fmt's text TOLD by the authors' own Lean function (tested against real Go, not proved from fmt's source: count such statements apart). THE CARD IS WHAT COUNTS. Prove the row's statement (the work); the ties are given (YthkdjhkmlmjkbaaGreatDoorTie.lean); close each card by the builder's one call (the guide's Derived/Test/ToyasCard.lean, 'card_holds'). Laid BY PROGRAM, IN A SANDBOX (cutbox-door.mjs). By AI agents, Wed Nov 11 2026. No macro, syntax, notation, axiom, sorry.
-/
import Derived.Test.YthkdjhkmlmjkbaaGreatDoorRows
import GoSem.ClaimSeven
namespace Go.Proofs.YthkdjhkmlmjkbaaGreatDoor
namespace Rows

/-- THE TIED CARD OF 'armaturetop.TopDiffDistance'. -/
def topDiffDistanceCard : Claim7 := { stood := { row := topDiffDistanceRow, standIns := [], harness := (true, "4519e52442cf6c7a25f5359dc4d46a5105d9691e8a8523250a68182af80a7024"), looks := true }, kinds := [], alts := [], laidByText := true, laidKinds := [.data, .data, .data], laidTests := true, laidLooks := .later }
def TopDiffDistanceCardSaid : Prop := Claim7.holds Tryz.pinned (.plain (OpenSpec.ofChange topDiffDistanceSpec)) topDiffDistanceCard

/-- THE TIED CARD OF 'armaturelaw33.RepairEdits'. -/
def repairEditsCard : Claim7 := { stood := { row := repairEditsRow, standIns := [], harness := (true, "4519e52442cf6c7a25f5359dc4d46a5105d9691e8a8523250a68182af80a7024"), looks := true }, kinds := [], alts := [], laidByText := true, laidKinds := [.data, .data, .data], laidTests := true, laidLooks := .later }
def RepairEditsCardSaid : Prop := Claim7.holds Tryz.pinned (.plain (OpenSpec.ofChange repairEditsSpec)) repairEditsCard

/-- THE TIED CARD OF 'armaturelaw33.RepairComposes'. -/
def repairComposesCard : Claim7 := { stood := { row := repairComposesRow, standIns := [], harness := (true, "4519e52442cf6c7a25f5359dc4d46a5105d9691e8a8523250a68182af80a7024"), looks := true }, kinds := [], alts := [], laidByText := true, laidKinds := [.data, .data, .data], laidTests := true, laidLooks := .later }
def RepairComposesCardSaid : Prop := Claim7.holds Tryz.pinned (.plain (OpenSpec.ofChange repairComposesSpec)) repairComposesCard

/-- THE TIED CARD OF 'armaturelaw33.RepairDiff'. -/
def repairDiffCard : Claim7 := { stood := { row := repairDiffRow, standIns := [], harness := (true, "4519e52442cf6c7a25f5359dc4d46a5105d9691e8a8523250a68182af80a7024"), looks := true }, kinds := [], alts := [], laidByText := true, laidKinds := [.data, .data, .data], laidTests := true, laidLooks := .later }
def RepairDiffCardSaid : Prop := Claim7.holds Tryz.pinned (.plain (OpenSpec.ofChange repairDiffSpec)) repairDiffCard

/-- THE TIED CARD OF 'armaturelaw33.RepairUndo'. -/
def repairUndoCard : Claim7 := { stood := { row := repairUndoRow, standIns := [], harness := (true, "4519e52442cf6c7a25f5359dc4d46a5105d9691e8a8523250a68182af80a7024"), looks := true }, kinds := [], alts := [], laidByText := true, laidKinds := [.data, .data, .data], laidTests := true, laidLooks := .later }
def RepairUndoCardSaid : Prop := Claim7.holds Tryz.pinned (.plain (OpenSpec.ofChange repairUndoSpec)) repairUndoCard

/-- THE SECOND FORM's CARD OF 'armaturetop.TopDiffDistance'. -/
def topDiffDistanceUptoCard : Claim7 := { stood := { row := topDiffDistanceUptoRow, standIns := [], harness := (true, "4519e52442cf6c7a25f5359dc4d46a5105d9691e8a8523250a68182af80a7024"), looks := true }, kinds := [], alts := [], laidByText := true, laidKinds := [.data, .data, .data], laidTests := true, laidLooks := .later }
def TopDiffDistanceUptoCardSaid : Prop := Claim7.holds Tryz.pinned (.plain (OpenSpec.upto topDiffDistanceSpec)) topDiffDistanceUptoCard

/-- THE SECOND FORM's CARD OF 'armaturelaw33.RepairEdits'. -/
def repairEditsUptoCard : Claim7 := { stood := { row := repairEditsUptoRow, standIns := [], harness := (true, "4519e52442cf6c7a25f5359dc4d46a5105d9691e8a8523250a68182af80a7024"), looks := true }, kinds := [], alts := [], laidByText := true, laidKinds := [.data, .data, .data], laidTests := true, laidLooks := .later }
def RepairEditsUptoCardSaid : Prop := Claim7.holds Tryz.pinned (.plain (OpenSpec.upto repairEditsSpec)) repairEditsUptoCard

/-- THE SECOND FORM's CARD OF 'armaturelaw33.RepairComposes'. -/
def repairComposesUptoCard : Claim7 := { stood := { row := repairComposesUptoRow, standIns := [], harness := (true, "4519e52442cf6c7a25f5359dc4d46a5105d9691e8a8523250a68182af80a7024"), looks := true }, kinds := [], alts := [], laidByText := true, laidKinds := [.data, .data, .data], laidTests := true, laidLooks := .later }
def RepairComposesUptoCardSaid : Prop := Claim7.holds Tryz.pinned (.plain (OpenSpec.upto repairComposesSpec)) repairComposesUptoCard

/-- THE SECOND FORM's CARD OF 'armaturelaw33.RepairDiff'. -/
def repairDiffUptoCard : Claim7 := { stood := { row := repairDiffUptoRow, standIns := [], harness := (true, "4519e52442cf6c7a25f5359dc4d46a5105d9691e8a8523250a68182af80a7024"), looks := true }, kinds := [], alts := [], laidByText := true, laidKinds := [.data, .data, .data], laidTests := true, laidLooks := .later }
def RepairDiffUptoCardSaid : Prop := Claim7.holds Tryz.pinned (.plain (OpenSpec.upto repairDiffSpec)) repairDiffUptoCard

/-- THE SECOND FORM's CARD OF 'armaturelaw33.RepairUndo'. -/
def repairUndoUptoCard : Claim7 := { stood := { row := repairUndoUptoRow, standIns := [], harness := (true, "4519e52442cf6c7a25f5359dc4d46a5105d9691e8a8523250a68182af80a7024"), looks := true }, kinds := [], alts := [], laidByText := true, laidKinds := [.data, .data, .data], laidTests := true, laidLooks := .later }
def RepairUndoUptoCardSaid : Prop := Claim7.holds Tryz.pinned (.plain (OpenSpec.upto repairUndoSpec)) repairUndoUptoCard
end Rows
end Go.Proofs.YthkdjhkmlmjkbaaGreatDoor
