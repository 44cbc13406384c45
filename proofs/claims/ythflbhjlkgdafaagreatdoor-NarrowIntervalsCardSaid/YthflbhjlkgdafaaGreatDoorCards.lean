/-
  DERIVED. GIVEN WITH THE SEED: THE CARDS: each row of YthflbhjlkgdafaaGreatDoorRows.lean that lists a variable, with what it lists TIED to the program's text (the seventh form; the later family's looks); each row that meets fmt, with fmt's text TOLD by the authors' own Lean function (tested against real Go, not proved from fmt's source: count such statements apart). THE CARD IS WHAT COUNTS. Prove the row's statement (the work); the ties are given (YthflbhjlkgdafaaGreatDoorTie.lean); close each card by the builder's one call (the guide's Derived/Test/ToyasCard.lean, 'card_holds'). Laid BY PROGRAM, IN A SANDBOX (cutbox-door.mjs). By AI agents, Wed Nov 11 2026. No macro, syntax, notation, axiom, sorry.
-/
import Derived.Test.YthflbhjlkgdafaaGreatDoorRows
import GoSem.ClaimSeven
namespace Go.Proofs.YthflbhjlkgdafaaGreatDoor
namespace Rows

/-- THE TIED CARD OF 'armaturelaw10.NarrowIntervals'. -/
def narrowIntervalsCard : Claim7 := { stood := { row := narrowIntervalsRow, standIns := [], harness := (true, "fce7fcd8ab49a882f558782c1a545849715c4f9b90f7a2e0f69fd069adfb51d1"), looks := true }, kinds := [], alts := [], laidByText := true, laidKinds := [.data, .data, .data], laidTests := true, laidLooks := .later }
def NarrowIntervalsCardSaid : Prop := Claim7.holds Tryz.pinned (.plain (OpenSpec.ofChange narrowIntervalsSpec)) narrowIntervalsCard

/-- THE TIED CARD OF 'armaturelaw10.NarrowConjuncts'. -/
def narrowConjunctsCard : Claim7 := { stood := { row := narrowConjunctsRow, standIns := [], harness := (true, "fce7fcd8ab49a882f558782c1a545849715c4f9b90f7a2e0f69fd069adfb51d1"), looks := true }, kinds := [], alts := [], laidByText := true, laidKinds := [.data, .data, .data], laidTests := true, laidLooks := .later }
def NarrowConjunctsCardSaid : Prop := Claim7.holds Tryz.pinned (.plain (OpenSpec.ofChange narrowConjunctsSpec)) narrowConjunctsCard

/-- THE TIED CARD OF 'armaturelaw10.NarrowSound'. -/
def narrowSoundCard : Claim7 := { stood := { row := narrowSoundRow, standIns := [], harness := (true, "fce7fcd8ab49a882f558782c1a545849715c4f9b90f7a2e0f69fd069adfb51d1"), looks := true }, kinds := [], alts := [], laidByText := true, laidKinds := [.data, .data, .data], laidTests := true, laidLooks := .later }
def NarrowSoundCardSaid : Prop := Claim7.holds Tryz.pinned (.plain (OpenSpec.ofChange narrowSoundSpec)) narrowSoundCard

/-- THE SECOND FORM's CARD OF 'armaturelaw10.NarrowIntervals'. -/
def narrowIntervalsUptoCard : Claim7 := { stood := { row := narrowIntervalsUptoRow, standIns := [], harness := (true, "fce7fcd8ab49a882f558782c1a545849715c4f9b90f7a2e0f69fd069adfb51d1"), looks := true }, kinds := [], alts := [], laidByText := true, laidKinds := [.data, .data, .data], laidTests := true, laidLooks := .later }
def NarrowIntervalsUptoCardSaid : Prop := Claim7.holds Tryz.pinned (.plain (OpenSpec.upto narrowIntervalsSpec)) narrowIntervalsUptoCard

/-- THE SECOND FORM's CARD OF 'armaturelaw10.NarrowConjuncts'. -/
def narrowConjunctsUptoCard : Claim7 := { stood := { row := narrowConjunctsUptoRow, standIns := [], harness := (true, "fce7fcd8ab49a882f558782c1a545849715c4f9b90f7a2e0f69fd069adfb51d1"), looks := true }, kinds := [], alts := [], laidByText := true, laidKinds := [.data, .data, .data], laidTests := true, laidLooks := .later }
def NarrowConjunctsUptoCardSaid : Prop := Claim7.holds Tryz.pinned (.plain (OpenSpec.upto narrowConjunctsSpec)) narrowConjunctsUptoCard

/-- THE SECOND FORM's CARD OF 'armaturelaw10.NarrowSound'. -/
def narrowSoundUptoCard : Claim7 := { stood := { row := narrowSoundUptoRow, standIns := [], harness := (true, "fce7fcd8ab49a882f558782c1a545849715c4f9b90f7a2e0f69fd069adfb51d1"), looks := true }, kinds := [], alts := [], laidByText := true, laidKinds := [.data, .data, .data], laidTests := true, laidLooks := .later }
def NarrowSoundUptoCardSaid : Prop := Claim7.holds Tryz.pinned (.plain (OpenSpec.upto narrowSoundSpec)) narrowSoundUptoCard
end Rows
end Go.Proofs.YthflbhjlkgdafaaGreatDoor
