/-
  DERIVED. GIVEN WITH THE SEED: THE CARDS: each row of YtkglmpmlfjogkaaGreatDoorRows.lean that lists a variable, with what it lists TIED to the program's text (the seventh form; the later family's looks); each row that meets fmt, with fmt's text TOLD by the authors' own Lean function (tested against real Go, not proved from fmt's source: count such statements apart). THE CARD IS WHAT COUNTS. Prove the row's statement (the work); the ties are given (YtkglmpmlfjogkaaGreatDoorTie.lean); close each card by the builder's one call (the guide's Derived/Test/ToyasCard.lean, 'card_holds'). Laid BY PROGRAM, IN A SANDBOX (cutbox-door.mjs). By AI agents, Wed Nov 11 2026. No macro, syntax, notation, axiom, sorry.
-/
import Derived.Test.YtkglmpmlfjogkaaGreatDoorRows
import GoSem.ClaimSeven
namespace Go.Proofs.YtkglmpmlfjogkaaGreatDoor
namespace Rows

/-- THE TIED CARD OF 'armaturelaw08.EvalMatchesReference'. -/
def evalMatchesReferenceCard : Claim7 := { stood := { row := evalMatchesReferenceRow, standIns := [], harness := (true, "5fbf5663ab50c5cc799bffbab6649c51b4439a6b44ea6d97a50a7235153630a6"), looks := true }, kinds := [], alts := [], laidByText := true, laidKinds := [.data, .data, .data], laidTests := true, laidLooks := .later }
def EvalMatchesReferenceCardSaid : Prop := Claim7.holds Tryz.pinned (.plain (OpenSpec.ofChange evalMatchesReferenceSpec)) evalMatchesReferenceCard

/-- THE TIED CARD OF 'armaturelaw08.EvalDualities'. -/
def evalDualitiesCard : Claim7 := { stood := { row := evalDualitiesRow, standIns := [], harness := (true, "5fbf5663ab50c5cc799bffbab6649c51b4439a6b44ea6d97a50a7235153630a6"), looks := true }, kinds := [], alts := [], laidByText := true, laidKinds := [.data, .data, .data], laidTests := true, laidLooks := .later }
def EvalDualitiesCardSaid : Prop := Claim7.holds Tryz.pinned (.plain (OpenSpec.ofChange evalDualitiesSpec)) evalDualitiesCard

/-- THE TIED CARD OF 'armaturelaw08.EvalOperators'. -/
def evalOperatorsCard : Claim7 := { stood := { row := evalOperatorsRow, standIns := [], harness := (true, "5fbf5663ab50c5cc799bffbab6649c51b4439a6b44ea6d97a50a7235153630a6"), looks := true }, kinds := [], alts := [], laidByText := true, laidKinds := [.data, .data, .data], laidTests := true, laidLooks := .later }
def EvalOperatorsCardSaid : Prop := Claim7.holds Tryz.pinned (.plain (OpenSpec.ofChange evalOperatorsSpec)) evalOperatorsCard

/-- THE TIED CARD OF 'armaturelaw08.EvalInstances'. -/
def evalInstancesCard : Claim7 := { stood := { row := evalInstancesRow, standIns := [], harness := (true, "5fbf5663ab50c5cc799bffbab6649c51b4439a6b44ea6d97a50a7235153630a6"), looks := true }, kinds := [], alts := [], laidByText := true, laidKinds := [.data, .data, .data], laidTests := true, laidLooks := .later }
def EvalInstancesCardSaid : Prop := Claim7.holds Tryz.pinned (.plain (OpenSpec.ofChange evalInstancesSpec)) evalInstancesCard

/-- THE TIED CARD OF 'armaturelaw08.EvalUnfolds'. -/
def evalUnfoldsCard : Claim7 := { stood := { row := evalUnfoldsRow, standIns := [], harness := (true, "5fbf5663ab50c5cc799bffbab6649c51b4439a6b44ea6d97a50a7235153630a6"), looks := true }, kinds := [], alts := [], laidByText := true, laidKinds := [.data, .data, .data], laidTests := true, laidLooks := .later }
def EvalUnfoldsCardSaid : Prop := Claim7.holds Tryz.pinned (.plain (OpenSpec.ofChange evalUnfoldsSpec)) evalUnfoldsCard

/-- THE TIED CARD OF 'armaturelaw08.EvalBindings'. -/
def evalBindingsCard : Claim7 := { stood := { row := evalBindingsRow, standIns := [], harness := (true, "5fbf5663ab50c5cc799bffbab6649c51b4439a6b44ea6d97a50a7235153630a6"), looks := true }, kinds := [], alts := [], laidByText := true, laidKinds := [.data, .data, .data], laidTests := true, laidLooks := .later }
def EvalBindingsCardSaid : Prop := Claim7.holds Tryz.pinned (.plain (OpenSpec.ofChange evalBindingsSpec)) evalBindingsCard

/-- THE TIED CARD OF 'armaturelaw08.EvalHolds'. -/
def evalHoldsCard : Claim7 := { stood := { row := evalHoldsRow, standIns := [], harness := (true, "5fbf5663ab50c5cc799bffbab6649c51b4439a6b44ea6d97a50a7235153630a6"), looks := true }, kinds := [], alts := [], laidByText := true, laidKinds := [.data, .data, .data], laidTests := true, laidLooks := .later }
def EvalHoldsCardSaid : Prop := Claim7.holds Tryz.pinned (.plain (OpenSpec.ofChange evalHoldsSpec)) evalHoldsCard

/-- THE TIED CARD OF 'armaturelaw08.EvalTraces'. -/
def evalTracesCard : Claim7 := { stood := { row := evalTracesRow, standIns := [], harness := (true, "5fbf5663ab50c5cc799bffbab6649c51b4439a6b44ea6d97a50a7235153630a6"), looks := true }, kinds := [], alts := [], laidByText := true, laidKinds := [.data, .data, .data], laidTests := true, laidLooks := .later }
def EvalTracesCardSaid : Prop := Claim7.holds Tryz.pinned (.plain (OpenSpec.ofChange evalTracesSpec)) evalTracesCard

/-- THE SECOND FORM's CARD OF 'armaturelaw08.EvalMatchesReference'. -/
def evalMatchesReferenceUptoCard : Claim7 := { stood := { row := evalMatchesReferenceUptoRow, standIns := [], harness := (true, "5fbf5663ab50c5cc799bffbab6649c51b4439a6b44ea6d97a50a7235153630a6"), looks := true }, kinds := [], alts := [], laidByText := true, laidKinds := [.data, .data, .data], laidTests := true, laidLooks := .later }
def EvalMatchesReferenceUptoCardSaid : Prop := Claim7.holds Tryz.pinned (.plain (OpenSpec.upto evalMatchesReferenceSpec)) evalMatchesReferenceUptoCard

/-- THE SECOND FORM's CARD OF 'armaturelaw08.EvalDualities'. -/
def evalDualitiesUptoCard : Claim7 := { stood := { row := evalDualitiesUptoRow, standIns := [], harness := (true, "5fbf5663ab50c5cc799bffbab6649c51b4439a6b44ea6d97a50a7235153630a6"), looks := true }, kinds := [], alts := [], laidByText := true, laidKinds := [.data, .data, .data], laidTests := true, laidLooks := .later }
def EvalDualitiesUptoCardSaid : Prop := Claim7.holds Tryz.pinned (.plain (OpenSpec.upto evalDualitiesSpec)) evalDualitiesUptoCard

/-- THE SECOND FORM's CARD OF 'armaturelaw08.EvalOperators'. -/
def evalOperatorsUptoCard : Claim7 := { stood := { row := evalOperatorsUptoRow, standIns := [], harness := (true, "5fbf5663ab50c5cc799bffbab6649c51b4439a6b44ea6d97a50a7235153630a6"), looks := true }, kinds := [], alts := [], laidByText := true, laidKinds := [.data, .data, .data], laidTests := true, laidLooks := .later }
def EvalOperatorsUptoCardSaid : Prop := Claim7.holds Tryz.pinned (.plain (OpenSpec.upto evalOperatorsSpec)) evalOperatorsUptoCard

/-- THE SECOND FORM's CARD OF 'armaturelaw08.EvalInstances'. -/
def evalInstancesUptoCard : Claim7 := { stood := { row := evalInstancesUptoRow, standIns := [], harness := (true, "5fbf5663ab50c5cc799bffbab6649c51b4439a6b44ea6d97a50a7235153630a6"), looks := true }, kinds := [], alts := [], laidByText := true, laidKinds := [.data, .data, .data], laidTests := true, laidLooks := .later }
def EvalInstancesUptoCardSaid : Prop := Claim7.holds Tryz.pinned (.plain (OpenSpec.upto evalInstancesSpec)) evalInstancesUptoCard

/-- THE SECOND FORM's CARD OF 'armaturelaw08.EvalUnfolds'. -/
def evalUnfoldsUptoCard : Claim7 := { stood := { row := evalUnfoldsUptoRow, standIns := [], harness := (true, "5fbf5663ab50c5cc799bffbab6649c51b4439a6b44ea6d97a50a7235153630a6"), looks := true }, kinds := [], alts := [], laidByText := true, laidKinds := [.data, .data, .data], laidTests := true, laidLooks := .later }
def EvalUnfoldsUptoCardSaid : Prop := Claim7.holds Tryz.pinned (.plain (OpenSpec.upto evalUnfoldsSpec)) evalUnfoldsUptoCard

/-- THE SECOND FORM's CARD OF 'armaturelaw08.EvalBindings'. -/
def evalBindingsUptoCard : Claim7 := { stood := { row := evalBindingsUptoRow, standIns := [], harness := (true, "5fbf5663ab50c5cc799bffbab6649c51b4439a6b44ea6d97a50a7235153630a6"), looks := true }, kinds := [], alts := [], laidByText := true, laidKinds := [.data, .data, .data], laidTests := true, laidLooks := .later }
def EvalBindingsUptoCardSaid : Prop := Claim7.holds Tryz.pinned (.plain (OpenSpec.upto evalBindingsSpec)) evalBindingsUptoCard

/-- THE SECOND FORM's CARD OF 'armaturelaw08.EvalHolds'. -/
def evalHoldsUptoCard : Claim7 := { stood := { row := evalHoldsUptoRow, standIns := [], harness := (true, "5fbf5663ab50c5cc799bffbab6649c51b4439a6b44ea6d97a50a7235153630a6"), looks := true }, kinds := [], alts := [], laidByText := true, laidKinds := [.data, .data, .data], laidTests := true, laidLooks := .later }
def EvalHoldsUptoCardSaid : Prop := Claim7.holds Tryz.pinned (.plain (OpenSpec.upto evalHoldsSpec)) evalHoldsUptoCard

/-- THE SECOND FORM's CARD OF 'armaturelaw08.EvalTraces'. -/
def evalTracesUptoCard : Claim7 := { stood := { row := evalTracesUptoRow, standIns := [], harness := (true, "5fbf5663ab50c5cc799bffbab6649c51b4439a6b44ea6d97a50a7235153630a6"), looks := true }, kinds := [], alts := [], laidByText := true, laidKinds := [.data, .data, .data], laidTests := true, laidLooks := .later }
def EvalTracesUptoCardSaid : Prop := Claim7.holds Tryz.pinned (.plain (OpenSpec.upto evalTracesSpec)) evalTracesUptoCard
end Rows
end Go.Proofs.YtkglmpmlfjogkaaGreatDoor
