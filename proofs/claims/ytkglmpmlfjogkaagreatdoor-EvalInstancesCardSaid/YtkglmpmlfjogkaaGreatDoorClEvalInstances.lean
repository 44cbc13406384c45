/-
  Proved: the tied card of armaturelaw08.EvalInstances: for every specification, model, state, environment, name and two trees, the law returns true and leaves its arguments as they were. Conditions: the card's own (the tables of internal/strconv and math/bits are as the program's text lays them; loops end).
-/
import Derived.Test.YtkglmpmlfjogkaaGreatDoorRows
import Derived.Test.YtkglmpmlfjogkaaGreatDoorTie
import Derived.Test.YtkglmpmlfjogkaaGreatDoorCards
import Derived.SevenTiedAt
import Derived.Test.YtkglmpmlfjogkaaGreatDoorMh
set_option linter.unusedVariables false
set_option linter.unusedSimpArgs false
set_option maxRecDepth 100000

open Go.Proofs.Tryz renaming prog→qc
namespace Go.Proofs.YtkglmpmlfjogkaaGreatDoor.ZEvalInstances
open Go Go.Ev Go.EvW Go.Proofs Go.Proofs.YtkglmpmlfjogkaaGreatDoor Go.Proofs.YtkglmpmlfjogkaaGreatDoor.DL Go.Proofs.YtkglmpmlfjogkaaGreatDoor.P1 Go.Proofs.YtkglmpmlfjogkaaGreatDoor.Y1 Go.Proofs.YtkglmpmlfjogkaaGreatDoor.YF Go.Proofs.YtkglmpmlfjogkaaGreatDoor.Y9 Go.Proofs.YtkglmpmlfjogkaaGreatDoor.E3 Go.RowKit Go.ChangeShapes Go.WideShapes
theorem holds : Rows.EvalInstancesCardSaid :=
  Claim7.holds_tied_plain_at .later [] [.data, .data, .data] true (true, "5fbf5663ab50c5cc799bffbab6649c51b4439a6b44ea6d97a50a7235153630a6") true
    said (fun _ h => by cases h) (by as_aux_lemma => kernel_rfl) (fun _ h => by cases h) evalInstances_row_tie rfl ⟨rfl, rfl⟩ (by as_aux_lemma => kernel_rfl) rfl
    (fun f fn hf hfn => by
      obtain rfl : f = 6 := Option.some.inj ((show qc.funcNamed "armature/armaturelaw08.EvalInstances" = some 6 by kernel_rfl).symm.trans hf) |>.symm
      obtain rfl : fn = Tryz.f6 := (Option.some.inj (Tryz.func6.symm.trans hfn)).symm
      exact ⟨by kernel_rfl, fun j t ht => by
        have hp : Tryz.f6.params = [27, 33, 3, 34, 9, 37, 37].toArray := by kernel_rfl
        rw [hp] at ht
        have hm : t ∈ [27, 33, 3, 34, 9, 37, 37] := by simpa using Array.mem_of_getElem? ht
        have hall : ([27, 33, 3, 34, 9, 37, 37].all fun u => !qc.wantsStandIn u) = true := by kernel_rfl
        exact (show qc.wantsStandIn t = false by simpa using List.all_eq_true.1 hall t hm)⟩)
    (by as_aux_lemma => kernel_rfl)
end Go.Proofs.YtkglmpmlfjogkaaGreatDoor.ZEvalInstances
