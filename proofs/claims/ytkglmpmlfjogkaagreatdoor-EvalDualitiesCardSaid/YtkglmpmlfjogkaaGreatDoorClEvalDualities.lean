/-
  Proved: the tied card of armaturelaw08.EvalDualities: for every specification, model, state, environment, trees f, g, d and name, the law returns true and leaves its arguments as they were. Conditions: the card's own (the tables of internal/strconv and math/bits are as the program's text lays them; loops end).
-/
import Derived.Test.YtkglmpmlfjogkaaGreatDoorRows
import Derived.Test.YtkglmpmlfjogkaaGreatDoorTie
import Derived.Test.YtkglmpmlfjogkaaGreatDoorCards
import Derived.SevenTiedAt
import Derived.Test.YtkglmpmlfjogkaaGreatDoorMg
set_option linter.unusedVariables false
set_option linter.unusedSimpArgs false
set_option maxRecDepth 100000

namespace Go.Proofs.YtkglmpmlfjogkaaGreatDoor.ZEvalDualities
open Go Go.Ev Go.EvW Go.Proofs Go.Proofs.YtkglmpmlfjogkaaGreatDoor Go.Proofs.YtkglmpmlfjogkaaGreatDoor.DL Go.Proofs.YtkglmpmlfjogkaaGreatDoor.P1 Go.Proofs.YtkglmpmlfjogkaaGreatDoor.Y1 Go.Proofs.YtkglmpmlfjogkaaGreatDoor.YF Go.Proofs.YtkglmpmlfjogkaaGreatDoor.Y9 Go.Proofs.YtkglmpmlfjogkaaGreatDoor.E3 Go.RowKit Go.ChangeShapes Go.WideShapes
theorem holds : Rows.EvalDualitiesCardSaid :=
  Claim7.holds_tied_plain_at .later [] [.data, .data, .data] true (true, "5fbf5663ab50c5cc799bffbab6649c51b4439a6b44ea6d97a50a7235153630a6") true
    said (fun _ h => by cases h) (by as_aux_lemma => kernel_rfl) (fun _ h => by cases h) evalDualities_row_tie rfl ⟨rfl, rfl⟩ (by as_aux_lemma => kernel_rfl) rfl
    (fun f fn hf hfn => by
      obtain rfl : f = 4 := Option.some.inj ((show Tryz.prog.funcNamed "armature/armaturelaw08.EvalDualities" = some 4 by kernel_rfl).symm.trans hf) |>.symm
      obtain rfl : fn = Tryz.f4 := (Option.some.inj (Tryz.func4.symm.trans hfn)).symm
      exact ⟨by kernel_rfl, fun j t ht => by
        have hp : Tryz.f4.params = [27, 33, 3, 34, 37, 37, 37, 9].toArray := by kernel_rfl
        rw [hp] at ht
        have hm : t ∈ [27, 33, 3, 34, 37, 37, 37, 9] := by simpa using Array.mem_of_getElem? ht
        have hall : ([27, 33, 3, 34, 37, 37, 37, 9].all fun u => !Tryz.prog.wantsStandIn u) = true := by kernel_rfl
        exact (show Tryz.prog.wantsStandIn t = false by simpa using List.all_eq_true.1 hall t hm)⟩)
    (by as_aux_lemma => kernel_rfl)
end Go.Proofs.YtkglmpmlfjogkaaGreatDoor.ZEvalDualities
