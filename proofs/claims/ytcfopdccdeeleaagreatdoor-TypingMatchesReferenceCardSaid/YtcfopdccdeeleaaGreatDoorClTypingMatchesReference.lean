/-
  Proved: the tied card of armaturelaw04.TypingMatchesReference: for every specification, environment and tree, the law returns true and leaves its arguments as they were. Conditions: the card's own (the tables of internal/strconv and math/bits are as the program's text lays them; loops end).
-/
import Derived.Test.YtcfopdccdeeleaaGreatDoorRows
import Derived.Test.YtcfopdccdeeleaaGreatDoorTie
import Derived.Test.YtcfopdccdeeleaaGreatDoorCards
import Derived.SevenTiedAt
import Derived.Test.YtcfopdccdeeleaaGreatDoorMg
set_option linter.unusedVariables false
set_option linter.unusedSimpArgs false
set_option maxRecDepth 100000

open List renaming append_nil→ye
namespace Go.Proofs.YtcfopdccdeeleaaGreatDoor.ZTypingMatchesReference
open Go Go.Ev Go.EvW Go.Proofs Go.Proofs.YtcfopdccdeeleaaGreatDoor Go.Proofs.YtcfopdccdeeleaaGreatDoor.DL Go.Proofs.YtcfopdccdeeleaaGreatDoor.P1 Go.Proofs.YtcfopdccdeeleaaGreatDoor.Y1 Go.Proofs.YtcfopdccdeeleaaGreatDoor.YF Go.Proofs.YtcfopdccdeeleaaGreatDoor.Y9 Go.RowKit Go.ChangeShapes Go.WideShapes
theorem law (x0 : TS) (x1 : List (ByteArray × Int)) (x2 : Nd) (h0 : DT.okTA x0) (h1 : x1.length ≤ 140737488351232) (h2 : True) : qt Tryz.prog 3 [eTS x0, lPm x1, eNd x2] (aB true) :=
  W36.qiS x0 (fun x hx => Nat.le_trans (h0.so x hx) (Nat.le_of_ble_eq_true rfl)) x1 x2
set_option maxRecDepth 100000 in
theorem qiV (os : Os) (started : os.Started) (H : Type) (enc : TypeId × Value → H) :
    ReturnsInHanded {} Tryz.checked os 3 .any (fun w args => (Rows.typingMatchesReferenceSpec.pre enc Tryz.prog Tryz.f3 [] false w args ∧ laidMetH Tryz.prog tabL w) ∧ sizedMet enc Tryz.prog Tryz.f3 (OpenSpec.ofChange Rows.typingMatchesReferenceSpec) false w args) (Rows.typingMatchesReferenceSpec.post enc Tryz.prog Tryz.f3 false true false false) := by
  refine returnsInHanded_of_change_and (C := Tryz.checked) (X := fun w _ => laidMetH Tryz.prog tabL w) (fun _ _ _ hh h => h.of_heap hh) own started (by kernel_rfl) Tryz.func3
    (ChangeSpec.witness_shaped (enc := enc) (C := Tryz.checked) (os := os) (X := fun w _ => laidMetH Tryz.prog tabL w) false (World.doorLaid Tryz.prog 4000 os) #[.agg #[.slice none 0 0, .slice none 0 0, .slice none 0 0, .slice none 0 0], .slice none 0 0, .agg #[.int .i64 0, .string ⟨#[]⟩, .int .i64 0, .slice none 0 0, .int .i64 0]] 8 rfl (World.shaped_of_RefB (by kernel_rfl) (by kernel_rfl)) (by kernel_rfl) (by kernel_rfl) (by kernel_rfl) (qiU os _)) ?_
  intro W base args ds gs before hval hW _ hwt hL _
  exact qe6 (ts := [27, 28, 31]) (tb := 4) (by kernel_rfl) (.cons DT.aSpec (.cons DT.qfO (.cons DT.aNode .nil))) rfl
    (fun H ds h => by match ds, h with | [_, _, _], h10 => rfl) (by kernel_rfl) DT.pJ laid (by kernel_rfl) (fun a h => law a.1 a.2.1 a.2.2.1 h.1 h.2.1 h.2.2.1) H enc W base args ds gs before hval hW (by
      obtain ⟨p, q, hA, hV, _⟩ := hW
      obtain ⟨rfl, _⟩ := trodVars_none hV
      have hwt' : (DataW.weightsEach Tryz.prog ([27, 28, 31] ++ []) (ds ++ [])).all (· ≤ reachBytes) = true := hwt
      rw [ye, ye] at hwt'
      exact hwt') (qiT hL)
theorem said : Rows.TypingMatchesReferenceSaid :=
  OpenClaim.holds_of_wide 3 Tryz.f3 rfl rfl rfl rfl rfl rfl rfl ⟨rfl, rfl, rfl, rfl, rfl⟩ rfl rfl rfl rfl rfl (by kernel_rfl) Tryz.func3 (by kernel_rfl)
    (of_decide_eq_true (by kernel_rfl)) (by unfold Func.isWrapper; first | (rw [if_pos (by decide +kernel)]; kernel_rfl) | (rw [if_neg (by decide +kernel)]; exact ⟨rfl, rfl⟩))
    (fun os started H enc _ => qiV os started H enc)
theorem holds : Rows.TypingMatchesReferenceCardSaid :=
  Claim7.holds_tied_plain_at .later [] [.data, .data, .data] true (true, "40cbdc13a9846a638c449d3d27a5a7afaf83a43f9e4c847a6ad804470124d811") true
    said (fun _ h => by cases h) (by kernel_rfl) (fun _ h => by cases h) typingMatchesReference_row_tie rfl ⟨rfl, rfl⟩ (by kernel_rfl) rfl
    (fun f fn hf hfn => by
      obtain rfl : f = 3 := Option.some.inj ((show Tryz.prog.funcNamed "armature/armaturelaw04.TypingMatchesReference" = some 3 by kernel_rfl).symm.trans hf) |>.symm
      obtain rfl : fn = Tryz.f3 := (Option.some.inj (Tryz.func3.symm.trans hfn)).symm
      exact ⟨by kernel_rfl, fun j t ht => by
        have hp : Tryz.f3.params = [27, 28, 31].toArray := by kernel_rfl
        rw [hp] at ht
        have hm : t ∈ [27, 28, 31] := by simpa using Array.mem_of_getElem? ht
        have hall : ([27, 28, 31].all fun u => !Tryz.prog.wantsStandIn u) = true := by kernel_rfl
        exact (show Tryz.prog.wantsStandIn t = false by simpa using List.all_eq_true.1 hall t hm)⟩)
    (by kernel_rfl)
end Go.Proofs.YtcfopdccdeeleaaGreatDoor.ZTypingMatchesReference
