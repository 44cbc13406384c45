/-
  Proved: the tied card of armaturelaw04.TypingInlineResult: for every specification and tree, the law returns true and leaves its arguments as they were. Conditions: the card's own (the tables of internal/strconv and math/bits are as the program's text lays them; loops end).
-/
import Derived.Test.YtcfopdccdeeleaaGreatDoorRows
import Derived.Test.YtcfopdccdeeleaaGreatDoorTie
import Derived.Test.YtcfopdccdeeleaaGreatDoorCards
import Derived.SevenTiedAt
import Derived.Test.YtcfopdccdeeleaaGreatDoorMg
set_option linter.unusedVariables false
set_option linter.unusedSimpArgs false
set_option maxRecDepth 100000

namespace Go.Proofs.YtcfopdccdeeleaaGreatDoor.ZTypingInlineResult
open Go Go.Ev Go.EvW Go.Proofs Go.Proofs.YtcfopdccdeeleaaGreatDoor Go.Proofs.YtcfopdccdeeleaaGreatDoor.DL Go.Proofs.YtcfopdccdeeleaaGreatDoor.P1 Go.Proofs.YtcfopdccdeeleaaGreatDoor.Y1 Go.Proofs.YtcfopdccdeeleaaGreatDoor.YF Go.Proofs.YtcfopdccdeeleaaGreatDoor.Y9 Go.RowKit Go.ChangeShapes Go.WideShapes
theorem law (x0 : TS) (x1 : Nd) (h0 : DT.okTA x0) (h1 : True) : SoundP Tryz.prog 8 [eTS x0, eNd x1] (aB true) :=
  W37.inlResU x0 (fun x hx => Nat.le_trans (h0.so x hx) (Nat.le_of_ble_eq_true rfl)) x1
set_option maxRecDepth 100000 in
theorem lifted (os : Os) (started : os.Started) (H : Type) (enc : TypeId × Value → H) :
    ReturnsInHanded {} Tryz.checked os 8 .any (fun w args => (Rows.typingInlineResultSpec.pre enc Tryz.prog Tryz.f8 [] false w args ∧ laidMetH Tryz.prog tabL w) ∧ sizedMet enc Tryz.prog Tryz.f8 (OpenSpec.ofChange Rows.typingInlineResultSpec) false w args) (Rows.typingInlineResultSpec.post enc Tryz.prog Tryz.f8 false true false false) := by
  refine returnsInHanded_of_change_and (C := Tryz.checked) (X := fun w _ => laidMetH Tryz.prog tabL w) (fun _ _ _ hh h => h.of_heap hh) own started (by kernel_rfl) Tryz.func8
    (ChangeSpec.witness_shaped (enc := enc) (C := Tryz.checked) (os := os) (X := fun w _ => laidMetH Tryz.prog tabL w) false (World.doorLaid Tryz.prog 4000 os) #[.agg #[.slice none 0 0, .slice none 0 0, .slice none 0 0, .slice none 0 0], .agg #[.int .i64 0, .string ⟨#[]⟩, .int .i64 0, .slice none 0 0, .int .i64 0]] 8 rfl (World.shaped_of_RefB (by kernel_rfl) (by kernel_rfl)) (by kernel_rfl) (by kernel_rfl) (by kernel_rfl) (door_met os _)) ?_
  intro W base args ds gs before hval hW _ hwt hL _
  exact law_row (ts := [27, 31]) (tb := 4) (by kernel_rfl) (.cons DT.aSpec (.cons DT.aNode .nil)) rfl
    (fun H ds h => by match ds, h with | [_, _], h10 => rfl) (by kernel_rfl) DT.unBool laid (by kernel_rfl) (fun a h => law a.1 a.2.1 h.1 h.2.1) H enc W base args ds gs before hval hW (by
      obtain ⟨p, q, hA, hV, _⟩ := hW
      obtain ⟨rfl, _⟩ := trodVars_none hV
      have hwt' : (DataW.weightsEach Tryz.prog ([27, 31] ++ []) (ds ++ [])).all (· ≤ reachBytes) = true := hwt
      rw [List.append_nil, List.append_nil] at hwt'
      exact hwt') (tab_of hL)
theorem said : Rows.TypingInlineResultSaid :=
  OpenClaim.holds_of_wide 8 Tryz.f8 rfl rfl rfl rfl rfl rfl rfl ⟨rfl, rfl, rfl, rfl, rfl⟩ rfl rfl rfl rfl rfl (by kernel_rfl) Tryz.func8 (by kernel_rfl)
    (of_decide_eq_true (by kernel_rfl)) (by unfold Func.isWrapper; first | (rw [if_pos (by decide +kernel)]; kernel_rfl) | (rw [if_neg (by decide +kernel)]; exact ⟨rfl, rfl⟩))
    (fun os started H enc _ => lifted os started H enc)
theorem holds : Rows.TypingInlineResultCardSaid :=
  Claim7.holds_tied_plain_at .later [] [.data, .data, .data] true (true, "40cbdc13a9846a638c449d3d27a5a7afaf83a43f9e4c847a6ad804470124d811") true
    said (fun _ h => by cases h) (by kernel_rfl) (fun _ h => by cases h) typingInlineResult_row_tie rfl ⟨rfl, rfl⟩ (by kernel_rfl) rfl
    (fun f fn hf hfn => by
      obtain rfl : f = 8 := Option.some.inj ((show Tryz.prog.funcNamed "armature/armaturelaw04.TypingInlineResult" = some 8 by kernel_rfl).symm.trans hf) |>.symm
      obtain rfl : fn = Tryz.f8 := (Option.some.inj (Tryz.func8.symm.trans hfn)).symm
      exact ⟨by kernel_rfl, fun j t ht => by
        have hp : Tryz.f8.params = [27, 31].toArray := by kernel_rfl
        rw [hp] at ht
        have hm : t ∈ [27, 31] := by simpa using Array.mem_of_getElem? ht
        have hall : ([27, 31].all fun u => !Tryz.prog.wantsStandIn u) = true := by kernel_rfl
        exact (show Tryz.prog.wantsStandIn t = false by simpa using List.all_eq_true.1 hall t hm)⟩)
    (by kernel_rfl)
end Go.Proofs.YtcfopdccdeeleaaGreatDoor.ZTypingInlineResult
