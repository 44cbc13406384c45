/-
  Proved: for every specification, bounds, model and three numbers, the law OrbitStabilizers returns true: the stabilizer is a group of symmetries that fix the model, and conjugating it gives the stabilizer of the image.
Conditions: none beyond the statement's own.
-/
import Derived.Test.YtfniceomhfebhaaGreatRows
import Derived.WalkKit
import Derived.JoinedCond
import Derived.Test.YtfniceomhfebhaaGreatMf

namespace Go.Proofs.YtfniceomhfebhaaGreat.ZOrbitStabilizers
open Go Go.Ev Go.Proofs Go.Proofs.YtfniceomhfebhaaGreat Go.RowKit Go.ChangeShapes Go.WideShapes
set_option linter.unusedVariables false

theorem own : ownKnob Tryz.prog.godebug = none := by kernel_rfl
theorem laid : laidOutB Tryz.prog = true := by kernel_rfl
theorem aSpec : ArgSh Tryz.prog 27 eSp okSp := ArgSh.struct (by kernel_rfl) D.shSpec
theorem aBounds : ArgSh Tryz.prog 28 lBd (fun b => b.length ≤ maxLen ∧ ∀ x, x ∈ b → okBd x) := ArgSh.slice D.unBounds D.shBounds
theorem unU16 : Tryz.prog.underlying 45 = some (.int .u16) := by kernel_rfl
theorem shU16 (N : Nat) : ShU Tryz.prog N 45 (fun n : Int => [.sc (.int .u16 n)]) okU16 :=
  (ShU.int unU16 N).map (fun n => n) (fun _ => rfl) (fun n h => by
    simp [Lit.wf, IntKind.min, IntKind.max, IntKind.signed, IntKind.bits] at h
    exact h)
theorem aU16 : ArgSh Tryz.prog 45 (fun n : Int => .sc (.int .u16 n)) okU16 := ArgSh.int unU16 shU16

theorem law (x0 : Sp) (x1 : List Bd) (x2 : M2.Md) (x3 : Int) (x4 : Int) (x5 : Int) (h0 : okSp x0) (h1 : (x1.length ≤ maxLen ∧ ∀ x, x ∈ x1 → okBd x)) (h2 : D2.okMdA x2) (h3 : okU16 x3) (h4 : okU16 x4) (h5 : okU16 x5) : SoundP Tryz.prog 8 [eSp x0, lBd x1, M2.eMd x2, .sc (.int .u16 x3), .sc (.int .u16 x4), .sc (.int .u16 x5)] (aB true) :=
  W24.stabilizersU x0 x1 x2 x3 x4 x5 h3 h4 h5

set_option maxRecDepth 100000 in
theorem lifted (os : Os) (started : os.Started) (H : Type) (enc : TypeId × Value → H) :
    ReturnsInHanded {} Tryz.checked os 8 .any (Rows.orbitStabilizersSpec.pre6 enc Tryz.prog Tryz.f8 Rows.orbitStabilizersRow.domain false) (Rows.orbitStabilizersSpec.post enc Tryz.prog Tryz.f8 false true false false) := by
  refine returnsInHanded_of_change (C := Tryz.checked) own started (by kernel_rfl) Tryz.func8
    (ChangeSpec.witness6 (enc := enc) (C := Tryz.checked) false ⟨#[], #[.agg #[.slice none 0 0, .slice none 0 0, .slice none 0 0, .slice none 0 0], .slice none 0 0, .agg #[.slice none 0 0, .int .i64 0, .slice none 0 0, .int .i64 0], .int .u16 0, .int .u16 0, .int .u16 0], []⟩ 8 (by kernel_rfl) (by kernel_rfl) (by kernel_rfl) (by kernel_rfl)) ?_
  intro W base args ds gs before hval hW h8 h9
  exact law_row (ts := [27, 28, 34, 45, 45, 45]) (tb := 4) (by kernel_rfl) (.cons aSpec (.cons aBounds (.cons D2.aModel (.cons aU16 (.cons aU16 (.cons aU16 .nil)))))) rfl
    (fun H ds h => by match ds, h with | [_, _, _, _, _, _], h10 => rfl) (by kernel_rfl) D.unBool laid (by kernel_rfl) (fun a h => law a.1 a.2.1 a.2.2.1 a.2.2.2.1 a.2.2.2.2.1 a.2.2.2.2.2.1 h.1 h.2.1 h.2.2.1 h.2.2.2.1 h.2.2.2.2.1 h.2.2.2.2.2.1) H enc W base args ds gs before hval hW

theorem holds : Rows.OrbitStabilizersSaid :=
  OpenClaim.holds_of_wide 8 Tryz.f8 rfl rfl rfl rfl rfl rfl rfl ⟨rfl, rfl, rfl, rfl, rfl⟩ rfl rfl rfl rfl rfl (by kernel_rfl) Tryz.func8 (by kernel_rfl)
    (of_decide_eq_true (by kernel_rfl)) (by unfold Func.isWrapper; first | (rw [if_pos (by decide +kernel)]; kernel_rfl) | (rw [if_neg (by decide +kernel)]; exact ⟨rfl, rfl⟩))
    (fun os started H enc h11 => lifted os started H enc)
end Go.Proofs.YtfniceomhfebhaaGreat.ZOrbitStabilizers
