/-
  Proved: for every specification, bounds and two models, the law OrbitMatchesReference returns true: at models that fit (up to 5 atoms) Orbit, Canonical, Stabilizer and Isomorphic return what the reference returns.
Conditions: none beyond the statement's own.
-/
import Derived.Test.YtfniceomhfebhaaGreatRows
import Derived.WalkKit
import Derived.JoinedCond
import Derived.Test.YtfniceomhfebhaaGreatMf

namespace Go.Proofs.YtfniceomhfebhaaGreat.ZOrbitMatchesReference
open Go Go.Ev Go.Proofs Go.Proofs.YtfniceomhfebhaaGreat Go.RowKit Go.ChangeShapes Go.WideShapes
set_option linter.unusedVariables false

theorem own : ownKnob Tryz.prog.godebug = none := by kernel_rfl
theorem laid : laidOutB Tryz.prog = true := by kernel_rfl
theorem aSpec : ArgSh Tryz.prog 27 eSp okSp := ArgSh.struct (by kernel_rfl) D.shSpec
theorem aBounds : ArgSh Tryz.prog 28 lBd (fun b => b.length ≤ maxLen ∧ ∀ x, x ∈ b → okBd x) := ArgSh.slice D.unBounds D.shBounds

theorem law (x0 : Sp) (x1 : List Bd) (x2 : M2.Md) (x3 : M2.Md) (h0 : okSp x0) (h1 : (x1.length ≤ maxLen ∧ ∀ x, x ∈ x1 → okBd x)) (h2 : D2.okMdA x2) (h3 : D2.okMdA x3) : SoundP Tryz.prog 3 [eSp x0, lBd x1, M2.eMd x2, M2.eMd x3] (aB true) :=
  W26.matchesU x0 x1 x2 x3

set_option maxRecDepth 100000 in
theorem lifted (os : Os) (started : os.Started) (H : Type) (enc : TypeId × Value → H) :
    ReturnsInHanded {} Tryz.checked os 3 .any (Rows.orbitMatchesReferenceSpec.pre6 enc Tryz.prog Tryz.f3 Rows.orbitMatchesReferenceRow.domain false) (Rows.orbitMatchesReferenceSpec.post enc Tryz.prog Tryz.f3 false true false false) := by
  refine returnsInHanded_of_change (C := Tryz.checked) own started (by kernel_rfl) Tryz.func3
    (ChangeSpec.witness6 (enc := enc) (C := Tryz.checked) false ⟨#[], #[.agg #[.slice none 0 0, .slice none 0 0, .slice none 0 0, .slice none 0 0], .slice none 0 0, .agg #[.slice none 0 0, .int .i64 0, .slice none 0 0, .int .i64 0], .agg #[.slice none 0 0, .int .i64 0, .slice none 0 0, .int .i64 0]], []⟩ 8 (by kernel_rfl) (by kernel_rfl) (by kernel_rfl) (by kernel_rfl)) ?_
  intro W base args ds gs before hval hW h8 h9
  exact law_row (ts := [27, 28, 34, 34]) (tb := 4) (by kernel_rfl) (.cons aSpec (.cons aBounds (.cons D2.aModel (.cons D2.aModel .nil)))) rfl
    (fun H ds h => by match ds, h with | [_, _, _, _], h10 => rfl) (by kernel_rfl) D.unBool laid (by kernel_rfl) (fun a h => law a.1 a.2.1 a.2.2.1 a.2.2.2.1 h.1 h.2.1 h.2.2.1 h.2.2.2.1) H enc W base args ds gs before hval hW

theorem holds : Rows.OrbitMatchesReferenceSaid :=
  OpenClaim.holds_of_wide 3 Tryz.f3 rfl rfl rfl rfl rfl rfl rfl ⟨rfl, rfl, rfl, rfl, rfl⟩ rfl rfl rfl rfl rfl (by kernel_rfl) Tryz.func3 (by kernel_rfl)
    (of_decide_eq_true (by kernel_rfl)) (by unfold Func.isWrapper; first | (rw [if_pos (by decide +kernel)]; kernel_rfl) | (rw [if_neg (by decide +kernel)]; exact ⟨rfl, rfl⟩))
    (fun os started H enc h11 => lifted os started H enc)
end Go.Proofs.YtfniceomhfebhaaGreat.ZOrbitMatchesReference
