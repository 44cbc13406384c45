/-
  For every specification, scope and bounds that armatureref12.Fits accepts with at most 6 atoms, and every slice of at most 20 numbers, refine.Classes, refine.Symmetric, refine.Group and refine.Swaps return what the functions of package armatureref12 with the same names return; for all others the law returns true at once. Conditions: none beside those of the given statement Rows.RefineMatchesReferenceSaid.
-/
import Derived.Test.YtiophnmdopoeeaaGreatRows
import Derived.WalkKit
import Derived.JoinedCond
import Derived.Test.YtiophnmdopoeeaaGreatMe

set_option linter.unusedVariables false
set_option linter.unusedSimpArgs false
set_option maxRecDepth 100000
namespace Go.Proofs.YtiophnmdopoeeaaGreat.W8
open Go Go.Ev Go.Proofs Go.Proofs.YtiophnmdopoeeaaGreat.C1 Go.Proofs.YtiophnmdopoeeaaGreat.C2 Go.Proofs.YtiophnmdopoeeaaGreat.C3 Go.Proofs.YtiophnmdopoeeaaGreat.C4 Go.Proofs.YtiophnmdopoeeaaGreat.C5 Go.Proofs.YtiophnmdopoeeaaGreat.C6 Go.Proofs.YtiophnmdopoeeaaGreat.C7 Go.Proofs.YtiophnmdopoeeaaGreat.C8 Go.Proofs.YtiophnmdopoeeaaGreat.C9 Go.Proofs.YtiophnmdopoeeaaGreat.C10 Go.Proofs.YtiophnmdopoeeaaGreat.C11 Go.Proofs.YtiophnmdopoeeaaGreat.C12 Go.Proofs.YtiophnmdopoeeaaGreat.C13 Go.Proofs.YtiophnmdopoeeaaGreat.C14 Go.Proofs.YtiophnmdopoeeaaGreat.C15 Go.Proofs.YtiophnmdopoeeaaGreat.C16 Go.Proofs.YtiophnmdopoeeaaGreat.C17 Go.Proofs.YtiophnmdopoeeaaGreat.C18 Go.Proofs.YtiophnmdopoeeaaGreat.C19 Go.Proofs.YtiophnmdopoeeaaGreat.C20 Go.Proofs.YtiophnmdopoeeaaGreat.C21 Go.Proofs.YtiophnmdopoeeaaGreat.C22 Go.Proofs.YtiophnmdopoeeaaGreat.C23 Go.Proofs.YtiophnmdopoeeaaGreat.C24 Go.Proofs.YtiophnmdopoeeaaGreat.C25 Go.Proofs.YtiophnmdopoeeaaGreat.C26 Go.Proofs.YtiophnmdopoeeaaGreat.C27 Go.Proofs.YtiophnmdopoeeaaGreat.C28 Go.Proofs.YtiophnmdopoeeaaGreat.C29 Go.Proofs.YtiophnmdopoeeaaGreat.C30 Go.Proofs.YtiophnmdopoeeaaGreat.C31 Go.Proofs.YtiophnmdopoeeaaGreat.C32 Go.Proofs.YtiophnmdopoeeaaGreat.C33 Go.Proofs.YtiophnmdopoeeaaGreat.C34 Go.Proofs.YtiophnmdopoeeaaGreat.C35 Go.Proofs.YtiophnmdopoeeaaGreat.L1 Go.Proofs.YtiophnmdopoeeaaGreat.L2 Go.Proofs.YtiophnmdopoeeaaGreat.L3 Go.Proofs.YtiophnmdopoeeaaGreat.L4 Go.Proofs.YtiophnmdopoeeaaGreat.L5 Go.Proofs.YtiophnmdopoeeaaGreat.L6 Go.Proofs.YtiophnmdopoeeaaGreat.L7 Go.Proofs.YtiophnmdopoeeaaGreat.L8 Go.Proofs.YtiophnmdopoeeaaGreat.L9 Go.Proofs.YtiophnmdopoeeaaGreat.L10 Go.Proofs.YtiophnmdopoeeaaGreat.L11 Go.Proofs.YtiophnmdopoeeaaGreat.L12 Go.Proofs.YtiophnmdopoeeaaGreat.L13 Go.Proofs.YtiophnmdopoeeaaGreat.L14 Go.Proofs.YtiophnmdopoeeaaGreat.L15 Go.Proofs.YtiophnmdopoeeaaGreat.R1 Go.Proofs.YtiophnmdopoeeaaGreat.R2 Go.Proofs.YtiophnmdopoeeaaGreat.R3 Go.Proofs.YtiophnmdopoeeaaGreat.R4 Go.Proofs.YtiophnmdopoeeaaGreat.R5 Go.Proofs.YtiophnmdopoeeaaGreat.R6 Go.Proofs.YtiophnmdopoeeaaGreat.L16 Go.Proofs.YtiophnmdopoeeaaGreat.L17

theorem matchesU (sp : Sp) (sc : Sc) (bs : List Bd) (p : List Int) (hf : ∀ f, f ∈ sp.fields → f.sorts.length ≤ 9223372036854775807) :
    SoundP Tryz.prog 3 [eSp sp, eSc sc, lBd bs, lI p] (aB true) := by
  refine SoundP.of_sound (Sound.of_awp Tryz.call3 Tryz.func3 rfl (Nat.le_of_ble_eq_true (by kernel_rfl)) (by kernel_rfl) (pl := {}) ?_)
  simp [go_sem]
  refine CallStep.pure headU .nil ?_
  simp [go_sem]
  refine CallStep.pure (fits12 sp sc bs 6 hf) (.cons (.hf (hf_eSp sp)) (.cons (.hf (hf_eSc sc)) (.cons (.hf (hf_lBd bs)) (.cons (.hf (HF.sc _)) .nil)))) ?_
  by_cases hfit : fitsOk sp sc bs 6 = true
  case neg =>
    simp only [Bool.not_eq_true] at hfit
    simp [go_sem, hfit]
    exact .hf _ (HF.sc _)
  by_cases hpl : (20 : Int) < p.length
  · simp [go_sem, hfit, hpl]
    exact .hf _ (HF.sc _)
  obtain ⟨N, F⟩ := Fit.of hfit
  have hN6 : N ≤ 6 := by have := F.le; omega
  have hN12 := F.le12
  have hso : ∀ x : Nat, x < N → 0 ≤ sortAt sc x ∧ sortAt sc x < sp.sorts.length := fun x hx => by
    have := F.sort hx
    unfold sortU at this
    rwa [if_neg (by omega)] at this
  have hGR : ∀ b, b ∈ bs → GR b.lo ∧ GR b.up := fun b hb => by
    have m1 : b.lo ∈ relsOf bs := by unfold relsOf; exact List.mem_flatMap.2 ⟨b, hb, by simp⟩
    have m2 : b.up ∈ relsOf bs := by unfold relsOf; exact List.mem_flatMap.2 ⟨b, hb, by simp⟩
    exact ⟨⟨by have := (F.g _ m1).len; omega, fun t ht => by have := (F.g _ m1).small (by omega) (by omega) t ht; omega⟩, ⟨by have := (F.g _ m2).len; omega, fun t ht => by have := (F.g _ m2).small (by omega) (by omega) t ht; omega⟩⟩
  have c1 := classesU sp sc F.u F.hsp bs F.gb
  have c2 := classes12 sp sc F.u.g N F.hN hN12 hso bs (by have := F.b6; omega) hGR
  rw [classes_same F] at c2
  have g1 := groupU sp sc F.u N F.hN hN6 F.hsp bs F.gb
  change SoundP _ _ _ (lL (grpS sp sc N bs)) at g1
  have g2 := group12 sp sc F.u bs F.gb N F.hN hN6
  rw [grp_same F] at g2
  have s1 := swapsU sp sc F.u F.hsp bs F.gb
  have s2 := swaps12 sp sc F.u bs F.gb N F.hN hN6
  rw [swaps_same F] at s2
  have y1 := symmetricU sc F.u bs F.gb p
  have y2 := symmetric12 sc F.u bs F.gb p
  have hglen : (grpS sp sc N bs).length ≤ 1000000 := by
    have h1 := extG_len N (stableS sp sc bs).1 (consB N (relsOf bs)) N []
    have h2 : N ^ N ≤ 6 ^ 6 := Nat.le_trans (Nat.pow_le_pow_left hN6 N) (Nat.pow_le_pow_right (by omega) hN6)
    unfold grpS
    simp at h2; omega
  have hgq : ∀ q, q ∈ grpS sp sc N bs → q.length ≤ 9223372036854775807 := fun q hq => by rw [((mem_grp F).1 hq).1.perm.len]; omega
  have hcl : (classesS sp sc bs).length ≤ 12 ∧ ∀ l, l ∈ classesS sp sc bs → l.length ≤ 9223372036854775807 := by
    obtain ⟨m, hm, S⟩ := stableF (sp := sp) F.hN F.g
    unfold classesS
    rw [hm, S.len, Int.toNat_natCast]
    refine ⟨by rw [clsN_len]; have := S.mle; omega, fun l hl => ?_⟩
    have := clsN_small _ _ _ l hl
    omega
  have hsl : (swapsS sp sc bs).length ≤ 9223372036854775807 := by
    have := swapsN_len (stableS sp sc bs).1 (symSw sc bs (stableS sp sc bs).1.length) (stableS sp sc bs).1.length (stableS sp sc bs).1.length
    rw [stable_len F] at this
    have h2 : N * N ≤ 6 * 6 := Nat.mul_le_mul hN6 hN6
    unfold swapsS
    rw [stable_len F]; omega
  have l1 := lists12 _ (classesS sp sc bs) (by omega) hcl.2
  have l2 := lists12 _ (grpS sp sc N bs) (by omega) hgq
  have l3 := pairs12 _ (swapsS sp sc bs) hsl
  rw [decide_eq_true rfl] at l1 l2 l3
  simp [go_sem, hfit, hpl]
  refine DrawGo.intro (by kernel_rfl) ?_
  simp [go_sem]
  refine CallStep.pure c1 (args3 sp sc bs) ?_
  simp [go_sem]
  refine CallStep.pure c2 (args3 sp sc bs) ?_
  simp [go_sem]
  refine CallStep.pure l1 (.cons (.hf (hf_lL _)) (.cons (.hf (hf_lL _)) .nil)) ?_
  simp [go_sem]
  refine CallStep.pure y1 (.cons (.hf (hf_eSc sc)) (.cons (.hf (hf_lBd bs)) (.cons (.hf (hf_lI p)) .nil))) ?_
  simp [go_sem]
  refine CallStep.pure y2 (.cons (.hf (hf_eSc sc)) (.cons (.hf (hf_lBd bs)) (.cons (.hf (hf_lI p)) .nil))) ?_
  simp [go_sem]
  refine CallStep.pure g1 (args3 sp sc bs) ?_
  simp [go_sem]
  refine CallStep.pure g2 (args3 sp sc bs) ?_
  simp [go_sem]
  refine CallStep.pure l2 (.cons (.hf (hf_lL _)) (.cons (.hf (hf_lL _)) .nil)) ?_
  simp [go_sem]
  refine CallStep.pure s1 (args3 sp sc bs) ?_
  simp [go_sem]
  refine CallStep.pure s2 (args3 sp sc bs) ?_
  simp [go_sem]
  refine CallStep.pure l3 (.cons (.hf (hf_lP _)) (.cons (.hf (hf_lP _)) .nil)) ?_
  simp [go_sem]
  exact .hf _ (HF.sc _)
end Go.Proofs.YtiophnmdopoeeaaGreat.W8

namespace Go.Proofs.YtiophnmdopoeeaaGreat.ZRefineMatchesReference
open Go Go.Ev Go.Proofs Go.Proofs.YtiophnmdopoeeaaGreat Go.RowKit Go.ChangeShapes Go.WideShapes
set_option linter.unusedVariables false

theorem own : ownKnob Tryz.prog.godebug = none := by kernel_rfl
theorem laid : laidOutB Tryz.prog = true := by kernel_rfl
theorem aSpec : ArgSh Tryz.prog 27 eSp okSp := ArgSh.struct (by kernel_rfl) D.shSpec
theorem aScope : ArgSh Tryz.prog 30 eSc okSc := ArgSh.struct (by kernel_rfl) D.shScope
theorem aBounds : ArgSh Tryz.prog 31 lBd (fun b => b.length ≤ maxLen ∧ ∀ x, x ∈ b → okBd x) := ArgSh.slice D.unBounds D.shBounds
theorem aInts : ArgSh Tryz.prog 28 lI okL := ArgSh.slice D.unInts D.shInts

theorem law (x0 : Sp) (x1 : Sc) (x2 : List Bd) (x3 : List Int) (h0 : okSp x0) (h1 : okSc x1) (h2 : (x2.length ≤ maxLen ∧ ∀ x, x ∈ x2 → okBd x)) (h3 : okL x3) : SoundP Tryz.prog 3 [eSp x0, eSc x1, lBd x2, lI x3] (aB true) :=
  W8.matchesU x0 x1 x2 x3 (fun f hf => Nat.le_trans (h0.fields f hf).sorts.1 (Nat.le_of_ble_eq_true (by kernel_rfl)))

set_option maxRecDepth 100000 in
theorem lifted (os : Os) (started : os.Started) (H : Type) (enc : TypeId × Value → H) :
    ReturnsInHanded {} Tryz.checked os 3 .any (Rows.refineMatchesReferenceSpec.pre6 enc Tryz.prog Tryz.f3 Rows.refineMatchesReferenceRow.domain false) (Rows.refineMatchesReferenceSpec.post enc Tryz.prog Tryz.f3 false true false false) := by
  refine returnsInHanded_of_change (C := Tryz.checked) own started (by kernel_rfl) Tryz.func3
    (ChangeSpec.witness6 (enc := enc) (C := Tryz.checked) false ⟨#[], #[.agg #[.slice none 0 0, .slice none 0 0, .slice none 0 0, .slice none 0 0], .agg #[.slice none 0 0, .int .i64 0], .slice none 0 0, .slice none 0 0], []⟩ 8 (by kernel_rfl) (by kernel_rfl) (by kernel_rfl) (by kernel_rfl)) ?_
  intro W base args ds gs before hval hW h8 h9
  exact law_row (ts := [27, 30, 31, 28]) (tb := 4) (by kernel_rfl) (.cons aSpec (.cons aScope (.cons aBounds (.cons aInts .nil)))) rfl
    (fun H ds h => by match ds, h with | [_, _, _, _], h10 => rfl) (by kernel_rfl) D.unBool laid (by kernel_rfl) (fun a h => law a.1 a.2.1 a.2.2.1 a.2.2.2.1 h.1 h.2.1 h.2.2.1 h.2.2.2.1) H enc W base args ds gs before hval hW

theorem holds : Rows.RefineMatchesReferenceSaid :=
  OpenClaim.holds_of_wide 3 Tryz.f3 rfl rfl rfl rfl rfl rfl rfl ⟨rfl, rfl, rfl, rfl, rfl⟩ rfl rfl rfl rfl rfl (by kernel_rfl) Tryz.func3 (by kernel_rfl)
    (of_decide_eq_true (by kernel_rfl)) (by unfold Func.isWrapper; first | (rw [if_pos (by decide +kernel)]; kernel_rfl) | (rw [if_neg (by decide +kernel)]; exact ⟨rfl, rfl⟩))
    (fun os started H enc h11 => lifted os started H enc)
end Go.Proofs.YtiophnmdopoeeaaGreat.ZRefineMatchesReference
