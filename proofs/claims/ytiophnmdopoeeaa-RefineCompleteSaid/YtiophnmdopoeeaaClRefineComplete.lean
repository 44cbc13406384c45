/-
  For every specification, scope and bounds that armatureref12.Fits accepts with at most 6 atoms, refine.Group returns, in the same order, exactly those permutations of permute.All that armatureref12.Fixes and refine.Symmetric accept, and at least one; for all others the law returns true at once. Conditions: none beside those of the given statement Rows.RefineCompleteSaid.
-/
import Derived.Test.YtiophnmdopoeeaaRows
import Derived.WalkKit
import Derived.JoinedCond
import Derived.Test.YtiophnmdopoeeaaMe

set_option linter.unusedVariables false
set_option linter.unusedSimpArgs false
set_option maxRecDepth 100000
namespace Go.Proofs.Ytiophnmdopoeeaa.W2
open Go Go.Ev Go.Proofs Go.Proofs.Ytiophnmdopoeeaa.C1 Go.Proofs.Ytiophnmdopoeeaa.C2 Go.Proofs.Ytiophnmdopoeeaa.C3 Go.Proofs.Ytiophnmdopoeeaa.C4 Go.Proofs.Ytiophnmdopoeeaa.C5 Go.Proofs.Ytiophnmdopoeeaa.C6 Go.Proofs.Ytiophnmdopoeeaa.C7 Go.Proofs.Ytiophnmdopoeeaa.C9 Go.Proofs.Ytiophnmdopoeeaa.C10 Go.Proofs.Ytiophnmdopoeeaa.C11 Go.Proofs.Ytiophnmdopoeeaa.C12 Go.Proofs.Ytiophnmdopoeeaa.C13 Go.Proofs.Ytiophnmdopoeeaa.C14 Go.Proofs.Ytiophnmdopoeeaa.C15 Go.Proofs.Ytiophnmdopoeeaa.C16 Go.Proofs.Ytiophnmdopoeeaa.C17 Go.Proofs.Ytiophnmdopoeeaa.C18 Go.Proofs.Ytiophnmdopoeeaa.C19 Go.Proofs.Ytiophnmdopoeeaa.C20 Go.Proofs.Ytiophnmdopoeeaa.C21 Go.Proofs.Ytiophnmdopoeeaa.C22 Go.Proofs.Ytiophnmdopoeeaa.C23 Go.Proofs.Ytiophnmdopoeeaa.C24 Go.Proofs.Ytiophnmdopoeeaa.C25 Go.Proofs.Ytiophnmdopoeeaa.C26 Go.Proofs.Ytiophnmdopoeeaa.C27 Go.Proofs.Ytiophnmdopoeeaa.C28 Go.Proofs.Ytiophnmdopoeeaa.C29 Go.Proofs.Ytiophnmdopoeeaa.C30 Go.Proofs.Ytiophnmdopoeeaa.C31 Go.Proofs.Ytiophnmdopoeeaa.C32 Go.Proofs.Ytiophnmdopoeeaa.C33 Go.Proofs.Ytiophnmdopoeeaa.C34 Go.Proofs.Ytiophnmdopoeeaa.C35 Go.Proofs.Ytiophnmdopoeeaa.L1 Go.Proofs.Ytiophnmdopoeeaa.L2 Go.Proofs.Ytiophnmdopoeeaa.L3 Go.Proofs.Ytiophnmdopoeeaa.L4 Go.Proofs.Ytiophnmdopoeeaa.L5 Go.Proofs.Ytiophnmdopoeeaa.L6 Go.Proofs.Ytiophnmdopoeeaa.L7 Go.Proofs.Ytiophnmdopoeeaa.L8 Go.Proofs.Ytiophnmdopoeeaa.L9 Go.Proofs.Ytiophnmdopoeeaa.L10 Go.Proofs.Ytiophnmdopoeeaa.L11

theorem completeU (sp : Sp) (sc : Sc) (bs : List Bd) (hf : ∀ f, f ∈ sp.fields → f.sorts.length ≤ 9223372036854775807) :
    SoundP Try.prog 8 [eSp sp, eSc sc, lBd bs] (aB true) := by
  refine SoundP.of_sound (Sound.of_awp Try.call8 Try.func8 rfl (Nat.le_of_ble_eq_true (by kernel_rfl)) (by kernel_rfl) (pl := {}) ?_)
  simp [go_sem]
  refine CallStep.pure headU .nil ?_
  simp [go_sem]
  refine CallStep.pure (fits12 sp sc bs 6 hf) (.cons (.hf (hf_eSp sp)) (.cons (.hf (hf_eSc sc)) (.cons (.hf (hf_lBd bs)) (.cons (.hf (HF.sc _)) .nil)))) ?_
  by_cases hfit : fitsOk sp sc bs 6 = true
  case neg =>
    simp only [Bool.not_eq_true] at hfit
    simp [go_sem, hfit]
    exact .hf _ (HF.sc _)
  obtain ⟨N, F⟩ := Fit.of hfit
  have hN6 : N ≤ 6 := by have := F.le; omega
  simp [go_sem, hfit]
  have hgrp := groupU sp sc F.u N F.hN hN6 F.hsp bs F.gb
  change SoundP _ _ _ (lL (grpS sp sc N bs)) at hgrp
  have hid := grp_id F
  have hall : ∀ q, q ∈ allS N sc → PermL N q := fun q hq => (mem_allS.1 hq).1
  have hpow : N ^ N ≤ 46656 := by
    have h2 : N ^ N ≤ 6 ^ 6 := Nat.le_trans (Nat.pow_le_pow_left hN6 N) (Nat.pow_le_pow_right (by omega) hN6)
    simpa using h2
  have halen : (allS N sc).length ≤ 46656 := Nat.le_trans (extG_len N (sortsL sc) anyP N []) hpow
  rw [grp_filter F] at hgrp hid
  refine CallStep.pure hgrp (args3 sp sc bs) ?_
  simp [go_sem]
  refine CallStep.pure (allU sc F.u N F.hN hN6) (.cons (.hf (hf_eSc sc)) .nil) ?_
  generalize allS N sc = A at *
  have hGl : (A.filter fun q => fixesOk sp sc q && symB sc bs q).length ≤ A.length := List.length_filter_le _ _
  have hfs : ∀ k (h : k < A.length), _ := fun k h => filter_step A (fun q => fixesOk sp sc q && symB sc bs q) k h
  have hfa : ∀ k (h : k < A.length), _ := fun k h => filter_at A (fun q => fixesOk sp sc q && symB sc bs q) k h
  have hpos : 0 < (A.filter fun q => fixesOk sp sc q && symB sc bs q).length := List.length_pos_iff.2 (fun e => by rw [e] at hid; simp at hid)
  generalize hG : (A.filter fun q => fixesOk sp sc q && symB sc bs q) = G at *
  simp [go_sem]
  refine LoopGo.up A.length (fun i st => st.tm 2 = lBd bs ∧ st.tm 3 = .ip [.lst false (sp.sorts.map cSort), .lst false (sp.fields.map cField), .lst false sp.preds, .lst false sp.facts] ∧ st.tm 4 = .ip [lI sc.atoms, aI sc.steps] ∧ st.tm 7 = aB true ∧ st.tm 8 = lL G ∧ st.tm 9 = lL A ∧ st.tm 10 = aI ((A.take i).filter fun q => fixesOk sp sc q && symB sc bs q).length ∧ st.tm 11 = aI i) ?_ ?_
  · simp [go_sem]
  rintro i st hi ⟨e2, e3, e4, e7, e8, e9, e10, e11⟩
  by_cases hiA : i < A.length
  case neg =>
    have hge : i = A.length := by omega
    subst hge
    rw [List.take_of_length_le (Nat.le_refl _), hG] at e10
    simp [go_sem, e2, e3, e4, e7, e8, e9, e10, e11, hpos]
    exact .hf _ (HF.sc _)
  have hq := hall _ (List.getElem_mem hiA)
  have hfsi := hfs i hiA
  have hfai := hfa i hiA
  have hll : ((A.take i).filter fun q => fixesOk sp sc q && symB sc bs q).length ≤ i := Nat.le_trans (List.length_filter_le _ _) (by simp; omega)
  generalize ((A.take i).filter fun q => fixesOk sp sc q && symB sc bs q) = B at *
  generalize hqq : A[i] = q at *
  simp [go_sem, e2, e3, e4, e7, e8, e9, e10, e11, hiA, hqq]
  refine DrawGo.intro (by kernel_rfl) ?_
  simp [go_sem, e2, e3, e4, e7, e8, e9, e10, e11, hiA, hqq]
  refine CallStep.pure (fixes12 sp sc F.u.g q (by rw [hq.len]; omega)) (.cons (.hf (hf_eSp sp)) (.cons (.hf (hf_eSc sc)) (.cons (.hf (hf_lI q)) .nil))) ?_
  cases hfx : fixesOk sp sc q with
  | false =>
    rw [hfx] at hfsi
    simp only [Bool.false_and, Bool.false_eq_true, if_false, List.append_nil] at hfsi
    simp [go_sem, e2, e3, e4, e7, e8, e9, e10, e11, hiA, hqq]
    exact ⟨by rw [hfsi], wrap_i64 (by omega) (by omega)⟩
  | true =>
    simp [go_sem, e2, e3, e4, e7, e8, e9, e10, e11, hiA, hqq]
    refine CallStep.pure (symmetricU sc F.u bs F.gb q) (.cons (.hf (hf_eSc sc)) (.cons (.hf (hf_lBd bs)) (.cons (.hf (hf_lI q)) .nil))) ?_
    cases hsy : symB sc bs q with
    | false =>
      rw [hfx, hsy] at hfsi
      simp only [Bool.and_false, Bool.false_eq_true, if_false, List.append_nil] at hfsi
      simp [go_sem, e2, e3, e4, e7, e8, e9, e10, e11, hiA, hqq]
      exact ⟨by rw [hfsi], wrap_i64 (by omega) (by omega)⟩
    | true =>
      rw [hfx, hsy] at hfsi hfai
      simp only [Bool.and_self, if_true] at hfsi
      have hfai := hfai rfl
      obtain ⟨hBl, hBe⟩ := List.getElem?_eq_some_iff.1 hfai
      simp [go_sem, e2, e3, e4, e7, e8, e9, e10, e11, hiA, hqq]
      refine DrawGo.intro (by kernel_rfl) ?_
      simp [go_sem, e2, e3, e4, e7, e8, e9, e10, e11, hiA, hqq, hBl, hBe, show ¬ (G.length : Int) ≤ B.length by omega]
      refine CallStep.pure (ints07 q q (by rw [hq.len]; omega)) (.cons (.hf (hf_lI q)) (.cons (.hf (hf_lI q)) .nil)) ?_
      simp [go_sem, e2, e3, e4, e7, e8, e9, e10, e11, hiA, hqq]
      refine ⟨?_, wrap_i64 (by omega) (by omega)⟩
      rw [hfsi, List.length_append, List.length_singleton, wrap_i64 (by omega) (by omega)]
      rfl
end Go.Proofs.Ytiophnmdopoeeaa.W2

namespace Go.Proofs.Ytiophnmdopoeeaa.ZRefineComplete
open Go Go.Ev Go.Proofs Go.Proofs.Ytiophnmdopoeeaa Go.RowKit Go.ChangeShapes Go.WideShapes
set_option linter.unusedVariables false

theorem own : ownKnob Try.prog.godebug = none := by kernel_rfl
theorem laid : laidOutB Try.prog = true := by kernel_rfl
theorem aSpec : ArgSh Try.prog 27 eSp okSp := ArgSh.struct (by kernel_rfl) D.shSpec
theorem aScope : ArgSh Try.prog 30 eSc okSc := ArgSh.struct (by kernel_rfl) D.shScope
theorem aBounds : ArgSh Try.prog 31 lBd (fun b => b.length ≤ maxLen ∧ ∀ x, x ∈ b → okBd x) := ArgSh.slice D.unBounds D.shBounds

theorem law (sp : Sp) (sc : Sc) (b : List Bd) (h1 : okSp sp) (h2 : okSc sc) (h3 : b.length ≤ maxLen ∧ ∀ x, x ∈ b → okBd x) : SoundP Try.prog 8 [eSp sp, eSc sc, lBd b] (aB true) :=
  W2.completeU sp sc b (fun f hf => Nat.le_trans (h1.fields f hf).sorts.1 (Nat.le_of_ble_eq_true (by kernel_rfl)))

set_option maxRecDepth 100000 in
theorem lifted (os : Os) (started : os.Started) (H : Type) (enc : TypeId × Value → H) :
    ReturnsInHanded {} Try.checked os 8 .any (Rows.refineCompleteSpec.pre6 enc Try.prog Try.f8 Rows.refineCompleteRow.domain false) (Rows.refineCompleteSpec.post enc Try.prog Try.f8 false true false false) := by
  refine returnsInHanded_of_change (C := Try.checked) own started (by kernel_rfl) Try.func8
    (ChangeSpec.witness6 (enc := enc) (C := Try.checked) false ⟨#[], #[.agg #[.slice none 0 0, .slice none 0 0, .slice none 0 0, .slice none 0 0], .agg #[.slice none 0 0, .int .i64 0], .slice none 0 0], []⟩ 8 (by kernel_rfl) (by kernel_rfl) (by kernel_rfl) (by kernel_rfl)) ?_
  intro W base args ds gs before hval hW h8 h9
  exact law_row (ts := [27, 30, 31]) (tb := 4) (by kernel_rfl) (.cons aSpec (.cons aScope (.cons aBounds .nil))) rfl
    (fun H ds h => by match ds, h with | [_, _, _], h10 => rfl) (by kernel_rfl) D.unBool laid (by kernel_rfl) (fun a h => law a.1 a.2.1 a.2.2.1 h.1 h.2.1 h.2.2.1) H enc W base args ds gs before hval hW

theorem holds : Rows.RefineCompleteSaid :=
  OpenClaim.holds_of_wide 8 Try.f8 rfl rfl rfl rfl rfl rfl rfl ⟨rfl, rfl, rfl, rfl, rfl⟩ rfl rfl rfl rfl rfl (by kernel_rfl) Try.func8 (by kernel_rfl)
    (of_decide_eq_true (by kernel_rfl)) (by unfold Func.isWrapper; first | (rw [if_pos (by decide +kernel)]; kernel_rfl) | (rw [if_neg (by decide +kernel)]; exact ⟨rfl, rfl⟩))
    (fun os started H enc h11 => lifted os started H enc)
end Go.Proofs.Ytiophnmdopoeeaa.ZRefineComplete
