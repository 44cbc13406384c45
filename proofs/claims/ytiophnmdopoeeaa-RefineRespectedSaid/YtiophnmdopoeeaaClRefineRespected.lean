/-
  For every specification, scope and bounds that armatureref12.Fits accepts with at most 6 atoms, each permutation that refine.Group returns has as many entries as there are atoms, is valid (permute.Valid), and maps each atom to an atom of its class in refine.Classes; for all others the law returns true at once. Conditions: none beside those of the given statement Rows.RefineRespectedSaid (any host, any start, any arguments of the law's types).
-/
import Derived.Test.YtiophnmdopoeeaaRows
import Derived.WalkKit
import Derived.JoinedCond
import Derived.Test.YtiophnmdopoeeaaMe

set_option linter.unusedVariables false
set_option linter.unusedSimpArgs false
set_option maxRecDepth 100000
namespace Go.Proofs.Ytiophnmdopoeeaa.W1
open Go Go.Ev Go.Proofs Go.Proofs.Ytiophnmdopoeeaa.C1 Go.Proofs.Ytiophnmdopoeeaa.C2 Go.Proofs.Ytiophnmdopoeeaa.C3 Go.Proofs.Ytiophnmdopoeeaa.C4 Go.Proofs.Ytiophnmdopoeeaa.C5 Go.Proofs.Ytiophnmdopoeeaa.C6 Go.Proofs.Ytiophnmdopoeeaa.C7 Go.Proofs.Ytiophnmdopoeeaa.C9 Go.Proofs.Ytiophnmdopoeeaa.C10 Go.Proofs.Ytiophnmdopoeeaa.C11 Go.Proofs.Ytiophnmdopoeeaa.C12 Go.Proofs.Ytiophnmdopoeeaa.C13 Go.Proofs.Ytiophnmdopoeeaa.C14 Go.Proofs.Ytiophnmdopoeeaa.C15 Go.Proofs.Ytiophnmdopoeeaa.C16 Go.Proofs.Ytiophnmdopoeeaa.C17 Go.Proofs.Ytiophnmdopoeeaa.C18 Go.Proofs.Ytiophnmdopoeeaa.C19 Go.Proofs.Ytiophnmdopoeeaa.C20 Go.Proofs.Ytiophnmdopoeeaa.C21 Go.Proofs.Ytiophnmdopoeeaa.C22 Go.Proofs.Ytiophnmdopoeeaa.C23 Go.Proofs.Ytiophnmdopoeeaa.C24 Go.Proofs.Ytiophnmdopoeeaa.C25 Go.Proofs.Ytiophnmdopoeeaa.C26 Go.Proofs.Ytiophnmdopoeeaa.C27 Go.Proofs.Ytiophnmdopoeeaa.C28 Go.Proofs.Ytiophnmdopoeeaa.C29 Go.Proofs.Ytiophnmdopoeeaa.C30 Go.Proofs.Ytiophnmdopoeeaa.C31 Go.Proofs.Ytiophnmdopoeeaa.C32 Go.Proofs.Ytiophnmdopoeeaa.C33 Go.Proofs.Ytiophnmdopoeeaa.C34 Go.Proofs.Ytiophnmdopoeeaa.C35 Go.Proofs.Ytiophnmdopoeeaa.L1 Go.Proofs.Ytiophnmdopoeeaa.L2 Go.Proofs.Ytiophnmdopoeeaa.L3 Go.Proofs.Ytiophnmdopoeeaa.L4 Go.Proofs.Ytiophnmdopoeeaa.L5 Go.Proofs.Ytiophnmdopoeeaa.L6 Go.Proofs.Ytiophnmdopoeeaa.L7 Go.Proofs.Ytiophnmdopoeeaa.L8 Go.Proofs.Ytiophnmdopoeeaa.L9 Go.Proofs.Ytiophnmdopoeeaa.L10

theorem hf_spIp (sp : Sp) : HF (.ip [.lst false (sp.sorts.map cSort), .lst false (sp.fields.map cField), .lst false sp.preds, .lst false sp.facts]) := hf_ipSp sp
abbrev args3 (sp : Sp) (sc : Sc) (bs : List Bd) : WKs [eSp sp, eSc sc, lBd bs] [eSp sp, eSc sc, lBd bs] := .cons (.hf (hf_eSp sp)) (.cons (.hf (hf_eSc sc)) (.cons (.hf (hf_lBd bs)) .nil))

theorem respectedU (sp : Sp) (sc : Sc) (bs : List Bd) (hf : ∀ f, f ∈ sp.fields → f.sorts.length ≤ 9223372036854775807) :
    SoundP Try.prog 4 [eSp sp, eSc sc, lBd bs] (aB true) := by
  refine SoundP.of_sound (Sound.of_awp Try.call4 Try.func4 rfl (Nat.le_of_ble_eq_true (by kernel_rfl)) (by kernel_rfl) (pl := {}) ?_)
  simp [go_sem]
  refine CallStep.pure headU .nil ?_
  simp [go_sem]
  refine CallStep.pure (fits12 sp sc bs 6 hf) (.cons (.hf (hf_eSp sp)) (.cons (.hf (hf_eSc sc)) (.cons (.hf (hf_lBd bs)) (.cons (.hf (HF.sc _)) .nil)))) ?_
  by_cases hfit : fitsOk sp sc bs 6 = true
  case neg =>
    simp only [Bool.not_eq_true] at hfit
    simp [go_sem, hfit]
    exact .hf _ (HF.sc _)
  obtain ⟨N, F⟩ := Fit.of hfit
  have hN6 : N ≤ 6 := by have := F.le; omega
  simp [go_sem, hfit]
  refine CallStep.pure (atomsU sc F.u.g) (.cons (.hf (hf_eSc sc)) .nil) ?_
  rw [F.hN]
  simp [go_sem]
  refine CallStep.pure (classesU sp sc F.u F.hsp bs F.gb) (args3 sp sc bs) ?_
  obtain ⟨m, hm, S⟩ := stableF (sp := sp) F.hN F.g
  have hgrp := groupU sp sc F.u N F.hN hN6 F.hsp bs F.gb
  have hcl := fun q (hq : q ∈ grpS sp sc N bs) => grp_class F hq
  have hgp := fun q (hq : q ∈ grpS sp sc N bs) => ((mem_grp F).1 hq).1.perm
  have hgk := fun q (hq : q ∈ grpS sp sc N bs) => validP_iff F.hN |>.2 ⟨((mem_grp F).1 hq).1.perm, ((mem_grp F).1 hq).1.keep⟩
  have hglen : (grpS sp sc N bs).length ≤ 1000000 := by
    have h1 := extG_len N (stableS sp sc bs).1 (consB N (relsOf bs)) N []
    have h2 : N ^ N ≤ 6 ^ 6 := Nat.le_trans (Nat.pow_le_pow_left hN6 N) (Nat.pow_le_pow_right (by omega) hN6)
    unfold grpS
    simp at h2; omega
  change SoundP _ _ _ (lL (grpS sp sc N bs)) at hgrp
  unfold classesS
  rw [hm, S.len, Int.toNat_natCast]
  generalize (stableS sp sc bs).1 = c at *
  generalize grpS sp sc N bs = G at *
  simp [go_sem]
  refine CallStep.pure (numbersU N F.le12 c m (by have := S.mle; have := F.le12; omega) S.len S.rng) (.cons (.hf (HF.sc _)) (.cons (.hf (hf_lL _)) .nil)) ?_
  simp [go_sem]
  refine CallStep.pure hgrp (args3 sp sc bs) ?_
  simp [go_sem]
  refine LoopGo.up G.length (fun i st => st.tm 4 = .ip [lI sc.atoms, aI sc.steps] ∧ st.tm 7 = aB true ∧ st.tm 8 = aI N ∧ st.tm 9 = lI c ∧ st.tm 10 = aB true ∧ st.tm 11 = lL G ∧ st.tm 12 = aI i) ?_ ?_
  · simp [go_sem]
  rintro i st hi ⟨e4, e7, e8, e9, e10, e11, e12⟩
  by_cases hig : i < G.length
  case neg =>
    have hge : i = G.length := by omega
    subst hge
    simp [go_sem, e4, e7, e8, e9, e10, e11, e12]
    exact .hf _ (HF.sc _)
  have hmem := List.getElem_mem hig
  have hp := hgp _ hmem
  have hv := hgk _ hmem
  have hc := hcl _ hmem
  generalize hgq : G[i] = q at *
  simp [go_sem, e4, e7, e8, e9, e10, e11, e12, hig, hgq]
  refine DrawGo.intro (by kernel_rfl) ?_
  simp [go_sem, e4, e7, e8, e9, e10, e11, e12, hig, hgq, hp.len]
  refine CallStep.pure (validU sc F.u.g F.u.n12 q) (.cons (.hf (hf_eSc sc)) (.cons (.hf (hf_lI q)) .nil)) ?_
  rw [hv]
  simp [go_sem, e4, e7, e8, e9, e10, e11, e12, hig]
  refine LoopGo.up N (fun x st => st.tm 4 = .ip [lI sc.atoms, aI sc.steps] ∧ st.tm 7 = aB true ∧ st.tm 8 = aI N ∧ st.tm 9 = lI c ∧ st.tm 10 = aB true ∧ st.tm 11 = lL G ∧ st.tm 12 = aI i ∧ st.tm 13 = aI x) ?_ ?_
  · simp [go_sem, e4, e7, e8, e9, e10, e11, e12]
  clear e4 e7 e8 e9 e10 e11 e12
  clear st
  rintro x st hx ⟨e4, e7, e8, e9, e10, e11, e12, e13⟩
  by_cases hxn : x < N
  case neg =>
    have hge : x = N := by omega
    subst hge
    simp [go_sem, e4, e7, e8, e9, e10, e11, e12, e13, hig]
    exact wrap_i64 (by omega) (by omega)
  have h1 := hp.ap_eq hxn
  have h2 := hp.ap_lt hxn
  have h3 := hc x hxn
  have hxq : x < q.length := by rw [hp.len]; exact hxn
  have hxc : x < c.length := by rw [S.len]; exact hxn
  have hyc : ap q x < c.length := by rw [S.len]; exact h2
  rw [gI_eq hxq] at h1
  rw [gI_eq hyc, gI_eq hxc] at h3
  generalize ap q x = y at *
  simp [go_sem, e4, e7, e8, e9, e10, e11, e12, e13, hig, hxn]
  refine DrawGo.intro (by kernel_rfl) ?_
  simp [go_sem, e4, e7, e8, e9, e10, e11, e12, e13, hig, hxn, hxc, hgq, hxq, h1, hyc, h3]
  exact wrap_i64 (by omega) (by omega)
end Go.Proofs.Ytiophnmdopoeeaa.W1

namespace Go.Proofs.Ytiophnmdopoeeaa.ZRefineRespected
open Go Go.Ev Go.Proofs Go.Proofs.Ytiophnmdopoeeaa Go.RowKit Go.ChangeShapes Go.WideShapes
set_option linter.unusedVariables false

theorem own : ownKnob Try.prog.godebug = none := by kernel_rfl
theorem laid : laidOutB Try.prog = true := by kernel_rfl
theorem aSpec : ArgSh Try.prog 27 eSp okSp := ArgSh.struct (by kernel_rfl) D.shSpec
theorem aScope : ArgSh Try.prog 30 eSc okSc := ArgSh.struct (by kernel_rfl) D.shScope
theorem aBounds : ArgSh Try.prog 31 lBd (fun b => b.length ≤ maxLen ∧ ∀ x, x ∈ b → okBd x) := ArgSh.slice D.unBounds D.shBounds

theorem law (sp : Sp) (sc : Sc) (b : List Bd) (h1 : okSp sp) (h2 : okSc sc) (h3 : b.length ≤ maxLen ∧ ∀ x, x ∈ b → okBd x) : SoundP Try.prog 4 [eSp sp, eSc sc, lBd b] (aB true) :=
  W1.respectedU sp sc b (fun f hf => Nat.le_trans (h1.fields f hf).sorts.1 (Nat.le_of_ble_eq_true (by kernel_rfl)))

set_option maxRecDepth 100000 in
theorem lifted (os : Os) (started : os.Started) (H : Type) (enc : TypeId × Value → H) :
    ReturnsInHanded {} Try.checked os 4 .any (Rows.refineRespectedSpec.pre6 enc Try.prog Try.f4 Rows.refineRespectedRow.domain false) (Rows.refineRespectedSpec.post enc Try.prog Try.f4 false true false false) := by
  refine returnsInHanded_of_change (C := Try.checked) own started (by kernel_rfl) Try.func4
    (ChangeSpec.witness6 (enc := enc) (C := Try.checked) false ⟨#[], #[.agg #[.slice none 0 0, .slice none 0 0, .slice none 0 0, .slice none 0 0], .agg #[.slice none 0 0, .int .i64 0], .slice none 0 0], []⟩ 8 (by kernel_rfl) (by kernel_rfl) (by kernel_rfl) (by kernel_rfl)) ?_
  intro W base args ds gs before hval hW h8 h9
  exact law_row (ts := [27, 30, 31]) (tb := 4) (by kernel_rfl) (.cons aSpec (.cons aScope (.cons aBounds .nil))) rfl
    (fun H ds h => by match ds, h with | [_, _, _], h10 => rfl) (by kernel_rfl) D.unBool laid (by kernel_rfl) (fun a h => law a.1 a.2.1 a.2.2.1 h.1 h.2.1 h.2.2.1) H enc W base args ds gs before hval hW

theorem holds : Rows.RefineRespectedSaid :=
  OpenClaim.holds_of_wide 4 Try.f4 rfl rfl rfl rfl rfl rfl rfl ⟨rfl, rfl, rfl, rfl, rfl⟩ rfl rfl rfl rfl rfl (by kernel_rfl) Try.func4 (by kernel_rfl)
    (of_decide_eq_true (by kernel_rfl)) (by unfold Func.isWrapper; first | (rw [if_pos (by decide +kernel)]; kernel_rfl) | (rw [if_neg (by decide +kernel)]; exact ⟨rfl, rfl⟩))
    (fun os started H enc h11 => lifted os started H enc)
end Go.Proofs.Ytiophnmdopoeeaa.ZRefineRespected
