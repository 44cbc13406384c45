/-
  For every specification, scope and bounds that armatureref12.Fits accepts with at most 6 atoms, and at least one field: without the last field and its bounds, atoms that were in one class of refine.Classes are in one class, each permutation of refine.Group is in the group without the field, and the size of that group is a multiple of the size of the group; for all others the law returns true at once. Conditions: none beside those of the given statement Rows.RefineMonotonicSaid.
-/
import Derived.Test.YtiophnmdopoeeaaRows
import Derived.WalkKit
import Derived.JoinedCond
import Derived.Test.YtiophnmdopoeeaaMe

set_option linter.unusedVariables false
set_option linter.unusedSimpArgs false
set_option maxRecDepth 100000
namespace Go.Proofs.Ytiophnmdopoeeaa.W5
open Go Go.Ev Go.Proofs Go.Proofs.Ytiophnmdopoeeaa.C1 Go.Proofs.Ytiophnmdopoeeaa.C2 Go.Proofs.Ytiophnmdopoeeaa.C3 Go.Proofs.Ytiophnmdopoeeaa.C4 Go.Proofs.Ytiophnmdopoeeaa.C5 Go.Proofs.Ytiophnmdopoeeaa.C6 Go.Proofs.Ytiophnmdopoeeaa.C7 Go.Proofs.Ytiophnmdopoeeaa.C8 Go.Proofs.Ytiophnmdopoeeaa.C9 Go.Proofs.Ytiophnmdopoeeaa.C10 Go.Proofs.Ytiophnmdopoeeaa.C11 Go.Proofs.Ytiophnmdopoeeaa.C12 Go.Proofs.Ytiophnmdopoeeaa.C13 Go.Proofs.Ytiophnmdopoeeaa.C14 Go.Proofs.Ytiophnmdopoeeaa.C15 Go.Proofs.Ytiophnmdopoeeaa.C16 Go.Proofs.Ytiophnmdopoeeaa.C17 Go.Proofs.Ytiophnmdopoeeaa.C18 Go.Proofs.Ytiophnmdopoeeaa.C19 Go.Proofs.Ytiophnmdopoeeaa.C20 Go.Proofs.Ytiophnmdopoeeaa.C21 Go.Proofs.Ytiophnmdopoeeaa.C22 Go.Proofs.Ytiophnmdopoeeaa.C23 Go.Proofs.Ytiophnmdopoeeaa.C24 Go.Proofs.Ytiophnmdopoeeaa.C25 Go.Proofs.Ytiophnmdopoeeaa.C26 Go.Proofs.Ytiophnmdopoeeaa.C27 Go.Proofs.Ytiophnmdopoeeaa.C28 Go.Proofs.Ytiophnmdopoeeaa.C29 Go.Proofs.Ytiophnmdopoeeaa.C30 Go.Proofs.Ytiophnmdopoeeaa.C31 Go.Proofs.Ytiophnmdopoeeaa.C32 Go.Proofs.Ytiophnmdopoeeaa.C33 Go.Proofs.Ytiophnmdopoeeaa.C34 Go.Proofs.Ytiophnmdopoeeaa.C35 Go.Proofs.Ytiophnmdopoeeaa.L1 Go.Proofs.Ytiophnmdopoeeaa.L2 Go.Proofs.Ytiophnmdopoeeaa.L3 Go.Proofs.Ytiophnmdopoeeaa.L4 Go.Proofs.Ytiophnmdopoeeaa.L5 Go.Proofs.Ytiophnmdopoeeaa.L6 Go.Proofs.Ytiophnmdopoeeaa.L7 Go.Proofs.Ytiophnmdopoeeaa.L8 Go.Proofs.Ytiophnmdopoeeaa.L9 Go.Proofs.Ytiophnmdopoeeaa.L10 Go.Proofs.Ytiophnmdopoeeaa.L11 Go.Proofs.Ytiophnmdopoeeaa.L12 Go.Proofs.Ytiophnmdopoeeaa.L13

theorem monotonicU (sp : Sp) (sc : Sc) (bs : List Bd) (hf : ∀ f, f ∈ sp.fields → f.sorts.length ≤ 9223372036854775807) :
    SoundP Try.prog 6 [eSp sp, eSc sc, lBd bs] (aB true) := by
  refine SoundP.of_sound (Sound.of_awp Try.call6 Try.func6 rfl (Nat.le_of_ble_eq_true (by kernel_rfl)) (by kernel_rfl) (pl := {}) ?_)
  simp [go_sem]
  refine CallStep.pure headU .nil ?_
  simp [go_sem]
  refine CallStep.pure (fits12 sp sc bs 6 hf) (.cons (.hf (hf_eSp sp)) (.cons (.hf (hf_eSc sc)) (.cons (.hf (hf_lBd bs)) (.cons (.hf (HF.sc _)) .nil)))) ?_
  by_cases hfit : fitsOk sp sc bs 6 = true
  case neg =>
    simp only [Bool.not_eq_true] at hfit
    simp [go_sem, hfit]
    exact .hf _ (HF.sc _)
  by_cases hb0 : bs = []
  · subst hb0
    simp [go_sem, hfit]
    exact .hf _ (HF.sc _)
  have hbp : 0 < bs.length := List.length_pos_iff.2 hb0
  obtain ⟨N, F⟩ := Fit.of hfit
  obtain ⟨K, hK⟩ : ∃ K, bs.length = K + 1 := ⟨bs.length - 1, by omega⟩
  have hlf := less_fits hfit
  rw [hK, Nat.add_sub_cancel] at hlf
  obtain ⟨N', F'⟩ := Fit.of hlf
  have hNN : N' = N := by have := F.hN; have := F'.hN; omega
  subst hNN
  have hN6 : N' ≤ 6 := by have := F.le; omega
  have hfl : sp.fields.length = K + 1 := by rw [← hK]; exact F.bl.symm
  have hb6 := F.b6
  have hfl0 : ¬ (sp.fields.length : Int) = 0 := by omega
  obtain ⟨m, hm, S⟩ := stableF (sp := sp) F.hN F.g
  obtain ⟨m', hm', S'⟩ := stableF (sp := lessSp sp) F'.hN F'.g
  have hcl := fun x y (hx : x < N') (hy : y < N') => less_class (sp := sp) F.hN F.g (n := K) hx hy
  have hgr := fun q (h : q ∈ grpS sp sc N' bs) => less_grp F F' h
  have hcU := classesU sp sc F.u F.hsp bs F.gb
  have hcU' := classesU (lessSp sp) sc F'.u F'.hsp _ F'.gb
  have hgU := groupU sp sc F.u N' F.hN hN6 F.hsp bs F.gb
  have hgU' := groupU (lessSp sp) sc F'.u N' F'.hN hN6 F'.hsp _ F'.gb
  change SoundP _ _ _ (lL (grpS sp sc N' bs)) at hgU
  change SoundP _ _ _ (lL (grpS (lessSp sp) sc N' (bs.take K))) at hgU'
  obtain ⟨c0, hlag⟩ := lagrangeL (grp_nodup sp sc N' bs) (grp_nodup (lessSp sp) sc N' (bs.take K)) hgr (fun q hq => ((mem_grp F').1 hq).1.perm) (fun p hp q hq => grp_comp F' hp hq) (fun p hp q hq => grp_comp F hp hq) (fun p hp => grp_inv F hp) (grp_id F)
  have hgid := grp_id F
  have hGq' : ∀ q, q ∈ grpS (lessSp sp) sc N' (bs.take K) → q.length ≤ 9223372036854775807 := fun q hq => by rw [((mem_grp F').1 hq).1.perm.len]; omega
  have hpw : N' ^ N' ≤ 46656 := by
    have h2 : N' ^ N' ≤ 6 ^ 6 := Nat.le_trans (Nat.pow_le_pow_left hN6 N') (Nat.pow_le_pow_right (by omega) hN6)
    simpa using h2
  have hglen : (grpS sp sc N' bs).length ≤ 46656 := Nat.le_trans (extG_len N' (stableS sp sc bs).1 (consB N' (relsOf bs)) N' []) hpw
  have hglen' : (grpS (lessSp sp) sc N' (bs.take K)).length ≤ 46656 := Nat.le_trans (extG_len N' (stableS (lessSp sp) sc (bs.take K)).1 (consB N' (relsOf (bs.take K))) N' []) hpw
  unfold classesS at hcU hcU'
  rw [hm, S.len, Int.toNat_natCast] at hcU
  rw [hm', S'.len, Int.toNat_natCast] at hcU'
  have hnum := numbersU N' F.le12 _ m (by have := S.mle; have := F.le12; omega) S.len S.rng
  have hnum' := numbersU N' F.le12 _ m' (by have := S'.mle; have := F.le12; omega) S'.len S'.rng
  have hcl1 := S.len
  have hcl2 := S'.len
  clear S S' hm hm'
  generalize (stableS sp sc bs).1 = c at *
  generalize (stableS (lessSp sp) sc (bs.take K)).1 = c' at *
  generalize grpS sp sc N' bs = G at *
  generalize grpS (lessSp sp) sc N' (bs.take K) = G' at *
  have hGpos : 0 < G.length := List.length_pos_iff.2 (fun e => by rw [e] at hgid; simp at hgid)
  have heq : (AV.agg [AV.lst false (sp.sorts.map cSort), AV.lst false ((sp.fields.map cField).take K), AV.lst false sp.preds, AV.lst false sp.facts]) = eSp (lessSp sp) := by
    simp [eSp, lessSp, hfl]
  have heb : AV.lst false ((bs.map cBd).take K) = lBd (bs.take K) := by simp
  have hwK : IntKind.i64.wrap (K : Int) = K := wrap_i64 (by omega) (by omega)
  have hrf : rowsOk 3 (sp.fields.map cField) := fun r hr => by
    obtain ⟨f, _, rfl⟩ := List.mem_map.1 hr
    rfl
  have hrb : rowsOk 4 (bs.map cBd) := fun r hr => by
    obtain ⟨f, _, rfl⟩ := List.mem_map.1 hr
    rfl
  have hk0 : ¬ (K : Int) + 1 = 0 := by omega
  have hk1 : (K : Int) ≤ (K : Int) + 1 := by omega
  simp [go_sem, hfit, hb0, hK, hfl, hwK, hk0, hk1]
  refine ⟨⟨_, _, ⟨rfl, rfl⟩, hrf⟩, ?_⟩
  refine ⟨⟨_, _, ⟨rfl, rfl⟩, hrb⟩, ?_⟩
  have argsL : WKs [AV.agg [AV.lst false (sp.sorts.map cSort), AV.lst false ((sp.fields.map cField).take K), AV.lst false sp.preds, AV.lst false sp.facts], eSc sc, AV.lst false ((bs.map cBd).take K)] [eSp (lessSp sp), eSc sc, lBd (bs.take K)] := by
    rw [heq, heb]; exact args3 (lessSp sp) sc (bs.take K)
  refine CallStep.pure (atomsU sc F.u.g) (.cons (.hf (hf_eSc sc)) .nil) ?_
  rw [F.hN]
  simp [go_sem]
  refine CallStep.pure hcU (args3 sp sc bs) ?_
  simp [go_sem]
  refine CallStep.pure hnum (.cons (.hf (HF.sc _)) (.cons (.hf (hf_lL _)) .nil)) ?_
  simp [go_sem]
  refine CallStep.pure hcU' argsL ?_
  simp [go_sem]
  refine CallStep.pure hnum' (.cons (.hf (HF.sc _)) (.cons (.hf (hf_lL _)) .nil)) ?_
  simp [go_sem]
  refine LoopGo.up N' (fun i st => st.tm 2 = lBd bs ∧ st.tm 3 = .ip [.lst false (sp.sorts.map cSort), .lst false (sp.fields.map cField), .lst false sp.preds, .lst false sp.facts] ∧ st.tm 4 = .ip [lI sc.atoms, aI sc.steps] ∧ st.tm 7 = aB true ∧ st.tm 8 = .ptr 0 0 ∧ st.tm 9 = .lst false ((bs.map cBd).take K) ∧ st.tm 10 = aI N' ∧ st.tm 11 = lI c ∧ st.tm 12 = aB true ∧ st.tm 13 = lI c' ∧ st.tm 14 = aB true ∧ st.mu = [.arr [.lst false (sp.sorts.map cSort), .lst false ((sp.fields.map cField).take K), .lst false sp.preds, .lst false sp.facts]] ∧ st.tm 15 = aI i) ?_ ?_
  · simp [go_sem]
  rintro i st hi ⟨e2, e3, e4, e7, e8, e9, e10, e11, e12, e13, e14, hm, e15⟩
  by_cases hiN : i < N'
  case pos =>
    have hic : i < c.length := by omega
    have hic' : i < c'.length := by omega
    simp [go_sem, e2, e3, e4, e7, e8, e9, e10, e11, e12, e13, e14, hm, e15, hiN]
    refine LoopGo.up i (fun k st => st.tm 2 = lBd bs ∧ st.tm 3 = .ip [.lst false (sp.sorts.map cSort), .lst false (sp.fields.map cField), .lst false sp.preds, .lst false sp.facts] ∧ st.tm 4 = .ip [lI sc.atoms, aI sc.steps] ∧ st.tm 7 = aB true ∧ st.tm 8 = .ptr 0 0 ∧ st.tm 9 = .lst false ((bs.map cBd).take K) ∧ st.tm 10 = aI N' ∧ st.tm 11 = lI c ∧ st.tm 12 = aB true ∧ st.tm 13 = lI c' ∧ st.tm 14 = aB true ∧ st.mu = [.arr [.lst false (sp.sorts.map cSort), .lst false ((sp.fields.map cField).take K), .lst false sp.preds, .lst false sp.facts]] ∧ st.tm 15 = aI i ∧ st.tm 16 = aI k) ?_ ?_
    · simp [go_sem, e2, e3, e4, e7, e8, e9, e10, e11, e12, e13, e14, hm, e15]
    clear e2 e3 e4 e7 e8 e9 e10 e11 e12 e13 e14 hm e15
    clear st
    rintro k st hk ⟨e2, e3, e4, e7, e8, e9, e10, e11, e12, e13, e14, hm, e15, e16⟩
    by_cases hki : k < i
    case neg =>
      have hge : k = i := by omega
      subst hge
      simp [go_sem, e2, e3, e4, e7, e8, e9, e10, e11, e12, e13, e14, hm, e15, e16]
      exact ⟨hiN, wrap_i64 (by omega) (by omega)⟩
    have hkc : k < c.length := by omega
    have hkc' : k < c'.length := by omega
    have hh := hcl i k hiN (by omega)
    unfold EQ at hh
    rw [gI_eq hic, gI_eq hkc, gI_eq hic', gI_eq hkc'] at hh
    simp [go_sem, e2, e3, e4, e7, e8, e9, e10, e11, e12, e13, e14, hm, e15, e16, hki]
    refine DrawGo.intro (by kernel_rfl) ?_
    by_cases h1 : c[i] = c[k]
    · have h2 := hh h1
      simp [go_sem, e2, e3, e4, e7, e8, e9, e10, e11, e12, e13, e14, hm, e15, e16, hic, hkc, hic', hkc', h1, h2]
      exact ⟨hki, wrap_i64 (by omega) (by omega)⟩
    · simp [go_sem, e2, e3, e4, e7, e8, e9, e10, e11, e12, e13, e14, hm, e15, e16, hic, hkc, hic', hkc', h1]
      exact ⟨hki, wrap_i64 (by omega) (by omega)⟩
  have hge : i = N' := by omega
  subst hge
  simp [go_sem, e2, e3, e4, e7, e8, e9, e10, e11, e12, e13, e14, hm, e15]
  refine DrawGo.intro (by kernel_rfl) ?_
  simp [go_sem, e2, e3, e4, e7, e8, e9, e10, e11, e12, e13, e14, hm, e15]
  refine CallStep.pure hgU (args3 sp sc bs) ?_
  simp [go_sem, e2, e3, e4, e7, e8, e9, e10, e11, e12, e13, e14, hm, e15]
  refine CallStep.pure hgU' argsL ?_
  simp [go_sem, e2, e3, e4, e7, e8, e9, e10, e11, e12, e13, e14, hm, e15]
  refine LoopGo.up G.length (fun i st => st.tm 7 = aB true ∧ st.tm 12 = aB true ∧ st.tm 14 = aB true ∧ st.tm 17 = lL G ∧ st.tm 18 = lL G' ∧ st.tm 19 = aI i) ?_ ?_
  · simp [go_sem, e2, e3, e4, e7, e8, e9, e10, e11, e12, e13, e14, hm, e15]
  clear e2 e3 e4 e7 e8 e9 e10 e11 e12 e13 e14 hm e15
  clear st
  rintro k st hk ⟨e7, e12, e14, e17, e18, e19⟩
  by_cases hkG : k < G.length
  case neg =>
    have hge : k = G.length := by omega
    subst hge
    have hmx : (if 1 < (G.length : Int) then (G.length : Int) else 1) = (G.length : Int) := by omega
    have hne : ¬ (G.length : Int) = 0 := by omega
    have hmod : ((G'.length : Int)).tmod (G.length : Int) = 0 := by
      rw [hlag]
      rw [Int.natCast_mul]
      exact Int.mul_tmod_left _ _
    simp [go_sem, e7, e12, e14, e17, e18, e19, hmx, hne, hmod, List.length_pos_iff.1 hGpos]
    exact .hf _ (HF.sc _)
  have hmem := hgr _ (List.getElem_mem hkG)
  generalize hgq : G[k] = q at *
  simp [go_sem, e7, e12, e14, e17, e18, e19, hkG, hgq]
  refine CallStep.pure (holds_ok G' q (by omega) hGq') (.cons (.hf (hf_lL _)) (.cons (.hf (hf_lI q)) .nil)) ?_
  simp [go_sem, e7, e12, e14, e17, e18, e19, hkG, hmem]
  exact wrap_i64 (by omega) (by omega)
end Go.Proofs.Ytiophnmdopoeeaa.W5

namespace Go.Proofs.Ytiophnmdopoeeaa.ZRefineMonotonic
open Go Go.Ev Go.Proofs Go.Proofs.Ytiophnmdopoeeaa Go.RowKit Go.ChangeShapes Go.WideShapes
set_option linter.unusedVariables false

theorem own : ownKnob Try.prog.godebug = none := by kernel_rfl
theorem laid : laidOutB Try.prog = true := by kernel_rfl
theorem aSpec : ArgSh Try.prog 27 eSp okSp := ArgSh.struct (by kernel_rfl) D.shSpec
theorem aScope : ArgSh Try.prog 30 eSc okSc := ArgSh.struct (by kernel_rfl) D.shScope
theorem aBounds : ArgSh Try.prog 31 lBd (fun b => b.length ≤ maxLen ∧ ∀ x, x ∈ b → okBd x) := ArgSh.slice D.unBounds D.shBounds

theorem law (sp : Sp) (sc : Sc) (b : List Bd) (h1 : okSp sp) (h2 : okSc sc) (h3 : b.length ≤ maxLen ∧ ∀ x, x ∈ b → okBd x) : SoundP Try.prog 6 [eSp sp, eSc sc, lBd b] (aB true) :=
  W5.monotonicU sp sc b (fun f hf => Nat.le_trans (h1.fields f hf).sorts.1 (Nat.le_of_ble_eq_true (by kernel_rfl)))

set_option maxRecDepth 100000 in
theorem lifted (os : Os) (started : os.Started) (H : Type) (enc : TypeId × Value → H) :
    ReturnsInHanded {} Try.checked os 6 .any (Rows.refineMonotonicSpec.pre6 enc Try.prog Try.f6 Rows.refineMonotonicRow.domain false) (Rows.refineMonotonicSpec.post enc Try.prog Try.f6 false true false false) := by
  refine returnsInHanded_of_change (C := Try.checked) own started (by kernel_rfl) Try.func6
    (ChangeSpec.witness6 (enc := enc) (C := Try.checked) false ⟨#[], #[.agg #[.slice none 0 0, .slice none 0 0, .slice none 0 0, .slice none 0 0], .agg #[.slice none 0 0, .int .i64 0], .slice none 0 0], []⟩ 8 (by kernel_rfl) (by kernel_rfl) (by kernel_rfl) (by kernel_rfl)) ?_
  intro W base args ds gs before hval hW h8 h9
  exact law_row (ts := [27, 30, 31]) (tb := 4) (by kernel_rfl) (.cons aSpec (.cons aScope (.cons aBounds .nil))) rfl
    (fun H ds h => by match ds, h with | [_, _, _], h10 => rfl) (by kernel_rfl) D.unBool laid (by kernel_rfl) (fun a h => law a.1 a.2.1 a.2.2.1 h.1 h.2.1 h.2.2.1) H enc W base args ds gs before hval hW

theorem holds : Rows.RefineMonotonicSaid :=
  OpenClaim.holds_of_wide 6 Try.f6 rfl rfl rfl rfl rfl rfl rfl ⟨rfl, rfl, rfl, rfl, rfl⟩ rfl rfl rfl rfl rfl (by kernel_rfl) Try.func6 (by kernel_rfl)
    (of_decide_eq_true (by kernel_rfl)) (by unfold Func.isWrapper; first | (rw [if_pos (by decide +kernel)]; kernel_rfl) | (rw [if_neg (by decide +kernel)]; exact ⟨rfl, rfl⟩))
    (fun os started H enc h11 => lifted os started H enc)
end Go.Proofs.Ytiophnmdopoeeaa.ZRefineMonotonic
