/-
  For every specification, scope and bounds that armatureref12.Fits accepts with at most 6 atoms, and all two numbers of 16 bits, refine.Group returns at least one permutation; of the two that the numbers choose both are valid (permute.Valid), and the list holds their composition, the inverse of the first, and the composition of the first with its inverse; for all others the law returns true at once. Conditions: none beside those of the given statement Rows.RefineGroupSaid.
-/
import Derived.Test.YtiophnmdopoeeaaRows
import Derived.WalkKit
import Derived.JoinedCond
import Derived.Test.YtiophnmdopoeeaaMe

set_option linter.unusedVariables false
set_option linter.unusedSimpArgs false
set_option maxRecDepth 100000
namespace Go.Proofs.Ytiophnmdopoeeaa.W3
open Go Go.Ev Go.Proofs Go.Proofs.Ytiophnmdopoeeaa.C1 Go.Proofs.Ytiophnmdopoeeaa.C2 Go.Proofs.Ytiophnmdopoeeaa.C3 Go.Proofs.Ytiophnmdopoeeaa.C4 Go.Proofs.Ytiophnmdopoeeaa.C5 Go.Proofs.Ytiophnmdopoeeaa.C6 Go.Proofs.Ytiophnmdopoeeaa.C7 Go.Proofs.Ytiophnmdopoeeaa.C8 Go.Proofs.Ytiophnmdopoeeaa.C9 Go.Proofs.Ytiophnmdopoeeaa.C10 Go.Proofs.Ytiophnmdopoeeaa.C11 Go.Proofs.Ytiophnmdopoeeaa.C12 Go.Proofs.Ytiophnmdopoeeaa.C13 Go.Proofs.Ytiophnmdopoeeaa.C14 Go.Proofs.Ytiophnmdopoeeaa.C15 Go.Proofs.Ytiophnmdopoeeaa.C16 Go.Proofs.Ytiophnmdopoeeaa.C17 Go.Proofs.Ytiophnmdopoeeaa.C18 Go.Proofs.Ytiophnmdopoeeaa.C19 Go.Proofs.Ytiophnmdopoeeaa.C20 Go.Proofs.Ytiophnmdopoeeaa.C21 Go.Proofs.Ytiophnmdopoeeaa.C22 Go.Proofs.Ytiophnmdopoeeaa.C23 Go.Proofs.Ytiophnmdopoeeaa.C24 Go.Proofs.Ytiophnmdopoeeaa.C25 Go.Proofs.Ytiophnmdopoeeaa.C26 Go.Proofs.Ytiophnmdopoeeaa.C27 Go.Proofs.Ytiophnmdopoeeaa.C28 Go.Proofs.Ytiophnmdopoeeaa.C29 Go.Proofs.Ytiophnmdopoeeaa.C30 Go.Proofs.Ytiophnmdopoeeaa.C31 Go.Proofs.Ytiophnmdopoeeaa.C32 Go.Proofs.Ytiophnmdopoeeaa.C33 Go.Proofs.Ytiophnmdopoeeaa.C34 Go.Proofs.Ytiophnmdopoeeaa.C35 Go.Proofs.Ytiophnmdopoeeaa.L1 Go.Proofs.Ytiophnmdopoeeaa.L2 Go.Proofs.Ytiophnmdopoeeaa.L3 Go.Proofs.Ytiophnmdopoeeaa.L4 Go.Proofs.Ytiophnmdopoeeaa.L5 Go.Proofs.Ytiophnmdopoeeaa.L6 Go.Proofs.Ytiophnmdopoeeaa.L7 Go.Proofs.Ytiophnmdopoeeaa.L8 Go.Proofs.Ytiophnmdopoeeaa.L9 Go.Proofs.Ytiophnmdopoeeaa.L10 Go.Proofs.Ytiophnmdopoeeaa.L11

theorem mod_lt {i n : Nat} (h : 0 < n) : i % n < n := Nat.mod_lt _ h
theorem groupLawU (sp : Sp) (sc : Sc) (bs : List Bd) (i k : Int) (hf : ∀ f, f ∈ sp.fields → f.sorts.length ≤ 9223372036854775807) (hi : 0 ≤ i ∧ i ≤ 65535) (hk : 0 ≤ k ∧ k ≤ 65535) :
    SoundP Try.prog 7 [eSp sp, eSc sc, lBd bs, .sc (.int .u16 i), .sc (.int .u16 k)] (aB true) := by
  refine SoundP.of_sound (Sound.of_awp Try.call7 Try.func7 rfl (Nat.le_of_ble_eq_true (by kernel_rfl)) (by kernel_rfl) (pl := {}) ?_)
  simp [go_sem]
  refine CallStep.pure headU .nil ?_
  simp [go_sem]
  refine CallStep.pure (fits12 sp sc bs 6 hf) (.cons (.hf (hf_eSp sp)) (.cons (.hf (hf_eSc sc)) (.cons (.hf (hf_lBd bs)) (.cons (.hf (HF.sc _)) .nil)))) ?_
  by_cases hfit : fitsOk sp sc bs 6 = true
  case neg =>
    simp only [Bool.not_eq_true] at hfit
    simp [go_sem, hfit]
    exact .hf _ (HF.sc _)
  obtain ⟨N, F⟩ := Fit.of hfit
  have hN6 : N ≤ 6 := by have := F.le; omega
  simp [go_sem, hfit]
  have hgrp := groupU sp sc F.u N F.hN hN6 F.hsp bs F.gb
  change SoundP _ _ _ (lL (grpS sp sc N bs)) at hgrp
  have hid := grp_id F
  have hgp := fun q (hq : q ∈ grpS sp sc N bs) => ((mem_grp F).1 hq).1.perm
  have hgk := fun q (hq : q ∈ grpS sp sc N bs) => validP_iff F.hN |>.2 ⟨((mem_grp F).1 hq).1.perm, ((mem_grp F).1 hq).1.keep⟩
  have hcomp := fun p q (hp : p ∈ grpS sp sc N bs) (hq : q ∈ grpS sp sc N bs) => grp_comp F hp hq
  have hinv := fun p (hp : p ∈ grpS sp sc N bs) => grp_inv F hp
  have hglen : (grpS sp sc N bs).length ≤ 1000000 := by
    have h1 := extG_len N (stableS sp sc bs).1 (consB N (relsOf bs)) N []
    have h2 : N ^ N ≤ 6 ^ 6 := Nat.le_trans (Nat.pow_le_pow_left hN6 N) (Nat.pow_le_pow_right (by omega) hN6)
    unfold grpS
    simp at h2; omega
  refine CallStep.pure hgrp (args3 sp sc bs) ?_
  generalize grpS sp sc N bs = G at *
  have hpos : 0 < G.length := List.length_pos_iff.2 (fun e => by rw [e] at hid; simp at hid)
  have hGq : ∀ q, q ∈ G → q.length ≤ 9223372036854775807 := fun q hq => by rw [(hgp q hq).len]; omega
  have hne : ¬ (G.length : Int) = 0 := by omega
  have hGne : ¬ G = [] := fun e => by rw [e] at hpos; simp at hpos
  have ci : 0 ≤ i.tmod G.length ∧ i.tmod G.length < G.length := ⟨Int.tmod_nonneg _ hi.1, Int.tmod_lt_of_pos _ (by omega)⟩
  have ck : 0 ≤ k.tmod G.length ∧ k.tmod G.length < G.length := ⟨Int.tmod_nonneg _ hk.1, Int.tmod_lt_of_pos _ (by omega)⟩
  have wi : IntKind.i64.wrap i = i := wrap_i64 (by omega) (by omega)
  have wk : IntKind.i64.wrap k = k := wrap_i64 (by omega) (by omega)
  generalize hia : i.tmod G.length = a at *
  generalize hkb : k.tmod G.length = b at *
  have hal : a.toNat < G.length := by omega
  have hbl : b.toNat < G.length := by omega
  have hp := List.getElem_mem hal
  have hq := List.getElem_mem hbl
  generalize hpe : G[a.toNat] = p at *
  generalize hqe : G[b.toNat] = q at *
  have hpl := (hgp p hp).len
  have hql := (hgp q hq).len
  have hpr : ∀ x, x ∈ p → 0 ≤ x ∧ x < p.length := fun x hx => by rw [hpl]; exact (hgp p hp).rng x hx
  have hqr : ∀ x, x ∈ q → 0 ≤ x ∧ x < p.length := fun x hx => by rw [hpl]; exact (hgp q hq).rng x hx
  have hii := hgp _ (hinv p hp)
  have hir : ∀ x, x ∈ invL p → 0 ≤ x ∧ x < p.length := fun x hx => by rw [hpl]; exact hii.rng x hx
  simp [go_sem, hne, hGne]
  refine DrawGo.intro (by kernel_rfl) ?_
  simp [go_sem, hne, hGne, wi, wk, hia, hkb, ci, ck, hpe, hqe, hal, hbl]
  refine CallStep.pure (validU sc F.u.g F.u.n12 p) (.cons (.hf (hf_eSc sc)) (.cons (.hf (hf_lI p)) .nil)) ?_
  rw [hgk p hp]
  simp [go_sem]
  refine CallStep.pure (validU sc F.u.g F.u.n12 q) (.cons (.hf (hf_eSc sc)) (.cons (.hf (hf_lI q)) .nil)) ?_
  rw [hgk q hq]
  simp [go_sem]
  refine CallStep.pure (composeU p q (by omega) hqr) (.cons (.hf (hf_lI p)) (.cons (.hf (hf_lI q)) .nil)) ?_
  simp [go_sem]
  refine CallStep.pure (holds_ok G _ (by omega) hGq) (.cons (.hf (hf_lL _)) (.cons (.hf (hf_lI _)) .nil)) ?_
  simp [go_sem, hcomp p q hp hq]
  refine CallStep.pure (inverseU p (by omega) hpr) (.cons (.hf (hf_lI p)) .nil) ?_
  simp [go_sem]
  refine CallStep.pure (holds_ok G _ (by omega) hGq) (.cons (.hf (hf_lL _)) (.cons (.hf (hf_lI _)) .nil)) ?_
  simp [go_sem, hinv p hp]
  refine CallStep.pure (inverseU p (by omega) hpr) (.cons (.hf (hf_lI p)) .nil) ?_
  simp [go_sem]
  refine CallStep.pure (composeU p (invL p) (by have := hii.len; omega) hir) (.cons (.hf (hf_lI p)) (.cons (.hf (hf_lI _)) .nil)) ?_
  simp [go_sem]
  refine CallStep.pure (holds_ok G _ (by omega) hGq) (.cons (.hf (hf_lL _)) (.cons (.hf (hf_lI _)) .nil)) ?_
  simp [go_sem, hcomp p _ hp (hinv p hp)]
  exact .hf _ (HF.sc _)
end Go.Proofs.Ytiophnmdopoeeaa.W3

namespace Go.Proofs.Ytiophnmdopoeeaa.ZRefineGroup
open Go Go.Ev Go.Proofs Go.Proofs.Ytiophnmdopoeeaa Go.RowKit Go.ChangeShapes Go.WideShapes
set_option linter.unusedVariables false

theorem own : ownKnob Try.prog.godebug = none := by kernel_rfl
theorem laid : laidOutB Try.prog = true := by kernel_rfl
theorem aSpec : ArgSh Try.prog 27 eSp okSp := ArgSh.struct (by kernel_rfl) D.shSpec
theorem aScope : ArgSh Try.prog 30 eSc okSc := ArgSh.struct (by kernel_rfl) D.shScope
theorem aBounds : ArgSh Try.prog 31 lBd (fun b => b.length ≤ maxLen ∧ ∀ x, x ∈ b → okBd x) := ArgSh.slice D.unBounds D.shBounds
theorem unU16 : Try.prog.underlying 52 = some (.int .u16) := by kernel_rfl
theorem shU16 (N : Nat) : ShU Try.prog N 52 (fun n : Int => [.sc (.int .u16 n)]) okU16 :=
  (ShU.int unU16 N).map (fun n => n) (fun _ => rfl) (fun n h => by
    simp [Lit.wf, IntKind.min, IntKind.max, IntKind.signed, IntKind.bits] at h
    exact h)
theorem aU16 : ArgSh Try.prog 52 (fun n : Int => .sc (.int .u16 n)) okU16 := ArgSh.int unU16 shU16

theorem law (sp : Sp) (sc : Sc) (b : List Bd) (u0 : Int) (u1 : Int) (h1 : okSp sp) (h2 : okSc sc) (h3 : b.length ≤ maxLen ∧ ∀ x, x ∈ b → okBd x) (ku0 : okU16 u0) (ku1 : okU16 u1) : SoundP Try.prog 7 [eSp sp, eSc sc, lBd b, .sc (.int .u16 u0), .sc (.int .u16 u1)] (aB true) :=
  W3.groupLawU sp sc b u0 u1 (fun f hf => Nat.le_trans (h1.fields f hf).sorts.1 (Nat.le_of_ble_eq_true (by kernel_rfl))) ku0 ku1

set_option maxRecDepth 100000 in
theorem lifted (os : Os) (started : os.Started) (H : Type) (enc : TypeId × Value → H) :
    ReturnsInHanded {} Try.checked os 7 .any (Rows.refineGroupSpec.pre6 enc Try.prog Try.f7 Rows.refineGroupRow.domain false) (Rows.refineGroupSpec.post enc Try.prog Try.f7 false true false false) := by
  refine returnsInHanded_of_change (C := Try.checked) own started (by kernel_rfl) Try.func7
    (ChangeSpec.witness6 (enc := enc) (C := Try.checked) false ⟨#[], #[.agg #[.slice none 0 0, .slice none 0 0, .slice none 0 0, .slice none 0 0], .agg #[.slice none 0 0, .int .i64 0], .slice none 0 0, .int .u16 0, .int .u16 0], []⟩ 8 (by kernel_rfl) (by kernel_rfl) (by kernel_rfl) (by kernel_rfl)) ?_
  intro W base args ds gs before hval hW h8 h9
  exact law_row (ts := [27, 30, 31, 52, 52]) (tb := 4) (by kernel_rfl) (.cons aSpec (.cons aScope (.cons aBounds (.cons aU16 (.cons aU16 .nil))))) rfl
    (fun H ds h => by match ds, h with | [_, _, _, _, _], h10 => rfl) (by kernel_rfl) D.unBool laid (by kernel_rfl) (fun a h => law a.1 a.2.1 a.2.2.1 a.2.2.2.1 a.2.2.2.2.1 h.1 h.2.1 h.2.2.1 h.2.2.2.1 h.2.2.2.2.1) H enc W base args ds gs before hval hW

theorem holds : Rows.RefineGroupSaid :=
  OpenClaim.holds_of_wide 7 Try.f7 rfl rfl rfl rfl rfl rfl rfl ⟨rfl, rfl, rfl, rfl, rfl⟩ rfl rfl rfl rfl rfl (by kernel_rfl) Try.func7 (by kernel_rfl)
    (of_decide_eq_true (by kernel_rfl)) (by unfold Func.isWrapper; first | (rw [if_pos (by decide +kernel)]; kernel_rfl) | (rw [if_neg (by decide +kernel)]; exact ⟨rfl, rfl⟩))
    (fun os started H enc h11 => lifted os started H enc)
end Go.Proofs.Ytiophnmdopoeeaa.ZRefineGroup
