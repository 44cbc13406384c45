/-
  For every specification, scope and bounds that armatureref12.Fits accepts with at most 6 atoms: refine.Swaps lists, in order, exactly those pairs x < y of atoms whose exchange is in refine.Group; the atoms of a listed pair are in one class of refine.Classes; and the relation is transitive; for all others the law returns true at once. Conditions: none beside those of the given statement Rows.RefineSwapsSaid.
-/
import Derived.Test.YtiophnmdopoeeaaRows
import Derived.WalkKit
import Derived.JoinedCond
import Derived.Test.YtiophnmdopoeeaaMe

set_option linter.unusedVariables false
set_option linter.unusedSimpArgs false
set_option maxRecDepth 100000
namespace Go.Proofs.Ytiophnmdopoeeaa.W7
open Go Go.Ev Go.Proofs Go.Proofs.Ytiophnmdopoeeaa.C1 Go.Proofs.Ytiophnmdopoeeaa.C2 Go.Proofs.Ytiophnmdopoeeaa.C3 Go.Proofs.Ytiophnmdopoeeaa.C4 Go.Proofs.Ytiophnmdopoeeaa.C5 Go.Proofs.Ytiophnmdopoeeaa.C6 Go.Proofs.Ytiophnmdopoeeaa.C7 Go.Proofs.Ytiophnmdopoeeaa.C8 Go.Proofs.Ytiophnmdopoeeaa.C9 Go.Proofs.Ytiophnmdopoeeaa.C10 Go.Proofs.Ytiophnmdopoeeaa.C11 Go.Proofs.Ytiophnmdopoeeaa.C12 Go.Proofs.Ytiophnmdopoeeaa.C13 Go.Proofs.Ytiophnmdopoeeaa.C14 Go.Proofs.Ytiophnmdopoeeaa.C15 Go.Proofs.Ytiophnmdopoeeaa.C16 Go.Proofs.Ytiophnmdopoeeaa.C17 Go.Proofs.Ytiophnmdopoeeaa.C18 Go.Proofs.Ytiophnmdopoeeaa.C19 Go.Proofs.Ytiophnmdopoeeaa.C20 Go.Proofs.Ytiophnmdopoeeaa.C21 Go.Proofs.Ytiophnmdopoeeaa.C22 Go.Proofs.Ytiophnmdopoeeaa.C23 Go.Proofs.Ytiophnmdopoeeaa.C24 Go.Proofs.Ytiophnmdopoeeaa.C25 Go.Proofs.Ytiophnmdopoeeaa.C26 Go.Proofs.Ytiophnmdopoeeaa.C27 Go.Proofs.Ytiophnmdopoeeaa.C28 Go.Proofs.Ytiophnmdopoeeaa.C29 Go.Proofs.Ytiophnmdopoeeaa.C30 Go.Proofs.Ytiophnmdopoeeaa.C31 Go.Proofs.Ytiophnmdopoeeaa.C32 Go.Proofs.Ytiophnmdopoeeaa.C33 Go.Proofs.Ytiophnmdopoeeaa.C34 Go.Proofs.Ytiophnmdopoeeaa.C35 Go.Proofs.Ytiophnmdopoeeaa.L1 Go.Proofs.Ytiophnmdopoeeaa.L2 Go.Proofs.Ytiophnmdopoeeaa.L3 Go.Proofs.Ytiophnmdopoeeaa.L4 Go.Proofs.Ytiophnmdopoeeaa.L5 Go.Proofs.Ytiophnmdopoeeaa.L6 Go.Proofs.Ytiophnmdopoeeaa.L7 Go.Proofs.Ytiophnmdopoeeaa.L8 Go.Proofs.Ytiophnmdopoeeaa.L9 Go.Proofs.Ytiophnmdopoeeaa.L10 Go.Proofs.Ytiophnmdopoeeaa.L11 Go.Proofs.Ytiophnmdopoeeaa.L12 Go.Proofs.Ytiophnmdopoeeaa.L13 Go.Proofs.Ytiophnmdopoeeaa.L14

/-- the matrix of pairs -/
def canC (g : Nat → Nat → Bool) : List AV := (List.range 144).map fun i => aB (g (i / 12) (i % 12))
def upd (g : Nat → Nat → Bool) (x y : Nat) (v : Bool) (a b : Nat) : Bool := if a = x ∧ b = y then v else g a b
theorem canC_len (g : Nat → Nat → Bool) : (canC g).length = 144 := by simp [canC]
theorem canC_get {g : Nat → Nat → Bool} {x y : Nat} (hx : x < 12) (hy : y < 12) : (canC g)[x * 12 + y]? = some (aB (g x y)) := by
  have h : x * 12 + y < 144 := by omega
  simp [canC, h, show (x * 12 + y) / 12 = x by omega, show (x * 12 + y) % 12 = y by omega]
theorem canC_set {g : Nat → Nat → Bool} {x y : Nat} {v : Bool} (hx : x < 12) (hy : y < 12) : (canC g).set (x * 12 + y) (aB v) = canC (upd g x y v) := by
  apply List.ext_getElem?
  intro i
  by_cases hi : i < 144
  · rw [List.getElem?_set]
    have e2 : ∀ h : Nat → Nat → Bool, (canC h)[i]? = some (aB (h (i / 12) (i % 12))) := fun h => by simp [canC, hi]
    rw [e2, e2, canC_len, upd]
    by_cases e : x * 12 + y = i
    · rw [if_pos e, if_pos (by omega), if_pos (by omega)]
    · rw [if_neg e, if_neg (by omega)]
  · rw [List.getElem?_eq_none (by simp [canC_len]; omega), List.getElem?_eq_none (by simp [canC_len]; omega)]
theorem upd_ok {N x y : Nat} {g : Nat → Nat → Bool} {sw : Nat → Nat → Bool} {v : Bool} (hsy : ∀ a b, sw a b = sw b a) (hv : sw x y = v) (hxy : x < y) (hy : y < N) (hg0 : ∀ a, g a a = false)
    (hg : ∀ a b, a < N → b < N → a ≠ b → (min a b < x ∨ (min a b = x ∧ max a b < y)) → g a b = sw a b) :
    (∀ a, upd (upd g x y v) y x v a a = false) ∧ ∀ a b, a < N → b < N → a ≠ b → (min a b < x ∨ (min a b = x ∧ max a b < y + 1)) → upd (upd g x y v) y x v a b = sw a b := by
  refine ⟨fun a => ?_, fun a b ha hb hne h => ?_⟩
  · unfold upd
    rw [if_neg (by omega), if_neg (by omega)]; exact hg0 a
  · unfold upd
    by_cases h1 : a = y ∧ b = x
    · rw [if_pos h1, h1.1, h1.2, hsy, hv]
    · rw [if_neg h1]
      by_cases h2 : a = x ∧ b = y
      · rw [if_pos h2, h2.1, h2.2, hv]
      · rw [if_neg h2]
        exact hg a b ha hb hne (by omega)
theorem swapsLawU (sp : Sp) (sc : Sc) (bs : List Bd) (hf : ∀ f, f ∈ sp.fields → f.sorts.length ≤ 9223372036854775807) :
    SoundP Try.prog 5 [eSp sp, eSc sc, lBd bs] (aB true) := by
  refine SoundP.of_sound (Sound.of_awp Try.call5 Try.func5 rfl (Nat.le_of_ble_eq_true (by kernel_rfl)) (by kernel_rfl) (pl := {}) ?_)
  simp [go_sem]
  refine CallStep.pure headU .nil ?_
  simp [go_sem]
  refine CallStep.pure (fits12 sp sc bs 6 hf) (.cons (.hf (hf_eSp sp)) (.cons (.hf (hf_eSc sc)) (.cons (.hf (hf_lBd bs)) (.cons (.hf (HF.sc _)) .nil)))) ?_
  by_cases hfit : fitsOk sp sc bs 6 = true
  case neg =>
    simp only [Bool.not_eq_true] at hfit
    simp [go_sem, hfit]
    exact .hf _ (HF.sc _)
  obtain ⟨N, F⟩ := Fit.of hfit
  have hN6 : N ≤ 6 := by have := F.le; omega
  simp [go_sem, hfit]
  refine CallStep.pure (atomsU sc F.u.g) (.cons (.hf (hf_eSc sc)) .nil) ?_
  rw [F.hN]
  simp [go_sem]
  refine CallStep.pure (classesU sp sc F.u F.hsp bs F.gb) (args3 sp sc bs) ?_
  obtain ⟨m, hm, S⟩ := stableF (sp := sp) F.hN F.g
  have hgrp := groupU sp sc F.u N F.hN hN6 F.hsp bs F.gb
  change SoundP _ _ _ (lL (grpS sp sc N bs)) at hgrp
  have hsw := swapsU sp sc F.u F.hsp bs F.gb
  have hgp := fun q (hq : q ∈ grpS sp sc N bs) => ((mem_grp F).1 hq).1.perm
  have hcomp := fun p q (hp : p ∈ grpS sp sc N bs) (hq : q ∈ grpS sp sc N bs) => grp_comp F hp hq
  have hcond := fun x y (hx : x < N) (hy : y < N) => swap_cond F hx hy
  have hglen : (grpS sp sc N bs).length ≤ 1000000 := by
    have h1 := extG_len N (stableS sp sc bs).1 (consB N (relsOf bs)) N []
    have h2 : N ^ N ≤ 6 ^ 6 := Nat.le_trans (Nat.pow_le_pow_left hN6 N) (Nat.pow_le_pow_right (by omega) hN6)
    unfold grpS
    simp at h2; omega
  unfold classesS
  rw [hm, S.len, Int.toNat_natCast]
  unfold swapsS at hsw
  rw [S.len] at hsw
  have hstep := fun x d (hx : x < N) (hd : d < N - (x + 1)) => pairsTo_step (cls := (stableS sp sc bs).1) (sym := symSw sc bs N) hx hd
  have hnext := fun x => pairsTo_next (stableS sp sc bs).1 (symSw sc bs N) N x
  have hlast := pairsTo_last (stableS sp sc bs).1 (symSw sc bs N) N
  have hSl := swapsN_len (stableS sp sc bs).1 (symSw sc bs N) N N
  have hNN : N * N ≤ 36 := Nat.mul_le_mul hN6 hN6
  have hpl : ∀ x d, (pairsTo (stableS sp sc bs).1 (symSw sc bs N) N x d).length ≤ N * x + d := fun x d => by
    have h1 := swapRow_len (stableS sp sc bs).1 (symSw sc bs N) x (swapsN (stableS sp sc bs).1 (symSw sc bs N) N x) d
    have h2 := swapsN_len (stableS sp sc bs).1 (symSw sc bs N) N x
    unfold pairsTo; omega
  have hp0 := pairsTo_zero (stableS sp sc bs).1 (symSw sc bs N) N
  have hnum := numbersU N F.le12 _ m (by have := S.mle; have := F.le12; omega) S.len S.rng
  have hclen := S.len
  clear S hm
  generalize swapsN (stableS sp sc bs).1 (symSw sc bs N) N N = SS at *
  generalize pairsTo (stableS sp sc bs).1 (symSw sc bs N) N = PT at *
  generalize symSw sc bs N = sym at *
  generalize (stableS sp sc bs).1 = c at *
  generalize grpS sp sc N bs = G at *
  simp [go_sem]
  refine CallStep.pure hnum (.cons (.hf (HF.sc _)) (.cons (.hf (hf_lL _)) .nil)) ?_
  simp [go_sem]
  refine CallStep.pure hsw (args3 sp sc bs) ?_
  simp [go_sem]
  refine CallStep.pure hgrp (args3 sp sc bs) ?_
  simp [go_sem]
  refine LoopGo.up N (fun x st => ∃ g, st.tm 7 = aB true ∧ st.tm 8 = aI N ∧ st.tm 9 = lI c ∧ st.tm 10 = aB true ∧ st.tm 11 = lP SS ∧ st.tm 12 = lL G ∧ st.tm 13 = .ptr 0 0 ∧ st.mu = [.arr (canC g)] ∧ st.tm 14 = aI (PT x 0).length ∧ st.tm 15 = aI x ∧ (∀ a, g a a = false) ∧ ∀ a b, a < N → b < N → a ≠ b → min a b < x → g a b = decide (swapL a b N ∈ G)) ?_ ?_
  · simp [go_sem, hp0]
    exact ⟨fun _ _ => false, by kernel_rfl, fun _ => rfl⟩
  rintro x st hx ⟨g, e7, e8, e9, e10, e11, e12, e13, hm, e14, e15, hg0, hg⟩
  by_cases hxN : x < N
  case pos =>
    have hxc : x < c.length := by omega
    simp [go_sem, e7, e8, e9, e10, e11, e12, e13, hm, e14, e15, hxN]
    refine LoopGo.up (N - (x + 1)) (fun d st => ∃ g, st.tm 7 = aB true ∧ st.tm 8 = aI N ∧ st.tm 9 = lI c ∧ st.tm 10 = aB true ∧ st.tm 11 = lP SS ∧ st.tm 12 = lL G ∧ st.tm 13 = .ptr 0 0 ∧ st.mu = [.arr (canC g)] ∧ st.tm 14 = aI (PT x d).length ∧ st.tm 15 = aI x ∧ st.tm 16 = aI ((x + 1 + d : Nat) : Int) ∧ (∀ a, g a a = false) ∧ ∀ a b, a < N → b < N → a ≠ b → (min a b < x ∨ (min a b = x ∧ max a b < x + 1 + d)) → g a b = decide (swapL a b N ∈ G)) ?_ ?_
    · simp [go_sem, e7, e8, e9, e10, e11, e12, e13, hm, e14, e15]
      refine ⟨g, rfl, wrap_i64 (by omega) (by omega), hg0, fun a b ha hb hne h => hg a b ha hb hne (by omega)⟩
    clear e7 e8 e9 e10 e11 e12 e13 hm e14 e15 hg hg0
    clear g
    clear st
    rintro d st hd ⟨g, e7, e8, e9, e10, e11, e12, e13, hm, e14, e15, e16, hg0, hg⟩
    by_cases hdN : d < N - (x + 1)
    case neg =>
      have hge : d = N - (x + 1) := by omega
      subst hge
      simp [go_sem, e7, e8, e9, e10, e11, e12, e13, hm, e14, e15, e16, hxN, show ¬ (x : Int) + 1 + ((N - (x + 1) : Nat) : Int) < N by omega]
      rw [hnext x]
      exact ⟨g, rfl, rfl, wrap_i64 (by omega) (by omega), hg0, fun a b ha hb hne h => hg a b ha hb hne (by omega)⟩
    obtain ⟨hs1, hs2⟩ := hstep x d hxN hdN
    have hyN : x + 1 + d < N := by omega
    have hc := hcond x (x + 1 + d) hxN hyN
    have hy1 : x + 1 + (d + 1) = x + 1 + d + 1 := by omega
    have hn := hpl x d
    have hNx : N * x ≤ N * N := Nat.mul_le_mul (Nat.le_refl _) (by omega)
    rw [hc] at hs1 hs2
    generalize hyd : x + 1 + d = y at *
    have hyc : y < c.length := by omega
    rw [gI_eq hxc, gI_eq hyc] at hc
    generalize hn0 : (PT x d).length = n at *
    have hmin : min12 N = N := by unfold min12; omega
    have hsw := swap12 N x y
    rw [hmin] at hsw
    have hHo := holds_ok G (swapL x y N) (by omega) (fun q hq => by rw [(hgp q hq).len]; omega)
    simp [go_sem, e7, e8, e9, e10, e11, e12, e13, hm, e14, e15, e16, hyN]
    by_cases hmem : swapL x y N ∈ G
    · obtain ⟨hP, hS⟩ := hs1 hmem
      have hnS : n < SS.length := (List.getElem?_eq_some_iff.1 hS).1
      have hSe := (List.getElem?_eq_some_iff.1 hS).2
      have hf1 : SS[n].fst = (x : Int) := by rw [hSe]
      have hf2 : SS[n].snd = (y : Int) := by rw [hSe]
      have hx12 : x < 12 := by omega
      have hy12 : y < 12 := by omega
      have hs1 := canC_set (g := g) (v := true) hx12 hy12
      have hs2 := canC_set (g := upd g x y true) (v := true) hy12 hx12
      simp [go_sem, e7, e8, e9, e10, e11, e12, e13, hm, e14, e15, e16, hyN, hnS, hf1, hf2, show (x : Int) < 12 by omega, show (y : Int) < 12 by omega, canC_len, hs1, hs2, show x * 12 + y ≤ 143 by omega, show y * 12 + x ≤ 143 by omega]
      refine DrawGo.intro (by kernel_rfl) ?_
      simp [go_sem, e7, e8, e9, e10, e11, e12, e13, hm, e14, e15, e16]
      refine CallStep.pure hsw (.cons (.hf (HF.sc _)) (.cons (.hf (HF.sc _)) (.cons (.hf (HF.sc _)) .nil))) ?_
      simp [go_sem, e7, e8, e9, e10, e11, e12, e13, hm, e14, e15, e16]
      refine CallStep.pure hHo (.cons (.hf (hf_lL _)) (.cons (.hf (hf_lI _)) .nil)) ?_
      have hcc := (hc.2 hmem).1
      simp [go_sem, e7, e8, e9, e10, e11, e12, e13, hm, e14, e15, e16, hmem, hxc, hyc, hcc]
      have hfin := upd_ok (sw := fun a b => decide (swapL a b N ∈ G)) (v := true) (fun a b => by rw [swap_comm]) (by simp [hmem]) (by omega) hyN hg0 hg
      rw [hP]
      refine ⟨hdN, _, rfl, ?_, ?_, hfin.1, fun a b ha hb hne h => hfin.2 a b ha hb hne (by omega)⟩
      · rw [wrap_i64 (by omega) (by omega)]; simp [hn0]
      · rw [wrap_i64 (by omega) (by omega)]; omega
    · obtain ⟨hP, hS⟩ := hs2 hmem
      have hx12 : x < 12 := by omega
      have hy12 : y < 12 := by omega
      have hs1 := canC_set (g := g) (v := false) hx12 hy12
      have hs2 := canC_set (g := upd g x y false) (v := false) hy12 hx12
      have hfin := upd_ok (sw := fun a b => decide (swapL a b N ∈ G)) (v := false) (fun a b => by rw [swap_comm]) (by simp [hmem]) (by omega) hyN hg0 hg
      by_cases hnS : n < SS.length
      · have hz := hS _ (List.getElem?_eq_getElem hnS)
        by_cases hf1 : SS[n].fst = (x : Int)
        · have hf2 : ¬ SS[n].snd = (y : Int) := fun h => hz (Prod.ext hf1 h)
          simp [go_sem, e7, e8, e9, e10, e11, e12, e13, hm, e14, e15, e16, hyN, hnS, hf1, hf2, show (x : Int) < 12 by omega, show (y : Int) < 12 by omega, canC_len, hs1, hs2, show x * 12 + y ≤ 143 by omega, show y * 12 + x ≤ 143 by omega]
          refine DrawGo.intro (by kernel_rfl) ?_
          simp [go_sem, e7, e8, e9, e10, e11, e12, e13, hm, e14, e15, e16]
          refine CallStep.pure hsw (.cons (.hf (HF.sc _)) (.cons (.hf (HF.sc _)) (.cons (.hf (HF.sc _)) .nil))) ?_
          simp [go_sem, e7, e8, e9, e10, e11, e12, e13, hm, e14, e15, e16]
          refine CallStep.pure hHo (.cons (.hf (hf_lL _)) (.cons (.hf (hf_lI _)) .nil)) ?_
          simp [go_sem, e7, e8, e9, e10, e11, e12, e13, hm, e14, e15, e16, hmem, hxc, hyc]
          rw [hP]
          exact ⟨hdN, _, rfl, by simp [hn0], by rw [wrap_i64 (by omega) (by omega)]; omega, hfin.1, fun a b ha hb hne h => hfin.2 a b ha hb hne (by omega)⟩
        · simp [go_sem, e7, e8, e9, e10, e11, e12, e13, hm, e14, e15, e16, hyN, hnS, hf1, show (x : Int) < 12 by omega, show (y : Int) < 12 by omega, canC_len, hs1, hs2, show x * 12 + y ≤ 143 by omega, show y * 12 + x ≤ 143 by omega]
          refine DrawGo.intro (by kernel_rfl) ?_
          simp [go_sem, e7, e8, e9, e10, e11, e12, e13, hm, e14, e15, e16]
          refine CallStep.pure hsw (.cons (.hf (HF.sc _)) (.cons (.hf (HF.sc _)) (.cons (.hf (HF.sc _)) .nil))) ?_
          simp [go_sem, e7, e8, e9, e10, e11, e12, e13, hm, e14, e15, e16]
          refine CallStep.pure hHo (.cons (.hf (hf_lL _)) (.cons (.hf (hf_lI _)) .nil)) ?_
          simp [go_sem, e7, e8, e9, e10, e11, e12, e13, hm, e14, e15, e16, hmem, hxc, hyc]
          rw [hP]
          exact ⟨hdN, _, rfl, by simp [hn0], by rw [wrap_i64 (by omega) (by omega)]; omega, hfin.1, fun a b ha hb hne h => hfin.2 a b ha hb hne (by omega)⟩
      · simp [go_sem, e7, e8, e9, e10, e11, e12, e13, hm, e14, e15, e16, hyN, hnS, show (x : Int) < 12 by omega, show (y : Int) < 12 by omega, canC_len, hs1, hs2, show x * 12 + y ≤ 143 by omega, show y * 12 + x ≤ 143 by omega]
        refine DrawGo.intro (by kernel_rfl) ?_
        simp [go_sem, e7, e8, e9, e10, e11, e12, e13, hm, e14, e15, e16]
        refine CallStep.pure hsw (.cons (.hf (HF.sc _)) (.cons (.hf (HF.sc _)) (.cons (.hf (HF.sc _)) .nil))) ?_
        simp [go_sem, e7, e8, e9, e10, e11, e12, e13, hm, e14, e15, e16]
        refine CallStep.pure hHo (.cons (.hf (hf_lL _)) (.cons (.hf (hf_lI _)) .nil)) ?_
        simp [go_sem, e7, e8, e9, e10, e11, e12, e13, hm, e14, e15, e16, hmem, hxc, hyc]
        rw [hP]
        exact ⟨hdN, _, rfl, by simp [hn0], by rw [wrap_i64 (by omega) (by omega)]; omega, hfin.1, fun a b ha hb hne h => hfin.2 a b ha hb hne (by omega)⟩
  have hge : x = N := by omega
  subst hge
  simp [go_sem, e7, e8, e9, e10, e11, e12, e13, hm, e14, e15]
  rw [hlast] at e14
  have htr : ∀ u v w, u < x → v < x → w < x → u ≠ w → g u v = true → g v w = true → g u w = true := by
    intro u v w hu hv hw hne h1 h2
    have n1 : u ≠ v := fun e => by rw [e, hg0] at h1; exact absurd h1 (by simp)
    have n2 : v ≠ w := fun e => by rw [e, hg0] at h2; exact absurd h2 (by simp)
    rw [hg u v hu hv n1 (by omega), decide_eq_true_eq] at h1
    rw [hg v w hv hw n2 (by omega), decide_eq_true_eq] at h2
    rw [hg u w hu hw hne (by omega), decide_eq_true_eq, ← swap_conj hu hv hw n1 n2 hne]
    exact hcomp _ _ h1 (hcomp _ _ h2 h1)
  refine LoopGo.up x (fun u st => st.tm 7 = aB true ∧ st.tm 8 = aI x ∧ st.tm 10 = aB true ∧ st.tm 11 = lP SS ∧ st.tm 13 = .ptr 0 0 ∧ st.tm 14 = aI SS.length ∧ st.mu = [.arr (canC g)] ∧ st.tm 18 = aI u) ?_ ?_
  · simp [go_sem, e7, e8, e9, e10, e11, e12, e13, hm, e14, e15]
  clear e7 e8 e9 e10 e11 e12 e13 hm e14 e15
  clear st
  rintro u st hu ⟨e7, e8, e10, e11, e13, e14, hm, e18⟩
  by_cases hux : u < x
  case neg =>
    simp [go_sem, e7, e8, e10, e11, e13, e14, hm, e18, hux]
    exact .hf _ (HF.sc _)
  simp [go_sem, e7, e8, e10, e11, e13, e14, hm, e18, hux]
  refine LoopGo.up x (fun v st => st.tm 7 = aB true ∧ st.tm 8 = aI x ∧ st.tm 10 = aB true ∧ st.tm 11 = lP SS ∧ st.tm 13 = .ptr 0 0 ∧ st.tm 14 = aI SS.length ∧ st.mu = [.arr (canC g)] ∧ st.tm 18 = aI u ∧ st.tm 19 = aI v) ?_ ?_
  · simp [go_sem, e7, e8, e10, e11, e13, e14, hm, e18]
  clear e7 e8 e10 e11 e13 e14 hm e18
  clear st
  rintro v st hv ⟨e7, e8, e10, e11, e13, e14, hm, e18, e19⟩
  by_cases hvx : v < x
  case neg =>
    simp [go_sem, e7, e8, e10, e11, e13, e14, hm, e18, e19, hvx, hux]
    exact wrap_i64 (by omega) (by omega)
  simp [go_sem, e7, e8, e10, e11, e13, e14, hm, e18, e19, hvx]
  refine LoopGo.up x (fun w st => st.tm 7 = aB true ∧ st.tm 8 = aI x ∧ st.tm 10 = aB true ∧ st.tm 11 = lP SS ∧ st.tm 13 = .ptr 0 0 ∧ st.tm 14 = aI SS.length ∧ st.mu = [.arr (canC g)] ∧ st.tm 18 = aI u ∧ st.tm 19 = aI v ∧ st.tm 20 = aI w) ?_ ?_
  · simp [go_sem, e7, e8, e10, e11, e13, e14, hm, e18, e19]
  clear e7 e8 e10 e11 e13 e14 hm e18 e19
  clear st
  rintro w st hw ⟨e7, e8, e10, e11, e13, e14, hm, e18, e19, e20⟩
  by_cases hwx : w < x
  case neg =>
    simp [go_sem, e7, e8, e10, e11, e13, e14, hm, e18, e19, e20, hwx, hvx]
    exact wrap_i64 (by omega) (by omega)
  have g1 := take1_drop (canC_get (g := g) (x := u) (y := v) (by omega) (by omega))
  have g2 := take1_drop (canC_get (g := g) (x := v) (y := w) (by omega) (by omega))
  have g3 := take1_drop (canC_get (g := g) (x := u) (y := w) (by omega) (by omega))
  have h3 := htr u v w hux hvx hwx
  have i1 : u * 12 + v ≤ 143 := by omega
  have i2 : v * 12 + w ≤ 143 := by omega
  have i3 : u * 12 + w ≤ 143 := by omega
  have i4 : (u : Int) < 12 := by omega
  have i5 : (v : Int) < 12 := by omega
  have i6 : (w : Int) < 12 := by omega
  by_cases hne : u = w
  · simp [go_sem, e7, e8, e10, e11, e13, e14, hm, e18, e19, e20, hwx, hne]
    exact wrap_i64 (by omega) (by omega)
  by_cases h1 : g u v = true
  case neg =>
    simp [go_sem, e7, e8, e10, e11, e13, e14, hm, e18, e19, e20, hwx, hne, i1, i2, i3, i4, i5, i6, canC_len, g1, h1]
    exact wrap_i64 (by omega) (by omega)
  by_cases h2 : g v w = true
  case neg =>
    simp [go_sem, e7, e8, e10, e11, e13, e14, hm, e18, e19, e20, hwx, hne, i1, i2, i3, i4, i5, i6, canC_len, g1, g2, h1, h2]
    exact wrap_i64 (by omega) (by omega)
  simp [go_sem, e7, e8, e10, e11, e13, e14, hm, e18, e19, e20, hwx, hne, i1, i2, i3, i4, i5, i6, canC_len, g1, g2, g3, h1, h2, h3 hne h1 h2]
  exact wrap_i64 (by omega) (by omega)
end Go.Proofs.Ytiophnmdopoeeaa.W7

namespace Go.Proofs.Ytiophnmdopoeeaa.ZRefineSwaps
open Go Go.Ev Go.Proofs Go.Proofs.Ytiophnmdopoeeaa Go.RowKit Go.ChangeShapes Go.WideShapes
set_option linter.unusedVariables false

theorem own : ownKnob Try.prog.godebug = none := by kernel_rfl
theorem laid : laidOutB Try.prog = true := by kernel_rfl
theorem aSpec : ArgSh Try.prog 27 eSp okSp := ArgSh.struct (by kernel_rfl) D.shSpec
theorem aScope : ArgSh Try.prog 30 eSc okSc := ArgSh.struct (by kernel_rfl) D.shScope
theorem aBounds : ArgSh Try.prog 31 lBd (fun b => b.length ≤ maxLen ∧ ∀ x, x ∈ b → okBd x) := ArgSh.slice D.unBounds D.shBounds

theorem law (sp : Sp) (sc : Sc) (b : List Bd) (h1 : okSp sp) (h2 : okSc sc) (h3 : b.length ≤ maxLen ∧ ∀ x, x ∈ b → okBd x) : SoundP Try.prog 5 [eSp sp, eSc sc, lBd b] (aB true) :=
  W7.swapsLawU sp sc b (fun f hf => Nat.le_trans (h1.fields f hf).sorts.1 (Nat.le_of_ble_eq_true (by kernel_rfl)))

set_option maxRecDepth 100000 in
theorem lifted (os : Os) (started : os.Started) (H : Type) (enc : TypeId × Value → H) :
    ReturnsInHanded {} Try.checked os 5 .any (Rows.refineSwapsSpec.pre6 enc Try.prog Try.f5 Rows.refineSwapsRow.domain false) (Rows.refineSwapsSpec.post enc Try.prog Try.f5 false true false false) := by
  refine returnsInHanded_of_change (C := Try.checked) own started (by kernel_rfl) Try.func5
    (ChangeSpec.witness6 (enc := enc) (C := Try.checked) false ⟨#[], #[.agg #[.slice none 0 0, .slice none 0 0, .slice none 0 0, .slice none 0 0], .agg #[.slice none 0 0, .int .i64 0], .slice none 0 0], []⟩ 8 (by kernel_rfl) (by kernel_rfl) (by kernel_rfl) (by kernel_rfl)) ?_
  intro W base args ds gs before hval hW h8 h9
  exact law_row (ts := [27, 30, 31]) (tb := 4) (by kernel_rfl) (.cons aSpec (.cons aScope (.cons aBounds .nil))) rfl
    (fun H ds h => by match ds, h with | [_, _, _], h10 => rfl) (by kernel_rfl) D.unBool laid (by kernel_rfl) (fun a h => law a.1 a.2.1 a.2.2.1 h.1 h.2.1 h.2.2.1) H enc W base args ds gs before hval hW

theorem holds : Rows.RefineSwapsSaid :=
  OpenClaim.holds_of_wide 5 Try.f5 rfl rfl rfl rfl rfl rfl rfl ⟨rfl, rfl, rfl, rfl, rfl⟩ rfl rfl rfl rfl rfl (by kernel_rfl) Try.func5 (by kernel_rfl)
    (of_decide_eq_true (by kernel_rfl)) (by unfold Func.isWrapper; first | (rw [if_pos (by decide +kernel)]; kernel_rfl) | (rw [if_neg (by decide +kernel)]; exact ⟨rfl, rfl⟩))
    (fun os started H enc h11 => lifted os started H enc)
end Go.Proofs.Ytiophnmdopoeeaa.ZRefineSwaps
