/-
  For every specification, scope and bounds that armatureref12.Fits accepts with at most 6 atoms, and every number of 16 bits that chooses a permutation of permute.All: if armatureref12.Fixes accepts it, the images of the bounds (permute.Rel) are accepted by Fits, two atoms are in one class of refine.Classes exactly if their images are in one class for the images of the bounds, and refine.Group and refine.Swaps return as many permutations and pairs as before; for all others the law returns true at once. Conditions: none beside those of the given statement Rows.RefineConjugateSaid.
-/
import Derived.Test.YtiophnmdopoeeaaRows
import Derived.WalkKit
import Derived.JoinedCond
import Derived.Test.YtiophnmdopoeeaaMe

set_option linter.unusedVariables false
set_option linter.unusedSimpArgs false
set_option maxRecDepth 100000
namespace Go.Proofs.Ytiophnmdopoeeaa.W6
open Go Go.Ev Go.Proofs Go.Proofs.Ytiophnmdopoeeaa.C1 Go.Proofs.Ytiophnmdopoeeaa.C2 Go.Proofs.Ytiophnmdopoeeaa.C3 Go.Proofs.Ytiophnmdopoeeaa.C4 Go.Proofs.Ytiophnmdopoeeaa.C5 Go.Proofs.Ytiophnmdopoeeaa.C6 Go.Proofs.Ytiophnmdopoeeaa.C7 Go.Proofs.Ytiophnmdopoeeaa.C8 Go.Proofs.Ytiophnmdopoeeaa.C9 Go.Proofs.Ytiophnmdopoeeaa.C10 Go.Proofs.Ytiophnmdopoeeaa.C11 Go.Proofs.Ytiophnmdopoeeaa.C12 Go.Proofs.Ytiophnmdopoeeaa.C13 Go.Proofs.Ytiophnmdopoeeaa.C14 Go.Proofs.Ytiophnmdopoeeaa.C15 Go.Proofs.Ytiophnmdopoeeaa.C16 Go.Proofs.Ytiophnmdopoeeaa.C17 Go.Proofs.Ytiophnmdopoeeaa.C18 Go.Proofs.Ytiophnmdopoeeaa.C19 Go.Proofs.Ytiophnmdopoeeaa.C20 Go.Proofs.Ytiophnmdopoeeaa.C21 Go.Proofs.Ytiophnmdopoeeaa.C22 Go.Proofs.Ytiophnmdopoeeaa.C23 Go.Proofs.Ytiophnmdopoeeaa.C24 Go.Proofs.Ytiophnmdopoeeaa.C25 Go.Proofs.Ytiophnmdopoeeaa.C26 Go.Proofs.Ytiophnmdopoeeaa.C27 Go.Proofs.Ytiophnmdopoeeaa.C28 Go.Proofs.Ytiophnmdopoeeaa.C29 Go.Proofs.Ytiophnmdopoeeaa.C30 Go.Proofs.Ytiophnmdopoeeaa.C31 Go.Proofs.Ytiophnmdopoeeaa.C32 Go.Proofs.Ytiophnmdopoeeaa.C33 Go.Proofs.Ytiophnmdopoeeaa.C34 Go.Proofs.Ytiophnmdopoeeaa.C35 Go.Proofs.Ytiophnmdopoeeaa.L1 Go.Proofs.Ytiophnmdopoeeaa.L2 Go.Proofs.Ytiophnmdopoeeaa.L3 Go.Proofs.Ytiophnmdopoeeaa.L4 Go.Proofs.Ytiophnmdopoeeaa.L5 Go.Proofs.Ytiophnmdopoeeaa.L6 Go.Proofs.Ytiophnmdopoeeaa.L7 Go.Proofs.Ytiophnmdopoeeaa.L8 Go.Proofs.Ytiophnmdopoeeaa.L9 Go.Proofs.Ytiophnmdopoeeaa.L10 Go.Proofs.Ytiophnmdopoeeaa.L11 Go.Proofs.Ytiophnmdopoeeaa.L12 Go.Proofs.Ytiophnmdopoeeaa.L13 Go.Proofs.Ytiophnmdopoeeaa.L14 Go.Proofs.Ytiophnmdopoeeaa.L15

theorem rows_cBd (xs : List Bd) : rowsWf 4 (xs.map cBd) := fun r hr => by
  obtain ⟨n, _, rfl⟩ := List.mem_map.1 hr
  exact ⟨rfl, rfl⟩
theorem hf_cBd (xs : List Bd) : ∀ r, r ∈ xs.map cBd → ∀ c, c ∈ r → HF c := fun r hr c hc => by
  obtain ⟨n, _, rfl⟩ := List.mem_map.1 hr
  simp at hc
  rcases hc with rfl | rfl | rfl | rfl
  · exact HF.sc _
  · exact hf_lI _
  · exact HF.sc _
  · exact hf_lI _
theorem conjugateU (sp : Sp) (sc : Sc) (bs : List Bd) (i : Int) (hf : ∀ f, f ∈ sp.fields → f.sorts.length ≤ 9223372036854775807) (hi : 0 ≤ i ∧ i ≤ 65535) :
    SoundP Try.prog 9 [eSp sp, eSc sc, lBd bs, .sc (.int .u16 i)] (aB true) := by
  refine SoundP.of_sound (Sound.of_awp Try.call9 Try.func9 rfl (Nat.le_of_ble_eq_true (by kernel_rfl)) (by kernel_rfl) (pl := {}) ?_)
  simp [go_sem]
  refine CallStep.pure headU .nil ?_
  simp [go_sem]
  refine CallStep.pure (fits12 sp sc bs 6 hf) (.cons (.hf (hf_eSp sp)) (.cons (.hf (hf_eSc sc)) (.cons (.hf (hf_lBd bs)) (.cons (.hf (HF.sc _)) .nil)))) ?_
  by_cases hfit : fitsOk sp sc bs 6 = true
  case neg =>
    simp only [Bool.not_eq_true] at hfit
    simp [go_sem, hfit]
    exact .hf _ (HF.sc _)
  obtain ⟨N, F⟩ := Fit.of hfit
  have hN6 : N ≤ 6 := by have := F.le; omega
  simp [go_sem, hfit]
  refine CallStep.pure (allU sc F.u N F.hN hN6) (.cons (.hf (hf_eSc sc)) .nil) ?_
  have hall : ∀ q, q ∈ allS N sc → PermL N q ∧ KeepS (sortsL sc) N q := fun q hq => mem_allS.1 hq
  have hid : idL N ∈ allS N sc := mem_allS.2 ⟨idL_perm N, fun x hx => by rw [ap_id hx]⟩
  have hpow : N ^ N ≤ 46656 := by
    have h2 : N ^ N ≤ 6 ^ 6 := Nat.le_trans (Nat.pow_le_pow_left hN6 N) (Nat.pow_le_pow_right (by omega) hN6)
    simpa using h2
  have halen : (allS N sc).length ≤ 46656 := Nat.le_trans (extG_len N (sortsL sc) anyP N []) hpow
  generalize allS N sc = A at *
  have hpos : 0 < A.length := List.length_pos_iff.2 (fun e => by rw [e] at hid; simp at hid)
  have hAne : ¬ A = [] := fun e => by rw [e] at hpos; simp at hpos
  have hne : ¬ (A.length : Int) = 0 := by omega
  have ci : 0 ≤ i.tmod A.length ∧ i.tmod A.length < A.length := ⟨Int.tmod_nonneg _ hi.1, Int.tmod_lt_of_pos _ (by omega)⟩
  have wi : IntKind.i64.wrap i = i := wrap_i64 (by omega) (by omega)
  generalize hia : i.tmod A.length = a at *
  have hal : a.toNat < A.length := by omega
  have hp := List.getElem_mem hal
  generalize hpe : A[a.toNat] = p at *
  obtain ⟨hpp, hpk⟩ := hall p hp
  have hpl := hpp.len
  have hv : validP sc p = true := (validP_iff F.hN).2 ⟨hpp, hpk⟩
  simp [go_sem, hne, hAne, wi, hia, ci, hpe, hal]
  refine CallStep.pure (fixes12 sp sc F.u.g p (by omega)) (.cons (.hf (hf_eSp sp)) (.cons (.hf (hf_eSc sc)) (.cons (.hf (hf_lI p)) .nil))) ?_
  by_cases hfx : fixesOk sp sc p = true
  case neg =>
    simp only [Bool.not_eq_true] at hfx
    simp [go_sem, hfx]
    exact .hf _ (HF.sc _)
  simp [go_sem, hfx]
  refine CallStep.pure (validU sc F.u.g F.u.n12 p) (.cons (.hf (hf_eSc sc)) (.cons (.hf (hf_lI p)) .nil)) ?_
  rw [hv]
  simp [go_sem]
  have hfo := (fixes_iff F hpp).1 hfx
  have hfit' := img_fits F hpp hpk
  obtain ⟨N', F'⟩ := Fit.of hfit'
  have hNN : N' = N := by have := F.hN; have := F'.hN; omega
  subst hNN
  have hM : Moved N' p (relsOf bs) (relsOf (imgB p bs)) := by rw [rels_img]; exact Moved.img hpp
  have hM' : Moved N' (invL p) (relsOf (imgB p bs)) (relsOf bs) := by rw [rels_img]; exact Moved.img_inv hpp F.g
  have hik := (SymP.inv (rs := []) (fun r hr => by simp at hr) ⟨hpp, hpk, fun r hr => by simp at hr⟩).keep
  have hio := FixO.inv hpp hfo F.u.g F.hN hpk
  obtain ⟨hip, hiv⟩ := inv_ok hpp
  have hG : (grpS sp sc N' bs).length = (grpS sp sc N' (imgB p bs)).length := Nat.le_antisymm (grp_le F F' hpp hpk hfo hM) (grp_le F' F hip hik hio hM')
  have hS : (swapsS sp sc bs).length = (swapsS sp sc (imgB p bs)).length := Nat.le_antisymm (swaps_le F F' hpp hpk hfo hM) (swaps_le F' F hip hik hio hM')
  have hcl : ∀ x y, x < N' → y < N' → (gI (stableS sp sc bs).1 x = gI (stableS sp sc bs).1 y ↔ gI (stableS sp sc (imgB p bs)).1 (ap p x) = gI (stableS sp sc (imgB p bs)).1 (ap p y)) := fun x y hx hy =>
    ⟨class_move F F' hpp hpk hfo hM hx hy, fun h => by
      have := class_move F' F hip hik hio hM' (hpp.ap_lt hx) (hpp.ap_lt hy) h
      rwa [hiv x hx, hiv y hy] at this⟩
  have hcU := classesU sp sc F.u F.hsp bs F.gb
  have hcU' := classesU sp sc F'.u F'.hsp _ F'.gb
  have hgU := groupU sp sc F.u N' F.hN hN6 F.hsp bs F.gb
  have hgU' := groupU sp sc F'.u N' F'.hN hN6 F'.hsp _ F'.gb
  change SoundP _ _ _ (lL (grpS sp sc N' bs)) at hgU
  change SoundP _ _ _ (lL (grpS sp sc N' (imgB p bs))) at hgU'
  have hsU := swapsU sp sc F.u F.hsp bs F.gb
  have hsU' := swapsU sp sc F'.u F'.hsp _ F'.gb
  have hfU' := fits12 sp sc (imgB p bs) 6 hf
  rw [hfit'] at hfU'
  obtain ⟨m, hm, S⟩ := stableF (sp := sp) F.hN F.g
  obtain ⟨m', hm', S'⟩ := stableF (sp := sp) F'.hN F'.g
  unfold classesS at hcU hcU'
  rw [hm, S.len, Int.toNat_natCast] at hcU
  rw [hm', S'.len, Int.toNat_natCast] at hcU'
  have hnum := numbersU N' F.le12 _ m (by have := S.mle; have := F.le12; omega) S.len S.rng
  have hnum' := numbersU N' F.le12 _ m' (by have := S'.mle; have := F.le12; omega) S'.len S'.rng
  have hcl1 := S.len
  have hcl2 := S'.len
  have hrel : ∀ b, b ∈ bs → SoundP Try.prog 28 [eSc sc, lI p, eRel b.lo] (eRel (relImg p b.lo)) ∧ SoundP Try.prog 28 [eSc sc, lI p, eRel b.up] (eRel (relImg p b.up)) := fun b hb => by
    have m1 : b.lo ∈ relsOf bs := by unfold relsOf; exact List.mem_flatMap.2 ⟨b, hb, by simp⟩
    have m2 : b.up ∈ relsOf bs := by unfold relsOf; exact List.mem_flatMap.2 ⟨b, hb, by simp⟩
    have hr : ∀ x, x ∈ p → 0 ≤ x ∧ x < p.length := fun x hx => by rw [hpl]; exact hpp.rng x hx
    exact ⟨relP' sc p N' (by omega) (by omega) hr _ (F.g _ m1), relP' sc p N' (by omega) (by omega) hr _ (F.g _ m2)⟩
  have hb6 := F.b6
  have hgA := F.hN
  have hgG := F.u.g
  clear S S' hm hm' F F' hM hM' hio hik hfo hfx hfit hfit' hid hall hpow
  generalize (stableS sp sc bs).1 = c at *
  generalize (stableS sp sc (imgB p bs)).1 = c' at *
  generalize grpS sp sc N' bs = G at *
  generalize grpS sp sc N' (imgB p bs) = G' at *
  generalize swapsS sp sc bs = SS at *
  generalize swapsS sp sc (imgB p bs) = SS' at *
  refine LoopGo.upF bs.length (fun k st => st.tm 2 = lBd bs ∧ st.tm 4 = .ip [.lst false (sp.sorts.map cSort), .lst false (sp.fields.map cField), .lst false sp.preds, .lst false sp.facts] ∧ st.tm 5 = .ip [lI sc.atoms, aI sc.steps] ∧ st.tm 9 = aB true ∧ st.tm 11 = lI p ∧ st.tm 13 = aI k ∧ OwnF 0 st.mu 4 (st.tm 12) ((imgB p (bs.take k)).map cBd)) ?_ ?_
  · simp [go_sem, imgB]
    exact OwnF.lit [] (Nat.zero_le _)
  rintro k st hk ⟨e2, e4, e5, e9, e11, e13, ho⟩
  by_cases hkb : k < bs.length
  case neg =>
    have hge : k = bs.length := by omega
    subst hge
    rw [List.take_of_length_le (Nat.le_refl _)] at ho
    simp [go_sem, e2, e4, e5, e9, e11, e13]
    refine FzQ.own (d := 12) rfl ho (rows_cBd _) (hf_cBd _) ?_
    intro mu' full hml hmj
    simp [go_sem, e2, e4, e5, e9, e11, e13]
    have wkI : WK (.lst full ((imgB p bs).map cBd)) (lBd (imgB p bs)) := WK.lst (hf_cBd _)
    have argsI : WKs [eSp sp, eSc sc, .lst full ((imgB p bs).map cBd)] [eSp sp, eSc sc, lBd (imgB p bs)] := .cons (.hf (hf_eSp sp)) (.cons (.hf (hf_eSc sc)) (.cons wkI .nil))
    refine CallStep.pure hfU' (.cons (.hf (hf_eSp sp)) (.cons (.hf (hf_eSc sc)) (.cons wkI (.cons (.hf (HF.sc _)) .nil)))) ?_
    simp [go_sem, e2, e4, e5, e9, e11, e13]
    refine CallStep.pure (atomsU sc hgG) (.cons (.hf (hf_eSc sc)) .nil) ?_
    rw [hgA]
    simp [go_sem, e2, e4, e5, e9, e11, e13]
    refine CallStep.pure hcU (args3 sp sc bs) ?_
    simp [go_sem, e2, e4, e5, e9, e11, e13]
    refine CallStep.pure hnum (.cons (.hf (HF.sc _)) (.cons (.hf (hf_lL _)) .nil)) ?_
    simp [go_sem, e2, e4, e5, e9, e11, e13]
    refine CallStep.pure hcU' argsI ?_
    simp [go_sem, e2, e4, e5, e9, e11, e13]
    refine CallStep.pure hnum' (.cons (.hf (HF.sc _)) (.cons (.hf (hf_lL _)) .nil)) ?_
    simp [go_sem, e2, e4, e5, e9, e11, e13]
    refine LoopGo.up N' (fun i st => st.tm 2 = lBd bs ∧ st.tm 4 = .ip [.lst false (sp.sorts.map cSort), .lst false (sp.fields.map cField), .lst false sp.preds, .lst false sp.facts] ∧ st.tm 5 = .ip [lI sc.atoms, aI sc.steps] ∧ st.tm 9 = aB true ∧ st.tm 11 = lI p ∧ st.tm 12 = .lst full ((imgB p bs).map cBd) ∧ st.tm 14 = aI N' ∧ st.tm 15 = lI c ∧ st.tm 16 = aB true ∧ st.tm 17 = lI c' ∧ st.tm 18 = aB true ∧ st.tm 19 = aI i) ?_ ?_
    · simp [go_sem, e2, e4, e5, e9, e11, e13]
    clear ho e2 e4 e5 e9 e11 e13 hml hmj
    clear mu'
    clear st
    rintro x st hx ⟨e2, e4, e5, e9, e11, e12, e14, e15, e16, e17, e18, e19⟩
    by_cases hxN : x < N'
    case neg =>
      simp [go_sem, e2, e4, e5, e9, e11, e12, e14, e15, e16, e17, e18, e19, hxN]
      refine DrawGo.intro (by kernel_rfl) ?_
      simp [go_sem, e2, e4, e5, e9, e11, e12, e14, e15, e16, e17, e18, e19]
      refine CallStep.pure hgU (args3 sp sc bs) ?_
      simp [go_sem, e2, e4, e5, e9, e11, e12, e14, e15, e16, e17, e18, e19]
      refine CallStep.pure hgU' argsI ?_
      simp [go_sem, e2, e4, e5, e9, e11, e12, e14, e15, e16, e17, e18, e19, hG]
      refine CallStep.pure hsU (args3 sp sc bs) ?_
      simp [go_sem, e2, e4, e5, e9, e11, e12, e14, e15, e16, e17, e18, e19]
      refine CallStep.pure hsU' argsI ?_
      simp [go_sem, e2, e4, e5, e9, e11, e12, e14, e15, e16, e17, e18, e19, hS]
      exact .hf _ (HF.sc _)
    simp [go_sem, e2, e4, e5, e9, e11, e12, e14, e15, e16, e17, e18, e19, hxN]
    refine LoopGo.up x (fun y st => st.tm 2 = lBd bs ∧ st.tm 4 = .ip [.lst false (sp.sorts.map cSort), .lst false (sp.fields.map cField), .lst false sp.preds, .lst false sp.facts] ∧ st.tm 5 = .ip [lI sc.atoms, aI sc.steps] ∧ st.tm 9 = aB true ∧ st.tm 11 = lI p ∧ st.tm 12 = .lst full ((imgB p bs).map cBd) ∧ st.tm 14 = aI N' ∧ st.tm 15 = lI c ∧ st.tm 16 = aB true ∧ st.tm 17 = lI c' ∧ st.tm 18 = aB true ∧ st.tm 19 = aI x ∧ st.tm 20 = aI y) ?_ ?_
    · simp [go_sem, e2, e4, e5, e9, e11, e12, e14, e15, e16, e17, e18, e19]
    clear e2 e4 e5 e9 e11 e12 e14 e15 e16 e17 e18 e19
    clear st
    rintro y st hy ⟨e2, e4, e5, e9, e11, e12, e14, e15, e16, e17, e18, e19, e20⟩
    by_cases hyx : y < x
    case neg =>
      simp [go_sem, e2, e4, e5, e9, e11, e12, e14, e15, e16, e17, e18, e19, e20, hyx, hxN]
      exact wrap_i64 (by omega) (by omega)
    have hxc : x < c.length := by omega
    have hyc : y < c.length := by omega
    have hxp : x < p.length := by omega
    have hyp : y < p.length := by omega
    have a1 := hpp.ap_eq hxN
    have a2 := hpp.ap_eq (x := y) (by omega)
    have l1 := hpp.ap_lt hxN
    have l2 := hpp.ap_lt (x := y) (by omega)
    have hh := hcl x y hxN (by omega)
    have hxc' : ap p x < c'.length := by omega
    have hyc' : ap p y < c'.length := by omega
    rw [gI_eq hxp] at a1
    rw [gI_eq hyp] at a2
    rw [gI_eq hxc, gI_eq hyc, gI_eq hxc', gI_eq hyc'] at hh
    generalize ap p x = u at *
    generalize ap p y = v at *
    simp [go_sem, e2, e4, e5, e9, e11, e12, e14, e15, e16, e17, e18, e19, e20, hyx]
    refine DrawGo.intro (by kernel_rfl) ?_
    by_cases h1 : c[x] = c[y]
    · have h2 := hh.1 h1
      simp [go_sem, e2, e4, e5, e9, e11, e12, e14, e15, e16, e17, e18, e19, e20, hxc, hyc, hxp, hyp, a1, a2, hxc', hyc', h1, h2]
      exact ⟨hyx, wrap_i64 (by omega) (by omega)⟩
    · have h2 : ¬ c'[u] = c'[v] := fun h => h1 (hh.2 h)
      simp [go_sem, e2, e4, e5, e9, e11, e12, e14, e15, e16, e17, e18, e19, e20, hxc, hyc, hxp, hyp, a1, a2, hxc', hyc', h1, h2]
      exact ⟨hyx, wrap_i64 (by omega) (by omega)⟩
  obtain ⟨hr1, hr2⟩ := hrel _ (List.getElem_mem hkb)
  have hsucc : imgB p (bs.take (k + 1)) = imgB p (bs.take k) ++ [⟨relImg p bs[k].lo, relImg p bs[k].up⟩] := by
    rw [List.take_add_one, List.getElem?_eq_getElem hkb]; unfold imgB; rw [List.map_append]; rfl
  have hil : (imgB p (bs.take k)).length ≤ 6 := by simp [imgB]; omega
  generalize imgB p (bs.take k) = I0 at *
  generalize hbk : bs[k] = bd at *
  simp [go_sem, e2, e4, e5, e9, e11, e13, hkb]
  refine DrawGo.intro (by kernel_rfl) ?_
  simp [go_sem, e2, e4, e5, e9, e11, e13, hkb, hbk]
  refine CallStep.pure hr1 (.cons (.hf (hf_eSc sc)) (.cons (.hf (hf_lI p)) (.cons (.hf (hf_eRel _)) .nil))) ?_
  simp [go_sem, e2, e4, e5, e9, e11, e13, hkb, hbk]
  refine CallStep.pure hr2 (.cons (.hf (hf_eSc sc)) (.cons (.hf (hf_lI p)) (.cons (.hf (hf_eRel _)) .nil))) ?_
  simp [go_sem, e2, e4, e5, e9, e11, e13, hkb, hbk]
  refine AppendStep.ownF (lo := 0) (e := 64) (sz := 4) (bt := 64) (zv := .agg [aI 0, .lst true [], aI 0, .lst true []]) (xs := I0.map cBd) (ys := [cBd ⟨relImg p bd.lo, relImg p bd.up⟩]) (by simp [go_sem]) (by simp [go_sem]) (by simp [go_sem]) rfl rfl (by omega) (by omega) ho (by simp [rowsOf]) (rows_cBd _) (rows_cBd [⟨relImg p bd.lo, relImg p bd.up⟩]) (by simp; omega) ?_
  intro av' mu' ho' _
  simp [go_sem, e2, e4, e5, e9, e11, e13]
  refine ⟨hkb, wrap_i64 (by omega) (by omega), ?_⟩
  rw [hsucc, List.map_append]; exact ho'
end Go.Proofs.Ytiophnmdopoeeaa.W6

namespace Go.Proofs.Ytiophnmdopoeeaa.ZRefineConjugate
open Go Go.Ev Go.Proofs Go.Proofs.Ytiophnmdopoeeaa Go.RowKit Go.ChangeShapes Go.WideShapes
set_option linter.unusedVariables false

theorem own : ownKnob Try.prog.godebug = none := by kernel_rfl
theorem laid : laidOutB Try.prog = true := by kernel_rfl
theorem aSpec : ArgSh Try.prog 27 eSp okSp := ArgSh.struct (by kernel_rfl) D.shSpec
theorem aScope : ArgSh Try.prog 30 eSc okSc := ArgSh.struct (by kernel_rfl) D.shScope
theorem aBounds : ArgSh Try.prog 31 lBd (fun b => b.length ≤ maxLen ∧ ∀ x, x ∈ b → okBd x) := ArgSh.slice D.unBounds D.shBounds
theorem unU16 : Try.prog.underlying 52 = some (.int .u16) := by kernel_rfl
theorem shU16 (N : Nat) : ShU Try.prog N 52 (fun n : Int => [.sc (.int .u16 n)]) okU16 :=
  (ShU.int unU16 N).map (fun n => n) (fun _ => rfl) (fun n h => by
    simp [Lit.wf, IntKind.min, IntKind.max, IntKind.signed, IntKind.bits] at h
    exact h)
theorem aU16 : ArgSh Try.prog 52 (fun n : Int => .sc (.int .u16 n)) okU16 := ArgSh.int unU16 shU16

theorem law (sp : Sp) (sc : Sc) (b : List Bd) (u0 : Int) (h1 : okSp sp) (h2 : okSc sc) (h3 : b.length ≤ maxLen ∧ ∀ x, x ∈ b → okBd x) (ku0 : okU16 u0) : SoundP Try.prog 9 [eSp sp, eSc sc, lBd b, .sc (.int .u16 u0)] (aB true) :=
  W6.conjugateU sp sc b u0 (fun f hf => Nat.le_trans (h1.fields f hf).sorts.1 (Nat.le_of_ble_eq_true (by kernel_rfl))) ku0

set_option maxRecDepth 100000 in
theorem lifted (os : Os) (started : os.Started) (H : Type) (enc : TypeId × Value → H) :
    ReturnsInHanded {} Try.checked os 9 .any (Rows.refineConjugateSpec.pre6 enc Try.prog Try.f9 Rows.refineConjugateRow.domain false) (Rows.refineConjugateSpec.post enc Try.prog Try.f9 false true false false) := by
  refine returnsInHanded_of_change (C := Try.checked) own started (by kernel_rfl) Try.func9
    (ChangeSpec.witness6 (enc := enc) (C := Try.checked) false ⟨#[], #[.agg #[.slice none 0 0, .slice none 0 0, .slice none 0 0, .slice none 0 0], .agg #[.slice none 0 0, .int .i64 0], .slice none 0 0, .int .u16 0], []⟩ 8 (by kernel_rfl) (by kernel_rfl) (by kernel_rfl) (by kernel_rfl)) ?_
  intro W base args ds gs before hval hW h8 h9
  exact law_row (ts := [27, 30, 31, 52]) (tb := 4) (by kernel_rfl) (.cons aSpec (.cons aScope (.cons aBounds (.cons aU16 .nil)))) rfl
    (fun H ds h => by match ds, h with | [_, _, _, _], h10 => rfl) (by kernel_rfl) D.unBool laid (by kernel_rfl) (fun a h => law a.1 a.2.1 a.2.2.1 a.2.2.2.1 h.1 h.2.1 h.2.2.1 h.2.2.2.1) H enc W base args ds gs before hval hW

theorem holds : Rows.RefineConjugateSaid :=
  OpenClaim.holds_of_wide 9 Try.f9 rfl rfl rfl rfl rfl rfl rfl ⟨rfl, rfl, rfl, rfl, rfl⟩ rfl rfl rfl rfl rfl (by kernel_rfl) Try.func9 (by kernel_rfl)
    (of_decide_eq_true (by kernel_rfl)) (by unfold Func.isWrapper; first | (rw [if_pos (by decide +kernel)]; kernel_rfl) | (rw [if_neg (by decide +kernel)]; exact ⟨rfl, rfl⟩))
    (fun os started H enc h11 => lifted os started H enc)
end Go.Proofs.Ytiophnmdopoeeaa.ZRefineConjugate
