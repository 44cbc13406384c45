/-
  For every specification, scope and bounds that armatureref12.Fits accepts with at most 12 atoms, the classes that refine.Classes returns hold each atom once; two atoms of a class have the same sort (universe.SortOf), that sort exists and is not ordered, and armatureref12.Alike is true of them under the partition; classes are in the order of their first atoms, and the atoms of a class are in increasing order; for all others the law returns true at once. Conditions: none beside those of the given statement Rows.RefinePartitionSaid.
-/
import Derived.Test.YtiophnmdopoeeaaRows
import Derived.WalkKit
import Derived.JoinedCond
import Derived.Test.YtiophnmdopoeeaaMe

set_option linter.unusedVariables false
set_option linter.unusedSimpArgs false
set_option maxRecDepth 100000
namespace Go.Proofs.Ytiophnmdopoeeaa.W4
open Go Go.Ev Go.Proofs Go.Proofs.Ytiophnmdopoeeaa.C1 Go.Proofs.Ytiophnmdopoeeaa.C2 Go.Proofs.Ytiophnmdopoeeaa.C3 Go.Proofs.Ytiophnmdopoeeaa.C4 Go.Proofs.Ytiophnmdopoeeaa.C5 Go.Proofs.Ytiophnmdopoeeaa.C6 Go.Proofs.Ytiophnmdopoeeaa.C7 Go.Proofs.Ytiophnmdopoeeaa.C8 Go.Proofs.Ytiophnmdopoeeaa.C9 Go.Proofs.Ytiophnmdopoeeaa.C10 Go.Proofs.Ytiophnmdopoeeaa.C11 Go.Proofs.Ytiophnmdopoeeaa.C12 Go.Proofs.Ytiophnmdopoeeaa.C13 Go.Proofs.Ytiophnmdopoeeaa.C14 Go.Proofs.Ytiophnmdopoeeaa.C15 Go.Proofs.Ytiophnmdopoeeaa.C16 Go.Proofs.Ytiophnmdopoeeaa.C17 Go.Proofs.Ytiophnmdopoeeaa.C18 Go.Proofs.Ytiophnmdopoeeaa.C19 Go.Proofs.Ytiophnmdopoeeaa.C20 Go.Proofs.Ytiophnmdopoeeaa.C21 Go.Proofs.Ytiophnmdopoeeaa.C22 Go.Proofs.Ytiophnmdopoeeaa.C23 Go.Proofs.Ytiophnmdopoeeaa.C24 Go.Proofs.Ytiophnmdopoeeaa.C25 Go.Proofs.Ytiophnmdopoeeaa.C26 Go.Proofs.Ytiophnmdopoeeaa.C27 Go.Proofs.Ytiophnmdopoeeaa.C28 Go.Proofs.Ytiophnmdopoeeaa.C29 Go.Proofs.Ytiophnmdopoeeaa.C30 Go.Proofs.Ytiophnmdopoeeaa.C31 Go.Proofs.Ytiophnmdopoeeaa.C32 Go.Proofs.Ytiophnmdopoeeaa.C33 Go.Proofs.Ytiophnmdopoeeaa.C34 Go.Proofs.Ytiophnmdopoeeaa.C35 Go.Proofs.Ytiophnmdopoeeaa.L1 Go.Proofs.Ytiophnmdopoeeaa.L2 Go.Proofs.Ytiophnmdopoeeaa.L3 Go.Proofs.Ytiophnmdopoeeaa.L4 Go.Proofs.Ytiophnmdopoeeaa.L5 Go.Proofs.Ytiophnmdopoeeaa.L6 Go.Proofs.Ytiophnmdopoeeaa.L7 Go.Proofs.Ytiophnmdopoeeaa.L8 Go.Proofs.Ytiophnmdopoeeaa.L9 Go.Proofs.Ytiophnmdopoeeaa.L10 Go.Proofs.Ytiophnmdopoeeaa.L11 Go.Proofs.Ytiophnmdopoeeaa.L12

theorem partitionU (sp : Sp) (sc : Sc) (bs : List Bd) (hf : ∀ f, f ∈ sp.fields → f.sorts.length ≤ 9223372036854775807) :
    SoundP Try.prog 3 [eSp sp, eSc sc, lBd bs] (aB true) := by
  refine SoundP.of_sound (Sound.of_awp Try.call3 Try.func3 rfl (Nat.le_of_ble_eq_true (by kernel_rfl)) (by kernel_rfl) (pl := {}) ?_)
  simp [go_sem]
  refine CallStep.pure headU .nil ?_
  simp [go_sem]
  refine CallStep.pure (fits12 sp sc bs 12 hf) (.cons (.hf (hf_eSp sp)) (.cons (.hf (hf_eSc sc)) (.cons (.hf (hf_lBd bs)) (.cons (.hf (HF.sc _)) .nil)))) ?_
  by_cases hfit : fitsOk sp sc bs 12 = true
  case neg =>
    simp only [Bool.not_eq_true] at hfit
    simp [go_sem, hfit]
    exact .hf _ (HF.sc _)
  obtain ⟨N, F⟩ := Fit.of hfit
  simp [go_sem, hfit]
  refine CallStep.pure (atomsU sc F.u.g) (.cons (.hf (hf_eSc sc)) .nil) ?_
  rw [F.hN]
  simp [go_sem]
  refine CallStep.pure (classesU sp sc F.u F.hsp bs F.gb) (args3 sp sc bs) ?_
  obtain ⟨m, hm, S⟩ := stableF (sp := sp) F.hN F.g
  have hcan := stable_canon (sp := sp) F.hN bs
  have hsort := fun x (hx : x < N) => F.sort hx
  have hN12 := F.le12
  unfold classesS
  rw [hm, S.len, Int.toNat_natCast]
  generalize (stableS sp sc bs).1 = c at *
  have hL := clsN_eq c m N S.rng
  have hLl : (clsN c m N).length = m := by rw [hL]; simp
  have hLg : ∀ v, v < m → (clsN c m N)[v]? = some ((filt c N (v : Int)).map fun (x : Nat) => (x : Int)) := fun v h => by rw [hL]; simp [h]
  have hnum := numbersU N F.le12 c m (by have := S.mle; omega) S.len S.rng
  have hons := (canon_onto hcan (fun x hx => (S.rng x hx).1) N (Nat.le_refl _)).2.2
  rw [S.onto] at hons
  have hmle := S.mle
  have hpos : ∀ v, v < m → 0 < (filt c N (v : Int)).length := fun v hv => by
    obtain ⟨y, hy, e⟩ := hons v (by omega) (by omega)
    exact List.length_pos_iff.2 (fun h => by have := mem_filt.2 ⟨hy, e⟩; rw [h] at this; simp at this)
  generalize clsN c m N = L at *
  clear hL
  simp [go_sem]
  refine CallStep.pure hnum (.cons (.hf (HF.sc _)) (.cons (.hf (hf_lL _)) .nil)) ?_
  simp [go_sem]
  refine LoopGo.up N (fun x st => st.tm 2 = lBd bs ∧ st.tm 3 = .ip [.lst false (sp.sorts.map cSort), .lst false (sp.fields.map cField), .lst false sp.preds, .lst false sp.facts] ∧ st.tm 4 = .ip [lI sc.atoms, aI sc.steps] ∧ st.tm 7 = aB true ∧ st.tm 8 = aI N ∧ st.tm 9 = lL L ∧ st.tm 10 = lI c ∧ st.tm 12 = aI x) ?_ ?_
  · simp [go_sem]
  rintro x st hx ⟨e2, e3, e4, e7, e8, e9, e10, e12⟩
  by_cases hxN : x < N
  case pos =>
    have hxc : x < c.length := by rw [S.len]; exact hxN
    have hx0 := (S.rng x hxN).1
    have hgx := gI_eq hxc
    rw [hgx] at hx0
    simp [go_sem, e2, e3, e4, e7, e8, e9, e10, e12, hxN, hxc, show ¬ c[x] < 0 by omega]
    refine LoopGo.up x (fun y st => st.tm 2 = lBd bs ∧ st.tm 3 = .ip [.lst false (sp.sorts.map cSort), .lst false (sp.fields.map cField), .lst false sp.preds, .lst false sp.facts] ∧ st.tm 4 = .ip [lI sc.atoms, aI sc.steps] ∧ st.tm 7 = aB true ∧ st.tm 8 = aI N ∧ st.tm 9 = lL L ∧ st.tm 10 = lI c ∧ st.tm 12 = aI x ∧ st.tm 13 = aI y) ?_ ?_
    · simp [go_sem, e2, e3, e4, e7, e8, e9, e10, e12]
    clear e2 e3 e4 e7 e8 e9 e10 e12
    clear st
    rintro y st hy ⟨e2, e3, e4, e7, e8, e9, e10, e12, e13⟩
    by_cases hyx : y < x
    case neg =>
      have hge : y = x := by omega
      subst hge
      simp [go_sem, e2, e3, e4, e7, e8, e9, e10, e12, e13]
      exact ⟨hxN, wrap_i64 (by omega) (by omega)⟩
    have hyc : y < c.length := by omega
    have hgy := gI_eq hyc
    have hfine := S.fine0 x y hxN (by omega)
    have hstab := S.stab x y hxN (by omega)
    unfold EQ at hfine hstab
    rw [hgx, hgy] at hfine hstab
    simp [go_sem, e2, e3, e4, e7, e8, e9, e10, e12, e13, hyx]
    refine DrawGo.intro (by kernel_rfl) ?_
    by_cases hcc : c[x] = c[y]
    case neg =>
      simp [go_sem, e2, e3, e4, e7, e8, e9, e10, e12, e13, hxc, hyc, hcc]
      exact ⟨hyx, wrap_i64 (by omega) (by omega)⟩
    have hal := (hfine hcc).resolve_left (by omega)
    have hAl := alikeB_of F.g (hstab hcc)
    unfold alike0 at hal
    rw [Bool.and_eq_true, decide_eq_true_eq, Bool.not_eq_true'] at hal
    obtain ⟨hso, hor⟩ := hal
    have hs := hsort x hxN
    have hGW : GW N c := ⟨by omega, by rw [S.len]; omega, fun v hv => by
      obtain ⟨i, hi, e⟩ := mem_gI hv
      have := S.rng i (by rw [← S.len]; exact hi)
      omega⟩
    have hGR : ∀ b, b ∈ bs → GR b.lo ∧ GR b.up := fun b hb => by
      have m1 : b.lo ∈ relsOf bs := by unfold relsOf; exact List.mem_flatMap.2 ⟨b, hb, by simp⟩
      have m2 : b.up ∈ relsOf bs := by unfold relsOf; exact List.mem_flatMap.2 ⟨b, hb, by simp⟩
      exact ⟨⟨by have := (F.g _ m1).len; omega, fun t ht => by have := (F.g _ m1).small (by omega) (by omega) t ht; omega⟩, ⟨by have := (F.g _ m2).len; omega, fun t ht => by have := (F.g _ m2).small (by omega) (by omega) t ht; omega⟩⟩
    have hAc := alikeB12 N bs x y c hGW (by have := F.b6; omega) hGR
    rw [hAl] at hAc
    have hs1 := sortOfU sc F.u.g x (by omega)
    have hs2 := sortOfU sc F.u.g y (by omega)
    rw [← hso] at hs2
    unfold ordAt at hor
    generalize sortU sc (x : Int) = s at *
    have hsl : s.toNat < sp.sorts.length := by omega
    rw [List.getElem?_eq_getElem hsl] at hor
    simp only [Option.map_some, Option.getD_some] at hor
    simp [go_sem, e2, e3, e4, e7, e8, e9, e10, e12, e13, hxc, hyc, hcc]
    refine CallStep.pure hs1 (.cons (.hf (hf_eSc sc)) (.cons (.hf (HF.sc _)) .nil)) ?_
    simp [go_sem, e2, e3, e4, e7, e8, e9, e10, e12, e13]
    refine CallStep.pure hs2 (.cons (.hf (hf_eSc sc)) (.cons (.hf (HF.sc _)) .nil)) ?_
    simp [go_sem, e2, e3, e4, e7, e8, e9, e10, e12, e13, hs, show ¬ s < 0 by omega, show ¬ (sp.sorts.length : Int) ≤ s by omega, hsl, hor]
    refine CallStep.pure hAc (.cons (.hf (HF.sc _)) (.cons (.hf (hf_lBd bs)) (.cons (.hf (HF.sc _)) (.cons (.hf (HF.sc _)) (.cons (.hf (hf_lI c)) .nil))))) ?_
    simp [go_sem, e2, e3, e4, e7, e8, e9, e10, e12, e13]
    exact ⟨hyx, wrap_i64 (by omega) (by omega)⟩
  have hge : x = N := by omega
  subst hge
  simp [go_sem, e2, e3, e4, e7, e8, e9, e10, e12]
  refine LoopGo.up m (fun v st => st.tm 7 = aB true ∧ st.tm 9 = lL L ∧ st.tm 16 = aI v ∧ ∃ last, st.tm 15 = aI last ∧ (v < m → last < (fstA c x (v : Int) : Nat))) ?_ ?_
  · simp [go_sem, e7, e9]
    intro h; omega
  clear e2 e3 e4 e7 e8 e9 e10 e12
  clear st
  rintro v st hv ⟨e7, e9, e16, last, e15, hlast⟩
  by_cases hvm : v < m
  case neg =>
    have hge : v = m := by omega
    subst hge
    simp [go_sem, e7, e9, e15, e16, hLl]
    exact .hf _ (HF.sc _)
  have hlast := hlast hvm
  have hvL : v < L.length := by omega
  have hLv : L[v] = (filt c x (v : Int)).map fun (x : Nat) => (x : Int) := by have := hLg v hvm; rw [List.getElem?_eq_getElem hvL] at this; exact Option.some.inj this
  have hp := hpos v hvm
  have hsrt := filt_sorted c x v
  have hfe := fstA_eq hp
  have hnext : v + 1 < m → (fstA c x (v : Int)) < fstA c x ((v : Int) + 1) := fun h => by
    have hp2 := hpos (v + 1) h
    rw [Int.natCast_add, Int.cast_ofNat_Int] at hp2
    obtain ⟨h1, h2⟩ := mem_filt.1 (List.getElem_mem hp2)
    obtain ⟨y, hy, e⟩ := hcan _ h1 v (by omega) (by rw [h2]; omega)
    have := filt_head hp (y := y) (by omega) e
    rw [fstA_eq hp2, hfe]; omega
  have hfl : (filt c x (v : Int)).length ≤ x := by
    have := List.length_filter_le (fun y => decide (gI c y = (v : Int))) (List.range x)
    rw [List.length_range] at this
    exact this
  generalize fstA c x (v : Int) = f0 at *
  clear hpos
  generalize hF : filt c x (v : Int) = F0 at *
  subst hfe
  generalize hlv : L[v] = l at *
  have hll : l.length = F0.length := by rw [hLv]; simp
  have hl0 : ∀ i (h : i < F0.length), l[i]'(by omega) = (F0[i] : Nat) := fun i h => by simp [hLv]
  have hl00 := hl0 0 hp
  simp [go_sem, e7, e9, e15, e16, hLl, hvm, hvL, hlv, hll, show ¬ (F0.length : Int) = 0 by omega, show ¬ F0.length = 0 by omega, hp, hl00, show 0 < l.length by omega, show ¬ (F0[0] : Int) ≤ last by omega]
  refine LoopGo.up (F0.length - 1) (fun d st => st.tm 7 = aB true ∧ st.tm 9 = lL L ∧ st.tm 16 = aI v ∧ st.tm 15 = aI F0[0] ∧ st.tm 17 = aI ((d + 1 : Nat) : Int)) ?_ ?_
  · simp [go_sem, e7, e9, e16]
  clear e7 e9 e15 e16
  clear st
  rintro d st hd ⟨e7, e9, e16, e15, e17⟩
  by_cases hdF : d + 1 < F0.length
  case neg =>
    have hge : d + 1 = F0.length := by omega
    simp [go_sem, e7, e9, e15, e16, e17, hLl, hvm, hvL, hlv, hll, show ¬ (d : Int) + 1 < F0.length by omega]
    exact ⟨wrap_i64 (by omega) (by omega), hnext⟩
  have h1 : l[d + 1]? = some (F0[d + 1] : Int) := by rw [List.getElem?_eq_getElem (by omega), hl0 (d + 1) hdF]
  have h2 : l[d]? = some (F0[d] : Int) := by rw [List.getElem?_eq_getElem (by omega), hl0 d (by omega)]
  have h3 := List.pairwise_iff_getElem.1 hsrt d (d + 1) (by omega) hdF (by omega)
  simp [go_sem, e7, e9, e15, e16, e17, hLl, hvm, hvL, hlv, hll, show (d : Int) + 1 < F0.length by omega]
  refine DrawGo.intro (by kernel_rfl) ?_
  have hw : IntKind.i64.wrap (d : Int) = d := wrap_i64 (by omega) (by omega)
  simp [go_sem, e7, e9, e15, e16, e17, hLl, hvm, hvL, hlv, hll, hw, h1, h2, show (0 : Int) ≤ (d : Int) + 1 by omega, show ((d : Int) + 1).toNat = d + 1 by omega, show (d : Int) + 1 < F0.length by omega, show (d : Int) < F0.length by omega, show ¬ (F0[d + 1] : Int) ≤ F0[d] by omega]
  exact ⟨by omega, wrap_i64 (by omega) (by omega)⟩
end Go.Proofs.Ytiophnmdopoeeaa.W4

namespace Go.Proofs.Ytiophnmdopoeeaa.ZRefinePartition
open Go Go.Ev Go.Proofs Go.Proofs.Ytiophnmdopoeeaa Go.RowKit Go.ChangeShapes Go.WideShapes
set_option linter.unusedVariables false

theorem own : ownKnob Try.prog.godebug = none := by kernel_rfl
theorem laid : laidOutB Try.prog = true := by kernel_rfl
theorem aSpec : ArgSh Try.prog 27 eSp okSp := ArgSh.struct (by kernel_rfl) D.shSpec
theorem aScope : ArgSh Try.prog 30 eSc okSc := ArgSh.struct (by kernel_rfl) D.shScope
theorem aBounds : ArgSh Try.prog 31 lBd (fun b => b.length ≤ maxLen ∧ ∀ x, x ∈ b → okBd x) := ArgSh.slice D.unBounds D.shBounds

theorem law (sp : Sp) (sc : Sc) (b : List Bd) (h1 : okSp sp) (h2 : okSc sc) (h3 : b.length ≤ maxLen ∧ ∀ x, x ∈ b → okBd x) : SoundP Try.prog 3 [eSp sp, eSc sc, lBd b] (aB true) :=
  W4.partitionU sp sc b (fun f hf => Nat.le_trans (h1.fields f hf).sorts.1 (Nat.le_of_ble_eq_true (by kernel_rfl)))

set_option maxRecDepth 100000 in
theorem lifted (os : Os) (started : os.Started) (H : Type) (enc : TypeId × Value → H) :
    ReturnsInHanded {} Try.checked os 3 .any (Rows.refinePartitionSpec.pre6 enc Try.prog Try.f3 Rows.refinePartitionRow.domain false) (Rows.refinePartitionSpec.post enc Try.prog Try.f3 false true false false) := by
  refine returnsInHanded_of_change (C := Try.checked) own started (by kernel_rfl) Try.func3
    (ChangeSpec.witness6 (enc := enc) (C := Try.checked) false ⟨#[], #[.agg #[.slice none 0 0, .slice none 0 0, .slice none 0 0, .slice none 0 0], .agg #[.slice none 0 0, .int .i64 0], .slice none 0 0], []⟩ 8 (by kernel_rfl) (by kernel_rfl) (by kernel_rfl) (by kernel_rfl)) ?_
  intro W base args ds gs before hval hW h8 h9
  exact law_row (ts := [27, 30, 31]) (tb := 4) (by kernel_rfl) (.cons aSpec (.cons aScope (.cons aBounds .nil))) rfl
    (fun H ds h => by match ds, h with | [_, _, _], h10 => rfl) (by kernel_rfl) D.unBool laid (by kernel_rfl) (fun a h => law a.1 a.2.1 a.2.2.1 h.1 h.2.1 h.2.2.1) H enc W base args ds gs before hval hW

theorem holds : Rows.RefinePartitionSaid :=
  OpenClaim.holds_of_wide 3 Try.f3 rfl rfl rfl rfl rfl rfl rfl ⟨rfl, rfl, rfl, rfl, rfl⟩ rfl rfl rfl rfl rfl (by kernel_rfl) Try.func3 (by kernel_rfl)
    (of_decide_eq_true (by kernel_rfl)) (by unfold Func.isWrapper; first | (rw [if_pos (by decide +kernel)]; kernel_rfl) | (rw [if_neg (by decide +kernel)]; exact ⟨rfl, rfl⟩))
    (fun os started H enc h11 => lifted os started H enc)
end Go.Proofs.Ytiophnmdopoeeaa.ZRefinePartition
