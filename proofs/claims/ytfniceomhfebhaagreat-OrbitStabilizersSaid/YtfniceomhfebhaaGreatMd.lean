/-
  Own library, part 4: an abstract reading of values and a calculus over it; contracts of functions; plain lemmas.
-/
import Derived.Test.YtfniceomhfebhaaGreatMc

set_option linter.unusedVariables false
set_option linter.unusedSimpArgs false
set_option maxRecDepth 100000
namespace Go.Proofs.YtfniceomhfebhaaGreat.C26
open Go Go.Ev Go.Proofs C1 C2 C3 C4 C7 C9 C10 C11 C12 C16 C17 C18 C20 C22 C24 C25

theorem signaturesU (sc : Sc) (u : GU sc) (rs : List Rl) (hr : ∀ r, r ∈ rs → GRel (sumI sc.atoms) r) (hrl : rs.length ≤ 100) (cls : List Int) (hcl : (cls.length : Int) = sumI sc.atoms) (hc : ∀ c, c ∈ cls → 0 ≤ c ∧ c ≤ 100) :
    SoundP Tryz.prog 103 [eSc sc, lRel rs, lI cls] (lSig (sigsOf (sumI sc.atoms) cls rs)) := by
  refine SoundP.of_sound (Sound.of_awp Tryz.call103 Tryz.func103 rfl (Nat.le_of_ble_eq_true (by kernel_rfl)) (by kernel_rfl) (pl := {}) ?_)
  have hn12 := u.n12
  have hcl12 : cls.length ≤ 12 := by omega
  generalize hN : cls.length = N at *
  simp [go_sem, hN, show (N : Int) ≤ 4294967296 by omega]
  refine LoopGo.up N (fun i st => st.tm 1 = lRel rs ∧ st.tm 2 = lI cls ∧ st.tm 3 = .ip [lI sc.atoms, aI sc.steps] ∧ st.tm 7 = .sl 0 1 0 N ∧ st.tm 23 = aI N ∧ st.tm 24 = aI i ∧ st.mu = .arr ((List.range i).map (fun j => AV.mp (1 + j)) ++ List.replicate (N - i) (AV.sc (.map none))) :: List.replicate i (.mp [])) ?_ ?_
  · simp [go_sem, hN]
  rintro i st hi ⟨e1, e2, e3, e7, e23, e24, hm⟩
  by_cases hlt : i < N
  · have hml : st.mu.length = 1 + i := by rw [hm]; simp; omega
    have hset : ((List.range i).map (fun j => AV.mp (1 + j)) ++ List.replicate (N - i) (AV.sc (.map none))).set i (.mp (1 + i)) = (List.range (i + 1)).map (fun j => AV.mp (1 + j)) ++ List.replicate (N - (i + 1)) (AV.sc (.map none)) := by
      rw [show N - i = (N - (i + 1)) + 1 by omega, List.replicate_succ, List.set_append_right _ _ (by simp)]
      simp [List.range_succ]
    have hcl : ((List.range i).map (fun j => AV.mp (1 + j)) ++ List.replicate (N - i) (AV.sc (.map none))).length = N := by simp; omega
    generalize (List.range i).map (fun j => AV.mp (1 + j)) ++ List.replicate (N - i) (AV.sc (.map none)) = cells at *
    simp [go_sem, e1, e2, e3, e7, e23, e24, hm, hlt, hcl, show i + 1 ≤ N by omega]
    rw [show i + 1 = 1 + i by omega, hset]
    refine ⟨wrap_i64 (by omega) (by omega), ?_⟩
    rw [show 1 + i = i + 1 by omega, List.replicate_succ']
    refine ⟨?_, rfl⟩
    rw [List.range_succ, List.map_append, List.append_assoc]
    simp [Nat.add_comm]
  have hge : i = N := by omega
  subst hge
  have hsm : SM i st.mu (sigsN (sumI sc.atoms) cls rs 0) := by
    rw [sigsN, foldN_zero, hm, hN]
    refine ⟨by simp, by simp, fun x h => ?_⟩
    have hx : x < i := by simpa using h
    rw [show 1 + x = x + 1 by omega, List.getElem?_cons_succ, List.getElem?_replicate, if_pos hx]
    simp
  simp [go_sem, e1, e2, e3, e7, e23, e24]
  generalize st.mu = mu0 at *
  clear hm
  refine LoopGo.up rs.length (fun k st => st.tm 2 = lI cls ∧ st.tm 3 = .ip [lI sc.atoms, aI sc.steps] ∧ st.tm 7 = .sl 0 1 0 i ∧ st.tm 32 = lRel rs ∧ st.tm 33 = aI rs.length ∧ st.tm 34 = aI k ∧ SM i st.mu (sigsN (sumI sc.atoms) cls rs k)) ?_ ?_
  · simp [go_sem, e2, e3, e7]
    exact hsm
  rintro k st hk ⟨e2, e3, e7, e32, e33, e34, hsm⟩
  by_cases hlt : k < rs.length
  case neg =>
    have hge : k = rs.length := by omega
    subst hge
    simp [go_sem, e2, e3, e7, e32, e33, e34]
    exact hsm.rd
  have gr := hr _ (List.getElem_mem hlt)
  have hB := SigsB.sigsN (sumI sc.atoms) cls rs hr k
  have hs1 : sigsN (sumI sc.atoms) cls rs (k + 1) = relN (sumI sc.atoms) k cls rs[k] (sigsN (sumI sc.atoms) cls rs k) rs[k].ts.length := by rw [sigsN, foldN_succ, gR_eq hlt]; rfl
  have hsmall := gr.small u.n0 (by omega)
  generalize sigsN (sumI sc.atoms) cls rs k = ms0 at *
  generalize hrr : rs[k] = r at *
  obtain ⟨ar0, ts⟩ := r
  obtain ⟨ar, har⟩ := Int.eq_ofNat_of_zero_le (show 0 ≤ ar0 by have := gr.ar1; simp at this; omega)
  subst har
  have har3 : ar ≤ 3 := by have := gr.ar3; simp at this; omega
  have hgl : st.mu.length > i := hsm.lt
  have hsmp : SM i (st.mu ++ [.arr [aI ar, lI ts]]) ms0 := hsm.push _
  have hL : (st.mu ++ [.arr [aI ar, lI ts]])[st.mu.length]? = some (.arr [aI ar, lI ts]) := by simp
  simp [go_sem, e2, e3, e7, e32, e33, e34, hlt, hrr]
  generalize st.mu.length = L at *
  generalize st.mu ++ [.arr [aI ar, lI ts]] = mu1 at *
  have hts : ∀ j, j < ts.length → 0 ≤ gI ts j ∧ gI ts j < sumI sc.atoms ^ ar ∧ 1 ≤ sumI sc.atoms := fun j hj => by
    rw [gI_eq hj]
    have h1 := gr.val _ (List.getElem_mem hj)
    have h2 := hsmall _ (List.getElem_mem hj)
    exact ⟨h1.1, by simpa using h1.2, h2.2.2⟩
  have htl : ts.length ≤ 2000 := gr.len
  have hk : k ≤ 100 := by omega
  refine LoopGo.up ts.length (fun j st => st.tm 2 = lI cls ∧ st.tm 3 = .ip [lI sc.atoms, aI sc.steps] ∧ st.tm 7 = .sl 0 1 0 i ∧ st.tm 32 = lRel rs ∧ st.tm 33 = aI rs.length ∧ st.tm 34 = aI k ∧ st.tm 9 = aI k ∧ st.tm 10 = .ptr L 0 ∧ st.tm 40 = lI ts ∧ st.tm 41 = aI ts.length ∧ st.tm 42 = aI j ∧
    st.mu[L]? = some (.arr [aI ar, lI ts]) ∧ SM i st.mu (relN (sumI sc.atoms) k cls ⟨ar, ts⟩ ms0 j)) ?_ ?_
  · simp [go_sem, e2, e3, e7, e32, e33, e34, hL]
    exact hsmp
  clear hsm hsmp hL e2 e3 e7 e32 e33 e34
  clear mu1
  clear st
  rintro j st hj ⟨e2, e3, e7, e32, e33, e34, e9, e10, e40, e41, e42, hL, hsm⟩
  by_cases hjl : j < ts.length
  case neg =>
    have hge : j = ts.length := by omega
    subst hge
    simp [go_sem, e2, e3, e7, e32, e33, e34, e9, e10, e40, e41, e42, hL, hlt]
    exact ⟨wrap_i64 (by omega) (by omega), by rw [hs1]; exact hsm⟩
  have ht := hts j hjl
  have hB1 := SigsB.relN hB (sumI sc.atoms) k cls ⟨ar, ts⟩ (by simpa using har3) j
  have hs2 : relN (sumI sc.atoms) k cls ⟨ar, ts⟩ ms0 (j + 1) = tupN k cls (digN (sumI sc.atoms) (gI ts j) ar) (relN (sumI sc.atoms) k cls ⟨ar, ts⟩ ms0 j) ar := by rw [relN, foldN_succ, ← relN]; rfl
  generalize relN (sumI sc.atoms) k cls ⟨ar, ts⟩ ms0 j = ms1 at *
  rw [gI_eq hjl] at ht hs2
  simp [go_sem, e2, e3, e7, e32, e33, e34, e9, e10, e40, e41, e42, hL, hjl]
  refine CallStep.pure (tupleU sc u.g ht.2.2 ar har3 ts[j] ht.1 ht.2.1) (.cons (.hf (hf_eSc sc)) (.cons (.hf (HF.sc _)) (.cons (.hf (HF.sc _)) .nil))) ?_
  have htm : ∀ d, d ∈ digN (sumI sc.atoms) ts[j] ar → 0 ≤ d ∧ d < sumI sc.atoms := digN_mem ht.2.2 ar
  have htlen := digN_len (sumI sc.atoms) ts[j] ar
  generalize digN (sumI sc.atoms) ts[j] ar = tup at *
  simp [go_sem, e2, e3, e7, e32, e33, e34, e9, e10, e40, e41, e42, hL, hjl, htlen]
  refine LoopGo.up ar (fun q st => st.tm 2 = lI cls ∧ st.tm 3 = .ip [lI sc.atoms, aI sc.steps] ∧ st.tm 7 = .sl 0 1 0 i ∧ st.tm 32 = lRel rs ∧ st.tm 33 = aI rs.length ∧ st.tm 34 = aI k ∧ st.tm 9 = aI k ∧ st.tm 10 = .ptr L 0 ∧ st.tm 40 = lI ts ∧ st.tm 41 = aI ts.length ∧ st.tm 42 = aI j ∧
    st.tm 13 = lI tup ∧ st.tm 51 = lI tup ∧ st.tm 52 = aI ar ∧ st.tm 53 = aI q ∧ st.mu[L]? = some (.arr [aI ar, lI ts]) ∧ SM i st.mu (tupN k cls tup ms1 q)) ?_ ?_
  · simp [go_sem, e2, e3, e7, e32, e33, e34, e9, e10, e40, e41, e42, hL]
    exact hsm
  clear hsm hL e2 e3 e7 e32 e33 e34 e9 e10 e40 e41 e42
  clear st
  rintro q st hq ⟨e2, e3, e7, e32, e33, e34, e9, e10, e40, e41, e42, e13, e51, e52, e53, hL, hsm⟩
  by_cases hql : q < ar
  case neg =>
    have hge : q = ar := by omega
    subst hge
    simp [go_sem, e2, e3, e7, e32, e33, e34, e9, e10, e40, e41, e42, e13, e51, e52, e53, hL, hjl]
    exact ⟨wrap_i64 (by omega) (by omega), by rw [hs2]; exact hsm⟩
  have hqt : q < tup.length := by omega
  have hB2 := SigsB.tupN hB1 k cls tup q
  have hs3 : tupN k cls tup ms1 (q + 1) = tupStep k cls tup (tupN k cls tup ms1 q) q := by rw [tupN, foldN_succ, ← tupN]
  have hx := htm _ (List.getElem_mem hqt)
  generalize tupN k cls tup ms1 q = ms2 at *
  rw [tupStep, gI_eq hqt] at hs3
  simp [go_sem, e2, e3, e7, e32, e33, e34, e9, e10, e40, e41, e42, e13, e51, e52, e53, hL, hql, hqt]
  refine CallStep.pure (indexI tup tup[q] (by omega)) (.cons (.hf (hf_lI _)) (.cons (.hf (HF.sc _)) .nil)) ?_
  generalize tup[q] = x at *
  generalize firstIn (fun y => decide (y = x)) tup 0 = fi at *
  by_cases hfi : fi < q
  · simp [go_sem, e2, e3, e7, e32, e33, e34, e9, e10, e40, e41, e42, e13, e51, e52, e53, hL, hql, hqt, hfi]
    rw [if_pos hfi] at hs3
    exact ⟨wrap_i64 (by omega) (by omega), by rw [hs3]; exact hsm⟩
  rw [if_neg hfi] at hs3
  have hgl : st.mu.length > i := hsm.lt
  have hLl : L < st.mu.length := (List.getElem?_eq_some_iff.1 hL).1
  have hW : (st.mu ++ [.arr ((wordN k cls x tup 0).map aI)])[st.mu.length]? = some (.arr ((wordN k cls x tup 0).map aI)) := by simp
  have hL' : (st.mu ++ [.arr ((wordN k cls x tup 0).map aI)])[L]? = some (.arr [aI ar, lI ts]) := by rw [List.getElem?_append_left hLl]; exact hL
  have hsmp : SM i (st.mu ++ [.arr ((wordN k cls x tup 0).map aI)]) ms2 := hsm.push _
  have hw0 : [AV.sc (.int .i64 k), .sc (.int .i64 0), .sc (.int .i64 0), .sc (.int .i64 0)] = (wordN k cls x tup 0).map aI := rfl
  simp [go_sem, e2, e3, e7, e32, e33, e34, e9, e10, e40, e41, e42, e13, e51, e52, e53, hL, hql, hqt, hfi, htlen]
  rw [hw0]
  generalize st.mu.length = M at *
  generalize st.mu ++ [.arr ((wordN k cls x tup 0).map aI)] = mu1 at *
  have hLM : L ≠ M := by omega
  clear hLl hL hsm hw0
  refine LoopGo.up ar (fun c st => st.tm 2 = lI cls ∧ st.tm 3 = .ip [lI sc.atoms, aI sc.steps] ∧ st.tm 7 = .sl 0 1 0 i ∧ st.tm 32 = lRel rs ∧ st.tm 33 = aI rs.length ∧ st.tm 34 = aI k ∧ st.tm 9 = aI k ∧ st.tm 10 = .ptr L 0 ∧ st.tm 40 = lI ts ∧ st.tm 41 = aI ts.length ∧ st.tm 42 = aI j ∧
    st.tm 13 = lI tup ∧ st.tm 51 = lI tup ∧ st.tm 52 = aI ar ∧ st.tm 53 = aI q ∧ st.tm 15 = aI x ∧ st.tm 16 = .ptr M 0 ∧ st.tm 65 = lI tup ∧ st.tm 66 = aI ar ∧ st.tm 67 = aI c ∧ st.mu[L]? = some (.arr [aI ar, lI ts]) ∧ st.mu[M]? = some (.arr ((wordN k cls x tup c).map aI)) ∧ SM i st.mu ms2) ?_ ?_
  · simp [go_sem, e2, e3, e7, e32, e33, e34, e9, e10, e40, e41, e42, e13, e51, e52, e53, hL', hW]
    exact hsmp
  clear hW hL' hsmp e2 e3 e7 e32 e33 e34 e9 e10 e40 e41 e42 e13 e51 e52 e53
  clear mu1
  clear st
  rintro c st hcq ⟨e2, e3, e7, e32, e33, e34, e9, e10, e40, e41, e42, e13, e51, e52, e53, e15, e16, e65, e66, e67, hL, hW, hsm⟩
  have hwl := wordN_len k cls x tup c
  by_cases hcl : c < ar
  · have hct : c < tup.length := by omega
    have hy := htm _ (List.getElem_mem hct)
    have hs4 : wordN k cls x tup (c + 1) = if tup[c] = x then wordN k cls x tup c else (wordN k cls x tup c).set (c + 1) (gI cls tup[c].toNat + 1) := by rw [wordN, foldN_succ, gI_eq hct, ← wordN]
    generalize wordN k cls x tup c = w at *
    by_cases hxy : tup[c] = x
    · rw [if_pos hxy] at hs4
      simp [go_sem, e2, e3, e7, e32, e33, e34, e9, e10, e40, e41, e42, e13, e51, e52, e53, e15, e16, e65, e66, e67, hL, hW, hcl, hct, hxy]
      exact ⟨wrap_i64 (by omega) (by omega), by rw [hs4], hsm⟩
    · rw [if_neg hxy] at hs4
      have hyn : tup[c].toNat < cls.length := by omega
      have hcv := hc _ (List.getElem_mem hyn)
      rw [gI_eq hyn] at hs4
      have w1 : IntKind.i64.wrap (cls[tup[c].toNat] + 1) = cls[tup[c].toNat] + 1 := wrap_i64 (by omega) (by omega)
      have w2 : IntKind.i64.wrap ((c : Int) + 1) = (c : Int) + 1 := wrap_i64 (by omega) (by omega)
      have hML : M < st.mu.length := (List.getElem?_eq_some_iff.1 hW).1
      have hset : (w.map aI).set (c + 1) (aI (cls[tup[c].toNat] + 1)) = (wordN k cls x tup (c + 1)).map aI := by rw [hs4, List.map_set]
      have hwl' : (w.map aI).length = 4 := by simpa using hwl
      generalize w.map aI = cells at *
      simp [go_sem, e2, e3, e7, e32, e33, e34, e9, e10, e40, e41, e42, e13, e51, e52, e53, e15, e16, e65, e66, e67, hL, hW, hcl, hct, hxy, hyn, hy.1, hN, show tup[c] < (i : Int) by omega, show tup[c].toNat < i by omega, w1, w2, hwl', hset, show (0 : Int) ≤ (c : Int) + 1 by omega, show (c : Int) + 1 < 4 by omega, show c + 1 + 1 ≤ 4 by omega]
      refine ⟨?_, ?_, hsm.hi hgl _⟩
      · rw [List.getElem?_set_ne hLM.symm]; exact hL
      · rw [List.getElem?_set_self hML]
  · have hge : c = ar := by omega
    subst hge
    have hB3 := look_bound (gS_B hB2 x.toNat) (wordN k cls x tup c)
    have hxn : x.toNat < i := by omega
    have hxm : x.toNat < ms2.length := by rw [hsm.len]; exact hxn
    have hmp := hsm.mp _ hxm
    have hptr := hsm.ptr
    have htk : (((List.range i).map (fun j => AV.mp (1 + j))).drop x.toNat).take 1 = [AV.mp (1 + x.toNat)] := by
      apply take1_drop
      rw [List.getElem?_map, List.getElem?_range hxn]; rfl
    have hpl : ((List.range i).map (fun j => AV.mp (1 + j))).length = i := by simp
    generalize (List.range i).map (fun j => AV.mp (1 + j)) = ptrs at *
    have hupd := hsm.upd hxn (bump (gS ms2 x.toNat) (wordN k cls x tup c))
    rw [htlen] at hs3
    rw [gS_eq hxm] at hs3 hB3 hupd
    have hfa := findA_sig (wordN k cls x tup c) hwl ms2[x.toNat] 0 (fun p hp => ((hB2 _ (List.getElem_mem hxm)).ok p hp).1)
    generalize ms2[x.toNat] = m at *
    generalize wordN k cls x tup c = w at *
    obtain ⟨w0, w1, w2, w3, rfl⟩ : ∃ w0 w1 w2 w3, w = [w0, w1, w2, w3] := by
      match w, hwl with
      | [w0, w1, w2, w3], _ => exact ⟨_, _, _, _, rfl⟩
    have hfa : findA Tryz.prog 157 (.agg [aI w0, aI w1, aI w2, aI w3]) (m.map eE) 0 = some (placeW [w0, w1, w2, w3] m 0) := hfa
    have hxml : 1 + x.toNat < st.mu.length := (List.getElem?_eq_some_iff.1 hmp).1
    have hbl : (bump m [w0, w1, w2, w3]) = match placeW [w0, w1, w2, w3] m 0 with | some i => m.set i ([w0, w1, w2, w3], lookS m [w0, w1, w2, w3] + 1) | none => m ++ [([w0, w1, w2, w3], 1)] := rfl
    have hlk : lookS m [w0, w1, w2, w3] = match placeW [w0, w1, w2, w3] m 0 with | some i => ((m[i]?).map (·.2)).getD 0 | none => 0 := rfl
    have hself : ∀ a : Cell, (st.mu.set (1 + x.toNat) a)[1 + x.toNat]? = some a := fun a => by rw [List.getElem?_set_self hxml]
    have hLx : L ≠ 1 + x.toNat := by omega
    simp [go_sem, e2, e3, e7, e32, e33, e34, e9, e10, e40, e41, e42, e13, e51, e52, e53, e15, e16, e65, e66, e67, hL, hW]
    refine DrawGo.intro (by kernel_rfl) ?_
    cases hpw : placeW [w0, w1, w2, w3] m 0 with
    | none =>
      rw [hpw] at hfa hbl
      have hmm : m.map eE ++ [(AV.agg [aI w0, aI w1, aI w2, aI w3], aI 1)] = (bump m [w0, w1, w2, w3]).map eE := by rw [hbl]; simp
      have hset : (m.map eE ++ [(AV.agg [aI w0, aI w1, aI w2, aI w3], aI 0)]).set m.length (AV.agg [aI w0, aI w1, aI w2, aI w3], aI 1) = m.map eE ++ [(AV.agg [aI w0, aI w1, aI w2, aI w3], aI 1)] := by
        rw [List.set_append_right _ _ (by simp)]; simp
      have hget : (m.map eE ++ [(AV.agg [aI w0, aI w1, aI w2, aI w3], aI 0)])[m.length]? = some (AV.agg [aI w0, aI w1, aI w2, aI w3], aI 0) := by
        rw [List.getElem?_append_right (by simp)]; simp
      simp [go_sem, e2, e3, e7, e32, e33, e34, e9, e10, e40, e41, e42, e13, e51, e52, e53, e15, e16, e65, e66, e67, hL, hW, hx.1, show x < (i : Int) by omega, hptr, hxn, hmp, htk, hpl, show x.toNat + 1 ≤ i by omega, hfa, hself, hget, hset, show IntKind.i64.wrap 1 = 1 by rfl]
      rw [hmm, hs3]
      exact ⟨hql, wrap_i64 (by omega) (by omega), by rw [List.getElem?_set_ne hLx.symm]; exact hL, hupd⟩
    | some jj =>
      rw [hpw] at hfa hbl hlk
      have hjj := (placeW_lt _ _ _ _ hpw).2
      have hjl : jj < m.length := by omega
      simp only [List.getElem?_eq_getElem hjl, Option.map_some, Option.getD_some] at hlk
      have hmm : (m.map eE).set jj (AV.agg [aI w0, aI w1, aI w2, aI w3], aI (m[jj].2 + 1)) = (bump m [w0, w1, w2, w3]).map eE := by rw [hbl, hlk, List.map_set]; rfl
      have hset : ((m.map eE).set jj (AV.agg [aI w0, aI w1, aI w2, aI w3], aI m[jj].2)).set jj (AV.agg [aI w0, aI w1, aI w2, aI w3], aI (m[jj].2 + 1)) = (m.map eE).set jj (AV.agg [aI w0, aI w1, aI w2, aI w3], aI (m[jj].2 + 1)) := by rw [List.set_set]
      have hget : ((m.map eE).set jj (AV.agg [aI w0, aI w1, aI w2, aI w3], aI m[jj].2))[jj]? = some (AV.agg [aI w0, aI w1, aI w2, aI w3], aI m[jj].2) := by
        rw [List.getElem?_set_self (by simpa using hjl)]
      have w2' : IntKind.i64.wrap (m[jj].2 + 1) = m[jj].2 + 1 := wrap_i64 (by omega) (by omega)
      simp [go_sem, e2, e3, e7, e32, e33, e34, e9, e10, e40, e41, e42, e13, e51, e52, e53, e15, e16, e65, e66, e67, hL, hW, hx.1, show x < (i : Int) by omega, hptr, hxn, hmp, htk, hpl, show x.toNat + 1 ≤ i by omega, hfa, hself, hget, hset, hjl, w2']
      rw [hmm, hs3]
      exact ⟨hql, wrap_i64 (by omega) (by omega), by rw [List.getElem?_set_ne hLx.symm]; exact hL, hupd⟩
end Go.Proofs.YtfniceomhfebhaaGreat.C26

set_option linter.unusedVariables false
set_option linter.unusedSimpArgs false
set_option maxRecDepth 100000
namespace Go.Proofs.YtfniceomhfebhaaGreat.C27
open Go Go.Ev Go.Proofs C1 C2 C3 C4 C7 C9 C10 C11 C12 C14 C15 C16 C17 C18 C20 C22 C24 C25 C26

theorem sortIn_range : ∀ (l : List Int) (x i : Int), (∀ a, a ∈ l → 0 ≤ a) → 0 ≤ x → x < sumI l → i ≤ sortIn l x i ∧ sortIn l x i < i + l.length
  | [], x, i, _, h0, h1 => by simp [sumI] at h1; omega
  | a :: l, x, i, ha, h0, h1 => by
    rw [sortIn]
    by_cases h : x < a
    · rw [if_pos h]; simp; omega
    · rw [if_neg h]
      have e : sumI (a :: l) = a + sumI l := rfl
      have := sortIn_range l (x - a) (i + 1) (fun b hb => ha b (by simp [hb])) (by omega) (by omega)
      simp only [List.length_cons]
      omega
theorem sortU_range {sc : Sc} (g : GSc sc) {x : Int} (h0 : 0 ≤ x) (h1 : x < sumI sc.atoms) : 0 ≤ sortU sc x ∧ sortU sc x < sc.atoms.length := by
  have := sortIn_range sc.atoms x 0 (fun a ha => (g.2 a ha).1) h0 h1
  unfold sortU sortAt
  rw [if_neg (by omega)]
  omega

/-- how many of the first x values are new -/
def firstsN (cls : List Int) : Nat → Int
  | 0 => 0
  | x + 1 => firstsN cls x + (if ∃ y, y < x ∧ gI cls y = gI cls x then 0 else 1)
theorem firstsN_congr {a b : List Int} : ∀ x, (∀ y, y < x → gI a y = gI b y) → firstsN a x = firstsN b x
  | 0, _ => rfl
  | x + 1, h => by
    rw [firstsN, firstsN, firstsN_congr x (fun y hy => h y (by omega))]
    have : (∃ y, y < x ∧ gI a y = gI a x) ↔ (∃ y, y < x ∧ gI b y = gI b x) := by
      constructor
      · rintro ⟨y, hy, e⟩; exact ⟨y, hy, by rw [← h y (by omega), ← h x (by omega)]; exact e⟩
      · rintro ⟨y, hy, e⟩; exact ⟨y, hy, by rw [h y (by omega), h x (by omega)]; exact e⟩
    simp only [this]
theorem mate_some {cls : List Int} {al : Nat → Nat → Bool} {x : Nat} : ∀ {y z}, mate cls al x y = some z → z < y ∧ gI cls x = gI cls z ∧ al x z = true
  | 0, z, h => by simp [mate] at h
  | y + 1, z, h => by
    rw [mate] at h
    cases hm : mate cls al x y with
    | some w =>
      rw [hm] at h
      simp only [Option.some.injEq] at h
      subst h
      have := mate_some hm
      exact ⟨by omega, this.2⟩
    | none =>
      rw [hm] at h
      simp only at h
      split at h
      · rename_i hc
        simp only [Option.some.injEq] at h
        subst h; exact ⟨by omega, hc⟩
      · simp at h
theorem split_ge (cls : List Int) (al : Nat → Nat → Bool) : ∀ x, firstsN cls x ≤ (splitN cls al x).2
  | 0 => by simp [firstsN, splitN]
  | x + 1 => by
    have ih := split_ge cls al x
    rw [firstsN, splitN]
    cases hm : mate cls al x x with
    | some y =>
      have := mate_some hm
      rw [if_pos ⟨y, this.1, this.2.1.symm⟩]
      simpa using ih
    | none =>
      simp only
      split <;> omega
theorem gI_app_left {a b : List Int} {y : Nat} (h : y < a.length) : gI (a ++ b) y = gI a y := by
  simp only [gI, List.getElem?_append_left h]
theorem gI_app_last {a : List Int} {v : Int} {y : Nat} (h : y = a.length) : gI (a ++ [v]) y = v := by
  subst h; simp [gI]
theorem firsts_split (cls : List Int) (al : Nat → Nat → Bool) : ∀ x, firstsN (splitN cls al x).1 x = (splitN cls al x).2
  | 0 => by simp [firstsN, splitN]
  | x + 1 => by
    have ih := firsts_split cls al x
    have ok := splitN_ok cls al x
    rw [firstsN, splitN]
    cases hm : mate cls al x x with
    | some y =>
      have hy := mate_some hm
      have e1 : firstsN ((splitN cls al x).1 ++ [gI (splitN cls al x).1 y]) x = firstsN (splitN cls al x).1 x := firstsN_congr x fun y hy => gI_app_left (by omega)
      simp only
      rw [e1, ih, if_pos ⟨y, hy.1, by rw [gI_app_left (by omega), gI_app_last (by omega)]⟩]
      simp
    | none =>
      have e1 : firstsN ((splitN cls al x).1 ++ [(splitN cls al x).2]) x = firstsN (splitN cls al x).1 x := firstsN_congr x fun y hy => gI_app_left (by omega)
      simp only
      rw [e1, ih, if_neg]
      rintro ⟨y, hy, e⟩
      rw [gI_app_left (by omega), gI_app_last (by omega), gI_eq (show y < (splitN cls al x).1.length by omega)] at e
      have := ok.2.2.2 _ (List.getElem_mem (show y < (splitN cls al x).1.length by omega))
      omega

/-- one round of refinement -/
def sigAl (N : Int) (rs : List Rl) (cls : List Int) (x y : Nat) : Bool := sigEq (gS (sigsOf N cls rs) x) (gS (sigsOf N cls rs) y)
def roundS (N : Int) (rs : List Rl) (cls : List Int) : List Int × Int := splitN cls (sigAl N rs cls) cls.length
def stabF (N : Int) (rs : List Rl) : Nat → List Int × Int → List Int × Int
  | 0, c => c
  | f + 1, c => if (roundS N rs c.1).2 = c.2 then c else stabF N rs f (roundS N rs c.1)
def cls0 (sp : Sp) (sc : Sc) : List Int × Int := splitN (List.replicate (sumI sc.atoms).toNat 0) (fun x y => alike0 sp sc x y) (sumI sc.atoms).toNat
def stableS (sp : Sp) (sc : Sc) (bs : List Bd) : List Int × Int := stabF (sumI sc.atoms) (relsOf bs) ((sumI sc.atoms).toNat + 1) (cls0 sp sc)

theorem sigsN_len (n : Int) (cls : List Int) (rs : List Rl) : ∀ i, (sigsN n cls rs i).length = cls.length := by
  have h1 : ∀ (i : Int) (tup : List Int) (ms : List Sig) (k : Nat), (tupN i cls tup ms k).length = ms.length := by
    intro i tup ms k
    induction k with
    | zero => rfl
    | succ k ih =>
      rw [tupN, foldN_succ, ← tupN, tupStep]
      split
      · exact ih
      · simpa using ih
  have h2 : ∀ (i : Int) (r : Rl) (ms : List Sig) (j : Nat), (relN n i cls r ms j).length = ms.length := by
    intro i r ms j
    induction j with
    | zero => rfl
    | succ j ih => rw [relN, foldN_succ, ← relN, h1]; exact ih
  intro i
  induction i with
  | zero => simp [sigsN, foldN]
  | succ i ih => rw [sigsN, foldN_succ, ← sigsN, h2]; exact ih

theorem hf_ipSc (s : Sc) : HF (.ip [lI s.atoms, aI s.steps]) := HF.ip fun c hc => by
  simp at hc
  rcases hc with rfl | rfl
  · exact hf_lI _
  · exact HF.sc _
theorem hf_ipSp (s : Sp) : HF (.ip [.lst false (s.sorts.map cSort), .lst false (s.fields.map cField), .lst false s.preds, .lst false s.facts]) := HF.ip fun c hc => by
  simp at hc
  rcases hc with rfl | rfl | rfl | rfl
  · refine HF.lst fun r hr c hc => ?_
    obtain ⟨n, _, rfl⟩ := List.mem_map.1 hr
    simp at hc
    rcases hc with rfl | rfl <;> exact HF.sc _
  · refine HF.lst fun r hr c hc => ?_
    obtain ⟨n, _, rfl⟩ := List.mem_map.1 hr
    exact hf_cField n c hc
  · exact s.hp
  · exact s.hf
theorem cutM_one (give : Nat → Bool) (mu : Mu) (c : Cell) (b : Nat) (hb : b = mu.length) (h : give b = true) : (cutM give (mu ++ [c]) 0)[b]? = some c := by
  subst hb
  rw [cutM_get, List.getElem?_append_right (Nat.le_refl _)]
  simp [h]

theorem stableU (sp : Sp) (sc : Sc) (u : GU sc) (hsp : sc.atoms.length = sp.sorts.length) (bs : List Bd) (gb : GBs (sumI sc.atoms) bs) :
    SoundP Tryz.prog 78 [eSp sp, eSc sc, lBd bs] (.tup [lI (stableS sp sc bs).1, aI (stableS sp sc bs).2]) := by
  refine SoundP.of_sound (Sound.of_awp Tryz.call78 Tryz.func78 rfl (Nat.le_of_ble_eq_true (by kernel_rfl)) (by kernel_rfl) (pl := {}) ?_)
  simp [go_sem]
  refine CallStep.pure (relationsL bs (by have := gb.len; omega)) (.cons (.hf (hf_lBd bs)) .nil) ?_
  simp [go_sem]
  refine CallStep.pure (atomsU sc u.g) (.cons (.hf (hf_eSc sc)) .nil) ?_
  obtain ⟨N, hN⟩ := Int.eq_ofNat_of_zero_le u.n0
  have hN12 : N ≤ 12 := by have := u.n12; omega
  simp [go_sem, hN, show (N : Int) ≤ 4294967296 by omega]
  have hisp : HF (.ip [.lst false (sp.sorts.map cSort), .lst false (sp.fields.map cField), .lst false sp.preds, .lst false sp.facts]) := hf_ipSp sp
  have hisc : HF (.ip [lI sc.atoms, aI sc.steps]) := hf_ipSc sc
  have hfv1 : HF (.fn (.func 101) [] [.ip [lI sc.atoms, aI sc.steps], .ip [.lst false (sp.sorts.map cSort), .lst false (sp.fields.map cField), .lst false sp.preds, .lst false sp.facts]]) := HF.fn (fun c hc => by simp at hc) (fun c hc => by
    simp at hc
    rcases hc with rfl | rfl
    · exact hisc
    · exact hisp)
  have hrel := gb.rels
  have hcs := split_ok (List.replicate N 0) _ (fun x y => alike0 sp sc x y) (by simp; omega) ⟨hfv1, _, _, rfl, fun x y hxy => ⟨_, .cons (.hf (HF.sc _)) (.cons (.hf (HF.sc _)) (.cons (.hf hisc) (.cons (.hf hisp) .nil))), stable1 sp sc u.g x y (by simp at hxy; omega) (by simp at hxy; omega) (by
    have := sortU_range u.g (x := x) (by omega) (by simp at hxy; omega)
    omega)⟩⟩
  have hc0 : cls0 sp sc = splitN (List.replicate N 0) (fun x y => alike0 sp sc x y) N := by unfold cls0; rw [hN]; rfl
  rw [List.length_replicate, ← hc0] at hcs
  refine CallStep.eff (caps := []) (Sound.freeze (args1 := [lI (List.replicate N 0), _]) (fun _ => true) ⟨.inr (OwnF.ofCells (lo := 0) (xs := List.replicate N 0) (Nat.zero_le _) (by simp [cutM]) (by simp)).rdI, .inl rfl, trivial⟩ (SoundP.toSound _ hcs (.cons (.hf (hf_lI _)) (.cons (.hf hfv1) .nil)))) ?_ (by rintro r m ⟨h, _⟩; cases h)
  rintro _ m ⟨he, rfl⟩
  cases he
  simp [go_sem]
  have hNn : (sumI sc.atoms).toNat = N := by omega
  have ok0 := splitN_ok (List.replicate N 0) (fun x y => alike0 sp sc x y) N
  have fs0 := firsts_split (List.replicate N 0) (fun x y => alike0 sp sc x y) N
  rw [← hc0] at ok0 fs0
  have hst : stableS sp sc bs = stabF (sumI sc.atoms) (relsOf bs) (N + 1) (cls0 sp sc) := by unfold stableS; rw [hNn]
  generalize cls0 sp sc = c0 at *
  generalize hres : stableS sp sc bs = res at *
  refine LoopGo.keep (fun f st => ∃ c : List Int × Int, st.tm 4 = .ip [lI sc.atoms, aI sc.steps] ∧ st.tm 8 = lRel (relsOf bs) ∧ st.tm 9 = lI c.1 ∧ st.tm 10 = aI c.2 ∧ c.1.length = N ∧ (∀ x, x ∈ c.1 → 0 ≤ x ∧ x < c.2) ∧ 0 ≤ c.2 ∧ c.2 ≤ N ∧ firstsN c.1 N = c.2 ∧ stabF (sumI sc.atoms) (relsOf bs) f c = res ∧ (N : Int) + 1 ≤ f + c.2) (N + 1) ?_ ?_
  · exact ⟨c0, by simp [go_sem], by simp [go_sem], by simp [go_sem], by simp [go_sem], ok0.1, ok0.2.2.2, ok0.2.1, ok0.2.2.1, fs0, hst.symm, by omega⟩
  rintro f st ⟨c, e4, e8, e9, e10, hcl, hcv, hm0, hmN, hfs, hsf, hf⟩
  obtain ⟨f, rfl⟩ : ∃ g, f = g + 1 := ⟨f - 1, by omega⟩
  have hsig := signaturesU sc u (relsOf bs) hrel.2 (by omega) c.1 (by omega) (fun x hx => by have := hcv x hx; omega)
  have hsl := sigsN_len (sumI sc.atoms) c.1 (relsOf bs) (relsOf bs).length
  have hsok := sigsOf_ok (cls := c.1) hrel.2 (by omega)
  have hal : ∀ x y, sigAl (sumI sc.atoms) (relsOf bs) c.1 x y = sigEq (gS (sigsOf (sumI sc.atoms) c.1 (relsOf bs)) x) (gS (sigsOf (sumI sc.atoms) c.1 (relsOf bs)) y) := fun _ _ => rfl
  have hr1 : roundS (sumI sc.atoms) (relsOf bs) c.1 = splitN c.1 (sigAl (sumI sc.atoms) (relsOf bs) c.1) N := by unfold roundS; rw [hcl]
  have hge := split_ge c.1 (sigAl (sumI sc.atoms) (relsOf bs) c.1) N
  have hfs1 := firsts_split c.1 (sigAl (sumI sc.atoms) (relsOf bs) c.1) N
  have ok1 := splitN_ok c.1 (sigAl (sumI sc.atoms) (relsOf bs) c.1) N
  rw [← hr1] at hge hfs1 ok1
  have hsl' : (sigsOf (sumI sc.atoms) c.1 (relsOf bs)).length = N := by unfold sigsOf; omega
  rw [stabF] at hsf
  generalize sigAl (sumI sc.atoms) (relsOf bs) c.1 = al at *
  generalize sigsOf (sumI sc.atoms) c.1 (relsOf bs) = ms at *
  have hims : HF (.ip [lSig ms]) := HF.ip fun c hc => by
    simp at hc; subst hc; exact hf_lSig ms
  have hfv2 : HF (.fn (.func 104) [] [.ip [lSig ms]]) := HF.fn (fun c hc => by simp at hc) (fun c hc => by
    simp at hc; subst hc; exact hims)
  have hsp2 := split_ok c.1 _ al (by omega) ⟨hfv2, _, _, rfl, fun x y hxy => ⟨_, .cons (.hf (HF.sc _)) (.cons (.hf (HF.sc _)) (.cons (.hf hims) .nil)), by
    have := stable2 ms x y (by omega) (by omega) hsok
    rw [hal, gS_eq (show x < ms.length by omega), gS_eq (show y < ms.length by omega)]
    exact this⟩⟩
  rw [hcl, ← hr1] at hsp2
  generalize roundS (sumI sc.atoms) (relsOf bs) c.1 = c1 at *
  simp [go_sem, e4, e8, e9, e10]
  refine CallStep.pure hsig (.cons (.hf (hf_eSc sc)) (.cons (.hf (hf_lRel _)) (.cons (.hf (hf_lI _)) .nil))) ?_
  simp [go_sem, e4, e8, e9, e10]
  have hL : (st.mu ++ [.arr [lSig ms]])[st.mu.length]? = some (.arr [lSig ms]) := by simp
  refine CallStep.eff (caps := []) (Sound.freeze (args1 := [lI c.1, .fn (.func 104) [] [.ip [lSig ms]]]) (fun _ => true) ⟨.inl rfl, .inr ?_, trivial⟩ (SoundP.toSound _ hsp2 (.cons (.hf (hf_lI _)) (.cons (.hf hfv2) .nil)))) ?_ (by rintro r m ⟨h, _⟩; cases h)
  · refine .fn _ [] [] [.ptr st.mu.length 0] [.ip [lSig ms]] rfl rfl (by simp) (fun k x y hx hy => ?_)
    match k with
    | 0 =>
      simp at hx hy
      subst hx; subst hy
      refine .ptr _ 0 [lSig ms] [lSig ms] (by rw [cutM_get, hL]; simp) (by simp) (fun k x y hx hy => ?_)
      match k with
      | 0 => simp at hx hy; subst hx; subst hy; exact .hf _ (hf_lSig ms)
      | k + 1 => simp at hx
    | k + 1 => simp at hx
  rintro _ m ⟨he, rfl⟩
  cases he
  by_cases hmm : c1.2 = c.2
  · rw [if_pos hmm] at hsf
    subst hsf
    simp [go_sem, e4, e8, e9, e10, hmm]
    exact Rd.tup2 (.hf _ (hf_lI _)) (.hf _ (HF.sc _))
  · rw [if_neg hmm] at hsf
    simp [go_sem, e4, e8, e9, e10, hmm]
    exact Keep.loop f (by omega) ⟨c1, by simp [go_sem, e4], by simp [go_sem, e8], by simp [go_sem], by simp [go_sem], ok1.1, ok1.2.2.2, ok1.2.1, ok1.2.2.1, hfs1, hsf, by omega⟩
end Go.Proofs.YtfniceomhfebhaaGreat.C27

set_option linter.unusedVariables false
set_option linter.unusedSimpArgs false
set_option maxRecDepth 100000
namespace Go.Proofs.YtfniceomhfebhaaGreat.C28
open Go Go.Ev Go.Proofs C1 C2 C3 C4 C7 C9 C10 C11 C12 C14 C15 C16 C17 C18 C20 C22 C24 C25 C26 C27

/-- an owned row of integers: nothing, or a block of its own -/
def OwnI (mu : Mu) (s : AV) (l : List Int) : Prop := (s = .lst true [] ∧ l = []) ∨ ∃ b, s = .sl b 1 0 l.length ∧ mu[b]? = some (.arr (l.map aI))
/-- a row of owned rows -/
structure RowsM (mu : Mu) (cells : List AV) (ls : List (List Int)) : Prop where
  at0 : mu[0]? = some (.arr cells)
  len : cells.length = ls.length
  own : ∀ (i : Nat) s l, cells[i]? = some s → ls[i]? = some l → OwnI mu s l
  pos : ∀ (i b n : Nat), cells[i]? = some (.sl b 1 0 n) → 0 < b
  inj : ∀ (i j b n m : Nat), cells[i]? = some (.sl b 1 0 n) → cells[j]? = some (.sl b 1 0 m) → i = j
theorem OwnI.lt {mu : Mu} {s : AV} {l : List Int} (h : OwnI mu s l) {b n : Nat} (e : s = .sl b 1 0 n) : b < mu.length := by
  rcases h with ⟨rfl, _⟩ | ⟨b', rfl, hc⟩
  · cases e
  · cases e; exact (List.getElem?_eq_some_iff.1 hc).1
theorem RowsM.step {mu mu' : Mu} {cells : List AV} {ls : List (List Int)} (r : RowsM mu cells ls) {c : Nat} {s : AV} {l : List Int} {x : Int} (hs : cells[c]? = some s) (hl : ls[c]? = some l)
    (hn : mu'[mu.length]? = some (.arr ((l ++ [x]).map aI))) (hsame : ∀ i, i < mu.length → s ≠ .sl i 1 0 l.length → mu'[i]? = mu[i]?) :
    RowsM (mu'.set 0 (.arr (cells.set c (.sl mu.length 1 0 (l ++ [x]).length)))) (cells.set c (.sl mu.length 1 0 (l ++ [x]).length)) (ls.set c (l ++ [x])) := by
  have h0 : 0 < mu.length := (List.getElem?_eq_some_iff.1 r.at0).1
  have hm' : mu.length < mu'.length := (List.getElem?_eq_some_iff.1 hn).1
  have hc : c < cells.length := (List.getElem?_eq_some_iff.1 hs).1
  have hown := r.own c s l hs hl
  refine ⟨by rw [List.getElem?_set_self (by omega)], by simp [r.len], ?_, ?_, ?_⟩
  · intro i s' l' hi hli
    by_cases e : c = i
    · subst e
      rw [List.getElem?_set_self hc] at hi
      rw [List.getElem?_set_self (by have := r.len; omega)] at hli
      cases hi; cases hli
      exact .inr ⟨mu.length, rfl, by rw [List.getElem?_set_ne (by omega)]; exact hn⟩
    · rw [List.getElem?_set_ne e] at hi hli
      rcases r.own i s' l' hi hli with h | ⟨b, rfl, hb⟩
      · exact .inl h
      · have hbl : b < mu.length := (List.getElem?_eq_some_iff.1 hb).1
        have hbp := r.pos i b _ hi
        refine .inr ⟨b, rfl, ?_⟩
        rw [List.getElem?_set_ne (by omega), hsame b hbl ?_]
        · exact hb
        · intro es
          rw [es] at hs
          exact e (r.inj c i b _ _ hs hi)
  · intro i b n hi
    by_cases e : c = i
    · subst e
      rw [List.getElem?_set_self hc] at hi
      cases hi; exact h0
    · rw [List.getElem?_set_ne e] at hi; exact r.pos i b n hi
  · intro i j b n m hi hj
    by_cases e : c = i <;> by_cases e' : c = j
    · omega
    · subst e
      rw [List.getElem?_set_self hc] at hi
      rw [List.getElem?_set_ne e'] at hj
      cases hi
      have hjl : j < ls.length := by have := (List.getElem?_eq_some_iff.1 hj).1; have := r.len; omega
      have := (r.own j _ _ hj (List.getElem?_eq_getElem hjl)).lt rfl
      omega
    · subst e'
      rw [List.getElem?_set_self hc] at hj
      rw [List.getElem?_set_ne e] at hi
      cases hj
      have hil : i < ls.length := by have := (List.getElem?_eq_some_iff.1 hi).1; have := r.len; omega
      have := (r.own i _ _ hi (List.getElem?_eq_getElem hil)).lt rfl
      omega
    · rw [List.getElem?_set_ne e] at hi
      rw [List.getElem?_set_ne e'] at hj
      exact r.inj i j b n m hi hj
theorem OwnI.rd {mu : Mu} {s : AV} {l : List Int} (h : OwnI mu s l) : Rd mu s (lI l) := by
  rcases h with ⟨rfl, rfl⟩ | ⟨b, rfl, hc⟩
  · exact .wk _ true _ (.hf _ (HF.lst fun r hr => by simp at hr))
  · exact (OwnF.ofCells (lo := 0) (xs := l) (Nat.zero_le _) hc rfl).rdI
theorem flat_lL (l : List (List Int)) : (l.map rL).flatten = l.map lI := by
  induction l with
  | nil => rfl
  | cons x l ih => simp only [List.map_cons, List.flatten_cons, ih]; rfl
theorem RowsM.rd {mu : Mu} {cells : List AV} {ls : List (List Int)} (r : RowsM mu cells ls) {n : Nat} (hn : n = ls.length) : Rd mu (.sl 0 1 0 n) (lL ls) := by
  subst hn
  refine .sl 0 1 0 _ cells _ r.at0 (by have := r.len; omega) (by simp) (fun x hx => by
    obtain ⟨l, _, rfl⟩ := List.mem_map.1 hx; rfl) (fun k x y hx hy => ?_)
  rw [Nat.zero_add] at hx
  rw [flat_lL, List.getElem?_map] at hy
  cases hq : ls[k]? with
  | none => rw [hq] at hy; simp at hy
  | some l =>
    rw [hq] at hy; simp at hy; subst hy
    exact (r.own k x l hx hq).rd

/-- the atoms of each class among the first k -/
def clsN (cls : List Int) (m k : Nat) : List (List Int) := foldN (fun x ls => ls.set (gI cls x).toNat (gL ls (gI cls x).toNat ++ [(x : Int)])) (List.replicate m []) k
def classesS (sp : Sp) (sc : Sc) (bs : List Bd) : List (List Int) := clsN (stableS sp sc bs).1 (stableS sp sc bs).2.toNat (stableS sp sc bs).1.length

theorem stabF_ok (N : Int) (rs : List Rl) (n : Nat) : ∀ (f : Nat) (c : List Int × Int), (c.1.length = n ∧ 0 ≤ c.2 ∧ c.2 ≤ n ∧ (∀ x, x ∈ c.1 → 0 ≤ x ∧ x < c.2) ∧ firstsN c.1 n = c.2) →
    ((stabF N rs f c).1.length = n ∧ 0 ≤ (stabF N rs f c).2 ∧ (stabF N rs f c).2 ≤ n ∧ (∀ x, x ∈ (stabF N rs f c).1 → 0 ≤ x ∧ x < (stabF N rs f c).2) ∧ firstsN (stabF N rs f c).1 n = (stabF N rs f c).2)
  | 0, c, h => h
  | f + 1, c, h => by
    rw [stabF]
    split
    · exact h
    · refine stabF_ok N rs n f _ ?_
      have ok := splitN_ok c.1 (sigAl N rs c.1) c.1.length
      have fs := firsts_split c.1 (sigAl N rs c.1) c.1.length
      rw [h.1] at ok fs
      unfold roundS
      rw [h.1]
      exact ⟨ok.1, ok.2.1, ok.2.2.1, ok.2.2.2, fs⟩
theorem stableS_ok (sp : Sp) (sc : Sc) (bs : List Bd) (n : Nat) (hn : (sumI sc.atoms).toNat = n) :
    (stableS sp sc bs).1.length = n ∧ 0 ≤ (stableS sp sc bs).2 ∧ (stableS sp sc bs).2 ≤ n ∧ (∀ x, x ∈ (stableS sp sc bs).1 → 0 ≤ x ∧ x < (stableS sp sc bs).2) ∧ firstsN (stableS sp sc bs).1 n = (stableS sp sc bs).2 := by
  refine stabF_ok _ _ n _ _ ?_
  have ok := splitN_ok (List.replicate n 0) (fun x y => alike0 sp sc x y) n
  have fs := firsts_split (List.replicate n 0) (fun x y => alike0 sp sc x y) n
  unfold cls0
  rw [hn]
  exact ⟨ok.1, ok.2.1, ok.2.2.1, ok.2.2.2, fs⟩

end Go.Proofs.YtfniceomhfebhaaGreat.C28

set_option linter.unusedVariables false
set_option linter.unusedSimpArgs false
set_option maxRecDepth 100000
namespace Go.Proofs.YtfniceomhfebhaaGreat.C29
open Go Go.Ev Go.Proofs C1 C2 C3 C4 C5 C6 C7 C9 C10 C11 C12 C14 C15 C16 C17 C18 C20 C22 C24 C25 C26 C27 C28

theorem OwnF.same {lo : Nat} {mu mu' : Mu} {sz : Nat} {av : AV} {xs : List (List AV)} (h : OwnF lo mu sz av xs) (hl : mu.length ≤ mu'.length) (hs : ∀ i, i < mu.length → mu'[i]? = mu[i]?) : OwnF lo mu' sz av xs := by
  obtain ⟨ho, hb, hm⟩ := h
  refine ⟨?_, hb, by omega⟩
  rcases ho with rfl | ⟨b, rfl, hc⟩
  · exact .inl rfl
  · exact .inr ⟨b, rfl, by rw [hs b (List.getElem?_eq_some_iff.1 hc).1]; exact hc⟩
theorem rows_rP (xs : List (Int × Int)) : rowsWf 2 (xs.map rP) := fun r hr => by
  obtain ⟨n, _, rfl⟩ := List.mem_map.1 hr
  exact ⟨rfl, rfl⟩
def swapRow (cls : List Int) (sym : Nat → Nat → Bool) (x : Nat) (l : List (Int × Int)) (j : Nat) : List (Int × Int) := foldN (fun d l => if gI cls x = gI cls (x + 1 + d) ∧ sym x (x + 1 + d) = true then l ++ [((x : Int), ((x + 1 + d : Nat) : Int))] else l) l j
def swapsN (cls : List Int) (sym : Nat → Nat → Bool) (n k : Nat) : List (Int × Int) := foldN (fun x l => swapRow cls sym x l (n - (x + 1))) [] k
def symSw (sc : Sc) (bs : List Bd) (n : Nat) (x y : Nat) : Bool := symB sc bs (swapL x y n)
def swapsS (sp : Sp) (sc : Sc) (bs : List Bd) : List (Int × Int) := swapsN (stableS sp sc bs).1 (symSw sc bs (stableS sp sc bs).1.length) (stableS sp sc bs).1.length (stableS sp sc bs).1.length

end Go.Proofs.YtfniceomhfebhaaGreat.C29

set_option linter.unusedVariables false
set_option linter.unusedSimpArgs false
set_option maxRecDepth 100000
namespace Go.Proofs.YtfniceomhfebhaaGreat.C30
open Go Go.Ev Go.Proofs C1 C2 C3 C4 C5 C6 C7 C9 C10 C11 C12 C14 C15 C16 C17 C18 C19 C20 C22 C24 C25 C26 C27 C28 C29

theorem cloneI (p : List Int) (hl : p.length ≤ 1000000000) : SoundP Tryz.prog 82 [lI p] (lI p) := by
  refine SoundP.of_sound (Sound.of_awp Tryz.call82 Tryz.func82 rfl (Nat.le_of_ble_eq_true (by kernel_rfl)) (by kernel_rfl) (pl := {}) ?_)
  cases p with
  | nil =>
    simp [go_sem, lI]
    refine ⟨.wk _ true _ (.hf _ (HF.lst (full := true) (xs := []) fun r hr => by simp at hr)), ?_⟩
    refine AppendStep.ints (lo := 0) (e := 3) (bt := 8) (z := 0) (xs := []) (ys := []) (by simp [go_sem]) (by simp [go_sem]) (by simp [go_sem]) (by omega) (OwnF.nil (Nat.zero_le _)) (by simp [rowsOf]) (by simp) ?_
    intro av mu' ho _
    simp [go_sem]
    exact ho.rdI
  | cons x l =>
    simp [go_sem, lI]
    refine AppendStep.ints (lo := 0) (e := 3) (bt := 8) (z := 0) (xs := []) (ys := x :: l) (by simp [go_sem]) (by simp [go_sem]) (by simp [go_sem]) (by omega) (OwnF.nil (Nat.zero_le _)) (by simp [rowsOf]) (by simpa using (by simp at hl; omega)) ?_
    intro av mu' ho _
    simp [go_sem]
    exact ho.rdI
abbrev lTups (ts : List (List (List Int))) : AV := .lst false (ts.map fun l => [lL l])
abbrev eKT (t : Int) : AV × AV := (aI t, aB true)
abbrev eHas (l : List Int) : AV := .im (l.map eKT)
abbrev lHas (ls : List (List Int)) : AV := .lst false (ls.map fun l => [eHas l])
def tupsOf (n : Int) (r : Rl) : List (List Int) := r.ts.map fun t => digN n t r.ar.toNat
abbrev searchC (sc : Sc) (cls : List Int) (rs : List Rl) (n : Int) : List AV := [lI sc.atoms, aI sc.steps, lI cls, lRel rs, lTups (rs.map (tupsOf n)), lHas (rs.map Rl.ts)]
def cons1 (n : Int) (r : Rl) (p : List Int) (t : Int) : Bool := decide (maxF (digN n t r.ar.toNat) ≠ (p.length : Int) - 1) || decide (rankF n ((digN n t r.ar.toNat).map fun x => gI p x.toNat) ∈ r.ts)
def consR (n : Int) (p : List Int) (r : Rl) : Bool := r.ts.all (cons1 n r p)
def consB (n : Int) (rs : List Rl) (p : List Int) : Bool := rs.all (consR n p)

theorem hf_eHas (l : List Int) : HF (eHas l) := HF.im fun p hp => by
  obtain ⟨q, _, rfl⟩ := List.mem_map.1 hp
  exact ⟨HF.sc _, HF.sc _⟩
theorem hf_lHas (l : List (List Int)) : HF (lHas l) := HF.lst fun r hr c hc => by
  obtain ⟨n, _, rfl⟩ := List.mem_map.1 hr
  simp at hc; subst hc; exact hf_eHas _
theorem hf_lTups (l : List (List (List Int))) : HF (lTups l) := HF.lst fun r hr c hc => by
  obtain ⟨n, _, rfl⟩ := List.mem_map.1 hr
  simp at hc; subst hc; exact hf_lL _
theorem hf_search (sc : Sc) (cls : List Int) (rs : List Rl) (n : Int) : HF (.ip (searchC sc cls rs n)) := HF.ip fun c hc => by
  simp at hc
  rcases hc with rfl | rfl | rfl | rfl | rfl | rfl
  · exact hf_lI _
  · exact HF.sc _
  · exact hf_lI _
  · exact hf_lRel _
  · exact hf_lTups (rs.map (tupsOf n))
  · exact hf_lHas (rs.map Rl.ts)

theorem findA_int (x : Int) : ∀ (l : List Int) (i : Nat), ∃ r, findA Tryz.prog 3 (aI x) (l.map eKT) i = some r ∧ (r = none ↔ ¬ x ∈ l) ∧ ∀ j, r = some j → i ≤ j ∧ j < i + l.length
  | [], i => ⟨none, rfl, by simp, by simp⟩
  | y :: l, i => by
    obtain ⟨r, h1, h2, h3⟩ := findA_int x l (i + 1)
    have hk : keyEq Tryz.prog 3 (aI x) (aI y) = some (decide (x = y)) := by simp [go_sem]
    by_cases e : x = y
    · refine ⟨some i, ?_, by simp [e], fun j hj => ?_⟩
      · rw [List.map_cons, findA, hk]; simp [e]
      · simp only [Option.some.injEq] at hj; simp; omega
    · refine ⟨r, ?_, ?_, fun j hj => ?_⟩
      · rw [List.map_cons, findA, hk]; simp [e, h1]
      · rw [h2]; simp [e]
      · have := h3 j hj; simp; omega

theorem maxF_max : ∀ (l : List Int) (a : Int), a ≤ l.foldl max a ∧ ∀ y, y ∈ l → y ≤ l.foldl max a
  | [], a => by simp
  | x :: l, a => by
    have := maxF_max l (max a x)
    simp only [List.foldl_cons]
    refine ⟨by omega, fun y hy => ?_⟩
    rcases List.mem_cons.1 hy with rfl | h
    · omega
    · exact this.2 y h
theorem maxF_le {l : List Int} {y : Int} (h : y ∈ l) : y ≤ maxF l := by
  cases l with
  | nil => simp at h
  | cons x l =>
    have := maxF_max l x
    rcases List.mem_cons.1 h with rfl | h
    · exact this.1
    · exact this.2 y h

/-- the image of a tuple, filled up to q -/
def imgR (p tup : List Int) (T q : Nat) : List AV := ((tup.take q).map fun x => aI (gI p x.toNat)) ++ List.replicate (T - q) (aI 0)
theorem imgR_len (p tup : List Int) (T q : Nat) (hT : tup.length = T) (h : q ≤ T) : (imgR p tup T q).length = T := by simp [imgR]; omega
theorem imgR_set (p tup : List Int) (T q : Nat) (hT : tup.length = T) (h : q < T) : (imgR p tup T q).set q (aI (gI p (gI tup q).toNat)) = imgR p tup T (q + 1) := by
  have hq : q < tup.length := by omega
  rw [imgR, show T - q = (T - (q + 1)) + 1 by omega, List.replicate_succ, List.set_append_right _ _ (by simp; omega)]
  have : ((tup.take q).map fun x => aI (gI p x.toNat)).length = q := by simp; omega
  rw [this, Nat.sub_self, List.set_cons_zero, imgR, List.take_add_one, List.getElem?_eq_getElem hq, gI_eq hq, List.map_append, List.append_assoc]
  rfl
theorem imgR_full (p tup : List Int) (T : Nat) (hT : tup.length = T) : imgR p tup T T = (tup.map fun x => gI p x.toNat).map aI := by
  rw [imgR, List.take_of_length_le (by omega)]
  simp

theorem consistentU (sc : Sc) (u : GU sc) (cls : List Int) (rs : List Rl) (hr : ∀ r, r ∈ rs → GRel (sumI sc.atoms) r) (hrl : rs.length ≤ 100) (p : List Int) (hp : ∀ x, x ∈ p → 0 ≤ x ∧ x < sumI sc.atoms) (hpl : p.length ≤ 20) :
    SoundP Tryz.prog 84 [.ip (searchC sc cls rs (sumI sc.atoms)), lI p] (aB (consB (sumI sc.atoms) rs p)) := by
  refine SoundP.of_sound (Sound.of_awp Tryz.call84 Tryz.func84 rfl (Nat.le_of_ble_eq_true (by kernel_rfl)) (by kernel_rfl) (pl := {}) ?_)
  generalize hn : sumI sc.atoms = n at *
  simp [go_sem]
  refine LoopGo.up rs.length (fun k st => st.tm 0 = .ip (searchC sc cls rs n) ∧ st.tm 1 = lI p ∧ st.tm 5 = aI ((p.length : Int) - 1) ∧ st.tm 19 = lTups (rs.map (tupsOf n)) ∧ st.tm 20 = aI rs.length ∧ st.tm 21 = aI k ∧ ∀ (i : Nat) (h : i < rs.length), i < k → consR n p rs[i] = true) ?_ ?_
  · simp [go_sem]
    exact wrap_i64 (by omega) (by omega)
  rintro k st hk ⟨e0, e1, e5, e19, e20, e21, hall⟩
  by_cases hlt : k < rs.length
  case neg =>
    have hge : k = rs.length := by omega
    subst hge
    have : consB n rs p = true := all_iff_get.2 fun i hi => hall i hi hi
    rw [this]
    simp [go_sem, e0, e1, e5, e19, e20, e21]
    exact .hf _ (HF.sc _)
  have gr := hr _ (List.getElem_mem hlt)
  have hbad : consR n p rs[k] = false → consB n rs p = false := fun h => all_bad hlt h
  have hsmall := gr.small (by have := u.n0; omega) (by have := u.n12; omega)
  have hdig : ∀ t, t ∈ rs[k].ts → (∀ d, d ∈ digN n t rs[k].ar.toNat → 0 ≤ d ∧ d < n) := fun t ht => digN_mem (hsmall t ht).2.2 _
  have hrk : (rs.map (tupsOf n))[k]? = some (tupsOf n rs[k]) := by rw [List.getElem?_map, List.getElem?_eq_getElem hlt]; rfl
  have har1 := gr.ar1
  have har3 := gr.ar3
  have hlen := gr.len
  generalize hrr : rs[k] = r at *
  have htl : (tupsOf n r).length = r.ts.length := by simp [tupsOf]
  simp [go_sem, e0, e1, e5, e19, e20, e21, hlt, hrr, htl]
  refine LoopGo.up r.ts.length (fun j st => st.tm 0 = .ip (searchC sc cls rs n) ∧ st.tm 1 = lI p ∧ st.tm 5 = aI ((p.length : Int) - 1) ∧ st.tm 19 = lTups (rs.map (tupsOf n)) ∧ st.tm 20 = aI rs.length ∧ st.tm 21 = aI k ∧ st.tm 6 = aI k ∧ st.tm 26 = lL (tupsOf n r) ∧ st.tm 27 = aI r.ts.length ∧ st.tm 28 = aI j ∧
    ∀ (i : Nat) (h : i < r.ts.length), i < j → cons1 n r p r.ts[i] = true) ?_ ?_
  · simp [go_sem, e0, e1, e5, e19, e20, e21]
  clear e0 e1 e5 e19 e20 e21
  clear st
  rintro j st hj ⟨e0, e1, e5, e19, e20, e21, e6, e26, e27, e28, hallj⟩
  by_cases hjl : j < r.ts.length
  case neg =>
    have hge : j = r.ts.length := by omega
    subst hge
    simp [go_sem, e0, e1, e5, e19, e20, e21, e6, e26, e27, e28]
    refine ⟨hlt, wrap_i64 (by omega) (by omega), fun i h hi => ?_⟩
    rcases Nat.lt_succ_iff_lt_or_eq.1 hi with h2 | h2
    · exact hall i h h2
    · subst h2
      rw [hrr]
      exact all_iff_get.2 fun i hi => hallj i hi hi
  have hj' : j < (tupsOf n r).length := by omega
  have hget : (tupsOf n r)[j] = digN n r.ts[j] r.ar.toNat := by simp [tupsOf]
  have hd := hdig _ (List.getElem_mem hjl)
  have htlen := digN_len n r.ts[j] r.ar.toNat
  have hbadj : cons1 n r p r.ts[j] = false → consB n rs p = false := fun h => hbad (all_bad hjl h)
  have hc1 : cons1 n r p r.ts[j] = (decide (maxF (digN n r.ts[j] r.ar.toNat) ≠ (p.length : Int) - 1) || decide (rankF n ((digN n r.ts[j] r.ar.toNat).map fun x => gI p x.toNat) ∈ r.ts)) := rfl
  generalize hcb0 : cons1 n r p r.ts[j] = cb at *
  generalize digN n r.ts[j] r.ar.toNat = tup at *
  have hne : tup ≠ [] := by intro h; rw [h] at htlen; simp at htlen; omega
  have htl3 : tup.length ≤ 3 := by omega
  have hmaxle : ∀ y, y ∈ tup → y ≤ maxF tup := fun y hy => maxF_le hy
  have hmx : SoundP Tryz.prog 108 [lI tup] (aI (maxF tup)) := by
    cases tup with
    | nil => exact absurd rfl hne
    | cons x l => exact maxI x l (by simp at htl3; omega)
  generalize maxF tup = mx at *
  simp [go_sem, e0, e1, e5, e19, e20, e21, e6, e26, e27, e28, hjl, hj', hget]
  refine CallStep.pure hmx (.cons (.hf (hf_lI _)) .nil) ?_
  by_cases hm : mx = (p.length : Int) - 1
  case neg =>
    have hcb : cb = true := by rw [hc1]; simp [hm]
    simp [go_sem, e0, e1, e5, e19, e20, e21, e6, e26, e27, e28, hjl, hm]
    refine ⟨wrap_i64 (by omega) (by omega), fun i h hi => ?_⟩
    rcases Nat.lt_succ_iff_lt_or_eq.1 hi with h2 | h2
    · exact hallj i h h2
    · subst h2; rw [hcb0]; exact hcb
  have htp : ∀ y, y ∈ tup → 0 ≤ y ∧ y < p.length := fun y hy => by have := hmaxle y hy; have := hd y hy; omega
  generalize hT : tup.length = T at *
  simp [go_sem, e0, e1, e5, e19, e20, e21, e6, e26, e27, e28, hjl, hm, hT, show (T : Int) ≤ 4294967296 by omega]
  generalize hmu0 : st.mu = mu0 at *
  have hI0 : (mu0 ++ [.arr (List.replicate T (aI 0))])[mu0.length]? = some (.arr (imgR p tup T 0)) := by simp [imgR]
  generalize mu0 ++ [.arr (List.replicate T (aI 0))] = mu1 at *
  generalize mu0.length = L at *
  refine LoopGo.up T (fun q st => st.tm 0 = .ip (searchC sc cls rs n) ∧ st.tm 1 = lI p ∧ st.tm 5 = aI ((p.length : Int) - 1) ∧ st.tm 19 = lTups (rs.map (tupsOf n)) ∧ st.tm 20 = aI rs.length ∧ st.tm 21 = aI k ∧ st.tm 6 = aI k ∧ st.tm 26 = lL (tupsOf n r) ∧ st.tm 27 = aI r.ts.length ∧ st.tm 28 = aI j ∧
    st.tm 10 = .sl L 1 0 T ∧ st.tm 39 = lI tup ∧ st.tm 40 = aI T ∧ st.tm 41 = aI q ∧ st.mu[L]? = some (.arr (imgR p tup T q))) ?_ ?_
  · simp [go_sem, e0, e1, e5, e19, e20, e21, e6, e26, e27, e28, hT]
    exact hI0
  clear hI0 e0 e1 e5 e19 e20 e21 e6 e26 e27 e28 hmu0
  clear mu1
  clear st
  rintro q st hq ⟨e0, e1, e5, e19, e20, e21, e6, e26, e27, e28, e10, e39, e40, e41, hI⟩
  by_cases hqT : q < T
  · have hqt : q < tup.length := by omega
    have hy := htp _ (List.getElem_mem hqt)
    have hyn : tup[q].toNat < p.length := by omega
    have hset := imgR_set p tup T q hT hqT
    rw [gI_eq hqt, gI_eq hyn] at hset
    have hil := imgR_len p tup T q hT hq
    have hLl : L < st.mu.length := (List.getElem?_eq_some_iff.1 hI).1
    generalize imgR p tup T q = cells at *
    simp [go_sem, e0, e1, e5, e19, e20, e21, e6, e26, e27, e28, e10, e39, e40, e41, hI, hqT, hqt, hy.1, hy.2, hyn, hil, show q + 1 ≤ T by omega, hset]
    exact ⟨wrap_i64 (by omega) (by omega), by rw [List.getElem?_set_self hLl]⟩
  have hge : q = T := by omega
  subst hge
  have himg : imgR p tup q q = (tup.map fun x => gI p x.toNat).map aI := imgR_full p tup q hT
  rw [himg] at hI
  have hrd := (OwnF.ofCells (lo := 0) (n := q) (xs := tup.map fun x => gI p x.toNat) (Nat.zero_le _) hI (by simp [hT])).rdI
  have hiv : ∀ d, d ∈ (tup.map fun x => gI p x.toNat) → 0 ≤ d ∧ d < sumI sc.atoms := fun d hd => by
    obtain ⟨x, hx, rfl⟩ := List.mem_map.1 hd
    have := htp x hx
    have hx' : x.toNat < p.length := by omega
    rw [gI_eq hx', hn]
    exact hp _ (List.getElem_mem hx')
  have hhk : (rs.map Rl.ts)[k]? = some r.ts := by rw [List.getElem?_map, List.getElem?_eq_getElem hlt, hrr]; rfl
  have hrank := rankU sc u.g (tup.map fun x => gI p x.toNat) (by simp; omega) hiv
  rw [hn] at hrank
  generalize (tup.map fun x => gI p x.toNat) = img at *
  generalize rankF n img = rk at *
  simp [go_sem, e0, e1, e5, e19, e20, e21, e6, e26, e27, e28, e10, e39, e40, e41]
  refine DrawGo.intro (by kernel_rfl) ?_
  simp [go_sem, e0, e1, e5, e19, e20, e21, e6, e26, e27, e28, e10, e39, e40, e41, hlt, hrr]
  refine CallStep.lend (args' := [eSc sc, lI img]) hrank ⟨.hf _ (hf_eSc sc), hrd, trivial⟩ (FL.sc _) ?_
  obtain ⟨res, hf1, hf2, hf3⟩ := findA_int rk r.ts 0
  by_cases hin : rk ∈ r.ts
  · have hcb : cb = true := by rw [hc1]; simp [hin]
    cases res with
    | none => exact absurd hin (hf2.1 rfl)
    | some jj =>
      have hjj := (hf3 jj rfl).2
      have hjl2 : jj < r.ts.length := by omega
      simp [go_sem, e0, e1, e5, e19, e20, e21, e6, e26, e27, e28, e10, e39, e40, e41, hf1, hjl2]
      refine ⟨hjl, wrap_i64 (by omega) (by omega), fun i h hi => ?_⟩
      rcases Nat.lt_succ_iff_lt_or_eq.1 hi with h2 | h2
      · exact hallj i h h2
      · subst h2; rw [hcb0]; exact hcb
  · have hcb : cb = false := by rw [hc1]; simp [hin, hm]
    have hres := hf2.2 hin
    subst hres
    simp [go_sem, e0, e1, e5, e19, e20, e21, e6, e26, e27, e28, e10, e39, e40, e41, hf1]
    rw [hbadj hcb]
    exact .hf _ (HF.sc _)
end Go.Proofs.YtfniceomhfebhaaGreat.C30

set_option linter.unusedVariables false
set_option linter.unusedSimpArgs false
set_option maxRecDepth 100000
namespace Go.Proofs.YtfniceomhfebhaaGreat.C31
open Go Go.Ev Go.Proofs C1 C2 C3 C4 C5 C6 C7 C9 C10 C11 C12 C14 C15 C16 C17 C18 C19 C20 C22 C24 C25 C26 C27 C28 C29 C30

def goOn (cls : List Int) (cons : List Int → Bool) (p : List Int) (y : Nat) : Prop := gI cls y = gI cls p.length ∧ ¬ (y : Int) ∈ p ∧ cons (p ++ [(y : Int)]) = true
instance (cls : List Int) (cons : List Int → Bool) (p : List Int) (y : Nat) : Decidable (goOn cls cons p y) := by unfold goOn; infer_instance
/-- the search: all ways to go on from p, with d atoms to place -/
def extG (N : Nat) (cls : List Int) (cons : List Int → Bool) : Nat → List Int → List (List Int)
  | 0, p => [p]
  | d + 1, p => (List.range N).flatMap fun y => if goOn cls cons p y then extG N cls cons d (p ++ [(y : Int)]) else []
/-- .. the first k branches -/
def extK (N : Nat) (cls : List Int) (cons : List Int → Bool) (d : Nat) (p : List Int) (k : Nat) : List (List Int) := (List.range k).flatMap fun y => if goOn cls cons p y then extG N cls cons d (p ++ [(y : Int)]) else []
theorem extK_succ (N : Nat) (cls : List Int) (cons : List Int → Bool) (d : Nat) (p : List Int) (k : Nat) : extK N cls cons d p (k + 1) = extK N cls cons d p k ++ (if goOn cls cons p k then extG N cls cons d (p ++ [(k : Int)]) else []) := by
  rw [extK, List.range_succ, List.flatMap_append]; simp [extK]
theorem extK_all (N : Nat) (cls : List Int) (cons : List Int → Bool) (d : Nat) (p : List Int) : extK N cls cons d p N = extG N cls cons (d + 1) p := rfl
theorem extG_len (N : Nat) (cls : List Int) (cons : List Int → Bool) : ∀ (d : Nat) (p : List Int), (extG N cls cons d p).length ≤ N ^ d
  | 0, p => by simp [extG]
  | d + 1, p => by
    have key : ∀ k, (extK N cls cons d p k).length ≤ k * N ^ d := by
      intro k
      induction k with
      | zero => simp [extK]
      | succ k ih =>
        rw [extK_succ, List.length_append, Nat.succ_mul]
        have : (if goOn cls cons p k then extG N cls cons d (p ++ [(k : Int)]) else []).length ≤ N ^ d := by
          split
          · exact extG_len N cls cons d _
          · simp
        omega
    have := key N
    rw [extK_all] at this
    rw [Nat.pow_succ, Nat.mul_comm]; exact this
theorem extK_len (N : Nat) (cls : List Int) (cons : List Int → Bool) (d : Nat) (p : List Int) : ∀ k, (extK N cls cons d p k).length ≤ k * N ^ d
  | 0 => by simp [extK]
  | k + 1 => by
    have ih := extK_len N cls cons d p k
    rw [extK_succ, List.length_append, Nat.succ_mul]
    have : (if goOn cls cons p k then extG N cls cons d (p ++ [(k : Int)]) else []).length ≤ N ^ d := by
      split
      · exact extG_len N cls cons d _
      · simp
    omega

/-- the memory of the search: the list so far, the function itself -/
def GM (o x : Nat) (fnv : AV) (mu : Mu) (L : List (List Int)) : Prop := ∃ av, mu[o]? = some (.arr [av]) ∧ mu[x]? = some (.arr [fnv]) ∧ OwnF (max o x + 1) mu 1 av (L.map rL)
theorem GM.push {o x : Nat} {fnv : AV} {mu : Mu} {L : List (List Int)} (h : GM o x fnv mu L) (c : Cell) : GM o x fnv (mu ++ [c]) L := by
  obtain ⟨av, h1, h2, h3⟩ := h
  have l1 := (List.getElem?_eq_some_iff.1 h1).1
  have l2 := (List.getElem?_eq_some_iff.1 h2).1
  exact ⟨av, by rw [List.getElem?_append_left l1]; exact h1, by rw [List.getElem?_append_left l2]; exact h2, OwnF.push h3 _⟩
theorem GM.cut {o x : Nat} {fnv : AV} {mu : Mu} {L : List (List Int)} (h : GM o x fnv mu L) (c : Cell) : GM o x fnv (cutM (fun i => !(i == mu.length)) (mu ++ [c]) 0) L := by
  obtain ⟨av, h1, h2, ho, hb, hl⟩ := h
  have l1 := (List.getElem?_eq_some_iff.1 h1).1
  have l2 := (List.getElem?_eq_some_iff.1 h2).1
  have key : ∀ (i : Nat) (a : Cell), mu[i]? = some a → (cutM (fun i => !(i == mu.length)) (mu ++ [c]) 0)[i]? = some a := by
    intro i a hi
    have li := (List.getElem?_eq_some_iff.1 hi).1
    rw [cutM_get, List.getElem?_append_left li, hi]
    simp [show i ≠ mu.length by omega]
  refine ⟨av, key _ _ h1, key _ _ h2, ?_, hb, by rw [cutM_len]; simp; omega⟩
  rcases ho with rfl | ⟨b, rfl, hc⟩
  · exact .inl rfl
  · exact .inr ⟨b, rfl, key _ _ hc⟩

theorem AppendStep.litI {P : Program} {mu : Mu} {t t' e bt : Nat} {l : List Int} {x z : Int} {K : AV → Mu → Prop} (hs : sliceOf P t = some (e, 1, bt)) (hs' : (sliceOf P t').isSome = true) (hz : zeroOf P e = some (aI z))
    (hb : bt ≤ 16384) (hl : l.length + 1 ≤ 4294967296) (k : K (.sl mu.length 1 0 (l.length + 1)) (mu ++ [.arr ((l ++ [x]).map aI)])) : AppendStep P mu #[t, t'] (.lst true (l.map rI)) (.lst true [[aI x]]) K := by
  refine .inl ⟨t, t', e, 1, bt, [[aI x]], rfl, hs, hs', ⟨_, hz, rfl, rfl⟩, by omega, hb, rfl, fun r hr => by simp at hr; subst hr; exact ⟨rfl, rfl⟩, .inl ⟨l.map rI, rfl, rows_rI l, by simpa using hl, fun h => by simp at h, fun _ => ?_⟩⟩
  have e1 : (l.map rI ++ [[aI x]]).flatten = (l ++ [x]).map aI := by
    rw [List.flatten_append, flat_rI, List.map_append]; rfl
  rw [e1]
  simpa using k

theorem groupRec (sc : Sc) (u : GU sc) (N : Nat) (hN : sumI sc.atoms = N) (hN6 : N ≤ 6) (cls : List Int) (hcl : cls.length = N) (rs : List Rl) (hr : ∀ r, r ∈ rs → GRel (sumI sc.atoms) r) (hrl : rs.length ≤ 100) (o x : Nat) (hox : o ≠ x) (fnv : AV)
    (hfn : fnv = .fn (.func 81) [] [.ip [lI cls], .ptr o 0, .ip [.ip (searchC sc cls rs N)], .ptr x 0]) :
    ∀ (d : Nat) (p : List Int) (mu : Mu) (L : List (List Int)), p.length + d = N → (∀ v, v ∈ p → 0 ≤ v ∧ v < N) → L.length + N ^ d ≤ 4294967296 → GM o x fnv mu L →
    Sound Tryz.prog 81 [lI p, .ip [lI cls], .ptr o 0, .ip [.ip (searchC sc cls rs N)], .ptr x 0] mu fun e m => e = .ret (.tup []) ∧ GM o x fnv m (L ++ extG N cls (consB N rs) d p) := by
  intro d
  induction d with
  | zero =>
    intro p mu L hpd hpv hL hgm
    obtain ⟨av, ho, hx, hown⟩ := hgm
    refine Sound.of_awp Tryz.call81 Tryz.func81 rfl (Nat.le_of_ble_eq_true (by kernel_rfl)) (by kernel_rfl) (pl := {}) ?_
    have hpl : p.length = N := by omega
    simp [go_sem, hcl, hpl]
    refine DrawGo.intro (by kernel_rfl) ?_
    simp [go_sem, ho]
    refine CallStep.pure (cloneI p (by omega)) (.cons (.hf (hf_lI p)) .nil) ?_
    simp [go_sem]
    refine AppendStep.ownF (lo := max o x + 1) (e := 29) (sz := 1) (bt := 24) (zv := .lst true []) (xs := L.map rL) (ys := [rL p]) (by simp [go_sem]) (by simp [go_sem]) (by simp [go_sem]) rfl rfl (by omega) (by omega) hown (by simp [rowsOf]) (rows_rL _) (rows_rL [p]) (by simpa using hL) ?_
    intro av' mu' ho' hs
    have h1 : mu'[o]? = some (.arr [av]) := by rw [hs o (by omega)]; exact ho
    have h2 : mu'[x]? = some (.arr [fnv]) := by rw [hs x (by omega)]; exact hx
    have hone := ho'.one
    have hcel := ho'.cells
    simp [go_sem, h1, hone, hcel]
    refine ⟨av', by rw [List.getElem?_set_self (List.getElem?_eq_some_iff.1 h1).1], by rw [List.getElem?_set_ne hox]; exact h2, ?_⟩
    have := OwnF.set (c := .arr [av']) (i := o) ho' (by omega)
    rw [List.map_append]
    simpa [extG] using this
  | succ d ih =>
    intro p mu L hpd hpv hL hgm
    refine Sound.of_awp Tryz.call81 Tryz.func81 rfl (Nat.le_of_ble_eq_true (by kernel_rfl)) (by kernel_rfl) (pl := {}) ?_
    have hpl : ¬ p.length = N := by omega
    simp [go_sem, hcl, hpl]
    have hpw : N ^ (d + 1) = N * N ^ d := by rw [Nat.pow_succ, Nat.mul_comm]
    refine LoopGo.up N (fun y st => st.tm 0 = lI p ∧ st.tm 1 = .ip [lI cls] ∧ st.tm 2 = .ptr o 0 ∧ st.tm 3 = .ip [.ip (searchC sc cls rs N)] ∧ st.tm 4 = .ptr x 0 ∧ st.tm 19 = lI cls ∧ st.tm 20 = aI N ∧ st.tm 21 = aI y ∧ GM o x fnv st.mu (L ++ extK N cls (consB N rs) d p y)) ?_ ?_
    · simp [go_sem, hcl, extK]
      exact hgm
    clear hgm
    rintro y st hy ⟨e0, e1, e2, e3, e4, e19, e20, e21, hgm⟩
    by_cases hyN : y < N
    case neg =>
      have hge : y = N := by omega
      subst hge
      simp [go_sem, e0, e1, e2, e3, e4, e19, e20, e21]
      exact hgm
    have hes := extK_succ N cls (consB N rs) d p y
    have hlenK := extK_len N cls (consB N rs) d p y
    have hmul : y * N ^ d + N ^ d ≤ N * N ^ d := by
      have : (y + 1) * N ^ d ≤ N * N ^ d := Nat.mul_le_mul_right _ hyN
      rw [Nat.succ_mul] at this; exact this
    generalize extK N cls (consB N rs) d p y = E at *
    have hyc : y < cls.length := by omega
    have hpc : p.length < cls.length := by omega
    by_cases hc : cls[y] = cls[p.length]
    case neg =>
      have hng : ¬ goOn cls (consB N rs) p y := by
        rintro ⟨h, _⟩
        rw [gI_eq hyc, gI_eq hpc] at h; exact hc h
      rw [if_neg hng, List.append_nil] at hes
      simp [go_sem, e0, e1, e2, e3, e4, e19, e20, e21, hyN, hyc, hpc, hc]
      exact ⟨wrap_i64 (by omega) (by omega), by rw [hes]; exact hgm⟩
    by_cases hin : (y : Int) ∈ p
    · have hng : ¬ goOn cls (consB N rs) p y := fun h => h.2.1 hin
      rw [if_neg hng, List.append_nil] at hes
      simp [go_sem, e0, e1, e2, e3, e4, e19, e20, e21, hyN, hyc, hpc, hc]
      refine CallStep.pure (containsI p y (by omega)) (.cons (.hf (hf_lI p)) (.cons (.hf (HF.sc _)) .nil)) ?_
      simp [go_sem, e0, e1, e2, e3, e4, e19, e20, e21, hyN, hyc, hpc, hc, hin]
      exact ⟨wrap_i64 (by omega) (by omega), by rw [hes]; exact hgm⟩
    simp [go_sem, e0, e1, e2, e3, e4, e19, e20, e21, hyN, hyc, hpc, hc]
    refine CallStep.pure (containsI p y (by omega)) (.cons (.hf (hf_lI p)) (.cons (.hf (HF.sc _)) .nil)) ?_
    simp [go_sem, e0, e1, e2, e3, e4, e19, e20, e21, hyN, hyc, hpc, hc, hin]
    have htake : List.take p.length (List.map rI p) = List.map rI p := List.take_of_length_le (by simp)
    rw [htake]
    refine ⟨⟨_, _, ⟨rfl, rfl⟩, (rows_rI p).ok⟩, ?_⟩
    refine AppendStep.litI (e := 3) (bt := 8) (z := 0) (l := p) (x := (y : Int)) (by simp [go_sem]) (by simp [go_sem]) (by simp [go_sem]) (by omega) (by omega) ?_
    have hq : (st.mu ++ [.arr ((p ++ [(y : Int)]).map aI)])[st.mu.length]? = some (.arr ((p ++ [(y : Int)]).map aI)) := by simp
    have hgp := hgm.push (.arr ((p ++ [(y : Int)]).map aI))
    have hgc := hgm.cut (.arr ((p ++ [(y : Int)]).map aI))
    have hqc := cutM_one (fun i => i == st.mu.length) st.mu (.arr ((p ++ [(y : Int)]).map aI)) _ rfl (by simp)
    have hqv : ∀ v, v ∈ p ++ [(y : Int)] → 0 ≤ v ∧ v < N := fun v hv => by
      rcases List.mem_append.1 hv with h | h
      · exact hpv v h
      · simp at h; subst h; omega
    have hql : (p ++ [(y : Int)]).length = p.length + 1 := by simp
    have hgo : goOn cls (consB N rs) p y ↔ consB N rs (p ++ [(y : Int)]) = true := by
      unfold goOn
      rw [gI_eq hyc, gI_eq hpc]
      simp [hc, hin]
    have hqrd := (OwnF.ofCells (lo := 0) (n := p.length + 1) (xs := p ++ [(y : Int)]) (Nat.zero_le _) hq hql).rdI
    have hqrc := (OwnF.ofCells (lo := 0) (n := p.length + 1) (xs := p ++ [(y : Int)]) (Nat.zero_le _) hqc hql).rdI
    have hcu := consistentU sc u cls rs hr hrl (p ++ [(y : Int)]) (by rw [hN]; exact hqv) (by omega)
    rw [hN] at hcu
    have hih := ih (p ++ [(y : Int)]) (cutM (fun i => !(i == st.mu.length)) (st.mu ++ [.arr ((p ++ [(y : Int)]).map aI)]) 0) (L ++ E) (by omega) hqv (by simp; omega) hgc
    generalize p ++ [(y : Int)] = q at *
    have hfz : Sound Tryz.prog 81 [.sl st.mu.length 1 0 (p.length + 1), .ip [lI cls], .ptr o 0, .ip [.ip (searchC sc cls rs N)], .ptr x 0] (st.mu ++ [.arr (q.map aI)]) _ :=
      Sound.freeze (args1 := [lI q, .ip [lI cls], .ptr o 0, .ip [.ip (searchC sc cls rs N)], .ptr x 0]) (fun i => i == st.mu.length) ⟨.inr hqrc, .inl rfl, .inl rfl, .inl rfl, .inl rfl, trivial⟩ hih
    generalize st.mu.length = M at *
    generalize st.mu ++ [.arr (q.map aI)] = mu1 at *
    simp [go_sem, e0, e1, e2, e3, e4, e19, e20, e21]
    refine CallStep.lend (args' := [.ip (searchC sc cls rs N), lI q]) hcu ⟨.hf _ (hf_search sc cls rs N), hqrd, trivial⟩ (FL.sc _) ?_
    by_cases hcb : consB N rs q = true
    case neg =>
      rw [if_neg (fun h => hcb (hgo.1 h)), List.append_nil] at hes
      simp only [Bool.not_eq_true] at hcb
      simp [go_sem, e0, e1, e2, e3, e4, e19, e20, e21, hcb]
      exact ⟨hyN, wrap_i64 (by omega) (by omega), by rw [hes]; exact hgp⟩
    rw [if_pos (hgo.2 hcb)] at hes
    obtain ⟨av, h1, h2, h3⟩ := hgp
    simp [go_sem, e0, e1, e2, e3, e4, e19, e20, e21, hcb, h2]
    rw [hfn]
    refine CallStep.eff (caps := [.ip [lI cls], .ptr o 0, .ip [.ip (searchC sc cls rs N)], .ptr x 0]) hfz ?_ (by rintro r m ⟨h, _⟩; cases h)
    rintro _ m ⟨hr', hg'⟩
    cases hr'
    simp [go_sem, e0, e1, e2, e3, e4, e19, e20, e21]
    rw [← hfn]
    exact ⟨hyN, wrap_i64 (by omega) (by omega), by rw [hes, ← List.append_assoc]; exact hg'⟩
end Go.Proofs.YtfniceomhfebhaaGreat.C31

set_option linter.unusedVariables false
set_option linter.unusedSimpArgs false
set_option maxRecDepth 100000
namespace Go.Proofs.YtfniceomhfebhaaGreat.C32
open Go Go.Ev Go.Proofs C1 C2 C3 C4 C5 C6 C7 C9 C10 C11 C12 C14 C15 C16 C17 C18 C19 C20 C22 C24 C25 C26 C27 C28 C29 C30 C31

/-- an owned row of one-cell elements: nothing yet, or a block of its own -/
def OwnR (mu : Mu) (s : AV) (xs : List AV) : Prop := (s = .lst true [] ∧ xs = []) ∨ ∃ b, s = .sl b 1 0 xs.length ∧ mu[b]? = some (.arr xs)
def blkOf : AV → Option Nat
  | .sl b _ _ _ => some b
  | _ => none
theorem OwnR.same {mu mu' : Mu} {s : AV} {xs : List AV} (h : OwnR mu s xs) (hs : ∀ b, blkOf s = some b → mu'[b]? = mu[b]?) : OwnR mu' s xs := by
  rcases h with h | ⟨b, rfl, hc⟩
  · exact .inl h
  · exact .inr ⟨b, rfl, by rw [hs b rfl]; exact hc⟩
theorem OwnR.lt {mu : Mu} {s : AV} {xs : List AV} (h : OwnR mu s xs) {b : Nat} (hb : blkOf s = some b) : b < mu.length := by
  rcases h with ⟨rfl, _⟩ | ⟨b', rfl, hc⟩
  · cases hb
  · cases hb; exact (List.getElem?_eq_some_iff.1 hc).1
theorem flat_cells (l : List AV) : (l.map fun c => [c]).flatten = l := flat_one l
theorem AppendStep0.row1 {P : Program} {mu : Mu} {t t' e bt : Nat} {zv s : AV} {l : List AV} {x : AV} {K : AV → Mu → Prop} (hs : sliceOf P t = some (e, 1, bt)) (hs' : (sliceOf P t').isSome = true) (hz : zeroOf P e = some zv) (hz1 : zv.cells.length = 1) (hz2 : zv.cells.all AV.one = true)
    (hb : bt ≤ 16384) (ho : OwnR mu s l) (hx : x.one = true) (hl : l.length + 1 ≤ 4294967296)
    (k : ∀ mu', mu'[mu.length]? = some (.arr (l ++ [x])) → (∀ i, i < mu.length → blkOf s ≠ some i → mu'[i]? = mu[i]?) → K (.sl mu.length 1 0 (l ++ [x]).length) mu') : AppendStep0 P mu #[t, t'] s (.lst true [[x]]) K := by
  rcases ho with ⟨rfl, rfl⟩ | ⟨b, rfl, hc⟩
  · refine ⟨t, t', e, 1, bt, [[x]], rfl, hs, hs', ⟨_, hz, hz1, hz2⟩, by omega, hb, rfl, fun r hr => by simp at hr; subst hr; exact ⟨rfl, by simp [hx]⟩, .inl ⟨[], rfl, fun r hr => by simp at hr, by simp, fun h => by simp at h, fun _ => ?_⟩⟩
    exact k _ (by simp) (fun i hi _ => by rw [List.getElem?_append_left hi])
  · refine ⟨t, t', e, 1, bt, [[x]], rfl, hs, hs', ⟨_, hz, hz1, hz2⟩, by omega, hb, rfl, fun r hr => by simp at hr; subst hr; exact ⟨rfl, by simp [hx]⟩, .inr ⟨b, l.length, _, rfl, hc, by simp, by simpa using hl, ?_⟩⟩
    have e1 : l.take (l.length * 1) ++ [[x]].flatten = l ++ [x] := by
      rw [List.take_of_length_le (by simp)]; rfl
    have e2 : l.length + [[x]].length = (l ++ [x]).length := by simp
    rw [e1, e2]
    refine k _ ?_ (fun i hi hne => ?_)
    · rw [List.getElem?_append_right (by simp)]; simp
    · rw [List.getElem?_append_left (by simpa using hi), List.getElem?_set_ne (fun h => hne (by rw [h]; rfl))]

/-- the memory of Group while the tables are made -/
structure GT (B C : Nat) (sc : Sc) (cls : List Int) (rs : List Rl) (mu : Mu) (avT avH : AV) (xT xH : List AV) : Prop where
  ne : B = 1 ∧ C = 2 ∨ B = 2 ∧ C = 1
  m0 : mu[0]? = some (.arr [lI cls])
  m1 : mu[B]? = some (.arr [lI sc.atoms, aI sc.steps, lI cls, lRel rs, avT, avH])
  m2 : mu[C]? = some (.arr [.ptr B 0])
  oT : OwnR mu avT xT
  oH : OwnR mu avH xH
  bT : ∀ b, blkOf avT = some b → 3 ≤ b
  bH : ∀ b, blkOf avH = some b → 3 ≤ b
  dj : ∀ b, blkOf avT = some b → blkOf avH ≠ some b

theorem OwnF.rdLL {lo : Nat} {mu : Mu} {av : AV} {xs : List (List Int)} (h : OwnF lo mu 1 av (xs.map rL)) : Rd mu av (lL xs) :=
  h.1.rd (rows_rL xs).ok fun r hr c hc => by
    obtain ⟨n, _, rfl⟩ := List.mem_map.1 hr
    simp at hc; subst hc; exact hf_lI _
theorem GT.same {B C : Nat} {sc : Sc} {cls : List Int} {rs : List Rl} {mu mu' : Mu} {avT avH : AV} {xT xH : List AV} (g : GT B C sc cls rs mu avT avH xT xH) {R : Nat} (hR : 3 ≤ R) (hT : ∀ b, blkOf avT = some b → b < R) (hH : ∀ b, blkOf avH = some b → b < R)
    (hs : ∀ i, i < R → mu'[i]? = mu[i]?) : GT B C sc cls rs mu' avT avH xT xH := by
  have hne := g.ne
  exact ⟨g.ne, by rw [hs 0 (by omega)]; exact g.m0, by rw [hs B (by omega)]; exact g.m1, by rw [hs C (by omega)]; exact g.m2, g.oT.same fun b hb => hs b (hT b hb), g.oH.same fun b hb => hs b (hH b hb), g.bT, g.bH, g.dj⟩
theorem findA_new (x : Int) (l : List Int) (h : ¬ x ∈ l) : findA Tryz.prog 3 (aI x) (l.map eKT) 0 = some none := by
  obtain ⟨r, h1, h2, _⟩ := findA_int x l 0
  rw [h1, h2.2 h]

theorem Rd.row1 {mu : Mu} {x y : AV} (h : Rd mu x y) : Rd mu (.lst true [[x]]) (.lst true [[y]]) := by
  refine .lst true _ _ rfl (fun k a b ha hb => ?_) (fun k a b ha hb => ?_)
  · cases k with
    | zero => simp at ha hb; subst ha; subst hb; rfl
    | succ k => simp at ha
  · cases k with
    | zero => simp at ha hb; subst ha; subst hb; exact h
    | succ k => simp at ha
theorem AppendStep.giveRow {P : Program} {mu : Mu} {t t' e bt : Nat} {zv s : AV} {l : List AV} {x y : AV} {K : AV → Mu → Prop} (give : Nat → Bool) (hs : sliceOf P t = some (e, 1, bt)) (hs' : (sliceOf P t').isSome = true) (hz : zeroOf P e = some zv) (hz1 : zv.cells.length = 1) (hz2 : zv.cells.all AV.one = true)
    (hb : bt ≤ 16384) (ho : OwnR mu s l) (hg : ∀ b, blkOf s = some b → give b = false) (hrd : Rd (cutM give mu 0) x y) (hx : y.one = true) (hl : l.length + 1 ≤ 4294967296)
    (k : ∀ mu', mu'[mu.length]? = some (.arr (l ++ [y])) → (∀ i, i < mu.length → give i = false → blkOf s ≠ some i → mu'[i]? = mu[i]?) → K (.sl mu.length 1 0 (l ++ [y]).length) mu') : AppendStep P mu #[t, t'] s (.lst true [[x]]) K := by
  refine .inr ⟨give, .lst true [[y]], Rd.row1 hrd, ?_⟩
  have cg : ∀ i, give i = false → (cutM (fun i => !give i) mu 0)[i]? = mu[i]? := fun i h => by
    rw [cutM_get]
    simp only [Nat.zero_add, h, Bool.not_false, if_true]
    cases mu[i]? <;> rfl
  have := AppendStep0.row1 (K := K) hs hs' hz hz1 hz2 hb (ho.same fun b h => cg b (hg b h)) hx hl (fun mu' h1 h2 => by
    rw [cutM_len] at h1 h2 ⊢
    exact k mu' h1 fun i hi hg hne => by rw [h2 i hi hne, cg i hg])
  exact this
theorem OwnR.one {mu : Mu} {s : AV} {xs : List AV} (h : OwnR mu s xs) : s.one = true := by
  rcases h with ⟨rfl, _⟩ | ⟨b, rfl, _⟩ <;> rfl
theorem GT.stepT {B C : Nat} {sc : Sc} {cls : List Int} {rs : List Rl} {mu mu' : Mu} {avT avH : AV} {xT xH : List AV} (g : GT B C sc cls rs mu avT avH xT xH) {R n : Nat} {y : AV} (hR : 3 ≤ R) (hl : R ≤ mu.length) (hH : ∀ b, blkOf avH = some b → b < R)
    (h1 : mu'[mu.length]? = some (.arr (xT ++ [y]))) (h2 : ∀ i, i < R → blkOf avT ≠ some i → mu'[i]? = mu[i]?) (hn : n = (xT ++ [y]).length) : GT B C sc cls rs (mu'.set B (.arr [lI sc.atoms, aI sc.steps, lI cls, lRel rs, .sl mu.length 1 0 n, avH])) (.sl mu.length 1 0 n) avH (xT ++ [y]) xH := by
  subst hn
  have hne := g.ne
  have l0 : mu.length < mu'.length := (List.getElem?_eq_some_iff.1 h1).1
  have low : ∀ i, i < 3 → mu'[i]? = mu[i]? := fun i hi => h2 i (by omega) (fun h => by have := g.bT i h; omega)
  refine ⟨g.ne, ?_, ?_, ?_, ?_, ?_, ?_, g.bH, ?_⟩
  · rw [List.getElem?_set_ne (by omega), low 0 (by omega)]; exact g.m0
  · rw [List.getElem?_set_self (by omega)]
  · rw [List.getElem?_set_ne (by omega), low C (by omega)]; exact g.m2
  · exact .inr ⟨mu.length, rfl, by rw [List.getElem?_set_ne (by omega)]; exact h1⟩
  · refine g.oH.same fun b hb => ?_
    have := g.bH b hb
    rw [List.getElem?_set_ne (by omega), h2 b (hH b hb) (fun h => g.dj b h hb)]
  · intro b hb; cases hb; omega
  · intro b hb h; cases hb; have := hH _ h; omega
theorem GT.stepH {B C : Nat} {sc : Sc} {cls : List Int} {rs : List Rl} {mu mu' : Mu} {avT avH : AV} {xT xH : List AV} (g : GT B C sc cls rs mu avT avH xT xH) {n : Nat} {y : AV} (hl : 3 ≤ mu.length)
    (h1 : mu'[mu.length]? = some (.arr (xH ++ [y]))) (h2 : ∀ i, i < mu.length → (i < 3 ∨ blkOf avT = some i) → blkOf avH ≠ some i → mu'[i]? = mu[i]?) (hn : n = (xH ++ [y]).length) : GT B C sc cls rs (mu'.set B (.arr [lI sc.atoms, aI sc.steps, lI cls, lRel rs, avT, .sl mu.length 1 0 n])) avT (.sl mu.length 1 0 n) xT (xH ++ [y]) := by
  subst hn
  have hne := g.ne
  have l0 : mu.length < mu'.length := (List.getElem?_eq_some_iff.1 h1).1
  have low : ∀ i, i < 3 → mu'[i]? = mu[i]? := fun i hi => h2 i (by omega) (.inl hi) (fun h => by have := g.bH i h; omega)
  refine ⟨g.ne, ?_, ?_, ?_, ?_, ?_, g.bT, ?_, ?_⟩
  · rw [List.getElem?_set_ne (by omega), low 0 (by omega)]; exact g.m0
  · rw [List.getElem?_set_self (by omega)]
  · rw [List.getElem?_set_ne (by omega), low C (by omega)]; exact g.m2
  · refine g.oT.same fun b hb => ?_
    have := g.bT b hb
    rw [List.getElem?_set_ne (by omega), h2 b (g.oT.lt hb) (.inr hb) (g.dj b hb)]
  · exact .inr ⟨mu.length, rfl, by rw [List.getElem?_set_ne (by omega)]; exact h1⟩
  · intro b hb; cases hb; omega
  · intro b hb h; cases h; have := g.oT.lt hb; omega

theorem OwnR.rd {mu : Mu} {s : AV} {xs : List AV} (h : OwnR mu s xs) (hf : ∀ x, x ∈ xs → HF x) : Rd mu s (.lst false (xs.map fun c => [c])) := by
  rcases h with ⟨rfl, rfl⟩ | ⟨b, rfl, hc⟩
  · exact .wk _ true _ (.hf _ (HF.lst fun r hr => by simp at hr))
  · refine .sl b 1 0 _ xs _ hc (by simp) (by simp) (fun x hx => by
      obtain ⟨l, _, rfl⟩ := List.mem_map.1 hx; rfl) (fun k x y hx hy => ?_)
    rw [Nat.zero_add] at hx
    rw [flat_cells, hx] at hy
    cases hy
    exact .hf _ (hf x (List.mem_of_getElem? hx))
theorem Rd.ptr1 {mu : Mu} {b : Nat} {x y : AV} (hc : mu[b]? = some (.arr [x])) (h : Rd mu x y) : Rd mu (.ptr b 0) (.ip [y]) := by
  refine .ptr b 0 [x] [y] hc (by simp) (fun k u v hu hv => ?_)
  cases k with
  | zero => simp at hu hv; subst hu; subst hv; exact h
  | succ k => simp at hu
/-- the memory that the search is called with -/
theorem GT.search {B C : Nat} {sc : Sc} {cls : List Int} {rs : List Rl} {mu : Mu} {avT avH : AV} {N : Nat} (g : GT B C sc cls rs mu avT avH ((rs.map (tupsOf N)).map lL) ((rs.map Rl.ts).map eHas)) (keep : Nat → Bool) (hk : ∀ i, i < mu.length → keep i = true) (rest : Mu) :
    Rd (cutM keep (mu ++ rest) 0) (.ptr 0 0) (.ip [lI cls]) ∧ Rd (cutM keep (mu ++ rest) 0) (.ptr C 0) (.ip [.ip (searchC sc cls rs N)]) := by
  have key : ∀ i c, mu[i]? = some c → (cutM keep (mu ++ rest) 0)[i]? = some c := fun i c h => by
    have hi := (List.getElem?_eq_some_iff.1 h).1
    rw [cutM_get, List.getElem?_append_left hi, h]
    simp [hk i hi]
  refine ⟨Rd.ptr1 (key 0 _ g.m0) (.hf _ (hf_lI _)), Rd.ptr1 (key C _ g.m2) ?_⟩
  refine .ptr B 0 _ _ (key B _ g.m1) (by simp) (fun k u v hu hv => ?_)
  have hT := (g.oT.same (mu' := cutM keep (mu ++ rest) 0) fun b hb => by
    have := g.oT.lt hb
    rw [key b _ (List.getElem?_eq_getElem this), List.getElem?_eq_getElem this]).rd (fun x hx => by
      obtain ⟨l, _, rfl⟩ := List.mem_map.1 hx; exact hf_lL _)
  have hH := (g.oH.same (mu' := cutM keep (mu ++ rest) 0) fun b hb => by
    have := g.oH.lt hb
    rw [key b _ (List.getElem?_eq_getElem this), List.getElem?_eq_getElem this]).rd (fun x hx => by
      obtain ⟨l, _, rfl⟩ := List.mem_map.1 hx; exact hf_eHas _)
  rw [List.map_map] at hT hH
  match k with
  | 0 => simp at hu hv; subst hu; subst hv; exact .hf _ (hf_lI _)
  | 1 => simp at hu hv; subst hu; subst hv; exact .hf _ (HF.sc _)
  | 2 => simp at hu hv; subst hu; subst hv; exact .hf _ (hf_lI _)
  | 3 => simp at hu hv; subst hu; subst hv; exact .hf _ (hf_lRel _)
  | 4 => simp only [searchC, List.getElem?_cons_succ, List.getElem?_cons_zero, Nat.zero_add, Option.some.injEq] at hu hv; subst hu; subst hv; exact hT
  | 5 => simp only [searchC, List.getElem?_cons_succ, List.getElem?_cons_zero, Nat.zero_add, Option.some.injEq] at hu hv; subst hu; subst hv; exact hH
  | k + 6 => simp at hu

theorem groupU (sp : Sp) (sc : Sc) (u : GU sc) (N : Nat) (hN : sumI sc.atoms = N) (hN6 : N ≤ 6) (hsp : sc.atoms.length = sp.sorts.length) (bs : List Bd) (gb : GBs (sumI sc.atoms) bs) :
    SoundP Tryz.prog 57 [eSp sp, eSc sc, lBd bs] (lL (extG N (stableS sp sc bs).1 (consB N (relsOf bs)) N [])) := by
  refine SoundP.of_sound (Sound.of_awp Tryz.call57 Tryz.func57 rfl (Nat.le_of_ble_eq_true (by kernel_rfl)) (by kernel_rfl) (pl := { mt := [30] }) ?_)
  have ok := stableS_ok sp sc bs N (by omega)
  have hst := stableU sp sc u hsp bs gb
  generalize (stableS sp sc bs) = c at *
  obtain ⟨cls, m0⟩ := c
  simp only at ok hst
  obtain ⟨hcl, -, -, -, -⟩ := ok
  obtain ⟨hrl, hrel⟩ := gb.rels
  simp [go_sem]
  refine CallStep.pure hst (.cons (.hf (hf_eSp sp)) (.cons (.hf (hf_eSc sc)) (.cons (.hf (hf_lBd bs)) .nil))) ?_
  simp [go_sem]
  generalize hrs : relsOf bs = rs at *
  refine DrawGo.moveJ 5 1 (fun st => st.tm 4 = .ip [lI sc.atoms, aI sc.steps] ∧ st.tm 7 = .ptr 0 0 ∧ ∃ B C, st.tm 9 = .ptr C 0 ∧ GT B C sc cls rs st.mu (.lst true []) (.lst true []) [] [] ∧ st.mu.length = 3) (by kernel_rfl) (by kernel_rfl) ?_ ?_ ?_
  · simp [go_sem]
    refine CallStep.pure (relationsL bs (by have := gb.len; omega)) (.cons (.hf (hf_lBd bs)) .nil) ?_
    rw [hrs]
    simp [go_sem]
    exact ⟨1, .inl ⟨rfl, rfl⟩, rfl, rfl, rfl, .inl ⟨rfl, rfl⟩, .inl ⟨rfl, rfl⟩, fun b h => by simp [blkOf] at h, fun b h => by simp [blkOf] at h, fun b h => by simp [blkOf] at h⟩
  · simp [go_sem]
    refine CallStep.pure (relationsL bs (by have := gb.len; omega)) (.cons (.hf (hf_lBd bs)) .nil) ?_
    rw [hrs]
    simp [go_sem]
    exact ⟨2, .inr ⟨rfl, rfl⟩, rfl, rfl, rfl, .inl ⟨rfl, rfl⟩, .inl ⟨rfl, rfl⟩, fun b h => by simp [blkOf] at h, fun b h => by simp [blkOf] at h, fun b h => by simp [blkOf] at h⟩
  · intro st hJ
    obtain ⟨e4, e7, B, C, e9, g, hl⟩ := hJ
    have m1 := g.m1
    have m2 := g.m2
    simp [go_sem, e4, e7, e9, m1, m2]
    refine LoopGo.up rs.length (fun k st => st.tm 4 = .ip [lI sc.atoms, aI sc.steps] ∧ st.tm 7 = .ptr 0 0 ∧ st.tm 9 = .ptr C 0 ∧ st.tm 34 = lRel rs ∧ st.tm 35 = aI rs.length ∧ st.tm 36 = aI k ∧ 3 ≤ st.mu.length ∧
      ∃ avT avH, GT B C sc cls rs st.mu avT avH (((rs.take k).map (tupsOf N)).map lL) (((rs.take k).map Rl.ts).map eHas)) ?_ ?_
    · simp [go_sem, e4, e7, e9, hl]
      exact ⟨_, _, g⟩
    clear g hl e4 e7 e9 m1 m2
    clear st
    rintro k st hk ⟨e4, e7, e9, e34, e35, e36, hl3, avT, avH, g⟩
    have m1 := g.m1
    have m2 := g.m2
    by_cases hlt : k < rs.length
    case neg =>
      have hge : k = rs.length := by omega
      subst hge
      simp [go_sem, e4, e7, e9, e34, e35, e36]
      rw [List.take_of_length_le (Nat.le_refl _)] at g
      generalize ho : st.mu.length = o at *
      obtain ⟨r1, r2⟩ := g.search (fun i => decide (i < o)) (fun i hi => by simp; omega) [.arr [.lst true []], .arr [.fn (.func 81) [] [.ptr 0 0, .ptr o 0, .ptr C 0, .ptr (o + 1) 0]]]
      have hgr := groupRec sc u N hN hN6 cls hcl rs hrel (by omega) o (o + 1) (by omega) _ rfl N [] (List.replicate o .dead ++ [.arr [.lst true []], .arr [.fn (.func 81) [] [.ip [lI cls], .ptr o 0, .ip [.ip (searchC sc cls rs N)], .ptr (o + 1) 0]]]) [] (by simp) (fun v hv => by simp at hv)
        (by have : N ^ N ≤ 6 ^ 6 := Nat.le_trans (Nat.pow_le_pow_left hN6 N) (Nat.pow_le_pow_right (by omega) hN6)
            simp at this ⊢; omega) ⟨.lst true [], by simp, by rw [List.getElem?_append_right (by simp)]; simp, OwnF.nil (by simp)⟩
      have gargs : Gvs (st.mu ++ [.arr [.lst true []], .arr [.fn (.func 81) [] [.ptr 0 0, .ptr o 0, .ptr C 0, .ptr (o + 1) 0]]]) (fun i => decide (i < o)) [.lst true [], .ptr 0 0, .ptr o 0, .ptr C 0, .ptr (o + 1) 0] [lI [], .ip [lI cls], .ptr o 0, .ip [.ip (searchC sc cls rs N)], .ptr (o + 1) 0] :=
        ⟨.rd _ _ (.wk _ true _ (.hf _ (HF.lst (full := true) (xs := []) fun r hr => by simp at hr))), .rd _ _ r1, .same _, .rd _ _ r2, .same _, trivial⟩
      have hfz := Sound.freezeM (fun i => decide (i < o)) gargs ?_ hgr
      · refine CallStep.eff (caps := [.ptr 0 0, .ptr o 0, .ptr C 0, .ptr (o + 1) 0]) hfz ?_ (by rintro r m ⟨h, _⟩; cases h)
        rintro _ m ⟨hr', hg'⟩
        cases hr'
        obtain ⟨av, h1, h2, h3⟩ := hg'
        simp [go_sem, ho, h1]
        rw [List.nil_append] at h3
        exact OwnF.rdLL h3
      · refine ⟨by simp [ho], fun i c' hi hc => ?_⟩
        by_cases hio : i < o
        · rw [List.getElem?_append_left (by simpa using hio)] at hi
          have := List.eq_of_mem_replicate (List.mem_of_getElem? hi)
          exact absurd this hc
        · refine ⟨by simpa using hio, ?_⟩
          rw [List.getElem?_append_right (by simp; omega)] at hi
          rw [List.getElem?_append_right (by omega), ho]
          simp only [List.length_replicate] at hi
          match hq : i - o with
          | 0 => rw [hq] at hi; simp at hi; subst hi; exact ⟨_, rfl, by simp, .inl rfl⟩
          | 1 =>
            rw [hq] at hi
            simp at hi; subst hi
            refine ⟨_, rfl, by simp, .inr ⟨_, _, rfl, rfl, ⟨?_, trivial⟩, by simp [AV.one]⟩⟩
            refine .fn _ [] [] _ _ rfl rfl (fun k x y hx => by simp at hx) (fun k x y hx hy => ?_)
            exact (Gvs.get gargs.2).2 k x y hx hy
          | q + 2 => rw [hq] at hi; simp at hi
    have gr := hrel _ (List.getElem_mem hlt)
    have htk : rs.take (k + 1) = rs.take k ++ [rs[k]] := by rw [List.take_add_one, List.getElem?_eq_getElem hlt]; rfl
    simp [go_sem, e4, e7, e9, e34, e35, e36, hlt]
    generalize hrr : rs[k] = r at *
    have hT : ∀ b, blkOf avT = some b → b < st.mu.length := fun b hb => g.oT.lt hb
    have hH : ∀ b, blkOf avH = some b → b < st.mu.length := fun b hb => g.oH.lt hb
    have g2 := GT.same (mu' := st.mu ++ [.arr [aI r.ar, lI r.ts], .mp []]) g hl3 hT hH (fun i hi => by rw [List.getElem?_append_left hi])
    have g2' := g2
    simp only [List.map_take, List.map_map] at g2'
    generalize hR : st.mu.length = R at *
    have hl3' := hl3
    have hsmall := gr.small (by have := u.n0; omega) (by have := u.n12; omega)
    have har1 := gr.ar1
    have har3 := gr.ar3
    have hlen := gr.len
    obtain ⟨ar, har⟩ := Int.eq_ofNat_of_zero_le (show 0 ≤ r.ar by omega)
    refine LoopGo.up r.ts.length (fun j st => st.tm 4 = .ip [lI sc.atoms, aI sc.steps] ∧ st.tm 7 = .ptr 0 0 ∧ st.tm 9 = .ptr C 0 ∧ st.tm 34 = lRel rs ∧ st.tm 35 = aI rs.length ∧ st.tm 36 = aI k ∧ st.tm 11 = .ptr R 0 ∧ st.tm 13 = .mp (R + 1) ∧
      st.tm 42 = lI r.ts ∧ st.tm 43 = aI r.ts.length ∧ st.tm 44 = aI j ∧ st.mu[R]? = some (.arr [aI r.ar, lI r.ts]) ∧ st.mu[R + 1]? = some (.mp ((r.ts.take j).map eKT)) ∧ GT B C sc cls rs st.mu avT avH (((rs.take k).map (tupsOf N)).map lL) (((rs.take k).map Rl.ts).map eHas) ∧
      ∃ av, st.tm 12 = av ∧ OwnF (R + 2) st.mu 1 av (((tupsOf N r).take j).map rL)) ?_ ?_
    · simp [go_sem, e4, e7, e9, e34, e35, e36, hR]
      exact ⟨g2', OwnF.nil (by simp; omega)⟩
    clear g2' g2 g e4 e7 e9 e34 e35 e36 m1 m2 hR hl3
    clear st
    rintro j st hj ⟨e4, e7, e9, e34, e35, e36, e11, e13, e42, e43, e44, mR, mM, g, av, e12, hown⟩
    by_cases hjl : j < r.ts.length
    case pos =>
      have htake : r.ts.take (j + 1) = r.ts.take j ++ [r.ts[j]] := by rw [List.take_add_one, List.getElem?_eq_getElem hjl]; rfl
      have hjt : j < (tupsOf N r).length := by simpa [tupsOf] using hjl
      have htakeT : (tupsOf N r).take (j + 1) = (tupsOf N r).take j ++ [digN N r.ts[j] ar] := by
        rw [List.take_add_one, List.getElem?_eq_getElem hjt]; simp [tupsOf, har]
      have hv := gr.val _ (List.getElem_mem hjl)
      have hsm := hsmall _ (List.getElem_mem hjl)
      have hnew : ¬ r.ts[j] ∈ r.ts.take j := by
        intro hm
        obtain ⟨i, hi, he⟩ := List.mem_iff_getElem.1 hm
        have hij : i < j := by simp at hi; omega
        rw [List.getElem_take] at he
        have := List.pairwise_iff_getElem.1 gr.srt i j (by omega) hjl hij
        omega
      simp [go_sem, e4, e7, e9, e34, e35, e36, e11, e13, e42, e43, e44, mR, mM, hjl]
      have htu := tupleU sc u.g (by omega) ar (by omega) r.ts[j] hsm.1 (by rw [har] at hv; simpa using hv.2)
      rw [hN] at htu
      generalize htt : r.ts[j] = t at *
      rw [har]
      refine CallStep.pure htu (.cons (.hf (hf_eSc sc)) (.cons (.hf (HF.sc _)) (.cons (.hf (HF.sc _)) .nil))) ?_
      simp [go_sem, e4, e7, e9, e34, e35, e36, e11, e12, e13, e42, e43, e44, mR, mM, hjl]
      refine AppendStep.ownF (lo := R + 2) (e := 29) (sz := 1) (bt := 24) (zv := .lst true []) (xs := ((tupsOf N r).take j).map rL) (ys := [rL (digN N t ar)]) (by simp [go_sem]) (by simp [go_sem]) (by simp [go_sem]) rfl rfl (by omega) (by omega) hown (by simp [rowsOf]) (rows_rL _) (rows_rL [_]) (by simp; omega) ?_
      intro av' mu' ho' hs
      have mR' : mu'[R]? = some (.arr [aI r.ar, lI r.ts]) := by rw [hs R (by omega)]; exact mR
      have mM' : mu'[R + 1]? = some (.mp ((r.ts.take j).map eKT)) := by rw [hs (R + 1) (by omega)]; exact mM
      have g' := GT.same (mu' := mu') g hl3' hT hH (fun i hi => hs i (by omega))
      have hone := ho'.one
      have hcel := ho'.cells
      have hfn := findA_new t (r.ts.take j) hnew
      simp only [List.map_take] at hfn
      simp [go_sem, e4, e7, e9, e34, e35, e36, e11, e13, e42, e43, e44, mR', mM', hjl, hfn]
      have hRl : R + 1 < mu'.length := (List.getElem?_eq_some_iff.1 mM').1
      refine ⟨wrap_i64 (by omega) (by omega), har, ?_, ?_, ?_⟩
      · rw [List.getElem?_set_self hRl]; simp only [← List.map_take, htake, List.map_append]; rfl
      · have := GT.same (mu' := mu'.set (R + 1) (.mp (List.take j (List.map eKT r.ts) ++ [(AV.sc (Value.int IntKind.i64 t), AV.sc (Value.bool true))]))) g' hl3' hT hH (fun i hi => by rw [List.getElem?_set_ne (by omega)])
        simpa only [List.map_take, List.map_map] using this
      · have := OwnF.set (c := .mp (List.take j (List.map eKT r.ts) ++ [(AV.sc (Value.int IntKind.i64 t), AV.sc (Value.bool true))])) (i := R + 1) ho' (by omega)
        simp only [← List.map_take, htakeT, List.map_append] at this ⊢
        exact this
    have hge : j = r.ts.length := by omega
    subst hge
    have m1 := g.m1
    have m2 := g.m2
    have hown2 : OwnF (R + 2) st.mu 1 av ((tupsOf N r).map rL) := by rw [List.take_of_length_le (by simp [tupsOf])] at hown; exact hown
    have mM2 : st.mu[R + 1]? = some (.mp (r.ts.map eKT)) := by rw [List.take_of_length_le (Nat.le_refl _)] at mM; exact mM
    have hne := g.ne
    have hB3 : B < 3 := by omega
    have hC3 : C < 3 := by omega
    have hRl : R + 1 < st.mu.length := (List.getElem?_eq_some_iff.1 mM2).1
    clear mM hown
    simp [go_sem, e4, e7, e9, e34, e35, e36, e11, e13, e42, e43, e44, mR, mM2, m1, m2]
    -- the tuples are given away
    have hrd : Rd (cutM (fun i => decide (R + 2 ≤ i)) st.mu 0) av (lL (tupsOf N r)) := by
      have hcut : OwnF (R + 2) (cutM (fun i => decide (R + 2 ≤ i)) st.mu 0) 1 av ((tupsOf N r).map rL) := by
        obtain ⟨ho, hb, hm⟩ := hown2
        refine ⟨?_, hb, by rw [cutM_len]; exact hm⟩
        rcases ho with h | ⟨b, rfl, hc⟩
        · exact .inl h
        · refine .inr ⟨b, rfl, ?_⟩
          have := hb b _ _ _ rfl
          rw [cutM_get, hc]; simp [this]
      exact OwnF.rdLL hcut
    have hone := hown2.one
    have hcel := hown2.cells
    have hTlen : (((rs.take k).map (tupsOf N)).map lL).length + 1 ≤ 4294967296 := by simp; omega
    have hHlen : (((rs.take k).map Rl.ts).map eHas).length + 1 ≤ 4294967296 := by simp; omega
    have eT : ((rs.take (k + 1)).map (tupsOf N)).map lL = ((rs.take k).map (tupsOf N)).map lL ++ [lL (tupsOf N r)] := by rw [htk]; simp
    have eH : ((rs.take (k + 1)).map Rl.ts).map eHas = ((rs.take k).map Rl.ts).map eHas ++ [eHas r.ts] := by rw [htk]; simp
    generalize ((rs.take k).map (tupsOf N)).map lL = xT at *
    generalize ((rs.take k).map Rl.ts).map eHas = xH at *
    generalize tupsOf N r = tu at *
    refine DrawGo.moveJ 0 7 (fun st => st.tm 4 = .ip [lI sc.atoms, aI sc.steps] ∧ st.tm 7 = .ptr 0 0 ∧ st.tm 9 = .ptr C 0 ∧ st.tm 34 = lRel rs ∧ st.tm 35 = aI rs.length ∧ st.tm 36 = aI k ∧ st.tm 13 = .mp (R + 1) ∧ st.mu[R + 1]? = some (.mp (r.ts.map eKT)) ∧ R + 2 < st.mu.length ∧
      ∃ avT, GT B C sc cls rs st.mu avT avH (xT ++ [lL tu]) xH ∧ (∀ b, blkOf avT = some b → R + 2 ≤ b)) (by kernel_rfl) (by kernel_rfl) ?_ ?_ ?_
    · simp [go_sem, e4, e7, e9, e34, e35, e36, e11, e12, e13, e42, e43, e44, mR, mM2, m1, m2, hone, hcel, g.oT.one]
      refine AppendStep.giveRow (e := 43) (bt := 24) (zv := .lst true []) (fun i => decide (R + 2 ≤ i)) (by simp [go_sem]) (by simp [go_sem]) (by simp [go_sem]) rfl rfl (by omega) g.oT (fun b h => by have := hT b h; simp; omega) hrd rfl hTlen ?_
      intro mu' h1 h2
      have low : ∀ i, i < R + 2 → blkOf avT ≠ some i → mu'[i]? = st.mu[i]? := fun i hi hne => h2 i (by omega) (by simp; omega) hne
      have m1' : mu'[B]? = _ := (low B (by omega) (fun h => by have := g.bT B h; omega)).trans m1
      have m2' : mu'[C]? = _ := (low C (by omega) (fun h => by have := g.bT C h; omega)).trans m2
      have mM' : mu'[R + 1]? = _ := (low (R + 1) (by omega) (fun h => by have := hT _ h; omega)).trans mM2
      have gs := g.stepT hl3' (by omega) hH h1 (fun i hi hne => low i (by omega) hne) (by simp : xT.length + 1 = _)
      have hml : st.mu.length < mu'.length := (List.getElem?_eq_some_iff.1 h1).1
      simp [go_sem, e4, e7, e9, e34, e35, e36, e11, e12, e13, e42, e43, e44, mR, mM2, m1', m2', g.oT.one, g.oH.one]
      refine ⟨by rw [List.getElem?_set_ne (by omega)]; exact mM', by omega, _, gs, fun b hb => by cases hb; omega⟩
    · simp [go_sem, e4, e7, e9, e34, e35, e36, e11, e12, e13, e42, e43, e44, mR, mM2, m1, m2, hone, hcel, g.oT.one]
      refine AppendStep.giveRow (e := 43) (bt := 24) (zv := .lst true []) (fun i => decide (R + 2 ≤ i)) (by simp [go_sem]) (by simp [go_sem]) (by simp [go_sem]) rfl rfl (by omega) g.oT (fun b h => by have := hT b h; simp; omega) hrd rfl hTlen ?_
      intro mu' h1 h2
      have low : ∀ i, i < R + 2 → blkOf avT ≠ some i → mu'[i]? = st.mu[i]? := fun i hi hne => h2 i (by omega) (by simp; omega) hne
      have m1' : mu'[B]? = _ := (low B (by omega) (fun h => by have := g.bT B h; omega)).trans m1
      have m2' : mu'[C]? = _ := (low C (by omega) (fun h => by have := g.bT C h; omega)).trans m2
      have mM' : mu'[R + 1]? = _ := (low (R + 1) (by omega) (fun h => by have := hT _ h; omega)).trans mM2
      have gs := g.stepT hl3' (by omega) hH h1 (fun i hi hne => low i (by omega) hne) (by simp : xT.length + 1 = _)
      have hml : st.mu.length < mu'.length := (List.getElem?_eq_some_iff.1 h1).1
      simp [go_sem, e4, e7, e9, e34, e35, e36, e11, e12, e13, e42, e43, e44, mR, mM2, m1', m2', g.oT.one, g.oH.one]
      refine ⟨by rw [List.getElem?_set_ne (by omega)]; exact mM', by omega, _, gs, fun b hb => by cases hb; omega⟩
    clear e4 e7 e9 e34 e35 e36 e11 e12 e13 e42 e43 e44 mR mM2 m1 m2 hrd hone hcel hown2 hRl hT g
    clear st
    rintro st ⟨e4, e7, e9, e34, e35, e36, e13, mM, hRl, avT, g, hT⟩
    have m1 := g.m1
    have m2 := g.m2
    have hrd : Rd (cutM (fun i => decide (i = R + 1)) st.mu 0) (.mp (R + 1)) (eHas r.ts) := by
      refine .mp (R + 1) (r.ts.map eKT) (r.ts.map eKT) (by rw [cutM_get, mM]; simp) rfl (fun q x y hx hy => ?_) (fun q x y hx hy => ?_)
      · rw [hx] at hy; cases hy
        obtain ⟨z, _, rfl⟩ := List.mem_map.1 (List.mem_of_getElem? hx)
        exact .hf _ (HF.sc _)
      · rw [hx] at hy; cases hy
        obtain ⟨z, _, rfl⟩ := List.mem_map.1 (List.mem_of_getElem? hx)
        exact .hf _ (HF.sc _)
    simp [go_sem, e4, e7, e9, e34, e35, e36, e13, m1, m2]
    refine DrawGo.moveJ 0 7 (fun st => st.tm 4 = .ip [lI sc.atoms, aI sc.steps] ∧ st.tm 7 = .ptr 0 0 ∧ st.tm 9 = .ptr C 0 ∧ st.tm 34 = lRel rs ∧ st.tm 35 = aI rs.length ∧ st.tm 36 = aI k ∧ 3 ≤ st.mu.length ∧
      ∃ avT avH, GT B C sc cls rs st.mu avT avH (xT ++ [lL tu]) (xH ++ [eHas r.ts])) (by kernel_rfl) (by kernel_rfl) ?_ ?_ ?_
    · simp [go_sem, e4, e7, e9, e34, e35, e36, e13, m1, m2, g.oT.one, g.oH.one]
      refine AppendStep.giveRow (e := 119) (bt := 8) (zv := .sc (.map none)) (fun i => decide (i = R + 1)) (by simp [go_sem]) (by simp [go_sem]) (by simp [go_sem]) rfl rfl (by omega) g.oH (fun b h => by have := hH b h; simp; omega) hrd rfl hHlen ?_
      intro mu' h1 h2
      have low : ∀ i, i < st.mu.length → (i < 3 ∨ blkOf avT = some i) → blkOf avH ≠ some i → mu'[i]? = st.mu[i]? := fun i hi hc hne => h2 i hi (by simp; rcases hc with h | h; omega; have := hT i h; omega) hne
      have m1' : mu'[B]? = _ := (low B (by omega) (.inl hB3) (fun h => by have := g.bH B h; omega)).trans m1
      have m2' : mu'[C]? = _ := (low C (by omega) (.inl hC3) (fun h => by have := g.bH C h; omega)).trans m2
      have gs := g.stepH (by omega) h1 low (by simp : xH.length + 1 = _)
      have hml : st.mu.length < mu'.length := (List.getElem?_eq_some_iff.1 h1).1
      simp [go_sem, e4, e7, e9, e34, e35, e36, e13, m1', m2', g.oT.one, g.oH.one]
      refine ⟨by omega, _, _, gs⟩
    · simp [go_sem, e4, e7, e9, e34, e35, e36, e13, m1, m2, g.oT.one, g.oH.one]
      refine AppendStep.giveRow (e := 119) (bt := 8) (zv := .sc (.map none)) (fun i => decide (i = R + 1)) (by simp [go_sem]) (by simp [go_sem]) (by simp [go_sem]) rfl rfl (by omega) g.oH (fun b h => by have := hH b h; simp; omega) hrd rfl hHlen ?_
      intro mu' h1 h2
      have low : ∀ i, i < st.mu.length → (i < 3 ∨ blkOf avT = some i) → blkOf avH ≠ some i → mu'[i]? = st.mu[i]? := fun i hi hc hne => h2 i hi (by simp; rcases hc with h | h; omega; have := hT i h; omega) hne
      have m1' : mu'[B]? = _ := (low B (by omega) (.inl hB3) (fun h => by have := g.bH B h; omega)).trans m1
      have m2' : mu'[C]? = _ := (low C (by omega) (.inl hC3) (fun h => by have := g.bH C h; omega)).trans m2
      have gs := g.stepH (by omega) h1 low (by simp : xH.length + 1 = _)
      have hml : st.mu.length < mu'.length := (List.getElem?_eq_some_iff.1 h1).1
      simp [go_sem, e4, e7, e9, e34, e35, e36, e13, m1', m2', g.oT.one, g.oH.one]
      refine ⟨by omega, _, _, gs⟩
    clear e4 e7 e9 e34 e35 e36 e13 m1 m2 hrd mM hRl hT hH g avT avH
    clear st
    rintro st ⟨e4, e7, e9, e34, e35, e36, hl3, avT, avH, g⟩
    simp [go_sem, e4, e7, e9, e34, e35, e36]
    refine ⟨hlt, wrap_i64 (by omega) (by omega), hl3, avT, avH, ?_⟩
    have := g
    rw [← eT, ← eH] at this
    simpa only [List.map_take, List.map_map] using this
end Go.Proofs.YtfniceomhfebhaaGreat.C32

set_option linter.unusedVariables false
set_option linter.unusedSimpArgs false
set_option maxRecDepth 100000
namespace Go.Proofs.YtfniceomhfebhaaGreat.C33
open Go Go.Ev Go.Proofs C1 C2 C3 C4 C5 C6 C7 C9 C10 C11 C12 C14 C15 C16 C17 C18 C19 C20 C21 C22 C24 C25 C26 C27 C28 C29 C30 C31 C32

def anyP (_ : List Int) : Bool := true
/-- all permutations that keep the sorts -/
def allS (N : Nat) (sc : Sc) : List (List Int) := extG N (sortsL sc) anyP N []

/-- which atoms are used -/
def usedN (n : Nat) (p : List Int) : List Int := (List.range n).map fun (i : Nat) => if ((i : Nat) : Int) ∈ p then (1 : Int) else 0
/-- a row that may be longer than what is seen of it -/
def OwnV (mu : Mu) (s : AV) (l : List Int) : Prop := (s = .lst true [] ∧ l = []) ∨ ∃ b cells, s = .sl b 1 0 l.length ∧ mu[b]? = some (.arr cells) ∧ l.length ≤ cells.length ∧ cells.take l.length = l.map aI
theorem OwnV.one {mu : Mu} {s : AV} {l : List Int} (h : OwnV mu s l) : s.one = true := by
  rcases h with ⟨rfl, _⟩ | ⟨b, c, rfl, _⟩ <;> rfl
theorem OwnV.same {mu mu' : Mu} {s : AV} {l : List Int} (h : OwnV mu s l) (hs : ∀ b, blkOf s = some b → mu'[b]? = mu[b]?) : OwnV mu' s l := by
  rcases h with h | ⟨b, c, rfl, hc, h1, h2⟩
  · exact .inl h
  · exact .inr ⟨b, c, rfl, by rw [hs b rfl]; exact hc, h1, h2⟩
theorem OwnV.lt {mu : Mu} {s : AV} {l : List Int} (h : OwnV mu s l) {b : Nat} (hb : blkOf s = some b) : b < mu.length := by
  rcases h with ⟨rfl, _⟩ | ⟨b', c, rfl, hc, _⟩
  · cases hb
  · cases hb; exact (List.getElem?_eq_some_iff.1 hc).1
theorem OwnV.rd {mu : Mu} {s : AV} {l : List Int} (h : OwnV mu s l) : Rd mu s (lI l) := by
  rcases h with ⟨rfl, rfl⟩ | ⟨b, cells, rfl, hc, h1, h2⟩
  · exact .wk _ true _ (.hf _ (HF.lst fun r hr => by simp at hr))
  · refine .sl b 1 0 _ cells _ hc (by simpa using h1) (by simp) (fun x hx => by
      obtain ⟨l, _, rfl⟩ := List.mem_map.1 hx; rfl) (fun k x y hx hy => ?_)
    rw [Nat.zero_add] at hx
    rw [flat_rI, ← h2, List.getElem?_take] at hy
    split at hy
    · rw [hx] at hy; cases hy
      have : x ∈ cells.take l.length := by
        refine List.mem_of_getElem? (i := k) ?_
        rw [List.getElem?_take, if_pos (by assumption)]; exact hx
      rw [h2] at this
      obtain ⟨z, _, rfl⟩ := List.mem_map.1 this
      exact .hf _ (HF.sc _)
    · exact absurd hy (by simp)
theorem OwnV.len {mu : Mu} {s : AV} {l : List Int} (h : OwnV mu s l) : lenA Tryz.prog mu 29 s = some (aI l.length) := by
  rcases h with ⟨rfl, rfl⟩ | ⟨b, c, rfl, _⟩ <;> simp [go_sem]

/-- the memory of All: 0 the sorts, 1 the row of used atoms, 2 its variable, 3 the result, 4 the permutation, 5 the function -/
structure AM (n : Nat) (so : List Int) (fnv : AV) (mu : Mu) (p : List Int) (L : List (List Int)) (avO avP : AV) : Prop where
  m0 : mu[0]? = some (.arr [lI so])
  m1 : mu[1]? = some (.arr ((usedN n p).map aI))
  m2 : mu[2]? = some (.arr [.sl 1 1 0 n])
  m3 : mu[3]? = some (.arr [avO])
  m4 : mu[4]? = some (.arr [avP])
  m5 : mu[5]? = some (.arr [fnv])
  oO : OwnR mu avO (L.map lI)
  oP : OwnV mu avP p
  bO : ∀ b, blkOf avO = some b → 6 ≤ b
  bP : ∀ b, blkOf avP = some b → 6 ≤ b
  dj : ∀ b, blkOf avO = some b → blkOf avP ≠ some b
end Go.Proofs.YtfniceomhfebhaaGreat.C33

set_option linter.unusedVariables false
set_option linter.unusedSimpArgs false
set_option maxRecDepth 100000
namespace Go.Proofs.YtfniceomhfebhaaGreat.C34
open Go Go.Ev Go.Proofs C1 C2 C3 C4 C5 C6 C7 C9 C10 C11 C12 C13 C14 C15 C16 C17 C18 C19 C20 C21 C22 C23 C24 C25 C26 C27 C28 C29 C30 C31 C32 C33

theorem hf0 : HF (.lst false []) := HF.lst fun r hr => by simp at hr
def spA (o : Bool) : Sp := ⟨[(⟨#[65]⟩, o)], [⟨⟨#[102]⟩, [0], false⟩], [], [], hf0, hf0⟩
def scA : Sc := ⟨[3], 1⟩
def bsA (l : List Int) : List Bd := [⟨⟨1, l⟩, ⟨1, [0, 1, 2]⟩⟩]
def grpS (sp : Sp) (sc : Sc) (N : Nat) (bs : List Bd) : List (List Int) := extG N (stableS sp sc bs).1 (consB N (relsOf bs)) N []
theorem h1 : classesS (spA false) scA (bsA []) = [[0, 1, 2]] := by kernel_rfl
theorem h2 : classesS (spA false) scA (bsA [1]) = [[0, 2], [1]] := by kernel_rfl
theorem h3 : classesS (spA true) scA (bsA []) = [[0], [1], [2]] := by kernel_rfl
theorem h4 : (grpS (spA false) scA 3 (bsA [])).length = 6 := by kernel_rfl
theorem h5 : grpS (spA false) scA 3 (bsA [1]) = [[0, 1, 2], [2, 1, 0]] := by kernel_rfl
theorem h6 : (grpS (spA true) scA 3 (bsA [])).length = 1 := by kernel_rfl
/-- sorting, so that the kernel can do it -/
def insI (x : Int) : List Int → List Int
  | [] => [x]
  | y :: l => if x ≤ y then x :: y :: l else y :: insI x l
def isoI : List Int → List Int
  | [] => []
  | x :: l => insI x (isoI l)
theorem insI_perm (x : Int) : ∀ l, (insI x l).Perm (x :: l)
  | [] => .refl _
  | y :: l => by
    unfold insI
    split
    · exact .refl _
    · exact ((insI_perm x l).cons y).trans (.swap x y l)
theorem isoI_perm : ∀ l, (isoI l).Perm l
  | [] => .refl _
  | x :: l => (insI_perm x (isoI l)).trans ((isoI_perm l).cons x)
theorem insI_sorted (x : Int) : ∀ l, l.Pairwise (· ≤ ·) → (insI x l).Pairwise (· ≤ ·)
  | [], _ => by simp [insI]
  | y :: l, h => by
    rw [List.pairwise_cons] at h
    unfold insI
    split
    · rename_i hxy
      rw [List.pairwise_cons, List.pairwise_cons]
      refine ⟨fun z hz => ?_, h⟩
      rcases List.mem_cons.1 hz with rfl | hz
      · exact hxy
      · have := h.1 z hz; omega
    · rename_i hxy
      rw [List.pairwise_cons]
      refine ⟨fun z hz => ?_, insI_sorted x l h.2⟩
      rcases List.mem_cons.1 ((insI_perm x l).mem_iff.1 hz) with rfl | hz
      · omega
      · exact h.1 z hz
theorem isoI_sorted : ∀ l, (isoI l).Pairwise (· ≤ ·)
  | [] => .nil
  | x :: l => insI_sorted x _ (isoI_sorted l)
theorem srtI_perm (l : List Int) : (srtI l).Perm l := List.mergeSort_perm _ _
theorem srtI_sorted (l : List Int) : (srtI l).Pairwise (· ≤ ·) := by
  have := List.pairwise_mergeSort (le := fun x y : Int => decide (x ≤ y)) (fun a b c h1 h2 => by simp at *; omega) (fun a b => by simp; omega) l
  exact this.imp (fun h => by simpa using h)
theorem srtI_iso (l : List Int) : srtI l = isoI l :=
  List.Perm.eq_of_pairwise (le := (· ≤ ·)) (fun a b _ _ h1 h2 => by omega) (srtI_sorted l) (isoI_sorted l) ((srtI_perm l).trans (isoI_perm l).symm)
def relImgK (p : List Int) (r : Rl) : Rl := ⟨r.ar, isoI (r.ts.map fun t => imgN p p.length t r.ar.toNat)⟩
theorem relImg_K (p : List Int) (r : Rl) : relImg p r = relImgK p r := by unfold relImg relImgK; rw [srtI_iso]
def symK (sc : Sc) (bs : List Bd) (p : List Int) : Bool := validP sc p && (relsOf bs).all fun r => decide (r = relImgK p r)
theorem symB_K (sc : Sc) (bs : List Bd) (p : List Int) : symB sc bs p = symK sc bs p := by unfold symB symK; simp only [relImg_K]
def swapsK (sp : Sp) (sc : Sc) (bs : List Bd) : List (Int × Int) := swapsN (stableS sp sc bs).1 (fun x y => symK sc bs (C6.swapL x y (stableS sp sc bs).1.length)) (stableS sp sc bs).1.length (stableS sp sc bs).1.length
theorem swapsS_K (sp : Sp) (sc : Sc) (bs : List Bd) : swapsS sp sc bs = swapsK sp sc bs := by
  unfold swapsS swapsK
  congr 1
  funext x y
  unfold symSw
  rw [symB_K]
theorem h7 : swapsS (spA false) scA (bsA [1]) = [(0, 2)] := (swapsS_K _ _ _).trans (by kernel_rfl)
theorem h8 : (swapsS (spA false) scA (bsA [])).length = 3 := by rw [swapsS_K]; kernel_rfl
theorem h9 : symB scA (bsA [1]) [2, 1, 0] = true := (symB_K _ _ _).trans (by kernel_rfl)
theorem h10 : symB scA (bsA [1]) [1, 0, 2] = false := (symB_K _ _ _).trans (by kernel_rfl)
theorem h11 : symB scA (bsA [1]) [0, 1] = false := (symB_K _ _ _).trans (by kernel_rfl)
theorem h12 : validP scA [2, 1, 0] = true := by kernel_rfl
theorem WK.rows {full : Bool} {xs ys : List (List AV)} (hn : ys.length = xs.length) (hz : ∀ (k : Nat) x y, xs[k]? = some x → ys[k]? = some y → x.length = y.length) (h : ∀ (k : Nat) x y, xs.flatten[k]? = some x → ys.flatten[k]? = some y → WK x y) : WK (.lst full xs) (.lst false ys) := by
  intro G hp v r
  have hfl := flatten_len_eq hn hz
  cases r with
  | nil => cases ys with
    | nil => exact .nil _
    | cons => simp at hn
  | emp _ a cap hc => cases ys with
    | nil => exact .emp _ a cap (by simp)
    | cons => simp at hn
  | lst _ _ sz a cap cs e fr rd hb hs hl hc hi hz' hr hv =>
    rw [← hn]
    have hget : ∀ (k : Nat) y, ys.flatten[k]? = some y → ∃ x, xs.flatten[k]? = some x := by
      intro k y hy
      have hk : k < ys.flatten.length := (List.getElem?_eq_some_iff.1 hy).1
      exact ⟨xs.flatten[k]'(by omega), by simp only [List.getElem?_eq_getElem (show k < xs.flatten.length by omega)]⟩
    refine .lst false ys sz a cap cs e fr rd hb hs (by omega) (by simp) hi ?_ ?_ ?_
    · intro r hr'
      obtain ⟨k, hk⟩ := List.mem_iff_getElem?.1 hr'
      have hkl : k < ys.length := (List.getElem?_eq_some_iff.1 hk).1
      have hx : xs[k]? = some (xs[k]'(by omega)) := by simp [show k < xs.length by omega]
      rw [← hz k _ r hx hk]; exact hz' _ (List.mem_of_getElem? hx)
    · intro k y hy
      obtain ⟨x, hx⟩ := hget k y hy
      exact hr k x hx
    · intro k y hy
      obtain ⟨x, hx⟩ := hget k y hy
      exact h k x y hx hy G hp _ (hv k x hx)
theorem WK.ints {full : Bool} (l : List Int) : WK (.lst full (l.map rI)) (lI l) := WK.lst fun r hr c hc => by
  obtain ⟨n, _, rfl⟩ := List.mem_map.1 hr
  simp at hc; subst hc; exact HF.sc _
/-- one row -/
theorem WK.row {full : Bool} {xs ys : List AV} (h : WKs xs ys) : WK (.lst full [xs]) (.lst false [ys]) := by
  obtain ⟨h1, h2⟩ := h.get
  refine WK.rows rfl (fun k x y hx hy => ?_) (fun k x y hx hy => ?_)
  · cases k with
    | zero => simp at hx hy; subst hx; subst hy; exact h1.symm
    | succ k => simp at hx
  · simp at hx hy; exact h2 k x y hx hy
theorem WK.nil {full : Bool} : WK (.lst full []) (.lst false []) := WK.lst fun r hr => by simp at hr
theorem wkSp (o : Bool) : WK (.agg [.lst true [[.sc (.string ⟨#[65]⟩), .sc (.bool o)]], .lst true [[.sc (.string ⟨#[102]⟩), .lst true [[.sc (.int .i64 0)]], .sc (.bool false)]], .lst true [], .lst true []]) (eSp (spA o)) :=
  WK.aggs (.cons (WK.row (.cons (.hf (HF.sc _)) (.cons (.hf (HF.sc _)) .nil))) (.cons (WK.row (.cons (.hf (HF.sc _)) (.cons (WK.ints [0]) (.cons (.hf (HF.sc _)) .nil)))) (.cons WK.nil (.cons WK.nil .nil))))
theorem WK.lls (ls : List (List Int)) : WK (.lst true (ls.map fun l => [.lst true (l.map rI)])) (lL ls) := by
  refine WK.rows (by simp) (fun k x y hx hy => ?_) (fun k x y hx hy => ?_)
  · rw [List.getElem?_map] at hx hy
    cases hq : ls[k]? with
    | none => rw [hq] at hx; simp at hx
    | some l => rw [hq] at hx hy; simp at hx hy; subst hx; subst hy; rfl
  · have e1 : (ls.map fun l => [AV.lst true (l.map rI)]).flatten = ls.map fun l => AV.lst true (l.map rI) := by
      clear hx hy
      induction ls with
      | nil => rfl
      | cons a l ih => rw [List.map_cons, List.flatten_cons, ih]; rfl
    have e2 : (ls.map rL).flatten = ls.map lI := flat_lL ls
    rw [e1, List.getElem?_map] at hx
    rw [e2, List.getElem?_map] at hy
    cases hq : ls[k]? with
    | none => rw [hq] at hx; simp at hx
    | some l => rw [hq] at hx hy; simp at hx hy; subst hx; subst hy; exact WK.ints l
end Go.Proofs.YtfniceomhfebhaaGreat.C34

set_option linter.unusedVariables false
set_option linter.unusedSimpArgs false
set_option maxRecDepth 100000
namespace Go.Proofs.YtfniceomhfebhaaGreat.C35
open Go Go.Ev Go.Proofs C1 C2 C3 C4 C5 C6 C7 C9 C10 C11 C12 C13 C14 C15 C16 C17 C18 C19 C20 C21 C22 C23 C24 C25 C26 C27 C28 C29 C30 C31 C32 C33 C34

end Go.Proofs.YtfniceomhfebhaaGreat.C35

set_option linter.unusedVariables false
set_option linter.unusedSimpArgs false
set_option maxRecDepth 100000
namespace Go.Proofs.YtfniceomhfebhaaGreat.M1
open Go Go.Ev Go.Proofs C1 C2 C3 C4 C5 C6 C7 C8 C9 C10 C11 C12 C13 C14 C15 C16 C17 C18 C19 C20 C21 C22 C23 C24 C25 C26 C27 C28 C29 C30 C31 C32 C33 C34 C35 

/-! ### package cmp -/
theorem isNaNI (x : Int) : SoundP Tryz.prog 77 [aI x] (aB false) := by
  refine SoundP.of_sound (Sound.of_awp Tryz.call77 Tryz.func77 rfl (Nat.le_of_ble_eq_true (by kernel_rfl)) (by kernel_rfl) (pl := {}) ?_)
  simp [go_sem]
  exact .hf _ (HF.sc _)
def cmpI (x y : Int) : Int := if x < y then -1 else if y < x then 1 else 0
theorem compareU (x y : Int) : SoundP Tryz.prog 54 [aI x, aI y] (aI (cmpI x y)) := by
  refine SoundP.of_sound (Sound.of_awp Tryz.call54 Tryz.func54 rfl (Nat.le_of_ble_eq_true (by kernel_rfl)) (by kernel_rfl) (pl := {}) ?_)
  simp [go_sem]
  refine CallStep.pure (isNaNI x) (.cons (.hf (HF.sc _)) .nil) ?_
  simp [go_sem]
  refine CallStep.pure (isNaNI y) (.cons (.hf (HF.sc _)) .nil) ?_
  simp [go_sem]
  unfold cmpI
  by_cases h1 : x < y
  · simp [go_sem, h1]
    exact .hf _ (HF.sc _)
  · by_cases h2 : y < x
    · simp [go_sem, h1, h2]
      exact .hf _ (HF.sc _)
    · simp [go_sem, h1, h2]
      exact .hf _ (HF.sc _)

def orI : List Int → Int
  | [] => 0
  | x :: l => if x = 0 then orI l else x
theorem orI_drop (l : List Int) (k : Nat) (h : k < l.length) : orI (l.drop k) = if l[k] = 0 then orI (l.drop (k + 1)) else l[k] := by
  rw [List.drop_eq_getElem_cons h, orI]
theorem orU (xs : List Int) (hl : xs.length ≤ 1000000) : SoundP Tryz.prog 55 [lI xs] (aI (orI xs)) := by
  refine SoundP.of_sound (Sound.of_awp Tryz.call55 Tryz.func55 rfl (Nat.le_of_ble_eq_true (by kernel_rfl)) (by kernel_rfl) (pl := {}) ?_)
  simp [go_sem]
  refine LoopGo.up xs.length (fun k st => st.tm 3 = aI 0 ∧ st.tm 6 = lI xs ∧ st.tm 7 = aI xs.length ∧ st.tm 8 = aI k ∧ st.mu = [] ∧ orI (xs.drop k) = orI xs) ?_ ?_
  · simp [go_sem]
  rintro k st hk ⟨e3, e6, e7, e8, hm, hi⟩
  by_cases hlt : k < xs.length
  · rw [orI_drop _ _ hlt] at hi
    by_cases hx : xs[k] = 0
    · rw [if_pos hx] at hi
      simp [go_sem, e3, e6, e7, e8, hm, hlt, hx]
      exact ⟨wrap_i64 (by omega) (by omega), hi⟩
    · rw [if_neg hx] at hi
      simp [go_sem, e3, e6, e7, e8, hm, hlt, hx]
      rw [← hi]
      exact .hf _ (HF.sc _)
  · have hge : k = xs.length := by omega
    subst hge
    rw [List.drop_length] at hi
    simp [go_sem, e3, e6, e7, e8, hm]
    rw [← hi]
    exact .hf _ (HF.sc _)

/-! ### slices.BinarySearch, from the shelf -/
theorem Stp.drewN {G : Gh} {mu : Mu} {w : World} (s : Sim G mu w.heap) (n : Nat) : Stp G mu w G mu (w.drewN n) :=
  ⟨.refl G, s, fun _ _ _ => rfl, Nat.le_refl _, fun _ h => .inl h, fun _ h => .inl h, rfl, rfl, rfl, Nat.le_add_right _ _⟩

theorem lI_cells {G : Gh} {h : Array Obj} {xs : List Int} {v : Value} (r : VRel G h (lI xs) v) : xs = [] ∧ (∃ a c, v = .slice a 0 c) ∨ xs ≠ [] ∧ ∃ b off c arr e fr, v = .slice (some ⟨b, off, none⟩) xs.length c ∧ h[b]? = some (.cells arr e fr) ∧ ∀ j, j < xs.length → arr[off + j]? = some (.int .i64 (xs.getD j 0)) := by
  by_cases hx : xs = []
  · subst hx
    refine .inl ⟨rfl, ?_⟩
    change VRel G h (.lst false []) v at r
    cases r with
    | nil => exact ⟨_, _, rfl⟩
    | emp _ a cap hc => exact ⟨_, _, rfl⟩
    | lst _ _ sz a cap cs e fr rd hb hs hl hc hi hz hr hv => exact ⟨_, _, rfl⟩
  · refine .inr ⟨hx, ?_⟩
    change VRel G h (.lst false (xs.map rI)) v at r
    generalize hl0 : xs.map rI = l at r
    have hlen : l.length = xs.length := by rw [← hl0]; simp
    cases r with
    | nil => simp at hl0; exact absurd hl0 hx
    | emp _ a cap hc => simp at hl0; exact absurd hl0 hx
    | lst _ _ sz a cap cs e fr rd hb hs hl hc hi hz hr hv =>
      obtain ⟨b, off, spot⟩ := a
      simp only at hs hb hr
      subst hs
      refine ⟨b, off, cap, cs, e, fr, by rw [hlen], hb, fun j hj => ?_⟩
      have hfl : l.flatten[j]? = some (aI (xs.getD j 0)) := by
        rw [← hl0]
        have : (xs.map rI).flatten = xs.map aI := flat_rI xs
        rw [this, List.getElem?_map, List.getElem?_eq_getElem hj, List.getD_eq_getElem?_getD, List.getElem?_eq_getElem hj]
        rfl
      have h1 := hr j _ hfl
      have h2 := hv j _ hfl
      generalize rd j = u at h1 h2
      cases h2
      exact h1

def lessN (xs : List Int) (x : Int) : Nat := xs.countP (fun y => decide (y < x))
theorem binU (xs : List Int) (x : Int) (hl : xs.length ≤ 1000000000) (hs : xs.Pairwise (· ≤ ·)) : SoundP Tryz.prog 52 [lI xs, aI x] (.tup [aI (lessN xs x), aB (decide (x ∈ xs))]) := by
  refine ⟨Tryz.call52, fun imm w vs hi ra => ?_⟩
  obtain ⟨u, v, rfl, ru, rv⟩ := ra.two_inv
  cases rv
  have hres : ∀ w' : World, VRel ⟨imm, []⟩ w'.heap (.tup [aI (lessN xs x), aB (decide (x ∈ xs))]) (.tuple #[.int .i64 (lessN xs x : Nat), .bool (decide (x ∈ xs))]) := by
    intro w'
    refine .tup _ _ rfl (fun k y hy => ?_)
    cases k with
    | zero => simp at hy; subst hy; exact .sc _ rfl
    | succ k => cases k with
      | zero => simp at hy; subst hy; exact .sc _ rfl
      | succ k => simp at hy
  rcases lI_cells ru with ⟨rfl, a, c, rfl⟩ | ⟨hne, b, off, c, arr, e, fr, rfl, hb, hc⟩
  · refine (Tryz.slices_BinarySearch_int_empty a c x w).mono fun e w' ⟨he, hw⟩ => ?_
    subst hw
    refine ⟨imm, _, he, fun _ h => h, fun b hb => ⟨hi b hb, .inl hb⟩, ⟨RowKit.Below.refl _ _, Nat.le_refl _⟩, ?_⟩
    exact hres _
  · have hcell : ∀ j, j < xs.length → w.cell? ⟨b, off + j, none⟩ = some (.int .i64 (xs.getD j 0)) := by
      intro j hj
      simp only [World.cell?, hb, Option.isSome_none, Bool.false_eq_true, if_false]
      exact hc j hj
    refine (Tryz.slices_BinarySearch_int b off xs.length c xs x w (Nat.le_refl _) (by omega) hcell (by rw [List.take_length]; exact hs)).mono fun e w' ⟨he, q, hw⟩ => ?_
    subst hw
    rw [List.take_length] at he
    have e2 : xs.contains x = decide (x ∈ xs) := by
      rw [Bool.eq_iff_iff]; simp
    rw [e2] at he
    refine ⟨imm, _, he, fun _ h => h, fun b hb => ⟨hi b hb, .inl hb⟩, ⟨⟨rfl, rfl, rfl, Nat.le_refl _, fun _ _ => rfl⟩, Nat.le_add_right _ _⟩, ?_⟩
    exact hres _
end Go.Proofs.YtfniceomhfebhaaGreat.M1

set_option linter.unusedVariables false
set_option linter.unusedSimpArgs false
set_option maxRecDepth 100000
namespace Go.Proofs.YtfniceomhfebhaaGreat.M2
open Go Go.Ev Go.Proofs C1 C2 C3 C4 C5 C6 C7 C8 C9 C10 C11 C12 C13 C14 C15 C16 C17 C18 C19 C20 C21 C22 C23 C24 C25 C26 C27 C28 C29 C30 C31 C32 C33 C34 C35 M1

/-! ### models -/
structure Md where
  sc : Sc
  states : List (List Rl)
  loop : Int
abbrev cSt (s : List Rl) : List AV := [lRel s]
abbrev lSt (l : List (List Rl)) : AV := .lst false (l.map cSt)
abbrev cMd (m : Md) : List AV := [lI m.sc.atoms, aI m.sc.steps, lSt m.states, aI m.loop]
abbrev eMd (m : Md) : AV := .agg (cMd m)
abbrev lMd (l : List Md) : AV := .lst false (l.map cMd)

theorem hf_lSt (l : List (List Rl)) : HF (lSt l) := HF.lst fun r hr c hc => by
  obtain ⟨n, _, rfl⟩ := List.mem_map.1 hr
  simp at hc; subst hc; exact hf_lRel _
theorem hf_cMd (m : Md) : ∀ c, c ∈ cMd m → HF c := by
  intro c hc
  simp at hc
  rcases hc with rfl | rfl | rfl | rfl
  · exact hf_lI _
  · exact HF.sc _
  · exact hf_lSt _
  · exact HF.sc _
theorem hf_eMd (m : Md) : HF (eMd m) := HF.agg (hf_cMd m)
theorem hf_ipMd (m : Md) : HF (.ip (cMd m)) := HF.ip (hf_cMd m)
theorem hf_lMd (l : List Md) : HF (lMd l) := HF.lst fun r hr c hc => by
  obtain ⟨n, _, rfl⟩ := List.mem_map.1 hr
  exact hf_cMd n c hc
theorem rows_cMd (xs : List Md) : rowsWf 4 (xs.map cMd) := fun r hr => by
  obtain ⟨n, _, rfl⟩ := List.mem_map.1 hr
  exact ⟨rfl, rfl⟩
theorem rows_cSt (xs : List (List Rl)) : rowsWf 1 (xs.map cSt) := fun r hr => by
  obtain ⟨n, _, rfl⟩ := List.mem_map.1 hr
  exact ⟨rfl, rfl⟩
inductive TagM (p : Mu → Prop) : Type where
  | mk : TagM p
def KeepM (p : Mu → Prop) (_ : TagM p) (mu : Mu) : Prop := p mu
theorem KeepM.intro {p : Mu → Prop} {mu : Mu} (h : p mu) : KeepM p .mk mu := h
theorem RangeGo.keep {P : Program} {pl : Pol} {gf : FuncId} {caps : List AV} {ps : Array Tmp} {asg body : Code} {Q : AExit → St → Prop} {st : St} {rows : List (List AV)} (hit : IterOk P gf caps rows) (I : Nat → Mu → Prop) (Ix : AExit → Mu → Prop)
    (h0 : I 0 (st.mu ++ [.dead])) (hS : ∀ k mu, I k mu → I k (mu ++ [.dead])) (hX : ∀ e mu, Ix e mu → Ix e (mu ++ [.dead]))
    (hr : ∀ k x mu, rows[k]? = some x → I k mu → x.length = ps.size ∧ awp P pl asg (asQ (fun st => awp P pl body (rndQ (fun k => KeepM (I k) .mk) (fun e => KeepM (Ix e) .mk) k) st)) ⟨setPs st.tm ps.toList x, mu⟩)
    (he : ∀ mu, I rows.length mu → Q .normal ⟨st.tm, mu⟩) (hx : ∀ e mu, Ix e mu → Q e ⟨st.tm, mu⟩) : RangeGo P pl (.fn (.func gf) [] caps) ps asg body Q st :=
  RangeGo.intro hit I Ix h0 hS hX hr he hx
theorem Own.one {sz : Nat} {mu : Mu} {av : AV} {xs : List (List AV)} (h : Own mu sz av xs) : av.one = true := by
  rcases h with rfl | ⟨b, rfl, _⟩ <;> rfl
theorem Own.cells {sz : Nat} {mu : Mu} {av : AV} {xs : List (List AV)} (h : Own mu sz av xs) : av.cells = [av] := by
  rcases h with rfl | ⟨b, rfl, _⟩ <;> rfl
theorem Own.push {sz : Nat} {mu : Mu} {av : AV} {xs : List (List AV)} (h : Own mu sz av xs) (c : List Cell) : Own (mu ++ c) sz av xs := by
  rcases h with rfl | ⟨b, rfl, hc⟩
  · exact .inl rfl
  · exact .inr ⟨b, rfl, by rw [List.getElem?_append_left (List.getElem?_eq_some_iff.1 hc).1]; exact hc⟩
theorem Own.set {sz : Nat} {mu : Mu} {av : AV} {xs : List (List AV)} (h : Own mu sz av xs) {i : Nat} (c : Cell) (hi : blkOf av ≠ some i) : Own (mu.set i c) sz av xs := by
  rcases h with rfl | ⟨b, rfl, hc⟩
  · exact .inl rfl
  · exact .inr ⟨b, rfl, by rw [List.getElem?_set_ne (fun e => hi (by rw [e]; rfl))]; exact hc⟩
theorem Own.lt {sz : Nat} {mu : Mu} {av : AV} {xs : List (List AV)} (h : Own mu sz av xs) {b : Nat} (hb : blkOf av = some b) : b < mu.length := by
  rcases h with rfl | ⟨b', rfl, hc⟩
  · cases hb
  · cases hb; exact (List.getElem?_eq_some_iff.1 hc).1
theorem Own.muLe {sz : Nat} {mu mu' : Mu} {av : AV} {xs : List (List AV)} (h : Own mu sz av xs) (hm : MuLe mu mu') : Own mu' sz av xs := by
  rcases h with rfl | ⟨b, rfl, hc⟩
  · exact .inl rfl
  · exact .inr ⟨b, rfl, hm _ _ hc⟩
theorem AppendStep.ownB {P : Program} {mu : Mu} {t t' e sz bt : Nat} {s x : AV} {xs ys : List (List AV)} {zv : AV} {K : AV → Mu → Prop} (hs : sliceOf P t = some (e, sz, bt)) (hs' : (sliceOf P t').isSome = true) (hz : zeroOf P e = some zv)
    (hz1 : zv.cells.length = sz) (hz2 : zv.cells.all AV.one = true) (hz0 : sz ≠ 0) (hb : bt ≤ 16384) (ho : Own mu sz s xs) (hx : rowsOf mu x = some ys) (wx : rowsWf sz xs) (wy : rowsWf sz ys) (hl : xs.length + ys.length ≤ 4294967296)
    (k : ∀ av mu', Own mu' sz av (xs ++ ys) → (∀ i, i < mu.length → blkOf s ≠ some i → mu'[i]? = mu[i]?) → (∀ b, blkOf av = some b → b = mu.length) → mu.length ≤ mu'.length → K av mu') : AppendStep P mu #[t, t'] s x K := by
  refine .inl ?_
  refine ⟨t, t', e, sz, bt, ys, rfl, hs, hs', ⟨zv, hz, hz1, hz2⟩, hz0, hb, hx, wy, ?_⟩
  rcases ho with rfl | ⟨b, rfl, hc⟩
  · refine .inl ⟨xs, rfl, wx, hl, fun h => ?_, fun h => ?_⟩
    · subst h
      exact k _ _ (.inl (by simp)) (fun _ _ _ => rfl) (fun b h => by cases h) (Nat.le_refl _)
    · refine k _ _ (.inr ⟨mu.length, by simp, by simp⟩) (fun i hi _ => ?_) (fun b h => by cases h; rfl) (by simp)
      rw [List.getElem?_append_left hi]
  · have hfl := flatten_len wx.ok
    refine .inr ⟨b, xs.length, xs.flatten, rfl, hc, by omega, hl, ?_⟩
    have htk : xs.flatten.take (xs.length * sz) = xs.flatten := List.take_of_length_le (by omega)
    refine k _ _ (.inr ⟨mu.length, by simp, ?_⟩) (fun i hi hne => ?_) (fun b h => by cases h; rfl) (by simp)
    · rw [htk, List.getElem?_append_right (by simp)]; simp
    · rw [List.getElem?_append_left (by simpa using hi)]
      rw [List.getElem?_set_ne (fun e => hne (by rw [e]; rfl))]

/-! ### functions that read memory, and leave it -/
def SoundM (P : Program) (f : FuncId) (args : List AV) (mu : Mu) (r : AV) : Prop := Sound P f args mu fun e mu' => e = .ret r ∧ MuLe mu mu'
theorem cutM_le {lo : Nat} {mu mu' : Mu} (h : MuLe mu mu') (hlo : mu.length ≤ lo) : MuLe mu (cutM (fun i => !decide (lo ≤ i)) mu' 0) := by
  intro b c hb
  have hlt : b < mu.length := (List.getElem?_eq_some_iff.1 hb).1
  rw [cutM_get, h b c hb]
  simp
  omega
/-- what it hands over is given away -/
theorem SoundM.of {P : Program} {f : FuncId} {args : List AV} {mu : Mu} {r : AV} (h : Sound P f args mu fun e mu' => ∃ x, e = .ret x ∧ MuLe mu mu' ∧ Rd (cutM (fun i => decide (mu.length ≤ i)) mu' 0) x r) : SoundM P f args mu r := by
  refine ⟨h.1, fun G w vs s ra => (h.2 G w vs s ra).mono fun e w' ⟨G', mu', st, hR⟩ => ?_⟩
  rcases hR with ⟨x, v, ⟨x', e1, hle, hrd⟩, rfl, hv⟩ | ⟨x, v, ⟨x', e1, _⟩, _⟩
  · cases e1
    exact ⟨_, _, st.trans s (frz_stp st.sim _), .inl ⟨r, v, ⟨rfl, cutM_le hle (Nat.le_refl _)⟩, rfl, frz_rd st.sim _ hrd hv⟩⟩
  · exact absurd e1 (by simp)
theorem CallStep.mem {P : Program} {mu : Mu} {g : FuncId} {caps args : List AV} {r : AV} {K Kp : AV → Mu → Prop} (hs : SoundM P g (args ++ caps) mu r) (k : ∀ mu', MuLe mu mu' → K r mu') : CallStep P false mu (.fn (.func g) [] caps) args K Kp :=
  CallStep.eff hs (fun r m h => by obtain ⟨e, h⟩ := h; cases e; exact k m h) (fun r m h => absurd h.1 (by simp))
def FnOkM (P : Program) (mu : Mu) (fv : AV) {α : Type} (enc : α → AV) (ok : α → Prop) (g : α → AV) : Prop :=
  ∃ fid caps, fv = .fn (.func fid) [] caps ∧ ∀ x, ok x → ∀ mu', MuLe mu mu' → SoundM P fid ([enc x] ++ caps) mu' (g x)
theorem FnOkM.call {P : Program} {mu mu' : Mu} {fv : AV} {α : Type} {enc : α → AV} {ok : α → Prop} {g : α → AV} (h : FnOkM P mu fv enc ok g) {x : α} (hx : ok x) (hm : MuLe mu mu') {K Kp : AV → Mu → Prop} (k : ∀ m, MuLe mu' m → K (g x) m) : CallStep P false mu' fv [enc x] K Kp := by
  obtain ⟨fid, caps, rfl, h⟩ := h
  exact CallStep.mem (h x hx mu' hm) k
theorem FnOkM.fn {P : Program} {mu : Mu} {fv : AV} {α : Type} {enc : α → AV} {ok : α → Prop} {g : α → AV} (h : FnOkM P mu fv enc ok g) : ∃ f b, fv = .fn f [] b := by
  obtain ⟨fid, caps, rfl, h⟩ := h
  exact ⟨_, _, rfl⟩
theorem OwnF.rdCutG {lo sz : Nat} {mu : Mu} {av : AV} {xs : List (List AV)} (h : OwnF lo mu sz av xs) (w : rowsOk sz xs) (hf : ∀ r, r ∈ xs → ∀ c, c ∈ r → HF c) : Rd (cutM (fun i => decide (lo ≤ i)) mu 0) av (.lst false xs) := by
  obtain ⟨ho, hb, hl⟩ := h
  refine Own.rd (sz := sz) ?_ w hf
  rcases ho with rfl | ⟨b, rfl, hc⟩
  · exact .inl rfl
  · refine .inr ⟨b, rfl, ?_⟩
    rw [cutM_get, hc]
    simp [hb b _ _ _ rfl]
theorem MuLe.app {mu mu' : Mu} (h : MuLe mu mu') (c : List Cell) : MuLe mu (mu' ++ c) := fun b x hb => by
  have := h b x hb
  rw [List.getElem?_append_left (List.getElem?_eq_some_iff.1 this).1]; exact this
theorem MuLe.len {mu mu' : Mu} (h : MuLe mu mu') : mu.length ≤ mu'.length := by
  cases hm : mu.length with
  | zero => omega
  | succ n =>
    have h1 : mu[n]? = some mu[n] := List.getElem?_eq_getElem (by omega)
    have := (List.getElem?_eq_some_iff.1 (h n _ h1)).1
    omega
theorem MuLe.split : ∀ {low mu : Mu}, MuLe low mu → ∃ rest, mu = low ++ rest
  | [], mu, _ => ⟨mu, rfl⟩
  | c :: low, [], h => by have := h 0 c rfl; simp at this
  | c :: low, d :: mu, h => by
    have h0 := h 0 c rfl
    simp at h0
    subst h0
    obtain ⟨rest, hr⟩ := MuLe.split (low := low) (mu := mu) (fun b x hb => by have := h (b + 1) x (by simpa using hb); simpa using this)
    exact ⟨rest, by rw [hr]; rfl⟩
theorem MuLe.same {mu mu1 mu2 : Mu} (h : MuLe mu mu1) (hs : ∀ i, i < mu.length → mu2[i]? = mu1[i]?) : MuLe mu mu2 := fun b x hb => by
  rw [hs b (List.getElem?_eq_some_iff.1 hb).1]; exact h b x hb
theorem OwnF.muLe {lo sz : Nat} {mu mu' : Mu} {av : AV} {xs : List (List AV)} (h : OwnF lo mu sz av xs) (hm : MuLe mu mu') : OwnF lo mu' sz av xs := by
  obtain ⟨ho, hb, hl⟩ := h
  refine ⟨?_, hb, Nat.le_trans hl (MuLe.len hm)⟩
  rcases ho with rfl | ⟨b, rfl, hc⟩
  · exact .inl rfl
  · exact .inr ⟨b, rfl, hm _ _ hc⟩

/-! ### permute.Model -/
theorem mappedR (mu : Mu) (rs : List Rl) (fv : AV) (g : Rl → Rl) (hf : FnOkM Tryz.prog mu fv eRel (· ∈ rs) (fun r => eRel (g r))) (hl : rs.length ≤ 1000000000) : SoundM Tryz.prog 87 [lRel rs, fv] mu (lRel (rs.map g)) := by
  refine SoundM.of ?_
  refine Sound.of_awp Tryz.call87 Tryz.func87 rfl (Nat.le_of_ble_eq_true (by kernel_rfl)) (by kernel_rfl) (pl := {}) ?_
  simp [go_sem, show (rs.length : Int) ≤ 4294967296 by omega]
  refine LoopGo.keep (fun m st => ∃ k av, m = rs.length - k ∧ k ≤ rs.length ∧ st.tm 1 = fv ∧ st.tm 5 = av ∧ st.tm 11 = lRel rs ∧ st.tm 12 = aI rs.length ∧ st.tm 13 = aI (k : Nat) ∧ OwnF mu.length st.mu 2 av (((rs.take k).map g).map cRel) ∧ MuLe mu st.mu) rs.length ?_ ?_
  · refine ⟨0, _, by omega, by omega, by simp [go_sem], rfl, by simp [go_sem], by simp [go_sem], by simp [go_sem], ?_, ?_⟩
    · simp [go_sem]
      exact ⟨.inr ⟨mu.length, rfl, by simp⟩, fun b s o l e => by injection e; omega, by simp⟩
    · simp [go_sem]; exact MuLe.push _ _
  rintro m st ⟨k, av, rfl, hk, e1, e5, e11, e12, e13, ho, hm⟩
  by_cases hlt : k < rs.length
  · have htk : rs.take (k + 1) = rs.take k ++ [rs[k]] := by rw [List.take_add_one, List.getElem?_eq_getElem hlt]; rfl
    simp [go_sem, e1, e5, e11, e12, e13, hlt]
    refine FnOkM.call (enc := eRel) hf (List.getElem_mem hlt) (MuLe.app hm _) ?_
    intro mu1 hm1
    simp [go_sem, e1, e5, e11, e12, e13, hlt]
    refine AppendStep.ownF (lo := mu.length) (e := 64) (sz := 2) (bt := 32) (zv := .agg [aI 0, .lst true []]) (xs := ((rs.take k).map g).map cRel) (ys := [cRel (g rs[k])]) (by simp [go_sem]) (by simp [go_sem]) (by simp [go_sem]) rfl rfl (by omega) (by omega) (OwnF.muLe (OwnF.push ho _) hm1) (by simp [rowsOf]) (rows_cRel _) (rows_cRel [g rs[k]]) (by simp; omega) ?_
    intro av' mu' ho' hs'
    have hcat : ((rs.take k).map g).map cRel ++ [cRel (g rs[k])] = ((rs.take (k + 1)).map g).map cRel := by rw [htk, List.map_append, List.map_append]; rfl
    rw [hcat] at ho'
    simp [go_sem, e1, e5, e11, e12, e13, hlt]
    refine Keep.loop (rs.length - (k + 1)) (by omega) ⟨k + 1, av', rfl, by omega, by simp [go_sem, e1], by simp [go_sem], by simp [go_sem, e11], by simp [go_sem, e12], ?_, ho', (MuLe.same ((MuLe.app hm _).trans hm1) hs')⟩
    simp [go_sem]; exact wrap_i64 (by omega) (by omega)
  · have hge : k = rs.length := by omega
    subst hge
    simp [go_sem, e1, e5, e11, e12, e13]
    rw [List.take_length] at ho
    exact ⟨hm, OwnF.rdCutG ho (fun r hr => (rows_cRel _ r hr).1) (fun r hr c hc => by
      obtain ⟨n, _, rfl⟩ := List.mem_map.1 hr
      exact hf_cRel n c hc)⟩

theorem mappedS (mu : Mu) (rs : List (List Rl)) (fv : AV) (g : List Rl → List Rl) (hf : FnOkM Tryz.prog mu fv lRel (· ∈ rs) (fun r => lRel (g r))) (hl : rs.length ≤ 1000000000) : SoundM Tryz.prog 85 [lSt rs, fv] mu (lSt (rs.map g)) := by
  refine SoundM.of ?_
  refine Sound.of_awp Tryz.call85 Tryz.func85 rfl (Nat.le_of_ble_eq_true (by kernel_rfl)) (by kernel_rfl) (pl := {}) ?_
  simp [go_sem, show (rs.length : Int) ≤ 4294967296 by omega]
  refine LoopGo.keep (fun m st => ∃ k av, m = rs.length - k ∧ k ≤ rs.length ∧ st.tm 1 = fv ∧ st.tm 5 = av ∧ st.tm 11 = lSt rs ∧ st.tm 12 = aI rs.length ∧ st.tm 13 = aI (k : Nat) ∧ OwnF mu.length st.mu 1 av (((rs.take k).map g).map cSt) ∧ MuLe mu st.mu) rs.length ?_ ?_
  · refine ⟨0, _, by omega, by omega, by simp [go_sem], rfl, by simp [go_sem], by simp [go_sem], by simp [go_sem], ?_, ?_⟩
    · simp [go_sem]
      exact ⟨.inr ⟨mu.length, rfl, by simp⟩, fun b s o l e => by injection e; omega, by simp⟩
    · simp [go_sem]; exact MuLe.push _ _
  rintro m st ⟨k, av, rfl, hk, e1, e5, e11, e12, e13, ho, hm⟩
  by_cases hlt : k < rs.length
  · have htk : rs.take (k + 1) = rs.take k ++ [rs[k]] := by rw [List.take_add_one, List.getElem?_eq_getElem hlt]; rfl
    simp [go_sem, e1, e5, e11, e12, e13, hlt]
    refine FnOkM.call (enc := lRel) hf (List.getElem_mem hlt) hm ?_
    intro mu1 hm1
    simp [go_sem, e1, e5, e11, e12, e13, hlt]
    refine AppendStep.ownF (lo := mu.length) (e := 69) (sz := 1) (bt := 24) (zv := .lst true []) (xs := ((rs.take k).map g).map cSt) (ys := [cSt (g rs[k])]) (by simp [go_sem]) (by simp [go_sem]) (by simp [go_sem]) rfl rfl (by omega) (by omega) (OwnF.muLe ho hm1) (by simp [rowsOf]) (rows_cSt _) (rows_cSt [g rs[k]]) (by simp; omega) ?_
    intro av' mu' ho' hs'
    have hcat : ((rs.take k).map g).map cSt ++ [cSt (g rs[k])] = ((rs.take (k + 1)).map g).map cSt := by rw [htk, List.map_append, List.map_append]; rfl
    rw [hcat] at ho'
    simp [go_sem, e1, e5, e11, e12, e13, hlt]
    refine Keep.loop (rs.length - (k + 1)) (by omega) ⟨k + 1, av', rfl, by omega, by simp [go_sem, e1], by simp [go_sem], by simp [go_sem, e11], by simp [go_sem, e12], ?_, ho', (MuLe.same (hm.trans hm1) hs')⟩
    simp [go_sem]; exact wrap_i64 (by omega) (by omega)
  · have hge : k = rs.length := by omega
    subst hge
    simp [go_sem, e1, e5, e11, e12, e13]
    rw [List.take_length] at ho
    exact ⟨hm, OwnF.rdCutG ho (fun r hr => (rows_cSt _ r hr).1) (fun r hr c hc => by
      obtain ⟨n, _, rfl⟩ := List.mem_map.1 hr
      simp at hc; subst hc; exact hf_lRel _)⟩

def okRel (r : Rl) : Prop := 0 ≤ r.ar ∧ r.ar ≤ 3 ∧ r.ts.length ≤ 1000000000 ∧ ∀ t, t ∈ r.ts → 0 ≤ t ∧ t ≤ 1000000
theorem model11 (mu : Mu) (b : Nat) (m : Md) (p : List Int) (r : Rl) (g : ∀ t, t ∈ r.ts → GP p) (hr : okRel r) (hb : mu[b]? = some (.arr (cMd m))) : SoundM Tryz.prog 88 [eRel r, .ptr b 0, .ip [lI p]] mu (eRel (relImg p r)) := by
  refine SoundM.of ?_
  refine Sound.of_awp Tryz.call88 Tryz.func88 rfl (Nat.le_of_ble_eq_true (by kernel_rfl)) (by kernel_rfl) (pl := {}) ?_
  have hbl : b < mu.length := (List.getElem?_eq_some_iff.1 hb).1
  simp [go_sem, hb, List.getElem?_append_left hbl]
  refine CallStep.pure (relPg m.sc p r g hr.1 hr.2.1 hr.2.2.1 hr.2.2.2) (.cons (.hf (hf_eSc _)) (.cons (.hf (hf_lI _)) (.cons (.hf (hf_eRel _)) .nil))) ?_
  simp [go_sem]
  exact ⟨MuLe.push _ _, .hf _ (hf_eRel _)⟩
theorem model1 (mu : Mu) (b : Nat) (m : Md) (p : List Int) (s : List Rl) (g : ∀ r, r ∈ s → ∀ t, t ∈ r.ts → GP p) (hs : ∀ r, r ∈ s → okRel r) (hl : s.length ≤ 1000000000) (hb : mu[b]? = some (.arr (cMd m))) : SoundM Tryz.prog 86 [lRel s, .ptr b 0, .ip [lI p]] mu (lRel (s.map (relImg p))) := by
  refine SoundM.of ?_
  refine Sound.of_awp Tryz.call86 Tryz.func86 rfl (Nat.le_of_ble_eq_true (by kernel_rfl)) (by kernel_rfl) (pl := {}) ?_
  simp [go_sem]
  refine CallStep.mem (caps := []) (mappedR mu s _ (relImg p) ⟨_, _, rfl, fun r hr mu' hm => model11 mu' b m p r (g r hr) (hs r hr) (hm _ _ hb)⟩ hl) ?_
  intro mu1 hm1
  simp [go_sem]
  exact ⟨hm1, .hf _ (hf_lRel _)⟩
def mdImg (p : List Int) (m : Md) : Md := ⟨m.sc, m.states.map fun s => s.map (relImg p), m.loop⟩
structure okMd (m : Md) : Prop where
  ns : m.states.length ≤ 1000000000
  nf : ∀ s, s ∈ m.states → s.length ≤ 1000000000
  rel : ∀ s, s ∈ m.states → ∀ r, r ∈ s → okRel r
theorem modelU (m : Md) (p : List Int) (g : ∀ s, s ∈ m.states → ∀ r, r ∈ s → ∀ t, t ∈ r.ts → GP p) (hm : okMd m) : SoundP Tryz.prog 58 [lI p, eMd m] (eMd (mdImg p m)) := by
  refine SoundP.of_sound (Sound.of_awp Tryz.call58 Tryz.func58 rfl (Nat.le_of_ble_eq_true (by kernel_rfl)) (by kernel_rfl) (pl := { mt := [3] }) ?_)
  simp [go_sem]
  refine CallStep.mem (caps := []) (mappedS _ m.states _ (fun s => s.map (relImg p)) ⟨_, _, rfl, fun s hs mu' hmu => model1 mu' 0 m p s (g s hs) (hm.rel s hs) (hm.nf s hs) (hmu _ _ rfl)⟩ hm.ns) ?_
  intro mu1 hm1
  obtain ⟨rest, rfl⟩ := MuLe.split hm1
  simp [go_sem]
  have e : lSt (mdImg p m).states = AV.lst false (List.map (cSt ∘ fun s => List.map (relImg p) s) m.states) := by
    show AV.lst false ((m.states.map _).map cSt) = _
    rw [List.map_map]
  rw [← e]
  exact .hf _ (hf_eMd (mdImg p m))
end Go.Proofs.YtfniceomhfebhaaGreat.M2

/-
  The data of the claims: models.
-/
set_option linter.unusedVariables false
set_option linter.unusedSimpArgs false
namespace Go.Proofs.YtfniceomhfebhaaGreat.D2
open Go Go.Ev Go.Proofs D M2

instance : Inhabited Sc := ⟨⟨[], 0⟩⟩
instance : Inhabited Md := ⟨⟨default, [], 0⟩⟩
theorem unRels : Tryz.prog.underlying 69 = some (.slice 64) := by kernel_rfl
theorem unStates : Tryz.prog.underlying 32 = some (.slice 69) := by kernel_rfl
theorem shRels (N : Nat) : ShU Tryz.prog N 69 (fun b : List Rl => [lRel b]) (fun b => b.length ≤ maxLen ∧ ∀ x, x ∈ b → okRl x) :=
  (ShU.slice unRels (shRel N) (fun _ _ => by kernel_rfl) (Nat.lt_of_lt_of_eq (show 0 < 2 by omega) (by kernel_rfl))).le (by omega)
theorem shStates (N : Nat) : ShU Tryz.prog N 32 (fun b : List (List Rl) => [lSt b]) (fun b => b.length ≤ maxLen ∧ ∀ x, x ∈ b → (x.length ≤ maxLen ∧ ∀ y, y ∈ x → okRl y)) :=
  (ShU.slice unStates (shRels N) (fun _ _ => by kernel_rfl) (Nat.lt_of_lt_of_eq (show 0 < 1 by omega) (by kernel_rfl))).le (by omega)
structure okMdA (m : Md) : Prop where
  sc : okSc m.sc
  st : m.states.length ≤ maxLen ∧ ∀ x, x ∈ m.states → (x.length ≤ maxLen ∧ ∀ y, y ∈ x → okRl y)
  lp : okI m.loop
theorem shModel (N : Nat) : ShU Tryz.prog N 34 cMd okMdA :=
  ((ShU.struct (fs := [(31, 0), (32, 2), (3, 3)]) (by kernel_rfl) (.cons' (o' := 2) (by kernel_rfl) (shScope N) (.cons' (o' := 3) (by kernel_rfl) (shStates N) (.cons' (o' := 4) (by kernel_rfl) (shInt N) (.nil 4)))) (by kernel_rfl)).map
    (fun x => (⟨x.1, x.2.1, x.2.2.1⟩ : Md)) (fun _ => rfl) (fun x h => ⟨h.1, h.2.1, h.2.2.1⟩)).le (by omega)
theorem aModel : ArgSh Tryz.prog 34 eMd okMdA := ArgSh.struct (by kernel_rfl) shModel
end Go.Proofs.YtfniceomhfebhaaGreat.D2

set_option linter.unusedVariables false
set_option linter.unusedSimpArgs false
set_option maxRecDepth 100000
namespace Go.Proofs.YtfniceomhfebhaaGreat.M3
open Go Go.Ev Go.Proofs C1 C2 C3 C4 C5 C6 C7 C8 C9 C10 C11 C12 C13 C14 C15 C16 C17 C18 C19 C20 C21 C22 C23 C24 C25 C26 C27 C28 C29 C30 C31 C32 C33 C34 C35 M1 M2

/-! ### model.Equal -/
def FnOkB (P : Program) (fv : AV) {α : Type} (enc : α → AV) (ok : α → α → Prop) (p : α → α → Bool) : Prop :=
  HF fv ∧ ∃ fid caps, fv = .fn (.func fid) [] caps ∧ ∀ x y, ok x y → ∃ args', WKs ([enc x, enc y] ++ caps) args' ∧ SoundP P fid args' (aB (p x y))
theorem FnOkB.call {P : Program} {fv : AV} {α : Type} {enc : α → AV} {ok : α → α → Prop} {p : α → α → Bool} (h : FnOkB P fv enc ok p) {x y : α} (hx : ok x y) {det : Bool} {mu : Mu} {K Kp : AV → Mu → Prop} (k : K (aB (p x y)) mu) : CallStep P det mu fv [enc x, enc y] K Kp := by
  obtain ⟨_, fid, caps, rfl, h⟩ := h
  obtain ⟨args', h1, h2⟩ := h x y hx
  exact .inl ⟨_, .inl ⟨fid, [], caps, args', rfl, h2, .inl (by simpa using h1)⟩, k⟩
def allEq {α : Type} (p : α → α → Bool) : List α → List α → Bool
  | x :: xs, y :: ys => p x y && allEq p xs ys
  | [], [] => true
  | _, _ => false
theorem allEq_len {α : Type} (p : α → α → Bool) : ∀ (xs ys : List α), xs.length ≠ ys.length → allEq p xs ys = false
  | [], [], h => absurd rfl h
  | [], _ :: _, _ => rfl
  | _ :: _, [], _ => rfl
  | x :: xs, y :: ys, h => by
    rw [allEq, allEq_len p xs ys (by simpa using h), Bool.and_false]
theorem allEq_drop {α : Type} (p : α → α → Bool) (xs ys : List α) (k : Nat) (h1 : k < xs.length) (h2 : k < ys.length) : allEq p (xs.drop k) (ys.drop k) = (p xs[k] ys[k] && allEq p (xs.drop (k + 1)) (ys.drop (k + 1))) := by
  rw [List.drop_eq_getElem_cons h1, List.drop_eq_getElem_cons h2, allEq]
theorem equalFuncR (xs ys : List Rl) (fv : AV) (p : Rl → Rl → Bool) (hf : FnOkB Tryz.prog fv eRel (fun x y => x ∈ xs ∧ y ∈ ys) p) (hl : xs.length ≤ 1000000000) :
    SoundP Tryz.prog 92 [lRel xs, lRel ys, fv] (aB (allEq p xs ys)) := by
  refine SoundP.of_sound (Sound.of_awp Tryz.call92 Tryz.func92 rfl (Nat.le_of_ble_eq_true (by kernel_rfl)) (by kernel_rfl) (pl := {}) ?_)
  simp [go_sem]
  by_cases hne : xs.length = ys.length
  rotate_left
  · simp [go_sem, hne, allEq_len p xs ys hne]
    exact .hf _ (HF.sc _)
  simp [go_sem, hne]
  refine LoopGo.up xs.length (fun k st => st.tm 1 = lRel ys ∧ st.tm 2 = fv ∧ st.tm 15 = lRel xs ∧ st.tm 16 = aI xs.length ∧ st.tm 17 = aI k ∧ allEq p (xs.drop k) (ys.drop k) = allEq p xs ys) ?_ ?_
  · simp [go_sem, hne]
  rintro k st hk ⟨e1, e2, e15, e16, e17, hi⟩
  by_cases hlt : k < xs.length
  · have hlt2 : k < ys.length := by omega
    rw [allEq_drop p xs ys k hlt hlt2] at hi
    simp [go_sem, e1, e2, e15, e16, e17, hlt, hlt2]
    refine FnOkB.call (enc := eRel) hf ⟨List.getElem_mem hlt, List.getElem_mem hlt2⟩ ?_
    cases hp : p xs[k] ys[k] with
    | true =>
      rw [hp, Bool.true_and] at hi
      simp [go_sem, e1, e2, e15, e16, e17, hlt, hlt2]
      exact ⟨wrap_i64 (by omega) (by omega), hi⟩
    | false =>
      rw [hp, Bool.false_and] at hi
      simp [go_sem, e1, e2, e15, e16, e17, hlt, hlt2]
      rw [← hi]
      exact .hf _ (HF.sc _)
  · have hge : k = xs.length := by omega
    subst hge
    rw [List.drop_length, hne, List.drop_length] at hi
    simp [go_sem, e1, e2, e15, e16, e17]
    rw [← hi]
    exact .hf _ (HF.sc _)
theorem equalFuncS (xs ys : List (List Rl)) (fv : AV) (p : List Rl → List Rl → Bool) (hf : FnOkB Tryz.prog fv lRel (fun x y => x ∈ xs ∧ y ∈ ys) p) (hl : xs.length ≤ 1000000000) :
    SoundP Tryz.prog 63 [lSt xs, lSt ys, fv] (aB (allEq p xs ys)) := by
  refine SoundP.of_sound (Sound.of_awp Tryz.call63 Tryz.func63 rfl (Nat.le_of_ble_eq_true (by kernel_rfl)) (by kernel_rfl) (pl := {}) ?_)
  simp [go_sem]
  by_cases hne : xs.length = ys.length
  rotate_left
  · simp [go_sem, hne, allEq_len p xs ys hne]
    exact .hf _ (HF.sc _)
  simp [go_sem, hne]
  refine LoopGo.up xs.length (fun k st => st.tm 1 = lSt ys ∧ st.tm 2 = fv ∧ st.tm 15 = lSt xs ∧ st.tm 16 = aI xs.length ∧ st.tm 17 = aI k ∧ allEq p (xs.drop k) (ys.drop k) = allEq p xs ys) ?_ ?_
  · simp [go_sem, hne]
  rintro k st hk ⟨e1, e2, e15, e16, e17, hi⟩
  by_cases hlt : k < xs.length
  · have hlt2 : k < ys.length := by omega
    rw [allEq_drop p xs ys k hlt hlt2] at hi
    simp [go_sem, e1, e2, e15, e16, e17, hlt, hlt2]
    refine FnOkB.call (enc := lRel) hf ⟨List.getElem_mem hlt, List.getElem_mem hlt2⟩ ?_
    cases hp : p xs[k] ys[k] with
    | true =>
      rw [hp, Bool.true_and] at hi
      simp [go_sem, e1, e2, e15, e16, e17, hlt, hlt2]
      exact ⟨wrap_i64 (by omega) (by omega), hi⟩
    | false =>
      rw [hp, Bool.false_and] at hi
      simp [go_sem, e1, e2, e15, e16, e17, hlt, hlt2]
      rw [← hi]
      exact .hf _ (HF.sc _)
  · have hge : k = xs.length := by omega
    subst hge
    rw [List.drop_length, hne, List.drop_length] at hi
    simp [go_sem, e1, e2, e15, e16, e17]
    rw [← hi]
    exact .hf _ (HF.sc _)

theorem allEq_dec {α : Type} [DecidableEq α] : ∀ (xs ys : List α), allEq (fun x y => decide (x = y)) xs ys = decide (xs = ys)
  | [], [] => rfl
  | [], _ :: _ => rfl
  | _ :: _, [] => rfl
  | x :: xs, y :: ys => by
    rw [allEq, allEq_dec xs ys, Bool.eq_iff_iff]
    simp
theorem hf_fn0 (f : FuncId) : HF (.fn (.func f) [] []) := HF.fn (fun c hc => by simp at hc) (fun c hc => by simp at hc)
theorem sameU (xs ys : List Rl) (hl : xs.length ≤ 1000000000) (ht : ∀ r, r ∈ xs → r.ts.length ≤ 1000000000) : SoundP Tryz.prog 64 [lRel xs, lRel ys] (aB (decide (xs = ys))) := by
  refine SoundP.of_sound (Sound.of_awp Tryz.call64 Tryz.func64 rfl (Nat.le_of_ble_eq_true (by kernel_rfl)) (by kernel_rfl) (pl := {}) ?_)
  simp [go_sem]
  refine CallStep.pure (equalFuncR xs ys _ (fun x y => decide (x = y)) ⟨hf_fn0 _, _, _, rfl, fun x y hxy => ⟨[eRel x, eRel y], by simpa using WKs.cons (.hf (hf_eRel x)) (.cons (.hf (hf_eRel y)) .nil), equalR x y (by have := ht x hxy.1; omega)⟩⟩ hl) (.cons (.hf (hf_lRel _)) (.cons (.hf (hf_lRel _)) (.cons (.hf (hf_fn0 _)) .nil))) ?_
  rw [allEq_dec]
  simp [go_sem]
  exact .hf _ (HF.sc _)
structure smMd (m : Md) : Prop where
  na : m.sc.atoms.length ≤ 1000000000
  ns : m.states.length ≤ 1000000000
  nf : ∀ s, s ∈ m.states → s.length ≤ 1000000000
  nt : ∀ s, s ∈ m.states → ∀ r, r ∈ s → r.ts.length ≤ 1000000000
instance : DecidableEq Sc := fun a b => decidable_of_iff (a.atoms = b.atoms ∧ a.steps = b.steps) (by
  obtain ⟨a1, a2⟩ := a
  obtain ⟨b1, b2⟩ := b
  simp)
instance : DecidableEq Md := fun a b => decidable_of_iff (a.sc = b.sc ∧ a.states = b.states ∧ a.loop = b.loop) (by
  obtain ⟨a1, a2, a3⟩ := a
  obtain ⟨b1, b2, b3⟩ := b
  simp)
theorem equalMd (a b : Md) : decide (a = b) = (decide (a.sc.atoms = b.sc.atoms) && decide (a.sc.steps = b.sc.steps) && decide (a.loop = b.loop) && decide (a.states = b.states)) := by
  obtain ⟨⟨a1, a2⟩, a3, a4⟩ := a
  obtain ⟨⟨b1, b2⟩, b3, b4⟩ := b
  rw [Bool.eq_iff_iff]
  simp
  constructor
  · rintro ⟨⟨h1, h2⟩, h3, h4⟩; exact ⟨⟨⟨h1, h2⟩, h4⟩, h3⟩
  · rintro ⟨⟨⟨h1, h2⟩, h4⟩, h3⟩; exact ⟨⟨h1, h2⟩, h3, h4⟩
theorem modelEqual (a b : Md) (ha : smMd a) : SoundP Tryz.prog 38 [eMd a, eMd b] (aB (decide (a = b))) := by
  refine SoundP.of_sound (Sound.of_awp Tryz.call38 Tryz.func38 rfl (Nat.le_of_ble_eq_true (by kernel_rfl)) (by kernel_rfl) (pl := {}) ?_)
  rw [equalMd]
  simp [go_sem]
  refine CallStep.pure (equalI _ _ (by have := ha.na; omega)) (.cons (.hf (hf_lI _)) (.cons (.hf (hf_lI _)) .nil)) ?_
  by_cases h1 : a.sc.atoms = b.sc.atoms
  · by_cases h2 : a.sc.steps = b.sc.steps
    · by_cases h3 : a.loop = b.loop
      · simp [go_sem, h1, h2, h3]
        refine CallStep.pure (equalFuncS a.states b.states _ (fun x y => decide (x = y)) ⟨hf_fn0 _, _, _, rfl, fun x y hxy => ⟨[lRel x, lRel y], by simpa using WKs.cons (.hf (hf_lRel x)) (.cons (.hf (hf_lRel y)) .nil), sameU x y (ha.nf x hxy.1) (ha.nt x hxy.1)⟩⟩ ha.ns) (.cons (.hf (hf_lSt _)) (.cons (.hf (hf_lSt _)) (.cons (.hf (hf_fn0 _)) .nil))) ?_
        rw [allEq_dec]
        simp [go_sem]
        exact .hf _ (HF.sc _)
      · simp [go_sem, h1, h2, h3]
        exact .hf _ (HF.sc _)
    · simp [go_sem, h1, h2]
      exact .hf _ (HF.sc _)
  · simp [go_sem, h1]
    exact .hf _ (HF.sc _)
end Go.Proofs.YtfniceomhfebhaaGreat.M3

set_option linter.unusedVariables false
set_option linter.unusedSimpArgs false
set_option maxRecDepth 100000
namespace Go.Proofs.YtfniceomhfebhaaGreat.M4
open Go Go.Ev Go.Proofs C1 C2 C3 C4 C5 C6 C7 C8 C9 C10 C11 C12 C13 C14 C15 C16 C17 C18 C19 C20 C21 C22 C23 C24 C25 C26 C27 C28 C29 C30 C31 C32 C33 C34 C35 M1 M2 M3

/-! ### bounds.Free -/
abbrev eBd (b : Bd) : AV := .agg (cBd b)
theorem hf_cBd (b : Bd) : ∀ c, c ∈ cBd b → HF c := by
  intro c hc
  simp at hc
  rcases hc with rfl | rfl | rfl | rfl
  · exact HF.sc _
  · exact hf_lI _
  · exact HF.sc _
  · exact hf_lI _
theorem hf_eBd (b : Bd) : HF (eBd b) := HF.agg (hf_cBd b)
theorem undetU (x : Bd) : SoundP Tryz.prog 74 [eBd x] (.fn (.func 98) [] [.ip (cBd x)]) := by
  refine SoundP.of_sound (Sound.of_awp Tryz.call74 Tryz.func74 rfl (Nat.le_of_ble_eq_true (by kernel_rfl)) (by kernel_rfl) (pl := {}) ?_)
  simp [go_sem]
  refine .hf _ (HF.fn (fun c hc => by simp at hc) (fun c hc => ?_))
  simp at hc; subst hc; exact HF.ip (hf_cBd x)

def freeTs (x : Bd) : List Int := x.up.ts.filter fun t => !decide (t ∈ x.lo.ts)
theorem filter_take_get {α : Type} (p : α → Bool) (l : List α) (k : Nat) (h : k < l.length) (hp : p l[k] = true) : (l.filter p)[((l.take k).filter p).length]? = some l[k] := by
  have e : l = l.take k ++ l[k] :: l.drop (k + 1) := by
    rw [← List.drop_eq_getElem_cons h, List.take_append_drop]
  have e2 : l.filter p = (l.take k).filter p ++ l[k] :: (l.drop (k + 1)).filter p := by
    conv => lhs; rw [e]
    rw [List.filter_append, List.filter_cons, if_pos hp]
  rw [e2, List.getElem?_append_right (Nat.le_refl _)]
  simp
theorem filter_take_succ {α : Type} (p : α → Bool) (l : List α) (k : Nat) (h : k < l.length) : ((l.take (k + 1)).filter p).length = ((l.take k).filter p).length + (if p l[k] = true then 1 else 0) := by
  rw [List.take_add_one, List.getElem?_eq_getElem h, List.filter_append]
  cases hp : p l[k] <;> simp [hp]

theorem undet_iter (x : Bd) (hl : x.up.ts.length ≤ 1000000000) (hl2 : x.lo.ts.length ≤ 1000000000) (hs : x.lo.ts.Pairwise (· ≤ ·)) : IterOk Tryz.prog 98 [.ip (cBd x)] ((freeTs x).map fun t => [aI t]) := by
  refine IterOk.of Tryz.call98 fun i I Ix hS hX hY mu h0 => ?_
  refine Sound.of_awp Tryz.call98 Tryz.func98 rfl (Nat.le_of_ble_eq_true (by kernel_rfl)) (by kernel_rfl) (pl := {}) ?_
  simp [go_sem]
  refine LoopGo.keep (fun m st => ∃ k, m = x.up.ts.length - k ∧ k ≤ x.up.ts.length ∧ st.tm 0 = .yl i ∧ st.tm 1 = .ip (cBd x) ∧ st.tm 9 = lI x.up.ts ∧ st.tm 10 = aI x.up.ts.length ∧ st.tm 11 = aI (k : Nat) ∧ I ((x.up.ts.take k).filter fun t => !decide (t ∈ x.lo.ts)).length st.mu) x.up.ts.length ?_ ?_
  · exact ⟨0, by omega, by omega, by simp [go_sem], by simp [go_sem], by simp [go_sem], by simp [go_sem], by simp [go_sem], by simpa [go_sem] using h0⟩
  rintro m st ⟨k, rfl, hk, e0, e1, e9, e10, e11, hI⟩
  by_cases hlt : k < x.up.ts.length
  · simp [go_sem, e0, e1, e9, e10, e11, hlt]
    refine CallStep.pure (binU x.lo.ts x.up.ts[k] hl2 hs) (.cons (.hf (hf_lI _)) (.cons (.hf (HF.sc _)) .nil)) ?_
    have hsucc := filter_take_succ (fun t => !decide (t ∈ x.lo.ts)) x.up.ts k hlt
    by_cases hin : x.up.ts[k] ∈ x.lo.ts
    · simp [go_sem, e0, e1, e9, e10, e11, hlt, hin]
      rw [if_neg (by simpa using hin), Nat.add_zero] at hsucc
      refine Keep.loop (x.up.ts.length - (k + 1)) (by omega) ⟨k + 1, rfl, by omega, by simp [go_sem, e0], by simp [go_sem, e1], by simp [go_sem, e9], by simp [go_sem, e10], ?_, ?_⟩
      · simp [go_sem]; exact wrap_i64 (by omega) (by omega)
      · rw [hsucc]; simpa [go_sem] using hI
    · simp [go_sem, e0, e1, e9, e10, e11, hlt, hin]
      rw [if_pos (by simpa using hin)] at hsucc
      have hget : ((freeTs x).map fun t => [aI t])[((x.up.ts.take k).filter fun t => !decide (t ∈ x.lo.ts)).length]? = some [aI x.up.ts[k]] := by
        rw [List.getElem?_map, freeTs, filter_take_get _ _ k hlt (by simpa using hin)]; rfl
      refine CallStep.yield (hY _ _ _ hget hI) ?_
      rintro b mu' (⟨rfl, hI'⟩ | ⟨rfl, hx'⟩)
      · simp [go_sem, e0, e1, e9, e10, e11, hlt, hin]
        refine Keep.loop (x.up.ts.length - (k + 1)) (by omega) ⟨k + 1, rfl, by omega, by simp [go_sem, e0], by simp [go_sem, e1], by simp [go_sem, e9], by simp [go_sem, e10], ?_, ?_⟩
        · simp [go_sem]; exact wrap_i64 (by omega) (by omega)
        · rw [hsucc]; simpa [go_sem] using hI'
      · simp [go_sem, e0, e1, e9, e10, e11, hlt, hin]
        exact .inr hx'
  · have hge : k = x.up.ts.length := by omega
    subst hge
    rw [List.take_length] at hI
    simp [go_sem, e0, e1, e9, e10, e11]
    exact .inl hI

def freeAt (k : Nat) (x : Bd) : List (Int × Int) := (freeTs x).map fun t => ((k : Int), t)
def freeL : List Bd → Nat → List (Int × Int)
  | [], _ => []
  | x :: l, k => freeAt k x ++ freeL l (k + 1)
theorem freeL_app : ∀ (l m : List Bd) (k : Nat), freeL (l ++ m) k = freeL l k ++ freeL m (k + l.length)
  | [], m, k => by simp [freeL]
  | x :: l, m, k => by
    rw [List.cons_append, freeL, freeL, freeL_app l m (k + 1), List.append_assoc]
    have : k + 1 + l.length = k + (x :: l).length := by simp; omega
    rw [this]
theorem freeL_succ (l : List Bd) (k : Nat) (h : k < l.length) : freeL (l.take (k + 1)) 0 = freeL (l.take k) 0 ++ freeAt k l[k] := by
  rw [List.take_add_one, List.getElem?_eq_getElem h]
  show freeL (l.take k ++ [l[k]]) 0 = _
  rw [freeL_app]
  have : (l.take k).length = k := by simp; omega
  rw [this, Nat.zero_add]
  simp [freeL]
structure okFree (x : Bd) : Prop where
  up : x.up.ts.length ≤ 1000000
  lo : x.lo.ts.length ≤ 1000000
  sorted : x.lo.ts.Pairwise (· ≤ ·)
theorem freeL_len : ∀ (l : List Bd) (k : Nat), (∀ x, x ∈ l → okFree x) → (freeL l k).length ≤ l.length * 1000000
  | [], k, _ => by simp [freeL]
  | x :: l, k, h => by
    have h1 := freeL_len l (k + 1) (fun y hy => h y (by simp [hy]))
    have h2 : (freeAt k x).length ≤ 1000000 := by
      rw [freeAt, List.length_map]
      exact Nat.le_trans (List.length_filter_le _ _) (h x (by simp)).up
    simp only [freeL, List.length_append, List.length_cons]
    omega
theorem Own.rdP2 {mu : Mu} {av : AV} {xs : List (Int × Int)} (h : Own mu 2 av (xs.map rP)) : Rd mu av (lP xs) :=
  h.rd (rows_rP xs).ok fun r hr c hc => by
    obtain ⟨n, _, rfl⟩ := List.mem_map.1 hr
    simp at hc
    rcases hc with rfl | rfl <;> exact HF.sc _
theorem freeU (bs : List Bd) (hl : bs.length ≤ 1000) (hb : ∀ x, x ∈ bs → okFree x) : SoundP Tryz.prog 50 [lBd bs] (lP (freeL bs 0)) := by
  refine SoundP.of_sound (Sound.of_awp Tryz.call50 Tryz.func50 rfl (Nat.le_of_ble_eq_true (by kernel_rfl)) (by kernel_rfl) (pl := {}) ?_)
  simp [go_sem]
  refine LoopGo.keep (fun m st => ∃ k av rest, m = bs.length - k ∧ k ≤ bs.length ∧ st.tm 3 = .ptr 0 0 ∧ st.tm 7 = lBd bs ∧ st.tm 8 = aI bs.length ∧ st.tm 9 = aI (k : Nat) ∧ st.mu = .arr [av] :: rest ∧ Own st.mu 2 av ((freeL (bs.take k) 0).map rP) ∧ blkOf av ≠ some 0) bs.length ?_ ?_
  · refine ⟨0, .lst true [], [], by omega, by omega, by simp [go_sem], by simp [go_sem], by simp [go_sem], by simp [go_sem], by simp [go_sem], ?_, by simp [blkOf]⟩
    simp [go_sem, freeL]
    exact .inl rfl
  rintro m st ⟨k, av, rest, rfl, hk, e3, e7, e8, e9, hm, ho, hn0⟩
  by_cases hlt : k < bs.length
  · have hx := hb _ (List.getElem_mem hlt)
    have hlen : (freeL (bs.take (k + 1)) 0).length ≤ 1000000000 := by
      have := freeL_len (bs.take (k + 1)) 0 (fun y hy => hb y (List.mem_of_mem_take hy))
      have h2 : (bs.take (k + 1)).length ≤ 1000 := by simp; omega
      have h3 := Nat.mul_le_mul_right 1000000 h2
      omega
    have hsucc := freeL_succ bs k hlt
    rw [hm] at ho
    have hnc : blkOf av ≠ some (rest.length + 1) := fun h => by have := Own.lt ho h; simp at this
    simp [go_sem, e3, e7, e8, e9, hm, hlt]
    refine CallStep.pure (undetU bs[k]) (.cons (.hf (hf_eBd _)) .nil) ?_
    simp [go_sem, e3, e7, e8, e9, hm, hlt]
    refine RangeGo.keep (undet_iter bs[k] (by have := hx.up; omega) (by have := hx.lo; omega) hx.sorted) (fun j M => ∃ av rest2, M = .arr [av] :: rest2 ∧ M[rest.length + 1]? = some (.arr [aI k]) ∧ Own M 2 av ((freeL (bs.take k) 0 ++ (freeAt k bs[k]).take j).map rP) ∧ blkOf av ≠ some 0 ∧ blkOf av ≠ some (rest.length + 1)) (fun _ _ => False) ?_ ?_ ?_ ?_ ?_ ?_
    · refine ⟨av, _, by simp only [put_mu, List.cons_append]; rfl, by simp [go_sem], ?_, hn0, hnc⟩
      have := Own.push ho [Cell.arr [aI k], Cell.arr (cBd bs[k]), .dead]
      simpa [go_sem] using this
    · rintro j M ⟨av, rest2, rfl, h1, h2, h3, h4⟩
      exact ⟨av, rest2 ++ [.dead], rfl, by rw [List.getElem?_append_left (List.getElem?_eq_some_iff.1 h1).1]; exact h1, Own.push h2 _, h3, h4⟩
    · intro e M h; exact h
    · rintro j x M hj ⟨av, rest2, rfl, h1, h2, h3, h4⟩
      rw [List.getElem?_map, Option.map_eq_some_iff] at hj
      obtain ⟨t, ht, rfl⟩ := hj
      have hjl : j < (freeTs bs[k]).length := (List.getElem?_eq_some_iff.1 ht).1
      have hfa : (freeAt k bs[k]).take (j + 1) = (freeAt k bs[k]).take j ++ [((k : Int), t)] := by
        rw [List.take_add_one]
        have : (freeAt k bs[k])[j]? = some ((k : Int), t) := by rw [freeAt, List.getElem?_map, ht]; rfl
        rw [this]; rfl
      have hlj : (freeL (bs.take k) 0 ++ (freeAt k bs[k]).take j).length ≤ 1000000000 := by
        have : (freeL (bs.take k) 0 ++ (freeAt k bs[k]).take j).length ≤ (freeL (bs.take (k + 1)) 0).length := by
          rw [hsucc, List.length_append, List.length_append, List.length_take]; omega
        omega
      refine ⟨rfl, ?_⟩
      have hcl := (List.getElem?_eq_some_iff.1 h1).1
      have h1' := h1
      simp at h1'
      simp [go_sem, e3, e7, e8, e9, h1']
      refine AppendStep.ownB (e := 91) (sz := 2) (bt := 16) (zv := .agg [aI 0, aI 0]) (xs := (freeL (bs.take k) 0 ++ (freeAt k bs[k]).take j).map rP) (ys := [rP ((k : Int), t)]) (by simp [go_sem]) (by simp [go_sem]) (by simp [go_sem]) rfl rfl (by omega) (by omega) h2 (by simp [rowsOf]) (rows_rP _) (rows_rP [((k : Int), t)]) (by simp at hlj ⊢; omega) ?_
      intro av' mu' ho' hs' hb' hl'
      have hm0 := hs' 0 (by simp) h3
      have hmc := hs' (rest.length + 1) hcl h4
      rw [h1] at hmc
      obtain ⟨rest3, rfl⟩ : ∃ rest3, mu' = .arr [av] :: rest3 := by
        cases mu' with
        | nil => simp at hm0
        | cons c r => simp at hm0; exact ⟨r, by rw [hm0]⟩
      have hn0' : blkOf av' ≠ some 0 := fun h => by have := hb' _ h; simp at this
      have hnc' : blkOf av' ≠ some (rest.length + 1) := fun h => by have := hb' _ h; omega
      have ho2 := Own.set ho' (i := 0) (.arr [av']) hn0'
      have hcat : (freeL (bs.take k) 0 ++ (freeAt k bs[k]).take j).map rP ++ [rP ((k : Int), t)] = (freeL (bs.take k) 0 ++ (freeAt k bs[k]).take (j + 1)).map rP := by
        rw [hfa, ← List.append_assoc, List.map_append (l₂ := [((k : Int), t)])]; rfl
      rw [hcat] at ho2
      simp [go_sem, e3, e7, e8, e9, h1', Own.one ho', Own.cells ho']
      exact KeepM.intro ⟨av', rest3, rfl, by simpa using hmc, by simpa using ho2, hn0', hnc'⟩
    · rintro M ⟨av, rest2, rfl, h1, h2, h3, h4⟩
      have hfull : (freeAt k bs[k]).take ((freeTs bs[k]).map fun t => [aI t]).length = freeAt k bs[k] := by
        rw [List.length_map, List.take_of_length_le (by rw [freeAt, List.length_map]; exact Nat.le_refl _)]
      rw [hfull, ← hsucc] at h2
      simp [go_sem, e3, e7, e8, e9]
      refine Keep.loop (bs.length - (k + 1)) (by omega) ⟨k + 1, av, rest2, rfl, by omega, by simp [go_sem, e3], by simp [go_sem, e7], by simp [go_sem, e8], ?_, by simp [go_sem], by simpa [go_sem] using h2, h3⟩
      simp [go_sem]; exact wrap_i64 (by omega) (by omega)
    · intro e M h; exact h.elim
  · have hge : k = bs.length := by omega
    subst hge
    rw [List.take_length, hm] at ho
    simp [go_sem, e3, e7, e8, e9, hm]
    exact Own.rdP2 ho
end Go.Proofs.YtfniceomhfebhaaGreat.M4

set_option linter.unusedVariables false
set_option linter.unusedSimpArgs false
set_option maxRecDepth 100000
namespace Go.Proofs.YtfniceomhfebhaaGreat.M5
open Go Go.Ev Go.Proofs C1 C2 C3 C4 C5 C6 C7 C8 C9 C10 C11 C12 C13 C14 C15 C16 C17 C18 C19 C20 C21 C22 C23 C24 C25 C26 C27 C28 C29 C30 C31 C32 C33 C34 C35 M1 M2 M3 M4

/-! ### orbit.images -/
theorem hf_ipSp (sp : Sp) : HF (.ip [.lst false (sp.sorts.map cSort), .lst false (sp.fields.map cField), .lst false sp.preds, .lst false sp.facts]) := HF.ip fun c hc => by
  have h : HF (eSp sp) := hf_eSp sp
  simp at hc
  rcases hc with rfl | rfl | rfl | rfl
  · refine HF.lst fun r hr c hc => ?_
    obtain ⟨n, _, rfl⟩ := List.mem_map.1 hr
    simp at hc
    rcases hc with rfl | rfl <;> exact HF.sc _
  · refine HF.lst fun r hr c hc => ?_
    obtain ⟨n, _, rfl⟩ := List.mem_map.1 hr
    exact hf_cField n c hc
  · exact sp.hp
  · exact sp.hf
abbrev ipSp (sp : Sp) : AV := .ip [.lst false (sp.sorts.map cSort), .lst false (sp.fields.map cField), .lst false sp.preds, .lst false sp.facts]
theorem hf_ipBd (bs : List Bd) : HF (.ip [lBd bs]) := HF.ip fun c hc => by
  simp at hc; subst hc; exact hf_lBd bs
abbrev imgCl (sp : Sp) (bs : List Bd) (m : Md) : AV := .fn (.func 56) [] [ipSp sp, .ip (cMd m), .ip [lBd bs]]
theorem imagesU (sp : Sp) (bs : List Bd) (m : Md) : SoundP Tryz.prog 36 [eSp sp, lBd bs, eMd m] (imgCl sp bs m) := by
  refine SoundP.of_sound (Sound.of_awp Tryz.call36 Tryz.func36 rfl (Nat.le_of_ble_eq_true (by kernel_rfl)) (by kernel_rfl) (pl := {}) ?_)
  simp [go_sem]
  refine .hf _ (HF.fn (fun c hc => by simp at hc) (fun c hc => ?_))
  simp at hc
  rcases hc with rfl | rfl | rfl
  · exact hf_ipSp sp
  · exact hf_ipMd m
  · exact hf_ipBd bs
theorem images_iter (sp : Sp) (bs : List Bd) (m : Md) (gs : List (List Int)) (hg : SoundP Tryz.prog 57 [eSp sp, eSc m.sc, lBd bs] (lL gs)) (hl : gs.length ≤ 1000000000) (hp : ∀ p, p ∈ gs → ∀ s, s ∈ m.states → ∀ r, r ∈ s → ∀ t, t ∈ r.ts → GP p) (hm : okMd m) :
    IterOk Tryz.prog 56 [ipSp sp, .ip (cMd m), .ip [lBd bs]] (gs.map fun p => [lI p, eMd (mdImg p m)]) := by
  refine IterOk.of Tryz.call56 fun i I Ix hS hX hY mu h0 => ?_
  refine Sound.of_awp Tryz.call56 Tryz.func56 rfl (Nat.le_of_ble_eq_true (by kernel_rfl)) (by kernel_rfl) (pl := {}) ?_
  simp [go_sem]
  refine CallStep.pure hg (.cons (.hf (hf_eSp sp)) (.cons (.hf (hf_eSc _)) (.cons (.hf (hf_lBd _)) .nil))) ?_
  simp [go_sem]
  refine LoopGo.keep (fun n st => ∃ k, n = gs.length - k ∧ k ≤ gs.length ∧ st.tm 0 = .yl i ∧ st.tm 2 = .ip (cMd m) ∧ st.tm 11 = lL gs ∧ st.tm 12 = aI gs.length ∧ st.tm 13 = aI (k : Nat) ∧ I k st.mu) gs.length ?_ ?_
  · exact ⟨0, by omega, by omega, by simp [go_sem], by simp [go_sem], by simp [go_sem], by simp [go_sem], by simp [go_sem], by simpa [go_sem] using h0⟩
  rintro n st ⟨k, rfl, hk, e0, e2, e11, e12, e13, hI⟩
  by_cases hlt : k < gs.length
  · simp [go_sem, e0, e2, e11, e12, e13, hlt]
    refine CallStep.pure (modelU m gs[k] (hp _ (List.getElem_mem hlt)) hm) (.cons (.hf (hf_lI _)) (.cons (.hf (hf_eMd _)) .nil)) ?_
    simp [go_sem, e0, e2, e11, e12, e13, hlt]
    have hget : (gs.map fun p => [lI p, eMd (mdImg p m)])[k]? = some [lI gs[k], eMd (mdImg gs[k] m)] := by
      rw [List.getElem?_map, List.getElem?_eq_getElem hlt]; rfl
    refine CallStep.yield (hY _ _ _ hget hI) ?_
    rintro b mu' (⟨rfl, hI'⟩ | ⟨rfl, hx'⟩)
    · simp [go_sem, e0, e2, e11, e12, e13, hlt]
      refine Keep.loop (gs.length - (k + 1)) (by omega) ⟨k + 1, rfl, by omega, by simp [go_sem, e0], by simp [go_sem, e2], by simp [go_sem, e11], by simp [go_sem, e12], ?_, by simpa [go_sem] using hI'⟩
      simp [go_sem]; exact wrap_i64 (by omega) (by omega)
    · simp [go_sem, e0, e2, e11, e12, e13, hlt]
      exact .inr hx'
  · have hge : k = gs.length := by omega
    subst hge
    simp [go_sem, e0, e2, e11, e12, e13]
    exact .inl hI

/-! ### orbit.Isomorphic, orbit.Stabilizer -/
/-- what the callers know -/
structure Grp (sp : Sp) (bs : List Bd) (m : Md) (gs : List (List Int)) : Prop where
  grp : SoundP Tryz.prog 57 [eSp sp, eSc m.sc, lBd bs] (lL gs)
  len : gs.length ≤ 1000000000
  gp : ∀ p, p ∈ gs → ∀ s, s ∈ m.states → ∀ r, r ∈ s → ∀ t, t ∈ r.ts → GP p
  ok : okMd m
theorem okMd.sm {m : Md} (h : okMd m) (ha : m.sc.atoms.length ≤ 1000000000) : smMd m := ⟨ha, h.ns, h.nf, fun s hs r hr => (h.rel s hs r hr).2.2.1⟩
theorem okMd.smImg {m : Md} (h : okMd m) (ha : m.sc.atoms.length ≤ 1000000000) (p : List Int) : smMd (mdImg p m) := by
  refine ⟨ha, by simpa [mdImg] using h.ns, fun s hs => ?_, fun s hs r hr => ?_⟩
  · simp only [mdImg, List.mem_map] at hs
    obtain ⟨t, ht, rfl⟩ := hs
    simpa using h.nf t ht
  · simp only [mdImg, List.mem_map] at hs
    obtain ⟨t, ht, rfl⟩ := hs
    obtain ⟨q, hq, rfl⟩ := List.mem_map.1 hr
    simp only [relImg, srtI_len, List.length_map]
    exact (h.rel t ht q hq).2.2.1
theorem isomorphicU (sp : Sp) (bs : List Bd) (m c : Md) (gs : List (List Int)) (g : Grp sp bs m gs) (ha : m.sc.atoms.length ≤ 1000000000) : SoundP Tryz.prog 20 [eSp sp, lBd bs, eMd m, eMd c] (aB (gs.any fun p => decide (mdImg p m = c))) := by
  refine SoundP.of_sound (Sound.of_awp Tryz.call20 Tryz.func20 rfl (Nat.le_of_ble_eq_true (by kernel_rfl)) (by kernel_rfl) (pl := {}) ?_)
  simp [go_sem]
  refine CallStep.pure (imagesU sp bs m) (.cons (.hf (hf_eSp sp)) (.cons (.hf (hf_lBd _)) (.cons (.hf (hf_eMd _)) .nil))) ?_
  simp [go_sem]
  refine RangeGo.keep (images_iter sp bs m gs g.grp g.len g.gp g.ok) (fun k M => (∃ rest, M = .arr [aB false] :: rest) ∧ (gs.take k).any (fun p => decide (mdImg p m = c)) = false) (fun e M => e = .ret ∧ (∃ rest, M = .arr [aB true] :: rest) ∧ gs.any (fun p => decide (mdImg p m = c)) = true) ?_ ?_ ?_ ?_ ?_ ?_
  · exact ⟨⟨_, by simp only [put_mu, List.cons_append]; rfl⟩, by simp⟩
  · rintro k M ⟨⟨rest, rfl⟩, h⟩
    exact ⟨⟨rest ++ [.dead], rfl⟩, h⟩
  · rintro e M ⟨h1, ⟨rest, rfl⟩, h⟩
    exact ⟨h1, ⟨rest ++ [.dead], rfl⟩, h⟩
  · rintro k x M hk ⟨⟨rest, rfl⟩, h⟩
    rw [List.getElem?_map, Option.map_eq_some_iff] at hk
    obtain ⟨p, hp, rfl⟩ := hk
    refine ⟨rfl, ?_⟩
    simp [go_sem]
    refine CallStep.pure (modelEqual (mdImg p m) c (okMd.smImg g.ok ha p)) (.cons (.hf (hf_eMd _)) (.cons (.hf (hf_eMd _)) .nil)) ?_
    by_cases heq : mdImg p m = c
    · simp [go_sem, heq]
      exact KeepM.intro ⟨rfl, ⟨_, rfl⟩, List.any_eq_true.2 ⟨p, List.mem_of_getElem? hp, by simpa using heq⟩⟩
    · simp [go_sem, heq]
      refine KeepM.intro ⟨⟨_, rfl⟩, ?_⟩
      rw [List.take_add_one, hp, List.any_append, h]
      simpa using heq
  · rintro M ⟨⟨rest, rfl⟩, h⟩
    have h' : gs.any (fun p => decide (mdImg p m = c)) = false := by
      rw [List.length_map, List.take_length] at h; exact h
    rw [h']
    simp [go_sem]
    exact .hf _ (HF.sc _)
  · rintro e M ⟨rfl, ⟨rest, rfl⟩, h⟩
    rw [h]
    simp [go_sem]
    exact .hf _ (HF.sc _)

def stabL (gs : List (List Int)) (m : Md) : List (List Int) := gs.filter fun p => decide (mdImg p m = m)
theorem Own.rdLL {mu : Mu} {av : AV} {xs : List (List Int)} (h : Own mu 1 av (xs.map rL)) : Rd mu av (lL xs) :=
  h.rd (rows_rL xs).ok fun r hr c hc => by
    obtain ⟨n, _, rfl⟩ := List.mem_map.1 hr
    simp at hc; subst hc; exact hf_lI _
theorem stabilizerU (sp : Sp) (bs : List Bd) (m : Md) (gs : List (List Int)) (g : Grp sp bs m gs) (ha : m.sc.atoms.length ≤ 1000000000) : SoundP Tryz.prog 18 [eSp sp, lBd bs, eMd m] (lL (stabL gs m)) := by
  refine SoundP.of_sound (Sound.of_awp Tryz.call18 Tryz.func18 rfl (Nat.le_of_ble_eq_true (by kernel_rfl)) (by kernel_rfl) (pl := {}) ?_)
  simp [go_sem]
  refine CallStep.pure (imagesU sp bs m) (.cons (.hf (hf_eSp sp)) (.cons (.hf (hf_lBd _)) (.cons (.hf (hf_eMd _)) .nil))) ?_
  simp [go_sem]
  refine RangeGo.keep (images_iter sp bs m gs g.grp g.len g.gp g.ok) (fun k M => ∃ av rest, M = .arr [av] :: rest ∧ Own M 1 av ((stabL (gs.take k) m).map rL) ∧ blkOf av ≠ some 0) (fun _ _ => False) ?_ ?_ ?_ ?_ ?_ ?_
  · refine ⟨.lst true [], _, by simp only [put_mu, List.cons_append]; rfl, ?_, by simp [blkOf]⟩
    exact .inl rfl
  · rintro k M ⟨av, rest, rfl, h, hn⟩
    exact ⟨av, rest ++ [.dead], rfl, Own.push h _, hn⟩
  · intro e M h; exact h
  · rintro k x M hk ⟨av, rest, rfl, ho, hn⟩
    rw [List.getElem?_map, Option.map_eq_some_iff] at hk
    obtain ⟨p, hp, rfl⟩ := hk
    have hlt : k < gs.length := (List.getElem?_eq_some_iff.1 hp).1
    have htk : gs.take (k + 1) = gs.take k ++ [p] := by rw [List.take_add_one, hp]; rfl
    have hlen : (stabL (gs.take k) m).length ≤ 1000000000 := by
      have h1 := List.length_filter_le (fun p => decide (mdImg p m = m)) (gs.take k)
      have h2 := g.len
      unfold stabL
      simp at h1 ⊢; omega
    refine ⟨rfl, ?_⟩
    simp [go_sem]
    refine CallStep.pure (modelEqual (mdImg p m) m (okMd.smImg g.ok ha p)) (.cons (.hf (hf_eMd _)) (.cons (.hf (hf_eMd _)) .nil)) ?_
    by_cases heq : mdImg p m = m
    · have hs : stabL (gs.take (k + 1)) m = stabL (gs.take k) m ++ [p] := by
        rw [htk, stabL, List.filter_append, ← stabL]; simp [heq]
      simp [go_sem, heq]
      refine AppendStep.ownB (e := 29) (sz := 1) (bt := 24) (zv := .lst true []) (xs := (stabL (gs.take k) m).map rL) (ys := [rL p]) (by simp [go_sem]) (by simp [go_sem]) (by simp [go_sem]) rfl rfl (by omega) (by omega) (Own.push ho _) (by simp [rowsOf]) (rows_rL _) (rows_rL [p]) (by simp; omega) ?_
      intro av' mu' ho' hs' hb' hl'
      have hm0 := hs' 0 (by simp) hn
      obtain ⟨rest3, rfl⟩ : ∃ rest3, mu' = .arr [av] :: rest3 := by
        cases mu' with
        | nil => simp at hm0
        | cons c r => simp at hm0; exact ⟨r, by rw [hm0]⟩
      have hn0' : blkOf av' ≠ some 0 := fun h => by have := hb' _ h; simp at this
      have ho2 := Own.set ho' (i := 0) (.arr [av']) hn0'
      have hcat : (stabL (gs.take k) m).map rL ++ [rL p] = (stabL (gs.take (k + 1)) m).map rL := by
        rw [hs, List.map_append]; rfl
      rw [hcat] at ho2
      simp [go_sem, Own.one ho', Own.cells ho']
      exact KeepM.intro ⟨av', rest3, rfl, by simpa using ho2, hn0'⟩
    · have hs : stabL (gs.take (k + 1)) m = stabL (gs.take k) m := by
        rw [htk, stabL, List.filter_append, ← stabL]; simp [heq]
      simp [go_sem, heq]
      refine KeepM.intro ⟨av, _, rfl, ?_, hn⟩
      rw [hs]
      exact Own.push ho _
  · rintro M ⟨av, rest, rfl, ho, hn⟩
    rw [List.length_map, List.take_length] at ho
    simp [go_sem]
    exact Own.rdLL ho
  · intro e M h; exact h.elim
end Go.Proofs.YtfniceomhfebhaaGreat.M5

set_option linter.unusedVariables false
set_option linter.unusedSimpArgs false
set_option maxRecDepth 100000
namespace Go.Proofs.YtfniceomhfebhaaGreat.M6
open Go Go.Ev Go.Proofs C1 C2 C3 C4 C5 C6 C7 C8 C9 C10 C11 C12 C13 C14 C15 C16 C17 C18 C19 C20 C21 C22 C23 C24 C25 C26 C27 C28 C29 C30 C31 C32 C33 C34 C35 M1 M2 M3 M4 M5

/-! ### orbit.order -/
def bitI (r : Rl) (t : Int) : Int := if t ∈ r.ts then 1 else 0
structure srtRl (r : Rl) : Prop where
  len : r.ts.length ≤ 1000000000
  srt : r.ts.Pairwise (· ≤ ·)
theorem bitU (r : Rl) (t : Int) (h : srtRl r) : SoundP Tryz.prog 51 [eRel r, aI t] (aI (bitI r t)) := by
  refine SoundP.of_sound (Sound.of_awp Tryz.call51 Tryz.func51 rfl (Nat.le_of_ble_eq_true (by kernel_rfl)) (by kernel_rfl) (pl := {}) ?_)
  simp [go_sem]
  refine CallStep.pure (binU r.ts t h.len h.srt) (.cons (.hf (hf_lI _)) (.cons (.hf (HF.sc _)) .nil)) ?_
  unfold bitI
  by_cases hin : t ∈ r.ts
  · simp [go_sem, hin]
    exact .hf _ (HF.sc _)
  · simp [go_sem, hin]
    exact .hf _ (HF.sc _)

def relG (s : List Rl) (i : Int) : Rl := s.getD i.toNat ⟨0, []⟩
def stepI (x y : List Rl) (o : Int) (f : Int × Int) : Int := orI [o, bitI (relG x f.1) f.2 - bitI (relG y f.1) f.2]
def ordFrom (free : List (Int × Int)) : List (List Rl) → List (List Rl) → Int → Int
  | x :: xs, y :: cs, o => if o = 0 then ordFrom free xs cs (free.foldl (stepI x y) o) else o
  | _, _, o => o
def ordI (free : List (Int × Int)) (a c : Md) : Int := ordFrom free a.states c.states (cmpI a.loop c.loop)
/-- a state that the pairs fit -/
structure okSt (free : List (Int × Int)) (s : List Rl) : Prop where
  ix : ∀ f, f ∈ free → 0 ≤ f.1 ∧ f.1 < s.length
  srt : ∀ r, r ∈ s → srtRl r
structure okOrd (free : List (Int × Int)) (n : Nat) (m : Md) : Prop where
  ns : m.states.length = n
  st : ∀ s, s ∈ m.states → okSt free s
theorem okSt.rel {free : List (Int × Int)} {s : List Rl} (h : okSt free s) {f : Int × Int} (hf : f ∈ free) : ∃ hx : f.1.toNat < s.length, relG s f.1 = s[f.1.toNat] ∧ srtRl (relG s f.1) := by
  have h1 := h.ix f hf
  have hx : f.1.toNat < s.length := by omega
  have e : relG s f.1 = s[f.1.toNat] := by rw [relG, List.getD_eq_getElem?_getD, List.getElem?_eq_getElem hx]; rfl
  exact ⟨hx, e, by rw [e]; exact h.srt _ (List.getElem_mem hx)⟩
theorem bitI_01 (r : Rl) (t : Int) : bitI r t = 0 ∨ bitI r t = 1 := by
  unfold bitI; split
  · exact .inr rfl
  · exact .inl rfl
theorem stepI_eq (x y : List Rl) (o : Int) (f : Int × Int) : stepI x y o f = if o = 0 then bitI (relG x f.1) f.2 - bitI (relG y f.1) f.2 else o := by
  unfold stepI
  simp only [orI]
  by_cases h : o = 0
  · rw [if_pos h, if_pos h]
    split
    · omega
    · rfl
  · rw [if_neg h, if_neg h]

theorem ordU (free : List (Int × Int)) (n : Nat) (hn : n ≤ 1000000) (hfl : free.length ≤ 1000000000) (a c : Md) (ha : okOrd free n a) (hc : okOrd free n c) : SoundP Tryz.prog 53 [eMd a, eMd c, .ip [lP free], .ip [.fn (.func 51) [] []]] (aI (ordI free a c)) := by
  refine SoundP.of_sound (Sound.of_awp Tryz.call53 Tryz.func53 rfl (Nat.le_of_ble_eq_true (by kernel_rfl)) (by kernel_rfl) (pl := {}) ?_)
  simp [go_sem]
  refine CallStep.pure (compareU a.loop c.loop) (.cons (.hf (HF.sc _)) (.cons (.hf (HF.sc _)) .nil)) ?_
  simp [go_sem]
  refine LoopGo.keep (fun m st => ∃ k o, m = n - k ∧ k ≤ n ∧ st.tm 2 = .ip [lP free] ∧ st.tm 3 = .ip [.fn (.func 51) [] []] ∧ st.tm 4 = .ip (cMd a) ∧ st.tm 5 = .ip (cMd c) ∧ st.tm 7 = aI o ∧ st.tm 8 = aI (k : Nat) ∧ ordFrom free (a.states.drop k) (c.states.drop k) o = ordI free a c) n ?_ ?_
  · exact ⟨0, cmpI a.loop c.loop, by omega, by omega, by simp [go_sem], by simp [go_sem], by simp [go_sem], by simp [go_sem], by simp [go_sem], by simp [go_sem], rfl⟩
  rintro m st ⟨k, o, rfl, hk, e2, e3, e4, e5, e7, e8, hi⟩
  have hna := ha.ns
  have hnc := hc.ns
  by_cases hlt : k < n
  · have hka : k < a.states.length := by omega
    have hkc : k < c.states.length := by omega
    rw [List.drop_eq_getElem_cons hka, List.drop_eq_getElem_cons hkc, ordFrom] at hi
    by_cases ho : o = 0
    · subst ho
      rw [if_pos rfl] at hi
      simp [go_sem, e2, e3, e4, e5, e7, e8, hna, hlt]
      have hsa := ha.st _ (List.getElem_mem hka)
      have hsc := hc.st _ (List.getElem_mem hkc)
      refine LoopGo.keep (fun m2 st2 => ∃ j o2, m2 = free.length - j ∧ j ≤ free.length ∧ st2.tm 2 = .ip [lP free] ∧ st2.tm 3 = .ip [.fn (.func 51) [] []] ∧ st2.tm 4 = .ip (cMd a) ∧ st2.tm 5 = .ip (cMd c) ∧ st2.tm 7 = aI o2 ∧ st2.tm 8 = aI (k : Nat) ∧ st2.tm 27 = lP free ∧ st2.tm 28 = aI free.length ∧ st2.tm 29 = aI (j : Nat) ∧ (o2 = 0 ∨ o2 = 1 ∨ o2 = -1) ∧ (free.drop j).foldl (stepI a.states[k] c.states[k]) o2 = free.foldl (stepI a.states[k] c.states[k]) 0) free.length ?_ ?_
      · refine ⟨0, 0, by omega, by omega, ?_, ?_, ?_, ?_, ?_, ?_, ?_, ?_, ?_, .inl rfl, rfl⟩ <;> simp [go_sem, e2, e3, e4, e5, e7, e8]
      rintro m2 st2 ⟨j, o2, rfl, hj, f2, f3, f4, f5, f7, f8, f27, f28, f29, ho2, hf⟩
      by_cases hlj : j < free.length
      · rw [List.drop_eq_getElem_cons hlj, List.foldl_cons] at hf
        obtain ⟨hxa, hea, hra⟩ := hsa.rel (List.getElem_mem hlj)
        obtain ⟨hxc, hec, hrc⟩ := hsc.rel (List.getElem_mem hlj)
        have h0 := (hsa.ix _ (List.getElem_mem hlj)).1
        have h1a := (hsa.ix _ (List.getElem_mem hlj)).2
        have h1c := (hsc.ix _ (List.getElem_mem hlj)).2
        generalize hfq : free[j] = fq at *
        obtain ⟨fi, ft⟩ := fq
        simp only at hxa hxc h0 h1a h1c hea hec hra hrc
        simp [go_sem, f2, f3, f4, f5, f7, f8, f27, f28, f29, hlj, hfq]
        refine DrawGo.intro (by kernel_rfl) ?_
        simp [go_sem, f2, f3, f4, f5, f7, f8, f27, f28, f29, hlj, hfq, hka, hkc, h0, h1a, h1c, hxa, hxc]
        rw [← hea]
        have hb1 := bitI_01 (relG a.states[k] fi) ft
        have hb2 := bitI_01 (relG c.states[k] fi) ft
        refine CallStep.pure (bitU (relG a.states[k] fi) ft hra) (.cons (.hf (hf_eRel _)) (.cons (.hf (HF.sc _)) .nil)) ?_
        simp [go_sem, f2, f3, f4, f5, f7, f8, f27, f28, f29, hlj, hfq, hka, hkc, h0, h1a, h1c, hxa, hxc]
        rw [← hec]
        refine CallStep.pure (bitU (relG c.states[k] fi) ft hrc) (.cons (.hf (hf_eRel _)) (.cons (.hf (HF.sc _)) .nil)) ?_
        have hse := stepI_eq a.states[k] c.states[k] o2 (fi, ft)
        have hsd : stepI a.states[k] c.states[k] o2 (fi, ft) = orI [o2, bitI (relG a.states[k] fi) ft - bitI (relG c.states[k] fi) ft] := rfl
        have hw : IntKind.i64.wrap (bitI (relG a.states[k] fi) ft - bitI (relG c.states[k] fi) ft) = bitI (relG a.states[k] fi) ft - bitI (relG c.states[k] fi) ft := wrap_i64 (by omega) (by omega)
        have hrng : stepI a.states[k] c.states[k] o2 (fi, ft) = 0 ∨ stepI a.states[k] c.states[k] o2 (fi, ft) = 1 ∨ stepI a.states[k] c.states[k] o2 (fi, ft) = -1 := by
          rw [hse]
          split
          · simp only; omega
          · exact ho2
        generalize bitI (relG a.states[k] fi) ft = b1 at *
        generalize bitI (relG c.states[k] fi) ft = b2 at *
        simp [go_sem, f2, f3, f4, f5, f7, f8, f27, f28, f29, hlj, hfq, hw]
        refine CallStep.pure (orU [o2, b1 - b2] (by simp)) (.cons (WK.ints [o2, b1 - b2]) .nil) ?_
        rw [← hsd]
        simp [go_sem, f2, f3, f4, f5, f7, f8, f27, f28, f29]
        refine Keep.loop (free.length - (j + 1)) (by omega) ⟨j + 1, _, rfl, by omega, ?_, ?_, ?_, ?_, ?_, ?_, ?_, ?_, ?_, hrng, hf⟩
        all_goals first | (simp [go_sem, f2, f3, f4, f5, f7, f8, f27, f28]; done) | (simp [go_sem]; exact wrap_i64 (by omega) (by omega))
      · have hge : j = free.length := by omega
        subst hge
        rw [List.drop_length, List.foldl_nil] at hf
        rw [← hf] at hi
        simp [go_sem, f2, f3, f4, f5, f7, f8, f27, f28, f29]
        refine Keep.loop (n - (k + 1)) (by omega) ⟨k + 1, o2, rfl, by omega, ?_, ?_, ?_, ?_, ?_, ?_, hi⟩
        all_goals first | (simp [go_sem, f2, f3, f4, f5, f7, f8]; done) | (simp [go_sem]; exact wrap_i64 (by omega) (by omega))
    · rw [if_neg ho] at hi
      subst hi
      simp [go_sem, e2, e3, e4, e5, e7, e8, hna, hlt, ho]
      exact .hf _ (HF.sc _)
  · have hge : k = n := by omega
    subst hge
    rw [List.drop_of_length_le (by omega), List.drop_of_length_le (by omega)] at hi
    simp only [ordFrom] at hi
    subst hi
    simp [go_sem, e2, e3, e4, e5, e7, e8, hna]
    exact .hf _ (HF.sc _)
end Go.Proofs.YtfniceomhfebhaaGreat.M6

set_option linter.unusedVariables false
set_option linter.unusedSimpArgs false
set_option maxRecDepth 100000
namespace Go.Proofs.YtfniceomhfebhaaGreat.M7
open Go Go.Ev Go.Proofs C1 C2 C3 C4 C5 C6 C7 C8 C9 C10 C11 C12 C13 C14 C15 C16 C17 C18 C19 C20 C21 C22 C23 C24 C25 C26 C27 C28 C29 C30 C31 C32 C33 C34 C35 M1 M2 M3 M4 M5 M6

abbrev ordCl (free : List (Int × Int)) : AV := .fn (.func 53) [] [.ip [lP free], .ip [.fn (.func 51) [] []]]
theorem hf_ip1 {x : AV} (h : HF x) : HF (.ip [x]) := HF.ip fun c hc => by
  simp at hc; subst hc; exact h
theorem hf_lP (l : List (Int × Int)) : HF (lP l) := HF.lst fun r hr c hc => by
  obtain ⟨n, _, rfl⟩ := List.mem_map.1 hr
  simp at hc
  rcases hc with rfl | rfl <;> exact HF.sc _
theorem hf_ordCl (free : List (Int × Int)) : HF (ordCl free) := HF.fn (fun c hc => by simp at hc) (fun c hc => by
  simp at hc
  rcases hc with rfl | rfl
  · exact hf_ip1 (hf_lP free)
  · exact hf_ip1 (hf_fn0 _))
theorem orderU (bs : List Bd) (hl : bs.length ≤ 1000) (hb : ∀ x, x ∈ bs → okFree x) : SoundP Tryz.prog 35 [lBd bs] (ordCl (freeL bs 0)) := by
  refine SoundP.of_sound (Sound.of_awp Tryz.call35 Tryz.func35 rfl (Nat.le_of_ble_eq_true (by kernel_rfl)) (by kernel_rfl) (pl := {}) ?_)
  simp [go_sem]
  refine CallStep.pure (freeU bs hl hb) (.cons (.hf (hf_lBd _)) .nil) ?_
  generalize freeL bs 0 = free
  simp [go_sem]
  refine .fn _ _ _ _ _ rfl rfl (fun k x y hx => by simp at hx) (fun k x y hx hy => ?_)
  cases k with
  | zero => simp at hx hy; subst hx; subst hy; exact Rd.ptr1 rfl (.hf _ (hf_lP free))
  | succ k => cases k with
    | zero => simp at hx hy; subst hx; subst hy; exact Rd.ptr1 rfl (.hf _ (hf_fn0 _))
    | succ k => simp at hx

def canonL (free : List (Int × Int)) (m : Md) : List (List Int) → Md → Md
  | [], l => l
  | p :: gs, l => canonL free m gs (if ordI free (mdImg p m) l < 0 then mdImg p m else l)
theorem canonL_drop (free : List (Int × Int)) (m : Md) (gs : List (List Int)) (k : Nat) (h : k < gs.length) (l : Md) : canonL free m (gs.drop k) l = canonL free m (gs.drop (k + 1)) (if ordI free (mdImg gs[k] m) l < 0 then mdImg gs[k] m else l) := by
  rw [List.drop_eq_getElem_cons h, canonL]
/-- the order is specified for the images -/
structure GrpO (sp : Sp) (bs : List Bd) (m : Md) (gs : List (List Int)) (n : Nat) : Prop extends Grp sp bs m gs where
  n4 : n ≤ 1000000
  nb : bs.length ≤ 1000
  free : ∀ x, x ∈ bs → okFree x
  fl : (freeL bs 0).length ≤ 1000000000
  own : okOrd (freeL bs 0) n m
  img : ∀ p, p ∈ gs → okOrd (freeL bs 0) n (mdImg p m)
theorem canonicalU (sp : Sp) (bs : List Bd) (m : Md) (gs : List (List Int)) (n : Nat) (g : GrpO sp bs m gs n) : SoundP Tryz.prog 12 [eSp sp, lBd bs, eMd m] (eMd (canonL (freeL bs 0) m gs m)) := by
  refine SoundP.of_sound (Sound.of_awp Tryz.call12 Tryz.func12 rfl (Nat.le_of_ble_eq_true (by kernel_rfl)) (by kernel_rfl) (pl := {}) ?_)
  simp [go_sem]
  refine CallStep.pure (orderU bs g.nb g.free) (.cons (.hf (hf_lBd _)) .nil) ?_
  simp [go_sem]
  refine CallStep.pure (imagesU sp bs m) (.cons (.hf (hf_eSp sp)) (.cons (.hf (hf_lBd _)) (.cons (.hf (hf_eMd _)) .nil))) ?_
  simp [go_sem]
  refine RangeGo.keep (images_iter sp bs m gs g.grp g.len g.gp g.ok) (fun k M => ∃ l rest, M = .arr [.lst true [], aI 0, .lst true [], aI 0] :: .arr [ordCl (freeL bs 0)] :: .arr (cMd l) :: rest ∧ okOrd (freeL bs 0) n l ∧ canonL (freeL bs 0) m (gs.drop k) l = canonL (freeL bs 0) m gs m) (fun _ _ => False) ?_ ?_ ?_ ?_ ?_ ?_
  · refine ⟨m, [.dead], ?_, g.own, rfl⟩
    simp [go_sem]
  · rintro k M ⟨l, rest, rfl, h1, h2⟩
    exact ⟨l, rest ++ [.dead], rfl, h1, h2⟩
  · intro e M h; exact h
  · rintro k x M hk ⟨l, rest, rfl, h1, h2⟩
    rw [List.getElem?_map, Option.map_eq_some_iff] at hk
    obtain ⟨p, hp, rfl⟩ := hk
    obtain ⟨hlt, hpe⟩ := List.getElem?_eq_some_iff.1 hp
    rw [canonL_drop _ _ _ _ hlt, hpe] at h2
    have hpm : p ∈ gs := List.mem_of_getElem? hp
    refine ⟨rfl, ?_⟩
    simp [go_sem]
    refine CallStep.clo (ordU (freeL bs 0) n g.n4 g.fl (mdImg p m) l (g.img p hpm) h1) (.cons (.hf (hf_eMd _)) (.cons (.hf (hf_eMd _)) (.cons (.hf (hf_ip1 (hf_lP _))) (.cons (.hf (hf_ip1 (hf_fn0 _))) .nil)))) ?_
    by_cases hneg : ordI (freeL bs 0) (mdImg p m) l < 0
    · rw [if_pos hneg] at h2
      simp [go_sem, hneg]
      exact KeepM.intro ⟨mdImg p m, _, rfl, g.img p hpm, h2⟩
    · rw [if_neg hneg] at h2
      simp [go_sem, hneg]
      exact KeepM.intro ⟨l, _, rfl, h1, h2⟩
  · rintro M ⟨l, rest, rfl, h1, h2⟩
    rw [List.length_map, List.drop_length, canonL] at h2
    subst h2
    simp [go_sem]
    exact .hf _ (hf_eMd _)
  · intro e M h; exact h.elim
end Go.Proofs.YtfniceomhfebhaaGreat.M7

set_option linter.unusedVariables false
set_option linter.unusedSimpArgs false
set_option maxRecDepth 100000
namespace Go.Proofs.YtfniceomhfebhaaGreat.N1
open Go Go.Ev Go.Proofs C1 C2 C3 C4 C5 C6 C7 C8 C9 C10 C11 C12 C13 C14 C15 C16 C17 C18 C19 C20 C21 C22 C23 C24 C25 C26 C27 C28 C29 C30 C31 C32 C33 C34 C35 M1 M2 M3 M4 M5 M6 M7

/-! ### armatureref07: Small, field, Valid -/
abbrev ipMd (m : Md) : AV := .ip (cMd m)
structure SmallP (sp : Sp) (m : Md) : Prop where
  ns : sp.sorts.length ≤ 10
  nf : sp.fields.length ≤ 10
  nt : m.states.length ≤ 64
  na : m.sc.atoms.length ≤ 10
  st : ∀ (i : Nat) (h : i < m.states.length), m.states[i].length ≤ 10 ∧ ∀ (j : Nat) (h' : j < m.states[i].length), (m.states[i][j]).ts.length ≤ 200
  fs : ∀ (i : Nat) (h : i < sp.fields.length), (sp.fields[i]).sorts.length ≤ 10
def smallOk (sp : Sp) (m : Md) : Bool := decide (sp.sorts.length ≤ 10) && decide (sp.fields.length ≤ 10) && decide (m.states.length ≤ 64) && decide (m.sc.atoms.length ≤ 10) &&
  (m.states.all fun s => decide (s.length ≤ 10) && s.all fun r => decide (r.ts.length ≤ 200)) && sp.fields.all fun f => decide (f.sorts.length ≤ 10)
theorem smallOk_iff {sp : Sp} {m : Md} : smallOk sp m = true ↔ SmallP sp m := by
  simp only [smallOk, Bool.and_eq_true, decide_eq_true_eq, all_iff_get]
  constructor
  · rintro ⟨⟨⟨⟨⟨h1, h2⟩, h3⟩, h4⟩, h5⟩, h6⟩
    exact ⟨h1, h2, h3, h4, h5, h6⟩
  · rintro ⟨h1, h2, h3, h4, h5, h6⟩
    exact ⟨⟨⟨⟨⟨h1, h2⟩, h3⟩, h4⟩, h5⟩, h6⟩
theorem smallOk_not {sp : Sp} {m : Md} (h : ¬ SmallP sp m) : smallOk sp m = false := by
  rw [← Bool.not_eq_true, smallOk_iff]; exact h
theorem small07 (sp : Sp) (m : Md) : SoundP Tryz.prog 39 [eSp sp, eMd m] (aB (smallOk sp m)) := by
  refine SoundP.of_sound (Sound.of_awp Tryz.call39 Tryz.func39 rfl (Nat.le_of_ble_eq_true (by kernel_rfl)) (by kernel_rfl) (pl := {}) ?_)
  simp [go_sem]
  by_cases h1 : (10 : Int) < sp.sorts.length
  · simp [go_sem, h1]
    rw [smallOk_not fun h => by have := h.ns; omega]
    exact .hf _ (HF.sc _)
  by_cases h2 : (10 : Int) < sp.fields.length
  · simp [go_sem, h1, h2]
    rw [smallOk_not fun h => by have := h.nf; omega]
    exact .hf _ (HF.sc _)
  by_cases h3 : (64 : Int) < m.states.length
  · simp [go_sem, h1, h2, h3]
    rw [smallOk_not fun h => by have := h.nt; omega]
    exact .hf _ (HF.sc _)
  by_cases h4 : (10 : Int) < m.sc.atoms.length
  · simp [go_sem, h1, h2, h3, h4]
    rw [smallOk_not fun h => by have := h.na; omega]
    exact .hf _ (HF.sc _)
  simp [go_sem, h1, h2, h3, h4]
  refine LoopGo.up m.states.length (fun k st => st.tm 2 = ipSp sp ∧ st.tm 3 = ipMd m ∧ st.tm 5 = aI k ∧ st.mu = [] ∧ ∀ (i : Nat) (h : i < m.states.length), i < k → m.states[i].length ≤ 10 ∧ ∀ (j : Nat) (h' : j < m.states[i].length), (m.states[i][j]).ts.length ≤ 200) ?_ ?_
  · simp [go_sem]
  rintro k st hk ⟨e2, e3, e5, hm, he⟩
  by_cases hlt : k < m.states.length
  · simp [go_sem, e2, e3, e5, hm, hlt]
    by_cases h5 : (10 : Int) < m.states[k].length
    · simp [go_sem, e2, e3, e5, hm, hlt, h5]
      rw [smallOk_not fun h => by have := (h.st k hlt).1; omega]
      exact .hf _ (HF.sc _)
    simp [go_sem, e2, e3, e5, hm, hlt, h5]
    refine LoopGo.up m.states[k].length (fun j st => st.tm 2 = ipSp sp ∧ st.tm 3 = ipMd m ∧ st.tm 5 = aI k ∧ st.tm 6 = aI j ∧ st.mu = [] ∧ ∀ (i : Nat) (h : i < m.states[k].length), i < j → (m.states[k][i]).ts.length ≤ 200) ?_ ?_
    · simp [go_sem, e2, e3, e5, hm]
    clear e2 e3 e5 hm st
    rintro j st hj ⟨e2, e3, e5, e6, hm, he2⟩
    by_cases hjl : j < m.states[k].length
    · by_cases h6 : (200 : Int) < (m.states[k][j]).ts.length
      · simp [go_sem, e2, e3, e5, e6, hm, hlt, hjl, h6]
        rw [smallOk_not fun h => by have := (h.st k hlt).2 j hjl; omega]
        exact .hf _ (HF.sc _)
      simp [go_sem, e2, e3, e5, e6, hm, hlt, hjl, h6]
      refine ⟨wrap_i64 (by omega) (by omega), fun i h hi => ?_⟩
      rcases Nat.lt_succ_iff_lt_or_eq.1 hi with h7 | h7
      · exact he2 i h h7
      · subst h7; omega
    · have hje : j = m.states[k].length := by omega
      simp [go_sem, e2, e3, e5, e6, hm, hlt, hjl]
      refine ⟨wrap_i64 (by omega) (by omega), fun i h hi => ?_⟩
      rcases Nat.lt_succ_iff_lt_or_eq.1 hi with h7 | h7
      · exact he i h h7
      · subst h7; exact ⟨by omega, fun q hq => he2 q hq (by omega)⟩
  · have hst : ∀ (i : Nat) (h : i < m.states.length), m.states[i].length ≤ 10 ∧ ∀ (j : Nat) (h' : j < m.states[i].length), (m.states[i][j]).ts.length ≤ 200 := fun i h => he i h (by omega)
    simp [go_sem, e2, e3, e5, hm, hlt]
    refine LoopGo.up sp.fields.length (fun k st => st.tm 2 = ipSp sp ∧ st.tm 7 = aI k ∧ st.mu = [] ∧ ∀ (i : Nat) (h : i < sp.fields.length), i < k → (sp.fields[i]).sorts.length ≤ 10) ?_ ?_
    · simp [go_sem, e2, hm]
    clear e2 e3 e5 hm he st
    rintro j st hj ⟨e2, e7, hm, he⟩
    by_cases hjl : j < sp.fields.length
    · by_cases h6 : (10 : Int) < (sp.fields[j]).sorts.length
      · simp [go_sem, e2, e7, hm, hjl, h6]
        rw [smallOk_not fun h => by have := h.fs j hjl; omega]
        exact .hf _ (HF.sc _)
      simp [go_sem, e2, e7, hm, hjl, h6]
      refine ⟨wrap_i64 (by omega) (by omega), fun i h hi => ?_⟩
      rcases Nat.lt_succ_iff_lt_or_eq.1 hi with h7 | h7
      · exact he i h h7
      · subst h7; omega
    · simp [go_sem, e2, e7, hm, hjl]
      rw [smallOk_iff.2 ⟨by omega, by omega, by omega, by omega, hst, fun i h => he i h (by omega)⟩]
      exact .hf _ (HF.sc _)
theorem field07 (sp : Sp) (f : Fld) (hl : f.sorts.length ≤ 9223372036854775807) : SoundP Tryz.prog 66 [eSp sp, eField f] (aB (fieldOk sp f)) := by
  refine SoundP.of_sound (Sound.of_awp Tryz.call66 Tryz.func66 rfl (Nat.le_of_ble_eq_true (by kernel_rfl)) (by kernel_rfl) (pl := {}) ?_)
  simp [go_sem]
  refine LoopGo.up f.sorts.length (fun k st => st.tm 2 = .ip [.lst false (sp.sorts.map cSort), .lst false (sp.fields.map cField), .lst false sp.preds, .lst false sp.facts] ∧ st.tm 3 = .ip (cField f) ∧ st.tm 5 = aI k ∧ st.mu = [] ∧ ∀ (i : Nat) (h : i < f.sorts.length), i < k → 0 ≤ f.sorts[i] ∧ f.sorts[i] < sp.sorts.length) ?_ ?_
  · simp [go_sem]
  rintro k st hk ⟨e2, e3, e5, hm, he⟩
  by_cases hlt : k < f.sorts.length
  · have bad : ¬ (0 ≤ f.sorts[k] ∧ f.sorts[k] < sp.sorts.length) → fieldOk sp f = false := by
      intro hb
      have := all_bad (l := f.sorts) (i := k) (p := fun s => decide (0 ≤ s) && decide (s < sp.sorts.length)) hlt (by simp; omega)
      simp only [fieldOk, this, Bool.false_and]
    simp [go_sem, e2, e3, e5, hm, hlt]
    refine DrawGo.intro (by kernel_rfl) ?_
    by_cases ha : f.sorts[k] < 0
    · simp [go_sem, e2, e3, e5, hm, hlt, ha]
      rw [bad (by omega)]
      exact .hf _ (HF.sc _)
    by_cases hb : (sp.sorts.length : Int) ≤ f.sorts[k]
    · simp [go_sem, e2, e3, e5, hm, hlt, ha, hb]
      rw [bad (by omega)]
      exact .hf _ (HF.sc _)
    simp [go_sem, e2, e3, e5, hm, hlt, ha, hb]
    refine ⟨wrap_i64 (by omega) (by omega), fun i h hi => ?_⟩
    rcases Nat.lt_succ_iff_lt_or_eq.1 hi with h2 | h2
    · exact he i h h2
    · subst h2; exact ⟨by omega, by omega⟩
  · have hge : k = f.sorts.length := by omega
    subst hge
    have hall : f.sorts.all (fun s => decide (0 ≤ s) && decide (s < sp.sorts.length)) = true := all_iff_get.2 fun i hi => by simpa using he i hi hi
    by_cases h1 : (1 : Int) ≤ f.sorts.length
    · have h1' : 1 ≤ f.sorts.length := by omega
      by_cases h2 : (f.sorts.length : Int) ≤ 3
      · have h2' : f.sorts.length ≤ 3 := by omega
        simp [go_sem, e2, e3, e5, hm, h1, h2]
        simp only [fieldOk, hall, h1', h2']
        exact .hf _ (HF.sc _)
      · have h2' : ¬ f.sorts.length ≤ 3 := by omega
        simp [go_sem, e2, e3, e5, hm, h1, h2]
        simp only [fieldOk, hall, h1', h2']
        exact .hf _ (HF.sc _)
    · have h1' : ¬ 1 ≤ f.sorts.length := by omega
      simp [go_sem, e2, e3, e5, hm, h1]
      simp only [fieldOk, hall, h1']
      exact .hf _ (HF.sc _)
end Go.Proofs.YtfniceomhfebhaaGreat.N1

set_option linter.unusedVariables false
set_option linter.unusedSimpArgs false
set_option maxRecDepth 100000
/-
  Plain: digits, permutations, images of relations.
-/
namespace Go.Proofs.YtfniceomhfebhaaGreat.L1
open Go Go.Ev Go.Proofs C1 C2 C3 C4 C5 C6 C7 C9 C10 C11 C12 C13 C14 C15 C16 C17 C18 C19 C20 C21 C22 C23 C24 C25 C26 C27 C28 C29 C30 C31 C32 C33 C34 C35

/-! ### digits -/
/-- the value of digits, the highest first -/
def valD (n : Int) : List Int → Int
  | [] => 0
  | d :: l => d * n ^ l.length + valD n l
theorem rankF_go (n : Int) : ∀ (l : List Int) (a : Int), l.foldl (fun o t => o * n + t) a = a * n ^ l.length + valD n l
  | [], a => by simp [valD]
  | d :: l, a => by
    rw [List.foldl_cons, rankF_go n l, valD, List.length_cons, Int.pow_succ]
    rw [Int.add_mul, Int.mul_assoc, Int.mul_comm n (n ^ l.length), Int.add_assoc]
theorem rankF_val (n : Int) (l : List Int) : rankF n l = valD n l := by rw [rankF, rankF_go]; simp
theorem imgN_val (p : List Int) (n t : Int) : ∀ k, imgN p n t k = valD n ((digN n t k).map fun x => gI p x.toNat)
  | 0 => rfl
  | k + 1 => by
    rw [imgN, imgN_val p n t k, digN, List.map_cons, valD, List.length_map, digN_len, Int.add_comm]
/-- all digits are digits -/
def Dg (n : Int) (l : List Int) : Prop := ∀ d, d ∈ l → 0 ≤ d ∧ d < n
theorem Dg.cons {n d : Int} {l : List Int} (h : Dg n (d :: l)) : (0 ≤ d ∧ d < n) ∧ Dg n l := ⟨h d (by simp), fun x hx => h x (by simp [hx])⟩
theorem valD_ok {n : Int} (hn : 1 ≤ n) : ∀ {l : List Int}, Dg n l → 0 ≤ valD n l ∧ valD n l < n ^ l.length
  | [], _ => by simp [valD]
  | d :: l, h => by
    obtain ⟨h1, h2⟩ := h.cons
    have ih := valD_ok hn h2
    have hp : 0 < n ^ l.length := Int.pow_pos (by omega)
    rw [valD, List.length_cons, Int.pow_succ]
    have e1 : 0 ≤ d * n ^ l.length := Int.mul_nonneg h1.1 (by omega)
    have e2 : (d + 1) * n ^ l.length ≤ n * n ^ l.length := Int.mul_le_mul_of_nonneg_right (by omega) (by omega)
    rw [Int.add_mul, Int.one_mul] at e2
    rw [Int.mul_comm (n ^ l.length) n]
    omega
theorem divN_eq (n t : Int) : ∀ k, 0 ≤ n → divN n t k = t / n ^ k
  | 0, _ => by simp [divN]
  | k + 1, h => by
    rw [divN, divN_eq n t k h, Int.pow_succ, Int.ediv_ediv_of_nonneg (Int.pow_nonneg h)]
theorem digN_dg {n t : Int} (hn : 1 ≤ n) : ∀ k, Dg n (digN n t k)
  | 0 => fun d hd => by simp [digN] at hd
  | k + 1 => by
    intro d hd
    rw [digN] at hd
    rcases List.mem_cons.1 hd with rfl | hd
    · exact ⟨Int.emod_nonneg _ (by omega), Int.emod_lt_of_pos _ (by omega)⟩
    · exact digN_dg hn k d hd
/-- the digits of a value are the digits -/
theorem digN_mod {n : Int} (hn : 1 ≤ n) (c : Int) : ∀ (k : Nat) (v : Int), digN n (c * n ^ k + v) k = digN n v k
  | 0, v => rfl
  | k + 1, v => by
    have hp : (0 : Int) < n ^ k := Int.pow_pos (by omega)
    rw [digN, digN, divN_eq n _ k (by omega), divN_eq n _ k (by omega)]
    have e : c * n ^ (k + 1) + v = (c * n) * n ^ k + v := by rw [Int.pow_succ, Int.mul_comm (n ^ k) n, ← Int.mul_assoc]
    rw [e, digN_mod hn (c * n) k v, Int.add_comm, Int.add_mul_ediv_right _ _ (by omega), Int.add_mul_emod_self_right]
theorem digN_val {n : Int} (hn : 1 ≤ n) : ∀ {l : List Int}, Dg n l → digN n (valD n l) l.length = l
  | [], _ => rfl
  | d :: l, h => by
    obtain ⟨h1, h2⟩ := h.cons
    have hv := valD_ok hn h2
    have hp : (0 : Int) < n ^ l.length := Int.pow_pos (by omega)
    rw [valD, List.length_cons, digN, digN_mod hn d l.length, digN_val hn h2, divN_eq n _ _ (by omega)]
    rw [Int.add_comm, Int.add_mul_ediv_right _ _ (by omega), Int.ediv_eq_zero_of_lt hv.1 hv.2, Int.zero_add, Int.emod_eq_of_lt h1.1 h1.2]
theorem val_digN {n : Int} (hn : 1 ≤ n) : ∀ (k : Nat) (t : Int), 0 ≤ t → t < n ^ k → valD n (digN n t k) = t
  | 0, t, h0, h1 => by simp at h1; simp [digN, valD]; omega
  | k + 1, t, h0, h1 => by
    have hp : (0 : Int) < n ^ k := Int.pow_pos (by omega)
    have hdm := Int.mul_ediv_add_emod t (n ^ k)
    have hlt : t / n ^ k < n := by
      rw [Int.pow_succ, Int.mul_comm] at h1
      exact Int.ediv_lt_of_lt_mul hp h1
    have hge : 0 ≤ t / n ^ k := Int.ediv_nonneg h0 (by omega)
    rw [digN, valD, digN_len, divN_eq n t k (by omega), Int.emod_eq_of_lt hge hlt]
    have e : digN n t k = digN n (t % n ^ k) k := by
      have := digN_mod hn (t / n ^ k) k (t % n ^ k)
      rw [Int.mul_comm, hdm] at this
      exact this
    rw [e, val_digN hn k _ (Int.emod_nonneg _ (by omega)) (Int.emod_lt_of_pos _ hp), Int.mul_comm]
    exact hdm
end Go.Proofs.YtfniceomhfebhaaGreat.L1

set_option linter.unusedVariables false
set_option linter.unusedSimpArgs false
set_option maxRecDepth 100000
namespace Go.Proofs.YtfniceomhfebhaaGreat.L2
open Go Go.Ev Go.Proofs C1 C2 C3 C4 C5 C6 C7 C9 C10 C11 C12 C13 C14 C15 C16 C17 C18 C19 C20 C21 C22 C23 C24 C25 C26 C27 C28 C29 C30 C31 C32 C33 C34 C35 L1

/-- a permutation of 0 .. N-1 -/
structure PermL (N : Nat) (p : List Int) : Prop where
  len : p.length = N
  rng : ∀ v, v ∈ p → 0 ≤ v ∧ v < N
  nd : p.Nodup

theorem PermL.surj {N : Nat} {p : List Int} (h : PermL N p) {v : Int} (h0 : 0 ≤ v) (h1 : v < N) : v ∈ p := by
  refine Decidable.byContradiction fun hv => ?_
  have : (v :: p).length ≤ ((List.range N).map fun (i : Nat) => (i : Int)).length := List.Nodup.length_le_of_subset (List.nodup_cons.2 ⟨hv, h.nd⟩) (fun x hx => by
    have hx : 0 ≤ x ∧ x < N := by
      rcases List.mem_cons.1 hx with rfl | hx
      · exact ⟨h0, h1⟩
      · exact h.rng x hx
    exact List.mem_map.2 ⟨x.toNat, by simp; omega, by omega⟩)
  simp [h.len] at this
  omega
theorem nodup_of_surj {N : Nat} {p : List Int} (hl : p.length = N) (h : ∀ v : Int, 0 ≤ v → v < N → v ∈ p) : p.Nodup := by
  unfold List.Nodup
  rw [List.pairwise_iff_getElem]
  intro i j hi hj hij e
  have hsub : ∀ x, x ∈ ((List.range N).map fun (i : Nat) => (i : Int)) → x ∈ p.eraseIdx i := by
    intro x hx
    obtain ⟨k, hk, rfl⟩ := List.mem_map.1 hx
    have hm := h k (by omega) (by simp at hk; omega)
    obtain ⟨q, hq, hqe⟩ := List.mem_iff_getElem.1 hm
    rw [List.mem_eraseIdx_iff_getElem]
    by_cases hqi : q = i
    · subst hqi; exact ⟨j, hj, by omega, by rw [← e]; exact hqe⟩
    · exact ⟨q, hq, hqi, hqe⟩
  have hnd : ((List.range N).map fun (i : Nat) => (i : Int)).Nodup := List.Pairwise.map _ (fun a b hab e => hab (by omega)) List.nodup_range
  have := List.Nodup.length_le_of_subset hnd hsub
  rw [List.length_eraseIdx, if_pos hi] at this
  simp at this; omega
theorem PermL.of_surj {N : Nat} {p : List Int} (hl : p.length = N) (hr : ∀ v, v ∈ p → 0 ≤ v ∧ v < N) (h : ∀ v : Int, 0 ≤ v → v < N → v ∈ p) : PermL N p := ⟨hl, hr, nodup_of_surj hl h⟩

theorem gI_mem {p : List Int} {i : Nat} (h : i < p.length) : gI p i ∈ p := by rw [gI_eq h]; exact List.getElem_mem h
theorem gI_inj {p : List Int} (h : p.Nodup) {i j : Nat} (hi : i < p.length) (hj : j < p.length) (e : gI p i = gI p j) : i = j := by
  rw [gI_eq hi, gI_eq hj] at e
  refine Decidable.byContradiction fun hne => ?_
  rcases Nat.lt_or_gt_of_ne hne with h1 | h1
  · exact List.pairwise_iff_getElem.1 h i j hi hj h1 e
  · exact List.pairwise_iff_getElem.1 h j i hj hi h1 e.symm
theorem mem_gI {p : List Int} {v : Int} (h : v ∈ p) : ∃ i, i < p.length ∧ gI p i = v := by
  obtain ⟨i, hi, e⟩ := List.mem_iff_getElem.1 h
  exact ⟨i, hi, by rw [gI_eq hi]; exact e⟩
theorem list_ext_gI {a b : List Int} (hl : a.length = b.length) (h : ∀ i, i < a.length → gI a i = gI b i) : a = b := by
  apply List.ext_getElem hl
  intro i h1 h2
  have := h i h1
  rwa [gI_eq h1, gI_eq h2] at this

/-- the atom that p maps x to -/
def ap (p : List Int) (x : Nat) : Nat := (gI p x).toNat
theorem PermL.ap_lt {N : Nat} {p : List Int} (h : PermL N p) {x : Nat} (hx : x < N) : ap p x < N := by
  have := h.rng _ (gI_mem (p := p) (i := x) (by rw [h.len]; exact hx))
  unfold ap; omega
theorem PermL.ap_eq {N : Nat} {p : List Int} (h : PermL N p) {x : Nat} (hx : x < N) : gI p x = (ap p x : Int) := by
  have := h.rng _ (gI_mem (p := p) (i := x) (by rw [h.len]; exact hx))
  unfold ap; omega
theorem PermL.ap_inj {N : Nat} {p : List Int} (h : PermL N p) {x y : Nat} (hx : x < N) (hy : y < N) (e : ap p x = ap p y) : x = y :=
  gI_inj h.nd (by rw [h.len]; exact hx) (by rw [h.len]; exact hy) (by rw [h.ap_eq hx, h.ap_eq hy, e])
theorem PermL.ap_surj {N : Nat} {p : List Int} (h : PermL N p) {y : Nat} (hy : y < N) : ∃ x, x < N ∧ ap p x = y := by
  obtain ⟨x, hx, e⟩ := mem_gI (h.surj (v := (y : Int)) (by omega) (by omega))
  exact ⟨x, by rw [← h.len]; exact hx, by unfold ap; omega⟩

/-! ### Valid -/
theorem cntN_get (p : List Int) (hr : ∀ v, v ∈ p → 0 ≤ v ∧ v < p.length) : ∀ k, k ≤ p.length → ∀ v, v < p.length → gI (cntN p k) v = ((p.take k).count (v : Int) : Nat)
  | 0, _, v, hv => by simp [cntN, foldN, gI, hv]
  | k + 1, hk, v, hv => by
    have ih := cntN_get p hr k (by omega)
    have hkl : k < p.length := by omega
    have hm := hr _ (gI_mem hkl)
    have hcl := cntN_len p k
    rw [cntN, foldN_succ, ← cntN, List.take_add_one, List.getElem?_eq_getElem hkl, List.count_append, ← gI_eq hkl]
    by_cases e : (gI p k).toNat = v
    · have : gI ((cntN p k).set (gI p k).toNat (gI (cntN p k) (gI p k).toNat + 1)) v = gI (cntN p k) v + 1 := by
        rw [e]; unfold gI; rw [List.getElem?_set_self (by omega)]; rfl
      rw [this, ih v hv]
      have e2 : gI p k = (v : Int) := by omega
      rw [e2]; simp
    · have : gI ((cntN p k).set (gI p k).toNat (gI (cntN p k) (gI p k).toNat + 1)) v = gI (cntN p k) v := by
        generalize gI (cntN p k) (gI p k).toNat + 1 = z
        generalize (gI p k).toNat = q at e ⊢
        unfold gI; rw [List.getElem?_set_ne e]
      rw [this, ih v hv]
      have e2 : ¬ gI p k = (v : Int) := by omega
      have : (some (gI p k)).toList.count (v : Int) = 0 := by simp [List.count_cons, e2]
      rw [this]; rfl
def KeepS (so : List Int) (N : Nat) (p : List Int) : Prop := ∀ x, x < N → gI so (ap p x) = gI so x
theorem validP_iff {sc : Sc} {N : Nat} (hN : sumI sc.atoms = N) {p : List Int} : validP sc p = true ↔ PermL N p ∧ KeepS (sortsL sc) N p := by
  unfold validP
  rw [Bool.and_eq_true, Bool.and_eq_true, decide_eq_true_eq, decide_eq_true_eq, allN_iff, hN]
  constructor
  · rintro ⟨⟨h1, h2⟩, h3⟩
    have hl : p.length = N := by omega
    have hr : ∀ v, v ∈ p → 0 ≤ v ∧ v < p.length := by
      intro v hv
      obtain ⟨i, hi, rfl⟩ := mem_gI hv
      have := h2 i hi
      simp only [okP, Bool.and_eq_true, decide_eq_true_eq] at this
      exact this.1
    have hs : ∀ v : Int, 0 ≤ v → v < N → v ∈ p := by
      intro v h0 hv
      refine Decidable.byContradiction fun hn => h3 ?_
      have hc := cntN_get p hr p.length (Nat.le_refl _) v.toNat (by omega)
      rw [List.take_length, List.count_eq_zero.2 (by rw [Int.toNat_of_nonneg h0]; exact hn)] at hc
      have hcl := cntN_len p p.length
      have : gI (cntN p p.length) v.toNat ∈ cntN p p.length := gI_mem (by omega)
      rw [hc] at this; exact this
    refine ⟨.of_surj hl (fun v hv => by have := hr v hv; omega) hs, fun x hx => ?_⟩
    have := h2 x (by omega)
    simp only [okP, Bool.and_eq_true, decide_eq_true_eq] at this
    exact this.2
  · rintro ⟨hp, hk⟩
    have hr : ∀ v, v ∈ p → 0 ≤ v ∧ v < p.length := fun v hv => by rw [hp.len]; exact hp.rng v hv
    refine ⟨⟨by rw [hp.len], fun x hx => ?_⟩, fun h0 => ?_⟩
    · have := hr _ (gI_mem hx)
      simp only [okP, Bool.and_eq_true, decide_eq_true_eq]
      exact ⟨this, hk x (by rw [← hp.len]; exact hx)⟩
    · obtain ⟨v, hv, e⟩ := mem_gI h0
      rw [cntN_len] at hv
      rw [cntN_get p hr p.length (Nat.le_refl _) v hv, List.take_length] at e
      have : (v : Int) ∈ p := hp.surj (by omega) (by rw [hp.len] at hv; omega)
      have := List.count_pos_iff.2 this
      omega
end Go.Proofs.YtfniceomhfebhaaGreat.L2

set_option linter.unusedVariables false
set_option linter.unusedSimpArgs false
set_option maxRecDepth 100000
namespace Go.Proofs.YtfniceomhfebhaaGreat.L3
open Go Go.Ev Go.Proofs C1 C2 C3 C4 C5 C6 C7 C9 C10 C11 C12 C13 C14 C15 C16 C17 C18 C19 C20 C21 C22 C23 C24 C25 C26 C27 C28 C29 C30 C31 C32 C33 C34 C35 L1 L2

theorem nodup_perm {α : Type} [DecidableEq α] {l₁ l₂ : List α} (h1 : l₁.Nodup) (h2 : l₂.Nodup) (hs : ∀ x, x ∈ l₁ → x ∈ l₂) (hl : l₂.length ≤ l₁.length) : l₁.Perm l₂ := by
  rw [List.perm_ext_iff_of_nodup h1 h2]
  intro a
  refine ⟨hs a, fun ha => Decidable.byContradiction fun hn => ?_⟩
  have := List.Nodup.length_le_of_subset (List.nodup_cons.2 ⟨hn, h1⟩) (l₂ := l₂) (fun x hx => by
    rcases List.mem_cons.1 hx with rfl | hx
    · exact ha
    · exact hs x hx)
  simp at this; omega
theorem sorted_nodup {l : List Int} (h : sorted l) : l.Nodup := List.Pairwise.imp (fun h e => by omega) h
theorem sorted_le {l : List Int} (h : sorted l) : l.Pairwise (· ≤ ·) := List.Pairwise.imp (fun h => by omega) h
theorem srtI_eq {l m : List Int} (hm : sorted m) (h : l.Perm m) : srtI l = m :=
  List.Perm.eq_of_pairwise (le := (· ≤ ·)) (fun a b _ _ h1 h2 => by omega) (srtI_sorted l) (sorted_le hm) ((srtI_perm l).trans h)
theorem srtI_strict {l : List Int} (h : l.Nodup) : sorted (srtI l) := by
  have h1 := srtI_sorted l
  have h2 : (srtI l).Nodup := (srtI_perm l).nodup_iff.2 h
  unfold sorted
  rw [List.pairwise_iff_getElem] at *
  intro i j hi hj hij
  have := h1 i j hi hj hij
  have := List.pairwise_iff_getElem.1 h2 i j hi hj hij
  omega

/-- what p makes of a tuple -/
abbrev act (p : List Int) (N : Nat) (k : Nat) (t : Int) : Int := imgN p N t k
theorem act_dig {N : Nat} {p : List Int} (hp : PermL N p) (hN : 1 ≤ N) (k : Nat) (t : Int) : digN N (act p N k t) k = (digN N t k).map (fun x => gI p x.toNat) ∧ 0 ≤ act p N k t ∧ act p N k t < (N : Int) ^ k := by
  have hd : Dg N ((digN N t k).map fun x => gI p x.toNat) := by
    intro d hd
    obtain ⟨x, hx, rfl⟩ := List.mem_map.1 hd
    have := digN_dg (n := N) (t := t) (by omega) k x hx
    exact hp.rng _ (gI_mem (by rw [hp.len]; omega))
  have hlen : ((digN N t k).map fun x => gI p x.toNat).length = k := by rw [List.length_map, digN_len]
  have h1 := digN_val (n := N) (by omega) hd
  have h2 := valD_ok (n := N) (by omega) hd
  rw [hlen] at h1 h2
  rw [act, imgN_val]
  exact ⟨h1, h2⟩
theorem map_gI_inj {N : Nat} {p : List Int} (hp : PermL N p) : ∀ {a b : List Int}, Dg N a → Dg N b → a.map (fun x => gI p x.toNat) = b.map (fun x => gI p x.toNat) → a = b
  | [], [], _, _, _ => rfl
  | [], _ :: _, _, _, h => by simp at h
  | _ :: _, [], _, _, h => by simp at h
  | x :: a, y :: b, ha, hb, h => by
    simp only [List.map_cons, List.cons.injEq] at h
    have hx := ha.cons.1
    have hy := hb.cons.1
    have := gI_inj hp.nd (by rw [hp.len]; omega) (by rw [hp.len]; omega) h.1
    have e : x = y := by omega
    rw [e, map_gI_inj hp ha.cons.2 hb.cons.2 h.2]
theorem act_inj {N : Nat} {p : List Int} (hp : PermL N p) (hN : 1 ≤ N) {k : Nat} {t u : Int} (ht : 0 ≤ t ∧ t < (N : Int) ^ k) (hu : 0 ≤ u ∧ u < (N : Int) ^ k) (h : act p N k t = act p N k u) : t = u := by
  have e := (act_dig hp hN k t).1.symm.trans ((congrArg (fun z => digN N z k) h).trans (act_dig hp hN k u).1)
  have := map_gI_inj hp (digN_dg (by omega) k) (digN_dg (by omega) k) e
  rw [← val_digN (n := N) (by omega) k t ht.1 ht.2, ← val_digN (n := N) (by omega) k u hu.1 hu.2, this]

def Closed (p : List Int) (N : Nat) (r : Rl) : Prop := ∀ t, t ∈ r.ts → act p N r.ar.toNat t ∈ r.ts
theorem GRel.pos {N : Nat} {r : Rl} (h : GRel N r) {t : Int} (ht : t ∈ r.ts) : 1 ≤ N := by
  have hv := h.val t ht
  have := h.ar1
  refine Decidable.byContradiction fun hc => ?_
  have : N = 0 := by omega
  subst this
  obtain ⟨k, hk⟩ : ∃ k, r.ar.toNat = k + 1 := ⟨r.ar.toNat - 1, by omega⟩
  rw [hk, Int.pow_succ] at hv
  simp at hv; omega
theorem img_nodup {N : Nat} {p : List Int} (hp : PermL N p) {r : Rl} (g : GRel N r) : (r.ts.map (act p N r.ar.toNat)).Nodup := by
  have hs := sorted_nodup g.srt
  unfold List.Nodup
  rw [List.pairwise_map]
  rw [List.Nodup, List.pairwise_iff_getElem] at hs
  rw [List.pairwise_iff_getElem]
  intro i j hi hj hij e
  exact hs i j hi hj hij (act_inj hp (GRel.pos g (List.getElem_mem hi)) (g.val _ (List.getElem_mem hi)) (g.val _ (List.getElem_mem hj)) e)
theorem relImg_iff {N : Nat} {p : List Int} (hp : PermL N p) {r : Rl} (g : GRel N r) : r = relImg p r ↔ Closed p N r := by
  unfold relImg
  rw [hp.len]
  constructor
  · intro h t ht
    have e : r.ts = srtI (r.ts.map fun t => imgN p N t r.ar.toNat) := congrArg Rl.ts h
    have : act p N r.ar.toNat t ∈ srtI (r.ts.map fun t => imgN p N t r.ar.toNat) := (srtI_perm _).mem_iff.2 (List.mem_map.2 ⟨t, ht, rfl⟩)
    rw [← e] at this; exact this
  · intro h
    have hperm : (r.ts.map fun t => imgN p N t r.ar.toNat).Perm r.ts := nodup_perm (img_nodup hp g) (sorted_nodup g.srt) (fun x hx => by
      obtain ⟨t, ht, rfl⟩ := List.mem_map.1 hx
      exact h t ht) (by simp)
    obtain ⟨ar, ts⟩ := r
    simp only at *
    rw [srtI_eq g.srt hperm]

/-- a symmetry -/
structure SymP (sc : Sc) (N : Nat) (rs : List Rl) (p : List Int) : Prop where
  perm : PermL N p
  keep : KeepS (sortsL sc) N p
  cl : ∀ r, r ∈ rs → Closed p N r
theorem symB_iff {sc : Sc} {bs : List Bd} {N : Nat} (hN : sumI sc.atoms = N) (gr : ∀ r, r ∈ relsOf bs → GRel N r) {p : List Int} : symB sc bs p = true ↔ SymP sc N (relsOf bs) p := by
  unfold symB
  rw [Bool.and_eq_true, validP_iff hN, List.all_eq_true]
  constructor
  · rintro ⟨⟨h1, h2⟩, h3⟩
    exact ⟨h1, h2, fun r hr => (relImg_iff h1 (gr r hr)).1 (by simpa using h3 r hr)⟩
  · rintro ⟨h1, h2, h3⟩
    exact ⟨⟨h1, h2⟩, fun r hr => by simpa using (relImg_iff h1 (gr r hr)).2 (h3 r hr)⟩

/-! ### identity, composition, inverse -/
def idL (N : Nat) : List Int := (List.range N).map fun (i : Nat) => (i : Int)
theorem idL_get {N x : Nat} (h : x < N) : gI (idL N) x = x := by simp [gI, idL, h]
theorem idL_perm (N : Nat) : PermL N (idL N) := .of_surj (by simp [idL]) (fun v hv => by
  obtain ⟨i, hi, rfl⟩ := List.mem_map.1 hv
  simp at hi; omega) (fun v h0 h1 => List.mem_map.2 ⟨v.toNat, by simp; omega, by omega⟩)
theorem comp_get {p q : List Int} {x : Nat} (h : x < q.length) : gI (composeL p q) x = gI p (ap q x) := by
  unfold composeL
  rw [gI_eq (by simpa using h), List.getElem_map, ← gI_eq h]; rfl
theorem comp_perm {N : Nat} {p q : List Int} (hp : PermL N p) (hq : PermL N q) : PermL N (composeL p q) := by
  refine .of_surj (by simp [composeL, hq.len]) (fun v hv => ?_) (fun v h0 h1 => ?_)
  · obtain ⟨x, hx, rfl⟩ := List.mem_map.1 hv
    have := hq.rng x hx
    exact hp.rng _ (gI_mem (by rw [hp.len]; omega))
  · obtain ⟨y, hy, e⟩ := mem_gI (hp.surj h0 h1)
    obtain ⟨x, hx, e2⟩ := hq.ap_surj (y := y) (by rw [← hp.len]; exact hy)
    refine List.mem_map.2 ⟨gI q x, gI_mem (by rw [hq.len]; exact hx), ?_⟩
    rw [← e, ← e2]; rfl
theorem comp_ap {N : Nat} {p q : List Int} (hq : PermL N q) {x : Nat} (h : x < N) : ap (composeL p q) x = ap p (ap q x) := by
  unfold ap; rw [comp_get (by rw [hq.len]; exact h)]; rfl
/-- the inverse, by what it does -/
theorem invN_get {N : Nat} {p : List Int} (hp : PermL N p) : ∀ k, k ≤ N → ∀ x, x < k → gI (invN p k) (ap p x) = x
  | 0, _, x, hx => by omega
  | k + 1, hk, x, hx => by
    have ih := invN_get hp k (by omega)
    rw [invN, foldN_succ, ← invN]
    show gI ((invN p k).set (ap p k) (k : Int)) (ap p x) = x
    have hl : (invN p k).length = N := by rw [invN_len, hp.len]
    by_cases e : x = k
    · subst e
      unfold gI
      rw [List.getElem?_set_self (by rw [hl]; exact hp.ap_lt (by omega))]; rfl
    · have hne : ap p k ≠ ap p x := fun h => e (hp.ap_inj (by omega) (by omega) h.symm)
      have := ih x (by omega)
      unfold gI at this ⊢
      rw [List.getElem?_set_ne hne]; exact this
theorem inv_ok {N : Nat} {p : List Int} (hp : PermL N p) : PermL N (invL p) ∧ ∀ x, x < N → ap (invL p) (ap p x) = x := by
  have hl : (invL p).length = N := by rw [invL, invN_len, hp.len]
  have hg : ∀ x, x < N → gI (invL p) (ap p x) = x := fun x hx => by
    rw [invL, hp.len]; exact invN_get hp N (Nat.le_refl _) x hx
  refine ⟨.of_surj hl (fun v hv => ?_) (fun v h0 h1 => ?_), fun x hx => by unfold ap; rw [show (gI p x).toNat = ap p x from rfl, hg x hx]; omega⟩
  · obtain ⟨y, hy, rfl⟩ := mem_gI hv
    obtain ⟨x, hx, e⟩ := hp.ap_surj (y := y) (by omega)
    rw [← e, hg x hx]; omega
  · have := hg v.toNat (by omega)
    rw [show v = gI (invL p) (ap p v.toNat) by rw [this]; omega]
    exact gI_mem (by rw [hl]; exact hp.ap_lt (by omega))
theorem inv_ap2 {N : Nat} {p : List Int} (hp : PermL N p) {y : Nat} (hy : y < N) : ap p (ap (invL p) y) = y := by
  obtain ⟨x, hx, e⟩ := hp.ap_surj hy
  rw [← e, (inv_ok hp).2 x hx]
theorem perm_ext {N : Nat} {p q : List Int} (hp : PermL N p) (hq : PermL N q) (h : ∀ x, x < N → ap p x = ap q x) : p = q := by
  refine list_ext_gI (by rw [hp.len, hq.len]) fun x hx => ?_
  rw [hp.len] at hx
  rw [hp.ap_eq hx, hq.ap_eq hx, h x hx]

theorem act_comp {N : Nat} {p q : List Int} (hp : PermL N p) (hq : PermL N q) (hN : 1 ≤ N) (k : Nat) (t : Int) : act (composeL p q) N k t = act p N k (act q N k t) := by
  rw [act, act, imgN_val, imgN_val, (act_dig hq hN k t).1, List.map_map]
  congr 1
  refine List.map_congr_left fun x hx => ?_
  have := digN_dg (n := N) (t := t) (by omega) k x hx
  exact comp_get (by rw [hq.len]; omega)
theorem act_id {N : Nat} (hN : 1 ≤ N) (k : Nat) {t : Int} (h0 : 0 ≤ t) (h1 : t < (N : Int) ^ k) : act (idL N) N k t = t := by
  rw [act, imgN_val]
  have : (digN N t k).map (fun x => gI (idL N) x.toNat) = digN N t k := by
    conv => rhs; rw [← List.map_id (digN N t k)]
    refine List.map_congr_left fun x hx => ?_
    have := digN_dg (n := N) (t := t) (by omega) k x hx
    rw [idL_get (by omega)]; simp; omega
  rw [this]; exact val_digN (by omega) k t h0 h1
/-- closed sets: an injection into itself is onto -/
theorem closed_onto {N : Nat} {p : List Int} (hp : PermL N p) {r : Rl} (g : GRel N r) (h : Closed p N r) {u : Int} (hu : u ∈ r.ts) : ∃ t, t ∈ r.ts ∧ act p N r.ar.toNat t = u := by
  have hperm : (r.ts.map (act p N r.ar.toNat)).Perm r.ts := nodup_perm (img_nodup hp g) (sorted_nodup g.srt) (fun x hx => by
    obtain ⟨t, ht, rfl⟩ := List.mem_map.1 hx
    exact h t ht) (by simp)
  obtain ⟨t, ht, e⟩ := List.mem_map.1 (hperm.mem_iff.2 hu)
  exact ⟨t, ht, e⟩

theorem SymP.id {sc : Sc} {N : Nat} {rs : List Rl} (gr : ∀ r, r ∈ rs → GRel N r) : SymP sc N rs (idL N) :=
  ⟨idL_perm N, fun x hx => by unfold ap; rw [idL_get hx]; rfl, fun r hr t ht => by
    have := (gr r hr).val t ht
    rw [act_id (GRel.pos (gr r hr) ht) _ this.1 this.2]; exact ht⟩
theorem SymP.comp {sc : Sc} {N : Nat} {rs : List Rl} (gr : ∀ r, r ∈ rs → GRel N r) {p q : List Int} (h : SymP sc N rs p) (k : SymP sc N rs q) : SymP sc N rs (composeL p q) :=
  ⟨comp_perm h.perm k.perm, fun x hx => by rw [comp_ap k.perm hx, h.keep _ (k.perm.ap_lt hx), k.keep x hx], fun r hr t ht => by
    rw [act_comp h.perm k.perm (GRel.pos (gr r hr) ht)]
    exact h.cl r hr _ (k.cl r hr t ht)⟩
theorem SymP.inv {sc : Sc} {N : Nat} {rs : List Rl} (gr : ∀ r, r ∈ rs → GRel N r) {p : List Int} (h : SymP sc N rs p) : SymP sc N rs (invL p) := by
  obtain ⟨h1, h2⟩ := inv_ok h.perm
  refine ⟨h1, fun x hx => ?_, fun r hr u hu => ?_⟩
  · have := h.keep (ap (invL p) x) (h1.ap_lt hx)
    rw [inv_ap2 h.perm hx] at this
    exact this.symm
  · obtain ⟨t, ht, rfl⟩ := closed_onto h.perm (gr r hr) (h.cl r hr) hu
    have hN := GRel.pos (gr r hr) ht
    have hv := (gr r hr).val t ht
    rw [← act_comp h1 h.perm hN]
    have : composeL (invL p) p = idL N := perm_ext (comp_perm h1 h.perm) (idL_perm N) fun x hx => by
      rw [comp_ap h.perm hx, h2 x hx]; unfold ap; rw [idL_get hx]; rfl
    rw [this, act_id hN _ hv.1 hv.2]; exact ht
end Go.Proofs.YtfniceomhfebhaaGreat.L3

set_option linter.unusedVariables false
set_option linter.unusedSimpArgs false
set_option maxRecDepth 100000
namespace Go.Proofs.YtfniceomhfebhaaGreat.L4
open Go Go.Ev Go.Proofs C1 C2 C3 C4 C5 C6 C7 C9 C10 C11 C12 C13 C14 C15 C16 C17 C18 C19 C20 C21 C22 C23 C24 C25 C26 C27 C28 C29 C30 C31 C32 C33 C34 C35 L1 L2 L3

/-! ### signatures are multisets of words -/
theorem placeW_shift (w : List Int) : ∀ (m : Sig) (i : Nat), placeW w m i = (placeW w m 0).map (· + i)
  | [], i => rfl
  | p :: m, i => by
    rw [placeW, placeW]
    split
    · simp
    · rw [placeW_shift w m (i + 1), placeW_shift w m (0 + 1), Option.map_map]
      congr 1
      funext x
      simp; omega
theorem lookS_nil (w : List Int) : lookS [] w = 0 := rfl
theorem lookS_cons (p : List Int × Int) (m : Sig) (w : List Int) : lookS (p :: m) w = if w = p.1 then p.2 else lookS m w := by
  unfold lookS
  rw [placeW]
  by_cases h : w = p.1
  · rw [if_pos h, if_pos h]; rfl
  · rw [if_neg h, if_neg h, placeW_shift w m (0 + 1)]
    cases placeW w m 0 with
    | none => rfl
    | some i => simp
theorem bump_nil (w : List Int) : bump [] w = [(w, 1)] := rfl
theorem bump_cons (p : List Int × Int) (m : Sig) (w : List Int) : bump (p :: m) w = if w = p.1 then (w, p.2 + 1) :: m else p :: bump m w := by
  unfold bump
  rw [lookS_cons, placeW]
  split
  · rename_i h
    split at h
    · rename_i he
      simp only [Option.some.injEq] at h; subst h
      simp [he]
    · rename_i he
      rw [placeW_shift w m (0 + 1)] at h
      cases hq : placeW w m 0 with
      | none => rw [hq] at h; simp at h
      | some j =>
        rw [hq] at h
        simp at h; subst h
        simp [he, List.set_cons_succ]
  · rename_i h
    split at h
    · simp at h
    · rename_i he
      rw [placeW_shift w m (0 + 1)] at h
      cases hq : placeW w m 0 with
      | none => simp [he]
      | some j => rw [hq] at h; simp at h
theorem lookS_bump (w u : List Int) : ∀ m : Sig, lookS (bump m w) u = lookS m u + if u = w then 1 else 0
  | [] => by rw [bump_nil, lookS_cons, lookS_nil]; split <;> simp [*]
  | p :: m => by
    rw [bump_cons]
    by_cases h : w = p.1
    · rw [if_pos h, lookS_cons, lookS_cons]
      simp only
      by_cases h2 : u = w
      · rw [if_pos h2, if_pos (h2.trans h), if_pos h2]
      · rw [if_neg h2, if_neg (fun e => h2 (e.trans h.symm)), if_neg h2]; omega
    · rw [if_neg h, lookS_cons, lookS_cons, lookS_bump w u m]
      by_cases h2 : u = p.1
      · rw [if_pos h2, if_pos h2, if_neg (fun e => h (e.symm.trans h2))]; omega
      · rw [if_neg h2, if_neg h2]
/-- a well-made signature -/
structure SigW (m : Sig) : Prop where
  nd : (m.map Prod.fst).Nodup
  pos : ∀ p, p ∈ m → 1 ≤ p.2
theorem mem_bump (w : List Int) : ∀ (m : Sig) (u : List Int), u ∈ (bump m w).map Prod.fst ↔ u = w ∨ u ∈ m.map Prod.fst
  | [], u => by simp [bump_nil]
  | p :: m, u => by
    rw [bump_cons]
    by_cases h : w = p.1
    · rw [if_pos h]; simp [h]
    · rw [if_neg h, List.map_cons, List.map_cons, List.mem_cons, List.mem_cons, mem_bump w m u]
      constructor
      · rintro (h | h | h)
        · exact .inr (.inl h)
        · exact .inl h
        · exact .inr (.inr h)
      · rintro (h | h | h)
        · exact .inr (.inl h)
        · exact .inl h
        · exact .inr (.inr h)
theorem SigW.bump {w : List Int} : ∀ {m : Sig}, SigW m → SigW (bump m w)
  | [], h => by rw [bump_nil]; exact ⟨by simp, fun p hp => by simp at hp; subst hp; simp⟩
  | p :: m, h => by
    have hn := h.nd
    rw [List.map_cons, List.nodup_cons] at hn
    rw [bump_cons]
    by_cases e : w = p.1
    · rw [if_pos e]
      refine ⟨by rw [List.map_cons, List.nodup_cons, e]; exact hn, fun q hq => ?_⟩
      rcases List.mem_cons.1 hq with rfl | hq
      · have := h.pos p (by simp); simp; omega
      · exact h.pos q (by simp [hq])
    · rw [if_neg e]
      have ih := SigW.bump (w := w) (m := m) ⟨hn.2, fun q hq => h.pos q (by simp [hq])⟩
      refine ⟨?_, fun q hq => ?_⟩
      · rw [List.map_cons, List.nodup_cons, mem_bump]
        exact ⟨fun hc => hc.elim (fun h => e h.symm) hn.1, ih.nd⟩
      · rcases List.mem_cons.1 hq with rfl | hq
        · exact h.pos q (by simp)
        · exact ih.pos q hq
theorem lookS_mem : ∀ {m : Sig}, SigW m → ∀ p, p ∈ m → lookS m p.1 = p.2
  | [], _, p, hp => by simp at hp
  | q :: m, h, p, hp => by
    have hn := h.nd
    rw [List.map_cons, List.nodup_cons] at hn
    rw [lookS_cons]
    rcases List.mem_cons.1 hp with rfl | hp
    · rw [if_pos rfl]
    · rw [if_neg (fun e => hn.1 (by rw [← e]; exact List.mem_map.2 ⟨p, hp, rfl⟩))]
      exact lookS_mem ⟨hn.2, fun q hq => h.pos q (by simp [hq])⟩ p hp

def sigF (l : List (List Int)) (m : Sig) : Sig := l.foldl bump m
theorem sigF_look : ∀ (l : List (List Int)) (m : Sig) (u : List Int), lookS (sigF l m) u = lookS m u + (l.count u : Nat)
  | [], m, u => by simp [sigF]
  | w :: l, m, u => by
    have := sigF_look l (bump m w) u
    rw [lookS_bump] at this
    show lookS (sigF l (bump m w)) u = _
    rw [this, List.count_cons]
    by_cases h : u = w
    · subst h; simp; omega
    · have h2 : ¬ w = u := fun e => h e.symm
      simp [h, h2]
theorem sigF_mem : ∀ (l : List (List Int)) (m : Sig) (u : List Int), u ∈ (sigF l m).map Prod.fst ↔ u ∈ l ∨ u ∈ m.map Prod.fst
  | [], m, u => by simp [sigF]
  | w :: l, m, u => by
    show u ∈ (sigF l (bump m w)).map Prod.fst ↔ _
    rw [sigF_mem l, mem_bump, List.mem_cons]
    constructor
    · rintro (h | h | h)
      · exact .inl (.inr h)
      · exact .inl (.inl h)
      · exact .inr h
    · rintro ((h | h) | h)
      · exact .inr (.inl h)
      · exact .inl h
      · exact .inr (.inr h)
theorem sigF_w : ∀ (l : List (List Int)) {m : Sig}, SigW m → SigW (sigF l m)
  | [], m, h => h
  | w :: l, m, h => sigF_w l h.bump

theorem sigEq_iff (a b : List (List Int)) : sigEq (sigF a []) (sigF b []) = true ↔ a.Perm b := by
  have w0 : SigW [] := ⟨by simp, fun p hp => by simp at hp⟩
  have wa := sigF_w a w0
  have wb := sigF_w b w0
  have la : ∀ u, lookS (sigF a []) u = (a.count u : Nat) := fun u => by rw [sigF_look, lookS_nil]; simp
  have lb : ∀ u, lookS (sigF b []) u = (b.count u : Nat) := fun u => by rw [sigF_look, lookS_nil]; simp
  have ma : ∀ u, u ∈ (sigF a []).map Prod.fst ↔ u ∈ a := fun u => by rw [sigF_mem]; simp
  have mb : ∀ u, u ∈ (sigF b []).map Prod.fst ↔ u ∈ b := fun u => by rw [sigF_mem]; simp
  unfold sigEq
  rw [Bool.and_eq_true, decide_eq_true_eq, List.all_eq_true]
  constructor
  · rintro ⟨h1, h2⟩
    have hp : ((sigF a []).map Prod.fst).Perm ((sigF b []).map Prod.fst) := nodup_perm wa.nd wb.nd (fun u hu => by
      obtain ⟨p, hp, rfl⟩ := List.mem_map.1 hu
      have := h2 p hp
      rw [decide_eq_true_eq, lb] at this
      have hpos := wa.pos p hp
      rw [mb]
      exact List.count_pos_iff.1 (by omega)) (by simp [h1])
    rw [List.perm_iff_count]
    intro u
    by_cases hu : u ∈ a
    · obtain ⟨p, hp', rfl⟩ := List.mem_map.1 ((ma u).2 hu)
      have e1 := h2 p hp'
      rw [decide_eq_true_eq, lb] at e1
      have e2 := lookS_mem wa p hp'
      rw [la] at e2
      omega
    · have hu2 : ¬ u ∈ b := fun h => hu ((ma u).1 (hp.mem_iff.2 ((mb u).2 h)))
      rw [List.count_eq_zero.2 hu, List.count_eq_zero.2 hu2]
  · intro h
    have hp : ((sigF a []).map Prod.fst).Perm ((sigF b []).map Prod.fst) := (List.perm_ext_iff_of_nodup wa.nd wb.nd).2 fun u => by rw [ma, mb]; exact h.mem_iff
    refine ⟨by simpa using hp.length_eq, fun p hpm => ?_⟩
    rw [decide_eq_true_eq, lb, ← h.count_eq, ← la]
    exact lookS_mem wa p hpm
end Go.Proofs.YtfniceomhfebhaaGreat.L4

set_option linter.unusedVariables false
set_option linter.unusedSimpArgs false
set_option maxRecDepth 100000
namespace Go.Proofs.YtfniceomhfebhaaGreat.L5
open Go Go.Ev Go.Proofs C1 C2 C3 C4 C5 C6 C7 C9 C10 C11 C12 C13 C14 C15 C16 C17 C18 C19 C20 C21 C22 C23 C24 C25 C26 C27 C28 C29 C30 C31 C32 C33 C34 C35 L1 L2 L3 L4

/-! ### which words an atom meets -/
def WD (cls : List Int) (x : Int) (tup : List Int) : List Int := tup.map fun v => if v = x then 0 else gI cls v.toNat + 1
theorem WD_len (cls : List Int) (x : Int) (tup : List Int) : (WD cls x tup).length = tup.length := by simp [WD]
/-- the words of an atom in a relation -/
def wl (N : Nat) (cls : List Int) (r : Rl) (x : Int) : List (List Int) := (r.ts.filter fun t => decide (x ∈ digN N t r.ar.toNat)).map fun t => WD cls x (digN N t r.ar.toNat)

theorem wordN_eq (i : Int) (cls : List Int) (x : Int) (tup : List Int) (h3 : tup.length ≤ 3) : ∀ j, j ≤ tup.length → wordN i cls x tup j = i :: (WD cls x (tup.take j) ++ List.replicate (3 - j) 0)
  | 0, _ => rfl
  | j + 1, h => by
    have ih := wordN_eq i cls x tup h3 j (by omega)
    have hl : (WD cls x (tup.take j)).length = j := by rw [WD_len, List.length_take]; omega
    have e3 : 3 - j = (3 - (j + 1)) + 1 := by omega
    have ht : tup.take (j + 1) = tup.take j ++ [gI tup j] := by rw [List.take_add_one, List.getElem?_eq_getElem (by omega), gI_eq (by omega)]; rfl
    have hw : WD cls x (tup.take (j + 1)) = WD cls x (tup.take j) ++ [if gI tup j = x then 0 else gI cls (gI tup j).toNat + 1] := by
      rw [ht, WD, WD, List.map_append]; rfl
    rw [wordN, foldN_succ, ← wordN, ih, hw]
    generalize WD cls x (tup.take j) = l at *
    by_cases he : gI tup j = x
    · rw [if_pos he, if_pos he, e3, List.replicate_succ]; simp
    · rw [if_neg he, if_neg he, List.set_cons_succ, e3, List.replicate_succ, List.set_append_right _ _ (by omega), hl, Nat.sub_self, List.set_cons_zero]; simp

theorem firstIn_lt (v : Int) : ∀ (l : List Int) (k : Nat) (i : Int), k < l.length → gI l k = v → (firstIn (fun y => decide (y = v)) l i < i + k ↔ v ∈ l.take k) ∧ i ≤ firstIn (fun y => decide (y = v)) l i
  | [], k, i, h, _ => by simp at h
  | y :: l, 0, i, _, hv => by
    have : y = v := hv
    rw [firstIn, if_pos (by simpa using this)]
    simp
  | y :: l, k + 1, i, h, hv => by
    have ih := firstIn_lt v l k (i + 1) (by simpa using h) (by simpa [gI] using hv)
    rw [firstIn]
    by_cases e : y = v
    · rw [if_pos (by simpa using e)]
      refine ⟨⟨fun _ => by simp [e], fun _ => by omega⟩, by omega⟩
    · rw [if_neg (by simpa using e), List.take_succ_cons, List.mem_cons, ← ih.1]
      refine ⟨⟨fun h => .inr (by omega), fun h => ?_⟩, by omega⟩
      rcases h with h | h
      · exact absurd h.symm e
      · omega

theorem gS_set_self {ms : List Sig} {i : Nat} (h : i < ms.length) (m : Sig) : gS (ms.set i m) i = m := by unfold gS; rw [List.getElem?_set_self h]; rfl
theorem gS_set_ne {ms : List Sig} {i j : Nat} (h : i ≠ j) (m : Sig) : gS (ms.set i m) j = gS ms j := by unfold gS; rw [List.getElem?_set_ne h]
theorem tupN_len (i : Int) (cls tup : List Int) (ms : List Sig) : ∀ k, (tupN i cls tup ms k).length = ms.length
  | 0 => rfl
  | k + 1 => by
    rw [tupN, foldN_succ, ← tupN, tupStep]
    split
    · exact tupN_len i cls tup ms k
    · rw [List.length_set]; exact tupN_len i cls tup ms k
theorem tupN_get (N : Nat) (i : Int) (cls tup : List Int) (ms : List Sig) (hd : Dg N tup) (hm : ms.length = N) (x : Nat) (hx : x < N) : ∀ k, k ≤ tup.length →
    gS (tupN i cls tup ms k) x = if (x : Int) ∈ tup.take k then bump (gS ms x) (wordN i cls x tup tup.length) else gS ms x
  | 0, _ => rfl
  | k + 1, hk => by
    have ih := tupN_get N i cls tup ms hd hm x hx k (by omega)
    have hkl : k < tup.length := by omega
    have hv := hd _ (gI_mem hkl)
    have hf := (firstIn_lt (gI tup k) tup k 0 hkl rfl).1
    have ht : tup.take (k + 1) = tup.take k ++ [gI tup k] := by rw [List.take_add_one, List.getElem?_eq_getElem hkl, gI_eq hkl]; rfl
    have hmem : (x : Int) ∈ tup.take (k + 1) ↔ (x : Int) ∈ tup.take k ∨ (x : Int) = gI tup k := by rw [ht, List.mem_append, List.mem_singleton]
    rw [tupN, foldN_succ, ← tupN, tupStep]
    by_cases hin : gI tup k ∈ tup.take k
    · rw [if_pos (by have := hf.2 hin; omega), ih]
      have : (x : Int) ∈ tup.take (k + 1) ↔ (x : Int) ∈ tup.take k := by
        rw [hmem]; exact ⟨fun h => h.elim id (fun e => by rw [e]; exact hin), .inl⟩
      simp only [this]
    · rw [if_neg (fun h => hin (hf.1 (by omega)))]
      by_cases he : (x : Int) = gI tup k
      · have hxi : (gI tup k).toNat = x := by omega
        have hnx : ¬ (x : Int) ∈ tup.take k := by rw [he]; exact hin
        rw [if_neg hnx] at ih
        rw [hxi, gS_set_self (by rw [tupN_len, hm]; exact hx), ih, ← he, if_pos (hmem.2 (.inr he))]
      · rw [gS_set_ne (by omega), ih]
        have : (x : Int) ∈ tup.take (k + 1) ↔ (x : Int) ∈ tup.take k := by
          rw [hmem]; exact ⟨fun h => h.elim id (fun e => absurd e he), .inl⟩
        simp only [this]

/-- the words that a relation adds to an atom's signature -/
def evR (N : Nat) (cls : List Int) (i : Nat) (r : Rl) (x : Nat) (j : Nat) : List (List Int) := ((r.ts.take j).filter fun t => decide ((x : Int) ∈ digN N t r.ar.toNat)).map fun t => wordN i cls x (digN N t r.ar.toNat) r.ar.toNat
theorem relN_len (n i : Int) (cls : List Int) (r : Rl) (ms : List Sig) : ∀ j, (relN n i cls r ms j).length = ms.length
  | 0 => rfl
  | j + 1 => by rw [relN, foldN_succ, ← relN, tupN_len]; exact relN_len n i cls r ms j
theorem relN_get (N : Nat) (cls : List Int) (i : Nat) (r : Rl) (g : GRel N r) (ms : List Sig) (hm : ms.length = N) (x : Nat) (hx : x < N) : ∀ j, j ≤ r.ts.length → gS (relN N i cls r ms j) x = sigF (evR N cls i r x j) (gS ms x)
  | 0, _ => rfl
  | j + 1, hj => by
    have ih := relN_get N cls i r g ms hm x hx j (by omega)
    have hjl : j < r.ts.length := by omega
    have hN := GRel.pos g (gI_mem hjl)
    have ht : r.ts.take (j + 1) = r.ts.take j ++ [gI r.ts j] := by rw [List.take_add_one, List.getElem?_eq_getElem hjl, gI_eq hjl]; rfl
    have hl := digN_len N (gI r.ts j) r.ar.toNat
    have hg := tupN_get N i cls (digN N (gI r.ts j) r.ar.toNat) (relN N i cls r ms j) (digN_dg (by omega) _) (by rw [relN_len]; exact hm) x hx r.ar.toNat (by omega)
    rw [List.take_of_length_le (by omega), hl] at hg
    rw [relN, foldN_succ, ← relN]
    show gS (tupN i cls (digN N (gI r.ts j) r.ar.toNat) (relN N i cls r ms j) r.ar.toNat) x = _
    rw [hg, ih]
    unfold evR
    rw [ht, List.filter_append, List.map_append]
    unfold sigF
    rw [List.foldl_append]
    by_cases h : (x : Int) ∈ digN N (gI r.ts j) r.ar.toNat
    · rw [if_pos h]; simp [h]
    · rw [if_neg h]; simp [h]
def evs (N : Nat) (cls : List Int) (rs : List Rl) (x : Nat) (i : Nat) : List (List Int) := (List.range i).flatMap fun q => evR N cls q (gR rs q) x (gR rs q).ts.length
theorem sigsN_len' (n : Int) (cls : List Int) (rs : List Rl) : ∀ i, (sigsN n cls rs i).length = cls.length
  | 0 => by simp [sigsN, foldN]
  | i + 1 => by rw [sigsN, foldN_succ, ← sigsN, relN_len]; exact sigsN_len' n cls rs i
theorem sigsN_get (N : Nat) (cls : List Int) (hc : cls.length = N) (rs : List Rl) (g : ∀ r, r ∈ rs → GRel N r) (x : Nat) (hx : x < N) : ∀ i, i ≤ rs.length → gS (sigsN N cls rs i) x = sigF (evs N cls rs x i) []
  | 0, _ => by simp [sigsN, foldN, gS, hc, hx, evs, sigF]
  | i + 1, hi => by
    have ih := sigsN_get N cls hc rs g x hx i (by omega)
    have hil : i < rs.length := by omega
    have gr : GRel N (gR rs i) := by rw [gR_eq hil]; exact g _ (List.getElem_mem hil)
    rw [sigsN, foldN_succ, ← sigsN]
    show gS (relN N i cls (gR rs i) (sigsN N cls rs i) (gR rs i).ts.length) x = _
    rw [relN_get N cls i (gR rs i) gr (sigsN N cls rs i) (by rw [sigsN_len', hc]) x hx _ (Nat.le_refl _), ih]
    unfold evs
    rw [List.range_succ, List.flatMap_append]
    unfold sigF
    rw [List.foldl_append]
    simp

def padW (i : Nat) (k : Nat) (w : List Int) : List Int := (i : Int) :: (w ++ List.replicate (3 - k) 0)
theorem evR_eq (N : Nat) (cls : List Int) (i : Nat) (r : Rl) (g : GRel N r) (x : Nat) : evR N cls i r x r.ts.length = (wl N cls r x).map (padW i r.ar.toNat) := by
  unfold evR wl
  rw [List.take_of_length_le (Nat.le_refl _), List.map_map]
  refine List.map_congr_left fun t ht => ?_
  have hl := digN_len N t r.ar.toNat
  have := g.ar3
  have h := wordN_eq i cls x (digN N t r.ar.toNat) (by omega) r.ar.toNat (by omega)
  rw [List.take_of_length_le (by omega)] at h
  exact h
theorem flatMap_one (n i : Nat) (L : List (List Int)) (h : i < n) : ((List.range n).flatMap fun j => if j = i then L else []) = L := by
  induction n with
  | zero => omega
  | succ n ih =>
    rw [List.range_succ, List.flatMap_append]
    by_cases e : i = n
    · subst e
      have : ((List.range i).flatMap fun j => if j = i then L else []) = [] := by
        rw [List.flatMap_eq_nil_iff]
        intro j hj
        rw [if_neg (by simp at hj; omega)]
      rw [this]; simp
    · rw [ih (by omega)]
      have : ¬ n = i := fun h => e h.symm
      simp [this]
theorem flatMap_perm {α β : Type} : ∀ (l : List α) (f g : α → List β), (∀ a, a ∈ l → (f a).Perm (g a)) → (l.flatMap f).Perm (l.flatMap g)
  | [], f, g, _ => .refl _
  | a :: l, f, g, h => by
    rw [List.flatMap_cons, List.flatMap_cons]
    exact (h a (by simp)).append (flatMap_perm l f g fun b hb => h b (by simp [hb]))
/-- equal signatures: the same words in each relation -/
def AlikeW (N : Nat) (rs : List Rl) (cls : List Int) (x y : Nat) : Prop := ∀ r, r ∈ rs → (wl N cls r x).Perm (wl N cls r y)
theorem sigAl_iff (N : Nat) (cls : List Int) (hc : cls.length = N) (rs : List Rl) (g : ∀ r, r ∈ rs → GRel N r) {x y : Nat} (hx : x < N) (hy : y < N) : sigAl N rs cls x y = true ↔ AlikeW N rs cls x y := by
  unfold sigAl sigsOf
  rw [sigsN_get N cls hc rs g x hx rs.length (Nat.le_refl _), sigsN_get N cls hc rs g y hy rs.length (Nat.le_refl _), sigEq_iff]
  have ev : ∀ z : Nat, evs N cls rs z rs.length = (List.range rs.length).flatMap fun q => (wl N cls (gR rs q) z).map (padW q (gR rs q).ar.toNat) := by
    intro z
    unfold evs
    have : ∀ (l : List Nat), (∀ q, q ∈ l → q < rs.length) → (l.flatMap fun q => evR N cls q (gR rs q) z (gR rs q).ts.length) = l.flatMap fun q => (wl N cls (gR rs q) z).map (padW q (gR rs q).ar.toNat) := by
      intro l
      induction l with
      | nil => intro _; rfl
      | cons q l ih =>
        intro h
        have hq := h q (by simp)
        rw [List.flatMap_cons, List.flatMap_cons, ih (fun a ha => h a (by simp [ha])), evR_eq N cls q (gR rs q) (by rw [gR_eq hq]; exact g _ (List.getElem_mem hq))]
    exact this _ (fun q hq => by simpa using hq)
  rw [ev, ev]
  constructor
  · intro h r hr
    obtain ⟨i, hi, rfl⟩ := List.mem_iff_getElem.1 hr
    have hf := h.filter (fun w => decide (w.head? = some (i : Int)))
    have key : ∀ z : Nat, (((List.range rs.length).flatMap fun q => (wl N cls (gR rs q) z).map (padW q (gR rs q).ar.toNat)).filter fun w => decide (w.head? = some (i : Int))) = (wl N cls (gR rs i) z).map (padW i (gR rs i).ar.toNat) := by
      intro z
      rw [List.filter_flatMap]
      have : (fun q => ((wl N cls (gR rs q) z).map (padW q (gR rs q).ar.toNat)).filter fun w => decide (w.head? = some (i : Int))) = fun q => if q = i then (wl N cls (gR rs i) z).map (padW i (gR rs i).ar.toNat) else [] := by
        funext q
        by_cases e : q = i
        · subst e
          rw [if_pos rfl, List.filter_eq_self]
          intro w hw
          obtain ⟨u, _, rfl⟩ := List.mem_map.1 hw
          simp [padW]
        · rw [if_neg e, List.filter_eq_nil_iff]
          intro w hw
          obtain ⟨u, _, rfl⟩ := List.mem_map.1 hw
          simp [padW]; omega
      rw [this]
      exact flatMap_one _ i _ hi
    rw [key, key, gR_eq hi] at hf
    have hm := hf.map fun w => (w.drop 1).take rs[i].ar.toNat
    have back : ∀ z : Nat, ((wl N cls rs[i] z).map (padW i rs[i].ar.toNat)).map (fun w => (w.drop 1).take rs[i].ar.toNat) = wl N cls rs[i] z := by
      intro z
      rw [List.map_map]
      conv => rhs; rw [← List.map_id (wl N cls rs[i] z)]
      refine List.map_congr_left fun w hw => ?_
      obtain ⟨t, _, rfl⟩ := List.mem_map.1 hw
      have hl : (WD cls z (digN N t rs[i].ar.toNat)).length = rs[i].ar.toNat := by rw [WD_len, digN_len]
      simp only [padW, Function.comp_apply, List.drop_succ_cons, List.drop_zero, id_eq]
      rw [List.take_append_of_le_length (by omega), List.take_of_length_le (by omega)]
    rw [back, back] at hm
    exact hm
  · intro h
    refine flatMap_perm _ _ _ fun q hq => ?_
    have hq : q < rs.length := by simpa using hq
    rw [gR_eq hq]
    exact (h _ (List.getElem_mem hq)).map _
end Go.Proofs.YtfniceomhfebhaaGreat.L5

set_option linter.unusedVariables false
set_option linter.unusedSimpArgs false
set_option maxRecDepth 100000
namespace Go.Proofs.YtfniceomhfebhaaGreat.L6
open Go Go.Ev Go.Proofs C1 C2 C3 C4 C5 C6 C7 C9 C10 C11 C12 C13 C14 C15 C16 C17 C18 C19 C20 C21 C22 C23 C24 C25 C26 C27 C28 C29 C30 C31 C32 C33 C34 C35 L1 L2 L3 L4 L5

/-! ### splitting -/
abbrev EQ (c : List Int) (x y : Nat) : Prop := gI c x = gI c y
abbrev Mt (c : List Int) (al : Nat → Nat → Bool) (x y : Nat) : Prop := gI c x = gI c y ∧ al x y = true
theorem mate_none {c : List Int} {al : Nat → Nat → Bool} {x : Nat} : ∀ {y}, mate c al x y = none ↔ ∀ z, z < y → ¬ Mt c al x z
  | 0 => by simp [mate]
  | y + 1 => by
    rw [mate]
    cases hm : mate c al x y with
    | some w =>
      have := mate_some hm
      simp only [reduceCtorEq, false_iff]
      intro h
      exact h w (by omega) this.2
    | none =>
      have ih := mate_none.1 hm
      simp only
      constructor
      · intro h z hz
        by_cases e : z = y
        · subst e
          intro hc
          rw [if_pos hc] at h
          exact absurd h (by simp)
        · exact ih z (by omega)
      · intro h
        rw [if_neg (h y (by omega))]
/-- symmetric and transitive -/
structure PER (n : Nat) (R : Nat → Nat → Prop) : Prop where
  sy : ∀ x y, x < n → y < n → R x y → R y x
  tr : ∀ x y z, x < n → y < n → z < n → R x y → R y z → R x z
theorem PER.le {n m : Nat} {R : Nat → Nat → Prop} (h : PER n R) (hm : m ≤ n) : PER m R := ⟨fun x y hx hy => h.sy x y (by omega) (by omega), fun x y z hx hy hz => h.tr x y z (by omega) (by omega) (by omega)⟩
theorem split_get (c : List Int) (al : Nat → Nat → Bool) (n : Nat) {y : Nat} (hy : y < n) : gI (splitN c al (n + 1)).1 y = gI (splitN c al n).1 y := by
  have ok := splitN_ok c al n
  rw [splitN]
  cases mate c al n n with
  | some z => exact gI_app_left (by omega)
  | none => exact gI_app_left (by omega)
theorem split_iff (c : List Int) (al : Nat → Nat → Bool) : ∀ n, PER n (Mt c al) → ∀ x y, x < n → y < n → (EQ (splitN c al n).1 x y ↔ x = y ∨ Mt c al x y)
  | 0, _, x, y, hx, _ => by omega
  | n + 1, hp, x, y, hx, hy => by
    have ih := split_iff c al n (hp.le (by omega))
    have ok := splitN_ok c al n
    -- a new one against an old one
    have one : ∀ z, z < n → (EQ (splitN c al (n + 1)).1 n z ↔ Mt c al n z) := by
      intro z hz
      unfold EQ
      rw [split_get c al n hz]
      have hlast : gI (splitN c al (n + 1)).1 n = match mate c al n n with | some w => gI (splitN c al n).1 w | none => (splitN c al n).2 := by
        rw [splitN]
        cases mate c al n n with
        | some w => exact gI_app_last (by omega)
        | none => exact gI_app_last (by omega)
      rw [hlast]
      cases hm : mate c al n n with
      | some w =>
        obtain ⟨hw, hmw⟩ := mate_some hm
        simp only
        rw [show (gI (splitN c al n).1 w = gI (splitN c al n).1 z) = EQ (splitN c al n).1 w z from rfl, ih w z hw hz]
        constructor
        · rintro (rfl | h)
          · exact hmw
          · exact hp.tr n w z (by omega) (by omega) (by omega) hmw h
        · intro h
          exact .inr (hp.tr w n z (by omega) (by omega) (by omega) (hp.sy n w (by omega) (by omega) hmw) h)
      | none =>
        simp only
        have hno := mate_none.1 hm z hz
        refine ⟨fun e => ?_, fun h => absurd h hno⟩
        have hzl : z < (splitN c al n).1.length := by omega
        have := ok.2.2.2 _ (gI_mem hzl)
        omega
    by_cases ex : x = n
    · by_cases ey : y = n
      · subst ex; subst ey; simp [EQ]
      · subst ex
        rw [one y (by omega)]
        exact ⟨.inr, fun h => h.elim (fun e => absurd e.symm ey) id⟩
    · by_cases ey : y = n
      · subst ey
        have := one x (by omega)
        unfold EQ at this ⊢
        rw [eq_comm, this]
        exact ⟨fun h => .inr (hp.sy _ _ (by omega) (by omega) h), fun h => h.elim (fun e => absurd e ex) (hp.sy _ _ (by omega) (by omega))⟩
      · unfold EQ
        rw [split_get c al n (by omega), split_get c al n (by omega)]
        exact ih x y (by omega) (by omega)
/-- as many classes as before: nothing is split -/
theorem split_same (c : List Int) (al : Nat → Nat → Bool) : ∀ n, PER n (Mt c al) → (splitN c al n).2 = firstsN c n → ∀ x y, x < n → y < n → EQ c x y → x = y ∨ Mt c al x y
  | 0, _, _, x, y, hx, _, _ => by omega
  | n + 1, hp, he, x, y, hx, hy, hxy => by
    have hge := split_ge c al n
    have hsplit : (splitN c al (n + 1)).2 = (splitN c al n).2 + (match mate c al n n with | some _ => 0 | none => 1) := by
      rw [splitN]
      cases mate c al n n <;> simp
    rw [hsplit, firstsN] at he
    have hle : (match mate c al n n with | some _ => (0 : Int) | none => 1) ≥ (if ∃ y, y < n ∧ gI c y = gI c n then 0 else 1) := by
      cases hm : mate c al n n with
      | some w =>
        have := mate_some hm
        rw [if_pos ⟨w, this.1, this.2.1.symm⟩]; simp
      | none => simp only; split <;> omega
    have e1 : (splitN c al n).2 = firstsN c n := by omega
    have e2 : (match mate c al n n with | some _ => (0 : Int) | none => 1) = (if ∃ y, y < n ∧ gI c y = gI c n then 0 else 1) := by omega
    have ih := split_same c al n (hp.le (by omega)) e1
    have one : ∀ z, z < n → EQ c n z → Mt c al n z := by
      intro z hz h
      rw [if_pos ⟨z, hz, h.symm⟩] at e2
      cases hm : mate c al n n with
      | none => rw [hm] at e2; simp at e2
      | some w =>
        obtain ⟨hw, hmw⟩ := mate_some hm
        rcases ih w z hw hz (hmw.1.symm.trans h) with rfl | h2
        · exact hmw
        · exact hp.tr n w z (by omega) (by omega) (by omega) hmw h2
    by_cases ex : x = n
    · by_cases ey : y = n
      · exact .inl (ex.trans ey.symm)
      · subst ex; exact .inr (one y (by omega) hxy)
    · by_cases ey : y = n
      · subst ey; exact .inr (hp.sy _ _ (by omega) (by omega) (one x (by omega) hxy.symm))
      · exact ih x y (by omega) (by omega) hxy

/-! ### rounds -/
theorem alikeW_per (N : Nat) (rs : List Rl) (c : List Int) : (∀ x, AlikeW N rs c x x) ∧ (∀ x y, AlikeW N rs c x y → AlikeW N rs c y x) ∧ ∀ x y z, AlikeW N rs c x y → AlikeW N rs c y z → AlikeW N rs c x z :=
  ⟨fun x r _ => .refl _, fun x y h r hr => (h r hr).symm, fun x y z h k r hr => (h r hr).trans (k r hr)⟩
theorem sig_per {N : Nat} {rs : List Rl} (g : ∀ r, r ∈ rs → GRel N r) {c : List Int} (hc : c.length = N) : PER N (Mt c (sigAl N rs c)) := by
  obtain ⟨_, h2, h3⟩ := alikeW_per N rs c
  refine ⟨fun x y hx hy h => ⟨h.1.symm, ?_⟩, fun x y z hx hy hz h k => ⟨h.1.trans k.1, ?_⟩⟩
  · rw [sigAl_iff N c hc rs g hy hx]
    exact h2 _ _ ((sigAl_iff N c hc rs g hx hy).1 h.2)
  · rw [sigAl_iff N c hc rs g hx hz]
    exact h3 _ _ _ ((sigAl_iff N c hc rs g hx hy).1 h.2) ((sigAl_iff N c hc rs g hy hz).1 k.2)
theorem round_iff {N : Nat} {rs : List Rl} (g : ∀ r, r ∈ rs → GRel N r) {c : List Int} (hc : c.length = N) {x y : Nat} (hx : x < N) (hy : y < N) : EQ (roundS N rs c).1 x y ↔ EQ c x y ∧ AlikeW N rs c x y := by
  unfold roundS
  have hp := sig_per g hc
  rw [hc, split_iff c _ N hp x y hx hy, Mt, sigAl_iff N c hc rs g hx hy]
  constructor
  · rintro (rfl | h)
    · exact ⟨rfl, (alikeW_per N rs c).1 x⟩
    · exact h
  · exact .inr
theorem round_len {N : Nat} {rs : List Rl} {c : List Int} (hc : c.length = N) : (roundS N rs c).1.length = N := by
  have := (splitN_ok c (sigAl N rs c) c.length).1
  unfold roundS; rw [this, hc]
theorem stab_ind {N : Nat} {rs : List Rl} (Q : List Int → Prop) (h : ∀ c, c.length = N → Q c → Q (roundS N rs c).1) : ∀ (f : Nat) (c : List Int × Int), c.1.length = N → Q c.1 → Q (stabF N rs f c).1
  | 0, c, _, hq => hq
  | f + 1, c, hl, hq => by
    rw [stabF]
    split
    · exact hq
    · exact stab_ind Q h f _ (round_len hl) (h _ hl hq)
theorem stab_fix {N : Nat} {rs : List Rl} : ∀ (f : Nat) (c : List Int × Int), c.1.length = N → firstsN c.1 N = c.2 → (N : Int) + 1 ≤ f + c.2 → (roundS N rs (stabF N rs f c).1).2 = (stabF N rs f c).2
  | 0, c, hl, hf, hN => by
    have := split_ge c.1 (sigAl N rs c.1) N
    have ok := splitN_ok c.1 (sigAl N rs c.1) N
    simp at hN; omega
  | f + 1, c, hl, hf, hN => by
    rw [stabF]
    split
    · assumption
    · rename_i hne
      have h1 := split_ge c.1 (sigAl N rs c.1) N
      have h2 : (roundS N rs c.1).2 = (splitN c.1 (sigAl N rs c.1) N).2 := by unfold roundS; rw [hl]
      have h3 := firsts_split c.1 (sigAl N rs c.1) N
      refine stab_fix f _ (round_len hl) ?_ (by omega)
      unfold roundS; rw [hl]; exact h3
end Go.Proofs.YtfniceomhfebhaaGreat.L6

set_option linter.unusedVariables false
set_option linter.unusedSimpArgs false
set_option maxRecDepth 100000
namespace Go.Proofs.YtfniceomhfebhaaGreat.L7
open Go Go.Ev Go.Proofs C1 C2 C3 C4 C5 C6 C7 C9 C10 C11 C12 C13 C14 C15 C16 C17 C18 C19 C20 C21 C22 C23 C24 C25 C26 C27 C28 C29 C30 C31 C32 C33 C34 C35 L1 L2 L3 L4 L5 L6

/-! ### other names for classes, other places for atoms -/
theorem mem_map_gI {N : Nat} {p : List Int} (hp : PermL N p) {x : Nat} (hx : x < N) : ∀ {tup : List Int}, Dg N tup → ((ap p x : Int) ∈ tup.map (fun v => gI p v.toNat) ↔ (x : Int) ∈ tup)
  | [], _ => by simp
  | v :: tup, h => by
    have hv := h.cons.1
    rw [List.map_cons, List.mem_cons, List.mem_cons, mem_map_gI hp hx h.cons.2]
    have : ((ap p x : Int) = gI p v.toNat) ↔ (x : Int) = v := by
      rw [hp.ap_eq (show v.toNat < N by omega)]
      constructor
      · intro e
        have := hp.ap_inj hx (show v.toNat < N by omega) (by omega)
        omega
      · intro e
        have : v.toNat = x := by omega
        rw [this]
    rw [this]
theorem WD_map {N : Nat} {p : List Int} (hp : PermL N p) {d c : List Int} {H : Int → Int} (h0 : H 0 = 0) (hH : ∀ v, v < N → H (gI d v + 1) = gI c (ap p v) + 1) {x : Nat} (hx : x < N) {tup : List Int} (hd : Dg N tup) :
    WD c (ap p x) (tup.map fun v => gI p v.toNat) = (WD d x tup).map H := by
  unfold WD
  rw [List.map_map, List.map_map]
  refine List.map_congr_left fun v hv => ?_
  have hv := hd v hv
  simp only [Function.comp_apply]
  by_cases e : v = x
  · have e1 : v.toNat = x := by omega
    rw [if_pos e, e1, hp.ap_eq hx, if_pos rfl, h0]
  · have e1 : ¬ gI p v.toNat = (ap p x : Int) := by
      rw [hp.ap_eq (show v.toNat < N by omega)]
      intro h
      have := hp.ap_inj (show v.toNat < N by omega) hx (by omega)
      omega
    rw [if_neg e, if_neg e1, hH v.toNat (by omega)]
    rfl
theorem wl_map {N : Nat} {p : List Int} (hp : PermL N p) {d c : List Int} {H : Int → Int} (h0 : H 0 = 0) (hH : ∀ v, v < N → H (gI d v + 1) = gI c (ap p v) + 1) {x : Nat} (hx : x < N) {r r' : Rl} (har : r'.ar = r.ar) (hts : r'.ts.Perm (r.ts.map (act p N r.ar.toNat))) :
    (wl N c r' (ap p x)).Perm ((wl N d r x).map (List.map H)) := by
  have hN : 1 ≤ N := by omega
  have e1 : (wl N c r' (ap p x)).Perm (((r.ts.map (act p N r.ar.toNat)).filter fun t => decide ((ap p x : Int) ∈ digN N t r.ar.toNat)).map fun t => WD c (ap p x) (digN N t r.ar.toNat)) := by
    unfold wl
    rw [har]
    exact (hts.filter _).map _
  refine e1.trans ?_
  unfold wl
  rw [List.filter_map, List.map_map, List.map_map]
  have e2 : ((fun t => decide ((ap p x : Int) ∈ digN N t r.ar.toNat)) ∘ act p N r.ar.toNat) = fun t => decide ((x : Int) ∈ digN N t r.ar.toNat) := by
    funext t
    simp only [Function.comp_apply]
    rw [(act_dig hp hN r.ar.toNat t).1]
    have := mem_map_gI hp hx (tup := digN N t r.ar.toNat) (digN_dg (by omega) _)
    simp only [this]
  rw [e2]
  have e3 : ((fun t => WD c (ap p x) (digN N t r.ar.toNat)) ∘ act p N r.ar.toNat) = (List.map H ∘ fun t => WD d x (digN N t r.ar.toNat)) := by
    funext t
    simp only [Function.comp_apply]
    rw [(act_dig hp hN r.ar.toNat t).1]
    exact WD_map hp h0 hH hx (digN_dg (by omega) _)
  rw [e3]
/-- relations, moved by p -/
def Moved (N : Nat) (p : List Int) (rs rs' : List Rl) : Prop := ∀ r', r' ∈ rs' → ∃ r, r ∈ rs ∧ r'.ar = r.ar ∧ r'.ts.Perm (r.ts.map (act p N r.ar.toNat))
theorem Moved.closed {N : Nat} {p : List Int} (hp : PermL N p) {rs : List Rl} (g : ∀ r, r ∈ rs → GRel N r) (h : ∀ r, r ∈ rs → Closed p N r) : Moved N p rs rs := fun r hr => by
  refine ⟨r, hr, rfl, (nodup_perm (img_nodup hp (g r hr)) (sorted_nodup (g r hr).srt) (fun x hx => ?_) (by simp)).symm⟩
  obtain ⟨t, ht, rfl⟩ := List.mem_map.1 hx
  exact h r hr t ht
theorem ap_id {N x : Nat} (h : x < N) : ap (idL N) x = x := by unfold ap; rw [idL_get h]; rfl
theorem Moved.sub {N : Nat} {rs rs' : List Rl} (g : ∀ r, r ∈ rs → GRel N r) (h : ∀ r, r ∈ rs' → r ∈ rs) : Moved N (idL N) rs rs' := fun r hr => by
  have gr := g r (h r hr)
  refine ⟨r, h r hr, rfl, ?_⟩
  have : r.ts.map (act (idL N) N r.ar.toNat) = r.ts := by
    conv => rhs; rw [← List.map_id r.ts]
    refine List.map_congr_left fun t ht => ?_
    have hv := gr.val t ht
    exact act_id (GRel.pos gr ht) _ hv.1 hv.2
  rw [this]
theorem Moved.img {N : Nat} {p : List Int} (hp : PermL N p) {rs : List Rl} : Moved N p rs (rs.map (relImg p)) := fun r' hr' => by
  obtain ⟨r, hr, rfl⟩ := List.mem_map.1 hr'
  refine ⟨r, hr, rfl, ?_⟩
  unfold relImg
  rw [hp.len]
  exact srtI_perm _
end Go.Proofs.YtfniceomhfebhaaGreat.L7

set_option linter.unusedVariables false
set_option linter.unusedSimpArgs false
set_option maxRecDepth 100000
namespace Go.Proofs.YtfniceomhfebhaaGreat.L8
open Go Go.Ev Go.Proofs C1 C2 C3 C4 C5 C6 C7 C9 C10 C11 C12 C13 C14 C15 C16 C17 C18 C19 C20 C21 C22 C23 C24 C25 C26 C27 C28 C29 C30 C31 C32 C33 C34 C35 L1 L2 L3 L4 L5 L6 L7

/-! ### sorts -/
def flatS : List Int → Int → List Int
  | [], _ => []
  | a :: l, i => List.replicate a.toNat i ++ flatS l (i + 1)
theorem flatS_snoc (a : Int) : ∀ (l : List Int) (i : Int), flatS (l ++ [a]) i = flatS l i ++ List.replicate a.toNat (i + l.length)
  | [], i => by simp [flatS]
  | b :: l, i => by
    have : i + 1 + (l.length : Int) = i + ((b :: l).length : Int) := by simp; omega
    rw [List.cons_append, flatS, flatS, flatS_snoc a l (i + 1), List.append_assoc, this]
theorem sortsN_flat (atoms : List Int) : ∀ k, k ≤ atoms.length → sortsN atoms k = flatS (atoms.take k) 0
  | 0, _ => rfl
  | k + 1, hk => by
    rw [sortsN, foldN_succ, ← sortsN, sortsN_flat atoms k (by omega), List.take_add_one, List.getElem?_eq_getElem (by omega), Option.toList_some, flatS_snoc, gI_eq (by omega)]
    congr 2
    simp; omega
theorem flatS_get : ∀ (l : List Int) (i : Int) (x : Nat), (∀ a, a ∈ l → 0 ≤ a) → (x : Int) < sumI l → gI (flatS l i) x = sortIn l x i
  | [], i, x, _, h => by simp [sumI] at h; omega
  | a :: l, i, x, ha, h => by
    have h0 := ha a (by simp)
    rw [flatS, sortIn]
    by_cases hx : (x : Int) < a
    · rw [if_pos hx]
      unfold gI
      rw [List.getElem?_append_left (by simp; omega), List.getElem?_replicate, if_pos (by omega)]; rfl
    · rw [if_neg hx]
      have hs : sumI (a :: l) = a + sumI l := rfl
      have ih := flatS_get l (i + 1) (x - a.toNat) (fun b hb => ha b (by simp [hb])) (by omega)
      have e : ((x - a.toNat : Nat) : Int) = (x : Int) - a := by omega
      rw [e] at ih
      rw [← ih]
      unfold gI
      rw [List.getElem?_append_right (by simp; omega)]
      simp
theorem sortsL_get {sc : Sc} (g : GSc sc) {N : Nat} (hN : sumI sc.atoms = N) {x : Nat} (hx : x < N) : gI (sortsL sc) x = sortU sc x := by
  unfold sortsL sortU sortAt
  rw [sortsN_flat sc.atoms _ (Nat.le_refl _), List.take_length, if_neg (by omega)]
  exact flatS_get sc.atoms 0 x (fun a ha => (g.2 a ha).1) (by omega)

/-! ### the stable partition -/
structure StabF (sp : Sp) (sc : Sc) (N : Nat) (rs : List Rl) (c : List Int) (m : Nat) : Prop where
  len : c.length = N
  mle : m ≤ N
  rng : ∀ x, x < N → 0 ≤ gI c x ∧ gI c x < m
  onto : firstsN c N = m
  fine0 : ∀ x y, x < N → y < N → EQ c x y → x = y ∨ alike0 sp sc x y = true
  stab : ∀ x y, x < N → y < N → EQ c x y → AlikeW N rs c x y
theorem alike0_per (sp : Sp) (sc : Sc) (n : Nat) : PER n (Mt (List.replicate n 0) fun x y => alike0 sp sc x y) := by
  have hz : ∀ x y, x < n → y < n → gI (List.replicate n 0) x = gI (List.replicate n 0) y := fun x y hx hy => by simp [gI, hx, hy]
  refine ⟨fun x y hx hy h => ⟨hz y x hy hx, ?_⟩, fun x y z hx hy hz' h k => ⟨hz x z hx hz', ?_⟩⟩
  · have := h.2
    simp only [alike0, Bool.and_eq_true, decide_eq_true_eq] at this ⊢
    rw [← this.1]; exact ⟨rfl, this.2⟩
  · have h1 := h.2
    have h2 := k.2
    simp only [alike0, Bool.and_eq_true, decide_eq_true_eq] at h1 h2 ⊢
    exact ⟨h1.1.trans h2.1, h1.2⟩
theorem cls0_iff {sp : Sp} {sc : Sc} {N : Nat} (hN : sumI sc.atoms = N) {x y : Nat} (hx : x < N) (hy : y < N) : EQ (cls0 sp sc).1 x y ↔ x = y ∨ alike0 sp sc x y = true := by
  unfold cls0
  have e : (sumI sc.atoms).toNat = N := by omega
  rw [e, split_iff _ _ N (alike0_per sp sc N) x y hx hy, Mt]
  have hz : gI (List.replicate N 0) x = gI (List.replicate N 0) y := by simp [gI, hx, hy]
  simp [hz]
theorem cls0_len {sp : Sp} {sc : Sc} {N : Nat} (hN : sumI sc.atoms = N) : (cls0 sp sc).1.length = N ∧ firstsN (cls0 sp sc).1 N = (cls0 sp sc).2 ∧ 0 ≤ (cls0 sp sc).2 := by
  unfold cls0
  have e : (sumI sc.atoms).toNat = N := by omega
  rw [e]
  have ok := splitN_ok (List.replicate N 0) (fun x y => alike0 sp sc x y) N
  exact ⟨ok.1, firsts_split _ _ N, ok.2.1⟩
/-- what a round keeps holds of the stable partition -/
theorem stable_ind {sp : Sp} {sc : Sc} {N : Nat} (hN : sumI sc.atoms = N) (bs : List Bd) (Q : List Int → Prop) (h0 : Q (cls0 sp sc).1) (h : ∀ c, c.length = N → Q c → Q (roundS N (relsOf bs) c).1) : Q (stableS sp sc bs).1 := by
  unfold stableS
  rw [hN]
  exact stab_ind Q h _ _ (cls0_len hN).1 h0
theorem stableF {sp : Sp} {sc : Sc} {N : Nat} (hN : sumI sc.atoms = N) {bs : List Bd} (g : ∀ r, r ∈ relsOf bs → GRel N r) : ∃ m : Nat, (stableS sp sc bs).2 = m ∧ StabF sp sc N (relsOf bs) (stableS sp sc bs).1 m := by
  have ok := stableS_ok sp sc bs N (by omega)
  obtain ⟨m, hm⟩ := Int.eq_ofNat_of_zero_le ok.2.1
  refine ⟨m, hm, ok.1, by omega, fun x hx => ?_, by rw [ok.2.2.2.2, hm], ?_, ?_⟩
  · have := ok.2.2.2.1 _ (gI_mem (p := (stableS sp sc bs).1) (i := x) (by omega)); omega
  · exact stable_ind hN bs (fun c => ∀ x y, x < N → y < N → EQ c x y → x = y ∨ alike0 sp sc x y = true) (fun x y hx hy h => (cls0_iff hN hx hy).1 h)
      (fun c hc hq x y hx hy h => hq x y hx hy ((round_iff g hc hx hy).1 h).1)
  · have hfix : (roundS N (relsOf bs) (stableS sp sc bs).1).2 = (stableS sp sc bs).2 := by
      unfold stableS
      rw [hN]
      have h0 := cls0_len (sp := sp) hN
      exact stab_fix _ _ h0.1 h0.2.1 (by simp; omega)
    intro x y hx hy h
    have hl := ok.1
    have e : (splitN (stableS sp sc bs).1 (sigAl N (relsOf bs) (stableS sp sc bs).1) N).2 = firstsN (stableS sp sc bs).1 N := by
      rw [ok.2.2.2.2, ← hfix]
      unfold roundS
      rw [hl]
    rcases split_same _ _ N (sig_per g hl) e x y hx hy h with rfl | h2
    · exact (alikeW_per N _ _).1 x
    · exact (sigAl_iff N _ hl _ g hx hy).1 h2.2

/-- what fixes the atoms of ordered sorts -/
def FixO (sp : Sp) (sc : Sc) (N : Nat) (p : List Int) : Prop := ∀ x, x < N → ap p x = x ∨ ordAt sp (sortU sc x) = false
/-- a symmetry keeps the classes -/
theorem sym_class {sp : Sp} {sc : Sc} (u : GSc sc) {N : Nat} (hN : sumI sc.atoms = N) {bs : List Bd} (g : ∀ r, r ∈ relsOf bs → GRel N r) {p : List Int} (h : SymP sc N (relsOf bs) p) (hf : FixO sp sc N p) :
    ∀ x, x < N → gI (stableS sp sc bs).1 (ap p x) = gI (stableS sp sc bs).1 x := by
  refine stable_ind hN bs (fun c => ∀ x, x < N → gI c (ap p x) = gI c x) ?_ ?_
  · intro x hx
    have hl := h.perm.ap_lt hx
    refine (cls0_iff hN hl hx).2 ?_
    rcases hf x hx with e | e
    · exact .inl e
    · refine .inr ?_
      have hk := h.keep x hx
      rw [sortsL_get u hN hl, sortsL_get u hN hx] at hk
      simp only [alike0, Bool.and_eq_true, decide_eq_true_eq, Bool.not_eq_true']
      rw [hk]; exact ⟨rfl, e⟩
  · intro c hc hq x hx
    have hl := h.perm.ap_lt hx
    refine (round_iff g hc hl hx).2 ⟨hq x hx, fun r hr => ?_⟩
    obtain ⟨r0, hr0, har, hts⟩ := Moved.closed h.perm g h.cl r hr
    have key : (wl N c r (ap p x)).Perm (wl N c r0 x) := by
      have := wl_map h.perm (d := c) (c := c) (H := fun u => u) rfl (fun v hv => by rw [hq v hv]) hx har hts
      simpa using this
    have hr0r : (wl N c r0 x).Perm (wl N c r x) := by
      have : r0.ts.map (act p N r0.ar.toNat) = r0.ts.map (act p N r0.ar.toNat) := rfl
      -- r and its image are the same set
      have hp2 := Moved.closed h.perm g h.cl
      have hcl := nodup_perm (img_nodup h.perm (g r0 hr0)) (sorted_nodup (g r0 hr0).srt) (fun z hz => by
        obtain ⟨t, ht, rfl⟩ := List.mem_map.1 hz
        exact h.cl r0 hr0 t ht) (by simp)
      have : r.ts.Perm r0.ts := hts.trans hcl
      unfold wl
      rw [har]
      exact (this.symm.filter _).map _
    exact key.trans hr0r
end Go.Proofs.YtfniceomhfebhaaGreat.L8

set_option linter.unusedVariables false
set_option linter.unusedSimpArgs false
set_option maxRecDepth 100000
namespace Go.Proofs.YtfniceomhfebhaaGreat.L9
open Go Go.Ev Go.Proofs C1 C2 C3 C4 C5 C6 C7 C9 C10 C11 C12 C13 C14 C15 C16 C17 C18 C19 C20 C21 C22 C23 C24 C25 C26 C27 C28 C29 C30 C31 C32 C33 C34 C35 L1 L2 L3 L4 L5 L6 L7 L8

/-! ### the search -/
theorem flatMap_congr' {α β : Type} : ∀ (l : List α) (f g : α → List β), (∀ a, a ∈ l → f a = g a) → l.flatMap f = l.flatMap g
  | [], f, g, _ => rfl
  | a :: l, f, g, h => by rw [List.flatMap_cons, List.flatMap_cons, h a (by simp), flatMap_congr' l f g fun b hb => h b (by simp [hb])]
theorem extG_pre (N : Nat) (cls : List Int) (cons : List Int → Bool) : ∀ (d : Nat) (p q : List Int), q ∈ extG N cls cons d p → ∃ s, q = p ++ s ∧ s.length = d
  | 0, p, q, h => ⟨[], by simpa [extG] using h, rfl⟩
  | d + 1, p, q, h => by
    rw [extG, List.mem_flatMap] at h
    obtain ⟨y, _, h⟩ := h
    split at h
    · obtain ⟨s, e, hs⟩ := extG_pre N cls cons d _ q h
      exact ⟨(y : Int) :: s, by rw [e]; simp, by simp [hs]⟩
    · simp at h
/-- all steps from a on, d of them, may be made -/
def okF (cls : List Int) (cons : List Int → Bool) (q : List Int) : Nat → Nat → Bool
  | _, 0 => true
  | a, d + 1 => decide (goOn cls cons (q.take a) (ap q a)) && okF cls cons q (a + 1) d
theorem gI_app_mid {p s : List Int} {y : Int} : gI (p ++ y :: s) p.length = y := by simp [gI]
theorem extG_step {N : Nat} {cls : List Int} {cons : List Int → Bool} {d : Nat} {p q : List Int} {y : Nat} (h : q ∈ extG N cls cons d (p ++ [(y : Int)])) : q.take p.length = p ∧ ap q p.length = y := by
  obtain ⟨s, e, _⟩ := extG_pre N cls cons d _ q h
  have e2 : q = p ++ (y : Int) :: s := by rw [e]; simp
  refine ⟨by rw [e2]; exact List.take_left' rfl, ?_⟩
  · unfold ap; rw [e2, gI_app_mid]; rfl
theorem extG_filter {N : Nat} {cls cls' : List Int} {cons cons' : List Int → Bool} (himp : ∀ (pre : List Int) (y : Nat), pre.length < N → y < N → goOn cls' cons' pre y → goOn cls cons pre y) :
    ∀ (d : Nat) (p : List Int), p.length + d ≤ N → extG N cls' cons' d p = (extG N cls cons d p).filter fun q => okF cls' cons' q p.length d
  | 0, p, _ => by simp [extG, okF]
  | d + 1, p, hd => by
    rw [extG, extG, List.filter_flatMap]
    refine flatMap_congr' _ _ _ fun y hy => ?_
    have hy : y < N := by simpa using hy
    have ih := extG_filter himp d (p ++ [(y : Int)]) (by simp; omega)
    by_cases h : goOn cls' cons' p y
    · rw [if_pos h, if_pos (himp p y (by omega) hy h), ih]
      refine List.filter_congr fun q hq => ?_
      obtain ⟨e1, e2⟩ := extG_step hq
      rw [okF, e1, e2, List.length_append, List.length_singleton]
      simp [h]
    · rw [if_neg h]
      symm
      rw [List.filter_eq_nil_iff]
      intro q hq
      split at hq
      · obtain ⟨e1, e2⟩ := extG_step hq
        rw [okF, e1, e2]
        simp [h]
      · simp at hq
theorem okF_iff {cls : List Int} {cons : List Int → Bool} {q : List Int} : ∀ (d a : Nat), okF cls cons q a d = true ↔ ∀ k, a ≤ k → k < a + d → goOn cls cons (q.take k) (ap q k)
  | 0, a => by
    simp only [okF, true_iff]
    intro k h1 h2; omega
  | d + 1, a => by
    rw [okF, Bool.and_eq_true, decide_eq_true_eq, okF_iff d (a + 1)]
    constructor
    · rintro ⟨h1, h2⟩ k hk1 hk2
      by_cases e : k = a
      · subst e; exact h1
      · exact h2 k (by omega) (by omega)
    · intro h; exact ⟨h a (Nat.le_refl _) (by omega), fun k h1 h2 => h k (by omega) (by omega)⟩
theorem mem_extG {N : Nat} {cls : List Int} {cons : List Int → Bool} : ∀ (d : Nat) (p q : List Int), q ∈ extG N cls cons d p ↔ (∃ s, q = p ++ s ∧ s.length = d) ∧ ∀ k, p.length ≤ k → k < p.length + d → 0 ≤ gI q k ∧ gI q k < N ∧ goOn cls cons (q.take k) (ap q k)
  | 0, p, q => by
    rw [extG, List.mem_singleton]
    constructor
    · rintro rfl; exact ⟨⟨[], by simp, rfl⟩, fun k h1 h2 => by omega⟩
    · rintro ⟨⟨s, e, hs⟩, _⟩
      have := List.eq_nil_of_length_eq_zero hs
      subst this; simpa using e
  | d + 1, p, q => by
    have ih := fun y : Nat => mem_extG (N := N) (cls := cls) (cons := cons) d (p ++ [(y : Int)]) q
    rw [extG, List.mem_flatMap]
    constructor
    · rintro ⟨y, hy, h⟩
      have hy : y < N := by simpa using hy
      split at h
      · rename_i hg
        obtain ⟨e1, e2⟩ := extG_step h
        obtain ⟨⟨s, e, hs⟩, hk⟩ := (ih y).1 h
        refine ⟨⟨(y : Int) :: s, by rw [e]; simp, by simp [hs]⟩, fun k h1 h2 => ?_⟩
        by_cases ek : k = p.length
        · subst ek
          rw [e1, e2]
          have : gI q p.length = y := by rw [e, List.append_assoc]; exact gI_app_mid
          exact ⟨by omega, by omega, hg⟩
        · exact hk k (by simp; omega) (by simp; omega)
      · simp at h
    · rintro ⟨⟨s, e, hs⟩, hk⟩
      obtain ⟨y, s', rfl⟩ : ∃ y s', s = y :: s' := by
        cases s with
        | nil => simp at hs
        | cons y s' => exact ⟨y, s', rfl⟩
      have h0 := hk p.length (Nat.le_refl _) (by omega)
      have hy : gI q p.length = y := by rw [e]; exact gI_app_mid
      rw [hy] at h0
      have hyn : ((y.toNat : Nat) : Int) = y := by omega
      have ht : q.take p.length = p := by rw [e, List.take_left']; rfl
      have hap : ap q p.length = y.toNat := by unfold ap; rw [hy]
      refine ⟨y.toNat, by simp; omega, ?_⟩
      rw [ht, hap] at h0
      rw [if_pos h0.2.2, ih, hyn]
      exact ⟨⟨s', by rw [e]; simp, by simpa using hs⟩, fun k h1 h2 => hk k (by simp at h1; omega) (by simp at h2; omega)⟩

/-- steps that a permutation makes -/
theorem take_succ_gI {q : List Int} {k : Nat} (h : k < q.length) : q.take (k + 1) = q.take k ++ [gI q k] := by rw [List.take_add_one, List.getElem?_eq_getElem h, gI_eq h]; rfl
theorem goOn_perm {N : Nat} {cls : List Int} {cons : List Int → Bool} {q : List Int} (hq : PermL N q) {k : Nat} (hk : k < N) : goOn cls cons (q.take k) (ap q k) ↔ gI cls (ap q k) = gI cls k ∧ cons (q.take (k + 1)) = true := by
  have hkl : k < q.length := by rw [hq.len]; exact hk
  have hl : (q.take k).length = k := by rw [List.length_take]; omega
  unfold goOn
  rw [hl, ← hq.ap_eq hk, ← take_succ_gI hkl]
  have : ¬ gI q k ∈ q.take k := by
    intro h
    obtain ⟨j, hj, e⟩ := List.mem_iff_getElem.1 h
    have hjk : j < k := by rw [hl] at hj; exact hj
    rw [List.getElem_take] at e
    have := gI_inj hq.nd (i := j) (j := k) (by omega) hkl (by rw [gI_eq (by omega)]; exact e)
    omega
  simp [this]
theorem mem_ext0 {N : Nat} {cls : List Int} {cons : List Int → Bool} {q : List Int} : q ∈ extG N cls cons N [] ↔ PermL N q ∧ ∀ k, k < N → gI cls (ap q k) = gI cls k ∧ cons (q.take (k + 1)) = true := by
  rw [mem_extG]
  constructor
  · rintro ⟨⟨s, e, hs⟩, hk⟩
    have e : q = s := by simpa using e
    subst e
    have hp : PermL N q := by
      refine ⟨hs, fun v hv => ?_, ?_⟩
      · obtain ⟨i, hi, rfl⟩ := mem_gI hv
        have := hk i (by simp) (by simp; omega)
        exact ⟨this.1, this.2.1⟩
      · unfold List.Nodup
        rw [List.pairwise_iff_getElem]
        intro i j hi hj hij e
        have hj2 := (hk j (by simp) (by simp; omega))
        have := hj2.2.2.2.1
        refine this ?_
        have ej : ((ap q j : Nat) : Int) = q[j] := by
          have := hj2.1
          unfold ap
          rw [gI_eq hj] at this ⊢; omega
        rw [ej, ← e]
        exact List.mem_iff_getElem.2 ⟨i, by rw [List.length_take]; omega, by rw [List.getElem_take]⟩
    exact ⟨hp, fun k hk' => (goOn_perm hp hk').1 (hk k (by simp) (by simpa using hk')).2.2⟩
  · rintro ⟨hp, h⟩
    refine ⟨⟨q, by simp, hp.len⟩, fun k _ hk => ?_⟩
    have hk : k < N := by simpa using hk
    have := hp.rng _ (gI_mem (p := q) (i := k) (by rw [hp.len]; exact hk))
    exact ⟨this.1, this.2, (goOn_perm hp hk).2 (h k hk)⟩
theorem mem_allS {sc : Sc} {N : Nat} {q : List Int} : q ∈ allS N sc ↔ PermL N q ∧ KeepS (sortsL sc) N q := by
  unfold allS
  rw [mem_ext0]
  exact ⟨fun h => ⟨h.1, fun x hx => (h.2 x hx).1⟩, fun h => ⟨h.1, fun k hk => ⟨h.2 k hk, rfl⟩⟩⟩

/-! ### the pruning -/
theorem maxF_mem {l : List Int} (h : l ≠ []) : maxF l ∈ l := by
  cases l with
  | nil => exact absurd rfl h
  | cons x l =>
    have key : ∀ (l : List Int) (a : Int), l.foldl max a = a ∨ l.foldl max a ∈ l := by
      intro l
      induction l with
      | nil => intro a; exact .inl rfl
      | cons y l ih =>
        intro a
        rw [List.foldl_cons]
        rcases ih (max a y) with h | h
        · rw [h]
          rcases Int.le_total a y with h2 | h2
          · exact .inr (by rw [Int.max_eq_right h2]; simp)
          · exact .inl (Int.max_eq_left h2)
        · exact .inr (by simp [h])
    rcases key l x with h | h
    · show l.foldl max x ∈ x :: l
      rw [h]; simp
    · show l.foldl max x ∈ x :: l
      simp [h]
theorem take_gI {q : List Int} {k x : Nat} (h : x ≤ k) : gI (q.take (k + 1)) x = gI q x := by
  unfold gI; rw [List.getElem?_take, if_pos (by omega)]
theorem cons_iff {N : Nat} {rs : List Rl} (g : ∀ r, r ∈ rs → GRel N r) {q : List Int} (hq : PermL N q) : (∀ k, k < N → consB N rs (q.take (k + 1)) = true) ↔ ∀ r, r ∈ rs → Closed q N r := by
  have img : ∀ (t : Int) (ar k : Nat), 1 ≤ N → (∀ d, d ∈ digN N t ar → d ≤ k) → rankF N ((digN N t ar).map fun x => gI (q.take (k + 1)) x.toNat) = act q N ar t := by
    intro t ar k hN hd
    rw [rankF_val, act, imgN_val]
    congr 1
    refine List.map_congr_left fun x hx => ?_
    have h1 := hd x hx
    have h2 := digN_dg (n := N) (t := t) (by omega) ar x hx
    exact take_gI (by omega)
  have pl : ∀ k, k < N → (q.take (k + 1)).length = k + 1 := fun k hk => by rw [List.length_take, hq.len]; omega
  constructor
  · intro h r hr t ht
    have hN := GRel.pos (g r hr) ht
    have har := (g r hr).ar1
    have hne : digN N t r.ar.toNat ≠ [] := by
      intro e
      have := digN_len N t r.ar.toNat
      rw [e] at this; simp at this; omega
    have hmx := maxF_mem hne
    have hdg := digN_dg (n := N) (t := t) (by omega) r.ar.toNat _ hmx
    obtain ⟨k, hk⟩ := Int.eq_ofNat_of_zero_le hdg.1
    have hkN : k < N := by omega
    have hc := h k hkN
    unfold consB at hc
    rw [List.all_eq_true] at hc
    have hc := hc r hr
    unfold consR at hc
    rw [List.all_eq_true] at hc
    have hc := hc t ht
    unfold cons1 at hc
    rw [Bool.or_eq_true, decide_eq_true_eq, decide_eq_true_eq, pl k hkN, hk] at hc
    rcases hc with hc | hc
    · exact absurd (show (k : Int) = ((k + 1 : Nat) : Int) - 1 by omega) hc
    · rw [img t _ k hN (fun d hd => by have := maxF_le hd; omega)] at hc
      exact hc
  · intro h k hk
    unfold consB
    rw [List.all_eq_true]
    intro r hr
    unfold consR
    rw [List.all_eq_true]
    intro t ht
    have hN := GRel.pos (g r hr) ht
    unfold cons1
    rw [Bool.or_eq_true, decide_eq_true_eq, decide_eq_true_eq, pl k hk]
    by_cases e : maxF (digN N t r.ar.toNat) = ((k + 1 : Nat) : Int) - 1
    · refine .inr ?_
      rw [img t _ k hN (fun d hd => by have := maxF_le hd; omega)]
      exact h r hr t ht
    · exact .inl e
end Go.Proofs.YtfniceomhfebhaaGreat.L9
