/-
  Own library, part 6: an abstract reading of values and a calculus over it; contracts of functions; plain lemmas.
-/
import Derived.Test.YtfniceomhfebhaaGreatMe

set_option linter.unusedVariables false
set_option linter.unusedSimpArgs false
set_option maxRecDepth 100000
namespace Go.Proofs.YtfniceomhfebhaaGreat.N15
open Go Go.Ev Go.Proofs C1 C2 C3 C4 C5 C6 C7 C8 C9 C10 C11 C12 C13 C14 C15 C16 C17 C18 C19 C20 C21 C22 C23 C24 C25 C26 C27 C28 C29 C30 C31 C32 C33 C34 C35 L1 L2 L3 L4 L5 L6 L7 L8 L9 L10 L11 L12 L13 L14 L15 L16 L17 L20 L21 M1 M2 M3 M4 M5 M6 M7 M9 M10 M11 N1 N2 N3 N4 N5 N6 N7 N8 N9 N10 N11 N12 N13 N14 R1 R2 R3 R4 R5 R6 W21

/-! ### armatureref26: Orbit, Canonical, Isomorphic, Stabilizer -/
theorem LoopGo.keepZ {P : Program} {pl : Pol} {body : Code} {Q : AExit → St → Prop} {st : St} (I : Nat → St → Prop) (n : Nat) (h : FzQ (fun _ st => I n st) (.exit 0) st) (k : ∀ n st, I n st → awp P pl body (loopQ (fun n => Keep (I n) .mk) n Q) st) : LoopGo P pl body Q st := by
  obtain ⟨st', f, _, hI⟩ := h
  exact ⟨false, fun n => Keep (I n) .mk, n, st', .step f (.refl _), hI, k⟩
theorem FzQ.ownB {Q : AExit → St → Prop} {i d sz : Nat} {av : AV} {xs : List (List AV)} {st : St} (hd : st.tm d = av) (ho : Own st.mu sz av xs) (wf : rowsWf sz xs) (hf : ∀ r, r ∈ xs → ∀ c, c ∈ r → HF c)
    (k : ∀ mu' full, mu'.length = st.mu.length → (∀ j, blkOf av ≠ some j → mu'[j]? = st.mu[j]?) → Q (.exit i) (st.put (some d) (.lst full xs) mu')) : FzQ Q (.exit i) st := by
  rcases ho with h | ⟨b, h, hc⟩
  · refine FzQ.one (b := st.mu.length) (d := d) (x := .lst true xs) ?_ (k _ _ (cutM_len _ _ _) fun j hj => ?_)
    · rw [hd, h]
      exact .hf _ (HF.lst hf)
    · by_cases hjl : j = st.mu.length
      · rw [hjl, List.getElem?_eq_none (by rw [cutM_len]; exact Nat.le_refl _), List.getElem?_eq_none (Nat.le_refl _)]
      · exact cutM_off hjl _
  · refine FzQ.one (b := b) (d := d) (x := .lst false xs) ?_ (k _ _ (cutM_len _ _ _) fun j hj => cutM_off (fun e => hj (by rw [h, e]; rfl)) _)
    rw [hd]
    exact Own.rd (.inr ⟨b, h, by rw [cutM_at]; exact hc⟩) wf.ok hf
theorem ins_sorted {S : Md → Prop} {ord : Md → Md → Int} (hO : OrdOn ord S) {cur : List Md} {x : Md} (hc : ∀ y, y ∈ cur → S y) (hx : S x) (hp : cur.Pairwise (fun a b => ord a b < 0)) (a : Nat) (ha : a ≤ cur.length)
    (h1 : ∀ (j : Nat) (hj : j < cur.length), a ≤ j → ord x cur[j] ≤ 0) (h2 : ∀ (j : Nat) (hj : j < cur.length), j + 1 = a → 0 < ord x cur[j]) (h3 : ∀ h : a < cur.length, cur[a] ≠ x) :
    (cur.take a ++ x :: cur.drop a).Pairwise (fun a b => ord a b < 0) := by
  have hlt : ∀ (i j : Nat) (hi : i < cur.length) (hj : j < cur.length), i < j → ord cur[i] cur[j] < 0 := fun i j hi hj hij => List.pairwise_iff_getElem.1 hp i j hi hj hij
  have hb : ∀ (j : Nat) (hj : j < cur.length), j < a → ord cur[j] x < 0 := by
    intro j hj hja
    have hl : a - 1 < cur.length := by omega
    have k1 := h2 (a - 1) hl (by omega)
    have k2 := hO.sw x cur[a - 1] hx (hc _ (List.getElem_mem hl))
    by_cases e : j = a - 1
    · subst e; omega
    · exact hO.tr _ _ _ (hc _ (List.getElem_mem hj)) (hc _ (List.getElem_mem hl)) hx (hlt j (a - 1) hj hl (by omega)) (by omega)
  have hd : ∀ (j : Nat) (hj : j < cur.length), a ≤ j → ord x cur[j] < 0 := by
    intro j hj hja
    have hal : a < cur.length := by omega
    have k0 : ord x cur[a] < 0 := by
      have k1 := h1 a hal (Nat.le_refl _)
      have k2 : ord x cur[a] ≠ 0 := fun e => h3 hal (hO.inj _ _ hx (hc _ (List.getElem_mem hal)) e).symm
      omega
    by_cases e : j = a
    · subst e; exact k0
    · exact hO.tr _ _ _ hx (hc _ (List.getElem_mem hal)) (hc _ (List.getElem_mem hj)) k0 (hlt a j hal hj (by omega))
  rw [List.pairwise_append]
  refine ⟨hp.sublist (List.take_sublist _ _), List.pairwise_cons.2 ⟨fun y hy => ?_, hp.sublist (List.drop_sublist _ _)⟩, fun y hy z hz => ?_⟩
  · obtain ⟨j, hj, rfl⟩ := List.getElem_of_mem hy
    rw [List.getElem_drop]
    rw [List.length_drop] at hj
    exact hd (a + j) (by omega) (by omega)
  · obtain ⟨i, hi, rfl⟩ := List.getElem_of_mem hy
    rw [List.length_take] at hi
    rw [List.getElem_take]
    rcases List.mem_cons.1 hz with rfl | hz
    · exact hb i (by omega) (by omega)
    · obtain ⟨j, hj, rfl⟩ := List.getElem_of_mem hz
      rw [List.length_drop] at hj
      rw [List.getElem_drop]
      exact hlt i (a + j) (by omega) (by omega) (by omega)
theorem orbit26 {sp : Sp} {bs : List Bd} {sc : Sc} {n N : Nat} (F : Fit sp sc bs 5 N) {m : Md} (hS : InS sp bs sc n m) : SoundP Tryz.prog 16 [eSp sp, lBd bs, eMd m] (lMd (orbL bs (grpS sp sc N bs) m)) := by
  have hO := ordS (sp := sp) (bs := bs) (sc := sc) (n := n)
  have hN6 : N ≤ 6 := by have := F.le; omega
  have hgl := grp_len F
  obtain ⟨ok1, ok2⟩ := orb_ok F hS
  have hsc := hS.sc
  have hG := group26 F hN6
  have hmod := fun p hp => modelC F hS (p := p) hp
  have himg := fun p hp => hS.img F (p := p) hp
  refine SoundP.of_sound (Sound.of_awp Tryz.call16 Tryz.func16 rfl (Nat.le_of_ble_eq_true (by kernel_rfl)) (by kernel_rfl) (pl := {}) ?_)
  simp [go_sem]
  rw [hsc]
  refine CallStep.pure hG (args3 sp sc bs) ?_
  have hres : ∀ L : List Md, (∀ z, z ∈ L ↔ ∃ p, p ∈ grpS sp sc N bs ∧ mdImg p m = z) → L.Pairwise (fun a b => ordI (freeL bs 0) a b < 0) → L = orbL bs (grpS sp sc N bs) m := by
    intro L hL hp
    refine ord_unique hO (fun y hy => ?_) (fun y hy => iso_in F hS ((ok2 y).1 hy)) hp ok1 (fun z => by rw [hL z, ok2 z, isoB_iff])
    obtain ⟨p, hp, rfl⟩ := (hL y).1 hy
    exact himg p hp
  generalize orbL bs (grpS sp sc N bs) m = LL at *
  generalize grpS sp sc N bs = G at *
  simp [go_sem]
  refine LoopGo.keep (fun q st => ∃ (k : Nat) (cur : List Md), q = G.length - k ∧ k ≤ G.length ∧ st.tm 1 = lBd bs ∧ st.tm 5 = ipMd m ∧ st.tm 7 = lL G ∧ st.tm 9 = aI (k : Nat) ∧ ((∃ full, st.tm 8 = .lst full (cur.map cMd)) ∨ Own st.mu 4 (st.tm 8) (cur.map cMd)) ∧
    cur.length ≤ k ∧ cur.Pairwise (fun a b => ordI (freeL bs 0) a b < 0) ∧ ∀ z, z ∈ cur ↔ ∃ p, p ∈ G.take k ∧ mdImg p m = z) G.length ?_ ?_
  · exact ⟨0, [], by omega, by omega, by simp [go_sem], by simp [go_sem], by simp [go_sem], by simp [go_sem], .inr (.inl (by simp [go_sem])), by simp, .nil, fun z => by simp⟩
  rintro q st ⟨k, cur, rfl, hk, e1, e5, e7, e9, h8, hlen, hpw, hmem⟩
  by_cases hlt : k < G.length
  case neg =>
    have hge : k = G.length := by omega
    subst hge
    rw [List.take_length] at hmem
    have hL := hres cur hmem hpw
    subst hL
    simp [go_sem, e1, e5, e7, e9]
    rcases h8 with ⟨full, h8⟩ | h8
    · rw [h8]
      exact .wk _ full _ (.hf _ (HF.lst (hf_lMd_rows cur)))
    · exact Own.rd h8 (rows_cMd cur).ok (hf_lMd_rows cur)
  have hpk := List.getElem_mem hlt
  have hM := hmod _ hpk
  have hx := himg _ hpk
  have htk : G.take (k + 1) = G.take k ++ [G[k]] := by rw [List.take_add_one, List.getElem?_eq_getElem hlt]; rfl
  have hcur : ∀ y, y ∈ cur → InS sp bs sc n y := fun y hy => by
    obtain ⟨p, hp, rfl⟩ := (hmem y).1 hy
    exact himg p (List.mem_of_mem_take hp)
  have hmem2 : ∀ z, (∃ p, p ∈ G.take (k + 1) ∧ mdImg p m = z) ↔ z ∈ cur ∨ z = mdImg G[k] m := by
    intro z
    rw [htk, hmem z]
    constructor
    · rintro ⟨p, hp, rfl⟩
      rcases List.mem_append.1 hp with hp | hp
      · exact .inl ⟨p, hp, rfl⟩
      · simp at hp; subst hp; exact .inr rfl
    · rintro (⟨p, hp, rfl⟩ | rfl)
      · exact ⟨p, List.mem_append_left _ hp, rfl⟩
      · exact ⟨G[k], List.mem_append_right _ (by simp), rfl⟩
  have hwk : IntKind.i64.wrap ((k : Int) + 1) = ((k + 1 : Nat) : Int) := by rw [wrap_i64 (by omega) (by omega)]; omega
  generalize hgk : G[k] = p at *
  generalize hxe : mdImg p m = x at *
  simp [go_sem, e1, e5, e7, e9, hlt]
  refine DrawGo.intro (by kernel_rfl) ?_
  simp [go_sem, e1, e5, e7, e9, hlt, hgk]
  refine CallStep.pure hM (.cons (.hf (hf_lI p)) (.cons (.hf (hf_eMd m)) .nil)) ?_
  simp [go_sem, e1, e5, e7, e9, hlt]
  refine OptK.intro (aI cur.length) ?_ ?_
  · rcases h8 with ⟨full, h8⟩ | h8
    · simp [h8]
    · rcases h8 with h8 | ⟨b, h8, _⟩ <;> simp [h8]
  simp [go_sem, e1, e5, e7, e9, hlt]
  refine LoopGo.keepZ (fun q st2 => ∃ (a : Nat) (full : Bool), q = a ∧ a ≤ cur.length ∧ st2.tm 1 = lBd bs ∧ st2.tm 5 = ipMd m ∧ st2.tm 7 = lL G ∧ st2.tm 8 = .lst full (cur.map cMd) ∧ st2.tm 9 = aI (k : Nat) ∧ st2.tm 10 = .ptr st.mu.length 0 ∧ st2.tm 11 = aI (a : Nat) ∧ st2.mu[st.mu.length]? = some (.arr (cMd x)) ∧ st2.mu.length = st.mu.length + 1 ∧
    ∀ (j : Nat) (hj : j < cur.length), a ≤ j → ordI (freeL bs 0) x cur[j] ≤ 0) cur.length ?_ ?_
  · rcases h8 with ⟨full, h8⟩ | h8
    · exact FzQ.skip ⟨cur.length, full, rfl, Nat.le_refl _, by simp [go_sem, e1], by simp [go_sem, e5], by simp [go_sem, e7], by simp [go_sem, h8], by simp [go_sem, e9], by simp [go_sem], by simp [go_sem], by simp [go_sem], by simp [go_sem], fun j hj h => by omega⟩
    · refine FzQ.ownB (d := 8) (av := st.tm 8) (by simp [go_sem]) (Own.push h8 [.arr (cMd x)]) (rows_cMd cur) (hf_lMd_rows cur) fun mu' full hl hkeep => ?_
      have hne : blkOf (st.tm 8) ≠ some st.mu.length := fun e => by have := Own.lt h8 e; omega
      exact ⟨cur.length, full, rfl, Nat.le_refl _, by simp [go_sem, e1], by simp [go_sem, e5], by simp [go_sem, e7], by simp [go_sem], by simp [go_sem, e9], by simp [go_sem], by simp [go_sem], by simp only [put_mu]; rw [hkeep _ hne]; simp [go_sem], by simp only [put_mu]; rw [hl]; simp [go_sem], fun j hj h => by omega⟩
  generalize st.mu.length = X at *
  clear e1 e5 e7 e9 h8
  clear st
  rintro a st ⟨_, full, rfl, ha, e1, e5, e7, e8, e9, e10, e11, hm, hml, hle⟩
  have hX : X < st.mu.length := by omega
  have hm' : st.mu[X]'hX = .arr (cMd x) := by
    rw [List.getElem?_eq_getElem hX] at hm
    exact Option.some.inj hm
  simp [go_sem, e1, e5, e7, e8, e9, e10, e11]
  refine DrawGo.intro (by kernel_rfl) ?_
  have htl : List.take cur.length (cur.map cMd) = cur.map cMd := List.take_of_length_le (by simp)
  have hrok : rowsOk 4 (cur.map cMd) := (rows_cMd cur).ok
  by_cases ha0 : a = 0
  · have hstop : ∀ (j : Nat) (hj : j < cur.length), j + 1 = a → 0 < ordI (freeL bs 0) x cur[j] := fun j hj h => by omega
    simp [go_sem, e1, e5, e7, e8, e9, e10, e11, hm, hX, hm', show ¬ (0 : Int) < a by omega, show ¬ 0 < a by omega]
    refine DrawGo.intro (by kernel_rfl) ?_
    by_cases hal : a < cur.length
    · have hsame := sameModels11 cur[a] x (fv_sm (hcur _ (List.getElem_mem hal)).f)
      have hals := hal
      by_cases heq : cur[a] = x
      · rw [decide_eq_true heq] at hsame
        simp [go_sem, e1, e5, e7, e8, e9, e10, e11, hm, hX, hm', hal]
        refine CallStep.pure hsame (.cons (.hf (hf_eMd _)) (.cons (.hf (hf_eMd x)) .nil)) ?_
        simp [go_sem, e1, e5, e7, e8, e9, e10, e11, hm, hX, hm', hal]
        refine Keep.loop (G.length - (k + 1)) (by omega) ⟨k + 1, cur, rfl, by omega, by simp [go_sem, e1], by simp [go_sem, e5], by simp [go_sem, e7], by simp [go_sem, hwk], .inl ⟨full, by simp [go_sem, e8]⟩, by omega, hpw, fun z => ?_⟩
        rw [hmem2 z]
        refine ⟨fun h => .inl h, fun h => ?_⟩
        rcases h with h | rfl
        · exact h
        · rw [← heq]; exact List.getElem_mem hal
      · rw [decide_eq_false heq] at hsame
        simp [go_sem, e1, e5, e7, e8, e9, e10, e11, hm, hX, hm', hal]
        refine CallStep.pure hsame (.cons (.hf (hf_eMd _)) (.cons (.hf (hf_eMd x)) .nil)) ?_
        simp [go_sem, e1, e5, e7, e8, e9, e10, e11, hm, hX, hm', hal, ha]
        refine ⟨⟨_, _, ⟨rfl, rfl⟩, hrok⟩, ?_⟩
        refine AppendStep.ownB (e := 34) (sz := 4) (bt := 64) (zv := .agg [.lst true [], aI 0, .lst true [], aI 0]) (xs := []) (ys := (cur.take a).map cMd) (by simp [go_sem]) (by simp [go_sem]) (by simp [go_sem]) rfl rfl (by omega) (by omega) (.inl rfl) (by simp [rowsOf, List.map_take]) (rows_cMd []) (rows_cMd _) (by simp; omega) ?_
        intro av1 mu1 ho1 hk1 hb1 hl1
        have hm1 := hk1 X hX (by simp [blkOf])
        rw [hm] at hm1
        have hX1 : X < mu1.length := by omega
        have hm1' : mu1[X]'hX1 = .arr (cMd x) := by
          rw [List.getElem?_eq_getElem hX1] at hm1
          exact Option.some.inj hm1
        have hX2 : blkOf av1 ≠ some X := fun e => by have := hb1 X e; omega
        simp [go_sem, e1, e5, e7, e8, e9, e10, e11, hm, hX, hm', hal, ha, hm1, hX1, hm1']
        refine AppendStep.ownB (e := 34) (sz := 4) (bt := 64) (zv := .agg [.lst true [], aI 0, .lst true [], aI 0]) (xs := (cur.take a).map cMd) (ys := [cMd x]) (by simp [go_sem]) (by simp [go_sem]) (by simp [go_sem]) rfl rfl (by omega) (by omega) (by simpa using ho1) (by simp [rowsOf]) (rows_cMd _) (rows_cMd [x]) (by simp; omega) ?_
        intro av2 mu2 ho2 hk2 hb2 hl2
        simp [go_sem, e1, e5, e7, e8, e9, e10, e11, hm, hX, hm', hal, ha]
        refine ⟨⟨_, _, ⟨rfl, rfl⟩, hrok⟩, ?_⟩
        refine AppendStep.ownB (e := 34) (sz := 4) (bt := 64) (zv := .agg [.lst true [], aI 0, .lst true [], aI 0]) (xs := (cur.take a ++ [x]).map cMd) (ys := (cur.drop a).map cMd) (by simp [go_sem]) (by simp [go_sem]) (by simp [go_sem]) rfl rfl (by omega) (by omega) (by simpa using ho2) (by simp [rowsOf, List.map_drop, htl]) (rows_cMd _) (rows_cMd _) (by simp; omega) ?_
        intro av3 mu3 ho3 hk3 hb3 hl3
        simp [go_sem, e1, e5, e7, e8, e9, e10, e11, hm, hX, hm', hal, ha]
        refine Keep.loop (G.length - (k + 1)) (by omega) ⟨k + 1, cur.take a ++ x :: cur.drop a, rfl, by omega, by simp [go_sem, e1], by simp [go_sem, e5], by simp [go_sem, e7], by simp [go_sem, hwk], .inr (by simpa [go_sem] using ho3), by simp; omega, ins_sorted hO hcur hx hpw a ha hle hstop fun _ => heq, fun z => ?_⟩
        rw [hmem2 z]
        conv => rhs; rw [← List.take_append_drop a cur]
        simp only [List.mem_append, List.mem_cons]
        constructor
        · rintro (h | h | h)
          · exact .inl (.inl h)
          · exact .inr h
          · exact .inl (.inr h)
        · rintro ((h | h) | h)
          · exact .inl h
          · exact .inr (.inr h)
          · exact .inr (.inl h)
    · simp [go_sem, e1, e5, e7, e8, e9, e10, e11, hm, hX, hm', hal, ha]
      refine ⟨⟨_, _, ⟨rfl, rfl⟩, hrok⟩, ?_⟩
      refine AppendStep.ownB (e := 34) (sz := 4) (bt := 64) (zv := .agg [.lst true [], aI 0, .lst true [], aI 0]) (xs := []) (ys := (cur.take a).map cMd) (by simp [go_sem]) (by simp [go_sem]) (by simp [go_sem]) rfl rfl (by omega) (by omega) (.inl rfl) (by simp [rowsOf, List.map_take]) (rows_cMd []) (rows_cMd _) (by simp; omega) ?_
      intro av1 mu1 ho1 hk1 hb1 hl1
      have hm1 := hk1 X hX (by simp [blkOf])
      rw [hm] at hm1
      have hX1 : X < mu1.length := by omega
      have hm1' : mu1[X]'hX1 = .arr (cMd x) := by
        rw [List.getElem?_eq_getElem hX1] at hm1
        exact Option.some.inj hm1
      have hX2 : blkOf av1 ≠ some X := fun e => by have := hb1 X e; omega
      simp [go_sem, e1, e5, e7, e8, e9, e10, e11, hm, hX, hm', hal, ha, hm1, hX1, hm1']
      refine AppendStep.ownB (e := 34) (sz := 4) (bt := 64) (zv := .agg [.lst true [], aI 0, .lst true [], aI 0]) (xs := (cur.take a).map cMd) (ys := [cMd x]) (by simp [go_sem]) (by simp [go_sem]) (by simp [go_sem]) rfl rfl (by omega) (by omega) (by simpa using ho1) (by simp [rowsOf]) (rows_cMd _) (rows_cMd [x]) (by simp; omega) ?_
      intro av2 mu2 ho2 hk2 hb2 hl2
      simp [go_sem, e1, e5, e7, e8, e9, e10, e11, hm, hX, hm', hal, ha]
      refine ⟨⟨_, _, ⟨rfl, rfl⟩, hrok⟩, ?_⟩
      refine AppendStep.ownB (e := 34) (sz := 4) (bt := 64) (zv := .agg [.lst true [], aI 0, .lst true [], aI 0]) (xs := (cur.take a ++ [x]).map cMd) (ys := (cur.drop a).map cMd) (by simp [go_sem]) (by simp [go_sem]) (by simp [go_sem]) rfl rfl (by omega) (by omega) (by simpa using ho2) (by simp [rowsOf, List.map_drop, htl]) (rows_cMd _) (rows_cMd _) (by simp; omega) ?_
      intro av3 mu3 ho3 hk3 hb3 hl3
      simp [go_sem, e1, e5, e7, e8, e9, e10, e11, hm, hX, hm', hal, ha]
      refine Keep.loop (G.length - (k + 1)) (by omega) ⟨k + 1, cur.take a ++ x :: cur.drop a, rfl, by omega, by simp [go_sem, e1], by simp [go_sem, e5], by simp [go_sem, e7], by simp [go_sem, hwk], .inr (by simpa [go_sem] using ho3), by simp; omega, ins_sorted hO hcur hx hpw a ha hle hstop fun h => absurd h hal, fun z => ?_⟩
      rw [hmem2 z]
      conv => rhs; rw [← List.take_append_drop a cur]
      simp only [List.mem_append, List.mem_cons]
      constructor
      · rintro (h | h | h)
        · exact .inl (.inl h)
        · exact .inr h
        · exact .inl (.inr h)
      · rintro ((h | h) | h)
        · exact .inl h
        · exact .inr (.inr h)
        · exact .inr (.inl h)
  · have ha1 : a - 1 < cur.length := by omega
    have hord := order26 x cur[a - 1] hx (hcur _ (List.getElem_mem ha1))
    have hw1 : IntKind.i64.wrap ((a : Int) - 1) = ((a - 1 : Nat) : Int) := by rw [wrap_i64 (by omega) (by omega)]; omega
    generalize hy : cur[a - 1] = y at *
    simp [go_sem, e1, e5, e7, e8, e9, e10, e11, hm, hX, hm', hw1, ha1, hy, show (0 : Int) < a by omega, show 0 < a by omega]
    refine CallStep.pure hord (.cons (.hf (hf_lBd bs)) (.cons (.hf (hf_eMd x)) (.cons (.hf (hf_eMd y)) .nil))) ?_
    by_cases hz : ordI (freeL bs 0) x y ≤ 0
    · simp [go_sem, e1, e5, e7, e8, e9, e10, e11, hm, hX, hm', hw1, ha1, hy, show (0 : Int) < a by omega, hz]
      refine Keep.loop (a - 1) (by omega) ⟨a - 1, full, rfl, by omega, by simp [go_sem, e1], by simp [go_sem, e5], by simp [go_sem, e7], by simp [go_sem, e8], by simp [go_sem, e9], by simp [go_sem, e10], by simp [go_sem, hw1], by simp [go_sem, hm], by simp [go_sem, hml], fun j hj h => ?_⟩
      by_cases e : j = a - 1
      · subst e; rw [hy]; exact hz
      · exact hle j hj (by omega)
    · simp [go_sem, e1, e5, e7, e8, e9, e10, e11, hm, hX, hm', hw1, ha1, hy, show (0 : Int) < a by omega, hz]
      have hstop : ∀ (j : Nat) (hj : j < cur.length), j + 1 = a → 0 < ordI (freeL bs 0) x cur[j] := fun j hj h => by
        have : j = a - 1 := by omega
        subst this
        rw [hy]; omega
      refine DrawGo.intro (by kernel_rfl) ?_
      by_cases hal : a < cur.length
      · have hsame := sameModels11 cur[a] x (fv_sm (hcur _ (List.getElem_mem hal)).f)
        have hals := hal
        by_cases heq : cur[a] = x
        · rw [decide_eq_true heq] at hsame
          simp [go_sem, e1, e5, e7, e8, e9, e10, e11, hm, hX, hm', hal]
          refine CallStep.pure hsame (.cons (.hf (hf_eMd _)) (.cons (.hf (hf_eMd x)) .nil)) ?_
          simp [go_sem, e1, e5, e7, e8, e9, e10, e11, hm, hX, hm', hal]
          refine Keep.loop (G.length - (k + 1)) (by omega) ⟨k + 1, cur, rfl, by omega, by simp [go_sem, e1], by simp [go_sem, e5], by simp [go_sem, e7], by simp [go_sem, hwk], .inl ⟨full, by simp [go_sem, e8]⟩, by omega, hpw, fun z => ?_⟩
          rw [hmem2 z]
          refine ⟨fun h => .inl h, fun h => ?_⟩
          rcases h with h | rfl
          · exact h
          · rw [← heq]; exact List.getElem_mem hal
        · rw [decide_eq_false heq] at hsame
          simp [go_sem, e1, e5, e7, e8, e9, e10, e11, hm, hX, hm', hal]
          refine CallStep.pure hsame (.cons (.hf (hf_eMd _)) (.cons (.hf (hf_eMd x)) .nil)) ?_
          simp [go_sem, e1, e5, e7, e8, e9, e10, e11, hm, hX, hm', hal, ha]
          refine ⟨⟨_, _, ⟨rfl, rfl⟩, hrok⟩, ?_⟩
          refine AppendStep.ownB (e := 34) (sz := 4) (bt := 64) (zv := .agg [.lst true [], aI 0, .lst true [], aI 0]) (xs := []) (ys := (cur.take a).map cMd) (by simp [go_sem]) (by simp [go_sem]) (by simp [go_sem]) rfl rfl (by omega) (by omega) (.inl rfl) (by simp [rowsOf, List.map_take]) (rows_cMd []) (rows_cMd _) (by simp; omega) ?_
          intro av1 mu1 ho1 hk1 hb1 hl1
          have hm1 := hk1 X hX (by simp [blkOf])
          rw [hm] at hm1
          have hX1 : X < mu1.length := by omega
          have hm1' : mu1[X]'hX1 = .arr (cMd x) := by
            rw [List.getElem?_eq_getElem hX1] at hm1
            exact Option.some.inj hm1
          have hX2 : blkOf av1 ≠ some X := fun e => by have := hb1 X e; omega
          simp [go_sem, e1, e5, e7, e8, e9, e10, e11, hm, hX, hm', hal, ha, hm1, hX1, hm1']
          refine AppendStep.ownB (e := 34) (sz := 4) (bt := 64) (zv := .agg [.lst true [], aI 0, .lst true [], aI 0]) (xs := (cur.take a).map cMd) (ys := [cMd x]) (by simp [go_sem]) (by simp [go_sem]) (by simp [go_sem]) rfl rfl (by omega) (by omega) (by simpa using ho1) (by simp [rowsOf]) (rows_cMd _) (rows_cMd [x]) (by simp; omega) ?_
          intro av2 mu2 ho2 hk2 hb2 hl2
          simp [go_sem, e1, e5, e7, e8, e9, e10, e11, hm, hX, hm', hal, ha]
          refine ⟨⟨_, _, ⟨rfl, rfl⟩, hrok⟩, ?_⟩
          refine AppendStep.ownB (e := 34) (sz := 4) (bt := 64) (zv := .agg [.lst true [], aI 0, .lst true [], aI 0]) (xs := (cur.take a ++ [x]).map cMd) (ys := (cur.drop a).map cMd) (by simp [go_sem]) (by simp [go_sem]) (by simp [go_sem]) rfl rfl (by omega) (by omega) (by simpa using ho2) (by simp [rowsOf, List.map_drop, htl]) (rows_cMd _) (rows_cMd _) (by simp; omega) ?_
          intro av3 mu3 ho3 hk3 hb3 hl3
          simp [go_sem, e1, e5, e7, e8, e9, e10, e11, hm, hX, hm', hal, ha]
          refine Keep.loop (G.length - (k + 1)) (by omega) ⟨k + 1, cur.take a ++ x :: cur.drop a, rfl, by omega, by simp [go_sem, e1], by simp [go_sem, e5], by simp [go_sem, e7], by simp [go_sem, hwk], .inr (by simpa [go_sem] using ho3), by simp; omega, ins_sorted hO hcur hx hpw a ha hle hstop fun _ => heq, fun z => ?_⟩
          rw [hmem2 z]
          conv => rhs; rw [← List.take_append_drop a cur]
          simp only [List.mem_append, List.mem_cons]
          constructor
          · rintro (h | h | h)
            · exact .inl (.inl h)
            · exact .inr h
            · exact .inl (.inr h)
          · rintro ((h | h) | h)
            · exact .inl h
            · exact .inr (.inr h)
            · exact .inr (.inl h)
      · simp [go_sem, e1, e5, e7, e8, e9, e10, e11, hm, hX, hm', hal, ha]
        refine ⟨⟨_, _, ⟨rfl, rfl⟩, hrok⟩, ?_⟩
        refine AppendStep.ownB (e := 34) (sz := 4) (bt := 64) (zv := .agg [.lst true [], aI 0, .lst true [], aI 0]) (xs := []) (ys := (cur.take a).map cMd) (by simp [go_sem]) (by simp [go_sem]) (by simp [go_sem]) rfl rfl (by omega) (by omega) (.inl rfl) (by simp [rowsOf, List.map_take]) (rows_cMd []) (rows_cMd _) (by simp; omega) ?_
        intro av1 mu1 ho1 hk1 hb1 hl1
        have hm1 := hk1 X hX (by simp [blkOf])
        rw [hm] at hm1
        have hX1 : X < mu1.length := by omega
        have hm1' : mu1[X]'hX1 = .arr (cMd x) := by
          rw [List.getElem?_eq_getElem hX1] at hm1
          exact Option.some.inj hm1
        have hX2 : blkOf av1 ≠ some X := fun e => by have := hb1 X e; omega
        simp [go_sem, e1, e5, e7, e8, e9, e10, e11, hm, hX, hm', hal, ha, hm1, hX1, hm1']
        refine AppendStep.ownB (e := 34) (sz := 4) (bt := 64) (zv := .agg [.lst true [], aI 0, .lst true [], aI 0]) (xs := (cur.take a).map cMd) (ys := [cMd x]) (by simp [go_sem]) (by simp [go_sem]) (by simp [go_sem]) rfl rfl (by omega) (by omega) (by simpa using ho1) (by simp [rowsOf]) (rows_cMd _) (rows_cMd [x]) (by simp; omega) ?_
        intro av2 mu2 ho2 hk2 hb2 hl2
        simp [go_sem, e1, e5, e7, e8, e9, e10, e11, hm, hX, hm', hal, ha]
        refine ⟨⟨_, _, ⟨rfl, rfl⟩, hrok⟩, ?_⟩
        refine AppendStep.ownB (e := 34) (sz := 4) (bt := 64) (zv := .agg [.lst true [], aI 0, .lst true [], aI 0]) (xs := (cur.take a ++ [x]).map cMd) (ys := (cur.drop a).map cMd) (by simp [go_sem]) (by simp [go_sem]) (by simp [go_sem]) rfl rfl (by omega) (by omega) (by simpa using ho2) (by simp [rowsOf, List.map_drop, htl]) (rows_cMd _) (rows_cMd _) (by simp; omega) ?_
        intro av3 mu3 ho3 hk3 hb3 hl3
        simp [go_sem, e1, e5, e7, e8, e9, e10, e11, hm, hX, hm', hal, ha]
        refine Keep.loop (G.length - (k + 1)) (by omega) ⟨k + 1, cur.take a ++ x :: cur.drop a, rfl, by omega, by simp [go_sem, e1], by simp [go_sem, e5], by simp [go_sem, e7], by simp [go_sem, hwk], .inr (by simpa [go_sem] using ho3), by simp; omega, ins_sorted hO hcur hx hpw a ha hle hstop fun h => absurd h hal, fun z => ?_⟩
        rw [hmem2 z]
        conv => rhs; rw [← List.take_append_drop a cur]
        simp only [List.mem_append, List.mem_cons]
        constructor
        · rintro (h | h | h)
          · exact .inl (.inl h)
          · exact .inr h
          · exact .inl (.inr h)
        · rintro ((h | h) | h)
          · exact .inl h
          · exact .inr (.inr h)
          · exact .inr (.inl h)
theorem canonical26 {sp : Sp} {bs : List Bd} {sc : Sc} {n N : Nat} (F : Fit sp sc bs 5 N) {m : Md} (hS : InS sp bs sc n m) : SoundP Tryz.prog 13 [eSp sp, lBd bs, eMd m] (eMd (cano bs (grpS sp sc N bs) m)) := by
  have h0 := orb_head F hS
  have ho := orbit26 F hS
  generalize orbL bs (grpS sp sc N bs) m = L at *
  generalize cano bs (grpS sp sc N bs) m = c at *
  have hl0 : 0 < L.length := (List.getElem?_eq_some_iff.1 h0).1
  have hl0' : L[0] = c := (List.getElem?_eq_some_iff.1 h0).2
  refine SoundP.of_sound (Sound.of_awp Tryz.call13 Tryz.func13 rfl (Nat.le_of_ble_eq_true (by kernel_rfl)) (by kernel_rfl) (pl := {}) ?_)
  simp [go_sem]
  refine CallStep.pure ho (args3m sp bs m) ?_
  simp [go_sem, hl0, hl0', List.length_pos_iff.1 hl0]
  exact .hf _ (hf_eMd c)
theorem isomorphic26 {sp : Sp} {bs : List Bd} {sc : Sc} {n N : Nat} (F : Fit sp sc bs 5 N) {m : Md} (hS : InS sp bs sc n m) (c : Md) : SoundP Tryz.prog 21 [eSp sp, lBd bs, eMd m, eMd c] (aB (isoB (grpS sp sc N bs) m c)) := by
  have ho := orbit26 F hS
  have hlen := orb_len F hS
  obtain ⟨_, ok2⟩ := orb_ok F hS
  have hin : ∀ y, y ∈ orbL bs (grpS sp sc N bs) m → InS sp bs sc n y := fun y hy => iso_in F hS ((ok2 y).1 hy)
  have hR : isoB (grpS sp sc N bs) m c = decide (c ∈ orbL bs (grpS sp sc N bs) m) := by
    rw [Bool.eq_iff_iff, decide_eq_true_eq, ok2 c]
  rw [hR]
  generalize orbL bs (grpS sp sc N bs) m = L at *
  refine SoundP.of_sound (Sound.of_awp Tryz.call21 Tryz.func21 rfl (Nat.le_of_ble_eq_true (by kernel_rfl)) (by kernel_rfl) (pl := {}) ?_)
  simp [go_sem]
  refine CallStep.pure ho (args3m sp bs m) ?_
  simp [go_sem]
  refine LoopGo.up L.length (fun k st => st.tm 7 = ipMd c ∧ st.tm 9 = lMd L ∧ st.tm 10 = aI k ∧ ∀ (i : Nat) (h : i < L.length), i < k → ¬ L[i] = c) ?_ ?_
  · simp [go_sem]
  rintro k st hk ⟨e7, e9, e10, he⟩
  by_cases hlt : k < L.length
  · have hs := sameModels11 L[k] c (fv_sm (hin _ (List.getElem_mem hlt)).f)
    simp [go_sem, e7, e9, e10, hlt]
    refine DrawGo.intro (by kernel_rfl) ?_
    simp [go_sem, e7, e9, e10, hlt]
    refine CallStep.pure hs (.cons (.hf (hf_eMd _)) (.cons (.hf (hf_eMd c)) .nil)) ?_
    by_cases he1 : L[k] = c
    · rw [decide_eq_true he1, decide_eq_true (show c ∈ L from he1 ▸ List.getElem_mem hlt)]
      simp [go_sem, e7, e9, e10, hlt]
      exact .hf _ (HF.sc _)
    · rw [decide_eq_false he1]
      simp [go_sem, e7, e9, e10, hlt]
      refine ⟨wrap_i64 (by omega) (by omega), fun i h hi => ?_⟩
      rcases Nat.lt_succ_iff_lt_or_eq.1 hi with h7 | h7
      · exact he i h h7
      · subst h7; exact he1
  · rw [decide_eq_false fun h => by
      obtain ⟨i, hi, hp⟩ := List.getElem_of_mem h
      exact he i hi (by omega) hp]
    simp [go_sem, e7, e9, e10, hlt]
    exact .hf _ (HF.sc _)
theorem stabilizer26 {sp : Sp} {bs : List Bd} {sc : Sc} {n N : Nat} (F : Fit sp sc bs 5 N) {m : Md} (hS : InS sp bs sc n m) : SoundP Tryz.prog 19 [eSp sp, lBd bs, eMd m] (lL (stabL (grpS sp sc N bs) m)) := by
  have hN6 : N ≤ 6 := by have := F.le; omega
  have hgl := grp_len F
  have hsc := hS.sc
  have hG := group26 F hN6
  have hmod := fun p hp => modelC F hS (p := p) hp
  have himg := fun p hp => hS.img F (p := p) hp
  unfold stabL
  generalize grpS sp sc N bs = A at *
  refine SoundP.of_sound (Sound.of_awp Tryz.call19 Tryz.func19 rfl (Nat.le_of_ble_eq_true (by kernel_rfl)) (by kernel_rfl) (pl := {}) ?_)
  simp [go_sem]
  rw [hsc]
  refine CallStep.pure hG (args3 sp sc bs) ?_
  simp [go_sem]
  refine LoopGo.keep (fun q st => ∃ k av, q = A.length - k ∧ k ≤ A.length ∧ st.tm 5 = ipMd m ∧ st.tm 7 = lL A ∧ st.tm 8 = av ∧ st.tm 9 = aI (k : Nat) ∧ Own st.mu 1 av (((A.take k).filter fun p => decide (mdImg p m = m)).map rL)) A.length ?_ ?_
  · exact ⟨0, .lst true [], by omega, by omega, by simp [go_sem], by simp [go_sem], by simp [go_sem], by simp [go_sem], .inl rfl⟩
  rintro q st ⟨k, av, rfl, hk, e5, e7, e8, e9, ho⟩
  by_cases hlt : k < A.length
  · have hwk : IntKind.i64.wrap ((k : Int) + 1) = ((k + 1 : Nat) : Int) := by rw [wrap_i64 (by omega) (by omega)]; omega
    have hstep := filter_step A (fun p => decide (mdImg p m = m)) k hlt
    have hmem := List.getElem_mem hlt
    have hM := hmod _ hmem
    have hs := sameModels11 (mdImg A[k] m) m (fv_sm (himg _ hmem).f)
    simp only [decide_eq_true_eq] at hstep
    generalize hp : A[k] = p at *
    simp [go_sem, e5, e7, e8, e9, hlt]
    refine DrawGo.intro (by kernel_rfl) ?_
    simp [go_sem, e5, e7, e8, e9, hlt, hp]
    refine CallStep.pure hM (.cons (.hf (hf_lI p)) (.cons (.hf (hf_eMd m)) .nil)) ?_
    simp [go_sem, e5, e7, e8, e9, hlt]
    refine CallStep.pure hs (.cons (.hf (hf_eMd _)) (.cons (.hf (hf_eMd m)) .nil)) ?_
    by_cases hb : mdImg p m = m
    · rw [if_pos hb] at hstep
      rw [decide_eq_true hb]
      simp [go_sem, e5, e7, e8, e9, hlt, hp]
      refine AppendStep.ownB (e := 29) (sz := 1) (bt := 24) (zv := .lst true []) (xs := ((A.take k).filter fun p => decide (mdImg p m = m)).map rL) (ys := [rL p]) (by simp [go_sem]) (by simp [go_sem]) (by simp [go_sem]) rfl rfl (by omega) (by omega) ho (by simp [rowsOf]) (rows_rL _) (rows_rL [_]) (by
        have := List.length_filter_le (fun p => decide (mdImg p m = m)) (A.take k)
        simp only [List.length_map, List.length_take, List.length_singleton] at this ⊢; omega) ?_
      intro av' mu' ho' _ _ _
      simp [go_sem, e5, e7, e8, e9, hlt]
      refine Keep.loop (A.length - (k + 1)) (by omega) ⟨k + 1, av', rfl, by omega, by simp [go_sem, e5], by simp [go_sem, e7], by simp [go_sem], by simp [go_sem, hwk], ?_⟩
      rw [hstep, List.map_append]
      simpa [go_sem] using ho'
    · rw [if_neg hb, List.append_nil] at hstep
      rw [decide_eq_false hb]
      simp [go_sem, e5, e7, e8, e9, hlt]
      refine Keep.loop (A.length - (k + 1)) (by omega) ⟨k + 1, av, rfl, by omega, by simp [go_sem, e5], by simp [go_sem, e7], by simp [go_sem, e8], by simp [go_sem, hwk], ?_⟩
      rw [hstep]
      exact ho
  · have hge : k = A.length := by omega
    subst hge
    rw [List.take_length] at ho
    simp [go_sem, e5, e7, e8, e9]
    exact Own.rdLL ho
end Go.Proofs.YtfniceomhfebhaaGreat.N15

set_option linter.unusedVariables false
set_option linter.unusedSimpArgs false
set_option maxRecDepth 100000
namespace Go.Proofs.YtfniceomhfebhaaGreat.W26
open Go Go.Ev Go.Proofs C1 C2 C3 C4 C5 C6 C7 C8 C9 C10 C11 C12 C13 C14 C15 C16 C17 C18 C19 C20 C21 C22 C23 C24 C25 C26 C27 C28 C29 C30 C31 C32 C33 C34 C35 L1 L2 L3 L4 L5 L6 L7 L8 L9 L10 L11 L12 L13 L14 L15 L16 L17 L20 L21 M1 M2 M3 M4 M5 M6 M7 M9 M10 M11 N1 N2 N3 N4 N5 N6 N7 N8 N9 N10 N11 N12 N13 N14 N15 R1 R2 R3 R4 R5 R6 W21

theorem matchesU (sp : Sp) (bs : List Bd) (m c : Md) : SoundP Tryz.prog 3 [eSp sp, lBd bs, eMd m, eMd c] (aB true) := by
  refine SoundP.of_sound (Sound.of_awp Tryz.call3 Tryz.func3 rfl (Nat.le_of_ble_eq_true (by kernel_rfl)) (by kernel_rfl) (pl := {}) ?_)
  simp [go_sem]
  refine CallStep.pure headO .nil ?_
  simp [go_sem]
  refine CallStep.pure (pair26 sp bs m c) (.cons (.hf (hf_eSp sp)) (.cons (.hf (hf_lBd bs)) (.cons (.hf (hf_eMd m)) (.cons (.hf (hf_eMd c)) .nil)))) ?_
  by_cases h : FVal sp bs m ∧ FVal sp bs c ∧ m.sc = c.sc
  case neg =>
    rw [dec_false h]
    simp [go_sem]
    exact .hf _ (HF.sc _)
  rw [dec_true h]
  obtain ⟨fm, _, _⟩ := h
  obtain ⟨N, F⟩ := fv_fit fm
  have hS := InS.own fm
  have i1 := isoC F hS c
  have i2 := isomorphic26 F hS c
  have k1 := canonC F hS
  have k2 := canonical26 F hS
  have o1 := orbitC F hS
  have o2 := orbit26 F hS
  have s1 := stabC F hS
  have s2 := stabilizer26 F hS
  have ok2 := (orb_ok F hS).2
  have hol := orb_len F hS
  have e1 := sameModels11 (cano bs (grpS sp m.sc N bs) m) (cano bs (grpS sp m.sc N bs) m) (fv_sm (cano_in F hS).f)
  rw [decide_eq_true rfl] at e1
  have e2 := sameAll26 (orbL bs (grpS sp m.sc N bs) m) (orbL bs (grpS sp m.sc N bs) m) (by omega) (fun l hl => fv_sm (iso_in F hS ((ok2 l).1 hl)).f)
  rw [decide_eq_true rfl] at e2
  have hgl := grp_len F
  have e3 := sameAll11 (stabL (grpS sp m.sc N bs) m) (stabL (grpS sp m.sc N bs) m) (by
    have := List.length_filter_le (fun p => decide (mdImg p m = m)) (grpS sp m.sc N bs)
    unfold stabL; omega) (fun l hl => by
    have := (grp_perm F (List.mem_filter.1 hl).1).len
    have := F.le12
    omega)
  rw [decide_eq_true rfl] at e3
  generalize isoB (grpS sp m.sc N bs) m c = is at *
  generalize cano bs (grpS sp m.sc N bs) m = x at *
  generalize orbL bs (grpS sp m.sc N bs) m = L at *
  generalize stabL (grpS sp m.sc N bs) m = T at *
  simp [go_sem]
  refine DrawGo.intro (by kernel_rfl) ?_
  simp [go_sem]
  refine CallStep.pure k1 (args3m sp bs m) ?_
  simp [go_sem]
  refine CallStep.pure k2 (args3m sp bs m) ?_
  simp [go_sem]
  refine CallStep.pure e1 (.cons (.hf (hf_eMd x)) (.cons (.hf (hf_eMd x)) .nil)) ?_
  simp [go_sem]
  refine CallStep.pure o1 (args3m sp bs m) ?_
  simp [go_sem]
  refine CallStep.pure o2 (args3m sp bs m) ?_
  simp [go_sem]
  refine CallStep.pure e2 (.cons (.hf (hf_lMd L)) (.cons (.hf (hf_lMd L)) .nil)) ?_
  simp [go_sem]
  refine CallStep.pure s1 (args3m sp bs m) ?_
  simp [go_sem]
  refine CallStep.pure s2 (args3m sp bs m) ?_
  simp [go_sem]
  refine CallStep.pure e3 (.cons (.hf (hf_lL T)) (.cons (.hf (hf_lL T)) .nil)) ?_
  simp [go_sem]
  refine CallStep.pure i1 (.cons (.hf (hf_eSp sp)) (.cons (.hf (hf_lBd bs)) (.cons (.hf (hf_eMd m)) (.cons (.hf (hf_eMd c)) .nil)))) ?_
  simp [go_sem]
  refine CallStep.pure i2 (.cons (.hf (hf_eSp sp)) (.cons (.hf (hf_lBd bs)) (.cons (.hf (hf_eMd m)) (.cons (.hf (hf_eMd c)) .nil)))) ?_
  simp [go_sem]
  exact .hf _ (HF.sc _)
end Go.Proofs.YtfniceomhfebhaaGreat.W26

set_option linter.unusedVariables false
set_option linter.unusedSimpArgs false
set_option maxRecDepth 100000
namespace Go.Proofs.YtfniceomhfebhaaGreat.W23
open Go Go.Ev Go.Proofs W21 C1 C2 C3 C4 C5 C6 C7 C8 C9 C10 C11 C12 C13 C14 C15 C16 C17 C18 C19 C20 C21 C22 C23 C24 C25 C26 C27 C28 C29 C30 C31 C32 C33 C34 C35 L1 L2 L3 L4 L5 L6 L7 L8 L9 L10 L11 L12 L13 L14 L15 L16 L17 L20 L21 M1 M2 M3 M4 M5 M6 M7 M9 M10 M11 N1 N2 N3 N4 N5 N6 N7 N8 N9 N10 N11 N12 N13 N14 R1 R2 R3 R4 R5 R6

theorem canonicalO (sp : Sp) (bs : List Bd) (m : Md) (n : Int) (hn : 0 ≤ n ∧ n ≤ 65535) : SoundP Tryz.prog 4 [eSp sp, lBd bs, eMd m, .sc (.int .u16 n)] (aB true) := by
  refine SoundP.of_sound (Sound.of_awp Tryz.call4 Tryz.func4 rfl (Nat.le_of_ble_eq_true (by kernel_rfl)) (by kernel_rfl) (pl := {}) ?_)
  simp [go_sem]
  refine CallStep.pure headO .nil ?_
  simp [go_sem]
  refine CallStep.pure (fits26 sp bs m) (args3m sp bs m) ?_
  by_cases h : FVal sp bs m
  case neg =>
    rw [dec_false h]
    simp [go_sem]
    exact .hf _ (HF.sc _)
  rw [dec_true h]
  obtain ⟨N, F⟩ := fv_fit h
  have hS := InS.own h
  have hpk := pickL_mem (grp_ne F) n
  have hP := pick26 F n hn
  have hM := modelC F hS hpk
  have hSi := hS.img F hpk
  have hiso := iso_img (x := m) hpk
  generalize hq : mdImg (pickL (grpS sp m.sc N bs) n) m = im at *
  have kx := canonC F hS
  have ki := canonC F hSi
  have hSx := cano_in F hS
  have kxx := canonC F hSx
  have fx := fits26 sp bs (cano bs (grpS sp m.sc N bs) m)
  rw [dec_true hSx.f] at fx
  have ex : cano bs (grpS sp m.sc N bs) (cano bs (grpS sp m.sc N bs) m) = cano bs (grpS sp m.sc N bs) m := cano_eq F hS (cano_iso F hS)
  have ei : cano bs (grpS sp m.sc N bs) im = cano bs (grpS sp m.sc N bs) m := cano_eq F hS hiso
  rw [ex] at kxx
  rw [ei] at ki
  have l1 := cano_le F hS hiso
  have l2 := cano_le F hS (iso_refl F hS)
  have o1 := order26 (cano bs (grpS sp m.sc N bs) m) im hSx hSi
  have o2 := order26 (cano bs (grpS sp m.sc N bs) m) m hSx hS
  have w1 := (ordS (sp := sp) (bs := bs) (sc := m.sc) (n := m.states.length)).sw _ _ hSx hSi
  have w2 := (ordS (sp := sp) (bs := bs) (sc := m.sc) (n := m.states.length)).sw _ _ hSx hS
  have hxl := hSx.ns
  have sm := sameModels11 (cano bs (grpS sp m.sc N bs) m) (cano bs (grpS sp m.sc N bs) m) (fv_sm hSx.f)
  rw [decide_eq_true rfl] at sm
  generalize cano bs (grpS sp m.sc N bs) m = x at *
  generalize pickL (grpS sp m.sc N bs) n = p at *
  have z1 : ordI (freeL bs 0) x im ≤ 0 := by omega
  have z2 : ordI (freeL bs 0) x m ≤ 0 := by omega
  generalize ordI (freeL bs 0) x im = a1 at *
  generalize ordI (freeL bs 0) x m = a2 at *
  simp [go_sem]
  refine CallStep.pure kx (args3m sp bs m) ?_
  simp [go_sem]
  refine CallStep.pure fx (args3m sp bs x) ?_
  simp [go_sem, hxl]
  refine DrawGo.intro (by kernel_rfl) ?_
  simp [go_sem]
  refine CallStep.pure hP (.cons (.hf (hf_eSp sp)) (.cons (.hf (hf_lBd bs)) (.cons (.hf (hf_eMd m)) (.cons (.hf (HF.sc _)) .nil)))) ?_
  simp [go_sem]
  refine CallStep.pure hM (.cons (.hf (hf_lI p)) (.cons (.hf (hf_eMd m)) .nil)) ?_
  simp [go_sem]
  refine DrawGo.intro (by kernel_rfl) ?_
  simp [go_sem]
  refine CallStep.pure o1 (.cons (.hf (hf_lBd bs)) (.cons (.hf (hf_eMd x)) (.cons (.hf (hf_eMd im)) .nil))) ?_
  simp [go_sem, z1]
  refine CallStep.pure o2 (.cons (.hf (hf_lBd bs)) (.cons (.hf (hf_eMd x)) (.cons (.hf (hf_eMd m)) .nil))) ?_
  simp [go_sem, z1, z2]
  refine CallStep.pure kxx (args3m sp bs x) ?_
  simp [go_sem]
  refine CallStep.pure sm (.cons (.hf (hf_eMd x)) (.cons (.hf (hf_eMd x)) .nil)) ?_
  simp [go_sem]
  refine CallStep.pure ki (args3m sp bs im) ?_
  simp [go_sem]
  refine CallStep.pure sm (.cons (.hf (hf_eMd x)) (.cons (.hf (hf_eMd x)) .nil)) ?_
  simp [go_sem]
  exact .hf _ (HF.sc _)
end Go.Proofs.YtfniceomhfebhaaGreat.W23

set_option linter.unusedVariables false
set_option linter.unusedSimpArgs false
set_option maxRecDepth 100000
namespace Go.Proofs.YtfniceomhfebhaaGreat.W22
open Go Go.Ev Go.Proofs W21 C1 C2 C3 C4 C5 C6 C7 C8 C9 C10 C11 C12 C13 C14 C15 C16 C17 C18 C19 C20 C21 C22 C23 C24 C25 C26 C27 C28 C29 C30 C31 C32 C33 C34 C35 L1 L2 L3 L4 L5 L6 L7 L8 L9 L10 L11 L12 L13 L14 L15 L16 L17 L20 L21 M1 M2 M3 M4 M5 M6 M7 M9 M10 M11 N1 N2 N3 N4 N5 N6 N7 N8 N9 N10 N11 N12 N13 N14 R1 R2 R3 R4 R5 R6

theorem equivalenceU (sp : Sp) (bs : List Bd) (m c : Md) (n : Int) (hn : 0 ≤ n ∧ n ≤ 65535) : SoundP Tryz.prog 5 [eSp sp, lBd bs, eMd m, eMd c, .sc (.int .u16 n)] (aB true) := by
  refine SoundP.of_sound (Sound.of_awp Tryz.call5 Tryz.func5 rfl (Nat.le_of_ble_eq_true (by kernel_rfl)) (by kernel_rfl) (pl := {}) ?_)
  simp [go_sem]
  refine CallStep.pure headO .nil ?_
  simp [go_sem]
  refine CallStep.pure (pair26 sp bs m c) (.cons (.hf (hf_eSp sp)) (.cons (.hf (hf_lBd bs)) (.cons (.hf (hf_eMd m)) (.cons (.hf (hf_eMd c)) .nil)))) ?_
  by_cases h : FVal sp bs m ∧ FVal sp bs c ∧ m.sc = c.sc
  case neg =>
    rw [dec_false h]
    simp [go_sem]
    exact .hf _ (HF.sc _)
  rw [dec_true h]
  obtain ⟨fm, fc, hsc⟩ := h
  obtain ⟨N, F⟩ := fv_fit fm
  have hSm := InS.own fm
  have hSc : InS sp bs m.sc m.states.length c := ⟨fc, hsc.symm, by have h1 := fm.v.ns; have h2 := fc.v.ns; rw [← hsc] at h2; omega⟩
  have hpk := pickL_mem (grp_ne F) n
  have hP := pick26 F n hn
  have hM := modelC F hSm hpk
  have hSi := hSm.img F hpk
  have hiso := iso_img (x := m) hpk
  generalize hq : mdImg (pickL (grpS sp m.sc N bs) n) m = im at *
  have i1 := isoC F hSm c
  have i2 := isoC F hSc m
  have i3 := isoC F hSm im
  have i4 := isoC F hSi c
  have i5 := isoC F hSm m
  have k1 := canonC F hSm
  have k2 := canonC F hSc
  have e2 : isoB (grpS sp m.sc N bs) c m = isoB (grpS sp m.sc N bs) m c := by
    rw [Bool.eq_iff_iff]
    exact ⟨iso_symm F hSc, iso_symm F hSm⟩
  have e4 : isoB (grpS sp m.sc N bs) im c = isoB (grpS sp m.sc N bs) m c := by
    rw [Bool.eq_iff_iff]
    exact ⟨iso_trans F hSm hiso, iso_trans F hSi (iso_symm F hSm hiso)⟩
  rw [e2] at i2
  rw [hiso] at i3
  rw [e4] at i4
  rw [iso_refl F hSm] at i5
  have ec := iso_cano F hSm hSc
  have sm := sameModels11 (cano bs (grpS sp m.sc N bs) m) (cano bs (grpS sp m.sc N bs) c) (fv_sm (cano_in F hSm).f)
  rw [← ec] at sm
  generalize isoB (grpS sp m.sc N bs) m c = is at *
  generalize cano bs (grpS sp m.sc N bs) m = cm at *
  generalize cano bs (grpS sp m.sc N bs) c = cc at *
  generalize pickL (grpS sp m.sc N bs) n = p at *
  simp [go_sem]
  refine DrawGo.intro (by kernel_rfl) ?_
  simp [go_sem]
  refine CallStep.pure hP (.cons (.hf (hf_eSp sp)) (.cons (.hf (hf_lBd bs)) (.cons (.hf (hf_eMd m)) (.cons (.hf (HF.sc _)) .nil)))) ?_
  simp [go_sem]
  refine CallStep.pure hM (.cons (.hf (hf_lI p)) (.cons (.hf (hf_eMd m)) .nil)) ?_
  simp [go_sem]
  refine CallStep.pure i1 (.cons (.hf (hf_eSp sp)) (.cons (.hf (hf_lBd bs)) (.cons (.hf (hf_eMd m)) (.cons (.hf (hf_eMd c)) .nil)))) ?_
  simp [go_sem]
  refine DrawGo.intro (by kernel_rfl) ?_
  simp [go_sem]
  refine CallStep.pure i2 (.cons (.hf (hf_eSp sp)) (.cons (.hf (hf_lBd bs)) (.cons (.hf (hf_eMd c)) (.cons (.hf (hf_eMd m)) .nil)))) ?_
  simp [go_sem]
  refine CallStep.pure k1 (args3m sp bs m) ?_
  simp [go_sem]
  refine CallStep.pure k2 (args3m sp bs c) ?_
  simp [go_sem]
  refine CallStep.pure sm (.cons (.hf (hf_eMd cm)) (.cons (.hf (hf_eMd cc)) .nil)) ?_
  simp [go_sem]
  refine CallStep.pure i3 (.cons (.hf (hf_eSp sp)) (.cons (.hf (hf_lBd bs)) (.cons (.hf (hf_eMd m)) (.cons (.hf (hf_eMd im)) .nil)))) ?_
  simp [go_sem]
  refine CallStep.pure i4 (.cons (.hf (hf_eSp sp)) (.cons (.hf (hf_lBd bs)) (.cons (.hf (hf_eMd im)) (.cons (.hf (hf_eMd c)) .nil)))) ?_
  simp [go_sem]
  refine CallStep.pure i5 (.cons (.hf (hf_eSp sp)) (.cons (.hf (hf_lBd bs)) (.cons (.hf (hf_eMd m)) (.cons (.hf (hf_eMd m)) .nil)))) ?_
  simp [go_sem]
  exact .hf _ (HF.sc _)
end Go.Proofs.YtfniceomhfebhaaGreat.W22

set_option linter.unusedVariables false
set_option linter.unusedSimpArgs false
set_option maxRecDepth 100000
namespace Go.Proofs.YtfniceomhfebhaaGreat.W24
open Go Go.Ev Go.Proofs W21 C1 C2 C3 C4 C5 C6 C7 C8 C9 C10 C11 C12 C13 C14 C15 C16 C17 C18 C19 C20 C21 C22 C23 C24 C25 C26 C27 C28 C29 C30 C31 C32 C33 C34 C35 L1 L2 L3 L4 L5 L6 L7 L8 L9 L10 L11 L12 L13 L14 L15 L16 L17 L20 L21 M1 M2 M3 M4 M5 M6 M7 M9 M10 M11 N1 N2 N3 N4 N5 N6 N7 N8 N9 N10 N11 N12 N13 N14 R1 R2 R3 R4 R5 R6

theorem idx16 (k len : Nat) (hl : 0 < len) (hb : len ≤ 1000000) (hk : k ≤ 65535) : IntKind.i64.wrap (k : Int) = k ∧ (k : Int).tmod (len : Int) = ((k % len : Nat) : Int) ∧ IntKind.i64.wrap ((k % len : Nat) : Int) = ((k % len : Nat) : Int) ∧ (0 : Int) ≤ (k : Int) % (len : Int) ∧ (k : Int) % (len : Int) < (len : Int) ∧ ((k : Int) % (len : Int)).toNat = k % len ∧ k % len < len := by
  have hm := Nat.mod_lt k hl
  refine ⟨wrap_i64 (by omega) (by omega), ?_, wrap_i64 (by omega) (by omega), ?_, ?_, ?_, hm⟩
  · rw [Int.tmod_eq_emod_of_nonneg (by omega)]; exact (Int.natCast_emod k len).symm
  · rw [← Int.natCast_emod]; omega
  · rw [← Int.natCast_emod]; omega
  · rw [← Int.natCast_emod]; omega
theorem orb_same {sp : Sp} {bs : List Bd} {sc : Sc} {n N : Nat} (F : Fit sp sc bs 5 N) {x y : Md} (hx : InS sp bs sc n x) (h : isoB (grpS sp sc N bs) x y = true) : orbL bs (grpS sp sc N bs) y = orbL bs (grpS sp sc N bs) x := by
  have hy := iso_in F hx h
  obtain ⟨a1, a2⟩ := orb_ok F hx
  obtain ⟨b1, b2⟩ := orb_ok F hy
  refine ord_unique (ordS (sp := sp) (bs := bs) (sc := sc) (n := n)) (fun z hz => iso_in F hy ((b2 z).1 hz)) (fun z hz => iso_in F hx ((a2 z).1 hz)) b1 a1 (fun z => ?_)
  rw [a2 z, b2 z]
  exact ⟨iso_trans F hx h, iso_trans F hy (iso_symm F hx h)⟩
theorem stab_len {sp : Sp} {bs : List Bd} {sc : Sc} {n N : Nat} (F : Fit sp sc bs 5 N) {x : Md} (hx : InS sp bs sc n x) {s : List Int} (hs : s ∈ grpS sp sc N bs) : (stabL (grpS sp sc N bs) (mdImg s x)).length = (stabL (grpS sp sc N bs) x).length := by
  have h1 := orb_stab F hx
  have h2 := orb_stab F (hx.img F hs)
  rw [orb_same F hx (iso_img hs), h1] at h2
  refine (Nat.eq_of_mul_eq_mul_left ?_ h2).symm
  have := orb_head F hx
  exact Nat.lt_of_le_of_lt (Nat.zero_le _) (List.getElem?_eq_some_iff.1 this).1
theorem stabilizersU (sp : Sp) (bs : List Bd) (m : Md) (n i k : Int) (hn : 0 ≤ n ∧ n ≤ 65535) (hi : 0 ≤ i ∧ i ≤ 65535) (hk : 0 ≤ k ∧ k ≤ 65535) : SoundP Tryz.prog 8 [eSp sp, lBd bs, eMd m, .sc (.int .u16 n), .sc (.int .u16 i), .sc (.int .u16 k)] (aB true) := by
  refine SoundP.of_sound (Sound.of_awp Tryz.call8 Tryz.func8 rfl (Nat.le_of_ble_eq_true (by kernel_rfl)) (by kernel_rfl) (pl := {}) ?_)
  simp [go_sem]
  refine CallStep.pure headO .nil ?_
  simp [go_sem]
  refine CallStep.pure (fits26 sp bs m) (args3m sp bs m) ?_
  by_cases h : FVal sp bs m
  case neg =>
    rw [dec_false h]
    simp [go_sem]
    exact .hf _ (HF.sc _)
  rw [dec_true h]
  obtain ⟨N, F⟩ := fv_fit h
  have hS := InS.own h
  have gm := ins_g F hS
  have hpk := pickL_mem (grp_ne F) n
  have hP := pick26 F n hn
  have hM := modelC F hS hpk
  have hSi := hS.img F hpk
  have hT := stabC F hS
  have hT' := stabC F hSi
  have hTl := stab_len F hS hpk
  have hperm := fun q hq => grp_perm F (p := q) hq
  have hN12 := F.le12
  have hcomp := fun p hp q hq => grp_comp F (p := p) (q := q) hp hq
  have hinv := fun p hp => grp_inv F (p := p) hp
  have hmodel := fun p hp => modelC F hS (p := p) hp
  have hval : ∀ q, q ∈ grpS sp m.sc N bs → validP m.sc q = true := fun q hq => (validP_iff F.hN).2 ⟨((mem_grp F).1 hq).1.perm, ((mem_grp F).1 hq).1.keep⟩
  have hid := grp_id F
  have hgl := grp_len F
  have hu := F.u
  have hsm := fv_sm h
  generalize grpS sp m.sc N bs = G at *
  have mT : ∀ q, q ∈ stabL G m ↔ q ∈ G ∧ mdImg q m = m := fun q => by unfold stabL; rw [List.mem_filter, decide_eq_true_eq]
  generalize hs : pickL G n = s at *
  have mT' : ∀ q, q ∈ stabL G (mdImg s m) ↔ q ∈ G ∧ mdImg q (mdImg s m) = mdImg s m := fun q => by unfold stabL; rw [List.mem_filter, decide_eq_true_eq]
  have hTlen : (stabL G m).length ≤ 46656 := Nat.le_trans (List.length_filter_le _ _) hgl
  generalize stabL G (mdImg s m) = T' at *
  generalize stabL G m = T at *
  have hT0 : 0 < T.length := List.length_pos_iff.2 fun e => by
    have := (mT (idL N)).2 ⟨hid, mdImg_id gm⟩
    rw [e] at this; simp at this
  obtain ⟨ni, rfl⟩ := Int.eq_ofNat_of_zero_le hi.1
  obtain ⟨nk, rfl⟩ := Int.eq_ofNat_of_zero_le hk.1
  obtain ⟨x1, x2, x3, x4, x5, x6, x7⟩ := idx16 ni T.length hT0 (by omega) (by omega)
  obtain ⟨y1, y2, y3, y4, y5, y6, y7⟩ := idx16 nk T.length hT0 (by omega) (by omega)
  simp [go_sem]
  refine CallStep.pure hT (args3m sp bs m) ?_
  simp [go_sem]
  refine LoopGo.up T.length (fun j st => st.tm 1 = lBd bs ∧ st.tm 3 = .sc (.int .u16 n) ∧ st.tm 4 = .sc (.int .u16 (ni : Nat)) ∧ st.tm 5 = .sc (.int .u16 (nk : Nat)) ∧ st.tm 6 = ipSp sp ∧ st.tm 8 = ipMd m ∧ st.tm 13 = aB true ∧ st.tm 14 = lL T ∧ st.tm 15 = aI j) ?_ ?_
  · simp [go_sem]
  rintro j st hj ⟨e1, e3, e4, e5, e6, e8, e13, e14, e15⟩
  by_cases hjl : j < T.length
  · have hjm := List.getElem_mem hjl
    have hjG := (mT _).1 hjm
    have hmo := hmodel _ hjG.1
    have hva := valid11 m.sc hu T[j]
    rw [hval _ hjG.1] at hva
    rw [hjG.2] at hmo
    have hsame := sameModels11 m m hsm
    rw [decide_eq_true rfl] at hsame
    generalize hq : T[j] = q at *
    simp [go_sem, e1, e3, e4, e5, e6, e8, e13, e14, e15, hjl]
    refine DrawGo.intro (by kernel_rfl) ?_
    simp [go_sem, e1, e3, e4, e5, e6, e8, e13, e14, e15, hjl, hq]
    refine CallStep.pure hva (.cons (.hf (hf_eSc _)) (.cons (.hf (hf_lI q)) .nil)) ?_
    simp [go_sem, e1, e3, e4, e5, e6, e8, e13, e14, e15, hjl, hq]
    refine CallStep.pure hmo (.cons (.hf (hf_lI q)) (.cons (.hf (hf_eMd m)) .nil)) ?_
    simp [go_sem, e1, e3, e4, e5, e6, e8, e13, e14, e15, hjl, hq]
    refine CallStep.pure hsame (.cons (.hf (hf_eMd m)) (.cons (.hf (hf_eMd m)) .nil)) ?_
    simp [go_sem, e1, e3, e4, e5, e6, e8, e13, e14, e15, hjl, hq]
    exact wrap_i64 (by omega) (by omega)
  have hpT := List.getElem_mem x7
  have hqT := List.getElem_mem y7
  have hTne : ¬ T.length = 0 := by omega
  have hTne2 : T ≠ [] := List.length_pos_iff.1 hT0
  generalize hp : T[ni % T.length] = p at *
  generalize hq : T[nk % T.length] = q at *
  obtain ⟨pG, pm⟩ := (mT p).1 hpT
  obtain ⟨qG, qm⟩ := (mT q).1 hqT
  have pp := hperm p pG
  have pq := hperm q qG
  have ps := hperm s hpk
  have ip := hinv p pG
  have is := hinv s hpk
  have hlt : ∀ (a b : List Int), PermL N a → PermL N b → ∀ x, x ∈ b → 0 ≤ x ∧ x < a.length := fun a b ha hb x hx => by
    have h1 := hb.rng x hx
    have h2 := ha.len
    omega
  have len9 : ∀ a : List Int, PermL N a → a.length ≤ 1000000000 := fun a ha => by have := ha.len; omega
  have c1 := compose11 p q (len9 q pq) (hlt p q pp pq)
  have c2 := inverse11 p pp (by omega)
  have c3 := compose11 p (invL p) (len9 _ (inv_ok pp).1) (hlt p _ pp (inv_ok pp).1)
  have c4 := compose11 s p (len9 p pp) (hlt s p ps pp)
  have c5 := inverse11 s ps (by omega)
  have psp := comp_perm ps pp
  have c6 := compose11 (composeL s p) (invL s) (len9 _ (inv_ok ps).1) (hlt _ _ psp (inv_ok ps).1)
  have hTe : ∀ a, a ∈ T → a.length ≤ 9223372036854775807 := fun a ha => by have := len9 a (hperm a ((mT a).1 ha).1); omega
  have hTe' : ∀ a, a ∈ T' → a.length ≤ 9223372036854775807 := fun a ha => by have := len9 a (hperm a ((mT' a).1 ha).1); omega
  have m1 : composeL p q ∈ T := (mT _).2 ⟨hcomp p pG q qG, by rw [mdImg_comp pp pq gm, qm, pm]⟩
  have m2 : invL p ∈ T := (mT _).2 ⟨ip, by
    have := mdImg_inv_l pp gm
    rwa [pm] at this⟩
  have m3 : composeL p (invL p) ∈ T := (mT _).2 ⟨hcomp p pG _ ip, by rw [comp_inv_r pp, mdImg_id gm]⟩
  have m4 : composeL (composeL s p) (invL s) ∈ T' := (mT' _).2 ⟨hcomp _ (hcomp s hpk p pG) _ is, by
    have gs := GMd.img ps gm
    rw [mdImg_comp psp (inv_ok ps).1 gs, mdImg_inv_l ps gm, mdImg_comp ps pp gm, pm]⟩
  have a1 := has26 T (composeL p q) (by omega) hTe
  have a2 := has26 T (invL p) (by omega) hTe
  have a3 := has26 T (composeL p (invL p)) (by omega) hTe
  have a4 := has26 T' (composeL (composeL s p) (invL s)) (by omega) hTe'
  rw [decide_eq_true m1] at a1
  rw [decide_eq_true m2] at a2
  rw [decide_eq_true m3] at a3
  rw [decide_eq_true m4] at a4
  generalize hI : mdImg s m = im at *
  simp [go_sem, e1, e3, e4, e5, e6, e8, e13, e14, e15, hjl, hTne, hTne2, x1, x2, x3, x4, x5, x6, x7, y1, y2, y3, y4, y5, y6, y7, hp, hq]
  refine CallStep.pure hP (.cons (.hf (hf_eSp sp)) (.cons (.hf (hf_lBd bs)) (.cons (.hf (hf_eMd m)) (.cons (.hf (HF.sc _)) .nil)))) ?_
  simp [go_sem, e1, e3, e4, e5, e6, e8, e13, e14, e15]
  refine DrawGo.intro (by kernel_rfl) ?_
  simp [go_sem, e1, e3, e4, e5, e6, e8, e13, e14, e15]
  refine CallStep.pure hM (.cons (.hf (hf_lI s)) (.cons (.hf (hf_eMd m)) .nil)) ?_
  simp [go_sem, e1, e3, e4, e5, e6, e8, e13, e14, e15]
  refine CallStep.pure hT' (args3m sp bs im) ?_
  simp [go_sem, e1, e3, e4, e5, e6, e8, e13, e14, e15]
  refine CallStep.pure c4 (.cons (.hf (hf_lI s)) (.cons (.hf (hf_lI p)) .nil)) ?_
  simp [go_sem, e1, e3, e4, e5, e6, e8, e13, e14, e15]
  refine CallStep.pure c5 (.cons (.hf (hf_lI s)) .nil) ?_
  simp [go_sem, e1, e3, e4, e5, e6, e8, e13, e14, e15]
  refine CallStep.pure c6 (.cons (.hf (hf_lI _)) (.cons (.hf (hf_lI _)) .nil)) ?_
  simp [go_sem, e1, e3, e4, e5, e6, e8, e13, e14, e15]
  refine CallStep.pure c1 (.cons (.hf (hf_lI p)) (.cons (.hf (hf_lI q)) .nil)) ?_
  simp [go_sem, e1, e3, e4, e5, e6, e8, e13, e14, e15]
  refine CallStep.pure a1 (.cons (.hf (hf_lL T)) (.cons (.hf (hf_lI _)) .nil)) ?_
  simp [go_sem, e1, e3, e4, e5, e6, e8, e13, e14, e15]
  refine CallStep.pure c2 (.cons (.hf (hf_lI p)) .nil) ?_
  simp [go_sem, e1, e3, e4, e5, e6, e8, e13, e14, e15]
  refine CallStep.pure a2 (.cons (.hf (hf_lL T)) (.cons (.hf (hf_lI _)) .nil)) ?_
  simp [go_sem, e1, e3, e4, e5, e6, e8, e13, e14, e15]
  refine CallStep.pure c2 (.cons (.hf (hf_lI p)) .nil) ?_
  simp [go_sem, e1, e3, e4, e5, e6, e8, e13, e14, e15]
  refine CallStep.pure c3 (.cons (.hf (hf_lI p)) (.cons (.hf (hf_lI _)) .nil)) ?_
  simp [go_sem, e1, e3, e4, e5, e6, e8, e13, e14, e15]
  refine CallStep.pure a3 (.cons (.hf (hf_lL T)) (.cons (.hf (hf_lI _)) .nil)) ?_
  simp [go_sem, e1, e3, e4, e5, e6, e8, e13, e14, e15]
  refine CallStep.pure a4 (.cons (.hf (hf_lL T')) (.cons (.hf (hf_lI _)) .nil)) ?_
  simp [go_sem, e1, e3, e4, e5, e6, e8, e13, e14, e15, hTl]
  exact .hf _ (HF.sc _)
end Go.Proofs.YtfniceomhfebhaaGreat.W24

set_option linter.unusedVariables false
set_option linter.unusedSimpArgs false
set_option maxRecDepth 100000
namespace Go.Proofs.YtfniceomhfebhaaGreat.W25
open Go Go.Ev Go.Proofs W21 W24 C1 C2 C3 C4 C5 C6 C7 C8 C9 C10 C11 C12 C13 C14 C15 C16 C17 C18 C19 C20 C21 C22 C23 C24 C25 C26 C27 C28 C29 C30 C31 C32 C33 C34 C35 L1 L2 L3 L4 L5 L6 L7 L8 L9 L10 L11 L12 L13 L14 L15 L16 L17 L20 L21 M1 M2 M3 M4 M5 M6 M7 M9 M10 M11 N1 N2 N3 N4 N5 N6 N7 N8 N9 N10 N11 N12 N13 N14 R1 R2 R3 R4 R5 R6

theorem ord_val {sp : Sp} {bs : List Bd} {sc : Sc} {n : Nat} {x y : Md} (hx : InS sp bs sc n x) (hy : InS sp bs sc n y) (h : ordI (freeL bs 0) x y < 0) : ordI (freeL bs 0) x y = -1 := by
  rw [ordI_ok hx.ord hy.ord] at h ⊢
  have := lexS_val (kv (freeL bs 0) x) (kv (freeL bs 0) y)
  omega
theorem has_run {α : Type} [DecidableEq α] (l : List α) (x : α) (hx : x ∈ l) : ∃ f : Nat → Bool, f 0 = false ∧ (∀ (j : Nat) (h : j < l.length), f (j + 1) = (f j || decide (l[j] = x))) ∧ f l.length = true := by
  refine ⟨fun j => (l.take j).any fun y => decide (y = x), rfl, fun j h => ?_, ?_⟩
  · simp only
    rw [List.take_add_one, List.getElem?_eq_getElem h, List.any_append]
    simp
  · simp only
    rw [List.take_length, List.any_eq_true]
    exact ⟨x, hx, by simp⟩
theorem sortedU (sp : Sp) (bs : List Bd) (m : Md) (n k : Int) (hn : 0 ≤ n ∧ n ≤ 65535) (hk : 0 ≤ k ∧ k ≤ 65535) : SoundP Tryz.prog 7 [eSp sp, lBd bs, eMd m, .sc (.int .u16 n), .sc (.int .u16 k)] (aB true) := by
  refine SoundP.of_sound (Sound.of_awp Tryz.call7 Tryz.func7 rfl (Nat.le_of_ble_eq_true (by kernel_rfl)) (by kernel_rfl) (pl := {}) ?_)
  simp [go_sem]
  refine CallStep.pure headO .nil ?_
  simp [go_sem]
  refine CallStep.pure (fits26 sp bs m) (args3m sp bs m) ?_
  by_cases h : FVal sp bs m
  case neg =>
    rw [dec_false h]
    simp [go_sem]
    exact .hf _ (HF.sc _)
  rw [dec_true h]
  obtain ⟨N, F⟩ := fv_fit h
  have hS := InS.own h
  have hsG := pickL_mem (grp_ne F) n
  have hP := pick26 F n hn
  have hLc := orbitC F hS
  have hC := canonC F hS
  obtain ⟨ok1, ok2⟩ := orb_ok F hS
  have hL0 := orb_head F hS
  have hlen := orb_len F hS
  have hin : ∀ y, y ∈ orbL bs (grpS sp m.sc N bs) m → InS sp bs m.sc m.states.length y := fun y hy => iso_in F hS ((ok2 y).1 hy)
  have hmL : m ∈ orbL bs (grpS sp m.sc N bs) m := (ok2 m).2 (iso_refl F hS)
  have him : ∀ y, y ∈ orbL bs (grpS sp m.sc N bs) m → mdImg (pickL (grpS sp m.sc N bs) n) y ∈ orbL bs (grpS sp m.sc N bs) m := fun y hy => (ok2 _).2 (iso_trans F hS ((ok2 y).1 hy) (iso_img hsG))
  have hmod := fun y (hy : y ∈ orbL bs (grpS sp m.sc N bs) m) => modelC F (hin y hy) hsG
  generalize orbL bs (grpS sp m.sc N bs) m = L at *
  generalize cano bs (grpS sp m.sc N bs) m = cm at *
  generalize hs : pickL (grpS sp m.sc N bs) n = s at *
  have hl0 : 0 < L.length := (List.getElem?_eq_some_iff.1 hL0).1
  have hl0' : L[0] = cm := (List.getElem?_eq_some_iff.1 hL0).2
  have hLne : ¬ L.length = 0 := by omega
  have hLne2 : L ≠ [] := List.length_pos_iff.1 hl0
  have hcm : smMd cm := fv_sm (hin cm (by rw [← hl0']; exact List.getElem_mem hl0)).f
  have hsm1 := sameModels11 cm cm hcm
  rw [decide_eq_true rfl] at hsm1
  obtain ⟨nk, rfl⟩ := Int.eq_ofNat_of_zero_le hk.1
  obtain ⟨y1, y2, y3, y4, y5, y6, y7⟩ := idx16 nk L.length hl0 (by omega) (by omega)
  simp [go_sem]
  refine CallStep.pure hLc (args3m sp bs m) ?_
  simp [go_sem]
  refine DrawGo.intro (by kernel_rfl) ?_
  simp [go_sem, hLne, hLne2, hl0, hl0']
  refine CallStep.pure hC (args3m sp bs m) ?_
  simp [go_sem, hLne, hLne2, hl0, hl0']
  refine CallStep.pure hsm1 (.cons (.hf (hf_eMd cm)) (.cons (.hf (hf_eMd cm)) .nil)) ?_
  simp [go_sem, hLne, hLne2, hl0, hl0']
  refine LoopGo.up L.length (fun j st => st.tm 1 = lBd bs ∧ st.tm 3 = .sc (.int .u16 n) ∧ st.tm 4 = .sc (.int .u16 (nk : Nat)) ∧ st.tm 5 = ipSp sp ∧ st.tm 7 = ipMd m ∧ st.tm 11 = aB true ∧ st.tm 12 = lMd L ∧ st.tm 13 = aI j) ?_ ?_
  · simp [go_sem]
  rintro j st hj ⟨e1, e3, e4, e5, e7, e11, e12, e13⟩
  by_cases hjl : j < L.length
  · have hjm := hin _ (List.getElem_mem hjl)
    have hfit := fits26 sp bs L[j]
    rw [dec_true hjm.f] at hfit
    have hns := hjm.ns
    have hwj : IntKind.i64.wrap ((j : Int) + 1) = ((j + 1 : Nat) : Int) := by rw [wrap_i64 (by omega) (by omega)]; omega
    simp [go_sem, e1, e3, e4, e5, e7, e11, e12, e13, hjl]
    refine DrawGo.intro (by kernel_rfl) ?_
    by_cases hj0 : j = 0
    · subst hj0
      generalize hq : L[0] = q at *
      simp [go_sem, e1, e3, e4, e5, e7, e11, e12, e13, hjl, hq]
      refine CallStep.pure hfit (args3m sp bs q) ?_
      simp [go_sem, e1, e3, e4, e5, e7, e11, e12, e13, hjl, hq, hns]
      exact wrap_i64 (by omega) (by omega)
    · have hj1 : j - 1 < L.length := by omega
      have hjm1 := hin _ (List.getElem_mem hj1)
      have hlt := List.pairwise_iff_getElem.1 ok1 (j - 1) j hj1 hjl (by omega)
      have hval := ord_val hjm1 hjm hlt
      have hord := order26 L[j - 1] L[j] hjm1 hjm
      rw [hval] at hord
      have hw1 : IntKind.i64.wrap ((j : Int) - 1) = ((j - 1 : Nat) : Int) := by rw [wrap_i64 (by omega) (by omega)]; omega
      generalize hq : L[j] = q at *
      generalize hq1 : L[j - 1] = q1 at *
      simp [go_sem, e1, e3, e4, e5, e7, e11, e12, e13, hjl, hq]
      refine CallStep.pure hfit (args3m sp bs q) ?_
      simp [go_sem, e1, e3, e4, e5, e7, e11, e12, e13, hjl, hq, hns, hw1, hj1, hq1, show (0 : Int) < j by omega, show 0 < j by omega]
      refine CallStep.pure hord (.cons (.hf (hf_lBd bs)) (.cons (.hf (hf_eMd q1)) (.cons (.hf (hf_eMd q)) .nil))) ?_
      simp [go_sem, e1, e3, e4, e5, e7, e11, e12, e13, hjl, hq, hns, hwj]
  have hyL := List.getElem_mem y7
  have hM := hmod _ hyL
  have hyI := him _ hyL
  generalize hq : L[nk % L.length] = q at *
  generalize hI : mdImg s q = im at *
  simp [go_sem, e1, e3, e4, e5, e7, e11, e12, e13, hjl]
  refine DrawGo.intro (by kernel_rfl) ?_
  simp [go_sem, e1, e3, e4, e5, e7, e11, e12, e13, hjl]
  refine CallStep.pure hP (.cons (.hf (hf_eSp sp)) (.cons (.hf (hf_lBd bs)) (.cons (.hf (hf_eMd m)) (.cons (.hf (HF.sc _)) .nil)))) ?_
  simp [go_sem, e1, e3, e4, e5, e7, e11, e12, e13, hjl, hLne, hLne2, y1, y2, y3, y4, y5, y6, y7, hq]
  refine CallStep.pure hM (.cons (.hf (hf_lI s)) (.cons (.hf (hf_eMd q)) .nil)) ?_
  simp [go_sem, e1, e3, e4, e5, e7, e11, e12, e13, hjl]
  generalize st.mu = mu0
  obtain ⟨f1, f10, f11, f12⟩ := has_run L m hmL
  obtain ⟨f2, f20, f21, f22⟩ := has_run L im hyI
  refine LoopGo.up L.length (fun j st => st.tm 7 = ipMd m ∧ st.tm 11 = aB true ∧ st.tm 12 = lMd L ∧ st.tm 14 = .ptr mu0.length 0 ∧ st.tm 15 = aB (f1 j) ∧ st.tm 16 = aB (f2 j) ∧ st.tm 17 = aI j ∧ st.mu = mu0 ++ [.arr (cMd im)]) ?_ ?_
  · simp [go_sem, e7, e11, e12, f10, f20]
  clear e1 e3 e4 e5 e7 e11 e12 e13 hjl hj
  clear st j
  rintro j st hj ⟨e7, e11, e12, e14, e15, e16, e17, hm⟩
  by_cases hjl : j < L.length
  · have hs1 := sameModels11 L[j] m (fv_sm (hin _ (List.getElem_mem hjl)).f)
    have hs2 := sameModels11 L[j] im (fv_sm (hin _ (List.getElem_mem hjl)).f)
    have t1 := f11 j hjl
    have t2 := f21 j hjl
    generalize hqq : L[j] = qq at *
    generalize decide (qq = m) = d1 at *
    generalize decide (qq = im) = d2 at *
    simp [go_sem, e7, e11, e12, e14, e15, e16, e17, hm, hjl, hqq]
    refine DrawGo.intro (by kernel_rfl) ?_
    cases b1 : f1 j
    · simp [go_sem, e7, e11, e12, e14, e15, e16, e17, hm, hjl, hqq, b1]
      refine CallStep.pure hs1 (.cons (.hf (hf_eMd qq)) (.cons (.hf (hf_eMd m)) .nil)) ?_
      simp [go_sem, e7, e11, e12, e14, e15, e16, e17, hm, hjl, hqq, b1]
      refine DrawGo.intro (by kernel_rfl) ?_
      cases b2 : f2 j
      · simp [go_sem, e7, e11, e12, e14, e15, e16, e17, hm, hjl, hqq, b1, b2]
        refine CallStep.pure hs2 (.cons (.hf (hf_eMd qq)) (.cons (.hf (hf_eMd im)) .nil)) ?_
        simp [go_sem, e7, e11, e12, e14, e15, e16, e17, hm, hjl, hqq, b1, b2, t1, t2]
        exact wrap_i64 (by omega) (by omega)
      · simp [go_sem, e7, e11, e12, e14, e15, e16, e17, hm, hjl, hqq, b1, b2, t1, t2]
        exact wrap_i64 (by omega) (by omega)
    · simp [go_sem, e7, e11, e12, e14, e15, e16, e17, hm, hjl, hqq, b1]
      refine DrawGo.intro (by kernel_rfl) ?_
      cases b2 : f2 j
      · simp [go_sem, e7, e11, e12, e14, e15, e16, e17, hm, hjl, hqq, b1, b2]
        refine CallStep.pure hs2 (.cons (.hf (hf_eMd qq)) (.cons (.hf (hf_eMd im)) .nil)) ?_
        simp [go_sem, e7, e11, e12, e14, e15, e16, e17, hm, hjl, hqq, b1, b2, t1, t2]
        exact wrap_i64 (by omega) (by omega)
      · simp [go_sem, e7, e11, e12, e14, e15, e16, e17, hm, hjl, hqq, b1, b2, t1, t2]
        exact wrap_i64 (by omega) (by omega)
  · have hje : j = L.length := by omega
    subst hje
    rw [f12] at e15
    rw [f22] at e16
    simp [go_sem, e7, e11, e12, e14, e15, e16, e17, hm]
    exact .hf _ (HF.sc _)
end Go.Proofs.YtfniceomhfebhaaGreat.W25
