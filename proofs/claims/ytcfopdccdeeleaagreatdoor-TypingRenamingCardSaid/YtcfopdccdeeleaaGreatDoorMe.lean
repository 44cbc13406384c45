/-
  Own library, part 5: an abstract reading of values and a calculus over it; contracts of functions; plain lemmas.
-/
import Derived.Shelf.SlSortCmp.NoneTotal
import Derived.Lib.ItoaLen
import Derived.Test.YtcfopdccdeeleaaGreatDoorMd
set_option linter.unusedVariables false
set_option linter.unusedSimpArgs false
set_option maxRecDepth 100000


namespace Go.Proofs.YtcfopdccdeeleaaGreatDoor.Y16
open Go Go.Ev Go.Proofs Go.Proofs.YtcfopdccdeeleaaGreatDoor YM YS YF P1 P2 Y1 Y2 Y3 Y4 Y5 Y6 Y7 Y8 Y9 Y10 Y11 Y12 Y13 Y14 Y15
theorem equalI (a b : List Int) (ha : a.length ≤ 9223372036854775807) : SoundP Tryz.prog 56 [lI a, lI b] (aB (decide (a = b))) := by
  refine SoundP.of_sound (Sound.of_awp Tryz.call56 Tryz.func56 rfl (Nat.le_of_ble_eq_true (by kernel_rfl)) (by kernel_rfl) (pl := {}) ?_)
  by_cases hn : a.length = b.length
  case neg =>
    simp [go_sem, hn]
    rw [decide_eq_false (by rintro rfl; exact hn rfl)]
    exact .hf _ (HF.sc _)
  simp [go_sem, hn]
  refine LoopGo.up a.length (fun k st => st.tm 0 = lI a ∧ st.tm 1 = lI b ∧ st.tm 12 = aI a.length ∧ st.tm 13 = aI k ∧ st.mu = [] ∧ ∀ (i : Nat) (h : i < a.length) (h' : i < b.length), i < k → a[i] = b[i]) ?_ ?_
  · simp [go_sem, hn]
  rintro k st hk ⟨h0, h1, h12, h13, hm, he⟩
  by_cases hlt : k < a.length
  · have hlt' : k < b.length := by omega
    simp [go_sem, h0, h1, h12, h13, hm, hlt]
    try refine DrawGo.intro (by kernel_rfl) ?_
    by_cases hb : a[k] = b[k]
    · simp [go_sem, h0, h1, h12, h13, hm, hlt, hlt', hb]
      refine ⟨wrap_i64 (by omega) (by omega), fun i h h' hi => ?_⟩
      rcases Nat.lt_succ_iff_lt_or_eq.1 hi with h2 | h2
      · exact he i h h' h2
      · subst h2; exact hb
    · simp [go_sem, h0, h1, h12, h13, hm, hlt, hlt', hb]
      rw [decide_eq_false (by rintro rfl; simp at hb)]
      exact .hf _ (HF.sc _)
  · have hge : k = a.length := by omega
    subst hge
    simp [go_sem, h0, h1, h12, h13, hm]
    rw [decide_eq_true (List.ext_getElem hn fun i h h' => he i h h' h)]
    exact .hf _ (HF.sc _)
theorem eq4U (x y : Fld) (hx : x.sorts.length ≤ 1000) : SoundP Tryz.prog 55 [.agg (cField x), .agg (cField y)] (aB (decide (x.name = y.name) && decide (x.sorts = y.sorts))) := by
  refine SoundP.of_sound (Sound.of_awp Tryz.call55 Tryz.func55 rfl (Nat.le_of_ble_eq_true (by kernel_rfl)) (by kernel_rfl) (pl := {}) ?_)
  by_cases h : x.name = y.name
  · simp [go_sem, h]
    refine CallStep.pure (equalI x.sorts y.sorts (by omega)) (.cons (.hf (hf_lI _)) (.cons (.hf (hf_lI _)) .nil)) ?_
    simp [go_sem]
    exact .hf _ (HF.sc _)
  · simp [go_sem, h, str_ne h]
    exact .hf _ (HF.sc _)
theorem eq5U (x y : Pd) : SoundP Tryz.prog 58 [.agg (cPd x), .agg (cPd y)] (aB (decide (x.name = y.name))) := by
  refine SoundP.of_sound (Sound.of_awp Tryz.call58 Tryz.func58 rfl (Nat.le_of_ble_eq_true (by kernel_rfl)) (by kernel_rfl) (pl := {}) ?_)
  by_cases h : x.name = y.name
  · simp [go_sem, h]
    exact .hf _ (HF.sc _)
  · simp [go_sem, h, str_ne h]
    exact .hf _ (HF.sc _)
theorem eq6U (x y : ByteArray × Int) : SoundP Tryz.prog 60 [.agg (cPm x), .agg (cPm y)] (aB (decide (x.1 = y.1))) := by
  refine SoundP.of_sound (Sound.of_awp Tryz.call60 Tryz.func60 rfl (Nat.le_of_ble_eq_true (by kernel_rfl)) (by kernel_rfl) (pl := {}) ?_)
  by_cases h : x.1 = y.1
  · simp [go_sem, h]
    exact .hf _ (HF.sc _)
  · simp [go_sem, h, str_ne h]
    exact .hf _ (HF.sc _)
theorem eq7U (x y : ByteArray × Nd) : SoundP Tryz.prog 63 [.agg (cFa x), .agg (cFa y)] (aB (decide (x.1 = y.1))) := by
  refine SoundP.of_sound (Sound.of_awp Tryz.call63 Tryz.func63 rfl (Nat.le_of_ble_eq_true (by kernel_rfl)) (by kernel_rfl) (pl := {}) ?_)
  by_cases h : x.1 = y.1
  · simp [go_sem, h]
    exact .hf _ (HF.sc _)
  · simp [go_sem, h, str_ne h]
    exact .hf _ (HF.sc _)
abbrev cDg (d : Dg) : List AV := [aI d.1, aI d.2]
def blkO : AV → Option Nat
  | .sl b _ _ _ => some b
  | _ => none
structure OutAt (b : Nat) (mu : Mu) (av : AV) (xs : List Dg) : Prop where
  cell : mu[b]? = some (.arr [av])
  own : Own mu 2 av (xs.map cDg)
  ne : blkO av ≠ some b
structure Fr (b : Nat) (mu : Mu) (av : AV) (mu' : Mu) (av' : AV) : Prop where
  len : mu.length ≤ mu'.length
  same : ∀ i, i < mu.length → i ≠ b → blkO av ≠ some i → mu'[i]? = mu[i]? ∧ blkO av' ≠ some i
theorem Fr.refl (b : Nat) (mu : Mu) (av : AV) : Fr b mu av mu av := ⟨Nat.le_refl _, fun i _ _ h => ⟨rfl, h⟩⟩
theorem Fr.trans {b : Nat} {mu mu' mu'' : Mu} {av av' av'' : AV} (h : Fr b mu av mu' av') (h' : Fr b mu' av' mu'' av'') : Fr b mu av mu'' av'' :=
  ⟨Nat.le_trans h.len h'.len, fun i hi hb ha => by
    obtain ⟨e1, n1⟩ := h.same i hi hb ha
    obtain ⟨e2, n2⟩ := h'.same i (Nat.lt_of_lt_of_le hi h.len) hb n1
    exact ⟨e2.trans e1, n2⟩⟩
theorem OutAt.push {b : Nat} {mu : Mu} {av : AV} {xs : List Dg} (h : OutAt b mu av xs) (l : List Cell) : OutAt b (mu ++ l) av xs ∧ Fr b mu av (mu ++ l) av := by
  refine ⟨⟨by rw [List.getElem?_append_left (List.getElem?_eq_some_iff.1 h.cell).1]; exact h.cell, ?_, h.ne⟩, by simp, fun i hi _ hn => ⟨by rw [List.getElem?_append_left hi], hn⟩⟩
  rcases h.own with rfl | ⟨c, rfl, hc⟩
  · exact .inl rfl
  · exact .inr ⟨c, rfl, by rw [List.getElem?_append_left (List.getElem?_eq_some_iff.1 hc).1]; exact hc⟩
theorem OutAt.app {b : Nat} {mu : Mu} {av : AV} {xs : List Dg} (h : OutAt b mu av xs) (d : Dg) (hl : xs.length ≤ 100000) {K : AV → Mu → Prop}
    (k : ∀ av' mu', Own mu' 2 av' ((xs ++ [d]).map cDg) → (∀ i, i < mu.length → blkO av ≠ some i → mu'[i]? = mu[i]?) → (∀ c, blkO av' = some c → c = mu.length) → mu.length ≤ mu'.length → K av' mu') :
    AppendStep Tryz.prog mu #[36, 36] av (.lst true [cDg d]) K := by
  have hrows : ∀ l : List Dg, rowsWf 2 (l.map cDg) := fun l r hr => by
    obtain ⟨n, _, rfl⟩ := List.mem_map.1 hr
    exact ⟨rfl, rfl⟩
  refine .inl ?_
  refine ⟨_, _, 44, 2, 16, [cDg d], rfl, by simp [go_sem], by simp [go_sem], ⟨.agg [aI 0, aI 0], by simp [go_sem], rfl, rfl⟩, by omega, by omega, by simp [rowsOf], hrows [d], ?_⟩
  rcases h.own with rfl | ⟨c, rfl, hc⟩
  · refine .inl ⟨_, rfl, hrows xs, by simp; omega, fun h => absurd h (by simp), fun _ => ?_⟩
    refine k _ _ (.inr ⟨mu.length, by simp, by simp⟩) (fun i hi _ => ?_) (fun b h => by cases h; rfl) (by simp)
    rw [List.getElem?_append_left hi]
  · have hfl := flatten_len (hrows xs).ok
    refine .inr ⟨c, _, _, rfl, hc, by omega, by simp; omega, ?_⟩
    have htk : (xs.map cDg).flatten.take ((xs.map cDg).length * 2) = (xs.map cDg).flatten := List.take_of_length_le (by omega)
    refine k _ _ (.inr ⟨mu.length, by simp, ?_⟩) (fun i hi hne => ?_) (fun b h => by cases h; rfl) (by simp)
    · rw [htk, List.getElem?_append_right (by simp)]; simp
    · rw [List.getElem?_append_left (by simpa using hi)]
      rw [List.getElem?_set_ne (fun e => hne (by rw [e]; rfl))]
theorem own_one {sz : Nat} {mu : Mu} {av : AV} {xs : List (List AV)} (h : Own mu sz av xs) : av.one = true := by
  rcases h with rfl | ⟨b, rfl, _⟩ <;> rfl
theorem own_cells {sz : Nat} {mu : Mu} {av : AV} {xs : List (List AV)} (h : Own mu sz av xs) : av.cells = [av] := by
  rcases h with rfl | ⟨b, rfl, _⟩ <;> rfl
theorem own_set {sz : Nat} {mu : Mu} {av : AV} {xs : List (List AV)} (h : Own mu sz av xs) {i : Nat} {c : Cell} (hi : blkO av ≠ some i) : Own (mu.set i c) sz av xs := by
  rcases h with rfl | ⟨b, rfl, hc⟩
  · exact .inl rfl
  · exact .inr ⟨b, rfl, by rw [List.getElem?_set_ne (fun e => hi (by rw [e]; rfl))]; exact hc⟩
theorem reportU {b : Nat} {mu : Mu} {av : AV} {xs : List Dg} (h : OutAt b mu av xs) (d : Dg) (hl : xs.length ≤ 100000) : Sound Tryz.prog 50 [.agg (cDg d), .ptr b 0] mu fun e mu' => e = .ret (.tup []) ∧ ∃ av', OutAt b mu' av' (xs ++ if d.1 = 0 then [] else [d]) ∧ Fr b mu av mu' av' := by
  refine Sound.of_awp Tryz.call50 Tryz.func50 rfl (Nat.le_of_ble_eq_true (by kernel_rfl)) (by kernel_rfl) (pl := {}) ?_
  by_cases h0 : d.1 = 0
  · simp [go_sem, h0]
    exact ⟨av, h, Fr.refl _ _ _⟩
  · simp [go_sem, h0, h.cell]
    refine h.app d hl fun av' mu' ho hm hb hlen => ?_
    have hbl : b < mu.length := (List.getElem?_eq_some_iff.1 h.cell).1
    have hcell : mu'[b]? = some (.arr [av]) := by rw [hm b hbl h.ne]; exact h.cell
    have hbl' : b < mu'.length := by omega
    have hone := own_one ho
    have hcells := own_cells ho
    simp [go_sem, hcell, hone, hcells]
    refine ⟨av', ⟨List.getElem?_set_self hbl', own_set ho fun e => by have := hb b e; omega, fun e => by have := hb b e; omega⟩, by simpa using hlen, fun i hi hne hna => ⟨?_, fun e => by have := hb i e; omega⟩⟩
    rw [List.getElem?_set_ne (fun e => hne e.symm)]
    exact hm i hi hna
def dups (l : List Bool) : List Dg := (l.filter id).map fun _ => (41, 0)
theorem twiceU {b r : Nat} {mu : Mu} {av : AV} {xs : List Dg} (h : OutAt b mu av xs) (l : List Bool) (hl : xs.length + l.length ≤ 100000) (hr : mu[r]? = some (.arr [.fn (.func 50) [] [.ptr b 0]])) :
    Sound Tryz.prog 51 [lB l, .ptr r 0] mu fun e mu' => e = .ret (.tup []) ∧ ∃ av', OutAt b mu' av' (xs ++ dups l) ∧ Fr b mu av mu' av' := by
  refine Sound.of_awp Tryz.call51 Tryz.func51 rfl (Nat.le_of_ble_eq_true (by kernel_rfl)) (by kernel_rfl) (pl := {}) ?_
  have hrl : r < mu.length := (List.getElem?_eq_some_iff.1 hr).1
  have hrb : r ≠ b := fun e => by
    rw [e, h.cell] at hr
    injection hr with hr; injection hr with hr; injection hr with hr _
    rcases h.own with ho | ⟨_, ho, _⟩ <;> rw [ho] at hr <;> cases hr
  have hra : blkO av ≠ some r := fun e => by
    rcases h.own with ho | ⟨c, ho, hc⟩
    · rw [ho] at e; cases e
    · rw [ho] at e; cases e
      rw [hr] at hc
      injection hc with hc; injection hc with hc
      have : ((xs.map cDg).flatten).length = xs.length * 2 := by simpa using flatten_len (sz := 2) (xs := xs.map cDg) fun r hr => by obtain ⟨_, _, rfl⟩ := List.mem_map.1 hr; rfl
      rw [← hc] at this
      simp at this
      omega
  simp [go_sem]
  refine LoopGo.upK l.length (fun k st => st.tm 1 = .ptr r 0 ∧ st.tm 5 = lB l ∧ st.tm 6 = aI l.length ∧ st.tm 7 = aI k ∧ ∃ av', OutAt b st.mu av' (xs ++ dups (l.take k)) ∧ Fr b mu av st.mu av') ?_ ?_
  · exact ⟨by simp [go_sem], by simp [go_sem], by simp [go_sem], by simp [go_sem], av, by simpa [dups, go_sem] using h, by simpa [go_sem] using Fr.refl b mu av⟩
  · rintro k st hk ⟨e1, e5, e6, e7, av', ho, hf⟩
    obtain ⟨hr', hra'⟩ := hf.same r hrl hrb hra
    rw [hr] at hr'
    by_cases hkl : k = l.length
    · subst hkl
      rw [List.take_length] at ho
      simp [go_sem, e1, e5, e6, e7]
      exact ⟨av', ho, hf⟩
    · have hlt : k < l.length := by omega
      have w1 : IntKind.i64.wrap ((k : Int) + 1) = (k : Int) + 1 := wrap_i64 (by omega) (by omega)
      have hd : dups (l.take (k + 1)) = dups (l.take k) ++ if l[k] = true then [(41, 0)] else [] := by
        rw [List.take_add_one, List.getElem?_eq_getElem hlt]
        cases h : l[k] <;> simp [dups, h]
      have hdl : (dups (l.take k)).length ≤ k := by
        unfold dups
        rw [List.length_map]
        exact Nat.le_trans (List.length_filter_le _ _) (by simp; omega)
      cases hlk : l[k] with
      | false =>
        rw [hlk] at hd
        simp [go_sem, e1, e5, e6, e7, hlt, hlk, w1]
        refine Keep.mk' ⟨by simp [go_sem, e1], by simp [go_sem, e5], by simp [go_sem, e6], by simp [go_sem], av', ?_, by simpa [go_sem] using hf⟩
        rw [hd]
        simpa [go_sem] using ho
      | true =>
        rw [hlk] at hd
        simp [go_sem, e1, e5, e6, e7, hlt, hlk, hr']
        refine CallStep.eff (reportU ho (41, 0) (by simp; omega)) ?_ ?_
        · rintro x m ⟨ex, av'', ho2, hf2⟩
          cases ex
          simp [go_sem, e1, e5, e6, e7, w1]
          refine ⟨hlt, Keep.mk' ?_⟩
          refine ⟨by simp [go_sem, e1], by simp [go_sem, e5], by simp [go_sem, e6], by simp [go_sem], av'', ?_, by simpa [go_sem] using hf.trans hf2⟩
          rw [hd]
          simpa [go_sem] using ho2
        · rintro x m ⟨ex, _⟩; cases ex
def repB {α : Type} (eqv : α → α → Bool) (l : List α) (i : Nat) : List Bool := ((repL eqv l).take (i + 1)).drop i
def rp (d : Dg) : List Dg := if d.1 = 0 then [] else [d]
def predD (ts : TS) (i : Nat) : List Dg := match ts.preds[i]? with
  | some p => dups (repB (fun x y : Pd => decide (x.name = y.name)) ts.preds i) ++ (dups (repL (fun x y : ByteArray × Int => decide (x.1 = y.1)) p.params) ++ rp (formK (mkCk ts i) p.params p.body))
  | none => []
def factD (ts : TS) (fa : List (ByteArray × Nd)) (i : Nat) : List Dg := match fa[i]? with
  | some f => dups (repB (fun x y : ByteArray × Nd => decide (x.1 = y.1)) fa i) ++ rp (checkF ts [] f.2)
  | none => []
def checkL (ts : TS) : List Dg :=
  dups (repL (fun x y : ByteArray × Bool => decide (x.1 = y.1)) ts.sorts) ++ (dups (repL (fun x y : Fld => decide (x.name = y.name) && decide (x.sorts = y.sorts)) ts.fields) ++
    ((List.range ts.preds.length).flatMap (predD ts) ++ (List.range ts.facts.length).flatMap (factD ts ts.facts)))
abbrev lDg (l : List Dg) : AV := .lst false (l.map cDg)
abbrev repF : AV := .fn (.func 50) [] [.ptr 0 0]
abbrev twF : AV := .fn (.func 51) [] [.ptr 1 0]
theorem OutAt.rep {mu : Mu} {av : AV} {xs : List Dg} (h : OutAt 0 mu av xs) (h1 : mu[1]? = some (.arr [repF])) : blkO av ≠ some 1 := fun e => by
  rcases h.own with ho | ⟨c, ho, hc⟩
  · rw [ho] at e; cases e
  · rw [ho] at e; cases e
    rw [h1] at hc
    injection hc with hc; injection hc with hc
    have : ((xs.map cDg).flatten).length = xs.length * 2 := by simpa using flatten_len (sz := 2) (xs := xs.map cDg) fun r hr => by obtain ⟨_, _, rfl⟩ := List.mem_map.1 hr; rfl
    rw [← hc] at this
    simp at this
    omega
theorem stepT {mu : Mu} {av : AV} {xs : List Dg} {l : List Bool} (h : OutAt 0 mu av xs) (h1 : mu[1]? = some (.arr [repF])) (hl : xs.length + l.length ≤ 100000) {K Kp : AV → Mu → Prop}
    (k : ∀ av' mu', OutAt 0 mu' av' (xs ++ dups l) → mu'[1]? = some (.arr [repF]) → Fr 0 mu av mu' av' → K (.tup []) mu') : CallStep Tryz.prog false mu twF [lB l] K Kp := by
  refine CallStep.eff (twiceU h l hl h1) ?_ ?_
  · rintro x m ⟨ex, av', ho, hf⟩
    cases ex
    have hlt : 1 < mu.length := (List.getElem?_eq_some_iff.1 h1).1
    exact k av' m ho (((hf.same 1 hlt (by omega) (h.rep h1)).1).trans h1) hf
  · rintro x m ⟨ex, _⟩; cases ex
theorem stepR {mu : Mu} {av : AV} {xs : List Dg} (d : Dg) (h : OutAt 0 mu av xs) (h1 : mu[1]? = some (.arr [repF])) (hl : xs.length ≤ 100000) {K Kp : AV → Mu → Prop}
    (k : ∀ av' mu', OutAt 0 mu' av' (xs ++ rp d) → mu'[1]? = some (.arr [repF]) → Fr 0 mu av mu' av' → K (.tup []) mu') : CallStep Tryz.prog false mu repF [.agg (cDg d)] K Kp := by
  refine CallStep.eff (reportU h d hl) ?_ ?_
  · rintro x m ⟨ex, av', ho, hf⟩
    cases ex
    have hlt : 1 < mu.length := (List.getElem?_eq_some_iff.1 h1).1
    exact k av' m ho (((hf.same 1 hlt (by omega) (h.rep h1)).1).trans h1) hf
  · rintro x m ⟨ex, _⟩; cases ex
theorem dups_len (l : List Bool) : (dups l).length ≤ l.length := by
  unfold dups
  rw [List.length_map]
  exact List.length_filter_le _ _
theorem rp_len (d : Dg) : (rp d).length ≤ 1 := by unfold rp; split <;> simp
theorem hf_f0 (f : FuncId) : HF (.fn (.func f) [] []) := HF.fn (fun c hc => by simp at hc) (fun c hc => by simp at hc)
abbrev eqS1 (x y : ByteArray × Bool) : Bool := decide (x.1 = y.1)
abbrev eqF1 (x y : Fld) : Bool := decide (x.name = y.name) && decide (x.sorts = y.sorts)
abbrev eqP1 (x y : Pd) : Bool := decide (x.name = y.name)
abbrev eqM1 (x y : ByteArray × Int) : Bool := decide (x.1 = y.1)
abbrev eqA1 (x y : ByteArray × Nd) : Bool := decide (x.1 = y.1)
theorem own_ne {sz : Nat} {mu : Mu} {av : AV} {xs : List (List AV)} (h : Own mu sz av xs) : blkO av ≠ some mu.length := by
  rcases h with rfl | ⟨b, rfl, hc⟩
  · intro e; cases e
  · intro e; cases e
    have := (List.getElem?_eq_some_iff.1 hc).1
    omega
theorem flat_len (f : Nat → List Dg) (hf : ∀ i, (f i).length ≤ 10) : ∀ k, ((List.range k).flatMap f).length ≤ 10 * k
  | 0 => by simp
  | k + 1 => by
    rw [List.range_succ, List.flatMap_append, List.length_append]
    have := flat_len f hf k
    have := hf k
    simp only [List.flatMap_cons, List.flatMap_nil, List.append_nil]
    omega
theorem repB_len {α : Type} (eqv : α → α → Bool) (l : List α) (i : Nat) : (repB eqv l i).length ≤ 1 := by
  unfold repB
  rw [List.length_drop, List.length_take]
  omega
theorem predD_len {ts : TS} (h : okTS ts) (i : Nat) : (predD ts i).length ≤ 10 := by
  unfold predD
  split
  · rename_i p hp
    have h1 := (h.pl p (List.mem_of_getElem? hp)).1
    have h2 := dups_len (repB (fun x y : Pd => decide (x.name = y.name)) ts.preds i)
    have h3 := repB_len (fun x y : Pd => decide (x.name = y.name)) ts.preds i
    have h4 := dups_len (repL (fun x y : ByteArray × Int => decide (x.1 = y.1)) p.params)
    rw [repL_len] at h4
    have h5 := rp_len (formK (mkCk ts i) p.params p.body)
    simp only [List.length_append]
    omega
  · simp
theorem factD_len (ts : TS) (fa : List (ByteArray × Nd)) (i : Nat) : (factD ts fa i).length ≤ 10 := by
  unfold factD
  split
  · rename_i f hf
    have h2 := dups_len (repB (fun x y : ByteArray × Nd => decide (x.1 = y.1)) fa i)
    have h3 := repB_len (fun x y : ByteArray × Nd => decide (x.1 = y.1)) fa i
    have h5 := rp_len (checkF ts [] f.2)
    simp only [List.length_append]
    omega
  · simp
theorem checkU (ts : TS) (h : okTS ts) (hp : ∀ p, p ∈ ts.preds → WfN p.body) (hf : ∀ f, f ∈ ts.facts → WfN f.2) : SoundP Tryz.prog 19 [eTS ts] (lDg (checkL ts)) := by
  refine SoundP.of_sound (Sound.of_awp Tryz.call19 Tryz.func19 rfl (Nat.le_of_ble_eq_true (by kernel_rfl)) (by kernel_rfl) (pl := {}) ?_)
  simp [go_sem]
  have hns := h.ns
  have hnf := h.nf
  have hnp := h.np
  have hnfa := h.nfa
  refine CallStep.pure (repSoU _ eqS1 ts.sorts (fun x y _ _ => eq3U x y) (by omega)) (.cons (.hf (hf_lSo _)) (.cons (.hf (hf_f0 _)) .nil)) ?_
  simp [go_sem]
  have h0 : OutAt 0 [.arr [.lst true []], .arr [repF]] (.lst true []) [] := ⟨rfl, .inl rfl, by simp [blkO]⟩
  have l1 := dups_len (repL eqS1 ts.sorts)
  have l2 := dups_len (repL eqF1 ts.fields)
  rw [repL_len] at l1 l2
  refine stepT h0 rfl (by simp [repL_len]; omega) fun av1 mu1 o1 r1 f1 => ?_
  simp [go_sem]
  refine CallStep.pure (repFlU _ eqF1 ts.fields (fun x y hx _ => eq4U x y (by have := (h.fl x hx).2.1; omega)) (by omega)) (.cons (.hf (hf_lFl _)) (.cons (.hf (hf_f0 _)) .nil)) ?_
  simp [go_sem]
  refine stepT o1 r1 (by simp [repL_len]; omega) fun av2 mu2 o2 r2 f2 => ?_
  simp [go_sem]
  refine CallStep.pure (repPdU _ eqP1 ts.preds (fun x y _ _ => eq5U x y) (by omega)) (.cons (.hf (hf_lPd _)) (.cons (.hf (hf_f0 _)) .nil)) ?_
  simp [go_sem]
  simp only [List.nil_append] at o2
  generalize hbase : dups (repL eqS1 ts.sorts) ++ dups (repL eqF1 ts.fields) = base at o2
  have hbl : base.length ≤ 10 := by rw [← hbase, List.length_append]; omega
  refine LoopGo.upK ts.preds.length (fun k st => ∃ av, st.tm 1 = .ip (cTS ts) ∧ st.tm 3 = .ptr 0 0 ∧ st.tm 4 = .ptr 1 0 ∧ st.tm 5 = twF ∧ st.tm 6 = lB (repL eqP1 ts.preds) ∧ st.tm 28 = lPd ts.preds ∧ st.tm 29 = aI ts.preds.length ∧ st.tm 30 = aI k ∧
    OutAt 0 st.mu av (base ++ (List.range k).flatMap (predD ts)) ∧ st.mu[1]? = some (.arr [repF])) ?_ ?_
  · refine ⟨av2, by simp [go_sem], by simp [go_sem], by simp [go_sem], by simp [go_sem], by simp [go_sem], by simp [go_sem], by simp [go_sem], by simp [go_sem], by simpa [go_sem] using o2, by simpa [go_sem] using r2⟩
  · rintro k st hk ⟨av, e1, e3, e4, e5, e6, e28, e29, e30, ho, hr⟩
    have hfl := flat_len (predD ts) (fun i => predD_len h i) k
    by_cases hkl : k = ts.preds.length
    · subst hkl
      simp [go_sem, e1, e3, e4, e5, e6, e28, e29, e30]
      refine CallStep.pure (repFaU _ eqA1 ts.facts (fun x y _ _ => eq7U x y) (by omega)) (.cons (.hf (hf_lFa _)) (.cons (.hf (hf_f0 _)) .nil)) ?_
      simp [go_sem, e1, e3, e4, e5, e6, e28, e29, e30]
      generalize hbase2 : base ++ (List.range ts.preds.length).flatMap (predD ts) = base2 at ho
      have hbl2 : base2.length ≤ 100 := by rw [← hbase2, List.length_append]; omega
      refine LoopGo.upK ts.facts.length (fun k st => ∃ av, st.tm 1 = .ip (cTS ts) ∧ st.tm 3 = .ptr 0 0 ∧ st.tm 4 = .ptr 1 0 ∧ st.tm 5 = twF ∧ st.tm 9 = lB (repL eqA1 ts.facts) ∧ st.tm 62 = lFa ts.facts ∧ st.tm 63 = aI ts.facts.length ∧ st.tm 64 = aI k ∧
        OutAt 0 st.mu av (base2 ++ (List.range k).flatMap (factD ts ts.facts)) ∧ st.mu[1]? = some (.arr [repF])) ?_ ?_
      · refine ⟨av, by simp [go_sem, e1], by simp [go_sem, e3], by simp [go_sem, e4], by simp [go_sem, e5], by simp [go_sem], by simp [go_sem], by simp [go_sem], by simp [go_sem], by simpa [go_sem] using ho, by simpa [go_sem] using hr⟩
      · clear ho hr hfl e1 e3 e4 e5 e6 e28 e29 e30 st av hk
        rintro k st hk ⟨av, e1, e3, e4, e5, e9, e62, e63, e64, ho, hr⟩
        have hfl := flat_len (factD ts ts.facts) (fun i => factD_len ts ts.facts i) k
        by_cases hkl : k = ts.facts.length
        · subst hkl
          simp [go_sem, e1, e3, e4, e5, e9, e62, e63, e64, ho.cell]
          have hck : checkL ts = base2 ++ (List.range ts.facts.length).flatMap (factD ts ts.facts) := by
            rw [← hbase2, ← hbase]
            simp only [checkL, List.append_assoc]
          rw [hck]
          refine Own.rd (sz := 2) ho.own (fun r hr => ?_) fun r hr c hc => ?_
          · obtain ⟨d, _, rfl⟩ := List.mem_map.1 hr; rfl
          · obtain ⟨d, _, rfl⟩ := List.mem_map.1 hr
            simp at hc
            rcases hc with rfl | rfl <;> exact HF.sc _
        · have hlt : k < ts.facts.length := by omega
          have w1 : IntKind.i64.wrap ((k : Int) + 1) = (k : Int) + 1 := wrap_i64 (by omega) (by omega)
          simp [go_sem, e1, e3, e4, e5, e9, e62, e63, e64, hlt, w1]
          have hrs : rowsOk 1 ((repL eqA1 ts.facts).map fun b => [aB b]) := fun r hr => by
            obtain ⟨b, _, rfl⟩ := List.mem_map.1 hr; rfl
          refine ⟨⟨_, _, ⟨rfl, rfl⟩, hrs⟩, ?_⟩
          rw [if_pos ⟨by omega, by rw [repL_len]; omega⟩]
          simp [go_sem]
          have hsl : AV.lst false (List.drop k (List.take (k + 1) ((repL eqA1 ts.facts).map fun b => [aB b]))) = lB (repB eqA1 ts.facts k) := by
            simp only [repB, lB, List.map_drop, List.map_take]
          rw [hsl]
          obtain ⟨oP, fP⟩ := ho.push [.arr (cFa ts.facts[k])]
          have rP : (st.mu ++ [.arr (cFa ts.facts[k])])[1]? = some (.arr [repF]) := by rw [List.getElem?_append_left (List.getElem?_eq_some_iff.1 hr).1]; exact hr
          have gP : (st.mu ++ [.arr (cFa ts.facts[k])])[st.mu.length]? = some (.arr (cFa ts.facts[k])) := by simp
          have nP : blkO av ≠ some st.mu.length := own_ne ho.own
          have zP : st.mu.length ≠ 0 := by have := (List.getElem?_eq_some_iff.1 hr).1; omega
          have q1 := dups_len (repB eqA1 ts.facts k)
          have q2 := repB_len eqA1 ts.facts k
          refine stepT oP rP (by simp only [List.length_append]; omega) fun av3 mu3 o3 r3 f3 => ?_
          obtain ⟨g3, n3⟩ := f3.same st.mu.length (by simp) zP nP
          rw [gP] at g3
          have hwf := hf ts.facts[k] (List.getElem_mem hlt)
          simp [go_sem, e1, e3, e4, e5, e9, e62, e63, e64, g3, r3]
          refine DrawGo.tail 5 (by kernel_rfl) ?_
          simp [go_sem, e1, e3, e4, e5, e9, e62, e63, e64, g3, r3]
          refine CallStep.pure (checkFormulaU ts h hp ts.facts[k].2 hwf [] ⟨by simp, fun p hp => absurd hp List.not_mem_nil⟩) (.cons (.hf (hf_eTS ts)) (.cons (WK.lst fun r hr => absurd hr List.not_mem_nil) (.cons (.hf (hf_eNd _)) .nil))) ?_
          simp [go_sem, e1, e3, e4, e5, e9, e62, e63, e64, g3, r3]
          refine stepR (checkF ts [] ts.facts[k].2) o3 r3 (by simp only [List.length_append]; omega) fun av5 mu5 o5 r5 f5 => ?_
          simp [go_sem, e1, e3, e4, e5, e9, e62, e63, e64, w1]
          refine ⟨hlt, Keep.mk' ?_⟩
          refine ⟨av5, by simp [go_sem, e1], by simp [go_sem, e3], by simp [go_sem, e4], by simp [go_sem, e5], by simp [go_sem, e9], by simp [go_sem, e62], by simp [go_sem, e63], by simp [go_sem], ?_, by simpa [go_sem] using r5⟩
          have e : (List.range (k + 1)).flatMap (factD ts ts.facts) = (List.range k).flatMap (factD ts ts.facts) ++ (dups (repB eqA1 ts.facts k) ++ rp (checkF ts [] ts.facts[k].2)) := by
            rw [List.range_succ, List.flatMap_append]
            simp only [List.flatMap_cons, List.flatMap_nil, List.append_nil, factD, List.getElem?_eq_getElem hlt]
          rw [e]
          simpa [go_sem, List.append_assoc] using o5
    · have hlt : k < ts.preds.length := by omega
      have w1 : IntKind.i64.wrap ((k : Int) + 1) = (k : Int) + 1 := wrap_i64 (by omega) (by omega)
      simp [go_sem, e1, e3, e4, e5, e6, e28, e29, e30, hlt, w1]
      have hrs : rowsOk 1 ((repL eqP1 ts.preds).map fun b => [aB b]) := fun r hr => by
        obtain ⟨b, _, rfl⟩ := List.mem_map.1 hr; rfl
      refine ⟨⟨_, _, ⟨rfl, rfl⟩, hrs⟩, ?_⟩
      rw [if_pos ⟨by omega, by rw [repL_len]; omega⟩]
      simp [go_sem]
      have hsl : AV.lst false (List.drop k (List.take (k + 1) ((repL eqP1 ts.preds).map fun b => [aB b]))) = lB (repB eqP1 ts.preds k) := by
        simp only [repB, lB, List.map_drop, List.map_take]
      rw [hsl]
      have hpm := (h.pl ts.preds[k] (List.getElem_mem hlt)).1
      obtain ⟨oP, fP⟩ := ho.push [.arr (cPd ts.preds[k])]
      have rP : (st.mu ++ [.arr (cPd ts.preds[k])])[1]? = some (.arr [repF]) := by rw [List.getElem?_append_left (List.getElem?_eq_some_iff.1 hr).1]; exact hr
      have gP : (st.mu ++ [.arr (cPd ts.preds[k])])[st.mu.length]? = some (.arr (cPd ts.preds[k])) := by simp
      have nP : blkO av ≠ some st.mu.length := own_ne ho.own
      have zP : st.mu.length ≠ 0 := by have := (List.getElem?_eq_some_iff.1 hr).1; omega
      have q1 := dups_len (repB eqP1 ts.preds k)
      have q2 := repB_len eqP1 ts.preds k
      have q3 := dups_len (repL eqM1 ts.preds[k].params)
      rw [repL_len] at q3
      refine stepT oP rP (by simp only [List.length_append]; omega) fun av3 mu3 o3 r3 f3 => ?_
      obtain ⟨g3, n3⟩ := f3.same st.mu.length (by simp) zP nP
      rw [gP] at g3
      have hl3 : st.mu.length < mu3.length := (List.getElem?_eq_some_iff.1 g3).1
      simp [go_sem, e1, e3, e4, e5, e6, e28, e29, e30, g3]
      refine CallStep.pure (repPmU _ eqM1 ts.preds[k].params (fun x y _ _ => eq6U x y) (by omega)) (.cons (.hf (hf_lPm _)) (.cons (.hf (hf_f0 _)) .nil)) ?_
      simp [go_sem]
      refine stepT o3 r3 (by simp only [List.length_append, repL_len]; omega) fun av4 mu4 o4 r4 f4 => ?_
      obtain ⟨g4, n4⟩ := f4.same st.mu.length hl3 zP n3
      rw [g3] at g4
      simp [go_sem, e1, e3, e4, e5, e6, e28, e29, e30, g4]
      have hwp := hp ts.preds[k] (List.getElem_mem hlt)
      have hpe := h.pl ts.preds[k] (List.getElem_mem hlt)
      refine DrawGo.tail 9 (by kernel_rfl) ?_
      simp [go_sem, e1, e3, e4, e5, e6, e28, e29, e30, g4, r4]
      refine CallStep.pure (newCheckerU ts h (fun p hq => (hp p hq).small) k (by omega)) (.cons (.hf (hf_eTS ts)) (.cons (.hf (HF.sc _)) .nil)) ?_
      simp [go_sem, e1, e3, e4, e5, e6, e28, e29, e30, g4, r4]
      refine CallStep.pure (formulaU (mkCk ts k) (okCk_mk h (by omega)) ts.preds[k].body hwp ts.preds[k].params ⟨by omega, hpe.2⟩) (.cons (.hf (hf_eCk _)) (.cons (.hf (hf_lPm _)) (.cons (.hf (hf_eNd _)) .nil))) ?_
      simp [go_sem, e1, e3, e4, e5, e6, e28, e29, e30, g4, r4]
      refine stepR (formK (mkCk ts k) ts.preds[k].params ts.preds[k].body) o4 r4 (by simp only [List.length_append]; omega) fun av5 mu5 o5 r5 f5 => ?_
      simp [go_sem, e1, e3, e4, e5, e6, e28, e29, e30, w1]
      refine ⟨hlt, Keep.mk' ?_⟩
      refine ⟨av5, by simp [go_sem, e1], by simp [go_sem, e3], by simp [go_sem, e4], by simp [go_sem, e5], by simp [go_sem, e6], by simp [go_sem, e28], by simp [go_sem, e29], by simp [go_sem], ?_, by simpa [go_sem] using r5⟩
      have e : (List.range (k + 1)).flatMap (predD ts) = (List.range k).flatMap (predD ts) ++ (dups (repB eqP1 ts.preds k) ++ (dups (repL eqM1 ts.preds[k].params) ++ rp (formK (mkCk ts k) ts.preds[k].params ts.preds[k].body))) := by
        rw [List.range_succ, List.flatMap_append]
        simp only [List.flatMap_cons, List.flatMap_nil, List.append_nil, predD, List.getElem?_eq_getElem hlt]
      rw [e]
      simpa [go_sem, List.append_assoc] using o5
end Go.Proofs.YtcfopdccdeeleaaGreatDoor.Y16


namespace Go.Proofs.YtcfopdccdeeleaaGreatDoor.YU
open Go Go.Ev Go.RowKit Go.Proofs Go.Proofs.YtcfopdccdeeleaaGreatDoor.Y16
theorem grow_of1 {w w' : World} (h : BelowD w.heap.size w w') : ∃ q os, w' = Sort.grow (w.drewN q) os := by
  refine ⟨w'.drawn - w.drawn, w'.heap.extract w.heap.size w'.heap.size, ?_⟩
  have hd := h.drawn
  have hh : w'.heap = w.heap ++ w'.heap.extract w.heap.size w'.heap.size := by
    apply Array.ext_getElem?
    intro i
    by_cases hi : i < w.heap.size
    · rw [Array.getElem?_append_left hi, h.block i hi]
    · rw [Array.getElem?_append_right (by omega), Array.getElem?_extract]
      have hs := h.size
      have e : w.heap.size + (i - w.heap.size) = i := by omega
      rw [e]
      by_cases hi2 : i < w'.heap.size
      · rw [if_pos (by omega)]
      · rw [if_neg (by omega), Array.getElem?_eq_none (by omega)]
  obtain ⟨heap', tape', drawn', os', out'⟩ := w'
  obtain ⟨heap, tape, drawn, os, out⟩ := w
  have h1 := h.os
  have h2 := h.tape
  have h3 := h.output
  simp only at h1 h2 h3 hd hh
  subst h1; subst h2; subst h3
  simp only [Sort.grow, World.drewN, World.mk.injEq, and_true, true_and]
  exact ⟨hh, by omega⟩
theorem sort1_sound {P : Program} {f g : FuncId} (hcal : Callable P f) {β : Type} (c : β → AV) (hone : ∀ x, (c x).one = true) (ord : β → β → Int) (hf : ∀ x, HF (c x))
    (m : Nat) (ms : List β) (hm : ms.length = m + 1) (hbig : m + 1 < 4611686018427387904)
    (hcmp : ∀ x y, x ∈ ms → y ∈ ms → SoundP P g [c x, c y] (.sc (.int .i64 (ord x y))))
    (hirr : ∀ x, x ∈ ms → ¬ ord x x < 0) (htr : ∀ x y z, x ∈ ms → y ∈ ms → z ∈ ms → ord x y < 0 → ord y z < 0 → ord x z < 0) (hnt : ∀ x y z, x ∈ ms → y ∈ ms → z ∈ ms → ¬ ord x y < 0 → ¬ ord y z < 0 → ¬ ord x z < 0)
    (hsort : ∀ (enc : Fin (m + 1) → Value), (∀ x, (enc x).oneCell' = true) → ∀ (cf : Fin (m + 1) → Fin (m + 1) → Int), Sort.SWO (Proofs.ltOf cf) → ∀ (cb : Array Value) (blk off cap : Nat) (d : Array (Fin (m + 1))) (w : World),
      Proofs.CmpLays1 P g cb enc cf blk off d.size w → Sort.Holds enc w blk off d → blk < w.heap.size → d.size < 4611686018427387904 →
      Calls P f #[.slice (some ⟨blk, off, none⟩) d.size cap, .func (.func g) #[] cb] w fun e w' =>
        e = .returned (.tuple #[]) ∧ ∃ d' n os, Sort.PermIn 0 d.size d d' ∧ Sort.SortedIn (Proofs.ltOf cf) 0 d.size d' ∧ w' = Proofs.sortWorld enc w blk off n d' os)
    {mu : Mu} {b : Nat} (hc : mu[b]? = some (.arr (ms.map c))) :
    Sound P f [.sl b 1 0 ms.length, .fn (.func g) [] []] mu fun e mu' => e = .ret (.tup []) ∧ ∃ ms' : List β, ms'.Perm ms ∧ ms'.Pairwise (fun x y => ¬ ord y x < 0) ∧ mu' = mu.set b (.arr (ms'.map c)) := by
  refine ⟨hcal, fun G w vs s ra => ?_⟩
  obtain ⟨u, fv, rfl, ru, rf⟩ := ra.two_inv
  cases ru with
  | sl _ _ _ _ blk tot cap hb ht hlc =>
  cases rf with
  | fn _ _ _ fvs cvs hfn hcn hfv hcv =>
  have e0 : fvs = #[] := by have : fvs.size = 0 := by simpa using hfn
                            exact Array.eq_empty_of_size_eq_zero this
  have e1 : cvs = #[] := by have : cvs.size = 0 := by simpa using hcn
                            exact Array.eq_empty_of_size_eq_zero this
  subst e0; subst e1
  obtain ⟨arr, el, h1, h2, h3, h4⟩ := s.arr b _ blk tot hc hb
  have hblk : blk < w.heap.size := (Array.getElem?_eq_some_iff.1 h1).1
  have hat : ∀ (i : Nat) (hi : i < ms.length), VRel G w.heap (c ms[i]) (arr.getD i undef) := by
    intro i hi
    have := h4 i (c ms[i]) (by simp [hi])
    exact this.2
  have hlive : Live G mu blk := ⟨b, _, tot, hc, by simp, hb⟩
  have hni : ¬ G.imm blk := s.live b _ blk tot hc (by simp) hb
  generalize henc : (fun i : Fin (m + 1) => arr.getD i.val undef) = enc
  have hence : ∀ i : Fin (m + 1), enc i = arr.getD i.val undef := fun i => by rw [← henc]
  have hil : ∀ i : Fin (m + 1), i.val < ms.length := fun i => by have := i.isLt; omega
  have henc1 : ∀ x, (enc x).oneCell' = true := by
    intro x
    rw [hence]
    exact (hat x.val (hil x)).one (hone _)
  generalize hcf : (fun x y : Fin (m + 1) => ord (ms[x.val]'(hil x)) (ms[y.val]'(hil y))) = cf
  have hcfe : ∀ x y : Fin (m + 1), cf x y = ord (ms[x.val]'(hil x)) (ms[y.val]'(hil y)) := fun x y => by rw [← hcf]
  have hmem : ∀ x : Fin (m + 1), ms[x.val]'(hil x) ∈ ms := fun x => List.getElem_mem _
  have hswo : Sort.SWO (Proofs.ltOf cf) := by
    refine ⟨fun x => ?_, fun x y z g1 g2 => ?_, fun x y z g1 g2 => ?_⟩
    · simp only [Proofs.ltOf, hcfe, decide_eq_false_iff_not]; exact hirr _ (hmem x)
    · simp only [Proofs.ltOf, hcfe, decide_eq_true_eq] at *; exact htr _ _ _ (hmem x) (hmem y) (hmem z) g1 g2
    · simp only [Proofs.ltOf, hcfe, decide_eq_false_iff_not] at *; exact hnt _ _ _ (hmem x) (hmem y) (hmem z) g1 g2
  have hcmpL : Proofs.CmpLays1 P g #[] enc cf blk 0 (m + 1) w := by
    intro m' os dk hdk x y
    generalize hW : Proofs.sortWorld enc w blk 0 m' dk os = W
    have hWh : W.heap = w.heap.modify blk (Sort.onCells (Sort.putCells enc 0 dk)) ++ os := by rw [← hW]; rfl
    have hWsz : w.heap.size ≤ W.heap.size := by rw [hWh]; simp
    have hWget : ∀ b', b' ≠ blk → b' < w.heap.size → W.heap[b']? = w.heap[b']? := by
      intro b' hne hlt
      rw [hWh, Array.getElem?_append_left (by simpa using hlt), Array.getElem?_modify, if_neg (fun e => hne e.symm)]
    have hle : Ext ⟨G.imm, []⟩ w.heap W.heap := ⟨hWsz, fun b' hb' => hWget b' (fun e => hni (e ▸ hb')) (s.imm b' hb')⟩
    have agg : ∀ z : Fin (m + 1), VRel ⟨G.imm, []⟩ W.heap (c (ms[z.val]'(hil z))) (enc z) := by
      intro z
      rw [hence]
      exact (hf _ G w.heap _ (hat z.val (hil z))).ext hle
    have rargs : ArgsRel ⟨G.imm, []⟩ W.heap [c (ms[x.val]'(hil x)), c (ms[y.val]'(hil y))] (#[enc x, enc y] ++ #[]) := by
      refine ⟨by simp, fun j q hq => ?_⟩
      match j, hq with
      | 0, hq => simp at hq; subst hq; exact agg x
      | 1, hq => simp at hq; subst hq; exact agg y
      | j + 2, hq => simp at hq
    refine ((hcmp _ _ (hmem x) (hmem y)).2 G.imm W _ (Sim.empty (fun b' hb' => Nat.lt_of_lt_of_le (s.imm b' hb') hWsz) (s.tab.mono (fun _ h => h) fun b' hb' => hle.keep b' hb')) rargs).mono ?_
    rintro e w' ⟨imm', v, rfl, _, _, hbel, hv⟩
    rw [hcfe]
    obtain ⟨q, os', hw'⟩ := grow_of1 hbel
    refine ⟨?_, q, os', hw'⟩
    cases hv
    rfl
  generalize hd : (List.finRange (m + 1)).toArray = d
  have hdsz : d.size = m + 1 := by rw [← hd]; simp
  have hdg : ∀ t (ht : t < m + 1), d[t]! = ⟨t, ht⟩ := fun t ht => by rw [← hd]; simp [ht]
  have hal : m + 1 ≤ arr.size := by simp at h3; omega
  have hH : Sort.Holds enc w blk 0 d := by
    intro t ht
    rw [hdsz] at ht
    refine ⟨?_, ?_⟩
    · rw [hdg _ ht, hence]
      simp only [World.cell?, h1, Option.isSome_none, Bool.false_eq_true, if_false, Nat.zero_add]
      rw [Array.getD_eq_getD_getElem?, Array.getElem?_eq_getElem (by omega)]
      rfl
    · simp only [World.frozen?, h1]
      simp
  have hrun := hsort enc henc1 cf hswo #[] blk 0 cap d w (by rw [hdsz]; exact hcmpL) hH hblk (by rw [hdsz]; exact hbig)
  rw [hdsz] at hrun
  rw [hm]
  refine hrun.mono ?_
  rintro e w' ⟨rfl, d', n, os, ⟨hp1, hp2, hp3⟩, hsrt, hw'⟩
  have hd'sz : d'.size = m + 1 := by rw [hp1, hdsz]
  rw [Array.extract_eq_self_of_le (by omega), Array.extract_eq_self_of_le (by omega)] at hp3
  generalize hms' : (d'.toList.map fun z : Fin (m + 1) => ms[z.val]'(hil z)) = ms'
  have hms'l : ms'.length = m + 1 := by rw [← hms']; simp [hd'sz]
  have hms'g : ∀ (i : Nat) (hi : i < m + 1), ms'[i]'(by omega) = ms[(d'[i]'(by omega)).val]'(hil _) := by
    intro i hi
    simp only [← hms', List.getElem_map, Array.getElem_toList]
  have hperm : ms'.Perm ms := by
    rw [← hms']
    have h1 := hp3.map fun z : Fin (m + 1) => ms[z.val]'(hil z)
    have h2 : (d.toList.map fun z : Fin (m + 1) => ms[z.val]'(hil z)) = ms := by
      rw [← hd]
      apply List.ext_getElem
      · simp [hm]
      · intro i hi hi'
        simp
    rw [h2] at h1
    exact h1
  have hpw : ms'.Pairwise (fun x y => ¬ ord y x < 0) := by
    rw [List.pairwise_iff_getElem]
    intro i j hi hj hij
    have := hsrt i j (Nat.zero_le _) hij (by omega)
    rw [getElem!_pos d' j (by omega), getElem!_pos d' i (by omega)] at this
    simp only [Proofs.ltOf, hcfe, decide_eq_false_iff_not] at this
    rw [hms'g i (by omega), hms'g j (by omega)]
    exact this
  -- the written row
  have hW0 : ∃ w1, w1 = Sort.putRow enc (Sort.ahead w n) blk 0 d' := ⟨_, rfl⟩
  obtain ⟨w1, hw1⟩ := hW0
  have hput : w1.heap[blk]? = some (.cells (Sort.putCells enc 0 d' arr) el (0, 0)) := by
    rw [hw1]
    show (w.heap.modify blk (Sort.onCells _))[blk]? = _
    rw [Array.getElem?_modify, if_pos rfl, h1]; rfl
  have hoth : ∀ j, j ≠ blk → w1.heap[j]? = w.heap[j]? := by
    intro j hj
    rw [hw1]
    show (w.heap.modify blk (Sort.onCells _))[j]? = _
    rw [Array.getElem?_modify, if_neg (fun e => hj e.symm)]
  have hsz1 : w1.heap.size = w.heap.size := by
    rw [hw1]
    show (w.heap.modify blk (Sort.onCells _)).size = _
    simp
  have st1 : Stp G mu w G (mu.set b (.arr (ms'.map c))) w1 := by
    refine Stp.write (hdr := by rw [hw1]; exact Nat.le_add_right _ _) s b (.arr (ms.map c)) _ blk tot _ hc (by simp) (by simp) hb hsz1 hput hoth (by rw [hw1]; rfl) (by rw [hw1]; rfl) (by rw [hw1]; rfl) ?_
    refine ⟨_, el, rfl, by simp [Sort.putCells, h2], by rw [List.length_map, hms'l]; simp at h3; omega, fun t y hy => ?_⟩
    have ht : t < m + 1 := by
      have := (List.getElem?_eq_some_iff.1 hy).1
      rw [List.length_map, hms'l] at this; exact this
    have hfa : c ms[(d'[t]'(by omega)).val] = y := by
      rw [List.getElem?_map, List.getElem?_eq_getElem (by omega), hms'g _ ht] at hy
      simpa using hy
    subst hfa
    have hpc : (Sort.putCells enc 0 d' arr).getD t undef = arr.getD (d'[t]'(by omega)).val undef := by
      have htl : t < arr.size := by omega
      rw [Array.getD_eq_getD_getElem?, Sort.putCells, Array.getElem?_mapIdx, Array.getElem?_eq_getElem htl]
      simp only [Option.map_some, Option.getD_some, Nat.zero_add, Nat.sub_zero, Nat.zero_le, true_and]
      rw [if_pos (by rw [hd'sz]; exact ht), getElem!_pos d' t (by omega), hence]
    rw [hpc]
    exact ⟨hone _, hat _ (hil _)⟩
  have st2 := st1.trans s (Stp.grow st1.sim os)
  have hw2 : w' = Sort.grow w1 os := by rw [hw', hw1]; rfl
  rw [← hw2] at st2
  exact ⟨G, _, st2, .inl ⟨_, _, ⟨rfl, ms', hperm, hpw, rfl⟩, rfl, .tup [] #[] rfl (by simp)⟩⟩
end Go.Proofs.YtcfopdccdeeleaaGreatDoor.YU


namespace Go.Proofs.YtcfopdccdeeleaaGreatDoor.YV
open Go Go.Ev Go.Proofs Go.Proofs.YtcfopdccdeeleaaGreatDoor YM YS YF P1 P2 Y1 Y2 Y3 Y4 Y5 Y6 Y7 Y8 Y9 Y10 Y11 Y12 Y13 Y14 Y15 Y16 YU
theorem isNaNI (x : Int) : SoundP Tryz.prog 146 [aI x] (aB false) := by
  refine SoundP.of_sound (Sound.of_awp Tryz.call146 Tryz.func146 rfl (Nat.le_of_ble_eq_true (by kernel_rfl)) (by kernel_rfl) (pl := {}) ?_)
  simp [go_sem]
  exact .hf _ (HF.sc _)
def cmpI (x y : Int) : Int := if x < y then -1 else if y < x then 1 else 0
theorem compareU (x y : Int) : SoundP Tryz.prog 91 [aI x, aI y] (aI (cmpI x y)) := by
  refine SoundP.of_sound (Sound.of_awp Tryz.call91 Tryz.func91 rfl (Nat.le_of_ble_eq_true (by kernel_rfl)) (by kernel_rfl) (pl := {}) ?_)
  simp [go_sem]
  refine CallStep.pure (isNaNI x) (.cons (.hf (HF.sc _)) .nil) ?_
  simp [go_sem]
  refine CallStep.pure (isNaNI y) (.cons (.hf (HF.sc _)) .nil) ?_
  simp [go_sem]
  unfold cmpI
  by_cases h1 : x < y
  · simp [go_sem, h1]
    exact .hf _ (HF.sc _)
  · by_cases h2 : y < x
    · simp [go_sem, h1, h2]
      exact .hf _ (HF.sc _)
    · simp [go_sem, h1, h2]
      exact .hf _ (HF.sc _)
def cmpL : List Int → List Int → Int
  | [], [] => 0
  | [], _ :: _ => -1
  | _ :: _, [] => 1
  | x :: a, y :: b => if cmpI x y = 0 then cmpL a b else cmpI x y
theorem cmpL_lt : ∀ a b : List Int, cmpL a b < 0 ↔ a < b
  | [], [] => by simp [cmpL]
  | [], _ :: _ => by simp [cmpL]
  | _ :: _, [] => by simp [cmpL]
  | x :: a, y :: b => by
    rw [List.cons_lt_cons_iff, ← cmpL_lt a b]
    simp only [cmpL, cmpI]
    by_cases h1 : x < y
    · simp [h1]
    · by_cases h2 : y < x
      · have : x ≠ y := by omega
        simp [h1, h2, this]
      · have : x = y := by omega
        simp [this]
theorem cmpL_self (a : List Int) : cmpL a a = 0 := by
  induction a with
  | nil => rfl
  | cons x a ih => simp [cmpL, cmpI, ih]
theorem compareLU (a b : List Int) (ha : a.length ≤ 1000) (hb : b.length ≤ 1000) : SoundP Tryz.prog 45 [lI a, lI b] (aI (cmpL a b)) := by
  refine SoundP.of_sound (Sound.of_awp Tryz.call45 Tryz.func45 rfl (Nat.le_of_ble_eq_true (by kernel_rfl)) (by kernel_rfl) (pl := {}) ?_)
  simp [go_sem]
  generalize hC : cmpL a b = C
  refine LoopGo.upK a.length (fun k st => st.tm 0 = lI a ∧ st.tm 1 = lI b ∧ st.tm 9 = lI a ∧ st.tm 10 = aI a.length ∧ st.tm 11 = aI k ∧ k ≤ b.length ∧ cmpL (a.drop k) (b.drop k) = C) ?_ ?_
  · exact ⟨by simp [go_sem], by simp [go_sem], by simp [go_sem], by simp [go_sem], by simp [go_sem], by omega, by simpa using hC⟩
  · rintro k st hk ⟨e0, e1, e9, e10, e11, hkb, hI⟩
    by_cases hkl : k = a.length
    · subst hkl
      rw [List.drop_length] at hI
      by_cases hlt : a.length < b.length
      · rw [List.drop_eq_getElem_cons hlt] at hI
        simp only [cmpL] at hI
        subst hI
        simp [go_sem, e0, e1, e9, e10, e11, hlt]
        exact .hf _ (HF.sc _)
      · rw [List.drop_of_length_le (by omega)] at hI
        simp only [cmpL] at hI
        subst hI
        simp [go_sem, e0, e1, e9, e10, e11, hlt]
        exact .hf _ (HF.sc _)
    · have hlt : k < a.length := by omega
      have w1 : IntKind.i64.wrap ((k : Int) + 1) = (k : Int) + 1 := wrap_i64 (by omega) (by omega)
      rw [List.drop_eq_getElem_cons hlt] at hI
      by_cases hb2 : b.length ≤ k
      · rw [List.drop_of_length_le hb2] at hI
        simp only [cmpL] at hI
        subst hI
        simp [go_sem, e0, e1, e9, e10, e11, hlt, hb2]
        exact .hf _ (HF.sc _)
      · have hlb : k < b.length := by omega
        rw [List.drop_eq_getElem_cons hlb] at hI
        simp only [cmpL] at hI
        simp [go_sem, e0, e1, e9, e10, e11, hlt, hb2, hlb]
        refine CallStep.pure (compareU a[k] b[k]) (.cons (.hf (HF.sc _)) (.cons (.hf (HF.sc _)) .nil)) ?_
        by_cases hz : cmpI a[k] b[k] = 0
        · rw [if_pos hz] at hI
          simp [go_sem, e0, e1, e9, e10, e11, hz, w1]
          refine ⟨hlt, Keep.mk' ?_⟩
          exact ⟨by simp [go_sem, e0], by simp [go_sem, e1], by simp [go_sem, e9], by simp [go_sem, e10], by simp [go_sem], by omega, hI⟩
        · rw [if_neg hz] at hI
          subst hI
          simp [go_sem, e0, e1, e9, e10, e11, hz, w1]
          exact .hf _ (HF.sc _)
def insL (x : List Int) : List (List Int) → List (List Int)
  | [] => [x]
  | y :: l => if y < x then y :: insL x l else x :: y :: l
def srt (l : List (List Int)) : List (List Int) := l.foldr insL []
theorem insL_perm (x : List Int) : ∀ l, (insL x l).Perm (x :: l)
  | [] => .refl _
  | y :: l => by
    simp only [insL]
    split
    · exact ((insL_perm x l).cons y).trans (.swap x y l)
    · exact .refl _
theorem srt_perm : ∀ l, (srt l).Perm l
  | [] => .refl _
  | x :: l => (insL_perm x (srt l)).trans ((srt_perm l).cons x)
theorem insL_sorted (x : List Int) : ∀ l : List (List Int), l.Pairwise (· ≤ ·) → (insL x l).Pairwise (· ≤ ·)
  | [], _ => by simp [insL]
  | y :: l, h => by
    rw [List.pairwise_cons] at h
    simp only [insL]
    split
    · rename_i hlt
      rw [List.pairwise_cons]
      refine ⟨fun z hz => ?_, insL_sorted x l h.2⟩
      rcases List.mem_cons.1 ((insL_perm x l).mem_iff.1 hz) with rfl | hz
      · exact List.le_of_lt hlt
      · exact h.1 z hz
    · rename_i hlt
      have hle : x ≤ y := List.not_lt.1 hlt
      rw [List.pairwise_cons, List.pairwise_cons]
      refine ⟨fun z hz => ?_, h⟩
      rcases List.mem_cons.1 hz with rfl | hz
      · exact hle
      · exact List.le_trans hle (h.1 z hz)
theorem srt_sorted : ∀ l, (srt l).Pairwise (· ≤ ·)
  | [] => .nil
  | x :: l => insL_sorted x (srt l) (srt_sorted l)
theorem sorted_eq {l l' : List (List Int)} (hp : l'.Perm l) (hs : l'.Pairwise fun x y => ¬ cmpL y x < 0) : l' = srt l := by
  refine List.Perm.eq_of_pairwise (le := (· ≤ ·)) (fun a b _ _ h1 h2 => List.le_antisymm h1 h2) (hs.imp fun h => ?_) (srt_sorted l) (hp.trans (srt_perm l).symm)
  rw [cmpL_lt] at h
  exact List.not_lt.1 h
end Go.Proofs.YtcfopdccdeeleaaGreatDoor.YV


namespace Go.Proofs.YtcfopdccdeeleaaGreatDoor.YW
open Go Go.Ev Go.Proofs Go.Proofs.YtcfopdccdeeleaaGreatDoor YM YS YF P1 P2 Y1 Y2 Y3 Y4 Y5 Y6 Y7 Y8 Y9 Y10 Y11 Y12 Y13 Y14 Y15 Y16 YU YV
theorem okKd.le64 {ns : Nat} {k : Kd} (h : okKd ns k) (hns : ns ≤ 4) : k.ts.length ≤ 64 := by
  have hsub : ∀ t, t ∈ k.ts → t ∈ ([0, 1, 2, 3] : List Int).flatMap fun a => ([0, 1, 2, 3] : List Int).flatMap fun b => ([0, 1, 2, 3] : List Int).map fun c => [a, b, c] := fun t ht => by
    obtain ⟨l, rfl, hl, hr⟩ := h.ts t ht
    have hl3 := h.ar.2
    have four' : ∀ x : Int, 0 ≤ x → x < ns → x ∈ ([0, 1, 2, 3] : List Int) := fun x h1 h2 => by simp; omega
    match l, hl, hr with
    | [], hl, hr => simp [pad]
    | [a], hl, hr =>
      have := four' a (hr a (by simp)).1 (hr a (by simp)).2
      simp only [List.mem_flatMap, List.mem_map]
      exact ⟨a, this, 0, by simp, 0, by simp, by simp [pad]⟩
    | [a, b], hl, hr =>
      have h1 := four' a (hr a (by simp)).1 (hr a (by simp)).2
      have h2 := four' b (hr b (by simp)).1 (hr b (by simp)).2
      simp only [List.mem_flatMap, List.mem_map]
      exact ⟨a, h1, b, h2, 0, by simp, by simp [pad]⟩
    | [a, b, c], hl, hr =>
      have h1 := four' a (hr a (by simp)).1 (hr a (by simp)).2
      have h2 := four' b (hr b (by simp)).1 (hr b (by simp)).2
      have h3 := four' c (hr c (by simp)).1 (hr c (by simp)).2
      simp only [List.mem_flatMap, List.mem_map]
      exact ⟨a, h1, b, h2, c, h3, by simp [pad]⟩
    | _ :: _ :: _ :: _ :: _, hl, hr => simp at hl; omega
  have := List.Nodup.length_le_of_subset h.nd hsub
  simpa using this
theorem okKd.sm {ns : Nat} {k : Kd} (h : okKd ns k) (hns : ns ≤ 4) {t : Tp} (ht : t ∈ k.ts) : ∀ x, x ∈ t → 0 ≤ x ∧ x < 128 := fun x hx => by
  obtain ⟨l, rfl, hl, hr⟩ := h.ts t ht
  have hl3 := h.ar.2
  match l, hl, hr with
  | [], hl, hr => simp [pad] at hx; omega
  | [a], hl, hr =>
    have := hr a (by simp)
    simp [pad] at hx; omega
  | [a, b], hl, hr =>
    have := hr a (by simp)
    have := hr b (by simp)
    simp [pad] at hx; omega
  | [a, b, c], hl, hr =>
    have := hr a (by simp)
    have := hr b (by simp)
    have := hr c (by simp)
    simp [pad] at hx; omega
  | _ :: _ :: _ :: _ :: _, hl, hr => simp at hl; omega
theorem kd_rel {n : Nd} (hw : WfN n) (h : ¬ 20 ≤ n.op) : kd n.op = 101 := by
  have hs := hw.shape
  refine kd_101 ?_
  unfold shp at hs
  repeat' split at hs
  all_goals first | omega | exact absurd hs (by simp)
theorem examL_err (c : Ck) (s : Scp) (inn : Bool) {ks : List Nd} (hk : ∀ k, k ∈ ks → ∀ e, exam c s inn k = .error e → e.1 ≠ 0) {e : Dg} (h : examL c s inn ks = .error e) : e.1 ≠ 0 := by
  induction ks with
  | nil => simp [examL] at h
  | cons k ks ih =>
    simp only [examL] at h
    split at h
    · rename_i e' hx
      cases h
      exact hk k (List.mem_cons_self ..) _ hx
    · split at h
      · rename_i e' hx
        cases h
        exact ih (fun k hm => hk k (List.mem_cons_of_mem _ hm)) hx
      · cases h
theorem examA_err (c : Ck) (s : Scp) (pos : Int) {ks : List Nd} (hk : ∀ k, k ∈ ks → ∀ e, exam c s true k = .error e → e.1 ≠ 0) : ∀ {ps : List (ByteArray × Int)} {e : Dg}, examA c s pos ps ks = .error e → e.1 ≠ 0 := by
  induction ks with
  | nil => intro ps e h; cases ps <;> simp [examA] at h
  | cons k ks ih =>
    intro ps e h
    cases ps with
    | nil => simp [examA] at h
    | cons p ps =>
      simp only [examA] at h
      split at h
      · rename_i e' hx
        cases h
        exact hk k (List.mem_cons_self ..) _ hx
      · cases h; simp
      · split at h
        · split at h
          · exact ih (fun k hm => hk k (List.mem_cons_of_mem _ hm)) h
          · cases h; simp
        · cases h; simp
theorem exam_err (c : Ck) : ∀ (m : Nat) (n : Nd) (s : Scp) (inn : Bool) (e : Dg), szN n ≤ m → exam c s inn n = .error e → e.1 ≠ 0
  | 0, n, _, _, _, hm, _ => by obtain ⟨op, nm, i, ks, p⟩ := n; simp [szN] at hm
  | m + 1, n, s, inn, e, hm, h => by
    have ih : ∀ k, k ∈ n.kids → ∀ s inn e, exam c s inn k = .error e → e.1 ≠ 0 := fun k hk s inn e hx => exam_err c m k s inn e (by have := kid_lt hk; omega) hx
    rw [exam_eq] at h
    split at h
    · cases h; simp
    split at h
    · unfold nameK at h
      split at h
      · cases h
      · split at h <;> first | (cases h; simp) | cases h
    split at h
    · split at h
      · split at h
        · cases h; simp
        · split at h
          · cases h; simp
          · split at h
            · exact examA_err c s n.pos (fun k hk e hx => ih k hk s true e hx) h
            · cases h; simp
      · cases h; simp
    split at h
    · revert h ih
      match n.kids with
      | [] => intro ih h; simp [examB] at h
      | k :: ks =>
        intro ih h
        simp only [examB] at h
        split at h
        · rename_i e' hx
          cases h
          exact ih k (List.mem_cons_self ..) _ _ _ hx
        · cases h; simp
        · split at h
          · split at h
            · rename_i e' hx
              cases h
              exact examL_err c _ _ (fun k hk e hx => ih k (List.mem_cons_of_mem _ hk) _ _ e hx) hx
            · cases h
          · cases h; simp
    · split at h
      · rename_i e' hx
        cases h
        exact examL_err c _ _ (fun k hk e hx => ih k hk _ _ e hx) hx
      · unfold applyK at h
        repeat' split at h
        all_goals first | (cases h; done) | (cases h; simp)
theorem type1U (ts : TS) (h : okTS ts) (hp : ∀ p, p ∈ ts.preds → WfN p.body) (n : Nd) (hw : WfN n) (env : List (ByteArray × Int)) (he : okEnv ts.sorts.length env) {mu : Mu} {b : Nat} (hb : mu[b]? = some (.arr (cKo none))) :
    Sound Tryz.prog 40 [.ip (cTS ts), .ip [lPm env], .ip (cNd n), .ptr b 0] mu fun e m => match exam (mkCk ts ts.preds.length) (bindL env) false n with
      | .ok ko => e = .ret (.tup []) ∧ m = mu.set b (.arr (cKo ko))
      | .error d => e = .pan (stopV d.1 d.2) ∧ m = mu := by
  refine Sound.of_awp Tryz.call40 Tryz.func40 rfl (Nat.le_of_ble_eq_true (by kernel_rfl)) (by kernel_rfl) (pl := {}) ?_
  have hck := okCk_mk h (Nat.le_refl ts.preds.length)
  have hx := examineU (mkCk ts ts.preds.length) hck (szN n) n (Nat.le_refl _) hw (bindL env) (scOk_bind he) false
  generalize hE : exam (mkCk ts ts.preds.length) (bindL env) false n = E at hx
  have hbl : b < mu.length := (List.getElem?_eq_some_iff.1 hb).1
  simp [go_sem]
  refine DrawGo.tail 8 (by kernel_rfl) ?_
  simp [go_sem]
  refine CallStep.pure (newCheckerU ts h (fun p hq => (hp p hq).small) _ (Nat.le_refl _)) (.cons (.hf (hf_eTS ts)) (.cons (.hf (HF.sc _)) .nil)) ?_
  simp [go_sem]
  refine CallStep.pure (bindU _ h.ns env he.len he.r) (.cons (.hf (hf_lPm env)) .nil) ?_
  simp [go_sem]
  have hwe : WKs [eCk (mkCk ts ts.preds.length), aSc (bindL env), eNd n, aB false] [eCk (mkCk ts ts.preds.length), aSc (bindL env), eNd n, aB false] := .cons (.hf (hf_eCk _)) (.cons (.hf (hf_aSc _)) (.cons (.hf (hf_eNd n)) (.cons (.hf (HF.sc _)) .nil)))
  cases E with
  | error d =>
    refine CallStep.pans hx hwe ?_
    simp [go_sem]
  | ok ko =>
    refine CallStep.pure hx.toP hwe ?_
    have hb' : mu[b]? = some (.arr [aI 0, .sc (.map none)]) := hb
    cases ko <;> simp [go_sem, hb', cKo]
def rowT (k : Kd) (t : Tp) : List Int := t.take k.ar.toNat
def typeL (k : Kd) : List (List Int) := srt (k.ts.map (rowT k))
def typeK (ts : TS) (env : List (ByteArray × Int)) (n : Nd) : List (List Int) × Int :=
  if 20 ≤ n.op then ([], 43) else
  match exam (mkCk ts ts.preds.length) (bindL env) false n with
  | .error d => ([], d.1)
  | .ok (some k) => (typeL k, 0)
  | .ok none => ([], 0)
theorem rd_typ (mu : Mu) (e : Int) : Rd mu (.tup [.lst true [], aI e]) (.tup [lL [], aI e]) := .tup _ _ rfl fun k x y hx hy => by
  match k, hx, hy with
  | 0, hx, hy => simp at hx hy; subst hx; subst hy; exact .wk _ true _ (.hf _ (HF.lst fun r hr => absurd hr List.not_mem_nil))
  | 1, hx, hy => simp at hx hy; subst hx; subst hy; exact .hf _ (HF.sc _)
  | k + 2, hx, hy => simp at hx
theorem appendGs {P : Program} {x' : AV} (give : Nat → Bool) {lo : Nat} {mu : Mu} {t t' e sz bt : Nat} {s x : AV} {xs ys : List (List AV)} {zv : AV} {K : AV → Mu → Prop} (hs : sliceOf P t = some (e, sz, bt)) (hs' : (sliceOf P t').isSome = true) (hz : zeroOf P e = some zv)
    (hz1 : zv.cells.length = sz) (hz2 : zv.cells.all AV.one = true) (hz0 : sz ≠ 0) (hb : bt ≤ 16384) (hrd : Rd (cutM give mu 0) x x') (ho : OwnF lo (cutM (fun i => !give i) mu 0) sz s xs) (hx : rowsOf (cutM (fun i => !give i) mu 0) x' = some ys) (wx : rowsWf sz xs) (wy : rowsWf sz ys) (hl : xs.length + ys.length ≤ 4294967296) (hne : ys ≠ [])
    (k : ∀ b mu', OwnF lo mu' sz (.sl b sz 0 (xs ++ ys).length) (xs ++ ys) → (∀ i, i < lo → mu'[i]? = (cutM (fun i => !give i) mu 0)[i]?) → K (.sl b sz 0 (xs ++ ys).length) mu') : AppendStep P mu #[t, t'] s x K := by
  refine .inr ⟨give, x', hrd, ?_⟩
  generalize cutM (fun i => !give i) mu 0 = mu at *
  obtain ⟨ho, hlo, hlm⟩ := ho
  refine ⟨t, t', e, sz, bt, ys, rfl, hs, hs', ⟨zv, hz, hz1, hz2⟩, hz0, hb, hx, wy, ?_⟩
  rcases ho with rfl | ⟨b, rfl, hc⟩
  · refine .inl ⟨xs, rfl, wx, hl, fun h => absurd h hne, fun h => ?_⟩
    rw [← List.length_append]
    refine k _ _ ⟨.inr ⟨mu.length, rfl, by simp⟩, fun b s o l e => ?_, by simp; omega⟩ (fun i hi => ?_)
    · injection e; omega
    · rw [List.getElem?_append_left (by omega)]
  · have hfl := flatten_len wx.ok
    have hbl := hlo _ _ _ _ rfl
    refine .inr ⟨b, xs.length, xs.flatten, rfl, hc, by omega, hl, ?_⟩
    have htk : xs.flatten.take (xs.length * sz) = xs.flatten := List.take_of_length_le (by omega)
    rw [← List.length_append]
    refine k _ _ ⟨.inr ⟨mu.length, rfl, ?_⟩, fun b s o l e => ?_, by simp; omega⟩ (fun i hi => ?_)
    · rw [htk, List.getElem?_append_right (by simp)]; simp
    · injection e; omega
    · rw [List.getElem?_append_left (by simp; omega)]
      rw [List.getElem?_set_ne (by omega)]
theorem rd_row1 {mu : Mu} {x y : AV} (h : Rd mu x y) : Rd mu (.lst true [[x]]) (.lst true [[y]]) := by
  refine .lst true _ _ rfl (fun k a b ha hb => ?_) (fun k a b ha hb => ?_)
  · cases k with
    | zero => simp at ha hb; subst ha; subst hb; rfl
    | succ k => simp at ha
  · cases k with
    | zero => simp at ha hb; subst ha; subst hb; exact h
    | succ k => simp at ha
theorem rows_seen (f : Nat → List Int) (l : List Nat) : rowsWf 1 (l.map fun i => rL (f i)) := fun r hr => by
  obtain ⟨i, _, rfl⟩ := List.mem_map.1 hr
  exact ⟨rfl, rfl⟩
theorem rd_typ2 {mu : Mu} {av x : AV} (h : Rd mu av x) (e : Int) : Rd mu (.tup [av, aI e]) (.tup [x, aI e]) := .tup _ _ rfl fun k x y hx hy => by
  match k, hx, hy with
  | 0, hx, hy => simp at hx hy; subst hx; subst hy; exact h
  | 1, hx, hy => simp at hx hy; subst hx; subst hy; exact .hf _ (HF.sc _)
  | k + 2, hx, hy => simp at hx
theorem seen_rows {α β : Type} {l : List α} {d : α} (f : α → β) {seen : List Nat} (hnd : seen.Nodup) (hlt : ∀ i, i ∈ seen → i < l.length) (hall : ∀ i, i < l.length → i ∈ seen) : (seen.map fun i => f (l.getD i d)).Perm (l.map f) := by
  have h1 : seen.Perm (List.range l.length) := by
    rw [List.perm_ext_iff_of_nodup hnd List.nodup_range]
    exact fun i => ⟨fun h => List.mem_range.2 (hlt i h), fun h => hall i (List.mem_range.1 h)⟩
  have h2 := h1.map fun i => f (l.getD i d)
  have h3 : ((List.range l.length).map fun i => f (l.getD i d)) = l.map f := by
    apply List.ext_getElem?
    intro i
    by_cases hi : i < l.length
    · simp [hi]
    · simp [hi]
  rwa [h3] at h2
theorem sort0U {mu : Mu} {av fa : AV} (h : ∀ G (hp : Array Obj) v, VRel G hp av v → ∃ p cap, v = .slice p 0 cap) : Sound Tryz.prog 44 [av, fa] mu fun e mu' => e = .ret (.tup []) ∧ mu' = mu := by
  refine ⟨Tryz.call44, fun G w vs s ra => ?_⟩
  obtain ⟨u, fv, rfl, ru, rf⟩ := ra.two_inv
  obtain ⟨p, cap, rfl⟩ := h _ _ _ ru
  refine (AnyF.slices_SortFunc_none (P := Tryz.prog) (ρ := Tryz.laysSF1_ren) { Tryz.laysSF1 with } p cap fv w).mono ?_
  rintro e w' ⟨rfl, rfl⟩
  exact ⟨G, mu, Stp.ahead s 0, .inl ⟨_, _, ⟨rfl, rfl⟩, rfl, .tup [] #[] rfl (by simp)⟩⟩
theorem sortLU {mu : Mu} {av : AV} {L : List (List Int)} (ho : Own mu 1 av (L.map rL)) (hn : ∀ zs, av = .lst true zs → zs = []) (hl : L.length ≤ 64) (hx : ∀ x, x ∈ L → x.length ≤ 3) :
    Sound Tryz.prog 44 [av, .fn (.func 45) [] []] mu fun e mu' => e = .ret (.tup []) ∧ ∃ L' : List (List Int), L'.Perm L ∧ L'.Pairwise (fun x y => ¬ cmpL y x < 0) ∧ Rd mu' av (lL L') := by
  have rdL : ∀ {mu : Mu} {b : Nat} {l : List (List Int)}, mu[b]? = some (.arr (l.map lI)) → Rd mu (.sl b 1 0 l.length) (lL l) := fun {mu b l} h => by
    have ho : Own mu 1 (.sl b 1 0 l.length) (l.map rL) := .inr ⟨b, by simp, by
      rw [h]
      congr 2
      clear h
      induction l with
      | nil => rfl
      | cons a l ih => simp [ih]⟩
    exact ho.rd (rows_rL _).ok fun r hr c hc => by
      obtain ⟨q, _, rfl⟩ := List.mem_map.1 hr
      rw [List.mem_singleton] at hc; subst hc
      exact hf_lI q
  by_cases hL0 : L = []
  · subst hL0
    refine Sound.monoR (sort0U (mu := mu) (av := av) ?_) ?_
    · intro G hp v r
      rcases ho with rfl | ⟨b, rfl, hc⟩
      · cases r with
        | nil => exact ⟨_, _, rfl⟩
        | emp _ a cap hc => exact ⟨_, _, rfl⟩
        | lst _ _ sz a cap cs e fr rd hb hs hl hc hi hz hr hv => exact ⟨_, _, rfl⟩
      · cases r with
        | sl _ _ _ _ blk tot cap hb ht hlc => exact ⟨_, _, rfl⟩
    · rintro e m ⟨rfl, rfl⟩
      refine ⟨rfl, [], .refl _, .nil, ?_⟩
      rcases ho with rfl | ⟨b, rfl, hc⟩
      · exact .wk _ true _ (.hf _ (HF.lst fun r hr => absurd hr List.not_mem_nil))
      · exact rdL (l := []) hc
  rcases ho with ho | ⟨b, rfl, hc⟩
  · have hz := hn _ ho
    exact absurd (by simpa using hz) hL0
  · have hfl : (L.map rL).flatten = L.map lI := by
      clear hc hn hl hx hL0
      induction L with
      | nil => rfl
      | cons a l ih => simp [ih]
    rw [hfl] at hc
    rw [List.length_map]
    obtain ⟨m, hm⟩ : ∃ m, L.length = m + 1 := ⟨L.length - 1, by
      have : L.length ≠ 0 := fun h => hL0 (List.eq_nil_of_length_eq_zero h)
      omega⟩
    refine Sound.monoR (sort1_sound (g := 45) Tryz.call44 lI (fun _ => rfl) cmpL hf_lI m L hm (by omega) (fun x y h1 h2 => compareLU x y (by have := hx x h1; omega) (by have := hx y h2; omega)) (fun x _ => by rw [cmpL_self]; omega) (fun x y z _ _ _ h1 h2 => ?_) (fun x y z _ _ _ h1 h2 => ?_) ?_ hc) ?_
    · rw [cmpL_lt] at *; exact List.lt_trans h1 h2
    · rw [cmpL_lt] at *; exact List.not_lt.2 (List.le_trans (List.not_lt.1 h2) (List.not_lt.1 h1))
    · intro enc h1 cf hO cb blk off cap d w h3 h4 h5 h6
      exact Any.slices_SortFunc Tryz.laysSF1 enc h1 cf hO 45 cb blk off cap d w Tryz.call45 h3 h4 h5 h6
    · rintro e m' ⟨rfl, L', hp, hs, rfl⟩
      refine ⟨rfl, L', hp, hs, ?_⟩
      rw [← hp.length_eq]
      exact rdL (List.getElem?_set_self (List.getElem?_eq_some_iff.1 hc).1)
theorem typeU (ts : TS) (h : okTS ts) (hp : ∀ p, p ∈ ts.preds → WfN p.body) (n : Nd) (hw : WfN n) (env : List (ByteArray × Int)) (he : okEnv ts.sorts.length env) : SoundP Tryz.prog 16 [eTS ts, lPm env, eNd n] (.tup [lL (typeK ts env n).1, aI (typeK ts env n).2]) := by
  refine SoundP.of_sound (Sound.of_awp Tryz.call16 Tryz.func16 rfl (Nat.le_of_ble_eq_true (by kernel_rfl)) (by kernel_rfl) (pl := {}) ?_)
  by_cases h20 : 20 ≤ n.op
  · simp [go_sem, h20, typeK]
    exact rd_typ [] 43
  · simp [go_sem, h20]
    have hcap : WKs [.ip (cTS ts), .ip [lPm env], .ip (cNd n)] [.ip (cTS ts), .ip [lPm env], .ip (cNd n)] := .cons (.hf (HF.ip (hf_cTS ts))) (.cons (.hf (HF.ip (by simp; exact hf_lPm env))) (.cons (.hf (HF.ip (hf_cNd n))) .nil))
    have h1 := type1U ts h hp n hw env he (mu := [.arr (cKo none)] ++ [.dead]) (b := 0) rfl
    have hok := exam_ok (okCk_mk h (Nat.le_refl ts.preds.length)) (szN n) n (bindL env) false
    refine CallStep.eff0 (caughtU (mu := [.arr (cKo none)]) h1 ?_) ?_ ?_
    · intro v m hv
      split at hv
      · exact absurd hv.1 (by simp)
      · cases hv.1; exact ⟨_, _, rfl⟩
    · rintro r m ⟨m', x, ⟨l, rfl⟩, ⟨r', hv, hr⟩ | ⟨er, p, hv, hr⟩⟩
      · cases hr
        split at hv
        · rename_i ko hE
          obtain ⟨_, rfl⟩ := hv
          have hkd : kd n.op = 101 := kd_rel hw h20
          obtain ⟨k, rfl, hk⟩ := hok ko (Nat.le_refl _) hw (scOk_bind he) hE hkd
          have htk : typeK ts env n = (typeL k, 0) := by
            unfold typeK
            rw [if_neg h20, hE]
          rw [htk]
          simp [go_sem]
          refine LoopGo.seen k.ts.length (fun seen st => st.tm 8 = .ptr 0 0 ∧ st.tm 27 = .ptr (l.length + 3) 0 ∧ st.mu[0]? = some (.arr (cKd k)) ∧ st.mu[l.length + 3]? = some (.it (eT k.ts) seen) ∧
            OwnF (l.length + 4) st.mu 1 (st.tm 10) (seen.map fun i => rL (rowT k (k.ts.getD i []))) ∧ ∀ zs, st.tm 10 = .lst true zs → zs = []) ?_ ?_
          · refine ⟨by simp [go_sem], by simp [go_sem], by simp [go_sem], by simp [go_sem], ?_, fun zs e => ?_⟩
            · simp [go_sem]
              exact OwnF.nil (by simp)
            · simp [go_sem] at e
              exact e
          · rintro seen st hnd hlt ⟨e8, e27, m0, mi, ho, hnl⟩
            have hil : l.length + 3 < st.mu.length := (List.getElem?_eq_some_iff.1 mi).1
            have hsl : seen.length ≤ k.ts.length := seen_len _ _ hnd hlt
            have hkl := okKd.le64 hk h.ns
            simp [go_sem, e8, e27]
            refine ⟨l.length + 3, eT k.ts, seen, rfl, mi, fun i e hi hns => ?_, fun hdone => ?_⟩
            · obtain ⟨t, ht, rfl⟩ := eT_get hi
              have hto := hk.okK.len t (List.mem_of_getElem? ht)
              have hit : i < k.ts.length := (List.getElem?_eq_some_iff.1 ht).1
              have m0' : ∀ (c : Cell) (lc : List Cell), ((st.mu.set (l.length + 3) c) ++ lc)[0]? = some (.arr (cKd k)) := fun c lc => by
                rw [List.getElem?_append_left (by simp; omega), List.getElem?_set_ne (by omega)]; exact m0
              obtain ⟨x0, x1, x2, rfl⟩ : ∃ x0 x1 x2, t = [x0, x1, x2] := by
                match t, hto with
                | [x0, x1, x2], _ => exact ⟨_, _, _, rfl⟩
              have hq : ∀ (c c2 : Cell), ((st.mu.set (l.length + 3) c) ++ [c2])[st.mu.length]? = some c2 := fun c c2 => by
                rw [List.getElem?_append_right (by simp)]; simp
              simp [go_sem, -getElem?_pos, hq, List.getElem?_cons_zero, List.getElem?_cons_succ, e8, e27, hi, hil, hns, mi, m0']
              have har := hk.ar
              obtain ⟨a, ha⟩ : ∃ a : Nat, k.ar = a := ⟨k.ar.toNat, by omega⟩
              have ha3 : a ≤ 3 := by omega
              rw [ha, if_pos (by omega)]
              simp [go_sem]
              generalize hM : st.mu.set (l.length + 3) (Cell.it (eT k.ts) (seen ++ [i])) ++ [Cell.arr [AV.sc (Value.int IntKind.i8 x0), AV.sc (Value.int IntKind.i8 x1), AV.sc (Value.int IntKind.i8 x2)]] = M at *
              have hMl : M.length = st.mu.length + 1 := by rw [← hM]; simp
              have hMq : M[st.mu.length]? = some (.arr [AV.sc (Value.int IntKind.i8 x0), AV.sc (Value.int IntKind.i8 x1), AV.sc (Value.int IntKind.i8 x2)]) := by rw [← hM]; exact hq _ _
              refine LoopGo.upK a (fun j s => s.tm 8 = .ptr 0 0 ∧ s.tm 27 = .ptr (l.length + 3) 0 ∧ s.tm 10 = st.tm 10 ∧ s.tm 34 = .sl st.mu.length 0 0 a ∧ s.tm 35 = aI a ∧ s.tm 36 = aI j ∧ (∀ i, i < M.length → s.mu[i]? = M[i]?) ∧ OwnF M.length s.mu 1 (s.tm 12) (([x0, x1, x2].take j).map rI)) ?_ ?_
              · refine ⟨by simp [go_sem, e8], by simp [go_sem, e27], by simp [go_sem], by simp [go_sem], by simp [go_sem], by simp [go_sem], by simp [go_sem], ?_⟩
                simp [go_sem]
                exact OwnF.nil (Nat.le_refl _)
              · rintro j s hj ⟨f8, f27, f10, f34, f35, f36, fm, fo⟩
                have fq : s.mu[st.mu.length]? = some (.arr [AV.sc (Value.int IntKind.i8 x0), AV.sc (Value.int IntKind.i8 x1), AV.sc (Value.int IntKind.i8 x2)]) := by rw [fm _ (by omega)]; exact hMq
                by_cases hja : j = a
                · subst hja
                  have g1 := fo.cells
                  have g2 := fo.one
                  simp [go_sem, f8, f27, f10, f34, f35, f36, g1, g2]
                  have hrow : (([x0, x1, x2] : List Int).take j) = rowT k (k.ts.getD i []) := by
                    rw [List.getD_eq_getElem?_getD, ht]
                    simp [rowT, ha]
                  rw [hrow] at fo
                  have hgive : ∀ i, i < M.length → (cutM (fun i => !decide (M.length ≤ i)) s.mu 0)[i]? = M[i]? := fun i hi => by
                    rw [cutM_get, ← fm i hi]
                    simp only [Nat.zero_add, show ¬ M.length ≤ i by omega, decide_false, Bool.not_false, if_true]
                    cases s.mu[i]? <;> rfl
                  have hoM : OwnF (l.length + 4) (cutM (fun i => !decide (M.length ≤ i)) s.mu 0) 1 (st.tm 10) (seen.map fun i => rL (rowT k (k.ts.getD i []))) := by
                    obtain ⟨o1, o2, o3⟩ := ho
                    refine ⟨?_, o2, by rw [cutM_len]; have := fo.2.2; omega⟩
                    rcases o1 with o1 | ⟨b, o1, hc⟩
                    · exact .inl o1
                    · have hb1 := o2 _ _ _ _ o1
                      have hb2 := (List.getElem?_eq_some_iff.1 hc).1
                      refine .inr ⟨b, o1, ?_⟩
                      rw [hgive b (by omega), ← hM, List.getElem?_append_left (by simpa using hb2), List.getElem?_set_ne (by omega)]
                      exact hc
                  have hrd : Rd (cutM (fun i => decide (M.length ≤ i)) s.mu 0) (s.tm 12) (lI (rowT k (k.ts.getD i []))) := ownF_rdCut fo (rows_rI _).ok fun r hr c hc => by
                    obtain ⟨q, _, rfl⟩ := List.mem_map.1 hr
                    rw [List.mem_singleton] at hc; subst hc
                    exact HF.sc _
                  refine appendGs (x' := .lst true [[lI (rowT k (k.ts.getD i []))]]) (fun i => decide (M.length ≤ i)) (lo := l.length + 4) (e := 52) (sz := 1) (bt := 24) (zv := .lst true []) (xs := seen.map fun i => rL (rowT k (k.ts.getD i []))) (ys := [rL (rowT k (k.ts.getD i []))]) (by simp [go_sem]) (by simp [go_sem]) (by simp [go_sem]) rfl rfl (by omega) (by omega) (rd_row1 hrd) hoM (by simp [rowsOf]) (rows_seen _ _) (rows_seen (fun i => rowT k (k.ts.getD i [])) [i]) (by simp; omega) (by simp) ?_
                  intro av mu' ho' hm'
                  simp [go_sem, f8, f27, f10, f34, f35, f36]
                  refine ⟨i, hit, hns, Keep.mk' ?_⟩
                  refine ⟨by simp [go_sem, f8], by simp [go_sem, f27], ?_, ?_, ?_, fun zs e => by simp [go_sem] at e⟩
                  · simp only [put_mu]
                    rw [hm' 0 (by omega), hgive 0 (by omega), ← hM]
                    exact m0' _ _
                  · simp only [put_mu]
                    rw [hm' _ (by omega), hgive _ (by omega), ← hM, List.getElem?_append_left (by simpa using hil), List.getElem?_set_self hil]
                  · rw [List.map_append]
                    simpa [go_sem] using ho'
                · have hlt : j < a := by omega
                  have w1 : IntKind.i64.wrap ((j : Int) + 1) = (j : Int) + 1 := wrap_i64 (by omega) (by omega)
                  have hj3 : j = 0 ∨ j = 1 ∨ j = 2 := by omega
                  have z1 : IntKind.i64.wrap 1 = 1 := rfl
                  have z2 : IntKind.i64.wrap 2 = 2 := rfl
                  have z3 : IntKind.i64.wrap 3 = 3 := rfl
                  have hx8 : ∀ x, x ∈ [x0, x1, x2] → 0 ≤ x ∧ x < 128 := okKd.sm hk h.ns (List.mem_of_getElem? ht)
                  have v0 := hx8 x0 (by simp)
                  have v1 := hx8 x1 (by simp)
                  have v2 := hx8 x2 (by simp)
                  have u0 : IntKind.i64.wrap x0 = x0 := wrap_i64 (by omega) (by omega)
                  have u1 : IntKind.i64.wrap x1 = x1 := wrap_i64 (by omega) (by omega)
                  have u2 : IntKind.i64.wrap x2 = x2 := wrap_i64 (by omega) (by omega)
                  rcases hj3 with rfl | rfl | rfl
                  · have c : (0 : Int) < a := by omega
                    simp [go_sem, f8, f27, f10, f34, f35, f36, hlt, fq, w1, u0, u1, u2, c]
                    refine AppendStep.ints (lo := M.length) (e := 3) (bt := 8) (z := 0) (xs := []) (ys := [x0]) (by simp [go_sem]) (by simp [go_sem]) (by simp [go_sem]) (by omega) (by simpa using fo) (by simp [rowsOf]) (by simp) ?_
                    intro av mu' ho' hm'
                    simp [go_sem, f8, f27, f10, f34, f35, f36, z1, z2, z3]
                    refine ⟨hlt, Keep.mk' ?_⟩
                    exact ⟨by simp [go_sem, f8], by simp [go_sem, f27], by simp [go_sem, f10], by simp [go_sem, f34], by simp [go_sem, f35], by simp [go_sem], fun i hi => by simp only [put_mu]; rw [hm' i hi]; exact fm i hi, by simpa [go_sem] using ho'⟩
                  · have c : (1 : Int) < a := by omega
                    simp [go_sem, f8, f27, f10, f34, f35, f36, hlt, fq, w1, u0, u1, u2, c]
                    refine AppendStep.ints (lo := M.length) (e := 3) (bt := 8) (z := 0) (xs := [x0]) (ys := [x1]) (by simp [go_sem]) (by simp [go_sem]) (by simp [go_sem]) (by omega) (by simpa using fo) (by simp [rowsOf]) (by simp) ?_
                    intro av mu' ho' hm'
                    simp [go_sem, f8, f27, f10, f34, f35, f36, z1, z2, z3]
                    refine ⟨hlt, Keep.mk' ?_⟩
                    exact ⟨by simp [go_sem, f8], by simp [go_sem, f27], by simp [go_sem, f10], by simp [go_sem, f34], by simp [go_sem, f35], by simp [go_sem], fun i hi => by simp only [put_mu]; rw [hm' i hi]; exact fm i hi, by simpa [go_sem] using ho'⟩
                  · have c : (2 : Int) < a := by omega
                    simp [go_sem, f8, f27, f10, f34, f35, f36, hlt, fq, w1, u0, u1, u2, c]
                    refine AppendStep.ints (lo := M.length) (e := 3) (bt := 8) (z := 0) (xs := [x0, x1]) (ys := [x2]) (by simp [go_sem]) (by simp [go_sem]) (by simp [go_sem]) (by omega) (by simpa using fo) (by simp [rowsOf]) (by simp) ?_
                    intro av mu' ho' hm'
                    simp [go_sem, f8, f27, f10, f34, f35, f36, z1, z2, z3]
                    refine ⟨hlt, Keep.mk' ?_⟩
                    exact ⟨by simp [go_sem, f8], by simp [go_sem, f27], by simp [go_sem, f10], by simp [go_sem, f34], by simp [go_sem, f35], by simp [go_sem], fun i hi => by simp only [put_mu]; rw [hm' i hi]; exact fm i hi, by simpa [go_sem] using ho'⟩
            · simp [go_sem, e8, e27]
              have hperm : (seen.map fun i => rowT k (k.ts.getD i [])).Perm (k.ts.map (rowT k)) := seen_rows (rowT k) hnd hlt fun i hi => hdone i (by simpa using hi)
              have hlen : ∀ x, x ∈ (seen.map fun i => rowT k (k.ts.getD i [])) → x.length ≤ 3 := fun x hx => by
                obtain ⟨i, _, rfl⟩ := List.mem_map.1 hx
                have := hk.ar
                simp only [rowT, List.length_take]
                omega
              generalize hL : (seen.map fun i => rowT k (k.ts.getD i [])) = L at *
              have hoL : OwnF (l.length + 4) st.mu 1 (st.tm 10) (L.map rL) := by
                rw [← hL, List.map_map]; exact ho
              have hLl : L.length ≤ 64 := by rw [← hL, List.length_map]; omega
              refine CallStep.eff0 (sortLU hoL.1 hnl hLl hlen) ?_ ?_
              · rintro r m ⟨e, L', hp', hs', hr'⟩
                cases e
                have htl : L' = typeL k := sorted_eq (hp'.trans hperm) hs'
                rw [htl] at hr'
                simp [go_sem]
                exact rd_typ2 hr' 0
              · rintro r m ⟨e, _⟩; cases e
        · exact absurd hv.1 (by simp)
      · cases hr
        split at hv
        · exact absurd hv.1 (by simp)
        · rename_i d hE
          obtain ⟨hv, rfl⟩ := hv
          cases hv
          have hne : d.1 ≠ 0 := exam_err _ (szN n) n _ _ _ (Nat.le_refl _) hE
          have htk : typeK ts env n = ([], d.1) := by
            unfold typeK
            rw [if_neg h20, hE]
          rw [htk]
          simp [go_sem, hne]
          refine DrawGo.intro (by kernel_rfl) ?_
          simp [go_sem]
          exact rd_typ _ _
    · rintro r m ⟨m', x, ⟨l, rfl⟩, ⟨r', hv, hr⟩ | ⟨er, p, hv, hr⟩⟩ <;> cases hr
end Go.Proofs.YtcfopdccdeeleaaGreatDoor.YW


namespace Go.Proofs.YtcfopdccdeeleaaGreatDoor.YX
open Go Go.Ev Go.Proofs Go.Proofs.YtcfopdccdeeleaaGreatDoor YM YS YF P1 P2 Y1 Y2 Y3 Y4 Y5 Y6 Y7 Y8 Y9 Y10 Y11 Y12 Y13 Y14 Y15 Y16 YU YV YW
structure IV where
  arg : Option Nd
  size : Int
  name : ByteArray
abbrev IEnv := List (ByteArray × IV)
def aArg : Option Nd → AV
  | some n => .ip (cNd n)
  | none => .sc (.pointer none)
abbrev cIV (v : IV) : List AV := [aArg v.arg, aI v.size, aS v.name]
abbrev eIV (v : IV) : AV := .agg (cIV v)
abbrev eEnv (env : IEnv) : AV := .ims (encK aS eIV env)
structure ISt where
  last : Int
  cost : Int
abbrev cIn (ts : TS) (tb : Nat) (s : ISt) : List AV := cTS ts ++ [.mp tb, aI s.last, aI s.cost]
theorem hf_aArg (a : Option Nd) : HF (aArg a) := by
  cases a with
  | none => exact HF.sc _
  | some n => exact HF.ip (hf_cNd n)
theorem hf_eIV (v : IV) : HF (eIV v) := HF.agg fun c hc => by
  simp only [cIV, List.mem_cons, List.not_mem_nil, or_false] at hc
  rcases hc with rfl | rfl | rfl
  · exact hf_aArg _
  · exact HF.sc _
  · exact HF.sc _
theorem bindsU (op : Int) : SoundP Tryz.prog 116 [aI op] (aB (decide (op = 15 ∨ op = 45 ∨ op = 46))) := by
  refine SoundP.of_sound (Sound.of_awp Tryz.call116 Tryz.func116 rfl (Nat.le_of_ble_eq_true (by kernel_rfl)) (by kernel_rfl) (pl := {}) ?_)
  by_cases h1 : op = 15
  · simp [go_sem, h1]; exact .hf _ (HF.sc _)
  by_cases h2 : op = 45
  · simp [go_sem, h1, h2]; exact .hf _ (HF.sc _)
  by_cases h3 : op = 46
  · simp [go_sem, h1, h2, h3]; exact .hf _ (HF.sc _)
  simp [go_sem, h1, h2, h3]; exact .hf _ (HF.sc _)
def nd0 : Nd := .mk 0 ⟨#[]⟩ 0 [] 0
abbrev eN0 : AV := .agg [aI 0, aS ⟨#[]⟩, aI 0, .lst true [], aI 0]
theorem wk_nd0 : WK eN0 (eNd nd0) := WK.aggs (.cons (.hf (HF.sc _)) (.cons (.hf (HF.sc _)) (.cons (.hf (HF.sc _)) (.cons (WK.lst fun r hr => absurd hr List.not_mem_nil) (.cons (.hf (HF.sc _)) .nil)))))
def payS (n : Int) (s : ISt) : ISt := ⟨s.last, s.cost + n⟩
theorem payU (ts : TS) (tb : Nat) (s : ISt) (n : Int) (hs : -1000000 ≤ s.cost ∧ s.cost ≤ 1000000) (hn : 0 ≤ n ∧ n ≤ 1000000) {mu : Mu} {xb : Nat} (hx : mu[xb]? = some (.arr (cIn ts tb s))) :
    Sound Tryz.prog 112 [.ptr xb 0, aI n] mu fun e m => m = mu.set xb (.arr (cIn ts tb (payS n s))) ∧ e = if s.cost + n ≤ 4000 then .ret (.tup []) else .pan (stopV 2 0) := by
  refine Sound.of_awp Tryz.call112 Tryz.func112 rfl (Nat.le_of_ble_eq_true (by kernel_rfl)) (by kernel_rfl) (pl := {}) ?_
  have w1 : IntKind.i64.wrap (s.cost + n) = s.cost + n := wrap_i64 (by omega) (by omega)
  have hxl : xb < mu.length := (List.getElem?_eq_some_iff.1 hx).1
  have hx1 : ∀ c, (mu.set xb c)[xb]? = some c := fun c => List.getElem?_set_self hxl
  simp [go_sem, hx, hx1, w1]
  by_cases hc : s.cost + n ≤ 4000
  · simp [go_sem, hc]
    refine CallStep.pure (needU true 2 nd0).toP (.cons (.hf (HF.sc _)) (.cons (.hf (HF.sc _)) (.cons wk_nd0 .nil))) ?_
    simp [go_sem]
    rfl
  · simp [go_sem, hc]
    refine CallStep.pans (needU false 2 nd0) (.cons (.hf (HF.sc _)) (.cons (.hf (HF.sc _)) (.cons wk_nd0 .nil))) ?_
    simp [go_sem]
    exact ⟨rfl, rfl⟩
theorem lookE {mu : Mu} (env : IEnv) (nm : ByteArray) : lookupA Tryz.prog mu 129 (eEnv env) (aS nm) true = some (match getK nm env with | some v => .tup [eIV v, aB true] | none => .tup [eIV ⟨none, 0, ⟨#[]⟩⟩, aB false]) := by
  have := keyS.lookS (et := 181) (t := 129) (by simp [go_sem]) (mu := mu) (venc := eIV) (es := env) (k := nm) trivial (fun _ _ => trivial) (z := eIV ⟨none, 0, ⟨#[]⟩⟩) (by simp [go_sem, aArg]) true
  rw [this]
  cases getK nm env <;> rfl
def replI (env : IEnv) (n : Nd) (s : ISt) : Except Dg ((Nd × Int) × ISt) :=
  match getK n.name env with
  | none => .ok ((n, 1), s)
  | some v => match v.arg with
    | none => .ok ((.mk n.op v.name n.n n.kids n.pos, 1), s)
    | some a => if s.cost + v.size ≤ 4000 then .ok ((a, v.size), payS v.size s) else .error (2, 0)
def endI (ts : TS) (tb : Nat) (mu : Mu) (xb : Nat) (r : Except Dg ((Nd × Int) × ISt)) (e : AEnd) (m : Mu) : Prop :=
  match r with
  | .ok ((n, k), s) => e = .ret (.tup [eNd n, aI k]) ∧ m[xb]? = some (.arr (cIn ts tb s)) ∧ (∀ i, i < mu.length → i ≠ xb → m[i]? = mu[i]?) ∧ mu.length ≤ m.length
  | .error d => e = .pan (stopV d.1 d.2) ∧ (∀ i, i < mu.length → i ≠ xb → m[i]? = mu[i]?) ∧ mu.length ≤ m.length
theorem replaceU (ts : TS) (tb : Nat) (s : ISt) (hs : -1000000 ≤ s.cost ∧ s.cost ≤ 500000) (env : IEnv) (hk : (env.map Prod.fst).Nodup) (hz : ∀ e, e ∈ env → 0 ≤ e.2.size ∧ e.2.size ≤ 500000) (n : Nd) {mu : Mu} {xb : Nat} (hx : mu[xb]? = some (.arr (cIn ts tb s))) :
    Sound Tryz.prog 113 [.ptr xb 0, eEnv env, eNd n] mu (endI ts tb mu xb (replI env n s)) := by
  refine Sound.of_awp Tryz.call113 Tryz.func113 rfl (Nat.le_of_ble_eq_true (by kernel_rfl)) (by kernel_rfl) (pl := { mt := [5] }) ?_
  have hl := fun mu => lookE (mu := mu) env n.name
  have hxl : xb < mu.length := (List.getElem?_eq_some_iff.1 hx).1
  obtain ⟨B, hB⟩ : ∃ B, B = eEnv env := ⟨_, rfl⟩
  rw [← hB]
  simp only [← hB] at hl
  unfold replI
  cases hv : getK n.name env with
  | none =>
    simp only [hv] at hl
    simp [go_sem]
    refine OptK.intro _ (hl _) ?_
    simp [go_sem, aArg]
    exact ⟨rfl, by rw [List.getElem?_append_left hxl]; exact hx, fun i hi _ => List.getElem?_append_left hi, by simp⟩
  | some v =>
    simp only [hv] at hl
    have hvz := hz (n.name, v) ((getK_mem hk).1 hv)
    obtain ⟨va, vz, vn⟩ := v
    cases va with
    | none =>
      simp [go_sem]
      refine OptK.intro _ (hl _) ?_
      have hset : (cNd n).set 1 (AV.sc (Value.string vn)) = cNd (.mk n.op vn n.n n.kids n.pos) := by
        obtain ⟨op, nm, nn, ks, pos⟩ := n
        simp [cNd_eq, Nd.op, Nd.name, Nd.n, Nd.kids, Nd.pos]
      simp [go_sem, aArg, hset]
      exact ⟨rfl, by rw [List.getElem?_append_left hxl]; exact hx, fun i hi _ => List.getElem?_append_left hi, by simp⟩
    | some a =>
      simp [go_sem]
      refine OptK.intro _ (hl _) ?_
      simp [go_sem, aArg]
      have hvz' : 0 ≤ vz ∧ vz ≤ 500000 := hvz
      refine CallStep.eff0 (payU ts tb s vz ⟨by omega, by omega⟩ ⟨by omega, by omega⟩ (by rw [List.getElem?_append_left hxl]; exact hx)) ?_ ?_
      · rintro r m ⟨rfl, e⟩
        by_cases hc : s.cost + vz ≤ 4000
        · rw [if_pos hc] at e
          cases e
          rw [List.set_append_left _ _ hxl]
          simp [go_sem, hc]
          refine DrawGo.move 5 1 (by kernel_rfl) (by kernel_rfl) ?_ ?_
          all_goals
            simp [go_sem]
            refine ⟨rfl, ?_, fun i hi hne => ?_, by simp⟩
            · rw [List.getElem?_append_left (by simpa using hxl), List.getElem?_set_self hxl]; rfl
            · rw [List.getElem?_append_left (by simpa using hi), List.getElem?_set_ne (fun e => hne e.symm)]
        · rw [if_neg hc] at e; cases e
      · rintro r m ⟨rfl, e⟩
        by_cases hc : s.cost + vz ≤ 4000
        · rw [if_pos hc] at e; cases e
        · rw [if_neg hc] at e
          cases e
          simp [go_sem, hc]
          refine ⟨rfl, fun i hi hne => ?_, by simp⟩
          rw [List.getElem?_set_ne (fun e => hne e.symm), List.getElem?_append_left hi]
end Go.Proofs.YtcfopdccdeeleaaGreatDoor.YX


namespace Go.Proofs.YtcfopdccdeeleaaGreatDoor.Q1
open Go Go.Ev Go.Proofs Go.Proofs.YtcfopdccdeeleaaGreatDoor YM YS YF P1 P2 Y1 Y2 Y3 Y4 Y5 Y6 Y9
abbrev aU (x : Int) : AV := .sc (.int .u8 x)
theorem kindU (op : Int) : SoundP Tryz.prog 124 [aI op] (aU (kd op)) := by
  refine SoundP.of_sound (Sound.of_awp Tryz.call124 Tryz.func124 rfl (Nat.le_of_ble_eq_true (by kernel_rfl)) (by kernel_rfl) (pl := {}) ?_)
  simp [go_sem]
  unfold kd
  by_cases h1 : 1 ≤ op <;> by_cases h2 : op ≤ 15 <;> by_cases h3 : 20 ≤ op <;> by_cases h4 : op ≤ 23 <;> by_cases h5 : 30 ≤ op <;> by_cases h6 : op ≤ 51 <;> first | omega | (simp [go_sem, h1, h2, h3, h4, h5, h6]; exact .hf _ (HF.sc _))
def kwL : List ByteArray := [⟨#[115, 111, 114, 116]⟩, ⟨#[111, 114, 100, 101, 114, 101, 100]⟩, ⟨#[118, 97, 114]⟩, ⟨#[102, 105, 101, 108, 100]⟩, ⟨#[112, 114, 101, 100]⟩, ⟨#[102, 97, 99, 116]⟩, ⟨#[97, 108, 108]⟩, ⟨#[115, 111, 109, 101]⟩, ⟨#[110, 111]⟩, ⟨#[111, 110, 101]⟩, ⟨#[108, 111, 110, 101]⟩, ⟨#[97, 108, 119, 97, 121, 115]⟩, ⟨#[101, 118, 101, 110, 116, 117, 97, 108, 108, 121]⟩, ⟨#[97, 102, 116, 101, 114]⟩, ⟨#[117, 110, 116, 105, 108]⟩, ⟨#[110, 111, 110, 101]⟩, ⟨#[117, 110, 105, 118]⟩, ⟨#[105, 100, 101, 110]⟩, ⟨#[105, 110]⟩, ⟨#[110, 111, 116]⟩, ⟨#[116, 114, 117, 101]⟩, ⟨#[102, 97, 108, 115, 101]⟩]
def kwB (s : ByteArray) : Bool := kwL.any fun x => decide (x = s)
theorem keywordU (s : ByteArray) : SoundP Tryz.prog 77 [aS s] (aB (kwB s)) := by
  refine SoundP.of_sound (Sound.of_awp Tryz.call77 Tryz.func77 rfl (Nat.le_of_ble_eq_true (by kernel_rfl)) (by kernel_rfl) (pl := {}) ?_)
  simp [go_sem]
  have hlen : kwL.length = 22 := rfl
  refine LoopGo.upK 22 (fun k st => st.tm 0 = aS s ∧ st.tm 3 = .lst true (kwL.map fun s => [aS s]) ∧ st.tm 4 = aI k ∧ st.mu = [] ∧ ∀ j x, j < k → kwL[j]? = some x → x ≠ s) ?_ ?_
  · refine ⟨by simp [go_sem], ?_, by simp [go_sem], by simp [go_sem], fun j x hj => absurd hj (by omega)⟩
    simp [go_sem, kwL]
  · rintro k st hk ⟨e0, e3, e4, hm, hI⟩
    unfold kwB
    generalize hK : kwL = K at *
    by_cases hkl : k = 22
    · subst hkl
      have hno : (K.any fun x => decide (x = s)) = false := by
        rw [List.any_eq_false]
        intro x hx
        obtain ⟨j, hj⟩ := List.mem_iff_getElem?.1 hx
        simpa using hI j x (by have := (List.getElem?_eq_some_iff.1 hj).1; omega) hj
      rw [hno]
      simp [go_sem, e0, e3, e4, hm, hlen]
      exact .hf _ (HF.sc _)
    · have hlt : k < K.length := by omega
      have hlt2 : k < 22 := by omega
      have hlt3 : (k : Int) < 22 := by omega
      have w1 : IntKind.i64.wrap ((k : Int) + 1) = (k : Int) + 1 := wrap_i64 (by omega) (by omega)
      by_cases hx : K[k] = s
      · have hin : (K.any fun x => decide (x = s)) = true := List.any_eq_true.2 ⟨K[k], List.getElem_mem hlt, by simpa using hx⟩
        rw [hin]
        simp [go_sem, e0, e3, e4, hm, hlen, hlt, hlt2, hlt3, hx]
        exact .hf _ (HF.sc _)
      · simp [go_sem, e0, e3, e4, hm, hlen, hlt, hlt2, hlt3, hx, str_ne hx, w1]
        try refine ⟨hlt2, Keep.mk' ?_⟩
        try refine Keep.mk' ?_
        refine ⟨by simp [go_sem, e0], by simp [go_sem, e3], by simp [go_sem], by simp [go_sem], fun j x hj hjx => ?_⟩
        by_cases hjk : j = k
        · subst hjk
          rw [List.getElem?_eq_getElem hlt] at hjx
          cases hjx; exact hx
        · exact hI j x (by omega) hjx
def bys (l : List Int) : ByteArray := ⟨(l.map fun x => UInt8.ofNat x.toNat).toArray⟩
theorem bys_snoc (l : List Int) (x : Int) : bys (l ++ [x]) = bys l ++ ⟨#[UInt8.ofNat x.toNat]⟩ := by
  apply ByteArray.ext
  simp [bys]
theorem bys_size (l : List Int) : (bys l).size = l.length := by simp [bys, ByteArray.size]
def shpV (op : Int) (nk : Nat) : AV := match shp op nk with
  | some l => .tup [aS (bys l), aB true]
  | none => .tup [aS ⟨#[]⟩, aB false]
theorem rd_shp (mu : Mu) (a : ByteArray) (b : Bool) : Rd mu (.tup [aS a, aB b]) (.tup [aS a, aB b]) := .hf _ (HF.tup fun c hc => by simp at hc; rcases hc with rfl | rfl <;> exact HF.sc _)
theorem shape47U (nk : Nat) (hnk : nk ≤ 100000) : SoundP Tryz.prog 123 [aI 47, aI nk] (shpV 47 nk) := by
  refine SoundP.of_sound (Sound.of_awp Tryz.call123 Tryz.func123 rfl (Nat.le_of_ble_eq_true (by kernel_rfl)) (by kernel_rfl) (pl := {}) ?_)
  simp [go_sem]
  refine LoopGo.upK (min nk 401) (fun k st => st.tm 1 = aI nk ∧ st.tm 6 = aS (bys (List.replicate k 101)) ∧ st.tm 7 = aI k) ?_ ?_
  · exact ⟨by simp [go_sem], by simp [go_sem, bys], by simp [go_sem]⟩
  · rintro k st hk ⟨e1, e6, e7⟩
    by_cases hkl : k = min nk 401
    · have hv : shpV 47 nk = .tup [aS (bys (List.replicate k 101)), aB true] := by
        rw [hkl]; rfl
      rw [hv]
      by_cases h1 : nk ≤ k
      · have h1' : ¬ k < nk := by omega
        simp [go_sem, e1, e6, e7, h1']
        exact rd_shp _ _ _
      · have h2 : k = 401 := by omega
        subst h2
        have h3 : 401 < nk := by omega
        have h4 : (401 : Int) < nk := by omega
        simp [go_sem, e1, e6, e7, h3, h4]
        exact rd_shp _ _ _
    · have hlt : k < nk := by omega
      have hlt2 : k < 401 := by omega
      have hlt3 : (k : Int) < 401 := by omega
      have w1 : IntKind.i64.wrap ((k : Int) + 1) = (k : Int) + 1 := wrap_i64 (by omega) (by omega)
      have hsz : (bys (List.replicate k 101)).size + 1 ≤ 9223372036854775807 := by rw [bys_size, List.length_replicate]; omega
      have hs2 : bys (List.replicate k 101) ++ ⟨#[101]⟩ = bys (List.replicate (k + 1) 101) := by
        rw [List.replicate_succ', bys_snoc]; rfl
      generalize bys (List.replicate k 101) = B at *
      simp [go_sem, e1, e6, e7, hlt, hlt2, hlt3, hsz, w1]
      refine ⟨by omega, Keep.mk' ?_⟩
      exact ⟨by simp [go_sem, e1], by simp [go_sem, hs2], by simp [go_sem]⟩
theorem shapeU (op : Int) (nk : Nat) (hnk : nk ≤ 100000) : SoundP Tryz.prog 123 [aI op, aI nk] (shpV op nk) := by
  by_cases h47 : op = 47
  · subst h47; exact shape47U nk hnk
  by_cases hr : 1 ≤ op ∧ op ≤ 51
  · have hd : op = 1 ∨ op = 2 ∨ op = 3 ∨ op = 4 ∨ op = 5 ∨ op = 6 ∨ op = 7 ∨ op = 8 ∨ op = 9 ∨ op = 10 ∨ op = 11 ∨ op = 12 ∨ op = 13 ∨ op = 14 ∨ op = 15 ∨ op = 16 ∨ op = 17 ∨ op = 18 ∨ op = 19 ∨ op = 20 ∨ op = 21 ∨ op = 22 ∨ op = 23 ∨ op = 24 ∨ op = 25 ∨ op = 26 ∨ op = 27 ∨ op = 28 ∨ op = 29 ∨ op = 30 ∨ op = 31 ∨ op = 32 ∨ op = 33 ∨ op = 34 ∨ op = 35 ∨ op = 36 ∨ op = 37 ∨ op = 38 ∨ op = 39 ∨ op = 40 ∨ op = 41 ∨ op = 42 ∨ op = 43 ∨ op = 44 ∨ op = 45 ∨ op = 46 ∨ op = 48 ∨ op = 49 ∨ op = 50 ∨ op = 51 := by omega
    rcases hd with rfl | rfl | rfl | rfl | rfl | rfl | rfl | rfl | rfl | rfl | rfl | rfl | rfl | rfl | rfl | rfl | rfl | rfl | rfl | rfl | rfl | rfl | rfl | rfl | rfl | rfl | rfl | rfl | rfl | rfl | rfl | rfl | rfl | rfl | rfl | rfl | rfl | rfl | rfl | rfl | rfl | rfl | rfl | rfl | rfl | rfl | rfl | rfl | rfl | rfl
    all_goals
      refine SoundP.of_sound (Sound.of_awp Tryz.call123 Tryz.func123 rfl (Nat.le_of_ble_eq_true (by kernel_rfl)) (by kernel_rfl) (pl := {}) ?_)
      simp [go_sem, shpV, shp]
      exact rd_shp _ _ _
  · have hno : ∀ c : Int, 1 ≤ c → c ≤ 51 → (op = c) = False := fun c h1 h2 => eq_false (by omega)
    have hn : shp op nk = none := by
      unfold shp
      repeat rw [if_neg (by omega)]
    rw [shpV, hn]
    refine SoundP.of_sound (Sound.of_awp Tryz.call123 Tryz.func123 rfl (Nat.le_of_ble_eq_true (by kernel_rfl)) (by kernel_rfl) (pl := {}) ?_)
    simp [go_sem, hno]
    exact rd_shp _ _ _
end Go.Proofs.YtcfopdccdeeleaaGreatDoor.Q1


namespace Go.Proofs.YtcfopdccdeeleaaGreatDoor.Q2
open Go Go.Ev Go.Proofs Go.Proofs.YtcfopdccdeeleaaGreatDoor YM YS YF P1 P2 Y1 Y2 Y3 Y4 Y5 Y6 Y9 Q1
def fitB (op : Int) (ks : List Nd) : Bool := decide (shp op ks.length = some (ks.map fun k => kd k.op))
theorem bys_get (l : List Int) (hb : ∀ x, x ∈ l → 0 ≤ x ∧ x < 256) (i : Nat) (h : i < l.length) (h' : i < (bys l).data.size) : (((bys l).data[i]).toNat : Int) = l[i] := by
  have h1 := hb l[i] (List.getElem_mem h)
  simp only [bys, List.getElem_toArray, List.getElem_map, UInt8.toNat_ofNat']
  omega
theorem shp_mem {op : Int} {nk : Nat} {l : List Int} (h : shp op nk = some l) : ∀ x, x ∈ l → 0 ≤ x ∧ x < 256 := by
  unfold shp at h
  repeat' split at h
  all_goals first
    | (cases h; done)
    | (cases h; intro x hx; cases hx; done)
    | (cases h; intro x hx; rw [List.mem_replicate] at hx; omega)
    | (cases h; intro x hx; simp at hx; omega)
theorem fitsU (op : Int) (ks : List Nd) (hk : ks.length ≤ 1000) : SoundP Tryz.prog 80 [aI op, lNd ks] (aB (fitB op ks)) := by
  have hs := shapeU op ks.length (by omega)
  unfold shpV at hs
  cases hv : shp op ks.length with
  | none =>
    simp only [hv] at hs
    have hf : fitB op ks = false := by simp [fitB, hv]
    rw [hf]
    refine SoundP.of_sound (Sound.of_awp Tryz.call80 Tryz.func80 rfl (Nat.le_of_ble_eq_true (by kernel_rfl)) (by kernel_rfl) (pl := {}) ?_)
    simp [go_sem]
    refine CallStep.pure hs (.cons (.hf (HF.sc _)) (.cons (.hf (HF.sc _)) .nil)) ?_
    simp [go_sem]
    exact .hf _ (HF.sc _)
  | some l =>
    simp only [hv] at hs
    have hbs := bys_size l
    have hget := bys_get l (shp_mem hv)
    generalize bys l = B at *
    refine SoundP.of_sound (Sound.of_awp Tryz.call80 Tryz.func80 rfl (Nat.le_of_ble_eq_true (by kernel_rfl)) (by kernel_rfl) (pl := {}) ?_)
    simp [go_sem]
    refine CallStep.pure hs (.cons (.hf (HF.sc _)) (.cons (.hf (HF.sc _)) .nil)) ?_
    by_cases hl : l.length = ks.length
    · simp [go_sem, hbs, hl]
      refine LoopGo.upK ks.length (fun k st => st.tm 1 = lNd ks ∧ st.tm 5 = aS B ∧ st.tm 7 = aI k ∧ ∀ j, j < k → (ks[j]?).map (fun k => kd k.op) = l[j]?) ?_ ?_
      · exact ⟨by simp [go_sem], by simp [go_sem], by simp [go_sem], fun j hj => absurd hj (by omega)⟩
      · rintro k st hk ⟨e1, e5, e7, hI⟩
        by_cases hkl : k = ks.length
        · subst hkl
          have hf : fitB op ks = true := by
            rw [fitB, hv, decide_eq_true]
            congr 1
            apply List.ext_getElem?
            intro j
            by_cases hj : j < ks.length
            · rw [List.getElem?_map, hI j hj]
            · rw [List.getElem?_eq_none (by omega), List.getElem?_eq_none (by simp; omega)]
          rw [hf]
          simp [go_sem, e1, e5, e7]
          exact .hf _ (HF.sc _)
        · have hlt : k < ks.length := by omega
          have w1 : IntKind.i64.wrap ((k : Int) + 1) = (k : Int) + 1 := wrap_i64 (by omega) (by omega)
          simp [go_sem, e1, e5, e7, hlt]
          refine DrawGo.intro (by kernel_rfl) ?_
          simp [go_sem, e1, e5, e7, hlt, cNd_ones]
          refine CallStep.pure (kindU ks[k].op) (.cons (.hf (HF.sc _)) .nil) ?_
          have hlk : k < l.length := by omega
          have hBk : k < B.data.size := by have : B.data.size = l.length := hbs; omega
          have hg := hget k hlk hBk
          by_cases hq : kd ks[k].op = l[k]
          · have hq2 : kd ks[k].op = ((B.data[k]).toNat : Int) := by rw [hg]; exact hq
            simp [go_sem, e1, e5, e7, hlt, hbs, hl, hq2, w1]
            refine Keep.mk' ?_
            refine ⟨by simp [go_sem, e1], by simp [go_sem, e5], by simp [go_sem], fun j hj => ?_⟩
            by_cases hjk : j = k
            · subst hjk
              rw [List.getElem?_eq_getElem hlt, List.getElem?_eq_getElem hlk, Option.map_some, hq]
            · exact hI j (by omega)
          · have hq2 : ¬ kd ks[k].op = ((B.data[k]).toNat : Int) := by rw [hg]; exact hq
            have hf : fitB op ks = false := by
              rw [fitB, hv, decide_eq_false]
              intro e
              injection e with e
              apply hq
              have : l[k]? = some (kd ks[k].op) := by rw [e, List.getElem?_map, List.getElem?_eq_getElem hlt, Option.map_some]
              rw [List.getElem?_eq_getElem hlk] at this
              simpa using this.symm
            rw [hf]
            simp [go_sem, e1, e5, e7, hlt, hbs, hl, hq2]
            exact .hf _ (HF.sc _)
    · have hf : fitB op ks = false := by
        rw [fitB, hv, decide_eq_false]
        intro e
        injection e with e
        rw [e] at hl
        simp at hl
      rw [hf]
      simp [go_sem, hbs, hl]
      exact .hf _ (HF.sc _)
end Go.Proofs.YtcfopdccdeeleaaGreatDoor.Q2


namespace Go.Proofs.YtcfopdccdeeleaaGreatDoor.Q3
open Go Go.Ev Go.Proofs Go.Proofs.YtcfopdccdeeleaaGreatDoor YM YS YF P1 P2 Y1 Y2 Y3 Y4 Y5 Y6 Y9 Q1 Q2
def letC (c : Int) : Bool := (decide (97 ≤ c) && decide (c ≤ 122)) || (decide (65 ≤ c) && decide (c ≤ 90))
def chB (i : Nat) (c : Int) : Bool := letC c || (!decide (i = 0) && (decide (c = 95) || (decide (48 ≤ c) && decide (c ≤ 57))))
def nameB (s : ByteArray) : Bool := decide (1 ≤ s.size) && decide (s.size ≤ 16) && !kwB s && (List.range s.size).all fun i => match s.data[i]? with | some c => chB i c.toNat | none => true
theorem name2U (s : ByteArray) : SoundP Tryz.prog 28 [aS s] (aB (nameB s)) := by
  refine SoundP.of_sound (Sound.of_awp Tryz.call28 Tryz.func28 rfl (Nat.le_of_ble_eq_true (by kernel_rfl)) (by kernel_rfl) (pl := {}) ?_)
  by_cases h0 : s.size = 0
  · have hn : nameB s = false := by simp [nameB, h0]
    rw [hn]
    simp [go_sem, h0]
    exact .hf _ (HF.sc _)
  by_cases h16 : 16 < s.size
  · have hn : nameB s = false := by
      have : ¬ s.size ≤ 16 := by omega
      simp [nameB, this]
    rw [hn]
    have h16i : (16 : Int) < s.size := by omega
    simp [go_sem, h0, h16i]
    exact .hf _ (HF.sc _)
  have h16i : ¬ (16 : Int) < s.size := by omega
  simp [go_sem, h0, h16i]
  refine CallStep.pure (keywordU s) (.cons (.hf (HF.sc _)) .nil) ?_
  cases hk : kwB s with
  | true =>
    have hn : nameB s = false := by simp [nameB, hk]
    rw [hn]
    simp [go_sem, h0, h16]
    exact .hf _ (HF.sc _)
  | false =>
    simp [go_sem, h0, h16]
    refine LoopGo.upK s.size (fun k st => st.tm 0 = aS s ∧ st.tm 3 = aI k ∧ ∀ j c, j < k → s.data[j]? = some c → chB j c.toNat = true) ?_ ?_
    · exact ⟨by simp [go_sem], by simp [go_sem], fun j c hj => absurd hj (by omega)⟩
    · rintro k st hk2 ⟨e0, e2, hI⟩
      by_cases hkl : k = s.size
      · have hn : nameB s = true := by
          simp only [nameB, hk, Bool.not_false, Bool.and_true, Bool.and_eq_true, decide_eq_true_eq, List.all_eq_true, List.mem_range]
          refine ⟨⟨by omega, by omega⟩, fun i hi => ?_⟩
          cases hc : s.data[i]? with
          | none => rfl
          | some c => exact hI i c (by omega) hc
        rw [hn]
        simp [go_sem, e0, e2, hkl]
        exact .hf _ (HF.sc _)
      · have hlt : k < s.size := by omega
        have hlt2 : k < s.data.size := hlt
        have w1 : IntKind.i64.wrap ((k : Int) + 1) = (k : Int) + 1 := wrap_i64 (by omega) (by omega)
        have z1 : IntKind.i64.wrap 1 = 1 := rfl
        have hc0 : s.data[k]? = some s.data[k] := Array.getElem?_eq_getElem hlt2
        simp [go_sem, e0, e2, hlt, hlt2]
        generalize hc : ((s.data[k]).toNat : Int) = c at *
        cases hch : chB k c with
        | false =>
          have hn : nameB s = false := by
            rw [nameB, Bool.and_eq_false_iff]
            refine .inr (List.all_eq_false.2 ⟨k, List.mem_range.2 hlt, ?_⟩)
            simp only [hc0, hc, hch]
            simp
          rw [hn]
          by_cases a1 : 97 ≤ c <;> by_cases a2 : c ≤ 122 <;> by_cases a3 : 65 ≤ c <;> by_cases a4 : c ≤ 90 <;> by_cases a5 : c = 95 <;> by_cases a6 : c < 48 <;> by_cases a7 : 57 < c <;> by_cases a8 : k = 0 <;> first | omega | (exfalso; simp [chB, letC, a1, a2, a3, a4, a5, a6, a7, a8] at hch; done) | (exfalso; simp [chB, letC, a1, a2, a3, a4, a5, a6, a7, a8] at hch; omega) | skip
          all_goals
            simp [go_sem, e0, e2, a1, a2, a3, a4, a5, a6, a7, a8]
            exact .hf _ (HF.sc _)
        | true =>
          have hnext : ∀ j d, j < k + 1 → s.data[j]? = some d → chB j d.toNat = true := fun j d hj hd => by
            by_cases hjk : j = k
            · subst hjk
              rw [hc0] at hd; cases hd
              rw [hc]; exact hch
            · exact hI j d (by omega) hd
          by_cases a1 : 97 ≤ c <;> by_cases a2 : c ≤ 122 <;> by_cases a3 : 65 ≤ c <;> by_cases a4 : c ≤ 90 <;> by_cases a5 : c = 95 <;> by_cases a6 : c < 48 <;> by_cases a7 : 57 < c <;> by_cases a8 : k = 0 <;> first | omega | (exfalso; simp [chB, letC, a1, a2, a3, a4, a5, a6, a7, a8] at hch; done) | (exfalso; simp [chB, letC, a1, a2, a3, a4, a5, a6, a7, a8] at hch; omega) | skip
          all_goals
            simp [go_sem, e0, e2, a1, a2, a3, a4, a5, a6, a7, a8, w1, z1]
            first
              | exact ⟨hlt, Keep.mk' ⟨by simp [go_sem, e0], by simp [go_sem], hnext⟩⟩
              | (subst a8; exact ⟨hlt, Keep.mk' ⟨by simp [go_sem, e0], by simp [go_sem], fun j d hj hd => hnext j d (by omega) hd⟩⟩)
end Go.Proofs.YtcfopdccdeeleaaGreatDoor.Q3


namespace Go.Proofs.YtcfopdccdeeleaaGreatDoor.Q4
open Go Go.Ev Go.Proofs Go.Proofs.YtcfopdccdeeleaaGreatDoor YM YS YF P1 P2 Y1 Y2 Y3 Y4 Y5 Y6 Y9 Q1 Q2 Q3
def namedB (op : Int) : Bool := decide (op = 1) || decide (op = 15) || decide (op = 45) || decide (op = 46) || decide (op = 47)
def numB (op n : Int) : Bool := if op = 2 then decide (1 ≤ n) && decide (n ≤ 3) else if op = 20 then decide (-64 ≤ n) && decide (n ≤ 64) else decide (n = 0)
def ownB (n : Nd) : Bool := if namedB n.op = nameB n.name ∧ (namedB n.op = true ∨ n.name = ⟨#[]⟩) then numB n.op n.n else false
theorem ownU (n : Nd) : SoundP Tryz.prog 79 [eNd n] (aB (ownB n)) := by
  refine SoundP.of_sound (Sound.of_awp Tryz.call79 Tryz.func79 rfl (Nat.le_of_ble_eq_true (by kernel_rfl)) (by kernel_rfl) (pl := {}) ?_)
  have hnm := name2U n.name
  generalize hN : nameB n.name = N at *
  by_cases hd : n.op = 1 ∨ n.op = 15 ∨ n.op = 45 ∨ n.op = 46 ∨ n.op = 47
  · have hnd : namedB n.op = true := by rcases hd with h | h | h | h | h <;> simp [namedB, h]
    have h2 : ¬ n.op = 2 := by omega
    have h20 : ¬ n.op = 20 := by omega
    rcases hd with h | h | h | h | h
    all_goals
      simp [go_sem, h]
      refine CallStep.pure hnm (.cons (.hf (HF.sc _)) .nil) ?_
      cases N with
      | true =>
        have ho : ownB n = decide (n.n = 0) := by simp [ownB, hnd, hN, numB, h2, h20]
        rw [ho]
        simp [go_sem, h]
        exact .hf _ (HF.sc _)
      | false =>
        have ho : ownB n = false := by simp [ownB, hnd, hN]
        rw [ho]
        simp [go_sem, h]
        exact .hf _ (HF.sc _)
  · simp only [not_or] at hd
    obtain ⟨d1, d2, d3, d4, d5⟩ := hd
    have hnd : namedB n.op = false := by simp [namedB, d1, d2, d3, d4, d5]
    simp [go_sem, d1, d2, d3, d4, d5]
    refine CallStep.pure hnm (.cons (.hf (HF.sc _)) .nil) ?_
    cases N with
    | true =>
      have ho : ownB n = false := by simp [ownB, hnd, hN]
      rw [ho]
      simp [go_sem, d1, d2, d3, d4, d5]
      exact .hf _ (HF.sc _)
    | false =>
      by_cases he : n.name = ⟨#[]⟩
      · have ho : ownB n = numB n.op n.n := by
          unfold ownB
          rw [if_pos ⟨by rw [hnd, hN], .inr he⟩]
        rw [ho]
        unfold numB
        by_cases h2 : n.op = 2
        · by_cases b1 : 1 ≤ n.n <;> by_cases b2 : n.n ≤ 3 <;> (simp [go_sem, h2, he, b1, b2]; exact .hf _ (HF.sc _))
        · by_cases h20 : n.op = 20
          · by_cases b1 : -64 ≤ n.n <;> by_cases b2 : n.n ≤ 64 <;> (simp [go_sem, h2, h20, he, b1, b2]; exact .hf _ (HF.sc _))
          · simp [go_sem, d1, d2, d3, d4, d5, h2, h20, he]
            exact .hf _ (HF.sc _)
      · have ho : ownB n = false := by simp [ownB, hnd, he]
        rw [ho]
        have hie : n.name.toList.isEmpty = false := by simpa using str_ne he
        simp [go_sem, d1, d2, d3, d4, d5, he, hie]
        exact .hf _ (HF.sc _)
mutual
def cntN : Nd → Int → Int
  | .mk _ _ _ ks _, left => cntNs ks left 1
def cntNs : List Nd → Int → Int → Int
  | [], _, sum => sum
  | k :: ks, left, sum => if sum ≤ left then cntNs ks left (sum + cntN k (left - sum)) else sum
end
theorem cntN_eq (n : Nd) (left : Int) : cntN n left = cntNs n.kids left 1 := by
  obtain ⟨op, nm, i, ks, p⟩ := n
  simp [cntN, Nd.kids]
mutual
theorem cntN_le : ∀ (n : Nd) (left : Int), 1 ≤ cntN n left ∧ (cntN n left ≤ left + 1 ∨ cntN n left = 1)
  | .mk _ _ _ ks _, left => by
    simp only [cntN]
    have := cntNs_le ks left 1
    omega
theorem cntNs_le : ∀ (ks : List Nd) (left sum : Int), sum ≤ cntNs ks left sum ∧ (cntNs ks left sum ≤ left + 1 ∨ cntNs ks left sum = sum)
  | [], left, sum => by simp [cntNs]
  | k :: ks, left, sum => by
    simp only [cntNs]
    split
    · have h1 := cntN_le k (left - sum)
      have h2 := cntNs_le ks left (sum + cntN k (left - sum))
      omega
    · omega
end
theorem countU : ∀ (m : Nat) (n : Nd), szN n ≤ m → ∀ left : Int, -1000000 ≤ left ∧ left ≤ 1000000 → SoundP Tryz.prog 35 [eNd n, aI left] (aI (cntN n left))
  | 0, n, hm, _, _ => by obtain ⟨op, nm, i, ks, p⟩ := n; simp [szN] at hm
  | m + 1, n, hm, left, hl => by
    have ih : ∀ k, k ∈ n.kids → ∀ left : Int, -1000000 ≤ left ∧ left ≤ 1000000 → SoundP Tryz.prog 35 [eNd k, aI left] (aI (cntN k left)) := fun k hk =>
      countU m k (by have := kid_lt hk; omega)
    rw [cntN_eq]
    generalize hR : cntNs n.kids left 1 = R
    refine SoundP.of_sound (Sound.of_awp Tryz.call35 Tryz.func35 rfl (Nat.le_of_ble_eq_true (by kernel_rfl)) (by kernel_rfl) (pl := {}) ?_)
    simp [go_sem]
    refine LoopGo.upK n.kids.length (fun k st => ∃ sum : Int, st.tm 1 = aI left ∧ st.tm 2 = .ip (cNd n) ∧ st.tm 5 = aI sum ∧ st.tm 6 = aI k ∧ (k : Int) + 1 ≤ sum ∧ (sum ≤ left + 1 ∨ sum = 1) ∧ cntNs (n.kids.drop k) left sum = R) ?_ ?_
    · exact ⟨1, by simp [go_sem], by simp [go_sem], by simp [go_sem], by simp [go_sem], by omega, by omega, by simpa using hR⟩
    · rintro k st hk ⟨sum, e1, e2, e5, e6, hs1, hs2, hI⟩
      by_cases hkl : k = n.kids.length
      · subst hkl
        rw [List.drop_length] at hI
        simp only [cntNs] at hI
        subst hI
        simp [go_sem, e1, e2, e5, e6]
        exact .hf _ (HF.sc _)
      · have hlt : k < n.kids.length := by omega
        rw [List.drop_eq_getElem_cons hlt] at hI
        simp only [cntNs] at hI
        by_cases hc : sum ≤ left
        · rw [if_pos hc] at hI
          have w1 : IntKind.i64.wrap ((k : Int) + 1) = (k : Int) + 1 := wrap_i64 (by omega) (by omega)
          have w2 : IntKind.i64.wrap (left - sum) = left - sum := wrap_i64 (by omega) (by omega)
          have hcl := cntN_le n.kids[k] (left - sum)
          have w3 : IntKind.i64.wrap (sum + cntN n.kids[k] (left - sum)) = sum + cntN n.kids[k] (left - sum) := wrap_i64 (by omega) (by omega)
          simp [go_sem, e1, e2, e5, e6, hlt, hc, w2, cNd_ones]
          refine CallStep.pure (ih n.kids[k] (List.getElem_mem hlt) (left - sum) ⟨by omega, by omega⟩) (.cons (.hf (hf_eNd _)) (.cons (.hf (HF.sc _)) .nil)) ?_
          simp [go_sem, e1, e2, e5, e6, w1, w3]
          refine ⟨hlt, Keep.mk' ?_⟩
          exact ⟨sum + cntN n.kids[k] (left - sum), by simp [go_sem, e1], by simp [go_sem, e2], by simp [go_sem], by simp [go_sem], by omega, by omega, hI⟩
        · rw [if_neg hc] at hI
          subst hI
          simp [go_sem, e1, e2, e5, e6, hlt, hc]
          exact .hf _ (HF.sc _)
mutual
def forN : Nd → Int → Bool
  | .mk op nm i ks p, lv => if lv < 1 then false else ownB (.mk op nm i ks p) && (fitB op ks && forNs ks (lv - 1))
def forNs : List Nd → Int → Bool
  | [], _ => true
  | k :: ks, lv => forN k lv && forNs ks lv
end
theorem forN_eq (n : Nd) (lv : Int) : forN n lv = if lv < 1 then false else ownB n && (fitB n.op n.kids && forNs n.kids (lv - 1)) := by
  obtain ⟨op, nm, i, ks, p⟩ := n
  simp [forN, Nd.kids, Nd.op]
theorem formedU : ∀ (m : Nat) (n : Nd), szN n ≤ m → Small n → ∀ lv : Int, -1000000 ≤ lv ∧ lv ≤ 1000000 → SoundP Tryz.prog 36 [eNd n, aI lv] (aB (forN n lv))
  | 0, n, hm, _, _, _ => by obtain ⟨op, nm, i, ks, p⟩ := n; simp [szN] at hm
  | m + 1, n, hm, hs, lv, hl => by
    have ih : ∀ k, k ∈ n.kids → ∀ lv : Int, -1000000 ≤ lv ∧ lv ≤ 1000000 → SoundP Tryz.prog 36 [eNd k, aI lv] (aB (forN k lv)) := fun k hk =>
      formedU m k (by have := kid_lt hk; omega) (hs.kid hk)
    have hlen := hs.len
    rw [forN_eq]
    have how := ownU n
    have hfi := fitsU n.op n.kids hlen
    by_cases hlv : lv < 1
    · rw [if_pos hlv]
      refine SoundP.of_sound (Sound.of_awp Tryz.call36 Tryz.func36 rfl (Nat.le_of_ble_eq_true (by kernel_rfl)) (by kernel_rfl) (pl := {}) ?_)
      simp [go_sem, hlv]
      exact .hf _ (HF.sc _)
    rw [if_neg hlv]
    cases ho : ownB n with
    | false =>
      rw [ho] at how
      refine SoundP.of_sound (Sound.of_awp Tryz.call36 Tryz.func36 rfl (Nat.le_of_ble_eq_true (by kernel_rfl)) (by kernel_rfl) (pl := {}) ?_)
      simp [go_sem, hlv]
      refine CallStep.pure how (.cons (.hf (hf_eNd _)) .nil) ?_
      simp [go_sem, hlv]
      exact .hf _ (HF.sc _)
    | true =>
      rw [ho] at how
      cases hf : fitB n.op n.kids with
      | false =>
        rw [hf] at hfi
        refine SoundP.of_sound (Sound.of_awp Tryz.call36 Tryz.func36 rfl (Nat.le_of_ble_eq_true (by kernel_rfl)) (by kernel_rfl) (pl := {}) ?_)
        simp [go_sem, hlv]
        refine CallStep.pure how (.cons (.hf (hf_eNd _)) .nil) ?_
        simp [go_sem, hlv]
        refine CallStep.pure hfi (.cons (.hf (HF.sc _)) (.cons (.hf (hf_lNd _)) .nil)) ?_
        simp [go_sem, hlv]
        exact .hf _ (HF.sc _)
      | true =>
        rw [hf] at hfi
        have wl : IntKind.i64.wrap (lv - 1) = lv - 1 := wrap_i64 (by omega) (by omega)
        generalize hR : forNs n.kids (lv - 1) = R
        simp only [Bool.true_and]
        refine SoundP.of_sound (Sound.of_awp Tryz.call36 Tryz.func36 rfl (Nat.le_of_ble_eq_true (by kernel_rfl)) (by kernel_rfl) (pl := {}) ?_)
        simp [go_sem, hlv]
        refine CallStep.pure how (.cons (.hf (hf_eNd _)) .nil) ?_
        simp [go_sem, hlv]
        refine CallStep.pure hfi (.cons (.hf (HF.sc _)) (.cons (.hf (hf_lNd _)) .nil)) ?_
        simp [go_sem, hlv]
        refine LoopGo.upK n.kids.length (fun k st => st.tm 1 = aI lv ∧ st.tm 2 = .ip (cNd n) ∧ st.tm 5 = aI k ∧ forNs (n.kids.drop k) (lv - 1) = R) ?_ ?_
        · exact ⟨by simp [go_sem], by simp [go_sem], by simp [go_sem], by simpa using hR⟩
        · rintro k st hk ⟨e1, e2, e5, hI⟩
          by_cases hkl : k = n.kids.length
          · subst hkl
            rw [List.drop_length] at hI
            simp only [forNs] at hI
            subst hI
            simp [go_sem, e1, e2, e5]
            exact .hf _ (HF.sc _)
          · have hlt : k < n.kids.length := by omega
            have w1 : IntKind.i64.wrap ((k : Int) + 1) = (k : Int) + 1 := wrap_i64 (by omega) (by omega)
            rw [List.drop_eq_getElem_cons hlt] at hI
            simp only [forNs] at hI
            have hi := ih n.kids[k] (List.getElem_mem hlt) (lv - 1) ⟨by omega, by omega⟩
            simp [go_sem, e1, e2, e5, hlt, wl, cNd_ones]
            refine CallStep.pure hi (.cons (.hf (hf_eNd _)) (.cons (.hf (HF.sc _)) .nil)) ?_
            cases hq : forN n.kids[k] (lv - 1) with
            | true =>
              rw [hq, Bool.true_and] at hI
              simp [go_sem, e1, e2, e5, w1]
              refine ⟨hlt, Keep.mk' ?_⟩
              exact ⟨by simp [go_sem, e1], by simp [go_sem, e2], by simp [go_sem], hI⟩
            | false =>
              rw [hq, Bool.false_and] at hI
              subst hI
              simp [go_sem, e1, e2, e5]
              exact .hf _ (HF.sc _)
theorem cntNs_ge : ∀ (ks : List Nd) (left sum : Int), 0 ≤ sum → cntNs ks left sum ≤ left → sum + ks.length ≤ cntNs ks left sum ∧ ∀ k, k ∈ ks → ∃ l', l' ≤ left ∧ cntN k l' ≤ l'
  | [], left, sum, _, h => by simp [cntNs]
  | k :: ks, left, sum, h0, h => by
    simp only [cntNs] at h ⊢
    split at h
    · rename_i hc
      rw [if_pos hc]
      have h1 := cntN_le k (left - sum)
      have h2 := cntNs_ge ks left (sum + cntN k (left - sum)) (by omega) h
      have h3 := h2.1
      refine ⟨by simp only [List.length_cons]; omega, fun q hq => ?_⟩
      rcases List.mem_cons.1 hq with rfl | hq
      · exact ⟨left - sum, by omega, by omega⟩
      · exact h2.2 q hq
    · omega
theorem small_of : ∀ (m : Nat) (n : Nd) (left : Int), szN n ≤ m → left ≤ 1000 → cntN n left ≤ left → Small n
  | 0, n, _, hm, _, _ => by obtain ⟨op, nm, i, ks, p⟩ := n; simp [szN] at hm
  | m + 1, n, left, hm, hl, h => by
    rw [cntN_eq] at h
    obtain ⟨h1, h2⟩ := cntNs_ge n.kids left 1 (by omega) h
    refine .mk n (by omega) fun k hk => ?_
    obtain ⟨l', hl', hc⟩ := h2 k hk
    exact small_of m k l' (by have := kid_lt hk; omega) (by omega) hc
def validB (n : Nd) : Bool := decide (cntN n 400 ≤ 400) && forN n 24
theorem validU (n : Nd) : SoundP Tryz.prog 14 [eNd n] (aB (validB n)) := by
  have hc := countU (szN n) n (Nat.le_refl _) 400 (by omega)
  by_cases h : cntN n 400 ≤ 400
  · have hs := small_of (szN n) n 400 (Nat.le_refl _) (by omega) h
    have hf := formedU (szN n) n (Nat.le_refl _) hs 24 (by omega)
    have hv : validB n = forN n 24 := by simp [validB, h]
    rw [hv]
    refine SoundP.of_sound (Sound.of_awp Tryz.call14 Tryz.func14 rfl (Nat.le_of_ble_eq_true (by kernel_rfl)) (by kernel_rfl) (pl := {}) ?_)
    simp [go_sem]
    refine CallStep.pure hc (.cons (.hf (hf_eNd _)) (.cons (.hf (HF.sc _)) .nil)) ?_
    simp [go_sem, h]
    refine CallStep.pure hf (.cons (.hf (hf_eNd _)) (.cons (.hf (HF.sc _)) .nil)) ?_
    simp [go_sem]
    exact .hf _ (HF.sc _)
  · have hv : validB n = false := by simp [validB, h]
    rw [hv]
    refine SoundP.of_sound (Sound.of_awp Tryz.call14 Tryz.func14 rfl (Nat.le_of_ble_eq_true (by kernel_rfl)) (by kernel_rfl) (pl := {}) ?_)
    simp [go_sem]
    refine CallStep.pure hc (.cons (.hf (hf_eNd _)) (.cons (.hf (HF.sc _)) .nil)) ?_
    simp [go_sem, h]
    exact .hf _ (HF.sc _)
theorem forNs_mem {ks : List Nd} {lv : Int} (h : forNs ks lv = true) : ∀ k, k ∈ ks → forN k lv = true := by
  induction ks with
  | nil => intro k hk; simp at hk
  | cons a l ih =>
    simp only [forNs, Bool.and_eq_true] at h
    intro k hk
    rcases List.mem_cons.1 hk with rfl | hk
    · exact h.1
    · exact ih h.2 k hk
theorem wf_of : ∀ (m : Nat) (n : Nd) (lv : Int), szN n ≤ m → forN n lv = true → WfN n
  | 0, n, _, hm, _ => by obtain ⟨op, nm, i, ks, p⟩ := n; simp [szN] at hm
  | m + 1, n, lv, hm, h => by
    rw [forN_eq] at h
    split at h
    · exact absurd h (by simp)
    · simp only [Bool.and_eq_true] at h
      obtain ⟨h1, h2, h3⟩ := h
      refine .mk n ?_ (fun ho => ?_) fun k hk => wf_of m k (lv - 1) (by have := kid_lt hk; omega) (forNs_mem h3 k hk)
      · simpa [fitB] using h2
      · unfold ownB at h1
        split at h1
        · rw [numB, if_pos ho] at h1
          simpa using h1
        · exact absurd h1 (by simp)
theorem wf_valid {n : Nd} (h : validB n = true) : WfN n := by
  simp only [validB, Bool.and_eq_true] at h
  exact wf_of (szN n) n 24 (Nat.le_refl _) h.2
end Go.Proofs.YtcfopdccdeeleaaGreatDoor.Q4


namespace Go.Proofs.YtcfopdccdeeleaaGreatDoor.Q5
open Go Go.Ev Go.Proofs Go.Proofs.YtcfopdccdeeleaaGreatDoor YM YS YF P1 P2 Y1 Y2 Y3 Y4 Y5 Y6 Y9 Y16 Q1 Q2 Q3 Q4
theorem sameIntsU (a b : List Int) (ha : a.length ≤ 1000000) : SoundP Tryz.prog 65 [lI a, lI b] (aB (decide (a = b))) := by
  refine SoundP.of_sound (Sound.of_awp Tryz.call65 Tryz.func65 rfl (Nat.le_of_ble_eq_true (by kernel_rfl)) (by kernel_rfl) (pl := {}) ?_)
  by_cases hn : a.length = b.length
  case neg =>
    rw [decide_eq_false (by rintro rfl; exact hn rfl)]
    simp [go_sem, hn]
    exact .hf _ (HF.sc _)
  simp [go_sem, hn]
  refine LoopGo.upK a.length (fun k st => st.tm 0 = lI a ∧ st.tm 1 = lI b ∧ st.tm 5 = aI k ∧ ∀ (i : Nat) (h : i < a.length) (h' : i < b.length), i < k → a[i] = b[i]) ?_ ?_
  · exact ⟨by simp [go_sem], by simp [go_sem], by simp [go_sem], fun i h h' hi => absurd hi (by omega)⟩
  · rintro k st hk ⟨e0, e1, e5, he⟩
    by_cases hkl : k = a.length
    · rw [decide_eq_true (List.ext_getElem hn fun i h h' => he i h h' (by omega))]
      have hkb : k = b.length := by omega
      simp [go_sem, e0, e1, e5, hkb, hn]
      exact .hf _ (HF.sc _)
    · have hlt : k < a.length := by omega
      have hlb : k < b.length := by omega
      have w1 : IntKind.i64.wrap ((k : Int) + 1) = (k : Int) + 1 := wrap_i64 (by omega) (by omega)
      have hltb : (k : Int) < (b.length : Int) := by omega
      by_cases hq : a[k] = b[k]
      · simp [go_sem, e0, e1, e5, hlt, hlb, hn, hltb]
        try refine DrawGo.intro (by kernel_rfl) ?_
        simp [go_sem, e0, e1, e5, hlt, hlb, hn, hltb, hq, w1]
        try refine ⟨by omega, Keep.mk' ?_⟩
        try refine Keep.mk' ?_
        refine ⟨by simp [go_sem, e0], by simp [go_sem, e1], by simp [go_sem], fun i h h' hi => ?_⟩
        by_cases hik : i = k
        · subst hik; exact hq
        · exact he i h h' (by omega)
      · rw [decide_eq_false (fun e => hq (by simp [e]))]
        simp [go_sem, e0, e1, e5, hlt, hlb, hn, hltb]
        try refine DrawGo.intro (by kernel_rfl) ?_
        simp [go_sem, e0, e1, e5, hlt, hlb, hn, hltb, hq]
        exact .hf _ (HF.sc _)
theorem sameTypesU (a b : List (List Int)) (ha : a.length ≤ 1000000) (hx : ∀ x, x ∈ a → x.length ≤ 1000000) : SoundP Tryz.prog 22 [lL a, lL b] (aB (decide (a = b))) := by
  refine SoundP.of_sound (Sound.of_awp Tryz.call22 Tryz.func22 rfl (Nat.le_of_ble_eq_true (by kernel_rfl)) (by kernel_rfl) (pl := {}) ?_)
  by_cases hn : a.length = b.length
  case neg =>
    rw [decide_eq_false (by rintro rfl; exact hn rfl)]
    simp [go_sem, hn]
    exact .hf _ (HF.sc _)
  simp [go_sem, hn]
  refine LoopGo.upK a.length (fun k st => st.tm 0 = lL a ∧ st.tm 1 = lL b ∧ st.tm 5 = aI k ∧ ∀ (i : Nat) (h : i < a.length) (h' : i < b.length), i < k → a[i] = b[i]) ?_ ?_
  · exact ⟨by simp [go_sem], by simp [go_sem], by simp [go_sem], fun i h h' hi => absurd hi (by omega)⟩
  · rintro k st hk ⟨e0, e1, e5, he⟩
    by_cases hkl : k = a.length
    · rw [decide_eq_true (List.ext_getElem hn fun i h h' => he i h h' (by omega))]
      have hkb : k = b.length := by omega
      simp [go_sem, e0, e1, e5, hkb, hn]
      exact .hf _ (HF.sc _)
    · have hlt : k < a.length := by omega
      have hlb : k < b.length := by omega
      have w1 : IntKind.i64.wrap ((k : Int) + 1) = (k : Int) + 1 := wrap_i64 (by omega) (by omega)
      have hltb : (k : Int) < (b.length : Int) := by omega
      simp [go_sem, e0, e1, e5, hlt, hlb, hn, hltb]
      try refine DrawGo.intro (by kernel_rfl) ?_
      try simp [go_sem, e0, e1, e5, hlt, hlb, hn, hltb]
      refine CallStep.pure (sameIntsU a[k] b[k] (hx _ (List.getElem_mem hlt))) (.cons (.hf (hf_lI _)) (.cons (.hf (hf_lI _)) .nil)) ?_
      by_cases hq : a[k] = b[k]
      · simp [go_sem, e0, e1, e5, hlt, hlb, hn, hltb, hq, w1]
        try refine ⟨by omega, Keep.mk' ?_⟩
        try refine Keep.mk' ?_
        refine ⟨by simp [go_sem, e0], by simp [go_sem, e1], by simp [go_sem], fun i h h' hi => ?_⟩
        by_cases hik : i = k
        · subst hik; exact hq
        · exact he i h h' (by omega)
      · rw [decide_eq_false (fun e : a = b => hq (by simp [e]))]
        simp [go_sem, e0, e1, e5, hlt, hlb, hn, hltb, hq]
        exact .hf _ (HF.sc _)
mutual
def eqN : Nd → Nd → Bool
  | .mk op nm i ks p, .mk op' nm' i' ks' p' => decide (op = op') && decide (nm = nm') && decide (i = i') && decide (p = p') && eqNs ks ks'
def eqNs : List Nd → List Nd → Bool
  | [], [] => true
  | k :: ks, k' :: ks' => eqN k k' && eqNs ks ks'
  | _, _ => false
end
theorem eqN_eq (a b : Nd) : eqN a b = (decide (a.op = b.op) && decide (a.name = b.name) && decide (a.n = b.n) && decide (a.pos = b.pos) && eqNs a.kids b.kids) := by
  obtain ⟨op, nm, i, ks, p⟩ := a
  obtain ⟨op', nm', i', ks', p'⟩ := b
  simp only [eqN]
  rfl
theorem eqNs_len {a b : List Nd} (h : eqNs a b = true) : a.length = b.length := by
  induction a generalizing b with
  | nil => cases b with
    | nil => rfl
    | cons => simp [eqNs] at h
  | cons x a ih => cases b with
    | nil => simp [eqNs] at h
    | cons y b =>
      simp only [eqNs, Bool.and_eq_true] at h
      simp [ih h.2]
theorem sameU : ∀ (m : Nat) (a b : Nd), szN a ≤ m → Small a → SoundP Tryz.prog 25 [eNd a, eNd b, aB true] (aB (eqN a b))
  | 0, a, b, hm, _ => by obtain ⟨op, nm, i, ks, p⟩ := a; simp [szN] at hm
  | m + 1, a, b, hm, hs => by
    have ih : ∀ k, k ∈ a.kids → ∀ b, SoundP Tryz.prog 25 [eNd k, eNd b, aB true] (aB (eqN k b)) := fun k hk b =>
      sameU m k b (by have := kid_lt hk; omega) (hs.kid hk)
    have hlen := hs.len
    rw [eqN_eq]
    refine SoundP.of_sound (Sound.of_awp Tryz.call25 Tryz.func25 rfl (Nat.le_of_ble_eq_true (by kernel_rfl)) (by kernel_rfl) (pl := {}) ?_)
    by_cases h1 : a.op = b.op
    case neg =>
      simp [go_sem, h1]
      exact .hf _ (HF.sc _)
    by_cases h2 : a.name = b.name
    case neg =>
      simp [go_sem, h1, h2, str_ne h2]
      exact .hf _ (HF.sc _)
    by_cases h3 : a.n = b.n
    case neg =>
      simp [go_sem, h1, h2, h3]
      exact .hf _ (HF.sc _)
    by_cases h4 : a.pos = b.pos
    case neg =>
      simp [go_sem, h1, h2, h3, h4]
      exact .hf _ (HF.sc _)
    by_cases h5 : a.kids.length = b.kids.length
    case neg =>
      have : eqNs a.kids b.kids = false := by
        cases h : eqNs a.kids b.kids with
        | false => rfl
        | true => exact absurd (eqNs_len h) h5
      simp [go_sem, h1, h2, h3, h4, h5, this]
      exact .hf _ (HF.sc _)
    generalize hR : eqNs a.kids b.kids = R
    simp [go_sem, h1, h2, h3, h4, h5]
    refine LoopGo.upK a.kids.length (fun k st => st.tm 2 = aB true ∧ st.tm 3 = .ip (cNd a) ∧ st.tm 4 = .ip (cNd b) ∧ st.tm 7 = aI k ∧ eqNs (a.kids.drop k) (b.kids.drop k) = R) ?_ ?_
    · refine ⟨by simp [go_sem], by simp [go_sem], by simp [go_sem], by simp [go_sem], by simpa using hR⟩
    · rintro k st hk ⟨e2, e3, e4, e7, hI⟩
      by_cases hkl : k = a.kids.length
      · rw [hkl, List.drop_length, h5, List.drop_length] at hI
        simp only [eqNs] at hI
        subst hI
        have hkb : k = b.kids.length := by omega
        simp [go_sem, e2, e3, e4, e7, hkb, h5]
        exact .hf _ (HF.sc _)
      · have hlt : k < a.kids.length := by omega
        have hlb : k < b.kids.length := by omega
        have w1 : IntKind.i64.wrap ((k : Int) + 1) = (k : Int) + 1 := wrap_i64 (by omega) (by omega)
        have hltb : (k : Int) < (b.kids.length : Int) := by omega
        rw [List.drop_eq_getElem_cons hlt, List.drop_eq_getElem_cons hlb] at hI
        simp only [eqNs] at hI
        have hi := ih a.kids[k] (List.getElem_mem hlt) b.kids[k]
        simp [go_sem, e2, e3, e4, e7, hlt, hlb, h5, hltb, cNd_ones]
        refine DrawGo.intro (by kernel_rfl) ?_
        simp [go_sem, e2, e3, e4, e7, hlt, hlb, h5, hltb, cNd_ones]
        refine CallStep.pure hi (.cons (.hf (hf_eNd _)) (.cons (.hf (hf_eNd _)) (.cons (.hf (HF.sc _)) .nil))) ?_
        cases hq : eqN a.kids[k] b.kids[k] with
        | true =>
          rw [hq, Bool.true_and] at hI
          simp [go_sem, e2, e3, e4, e7, w1]
          try refine ⟨by omega, Keep.mk' ?_⟩
          try refine Keep.mk' ?_
          exact ⟨by simp [go_sem, e2], by simp [go_sem, e3], by simp [go_sem, e4], by simp [go_sem], hI⟩
        | false =>
          rw [hq, Bool.false_and] at hI
          subst hI
          simp [go_sem, e2, e3, e4, e7]
          exact .hf _ (HF.sc _)
end Go.Proofs.YtcfopdccdeeleaaGreatDoor.Q5


namespace Go.Proofs.YtcfopdccdeeleaaGreatDoor.Q6
open Go Go.Ev Go.Proofs Go.Proofs.YtcfopdccdeeleaaGreatDoor YM YS YF P1 P2 Y1 Y2 Y3 Y4 Y5 Y6 Y9 Y16 Q1 Q2 Q3 Q4 Q5
mutual
def anyN (p : Nd → Bool) : Nd → Bool
  | .mk op nm i ks q => p (.mk op nm i ks q) || anyNs p ks
def anyNs (p : Nd → Bool) : List Nd → Bool
  | [] => false
  | k :: ks => anyN p k || anyNs p ks
end
theorem anyN_eq (p : Nd → Bool) (n : Nd) : anyN p n = (p n || anyNs p n.kids) := by
  obtain ⟨op, nm, i, ks, q⟩ := n
  simp [anyN, Nd.kids]
theorem usesU (nm : ByteArray) : ∀ (m : Nat) (n : Nd), szN n ≤ m → Small n → SoundP Tryz.prog 29 [eNd n, aS nm] (aB (anyN (fun n => decide (n.name = nm)) n))
  | 0, n, hm, _ => by obtain ⟨op, nm, i, ks, p⟩ := n; simp [szN] at hm
  | m + 1, n, hm, hs => by
    have ih : ∀ k, k ∈ n.kids → SoundP Tryz.prog 29 [eNd k, aS nm] (aB (anyN (fun n => decide (n.name = nm)) k)) := fun k hk =>
      usesU nm m k (by have := kid_lt hk; omega) (hs.kid hk)
    have hlen := hs.len
    rw [anyN_eq]
    generalize hR : anyNs (fun n => decide (n.name = nm)) n.kids = R
    refine SoundP.of_sound (Sound.of_awp Tryz.call29 Tryz.func29 rfl (Nat.le_of_ble_eq_true (by kernel_rfl)) (by kernel_rfl) (pl := {}) ?_)
    by_cases h1 : n.name = nm
    · simp [go_sem, h1]
      exact .hf _ (HF.sc _)
    · rw [decide_eq_false h1, Bool.false_or]
      simp [go_sem, h1, str_ne h1]
      refine LoopGo.upK n.kids.length (fun k st => st.tm 1 = aS nm ∧ st.tm 2 = .ip (cNd n) ∧ st.tm 5 = aI k ∧ anyNs (fun n => decide (n.name = nm)) (n.kids.drop k) = R) ?_ ?_
      · exact ⟨by simp [go_sem], by simp [go_sem], by simp [go_sem], by simpa using hR⟩
      · rintro k st hk ⟨e1, en, ei, hI⟩
        by_cases hkl : k = n.kids.length
        · subst hkl
          rw [List.drop_length] at hI
          simp only [anyNs] at hI
          subst hI
          simp [go_sem, e1, en, ei]
          exact .hf _ (HF.sc _)
        · have hlt : k < n.kids.length := by omega
          have w1 : IntKind.i64.wrap ((k : Int) + 1) = (k : Int) + 1 := wrap_i64 (by omega) (by omega)
          rw [List.drop_eq_getElem_cons hlt] at hI
          simp only [anyNs] at hI
          have hi := ih n.kids[k] (List.getElem_mem hlt)
          simp [go_sem, e1, en, ei, hlt, cNd_ones]
          try refine DrawGo.intro (by kernel_rfl) ?_
          try simp [go_sem, e1, en, ei, hlt, cNd_ones]
          refine CallStep.pure hi (.cons (.hf (hf_eNd _)) (.cons (.hf (HF.sc _)) .nil)) ?_
          cases hq : anyN (fun n => decide (n.name = nm)) n.kids[k] with
          | true =>
            rw [hq, Bool.true_or] at hI
            subst hI
            simp [go_sem, e1, en, ei]
            exact .hf _ (HF.sc _)
          | false =>
            rw [hq, Bool.false_or] at hI
            simp [go_sem, e1, en, ei, w1]
            try refine ⟨hlt, Keep.mk' ?_⟩
            try refine Keep.mk' ?_
            exact ⟨by simp [go_sem, e1], by simp [go_sem, en], by simp [go_sem], hI⟩
theorem hasCallU : ∀ (m : Nat) (n : Nd), szN n ≤ m → Small n → SoundP Tryz.prog 31 [eNd n] (aB (anyN (fun n => decide (n.op = 47)) n))
  | 0, n, hm, _ => by obtain ⟨op, nm, i, ks, p⟩ := n; simp [szN] at hm
  | m + 1, n, hm, hs => by
    have ih : ∀ k, k ∈ n.kids → SoundP Tryz.prog 31 [eNd k] (aB (anyN (fun n => decide (n.op = 47)) k)) := fun k hk =>
      hasCallU m k (by have := kid_lt hk; omega) (hs.kid hk)
    have hlen := hs.len
    rw [anyN_eq]
    generalize hR : anyNs (fun n => decide (n.op = 47)) n.kids = R
    refine SoundP.of_sound (Sound.of_awp Tryz.call31 Tryz.func31 rfl (Nat.le_of_ble_eq_true (by kernel_rfl)) (by kernel_rfl) (pl := {}) ?_)
    by_cases h1 : n.op = 47
    · simp [go_sem, h1]
      exact .hf _ (HF.sc _)
    · rw [decide_eq_false h1, Bool.false_or]
      simp [go_sem, h1]
      refine LoopGo.upK n.kids.length (fun k st => st.tm 1 = .ip (cNd n) ∧ st.tm 3 = aI k ∧ anyNs (fun n => decide (n.op = 47)) (n.kids.drop k) = R) ?_ ?_
      · exact ⟨by simp [go_sem], by simp [go_sem], by simpa using hR⟩
      · rintro k st hk ⟨en, ei, hI⟩
        by_cases hkl : k = n.kids.length
        · subst hkl
          rw [List.drop_length] at hI
          simp only [anyNs] at hI
          subst hI
          simp [go_sem, en, ei]
          exact .hf _ (HF.sc _)
        · have hlt : k < n.kids.length := by omega
          have w1 : IntKind.i64.wrap ((k : Int) + 1) = (k : Int) + 1 := wrap_i64 (by omega) (by omega)
          rw [List.drop_eq_getElem_cons hlt] at hI
          simp only [anyNs] at hI
          have hi := ih n.kids[k] (List.getElem_mem hlt)
          simp [go_sem, en, ei, hlt, cNd_ones]
          try refine DrawGo.intro (by kernel_rfl) ?_
          try simp [go_sem, en, ei, hlt, cNd_ones]
          refine CallStep.pure hi (.cons (.hf (hf_eNd _)) .nil) ?_
          cases hq : anyN (fun n => decide (n.op = 47)) n.kids[k] with
          | true =>
            rw [hq, Bool.true_or] at hI
            subst hI
            simp [go_sem, en, ei]
            exact .hf _ (HF.sc _)
          | false =>
            rw [hq, Bool.false_or] at hI
            simp [go_sem, en, ei, w1]
            try refine ⟨hlt, Keep.mk' ?_⟩
            try refine Keep.mk' ?_
            exact ⟨by simp [go_sem, en], by simp [go_sem], hI⟩
end Go.Proofs.YtcfopdccdeeleaaGreatDoor.Q6


namespace Go.Proofs.YtcfopdccdeeleaaGreatDoor.Q7
open Go Go.Ev Go.Proofs Go.Proofs.YtcfopdccdeeleaaGreatDoor YM YS YF P1 P2 Y1 Y2 Y3 Y4 Y5 Y6 Y9 Y16 Q1 Q2 Q3 Q4 Q5 Q6
def parB (ns : Nat) (l : List (ByteArray × Int)) : Bool := decide (l.length ≤ 8) && l.all fun p => decide (0 ≤ p.2) && decide (p.2 < ns)
theorem paramsU (ts : TS) (l : List (ByteArray × Int)) : SoundP Tryz.prog 13 [eTS ts, lPm l] (aB (parB ts.sorts.length l)) := by
  refine SoundP.of_sound (Sound.of_awp Tryz.call13 Tryz.func13 rfl (Nat.le_of_ble_eq_true (by kernel_rfl)) (by kernel_rfl) (pl := {}) ?_)
  by_cases h8 : l.length ≤ 8
  case neg =>
    have hp : parB ts.sorts.length l = false := by simp [parB, h8]
    have h8' : (8 : Int) < l.length := by omega
    rw [hp]
    simp [go_sem, h8, h8']
    exact .hf _ (HF.sc _)
  have h8' : ¬ (8 : Int) < l.length := by omega
  simp [go_sem, h8, h8']
  refine LoopGo.upK l.length (fun k st => st.tm 1 = lPm l ∧ st.tm 2 = .ip (cTS ts) ∧ st.tm 5 = aI k ∧ ∀ j p, j < k → l[j]? = some p → 0 ≤ p.2 ∧ p.2 < ts.sorts.length) ?_ ?_
  · exact ⟨by simp [go_sem], by simp [go_sem], by simp [go_sem], fun j p hj => absurd hj (by omega)⟩
  · rintro k st hk ⟨e1, e3, e5, hI⟩
    by_cases hkl : k = l.length
    · have hp : parB ts.sorts.length l = true := by
        simp only [parB, Bool.and_eq_true, decide_eq_true_eq, List.all_eq_true]
        refine ⟨h8, fun p hp => ?_⟩
        obtain ⟨j, hj⟩ := List.mem_iff_getElem?.1 hp
        exact hI j p (by have := (List.getElem?_eq_some_iff.1 hj).1; omega) hj
      rw [hp]
      simp [go_sem, e1, e3, e5, hkl]
      exact .hf _ (HF.sc _)
    · have hlt : k < l.length := by omega
      have w1 : IntKind.i64.wrap ((k : Int) + 1) = (k : Int) + 1 := wrap_i64 (by omega) (by omega)
      have hg : l[k]? = some l[k] := List.getElem?_eq_getElem hlt
      by_cases hq : 0 ≤ l[k].2 ∧ l[k].2 < ts.sorts.length
      · have q1 : ¬ l[k].2 < 0 := by omega
        have q2 : ¬ (ts.sorts.length : Int) ≤ l[k].2 := by omega
        simp [go_sem, e1, e3, e5, hlt]
        refine DrawGo.intro (by kernel_rfl) ?_
        simp [go_sem, e1, e3, e5, hlt, q1, q2, w1]
        try refine ⟨hlt, Keep.mk' ?_⟩
        try refine Keep.mk' ?_
        refine ⟨by simp [go_sem, e1], by simp [go_sem, e3], by simp [go_sem], fun j p hj hp => ?_⟩
        by_cases hjk : j = k
        · subst hjk; rw [hg] at hp; cases hp; exact hq
        · exact hI j p (by omega) hp
      · have hp : parB ts.sorts.length l = false := by
          rw [parB, Bool.and_eq_false_iff]
          refine .inr (List.all_eq_false.2 ⟨l[k], List.getElem_mem hlt, ?_⟩)
          simp only [Bool.and_eq_true, decide_eq_true_eq]
          exact hq
        rw [hp]
        by_cases q1 : l[k].2 < 0
        · simp [go_sem, e1, e3, e5, hlt]
          refine DrawGo.intro (by kernel_rfl) ?_
          simp [go_sem, e1, e3, e5, hlt, q1]
          exact .hf _ (HF.sc _)
        · have q2 : (ts.sorts.length : Int) ≤ l[k].2 := by omega
          simp [go_sem, e1, e3, e5, hlt]
          refine DrawGo.intro (by kernel_rfl) ?_
          simp [go_sem, e1, e3, e5, hlt, q1, q2]
          exact .hf _ (HF.sc _)
theorem par_ok {ns : Nat} {l : List (ByteArray × Int)} (h : parB ns l = true) : l.length ≤ 8 ∧ ∀ p, p ∈ l → 0 ≤ p.2 ∧ p.2 < ns := by
  simp only [parB, Bool.and_eq_true, decide_eq_true_eq, List.all_eq_true] at h
  exact ⟨h.1, fun p hp => h.2 p hp⟩
end Go.Proofs.YtcfopdccdeeleaaGreatDoor.Q7


namespace Go.Proofs.YtcfopdccdeeleaaGreatDoor.Q8
open Go Go.Ev Go.Proofs Go.Proofs.YtcfopdccdeeleaaGreatDoor YM YS YF P1 P2 Y1 Y2 Y3 Y4 Y5 Y6 Y9 Y16 Q1 Q2 Q3 Q4 Q5 Q6 Q7
def limB (ts : TS) : Bool := decide (ts.sorts.length ≤ 4) && decide (ts.fields.length ≤ 6) && decide (ts.preds.length ≤ 8) && decide (ts.facts.length ≤ 16)
def fldB (ns : Nat) (f : Fld) : Bool := decide (1 ≤ f.sorts.length) && decide (f.sorts.length ≤ 3) && f.sorts.all fun x => decide (0 ≤ x) && decide (x < ns)
def fitsS (ts : TS) : Bool := limB ts && (ts.fields.all (fldB ts.sorts.length) && (ts.preds.all (fun p => parB ts.sorts.length p.params && validB p.body) && ts.facts.all fun f => validB f.2))
theorem fitsSU (ts : TS) : SoundP Tryz.prog 12 [eTS ts] (aB (fitsS ts)) := by
  refine SoundP.of_sound (Sound.of_awp Tryz.call12 Tryz.func12 rfl (Nat.le_of_ble_eq_true (by kernel_rfl)) (by kernel_rfl) (pl := {}) ?_)
  by_cases h1 : ts.sorts.length ≤ 4
  case neg =>
    have hf : fitsS ts = false := by simp [fitsS, limB, h1]
    have h1' : (4 : Int) < ts.sorts.length := by omega
    rw [hf]
    simp [go_sem, h1']
    exact .hf _ (HF.sc _)
  have h1' : ¬ (4 : Int) < ts.sorts.length := by omega
  by_cases h2 : ts.fields.length ≤ 6
  case neg =>
    have hf : fitsS ts = false := by simp [fitsS, limB, h2]
    have h2' : (6 : Int) < ts.fields.length := by omega
    rw [hf]
    simp [go_sem, h1', h2']
    exact .hf _ (HF.sc _)
  have h2' : ¬ (6 : Int) < ts.fields.length := by omega
  by_cases h3 : ts.preds.length ≤ 8
  case neg =>
    have hf : fitsS ts = false := by simp [fitsS, limB, h3]
    have h3' : (8 : Int) < ts.preds.length := by omega
    rw [hf]
    simp [go_sem, h1', h2', h3']
    exact .hf _ (HF.sc _)
  have h3' : ¬ (8 : Int) < ts.preds.length := by omega
  by_cases h4 : ts.facts.length ≤ 16
  case neg =>
    have hf : fitsS ts = false := by simp [fitsS, limB, h4]
    have h4' : (16 : Int) < ts.facts.length := by omega
    rw [hf]
    simp [go_sem, h1', h2', h3', h4']
    exact .hf _ (HF.sc _)
  have h4' : ¬ (16 : Int) < ts.facts.length := by omega
  simp [go_sem, h1', h2', h3', h4']
  have hlim : limB ts = true := by simp [limB, h1, h2, h3, h4]
  generalize hns : ts.sorts.length = ns at *
  refine LoopGo.upK ts.fields.length (fun k st => st.tm 1 = .ip (cTS ts) ∧ st.tm 3 = aI k ∧ ∀ j f, j < k → ts.fields[j]? = some f → fldB ns f = true) ?_ ?_
  · exact ⟨by simp [go_sem], by simp [go_sem], fun j p hj => absurd hj (by omega)⟩
  · rintro k st hk ⟨e1, e3, hI⟩
    by_cases hkl : k = ts.fields.length
    · have hfa : ts.fields.all (fldB ns) = true := by
        rw [List.all_eq_true]
        intro f hf
        obtain ⟨j, hj⟩ := List.mem_iff_getElem?.1 hf
        exact hI j f (by have := (List.getElem?_eq_some_iff.1 hj).1; omega) hj
      simp [go_sem, e1, e3, hkl]
      refine LoopGo.upK ts.preds.length (fun k st => st.tm 1 = .ip (cTS ts) ∧ st.tm 6 = aI k ∧ ∀ j p, j < k → ts.preds[j]? = some p → (parB ns p.params && validB p.body) = true) ?_ ?_
      · exact ⟨by simp [go_sem, e1], by simp [go_sem], fun j p hj => absurd hj (by omega)⟩
      · clear e1 e3 hI hkl hk k st
        rintro k st hk ⟨e1, e6, hI⟩
        by_cases hkl : k = ts.preds.length
        · have hpa : (ts.preds.all fun p => parB ns p.params && validB p.body) = true := by
            rw [List.all_eq_true]
            intro f hf
            obtain ⟨j, hj⟩ := List.mem_iff_getElem?.1 hf
            exact hI j f (by have := (List.getElem?_eq_some_iff.1 hj).1; omega) hj
          simp [go_sem, e1, e6, hkl]
          refine LoopGo.upK ts.facts.length (fun k st => st.tm 1 = .ip (cTS ts) ∧ st.tm 7 = aI k ∧ ∀ j f, j < k → ts.facts[j]? = some f → validB f.2 = true) ?_ ?_
          · exact ⟨by simp [go_sem, e1], by simp [go_sem], fun j p hj => absurd hj (by omega)⟩
          · clear e1 e6 hI hkl hk k st
            rintro k st hk ⟨e1, e7, hI⟩
            by_cases hkl : k = ts.facts.length
            · have hfa2 : (ts.facts.all fun f => validB f.2) = true := by
                rw [List.all_eq_true]
                intro f hf
                obtain ⟨j, hj⟩ := List.mem_iff_getElem?.1 hf
                exact hI j f (by have := (List.getElem?_eq_some_iff.1 hj).1; omega) hj
              have hok : fitsS ts = true := by
                unfold fitsS
                rw [hns, hlim, hfa, hpa, hfa2]; rfl
              rw [hok]
              simp [go_sem, e1, e7, hkl]
              exact .hf _ (HF.sc _)
            · have hlt : k < ts.facts.length := by omega
              have w1 : IntKind.i64.wrap ((k : Int) + 1) = (k : Int) + 1 := wrap_i64 (by omega) (by omega)
              have hg : ts.facts[k]? = some ts.facts[k] := List.getElem?_eq_getElem hlt
              have hval := validU ts.facts[k].2
              simp [go_sem, e1, e7, hlt]
              try refine DrawGo.intro (by kernel_rfl) ?_
              try simp [go_sem, e1, e7, hlt]
              refine CallStep.pure hval (.cons (.hf (hf_eNd _)) .nil) ?_
              cases hq2 : validB ts.facts[k].2 with
              | false =>
                have hb : fitsS ts = false := by
                  have : (ts.facts.all fun f => validB f.2) = false := List.all_eq_false.2 ⟨_, List.getElem_mem hlt, by simp [hq2]⟩
                  simp [fitsS, this]
                rw [hb]
                simp [go_sem, e1, e7, hlt]
                exact .hf _ (HF.sc _)
              | true =>
                simp [go_sem, e1, e7, hlt, w1]
                try refine ⟨hlt, Keep.mk' ?_⟩
                try refine Keep.mk' ?_
                refine ⟨by simp [go_sem, e1], by simp [go_sem], fun i f hi hf => ?_⟩
                by_cases hik : i = k
                · subst hik; rw [hg] at hf; cases hf; exact hq2
                · exact hI i f (by omega) hf
        · have hlt : k < ts.preds.length := by omega
          have w1 : IntKind.i64.wrap ((k : Int) + 1) = (k : Int) + 1 := wrap_i64 (by omega) (by omega)
          have hg : ts.preds[k]? = some ts.preds[k] := List.getElem?_eq_getElem hlt
          have hbad : (parB ns ts.preds[k].params && validB ts.preds[k].body) = false → fitsS ts = false := fun hb => by
            have : (ts.preds.all fun p => parB ns p.params && validB p.body) = false := List.all_eq_false.2 ⟨_, List.getElem_mem hlt, by simp [hb]⟩
            simp [fitsS, hns, this]
          have hpar := paramsU ts ts.preds[k].params
          rw [hns] at hpar
          have hval := validU ts.preds[k].body
          have hwp : WKs [eTS ts, lPm ts.preds[k].params] [eTS ts, lPm ts.preds[k].params] := .cons (.hf (hf_eTS ts)) (.cons (.hf (hf_lPm _)) .nil)
          simp [go_sem, e1, e6, hlt]
          refine DrawGo.intro (by kernel_rfl) ?_
          simp [go_sem, e1, e6, hlt]
          refine CallStep.pure hpar hwp ?_
          cases hq1 : parB ns ts.preds[k].params with
          | false =>
            rw [hbad (by rw [hq1]; rfl)]
            simp [go_sem, e1, e6, hlt]
            exact .hf _ (HF.sc _)
          | true =>
            simp [go_sem, e1, e6, hlt]
            refine CallStep.pure hval (.cons (.hf (hf_eNd _)) .nil) ?_
            cases hq2 : validB ts.preds[k].body with
            | false =>
              rw [hbad (by rw [hq1, hq2]; rfl)]
              simp [go_sem, e1, e6, hlt]
              exact .hf _ (HF.sc _)
            | true =>
              simp [go_sem, e1, e6, hlt, w1]
              try refine ⟨hlt, Keep.mk' ?_⟩
              try refine Keep.mk' ?_
              refine ⟨by simp [go_sem, e1], by simp [go_sem], fun i f hi hf => ?_⟩
              by_cases hik : i = k
              · subst hik; rw [hg] at hf; cases hf; rw [hq1, hq2]; rfl
              · exact hI i f (by omega) hf
    · have hlt : k < ts.fields.length := by omega
      have hg : ts.fields[k]? = some ts.fields[k] := List.getElem?_eq_getElem hlt
      have hbad : fldB ns ts.fields[k] = false → fitsS ts = false := fun hb => by
        have : ts.fields.all (fldB ns) = false := List.all_eq_false.2 ⟨_, List.getElem_mem hlt, by simp [hb]⟩
        simp [fitsS, hns, this]
      by_cases c1 : 1 ≤ ts.fields[k].sorts.length
      case neg =>
        rw [hbad (by simp [fldB, c1])]
        have c1' : (ts.fields[k].sorts.length : Int) < 1 := by omega
        simp [go_sem, e1, e3, hlt, c1']
        exact .hf _ (HF.sc _)
      have c1' : ¬ (ts.fields[k].sorts.length : Int) < 1 := by omega
      by_cases c3 : ts.fields[k].sorts.length ≤ 3
      case neg =>
        rw [hbad (by simp [fldB, c3])]
        have c3' : (3 : Int) < ts.fields[k].sorts.length := by omega
        simp [go_sem, e1, e3, hlt, c1', c3']
        exact .hf _ (HF.sc _)
      have c3' : ¬ (3 : Int) < ts.fields[k].sorts.length := by omega
      simp [go_sem, e1, e3, hlt, c1', c3']
      refine LoopGo.upK ts.fields[k].sorts.length (fun j s => s.tm 1 = .ip (cTS ts) ∧ s.tm 3 = aI k ∧ s.tm 4 = lI ts.fields[k].sorts ∧ s.tm 5 = aI j ∧ ∀ i x, i < j → ts.fields[k].sorts[i]? = some x → 0 ≤ x ∧ x < ns) ?_ ?_
      · exact ⟨by simp [go_sem, e1], by simp [go_sem, e3], by simp [go_sem], by simp [go_sem], fun i x hi => absurd hi (by omega)⟩
      · rintro j s hj ⟨f1, f3, f4, f5, hJ⟩
        generalize hl : ts.fields[k].sorts = l at *
        by_cases hjl : j = l.length
        · have w1 : IntKind.i64.wrap ((k : Int) + 1) = (k : Int) + 1 := wrap_i64 (by omega) (by omega)
          have hgood : fldB ns ts.fields[k] = true := by
            simp only [fldB, hl, Bool.and_eq_true, decide_eq_true_eq, List.all_eq_true]
            refine ⟨⟨c1, c3⟩, fun x hx => ?_⟩
            obtain ⟨i, hi⟩ := List.mem_iff_getElem?.1 hx
            exact hJ i x (by have := (List.getElem?_eq_some_iff.1 hi).1; omega) hi
          simp [go_sem, f1, f3, f4, f5, hjl, w1]
          try refine ⟨hlt, Keep.mk' ?_⟩
          try refine Keep.mk' ?_
          refine ⟨by simp [go_sem, f1], by simp [go_sem], fun i f hi hf => ?_⟩
          by_cases hik : i = k
          · subst hik; rw [hg] at hf; cases hf; exact hgood
          · exact hI i f (by omega) hf
        · have hlj : j < l.length := by omega
          have w1 : IntKind.i64.wrap ((j : Int) + 1) = (j : Int) + 1 := wrap_i64 (by omega) (by omega)
          have hgj : l[j]? = some l[j] := List.getElem?_eq_getElem hlj
          by_cases hq : 0 ≤ l[j] ∧ l[j] < ns
          · have q1 : ¬ l[j] < 0 := by omega
            have q2 : ¬ (ns : Int) ≤ l[j] := by omega
            simp [go_sem, f1, f3, f4, f5, hlj]
            refine DrawGo.intro (by kernel_rfl) ?_
            simp [go_sem, f1, f3, f4, f5, hlj, q1, q2, w1, hns]
            try refine ⟨hlj, Keep.mk' ?_⟩
            try refine Keep.mk' ?_
            refine ⟨by simp [go_sem, f1], by simp [go_sem, f3], by simp [go_sem, f4], by simp [go_sem], fun i x hi hx => ?_⟩
            by_cases hij : i = j
            · subst hij; rw [hgj] at hx; cases hx; exact hq
            · exact hJ i x (by omega) hx
          · rw [hbad (by
              rw [fldB, hl, Bool.and_eq_false_iff]
              refine .inr (List.all_eq_false.2 ⟨l[j], List.getElem_mem hlj, ?_⟩)
              simp only [Bool.and_eq_true, decide_eq_true_eq]
              exact hq)]
            by_cases q1 : l[j] < 0
            · simp [go_sem, f1, f3, f4, f5, hlj]
              refine DrawGo.intro (by kernel_rfl) ?_
              simp [go_sem, f1, f3, f4, f5, hlj, q1]
              exact .hf _ (HF.sc _)
            · have q2 : (ns : Int) ≤ l[j] := by omega
              simp [go_sem, f1, f3, f4, f5, hlj]
              refine DrawGo.intro (by kernel_rfl) ?_
              simp [go_sem, f1, f3, f4, f5, hlj, q1, q2, hns]
              exact .hf _ (HF.sc _)
theorem fits_ok {ts : TS} (h : fitsS ts = true) (hs : ∀ x, x ∈ ts.sorts → x.1.size ≤ 4611686018427387904) : okTS ts ∧ (∀ p, p ∈ ts.preds → WfN p.body) ∧ ∀ f, f ∈ ts.facts → WfN f.2 := by
  simp only [fitsS, limB, fldB, Bool.and_eq_true, decide_eq_true_eq, List.all_eq_true] at h
  obtain ⟨⟨⟨⟨h1, h2⟩, h3⟩, h4⟩, hf, hp, ha⟩ := h
  refine ⟨⟨h1, h2, h3, h4, hs, fun f hm => ?_, fun p hm => ?_⟩, fun p hm => wf_valid (hp p hm).2, fun f hm => wf_valid (ha f hm)⟩
  · obtain ⟨⟨a, b⟩, c⟩ := hf f hm
    exact ⟨a, b, fun x hx => c x hx⟩
  · exact par_ok (hp p hm).1
end Go.Proofs.YtcfopdccdeeleaaGreatDoor.Q8


namespace Go.Proofs.YtcfopdccdeeleaaGreatDoor.Q9
open Go Go.Ev Go.Proofs Go.Proofs.YtcfopdccdeeleaaGreatDoor YM YS YF P1 P2 Y1 Y2 Y3 Y4 Y5 Y6 Y9 Y16 Q1 Q2 Q3 Q4 Q5 Q6 Q7 Q8
def ndOp (op : Int) (ks : List Nd) : Nd := .mk op ⟨#[]⟩ 0 ks 0
theorem nodeU (op : Int) (ks : List Nd) : SoundP Tryz.prog 26 [aI op, lNd ks] (eNd (ndOp op ks)) := by
  refine SoundP.of_sound (Sound.of_awp Tryz.call26 Tryz.func26 rfl (Nat.le_of_ble_eq_true (by kernel_rfl)) (by kernel_rfl) (pl := {}) ?_)
  have hq : cNd (ndOp op ks) = [aI op, aS ⟨#[]⟩, aI 0, lNd ks, aI 0] := by rw [cNd_eq]; rfl
  rw [eNd, hq]
  simp [go_sem]
  exact .hf _ (HF.agg fun c hc => by
    simp at hc
    rcases hc with rfl | rfl | rfl | rfl | rfl
    · exact HF.sc _
    · exact HF.sc _
    · exact HF.sc _
    · exact hf_lNd _
    · exact HF.sc _)
def ndUse (nm : ByteArray) (p : Int) : Nd := .mk 1 nm 0 [] p
theorem useU (nm : ByteArray) (p : Int) : SoundP Tryz.prog 34 [aS nm, aI p] (eNd (ndUse nm p)) := by
  refine SoundP.of_sound (Sound.of_awp Tryz.call34 Tryz.func34 rfl (Nat.le_of_ble_eq_true (by kernel_rfl)) (by kernel_rfl) (pl := {}) ?_)
  have hq : cNd (ndUse nm p) = [aI 1, aS nm, aI 0, lNd [], aI p] := by rw [cNd_eq]; rfl
  rw [eNd, hq]
  simp [go_sem]
  refine .agg _ _ rfl fun k x y hx hy => ?_
  match k, hx, hy with
  | 0, hx, hy => simp at hx hy; subst hx; subst hy; exact .hf _ (HF.sc _)
  | 1, hx, hy => simp at hx hy; subst hx; subst hy; exact .hf _ (HF.sc _)
  | 2, hx, hy => simp at hx hy; subst hx; subst hy; exact .hf _ (HF.sc _)
  | 3, hx, hy => simp at hx hy; subst hx; subst hy; exact .wk _ true _ (.hf _ (HF.lst fun r hr => absurd hr List.not_mem_nil))
  | 4, hx, hy => simp at hx hy; subst hx; subst hy; exact .hf _ (HF.sc _)
  | k + 5, hx, hy => simp at hx
end Go.Proofs.YtcfopdccdeeleaaGreatDoor.Q9


namespace Go.Proofs.YtcfopdccdeeleaaGreatDoor.PA
open Go Go.Ev Go.Proofs Go.Proofs.YtcfopdccdeeleaaGreatDoor P1 P2 Y1 Y2 Y3 Y4 Y5 Y6 Y7 Y8 Y9 Y10 Y11 Y12 Y13 Y14 Y15 Y16 YV YW Q4 Q5 Q6 Q7 Q8 Q9
def usesN (nm : ByteArray) (n : Nd) : Prop := anyN (fun n => decide (n.name = nm)) n = true
theorem anyNs_mem {p : Nd → Bool} : ∀ {ks : List Nd}, anyNs p ks = true ↔ ∃ k, k ∈ ks ∧ anyN p k = true
  | [] => by simp [anyNs]
  | k :: ks => by
    simp only [anyNs, Bool.or_eq_true, anyNs_mem (ks := ks), List.mem_cons]
    constructor
    · rintro (h | ⟨x, hx, h⟩)
      · exact ⟨k, .inl rfl, h⟩
      · exact ⟨x, .inr hx, h⟩
    · rintro ⟨x, rfl | hx, h⟩
      · exact .inl h
      · exact .inr ⟨x, hx, h⟩
theorem uses_self (n : Nd) : usesN n.name n := by
  unfold usesN; rw [anyN_eq]; simp
theorem uses_kid {n k : Nd} {nm : ByteArray} (hk : k ∈ n.kids) (h : usesN nm k) : usesN nm n := by
  unfold usesN at h ⊢
  rw [anyN_eq, Bool.or_eq_true]
  exact .inr (anyNs_mem.2 ⟨k, hk, h⟩)
def lookS (nm : ByteArray) (s : Scp) : Option Kd := (findS nm s).head?.map Prod.snd
theorem lookS_nil (nm : ByteArray) : lookS nm [] = none := rfl
theorem lookS_cons (nm : ByteArray) (v : ByteArray × Kd) (s : Scp) : lookS nm (v :: s) = if v.1 = nm then some v.2 else lookS nm s := by
  unfold lookS
  rw [findS]
  split <;> rfl
theorem nameK_eq (c : Ck) (s : Scp) (nm : ByteArray) (pos : Int) : nameK c s nm pos = match lookS nm s with
    | some k => .ok (some k)
    | none => match means c.ts nm with
      | [] => .error (40, pos)
      | [k] => .ok (some k)
      | _ => .error (44, pos) := by
  unfold nameK lookS
  cases findS nm s with
  | nil => rfl
  | cons v r => rfl
theorem exam_congr {c c' : Ck} {s s' : Scp} {inn : Bool} {n n' : Nd} (hop : n'.op = n.op) (hnm : n'.name = n.name) (hn : n'.n = n.n) (hp : n'.pos = n.pos)
    (ht : timeOfL c' n.op n.name = timeOfL c n.op n.name) (h1 : n.op = 1 → nameK c s n.name n.pos = nameK c' s' n.name n.pos) (hpr : c'.ts.preds = c.ts.preds) (hcal : calleeL c' n.name = calleeL c n.name)
    (hns : c'.ts.sorts.length = c.ts.sorts.length) (hlen : n'.kids.length = n.kids.length)
    (hA : n.op = 47 → ∀ ps, examA c s n.pos ps n.kids = examA c' s' n.pos ps n'.kids)
    (hB : (n.op = 15 ∨ n.op = 45 ∨ n.op = 46) → ∀ inn, examB c s inn n.name n.pos n.kids = examB c' s' inn n.name n.pos n'.kids)
    (hL : ¬ n.op = 1 → ¬ n.op = 47 → ¬ (n.op = 15 ∨ n.op = 45 ∨ n.op = 46) → ∀ inn, examL c s inn n.kids = examL c' s' inn n'.kids) : exam c s inn n = exam c' s' inn n' := by
  rw [exam_eq, exam_eq, hop, hnm, hn, hp, ht, hpr, hcal, hns, hlen]
  by_cases a : (inn && timeOfL c n.op n.name) = true
  · rw [if_pos a, if_pos a]
  rw [if_neg a, if_neg a]
  by_cases b : n.op = 1
  · rw [if_pos b, if_pos b]; exact h1 b
  rw [if_neg b, if_neg b]
  by_cases d : n.op = 47
  · rw [if_pos d, if_pos d]
    simp only [hA d]
  rw [if_neg d, if_neg d]
  by_cases e : n.op = 15 ∨ n.op = 45 ∨ n.op = 46
  · rw [if_pos e, if_pos e]; exact hB e _
  rw [if_neg e, if_neg e, hL b d e]
theorem examL_map {c c' : Ck} {s s' : Scp} {inn : Bool} (f : Nd → Nd) : ∀ {ks : List Nd}, (∀ k, k ∈ ks → exam c s inn k = exam c' s' inn (f k)) → examL c s inn ks = examL c' s' inn (ks.map f)
  | [], _ => rfl
  | k :: ks, h => by
    simp only [List.map_cons, examL]
    rw [h k (List.mem_cons_self ..), examL_map f fun k' hk => h k' (List.mem_cons_of_mem _ hk)]
theorem examA_map {c c' : Ck} {s s' : Scp} {pos : Int} (f : Nd → Nd) : ∀ {ks : List Nd} {ps : List (ByteArray × Int)}, (∀ k, k ∈ ks → exam c s true k = exam c' s' true (f k)) → examA c s pos ps ks = examA c' s' pos ps (ks.map f)
  | [], ps, _ => by cases ps <;> rfl
  | k :: ks, [], _ => rfl
  | k :: ks, p :: ps, h => by
    simp only [List.map_cons, examA]
    rw [h k (List.mem_cons_self ..), examA_map f (ps := ps) fun k' hk => h k' (List.mem_cons_of_mem _ hk)]
theorem examL_same {c c' : Ck} {s s' : Scp} {inn : Bool} {ks : List Nd} (h : ∀ k, k ∈ ks → exam c s inn k = exam c' s' inn k) : examL c s inn ks = examL c' s' inn ks := by
  have := examL_map (c := c) (c' := c') (s := s) (s' := s') (inn := inn) id (ks := ks) h
  rwa [List.map_id] at this
theorem examA_same {c c' : Ck} {s s' : Scp} {pos : Int} {ks : List Nd} {ps : List (ByteArray × Int)} (h : ∀ k, k ∈ ks → exam c s true k = exam c' s' true k) : examA c s pos ps ks = examA c' s' pos ps ks := by
  have := examA_map (c := c) (c' := c') (s := s) (s' := s') (pos := pos) id (ks := ks) (ps := ps) h
  rwa [List.map_id] at this
structure SameC (c c' : Ck) : Prop where
  preds : c'.ts.preds = c.ts.preds
  sorts : c'.ts.sorts = c.ts.sorts
  fields : c'.ts.fields = c.ts.fields
  calls : c'.calls = c.calls
  timed : c'.timed = c.timed
theorem SameC.refl (c : Ck) : SameC c c := ⟨rfl, rfl, rfl, rfl, rfl⟩
theorem SameC.callee {c c' : Ck} (h : SameC c c') (nm : ByteArray) : calleeL c' nm = calleeL c nm := by
  unfold calleeL; rw [h.preds, h.calls]
theorem SameC.time {c c' : Ck} (h : SameC c c') (op : Int) (nm : ByteArray) : timeOfL c' op nm = timeOfL c op nm := by
  unfold timeOfL; rw [h.callee, h.timed]
theorem SameC.means {c c' : Ck} (h : SameC c c') (nm : ByteArray) : means c'.ts nm = means c.ts nm := by
  unfold P1.means; rw [h.fields, h.sorts]
theorem exam_agree {c c' : Ck} (hc : SameC c c') : ∀ (m : Nat) (n : Nd) (s s' : Scp) (inn : Bool), szN n ≤ m → (∀ nm, usesN nm n → lookS nm s = lookS nm s') → exam c s inn n = exam c' s' inn n
  | 0, n, _, _, _, hm, _ => by obtain ⟨op, nm, i, ks, p⟩ := n; simp [szN] at hm
  | m + 1, n, s, s', inn, hm, h => by
    have hk : ∀ k, k ∈ n.kids → ∀ (s s' : Scp) (inn : Bool), (∀ nm, usesN nm k → lookS nm s = lookS nm s') → exam c s inn k = exam c' s' inn k := fun k hk s s' inn hs =>
      exam_agree hc m k s s' inn (by have := kid_lt hk; omega) hs
    have hu : ∀ k, k ∈ n.kids → ∀ nm, usesN nm k → lookS nm s = lookS nm s' := fun k hk nm hn => h nm (uses_kid hk hn)
    refine exam_congr rfl rfl rfl rfl (hc.time _ _) (fun _ => ?_) hc.preds (hc.callee _) (by rw [hc.sorts]) rfl (fun _ ps => examA_same fun k hkk => hk k hkk s s' true (hu k hkk)) (fun _ inn => ?_) (fun _ _ _ inn => examL_same fun k hkk => hk k hkk s s' inn (hu k hkk))
    · rw [nameK_eq, nameK_eq, h _ (uses_self n), hc.means]
    · cases hks : n.kids with
      | nil => rfl
      | cons k ks =>
        have hmem : ∀ x, x ∈ k :: ks → x ∈ n.kids := fun x hx => by rw [hks]; exact hx
        simp only [examB]
        rw [hk k (hmem k (List.mem_cons_self ..)) s s' inn (hu k (hmem k (List.mem_cons_self ..)))]
        have hr : ∀ a, examL c ((n.name, a) :: s) inn ks = examL c' ((n.name, a) :: s') inn ks := fun a => examL_same fun x hx => by
          have hx' := hmem x (List.mem_cons_of_mem _ hx)
          refine hk x hx' _ _ inn fun nm hnm => ?_
          rw [lookS_cons, lookS_cons, hu x hx' nm hnm]
        simp only [hr]
def wf (ts : TS) (fa : List (ByteArray × Nd)) : TS := ⟨ts.sorts, ts.fields, ts.preds, fa⟩
theorem tempL_same {c c' : Ck} (hc : SameC c c') : ∀ (m : Nat) (n : Nd), szN n ≤ m → tempL c' n = tempL c n
  | 0, n, hm => by obtain ⟨op, nm, i, ks, p⟩ := n; simp [szN] at hm
  | m + 1, .mk op nm i ks p, hm => by
    simp only [tempL, hc.time]
    congr 1
    have : ∀ l : List Nd, (∀ k, k ∈ l → k ∈ ks) → tempLs c' l = tempLs c l := by
      intro l
      induction l with
      | nil => intro _; rfl
      | cons k l ih =>
        intro hl
        simp only [tempLs]
        rw [ih fun x hx => hl x (List.mem_cons_of_mem _ hx), tempL_same hc m k (by
          have := kid_lt (n := .mk op nm i ks p) (k := k) (hl k (List.mem_cons_self ..))
          omega)]
    exact this ks fun k hk => hk
theorem tmsL_wf (ts : TS) (fa : List (ByteArray × Nd)) : ∀ k, tmsL (wf ts fa) k = tmsL ts k
  | 0 => rfl
  | k + 1 => by
    simp only [tmsL, tmsL_wf ts fa k]
    show tmsL ts k ++ (match ts.preds[k]? with | some p => [tempL ⟨wf ts fa, k, tmsL ts k⟩ p.body] | none => []) = _
    cases ts.preds[k]? with
    | none => rfl
    | some p =>
      simp only
      rw [tempL_same (c := ⟨ts, k, tmsL ts k⟩) (c' := ⟨wf ts fa, k, tmsL ts k⟩) ⟨rfl, rfl, rfl, rfl, rfl⟩ (szN p.body) p.body (Nat.le_refl _)]
theorem sameC_wf (ts : TS) (fa : List (ByteArray × Nd)) (k : Nat) : SameC (mkCk ts k) (mkCk (wf ts fa) k) := ⟨rfl, rfl, rfl, rfl, tmsL_wf ts fa k⟩
theorem formK_wf (ts : TS) (fa : List (ByteArray × Nd)) (k : Nat) (env : List (ByteArray × Int)) (n : Nd) : formK (mkCk (wf ts fa) k) env n = formK (mkCk ts k) env n := by
  unfold formK
  rw [exam_agree (sameC_wf ts fa k) (szN n) n _ _ _ (Nat.le_refl _) fun nm _ => rfl]
theorem checkF_wf (ts : TS) (fa : List (ByteArray × Nd)) (env : List (ByteArray × Int)) (n : Nd) : checkF (wf ts fa) env n = checkF ts env n := formK_wf ts fa _ env n
theorem repL_get' {α : Type} (eqv : α → α → Bool) (l : List α) (i : Nat) : (repL eqv l)[i]? = (l[i]?).map fun x => (l.take i).any fun y => eqv x y := by
  by_cases h : i < l.length
  · rw [repL_get eqv l h, List.getElem?_eq_getElem h]; rfl
  · rw [List.getElem?_eq_none (by rw [repL_len]; omega), List.getElem?_eq_none (by omega)]; rfl
theorem repB_eq {α : Type} (eqv : α → α → Bool) (l : List α) (i : Nat) : repB eqv l i = match l[i]? with | some x => [(l.take i).any fun y => eqv x y] | none => [] := by
  unfold repB
  rw [List.take_add_one, repL_get', List.drop_append]
  by_cases h : i < l.length
  · rw [List.getElem?_eq_getElem h, List.length_take, repL_len, Nat.min_eq_left (by omega), List.drop_of_length_le (by simp; omega)]
    simp
  · rw [List.getElem?_eq_none (by omega), List.drop_of_length_le (by simp; omega)]
    simp
theorem repB_snoc {α : Type} (eqv : α → α → Bool) (l : List α) (x : α) (i : Nat) (hi : i < l.length) : repB eqv (l ++ [x]) i = repB eqv l i := by
  rw [repB_eq, repB_eq, List.getElem?_append_left hi, List.take_append_of_le_length (by omega)]
theorem flatMap_same {α β : Type} {f g : α → List β} : ∀ {l : List α}, (∀ x, x ∈ l → f x = g x) → l.flatMap f = l.flatMap g
  | [], _ => rfl
  | x :: l, h => by rw [List.flatMap_cons, List.flatMap_cons, h x (List.mem_cons_self ..), flatMap_same fun y hy => h y (List.mem_cons_of_mem _ hy)]
theorem factD_wf (ts : TS) (fa fb : List (ByteArray × Nd)) (i : Nat) : factD (wf ts fb) fa i = factD ts fa i := by
  unfold factD
  cases fa[i]? with
  | none => rfl
  | some f => simp only [checkF_wf]
theorem predD_wf (ts : TS) (fa : List (ByteArray × Nd)) (i : Nat) : predD (wf ts fa) i = predD ts i := by
  unfold predD
  show (match ts.preds[i]? with | some p => _ | none => _) = _
  cases ts.preds[i]? with
  | none => rfl
  | some p => simp only [formK_wf]; rfl
theorem checkL_fact (ts : TS) (nm : ByteArray) (n : Nd) (h : ∀ f, f ∈ ts.facts → f.1 ≠ nm) : checkL (wf ts (ts.facts ++ [(nm, n)])) = checkL ts ++ rp (checkF ts [] n) := by
  have e1 : (List.range (ts.facts ++ [(nm, n)]).length).flatMap (factD (wf ts (ts.facts ++ [(nm, n)])) (ts.facts ++ [(nm, n)])) = (List.range ts.facts.length).flatMap (factD ts ts.facts) ++ rp (checkF ts [] n) := by
    rw [List.length_append, List.length_singleton, List.range_succ, List.flatMap_append]
    congr 1
    · refine flatMap_same fun i hi => ?_
      rw [List.mem_range] at hi
      rw [factD_wf]
      unfold factD
      rw [List.getElem?_append_left hi, repB_snoc _ _ _ _ hi]
    · simp only [List.flatMap_cons, List.flatMap_nil, List.append_nil, factD_wf]
      unfold factD
      rw [repB_eq, List.getElem?_append_right (Nat.le_refl _), Nat.sub_self]
      simp only [List.getElem?_cons_zero]
      have : ((ts.facts ++ [(nm, n)]).take ts.facts.length).any (fun y => decide (nm = y.1)) = false := by
        rw [List.take_append_of_le_length (Nat.le_refl _), List.take_length, List.any_eq_false]
        intro f hf
        simp only [decide_eq_true_eq]
        exact fun e => h f hf e.symm
      rw [this]
      simp [dups]
  unfold checkL
  show _ ++ (_ ++ ((List.range ts.preds.length).flatMap (predD (wf ts (ts.facts ++ [(nm, n)]))) ++ (List.range (ts.facts ++ [(nm, n)]).length).flatMap (factD (wf ts (ts.facts ++ [(nm, n)])) (ts.facts ++ [(nm, n)])))) = _
  rw [e1, show predD (wf ts (ts.facts ++ [(nm, n)])) = predD ts from funext fun i => predD_wf ts _ i]
  simp only [List.append_assoc]
  rfl
theorem look_fold (nm : ByteArray) : ∀ (l : List (ByteArray × Int)) (s s' : Scp), (lookS nm s = lookS nm s' ∨ ∃ p, p ∈ l ∧ p.1 = nm) → lookS nm (l.foldl (fun s p => (p.1, kOf [p.2]) :: s) s) = lookS nm (l.foldl (fun s p => (p.1, kOf [p.2]) :: s) s')
  | [], s, s', h => h.elim id fun ⟨p, hp, _⟩ => by simp at hp
  | a :: l, s, s', h => by
    rw [List.foldl_cons, List.foldl_cons]
    refine look_fold nm l _ _ ?_
    by_cases ha : a.1 = nm
    · exact .inl (by rw [lookS_cons, lookS_cons, if_pos ha, if_pos ha])
    · rcases h with h | ⟨p, hp, he⟩
      · exact .inl (by rw [lookS_cons, lookS_cons, if_neg ha, if_neg ha, h])
      · rcases List.mem_cons.1 hp with rfl | hp
        · exact absurd he ha
        · exact .inr ⟨p, hp, he⟩
theorem bind_more {env : List (ByteArray × Int)} {k : Nat} {x : ByteArray × Int} {n : Nd} (h : usesN x.1 n → ∃ p, p ∈ env.drop k ∧ p.1 = x.1) : ∀ nm, usesN nm n → lookS nm (bindL env) = lookS nm (bindL (env.take k ++ x :: env.drop k)) := by
  intro nm hn
  unfold bindL
  rw [List.foldl_append, List.foldl_cons]
  conv => lhs; rw [← List.take_append_drop k env, List.foldl_append]
  refine look_fold nm _ _ _ ?_
  by_cases hx : x.1 = nm
  · subst hx; exact .inr (h hn)
  · exact .inl (by rw [lookS_cons, if_neg hx])
theorem unused_check (ts : TS) {env : List (ByteArray × Int)} {k : Nat} {x : ByteArray × Int} {n : Nd} (h : usesN x.1 n → ∃ p, p ∈ env.drop k ∧ p.1 = x.1) :
    checkF ts env n = checkF ts (env.take k ++ x :: env.drop k) n ∧ typeK ts env n = typeK ts (env.take k ++ x :: env.drop k) n := by
  have := exam_agree (.refl (mkCk ts ts.preds.length)) (szN n) n _ _ false (Nat.le_refl _) (bind_more h)
  constructor
  · unfold checkF formK; rw [this]
  · unfold typeK; rw [this]
def binB (op : Int) : Bool := decide (op = 15) || decide (op = 45) || decide (op = 46)
mutual
def renN (a b : ByteArray) : Nd → Nd
  | .mk op nm n ks p => if op = 1 ∧ nm = a then .mk op b n ks p else .mk op nm n (renNs a b (binB op && decide (nm = a)) 0 ks) p
def renNs (a b : ByteArray) (q : Bool) : Nat → List Nd → List Nd
  | _, [] => []
  | i, k :: ks => (if q = true ∧ i = 1 then k else renN a b k) :: renNs a b q (i + 1) ks
end
theorem renN_eq (a b : ByteArray) (n : Nd) : renN a b n = if n.op = 1 ∧ n.name = a then .mk n.op b n.n n.kids n.pos else .mk n.op n.name n.n (renNs a b (binB n.op && decide (n.name = a)) 0 n.kids) n.pos := by
  obtain ⟨op, nm, i, ks, p⟩ := n
  simp only [renN, Nd.op, Nd.name, Nd.n, Nd.kids, Nd.pos]
  rfl
theorem renNs_len (a b : ByteArray) (q : Bool) : ∀ (ks : List Nd) (i : Nat), (renNs a b q i ks).length = ks.length
  | [], _ => rfl
  | k :: ks, i => by simp only [renNs, List.length_cons, renNs_len a b q ks]
theorem renNs_map (a b : ByteArray) : ∀ (ks : List Nd) (i : Nat), renNs a b false i ks = ks.map (renN a b)
  | [], _ => rfl
  | k :: ks, i => by simp [renNs, renNs_map a b ks]
theorem exam_ren (c : Ck) (a b : ByteArray) (κ : Kd) : ∀ (m : Nat) (n : Nd) (s s' : Scp) (inn : Bool), szN n ≤ m → WfN n → ¬ usesN b n → lookS a s = some κ → lookS b s' = some κ → (∀ nm, nm ≠ a → nm ≠ b → lookS nm s = lookS nm s') →
    exam c s inn n = exam c s' inn (renN a b n)
  | 0, n, _, _, _, hm, _, _, _, _, _ => by obtain ⟨op, nm, i, ks, p⟩ := n; simp [szN] at hm
  | m + 1, n, s, s', inn, hm, hw, hb, h1, h2, h3 => by
    have hkb : ∀ k, k ∈ n.kids → ¬ usesN b k := fun k hk h => hb (uses_kid hk h)
    have ih : ∀ k, k ∈ n.kids → ∀ (s s' : Scp) (inn : Bool), lookS a s = some κ → lookS b s' = some κ → (∀ nm, nm ≠ a → nm ≠ b → lookS nm s = lookS nm s') → exam c s inn k = exam c s' inn (renN a b k) := fun k hk s s' inn h1 h2 h3 =>
      exam_ren c a b κ m k s s' inn (by have := kid_lt hk; omega) (hw.kid hk) (hkb k hk) h1 h2 h3
    have hnb : n.name ≠ b := fun e => hb (e ▸ uses_self n)
    rw [renN_eq]
    by_cases ha : n.op = 1 ∧ n.name = a
    · rw [if_pos ha]
      obtain ⟨op, nm, i, ks, p⟩ := n
      obtain ⟨rfl, rfl⟩ : op = 1 ∧ nm = a := ha
      have ht : ∀ nm, timeOfL c 1 nm = false := fun nm => by simp [timeOfL, timeOp]
      have e1 : exam c s inn (.mk 1 nm i ks p) = nameK c s nm p := by rw [exam_eq]; simp only [Nd.op, Nd.name, Nd.pos, ht, Bool.and_false, Bool.false_eq_true, if_false, if_true]
      have e2 : exam c s' inn (.mk 1 b i ks p) = nameK c s' b p := by rw [exam_eq]; simp only [Nd.op, Nd.name, Nd.pos, ht, Bool.and_false, Bool.false_eq_true, if_false, if_true]
      show exam c s inn (.mk 1 nm i ks p) = exam c s' inn (.mk 1 b i ks p)
      rw [e1, e2, nameK_eq, nameK_eq, h1, h2]
    · rw [if_neg ha]
      refine exam_congr (n' := .mk n.op n.name n.n (renNs a b (binB n.op && decide (n.name = a)) 0 n.kids) n.pos) rfl rfl rfl rfl rfl (fun ho => ?_) rfl rfl rfl (renNs_len ..) (fun ho ps => ?_) (fun ho inn => ?_) (fun _ n47 nb inn => ?_)
      · rw [nameK_eq, nameK_eq, h3 _ (fun e => ha ⟨ho, e⟩) hnb]
      · have : binB n.op = false := by simp [binB, ho]
        simp only [Nd.kids, this, Bool.false_and, renNs_map]
        exact examA_map _ fun k hk => ih k hk s s' true h1 h2 h3
      · have hsh := hw.shape
        have e : shp n.op n.kids.length = some [101, 102] := by
          unfold shp
          rw [if_neg (by omega), if_neg (by omega), if_neg (by omega), if_pos (by omega)]
        rw [e] at hsh
        simp only [Option.some.injEq] at hsh
        match hks : n.kids, hsh with
        | [k0, k1], _ =>
          have m0 : k0 ∈ n.kids := by rw [hks]; simp
          have m1 : k1 ∈ n.kids := by rw [hks]; simp
          have hbin : binB n.op = true := by simp [binB]; omega
          simp only [Nd.kids, hks, hbin, Bool.true_and, renNs, examB]
          rw [ih k0 m0 s s' inn h1 h2 h3]
          simp only [show ¬ (decide (n.name = a) = true ∧ (0 : Nat) = 1) by omega, if_false]
          by_cases hna : n.name = a
          · have hr : ∀ q, examL c ((n.name, q) :: s) inn [k1] = examL c ((n.name, q) :: s') inn [k1] := fun q => examL_same fun x hx => by
              rw [List.mem_singleton] at hx
              subst hx
              refine exam_agree (.refl c) (szN x) x _ _ inn (Nat.le_refl _) fun nm hnm => ?_
              rw [lookS_cons, lookS_cons]
              split
              · rfl
              · rename_i hne
                exact h3 nm (fun e => hne (by rw [e]; exact hna)) (fun e => hkb x m1 (e ▸ hnm))
            simp only [hr, decide_eq_true hna, true_and, Nat.zero_add, if_true]
          · have hr : ∀ q, examL c ((n.name, q) :: s) inn [k1] = examL c ((n.name, q) :: s') inn [renN a b k1] := fun q => examL_map (renN a b) (ks := [k1]) fun x hx => by
              rw [List.mem_singleton] at hx
              subst hx
              refine ih x m1 _ _ inn ?_ ?_ fun nm hn1 hn2 => ?_
              · rw [lookS_cons, if_neg hna]; exact h1
              · rw [lookS_cons, if_neg hnb]; exact h2
              · rw [lookS_cons, lookS_cons, h3 nm hn1 hn2]
            simp only [hr, decide_eq_false hna, Bool.false_eq_true, false_and, if_false]
        | [], hsh => simp at hsh
        | [_], hsh => simp at hsh
        | _ :: _ :: _ :: _, hsh => simp at hsh
      · have : binB n.op = false := by
          simp only [binB, Bool.or_eq_false_iff, decide_eq_false_iff_not]; omega
        simp only [Nd.kids, this, Bool.false_and, renNs_map]
        exact examL_map _ fun k hk => ih k hk s s' inn h1 h2 h3
theorem rename_check (ts : TS) {a b : ByteArray} {i : Int} {n : Nd} (hw : WfN n) (hb : ¬ usesN b n) : checkF ts [(a, i)] n = checkF ts [(b, i)] (renN a b n) ∧ typeK ts [(a, i)] n = typeK ts [(b, i)] (renN a b n) := by
  have h := exam_ren (mkCk ts ts.preds.length) a b (kOf [i]) (szN n) n [(a, kOf [i])] [(b, kOf [i])] false (Nat.le_refl _) hw hb (by rw [lookS_cons, if_pos rfl]) (by rw [lookS_cons, if_pos rfl]) (fun nm h1 h2 => by
    rw [lookS_cons, lookS_cons, if_neg (fun e => h1 e.symm), if_neg (fun e => h2 e.symm)])
  have ho : (renN a b n).op = n.op := by rw [renN_eq]; split <;> rfl
  have hp : (renN a b n).pos = n.pos := by rw [renN_eq]; split <;> rfl
  have e1 : bindL [(a, i)] = [(a, kOf [i])] := rfl
  have e2 : bindL [(b, i)] = [(b, kOf [i])] := rfl
  constructor
  · unfold checkF formK; rw [e1, e2, h, ho, hp]
  · unfold typeK; rw [e1, e2, h, ho]
theorem exam_conn (c : Ck) (s : Scp) (op : Int) (ks : List Nd) (ho : op = 34 ∨ (40 ≤ op ∧ op ≤ 44)) : exam c s false (ndOp op ks) = match examL c s false ks with | .error e => .error e | .ok _ => .ok none := by
  have e1 : ¬ op = 1 := by omega
  have e47 : ¬ op = 47 := by omega
  have eb : ¬ (op = 15 ∨ op = 45 ∨ op = 46) := by omega
  have e12 : decide (op = 12) = false := decide_eq_false (by omega)
  have e13 : decide (op = 13) = false := decide_eq_false (by omega)
  simp only [ndOp, exam, Bool.false_and, Bool.false_eq_true, if_false, Bool.false_or, e1, e47, eb, e12, e13]
  cases examL c s false ks with
  | error e => rfl
  | ok l =>
    simp only [applyK]
    rw [if_neg (by omega), if_neg (by omega), if_neg (by omega)]
    have h5 : ¬ op = 5 := by omega
    have h11 : ¬ (op = 11 ∨ op = 12 ∨ op = 13) := by omega
    have h6 : ¬ (op = 6 ∨ op = 14 ∨ op = 7 ∨ op = 8 ∨ op = 32 ∨ op = 33) := by omega
    have h9 : ¬ op = 9 := by omega
    have h10 : ¬ op = 10 := by omega
    match l with
    | [] => rfl
    | [none] => simp [h5]
    | [some a] => simp [h5, h11]
    | [some a, some b] => simp [h6, h9, h10]
    | [none, some b] => rfl
    | [some a, none] => rfl
    | [none, none] => rfl
    | a :: b :: c :: l => cases a <;> cases b <;> rfl
theorem check_not (ts : TS) (env : List (ByteArray × Int)) (a : Nd) (ha : 30 ≤ a.op) : checkF ts env (ndOp 40 [a]) = checkF ts env a := by
  unfold checkF formK
  rw [if_pos (by simp [ndOp, Nd.op]), if_pos ha, exam_conn _ _ 40 _ (by omega)]
  simp only [examL]
  cases exam (mkCk ts ts.preds.length) (bindL env) false a with
  | error e => rfl
  | ok k => rfl
theorem check_two (ts : TS) (env : List (ByteArray × Int)) (op : Int) (ho : 41 ≤ op ∧ op ≤ 44) (a b : Nd) (ha : 30 ≤ a.op) (hb : 30 ≤ b.op) :
    checkF ts env (ndOp op [a, b]) = if (checkF ts env a).1 ≠ 0 then checkF ts env a else checkF ts env b := by
  unfold checkF formK
  rw [if_pos (by simp only [ndOp, Nd.op]; omega), if_pos ha, if_pos hb, exam_conn _ _ op _ (by omega)]
  simp only [examL]
  cases h : exam (mkCk ts ts.preds.length) (bindL env) false a with
  | error e =>
    have := exam_err _ (szN a) a _ _ e (Nat.le_refl _) h
    simp [dgOf, this]
  | ok k =>
    cases exam (mkCk ts ts.preds.length) (bindL env) false b with
    | error e => simp [dgOf]
    | ok k => simp [dgOf]
end Go.Proofs.YtcfopdccdeeleaaGreatDoor.PA


namespace Go.Proofs.YtcfopdccdeeleaaGreatDoor.YZ
open Go Go.Ev Go.Proofs Go.Proofs.YtcfopdccdeeleaaGreatDoor YM YS YF P1 P2 Y1 Y2 Y3 Y4 Y5 Y6 Y7 Y8 Y9 Y10 Y11 Y12 Y13 Y14 Y15 Y16 YU YV YW YX
mutual
def depN : Nd → Int
  | .mk _ _ _ ks _ => depNs ks + 1
def depNs : List Nd → Int
  | [] => 0
  | k :: ks => max (depN k) (depNs ks)
end
mutual
theorem depN_nn : ∀ n : Nd, 0 ≤ depN n
  | .mk _ _ _ ks _ => by simp only [depN]; have := depNs_nn ks; omega
theorem depNs_nn : ∀ ks : List Nd, 0 ≤ depNs ks
  | [] => by simp [depNs]
  | k :: ks => by simp only [depNs]; have := depNs_nn ks; omega
end
theorem depN_eq (n : Nd) : depN n = depNs n.kids + 1 := by
  obtain ⟨op, nm, i, ks, p⟩ := n
  simp [depN, Nd.kids]
theorem depNs_mem {ks : List Nd} {k : Nd} (h : k ∈ ks) : depN k ≤ depNs ks := by
  induction ks with
  | nil => simp at h
  | cons a l ih =>
    simp only [depNs]
    rcases List.mem_cons.1 h with rfl | h
    · omega
    · have := ih h; omega
theorem depthU : ∀ (m : Nat) (n : Nd), szN n ≤ m → Small n → depN n ≤ 1000000 → SoundP Tryz.prog 72 [eNd n] (aI (depN n))
  | 0, n, hm, _, _ => by obtain ⟨op, nm, i, ks, p⟩ := n; simp [szN] at hm
  | m + 1, n, hm, hs, hd => by
    have ih : ∀ k, k ∈ n.kids → SoundP Tryz.prog 72 [eNd k] (aI (depN k)) := fun k hk =>
      depthU m k (by have := kid_lt hk; omega) (hs.kid hk) (by rw [depN_eq] at hd; have := depNs_mem hk; omega)
    rw [depN_eq] at hd ⊢
    have hlen := hs.len
    have hnn := depNs_nn n.kids
    generalize hD : depNs n.kids = D at *
    refine SoundP.of_sound (Sound.of_awp Tryz.call72 Tryz.func72 rfl (Nat.le_of_ble_eq_true (by kernel_rfl)) (by kernel_rfl) (pl := {}) ?_)
    simp [go_sem]
    refine LoopGo.upK n.kids.length (fun k st => ∃ d, st.tm 3 = aI d ∧ st.tm 7 = lNd n.kids ∧ st.tm 8 = aI n.kids.length ∧ st.tm 9 = aI k ∧ 0 ≤ d ∧ max d (depNs (n.kids.drop k)) = D) ?_ ?_
    · exact ⟨0, by simp [go_sem], by simp [go_sem], by simp [go_sem], by simp [go_sem], by omega, by simp only [List.drop_zero, hD]; omega⟩
    · rintro k st hk ⟨d, e3, e7, e8, e9, hd0, hI⟩
      by_cases hkl : k = n.kids.length
      · subst hkl
        rw [List.drop_length] at hI
        simp only [depNs] at hI
        have hdD : d = D := by omega
        subst hdD
        have w : IntKind.i64.wrap (d + 1) = d + 1 := wrap_i64 (by omega) (by omega)
        simp [go_sem, e3, e7, e8, e9, w]
        exact .hf _ (HF.sc _)
      · have hlt : k < n.kids.length := by omega
        have w1 : IntKind.i64.wrap ((k : Int) + 1) = (k : Int) + 1 := wrap_i64 (by omega) (by omega)
        rw [List.drop_eq_getElem_cons hlt] at hI
        simp only [depNs] at hI
        simp [go_sem, e3, e7, e8, e9, hlt, cNd_ones]
        refine CallStep.pure (ih n.kids[k] (List.getElem_mem hlt)) (.cons (.hf (hf_eNd _)) .nil) ?_
        simp [go_sem, e3, e7, e8, e9, w1]
        refine ⟨hlt, Keep.mk' ?_⟩
        refine ⟨if d < depN n.kids[k] then depN n.kids[k] else d, by simp [go_sem], by simp [go_sem, e7], by simp [go_sem, e8], by simp [go_sem], ?_, ?_⟩
        · have := depN_nn n.kids[k]
          split <;> omega
        · split <;> omega
mutual
def preN : Nd → List Nd
  | .mk op nm n ks p => .mk op nm n ks p :: preNs ks
def preNs : List Nd → List Nd
  | [] => []
  | k :: ks => preN k ++ preNs ks
end
theorem preN_eq (n : Nd) : preN n = n :: preNs n.kids := by
  obtain ⟨op, nm, i, ks, p⟩ := n
  simp [preN, Nd.kids]
theorem preNs_app (a b : List Nd) : preNs (a ++ b) = preNs a ++ preNs b := by
  induction a with
  | nil => rfl
  | cons x a ih => simp [preNs, ih]
theorem walkU {f : FuncId} {caps : List AV} (I : List Nd → Mu → Prop) (hp : ∀ v mu l, I v mu → I v (mu ++ l)) (hf : ∀ v k mu, I v mu → Sound Tryz.prog f (eNd k :: caps) mu fun e m => e = .ret (.tup []) ∧ I (v ++ [k]) m) :
    ∀ (m : Nat) (n : Nd), szN n ≤ m → Small n → ∀ (v : List Nd) (mu : Mu), I v mu → Sound Tryz.prog 66 [eNd n, .fn (.func f) [] caps] mu fun e m => e = .ret (.tup []) ∧ I (v ++ preN n) m
  | 0, n, hm, _, _, _, _ => by obtain ⟨op, nm, i, ks, p⟩ := n; simp [szN] at hm
  | m + 1, n, hm, hs, v, mu, hI => by
    have ih : ∀ k, k ∈ n.kids → ∀ v mu, I v mu → Sound Tryz.prog 66 [eNd k, .fn (.func f) [] caps] mu fun e m => e = .ret (.tup []) ∧ I (v ++ preN k) m := fun k hk v mu hI =>
      walkU I hp hf m k (by have := kid_lt hk; omega) (hs.kid hk) v mu hI
    have hlen := hs.len
    rw [preN_eq]
    refine Sound.of_awp Tryz.call66 Tryz.func66 rfl (Nat.le_of_ble_eq_true (by kernel_rfl)) (by kernel_rfl) (pl := {}) ?_
    simp [go_sem]
    refine CallStep.eff (hf v n mu hI) ?_ (by rintro r m ⟨e, _⟩; cases e)
    rintro r m ⟨e, hI1⟩
    cases e
    simp [go_sem]
    refine LoopGo.upK n.kids.length (fun k st => st.tm 1 = .fn (.func f) [] caps ∧ st.tm 10 = lNd n.kids ∧ st.tm 11 = aI n.kids.length ∧ st.tm 12 = aI k ∧ I (v ++ [n] ++ preNs (n.kids.take k)) st.mu) ?_ ?_
    · exact ⟨by simp [go_sem], by simp [go_sem], by simp [go_sem], by simp [go_sem], by simpa [go_sem, preNs] using hI1⟩
    · rintro k st hk ⟨e1, e10, e11, e12, hI2⟩
      by_cases hkl : k = n.kids.length
      · subst hkl
        rw [List.take_length] at hI2
        simp [go_sem, e1, e10, e11, e12]
        simpa using hI2
      · have hlt : k < n.kids.length := by omega
        have w1 : IntKind.i64.wrap ((k : Int) + 1) = (k : Int) + 1 := wrap_i64 (by omega) (by omega)
        simp [go_sem, e1, e10, e11, e12, hlt, cNd_ones]
        refine CallStep.eff0 (ih n.kids[k] (List.getElem_mem hlt) _ _ (hp _ _ _ hI2)) ?_ (by rintro r m ⟨e, _⟩; cases e)
        rintro r m ⟨e, hI3⟩
        cases e
        simp [go_sem, e1, e10, e11, e12, w1]
        refine ⟨hlt, Keep.mk' ?_⟩
        refine ⟨by simp [go_sem, e1], by simp [go_sem, e10], by simp [go_sem, e11], by simp [go_sem], ?_⟩
        have e : preNs (n.kids.take (k + 1)) = preNs (n.kids.take k) ++ preN n.kids[k] := by
          rw [List.take_add_one, List.getElem?_eq_getElem hlt, preNs_app]
          simp [preNs]
        rw [e, ← List.append_assoc]
        simpa [go_sem] using hI3
def setN (l : List ByteArray) (b : ByteArray) : List (ByteArray × Bool) → List (ByteArray × Bool) := fun es => setK b true es
abbrev eSet (es : List (ByteArray × Bool)) : List (AV × AV) := encK aS aB es
theorem updS {mu : Mu} {b : Nat} {es : List (ByteArray × Bool)} (hm : mu[b]? = some (.mp (eSet es))) (nm : ByteArray) :
    mapUpdateA Tryz.prog mu 122 (.mp b) (aS nm) (aB true) = some (mu.set b (.mp (eSet (setK nm true es)))) :=
  keyS.update (et := 4) (t := 122) (by simp [go_sem]) (mu := mu) (b := b) (venc := aB) (es := es) hm (k := nm) (v := true) trivial (fun _ _ => trivial)
theorem inline1U (ts : TS) (s : ISt) (tb : Nat) (c : Bool) (es : List (ByteArray × Bool)) (n : Nd) {mu : Mu} {xp cb xb : Nat} (h1 : mu[xp]? = some (.arr [.ptr xb 0])) (hx : mu[xb]? = some (.arr (cIn ts tb s))) (hc : mu[cb]? = some (.arr [aB c])) (ht : mu[tb]? = some (.mp (eSet es))) :
    Sound Tryz.prog 67 [eNd n, .ptr xp 0, .ptr cb 0] mu fun e m => e = .ret (.tup []) ∧ m = (mu.set tb (.mp (eSet (setK n.name true es)))).set cb (.arr [aB (c || decide (n.op = 47))]) := by
  refine Sound.of_awp Tryz.call67 Tryz.func67 rfl (Nat.le_of_ble_eq_true (by kernel_rfl)) (by kernel_rfl) (pl := {}) ?_
  have hcl : cb < mu.length := (List.getElem?_eq_some_iff.1 hc).1
  have htl : tb < mu.length := (List.getElem?_eq_some_iff.1 ht).1
  simp [go_sem, h1, hx, hc]
  refine DrawGo.intro (by kernel_rfl) ?_
  have hu := updS ht n.name
  simp [go_sem, h1, hx, hc]
  refine OptK.intro _ hu ?_
  have hne : tb ≠ cb := fun e => by rw [e, hc] at ht; cases ht
  generalize hN : Cell.mp (eSet (setK n.name true es)) = N at *
  have hcb : (mu.set tb N)[cb]? = some (.arr [aB c]) := by rw [List.getElem?_set_ne hne]; exact hc
  cases c
  · simp [go_sem, h1, hx, hcb]
    try rfl
  · simp [go_sem, h1, hx, hcb]
    try rfl
theorem inline2U (ts : TS) (s : ISt) (tb : Nat) (es : List (ByteArray × Bool)) (n : Nd) {mu : Mu} {xp xb : Nat} (h1 : mu[xp]? = some (.arr [.ptr xb 0])) (hx : mu[xb]? = some (.arr (cIn ts tb s))) (ht : mu[tb]? = some (.mp (eSet es))) :
    Sound Tryz.prog 68 [eNd n, .ptr xp 0] mu fun e m => e = .ret (.tup []) ∧ m = mu.set tb (.mp (eSet (setK n.name true es))) := by
  refine Sound.of_awp Tryz.call68 Tryz.func68 rfl (Nat.le_of_ble_eq_true (by kernel_rfl)) (by kernel_rfl) (pl := {}) ?_
  have htl : tb < mu.length := (List.getElem?_eq_some_iff.1 ht).1
  simp [go_sem, h1, hx]
  refine DrawGo.intro (by kernel_rfl) ?_
  have hu := updS ht n.name
  simp [go_sem, h1, hx]
  refine OptK.intro _ hu ?_
  simp [go_sem, h1, hx]
end Go.Proofs.YtcfopdccdeeleaaGreatDoor.YZ


namespace Go.Proofs.YtcfopdccdeeleaaGreatDoor.YA
open Go Go.Ev Go.Proofs Go.Proofs.YtcfopdccdeeleaaGreatDoor YM YS YF P1 P2 Y1 Y2 Y3 Y4 Y5 Y6 Y7 Y8 Y9 Y10 Y11 Y12 Y13 Y14 Y15 Y16 YU YV YW YX YZ
def vN (k : Int) : ByteArray := ⟨#[118]⟩ ++ itoaB k
theorem itoaB_size (k : Int) (h0 : -9223372036854775808 ≤ k) (h1 : k ≤ 9223372036854775807) : (itoaB k).size ≤ 21 := by
  have := Lib.itoa_length_le k h0 h1
  unfold itoaB
  simpa [ByteArray.size] using this
def freeN (ts : TS) (es : List (ByteArray × Bool)) (nm : ByteArray) : Bool := decide (getK nm es ≠ some true) && decide (means ts nm = [])
def freshI (ts : TS) (es : List (ByteArray × Bool)) : Nat → Int → Int
  | 0, k => k + 1
  | f + 1, k => if freeN ts es (vN (k + 1)) = true then k + 1 else freshI ts es f (k + 1)
theorem lookSet {mu : Mu} {tb : Nat} {es : List (ByteArray × Bool)} (ht : mu[tb]? = some (.mp (eSet es))) (nm : ByteArray) : lookupA Tryz.prog mu 122 (.mp tb) (aS nm) false = some (aB (decide (getK nm es = some true))) := by
  have := keyS.look (et := 4) (t := 122) (by simp [go_sem]) (mu := mu) (m := .mp tb) (venc := aB) (es := es) (by simp only [entriesOf, ht]) (k := nm) trivial (fun _ _ => trivial) (z := aB false) (by simp [go_sem]) false
  refine Eq.trans ?_ (this.trans ?_)
  · rfl
  · cases getK nm es with
    | none => rfl
    | some b => cases b <;> rfl
theorem set_same {mu : Mu} {b : Nat} {c : Cell} (h : mu[b]? = some c) : mu.set b c = mu := by
  apply List.ext_getElem?
  intro i
  by_cases e : b = i
  · subst e
    rw [List.getElem?_set_self (List.getElem?_eq_some_iff.1 h).1, h]
  · rw [List.getElem?_set_ne e]
theorem freshU (ts : TS) (h : okTS ts) (s : ISt) (F : Nat) (hs : 0 ≤ s.last ∧ s.last + F ≤ 1000000000) (tb : Nat) (es : List (ByteArray × Bool)) (hex : ∃ j : Nat, 1 ≤ j ∧ j ≤ F ∧ freeN ts es (vN (s.last + j)) = true) {mu : Mu} {xb : Nat} (hx : mu[xb]? = some (.arr (cIn ts tb s))) (ht : mu[tb]? = some (.mp (eSet es))) :
    Sound Tryz.prog 158 [.ptr xb 0] mu fun e m => e = .ret (aS (vN (freshI ts es F s.last))) ∧ m = mu.set xb (.arr (cIn ts tb ⟨freshI ts es F s.last, s.cost⟩)) := by
  refine Sound.of_awp Tryz.call158 Tryz.func158 rfl (Nat.le_of_ble_eq_true (by kernel_rfl)) (by kernel_rfl) (pl := {}) ?_
  have hxl : xb < mu.length := (List.getElem?_eq_some_iff.1 hx).1
  have hne : tb ≠ xb := fun e => by rw [e, hx] at ht; cases ht
  simp [go_sem]
  generalize hR : freshI ts es F s.last = R
  refine LoopGo.keep (fun m st => ∃ l : Int, 0 ≤ l ∧ l + m ≤ 1000000000 ∧ st.tm 0 = .ptr xb 0 ∧ st.mu = mu.set xb (.arr (cIn ts tb ⟨l, s.cost⟩)) ∧ freshI ts es m l = R ∧ ∃ j : Nat, 1 ≤ j ∧ j ≤ m ∧ freeN ts es (vN (l + j)) = true) F ?_ ?_
  · refine ⟨s.last, hs.1, hs.2, by simp [go_sem], ?_, hR, hex⟩
    simp only [go_sem, put_mu, st0]
    rw [show cIn ts tb ⟨s.last, s.cost⟩ = cIn ts tb s from rfl]
    exact (set_same hx).symm
  · rintro m st ⟨l, hl0, hlm, e0, hm, hI, j, hj1, hjm, hfr⟩
    obtain ⟨m, rfl⟩ : ∃ m', m = m' + 1 := ⟨m - 1, by omega⟩
    have w1 : IntKind.i64.wrap (l + 1) = l + 1 := wrap_i64 (by omega) (by omega)
    have hx1 : ∀ c, (mu.set xb c)[xb]? = some c := fun c => List.getElem?_set_self hxl
    have hss : ∀ c d, (mu.set xb c).set xb d = mu.set xb d := fun c d => List.set_set ..
    have ht1 : ∀ c, (mu.set xb c)[tb]? = some (.mp (eSet es)) := fun c => by rw [List.getElem?_set_ne (fun e => hne e.symm)]; exact ht
    have hsz := itoaB_size (l + 1) (by omega) (by omega)
    have hsz2 : 1 + (itoaB (l + 1)).size ≤ 9223372036854775807 := by omega
    simp [go_sem, e0, hm, hx, hx1, hss, w1]
    refine CallStep.pure (itoaU (l + 1) (by omega) (by omega)) (.cons (.hf (HF.sc _)) .nil) ?_
    simp [go_sem, e0, hx1, hss, hsz2]
    rw [show (⟨#[118]⟩ : ByteArray) ++ itoaB (l + 1) = vN (l + 1) from rfl]
    generalize hnm : vN (l + 1) = nm
    have hlk := fun c => lookSet (ht1 c) nm
    simp [go_sem] at hlk
    refine OptK.intro _ (hlk _) ?_
    have again : freeN ts es nm = false → freshI ts es m (l + 1) = R ∧ ∃ j : Nat, 1 ≤ j ∧ j ≤ m ∧ freeN ts es (vN (l + 1 + j)) = true := fun hn => by
      simp only [freshI, hnm, hn] at hI
      refine ⟨by simpa using hI, j - 1, ?_, by omega, ?_⟩
      · have : j ≠ 1 := fun e => by rw [e, show l + ((1 : Nat) : Int) = l + 1 by omega, hnm, hn] at hfr; cases hfr
        omega
      · rw [show l + 1 + ((j - 1 : Nat) : Int) = l + j by omega]; exact hfr
    by_cases hg : getK nm es = some true
    case pos =>
      obtain ⟨a1, a2⟩ := again (by simp [freeN, hg])
      simp [go_sem, e0, hx1, hss, hg]
      refine Keep.loop m (by omega) ⟨l + 1, by omega, by omega, by simp [go_sem, e0], by simp [go_sem], a1, a2⟩
    case neg =>
      simp [go_sem, e0, hx1, hss, hg]
      refine CallStep.pure (meansU ts h nm) (.cons (.hf (hf_eTS ts)) (.cons (.hf (HF.sc _)) .nil)) ?_
      by_cases hmn : means ts nm = []
      · have hR2 : R = l + 1 := by
          rw [← hI]
          simp [freshI, hnm, freeN, hg, hmn]
        subst hR2
        simp [go_sem, e0, hx1, hss, hmn]
        rw [hnm]
        try rfl
      · obtain ⟨a1, a2⟩ := again (by simp [freeN, hmn])
        simp [go_sem, e0, hx1, hss, hmn]
        refine Keep.loop m (by omega) ⟨l + 1, by omega, by omega, by simp [go_sem, e0], by simp [go_sem], a1, a2⟩
end Go.Proofs.YtcfopdccdeeleaaGreatDoor.YA


namespace Go.Proofs.YtcfopdccdeeleaaGreatDoor.YB
open Go Go.Ev Go.Proofs Go.Proofs.YtcfopdccdeeleaaGreatDoor YM YS YF P1 P2 Y1 Y2 Y3 Y4 Y5 Y6 Y7 Y8 Y9 Y10 Y11 Y12 Y13 Y14 Y15 Y16 YU YV YW YX YZ YA
def fuelN (ts : TS) (es : List (ByteArray × Bool)) : Nat := es.length + ts.fields.length + 3 * ts.sorts.length + 1
def renI (ts : TS) (es : List (ByteArray × Bool)) (env : IEnv) (nm : ByteArray) (body : Bool) (s : ISt) : (IEnv × ByteArray) × ISt :=
  if body = true ∨ means ts nm ≠ [] then
    ((setK nm ⟨none, 0, vN (freshI ts es (fuelN ts es) s.last)⟩ (delK nm env), vN (freshI ts es (fuelN ts es) s.last)), ⟨freshI ts es (fuelN ts es) s.last, s.cost⟩)
  else ((delK nm env, nm), s)
theorem setK_mem {κ α : Type} [DecidableEq κ] {k : κ} {v : α} : ∀ {es : List (κ × α)}, (es.map Prod.fst).Nodup → ∀ {x : κ × α}, x ∈ setK k v es ↔ x = (k, v) ∨ (x ∈ es ∧ x.1 ≠ k)
  | [], _, x => by simp [setK]
  | e :: es, h, x => by
    rw [List.map_cons, List.nodup_cons] at h
    unfold setK
    by_cases hk : k = e.1
    · rw [if_pos hk, List.mem_cons, List.mem_cons]
      constructor
      · rintro (h1 | h1)
        · exact .inl h1
        · exact .inr ⟨.inr h1, fun e1 => h.1 (List.mem_map.2 ⟨x, h1, by rw [e1, hk]⟩)⟩
      · rintro (h1 | ⟨h1 | h1, h2⟩)
        · exact .inl h1
        · exact absurd (by rw [h1, hk]) h2
        · exact .inr h1
    · rw [if_neg hk, List.mem_cons, List.mem_cons, setK_mem h.2]
      constructor
      · rintro (h1 | h1 | h1)
        · exact .inr ⟨.inl h1, fun e1 => hk (by rw [← e1, h1])⟩
        · exact .inl h1
        · exact .inr ⟨.inr h1.1, h1.2⟩
      · rintro (h1 | ⟨h1 | h1, h2⟩)
        · exact .inr (.inl h1)
        · exact .inl h1
        · exact .inr (.inr ⟨h1, h2⟩)
theorem cutM_keep {g : Nat → Bool} {m : Mu} {i : Nat} (h : g i = true) : (cutM g m 0)[i]? = m[i]? := by
  rw [cutM_get, Nat.zero_add]
  simp only [h, if_true]
  cases m[i]? <;> rfl
theorem enc_mem {es : IEnv} {x : AV × AV} : x ∈ encK aS eIV es ↔ ∃ y, y ∈ es ∧ (aS y.1, eIV y.2) = x := List.mem_map
theorem enc_nodup {es : IEnv} (h : (es.map Prod.fst).Nodup) : ((encK aS eIV es).map Prod.fst).Nodup := by
  have e : (encK aS eIV es).map Prod.fst = (es.map Prod.fst).map aS := by simp [encK]
  rw [e]
  exact List.pairwise_map.2 (h.imp fun hne e => hne (by cases e; rfl))
theorem rd_env {mu : Mu} {b : Nat} {es fs : IEnv} (hc : mu[b]? = some (.md (encK aS eIV es))) (h1 : (es.map Prod.fst).Nodup) (h2 : (fs.map Prod.fst).Nodup) (hm : ∀ x, x ∈ es ↔ x ∈ fs) : Rd mu (.mp b) (eEnv fs) := by
  refine Rd.mds hc (enc_nodup h1) (enc_nodup h2) (fun x => ?_) (fun x hx => ?_)
  · rw [enc_mem, enc_mem]
    exact ⟨fun ⟨y, h, e⟩ => ⟨y, (hm y).1 h, e⟩, fun ⟨y, h, e⟩ => ⟨y, (hm y).2 h, e⟩⟩
  · obtain ⟨y, _, rfl⟩ := enc_mem.1 hx
    exact ⟨HF.sc _, hf_eIV _⟩
theorem updE {mu : Mu} {b : Nat} {es : IEnv} (hm : mu[b]? = some (.mp (encK aS eIV es))) (nm : ByteArray) (v : IV) :
    mapUpdateA Tryz.prog mu 129 (.mp b) (aS nm) (eIV v) = some (mu.set b (.mp (encK aS eIV (setK nm v es)))) :=
  keyS.update (et := 181) (t := 129) (by simp [go_sem]) (mu := mu) (b := b) (venc := eIV) (es := es) hm (k := nm) (v := v) trivial (fun _ _ => trivial)
theorem updED {mu : Mu} {b : Nat} {es : IEnv} (hm : mu[b]? = some (.md (encK aS eIV es))) (nm : ByteArray) (v : IV) :
    mapUpdateA Tryz.prog mu 129 (.mp b) (aS nm) (eIV v) = some (mu.set b (.md (encK aS eIV (setK nm v es)))) :=
  keyS.updateD (et := 181) (t := 129) (by simp [go_sem]) (mu := mu) (b := b) (venc := eIV) (es := es) hm (k := nm) (v := v) trivial (fun _ _ => trivial)
structure But (xb : Nat) (mu m : Mu) : Prop where
  len : mu.length ≤ m.length
  same : ∀ i, i < mu.length → i ≠ xb → m[i]? = mu[i]?
theorem But.refl (xb : Nat) (mu : Mu) : But xb mu mu := ⟨Nat.le_refl _, fun _ _ _ => rfl⟩
theorem But.trans {xb : Nat} {a b c : Mu} (h : But xb a b) (k : But xb b c) : But xb a c := ⟨Nat.le_trans h.len k.len, fun i hi hn => (k.same i (Nat.lt_of_lt_of_le hi h.len) hn).trans (h.same i hi hn)⟩
theorem But.app (xb : Nat) (mu l : Mu) : But xb mu (mu ++ l) := ⟨by simp, fun i hi _ => List.getElem?_append_left hi⟩
theorem But.setX (xb : Nat) (mu : Mu) (c : Cell) : But xb mu (mu.set xb c) := ⟨by simp, fun i hi hn => List.getElem?_set_ne (fun e => hn e.symm)⟩
theorem But.setN {xb : Nat} {mu m : Mu} (h : But xb mu m) {j : Nat} (hj : mu.length ≤ j) (c : Cell) : But xb mu (m.set j c) := ⟨by simpa using h.len, fun i hi hn => by rw [List.getElem?_set_ne (by omega)]; exact h.same i hi hn⟩
theorem But.cut {xb : Nat} {mu m : Mu} (h : But xb mu m) {g : Nat → Bool} (hg : ∀ i, i < mu.length → g i = true) : But xb mu (cutM g m 0) := ⟨by rw [cutM_len]; exact h.len, fun i hi hn => by rw [cutM_keep (hg i hi)]; exact h.same i hi hn⟩
theorem one_aArg (a : Option Nd) : (aArg a).one = true := by cases a <;> rfl
theorem cells_aArg (a : Option Nd) : (aArg a).cells = [aArg a] := by cases a <;> rfl
theorem renameU (ts : TS) (h : okTS ts) (s : ISt) (es : List (ByteArray × Bool)) (hs : 0 ≤ s.last ∧ s.last + (fuelN ts es : Nat) ≤ 1000000000) (tb : Nat) (hex : ∃ j : Nat, 1 ≤ j ∧ j ≤ fuelN ts es ∧ freeN ts es (vN (s.last + j)) = true) (env : IEnv) (hk : (env.map Prod.fst).Nodup) (nm : ByteArray) (body : Bool)
    {mu : Mu} {xb : Nat} (hx : mu[xb]? = some (.arr (cIn ts tb s))) (ht : mu[tb]? = some (.mp (eSet es))) :
    Sound Tryz.prog 117 [.ptr xb 0, eEnv env, aS nm, aB body] mu fun e m => e = .ret (.tup [eEnv (renI ts es env nm body s).1.1, aS (renI ts es env nm body s).1.2]) ∧ But xb mu m ∧ m[xb]? = some (.arr (cIn ts tb (renI ts es env nm body s).2)) := by
  refine Sound.give ?_
  refine Sound.of_awp Tryz.call117 Tryz.func117 rfl (Nat.le_of_ble_eq_true (by kernel_rfl)) (by kernel_rfl) (pl := {}) ?_
  have hxl : xb < mu.length := (List.getElem?_eq_some_iff.1 hx).1
  have htl : tb < mu.length := (List.getElem?_eq_some_iff.1 ht).1
  have hne : tb ≠ xb := fun e => by rw [e, hx] at ht; cases ht
  simp [go_sem]
  obtain ⟨B, hB⟩ : ∃ B, B = encK aS eIV env := ⟨_, rfl⟩
  have hBl : B.length = env.length := by rw [hB]; simp
  rw [← hB]
  refine LoopGo.seen env.length (fun seen st => st.tm 0 = .ptr xb 0 ∧ st.tm 2 = aS nm ∧ st.tm 3 = aB body ∧ st.tm 10 = .mp mu.length ∧ st.tm 16 = .ptr (mu.length + 1) 0 ∧ But xb mu st.mu ∧ mu.length + 1 < st.mu.length ∧ st.mu[xb]? = mu[xb]? ∧ st.mu[mu.length + 1]? = some (.it B seen) ∧
    ∃ acc : IEnv, st.mu[mu.length]? = some (.mp (encK aS eIV acc)) ∧ (acc.map Prod.fst).Nodup ∧ ∀ x, x ∈ acc ↔ ∃ i, i ∈ seen ∧ env[i]? = some x) ?_ ?_
  · refine ⟨by simp [go_sem], by simp [go_sem], by simp [go_sem], by simp [go_sem], by simp [go_sem], ?_, ?_, ?_, by simp [go_sem], [], by simp [go_sem], by simp, by simp⟩
    · simpa [go_sem] using But.app xb mu _
    · simp [go_sem]
    · show (mu ++ [Cell.mp [], Cell.it B []])[xb]? = mu[xb]?
      rw [List.getElem?_append_left hxl]
  · rintro seen st hnd hlt ⟨e0, e2, e3, e10, e16, hbut, hl, hxs, hit, acc, hacc, hadup, hamem⟩
    simp [go_sem, e0, e2, e3, e10, e16]
    refine ⟨mu.length + 1, B, seen, rfl, hit, fun i e hi hns => ?_, fun hall => ?_⟩
    · have hy : ∃ y, env[i]? = some y ∧ e = (aS y.1, eIV y.2) := by
        rw [hB, List.getElem?_map, Option.map_eq_some_iff] at hi
        obtain ⟨y, hy, rfl⟩ := hi
        exact ⟨y, hy, rfl⟩
      obtain ⟨⟨k, va, vz, vn⟩, hy, rfl⟩ := hy
      have hil : i < env.length := (List.getElem?_eq_some_iff.1 hy).1
      have hacc' : ∀ (c : Cell) (l : List Cell), (st.mu.set (mu.length + 1) c ++ l)[mu.length]? = some (.mp (encK aS eIV acc)) := fun c l => by
        rw [List.getElem?_append_left (by simp; omega), List.getElem?_set_ne (by omega)]; exact hacc
      have hu := fun c l => updE (hacc' c l) k ⟨va, vz, vn⟩
      simp [go_sem, e0, e2, e3, e10, e16, hit, hi, hl, hns, one_aArg, cells_aArg]
      refine OptK.intro _ (hu _ _) ?_
      generalize hM : List.set (st.mu.set (mu.length + 1) (Cell.it B (seen ++ [i])) ++ [Cell.arr [aArg va, aI vz, aS vn]]) mu.length (.mp (encK aS eIV (setK k ⟨va, vz, vn⟩ acc))) = M
      have hMl : M.length = st.mu.length + 1 := by rw [← hM]; simp
      have hMg : ∀ j, j < st.mu.length → j ≠ mu.length → j ≠ mu.length + 1 → M[j]? = st.mu[j]? := fun j h1 h2 h3 => by
        rw [← hM, List.getElem?_set_ne (by omega), List.getElem?_append_left (by simpa using h1), List.getElem?_set_ne (by omega)]
      have hM0 : M[mu.length]? = some (.mp (encK aS eIV (setK k ⟨va, vz, vn⟩ acc))) := by
        rw [← hM, List.getElem?_set_self (by simp; omega)]
      have hM1 : M[mu.length + 1]? = some (.it B (seen ++ [i])) := by
        rw [← hM, List.getElem?_set_ne (by omega), List.getElem?_append_left (by simpa using hl), List.getElem?_set_self hl]
      have hkacc : ∀ v, (k, v) ∈ acc → False := fun v hm => by
        obtain ⟨j, hj, he⟩ := (hamem _).1 hm
        have h1 : (env.map Prod.fst)[j]? = some k := by rw [List.getElem?_map, he]; rfl
        have h2 : (env.map Prod.fst)[i]? = some k := by rw [List.getElem?_map, hy]; rfl
        have hjl : j < (env.map Prod.fst).length := (List.getElem?_eq_some_iff.1 h1).1
        exact hns ((List.getElem?_inj hjl hk).1 (h1.trans h2.symm) ▸ hj)
      simp [go_sem, e0, e2, e3, e10, e16]
      refine ⟨i, hil, hns, Keep.mk' ?_⟩
      refine ⟨by simp [go_sem, e0], by simp [go_sem, e2], by simp [go_sem, e3], by simp [go_sem, e10], by simp [go_sem, e16], ?_, by simp only [go_sem, put_mu]; omega, ?_, by simpa [go_sem] using hM1, _, by simpa [go_sem] using hM0, setK_nodup hadup, fun x v => ?_⟩
      · simp only [go_sem, put_mu]
        exact ⟨by omega, fun j hj hn => by rw [hMg j (by omega) (by omega) (by omega)]; exact hbut.same j hj hn⟩
      · simp only [go_sem, put_mu]
        rw [hMg xb (by omega) (by omega) (by omega)]; exact hxs
      · rw [setK_mem hadup, hamem]
        constructor
        · rintro (e | ⟨⟨j, hj, he⟩, _⟩)
          · exact ⟨i, by simp, by rw [hy, e]⟩
          · exact ⟨j, by simp [hj], he⟩
        · rintro ⟨j, hj, he⟩
          rcases List.mem_append.1 hj with hj | hj
          · refine .inr ⟨⟨j, hj, he⟩, fun e => ?_⟩
            simp only at e
            subst e
            exact hkacc v ((hamem _).2 ⟨j, hj, he⟩)
          · rw [List.mem_singleton] at hj
            subst hj
            rw [hy] at he
            exact .inl (Option.some.inj he).symm
    · simp [go_sem, e0, e2, e3, e10, e16, hit]
      have hfull : ∀ x, x ∈ acc ↔ x ∈ env := fun x => by
        rw [hamem]
        constructor
        · rintro ⟨i, _, he⟩; exact List.mem_of_getElem? he
        · intro hx
          obtain ⟨i, he⟩ := List.mem_iff_getElem?.1 hx
          exact ⟨i, hall i (by rw [hBl]; exact (List.getElem?_eq_some_iff.1 he).1), he⟩
      refine keyS.delete (et := 181) (t := 129) (by simp [go_sem]) hacc trivial (fun _ _ => trivial) ?_
      have hdd := delK_nodup (k := nm) hadup
      have hdm : ∀ x, x ∈ delK nm acc ↔ x ∈ delK nm env := fun x => by rw [delK_mem hadup, delK_mem hk, hfull]
      have hxl' : mu.length < st.mu.length := by omega
      have hx' : ∀ c, (st.mu.set mu.length c)[xb]? = some (.arr (cIn ts tb s)) := fun c => by rw [List.getElem?_set_ne (by omega), hxs]; exact hx
      have ht' : ∀ c, (st.mu.set mu.length c)[tb]? = some (.mp (eSet es)) := fun c => by rw [List.getElem?_set_ne (by omega), hbut.same tb htl hne]; exact ht
      have hbut' : ∀ c, But xb mu (st.mu.set mu.length c) := fun c => hbut.setN (Nat.le_refl _) c
      have hD : ∀ c, (st.mu.set mu.length c)[mu.length]? = some c := fun c => List.getElem?_set_self hxl'
      generalize hM : st.mu.set mu.length (.md (encK aS eIV (delK nm acc))) = M
      have hxM : M[xb]? = some (.arr (cIn ts tb s)) := by rw [← hM]; exact hx' _
      have htM : M[tb]? = some (.mp (eSet es)) := by rw [← hM]; exact ht' _
      have hbM : But xb mu M := by rw [← hM]; exact hbut' _
      have hDM : M[mu.length]? = some (.md (encK aS eIV (delK nm acc))) := by rw [← hM]; exact hD _
      have hML : mu.length < M.length := (List.getElem?_eq_some_iff.1 hDM).1
      have fin : ∀ (m : Mu) (es1 fs : IEnv) (nm1 : ByteArray) (s1 : ISt), But xb mu m → m[mu.length]? = some (.md (encK aS eIV es1)) → (es1.map Prod.fst).Nodup → (fs.map Prod.fst).Nodup → (∀ x, x ∈ es1 ↔ x ∈ fs) → m[xb]? = some (.arr (cIn ts tb s1)) → ((fs, nm1), s1) = renI ts es env nm body s →
          ∃ (g : Nat → Bool) (x : AV), Gv m g (.tup [.mp mu.length, aS nm1]) x ∧ x = .tup [eEnv (renI ts es env nm body s).1.1, aS (renI ts es env nm body s).1.2] ∧ But xb mu (cutM (fun i => !g i) m 0) ∧ (cutM (fun i => !g i) m 0)[xb]? = some (.arr (cIn ts tb (renI ts es env nm body s).2)) := by
        intro m es1 fs nm1 s1 hb hd n1 n2 hm hxx e
        rw [← e]
        refine ⟨fun i => i == mu.length, .tup [eEnv fs, aS nm1], .rd _ _ (.tup _ _ rfl fun k x y hx hy => ?_), rfl, hb.cut fun i hi => by simp; omega, ?_⟩
        · match k with
          | 0 =>
            simp at hx hy; subst hx; subst hy
            exact rd_env (by rw [cutM_keep (by simp)]; exact hd) n1 n2 hm
          | 1 =>
            simp at hx hy; subst hx; subst hy
            exact .hf _ (HF.sc _)
          | k + 2 => simp at hx
        · rw [cutM_keep (by simp; omega)]; exact hxx
      have hout : ∀ (st' : St) (K : AExit → St → Prop), True := fun _ _ => trivial
      by_cases hb : body = true
      · subst hb
        simp [go_sem, e0, e2, e3, e10]
        refine CallStep.eff0 (freshU ts h s (fuelN ts es) hs tb es hex hxM htM) ?_ (by rintro r m ⟨e, _⟩; cases e)
        rintro r m ⟨e, rfl⟩
        cases e
        have hu := updED (mu := M.set xb (.arr (cIn ts tb ⟨freshI ts es (fuelN ts es) s.last, s.cost⟩))) (b := mu.length) (by rw [List.getElem?_set_ne (by omega)]; exact hDM) nm ⟨none, 0, vN (freshI ts es (fuelN ts es) s.last)⟩
        simp [go_sem, e0, e2, e3, e10]
        refine OptK.intro _ hu ?_
        simp [go_sem, e0, e2, e3, e10]
        refine (fin _ _ _ _ ⟨freshI ts es (fuelN ts es) s.last, s.cost⟩ ((hbM.trans (But.setX xb M _)).setN (Nat.le_refl _) _) (List.getElem?_set_self (by simpa using hML)) (setK_nodup hdd) (setK_nodup (delK_nodup hk)) (fun x => by rw [setK_mem hdd, setK_mem (delK_nodup hk), hdm]) (by rw [List.getElem?_set_ne (by omega), List.getElem?_set_self (by omega)]; rfl) ?_)
        simp [renI]
      · have hb : body = false := by simpa using hb
        subst hb
        simp [go_sem, e0, e2, e3, e10, hxM]
        refine CallStep.pure (meansU ts h nm) (.cons (.hf (hf_eTS ts)) (.cons (.hf (HF.sc _)) .nil)) ?_
        by_cases hmn : means ts nm = []
        · simp [go_sem, e0, e2, e3, e10, hxM, hmn]
          refine (fin M _ _ _ _ hbM hDM hdd (delK_nodup hk) hdm hxM ?_)
          simp [renI, hmn]
        · have hpos : 0 < (means ts nm).length := List.length_pos_iff.2 hmn
          simp [go_sem, e0, e2, e3, e10, hxM, hmn, hpos]
          refine CallStep.eff0 (freshU ts h s (fuelN ts es) hs tb es hex hxM htM) ?_ (by rintro r m ⟨e, _⟩; cases e)
          rintro r m ⟨e, rfl⟩
          cases e
          have hu := updED (mu := M.set xb (.arr (cIn ts tb ⟨freshI ts es (fuelN ts es) s.last, s.cost⟩))) (b := mu.length) (by rw [List.getElem?_set_ne (by omega)]; exact hDM) nm ⟨none, 0, vN (freshI ts es (fuelN ts es) s.last)⟩
          simp [go_sem, e0, e2, e3, e10]
          refine OptK.intro _ hu ?_
          simp [go_sem, e0, e2, e3, e10]
          refine (fin _ _ _ _ ⟨freshI ts es (fuelN ts es) s.last, s.cost⟩ ((hbM.trans (But.setX xb M _)).setN (Nat.le_refl _) _) (List.getElem?_set_self (by simpa using hML)) (setK_nodup hdd) (setK_nodup (delK_nodup hk)) (fun x => by rw [setK_mem hdd, setK_mem (delK_nodup hk), hdm]) (by rw [List.getElem?_set_ne (by omega), List.getElem?_set_self (by omega)]; rfl) ?_)
          simp [renI, hmn]
end Go.Proofs.YtcfopdccdeeleaaGreatDoor.YB


namespace Go.Proofs.YtcfopdccdeeleaaGreatDoor.YC
open Go Go.Ev Go.Proofs Go.Proofs.YtcfopdccdeeleaaGreatDoor YM P1 P2 Y1 Y2 Y3 Y4 Y5 Y9 YX YZ YA YB PA
abbrev XR (α : Type) := Except Dg (α × ISt)
def expAs (E : Nd → ISt → XR (Nd × Int)) : List (ByteArray × Int) → List Nd → IEnv → ISt → XR IEnv
  | p :: ps, k :: ks, own, s => match E k s with
    | .error e => .error e
    | .ok ((k', m), s') => expAs E ps ks (setK p.1 ⟨some k', m, ⟨#[]⟩⟩ own) s'
  | _, _, own, s => .ok (own, s)
def expKs (E : IEnv → Nd → ISt → XR (Nd × Int)) (R : IEnv → ByteArray → ISt → (IEnv × ByteArray) × ISt) (bin : Bool) : Nat → IEnv → ByteArray → List Nd → ISt → XR (ByteArray × List Nd × Int)
  | _, _, nm, [], s => .ok ((nm, [], 0), s)
  | i, env, nm, k :: ks, s =>
    let r := if bin = true ∧ i = 1 then R env nm s else ((env, nm), s)
    match E r.1.1 k r.2 with
    | .error e => .error e
    | .ok ((k', m), s') => match expKs E R bin (i + 1) r.1.1 r.1.2 ks s' with
      | .error e => .error e
      | .ok ((nm', ks', m'), s'') => .ok ((nm', k' :: ks', m + m'), s'')
def bindX {α β : Type} (q : XR α) (g : α → ISt → XR β) : XR β :=
  match q with
  | .error e => .error e
  | .ok (a, s) => g a s
theorem bindX_ok {α β : Type} {q : XR α} {g : α → ISt → XR β} {r : β × ISt} (h : bindX q g = .ok r) : ∃ a s, q = .ok (a, s) ∧ g a s = .ok r := by
  unfold bindX at h
  split at h
  · cases h
  · exact ⟨_, _, rfl, h⟩
def expI (ts : TS) (es : List (ByteArray × Bool)) : Nat → IEnv → Nd → Bool → ISt → XR (Nd × Int)
  | 0, _, _, _, _ => .error (2, 0)
  | f + 1, env, n, body, s =>
    if s.cost + 1 ≤ 4000 then
      if n.op = 1 then replI env n (payS 1 s)
      else if n.op = 47 then match ts.preds.find? fun p => decide (p.name = n.name) with
        | none => .error (2, 0)
        | some p => bindX (expAs (fun k s => expI ts es f env k body s) p.params n.kids [] (payS 1 s)) fun own s' => expI ts es f own p.body true s'
      else bindX (expKs (fun env k s => expI ts es f env k body s) (fun env nm s => renI ts es env nm body s) (binB n.op) 0 env n.name n.kids (payS 1 s)) fun r s' => .ok ((.mk n.op r.1 n.n r.2.1 n.pos, 1 + r.2.2), s')
    else .error (2, 0)
def CallsOk (ts : TS) (n : Nd) : Prop := ∀ x, x ∈ preN n → x.op = 47 → ∃ p, (ts.preds.find? fun p => decide (p.name = x.name)) = some p ∧ p.params.length = x.kids.length
theorem preNs_kid {ks : List Nd} {k x : Nd} (hk : k ∈ ks) (hx : x ∈ preN k) : x ∈ preNs ks := by
  induction ks with
  | nil => simp at hk
  | cons a l ih =>
    simp only [preNs, List.mem_append]
    rcases List.mem_cons.1 hk with rfl | hk
    · exact .inl hx
    · exact .inr (ih hk)
theorem preN_kid {n k x : Nd} (hk : k ∈ n.kids) (hx : x ∈ preN k) : x ∈ preN n := by
  rw [preN_eq]; exact List.mem_cons_of_mem _ (preNs_kid hk hx)
theorem preN_self (n : Nd) : n ∈ preN n := by rw [preN_eq]; exact List.mem_cons_self ..
theorem CallsOk.kid {ts : TS} {n k : Nd} (h : CallsOk ts n) (hk : k ∈ n.kids) : CallsOk ts k := fun x hx => h x (preN_kid hk hx)
def pot (F : Nat) (s : ISt) : Int := s.cost * F - s.last
structure StOk (F : Nat) (s : ISt) : Prop where
  l0 : 0 ≤ s.last
  c0 : 0 ≤ s.cost
  c1 : s.cost ≤ 4000
  p : 0 ≤ pot F s
theorem StOk.last {F : Nat} {s : ISt} (h : StOk F s) : s.last ≤ 4000 * F := by
  have h1 : s.cost * F ≤ 4000 * F := Int.mul_le_mul_of_nonneg_right h.c1 (by omega)
  have := h.p
  unfold pot at this
  omega
structure EnvOk (env : IEnv) : Prop where
  nd : (env.map Prod.fst).Nodup
  sz : ∀ e, e ∈ env → 0 ≤ e.2.size ∧ e.2.size ≤ 4000
theorem EnvOk.nil : EnvOk [] := ⟨by simp, fun e he => by simp at he⟩
theorem EnvOk.set {env : IEnv} (h : EnvOk env) {k : ByteArray} {v : IV} (hv : 0 ≤ v.size ∧ v.size ≤ 4000) : EnvOk (setK k v env) :=
  ⟨setK_nodup h.nd, fun e he => by
    rcases (setK_mem h.nd).1 he with rfl | ⟨he, _⟩
    · exact hv
    · exact h.sz e he⟩
theorem EnvOk.del {env : IEnv} (h : EnvOk env) {k : ByteArray} : EnvOk (delK k env) := ⟨delK_nodup h.nd, fun e he => h.sz e ((delK_mem h.nd).1 he).1⟩
theorem renI_env {ts : TS} {es : List (ByteArray × Bool)} {env : IEnv} {nm : ByteArray} {body : Bool} {s : ISt} (h : EnvOk env) : EnvOk (renI ts es env nm body s).1.1 := by
  unfold renI
  split
  · exact h.del.set ⟨by simp, by simp⟩
  · exact h.del
theorem freshI_le (ts : TS) (es : List (ByteArray × Bool)) : ∀ (f : Nat) (k : Int), k < freshI ts es f k ∧ freshI ts es f k ≤ k + f + 1
  | 0, k => by simp only [freshI]; omega
  | f + 1, k => by
    simp only [freshI]
    have := freshI_le ts es f (k + 1)
    split <;> omega
theorem freshI_free {ts : TS} {es : List (ByteArray × Bool)} : ∀ {f : Nat} {k : Int}, (∃ j : Nat, 1 ≤ j ∧ j ≤ f ∧ freeN ts es (vN (k + j)) = true) → freshI ts es f k ≤ k + f
  | 0, k, ⟨j, h1, h2, _⟩ => by omega
  | f + 1, k, ⟨j, h1, h2, h3⟩ => by
    simp only [freshI]
    split
    · omega
    · rename_i hn
      have hj : j ≠ 1 := fun e => by subst e; exact hn h3
      have := freshI_free (ts := ts) (es := es) (f := f) (k := k + 1) ⟨j - 1, by omega, by omega, by rw [show k + 1 + ((j - 1 : Nat) : Int) = k + j by omega]; exact h3⟩
      omega
def Free (ts : TS) (es : List (ByteArray × Bool)) : Prop := ∀ l : Int, 0 ≤ l → ∃ j : Nat, 1 ≤ j ∧ j ≤ fuelN ts es ∧ freeN ts es (vN (l + j)) = true
theorem renI_st {ts : TS} {es : List (ByteArray × Bool)} (hfr : Free ts es) {env : IEnv} {nm : ByteArray} {body : Bool} {s : ISt} (h0 : 0 ≤ s.last) : 0 ≤ (renI ts es env nm body s).2.last ∧ (renI ts es env nm body s).2.last ≤ s.last + (fuelN ts es : Nat) ∧ (renI ts es env nm body s).2.cost = s.cost := by
  unfold renI
  split
  · have h1 := freshI_le ts es (fuelN ts es) s.last
    have h2 := freshI_free (hfr s.last h0)
    refine ⟨?_, h2, rfl⟩
    show 0 ≤ freshI ts es (fuelN ts es) s.last
    omega
  · exact ⟨h0, by show s.last ≤ _; omega, rfl⟩
structure Gos (F : Nat) (s s' : ISt) (z : Int) : Prop where
  l0 : 0 ≤ s'.last
  c1 : s'.cost ≤ 4000
  z0 : 0 ≤ z
  cz : s.cost + z ≤ s'.cost
  p : pot F s ≤ pot F s'
theorem Gos.ok {F : Nat} {s s' : ISt} {z : Int} (g : Gos F s s' z) (h : StOk F s) : StOk F s' := ⟨g.l0, by have := g.cz; have := g.z0; have := h.c0; omega, g.c1, by have := g.p; have := h.p; omega⟩
theorem pot_pay (F : Nat) (s : ISt) (n : Int) : pot F (payS n s) = pot F s + n * F := by
  unfold pot payS
  simp only [Int.add_mul]; omega
theorem pay_go {F : Nat} {s : ISt} (h : StOk F s) {n : Int} (hn : 0 ≤ n) (hc : s.cost + n ≤ 4000) : Gos F s (payS n s) n :=
  ⟨h.l0, hc, hn, Int.le_refl _, by rw [pot_pay]; have : 0 ≤ n * (F : Int) := Int.mul_nonneg hn (by omega); omega⟩
theorem replI_go {F : Nat} {env : IEnv} {n n' : Nd} {s s' : ISt} {z : Int} (h : StOk F s) (he : EnvOk env) (h1 : s.cost + 1 ≤ 4000) (e : replI env n (payS 1 s) = .ok ((n', z), s')) : Gos F s s' z := by
  have hp := pay_go h (n := 1) (by omega) h1
  unfold replI at e
  cases hg : getK n.name env with
  | none => rw [hg] at e; cases e; exact hp
  | some v =>
    rw [hg] at e
    have hv := he.sz _ ((getK_mem he.nd).1 hg)
    obtain ⟨va, vz, vn⟩ := v
    cases va with
    | none => cases e; exact hp
    | some a =>
      simp only at e
      split at e
      · rename_i hc
        have hv' : 0 ≤ vz ∧ vz ≤ 4000 := hv
        cases e
        have g := pay_go (hp.ok h) hv'.1 hc
        exact ⟨g.l0, g.c1, hv'.1, by have := g.cz; have := hp.cz; omega, by have := g.p; have := hp.p; omega⟩
      · cases e
theorem expAs_go {F : Nat} {E : Nd → ISt → XR (Nd × Int)} : ∀ {ks : List Nd} {ps : List (ByteArray × Int)} {own own' : IEnv} {s s' : ISt}, (∀ k n' z s s', k ∈ ks → StOk F s → E k s = .ok ((n', z), s') → Gos F s s' z) → StOk F s → EnvOk own →
    expAs E ps ks own s = .ok (own', s') → EnvOk own' ∧ Gos F s s' 0
  | [], ps, own, own', s, s', _, h, ho, e => by
    have e : Except.ok (own, s) = (Except.ok (own', s') : XR IEnv) := by cases ps <;> exact e
    cases e
    exact ⟨ho, h.l0, h.c1, by omega, by omega, Int.le_refl _⟩
  | k :: ks, [], own, own', s, s', _, h, ho, e => by
    cases e
    exact ⟨ho, h.l0, h.c1, by omega, by omega, Int.le_refl _⟩
  | k :: ks, p :: ps, own, own', s, s', hE, h, ho, e => by
    simp only [expAs] at e
    split at e
    · cases e
    · rename_i k' m s1 h1
      have g := hE k k' m s s1 (List.mem_cons_self ..) h h1
      have hm : m ≤ 4000 := by have := g.cz; have := g.c1; have := h.c0; omega
      obtain ⟨h2, g2⟩ := expAs_go (fun k n' z s s' hk => hE k n' z s s' (List.mem_cons_of_mem _ hk)) (g.ok h) (ho.set (v := ⟨some k', m, ⟨#[]⟩⟩) ⟨g.z0, hm⟩) e
      exact ⟨h2, g2.l0, g2.c1, by omega, by have := g.cz; have := g.z0; have := g2.cz; omega, by have := g.p; have := g2.p; omega⟩
def dueN (F : Nat) (bin : Bool) (i : Nat) : Int := if bin = true ∧ i ≤ 1 then F else 0
theorem dueN_nn (F : Nat) (bin : Bool) (i : Nat) : 0 ≤ dueN F bin i := by unfold dueN; split <;> omega
theorem dueN_next {F : Nat} {bin : Bool} {i : Nat} (h : ¬ (bin = true ∧ i = 1)) : dueN F bin i = dueN F bin (i + 1) := by
  unfold dueN
  by_cases hbb : bin = true
  · by_cases h1 : i = 1
    · exact absurd ⟨hbb, h1⟩ h
    · by_cases h0 : i ≤ 1
      · rw [if_pos ⟨hbb, h0⟩, if_pos ⟨hbb, by omega⟩]
      · rw [if_neg (by omega), if_neg (by omega)]
  · rw [if_neg (fun h => hbb h.1), if_neg (fun h => hbb h.1)]
theorem expKs_go {F : Nat} {E : IEnv → Nd → ISt → XR (Nd × Int)} {R : IEnv → ByteArray → ISt → (IEnv × ByteArray) × ISt} {bin : Bool} (hR : ∀ env nm s, 0 ≤ s.last → EnvOk env → EnvOk (R env nm s).1.1 ∧ 0 ≤ (R env nm s).2.last ∧ (R env nm s).2.last ≤ s.last + (F : Int) ∧ (R env nm s).2.cost = s.cost) :
    ∀ {ks : List Nd} {i : Nat} {env : IEnv} {nm nm' : ByteArray} {s s' : ISt} {ks' : List Nd} {m : Int}, (∀ env k n' z s s', k ∈ ks → StOk F s → EnvOk env → E env k s = .ok ((n', z), s') → Gos F s s' z) → 0 ≤ s.last → 0 ≤ s.cost → s.cost ≤ 4000 → dueN F bin i ≤ pot F s → EnvOk env →
    expKs E R bin i env nm ks s = .ok ((nm', ks', m), s') → 0 ≤ s'.last ∧ s'.cost ≤ 4000 ∧ 0 ≤ m ∧ s.cost + m ≤ s'.cost ∧ pot F s - dueN F bin i ≤ pot F s'
  | [], i, env, nm, nm', s, s', ks', m, _, l0, c0, c1, hp, he, e => by
    cases e
    have := dueN_nn F bin i
    exact ⟨l0, c1, by omega, by omega, by omega⟩
  | k :: ks, i, env, nm, nm', s, s', ks', m, hE, l0, c0, c1, hp, he, e => by
    simp only [expKs] at e
    obtain ⟨r, hr⟩ : ∃ r, r = if bin = true ∧ i = 1 then R env nm s else ((env, nm), s) := ⟨_, rfl⟩
    rw [← hr] at e
    have hr4 : EnvOk r.1.1 ∧ 0 ≤ r.2.last ∧ r.2.cost = s.cost ∧ dueN F bin (i + 1) ≤ pot F r.2 ∧ pot F s - dueN F bin i ≤ pot F r.2 - dueN F bin (i + 1) := by
      by_cases hb : bin = true ∧ i = 1
      · rw [if_pos hb] at hr
        obtain ⟨a1, a2, a3, a4⟩ := hR env nm s l0 he
        have d1 : dueN F bin i = F := if_pos ⟨hb.1, by omega⟩
        have d2 : dueN F bin (i + 1) = 0 := if_neg (by omega)
        subst hr
        have hpp : pot F s - F ≤ pot F (R env nm s).2 := by unfold pot; rw [a4]; omega
        rw [d1] at hp
        rw [d1, d2]
        exact ⟨a1, a2, a4, by omega, by omega⟩
      · rw [if_neg hb] at hr
        subst hr
        have d' : dueN F bin i = dueN F bin (i + 1) ∨ (bin = true ∧ i = 1) := by
          unfold dueN
          by_cases hbb : bin = true
          · by_cases h1 : i = 1
            · exact .inr ⟨hbb, h1⟩
            · left
              by_cases h0 : i ≤ 1
              · rw [if_pos ⟨hbb, h0⟩, if_pos ⟨hbb, by omega⟩]
              · rw [if_neg (by omega), if_neg (by omega)]
          · left; rw [if_neg (fun h => hbb h.1), if_neg (fun h => hbb h.1)]
        have d'' : dueN F bin i = dueN F bin (i + 1) := d'.elim id fun h => absurd h hb
        exact ⟨he, l0, rfl, by show _ ≤ pot F s; omega, by show _ ≤ pot F s - _; omega⟩
    obtain ⟨b1, b2, b3, b4, b5⟩ := hr4
    split at e
    · cases e
    · rename_i k' m1 s1 h1
      have hst : StOk F r.2 := ⟨b2, by omega, by omega, by have := dueN_nn F bin (i + 1); omega⟩
      have g := hE r.1.1 k k' m1 r.2 s1 (List.mem_cons_self ..) hst b1 h1
      split at e
      · cases e
      · rename_i nm2 ks2 m2 s2 h2
        have := expKs_go hR (fun env k n' z s s' hk => hE env k n' z s s' (List.mem_cons_of_mem _ hk)) g.l0 (by have := g.cz; have := g.z0; omega) g.c1 (by have := g.p; omega) b1 h2
        obtain ⟨q1, q2, q3, q4, q5⟩ := this
        cases e
        have := g.cz
        have := g.z0
        have := g.p
        exact ⟨q1, q2, by omega, by omega, by omega⟩
theorem expI_go (ts : TS) {es : List (ByteArray × Bool)} (hfr : Free ts es) : ∀ (f : Nat) {env : IEnv} {n n' : Nd} {body : Bool} {s s' : ISt} {z : Int}, StOk (fuelN ts es) s → EnvOk env → expI ts es f env n body s = .ok ((n', z), s') → Gos (fuelN ts es) s s' z
  | 0, _, _, _, _, _, _, _, _, _, e => by cases e
  | f + 1, env, n, n', body, s, s', z, h, he, e => by
    simp only [expI] at e
    split at e
    · rename_i hc
      have hp := pay_go h (n := 1) (by omega) hc
      split at e
      · exact replI_go h he hc e
      · split at e
        · split at e
          · cases e
          · rename_i p _
            · obtain ⟨own, s1, h1, e⟩ := bindX_ok e
              obtain ⟨ho, g1⟩ := expAs_go (F := fuelN ts es) (fun k n' z s s' _ hs hE => expI_go ts hfr f hs he hE) (hp.ok h) .nil h1
              have g2 := expI_go ts hfr f (g1.ok (hp.ok h)) ho e
              exact ⟨g2.l0, g2.c1, g2.z0, by have := g2.cz; have := g1.cz; have := hp.cz; omega, by have := g2.p; have := g1.p; have := hp.p; omega⟩
        · · obtain ⟨⟨nm', ks', m⟩, s1, h1, e⟩ := bindX_ok e
            cases e
            have hd : dueN (fuelN ts es) (binB n.op) 0 ≤ pot (fuelN ts es) (payS 1 s) := by
              rw [pot_pay]; have := h.p; unfold dueN; split <;> omega
            have := expKs_go (F := fuelN ts es) (fun env nm s hl hv => ⟨renI_env hv, renI_st hfr hl⟩) (fun env k n' z s s' _ hs hv hE => expI_go ts hfr f hs hv hE) hp.l0 (by have := (hp.ok h).c0; exact this) hp.c1 hd he h1
            obtain ⟨q1, q2, q3, q4, q5⟩ := this
            have hd1 : dueN (fuelN ts es) (binB n.op) 0 ≤ (fuelN ts es : Nat) := by unfold dueN; split <;> omega
            rw [pot_pay] at q5
            have q3' : 0 ≤ (nm', ks', m).snd.snd := q3
            have q4' : (payS 1 s).cost + (nm', ks', m).snd.snd ≤ s'.cost := q4
            exact ⟨q1, q2, by omega, by have := hp.cz; omega, by omega⟩
    · cases e
end Go.Proofs.YtcfopdccdeeleaaGreatDoor.YC


namespace Go.Proofs.YtcfopdccdeeleaaGreatDoor.YD
open Go Go.Ev Go.Proofs Go.Proofs.YtcfopdccdeeleaaGreatDoor YM YS YF P1 P2 Y1 Y2 Y3 Y4 Y5 Y6 Y7 Y8 Y9 Y10 Y11 Y12 Y13 Y14 Y15 Y16 YU YV YW YX YZ YA YB PA YC
theorem expand1U (p : Pd) (n : Nd) : SoundP Tryz.prog 115 [.agg (cPd p), .ip (cNd n)] (aB (decide (p.name = n.name))) := by
  refine SoundP.of_sound (Sound.of_awp Tryz.call115 Tryz.func115 rfl (Nat.le_of_ble_eq_true (by kernel_rfl)) (by kernel_rfl) (pl := {}) ?_)
  by_cases h : p.name = n.name
  · simp [go_sem, h]
    exact .hf _ (HF.sc _)
  · simp [go_sem, h, str_ne h]
    exact .hf _ (HF.sc _)
def endE (ts : TS) (tb : Nat) (mu : Mu) (xb : Nat) (r : XR (Nd × Int)) (e : AEnd) (m : Mu) : Prop :=
  match r with
  | .ok ((n, k), s) => e = .ret (.tup [eNd n, aI k]) ∧ m[xb]? = some (.arr (cIn ts tb s)) ∧ But xb mu m
  | .error d => e = .pan (stopV d.1 d.2) ∧ But xb mu m
def IHE (ts : TS) (es : List (ByteArray × Bool)) (tb f : Nat) : Prop := ∀ (env : IEnv) (n : Nd) (body : Bool) (s : ISt) (mu : Mu) (xb : Nat), 4000 < s.cost + f → StOk (fuelN ts es) s → EnvOk env → WfN n → CallsOk ts n → mu[xb]? = some (.arr (cIn ts tb s)) → mu[tb]? = some (.mp (eSet es)) →
      Sound Tryz.prog 70 [.ptr xb 0, eEnv env, eNd n, aB body] mu (endE ts tb mu xb (expI ts es f env n body s))
structure M0 (ts : TS) (es : List (ByteArray × Bool)) (tb : Nat) (mu : Mu) (xb : Nat) (n : Nd) (s : ISt) (M : Mu) : Prop where
  len : M.length = mu.length + 2
  x : M[xb]? = some (.arr (cIn ts tb s))
  t : M[tb]? = some (.mp (eSet es))
  n : M[mu.length]? = some (.arr (cNd n))
  r : M[mu.length + 1]? = some (.arr [aI 0, aS ⟨#[]⟩, aI 0, .lst true [], aI 0])
  but : But xb mu M
theorem M0.of {ts : TS} {es : List (ByteArray × Bool)} {tb : Nat} {mu : Mu} {xb : Nat} {n : Nd} {s s' : ISt} (hx : mu[xb]? = some (.arr (cIn ts tb s))) (ht : mu[tb]? = some (.mp (eSet es))) :
    M0 ts es tb mu xb n s' ((mu ++ [Cell.arr (cNd n), Cell.arr [aI 0, aS ⟨#[]⟩, aI 0, .lst true [], aI 0]]).set xb (.arr (cIn ts tb s'))) := by
  have hxl : xb < mu.length := (List.getElem?_eq_some_iff.1 hx).1
  have htl : tb < mu.length := (List.getElem?_eq_some_iff.1 ht).1
  have hne : tb ≠ xb := fun e => by rw [e, hx] at ht; cases ht
  refine ⟨by simp, List.getElem?_set_self (by simp; omega), ?_, ?_, ?_, (But.app xb mu _).trans (But.setX xb _ _)⟩
  · rw [List.getElem?_set_ne (fun e => hne e.symm), List.getElem?_append_left htl]; exact ht
  · rw [List.getElem?_set_ne (by omega), List.getElem?_append_right (Nat.le_refl _)]; simp
  · rw [List.getElem?_set_ne (by omega), List.getElem?_append_right (by omega)]; simp
theorem expandN (ts : TS) (es : List (ByteArray × Bool)) (tb : Nat) (env : IEnv) (n : Nd) (body : Bool) (s : ISt) (mu : Mu) (xb : Nat) (hs : StOk (fuelN ts es) s) (he : EnvOk env) (hx : mu[xb]? = some (.arr (cIn ts tb s))) (ht : mu[tb]? = some (.mp (eSet es))) (hop : n.op = 1) :
    Sound Tryz.prog 70 [.ptr xb 0, eEnv env, eNd n, aB body] mu (endE ts tb mu xb (if s.cost + 1 ≤ 4000 then replI env n (payS 1 s) else .error (2, 0))) := by
  have hs0 := hs.c0
  have hs1 := hs.c1
  refine Sound.of_awp Tryz.call70 Tryz.func70 rfl (Nat.le_of_ble_eq_true (by kernel_rfl)) (by kernel_rfl) (pl := { mt := [6] }) ?_
  have hxl : xb < mu.length := (List.getElem?_eq_some_iff.1 hx).1
  simp [go_sem]
  refine CallStep.eff0 (payU ts tb s 1 ⟨by omega, by omega⟩ ⟨by omega, by omega⟩ (by rw [List.getElem?_append_left hxl]; exact hx)) ?_ ?_
  · rintro r m ⟨rfl, e⟩
    by_cases hc : s.cost + 1 ≤ 4000
    · rw [if_pos hc] at e ⊢
      cases e
      have hM := M0.of (s' := payS 1 s) (n := n) hx ht
      generalize hMe : (mu ++ [Cell.arr (cNd n), .arr [aI 0, aS ⟨#[]⟩, aI 0, .lst true [], aI 0]]).set xb (.arr (cIn ts tb (payS 1 s))) = M at *
      simp [go_sem, hM.n, hop]
      have hrep := replaceU ts tb (payS 1 s) ⟨by show _ ≤ s.cost + 1; omega, by show s.cost + 1 ≤ _; omega⟩ env he.nd (fun e hm => by have := he.sz e hm; omega) n hM.x
      generalize replI env n (payS 1 s) = Q at *
      have hMl := hM.len
      cases Q with
      | error d =>
        refine CallStep.eff0 hrep (by rintro r m ⟨e, _⟩; cases e) ?_
        rintro r m ⟨e, hmo, hml⟩
        cases e
        simp [go_sem]
        exact ⟨rfl, hM.but.trans ⟨hml, hmo⟩⟩
      | ok q =>
        obtain ⟨⟨n', k'⟩, s'⟩ := q
        refine CallStep.eff0 hrep ?_ (by rintro r m ⟨e, _⟩; cases e)
        rintro r m ⟨e, hmx, hmo, hml⟩
        cases e
        have hm1 : m[mu.length + 1]? = some (.arr [aI 0, aS ⟨#[]⟩, aI 0, .lst true [], aI 0]) := by rw [hmo _ (by omega) (by omega)]; exact hM.r
        have hml1 : mu.length + 1 < m.length := by omega
        have hset : ∀ c, (m.set (mu.length + 1) c)[mu.length + 1]? = some c := fun c => List.getElem?_set_self hml1
        simp [go_sem, hm1, hset, cNd_ones]
        exact ⟨rfl, by rw [List.getElem?_set_ne (by omega)]; exact hmx, (hM.but.trans ⟨hml, hmo⟩).setN (by omega) _⟩
    · rw [if_neg hc] at e; cases e
  · rintro r m ⟨rfl, e⟩
    by_cases hc : s.cost + 1 ≤ 4000
    · rw [if_pos hc] at e; cases e
    · rw [if_neg hc] at e ⊢
      cases e
      simp [go_sem]
      exact ⟨rfl, (But.app xb mu _).trans (But.setX xb _ _)⟩
theorem rd_cells {mu : Mu} {b : Nat} {cs : List AV} (hb : mu[b]? = some (.arr cs)) (h : ∀ c, c ∈ cs → HF c) : Rd mu (.ptr b 0) (.ip cs) :=
  .ptr b 0 cs cs hb (by simp) fun k x y hx hy => by
    rw [Nat.zero_add] at hx
    rw [hx] at hy; cases hy
    exact .hf _ (h _ (List.mem_of_getElem? hx))
abbrev AP := Nat × Int × Nd
abbrev eAP (a : AP) : AV := .agg [.ptr a.1 0, aI a.2.1, aS ⟨#[]⟩]
abbrev ivA (a : AP) : IV := ⟨some a.2.2, a.2.1, ⟨#[]⟩⟩
abbrev ownA (acc : List (ByteArray × AP)) : IEnv := acc.map fun e => (e.1, ivA e.2)
theorem setK_map {κ α β : Type} [DecidableEq κ] (g : α → β) (k : κ) (v : α) : ∀ es : List (κ × α), (setK k v es).map (fun e => (e.1, g e.2)) = setK k (g v) (es.map fun e => (e.1, g e.2))
  | [] => rfl
  | e :: es => by
    simp only [setK, List.map_cons]
    split
    · rfl
    · rw [List.map_cons, setK_map g k v es]
theorem updAP {mu : Mu} {b : Nat} {es : List (ByteArray × AP)} (hm : mu[b]? = some (.mp (encK aS eAP es))) (nm : ByteArray) (v : AP) :
    mapUpdateA Tryz.prog mu 129 (.mp b) (aS nm) (eAP v) = some (mu.set b (.mp (encK aS eAP (setK nm v es)))) :=
  keyS.update (et := 181) (t := 129) (by simp [go_sem]) (mu := mu) (b := b) (venc := eAP) (es := es) hm (k := nm) (v := v) trivial (fun _ _ => trivial)
theorem rd_own {mu : Mu} {b : Nat} {acc : List (ByteArray × AP)} (hb : mu[b]? = some (.mp (encK aS eAP acc))) (hn : (acc.map Prod.fst).Nodup) (ha : ∀ e, e ∈ acc → mu[e.2.1]? = some (.arr (cNd e.2.2.2))) : Rd mu (.mp b) (eEnv (ownA acc)) := by
  have hn' : ((ownA acc).map Prod.fst).Nodup := by
    have e : (ownA acc).map Prod.fst = acc.map Prod.fst := by simp [ownA]
    rw [e]; exact hn
  have get : ∀ (k : Nat) (x y : AV × AV), (encK aS eAP acc)[k]? = some x → (encK aS eIV (ownA acc))[k]? = some y → ∃ e, e ∈ acc ∧ x = (aS e.1, eAP e.2) ∧ y = (aS e.1, eIV (ivA e.2)) := fun k x y hx hy => by
    rw [List.getElem?_map, Option.map_eq_some_iff] at hx
    obtain ⟨e, he, rfl⟩ := hx
    rw [List.getElem?_map, List.getElem?_map, he] at hy
    simp only [Option.map_some, Option.some.injEq] at hy
    exact ⟨e, List.mem_of_getElem? he, rfl, hy.symm⟩
  refine .ims _ _ _ id id (PIx.refl _) (enc_nodup hn') (.mp b _ _ hb (by simp) (fun k x y hx hy => ?_) (fun k x y hx hy => ?_))
  · obtain ⟨e, he, rfl, rfl⟩ := get k x y hx hy
    exact .hf _ (HF.sc _)
  · obtain ⟨e, he, rfl, rfl⟩ := get k x y hx hy
    refine .agg _ _ rfl fun k x y hx hy => ?_
    match k with
    | 0 =>
      simp at hx hy; subst hx; subst hy
      exact rd_cells (ha e he) (hf_cNd _)
    | 1 => simp at hx hy; subst hx; subst hy; exact .hf _ (HF.sc _)
    | 2 => simp at hx hy; subst hx; subst hy; exact .hf _ (HF.sc _)
    | k + 3 => simp at hx
theorem find_idx {ps : List Pd} {g : Pd → Bool} {p : Pd} (h : ps.find? g = some p) : ∃ i, ∃ hi : i < ps.length, ps[i] = p ∧ idxI ps g = i := by
  rw [List.find?_eq_some_iff_getElem] at h
  obtain ⟨hg, i, hi, e, hj⟩ := h
  refine ⟨i, hi, e, idxI_at hi (by rw [e]; exact hg) fun j hjl hji => by simpa using hj j hji⟩
theorem expandC (ts : TS) (h : okTS ts) (hb : ∀ p, p ∈ ts.preds → WfN p.body ∧ CallsOk ts p.body) (es : List (ByteArray × Bool)) (hF : fuelN ts es ≤ 200000) (hfr : Free ts es) (tb f : Nat) (ih : IHE ts es tb f) (env : IEnv) (n : Nd) (body : Bool) (s : ISt) (mu : Mu) (xb : Nat)
    (hc : 4000 < s.cost + (f + 1 : Nat)) (hs : StOk (fuelN ts es) s) (he : EnvOk env) (hw : WfN n) (hcl : CallsOk ts n) (hx : mu[xb]? = some (.arr (cIn ts tb s))) (ht : mu[tb]? = some (.mp (eSet es))) (hop : n.op = 47) :
    Sound Tryz.prog 70 [.ptr xb 0, eEnv env, eNd n, aB body] mu (endE ts tb mu xb (expI ts es (f + 1) env n body s)) := by
  have hs0 := hs.c0
  have hs1 := hs.c1
  generalize hR : expI ts es (f + 1) env n body s = R
  simp only [expI, hop] at hR
  obtain ⟨p, hp, hplen⟩ := hcl n (preN_self n) hop
  rw [hp] at hR
  refine Sound.of_awp Tryz.call70 Tryz.func70 rfl (Nat.le_of_ble_eq_true (by kernel_rfl)) (by kernel_rfl) (pl := { mt := [6] }) ?_
  have hxl : xb < mu.length := (List.getElem?_eq_some_iff.1 hx).1
  have htl : tb < mu.length := (List.getElem?_eq_some_iff.1 ht).1
  simp [go_sem]
  refine CallStep.eff0 (payU ts tb s 1 ⟨by omega, by omega⟩ ⟨by omega, by omega⟩ (by rw [List.getElem?_append_left hxl]; exact hx)) ?_ ?_
  · rintro r m ⟨rfl, e⟩
    by_cases hcc : s.cost + 1 ≤ 4000
    · rw [if_pos hcc] at e hR
      cases e
      have hM := M0.of (s' := payS 1 s) (n := n) hx ht
      generalize hMe : (mu ++ [Cell.arr (cNd n), .arr [aI 0, aS ⟨#[]⟩, aI 0, .lst true [], aI 0]]).set xb (.arr (cIn ts tb (payS 1 s))) = M at *
      have hMl := hM.len
      simp [go_sem, hM.n, hop]
      refine DrawGo.fz (FzQ.one (b := mu.length) (d := 6) (x := .ip (cNd n)) ?_ ?_)
      · simp [go_sem]
        exact rd_cells (by rw [cutM_keep (by simp)]; exact hM.n) (hf_cNd n)
      have hM1x : (cutM (fun j => !(j == mu.length)) M 0)[xb]? = some (.arr (cIn ts tb (payS 1 s))) := by rw [cutM_keep (by simp; omega)]; exact hM.x
      have hM1t : (cutM (fun j => !(j == mu.length)) M 0)[tb]? = some (.mp (eSet es)) := by rw [cutM_keep (by simp; omega)]; exact hM.t
      have hM1r : (cutM (fun j => !(j == mu.length)) M 0)[mu.length + 1]? = some (.arr [aI 0, aS ⟨#[]⟩, aI 0, .lst true [], aI 0]) := by rw [cutM_keep (by simp)]; exact hM.r
      have hM1b : But xb mu (cutM (fun j => !(j == mu.length)) M 0) := hM.but.cut fun i hi => by simp; omega
      have hM1l : (cutM (fun j => !(j == mu.length)) M 0).length = mu.length + 2 := by rw [cutM_len]; exact hMl
      simp only [put_mu]
      generalize cutM (fun j => !(j == mu.length)) M 0 = M1 at *
      refine DrawGo.intro (by kernel_rfl) ?_
      simp [go_sem, hM1x]
      obtain ⟨i, hi, hpi, hidx⟩ := find_idx hp
      have hfn : FnOkP Tryz.prog (.fn (.func 115) [] [.ip (cNd n)]) ts.preds (fun x => .agg (cPd x)) (fun p => decide (p.name = n.name)) := ⟨_, _, _, rfl, fun p hp => ⟨_, expand1U p n, .cons (.hf (HF.agg (hf_cPd p))) (.cons (.hf (hf_ipN n)) .nil)⟩⟩
      refine CallStep.pure (idxPd false ts.preds _ (fun p => decide (p.name = n.name)) hfn (by have := h.np; omega)) (.cons (.hf (hf_lPd _)) (.cons (.hf (HF.fn (by simp) (fun x hx => by simp at hx; subst hx; exact hf_ipN n))) .nil)) ?_
      rw [hidx]
      have hpm : p ∈ ts.preds := List.mem_of_find?_eq_some hp
      obtain ⟨hbw, hbc⟩ := hb p hpm
      have hkl := hw.len
      have hcells := cPd_row p
      simp [go_sem, hM1x, hi, hpi, hcells]
      have hst1 : StOk (fuelN ts es) (payS 1 s) := (pay_go hs (by omega) hcc).ok hs
      have hR : bindX (expAs (fun k s => expI ts es f env k body s) p.params n.kids [] (payS 1 s)) (fun own s' => expI ts es f own p.body true s') = R := by simpa using hR
      generalize hQ : expAs (fun k s => expI ts es f env k body s) p.params n.kids [] (payS 1 s) = Q at *
      refine LoopGo.upK n.kids.length (fun k st => ∃ (acc : List (ByteArray × AP)) (s2 : ISt), st.tm 0 = .ptr xb 0 ∧ st.tm 1 = eEnv env ∧ st.tm 3 = aB body ∧ st.tm 8 = .ptr (mu.length + 1) 0 ∧ st.tm 10 = .ptr (mu.length + 2) 0 ∧ st.tm 11 = .mp (mu.length + 3) ∧ st.tm 52 = lNd n.kids ∧ st.tm 53 = aI n.kids.length ∧ st.tm 54 = aI k ∧
        But xb mu st.mu ∧ mu.length + 3 < st.mu.length ∧ st.mu[xb]? = some (.arr (cIn ts tb s2)) ∧ st.mu[mu.length + 1]? = some (.arr [aI 0, aS ⟨#[]⟩, aI 0, .lst true [], aI 0]) ∧ st.mu[mu.length + 2]? = some (.arr (cPd p)) ∧ st.mu[mu.length + 3]? = some (.mp (encK aS eAP acc)) ∧
        (∀ e, e ∈ acc → mu.length + 3 < e.2.1 ∧ e.2.1 < st.mu.length ∧ st.mu[e.2.1]? = some (.arr (cNd e.2.2.2))) ∧ EnvOk (ownA acc) ∧ (acc.map Prod.fst).Nodup ∧ StOk (fuelN ts es) s2 ∧ s.cost + 1 ≤ s2.cost ∧ expAs (fun k s => expI ts es f env k body s) (p.params.drop k) (n.kids.drop k) (ownA acc) s2 = Q) ?_ ?_
      · refine ⟨[], payS 1 s, by simp [go_sem], by simp [go_sem], by simp [go_sem], by simp [go_sem], by simp [go_sem, hM1l], by simp [go_sem, hM1l], by simp [go_sem], by simp [go_sem], by simp [go_sem], ?_, ?_, ?_, ?_, ?_, ?_, by simp, .nil, by simp, hst1, by show _ ≤ s.cost + 1; omega, by simpa using hQ⟩
        all_goals simp only [put_mu]
        · exact hM1b.trans (But.app xb M1 _)
        · simp; omega
        · rw [List.getElem?_append_left (by omega)]; exact hM1x
        · rw [List.getElem?_append_left (by omega)]; exact hM1r
        · rw [List.getElem?_append_right (by omega)]; simp [hM1l]
        · rw [List.getElem?_append_right (by omega)]; simp [hM1l]
      · rintro k st hk ⟨acc, s2, e0, e1, e3, e8, e10, e11, e52, e53, e54, hbut, hl, gx, gr, gp, gm, gacc, hown, hnd, hst, hcost, hI⟩
        have ht2 : st.mu[tb]? = some (.mp (eSet es)) := by rw [hbut.same tb htl (fun e => by rw [e, hx] at ht; cases ht)]; exact ht
        by_cases hkl : k = n.kids.length
        · subst hkl
          simp [go_sem, e0, e1, e3, e8, e10, e11, e52, e53, e54, gp]
          rw [List.drop_length, List.drop_of_length_le (by omega)] at hI
          have hI : Q = .ok (ownA acc, s2) := hI.symm
          rw [hI] at hR
          have hR : expI ts es f (ownA acc) p.body true s2 = R := hR
          have hbig : ∀ i, i < mu.length + 3 → (cutM (fun i => !decide (mu.length + 3 ≤ i)) st.mu 0)[i]? = st.mu[i]? := fun i hi => cutM_keep (by simp; omega)
          have hcall := ih (ownA acc) p.body true s2 (cutM (fun i => !decide (mu.length + 3 ≤ i)) st.mu 0) xb (by omega) hst hown hbw hbc (by rw [hbig _ (by omega)]; exact gx) (by rw [hbig _ (by omega)]; exact ht2)
          rw [hR] at hcall
          have hcall := Sound.freeze (mu := st.mu) (args := [.ptr xb 0, .mp (mu.length + 3), eNd p.body, aB true]) (args1 := [.ptr xb 0, eEnv (ownA acc), eNd p.body, aB true]) (fun i => decide (mu.length + 3 ≤ i)) ⟨.inl rfl, .inr (rd_own (by rw [cutM_keep (by simp)]; exact gm) hnd (fun e he => by
            obtain ⟨a1, a2, a3⟩ := gacc e he
            rw [cutM_keep (by simp; omega)]; exact a3)), .inl rfl, .inl rfl, trivial⟩ hcall
          cases R with
          | error d =>
            refine CallStep.eff0 hcall (by rintro r m ⟨e, _⟩; cases e) ?_
            rintro r m ⟨e, hmb⟩
            cases e
            simp [go_sem]
            exact ⟨rfl, (hbut.cut fun i hi => by simp; omega).trans hmb⟩
          | ok q =>
            obtain ⟨⟨n', k'⟩, s'⟩ := q
            refine CallStep.eff0 hcall ?_ (by rintro r m ⟨e, _⟩; cases e)
            rintro r m ⟨e, hmx, hmb⟩
            cases e
            have hml := hmb.len
            rw [cutM_len] at hml
            have hml1 : mu.length + 1 < m.length := by omega
            have hm1 : m[mu.length + 1]? = some (.arr [aI 0, aS ⟨#[]⟩, aI 0, .lst true [], aI 0]) := by rw [hmb.same _ (by rw [cutM_len]; omega) (by omega), hbig _ (by omega)]; exact gr
            have hset : ∀ c, (m.set (mu.length + 1) c)[mu.length + 1]? = some c := fun c => List.getElem?_set_self hml1
            simp [go_sem, e0, e1, e3, e8, e10, e11, e52, e53, e54, hm1, hset, cNd_ones]
            refine ⟨rfl, by rw [List.getElem?_set_ne (by omega)]; exact hmx, ?_⟩
            exact ((hbut.cut fun i hi => by simp; omega).trans hmb).setN (by omega) _
        · have hlt : k < n.kids.length := by omega
          have w1 : IntKind.i64.wrap ((k : Int) + 1) = (k : Int) + 1 := wrap_i64 (by omega) (by omega)
          have hltp : k < p.params.length := by omega
          rw [List.drop_eq_getElem_cons hlt, List.drop_eq_getElem_cons hltp] at hI
          simp only [expAs] at hI
          simp [go_sem, e0, e1, e3, e8, e10, e11, e52, e53, e54, hlt, cNd_ones]
          have hpush : ∀ i, i < st.mu.length → (st.mu ++ [Cell.arr (cNd n.kids[k])])[i]? = st.mu[i]? := fun i hi => List.getElem?_append_left hi
          have hkm : n.kids[k] ∈ n.kids := List.getElem_mem hlt
          have hcall := ih env n.kids[k] body s2 (st.mu ++ [Cell.arr (cNd n.kids[k])]) xb (by omega) hst he (hw.kid hkm) (hcl.kid hkm) (by rw [hpush _ (by omega)]; exact gx) (by rw [hpush _ (by omega)]; exact ht2)
          have hgo : ∀ {n' z s'}, expI ts es f env n.kids[k] body s2 = .ok ((n', z), s') → Gos (fuelN ts es) s2 s' z := fun e => expI_go ts hfr f hst he e
          generalize hE : expI ts es f env n.kids[k] body s2 = E at *
          cases E with
          | error d =>
            have hI : Q = .error d := hI.symm
            rw [hI] at hR
            have hR : R = .error d := hR.symm
            subst hR
            refine CallStep.eff0 hcall (by rintro r m ⟨e, _⟩; cases e) ?_
            rintro r m ⟨e, hmb⟩
            cases e
            simp [go_sem]
            exact ⟨rfl, hbut.trans ((But.app xb st.mu _).trans hmb)⟩
          | ok q =>
            obtain ⟨⟨n', k'⟩, s'⟩ := q
            have hg := hgo rfl
            simp only at hI
            refine CallStep.eff0 hcall ?_ (by rintro r m ⟨e, _⟩; cases e)
            rintro r m ⟨e, hmx, hmb⟩
            cases e
            have hml := hmb.len
            simp only [List.length_append, List.length_cons, List.length_nil] at hml
            have hold : ∀ i, i < st.mu.length → i ≠ xb → m[i]? = st.mu[i]? := fun i hi hne => by rw [hmb.same i (by simp; omega) hne, hpush i hi]
            have hmp : ∀ l, (m ++ l)[mu.length + 2]? = some (.arr (cPd p)) := fun l => by rw [List.getElem?_append_left (by omega), hold _ (by omega) (by omega)]; exact gp
            have hmm : ∀ l, (m ++ l)[mu.length + 3]? = some (.mp (encK aS eAP acc)) := fun l => by rw [List.getElem?_append_left (by omega), hold _ (by omega) (by omega)]; exact gm
            have hu := fun l => updAP (hmm l) p.params[k].1 (m.length, k', n')
            simp [go_sem, e0, e1, e3, e8, e10, e11, e52, e53, e54, cNd_ones, hmp, hltp]
            refine OptK.intro _ (hu _) ?_
            generalize hN : (m ++ [Cell.arr (cNd n')]).set (mu.length + 3) (.mp (encK aS eAP (setK p.params[k].1 (m.length, k', n') acc))) = N
            have hNl : N.length = m.length + 1 := by rw [← hN]; simp
            have hNo : ∀ i, i < m.length → i ≠ mu.length + 3 → N[i]? = m[i]? := fun i h1 h2 => by rw [← hN, List.getElem?_set_ne (by omega), List.getElem?_append_left h1]
            have hNm : N[mu.length + 3]? = some (.mp (encK aS eAP (setK p.params[k].1 (m.length, k', n') acc))) := by rw [← hN, List.getElem?_set_self (by simp; omega)]
            have hNa : N[m.length]? = some (.arr (cNd n')) := by rw [← hN, List.getElem?_set_ne (by omega), List.getElem?_append_right (Nat.le_refl _)]; simp
            simp [go_sem, e0, e1, e3, e8, e10, e11, e52, e53, e54, w1]
            refine ⟨hlt, Keep.mk' ?_⟩
            have hk4 : k' ≤ 4000 := by have := hg.cz; have := hg.c1; have := hst.c0; omega
            refine ⟨setK p.params[k].1 (m.length, k', n') acc, s', by simp [go_sem, e0], by simp [go_sem, e1], by simp [go_sem, e3], by simp [go_sem, e8], by simp [go_sem, e10], by simp [go_sem, e11], by simp [go_sem, e52], by simp [go_sem, e53], by simp [go_sem], ?_, ?_, ?_, ?_, ?_, ?_, ?_, ?_, setK_nodup hnd, hg.ok hst, by have := hg.cz; have := hg.z0; omega, ?_⟩
            all_goals try simp only [put_mu]
            · refine ⟨by have := hbut.len; omega, fun i h1 h2 => ?_⟩
              rw [hNo i (by omega) (by omega), hold i (by omega) h2]
              exact hbut.same i h1 h2
            · omega
            · rw [hNo _ (by omega) (by omega)]; exact hmx
            · rw [hNo _ (by omega) (by omega), hold _ (by omega) (by omega)]; exact gr
            · rw [hNo _ (by omega) (by omega), hold _ (by omega) (by omega)]; exact gp
            · exact hNm
            · intro e he
              rcases (setK_mem hnd).1 he with rfl | ⟨he, _⟩
              · exact ⟨by show _ < m.length; omega, by show m.length < _; omega, hNa⟩
              · obtain ⟨a1, a2, a3⟩ := gacc e he
                exact ⟨a1, by omega, by rw [hNo _ (by omega) (by omega), hold _ (by omega) (by omega)]; exact a3⟩
            · unfold ownA
              rw [setK_map (fun a : AP => ivA a)]
              exact hown.set ⟨hg.z0, hk4⟩
            · unfold ownA
              rw [setK_map (fun a : AP => ivA a)]
              exact hI
    · rw [if_neg hcc] at e; cases e
  · rintro r m ⟨rfl, e⟩
    by_cases hcc : s.cost + 1 ≤ 4000
    · rw [if_pos hcc] at e; cases e
    · rw [if_neg hcc] at e hR
      cases e
      subst hR
      simp [go_sem]
      exact ⟨rfl, (But.app xb mu _).trans (But.setX xb _ _)⟩
theorem binB_eq (op : Int) : decide (op = 15 ∨ op = 45 ∨ op = 46) = binB op := by
  unfold binB
  by_cases h1 : op = 15 <;> by_cases h2 : op = 45 <;> by_cases h3 : op = 46 <;> simp [h1, h2, h3]
theorem ownF_same {lo sz : Nat} {mu mu' : Mu} {av : AV} {xs : List (List AV)} (h : OwnF lo mu sz av xs) (hl : lo ≤ mu'.length) (hs : ∀ i, lo ≤ i → i < mu.length → mu'[i]? = mu[i]?) : OwnF lo mu' sz av xs := by
  obtain ⟨ho, hb, _⟩ := h
  refine ⟨?_, hb, hl⟩
  rcases ho with rfl | ⟨b, rfl, hc⟩
  · exact .inl rfl
  · exact .inr ⟨b, rfl, by rw [hs b (hb b _ _ _ rfl) (List.getElem?_eq_some_iff.1 hc).1]; exact hc⟩
theorem rows_nd (l : List Nd) : rowsWf 5 (l.map cNd) := fun r hr => by
  obtain ⟨n, _, rfl⟩ := List.mem_map.1 hr
  exact ⟨cNd_len n, cNd_one n⟩
theorem appNd {mu : Mu} {lo : Nat} {s : AV} {xs : List Nd} {k : Nd} {K : AV → Mu → Prop} (ho : OwnF lo mu 5 s (xs.map cNd)) (hl : xs.length ≤ 100000) (kk : ∀ av mu', OwnF lo mu' 5 av ((xs ++ [k]).map cNd) → (∀ i, i < lo → mu'[i]? = mu[i]?) → K av mu') :
    AppendStep Tryz.prog mu #[29, 29] s (.lst true [cNd k]) K := by
  refine AppendStep.ownF (lo := lo) (e := 31) (sz := 5) (bt := 64) (zv := .agg [aI 0, aS ⟨#[]⟩, aI 0, .lst true [], aI 0]) (xs := xs.map cNd) (ys := [cNd k]) (by simp [go_sem]) (by simp [go_sem]) (by simp [go_sem]) rfl rfl (by omega) (by omega) ho (by simp [rowsOf]) (rows_nd xs) (rows_nd [k]) (by simp; omega) ?_
  intro av mu' h h2
  exact kk av mu' (by rw [List.map_append]; exact h) h2
theorem expandK (ts : TS) (h : okTS ts) (es : List (ByteArray × Bool)) (hF : fuelN ts es ≤ 200000) (hfr : Free ts es) (tb f : Nat) (ih : IHE ts es tb f) (env : IEnv) (n : Nd) (body : Bool) (s : ISt) (mu : Mu) (xb : Nat)
    (hc : 4000 < s.cost + (f + 1 : Nat)) (hs : StOk (fuelN ts es) s) (he : EnvOk env) (hw : WfN n) (hcl : CallsOk ts n) (hx : mu[xb]? = some (.arr (cIn ts tb s))) (ht : mu[tb]? = some (.mp (eSet es))) (h1 : ¬ n.op = 1) (h47 : ¬ n.op = 47) :
    Sound Tryz.prog 70 [.ptr xb 0, eEnv env, eNd n, aB body] mu (endE ts tb mu xb (expI ts es (f + 1) env n body s)) := by
  have hs0 := hs.c0
  have hs1 := hs.c1
  have hxl : xb < mu.length := (List.getElem?_eq_some_iff.1 hx).1
  have htl : tb < mu.length := (List.getElem?_eq_some_iff.1 ht).1
  have hne : tb ≠ xb := fun e => by rw [e, hx] at ht; cases ht
  generalize hR : expI ts es (f + 1) env n body s = R
  simp only [expI, h1, h47, if_false] at hR
  refine Sound.give ?_
  refine Sound.of_awp Tryz.call70 Tryz.func70 rfl (Nat.le_of_ble_eq_true (by kernel_rfl)) (by kernel_rfl) (pl := { mt := [6] }) ?_
  simp [go_sem]
  refine CallStep.eff0 (payU ts tb s 1 ⟨by omega, by omega⟩ ⟨by omega, by omega⟩ (by rw [List.getElem?_append_left hxl]; exact hx)) ?_ ?_
  · rintro r m ⟨rfl, e⟩
    by_cases hcc : s.cost + 1 ≤ 4000
    · rw [if_pos hcc] at e hR
      cases e
      have hM := M0.of (s' := payS 1 s) (n := n) hx ht
      generalize hMe : (mu ++ [Cell.arr (cNd n), .arr [aI 0, aS ⟨#[]⟩, aI 0, .lst true [], aI 0]]).set xb (.arr (cIn ts tb (payS 1 s))) = M at *
      have hMl := hM.len
      have hkl := hw.len
      have hst1 : StOk (fuelN ts es) (payS 1 s) := (pay_go hs (by omega) hcc).ok hs
      have hset : ∀ c, (M.set mu.length c)[mu.length]? = some c := fun c => List.getElem?_set_self (by omega)
      have hcn := cNd_eq n
      simp [go_sem, hM.n, h1, h47, hcn, hset]
      refine LoopGo.upK n.kids.length (fun k st => ∃ (acc : List Nd) (env1 : IEnv) (nm1 : ByteArray) (s2 : ISt) (av : AV) (z : Int), st.tm 0 = .ptr xb 0 ∧ st.tm 1 = eEnv env1 ∧ st.tm 3 = aB body ∧ st.tm 6 = .ptr mu.length 0 ∧ st.tm 8 = .ptr (mu.length + 1) 0 ∧ st.tm 17 = aI z ∧ st.tm 87 = lNd n.kids ∧ st.tm 88 = aI n.kids.length ∧ st.tm 89 = aI k ∧
        But xb mu st.mu ∧ st.mu[xb]? = some (.arr (cIn ts tb s2)) ∧ st.mu[mu.length + 1]? = some (.arr [aI 0, aS ⟨#[]⟩, aI 0, .lst true [], aI 0]) ∧ st.mu[mu.length]? = some (.arr [aI n.op, aS nm1, aI n.n, av, aI n.pos]) ∧ OwnF (mu.length + 2) st.mu 5 av (acc.map cNd) ∧ EnvOk env1 ∧ acc.length = k ∧
        0 ≤ s2.last ∧ 0 ≤ s2.cost ∧ s2.cost ≤ 4000 ∧ dueN (fuelN ts es) (binB n.op) k ≤ pot (fuelN ts es) s2 ∧ s.cost + 1 ≤ s2.cost ∧ 1 ≤ z ∧ z ≤ s2.cost - s.cost ∧
        bindX (expKs (fun env k s => expI ts es f env k body s) (fun env nm s => renI ts es env nm body s) (binB n.op) k env1 nm1 (n.kids.drop k) s2) (fun r s' => .ok ((.mk n.op r.1 n.n (acc ++ r.2.1) n.pos, z + r.2.2), s')) = R) ?_ ?_
      · refine ⟨[], env, n.name, payS 1 s, .lst true [], 1, by simp [go_sem], by simp [go_sem], by simp [go_sem], by simp [go_sem], by simp [go_sem], by simp [go_sem], by simp [go_sem], by simp [go_sem], by simp [go_sem], ?_, ?_, ?_, ?_, ?_, he, rfl, hst1.l0, hst1.c0, hst1.c1, ?_, by show _ ≤ s.cost + 1; omega, by omega, by show _ ≤ s.cost + 1 - _; omega, by simpa using hR⟩
        all_goals try simp only [put_mu]
        · exact hM.but.setN (Nat.le_refl _) _
        · rw [List.getElem?_set_ne (by omega)]; exact hM.x
        · rw [List.getElem?_set_ne (by omega)]; exact hM.r
        · exact hset _
        · exact OwnF.nil (by simp; omega)
        · rw [pot_pay]; have := hs.p; unfold dueN; split <;> omega
      · rintro k st hk ⟨acc, env1, nm1, s2, av, z, e0, e1, e3, e6, e8, e17, e87, e88, e89, hbut, gx, gr, gn, go, hev, hal, hl0, hc0, hc1, hdue, hcost, hz1, hz2, hI⟩
        have gt : st.mu[tb]? = some (.mp (eSet es)) := by rw [hbut.same tb htl hne]; exact ht
        have hstl : mu.length + 2 ≤ st.mu.length := go.2.2
        by_cases hkl : k = n.kids.length
        · subst hkl
          have hcc1 := go.cells
          have hon1 := go.one
          have hset1 : ∀ c, (st.mu.set (mu.length + 1) c)[mu.length + 1]? = some c := fun c => List.getElem?_set_self (by omega)
          rw [List.drop_length] at hI
          have hI : R = .ok ((.mk n.op nm1 n.n acc n.pos, z), s2) := by rw [← hI]; simp [expKs, bindX]
          simp [go_sem, e0, e1, e3, e6, e8, e17, e87, e88, e89, gn, gr, hcc1, hon1, hset1]
          rw [hI]
          have hml : (st.mu.set (mu.length + 1) (.arr [aI n.op, aS nm1, aI n.n, av, aI n.pos])).length = st.mu.length := by simp
          refine .inr ⟨fun i => decide (mu.length + 2 ≤ i), .tup [eNd (.mk n.op nm1 n.n acc n.pos), aI z], .rd _ _ (.tup _ _ rfl fun k x y hx hy => ?_), rfl, ?_, ?_⟩
          · match k with
            | 0 =>
              simp at hx hy; subst hx; subst hy
              have ecn : eNd (.mk n.op nm1 n.n acc n.pos) = .agg [aI n.op, aS nm1, aI n.n, .lst false (acc.map cNd), aI n.pos] := by
                show AV.agg (cNd _) = _
                rw [cNd_eq]; rfl
              rw [ecn]
              refine .agg _ _ rfl fun k x y hx hy => ?_
              match k with
              | 0 => simp at hx hy; subst hx; subst hy; exact .hf _ (HF.sc _)
              | 1 => simp at hx hy; subst hx; subst hy; exact .hf _ (HF.sc _)
              | 2 => simp at hx hy; subst hx; subst hy; exact .hf _ (HF.sc _)
              | 3 =>
                simp at hx hy; subst hx; subst hy
                exact ownF_rdCut (go.set (by omega)) (rows_nd acc).ok fun r hr c hc => by
                  obtain ⟨x, _, rfl⟩ := List.mem_map.1 hr
                  exact hf_cNd x c hc
              | 4 => simp at hx hy; subst hx; subst hy; exact .hf _ (HF.sc _)
              | k + 5 => simp at hx
            | 1 => simp at hx hy; subst hx; subst hy; exact .hf _ (HF.sc _)
            | k + 2 => simp at hx
          · rw [cutM_keep (by simp; omega), List.getElem?_set_ne (by omega)]; exact gx
          · exact (hbut.setN (by omega) _).cut fun i hi => by simp; omega
        · have hlt : k < n.kids.length := by omega
          have w1 : IntKind.i64.wrap ((k : Int) + 1) = (k : Int) + 1 := wrap_i64 (by omega) (by omega)
          have w2 : IntKind.i64.wrap 2 = 2 := rfl
          rw [List.drop_eq_getElem_cons hlt] at hI
          simp only [expKs] at hI
          have hpush : ∀ (l : List Cell) (i : Nat), i < st.mu.length → (st.mu ++ l)[i]? = st.mu[i]? := fun l i hi => List.getElem?_append_left hi
          have gn1 : ∀ l, (st.mu ++ l)[mu.length]? = some (.arr [aI n.op, aS nm1, aI n.n, av, aI n.pos]) := fun l => by rw [hpush l _ (by omega)]; exact gn
          have hcc1 := go.cells
          have hon1 := go.one
          by_cases hb : binB n.op = true ∧ k = 1
          · obtain ⟨hb1', rfl⟩ := hb
            rw [if_pos ⟨hb1', rfl⟩] at hI
            have hlt1 : (1 : Int) < n.kids.length := by omega
            simp [go_sem, hlt1, e0, e1, e3, e6, e8, e17, e87, e88, e89, hlt, gn1, cNd_ones]
            have hbu := YX.bindsU n.op
            rw [binB_eq, hb1'] at hbu
            refine CallStep.pure hbu (.cons (.hf (HF.sc _)) .nil) ?_
            have hlast := StOk.last (F := fuelN ts es) ⟨hl0, hc0, hc1, by have := dueN_nn (fuelN ts es) (binB n.op) 1; omega⟩
            have hren := renameU ts h s2 es ⟨hl0, by omega⟩ tb (hfr _ hl0) env1 hev.nd nm1 body (mu := st.mu ++ [Cell.arr (cNd n.kids[1])]) (xb := xb) (by rw [hpush _ _ (by omega)]; exact gx) (by rw [hpush _ _ (by omega)]; exact gt)
            have hrs := renI_st (env := env1) (nm := nm1) (body := body) hfr hl0
            have hre := renI_env (ts := ts) (es := es) (nm := nm1) (body := body) (s := s2) hev
            generalize renI ts es env1 nm1 body s2 = r at *
            obtain ⟨⟨env2, nm2⟩, s3⟩ := r
            simp only at hrs hre hI
            simp [go_sem, e0, e1, e3, e6, e8, e17, e87, e88, e89, hlt, gn1, cNd_ones]
            refine CallStep.eff0 hren ?_ (by rintro r m ⟨e, _⟩; cases e)
            rintro r m1 ⟨e, hb1, hx1⟩
            cases e
            have hml1 := hb1.len
            simp only [List.length_append, List.length_cons, List.length_nil] at hml1
            have gn2 : m1[mu.length]? = some (.arr [aI n.op, aS nm1, aI n.n, av, aI n.pos]) := by rw [hb1.same _ (by simp; omega) (by omega)]; exact gn1 _
            have gr2 : m1[mu.length + 1]? = some (.arr [aI 0, aS ⟨#[]⟩, aI 0, .lst true [], aI 0]) := by rw [hb1.same _ (by simp; omega) (by omega), hpush _ _ (by omega)]; exact gr
            have gk2 : m1[st.mu.length]? = some (.arr (cNd n.kids[1])) := by rw [hb1.same _ (by simp) (by omega), List.getElem?_append_right (Nat.le_refl _)]; simp
            have gt2 : m1[tb]? = some (.mp (eSet es)) := by rw [hb1.same _ (by simp; omega) hne, hpush _ _ (by omega)]; exact gt
            have go2 : OwnF (mu.length + 2) m1 5 av (acc.map cNd) := ownF_same go (by omega) fun i q1 q2 => by rw [hb1.same i (by simp; omega) (by omega), hpush _ _ q2]
            have hM2g : ∀ c i, i ≠ mu.length → (m1.set mu.length c)[i]? = m1[i]? := fun c i hi => List.getElem?_set_ne (fun e => hi e.symm)
            have hk2 : ∀ c, (m1.set mu.length c)[st.mu.length]? = some (.arr (cNd n.kids[1])) := fun c => by rw [hM2g _ _ (by omega)]; exact gk2
            simp [go_sem, e0, e1, e3, e6, e8, e17, e87, e88, e89, hlt, gn2, hk2, cNd_ones]
            generalize hM2 : m1.set mu.length (.arr [aI n.op, aS nm2, aI n.n, av, aI n.pos]) = M2
            have hM2l : st.mu.length + 1 ≤ M2.length := by rw [← hM2]; simp; omega
            have g2x : M2[xb]? = some (.arr (cIn ts tb s3)) := by rw [← hM2, hM2g _ _ (by omega)]; exact hx1
            have g2t : M2[tb]? = some (.mp (eSet es)) := by rw [← hM2, hM2g _ _ (by omega)]; exact gt2
            have g2n : M2[mu.length]? = some (.arr [aI n.op, aS nm2, aI n.n, av, aI n.pos]) := by rw [← hM2]; exact List.getElem?_set_self (by omega)
            have g2r : M2[mu.length + 1]? = some (.arr [aI 0, aS ⟨#[]⟩, aI 0, .lst true [], aI 0]) := by rw [← hM2, hM2g _ _ (by omega)]; exact gr2
            have g2o : OwnF (mu.length + 2) M2 5 av (acc.map cNd) := by rw [← hM2]; exact go2.set (by omega)
            have g2b : But xb mu M2 := by
              rw [← hM2]
              exact (hbut.trans ((But.app xb st.mu _).trans hb1)).setN (Nat.le_refl _) _
            have hdd : dueN (fuelN ts es) (binB n.op) 1 = (fuelN ts es : Nat) := if_pos ⟨hb1', by omega⟩
            have hd0 : dueN (fuelN ts es) (binB n.op) (1 + 1) = 0 := if_neg (by omega)
            have hpp : pot (fuelN ts es) s2 - (fuelN ts es : Nat) ≤ pot (fuelN ts es) s3 := by unfold pot; rw [hrs.2.2]; omega
            have hst3 : StOk (fuelN ts es) s3 := ⟨hrs.1, by rw [hrs.2.2]; exact hc0, by rw [hrs.2.2]; exact hc1, by omega⟩
            have hd3 : dueN (fuelN ts es) (binB n.op) (1 + 1) ≤ pot (fuelN ts es) s3 := by omega
            have hcost3 : s.cost + 1 ≤ s3.cost := by rw [hrs.2.2]; exact hcost
            have hz3 : z ≤ s3.cost - s.cost := by rw [hrs.2.2]; exact hz2
            have hev2 : EnvOk env2 := hre
            have et1 : True := trivial
            have hkm : n.kids[1] ∈ n.kids := List.getElem_mem hlt
            have hcall := ih env2 n.kids[1] body s3 M2 xb (by omega) hst3 hev2 (hw.kid hkm) (hcl.kid hkm) g2x g2t
            have hgo : ∀ {n' z s'}, expI ts es f env2 n.kids[1] body s3 = .ok ((n', z), s') → Gos (fuelN ts es) s3 s' z := fun e => expI_go ts hfr f hst3 hev2 e
            generalize hE : expI ts es f env2 n.kids[1] body s3 = E at *
            cases E with
            | error d =>
              have hI : R = .error d := hI.symm
              subst hI
              refine CallStep.eff0 hcall (by rintro r m ⟨e, _⟩; cases e) ?_
              rintro r m ⟨e, hmb⟩
              cases e
              simp [go_sem]
              exact ⟨rfl, g2b.trans hmb⟩
            | ok q =>
              obtain ⟨⟨n', k'⟩, s'⟩ := q
              have hg := hgo rfl
              simp only at hI
              refine CallStep.eff0 hcall ?_ (by rintro r m ⟨e, _⟩; cases e)
              rintro r m ⟨e, hmx, hmb⟩
              cases e
              have hml := hmb.len
              have hmn : ∀ l, (m ++ l)[mu.length]? = some (.arr [aI n.op, aS nm2, aI n.n, av, aI n.pos]) := fun l => by rw [List.getElem?_append_left (by omega), hmb.same _ (by omega) (by omega)]; exact g2n
              have hcc := g2o.cells
              have hon := g2o.one
              have hsz : IntKind.i64.wrap (z + k') = z + k' := wrap_i64 (by have := hg.z0; omega) (by have := hg.cz; have := hg.c1; omega)
              have ho3 : OwnF (mu.length + 2) (m ++ [Cell.arr (cNd n')]) 5 av (acc.map cNd) := ownF_same g2o (by simp; omega) fun i h1 h2 => by rw [List.getElem?_append_left (by omega), hmb.same i (by omega) (by omega)]
              simp [go_sem, e0, e3, e6, e8, e17, e87, e88, e89, hmn, hcc, hon, hsz, cNd_ones]
              refine appNd ho3 (by omega) fun av' m' ho' hm' => ?_
              have hlm := ho'.2.2
              have hmn' : m'[mu.length]? = some (.arr [aI n.op, aS nm2, aI n.n, av, aI n.pos]) := by rw [hm' _ (by omega)]; exact hmn _
              have hcc' := ho'.cells
              have hon' := ho'.one
              simp [go_sem, e0, e3, e6, e8, e17, e87, e88, e89, hmn', hcc', hon', hsz, w1, w2, cNd_ones]
              refine ⟨hlt, Keep.mk' ?_⟩
              refine ⟨acc ++ [n'], env2, nm2, s', av', z + k', by simp [go_sem, e0], by simp [go_sem, et1], by simp [go_sem, e3], by simp [go_sem, e6], by simp [go_sem, e8], by simp [go_sem], by simp [go_sem, e87], by simp [go_sem, e88], by simp [go_sem], ?_, ?_, ?_, ?_, ?_, hev2, by simp; omega, hg.l0, by have := hg.cz; have := hg.z0; omega, hg.c1, Int.le_trans hd3 hg.p, by have := hg.cz; have := hg.z0; omega, by have := hg.z0; omega, by have := hg.cz; omega, ?_⟩
              all_goals try simp only [put_mu]
              · refine ⟨by simp; omega, fun i h1 h2 => ?_⟩
                rw [List.getElem?_set_ne (by omega), hm' i (by omega), List.getElem?_append_left (by omega), hmb.same i (by omega) h2]
                exact g2b.same i h1 h2
              · rw [List.getElem?_set_ne (by omega), hm' _ (by omega), List.getElem?_append_left (by omega)]; exact hmx
              · rw [List.getElem?_set_ne (by omega), hm' _ (by omega), List.getElem?_append_left (by omega), hmb.same _ (by omega) (by omega)]; exact g2r
              · exact List.getElem?_set_self (by omega)
              · exact ho'.set (by omega)
              · rw [← hI]
                generalize expKs (fun env k s => expI ts es f env k body s) (fun env nm s => renI ts es env nm body s) (binB n.op) (1 + 1) env2 nm2 (n.kids.drop (1 + 1)) s' = W
                cases W with
                | error e => rfl
                | ok q => simp [bindX, Int.add_assoc]
          · rw [if_neg hb] at hI
            by_cases hk1 : k = 1
            · subst hk1
              have hb1 : binB n.op = false := by simpa using hb
              have hlt1 : (1 : Int) < n.kids.length := by omega
              simp [go_sem, hlt1, e0, e1, e3, e6, e8, e17, e87, e88, e89, hlt, gn1, cNd_ones]
              have hbu := YX.bindsU n.op
              rw [binB_eq, hb1] at hbu
              refine CallStep.pure hbu (.cons (.hf (HF.sc _)) .nil) ?_
              simp [go_sem, e0, e1, e3, e6, e8, e17, e87, e88, e89, hlt, gn1, cNd_ones]
              have hM2l : st.mu.length + 1 ≤ (st.mu ++ [Cell.arr (cNd n.kids[1])]).length := by simp
              have g2x : (st.mu ++ [Cell.arr (cNd n.kids[1])])[xb]? = some (.arr (cIn ts tb s2)) := by rw [hpush _ _ (by omega)]; exact gx
              have g2t : (st.mu ++ [Cell.arr (cNd n.kids[1])])[tb]? = some (.mp (eSet es)) := by rw [hpush _ _ (by omega)]; exact gt
              have g2n := gn1 [Cell.arr (cNd n.kids[1])]
              have g2r : (st.mu ++ [Cell.arr (cNd n.kids[1])])[mu.length + 1]? = some (.arr [aI 0, aS ⟨#[]⟩, aI 0, .lst true [], aI 0]) := by rw [hpush _ _ (by omega)]; exact gr
              have g2o : OwnF (mu.length + 2) (st.mu ++ [Cell.arr (cNd n.kids[1])]) 5 av (acc.map cNd) := ownF_same go (by omega) fun i q1 q2 => hpush _ _ q2
              have g2b : But xb mu (st.mu ++ [Cell.arr (cNd n.kids[1])]) := hbut.trans (But.app xb st.mu _)
              have hst3 : StOk (fuelN ts es) s2 := ⟨hl0, hc0, hc1, by have := dueN_nn (fuelN ts es) (binB n.op) 1; omega⟩
              have hd3 : dueN (fuelN ts es) (binB n.op) (1 + 1) ≤ pot (fuelN ts es) s2 := by rw [← dueN_next hb]; exact hdue
              have hcost3 := hcost
              have hz3 := hz2
              have hev2 := hev
              have et1 := e1
              generalize st.mu ++ [Cell.arr (cNd n.kids[1])] = M2 at *
              have hkm : n.kids[1] ∈ n.kids := List.getElem_mem hlt
              have hcall := ih env1 n.kids[1] body s2 M2 xb (by omega) hst3 hev2 (hw.kid hkm) (hcl.kid hkm) g2x g2t
              have hgo : ∀ {n' z s'}, expI ts es f env1 n.kids[1] body s2 = .ok ((n', z), s') → Gos (fuelN ts es) s2 s' z := fun e => expI_go ts hfr f hst3 hev2 e
              generalize hE : expI ts es f env1 n.kids[1] body s2 = E at *
              cases E with
              | error d =>
                have hI : R = .error d := hI.symm
                subst hI
                refine CallStep.eff0 hcall (by rintro r m ⟨e, _⟩; cases e) ?_
                rintro r m ⟨e, hmb⟩
                cases e
                simp [go_sem]
                exact ⟨rfl, g2b.trans hmb⟩
              | ok q =>
                obtain ⟨⟨n', k'⟩, s'⟩ := q
                have hg := hgo rfl
                simp only at hI
                refine CallStep.eff0 hcall ?_ (by rintro r m ⟨e, _⟩; cases e)
                rintro r m ⟨e, hmx, hmb⟩
                cases e
                have hml := hmb.len
                have hmn : ∀ l, (m ++ l)[mu.length]? = some (.arr [aI n.op, aS nm1, aI n.n, av, aI n.pos]) := fun l => by rw [List.getElem?_append_left (by omega), hmb.same _ (by omega) (by omega)]; exact g2n
                have hcc := g2o.cells
                have hon := g2o.one
                have hsz : IntKind.i64.wrap (z + k') = z + k' := wrap_i64 (by have := hg.z0; omega) (by have := hg.cz; have := hg.c1; omega)
                have ho3 : OwnF (mu.length + 2) (m ++ [Cell.arr (cNd n')]) 5 av (acc.map cNd) := ownF_same g2o (by simp; omega) fun i h1 h2 => by rw [List.getElem?_append_left (by omega), hmb.same i (by omega) (by omega)]
                simp [go_sem, e0, e3, e6, e8, e17, e87, e88, e89, hmn, hcc, hon, hsz, cNd_ones]
                refine appNd ho3 (by omega) fun av' m' ho' hm' => ?_
                have hlm := ho'.2.2
                have hmn' : m'[mu.length]? = some (.arr [aI n.op, aS nm1, aI n.n, av, aI n.pos]) := by rw [hm' _ (by omega)]; exact hmn _
                have hcc' := ho'.cells
                have hon' := ho'.one
                simp [go_sem, e0, e3, e6, e8, e17, e87, e88, e89, hmn', hcc', hon', hsz, w1, w2, cNd_ones]
                refine ⟨hlt, Keep.mk' ?_⟩
                refine ⟨acc ++ [n'], env1, nm1, s', av', z + k', by simp [go_sem, e0], by simp [go_sem, et1], by simp [go_sem, e3], by simp [go_sem, e6], by simp [go_sem, e8], by simp [go_sem], by simp [go_sem, e87], by simp [go_sem, e88], by simp [go_sem], ?_, ?_, ?_, ?_, ?_, hev2, by simp; omega, hg.l0, by have := hg.cz; have := hg.z0; omega, hg.c1, Int.le_trans hd3 hg.p, by have := hg.cz; have := hg.z0; omega, by have := hg.z0; omega, by have := hg.cz; omega, ?_⟩
                all_goals try simp only [put_mu]
                · refine ⟨by simp; omega, fun i h1 h2 => ?_⟩
                  rw [List.getElem?_set_ne (by omega), hm' i (by omega), List.getElem?_append_left (by omega), hmb.same i (by omega) h2]
                  exact g2b.same i h1 h2
                · rw [List.getElem?_set_ne (by omega), hm' _ (by omega), List.getElem?_append_left (by omega)]; exact hmx
                · rw [List.getElem?_set_ne (by omega), hm' _ (by omega), List.getElem?_append_left (by omega), hmb.same _ (by omega) (by omega)]; exact g2r
                · exact List.getElem?_set_self (by omega)
                · exact ho'.set (by omega)
                · rw [← hI]
                  generalize expKs (fun env k s => expI ts es f env k body s) (fun env nm s => renI ts es env nm body s) (binB n.op) (1 + 1) env1 nm1 (n.kids.drop (1 + 1)) s' = W
                  cases W with
                  | error e => rfl
                  | ok q => simp [bindX, Int.add_assoc]
            · have hk1' : ¬ (k : Int) = 1 := by omega
              simp [go_sem, e0, e1, e3, e6, e8, e17, e87, e88, e89, hlt, gn1, hk1', cNd_ones]
              have hM2l : st.mu.length + 1 ≤ (st.mu ++ [Cell.arr (cNd n.kids[k])]).length := by simp
              have g2x : (st.mu ++ [Cell.arr (cNd n.kids[k])])[xb]? = some (.arr (cIn ts tb s2)) := by rw [hpush _ _ (by omega)]; exact gx
              have g2t : (st.mu ++ [Cell.arr (cNd n.kids[k])])[tb]? = some (.mp (eSet es)) := by rw [hpush _ _ (by omega)]; exact gt
              have g2n := gn1 [Cell.arr (cNd n.kids[k])]
              have g2r : (st.mu ++ [Cell.arr (cNd n.kids[k])])[mu.length + 1]? = some (.arr [aI 0, aS ⟨#[]⟩, aI 0, .lst true [], aI 0]) := by rw [hpush _ _ (by omega)]; exact gr
              have g2o : OwnF (mu.length + 2) (st.mu ++ [Cell.arr (cNd n.kids[k])]) 5 av (acc.map cNd) := ownF_same go (by omega) fun i q1 q2 => hpush _ _ q2
              have g2b : But xb mu (st.mu ++ [Cell.arr (cNd n.kids[k])]) := hbut.trans (But.app xb st.mu _)
              have hst3 : StOk (fuelN ts es) s2 := ⟨hl0, hc0, hc1, by have := dueN_nn (fuelN ts es) (binB n.op) k; omega⟩
              have hd3 : dueN (fuelN ts es) (binB n.op) (k + 1) ≤ pot (fuelN ts es) s2 := by rw [← dueN_next hb]; exact hdue
              have hcost3 := hcost
              have hz3 := hz2
              have hev2 := hev
              have et1 := e1
              generalize st.mu ++ [Cell.arr (cNd n.kids[k])] = M2 at *
              have hkm : n.kids[k] ∈ n.kids := List.getElem_mem hlt
              have hcall := ih env1 n.kids[k] body s2 M2 xb (by omega) hst3 hev2 (hw.kid hkm) (hcl.kid hkm) g2x g2t
              have hgo : ∀ {n' z s'}, expI ts es f env1 n.kids[k] body s2 = .ok ((n', z), s') → Gos (fuelN ts es) s2 s' z := fun e => expI_go ts hfr f hst3 hev2 e
              generalize hE : expI ts es f env1 n.kids[k] body s2 = E at *
              cases E with
              | error d =>
                have hI : R = .error d := hI.symm
                subst hI
                refine CallStep.eff0 hcall (by rintro r m ⟨e, _⟩; cases e) ?_
                rintro r m ⟨e, hmb⟩
                cases e
                simp [go_sem]
                exact ⟨rfl, g2b.trans hmb⟩
              | ok q =>
                obtain ⟨⟨n', k'⟩, s'⟩ := q
                have hg := hgo rfl
                simp only at hI
                refine CallStep.eff0 hcall ?_ (by rintro r m ⟨e, _⟩; cases e)
                rintro r m ⟨e, hmx, hmb⟩
                cases e
                have hml := hmb.len
                have hmn : ∀ l, (m ++ l)[mu.length]? = some (.arr [aI n.op, aS nm1, aI n.n, av, aI n.pos]) := fun l => by rw [List.getElem?_append_left (by omega), hmb.same _ (by omega) (by omega)]; exact g2n
                have hcc := g2o.cells
                have hon := g2o.one
                have hsz : IntKind.i64.wrap (z + k') = z + k' := wrap_i64 (by have := hg.z0; omega) (by have := hg.cz; have := hg.c1; omega)
                have ho3 : OwnF (mu.length + 2) (m ++ [Cell.arr (cNd n')]) 5 av (acc.map cNd) := ownF_same g2o (by simp; omega) fun i h1 h2 => by rw [List.getElem?_append_left (by omega), hmb.same i (by omega) (by omega)]
                simp [go_sem, e0, e3, e6, e8, e17, e87, e88, e89, hmn, hcc, hon, hsz, cNd_ones]
                refine appNd ho3 (by omega) fun av' m' ho' hm' => ?_
                have hlm := ho'.2.2
                have hmn' : m'[mu.length]? = some (.arr [aI n.op, aS nm1, aI n.n, av, aI n.pos]) := by rw [hm' _ (by omega)]; exact hmn _
                have hcc' := ho'.cells
                have hon' := ho'.one
                simp [go_sem, e0, e3, e6, e8, e17, e87, e88, e89, hmn', hcc', hon', hsz, w1, w2, cNd_ones]
                refine ⟨hlt, Keep.mk' ?_⟩
                refine ⟨acc ++ [n'], env1, nm1, s', av', z + k', by simp [go_sem, e0], by simp [go_sem, et1], by simp [go_sem, e3], by simp [go_sem, e6], by simp [go_sem, e8], by simp [go_sem], by simp [go_sem, e87], by simp [go_sem, e88], by simp [go_sem], ?_, ?_, ?_, ?_, ?_, hev2, by simp; omega, hg.l0, by have := hg.cz; have := hg.z0; omega, hg.c1, Int.le_trans hd3 hg.p, by have := hg.cz; have := hg.z0; omega, by have := hg.z0; omega, by have := hg.cz; omega, ?_⟩
                all_goals try simp only [put_mu]
                · refine ⟨by simp; omega, fun i h1 h2 => ?_⟩
                  rw [List.getElem?_set_ne (by omega), hm' i (by omega), List.getElem?_append_left (by omega), hmb.same i (by omega) h2]
                  exact g2b.same i h1 h2
                · rw [List.getElem?_set_ne (by omega), hm' _ (by omega), List.getElem?_append_left (by omega)]; exact hmx
                · rw [List.getElem?_set_ne (by omega), hm' _ (by omega), List.getElem?_append_left (by omega), hmb.same _ (by omega) (by omega)]; exact g2r
                · exact List.getElem?_set_self (by omega)
                · exact ho'.set (by omega)
                · rw [← hI]
                  generalize expKs (fun env k s => expI ts es f env k body s) (fun env nm s => renI ts es env nm body s) (binB n.op) (k + 1) env1 nm1 (n.kids.drop (k + 1)) s' = W
                  cases W with
                  | error e => rfl
                  | ok q => simp [bindX, Int.add_assoc]
    · rw [if_neg hcc] at e; cases e
  · rintro r m ⟨rfl, e⟩
    by_cases hcc : s.cost + 1 ≤ 4000
    · rw [if_pos hcc] at e; cases e
    · rw [if_neg hcc] at e hR
      cases e
      subst hR
      simp [go_sem]
      exact ⟨rfl, (But.app xb mu _).trans (But.setX xb _ _)⟩
theorem expandU (ts : TS) (h : okTS ts) (hb : ∀ p, p ∈ ts.preds → WfN p.body ∧ CallsOk ts p.body) (es : List (ByteArray × Bool)) (hF : fuelN ts es ≤ 200000) (hfr : Free ts es) (tb : Nat) : ∀ f : Nat, IHE ts es tb f
  | 0 => fun env n body s mu xb hc hs he hw hcl hx ht => by have := hs.c1; omega
  | f + 1 => fun env n body s mu xb hc hs he hw hcl hx ht => by
    by_cases h1 : n.op = 1
    · have := expandN ts es tb env n body s mu xb hs he hx ht h1
      have e : expI ts es (f + 1) env n body s = if s.cost + 1 ≤ 4000 then replI env n (payS 1 s) else .error (2, 0) := by simp only [expI, h1, if_true]
      rw [e]; exact this
    · by_cases h47 : n.op = 47
      · exact expandC ts h hb es hF hfr tb f (expandU ts h hb es hF hfr tb f) env n body s mu xb hc hs he hw hcl hx ht h47
      · exact expandK ts h es hF hfr tb f (expandU ts h hb es hF hfr tb f) env n body s mu xb hc hs he hw hcl hx ht h1 h47
end Go.Proofs.YtcfopdccdeeleaaGreatDoor.YD
