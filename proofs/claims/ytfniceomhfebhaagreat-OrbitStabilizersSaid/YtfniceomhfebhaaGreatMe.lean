/-
  Own library, part 5: an abstract reading of values and a calculus over it; contracts of functions; plain lemmas.
-/
import Derived.Test.YtfniceomhfebhaaGreatMd

set_option linter.unusedVariables false
set_option linter.unusedSimpArgs false
set_option maxRecDepth 100000
namespace Go.Proofs.YtfniceomhfebhaaGreat.L10
open Go Go.Ev Go.Proofs C1 C2 C3 C4 C5 C6 C7 C9 C10 C11 C12 C13 C14 C15 C16 C17 C18 C19 C20 C21 C22 C23 C24 C25 C26 C27 C28 C29 C30 C31 C32 C33 C34 C35 L1 L2 L3 L4 L5 L6 L7 L8 L9

/-! ### bounds that fit -/
structure Fit (sp : Sp) (sc : Sc) (bs : List Bd) (most : Int) (N : Nat) : Prop where
  ok : fitsOk sp sc bs most = true
  u : GU sc
  hN : sumI sc.atoms = N
  hsp : sc.atoms.length = sp.sorts.length
  gb : GBs (sumI sc.atoms) bs
  g : ∀ r, r ∈ relsOf bs → GRel N r
  le : (N : Int) ≤ most
  le12 : N ≤ 12
  bl : bs.length = sp.fields.length
  b6 : bs.length ≤ 6
  fit : ∀ p, p ∈ bs.zip sp.fields → fit1 sp sc p.1 p.2 = true
theorem sideOk_grel {sc : Sc} {f : Fld} {r : Rl} (h : sideOk sc f r = true) : GRel (sumI sc.atoms) r := by
  simp only [sideOk, validOk, Bool.and_eq_true, decide_eq_true_eq, List.all_eq_true] at h
  obtain ⟨⟨⟨h1, h2⟩, ⟨⟨⟨⟨⟨h3, h4⟩, h5⟩, h6⟩, h7⟩, h8⟩⟩, _⟩ := h
  refine ⟨h5, h6, h2, fun t ht => ?_, h8⟩
  have := h7 t ht
  unfold powI powN at this
  rw [Int.min_eq_left h6] at this
  exact this
theorem Fit.of {sp : Sp} {sc : Sc} {bs : List Bd} {most : Int} (h : fitsOk sp sc bs most = true) : ∃ N, Fit sp sc bs most N := by
  have h' := h
  simp only [fitsOk, Bool.and_eq_true, decide_eq_true_eq, List.all_eq_true] at h'
  obtain ⟨⟨⟨⟨⟨h1, h2⟩, h3⟩, h4⟩, h5⟩, h6⟩ := h'
  have g := scopeOk_g h2
  have h2' := h2
  simp only [scopeOk, Bool.and_eq_true, decide_eq_true_eq] at h2'
  have h0 : 0 ≤ sumI sc.atoms := (sumI_bounds sc.atoms 5 (fun a ha => g.2 a ha)).1
  obtain ⟨N, hN⟩ := Int.eq_ofNat_of_zero_le h0
  have hrel : ∀ b, b ∈ bs → GRel (sumI sc.atoms) b.lo ∧ GRel (sumI sc.atoms) b.up := by
    intro b hb
    obtain ⟨i, hi, e⟩ := List.mem_iff_getElem.1 hb
    have hi2 : i < sp.fields.length := by omega
    have := h6 (bs[i], sp.fields[i]) (List.mem_iff_getElem.2 ⟨i, by simp; omega, by simp⟩)
    simp only [fit1, Bool.and_eq_true] at this
    rw [← e]
    exact ⟨sideOk_grel this.1.1.2, sideOk_grel this.1.2⟩
  have gb : GBs (sumI sc.atoms) bs := ⟨h5, hrel⟩
  exact ⟨N, h, ⟨g, h0, h2'.2⟩, hN, h2'.1.1.1.1.1, gb, by rw [← hN]; exact gb.rels.2, by omega, by have := h2'.2; omega, h4, h5, h6⟩
theorem Fit.sort {sp : Sp} {sc : Sc} {bs : List Bd} {most : Int} {N : Nat} (F : Fit sp sc bs most N) {x : Nat} (hx : x < N) : 0 ≤ sortU sc x ∧ sortU sc x < sp.sorts.length := by
  have := sortU_range F.u.g (x := (x : Int)) (by omega) (by rw [F.hN]; omega)
  rw [F.hsp] at this; exact this

theorem fixes_iff {sp : Sp} {sc : Sc} {bs : List Bd} {most : Int} {N : Nat} (F : Fit sp sc bs most N) {p : List Int} (hp : PermL N p) : fixesOk sp sc p = true ↔ FixO sp sc N p := by
  unfold fixesOk FixO
  rw [allN_iff, hp.len]
  refine forall_congr' fun x => ?_
  constructor
  · intro h hx
    have h := h hx
    have hs := F.sort hx
    unfold sortU at hs ⊢
    rw [if_neg (by omega)] at hs ⊢
    unfold fix1 at h
    simp only [Bool.not_eq_true', Bool.and_eq_false_iff, decide_eq_false_iff_not] at h
    unfold ordAt
    rcases h with ((h | h) | h) | h
    · exact absurd hs.1 h
    · exact absurd hs.2 h
    · exact .inr h
    · refine .inl ?_
      have h : gI p x = x := Decidable.byContradiction fun hc => h hc
      unfold ap; rw [h]; rfl
  · intro h hx
    have h := h hx
    unfold sortU at h
    rw [if_neg (by omega)] at h
    unfold fix1
    simp only [Bool.not_eq_true', Bool.and_eq_false_iff, decide_eq_false_iff_not]
    rcases h with h | h
    · refine .inr fun hc => hc ?_
      rw [hp.ap_eq hx, h]
    · exact .inl (.inr h)

/-- the group -/
theorem class_fix {sp : Sp} {sc : Sc} {bs : List Bd} {most : Int} {N : Nat} (F : Fit sp sc bs most N) {p : List Int} (hp : PermL N p) (h : ∀ x, x < N → gI (stableS sp sc bs).1 (ap p x) = gI (stableS sp sc bs).1 x) : FixO sp sc N p ∧ KeepS (sortsL sc) N p := by
  obtain ⟨m, _, S⟩ := stableF (sp := sp) F.hN F.g
  have key : ∀ x, x < N → ap p x = x ∨ alike0 sp sc (ap p x) x = true := fun x hx => S.fine0 _ _ (hp.ap_lt hx) hx (h x hx)
  refine ⟨fun x hx => ?_, fun x hx => ?_⟩
  · rcases key x hx with h | h
    · exact .inl h
    · simp only [alike0, Bool.and_eq_true, decide_eq_true_eq, Bool.not_eq_true'] at h
      rw [← h.1]; exact .inr h.2
  · rcases key x hx with h | h
    · rw [h]
    · simp only [alike0, Bool.and_eq_true, decide_eq_true_eq, Bool.not_eq_true'] at h
      rw [sortsL_get F.u.g F.hN (hp.ap_lt hx), sortsL_get F.u.g F.hN hx]; exact h.1
theorem mem_grp {sp : Sp} {sc : Sc} {bs : List Bd} {most : Int} {N : Nat} (F : Fit sp sc bs most N) {q : List Int} : q ∈ grpS sp sc N bs ↔ SymP sc N (relsOf bs) q ∧ FixO sp sc N q := by
  unfold grpS
  rw [mem_ext0]
  constructor
  · rintro ⟨hp, h⟩
    have hc := class_fix F hp fun x hx => (h x hx).1
    exact ⟨⟨hp, hc.2, (cons_iff F.g hp).1 fun k hk => (h k hk).2⟩, hc.1⟩
  · rintro ⟨hs, hf⟩
    have h1 := sym_class F.u.g F.hN F.g hs hf
    have h2 := (cons_iff F.g hs.perm).2 hs.cl
    exact ⟨hs.perm, fun k hk => ⟨h1 k hk, h2 k hk⟩⟩
theorem grp_filter {sp : Sp} {sc : Sc} {bs : List Bd} {most : Int} {N : Nat} (F : Fit sp sc bs most N) : grpS sp sc N bs = (allS N sc).filter fun q => fixesOk sp sc q && symB sc bs q := by
  obtain ⟨m, _, S⟩ := stableF (sp := sp) F.hN F.g
  have h1 : grpS sp sc N bs = (allS N sc).filter fun q => okF (stableS sp sc bs).1 (consB N (relsOf bs)) q 0 N := by
    unfold grpS allS
    refine extG_filter (fun pre y hp hy h => ?_) N [] (by simp)
    refine ⟨?_, h.2.1, rfl⟩
    rcases S.fine0 y pre.length hy hp h.1 with e | e
    · rw [e]
    · simp only [alike0, Bool.and_eq_true, decide_eq_true_eq] at e
      rw [sortsL_get F.u.g F.hN hy, sortsL_get F.u.g F.hN hp]; exact e.1
  rw [h1]
  refine List.filter_congr fun q hq => ?_
  obtain ⟨hp, hk⟩ := mem_allS.1 hq
  rw [Bool.eq_iff_iff, okF_iff, Bool.and_eq_true, fixes_iff F hp, symB_iff F.hN F.g]
  have hgo : (∀ k, 0 ≤ k → k < 0 + N → goOn (stableS sp sc bs).1 (consB N (relsOf bs)) (q.take k) (ap q k)) ↔ ∀ k, k < N → gI (stableS sp sc bs).1 (ap q k) = gI (stableS sp sc bs).1 k ∧ consB N (relsOf bs) (q.take (k + 1)) = true :=
    ⟨fun h k hk => (goOn_perm hp hk).1 (h k (by omega) (by omega)), fun h k _ hk => (goOn_perm hp (by omega)).2 (h k (by omega))⟩
  rw [hgo]
  constructor
  · intro h
    have hc := class_fix F hp fun x hx => (h x hx).1
    exact ⟨hc.1, hp, hk, (cons_iff F.g hp).1 fun k hk => (h k hk).2⟩
  · rintro ⟨hf, hs⟩ k hk'
    exact ⟨sym_class F.u.g F.hN F.g hs hf k hk', (cons_iff F.g hp).2 hs.cl k hk'⟩
theorem FixO.comp {sp : Sp} {sc : Sc} {N : Nat} {p q : List Int} (hp : PermL N p) (hq : PermL N q) (h : FixO sp sc N p) (k : FixO sp sc N q) : FixO sp sc N (composeL p q) := fun x hx => by
  rw [comp_ap hq hx]
  rcases k x hx with e | e
  · rw [e]; exact h x hx
  · exact .inr e
theorem FixO.inv {sp : Sp} {sc : Sc} {N : Nat} {p : List Int} (hp : PermL N p) (h : FixO sp sc N p) (u : GSc sc) (hN : sumI sc.atoms = N) (hk : KeepS (sortsL sc) N p) : FixO sp sc N (invL p) := fun x hx => by
  obtain ⟨h1, h2⟩ := inv_ok hp
  have hl := h1.ap_lt hx
  have e := inv_ap2 hp hx
  rcases h _ hl with k | k
  · rw [e] at k; exact .inl k.symm
  · refine .inr ?_
    have := hk _ hl
    rw [e, sortsL_get u hN hx, sortsL_get u hN hl] at this
    rw [this]; exact k
theorem grp_id {sp : Sp} {sc : Sc} {bs : List Bd} {most : Int} {N : Nat} (F : Fit sp sc bs most N) : idL N ∈ grpS sp sc N bs := (mem_grp F).2 ⟨.id F.g, fun x hx => .inl (ap_id hx)⟩
theorem grp_comp {sp : Sp} {sc : Sc} {bs : List Bd} {most : Int} {N : Nat} (F : Fit sp sc bs most N) {p q : List Int} (hp : p ∈ grpS sp sc N bs) (hq : q ∈ grpS sp sc N bs) : composeL p q ∈ grpS sp sc N bs := by
  obtain ⟨h1, h2⟩ := (mem_grp F).1 hp
  obtain ⟨k1, k2⟩ := (mem_grp F).1 hq
  exact (mem_grp F).2 ⟨.comp F.g h1 k1, FixO.comp h1.perm k1.perm h2 k2⟩
theorem grp_inv {sp : Sp} {sc : Sc} {bs : List Bd} {most : Int} {N : Nat} (F : Fit sp sc bs most N) {p : List Int} (hp : p ∈ grpS sp sc N bs) : invL p ∈ grpS sp sc N bs := by
  obtain ⟨h1, h2⟩ := (mem_grp F).1 hp
  exact (mem_grp F).2 ⟨.inv F.g h1, FixO.inv h1.perm h2 F.u.g F.hN h1.keep⟩
end Go.Proofs.YtfniceomhfebhaaGreat.L10

set_option linter.unusedVariables false
set_option linter.unusedSimpArgs false
set_option maxRecDepth 100000
namespace Go.Proofs.YtfniceomhfebhaaGreat.L11
open Go Go.Ev Go.Proofs C1 C2 C3 C4 C5 C6 C7 C9 C10 C11 C12 C13 C14 C15 C16 C17 C18 C19 C20 C21 C22 C23 C24 C25 C26 C27 C28 C29 C30 C31 C32 C33 C34 C35 L1 L2 L3 L4 L5 L6 L7 L8 L9 L10

abbrev args3 (sp : Sp) (sc : Sc) (bs : List Bd) : WKs [eSp sp, eSc sc, lBd bs] [eSp sp, eSc sc, lBd bs] := .cons (.hf (hf_eSp sp)) (.cons (.hf (hf_eSc sc)) (.cons (.hf (hf_lBd bs)) .nil))
/-- how many of the first k pass -/
theorem filter_step {α : Type} (l : List α) (f : α → Bool) (k : Nat) (h : k < l.length) : (l.take (k + 1)).filter f = (l.take k).filter f ++ (if f l[k] = true then [l[k]] else []) := by
  rw [List.take_add_one, List.getElem?_eq_getElem h, List.filter_append]
  by_cases hf : f l[k] = true <;> simp [hf]
end Go.Proofs.YtfniceomhfebhaaGreat.L11

set_option linter.unusedVariables false
set_option linter.unusedSimpArgs false
set_option maxRecDepth 100000
namespace Go.Proofs.YtfniceomhfebhaaGreat.L12
open Go Go.Ev Go.Proofs C1 C2 C3 C4 C5 C6 C7 C8 C9 C10 C11 C12 C13 C14 C15 C16 C17 C18 C19 C20 C21 C22 C23 C24 C25 C26 C27 C28 C29 C30 C31 C32 C33 C34 C35 L1 L2 L3 L4 L5 L6 L7 L8 L9 L10 L11

end Go.Proofs.YtfniceomhfebhaaGreat.L12

set_option linter.unusedVariables false
set_option linter.unusedSimpArgs false
set_option maxRecDepth 100000
namespace Go.Proofs.YtfniceomhfebhaaGreat.L13
open Go Go.Ev Go.Proofs C1 C2 C3 C4 C5 C6 C7 C8 C9 C10 C11 C12 C13 C14 C15 C16 C17 C18 C19 C20 C21 C22 C23 C24 C25 C26 C27 C28 C29 C30 C31 C32 C33 C34 C35 L1 L2 L3 L4 L5 L6 L7 L8 L9 L10 L11 L12

theorem extG_nodup {N : Nat} {cls : List Int} {cons : List Int → Bool} : ∀ (d : Nat) (p : List Int), (extG N cls cons d p).Nodup
  | 0, p => by simp [extG]
  | d + 1, p => by
    rw [extG]
    unfold List.Nodup
    rw [List.pairwise_flatMap]
    refine ⟨fun y hy => ?_, ?_⟩
    · split
      · exact extG_nodup d _
      · exact List.nodup_nil
    · refine List.Pairwise.imp ?_ (List.nodup_range (n := N))
      intro y z hyz q hq r hr e
      subst e
      by_cases c1 : goOn cls cons p y
      · by_cases c2 : goOn cls cons p z
        · rw [if_pos c1] at hq
          rw [if_pos c2] at hr
          have h1 := extG_step hq
          have h2 := extG_step hr
          exact hyz (h1.2.symm.trans h2.2)
        · rw [if_neg c2] at hr; simp at hr
      · rw [if_neg c1] at hq; simp at hq
theorem grp_nodup (sp : Sp) (sc : Sc) (N : Nat) (bs : List Bd) : (grpS sp sc N bs).Nodup := extG_nodup N []

theorem comp_assoc {N : Nat} {p q r : List Int} (hp : PermL N p) (hq : PermL N q) (hr : PermL N r) : composeL (composeL p q) r = composeL p (composeL q r) :=
  perm_ext (comp_perm (comp_perm hp hq) hr) (comp_perm hp (comp_perm hq hr)) fun x hx => by rw [comp_ap hr hx, comp_ap hq (hr.ap_lt hx), comp_ap (comp_perm hq hr) hx, comp_ap hr hx]
theorem comp_id_l {N : Nat} {p : List Int} (hp : PermL N p) : composeL (idL N) p = p := perm_ext (comp_perm (idL_perm N) hp) hp fun x hx => by rw [comp_ap hp hx, ap_id (hp.ap_lt hx)]
theorem comp_inv_l {N : Nat} {p : List Int} (hp : PermL N p) : composeL (invL p) p = idL N := perm_ext (comp_perm (inv_ok hp).1 hp) (idL_perm N) fun x hx => by rw [comp_ap hp hx, (inv_ok hp).2 x hx, ap_id hx]
theorem comp_inv_r {N : Nat} {p : List Int} (hp : PermL N p) : composeL p (invL p) = idL N := perm_ext (comp_perm hp (inv_ok hp).1) (idL_perm N) fun x hx => by rw [comp_ap (inv_ok hp).1 hx, inv_ap2 hp hx, ap_id hx]
end Go.Proofs.YtfniceomhfebhaaGreat.L13

set_option linter.unusedVariables false
set_option linter.unusedSimpArgs false
set_option maxRecDepth 100000
namespace Go.Proofs.YtfniceomhfebhaaGreat.L14
open Go Go.Ev Go.Proofs C1 C2 C3 C4 C5 C6 C7 C8 C9 C10 C11 C12 C13 C14 C15 C16 C17 C18 C19 C20 C21 C22 C23 C24 C25 C26 C27 C28 C29 C30 C31 C32 C33 C34 C35 L1 L2 L3 L4 L5 L6 L7 L8 L9 L10 L11 L12 L13

end Go.Proofs.YtfniceomhfebhaaGreat.L14

set_option linter.unusedVariables false
set_option linter.unusedSimpArgs false
set_option maxRecDepth 100000
namespace Go.Proofs.YtfniceomhfebhaaGreat.L15
open Go Go.Ev Go.Proofs C1 C2 C3 C4 C5 C6 C7 C8 C9 C10 C11 C12 C13 C14 C15 C16 C17 C18 C19 C20 C21 C22 C23 C24 C25 C26 C27 C28 C29 C30 C31 C32 C33 C34 C35 L1 L2 L3 L4 L5 L6 L7 L8 L9 L10 L11 L12 L13 L14

theorem inj_len {α β : Type} {l : List α} {l' : List β} (f : α → β) (hn : l.Nodup) (hs : ∀ x, x ∈ l → f x ∈ l') (hi : ∀ x, x ∈ l → ∀ y, y ∈ l → f x = f y → x = y) : l.length ≤ l'.length := by
  have hm : (l.map f).Nodup := by
    unfold List.Nodup
    rw [List.pairwise_map]
    exact List.Pairwise.imp_of_mem (fun {x y} hx hy hne e => hne (hi x hx y hy e)) hn
  have := List.Nodup.length_le_of_subset hm (l₂ := l') (fun y hy => by
    obtain ⟨x, hx, rfl⟩ := List.mem_map.1 hy
    exact hs x hx)
  simpa using this

theorem digN_at (n t : Int) : ∀ (k j : Nat), j < k → (digN n t k)[k - 1 - j]? = some (divN n t j % n)
  | 0, j, h => by omega
  | k + 1, j, h => by
    rw [digN]
    by_cases hj : j = k
    · subst hj
      simp
    · have := digN_at n t k j (by omega)
      rw [show k + 1 - 1 - j = (k - 1 - j) + 1 by omega, List.getElem?_cons_succ]
      exact this
theorem cols_iff (sc : Sc) (n : Int) : ∀ (l : List Int) (t : Int), colsOk sc n l t = true ↔ ∀ j (h : j < l.length), sortAt sc (divN n t j % n) = l[j]
  | [], t => by simp [colsOk]
  | s :: l, t => by
    have ih := cols_iff sc n l (t / n)
    have hd : ∀ j, divN n t (j + 1) = divN n (t / n) j := by
      intro j
      induction j with
      | zero => rfl
      | succ j ihj => rw [divN, ihj]; rfl
    rw [colsOk, Bool.and_eq_true, ih, decide_eq_true_eq]
    constructor
    · rintro ⟨h1, h2⟩ j hj
      cases j with
      | zero => exact h1
      | succ j => rw [hd]; exact h2 j (by simpa using hj)
    · intro h
      refine ⟨h 0 (by simp), fun j hj => ?_⟩
      have := h (j + 1) (by simpa using hj)
      rw [hd] at this; exact this
theorem act_divN {N : Nat} {p : List Int} (hp : PermL N p) (hN : 1 ≤ N) (k : Nat) (t : Int) {j : Nat} (h : j < k) : divN N (act p N k t) j % N = gI p (divN N t j % N).toNat := by
  have h1 := digN_at N (act p N k t) k j h
  rw [(act_dig hp hN k t).1, List.getElem?_map, digN_at N t k j h] at h1
  simpa using h1.symm
theorem cols_act {sc : Sc} (g : GSc sc) {N : Nat} (hsum : sumI sc.atoms = N) {p : List Int} (hp : PermL N p) (hN : 1 ≤ N) (hk : KeepS (sortsL sc) N p) {l : List Int} {t : Int} (h : colsOk sc N l t = true) : colsOk sc N l (act p N l.length t) = true := by
  rw [cols_iff] at h ⊢
  intro j hj
  rw [act_divN hp hN l.length t hj, ← h j hj]
  have hm0 := Int.emod_nonneg (divN N t j) (show (N : Int) ≠ 0 by omega)
  have hm1 := Int.emod_lt_of_pos (divN N t j) (show (0 : Int) < N by omega)
  generalize divN N t j % N = d at *
  have hd : d.toNat < N := by omega
  have := hk d.toNat hd
  rw [sortsL_get g hsum (hp.ap_lt hd), sortsL_get g hsum hd] at this
  unfold sortU at this
  rw [if_neg (by omega), if_neg (by omega)] at this
  rw [hp.ap_eq hd, this]
  congr 1; omega
end Go.Proofs.YtfniceomhfebhaaGreat.L15

set_option linter.unusedVariables false
set_option linter.unusedSimpArgs false
set_option maxRecDepth 100000
namespace Go.Proofs.YtfniceomhfebhaaGreat.R1
open Go Go.Ev Go.Proofs C1 C2 C3 C4 C5 C6 C7 C8 C9 C10 C11 C12 C13 C14 C15 C16 C17 C18 C19 C20 C21 C22 C23 C24 C25 C26 C27 C28 C29 C30 C31 C32 C33 C34 C35 L1 L2 L3 L4 L5 L6 L7 L8 L9 L10 L11 L12 L13 L14 L15

theorem atoms11 (sc : Sc) (g : GSc sc) : SoundP Tryz.prog 48 [eSc sc] (aI (sumI sc.atoms)) := by
  refine SoundP.of_sound (Sound.of_awp Tryz.call48 Tryz.func48 rfl (Nat.le_of_ble_eq_true (by kernel_rfl)) (by kernel_rfl) (pl := {}) ?_)
  simp [go_sem]
  refine LoopGo.up sc.atoms.length (fun k st => st.tm 1 = .ip [lI sc.atoms, aI sc.steps] ∧ st.tm 3 = aI (sumI (sc.atoms.take k)) ∧ st.tm 4 = aI k ∧ st.mu = []) ?_ ?_
  · simp [go_sem, sumI]
  rintro k st hk ⟨h1, h3, h4, hm⟩
  have hl := g.1
  simp [go_sem, h1, h3, h4, hm]
  refine BrS.intro (fun hlt => ?_) (fun hge => ?_)
  · have hlt : k < sc.atoms.length := by simpa using hlt
    have hs := sumI_take_succ sc.atoms k hlt
    have hb' := g.sum (k + 1)
    rw [hs] at hb'
    simp [go_sem, h1, h3, h4, hm, hlt]
    exact ⟨by rw [hs, wrap_i64 (by omega) (by omega)], wrap_i64 (by omega) (by omega)⟩
  · have hge : k = sc.atoms.length := by simp at hge; omega
    subst hge
    simp [go_sem, h1, h3, h4, hm]
    exact .hf _ (HF.sc _)


theorem sort11 (sc : Sc) (g : GSc sc) (x : Int) (hx : -1000000 ≤ x ∧ x ≤ 1000000) : SoundP Tryz.prog 49 [eSc sc, aI x] (aI (sortAt sc x)) := by
  refine SoundP.of_sound (Sound.of_awp Tryz.call49 Tryz.func49 rfl (Nat.le_of_ble_eq_true (by kernel_rfl)) (by kernel_rfl) (pl := {}) ?_)
  simp [go_sem]
  refine LoopGo.up sc.atoms.length (fun k st => st.tm 2 = .ip [lI sc.atoms, aI sc.steps] ∧ st.tm 5 = aI k ∧ st.mu = [] ∧ ∃ y, st.tm 1 = aI y ∧ sortIn (sc.atoms.drop k) y k = sortAt sc x ∧ y + 5 * k ≥ x ∧ y ≤ x) ?_ ?_
  · simp [go_sem, sortAt]
  rintro k st hk ⟨h1, h3, hm, y, h4, hy, hy1, hy2⟩
  have hl := g.1
  simp [go_sem, h1, h3, h4, hm]
  refine BrS.intro (fun hlt => ?_) (fun hge => ?_)
  · have hlt : k < sc.atoms.length := by simpa using hlt
    have hg := g.get hlt
    rw [sortIn_drop _ _ _ _ hlt] at hy
    simp [go_sem, h1, h3, h4, hm, hlt]
    refine BrS.intro (fun hb => ?_) (fun hb => ?_)
    · simp [go_sem, h1, h3, h4, hm, hlt]
      simp at hb
      rw [if_pos hb] at hy
      rw [← hy]
      exact .hf _ (HF.sc _)
    · simp [go_sem, h1, h3, h4, hm, hlt]
      simp at hb
      rw [if_neg (by omega)] at hy
      rw [wrap_i64 (by omega) (by omega), wrap_i64 (by omega) (by omega)]
      exact ⟨rfl, hy, by omega, by omega⟩
  · have hge : k = sc.atoms.length := by simp at hge; omega
    subst hge
    simp [go_sem, h1, h3, h4, hm]
    simp [sortIn] at hy
    rw [← hy]
    exact .hf _ (HF.sc _)


theorem equal06 (a b : Rl) (hl : a.ts.length ≤ 4611686018427387904) : SoundP Tryz.prog 34 [eRel a, eRel b] (aB (decide (a = b))) := by
  have hab : (a = b) = (a.ar = b.ar ∧ a.ts = b.ts) := by cases a; cases b; simp
  refine SoundP.of_sound (Sound.of_awp Tryz.call34 Tryz.func34 rfl (Nat.le_of_ble_eq_true (by kernel_rfl)) (by kernel_rfl) (pl := {}) ?_)
  by_cases h1 : a.ar = b.ar
  case neg =>
    simp [go_sem, h1, hab]
    exact .hf _ (HF.sc _)
  by_cases h2 : a.ts.length = b.ts.length
  case neg =>
    simp [go_sem, h1, h2]
    rw [decide_eq_false (by rintro rfl; exact h2 rfl)]
    exact .hf _ (HF.sc _)
  simp [go_sem, h1, h2]
  refine LoopGo.up a.ts.length (fun k st => st.tm 2 = .ip [aI a.ar, lI a.ts] ∧ st.tm 3 = .ip [aI b.ar, lI b.ts] ∧ st.tm 5 = aI k ∧ st.mu = [] ∧ ∀ (i : Nat) (h : i < a.ts.length) (h' : i < b.ts.length), i < k → a.ts[i] = b.ts[i]) ?_ ?_
  · simp [go_sem, h1]
  rintro k st hk ⟨e2, e3, e5, hm, he⟩
  by_cases hlt : k < a.ts.length
  · have hlt' : k < b.ts.length := by omega
    by_cases hb : a.ts[k] = b.ts[k]
    · simp [go_sem, e2, e3, e5, hm, hlt]
      refine DrawGo.intro (by kernel_rfl) ?_
      simp [go_sem, e2, e3, e5, hm, hlt, hlt', hb]
      refine ⟨wrap_i64 (by omega) (by omega), fun i h h' hi => ?_⟩
      rcases Nat.lt_succ_iff_lt_or_eq.1 hi with h2 | h2
      · exact he i h h' h2
      · subst h2; exact hb
    · simp [go_sem, e2, e3, e5, hm, hlt]
      refine DrawGo.intro (by kernel_rfl) ?_
      simp [go_sem, e2, e3, e5, hm, hlt, hlt', hb]
      rw [decide_eq_false (by rintro rfl; exact hb rfl)]
      exact .hf _ (HF.sc _)
  · have hge : k = a.ts.length := by omega
    subst hge
    simp [go_sem, e2, e3, e5, hm]
    rw [decide_eq_true (hab ▸ ⟨h1, List.ext_getElem h2 fun i h h' => he i h h' h⟩)]
    exact .hf _ (HF.sc _)



theorem usable11 (sc : Sc) (u : GU sc) : SoundP Tryz.prog 47 [eSc sc] (aB true) := by
  have hg := u.g
  have h12 := u.n12
  refine SoundP.of_sound (Sound.of_awp Tryz.call47 Tryz.func47 rfl (Nat.le_of_ble_eq_true (by kernel_rfl)) (by kernel_rfl) (pl := {}) ?_)
  have hl := hg.1
  simp [go_sem, show ¬ (4 : Int) < sc.atoms.length by omega]
  refine LoopGo.up sc.atoms.length (fun k st => st.tm 1 = .ip [lI sc.atoms, aI sc.steps] ∧ st.tm 3 = aI k ∧ st.mu = []) ?_ ?_
  · simp [go_sem]
  rintro k st hk ⟨e1, e3, hm⟩
  by_cases hlt : k < sc.atoms.length
  · have hv := hg.2 _ (List.getElem_mem hlt)
    simp [go_sem, e1, e3, hm, hlt, show ¬ sc.atoms[k] < 0 by omega, show ¬ (5 : Int) < sc.atoms[k] by omega]
    exact wrap_i64 (by omega) (by omega)
  · simp [go_sem, e1, e3, hm, hlt]
    refine CallStep.pure (atoms11 sc hg) (.cons (.hf (hf_eSc sc)) .nil) ?_
    simp [go_sem, h12]
    exact .hf _ (HF.sc _)

theorem has11 (l : List Int) (x : Int) (hl : l.length ≤ 1000000) : SoundP Tryz.prog 73 [lI l, aI x] (aB (decide (x ∈ l))) := by
  refine SoundP.of_sound (Sound.of_awp Tryz.call73 Tryz.func73 rfl (Nat.le_of_ble_eq_true (by kernel_rfl)) (by kernel_rfl) (pl := {}) ?_)
  simp [go_sem]
  refine LoopGo.up l.length (fun k st => st.tm 0 = lI l ∧ st.tm 1 = aI x ∧ st.tm 5 = aI k ∧ st.mu = [] ∧ ∀ (i : Nat) (h : i < l.length), i < k → l[i] ≠ x) ?_ ?_
  · simp [go_sem]
  rintro k st hk ⟨e0, e1, e5, hm, he⟩
  by_cases hlt : k < l.length
  · by_cases hx : l[k] = x
    · simp [go_sem, e0, e1, e5, hm, hlt, hx]
      rw [decide_eq_true (by rw [← hx]; exact List.getElem_mem hlt)]
      exact .hf _ (HF.sc _)
    · simp [go_sem, e0, e1, e5, hm, hlt, hx]
      refine ⟨wrap_i64 (by omega) (by omega), fun i h hi => ?_⟩
      rcases Nat.lt_succ_iff_lt_or_eq.1 hi with h2 | h2
      · exact he i h h2
      · subst h2; exact hx
  · simp [go_sem, e0, e1, e5, hm, hlt]
    rw [decide_eq_false (fun h => by
      obtain ⟨i, hi, e⟩ := List.mem_iff_getElem.1 h
      exact he i hi (by omega) e)]
    exact .hf _ (HF.sc _)

theorem image11 (p : List Int) (g : GP p) (ar : Nat) (har : ar ≤ 3) (r : Int) (h0 : 0 ≤ r) (h1 : r ≤ 1000000) : SoundP Tryz.prog 71 [aI p.length, lI p, aI ar, aI r] (aI (imgN p p.length r ar)) := by
  refine SoundP.of_sound (Sound.of_awp Tryz.call71 Tryz.func71 rfl (Nat.le_of_ble_eq_true (by kernel_rfl)) (by kernel_rfl) (pl := {}) ?_)
  simp [go_sem]
  refine LoopGo.up ar (fun k st => st.tm 0 = aI p.length ∧ st.tm 1 = lI p ∧ st.tm 2 = aI ar ∧ st.tm 3 = aI (divN p.length r k) ∧ st.tm 9 = aI (imgN p p.length r k) ∧ st.tm 10 = aI ((p.length : Int) ^ k) ∧ st.tm 11 = aI k ∧ st.mu = []) ?_ ?_
  · simp [go_sem, divN, imgN]
  rintro k st hk ⟨e0, e1, e2, e3, e9, e10, e11, hm⟩
  by_cases hlt : k < ar
  · have hp := g.pos
    have hl := g.len
    have hi := imgN_ok g r h0 h1 k (by omega)
    have hi2 := imgN_ok g r h0 h1 (k + 1) (by omega)
    have hd := divN_ok (n := p.length) (by omega) h0 h1 k
    have hd2 := divN_ok (n := p.length) (by omega) h0 h1 (k + 1)
    have m0 := Int.emod_nonneg (divN p.length r k) (show (p.length : Int) ≠ 0 by omega)
    have m1 := Int.emod_lt_of_pos (divN p.length r k) (show 0 < (p.length : Int) by omega)
    have hn : (divN p.length r k % p.length).toNat < p.length := by omega
    have hv := g.val _ (List.getElem_mem hn)
    have hpw := pow_ok (n := p.length) (by omega) (by omega) k (by omega)
    have hpw2 := pow_ok (n := p.length) (by omega) (by omega) (k + 1) (by omega)
    have hI : imgN p p.length r (k + 1) = imgN p p.length r k + p[(divN p.length r k % p.length).toNat] * (p.length : Int) ^ k := by rw [imgN, gI_eq hn]
    have hD : (divN p.length r k).tdiv p.length = divN p.length r (k + 1) := by rw [divN, Int.tdiv_eq_ediv_of_nonneg hd.1]
    have hM : (divN p.length r k).tmod p.length = divN p.length r k % p.length := Int.tmod_eq_emod_of_nonneg hd.1
    have a0 := Int.mul_nonneg hv.1 hpw.1
    have a1 : p[(divN p.length r k % p.length).toNat] * (p.length : Int) ^ k ≤ 20 * 8000 := Int.mul_le_mul hv.2 hpw.2 hpw.1 (by omega)
    rw [Int.pow_succ] at hpw2
    have hne : ¬ p = [] := fun e => by rw [e] at hp; simp at hp
    have hne2 : ¬ (p.length : Int) = 0 := by omega
    simp [go_sem, e0, e1, e2, e3, e9, e10, e11, hm, hlt, show (k : Int) < 3 by omega, hne, hne2, hD, hM, m0, m1, hn]
    rw [Int.pow_succ, hI]
    refine ⟨wrap_i64 (by omega) (by omega), ?_, wrap_i64 (by omega) (by omega), wrap_i64 (by omega) (by omega)⟩
    rw [wrap_i64 (n := p[(divN p.length r k % p.length).toNat] * (p.length : Int) ^ k) (by omega) (by omega), wrap_i64 (by omega) (by omega)]
  · have hge : k = ar := by omega
    subst hge
    simp [go_sem, e0, e1, e2, e3, e9, e10, e11, hm]
    exact .hf _ (HF.sc _)

/-- a number, put in its place -/
def atN (l : List Int) (r : Int) : Nat → Nat
  | 0 => 0
  | n + 1 => if r ≤ gI l n then atN l r n else n + 1
theorem atN_le (l : List Int) (r : Int) : ∀ n, atN l r n ≤ n
  | 0 => Nat.le_refl _
  | n + 1 => by
    have := atN_le l r n
    rw [atN]; split <;> omega
def addL (l : List Int) (r : Int) : List Int := if l[atN l r l.length]? = some r then l else l.take (atN l r l.length) ++ [r] ++ l.drop (atN l r l.length)
theorem addL_len (l : List Int) (r : Int) : (addL l r).length ≤ l.length + 1 := by
  unfold addL
  split
  · omega
  · simp; omega
theorem add06 (l : List Int) (r : Int) (hl : l.length ≤ 1000000) : SoundP Tryz.prog 97 [lI l, aI r] (lI (addL l r)) := by
  refine SoundP.of_sound (Sound.of_awp Tryz.call97 Tryz.func97 rfl (Nat.le_of_ble_eq_true (by kernel_rfl)) (by kernel_rfl) (pl := {}) ?_)
  simp [go_sem]
  refine LoopGo.up l.length (fun k st => st.tm 0 = lI l ∧ st.tm 1 = aI r ∧ st.tm 5 = aI ((l.length - k : Nat) : Int) ∧ st.mu = [] ∧ atN l r l.length = atN l r (l.length - k)) ?_ ?_
  · simp [go_sem]
  rintro k st hk ⟨e0, e1, e5, hm, he⟩
  have hnl : l.length - k ≤ l.length := by omega
  have hk1 : l.length - (k + 1) = l.length - k - 1 := by omega
  have hk2 : 0 < l.length - k → k < l.length := by omega
  generalize hn : l.length - k = n at *
  have hadd : atN l r l.length = n → addL l r = if l[n]? = some r then l else l.take n ++ [r] ++ l.drop n := fun h => by unfold addL; rw [h]
  by_cases hn0 : n = 0
  · have hadd := hadd (by rw [he, hn0]; rfl)
    have z1 : ¬ 0 < n := by omega
    by_cases hc : l[n]? = some r
    · rw [if_pos hc] at hadd
      obtain ⟨hnl2, hce⟩ := List.getElem?_eq_some_iff.1 hc
      simp [go_sem, e0, e1, e5, hm, z1, hnl2, hce]
      rw [hadd]
      exact .hf _ (hf_lI _)
    rw [if_neg hc] at hadd
    have hcf : ∀ h : n < l.length, ¬ l[n] = r := fun h e => hc (by rw [List.getElem?_eq_getElem h, e])
    by_cases hnl2 : n < l.length
    · have hcf := hcf hnl2
      simp [go_sem, e0, e1, e5, hm, z1, hnl2, hcf]
      refine ⟨⟨_, _, ⟨rfl, rfl⟩, (rows_rI l).ok⟩, ?_⟩
      simp only [if_pos hnl]
      simp [go_sem]
      refine AppendStep.ints (lo := 0) (e := 3) (bt := 8) (z := 0) (xs := []) (ys := l.take n) (by simp [go_sem]) (by simp [go_sem]) (by simp [go_sem]) (by omega) (OwnF.lit [] (Nat.zero_le _)) (by simp [rowsOf]) (by simp; omega) ?_
      intro av1 mu1 ho1 _
      simp [go_sem, e0, e1, e5, hm]
      refine AppendStep.ints (lo := 0) (e := 3) (bt := 8) (z := 0) (xs := l.take n) (ys := [r]) (by simp [go_sem]) (by simp [go_sem]) (by simp [go_sem]) (by omega) ho1 (by simp [rowsOf]) (by simp; omega) ?_
      intro av2 mu2 ho2 _
      simp [go_sem, e0, e1, e5, hm]
      refine ⟨⟨_, _, ⟨rfl, rfl⟩, (rows_rI l).ok⟩, ?_⟩
      simp only [if_pos hnl]
      simp [go_sem]
      refine AppendStep.ints (lo := 0) (e := 3) (bt := 8) (z := 0) (xs := l.take n ++ [r]) (ys := l.drop n) (by simp [go_sem]) (by simp [go_sem]) (by simp [go_sem]) (by omega) ho2 (by rw [List.take_of_length_le (by simp)]; simp [rowsOf]) (by simp; omega) ?_
      intro av3 mu3 ho3 _
      simp [go_sem, e0, e1, e5, hm]
      rw [hadd]
      exact ho3.rdI
    · simp [go_sem, e0, e1, e5, hm, z1, hnl2]
      refine ⟨⟨_, _, ⟨rfl, rfl⟩, (rows_rI l).ok⟩, ?_⟩
      simp only [if_pos hnl]
      simp [go_sem]
      refine AppendStep.ints (lo := 0) (e := 3) (bt := 8) (z := 0) (xs := []) (ys := l.take n) (by simp [go_sem]) (by simp [go_sem]) (by simp [go_sem]) (by omega) (OwnF.lit [] (Nat.zero_le _)) (by simp [rowsOf]) (by simp; omega) ?_
      intro av1 mu1 ho1 _
      simp [go_sem, e0, e1, e5, hm]
      refine AppendStep.ints (lo := 0) (e := 3) (bt := 8) (z := 0) (xs := l.take n) (ys := [r]) (by simp [go_sem]) (by simp [go_sem]) (by simp [go_sem]) (by omega) ho1 (by simp [rowsOf]) (by simp; omega) ?_
      intro av2 mu2 ho2 _
      simp [go_sem, e0, e1, e5, hm]
      refine ⟨⟨_, _, ⟨rfl, rfl⟩, (rows_rI l).ok⟩, ?_⟩
      simp only [if_pos hnl]
      simp [go_sem]
      refine AppendStep.ints (lo := 0) (e := 3) (bt := 8) (z := 0) (xs := l.take n ++ [r]) (ys := l.drop n) (by simp [go_sem]) (by simp [go_sem]) (by simp [go_sem]) (by omega) ho2 (by rw [List.take_of_length_le (by simp)]; simp [rowsOf]) (by simp; omega) ?_
      intro av3 mu3 ho3 _
      simp [go_sem, e0, e1, e5, hm]
      rw [hadd]
      exact ho3.rdI
  have z1 : 0 < n := by omega
  have hml : n - 1 < l.length := by omega
  have hw : IntKind.i64.wrap ((n : Int) - 1) = ((n - 1 : Nat) : Int) := by rw [wrap_i64 (by omega) (by omega)]; omega
  have he2 : atN l r n = if r ≤ l[n - 1] then atN l r (n - 1) else n := by
    rw [← gI_eq hml]
    conv => lhs; rw [show n = (n - 1) + 1 by omega, atN]
    split
    · rfl
    · omega
  rw [he2] at he
  by_cases hr : r ≤ l[n - 1]
  · rw [if_pos hr] at he
    simp [go_sem, e0, e1, e5, hm, z1, hw, hml, hr]
    exact ⟨hk2 z1, hk1.symm, by rw [hk1]; exact he⟩
  · rw [if_neg hr] at he
    have hadd := hadd he
    by_cases hc : l[n]? = some r
    · rw [if_pos hc] at hadd
      obtain ⟨hnl2, hce⟩ := List.getElem?_eq_some_iff.1 hc
      simp [go_sem, e0, e1, e5, hm, z1, hw, hml, hr, hnl2, hce]
      rw [hadd]
      exact .hf _ (hf_lI _)
    rw [if_neg hc] at hadd
    have hcf : ∀ h : n < l.length, ¬ l[n] = r := fun h e => hc (by rw [List.getElem?_eq_getElem h, e])
    by_cases hnl2 : n < l.length
    · have hcf := hcf hnl2
      simp [go_sem, e0, e1, e5, hm, z1, hw, hml, hr, hnl2, hcf]
      refine ⟨⟨_, _, ⟨rfl, rfl⟩, (rows_rI l).ok⟩, ?_⟩
      simp only [if_pos hnl]
      simp [go_sem]
      refine AppendStep.ints (lo := 0) (e := 3) (bt := 8) (z := 0) (xs := []) (ys := l.take n) (by simp [go_sem]) (by simp [go_sem]) (by simp [go_sem]) (by omega) (OwnF.lit [] (Nat.zero_le _)) (by simp [rowsOf]) (by simp; omega) ?_
      intro av1 mu1 ho1 _
      simp [go_sem, e0, e1, e5, hm]
      refine AppendStep.ints (lo := 0) (e := 3) (bt := 8) (z := 0) (xs := l.take n) (ys := [r]) (by simp [go_sem]) (by simp [go_sem]) (by simp [go_sem]) (by omega) ho1 (by simp [rowsOf]) (by simp; omega) ?_
      intro av2 mu2 ho2 _
      simp [go_sem, e0, e1, e5, hm]
      refine ⟨⟨_, _, ⟨rfl, rfl⟩, (rows_rI l).ok⟩, ?_⟩
      simp only [if_pos hnl]
      simp [go_sem]
      refine AppendStep.ints (lo := 0) (e := 3) (bt := 8) (z := 0) (xs := l.take n ++ [r]) (ys := l.drop n) (by simp [go_sem]) (by simp [go_sem]) (by simp [go_sem]) (by omega) ho2 (by rw [List.take_of_length_le (by simp)]; simp [rowsOf]) (by simp; omega) ?_
      intro av3 mu3 ho3 _
      simp [go_sem, e0, e1, e5, hm]
      rw [hadd]
      exact ho3.rdI
    · simp [go_sem, e0, e1, e5, hm, z1, hw, hml, hr, hnl2]
      refine ⟨⟨_, _, ⟨rfl, rfl⟩, (rows_rI l).ok⟩, ?_⟩
      simp only [if_pos hnl]
      simp [go_sem]
      refine AppendStep.ints (lo := 0) (e := 3) (bt := 8) (z := 0) (xs := []) (ys := l.take n) (by simp [go_sem]) (by simp [go_sem]) (by simp [go_sem]) (by omega) (OwnF.lit [] (Nat.zero_le _)) (by simp [rowsOf]) (by simp; omega) ?_
      intro av1 mu1 ho1 _
      simp [go_sem, e0, e1, e5, hm]
      refine AppendStep.ints (lo := 0) (e := 3) (bt := 8) (z := 0) (xs := l.take n) (ys := [r]) (by simp [go_sem]) (by simp [go_sem]) (by simp [go_sem]) (by omega) ho1 (by simp [rowsOf]) (by simp; omega) ?_
      intro av2 mu2 ho2 _
      simp [go_sem, e0, e1, e5, hm]
      refine ⟨⟨_, _, ⟨rfl, rfl⟩, (rows_rI l).ok⟩, ?_⟩
      simp only [if_pos hnl]
      simp [go_sem]
      refine AppendStep.ints (lo := 0) (e := 3) (bt := 8) (z := 0) (xs := l.take n ++ [r]) (ys := l.drop n) (by simp [go_sem]) (by simp [go_sem]) (by simp [go_sem]) (by omega) ho2 (by rw [List.take_of_length_le (by simp)]; simp [rowsOf]) (by simp; omega) ?_
      intro av3 mu3 ho3 _
      simp [go_sem, e0, e1, e5, hm]
      rw [hadd]
      exact ho3.rdI

theorem Rd.relF {mu : Mu} {ar : Int} {ts : List Int} {full : Bool} : Rd mu (.agg [aI ar, .lst full (ts.map rI)]) (eRel ⟨ar, ts⟩) := by
  refine .agg _ _ rfl (fun k x y hx hy => ?_)
  match k with
  | 0 => simp at hx hy; subst hx; subst hy; exact .hf _ (HF.sc _)
  | 1 => simp at hx hy; subst hx; subst hy; exact .wk _ full _ (.hf _ (HF.lst fun r hr c hc => by
      obtain ⟨n, _, rfl⟩ := List.mem_map.1 hr
      simp at hc; subst hc; exact HF.sc _))
  | k + 2 => simp at hx
def ofL (ts : List Int) : List Int := ts.foldl addL []
theorem ofL_succ (ts : List Int) (k : Nat) (h : k < ts.length) : ofL (ts.take (k + 1)) = addL (ofL (ts.take k)) ts[k] := by
  unfold ofL
  rw [List.take_add_one, List.getElem?_eq_getElem h, List.foldl_append]; rfl
theorem ofL_len (ts : List Int) : ∀ k, (ofL (ts.take k)).length ≤ k
  | 0 => by simp [ofL]
  | k + 1 => by
    have ih := ofL_len ts k
    by_cases h : k < ts.length
    · rw [ofL_succ ts k h]
      have := addL_len (ofL (ts.take k)) ts[k]
      omega
    · rw [List.take_of_length_le (by omega)]
      rw [List.take_of_length_le (by omega)] at ih
      omega
theorem of06 (ar : Int) (ts : List Int) (hl : ts.length ≤ 100000) : SoundP Tryz.prog 72 [aI ar, lI ts] (eRel ⟨ar, ofL ts⟩) := by
  refine SoundP.of_sound (Sound.of_awp Tryz.call72 Tryz.func72 rfl (Nat.le_of_ble_eq_true (by kernel_rfl)) (by kernel_rfl) (pl := {}) ?_)
  simp [go_sem]
  refine LoopGo.up ts.length (fun k st => st.tm 1 = lI ts ∧ st.tm 4 = .ptr 0 0 ∧ st.tm 5 = .ptr 1 0 ∧ st.tm 6 = aI k ∧ ∃ full, st.mu = [.arr [aI 0, .lst true []], .arr [aI ar, .lst full ((ofL (ts.take k)).map rI)]]) ?_ ?_
  · simp [go_sem, ofL]
  rintro k st hk ⟨e1, e4, e5, e6, full, hm⟩
  have hol := ofL_len ts k
  by_cases hlt : k < ts.length
  · have hs := ofL_succ ts k hlt
    generalize ofL (ts.take k) = cur at *
    simp [go_sem, e1, e4, e5, e6, hm, hlt]
    refine DrawGo.intro (by kernel_rfl) ?_
    simp [go_sem, e1, e4, e5, e6, hm, hlt]
    refine CallStep.pure (add06 cur ts[k] (by omega)) (.cons (WK.ints cur) (.cons (.hf (HF.sc _)) .nil)) ?_
    simp [go_sem, e1, e4, e5, e6, hm, hlt]
    exact ⟨wrap_i64 (by omega) (by omega), by rw [hs]⟩
  · have hge : k = ts.length := by omega
    subst hge
    rw [List.take_length] at hm
    simp [go_sem, e1, e4, e5, e6, hm]
    exact Rd.relF

def relR (p : List Int) (r : Rl) : Rl := ⟨r.ar, ofL (r.ts.map fun t => imgN p p.length t r.ar.toNat)⟩
theorem rel11 (sc : Sc) (p : List Int) (r : Rl) (g : ∀ t, t ∈ r.ts → GP p) (h0 : 0 ≤ r.ar) (h3 : r.ar ≤ 3) (hl : r.ts.length ≤ 100000) (hr : ∀ t, t ∈ r.ts → 0 ≤ t ∧ t ≤ 1000000) : SoundP Tryz.prog 43 [eSc sc, lI p, eRel r] (eRel (relR p r)) := by
  obtain ⟨ar, ts⟩ := r
  obtain ⟨n, rfl⟩ := Int.eq_ofNat_of_zero_le h0
  simp only at hl g hr
  have hn : n ≤ 3 := by simp at h3; omega
  have hrel : relR p ⟨n, ts⟩ = ⟨n, ofL (ts.map fun t => imgN p p.length t n)⟩ := by simp [relR]
  rw [hrel]
  have hLs : ∀ k (h : k < ts.length), (ts.map fun t => imgN p p.length t n).take (k + 1) = (ts.map fun t => imgN p p.length t n).take k ++ [imgN p p.length ts[k] n] := fun k h => by
    rw [List.take_add_one, List.getElem?_eq_getElem (by simpa using h)]; simp
  have hLl : (ts.map fun t => imgN p p.length t n).length = ts.length := by simp
  generalize (ts.map fun t => imgN p p.length t n) = L at *
  clear hrel
  refine SoundP.of_sound (Sound.of_awp Tryz.call43 Tryz.func43 rfl (Nat.le_of_ble_eq_true (by kernel_rfl)) (by kernel_rfl) (pl := {}) ?_)
  simp [go_sem]
  refine LoopGo.upF ts.length (fun k st => st.tm 1 = lI p ∧ st.tm 5 = .ip [aI n, lI ts] ∧ st.tm 6 = .ptr 0 0 ∧ st.tm 8 = aI k ∧ st.mu[0]? = some (.arr [aI 0, .lst true []]) ∧ OwnF 1 st.mu 1 (st.tm 7) ((L.take k).map rI)) ?_ ?_
  · simp [go_sem]
    exact OwnF.lit [] (by simp)
  rintro k st hk ⟨e1, e5, e6, e8, hm, ho⟩
  by_cases hlt : k < ts.length
  · have hg := g _ (List.getElem_mem hlt)
    have hv := hr _ (List.getElem_mem hlt)
    have hs := hLs k hlt
    have hcl : (L.take k).length ≤ k := by simp; omega
    generalize L.take k = cur at *
    simp [go_sem, e1, e5, e6, e8, hlt]
    refine DrawGo.intro (by kernel_rfl) ?_
    simp [go_sem, e1, e5, e6, e8, hlt]
    refine CallStep.pure (image11 p hg n hn ts[k] hv.1 hv.2) (.cons (.hf (HF.sc _)) (.cons (.hf (hf_lI p)) (.cons (.hf (HF.sc _)) (.cons (.hf (HF.sc _)) .nil)))) ?_
    simp [go_sem, e1, e5, e6, e8, hlt]
    refine AppendStep.ints (lo := 1) (e := 3) (bt := 8) (z := 0) (xs := cur) (ys := [imgN p p.length ts[k] n]) (by simp [go_sem]) (by simp [go_sem]) (by simp [go_sem]) (by omega) ho (by simp [rowsOf]) (by simp; omega) ?_
    intro av1 mu1 ho1 hlow
    simp [go_sem, e1, e5, e6, e8, hlt]
    refine ⟨wrap_i64 (by omega) (by omega), by rw [hlow 0 (by omega)]; exact hm, ?_⟩
    rw [← List.map_take, hs]; exact ho1
  · have hge : k = ts.length := by omega
    subst hge
    rw [List.take_of_length_le (by omega)] at ho
    simp [go_sem, e1, e5, e6, e8]
    refine FzQ.own (d := 7) rfl ho (rows_rI _) (fun r hr c hc => by
      obtain ⟨n, _, rfl⟩ := List.mem_map.1 hr
      simp at hc; subst hc; exact HF.sc _) ?_
    intro mu' full hml hmj
    have hm' := (hmj 0 (by omega)).trans hm
    simp [go_sem, e1, e5, e6, e8]
    refine CallStep.pure (of06 n L (by omega)) (.cons (.hf (HF.sc _)) (.cons (WK.ints _) .nil)) ?_
    simp [go_sem, e1, e5, e6, e8, hm']
    rw [List.getElem?_set_self (List.getElem?_eq_some_iff.1 hm').1]
    simp [go_sem]
    exact .hf _ (hf_eRel ⟨n, ofL L⟩)

/-- valid permutations, as they are tested -/
theorem valid_of {sc : Sc} (g : GSc sc) {N : Nat} (hN : sumI sc.atoms = N) {p : List Int} (hl : p.length = N) :
    validP sc p = true ↔ ∀ i (h : i < p.length), 0 ≤ p[i] ∧ p[i] < p.length ∧ sortAt sc p[i] = sortAt sc i ∧ ∀ j (hj : j < i), p[j] ≠ p[i] := by
  rw [validP_iff hN]
  have hs : ∀ x : Nat, x < N → gI (sortsL sc) x = sortAt sc x := fun x hx => by
    rw [sortsL_get g hN hx, sortU, if_neg (by omega)]
  constructor
  · rintro ⟨h1, h2⟩ i h
    have hr := h1.rng _ (List.getElem_mem h)
    have hk := h2 i (by omega)
    have ha := h1.ap_eq (x := i) (by omega)
    have hlt := h1.ap_lt (x := i) (by omega)
    rw [hs _ hlt, hs i (by omega)] at hk
    rw [gI_eq h] at ha
    refine ⟨hr.1, by omega, by rw [ha]; exact hk, fun j hj e => ?_⟩
    exact List.pairwise_iff_getElem.1 h1.nd j i (by omega) h hj e
  · intro h
    have pl : PermL N p := ⟨hl, fun v hv => by
      obtain ⟨i, hi, rfl⟩ := List.mem_iff_getElem.1 hv
      have := h i hi; omega, by
      unfold List.Nodup
      rw [List.pairwise_iff_getElem]
      intro i j hi hj hij
      exact (h j hj).2.2.2 i hij⟩
    refine ⟨pl, fun x hx => ?_⟩
    have hx' : x < p.length := by omega
    rw [hs _ (pl.ap_lt hx), hs x hx, ← (h x hx').2.2.1]
    have := pl.ap_eq hx
    rw [gI_eq hx'] at this
    rw [this]
theorem valid11 (sc : Sc) (u : GU sc) (p : List Int) : SoundP Tryz.prog 27 [eSc sc, lI p] (aB (validP sc p)) := by
  have hg := u.g
  refine SoundP.of_sound (Sound.of_awp Tryz.call27 Tryz.func27 rfl (Nat.le_of_ble_eq_true (by kernel_rfl)) (by kernel_rfl) (pl := {}) ?_)
  simp [go_sem]
  refine CallStep.pure (usable11 sc u) (.cons (.hf (hf_eSc sc)) .nil) ?_
  simp [go_sem]
  refine CallStep.pure (atoms11 sc hg) (.cons (.hf (hf_eSc sc)) .nil) ?_
  obtain ⟨N, hN⟩ := Int.eq_ofNat_of_zero_le u.n0
  have hN12 := u.n12
  by_cases hl : (p.length : Int) = sumI sc.atoms
  case neg =>
    simp [go_sem, hl]
    rw [show validP sc p = false by simp [validP, hl]]
    exact .hf _ (HF.sc _)
  simp [go_sem, hl]
  have hlN : p.length = N := by omega
  have hv := valid_of hg hN hlN
  clear hl
  have no : ¬ (∀ i (h : i < p.length), 0 ≤ p[i] ∧ p[i] < p.length ∧ sortAt sc p[i] = sortAt sc i ∧ ∀ j (hj : j < i), p[j] ≠ p[i]) → validP sc p = false := fun h => by
    rw [← Bool.not_eq_true, hv]; exact h
  refine LoopGo.up N (fun i st => st.tm 1 = lI p ∧ st.tm 2 = .ip [lI sc.atoms, aI sc.steps] ∧ st.tm 5 = aI i ∧ st.mu = [] ∧ ∀ k (h : k < p.length), k < i → 0 ≤ p[k] ∧ p[k] < p.length ∧ sortAt sc p[k] = sortAt sc k ∧ ∀ j (hj : j < k), p[j] ≠ p[k]) ?_ ?_
  · simp [go_sem]
  rintro i st hi ⟨e1, e2, e5, hm, he⟩
  by_cases hiN : i < N
  case neg =>
    simp [go_sem, e1, e2, e5, hm, show ¬ i < p.length by omega]
    rw [hv.2 fun k h => he k h (by omega)]
    exact .hf _ (HF.sc _)
  have hip : i < p.length := by omega
  simp [go_sem, e1, e2, e5, hm, hip]
  refine DrawGo.intro (by kernel_rfl) ?_
  by_cases h1 : p[i] < 0
  · simp [go_sem, e1, e2, e5, hm, hip, h1]
    rw [no fun h => by have := h i hip; omega]
    exact .hf _ (HF.sc _)
  by_cases h2 : (p.length : Int) ≤ p[i]
  · simp [go_sem, e1, e2, e5, hm, hip, h1, h2]
    rw [no fun h => by have := h i hip; omega]
    exact .hf _ (HF.sc _)
  simp [go_sem, e1, e2, e5, hm, hip, h1, h2]
  refine CallStep.pure (sort11 sc hg p[i] (by omega)) (.cons (.hf (hf_eSc sc)) (.cons (.hf (HF.sc _)) .nil)) ?_
  simp [go_sem, e1, e2, e5, hm, hip, h1, h2]
  refine CallStep.pure (sort11 sc hg i (by omega)) (.cons (.hf (hf_eSc sc)) (.cons (.hf (HF.sc _)) .nil)) ?_
  by_cases h3 : sortAt sc p[i] = sortAt sc i
  case neg =>
    simp [go_sem, e1, e2, e5, hm, hip, h1, h2, h3]
    rw [no fun h => h3 (h i hip).2.2.1]
    exact .hf _ (HF.sc _)
  simp [go_sem, e1, e2, e5, hm, hip, h1, h2, h3]
  refine LoopGo.up i (fun k st => st.tm 1 = lI p ∧ st.tm 2 = .ip [lI sc.atoms, aI sc.steps] ∧ st.tm 5 = aI i ∧ st.tm 6 = aI k ∧ st.mu = [] ∧ ∀ j (hj : j < i), j < k → p[j] ≠ p[i]) ?_ ?_
  · simp [go_sem, e1, e2, e5, hm]
  clear e1 e2 e5 hm
  clear st
  rintro k st hk ⟨e1, e2, e5, e6, hm, hk2⟩
  by_cases hki : k < i
  case neg =>
    simp [go_sem, e1, e2, e5, e6, hm, hki]
    refine ⟨hiN, wrap_i64 (by omega) (by omega), fun q h hq => ?_⟩
    rcases Nat.lt_succ_iff_lt_or_eq.1 hq with h4 | h4
    · exact he q h h4
    · subst h4
      exact ⟨by omega, by omega, h3, fun j hj => hk2 j hj (by omega)⟩
  have hkp : k < p.length := by omega
  simp [go_sem, e1, e2, e5, e6, hm, hki]
  refine DrawGo.intro (by kernel_rfl) ?_
  by_cases h4 : p[k] = p[i]
  · simp [go_sem, e1, e2, e5, e6, hm, hki, hip, hkp, h4]
    rw [no fun h => (h i hip).2.2.2 k hki h4]
    exact .hf _ (HF.sc _)
  · simp [go_sem, e1, e2, e5, e6, hm, hki, hip, hkp, h4]
    refine ⟨wrap_i64 (by omega) (by omega), fun j hj hjk => ?_⟩
    rcases Nat.lt_succ_iff_lt_or_eq.1 hjk with h5 | h5
    · exact hk2 j hj h5
    · subst h5; exact h4
end Go.Proofs.YtfniceomhfebhaaGreat.R1

set_option linter.unusedVariables false
set_option linter.unusedSimpArgs false
set_option maxRecDepth 100000
namespace Go.Proofs.YtfniceomhfebhaaGreat.N2
open Go Go.Ev Go.Proofs C1 C2 C3 C4 C5 C6 C7 C8 C9 C10 C11 C12 C13 C14 C15 C16 C17 C18 C19 C20 C21 C22 C23 C24 C25 C26 C27 C28 C29 C30 C31 C32 C33 C34 C35 L1 L2 L3 L4 L5 L6 L7 L8 L9 L10 L11 L12 L13 L14 L15 M1 M2 M3 M4 M5 M6 M7 N1 R1

/-- a truth value of a proposition -/
noncomputable def dec (p : Prop) : Bool := @decide p (Classical.propDecidable p)
theorem dec_true {p : Prop} (h : p) : dec p = true := @decide_eq_true p (Classical.propDecidable p) h
theorem dec_false {p : Prop} (h : ¬ p) : dec p = false := @decide_eq_false p (Classical.propDecidable p) h
def cellOk (sp : Sp) (m : Md) (s i : Nat) (hs : s < m.states.length) (hi : i < sp.fields.length) (h : m.states[s].length = sp.fields.length) : Prop :=
  m.states[s][i].ar = sp.fields[i].sorts.length ∧ validOk (sumI m.sc.atoms) m.states[s][i] = true ∧ withinOk m.sc sp.fields[i].sorts m.states[s][i] = true ∧ (sp.fields[i].var = false → (m.states[0]?.bind (·[i]?)) = some m.states[s][i])
structure MVal (sp : Sp) (m : Md) : Prop where
  sc : scopeOk sp m.sc = true
  ns : (m.states.length : Int) = m.sc.steps
  l0 : 0 ≤ m.loop
  l1 : m.loop < m.sc.steps
  fld : ∀ (i : Nat) (h : i < sp.fields.length), fieldOk sp sp.fields[i] = true
  len : ∀ (s : Nat) (h : s < m.states.length), m.states[s].length = sp.fields.length
  cell : ∀ (s i : Nat) (hs : s < m.states.length) (hi : i < sp.fields.length), cellOk sp m s i hs hi (len s hs)
theorem valid07 (sp : Sp) (m : Md) (hsm : SmallP sp m) : SoundP Tryz.prog 40 [eSp sp, eMd m] (aB (dec (MVal sp m))) := by
  refine SoundP.of_sound (Sound.of_awp Tryz.call40 Tryz.func40 rfl (Nat.le_of_ble_eq_true (by kernel_rfl)) (by kernel_rfl) (pl := {}) ?_)
  simp [go_sem]
  refine CallStep.pure (scope07 sp m.sc (by have := hsm.na; omega)) (.cons (.hf (hf_eSp sp)) (.cons (.hf (hf_eSc m.sc)) .nil)) ?_
  by_cases h1 : scopeOk sp m.sc = true
  case neg =>
    rw [dec_false fun h => h1 h.sc]
    simp [go_sem, h1]
    exact .hf _ (HF.sc _)
  have g := scopeOk_g h1
  by_cases h2 : (m.states.length : Int) = m.sc.steps
  case neg =>
    rw [dec_false fun h => h2 h.ns]
    simp [go_sem, h1, h2]
    exact .hf _ (HF.sc _)
  by_cases h3 : m.loop < 0
  · rw [dec_false fun h => by have := h.l0; omega]
    simp [go_sem, h1, h2, h3]
    exact .hf _ (HF.sc _)
  by_cases h4 : m.sc.steps ≤ m.loop
  · rw [dec_false fun h => by have := h.l1; omega]
    simp [go_sem, h1, h2, h3, h4]
    exact .hf _ (HF.sc _)
  have hsum := GSc.sum g sp.sorts.length
  simp [go_sem, h1, h2, h3, h4]
  refine CallStep.pure (atoms07 m.sc g) (.cons (.hf (hf_eSc m.sc)) .nil) ?_
  simp [go_sem, h1, h2, h3, h4]
  refine LoopGo.keep (fun q st => ∃ k, q = sp.fields.length - k ∧ k ≤ sp.fields.length ∧ st.tm 2 = ipSp sp ∧ st.tm 3 = ipMd m ∧ st.tm 5 = aI (sumI m.sc.atoms) ∧ st.tm 6 = aI (k : Nat) ∧ (∀ (i : Nat) (h : i < sp.fields.length), i < k → fieldOk sp sp.fields[i] = true ∧
    ∀ (s : Nat) (hs : s < m.states.length), ∃ hl : m.states[s].length = sp.fields.length, cellOk sp m s i hs h hl)) sp.fields.length ?_ ?_
  · exact ⟨0, by omega, by omega, by simp [go_sem], by simp [go_sem], by simp [go_sem], by simp [go_sem], fun i _ h => by omega⟩
  rintro q st ⟨k, rfl, hk, e2, e3, e5, e6, he⟩
  have hf10 := hsm.nf
  have hs64 := hsm.nt
  by_cases hlt : k < sp.fields.length
  · have hfs := hsm.fs k hlt
    simp [go_sem, e2, e3, e5, e6, hlt]
    generalize st.mu = mu0
    refine CallStep.pure (field07 sp sp.fields[k] (by omega)) (.cons (.hf (hf_eSp sp)) (.cons (.hf (hf_eField _)) .nil)) ?_
    by_cases h5 : fieldOk sp sp.fields[k] = true
    case neg =>
      rw [dec_false fun h => h5 (h.fld k hlt)]
      simp [go_sem, h5]
      exact .hf _ (HF.sc _)
    simp [go_sem, e2, e3, e5, e6, hlt, h5]
    refine LoopGo.keep (fun q2 st => ∃ s, q2 = m.states.length - s ∧ s ≤ m.states.length ∧ st.tm 2 = ipSp sp ∧ st.tm 3 = ipMd m ∧ st.tm 5 = aI (sumI m.sc.atoms) ∧ st.tm 6 = aI (k : Nat) ∧ st.tm 7 = .ptr mu0.length 0 ∧ st.tm 8 = aI (s : Nat) ∧ st.mu[mu0.length]? = some (.arr (cField sp.fields[k])) ∧
      (∀ (u : Nat) (hu : u < m.states.length), u < s → ∃ hl : m.states[u].length = sp.fields.length, cellOk sp m u k hu hlt hl)) m.states.length ?_ ?_
    · exact ⟨0, by omega, by omega, by simp [go_sem, e2], by simp [go_sem, e3], by simp [go_sem, e5], by simp [go_sem, e6], by simp [go_sem], by simp [go_sem], by simp [go_sem], fun u _ h => by omega⟩
    clear e2 e3 e5 e6 st
    rintro q2 st ⟨s, rfl, hs, e2, e3, e5, e6, e7, e8, hmL, he2⟩
    generalize mu0.length = L at *
    by_cases hsl : s < m.states.length
    · simp [go_sem, e2, e3, e5, e6, e7, e8, hlt, hsl]
      refine DrawGo.intro (by kernel_rfl) ?_
      have hL : L < st.mu.length := (List.getElem?_eq_some_iff.1 hmL).1
      generalize st.mu = mu1 at *
      by_cases h6 : m.states[s].length = sp.fields.length
      case neg =>
        rw [dec_false fun h => h6 (h.len s hsl)]
        simp [go_sem, e2, e3, e5, e6, e7, e8, hlt, hsl, h6]
        exact .hf _ (HF.sc _)
      have hki : k < m.states[s].length := by omega
      have hmL1 : mu1[L]'hL = .arr (cField sp.fields[k]) := by
        rw [List.getElem?_eq_getElem hL] at hmL
        exact Option.some.inj hmL
      have h0l : 0 < m.states.length := by omega
      have hr200 := (hsm.st s hsl).2 k hki
      simp [go_sem, e2, e3, e5, e6, e7, e8, hlt, hsl, h6, hki]
      refine DrawGo.intro (by kernel_rfl) ?_
      generalize hr : m.states[s][k] = r at *
      by_cases c1 : r.ar = sp.fields[k].sorts.length
      case neg =>
        rw [dec_false fun h => c1 (hr ▸ (h.cell s k hsl hlt).1)]
        simp [go_sem, e2, e3, e5, e6, e7, e8, hlt, hsl, h6, hki, hmL1, hL, c1]
        exact .hf _ (HF.sc _)
      obtain ⟨ar, ts⟩ := r
      simp only at c1 hr200
      subst c1
      simp [go_sem, e2, e3, e5, e6, e7, e8, hlt, hsl, h6, hki, hmL1, hL]
      refine CallStep.pure (valid06 (sumI m.sc.atoms) ⟨sp.fields[k].sorts.length, ts⟩ (by simp only; omega)) (.cons (.hf (HF.sc _)) (.cons (.hf (hf_eRel ⟨sp.fields[k].sorts.length, ts⟩)) .nil)) ?_
      by_cases c2 : validOk (sumI m.sc.atoms) ⟨sp.fields[k].sorts.length, ts⟩ = true
      case neg =>
        rw [dec_false fun h => c2 (hr ▸ (h.cell s k hsl hlt).2.1)]
        simp [go_sem, e2, e3, e5, e6, e7, e8, hlt, hsl, h6, hki, hmL1, hL, c2]
        exact .hf _ (HF.sc _)
      simp [go_sem, e2, e3, e5, e6, e7, e8, hlt, hsl, h6, hki, hmL1, hL, c2]
      refine CallStep.pure (within07 m.sc g sp.fields[k].sorts (by omega) ⟨sp.fields[k].sorts.length, ts⟩ (by simp only; omega) (valid_small c2)) (.cons (.hf (hf_eSc _)) (.cons (.hf (hf_lI _)) (.cons (.hf (hf_eRel ⟨sp.fields[k].sorts.length, ts⟩)) .nil))) ?_
      by_cases c3 : withinOk m.sc sp.fields[k].sorts ⟨sp.fields[k].sorts.length, ts⟩ = true
      case neg =>
        rw [dec_false fun h => c3 (hr ▸ (h.cell s k hsl hlt).2.2.1)]
        simp [go_sem, e2, e3, e5, e6, e7, e8, hlt, hsl, h6, hki, hmL1, hL, c3]
        exact .hf _ (HF.sc _)
      have next : (sp.fields[k].var = false → (m.states[0]?.bind (·[k]?)) = some (⟨sp.fields[k].sorts.length, ts⟩ : Rl)) → ∀ (u : Nat) (hu : u < m.states.length), u < s + 1 → ∃ hl : m.states[u].length = sp.fields.length, cellOk sp m u k hu hlt hl := by
        intro hv u hu hus
        rcases Nat.lt_succ_iff_lt_or_eq.1 hus with h7 | h7
        · exact he2 u hu h7
        · subst h7
          refine ⟨h6, ?_⟩
          unfold cellOk
          rw [hr]
          exact ⟨rfl, c2, c3, hv⟩
      have hws : IntKind.i64.wrap ((s : Int) + 1) = ((s + 1 : Nat) : Int) := by rw [wrap_i64 (by omega) (by omega)]; omega
      by_cases c4 : sp.fields[k].var = true
      · simp [go_sem, e2, e3, e5, e6, e7, e8, hlt, hsl, h6, hki, hmL1, hL, c3, c4]
        exact Keep.loop (m.states.length - (s + 1)) (by omega) ⟨s + 1, rfl, by omega, by simp [go_sem, e2], by simp [go_sem, e3], by simp [go_sem, e5], by simp [go_sem, e6], by simp [go_sem, e7], by simp [go_sem, hws], by simp [go_sem, hL, hmL1], next fun h => by rw [c4] at h; simp at h⟩
      have c4' : sp.fields[k].var = false := by simpa using c4
      have h00 : k < m.states[0].length := by
        by_cases hs0 : s = 0
        · subst hs0; exact hki
        · obtain ⟨hl, _⟩ := he2 0 h0l (by omega)
          omega
      generalize hr0 : m.states[0][k] = r0 at *
      have hb0 : (m.states[0]?.bind (·[k]?)) = some r0 := by
        rw [List.getElem?_eq_getElem h0l, Option.bind_some, List.getElem?_eq_getElem h00, hr0]
      simp [go_sem, e2, e3, e5, e6, e7, e8, hlt, hsl, h6, hki, hmL1, hL, c3, c4', h0l, h00, hr0]
      refine CallStep.pure (equal06 ⟨sp.fields[k].sorts.length, ts⟩ r0 (by simp only; omega)) (.cons (.hf (hf_eRel ⟨sp.fields[k].sorts.length, ts⟩)) (.cons (.hf (hf_eRel r0)) .nil)) ?_
      by_cases c5 : (⟨sp.fields[k].sorts.length, ts⟩ : Rl) = r0
      case neg =>
        rw [dec_false fun h => c5 (by
          have := (h.cell s k hsl hlt).2.2.2 c4'
          rw [hb0, hr] at this
          exact (Option.some.inj this).symm)]
        simp [go_sem, e2, e3, e5, e6, e7, e8, hlt, hsl, h6, hki, hmL1, hL, c3, c4', h0l, h00, hr0, c5]
        exact .hf _ (HF.sc _)
      simp [go_sem, e2, e3, e5, e6, e7, e8, hlt, hsl, h6, hki, hmL1, hL, c3, c4', h0l, h00, hr0, c5]
      exact Keep.loop (m.states.length - (s + 1)) (by omega) ⟨s + 1, rfl, by omega, by simp [go_sem, e2], by simp [go_sem, e3], by simp [go_sem, e5], by simp [go_sem, e6], by simp [go_sem, e7], by simp [go_sem, hws], by simp [go_sem, hL, hmL1], next fun h => by rw [hb0, c5]⟩
    · have hse : s = m.states.length := by omega
      have hwk : IntKind.i64.wrap ((k : Int) + 1) = ((k + 1 : Nat) : Int) := by rw [wrap_i64 (by omega) (by omega)]; omega
      simp [go_sem, e2, e3, e5, e6, e7, e8, hlt, hsl]
      refine Keep.loop (sp.fields.length - (k + 1)) (by omega) ⟨k + 1, rfl, by omega, by simp [go_sem, e2], by simp [go_sem, e3], by simp [go_sem, e5], by simp [go_sem, hwk], fun i h hi => ?_⟩
      rcases Nat.lt_succ_iff_lt_or_eq.1 hi with h7 | h7
      · exact he i h h7
      · subst h7; exact ⟨h5, fun u hu => he2 u hu (by omega)⟩
  · have hke : k = sp.fields.length := by omega
    simp [go_sem, e2, e3, e5, e6, hlt]
    refine LoopGo.up m.states.length (fun s st => st.tm 2 = ipSp sp ∧ st.tm 3 = ipMd m ∧ st.tm 10 = aI s ∧ ∀ (u : Nat) (hu : u < m.states.length), u < s → m.states[u].length = sp.fields.length) ?_ ?_
    · simp [go_sem, e2, e3]
    clear e2 e3 e5 e6 st
    rintro s st hs ⟨e2, e3, e10, he2⟩
    by_cases hsl : s < m.states.length
    · simp [go_sem, e2, e3, e10, hsl]
      refine DrawGo.intro (by kernel_rfl) ?_
      by_cases h6 : m.states[s].length = sp.fields.length
      case neg =>
        rw [dec_false fun h => h6 (h.len s hsl)]
        simp [go_sem, e2, e3, e10, hsl, h6]
        exact .hf _ (HF.sc _)
      simp [go_sem, e2, e3, e10, hsl, h6]
      refine ⟨wrap_i64 (by omega) (by omega), fun u hu hus => ?_⟩
      rcases Nat.lt_succ_iff_lt_or_eq.1 hus with h7 | h7
      · exact he2 u hu h7
      · subst h7; exact h6
    · rw [dec_true ⟨h1, h2, by omega, by omega, fun i h => (he i h (by omega)).1, fun u hu => he2 u hu (by omega), fun u i hu hi => ((he i hi (by omega)).2 u hu).2⟩]
      simp [go_sem, e2, e3, e10, hsl]
      exact .hf _ (HF.sc _)
end Go.Proofs.YtfniceomhfebhaaGreat.N2

set_option linter.unusedVariables false
set_option linter.unusedSimpArgs false
set_option maxRecDepth 100000
namespace Go.Proofs.YtfniceomhfebhaaGreat.N3
open Go Go.Ev Go.Proofs C1 C2 C3 C4 C5 C6 C7 C8 C9 C10 C11 C12 C13 C14 C15 C16 C17 C18 C19 C20 C21 C22 C23 C24 C25 C26 C27 C28 C29 C30 C31 C32 C33 C34 C35 L1 L2 L3 L4 L5 L6 L7 L8 L9 L10 L11 L12 L13 L14 L15 M1 M2 M3 M4 M5 M6 M7 N1 N2 R1

/-! ### armatureref26: Full, Bounded, Fits -/
def fullL (sc : Sc) (sorts : List Int) (M : Nat) : List Int := ((List.range M).filter fun i : Nat => withinOk sc sorts ⟨sorts.length, [(i : Int)]⟩).map fun i : Nat => (i : Int)
theorem fullL_succ (sc : Sc) (sorts : List Int) (M : Nat) : fullL sc sorts (M + 1) = fullL sc sorts M ++ (if withinOk sc sorts ⟨sorts.length, [(M : Int)]⟩ = true then [(M : Int)] else []) := by
  unfold fullL
  rw [List.range_succ, List.filter_append, List.map_append]
  congr 1
  by_cases h : withinOk sc sorts ⟨sorts.length, [(M : Int)]⟩ = true <;> simp [h]
theorem fullL_len (sc : Sc) (sorts : List Int) (M : Nat) : (fullL sc sorts M).length ≤ M := by
  unfold fullL
  rw [List.length_map]
  exact Nat.le_trans (List.length_filter_le _ _) (by simp)
theorem fullL_sorted (sc : Sc) (sorts : List Int) (M : Nat) : sorted (fullL sc sorts M) := by
  unfold fullL sorted
  rw [List.pairwise_map]
  exact List.Pairwise.imp (fun h => by omega) (List.Pairwise.filter _ List.pairwise_lt_range)
theorem within_one (sc : Sc) (sorts : List Int) (a t : Int) : withinOk sc sorts ⟨a, [t]⟩ = colsOk sc (max 1 (sumI sc.atoms)) sorts.reverse t := by
  simp [withinOk]
theorem mem_fullL {sc : Sc} {sorts : List Int} {M : Nat} {t : Int} : t ∈ fullL sc sorts M ↔ 0 ≤ t ∧ t < M ∧ colsOk sc (max 1 (sumI sc.atoms)) sorts.reverse t = true := by
  unfold fullL
  rw [List.mem_map]
  constructor
  · rintro ⟨i, hi, rfl⟩
    rw [List.mem_filter, List.mem_range, within_one] at hi
    exact ⟨by omega, by omega, hi.2⟩
  · rintro ⟨h0, h1, h2⟩
    refine ⟨t.toNat, List.mem_filter.2 ⟨List.mem_range.2 (by omega), ?_⟩, by omega⟩
    rw [within_one, show ((t.toNat : Nat) : Int) = t by omega]; exact h2
theorem full26 (sc : Sc) (g : GSc sc) (N : Nat) (hN : sumI sc.atoms = N) (hN5 : N ≤ 5) (sorts : List Int) (hs : sorts.length ≤ 3) : SoundP Tryz.prog 70 [eSc sc, lI sorts] (eRel ⟨sorts.length, fullL sc sorts (N ^ sorts.length)⟩) := by
  have hM : N ^ sorts.length ≤ 125 := Nat.le_trans (Nat.pow_le_pow_left hN5 _) (Nat.le_trans (Nat.pow_le_pow_right (by omega) hs) (by decide))
  have hpw : powI (N : Int) (sorts.length : Int) = ((N ^ sorts.length : Nat) : Int) := by
    unfold powI
    rw [show powN (sorts.length : Int) = sorts.length by unfold powN; omega]
    exact (Int.natCast_pow N sorts.length).symm
  generalize hMe : N ^ sorts.length = M at *
  refine SoundP.of_sound (Sound.of_awp Tryz.call70 Tryz.func70 rfl (Nat.le_of_ble_eq_true (by kernel_rfl)) (by kernel_rfl) (pl := {}) ?_)
  simp [go_sem]
  refine CallStep.pure (atoms07 sc g) (.cons (.hf (hf_eSc sc)) .nil) ?_
  rw [hN]
  simp [go_sem, show ¬ (5 : Int) < N by omega]
  refine CallStep.pure (power06 N sorts.length (by omega) (by omega)) (.cons (.hf (HF.sc _)) (.cons (.hf (HF.sc _)) .nil)) ?_
  rw [hpw]
  simp [go_sem]
  refine LoopGo.keep (fun q st => ∃ k av rest, q = M - k ∧ k ≤ M ∧ st.tm 1 = lI sorts ∧ st.tm 2 = .ip [lI sc.atoms, aI sc.steps] ∧ st.tm 4 = .ptr 0 0 ∧ st.tm 5 = .ptr 1 0 ∧ st.tm 6 = aI (M : Nat) ∧ st.tm 7 = aI (k : Nat) ∧
    st.mu = [.arr [aI 0, .lst true []], .arr [aI sorts.length, av]] ++ rest ∧ OwnF 2 ([.dead, .dead] ++ rest) 1 av ((fullL sc sorts k).map rI)) M ?_ ?_
  · exact ⟨0, .lst true [], [], by omega, by omega, by simp [go_sem], by simp [go_sem], by simp [go_sem], by simp [go_sem], by simp [go_sem], by simp [go_sem], by simp [go_sem], by simpa [fullL] using OwnF.nil (by simp)⟩
  rintro q st ⟨k, av, rest, rfl, hk, e1, e2, e4, e5, e6, e7, hm, ho⟩
  have ho := ho.low (low := [.dead, .dead]) (low' := [.arr [aI 0, .lst true []], .arr [aI sorts.length, av]]) rfl
  by_cases hlt : k < M
  · have hwk : IntKind.i64.wrap ((k : Int) + 1) = ((k + 1 : Nat) : Int) := by rw [wrap_i64 (by omega) (by omega)]; omega
    simp [go_sem, e1, e2, e4, e5, e6, e7, hlt]
    refine CallStep.pure (within07 sc g sorts (by omega) ⟨sorts.length, [(k : Int)]⟩ (by simp) (fun t ht => by simp at ht; subst ht; omega)) (.cons (.hf (hf_eSc sc)) (.cons (.hf (hf_lI sorts)) (.cons (WK.aggs (.cons (.hf (HF.sc _)) (.cons (WK.lst fun r hr c hc => by
      simp at hr; subst hr; simp at hc; subst hc; exact HF.sc _) .nil))) .nil))) ?_
    by_cases hb : withinOk sc sorts ⟨sorts.length, [(k : Int)]⟩ = true
    · simp [go_sem, e1, e2, e4, e5, e6, e7, hlt, hb, hm]
      refine AppendStep.intsL (low := [.arr [aI 0, .lst true []], .arr [aI sorts.length, av]]) (e := 3) (bt := 8) (z := 0) (xs := fullL sc sorts k) (ys := [(k : Int)]) (by simp [go_sem]) (by simp [go_sem]) (by simp [go_sem]) (by omega) ho (by simp [rowsOf]) ?_ ?_
      · have := fullL_len sc sorts k
        have h3 : [(k : Int)].length = 1 := rfl
        omega
      intro av' rest' ho'
      simp [go_sem, e1, e2, e4, e5, e6, e7, hlt, hb, ho'.cells, ho'.one]
      refine Keep.loop (M - (k + 1)) (by omega) ⟨k + 1, av', rest', rfl, by omega, by simp [go_sem, e1], by simp [go_sem, e2], by simp [go_sem, e4], by simp [go_sem, e5], by simp [go_sem, e6], by simp [go_sem, hwk], by simp [go_sem], ?_⟩
      rw [fullL_succ, if_pos hb]
      exact ho'.low (low' := [.dead, .dead]) rfl
    · simp [go_sem, e1, e2, e4, e5, e6, e7, hlt, hb]
      refine Keep.loop (M - (k + 1)) (by omega) ⟨k + 1, av, rest, rfl, by omega, by simp [go_sem, e1], by simp [go_sem, e2], by simp [go_sem, e4], by simp [go_sem, e5], by simp [go_sem, e6], by simp [go_sem, hwk], by simp [go_sem, hm], ?_⟩
      rw [fullL_succ, if_neg hb, List.append_nil]
      exact ho.low (low' := [.dead, .dead]) rfl
  · have hge : k = M := by omega
    subst hge
    simp [go_sem, e1, e2, e4, e5, e6, e7, hm, ho.one]
    exact Rd.rel (r := ⟨sorts.length, fullL sc sorts k⟩) (ho.low (low := [.arr [aI 0, .lst true []], .arr [aI sorts.length, av]]) (low' := [.arr [aI sorts.length, av], .arr [aI sorts.length, av]]) rfl).rdI
end Go.Proofs.YtfniceomhfebhaaGreat.N3

set_option linter.unusedVariables false
set_option linter.unusedSimpArgs false
set_option maxRecDepth 100000
namespace Go.Proofs.YtfniceomhfebhaaGreat.N4
open Go Go.Ev Go.Proofs C1 C2 C3 C4 C5 C6 C7 C8 C9 C10 C11 C12 C13 C14 C15 C16 C17 C18 C19 C20 C21 C22 C23 C24 C25 C26 C27 C28 C29 C30 C31 C32 C33 C34 C35 L1 L2 L3 L4 L5 L6 L7 L8 L9 L10 L11 L12 L13 L14 L15 M1 M2 M3 M4 M5 M6 M7 N1 N2 N3 R1

structure BCell (sp : Sp) (bs : List Bd) (m : Md) (i : Nat) (hb : i < bs.length) (hf : i < sp.fields.length) : Prop where
  ll : bs[i].lo.ts.length ≤ 200
  lu : bs[i].up.ts.length ≤ 200
  al : bs[i].lo.ar = (sp.fields[i].sorts.length : Nat)
  au : bs[i].up.ar = (sp.fields[i].sorts.length : Nat)
  vl : validOk (sumI m.sc.atoms) bs[i].lo = true
  vu : validOk (sumI m.sc.atoms) bs[i].up = true
  lu' : inOk bs[i].lo bs[i].up = true
  wu : withinOk m.sc sp.fields[i].sorts bs[i].up = true
  st : ∀ (s : Nat) (hs : s < m.states.length), ∃ h : i < m.states[s].length, inOk bs[i].lo m.states[s][i] = true ∧ inOk m.states[s][i] bs[i].up = true
structure BVal (sp : Sp) (bs : List Bd) (m : Md) : Prop where
  bl : bs.length = sp.fields.length
  cell : ∀ (i : Nat) (hb : i < bs.length), ∃ hf : i < sp.fields.length, BCell sp bs m i hb hf
theorem validOk_srt {n : Int} {r : Rl} (h : validOk n r = true) : sorted r.ts := by
  simp only [validOk, Bool.and_eq_true, decide_eq_true_eq] at h
  exact h.2
theorem in_full {sc : Sc} {N : Nat} (hN : sumI sc.atoms = N) {sorts : List Int} (hs : sorts.length ≤ 3) {r : Rl} (ha : r.ar = (sorts.length : Nat)) (hv : validOk (sumI sc.atoms) r = true) : inOk r ⟨sorts.length, fullL sc sorts (N ^ sorts.length)⟩ = withinOk sc sorts r := by
  simp only [validOk, Bool.and_eq_true, decide_eq_true_eq, List.all_eq_true] at hv
  obtain ⟨⟨⟨⟨⟨h1, h2⟩, h3⟩, h4⟩, h5⟩, h6⟩ := hv
  unfold inOk withinOk
  rw [Bool.eq_iff_iff, List.all_eq_true, List.all_eq_true]
  have hp : powI (sumI sc.atoms) r.ar = ((N ^ sorts.length : Nat) : Int) := by
    unfold powI
    rw [show powN r.ar = sorts.length by unfold powN; omega, hN]
    exact (Int.natCast_pow N sorts.length).symm
  rw [hp] at h5
  constructor
  · intro h t ht
    have := h t ht
    rw [decide_eq_true_eq] at this
    exact (mem_fullL.1 this).2.2
  · intro h t ht
    rw [decide_eq_true_eq]
    exact mem_fullL.2 ⟨(h5 t ht).1, (h5 t ht).2, h t ht⟩
theorem bounded26 (sp : Sp) (bs : List Bd) (m : Md) (hsm : SmallP sp m) (hv : MVal sp m) (N : Nat) (hN : sumI m.sc.atoms = N) (hN5 : N ≤ 5) : SoundP Tryz.prog 42 [eSp sp, lBd bs, eMd m] (aB (dec (BVal sp bs m))) := by
  have g := scopeOk_g hv.sc
  refine SoundP.of_sound (Sound.of_awp Tryz.call42 Tryz.func42 rfl (Nat.le_of_ble_eq_true (by kernel_rfl)) (by kernel_rfl) (pl := {}) ?_)
  by_cases hbl : bs.length = sp.fields.length
  case neg =>
    rw [dec_false fun h => hbl h.bl]
    simp [go_sem, hbl]
    exact .hf _ (HF.sc _)
  simp [go_sem, hbl]
  refine CallStep.pure (atoms07 m.sc g) (.cons (.hf (hf_eSc _)) .nil) ?_
  simp [go_sem]
  refine LoopGo.up bs.length (fun k st => st.tm 1 = lBd bs ∧ st.tm 3 = ipSp sp ∧ st.tm 5 = ipMd m ∧ st.tm 7 = aI (sumI m.sc.atoms) ∧ st.tm 8 = aI k ∧ ∀ (i : Nat) (hb : i < bs.length), i < k → ∃ hf : i < sp.fields.length, BCell sp bs m i hb hf) ?_ ?_
  · simp [go_sem]
  rintro k st hk ⟨e1, e3, e5, e7, e8, he⟩
  have hf10 := hsm.nf
  have hs64 := hsm.nt
  by_cases hlt : k < bs.length
  · have hltf : k < sp.fields.length := by omega
    have hfs : sp.fields[k].sorts.length ≤ 3 := by
      have := hv.fld k hltf
      simp only [fieldOk, Bool.and_eq_true, decide_eq_true_eq] at this
      exact this.2
    have bad : ¬ BCell sp bs m k hlt hltf → dec (BVal sp bs m) = false := fun h => dec_false fun hB => by
      obtain ⟨_, hc⟩ := hB.cell k hlt
      exact h hc
    generalize hlo : bs[k].lo = lo at *
    generalize hup : bs[k].up = up at *
    simp [go_sem, e1, e3, e5, e7, e8, hlt, hltf, hlo, hup]
    by_cases c1 : (200 : Int) < lo.ts.length
    · rw [bad fun h => by have := h.ll; rw [hlo] at this; omega]
      simp [go_sem, e1, e3, e5, e7, e8, hlt, hltf, hlo, hup, c1]
      exact .hf _ (HF.sc _)
    by_cases c2 : (200 : Int) < up.ts.length
    · rw [bad fun h => by have := h.lu; rw [hup] at this; omega]
      simp [go_sem, e1, e3, e5, e7, e8, hlt, hltf, hlo, hup, c1, c2]
      exact .hf _ (HF.sc _)
    obtain ⟨la, lts⟩ := lo
    obtain ⟨ua, uts⟩ := up
    simp only at c1 c2
    by_cases c3 : la = (sp.fields[k].sorts.length : Nat)
    case neg =>
      rw [bad fun h => by have := h.al; rw [hlo] at this; exact c3 this]
      simp [go_sem, e1, e3, e5, e7, e8, hlt, hltf, hlo, hup, c1, c2, c3]
      exact .hf _ (HF.sc _)
    by_cases c4 : ua = (sp.fields[k].sorts.length : Nat)
    case neg =>
      rw [bad fun h => by have := h.au; rw [hup] at this; exact c4 this]
      simp [go_sem, e1, e3, e5, e7, e8, hlt, hltf, hlo, hup, c1, c2, c3, c4]
      exact .hf _ (HF.sc _)
    subst c3
    subst c4
    simp [go_sem, e1, e3, e5, e7, e8, hlt, hltf, hlo, hup, c1, c2]
    refine CallStep.pure (valid06 (sumI m.sc.atoms) ⟨sp.fields[k].sorts.length, lts⟩ (by simp only; omega)) (.cons (.hf (HF.sc _)) (.cons (.hf (hf_eRel ⟨sp.fields[k].sorts.length, lts⟩)) .nil)) ?_
    by_cases c5 : validOk (sumI m.sc.atoms) ⟨sp.fields[k].sorts.length, lts⟩ = true
    case neg =>
      rw [bad fun h => by have := h.vl; rw [hlo] at this; exact c5 this]
      simp [go_sem, e1, e3, e5, e7, e8, hlt, hltf, hlo, hup, c1, c2, c5]
      exact .hf _ (HF.sc _)
    simp [go_sem, e1, e3, e5, e7, e8, hlt, hltf, hlo, hup, c1, c2, c5]
    refine CallStep.pure (valid06 (sumI m.sc.atoms) ⟨sp.fields[k].sorts.length, uts⟩ (by simp only; omega)) (.cons (.hf (HF.sc _)) (.cons (.hf (hf_eRel ⟨sp.fields[k].sorts.length, uts⟩)) .nil)) ?_
    by_cases c6 : validOk (sumI m.sc.atoms) ⟨sp.fields[k].sorts.length, uts⟩ = true
    case neg =>
      rw [bad fun h => by have := h.vu; rw [hup] at this; exact c6 this]
      simp [go_sem, e1, e3, e5, e7, e8, hlt, hltf, hlo, hup, c1, c2, c6]
      exact .hf _ (HF.sc _)
    simp [go_sem, e1, e3, e5, e7, e8, hlt, hltf, hlo, hup, c1, c2, c6]
    refine DrawGo.intro (by kernel_rfl) ?_
    simp [go_sem, e1, e3, e5, e7, e8, hlt, hltf, hlo, hup]
    refine CallStep.pure (in06 ⟨sp.fields[k].sorts.length, lts⟩ ⟨sp.fields[k].sorts.length, uts⟩ (by simp only; omega) (by simp only; omega) (validOk_srt c6)) (.cons (.hf (hf_eRel ⟨sp.fields[k].sorts.length, lts⟩)) (.cons (.hf (hf_eRel ⟨sp.fields[k].sorts.length, uts⟩)) .nil)) ?_
    by_cases c7 : inOk ⟨sp.fields[k].sorts.length, lts⟩ ⟨sp.fields[k].sorts.length, uts⟩ = true
    case neg =>
      rw [bad fun h => by have := h.lu'; rw [hlo, hup] at this; exact c7 this]
      simp [go_sem, e1, e3, e5, e7, e8, hlt, hltf, hlo, hup, c7]
      exact .hf _ (HF.sc _)
    simp [go_sem, e1, e3, e5, e7, e8, hlt, hltf, hlo, hup, c7]
    refine CallStep.pure (full26 m.sc g N hN hN5 sp.fields[k].sorts hfs) (.cons (.hf (hf_eSc _)) (.cons (.hf (hf_lI _)) .nil)) ?_
    simp [go_sem, e1, e3, e5, e7, e8, hlt, hltf, hlo, hup, c7]
    refine CallStep.pure (in06 ⟨sp.fields[k].sorts.length, uts⟩ ⟨sp.fields[k].sorts.length, fullL m.sc sp.fields[k].sorts (N ^ sp.fields[k].sorts.length)⟩ (by simp only; omega) ?_ (fullL_sorted _ _ _)) (.cons (.hf (hf_eRel ⟨sp.fields[k].sorts.length, uts⟩)) (.cons (.hf (hf_eRel ⟨sp.fields[k].sorts.length, fullL m.sc sp.fields[k].sorts (N ^ sp.fields[k].sorts.length)⟩)) .nil)) ?_
    · have h1 := fullL_len m.sc sp.fields[k].sorts (N ^ sp.fields[k].sorts.length)
      have hM : N ^ sp.fields[k].sorts.length ≤ 125 := Nat.le_trans (Nat.pow_le_pow_left hN5 _) (Nat.le_trans (Nat.pow_le_pow_right (by omega) hfs) (by decide))
      simp only; omega
    rw [in_full hN hfs rfl c6]
    by_cases c8 : withinOk m.sc sp.fields[k].sorts ⟨sp.fields[k].sorts.length, uts⟩ = true
    case neg =>
      rw [bad fun h => by have := h.wu; rw [hup] at this; exact c8 this]
      simp [go_sem, e1, e3, e5, e7, e8, hlt, hltf, hlo, hup, c8]
      exact .hf _ (HF.sc _)
    simp [go_sem, e1, e3, e5, e7, e8, hlt, hltf, hlo, hup, c8]
    refine LoopGo.up m.states.length (fun s st => st.tm 1 = lBd bs ∧ st.tm 3 = ipSp sp ∧ st.tm 5 = ipMd m ∧ st.tm 7 = aI (sumI m.sc.atoms) ∧ st.tm 8 = aI k ∧ st.tm 10 = aI s ∧
      ∀ (u : Nat) (hu : u < m.states.length), u < s → ∃ h : k < m.states[u].length, inOk bs[k].lo m.states[u][k] = true ∧ inOk m.states[u][k] bs[k].up = true) ?_ ?_
    · simp [go_sem, e1, e3, e5, e7, e8]
    clear e1 e3 e5 e7 e8 st
    rintro s st hs ⟨e1, e3, e5, e7, e8, e10, he2⟩
    by_cases hsl : s < m.states.length
    · have hlen := hv.len s hsl
      have hki : k < m.states[s].length := by omega
      have hcell := hv.cell s k hsl hltf
      unfold cellOk at hcell
      have hr200 := (hsm.st s hsl).2 k hki
      generalize hr : m.states[s][k] = r at *
      simp [go_sem, e1, e3, e5, e7, e8, e10, hlt, hltf, hlo, hup, hsl, hki, hr]
      refine DrawGo.intro (by kernel_rfl) ?_
      simp [go_sem, e1, e3, e5, e7, e8, e10, hlt, hltf, hlo, hup, hsl, hki, hr]
      refine CallStep.pure (in06 ⟨sp.fields[k].sorts.length, lts⟩ r (by simp only; omega) (by omega) (validOk_srt hcell.2.1)) (.cons (.hf (hf_eRel ⟨sp.fields[k].sorts.length, lts⟩)) (.cons (.hf (hf_eRel r)) .nil)) ?_
      by_cases c9 : inOk ⟨sp.fields[k].sorts.length, lts⟩ r = true
      case neg =>
        rw [bad fun h => by obtain ⟨_, h1, h2⟩ := h.st s hsl; rw [hlo, hr] at h1; exact c9 h1]
        simp [go_sem, e1, e3, e5, e7, e8, e10, hlt, hltf, hlo, hup, hsl, hki, hr, c9]
        exact .hf _ (HF.sc _)
      simp [go_sem, e1, e3, e5, e7, e8, e10, hlt, hltf, hlo, hup, hsl, hki, hr, c9]
      refine CallStep.pure (in06 r ⟨sp.fields[k].sorts.length, uts⟩ (by omega) (by simp only; omega) (validOk_srt c6)) (.cons (.hf (hf_eRel r)) (.cons (.hf (hf_eRel ⟨sp.fields[k].sorts.length, uts⟩)) .nil)) ?_
      by_cases c10 : inOk r ⟨sp.fields[k].sorts.length, uts⟩ = true
      case neg =>
        rw [bad fun h => by obtain ⟨_, h1, h2⟩ := h.st s hsl; rw [hup, hr] at h2; exact c10 h2]
        simp [go_sem, e1, e3, e5, e7, e8, e10, hlt, hltf, hlo, hup, hsl, hki, hr, c10]
        exact .hf _ (HF.sc _)
      simp [go_sem, e1, e3, e5, e7, e8, e10, hlt, hltf, hlo, hup, hsl, hki, hr, c10]
      refine ⟨wrap_i64 (by omega) (by omega), fun u hu hus => ?_⟩
      rcases Nat.lt_succ_iff_lt_or_eq.1 hus with h7 | h7
      · have := he2 u hu h7
        rw [hlo, hup] at this; exact this
      · subst h7; exact ⟨hki, by rw [hr]; exact c9, by rw [hr]; exact c10⟩
    · simp [go_sem, e1, e3, e5, e7, e8, e10, hlt, hltf, hlo, hup, hsl]
      refine ⟨wrap_i64 (by omega) (by omega), fun i hb hi => ?_⟩
      rcases Nat.lt_succ_iff_lt_or_eq.1 hi with h7 | h7
      · exact he i hb h7
      · subst h7
        refine ⟨hltf, ?_⟩
        have h9 := fun u hu => he2 u hu (by omega)
        constructor
        all_goals first | (rw [hlo]; assumption) | (rw [hup]; assumption) | skip
        · rw [hlo]; simp only; omega
        · rw [hup]; simp only; omega
        · rw [hlo]
        · rw [hup]
        · rw [hlo, hup]; exact c7
        · exact h9
  · rw [dec_true ⟨hbl, fun i hb => he i hb (by omega)⟩]
    simp [go_sem, e1, e3, e5, e7, e8, hlt]
    exact .hf _ (HF.sc _)
end Go.Proofs.YtfniceomhfebhaaGreat.N4

set_option linter.unusedVariables false
set_option linter.unusedSimpArgs false
set_option maxRecDepth 100000
namespace Go.Proofs.YtfniceomhfebhaaGreat.N5
open Go Go.Ev Go.Proofs C1 C2 C3 C4 C5 C6 C7 C8 C9 C10 C11 C12 C13 C14 C15 C16 C17 C18 C19 C20 C21 C22 C23 C24 C25 C26 C27 C28 C29 C30 C31 C32 C33 C34 C35 L1 L2 L3 L4 L5 L6 L7 L8 L9 L10 L11 L12 L13 L14 L15 M1 M2 M3 M4 M5 M6 M7 N1 N2 N3 N4 R1

structure FVal (sp : Sp) (bs : List Bd) (m : Md) : Prop where
  f1 : sp.sorts.length ≤ 4
  f2 : sp.fields.length ≤ 6
  f3 : sp.preds.length ≤ 8
  f4 : sp.facts.length ≤ 16
  sm : SmallP sp m
  v : MVal sp m
  le : sumI m.sc.atoms ≤ 5
  b : BVal sp bs m
theorem fits26 (sp : Sp) (bs : List Bd) (m : Md) : SoundP Tryz.prog 22 [eSp sp, lBd bs, eMd m] (aB (dec (FVal sp bs m))) := by
  refine SoundP.of_sound (Sound.of_awp Tryz.call22 Tryz.func22 rfl (Nat.le_of_ble_eq_true (by kernel_rfl)) (by kernel_rfl) (pl := {}) ?_)
  by_cases h1 : (sp.sorts.length : Int) ≤ 4
  case neg =>
    rw [dec_false fun h => by have := h.f1; omega]
    simp [go_sem, h1]
    exact .hf _ (HF.sc _)
  by_cases h2 : (sp.fields.length : Int) ≤ 6
  case neg =>
    rw [dec_false fun h => by have := h.f2; omega]
    simp [go_sem, h1, h2]
    exact .hf _ (HF.sc _)
  by_cases h3 : (sp.preds.length : Int) ≤ 8
  case neg =>
    rw [dec_false fun h => by have := h.f3; omega]
    simp [go_sem, h1, h2, h3]
    exact .hf _ (HF.sc _)
  by_cases h4 : (sp.facts.length : Int) ≤ 16
  case neg =>
    rw [dec_false fun h => by have := h.f4; omega]
    simp [go_sem, h1, h2, h3, h4]
    exact .hf _ (HF.sc _)
  simp [go_sem, h1, h2, h3, h4]
  refine CallStep.pure (small07 sp m) (.cons (.hf (hf_eSp sp)) (.cons (.hf (hf_eMd m)) .nil)) ?_
  by_cases h5 : smallOk sp m = true
  case neg =>
    rw [dec_false fun h => h5 (smallOk_iff.2 h.sm)]
    simp [go_sem, h1, h2, h3, h4, h5]
    exact .hf _ (HF.sc _)
  have hsm := smallOk_iff.1 h5
  simp [go_sem, h1, h2, h3, h4, h5]
  refine CallStep.pure (valid07 sp m hsm) (.cons (.hf (hf_eSp sp)) (.cons (.hf (hf_eMd m)) .nil)) ?_
  by_cases h6 : MVal sp m
  case neg =>
    rw [dec_false h6, dec_false fun h => h6 h.v]
    simp [go_sem, h1, h2, h3, h4, h5]
    exact .hf _ (HF.sc _)
  rw [dec_true h6]
  have g := scopeOk_g h6.sc
  simp [go_sem, h1, h2, h3, h4, h5]
  refine CallStep.pure (atoms07 m.sc g) (.cons (.hf (hf_eSc _)) .nil) ?_
  by_cases h7 : sumI m.sc.atoms ≤ 5
  case neg =>
    rw [dec_false fun h => h7 h.le]
    simp [go_sem, h7]
    exact .hf _ (HF.sc _)
  have h0 : 0 ≤ sumI m.sc.atoms := by
    have := (GSc.sum g m.sc.atoms.length).1
    rwa [List.take_length] at this
  simp [go_sem, h7]
  refine CallStep.pure (bounded26 sp bs m hsm h6 (sumI m.sc.atoms).toNat (by omega) (by omega)) (.cons (.hf (hf_eSp sp)) (.cons (.hf (hf_lBd bs)) (.cons (.hf (hf_eMd m)) .nil))) ?_
  by_cases h8 : BVal sp bs m
  case neg =>
    rw [dec_false h8, dec_false fun h => h8 h.b]
    simp [go_sem]
    exact .hf _ (HF.sc _)
  rw [dec_true h8, dec_true ⟨by omega, by omega, by omega, by omega, hsm, h6, h7, h8⟩]
  simp [go_sem]
  exact .hf _ (HF.sc _)
end Go.Proofs.YtfniceomhfebhaaGreat.N5

set_option linter.unusedVariables false
set_option linter.unusedSimpArgs false
set_option maxRecDepth 100000
namespace Go.Proofs.YtfniceomhfebhaaGreat.N6
open Go Go.Ev Go.Proofs C1 C2 C3 C4 C5 C6 C7 C8 C9 C10 C11 C12 C13 C14 C15 C16 C17 C18 C19 C20 C21 C22 C23 C24 C25 C26 C27 C28 C29 C30 C31 C32 C33 C34 C35 L1 L2 L3 L4 L5 L6 L7 L8 L9 L10 L11 L12 L13 L14 L15 M1 M2 M3 M4 M5 M6 M7 N1 N2 N3 N4 N5 R1

theorem same11 (a b : List Int) (ha : a.length ≤ 9223372036854775807) : SoundP Tryz.prog 33 [lI a, lI b] (aB (decide (a = b))) := by
  refine SoundP.of_sound (Sound.of_awp Tryz.call33 Tryz.func33 rfl (Nat.le_of_ble_eq_true (by kernel_rfl)) (by kernel_rfl) (pl := {}) ?_)
  simp [go_sem]
  refine BrS.intro (fun hn => ?_) (fun hn => ?_)
  · simp at hn
    simp [go_sem]
    rw [decide_eq_false (by rintro rfl; exact hn rfl)]
    exact .hf _ (HF.sc _)
  simp at hn
  have hn : a.length = b.length := by omega
  simp [go_sem]
  refine LoopGo.up a.length (fun k st => st.tm 0 = lI a ∧ st.tm 1 = lI b ∧ st.tm 5 = aI k ∧ st.mu = [] ∧ ∀ (i : Nat) (h : i < a.length) (h' : i < b.length), i < k → a[i] = b[i]) ?_ ?_
  · simp [go_sem]
  rintro k st hk ⟨h0, h1, h5, hm, he⟩
  simp [go_sem, h0, h1, h5, hm]
  refine BrS.intro (fun hlt => ?_) (fun hge => ?_)
  · have hlt : k < a.length := by simpa using hlt
    have hlt' : k < b.length := by omega
    simp [go_sem, h0, h1, h5, hm, hlt]
    refine DrawGo.intro (by kernel_rfl) ?_
    simp [go_sem, h0, h1, h5, hm, hlt, hlt']
    refine BrS.intro (fun hb => ?_) (fun hb => ?_)
    · simp [go_sem, h0, h1, h5, hm, hlt]
      rw [decide_eq_false (by rintro rfl; simp at hb)]
      exact .hf _ (HF.sc _)
    · simp [go_sem, h0, h1, h5, hm, hlt]
      refine ⟨wrap_i64 (by omega) (by omega), fun i h h' hi => ?_⟩
      rcases Nat.lt_succ_iff_lt_or_eq.1 hi with h2 | h2
      · exact he i h h' h2
      · subst h2; simpa using hb
  · have hge : k = a.length := by simp at hge; omega
    subst hge
    simp [go_sem, h0, h1, h5, hm]
    rw [decide_eq_true (List.ext_getElem hn fun i h h' => he i h h' h)]
    exact .hf _ (HF.sc _)
theorem sameAll11 (a b : List (List Int)) (ha : a.length ≤ 9223372036854775807) (hi : ∀ l, l ∈ a → l.length ≤ 9223372036854775807) : SoundP Tryz.prog 17 [lL a, lL b] (aB (decide (a = b))) := by
  refine SoundP.of_sound (Sound.of_awp Tryz.call17 Tryz.func17 rfl (Nat.le_of_ble_eq_true (by kernel_rfl)) (by kernel_rfl) (pl := {}) ?_)
  by_cases hn : a.length = b.length
  case neg =>
    simp [go_sem, hn]
    rw [decide_eq_false (by rintro rfl; exact hn rfl)]
    exact .hf _ (HF.sc _)
  simp [go_sem, hn]
  refine LoopGo.up a.length (fun k st => st.tm 0 = lL a ∧ st.tm 1 = lL b ∧ st.tm 5 = aI k ∧ st.mu = [] ∧ ∀ (i : Nat) (h : i < a.length) (h' : i < b.length), i < k → a[i] = b[i]) ?_ ?_
  · simp [go_sem]
  rintro k st hk ⟨h0, h1, h5, hm, he⟩
  by_cases hlt : k < a.length
  · have hlt' : k < b.length := by omega
    simp [go_sem, h0, h1, h5, hm, hlt]
    refine DrawGo.intro (by kernel_rfl) ?_
    simp [go_sem, h0, h1, h5, hm, hlt, hlt']
    refine CallStep.pure (same11 a[k] b[k] (hi _ (List.getElem_mem hlt))) (.cons (.hf (hf_lI _)) (.cons (.hf (hf_lI _)) .nil)) ?_
    by_cases hb : a[k] = b[k]
    · simp [go_sem, h0, h1, h5, hm, hlt, hb]
      refine ⟨wrap_i64 (by omega) (by omega), fun i h h' hi => ?_⟩
      rcases Nat.lt_succ_iff_lt_or_eq.1 hi with h2 | h2
      · exact he i h h' h2
      · subst h2; exact hb
    · simp [go_sem, h0, h1, h5, hm, hlt, hb]
      rw [decide_eq_false (by rintro rfl; simp at hb)]
      exact .hf _ (HF.sc _)
  · have hge : k = a.length := by omega
    subst hge
    simp [go_sem, h0, h1, h5, hm]
    rw [decide_eq_true (List.ext_getElem hn fun i h h' => he i h h' h)]
    exact .hf _ (HF.sc _)
theorem sameModels11 (a b : Md) (ha : smMd a) : SoundP Tryz.prog 11 [eMd a, eMd b] (aB (decide (a = b))) := by
  refine SoundP.of_sound (Sound.of_awp Tryz.call11 Tryz.func11 rfl (Nat.le_of_ble_eq_true (by kernel_rfl)) (by kernel_rfl) (pl := {}) ?_)
  by_cases h1 : a.loop = b.loop
  case neg =>
    rw [decide_eq_false fun h => h1 (by rw [h])]
    simp [go_sem, h1]
    exact .hf _ (HF.sc _)
  by_cases h2 : a.sc.steps = b.sc.steps
  case neg =>
    rw [decide_eq_false fun h => h2 (by rw [h])]
    simp [go_sem, h1, h2]
    exact .hf _ (HF.sc _)
  simp [go_sem, h1, h2]
  refine CallStep.pure (same11 a.sc.atoms b.sc.atoms (by have := ha.na; omega)) (.cons (.hf (hf_lI _)) (.cons (.hf (hf_lI _)) .nil)) ?_
  by_cases h3 : a.sc.atoms = b.sc.atoms
  case neg =>
    rw [decide_eq_false fun h => h3 (by rw [h])]
    simp [go_sem, h1, h2, h3]
    exact .hf _ (HF.sc _)
  by_cases hn : a.states.length = b.states.length
  case neg =>
    rw [decide_eq_false fun h => hn (by rw [h])]
    simp [go_sem, h1, h2, h3, hn]
    exact .hf _ (HF.sc _)
  have hall : a.states = b.states → a = b := by
    intro h
    obtain ⟨⟨a1, a2⟩, a3, a4⟩ := a
    obtain ⟨⟨b1, b2⟩, b3, b4⟩ := b
    simp only at h h1 h2 h3
    subst h; subst h1; subst h2; subst h3; rfl
  have hlen := ha.ns
  simp [go_sem, h1, h2, h3, hn]
  refine LoopGo.up a.states.length (fun k st => st.tm 2 = ipMd a ∧ st.tm 3 = ipMd b ∧ st.tm 5 = aI k ∧ st.mu = [] ∧ ∀ (i : Nat) (h : i < a.states.length) (h' : i < b.states.length), i < k → a.states[i] = b.states[i]) ?_ ?_
  · simp [go_sem, h1, h2, h3]
  rintro k st hk ⟨e2, e3, e5, hm, he⟩
  by_cases hlt : k < a.states.length
  · have hlt' : k < b.states.length := by omega
    simp [go_sem, e2, e3, e5, hm, hlt]
    refine DrawGo.intro (by kernel_rfl) ?_
    by_cases h4 : a.states[k].length = b.states[k].length
    case neg =>
      rw [decide_eq_false fun h => h4 (by subst h; rfl)]
      simp [go_sem, e2, e3, e5, hm, hlt, hlt', h4]
      exact .hf _ (HF.sc _)
    have hkl := ha.nf _ (List.getElem_mem hlt)
    simp [go_sem, e2, e3, e5, hm, hlt, hlt', h4]
    refine LoopGo.up a.states[k].length (fun j st => st.tm 2 = ipMd a ∧ st.tm 3 = ipMd b ∧ st.tm 5 = aI k ∧ st.tm 6 = aI j ∧ st.mu = [] ∧ ∀ (i : Nat) (h : i < a.states[k].length) (h' : i < b.states[k].length), i < j → a.states[k][i] = b.states[k][i]) ?_ ?_
    · simp [go_sem, e2, e3, e5, hm]
    clear e2 e3 e5 hm st
    rintro j st hj ⟨e2, e3, e5, e6, hm, he2⟩
    by_cases hjl : j < a.states[k].length
    · have hjl' : j < b.states[k].length := by omega
      have hrl := ha.nt _ (List.getElem_mem hlt) _ (List.getElem_mem hjl)
      have hne : a.states[k][j] ≠ b.states[k][j] → a ≠ b := fun h e => h (by subst e; rfl)
      simp [go_sem, e2, e3, e5, e6, hm, hlt, hlt', hjl, hjl']
      refine DrawGo.intro (by kernel_rfl) ?_
      simp [go_sem, e2, e3, e5, e6, hm, hlt, hlt', hjl, hjl']
      refine CallStep.pure (equal06 a.states[k][j] b.states[k][j] (by omega)) (.cons (.hf (hf_eRel _)) (.cons (.hf (hf_eRel _)) .nil)) ?_
      by_cases h6 : a.states[k][j] = b.states[k][j]
      case neg =>
        rw [decide_eq_false (hne h6)]
        simp [go_sem, e2, e3, e5, e6, hm, hlt, hlt', hjl, hjl', h6]
        exact .hf _ (HF.sc _)
      simp [go_sem, e2, e3, e5, e6, hm, hlt, hlt', hjl, hjl', h6]
      refine ⟨wrap_i64 (by omega) (by omega), fun i h h' hi => ?_⟩
      rcases Nat.lt_succ_iff_lt_or_eq.1 hi with h7 | h7
      · exact he2 i h h' h7
      · subst h7; exact h6
    · have hje : j = a.states[k].length := by omega
      simp [go_sem, e2, e3, e5, e6, hm, hlt, hjl]
      refine ⟨wrap_i64 (by omega) (by omega), fun i h h' hi => ?_⟩
      rcases Nat.lt_succ_iff_lt_or_eq.1 hi with h7 | h7
      · exact he i h h' h7
      · subst h7; exact List.ext_getElem h4 fun q hq hq' => he2 q hq hq' (by omega)
  · have hge : k = a.states.length := by omega
    subst hge
    simp [go_sem, e2, e3, e5, hm]
    rw [decide_eq_true (hall (List.ext_getElem hn fun i h h' => he i h h' h))]
    exact .hf _ (HF.sc _)
theorem sameAll26 (a b : List Md) (ha : a.length ≤ 9223372036854775807) (hi : ∀ l, l ∈ a → smMd l) : SoundP Tryz.prog 14 [lMd a, lMd b] (aB (decide (a = b))) := by
  refine SoundP.of_sound (Sound.of_awp Tryz.call14 Tryz.func14 rfl (Nat.le_of_ble_eq_true (by kernel_rfl)) (by kernel_rfl) (pl := {}) ?_)
  by_cases hn : a.length = b.length
  case neg =>
    simp [go_sem, hn]
    rw [decide_eq_false (by rintro rfl; exact hn rfl)]
    exact .hf _ (HF.sc _)
  simp [go_sem, hn]
  refine LoopGo.up a.length (fun k st => st.tm 0 = lMd a ∧ st.tm 1 = lMd b ∧ st.tm 5 = aI k ∧ st.mu = [] ∧ ∀ (i : Nat) (h : i < a.length) (h' : i < b.length), i < k → a[i] = b[i]) ?_ ?_
  · simp [go_sem]
  rintro k st hk ⟨h0, h1, h5, hm, he⟩
  by_cases hlt : k < a.length
  · have hlt' : k < b.length := by omega
    simp [go_sem, h0, h1, h5, hm, hlt]
    refine DrawGo.intro (by kernel_rfl) ?_
    simp [go_sem, h0, h1, h5, hm, hlt, hlt']
    refine CallStep.pure (sameModels11 a[k] b[k] (hi _ (List.getElem_mem hlt))) (.cons (.hf (hf_eMd _)) (.cons (.hf (hf_eMd _)) .nil)) ?_
    by_cases hb : a[k] = b[k]
    · simp [go_sem, h0, h1, h5, hm, hlt, hb]
      refine ⟨wrap_i64 (by omega) (by omega), fun i h h' hi => ?_⟩
      rcases Nat.lt_succ_iff_lt_or_eq.1 hi with h2 | h2
      · exact he i h h' h2
      · subst h2; exact hb
    · simp [go_sem, h0, h1, h5, hm, hlt, hb]
      rw [decide_eq_false (by rintro rfl; simp at hb)]
      exact .hf _ (HF.sc _)
  · have hge : k = a.length := by omega
    subst hge
    simp [go_sem, h0, h1, h5, hm]
    rw [decide_eq_true (List.ext_getElem hn fun i h h' => he i h h' h)]
    exact .hf _ (HF.sc _)
end Go.Proofs.YtfniceomhfebhaaGreat.N6

set_option linter.unusedVariables false
set_option linter.unusedSimpArgs false
set_option maxRecDepth 100000
namespace Go.Proofs.YtfniceomhfebhaaGreat.R2
open Go Go.Ev Go.Proofs C1 C2 C3 C4 C5 C6 C7 C8 C9 C10 C11 C12 C13 C14 C15 C16 C17 C18 C19 C20 C21 C22 C23 C24 C25 C26 C27 C28 C29 C30 C31 C32 C33 C34 C35 L1 L2 L3 L4 L5 L6 L7 L8 L9 L10 L11 L12 L13 L14 L15 R1

theorem hf_rI {l : List Int} : ∀ r, r ∈ l.map rI → ∀ c, c ∈ r → HF c := fun r hr c hc => by
  obtain ⟨n, _, rfl⟩ := List.mem_map.1 hr
  simp at hc; subst hc; exact HF.sc _
/-- rows of a list of lists -/
theorem rows_lI (L : List (List Int)) : (L.map lI).map (fun c => [c]) = L.map rL := by simp
theorem OwnF.rdCut {R : Nat} {mu : Mu} {av : AV} {q : List Int} (h : OwnF R mu 1 av (q.map rI)) : Rd (cutM (fun i => decide (R ≤ i)) mu 0) av (lI q) := by
  rcases h.1 with e | ⟨b, e, hc⟩
  · rw [e]; exact .wk _ true _ (.hf _ (HF.lst hf_rI))
  · rw [e]
    have hb := h.2.1 _ _ _ _ e
    refine Own.rd (.inr ⟨b, rfl, ?_⟩) (rows_rI q).ok hf_rI
    rw [cutM_get, hc]; simp [hb]
/-- a slice of its own, which is given away, becomes the last row -/
theorem AppendStep.giveL {P : Program} {mu : Mu} {R t t' e bt : Nat} {s av : AV} {L : List (List Int)} {q : List Int} {K : AV → Mu → Prop} (hs : sliceOf P t = some (e, 1, bt)) (hs' : (sliceOf P t').isSome = true) (hz : zeroOf P e = some (.lst true []))
    (hb : bt ≤ 16384) (ho : OwnR mu s (L.map lI)) (hlt : ∀ b, blkOf s = some b → b < R) (hR : R ≤ mu.length) (hp : OwnF R mu 1 av (q.map rI)) (hl : L.length + 1 ≤ 4294967296)
    (k : ∀ mu' s', OwnR mu' s' ((L ++ [q]).map lI) → (∀ i, i < R → blkOf s ≠ some i → mu'[i]? = mu[i]?) → (∀ b, blkOf s' = some b → R ≤ b) → mu.length < mu'.length → K s' mu') : AppendStep P mu #[t, t'] s (.lst true [[av]]) K := by
  refine AppendStep.giveRow (e := e) (bt := bt) (zv := .lst true []) (fun i => decide (R ≤ i)) hs hs' hz rfl rfl hb ho (fun b h => by have := hlt b h; simp; omega) (OwnF.rdCut hp) rfl (by simpa using hl) ?_
  intro mu' h1 h2
  refine k _ _ ?_ (fun i hi hne => h2 i (by omega) (by simp; omega) hne) (fun b hb => by cases hb; omega) (List.getElem?_eq_some_iff.1 h1).1
  rw [List.map_append]
  exact .inr ⟨_, rfl, h1⟩
theorem FzQ.ownR {Q : AExit → St → Prop} {i d : Nat} {s : AV} {L : List (List Int)} {st : St} (hd : st.tm d = s) (ho : OwnR st.mu s (L.map lI)) 
    (k : ∀ mu' full, mu'.length = st.mu.length → (∀ j, blkOf s ≠ some j → mu'[j]? = st.mu[j]?) → Q (.exit i) (st.put (some d) (.lst full (L.map rL)) mu')) : FzQ Q (.exit i) st := by
  rcases ho with ⟨h, he⟩ | ⟨b, h, hc⟩
  · refine FzQ.one (b := st.mu.length) (d := d) (x := .lst true (L.map rL)) ?_ (k _ _ (cutM_len _ _ _) fun j hj => ?_)
    · have : L = [] := by simpa using he
      subst this
      rw [hd, h]
      exact .hf _ (HF.lst fun r hr => by simp at hr)
    · by_cases hjl : j = st.mu.length
      · rw [hjl, List.getElem?_eq_none (by rw [cutM_len]; exact Nat.le_refl _), List.getElem?_eq_none (Nat.le_refl _)]
      · exact cutM_off hjl _
  · refine FzQ.one (b := b) (d := d) (x := .lst false (L.map rL)) ?_ (k _ _ (cutM_len _ _ _) fun j hj => cutM_off (fun e => hj (by rw [h, e]; rfl)) _)
    rw [hd, ← rows_lI]
    exact OwnR.rd (.inr ⟨b, h, by rw [cutM_at]; exact hc⟩) (fun x hx => by
      obtain ⟨n, _, rfl⟩ := List.mem_map.1 hx
      exact hf_lI _)
/-- permutations, level by level -/
def stepN (sc : Sc) (i : Nat) (p : List Int) (k : Nat) : List (List Int) := ((List.range k).filter fun x : Nat => decide (sortAt sc x = sortAt sc i ∧ ¬ (x : Int) ∈ p)).map fun (x : Nat) => p ++ [(x : Int)]
theorem stepN_succ (sc : Sc) (i : Nat) (p : List Int) (k : Nat) : stepN sc i p (k + 1) = stepN sc i p k ++ (if sortAt sc k = sortAt sc i ∧ ¬ (k : Int) ∈ p then [p ++ [(k : Int)]] else []) := by
  unfold stepN
  rw [List.range_succ, List.filter_append, List.map_append]
  by_cases h : sortAt sc k = sortAt sc i ∧ ¬ (k : Int) ∈ p <;> simp [h]
theorem stepN_len (sc : Sc) (i : Nat) (p : List Int) (k : Nat) : (stepN sc i p k).length ≤ k := by
  unfold stepN
  have := List.length_filter_le (fun x : Nat => decide (sortAt sc x = sortAt sc i ∧ ¬ (x : Int) ∈ p)) (List.range k)
  simpa using this
def lvl (sc : Sc) (N : Nat) : Nat → List (List Int)
  | 0 => [[]]
  | i + 1 => (lvl sc N i).flatMap fun p => stepN sc i p N
theorem flatMap_len {α β : Type} (f : α → List β) (m : Nat) (h : ∀ a, (f a).length ≤ m) : ∀ l : List α, (l.flatMap f).length ≤ l.length * m
  | [] => by simp
  | a :: l => by
    have := flatMap_len f m h l
    have := h a
    rw [List.flatMap_cons, List.length_append, List.length_cons, Nat.add_mul]; omega
theorem lvl_len (sc : Sc) (N : Nat) : ∀ i, (lvl sc N i).length ≤ N ^ i
  | 0 => by simp [lvl]
  | i + 1 => by
    have := flatMap_len (fun p => stepN sc i p N) N (fun p => stepN_len sc i p N) (lvl sc N i)
    rw [lvl, Nat.pow_succ]
    exact Nat.le_trans this (Nat.mul_le_mul_right N (lvl_len sc N i))
theorem lvl_each (sc : Sc) (N : Nat) : ∀ i q, q ∈ lvl sc N i → q.length = i
  | 0, q, h => by simp [lvl] at h; subst h; rfl
  | i + 1, q, h => by
    rw [lvl, List.mem_flatMap] at h
    obtain ⟨p, hp, h⟩ := h
    unfold stepN at h
    obtain ⟨x, _, rfl⟩ := List.mem_map.1 h
    simp [lvl_each sc N i p hp]
theorem take_flat {α β : Type} (f : α → List β) (l : List α) (k : Nat) (h : k < l.length) : (l.take (k + 1)).flatMap f = (l.take k).flatMap f ++ f l[k] := by
  rw [List.take_add_one, List.getElem?_eq_getElem h, List.flatMap_append]; simp

abbrev rF (f : Bool) (q : List Int) : List AV := [.lst f (q.map rI)]
theorem Rd.flag {mu : Mu} {f full : Bool} {L : List (List Int)} : Rd mu (.lst full (L.map (rF f))) (lL L) := by
  refine .wk _ full _ (.lst full _ _ (by simp) (fun k x y hx hy => ?_) (fun k x y hx hy => ?_))
  · rw [List.getElem?_map] at hx hy
    cases hq : L[k]? with
    | none => rw [hq] at hx; simp at hx
    | some l => rw [hq] at hx hy; simp at hx hy; subst hx; subst hy; rfl
  · have e1 : (L.map (rF f)).flatten = L.map fun l => AV.lst f (l.map rI) := by
      clear hx hy
      induction L with
      | nil => rfl
      | cons a l ih => rw [List.map_cons, List.flatten_cons, ih]; rfl
    have e2 : (L.map rL).flatten = L.map lI := flat_lL L
    rw [e1, List.getElem?_map] at hx
    rw [e2, List.getElem?_map] at hy
    cases hq : L[k]? with
    | none => rw [hq] at hx; simp at hx
    | some l => rw [hq] at hx hy; simp at hx hy; subst hx; subst hy; exact .wk _ f _ (.hf _ (HF.lst hf_rI))
theorem all11 (sc : Sc) (u : GU sc) (N : Nat) (hN : sumI sc.atoms = N) (hN6 : N ≤ 6) : SoundP Tryz.prog 45 [eSc sc] (lL (lvl sc N N)) := by
  have hg := u.g
  have hpow : ∀ i, i ≤ N → N ^ i ≤ 46656 := fun i hi => by
    have h1 : N ^ i ≤ 6 ^ i := Nat.pow_le_pow_left hN6 i
    have h2 : 6 ^ i ≤ 6 ^ 6 := Nat.pow_le_pow_right (by omega) (by omega)
    omega
  refine SoundP.of_sound (Sound.of_awp Tryz.call45 Tryz.func45 rfl (Nat.le_of_ble_eq_true (by kernel_rfl)) (by kernel_rfl) (pl := {}) ?_)
  simp [go_sem]
  refine CallStep.pure (atoms11 sc hg) (.cons (.hf (hf_eSc sc)) .nil) ?_
  rw [hN]
  simp [go_sem]
  refine LoopGo.up N (fun i st => ∃ full f, st.tm 1 = .ip [lI sc.atoms, aI sc.steps] ∧ st.tm 3 = .lst full ((lvl sc N i).map (rF f)) ∧ st.tm 4 = aI N ∧ st.tm 5 = aI i) ?_ ?_
  · simp [go_sem, lvl, rF]
  rintro i st hi ⟨full, f, e1, e3, e4, e5⟩
  by_cases hiN : i < N
  case neg =>
    have hge : i = N := by omega
    subst hge
    simp [go_sem, e1, e3, e4, e5]
    exact Rd.flag
  have hll := lvl_len sc N i
  have hp1 := hpow i (by omega)
  have hp2 := hpow (i + 1) (by omega)
  have heach := lvl_each sc N i
  have hfl : ∀ k, ((lvl sc N i).take k).flatMap (fun p => stepN sc i p N) = ((lvl sc N i).take k).flatMap (fun p => stepN sc i p N) := fun k => rfl
  have hnext : lvl sc N (i + 1) = (lvl sc N i).flatMap fun p => stepN sc i p N := rfl
  generalize lvl sc N i = L at *
  simp [go_sem, e1, e3, e4, e5, hiN, show (i : Int) < 12 by omega]
  refine LoopGo.upF L.length (fun k st => st.tm 1 = .ip [lI sc.atoms, aI sc.steps] ∧ st.tm 3 = .lst full (L.map (rF f)) ∧ st.tm 4 = aI N ∧ st.tm 5 = aI i ∧ st.tm 7 = aI k ∧ OwnR st.mu (st.tm 6) (((L.take k).flatMap fun p => stepN sc i p N).map lI)) ?_ ?_
  · simp [go_sem, e1, e3, e4, e5]
    exact .inl ⟨rfl, rfl⟩
  clear e1 e3 e4 e5
  clear st
  rintro k st hk ⟨e1, e3, e4, e5, e7, ho⟩
  by_cases hkL : k < L.length
  case neg =>
    have hge : k = L.length := by omega
    subst hge
    rw [List.take_length, ← hnext] at ho
    simp [go_sem, e1, e3, e4, e5, e7]
    refine FzQ.ownR (d := 6) rfl ho ?_
    intro mu' full' hml hmj
    simp [go_sem, e1, e3, e4, e5, e7]
    exact ⟨hiN, by cases full' <;> simp, wrap_i64 (by omega) (by omega)⟩
  have hq := heach _ (List.getElem_mem hkL)
  have htf := take_flat (fun p => stepN sc i p N) L k hkL
  have hfl := flatMap_len (fun p => stepN sc i p N) N (fun p => stepN_len sc i p N) (L.take k)
  have hkl : (L.take k).length = k := by simp; omega
  rw [hkl] at hfl
  generalize (L.take k).flatMap (fun p => stepN sc i p N) = M at *
  generalize hqe : L[k] = q at *
  simp [go_sem, e1, e3, e4, e5, e7, hkL]
  refine LoopGo.up N (fun x st => st.tm 1 = .ip [lI sc.atoms, aI sc.steps] ∧ st.tm 3 = .lst full (L.map (rF f)) ∧ st.tm 4 = aI N ∧ st.tm 5 = aI i ∧ st.tm 7 = aI k ∧ st.tm 8 = aI x ∧ OwnR st.mu (st.tm 6) ((M ++ stepN sc i q x).map lI)) ?_ ?_
  · simp [go_sem, e1, e3, e4, e5, e7, stepN]
    exact ho
  clear e1 e3 e4 e5 e7 ho
  clear st
  rintro x st hx ⟨e1, e3, e4, e5, e7, e8, ho⟩
  by_cases hxN : x < N
  case neg =>
    have hge : x = N := by omega
    subst hge
    simp [go_sem, e1, e3, e4, e5, e7, e8]
    exact ⟨hkL, wrap_i64 (by omega) (by omega), by rw [htf]; exact ho⟩
  simp [go_sem, e1, e3, e4, e5, e7, e8, hxN, show (x : Int) < 12 by omega]
  refine DrawGo.intro (by kernel_rfl) ?_
  have hst := stepN_succ sc i q x
  have hsl := stepN_len sc i q x
  simp [go_sem, e1, e3, e4, e5, e7, e8]
  refine CallStep.pure (sort11 sc hg x (by omega)) (.cons (.hf (hf_eSc sc)) (.cons (.hf (HF.sc _)) .nil)) ?_
  simp [go_sem, e1, e3, e4, e5, e7, e8]
  refine CallStep.pure (sort11 sc hg i (by omega)) (.cons (.hf (hf_eSc sc)) (.cons (.hf (HF.sc _)) .nil)) ?_
  by_cases hs : sortAt sc x = sortAt sc i
  case neg =>
    rw [if_neg (fun h => hs h.1), List.append_nil] at hst
    simp [go_sem, e1, e3, e4, e5, e7, e8, hs]
    exact ⟨hxN, wrap_i64 (by omega) (by omega), by rw [← List.map_append, hst]; exact ho⟩
  simp [go_sem, e1, e3, e4, e5, e7, e8, hs, hkL, hqe]
  refine CallStep.pure (has11 q x (by omega)) (.cons (WK.ints q) (.cons (.hf (HF.sc _)) .nil)) ?_
  by_cases hm : (x : Int) ∈ q
  · rw [if_neg (fun h => h.2 hm), List.append_nil] at hst
    simp [go_sem, e1, e3, e4, e5, e7, e8, hs, hm]
    exact ⟨hxN, wrap_i64 (by omega) (by omega), by rw [← List.map_append, hst]; exact ho⟩
  rw [if_pos ⟨hs, hm⟩] at hst
  simp [go_sem, e1, e3, e4, e5, e7, e8, hs, hm, hkL, hqe]
  refine AppendStep.ints (lo := st.mu.length) (e := 3) (bt := 8) (z := 0) (xs := []) (ys := q) (by simp [go_sem]) (by simp [go_sem]) (by simp [go_sem]) (by omega) (OwnF.lit [] (Nat.le_refl _)) (by simp [rowsOf]) (by simp; omega) ?_
  intro av1 mu1 ho1 hl1
  simp [go_sem, e1, e3, e4, e5, e7, e8]
  refine AppendStep.ints (lo := st.mu.length) (e := 3) (bt := 8) (z := 0) (xs := q) (ys := [(x : Int)]) (by simp [go_sem]) (by simp [go_sem]) (by simp [go_sem]) (by omega) ho1 (by simp [rowsOf]) (by simp; omega) ?_
  intro av2 mu2 ho2 hl2
  have hlow : ∀ j, j < st.mu.length → mu2[j]? = st.mu[j]? := fun j hj => (hl2 j hj).trans (hl1 j hj)
  have hlt : ∀ b, blkOf (st.tm 6) = some b → b < st.mu.length := fun b hb => ho.lt hb
  have ho' : OwnR mu2 (st.tm 6) ((M ++ stepN sc i q x).map lI) := ho.same fun b hb => hlow b (hlt b hb)
  simp [go_sem, e1, e3, e4, e5, e7, e8, ho2.one, ho2.cells]
  refine AppendStep.giveL (R := st.mu.length) (e := 29) (bt := 24) (L := M ++ stepN sc i q x) (by simp [go_sem]) (by simp [go_sem]) (by simp [go_sem]) (by omega) ho' hlt ho2.2.2 ho2 ?_ ?_
  · have hkN : k * N ≤ 46656 * 6 := Nat.mul_le_mul (by omega) hN6
    simp only [List.length_append]; omega
  intro mu3 s3 ho3 _ _ _
  simp [go_sem, e1, e3, e4, e5, e7, e8]
  refine ⟨hxN, wrap_i64 (by omega) (by omega), ?_⟩
  rw [← List.map_append, hst, ← List.append_assoc]; exact ho3
end Go.Proofs.YtfniceomhfebhaaGreat.R2

set_option linter.unusedVariables false
set_option linter.unusedSimpArgs false
set_option maxRecDepth 100000
namespace Go.Proofs.YtfniceomhfebhaaGreat.R3
open Go Go.Ev Go.Proofs C1 C2 C3 C4 C5 C6 C7 C8 C9 C10 C11 C12 C13 C14 C15 C16 C17 C18 C19 C20 C21 C22 C23 C24 C25 C26 C27 C28 C29 C30 C31 C32 C33 C34 C35 L1 L2 L3 L4 L5 L6 L7 L8 L9 L10 L11 L12 L13 L14 L15 R1 R2

theorem atN_spec (l : List Int) (r : Int) : ∀ n, (∀ i, atN l r n ≤ i → i < n → r ≤ gI l i) ∧ (0 < atN l r n → gI l (atN l r n - 1) < r)
  | 0 => ⟨fun i _ h => by omega, fun h => by simp [atN] at h⟩
  | n + 1 => by
    obtain ⟨h1, h2⟩ := atN_spec l r n
    rw [atN]
    by_cases h : r ≤ gI l n
    · rw [if_pos h]
      refine ⟨fun i hi hn => ?_, h2⟩
      by_cases e : i = n
      · rw [e]; exact h
      · exact h1 i hi (by omega)
    · rw [if_neg h]
      exact ⟨fun i hi hn => by omega, fun _ => by simp; omega⟩
theorem addL_spec {l : List Int} (hs : sorted l) (r : Int) : sorted (addL l r) ∧ ∀ x, x ∈ addL l r ↔ x ∈ l ∨ x = r := by
  obtain ⟨h1, h2⟩ := atN_spec l r l.length
  have hk := atN_le l r l.length
  unfold addL
  generalize atN l r l.length = k at *
  by_cases hc : l[k]? = some r
  · rw [if_pos hc]
    exact ⟨hs, fun x => ⟨.inl, fun h => h.elim id fun e => by rw [e]; exact List.mem_of_getElem? hc⟩⟩
  · rw [if_neg hc]
    have hsl : ∀ i j (hi : i < l.length) (hj : j < l.length), i < j → l[i] < l[j] := fun i j hi hj hij => List.pairwise_iff_getElem.1 hs i j hi hj hij
    have lo : ∀ x, x ∈ l.take k → x < r := by
      intro x hx
      obtain ⟨i, hi, e⟩ := List.mem_iff_getElem.1 hx
      rw [List.getElem_take] at e
      have hik : i < k := by simp at hi; omega
      have := h2 (by omega)
      rw [gI_eq (by omega)] at this
      by_cases e2 : i = k - 1
      · subst e2; omega
      · have := hsl i (k - 1) (by omega) (by omega) (by omega); omega
    have hi : ∀ x, x ∈ l.drop k → r < x := by
      intro x hx
      obtain ⟨i, hi, e⟩ := List.mem_iff_getElem.1 hx
      rw [List.getElem_drop] at e
      have hil : k + i < l.length := by simp at hi; omega
      have h0 := h1 k (by omega) (by omega)
      rw [gI_eq (by omega)] at h0
      have hne : l[k]'(by omega) ≠ r := fun e => hc (by rw [List.getElem?_eq_getElem (by omega), e])
      by_cases e2 : i = 0
      · subst e2; simp at e; omega
      · have := hsl k (k + i) (by omega) hil (by omega); omega
    refine ⟨?_, fun x => ?_⟩
    · unfold sorted at *
      rw [List.append_assoc, List.pairwise_append]
      refine ⟨hs.sublist (List.take_sublist _ _), ?_, fun a ha b hb => ?_⟩
      · rw [List.singleton_append, List.pairwise_cons]
        exact ⟨hi, hs.sublist (List.drop_sublist _ _)⟩
      · rw [List.singleton_append, List.mem_cons] at hb
        have := lo a ha
        rcases hb with e | hb
        · omega
        · have := hi b hb; omega
    · have : x ∈ l ↔ x ∈ l.take k ∨ x ∈ l.drop k := by
        rw [← List.mem_append, List.take_append_drop]
      rw [this, List.mem_append, List.mem_append, List.mem_singleton]
      constructor
      · rintro ((h | h) | h)
        · exact .inl (.inl h)
        · exact .inr h
        · exact .inl (.inr h)
      · rintro ((h | h) | h)
        · exact .inl (.inl h)
        · exact .inr h
        · exact .inl (.inr h)
theorem foldl_addL : ∀ (ts l : List Int), sorted l → sorted (ts.foldl addL l) ∧ ∀ x, x ∈ ts.foldl addL l ↔ x ∈ l ∨ x ∈ ts
  | [], l, h => ⟨h, fun x => by simp⟩
  | t :: ts, l, h => by
    obtain ⟨h1, h2⟩ := addL_spec h t
    obtain ⟨h3, h4⟩ := foldl_addL ts _ h1
    refine ⟨h3, fun x => ?_⟩
    rw [List.foldl_cons, h4, h2, List.mem_cons]
    constructor
    · rintro ((h | h) | h)
      · exact .inl h
      · exact .inr (.inl h)
      · exact .inr (.inr h)
    · rintro (h | h | h)
      · exact .inl (.inl h)
      · exact .inl (.inr h)
      · exact .inr h
theorem ofL_spec (ts : List Int) : sorted (ofL ts) ∧ ∀ x, x ∈ ofL ts ↔ x ∈ ts := by
  obtain ⟨h1, h2⟩ := foldl_addL ts [] (by unfold sorted; exact .nil)
  exact ⟨h1, fun x => by rw [ofL, h2]; simp⟩
theorem ofL_srt {ts : List Int} (h : ts.Nodup) : srtI ts = ofL ts := by
  obtain ⟨h1, h2⟩ := ofL_spec ts
  refine srtI_eq h1 ?_
  rw [List.perm_ext_iff_of_nodup h (sorted_nodup h1)]
  exact fun x => (h2 x).symm
theorem relR_eq {N : Nat} {p : List Int} (hp : PermL N p) {r : Rl} (g : GRel N r) : relR p r = relImg p r := by
  unfold relR relImg
  rw [hp.len, ofL_srt (img_nodup hp g)]
theorem rel11' (sc : Sc) {N : Nat} {p : List Int} (hp : PermL N p) (hN12 : N ≤ 12) {r : Rl} (g : GRel N r) : SoundP Tryz.prog 43 [eSc sc, lI p, eRel r] (eRel (relImg p r)) := by
  rw [← relR_eq hp g]
  have h1 := g.ar1
  refine rel11 sc p r (fun t ht => ?_) (by omega) g.ar3 (by have := g.len; omega) (fun t ht => ?_)
  · have := GRel.pos g ht
    exact ⟨by rw [hp.len]; exact this, by rw [hp.len]; omega, fun x hx => by have := hp.rng x hx; omega⟩
  · have := g.small (by omega) (by omega) t ht
    omega

end Go.Proofs.YtfniceomhfebhaaGreat.R3

set_option linter.unusedVariables false
set_option linter.unusedSimpArgs false
set_option maxRecDepth 100000
namespace Go.Proofs.YtfniceomhfebhaaGreat.R4
open Go Go.Ev Go.Proofs C1 C2 C3 C4 C5 C6 C7 C8 C9 C10 C11 C12 C13 C14 C15 C16 C17 C18 C19 C20 C21 C22 C23 C24 C25 C26 C27 C28 C29 C30 C31 C32 C33 C34 C35 L1 L2 L3 L4 L5 L6 L7 L8 L9 L10 L11 L12 L13 L14 L15 R1 R2 R3

end Go.Proofs.YtfniceomhfebhaaGreat.R4

set_option linter.unusedVariables false
set_option linter.unusedSimpArgs false
set_option maxRecDepth 100000
namespace Go.Proofs.YtfniceomhfebhaaGreat.N7
open Go Go.Ev Go.Proofs C1 C2 C3 C4 C5 C6 C7 C8 C9 C10 C11 C12 C13 C14 C15 C16 C17 C18 C19 C20 C21 C22 C23 C24 C25 C26 C27 C28 C29 C30 C31 C32 C33 C34 C35 L1 L2 L3 L4 L5 L6 L7 L8 L9 L10 L11 L12 L13 L14 L15 M1 M2 M3 M4 M5 M6 M7 N1 N2 N3 N4 N5 N6 R1 R2 R3 R4

theorem has26 (l : List (List Int)) (p : List Int) (ha : l.length ≤ 9223372036854775807) (hi : ∀ q, q ∈ l → q.length ≤ 9223372036854775807) : SoundP Tryz.prog 30 [lL l, lI p] (aB (decide (p ∈ l))) := by
  refine SoundP.of_sound (Sound.of_awp Tryz.call30 Tryz.func30 rfl (Nat.le_of_ble_eq_true (by kernel_rfl)) (by kernel_rfl) (pl := {}) ?_)
  simp [go_sem]
  refine LoopGo.up l.length (fun k st => st.tm 0 = lL l ∧ st.tm 1 = lI p ∧ st.tm 5 = aI k ∧ st.mu = [] ∧ ∀ (i : Nat) (h : i < l.length), i < k → ¬ l[i] = p) ?_ ?_
  · simp [go_sem]
  rintro k st hk ⟨h0, h1, h5, hm, he⟩
  by_cases hlt : k < l.length
  · simp [go_sem, h0, h1, h5, hm, hlt]
    refine CallStep.pure (same11 l[k] p (hi _ (List.getElem_mem hlt))) (.cons (.hf (hf_lI _)) (.cons (.hf (hf_lI _)) .nil)) ?_
    by_cases hb : l[k] = p
    · simp [go_sem, h0, h1, h5, hm, hlt, hb]
      rw [decide_eq_true (hb ▸ List.getElem_mem hlt)]
      exact .hf _ (HF.sc _)
    · simp [go_sem, h0, h1, h5, hm, hlt, hb]
      refine ⟨wrap_i64 (by omega) (by omega), fun i h hi => ?_⟩
      rcases Nat.lt_succ_iff_lt_or_eq.1 hi with h2 | h2
      · exact he i h h2
      · subst h2; exact hb
  · have hge : k = l.length := by omega
    subst hge
    simp [go_sem, h0, h1, h5, hm]
    rw [decide_eq_false (fun h => by
      obtain ⟨i, hi, hp⟩ := List.getElem_of_mem h
      exact he i hi hi hp)]
    exact .hf _ (HF.sc _)


/-! ### armatureref11: Compose, Inverse, Model -/
theorem compose11 (p q : List Int) (hl : q.length ≤ 1000000000) (h : ∀ x, x ∈ q → 0 ≤ x ∧ x < p.length) : SoundP Tryz.prog 28 [lI p, lI q] (lI (composeL p q)) := by
  refine SoundP.of_sound (Sound.of_awp Tryz.call28 Tryz.func28 rfl (Nat.le_of_ble_eq_true (by kernel_rfl)) (by kernel_rfl) (pl := {}) ?_)
  simp [go_sem]
  refine LoopGo.keep (fun m st => ∃ k av, m = q.length - k ∧ k ≤ q.length ∧ st.tm 0 = lI p ∧ st.tm 1 = lI q ∧ st.tm 5 = av ∧ st.tm 6 = aI (k : Nat) ∧ OwnF 0 st.mu 1 av ((composeL p (q.take k)).map rI)) q.length ?_ ?_
  · exact ⟨0, .lst true [], by omega, by omega, by simp [go_sem], by simp [go_sem], by simp [go_sem], by simp [go_sem], OwnF.nil (by simp)⟩
  rintro m st ⟨k, av, rfl, hk, e0, e1, e5, e6, ho⟩
  by_cases hlt : k < q.length
  · have hx := h _ (List.getElem_mem hlt)
    have hxp : (q[k]).toNat < p.length := by omega
    have hgi : p[(q[k]).toNat]? = some (gI p (q[k]).toNat) := by simp [gI, hxp]
    have hgi2 : p[(q[k]).toNat] = gI p (q[k]).toNat := by simp [gI, hxp]
    have hwk : IntKind.i64.wrap ((k : Int) + 1) = ((k + 1 : Nat) : Int) := by rw [wrap_i64 (by omega) (by omega)]; omega
    have htk : composeL p (q.take (k + 1)) = composeL p (q.take k) ++ [gI p (q[k]).toNat] := by
      rw [show q.take (k + 1) = q.take k ++ [q[k]] by rw [List.take_add_one, List.getElem?_eq_getElem hlt]; rfl]
      unfold composeL
      rw [List.map_append]; rfl
    have hlen : (composeL p (q.take k)).length ≤ 1000000000 := by simp [composeL]; omega
    simp [go_sem, e0, e1, e5, e6, hlt, hx.1, hx.2, hxp, hgi2]
    refine AppendStep.ints (lo := 0) (e := 3) (bt := 8) (z := 0) (xs := composeL p (q.take k)) (ys := [gI p (q[k]).toNat]) (by simp [go_sem]) (by simp [go_sem]) (by simp [go_sem]) (by omega) ho (by simp [rowsOf]) (by simp; omega) ?_
    intro av' mu' ho' _
    simp [go_sem, e0, e1, e5, e6, hlt]
    refine Keep.loop (q.length - (k + 1)) (by omega) ⟨k + 1, av', rfl, by omega, by simp [go_sem, e0], by simp [go_sem, e1], by simp [go_sem], by simp [go_sem, hwk], ?_⟩
    rw [htk]; exact ho'
  · have hge : k = q.length := by omega
    subst hge
    rw [List.take_length] at ho
    simp [go_sem, e0, e1, e5, e6]
    exact ho.rdI

theorem AppendStep.fresh {P : Program} {mu : Mu} {t t' e sz bt : Nat} {x : AV} {ys : List (List AV)} {zv : AV} {K : AV → Mu → Prop} {full : Bool} (hs : sliceOf P t = some (e, sz, bt)) (hs' : (sliceOf P t').isSome = true) (hz : zeroOf P e = some zv)
    (hz1 : zv.cells.length = sz) (hz2 : zv.cells.all AV.one = true) (hz0 : sz ≠ 0) (hb : bt ≤ 16384) (hx : rowsOf mu x = some ys) (wy : rowsWf sz ys) (hl : ys.length ≤ 4294967296) (hne : ys ≠ [])
    (k : K (.sl mu.length sz 0 ys.length) (mu ++ [.arr ys.flatten])) : AppendStep P mu #[t, t'] (.lst true []) x K := by
  refine .inl ?_
  refine ⟨t, t', e, sz, bt, ys, rfl, hs, hs', ⟨zv, hz, hz1, hz2⟩, hz0, hb, hx, wy, ?_⟩
  refine .inl ⟨[], rfl, fun r hr => by simp at hr, by simpa using hl, fun h => absurd h hne, fun h => ?_⟩
  simpa using k
def invK (p : List Int) (k : Nat) : List Int := foldN (fun i l => l.set (gI p i).toNat (i : Int)) p k
theorem invK_len (p : List Int) : ∀ k, (invK p k).length = p.length
  | 0 => rfl
  | k + 1 => by show (List.set _ _ _).length = _; rw [List.length_set]; exact invK_len p k
theorem invK_get {N : Nat} {p : List Int} (hp : PermL N p) : ∀ k, k ≤ N → ∀ x, x < k → gI (invK p k) (ap p x) = x
  | 0, _, x, hx => by omega
  | k + 1, hk, x, hx => by
    have hl := invK_len p k
    have hk' : k < N := by omega
    have hap := hp.ap_lt hk'
    show gI (List.set (invK p k) (ap p k) (k : Int)) (ap p x) = x
    by_cases h : x = k
    · subst h
      unfold gI; rw [List.getElem?_set_self (by rw [hl, hp.len]; exact hap)]; rfl
    · have hne : ap p k ≠ ap p x := fun e => h (hp.ap_inj hk' (by omega) e).symm
      unfold gI; rw [List.getElem?_set_ne hne]
      exact invK_get hp k (by omega) x (by omega)
theorem invK_inv {N : Nat} {p : List Int} (hp : PermL N p) : invK p p.length = invL p := by
  have hI := inv_ok hp
  refine list_ext_gI (by rw [invK_len, hI.1.len, hp.len]) fun y hy => ?_
  rw [invK_len, hp.len] at hy
  obtain ⟨x, hx, rfl⟩ := hp.ap_surj hy
  rw [hp.len, invK_get hp N (Nat.le_refl _) x hx, hI.1.ap_eq hy, hI.2 x hx]
theorem inverse11 {N : Nat} (p : List Int) (hp : PermL N p) (hN : N ≤ 1000000) : SoundP Tryz.prog 29 [lI p] (lI (invL p)) := by
  refine SoundP.of_sound (Sound.of_awp Tryz.call29 Tryz.func29 rfl (Nat.le_of_ble_eq_true (by kernel_rfl)) (by kernel_rfl) (pl := {}) ?_)
  have hlen := hp.len
  simp [go_sem]
  by_cases h0 : p = []
  · subst h0
    refine AppendStep.ints (lo := 0) (e := 3) (bt := 8) (z := 0) (xs := []) (ys := []) (by simp [go_sem]) (by simp [go_sem]) (by simp [go_sem]) (by omega) (OwnF.nil (by simp)) (by simp [rowsOf]) (by simp) ?_
    intro av' mu' ho' _
    simp [go_sem]
    refine LoopGo.up 0 (fun k st => st.tm 0 = lI [] ∧ OwnF 0 st.mu 1 (st.tm 3) ([].map rI) ∧ st.tm 4 = aI k) ?_ ?_
    · simp [go_sem]; simpa using ho'
    rintro k st hk ⟨e0, ho, e4⟩
    have hk0 : k = 0 := by omega
    subst hk0
    simp [go_sem, e0, e4]
    exact ho.rdI
  refine AppendStep.fresh (full := true) (e := 3) (sz := 1) (bt := 8) (zv := aI 0) (ys := p.map rI) (by simp [go_sem]) (by simp [go_sem]) (by simp [go_sem]) rfl rfl (by omega) (by omega) (by simp [rowsOf]) (rows_rI p) (by simp; omega) (by simpa using h0) ?_
  rw [flat_rI]
  simp [go_sem]
  refine LoopGo.up p.length (fun k st => st.tm 0 = lI p ∧ st.tm 3 = .sl 0 1 0 p.length ∧ st.tm 4 = aI k ∧ st.mu = [.arr ((invK p k).map aI)]) ?_ ?_
  · simp [go_sem, invK, foldN]
  rintro k st hk ⟨e0, e3, e4, hm⟩
  have hil := invK_len p k
  by_cases hlt : k < p.length
  · have hx := hp.rng _ (List.getElem_mem hlt)
    have hxp : (p[k]).toNat < p.length := by omega
    have hxi : p[k] < (p.length : Int) := by omega
    have hs : invK p (k + 1) = (invK p k).set (p[k]).toNat (k : Int) := by
      show List.set (invK p k) (gI p k).toNat (k : Int) = _
      rw [gI_eq hlt]
    simp [go_sem, e0, e3, e4, hm, hlt, hx.1, hxp, hxi, hil, show p[k].toNat + 1 ≤ p.length by omega]
    rw [hs, List.map_set]
    exact ⟨wrap_i64 (by omega) (by omega), rfl⟩
  · have hge : k = p.length := by omega
    subst hge
    simp [go_sem, e0, e3, e4, hm]
    rw [invK_inv hp]
    exact (OwnF.ofCells (lo := 0) (xs := invL p) (Nat.zero_le _) rfl (by rw [(inv_ok hp).1.len, hp.len])).rdI
end Go.Proofs.YtfniceomhfebhaaGreat.N7

set_option linter.unusedVariables false
set_option linter.unusedSimpArgs false
set_option maxRecDepth 100000
namespace Go.Proofs.YtfniceomhfebhaaGreat.L20
open Go Go.Ev Go.Proofs C1 C2 C3 C4 C5 C6 C7 C8 C9 C10 C11 C12 C13 C14 C15 C16 C17 C18 C19 C20 C21 C22 C23 C24 C25 C26 C27 C28 C29 C30 C31 C32 C33 C34 C35 M1 M2 M3 M4 M5 M6 M7

/-! ### the order of models, as a lexicographic order -/
def lexS : List Int → List Int → Int
  | x :: xs, y :: ys => if x < y then -1 else if y < x then 1 else lexS xs ys
  | _, _ => 0
def kvS (free : List (Int × Int)) (s : List Rl) : List Int := free.map fun f => bitI (relG s f.1) f.2
def kv (free : List (Int × Int)) (m : Md) : List Int := m.loop :: m.states.flatMap (kvS free)
theorem stepI_keep (x y : List Rl) (o : Int) (h : o ≠ 0) : ∀ free : List (Int × Int), free.foldl (stepI x y) o = o
  | [] => rfl
  | f :: l => by rw [List.foldl_cons, stepI_eq, if_neg h, stepI_keep x y o h l]
theorem ordFrom_keep (free : List (Int × Int)) (o : Int) (h : o ≠ 0) : ∀ us cs, ordFrom free us cs o = o
  | [], [] => rfl
  | [], _ :: _ => rfl
  | _ :: _, [] => rfl
  | x :: xs, y :: cs => by rw [ordFrom, if_neg h]
theorem row_lex (x y : List Rl) : ∀ (free : List (Int × Int)) (r t : List Int), lexS (kvS free x ++ r) (kvS free y ++ t) = if free.foldl (stepI x y) 0 = 0 then lexS r t else free.foldl (stepI x y) 0
  | [], r, t => by simp [kvS]
  | f :: l, r, t => by
    have ih := row_lex x y l r t
    have h1 := bitI_01 (relG x f.1) f.2
    have h2 := bitI_01 (relG y f.1) f.2
    have hF : (f :: l).foldl (stepI x y) 0 = l.foldl (stepI x y) (bitI (relG x f.1) f.2 - bitI (relG y f.1) f.2) := by rw [List.foldl_cons, stepI_eq, if_pos rfl]
    rw [hF]
    simp only [kvS, List.map_cons, List.cons_append, lexS] at ih ⊢
    generalize bitI (relG x f.1) f.2 = a at *
    generalize bitI (relG y f.1) f.2 = b at *
    by_cases hab : a = b
    · subst hab
      rw [if_neg (by omega), if_neg (by omega), Int.sub_self]
      exact ih
    · rw [stepI_keep x y (a - b) (by omega), if_neg (by omega : ¬ a - b = 0)]
      split
      · omega
      · rw [if_pos (by omega)]; omega
theorem ord_lex (free : List (Int × Int)) : ∀ (us cs : List (List Rl)), us.length = cs.length → ordFrom free us cs 0 = lexS (us.flatMap (kvS free)) (cs.flatMap (kvS free))
  | [], [], _ => rfl
  | [], _ :: _, h => by simp at h
  | _ :: _, [], h => by simp at h
  | x :: us, y :: cs, h => by
    rw [ordFrom, if_pos rfl, List.flatMap_cons, List.flatMap_cons, row_lex]
    split
    · rename_i h0
      rw [h0]
      exact ord_lex free us cs (by simpa using h)
    · rename_i h0
      exact ordFrom_keep free _ h0 _ _
theorem ordI_lex (free : List (Int × Int)) (a c : Md) (h : a.states.length = c.states.length) : ordI free a c = lexS (kv free a) (kv free c) := by
  simp only [ordI, kv, lexS, cmpI]
  split
  · exact ordFrom_keep free _ (by omega) _ _
  · split
    · exact ordFrom_keep free _ (by omega) _ _
    · exact ord_lex free _ _ h
theorem lexS_swap : ∀ xs ys : List Int, lexS ys xs = - lexS xs ys
  | [], [] => rfl
  | [], _ :: _ => rfl
  | _ :: _, [] => rfl
  | x :: xs, y :: ys => by
    have ih := lexS_swap xs ys
    simp only [lexS]
    split
    · rw [if_neg (by omega)]
    · split
      · rfl
      · exact ih
theorem lexS_val : ∀ xs ys : List Int, lexS xs ys = 0 ∨ lexS xs ys = 1 ∨ lexS xs ys = -1
  | [], [] => .inl rfl
  | [], _ :: _ => .inl rfl
  | _ :: _, [] => .inl rfl
  | x :: xs, y :: ys => by
    simp only [lexS]
    split
    · exact .inr (.inr rfl)
    · split
      · exact .inr (.inl rfl)
      · exact lexS_val xs ys
theorem lexS_zero : ∀ xs ys : List Int, xs.length = ys.length → (lexS xs ys = 0 ↔ xs = ys)
  | [], [], _ => by simp [lexS]
  | [], _ :: _, h => by simp at h
  | _ :: _, [], h => by simp at h
  | x :: xs, y :: ys, h => by
    have ih := lexS_zero xs ys (by simpa using h)
    simp only [lexS, List.cons.injEq]
    split
    · constructor
      · intro h; omega
      · rintro ⟨rfl, _⟩; omega
    · split
      · constructor
        · intro h; omega
        · rintro ⟨rfl, _⟩; omega
      · rw [ih]
        constructor
        · intro h; exact ⟨by omega, h⟩
        · intro h; exact h.2
theorem lexS_le_trans : ∀ xs ys zs : List Int, xs.length = ys.length → ys.length = zs.length → lexS xs ys ≤ 0 → lexS ys zs ≤ 0 → lexS xs zs ≤ 0
  | [], [], [], _, _, _, _ => by simp [lexS]
  | [], _ :: _, _, h, _, _, _ => by simp at h
  | _ :: _, [], _, h, _, _, _ => by simp at h
  | _, [], _ :: _, _, h, _, _ => by simp at h
  | _, _ :: _, [], _, h, _, _ => by simp at h
  | x :: xs, y :: ys, z :: zs, h1, h2, h3, h4 => by
    simp only [lexS] at h3 h4 ⊢
    split
    · omega
    · split
      · exfalso
        split at h3
        · split at h4
          · omega
          · split at h4 <;> omega
        · split at h3
          · omega
          · split at h4
            · omega
            · split at h4 <;> omega
      · split at h3
        · split at h4
          · omega
          · split at h4 <;> omega
        · split at h3
          · omega
          · split at h4
            · omega
            · split at h4
              · omega
              · exact lexS_le_trans xs ys zs (by simpa using h1) (by simpa using h2) h3 h4
theorem lexS_lt_trans (xs ys zs : List Int) (h1 : xs.length = ys.length) (h2 : ys.length = zs.length) (h3 : lexS xs ys < 0) (h4 : lexS ys zs < 0) : lexS xs zs < 0 := by
  have h := lexS_le_trans xs ys zs h1 h2 (by omega) (by omega)
  rcases lexS_val xs zs with h0 | h0 | h0
  · rw [lexS_zero _ _ (by omega)] at h0
    subst h0
    have := lexS_swap xs ys
    omega
  · omega
  · omega
end Go.Proofs.YtfniceomhfebhaaGreat.L20

set_option linter.unusedVariables false
set_option linter.unusedSimpArgs false
set_option maxRecDepth 100000
namespace Go.Proofs.YtfniceomhfebhaaGreat.L21
open Go Go.Ev Go.Proofs C1 C2 C3 C4 C5 C6 C7 C8 C9 C10 C11 C12 C13 C14 C15 C16 C17 C18 C19 C20 C21 C22 C23 C24 C25 C26 C27 C28 C29 C30 C31 C32 C33 C34 C35 L1 L2 L3 L4 L5 L6 L7 L8 L9 L10 L11 L12 L13 L14 L15 L20 M1 M2 M3 M4 M5 M6 M7

/-! ### images of relations -/
theorem mem_img {N : Nat} {p : List Int} (hp : PermL N p) {r : Rl} {t' : Int} : t' ∈ (relImg p r).ts ↔ ∃ t, t ∈ r.ts ∧ act p N r.ar.toNat t = t' := by
  unfold relImg
  simp only
  rw [(srtI_perm _).mem_iff, List.mem_map, hp.len]
theorem img_srt {N : Nat} {p : List Int} (hp : PermL N p) {r : Rl} (g : GRel N r) : sorted (relImg p r).ts := by
  unfold relImg
  simp only
  rw [hp.len]
  exact srtI_strict (img_nodup hp g)
theorem img_len (p : List Int) (r : Rl) : (relImg p r).ts.length = r.ts.length := by
  unfold relImg
  simp only
  rw [(srtI_perm _).length_eq, List.length_map]
theorem img_grel {N : Nat} {p : List Int} (hp : PermL N p) {r : Rl} (g : GRel N r) : GRel N (relImg p r) :=
  ⟨g.ar1, g.ar3, by rw [img_len]; exact g.len, fun t' ht' => by
    obtain ⟨t, ht, rfl⟩ := (mem_img hp).1 ht'
    have hN := GRel.pos g ht
    exact (act_dig hp hN r.ar.toNat t).2, img_srt hp g⟩
theorem sorted_eq {l m : List Int} (h1 : sorted l) (h2 : sorted m) (h : ∀ x, x ∈ l ↔ x ∈ m) : l = m :=
  List.Perm.eq_of_pairwise (le := fun a b : Int => a < b) (fun a b _ _ h1 h2 => by omega) h1 h2 ((List.perm_ext_iff_of_nodup (sorted_nodup h1) (sorted_nodup h2)).2 h)
theorem rl_eq {N : Nat} {r s : Rl} (g : GRel N r) (k : GRel N s) (ha : r.ar = s.ar) (h : ∀ x, x ∈ r.ts ↔ x ∈ s.ts) : r = s := by
  obtain ⟨a, ts⟩ := r
  obtain ⟨b, us⟩ := s
  simp only at ha h
  subst ha
  have e := sorted_eq g.srt k.srt h
  simp only at e
  subst e; rfl
theorem img_comp {N : Nat} {p q : List Int} (hp : PermL N p) (hq : PermL N q) {r : Rl} (g : GRel N r) : relImg (composeL p q) r = relImg p (relImg q r) := by
  refine rl_eq (img_grel (comp_perm hp hq) g) (img_grel hp (img_grel hq g)) rfl fun x => ?_
  rw [mem_img (comp_perm hp hq), mem_img hp]
  constructor
  · rintro ⟨t, ht, rfl⟩
    exact ⟨_, (mem_img hq).2 ⟨t, ht, rfl⟩, (act_comp hp hq (GRel.pos g ht) _ t).symm⟩
  · rintro ⟨u, hu, rfl⟩
    obtain ⟨t, ht, rfl⟩ := (mem_img hq).1 hu
    exact ⟨t, ht, act_comp hp hq (GRel.pos g ht) _ t⟩
theorem img_id {N : Nat} {r : Rl} (g : GRel N r) : relImg (idL N) r = r := by
  refine rl_eq (img_grel (idL_perm N) g) g rfl fun x => ?_
  rw [mem_img (idL_perm N)]
  constructor
  · rintro ⟨t, ht, rfl⟩
    rw [act_id (GRel.pos g ht) _ (g.val t ht).1 (g.val t ht).2]; exact ht
  · intro hx
    exact ⟨x, hx, act_id (GRel.pos g hx) _ (g.val x hx).1 (g.val x hx).2⟩
theorem img_in {p : List Int} {a b : Rl} (har : a.ar = b.ar) (h : ∀ t, t ∈ a.ts → t ∈ b.ts) : ∀ t, t ∈ (relImg p a).ts → t ∈ (relImg p b).ts := by
  intro t ht
  unfold relImg at ht ⊢
  simp only at ht ⊢
  rw [(srtI_perm _).mem_iff, List.mem_map] at ht ⊢
  obtain ⟨u, hu, rfl⟩ := ht
  exact ⟨u, h u hu, by rw [har]⟩
theorem img_within {sc : Sc} (g : GSc sc) {N : Nat} (hsum : sumI sc.atoms = N) {p : List Int} (hp : PermL N p) (hk : KeepS (sortsL sc) N p) {sorts : List Int} {r : Rl} (gr : GRel N r) (hl : (sorts.length : Int) = r.ar) (h : withinOk sc sorts r = true) : withinOk sc sorts (relImg p r) = true := by
  unfold withinOk at h ⊢
  rw [List.all_eq_true] at h ⊢
  intro t' ht'
  obtain ⟨t, ht, rfl⟩ := (mem_img hp).1 ht'
  have hN := GRel.pos gr ht
  have := h t ht
  have e1 : max 1 (sumI sc.atoms) = (N : Int) := by omega
  rw [e1] at this ⊢
  have hlen : sorts.reverse.length = r.ar.toNat := by rw [List.length_reverse]; omega
  rw [← hlen]
  exact cols_act g hsum hp hN hk this

/-! ### images of models -/
def GMd (N : Nat) (m : Md) : Prop := ∀ s, s ∈ m.states → ∀ r, r ∈ s → GRel N r
theorem GMd.img {N : Nat} {p : List Int} (hp : PermL N p) {m : Md} (g : GMd N m) : GMd N (mdImg p m) := by
  intro s hs r hr
  simp only [mdImg, List.mem_map] at hs
  obtain ⟨s0, hs0, rfl⟩ := hs
  obtain ⟨r0, hr0, rfl⟩ := List.mem_map.1 hr
  exact img_grel hp (g s0 hs0 r0 hr0)
theorem mdImg_comp {N : Nat} {p q : List Int} (hp : PermL N p) (hq : PermL N q) {m : Md} (g : GMd N m) : mdImg (composeL p q) m = mdImg p (mdImg q m) := by
  simp only [mdImg, List.map_map]
  congr 1
  refine List.map_congr_left fun s hs => ?_
  simp only [Function.comp, List.map_map]
  exact List.map_congr_left fun r hr => img_comp hp hq (g s hs r hr)
theorem mdImg_id {N : Nat} {m : Md} (g : GMd N m) : mdImg (idL N) m = m := by
  obtain ⟨sc, st, lp⟩ := m
  simp only [mdImg]
  congr 1
  conv => rhs; rw [← List.map_id st]
  refine List.map_congr_left fun s hs => ?_
  show _ = s
  conv => rhs; rw [← List.map_id s]
  exact List.map_congr_left fun r hr => img_id (g s hs r hr)
theorem mdImg_states (p : List Int) (m : Md) : (mdImg p m).states.length = m.states.length := by simp [mdImg]
theorem mdImg_inv_l {N : Nat} {p : List Int} (hp : PermL N p) {m : Md} (g : GMd N m) : mdImg (invL p) (mdImg p m) = m := by
  rw [← mdImg_comp (inv_ok hp).1 hp g, comp_inv_l hp, mdImg_id g]
end Go.Proofs.YtfniceomhfebhaaGreat.L21

set_option linter.unusedVariables false
set_option linter.unusedSimpArgs false
set_option maxRecDepth 100000
namespace Go.Proofs.YtfniceomhfebhaaGreat.N8
open Go Go.Ev Go.Proofs C1 C2 C3 C4 C5 C6 C7 C8 C9 C10 C11 C12 C13 C14 C15 C16 C17 C18 C19 C20 C21 C22 C23 C24 C25 C26 C27 C28 C29 C30 C31 C32 C33 C34 C35 L1 L2 L3 L4 L5 L6 L7 L8 L9 L10 L11 L12 L13 L14 L15 L20 L21 M1 M2 M3 M4 M5 M6 M7 N1 N2 N3 N4 N5 N6 N7 R1 R2 R3 R4

theorem AppendStep.giveRl {P : Program} {mu : Mu} {R t t' e bt : Nat} {s av : AV} {L : List (List Rl)} {q : List Rl} {K : AV → Mu → Prop} (hs : sliceOf P t = some (e, 1, bt)) (hs' : (sliceOf P t').isSome = true) (hz : zeroOf P e = some (.lst true []))
    (hb : bt ≤ 16384) (ho : OwnR mu s (L.map lRel)) (hlt : ∀ b, blkOf s = some b → b < R) (hR : R ≤ mu.length) (hp : OwnF R mu 2 av (q.map cRel)) (hl : L.length + 1 ≤ 4294967296)
    (k : ∀ mu' s', OwnR mu' s' ((L ++ [q]).map lRel) → (∀ i, i < R → blkOf s ≠ some i → mu'[i]? = mu[i]?) → (∀ b, blkOf s' = some b → R ≤ b) → mu.length < mu'.length → K s' mu') : AppendStep P mu #[t, t'] s (.lst true [[av]]) K := by
  refine AppendStep.giveRow (e := e) (bt := bt) (zv := .lst true []) (fun i => decide (R ≤ i)) hs hs' hz rfl rfl hb ho (fun b h => by have := hlt b h; simp; omega) (OwnF.rdCutG hp (fun r hr => (rows_cRel _ r hr).1) (fun r hr c hc => by
    obtain ⟨n, _, rfl⟩ := List.mem_map.1 hr
    exact hf_cRel n c hc)) rfl (by simpa using hl) ?_
  intro mu' h1 h2
  refine k _ _ ?_ (fun i hi hne => h2 i (by omega) (by simp; omega) hne) (fun b hb => by cases hb; omega) (List.getElem?_eq_some_iff.1 h1).1
  rw [List.map_append]
  exact .inr ⟨_, rfl, h1⟩
theorem OwnR.cells {mu : Mu} {s : AV} {xs : List AV} (h : OwnR mu s xs) : s.cells = [s] := by
  rcases h with ⟨rfl, _⟩ | ⟨b, rfl, _⟩ <;> rfl
theorem modelR11 {N : Nat} {p : List Int} (hp : PermL N p) (hN12 : N ≤ 12) (m : Md) (g : GMd N m) (ha : smMd m) : SoundP Tryz.prog 23 [lI p, eMd m] (eMd (mdImg p m)) := by
  have hns := ha.ns
  refine SoundP.of_sound (Sound.of_awp Tryz.call23 Tryz.func23 rfl (Nat.le_of_ble_eq_true (by kernel_rfl)) (by kernel_rfl) (pl := {}) ?_)
  simp [go_sem]
  refine LoopGo.keep (fun q st => ∃ i s rest, q = m.states.length - i ∧ i ≤ m.states.length ∧ st.tm 0 = lI p ∧ st.tm 3 = ipMd m ∧ st.tm 4 = .ptr 0 0 ∧ st.tm 5 = .ptr 1 0 ∧ st.tm 6 = aI (i : Nat) ∧
    st.mu = [.arr [.lst true [], aI 0, .lst true [], aI 0], .arr [lI m.sc.atoms, aI m.sc.steps, s, aI m.loop]] ++ rest ∧ OwnR st.mu s (((m.states.take i).map fun s => s.map (relImg p)).map lRel) ∧ ∀ b, blkOf s = some b → 2 ≤ b) m.states.length ?_ ?_
  · exact ⟨0, .lst true [], [], by omega, by omega, by simp [go_sem], by simp [go_sem], by simp [go_sem], by simp [go_sem], by simp [go_sem], by simp [go_sem], .inl ⟨rfl, rfl⟩, fun b h => by cases h⟩
  rintro q st ⟨i, s, rest, rfl, hi, e0, e3, e4, e5, e6, hm, ho, hb2⟩
  by_cases hlt : i < m.states.length
  · have hkl := ha.nf _ (List.getElem_mem hlt)
    have hg := g _ (List.getElem_mem hlt)
    have hlts := fun b h => OwnR.lt ho (b := b) h
    have hR2 : 2 ≤ st.mu.length := by rw [hm]; simp
    simp [go_sem, e0, e3, e4, e5, e6, hlt]
    refine LoopGo.keep (fun q2 st2 => ∃ j av rest, q2 = m.states[i].length - j ∧ j ≤ m.states[i].length ∧ st2.tm 0 = lI p ∧ st2.tm 3 = ipMd m ∧ st2.tm 4 = .ptr 0 0 ∧ st2.tm 5 = .ptr 1 0 ∧ st2.tm 6 = aI (i : Nat) ∧ st2.tm 7 = av ∧ st2.tm 8 = aI (j : Nat) ∧
      st2.mu = [.arr [.lst true [], aI 0, .lst true [], aI 0], .arr [lI m.sc.atoms, aI m.sc.steps, s, aI m.loop]] ++ rest ∧ OwnR st2.mu s (((m.states.take i).map fun s => s.map (relImg p)).map lRel) ∧ OwnF st.mu.length st2.mu 2 av (((m.states[i].take j).map (relImg p)).map cRel)) m.states[i].length ?_ ?_
    · exact ⟨0, .lst true [], rest, by omega, by omega, by simp [go_sem, e0], by simp [go_sem, e3], by simp [go_sem, e4], by simp [go_sem, e5], by simp [go_sem, e6], by simp [go_sem], by simp [go_sem], by simp [go_sem, hm], by simpa [go_sem] using ho, by simpa [go_sem] using OwnF.nil (lo := st.mu.length) (mu := st.mu) (sz := 2) (Nat.le_refl _)⟩
    clear e0 e3 e4 e5 e6
    generalize hRe : st.mu.length = R at *
    clear hm ho hRe
    clear st rest
    rintro q2 st ⟨j, av, rest, rfl, hj, e0, e3, e4, e5, e6, e7, e8, hm, ho, hf⟩
    by_cases hjl : j < m.states[i].length
    · have hgr := hg _ (List.getElem_mem hjl)
      have hwj : IntKind.i64.wrap ((j : Int) + 1) = ((j + 1 : Nat) : Int) := by rw [wrap_i64 (by omega) (by omega)]; omega
      have htk : m.states[i].take (j + 1) = m.states[i].take j ++ [m.states[i][j]] := by rw [List.take_add_one, List.getElem?_eq_getElem hjl]; rfl
      simp [go_sem, e0, e3, e4, e5, e6, e7, e8, hlt, hjl]
      refine DrawGo.intro (by kernel_rfl) ?_
      simp [go_sem, e0, e3, e4, e5, e6, e7, e8, hlt, hjl]
      refine CallStep.pure (rel11' m.sc hp hN12 hgr) (.cons (.hf (hf_eSc _)) (.cons (.hf (hf_lI _)) (.cons (.hf (hf_eRel _)) .nil))) ?_
      simp [go_sem, e0, e3, e4, e5, e6, e7, e8, hlt, hjl]
      refine AppendStep.ownF (lo := R) (e := 64) (sz := 2) (bt := 32) (zv := .agg [aI 0, .lst true []]) (xs := ((m.states[i].take j).map (relImg p)).map cRel) (ys := [cRel (relImg p m.states[i][j])]) (by simp [go_sem]) (by simp [go_sem]) (by simp [go_sem]) rfl rfl (by omega) (by omega) hf (by simp [rowsOf]) (rows_cRel _) (rows_cRel [_]) (by simp; omega) ?_
      intro av' mu' hf' hs'
      have hl2 : 2 ≤ mu'.length := by have := hf'.2.2; omega
      have hme : mu' = [.arr [.lst true [], aI 0, .lst true [], aI 0], .arr [lI m.sc.atoms, aI m.sc.steps, s, aI m.loop]] ++ mu'.drop 2 := low_eq (rest := rest) rfl hl2 (fun x hx => by rw [hs' x (by omega), hm])
      have ho' : OwnR mu' s (((m.states.take i).map fun s => s.map (relImg p)).map lRel) := ho.same fun b h => hs' b (hlts b h)
      simp [go_sem, e0, e3, e4, e5, e6, e7, e8, hlt, hjl]
      refine Keep.loop (m.states[i].length - (j + 1)) (by omega) ⟨j + 1, av', mu'.drop 2, rfl, by omega, by simp [go_sem, e0], by simp [go_sem, e3], by simp [go_sem, e4], by simp [go_sem, e5], by simp [go_sem, e6], by simp [go_sem], by simp [go_sem, hwj], by simpa [go_sem] using hme, by simpa [go_sem] using ho', ?_⟩
      rw [htk, List.map_append, List.map_append]
      simpa [go_sem] using hf'
    · have hje : j = m.states[i].length := by omega
      subst hje
      have hwi : IntKind.i64.wrap ((i : Int) + 1) = ((i + 1 : Nat) : Int) := by rw [wrap_i64 (by omega) (by omega)]; omega
      have htk : m.states.take (i + 1) = m.states.take i ++ [m.states[i]] := by rw [List.take_add_one, List.getElem?_eq_getElem hlt]; rfl
      rw [List.take_length] at hf
      have s1 := OwnR.one ho
      have c1 := OwnF.cells hf
      have c2 := OwnF.one hf
      simp [go_sem, e0, e3, e4, e5, e6, e7, e8, hlt, hm, c1, c2]
      refine AppendStep.giveRl (R := R) (e := 69) (bt := 24) (L := (m.states.take i).map fun s => s.map (relImg p)) (q := m.states[i].map (relImg p)) (by simp [go_sem]) (by simp [go_sem]) (by simp [go_sem]) (by omega) (by rw [hm] at ho; exact ho) hlts (by have := hf.2.2; rw [hm] at this; exact this) (by rw [hm] at hf; exact hf) (by simp; omega) ?_
      intro mu' s' ho' hs' hsb hl'
      have hl2 : 2 ≤ mu'.length := by have := hf.2.2; rw [hm] at this; simp at this hl'; omega
      have hme : mu' = [.arr [.lst true [], aI 0, .lst true [], aI 0], .arr [lI m.sc.atoms, aI m.sc.steps, s, aI m.loop]] ++ mu'.drop 2 := low_eq (rest := rest) rfl hl2 (fun x hx => hs' x (by omega) (fun h => by have := hb2 x h; omega))
      generalize mu'.drop 2 = rest' at hme
      subst hme
      have s2 := OwnR.one ho'
      have hb2' : ∀ b, blkOf s' = some b → 2 ≤ b := fun b h => by have := hsb b h; omega
      have s3 := OwnR.cells ho'
      simp [go_sem, e0, e3, e4, e5, e6, e7, e8, hlt, s2, s3]
      refine Keep.loop (m.states.length - (i + 1)) (by omega) ⟨i + 1, s', rest', rfl, by omega, by simp [go_sem, e0], by simp [go_sem, e3], by simp [go_sem, e4], by simp [go_sem, e5], by simp [go_sem, hwi], by simp [go_sem], ?_, hb2'⟩
      rw [htk, List.map_append]
      refine ho'.same fun b h => ?_
      obtain ⟨b', rfl⟩ : ∃ b', b = b' + 2 := ⟨b - 2, by have := hb2' b h; omega⟩
      simp [go_sem]
  · have hie : i = m.states.length := by omega
    subst hie
    rw [List.take_length] at ho
    have s1 := OwnR.one ho
    have s2 := OwnR.cells ho
    simp [go_sem, e0, e3, e4, e5, e6, hlt, hm, s1, s2]
    refine Rd.agg _ _ rfl (fun k x y hx hy => ?_)
    have hrd : Rd (.arr [lI m.sc.atoms, aI m.sc.steps, s, aI m.loop] :: .arr [lI m.sc.atoms, aI m.sc.steps, s, aI m.loop] :: rest) s (lSt (m.states.map fun s => s.map (relImg p))) := by
      have h1 := ho.same (mu' := .arr [lI m.sc.atoms, aI m.sc.steps, s, aI m.loop] :: .arr [lI m.sc.atoms, aI m.sc.steps, s, aI m.loop] :: rest) fun b h => by
        obtain ⟨b', rfl⟩ : ∃ b', b = b' + 2 := ⟨b - 2, by have := hb2 b h; omega⟩
        rw [hm]; rfl
      have h2 := OwnR.rd h1 (fun x hx => by
        obtain ⟨n, _, rfl⟩ := List.mem_map.1 hx
        exact hf_lRel _)
      rw [List.map_map] at h2
      exact h2
    match k, hx, hy with
    | 0, hx, hy => simp at hx hy; subst hx; subst hy; exact .hf _ (hf_lI _)
    | 1, hx, hy => simp at hx hy; subst hx; subst hy; exact .hf _ (HF.sc _)
    | 2, hx, hy => simp only [List.getElem?_cons_succ, List.getElem?_cons_zero, Option.some.injEq] at hx hy; subst hx; subst hy; exact hrd
    | 3, hx, hy => simp at hx hy; subst hx; subst hy; exact .hf _ (HF.sc _)
    | k + 4, hx, hy => simp at hx
end Go.Proofs.YtfniceomhfebhaaGreat.N8

set_option linter.unusedVariables false
set_option linter.unusedSimpArgs false
set_option maxRecDepth 100000
namespace Go.Proofs.YtfniceomhfebhaaGreat.R5
open Go Go.Ev Go.Proofs C1 C2 C3 C4 C5 C6 C7 C8 C9 C10 C11 C12 C13 C14 C15 C16 C17 C18 C19 C20 C21 C22 C23 C24 C25 C26 C27 C28 C29 C30 C31 C32 C33 C34 C35 L1 L2 L3 L4 L5 L6 L7 L8 L9 L10 L11 L12 L13 L14 L15 R1 R2 R3 R4

/-- the least number that passes, or another one -/
def lstF (p : Nat → Bool) (l : List Nat) (x : Nat) : Nat := (l.find? p).getD x
theorem lstF_le (p : Nat → Bool) (x : Nat) : lstF p (List.range x) x ≤ x := by
  unfold lstF
  cases h : (List.range x).find? p with
  | none => simp
  | some z => have := List.mem_of_find?_eq_some h; simp at this ⊢; omega
structure GC (N : Nat) (c : List Int) : Prop where
  len : c.length = N
  val : ∀ v, v ∈ c → 0 ≤ v ∧ v ≤ 100
end Go.Proofs.YtfniceomhfebhaaGreat.R5

set_option linter.unusedVariables false
set_option linter.unusedSimpArgs false
set_option maxRecDepth 100000
namespace Go.Proofs.YtfniceomhfebhaaGreat.R6
open Go Go.Ev Go.Proofs C1 C2 C3 C4 C5 C6 C7 C8 C9 C10 C11 C12 C13 C14 C15 C16 C17 C18 C19 C20 C21 C22 C23 C24 C25 C26 C27 C28 C29 C30 C31 C32 C33 C34 C35 L1 L2 L3 L4 L5 L6 L7 L8 L9 L10 L11 L12 L13 L14 L15 R1 R2 R3 R4 R5

end Go.Proofs.YtfniceomhfebhaaGreat.R6

set_option linter.unusedVariables false
set_option linter.unusedSimpArgs false
set_option maxRecDepth 100000
namespace Go.Proofs.YtfniceomhfebhaaGreat.L16
open Go Go.Ev Go.Proofs C1 C2 C3 C4 C5 C6 C7 C8 C9 C10 C11 C12 C13 C14 C15 C16 C17 C18 C19 C20 C21 C22 C23 C24 C25 C26 C27 C28 C29 C30 C31 C32 C33 C34 C35 L1 L2 L3 L4 L5 L6 L7 L8 L9 L10 L11 L12 L13 L14 L15 R1 R2 R3 R4 R5 R6

/-- the numbers of the least mates -/
theorem lst_mem {p : Nat → Bool} {x : Nat} : lstF p (List.range x) x = x ∨ (lstF p (List.range x) x < x ∧ p (lstF p (List.range x) x) = true) := by
  unfold lstF
  cases h : (List.range x).find? p with
  | none => exact .inl rfl
  | some z =>
    have h1 := List.mem_of_find?_eq_some h
    have h2 := List.find?_some h
    simp at h1
    exact .inr ⟨h1, h2⟩
theorem lst_least {p : Nat → Bool} {x z : Nat} (hz : z < x) (hp : p z = true) : lstF p (List.range x) x ≤ z := by
  unfold lstF
  cases h : (List.range x).find? p with
  | none =>
    rw [List.find?_eq_none] at h
    exact absurd hp (h z (by simpa using hz))
  | some w =>
    simp only [Option.getD_some]
    rw [List.find?_eq_some_iff_append] at h
    obtain ⟨_, l1, l2, e, hn⟩ := h
    refine Decidable.byContradiction fun hc => ?_
    have hzm : z ∈ l1 := by
      have hl : (l1 ++ w :: l2)[l1.length]? = some w := by simp
      rw [← e] at hl
      have hal : l1.length < x := by
        have := congrArg List.length e; simp at this; omega
      rw [List.getElem?_range hal] at hl
      simp only [Option.some.injEq] at hl
      have hz2 : (List.range x)[z]? = some z := by simp [hz]
      rw [e, List.getElem?_append_left (by omega)] at hz2
      exact List.mem_of_getElem? hz2
    have := hn z hzm
    simp [hp] at this
structure LeastC (N : Nat) (al : Nat → Nat → Bool) (c : List Int) : Prop where
  get : ∀ x, x < N → gI c x = (lstF (al x) (List.range x) x : Nat)
  per : PER N fun x y => al x y = true
theorem LeastC.eq {N : Nat} {al : Nat → Nat → Bool} {c : List Int} (h : LeastC N al c) {x y : Nat} (hx : x < N) (hy : y < N) : EQ c x y ↔ x = y ∨ al x y = true := by
  have lo : ∀ x, x < N → ∀ z, z < N → (z = x ∨ al x z = true) → lstF (al x) (List.range x) x ≤ z := fun x hx z hz hr => by
    have := lstF_le (al x) x
    by_cases hzx : z < x
    · rcases hr with e | e
      · omega
      · exact lst_least hzx e
    · omega
  have me : ∀ x, x < N → lstF (al x) (List.range x) x < N ∧ (lstF (al x) (List.range x) x = x ∨ al x (lstF (al x) (List.range x) x) = true) := fun x hx => by
    rcases lst_mem (p := al x) (x := x) with e | e
    · exact ⟨by omega, .inl e⟩
    · exact ⟨by omega, .inr e.2⟩
  unfold EQ
  rw [h.get x hx, h.get y hy]
  obtain ⟨mx1, mx2⟩ := me x hx
  obtain ⟨my1, my2⟩ := me y hy
  have lx := lo x hx
  have ly := lo y hy
  generalize lstF (al x) (List.range x) x = m at *
  generalize lstF (al y) (List.range y) y = m' at *
  constructor
  · intro e
    have e : m = m' := by omega
    subst e
    rcases mx2 with e1 | e1
    · subst e1
      rcases my2 with e2 | e2
      · exact .inl e2
      · exact .inr (h.per.sy _ _ hy hx e2)
    · rcases my2 with e2 | e2
      · subst e2; exact .inr e1
      · exact .inr (h.per.tr _ _ _ hx mx1 hy e1 (h.per.sy _ _ hy mx1 e2))
  · rintro (e | e)
    · subst e
      have := lx m' my1 my2
      have := ly m mx1 mx2
      omega
    · have e' := h.per.sy _ _ hx hy e
      have h1 := lx m' my1 (by
        rcases my2 with e2 | e2
        · rw [e2]; exact .inr e
        · exact .inr (h.per.tr _ _ _ hx hy my1 e e2))
      have h2 := ly m mx1 (by
        rcases mx2 with e2 | e2
        · rw [e2]; exact .inr e'
        · exact .inr (h.per.tr _ _ _ hy hx mx1 e' e2))
      omega
theorem LeastC.least {N : Nat} {al : Nat → Nat → Bool} {c : List Int} (h : LeastC N al c) {x y : Nat} (hx : x < N) (hy : y < N) (e : EQ c x y) : gI c x ≤ (y : Int) := by
  rw [h.get x hx]
  have h1 := lstF_le (al x) x
  by_cases hyx : y < x
  · rcases (h.eq hx hy).1 e with e | e
    · omega
    · have := lst_least hyx e; omega
  · omega
end Go.Proofs.YtfniceomhfebhaaGreat.L16

set_option linter.unusedVariables false
set_option linter.unusedSimpArgs false
set_option maxRecDepth 100000
namespace Go.Proofs.YtfniceomhfebhaaGreat.L17
open Go Go.Ev Go.Proofs C1 C2 C3 C4 C5 C6 C7 C8 C9 C10 C11 C12 C13 C14 C15 C16 C17 C18 C19 C20 C21 C22 C23 C24 C25 C26 C27 C28 C29 C30 C31 C32 C33 C34 C35 L1 L2 L3 L4 L5 L6 L7 L8 L9 L10 L11 L12 L13 L14 L15 R1 R2 R3 R4 R5 R6 L16

/-- labels that are atoms -/
structure GL (N : Nat) (c : List Int) : Prop where
  len : c.length = N
  rng : ∀ v, v < N → 0 ≤ gI c v ∧ gI c v < N
def Stb (N : Nat) (rs : List Rl) (c : List Int) : Prop := ∀ x y, x < N → y < N → EQ c x y → AlikeW N rs c x y
theorem flatMap_filt {α β : Type} (p : α → Bool) (f : α → List β) : ∀ l : List α, (l.filter p).flatMap f = l.flatMap fun y => if p y = true then f y else []
  | [] => rfl
  | y :: l => by
    have ih := flatMap_filt p f l
    rw [List.filter_cons, List.flatMap_cons]
    by_cases h : p y = true
    · rw [if_pos h, if_pos h, List.flatMap_cons, ih]
    · rw [if_neg h, if_neg h, ih]; rfl
/-- the level order and the search find the same permutations -/
theorem lvl_ext {sc : Sc} (g : GSc sc) {N : Nat} (hN : sumI sc.atoms = N) : ∀ i, i ≤ N → (lvl sc N i).flatMap (extG N (sortsL sc) anyP (N - i)) = extG N (sortsL sc) anyP N []
  | 0, _ => by simp [lvl]
  | i + 1, hi => by
    rw [← lvl_ext g hN i (by omega), lvl, List.flatMap_assoc]
    refine flatMap_congr' _ _ _ fun p hp => ?_
    have hl := lvl_each sc N i p hp
    rw [show N - i = (N - (i + 1)) + 1 by omega, extG]
    unfold stepN
    rw [List.flatMap_map, flatMap_filt]
    refine flatMap_congr' _ _ _ fun y hy => ?_
    rw [List.mem_range] at hy
    have hs : ∀ x : Nat, x < N → gI (sortsL sc) x = sortAt sc x := fun x hx => by
      rw [sortsL_get g hN hx, sortU, if_neg (by omega)]
    have hc : (decide (sortAt sc y = sortAt sc i ∧ ¬ (y : Int) ∈ p) = true) ↔ goOn (sortsL sc) anyP p y := by
      unfold goOn
      rw [decide_eq_true_eq, hl, hs y hy, hs i (by omega)]
      exact ⟨fun h => ⟨h.1, h.2, rfl⟩, fun h => ⟨h.1, h.2.1⟩⟩
    by_cases h : goOn (sortsL sc) anyP p y
    · rw [if_pos h, if_pos (hc.2 h)]
    · rw [if_neg h, if_neg (fun h2 => h (hc.1 h2))]
theorem lvl_all {sc : Sc} (g : GSc sc) {N : Nat} (hN : sumI sc.atoms = N) : lvl sc N N = allS N sc := by
  have := lvl_ext g hN N (Nat.le_refl _)
  rw [Nat.sub_self] at this
  rw [allS, ← this]
  have : ∀ l : List (List Int), l.flatMap (extG N (sortsL sc) anyP 0) = l := by
    intro l
    induction l with
    | nil => rfl
    | cons a l ih => rw [List.flatMap_cons, ih]; rfl
  rw [this]
theorem grp_same {sp : Sp} {sc : Sc} {bs : List Bd} {most : Int} {N : Nat} (F : Fit sp sc bs most N) : ((lvl sc N N).filter fun q => fixesOk sp sc q && symB sc bs q) = grpS sp sc N bs := by
  rw [lvl_all F.u.g F.hN, grp_filter F]
end Go.Proofs.YtfniceomhfebhaaGreat.L17

set_option linter.unusedVariables false
set_option linter.unusedSimpArgs false
set_option maxRecDepth 100000
namespace Go.Proofs.YtfniceomhfebhaaGreat.N9
open Go Go.Ev Go.Proofs C1 C2 C3 C4 C5 C6 C7 C8 C9 C10 C11 C12 C13 C14 C15 C16 C17 C18 C19 C20 C21 C22 C23 C24 C25 C26 C27 C28 C29 C30 C31 C32 C33 C34 C35 L1 L2 L3 L4 L5 L6 L7 L8 L9 L10 L11 L12 L13 L14 L15 L16 L17 L20 L21 M1 M2 M3 M4 M5 M6 M7 N1 N2 N3 N4 N5 N6 N7 N8 R1 R2 R3 R4 R5 R6

theorem sym26 (sp : Sp) (sc : Sc) (u : GU sc) (bs : List Bd) (gb : GBs (sumI sc.atoms) bs) (p : List Int) (hv : validP sc p = true) : SoundP Tryz.prog 46 [eSp sp, eSc sc, lBd bs, lI p] (aB (fixesOk sp sc p && symB sc bs p)) := by
  obtain ⟨N, hN⟩ := Int.eq_ofNat_of_zero_le u.n0
  have hN12 := u.n12
  rw [hN] at gb
  have hbl := gb.len
  have hp := ((validP_iff hN).1 hv).1
  have hpl := hp.len
  have hsb : symB sc bs p = bs.all fun b => decide (b.lo = relImg p b.lo) && decide (b.up = relImg p b.up) := by
    unfold symB relsOf
    rw [hv, Bool.true_and, List.all_flatMap]
    congr 1
    funext b
    simp
  rw [hsb]
  refine SoundP.of_sound (Sound.of_awp Tryz.call46 Tryz.func46 rfl (Nat.le_of_ble_eq_true (by kernel_rfl)) (by kernel_rfl) (pl := {}) ?_)
  simp [go_sem]
  refine LoopGo.up p.length (fun k st => st.tm 2 = lBd bs ∧ st.tm 3 = lI p ∧ st.tm 4 = ipSp sp ∧ st.tm 5 = .ip [lI sc.atoms, aI sc.steps] ∧ st.tm 9 = aI k ∧ st.mu = [] ∧ allN (fun x => fix1 sp sc x (gI p x)) k = true) ?_ ?_
  · simp [go_sem, allN]
  rintro k st hk ⟨e2, e3, e4, e5, e9, hm, he⟩
  by_cases hlt : k < p.length
  · simp [go_sem, e2, e3, e4, e5, e9, hm, hlt]
    refine CallStep.pure (sort11 sc u.g k (by omega)) (.cons (.hf (hf_eSc sc)) (.cons (.hf (HF.sc _)) .nil)) ?_
    have next : fix1 sp sc k p[k] = true → k < p.length ∧ IntKind.i64.wrap ((k : Int) + 1) = (k : Int) + 1 ∧ allN (fun x => fix1 sp sc x (gI p x)) (k + 1) = true := by
      intro h
      refine ⟨hlt, wrap_i64 (by omega) (by omega), ?_⟩
      rw [allN_succ, he, gI_eq hlt, h]; rfl
    have bad : fix1 sp sc k p[k] = false → fixesOk sp sc p = false := fun h => allN_false hlt (by rw [gI_eq hlt, h])
    have hfx : fix1 sp sc k p[k] = !(decide (0 ≤ sortAt sc k) && decide (sortAt sc k < sp.sorts.length) && ((sp.sorts[(sortAt sc k).toNat]?).map (·.2)).getD false && decide (p[k] ≠ k)) := rfl
    generalize sortAt sc (k : Int) = s at *
    by_cases h4 : p[k] = k
    · simp [go_sem, e2, e3, e4, e5, e9, hm, hlt, h4]
      exact (next (by rw [hfx]; simp [h4])).2
    by_cases h1 : 0 ≤ s
    case neg =>
      simp [go_sem, e2, e3, e4, e5, e9, hm, hlt, h1, h4]
      exact (next (by rw [hfx]; simp [h1])).2
    by_cases h2 : s < sp.sorts.length
    case neg =>
      simp [go_sem, e2, e3, e4, e5, e9, hm, hlt, h1, h2, h4]
      exact (next (by rw [hfx]; simp [h2])).2
    have h2' : s.toNat < sp.sorts.length := by omega
    by_cases h3 : sp.sorts[s.toNat].2 = true
    case neg =>
      simp only [Bool.not_eq_true] at h3
      simp [go_sem, e2, e3, e4, e5, e9, hm, hlt, h1, h2, h2', h3, h4]
      exact (next (by rw [hfx]; simp [h2', h3])).2
    simp [go_sem, e2, e3, e4, e5, e9, hm, hlt, h1, h2, h2', h3, h4]
    rw [bad (by rw [hfx]; simp [h1, h2, h2', h3, h4])]
    exact .hf _ (HF.sc _)
  have hfx : fixesOk sp sc p = true := by
    have hge : k = p.length := by omega
    rw [hge] at he
    exact he
  rw [hfx, Bool.true_and]
  simp [go_sem, e2, e3, e4, e5, e9, hm, hlt]
  refine LoopGo.up bs.length (fun k st => st.tm 2 = lBd bs ∧ st.tm 3 = lI p ∧ st.tm 5 = .ip [lI sc.atoms, aI sc.steps] ∧ st.tm 11 = aI k ∧ st.mu = [] ∧ ∀ (i : Nat) (h : i < bs.length), i < k → (decide (bs[i].lo = relImg p bs[i].lo) && decide (bs[i].up = relImg p bs[i].up)) = true) ?_ ?_
  · simp [go_sem, e2, e3, e4, e5, e9, hm]
  clear e2 e3 e4 e5 e9 hm he hlt hk st k
  rintro k st hk ⟨e1, e2, e3, e7, hm, he⟩
  by_cases hlt : k < bs.length
  case neg =>
    simp [go_sem, e1, e2, e3, e7, hm, hlt]
    rw [all_iff_get.2 fun i h => he i h (by omega)]
    exact .hf _ (HF.sc _)
  have hgb := gb.rel _ (List.getElem_mem hlt)
  have bad := fun h => all_bad (p := fun b : Bd => decide (b.lo = relImg p b.lo) && decide (b.up = relImg p b.up)) hlt h
  generalize hbe : bs[k] = b at *
  have r1 := rel11' sc hp (by omega) hgb.1
  have r2 := rel11' sc hp (by omega) hgb.2
  have hq1 := equal06 (relImg p b.lo) b.lo (by rw [img_len]; have := hgb.1.len; omega)
  have hq2 := equal06 (relImg p b.up) b.up (by rw [img_len]; have := hgb.2.len; omega)
  simp [go_sem, e1, e2, e3, e7, hm, hlt]
  refine DrawGo.intro (by kernel_rfl) ?_
  simp [go_sem, e1, e2, e3, e7, hm, hlt, hbe]
  refine CallStep.pure r1 (.cons (.hf (hf_eSc sc)) (.cons (.hf (hf_lI p)) (.cons (.hf (hf_eRel _)) .nil))) ?_
  simp [go_sem, e1, e2, e3, e7, hm, hlt, hbe]
  refine CallStep.pure hq1 (.cons (.hf (hf_eRel _)) (.cons (.hf (hf_eRel _)) .nil)) ?_
  by_cases h1 : relImg p b.lo = b.lo
  case neg =>
    have h1' : ¬ b.lo = relImg p b.lo := fun h => h1 h.symm
    simp [go_sem, e1, e2, e3, e7, hm, hlt, hbe, h1]
    rw [bad (by simp [h1'])]
    exact .hf _ (HF.sc _)
  have hd1 : decide (relImg p b.lo = b.lo) = true := decide_eq_true h1
  rw [hd1]
  simp [go_sem, e1, e2, e3, e7, hm, hlt, hbe]
  refine CallStep.pure r2 (.cons (.hf (hf_eSc sc)) (.cons (.hf (hf_lI p)) (.cons (.hf (hf_eRel _)) .nil))) ?_
  simp [go_sem, e1, e2, e3, e7, hm, hlt, hbe]
  refine CallStep.pure hq2 (.cons (.hf (hf_eRel _)) (.cons (.hf (hf_eRel _)) .nil)) ?_
  by_cases h2 : relImg p b.up = b.up
  case neg =>
    have h2' : decide (b.up = relImg p b.up) = false := decide_eq_false fun h => h2 h.symm
    have hd2 : decide (relImg p b.up = b.up) = false := decide_eq_false h2
    rw [hd2]
    simp [go_sem, e1, e2, e3, e7, hm, hlt, hbe]
    rw [bad (by rw [h2', Bool.and_false])]
    exact .hf _ (HF.sc _)
  have hd2 : decide (relImg p b.up = b.up) = true := decide_eq_true h2
  rw [hd2]
  simp [go_sem, e1, e2, e3, e7, hm, hlt, hbe]
  refine ⟨wrap_i64 (by omega) (by omega), fun i h hi => ?_⟩
  rcases Nat.lt_succ_iff_lt_or_eq.1 hi with h3 | h3
  · have := he i h h3
    rw [Bool.and_eq_true, decide_eq_true_eq, decide_eq_true_eq] at this
    exact this
  · subst h3
    rw [hbe]; exact ⟨h1.symm, h2.symm⟩
theorem group26 {sp : Sp} {sc : Sc} {bs : List Bd} {most : Int} {N : Nat} (F : Fit sp sc bs most N) (hN6 : N ≤ 6) : SoundP Tryz.prog 26 [eSp sp, eSc sc, lBd bs] (lL (grpS sp sc N bs)) := by
  rw [← grp_same F]
  have hval : ∀ q, q ∈ lvl sc N N → validP sc q = true := fun q hq => by
    rw [lvl_all F.u.g F.hN, mem_allS] at hq
    exact (validP_iff F.hN).2 hq
  have hlen : (lvl sc N N).length ≤ 46656 := Nat.le_trans (lvl_len sc N N) (Nat.le_trans (Nat.pow_le_pow_left hN6 N) (Nat.pow_le_pow_right (by omega) hN6))
  refine SoundP.of_sound (Sound.of_awp Tryz.call26 Tryz.func26 rfl (Nat.le_of_ble_eq_true (by kernel_rfl)) (by kernel_rfl) (pl := {}) ?_)
  simp [go_sem]
  refine CallStep.pure (all11 sc F.u N F.hN hN6) (.cons (.hf (hf_eSc sc)) .nil) ?_
  generalize lvl sc N N = A at *
  simp [go_sem]
  refine LoopGo.keep (fun m st => ∃ k av, m = A.length - k ∧ k ≤ A.length ∧ st.tm 2 = lBd bs ∧ st.tm 3 = ipSp sp ∧ st.tm 4 = .ip [lI sc.atoms, aI sc.steps] ∧ st.tm 7 = lL A ∧ st.tm 8 = av ∧ st.tm 9 = aI (k : Nat) ∧ Own st.mu 1 av (((A.take k).filter fun q => fixesOk sp sc q && symB sc bs q).map rL)) A.length ?_ ?_
  · exact ⟨0, .lst true [], by omega, by omega, by simp [go_sem], by simp [go_sem], by simp [go_sem], by simp [go_sem], by simp [go_sem], by simp [go_sem], .inl rfl⟩
  rintro m st ⟨k, av, rfl, hk, e2, e3, e4, e7, e8, e9, ho⟩
  by_cases hlt : k < A.length
  · have hwk : IntKind.i64.wrap ((k : Int) + 1) = ((k + 1 : Nat) : Int) := by rw [wrap_i64 (by omega) (by omega)]; omega
    have hstep := filter_step A (fun q => fixesOk sp sc q && symB sc bs q) k hlt
    simp [go_sem, e2, e3, e4, e7, e8, e9, hlt]
    refine DrawGo.intro (by kernel_rfl) ?_
    simp [go_sem, e2, e3, e4, e7, e8, e9, hlt]
    refine CallStep.pure (sym26 sp sc F.u bs F.gb A[k] (hval _ (List.getElem_mem hlt))) (.cons (.hf (hf_eSp sp)) (.cons (.hf (hf_eSc sc)) (.cons (.hf (hf_lBd bs)) (.cons (.hf (hf_lI _)) .nil)))) ?_
    generalize hb : (fixesOk sp sc A[k] && symB sc bs A[k]) = b at *
    cases b with
    | true =>
      simp [go_sem, e2, e3, e4, e7, e8, e9, hlt]
      rw [if_pos rfl] at hstep
      refine AppendStep.ownB (e := 29) (sz := 1) (bt := 24) (zv := .lst true []) (xs := ((A.take k).filter fun q => fixesOk sp sc q && symB sc bs q).map rL) (ys := [rL A[k]]) (by simp [go_sem]) (by simp [go_sem]) (by simp [go_sem]) rfl rfl (by omega) (by omega) ho (by simp [rowsOf]) (rows_rL _) (rows_rL [_]) (by
        have := List.length_filter_le (fun q => fixesOk sp sc q && symB sc bs q) (A.take k)
        simp only [List.length_map, List.length_take, List.length_singleton] at this ⊢; omega) ?_
      intro av' mu' ho' _ _ _
      simp [go_sem, e2, e3, e4, e7, e8, e9, hlt]
      refine Keep.loop (A.length - (k + 1)) (by omega) ⟨k + 1, av', rfl, by omega, by simp [go_sem, e2], by simp [go_sem, e3], by simp [go_sem, e4], by simp [go_sem, e7], by simp [go_sem], by simp [go_sem, hwk], ?_⟩
      rw [hstep, List.map_append]
      simpa [go_sem] using ho'
    | false =>
      simp [go_sem, e2, e3, e4, e7, e8, e9, hlt]
      rw [if_neg (by simp), List.append_nil] at hstep
      refine Keep.loop (A.length - (k + 1)) (by omega) ⟨k + 1, av, rfl, by omega, by simp [go_sem, e2], by simp [go_sem, e3], by simp [go_sem, e4], by simp [go_sem, e7], by simp [go_sem, e8], by simp [go_sem, hwk], ?_⟩
      rw [hstep]
      exact ho
  · have hge : k = A.length := by omega
    subst hge
    rw [List.take_length] at ho
    simp [go_sem, e2, e3, e4, e7, e8, e9]
    exact Own.rdLL ho
end Go.Proofs.YtfniceomhfebhaaGreat.N9

set_option linter.unusedVariables false
set_option linter.unusedSimpArgs false
set_option maxRecDepth 100000
namespace Go.Ev
open Go Go.RowKit
@[go_sem ↓] theorem SStep_clear (P : Program) (pl : Pol) (det : Bool) (dst : Option Tmp) (ev : Operand → AV) (mu : Mu) (K Kp : AV → Mu → Prop) (l : List Operand) (ats : Array TypeId) : SStep P pl det dst (.call ⟨.builtin .clear, l.toArray, ats⟩) ev mu K Kp = ExtGo P mu .clear ats (evs ev l) K := eqS rfl
theorem ExtGo_clear {P : Program} {mu : Mu} {K : AV → Mu → Prop} {t e : TypeId} {sz bt b off len : Nat} {cells : List AV} {zv : AV} (hs : sliceOf P t = some (e, sz, bt)) (hz : zeroOf P e = some zv) (hz1 : zv.cells.length = sz) (hz2 : zv.cells.all AV.one = true) (hz0 : sz ≠ 0)
    (hc : mu[b]? = some (.arr cells)) (hl : off + len * sz ≤ cells.length) (hp : 0 < len) (k : K (.tup []) (mu.set b (.arr (putCells cells off ((List.range (len * sz)).map fun i => zv.cells.getD (i % sz) .any))))) : ExtGo P mu .clear #[t] [.sl b sz off len] K :=
  ⟨_, _, .clear hs hz hz1 hz2 hz0 hc hl hp, k⟩
theorem flatten_at {β : Type} (c : β → List AV) (k : Nat) (hk : ∀ x, (c x).length = k) : ∀ (ms : List β) (i j : Nat) (hi : i < ms.length), j < k → (ms.map c).flatten[i * k + j]? = (c ms[i])[j]?
  | [], i, j, hi, _ => by simp at hi
  | x :: ms, 0, j, hi, hj => by
    simp only [List.map_cons, List.flatten_cons, Nat.zero_mul, Nat.zero_add, List.getElem_cons_zero]
    rw [List.getElem?_append_left (by rw [hk]; exact hj)]
  | x :: ms, i + 1, j, hi, hj => by
    have h := flatten_at c k hk ms i j (by simpa using hi) hj
    simp only [List.map_cons, List.flatten_cons, List.getElem_cons_succ]
    rw [List.getElem?_append_right (by rw [hk, Nat.add_mul]; omega), hk]
    have e : (i + 1) * k + j - k = i * k + j := by rw [Nat.add_mul]; omega
    rw [e]; exact h
theorem flatten_size {β : Type} (c : β → List AV) (k : Nat) (hk : ∀ x, (c x).length = k) : ∀ (ms : List β), (ms.map c).flatten.length = ms.length * k
  | [] => by simp
  | x :: ms => by
    simp only [List.map_cons, List.flatten_cons, List.length_append, hk, flatten_size c k hk ms, List.length_cons, Nat.add_mul]
    omega

end Go.Ev
namespace Go.Proofs.YtfniceomhfebhaaGreat.M10
open Go Go.Ev Go.Proofs C1 C2 C3 C4 C5 C6 C7 C8 C9 C10 C11 C12 C13 C14 C15 C16 C17 C18 C19 C20 C21 C22 C23 C24 C25 C26 C27 C28 C29 C30 C31 C32 C33 C34 C35 M1 M2 M3 M4 M5 M6 M7 L20

/-! ### slices.CompactFunc -/
def cmpGo {β : Type} (p : β → β → Bool) : β → List β → List β
  | _, [] => []
  | x, y :: l => if p y x = true then cmpGo p y l else y :: cmpGo p y l
def cmpc {β : Type} (p : β → β → Bool) : List β → List β
  | [] => []
  | x :: l => x :: cmpGo p x l

theorem rowAt {β : Type} (c : β → List AV) (k : Nat) (hk : ∀ x, (c x).length = k) (ms : List β) (i : Nat) (hi : i < ms.length) : List.take k (List.drop (i * k) (ms.map c).flatten) = c ms[i] := by
  apply List.ext_getElem?
  intro j
  by_cases hj : j < k
  · rw [List.getElem?_take, if_pos hj, List.getElem?_drop, flatten_at c k hk ms i j hi hj]
  · rw [List.getElem?_take, if_neg hj, List.getElem?_eq_none (by rw [hk]; omega)]
theorem cmpGo_app {β : Type} (p : β → β → Bool) : ∀ (l : List β) (x y : β), cmpGo p x (l ++ [y]) = cmpGo p x l ++ (if p y ((x :: l).getLast (by simp)) = true then [] else [y])
  | [], x, y => by
    by_cases hp : p y x = true <;> simp [cmpGo, hp]
  | z :: l, x, y => by
    have ih := cmpGo_app p l z y
    have e : (x :: z :: l).getLast (by simp) = (z :: l).getLast (by simp) := List.getLast_cons (by simp)
    simp only [List.cons_append, cmpGo, e, ih]
    split
    · rfl
    · rfl
theorem cmpc_succ {β : Type} (p : β → β → Bool) (l : List β) (k : Nat) (h1 : 1 ≤ k) (h2 : k < l.length) : cmpc p (l.take (k + 1)) = cmpc p (l.take k) ++ (if p l[k] (l[k - 1]'(by omega)) = true then [] else [l[k]]) := by
  have htk : l.take (k + 1) = l.take k ++ [l[k]] := by rw [List.take_add_one, List.getElem?_eq_getElem h2]; rfl
  have hlast : ∀ (q : l.take k ≠ []), (l.take k).getLast q = l[k - 1]'(by omega) := by
    intro q
    rw [List.getLast_eq_getElem, List.getElem_take]
    congr 1
    simp; omega
  rw [htk]
  cases hq : l.take k with
  | nil =>
    have hlen := congrArg List.length hq
    rw [List.length_take, List.length_nil] at hlen
    omega
  | cons x r =>
    have := hlast (by rw [hq]; simp)
    simp only [hq] at this
    simp only [List.cons_append, cmpc, cmpGo_app, this]
theorem mu_set_self {mu : Mu} {b : Nat} {c : Cell} (h : mu[b]? = some c) : mu.set b c = mu := by
  obtain ⟨h1, h2⟩ := List.getElem?_eq_some_iff.1 h
  rw [← h2]; simp
theorem flat_take {β : Type} (c : β → List AV) (k : Nat) (hk : ∀ x, (c x).length = k) : ∀ (ms : List β) (i : Nat), (ms.map c).flatten.take (i * k) = ((ms.take i).map c).flatten
  | [], i => by simp
  | x :: ms, 0 => by simp
  | x :: ms, i + 1 => by
    simp only [List.map_cons, List.flatten_cons, List.take_succ_cons]
    rw [List.take_append, List.take_of_length_le (by rw [hk, Nat.add_mul]; omega), hk, show (i + 1) * k - k = i * k by rw [Nat.add_mul]; omega, flat_take c k hk ms i]
theorem flat_drop {β : Type} (c : β → List AV) (k : Nat) (hk : ∀ x, (c x).length = k) : ∀ (ms : List β) (i : Nat), (ms.map c).flatten.drop (i * k) = ((ms.drop i).map c).flatten
  | [], i => by simp
  | x :: ms, 0 => by simp
  | x :: ms, i + 1 => by
    simp only [List.map_cons, List.flatten_cons, List.drop_succ_cons]
    rw [List.drop_append, List.drop_of_length_le (by rw [hk, Nat.add_mul]; omega), hk, show (i + 1) * k - k = i * k by rw [Nat.add_mul]; omega, flat_drop c k hk ms i, List.nil_append]
theorem putCells_ne {cells xs : List AV} {off : Nat} (h : xs.length ≠ 1) : putCells cells off xs = cells.take off ++ xs ++ cells.drop (off + xs.length) := by
  unfold putCells
  split
  · exact absurd rfl h
  · rfl
theorem put_row {β : Type} (c : β → List AV) (k : Nat) (hk : ∀ x, (c x).length = k) (h1 : k ≠ 1) (ms : List β) (i : Nat) (hi : i < ms.length) (x : β) : putCells (ms.map c).flatten (i * k) (c x) = ((ms.set i x).map c).flatten := by
  rw [putCells_ne (by rw [hk]; exact h1), hk, flat_take c k hk, show i * k + k = (i + 1) * k by rw [Nat.add_mul]; omega, flat_drop c k hk, List.set_eq_take_append_cons_drop, if_pos hi]
  simp
theorem compactE (mu : Mu) (b : Nat) (ms : List Md) (fv : AV) (p : Md → Md → Bool) (hf : FnOkB Tryz.prog fv eMd (fun x y => x ∈ ms ∧ y ∈ ms) p) (hl : ms.length ≤ 1000000) (hb : mu[b]? = some (.arr (ms.map cMd).flatten)) :
    Sound Tryz.prog 60 [.sl b 4 0 ms.length, fv] mu fun e m => ∃ cells, e = .ret (.sl b 4 0 (cmpc p ms).length) ∧ m = mu.set b (.arr cells) ∧ cells.length = ms.length * 4 ∧ cells.take ((cmpc p ms).length * 4) = ((cmpc p ms).map cMd).flatten := by
  refine Sound.of_awp Tryz.call60 Tryz.func60 rfl (Nat.le_of_ble_eq_true (by kernel_rfl)) (by kernel_rfl) (pl := {}) ?_
  have hfs := flatten_size cMd 4 (fun _ => rfl) ms
  have hrow := rowAt cMd 4 (fun _ => rfl) ms
  generalize hF : (ms.map cMd).flatten = F at *
  simp [go_sem]
  by_cases h2 : ms.length < 2
  · have hc : cmpc p ms = ms := by
      match ms, h2 with
      | [], _ => rfl
      | [x], _ => rfl
      | _ :: _ :: _, h => simp only [List.length_cons] at h; omega
    simp [go_sem, show (ms.length : Int) < 2 by omega]
    rw [hc]
    refine ⟨rfl, F, (mu_set_self hb).symm, hfs, ?_⟩
    rw [hF, ← hfs, List.take_length]
  simp [go_sem, show ¬ (ms.length : Int) < 2 by omega]
  refine LoopGo.keep (fun m st => ∃ k, m = ms.length - k ∧ 1 ≤ k ∧ k ≤ ms.length ∧ st.tm 0 = .sl b 4 0 ms.length ∧ st.tm 1 = fv ∧ st.tm 5 = aI (k : Nat) ∧ st.mu = mu ∧ cmpc p (ms.take k) = ms.take k) (ms.length - 1) ?_ ?_
  · refine ⟨1, by omega, by omega, by omega, by simp [go_sem], by simp [go_sem], by simp [go_sem], by simp [go_sem], ?_⟩
    match ms, h2 with
    | [], h => simp at h
    | x :: l, _ => simp [cmpc, cmpGo]
  rintro m st ⟨k, rfl, hk1, hk, e0, e1, e5, hm, hi⟩
  by_cases hlt : k < ms.length
  · have hr1 := hrow k hlt
    have hr2 := hrow (k - 1) (by omega)
    have hk4 : k * 4 + 4 ≤ F.length := by omega
    have hk5 : (k - 1) * 4 + 4 ≤ F.length := by omega
    have hw : IntKind.i64.wrap ((k : Int) - 1) = ((k - 1 : Nat) : Int) := by rw [wrap_i64 (by omega) (by omega)]; omega
    have hkk : k - 1 < ms.length := by omega
    simp [go_sem, e0, e1, e5, hm, hlt]
    refine DrawGo.intro (by kernel_rfl) ?_
    simp [go_sem, e0, e1, e5, hm, hlt, hb, hr1, hr2, hk4, hk5, hw, hkk]
    refine FnOkB.call (enc := eMd) hf ⟨List.getElem_mem hlt, List.getElem_mem hkk⟩ ?_
    have hsucc := cmpc_succ p ms k hk1 hlt
    rw [hi] at hsucc
    cases hp : p ms[k] ms[k - 1] with
    | false =>
      rw [hp, if_neg (by simp)] at hsucc
      have htk : ms.take (k + 1) = ms.take k ++ [ms[k]] := by rw [List.take_add_one, List.getElem?_eq_getElem hlt]; rfl
      simp [go_sem, e0, e1, e5, hm, hlt]
      refine Keep.loop (ms.length - (k + 1)) (by omega) ⟨k + 1, rfl, by omega, by omega, by simp [go_sem, e0], by simp [go_sem, e1], ?_, by simp [go_sem], by rw [hsucc, htk]⟩
      simp [go_sem]; exact wrap_i64 (by omega) (by omega)
    | true =>
      rw [hp, if_pos rfl, List.append_nil] at hsucc
      simp [go_sem, e0, e1, e5, hm, hlt, hb, hk]
      refine LoopGo.keep (fun m2 st2 => ∃ (j i : Nat) (cur : List Md), m2 = ms.length - (k + j) ∧ 1 ≤ j ∧ k + j ≤ ms.length ∧ st2.tm 0 = .sl b 4 0 ms.length ∧ st2.tm 1 = fv ∧ st2.tm 5 = aI (i : Nat) ∧ st2.tm 6 = .sl b 4 (k * 4) (ms.length - k) ∧ st2.tm 7 = aI (j : Nat) ∧ cur.length = ms.length ∧ st2.mu = mu.set b (.arr (cur.map cMd).flatten) ∧ i = (cmpc p (ms.take (k + j))).length ∧ i ≤ k + j - 1 ∧ cur.take i = cmpc p (ms.take (k + j)) ∧ cur.drop (k + j - 1) = ms.drop (k + j - 1)) (ms.length - (k + 1)) ?_ ?_
      · have hsucc := cmpc_succ p ms k hk1 hlt
        rw [hi, hp, if_pos rfl, List.append_nil] at hsucc
        refine ⟨1, k, ms, by omega, by omega, by omega, by simp [go_sem, e0], by simp [go_sem, e1], by simp [go_sem, e5], by simp [go_sem], by simp [go_sem], rfl, ?_, ?_, by omega, ?_, rfl⟩
        · simp [go_sem, hm]; rw [hF]; exact (mu_set_self hb).symm
        · rw [hsucc, List.length_take]; omega
        · exact hsucc.symm
      rintro m2 st2 ⟨j, i, cur, rfl, hj1, hj, f0, f1, f5, f6, f7, hcl, hm2, hil, hi2, hct, hcd⟩
      have hcs := flatten_size cMd 4 (fun _ => rfl) cur
      have hcr := rowAt cMd 4 (fun _ => rfl) cur
      have hput := put_row cMd 4 (fun _ => rfl) (by omega) cur
      have htake := flat_take cMd 4 (fun _ => rfl) cur
      generalize hFc : (cur.map cMd).flatten = Fc at *
      by_cases hjl : j < ms.length - k
      · have hkj : k + j < ms.length := by omega
        have r1 := hcr (k + j) (by omega)
        have r2 := hcr (k + j - 1) (by omega)
        have c1 : cur[k + j]'(by omega) = ms[k + j] := by
          have := congrArg (fun l => l[1]?) hcd
          simp only [List.getElem?_drop] at this
          rw [show k + j - 1 + 1 = k + j by omega, List.getElem?_eq_getElem (by omega), List.getElem?_eq_getElem (by omega)] at this
          exact Option.some.inj this
        have c2 : cur[k + j - 1]'(by omega) = ms[k + j - 1] := by
          have := congrArg (fun l => l[0]?) hcd
          simp only [List.getElem?_drop, Nat.add_zero] at this
          rw [List.getElem?_eq_getElem (by omega), List.getElem?_eq_getElem (by omega)] at this
          exact Option.some.inj this
        rw [c1, Nat.add_mul] at r1
        rw [c2, show (k + j - 1) * 4 = k * 4 + (j - 1) * 4 by omega] at r2
        have hw2 : IntKind.i64.wrap ((j : Int) - 1) = ((j - 1 : Nat) : Int) := by rw [wrap_i64 (by omega) (by omega)]; omega
        have g1 : k * 4 + j * 4 + 4 ≤ Fc.length := by omega
        have g2 : k * 4 + (j - 1) * 4 + 4 ≤ Fc.length := by omega
        have g3 : j - 1 < ms.length - k := by omega
        have hbl : b < mu.length := (List.getElem?_eq_some_iff.1 hb).1
        simp [go_sem, f0, f1, f5, f6, f7, hm2, hjl]
        refine DrawGo.intro (by kernel_rfl) ?_
        simp [go_sem, f0, f1, f5, f6, f7, hm2, hjl, hbl, r1, r2, hw2, g1, g2, g3]
        have hkp : k + j - 1 < ms.length := by omega
        refine FnOkB.call (enc := eMd) hf ⟨List.getElem_mem hkj, List.getElem_mem hkp⟩ ?_
        have hs2 := cmpc_succ p ms (k + j) (by omega) hkj
        have hw3 : IntKind.i64.wrap ((j : Int) + 1) = ((j + 1 : Nat) : Int) := by rw [wrap_i64 (by omega) (by omega)]; omega
        have hd1 : cur.drop (k + j) = ms.drop (k + j) := by
          have := congrArg (List.drop 1) hcd
          rw [List.drop_drop, List.drop_drop, show k + j - 1 + 1 = k + j by omega] at this
          exact this
        cases hp2 : p ms[k + j] ms[k + j - 1] with
        | true =>
          rw [hp2, if_pos rfl, List.append_nil] at hs2
          simp [go_sem, f0, f1, f5, f6, f7, hm2, hjl]
          refine Keep.loop (ms.length - (k + (j + 1))) (by omega) ⟨j + 1, i, cur, rfl, by omega, by omega, by simp [go_sem, f0], by simp [go_sem, f1], by simp [go_sem, f5], by simp [go_sem, f6], by simp [go_sem, hw3], hcl, ?_, ?_, by omega, ?_, ?_⟩
          · simp [go_sem]; rw [hFc]
          · rw [show k + (j + 1) = k + j + 1 by omega, hs2]; exact hil
          · rw [show k + (j + 1) = k + j + 1 by omega, hs2]; exact hct
          · rw [show k + (j + 1) - 1 = k + j by omega]; exact hd1
        | false =>
          rw [hp2, if_neg (by simp)] at hs2
          have hii : i < cur.length := by omega
          have g4 : i * 4 + 4 ≤ Fc.length := by omega
          have g5 : i < ms.length := by omega
          have hpx := hput i hii ms[k + j]
          have hw4 : IntKind.i64.wrap ((i : Int) + 1) = ((i + 1 : Nat) : Int) := by rw [wrap_i64 (by omega) (by omega)]; omega
          simp [go_sem, f0, f1, f5, f6, f7, hm2, hjl, hbl, r1, g1, g4, g5]
          refine Keep.loop (ms.length - (k + (j + 1))) (by omega) ⟨j + 1, i + 1, cur.set i ms[k + j], rfl, by omega, by omega, by simp [go_sem, f0], by simp [go_sem, f1], by simp [go_sem, hw4], by simp [go_sem, f6], by simp [go_sem, hw3], by simp [hcl], ?_, ?_, by omega, ?_, ?_⟩
          · simp [go_sem]
            rw [← List.map_set, ← hpx]
            simp [putCells]
          · rw [show k + (j + 1) = k + j + 1 by omega, hs2, List.length_append]; simp; omega
          · rw [show k + (j + 1) = k + j + 1 by omega, hs2, ← hct, List.take_add_one, List.getElem?_set_self (by omega), List.take_set_of_le (by omega)]; rfl
          · rw [show k + (j + 1) - 1 = k + j by omega, List.drop_set_of_lt (by omega)]; exact hd1
      · have hje : k + j = ms.length := by omega
        rw [hje, List.take_length] at hil hct
        have hbl : b < mu.length := (List.getElem?_eq_some_iff.1 hb).1
        simp [go_sem, f0, f1, f5, f6, f7, hm2, hjl, show i < ms.length by omega, show i ≤ ms.length by omega]
        refine ExtGo_clear (e := 34) (bt := 64) (zv := .agg [.lst true [], aI 0, .lst true [], aI 0]) (cells := Fc) (by simp [go_sem]) (by simp [go_sem]) rfl rfl (by omega) (by simp [hbl]) (by omega) (by omega) ?_
        have hZ : ∀ zs : List AV, zs.length = (ms.length - i) * 4 → (putCells Fc (i * 4) zs).length = ms.length * 4 ∧ (putCells Fc (i * 4) zs).take (i * 4) = Fc.take (i * 4) := by
          intro zs hz
          rw [putCells_ne (by omega)]
          refine ⟨by simp; omega, ?_⟩
          rw [List.append_assoc, List.take_append, List.length_take, Nat.min_eq_left (by omega), Nat.sub_self, List.take_zero, List.append_nil, List.take_take, Nat.min_self]
        have hz := hZ ((List.range ((ms.length - i) * 4)).map fun j => (AV.agg [.lst true [], aI 0, .lst true [], aI 0]).cells.getD (j % 4) .any) (by simp)
        generalize putCells Fc (i * 4) _ = Z at hz ⊢
        simp [go_sem, f0, f1, f5, f6, f7, hm2, hjl, show i < ms.length by omega, show i ≤ ms.length by omega]
        refine ⟨hil, Z, rfl, hz.1, ?_⟩
        rw [← hil, hz.2, htake i, hct]
  · have hke : k = ms.length := by omega
    subst hke
    rw [List.take_length] at hi
    simp [go_sem, e0, e1, e5, hm]
    rw [hi]
    refine ⟨rfl, F, (mu_set_self hb).symm, hfs, ?_⟩
    rw [hF, ← hfs, List.take_length]
end Go.Proofs.YtfniceomhfebhaaGreat.M10

set_option linter.unusedVariables false
set_option linter.unusedSimpArgs false
set_option maxRecDepth 100000
namespace Go.Ev
open Go Go.RowKit

theorem grow_of {w w' : World} (h : BelowD w.heap.size w w') : ∃ q os, w' = Sort.grow (w.drewN q) os := by
  refine ⟨w'.drawn - w.drawn, w'.heap.extract w.heap.size w'.heap.size, ?_⟩
  have hd := h.drawn
  have hh : w'.heap = w.heap ++ w'.heap.extract w.heap.size w'.heap.size := by
    apply Array.ext_getElem?
    intro i
    by_cases hi : i < w.heap.size
    · rw [Array.getElem?_append_left hi, h.block i hi]
    · rw [Array.getElem?_append_right (by omega), Array.getElem?_extract]
      have hs := h.size
      have e : w.heap.size + (i - w.heap.size) = i := by omega
      rw [e]
      by_cases hi2 : i < w'.heap.size
      · rw [if_pos (by omega)]
      · rw [if_neg (by omega), Array.getElem?_eq_none (by omega)]
  obtain ⟨heap', tape', drawn', os', out'⟩ := w'
  obtain ⟨heap, tape, drawn, os, out⟩ := w
  have h1 := h.os
  have h2 := h.tape
  have h3 := h.output
  simp only at h1 h2 h3 hd hh
  subst h1; subst h2; subst h3
  simp only [Sort.grow, World.drewN, World.mk.injEq, and_true, true_and]
  exact ⟨hh, by omega⟩

/-- the library's sort with a compare function, at rows of k cells, in a block of the call's own -/
theorem sortF_sound {P : Program} {f g : FuncId} (hcal : Callable P f) {β : Type} (c : β → List AV) (k : Nat) (hk : ∀ x, (c x).length = k) (hk0 : 0 < k) (ord : β → β → Int) {caps : List AV} (hf : ∀ x y, y ∈ c x → HF y) (hcap : ∀ y, y ∈ caps → HF y)
    (m : Nat) (ms : List β) (hm : ms.length = m + 1) (hbig : m + 1 < 4611686018427387904)
    (hcmp : ∀ x y, x ∈ ms → y ∈ ms → SoundP P g ([.agg (c x), .agg (c y)] ++ caps) (.sc (.int .i64 (ord x y))))
    (hirr : ∀ x, x ∈ ms → ¬ ord x x < 0) (htr : ∀ x y z, x ∈ ms → y ∈ ms → z ∈ ms → ord x y < 0 → ord y z < 0 → ord x z < 0) (hnt : ∀ x y z, x ∈ ms → y ∈ ms → z ∈ ms → ¬ ord x y < 0 → ¬ ord y z < 0 → ¬ ord x z < 0)
    (hsort : ∀ (enc : Fin (m + 1) → List Value), (∀ x, (enc x).length = k) → (∀ x, ∀ v ∈ enc x, v.oneCell' = true) → ∀ (cf : Fin (m + 1) → Fin (m + 1) → Int), Sort.SWO (Proofs.ltOf cf) → ∀ (cb : Array Value) (blk off cap : Nat) (d : Array (Fin (m + 1))) (w : World),
      Proofs.CmpLays P g cb enc k cf blk off d.size w → Sort.HoldsK enc k w blk off d → blk < w.heap.size → d.size < 4611686018427387904 →
      Calls P f #[.slice (some ⟨blk, off, none⟩) d.size cap, .func (.func g) #[] cb] w fun e w' =>
        e = .returned (.tuple #[]) ∧ ∃ d' n os, Sort.PermIn 0 d.size d d' ∧ Sort.SortedIn (Proofs.ltOf cf) 0 d.size d' ∧ w' = Proofs.sortWorldK enc k w blk off n d' os)
    {mu : Mu} {b : Nat} (hc : mu[b]? = some (.arr (ms.map c).flatten)) :
    Sound P f [.sl b k 0 ms.length, .fn (.func g) [] caps] mu fun e mu' => e = .ret (.tup []) ∧ ∃ ms' : List β, ms'.Perm ms ∧ ms'.Pairwise (fun x y => ¬ ord y x < 0) ∧ mu' = mu.set b (.arr (ms'.map c).flatten) := by
  refine ⟨hcal, fun G w vs s ra => ?_⟩
  obtain ⟨u, fv, rfl, ru, rf⟩ := ra.two_inv
  cases ru with
  | sl _ _ _ _ blk tot cap hb ht hlc =>
  cases rf with
  | fn _ _ _ fvs cvs hfn hcn hfv hcv =>
  have e0 : fvs = #[] := by have : fvs.size = 0 := by simpa using hfn
                            exact Array.eq_empty_of_size_eq_zero this
  subst e0
  obtain ⟨arr, el, h1, h2, h3, h4⟩ := s.arr b _ blk tot hc hb
  have hfs := flatten_size c k hk ms
  have hblk : blk < w.heap.size := (Array.getElem?_eq_some_iff.1 h1).1
  have hat : ∀ (i j : Nat) (hi : i < ms.length) (hj : j < k), ((c ms[i])[j]'(by rw [hk]; exact hj)).one = true ∧ VRel G w.heap ((c ms[i])[j]'(by rw [hk]; exact hj)) (arr.getD (i * k + j) undef) := by
    intro i j hi hj
    refine h4 (i * k + j) _ ?_
    rw [flatten_at c k hk ms i j hi hj]
    exact List.getElem?_eq_getElem _
  have hlive : Live G mu blk := ⟨b, _, tot, hc, by simp, hb⟩
  have hni : ¬ G.imm blk := s.live b _ blk tot hc (by simp) hb
  generalize henc : (fun i : Fin (m + 1) => (List.range k).map fun j => arr.getD (i.val * k + j) undef) = enc
  have hencA : ∀ i : Fin (m + 1), (enc i).length = k := fun i => by rw [← henc]; simp
  have hencG : ∀ (i : Fin (m + 1)) (j : Nat) (hj : j < k), (enc i)[j]! = arr.getD (i.val * k + j) undef := fun i j hj => by
    rw [← henc]; simp [hj]
  have hil : ∀ i : Fin (m + 1), i.val < ms.length := fun i => by have := i.isLt; omega
  have henc1 : ∀ x, ∀ v ∈ enc x, v.oneCell' = true := by
    intro x v hv
    rw [← henc] at hv
    simp only [List.mem_map, List.mem_range] at hv
    obtain ⟨j, hj, rfl⟩ := hv
    obtain ⟨g1, g2⟩ := hat x.val j (hil x) hj
    exact g2.one g1
  generalize hcf : (fun x y : Fin (m + 1) => ord (ms[x.val]'(hil x)) (ms[y.val]'(hil y))) = cf
  have hcfe : ∀ x y : Fin (m + 1), cf x y = ord (ms[x.val]'(hil x)) (ms[y.val]'(hil y)) := fun x y => by rw [← hcf]
  have hmem : ∀ x : Fin (m + 1), ms[x.val]'(hil x) ∈ ms := fun x => List.getElem_mem _
  have hswo : Sort.SWO (Proofs.ltOf cf) := by
    refine ⟨fun x => ?_, fun x y z g1 g2 => ?_, fun x y z g1 g2 => ?_⟩
    · simp only [Proofs.ltOf, hcfe, decide_eq_false_iff_not]; exact hirr _ (hmem x)
    · simp only [Proofs.ltOf, hcfe, decide_eq_true_eq] at *; exact htr _ _ _ (hmem x) (hmem y) (hmem z) g1 g2
    · simp only [Proofs.ltOf, hcfe, decide_eq_false_iff_not] at *; exact hnt _ _ _ (hmem x) (hmem y) (hmem z) g1 g2
  have hencT : ∀ (i : Fin (m + 1)) (j : Nat), j < k → (enc i).toArray.getD j undef = arr.getD (i.val * k + j) undef := fun i j hj => by
    rw [← henc]; simp [Array.getD_eq_getD_getElem?, hj]
  have hcmpL : Proofs.CmpLays P g cvs enc k cf blk 0 (m + 1) w := by
    intro m' os dk hdk x y
    generalize hW : Proofs.sortWorldK enc k w blk 0 m' dk os = W
    have hWh : W.heap = w.heap.modify blk (Sort.onCells (Sort.putCells id 0 (Sort.flatK enc k dk))) ++ os := by rw [← hW]; rfl
    have hWsz : w.heap.size ≤ W.heap.size := by rw [hWh]; simp
    have hWget : ∀ b', b' ≠ blk → b' < w.heap.size → W.heap[b']? = w.heap[b']? := by
      intro b' hne hlt
      rw [hWh, Array.getElem?_append_left (by simpa using hlt), Array.getElem?_modify, if_neg (fun e => hne e.symm)]
    have hext : Ext G w.heap W.heap := ⟨hWsz, fun b' hb' => hWget b' (fun e => hni (e ▸ hb')) (s.imm b' hb')⟩
    have hle : Ext ⟨G.imm, []⟩ w.heap W.heap := ⟨hWsz, fun b' hb' => hext.keep b' hb'⟩
    have agg : ∀ z : Fin (m + 1), VRel ⟨G.imm, []⟩ W.heap (.agg (c (ms[z.val]'(hil z)))) (.agg (enc z).toArray) := by
      intro z
      refine .agg _ _ (by simp [hencA, hk]) (fun j q hq => ?_)
      obtain ⟨hj, rfl⟩ := List.getElem?_eq_some_iff.1 hq
      rw [hk] at hj
      rw [hencT z j hj]
      exact (hf _ _ (List.getElem_mem _) G w.heap _ (hat z.val j (hil z) hj).2).ext hle
    have rargs : ArgsRel ⟨G.imm, []⟩ W.heap ([.agg (c (ms[x.val]'(hil x))), .agg (c (ms[y.val]'(hil y)))] ++ caps) (#[.agg (enc x).toArray, .agg (enc y).toArray] ++ cvs) := by
      refine ⟨by simp [hcn]; omega, fun j q hq => ?_⟩
      cases j with
      | zero =>
        simp at hq; subst hq
        have e : (#[Value.agg (enc x).toArray, .agg (enc y).toArray] ++ cvs).getD 0 undef = .agg (enc x).toArray := by
          simp only [Array.getD_eq_getD_getElem?]; rw [Array.getElem?_append_left (by simp)]; simp
        rw [e]; exact agg x
      | succ j => cases j with
        | zero =>
          simp at hq; subst hq
          have e : (#[Value.agg (enc x).toArray, .agg (enc y).toArray] ++ cvs).getD 1 undef = .agg (enc y).toArray := by
            simp only [Array.getD_eq_getD_getElem?]; rw [Array.getElem?_append_left (by simp)]; simp
          rw [e]; exact agg y
        | succ j =>
          have hq' : caps[j]? = some q := by simpa using hq
          have e : (#[Value.agg (enc x).toArray, .agg (enc y).toArray] ++ cvs).getD (j + 2) undef = cvs.getD j undef := by
            simp only [Array.getD_eq_getD_getElem?]; rw [Array.getElem?_append_right (by simp)]; simp
          rw [e]
          exact (hcap q (List.mem_of_getElem? hq') G w.heap _ (hcv j q hq')).ext hle
    refine ((hcmp _ _ (hmem x) (hmem y)).2 G.imm W _ (fun b' hb' => Nat.lt_of_lt_of_le (s.imm b' hb') hWsz) rargs).mono ?_
    rintro e w' ⟨imm', v, rfl, _, _, hbel, hv⟩
    rw [hcfe]
    obtain ⟨q, os', hw'⟩ := grow_of hbel
    refine ⟨?_, q, os', hw'⟩
    cases hv
    rfl
  generalize hd : (List.finRange (m + 1)).toArray = d
  have hdsz : d.size = m + 1 := by rw [← hd]; simp
  have hdg : ∀ t (ht : t < m + 1), d[t]! = ⟨t, ht⟩ := fun t ht => by rw [← hd]; simp [ht]
  have htotm : (m + 1) * k ≤ arr.size := by rw [hm] at hfs; omega
  have hH : Sort.HoldsK enc k w blk 0 d := by
    intro t ht
    rw [Sort.size_flatK, hdsz] at ht
    have htk : t / k < m + 1 := Nat.div_lt_of_lt_mul (by rw [Nat.mul_comm]; exact ht)
    have hmod := Nat.mod_lt t hk0
    have hdm : t / k * k + t % k = t := by rw [Nat.mul_comm]; exact Nat.div_add_mod t k
    refine ⟨?_, ?_⟩
    · rw [Sort.get_flatK enc k d t (by rw [hdsz]; exact ht), hdg _ htk, hencG _ _ hmod]
      simp only [hdm, World.cell?, h1, Option.isSome_none, Bool.false_eq_true, if_false, Nat.zero_add, id]
      rw [Array.getD_eq_getD_getElem?, Array.getElem?_eq_getElem (by omega)]
      rfl
    · simp only [World.frozen?, h1]
      simp
  have hrun := hsort enc hencA henc1 cf hswo cvs blk 0 cap d w (by rw [hdsz]; exact hcmpL) hH hblk (by rw [hdsz]; exact hbig)
  rw [hdsz] at hrun
  rw [hm]
  refine hrun.mono ?_
  rintro e w' ⟨rfl, d', n, os, ⟨hp1, hp2, hp3⟩, hsrt, hw'⟩
  have hd'sz : d'.size = m + 1 := by rw [hp1, hdsz]
  rw [Array.extract_eq_self_of_le (by omega), Array.extract_eq_self_of_le (by omega)] at hp3
  generalize hms' : (d'.toList.map fun z : Fin (m + 1) => ms[z.val]'(hil z)) = ms'
  have hms'l : ms'.length = m + 1 := by rw [← hms']; simp [hd'sz]
  have hms'g : ∀ (i : Nat) (hi : i < m + 1), ms'[i]'(by omega) = ms[(d'[i]'(by omega)).val]'(hil _) := by
    intro i hi
    simp only [← hms', List.getElem_map, Array.getElem_toList]
  have hperm : ms'.Perm ms := by
    rw [← hms']
    have h1 := hp3.map fun z : Fin (m + 1) => ms[z.val]'(hil z)
    have h2 : (d.toList.map fun z : Fin (m + 1) => ms[z.val]'(hil z)) = ms := by
      rw [← hd]
      apply List.ext_getElem
      · simp [hm]
      · intro i hi hi'
        simp
    rw [h2] at h1
    exact h1
  have hpw : ms'.Pairwise (fun x y => ¬ ord y x < 0) := by
    rw [List.pairwise_iff_getElem]
    intro i j hi hj hij
    have := hsrt i j (Nat.zero_le _) hij (by omega)
    rw [getElem!_pos d' j (by omega), getElem!_pos d' i (by omega)] at this
    simp only [Proofs.ltOf, hcfe, decide_eq_false_iff_not] at this
    rw [hms'g i (by omega), hms'g j (by omega)]
    exact this
  -- the written row
  have hW0 : ∃ w1, w1 = Sort.putRow id (Sort.ahead w n) blk 0 (Sort.flatK enc k d') := ⟨_, rfl⟩
  obtain ⟨w1, hw1⟩ := hW0
  have hput : w1.heap[blk]? = some (.cells (Sort.putCells id 0 (Sort.flatK enc k d') arr) el (0, 0)) := by
    rw [hw1]
    show (w.heap.modify blk (Sort.onCells _))[blk]? = _
    rw [Array.getElem?_modify, if_pos rfl, h1]; rfl
  have hoth : ∀ j, j ≠ blk → w1.heap[j]? = w.heap[j]? := by
    intro j hj
    rw [hw1]
    show (w.heap.modify blk (Sort.onCells _))[j]? = _
    rw [Array.getElem?_modify, if_neg (fun e => hj e.symm)]
  have hsz1 : w1.heap.size = w.heap.size := by
    rw [hw1]
    show (w.heap.modify blk (Sort.onCells _)).size = _
    simp
  have hfs' := flatten_size c k hk ms'
  have st1 : Stp G mu w G (mu.set b (.arr (ms'.map c).flatten)) w1 := by
    refine Stp.write (hdr := by rw [hw1]; exact Nat.le_add_right _ _) s b (.arr (ms.map c).flatten) _ blk tot _ hc (by simp) (by simp) hb hsz1 hput hoth (by rw [hw1]; rfl) (by rw [hw1]; rfl) (by rw [hw1]; rfl) ?_
    refine ⟨_, el, rfl, by simp [Sort.putCells, h2], by rw [hfs', hms'l]; omega, fun t y hy => ?_⟩
    have ht : t < (m + 1) * k := by
      have := (List.getElem?_eq_some_iff.1 hy).1
      rw [hfs', hms'l] at this; exact this
    have htk : t / k < m + 1 := Nat.div_lt_of_lt_mul (by rw [Nat.mul_comm]; exact ht)
    have hmod := Nat.mod_lt t hk0
    have hdm : t / k * k + t % k = t := by rw [Nat.mul_comm]; exact Nat.div_add_mod t k
    have hfa := flatten_at c k hk ms' (t / k) (t % k) (by omega) hmod
    rw [hdm, hy, hms'g _ htk, List.getElem?_eq_getElem (by rw [hk]; exact hmod)] at hfa
    cases hfa
    have hpc : (Sort.putCells id 0 (Sort.flatK enc k d') arr).getD t undef = arr.getD ((d'[t / k]'(by omega)).val * k + t % k) undef := by
      have htl : t < arr.size := by omega
      rw [Array.getD_eq_getD_getElem?, Sort.putCells, Array.getElem?_mapIdx, Array.getElem?_eq_getElem htl]
      simp only [Option.map_some, Option.getD_some, id, Nat.zero_add, Nat.sub_zero, Nat.zero_le, true_and]
      rw [if_pos (by rw [Sort.size_flatK, hd'sz]; exact ht), Sort.get_flatK enc k d' t (by rw [hd'sz]; exact ht), getElem!_pos d' (t / k) (by omega), hencG _ _ hmod]
    rw [hpc]
    exact hat _ _ (hil _) hmod
  have st2 := st1.trans s (Stp.grow st1.sim os)
  have hw2 : w' = Sort.grow w1 os := by rw [hw', hw1]; rfl
  rw [← hw2] at st2
  exact ⟨G, _, st2, .inl ⟨_, _, ⟨rfl, ms', hperm, hpw, rfl⟩, rfl, .tup [] #[] rfl (by simp)⟩⟩

end Go.Ev

set_option linter.unusedVariables false
set_option linter.unusedSimpArgs false
set_option maxRecDepth 100000
namespace Go.Proofs.YtfniceomhfebhaaGreat.M9
open Go Go.Ev Go.Proofs C1 C2 C3 C4 C5 C6 C7 C8 C9 C10 C11 C12 C13 C14 C15 C16 C17 C18 C19 C20 C21 C22 C23 C24 C25 C26 C27 C28 C29 C30 C31 C32 C33 C34 C35 M1 M2 M3 M4 M5 M6 M7 L20

/-! ### slices.SortFunc at models -/
theorem okOrd.len {free : List (Int × Int)} {n : Nat} {a c : Md} (ha : okOrd free n a) (hc : okOrd free n c) : (kv free a).length = (kv free c).length := by
  have key : ∀ (us : List (List Rl)), (us.flatMap (kvS free)).length = us.length * free.length := by
    intro us
    induction us with
    | nil => simp
    | cons x us ih => simp only [List.flatMap_cons, List.length_append, ih, kvS, List.length_map, List.length_cons, Nat.add_mul]; omega
  simp only [kv, List.length_cons, key, ha.ns, hc.ns]
theorem ordI_ok {free : List (Int × Int)} {n : Nat} {a c : Md} (ha : okOrd free n a) (hc : okOrd free n c) : ordI free a c = lexS (kv free a) (kv free c) := ordI_lex free a c (by rw [ha.ns, hc.ns])
theorem sortMdU (free : List (Int × Int)) (n : Nat) (hn : n ≤ 1000000) (hfl : free.length ≤ 1000000000) {mu : Mu} {b : Nat} (ms : List Md) (hne : ms ≠ []) (hbig : ms.length ≤ 1000000000) (ho : ∀ m, m ∈ ms → okOrd free n m) (hc : mu[b]? = some (.arr (ms.map cMd).flatten)) :
    Sound Tryz.prog 59 [.sl b 4 0 ms.length, ordCl free] mu fun e mu' => e = .ret (.tup []) ∧ ∃ ms' : List Md, ms'.Perm ms ∧ ms'.Pairwise (fun x y => ¬ ordI free y x < 0) ∧ mu' = mu.set b (.arr (ms'.map cMd).flatten) := by
  obtain ⟨m, hm⟩ : ∃ m, ms.length = m + 1 := ⟨ms.length - 1, by
    have : ms.length ≠ 0 := fun h => hne (List.eq_nil_of_length_eq_zero h)
    omega⟩
  refine sortF_sound (g := 53) Tryz.call59 cMd 4 (fun _ => rfl) (by omega) (ordI free) (caps := [.ip [lP free], .ip [.fn (.func 51) [] []]]) (fun x y hy => hf_cMd x y hy) ?_ m ms hm (by omega) ?_ ?_ ?_ ?_ ?_ hc
  · intro y hy
    simp at hy
    rcases hy with rfl | rfl
    · exact hf_ip1 (M7.hf_lP free)
    · exact hf_ip1 (hf_fn0 _)
  · intro x y hx hy
    exact ordU free n hn hfl x y (ho x hx) (ho y hy)
  · intro x hx h
    rw [ordI_ok (ho x hx) (ho x hx)] at h
    have := lexS_swap (kv free x) (kv free x)
    omega
  · intro x y z hx hy hz h1 h2
    rw [ordI_ok (ho _ hx) (ho _ hy)] at h1
    rw [ordI_ok (ho _ hy) (ho _ hz)] at h2
    rw [ordI_ok (ho _ hx) (ho _ hz)]
    exact lexS_lt_trans _ _ _ (okOrd.len (ho _ hx) (ho _ hy)) (okOrd.len (ho _ hy) (ho _ hz)) h1 h2
  · intro x y z hx hy hz h1 h2
    rw [ordI_ok (ho _ hx) (ho _ hy)] at h1
    rw [ordI_ok (ho _ hy) (ho _ hz)] at h2
    rw [ordI_ok (ho _ hx) (ho _ hz)]
    have e1 := lexS_swap (kv free x) (kv free y)
    have e2 := lexS_swap (kv free y) (kv free z)
    have e3 := lexS_swap (kv free x) (kv free z)
    have := lexS_le_trans _ _ _ (okOrd.len (ho _ hz) (ho _ hy)) (okOrd.len (ho _ hy) (ho _ hx)) (by omega) (by omega)
    omega
  · intro enc h1 h2 cf hO cb blk off cap d w h3 h4 h5 h6
    exact AnyQ.slices_SortFunc Tryz.laysSF 4 Tryz.isAgg34 Tryz.sizeOf34 enc h1 h2 cf hO 53 cb blk off cap d w Tryz.call53 h3 h4 h5 h6

end Go.Proofs.YtfniceomhfebhaaGreat.M9

set_option linter.unusedVariables false
set_option linter.unusedSimpArgs false
set_option maxRecDepth 100000
namespace Go.Proofs.YtfniceomhfebhaaGreat.M11
open Go Go.Ev Go.Proofs C1 C2 C3 C4 C5 C6 C7 C8 C9 C10 C11 C12 C13 C14 C15 C16 C17 C18 C19 C20 C21 C22 C23 C24 C25 C26 C27 C28 C29 C30 C31 C32 C33 C34 C35 L20 M1 M2 M3 M4 M5 M6 M7 M9 M10

/-! ### compacting a sorted list -/
structure OrdOn {β : Type} (ord : β → β → Int) (S : β → Prop) : Prop where
  sw : ∀ x y, S x → S y → ord y x = - ord x y
  tr : ∀ x y z, S x → S y → S z → ord x y < 0 → ord y z < 0 → ord x z < 0
  inj : ∀ x y, S x → S y → ord x y = 0 → x = y
theorem cmpGo_ok {β : Type} {ord : β → β → Int} {S : β → Prop} (h : OrdOn ord S) : ∀ (l : List β) (x : β), S x → (∀ y, y ∈ l → S y) → (x :: l).Pairwise (fun a b => ¬ ord b a < 0) →
    (x :: cmpGo (fun a b => decide (ord a b = 0)) x l).Pairwise (fun a b => ord a b < 0) ∧ ∀ z, z ∈ x :: cmpGo (fun a b => decide (ord a b = 0)) x l ↔ z ∈ x :: l
  | [], x, hx, _, _ => by simp [cmpGo]
  | y :: l, x, hx, hl, hp => by
    have hy := hl y (by simp)
    obtain ⟨h1, h2⟩ := List.pairwise_cons.1 hp
    have ih := cmpGo_ok h l y hy (fun z hz => hl z (by simp [hz])) h2
    by_cases e : ord y x = 0
    · have exy := h.inj y x hy hx e
      subst exy
      have e' : cmpGo (fun a b => decide (ord a b = 0)) y (y :: l) = cmpGo (fun a b => decide (ord a b = 0)) y l := by simp [cmpGo, e]
      rw [e']
      refine ⟨ih.1, fun z => ?_⟩
      rw [ih.2 z]; simp
    · have e' : cmpGo (fun a b => decide (ord a b = 0)) x (y :: l) = y :: cmpGo (fun a b => decide (ord a b = 0)) y l := by simp [cmpGo, e]
      rw [e']
      have hlt : ord x y < 0 := by
        have a1 := h1 y (by simp)
        have a2 := h.sw x y hx hy
        omega
      refine ⟨List.pairwise_cons.2 ⟨fun z hz => ?_, ih.1⟩, fun z => ?_⟩
      · rcases List.mem_cons.1 hz with rfl | hz'
        · exact hlt
        · have hz2 := (ih.2 z).1 hz
          have hSz : S z := by
            rcases List.mem_cons.1 hz2 with rfl | hz3
            · exact hy
            · exact hl z (by simp [hz3])
          exact h.tr x y z hx hy hSz hlt ((List.pairwise_cons.1 ih.1).1 z hz')
      · rw [List.mem_cons, ih.2 z, List.mem_cons (a := z) (b := x)]
theorem cmpc_ok {β : Type} {ord : β → β → Int} {S : β → Prop} (h : OrdOn ord S) (l : List β) (hl : ∀ y, y ∈ l → S y) (hp : l.Pairwise (fun a b => ¬ ord b a < 0)) :
    (cmpc (fun a b => decide (ord a b = 0)) l).Pairwise (fun a b => ord a b < 0) ∧ ∀ z, z ∈ cmpc (fun a b => decide (ord a b = 0)) l ↔ z ∈ l := by
  cases l with
  | nil => simp [cmpc]
  | cons x l => exact cmpGo_ok h l x (hl x (by simp)) (fun y hy => hl y (by simp [hy])) hp
theorem ord_unique {β : Type} {ord : β → β → Int} {S : β → Prop} (h : OrdOn ord S) {l m : List β} (hl : ∀ y, y ∈ l → S y) (hm : ∀ y, y ∈ m → S y) (pl : l.Pairwise (fun a b => ord a b < 0)) (pm : m.Pairwise (fun a b => ord a b < 0)) (e : ∀ z, z ∈ l ↔ z ∈ m) : l = m := by
  have nd : ∀ {k : List β}, (∀ y, y ∈ k → S y) → k.Pairwise (fun a b => ord a b < 0) → k.Nodup := by
    intro k
    induction k with
    | nil => intro _ _; exact List.nodup_nil
    | cons x k ih =>
      intro hk hp
      obtain ⟨h1, h2⟩ := List.pairwise_cons.1 hp
      refine List.nodup_cons.2 ⟨fun hx => ?_, ih (fun y hy => hk y (by simp [hy])) h2⟩
      have a1 := h1 x hx
      have a2 := h.sw x x (hk x (by simp)) (hk x (by simp))
      omega
  refine List.Perm.eq_of_pairwise (le := fun a b => ord a b < 0) (fun a b ha hb h1 h2 => ?_) pl pm ((List.perm_ext_iff_of_nodup (nd hl pl) (nd hm pm)).2 e)
  have := h.sw a b (hl a ha) (hm b hb)
  omega

/-! ### orbit.distinct -/
theorem distinct1 (free : List (Int × Int)) (n : Nat) (hn : n ≤ 1000000) (hfl : free.length ≤ 1000000000) (a c : Md) (ha : okOrd free n a) (hc : okOrd free n c) : SoundP Tryz.prog 61 [eMd a, eMd c, .ip [ordCl free]] (aB (decide (ordI free a c = 0))) := by
  refine SoundP.of_sound (Sound.of_awp Tryz.call61 Tryz.func61 rfl (Nat.le_of_ble_eq_true (by kernel_rfl)) (by kernel_rfl) (pl := {}) ?_)
  simp [go_sem]
  refine CallStep.clo (ordU free n hn hfl a c ha hc) (.cons (.hf (hf_eMd _)) (.cons (.hf (hf_eMd _)) (.cons (.hf (hf_ip1 (M7.hf_lP _))) (.cons (.hf (hf_ip1 (hf_fn0 _))) .nil)))) ?_
  simp [go_sem]
  exact .hf _ (HF.sc _)
theorem distinctE (free : List (Int × Int)) (n : Nat) (hn : n ≤ 1000000) (hfl : free.length ≤ 1000000000) {S : Md → Prop} (hS : OrdOn (ordI free) S) {mu : Mu} {b : Nat} (ms : List Md) (hne : ms ≠ []) (hbig : ms.length ≤ 1000000) (ho : ∀ m, m ∈ ms → okOrd free n m) (hs : ∀ m, m ∈ ms → S m) (hc : mu[b]? = some (.arr (ms.map cMd).flatten)) :
    Sound Tryz.prog 37 [.sl b 4 0 ms.length, ordCl free] mu fun e m => ∃ (L : List Md) (cells : List AV), e = .ret (.sl b 4 0 L.length) ∧ m = mu.set b (.arr cells) ∧ cells.length = ms.length * 4 ∧ cells.take (L.length * 4) = (L.map cMd).flatten ∧
      L.length ≤ ms.length ∧ L.Pairwise (fun x y => ordI free x y < 0) ∧ ∀ z, z ∈ L ↔ z ∈ ms := by
  refine Sound.of_awp Tryz.call37 Tryz.func37 rfl (Nat.le_of_ble_eq_true (by kernel_rfl)) (by kernel_rfl) (pl := {}) ?_
  simp [go_sem]
  refine CallStep.eff (caps := []) (sortMdU free n hn hfl ms hne (by omega) ho hc) ?_ ?_
  case refine_2 => rintro r m ⟨e, _⟩; exact absurd e (by simp)
  rintro r m ⟨e, ms', hperm, hsrt, rfl⟩
  cases e
  have hl : ms'.length = ms.length := hperm.length_eq
  have hbl : b < mu.length := (List.getElem?_eq_some_iff.1 hc).1
  simp [go_sem]
  have hcomp := compactE (mu.set b (.arr (ms'.map cMd).flatten)) b ms' (.fn (.func 61) [] [.ip [ordCl free]]) (fun x y => decide (ordI free x y = 0)) ⟨HF.fn (fun c hc => by simp at hc) (fun c hc => by
    simp at hc; subst hc; exact hf_ip1 (hf_ordCl _)), _, _, rfl, fun x y hxy => ⟨_, .cons (.hf (hf_eMd _)) (.cons (.hf (hf_eMd _)) (.cons (.hf (hf_ip1 (hf_ordCl _))) .nil)), distinct1 free n hn hfl x y (ho x (hperm.mem_iff.1 hxy.1)) (ho y (hperm.mem_iff.1 hxy.2))⟩⟩ (by omega) (by simp [hbl])
  rw [hl] at hcomp
  refine CallStep.eff (caps := []) hcomp ?_ ?_
  case refine_2 => rintro r m ⟨_, e, _⟩; exact absurd e (by simp)
  rintro r m ⟨cells, e, rfl, hcl, hct⟩
  cases e
  obtain ⟨k1, k2⟩ := cmpc_ok hS ms' (fun y hy => hs y (hperm.mem_iff.1 hy)) hsrt
  have hlen : (cmpc (fun x y => decide (ordI free x y = 0)) ms').length * 4 ≤ ms'.length * 4 := by
    have := congrArg List.length hct
    rw [List.length_take, flatten_size cMd 4 (fun _ => rfl)] at this
    omega
  simp [go_sem]
  refine ⟨cmpc (fun x y => decide (ordI free x y = 0)) ms', rfl, cells, rfl, by omega, hct, by omega, k1, fun z => ?_⟩
  rw [k2 z, hperm.mem_iff]

/-! ### orbit.Orbit -/
theorem AppendStep.ownC {P : Program} {mu : Mu} {t t' e sz bt : Nat} {s x : AV} {xs : List (List AV)} {y : List AV} {zv : AV} {K : AV → Mu → Prop} (hs : sliceOf P t = some (e, sz, bt)) (hs' : (sliceOf P t').isSome = true) (hz : zeroOf P e = some zv)
    (hz1 : zv.cells.length = sz) (hz2 : zv.cells.all AV.one = true) (hz0 : sz ≠ 0) (hb : bt ≤ 16384) (ho : Own mu sz s xs) (hx : rowsOf mu x = some [y]) (wx : rowsWf sz xs) (wy : rowsWf sz [y]) (hl : xs.length + 1 ≤ 4294967296)
    (k : ∀ b mu', b = mu.length → mu'[b]? = some (.arr (xs ++ [y]).flatten) → (∀ i, i < mu.length → blkOf s ≠ some i → mu'[i]? = mu[i]?) → K (.sl b sz 0 (xs.length + 1)) mu') : AppendStep P mu #[t, t'] s x K := by
  refine .inl ?_
  refine ⟨t, t', e, sz, bt, [y], rfl, hs, hs', ⟨zv, hz, hz1, hz2⟩, hz0, hb, hx, wy, ?_⟩
  rcases ho with rfl | ⟨b, rfl, hc⟩
  · refine .inl ⟨xs, rfl, wx, by simpa using hl, fun h => by simp at h, fun h => ?_⟩
    have := k mu.length (mu ++ [.arr (xs ++ [y]).flatten]) rfl (by simp) (fun i hi _ => by rw [List.getElem?_append_left hi])
    simpa using this
  · have hfl := flatten_len wx.ok
    refine .inr ⟨b, xs.length, xs.flatten, rfl, hc, by omega, by simpa using hl, ?_⟩
    have htk : xs.flatten.take (xs.length * sz) = xs.flatten := List.take_of_length_le (by omega)
    have := k mu.length (mu.set b .dead ++ [.arr (xs ++ [y]).flatten]) rfl (by rw [List.getElem?_append_right (by simp)]; simp) (fun i hi hne => by
      rw [List.getElem?_append_left (by simpa using hi)]
      rw [List.getElem?_set_ne (fun e => hne (by rw [e]; rfl))])
    rw [htk]
    simpa using this
def OwnT (M : Mu) (av : AV) (xs : List Md) : Prop := (xs = [] ∧ av = .lst true []) ∨ ∃ b, 1 ≤ b ∧ av = .sl b 4 0 xs.length ∧ M[b]? = some (.arr (xs.map cMd).flatten)
theorem OwnT.own {M : Mu} {av : AV} {xs : List Md} (h : OwnT M av xs) : Own M 4 av (xs.map cMd) ∧ blkOf av ≠ some 0 := by
  rcases h with ⟨rfl, rfl⟩ | ⟨b, hb, rfl, hc⟩
  · exact ⟨.inl rfl, by simp [blkOf]⟩
  · exact ⟨.inr ⟨b, by simp, hc⟩, by simp [blkOf]; omega⟩
theorem OwnT.push {M : Mu} {av : AV} {xs : List Md} (h : OwnT M av xs) (c : List Cell) : OwnT (M ++ c) av xs := by
  rcases h with ⟨rfl, rfl⟩ | ⟨b, hb, rfl, hc⟩
  · exact .inl ⟨rfl, rfl⟩
  · exact .inr ⟨b, hb, rfl, by rw [List.getElem?_append_left (List.getElem?_eq_some_iff.1 hc).1]; exact hc⟩
theorem orbitU (sp : Sp) (bs : List Bd) (m : Md) (gs : List (List Int)) (n : Nat) (g : GrpO sp bs m gs n) (hne : gs ≠ []) {S : Md → Prop} (hO : OrdOn (ordI (freeL bs 0)) S) (hS : ∀ p, p ∈ gs → S (mdImg p m)) (hgl : gs.length ≤ 1000000) (L : List Md) (hL : L.Pairwise (fun x y => ordI (freeL bs 0) x y < 0)) (hLm : ∀ z, z ∈ L ↔ z ∈ gs.map fun p => mdImg p m) :
    SoundP Tryz.prog 15 [eSp sp, lBd bs, eMd m] (lMd L) := by
  refine SoundP.of_sound (Sound.of_awp Tryz.call15 Tryz.func15 rfl (Nat.le_of_ble_eq_true (by kernel_rfl)) (by kernel_rfl) (pl := {}) ?_)
  simp [go_sem]
  refine CallStep.pure (imagesU sp bs m) (.cons (.hf (hf_eSp sp)) (.cons (.hf (hf_lBd _)) (.cons (.hf (hf_eMd _)) .nil))) ?_
  simp [go_sem]
  refine RangeGo.keep (images_iter sp bs m gs g.grp g.len g.gp g.ok) (fun k M => ∃ av rest, M = .arr [av] :: rest ∧ OwnT M av ((gs.take k).map fun p => mdImg p m)) (fun _ _ => False) ?_ ?_ ?_ ?_ ?_ ?_
  · exact ⟨.lst true [], _, by simp only [put_mu, List.cons_append]; rfl, .inl ⟨rfl, rfl⟩⟩
  · rintro k M ⟨av, rest, rfl, h⟩
    exact ⟨av, rest ++ [.dead], rfl, OwnT.push h _⟩
  · intro e M h; exact h
  · rintro k x M hk ⟨av, rest, rfl, ho⟩
    rw [List.getElem?_map, Option.map_eq_some_iff] at hk
    obtain ⟨p, hp, rfl⟩ := hk
    have hlt : k < gs.length := (List.getElem?_eq_some_iff.1 hp).1
    have htk : gs.take (k + 1) = gs.take k ++ [p] := by rw [List.take_add_one, hp]; rfl
    obtain ⟨ho1, hn0⟩ := OwnT.own ho
    refine ⟨rfl, ?_⟩
    simp [go_sem]
    refine AppendStep.ownC (e := 34) (sz := 4) (bt := 64) (zv := .agg [.lst true [], aI 0, .lst true [], aI 0]) (xs := ((gs.take k).map fun p => mdImg p m).map cMd) (y := cMd (mdImg p m)) (by simp [go_sem]) (by simp [go_sem]) (by simp [go_sem]) rfl rfl (by omega) (by omega) (Own.push ho1 _) (by simp [rowsOf]) (rows_cMd _) (rows_cMd [_]) (by simp; omega) ?_
    intro b mu' hbe hcb hs'
    have hb0 : 1 ≤ b := by rw [hbe]; simp
    have hm0 := hs' 0 (by simp) hn0
    obtain ⟨rest3, rfl⟩ : ∃ rest3, mu' = .arr [av] :: rest3 := by
      cases mu' with
      | nil => simp at hm0
      | cons c r => simp at hm0; exact ⟨r, by rw [hm0]⟩
    have av1 : av.one = true := Own.one ho1
    simp [go_sem]
    refine KeepM.intro ⟨_, rest3, rfl, .inr ⟨b, hb0, ?_, ?_⟩⟩
    · simp; omega
    · rw [htk, List.map_append, List.map_append]
      obtain ⟨b', rfl⟩ : ∃ b', b = b' + 1 := ⟨b - 1, by omega⟩
      simpa using hcb
  · rintro M ⟨av, rest, rfl, ho⟩
    rw [List.length_map, List.take_length] at ho
    rcases ho with ⟨h, _⟩ | ⟨b, hb, rfl, hc⟩
    · exact absurd (List.map_eq_nil_iff.1 h) hne
    simp [go_sem]
    refine DrawGo.tail 3 (by kernel_rfl) ?_
    simp [go_sem]
    refine CallStep.pure (orderU bs g.nb g.free) (.cons (.hf (hf_lBd _)) .nil) ?_
    simp [go_sem]
    have hd := distinctE (freeL bs 0) n g.n4 g.fl hO (b := b) (gs.map fun p => mdImg p m) (by simpa using hne) (by simpa using hgl) (fun x hx => by
      obtain ⟨p, hp, rfl⟩ := List.mem_map.1 hx
      exact g.img p hp) (fun x hx => by
      obtain ⟨p, hp, rfl⟩ := List.mem_map.1 hx
      exact hS p hp) hc
    rw [List.length_map] at hd hc
    refine CallStep.eff (caps := []) hd ?_ ?_
    case refine_2 => rintro r m ⟨_, _, e, _⟩; exact absurd e (by simp)
    rintro r m' ⟨L', cells, e, rfl, hcl, hct, hle, hp', hm'⟩
    cases e
    have hLL : L' = L := ord_unique hO (fun y hy => by
      obtain ⟨p, hp, rfl⟩ := List.mem_map.1 ((hm' y).1 hy)
      exact hS p hp) (fun y hy => by
      obtain ⟨p, hp, rfl⟩ := List.mem_map.1 ((hLm y).1 hy)
      exact hS p hp) hp' hL (fun z => by rw [hm' z, hLm z])
    subst hLL
    simp [go_sem]
    have hbl : b < (Cell.arr [AV.sl b 4 0 gs.length] :: rest).length := (List.getElem?_eq_some_iff.1 hc).1
    refine Rd.sl b 4 0 L'.length cells (L'.map cMd) (List.getElem?_set_self hbl) (by omega) (by simp) (fun r hr => (rows_cMd _ r hr).1) ?_
    intro j x y hx hy
    have hj : j < L'.length * 4 := by
      have := (List.getElem?_eq_some_iff.1 hy).1
      rw [flatten_size cMd 4 (fun _ => rfl)] at this; exact this
    rw [← hct, List.getElem?_take, if_pos hj] at hy
    rw [Nat.zero_add, hy] at hx
    cases hx
    rw [← List.getElem?_take_of_lt hj, hct] at hy
    obtain ⟨r, hr, hxr⟩ := List.mem_flatten.1 (List.mem_of_getElem? hy)
    obtain ⟨q, _, rfl⟩ := List.mem_map.1 hr
    exact .hf _ (hf_cMd q _ hxr)
  · intro e M h; exact h.elim
end Go.Proofs.YtfniceomhfebhaaGreat.M11

set_option linter.unusedVariables false
set_option linter.unusedSimpArgs false
set_option maxRecDepth 100000
namespace Go.Proofs.YtfniceomhfebhaaGreat.N10
open Go Go.Ev Go.Proofs C1 C2 C3 C4 C5 C6 C7 C8 C9 C10 C11 C12 C13 C14 C15 C16 C17 C18 C19 C20 C21 C22 C23 C24 C25 C26 C27 C28 C29 C30 C31 C32 C33 C34 C35 L1 L2 L3 L4 L5 L6 L7 L8 L9 L10 L11 L12 L13 L14 L15 L16 L17 L20 L21 M1 M2 M3 M4 M5 M6 M7 M9 M10 M11 N1 N2 N3 N4 N5 N6 N7 N8 N9 R1 R2 R3 R4 R5 R6

/-! ### what Fits says -/
theorem validOk_grel {N : Nat} {n : Int} (hn : n = N) {r : Rl} (h : validOk n r = true) (hl : r.ts.length ≤ 2000) : GRel N r := by
  subst hn
  simp only [validOk, Bool.and_eq_true, decide_eq_true_eq, List.all_eq_true] at h
  obtain ⟨⟨⟨⟨⟨h3, h4⟩, h5⟩, h6⟩, h7⟩, h8⟩ := h
  refine ⟨h5, h6, hl, fun t ht => ?_, h8⟩
  have := h7 t ht
  unfold powI powN at this
  rw [Int.min_eq_left h6] at this
  exact this
theorem grel_validOk {N : Nat} (hN12 : N ≤ 12) {n : Int} (hn : n = N) {r : Rl} (g : GRel N r) : validOk n r = true := by
  subst hn
  simp only [validOk, Bool.and_eq_true, decide_eq_true_eq, List.all_eq_true]
  refine ⟨⟨⟨⟨⟨by omega, by omega⟩, g.ar1⟩, g.ar3⟩, fun t ht => ?_⟩, g.srt⟩
  have := g.val t ht
  unfold powI
  rw [show powN r.ar = r.ar.toNat by have := g.ar3; unfold powN; omega]
  exact this
theorem within_sub {sc : Sc} {sorts : List Int} {a b : Rl} (h : inOk a b = true) (w : withinOk sc sorts b = true) : withinOk sc sorts a = true := by
  unfold inOk at h
  unfold withinOk at w ⊢
  rw [List.all_eq_true] at h w ⊢
  intro t ht
  exact w t (by simpa using h t ht)
theorem fv_fit {sp : Sp} {bs : List Bd} {m : Md} (h : FVal sp bs m) : ∃ N, Fit sp m.sc bs 5 N := by
  refine Fit.of ?_
  have hs := h.v.sc
  have h' := hs
  simp only [scopeOk, Bool.and_eq_true, decide_eq_true_eq] at h'
  simp only [fitsOk, Bool.and_eq_true, decide_eq_true_eq, all_iff_get]
  refine ⟨⟨⟨⟨⟨by omega, hs⟩, h.le⟩, h.b.bl⟩, by have := h.b.bl; have := h.f2; omega⟩, fun i hi => ?_⟩
  simp only [List.length_zip] at hi
  have hb : i < bs.length := by omega
  obtain ⟨hf, c⟩ := h.b.cell i hb
  simp only [List.getElem_zip, fit1, sideOk, Bool.and_eq_true, decide_eq_true_eq]
  have hll := c.ll
  have hlu := c.lu
  exact ⟨⟨⟨h.v.fld i hf, ⟨⟨⟨c.al, by omega⟩, c.vl⟩, within_sub c.lu' c.wu⟩⟩, ⟨⟨⟨c.au, by omega⟩, c.vu⟩, c.wu⟩⟩, c.lu'⟩
theorem fv_grel {sp : Sp} {bs : List Bd} {m : Md} (h : FVal sp bs m) {N : Nat} (hN : sumI m.sc.atoms = N) {s i : Nat} (hs : s < m.states.length) (hi : i < m.states[s].length) : GRel N m.states[s][i] := by
  have hl := h.v.len s hs
  have hf : i < sp.fields.length := by omega
  exact validOk_grel hN (h.v.cell s i hs hf).2.1 (by have := (h.sm.st s hs).2 i hi; omega)
theorem fv_gmd {sp : Sp} {bs : List Bd} {m : Md} (h : FVal sp bs m) {N : Nat} (hN : sumI m.sc.atoms = N) : GMd N m := by
  intro s hs r hr
  obtain ⟨i, hi, rfl⟩ := List.getElem_of_mem hs
  obtain ⟨j, hj, rfl⟩ := List.getElem_of_mem hr
  exact fv_grel h hN hi hj
theorem fv_sm {sp : Sp} {bs : List Bd} {m : Md} (h : FVal sp bs m) : smMd m := by
  refine ⟨by have := h.sm.na; omega, by have := h.sm.nt; omega, fun s hs => ?_, fun s hs r hr => ?_⟩
  · obtain ⟨i, hi, rfl⟩ := List.getElem_of_mem hs
    have := (h.sm.st i hi).1; omega
  · obtain ⟨i, hi, rfl⟩ := List.getElem_of_mem hs
    obtain ⟨j, hj, rfl⟩ := List.getElem_of_mem hr
    have := (h.sm.st i hi).2 j hj; omega
theorem fv_img {sp : Sp} {bs : List Bd} {m : Md} (h : FVal sp bs m) {N : Nat} (F : Fit sp m.sc bs 5 N) {p : List Int} (hp : p ∈ grpS sp m.sc N bs) : FVal sp bs (mdImg p m) := by
  have hN := F.hN
  have hm := (mem_grp F).1 hp
  have hpp := hm.1.perm
  have hcl := hm.1.cl
  have len1 : (mdImg p m).states.length = m.states.length := mdImg_states p m
  have get1 : ∀ (s : Nat) (hs : s < (mdImg p m).states.length) (hs' : s < m.states.length), (mdImg p m).states[s] = m.states[s].map (relImg p) := fun s hs hs' => by simp [mdImg]
  have get2 : ∀ (s i : Nat) (hs : s < (mdImg p m).states.length) (hi : i < (mdImg p m).states[s].length) (hs' : s < m.states.length) (hi' : i < m.states[s].length), (mdImg p m).states[s][i] = relImg p m.states[s][i] := fun s i hs hi hs' hi' => by simp [mdImg]
  have lens : ∀ (s : Nat) (hs : s < (mdImg p m).states.length) (hs' : s < m.states.length), (mdImg p m).states[s].length = m.states[s].length := fun s hs hs' => by rw [get1 s hs hs', List.length_map]
  have fixB : ∀ (i : Nat) (hb : i < bs.length), relImg p bs[i].lo = bs[i].lo ∧ relImg p bs[i].up = bs[i].up := by
    intro i hb
    have e1 : bs[i].lo ∈ relsOf bs := List.mem_flatMap.2 ⟨_, List.getElem_mem hb, by simp⟩
    have e2 : bs[i].up ∈ relsOf bs := List.mem_flatMap.2 ⟨_, List.getElem_mem hb, by simp⟩
    exact ⟨((relImg_iff hpp (F.g _ e1)).2 (hcl _ e1)).symm, ((relImg_iff hpp (F.g _ e2)).2 (hcl _ e2)).symm⟩
  refine ⟨h.f1, h.f2, h.f3, h.f4, ?_, ?_, h.le, ?_⟩
  · refine ⟨h.sm.ns, h.sm.nf, by rw [len1]; exact h.sm.nt, h.sm.na, fun i hi => ?_, h.sm.fs⟩
    have hi' : i < m.states.length := by rw [len1] at hi; exact hi
    refine ⟨by rw [lens i hi hi']; exact (h.sm.st i hi').1, fun j hj => ?_⟩
    have hj' : j < m.states[i].length := by rw [lens i hi hi'] at hj; exact hj
    rw [get2 i j hi hj hi' hj', img_len]
    exact (h.sm.st i hi').2 j hj'
  · refine ⟨h.v.sc, by rw [len1]; exact h.v.ns, h.v.l0, h.v.l1, h.v.fld, fun s hs => ?_, fun s i hs hi => ?_⟩
    · have hs' : s < m.states.length := by rw [len1] at hs; exact hs
      rw [lens s hs hs']; exact h.v.len s hs'
    · have hs' : s < m.states.length := by rw [len1] at hs; exact hs
      have hi' : i < m.states[s].length := by rw [h.v.len s hs']; exact hi
      have hi2 : i < (mdImg p m).states[s].length := by rw [lens s hs hs']; exact hi'
      obtain ⟨c1, c2, c3, c4⟩ := h.v.cell s i hs' hi
      have gr := fv_grel h hN hs' hi'
      unfold cellOk
      rw [get2 s i hs hi2 hs' hi']
      refine ⟨c1, grel_validOk F.le12 hN (img_grel hpp gr), img_within F.u.g hN hpp hm.1.keep gr c1.symm c3, fun hv => ?_⟩
      have := c4 hv
      have h0 : 0 < m.states.length := by omega
      rw [List.getElem?_eq_getElem h0, Option.bind_some] at this
      rw [List.getElem?_eq_getElem (by rw [len1]; exact h0), Option.bind_some, get1 0 (by rw [len1]; exact h0) h0, List.getElem?_map, this]
      rfl
  · refine ⟨h.b.bl, fun i hb => ?_⟩
    obtain ⟨hf, c⟩ := h.b.cell i hb
    refine ⟨hf, ⟨c.ll, c.lu, c.al, c.au, c.vl, c.vu, c.lu', c.wu, fun s hs => ?_⟩⟩
    have hs' : s < m.states.length := by rw [len1] at hs; exact hs
    obtain ⟨hi', k1, k2⟩ := c.st s hs'
    have hi2 : i < (mdImg p m).states[s].length := by rw [lens s hs hs']; exact hi'
    refine ⟨hi2, ?_, ?_⟩
    all_goals
      rw [get2 s i hs hi2 hs' hi']
    all_goals have har := (h.v.cell s i hs' hf).1
    · have e := (fixB i hb).1
      unfold inOk at k1 ⊢
      rw [List.all_eq_true] at k1 ⊢
      intro t ht
      rw [← e] at ht
      rw [decide_eq_true_eq]
      exact img_in (by rw [c.al, har]) (fun t ht => by simpa using k1 t ht) t ht
    · have e := (fixB i hb).2
      unfold inOk at k2 ⊢
      rw [List.all_eq_true] at k2 ⊢
      intro t ht
      rw [decide_eq_true_eq, ← e]
      exact img_in (by rw [c.au, har]) (fun t ht => by simpa using k2 t ht) t ht

/-! ### what the program's functions ask for -/
theorem grp_gp {sp : Sp} {sc : Sc} {bs : List Bd} {N : Nat} (F : Fit sp sc bs 5 N) {p : List Int} (hp : p ∈ grpS sp sc N bs) (h1 : 1 ≤ N) : GP p := by
  have h := ((mem_grp F).1 hp).1.perm
  have := F.le12
  have hl := h.len
  exact ⟨by omega, by omega, fun x hx => by have := h.rng x hx; omega⟩
theorem grp_len {sp : Sp} {sc : Sc} {bs : List Bd} {N : Nat} (F : Fit sp sc bs 5 N) : (grpS sp sc N bs).length ≤ 46656 := by
  have h1 := extG_len N (stableS sp sc bs).1 (consB N (relsOf bs)) N []
  have hN6 : N ≤ 6 := by have := F.le; omega
  have h2 : N ^ N ≤ 6 ^ 6 := Nat.le_trans (Nat.pow_le_pow_left hN6 N) (Nat.pow_le_pow_right (by omega) hN6)
  unfold grpS
  simp at h2; omega
theorem fv_okMd {sp : Sp} {bs : List Bd} {m : Md} (h : FVal sp bs m) {N : Nat} (F : Fit sp m.sc bs 5 N) : okMd m := by
  have hs := fv_sm h
  refine ⟨hs.ns, hs.nf, fun s hs r hr => ?_⟩
  have g := fv_gmd h F.hN s hs r hr
  have h12 := F.le12
  refine ⟨by have := g.ar1; omega, g.ar3, by have := g.len; omega, fun t ht => ?_⟩
  have := GRel.small (n := (N : Int)) (by omega) g (by omega) t ht
  omega
theorem mem_freeL {i : Int} {t : Int} : ∀ {bs : List Bd} {k : Nat}, (i, t) ∈ freeL bs k ↔ ∃ (j : Nat) (hj : j < bs.length), i = ((k + j : Nat) : Int) ∧ t ∈ freeTs bs[j]
  | [], k => by simp [freeL]
  | b :: l, k => by
    rw [freeL, List.mem_append, mem_freeL (bs := l) (k := k + 1)]
    constructor
    · rintro (h | ⟨j, hj, rfl, ht⟩)
      · simp only [freeAt, List.mem_map, Prod.mk.injEq] at h
        obtain ⟨u, hu, e1, rfl⟩ := h
        exact ⟨0, by simp, by omega, hu⟩
      · exact ⟨j + 1, by simpa using hj, by omega, ht⟩
    · rintro ⟨j, hj, e, ht⟩
      cases j with
      | zero => exact .inl (by simp only [freeAt, List.mem_map, Prod.mk.injEq]; exact ⟨t, ht, by simp at e; omega, rfl⟩)
      | succ j => exact .inr ⟨j, by simpa using hj, by omega, ht⟩
theorem mem_freeTs {b : Bd} {t : Int} : t ∈ freeTs b ↔ t ∈ b.up.ts ∧ ¬ t ∈ b.lo.ts := by
  simp [freeTs]
theorem fv_ord {sp : Sp} {bs : List Bd} {m : Md} (h : FVal sp bs m) : okOrd (freeL bs 0) m.states.length m := by
  refine ⟨rfl, fun s hs => ⟨fun f hf => ?_, fun r hr => ?_⟩⟩
  · obtain ⟨j, hj, e, _⟩ := mem_freeL.1 hf
    obtain ⟨i, hi, rfl⟩ := List.getElem_of_mem hs
    have := h.v.len i hi
    have := h.b.bl
    omega
  · obtain ⟨i, hi, rfl⟩ := List.getElem_of_mem hs
    obtain ⟨j, hj, rfl⟩ := List.getElem_of_mem hr
    have hl := h.v.len i hi
    have hv := (h.v.cell i j hi (by omega)).2.1
    exact ⟨by have := (h.sm.st i hi).2 j hj; omega, sorted_le (validOk_srt hv)⟩
/-- models within the same bounds, of the same scope -/
structure InS (sp : Sp) (bs : List Bd) (sc : Sc) (n : Nat) (m : Md) : Prop where
  f : FVal sp bs m
  sc : m.sc = sc
  ns : m.states.length = n
theorem InS.own {sp : Sp} {bs : List Bd} {m : Md} (h : FVal sp bs m) : InS sp bs m.sc m.states.length m := ⟨h, rfl, rfl⟩
theorem InS.img {sp : Sp} {bs : List Bd} {sc : Sc} {n : Nat} {m : Md} (h : InS sp bs sc n m) {N : Nat} (F : Fit sp sc bs 5 N) {p : List Int} (hp : p ∈ grpS sp sc N bs) : InS sp bs sc n (mdImg p m) := by
  obtain ⟨h1, rfl, rfl⟩ := h
  exact ⟨fv_img h1 F hp, rfl, mdImg_states p m⟩
theorem InS.ord {sp : Sp} {bs : List Bd} {sc : Sc} {n : Nat} {m : Md} (h : InS sp bs sc n m) : okOrd (freeL bs 0) n m := by
  obtain ⟨h1, rfl, rfl⟩ := h
  exact fv_ord h1
theorem flatMap_inj {α β : Type} (f g : α → List β) (n : Nat) (hf : ∀ a, (f a).length = n) (hg : ∀ a, (g a).length = n) : ∀ (l m : List α), l.length = m.length → l.flatMap f = m.flatMap g → ∀ (i : Nat) (hi : i < l.length) (hj : i < m.length), f l[i] = g m[i]
  | [], _, _, _, i, hi, _ => by simp at hi
  | a :: l, [], h, _, _, _, _ => by simp at h
  | a :: l, b :: m, h, e, i, hi, hj => by
    simp only [List.flatMap_cons] at e
    obtain ⟨e1, e2⟩ := List.append_inj e (by rw [hf, hg])
    cases i with
    | zero => exact e1
    | succ i => exact flatMap_inj f g n hf hg l m (by simpa using h) e2 i (by simpa using hi) (by simpa using hj)
theorem bitI_iff {r s : Rl} {t : Int} : bitI r t = bitI s t ↔ (t ∈ r.ts ↔ t ∈ s.ts) := by
  unfold bitI
  by_cases h1 : t ∈ r.ts <;> by_cases h2 : t ∈ s.ts <;> simp [h1, h2]
theorem relG_eq {s : List Rl} {i : Nat} (h : i < s.length) : relG s (i : Int) = s[i] := by
  unfold relG
  rw [Int.toNat_natCast, List.getD_eq_getElem?_getD, List.getElem?_eq_getElem h]; rfl
theorem kv_inj {sp : Sp} {bs : List Bd} {sc : Sc} {n : Nat} {x y : Md} (hx : InS sp bs sc n x) (hy : InS sp bs sc n y) (h : kv (freeL bs 0) x = kv (freeL bs 0) y) : x = y := by
  obtain ⟨fx, sx, nx⟩ := hx
  obtain ⟨fy, sy, ny⟩ := hy
  simp only [kv, List.cons.injEq] at h
  obtain ⟨h1, h2⟩ := h
  have hall := flatMap_inj (kvS (freeL bs 0)) (kvS (freeL bs 0)) _ (fun a => by simp [kvS]; rfl) (fun a => by simp [kvS]) x.states y.states (by omega) h2
  have hst : x.states = y.states := by
    refine List.ext_getElem (by omega) fun s hs hs' => ?_
    have hk := hall s hs hs'
    have lx := fx.v.len s hs
    have ly := fy.v.len s hs'
    refine List.ext_getElem (by omega) fun i hi hi' => ?_
    have hif : i < sp.fields.length := by omega
    have hb : i < bs.length := by rw [fx.b.bl]; exact hif
    have cx := fx.v.cell s i hs hif
    have cy := fy.v.cell s i hs' hif
    obtain ⟨_, bx⟩ := fx.b.cell i hb
    obtain ⟨_, by'⟩ := fy.b.cell i hb
    obtain ⟨_, x1, x2⟩ := bx.st s hs
    obtain ⟨_, y1, y2⟩ := by'.st s hs'
    unfold inOk at x1 x2 y1 y2
    rw [List.all_eq_true] at x1 x2 y1 y2
    obtain ⟨N, F⟩ := fv_fit fx
    have hN := F.hN
    refine rl_eq (fv_grel fx hN hs hi) (fv_grel fy (by rw [sy, ← sx]; exact hN) hs' hi') (by rw [cx.1, cy.1]) fun t => ?_
    by_cases hu : t ∈ bs[i].up.ts
    · by_cases hl : t ∈ bs[i].lo.ts
      · have e1 := x1 t hl
        have e2 := y1 t hl
        simp only [decide_eq_true_eq] at e1 e2
        exact ⟨fun _ => e2, fun _ => e1⟩
      · have hm : ((i : Int), t) ∈ freeL bs 0 := mem_freeL.2 ⟨i, hb, by omega, mem_freeTs.2 ⟨hu, hl⟩⟩
        have := List.map_inj_left.1 hk _ hm
        simp only at this
        rw [relG_eq hi, relG_eq hi'] at this
        exact bitI_iff.1 this
    · constructor
      · intro ht; exact absurd (by simpa using x2 t ht) hu
      · intro ht; exact absurd (by simpa using y2 t ht) hu
  obtain ⟨a1, a2, a3⟩ := x
  obtain ⟨b1, b2, b3⟩ := y
  simp only at h1 hst sx sy
  subst h1; subst hst; subst sx; subst sy; rfl
theorem ordS {sp : Sp} {bs : List Bd} {sc : Sc} {n : Nat} : OrdOn (ordI (freeL bs 0)) (InS sp bs sc n) where
  sw := fun x y hx hy => by rw [ordI_ok hx.ord hy.ord, ordI_ok hy.ord hx.ord]; exact lexS_swap _ _
  tr := fun x y z hx hy hz h1 h2 => by
    rw [ordI_ok hx.ord hy.ord] at h1
    rw [ordI_ok hy.ord hz.ord] at h2
    rw [ordI_ok hx.ord hz.ord]
    exact lexS_lt_trans _ _ _ (okOrd.len hx.ord hy.ord) (okOrd.len hy.ord hz.ord) h1 h2
  inj := fun x y hx hy h => by
    rw [ordI_ok hx.ord hy.ord] at h
    exact kv_inj hx hy ((lexS_zero _ _ (okOrd.len hx.ord hy.ord)).1 h)
theorem fv_grpO {sp : Sp} {bs : List Bd} {m : Md} (h : FVal sp bs m) {N : Nat} (F : Fit sp m.sc bs 5 N) : GrpO sp bs m (grpS sp m.sc N bs) m.states.length := by
  have hbl := h.b.bl
  have hf6 := h.f2
  have hfree : ∀ x, x ∈ bs → okFree x := fun x hx => by
    obtain ⟨i, hi, rfl⟩ := List.getElem_of_mem hx
    obtain ⟨_, c⟩ := h.b.cell i hi
    exact ⟨by have := c.lu; omega, by have := c.ll; omega, sorted_le (validOk_srt c.vl)⟩
  have hN6 : N ≤ 6 := by have := F.le; omega
  refine ⟨⟨groupU sp m.sc F.u N F.hN hN6 F.hsp bs F.gb, by have := grp_len F; omega, fun p hp s hs r hr t ht => grp_gp F hp (GRel.pos (fv_gmd h F.hN s hs r hr) ht), fv_okMd h F⟩, by have := h.sm.nt; omega, by omega, hfree, by have := freeL_len bs 0 hfree; omega, fv_ord h, fun p hp => ?_⟩
  have := fv_ord (fv_img h F hp)
  rw [mdImg_states] at this
  exact this
end Go.Proofs.YtfniceomhfebhaaGreat.N10

set_option linter.unusedVariables false
set_option linter.unusedSimpArgs false
set_option maxRecDepth 100000
namespace Go.Proofs.YtfniceomhfebhaaGreat.N11
open Go Go.Ev Go.Proofs C1 C2 C3 C4 C5 C6 C7 C8 C9 C10 C11 C12 C13 C14 C15 C16 C17 C18 C19 C20 C21 C22 C23 C24 C25 C26 C27 C28 C29 C30 C31 C32 C33 C34 C35 L1 L2 L3 L4 L5 L6 L7 L8 L9 L10 L11 L12 L13 L14 L15 L16 L17 L20 L21 M1 M2 M3 M4 M5 M6 M7 M9 M10 M11 N1 N2 N3 N4 N5 N6 N7 N8 N9 N10 R1 R2 R3 R4 R5 R6

/-! ### the order of the reference -/
def upFrom : List Bd → Nat → List Rl → List Int
  | [], _, _ => []
  | b :: l, k, s => (b.up.ts.map fun t => bitI (relG s (k : Int)) t) ++ upFrom l (k + 1) s
theorem upFrom_drop (bs : List Bd) (s : List Rl) (i : Nat) (h : i < bs.length) : upFrom (bs.drop i) i s = (bs[i].up.ts.map fun t => bitI (relG s (i : Int)) t) ++ upFrom (bs.drop (i + 1)) (i + 1) s := by
  rw [List.drop_eq_getElem_cons h, upFrom]
theorem lex_filter (P : Int → Bool) (f g : Int → Int) (r q : List Int) : ∀ ts : List Int, (∀ t, t ∈ ts → P t = false → f t = g t) → lexS (ts.map f ++ r) (ts.map g ++ q) = lexS ((ts.filter P).map f ++ r) ((ts.filter P).map g ++ q)
  | [], _ => rfl
  | t :: ts, h => by
    have ih := lex_filter P f g r q ts (fun u hu => h u (by simp [hu]))
    cases hp : P t with
    | true =>
      rw [List.filter_cons_of_pos hp]
      simp only [List.map_cons, List.cons_append, lexS, ih]
    | false =>
      rw [List.filter_cons_of_neg (by simp [hp])]
      have e := h t (by simp) hp
      simp only [List.map_cons, List.cons_append, lexS, e, Int.lt_irrefl, if_false]
      exact ih
theorem lex_up (x y : List Rl) (r q : List Int) : ∀ (bs : List Bd) (k : Nat), (∀ (j : Nat) (hj : j < bs.length), ∀ t, t ∈ bs[j].lo.ts → bitI (relG x ((k + j : Nat) : Int)) t = bitI (relG y ((k + j : Nat) : Int)) t) →
    ∀ r q : List Int, lexS (upFrom bs k x ++ r) (upFrom bs k y ++ q) = lexS ((freeL bs k).map (fun f => bitI (relG x f.1) f.2) ++ r) ((freeL bs k).map (fun f => bitI (relG y f.1) f.2) ++ q)
  | [], _, _, r, q => rfl
  | b :: l, k, h, r, q => by
    have ih := lex_up x y r q l (k + 1) (fun j hj t ht => by
      have := h (j + 1) (by simpa using hj) t (by simpa using ht)
      rw [show k + (j + 1) = k + 1 + j by omega] at this
      exact this)
    simp only [upFrom, freeL, freeAt, freeTs, List.map_append, List.map_map, List.append_assoc]
    rw [lex_filter (fun t => !decide (t ∈ b.lo.ts)) _ _ _ _ b.up.ts (fun t _ hP => by
      have := h 0 (by simp) t (by simpa using hP)
      exact this)]
    generalize (b.up.ts.filter fun t => !decide (t ∈ b.lo.ts)) = ts
    induction ts with
    | nil => exact ih r q
    | cons t ts iht =>
      simp only [List.map_cons, List.cons_append, lexS, Function.comp, iht]
def kvUp (bs : List Bd) (m : Md) : List Int := m.loop :: m.states.flatMap (upFrom bs 0)
theorem lex_states (bs : List Bd) : ∀ (us cs : List (List Rl)), us.length = cs.length → (∀ (s : Nat) (h : s < us.length) (h' : s < cs.length) (j : Nat) (hj : j < bs.length), ∀ t, t ∈ bs[j].lo.ts → bitI (relG us[s] (j : Int)) t = bitI (relG cs[s] (j : Int)) t) →
    lexS (us.flatMap (upFrom bs 0)) (cs.flatMap (upFrom bs 0)) = lexS (us.flatMap (kvS (freeL bs 0))) (cs.flatMap (kvS (freeL bs 0)))
  | [], [], _, _ => rfl
  | u :: us, c :: cs, h, hb => by
    have ih := lex_states bs us cs (by simpa using h) (fun s h1 h2 => hb (s + 1) (by simpa using h1) (by simpa using h2))
    simp only [List.flatMap_cons]
    rw [lex_up u c [] [] bs 0 (fun j hj t ht => by rw [Nat.zero_add]; exact hb 0 (by simp) (by simp) j hj t ht)]
    show lexS (kvS (freeL bs 0) u ++ _) (kvS (freeL bs 0) c ++ _) = _
    have hl : ∀ (a b : List Int), a.length = b.length → ∀ x y z w, lexS x y = lexS z w → lexS (a ++ x) (b ++ y) = lexS (a ++ z) (b ++ w) := by
      intro a
      induction a with
      | nil => intro b hb x y z w e; cases b with
        | nil => exact e
        | cons => simp at hb
      | cons p a iha => intro b hb x y z w e; cases b with
        | nil => simp at hb
        | cons q b => simp only [List.cons_append, lexS]; rw [iha b (by simpa using hb) x y z w e]
    exact hl _ _ (by simp [kvS]) _ _ _ _ ih
  | [], _ :: _, h, _ => by simp at h
  | _ :: _, [], h, _ => by simp at h
theorem bit_lo {sp : Sp} {bs : List Bd} {m : Md} (h : FVal sp bs m) {s : Nat} (hs : s < m.states.length) {j : Nat} (hj : j < bs.length) {t : Int} (ht : t ∈ bs[j].lo.ts) : bitI (relG m.states[s] (j : Int)) t = 1 := by
  obtain ⟨_, c⟩ := h.b.cell j hj
  obtain ⟨hi, k1, _⟩ := c.st s hs
  unfold inOk at k1
  rw [List.all_eq_true] at k1
  have := k1 t ht
  rw [decide_eq_true_eq] at this
  rw [relG_eq hi, bitI, if_pos this]
theorem ord_up {sp : Sp} {bs : List Bd} {sc : Sc} {n : Nat} {x y : Md} (hx : InS sp bs sc n x) (hy : InS sp bs sc n y) : ordI (freeL bs 0) x y = lexS (kvUp bs x) (kvUp bs y) := by
  rw [ordI_ok hx.ord hy.ord]
  simp only [kv, kvUp, lexS]
  rw [lex_states bs x.states y.states (by rw [hx.ns, hy.ns]) fun s h h' j hj t ht => by rw [bit_lo hx.f h hj ht, bit_lo hy.f h' hj ht]]
theorem order26 {sp : Sp} {bs : List Bd} {sc : Sc} {n : Nat} (x y : Md) (hx : InS sp bs sc n x) (hy : InS sp bs sc n y) : SoundP Tryz.prog 25 [lBd bs, eMd x, eMd y] (aI (ordI (freeL bs 0) x y)) := by
  rw [ord_up hx hy]
  have hxl := hx.ns
  have hyl := hy.ns
  have h64 := hx.f.sm.nt
  have hbl := hx.f.b.bl
  have hf6 := hx.f.f2
  refine SoundP.of_sound (Sound.of_awp Tryz.call25 Tryz.func25 rfl (Nat.le_of_ble_eq_true (by kernel_rfl)) (by kernel_rfl) (pl := {}) ?_)
  by_cases h1 : x.loop = y.loop
  case neg =>
    by_cases h2 : x.loop < y.loop
    · simp [go_sem, h1, h2, kvUp, lexS]
      exact .hf _ (HF.sc _)
    · simp [go_sem, h1, h2, kvUp, lexS, show y.loop < x.loop by omega]
      exact .hf _ (HF.sc _)
  have e0 : lexS (kvUp bs x) (kvUp bs y) = lexS (x.states.flatMap (upFrom bs 0)) (y.states.flatMap (upFrom bs 0)) := by
    simp [kvUp, lexS, h1]
  rw [e0]
  generalize hV : lexS (x.states.flatMap (upFrom bs 0)) (y.states.flatMap (upFrom bs 0)) = V
  simp [go_sem, h1]
  refine LoopGo.up x.states.length (fun s st => st.tm 0 = lBd bs ∧ st.tm 4 = ipMd x ∧ st.tm 5 = ipMd y ∧ st.tm 7 = aI s ∧ st.mu = [] ∧ lexS ((x.states.drop s).flatMap (upFrom bs 0)) ((y.states.drop s).flatMap (upFrom bs 0)) = V) ?_ ?_
  · simp [go_sem, h1, hV]
  rintro s st hs ⟨e0, e4, e5, e7, hm, hv⟩
  by_cases hsl : s < x.states.length
  case neg =>
    rw [List.drop_of_length_le (by omega), List.drop_of_length_le (by omega)] at hv
    simp only [List.flatMap_nil, lexS] at hv
    subst hv
    simp [go_sem, e0, e4, e5, e7, hm, hsl]
    exact .hf _ (HF.sc _)
  have hsy : s < y.states.length := by omega
  have lx := hx.f.v.len s hsl
  have ly := hy.f.v.len s hsy
  rw [List.drop_eq_getElem_cons hsl, List.drop_eq_getElem_cons hsy, List.flatMap_cons, List.flatMap_cons] at hv
  simp [go_sem, e0, e4, e5, e7, hm, hsl, hsy]
  refine LoopGo.up bs.length (fun i st => st.tm 0 = lBd bs ∧ st.tm 4 = ipMd x ∧ st.tm 5 = ipMd y ∧ st.tm 7 = aI s ∧ st.tm 8 = aI i ∧ st.mu = [] ∧
    lexS (upFrom (bs.drop i) i x.states[s] ++ (x.states.drop (s + 1)).flatMap (upFrom bs 0)) (upFrom (bs.drop i) i y.states[s] ++ (y.states.drop (s + 1)).flatMap (upFrom bs 0)) = V) ?_ ?_
  · simp [go_sem, e0, e4, e5, e7, hm, hv]
  clear e0 e4 e5 e7 hm hv
  clear st
  rintro i st hi ⟨e0, e4, e5, e7, e8, hm, hv⟩
  by_cases hil : i < bs.length
  case neg =>
    rw [List.drop_of_length_le (by omega)] at hv
    simp only [upFrom, List.nil_append] at hv
    simp [go_sem, e0, e4, e5, e7, e8, hm, hil, hsl]
    exact ⟨wrap_i64 (by omega) (by omega), hv⟩
  have hix : i < x.states[s].length := by omega
  have hiy : i < y.states[s].length := by omega
  obtain ⟨_, bc⟩ := hx.f.b.cell i hil
  have hlu := bc.lu
  rw [upFrom_drop _ _ _ hil, upFrom_drop _ _ _ hil, List.append_assoc, List.append_assoc, relG_eq hix, relG_eq hiy] at hv
  have hrx := (hx.f.sm.st s hsl).2 i hix
  have hry := (hy.f.sm.st s hsy).2 i hiy
  have hvx := validOk_srt (hx.f.v.cell s i hsl (by omega)).2.1
  have hvy := validOk_srt (hy.f.v.cell s i hsy (by omega)).2.1
  generalize hup : bs[i].up.ts = ts at *
  generalize hrx' : upFrom (bs.drop (i + 1)) (i + 1) x.states[s] ++ (x.states.drop (s + 1)).flatMap (upFrom bs 0) = rx at *
  generalize hry' : upFrom (bs.drop (i + 1)) (i + 1) y.states[s] ++ (y.states.drop (s + 1)).flatMap (upFrom bs 0) = ry at *
  simp [go_sem, e0, e4, e5, e7, e8, hm, hil]
  refine LoopGo.up ts.length (fun k st => st.tm 0 = lBd bs ∧ st.tm 4 = ipMd x ∧ st.tm 5 = ipMd y ∧ st.tm 7 = aI s ∧ st.tm 8 = aI i ∧ st.tm 9 = aI k ∧ st.mu = [] ∧
    lexS (((ts.drop k).map fun t => bitI x.states[s][i] t) ++ rx) (((ts.drop k).map fun t => bitI y.states[s][i] t) ++ ry) = V) ?_ ?_
  · simp [go_sem, e0, e4, e5, e7, e8, hm, hv]
  clear e0 e4 e5 e7 e8 hm hv
  clear st
  rintro k st hk ⟨e0, e4, e5, e7, e8, e9, hm, hv⟩
  by_cases hkl : k < ts.length
  case neg =>
    rw [List.drop_of_length_le (by omega)] at hv
    simp only [List.map_nil, List.nil_append] at hv
    simp [go_sem, e0, e4, e5, e7, e8, e9, hm, hil, hup, hkl]
    exact ⟨wrap_i64 (by omega) (by omega), by rw [hrx', hry']; exact hv⟩
  rw [List.drop_eq_getElem_cons hkl] at hv
  simp only [List.map_cons, List.cons_append, lexS] at hv
  generalize hxr : x.states[s][i] = xr at *
  generalize hyr : y.states[s][i] = yr at *
  simp [go_sem, e0, e4, e5, e7, e8, e9, hm, hil, hup, hkl, hsl, hsy, hix, hiy, hxr, hyr]
  refine CallStep.pure (has06 xr ts[k] (by omega) hvx) (.cons (.hf (hf_eRel _)) (.cons (.hf (HF.sc _)) .nil)) ?_
  simp [go_sem, e0, e4, e5, e7, e8, e9, hm, hil, hup, hkl, hsl, hsy, hix, hiy, hxr, hyr]
  refine CallStep.pure (has06 yr ts[k] (by omega) hvy) (.cons (.hf (hf_eRel _)) (.cons (.hf (HF.sc _)) .nil)) ?_
  by_cases hx1 : ts[k] ∈ xr.ts
  · by_cases hy1 : ts[k] ∈ yr.ts
    · simp [go_sem, e0, e4, e5, e7, e8, e9, hm, hil, hup, hkl, hsl, hsy, hix, hiy, hxr, hyr, hx1, hy1]
      refine ⟨wrap_i64 (by omega) (by omega), ?_⟩
      simpa [bitI, hx1, hy1] using hv
    · simp [go_sem, e0, e4, e5, e7, e8, e9, hm, hil, hup, hkl, hsl, hsy, hix, hiy, hxr, hyr, hx1, hy1]
      have : V = 1 := by simpa [bitI, hx1, hy1] using hv.symm
      rw [this]
      exact .hf _ (HF.sc _)
  · by_cases hy1 : ts[k] ∈ yr.ts
    · simp [go_sem, e0, e4, e5, e7, e8, e9, hm, hil, hup, hkl, hsl, hsy, hix, hiy, hxr, hyr, hx1, hy1]
      have : V = -1 := by simpa [bitI, hx1, hy1] using hv.symm
      rw [this]
      exact .hf _ (HF.sc _)
    · simp [go_sem, e0, e4, e5, e7, e8, e9, hm, hil, hup, hkl, hsl, hsy, hix, hiy, hxr, hyr, hx1, hy1]
      refine ⟨wrap_i64 (by omega) (by omega), ?_⟩
      simpa [bitI, hx1, hy1] using hv
end Go.Proofs.YtfniceomhfebhaaGreat.N11

set_option linter.unusedVariables false
set_option linter.unusedSimpArgs false
set_option maxRecDepth 100000
namespace Go.Proofs.YtfniceomhfebhaaGreat.N12
open Go Go.Ev Go.Proofs C1 C2 C3 C4 C5 C6 C7 C8 C9 C10 C11 C12 C13 C14 C15 C16 C17 C18 C19 C20 C21 C22 C23 C24 C25 C26 C27 C28 C29 C30 C31 C32 C33 C34 C35 L1 L2 L3 L4 L5 L6 L7 L8 L9 L10 L11 L12 L13 L14 L15 L16 L17 L20 L21 M1 M2 M3 M4 M5 M6 M7 M9 M10 M11 N1 N2 N3 N4 N5 N6 N7 N8 N9 N10 N11 R1 R2 R3 R4 R5 R6

/-! ### the group at work -/
def isoB (G : List (List Int)) (m c : Md) : Bool := G.any fun p => decide (mdImg p m = c)
theorem isoB_iff {G : List (List Int)} {m c : Md} : isoB G m c = true ↔ ∃ p, p ∈ G ∧ mdImg p m = c := by
  simp [isoB]
theorem grp_perm {sp : Sp} {bs : List Bd} {sc : Sc} {N : Nat} (F : Fit sp sc bs 5 N) {p : List Int} (hp : p ∈ grpS sp sc N bs) : PermL N p := ((mem_grp F).1 hp).1.perm
theorem ins_g {sp : Sp} {bs : List Bd} {sc : Sc} {N n : Nat} (F : Fit sp sc bs 5 N) {x : Md} (hx : InS sp bs sc n x) : GMd N x := fv_gmd hx.f (by rw [hx.sc]; exact F.hN)
theorem iso_refl {sp : Sp} {bs : List Bd} {sc : Sc} {N n : Nat} (F : Fit sp sc bs 5 N) {x : Md} (hx : InS sp bs sc n x) : isoB (grpS sp sc N bs) x x = true := isoB_iff.2 ⟨idL N, grp_id F, mdImg_id (ins_g F hx)⟩
theorem iso_img {sp : Sp} {bs : List Bd} {sc : Sc} {N : Nat} {x : Md} {p : List Int} (hp : p ∈ grpS sp sc N bs) : isoB (grpS sp sc N bs) x (mdImg p x) = true := isoB_iff.2 ⟨p, hp, rfl⟩
theorem iso_symm {sp : Sp} {bs : List Bd} {sc : Sc} {N n : Nat} (F : Fit sp sc bs 5 N) {x y : Md} (hx : InS sp bs sc n x) (h : isoB (grpS sp sc N bs) x y = true) : isoB (grpS sp sc N bs) y x = true := by
  obtain ⟨p, hp, rfl⟩ := isoB_iff.1 h
  exact isoB_iff.2 ⟨invL p, grp_inv F hp, mdImg_inv_l (grp_perm F hp) (ins_g F hx)⟩
theorem iso_trans {sp : Sp} {bs : List Bd} {sc : Sc} {N n : Nat} (F : Fit sp sc bs 5 N) {x y z : Md} (hx : InS sp bs sc n x) (h : isoB (grpS sp sc N bs) x y = true) (k : isoB (grpS sp sc N bs) y z = true) : isoB (grpS sp sc N bs) x z = true := by
  obtain ⟨p, hp, rfl⟩ := isoB_iff.1 h
  obtain ⟨q, hq, rfl⟩ := isoB_iff.1 k
  exact isoB_iff.2 ⟨composeL q p, grp_comp F hq hp, mdImg_comp (grp_perm F hq) (grp_perm F hp) (ins_g F hx)⟩
theorem iso_in {sp : Sp} {bs : List Bd} {sc : Sc} {N n : Nat} (F : Fit sp sc bs 5 N) {x y : Md} (hx : InS sp bs sc n x) (h : isoB (grpS sp sc N bs) x y = true) : InS sp bs sc n y := by
  obtain ⟨p, hp, rfl⟩ := isoB_iff.1 h
  exact hx.img F hp

/-! ### the least image -/
theorem canon_spec (free : List (Int × Int)) (m : Md) {S : Md → Prop} (hO : OrdOn (ordI free) S) : ∀ (gs : List (List Int)) (l : Md), S l → (∀ p, p ∈ gs → S (mdImg p m)) →
    S (canonL free m gs l) ∧ (canonL free m gs l = l ∨ ∃ p, p ∈ gs ∧ mdImg p m = canonL free m gs l) ∧ ¬ ordI free l (canonL free m gs l) < 0 ∧ ∀ p, p ∈ gs → ¬ ordI free (mdImg p m) (canonL free m gs l) < 0
  | [], l, hl, _ => ⟨hl, .inl rfl, by
    have := hO.sw l l hl hl
    show ¬ ordI free l l < 0
    omega, fun p hp => by simp at hp⟩
  | p :: gs, l, hl, hg => by
    have hp := hg p (by simp)
    have hg' : ∀ q, q ∈ gs → S (mdImg q m) := fun q hq => hg q (by simp [hq])
    have nt : ∀ x y z, S x → S y → S z → ¬ ordI free x y < 0 → ¬ ordI free y z < 0 → ¬ ordI free x z < 0 := by
      intro x y z hx hy hz h1 h2 h3
      have s1 := hO.sw x y hx hy
      have s2 := hO.sw y z hy hz
      have s3 := hO.sw x z hx hz
      by_cases e1 : ordI free x y = 0
      · have := hO.inj x y hx hy e1; subst this; exact h2 h3
      · by_cases e2 : ordI free y z = 0
        · have := hO.inj y z hy hz e2; subst this; exact h1 h3
        · have := hO.tr z y x hz hy hx (by omega) (by omega)
          omega
    show _ ∧ (canonL free m gs _ = l ∨ _) ∧ _
    by_cases hneg : ordI free (mdImg p m) l < 0
    · have e : canonL free m (p :: gs) l = canonL free m gs (mdImg p m) := by rw [canonL, if_pos hneg]
      rw [e]
      obtain ⟨h1, h2, h3, h4⟩ := canon_spec free m hO gs (mdImg p m) hp hg'
      rw [if_pos hneg]
      refine ⟨h1, .inr ?_, ?_, ?_⟩
      · rcases h2 with h2 | ⟨q, hq, h2⟩
        · exact ⟨p, by simp, h2.symm⟩
        · exact ⟨q, by simp [hq], h2⟩
      · refine nt _ _ _ hl hp h1 ?_ h3
        have := hO.sw l (mdImg p m) hl hp
        omega
      · intro q hq
        rcases List.mem_cons.1 hq with rfl | hq
        · exact h3
        · exact h4 q hq
    · have e : canonL free m (p :: gs) l = canonL free m gs l := by rw [canonL, if_neg hneg]
      rw [e]
      obtain ⟨h1, h2, h3, h4⟩ := canon_spec free m hO gs l hl hg'
      rw [if_neg hneg]
      refine ⟨h1, ?_, h3, ?_⟩
      · rcases h2 with h2 | ⟨q, hq, h2⟩
        · exact .inl h2
        · exact .inr ⟨q, by simp [hq], h2⟩
      · intro q hq
        rcases List.mem_cons.1 hq with rfl | hq
        · exact nt _ _ _ hp hl h1 hneg h3
        · exact h4 q hq
def cano (bs : List Bd) (G : List (List Int)) (m : Md) : Md := canonL (freeL bs 0) m G m
theorem cano_iso {sp : Sp} {bs : List Bd} {sc : Sc} {N n : Nat} (F : Fit sp sc bs 5 N) {x : Md} (hx : InS sp bs sc n x) : isoB (grpS sp sc N bs) x (cano bs (grpS sp sc N bs) x) = true := by
  obtain ⟨_, h2, _, _⟩ := canon_spec (freeL bs 0) x (ordS (sp := sp) (sc := sc) (n := n)) (grpS sp sc N bs) x hx (fun p hp => hx.img F hp)
  rcases h2 with h | ⟨p, hp, h⟩
  · unfold cano
    rw [h]; exact iso_refl F hx
  · exact isoB_iff.2 ⟨p, hp, h⟩
theorem cano_in {sp : Sp} {bs : List Bd} {sc : Sc} {N n : Nat} (F : Fit sp sc bs 5 N) {x : Md} (hx : InS sp bs sc n x) : InS sp bs sc n (cano bs (grpS sp sc N bs) x) := iso_in F hx (cano_iso F hx)
theorem cano_le {sp : Sp} {bs : List Bd} {sc : Sc} {N n : Nat} (F : Fit sp sc bs 5 N) {x y : Md} (hx : InS sp bs sc n x) (h : isoB (grpS sp sc N bs) x y = true) : ¬ ordI (freeL bs 0) y (cano bs (grpS sp sc N bs) x) < 0 := by
  obtain ⟨_, _, _, h4⟩ := canon_spec (freeL bs 0) x (ordS (sp := sp) (sc := sc) (n := n)) (grpS sp sc N bs) x hx (fun p hp => hx.img F hp)
  obtain ⟨p, hp, rfl⟩ := isoB_iff.1 h
  exact h4 p hp
theorem cano_eq {sp : Sp} {bs : List Bd} {sc : Sc} {N n : Nat} (F : Fit sp sc bs 5 N) {x y : Md} (hx : InS sp bs sc n x) (h : isoB (grpS sp sc N bs) x y = true) : cano bs (grpS sp sc N bs) y = cano bs (grpS sp sc N bs) x := by
  have hy := iso_in F hx h
  have cx := cano_in F hx
  have cy := cano_in F hy
  have h1 := cano_le F hx (iso_trans F hx h (cano_iso F hy))
  have h2 := cano_le F hy (iso_trans F hy (iso_symm F hx h) (cano_iso F hx))
  have hO := ordS (sp := sp) (bs := bs) (sc := sc) (n := n)
  have := hO.sw _ _ cx cy
  exact hO.inj _ _ cy cx (by omega)
theorem iso_cano {sp : Sp} {bs : List Bd} {sc : Sc} {N n : Nat} (F : Fit sp sc bs 5 N) {x y : Md} (hx : InS sp bs sc n x) (hy : InS sp bs sc n y) : isoB (grpS sp sc N bs) x y = decide (cano bs (grpS sp sc N bs) x = cano bs (grpS sp sc N bs) y) := by
  rw [Bool.eq_iff_iff, decide_eq_true_eq]
  constructor
  · intro h; exact (cano_eq F hx h).symm
  · intro h
    have h1 := cano_iso F hx
    rw [h] at h1
    exact iso_trans F hx h1 (iso_symm F hy (cano_iso F hy))

/-! ### the orbit in order -/
def insO (ord : Md → Md → Int) (x : Md) : List Md → List Md
  | [] => [x]
  | y :: l => if ord x y < 0 then x :: y :: l else if ord x y = 0 then y :: l else y :: insO ord x l
theorem insO_ok {ord : Md → Md → Int} {S : Md → Prop} (h : OrdOn ord S) {x : Md} (hx : S x) : ∀ l : List Md, (∀ y, y ∈ l → S y) → l.Pairwise (fun a b => ord a b < 0) → (insO ord x l).Pairwise (fun a b => ord a b < 0) ∧ ∀ z, z ∈ insO ord x l ↔ z = x ∨ z ∈ l
  | [], _, _ => by simp [insO]
  | y :: l, hl, hp => by
    have hy := hl y (by simp)
    obtain ⟨h1, h2⟩ := List.pairwise_cons.1 hp
    have ih := insO_ok h hx l (fun z hz => hl z (by simp [hz])) h2
    unfold insO
    by_cases e1 : ord x y < 0
    · rw [if_pos e1]
      refine ⟨List.pairwise_cons.2 ⟨fun z hz => ?_, hp⟩, fun z => by simp⟩
      rcases List.mem_cons.1 hz with rfl | hz
      · exact e1
      · exact h.tr x y z hx hy (hl z (by simp [hz])) e1 (h1 z hz)
    · rw [if_neg e1]
      by_cases e2 : ord x y = 0
      · rw [if_pos e2]
        have := h.inj x y hx hy e2
        subst this
        exact ⟨hp, fun z => by simp⟩
      · rw [if_neg e2]
        have hyx : ord y x < 0 := by have := h.sw x y hx hy; omega
        refine ⟨List.pairwise_cons.2 ⟨fun z hz => ?_, ih.1⟩, fun z => ?_⟩
        · rcases (ih.2 z).1 hz with rfl | hz
          · exact hyx
          · exact h1 z hz
        · rw [List.mem_cons, ih.2 z, List.mem_cons]
          constructor
          · rintro (h | h | h)
            · exact .inr (.inl h)
            · exact .inl h
            · exact .inr (.inr h)
          · rintro (h | h | h)
            · exact .inr (.inl h)
            · exact .inl h
            · exact .inr (.inr h)
def orbL (bs : List Bd) (G : List (List Int)) (m : Md) : List Md := (G.map fun p => mdImg p m).foldr (insO (ordI (freeL bs 0))) []
theorem foldr_ok {ord : Md → Md → Int} {S : Md → Prop} (h : OrdOn ord S) : ∀ l : List Md, (∀ y, y ∈ l → S y) → (l.foldr (insO ord) []).Pairwise (fun a b => ord a b < 0) ∧ ∀ z, z ∈ l.foldr (insO ord) [] ↔ z ∈ l
  | [], _ => by simp
  | x :: l, hl => by
    have ih := foldr_ok h l (fun y hy => hl y (by simp [hy]))
    have := insO_ok h (hl x (by simp)) _ (fun y hy => hl y (by simp [(ih.2 y).1 hy])) ih.1
    refine ⟨this.1, fun z => ?_⟩
    rw [List.foldr_cons, this.2 z, ih.2 z, List.mem_cons]
theorem orb_ok {sp : Sp} {bs : List Bd} {sc : Sc} {N n : Nat} (F : Fit sp sc bs 5 N) {x : Md} (hx : InS sp bs sc n x) : (orbL bs (grpS sp sc N bs) x).Pairwise (fun a b => ordI (freeL bs 0) a b < 0) ∧ ∀ z, z ∈ orbL bs (grpS sp sc N bs) x ↔ isoB (grpS sp sc N bs) x z = true := by
  have h := foldr_ok (ordS (sp := sp) (bs := bs) (sc := sc) (n := n)) ((grpS sp sc N bs).map fun p => mdImg p x) (fun y hy => by
    obtain ⟨p, hp, rfl⟩ := List.mem_map.1 hy
    exact hx.img F hp)
  refine ⟨h.1, fun z => ?_⟩
  unfold orbL
  rw [h.2 z, List.mem_map, isoB_iff]
theorem orb_len {sp : Sp} {bs : List Bd} {sc : Sc} {N n : Nat} (F : Fit sp sc bs 5 N) {x : Md} (hx : InS sp bs sc n x) : (orbL bs (grpS sp sc N bs) x).length ≤ 46656 := by
  have h1 := grp_len F
  have : ∀ (ord : Md → Md → Int) (y : Md) (l : List Md), (insO ord y l).length ≤ l.length + 1 := by
    intro ord y l
    induction l with
    | nil => simp [insO]
    | cons z l ih => unfold insO; split <;> (try split) <;> simp <;> omega
  have h2 : ∀ l : List Md, (l.foldr (insO (ordI (freeL bs 0))) []).length ≤ l.length := by
    intro l
    induction l with
    | nil => simp
    | cons z l ih => have := this (ordI (freeL bs 0)) z (l.foldr (insO (ordI (freeL bs 0))) []); simp only [List.foldr_cons, List.length_cons]; omega
  have := h2 ((grpS sp sc N bs).map fun p => mdImg p x)
  rw [List.length_map] at this
  unfold orbL
  omega
theorem orb_head {sp : Sp} {bs : List Bd} {sc : Sc} {N n : Nat} (F : Fit sp sc bs 5 N) {x : Md} (hx : InS sp bs sc n x) : (orbL bs (grpS sp sc N bs) x)[0]? = some (cano bs (grpS sp sc N bs) x) := by
  obtain ⟨h1, h2⟩ := orb_ok F hx
  have hc := (h2 _).2 (cano_iso F hx)
  have hO := ordS (sp := sp) (bs := bs) (sc := sc) (n := n)
  cases hq : orbL bs (grpS sp sc N bs) x with
  | nil => rw [hq] at hc; simp at hc
  | cons y l =>
    rw [hq] at h1 hc
    obtain ⟨k1, _⟩ := List.pairwise_cons.1 h1
    have hy : isoB (grpS sp sc N bs) x y = true := (h2 y).1 (by rw [hq]; simp)
    have := cano_le F hx hy
    rcases List.mem_cons.1 hc with e | e
    · rw [e]; rfl
    · exact absurd (k1 _ e) this

/-! ### orbits and stabilizers -/
theorem fibers {α β : Type} [DecidableEq β] (f : α → β) (k : Nat) : ∀ (L : List β) (G : List α), L.Nodup → (∀ p, p ∈ G → f p ∈ L) → (∀ x, x ∈ L → (G.filter fun p => decide (f p = x)).length = k) → G.length = L.length * k
  | [], G, _, h, _ => by
    cases G with
    | nil => simp
    | cons p G => exact absurd (h p (by simp)) (by simp)
  | x :: L, G, hn, h, hk => by
    obtain ⟨hx, hn'⟩ := List.nodup_cons.1 hn
    have ih := fibers f k L (G.filter fun p => !decide (f p = x)) hn' (fun p hp => by
      rw [List.mem_filter] at hp
      have := h p hp.1
      rcases List.mem_cons.1 this with e | e
      · simp [e] at hp
      · exact e) (fun y hy => by
      rw [List.filter_filter, ← hk y (by simp [hy])]
      congr 1
      refine List.filter_congr fun p _ => ?_
      by_cases e : f p = y
      · have : y ≠ x := fun e2 => hx (e2 ▸ hy)
        simp [e, this]
      · simp [e])
    have hs := List.length_eq_countP_add_countP (fun p => decide (f p = x)) (l := G)
    rw [List.countP_eq_length_filter, List.countP_eq_length_filter, hk x (by simp)] at hs
    have e2 : (G.filter fun p => decide ¬(decide (f p = x)) = true) = G.filter fun p => !decide (f p = x) := List.filter_congr fun p _ => by simp
    rw [e2, ih] at hs
    rw [List.length_cons, Nat.add_mul]; omega
theorem fiber_len {sp : Sp} {bs : List Bd} {sc : Sc} {N n : Nat} (F : Fit sp sc bs 5 N) {x : Md} (hx : InS sp bs sc n x) {p : List Int} (hp : p ∈ grpS sp sc N bs) : ((grpS sp sc N bs).filter fun q => decide (mdImg q x = mdImg p x)).length = (stabL (grpS sp sc N bs) x).length := by
  have g := ins_g F hx
  have pp := grp_perm F hp
  have nd := grp_nodup sp sc N bs
  refine Nat.le_antisymm ?_ ?_
  · refine inj_len (fun q => composeL (invL p) q) (nd.filter _) (fun q hq => ?_) (fun a ha b hb e => ?_)
    · rw [List.mem_filter, decide_eq_true_eq] at hq
      unfold stabL
      rw [List.mem_filter, decide_eq_true_eq]
      exact ⟨grp_comp F (grp_inv F hp) hq.1, by rw [mdImg_comp (inv_ok pp).1 (grp_perm F hq.1) g, hq.2, mdImg_inv_l pp g]⟩
    · have pa := grp_perm F (List.mem_filter.1 ha).1
      have pb := grp_perm F (List.mem_filter.1 hb).1
      have : composeL p (composeL (invL p) a) = composeL p (composeL (invL p) b) := congrArg (composeL p) e
      rwa [← comp_assoc pp (inv_ok pp).1 pa, ← comp_assoc pp (inv_ok pp).1 pb, comp_inv_r pp, comp_id_l pa, comp_id_l pb] at this
  · refine inj_len (fun q => composeL p q) (nd.filter _) (fun q hq => ?_) (fun a ha b hb e => ?_)
    · unfold stabL at hq
      rw [List.mem_filter, decide_eq_true_eq] at hq
      rw [List.mem_filter, decide_eq_true_eq]
      exact ⟨grp_comp F hp hq.1, by rw [mdImg_comp pp (grp_perm F hq.1) g, hq.2]⟩
    · have pa := grp_perm F (List.mem_filter.1 ha).1
      have pb := grp_perm F (List.mem_filter.1 hb).1
      have : composeL (invL p) (composeL p a) = composeL (invL p) (composeL p b) := congrArg (composeL (invL p)) e
      rwa [← comp_assoc (inv_ok pp).1 pp pa, ← comp_assoc (inv_ok pp).1 pp pb, comp_inv_l pp, comp_id_l pa, comp_id_l pb] at this
theorem orb_stab {sp : Sp} {bs : List Bd} {sc : Sc} {N n : Nat} (F : Fit sp sc bs 5 N) {x : Md} (hx : InS sp bs sc n x) : (grpS sp sc N bs).length = (orbL bs (grpS sp sc N bs) x).length * (stabL (grpS sp sc N bs) x).length := by
  obtain ⟨h1, h2⟩ := orb_ok F hx
  have hO := ordS (sp := sp) (bs := bs) (sc := sc) (n := n)
  refine fibers (fun p => mdImg p x) _ _ _ ?_ (fun p hp => (h2 _).2 (iso_img hp)) (fun y hy => ?_)
  · refine List.Pairwise.imp_of_mem (fun ha hb h e => ?_) h1
    subst e
    have hi := iso_in F hx ((h2 _).1 ha)
    have := hO.sw _ _ hi hi
    omega
  · obtain ⟨p, hp, rfl⟩ := isoB_iff.1 ((h2 y).1 hy)
    exact fiber_len F hx hp
end Go.Proofs.YtfniceomhfebhaaGreat.N12

set_option linter.unusedVariables false
set_option linter.unusedSimpArgs false
set_option maxRecDepth 100000
namespace Go.Proofs.YtfniceomhfebhaaGreat.N13
open Go Go.Ev Go.Proofs C1 C2 C3 C4 C5 C6 C7 C8 C9 C10 C11 C12 C13 C14 C15 C16 C17 C18 C19 C20 C21 C22 C23 C24 C25 C26 C27 C28 C29 C30 C31 C32 C33 C34 C35 L1 L2 L3 L4 L5 L6 L7 L8 L9 L10 L11 L12 L13 L14 L15 L16 L17 L20 L21 M1 M2 M3 M4 M5 M6 M7 M9 M10 M11 N1 N2 N3 N4 N5 N6 N7 N8 N9 N10 N11 N12 R1 R2 R3 R4 R5 R6

/-! ### the law's helpers -/
def un (n : Int) (ts : List Int) : Md := ⟨⟨[n], 1⟩, [[⟨1, ts⟩]], 0⟩
theorem Rd.one {mu : Mu} {full : Bool} {x y : AV} (h : Rd mu x y) : Rd mu (.lst full [[x]]) (.lst false [[y]]) := by
  refine .wk _ full _ (.lst full _ _ rfl (fun k a b ha hb => ?_) (fun k a b ha hb => ?_))
  · cases k with
    | zero => simp at ha hb; subst ha; subst hb; rfl
    | succ k => simp at ha
  · cases k with
    | zero => simp at ha hb; subst ha; subst hb; exact h
    | succ k => simp at ha
theorem unary26 (n : Int) (ts : List Int) : SoundP Tryz.prog 31 [aI n, lI ts] (eMd (un n ts)) := by
  refine SoundP.of_sound (Sound.of_awp Tryz.call31 Tryz.func31 rfl (Nat.le_of_ble_eq_true (by kernel_rfl)) (by kernel_rfl) (pl := {}) ?_)
  simp [go_sem]
  refine Rd.agg _ _ rfl (fun k x y hx hy => ?_)
  match k, hx, hy with
  | 0, hx, hy => simp [un] at hx hy; subst hx; subst hy; exact .wk _ true _ (.hf _ (HF.lst fun r hr c hc => by simp at hr; subst hr; simp at hc; subst hc; exact HF.sc _))
  | 1, hx, hy => simp [un] at hx hy; subst hx; subst hy; exact .hf _ (HF.sc _)
  | 2, hx, hy =>
    simp only [un, List.getElem?_cons_succ, List.getElem?_cons_zero, Option.some.injEq] at hx hy
    subst hx; subst hy
    exact Rd.one (.wk _ true _ (.hf _ (HF.lst fun r hr c hc => by simp at hr; subst hr; exact hf_cRel ⟨1, ts⟩ c hc)))
  | 3, hx, hy => simp [un] at hx hy; subst hx; subst hy; exact .hf _ (HF.sc _)
  | k + 4, hx, hy => simp at hx
def pickL (G : List (List Int)) (n : Int) : List Int := G.getD (n.toNat % G.length) []
theorem pickL_mem {G : List (List Int)} (h : G ≠ []) (n : Int) : pickL G n ∈ G := by
  unfold pickL
  have hl : 0 < G.length := List.length_pos_iff.2 h
  have hm := Nat.mod_lt n.toNat hl
  rw [List.getD_eq_getElem?_getD, List.getElem?_eq_getElem hm]
  exact List.getElem_mem _
theorem grp_ne {sp : Sp} {bs : List Bd} {sc : Sc} {N : Nat} (F : Fit sp sc bs 5 N) : grpS sp sc N bs ≠ [] := fun h => by
  have := grp_id F
  rw [h] at this; simp at this
theorem pick26 {sp : Sp} {bs : List Bd} {m : Md} {N : Nat} (F : Fit sp m.sc bs 5 N) (n : Int) (hn : 0 ≤ n ∧ n ≤ 65535) : SoundP Tryz.prog 24 [eSp sp, lBd bs, eMd m, .sc (.int .u16 n)] (lI (pickL (grpS sp m.sc N bs) n)) := by
  have hN6 : N ≤ 6 := by have := F.le; omega
  have hne := grp_ne F
  have hgl := grp_len F
  have hg := group26 F hN6
  refine SoundP.of_sound (Sound.of_awp Tryz.call24 Tryz.func24 rfl (Nat.le_of_ble_eq_true (by kernel_rfl)) (by kernel_rfl) (pl := {}) ?_)
  simp [go_sem]
  refine CallStep.pure hg (.cons (.hf (hf_eSp sp)) (.cons (.hf (hf_eSc _)) (.cons (.hf (hf_lBd bs)) .nil))) ?_
  generalize grpS sp m.sc N bs = G at *
  have hl : 0 < G.length := List.length_pos_iff.2 hne
  obtain ⟨k, rfl⟩ := Int.eq_ofNat_of_zero_le hn.1
  have hk : k ≤ 65535 := by have := hn.2; omega
  have hm := Nat.mod_lt k hl
  have hmod : (k : Int).tmod (G.length : Int) = ((k % G.length : Nat) : Int) := by
    rw [Int.tmod_eq_emod_of_nonneg (by omega)]; exact (Int.natCast_emod k G.length).symm
  have hw1 : IntKind.i64.wrap (k : Int) = k := wrap_i64 (by omega) (by omega)
  have hw2 : IntKind.i64.wrap ((k % G.length : Nat) : Int) = ((k % G.length : Nat) : Int) := wrap_i64 (by omega) (by omega)
  have hp : pickL G (k : Int) = G[k % G.length] := by
    unfold pickL
    rw [Int.toNat_natCast, List.getD_eq_getElem?_getD, List.getElem?_eq_getElem hm]; rfl
  rw [hp]
  have h5 : (0 : Int) ≤ (k : Int) % (G.length : Int) := by rw [← Int.natCast_emod]; omega
  have h6 : (k : Int) % (G.length : Int) < (G.length : Int) := by rw [← Int.natCast_emod]; omega
  have h7 : ((k : Int) % (G.length : Int)).toNat = k % G.length := by rw [← Int.natCast_emod]; omega
  simp [go_sem, hw1, hmod, hw2, hm, hl, hne, h5, h6, h7]
  exact .hf _ (hf_lI _)
theorem pair26 (sp : Sp) (bs : List Bd) (m c : Md) : SoundP Tryz.prog 10 [eSp sp, lBd bs, eMd m, eMd c] (aB (dec (FVal sp bs m ∧ FVal sp bs c ∧ m.sc = c.sc))) := by
  refine SoundP.of_sound (Sound.of_awp Tryz.call10 Tryz.func10 rfl (Nat.le_of_ble_eq_true (by kernel_rfl)) (by kernel_rfl) (pl := {}) ?_)
  simp [go_sem]
  refine CallStep.pure (fits26 sp bs m) (.cons (.hf (hf_eSp sp)) (.cons (.hf (hf_lBd bs)) (.cons (.hf (hf_eMd m)) .nil))) ?_
  by_cases h1 : FVal sp bs m
  case neg =>
    rw [dec_false h1, dec_false fun h => h1 h.1]
    simp [go_sem]
    exact .hf _ (HF.sc _)
  rw [dec_true h1]
  simp [go_sem]
  refine CallStep.pure (fits26 sp bs c) (.cons (.hf (hf_eSp sp)) (.cons (.hf (hf_lBd bs)) (.cons (.hf (hf_eMd c)) .nil))) ?_
  by_cases h2 : FVal sp bs c
  case neg =>
    rw [dec_false h2, dec_false fun h => h2 h.2.1]
    simp [go_sem]
    exact .hf _ (HF.sc _)
  rw [dec_true h2]
  simp [go_sem]
  refine CallStep.pure (ints07 m.sc.atoms c.sc.atoms (by have := h1.sm.na; omega)) (.cons (.hf (hf_lI _)) (.cons (.hf (hf_lI _)) .nil)) ?_
  by_cases h3 : m.sc.atoms = c.sc.atoms
  case neg =>
    rw [dec_false fun h => h3 (by rw [h.2.2])]
    simp [go_sem, h3]
    exact .hf _ (HF.sc _)
  by_cases h4 : m.sc.steps = c.sc.steps
  case neg =>
    rw [dec_false fun h => h4 (by rw [h.2.2])]
    simp [go_sem, h3, h4]
    exact .hf _ (HF.sc _)
  have h5 : m.sc = c.sc := by
    generalize m.sc = a at *
    generalize c.sc = b at *
    obtain ⟨a1, a2⟩ := a
    obtain ⟨b1, b2⟩ := b
    simp only at h3 h4
    subst h3; subst h4; rfl
  rw [dec_true ⟨h1, h2, h5⟩]
  simp [go_sem, h3, h4]
  exact .hf _ (HF.sc _)
end Go.Proofs.YtfniceomhfebhaaGreat.N13

set_option linter.unusedVariables false
set_option linter.unusedSimpArgs false
set_option maxRecDepth 100000
namespace Go.Proofs.YtfniceomhfebhaaGreat.N14
open Go Go.Ev Go.Proofs C1 C2 C3 C4 C5 C6 C7 C8 C9 C10 C11 C12 C13 C14 C15 C16 C17 C18 C19 C20 C21 C22 C23 C24 C25 C26 C27 C28 C29 C30 C31 C32 C33 C34 C35 L1 L2 L3 L4 L5 L6 L7 L8 L9 L10 L11 L12 L13 L14 L15 L16 L17 L20 L21 M1 M2 M3 M4 M5 M6 M7 M9 M10 M11 N1 N2 N3 N4 N5 N6 N7 N8 N9 N10 N11 N12 N13 R1 R2 R3 R4 R5 R6

/-! ### the examples of the chapter -/
abbrev sp0 : Sp := spA false
def bs0 : List Bd := [⟨⟨1, []⟩, ⟨1, [0, 1]⟩⟩]
def sc0 : Sc := ⟨[2], 1⟩
theorem f0 (ts : List Int) (h : ts = [0] ∨ ts = [1] ∨ ts = [0, 1] ∨ ts = []) : FVal sp0 bs0 (un 2 ts) := by
  have hv : validOk 2 ⟨1, ts⟩ = true := by rcases h with rfl | rfl | rfl | rfl <;> decide
  have hw : withinOk sc0 [0] ⟨1, ts⟩ = true := by rcases h with rfl | rfl | rfl | rfl <;> decide
  have hl : ts.length ≤ 200 := by rcases h with rfl | rfl | rfl | rfl <;> decide
  have hi1 : inOk ⟨1, []⟩ ⟨1, ts⟩ = true := by rcases h with rfl | rfl | rfl | rfl <;> decide
  have hi2 : inOk ⟨1, ts⟩ ⟨1, [0, 1]⟩ = true := by rcases h with rfl | rfl | rfl | rfl <;> decide
  refine ⟨by decide, by decide, by decide, by decide, ⟨by decide, by decide, Nat.le_of_ble_eq_true rfl, Nat.le_of_ble_eq_true rfl, fun i hi => ?_, fun i hi => ?_⟩, ⟨?_, rfl, ?_, ?_, fun i hi => ?_, fun s hs => ?_, fun s i hs hi => ?_⟩, ?_, ⟨rfl, fun i hb => ?_⟩⟩
  · have : i = 0 := by simp [un] at hi; omega
    subst this
    refine ⟨Nat.le_of_ble_eq_true rfl, fun j hj => ?_⟩
    have : j = 0 := by simp [un] at hj; omega
    subst this
    exact hl
  · have : i = 0 := by simp [sp0, spA] at hi; omega
    subst this
    exact Nat.le_of_ble_eq_true rfl
  · show scopeOk sp0 sc0 = true
    decide
  · show (0 : Int) ≤ 0
    omega
  · show (0 : Int) < 1
    omega
  · have : i = 0 := by simp [sp0, spA] at hi; omega
    subst this
    show fieldOk sp0 ⟨⟨#[102]⟩, [0], false⟩ = true
    decide
  · have : s = 0 := by simp [un] at hs; omega
    subst this
    rfl
  · have hs0 : s = 0 := by simp [un] at hs; omega
    have hi0 : i = 0 := by simp [sp0, spA] at hi; omega
    subst hs0
    subst hi0
    exact ⟨rfl, hv, hw, fun _ => rfl⟩
  · show sumI [2] ≤ 5
    decide
  · have : i = 0 := by simp [bs0] at hb; omega
    subst this
    refine ⟨Nat.le_of_ble_eq_true rfl, ⟨Nat.le_of_ble_eq_true rfl, Nat.le_of_ble_eq_true rfl, rfl, rfl, ?_, ?_, (show inOk ⟨1, []⟩ ⟨1, [0, 1]⟩ = true by decide), ?_, fun s hs => ?_⟩⟩
    · show validOk 2 ⟨1, []⟩ = true
      decide
    · show validOk 2 ⟨1, [0, 1]⟩ = true
      decide
    · show withinOk sc0 [0] ⟨1, [0, 1]⟩ = true
      decide
    · have hs0 : s = 0 := by simp [un] at hs; omega
      subst hs0
      exact ⟨Nat.le_of_ble_eq_true rfl, hi1, hi2⟩
theorem F0 : Fit sp0 sc0 bs0 5 2 := by
  obtain ⟨N, F⟩ := fv_fit (f0 [] (by simp))
  have h : (N : Int) = 2 := F.hN.symm
  have : N = 2 := by omega
  subst this
  exact F
theorem g0 : grpS sp0 sc0 2 bs0 = [[0, 1], [1, 0]] := by kernel_rfl
theorem in0 (ts : List Int) (h : ts = [0] ∨ ts = [1] ∨ ts = [0, 1] ∨ ts = []) : InS sp0 bs0 sc0 1 (un 2 ts) := ⟨f0 ts h, rfl, rfl⟩
theorem img0 (p ts us : List Int) (h : relImgK p ⟨1, ts⟩ = ⟨1, us⟩) : mdImg p (un 2 ts) = un 2 us := by
  simp only [mdImg, un, List.map_cons, List.map_nil, relImg_K, h]
theorem i1 : mdImg [0, 1] (un 2 [0]) = un 2 [0] := img0 _ _ _ (by kernel_rfl)
theorem i2 : mdImg [1, 0] (un 2 [0]) = un 2 [1] := img0 _ _ _ (by kernel_rfl)
theorem i3 : mdImg [0, 1] (un 2 [0, 1]) = un 2 [0, 1] := img0 _ _ _ (by kernel_rfl)
theorem i4 : mdImg [1, 0] (un 2 [0, 1]) = un 2 [0, 1] := img0 _ _ _ (by kernel_rfl)
theorem un_inj {a b : List Int} : un 2 a = un 2 b ↔ a = b := by
  simp [un]
theorem o1 : ordI (freeL bs0 0) (un 2 [1]) (un 2 [0]) < 0 := by decide
theorem o2 : ¬ ordI (freeL bs0 0) (un 2 [0]) (un 2 [0]) < 0 := by decide
theorem c0 : canonL (freeL bs0 0) (un 2 [0]) [[0, 1], [1, 0]] (un 2 [0]) = un 2 [1] := by
  simp only [canonL, i1, i2, if_neg o2, if_pos o1]
theorem st1 : stabL [[0, 1], [1, 0]] (un 2 [0]) = [[0, 1]] := by
  have h : ¬ un 2 [1] = un 2 [0] := fun h => by simp [un_inj] at h
  simp [stabL, i1, i2, h]
theorem st2 : stabL [[0, 1], [1, 0]] (un 2 [0, 1]) = [[0, 1], [1, 0]] := by
  simp [stabL, i3, i4]
theorem is1 : isoB [[0, 1], [1, 0]] (un 2 [0]) (un 2 [1]) = true := by simp [isoB, i1, i2]
theorem is2 : isoB [[0, 1], [1, 0]] (un 2 [0]) (un 2 []) = false := by simp [isoB, i1, i2, un_inj]
theorem orbit0 : SoundP Tryz.prog 15 [eSp sp0, lBd bs0, eMd (un 2 [0])] (lMd [un 2 [1], un 2 [0]]) := by
  have h := orbitU sp0 bs0 (un 2 [0]) _ 1 (fv_grpO (f0 [0] (by simp)) F0) (grp_ne F0) (ordS (sp := sp0) (sc := sc0) (n := 1)) (fun p hp => (in0 [0] (by simp)).img F0 hp) (show (grpS sp0 sc0 2 bs0).length ≤ 1000000 by have := grp_len F0; omega) [un 2 [1], un 2 [0]] (by simp [o1]) (fun z => by
    rw [show grpS sp0 (un 2 [0]).sc 2 bs0 = [[0, 1], [1, 0]] from g0]
    simp [i1, i2, or_comm])
  exact h
theorem canon0 : SoundP Tryz.prog 12 [eSp sp0, lBd bs0, eMd (un 2 [0])] (eMd (un 2 [1])) := by
  have h := canonicalU sp0 bs0 (un 2 [0]) _ 1 (fv_grpO (f0 [0] (by simp)) F0)
  rw [show grpS sp0 (un 2 [0]).sc 2 bs0 = [[0, 1], [1, 0]] from g0, c0] at h
  exact h
theorem stab0 (ts : List Int) (h : ts = [0] ∨ ts = [1] ∨ ts = [0, 1] ∨ ts = []) : SoundP Tryz.prog 18 [eSp sp0, lBd bs0, eMd (un 2 ts)] (lL (stabL [[0, 1], [1, 0]] (un 2 ts))) := by
  have h := stabilizerU sp0 bs0 (un 2 ts) _ (fv_grpO (f0 ts h) F0).toGrp (Nat.le_of_ble_eq_true rfl)
  rw [show grpS sp0 (un 2 ts).sc 2 bs0 = [[0, 1], [1, 0]] from g0] at h
  exact h
theorem iso0 (ts us : List Int) (h : ts = [0] ∨ ts = [1] ∨ ts = [0, 1] ∨ ts = []) : SoundP Tryz.prog 20 [eSp sp0, lBd bs0, eMd (un 2 ts), eMd (un 2 us)] (aB (isoB [[0, 1], [1, 0]] (un 2 ts) (un 2 us))) := by
  have h := isomorphicU sp0 bs0 (un 2 ts) (un 2 us) _ (fv_grpO (f0 ts h) F0).toGrp (Nat.le_of_ble_eq_true rfl)
  rw [show grpS sp0 (un 2 ts).sc 2 bs0 = [[0, 1], [1, 0]] from g0] at h
  exact h
theorem wkBs0 : WK (.lst true [[.sc (.int .i64 1), .lst true [], .sc (.int .i64 1), .lst true [[.sc (.int .i64 0)], [.sc (.int .i64 1)]]]]) (lBd bs0) :=
  WK.row (.cons (.hf (HF.sc _)) (.cons (WK.ints []) (.cons (.hf (HF.sc _)) (.cons (WK.ints [0, 1]) .nil))))
theorem hf_lMd_rows (l : List Md) : ∀ r, r ∈ l.map cMd → ∀ c, c ∈ r → HF c := fun r hr c hc => by
  obtain ⟨n, _, rfl⟩ := List.mem_map.1 hr
  exact hf_cMd n c hc
theorem headO : SoundP Tryz.prog 9 [] (aB true) := by
  refine SoundP.of_sound (Sound.of_awp Tryz.call9 Tryz.func9 rfl (Nat.le_of_ble_eq_true (by kernel_rfl)) (by kernel_rfl) (pl := {}) ?_)
  simp [go_sem]
  refine DrawGo.intro (by kernel_rfl) ?_
  simp [go_sem]
  refine CallStep.pure (unary26 2 [0]) (.cons (.hf (HF.sc _)) (.cons (WK.ints [0]) .nil)) ?_
  simp [go_sem]
  refine CallStep.pure orbit0 (.cons (wkSp false) (.cons wkBs0 (.cons (.hf (hf_eMd (un 2 [0]))) .nil))) ?_
  simp [go_sem]
  refine DrawGo.intro (by kernel_rfl) ?_
  simp [go_sem]
  refine CallStep.pure (unary26 2 [1]) (.cons (.hf (HF.sc _)) (.cons (WK.ints [1]) .nil)) ?_
  simp [go_sem]
  refine CallStep.pure (unary26 2 [0]) (.cons (.hf (HF.sc _)) (.cons (WK.ints [0]) .nil)) ?_
  simp [go_sem]
  have hs1 := sameAll26 [un 2 [1], un 2 [0]] [un 2 [1], un 2 [0]] (by decide) (fun l hl => by
    simp at hl
    rcases hl with rfl | rfl
    · exact fv_sm (f0 [1] (by simp))
    · exact fv_sm (f0 [0] (by simp)))
  rw [decide_eq_true rfl] at hs1
  refine CallStep.pure hs1 (.cons (.hf (hf_lMd [un 2 [1], un 2 [0]])) (.cons (WK.lst fun r hr c hc => ?_) .nil)) ?_
  · exact hf_lMd_rows [un 2 [1], un 2 [0]] r hr c hc
  simp [go_sem]
  refine CallStep.pure (unary26 2 [0]) (.cons (.hf (HF.sc _)) (.cons (WK.ints [0]) .nil)) ?_
  simp [go_sem]
  refine CallStep.pure canon0 (.cons (wkSp false) (.cons wkBs0 (.cons (.hf (hf_eMd (un 2 [0]))) .nil))) ?_
  simp [go_sem]
  refine CallStep.pure (unary26 2 [1]) (.cons (.hf (HF.sc _)) (.cons (WK.ints [1]) .nil)) ?_
  simp [go_sem]
  have hs2 := sameModels11 (un 2 [1]) (un 2 [1]) (fv_sm (f0 [1] (by simp)))
  rw [decide_eq_true rfl] at hs2
  refine CallStep.pure hs2 (.cons (.hf (hf_eMd (un 2 [1]))) (.cons (.hf (hf_eMd (un 2 [1]))) .nil)) ?_
  simp [go_sem]
  refine CallStep.pure (unary26 2 [0]) (.cons (.hf (HF.sc _)) (.cons (WK.ints [0]) .nil)) ?_
  simp [go_sem]
  refine CallStep.pure (stab0 [0] (by simp)) (.cons (wkSp false) (.cons wkBs0 (.cons (.hf (hf_eMd (un 2 [0]))) .nil))) ?_
  rw [st1]
  simp [go_sem]
  have hs3 := sameAll11 [[0, 1]] [[0, 1]] (by decide) (fun l hl => by simp at hl; subst hl; decide)
  rw [decide_eq_true rfl] at hs3
  refine CallStep.pure hs3 (.cons (.hf (hf_lL [[0, 1]])) (.cons (WK.lls [[0, 1]]) .nil)) ?_
  simp [go_sem]
  refine CallStep.pure (unary26 2 [0, 1]) (.cons (.hf (HF.sc _)) (.cons (WK.ints [0, 1]) .nil)) ?_
  simp [go_sem]
  refine CallStep.pure (stab0 [0, 1] (by simp)) (.cons (wkSp false) (.cons wkBs0 (.cons (.hf (hf_eMd (un 2 [0, 1]))) .nil))) ?_
  rw [st2]
  simp [go_sem]
  have hs4 := sameAll11 [[0, 1], [1, 0]] [[0, 1], [1, 0]] (by decide) (fun l hl => by simp at hl; rcases hl with rfl | rfl <;> decide)
  rw [decide_eq_true rfl] at hs4
  refine CallStep.pure hs4 (.cons (.hf (hf_lL [[0, 1], [1, 0]])) (.cons (WK.lls [[0, 1], [1, 0]]) .nil)) ?_
  simp [go_sem]
  refine CallStep.pure (unary26 2 [0]) (.cons (.hf (HF.sc _)) (.cons (WK.ints [0]) .nil)) ?_
  simp [go_sem]
  refine CallStep.pure (unary26 2 [1]) (.cons (.hf (HF.sc _)) (.cons (WK.ints [1]) .nil)) ?_
  simp [go_sem]
  refine CallStep.pure (iso0 [0] [1] (by simp)) (.cons (wkSp false) (.cons wkBs0 (.cons (.hf (hf_eMd (un 2 [0]))) (.cons (.hf (hf_eMd (un 2 [1]))) .nil)))) ?_
  rw [is1]
  simp [go_sem]
  refine CallStep.pure (unary26 2 [0]) (.cons (.hf (HF.sc _)) (.cons (WK.ints [0]) .nil)) ?_
  simp [go_sem]
  refine CallStep.pure (unary26 2 []) (.cons (.hf (HF.sc _)) (.cons (WK.ints []) .nil)) ?_
  simp [go_sem]
  refine CallStep.pure (iso0 [0] [] (by simp)) (.cons (wkSp false) (.cons wkBs0 (.cons (.hf (hf_eMd (un 2 [0]))) (.cons (.hf (hf_eMd (un 2 []))) .nil)))) ?_
  rw [is2]
  simp [go_sem]
  exact .hf _ (HF.sc _)
end Go.Proofs.YtfniceomhfebhaaGreat.N14

set_option linter.unusedVariables false
set_option linter.unusedSimpArgs false
set_option maxRecDepth 100000
namespace Go.Proofs.YtfniceomhfebhaaGreat.W21
open Go Go.Ev Go.Proofs C1 C2 C3 C4 C5 C6 C7 C8 C9 C10 C11 C12 C13 C14 C15 C16 C17 C18 C19 C20 C21 C22 C23 C24 C25 C26 C27 C28 C29 C30 C31 C32 C33 C34 C35 L1 L2 L3 L4 L5 L6 L7 L8 L9 L10 L11 L12 L13 L14 L15 L16 L17 L20 L21 M1 M2 M3 M4 M5 M6 M7 M9 M10 M11 N1 N2 N3 N4 N5 N6 N7 N8 N9 N10 N11 N12 N13 N14 R1 R2 R3 R4 R5 R6

theorem args3m (sp : Sp) (bs : List Bd) (m : Md) : WKs [eSp sp, lBd bs, eMd m] [eSp sp, lBd bs, eMd m] := .cons (.hf (hf_eSp sp)) (.cons (.hf (hf_lBd bs)) (.cons (.hf (hf_eMd m)) .nil))
/-- what the program computes, at models within bounds -/
theorem orbitC {sp : Sp} {bs : List Bd} {sc : Sc} {n N : Nat} (F : Fit sp sc bs 5 N) {m : Md} (h : InS sp bs sc n m) : SoundP Tryz.prog 15 [eSp sp, lBd bs, eMd m] (lMd (orbL bs (grpS sp sc N bs) m)) := by
  obtain ⟨f, rfl, rfl⟩ := h
  have hS := InS.own f
  obtain ⟨h1, h2⟩ := orb_ok F hS
  refine orbitU sp bs m _ m.states.length (fv_grpO f F) (grp_ne F) ordS (fun p hp => hS.img F hp) (by have := grp_len F; omega) _ h1 (fun z => ?_)
  rw [h2 z, isoB_iff, List.mem_map]
theorem canonC {sp : Sp} {bs : List Bd} {sc : Sc} {n N : Nat} (F : Fit sp sc bs 5 N) {m : Md} (h : InS sp bs sc n m) : SoundP Tryz.prog 12 [eSp sp, lBd bs, eMd m] (eMd (cano bs (grpS sp sc N bs) m)) := by
  obtain ⟨f, rfl, rfl⟩ := h
  exact canonicalU sp bs m _ m.states.length (fv_grpO f F)
theorem isoC {sp : Sp} {bs : List Bd} {sc : Sc} {n N : Nat} (F : Fit sp sc bs 5 N) {m : Md} (h : InS sp bs sc n m) (c : Md) : SoundP Tryz.prog 20 [eSp sp, lBd bs, eMd m, eMd c] (aB (isoB (grpS sp sc N bs) m c)) := by
  obtain ⟨f, rfl, rfl⟩ := h
  exact isomorphicU sp bs m c _ (fv_grpO f F).toGrp (by have := f.sm.na; omega)
theorem stabC {sp : Sp} {bs : List Bd} {sc : Sc} {n N : Nat} (F : Fit sp sc bs 5 N) {m : Md} (h : InS sp bs sc n m) : SoundP Tryz.prog 18 [eSp sp, lBd bs, eMd m] (lL (stabL (grpS sp sc N bs) m)) := by
  obtain ⟨f, rfl, rfl⟩ := h
  exact stabilizerU sp bs m _ (fv_grpO f F).toGrp (by have := f.sm.na; omega)
theorem modelC {sp : Sp} {bs : List Bd} {sc : Sc} {n N : Nat} (F : Fit sp sc bs 5 N) {m : Md} (h : InS sp bs sc n m) {p : List Int} (hp : p ∈ grpS sp sc N bs) : SoundP Tryz.prog 23 [lI p, eMd m] (eMd (mdImg p m)) :=
  modelR11 (grp_perm F hp) F.le12 m (ins_g F h) (fv_sm h.f)
theorem countsU (sp : Sp) (bs : List Bd) (m : Md) : SoundP Tryz.prog 6 [eSp sp, lBd bs, eMd m] (aB true) := by
  refine SoundP.of_sound (Sound.of_awp Tryz.call6 Tryz.func6 rfl (Nat.le_of_ble_eq_true (by kernel_rfl)) (by kernel_rfl) (pl := {}) ?_)
  simp [go_sem]
  refine CallStep.pure headO .nil ?_
  simp [go_sem]
  refine CallStep.pure (fits26 sp bs m) (args3m sp bs m) ?_
  by_cases h : FVal sp bs m
  case neg =>
    rw [dec_false h]
    simp [go_sem]
    exact .hf _ (HF.sc _)
  rw [dec_true h]
  obtain ⟨N, F⟩ := fv_fit h
  have hS := InS.own h
  have hst := orb_stab F hS
  have hgl := grp_len F
  have hN6 : N ≤ 6 := by have := F.le; omega
  have hol := orb_len F hS
  have hO := orbitC F hS
  have hT := stabC F hS
  have hG := group26 F hN6
  have hmul : ((orbL bs (grpS sp m.sc N bs) m).length : Int) * ((stabL (grpS sp m.sc N bs) m).length : Int) = ((grpS sp m.sc N bs).length : Int) := by rw [hst]; exact (Int.natCast_mul _ _).symm
  have hw : IntKind.i64.wrap ((grpS sp m.sc N bs).length : Int) = ((grpS sp m.sc N bs).length : Int) := wrap_i64 (by omega) (by omega)
  generalize grpS sp m.sc N bs = G at *
  generalize orbL bs G m = L at *
  generalize stabL G m = T at *
  simp [go_sem]
  refine DrawGo.intro (by kernel_rfl) ?_
  simp [go_sem]
  refine CallStep.pure hO (args3m sp bs m) ?_
  simp [go_sem]
  refine CallStep.pure hT (args3m sp bs m) ?_
  simp [go_sem, hmul, hw]
  refine CallStep.pure hG (args3 sp m.sc bs) ?_
  simp [go_sem, hmul, hw]
  exact .hf _ (HF.sc _)
end Go.Proofs.YtfniceomhfebhaaGreat.W21
