/-
  Own library, part 5: an abstract reading of values and a calculus over it; contracts of functions; plain lemmas.
-/
import Derived.Test.YtiophnmdopoeeaaMd

set_option linter.unusedVariables false
set_option linter.unusedSimpArgs false
set_option maxRecDepth 100000
namespace Go.Proofs.Ytiophnmdopoeeaa.L3
open Go Go.Ev Go.Proofs Go.Proofs.Ytiophnmdopoeeaa.C1 Go.Proofs.Ytiophnmdopoeeaa.C2 Go.Proofs.Ytiophnmdopoeeaa.C3 Go.Proofs.Ytiophnmdopoeeaa.C4 Go.Proofs.Ytiophnmdopoeeaa.C5 Go.Proofs.Ytiophnmdopoeeaa.C6 Go.Proofs.Ytiophnmdopoeeaa.C7 Go.Proofs.Ytiophnmdopoeeaa.C9 Go.Proofs.Ytiophnmdopoeeaa.C10 Go.Proofs.Ytiophnmdopoeeaa.C11 Go.Proofs.Ytiophnmdopoeeaa.C12 Go.Proofs.Ytiophnmdopoeeaa.C13 Go.Proofs.Ytiophnmdopoeeaa.C14 Go.Proofs.Ytiophnmdopoeeaa.C15 Go.Proofs.Ytiophnmdopoeeaa.C16 Go.Proofs.Ytiophnmdopoeeaa.C17 Go.Proofs.Ytiophnmdopoeeaa.C18 Go.Proofs.Ytiophnmdopoeeaa.C19 Go.Proofs.Ytiophnmdopoeeaa.C20 Go.Proofs.Ytiophnmdopoeeaa.C21 Go.Proofs.Ytiophnmdopoeeaa.C22 Go.Proofs.Ytiophnmdopoeeaa.C23 Go.Proofs.Ytiophnmdopoeeaa.C24 Go.Proofs.Ytiophnmdopoeeaa.C25 Go.Proofs.Ytiophnmdopoeeaa.C26 Go.Proofs.Ytiophnmdopoeeaa.C27 Go.Proofs.Ytiophnmdopoeeaa.C28 Go.Proofs.Ytiophnmdopoeeaa.C29 Go.Proofs.Ytiophnmdopoeeaa.C30 Go.Proofs.Ytiophnmdopoeeaa.C31 Go.Proofs.Ytiophnmdopoeeaa.C32 Go.Proofs.Ytiophnmdopoeeaa.C33 Go.Proofs.Ytiophnmdopoeeaa.C34 Go.Proofs.Ytiophnmdopoeeaa.C35 Go.Proofs.Ytiophnmdopoeeaa.L1 Go.Proofs.Ytiophnmdopoeeaa.L2

theorem nodup_perm {α : Type} [DecidableEq α] {l₁ l₂ : List α} (h1 : l₁.Nodup) (h2 : l₂.Nodup) (hs : ∀ x, x ∈ l₁ → x ∈ l₂) (hl : l₂.length ≤ l₁.length) : l₁.Perm l₂ := by
  rw [List.perm_ext_iff_of_nodup h1 h2]
  intro a
  refine ⟨hs a, fun ha => Decidable.byContradiction fun hn => ?_⟩
  have := List.Nodup.length_le_of_subset (List.nodup_cons.2 ⟨hn, h1⟩) (l₂ := l₂) (fun x hx => by
    rcases List.mem_cons.1 hx with rfl | hx
    · exact ha
    · exact hs x hx)
  simp at this; omega
theorem sorted_nodup {l : List Int} (h : sorted l) : l.Nodup := List.Pairwise.imp (fun h e => by omega) h
theorem sorted_le {l : List Int} (h : sorted l) : l.Pairwise (· ≤ ·) := List.Pairwise.imp (fun h => by omega) h
theorem srtI_eq {l m : List Int} (hm : sorted m) (h : l.Perm m) : srtI l = m :=
  List.Perm.eq_of_pairwise (le := (· ≤ ·)) (fun a b _ _ h1 h2 => by omega) (srtI_sorted l) (sorted_le hm) ((srtI_perm l).trans h)
theorem srtI_strict {l : List Int} (h : l.Nodup) : sorted (srtI l) := by
  have h1 := srtI_sorted l
  have h2 : (srtI l).Nodup := (srtI_perm l).nodup_iff.2 h
  unfold sorted
  rw [List.pairwise_iff_getElem] at *
  intro i j hi hj hij
  have := h1 i j hi hj hij
  have := List.pairwise_iff_getElem.1 h2 i j hi hj hij
  omega

/-- what p makes of a tuple -/
abbrev act (p : List Int) (N : Nat) (k : Nat) (t : Int) : Int := imgN p N t k
theorem act_dig {N : Nat} {p : List Int} (hp : PermL N p) (hN : 1 ≤ N) (k : Nat) (t : Int) : digN N (act p N k t) k = (digN N t k).map (fun x => gI p x.toNat) ∧ 0 ≤ act p N k t ∧ act p N k t < (N : Int) ^ k := by
  have hd : Dg N ((digN N t k).map fun x => gI p x.toNat) := by
    intro d hd
    obtain ⟨x, hx, rfl⟩ := List.mem_map.1 hd
    have := digN_dg (n := N) (t := t) (by omega) k x hx
    exact hp.rng _ (gI_mem (by rw [hp.len]; omega))
  have hlen : ((digN N t k).map fun x => gI p x.toNat).length = k := by rw [List.length_map, digN_len]
  have h1 := digN_val (n := N) (by omega) hd
  have h2 := valD_ok (n := N) (by omega) hd
  rw [hlen] at h1 h2
  rw [act, imgN_val]
  exact ⟨h1, h2⟩
theorem map_gI_inj {N : Nat} {p : List Int} (hp : PermL N p) : ∀ {a b : List Int}, Dg N a → Dg N b → a.map (fun x => gI p x.toNat) = b.map (fun x => gI p x.toNat) → a = b
  | [], [], _, _, _ => rfl
  | [], _ :: _, _, _, h => by simp at h
  | _ :: _, [], _, _, h => by simp at h
  | x :: a, y :: b, ha, hb, h => by
    simp only [List.map_cons, List.cons.injEq] at h
    have hx := ha.cons.1
    have hy := hb.cons.1
    have := gI_inj hp.nd (by rw [hp.len]; omega) (by rw [hp.len]; omega) h.1
    have e : x = y := by omega
    rw [e, map_gI_inj hp ha.cons.2 hb.cons.2 h.2]
theorem act_inj {N : Nat} {p : List Int} (hp : PermL N p) (hN : 1 ≤ N) {k : Nat} {t u : Int} (ht : 0 ≤ t ∧ t < (N : Int) ^ k) (hu : 0 ≤ u ∧ u < (N : Int) ^ k) (h : act p N k t = act p N k u) : t = u := by
  have e := (act_dig hp hN k t).1.symm.trans ((congrArg (fun z => digN N z k) h).trans (act_dig hp hN k u).1)
  have := map_gI_inj hp (digN_dg (by omega) k) (digN_dg (by omega) k) e
  rw [← val_digN (n := N) (by omega) k t ht.1 ht.2, ← val_digN (n := N) (by omega) k u hu.1 hu.2, this]

def Closed (p : List Int) (N : Nat) (r : Rl) : Prop := ∀ t, t ∈ r.ts → act p N r.ar.toNat t ∈ r.ts
theorem GRel.pos {N : Nat} {r : Rl} (h : GRel N r) {t : Int} (ht : t ∈ r.ts) : 1 ≤ N := by
  have hv := h.val t ht
  have := h.ar1
  refine Decidable.byContradiction fun hc => ?_
  have : N = 0 := by omega
  subst this
  obtain ⟨k, hk⟩ : ∃ k, r.ar.toNat = k + 1 := ⟨r.ar.toNat - 1, by omega⟩
  rw [hk, Int.pow_succ] at hv
  simp at hv; omega
theorem img_nodup {N : Nat} {p : List Int} (hp : PermL N p) {r : Rl} (g : GRel N r) : (r.ts.map (act p N r.ar.toNat)).Nodup := by
  have hs := sorted_nodup g.srt
  unfold List.Nodup
  rw [List.pairwise_map]
  rw [List.Nodup, List.pairwise_iff_getElem] at hs
  rw [List.pairwise_iff_getElem]
  intro i j hi hj hij e
  exact hs i j hi hj hij (act_inj hp (GRel.pos g (List.getElem_mem hi)) (g.val _ (List.getElem_mem hi)) (g.val _ (List.getElem_mem hj)) e)
theorem relImg_iff {N : Nat} {p : List Int} (hp : PermL N p) {r : Rl} (g : GRel N r) : r = relImg p r ↔ Closed p N r := by
  unfold relImg
  rw [hp.len]
  constructor
  · intro h t ht
    have e : r.ts = srtI (r.ts.map fun t => imgN p N t r.ar.toNat) := congrArg Rl.ts h
    have : act p N r.ar.toNat t ∈ srtI (r.ts.map fun t => imgN p N t r.ar.toNat) := (srtI_perm _).mem_iff.2 (List.mem_map.2 ⟨t, ht, rfl⟩)
    rw [← e] at this; exact this
  · intro h
    have hperm : (r.ts.map fun t => imgN p N t r.ar.toNat).Perm r.ts := nodup_perm (img_nodup hp g) (sorted_nodup g.srt) (fun x hx => by
      obtain ⟨t, ht, rfl⟩ := List.mem_map.1 hx
      exact h t ht) (by simp)
    obtain ⟨ar, ts⟩ := r
    simp only at *
    rw [srtI_eq g.srt hperm]

/-- a symmetry -/
structure SymP (sc : Sc) (N : Nat) (rs : List Rl) (p : List Int) : Prop where
  perm : PermL N p
  keep : KeepS (sortsL sc) N p
  cl : ∀ r, r ∈ rs → Closed p N r
theorem symB_iff {sc : Sc} {bs : List Bd} {N : Nat} (hN : sumI sc.atoms = N) (gr : ∀ r, r ∈ relsOf bs → GRel N r) {p : List Int} : symB sc bs p = true ↔ SymP sc N (relsOf bs) p := by
  unfold symB
  rw [Bool.and_eq_true, validP_iff hN, List.all_eq_true]
  constructor
  · rintro ⟨⟨h1, h2⟩, h3⟩
    exact ⟨h1, h2, fun r hr => (relImg_iff h1 (gr r hr)).1 (by simpa using h3 r hr)⟩
  · rintro ⟨h1, h2, h3⟩
    exact ⟨⟨h1, h2⟩, fun r hr => by simpa using (relImg_iff h1 (gr r hr)).2 (h3 r hr)⟩

/-! ### identity, composition, inverse -/
def idL (N : Nat) : List Int := (List.range N).map fun (i : Nat) => (i : Int)
theorem idL_get {N x : Nat} (h : x < N) : gI (idL N) x = x := by simp [gI, idL, h]
theorem idL_perm (N : Nat) : PermL N (idL N) := .of_surj (by simp [idL]) (fun v hv => by
  obtain ⟨i, hi, rfl⟩ := List.mem_map.1 hv
  simp at hi; omega) (fun v h0 h1 => List.mem_map.2 ⟨v.toNat, by simp; omega, by omega⟩)
theorem comp_get {p q : List Int} {x : Nat} (h : x < q.length) : gI (composeL p q) x = gI p (ap q x) := by
  unfold composeL
  rw [gI_eq (by simpa using h), List.getElem_map, ← gI_eq h]; rfl
theorem comp_perm {N : Nat} {p q : List Int} (hp : PermL N p) (hq : PermL N q) : PermL N (composeL p q) := by
  refine .of_surj (by simp [composeL, hq.len]) (fun v hv => ?_) (fun v h0 h1 => ?_)
  · obtain ⟨x, hx, rfl⟩ := List.mem_map.1 hv
    have := hq.rng x hx
    exact hp.rng _ (gI_mem (by rw [hp.len]; omega))
  · obtain ⟨y, hy, e⟩ := mem_gI (hp.surj h0 h1)
    obtain ⟨x, hx, e2⟩ := hq.ap_surj (y := y) (by rw [← hp.len]; exact hy)
    refine List.mem_map.2 ⟨gI q x, gI_mem (by rw [hq.len]; exact hx), ?_⟩
    rw [← e, ← e2]; rfl
theorem comp_ap {N : Nat} {p q : List Int} (hq : PermL N q) {x : Nat} (h : x < N) : ap (composeL p q) x = ap p (ap q x) := by
  unfold ap; rw [comp_get (by rw [hq.len]; exact h)]; rfl
/-- the inverse, by what it does -/
theorem invN_get {N : Nat} {p : List Int} (hp : PermL N p) : ∀ k, k ≤ N → ∀ x, x < k → gI (invN p k) (ap p x) = x
  | 0, _, x, hx => by omega
  | k + 1, hk, x, hx => by
    have ih := invN_get hp k (by omega)
    rw [invN, foldN_succ, ← invN]
    show gI ((invN p k).set (ap p k) (k : Int)) (ap p x) = x
    have hl : (invN p k).length = N := by rw [invN_len, hp.len]
    by_cases e : x = k
    · subst e
      unfold gI
      rw [List.getElem?_set_self (by rw [hl]; exact hp.ap_lt (by omega))]; rfl
    · have hne : ap p k ≠ ap p x := fun h => e (hp.ap_inj (by omega) (by omega) h.symm)
      have := ih x (by omega)
      unfold gI at this ⊢
      rw [List.getElem?_set_ne hne]; exact this
theorem inv_ok {N : Nat} {p : List Int} (hp : PermL N p) : PermL N (invL p) ∧ ∀ x, x < N → ap (invL p) (ap p x) = x := by
  have hl : (invL p).length = N := by rw [invL, invN_len, hp.len]
  have hg : ∀ x, x < N → gI (invL p) (ap p x) = x := fun x hx => by
    rw [invL, hp.len]; exact invN_get hp N (Nat.le_refl _) x hx
  refine ⟨.of_surj hl (fun v hv => ?_) (fun v h0 h1 => ?_), fun x hx => by unfold ap; rw [show (gI p x).toNat = ap p x from rfl, hg x hx]; omega⟩
  · obtain ⟨y, hy, rfl⟩ := mem_gI hv
    obtain ⟨x, hx, e⟩ := hp.ap_surj (y := y) (by omega)
    rw [← e, hg x hx]; omega
  · have := hg v.toNat (by omega)
    rw [show v = gI (invL p) (ap p v.toNat) by rw [this]; omega]
    exact gI_mem (by rw [hl]; exact hp.ap_lt (by omega))
theorem inv_ap2 {N : Nat} {p : List Int} (hp : PermL N p) {y : Nat} (hy : y < N) : ap p (ap (invL p) y) = y := by
  obtain ⟨x, hx, e⟩ := hp.ap_surj hy
  rw [← e, (inv_ok hp).2 x hx]
theorem perm_ext {N : Nat} {p q : List Int} (hp : PermL N p) (hq : PermL N q) (h : ∀ x, x < N → ap p x = ap q x) : p = q := by
  refine list_ext_gI (by rw [hp.len, hq.len]) fun x hx => ?_
  rw [hp.len] at hx
  rw [hp.ap_eq hx, hq.ap_eq hx, h x hx]

theorem act_comp {N : Nat} {p q : List Int} (hp : PermL N p) (hq : PermL N q) (hN : 1 ≤ N) (k : Nat) (t : Int) : act (composeL p q) N k t = act p N k (act q N k t) := by
  rw [act, act, imgN_val, imgN_val, (act_dig hq hN k t).1, List.map_map]
  congr 1
  refine List.map_congr_left fun x hx => ?_
  have := digN_dg (n := N) (t := t) (by omega) k x hx
  exact comp_get (by rw [hq.len]; omega)
theorem act_id {N : Nat} (hN : 1 ≤ N) (k : Nat) {t : Int} (h0 : 0 ≤ t) (h1 : t < (N : Int) ^ k) : act (idL N) N k t = t := by
  rw [act, imgN_val]
  have : (digN N t k).map (fun x => gI (idL N) x.toNat) = digN N t k := by
    conv => rhs; rw [← List.map_id (digN N t k)]
    refine List.map_congr_left fun x hx => ?_
    have := digN_dg (n := N) (t := t) (by omega) k x hx
    rw [idL_get (by omega)]; simp; omega
  rw [this]; exact val_digN (by omega) k t h0 h1
/-- closed sets: an injection into itself is onto -/
theorem closed_onto {N : Nat} {p : List Int} (hp : PermL N p) {r : Rl} (g : GRel N r) (h : Closed p N r) {u : Int} (hu : u ∈ r.ts) : ∃ t, t ∈ r.ts ∧ act p N r.ar.toNat t = u := by
  have hperm : (r.ts.map (act p N r.ar.toNat)).Perm r.ts := nodup_perm (img_nodup hp g) (sorted_nodup g.srt) (fun x hx => by
    obtain ⟨t, ht, rfl⟩ := List.mem_map.1 hx
    exact h t ht) (by simp)
  obtain ⟨t, ht, e⟩ := List.mem_map.1 (hperm.mem_iff.2 hu)
  exact ⟨t, ht, e⟩

theorem SymP.id {sc : Sc} {N : Nat} {rs : List Rl} (gr : ∀ r, r ∈ rs → GRel N r) : SymP sc N rs (idL N) :=
  ⟨idL_perm N, fun x hx => by unfold ap; rw [idL_get hx]; rfl, fun r hr t ht => by
    have := (gr r hr).val t ht
    rw [act_id (GRel.pos (gr r hr) ht) _ this.1 this.2]; exact ht⟩
theorem SymP.comp {sc : Sc} {N : Nat} {rs : List Rl} (gr : ∀ r, r ∈ rs → GRel N r) {p q : List Int} (h : SymP sc N rs p) (k : SymP sc N rs q) : SymP sc N rs (composeL p q) :=
  ⟨comp_perm h.perm k.perm, fun x hx => by rw [comp_ap k.perm hx, h.keep _ (k.perm.ap_lt hx), k.keep x hx], fun r hr t ht => by
    rw [act_comp h.perm k.perm (GRel.pos (gr r hr) ht)]
    exact h.cl r hr _ (k.cl r hr t ht)⟩
theorem SymP.inv {sc : Sc} {N : Nat} {rs : List Rl} (gr : ∀ r, r ∈ rs → GRel N r) {p : List Int} (h : SymP sc N rs p) : SymP sc N rs (invL p) := by
  obtain ⟨h1, h2⟩ := inv_ok h.perm
  refine ⟨h1, fun x hx => ?_, fun r hr u hu => ?_⟩
  · have := h.keep (ap (invL p) x) (h1.ap_lt hx)
    rw [inv_ap2 h.perm hx] at this
    exact this.symm
  · obtain ⟨t, ht, rfl⟩ := closed_onto h.perm (gr r hr) (h.cl r hr) hu
    have hN := GRel.pos (gr r hr) ht
    have hv := (gr r hr).val t ht
    rw [← act_comp h1 h.perm hN]
    have : composeL (invL p) p = idL N := perm_ext (comp_perm h1 h.perm) (idL_perm N) fun x hx => by
      rw [comp_ap h.perm hx, h2 x hx]; unfold ap; rw [idL_get hx]; rfl
    rw [this, act_id hN _ hv.1 hv.2]; exact ht
end Go.Proofs.Ytiophnmdopoeeaa.L3

set_option linter.unusedVariables false
set_option linter.unusedSimpArgs false
set_option maxRecDepth 100000
namespace Go.Proofs.Ytiophnmdopoeeaa.L4
open Go Go.Ev Go.Proofs Go.Proofs.Ytiophnmdopoeeaa.C1 Go.Proofs.Ytiophnmdopoeeaa.C2 Go.Proofs.Ytiophnmdopoeeaa.C3 Go.Proofs.Ytiophnmdopoeeaa.C4 Go.Proofs.Ytiophnmdopoeeaa.C5 Go.Proofs.Ytiophnmdopoeeaa.C6 Go.Proofs.Ytiophnmdopoeeaa.C7 Go.Proofs.Ytiophnmdopoeeaa.C9 Go.Proofs.Ytiophnmdopoeeaa.C10 Go.Proofs.Ytiophnmdopoeeaa.C11 Go.Proofs.Ytiophnmdopoeeaa.C12 Go.Proofs.Ytiophnmdopoeeaa.C13 Go.Proofs.Ytiophnmdopoeeaa.C14 Go.Proofs.Ytiophnmdopoeeaa.C15 Go.Proofs.Ytiophnmdopoeeaa.C16 Go.Proofs.Ytiophnmdopoeeaa.C17 Go.Proofs.Ytiophnmdopoeeaa.C18 Go.Proofs.Ytiophnmdopoeeaa.C19 Go.Proofs.Ytiophnmdopoeeaa.C20 Go.Proofs.Ytiophnmdopoeeaa.C21 Go.Proofs.Ytiophnmdopoeeaa.C22 Go.Proofs.Ytiophnmdopoeeaa.C23 Go.Proofs.Ytiophnmdopoeeaa.C24 Go.Proofs.Ytiophnmdopoeeaa.C25 Go.Proofs.Ytiophnmdopoeeaa.C26 Go.Proofs.Ytiophnmdopoeeaa.C27 Go.Proofs.Ytiophnmdopoeeaa.C28 Go.Proofs.Ytiophnmdopoeeaa.C29 Go.Proofs.Ytiophnmdopoeeaa.C30 Go.Proofs.Ytiophnmdopoeeaa.C31 Go.Proofs.Ytiophnmdopoeeaa.C32 Go.Proofs.Ytiophnmdopoeeaa.C33 Go.Proofs.Ytiophnmdopoeeaa.C34 Go.Proofs.Ytiophnmdopoeeaa.C35 Go.Proofs.Ytiophnmdopoeeaa.L1 Go.Proofs.Ytiophnmdopoeeaa.L2 Go.Proofs.Ytiophnmdopoeeaa.L3

/-! ### signatures are multisets of words -/
theorem placeW_shift (w : List Int) : ∀ (m : Sig) (i : Nat), placeW w m i = (placeW w m 0).map (· + i)
  | [], i => rfl
  | p :: m, i => by
    rw [placeW, placeW]
    split
    · simp
    · rw [placeW_shift w m (i + 1), placeW_shift w m (0 + 1), Option.map_map]
      congr 1
      funext x
      simp; omega
theorem lookS_nil (w : List Int) : lookS [] w = 0 := rfl
theorem lookS_cons (p : List Int × Int) (m : Sig) (w : List Int) : lookS (p :: m) w = if w = p.1 then p.2 else lookS m w := by
  unfold lookS
  rw [placeW]
  by_cases h : w = p.1
  · rw [if_pos h, if_pos h]; rfl
  · rw [if_neg h, if_neg h, placeW_shift w m (0 + 1)]
    cases placeW w m 0 with
    | none => rfl
    | some i => simp
theorem bump_nil (w : List Int) : bump [] w = [(w, 1)] := rfl
theorem bump_cons (p : List Int × Int) (m : Sig) (w : List Int) : bump (p :: m) w = if w = p.1 then (w, p.2 + 1) :: m else p :: bump m w := by
  unfold bump
  rw [lookS_cons, placeW]
  split
  · rename_i h
    split at h
    · rename_i he
      simp only [Option.some.injEq] at h; subst h
      simp [he]
    · rename_i he
      rw [placeW_shift w m (0 + 1)] at h
      cases hq : placeW w m 0 with
      | none => rw [hq] at h; simp at h
      | some j =>
        rw [hq] at h
        simp at h; subst h
        simp [he, List.set_cons_succ]
  · rename_i h
    split at h
    · simp at h
    · rename_i he
      rw [placeW_shift w m (0 + 1)] at h
      cases hq : placeW w m 0 with
      | none => simp [he]
      | some j => rw [hq] at h; simp at h
theorem lookS_bump (w u : List Int) : ∀ m : Sig, lookS (bump m w) u = lookS m u + if u = w then 1 else 0
  | [] => by rw [bump_nil, lookS_cons, lookS_nil]; split <;> simp [*]
  | p :: m => by
    rw [bump_cons]
    by_cases h : w = p.1
    · rw [if_pos h, lookS_cons, lookS_cons]
      simp only
      by_cases h2 : u = w
      · rw [if_pos h2, if_pos (h2.trans h), if_pos h2]
      · rw [if_neg h2, if_neg (fun e => h2 (e.trans h.symm)), if_neg h2]; omega
    · rw [if_neg h, lookS_cons, lookS_cons, lookS_bump w u m]
      by_cases h2 : u = p.1
      · rw [if_pos h2, if_pos h2, if_neg (fun e => h (e.symm.trans h2))]; omega
      · rw [if_neg h2, if_neg h2]
/-- a well-made signature -/
structure SigW (m : Sig) : Prop where
  nd : (m.map Prod.fst).Nodup
  pos : ∀ p, p ∈ m → 1 ≤ p.2
theorem mem_bump (w : List Int) : ∀ (m : Sig) (u : List Int), u ∈ (bump m w).map Prod.fst ↔ u = w ∨ u ∈ m.map Prod.fst
  | [], u => by simp [bump_nil]
  | p :: m, u => by
    rw [bump_cons]
    by_cases h : w = p.1
    · rw [if_pos h]; simp [h]
    · rw [if_neg h, List.map_cons, List.map_cons, List.mem_cons, List.mem_cons, mem_bump w m u]
      constructor
      · rintro (h | h | h)
        · exact .inr (.inl h)
        · exact .inl h
        · exact .inr (.inr h)
      · rintro (h | h | h)
        · exact .inr (.inl h)
        · exact .inl h
        · exact .inr (.inr h)
theorem SigW.bump {w : List Int} : ∀ {m : Sig}, SigW m → SigW (bump m w)
  | [], h => by rw [bump_nil]; exact ⟨by simp, fun p hp => by simp at hp; subst hp; simp⟩
  | p :: m, h => by
    have hn := h.nd
    rw [List.map_cons, List.nodup_cons] at hn
    rw [bump_cons]
    by_cases e : w = p.1
    · rw [if_pos e]
      refine ⟨by rw [List.map_cons, List.nodup_cons, e]; exact hn, fun q hq => ?_⟩
      rcases List.mem_cons.1 hq with rfl | hq
      · have := h.pos p (by simp); simp; omega
      · exact h.pos q (by simp [hq])
    · rw [if_neg e]
      have ih := SigW.bump (w := w) (m := m) ⟨hn.2, fun q hq => h.pos q (by simp [hq])⟩
      refine ⟨?_, fun q hq => ?_⟩
      · rw [List.map_cons, List.nodup_cons, mem_bump]
        exact ⟨fun hc => hc.elim (fun h => e h.symm) hn.1, ih.nd⟩
      · rcases List.mem_cons.1 hq with rfl | hq
        · exact h.pos q (by simp)
        · exact ih.pos q hq
theorem lookS_mem : ∀ {m : Sig}, SigW m → ∀ p, p ∈ m → lookS m p.1 = p.2
  | [], _, p, hp => by simp at hp
  | q :: m, h, p, hp => by
    have hn := h.nd
    rw [List.map_cons, List.nodup_cons] at hn
    rw [lookS_cons]
    rcases List.mem_cons.1 hp with rfl | hp
    · rw [if_pos rfl]
    · rw [if_neg (fun e => hn.1 (by rw [← e]; exact List.mem_map.2 ⟨p, hp, rfl⟩))]
      exact lookS_mem ⟨hn.2, fun q hq => h.pos q (by simp [hq])⟩ p hp

def sigF (l : List (List Int)) (m : Sig) : Sig := l.foldl bump m
theorem sigF_look : ∀ (l : List (List Int)) (m : Sig) (u : List Int), lookS (sigF l m) u = lookS m u + (l.count u : Nat)
  | [], m, u => by simp [sigF]
  | w :: l, m, u => by
    have := sigF_look l (bump m w) u
    rw [lookS_bump] at this
    show lookS (sigF l (bump m w)) u = _
    rw [this, List.count_cons]
    by_cases h : u = w
    · subst h; simp; omega
    · have h2 : ¬ w = u := fun e => h e.symm
      simp [h, h2]
theorem sigF_mem : ∀ (l : List (List Int)) (m : Sig) (u : List Int), u ∈ (sigF l m).map Prod.fst ↔ u ∈ l ∨ u ∈ m.map Prod.fst
  | [], m, u => by simp [sigF]
  | w :: l, m, u => by
    show u ∈ (sigF l (bump m w)).map Prod.fst ↔ _
    rw [sigF_mem l, mem_bump, List.mem_cons]
    constructor
    · rintro (h | h | h)
      · exact .inl (.inr h)
      · exact .inl (.inl h)
      · exact .inr h
    · rintro ((h | h) | h)
      · exact .inr (.inl h)
      · exact .inl h
      · exact .inr (.inr h)
theorem sigF_w : ∀ (l : List (List Int)) {m : Sig}, SigW m → SigW (sigF l m)
  | [], m, h => h
  | w :: l, m, h => sigF_w l h.bump

theorem sigEq_iff (a b : List (List Int)) : sigEq (sigF a []) (sigF b []) = true ↔ a.Perm b := by
  have w0 : SigW [] := ⟨by simp, fun p hp => by simp at hp⟩
  have wa := sigF_w a w0
  have wb := sigF_w b w0
  have la : ∀ u, lookS (sigF a []) u = (a.count u : Nat) := fun u => by rw [sigF_look, lookS_nil]; simp
  have lb : ∀ u, lookS (sigF b []) u = (b.count u : Nat) := fun u => by rw [sigF_look, lookS_nil]; simp
  have ma : ∀ u, u ∈ (sigF a []).map Prod.fst ↔ u ∈ a := fun u => by rw [sigF_mem]; simp
  have mb : ∀ u, u ∈ (sigF b []).map Prod.fst ↔ u ∈ b := fun u => by rw [sigF_mem]; simp
  unfold sigEq
  rw [Bool.and_eq_true, decide_eq_true_eq, List.all_eq_true]
  constructor
  · rintro ⟨h1, h2⟩
    have hp : ((sigF a []).map Prod.fst).Perm ((sigF b []).map Prod.fst) := nodup_perm wa.nd wb.nd (fun u hu => by
      obtain ⟨p, hp, rfl⟩ := List.mem_map.1 hu
      have := h2 p hp
      rw [decide_eq_true_eq, lb] at this
      have hpos := wa.pos p hp
      rw [mb]
      exact List.count_pos_iff.1 (by omega)) (by simp [h1])
    rw [List.perm_iff_count]
    intro u
    by_cases hu : u ∈ a
    · obtain ⟨p, hp', rfl⟩ := List.mem_map.1 ((ma u).2 hu)
      have e1 := h2 p hp'
      rw [decide_eq_true_eq, lb] at e1
      have e2 := lookS_mem wa p hp'
      rw [la] at e2
      omega
    · have hu2 : ¬ u ∈ b := fun h => hu ((ma u).1 (hp.mem_iff.2 ((mb u).2 h)))
      rw [List.count_eq_zero.2 hu, List.count_eq_zero.2 hu2]
  · intro h
    have hp : ((sigF a []).map Prod.fst).Perm ((sigF b []).map Prod.fst) := (List.perm_ext_iff_of_nodup wa.nd wb.nd).2 fun u => by rw [ma, mb]; exact h.mem_iff
    refine ⟨by simpa using hp.length_eq, fun p hpm => ?_⟩
    rw [decide_eq_true_eq, lb, ← h.count_eq, ← la]
    exact lookS_mem wa p hpm
end Go.Proofs.Ytiophnmdopoeeaa.L4

set_option linter.unusedVariables false
set_option linter.unusedSimpArgs false
set_option maxRecDepth 100000
namespace Go.Proofs.Ytiophnmdopoeeaa.L5
open Go Go.Ev Go.Proofs Go.Proofs.Ytiophnmdopoeeaa.C1 Go.Proofs.Ytiophnmdopoeeaa.C2 Go.Proofs.Ytiophnmdopoeeaa.C3 Go.Proofs.Ytiophnmdopoeeaa.C4 Go.Proofs.Ytiophnmdopoeeaa.C5 Go.Proofs.Ytiophnmdopoeeaa.C6 Go.Proofs.Ytiophnmdopoeeaa.C7 Go.Proofs.Ytiophnmdopoeeaa.C9 Go.Proofs.Ytiophnmdopoeeaa.C10 Go.Proofs.Ytiophnmdopoeeaa.C11 Go.Proofs.Ytiophnmdopoeeaa.C12 Go.Proofs.Ytiophnmdopoeeaa.C13 Go.Proofs.Ytiophnmdopoeeaa.C14 Go.Proofs.Ytiophnmdopoeeaa.C15 Go.Proofs.Ytiophnmdopoeeaa.C16 Go.Proofs.Ytiophnmdopoeeaa.C17 Go.Proofs.Ytiophnmdopoeeaa.C18 Go.Proofs.Ytiophnmdopoeeaa.C19 Go.Proofs.Ytiophnmdopoeeaa.C20 Go.Proofs.Ytiophnmdopoeeaa.C21 Go.Proofs.Ytiophnmdopoeeaa.C22 Go.Proofs.Ytiophnmdopoeeaa.C23 Go.Proofs.Ytiophnmdopoeeaa.C24 Go.Proofs.Ytiophnmdopoeeaa.C25 Go.Proofs.Ytiophnmdopoeeaa.C26 Go.Proofs.Ytiophnmdopoeeaa.C27 Go.Proofs.Ytiophnmdopoeeaa.C28 Go.Proofs.Ytiophnmdopoeeaa.C29 Go.Proofs.Ytiophnmdopoeeaa.C30 Go.Proofs.Ytiophnmdopoeeaa.C31 Go.Proofs.Ytiophnmdopoeeaa.C32 Go.Proofs.Ytiophnmdopoeeaa.C33 Go.Proofs.Ytiophnmdopoeeaa.C34 Go.Proofs.Ytiophnmdopoeeaa.C35 Go.Proofs.Ytiophnmdopoeeaa.L1 Go.Proofs.Ytiophnmdopoeeaa.L2 Go.Proofs.Ytiophnmdopoeeaa.L3 Go.Proofs.Ytiophnmdopoeeaa.L4

/-! ### which words an atom meets -/
def WD (cls : List Int) (x : Int) (tup : List Int) : List Int := tup.map fun v => if v = x then 0 else gI cls v.toNat + 1
theorem WD_len (cls : List Int) (x : Int) (tup : List Int) : (WD cls x tup).length = tup.length := by simp [WD]
/-- the words of an atom in a relation -/
def wl (N : Nat) (cls : List Int) (r : Rl) (x : Int) : List (List Int) := (r.ts.filter fun t => decide (x ∈ digN N t r.ar.toNat)).map fun t => WD cls x (digN N t r.ar.toNat)

theorem wordN_eq (i : Int) (cls : List Int) (x : Int) (tup : List Int) (h3 : tup.length ≤ 3) : ∀ j, j ≤ tup.length → wordN i cls x tup j = i :: (WD cls x (tup.take j) ++ List.replicate (3 - j) 0)
  | 0, _ => rfl
  | j + 1, h => by
    have ih := wordN_eq i cls x tup h3 j (by omega)
    have hl : (WD cls x (tup.take j)).length = j := by rw [WD_len, List.length_take]; omega
    have e3 : 3 - j = (3 - (j + 1)) + 1 := by omega
    have ht : tup.take (j + 1) = tup.take j ++ [gI tup j] := by rw [List.take_add_one, List.getElem?_eq_getElem (by omega), gI_eq (by omega)]; rfl
    have hw : WD cls x (tup.take (j + 1)) = WD cls x (tup.take j) ++ [if gI tup j = x then 0 else gI cls (gI tup j).toNat + 1] := by
      rw [ht, WD, WD, List.map_append]; rfl
    rw [wordN, foldN_succ, ← wordN, ih, hw]
    generalize WD cls x (tup.take j) = l at *
    by_cases he : gI tup j = x
    · rw [if_pos he, if_pos he, e3, List.replicate_succ]; simp
    · rw [if_neg he, if_neg he, List.set_cons_succ, e3, List.replicate_succ, List.set_append_right _ _ (by omega), hl, Nat.sub_self, List.set_cons_zero]; simp

theorem firstIn_lt (v : Int) : ∀ (l : List Int) (k : Nat) (i : Int), k < l.length → gI l k = v → (firstIn (fun y => decide (y = v)) l i < i + k ↔ v ∈ l.take k) ∧ i ≤ firstIn (fun y => decide (y = v)) l i
  | [], k, i, h, _ => by simp at h
  | y :: l, 0, i, _, hv => by
    have : y = v := hv
    rw [firstIn, if_pos (by simpa using this)]
    simp
  | y :: l, k + 1, i, h, hv => by
    have ih := firstIn_lt v l k (i + 1) (by simpa using h) (by simpa [gI] using hv)
    rw [firstIn]
    by_cases e : y = v
    · rw [if_pos (by simpa using e)]
      refine ⟨⟨fun _ => by simp [e], fun _ => by omega⟩, by omega⟩
    · rw [if_neg (by simpa using e), List.take_succ_cons, List.mem_cons, ← ih.1]
      refine ⟨⟨fun h => .inr (by omega), fun h => ?_⟩, by omega⟩
      rcases h with h | h
      · exact absurd h.symm e
      · omega

theorem gS_set_self {ms : List Sig} {i : Nat} (h : i < ms.length) (m : Sig) : gS (ms.set i m) i = m := by unfold gS; rw [List.getElem?_set_self h]; rfl
theorem gS_set_ne {ms : List Sig} {i j : Nat} (h : i ≠ j) (m : Sig) : gS (ms.set i m) j = gS ms j := by unfold gS; rw [List.getElem?_set_ne h]
theorem tupN_len (i : Int) (cls tup : List Int) (ms : List Sig) : ∀ k, (tupN i cls tup ms k).length = ms.length
  | 0 => rfl
  | k + 1 => by
    rw [tupN, foldN_succ, ← tupN, tupStep]
    split
    · exact tupN_len i cls tup ms k
    · rw [List.length_set]; exact tupN_len i cls tup ms k
theorem tupN_get (N : Nat) (i : Int) (cls tup : List Int) (ms : List Sig) (hd : Dg N tup) (hm : ms.length = N) (x : Nat) (hx : x < N) : ∀ k, k ≤ tup.length →
    gS (tupN i cls tup ms k) x = if (x : Int) ∈ tup.take k then bump (gS ms x) (wordN i cls x tup tup.length) else gS ms x
  | 0, _ => rfl
  | k + 1, hk => by
    have ih := tupN_get N i cls tup ms hd hm x hx k (by omega)
    have hkl : k < tup.length := by omega
    have hv := hd _ (gI_mem hkl)
    have hf := (firstIn_lt (gI tup k) tup k 0 hkl rfl).1
    have ht : tup.take (k + 1) = tup.take k ++ [gI tup k] := by rw [List.take_add_one, List.getElem?_eq_getElem hkl, gI_eq hkl]; rfl
    have hmem : (x : Int) ∈ tup.take (k + 1) ↔ (x : Int) ∈ tup.take k ∨ (x : Int) = gI tup k := by rw [ht, List.mem_append, List.mem_singleton]
    rw [tupN, foldN_succ, ← tupN, tupStep]
    by_cases hin : gI tup k ∈ tup.take k
    · rw [if_pos (by have := hf.2 hin; omega), ih]
      have : (x : Int) ∈ tup.take (k + 1) ↔ (x : Int) ∈ tup.take k := by
        rw [hmem]; exact ⟨fun h => h.elim id (fun e => by rw [e]; exact hin), .inl⟩
      simp only [this]
    · rw [if_neg (fun h => hin (hf.1 (by omega)))]
      by_cases he : (x : Int) = gI tup k
      · have hxi : (gI tup k).toNat = x := by omega
        have hnx : ¬ (x : Int) ∈ tup.take k := by rw [he]; exact hin
        rw [if_neg hnx] at ih
        rw [hxi, gS_set_self (by rw [tupN_len, hm]; exact hx), ih, ← he, if_pos (hmem.2 (.inr he))]
      · rw [gS_set_ne (by omega), ih]
        have : (x : Int) ∈ tup.take (k + 1) ↔ (x : Int) ∈ tup.take k := by
          rw [hmem]; exact ⟨fun h => h.elim id (fun e => absurd e he), .inl⟩
        simp only [this]

/-- the words that a relation adds to an atom's signature -/
def evR (N : Nat) (cls : List Int) (i : Nat) (r : Rl) (x : Nat) (j : Nat) : List (List Int) := ((r.ts.take j).filter fun t => decide ((x : Int) ∈ digN N t r.ar.toNat)).map fun t => wordN i cls x (digN N t r.ar.toNat) r.ar.toNat
theorem relN_len (n i : Int) (cls : List Int) (r : Rl) (ms : List Sig) : ∀ j, (relN n i cls r ms j).length = ms.length
  | 0 => rfl
  | j + 1 => by rw [relN, foldN_succ, ← relN, tupN_len]; exact relN_len n i cls r ms j
theorem relN_get (N : Nat) (cls : List Int) (i : Nat) (r : Rl) (g : GRel N r) (ms : List Sig) (hm : ms.length = N) (x : Nat) (hx : x < N) : ∀ j, j ≤ r.ts.length → gS (relN N i cls r ms j) x = sigF (evR N cls i r x j) (gS ms x)
  | 0, _ => rfl
  | j + 1, hj => by
    have ih := relN_get N cls i r g ms hm x hx j (by omega)
    have hjl : j < r.ts.length := by omega
    have hN := GRel.pos g (gI_mem hjl)
    have ht : r.ts.take (j + 1) = r.ts.take j ++ [gI r.ts j] := by rw [List.take_add_one, List.getElem?_eq_getElem hjl, gI_eq hjl]; rfl
    have hl := digN_len N (gI r.ts j) r.ar.toNat
    have hg := tupN_get N i cls (digN N (gI r.ts j) r.ar.toNat) (relN N i cls r ms j) (digN_dg (by omega) _) (by rw [relN_len]; exact hm) x hx r.ar.toNat (by omega)
    rw [List.take_of_length_le (by omega), hl] at hg
    rw [relN, foldN_succ, ← relN]
    show gS (tupN i cls (digN N (gI r.ts j) r.ar.toNat) (relN N i cls r ms j) r.ar.toNat) x = _
    rw [hg, ih]
    unfold evR
    rw [ht, List.filter_append, List.map_append]
    unfold sigF
    rw [List.foldl_append]
    by_cases h : (x : Int) ∈ digN N (gI r.ts j) r.ar.toNat
    · rw [if_pos h]; simp [h]
    · rw [if_neg h]; simp [h]
def evs (N : Nat) (cls : List Int) (rs : List Rl) (x : Nat) (i : Nat) : List (List Int) := (List.range i).flatMap fun q => evR N cls q (gR rs q) x (gR rs q).ts.length
theorem sigsN_len' (n : Int) (cls : List Int) (rs : List Rl) : ∀ i, (sigsN n cls rs i).length = cls.length
  | 0 => by simp [sigsN, foldN]
  | i + 1 => by rw [sigsN, foldN_succ, ← sigsN, relN_len]; exact sigsN_len' n cls rs i
theorem sigsN_get (N : Nat) (cls : List Int) (hc : cls.length = N) (rs : List Rl) (g : ∀ r, r ∈ rs → GRel N r) (x : Nat) (hx : x < N) : ∀ i, i ≤ rs.length → gS (sigsN N cls rs i) x = sigF (evs N cls rs x i) []
  | 0, _ => by simp [sigsN, foldN, gS, hc, hx, evs, sigF]
  | i + 1, hi => by
    have ih := sigsN_get N cls hc rs g x hx i (by omega)
    have hil : i < rs.length := by omega
    have gr : GRel N (gR rs i) := by rw [gR_eq hil]; exact g _ (List.getElem_mem hil)
    rw [sigsN, foldN_succ, ← sigsN]
    show gS (relN N i cls (gR rs i) (sigsN N cls rs i) (gR rs i).ts.length) x = _
    rw [relN_get N cls i (gR rs i) gr (sigsN N cls rs i) (by rw [sigsN_len', hc]) x hx _ (Nat.le_refl _), ih]
    unfold evs
    rw [List.range_succ, List.flatMap_append]
    unfold sigF
    rw [List.foldl_append]
    simp

def padW (i : Nat) (k : Nat) (w : List Int) : List Int := (i : Int) :: (w ++ List.replicate (3 - k) 0)
theorem evR_eq (N : Nat) (cls : List Int) (i : Nat) (r : Rl) (g : GRel N r) (x : Nat) : evR N cls i r x r.ts.length = (wl N cls r x).map (padW i r.ar.toNat) := by
  unfold evR wl
  rw [List.take_of_length_le (Nat.le_refl _), List.map_map]
  refine List.map_congr_left fun t ht => ?_
  have hl := digN_len N t r.ar.toNat
  have := g.ar3
  have h := wordN_eq i cls x (digN N t r.ar.toNat) (by omega) r.ar.toNat (by omega)
  rw [List.take_of_length_le (by omega)] at h
  exact h
theorem flatMap_one (n i : Nat) (L : List (List Int)) (h : i < n) : ((List.range n).flatMap fun j => if j = i then L else []) = L := by
  induction n with
  | zero => omega
  | succ n ih =>
    rw [List.range_succ, List.flatMap_append]
    by_cases e : i = n
    · subst e
      have : ((List.range i).flatMap fun j => if j = i then L else []) = [] := by
        rw [List.flatMap_eq_nil_iff]
        intro j hj
        rw [if_neg (by simp at hj; omega)]
      rw [this]; simp
    · rw [ih (by omega)]
      have : ¬ n = i := fun h => e h.symm
      simp [this]
theorem flatMap_perm {α β : Type} : ∀ (l : List α) (f g : α → List β), (∀ a, a ∈ l → (f a).Perm (g a)) → (l.flatMap f).Perm (l.flatMap g)
  | [], f, g, _ => .refl _
  | a :: l, f, g, h => by
    rw [List.flatMap_cons, List.flatMap_cons]
    exact (h a (by simp)).append (flatMap_perm l f g fun b hb => h b (by simp [hb]))
/-- equal signatures: the same words in each relation -/
def AlikeW (N : Nat) (rs : List Rl) (cls : List Int) (x y : Nat) : Prop := ∀ r, r ∈ rs → (wl N cls r x).Perm (wl N cls r y)
theorem sigAl_iff (N : Nat) (cls : List Int) (hc : cls.length = N) (rs : List Rl) (g : ∀ r, r ∈ rs → GRel N r) {x y : Nat} (hx : x < N) (hy : y < N) : sigAl N rs cls x y = true ↔ AlikeW N rs cls x y := by
  unfold sigAl sigsOf
  rw [sigsN_get N cls hc rs g x hx rs.length (Nat.le_refl _), sigsN_get N cls hc rs g y hy rs.length (Nat.le_refl _), sigEq_iff]
  have ev : ∀ z : Nat, evs N cls rs z rs.length = (List.range rs.length).flatMap fun q => (wl N cls (gR rs q) z).map (padW q (gR rs q).ar.toNat) := by
    intro z
    unfold evs
    have : ∀ (l : List Nat), (∀ q, q ∈ l → q < rs.length) → (l.flatMap fun q => evR N cls q (gR rs q) z (gR rs q).ts.length) = l.flatMap fun q => (wl N cls (gR rs q) z).map (padW q (gR rs q).ar.toNat) := by
      intro l
      induction l with
      | nil => intro _; rfl
      | cons q l ih =>
        intro h
        have hq := h q (by simp)
        rw [List.flatMap_cons, List.flatMap_cons, ih (fun a ha => h a (by simp [ha])), evR_eq N cls q (gR rs q) (by rw [gR_eq hq]; exact g _ (List.getElem_mem hq))]
    exact this _ (fun q hq => by simpa using hq)
  rw [ev, ev]
  constructor
  · intro h r hr
    obtain ⟨i, hi, rfl⟩ := List.mem_iff_getElem.1 hr
    have hf := h.filter (fun w => decide (w.head? = some (i : Int)))
    have key : ∀ z : Nat, (((List.range rs.length).flatMap fun q => (wl N cls (gR rs q) z).map (padW q (gR rs q).ar.toNat)).filter fun w => decide (w.head? = some (i : Int))) = (wl N cls (gR rs i) z).map (padW i (gR rs i).ar.toNat) := by
      intro z
      rw [List.filter_flatMap]
      have : (fun q => ((wl N cls (gR rs q) z).map (padW q (gR rs q).ar.toNat)).filter fun w => decide (w.head? = some (i : Int))) = fun q => if q = i then (wl N cls (gR rs i) z).map (padW i (gR rs i).ar.toNat) else [] := by
        funext q
        by_cases e : q = i
        · subst e
          rw [if_pos rfl, List.filter_eq_self]
          intro w hw
          obtain ⟨u, _, rfl⟩ := List.mem_map.1 hw
          simp [padW]
        · rw [if_neg e, List.filter_eq_nil_iff]
          intro w hw
          obtain ⟨u, _, rfl⟩ := List.mem_map.1 hw
          simp [padW]; omega
      rw [this]
      exact flatMap_one _ i _ hi
    rw [key, key, gR_eq hi] at hf
    have hm := hf.map fun w => (w.drop 1).take rs[i].ar.toNat
    have back : ∀ z : Nat, ((wl N cls rs[i] z).map (padW i rs[i].ar.toNat)).map (fun w => (w.drop 1).take rs[i].ar.toNat) = wl N cls rs[i] z := by
      intro z
      rw [List.map_map]
      conv => rhs; rw [← List.map_id (wl N cls rs[i] z)]
      refine List.map_congr_left fun w hw => ?_
      obtain ⟨t, _, rfl⟩ := List.mem_map.1 hw
      have hl : (WD cls z (digN N t rs[i].ar.toNat)).length = rs[i].ar.toNat := by rw [WD_len, digN_len]
      simp only [padW, Function.comp_apply, List.drop_succ_cons, List.drop_zero, id_eq]
      rw [List.take_append_of_le_length (by omega), List.take_of_length_le (by omega)]
    rw [back, back] at hm
    exact hm
  · intro h
    refine flatMap_perm _ _ _ fun q hq => ?_
    have hq : q < rs.length := by simpa using hq
    rw [gR_eq hq]
    exact (h _ (List.getElem_mem hq)).map _
end Go.Proofs.Ytiophnmdopoeeaa.L5

set_option linter.unusedVariables false
set_option linter.unusedSimpArgs false
set_option maxRecDepth 100000
namespace Go.Proofs.Ytiophnmdopoeeaa.L6
open Go Go.Ev Go.Proofs Go.Proofs.Ytiophnmdopoeeaa.C1 Go.Proofs.Ytiophnmdopoeeaa.C2 Go.Proofs.Ytiophnmdopoeeaa.C3 Go.Proofs.Ytiophnmdopoeeaa.C4 Go.Proofs.Ytiophnmdopoeeaa.C5 Go.Proofs.Ytiophnmdopoeeaa.C6 Go.Proofs.Ytiophnmdopoeeaa.C7 Go.Proofs.Ytiophnmdopoeeaa.C9 Go.Proofs.Ytiophnmdopoeeaa.C10 Go.Proofs.Ytiophnmdopoeeaa.C11 Go.Proofs.Ytiophnmdopoeeaa.C12 Go.Proofs.Ytiophnmdopoeeaa.C13 Go.Proofs.Ytiophnmdopoeeaa.C14 Go.Proofs.Ytiophnmdopoeeaa.C15 Go.Proofs.Ytiophnmdopoeeaa.C16 Go.Proofs.Ytiophnmdopoeeaa.C17 Go.Proofs.Ytiophnmdopoeeaa.C18 Go.Proofs.Ytiophnmdopoeeaa.C19 Go.Proofs.Ytiophnmdopoeeaa.C20 Go.Proofs.Ytiophnmdopoeeaa.C21 Go.Proofs.Ytiophnmdopoeeaa.C22 Go.Proofs.Ytiophnmdopoeeaa.C23 Go.Proofs.Ytiophnmdopoeeaa.C24 Go.Proofs.Ytiophnmdopoeeaa.C25 Go.Proofs.Ytiophnmdopoeeaa.C26 Go.Proofs.Ytiophnmdopoeeaa.C27 Go.Proofs.Ytiophnmdopoeeaa.C28 Go.Proofs.Ytiophnmdopoeeaa.C29 Go.Proofs.Ytiophnmdopoeeaa.C30 Go.Proofs.Ytiophnmdopoeeaa.C31 Go.Proofs.Ytiophnmdopoeeaa.C32 Go.Proofs.Ytiophnmdopoeeaa.C33 Go.Proofs.Ytiophnmdopoeeaa.C34 Go.Proofs.Ytiophnmdopoeeaa.C35 Go.Proofs.Ytiophnmdopoeeaa.L1 Go.Proofs.Ytiophnmdopoeeaa.L2 Go.Proofs.Ytiophnmdopoeeaa.L3 Go.Proofs.Ytiophnmdopoeeaa.L4 Go.Proofs.Ytiophnmdopoeeaa.L5

/-! ### splitting -/
abbrev EQ (c : List Int) (x y : Nat) : Prop := gI c x = gI c y
abbrev Mt (c : List Int) (al : Nat → Nat → Bool) (x y : Nat) : Prop := gI c x = gI c y ∧ al x y = true
theorem mate_none {c : List Int} {al : Nat → Nat → Bool} {x : Nat} : ∀ {y}, mate c al x y = none ↔ ∀ z, z < y → ¬ Mt c al x z
  | 0 => by simp [mate]
  | y + 1 => by
    rw [mate]
    cases hm : mate c al x y with
    | some w =>
      have := mate_some hm
      simp only [reduceCtorEq, false_iff]
      intro h
      exact h w (by omega) this.2
    | none =>
      have ih := mate_none.1 hm
      simp only
      constructor
      · intro h z hz
        by_cases e : z = y
        · subst e
          intro hc
          rw [if_pos hc] at h
          exact absurd h (by simp)
        · exact ih z (by omega)
      · intro h
        rw [if_neg (h y (by omega))]
/-- symmetric and transitive -/
structure PER (n : Nat) (R : Nat → Nat → Prop) : Prop where
  sy : ∀ x y, x < n → y < n → R x y → R y x
  tr : ∀ x y z, x < n → y < n → z < n → R x y → R y z → R x z
theorem PER.le {n m : Nat} {R : Nat → Nat → Prop} (h : PER n R) (hm : m ≤ n) : PER m R := ⟨fun x y hx hy => h.sy x y (by omega) (by omega), fun x y z hx hy hz => h.tr x y z (by omega) (by omega) (by omega)⟩
theorem split_get (c : List Int) (al : Nat → Nat → Bool) (n : Nat) {y : Nat} (hy : y < n) : gI (splitN c al (n + 1)).1 y = gI (splitN c al n).1 y := by
  have ok := splitN_ok c al n
  rw [splitN]
  cases mate c al n n with
  | some z => exact gI_app_left (by omega)
  | none => exact gI_app_left (by omega)
theorem split_iff (c : List Int) (al : Nat → Nat → Bool) : ∀ n, PER n (Mt c al) → ∀ x y, x < n → y < n → (EQ (splitN c al n).1 x y ↔ x = y ∨ Mt c al x y)
  | 0, _, x, y, hx, _ => by omega
  | n + 1, hp, x, y, hx, hy => by
    have ih := split_iff c al n (hp.le (by omega))
    have ok := splitN_ok c al n
    -- a new one against an old one
    have one : ∀ z, z < n → (EQ (splitN c al (n + 1)).1 n z ↔ Mt c al n z) := by
      intro z hz
      unfold EQ
      rw [split_get c al n hz]
      have hlast : gI (splitN c al (n + 1)).1 n = match mate c al n n with | some w => gI (splitN c al n).1 w | none => (splitN c al n).2 := by
        rw [splitN]
        cases mate c al n n with
        | some w => exact gI_app_last (by omega)
        | none => exact gI_app_last (by omega)
      rw [hlast]
      cases hm : mate c al n n with
      | some w =>
        obtain ⟨hw, hmw⟩ := mate_some hm
        simp only
        rw [show (gI (splitN c al n).1 w = gI (splitN c al n).1 z) = EQ (splitN c al n).1 w z from rfl, ih w z hw hz]
        constructor
        · rintro (rfl | h)
          · exact hmw
          · exact hp.tr n w z (by omega) (by omega) (by omega) hmw h
        · intro h
          exact .inr (hp.tr w n z (by omega) (by omega) (by omega) (hp.sy n w (by omega) (by omega) hmw) h)
      | none =>
        simp only
        have hno := mate_none.1 hm z hz
        refine ⟨fun e => ?_, fun h => absurd h hno⟩
        have hzl : z < (splitN c al n).1.length := by omega
        have := ok.2.2.2 _ (gI_mem hzl)
        omega
    by_cases ex : x = n
    · by_cases ey : y = n
      · subst ex; subst ey; simp [EQ]
      · subst ex
        rw [one y (by omega)]
        exact ⟨.inr, fun h => h.elim (fun e => absurd e.symm ey) id⟩
    · by_cases ey : y = n
      · subst ey
        have := one x (by omega)
        unfold EQ at this ⊢
        rw [eq_comm, this]
        exact ⟨fun h => .inr (hp.sy _ _ (by omega) (by omega) h), fun h => h.elim (fun e => absurd e ex) (hp.sy _ _ (by omega) (by omega))⟩
      · unfold EQ
        rw [split_get c al n (by omega), split_get c al n (by omega)]
        exact ih x y (by omega) (by omega)
theorem split_refines (c : List Int) (al : Nat → Nat → Bool) : ∀ n x y, x < n → y < n → EQ (splitN c al n).1 x y → EQ c x y
  | 0, x, y, hx, _, _ => by omega
  | n + 1, x, y, hx, hy, h => by
    have ih := split_refines c al n
    have ok := splitN_ok c al n
    have one : ∀ z, z < n → EQ (splitN c al (n + 1)).1 n z → EQ c n z := by
      intro z hz h
      unfold EQ at h
      rw [split_get c al n hz] at h
      have hlast : gI (splitN c al (n + 1)).1 n = match mate c al n n with | some w => gI (splitN c al n).1 w | none => (splitN c al n).2 := by
        rw [splitN]
        cases mate c al n n with
        | some w => exact gI_app_last (by omega)
        | none => exact gI_app_last (by omega)
      rw [hlast] at h
      cases hm : mate c al n n with
      | some w =>
        obtain ⟨hw, hmw⟩ := mate_some hm
        rw [hm] at h
        exact hmw.1.trans (ih w z hw hz h)
      | none =>
        rw [hm] at h
        have hzl : z < (splitN c al n).1.length := by omega
        have := ok.2.2.2 _ (gI_mem hzl)
        simp only at h
        omega
    by_cases ex : x = n
    · by_cases ey : y = n
      · subst ex; subst ey; rfl
      · subst ex; exact one y (by omega) h
    · by_cases ey : y = n
      · subst ey; exact (one x (by omega) h.symm).symm
      · unfold EQ at h
        rw [split_get c al n (by omega), split_get c al n (by omega)] at h
        exact ih x y (by omega) (by omega) h
/-- as many classes as before: nothing is split -/
theorem split_same (c : List Int) (al : Nat → Nat → Bool) : ∀ n, PER n (Mt c al) → (splitN c al n).2 = firstsN c n → ∀ x y, x < n → y < n → EQ c x y → x = y ∨ Mt c al x y
  | 0, _, _, x, y, hx, _, _ => by omega
  | n + 1, hp, he, x, y, hx, hy, hxy => by
    have hge := split_ge c al n
    have hsplit : (splitN c al (n + 1)).2 = (splitN c al n).2 + (match mate c al n n with | some _ => 0 | none => 1) := by
      rw [splitN]
      cases mate c al n n <;> simp
    rw [hsplit, firstsN] at he
    have hle : (match mate c al n n with | some _ => (0 : Int) | none => 1) ≥ (if ∃ y, y < n ∧ gI c y = gI c n then 0 else 1) := by
      cases hm : mate c al n n with
      | some w =>
        have := mate_some hm
        rw [if_pos ⟨w, this.1, this.2.1.symm⟩]; simp
      | none => simp only; split <;> omega
    have e1 : (splitN c al n).2 = firstsN c n := by omega
    have e2 : (match mate c al n n with | some _ => (0 : Int) | none => 1) = (if ∃ y, y < n ∧ gI c y = gI c n then 0 else 1) := by omega
    have ih := split_same c al n (hp.le (by omega)) e1
    have one : ∀ z, z < n → EQ c n z → Mt c al n z := by
      intro z hz h
      rw [if_pos ⟨z, hz, h.symm⟩] at e2
      cases hm : mate c al n n with
      | none => rw [hm] at e2; simp at e2
      | some w =>
        obtain ⟨hw, hmw⟩ := mate_some hm
        rcases ih w z hw hz (hmw.1.symm.trans h) with rfl | h2
        · exact hmw
        · exact hp.tr n w z (by omega) (by omega) (by omega) hmw h2
    by_cases ex : x = n
    · by_cases ey : y = n
      · exact .inl (ex.trans ey.symm)
      · subst ex; exact .inr (one y (by omega) hxy)
    · by_cases ey : y = n
      · subst ey; exact .inr (hp.sy _ _ (by omega) (by omega) (one x (by omega) hxy.symm))
      · exact ih x y (by omega) (by omega) hxy

/-! ### rounds -/
theorem alikeW_per (N : Nat) (rs : List Rl) (c : List Int) : (∀ x, AlikeW N rs c x x) ∧ (∀ x y, AlikeW N rs c x y → AlikeW N rs c y x) ∧ ∀ x y z, AlikeW N rs c x y → AlikeW N rs c y z → AlikeW N rs c x z :=
  ⟨fun x r _ => .refl _, fun x y h r hr => (h r hr).symm, fun x y z h k r hr => (h r hr).trans (k r hr)⟩
theorem sig_per {N : Nat} {rs : List Rl} (g : ∀ r, r ∈ rs → GRel N r) {c : List Int} (hc : c.length = N) : PER N (Mt c (sigAl N rs c)) := by
  obtain ⟨_, h2, h3⟩ := alikeW_per N rs c
  refine ⟨fun x y hx hy h => ⟨h.1.symm, ?_⟩, fun x y z hx hy hz h k => ⟨h.1.trans k.1, ?_⟩⟩
  · rw [sigAl_iff N c hc rs g hy hx]
    exact h2 _ _ ((sigAl_iff N c hc rs g hx hy).1 h.2)
  · rw [sigAl_iff N c hc rs g hx hz]
    exact h3 _ _ _ ((sigAl_iff N c hc rs g hx hy).1 h.2) ((sigAl_iff N c hc rs g hy hz).1 k.2)
theorem round_iff {N : Nat} {rs : List Rl} (g : ∀ r, r ∈ rs → GRel N r) {c : List Int} (hc : c.length = N) {x y : Nat} (hx : x < N) (hy : y < N) : EQ (roundS N rs c).1 x y ↔ EQ c x y ∧ AlikeW N rs c x y := by
  unfold roundS
  have hp := sig_per g hc
  rw [hc, split_iff c _ N hp x y hx hy, Mt, sigAl_iff N c hc rs g hx hy]
  constructor
  · rintro (rfl | h)
    · exact ⟨rfl, (alikeW_per N rs c).1 x⟩
    · exact h
  · exact .inr
theorem round_len {N : Nat} {rs : List Rl} {c : List Int} (hc : c.length = N) : (roundS N rs c).1.length = N := by
  have := (splitN_ok c (sigAl N rs c) c.length).1
  unfold roundS; rw [this, hc]
theorem stab_ind {N : Nat} {rs : List Rl} (Q : List Int → Prop) (h : ∀ c, c.length = N → Q c → Q (roundS N rs c).1) : ∀ (f : Nat) (c : List Int × Int), c.1.length = N → Q c.1 → Q (stabF N rs f c).1
  | 0, c, _, hq => hq
  | f + 1, c, hl, hq => by
    rw [stabF]
    split
    · exact hq
    · exact stab_ind Q h f _ (round_len hl) (h _ hl hq)
theorem stab_fix {N : Nat} {rs : List Rl} : ∀ (f : Nat) (c : List Int × Int), c.1.length = N → firstsN c.1 N = c.2 → (N : Int) + 1 ≤ f + c.2 → (roundS N rs (stabF N rs f c).1).2 = (stabF N rs f c).2
  | 0, c, hl, hf, hN => by
    have := split_ge c.1 (sigAl N rs c.1) N
    have ok := splitN_ok c.1 (sigAl N rs c.1) N
    simp at hN; omega
  | f + 1, c, hl, hf, hN => by
    rw [stabF]
    split
    · assumption
    · rename_i hne
      have h1 := split_ge c.1 (sigAl N rs c.1) N
      have h2 : (roundS N rs c.1).2 = (splitN c.1 (sigAl N rs c.1) N).2 := by unfold roundS; rw [hl]
      have h3 := firsts_split c.1 (sigAl N rs c.1) N
      refine stab_fix f _ (round_len hl) ?_ (by omega)
      unfold roundS; rw [hl]; exact h3
end Go.Proofs.Ytiophnmdopoeeaa.L6

set_option linter.unusedVariables false
set_option linter.unusedSimpArgs false
set_option maxRecDepth 100000
namespace Go.Proofs.Ytiophnmdopoeeaa.L7
open Go Go.Ev Go.Proofs Go.Proofs.Ytiophnmdopoeeaa.C1 Go.Proofs.Ytiophnmdopoeeaa.C2 Go.Proofs.Ytiophnmdopoeeaa.C3 Go.Proofs.Ytiophnmdopoeeaa.C4 Go.Proofs.Ytiophnmdopoeeaa.C5 Go.Proofs.Ytiophnmdopoeeaa.C6 Go.Proofs.Ytiophnmdopoeeaa.C7 Go.Proofs.Ytiophnmdopoeeaa.C9 Go.Proofs.Ytiophnmdopoeeaa.C10 Go.Proofs.Ytiophnmdopoeeaa.C11 Go.Proofs.Ytiophnmdopoeeaa.C12 Go.Proofs.Ytiophnmdopoeeaa.C13 Go.Proofs.Ytiophnmdopoeeaa.C14 Go.Proofs.Ytiophnmdopoeeaa.C15 Go.Proofs.Ytiophnmdopoeeaa.C16 Go.Proofs.Ytiophnmdopoeeaa.C17 Go.Proofs.Ytiophnmdopoeeaa.C18 Go.Proofs.Ytiophnmdopoeeaa.C19 Go.Proofs.Ytiophnmdopoeeaa.C20 Go.Proofs.Ytiophnmdopoeeaa.C21 Go.Proofs.Ytiophnmdopoeeaa.C22 Go.Proofs.Ytiophnmdopoeeaa.C23 Go.Proofs.Ytiophnmdopoeeaa.C24 Go.Proofs.Ytiophnmdopoeeaa.C25 Go.Proofs.Ytiophnmdopoeeaa.C26 Go.Proofs.Ytiophnmdopoeeaa.C27 Go.Proofs.Ytiophnmdopoeeaa.C28 Go.Proofs.Ytiophnmdopoeeaa.C29 Go.Proofs.Ytiophnmdopoeeaa.C30 Go.Proofs.Ytiophnmdopoeeaa.C31 Go.Proofs.Ytiophnmdopoeeaa.C32 Go.Proofs.Ytiophnmdopoeeaa.C33 Go.Proofs.Ytiophnmdopoeeaa.C34 Go.Proofs.Ytiophnmdopoeeaa.C35 Go.Proofs.Ytiophnmdopoeeaa.L1 Go.Proofs.Ytiophnmdopoeeaa.L2 Go.Proofs.Ytiophnmdopoeeaa.L3 Go.Proofs.Ytiophnmdopoeeaa.L4 Go.Proofs.Ytiophnmdopoeeaa.L5 Go.Proofs.Ytiophnmdopoeeaa.L6

/-! ### other names for classes, other places for atoms -/
theorem mem_map_gI {N : Nat} {p : List Int} (hp : PermL N p) {x : Nat} (hx : x < N) : ∀ {tup : List Int}, Dg N tup → ((ap p x : Int) ∈ tup.map (fun v => gI p v.toNat) ↔ (x : Int) ∈ tup)
  | [], _ => by simp
  | v :: tup, h => by
    have hv := h.cons.1
    rw [List.map_cons, List.mem_cons, List.mem_cons, mem_map_gI hp hx h.cons.2]
    have : ((ap p x : Int) = gI p v.toNat) ↔ (x : Int) = v := by
      rw [hp.ap_eq (show v.toNat < N by omega)]
      constructor
      · intro e
        have := hp.ap_inj hx (show v.toNat < N by omega) (by omega)
        omega
      · intro e
        have : v.toNat = x := by omega
        rw [this]
    rw [this]
theorem WD_map {N : Nat} {p : List Int} (hp : PermL N p) {d c : List Int} {H : Int → Int} (h0 : H 0 = 0) (hH : ∀ v, v < N → H (gI d v + 1) = gI c (ap p v) + 1) {x : Nat} (hx : x < N) {tup : List Int} (hd : Dg N tup) :
    WD c (ap p x) (tup.map fun v => gI p v.toNat) = (WD d x tup).map H := by
  unfold WD
  rw [List.map_map, List.map_map]
  refine List.map_congr_left fun v hv => ?_
  have hv := hd v hv
  simp only [Function.comp_apply]
  by_cases e : v = x
  · have e1 : v.toNat = x := by omega
    rw [if_pos e, e1, hp.ap_eq hx, if_pos rfl, h0]
  · have e1 : ¬ gI p v.toNat = (ap p x : Int) := by
      rw [hp.ap_eq (show v.toNat < N by omega)]
      intro h
      have := hp.ap_inj (show v.toNat < N by omega) hx (by omega)
      omega
    rw [if_neg e, if_neg e1, hH v.toNat (by omega)]
    rfl
theorem wl_map {N : Nat} {p : List Int} (hp : PermL N p) {d c : List Int} {H : Int → Int} (h0 : H 0 = 0) (hH : ∀ v, v < N → H (gI d v + 1) = gI c (ap p v) + 1) {x : Nat} (hx : x < N) {r r' : Rl} (har : r'.ar = r.ar) (hts : r'.ts.Perm (r.ts.map (act p N r.ar.toNat))) :
    (wl N c r' (ap p x)).Perm ((wl N d r x).map (List.map H)) := by
  have hN : 1 ≤ N := by omega
  have e1 : (wl N c r' (ap p x)).Perm (((r.ts.map (act p N r.ar.toNat)).filter fun t => decide ((ap p x : Int) ∈ digN N t r.ar.toNat)).map fun t => WD c (ap p x) (digN N t r.ar.toNat)) := by
    unfold wl
    rw [har]
    exact (hts.filter _).map _
  refine e1.trans ?_
  unfold wl
  rw [List.filter_map, List.map_map, List.map_map]
  have e2 : ((fun t => decide ((ap p x : Int) ∈ digN N t r.ar.toNat)) ∘ act p N r.ar.toNat) = fun t => decide ((x : Int) ∈ digN N t r.ar.toNat) := by
    funext t
    simp only [Function.comp_apply]
    rw [(act_dig hp hN r.ar.toNat t).1]
    have := mem_map_gI hp hx (tup := digN N t r.ar.toNat) (digN_dg (by omega) _)
    simp only [this]
  rw [e2]
  have e3 : ((fun t => WD c (ap p x) (digN N t r.ar.toNat)) ∘ act p N r.ar.toNat) = (List.map H ∘ fun t => WD d x (digN N t r.ar.toNat)) := by
    funext t
    simp only [Function.comp_apply]
    rw [(act_dig hp hN r.ar.toNat t).1]
    exact WD_map hp h0 hH hx (digN_dg (by omega) _)
  rw [e3]
theorem relabel_H {N : Nat} {p : List Int} {d c : List Int} (hd : ∀ v, v < N → 0 ≤ gI d v) (hdc : ∀ v w, v < N → w < N → EQ d v w → gI c (ap p v) = gI c (ap p w)) :
    ∃ H : Int → Int, H 0 = 0 ∧ ∀ v, v < N → H (gI d v + 1) = gI c (ap p v) + 1 := by
  refine ⟨fun u => if u = 0 then 0 else match (List.range N).find? (fun v => decide (gI d v + 1 = u)) with | some v => gI c (ap p v) + 1 | none => 0, rfl, fun v hv => ?_⟩
  have := hd v hv
  simp only
  rw [if_neg (by omega)]
  cases hf : (List.range N).find? (fun w => decide (gI d w + 1 = gI d v + 1)) with
  | none =>
    rw [List.find?_eq_none] at hf
    have := hf v (by simpa using hv)
    simp at this
  | some w =>
    have h1 := List.find?_some hf
    have h2 := List.mem_of_find?_eq_some hf
    simp only [decide_eq_true_eq] at h1
    rw [List.mem_range] at h2
    simp only
    rw [hdc w v h2 hv (by unfold EQ; omega)]
/-- relations, moved by p -/
def Moved (N : Nat) (p : List Int) (rs rs' : List Rl) : Prop := ∀ r', r' ∈ rs' → ∃ r, r ∈ rs ∧ r'.ar = r.ar ∧ r'.ts.Perm (r.ts.map (act p N r.ar.toNat))
theorem alike_map {N : Nat} {p : List Int} (hp : PermL N p) {d c : List Int} (hd : ∀ v, v < N → 0 ≤ gI d v) (hdc : ∀ v w, v < N → w < N → EQ d v w → gI c (ap p v) = gI c (ap p w)) {rs rs' : List Rl} (hm : Moved N p rs rs') {x y : Nat} (hx : x < N) (hy : y < N)
    (h : AlikeW N rs d x y) : AlikeW N rs' c (ap p x) (ap p y) := by
  obtain ⟨H, h0, hH⟩ := relabel_H hd hdc
  intro r' hr'
  obtain ⟨r, hr, har, hts⟩ := hm r' hr'
  exact (wl_map hp h0 hH hx har hts).trans (((h r hr).map _).trans (wl_map hp h0 hH hy har hts).symm)
theorem Moved.closed {N : Nat} {p : List Int} (hp : PermL N p) {rs : List Rl} (g : ∀ r, r ∈ rs → GRel N r) (h : ∀ r, r ∈ rs → Closed p N r) : Moved N p rs rs := fun r hr => by
  refine ⟨r, hr, rfl, (nodup_perm (img_nodup hp (g r hr)) (sorted_nodup (g r hr).srt) (fun x hx => ?_) (by simp)).symm⟩
  obtain ⟨t, ht, rfl⟩ := List.mem_map.1 hx
  exact h r hr t ht
theorem ap_id {N x : Nat} (h : x < N) : ap (idL N) x = x := by unfold ap; rw [idL_get h]; rfl
theorem Moved.sub {N : Nat} {rs rs' : List Rl} (g : ∀ r, r ∈ rs → GRel N r) (h : ∀ r, r ∈ rs' → r ∈ rs) : Moved N (idL N) rs rs' := fun r hr => by
  have gr := g r (h r hr)
  refine ⟨r, h r hr, rfl, ?_⟩
  have : r.ts.map (act (idL N) N r.ar.toNat) = r.ts := by
    conv => rhs; rw [← List.map_id r.ts]
    refine List.map_congr_left fun t ht => ?_
    have hv := gr.val t ht
    exact act_id (GRel.pos gr ht) _ hv.1 hv.2
  rw [this]
theorem Moved.img {N : Nat} {p : List Int} (hp : PermL N p) {rs : List Rl} : Moved N p rs (rs.map (relImg p)) := fun r' hr' => by
  obtain ⟨r, hr, rfl⟩ := List.mem_map.1 hr'
  refine ⟨r, hr, rfl, ?_⟩
  unfold relImg
  rw [hp.len]
  exact srtI_perm _
/-- coarser colours: still alike -/
theorem alike_coarse {N : Nat} {d c : List Int} (hd : ∀ v, v < N → 0 ≤ gI d v) (hdc : ∀ v w, v < N → w < N → EQ d v w → EQ c v w) {rs rs' : List Rl} (g : ∀ r, r ∈ rs → GRel N r) (hs : ∀ r, r ∈ rs' → r ∈ rs) {x y : Nat} (hx : x < N) (hy : y < N)
    (h : AlikeW N rs d x y) : AlikeW N rs' c x y := by
  have := alike_map (idL_perm N) hd (c := c) (fun v w hv hw e => by rw [ap_id hv, ap_id hw]; exact hdc v w hv hw e) (Moved.sub g hs) hx hy h
  rwa [ap_id hx, ap_id hy] at this
end Go.Proofs.Ytiophnmdopoeeaa.L7

set_option linter.unusedVariables false
set_option linter.unusedSimpArgs false
set_option maxRecDepth 100000
namespace Go.Proofs.Ytiophnmdopoeeaa.L8
open Go Go.Ev Go.Proofs Go.Proofs.Ytiophnmdopoeeaa.C1 Go.Proofs.Ytiophnmdopoeeaa.C2 Go.Proofs.Ytiophnmdopoeeaa.C3 Go.Proofs.Ytiophnmdopoeeaa.C4 Go.Proofs.Ytiophnmdopoeeaa.C5 Go.Proofs.Ytiophnmdopoeeaa.C6 Go.Proofs.Ytiophnmdopoeeaa.C7 Go.Proofs.Ytiophnmdopoeeaa.C9 Go.Proofs.Ytiophnmdopoeeaa.C10 Go.Proofs.Ytiophnmdopoeeaa.C11 Go.Proofs.Ytiophnmdopoeeaa.C12 Go.Proofs.Ytiophnmdopoeeaa.C13 Go.Proofs.Ytiophnmdopoeeaa.C14 Go.Proofs.Ytiophnmdopoeeaa.C15 Go.Proofs.Ytiophnmdopoeeaa.C16 Go.Proofs.Ytiophnmdopoeeaa.C17 Go.Proofs.Ytiophnmdopoeeaa.C18 Go.Proofs.Ytiophnmdopoeeaa.C19 Go.Proofs.Ytiophnmdopoeeaa.C20 Go.Proofs.Ytiophnmdopoeeaa.C21 Go.Proofs.Ytiophnmdopoeeaa.C22 Go.Proofs.Ytiophnmdopoeeaa.C23 Go.Proofs.Ytiophnmdopoeeaa.C24 Go.Proofs.Ytiophnmdopoeeaa.C25 Go.Proofs.Ytiophnmdopoeeaa.C26 Go.Proofs.Ytiophnmdopoeeaa.C27 Go.Proofs.Ytiophnmdopoeeaa.C28 Go.Proofs.Ytiophnmdopoeeaa.C29 Go.Proofs.Ytiophnmdopoeeaa.C30 Go.Proofs.Ytiophnmdopoeeaa.C31 Go.Proofs.Ytiophnmdopoeeaa.C32 Go.Proofs.Ytiophnmdopoeeaa.C33 Go.Proofs.Ytiophnmdopoeeaa.C34 Go.Proofs.Ytiophnmdopoeeaa.C35 Go.Proofs.Ytiophnmdopoeeaa.L1 Go.Proofs.Ytiophnmdopoeeaa.L2 Go.Proofs.Ytiophnmdopoeeaa.L3 Go.Proofs.Ytiophnmdopoeeaa.L4 Go.Proofs.Ytiophnmdopoeeaa.L5 Go.Proofs.Ytiophnmdopoeeaa.L6 Go.Proofs.Ytiophnmdopoeeaa.L7

/-! ### sorts -/
def flatS : List Int → Int → List Int
  | [], _ => []
  | a :: l, i => List.replicate a.toNat i ++ flatS l (i + 1)
theorem flatS_snoc (a : Int) : ∀ (l : List Int) (i : Int), flatS (l ++ [a]) i = flatS l i ++ List.replicate a.toNat (i + l.length)
  | [], i => by simp [flatS]
  | b :: l, i => by
    have : i + 1 + (l.length : Int) = i + ((b :: l).length : Int) := by simp; omega
    rw [List.cons_append, flatS, flatS, flatS_snoc a l (i + 1), List.append_assoc, this]
theorem sortsN_flat (atoms : List Int) : ∀ k, k ≤ atoms.length → sortsN atoms k = flatS (atoms.take k) 0
  | 0, _ => rfl
  | k + 1, hk => by
    rw [sortsN, foldN_succ, ← sortsN, sortsN_flat atoms k (by omega), List.take_add_one, List.getElem?_eq_getElem (by omega), Option.toList_some, flatS_snoc, gI_eq (by omega)]
    congr 2
    simp; omega
theorem flatS_get : ∀ (l : List Int) (i : Int) (x : Nat), (∀ a, a ∈ l → 0 ≤ a) → (x : Int) < sumI l → gI (flatS l i) x = sortIn l x i
  | [], i, x, _, h => by simp [sumI] at h; omega
  | a :: l, i, x, ha, h => by
    have h0 := ha a (by simp)
    rw [flatS, sortIn]
    by_cases hx : (x : Int) < a
    · rw [if_pos hx]
      unfold gI
      rw [List.getElem?_append_left (by simp; omega), List.getElem?_replicate, if_pos (by omega)]; rfl
    · rw [if_neg hx]
      have hs : sumI (a :: l) = a + sumI l := rfl
      have ih := flatS_get l (i + 1) (x - a.toNat) (fun b hb => ha b (by simp [hb])) (by omega)
      have e : ((x - a.toNat : Nat) : Int) = (x : Int) - a := by omega
      rw [e] at ih
      rw [← ih]
      unfold gI
      rw [List.getElem?_append_right (by simp; omega)]
      simp
theorem sortsL_get {sc : Sc} (g : GSc sc) {N : Nat} (hN : sumI sc.atoms = N) {x : Nat} (hx : x < N) : gI (sortsL sc) x = sortU sc x := by
  unfold sortsL sortU sortAt
  rw [sortsN_flat sc.atoms _ (Nat.le_refl _), List.take_length, if_neg (by omega)]
  exact flatS_get sc.atoms 0 x (fun a ha => (g.2 a ha).1) (by omega)

/-! ### the stable partition -/
structure StabF (sp : Sp) (sc : Sc) (N : Nat) (rs : List Rl) (c : List Int) (m : Nat) : Prop where
  len : c.length = N
  mle : m ≤ N
  rng : ∀ x, x < N → 0 ≤ gI c x ∧ gI c x < m
  onto : firstsN c N = m
  fine0 : ∀ x y, x < N → y < N → EQ c x y → x = y ∨ alike0 sp sc x y = true
  stab : ∀ x y, x < N → y < N → EQ c x y → AlikeW N rs c x y
theorem alike0_per (sp : Sp) (sc : Sc) (n : Nat) : PER n (Mt (List.replicate n 0) fun x y => alike0 sp sc x y) := by
  have hz : ∀ x y, x < n → y < n → gI (List.replicate n 0) x = gI (List.replicate n 0) y := fun x y hx hy => by simp [gI, hx, hy]
  refine ⟨fun x y hx hy h => ⟨hz y x hy hx, ?_⟩, fun x y z hx hy hz' h k => ⟨hz x z hx hz', ?_⟩⟩
  · have := h.2
    simp only [alike0, Bool.and_eq_true, decide_eq_true_eq] at this ⊢
    rw [← this.1]; exact ⟨rfl, this.2⟩
  · have h1 := h.2
    have h2 := k.2
    simp only [alike0, Bool.and_eq_true, decide_eq_true_eq] at h1 h2 ⊢
    exact ⟨h1.1.trans h2.1, h1.2⟩
theorem cls0_iff {sp : Sp} {sc : Sc} {N : Nat} (hN : sumI sc.atoms = N) {x y : Nat} (hx : x < N) (hy : y < N) : EQ (cls0 sp sc).1 x y ↔ x = y ∨ alike0 sp sc x y = true := by
  unfold cls0
  have e : (sumI sc.atoms).toNat = N := by omega
  rw [e, split_iff _ _ N (alike0_per sp sc N) x y hx hy, Mt]
  have hz : gI (List.replicate N 0) x = gI (List.replicate N 0) y := by simp [gI, hx, hy]
  simp [hz]
theorem cls0_len {sp : Sp} {sc : Sc} {N : Nat} (hN : sumI sc.atoms = N) : (cls0 sp sc).1.length = N ∧ firstsN (cls0 sp sc).1 N = (cls0 sp sc).2 ∧ 0 ≤ (cls0 sp sc).2 := by
  unfold cls0
  have e : (sumI sc.atoms).toNat = N := by omega
  rw [e]
  have ok := splitN_ok (List.replicate N 0) (fun x y => alike0 sp sc x y) N
  exact ⟨ok.1, firsts_split _ _ N, ok.2.1⟩
/-- what a round keeps holds of the stable partition -/
theorem stable_ind {sp : Sp} {sc : Sc} {N : Nat} (hN : sumI sc.atoms = N) (bs : List Bd) (Q : List Int → Prop) (h0 : Q (cls0 sp sc).1) (h : ∀ c, c.length = N → Q c → Q (roundS N (relsOf bs) c).1) : Q (stableS sp sc bs).1 := by
  unfold stableS
  rw [hN]
  exact stab_ind Q h _ _ (cls0_len hN).1 h0
theorem stableF {sp : Sp} {sc : Sc} {N : Nat} (hN : sumI sc.atoms = N) {bs : List Bd} (g : ∀ r, r ∈ relsOf bs → GRel N r) : ∃ m : Nat, (stableS sp sc bs).2 = m ∧ StabF sp sc N (relsOf bs) (stableS sp sc bs).1 m := by
  have ok := stableS_ok sp sc bs N (by omega)
  obtain ⟨m, hm⟩ := Int.eq_ofNat_of_zero_le ok.2.1
  refine ⟨m, hm, ok.1, by omega, fun x hx => ?_, by rw [ok.2.2.2.2, hm], ?_, ?_⟩
  · have := ok.2.2.2.1 _ (gI_mem (p := (stableS sp sc bs).1) (i := x) (by omega)); omega
  · exact stable_ind hN bs (fun c => ∀ x y, x < N → y < N → EQ c x y → x = y ∨ alike0 sp sc x y = true) (fun x y hx hy h => (cls0_iff hN hx hy).1 h)
      (fun c hc hq x y hx hy h => hq x y hx hy ((round_iff g hc hx hy).1 h).1)
  · have hfix : (roundS N (relsOf bs) (stableS sp sc bs).1).2 = (stableS sp sc bs).2 := by
      unfold stableS
      rw [hN]
      have h0 := cls0_len (sp := sp) hN
      exact stab_fix _ _ h0.1 h0.2.1 (by simp; omega)
    intro x y hx hy h
    have hl := ok.1
    have e : (splitN (stableS sp sc bs).1 (sigAl N (relsOf bs) (stableS sp sc bs).1) N).2 = firstsN (stableS sp sc bs).1 N := by
      rw [ok.2.2.2.2, ← hfix]
      unfold roundS
      rw [hl]
    rcases split_same _ _ N (sig_per g hl) e x y hx hy h with rfl | h2
    · exact (alikeW_per N _ _).1 x
    · exact (sigAl_iff N _ hl _ g hx hy).1 h2.2

/-- a colouring that is stable is at least as fine -/
theorem stable_coarsest {sp : Sp} {sc : Sc} {N : Nat} (hN : sumI sc.atoms = N) {bs : List Bd} (g : ∀ r, r ∈ relsOf bs → GRel N r) {p : List Int} (hp : PermL N p) {d : List Int} (hd : ∀ v, v < N → 0 ≤ gI d v)
    {rs : List Rl} (hm : Moved N p rs (relsOf bs)) (h0 : ∀ x y, x < N → y < N → EQ d x y → ap p x = ap p y ∨ alike0 sp sc (ap p x) (ap p y) = true) (hst : ∀ x y, x < N → y < N → EQ d x y → AlikeW N rs d x y) :
    ∀ x y, x < N → y < N → EQ d x y → EQ (stableS sp sc bs).1 (ap p x) (ap p y) :=
  stable_ind hN bs (fun c => ∀ x y, x < N → y < N → EQ d x y → EQ c (ap p x) (ap p y)) (fun x y hx hy h => (cls0_iff hN (hp.ap_lt hx) (hp.ap_lt hy)).2 (h0 x y hx hy h))
    (fun c hc hq x y hx hy h => (round_iff g hc (hp.ap_lt hx) (hp.ap_lt hy)).2 ⟨hq x y hx hy h, alike_map hp hd (fun v w hv hw e => hq v w hv hw e) hm hx hy (hst x y hx hy h)⟩)

/-- what fixes the atoms of ordered sorts -/
def FixO (sp : Sp) (sc : Sc) (N : Nat) (p : List Int) : Prop := ∀ x, x < N → ap p x = x ∨ ordAt sp (sortU sc x) = false
/-- a symmetry keeps the classes -/
theorem sym_class {sp : Sp} {sc : Sc} (u : GSc sc) {N : Nat} (hN : sumI sc.atoms = N) {bs : List Bd} (g : ∀ r, r ∈ relsOf bs → GRel N r) {p : List Int} (h : SymP sc N (relsOf bs) p) (hf : FixO sp sc N p) :
    ∀ x, x < N → gI (stableS sp sc bs).1 (ap p x) = gI (stableS sp sc bs).1 x := by
  refine stable_ind hN bs (fun c => ∀ x, x < N → gI c (ap p x) = gI c x) ?_ ?_
  · intro x hx
    have hl := h.perm.ap_lt hx
    refine (cls0_iff hN hl hx).2 ?_
    rcases hf x hx with e | e
    · exact .inl e
    · refine .inr ?_
      have hk := h.keep x hx
      rw [sortsL_get u hN hl, sortsL_get u hN hx] at hk
      simp only [alike0, Bool.and_eq_true, decide_eq_true_eq, Bool.not_eq_true']
      rw [hk]; exact ⟨rfl, e⟩
  · intro c hc hq x hx
    have hl := h.perm.ap_lt hx
    refine (round_iff g hc hl hx).2 ⟨hq x hx, fun r hr => ?_⟩
    obtain ⟨r0, hr0, har, hts⟩ := Moved.closed h.perm g h.cl r hr
    have key : (wl N c r (ap p x)).Perm (wl N c r0 x) := by
      have := wl_map h.perm (d := c) (c := c) (H := fun u => u) rfl (fun v hv => by rw [hq v hv]) hx har hts
      simpa using this
    have hr0r : (wl N c r0 x).Perm (wl N c r x) := by
      have : r0.ts.map (act p N r0.ar.toNat) = r0.ts.map (act p N r0.ar.toNat) := rfl
      -- r and its image are the same set
      have hp2 := Moved.closed h.perm g h.cl
      have hcl := nodup_perm (img_nodup h.perm (g r0 hr0)) (sorted_nodup (g r0 hr0).srt) (fun z hz => by
        obtain ⟨t, ht, rfl⟩ := List.mem_map.1 hz
        exact h.cl r0 hr0 t ht) (by simp)
      have : r.ts.Perm r0.ts := hts.trans hcl
      unfold wl
      rw [har]
      exact (this.symm.filter _).map _
    exact key.trans hr0r
end Go.Proofs.Ytiophnmdopoeeaa.L8

set_option linter.unusedVariables false
set_option linter.unusedSimpArgs false
set_option maxRecDepth 100000
namespace Go.Proofs.Ytiophnmdopoeeaa.L9
open Go Go.Ev Go.Proofs Go.Proofs.Ytiophnmdopoeeaa.C1 Go.Proofs.Ytiophnmdopoeeaa.C2 Go.Proofs.Ytiophnmdopoeeaa.C3 Go.Proofs.Ytiophnmdopoeeaa.C4 Go.Proofs.Ytiophnmdopoeeaa.C5 Go.Proofs.Ytiophnmdopoeeaa.C6 Go.Proofs.Ytiophnmdopoeeaa.C7 Go.Proofs.Ytiophnmdopoeeaa.C9 Go.Proofs.Ytiophnmdopoeeaa.C10 Go.Proofs.Ytiophnmdopoeeaa.C11 Go.Proofs.Ytiophnmdopoeeaa.C12 Go.Proofs.Ytiophnmdopoeeaa.C13 Go.Proofs.Ytiophnmdopoeeaa.C14 Go.Proofs.Ytiophnmdopoeeaa.C15 Go.Proofs.Ytiophnmdopoeeaa.C16 Go.Proofs.Ytiophnmdopoeeaa.C17 Go.Proofs.Ytiophnmdopoeeaa.C18 Go.Proofs.Ytiophnmdopoeeaa.C19 Go.Proofs.Ytiophnmdopoeeaa.C20 Go.Proofs.Ytiophnmdopoeeaa.C21 Go.Proofs.Ytiophnmdopoeeaa.C22 Go.Proofs.Ytiophnmdopoeeaa.C23 Go.Proofs.Ytiophnmdopoeeaa.C24 Go.Proofs.Ytiophnmdopoeeaa.C25 Go.Proofs.Ytiophnmdopoeeaa.C26 Go.Proofs.Ytiophnmdopoeeaa.C27 Go.Proofs.Ytiophnmdopoeeaa.C28 Go.Proofs.Ytiophnmdopoeeaa.C29 Go.Proofs.Ytiophnmdopoeeaa.C30 Go.Proofs.Ytiophnmdopoeeaa.C31 Go.Proofs.Ytiophnmdopoeeaa.C32 Go.Proofs.Ytiophnmdopoeeaa.C33 Go.Proofs.Ytiophnmdopoeeaa.C34 Go.Proofs.Ytiophnmdopoeeaa.C35 Go.Proofs.Ytiophnmdopoeeaa.L1 Go.Proofs.Ytiophnmdopoeeaa.L2 Go.Proofs.Ytiophnmdopoeeaa.L3 Go.Proofs.Ytiophnmdopoeeaa.L4 Go.Proofs.Ytiophnmdopoeeaa.L5 Go.Proofs.Ytiophnmdopoeeaa.L6 Go.Proofs.Ytiophnmdopoeeaa.L7 Go.Proofs.Ytiophnmdopoeeaa.L8

/-! ### the search -/
theorem flatMap_congr' {α β : Type} : ∀ (l : List α) (f g : α → List β), (∀ a, a ∈ l → f a = g a) → l.flatMap f = l.flatMap g
  | [], f, g, _ => rfl
  | a :: l, f, g, h => by rw [List.flatMap_cons, List.flatMap_cons, h a (by simp), flatMap_congr' l f g fun b hb => h b (by simp [hb])]
theorem extG_pre (N : Nat) (cls : List Int) (cons : List Int → Bool) : ∀ (d : Nat) (p q : List Int), q ∈ extG N cls cons d p → ∃ s, q = p ++ s ∧ s.length = d
  | 0, p, q, h => ⟨[], by simpa [extG] using h, rfl⟩
  | d + 1, p, q, h => by
    rw [extG, List.mem_flatMap] at h
    obtain ⟨y, _, h⟩ := h
    split at h
    · obtain ⟨s, e, hs⟩ := extG_pre N cls cons d _ q h
      exact ⟨(y : Int) :: s, by rw [e]; simp, by simp [hs]⟩
    · simp at h
/-- all steps from a on, d of them, may be made -/
def okF (cls : List Int) (cons : List Int → Bool) (q : List Int) : Nat → Nat → Bool
  | _, 0 => true
  | a, d + 1 => decide (goOn cls cons (q.take a) (ap q a)) && okF cls cons q (a + 1) d
theorem gI_app_mid {p s : List Int} {y : Int} : gI (p ++ y :: s) p.length = y := by simp [gI]
theorem extG_step {N : Nat} {cls : List Int} {cons : List Int → Bool} {d : Nat} {p q : List Int} {y : Nat} (h : q ∈ extG N cls cons d (p ++ [(y : Int)])) : q.take p.length = p ∧ ap q p.length = y := by
  obtain ⟨s, e, _⟩ := extG_pre N cls cons d _ q h
  have e2 : q = p ++ (y : Int) :: s := by rw [e]; simp
  refine ⟨by rw [e2]; exact List.take_left' rfl, ?_⟩
  · unfold ap; rw [e2, gI_app_mid]; rfl
theorem extG_filter {N : Nat} {cls cls' : List Int} {cons cons' : List Int → Bool} (himp : ∀ (pre : List Int) (y : Nat), pre.length < N → y < N → goOn cls' cons' pre y → goOn cls cons pre y) :
    ∀ (d : Nat) (p : List Int), p.length + d ≤ N → extG N cls' cons' d p = (extG N cls cons d p).filter fun q => okF cls' cons' q p.length d
  | 0, p, _ => by simp [extG, okF]
  | d + 1, p, hd => by
    rw [extG, extG, List.filter_flatMap]
    refine flatMap_congr' _ _ _ fun y hy => ?_
    have hy : y < N := by simpa using hy
    have ih := extG_filter himp d (p ++ [(y : Int)]) (by simp; omega)
    by_cases h : goOn cls' cons' p y
    · rw [if_pos h, if_pos (himp p y (by omega) hy h), ih]
      refine List.filter_congr fun q hq => ?_
      obtain ⟨e1, e2⟩ := extG_step hq
      rw [okF, e1, e2, List.length_append, List.length_singleton]
      simp [h]
    · rw [if_neg h]
      symm
      rw [List.filter_eq_nil_iff]
      intro q hq
      split at hq
      · obtain ⟨e1, e2⟩ := extG_step hq
        rw [okF, e1, e2]
        simp [h]
      · simp at hq
theorem okF_iff {cls : List Int} {cons : List Int → Bool} {q : List Int} : ∀ (d a : Nat), okF cls cons q a d = true ↔ ∀ k, a ≤ k → k < a + d → goOn cls cons (q.take k) (ap q k)
  | 0, a => by
    simp only [okF, true_iff]
    intro k h1 h2; omega
  | d + 1, a => by
    rw [okF, Bool.and_eq_true, decide_eq_true_eq, okF_iff d (a + 1)]
    constructor
    · rintro ⟨h1, h2⟩ k hk1 hk2
      by_cases e : k = a
      · subst e; exact h1
      · exact h2 k (by omega) (by omega)
    · intro h; exact ⟨h a (Nat.le_refl _) (by omega), fun k h1 h2 => h k (by omega) (by omega)⟩
theorem mem_extG {N : Nat} {cls : List Int} {cons : List Int → Bool} : ∀ (d : Nat) (p q : List Int), q ∈ extG N cls cons d p ↔ (∃ s, q = p ++ s ∧ s.length = d) ∧ ∀ k, p.length ≤ k → k < p.length + d → 0 ≤ gI q k ∧ gI q k < N ∧ goOn cls cons (q.take k) (ap q k)
  | 0, p, q => by
    rw [extG, List.mem_singleton]
    constructor
    · rintro rfl; exact ⟨⟨[], by simp, rfl⟩, fun k h1 h2 => by omega⟩
    · rintro ⟨⟨s, e, hs⟩, _⟩
      have := List.eq_nil_of_length_eq_zero hs
      subst this; simpa using e
  | d + 1, p, q => by
    have ih := fun y : Nat => mem_extG (N := N) (cls := cls) (cons := cons) d (p ++ [(y : Int)]) q
    rw [extG, List.mem_flatMap]
    constructor
    · rintro ⟨y, hy, h⟩
      have hy : y < N := by simpa using hy
      split at h
      · rename_i hg
        obtain ⟨e1, e2⟩ := extG_step h
        obtain ⟨⟨s, e, hs⟩, hk⟩ := (ih y).1 h
        refine ⟨⟨(y : Int) :: s, by rw [e]; simp, by simp [hs]⟩, fun k h1 h2 => ?_⟩
        by_cases ek : k = p.length
        · subst ek
          rw [e1, e2]
          have : gI q p.length = y := by rw [e, List.append_assoc]; exact gI_app_mid
          exact ⟨by omega, by omega, hg⟩
        · exact hk k (by simp; omega) (by simp; omega)
      · simp at h
    · rintro ⟨⟨s, e, hs⟩, hk⟩
      obtain ⟨y, s', rfl⟩ : ∃ y s', s = y :: s' := by
        cases s with
        | nil => simp at hs
        | cons y s' => exact ⟨y, s', rfl⟩
      have h0 := hk p.length (Nat.le_refl _) (by omega)
      have hy : gI q p.length = y := by rw [e]; exact gI_app_mid
      rw [hy] at h0
      have hyn : ((y.toNat : Nat) : Int) = y := by omega
      have ht : q.take p.length = p := by rw [e, List.take_left']; rfl
      have hap : ap q p.length = y.toNat := by unfold ap; rw [hy]
      refine ⟨y.toNat, by simp; omega, ?_⟩
      rw [ht, hap] at h0
      rw [if_pos h0.2.2, ih, hyn]
      exact ⟨⟨s', by rw [e]; simp, by simpa using hs⟩, fun k h1 h2 => hk k (by simp at h1; omega) (by simp at h2; omega)⟩

/-- steps that a permutation makes -/
theorem take_succ_gI {q : List Int} {k : Nat} (h : k < q.length) : q.take (k + 1) = q.take k ++ [gI q k] := by rw [List.take_add_one, List.getElem?_eq_getElem h, gI_eq h]; rfl
theorem goOn_perm {N : Nat} {cls : List Int} {cons : List Int → Bool} {q : List Int} (hq : PermL N q) {k : Nat} (hk : k < N) : goOn cls cons (q.take k) (ap q k) ↔ gI cls (ap q k) = gI cls k ∧ cons (q.take (k + 1)) = true := by
  have hkl : k < q.length := by rw [hq.len]; exact hk
  have hl : (q.take k).length = k := by rw [List.length_take]; omega
  unfold goOn
  rw [hl, ← hq.ap_eq hk, ← take_succ_gI hkl]
  have : ¬ gI q k ∈ q.take k := by
    intro h
    obtain ⟨j, hj, e⟩ := List.mem_iff_getElem.1 h
    have hjk : j < k := by rw [hl] at hj; exact hj
    rw [List.getElem_take] at e
    have := gI_inj hq.nd (i := j) (j := k) (by omega) hkl (by rw [gI_eq (by omega)]; exact e)
    omega
  simp [this]
theorem mem_ext0 {N : Nat} {cls : List Int} {cons : List Int → Bool} {q : List Int} : q ∈ extG N cls cons N [] ↔ PermL N q ∧ ∀ k, k < N → gI cls (ap q k) = gI cls k ∧ cons (q.take (k + 1)) = true := by
  rw [mem_extG]
  constructor
  · rintro ⟨⟨s, e, hs⟩, hk⟩
    have e : q = s := by simpa using e
    subst e
    have hp : PermL N q := by
      refine ⟨hs, fun v hv => ?_, ?_⟩
      · obtain ⟨i, hi, rfl⟩ := mem_gI hv
        have := hk i (by simp) (by simp; omega)
        exact ⟨this.1, this.2.1⟩
      · unfold List.Nodup
        rw [List.pairwise_iff_getElem]
        intro i j hi hj hij e
        have hj2 := (hk j (by simp) (by simp; omega))
        have := hj2.2.2.2.1
        refine this ?_
        have ej : ((ap q j : Nat) : Int) = q[j] := by
          have := hj2.1
          unfold ap
          rw [gI_eq hj] at this ⊢; omega
        rw [ej, ← e]
        exact List.mem_iff_getElem.2 ⟨i, by rw [List.length_take]; omega, by rw [List.getElem_take]⟩
    exact ⟨hp, fun k hk' => (goOn_perm hp hk').1 (hk k (by simp) (by simpa using hk')).2.2⟩
  · rintro ⟨hp, h⟩
    refine ⟨⟨q, by simp, hp.len⟩, fun k _ hk => ?_⟩
    have hk : k < N := by simpa using hk
    have := hp.rng _ (gI_mem (p := q) (i := k) (by rw [hp.len]; exact hk))
    exact ⟨this.1, this.2, (goOn_perm hp hk).2 (h k hk)⟩
theorem mem_allS {sc : Sc} {N : Nat} {q : List Int} : q ∈ allS N sc ↔ PermL N q ∧ KeepS (sortsL sc) N q := by
  unfold allS
  rw [mem_ext0]
  exact ⟨fun h => ⟨h.1, fun x hx => (h.2 x hx).1⟩, fun h => ⟨h.1, fun k hk => ⟨h.2 k hk, rfl⟩⟩⟩

/-! ### the pruning -/
theorem maxF_mem {l : List Int} (h : l ≠ []) : maxF l ∈ l := by
  cases l with
  | nil => exact absurd rfl h
  | cons x l =>
    have key : ∀ (l : List Int) (a : Int), l.foldl max a = a ∨ l.foldl max a ∈ l := by
      intro l
      induction l with
      | nil => intro a; exact .inl rfl
      | cons y l ih =>
        intro a
        rw [List.foldl_cons]
        rcases ih (max a y) with h | h
        · rw [h]
          rcases Int.le_total a y with h2 | h2
          · exact .inr (by rw [Int.max_eq_right h2]; simp)
          · exact .inl (Int.max_eq_left h2)
        · exact .inr (by simp [h])
    rcases key l x with h | h
    · show l.foldl max x ∈ x :: l
      rw [h]; simp
    · show l.foldl max x ∈ x :: l
      simp [h]
theorem take_gI {q : List Int} {k x : Nat} (h : x ≤ k) : gI (q.take (k + 1)) x = gI q x := by
  unfold gI; rw [List.getElem?_take, if_pos (by omega)]
theorem cons_iff {N : Nat} {rs : List Rl} (g : ∀ r, r ∈ rs → GRel N r) {q : List Int} (hq : PermL N q) : (∀ k, k < N → consB N rs (q.take (k + 1)) = true) ↔ ∀ r, r ∈ rs → Closed q N r := by
  have img : ∀ (t : Int) (ar k : Nat), 1 ≤ N → (∀ d, d ∈ digN N t ar → d ≤ k) → rankF N ((digN N t ar).map fun x => gI (q.take (k + 1)) x.toNat) = act q N ar t := by
    intro t ar k hN hd
    rw [rankF_val, act, imgN_val]
    congr 1
    refine List.map_congr_left fun x hx => ?_
    have h1 := hd x hx
    have h2 := digN_dg (n := N) (t := t) (by omega) ar x hx
    exact take_gI (by omega)
  have pl : ∀ k, k < N → (q.take (k + 1)).length = k + 1 := fun k hk => by rw [List.length_take, hq.len]; omega
  constructor
  · intro h r hr t ht
    have hN := GRel.pos (g r hr) ht
    have har := (g r hr).ar1
    have hne : digN N t r.ar.toNat ≠ [] := by
      intro e
      have := digN_len N t r.ar.toNat
      rw [e] at this; simp at this; omega
    have hmx := maxF_mem hne
    have hdg := digN_dg (n := N) (t := t) (by omega) r.ar.toNat _ hmx
    obtain ⟨k, hk⟩ := Int.eq_ofNat_of_zero_le hdg.1
    have hkN : k < N := by omega
    have hc := h k hkN
    unfold consB at hc
    rw [List.all_eq_true] at hc
    have hc := hc r hr
    unfold consR at hc
    rw [List.all_eq_true] at hc
    have hc := hc t ht
    unfold cons1 at hc
    rw [Bool.or_eq_true, decide_eq_true_eq, decide_eq_true_eq, pl k hkN, hk] at hc
    rcases hc with hc | hc
    · exact absurd (show (k : Int) = ((k + 1 : Nat) : Int) - 1 by omega) hc
    · rw [img t _ k hN (fun d hd => by have := maxF_le hd; omega)] at hc
      exact hc
  · intro h k hk
    unfold consB
    rw [List.all_eq_true]
    intro r hr
    unfold consR
    rw [List.all_eq_true]
    intro t ht
    have hN := GRel.pos (g r hr) ht
    unfold cons1
    rw [Bool.or_eq_true, decide_eq_true_eq, decide_eq_true_eq, pl k hk]
    by_cases e : maxF (digN N t r.ar.toNat) = ((k + 1 : Nat) : Int) - 1
    · refine .inr ?_
      rw [img t _ k hN (fun d hd => by have := maxF_le hd; omega)]
      exact h r hr t ht
    · exact .inl e
end Go.Proofs.Ytiophnmdopoeeaa.L9

set_option linter.unusedVariables false
set_option linter.unusedSimpArgs false
set_option maxRecDepth 100000
namespace Go.Proofs.Ytiophnmdopoeeaa.L10
open Go Go.Ev Go.Proofs Go.Proofs.Ytiophnmdopoeeaa.C1 Go.Proofs.Ytiophnmdopoeeaa.C2 Go.Proofs.Ytiophnmdopoeeaa.C3 Go.Proofs.Ytiophnmdopoeeaa.C4 Go.Proofs.Ytiophnmdopoeeaa.C5 Go.Proofs.Ytiophnmdopoeeaa.C6 Go.Proofs.Ytiophnmdopoeeaa.C7 Go.Proofs.Ytiophnmdopoeeaa.C9 Go.Proofs.Ytiophnmdopoeeaa.C10 Go.Proofs.Ytiophnmdopoeeaa.C11 Go.Proofs.Ytiophnmdopoeeaa.C12 Go.Proofs.Ytiophnmdopoeeaa.C13 Go.Proofs.Ytiophnmdopoeeaa.C14 Go.Proofs.Ytiophnmdopoeeaa.C15 Go.Proofs.Ytiophnmdopoeeaa.C16 Go.Proofs.Ytiophnmdopoeeaa.C17 Go.Proofs.Ytiophnmdopoeeaa.C18 Go.Proofs.Ytiophnmdopoeeaa.C19 Go.Proofs.Ytiophnmdopoeeaa.C20 Go.Proofs.Ytiophnmdopoeeaa.C21 Go.Proofs.Ytiophnmdopoeeaa.C22 Go.Proofs.Ytiophnmdopoeeaa.C23 Go.Proofs.Ytiophnmdopoeeaa.C24 Go.Proofs.Ytiophnmdopoeeaa.C25 Go.Proofs.Ytiophnmdopoeeaa.C26 Go.Proofs.Ytiophnmdopoeeaa.C27 Go.Proofs.Ytiophnmdopoeeaa.C28 Go.Proofs.Ytiophnmdopoeeaa.C29 Go.Proofs.Ytiophnmdopoeeaa.C30 Go.Proofs.Ytiophnmdopoeeaa.C31 Go.Proofs.Ytiophnmdopoeeaa.C32 Go.Proofs.Ytiophnmdopoeeaa.C33 Go.Proofs.Ytiophnmdopoeeaa.C34 Go.Proofs.Ytiophnmdopoeeaa.C35 Go.Proofs.Ytiophnmdopoeeaa.L1 Go.Proofs.Ytiophnmdopoeeaa.L2 Go.Proofs.Ytiophnmdopoeeaa.L3 Go.Proofs.Ytiophnmdopoeeaa.L4 Go.Proofs.Ytiophnmdopoeeaa.L5 Go.Proofs.Ytiophnmdopoeeaa.L6 Go.Proofs.Ytiophnmdopoeeaa.L7 Go.Proofs.Ytiophnmdopoeeaa.L8 Go.Proofs.Ytiophnmdopoeeaa.L9

/-! ### bounds that fit -/
structure Fit (sp : Sp) (sc : Sc) (bs : List Bd) (most : Int) (N : Nat) : Prop where
  ok : fitsOk sp sc bs most = true
  u : GU sc
  hN : sumI sc.atoms = N
  hsp : sc.atoms.length = sp.sorts.length
  gb : GBs (sumI sc.atoms) bs
  g : ∀ r, r ∈ relsOf bs → GRel N r
  le : (N : Int) ≤ most
  le12 : N ≤ 12
  bl : bs.length = sp.fields.length
  b6 : bs.length ≤ 6
  fit : ∀ p, p ∈ bs.zip sp.fields → fit1 sp sc p.1 p.2 = true
theorem sideOk_grel {sc : Sc} {f : Fld} {r : Rl} (h : sideOk sc f r = true) : GRel (sumI sc.atoms) r := by
  simp only [sideOk, validOk, Bool.and_eq_true, decide_eq_true_eq, List.all_eq_true] at h
  obtain ⟨⟨⟨h1, h2⟩, ⟨⟨⟨⟨⟨h3, h4⟩, h5⟩, h6⟩, h7⟩, h8⟩⟩, _⟩ := h
  refine ⟨h5, h6, h2, fun t ht => ?_, h8⟩
  have := h7 t ht
  unfold powI powN at this
  rw [Int.min_eq_left h6] at this
  exact this
theorem Fit.of {sp : Sp} {sc : Sc} {bs : List Bd} {most : Int} (h : fitsOk sp sc bs most = true) : ∃ N, Fit sp sc bs most N := by
  have h' := h
  simp only [fitsOk, Bool.and_eq_true, decide_eq_true_eq, List.all_eq_true] at h'
  obtain ⟨⟨⟨⟨⟨h1, h2⟩, h3⟩, h4⟩, h5⟩, h6⟩ := h'
  have g := scopeOk_g h2
  have h2' := h2
  simp only [scopeOk, Bool.and_eq_true, decide_eq_true_eq] at h2'
  have h0 : 0 ≤ sumI sc.atoms := (sumI_bounds sc.atoms 5 (fun a ha => g.2 a ha)).1
  obtain ⟨N, hN⟩ := Int.eq_ofNat_of_zero_le h0
  have hrel : ∀ b, b ∈ bs → GRel (sumI sc.atoms) b.lo ∧ GRel (sumI sc.atoms) b.up := by
    intro b hb
    obtain ⟨i, hi, e⟩ := List.mem_iff_getElem.1 hb
    have hi2 : i < sp.fields.length := by omega
    have := h6 (bs[i], sp.fields[i]) (List.mem_iff_getElem.2 ⟨i, by simp; omega, by simp⟩)
    simp only [fit1, Bool.and_eq_true] at this
    rw [← e]
    exact ⟨sideOk_grel this.1.1.2, sideOk_grel this.1.2⟩
  have gb : GBs (sumI sc.atoms) bs := ⟨h5, hrel⟩
  exact ⟨N, h, ⟨g, h0, h2'.2⟩, hN, h2'.1.1.1.1.1, gb, by rw [← hN]; exact gb.rels.2, by omega, by have := h2'.2; omega, h4, h5, h6⟩
theorem Fit.sort {sp : Sp} {sc : Sc} {bs : List Bd} {most : Int} {N : Nat} (F : Fit sp sc bs most N) {x : Nat} (hx : x < N) : 0 ≤ sortU sc x ∧ sortU sc x < sp.sorts.length := by
  have := sortU_range F.u.g (x := (x : Int)) (by omega) (by rw [F.hN]; omega)
  rw [F.hsp] at this; exact this

theorem fixes_iff {sp : Sp} {sc : Sc} {bs : List Bd} {most : Int} {N : Nat} (F : Fit sp sc bs most N) {p : List Int} (hp : PermL N p) : fixesOk sp sc p = true ↔ FixO sp sc N p := by
  unfold fixesOk FixO
  rw [allN_iff, hp.len]
  refine forall_congr' fun x => ?_
  constructor
  · intro h hx
    have h := h hx
    have hs := F.sort hx
    unfold sortU at hs ⊢
    rw [if_neg (by omega)] at hs ⊢
    unfold fix1 at h
    simp only [Bool.not_eq_true', Bool.and_eq_false_iff, decide_eq_false_iff_not] at h
    unfold ordAt
    rcases h with ((h | h) | h) | h
    · exact absurd hs.1 h
    · exact absurd hs.2 h
    · exact .inr h
    · refine .inl ?_
      have h : gI p x = x := Decidable.byContradiction fun hc => h hc
      unfold ap; rw [h]; rfl
  · intro h hx
    have h := h hx
    unfold sortU at h
    rw [if_neg (by omega)] at h
    unfold fix1
    simp only [Bool.not_eq_true', Bool.and_eq_false_iff, decide_eq_false_iff_not]
    rcases h with h | h
    · refine .inr fun hc => hc ?_
      rw [hp.ap_eq hx, h]
    · exact .inl (.inr h)

/-- the group -/
theorem class_fix {sp : Sp} {sc : Sc} {bs : List Bd} {most : Int} {N : Nat} (F : Fit sp sc bs most N) {p : List Int} (hp : PermL N p) (h : ∀ x, x < N → gI (stableS sp sc bs).1 (ap p x) = gI (stableS sp sc bs).1 x) : FixO sp sc N p ∧ KeepS (sortsL sc) N p := by
  obtain ⟨m, _, S⟩ := stableF (sp := sp) F.hN F.g
  have key : ∀ x, x < N → ap p x = x ∨ alike0 sp sc (ap p x) x = true := fun x hx => S.fine0 _ _ (hp.ap_lt hx) hx (h x hx)
  refine ⟨fun x hx => ?_, fun x hx => ?_⟩
  · rcases key x hx with h | h
    · exact .inl h
    · simp only [alike0, Bool.and_eq_true, decide_eq_true_eq, Bool.not_eq_true'] at h
      rw [← h.1]; exact .inr h.2
  · rcases key x hx with h | h
    · rw [h]
    · simp only [alike0, Bool.and_eq_true, decide_eq_true_eq, Bool.not_eq_true'] at h
      rw [sortsL_get F.u.g F.hN (hp.ap_lt hx), sortsL_get F.u.g F.hN hx]; exact h.1
theorem mem_grp {sp : Sp} {sc : Sc} {bs : List Bd} {most : Int} {N : Nat} (F : Fit sp sc bs most N) {q : List Int} : q ∈ grpS sp sc N bs ↔ SymP sc N (relsOf bs) q ∧ FixO sp sc N q := by
  unfold grpS
  rw [mem_ext0]
  constructor
  · rintro ⟨hp, h⟩
    have hc := class_fix F hp fun x hx => (h x hx).1
    exact ⟨⟨hp, hc.2, (cons_iff F.g hp).1 fun k hk => (h k hk).2⟩, hc.1⟩
  · rintro ⟨hs, hf⟩
    have h1 := sym_class F.u.g F.hN F.g hs hf
    have h2 := (cons_iff F.g hs.perm).2 hs.cl
    exact ⟨hs.perm, fun k hk => ⟨h1 k hk, h2 k hk⟩⟩
theorem grp_class {sp : Sp} {sc : Sc} {bs : List Bd} {most : Int} {N : Nat} (F : Fit sp sc bs most N) {q : List Int} (h : q ∈ grpS sp sc N bs) : ∀ x, x < N → gI (stableS sp sc bs).1 (ap q x) = gI (stableS sp sc bs).1 x := by
  have := (mem_grp F).1 h
  exact sym_class F.u.g F.hN F.g this.1 this.2
theorem grp_filter {sp : Sp} {sc : Sc} {bs : List Bd} {most : Int} {N : Nat} (F : Fit sp sc bs most N) : grpS sp sc N bs = (allS N sc).filter fun q => fixesOk sp sc q && symB sc bs q := by
  obtain ⟨m, _, S⟩ := stableF (sp := sp) F.hN F.g
  have h1 : grpS sp sc N bs = (allS N sc).filter fun q => okF (stableS sp sc bs).1 (consB N (relsOf bs)) q 0 N := by
    unfold grpS allS
    refine extG_filter (fun pre y hp hy h => ?_) N [] (by simp)
    refine ⟨?_, h.2.1, rfl⟩
    rcases S.fine0 y pre.length hy hp h.1 with e | e
    · rw [e]
    · simp only [alike0, Bool.and_eq_true, decide_eq_true_eq] at e
      rw [sortsL_get F.u.g F.hN hy, sortsL_get F.u.g F.hN hp]; exact e.1
  rw [h1]
  refine List.filter_congr fun q hq => ?_
  obtain ⟨hp, hk⟩ := mem_allS.1 hq
  rw [Bool.eq_iff_iff, okF_iff, Bool.and_eq_true, fixes_iff F hp, symB_iff F.hN F.g]
  have hgo : (∀ k, 0 ≤ k → k < 0 + N → goOn (stableS sp sc bs).1 (consB N (relsOf bs)) (q.take k) (ap q k)) ↔ ∀ k, k < N → gI (stableS sp sc bs).1 (ap q k) = gI (stableS sp sc bs).1 k ∧ consB N (relsOf bs) (q.take (k + 1)) = true :=
    ⟨fun h k hk => (goOn_perm hp hk).1 (h k (by omega) (by omega)), fun h k _ hk => (goOn_perm hp (by omega)).2 (h k (by omega))⟩
  rw [hgo]
  constructor
  · intro h
    have hc := class_fix F hp fun x hx => (h x hx).1
    exact ⟨hc.1, hp, hk, (cons_iff F.g hp).1 fun k hk => (h k hk).2⟩
  · rintro ⟨hf, hs⟩ k hk'
    exact ⟨sym_class F.u.g F.hN F.g hs hf k hk', (cons_iff F.g hp).2 hs.cl k hk'⟩
theorem FixO.comp {sp : Sp} {sc : Sc} {N : Nat} {p q : List Int} (hp : PermL N p) (hq : PermL N q) (h : FixO sp sc N p) (k : FixO sp sc N q) : FixO sp sc N (composeL p q) := fun x hx => by
  rw [comp_ap hq hx]
  rcases k x hx with e | e
  · rw [e]; exact h x hx
  · exact .inr e
theorem FixO.inv {sp : Sp} {sc : Sc} {N : Nat} {p : List Int} (hp : PermL N p) (h : FixO sp sc N p) (u : GSc sc) (hN : sumI sc.atoms = N) (hk : KeepS (sortsL sc) N p) : FixO sp sc N (invL p) := fun x hx => by
  obtain ⟨h1, h2⟩ := inv_ok hp
  have hl := h1.ap_lt hx
  have e := inv_ap2 hp hx
  rcases h _ hl with k | k
  · rw [e] at k; exact .inl k.symm
  · refine .inr ?_
    have := hk _ hl
    rw [e, sortsL_get u hN hx, sortsL_get u hN hl] at this
    rw [this]; exact k
theorem grp_id {sp : Sp} {sc : Sc} {bs : List Bd} {most : Int} {N : Nat} (F : Fit sp sc bs most N) : idL N ∈ grpS sp sc N bs := (mem_grp F).2 ⟨.id F.g, fun x hx => .inl (ap_id hx)⟩
theorem grp_comp {sp : Sp} {sc : Sc} {bs : List Bd} {most : Int} {N : Nat} (F : Fit sp sc bs most N) {p q : List Int} (hp : p ∈ grpS sp sc N bs) (hq : q ∈ grpS sp sc N bs) : composeL p q ∈ grpS sp sc N bs := by
  obtain ⟨h1, h2⟩ := (mem_grp F).1 hp
  obtain ⟨k1, k2⟩ := (mem_grp F).1 hq
  exact (mem_grp F).2 ⟨.comp F.g h1 k1, FixO.comp h1.perm k1.perm h2 k2⟩
theorem grp_inv {sp : Sp} {sc : Sc} {bs : List Bd} {most : Int} {N : Nat} (F : Fit sp sc bs most N) {p : List Int} (hp : p ∈ grpS sp sc N bs) : invL p ∈ grpS sp sc N bs := by
  obtain ⟨h1, h2⟩ := (mem_grp F).1 hp
  exact (mem_grp F).2 ⟨.inv F.g h1, FixO.inv h1.perm h2 F.u.g F.hN h1.keep⟩
end Go.Proofs.Ytiophnmdopoeeaa.L10

set_option linter.unusedVariables false
set_option linter.unusedSimpArgs false
set_option maxRecDepth 100000
namespace Go.Proofs.Ytiophnmdopoeeaa.L11
open Go Go.Ev Go.Proofs Go.Proofs.Ytiophnmdopoeeaa.C1 Go.Proofs.Ytiophnmdopoeeaa.C2 Go.Proofs.Ytiophnmdopoeeaa.C3 Go.Proofs.Ytiophnmdopoeeaa.C4 Go.Proofs.Ytiophnmdopoeeaa.C5 Go.Proofs.Ytiophnmdopoeeaa.C6 Go.Proofs.Ytiophnmdopoeeaa.C7 Go.Proofs.Ytiophnmdopoeeaa.C9 Go.Proofs.Ytiophnmdopoeeaa.C10 Go.Proofs.Ytiophnmdopoeeaa.C11 Go.Proofs.Ytiophnmdopoeeaa.C12 Go.Proofs.Ytiophnmdopoeeaa.C13 Go.Proofs.Ytiophnmdopoeeaa.C14 Go.Proofs.Ytiophnmdopoeeaa.C15 Go.Proofs.Ytiophnmdopoeeaa.C16 Go.Proofs.Ytiophnmdopoeeaa.C17 Go.Proofs.Ytiophnmdopoeeaa.C18 Go.Proofs.Ytiophnmdopoeeaa.C19 Go.Proofs.Ytiophnmdopoeeaa.C20 Go.Proofs.Ytiophnmdopoeeaa.C21 Go.Proofs.Ytiophnmdopoeeaa.C22 Go.Proofs.Ytiophnmdopoeeaa.C23 Go.Proofs.Ytiophnmdopoeeaa.C24 Go.Proofs.Ytiophnmdopoeeaa.C25 Go.Proofs.Ytiophnmdopoeeaa.C26 Go.Proofs.Ytiophnmdopoeeaa.C27 Go.Proofs.Ytiophnmdopoeeaa.C28 Go.Proofs.Ytiophnmdopoeeaa.C29 Go.Proofs.Ytiophnmdopoeeaa.C30 Go.Proofs.Ytiophnmdopoeeaa.C31 Go.Proofs.Ytiophnmdopoeeaa.C32 Go.Proofs.Ytiophnmdopoeeaa.C33 Go.Proofs.Ytiophnmdopoeeaa.C34 Go.Proofs.Ytiophnmdopoeeaa.C35 Go.Proofs.Ytiophnmdopoeeaa.L1 Go.Proofs.Ytiophnmdopoeeaa.L2 Go.Proofs.Ytiophnmdopoeeaa.L3 Go.Proofs.Ytiophnmdopoeeaa.L4 Go.Proofs.Ytiophnmdopoeeaa.L5 Go.Proofs.Ytiophnmdopoeeaa.L6 Go.Proofs.Ytiophnmdopoeeaa.L7 Go.Proofs.Ytiophnmdopoeeaa.L8 Go.Proofs.Ytiophnmdopoeeaa.L9 Go.Proofs.Ytiophnmdopoeeaa.L10

abbrev args3 (sp : Sp) (sc : Sc) (bs : List Bd) : WKs [eSp sp, eSc sc, lBd bs] [eSp sp, eSc sc, lBd bs] := .cons (.hf (hf_eSp sp)) (.cons (.hf (hf_eSc sc)) (.cons (.hf (hf_lBd bs)) .nil))
/-- how many of the first k pass -/
theorem filter_step {α : Type} (l : List α) (f : α → Bool) (k : Nat) (h : k < l.length) : (l.take (k + 1)).filter f = (l.take k).filter f ++ (if f l[k] = true then [l[k]] else []) := by
  rw [List.take_add_one, List.getElem?_eq_getElem h, List.filter_append]
  by_cases hf : f l[k] = true <;> simp [hf]
theorem filter_at {α : Type} (l : List α) (f : α → Bool) (k : Nat) (h : k < l.length) (hf : f l[k] = true) : (l.filter f)[((l.take k).filter f).length]? = some l[k] := by
  have e : l = l.take k ++ l[k] :: l.drop (k + 1) := by rw [← List.drop_eq_getElem_cons h, List.take_append_drop]
  have : l.filter f = (l.take k).filter f ++ l[k] :: (l.drop (k + 1)).filter f := by
    conv => lhs; rw [e]
    rw [List.filter_append, List.filter_cons, if_pos hf]
  rw [this, List.getElem?_append_right (Nat.le_refl _), Nat.sub_self]; rfl
end Go.Proofs.Ytiophnmdopoeeaa.L11

set_option linter.unusedVariables false
set_option linter.unusedSimpArgs false
set_option maxRecDepth 100000
namespace Go.Proofs.Ytiophnmdopoeeaa.L12
open Go Go.Ev Go.Proofs Go.Proofs.Ytiophnmdopoeeaa.C1 Go.Proofs.Ytiophnmdopoeeaa.C2 Go.Proofs.Ytiophnmdopoeeaa.C3 Go.Proofs.Ytiophnmdopoeeaa.C4 Go.Proofs.Ytiophnmdopoeeaa.C5 Go.Proofs.Ytiophnmdopoeeaa.C6 Go.Proofs.Ytiophnmdopoeeaa.C7 Go.Proofs.Ytiophnmdopoeeaa.C8 Go.Proofs.Ytiophnmdopoeeaa.C9 Go.Proofs.Ytiophnmdopoeeaa.C10 Go.Proofs.Ytiophnmdopoeeaa.C11 Go.Proofs.Ytiophnmdopoeeaa.C12 Go.Proofs.Ytiophnmdopoeeaa.C13 Go.Proofs.Ytiophnmdopoeeaa.C14 Go.Proofs.Ytiophnmdopoeeaa.C15 Go.Proofs.Ytiophnmdopoeeaa.C16 Go.Proofs.Ytiophnmdopoeeaa.C17 Go.Proofs.Ytiophnmdopoeeaa.C18 Go.Proofs.Ytiophnmdopoeeaa.C19 Go.Proofs.Ytiophnmdopoeeaa.C20 Go.Proofs.Ytiophnmdopoeeaa.C21 Go.Proofs.Ytiophnmdopoeeaa.C22 Go.Proofs.Ytiophnmdopoeeaa.C23 Go.Proofs.Ytiophnmdopoeeaa.C24 Go.Proofs.Ytiophnmdopoeeaa.C25 Go.Proofs.Ytiophnmdopoeeaa.C26 Go.Proofs.Ytiophnmdopoeeaa.C27 Go.Proofs.Ytiophnmdopoeeaa.C28 Go.Proofs.Ytiophnmdopoeeaa.C29 Go.Proofs.Ytiophnmdopoeeaa.C30 Go.Proofs.Ytiophnmdopoeeaa.C31 Go.Proofs.Ytiophnmdopoeeaa.C32 Go.Proofs.Ytiophnmdopoeeaa.C33 Go.Proofs.Ytiophnmdopoeeaa.C34 Go.Proofs.Ytiophnmdopoeeaa.C35 Go.Proofs.Ytiophnmdopoeeaa.L1 Go.Proofs.Ytiophnmdopoeeaa.L2 Go.Proofs.Ytiophnmdopoeeaa.L3 Go.Proofs.Ytiophnmdopoeeaa.L4 Go.Proofs.Ytiophnmdopoeeaa.L5 Go.Proofs.Ytiophnmdopoeeaa.L6 Go.Proofs.Ytiophnmdopoeeaa.L7 Go.Proofs.Ytiophnmdopoeeaa.L8 Go.Proofs.Ytiophnmdopoeeaa.L9 Go.Proofs.Ytiophnmdopoeeaa.L10 Go.Proofs.Ytiophnmdopoeeaa.L11

/-- the classes are numbered in the order of their first atoms -/
def Canon (N : Nat) (c : List Int) : Prop := ∀ x, x < N → ∀ v : Int, 0 ≤ v → v < gI c x → ∃ y, y < x ∧ gI c y = v
theorem split_canon (c : List Int) (al : Nat → Nat → Bool) : ∀ n, Canon n (splitN c al n).1 ∧ ∀ v : Int, 0 ≤ v → v < (splitN c al n).2 → ∃ y, y < n ∧ gI (splitN c al n).1 y = v
  | 0 => ⟨fun x hx => by omega, fun v h0 h1 => by simp [splitN] at h1; omega⟩
  | n + 1 => by
    obtain ⟨h1, h2⟩ := split_canon c al n
    have ok := splitN_ok c al n
    rw [splitN]
    cases hm : mate c al n n with
    | some z =>
      have hz := mate_lt c al n n z hm
      simp only
      generalize (splitN c al n).1 = l at *
      generalize (splitN c al n).2 = m at *
      refine ⟨fun x hx v h0 hv => ?_, fun v h0 hv => ?_⟩
      · by_cases hxn : x < n
        · rw [gI_app_left (by omega)] at hv
          obtain ⟨y, hy, e⟩ := h1 x hxn v h0 hv
          exact ⟨y, hy, by rw [gI_app_left (by omega)]; exact e⟩
        · have hxe : x = n := by omega
          subst hxe
          have e1 : gI (l ++ [gI l z]) x = gI l z := by simp [gI, ← ok.1]
          rw [e1] at hv
          obtain ⟨y, hy, e⟩ := h1 z hz v h0 hv
          exact ⟨y, by omega, by rw [gI_app_left (by omega)]; exact e⟩
      · obtain ⟨y, hy, e⟩ := h2 v h0 hv
        exact ⟨y, by omega, by rw [gI_app_left (by omega)]; exact e⟩
    | none =>
      simp only
      generalize (splitN c al n).1 = l at *
      generalize (splitN c al n).2 = m at *
      have e1 : gI (l ++ [m]) n = m := by simp [gI, ← ok.1]
      refine ⟨fun x hx v h0 hv => ?_, fun v h0 hv => ?_⟩
      · by_cases hxn : x < n
        · rw [gI_app_left (by omega)] at hv
          obtain ⟨y, hy, e⟩ := h1 x hxn v h0 hv
          exact ⟨y, hy, by rw [gI_app_left (by omega)]; exact e⟩
        · have hxe : x = n := by omega
          subst hxe
          rw [e1] at hv
          obtain ⟨y, hy, e⟩ := h2 v h0 hv
          exact ⟨y, by omega, by rw [gI_app_left (by omega)]; exact e⟩
      · by_cases hvm : v < m
        · obtain ⟨y, hy, e⟩ := h2 v h0 hvm
          exact ⟨y, by omega, by rw [gI_app_left (by omega)]; exact e⟩
        · exact ⟨n, by omega, by rw [e1]; omega⟩
theorem stable_canon {sp : Sp} {sc : Sc} {N : Nat} (hN : sumI sc.atoms = N) (bs : List Bd) : Canon N (stableS sp sc bs).1 := by
  refine stable_ind hN bs (Canon N) ?_ fun c hc _ => ?_
  · unfold cls0
    have e : (sumI sc.atoms).toNat = N := by omega
    rw [e]; exact (split_canon _ _ N).1
  · unfold roundS
    rw [hc]; exact (split_canon _ _ N).1
theorem canon_onto {N : Nat} {c : List Int} (h : Canon N c) (h0 : ∀ x, x < N → 0 ≤ gI c x) : ∀ k, k ≤ N → (∀ x, x < k → gI c x < firstsN c k) ∧ 0 ≤ firstsN c k ∧ ∀ v : Int, 0 ≤ v → v < firstsN c k → ∃ y, y < k ∧ gI c y = v
  | 0, _ => ⟨fun x hx => by omega, by simp [firstsN], fun v h0 h1 => by simp [firstsN] at h1; omega⟩
  | k + 1, hk => by
    obtain ⟨h1, h2, h3⟩ := canon_onto h h0 k (by omega)
    have hk0 := h0 k (by omega)
    rw [firstsN]
    by_cases he : ∃ y, y < k ∧ gI c y = gI c k
    · rw [if_pos he]
      obtain ⟨y, hy, e⟩ := he
      refine ⟨fun x hx => ?_, by omega, fun v hv0 hv => ?_⟩
      · by_cases hxk : x < k
        · have := h1 x hxk; omega
        · have : x = k := by omega
          subst this
          have := h1 y hy; omega
      · obtain ⟨z, hz, e⟩ := h3 v hv0 (by omega)
        exact ⟨z, by omega, e⟩
    · rw [if_neg he]
      have ge : firstsN c k ≤ gI c k := Decidable.byContradiction fun hn => he (h3 _ hk0 (by omega))
      have le : gI c k ≤ firstsN c k := Decidable.byContradiction fun hn => by
        obtain ⟨y, hy, e⟩ := h k (by omega) (firstsN c k) h2 (by omega)
        have := h1 y hy; omega
      refine ⟨fun x hx => ?_, by omega, fun v hv0 hv => ?_⟩
      · by_cases hxk : x < k
        · have := h1 x hxk; omega
        · have : x = k := by omega
          subst this; omega
      · by_cases hvf : v < firstsN c k
        · obtain ⟨z, hz, e⟩ := h3 v hv0 hvf
          exact ⟨z, by omega, e⟩
        · exact ⟨k, by omega, by omega⟩

theorem filt_sorted (cls : List Int) (n : Nat) (c : Int) : (filt cls n c).Pairwise (· < ·) := List.Pairwise.filter _ List.pairwise_lt_range
theorem filt_head {cls : List Int} {n : Nat} {c : Int} (h : 0 < (filt cls n c).length) {y : Nat} (hy : y < n) (e : gI cls y = c) : (filt cls n c)[0] ≤ y := by
  obtain ⟨i, hi, e2⟩ := List.mem_iff_getElem.1 (mem_filt.2 ⟨hy, e⟩)
  by_cases h0 : i = 0
  · subst h0; omega
  · have := List.pairwise_iff_getElem.1 (filt_sorted cls n c) 0 i h hi (by omega); omega

/-- the first atom of a class -/
def fstA (cls : List Int) (n : Nat) (c : Int) : Nat := ((filt cls n c)[0]?).getD 0
theorem fstA_eq {cls : List Int} {n : Nat} {c : Int} (h : 0 < (filt cls n c).length) : fstA cls n c = (filt cls n c)[0] := by simp [fstA, h]

/-- a word's number, by its letters -/
theorem wordF_WD (cls : List Int) (x : Int) (tup : List Int) : wordF cls x tup = (WD cls x tup).foldl (fun o t => 16 * o + t) 0 := by
  unfold wordF WD
  rw [List.foldl_map]; rfl
theorem wordsN_wl {N : Nat} (hN : 1 ≤ N) {r : Rl} (g : GRel N r) (x : Int) (cls : List Int) (w : Int) (hw : 0 ≤ w) : wordsN N r x cls w = ((wl N cls r x).countP fun u => decide (u.foldl (fun o t => 16 * o + t) 0 = w) : Nat) := by
  unfold wordsN wl
  congr 1
  rw [List.countP_map, List.countP_filter]
  refine List.countP_congr fun t ht => ?_
  have hd : digits N r.ar t = digN N t r.ar.toNat := by
    unfold digits
    have h1 := g.ar1
    have h3 := g.ar3
    have e1 : max 1 (N : Int) = N := by omega
    have e2 : powN r.ar = r.ar.toNat := by unfold powN; omega
    rw [e1, e2]
  rw [hd]
  unfold wordOf
  simp only [Function.comp, decide_eq_true_eq, Bool.and_eq_true]
  by_cases hm : x ∈ digN N t r.ar.toNat
  · rw [if_pos hm, wordF_WD]
    exact ⟨fun h => ⟨h, hm⟩, fun h => h.1⟩
  · rw [if_neg hm]
    exact ⟨fun h => by omega, fun h => absurd h.2 hm⟩
theorem alikeR_of {N : Nat} {r : Rl} (g : GRel N r) {cls : List Int} {x y : Nat} (h : (wl N cls r x).Perm (wl N cls r y)) : alikeR N r x y cls = true := by
  unfold alikeR
  rw [List.all_eq_true]
  intro t ht
  have hN := GRel.pos g ht
  have key : ∀ w : Int, same1 N r x y cls w = true := by
    intro w
    unfold same1
    by_cases hw : 0 ≤ w
    · have : wordsN N r x cls w = wordsN N r y cls w := by
        rw [wordsN_wl hN g _ _ _ hw, wordsN_wl hN g _ _ _ hw, h.countP_eq]
      simp [this]
    · simp [hw]
  unfold alike1
  rw [key, key]; rfl
theorem alikeB_of {N : Nat} {bs : List Bd} (g : ∀ r, r ∈ relsOf bs → GRel N r) {cls : List Int} {x y : Nat} (h : AlikeW N (relsOf bs) cls x y) : alikeB N bs x y cls = true := by
  unfold alikeB
  rw [List.all_eq_true]
  intro b hb
  have m1 : b.lo ∈ relsOf bs := by unfold relsOf; exact List.mem_flatMap.2 ⟨b, hb, by simp⟩
  have m2 : b.up ∈ relsOf bs := by unfold relsOf; exact List.mem_flatMap.2 ⟨b, hb, by simp⟩
  rw [alikeR_of (g _ m1) (h _ m1), alikeR_of (g _ m2) (h _ m2)]; rfl
end Go.Proofs.Ytiophnmdopoeeaa.L12

set_option linter.unusedVariables false
set_option linter.unusedSimpArgs false
set_option maxRecDepth 100000
namespace Go.Proofs.Ytiophnmdopoeeaa.L13
open Go Go.Ev Go.Proofs Go.Proofs.Ytiophnmdopoeeaa.C1 Go.Proofs.Ytiophnmdopoeeaa.C2 Go.Proofs.Ytiophnmdopoeeaa.C3 Go.Proofs.Ytiophnmdopoeeaa.C4 Go.Proofs.Ytiophnmdopoeeaa.C5 Go.Proofs.Ytiophnmdopoeeaa.C6 Go.Proofs.Ytiophnmdopoeeaa.C7 Go.Proofs.Ytiophnmdopoeeaa.C8 Go.Proofs.Ytiophnmdopoeeaa.C9 Go.Proofs.Ytiophnmdopoeeaa.C10 Go.Proofs.Ytiophnmdopoeeaa.C11 Go.Proofs.Ytiophnmdopoeeaa.C12 Go.Proofs.Ytiophnmdopoeeaa.C13 Go.Proofs.Ytiophnmdopoeeaa.C14 Go.Proofs.Ytiophnmdopoeeaa.C15 Go.Proofs.Ytiophnmdopoeeaa.C16 Go.Proofs.Ytiophnmdopoeeaa.C17 Go.Proofs.Ytiophnmdopoeeaa.C18 Go.Proofs.Ytiophnmdopoeeaa.C19 Go.Proofs.Ytiophnmdopoeeaa.C20 Go.Proofs.Ytiophnmdopoeeaa.C21 Go.Proofs.Ytiophnmdopoeeaa.C22 Go.Proofs.Ytiophnmdopoeeaa.C23 Go.Proofs.Ytiophnmdopoeeaa.C24 Go.Proofs.Ytiophnmdopoeeaa.C25 Go.Proofs.Ytiophnmdopoeeaa.C26 Go.Proofs.Ytiophnmdopoeeaa.C27 Go.Proofs.Ytiophnmdopoeeaa.C28 Go.Proofs.Ytiophnmdopoeeaa.C29 Go.Proofs.Ytiophnmdopoeeaa.C30 Go.Proofs.Ytiophnmdopoeeaa.C31 Go.Proofs.Ytiophnmdopoeeaa.C32 Go.Proofs.Ytiophnmdopoeeaa.C33 Go.Proofs.Ytiophnmdopoeeaa.C34 Go.Proofs.Ytiophnmdopoeeaa.C35 Go.Proofs.Ytiophnmdopoeeaa.L1 Go.Proofs.Ytiophnmdopoeeaa.L2 Go.Proofs.Ytiophnmdopoeeaa.L3 Go.Proofs.Ytiophnmdopoeeaa.L4 Go.Proofs.Ytiophnmdopoeeaa.L5 Go.Proofs.Ytiophnmdopoeeaa.L6 Go.Proofs.Ytiophnmdopoeeaa.L7 Go.Proofs.Ytiophnmdopoeeaa.L8 Go.Proofs.Ytiophnmdopoeeaa.L9 Go.Proofs.Ytiophnmdopoeeaa.L10 Go.Proofs.Ytiophnmdopoeeaa.L11 Go.Proofs.Ytiophnmdopoeeaa.L12

/-- a finite set on which a finite set of operations acts freely, in classes: its size is a multiple -/
theorem lagrange {α γ : Type} [DecidableEq α] (H : List γ) (hH : H.Nodup) (act : γ → α → α) : ∀ (n : Nat) (A : List α), A.length ≤ n → A.Nodup →
    (∀ a, a ∈ A → ∀ h, h ∈ H → act h a ∈ A) → (∀ a, a ∈ A → ∀ h, h ∈ H → ∀ k, k ∈ H → act h a = act k a → h = k) →
    (∀ a, a ∈ A → ∀ b, b ∈ A → ∀ h, h ∈ H → ∀ k, k ∈ H → act h b = act k a → ∃ j, j ∈ H ∧ b = act j a) → (∀ a, a ∈ A → ∃ h, h ∈ H ∧ act h a = a) → ∃ c, A.length = c * H.length
  | 0, A, hl, _, _, _, _, _ => ⟨0, by omega⟩
  | n + 1, A, hl, hn, h1, h2, h3, h4 => by
    cases A with
    | nil => exact ⟨0, by simp⟩
    | cons a A' =>
      have ha : a ∈ a :: A' := by simp
      have hcn : (H.map fun h => act h a).Nodup := by
        unfold List.Nodup
        rw [List.pairwise_map]
        exact List.Pairwise.imp_of_mem (fun {x y} hx hy hne e => hne (h2 a ha x hx y hy e)) hH
      have hperm : ((a :: A').filter fun b => decide (b ∈ H.map fun h => act h a)).Perm (H.map fun h => act h a) := by
        rw [List.perm_ext_iff_of_nodup (hn.filter _) hcn]
        intro b
        rw [List.mem_filter, decide_eq_true_eq]
        refine ⟨fun h => h.2, fun h => ⟨?_, h⟩⟩
        obtain ⟨k, hk, rfl⟩ := List.mem_map.1 h
        exact h1 a ha k hk
      have hlen := List.length_eq_countP_add_countP (fun b => decide (b ∈ H.map fun h => act h a)) (l := a :: A')
      have e1 : (a :: A').countP (fun b => decide (b ∈ H.map fun h => act h a)) = H.length := by
        rw [List.countP_eq_length_filter, hperm.length_eq, List.length_map]
      have hmemA : a ∈ H.map fun h => act h a := by
        obtain ⟨h, hh, e⟩ := h4 a ha
        exact List.mem_map.2 ⟨h, hh, e⟩
      have hHpos : 0 < H.length := by
        rw [← List.length_map (f := fun h => act h a)]
        exact List.length_pos_iff.2 (fun e => by rw [e] at hmemA; simp at hmemA)
      have e2 : (a :: A').countP (fun b => decide (¬ decide (b ∈ H.map fun h => act h a) = true)) = ((a :: A').filter fun b => decide (¬ b ∈ H.map fun h => act h a)).length := by
        rw [List.countP_eq_length_filter]
        simp only [decide_eq_true_eq]
      rw [e1, e2] at hlen
      obtain ⟨c, hc⟩ := lagrange H hH act n ((a :: A').filter fun b => decide (¬ b ∈ H.map fun h => act h a)) (by omega) (hn.filter _) (fun b hb h hh => by
        rw [List.mem_filter, decide_eq_true_eq] at hb ⊢
        refine ⟨h1 b hb.1 h hh, fun hm => hb.2 ?_⟩
        obtain ⟨k, hk, e⟩ := List.mem_map.1 hm
        obtain ⟨j, hj, e2⟩ := h3 a ha b hb.1 h hh k hk e.symm
        exact List.mem_map.2 ⟨j, hj, e2.symm⟩) (fun b hb => h2 b (List.mem_filter.1 hb).1) (fun b hb d hd => h3 b (List.mem_filter.1 hb).1 d (List.mem_filter.1 hd).1) (fun b hb => h4 b (List.mem_filter.1 hb).1)
      exact ⟨c + 1, by rw [hlen, hc, Nat.add_mul]; omega⟩

theorem extG_nodup {N : Nat} {cls : List Int} {cons : List Int → Bool} : ∀ (d : Nat) (p : List Int), (extG N cls cons d p).Nodup
  | 0, p => by simp [extG]
  | d + 1, p => by
    rw [extG]
    unfold List.Nodup
    rw [List.pairwise_flatMap]
    refine ⟨fun y hy => ?_, ?_⟩
    · split
      · exact extG_nodup d _
      · exact List.nodup_nil
    · refine List.Pairwise.imp ?_ (List.nodup_range (n := N))
      intro y z hyz q hq r hr e
      subst e
      by_cases c1 : goOn cls cons p y
      · by_cases c2 : goOn cls cons p z
        · rw [if_pos c1] at hq
          rw [if_pos c2] at hr
          have h1 := extG_step hq
          have h2 := extG_step hr
          exact hyz (h1.2.symm.trans h2.2)
        · rw [if_neg c2] at hr; simp at hr
      · rw [if_neg c1] at hq; simp at hq
theorem grp_nodup (sp : Sp) (sc : Sc) (N : Nat) (bs : List Bd) : (grpS sp sc N bs).Nodup := extG_nodup N []

theorem comp_assoc {N : Nat} {p q r : List Int} (hp : PermL N p) (hq : PermL N q) (hr : PermL N r) : composeL (composeL p q) r = composeL p (composeL q r) :=
  perm_ext (comp_perm (comp_perm hp hq) hr) (comp_perm hp (comp_perm hq hr)) fun x hx => by rw [comp_ap hr hx, comp_ap hq (hr.ap_lt hx), comp_ap (comp_perm hq hr) hx, comp_ap hr hx]
theorem comp_id_l {N : Nat} {p : List Int} (hp : PermL N p) : composeL (idL N) p = p := perm_ext (comp_perm (idL_perm N) hp) hp fun x hx => by rw [comp_ap hp hx, ap_id (hp.ap_lt hx)]
theorem comp_id_r {N : Nat} {p : List Int} (hp : PermL N p) : composeL p (idL N) = p := perm_ext (comp_perm hp (idL_perm N)) hp fun x hx => by rw [comp_ap (idL_perm N) hx, ap_id hx]
theorem comp_inv_l {N : Nat} {p : List Int} (hp : PermL N p) : composeL (invL p) p = idL N := perm_ext (comp_perm (inv_ok hp).1 hp) (idL_perm N) fun x hx => by rw [comp_ap hp hx, (inv_ok hp).2 x hx, ap_id hx]
theorem comp_inv_r {N : Nat} {p : List Int} (hp : PermL N p) : composeL p (invL p) = idL N := perm_ext (comp_perm hp (inv_ok hp).1) (idL_perm N) fun x hx => by rw [comp_ap (inv_ok hp).1 hx, inv_ap2 hp hx, ap_id hx]
/-- a group of permutations that lies in another one -/
theorem lagrangeL {N : Nat} {G M : List (List Int)} (hG : G.Nodup) (hM : M.Nodup) (sub : ∀ q, q ∈ G → q ∈ M) (pM : ∀ q, q ∈ M → PermL N q) (cM : ∀ p, p ∈ M → ∀ q, q ∈ M → composeL p q ∈ M)
    (cG : ∀ p, p ∈ G → ∀ q, q ∈ G → composeL p q ∈ G) (iG : ∀ p, p ∈ G → invL p ∈ G) (idG : idL N ∈ G) : ∃ c, M.length = c * G.length := by
  refine lagrange G hG composeL M.length M (Nat.le_refl _) hM (fun a ha h hh => cM h (sub h hh) a ha) (fun a ha h hh k hk e => ?_) (fun a ha b hb h hh k hk e => ?_) (fun a ha => ⟨_, idG, comp_id_l (pM a ha)⟩)
  · have pa := pM a ha
    have ph := pM h (sub h hh)
    have pk := pM k (sub k hk)
    have : composeL (composeL h a) (invL a) = composeL (composeL k a) (invL a) := by rw [e]
    rwa [comp_assoc ph pa (inv_ok pa).1, comp_assoc pk pa (inv_ok pa).1, comp_inv_r pa, comp_id_r ph, comp_id_r pk] at this
  · have pa := pM a ha
    have pb := pM b hb
    have ph := pM h (sub h hh)
    have pk := pM k (sub k hk)
    refine ⟨composeL (invL h) k, cG _ (iG h hh) _ hk, ?_⟩
    rw [comp_assoc (inv_ok ph).1 pk pa, ← e, ← comp_assoc (inv_ok ph).1 ph pb, comp_inv_l ph, comp_id_l pb]

/-- without the last field -/
def lessSp (sp : Sp) : Sp := { sp with fields := sp.fields.take (sp.fields.length - 1) }
theorem zip_take {α β : Type} : ∀ (n : Nat) (a : List α) (b : List β), (a.take n).zip (b.take n) = (a.zip b).take n
  | 0, a, b => by simp
  | n + 1, [], b => by simp
  | n + 1, _ :: _, [] => by simp
  | n + 1, x :: a, y :: b => by simp [zip_take n a b]
theorem less_fits {sp : Sp} {sc : Sc} {bs : List Bd} {most : Int} (h : fitsOk sp sc bs most = true) : fitsOk (lessSp sp) sc (bs.take (bs.length - 1)) most = true := by
  simp only [fitsOk, Bool.and_eq_true, decide_eq_true_eq] at h ⊢
  obtain ⟨⟨⟨⟨⟨h1, h2⟩, h3⟩, h4⟩, h5⟩, h6⟩ := h
  refine ⟨⟨⟨⟨⟨h1, h2⟩, h3⟩, ?_⟩, ?_⟩, ?_⟩
  · simp [lessSp, h4]
  · simp; omega
  · rw [List.all_eq_true] at h6 ⊢
    intro p hp
    simp only [lessSp] at hp
    rw [← h4, zip_take] at hp
    exact h6 p (List.mem_of_mem_take hp)
theorem less_rels {bs : List Bd} {n : Nat} {r : Rl} (h : r ∈ relsOf (bs.take n)) : r ∈ relsOf bs := by
  unfold relsOf at *
  obtain ⟨b, hb, hr⟩ := List.mem_flatMap.1 h
  exact List.mem_flatMap.2 ⟨b, List.mem_of_mem_take hb, hr⟩
theorem less_class {sp : Sp} {sc : Sc} {bs : List Bd} {N : Nat} (hN : sumI sc.atoms = N) (g : ∀ r, r ∈ relsOf bs → GRel N r) {n x y : Nat} (hx : x < N) (hy : y < N) (h : EQ (stableS sp sc bs).1 x y) : EQ (stableS (lessSp sp) sc (bs.take n)).1 x y := by
  obtain ⟨m, _, S⟩ := stableF (sp := sp) hN g
  have := stable_coarsest (sp := lessSp sp) hN (bs := bs.take n) (fun r hr => g r (less_rels hr)) (idL_perm N) (d := (stableS sp sc bs).1) (fun v hv => (S.rng v hv).1) (Moved.sub g fun r hr => less_rels hr)
    (fun x y hx hy e => by rw [ap_id hx, ap_id hy]; exact S.fine0 x y hx hy e) (fun x y hx hy e => S.stab x y hx hy e) x y hx hy h
  rwa [ap_id hx, ap_id hy] at this
theorem less_grp {sp : Sp} {sc : Sc} {bs : List Bd} {most : Int} {N n : Nat} (F : Fit sp sc bs most N) (F' : Fit (lessSp sp) sc (bs.take n) most N) {q : List Int} (h : q ∈ grpS sp sc N bs) : q ∈ grpS (lessSp sp) sc N (bs.take n) := by
  obtain ⟨h1, h2⟩ := (mem_grp F).1 h
  exact (mem_grp F').2 ⟨⟨h1.perm, h1.keep, fun r hr => h1.cl r (less_rels hr)⟩, h2⟩
end Go.Proofs.Ytiophnmdopoeeaa.L13

set_option linter.unusedVariables false
set_option linter.unusedSimpArgs false
set_option maxRecDepth 100000
namespace Go.Proofs.Ytiophnmdopoeeaa.L14
open Go Go.Ev Go.Proofs Go.Proofs.Ytiophnmdopoeeaa.C1 Go.Proofs.Ytiophnmdopoeeaa.C2 Go.Proofs.Ytiophnmdopoeeaa.C3 Go.Proofs.Ytiophnmdopoeeaa.C4 Go.Proofs.Ytiophnmdopoeeaa.C5 Go.Proofs.Ytiophnmdopoeeaa.C6 Go.Proofs.Ytiophnmdopoeeaa.C7 Go.Proofs.Ytiophnmdopoeeaa.C8 Go.Proofs.Ytiophnmdopoeeaa.C9 Go.Proofs.Ytiophnmdopoeeaa.C10 Go.Proofs.Ytiophnmdopoeeaa.C11 Go.Proofs.Ytiophnmdopoeeaa.C12 Go.Proofs.Ytiophnmdopoeeaa.C13 Go.Proofs.Ytiophnmdopoeeaa.C14 Go.Proofs.Ytiophnmdopoeeaa.C15 Go.Proofs.Ytiophnmdopoeeaa.C16 Go.Proofs.Ytiophnmdopoeeaa.C17 Go.Proofs.Ytiophnmdopoeeaa.C18 Go.Proofs.Ytiophnmdopoeeaa.C19 Go.Proofs.Ytiophnmdopoeeaa.C20 Go.Proofs.Ytiophnmdopoeeaa.C21 Go.Proofs.Ytiophnmdopoeeaa.C22 Go.Proofs.Ytiophnmdopoeeaa.C23 Go.Proofs.Ytiophnmdopoeeaa.C24 Go.Proofs.Ytiophnmdopoeeaa.C25 Go.Proofs.Ytiophnmdopoeeaa.C26 Go.Proofs.Ytiophnmdopoeeaa.C27 Go.Proofs.Ytiophnmdopoeeaa.C28 Go.Proofs.Ytiophnmdopoeeaa.C29 Go.Proofs.Ytiophnmdopoeeaa.C30 Go.Proofs.Ytiophnmdopoeeaa.C31 Go.Proofs.Ytiophnmdopoeeaa.C32 Go.Proofs.Ytiophnmdopoeeaa.C33 Go.Proofs.Ytiophnmdopoeeaa.C34 Go.Proofs.Ytiophnmdopoeeaa.C35 Go.Proofs.Ytiophnmdopoeeaa.L1 Go.Proofs.Ytiophnmdopoeeaa.L2 Go.Proofs.Ytiophnmdopoeeaa.L3 Go.Proofs.Ytiophnmdopoeeaa.L4 Go.Proofs.Ytiophnmdopoeeaa.L5 Go.Proofs.Ytiophnmdopoeeaa.L6 Go.Proofs.Ytiophnmdopoeeaa.L7 Go.Proofs.Ytiophnmdopoeeaa.L8 Go.Proofs.Ytiophnmdopoeeaa.L9 Go.Proofs.Ytiophnmdopoeeaa.L10 Go.Proofs.Ytiophnmdopoeeaa.L11 Go.Proofs.Ytiophnmdopoeeaa.L12 Go.Proofs.Ytiophnmdopoeeaa.L13

/-- exchanging two atoms -/
theorem swap_len (x y : Int) (n : Nat) : (swapL x y n).length = n := by simp [swapL]
theorem swap_get {x y n z : Nat} (h : z < n) : gI (swapL x y n) z = if z = x then (y : Int) else if z = y then (x : Int) else z := by
  rw [gI_eq (by rw [swap_len]; exact h)]
  simp only [swapL, List.getElem_map, List.getElem_range, swap1, Int.natCast_inj]
theorem swap_perm {N x y : Nat} (hx : x < N) (hy : y < N) : PermL N (swapL x y N) := by
  have hl := swap_len x y N
  refine .of_surj hl (fun v hv => ?_) (fun v h0 h1 => ?_)
  · obtain ⟨i, hi, e⟩ := mem_gI hv
    rw [hl] at hi
    rw [swap_get hi] at e
    split at e
    · omega
    · split at e <;> omega
  · have key : ∀ i, i < N → gI (swapL x y N) i = v → v ∈ swapL x y N := fun i hi e => by rw [← e]; exact gI_mem (by rw [hl]; exact hi)
    by_cases e1 : v = x
    · refine key y hy ?_
      rw [swap_get hy]
      split
      · omega
      · rw [if_pos rfl]; omega
    · by_cases e2 : v = y
      · refine key x hx ?_
        rw [swap_get hx, if_pos rfl]; omega
      · refine key v.toNat (by omega) ?_
        rw [swap_get (by omega), if_neg (by omega), if_neg (by omega)]; omega
theorem swap_ap {N x y z : Nat} (hz : z < N) : ap (swapL x y N) z = if z = x then y else if z = y then x else z := by
  unfold ap
  rw [swap_get hz]
  split
  · omega
  · split <;> omega
theorem swap_comm (x y N : Nat) : swapL x y N = swapL y x N := by
  refine list_ext_gI (by rw [swap_len, swap_len]) fun i hi => ?_
  rw [swap_len] at hi
  rw [swap_get hi, swap_get hi]
  split
  · split
    · omega
    · rfl
  · rfl
theorem swap_conj {N x y z : Nat} (hx : x < N) (hy : y < N) (hz : z < N) (h1 : x ≠ y) (h2 : y ≠ z) (h3 : x ≠ z) :
    composeL (swapL x y N) (composeL (swapL y z N) (swapL x y N)) = swapL x z N := by
  have p1 := swap_perm hx hy
  have p2 := swap_perm hy hz
  refine perm_ext (comp_perm p1 (comp_perm p2 p1)) (swap_perm hx hz) fun v hv => ?_
  rw [comp_ap (comp_perm p2 p1) hv, comp_ap p1 hv, swap_ap hv, swap_ap hv]
  by_cases e1 : v = x
  · rw [if_pos e1, if_pos e1, swap_ap hy, if_pos rfl, swap_ap hz, if_neg (by omega), if_neg (by omega)]
  · rw [if_neg e1, if_neg e1]
    by_cases e2 : v = y
    · rw [if_pos e2, swap_ap hx, if_neg (by omega), if_neg (by omega), swap_ap hx, if_pos rfl, if_neg (by omega)]; exact e2.symm
    · rw [if_neg e2, swap_ap hv, if_neg e2]
      by_cases e3 : v = z
      · rw [if_pos e3, swap_ap hy, if_neg (by omega), if_pos rfl, if_pos e3]
      · rw [if_neg e3, if_neg e3, swap_ap hv, if_neg e1, if_neg e2]
/-- conjugation moves the pair -/
theorem swap_move {N x y : Nat} {p : List Int} (hp : PermL N p) (hx : x < N) (hy : y < N) : composeL (composeL p (swapL x y N)) (invL p) = swapL (ap p x) (ap p y) N := by
  have p1 := swap_perm hx hy
  have pi := (inv_ok hp).1
  refine perm_ext (comp_perm (comp_perm hp p1) pi) (swap_perm (hp.ap_lt hx) (hp.ap_lt hy)) fun v hv => ?_
  obtain ⟨u, hu, rfl⟩ := hp.ap_surj hv
  rw [comp_ap pi hv, (inv_ok hp).2 u hu, comp_ap p1 hu, swap_ap hu, swap_ap hv]
  by_cases e1 : u = x
  · rw [if_pos e1, if_pos (by rw [e1])]
  · rw [if_neg e1, if_neg (fun h => e1 (hp.ap_inj hu hx h))]
    by_cases e2 : u = y
    · rw [if_pos e2, if_pos (by rw [e2])]
    · rw [if_neg e2, if_neg (fun h => e2 (hp.ap_inj hu hy h))]

/-- when a pair is listed -/
theorem swap_cond {sp : Sp} {sc : Sc} {bs : List Bd} {most : Int} {N : Nat} (F : Fit sp sc bs most N) {x y : Nat} (hx : x < N) (hy : y < N) :
    (gI (stableS sp sc bs).1 x = gI (stableS sp sc bs).1 y ∧ symSw sc bs N x y = true) ↔ swapL x y N ∈ grpS sp sc N bs := by
  have hp := swap_perm hx hy
  constructor
  · rintro ⟨h1, h2⟩
    have hs := (symB_iff F.hN F.g).1 h2
    refine (mem_grp F).2 ⟨hs, (class_fix F hp fun z hz => ?_).1⟩
    rw [swap_ap hz]
    split
    · rename_i e; rw [e]; exact h1.symm
    · split
      · rename_i e; rw [e]; exact h1
      · rfl
  · intro h
    refine ⟨?_, (symB_iff F.hN F.g).2 ((mem_grp F).1 h).1⟩
    have := grp_class F h x hx
    rw [swap_ap hx, if_pos rfl] at this
    exact this.symm
theorem stable_len {sp : Sp} {sc : Sc} {bs : List Bd} {most : Int} {N : Nat} (F : Fit sp sc bs most N) : (stableS sp sc bs).1.length = N := by
  obtain ⟨m, _, S⟩ := stableF (sp := sp) F.hN F.g
  exact S.len

theorem row_pre (cls : List Int) (sym : Nat → Nat → Bool) (x : Nat) (l : List (Int × Int)) (j : Nat) : ∀ e, ∃ r, swapRow cls sym x l (j + e) = swapRow cls sym x l j ++ r ∧ ∀ z, z ∈ r → z.1 = (x : Int) ∧ ((x + 1 + j : Nat) : Int) ≤ z.2
  | 0 => ⟨[], by simp, by simp⟩
  | e + 1 => by
    obtain ⟨r, h1, h2⟩ := row_pre cls sym x l j e
    have : swapRow cls sym x l (j + (e + 1)) = if gI cls x = gI cls (x + 1 + (j + e)) ∧ sym x (x + 1 + (j + e)) = true then swapRow cls sym x l (j + e) ++ [((x : Int), ((x + 1 + (j + e) : Nat) : Int))] else swapRow cls sym x l (j + e) := by
      rw [← Nat.add_assoc, swapRow, foldN_succ, ← swapRow]
    rw [this, h1]
    split
    · refine ⟨r ++ [((x : Int), ((x + 1 + (j + e) : Nat) : Int))], by simp, fun z hz => ?_⟩
      rcases List.mem_append.1 hz with h | h
      · exact h2 z h
      · simp at h; rw [h]; exact ⟨rfl, by simp; omega⟩
    · exact ⟨r, rfl, h2⟩
theorem swaps_pre (cls : List Int) (sym : Nat → Nat → Bool) (n k : Nat) : ∀ e, ∃ r, swapsN cls sym n (k + e) = swapsN cls sym n k ++ r ∧ ∀ z, z ∈ r → (k : Int) ≤ z.1
  | 0 => ⟨[], by simp, by simp⟩
  | e + 1 => by
    obtain ⟨r, h1, h2⟩ := swaps_pre cls sym n k e
    have : swapsN cls sym n (k + (e + 1)) = swapRow cls sym (k + e) (swapsN cls sym n (k + e)) (n - (k + e + 1)) := by
      rw [← Nat.add_assoc, swapsN, foldN_succ, ← swapsN]
    obtain ⟨r2, h3, h4⟩ := row_pre cls sym (k + e) (swapsN cls sym n (k + e)) 0 (n - (k + e + 1))
    rw [Nat.zero_add] at h3
    have e0 : swapRow cls sym (k + e) (swapsN cls sym n (k + e)) 0 = swapsN cls sym n (k + e) := rfl
    rw [this, h3, e0, h1]
    refine ⟨r ++ r2, by simp, fun z hz => ?_⟩
    rcases List.mem_append.1 hz with h | h
    · exact h2 z h
    · have := (h4 z h).1; omega
/-- the list of pairs, up to a pair -/
def pairsTo (cls : List Int) (sym : Nat → Nat → Bool) (n x d : Nat) : List (Int × Int) := swapRow cls sym x (swapsN cls sym n x) d
theorem pairsTo_next (cls : List Int) (sym : Nat → Nat → Bool) (n x : Nat) : pairsTo cls sym n x (n - (x + 1)) = pairsTo cls sym n (x + 1) 0 := by
  have e : swapsN cls sym n (x + 1) = swapRow cls sym x (swapsN cls sym n x) (n - (x + 1)) := by rw [swapsN, foldN_succ, ← swapsN]
  unfold pairsTo
  rw [← e]; rfl
theorem pairsTo_zero (cls : List Int) (sym : Nat → Nat → Bool) (n : Nat) : pairsTo cls sym n 0 0 = [] := rfl
theorem pairsTo_last (cls : List Int) (sym : Nat → Nat → Bool) (n : Nat) : pairsTo cls sym n n 0 = swapsN cls sym n n := rfl
theorem pairsTo_step {cls : List Int} {sym : Nat → Nat → Bool} {n x d : Nat} (hx : x < n) (hd : d < n - (x + 1)) :
    ((gI cls x = gI cls (x + 1 + d) ∧ sym x (x + 1 + d) = true) → pairsTo cls sym n x (d + 1) = pairsTo cls sym n x d ++ [((x : Int), ((x + 1 + d : Nat) : Int))] ∧ (swapsN cls sym n n)[(pairsTo cls sym n x d).length]? = some ((x : Int), ((x + 1 + d : Nat) : Int))) ∧
    (¬ (gI cls x = gI cls (x + 1 + d) ∧ sym x (x + 1 + d) = true) → pairsTo cls sym n x (d + 1) = pairsTo cls sym n x d ∧ ∀ z, (swapsN cls sym n n)[(pairsTo cls sym n x d).length]? = some z → z ≠ ((x : Int), ((x + 1 + d : Nat) : Int))) := by
  have hs : pairsTo cls sym n x (d + 1) = if gI cls x = gI cls (x + 1 + d) ∧ sym x (x + 1 + d) = true then pairsTo cls sym n x d ++ [((x : Int), ((x + 1 + d : Nat) : Int))] else pairsTo cls sym n x d := by
    unfold pairsTo
    rw [swapRow, foldN_succ, ← swapRow]
  obtain ⟨r1, h1, h2⟩ := row_pre cls sym x (swapsN cls sym n x) (d + 1) (n - (x + 1) - (d + 1))
  rw [show d + 1 + (n - (x + 1) - (d + 1)) = n - (x + 1) by omega] at h1
  obtain ⟨r2, h3, h4⟩ := swaps_pre cls sym n (x + 1) (n - (x + 1))
  rw [show x + 1 + (n - (x + 1)) = n by omega] at h3
  have e1 : swapsN cls sym n (x + 1) = swapRow cls sym x (swapsN cls sym n x) (n - (x + 1)) := by rw [swapsN, foldN_succ, ← swapsN]
  have hS : swapsN cls sym n n = pairsTo cls sym n x (d + 1) ++ (r1 ++ r2) := by rw [h3, e1, h1, List.append_assoc]; rfl
  refine ⟨fun hc => ?_, fun hc => ?_⟩
  · rw [if_pos hc] at hs
    refine ⟨hs, ?_⟩
    rw [hS, hs, List.append_assoc, List.getElem?_append_right (Nat.le_refl _), Nat.sub_self]; rfl
  · rw [if_neg hc] at hs
    refine ⟨hs, fun z hz e => ?_⟩
    rw [hS, hs, List.getElem?_append_right (Nat.le_refl _), Nat.sub_self] at hz
    have hm : z ∈ r1 ++ r2 := List.mem_of_getElem? hz
    subst e
    rcases List.mem_append.1 hm with h | h
    · have := (h2 _ h).2; simp at this; omega
    · have := h4 _ h; simp at this; omega
theorem mem_row {cls : List Int} {sym : Nat → Nat → Bool} {x : Nat} {l : List (Int × Int)} {z : Int × Int} : ∀ {d}, z ∈ swapRow cls sym x l d ↔ z ∈ l ∨ ∃ e, e < d ∧ (gI cls x = gI cls (x + 1 + e) ∧ sym x (x + 1 + e) = true) ∧ z = ((x : Int), ((x + 1 + e : Nat) : Int))
  | 0 => by simp [swapRow, foldN]
  | d + 1 => by
    have ih := @mem_row cls sym x l z d
    rw [swapRow, foldN_succ, ← swapRow]
    split
    · rename_i hc
      rw [List.mem_append, ih, List.mem_singleton]
      constructor
      · rintro ((h | ⟨e, he, h⟩) | h)
        · exact .inl h
        · exact .inr ⟨e, by omega, h⟩
        · exact .inr ⟨d, by omega, hc, h⟩
      · rintro (h | ⟨e, he, h⟩)
        · exact .inl (.inl h)
        · by_cases hed : e = d
          · subst hed; exact .inr h.2
          · exact .inl (.inr ⟨e, by omega, h⟩)
    · rename_i hc
      rw [ih]
      constructor
      · rintro (h | ⟨e, he, h⟩)
        · exact .inl h
        · exact .inr ⟨e, by omega, h⟩
      · rintro (h | ⟨e, he, h⟩)
        · exact .inl h
        · by_cases hed : e = d
          · subst hed; exact absurd h.1 hc
          · exact .inr ⟨e, by omega, h⟩
theorem mem_swapsN {cls : List Int} {sym : Nat → Nat → Bool} {n : Nat} {z : Int × Int} : ∀ {k}, z ∈ swapsN cls sym n k ↔ ∃ x e, x < k ∧ e < n - (x + 1) ∧ (gI cls x = gI cls (x + 1 + e) ∧ sym x (x + 1 + e) = true) ∧ z = ((x : Int), ((x + 1 + e : Nat) : Int))
  | 0 => by simp [swapsN, foldN]
  | k + 1 => by
    have ih := @mem_swapsN cls sym n z k
    rw [swapsN, foldN_succ, ← swapsN, mem_row, ih]
    constructor
    · rintro (⟨x, e, h1, h2⟩ | ⟨e, h1, h2⟩)
      · exact ⟨x, e, by omega, h2⟩
      · exact ⟨k, e, by omega, h1, h2⟩
    · rintro ⟨x, e, h1, h2⟩
      by_cases hxk : x = k
      · subst hxk; exact .inr ⟨e, h2.1, h2.2⟩
      · exact .inl ⟨x, e, by omega, h2⟩
theorem row_nodup {cls : List Int} {sym : Nat → Nat → Bool} {x : Nat} {l : List (Int × Int)} (hl : l.Nodup) (hx : ∀ z, z ∈ l → z.1 < (x : Int)) : ∀ d, (swapRow cls sym x l d).Nodup
  | 0 => hl
  | d + 1 => by
    have ih := @row_nodup cls sym x l hl hx d
    rw [swapRow, foldN_succ, ← swapRow]
    split
    · rw [List.nodup_append]
      refine ⟨ih, by simp, fun a ha b hb e => ?_⟩
      simp at hb
      rcases mem_row.1 ha with h | ⟨e', he', _, h⟩
      · have := hx a h
        rw [e, hb] at this
        simp at this
      · rw [e, hb] at h
        injection h with h1 h2
        omega
    · exact ih
theorem swapsN_nodup (cls : List Int) (sym : Nat → Nat → Bool) (n : Nat) : ∀ k, (swapsN cls sym n k).Nodup
  | 0 => by simp [swapsN, foldN]
  | k + 1 => by
    rw [swapsN, foldN_succ, ← swapsN]
    refine row_nodup (swapsN_nodup cls sym n k) (fun z hz => ?_) _
    obtain ⟨x, e, h1, _, _, rfl⟩ := mem_swapsN.1 hz
    simp; omega
theorem mem_swaps {sp : Sp} {sc : Sc} {bs : List Bd} {most : Int} {N : Nat} (F : Fit sp sc bs most N) {z : Int × Int} : z ∈ swapsS sp sc bs ↔ ∃ x y : Nat, x < y ∧ y < N ∧ swapL x y N ∈ grpS sp sc N bs ∧ z = ((x : Int), (y : Int)) := by
  unfold swapsS
  rw [stable_len F, mem_swapsN]
  constructor
  · rintro ⟨x, e, h1, h2, h3, h4⟩
    exact ⟨x, x + 1 + e, by omega, by omega, (swap_cond F (by omega) (by omega)).1 h3, h4⟩
  · rintro ⟨x, y, h1, h2, h3, h4⟩
    refine ⟨x, y - (x + 1), by omega, by omega, ?_, ?_⟩
    · rw [show x + 1 + (y - (x + 1)) = y by omega]
      exact (swap_cond F (by omega) (by omega)).2 h3
    · rw [show x + 1 + (y - (x + 1)) = y by omega]; exact h4
theorem swaps_nodup (sp : Sp) (sc : Sc) (bs : List Bd) : (swapsS sp sc bs).Nodup := swapsN_nodup _ _ _ _
end Go.Proofs.Ytiophnmdopoeeaa.L14

set_option linter.unusedVariables false
set_option linter.unusedSimpArgs false
set_option maxRecDepth 100000
namespace Go.Proofs.Ytiophnmdopoeeaa.L15
open Go Go.Ev Go.Proofs Go.Proofs.Ytiophnmdopoeeaa.C1 Go.Proofs.Ytiophnmdopoeeaa.C2 Go.Proofs.Ytiophnmdopoeeaa.C3 Go.Proofs.Ytiophnmdopoeeaa.C4 Go.Proofs.Ytiophnmdopoeeaa.C5 Go.Proofs.Ytiophnmdopoeeaa.C6 Go.Proofs.Ytiophnmdopoeeaa.C7 Go.Proofs.Ytiophnmdopoeeaa.C8 Go.Proofs.Ytiophnmdopoeeaa.C9 Go.Proofs.Ytiophnmdopoeeaa.C10 Go.Proofs.Ytiophnmdopoeeaa.C11 Go.Proofs.Ytiophnmdopoeeaa.C12 Go.Proofs.Ytiophnmdopoeeaa.C13 Go.Proofs.Ytiophnmdopoeeaa.C14 Go.Proofs.Ytiophnmdopoeeaa.C15 Go.Proofs.Ytiophnmdopoeeaa.C16 Go.Proofs.Ytiophnmdopoeeaa.C17 Go.Proofs.Ytiophnmdopoeeaa.C18 Go.Proofs.Ytiophnmdopoeeaa.C19 Go.Proofs.Ytiophnmdopoeeaa.C20 Go.Proofs.Ytiophnmdopoeeaa.C21 Go.Proofs.Ytiophnmdopoeeaa.C22 Go.Proofs.Ytiophnmdopoeeaa.C23 Go.Proofs.Ytiophnmdopoeeaa.C24 Go.Proofs.Ytiophnmdopoeeaa.C25 Go.Proofs.Ytiophnmdopoeeaa.C26 Go.Proofs.Ytiophnmdopoeeaa.C27 Go.Proofs.Ytiophnmdopoeeaa.C28 Go.Proofs.Ytiophnmdopoeeaa.C29 Go.Proofs.Ytiophnmdopoeeaa.C30 Go.Proofs.Ytiophnmdopoeeaa.C31 Go.Proofs.Ytiophnmdopoeeaa.C32 Go.Proofs.Ytiophnmdopoeeaa.C33 Go.Proofs.Ytiophnmdopoeeaa.C34 Go.Proofs.Ytiophnmdopoeeaa.C35 Go.Proofs.Ytiophnmdopoeeaa.L1 Go.Proofs.Ytiophnmdopoeeaa.L2 Go.Proofs.Ytiophnmdopoeeaa.L3 Go.Proofs.Ytiophnmdopoeeaa.L4 Go.Proofs.Ytiophnmdopoeeaa.L5 Go.Proofs.Ytiophnmdopoeeaa.L6 Go.Proofs.Ytiophnmdopoeeaa.L7 Go.Proofs.Ytiophnmdopoeeaa.L8 Go.Proofs.Ytiophnmdopoeeaa.L9 Go.Proofs.Ytiophnmdopoeeaa.L10 Go.Proofs.Ytiophnmdopoeeaa.L11 Go.Proofs.Ytiophnmdopoeeaa.L12 Go.Proofs.Ytiophnmdopoeeaa.L13 Go.Proofs.Ytiophnmdopoeeaa.L14

theorem inj_len {α β : Type} {l : List α} {l' : List β} (f : α → β) (hn : l.Nodup) (hs : ∀ x, x ∈ l → f x ∈ l') (hi : ∀ x, x ∈ l → ∀ y, y ∈ l → f x = f y → x = y) : l.length ≤ l'.length := by
  have hm : (l.map f).Nodup := by
    unfold List.Nodup
    rw [List.pairwise_map]
    exact List.Pairwise.imp_of_mem (fun {x y} hx hy hne e => hne (hi x hx y hy e)) hn
  have := List.Nodup.length_le_of_subset hm (l₂ := l') (fun y hy => by
    obtain ⟨x, hx, rfl⟩ := List.mem_map.1 hy
    exact hs x hx)
  simpa using this

/-- conjugation by a permutation that moves one list of relations to another one -/
theorem SymP.conj {sc : Sc} {N : Nat} {rs rs' : List Rl} (g : ∀ r, r ∈ rs → GRel N r) {p q : List Int} (hp : PermL N p) (hk : KeepS (sortsL sc) N p) (hM : Moved N p rs rs') (h : SymP sc N rs q) : SymP sc N rs' (composeL (composeL p q) (invL p)) := by
  obtain ⟨h1, h2⟩ := inv_ok hp
  have hpq := comp_perm hp h.perm
  refine ⟨comp_perm hpq h1, fun x hx => ?_, fun r' hr' t' ht' => ?_⟩
  · obtain ⟨y, hy, rfl⟩ := hp.ap_surj hx
    rw [comp_ap h1 hx, h2 y hy, comp_ap h.perm hy, hk _ (h.perm.ap_lt hy), h.keep y hy, hk y hy]
  · obtain ⟨r, hr, har, hts⟩ := hM r' hr'
    obtain ⟨t, ht, rfl⟩ := List.mem_map.1 (hts.mem_iff.1 ht')
    have hN := GRel.pos (g r hr) ht
    have hv := (g r hr).val t ht
    rw [har, act_comp hpq h1 hN, ← act_comp h1 hp hN, comp_inv_l hp, act_id hN _ hv.1 hv.2, act_comp hp h.perm hN]
    exact hts.mem_iff.2 (List.mem_map.2 ⟨_, h.cl r hr t ht, rfl⟩)
theorem FixO.conj {sp : Sp} {sc : Sc} {N : Nat} {p q : List Int} (hp : PermL N p) (hq : PermL N q) (h : FixO sp sc N p) (k : FixO sp sc N q) (u : GSc sc) (hN : sumI sc.atoms = N) (hk : KeepS (sortsL sc) N p) : FixO sp sc N (composeL (composeL p q) (invL p)) :=
  FixO.comp (comp_perm hp hq) (inv_ok hp).1 (FixO.comp hp hq h k) (FixO.inv hp h u hN hk)
theorem grp_conj {sp : Sp} {sc : Sc} {bs bs' : List Bd} {most : Int} {N : Nat} (F : Fit sp sc bs most N) (F' : Fit sp sc bs' most N) {p q : List Int} (hp : PermL N p) (hk : KeepS (sortsL sc) N p) (hf : FixO sp sc N p) (hM : Moved N p (relsOf bs) (relsOf bs')) (hq : q ∈ grpS sp sc N bs) :
    composeL (composeL p q) (invL p) ∈ grpS sp sc N bs' := by
  obtain ⟨h1, h2⟩ := (mem_grp F).1 hq
  exact (mem_grp F').2 ⟨SymP.conj F.g hp hk hM h1, FixO.conj hp h1.perm hf h2 F.u.g F.hN hk⟩
theorem grp_le {sp : Sp} {sc : Sc} {bs bs' : List Bd} {most : Int} {N : Nat} (F : Fit sp sc bs most N) (F' : Fit sp sc bs' most N) {p : List Int} (hp : PermL N p) (hk : KeepS (sortsL sc) N p) (hf : FixO sp sc N p) (hM : Moved N p (relsOf bs) (relsOf bs')) :
    (grpS sp sc N bs).length ≤ (grpS sp sc N bs').length := by
  refine inj_len (fun q => composeL (composeL p q) (invL p)) (grp_nodup sp sc N bs) (fun q hq => grp_conj F F' hp hk hf hM hq) fun q hq r hr e => ?_
  have pq := ((mem_grp F).1 hq).1.perm
  have pr := ((mem_grp F).1 hr).1.perm
  obtain ⟨h1, h2⟩ := inv_ok hp
  refine perm_ext pq pr fun x hx => hp.ap_inj (pq.ap_lt hx) (pr.ap_lt hx) ?_
  have : ap (composeL (composeL p q) (invL p)) (ap p x) = ap (composeL (composeL p r) (invL p)) (ap p x) := congrArg (fun z => ap z (ap p x)) e
  rwa [comp_ap h1 (hp.ap_lt hx), comp_ap h1 (hp.ap_lt hx), h2 x hx, comp_ap pq hx, comp_ap pr hx] at this
theorem swaps_le {sp : Sp} {sc : Sc} {bs bs' : List Bd} {most : Int} {N : Nat} (F : Fit sp sc bs most N) (F' : Fit sp sc bs' most N) {p : List Int} (hp : PermL N p) (hk : KeepS (sortsL sc) N p) (hf : FixO sp sc N p) (hM : Moved N p (relsOf bs) (relsOf bs')) :
    (swapsS sp sc bs).length ≤ (swapsS sp sc bs').length := by
  refine inj_len (fun z => (((min (ap p z.1.toNat) (ap p z.2.toNat) : Nat) : Int), ((max (ap p z.1.toNat) (ap p z.2.toNat) : Nat) : Int))) (swaps_nodup sp sc bs) (fun z hz => ?_) fun z hz w hw e => ?_
  · obtain ⟨x, y, hxy, hy, hm, rfl⟩ := (mem_swaps F).1 hz
    have hm2 := grp_conj F F' hp hk hf hM hm
    rw [swap_move hp (by omega) hy] at hm2
    have hne : ap p x ≠ ap p y := fun h => by have := hp.ap_inj (by omega) hy h; omega
    have l1 := hp.ap_lt (x := x) (by omega)
    have l2 := hp.ap_lt hy
    simp only [Int.toNat_natCast]
    refine (mem_swaps F').2 ⟨min (ap p x) (ap p y), max (ap p x) (ap p y), by omega, by omega, ?_, rfl⟩
    by_cases h : ap p x ≤ ap p y
    · rw [Nat.min_eq_left h, Nat.max_eq_right h]; exact hm2
    · rw [Nat.min_eq_right (by omega), Nat.max_eq_left (by omega), swap_comm]; exact hm2
  · obtain ⟨x, y, hxy, hy, _, rfl⟩ := (mem_swaps F).1 hz
    obtain ⟨u, v, huv, hv, _, rfl⟩ := (mem_swaps F).1 hw
    simp only [Int.toNat_natCast, Prod.mk.injEq, Int.natCast_inj] at e
    have i1 := fun h => hp.ap_inj (x := x) (y := u) (by omega) (by omega) h
    have i2 := fun h => hp.ap_inj (x := y) (y := v) (by omega) (by omega) h
    have i3 := fun h => hp.ap_inj (x := x) (y := v) (by omega) (by omega) h
    have i4 := fun h => hp.ap_inj (x := y) (y := u) (by omega) (by omega) h
    generalize ap p x = a at *
    generalize ap p y = b at *
    generalize ap p u = c at *
    generalize ap p v = d at *
    by_cases h1 : a = c
    · have e1 := i1 h1
      have e2 := i2 (by omega)
      rw [e1, e2]
    · have e1 := i3 (by omega)
      have e2 := i4 (by omega)
      omega
/-- .. and so are the classes -/
theorem class_move {sp : Sp} {sc : Sc} {bs bs' : List Bd} {most : Int} {N : Nat} (F : Fit sp sc bs most N) (F' : Fit sp sc bs' most N) {p : List Int} (hp : PermL N p) (hk : KeepS (sortsL sc) N p) (hf : FixO sp sc N p) (hM : Moved N p (relsOf bs) (relsOf bs')) {x y : Nat} (hx : x < N) (hy : y < N)
    (h : EQ (stableS sp sc bs).1 x y) : EQ (stableS sp sc bs').1 (ap p x) (ap p y) := by
  obtain ⟨m, _, S⟩ := stableF (sp := sp) F.hN F.g
  refine stable_coarsest F'.hN F'.g hp (d := (stableS sp sc bs).1) (fun v hv => (S.rng v hv).1) hM (fun x y hx hy e => ?_) S.stab x y hx hy h
  rcases S.fine0 x y hx hy e with h | h
  · exact .inl (by rw [h])
  · refine .inr ?_
    unfold alike0 at h ⊢
    rw [Bool.and_eq_true, decide_eq_true_eq, Bool.not_eq_true'] at h ⊢
    have s1 : sortU sc (ap p x) = sortU sc x := by rw [← sortsL_get F.u.g F.hN (hp.ap_lt hx), ← sortsL_get F.u.g F.hN hx]; exact hk x hx
    have s2 : sortU sc (ap p y) = sortU sc y := by rw [← sortsL_get F.u.g F.hN (hp.ap_lt hy), ← sortsL_get F.u.g F.hN hy]; exact hk y hy
    rw [s1, s2]; exact h

/-- the images of bounds -/
def imgB (p : List Int) (bs : List Bd) : List Bd := bs.map fun b => ⟨relImg p b.lo, relImg p b.up⟩
theorem rels_img (p : List Int) (bs : List Bd) : relsOf (imgB p bs) = (relsOf bs).map (relImg p) := by
  unfold relsOf imgB
  rw [List.flatMap_map, List.map_flatMap]; rfl
theorem digN_at (n t : Int) : ∀ (k j : Nat), j < k → (digN n t k)[k - 1 - j]? = some (divN n t j % n)
  | 0, j, h => by omega
  | k + 1, j, h => by
    rw [digN]
    by_cases hj : j = k
    · subst hj
      simp
    · have := digN_at n t k j (by omega)
      rw [show k + 1 - 1 - j = (k - 1 - j) + 1 by omega, List.getElem?_cons_succ]
      exact this
theorem cols_iff (sc : Sc) (n : Int) : ∀ (l : List Int) (t : Int), colsOk sc n l t = true ↔ ∀ j (h : j < l.length), sortAt sc (divN n t j % n) = l[j]
  | [], t => by simp [colsOk]
  | s :: l, t => by
    have ih := cols_iff sc n l (t / n)
    have hd : ∀ j, divN n t (j + 1) = divN n (t / n) j := by
      intro j
      induction j with
      | zero => rfl
      | succ j ihj => rw [divN, ihj]; rfl
    rw [colsOk, Bool.and_eq_true, ih, decide_eq_true_eq]
    constructor
    · rintro ⟨h1, h2⟩ j hj
      cases j with
      | zero => exact h1
      | succ j => rw [hd]; exact h2 j (by simpa using hj)
    · intro h
      refine ⟨h 0 (by simp), fun j hj => ?_⟩
      have := h (j + 1) (by simpa using hj)
      rw [hd] at this; exact this
theorem act_divN {N : Nat} {p : List Int} (hp : PermL N p) (hN : 1 ≤ N) (k : Nat) (t : Int) {j : Nat} (h : j < k) : divN N (act p N k t) j % N = gI p (divN N t j % N).toNat := by
  have h1 := digN_at N (act p N k t) k j h
  rw [(act_dig hp hN k t).1, List.getElem?_map, digN_at N t k j h] at h1
  simpa using h1.symm
theorem cols_act {sc : Sc} (g : GSc sc) {N : Nat} (hsum : sumI sc.atoms = N) {p : List Int} (hp : PermL N p) (hN : 1 ≤ N) (hk : KeepS (sortsL sc) N p) {l : List Int} {t : Int} (h : colsOk sc N l t = true) : colsOk sc N l (act p N l.length t) = true := by
  rw [cols_iff] at h ⊢
  intro j hj
  rw [act_divN hp hN l.length t hj, ← h j hj]
  have hm0 := Int.emod_nonneg (divN N t j) (show (N : Int) ≠ 0 by omega)
  have hm1 := Int.emod_lt_of_pos (divN N t j) (show (0 : Int) < N by omega)
  generalize divN N t j % N = d at *
  have hd : d.toNat < N := by omega
  have := hk d.toNat hd
  rw [sortsL_get g hsum (hp.ap_lt hd), sortsL_get g hsum hd] at this
  unfold sortU at this
  rw [if_neg (by omega), if_neg (by omega)] at this
  rw [hp.ap_eq hd, this]
  congr 1; omega
theorem img_fit1 {sp : Sp} {sc : Sc} (g : GSc sc) {N : Nat} (hsum : sumI sc.atoms = N) {p : List Int} (hp : PermL N p) (hk : KeepS (sortsL sc) N p) {b : Bd} {f : Fld} (h : fit1 sp sc b f = true) : fit1 sp sc ⟨relImg p b.lo, relImg p b.up⟩ f = true := by
  simp only [fit1, Bool.and_eq_true] at h ⊢
  obtain ⟨⟨⟨h1, h2⟩, h3⟩, h4⟩ := h
  have side : ∀ r : Rl, sideOk sc f r = true → sideOk sc f (relImg p r) = true := by
    intro r hr
    have gr := sideOk_grel hr
    rw [hsum] at gr
    simp only [sideOk, validOk, Bool.and_eq_true, decide_eq_true_eq, List.all_eq_true] at hr ⊢
    obtain ⟨⟨⟨k1, k2⟩, ⟨⟨⟨⟨k3, k4⟩, k5⟩, k6⟩, k7⟩, k8⟩, k9⟩ := hr
    have hmem : ∀ t', t' ∈ (relImg p r).ts ↔ ∃ t, t ∈ r.ts ∧ act p N r.ar.toNat t = t' := by
      intro t'
      unfold relImg
      simp only
      rw [(srtI_perm _).mem_iff, List.mem_map, hp.len]
    refine ⟨⟨⟨k1, ?_⟩, ⟨⟨⟨⟨k3, k4⟩, k5⟩, k6⟩, fun t' ht' => ?_⟩, ?_⟩, ?_⟩
    · unfold relImg
      simp only
      rw [(srtI_perm _).length_eq, List.length_map]; exact k2
    · obtain ⟨t, ht, rfl⟩ := (hmem t').1 ht'
      have hN := GRel.pos gr ht
      have := (act_dig hp hN r.ar.toNat t).2
      refine ⟨this.1, ?_⟩
      show _ < powI (sumI sc.atoms) r.ar
      unfold powI
      rw [hsum, show powN r.ar = r.ar.toNat by unfold powN; omega]
      exact this.2
    · unfold relImg
      simp only
      rw [hp.len]
      exact srtI_strict (img_nodup hp gr)
    · unfold withinOk at k9 ⊢
      rw [List.all_eq_true] at k9 ⊢
      intro t' ht'
      obtain ⟨t, ht, rfl⟩ := (hmem t').1 ht'
      have hN := GRel.pos gr ht
      have := k9 t ht
      have e1 : max 1 (sumI sc.atoms) = (N : Int) := by omega
      rw [e1] at this ⊢
      have hlen : f.sorts.reverse.length = r.ar.toNat := by rw [List.length_reverse]; omega
      rw [← hlen]
      exact cols_act g hsum hp hN hk this
  refine ⟨⟨⟨h1, side _ h2⟩, side _ h3⟩, ?_⟩
  have har : b.lo.ar = b.up.ar := by
    simp only [sideOk, Bool.and_eq_true, decide_eq_true_eq] at h2 h3
    omega
  unfold inOk at h4 ⊢
  rw [List.all_eq_true] at h4 ⊢
  intro t' ht'
  unfold relImg at ht' ⊢
  simp only at ht' ⊢
  rw [(srtI_perm _).mem_iff, List.mem_map] at ht'
  rw [decide_eq_true_eq, (srtI_perm _).mem_iff, List.mem_map]
  obtain ⟨t, ht, rfl⟩ := ht'
  have := h4 t ht
  rw [decide_eq_true_eq] at this
  exact ⟨t, this, by rw [har]⟩
theorem img_fits {sp : Sp} {sc : Sc} {bs : List Bd} {most : Int} {N : Nat} (F : Fit sp sc bs most N) {p : List Int} (hp : PermL N p) (hk : KeepS (sortsL sc) N p) : fitsOk sp sc (imgB p bs) most = true := by
  have h := F.ok
  simp only [fitsOk, Bool.and_eq_true, decide_eq_true_eq] at h ⊢
  obtain ⟨⟨⟨⟨⟨h1, h2⟩, h3⟩, h4⟩, h5⟩, h6⟩ := h
  refine ⟨⟨⟨⟨⟨h1, h2⟩, h3⟩, by simpa [imgB] using h4⟩, by simpa [imgB] using h5⟩, ?_⟩
  rw [List.all_eq_true] at h6 ⊢
  intro q hq
  unfold imgB at hq
  rw [List.zip_map_left, List.mem_map] at hq
  obtain ⟨q0, hq0, rfl⟩ := hq
  exact img_fit1 F.u.g F.hN hp hk (h6 q0 hq0)
theorem Moved.img_inv {N : Nat} {p : List Int} (hp : PermL N p) {rs : List Rl} (g : ∀ r, r ∈ rs → GRel N r) : Moved N (invL p) (rs.map (relImg p)) rs := fun r hr => by
  refine ⟨relImg p r, List.mem_map.2 ⟨r, hr, rfl⟩, rfl, ?_⟩
  unfold relImg
  simp only
  rw [hp.len]
  refine List.Perm.symm (((srtI_perm _).map _).trans ?_)
  rw [List.map_map]
  refine List.Perm.of_eq ?_
  conv => rhs; rw [← List.map_id r.ts]
  refine List.map_congr_left fun t ht => ?_
  have hN := GRel.pos (g r hr) ht
  have hv := (g r hr).val t ht
  show act (invL p) N r.ar.toNat (act p N r.ar.toNat t) = t
  rw [← act_comp (inv_ok hp).1 hp hN, comp_inv_l hp, act_id hN _ hv.1 hv.2]
end Go.Proofs.Ytiophnmdopoeeaa.L15
