/-
  Own library, part 5: an abstract reading of values and a calculus over it; contracts of functions; plain lemmas.
-/
import Derived.Test.YtiophnmdopoeeaaGreatMd

set_option linter.unusedVariables false
set_option linter.unusedSimpArgs false
set_option maxRecDepth 100000
namespace Go.Proofs.YtiophnmdopoeeaaGreat.L6
open Go Go.Ev Go.Proofs Go.Proofs.YtiophnmdopoeeaaGreat.C1 Go.Proofs.YtiophnmdopoeeaaGreat.C2 Go.Proofs.YtiophnmdopoeeaaGreat.C3 Go.Proofs.YtiophnmdopoeeaaGreat.C4 Go.Proofs.YtiophnmdopoeeaaGreat.C5 Go.Proofs.YtiophnmdopoeeaaGreat.C6 Go.Proofs.YtiophnmdopoeeaaGreat.C7 Go.Proofs.YtiophnmdopoeeaaGreat.C9 Go.Proofs.YtiophnmdopoeeaaGreat.C10 Go.Proofs.YtiophnmdopoeeaaGreat.C11 Go.Proofs.YtiophnmdopoeeaaGreat.C12 Go.Proofs.YtiophnmdopoeeaaGreat.C13 Go.Proofs.YtiophnmdopoeeaaGreat.C14 Go.Proofs.YtiophnmdopoeeaaGreat.C15 Go.Proofs.YtiophnmdopoeeaaGreat.C16 Go.Proofs.YtiophnmdopoeeaaGreat.C17 Go.Proofs.YtiophnmdopoeeaaGreat.C18 Go.Proofs.YtiophnmdopoeeaaGreat.C19 Go.Proofs.YtiophnmdopoeeaaGreat.C20 Go.Proofs.YtiophnmdopoeeaaGreat.C21 Go.Proofs.YtiophnmdopoeeaaGreat.C22 Go.Proofs.YtiophnmdopoeeaaGreat.C23 Go.Proofs.YtiophnmdopoeeaaGreat.C24 Go.Proofs.YtiophnmdopoeeaaGreat.C25 Go.Proofs.YtiophnmdopoeeaaGreat.C26 Go.Proofs.YtiophnmdopoeeaaGreat.C27 Go.Proofs.YtiophnmdopoeeaaGreat.C28 Go.Proofs.YtiophnmdopoeeaaGreat.C29 Go.Proofs.YtiophnmdopoeeaaGreat.C30 Go.Proofs.YtiophnmdopoeeaaGreat.C31 Go.Proofs.YtiophnmdopoeeaaGreat.C32 Go.Proofs.YtiophnmdopoeeaaGreat.C33 Go.Proofs.YtiophnmdopoeeaaGreat.C34 Go.Proofs.YtiophnmdopoeeaaGreat.C35 Go.Proofs.YtiophnmdopoeeaaGreat.L1 Go.Proofs.YtiophnmdopoeeaaGreat.L2 Go.Proofs.YtiophnmdopoeeaaGreat.L3 Go.Proofs.YtiophnmdopoeeaaGreat.L4 Go.Proofs.YtiophnmdopoeeaaGreat.L5

/-! ### splitting -/
abbrev EQ (c : List Int) (x y : Nat) : Prop := gI c x = gI c y
abbrev Mt (c : List Int) (al : Nat → Nat → Bool) (x y : Nat) : Prop := gI c x = gI c y ∧ al x y = true
theorem mate_none {c : List Int} {al : Nat → Nat → Bool} {x : Nat} : ∀ {y}, mate c al x y = none ↔ ∀ z, z < y → ¬ Mt c al x z
  | 0 => by simp [mate]
  | y + 1 => by
    rw [mate]
    cases hm : mate c al x y with
    | some w =>
      have := mate_some hm
      simp only [reduceCtorEq, false_iff]
      intro h
      exact h w (by omega) this.2
    | none =>
      have ih := mate_none.1 hm
      simp only
      constructor
      · intro h z hz
        by_cases e : z = y
        · subst e
          intro hc
          rw [if_pos hc] at h
          exact absurd h (by simp)
        · exact ih z (by omega)
      · intro h
        rw [if_neg (h y (by omega))]
/-- symmetric and transitive -/
structure PER (n : Nat) (R : Nat → Nat → Prop) : Prop where
  sy : ∀ x y, x < n → y < n → R x y → R y x
  tr : ∀ x y z, x < n → y < n → z < n → R x y → R y z → R x z
theorem PER.le {n m : Nat} {R : Nat → Nat → Prop} (h : PER n R) (hm : m ≤ n) : PER m R := ⟨fun x y hx hy => h.sy x y (by omega) (by omega), fun x y z hx hy hz => h.tr x y z (by omega) (by omega) (by omega)⟩
theorem split_get (c : List Int) (al : Nat → Nat → Bool) (n : Nat) {y : Nat} (hy : y < n) : gI (splitN c al (n + 1)).1 y = gI (splitN c al n).1 y := by
  have ok := splitN_ok c al n
  rw [splitN]
  cases mate c al n n with
  | some z => exact gI_app_left (by omega)
  | none => exact gI_app_left (by omega)
theorem split_iff (c : List Int) (al : Nat → Nat → Bool) : ∀ n, PER n (Mt c al) → ∀ x y, x < n → y < n → (EQ (splitN c al n).1 x y ↔ x = y ∨ Mt c al x y)
  | 0, _, x, y, hx, _ => by omega
  | n + 1, hp, x, y, hx, hy => by
    have ih := split_iff c al n (hp.le (by omega))
    have ok := splitN_ok c al n
    -- a new one against an old one
    have one : ∀ z, z < n → (EQ (splitN c al (n + 1)).1 n z ↔ Mt c al n z) := by
      intro z hz
      unfold EQ
      rw [split_get c al n hz]
      have hlast : gI (splitN c al (n + 1)).1 n = match mate c al n n with | some w => gI (splitN c al n).1 w | none => (splitN c al n).2 := by
        rw [splitN]
        cases mate c al n n with
        | some w => exact gI_app_last (by omega)
        | none => exact gI_app_last (by omega)
      rw [hlast]
      cases hm : mate c al n n with
      | some w =>
        obtain ⟨hw, hmw⟩ := mate_some hm
        simp only
        rw [show (gI (splitN c al n).1 w = gI (splitN c al n).1 z) = EQ (splitN c al n).1 w z from rfl, ih w z hw hz]
        constructor
        · rintro (rfl | h)
          · exact hmw
          · exact hp.tr n w z (by omega) (by omega) (by omega) hmw h
        · intro h
          exact .inr (hp.tr w n z (by omega) (by omega) (by omega) (hp.sy n w (by omega) (by omega) hmw) h)
      | none =>
        simp only
        have hno := mate_none.1 hm z hz
        refine ⟨fun e => ?_, fun h => absurd h hno⟩
        have hzl : z < (splitN c al n).1.length := by omega
        have := ok.2.2.2 _ (gI_mem hzl)
        omega
    by_cases ex : x = n
    · by_cases ey : y = n
      · subst ex; subst ey; simp [EQ]
      · subst ex
        rw [one y (by omega)]
        exact ⟨.inr, fun h => h.elim (fun e => absurd e.symm ey) id⟩
    · by_cases ey : y = n
      · subst ey
        have := one x (by omega)
        unfold EQ at this ⊢
        rw [eq_comm, this]
        exact ⟨fun h => .inr (hp.sy _ _ (by omega) (by omega) h), fun h => h.elim (fun e => absurd e ex) (hp.sy _ _ (by omega) (by omega))⟩
      · unfold EQ
        rw [split_get c al n (by omega), split_get c al n (by omega)]
        exact ih x y (by omega) (by omega)
theorem split_refines (c : List Int) (al : Nat → Nat → Bool) : ∀ n x y, x < n → y < n → EQ (splitN c al n).1 x y → EQ c x y
  | 0, x, y, hx, _, _ => by omega
  | n + 1, x, y, hx, hy, h => by
    have ih := split_refines c al n
    have ok := splitN_ok c al n
    have one : ∀ z, z < n → EQ (splitN c al (n + 1)).1 n z → EQ c n z := by
      intro z hz h
      unfold EQ at h
      rw [split_get c al n hz] at h
      have hlast : gI (splitN c al (n + 1)).1 n = match mate c al n n with | some w => gI (splitN c al n).1 w | none => (splitN c al n).2 := by
        rw [splitN]
        cases mate c al n n with
        | some w => exact gI_app_last (by omega)
        | none => exact gI_app_last (by omega)
      rw [hlast] at h
      cases hm : mate c al n n with
      | some w =>
        obtain ⟨hw, hmw⟩ := mate_some hm
        rw [hm] at h
        exact hmw.1.trans (ih w z hw hz h)
      | none =>
        rw [hm] at h
        have hzl : z < (splitN c al n).1.length := by omega
        have := ok.2.2.2 _ (gI_mem hzl)
        simp only at h
        omega
    by_cases ex : x = n
    · by_cases ey : y = n
      · subst ex; subst ey; rfl
      · subst ex; exact one y (by omega) h
    · by_cases ey : y = n
      · subst ey; exact (one x (by omega) h.symm).symm
      · unfold EQ at h
        rw [split_get c al n (by omega), split_get c al n (by omega)] at h
        exact ih x y (by omega) (by omega) h
/-- as many classes as before: nothing is split -/
theorem split_same (c : List Int) (al : Nat → Nat → Bool) : ∀ n, PER n (Mt c al) → (splitN c al n).2 = firstsN c n → ∀ x y, x < n → y < n → EQ c x y → x = y ∨ Mt c al x y
  | 0, _, _, x, y, hx, _, _ => by omega
  | n + 1, hp, he, x, y, hx, hy, hxy => by
    have hge := split_ge c al n
    have hsplit : (splitN c al (n + 1)).2 = (splitN c al n).2 + (match mate c al n n with | some _ => 0 | none => 1) := by
      rw [splitN]
      cases mate c al n n <;> simp
    rw [hsplit, firstsN] at he
    have hle : (match mate c al n n with | some _ => (0 : Int) | none => 1) ≥ (if ∃ y, y < n ∧ gI c y = gI c n then 0 else 1) := by
      cases hm : mate c al n n with
      | some w =>
        have := mate_some hm
        rw [if_pos ⟨w, this.1, this.2.1.symm⟩]; simp
      | none => simp only; split <;> omega
    have e1 : (splitN c al n).2 = firstsN c n := by omega
    have e2 : (match mate c al n n with | some _ => (0 : Int) | none => 1) = (if ∃ y, y < n ∧ gI c y = gI c n then 0 else 1) := by omega
    have ih := split_same c al n (hp.le (by omega)) e1
    have one : ∀ z, z < n → EQ c n z → Mt c al n z := by
      intro z hz h
      rw [if_pos ⟨z, hz, h.symm⟩] at e2
      cases hm : mate c al n n with
      | none => rw [hm] at e2; simp at e2
      | some w =>
        obtain ⟨hw, hmw⟩ := mate_some hm
        rcases ih w z hw hz (hmw.1.symm.trans h) with rfl | h2
        · exact hmw
        · exact hp.tr n w z (by omega) (by omega) (by omega) hmw h2
    by_cases ex : x = n
    · by_cases ey : y = n
      · exact .inl (ex.trans ey.symm)
      · subst ex; exact .inr (one y (by omega) hxy)
    · by_cases ey : y = n
      · subst ey; exact .inr (hp.sy _ _ (by omega) (by omega) (one x (by omega) hxy.symm))
      · exact ih x y (by omega) (by omega) hxy

/-! ### rounds -/
theorem alikeW_per (N : Nat) (rs : List Rl) (c : List Int) : (∀ x, AlikeW N rs c x x) ∧ (∀ x y, AlikeW N rs c x y → AlikeW N rs c y x) ∧ ∀ x y z, AlikeW N rs c x y → AlikeW N rs c y z → AlikeW N rs c x z :=
  ⟨fun x r _ => .refl _, fun x y h r hr => (h r hr).symm, fun x y z h k r hr => (h r hr).trans (k r hr)⟩
theorem sig_per {N : Nat} {rs : List Rl} (g : ∀ r, r ∈ rs → GRel N r) {c : List Int} (hc : c.length = N) : PER N (Mt c (sigAl N rs c)) := by
  obtain ⟨_, h2, h3⟩ := alikeW_per N rs c
  refine ⟨fun x y hx hy h => ⟨h.1.symm, ?_⟩, fun x y z hx hy hz h k => ⟨h.1.trans k.1, ?_⟩⟩
  · rw [sigAl_iff N c hc rs g hy hx]
    exact h2 _ _ ((sigAl_iff N c hc rs g hx hy).1 h.2)
  · rw [sigAl_iff N c hc rs g hx hz]
    exact h3 _ _ _ ((sigAl_iff N c hc rs g hx hy).1 h.2) ((sigAl_iff N c hc rs g hy hz).1 k.2)
theorem round_iff {N : Nat} {rs : List Rl} (g : ∀ r, r ∈ rs → GRel N r) {c : List Int} (hc : c.length = N) {x y : Nat} (hx : x < N) (hy : y < N) : EQ (roundS N rs c).1 x y ↔ EQ c x y ∧ AlikeW N rs c x y := by
  unfold roundS
  have hp := sig_per g hc
  rw [hc, split_iff c _ N hp x y hx hy, Mt, sigAl_iff N c hc rs g hx hy]
  constructor
  · rintro (rfl | h)
    · exact ⟨rfl, (alikeW_per N rs c).1 x⟩
    · exact h
  · exact .inr
theorem round_len {N : Nat} {rs : List Rl} {c : List Int} (hc : c.length = N) : (roundS N rs c).1.length = N := by
  have := (splitN_ok c (sigAl N rs c) c.length).1
  unfold roundS; rw [this, hc]
theorem stab_ind {N : Nat} {rs : List Rl} (Q : List Int → Prop) (h : ∀ c, c.length = N → Q c → Q (roundS N rs c).1) : ∀ (f : Nat) (c : List Int × Int), c.1.length = N → Q c.1 → Q (stabF N rs f c).1
  | 0, c, _, hq => hq
  | f + 1, c, hl, hq => by
    rw [stabF]
    split
    · exact hq
    · exact stab_ind Q h f _ (round_len hl) (h _ hl hq)
theorem stab_fix {N : Nat} {rs : List Rl} : ∀ (f : Nat) (c : List Int × Int), c.1.length = N → firstsN c.1 N = c.2 → (N : Int) + 1 ≤ f + c.2 → (roundS N rs (stabF N rs f c).1).2 = (stabF N rs f c).2
  | 0, c, hl, hf, hN => by
    have := split_ge c.1 (sigAl N rs c.1) N
    have ok := splitN_ok c.1 (sigAl N rs c.1) N
    simp at hN; omega
  | f + 1, c, hl, hf, hN => by
    rw [stabF]
    split
    · assumption
    · rename_i hne
      have h1 := split_ge c.1 (sigAl N rs c.1) N
      have h2 : (roundS N rs c.1).2 = (splitN c.1 (sigAl N rs c.1) N).2 := by unfold roundS; rw [hl]
      have h3 := firsts_split c.1 (sigAl N rs c.1) N
      refine stab_fix f _ (round_len hl) ?_ (by omega)
      unfold roundS; rw [hl]; exact h3
end Go.Proofs.YtiophnmdopoeeaaGreat.L6

set_option linter.unusedVariables false
set_option linter.unusedSimpArgs false
set_option maxRecDepth 100000
namespace Go.Proofs.YtiophnmdopoeeaaGreat.L7
open Go Go.Ev Go.Proofs Go.Proofs.YtiophnmdopoeeaaGreat.C1 Go.Proofs.YtiophnmdopoeeaaGreat.C2 Go.Proofs.YtiophnmdopoeeaaGreat.C3 Go.Proofs.YtiophnmdopoeeaaGreat.C4 Go.Proofs.YtiophnmdopoeeaaGreat.C5 Go.Proofs.YtiophnmdopoeeaaGreat.C6 Go.Proofs.YtiophnmdopoeeaaGreat.C7 Go.Proofs.YtiophnmdopoeeaaGreat.C9 Go.Proofs.YtiophnmdopoeeaaGreat.C10 Go.Proofs.YtiophnmdopoeeaaGreat.C11 Go.Proofs.YtiophnmdopoeeaaGreat.C12 Go.Proofs.YtiophnmdopoeeaaGreat.C13 Go.Proofs.YtiophnmdopoeeaaGreat.C14 Go.Proofs.YtiophnmdopoeeaaGreat.C15 Go.Proofs.YtiophnmdopoeeaaGreat.C16 Go.Proofs.YtiophnmdopoeeaaGreat.C17 Go.Proofs.YtiophnmdopoeeaaGreat.C18 Go.Proofs.YtiophnmdopoeeaaGreat.C19 Go.Proofs.YtiophnmdopoeeaaGreat.C20 Go.Proofs.YtiophnmdopoeeaaGreat.C21 Go.Proofs.YtiophnmdopoeeaaGreat.C22 Go.Proofs.YtiophnmdopoeeaaGreat.C23 Go.Proofs.YtiophnmdopoeeaaGreat.C24 Go.Proofs.YtiophnmdopoeeaaGreat.C25 Go.Proofs.YtiophnmdopoeeaaGreat.C26 Go.Proofs.YtiophnmdopoeeaaGreat.C27 Go.Proofs.YtiophnmdopoeeaaGreat.C28 Go.Proofs.YtiophnmdopoeeaaGreat.C29 Go.Proofs.YtiophnmdopoeeaaGreat.C30 Go.Proofs.YtiophnmdopoeeaaGreat.C31 Go.Proofs.YtiophnmdopoeeaaGreat.C32 Go.Proofs.YtiophnmdopoeeaaGreat.C33 Go.Proofs.YtiophnmdopoeeaaGreat.C34 Go.Proofs.YtiophnmdopoeeaaGreat.C35 Go.Proofs.YtiophnmdopoeeaaGreat.L1 Go.Proofs.YtiophnmdopoeeaaGreat.L2 Go.Proofs.YtiophnmdopoeeaaGreat.L3 Go.Proofs.YtiophnmdopoeeaaGreat.L4 Go.Proofs.YtiophnmdopoeeaaGreat.L5 Go.Proofs.YtiophnmdopoeeaaGreat.L6

/-! ### other names for classes, other places for atoms -/
theorem mem_map_gI {N : Nat} {p : List Int} (hp : PermL N p) {x : Nat} (hx : x < N) : ∀ {tup : List Int}, Dg N tup → ((ap p x : Int) ∈ tup.map (fun v => gI p v.toNat) ↔ (x : Int) ∈ tup)
  | [], _ => by simp
  | v :: tup, h => by
    have hv := h.cons.1
    rw [List.map_cons, List.mem_cons, List.mem_cons, mem_map_gI hp hx h.cons.2]
    have : ((ap p x : Int) = gI p v.toNat) ↔ (x : Int) = v := by
      rw [hp.ap_eq (show v.toNat < N by omega)]
      constructor
      · intro e
        have := hp.ap_inj hx (show v.toNat < N by omega) (by omega)
        omega
      · intro e
        have : v.toNat = x := by omega
        rw [this]
    rw [this]
theorem WD_map {N : Nat} {p : List Int} (hp : PermL N p) {d c : List Int} {H : Int → Int} (h0 : H 0 = 0) (hH : ∀ v, v < N → H (gI d v + 1) = gI c (ap p v) + 1) {x : Nat} (hx : x < N) {tup : List Int} (hd : Dg N tup) :
    WD c (ap p x) (tup.map fun v => gI p v.toNat) = (WD d x tup).map H := by
  unfold WD
  rw [List.map_map, List.map_map]
  refine List.map_congr_left fun v hv => ?_
  have hv := hd v hv
  simp only [Function.comp_apply]
  by_cases e : v = x
  · have e1 : v.toNat = x := by omega
    rw [if_pos e, e1, hp.ap_eq hx, if_pos rfl, h0]
  · have e1 : ¬ gI p v.toNat = (ap p x : Int) := by
      rw [hp.ap_eq (show v.toNat < N by omega)]
      intro h
      have := hp.ap_inj (show v.toNat < N by omega) hx (by omega)
      omega
    rw [if_neg e, if_neg e1, hH v.toNat (by omega)]
    rfl
theorem wl_map {N : Nat} {p : List Int} (hp : PermL N p) {d c : List Int} {H : Int → Int} (h0 : H 0 = 0) (hH : ∀ v, v < N → H (gI d v + 1) = gI c (ap p v) + 1) {x : Nat} (hx : x < N) {r r' : Rl} (har : r'.ar = r.ar) (hts : r'.ts.Perm (r.ts.map (act p N r.ar.toNat))) :
    (wl N c r' (ap p x)).Perm ((wl N d r x).map (List.map H)) := by
  have hN : 1 ≤ N := by omega
  have e1 : (wl N c r' (ap p x)).Perm (((r.ts.map (act p N r.ar.toNat)).filter fun t => decide ((ap p x : Int) ∈ digN N t r.ar.toNat)).map fun t => WD c (ap p x) (digN N t r.ar.toNat)) := by
    unfold wl
    rw [har]
    exact (hts.filter _).map _
  refine e1.trans ?_
  unfold wl
  rw [List.filter_map, List.map_map, List.map_map]
  have e2 : ((fun t => decide ((ap p x : Int) ∈ digN N t r.ar.toNat)) ∘ act p N r.ar.toNat) = fun t => decide ((x : Int) ∈ digN N t r.ar.toNat) := by
    funext t
    simp only [Function.comp_apply]
    rw [(act_dig hp hN r.ar.toNat t).1]
    have := mem_map_gI hp hx (tup := digN N t r.ar.toNat) (digN_dg (by omega) _)
    simp only [this]
  rw [e2]
  have e3 : ((fun t => WD c (ap p x) (digN N t r.ar.toNat)) ∘ act p N r.ar.toNat) = (List.map H ∘ fun t => WD d x (digN N t r.ar.toNat)) := by
    funext t
    simp only [Function.comp_apply]
    rw [(act_dig hp hN r.ar.toNat t).1]
    exact WD_map hp h0 hH hx (digN_dg (by omega) _)
  rw [e3]
theorem relabel_H {N : Nat} {p : List Int} {d c : List Int} (hd : ∀ v, v < N → 0 ≤ gI d v) (hdc : ∀ v w, v < N → w < N → EQ d v w → gI c (ap p v) = gI c (ap p w)) :
    ∃ H : Int → Int, H 0 = 0 ∧ ∀ v, v < N → H (gI d v + 1) = gI c (ap p v) + 1 := by
  refine ⟨fun u => if u = 0 then 0 else match (List.range N).find? (fun v => decide (gI d v + 1 = u)) with | some v => gI c (ap p v) + 1 | none => 0, rfl, fun v hv => ?_⟩
  have := hd v hv
  simp only
  rw [if_neg (by omega)]
  cases hf : (List.range N).find? (fun w => decide (gI d w + 1 = gI d v + 1)) with
  | none =>
    rw [List.find?_eq_none] at hf
    have := hf v (by simpa using hv)
    simp at this
  | some w =>
    have h1 := List.find?_some hf
    have h2 := List.mem_of_find?_eq_some hf
    simp only [decide_eq_true_eq] at h1
    rw [List.mem_range] at h2
    simp only
    rw [hdc w v h2 hv (by unfold EQ; omega)]
/-- relations, moved by p -/
def Moved (N : Nat) (p : List Int) (rs rs' : List Rl) : Prop := ∀ r', r' ∈ rs' → ∃ r, r ∈ rs ∧ r'.ar = r.ar ∧ r'.ts.Perm (r.ts.map (act p N r.ar.toNat))
theorem alike_map {N : Nat} {p : List Int} (hp : PermL N p) {d c : List Int} (hd : ∀ v, v < N → 0 ≤ gI d v) (hdc : ∀ v w, v < N → w < N → EQ d v w → gI c (ap p v) = gI c (ap p w)) {rs rs' : List Rl} (hm : Moved N p rs rs') {x y : Nat} (hx : x < N) (hy : y < N)
    (h : AlikeW N rs d x y) : AlikeW N rs' c (ap p x) (ap p y) := by
  obtain ⟨H, h0, hH⟩ := relabel_H hd hdc
  intro r' hr'
  obtain ⟨r, hr, har, hts⟩ := hm r' hr'
  exact (wl_map hp h0 hH hx har hts).trans (((h r hr).map _).trans (wl_map hp h0 hH hy har hts).symm)
theorem Moved.closed {N : Nat} {p : List Int} (hp : PermL N p) {rs : List Rl} (g : ∀ r, r ∈ rs → GRel N r) (h : ∀ r, r ∈ rs → Closed p N r) : Moved N p rs rs := fun r hr => by
  refine ⟨r, hr, rfl, (nodup_perm (img_nodup hp (g r hr)) (sorted_nodup (g r hr).srt) (fun x hx => ?_) (by simp)).symm⟩
  obtain ⟨t, ht, rfl⟩ := List.mem_map.1 hx
  exact h r hr t ht
theorem ap_id {N x : Nat} (h : x < N) : ap (idL N) x = x := by unfold ap; rw [idL_get h]; rfl
theorem Moved.sub {N : Nat} {rs rs' : List Rl} (g : ∀ r, r ∈ rs → GRel N r) (h : ∀ r, r ∈ rs' → r ∈ rs) : Moved N (idL N) rs rs' := fun r hr => by
  have gr := g r (h r hr)
  refine ⟨r, h r hr, rfl, ?_⟩
  have : r.ts.map (act (idL N) N r.ar.toNat) = r.ts := by
    conv => rhs; rw [← List.map_id r.ts]
    refine List.map_congr_left fun t ht => ?_
    have hv := gr.val t ht
    exact act_id (GRel.pos gr ht) _ hv.1 hv.2
  rw [this]
theorem Moved.img {N : Nat} {p : List Int} (hp : PermL N p) {rs : List Rl} : Moved N p rs (rs.map (relImg p)) := fun r' hr' => by
  obtain ⟨r, hr, rfl⟩ := List.mem_map.1 hr'
  refine ⟨r, hr, rfl, ?_⟩
  unfold relImg
  rw [hp.len]
  exact srtI_perm _
/-- coarser colours: still alike -/
theorem alike_coarse {N : Nat} {d c : List Int} (hd : ∀ v, v < N → 0 ≤ gI d v) (hdc : ∀ v w, v < N → w < N → EQ d v w → EQ c v w) {rs rs' : List Rl} (g : ∀ r, r ∈ rs → GRel N r) (hs : ∀ r, r ∈ rs' → r ∈ rs) {x y : Nat} (hx : x < N) (hy : y < N)
    (h : AlikeW N rs d x y) : AlikeW N rs' c x y := by
  have := alike_map (idL_perm N) hd (c := c) (fun v w hv hw e => by rw [ap_id hv, ap_id hw]; exact hdc v w hv hw e) (Moved.sub g hs) hx hy h
  rwa [ap_id hx, ap_id hy] at this
end Go.Proofs.YtiophnmdopoeeaaGreat.L7

set_option linter.unusedVariables false
set_option linter.unusedSimpArgs false
set_option maxRecDepth 100000
namespace Go.Proofs.YtiophnmdopoeeaaGreat.L8
open Go Go.Ev Go.Proofs Go.Proofs.YtiophnmdopoeeaaGreat.C1 Go.Proofs.YtiophnmdopoeeaaGreat.C2 Go.Proofs.YtiophnmdopoeeaaGreat.C3 Go.Proofs.YtiophnmdopoeeaaGreat.C4 Go.Proofs.YtiophnmdopoeeaaGreat.C5 Go.Proofs.YtiophnmdopoeeaaGreat.C6 Go.Proofs.YtiophnmdopoeeaaGreat.C7 Go.Proofs.YtiophnmdopoeeaaGreat.C9 Go.Proofs.YtiophnmdopoeeaaGreat.C10 Go.Proofs.YtiophnmdopoeeaaGreat.C11 Go.Proofs.YtiophnmdopoeeaaGreat.C12 Go.Proofs.YtiophnmdopoeeaaGreat.C13 Go.Proofs.YtiophnmdopoeeaaGreat.C14 Go.Proofs.YtiophnmdopoeeaaGreat.C15 Go.Proofs.YtiophnmdopoeeaaGreat.C16 Go.Proofs.YtiophnmdopoeeaaGreat.C17 Go.Proofs.YtiophnmdopoeeaaGreat.C18 Go.Proofs.YtiophnmdopoeeaaGreat.C19 Go.Proofs.YtiophnmdopoeeaaGreat.C20 Go.Proofs.YtiophnmdopoeeaaGreat.C21 Go.Proofs.YtiophnmdopoeeaaGreat.C22 Go.Proofs.YtiophnmdopoeeaaGreat.C23 Go.Proofs.YtiophnmdopoeeaaGreat.C24 Go.Proofs.YtiophnmdopoeeaaGreat.C25 Go.Proofs.YtiophnmdopoeeaaGreat.C26 Go.Proofs.YtiophnmdopoeeaaGreat.C27 Go.Proofs.YtiophnmdopoeeaaGreat.C28 Go.Proofs.YtiophnmdopoeeaaGreat.C29 Go.Proofs.YtiophnmdopoeeaaGreat.C30 Go.Proofs.YtiophnmdopoeeaaGreat.C31 Go.Proofs.YtiophnmdopoeeaaGreat.C32 Go.Proofs.YtiophnmdopoeeaaGreat.C33 Go.Proofs.YtiophnmdopoeeaaGreat.C34 Go.Proofs.YtiophnmdopoeeaaGreat.C35 Go.Proofs.YtiophnmdopoeeaaGreat.L1 Go.Proofs.YtiophnmdopoeeaaGreat.L2 Go.Proofs.YtiophnmdopoeeaaGreat.L3 Go.Proofs.YtiophnmdopoeeaaGreat.L4 Go.Proofs.YtiophnmdopoeeaaGreat.L5 Go.Proofs.YtiophnmdopoeeaaGreat.L6 Go.Proofs.YtiophnmdopoeeaaGreat.L7

/-! ### sorts -/
def flatS : List Int → Int → List Int
  | [], _ => []
  | a :: l, i => List.replicate a.toNat i ++ flatS l (i + 1)
theorem flatS_snoc (a : Int) : ∀ (l : List Int) (i : Int), flatS (l ++ [a]) i = flatS l i ++ List.replicate a.toNat (i + l.length)
  | [], i => by simp [flatS]
  | b :: l, i => by
    have : i + 1 + (l.length : Int) = i + ((b :: l).length : Int) := by simp; omega
    rw [List.cons_append, flatS, flatS, flatS_snoc a l (i + 1), List.append_assoc, this]
theorem sortsN_flat (atoms : List Int) : ∀ k, k ≤ atoms.length → sortsN atoms k = flatS (atoms.take k) 0
  | 0, _ => rfl
  | k + 1, hk => by
    rw [sortsN, foldN_succ, ← sortsN, sortsN_flat atoms k (by omega), List.take_add_one, List.getElem?_eq_getElem (by omega), Option.toList_some, flatS_snoc, gI_eq (by omega)]
    congr 2
    simp; omega
theorem flatS_get : ∀ (l : List Int) (i : Int) (x : Nat), (∀ a, a ∈ l → 0 ≤ a) → (x : Int) < sumI l → gI (flatS l i) x = sortIn l x i
  | [], i, x, _, h => by simp [sumI] at h; omega
  | a :: l, i, x, ha, h => by
    have h0 := ha a (by simp)
    rw [flatS, sortIn]
    by_cases hx : (x : Int) < a
    · rw [if_pos hx]
      unfold gI
      rw [List.getElem?_append_left (by simp; omega), List.getElem?_replicate, if_pos (by omega)]; rfl
    · rw [if_neg hx]
      have hs : sumI (a :: l) = a + sumI l := rfl
      have ih := flatS_get l (i + 1) (x - a.toNat) (fun b hb => ha b (by simp [hb])) (by omega)
      have e : ((x - a.toNat : Nat) : Int) = (x : Int) - a := by omega
      rw [e] at ih
      rw [← ih]
      unfold gI
      rw [List.getElem?_append_right (by simp; omega)]
      simp
theorem sortsL_get {sc : Sc} (g : GSc sc) {N : Nat} (hN : sumI sc.atoms = N) {x : Nat} (hx : x < N) : gI (sortsL sc) x = sortU sc x := by
  unfold sortsL sortU sortAt
  rw [sortsN_flat sc.atoms _ (Nat.le_refl _), List.take_length, if_neg (by omega)]
  exact flatS_get sc.atoms 0 x (fun a ha => (g.2 a ha).1) (by omega)

/-! ### the stable partition -/
structure StabF (sp : Sp) (sc : Sc) (N : Nat) (rs : List Rl) (c : List Int) (m : Nat) : Prop where
  len : c.length = N
  mle : m ≤ N
  rng : ∀ x, x < N → 0 ≤ gI c x ∧ gI c x < m
  onto : firstsN c N = m
  fine0 : ∀ x y, x < N → y < N → EQ c x y → x = y ∨ alike0 sp sc x y = true
  stab : ∀ x y, x < N → y < N → EQ c x y → AlikeW N rs c x y
theorem alike0_per (sp : Sp) (sc : Sc) (n : Nat) : PER n (Mt (List.replicate n 0) fun x y => alike0 sp sc x y) := by
  have hz : ∀ x y, x < n → y < n → gI (List.replicate n 0) x = gI (List.replicate n 0) y := fun x y hx hy => by simp [gI, hx, hy]
  refine ⟨fun x y hx hy h => ⟨hz y x hy hx, ?_⟩, fun x y z hx hy hz' h k => ⟨hz x z hx hz', ?_⟩⟩
  · have := h.2
    simp only [alike0, Bool.and_eq_true, decide_eq_true_eq] at this ⊢
    rw [← this.1]; exact ⟨rfl, this.2⟩
  · have h1 := h.2
    have h2 := k.2
    simp only [alike0, Bool.and_eq_true, decide_eq_true_eq] at h1 h2 ⊢
    exact ⟨h1.1.trans h2.1, h1.2⟩
theorem cls0_iff {sp : Sp} {sc : Sc} {N : Nat} (hN : sumI sc.atoms = N) {x y : Nat} (hx : x < N) (hy : y < N) : EQ (cls0 sp sc).1 x y ↔ x = y ∨ alike0 sp sc x y = true := by
  unfold cls0
  have e : (sumI sc.atoms).toNat = N := by omega
  rw [e, split_iff _ _ N (alike0_per sp sc N) x y hx hy, Mt]
  have hz : gI (List.replicate N 0) x = gI (List.replicate N 0) y := by simp [gI, hx, hy]
  simp [hz]
theorem cls0_len {sp : Sp} {sc : Sc} {N : Nat} (hN : sumI sc.atoms = N) : (cls0 sp sc).1.length = N ∧ firstsN (cls0 sp sc).1 N = (cls0 sp sc).2 ∧ 0 ≤ (cls0 sp sc).2 := by
  unfold cls0
  have e : (sumI sc.atoms).toNat = N := by omega
  rw [e]
  have ok := splitN_ok (List.replicate N 0) (fun x y => alike0 sp sc x y) N
  exact ⟨ok.1, firsts_split _ _ N, ok.2.1⟩
/-- what a round keeps holds of the stable partition -/
theorem stable_ind {sp : Sp} {sc : Sc} {N : Nat} (hN : sumI sc.atoms = N) (bs : List Bd) (Q : List Int → Prop) (h0 : Q (cls0 sp sc).1) (h : ∀ c, c.length = N → Q c → Q (roundS N (relsOf bs) c).1) : Q (stableS sp sc bs).1 := by
  unfold stableS
  rw [hN]
  exact stab_ind Q h _ _ (cls0_len hN).1 h0
theorem stableF {sp : Sp} {sc : Sc} {N : Nat} (hN : sumI sc.atoms = N) {bs : List Bd} (g : ∀ r, r ∈ relsOf bs → GRel N r) : ∃ m : Nat, (stableS sp sc bs).2 = m ∧ StabF sp sc N (relsOf bs) (stableS sp sc bs).1 m := by
  have ok := stableS_ok sp sc bs N (by omega)
  obtain ⟨m, hm⟩ := Int.eq_ofNat_of_zero_le ok.2.1
  refine ⟨m, hm, ok.1, by omega, fun x hx => ?_, by rw [ok.2.2.2.2, hm], ?_, ?_⟩
  · have := ok.2.2.2.1 _ (gI_mem (p := (stableS sp sc bs).1) (i := x) (by omega)); omega
  · exact stable_ind hN bs (fun c => ∀ x y, x < N → y < N → EQ c x y → x = y ∨ alike0 sp sc x y = true) (fun x y hx hy h => (cls0_iff hN hx hy).1 h)
      (fun c hc hq x y hx hy h => hq x y hx hy ((round_iff g hc hx hy).1 h).1)
  · have hfix : (roundS N (relsOf bs) (stableS sp sc bs).1).2 = (stableS sp sc bs).2 := by
      unfold stableS
      rw [hN]
      have h0 := cls0_len (sp := sp) hN
      exact stab_fix _ _ h0.1 h0.2.1 (by simp; omega)
    intro x y hx hy h
    have hl := ok.1
    have e : (splitN (stableS sp sc bs).1 (sigAl N (relsOf bs) (stableS sp sc bs).1) N).2 = firstsN (stableS sp sc bs).1 N := by
      rw [ok.2.2.2.2, ← hfix]
      unfold roundS
      rw [hl]
    rcases split_same _ _ N (sig_per g hl) e x y hx hy h with rfl | h2
    · exact (alikeW_per N _ _).1 x
    · exact (sigAl_iff N _ hl _ g hx hy).1 h2.2

/-- a colouring that is stable is at least as fine -/
theorem stable_coarsest {sp : Sp} {sc : Sc} {N : Nat} (hN : sumI sc.atoms = N) {bs : List Bd} (g : ∀ r, r ∈ relsOf bs → GRel N r) {p : List Int} (hp : PermL N p) {d : List Int} (hd : ∀ v, v < N → 0 ≤ gI d v)
    {rs : List Rl} (hm : Moved N p rs (relsOf bs)) (h0 : ∀ x y, x < N → y < N → EQ d x y → ap p x = ap p y ∨ alike0 sp sc (ap p x) (ap p y) = true) (hst : ∀ x y, x < N → y < N → EQ d x y → AlikeW N rs d x y) :
    ∀ x y, x < N → y < N → EQ d x y → EQ (stableS sp sc bs).1 (ap p x) (ap p y) :=
  stable_ind hN bs (fun c => ∀ x y, x < N → y < N → EQ d x y → EQ c (ap p x) (ap p y)) (fun x y hx hy h => (cls0_iff hN (hp.ap_lt hx) (hp.ap_lt hy)).2 (h0 x y hx hy h))
    (fun c hc hq x y hx hy h => (round_iff g hc (hp.ap_lt hx) (hp.ap_lt hy)).2 ⟨hq x y hx hy h, alike_map hp hd (fun v w hv hw e => hq v w hv hw e) hm hx hy (hst x y hx hy h)⟩)

/-- what fixes the atoms of ordered sorts -/
def FixO (sp : Sp) (sc : Sc) (N : Nat) (p : List Int) : Prop := ∀ x, x < N → ap p x = x ∨ ordAt sp (sortU sc x) = false
/-- a symmetry keeps the classes -/
theorem sym_class {sp : Sp} {sc : Sc} (u : GSc sc) {N : Nat} (hN : sumI sc.atoms = N) {bs : List Bd} (g : ∀ r, r ∈ relsOf bs → GRel N r) {p : List Int} (h : SymP sc N (relsOf bs) p) (hf : FixO sp sc N p) :
    ∀ x, x < N → gI (stableS sp sc bs).1 (ap p x) = gI (stableS sp sc bs).1 x := by
  refine stable_ind hN bs (fun c => ∀ x, x < N → gI c (ap p x) = gI c x) ?_ ?_
  · intro x hx
    have hl := h.perm.ap_lt hx
    refine (cls0_iff hN hl hx).2 ?_
    rcases hf x hx with e | e
    · exact .inl e
    · refine .inr ?_
      have hk := h.keep x hx
      rw [sortsL_get u hN hl, sortsL_get u hN hx] at hk
      simp only [alike0, Bool.and_eq_true, decide_eq_true_eq, Bool.not_eq_true']
      rw [hk]; exact ⟨rfl, e⟩
  · intro c hc hq x hx
    have hl := h.perm.ap_lt hx
    refine (round_iff g hc hl hx).2 ⟨hq x hx, fun r hr => ?_⟩
    obtain ⟨r0, hr0, har, hts⟩ := Moved.closed h.perm g h.cl r hr
    have key : (wl N c r (ap p x)).Perm (wl N c r0 x) := by
      have := wl_map h.perm (d := c) (c := c) (H := fun u => u) rfl (fun v hv => by rw [hq v hv]) hx har hts
      simpa using this
    have hr0r : (wl N c r0 x).Perm (wl N c r x) := by
      have : r0.ts.map (act p N r0.ar.toNat) = r0.ts.map (act p N r0.ar.toNat) := rfl
      -- r and its image are the same set
      have hp2 := Moved.closed h.perm g h.cl
      have hcl := nodup_perm (img_nodup h.perm (g r0 hr0)) (sorted_nodup (g r0 hr0).srt) (fun z hz => by
        obtain ⟨t, ht, rfl⟩ := List.mem_map.1 hz
        exact h.cl r0 hr0 t ht) (by simp)
      have : r.ts.Perm r0.ts := hts.trans hcl
      unfold wl
      rw [har]
      exact (this.symm.filter _).map _
    exact key.trans hr0r
end Go.Proofs.YtiophnmdopoeeaaGreat.L8

set_option linter.unusedVariables false
set_option linter.unusedSimpArgs false
set_option maxRecDepth 100000
namespace Go.Proofs.YtiophnmdopoeeaaGreat.L9
open Go Go.Ev Go.Proofs Go.Proofs.YtiophnmdopoeeaaGreat.C1 Go.Proofs.YtiophnmdopoeeaaGreat.C2 Go.Proofs.YtiophnmdopoeeaaGreat.C3 Go.Proofs.YtiophnmdopoeeaaGreat.C4 Go.Proofs.YtiophnmdopoeeaaGreat.C5 Go.Proofs.YtiophnmdopoeeaaGreat.C6 Go.Proofs.YtiophnmdopoeeaaGreat.C7 Go.Proofs.YtiophnmdopoeeaaGreat.C9 Go.Proofs.YtiophnmdopoeeaaGreat.C10 Go.Proofs.YtiophnmdopoeeaaGreat.C11 Go.Proofs.YtiophnmdopoeeaaGreat.C12 Go.Proofs.YtiophnmdopoeeaaGreat.C13 Go.Proofs.YtiophnmdopoeeaaGreat.C14 Go.Proofs.YtiophnmdopoeeaaGreat.C15 Go.Proofs.YtiophnmdopoeeaaGreat.C16 Go.Proofs.YtiophnmdopoeeaaGreat.C17 Go.Proofs.YtiophnmdopoeeaaGreat.C18 Go.Proofs.YtiophnmdopoeeaaGreat.C19 Go.Proofs.YtiophnmdopoeeaaGreat.C20 Go.Proofs.YtiophnmdopoeeaaGreat.C21 Go.Proofs.YtiophnmdopoeeaaGreat.C22 Go.Proofs.YtiophnmdopoeeaaGreat.C23 Go.Proofs.YtiophnmdopoeeaaGreat.C24 Go.Proofs.YtiophnmdopoeeaaGreat.C25 Go.Proofs.YtiophnmdopoeeaaGreat.C26 Go.Proofs.YtiophnmdopoeeaaGreat.C27 Go.Proofs.YtiophnmdopoeeaaGreat.C28 Go.Proofs.YtiophnmdopoeeaaGreat.C29 Go.Proofs.YtiophnmdopoeeaaGreat.C30 Go.Proofs.YtiophnmdopoeeaaGreat.C31 Go.Proofs.YtiophnmdopoeeaaGreat.C32 Go.Proofs.YtiophnmdopoeeaaGreat.C33 Go.Proofs.YtiophnmdopoeeaaGreat.C34 Go.Proofs.YtiophnmdopoeeaaGreat.C35 Go.Proofs.YtiophnmdopoeeaaGreat.L1 Go.Proofs.YtiophnmdopoeeaaGreat.L2 Go.Proofs.YtiophnmdopoeeaaGreat.L3 Go.Proofs.YtiophnmdopoeeaaGreat.L4 Go.Proofs.YtiophnmdopoeeaaGreat.L5 Go.Proofs.YtiophnmdopoeeaaGreat.L6 Go.Proofs.YtiophnmdopoeeaaGreat.L7 Go.Proofs.YtiophnmdopoeeaaGreat.L8

/-! ### the search -/
theorem flatMap_congr' {α β : Type} : ∀ (l : List α) (f g : α → List β), (∀ a, a ∈ l → f a = g a) → l.flatMap f = l.flatMap g
  | [], f, g, _ => rfl
  | a :: l, f, g, h => by rw [List.flatMap_cons, List.flatMap_cons, h a (by simp), flatMap_congr' l f g fun b hb => h b (by simp [hb])]
theorem extG_pre (N : Nat) (cls : List Int) (cons : List Int → Bool) : ∀ (d : Nat) (p q : List Int), q ∈ extG N cls cons d p → ∃ s, q = p ++ s ∧ s.length = d
  | 0, p, q, h => ⟨[], by simpa [extG] using h, rfl⟩
  | d + 1, p, q, h => by
    rw [extG, List.mem_flatMap] at h
    obtain ⟨y, _, h⟩ := h
    split at h
    · obtain ⟨s, e, hs⟩ := extG_pre N cls cons d _ q h
      exact ⟨(y : Int) :: s, by rw [e]; simp, by simp [hs]⟩
    · simp at h
/-- all steps from a on, d of them, may be made -/
def okF (cls : List Int) (cons : List Int → Bool) (q : List Int) : Nat → Nat → Bool
  | _, 0 => true
  | a, d + 1 => decide (goOn cls cons (q.take a) (ap q a)) && okF cls cons q (a + 1) d
theorem gI_app_mid {p s : List Int} {y : Int} : gI (p ++ y :: s) p.length = y := by simp [gI]
theorem extG_step {N : Nat} {cls : List Int} {cons : List Int → Bool} {d : Nat} {p q : List Int} {y : Nat} (h : q ∈ extG N cls cons d (p ++ [(y : Int)])) : q.take p.length = p ∧ ap q p.length = y := by
  obtain ⟨s, e, _⟩ := extG_pre N cls cons d _ q h
  have e2 : q = p ++ (y : Int) :: s := by rw [e]; simp
  refine ⟨by rw [e2]; exact List.take_left' rfl, ?_⟩
  · unfold ap; rw [e2, gI_app_mid]; rfl
theorem extG_filter {N : Nat} {cls cls' : List Int} {cons cons' : List Int → Bool} (himp : ∀ (pre : List Int) (y : Nat), pre.length < N → y < N → goOn cls' cons' pre y → goOn cls cons pre y) :
    ∀ (d : Nat) (p : List Int), p.length + d ≤ N → extG N cls' cons' d p = (extG N cls cons d p).filter fun q => okF cls' cons' q p.length d
  | 0, p, _ => by simp [extG, okF]
  | d + 1, p, hd => by
    rw [extG, extG, List.filter_flatMap]
    refine flatMap_congr' _ _ _ fun y hy => ?_
    have hy : y < N := by simpa using hy
    have ih := extG_filter himp d (p ++ [(y : Int)]) (by simp; omega)
    by_cases h : goOn cls' cons' p y
    · rw [if_pos h, if_pos (himp p y (by omega) hy h), ih]
      refine List.filter_congr fun q hq => ?_
      obtain ⟨e1, e2⟩ := extG_step hq
      rw [okF, e1, e2, List.length_append, List.length_singleton]
      simp [h]
    · rw [if_neg h]
      symm
      rw [List.filter_eq_nil_iff]
      intro q hq
      split at hq
      · obtain ⟨e1, e2⟩ := extG_step hq
        rw [okF, e1, e2]
        simp [h]
      · simp at hq
theorem okF_iff {cls : List Int} {cons : List Int → Bool} {q : List Int} : ∀ (d a : Nat), okF cls cons q a d = true ↔ ∀ k, a ≤ k → k < a + d → goOn cls cons (q.take k) (ap q k)
  | 0, a => by
    simp only [okF, true_iff]
    intro k h1 h2; omega
  | d + 1, a => by
    rw [okF, Bool.and_eq_true, decide_eq_true_eq, okF_iff d (a + 1)]
    constructor
    · rintro ⟨h1, h2⟩ k hk1 hk2
      by_cases e : k = a
      · subst e; exact h1
      · exact h2 k (by omega) (by omega)
    · intro h; exact ⟨h a (Nat.le_refl _) (by omega), fun k h1 h2 => h k (by omega) (by omega)⟩
theorem mem_extG {N : Nat} {cls : List Int} {cons : List Int → Bool} : ∀ (d : Nat) (p q : List Int), q ∈ extG N cls cons d p ↔ (∃ s, q = p ++ s ∧ s.length = d) ∧ ∀ k, p.length ≤ k → k < p.length + d → 0 ≤ gI q k ∧ gI q k < N ∧ goOn cls cons (q.take k) (ap q k)
  | 0, p, q => by
    rw [extG, List.mem_singleton]
    constructor
    · rintro rfl; exact ⟨⟨[], by simp, rfl⟩, fun k h1 h2 => by omega⟩
    · rintro ⟨⟨s, e, hs⟩, _⟩
      have := List.eq_nil_of_length_eq_zero hs
      subst this; simpa using e
  | d + 1, p, q => by
    have ih := fun y : Nat => mem_extG (N := N) (cls := cls) (cons := cons) d (p ++ [(y : Int)]) q
    rw [extG, List.mem_flatMap]
    constructor
    · rintro ⟨y, hy, h⟩
      have hy : y < N := by simpa using hy
      split at h
      · rename_i hg
        obtain ⟨e1, e2⟩ := extG_step h
        obtain ⟨⟨s, e, hs⟩, hk⟩ := (ih y).1 h
        refine ⟨⟨(y : Int) :: s, by rw [e]; simp, by simp [hs]⟩, fun k h1 h2 => ?_⟩
        by_cases ek : k = p.length
        · subst ek
          rw [e1, e2]
          have : gI q p.length = y := by rw [e, List.append_assoc]; exact gI_app_mid
          exact ⟨by omega, by omega, hg⟩
        · exact hk k (by simp; omega) (by simp; omega)
      · simp at h
    · rintro ⟨⟨s, e, hs⟩, hk⟩
      obtain ⟨y, s', rfl⟩ : ∃ y s', s = y :: s' := by
        cases s with
        | nil => simp at hs
        | cons y s' => exact ⟨y, s', rfl⟩
      have h0 := hk p.length (Nat.le_refl _) (by omega)
      have hy : gI q p.length = y := by rw [e]; exact gI_app_mid
      rw [hy] at h0
      have hyn : ((y.toNat : Nat) : Int) = y := by omega
      have ht : q.take p.length = p := by rw [e, List.take_left']; rfl
      have hap : ap q p.length = y.toNat := by unfold ap; rw [hy]
      refine ⟨y.toNat, by simp; omega, ?_⟩
      rw [ht, hap] at h0
      rw [if_pos h0.2.2, ih, hyn]
      exact ⟨⟨s', by rw [e]; simp, by simpa using hs⟩, fun k h1 h2 => hk k (by simp at h1; omega) (by simp at h2; omega)⟩

/-- steps that a permutation makes -/
theorem take_succ_gI {q : List Int} {k : Nat} (h : k < q.length) : q.take (k + 1) = q.take k ++ [gI q k] := by rw [List.take_add_one, List.getElem?_eq_getElem h, gI_eq h]; rfl
theorem goOn_perm {N : Nat} {cls : List Int} {cons : List Int → Bool} {q : List Int} (hq : PermL N q) {k : Nat} (hk : k < N) : goOn cls cons (q.take k) (ap q k) ↔ gI cls (ap q k) = gI cls k ∧ cons (q.take (k + 1)) = true := by
  have hkl : k < q.length := by rw [hq.len]; exact hk
  have hl : (q.take k).length = k := by rw [List.length_take]; omega
  unfold goOn
  rw [hl, ← hq.ap_eq hk, ← take_succ_gI hkl]
  have : ¬ gI q k ∈ q.take k := by
    intro h
    obtain ⟨j, hj, e⟩ := List.mem_iff_getElem.1 h
    have hjk : j < k := by rw [hl] at hj; exact hj
    rw [List.getElem_take] at e
    have := gI_inj hq.nd (i := j) (j := k) (by omega) hkl (by rw [gI_eq (by omega)]; exact e)
    omega
  simp [this]
theorem mem_ext0 {N : Nat} {cls : List Int} {cons : List Int → Bool} {q : List Int} : q ∈ extG N cls cons N [] ↔ PermL N q ∧ ∀ k, k < N → gI cls (ap q k) = gI cls k ∧ cons (q.take (k + 1)) = true := by
  rw [mem_extG]
  constructor
  · rintro ⟨⟨s, e, hs⟩, hk⟩
    have e : q = s := by simpa using e
    subst e
    have hp : PermL N q := by
      refine ⟨hs, fun v hv => ?_, ?_⟩
      · obtain ⟨i, hi, rfl⟩ := mem_gI hv
        have := hk i (by simp) (by simp; omega)
        exact ⟨this.1, this.2.1⟩
      · unfold List.Nodup
        rw [List.pairwise_iff_getElem]
        intro i j hi hj hij e
        have hj2 := (hk j (by simp) (by simp; omega))
        have := hj2.2.2.2.1
        refine this ?_
        have ej : ((ap q j : Nat) : Int) = q[j] := by
          have := hj2.1
          unfold ap
          rw [gI_eq hj] at this ⊢; omega
        rw [ej, ← e]
        exact List.mem_iff_getElem.2 ⟨i, by rw [List.length_take]; omega, by rw [List.getElem_take]⟩
    exact ⟨hp, fun k hk' => (goOn_perm hp hk').1 (hk k (by simp) (by simpa using hk')).2.2⟩
  · rintro ⟨hp, h⟩
    refine ⟨⟨q, by simp, hp.len⟩, fun k _ hk => ?_⟩
    have hk : k < N := by simpa using hk
    have := hp.rng _ (gI_mem (p := q) (i := k) (by rw [hp.len]; exact hk))
    exact ⟨this.1, this.2, (goOn_perm hp hk).2 (h k hk)⟩
theorem mem_allS {sc : Sc} {N : Nat} {q : List Int} : q ∈ allS N sc ↔ PermL N q ∧ KeepS (sortsL sc) N q := by
  unfold allS
  rw [mem_ext0]
  exact ⟨fun h => ⟨h.1, fun x hx => (h.2 x hx).1⟩, fun h => ⟨h.1, fun k hk => ⟨h.2 k hk, rfl⟩⟩⟩

/-! ### the pruning -/
theorem maxF_mem {l : List Int} (h : l ≠ []) : maxF l ∈ l := by
  cases l with
  | nil => exact absurd rfl h
  | cons x l =>
    have key : ∀ (l : List Int) (a : Int), l.foldl max a = a ∨ l.foldl max a ∈ l := by
      intro l
      induction l with
      | nil => intro a; exact .inl rfl
      | cons y l ih =>
        intro a
        rw [List.foldl_cons]
        rcases ih (max a y) with h | h
        · rw [h]
          rcases Int.le_total a y with h2 | h2
          · exact .inr (by rw [Int.max_eq_right h2]; simp)
          · exact .inl (Int.max_eq_left h2)
        · exact .inr (by simp [h])
    rcases key l x with h | h
    · show l.foldl max x ∈ x :: l
      rw [h]; simp
    · show l.foldl max x ∈ x :: l
      simp [h]
theorem take_gI {q : List Int} {k x : Nat} (h : x ≤ k) : gI (q.take (k + 1)) x = gI q x := by
  unfold gI; rw [List.getElem?_take, if_pos (by omega)]
theorem cons_iff {N : Nat} {rs : List Rl} (g : ∀ r, r ∈ rs → GRel N r) {q : List Int} (hq : PermL N q) : (∀ k, k < N → consB N rs (q.take (k + 1)) = true) ↔ ∀ r, r ∈ rs → Closed q N r := by
  have img : ∀ (t : Int) (ar k : Nat), 1 ≤ N → (∀ d, d ∈ digN N t ar → d ≤ k) → rankF N ((digN N t ar).map fun x => gI (q.take (k + 1)) x.toNat) = act q N ar t := by
    intro t ar k hN hd
    rw [rankF_val, act, imgN_val]
    congr 1
    refine List.map_congr_left fun x hx => ?_
    have h1 := hd x hx
    have h2 := digN_dg (n := N) (t := t) (by omega) ar x hx
    exact take_gI (by omega)
  have pl : ∀ k, k < N → (q.take (k + 1)).length = k + 1 := fun k hk => by rw [List.length_take, hq.len]; omega
  constructor
  · intro h r hr t ht
    have hN := GRel.pos (g r hr) ht
    have har := (g r hr).ar1
    have hne : digN N t r.ar.toNat ≠ [] := by
      intro e
      have := digN_len N t r.ar.toNat
      rw [e] at this; simp at this; omega
    have hmx := maxF_mem hne
    have hdg := digN_dg (n := N) (t := t) (by omega) r.ar.toNat _ hmx
    obtain ⟨k, hk⟩ := Int.eq_ofNat_of_zero_le hdg.1
    have hkN : k < N := by omega
    have hc := h k hkN
    unfold consB at hc
    rw [List.all_eq_true] at hc
    have hc := hc r hr
    unfold consR at hc
    rw [List.all_eq_true] at hc
    have hc := hc t ht
    unfold cons1 at hc
    rw [Bool.or_eq_true, decide_eq_true_eq, decide_eq_true_eq, pl k hkN, hk] at hc
    rcases hc with hc | hc
    · exact absurd (show (k : Int) = ((k + 1 : Nat) : Int) - 1 by omega) hc
    · rw [img t _ k hN (fun d hd => by have := maxF_le hd; omega)] at hc
      exact hc
  · intro h k hk
    unfold consB
    rw [List.all_eq_true]
    intro r hr
    unfold consR
    rw [List.all_eq_true]
    intro t ht
    have hN := GRel.pos (g r hr) ht
    unfold cons1
    rw [Bool.or_eq_true, decide_eq_true_eq, decide_eq_true_eq, pl k hk]
    by_cases e : maxF (digN N t r.ar.toNat) = ((k + 1 : Nat) : Int) - 1
    · refine .inr ?_
      rw [img t _ k hN (fun d hd => by have := maxF_le hd; omega)]
      exact h r hr t ht
    · exact .inl e
end Go.Proofs.YtiophnmdopoeeaaGreat.L9

set_option linter.unusedVariables false
set_option linter.unusedSimpArgs false
set_option maxRecDepth 100000
namespace Go.Proofs.YtiophnmdopoeeaaGreat.L10
open Go Go.Ev Go.Proofs Go.Proofs.YtiophnmdopoeeaaGreat.C1 Go.Proofs.YtiophnmdopoeeaaGreat.C2 Go.Proofs.YtiophnmdopoeeaaGreat.C3 Go.Proofs.YtiophnmdopoeeaaGreat.C4 Go.Proofs.YtiophnmdopoeeaaGreat.C5 Go.Proofs.YtiophnmdopoeeaaGreat.C6 Go.Proofs.YtiophnmdopoeeaaGreat.C7 Go.Proofs.YtiophnmdopoeeaaGreat.C9 Go.Proofs.YtiophnmdopoeeaaGreat.C10 Go.Proofs.YtiophnmdopoeeaaGreat.C11 Go.Proofs.YtiophnmdopoeeaaGreat.C12 Go.Proofs.YtiophnmdopoeeaaGreat.C13 Go.Proofs.YtiophnmdopoeeaaGreat.C14 Go.Proofs.YtiophnmdopoeeaaGreat.C15 Go.Proofs.YtiophnmdopoeeaaGreat.C16 Go.Proofs.YtiophnmdopoeeaaGreat.C17 Go.Proofs.YtiophnmdopoeeaaGreat.C18 Go.Proofs.YtiophnmdopoeeaaGreat.C19 Go.Proofs.YtiophnmdopoeeaaGreat.C20 Go.Proofs.YtiophnmdopoeeaaGreat.C21 Go.Proofs.YtiophnmdopoeeaaGreat.C22 Go.Proofs.YtiophnmdopoeeaaGreat.C23 Go.Proofs.YtiophnmdopoeeaaGreat.C24 Go.Proofs.YtiophnmdopoeeaaGreat.C25 Go.Proofs.YtiophnmdopoeeaaGreat.C26 Go.Proofs.YtiophnmdopoeeaaGreat.C27 Go.Proofs.YtiophnmdopoeeaaGreat.C28 Go.Proofs.YtiophnmdopoeeaaGreat.C29 Go.Proofs.YtiophnmdopoeeaaGreat.C30 Go.Proofs.YtiophnmdopoeeaaGreat.C31 Go.Proofs.YtiophnmdopoeeaaGreat.C32 Go.Proofs.YtiophnmdopoeeaaGreat.C33 Go.Proofs.YtiophnmdopoeeaaGreat.C34 Go.Proofs.YtiophnmdopoeeaaGreat.C35 Go.Proofs.YtiophnmdopoeeaaGreat.L1 Go.Proofs.YtiophnmdopoeeaaGreat.L2 Go.Proofs.YtiophnmdopoeeaaGreat.L3 Go.Proofs.YtiophnmdopoeeaaGreat.L4 Go.Proofs.YtiophnmdopoeeaaGreat.L5 Go.Proofs.YtiophnmdopoeeaaGreat.L6 Go.Proofs.YtiophnmdopoeeaaGreat.L7 Go.Proofs.YtiophnmdopoeeaaGreat.L8 Go.Proofs.YtiophnmdopoeeaaGreat.L9

/-! ### bounds that fit -/
structure Fit (sp : Sp) (sc : Sc) (bs : List Bd) (most : Int) (N : Nat) : Prop where
  ok : fitsOk sp sc bs most = true
  u : GU sc
  hN : sumI sc.atoms = N
  hsp : sc.atoms.length = sp.sorts.length
  gb : GBs (sumI sc.atoms) bs
  g : ∀ r, r ∈ relsOf bs → GRel N r
  le : (N : Int) ≤ most
  le12 : N ≤ 12
  bl : bs.length = sp.fields.length
  b6 : bs.length ≤ 6
  fit : ∀ p, p ∈ bs.zip sp.fields → fit1 sp sc p.1 p.2 = true
theorem sideOk_grel {sc : Sc} {f : Fld} {r : Rl} (h : sideOk sc f r = true) : GRel (sumI sc.atoms) r := by
  simp only [sideOk, validOk, Bool.and_eq_true, decide_eq_true_eq, List.all_eq_true] at h
  obtain ⟨⟨⟨h1, h2⟩, ⟨⟨⟨⟨⟨h3, h4⟩, h5⟩, h6⟩, h7⟩, h8⟩⟩, _⟩ := h
  refine ⟨h5, h6, h2, fun t ht => ?_, h8⟩
  have := h7 t ht
  unfold powI powN at this
  rw [Int.min_eq_left h6] at this
  exact this
theorem Fit.of {sp : Sp} {sc : Sc} {bs : List Bd} {most : Int} (h : fitsOk sp sc bs most = true) : ∃ N, Fit sp sc bs most N := by
  have h' := h
  simp only [fitsOk, Bool.and_eq_true, decide_eq_true_eq, List.all_eq_true] at h'
  obtain ⟨⟨⟨⟨⟨h1, h2⟩, h3⟩, h4⟩, h5⟩, h6⟩ := h'
  have g := scopeOk_g h2
  have h2' := h2
  simp only [scopeOk, Bool.and_eq_true, decide_eq_true_eq] at h2'
  have h0 : 0 ≤ sumI sc.atoms := (sumI_bounds sc.atoms 5 (fun a ha => g.2 a ha)).1
  obtain ⟨N, hN⟩ := Int.eq_ofNat_of_zero_le h0
  have hrel : ∀ b, b ∈ bs → GRel (sumI sc.atoms) b.lo ∧ GRel (sumI sc.atoms) b.up := by
    intro b hb
    obtain ⟨i, hi, e⟩ := List.mem_iff_getElem.1 hb
    have hi2 : i < sp.fields.length := by omega
    have := h6 (bs[i], sp.fields[i]) (List.mem_iff_getElem.2 ⟨i, by simp; omega, by simp⟩)
    simp only [fit1, Bool.and_eq_true] at this
    rw [← e]
    exact ⟨sideOk_grel this.1.1.2, sideOk_grel this.1.2⟩
  have gb : GBs (sumI sc.atoms) bs := ⟨h5, hrel⟩
  exact ⟨N, h, ⟨g, h0, h2'.2⟩, hN, h2'.1.1.1.1.1, gb, by rw [← hN]; exact gb.rels.2, by omega, by have := h2'.2; omega, h4, h5, h6⟩
theorem Fit.sort {sp : Sp} {sc : Sc} {bs : List Bd} {most : Int} {N : Nat} (F : Fit sp sc bs most N) {x : Nat} (hx : x < N) : 0 ≤ sortU sc x ∧ sortU sc x < sp.sorts.length := by
  have := sortU_range F.u.g (x := (x : Int)) (by omega) (by rw [F.hN]; omega)
  rw [F.hsp] at this; exact this

theorem fixes_iff {sp : Sp} {sc : Sc} {bs : List Bd} {most : Int} {N : Nat} (F : Fit sp sc bs most N) {p : List Int} (hp : PermL N p) : fixesOk sp sc p = true ↔ FixO sp sc N p := by
  unfold fixesOk FixO
  rw [allN_iff, hp.len]
  refine forall_congr' fun x => ?_
  constructor
  · intro h hx
    have h := h hx
    have hs := F.sort hx
    unfold sortU at hs ⊢
    rw [if_neg (by omega)] at hs ⊢
    unfold fix1 at h
    simp only [Bool.not_eq_true', Bool.and_eq_false_iff, decide_eq_false_iff_not] at h
    unfold ordAt
    rcases h with ((h | h) | h) | h
    · exact absurd hs.1 h
    · exact absurd hs.2 h
    · exact .inr h
    · refine .inl ?_
      have h : gI p x = x := Decidable.byContradiction fun hc => h hc
      unfold ap; rw [h]; rfl
  · intro h hx
    have h := h hx
    unfold sortU at h
    rw [if_neg (by omega)] at h
    unfold fix1
    simp only [Bool.not_eq_true', Bool.and_eq_false_iff, decide_eq_false_iff_not]
    rcases h with h | h
    · refine .inr fun hc => hc ?_
      rw [hp.ap_eq hx, h]
    · exact .inl (.inr h)

/-- the group -/
theorem class_fix {sp : Sp} {sc : Sc} {bs : List Bd} {most : Int} {N : Nat} (F : Fit sp sc bs most N) {p : List Int} (hp : PermL N p) (h : ∀ x, x < N → gI (stableS sp sc bs).1 (ap p x) = gI (stableS sp sc bs).1 x) : FixO sp sc N p ∧ KeepS (sortsL sc) N p := by
  obtain ⟨m, _, S⟩ := stableF (sp := sp) F.hN F.g
  have key : ∀ x, x < N → ap p x = x ∨ alike0 sp sc (ap p x) x = true := fun x hx => S.fine0 _ _ (hp.ap_lt hx) hx (h x hx)
  refine ⟨fun x hx => ?_, fun x hx => ?_⟩
  · rcases key x hx with h | h
    · exact .inl h
    · simp only [alike0, Bool.and_eq_true, decide_eq_true_eq, Bool.not_eq_true'] at h
      rw [← h.1]; exact .inr h.2
  · rcases key x hx with h | h
    · rw [h]
    · simp only [alike0, Bool.and_eq_true, decide_eq_true_eq, Bool.not_eq_true'] at h
      rw [sortsL_get F.u.g F.hN (hp.ap_lt hx), sortsL_get F.u.g F.hN hx]; exact h.1
theorem mem_grp {sp : Sp} {sc : Sc} {bs : List Bd} {most : Int} {N : Nat} (F : Fit sp sc bs most N) {q : List Int} : q ∈ grpS sp sc N bs ↔ SymP sc N (relsOf bs) q ∧ FixO sp sc N q := by
  unfold grpS
  rw [mem_ext0]
  constructor
  · rintro ⟨hp, h⟩
    have hc := class_fix F hp fun x hx => (h x hx).1
    exact ⟨⟨hp, hc.2, (cons_iff F.g hp).1 fun k hk => (h k hk).2⟩, hc.1⟩
  · rintro ⟨hs, hf⟩
    have h1 := sym_class F.u.g F.hN F.g hs hf
    have h2 := (cons_iff F.g hs.perm).2 hs.cl
    exact ⟨hs.perm, fun k hk => ⟨h1 k hk, h2 k hk⟩⟩
theorem grp_class {sp : Sp} {sc : Sc} {bs : List Bd} {most : Int} {N : Nat} (F : Fit sp sc bs most N) {q : List Int} (h : q ∈ grpS sp sc N bs) : ∀ x, x < N → gI (stableS sp sc bs).1 (ap q x) = gI (stableS sp sc bs).1 x := by
  have := (mem_grp F).1 h
  exact sym_class F.u.g F.hN F.g this.1 this.2
theorem grp_filter {sp : Sp} {sc : Sc} {bs : List Bd} {most : Int} {N : Nat} (F : Fit sp sc bs most N) : grpS sp sc N bs = (allS N sc).filter fun q => fixesOk sp sc q && symB sc bs q := by
  obtain ⟨m, _, S⟩ := stableF (sp := sp) F.hN F.g
  have h1 : grpS sp sc N bs = (allS N sc).filter fun q => okF (stableS sp sc bs).1 (consB N (relsOf bs)) q 0 N := by
    unfold grpS allS
    refine extG_filter (fun pre y hp hy h => ?_) N [] (by simp)
    refine ⟨?_, h.2.1, rfl⟩
    rcases S.fine0 y pre.length hy hp h.1 with e | e
    · rw [e]
    · simp only [alike0, Bool.and_eq_true, decide_eq_true_eq] at e
      rw [sortsL_get F.u.g F.hN hy, sortsL_get F.u.g F.hN hp]; exact e.1
  rw [h1]
  refine List.filter_congr fun q hq => ?_
  obtain ⟨hp, hk⟩ := mem_allS.1 hq
  rw [Bool.eq_iff_iff, okF_iff, Bool.and_eq_true, fixes_iff F hp, symB_iff F.hN F.g]
  have hgo : (∀ k, 0 ≤ k → k < 0 + N → goOn (stableS sp sc bs).1 (consB N (relsOf bs)) (q.take k) (ap q k)) ↔ ∀ k, k < N → gI (stableS sp sc bs).1 (ap q k) = gI (stableS sp sc bs).1 k ∧ consB N (relsOf bs) (q.take (k + 1)) = true :=
    ⟨fun h k hk => (goOn_perm hp hk).1 (h k (by omega) (by omega)), fun h k _ hk => (goOn_perm hp (by omega)).2 (h k (by omega))⟩
  rw [hgo]
  constructor
  · intro h
    have hc := class_fix F hp fun x hx => (h x hx).1
    exact ⟨hc.1, hp, hk, (cons_iff F.g hp).1 fun k hk => (h k hk).2⟩
  · rintro ⟨hf, hs⟩ k hk'
    exact ⟨sym_class F.u.g F.hN F.g hs hf k hk', (cons_iff F.g hp).2 hs.cl k hk'⟩
theorem FixO.comp {sp : Sp} {sc : Sc} {N : Nat} {p q : List Int} (hp : PermL N p) (hq : PermL N q) (h : FixO sp sc N p) (k : FixO sp sc N q) : FixO sp sc N (composeL p q) := fun x hx => by
  rw [comp_ap hq hx]
  rcases k x hx with e | e
  · rw [e]; exact h x hx
  · exact .inr e
theorem FixO.inv {sp : Sp} {sc : Sc} {N : Nat} {p : List Int} (hp : PermL N p) (h : FixO sp sc N p) (u : GSc sc) (hN : sumI sc.atoms = N) (hk : KeepS (sortsL sc) N p) : FixO sp sc N (invL p) := fun x hx => by
  obtain ⟨h1, h2⟩ := inv_ok hp
  have hl := h1.ap_lt hx
  have e := inv_ap2 hp hx
  rcases h _ hl with k | k
  · rw [e] at k; exact .inl k.symm
  · refine .inr ?_
    have := hk _ hl
    rw [e, sortsL_get u hN hx, sortsL_get u hN hl] at this
    rw [this]; exact k
theorem grp_id {sp : Sp} {sc : Sc} {bs : List Bd} {most : Int} {N : Nat} (F : Fit sp sc bs most N) : idL N ∈ grpS sp sc N bs := (mem_grp F).2 ⟨.id F.g, fun x hx => .inl (ap_id hx)⟩
theorem grp_comp {sp : Sp} {sc : Sc} {bs : List Bd} {most : Int} {N : Nat} (F : Fit sp sc bs most N) {p q : List Int} (hp : p ∈ grpS sp sc N bs) (hq : q ∈ grpS sp sc N bs) : composeL p q ∈ grpS sp sc N bs := by
  obtain ⟨h1, h2⟩ := (mem_grp F).1 hp
  obtain ⟨k1, k2⟩ := (mem_grp F).1 hq
  exact (mem_grp F).2 ⟨.comp F.g h1 k1, FixO.comp h1.perm k1.perm h2 k2⟩
theorem grp_inv {sp : Sp} {sc : Sc} {bs : List Bd} {most : Int} {N : Nat} (F : Fit sp sc bs most N) {p : List Int} (hp : p ∈ grpS sp sc N bs) : invL p ∈ grpS sp sc N bs := by
  obtain ⟨h1, h2⟩ := (mem_grp F).1 hp
  exact (mem_grp F).2 ⟨.inv F.g h1, FixO.inv h1.perm h2 F.u.g F.hN h1.keep⟩
end Go.Proofs.YtiophnmdopoeeaaGreat.L10

set_option linter.unusedVariables false
set_option linter.unusedSimpArgs false
set_option maxRecDepth 100000
namespace Go.Proofs.YtiophnmdopoeeaaGreat.L11
open Go Go.Ev Go.Proofs Go.Proofs.YtiophnmdopoeeaaGreat.C1 Go.Proofs.YtiophnmdopoeeaaGreat.C2 Go.Proofs.YtiophnmdopoeeaaGreat.C3 Go.Proofs.YtiophnmdopoeeaaGreat.C4 Go.Proofs.YtiophnmdopoeeaaGreat.C5 Go.Proofs.YtiophnmdopoeeaaGreat.C6 Go.Proofs.YtiophnmdopoeeaaGreat.C7 Go.Proofs.YtiophnmdopoeeaaGreat.C9 Go.Proofs.YtiophnmdopoeeaaGreat.C10 Go.Proofs.YtiophnmdopoeeaaGreat.C11 Go.Proofs.YtiophnmdopoeeaaGreat.C12 Go.Proofs.YtiophnmdopoeeaaGreat.C13 Go.Proofs.YtiophnmdopoeeaaGreat.C14 Go.Proofs.YtiophnmdopoeeaaGreat.C15 Go.Proofs.YtiophnmdopoeeaaGreat.C16 Go.Proofs.YtiophnmdopoeeaaGreat.C17 Go.Proofs.YtiophnmdopoeeaaGreat.C18 Go.Proofs.YtiophnmdopoeeaaGreat.C19 Go.Proofs.YtiophnmdopoeeaaGreat.C20 Go.Proofs.YtiophnmdopoeeaaGreat.C21 Go.Proofs.YtiophnmdopoeeaaGreat.C22 Go.Proofs.YtiophnmdopoeeaaGreat.C23 Go.Proofs.YtiophnmdopoeeaaGreat.C24 Go.Proofs.YtiophnmdopoeeaaGreat.C25 Go.Proofs.YtiophnmdopoeeaaGreat.C26 Go.Proofs.YtiophnmdopoeeaaGreat.C27 Go.Proofs.YtiophnmdopoeeaaGreat.C28 Go.Proofs.YtiophnmdopoeeaaGreat.C29 Go.Proofs.YtiophnmdopoeeaaGreat.C30 Go.Proofs.YtiophnmdopoeeaaGreat.C31 Go.Proofs.YtiophnmdopoeeaaGreat.C32 Go.Proofs.YtiophnmdopoeeaaGreat.C33 Go.Proofs.YtiophnmdopoeeaaGreat.C34 Go.Proofs.YtiophnmdopoeeaaGreat.C35 Go.Proofs.YtiophnmdopoeeaaGreat.L1 Go.Proofs.YtiophnmdopoeeaaGreat.L2 Go.Proofs.YtiophnmdopoeeaaGreat.L3 Go.Proofs.YtiophnmdopoeeaaGreat.L4 Go.Proofs.YtiophnmdopoeeaaGreat.L5 Go.Proofs.YtiophnmdopoeeaaGreat.L6 Go.Proofs.YtiophnmdopoeeaaGreat.L7 Go.Proofs.YtiophnmdopoeeaaGreat.L8 Go.Proofs.YtiophnmdopoeeaaGreat.L9 Go.Proofs.YtiophnmdopoeeaaGreat.L10

abbrev args3 (sp : Sp) (sc : Sc) (bs : List Bd) : WKs [eSp sp, eSc sc, lBd bs] [eSp sp, eSc sc, lBd bs] := .cons (.hf (hf_eSp sp)) (.cons (.hf (hf_eSc sc)) (.cons (.hf (hf_lBd bs)) .nil))
/-- how many of the first k pass -/
theorem filter_step {α : Type} (l : List α) (f : α → Bool) (k : Nat) (h : k < l.length) : (l.take (k + 1)).filter f = (l.take k).filter f ++ (if f l[k] = true then [l[k]] else []) := by
  rw [List.take_add_one, List.getElem?_eq_getElem h, List.filter_append]
  by_cases hf : f l[k] = true <;> simp [hf]
theorem filter_at {α : Type} (l : List α) (f : α → Bool) (k : Nat) (h : k < l.length) (hf : f l[k] = true) : (l.filter f)[((l.take k).filter f).length]? = some l[k] := by
  have e : l = l.take k ++ l[k] :: l.drop (k + 1) := by rw [← List.drop_eq_getElem_cons h, List.take_append_drop]
  have : l.filter f = (l.take k).filter f ++ l[k] :: (l.drop (k + 1)).filter f := by
    conv => lhs; rw [e]
    rw [List.filter_append, List.filter_cons, if_pos hf]
  rw [this, List.getElem?_append_right (Nat.le_refl _), Nat.sub_self]; rfl
end Go.Proofs.YtiophnmdopoeeaaGreat.L11

set_option linter.unusedVariables false
set_option linter.unusedSimpArgs false
set_option maxRecDepth 100000
namespace Go.Proofs.YtiophnmdopoeeaaGreat.L12
open Go Go.Ev Go.Proofs Go.Proofs.YtiophnmdopoeeaaGreat.C1 Go.Proofs.YtiophnmdopoeeaaGreat.C2 Go.Proofs.YtiophnmdopoeeaaGreat.C3 Go.Proofs.YtiophnmdopoeeaaGreat.C4 Go.Proofs.YtiophnmdopoeeaaGreat.C5 Go.Proofs.YtiophnmdopoeeaaGreat.C6 Go.Proofs.YtiophnmdopoeeaaGreat.C7 Go.Proofs.YtiophnmdopoeeaaGreat.C8 Go.Proofs.YtiophnmdopoeeaaGreat.C9 Go.Proofs.YtiophnmdopoeeaaGreat.C10 Go.Proofs.YtiophnmdopoeeaaGreat.C11 Go.Proofs.YtiophnmdopoeeaaGreat.C12 Go.Proofs.YtiophnmdopoeeaaGreat.C13 Go.Proofs.YtiophnmdopoeeaaGreat.C14 Go.Proofs.YtiophnmdopoeeaaGreat.C15 Go.Proofs.YtiophnmdopoeeaaGreat.C16 Go.Proofs.YtiophnmdopoeeaaGreat.C17 Go.Proofs.YtiophnmdopoeeaaGreat.C18 Go.Proofs.YtiophnmdopoeeaaGreat.C19 Go.Proofs.YtiophnmdopoeeaaGreat.C20 Go.Proofs.YtiophnmdopoeeaaGreat.C21 Go.Proofs.YtiophnmdopoeeaaGreat.C22 Go.Proofs.YtiophnmdopoeeaaGreat.C23 Go.Proofs.YtiophnmdopoeeaaGreat.C24 Go.Proofs.YtiophnmdopoeeaaGreat.C25 Go.Proofs.YtiophnmdopoeeaaGreat.C26 Go.Proofs.YtiophnmdopoeeaaGreat.C27 Go.Proofs.YtiophnmdopoeeaaGreat.C28 Go.Proofs.YtiophnmdopoeeaaGreat.C29 Go.Proofs.YtiophnmdopoeeaaGreat.C30 Go.Proofs.YtiophnmdopoeeaaGreat.C31 Go.Proofs.YtiophnmdopoeeaaGreat.C32 Go.Proofs.YtiophnmdopoeeaaGreat.C33 Go.Proofs.YtiophnmdopoeeaaGreat.C34 Go.Proofs.YtiophnmdopoeeaaGreat.C35 Go.Proofs.YtiophnmdopoeeaaGreat.L1 Go.Proofs.YtiophnmdopoeeaaGreat.L2 Go.Proofs.YtiophnmdopoeeaaGreat.L3 Go.Proofs.YtiophnmdopoeeaaGreat.L4 Go.Proofs.YtiophnmdopoeeaaGreat.L5 Go.Proofs.YtiophnmdopoeeaaGreat.L6 Go.Proofs.YtiophnmdopoeeaaGreat.L7 Go.Proofs.YtiophnmdopoeeaaGreat.L8 Go.Proofs.YtiophnmdopoeeaaGreat.L9 Go.Proofs.YtiophnmdopoeeaaGreat.L10 Go.Proofs.YtiophnmdopoeeaaGreat.L11

/-- the classes are numbered in the order of their first atoms -/
def Canon (N : Nat) (c : List Int) : Prop := ∀ x, x < N → ∀ v : Int, 0 ≤ v → v < gI c x → ∃ y, y < x ∧ gI c y = v
theorem split_canon (c : List Int) (al : Nat → Nat → Bool) : ∀ n, Canon n (splitN c al n).1 ∧ ∀ v : Int, 0 ≤ v → v < (splitN c al n).2 → ∃ y, y < n ∧ gI (splitN c al n).1 y = v
  | 0 => ⟨fun x hx => by omega, fun v h0 h1 => by simp [splitN] at h1; omega⟩
  | n + 1 => by
    obtain ⟨h1, h2⟩ := split_canon c al n
    have ok := splitN_ok c al n
    rw [splitN]
    cases hm : mate c al n n with
    | some z =>
      have hz := mate_lt c al n n z hm
      simp only
      generalize (splitN c al n).1 = l at *
      generalize (splitN c al n).2 = m at *
      refine ⟨fun x hx v h0 hv => ?_, fun v h0 hv => ?_⟩
      · by_cases hxn : x < n
        · rw [gI_app_left (by omega)] at hv
          obtain ⟨y, hy, e⟩ := h1 x hxn v h0 hv
          exact ⟨y, hy, by rw [gI_app_left (by omega)]; exact e⟩
        · have hxe : x = n := by omega
          subst hxe
          have e1 : gI (l ++ [gI l z]) x = gI l z := by simp [gI, ← ok.1]
          rw [e1] at hv
          obtain ⟨y, hy, e⟩ := h1 z hz v h0 hv
          exact ⟨y, by omega, by rw [gI_app_left (by omega)]; exact e⟩
      · obtain ⟨y, hy, e⟩ := h2 v h0 hv
        exact ⟨y, by omega, by rw [gI_app_left (by omega)]; exact e⟩
    | none =>
      simp only
      generalize (splitN c al n).1 = l at *
      generalize (splitN c al n).2 = m at *
      have e1 : gI (l ++ [m]) n = m := by simp [gI, ← ok.1]
      refine ⟨fun x hx v h0 hv => ?_, fun v h0 hv => ?_⟩
      · by_cases hxn : x < n
        · rw [gI_app_left (by omega)] at hv
          obtain ⟨y, hy, e⟩ := h1 x hxn v h0 hv
          exact ⟨y, hy, by rw [gI_app_left (by omega)]; exact e⟩
        · have hxe : x = n := by omega
          subst hxe
          rw [e1] at hv
          obtain ⟨y, hy, e⟩ := h2 v h0 hv
          exact ⟨y, by omega, by rw [gI_app_left (by omega)]; exact e⟩
      · by_cases hvm : v < m
        · obtain ⟨y, hy, e⟩ := h2 v h0 hvm
          exact ⟨y, by omega, by rw [gI_app_left (by omega)]; exact e⟩
        · exact ⟨n, by omega, by rw [e1]; omega⟩
theorem stable_canon {sp : Sp} {sc : Sc} {N : Nat} (hN : sumI sc.atoms = N) (bs : List Bd) : Canon N (stableS sp sc bs).1 := by
  refine stable_ind hN bs (Canon N) ?_ fun c hc _ => ?_
  · unfold cls0
    have e : (sumI sc.atoms).toNat = N := by omega
    rw [e]; exact (split_canon _ _ N).1
  · unfold roundS
    rw [hc]; exact (split_canon _ _ N).1
theorem canon_onto {N : Nat} {c : List Int} (h : Canon N c) (h0 : ∀ x, x < N → 0 ≤ gI c x) : ∀ k, k ≤ N → (∀ x, x < k → gI c x < firstsN c k) ∧ 0 ≤ firstsN c k ∧ ∀ v : Int, 0 ≤ v → v < firstsN c k → ∃ y, y < k ∧ gI c y = v
  | 0, _ => ⟨fun x hx => by omega, by simp [firstsN], fun v h0 h1 => by simp [firstsN] at h1; omega⟩
  | k + 1, hk => by
    obtain ⟨h1, h2, h3⟩ := canon_onto h h0 k (by omega)
    have hk0 := h0 k (by omega)
    rw [firstsN]
    by_cases he : ∃ y, y < k ∧ gI c y = gI c k
    · rw [if_pos he]
      obtain ⟨y, hy, e⟩ := he
      refine ⟨fun x hx => ?_, by omega, fun v hv0 hv => ?_⟩
      · by_cases hxk : x < k
        · have := h1 x hxk; omega
        · have : x = k := by omega
          subst this
          have := h1 y hy; omega
      · obtain ⟨z, hz, e⟩ := h3 v hv0 (by omega)
        exact ⟨z, by omega, e⟩
    · rw [if_neg he]
      have ge : firstsN c k ≤ gI c k := Decidable.byContradiction fun hn => he (h3 _ hk0 (by omega))
      have le : gI c k ≤ firstsN c k := Decidable.byContradiction fun hn => by
        obtain ⟨y, hy, e⟩ := h k (by omega) (firstsN c k) h2 (by omega)
        have := h1 y hy; omega
      refine ⟨fun x hx => ?_, by omega, fun v hv0 hv => ?_⟩
      · by_cases hxk : x < k
        · have := h1 x hxk; omega
        · have : x = k := by omega
          subst this; omega
      · by_cases hvf : v < firstsN c k
        · obtain ⟨z, hz, e⟩ := h3 v hv0 hvf
          exact ⟨z, by omega, e⟩
        · exact ⟨k, by omega, by omega⟩

theorem filt_sorted (cls : List Int) (n : Nat) (c : Int) : (filt cls n c).Pairwise (· < ·) := List.Pairwise.filter _ List.pairwise_lt_range
theorem filt_head {cls : List Int} {n : Nat} {c : Int} (h : 0 < (filt cls n c).length) {y : Nat} (hy : y < n) (e : gI cls y = c) : (filt cls n c)[0] ≤ y := by
  obtain ⟨i, hi, e2⟩ := List.mem_iff_getElem.1 (mem_filt.2 ⟨hy, e⟩)
  by_cases h0 : i = 0
  · subst h0; omega
  · have := List.pairwise_iff_getElem.1 (filt_sorted cls n c) 0 i h hi (by omega); omega

/-- the first atom of a class -/
def fstA (cls : List Int) (n : Nat) (c : Int) : Nat := ((filt cls n c)[0]?).getD 0
theorem fstA_eq {cls : List Int} {n : Nat} {c : Int} (h : 0 < (filt cls n c).length) : fstA cls n c = (filt cls n c)[0] := by simp [fstA, h]

/-- a word's number, by its letters -/
theorem wordF_WD (cls : List Int) (x : Int) (tup : List Int) : wordF cls x tup = (WD cls x tup).foldl (fun o t => 16 * o + t) 0 := by
  unfold wordF WD
  rw [List.foldl_map]; rfl
theorem wordsN_wl {N : Nat} (hN : 1 ≤ N) {r : Rl} (g : GRel N r) (x : Int) (cls : List Int) (w : Int) (hw : 0 ≤ w) : wordsN N r x cls w = ((wl N cls r x).countP fun u => decide (u.foldl (fun o t => 16 * o + t) 0 = w) : Nat) := by
  unfold wordsN wl
  congr 1
  rw [List.countP_map, List.countP_filter]
  refine List.countP_congr fun t ht => ?_
  have hd : digits N r.ar t = digN N t r.ar.toNat := by
    unfold digits
    have h1 := g.ar1
    have h3 := g.ar3
    have e1 : max 1 (N : Int) = N := by omega
    have e2 : powN r.ar = r.ar.toNat := by unfold powN; omega
    rw [e1, e2]
  rw [hd]
  unfold wordOf
  simp only [Function.comp, decide_eq_true_eq, Bool.and_eq_true]
  by_cases hm : x ∈ digN N t r.ar.toNat
  · rw [if_pos hm, wordF_WD]
    exact ⟨fun h => ⟨h, hm⟩, fun h => h.1⟩
  · rw [if_neg hm]
    exact ⟨fun h => by omega, fun h => absurd h.2 hm⟩
theorem alikeR_of {N : Nat} {r : Rl} (g : GRel N r) {cls : List Int} {x y : Nat} (h : (wl N cls r x).Perm (wl N cls r y)) : alikeR N r x y cls = true := by
  unfold alikeR
  rw [List.all_eq_true]
  intro t ht
  have hN := GRel.pos g ht
  have key : ∀ w : Int, same1 N r x y cls w = true := by
    intro w
    unfold same1
    by_cases hw : 0 ≤ w
    · have : wordsN N r x cls w = wordsN N r y cls w := by
        rw [wordsN_wl hN g _ _ _ hw, wordsN_wl hN g _ _ _ hw, h.countP_eq]
      simp [this]
    · simp [hw]
  unfold alike1
  rw [key, key]; rfl
theorem alikeB_of {N : Nat} {bs : List Bd} (g : ∀ r, r ∈ relsOf bs → GRel N r) {cls : List Int} {x y : Nat} (h : AlikeW N (relsOf bs) cls x y) : alikeB N bs x y cls = true := by
  unfold alikeB
  rw [List.all_eq_true]
  intro b hb
  have m1 : b.lo ∈ relsOf bs := by unfold relsOf; exact List.mem_flatMap.2 ⟨b, hb, by simp⟩
  have m2 : b.up ∈ relsOf bs := by unfold relsOf; exact List.mem_flatMap.2 ⟨b, hb, by simp⟩
  rw [alikeR_of (g _ m1) (h _ m1), alikeR_of (g _ m2) (h _ m2)]; rfl
end Go.Proofs.YtiophnmdopoeeaaGreat.L12

set_option linter.unusedVariables false
set_option linter.unusedSimpArgs false
set_option maxRecDepth 100000
namespace Go.Proofs.YtiophnmdopoeeaaGreat.L13
open Go Go.Ev Go.Proofs Go.Proofs.YtiophnmdopoeeaaGreat.C1 Go.Proofs.YtiophnmdopoeeaaGreat.C2 Go.Proofs.YtiophnmdopoeeaaGreat.C3 Go.Proofs.YtiophnmdopoeeaaGreat.C4 Go.Proofs.YtiophnmdopoeeaaGreat.C5 Go.Proofs.YtiophnmdopoeeaaGreat.C6 Go.Proofs.YtiophnmdopoeeaaGreat.C7 Go.Proofs.YtiophnmdopoeeaaGreat.C8 Go.Proofs.YtiophnmdopoeeaaGreat.C9 Go.Proofs.YtiophnmdopoeeaaGreat.C10 Go.Proofs.YtiophnmdopoeeaaGreat.C11 Go.Proofs.YtiophnmdopoeeaaGreat.C12 Go.Proofs.YtiophnmdopoeeaaGreat.C13 Go.Proofs.YtiophnmdopoeeaaGreat.C14 Go.Proofs.YtiophnmdopoeeaaGreat.C15 Go.Proofs.YtiophnmdopoeeaaGreat.C16 Go.Proofs.YtiophnmdopoeeaaGreat.C17 Go.Proofs.YtiophnmdopoeeaaGreat.C18 Go.Proofs.YtiophnmdopoeeaaGreat.C19 Go.Proofs.YtiophnmdopoeeaaGreat.C20 Go.Proofs.YtiophnmdopoeeaaGreat.C21 Go.Proofs.YtiophnmdopoeeaaGreat.C22 Go.Proofs.YtiophnmdopoeeaaGreat.C23 Go.Proofs.YtiophnmdopoeeaaGreat.C24 Go.Proofs.YtiophnmdopoeeaaGreat.C25 Go.Proofs.YtiophnmdopoeeaaGreat.C26 Go.Proofs.YtiophnmdopoeeaaGreat.C27 Go.Proofs.YtiophnmdopoeeaaGreat.C28 Go.Proofs.YtiophnmdopoeeaaGreat.C29 Go.Proofs.YtiophnmdopoeeaaGreat.C30 Go.Proofs.YtiophnmdopoeeaaGreat.C31 Go.Proofs.YtiophnmdopoeeaaGreat.C32 Go.Proofs.YtiophnmdopoeeaaGreat.C33 Go.Proofs.YtiophnmdopoeeaaGreat.C34 Go.Proofs.YtiophnmdopoeeaaGreat.C35 Go.Proofs.YtiophnmdopoeeaaGreat.L1 Go.Proofs.YtiophnmdopoeeaaGreat.L2 Go.Proofs.YtiophnmdopoeeaaGreat.L3 Go.Proofs.YtiophnmdopoeeaaGreat.L4 Go.Proofs.YtiophnmdopoeeaaGreat.L5 Go.Proofs.YtiophnmdopoeeaaGreat.L6 Go.Proofs.YtiophnmdopoeeaaGreat.L7 Go.Proofs.YtiophnmdopoeeaaGreat.L8 Go.Proofs.YtiophnmdopoeeaaGreat.L9 Go.Proofs.YtiophnmdopoeeaaGreat.L10 Go.Proofs.YtiophnmdopoeeaaGreat.L11 Go.Proofs.YtiophnmdopoeeaaGreat.L12

/-- a finite set on which a finite set of operations acts freely, in classes: its size is a multiple -/
theorem lagrange {α γ : Type} [DecidableEq α] (H : List γ) (hH : H.Nodup) (act : γ → α → α) : ∀ (n : Nat) (A : List α), A.length ≤ n → A.Nodup →
    (∀ a, a ∈ A → ∀ h, h ∈ H → act h a ∈ A) → (∀ a, a ∈ A → ∀ h, h ∈ H → ∀ k, k ∈ H → act h a = act k a → h = k) →
    (∀ a, a ∈ A → ∀ b, b ∈ A → ∀ h, h ∈ H → ∀ k, k ∈ H → act h b = act k a → ∃ j, j ∈ H ∧ b = act j a) → (∀ a, a ∈ A → ∃ h, h ∈ H ∧ act h a = a) → ∃ c, A.length = c * H.length
  | 0, A, hl, _, _, _, _, _ => ⟨0, by omega⟩
  | n + 1, A, hl, hn, h1, h2, h3, h4 => by
    cases A with
    | nil => exact ⟨0, by simp⟩
    | cons a A' =>
      have ha : a ∈ a :: A' := by simp
      have hcn : (H.map fun h => act h a).Nodup := by
        unfold List.Nodup
        rw [List.pairwise_map]
        exact List.Pairwise.imp_of_mem (fun {x y} hx hy hne e => hne (h2 a ha x hx y hy e)) hH
      have hperm : ((a :: A').filter fun b => decide (b ∈ H.map fun h => act h a)).Perm (H.map fun h => act h a) := by
        rw [List.perm_ext_iff_of_nodup (hn.filter _) hcn]
        intro b
        rw [List.mem_filter, decide_eq_true_eq]
        refine ⟨fun h => h.2, fun h => ⟨?_, h⟩⟩
        obtain ⟨k, hk, rfl⟩ := List.mem_map.1 h
        exact h1 a ha k hk
      have hlen := List.length_eq_countP_add_countP (fun b => decide (b ∈ H.map fun h => act h a)) (l := a :: A')
      have e1 : (a :: A').countP (fun b => decide (b ∈ H.map fun h => act h a)) = H.length := by
        rw [List.countP_eq_length_filter, hperm.length_eq, List.length_map]
      have hmemA : a ∈ H.map fun h => act h a := by
        obtain ⟨h, hh, e⟩ := h4 a ha
        exact List.mem_map.2 ⟨h, hh, e⟩
      have hHpos : 0 < H.length := by
        rw [← List.length_map (f := fun h => act h a)]
        exact List.length_pos_iff.2 (fun e => by rw [e] at hmemA; simp at hmemA)
      have e2 : (a :: A').countP (fun b => decide (¬ decide (b ∈ H.map fun h => act h a) = true)) = ((a :: A').filter fun b => decide (¬ b ∈ H.map fun h => act h a)).length := by
        rw [List.countP_eq_length_filter]
        simp only [decide_eq_true_eq]
      rw [e1, e2] at hlen
      obtain ⟨c, hc⟩ := lagrange H hH act n ((a :: A').filter fun b => decide (¬ b ∈ H.map fun h => act h a)) (by omega) (hn.filter _) (fun b hb h hh => by
        rw [List.mem_filter, decide_eq_true_eq] at hb ⊢
        refine ⟨h1 b hb.1 h hh, fun hm => hb.2 ?_⟩
        obtain ⟨k, hk, e⟩ := List.mem_map.1 hm
        obtain ⟨j, hj, e2⟩ := h3 a ha b hb.1 h hh k hk e.symm
        exact List.mem_map.2 ⟨j, hj, e2.symm⟩) (fun b hb => h2 b (List.mem_filter.1 hb).1) (fun b hb d hd => h3 b (List.mem_filter.1 hb).1 d (List.mem_filter.1 hd).1) (fun b hb => h4 b (List.mem_filter.1 hb).1)
      exact ⟨c + 1, by rw [hlen, hc, Nat.add_mul]; omega⟩

theorem extG_nodup {N : Nat} {cls : List Int} {cons : List Int → Bool} : ∀ (d : Nat) (p : List Int), (extG N cls cons d p).Nodup
  | 0, p => by simp [extG]
  | d + 1, p => by
    rw [extG]
    unfold List.Nodup
    rw [List.pairwise_flatMap]
    refine ⟨fun y hy => ?_, ?_⟩
    · split
      · exact extG_nodup d _
      · exact List.nodup_nil
    · refine List.Pairwise.imp ?_ (List.nodup_range (n := N))
      intro y z hyz q hq r hr e
      subst e
      by_cases c1 : goOn cls cons p y
      · by_cases c2 : goOn cls cons p z
        · rw [if_pos c1] at hq
          rw [if_pos c2] at hr
          have h1 := extG_step hq
          have h2 := extG_step hr
          exact hyz (h1.2.symm.trans h2.2)
        · rw [if_neg c2] at hr; simp at hr
      · rw [if_neg c1] at hq; simp at hq
theorem grp_nodup (sp : Sp) (sc : Sc) (N : Nat) (bs : List Bd) : (grpS sp sc N bs).Nodup := extG_nodup N []

theorem comp_assoc {N : Nat} {p q r : List Int} (hp : PermL N p) (hq : PermL N q) (hr : PermL N r) : composeL (composeL p q) r = composeL p (composeL q r) :=
  perm_ext (comp_perm (comp_perm hp hq) hr) (comp_perm hp (comp_perm hq hr)) fun x hx => by rw [comp_ap hr hx, comp_ap hq (hr.ap_lt hx), comp_ap (comp_perm hq hr) hx, comp_ap hr hx]
theorem comp_id_l {N : Nat} {p : List Int} (hp : PermL N p) : composeL (idL N) p = p := perm_ext (comp_perm (idL_perm N) hp) hp fun x hx => by rw [comp_ap hp hx, ap_id (hp.ap_lt hx)]
theorem comp_id_r {N : Nat} {p : List Int} (hp : PermL N p) : composeL p (idL N) = p := perm_ext (comp_perm hp (idL_perm N)) hp fun x hx => by rw [comp_ap (idL_perm N) hx, ap_id hx]
theorem comp_inv_l {N : Nat} {p : List Int} (hp : PermL N p) : composeL (invL p) p = idL N := perm_ext (comp_perm (inv_ok hp).1 hp) (idL_perm N) fun x hx => by rw [comp_ap hp hx, (inv_ok hp).2 x hx, ap_id hx]
theorem comp_inv_r {N : Nat} {p : List Int} (hp : PermL N p) : composeL p (invL p) = idL N := perm_ext (comp_perm hp (inv_ok hp).1) (idL_perm N) fun x hx => by rw [comp_ap (inv_ok hp).1 hx, inv_ap2 hp hx, ap_id hx]
/-- a group of permutations that lies in another one -/
theorem lagrangeL {N : Nat} {G M : List (List Int)} (hG : G.Nodup) (hM : M.Nodup) (sub : ∀ q, q ∈ G → q ∈ M) (pM : ∀ q, q ∈ M → PermL N q) (cM : ∀ p, p ∈ M → ∀ q, q ∈ M → composeL p q ∈ M)
    (cG : ∀ p, p ∈ G → ∀ q, q ∈ G → composeL p q ∈ G) (iG : ∀ p, p ∈ G → invL p ∈ G) (idG : idL N ∈ G) : ∃ c, M.length = c * G.length := by
  refine lagrange G hG composeL M.length M (Nat.le_refl _) hM (fun a ha h hh => cM h (sub h hh) a ha) (fun a ha h hh k hk e => ?_) (fun a ha b hb h hh k hk e => ?_) (fun a ha => ⟨_, idG, comp_id_l (pM a ha)⟩)
  · have pa := pM a ha
    have ph := pM h (sub h hh)
    have pk := pM k (sub k hk)
    have : composeL (composeL h a) (invL a) = composeL (composeL k a) (invL a) := by rw [e]
    rwa [comp_assoc ph pa (inv_ok pa).1, comp_assoc pk pa (inv_ok pa).1, comp_inv_r pa, comp_id_r ph, comp_id_r pk] at this
  · have pa := pM a ha
    have pb := pM b hb
    have ph := pM h (sub h hh)
    have pk := pM k (sub k hk)
    refine ⟨composeL (invL h) k, cG _ (iG h hh) _ hk, ?_⟩
    rw [comp_assoc (inv_ok ph).1 pk pa, ← e, ← comp_assoc (inv_ok ph).1 ph pb, comp_inv_l ph, comp_id_l pb]

/-- without the last field -/
def lessSp (sp : Sp) : Sp := { sp with fields := sp.fields.take (sp.fields.length - 1) }
theorem zip_take {α β : Type} : ∀ (n : Nat) (a : List α) (b : List β), (a.take n).zip (b.take n) = (a.zip b).take n
  | 0, a, b => by simp
  | n + 1, [], b => by simp
  | n + 1, _ :: _, [] => by simp
  | n + 1, x :: a, y :: b => by simp [zip_take n a b]
theorem less_fits {sp : Sp} {sc : Sc} {bs : List Bd} {most : Int} (h : fitsOk sp sc bs most = true) : fitsOk (lessSp sp) sc (bs.take (bs.length - 1)) most = true := by
  simp only [fitsOk, Bool.and_eq_true, decide_eq_true_eq] at h ⊢
  obtain ⟨⟨⟨⟨⟨h1, h2⟩, h3⟩, h4⟩, h5⟩, h6⟩ := h
  refine ⟨⟨⟨⟨⟨h1, h2⟩, h3⟩, ?_⟩, ?_⟩, ?_⟩
  · simp [lessSp, h4]
  · simp; omega
  · rw [List.all_eq_true] at h6 ⊢
    intro p hp
    simp only [lessSp] at hp
    rw [← h4, zip_take] at hp
    exact h6 p (List.mem_of_mem_take hp)
theorem less_rels {bs : List Bd} {n : Nat} {r : Rl} (h : r ∈ relsOf (bs.take n)) : r ∈ relsOf bs := by
  unfold relsOf at *
  obtain ⟨b, hb, hr⟩ := List.mem_flatMap.1 h
  exact List.mem_flatMap.2 ⟨b, List.mem_of_mem_take hb, hr⟩
theorem less_class {sp : Sp} {sc : Sc} {bs : List Bd} {N : Nat} (hN : sumI sc.atoms = N) (g : ∀ r, r ∈ relsOf bs → GRel N r) {n x y : Nat} (hx : x < N) (hy : y < N) (h : EQ (stableS sp sc bs).1 x y) : EQ (stableS (lessSp sp) sc (bs.take n)).1 x y := by
  obtain ⟨m, _, S⟩ := stableF (sp := sp) hN g
  have := stable_coarsest (sp := lessSp sp) hN (bs := bs.take n) (fun r hr => g r (less_rels hr)) (idL_perm N) (d := (stableS sp sc bs).1) (fun v hv => (S.rng v hv).1) (Moved.sub g fun r hr => less_rels hr)
    (fun x y hx hy e => by rw [ap_id hx, ap_id hy]; exact S.fine0 x y hx hy e) (fun x y hx hy e => S.stab x y hx hy e) x y hx hy h
  rwa [ap_id hx, ap_id hy] at this
theorem less_grp {sp : Sp} {sc : Sc} {bs : List Bd} {most : Int} {N n : Nat} (F : Fit sp sc bs most N) (F' : Fit (lessSp sp) sc (bs.take n) most N) {q : List Int} (h : q ∈ grpS sp sc N bs) : q ∈ grpS (lessSp sp) sc N (bs.take n) := by
  obtain ⟨h1, h2⟩ := (mem_grp F).1 h
  exact (mem_grp F').2 ⟨⟨h1.perm, h1.keep, fun r hr => h1.cl r (less_rels hr)⟩, h2⟩
end Go.Proofs.YtiophnmdopoeeaaGreat.L13

set_option linter.unusedVariables false
set_option linter.unusedSimpArgs false
set_option maxRecDepth 100000
namespace Go.Proofs.YtiophnmdopoeeaaGreat.L14
open Go Go.Ev Go.Proofs Go.Proofs.YtiophnmdopoeeaaGreat.C1 Go.Proofs.YtiophnmdopoeeaaGreat.C2 Go.Proofs.YtiophnmdopoeeaaGreat.C3 Go.Proofs.YtiophnmdopoeeaaGreat.C4 Go.Proofs.YtiophnmdopoeeaaGreat.C5 Go.Proofs.YtiophnmdopoeeaaGreat.C6 Go.Proofs.YtiophnmdopoeeaaGreat.C7 Go.Proofs.YtiophnmdopoeeaaGreat.C8 Go.Proofs.YtiophnmdopoeeaaGreat.C9 Go.Proofs.YtiophnmdopoeeaaGreat.C10 Go.Proofs.YtiophnmdopoeeaaGreat.C11 Go.Proofs.YtiophnmdopoeeaaGreat.C12 Go.Proofs.YtiophnmdopoeeaaGreat.C13 Go.Proofs.YtiophnmdopoeeaaGreat.C14 Go.Proofs.YtiophnmdopoeeaaGreat.C15 Go.Proofs.YtiophnmdopoeeaaGreat.C16 Go.Proofs.YtiophnmdopoeeaaGreat.C17 Go.Proofs.YtiophnmdopoeeaaGreat.C18 Go.Proofs.YtiophnmdopoeeaaGreat.C19 Go.Proofs.YtiophnmdopoeeaaGreat.C20 Go.Proofs.YtiophnmdopoeeaaGreat.C21 Go.Proofs.YtiophnmdopoeeaaGreat.C22 Go.Proofs.YtiophnmdopoeeaaGreat.C23 Go.Proofs.YtiophnmdopoeeaaGreat.C24 Go.Proofs.YtiophnmdopoeeaaGreat.C25 Go.Proofs.YtiophnmdopoeeaaGreat.C26 Go.Proofs.YtiophnmdopoeeaaGreat.C27 Go.Proofs.YtiophnmdopoeeaaGreat.C28 Go.Proofs.YtiophnmdopoeeaaGreat.C29 Go.Proofs.YtiophnmdopoeeaaGreat.C30 Go.Proofs.YtiophnmdopoeeaaGreat.C31 Go.Proofs.YtiophnmdopoeeaaGreat.C32 Go.Proofs.YtiophnmdopoeeaaGreat.C33 Go.Proofs.YtiophnmdopoeeaaGreat.C34 Go.Proofs.YtiophnmdopoeeaaGreat.C35 Go.Proofs.YtiophnmdopoeeaaGreat.L1 Go.Proofs.YtiophnmdopoeeaaGreat.L2 Go.Proofs.YtiophnmdopoeeaaGreat.L3 Go.Proofs.YtiophnmdopoeeaaGreat.L4 Go.Proofs.YtiophnmdopoeeaaGreat.L5 Go.Proofs.YtiophnmdopoeeaaGreat.L6 Go.Proofs.YtiophnmdopoeeaaGreat.L7 Go.Proofs.YtiophnmdopoeeaaGreat.L8 Go.Proofs.YtiophnmdopoeeaaGreat.L9 Go.Proofs.YtiophnmdopoeeaaGreat.L10 Go.Proofs.YtiophnmdopoeeaaGreat.L11 Go.Proofs.YtiophnmdopoeeaaGreat.L12 Go.Proofs.YtiophnmdopoeeaaGreat.L13

/-- exchanging two atoms -/
theorem swap_len (x y : Int) (n : Nat) : (swapL x y n).length = n := by simp [swapL]
theorem swap_get {x y n z : Nat} (h : z < n) : gI (swapL x y n) z = if z = x then (y : Int) else if z = y then (x : Int) else z := by
  rw [gI_eq (by rw [swap_len]; exact h)]
  simp only [swapL, List.getElem_map, List.getElem_range, swap1, Int.natCast_inj]
theorem swap_perm {N x y : Nat} (hx : x < N) (hy : y < N) : PermL N (swapL x y N) := by
  have hl := swap_len x y N
  refine .of_surj hl (fun v hv => ?_) (fun v h0 h1 => ?_)
  · obtain ⟨i, hi, e⟩ := mem_gI hv
    rw [hl] at hi
    rw [swap_get hi] at e
    split at e
    · omega
    · split at e <;> omega
  · have key : ∀ i, i < N → gI (swapL x y N) i = v → v ∈ swapL x y N := fun i hi e => by rw [← e]; exact gI_mem (by rw [hl]; exact hi)
    by_cases e1 : v = x
    · refine key y hy ?_
      rw [swap_get hy]
      split
      · omega
      · rw [if_pos rfl]; omega
    · by_cases e2 : v = y
      · refine key x hx ?_
        rw [swap_get hx, if_pos rfl]; omega
      · refine key v.toNat (by omega) ?_
        rw [swap_get (by omega), if_neg (by omega), if_neg (by omega)]; omega
theorem swap_ap {N x y z : Nat} (hz : z < N) : ap (swapL x y N) z = if z = x then y else if z = y then x else z := by
  unfold ap
  rw [swap_get hz]
  split
  · omega
  · split <;> omega
theorem swap_comm (x y N : Nat) : swapL x y N = swapL y x N := by
  refine list_ext_gI (by rw [swap_len, swap_len]) fun i hi => ?_
  rw [swap_len] at hi
  rw [swap_get hi, swap_get hi]
  split
  · split
    · omega
    · rfl
  · rfl
theorem swap_conj {N x y z : Nat} (hx : x < N) (hy : y < N) (hz : z < N) (h1 : x ≠ y) (h2 : y ≠ z) (h3 : x ≠ z) :
    composeL (swapL x y N) (composeL (swapL y z N) (swapL x y N)) = swapL x z N := by
  have p1 := swap_perm hx hy
  have p2 := swap_perm hy hz
  refine perm_ext (comp_perm p1 (comp_perm p2 p1)) (swap_perm hx hz) fun v hv => ?_
  rw [comp_ap (comp_perm p2 p1) hv, comp_ap p1 hv, swap_ap hv, swap_ap hv]
  by_cases e1 : v = x
  · rw [if_pos e1, if_pos e1, swap_ap hy, if_pos rfl, swap_ap hz, if_neg (by omega), if_neg (by omega)]
  · rw [if_neg e1, if_neg e1]
    by_cases e2 : v = y
    · rw [if_pos e2, swap_ap hx, if_neg (by omega), if_neg (by omega), swap_ap hx, if_pos rfl, if_neg (by omega)]; exact e2.symm
    · rw [if_neg e2, swap_ap hv, if_neg e2]
      by_cases e3 : v = z
      · rw [if_pos e3, swap_ap hy, if_neg (by omega), if_pos rfl, if_pos e3]
      · rw [if_neg e3, if_neg e3, swap_ap hv, if_neg e1, if_neg e2]
/-- conjugation moves the pair -/
theorem swap_move {N x y : Nat} {p : List Int} (hp : PermL N p) (hx : x < N) (hy : y < N) : composeL (composeL p (swapL x y N)) (invL p) = swapL (ap p x) (ap p y) N := by
  have p1 := swap_perm hx hy
  have pi := (inv_ok hp).1
  refine perm_ext (comp_perm (comp_perm hp p1) pi) (swap_perm (hp.ap_lt hx) (hp.ap_lt hy)) fun v hv => ?_
  obtain ⟨u, hu, rfl⟩ := hp.ap_surj hv
  rw [comp_ap pi hv, (inv_ok hp).2 u hu, comp_ap p1 hu, swap_ap hu, swap_ap hv]
  by_cases e1 : u = x
  · rw [if_pos e1, if_pos (by rw [e1])]
  · rw [if_neg e1, if_neg (fun h => e1 (hp.ap_inj hu hx h))]
    by_cases e2 : u = y
    · rw [if_pos e2, if_pos (by rw [e2])]
    · rw [if_neg e2, if_neg (fun h => e2 (hp.ap_inj hu hy h))]

/-- when a pair is listed -/
theorem swap_cond {sp : Sp} {sc : Sc} {bs : List Bd} {most : Int} {N : Nat} (F : Fit sp sc bs most N) {x y : Nat} (hx : x < N) (hy : y < N) :
    (gI (stableS sp sc bs).1 x = gI (stableS sp sc bs).1 y ∧ symSw sc bs N x y = true) ↔ swapL x y N ∈ grpS sp sc N bs := by
  have hp := swap_perm hx hy
  constructor
  · rintro ⟨h1, h2⟩
    have hs := (symB_iff F.hN F.g).1 h2
    refine (mem_grp F).2 ⟨hs, (class_fix F hp fun z hz => ?_).1⟩
    rw [swap_ap hz]
    split
    · rename_i e; rw [e]; exact h1.symm
    · split
      · rename_i e; rw [e]; exact h1
      · rfl
  · intro h
    refine ⟨?_, (symB_iff F.hN F.g).2 ((mem_grp F).1 h).1⟩
    have := grp_class F h x hx
    rw [swap_ap hx, if_pos rfl] at this
    exact this.symm
theorem stable_len {sp : Sp} {sc : Sc} {bs : List Bd} {most : Int} {N : Nat} (F : Fit sp sc bs most N) : (stableS sp sc bs).1.length = N := by
  obtain ⟨m, _, S⟩ := stableF (sp := sp) F.hN F.g
  exact S.len

theorem row_pre (cls : List Int) (sym : Nat → Nat → Bool) (x : Nat) (l : List (Int × Int)) (j : Nat) : ∀ e, ∃ r, swapRow cls sym x l (j + e) = swapRow cls sym x l j ++ r ∧ ∀ z, z ∈ r → z.1 = (x : Int) ∧ ((x + 1 + j : Nat) : Int) ≤ z.2
  | 0 => ⟨[], by simp, by simp⟩
  | e + 1 => by
    obtain ⟨r, h1, h2⟩ := row_pre cls sym x l j e
    have : swapRow cls sym x l (j + (e + 1)) = if gI cls x = gI cls (x + 1 + (j + e)) ∧ sym x (x + 1 + (j + e)) = true then swapRow cls sym x l (j + e) ++ [((x : Int), ((x + 1 + (j + e) : Nat) : Int))] else swapRow cls sym x l (j + e) := by
      rw [← Nat.add_assoc, swapRow, foldN_succ, ← swapRow]
    rw [this, h1]
    split
    · refine ⟨r ++ [((x : Int), ((x + 1 + (j + e) : Nat) : Int))], by simp, fun z hz => ?_⟩
      rcases List.mem_append.1 hz with h | h
      · exact h2 z h
      · simp at h; rw [h]; exact ⟨rfl, by simp; omega⟩
    · exact ⟨r, rfl, h2⟩
theorem swaps_pre (cls : List Int) (sym : Nat → Nat → Bool) (n k : Nat) : ∀ e, ∃ r, swapsN cls sym n (k + e) = swapsN cls sym n k ++ r ∧ ∀ z, z ∈ r → (k : Int) ≤ z.1
  | 0 => ⟨[], by simp, by simp⟩
  | e + 1 => by
    obtain ⟨r, h1, h2⟩ := swaps_pre cls sym n k e
    have : swapsN cls sym n (k + (e + 1)) = swapRow cls sym (k + e) (swapsN cls sym n (k + e)) (n - (k + e + 1)) := by
      rw [← Nat.add_assoc, swapsN, foldN_succ, ← swapsN]
    obtain ⟨r2, h3, h4⟩ := row_pre cls sym (k + e) (swapsN cls sym n (k + e)) 0 (n - (k + e + 1))
    rw [Nat.zero_add] at h3
    have e0 : swapRow cls sym (k + e) (swapsN cls sym n (k + e)) 0 = swapsN cls sym n (k + e) := rfl
    rw [this, h3, e0, h1]
    refine ⟨r ++ r2, by simp, fun z hz => ?_⟩
    rcases List.mem_append.1 hz with h | h
    · exact h2 z h
    · have := (h4 z h).1; omega
/-- the list of pairs, up to a pair -/
def pairsTo (cls : List Int) (sym : Nat → Nat → Bool) (n x d : Nat) : List (Int × Int) := swapRow cls sym x (swapsN cls sym n x) d
theorem pairsTo_next (cls : List Int) (sym : Nat → Nat → Bool) (n x : Nat) : pairsTo cls sym n x (n - (x + 1)) = pairsTo cls sym n (x + 1) 0 := by
  have e : swapsN cls sym n (x + 1) = swapRow cls sym x (swapsN cls sym n x) (n - (x + 1)) := by rw [swapsN, foldN_succ, ← swapsN]
  unfold pairsTo
  rw [← e]; rfl
theorem pairsTo_zero (cls : List Int) (sym : Nat → Nat → Bool) (n : Nat) : pairsTo cls sym n 0 0 = [] := rfl
theorem pairsTo_last (cls : List Int) (sym : Nat → Nat → Bool) (n : Nat) : pairsTo cls sym n n 0 = swapsN cls sym n n := rfl
theorem pairsTo_step {cls : List Int} {sym : Nat → Nat → Bool} {n x d : Nat} (hx : x < n) (hd : d < n - (x + 1)) :
    ((gI cls x = gI cls (x + 1 + d) ∧ sym x (x + 1 + d) = true) → pairsTo cls sym n x (d + 1) = pairsTo cls sym n x d ++ [((x : Int), ((x + 1 + d : Nat) : Int))] ∧ (swapsN cls sym n n)[(pairsTo cls sym n x d).length]? = some ((x : Int), ((x + 1 + d : Nat) : Int))) ∧
    (¬ (gI cls x = gI cls (x + 1 + d) ∧ sym x (x + 1 + d) = true) → pairsTo cls sym n x (d + 1) = pairsTo cls sym n x d ∧ ∀ z, (swapsN cls sym n n)[(pairsTo cls sym n x d).length]? = some z → z ≠ ((x : Int), ((x + 1 + d : Nat) : Int))) := by
  have hs : pairsTo cls sym n x (d + 1) = if gI cls x = gI cls (x + 1 + d) ∧ sym x (x + 1 + d) = true then pairsTo cls sym n x d ++ [((x : Int), ((x + 1 + d : Nat) : Int))] else pairsTo cls sym n x d := by
    unfold pairsTo
    rw [swapRow, foldN_succ, ← swapRow]
  obtain ⟨r1, h1, h2⟩ := row_pre cls sym x (swapsN cls sym n x) (d + 1) (n - (x + 1) - (d + 1))
  rw [show d + 1 + (n - (x + 1) - (d + 1)) = n - (x + 1) by omega] at h1
  obtain ⟨r2, h3, h4⟩ := swaps_pre cls sym n (x + 1) (n - (x + 1))
  rw [show x + 1 + (n - (x + 1)) = n by omega] at h3
  have e1 : swapsN cls sym n (x + 1) = swapRow cls sym x (swapsN cls sym n x) (n - (x + 1)) := by rw [swapsN, foldN_succ, ← swapsN]
  have hS : swapsN cls sym n n = pairsTo cls sym n x (d + 1) ++ (r1 ++ r2) := by rw [h3, e1, h1, List.append_assoc]; rfl
  refine ⟨fun hc => ?_, fun hc => ?_⟩
  · rw [if_pos hc] at hs
    refine ⟨hs, ?_⟩
    rw [hS, hs, List.append_assoc, List.getElem?_append_right (Nat.le_refl _), Nat.sub_self]; rfl
  · rw [if_neg hc] at hs
    refine ⟨hs, fun z hz e => ?_⟩
    rw [hS, hs, List.getElem?_append_right (Nat.le_refl _), Nat.sub_self] at hz
    have hm : z ∈ r1 ++ r2 := List.mem_of_getElem? hz
    subst e
    rcases List.mem_append.1 hm with h | h
    · have := (h2 _ h).2; simp at this; omega
    · have := h4 _ h; simp at this; omega
theorem mem_row {cls : List Int} {sym : Nat → Nat → Bool} {x : Nat} {l : List (Int × Int)} {z : Int × Int} : ∀ {d}, z ∈ swapRow cls sym x l d ↔ z ∈ l ∨ ∃ e, e < d ∧ (gI cls x = gI cls (x + 1 + e) ∧ sym x (x + 1 + e) = true) ∧ z = ((x : Int), ((x + 1 + e : Nat) : Int))
  | 0 => by simp [swapRow, foldN]
  | d + 1 => by
    have ih := @mem_row cls sym x l z d
    rw [swapRow, foldN_succ, ← swapRow]
    split
    · rename_i hc
      rw [List.mem_append, ih, List.mem_singleton]
      constructor
      · rintro ((h | ⟨e, he, h⟩) | h)
        · exact .inl h
        · exact .inr ⟨e, by omega, h⟩
        · exact .inr ⟨d, by omega, hc, h⟩
      · rintro (h | ⟨e, he, h⟩)
        · exact .inl (.inl h)
        · by_cases hed : e = d
          · subst hed; exact .inr h.2
          · exact .inl (.inr ⟨e, by omega, h⟩)
    · rename_i hc
      rw [ih]
      constructor
      · rintro (h | ⟨e, he, h⟩)
        · exact .inl h
        · exact .inr ⟨e, by omega, h⟩
      · rintro (h | ⟨e, he, h⟩)
        · exact .inl h
        · by_cases hed : e = d
          · subst hed; exact absurd h.1 hc
          · exact .inr ⟨e, by omega, h⟩
theorem mem_swapsN {cls : List Int} {sym : Nat → Nat → Bool} {n : Nat} {z : Int × Int} : ∀ {k}, z ∈ swapsN cls sym n k ↔ ∃ x e, x < k ∧ e < n - (x + 1) ∧ (gI cls x = gI cls (x + 1 + e) ∧ sym x (x + 1 + e) = true) ∧ z = ((x : Int), ((x + 1 + e : Nat) : Int))
  | 0 => by simp [swapsN, foldN]
  | k + 1 => by
    have ih := @mem_swapsN cls sym n z k
    rw [swapsN, foldN_succ, ← swapsN, mem_row, ih]
    constructor
    · rintro (⟨x, e, h1, h2⟩ | ⟨e, h1, h2⟩)
      · exact ⟨x, e, by omega, h2⟩
      · exact ⟨k, e, by omega, h1, h2⟩
    · rintro ⟨x, e, h1, h2⟩
      by_cases hxk : x = k
      · subst hxk; exact .inr ⟨e, h2.1, h2.2⟩
      · exact .inl ⟨x, e, by omega, h2⟩
theorem row_nodup {cls : List Int} {sym : Nat → Nat → Bool} {x : Nat} {l : List (Int × Int)} (hl : l.Nodup) (hx : ∀ z, z ∈ l → z.1 < (x : Int)) : ∀ d, (swapRow cls sym x l d).Nodup
  | 0 => hl
  | d + 1 => by
    have ih := @row_nodup cls sym x l hl hx d
    rw [swapRow, foldN_succ, ← swapRow]
    split
    · rw [List.nodup_append]
      refine ⟨ih, by simp, fun a ha b hb e => ?_⟩
      simp at hb
      rcases mem_row.1 ha with h | ⟨e', he', _, h⟩
      · have := hx a h
        rw [e, hb] at this
        simp at this
      · rw [e, hb] at h
        injection h with h1 h2
        omega
    · exact ih
theorem swapsN_nodup (cls : List Int) (sym : Nat → Nat → Bool) (n : Nat) : ∀ k, (swapsN cls sym n k).Nodup
  | 0 => by simp [swapsN, foldN]
  | k + 1 => by
    rw [swapsN, foldN_succ, ← swapsN]
    refine row_nodup (swapsN_nodup cls sym n k) (fun z hz => ?_) _
    obtain ⟨x, e, h1, _, _, rfl⟩ := mem_swapsN.1 hz
    simp; omega
theorem mem_swaps {sp : Sp} {sc : Sc} {bs : List Bd} {most : Int} {N : Nat} (F : Fit sp sc bs most N) {z : Int × Int} : z ∈ swapsS sp sc bs ↔ ∃ x y : Nat, x < y ∧ y < N ∧ swapL x y N ∈ grpS sp sc N bs ∧ z = ((x : Int), (y : Int)) := by
  unfold swapsS
  rw [stable_len F, mem_swapsN]
  constructor
  · rintro ⟨x, e, h1, h2, h3, h4⟩
    exact ⟨x, x + 1 + e, by omega, by omega, (swap_cond F (by omega) (by omega)).1 h3, h4⟩
  · rintro ⟨x, y, h1, h2, h3, h4⟩
    refine ⟨x, y - (x + 1), by omega, by omega, ?_, ?_⟩
    · rw [show x + 1 + (y - (x + 1)) = y by omega]
      exact (swap_cond F (by omega) (by omega)).2 h3
    · rw [show x + 1 + (y - (x + 1)) = y by omega]; exact h4
theorem swaps_nodup (sp : Sp) (sc : Sc) (bs : List Bd) : (swapsS sp sc bs).Nodup := swapsN_nodup _ _ _ _
end Go.Proofs.YtiophnmdopoeeaaGreat.L14

set_option linter.unusedVariables false
set_option linter.unusedSimpArgs false
set_option maxRecDepth 100000
namespace Go.Proofs.YtiophnmdopoeeaaGreat.L15
open Go Go.Ev Go.Proofs Go.Proofs.YtiophnmdopoeeaaGreat.C1 Go.Proofs.YtiophnmdopoeeaaGreat.C2 Go.Proofs.YtiophnmdopoeeaaGreat.C3 Go.Proofs.YtiophnmdopoeeaaGreat.C4 Go.Proofs.YtiophnmdopoeeaaGreat.C5 Go.Proofs.YtiophnmdopoeeaaGreat.C6 Go.Proofs.YtiophnmdopoeeaaGreat.C7 Go.Proofs.YtiophnmdopoeeaaGreat.C8 Go.Proofs.YtiophnmdopoeeaaGreat.C9 Go.Proofs.YtiophnmdopoeeaaGreat.C10 Go.Proofs.YtiophnmdopoeeaaGreat.C11 Go.Proofs.YtiophnmdopoeeaaGreat.C12 Go.Proofs.YtiophnmdopoeeaaGreat.C13 Go.Proofs.YtiophnmdopoeeaaGreat.C14 Go.Proofs.YtiophnmdopoeeaaGreat.C15 Go.Proofs.YtiophnmdopoeeaaGreat.C16 Go.Proofs.YtiophnmdopoeeaaGreat.C17 Go.Proofs.YtiophnmdopoeeaaGreat.C18 Go.Proofs.YtiophnmdopoeeaaGreat.C19 Go.Proofs.YtiophnmdopoeeaaGreat.C20 Go.Proofs.YtiophnmdopoeeaaGreat.C21 Go.Proofs.YtiophnmdopoeeaaGreat.C22 Go.Proofs.YtiophnmdopoeeaaGreat.C23 Go.Proofs.YtiophnmdopoeeaaGreat.C24 Go.Proofs.YtiophnmdopoeeaaGreat.C25 Go.Proofs.YtiophnmdopoeeaaGreat.C26 Go.Proofs.YtiophnmdopoeeaaGreat.C27 Go.Proofs.YtiophnmdopoeeaaGreat.C28 Go.Proofs.YtiophnmdopoeeaaGreat.C29 Go.Proofs.YtiophnmdopoeeaaGreat.C30 Go.Proofs.YtiophnmdopoeeaaGreat.C31 Go.Proofs.YtiophnmdopoeeaaGreat.C32 Go.Proofs.YtiophnmdopoeeaaGreat.C33 Go.Proofs.YtiophnmdopoeeaaGreat.C34 Go.Proofs.YtiophnmdopoeeaaGreat.C35 Go.Proofs.YtiophnmdopoeeaaGreat.L1 Go.Proofs.YtiophnmdopoeeaaGreat.L2 Go.Proofs.YtiophnmdopoeeaaGreat.L3 Go.Proofs.YtiophnmdopoeeaaGreat.L4 Go.Proofs.YtiophnmdopoeeaaGreat.L5 Go.Proofs.YtiophnmdopoeeaaGreat.L6 Go.Proofs.YtiophnmdopoeeaaGreat.L7 Go.Proofs.YtiophnmdopoeeaaGreat.L8 Go.Proofs.YtiophnmdopoeeaaGreat.L9 Go.Proofs.YtiophnmdopoeeaaGreat.L10 Go.Proofs.YtiophnmdopoeeaaGreat.L11 Go.Proofs.YtiophnmdopoeeaaGreat.L12 Go.Proofs.YtiophnmdopoeeaaGreat.L13 Go.Proofs.YtiophnmdopoeeaaGreat.L14

theorem inj_len {α β : Type} {l : List α} {l' : List β} (f : α → β) (hn : l.Nodup) (hs : ∀ x, x ∈ l → f x ∈ l') (hi : ∀ x, x ∈ l → ∀ y, y ∈ l → f x = f y → x = y) : l.length ≤ l'.length := by
  have hm : (l.map f).Nodup := by
    unfold List.Nodup
    rw [List.pairwise_map]
    exact List.Pairwise.imp_of_mem (fun {x y} hx hy hne e => hne (hi x hx y hy e)) hn
  have := List.Nodup.length_le_of_subset hm (l₂ := l') (fun y hy => by
    obtain ⟨x, hx, rfl⟩ := List.mem_map.1 hy
    exact hs x hx)
  simpa using this

/-- conjugation by a permutation that moves one list of relations to another one -/
theorem SymP.conj {sc : Sc} {N : Nat} {rs rs' : List Rl} (g : ∀ r, r ∈ rs → GRel N r) {p q : List Int} (hp : PermL N p) (hk : KeepS (sortsL sc) N p) (hM : Moved N p rs rs') (h : SymP sc N rs q) : SymP sc N rs' (composeL (composeL p q) (invL p)) := by
  obtain ⟨h1, h2⟩ := inv_ok hp
  have hpq := comp_perm hp h.perm
  refine ⟨comp_perm hpq h1, fun x hx => ?_, fun r' hr' t' ht' => ?_⟩
  · obtain ⟨y, hy, rfl⟩ := hp.ap_surj hx
    rw [comp_ap h1 hx, h2 y hy, comp_ap h.perm hy, hk _ (h.perm.ap_lt hy), h.keep y hy, hk y hy]
  · obtain ⟨r, hr, har, hts⟩ := hM r' hr'
    obtain ⟨t, ht, rfl⟩ := List.mem_map.1 (hts.mem_iff.1 ht')
    have hN := GRel.pos (g r hr) ht
    have hv := (g r hr).val t ht
    rw [har, act_comp hpq h1 hN, ← act_comp h1 hp hN, comp_inv_l hp, act_id hN _ hv.1 hv.2, act_comp hp h.perm hN]
    exact hts.mem_iff.2 (List.mem_map.2 ⟨_, h.cl r hr t ht, rfl⟩)
theorem FixO.conj {sp : Sp} {sc : Sc} {N : Nat} {p q : List Int} (hp : PermL N p) (hq : PermL N q) (h : FixO sp sc N p) (k : FixO sp sc N q) (u : GSc sc) (hN : sumI sc.atoms = N) (hk : KeepS (sortsL sc) N p) : FixO sp sc N (composeL (composeL p q) (invL p)) :=
  FixO.comp (comp_perm hp hq) (inv_ok hp).1 (FixO.comp hp hq h k) (FixO.inv hp h u hN hk)
theorem grp_conj {sp : Sp} {sc : Sc} {bs bs' : List Bd} {most : Int} {N : Nat} (F : Fit sp sc bs most N) (F' : Fit sp sc bs' most N) {p q : List Int} (hp : PermL N p) (hk : KeepS (sortsL sc) N p) (hf : FixO sp sc N p) (hM : Moved N p (relsOf bs) (relsOf bs')) (hq : q ∈ grpS sp sc N bs) :
    composeL (composeL p q) (invL p) ∈ grpS sp sc N bs' := by
  obtain ⟨h1, h2⟩ := (mem_grp F).1 hq
  exact (mem_grp F').2 ⟨SymP.conj F.g hp hk hM h1, FixO.conj hp h1.perm hf h2 F.u.g F.hN hk⟩
theorem grp_le {sp : Sp} {sc : Sc} {bs bs' : List Bd} {most : Int} {N : Nat} (F : Fit sp sc bs most N) (F' : Fit sp sc bs' most N) {p : List Int} (hp : PermL N p) (hk : KeepS (sortsL sc) N p) (hf : FixO sp sc N p) (hM : Moved N p (relsOf bs) (relsOf bs')) :
    (grpS sp sc N bs).length ≤ (grpS sp sc N bs').length := by
  refine inj_len (fun q => composeL (composeL p q) (invL p)) (grp_nodup sp sc N bs) (fun q hq => grp_conj F F' hp hk hf hM hq) fun q hq r hr e => ?_
  have pq := ((mem_grp F).1 hq).1.perm
  have pr := ((mem_grp F).1 hr).1.perm
  obtain ⟨h1, h2⟩ := inv_ok hp
  refine perm_ext pq pr fun x hx => hp.ap_inj (pq.ap_lt hx) (pr.ap_lt hx) ?_
  have : ap (composeL (composeL p q) (invL p)) (ap p x) = ap (composeL (composeL p r) (invL p)) (ap p x) := congrArg (fun z => ap z (ap p x)) e
  rwa [comp_ap h1 (hp.ap_lt hx), comp_ap h1 (hp.ap_lt hx), h2 x hx, comp_ap pq hx, comp_ap pr hx] at this
theorem swaps_le {sp : Sp} {sc : Sc} {bs bs' : List Bd} {most : Int} {N : Nat} (F : Fit sp sc bs most N) (F' : Fit sp sc bs' most N) {p : List Int} (hp : PermL N p) (hk : KeepS (sortsL sc) N p) (hf : FixO sp sc N p) (hM : Moved N p (relsOf bs) (relsOf bs')) :
    (swapsS sp sc bs).length ≤ (swapsS sp sc bs').length := by
  refine inj_len (fun z => (((min (ap p z.1.toNat) (ap p z.2.toNat) : Nat) : Int), ((max (ap p z.1.toNat) (ap p z.2.toNat) : Nat) : Int))) (swaps_nodup sp sc bs) (fun z hz => ?_) fun z hz w hw e => ?_
  · obtain ⟨x, y, hxy, hy, hm, rfl⟩ := (mem_swaps F).1 hz
    have hm2 := grp_conj F F' hp hk hf hM hm
    rw [swap_move hp (by omega) hy] at hm2
    have hne : ap p x ≠ ap p y := fun h => by have := hp.ap_inj (by omega) hy h; omega
    have l1 := hp.ap_lt (x := x) (by omega)
    have l2 := hp.ap_lt hy
    simp only [Int.toNat_natCast]
    refine (mem_swaps F').2 ⟨min (ap p x) (ap p y), max (ap p x) (ap p y), by omega, by omega, ?_, rfl⟩
    by_cases h : ap p x ≤ ap p y
    · rw [Nat.min_eq_left h, Nat.max_eq_right h]; exact hm2
    · rw [Nat.min_eq_right (by omega), Nat.max_eq_left (by omega), swap_comm]; exact hm2
  · obtain ⟨x, y, hxy, hy, _, rfl⟩ := (mem_swaps F).1 hz
    obtain ⟨u, v, huv, hv, _, rfl⟩ := (mem_swaps F).1 hw
    simp only [Int.toNat_natCast, Prod.mk.injEq, Int.natCast_inj] at e
    have i1 := fun h => hp.ap_inj (x := x) (y := u) (by omega) (by omega) h
    have i2 := fun h => hp.ap_inj (x := y) (y := v) (by omega) (by omega) h
    have i3 := fun h => hp.ap_inj (x := x) (y := v) (by omega) (by omega) h
    have i4 := fun h => hp.ap_inj (x := y) (y := u) (by omega) (by omega) h
    generalize ap p x = a at *
    generalize ap p y = b at *
    generalize ap p u = c at *
    generalize ap p v = d at *
    by_cases h1 : a = c
    · have e1 := i1 h1
      have e2 := i2 (by omega)
      rw [e1, e2]
    · have e1 := i3 (by omega)
      have e2 := i4 (by omega)
      omega
/-- .. and so are the classes -/
theorem class_move {sp : Sp} {sc : Sc} {bs bs' : List Bd} {most : Int} {N : Nat} (F : Fit sp sc bs most N) (F' : Fit sp sc bs' most N) {p : List Int} (hp : PermL N p) (hk : KeepS (sortsL sc) N p) (hf : FixO sp sc N p) (hM : Moved N p (relsOf bs) (relsOf bs')) {x y : Nat} (hx : x < N) (hy : y < N)
    (h : EQ (stableS sp sc bs).1 x y) : EQ (stableS sp sc bs').1 (ap p x) (ap p y) := by
  obtain ⟨m, _, S⟩ := stableF (sp := sp) F.hN F.g
  refine stable_coarsest F'.hN F'.g hp (d := (stableS sp sc bs).1) (fun v hv => (S.rng v hv).1) hM (fun x y hx hy e => ?_) S.stab x y hx hy h
  rcases S.fine0 x y hx hy e with h | h
  · exact .inl (by rw [h])
  · refine .inr ?_
    unfold alike0 at h ⊢
    rw [Bool.and_eq_true, decide_eq_true_eq, Bool.not_eq_true'] at h ⊢
    have s1 : sortU sc (ap p x) = sortU sc x := by rw [← sortsL_get F.u.g F.hN (hp.ap_lt hx), ← sortsL_get F.u.g F.hN hx]; exact hk x hx
    have s2 : sortU sc (ap p y) = sortU sc y := by rw [← sortsL_get F.u.g F.hN (hp.ap_lt hy), ← sortsL_get F.u.g F.hN hy]; exact hk y hy
    rw [s1, s2]; exact h

/-- the images of bounds -/
def imgB (p : List Int) (bs : List Bd) : List Bd := bs.map fun b => ⟨relImg p b.lo, relImg p b.up⟩
theorem rels_img (p : List Int) (bs : List Bd) : relsOf (imgB p bs) = (relsOf bs).map (relImg p) := by
  unfold relsOf imgB
  rw [List.flatMap_map, List.map_flatMap]; rfl
theorem digN_at (n t : Int) : ∀ (k j : Nat), j < k → (digN n t k)[k - 1 - j]? = some (divN n t j % n)
  | 0, j, h => by omega
  | k + 1, j, h => by
    rw [digN]
    by_cases hj : j = k
    · subst hj
      simp
    · have := digN_at n t k j (by omega)
      rw [show k + 1 - 1 - j = (k - 1 - j) + 1 by omega, List.getElem?_cons_succ]
      exact this
theorem cols_iff (sc : Sc) (n : Int) : ∀ (l : List Int) (t : Int), colsOk sc n l t = true ↔ ∀ j (h : j < l.length), sortAt sc (divN n t j % n) = l[j]
  | [], t => by simp [colsOk]
  | s :: l, t => by
    have ih := cols_iff sc n l (t / n)
    have hd : ∀ j, divN n t (j + 1) = divN n (t / n) j := by
      intro j
      induction j with
      | zero => rfl
      | succ j ihj => rw [divN, ihj]; rfl
    rw [colsOk, Bool.and_eq_true, ih, decide_eq_true_eq]
    constructor
    · rintro ⟨h1, h2⟩ j hj
      cases j with
      | zero => exact h1
      | succ j => rw [hd]; exact h2 j (by simpa using hj)
    · intro h
      refine ⟨h 0 (by simp), fun j hj => ?_⟩
      have := h (j + 1) (by simpa using hj)
      rw [hd] at this; exact this
theorem act_divN {N : Nat} {p : List Int} (hp : PermL N p) (hN : 1 ≤ N) (k : Nat) (t : Int) {j : Nat} (h : j < k) : divN N (act p N k t) j % N = gI p (divN N t j % N).toNat := by
  have h1 := digN_at N (act p N k t) k j h
  rw [(act_dig hp hN k t).1, List.getElem?_map, digN_at N t k j h] at h1
  simpa using h1.symm
theorem cols_act {sc : Sc} (g : GSc sc) {N : Nat} (hsum : sumI sc.atoms = N) {p : List Int} (hp : PermL N p) (hN : 1 ≤ N) (hk : KeepS (sortsL sc) N p) {l : List Int} {t : Int} (h : colsOk sc N l t = true) : colsOk sc N l (act p N l.length t) = true := by
  rw [cols_iff] at h ⊢
  intro j hj
  rw [act_divN hp hN l.length t hj, ← h j hj]
  have hm0 := Int.emod_nonneg (divN N t j) (show (N : Int) ≠ 0 by omega)
  have hm1 := Int.emod_lt_of_pos (divN N t j) (show (0 : Int) < N by omega)
  generalize divN N t j % N = d at *
  have hd : d.toNat < N := by omega
  have := hk d.toNat hd
  rw [sortsL_get g hsum (hp.ap_lt hd), sortsL_get g hsum hd] at this
  unfold sortU at this
  rw [if_neg (by omega), if_neg (by omega)] at this
  rw [hp.ap_eq hd, this]
  congr 1; omega
theorem img_fit1 {sp : Sp} {sc : Sc} (g : GSc sc) {N : Nat} (hsum : sumI sc.atoms = N) {p : List Int} (hp : PermL N p) (hk : KeepS (sortsL sc) N p) {b : Bd} {f : Fld} (h : fit1 sp sc b f = true) : fit1 sp sc ⟨relImg p b.lo, relImg p b.up⟩ f = true := by
  simp only [fit1, Bool.and_eq_true] at h ⊢
  obtain ⟨⟨⟨h1, h2⟩, h3⟩, h4⟩ := h
  have side : ∀ r : Rl, sideOk sc f r = true → sideOk sc f (relImg p r) = true := by
    intro r hr
    have gr := sideOk_grel hr
    rw [hsum] at gr
    simp only [sideOk, validOk, Bool.and_eq_true, decide_eq_true_eq, List.all_eq_true] at hr ⊢
    obtain ⟨⟨⟨k1, k2⟩, ⟨⟨⟨⟨k3, k4⟩, k5⟩, k6⟩, k7⟩, k8⟩, k9⟩ := hr
    have hmem : ∀ t', t' ∈ (relImg p r).ts ↔ ∃ t, t ∈ r.ts ∧ act p N r.ar.toNat t = t' := by
      intro t'
      unfold relImg
      simp only
      rw [(srtI_perm _).mem_iff, List.mem_map, hp.len]
    refine ⟨⟨⟨k1, ?_⟩, ⟨⟨⟨⟨k3, k4⟩, k5⟩, k6⟩, fun t' ht' => ?_⟩, ?_⟩, ?_⟩
    · unfold relImg
      simp only
      rw [(srtI_perm _).length_eq, List.length_map]; exact k2
    · obtain ⟨t, ht, rfl⟩ := (hmem t').1 ht'
      have hN := GRel.pos gr ht
      have := (act_dig hp hN r.ar.toNat t).2
      refine ⟨this.1, ?_⟩
      show _ < powI (sumI sc.atoms) r.ar
      unfold powI
      rw [hsum, show powN r.ar = r.ar.toNat by unfold powN; omega]
      exact this.2
    · unfold relImg
      simp only
      rw [hp.len]
      exact srtI_strict (img_nodup hp gr)
    · unfold withinOk at k9 ⊢
      rw [List.all_eq_true] at k9 ⊢
      intro t' ht'
      obtain ⟨t, ht, rfl⟩ := (hmem t').1 ht'
      have hN := GRel.pos gr ht
      have := k9 t ht
      have e1 : max 1 (sumI sc.atoms) = (N : Int) := by omega
      rw [e1] at this ⊢
      have hlen : f.sorts.reverse.length = r.ar.toNat := by rw [List.length_reverse]; omega
      rw [← hlen]
      exact cols_act g hsum hp hN hk this
  refine ⟨⟨⟨h1, side _ h2⟩, side _ h3⟩, ?_⟩
  have har : b.lo.ar = b.up.ar := by
    simp only [sideOk, Bool.and_eq_true, decide_eq_true_eq] at h2 h3
    omega
  unfold inOk at h4 ⊢
  rw [List.all_eq_true] at h4 ⊢
  intro t' ht'
  unfold relImg at ht' ⊢
  simp only at ht' ⊢
  rw [(srtI_perm _).mem_iff, List.mem_map] at ht'
  rw [decide_eq_true_eq, (srtI_perm _).mem_iff, List.mem_map]
  obtain ⟨t, ht, rfl⟩ := ht'
  have := h4 t ht
  rw [decide_eq_true_eq] at this
  exact ⟨t, this, by rw [har]⟩
theorem img_fits {sp : Sp} {sc : Sc} {bs : List Bd} {most : Int} {N : Nat} (F : Fit sp sc bs most N) {p : List Int} (hp : PermL N p) (hk : KeepS (sortsL sc) N p) : fitsOk sp sc (imgB p bs) most = true := by
  have h := F.ok
  simp only [fitsOk, Bool.and_eq_true, decide_eq_true_eq] at h ⊢
  obtain ⟨⟨⟨⟨⟨h1, h2⟩, h3⟩, h4⟩, h5⟩, h6⟩ := h
  refine ⟨⟨⟨⟨⟨h1, h2⟩, h3⟩, by simpa [imgB] using h4⟩, by simpa [imgB] using h5⟩, ?_⟩
  rw [List.all_eq_true] at h6 ⊢
  intro q hq
  unfold imgB at hq
  rw [List.zip_map_left, List.mem_map] at hq
  obtain ⟨q0, hq0, rfl⟩ := hq
  exact img_fit1 F.u.g F.hN hp hk (h6 q0 hq0)
theorem Moved.img_inv {N : Nat} {p : List Int} (hp : PermL N p) {rs : List Rl} (g : ∀ r, r ∈ rs → GRel N r) : Moved N (invL p) (rs.map (relImg p)) rs := fun r hr => by
  refine ⟨relImg p r, List.mem_map.2 ⟨r, hr, rfl⟩, rfl, ?_⟩
  unfold relImg
  simp only
  rw [hp.len]
  refine List.Perm.symm (((srtI_perm _).map _).trans ?_)
  rw [List.map_map]
  refine List.Perm.of_eq ?_
  conv => rhs; rw [← List.map_id r.ts]
  refine List.map_congr_left fun t ht => ?_
  have hN := GRel.pos (g r hr) ht
  have hv := (g r hr).val t ht
  show act (invL p) N r.ar.toNat (act p N r.ar.toNat t) = t
  rw [← act_comp (inv_ok hp).1 hp hN, comp_inv_l hp, act_id hN _ hv.1 hv.2]
end Go.Proofs.YtiophnmdopoeeaaGreat.L15

set_option linter.unusedVariables false
set_option linter.unusedSimpArgs false
set_option maxRecDepth 100000
namespace Go.Proofs.YtiophnmdopoeeaaGreat.R1
open Go Go.Ev Go.Proofs Go.Proofs.YtiophnmdopoeeaaGreat.C1 Go.Proofs.YtiophnmdopoeeaaGreat.C2 Go.Proofs.YtiophnmdopoeeaaGreat.C3 Go.Proofs.YtiophnmdopoeeaaGreat.C4 Go.Proofs.YtiophnmdopoeeaaGreat.C5 Go.Proofs.YtiophnmdopoeeaaGreat.C6 Go.Proofs.YtiophnmdopoeeaaGreat.C7 Go.Proofs.YtiophnmdopoeeaaGreat.C8 Go.Proofs.YtiophnmdopoeeaaGreat.C9 Go.Proofs.YtiophnmdopoeeaaGreat.C10 Go.Proofs.YtiophnmdopoeeaaGreat.C11 Go.Proofs.YtiophnmdopoeeaaGreat.C12 Go.Proofs.YtiophnmdopoeeaaGreat.C13 Go.Proofs.YtiophnmdopoeeaaGreat.C14 Go.Proofs.YtiophnmdopoeeaaGreat.C15 Go.Proofs.YtiophnmdopoeeaaGreat.C16 Go.Proofs.YtiophnmdopoeeaaGreat.C17 Go.Proofs.YtiophnmdopoeeaaGreat.C18 Go.Proofs.YtiophnmdopoeeaaGreat.C19 Go.Proofs.YtiophnmdopoeeaaGreat.C20 Go.Proofs.YtiophnmdopoeeaaGreat.C21 Go.Proofs.YtiophnmdopoeeaaGreat.C22 Go.Proofs.YtiophnmdopoeeaaGreat.C23 Go.Proofs.YtiophnmdopoeeaaGreat.C24 Go.Proofs.YtiophnmdopoeeaaGreat.C25 Go.Proofs.YtiophnmdopoeeaaGreat.C26 Go.Proofs.YtiophnmdopoeeaaGreat.C27 Go.Proofs.YtiophnmdopoeeaaGreat.C28 Go.Proofs.YtiophnmdopoeeaaGreat.C29 Go.Proofs.YtiophnmdopoeeaaGreat.C30 Go.Proofs.YtiophnmdopoeeaaGreat.C31 Go.Proofs.YtiophnmdopoeeaaGreat.C32 Go.Proofs.YtiophnmdopoeeaaGreat.C33 Go.Proofs.YtiophnmdopoeeaaGreat.C34 Go.Proofs.YtiophnmdopoeeaaGreat.C35 Go.Proofs.YtiophnmdopoeeaaGreat.L1 Go.Proofs.YtiophnmdopoeeaaGreat.L2 Go.Proofs.YtiophnmdopoeeaaGreat.L3 Go.Proofs.YtiophnmdopoeeaaGreat.L4 Go.Proofs.YtiophnmdopoeeaaGreat.L5 Go.Proofs.YtiophnmdopoeeaaGreat.L6 Go.Proofs.YtiophnmdopoeeaaGreat.L7 Go.Proofs.YtiophnmdopoeeaaGreat.L8 Go.Proofs.YtiophnmdopoeeaaGreat.L9 Go.Proofs.YtiophnmdopoeeaaGreat.L10 Go.Proofs.YtiophnmdopoeeaaGreat.L11 Go.Proofs.YtiophnmdopoeeaaGreat.L12 Go.Proofs.YtiophnmdopoeeaaGreat.L13 Go.Proofs.YtiophnmdopoeeaaGreat.L14 Go.Proofs.YtiophnmdopoeeaaGreat.L15

theorem atoms11 (sc : Sc) (g : GSc sc) : SoundP Tryz.prog 63 [eSc sc] (aI (sumI sc.atoms)) := by
  refine SoundP.of_sound (Sound.of_awp Tryz.call63 Tryz.func63 rfl (Nat.le_of_ble_eq_true (by kernel_rfl)) (by kernel_rfl) (pl := {}) ?_)
  simp [go_sem]
  refine LoopGo.up sc.atoms.length (fun k st => st.tm 1 = .ip [lI sc.atoms, aI sc.steps] ∧ st.tm 3 = aI (sumI (sc.atoms.take k)) ∧ st.tm 4 = aI k ∧ st.mu = []) ?_ ?_
  · simp [go_sem, sumI]
  rintro k st hk ⟨h1, h3, h4, hm⟩
  have hl := g.1
  simp [go_sem, h1, h3, h4, hm]
  refine BrS.intro (fun hlt => ?_) (fun hge => ?_)
  · have hlt : k < sc.atoms.length := by simpa using hlt
    have hs := sumI_take_succ sc.atoms k hlt
    have hb' := g.sum (k + 1)
    rw [hs] at hb'
    simp [go_sem, h1, h3, h4, hm, hlt]
    exact ⟨by rw [hs, wrap_i64 (by omega) (by omega)], wrap_i64 (by omega) (by omega)⟩
  · have hge : k = sc.atoms.length := by simp at hge; omega
    subst hge
    simp [go_sem, h1, h3, h4, hm]
    exact .hf _ (HF.sc _)


theorem sort11 (sc : Sc) (g : GSc sc) (x : Int) (hx : -1000000 ≤ x ∧ x ≤ 1000000) : SoundP Tryz.prog 64 [eSc sc, aI x] (aI (sortAt sc x)) := by
  refine SoundP.of_sound (Sound.of_awp Tryz.call64 Tryz.func64 rfl (Nat.le_of_ble_eq_true (by kernel_rfl)) (by kernel_rfl) (pl := {}) ?_)
  simp [go_sem]
  refine LoopGo.up sc.atoms.length (fun k st => st.tm 2 = .ip [lI sc.atoms, aI sc.steps] ∧ st.tm 5 = aI k ∧ st.mu = [] ∧ ∃ y, st.tm 1 = aI y ∧ sortIn (sc.atoms.drop k) y k = sortAt sc x ∧ y + 5 * k ≥ x ∧ y ≤ x) ?_ ?_
  · simp [go_sem, sortAt]
  rintro k st hk ⟨h1, h3, hm, y, h4, hy, hy1, hy2⟩
  have hl := g.1
  simp [go_sem, h1, h3, h4, hm]
  refine BrS.intro (fun hlt => ?_) (fun hge => ?_)
  · have hlt : k < sc.atoms.length := by simpa using hlt
    have hg := g.get hlt
    rw [sortIn_drop _ _ _ _ hlt] at hy
    simp [go_sem, h1, h3, h4, hm, hlt]
    refine BrS.intro (fun hb => ?_) (fun hb => ?_)
    · simp [go_sem, h1, h3, h4, hm, hlt]
      simp at hb
      rw [if_pos hb] at hy
      rw [← hy]
      exact .hf _ (HF.sc _)
    · simp [go_sem, h1, h3, h4, hm, hlt]
      simp at hb
      rw [if_neg (by omega)] at hy
      rw [wrap_i64 (by omega) (by omega), wrap_i64 (by omega) (by omega)]
      exact ⟨rfl, hy, by omega, by omega⟩
  · have hge : k = sc.atoms.length := by simp at hge; omega
    subst hge
    simp [go_sem, h1, h3, h4, hm]
    simp [sortIn] at hy
    rw [← hy]
    exact .hf _ (HF.sc _)


theorem equal06 (a b : Rl) (hl : a.ts.length ≤ 4611686018427387904) : SoundP Tryz.prog 32 [eRel a, eRel b] (aB (decide (a = b))) := by
  have hab : (a = b) = (a.ar = b.ar ∧ a.ts = b.ts) := by cases a; cases b; simp
  refine SoundP.of_sound (Sound.of_awp Tryz.call32 Tryz.func32 rfl (Nat.le_of_ble_eq_true (by kernel_rfl)) (by kernel_rfl) (pl := {}) ?_)
  by_cases h1 : a.ar = b.ar
  case neg =>
    simp [go_sem, h1, hab]
    exact .hf _ (HF.sc _)
  by_cases h2 : a.ts.length = b.ts.length
  case neg =>
    simp [go_sem, h1, h2]
    rw [decide_eq_false (by rintro rfl; exact h2 rfl)]
    exact .hf _ (HF.sc _)
  simp [go_sem, h1, h2]
  refine LoopGo.up a.ts.length (fun k st => st.tm 2 = .ip [aI a.ar, lI a.ts] ∧ st.tm 3 = .ip [aI b.ar, lI b.ts] ∧ st.tm 5 = aI k ∧ st.mu = [] ∧ ∀ (i : Nat) (h : i < a.ts.length) (h' : i < b.ts.length), i < k → a.ts[i] = b.ts[i]) ?_ ?_
  · simp [go_sem, h1]
  rintro k st hk ⟨e2, e3, e5, hm, he⟩
  by_cases hlt : k < a.ts.length
  · have hlt' : k < b.ts.length := by omega
    by_cases hb : a.ts[k] = b.ts[k]
    · simp [go_sem, e2, e3, e5, hm, hlt]
      refine DrawGo.intro (by kernel_rfl) ?_
      simp [go_sem, e2, e3, e5, hm, hlt, hlt', hb]
      refine ⟨wrap_i64 (by omega) (by omega), fun i h h' hi => ?_⟩
      rcases Nat.lt_succ_iff_lt_or_eq.1 hi with h2 | h2
      · exact he i h h' h2
      · subst h2; exact hb
    · simp [go_sem, e2, e3, e5, hm, hlt]
      refine DrawGo.intro (by kernel_rfl) ?_
      simp [go_sem, e2, e3, e5, hm, hlt, hlt', hb]
      rw [decide_eq_false (by rintro rfl; exact hb rfl)]
      exact .hf _ (HF.sc _)
  · have hge : k = a.ts.length := by omega
    subst hge
    simp [go_sem, e2, e3, e5, hm]
    rw [decide_eq_true (hab ▸ ⟨h1, List.ext_getElem h2 fun i h h' => he i h h' h⟩)]
    exact .hf _ (HF.sc _)



theorem usable11 (sc : Sc) (u : GU sc) : SoundP Tryz.prog 62 [eSc sc] (aB true) := by
  have hg := u.g
  have h12 := u.n12
  refine SoundP.of_sound (Sound.of_awp Tryz.call62 Tryz.func62 rfl (Nat.le_of_ble_eq_true (by kernel_rfl)) (by kernel_rfl) (pl := {}) ?_)
  have hl := hg.1
  simp [go_sem, show ¬ (4 : Int) < sc.atoms.length by omega]
  refine LoopGo.up sc.atoms.length (fun k st => st.tm 1 = .ip [lI sc.atoms, aI sc.steps] ∧ st.tm 3 = aI k ∧ st.mu = []) ?_ ?_
  · simp [go_sem]
  rintro k st hk ⟨e1, e3, hm⟩
  by_cases hlt : k < sc.atoms.length
  · have hv := hg.2 _ (List.getElem_mem hlt)
    simp [go_sem, e1, e3, hm, hlt, show ¬ sc.atoms[k] < 0 by omega, show ¬ (5 : Int) < sc.atoms[k] by omega]
    exact wrap_i64 (by omega) (by omega)
  · simp [go_sem, e1, e3, hm, hlt]
    refine CallStep.pure (atoms11 sc hg) (.cons (.hf (hf_eSc sc)) .nil) ?_
    simp [go_sem, h12]
    exact .hf _ (HF.sc _)

theorem has11 (l : List Int) (x : Int) (hl : l.length ≤ 1000000) : SoundP Tryz.prog 71 [lI l, aI x] (aB (decide (x ∈ l))) := by
  refine SoundP.of_sound (Sound.of_awp Tryz.call71 Tryz.func71 rfl (Nat.le_of_ble_eq_true (by kernel_rfl)) (by kernel_rfl) (pl := {}) ?_)
  simp [go_sem]
  refine LoopGo.up l.length (fun k st => st.tm 0 = lI l ∧ st.tm 1 = aI x ∧ st.tm 5 = aI k ∧ st.mu = [] ∧ ∀ (i : Nat) (h : i < l.length), i < k → l[i] ≠ x) ?_ ?_
  · simp [go_sem]
  rintro k st hk ⟨e0, e1, e5, hm, he⟩
  by_cases hlt : k < l.length
  · by_cases hx : l[k] = x
    · simp [go_sem, e0, e1, e5, hm, hlt, hx]
      rw [decide_eq_true (by rw [← hx]; exact List.getElem_mem hlt)]
      exact .hf _ (HF.sc _)
    · simp [go_sem, e0, e1, e5, hm, hlt, hx]
      refine ⟨wrap_i64 (by omega) (by omega), fun i h hi => ?_⟩
      rcases Nat.lt_succ_iff_lt_or_eq.1 hi with h2 | h2
      · exact he i h h2
      · subst h2; exact hx
  · simp [go_sem, e0, e1, e5, hm, hlt]
    rw [decide_eq_false (fun h => by
      obtain ⟨i, hi, e⟩ := List.mem_iff_getElem.1 h
      exact he i hi (by omega) e)]
    exact .hf _ (HF.sc _)

theorem image11 (p : List Int) (g : GP p) (ar : Nat) (har : ar ≤ 3) (r : Int) (h0 : 0 ≤ r) (h1 : r ≤ 1000000) : SoundP Tryz.prog 65 [aI p.length, lI p, aI ar, aI r] (aI (imgN p p.length r ar)) := by
  refine SoundP.of_sound (Sound.of_awp Tryz.call65 Tryz.func65 rfl (Nat.le_of_ble_eq_true (by kernel_rfl)) (by kernel_rfl) (pl := {}) ?_)
  simp [go_sem]
  refine LoopGo.up ar (fun k st => st.tm 0 = aI p.length ∧ st.tm 1 = lI p ∧ st.tm 2 = aI ar ∧ st.tm 3 = aI (divN p.length r k) ∧ st.tm 9 = aI (imgN p p.length r k) ∧ st.tm 10 = aI ((p.length : Int) ^ k) ∧ st.tm 11 = aI k ∧ st.mu = []) ?_ ?_
  · simp [go_sem, divN, imgN]
  rintro k st hk ⟨e0, e1, e2, e3, e9, e10, e11, hm⟩
  by_cases hlt : k < ar
  · have hp := g.pos
    have hl := g.len
    have hi := imgN_ok g r h0 h1 k (by omega)
    have hi2 := imgN_ok g r h0 h1 (k + 1) (by omega)
    have hd := divN_ok (n := p.length) (by omega) h0 h1 k
    have hd2 := divN_ok (n := p.length) (by omega) h0 h1 (k + 1)
    have m0 := Int.emod_nonneg (divN p.length r k) (show (p.length : Int) ≠ 0 by omega)
    have m1 := Int.emod_lt_of_pos (divN p.length r k) (show 0 < (p.length : Int) by omega)
    have hn : (divN p.length r k % p.length).toNat < p.length := by omega
    have hv := g.val _ (List.getElem_mem hn)
    have hpw := pow_ok (n := p.length) (by omega) (by omega) k (by omega)
    have hpw2 := pow_ok (n := p.length) (by omega) (by omega) (k + 1) (by omega)
    have hI : imgN p p.length r (k + 1) = imgN p p.length r k + p[(divN p.length r k % p.length).toNat] * (p.length : Int) ^ k := by rw [imgN, gI_eq hn]
    have hD : (divN p.length r k).tdiv p.length = divN p.length r (k + 1) := by rw [divN, Int.tdiv_eq_ediv_of_nonneg hd.1]
    have hM : (divN p.length r k).tmod p.length = divN p.length r k % p.length := Int.tmod_eq_emod_of_nonneg hd.1
    have a0 := Int.mul_nonneg hv.1 hpw.1
    have a1 : p[(divN p.length r k % p.length).toNat] * (p.length : Int) ^ k ≤ 20 * 8000 := Int.mul_le_mul hv.2 hpw.2 hpw.1 (by omega)
    rw [Int.pow_succ] at hpw2
    have hne : ¬ p = [] := fun e => by rw [e] at hp; simp at hp
    have hne2 : ¬ (p.length : Int) = 0 := by omega
    simp [go_sem, e0, e1, e2, e3, e9, e10, e11, hm, hlt, show (k : Int) < 3 by omega, hne, hne2, hD, hM, m0, m1, hn]
    rw [Int.pow_succ, hI]
    refine ⟨wrap_i64 (by omega) (by omega), ?_, wrap_i64 (by omega) (by omega), wrap_i64 (by omega) (by omega)⟩
    rw [wrap_i64 (n := p[(divN p.length r k % p.length).toNat] * (p.length : Int) ^ k) (by omega) (by omega), wrap_i64 (by omega) (by omega)]
  · have hge : k = ar := by omega
    subst hge
    simp [go_sem, e0, e1, e2, e3, e9, e10, e11, hm]
    exact .hf _ (HF.sc _)

/-- a number, put in its place -/
def atN (l : List Int) (r : Int) : Nat → Nat
  | 0 => 0
  | n + 1 => if r ≤ gI l n then atN l r n else n + 1
theorem atN_le (l : List Int) (r : Int) : ∀ n, atN l r n ≤ n
  | 0 => Nat.le_refl _
  | n + 1 => by
    have := atN_le l r n
    rw [atN]; split <;> omega
def addL (l : List Int) (r : Int) : List Int := if l[atN l r l.length]? = some r then l else l.take (atN l r l.length) ++ [r] ++ l.drop (atN l r l.length)
theorem addL_len (l : List Int) (r : Int) : (addL l r).length ≤ l.length + 1 := by
  unfold addL
  split
  · omega
  · simp; omega
theorem add06 (l : List Int) (r : Int) (hl : l.length ≤ 1000000) : SoundP Tryz.prog 81 [lI l, aI r] (lI (addL l r)) := by
  refine SoundP.of_sound (Sound.of_awp Tryz.call81 Tryz.func81 rfl (Nat.le_of_ble_eq_true (by kernel_rfl)) (by kernel_rfl) (pl := {}) ?_)
  simp [go_sem]
  refine LoopGo.up l.length (fun k st => st.tm 0 = lI l ∧ st.tm 1 = aI r ∧ st.tm 5 = aI ((l.length - k : Nat) : Int) ∧ st.mu = [] ∧ atN l r l.length = atN l r (l.length - k)) ?_ ?_
  · simp [go_sem]
  rintro k st hk ⟨e0, e1, e5, hm, he⟩
  have hnl : l.length - k ≤ l.length := by omega
  have hk1 : l.length - (k + 1) = l.length - k - 1 := by omega
  have hk2 : 0 < l.length - k → k < l.length := by omega
  generalize hn : l.length - k = n at *
  have hadd : atN l r l.length = n → addL l r = if l[n]? = some r then l else l.take n ++ [r] ++ l.drop n := fun h => by unfold addL; rw [h]
  by_cases hn0 : n = 0
  · have hadd := hadd (by rw [he, hn0]; rfl)
    have z1 : ¬ 0 < n := by omega
    by_cases hc : l[n]? = some r
    · rw [if_pos hc] at hadd
      obtain ⟨hnl2, hce⟩ := List.getElem?_eq_some_iff.1 hc
      simp [go_sem, e0, e1, e5, hm, z1, hnl2, hce]
      rw [hadd]
      exact .hf _ (hf_lI _)
    rw [if_neg hc] at hadd
    have hcf : ∀ h : n < l.length, ¬ l[n] = r := fun h e => hc (by rw [List.getElem?_eq_getElem h, e])
    by_cases hnl2 : n < l.length
    · have hcf := hcf hnl2
      simp [go_sem, e0, e1, e5, hm, z1, hnl2, hcf]
      refine ⟨⟨_, _, ⟨rfl, rfl⟩, (rows_rI l).ok⟩, ?_⟩
      simp only [if_pos hnl]
      simp [go_sem]
      refine AppendStep.ints (lo := 0) (e := 3) (bt := 8) (z := 0) (xs := []) (ys := l.take n) (by simp [go_sem]) (by simp [go_sem]) (by simp [go_sem]) (by omega) (OwnF.lit [] (Nat.zero_le _)) (by simp [rowsOf]) (by simp; omega) ?_
      intro av1 mu1 ho1 _
      simp [go_sem, e0, e1, e5, hm]
      refine AppendStep.ints (lo := 0) (e := 3) (bt := 8) (z := 0) (xs := l.take n) (ys := [r]) (by simp [go_sem]) (by simp [go_sem]) (by simp [go_sem]) (by omega) ho1 (by simp [rowsOf]) (by simp; omega) ?_
      intro av2 mu2 ho2 _
      simp [go_sem, e0, e1, e5, hm]
      refine ⟨⟨_, _, ⟨rfl, rfl⟩, (rows_rI l).ok⟩, ?_⟩
      simp only [if_pos hnl]
      simp [go_sem]
      refine AppendStep.ints (lo := 0) (e := 3) (bt := 8) (z := 0) (xs := l.take n ++ [r]) (ys := l.drop n) (by simp [go_sem]) (by simp [go_sem]) (by simp [go_sem]) (by omega) ho2 (by rw [List.take_of_length_le (by simp)]; simp [rowsOf]) (by simp; omega) ?_
      intro av3 mu3 ho3 _
      simp [go_sem, e0, e1, e5, hm]
      rw [hadd]
      exact ho3.rdI
    · simp [go_sem, e0, e1, e5, hm, z1, hnl2]
      refine ⟨⟨_, _, ⟨rfl, rfl⟩, (rows_rI l).ok⟩, ?_⟩
      simp only [if_pos hnl]
      simp [go_sem]
      refine AppendStep.ints (lo := 0) (e := 3) (bt := 8) (z := 0) (xs := []) (ys := l.take n) (by simp [go_sem]) (by simp [go_sem]) (by simp [go_sem]) (by omega) (OwnF.lit [] (Nat.zero_le _)) (by simp [rowsOf]) (by simp; omega) ?_
      intro av1 mu1 ho1 _
      simp [go_sem, e0, e1, e5, hm]
      refine AppendStep.ints (lo := 0) (e := 3) (bt := 8) (z := 0) (xs := l.take n) (ys := [r]) (by simp [go_sem]) (by simp [go_sem]) (by simp [go_sem]) (by omega) ho1 (by simp [rowsOf]) (by simp; omega) ?_
      intro av2 mu2 ho2 _
      simp [go_sem, e0, e1, e5, hm]
      refine ⟨⟨_, _, ⟨rfl, rfl⟩, (rows_rI l).ok⟩, ?_⟩
      simp only [if_pos hnl]
      simp [go_sem]
      refine AppendStep.ints (lo := 0) (e := 3) (bt := 8) (z := 0) (xs := l.take n ++ [r]) (ys := l.drop n) (by simp [go_sem]) (by simp [go_sem]) (by simp [go_sem]) (by omega) ho2 (by rw [List.take_of_length_le (by simp)]; simp [rowsOf]) (by simp; omega) ?_
      intro av3 mu3 ho3 _
      simp [go_sem, e0, e1, e5, hm]
      rw [hadd]
      exact ho3.rdI
  have z1 : 0 < n := by omega
  have hml : n - 1 < l.length := by omega
  have hw : IntKind.i64.wrap ((n : Int) - 1) = ((n - 1 : Nat) : Int) := by rw [wrap_i64 (by omega) (by omega)]; omega
  have he2 : atN l r n = if r ≤ l[n - 1] then atN l r (n - 1) else n := by
    rw [← gI_eq hml]
    conv => lhs; rw [show n = (n - 1) + 1 by omega, atN]
    split
    · rfl
    · omega
  rw [he2] at he
  by_cases hr : r ≤ l[n - 1]
  · rw [if_pos hr] at he
    simp [go_sem, e0, e1, e5, hm, z1, hw, hml, hr]
    exact ⟨hk2 z1, hk1.symm, by rw [hk1]; exact he⟩
  · rw [if_neg hr] at he
    have hadd := hadd he
    by_cases hc : l[n]? = some r
    · rw [if_pos hc] at hadd
      obtain ⟨hnl2, hce⟩ := List.getElem?_eq_some_iff.1 hc
      simp [go_sem, e0, e1, e5, hm, z1, hw, hml, hr, hnl2, hce]
      rw [hadd]
      exact .hf _ (hf_lI _)
    rw [if_neg hc] at hadd
    have hcf : ∀ h : n < l.length, ¬ l[n] = r := fun h e => hc (by rw [List.getElem?_eq_getElem h, e])
    by_cases hnl2 : n < l.length
    · have hcf := hcf hnl2
      simp [go_sem, e0, e1, e5, hm, z1, hw, hml, hr, hnl2, hcf]
      refine ⟨⟨_, _, ⟨rfl, rfl⟩, (rows_rI l).ok⟩, ?_⟩
      simp only [if_pos hnl]
      simp [go_sem]
      refine AppendStep.ints (lo := 0) (e := 3) (bt := 8) (z := 0) (xs := []) (ys := l.take n) (by simp [go_sem]) (by simp [go_sem]) (by simp [go_sem]) (by omega) (OwnF.lit [] (Nat.zero_le _)) (by simp [rowsOf]) (by simp; omega) ?_
      intro av1 mu1 ho1 _
      simp [go_sem, e0, e1, e5, hm]
      refine AppendStep.ints (lo := 0) (e := 3) (bt := 8) (z := 0) (xs := l.take n) (ys := [r]) (by simp [go_sem]) (by simp [go_sem]) (by simp [go_sem]) (by omega) ho1 (by simp [rowsOf]) (by simp; omega) ?_
      intro av2 mu2 ho2 _
      simp [go_sem, e0, e1, e5, hm]
      refine ⟨⟨_, _, ⟨rfl, rfl⟩, (rows_rI l).ok⟩, ?_⟩
      simp only [if_pos hnl]
      simp [go_sem]
      refine AppendStep.ints (lo := 0) (e := 3) (bt := 8) (z := 0) (xs := l.take n ++ [r]) (ys := l.drop n) (by simp [go_sem]) (by simp [go_sem]) (by simp [go_sem]) (by omega) ho2 (by rw [List.take_of_length_le (by simp)]; simp [rowsOf]) (by simp; omega) ?_
      intro av3 mu3 ho3 _
      simp [go_sem, e0, e1, e5, hm]
      rw [hadd]
      exact ho3.rdI
    · simp [go_sem, e0, e1, e5, hm, z1, hw, hml, hr, hnl2]
      refine ⟨⟨_, _, ⟨rfl, rfl⟩, (rows_rI l).ok⟩, ?_⟩
      simp only [if_pos hnl]
      simp [go_sem]
      refine AppendStep.ints (lo := 0) (e := 3) (bt := 8) (z := 0) (xs := []) (ys := l.take n) (by simp [go_sem]) (by simp [go_sem]) (by simp [go_sem]) (by omega) (OwnF.lit [] (Nat.zero_le _)) (by simp [rowsOf]) (by simp; omega) ?_
      intro av1 mu1 ho1 _
      simp [go_sem, e0, e1, e5, hm]
      refine AppendStep.ints (lo := 0) (e := 3) (bt := 8) (z := 0) (xs := l.take n) (ys := [r]) (by simp [go_sem]) (by simp [go_sem]) (by simp [go_sem]) (by omega) ho1 (by simp [rowsOf]) (by simp; omega) ?_
      intro av2 mu2 ho2 _
      simp [go_sem, e0, e1, e5, hm]
      refine ⟨⟨_, _, ⟨rfl, rfl⟩, (rows_rI l).ok⟩, ?_⟩
      simp only [if_pos hnl]
      simp [go_sem]
      refine AppendStep.ints (lo := 0) (e := 3) (bt := 8) (z := 0) (xs := l.take n ++ [r]) (ys := l.drop n) (by simp [go_sem]) (by simp [go_sem]) (by simp [go_sem]) (by omega) ho2 (by rw [List.take_of_length_le (by simp)]; simp [rowsOf]) (by simp; omega) ?_
      intro av3 mu3 ho3 _
      simp [go_sem, e0, e1, e5, hm]
      rw [hadd]
      exact ho3.rdI

theorem Rd.relF {mu : Mu} {ar : Int} {ts : List Int} {full : Bool} : Rd mu (.agg [aI ar, .lst full (ts.map rI)]) (eRel ⟨ar, ts⟩) := by
  refine .agg _ _ rfl (fun k x y hx hy => ?_)
  match k with
  | 0 => simp at hx hy; subst hx; subst hy; exact .hf _ (HF.sc _)
  | 1 => simp at hx hy; subst hx; subst hy; exact .wk _ full _ (.hf _ (HF.lst fun r hr c hc => by
      obtain ⟨n, _, rfl⟩ := List.mem_map.1 hr
      simp at hc; subst hc; exact HF.sc _))
  | k + 2 => simp at hx
def ofL (ts : List Int) : List Int := ts.foldl addL []
theorem ofL_succ (ts : List Int) (k : Nat) (h : k < ts.length) : ofL (ts.take (k + 1)) = addL (ofL (ts.take k)) ts[k] := by
  unfold ofL
  rw [List.take_add_one, List.getElem?_eq_getElem h, List.foldl_append]; rfl
theorem ofL_len (ts : List Int) : ∀ k, (ofL (ts.take k)).length ≤ k
  | 0 => by simp [ofL]
  | k + 1 => by
    have ih := ofL_len ts k
    by_cases h : k < ts.length
    · rw [ofL_succ ts k h]
      have := addL_len (ofL (ts.take k)) ts[k]
      omega
    · rw [List.take_of_length_le (by omega)]
      rw [List.take_of_length_le (by omega)] at ih
      omega
theorem of06 (ar : Int) (ts : List Int) (hl : ts.length ≤ 100000) : SoundP Tryz.prog 66 [aI ar, lI ts] (eRel ⟨ar, ofL ts⟩) := by
  refine SoundP.of_sound (Sound.of_awp Tryz.call66 Tryz.func66 rfl (Nat.le_of_ble_eq_true (by kernel_rfl)) (by kernel_rfl) (pl := {}) ?_)
  simp [go_sem]
  refine LoopGo.up ts.length (fun k st => st.tm 1 = lI ts ∧ st.tm 4 = .ptr 0 0 ∧ st.tm 5 = .ptr 1 0 ∧ st.tm 6 = aI k ∧ ∃ full, st.mu = [.arr [aI 0, .lst true []], .arr [aI ar, .lst full ((ofL (ts.take k)).map rI)]]) ?_ ?_
  · simp [go_sem, ofL]
  rintro k st hk ⟨e1, e4, e5, e6, full, hm⟩
  have hol := ofL_len ts k
  by_cases hlt : k < ts.length
  · have hs := ofL_succ ts k hlt
    generalize ofL (ts.take k) = cur at *
    simp [go_sem, e1, e4, e5, e6, hm, hlt]
    refine DrawGo.intro (by kernel_rfl) ?_
    simp [go_sem, e1, e4, e5, e6, hm, hlt]
    refine CallStep.pure (add06 cur ts[k] (by omega)) (.cons (WK.ints cur) (.cons (.hf (HF.sc _)) .nil)) ?_
    simp [go_sem, e1, e4, e5, e6, hm, hlt]
    exact ⟨wrap_i64 (by omega) (by omega), by rw [hs]⟩
  · have hge : k = ts.length := by omega
    subst hge
    rw [List.take_length] at hm
    simp [go_sem, e1, e4, e5, e6, hm]
    exact Rd.relF

def relR (p : List Int) (r : Rl) : Rl := ⟨r.ar, ofL (r.ts.map fun t => imgN p p.length t r.ar.toNat)⟩
theorem rel11 (sc : Sc) (p : List Int) (r : Rl) (g : ∀ t, t ∈ r.ts → GP p) (h0 : 0 ≤ r.ar) (h3 : r.ar ≤ 3) (hl : r.ts.length ≤ 100000) (hr : ∀ t, t ∈ r.ts → 0 ≤ t ∧ t ≤ 1000000) : SoundP Tryz.prog 33 [eSc sc, lI p, eRel r] (eRel (relR p r)) := by
  obtain ⟨ar, ts⟩ := r
  obtain ⟨n, rfl⟩ := Int.eq_ofNat_of_zero_le h0
  simp only at hl g hr
  have hn : n ≤ 3 := by simp at h3; omega
  have hrel : relR p ⟨n, ts⟩ = ⟨n, ofL (ts.map fun t => imgN p p.length t n)⟩ := by simp [relR]
  rw [hrel]
  have hLs : ∀ k (h : k < ts.length), (ts.map fun t => imgN p p.length t n).take (k + 1) = (ts.map fun t => imgN p p.length t n).take k ++ [imgN p p.length ts[k] n] := fun k h => by
    rw [List.take_add_one, List.getElem?_eq_getElem (by simpa using h)]; simp
  have hLl : (ts.map fun t => imgN p p.length t n).length = ts.length := by simp
  generalize (ts.map fun t => imgN p p.length t n) = L at *
  clear hrel
  refine SoundP.of_sound (Sound.of_awp Tryz.call33 Tryz.func33 rfl (Nat.le_of_ble_eq_true (by kernel_rfl)) (by kernel_rfl) (pl := {}) ?_)
  simp [go_sem]
  refine LoopGo.upF ts.length (fun k st => st.tm 1 = lI p ∧ st.tm 5 = .ip [aI n, lI ts] ∧ st.tm 6 = .ptr 0 0 ∧ st.tm 8 = aI k ∧ st.mu[0]? = some (.arr [aI 0, .lst true []]) ∧ OwnF 1 st.mu 1 (st.tm 7) ((L.take k).map rI)) ?_ ?_
  · simp [go_sem]
    exact OwnF.lit [] (by simp)
  rintro k st hk ⟨e1, e5, e6, e8, hm, ho⟩
  by_cases hlt : k < ts.length
  · have hg := g _ (List.getElem_mem hlt)
    have hv := hr _ (List.getElem_mem hlt)
    have hs := hLs k hlt
    have hcl : (L.take k).length ≤ k := by simp; omega
    generalize L.take k = cur at *
    simp [go_sem, e1, e5, e6, e8, hlt]
    refine DrawGo.intro (by kernel_rfl) ?_
    simp [go_sem, e1, e5, e6, e8, hlt]
    refine CallStep.pure (image11 p hg n hn ts[k] hv.1 hv.2) (.cons (.hf (HF.sc _)) (.cons (.hf (hf_lI p)) (.cons (.hf (HF.sc _)) (.cons (.hf (HF.sc _)) .nil)))) ?_
    simp [go_sem, e1, e5, e6, e8, hlt]
    refine AppendStep.ints (lo := 1) (e := 3) (bt := 8) (z := 0) (xs := cur) (ys := [imgN p p.length ts[k] n]) (by simp [go_sem]) (by simp [go_sem]) (by simp [go_sem]) (by omega) ho (by simp [rowsOf]) (by simp; omega) ?_
    intro av1 mu1 ho1 hlow
    simp [go_sem, e1, e5, e6, e8, hlt]
    refine ⟨wrap_i64 (by omega) (by omega), by rw [hlow 0 (by omega)]; exact hm, ?_⟩
    rw [← List.map_take, hs]; exact ho1
  · have hge : k = ts.length := by omega
    subst hge
    rw [List.take_of_length_le (by omega)] at ho
    simp [go_sem, e1, e5, e6, e8]
    refine FzQ.own (d := 7) rfl ho (rows_rI _) (fun r hr c hc => by
      obtain ⟨n, _, rfl⟩ := List.mem_map.1 hr
      simp at hc; subst hc; exact HF.sc _) ?_
    intro mu' full hml hmj
    have hm' := (hmj 0 (by omega)).trans hm
    simp [go_sem, e1, e5, e6, e8]
    refine CallStep.pure (of06 n L (by omega)) (.cons (.hf (HF.sc _)) (.cons (WK.ints _) .nil)) ?_
    simp [go_sem, e1, e5, e6, e8, hm']
    rw [List.getElem?_set_self (List.getElem?_eq_some_iff.1 hm').1]
    simp [go_sem]
    exact .hf _ (hf_eRel ⟨n, ofL L⟩)

/-- valid permutations, as they are tested -/
theorem valid_of {sc : Sc} (g : GSc sc) {N : Nat} (hN : sumI sc.atoms = N) {p : List Int} (hl : p.length = N) :
    validP sc p = true ↔ ∀ i (h : i < p.length), 0 ≤ p[i] ∧ p[i] < p.length ∧ sortAt sc p[i] = sortAt sc i ∧ ∀ j (hj : j < i), p[j] ≠ p[i] := by
  rw [validP_iff hN]
  have hs : ∀ x : Nat, x < N → gI (sortsL sc) x = sortAt sc x := fun x hx => by
    rw [sortsL_get g hN hx, sortU, if_neg (by omega)]
  constructor
  · rintro ⟨h1, h2⟩ i h
    have hr := h1.rng _ (List.getElem_mem h)
    have hk := h2 i (by omega)
    have ha := h1.ap_eq (x := i) (by omega)
    have hlt := h1.ap_lt (x := i) (by omega)
    rw [hs _ hlt, hs i (by omega)] at hk
    rw [gI_eq h] at ha
    refine ⟨hr.1, by omega, by rw [ha]; exact hk, fun j hj e => ?_⟩
    exact List.pairwise_iff_getElem.1 h1.nd j i (by omega) h hj e
  · intro h
    have pl : PermL N p := ⟨hl, fun v hv => by
      obtain ⟨i, hi, rfl⟩ := List.mem_iff_getElem.1 hv
      have := h i hi; omega, by
      unfold List.Nodup
      rw [List.pairwise_iff_getElem]
      intro i j hi hj hij
      exact (h j hj).2.2.2 i hij⟩
    refine ⟨pl, fun x hx => ?_⟩
    have hx' : x < p.length := by omega
    rw [hs _ (pl.ap_lt hx), hs x hx, ← (h x hx').2.2.1]
    have := pl.ap_eq hx
    rw [gI_eq hx'] at this
    rw [this]
theorem valid11 (sc : Sc) (u : GU sc) (p : List Int) : SoundP Tryz.prog 31 [eSc sc, lI p] (aB (validP sc p)) := by
  have hg := u.g
  refine SoundP.of_sound (Sound.of_awp Tryz.call31 Tryz.func31 rfl (Nat.le_of_ble_eq_true (by kernel_rfl)) (by kernel_rfl) (pl := {}) ?_)
  simp [go_sem]
  refine CallStep.pure (usable11 sc u) (.cons (.hf (hf_eSc sc)) .nil) ?_
  simp [go_sem]
  refine CallStep.pure (atoms11 sc hg) (.cons (.hf (hf_eSc sc)) .nil) ?_
  obtain ⟨N, hN⟩ := Int.eq_ofNat_of_zero_le u.n0
  have hN12 := u.n12
  by_cases hl : (p.length : Int) = sumI sc.atoms
  case neg =>
    simp [go_sem, hl]
    rw [show validP sc p = false by simp [validP, hl]]
    exact .hf _ (HF.sc _)
  simp [go_sem, hl]
  have hlN : p.length = N := by omega
  have hv := valid_of hg hN hlN
  clear hl
  have no : ¬ (∀ i (h : i < p.length), 0 ≤ p[i] ∧ p[i] < p.length ∧ sortAt sc p[i] = sortAt sc i ∧ ∀ j (hj : j < i), p[j] ≠ p[i]) → validP sc p = false := fun h => by
    rw [← Bool.not_eq_true, hv]; exact h
  refine LoopGo.up N (fun i st => st.tm 1 = lI p ∧ st.tm 2 = .ip [lI sc.atoms, aI sc.steps] ∧ st.tm 5 = aI i ∧ st.mu = [] ∧ ∀ k (h : k < p.length), k < i → 0 ≤ p[k] ∧ p[k] < p.length ∧ sortAt sc p[k] = sortAt sc k ∧ ∀ j (hj : j < k), p[j] ≠ p[k]) ?_ ?_
  · simp [go_sem]
  rintro i st hi ⟨e1, e2, e5, hm, he⟩
  by_cases hiN : i < N
  case neg =>
    simp [go_sem, e1, e2, e5, hm, show ¬ i < p.length by omega]
    rw [hv.2 fun k h => he k h (by omega)]
    exact .hf _ (HF.sc _)
  have hip : i < p.length := by omega
  simp [go_sem, e1, e2, e5, hm, hip]
  refine DrawGo.intro (by kernel_rfl) ?_
  by_cases h1 : p[i] < 0
  · simp [go_sem, e1, e2, e5, hm, hip, h1]
    rw [no fun h => by have := h i hip; omega]
    exact .hf _ (HF.sc _)
  by_cases h2 : (p.length : Int) ≤ p[i]
  · simp [go_sem, e1, e2, e5, hm, hip, h1, h2]
    rw [no fun h => by have := h i hip; omega]
    exact .hf _ (HF.sc _)
  simp [go_sem, e1, e2, e5, hm, hip, h1, h2]
  refine CallStep.pure (sort11 sc hg p[i] (by omega)) (.cons (.hf (hf_eSc sc)) (.cons (.hf (HF.sc _)) .nil)) ?_
  simp [go_sem, e1, e2, e5, hm, hip, h1, h2]
  refine CallStep.pure (sort11 sc hg i (by omega)) (.cons (.hf (hf_eSc sc)) (.cons (.hf (HF.sc _)) .nil)) ?_
  by_cases h3 : sortAt sc p[i] = sortAt sc i
  case neg =>
    simp [go_sem, e1, e2, e5, hm, hip, h1, h2, h3]
    rw [no fun h => h3 (h i hip).2.2.1]
    exact .hf _ (HF.sc _)
  simp [go_sem, e1, e2, e5, hm, hip, h1, h2, h3]
  refine LoopGo.up i (fun k st => st.tm 1 = lI p ∧ st.tm 2 = .ip [lI sc.atoms, aI sc.steps] ∧ st.tm 5 = aI i ∧ st.tm 6 = aI k ∧ st.mu = [] ∧ ∀ j (hj : j < i), j < k → p[j] ≠ p[i]) ?_ ?_
  · simp [go_sem, e1, e2, e5, hm]
  clear e1 e2 e5 hm
  clear st
  rintro k st hk ⟨e1, e2, e5, e6, hm, hk2⟩
  by_cases hki : k < i
  case neg =>
    simp [go_sem, e1, e2, e5, e6, hm, hki]
    refine ⟨hiN, wrap_i64 (by omega) (by omega), fun q h hq => ?_⟩
    rcases Nat.lt_succ_iff_lt_or_eq.1 hq with h4 | h4
    · exact he q h h4
    · subst h4
      exact ⟨by omega, by omega, h3, fun j hj => hk2 j hj (by omega)⟩
  have hkp : k < p.length := by omega
  simp [go_sem, e1, e2, e5, e6, hm, hki]
  refine DrawGo.intro (by kernel_rfl) ?_
  by_cases h4 : p[k] = p[i]
  · simp [go_sem, e1, e2, e5, e6, hm, hki, hip, hkp, h4]
    rw [no fun h => (h i hip).2.2.2 k hki h4]
    exact .hf _ (HF.sc _)
  · simp [go_sem, e1, e2, e5, e6, hm, hki, hip, hkp, h4]
    refine ⟨wrap_i64 (by omega) (by omega), fun j hj hjk => ?_⟩
    rcases Nat.lt_succ_iff_lt_or_eq.1 hjk with h5 | h5
    · exact hk2 j hj h5
    · subst h5; exact h4
end Go.Proofs.YtiophnmdopoeeaaGreat.R1

set_option linter.unusedVariables false
set_option linter.unusedSimpArgs false
set_option maxRecDepth 100000
namespace Go.Proofs.YtiophnmdopoeeaaGreat.R2
open Go Go.Ev Go.Proofs Go.Proofs.YtiophnmdopoeeaaGreat.C1 Go.Proofs.YtiophnmdopoeeaaGreat.C2 Go.Proofs.YtiophnmdopoeeaaGreat.C3 Go.Proofs.YtiophnmdopoeeaaGreat.C4 Go.Proofs.YtiophnmdopoeeaaGreat.C5 Go.Proofs.YtiophnmdopoeeaaGreat.C6 Go.Proofs.YtiophnmdopoeeaaGreat.C7 Go.Proofs.YtiophnmdopoeeaaGreat.C8 Go.Proofs.YtiophnmdopoeeaaGreat.C9 Go.Proofs.YtiophnmdopoeeaaGreat.C10 Go.Proofs.YtiophnmdopoeeaaGreat.C11 Go.Proofs.YtiophnmdopoeeaaGreat.C12 Go.Proofs.YtiophnmdopoeeaaGreat.C13 Go.Proofs.YtiophnmdopoeeaaGreat.C14 Go.Proofs.YtiophnmdopoeeaaGreat.C15 Go.Proofs.YtiophnmdopoeeaaGreat.C16 Go.Proofs.YtiophnmdopoeeaaGreat.C17 Go.Proofs.YtiophnmdopoeeaaGreat.C18 Go.Proofs.YtiophnmdopoeeaaGreat.C19 Go.Proofs.YtiophnmdopoeeaaGreat.C20 Go.Proofs.YtiophnmdopoeeaaGreat.C21 Go.Proofs.YtiophnmdopoeeaaGreat.C22 Go.Proofs.YtiophnmdopoeeaaGreat.C23 Go.Proofs.YtiophnmdopoeeaaGreat.C24 Go.Proofs.YtiophnmdopoeeaaGreat.C25 Go.Proofs.YtiophnmdopoeeaaGreat.C26 Go.Proofs.YtiophnmdopoeeaaGreat.C27 Go.Proofs.YtiophnmdopoeeaaGreat.C28 Go.Proofs.YtiophnmdopoeeaaGreat.C29 Go.Proofs.YtiophnmdopoeeaaGreat.C30 Go.Proofs.YtiophnmdopoeeaaGreat.C31 Go.Proofs.YtiophnmdopoeeaaGreat.C32 Go.Proofs.YtiophnmdopoeeaaGreat.C33 Go.Proofs.YtiophnmdopoeeaaGreat.C34 Go.Proofs.YtiophnmdopoeeaaGreat.C35 Go.Proofs.YtiophnmdopoeeaaGreat.L1 Go.Proofs.YtiophnmdopoeeaaGreat.L2 Go.Proofs.YtiophnmdopoeeaaGreat.L3 Go.Proofs.YtiophnmdopoeeaaGreat.L4 Go.Proofs.YtiophnmdopoeeaaGreat.L5 Go.Proofs.YtiophnmdopoeeaaGreat.L6 Go.Proofs.YtiophnmdopoeeaaGreat.L7 Go.Proofs.YtiophnmdopoeeaaGreat.L8 Go.Proofs.YtiophnmdopoeeaaGreat.L9 Go.Proofs.YtiophnmdopoeeaaGreat.L10 Go.Proofs.YtiophnmdopoeeaaGreat.L11 Go.Proofs.YtiophnmdopoeeaaGreat.L12 Go.Proofs.YtiophnmdopoeeaaGreat.L13 Go.Proofs.YtiophnmdopoeeaaGreat.L14 Go.Proofs.YtiophnmdopoeeaaGreat.L15 Go.Proofs.YtiophnmdopoeeaaGreat.R1

theorem hf_rI {l : List Int} : ∀ r, r ∈ l.map rI → ∀ c, c ∈ r → HF c := fun r hr c hc => by
  obtain ⟨n, _, rfl⟩ := List.mem_map.1 hr
  simp at hc; subst hc; exact HF.sc _
/-- rows of a list of lists -/
theorem rows_lI (L : List (List Int)) : (L.map lI).map (fun c => [c]) = L.map rL := by simp
theorem OwnF.rdCut {R : Nat} {mu : Mu} {av : AV} {q : List Int} (h : OwnF R mu 1 av (q.map rI)) : Rd (cutM (fun i => decide (R ≤ i)) mu 0) av (lI q) := by
  rcases h.1 with e | ⟨b, e, hc⟩
  · rw [e]; exact .wk _ true _ (.hf _ (HF.lst hf_rI))
  · rw [e]
    have hb := h.2.1 _ _ _ _ e
    refine Own.rd (.inr ⟨b, rfl, ?_⟩) (rows_rI q).ok hf_rI
    rw [cutM_get, hc]; simp [hb]
/-- a slice of its own, which is given away, becomes the last row -/
theorem AppendStep.giveL {P : Program} {mu : Mu} {R t t' e bt : Nat} {s av : AV} {L : List (List Int)} {q : List Int} {K : AV → Mu → Prop} (hs : sliceOf P t = some (e, 1, bt)) (hs' : (sliceOf P t').isSome = true) (hz : zeroOf P e = some (.lst true []))
    (hb : bt ≤ 16384) (ho : OwnR mu s (L.map lI)) (hlt : ∀ b, blkOf s = some b → b < R) (hR : R ≤ mu.length) (hp : OwnF R mu 1 av (q.map rI)) (hl : L.length + 1 ≤ 4294967296)
    (k : ∀ mu' s', OwnR mu' s' ((L ++ [q]).map lI) → (∀ i, i < R → blkOf s ≠ some i → mu'[i]? = mu[i]?) → (∀ b, blkOf s' = some b → R ≤ b) → mu.length < mu'.length → K s' mu') : AppendStep P mu #[t, t'] s (.lst true [[av]]) K := by
  refine AppendStep.giveRow (e := e) (bt := bt) (zv := .lst true []) (fun i => decide (R ≤ i)) hs hs' hz rfl rfl hb ho (fun b h => by have := hlt b h; simp; omega) (OwnF.rdCut hp) rfl (by simpa using hl) ?_
  intro mu' h1 h2
  refine k _ _ ?_ (fun i hi hne => h2 i (by omega) (by simp; omega) hne) (fun b hb => by cases hb; omega) (List.getElem?_eq_some_iff.1 h1).1
  rw [List.map_append]
  exact .inr ⟨_, rfl, h1⟩
theorem FzQ.ownR {Q : AExit → St → Prop} {i d : Nat} {s : AV} {L : List (List Int)} {st : St} (hd : st.tm d = s) (ho : OwnR st.mu s (L.map lI)) 
    (k : ∀ mu' full, mu'.length = st.mu.length → (∀ j, blkOf s ≠ some j → mu'[j]? = st.mu[j]?) → Q (.exit i) (st.put (some d) (.lst full (L.map rL)) mu')) : FzQ Q (.exit i) st := by
  rcases ho with ⟨h, he⟩ | ⟨b, h, hc⟩
  · refine FzQ.one (b := st.mu.length) (d := d) (x := .lst true (L.map rL)) ?_ (k _ _ (cutM_len _ _ _) fun j hj => ?_)
    · have : L = [] := by simpa using he
      subst this
      rw [hd, h]
      exact .hf _ (HF.lst fun r hr => by simp at hr)
    · by_cases hjl : j = st.mu.length
      · rw [hjl, List.getElem?_eq_none (by rw [cutM_len]; exact Nat.le_refl _), List.getElem?_eq_none (Nat.le_refl _)]
      · exact cutM_off hjl _
  · refine FzQ.one (b := b) (d := d) (x := .lst false (L.map rL)) ?_ (k _ _ (cutM_len _ _ _) fun j hj => cutM_off (fun e => hj (by rw [h, e]; rfl)) _)
    rw [hd, ← rows_lI]
    exact OwnR.rd (.inr ⟨b, h, by rw [cutM_at]; exact hc⟩) (fun x hx => by
      obtain ⟨n, _, rfl⟩ := List.mem_map.1 hx
      exact hf_lI _)
theorem OwnR.lits {mu : Mu} : OwnR mu (.lst true []) [] := .inl ⟨rfl, rfl⟩

/-- permutations, level by level -/
def stepN (sc : Sc) (i : Nat) (p : List Int) (k : Nat) : List (List Int) := ((List.range k).filter fun x : Nat => decide (sortAt sc x = sortAt sc i ∧ ¬ (x : Int) ∈ p)).map fun (x : Nat) => p ++ [(x : Int)]
theorem stepN_succ (sc : Sc) (i : Nat) (p : List Int) (k : Nat) : stepN sc i p (k + 1) = stepN sc i p k ++ (if sortAt sc k = sortAt sc i ∧ ¬ (k : Int) ∈ p then [p ++ [(k : Int)]] else []) := by
  unfold stepN
  rw [List.range_succ, List.filter_append, List.map_append]
  by_cases h : sortAt sc k = sortAt sc i ∧ ¬ (k : Int) ∈ p <;> simp [h]
theorem stepN_len (sc : Sc) (i : Nat) (p : List Int) (k : Nat) : (stepN sc i p k).length ≤ k := by
  unfold stepN
  have := List.length_filter_le (fun x : Nat => decide (sortAt sc x = sortAt sc i ∧ ¬ (x : Int) ∈ p)) (List.range k)
  simpa using this
def lvl (sc : Sc) (N : Nat) : Nat → List (List Int)
  | 0 => [[]]
  | i + 1 => (lvl sc N i).flatMap fun p => stepN sc i p N
theorem flatMap_len {α β : Type} (f : α → List β) (m : Nat) (h : ∀ a, (f a).length ≤ m) : ∀ l : List α, (l.flatMap f).length ≤ l.length * m
  | [] => by simp
  | a :: l => by
    have := flatMap_len f m h l
    have := h a
    rw [List.flatMap_cons, List.length_append, List.length_cons, Nat.add_mul]; omega
theorem lvl_len (sc : Sc) (N : Nat) : ∀ i, (lvl sc N i).length ≤ N ^ i
  | 0 => by simp [lvl]
  | i + 1 => by
    have := flatMap_len (fun p => stepN sc i p N) N (fun p => stepN_len sc i p N) (lvl sc N i)
    rw [lvl, Nat.pow_succ]
    exact Nat.le_trans this (Nat.mul_le_mul_right N (lvl_len sc N i))
theorem lvl_each (sc : Sc) (N : Nat) : ∀ i q, q ∈ lvl sc N i → q.length = i
  | 0, q, h => by simp [lvl] at h; subst h; rfl
  | i + 1, q, h => by
    rw [lvl, List.mem_flatMap] at h
    obtain ⟨p, hp, h⟩ := h
    unfold stepN at h
    obtain ⟨x, _, rfl⟩ := List.mem_map.1 h
    simp [lvl_each sc N i p hp]
theorem take_flat {α β : Type} (f : α → List β) (l : List α) (k : Nat) (h : k < l.length) : (l.take (k + 1)).flatMap f = (l.take k).flatMap f ++ f l[k] := by
  rw [List.take_add_one, List.getElem?_eq_getElem h, List.flatMap_append]; simp

abbrev rF (f : Bool) (q : List Int) : List AV := [.lst f (q.map rI)]
theorem Rd.flag {mu : Mu} {f full : Bool} {L : List (List Int)} : Rd mu (.lst full (L.map (rF f))) (lL L) := by
  refine .wk _ full _ (.lst full _ _ (by simp) (fun k x y hx hy => ?_) (fun k x y hx hy => ?_))
  · rw [List.getElem?_map] at hx hy
    cases hq : L[k]? with
    | none => rw [hq] at hx; simp at hx
    | some l => rw [hq] at hx hy; simp at hx hy; subst hx; subst hy; rfl
  · have e1 : (L.map (rF f)).flatten = L.map fun l => AV.lst f (l.map rI) := by
      clear hx hy
      induction L with
      | nil => rfl
      | cons a l ih => rw [List.map_cons, List.flatten_cons, ih]; rfl
    have e2 : (L.map rL).flatten = L.map lI := flat_lL L
    rw [e1, List.getElem?_map] at hx
    rw [e2, List.getElem?_map] at hy
    cases hq : L[k]? with
    | none => rw [hq] at hx; simp at hx
    | some l => rw [hq] at hx hy; simp at hx hy; subst hx; subst hy; exact .wk _ f _ (.hf _ (HF.lst hf_rI))
theorem all11 (sc : Sc) (u : GU sc) (N : Nat) (hN : sumI sc.atoms = N) (hN6 : N ≤ 6) : SoundP Tryz.prog 39 [eSc sc] (lL (lvl sc N N)) := by
  have hg := u.g
  have hpow : ∀ i, i ≤ N → N ^ i ≤ 46656 := fun i hi => by
    have h1 : N ^ i ≤ 6 ^ i := Nat.pow_le_pow_left hN6 i
    have h2 : 6 ^ i ≤ 6 ^ 6 := Nat.pow_le_pow_right (by omega) (by omega)
    omega
  refine SoundP.of_sound (Sound.of_awp Tryz.call39 Tryz.func39 rfl (Nat.le_of_ble_eq_true (by kernel_rfl)) (by kernel_rfl) (pl := {}) ?_)
  simp [go_sem]
  refine CallStep.pure (atoms11 sc hg) (.cons (.hf (hf_eSc sc)) .nil) ?_
  rw [hN]
  simp [go_sem]
  refine LoopGo.up N (fun i st => ∃ full f, st.tm 1 = .ip [lI sc.atoms, aI sc.steps] ∧ st.tm 3 = .lst full ((lvl sc N i).map (rF f)) ∧ st.tm 4 = aI N ∧ st.tm 5 = aI i) ?_ ?_
  · simp [go_sem, lvl, rF]
  rintro i st hi ⟨full, f, e1, e3, e4, e5⟩
  by_cases hiN : i < N
  case neg =>
    have hge : i = N := by omega
    subst hge
    simp [go_sem, e1, e3, e4, e5]
    exact Rd.flag
  have hll := lvl_len sc N i
  have hp1 := hpow i (by omega)
  have hp2 := hpow (i + 1) (by omega)
  have heach := lvl_each sc N i
  have hfl : ∀ k, ((lvl sc N i).take k).flatMap (fun p => stepN sc i p N) = ((lvl sc N i).take k).flatMap (fun p => stepN sc i p N) := fun k => rfl
  have hnext : lvl sc N (i + 1) = (lvl sc N i).flatMap fun p => stepN sc i p N := rfl
  generalize lvl sc N i = L at *
  simp [go_sem, e1, e3, e4, e5, hiN, show (i : Int) < 12 by omega]
  refine LoopGo.upF L.length (fun k st => st.tm 1 = .ip [lI sc.atoms, aI sc.steps] ∧ st.tm 3 = .lst full (L.map (rF f)) ∧ st.tm 4 = aI N ∧ st.tm 5 = aI i ∧ st.tm 7 = aI k ∧ OwnR st.mu (st.tm 6) (((L.take k).flatMap fun p => stepN sc i p N).map lI)) ?_ ?_
  · simp [go_sem, e1, e3, e4, e5]
    exact .inl ⟨rfl, rfl⟩
  clear e1 e3 e4 e5
  clear st
  rintro k st hk ⟨e1, e3, e4, e5, e7, ho⟩
  by_cases hkL : k < L.length
  case neg =>
    have hge : k = L.length := by omega
    subst hge
    rw [List.take_length, ← hnext] at ho
    simp [go_sem, e1, e3, e4, e5, e7]
    refine FzQ.ownR (d := 6) rfl ho ?_
    intro mu' full' hml hmj
    simp [go_sem, e1, e3, e4, e5, e7]
    exact ⟨hiN, by cases full' <;> simp, wrap_i64 (by omega) (by omega)⟩
  have hq := heach _ (List.getElem_mem hkL)
  have htf := take_flat (fun p => stepN sc i p N) L k hkL
  have hfl := flatMap_len (fun p => stepN sc i p N) N (fun p => stepN_len sc i p N) (L.take k)
  have hkl : (L.take k).length = k := by simp; omega
  rw [hkl] at hfl
  generalize (L.take k).flatMap (fun p => stepN sc i p N) = M at *
  generalize hqe : L[k] = q at *
  simp [go_sem, e1, e3, e4, e5, e7, hkL]
  refine LoopGo.up N (fun x st => st.tm 1 = .ip [lI sc.atoms, aI sc.steps] ∧ st.tm 3 = .lst full (L.map (rF f)) ∧ st.tm 4 = aI N ∧ st.tm 5 = aI i ∧ st.tm 7 = aI k ∧ st.tm 8 = aI x ∧ OwnR st.mu (st.tm 6) ((M ++ stepN sc i q x).map lI)) ?_ ?_
  · simp [go_sem, e1, e3, e4, e5, e7, stepN]
    exact ho
  clear e1 e3 e4 e5 e7 ho
  clear st
  rintro x st hx ⟨e1, e3, e4, e5, e7, e8, ho⟩
  by_cases hxN : x < N
  case neg =>
    have hge : x = N := by omega
    subst hge
    simp [go_sem, e1, e3, e4, e5, e7, e8]
    exact ⟨hkL, wrap_i64 (by omega) (by omega), by rw [htf]; exact ho⟩
  simp [go_sem, e1, e3, e4, e5, e7, e8, hxN, show (x : Int) < 12 by omega]
  refine DrawGo.intro (by kernel_rfl) ?_
  have hst := stepN_succ sc i q x
  have hsl := stepN_len sc i q x
  simp [go_sem, e1, e3, e4, e5, e7, e8]
  refine CallStep.pure (sort11 sc hg x (by omega)) (.cons (.hf (hf_eSc sc)) (.cons (.hf (HF.sc _)) .nil)) ?_
  simp [go_sem, e1, e3, e4, e5, e7, e8]
  refine CallStep.pure (sort11 sc hg i (by omega)) (.cons (.hf (hf_eSc sc)) (.cons (.hf (HF.sc _)) .nil)) ?_
  by_cases hs : sortAt sc x = sortAt sc i
  case neg =>
    rw [if_neg (fun h => hs h.1), List.append_nil] at hst
    simp [go_sem, e1, e3, e4, e5, e7, e8, hs]
    exact ⟨hxN, wrap_i64 (by omega) (by omega), by rw [← List.map_append, hst]; exact ho⟩
  simp [go_sem, e1, e3, e4, e5, e7, e8, hs, hkL, hqe]
  refine CallStep.pure (has11 q x (by omega)) (.cons (WK.ints q) (.cons (.hf (HF.sc _)) .nil)) ?_
  by_cases hm : (x : Int) ∈ q
  · rw [if_neg (fun h => h.2 hm), List.append_nil] at hst
    simp [go_sem, e1, e3, e4, e5, e7, e8, hs, hm]
    exact ⟨hxN, wrap_i64 (by omega) (by omega), by rw [← List.map_append, hst]; exact ho⟩
  rw [if_pos ⟨hs, hm⟩] at hst
  simp [go_sem, e1, e3, e4, e5, e7, e8, hs, hm, hkL, hqe]
  refine AppendStep.ints (lo := st.mu.length) (e := 3) (bt := 8) (z := 0) (xs := []) (ys := q) (by simp [go_sem]) (by simp [go_sem]) (by simp [go_sem]) (by omega) (OwnF.lit [] (Nat.le_refl _)) (by simp [rowsOf]) (by simp; omega) ?_
  intro av1 mu1 ho1 hl1
  simp [go_sem, e1, e3, e4, e5, e7, e8]
  refine AppendStep.ints (lo := st.mu.length) (e := 3) (bt := 8) (z := 0) (xs := q) (ys := [(x : Int)]) (by simp [go_sem]) (by simp [go_sem]) (by simp [go_sem]) (by omega) ho1 (by simp [rowsOf]) (by simp; omega) ?_
  intro av2 mu2 ho2 hl2
  have hlow : ∀ j, j < st.mu.length → mu2[j]? = st.mu[j]? := fun j hj => (hl2 j hj).trans (hl1 j hj)
  have hlt : ∀ b, blkOf (st.tm 6) = some b → b < st.mu.length := fun b hb => ho.lt hb
  have ho' : OwnR mu2 (st.tm 6) ((M ++ stepN sc i q x).map lI) := ho.same fun b hb => hlow b (hlt b hb)
  simp [go_sem, e1, e3, e4, e5, e7, e8, ho2.one, ho2.cells]
  refine AppendStep.giveL (R := st.mu.length) (e := 28) (bt := 24) (L := M ++ stepN sc i q x) (by simp [go_sem]) (by simp [go_sem]) (by simp [go_sem]) (by omega) ho' hlt ho2.2.2 ho2 ?_ ?_
  · have hkN : k * N ≤ 46656 * 6 := Nat.mul_le_mul (by omega) hN6
    simp only [List.length_append]; omega
  intro mu3 s3 ho3 _ _ _
  simp [go_sem, e1, e3, e4, e5, e7, e8]
  refine ⟨hxN, wrap_i64 (by omega) (by omega), ?_⟩
  rw [← List.map_append, hst, ← List.append_assoc]; exact ho3
end Go.Proofs.YtiophnmdopoeeaaGreat.R2

set_option linter.unusedVariables false
set_option linter.unusedSimpArgs false
set_option maxRecDepth 100000
namespace Go.Proofs.YtiophnmdopoeeaaGreat.R3
open Go Go.Ev Go.Proofs Go.Proofs.YtiophnmdopoeeaaGreat.C1 Go.Proofs.YtiophnmdopoeeaaGreat.C2 Go.Proofs.YtiophnmdopoeeaaGreat.C3 Go.Proofs.YtiophnmdopoeeaaGreat.C4 Go.Proofs.YtiophnmdopoeeaaGreat.C5 Go.Proofs.YtiophnmdopoeeaaGreat.C6 Go.Proofs.YtiophnmdopoeeaaGreat.C7 Go.Proofs.YtiophnmdopoeeaaGreat.C8 Go.Proofs.YtiophnmdopoeeaaGreat.C9 Go.Proofs.YtiophnmdopoeeaaGreat.C10 Go.Proofs.YtiophnmdopoeeaaGreat.C11 Go.Proofs.YtiophnmdopoeeaaGreat.C12 Go.Proofs.YtiophnmdopoeeaaGreat.C13 Go.Proofs.YtiophnmdopoeeaaGreat.C14 Go.Proofs.YtiophnmdopoeeaaGreat.C15 Go.Proofs.YtiophnmdopoeeaaGreat.C16 Go.Proofs.YtiophnmdopoeeaaGreat.C17 Go.Proofs.YtiophnmdopoeeaaGreat.C18 Go.Proofs.YtiophnmdopoeeaaGreat.C19 Go.Proofs.YtiophnmdopoeeaaGreat.C20 Go.Proofs.YtiophnmdopoeeaaGreat.C21 Go.Proofs.YtiophnmdopoeeaaGreat.C22 Go.Proofs.YtiophnmdopoeeaaGreat.C23 Go.Proofs.YtiophnmdopoeeaaGreat.C24 Go.Proofs.YtiophnmdopoeeaaGreat.C25 Go.Proofs.YtiophnmdopoeeaaGreat.C26 Go.Proofs.YtiophnmdopoeeaaGreat.C27 Go.Proofs.YtiophnmdopoeeaaGreat.C28 Go.Proofs.YtiophnmdopoeeaaGreat.C29 Go.Proofs.YtiophnmdopoeeaaGreat.C30 Go.Proofs.YtiophnmdopoeeaaGreat.C31 Go.Proofs.YtiophnmdopoeeaaGreat.C32 Go.Proofs.YtiophnmdopoeeaaGreat.C33 Go.Proofs.YtiophnmdopoeeaaGreat.C34 Go.Proofs.YtiophnmdopoeeaaGreat.C35 Go.Proofs.YtiophnmdopoeeaaGreat.L1 Go.Proofs.YtiophnmdopoeeaaGreat.L2 Go.Proofs.YtiophnmdopoeeaaGreat.L3 Go.Proofs.YtiophnmdopoeeaaGreat.L4 Go.Proofs.YtiophnmdopoeeaaGreat.L5 Go.Proofs.YtiophnmdopoeeaaGreat.L6 Go.Proofs.YtiophnmdopoeeaaGreat.L7 Go.Proofs.YtiophnmdopoeeaaGreat.L8 Go.Proofs.YtiophnmdopoeeaaGreat.L9 Go.Proofs.YtiophnmdopoeeaaGreat.L10 Go.Proofs.YtiophnmdopoeeaaGreat.L11 Go.Proofs.YtiophnmdopoeeaaGreat.L12 Go.Proofs.YtiophnmdopoeeaaGreat.L13 Go.Proofs.YtiophnmdopoeeaaGreat.L14 Go.Proofs.YtiophnmdopoeeaaGreat.L15 Go.Proofs.YtiophnmdopoeeaaGreat.R1 Go.Proofs.YtiophnmdopoeeaaGreat.R2

theorem atN_spec (l : List Int) (r : Int) : ∀ n, (∀ i, atN l r n ≤ i → i < n → r ≤ gI l i) ∧ (0 < atN l r n → gI l (atN l r n - 1) < r)
  | 0 => ⟨fun i _ h => by omega, fun h => by simp [atN] at h⟩
  | n + 1 => by
    obtain ⟨h1, h2⟩ := atN_spec l r n
    rw [atN]
    by_cases h : r ≤ gI l n
    · rw [if_pos h]
      refine ⟨fun i hi hn => ?_, h2⟩
      by_cases e : i = n
      · rw [e]; exact h
      · exact h1 i hi (by omega)
    · rw [if_neg h]
      exact ⟨fun i hi hn => by omega, fun _ => by simp; omega⟩
theorem addL_spec {l : List Int} (hs : sorted l) (r : Int) : sorted (addL l r) ∧ ∀ x, x ∈ addL l r ↔ x ∈ l ∨ x = r := by
  obtain ⟨h1, h2⟩ := atN_spec l r l.length
  have hk := atN_le l r l.length
  unfold addL
  generalize atN l r l.length = k at *
  by_cases hc : l[k]? = some r
  · rw [if_pos hc]
    exact ⟨hs, fun x => ⟨.inl, fun h => h.elim id fun e => by rw [e]; exact List.mem_of_getElem? hc⟩⟩
  · rw [if_neg hc]
    have hsl : ∀ i j (hi : i < l.length) (hj : j < l.length), i < j → l[i] < l[j] := fun i j hi hj hij => List.pairwise_iff_getElem.1 hs i j hi hj hij
    have lo : ∀ x, x ∈ l.take k → x < r := by
      intro x hx
      obtain ⟨i, hi, e⟩ := List.mem_iff_getElem.1 hx
      rw [List.getElem_take] at e
      have hik : i < k := by simp at hi; omega
      have := h2 (by omega)
      rw [gI_eq (by omega)] at this
      by_cases e2 : i = k - 1
      · subst e2; omega
      · have := hsl i (k - 1) (by omega) (by omega) (by omega); omega
    have hi : ∀ x, x ∈ l.drop k → r < x := by
      intro x hx
      obtain ⟨i, hi, e⟩ := List.mem_iff_getElem.1 hx
      rw [List.getElem_drop] at e
      have hil : k + i < l.length := by simp at hi; omega
      have h0 := h1 k (by omega) (by omega)
      rw [gI_eq (by omega)] at h0
      have hne : l[k]'(by omega) ≠ r := fun e => hc (by rw [List.getElem?_eq_getElem (by omega), e])
      by_cases e2 : i = 0
      · subst e2; simp at e; omega
      · have := hsl k (k + i) (by omega) hil (by omega); omega
    refine ⟨?_, fun x => ?_⟩
    · unfold sorted at *
      rw [List.append_assoc, List.pairwise_append]
      refine ⟨hs.sublist (List.take_sublist _ _), ?_, fun a ha b hb => ?_⟩
      · rw [List.singleton_append, List.pairwise_cons]
        exact ⟨hi, hs.sublist (List.drop_sublist _ _)⟩
      · rw [List.singleton_append, List.mem_cons] at hb
        have := lo a ha
        rcases hb with e | hb
        · omega
        · have := hi b hb; omega
    · have : x ∈ l ↔ x ∈ l.take k ∨ x ∈ l.drop k := by
        rw [← List.mem_append, List.take_append_drop]
      rw [this, List.mem_append, List.mem_append, List.mem_singleton]
      constructor
      · rintro ((h | h) | h)
        · exact .inl (.inl h)
        · exact .inr h
        · exact .inl (.inr h)
      · rintro ((h | h) | h)
        · exact .inl (.inl h)
        · exact .inr h
        · exact .inl (.inr h)
theorem foldl_addL : ∀ (ts l : List Int), sorted l → sorted (ts.foldl addL l) ∧ ∀ x, x ∈ ts.foldl addL l ↔ x ∈ l ∨ x ∈ ts
  | [], l, h => ⟨h, fun x => by simp⟩
  | t :: ts, l, h => by
    obtain ⟨h1, h2⟩ := addL_spec h t
    obtain ⟨h3, h4⟩ := foldl_addL ts _ h1
    refine ⟨h3, fun x => ?_⟩
    rw [List.foldl_cons, h4, h2, List.mem_cons]
    constructor
    · rintro ((h | h) | h)
      · exact .inl h
      · exact .inr (.inl h)
      · exact .inr (.inr h)
    · rintro (h | h | h)
      · exact .inl (.inl h)
      · exact .inl (.inr h)
      · exact .inr h
theorem ofL_spec (ts : List Int) : sorted (ofL ts) ∧ ∀ x, x ∈ ofL ts ↔ x ∈ ts := by
  obtain ⟨h1, h2⟩ := foldl_addL ts [] (by unfold sorted; exact .nil)
  exact ⟨h1, fun x => by rw [ofL, h2]; simp⟩
theorem ofL_srt {ts : List Int} (h : ts.Nodup) : srtI ts = ofL ts := by
  obtain ⟨h1, h2⟩ := ofL_spec ts
  refine srtI_eq h1 ?_
  rw [List.perm_ext_iff_of_nodup h (sorted_nodup h1)]
  exact fun x => (h2 x).symm
theorem relR_eq {N : Nat} {p : List Int} (hp : PermL N p) {r : Rl} (g : GRel N r) : relR p r = relImg p r := by
  unfold relR relImg
  rw [hp.len, ofL_srt (img_nodup hp g)]
theorem rel11' (sc : Sc) {N : Nat} {p : List Int} (hp : PermL N p) (hN12 : N ≤ 12) {r : Rl} (g : GRel N r) : SoundP Tryz.prog 33 [eSc sc, lI p, eRel r] (eRel (relImg p r)) := by
  rw [← relR_eq hp g]
  have h1 := g.ar1
  refine rel11 sc p r (fun t ht => ?_) (by omega) g.ar3 (by have := g.len; omega) (fun t ht => ?_)
  · have := GRel.pos g ht
    exact ⟨by rw [hp.len]; exact this, by rw [hp.len]; omega, fun x hx => by have := hp.rng x hx; omega⟩
  · have := g.small (by omega) (by omega) t ht
    omega

theorem symmetric12 (sc : Sc) (u : GU sc) (bs : List Bd) (gb : GBs (sumI sc.atoms) bs) (p : List Int) : SoundP Tryz.prog 10 [eSc sc, lBd bs, lI p] (aB (symB sc bs p)) := by
  obtain ⟨N, hN⟩ := Int.eq_ofNat_of_zero_le u.n0
  have hN12 := u.n12
  rw [hN] at gb
  have hbl := gb.len
  refine SoundP.of_sound (Sound.of_awp Tryz.call10 Tryz.func10 rfl (Nat.le_of_ble_eq_true (by kernel_rfl)) (by kernel_rfl) (pl := {}) ?_)
  simp [go_sem]
  refine CallStep.pure (valid11 sc u p) (.cons (.hf (hf_eSc sc)) (.cons (.hf (hf_lI p)) .nil)) ?_
  by_cases hv : validP sc p = true
  case neg =>
    simp only [Bool.not_eq_true] at hv
    simp [go_sem, hv]
    rw [show symB sc bs p = false by simp [symB, hv]]
    exact .hf _ (HF.sc _)
  simp [go_sem, hv]
  have hp := ((validP_iff hN).1 hv).1
  have hsb : symB sc bs p = bs.all fun b => decide (b.lo = relImg p b.lo) && decide (b.up = relImg p b.up) := by
    unfold symB relsOf
    rw [hv, Bool.true_and, List.all_flatMap]
    congr 1
    funext b
    simp
  rw [hsb]
  refine LoopGo.up bs.length (fun k st => st.tm 1 = lBd bs ∧ st.tm 2 = lI p ∧ st.tm 3 = .ip [lI sc.atoms, aI sc.steps] ∧ st.tm 7 = aI k ∧ st.mu = [] ∧ ∀ (i : Nat) (h : i < bs.length), i < k → (decide (bs[i].lo = relImg p bs[i].lo) && decide (bs[i].up = relImg p bs[i].up)) = true) ?_ ?_
  · simp [go_sem]
  rintro k st hk ⟨e1, e2, e3, e7, hm, he⟩
  by_cases hlt : k < bs.length
  case neg =>
    simp [go_sem, e1, e2, e3, e7, hm, hlt]
    rw [all_iff_get.2 fun i h => he i h (by omega)]
    exact .hf _ (HF.sc _)
  have hgb := gb.rel _ (List.getElem_mem hlt)
  have bad := fun h => all_bad (p := fun b : Bd => decide (b.lo = relImg p b.lo) && decide (b.up = relImg p b.up)) hlt h
  generalize hbe : bs[k] = b at *
  have r1 := rel11' sc hp (by omega) hgb.1
  have r2 := rel11' sc hp (by omega) hgb.2
  have hq1 := equal06 b.lo (relImg p b.lo) (by have := hgb.1.len; omega)
  have hq2 := equal06 b.up (relImg p b.up) (by have := hgb.2.len; omega)
  simp [go_sem, e1, e2, e3, e7, hm, hlt]
  refine DrawGo.intro (by kernel_rfl) ?_
  simp [go_sem, e1, e2, e3, e7, hm, hlt, hbe]
  refine CallStep.pure r1 (.cons (.hf (hf_eSc sc)) (.cons (.hf (hf_lI p)) (.cons (.hf (hf_eRel _)) .nil))) ?_
  simp [go_sem, e1, e2, e3, e7, hm, hlt, hbe]
  refine CallStep.pure hq1 (.cons (.hf (hf_eRel _)) (.cons (.hf (hf_eRel _)) .nil)) ?_
  by_cases h1 : b.lo = relImg p b.lo
  case neg =>
    simp [go_sem, e1, e2, e3, e7, hm, hlt, hbe, h1]
    rw [bad (by simp [h1])]
    exact .hf _ (HF.sc _)
  have hd1 : decide (b.lo = relImg p b.lo) = true := decide_eq_true h1
  rw [hd1]
  simp [go_sem, e1, e2, e3, e7, hm, hlt, hbe]
  refine CallStep.pure r2 (.cons (.hf (hf_eSc sc)) (.cons (.hf (hf_lI p)) (.cons (.hf (hf_eRel _)) .nil))) ?_
  simp [go_sem, e1, e2, e3, e7, hm, hlt, hbe]
  refine CallStep.pure hq2 (.cons (.hf (hf_eRel _)) (.cons (.hf (hf_eRel _)) .nil)) ?_
  by_cases h2 : b.up = relImg p b.up
  case neg =>
    have hd2 : decide (b.up = relImg p b.up) = false := decide_eq_false h2
    rw [hd2]
    simp [go_sem, e1, e2, e3, e7, hm, hlt, hbe]
    rw [bad (by rw [hd1, hd2]; rfl)]
    exact .hf _ (HF.sc _)
  have hd2 : decide (b.up = relImg p b.up) = true := decide_eq_true h2
  rw [hd2]
  simp [go_sem, e1, e2, e3, e7, hm, hlt, hbe]
  refine ⟨wrap_i64 (by omega) (by omega), fun i h hi => ?_⟩
  rcases Nat.lt_succ_iff_lt_or_eq.1 hi with h3 | h3
  · have := he i h h3
    rw [Bool.and_eq_true, decide_eq_true_eq, decide_eq_true_eq] at this
    exact this
  · subst h3
    rw [hbe]; exact ⟨h1, h2⟩
end Go.Proofs.YtiophnmdopoeeaaGreat.R3

set_option linter.unusedVariables false
set_option linter.unusedSimpArgs false
set_option maxRecDepth 100000
namespace Go.Proofs.YtiophnmdopoeeaaGreat.R4
open Go Go.Ev Go.Proofs Go.Proofs.YtiophnmdopoeeaaGreat.C1 Go.Proofs.YtiophnmdopoeeaaGreat.C2 Go.Proofs.YtiophnmdopoeeaaGreat.C3 Go.Proofs.YtiophnmdopoeeaaGreat.C4 Go.Proofs.YtiophnmdopoeeaaGreat.C5 Go.Proofs.YtiophnmdopoeeaaGreat.C6 Go.Proofs.YtiophnmdopoeeaaGreat.C7 Go.Proofs.YtiophnmdopoeeaaGreat.C8 Go.Proofs.YtiophnmdopoeeaaGreat.C9 Go.Proofs.YtiophnmdopoeeaaGreat.C10 Go.Proofs.YtiophnmdopoeeaaGreat.C11 Go.Proofs.YtiophnmdopoeeaaGreat.C12 Go.Proofs.YtiophnmdopoeeaaGreat.C13 Go.Proofs.YtiophnmdopoeeaaGreat.C14 Go.Proofs.YtiophnmdopoeeaaGreat.C15 Go.Proofs.YtiophnmdopoeeaaGreat.C16 Go.Proofs.YtiophnmdopoeeaaGreat.C17 Go.Proofs.YtiophnmdopoeeaaGreat.C18 Go.Proofs.YtiophnmdopoeeaaGreat.C19 Go.Proofs.YtiophnmdopoeeaaGreat.C20 Go.Proofs.YtiophnmdopoeeaaGreat.C21 Go.Proofs.YtiophnmdopoeeaaGreat.C22 Go.Proofs.YtiophnmdopoeeaaGreat.C23 Go.Proofs.YtiophnmdopoeeaaGreat.C24 Go.Proofs.YtiophnmdopoeeaaGreat.C25 Go.Proofs.YtiophnmdopoeeaaGreat.C26 Go.Proofs.YtiophnmdopoeeaaGreat.C27 Go.Proofs.YtiophnmdopoeeaaGreat.C28 Go.Proofs.YtiophnmdopoeeaaGreat.C29 Go.Proofs.YtiophnmdopoeeaaGreat.C30 Go.Proofs.YtiophnmdopoeeaaGreat.C31 Go.Proofs.YtiophnmdopoeeaaGreat.C32 Go.Proofs.YtiophnmdopoeeaaGreat.C33 Go.Proofs.YtiophnmdopoeeaaGreat.C34 Go.Proofs.YtiophnmdopoeeaaGreat.C35 Go.Proofs.YtiophnmdopoeeaaGreat.L1 Go.Proofs.YtiophnmdopoeeaaGreat.L2 Go.Proofs.YtiophnmdopoeeaaGreat.L3 Go.Proofs.YtiophnmdopoeeaaGreat.L4 Go.Proofs.YtiophnmdopoeeaaGreat.L5 Go.Proofs.YtiophnmdopoeeaaGreat.L6 Go.Proofs.YtiophnmdopoeeaaGreat.L7 Go.Proofs.YtiophnmdopoeeaaGreat.L8 Go.Proofs.YtiophnmdopoeeaaGreat.L9 Go.Proofs.YtiophnmdopoeeaaGreat.L10 Go.Proofs.YtiophnmdopoeeaaGreat.L11 Go.Proofs.YtiophnmdopoeeaaGreat.L12 Go.Proofs.YtiophnmdopoeeaaGreat.L13 Go.Proofs.YtiophnmdopoeeaaGreat.L14 Go.Proofs.YtiophnmdopoeeaaGreat.L15 Go.Proofs.YtiophnmdopoeeaaGreat.R1 Go.Proofs.YtiophnmdopoeeaaGreat.R2 Go.Proofs.YtiophnmdopoeeaaGreat.R3

theorem group12 (sp : Sp) (sc : Sc) (u : GU sc) (bs : List Bd) (gb : GBs (sumI sc.atoms) bs) (N : Nat) (hN : sumI sc.atoms = N) (hN6 : N ≤ 6) :
    SoundP Tryz.prog 12 [eSp sp, eSc sc, lBd bs] (lL ((lvl sc N N).filter fun q => fixesOk sp sc q && symB sc bs q)) := by
  have heach := lvl_each sc N N
  have hlen : (lvl sc N N).length ≤ 46656 := by
    have h1 : N ^ N ≤ 6 ^ 6 := Nat.le_trans (Nat.pow_le_pow_left hN6 N) (Nat.pow_le_pow_right (by omega) hN6)
    have h2 := lvl_len sc N N
    omega
  have hall := all11 sc u N hN hN6
  generalize lvl sc N N = A at *
  refine SoundP.of_sound (Sound.of_awp Tryz.call12 Tryz.func12 rfl (Nat.le_of_ble_eq_true (by kernel_rfl)) (by kernel_rfl) (pl := {}) ?_)
  simp [go_sem]
  refine CallStep.pure hall (.cons (.hf (hf_eSc sc)) .nil) ?_
  simp [go_sem]
  refine LoopGo.up A.length (fun i st => st.tm 2 = lBd bs ∧ st.tm 3 = .ip [.lst false (sp.sorts.map cSort), .lst false (sp.fields.map cField), .lst false sp.preds, .lst false sp.facts] ∧ st.tm 4 = .ip [lI sc.atoms, aI sc.steps] ∧ st.tm 8 = lL A ∧ st.tm 9 = aI i ∧ OwnF 0 st.mu 1 (st.tm 7) (((A.take i).filter fun q => fixesOk sp sc q && symB sc bs q).map rL)) ?_ ?_
  · simp [go_sem]
    exact OwnF.lit [] (Nat.zero_le _)
  rintro i st hi ⟨e2, e3, e4, e8, e9, ho⟩
  by_cases hiA : i < A.length
  case neg =>
    have hge : i = A.length := by omega
    subst hge
    rw [List.take_length] at ho
    simp [go_sem, e2, e3, e4, e8, e9]
    exact OwnF.rdLL ho
  have hq := heach _ (List.getElem_mem hiA)
  have hfs := filter_step A (fun q => fixesOk sp sc q && symB sc bs q) i hiA
  have hll : ((A.take i).filter fun q => fixesOk sp sc q && symB sc bs q).length ≤ i := Nat.le_trans (List.length_filter_le _ _) (by simp; omega)
  generalize ((A.take i).filter fun q => fixesOk sp sc q && symB sc bs q) = B at *
  generalize hqq : A[i] = q at *
  simp [go_sem, e2, e3, e4, e8, e9, hiA]
  refine DrawGo.intro (by kernel_rfl) ?_
  simp [go_sem, e2, e3, e4, e8, e9, hiA, hqq]
  refine CallStep.pure (fixes12 sp sc u.g q (by omega)) (.cons (.hf (hf_eSp sp)) (.cons (.hf (hf_eSc sc)) (.cons (.hf (hf_lI q)) .nil))) ?_
  cases hfx : fixesOk sp sc q with
  | false =>
    rw [hfx] at hfs
    simp only [Bool.false_and, Bool.false_eq_true, if_false, List.append_nil] at hfs
    simp [go_sem, e2, e3, e4, e8, e9, hiA, hqq]
    exact ⟨wrap_i64 (by omega) (by omega), by rw [hfs]; exact ho⟩
  | true =>
    simp [go_sem, e2, e3, e4, e8, e9, hiA, hqq]
    refine CallStep.pure (symmetric12 sc u bs gb q) (.cons (.hf (hf_eSc sc)) (.cons (.hf (hf_lBd bs)) (.cons (.hf (hf_lI q)) .nil))) ?_
    cases hsy : symB sc bs q with
    | false =>
      rw [hfx, hsy] at hfs
      simp only [Bool.and_false, Bool.false_eq_true, if_false, List.append_nil] at hfs
      simp [go_sem, e2, e3, e4, e8, e9, hiA, hqq]
      exact ⟨wrap_i64 (by omega) (by omega), by rw [hfs]; exact ho⟩
    | true =>
      rw [hfx, hsy] at hfs
      simp only [Bool.and_self, if_true] at hfs
      simp [go_sem, e2, e3, e4, e8, e9, hiA, hqq]
      refine AppendStep.ownF (lo := 0) (e := 28) (sz := 1) (bt := 24) (zv := .lst true []) (xs := B.map rL) (ys := [rL q]) (by simp [go_sem]) (by simp [go_sem]) (by simp [go_sem]) rfl rfl (by omega) (by omega) ho (by simp [rowsOf]) (rows_rL _) (rows_rL [q]) (by simp; omega) ?_
      intro av' mu' ho' _
      simp [go_sem, e2, e3, e4, e8, e9, hiA]
      exact ⟨wrap_i64 (by omega) (by omega), by rw [hfs, List.map_append]; exact ho'⟩

def sw2 (sp : Sp) (sc : Sc) (bs : List Bd) (N : Nat) (x y : Nat) : Bool := fixesOk sp sc (swapL x y N) && symB sc bs (swapL x y N)
theorem swaps12 (sp : Sp) (sc : Sc) (u : GU sc) (bs : List Bd) (gb : GBs (sumI sc.atoms) bs) (N : Nat) (hN : sumI sc.atoms = N) (hN6 : N ≤ 6) :
    SoundP Tryz.prog 15 [eSp sp, eSc sc, lBd bs] (lP (swapsN [] (sw2 sp sc bs N) N N)) := by
  have hsw : ∀ x y : Nat, SoundP Tryz.prog 41 [aI N, aI x, aI y] (lI (swapL x y N)) := fun x y => by
    have := swap12 N x y
    rwa [show min12 N = N by unfold min12; omega] at this
  have hfx := fun x y : Nat => fixes12 sp sc u.g (swapL x y N) (by rw [swap_len]; omega)
  have hsy := fun x y : Nat => symmetric12 sc u bs gb (swapL x y N)
  have hdef : ∀ x y, sw2 sp sc bs N x y = (fixesOk sp sc (swapL x y N) && symB sc bs (swapL x y N)) := fun _ _ => rfl
  have hNN : N * N ≤ 36 := Nat.mul_le_mul hN6 hN6
  generalize sw2 sp sc bs N = sym at *
  refine SoundP.of_sound (Sound.of_awp Tryz.call15 Tryz.func15 rfl (Nat.le_of_ble_eq_true (by kernel_rfl)) (by kernel_rfl) (pl := {}) ?_)
  simp [go_sem]
  refine CallStep.pure (atoms07 sc u.g) (.cons (.hf (hf_eSc sc)) .nil) ?_
  rw [hN]
  simp [go_sem]
  refine LoopGo.up N (fun x st => st.tm 2 = lBd bs ∧ st.tm 3 = .ip [.lst false (sp.sorts.map cSort), .lst false (sp.fields.map cField), .lst false sp.preds, .lst false sp.facts] ∧ st.tm 4 = .ip [lI sc.atoms, aI sc.steps] ∧ st.tm 8 = aI N ∧ st.tm 9 = aI x ∧ OwnF 0 st.mu 2 (st.tm 7) ((swapsN [] sym N x).map rP)) ?_ ?_
  · simp [go_sem, swapsN, foldN]
    exact OwnF.lit [] (Nat.zero_le _)
  rintro x st hx ⟨e2, e3, e4, e8, e9, ho⟩
  by_cases hxN : x < N
  case neg =>
    have hge : x = N := by omega
    subst hge
    simp [go_sem, e2, e3, e4, e8, e9]
    exact OwnF.rdP ho
  have hs1 : swapsN [] sym N (x + 1) = swapRow [] sym x (swapsN [] sym N x) (N - (x + 1)) := by rw [swapsN, foldN_succ, ← swapsN]
  have hl1 := swapsN_len [] sym N x
  have hl2 : N * x ≤ N * N := Nat.mul_le_mul (Nat.le_refl _) (by omega)
  generalize swapsN [] sym N x = l0 at *
  simp [go_sem, e2, e3, e4, e8, e9, hxN]
  refine LoopGo.up (N - (x + 1)) (fun d st => st.tm 2 = lBd bs ∧ st.tm 3 = .ip [.lst false (sp.sorts.map cSort), .lst false (sp.fields.map cField), .lst false sp.preds, .lst false sp.facts] ∧ st.tm 4 = .ip [lI sc.atoms, aI sc.steps] ∧ st.tm 8 = aI N ∧ st.tm 9 = aI x ∧ st.tm 10 = aI (x + 1 + d : Nat) ∧ OwnF 0 st.mu 2 (st.tm 7) ((swapRow [] sym x l0 d).map rP)) ?_ ?_
  · simp [go_sem, e2, e3, e4, e8, e9, swapRow, foldN]
    exact ⟨wrap_i64 (by omega) (by omega), ho⟩
  clear ho e2 e3 e4 e8 e9
  clear st
  rintro d st hd ⟨e2, e3, e4, e8, e9, e10, ho⟩
  by_cases hdl : d < N - (x + 1)
  case neg =>
    have hge : d = N - (x + 1) := by omega
    subst hge
    simp [go_sem, e2, e3, e4, e8, e9, e10, show ¬ (x : Int) + 1 + ((N - (x + 1) : Nat) : Int) < N by omega]
    rw [hs1]
    exact ⟨hxN, wrap_i64 (by omega) (by omega), ho⟩
  have hs2 : swapRow [] sym x l0 (d + 1) = if sym x (x + 1 + d) = true then swapRow [] sym x l0 d ++ [((x : Int), ((x + 1 + d : Nat) : Int))] else swapRow [] sym x l0 d := by
    rw [swapRow, foldN_succ, ← swapRow]
    have : gI [] x = gI [] (x + 1 + d) := rfl
    simp [this]
  have hl3 := swapRow_len [] sym x l0 d
  generalize swapRow [] sym x l0 d = l1 at *
  have hyN : x + 1 + d < N := by omega
  have hdf := hdef x (x + 1 + d)
  have hw := hsw x (x + 1 + d)
  have hf1 := hfx x (x + 1 + d)
  have hs3 := hsy x (x + 1 + d)
  generalize hyd : x + 1 + d = y at *
  rw [hdf] at hs2
  simp [go_sem, e2, e3, e4, e8, e9, e10, hyN]
  refine CallStep.pure hw (.cons (.hf (HF.sc _)) (.cons (.hf (HF.sc _)) (.cons (.hf (HF.sc _)) .nil))) ?_
  simp [go_sem, e2, e3, e4, e8, e9, e10, hyN]
  refine CallStep.pure hf1 (.cons (.hf (hf_eSp sp)) (.cons (.hf (hf_eSc sc)) (.cons (.hf (hf_lI _)) .nil))) ?_
  cases hb1 : fixesOk sp sc (swapL x y N) with
  | false =>
    rw [hb1] at hs2
    simp only [Bool.false_and, Bool.false_eq_true, if_false] at hs2
    simp [go_sem, e2, e3, e4, e8, e9, e10, hyN]
    exact ⟨hdl, by rw [wrap_i64 (by omega) (by omega)]; omega, by rw [hs2]; exact ho⟩
  | true =>
    simp [go_sem, e2, e3, e4, e8, e9, e10, hyN]
    refine CallStep.pure hs3 (.cons (.hf (hf_eSc sc)) (.cons (.hf (hf_lBd bs)) (.cons (.hf (hf_lI _)) .nil))) ?_
    cases hb2 : symB sc bs (swapL x y N) with
    | false =>
      rw [hb1, hb2] at hs2
      simp only [Bool.and_false, Bool.false_eq_true, if_false] at hs2
      simp [go_sem, e2, e3, e4, e8, e9, e10, hyN]
      exact ⟨hdl, by rw [wrap_i64 (by omega) (by omega)]; omega, by rw [hs2]; exact ho⟩
    | true =>
      rw [hb1, hb2] at hs2
      simp only [Bool.and_self, if_true] at hs2
      simp [go_sem, e2, e3, e4, e8, e9, e10, hyN]
      refine AppendStep.ownF (lo := 0) (e := 52) (sz := 2) (bt := 16) (zv := .agg [aI 0, aI 0]) (xs := l1.map rP) (ys := [rP (x, y)]) (by simp [go_sem]) (by simp [go_sem]) (by simp [go_sem]) rfl rfl (by omega) (by omega) ho (by simp [rowsOf]) (rows_rP _) (rows_rP [((x : Int), (y : Int))]) (by simp; omega) ?_
      intro av' mu' ho' _
      simp [go_sem, e2, e3, e4, e8, e9, e10]
      exact ⟨hdl, by rw [wrap_i64 (by omega) (by omega)]; omega, by rw [hs2, List.map_append]; exact ho'⟩
end Go.Proofs.YtiophnmdopoeeaaGreat.R4

set_option linter.unusedVariables false
set_option linter.unusedSimpArgs false
set_option maxRecDepth 100000
namespace Go.Proofs.YtiophnmdopoeeaaGreat.R5
open Go Go.Ev Go.Proofs Go.Proofs.YtiophnmdopoeeaaGreat.C1 Go.Proofs.YtiophnmdopoeeaaGreat.C2 Go.Proofs.YtiophnmdopoeeaaGreat.C3 Go.Proofs.YtiophnmdopoeeaaGreat.C4 Go.Proofs.YtiophnmdopoeeaaGreat.C5 Go.Proofs.YtiophnmdopoeeaaGreat.C6 Go.Proofs.YtiophnmdopoeeaaGreat.C7 Go.Proofs.YtiophnmdopoeeaaGreat.C8 Go.Proofs.YtiophnmdopoeeaaGreat.C9 Go.Proofs.YtiophnmdopoeeaaGreat.C10 Go.Proofs.YtiophnmdopoeeaaGreat.C11 Go.Proofs.YtiophnmdopoeeaaGreat.C12 Go.Proofs.YtiophnmdopoeeaaGreat.C13 Go.Proofs.YtiophnmdopoeeaaGreat.C14 Go.Proofs.YtiophnmdopoeeaaGreat.C15 Go.Proofs.YtiophnmdopoeeaaGreat.C16 Go.Proofs.YtiophnmdopoeeaaGreat.C17 Go.Proofs.YtiophnmdopoeeaaGreat.C18 Go.Proofs.YtiophnmdopoeeaaGreat.C19 Go.Proofs.YtiophnmdopoeeaaGreat.C20 Go.Proofs.YtiophnmdopoeeaaGreat.C21 Go.Proofs.YtiophnmdopoeeaaGreat.C22 Go.Proofs.YtiophnmdopoeeaaGreat.C23 Go.Proofs.YtiophnmdopoeeaaGreat.C24 Go.Proofs.YtiophnmdopoeeaaGreat.C25 Go.Proofs.YtiophnmdopoeeaaGreat.C26 Go.Proofs.YtiophnmdopoeeaaGreat.C27 Go.Proofs.YtiophnmdopoeeaaGreat.C28 Go.Proofs.YtiophnmdopoeeaaGreat.C29 Go.Proofs.YtiophnmdopoeeaaGreat.C30 Go.Proofs.YtiophnmdopoeeaaGreat.C31 Go.Proofs.YtiophnmdopoeeaaGreat.C32 Go.Proofs.YtiophnmdopoeeaaGreat.C33 Go.Proofs.YtiophnmdopoeeaaGreat.C34 Go.Proofs.YtiophnmdopoeeaaGreat.C35 Go.Proofs.YtiophnmdopoeeaaGreat.L1 Go.Proofs.YtiophnmdopoeeaaGreat.L2 Go.Proofs.YtiophnmdopoeeaaGreat.L3 Go.Proofs.YtiophnmdopoeeaaGreat.L4 Go.Proofs.YtiophnmdopoeeaaGreat.L5 Go.Proofs.YtiophnmdopoeeaaGreat.L6 Go.Proofs.YtiophnmdopoeeaaGreat.L7 Go.Proofs.YtiophnmdopoeeaaGreat.L8 Go.Proofs.YtiophnmdopoeeaaGreat.L9 Go.Proofs.YtiophnmdopoeeaaGreat.L10 Go.Proofs.YtiophnmdopoeeaaGreat.L11 Go.Proofs.YtiophnmdopoeeaaGreat.L12 Go.Proofs.YtiophnmdopoeeaaGreat.L13 Go.Proofs.YtiophnmdopoeeaaGreat.L14 Go.Proofs.YtiophnmdopoeeaaGreat.L15 Go.Proofs.YtiophnmdopoeeaaGreat.R1 Go.Proofs.YtiophnmdopoeeaaGreat.R2 Go.Proofs.YtiophnmdopoeeaaGreat.R3 Go.Proofs.YtiophnmdopoeeaaGreat.R4

/-- the least number that passes, or another one -/
def lstF (p : Nat → Bool) (l : List Nat) (x : Nat) : Nat := (l.find? p).getD x
theorem lstF_snoc (p : Nat → Bool) (l : List Nat) (y x : Nat) (hl : ∀ z, z ∈ l → z ≠ x) : lstF p (l ++ [y]) x = if p y = true ∧ lstF p l x = x then y else lstF p l x := by
  unfold lstF
  rw [List.find?_append]
  cases h : l.find? p with
  | some z =>
    have := hl z (List.mem_of_find?_eq_some h)
    simp [this]
  | none => by_cases hp : p y = true <;> simp [hp]
theorem lstF_cons (p : Nat → Bool) (l : List Nat) (y x : Nat) : lstF p (y :: l) x = if p y = true then y else lstF p l x := by
  unfold lstF
  rw [List.find?_cons]
  by_cases hp : p y = true <;> simp [hp]
def al0 (sp : Sp) (sc : Sc) (x y : Nat) : Bool := decide (sortAt sc y = sortAt sc x) && !ordAt sp (sortAt sc x)
def firstR (sp : Sp) (sc : Sc) (n : Nat) : List Int := (List.range n).map fun x => ((lstF (al0 sp sc x) (List.range x) x : Nat) : Int)
theorem firstR_succ (sp : Sp) (sc : Sc) (n : Nat) : firstR sp sc (n + 1) = firstR sp sc n ++ [((lstF (al0 sp sc n) (List.range n) n : Nat) : Int)] := by simp [firstR, List.range_succ]
theorem first12 (sp : Sp) (sc : Sc) (g : GSc sc) (N : Nat) (hN : sumI sc.atoms = N) (hN12 : N ≤ 12) (hso : ∀ x : Nat, x < N → 0 ≤ sortAt sc x ∧ sortAt sc x < sp.sorts.length) :
    SoundP Tryz.prog 55 [eSp sp, eSc sc] (lI (firstR sp sc N)) := by
  refine SoundP.of_sound (Sound.of_awp Tryz.call55 Tryz.func55 rfl (Nat.le_of_ble_eq_true (by kernel_rfl)) (by kernel_rfl) (pl := {}) ?_)
  simp [go_sem]
  refine LoopGo.up N (fun x st => st.tm 2 = .ip [.lst false (sp.sorts.map cSort), .lst false (sp.fields.map cField), .lst false sp.preds, .lst false sp.facts] ∧ st.tm 3 = .ip [lI sc.atoms, aI sc.steps] ∧ st.tm 6 = aI x ∧ OwnF 0 st.mu 1 (st.tm 5) ((firstR sp sc x).map rI)) ?_ ?_
  · simp [go_sem, firstR]
    exact OwnF.lit [] (Nat.zero_le _)
  rintro x st hx ⟨e2, e3, e6, ho⟩
  simp [go_sem, e2, e3, e6]
  refine CallStep.pure (atoms07 sc g) (.cons (.hf (hf_eSc sc)) .nil) ?_
  rw [hN]
  by_cases hxN : x < N
  case neg =>
    have hge : x = N := by omega
    subst hge
    simp [go_sem, e2, e3, e6]
    exact ho.rdI
  have hfs := firstR_succ sp sc x
  have hfl : (firstR sp sc x).length = x := by simp [firstR]
  simp [go_sem, e2, e3, e6, hxN, show (x : Int) < 12 by omega]
  refine CallStep.pure (sort07 sc g x (by omega)) (.cons (.hf (hf_eSc sc)) (.cons (.hf (HF.sc _)) .nil)) ?_
  have hsx := hso x hxN
  have hal : ∀ y, al0 sp sc x y = (decide (sortAt sc y = sortAt sc x) && !ordAt sp (sortAt sc x)) := fun _ => rfl
  simp [go_sem, e2, e3, e6, hxN]
  refine LoopGo.up x (fun y st => st.tm 2 = .ip [.lst false (sp.sorts.map cSort), .lst false (sp.fields.map cField), .lst false sp.preds, .lst false sp.facts] ∧ st.tm 3 = .ip [lI sc.atoms, aI sc.steps] ∧ st.tm 6 = aI x ∧ st.tm 8 = aI (sortAt sc x) ∧ st.tm 9 = aI y ∧ st.tm 7 = aI ((lstF (al0 sp sc x) (List.range y) x : Nat) : Int) ∧ OwnF 0 st.mu 1 (st.tm 5) ((firstR sp sc x).map rI)) ?_ ?_
  · simp [go_sem, e2, e3, e6, lstF]
    exact ho
  clear e2 e3 e6 ho
  clear st
  rintro y st hy ⟨e2, e3, e6, e8, e9, e7, ho⟩
  by_cases hyx : y < x
  case neg =>
    have hge : y = x := by omega
    subst hge
    simp [go_sem, e2, e3, e6, e8, e9, e7]
    refine AppendStep.ints (lo := 0) (e := 3) (bt := 8) (z := 0) (xs := firstR sp sc y) (ys := [((lstF (al0 sp sc y) (List.range y) y : Nat) : Int)]) (by simp [go_sem]) (by simp [go_sem]) (by simp [go_sem]) (by omega) ho (by simp [rowsOf]) (by simp; omega) ?_
    intro av1 mu1 ho1 _
    simp [go_sem, e2, e3, e6, e8, e9, e7]
    exact ⟨hxN, wrap_i64 (by omega) (by omega), by rw [hfs]; exact ho1⟩
  have hlt := lstF_snoc (al0 sp sc x) (List.range y) y x (fun z hz => by simp at hz; omega)
  rw [hal] at hlt
  generalize lstF (al0 sp sc x) (List.range y) x = c at *
  simp [go_sem, e2, e3, e6, e8, e9, e7, hyx]
  refine CallStep.pure (sort07 sc g y (by omega)) (.cons (.hf (hf_eSc sc)) (.cons (.hf (HF.sc _)) .nil)) ?_
  by_cases h1 : sortAt sc y = sortAt sc x
  case neg =>
    rw [if_neg (by simp [h1])] at hlt
    simp [go_sem, e2, e3, e6, e8, e9, e7, hyx, h1]
    exact ⟨wrap_i64 (by omega) (by omega), hlt.symm, ho⟩
  unfold ordAt at hlt
  generalize sortAt sc (x : Int) = s at *
  have hsl : s.toNat < sp.sorts.length := by omega
  rw [List.getElem?_eq_getElem hsl] at hlt
  simp only [Option.map_some, Option.getD_some] at hlt
  by_cases h2 : sp.sorts[s.toNat].2 = true
  · rw [if_neg (by simp [h2])] at hlt
    simp [go_sem, e2, e3, e6, e8, e9, e7, hyx, h1, hsx, hsl, h2]
    exact ⟨wrap_i64 (by omega) (by omega), hlt.symm, ho⟩
  simp only [Bool.not_eq_true] at h2
  by_cases h3 : c = x
  · rw [if_pos (by simp [h1, h2, h3])] at hlt
    simp [go_sem, e2, e3, e6, e8, e9, e7, hyx, h1, hsx, hsl, h2, h3]
    exact ⟨wrap_i64 (by omega) (by omega), hlt.symm, ho⟩
  · rw [if_neg (by simp [h3])] at hlt
    simp [go_sem, e2, e3, e6, e8, e9, e7, hyx, h1, hsx, hsl, h2, h3]
    exact ⟨wrap_i64 (by omega) (by omega), hlt.symm, ho⟩

/-- one round of the reference -/
def al1 (N : Nat) (bs : List Bd) (cls : List Int) (x y : Nat) : Bool := decide (gI cls x = gI cls y) && alikeB N bs x y cls
def refR (N : Nat) (bs : List Bd) (cls : List Int) (n : Nat) : List Int := (List.range n).map fun x => ((lstF (al1 N bs cls x) (List.range x) x : Nat) : Int)
theorem refR_succ (N : Nat) (bs : List Bd) (cls : List Int) (n : Nat) : refR N bs cls (n + 1) = refR N bs cls n ++ [((lstF (al1 N bs cls n) (List.range n) n : Nat) : Int)] := by simp [refR, List.range_succ]
def refK (N : Nat) (bs : List Bd) (c : List Int) : Nat → List Int
  | 0 => c
  | k + 1 => refR N bs (refK N bs c k) N
theorem lstF_le (p : Nat → Bool) (x : Nat) : lstF p (List.range x) x ≤ x := by
  unfold lstF
  cases h : (List.range x).find? p with
  | none => simp
  | some z => have := List.mem_of_find?_eq_some h; simp at this ⊢; omega
structure GC (N : Nat) (c : List Int) : Prop where
  len : c.length = N
  val : ∀ v, v ∈ c → 0 ≤ v ∧ v ≤ 100
theorem refR_gc {N : Nat} (hN : N ≤ 12) (bs : List Bd) (cls : List Int) : GC N (refR N bs cls N) := ⟨by simp [refR], fun v hv => by
  obtain ⟨x, hx, rfl⟩ := List.mem_map.1 hv
  have := lstF_le (al1 N bs cls x) x
  simp at hx; omega⟩
theorem firstR_gc {N : Nat} (hN : N ≤ 12) (sp : Sp) (sc : Sc) : GC N (firstR sp sc N) := ⟨by simp [firstR], fun v hv => by
  obtain ⟨x, hx, rfl⟩ := List.mem_map.1 hv
  have := lstF_le (al0 sp sc x) x
  simp at hx; omega⟩
theorem refK_gc {N : Nat} (hN : N ≤ 12) (bs : List Bd) {c : List Int} (h : GC N c) : ∀ k, GC N (refK N bs c k)
  | 0 => h
  | k + 1 => refR_gc hN bs _
def classR (sp : Sp) (sc : Sc) (bs : List Bd) (N : Nat) : List Int := refK N bs (firstR sp sc N) N
theorem drop_range (x k : Nat) (h : k < x) : (List.range x).drop (x - (k + 1)) = (x - (k + 1)) :: (List.range x).drop (x - k) := by
  rw [List.drop_eq_getElem_cons (by simp; omega)]
  simp
  congr 1; omega
theorem class12 (sp : Sp) (sc : Sc) (g : GSc sc) (N : Nat) (hN : sumI sc.atoms = N) (hN12 : N ≤ 12) (hso : ∀ x : Nat, x < N → 0 ≤ sortAt sc x ∧ sortAt sc x < sp.sorts.length) (bs : List Bd) (hbl : bs.length ≤ 1000000) (gr : ∀ b, b ∈ bs → GR b.lo ∧ GR b.up) :
    SoundP Tryz.prog 25 [eSp sp, eSc sc, lBd bs] (lI (classR sp sc bs N)) := by
  have g0 := firstR_gc hN12 sp sc
  unfold classR
  have hfst := first12 sp sc g N hN hN12 hso
  generalize firstR sp sc N = c0 at *
  refine SoundP.of_sound (Sound.of_awp Tryz.call25 Tryz.func25 rfl (Nat.le_of_ble_eq_true (by kernel_rfl)) (by kernel_rfl) (pl := {}) ?_)
  simp [go_sem]
  refine CallStep.pure hfst (.cons (.hf (hf_eSp sp)) (.cons (.hf (hf_eSc sc)) .nil)) ?_
  simp [go_sem, g0.len]
  refine LoopGo.up N (fun k st => ∃ full, st.tm 2 = lBd bs ∧ st.tm 7 = .lst full ((refK N bs c0 k).map rI) ∧ st.tm 8 = aI N ∧ st.tm 9 = aI k) ?_ ?_
  · simp [go_sem, refK]
  rintro k st hk ⟨full, e2, e7, e8, e9⟩
  by_cases hkN : k < N
  case neg =>
    have hge : k = N := by omega
    subst hge
    simp [go_sem, e2, e7, e8, e9]
    exact .wk _ full _ (.hf _ (HF.lst hf_rI))
  have gk := refK_gc hN12 bs g0 k
  have hnx : refK N bs c0 (k + 1) = refR N bs (refK N bs c0 k) N := rfl
  generalize refK N bs c0 k = cls at *
  have hcl := gk.len
  simp [go_sem, e2, e7, e8, e9, hkN]
  refine LoopGo.upF N (fun x st => st.tm 2 = lBd bs ∧ st.tm 7 = .lst full (cls.map rI) ∧ st.tm 8 = aI N ∧ st.tm 9 = aI k ∧ st.tm 11 = aI x ∧ OwnF 0 st.mu 1 (st.tm 10) ((refR N bs cls x).map rI)) ?_ ?_
  · simp [go_sem, e2, e7, e8, e9, refR]
    exact OwnF.lit [] (Nat.zero_le _)
  clear e2 e7 e8 e9
  clear st
  rintro x st hx ⟨e2, e7, e8, e9, e11, ho⟩
  by_cases hxN : x < N
  case neg =>
    have hge : x = N := by omega
    subst hge
    rw [← hnx] at ho
    simp [go_sem, e2, e7, e8, e9, e11]
    refine FzQ.own (d := 10) rfl ho (rows_rI _) hf_rI ?_
    intro mu' full' hml hmj
    simp [go_sem, e2, e7, e8, e9, e11]
    exact ⟨hkN, wrap_i64 (by omega) (by omega)⟩
  have hrs := refR_succ N bs cls x
  have hrl : (refR N bs cls x).length = x := by simp [refR]
  simp [go_sem, e2, e7, e8, e9, e11, hxN]
  refine LoopGo.up x (fun d st => st.tm 2 = lBd bs ∧ st.tm 7 = .lst full (cls.map rI) ∧ st.tm 8 = aI N ∧ st.tm 9 = aI k ∧ st.tm 11 = aI x ∧ st.tm 13 = aI ((x : Int) - 1 - d) ∧ st.tm 12 = aI ((lstF (al1 N bs cls x) ((List.range x).drop (x - d)) x : Nat) : Int) ∧ OwnF 0 st.mu 1 (st.tm 10) ((refR N bs cls x).map rI)) ?_ ?_
  · simp [go_sem, e2, e7, e8, e9, e11, lstF]
    exact ⟨wrap_i64 (by omega) (by omega), by rw [List.drop_of_length_le (by simp)]; rfl, ho⟩
  clear e2 e7 e8 e9 e11 ho
  clear st
  rintro d st hd ⟨e2, e7, e8, e9, e11, e13, e12, ho⟩
  generalize hj : (x : Int) - 1 - d = j at *
  have hj1 : (x : Int) - 1 - ((d + 1 : Nat) : Int) = j - 1 := by omega
  by_cases hdx : d < x
  case neg =>
    have hge : d = x := by omega
    subst hge
    rw [Nat.sub_self, List.drop_zero] at e12
    simp [go_sem, e2, e7, e8, e9, e11, e13, e12, show ¬ 0 ≤ j by omega]
    refine AppendStep.ints (lo := 0) (e := 3) (bt := 8) (z := 0) (xs := refR N bs cls d) (ys := [((lstF (al1 N bs cls d) (List.range d) d : Nat) : Int)]) (by simp [go_sem]) (by simp [go_sem]) (by simp [go_sem]) (by omega) ho (by simp [rowsOf]) (by simp; omega) ?_
    intro av1 mu1 ho1 _
    simp [go_sem, e2, e7, e8, e9, e11, e13, e12]
    exact ⟨hxN, wrap_i64 (by omega) (by omega), by rw [hrs]; exact ho1⟩
  have hlt := lstF_cons (al1 N bs cls x) ((List.range x).drop (x - d)) (x - (d + 1)) x
  rw [← drop_range x d hdx] at hlt
  have hyj : j = ((x - (d + 1) : Nat) : Int) := by omega
  have hyx : x - (d + 1) < x := by omega
  generalize lstF (al1 N bs cls x) ((List.range x).drop (x - d)) x = c at *
  obtain ⟨c', hc'⟩ : ∃ c', c' = lstF (al1 N bs cls x) ((List.range x).drop (x - (d + 1))) x := ⟨_, rfl⟩
  rw [← hc'] at hlt
  obtain ⟨y, hy0⟩ : ∃ y, y = x - (d + 1) := ⟨_, rfl⟩
  rw [← hy0] at hlt hyj hyx
  subst hyj
  have hxc : x < cls.length := by omega
  have hyc : y < cls.length := by omega
  unfold al1 at hlt
  rw [gI_eq hxc, gI_eq hyc] at hlt
  simp [go_sem, e2, e7, e8, e9, e11, e13, e12]
  refine DrawGo.intro (by kernel_rfl) ?_
  have hw1 : IntKind.i64.wrap ((y : Int) - 1) = (y : Int) - 1 := wrap_i64 (by omega) (by omega)
  by_cases hcc : cls[x] = cls[y]
  case neg =>
    rw [if_neg (by simp [hcc])] at hlt
    simp [go_sem, e2, e7, e8, e9, e11, e13, e12, hxc, hyc, hcc, hxN, hw1]
    exact ⟨hdx, by omega, by rw [← hc', hlt], ho⟩
  simp [go_sem, e2, e7, e8, e9, e11, e13, e12, hxc, hyc, hcc, hxN, hw1]
  have hA := alikeB12 N bs x y cls ⟨by omega, by omega, gk.val⟩ (by omega) gr
  refine CallStep.pure hA (.cons (.hf (HF.sc _)) (.cons (.hf (hf_lBd bs)) (.cons (.hf (HF.sc _)) (.cons (.hf (HF.sc _)) (.cons (WK.ints cls) .nil))))) ?_
  cases hal : alikeB N bs x y cls with
  | false =>
    rw [hal, if_neg (by simp)] at hlt
    simp [go_sem, e2, e7, e8, e9, e11, e13, e12, hxc, hyc, hcc, hw1]
    exact ⟨hdx, by omega, by rw [← hc', hlt], ho⟩
  | true =>
    rw [hal, if_pos (by simp [hcc])] at hlt
    simp [go_sem, e2, e7, e8, e9, e11, e13, e12, hxc, hyc, hcc, hw1]
    exact ⟨hdx, by omega, by rw [← hc', hlt], ho⟩
end Go.Proofs.YtiophnmdopoeeaaGreat.R5

set_option linter.unusedVariables false
set_option linter.unusedSimpArgs false
set_option maxRecDepth 100000
namespace Go.Proofs.YtiophnmdopoeeaaGreat.R6
open Go Go.Ev Go.Proofs Go.Proofs.YtiophnmdopoeeaaGreat.C1 Go.Proofs.YtiophnmdopoeeaaGreat.C2 Go.Proofs.YtiophnmdopoeeaaGreat.C3 Go.Proofs.YtiophnmdopoeeaaGreat.C4 Go.Proofs.YtiophnmdopoeeaaGreat.C5 Go.Proofs.YtiophnmdopoeeaaGreat.C6 Go.Proofs.YtiophnmdopoeeaaGreat.C7 Go.Proofs.YtiophnmdopoeeaaGreat.C8 Go.Proofs.YtiophnmdopoeeaaGreat.C9 Go.Proofs.YtiophnmdopoeeaaGreat.C10 Go.Proofs.YtiophnmdopoeeaaGreat.C11 Go.Proofs.YtiophnmdopoeeaaGreat.C12 Go.Proofs.YtiophnmdopoeeaaGreat.C13 Go.Proofs.YtiophnmdopoeeaaGreat.C14 Go.Proofs.YtiophnmdopoeeaaGreat.C15 Go.Proofs.YtiophnmdopoeeaaGreat.C16 Go.Proofs.YtiophnmdopoeeaaGreat.C17 Go.Proofs.YtiophnmdopoeeaaGreat.C18 Go.Proofs.YtiophnmdopoeeaaGreat.C19 Go.Proofs.YtiophnmdopoeeaaGreat.C20 Go.Proofs.YtiophnmdopoeeaaGreat.C21 Go.Proofs.YtiophnmdopoeeaaGreat.C22 Go.Proofs.YtiophnmdopoeeaaGreat.C23 Go.Proofs.YtiophnmdopoeeaaGreat.C24 Go.Proofs.YtiophnmdopoeeaaGreat.C25 Go.Proofs.YtiophnmdopoeeaaGreat.C26 Go.Proofs.YtiophnmdopoeeaaGreat.C27 Go.Proofs.YtiophnmdopoeeaaGreat.C28 Go.Proofs.YtiophnmdopoeeaaGreat.C29 Go.Proofs.YtiophnmdopoeeaaGreat.C30 Go.Proofs.YtiophnmdopoeeaaGreat.C31 Go.Proofs.YtiophnmdopoeeaaGreat.C32 Go.Proofs.YtiophnmdopoeeaaGreat.C33 Go.Proofs.YtiophnmdopoeeaaGreat.C34 Go.Proofs.YtiophnmdopoeeaaGreat.C35 Go.Proofs.YtiophnmdopoeeaaGreat.L1 Go.Proofs.YtiophnmdopoeeaaGreat.L2 Go.Proofs.YtiophnmdopoeeaaGreat.L3 Go.Proofs.YtiophnmdopoeeaaGreat.L4 Go.Proofs.YtiophnmdopoeeaaGreat.L5 Go.Proofs.YtiophnmdopoeeaaGreat.L6 Go.Proofs.YtiophnmdopoeeaaGreat.L7 Go.Proofs.YtiophnmdopoeeaaGreat.L8 Go.Proofs.YtiophnmdopoeeaaGreat.L9 Go.Proofs.YtiophnmdopoeeaaGreat.L10 Go.Proofs.YtiophnmdopoeeaaGreat.L11 Go.Proofs.YtiophnmdopoeeaaGreat.L12 Go.Proofs.YtiophnmdopoeeaaGreat.L13 Go.Proofs.YtiophnmdopoeeaaGreat.L14 Go.Proofs.YtiophnmdopoeeaaGreat.L15 Go.Proofs.YtiophnmdopoeeaaGreat.R1 Go.Proofs.YtiophnmdopoeeaaGreat.R2 Go.Proofs.YtiophnmdopoeeaaGreat.R3 Go.Proofs.YtiophnmdopoeeaaGreat.R4 Go.Proofs.YtiophnmdopoeeaaGreat.R5

/-- the classes of the reference, as lists -/
def clsR (cls : List Int) (N k : Nat) : List (List Int) := ((List.range k).filter fun v : Nat => decide (0 < (filt cls N (v : Int)).length)).map fun v : Nat => (filt cls N (v : Int)).map fun (x : Nat) => (x : Int)
theorem clsR_succ (cls : List Int) (N k : Nat) : clsR cls N (k + 1) = clsR cls N k ++ (if 0 < (filt cls N (k : Int)).length then [(filt cls N (k : Int)).map fun (x : Nat) => (x : Int)] else []) := by
  unfold clsR
  rw [List.range_succ, List.filter_append, List.map_append]
  by_cases h : 0 < (filt cls N (k : Int)).length <;> simp [h]
theorem clsR_len (cls : List Int) (N k : Nat) : (clsR cls N k).length ≤ k := by
  unfold clsR
  have := List.length_filter_le (fun v : Nat => decide (0 < (filt cls N (v : Int)).length)) (List.range k)
  simpa using this
theorem filt_len (cls : List Int) (n : Nat) (c : Int) : (filt cls n c).length ≤ n := by
  have := List.length_filter_le (fun y => decide (gI cls y = c)) (List.range n)
  rw [List.length_range] at this
  exact this
theorem classes12 (sp : Sp) (sc : Sc) (g : GSc sc) (N : Nat) (hN : sumI sc.atoms = N) (hN12 : N ≤ 12) (hso : ∀ x : Nat, x < N → 0 ≤ sortAt sc x ∧ sortAt sc x < sp.sorts.length) (bs : List Bd) (hbl : bs.length ≤ 1000000) (gr : ∀ b, b ∈ bs → GR b.lo ∧ GR b.up) :
    SoundP Tryz.prog 8 [eSp sp, eSc sc, lBd bs] (lL (clsR (classR sp sc bs N) N N)) := by
  have hcl := (refK_gc hN12 bs (firstR_gc hN12 sp sc) N).len
  change (classR sp sc bs N).length = N at hcl
  have hcU := class12 sp sc g N hN hN12 hso bs hbl gr
  generalize classR sp sc bs N = cls at *
  refine SoundP.of_sound (Sound.of_awp Tryz.call8 Tryz.func8 rfl (Nat.le_of_ble_eq_true (by kernel_rfl)) (by kernel_rfl) (pl := {}) ?_)
  simp [go_sem]
  refine CallStep.pure hcU (.cons (.hf (hf_eSp sp)) (.cons (.hf (hf_eSc sc)) (.cons (.hf (hf_lBd bs)) .nil))) ?_
  simp [go_sem]
  refine LoopGo.up N (fun v st => st.tm 7 = lI cls ∧ st.tm 9 = aI v ∧ OwnR st.mu (st.tm 8) ((clsR cls N v).map lI)) ?_ ?_
  · simp [go_sem, clsR]
    exact .inl ⟨rfl, rfl⟩
  rintro v st hv ⟨e7, e9, ho⟩
  by_cases hvN : v < N
  case neg =>
    have hge : v = N := by omega
    subst hge
    simp [go_sem, e7, e9, hcl]
    have := OwnR.rd ho (fun x hx => by
      obtain ⟨n, _, rfl⟩ := List.mem_map.1 hx
      exact hf_lI _)
    rwa [rows_lI] at this
  have hcs := clsR_succ cls N v
  have hclen := clsR_len cls N v
  generalize clsR cls N v = M at *
  simp [go_sem, e7, e9, hcl, hvN]
  have hlt0 : ∀ b, blkOf (st.tm 8) = some b → b < st.mu.length := fun b hb => ho.lt hb
  generalize hR : st.mu.length = R at *
  refine LoopGo.up N (fun x st => st.tm 7 = lI cls ∧ st.tm 9 = aI v ∧ st.tm 11 = aI x ∧ OwnR st.mu (st.tm 8) (M.map lI) ∧ (∀ b, blkOf (st.tm 8) = some b → b < R) ∧ OwnF R st.mu 1 (st.tm 10) (((filt cls x (v : Int)).map fun (y : Nat) => (y : Int)).map rI)) ?_ ?_
  · simp [go_sem, e7, e9, filt]
    exact ⟨ho, hlt0, OwnF.lit [] (by omega)⟩
  clear e7 e9 ho hlt0 hR
  clear st
  rintro x st hx ⟨e7, e9, e11, ho, hlt, hp⟩
  have hfl := filt_len cls x v
  by_cases hxN : x < N
  case pos =>
    have hxc : x < cls.length := by omega
    have hfs := filt_succ cls x v
    rw [gI_eq hxc] at hfs
    simp [go_sem, e7, e9, e11, hcl, hxN, hxc]
    by_cases hc : cls[x] = (v : Int)
    · rw [if_pos hc] at hfs
      simp [go_sem, e7, e9, e11, hcl, hxN, hxc, hc]
      refine AppendStep.ints (lo := R) (e := 3) (bt := 8) (z := 0) (xs := (filt cls x (v : Int)).map fun (y : Nat) => (y : Int)) (ys := [(x : Int)]) (by simp [go_sem]) (by simp [go_sem]) (by simp [go_sem]) (by omega) hp (by simp [rowsOf]) (by simp; omega) ?_
      intro av1 mu1 ho1 hl1
      simp [go_sem, e7, e9, e11, hxN]
      refine ⟨wrap_i64 (by omega) (by omega), ho.same fun b hb => hl1 b (hlt b hb), hlt, ?_⟩
      rw [hfs]
      rw [← List.map_singleton (f := fun (y : Nat) => (y : Int)), ← List.map_append] at ho1
      simpa only [List.map_map] using ho1
    · rw [if_neg hc, List.append_nil] at hfs
      simp [go_sem, e7, e9, e11, hcl, hxN, hxc, hc]
      refine ⟨wrap_i64 (by omega) (by omega), ho, hlt, ?_⟩
      rw [hfs]
      simpa using hp
  have hge : x = N := by omega
  subst hge
  generalize hF : filt cls x (v : Int) = F0 at *
  rcases hp.1 with e10 | ⟨b, e10, _⟩
  · have hp' := hp
    rw [e10] at hp'
    simp only [List.map_map] at e10 hp' hcs
    simp [go_sem, e7, e9, e11, e10, hcl]
    by_cases hpos : 0 < F0.length
    · rw [if_pos hpos] at hcs
      simp [go_sem, e7, e9, e11, e10, hcl, hpos]
      refine AppendStep.giveL (R := R) (e := 28) (bt := 24) (L := M) (by simp [go_sem]) (by simp [go_sem]) (by simp [go_sem]) (by omega) ho hlt hp.2.2 (q := F0.map fun (y : Nat) => (y : Int)) (by rw [List.map_map]; exact hp') (by omega) ?_
      intro mu3 s3 ho3 _ _ _
      simp [go_sem, e7, e9, e11]
      refine ⟨hvN, wrap_i64 (by omega) (by omega), ?_⟩
      rw [hcs]; exact ho3
    · rw [if_neg hpos, List.append_nil] at hcs
      simp [go_sem, e7, e9, e11, e10, hcl, hpos]
      exact ⟨hvN, wrap_i64 (by omega) (by omega), by rw [hcs]; exact ho⟩
  · have hp' := hp
    rw [e10] at hp'
    simp only [List.map_map, List.length_map] at e10 hp' hcs
    simp [go_sem, e7, e9, e11, e10, hcl]
    by_cases hpos : 0 < F0.length
    · rw [if_pos hpos] at hcs
      simp [go_sem, e7, e9, e11, e10, hcl, hpos]
      refine AppendStep.giveL (R := R) (e := 28) (bt := 24) (L := M) (by simp [go_sem]) (by simp [go_sem]) (by simp [go_sem]) (by omega) ho hlt hp.2.2 (q := F0.map fun (y : Nat) => (y : Int)) (by rw [List.map_map]; exact hp') (by omega) ?_
      intro mu3 s3 ho3 _ _ _
      simp [go_sem, e7, e9, e11]
      refine ⟨hvN, wrap_i64 (by omega) (by omega), ?_⟩
      rw [hcs]; exact ho3
    · rw [if_neg hpos, List.append_nil] at hcs
      simp [go_sem, e7, e9, e11, e10, hcl, hpos]
      exact ⟨hvN, wrap_i64 (by omega) (by omega), by rw [hcs]; exact ho⟩
end Go.Proofs.YtiophnmdopoeeaaGreat.R6

set_option linter.unusedVariables false
set_option linter.unusedSimpArgs false
set_option maxRecDepth 100000
namespace Go.Proofs.YtiophnmdopoeeaaGreat.L16
open Go Go.Ev Go.Proofs Go.Proofs.YtiophnmdopoeeaaGreat.C1 Go.Proofs.YtiophnmdopoeeaaGreat.C2 Go.Proofs.YtiophnmdopoeeaaGreat.C3 Go.Proofs.YtiophnmdopoeeaaGreat.C4 Go.Proofs.YtiophnmdopoeeaaGreat.C5 Go.Proofs.YtiophnmdopoeeaaGreat.C6 Go.Proofs.YtiophnmdopoeeaaGreat.C7 Go.Proofs.YtiophnmdopoeeaaGreat.C8 Go.Proofs.YtiophnmdopoeeaaGreat.C9 Go.Proofs.YtiophnmdopoeeaaGreat.C10 Go.Proofs.YtiophnmdopoeeaaGreat.C11 Go.Proofs.YtiophnmdopoeeaaGreat.C12 Go.Proofs.YtiophnmdopoeeaaGreat.C13 Go.Proofs.YtiophnmdopoeeaaGreat.C14 Go.Proofs.YtiophnmdopoeeaaGreat.C15 Go.Proofs.YtiophnmdopoeeaaGreat.C16 Go.Proofs.YtiophnmdopoeeaaGreat.C17 Go.Proofs.YtiophnmdopoeeaaGreat.C18 Go.Proofs.YtiophnmdopoeeaaGreat.C19 Go.Proofs.YtiophnmdopoeeaaGreat.C20 Go.Proofs.YtiophnmdopoeeaaGreat.C21 Go.Proofs.YtiophnmdopoeeaaGreat.C22 Go.Proofs.YtiophnmdopoeeaaGreat.C23 Go.Proofs.YtiophnmdopoeeaaGreat.C24 Go.Proofs.YtiophnmdopoeeaaGreat.C25 Go.Proofs.YtiophnmdopoeeaaGreat.C26 Go.Proofs.YtiophnmdopoeeaaGreat.C27 Go.Proofs.YtiophnmdopoeeaaGreat.C28 Go.Proofs.YtiophnmdopoeeaaGreat.C29 Go.Proofs.YtiophnmdopoeeaaGreat.C30 Go.Proofs.YtiophnmdopoeeaaGreat.C31 Go.Proofs.YtiophnmdopoeeaaGreat.C32 Go.Proofs.YtiophnmdopoeeaaGreat.C33 Go.Proofs.YtiophnmdopoeeaaGreat.C34 Go.Proofs.YtiophnmdopoeeaaGreat.C35 Go.Proofs.YtiophnmdopoeeaaGreat.L1 Go.Proofs.YtiophnmdopoeeaaGreat.L2 Go.Proofs.YtiophnmdopoeeaaGreat.L3 Go.Proofs.YtiophnmdopoeeaaGreat.L4 Go.Proofs.YtiophnmdopoeeaaGreat.L5 Go.Proofs.YtiophnmdopoeeaaGreat.L6 Go.Proofs.YtiophnmdopoeeaaGreat.L7 Go.Proofs.YtiophnmdopoeeaaGreat.L8 Go.Proofs.YtiophnmdopoeeaaGreat.L9 Go.Proofs.YtiophnmdopoeeaaGreat.L10 Go.Proofs.YtiophnmdopoeeaaGreat.L11 Go.Proofs.YtiophnmdopoeeaaGreat.L12 Go.Proofs.YtiophnmdopoeeaaGreat.L13 Go.Proofs.YtiophnmdopoeeaaGreat.L14 Go.Proofs.YtiophnmdopoeeaaGreat.L15 Go.Proofs.YtiophnmdopoeeaaGreat.R1 Go.Proofs.YtiophnmdopoeeaaGreat.R2 Go.Proofs.YtiophnmdopoeeaaGreat.R3 Go.Proofs.YtiophnmdopoeeaaGreat.R4 Go.Proofs.YtiophnmdopoeeaaGreat.R5 Go.Proofs.YtiophnmdopoeeaaGreat.R6

/-- the numbers of the least mates -/
theorem lst_mem {p : Nat → Bool} {x : Nat} : lstF p (List.range x) x = x ∨ (lstF p (List.range x) x < x ∧ p (lstF p (List.range x) x) = true) := by
  unfold lstF
  cases h : (List.range x).find? p with
  | none => exact .inl rfl
  | some z =>
    have h1 := List.mem_of_find?_eq_some h
    have h2 := List.find?_some h
    simp at h1
    exact .inr ⟨h1, h2⟩
theorem lst_least {p : Nat → Bool} {x z : Nat} (hz : z < x) (hp : p z = true) : lstF p (List.range x) x ≤ z := by
  unfold lstF
  cases h : (List.range x).find? p with
  | none =>
    rw [List.find?_eq_none] at h
    exact absurd hp (h z (by simpa using hz))
  | some w =>
    simp only [Option.getD_some]
    rw [List.find?_eq_some_iff_append] at h
    obtain ⟨_, l1, l2, e, hn⟩ := h
    refine Decidable.byContradiction fun hc => ?_
    have hzm : z ∈ l1 := by
      have hl : (l1 ++ w :: l2)[l1.length]? = some w := by simp
      rw [← e] at hl
      have hal : l1.length < x := by
        have := congrArg List.length e; simp at this; omega
      rw [List.getElem?_range hal] at hl
      simp only [Option.some.injEq] at hl
      have hz2 : (List.range x)[z]? = some z := by simp [hz]
      rw [e, List.getElem?_append_left (by omega)] at hz2
      exact List.mem_of_getElem? hz2
    have := hn z hzm
    simp [hp] at this
structure LeastC (N : Nat) (al : Nat → Nat → Bool) (c : List Int) : Prop where
  get : ∀ x, x < N → gI c x = (lstF (al x) (List.range x) x : Nat)
  per : PER N fun x y => al x y = true
theorem LeastC.eq {N : Nat} {al : Nat → Nat → Bool} {c : List Int} (h : LeastC N al c) {x y : Nat} (hx : x < N) (hy : y < N) : EQ c x y ↔ x = y ∨ al x y = true := by
  have lo : ∀ x, x < N → ∀ z, z < N → (z = x ∨ al x z = true) → lstF (al x) (List.range x) x ≤ z := fun x hx z hz hr => by
    have := lstF_le (al x) x
    by_cases hzx : z < x
    · rcases hr with e | e
      · omega
      · exact lst_least hzx e
    · omega
  have me : ∀ x, x < N → lstF (al x) (List.range x) x < N ∧ (lstF (al x) (List.range x) x = x ∨ al x (lstF (al x) (List.range x) x) = true) := fun x hx => by
    rcases lst_mem (p := al x) (x := x) with e | e
    · exact ⟨by omega, .inl e⟩
    · exact ⟨by omega, .inr e.2⟩
  unfold EQ
  rw [h.get x hx, h.get y hy]
  obtain ⟨mx1, mx2⟩ := me x hx
  obtain ⟨my1, my2⟩ := me y hy
  have lx := lo x hx
  have ly := lo y hy
  generalize lstF (al x) (List.range x) x = m at *
  generalize lstF (al y) (List.range y) y = m' at *
  constructor
  · intro e
    have e : m = m' := by omega
    subst e
    rcases mx2 with e1 | e1
    · subst e1
      rcases my2 with e2 | e2
      · exact .inl e2
      · exact .inr (h.per.sy _ _ hy hx e2)
    · rcases my2 with e2 | e2
      · subst e2; exact .inr e1
      · exact .inr (h.per.tr _ _ _ hx mx1 hy e1 (h.per.sy _ _ hy mx1 e2))
  · rintro (e | e)
    · subst e
      have := lx m' my1 my2
      have := ly m mx1 mx2
      omega
    · have e' := h.per.sy _ _ hx hy e
      have h1 := lx m' my1 (by
        rcases my2 with e2 | e2
        · rw [e2]; exact .inr e
        · exact .inr (h.per.tr _ _ _ hx hy my1 e e2))
      have h2 := ly m mx1 (by
        rcases mx2 with e2 | e2
        · rw [e2]; exact .inr e'
        · exact .inr (h.per.tr _ _ _ hy hx mx1 e' e2))
      omega
theorem LeastC.least {N : Nat} {al : Nat → Nat → Bool} {c : List Int} (h : LeastC N al c) {x y : Nat} (hx : x < N) (hy : y < N) (e : EQ c x y) : gI c x ≤ (y : Int) := by
  rw [h.get x hx]
  have h1 := lstF_le (al x) x
  by_cases hyx : y < x
  · rcases (h.eq hx hy).1 e with e | e
    · omega
    · have := lst_least hyx e; omega
  · omega
theorem LeastC.fix {N : Nat} {al : Nat → Nat → Bool} {c : List Int} (h : LeastC N al c) {x : Nat} (hx : x < N) : ∃ m : Nat, m ≤ x ∧ gI c x = (m : Int) ∧ gI c m = (m : Int) ∧ EQ c x m := by
  refine ⟨lstF (al x) (List.range x) x, lstF_le _ _, h.get x hx, ?_⟩
  have hm : lstF (al x) (List.range x) x < N := by have := lstF_le (al x) x; omega
  have e : EQ c x (lstF (al x) (List.range x) x) := (h.eq hx hm).2 (by
    rcases lst_mem (p := al x) (x := x) with e | e
    · exact .inl e.symm
    · exact .inr e.2)
  refine ⟨?_, e⟩
  rw [← e, h.get x hx]

/-- words have numbers of their own -/
theorem enc_rank (u : List Int) : u.foldl (fun o t => 16 * o + t) 0 = rankF 16 u := by
  unfold rankF
  congr 1
  funext o t
  rw [Int.mul_comm]
theorem enc_inj {u v : List Int} (hl : u.length = v.length) (hu : Dg 16 u) (hv : Dg 16 v) (h : u.foldl (fun o t => 16 * o + t) 0 = v.foldl (fun o t => 16 * o + t) 0) : u = v := by
  rw [enc_rank, enc_rank, rankF_val, rankF_val] at h
  have h1 := digN_val (n := 16) (by omega) hu
  have h2 := digN_val (n := 16) (by omega) hv
  rw [← h1, ← h2, h, hl]
theorem enc_pos {u : List Int} (hu : Dg 16 u) : 0 ≤ u.foldl (fun o t => 16 * o + t) 0 := by
  rw [enc_rank, rankF_val]; exact (valD_ok (by omega) hu).1
theorem mem_wl {N : Nat} {cls : List Int} {r : Rl} {x : Int} {u : List Int} : u ∈ wl N cls r x ↔ ∃ t, t ∈ r.ts ∧ x ∈ digN N t r.ar.toNat ∧ WD cls x (digN N t r.ar.toNat) = u := by
  unfold wl
  rw [List.mem_map]
  constructor
  · rintro ⟨t, ht, e⟩
    rw [List.mem_filter, decide_eq_true_eq] at ht
    exact ⟨t, ht.1, ht.2, e⟩
  · rintro ⟨t, ht, hx, e⟩
    exact ⟨t, List.mem_filter.2 ⟨ht, by simpa using hx⟩, e⟩
theorem alikeR_iff {N : Nat} (hN12 : N ≤ 12) {r : Rl} (g : GRel N r) {cls : List Int} (hc : ∀ v, v < N → 0 ≤ gI cls v ∧ gI cls v < N) {x y : Nat} : alikeR N r x y cls = true ↔ (wl N cls r x).Perm (wl N cls r y) := by
  refine ⟨fun h => ?_, alikeR_of g⟩
  have wd : ∀ (z : Int) (t : Int), 1 ≤ N → Dg 16 (WD cls z (digN N t r.ar.toNat)) := by
    intro z t hN d hd
    unfold WD at hd
    obtain ⟨v, hv, rfl⟩ := List.mem_map.1 hd
    have := digN_dg (n := N) (by omega) r.ar.toNat v hv
    have := hc v.toNat (by omega)
    split <;> omega
  have wlen : ∀ (z : Int) u, u ∈ wl N cls r z → u.length = r.ar.toNat ∧ (1 ≤ N → Dg 16 u) := by
    intro z u hu
    obtain ⟨t, ht, hz, rfl⟩ := mem_wl.1 hu
    exact ⟨by rw [WD_len, digN_len], fun hN => wd z t hN⟩
  rw [alikeR, List.all_eq_true] at h
  have cnt : ∀ (z : Int) (u : List Int), u.length = r.ar.toNat → Dg 16 u → 1 ≤ N → wordsN N r z cls (u.foldl (fun o t => 16 * o + t) 0) = ((wl N cls r z).count u : Nat) := by
    intro z u hul hud hN
    rw [wordsN_wl hN g z cls _ (enc_pos hud)]
    congr 1
    unfold List.count
    refine List.countP_congr fun v hv => ?_
    obtain ⟨h1, h2⟩ := wlen z v hv
    rw [decide_eq_true_eq, beq_iff_eq]
    exact ⟨fun e => enc_inj (by omega) (h2 hN) hud e, fun e => by rw [e]⟩
  have key : ∀ (z : Int) (u : List Int), (z = x ∨ z = y) → u ∈ wl N cls r z → (wl N cls r x).count u = (wl N cls r y).count u := by
    intro z u hz hu
    obtain ⟨hul, hud⟩ := wlen z u hu
    obtain ⟨t, ht, hzd, hwd⟩ := mem_wl.1 hu
    have hN := GRel.pos g ht
    have hud := hud hN
    have hs := h t ht
    rw [alike1, Bool.and_eq_true] at hs
    have hd : digits N r.ar t = digN N t r.ar.toNat := by
      unfold digits
      have h1 := g.ar1
      have h3 := g.ar3
      have e1 : max 1 (N : Int) = N := by omega
      have e2 : powN r.ar = r.ar.toNat := by unfold powN; omega
      rw [e1, e2]
    have hw : wordOf (digits N r.ar t) z cls = u.foldl (fun o t => 16 * o + t) 0 := by
      rw [hd, wordOf, if_pos hzd, wordF_WD, hwd]
    have hsame : same1 N r x y cls (u.foldl (fun o t => 16 * o + t) 0) = true := by
      rcases hz with e | e
      · rw [← hw, e]; exact hs.1
      · rw [← hw, e]; exact hs.2
    unfold same1 at hsame
    have hp := enc_pos hud
    simp [hp] at hsame
    rw [cnt x u hul hud hN, cnt y u hul hud hN] at hsame
    exact Int.natCast_inj.1 hsame
  rw [List.perm_iff_count]
  intro u
  by_cases h1 : u ∈ wl N cls r x
  · exact key x u (.inl rfl) h1
  · by_cases h2 : u ∈ wl N cls r y
    · exact key y u (.inr rfl) h2
    · rw [List.count_eq_zero.2 h1, List.count_eq_zero.2 h2]
theorem alikeB_iff {N : Nat} (hN12 : N ≤ 12) {bs : List Bd} (g : ∀ r, r ∈ relsOf bs → GRel N r) {cls : List Int} (hc : ∀ v, v < N → 0 ≤ gI cls v ∧ gI cls v < N) {x y : Nat} : alikeB N bs x y cls = true ↔ AlikeW N (relsOf bs) cls x y := by
  refine ⟨fun h => ?_, alikeB_of g⟩
  intro r hr
  unfold relsOf at hr
  obtain ⟨b, hb, hr⟩ := List.mem_flatMap.1 hr
  unfold alikeB at h
  rw [List.all_eq_true] at h
  have := h b hb
  rw [Bool.and_eq_true] at this
  have m1 : b.lo ∈ relsOf bs := by unfold relsOf; exact List.mem_flatMap.2 ⟨b, hb, by simp⟩
  have m2 : b.up ∈ relsOf bs := by unfold relsOf; exact List.mem_flatMap.2 ⟨b, hb, by simp⟩
  simp at hr
  rcases hr with rfl | rfl
  · exact (alikeR_iff hN12 (g _ m1) hc).1 this.1
  · exact (alikeR_iff hN12 (g _ m2) hc).1 this.2

/-- how many classes there are -/
theorem firsts_le {N : Nat} {c c' : List Int} (h : ∀ x y, x < N → y < N → EQ c' x y → EQ c x y) : ∀ k, k ≤ N → firstsN c k ≤ firstsN c' k
  | 0, _ => by simp [firstsN]
  | k + 1, hk => by
    have ih := firsts_le h k (by omega)
    rw [firstsN, firstsN]
    by_cases h1 : ∃ y, y < k ∧ gI c' y = gI c' k
    · have h2 : ∃ y, y < k ∧ gI c y = gI c k := by
        obtain ⟨y, hy, e⟩ := h1
        exact ⟨y, hy, h y k (by omega) (by omega) e⟩
      rw [if_pos h1, if_pos h2]; omega
    · rw [if_neg h1]; split <;> omega
theorem firsts_eq {N : Nat} {c c' : List Int} (h : ∀ x y, x < N → y < N → EQ c' x y → EQ c x y) : ∀ k, k ≤ N → firstsN c k = firstsN c' k → ∀ x y, x < k → y < k → EQ c x y → EQ c' x y
  | 0, _, _, x, y, hx, _, _ => by omega
  | k + 1, hk, he, x, y, hx, hy, hxy => by
    have hle := firsts_le h k (by omega)
    rw [firstsN, firstsN] at he
    have ind : (∃ y, y < k ∧ gI c y = gI c k) → ∃ y, y < k ∧ gI c' y = gI c' k := by
      intro h1
      refine Classical.byContradiction fun h2 => ?_
      rw [if_pos h1, if_neg h2] at he
      omega
    have hek : firstsN c k = firstsN c' k := by
      by_cases h1 : ∃ y, y < k ∧ gI c y = gI c k
      · rw [if_pos h1, if_pos (ind h1)] at he; omega
      · rw [if_neg h1] at he
        by_cases h2 : ∃ y, y < k ∧ gI c' y = gI c' k
        · obtain ⟨z, hz, e⟩ := h2
          exact absurd ⟨z, hz, h z k (by omega) (by omega) e⟩ h1
        · rw [if_neg h2] at he; omega
    have ih := firsts_eq h k (by omega) hek
    have last : ∀ z, z < k → EQ c z k → EQ c' z k := by
      intro z hz e
      obtain ⟨w, hw, e2⟩ := ind ⟨z, hz, e⟩
      have e3 := h w k (by omega) (by omega) e2
      have := ih z w hz hw (e.trans e3.symm)
      exact this.trans e2
    by_cases hxk : x = k
    · by_cases hyk : y = k
      · rw [hxk, hyk]
      · rw [hxk] at hxy ⊢
        exact (last y (by omega) hxy.symm).symm
    · by_cases hyk : y = k
      · rw [hyk] at hxy ⊢
        exact last x (by omega) hxy
      · exact ih x y (by omega) (by omega) hxy
theorem firsts_max (c : List Int) : ∀ k : Nat, 0 ≤ firstsN c k ∧ firstsN c k ≤ k ∧ (0 < k → 1 ≤ firstsN c k)
  | 0 => by simp [firstsN]
  | k + 1 => by
    obtain ⟨h1, h2, h3⟩ := firsts_max c k
    rw [firstsN]
    by_cases hk : 0 < k
    · have := h3 hk
      split <;> refine ⟨by omega, by omega, fun _ => by omega⟩
    · have hk0 : k = 0 := by omega
      subst hk0
      rw [if_neg (by rintro ⟨y, hy, _⟩; omega)]
      exact ⟨by omega, by omega, fun _ => by omega⟩
end Go.Proofs.YtiophnmdopoeeaaGreat.L16

set_option linter.unusedVariables false
set_option linter.unusedSimpArgs false
set_option maxRecDepth 100000
namespace Go.Proofs.YtiophnmdopoeeaaGreat.L17
open Go Go.Ev Go.Proofs Go.Proofs.YtiophnmdopoeeaaGreat.C1 Go.Proofs.YtiophnmdopoeeaaGreat.C2 Go.Proofs.YtiophnmdopoeeaaGreat.C3 Go.Proofs.YtiophnmdopoeeaaGreat.C4 Go.Proofs.YtiophnmdopoeeaaGreat.C5 Go.Proofs.YtiophnmdopoeeaaGreat.C6 Go.Proofs.YtiophnmdopoeeaaGreat.C7 Go.Proofs.YtiophnmdopoeeaaGreat.C8 Go.Proofs.YtiophnmdopoeeaaGreat.C9 Go.Proofs.YtiophnmdopoeeaaGreat.C10 Go.Proofs.YtiophnmdopoeeaaGreat.C11 Go.Proofs.YtiophnmdopoeeaaGreat.C12 Go.Proofs.YtiophnmdopoeeaaGreat.C13 Go.Proofs.YtiophnmdopoeeaaGreat.C14 Go.Proofs.YtiophnmdopoeeaaGreat.C15 Go.Proofs.YtiophnmdopoeeaaGreat.C16 Go.Proofs.YtiophnmdopoeeaaGreat.C17 Go.Proofs.YtiophnmdopoeeaaGreat.C18 Go.Proofs.YtiophnmdopoeeaaGreat.C19 Go.Proofs.YtiophnmdopoeeaaGreat.C20 Go.Proofs.YtiophnmdopoeeaaGreat.C21 Go.Proofs.YtiophnmdopoeeaaGreat.C22 Go.Proofs.YtiophnmdopoeeaaGreat.C23 Go.Proofs.YtiophnmdopoeeaaGreat.C24 Go.Proofs.YtiophnmdopoeeaaGreat.C25 Go.Proofs.YtiophnmdopoeeaaGreat.C26 Go.Proofs.YtiophnmdopoeeaaGreat.C27 Go.Proofs.YtiophnmdopoeeaaGreat.C28 Go.Proofs.YtiophnmdopoeeaaGreat.C29 Go.Proofs.YtiophnmdopoeeaaGreat.C30 Go.Proofs.YtiophnmdopoeeaaGreat.C31 Go.Proofs.YtiophnmdopoeeaaGreat.C32 Go.Proofs.YtiophnmdopoeeaaGreat.C33 Go.Proofs.YtiophnmdopoeeaaGreat.C34 Go.Proofs.YtiophnmdopoeeaaGreat.C35 Go.Proofs.YtiophnmdopoeeaaGreat.L1 Go.Proofs.YtiophnmdopoeeaaGreat.L2 Go.Proofs.YtiophnmdopoeeaaGreat.L3 Go.Proofs.YtiophnmdopoeeaaGreat.L4 Go.Proofs.YtiophnmdopoeeaaGreat.L5 Go.Proofs.YtiophnmdopoeeaaGreat.L6 Go.Proofs.YtiophnmdopoeeaaGreat.L7 Go.Proofs.YtiophnmdopoeeaaGreat.L8 Go.Proofs.YtiophnmdopoeeaaGreat.L9 Go.Proofs.YtiophnmdopoeeaaGreat.L10 Go.Proofs.YtiophnmdopoeeaaGreat.L11 Go.Proofs.YtiophnmdopoeeaaGreat.L12 Go.Proofs.YtiophnmdopoeeaaGreat.L13 Go.Proofs.YtiophnmdopoeeaaGreat.L14 Go.Proofs.YtiophnmdopoeeaaGreat.L15 Go.Proofs.YtiophnmdopoeeaaGreat.R1 Go.Proofs.YtiophnmdopoeeaaGreat.R2 Go.Proofs.YtiophnmdopoeeaaGreat.R3 Go.Proofs.YtiophnmdopoeeaaGreat.R4 Go.Proofs.YtiophnmdopoeeaaGreat.R5 Go.Proofs.YtiophnmdopoeeaaGreat.R6 Go.Proofs.YtiophnmdopoeeaaGreat.L16

/-- labels that are atoms -/
structure GL (N : Nat) (c : List Int) : Prop where
  len : c.length = N
  rng : ∀ v, v < N → 0 ≤ gI c v ∧ gI c v < N
theorem gI_map_range {f : Nat → Int} {n x : Nat} (h : x < n) : gI ((List.range n).map f) x = f x := by
  rw [gI_eq (by simpa using h)]; simp
theorem firstR_least {sp : Sp} {sc : Sc} {N : Nat} : LeastC N (al0 sp sc) (firstR sp sc N) := by
  refine ⟨fun x hx => gI_map_range hx, ⟨fun x y _ _ h => ?_, fun x y z _ _ _ h k => ?_⟩⟩
  · unfold al0 at h ⊢
    rw [Bool.and_eq_true, decide_eq_true_eq] at h ⊢
    exact ⟨h.1.symm, by rw [h.1]; exact h.2⟩
  · unfold al0 at h k ⊢
    rw [Bool.and_eq_true, decide_eq_true_eq] at h k ⊢
    exact ⟨k.1.trans h.1, h.2⟩
theorem LeastC.gl {N : Nat} {al : Nat → Nat → Bool} {c : List Int} (h : LeastC N al c) (hl : c.length = N) : GL N c := ⟨hl, fun v hv => by
  rw [h.get v hv]
  have := lstF_le (al v) v
  omega⟩
theorem refR_least {N : Nat} (hN12 : N ≤ 12) {bs : List Bd} (g : ∀ r, r ∈ relsOf bs → GRel N r) {c : List Int} (hc : GL N c) : LeastC N (al1 N bs c) (refR N bs c N) := by
  refine ⟨fun x hx => gI_map_range hx, ⟨fun x y _ _ h => ?_, fun x y z _ _ _ h k => ?_⟩⟩
  · unfold al1 at h ⊢
    rw [Bool.and_eq_true, decide_eq_true_eq, alikeB_iff hN12 g hc.rng] at h ⊢
    exact ⟨h.1.symm, fun r hr => (h.2 r hr).symm⟩
  · unfold al1 at h k ⊢
    rw [Bool.and_eq_true, decide_eq_true_eq, alikeB_iff hN12 g hc.rng] at h k ⊢
    exact ⟨h.1.trans k.1, fun r hr => (h.2 r hr).trans (k.2 r hr)⟩
theorem refR_iff {N : Nat} (hN12 : N ≤ 12) {bs : List Bd} (g : ∀ r, r ∈ relsOf bs → GRel N r) {c : List Int} (hc : GL N c) {x y : Nat} (hx : x < N) (hy : y < N) : EQ (refR N bs c N) x y ↔ EQ c x y ∧ AlikeW N (relsOf bs) c x y := by
  rw [(refR_least hN12 g hc).eq hx hy]
  unfold al1
  rw [Bool.and_eq_true, decide_eq_true_eq, alikeB_iff hN12 g hc.rng]
  constructor
  · rintro (e | e)
    · subst e; exact ⟨rfl, fun r _ => .refl _⟩
    · exact e
  · exact .inr
theorem refK_gl {N : Nat} (hN12 : N ≤ 12) {bs : List Bd} (g : ∀ r, r ∈ relsOf bs → GRel N r) {c : List Int} (hc : GL N c) : ∀ k, GL N (refK N bs c k)
  | 0 => hc
  | k + 1 => LeastC.gl (refR_least hN12 g (refK_gl hN12 g hc k)) (by simp [refK, refR])
def Stb (N : Nat) (rs : List Rl) (c : List Int) : Prop := ∀ x y, x < N → y < N → EQ c x y → AlikeW N rs c x y
theorem refK_stb {N : Nat} (hN12 : N ≤ 12) {bs : List Bd} (g : ∀ r, r ∈ relsOf bs → GRel N r) {c : List Int} (hc : GL N c) : ∀ k, Stb N (relsOf bs) (refK N bs c k) ∨ firstsN c N + k ≤ firstsN (refK N bs c k) N
  | 0 => .inr (by simp [refK])
  | k + 1 => by
    have hg := refK_gl hN12 g hc k
    have hi := fun x y (hx : x < N) (hy : y < N) => refR_iff hN12 g hg hx hy
    have hsub : ∀ x y, x < N → y < N → EQ (refK N bs c (k + 1)) x y → EQ (refK N bs c k) x y := fun x y hx hy h => ((hi x y hx hy).1 h).1
    have hle := firsts_le hsub N (Nat.le_refl _)
    rcases refK_stb hN12 g hc k with h | h
    · refine .inl fun x y hx hy e => ?_
      have e1 := hsub x y hx hy e
      exact alike_coarse (fun v hv => (hg.rng v hv).1) (fun v w hv hw e => (hi v w hv hw).2 ⟨e, h v w hv hw e⟩) g (fun r hr => hr) hx hy (h x y hx hy e1)
    · by_cases hs : Stb N (relsOf bs) (refK N bs c k)
      · refine .inl fun x y hx hy e => ?_
        have e1 := hsub x y hx hy e
        exact alike_coarse (fun v hv => (hg.rng v hv).1) (fun v w hv hw e => (hi v w hv hw).2 ⟨e, hs v w hv hw e⟩) g (fun r hr => hr) hx hy (hs x y hx hy e1)
      · refine .inr ?_
        have hne : firstsN (refK N bs c k) N ≠ firstsN (refK N bs c (k + 1)) N := fun he => hs fun x y hx hy e => by
          have := firsts_eq hsub N (Nat.le_refl _) he x y hx hy e
          exact ((hi x y hx hy).1 this).2
        omega
theorem classR_stb {sp : Sp} {sc : Sc} {bs : List Bd} {N : Nat} (hN12 : N ≤ 12) (g : ∀ r, r ∈ relsOf bs → GRel N r) : Stb N (relsOf bs) (classR sp sc bs N) := by
  have hc : GL N (firstR sp sc N) := LeastC.gl firstR_least (by simp [firstR])
  rcases refK_stb hN12 g hc N with h | h
  · exact h
  · intro x y hx hy _
    have h1 := firsts_max (firstR sp sc N) N
    have h2 := firsts_max (refK N bs (firstR sp sc N) N) N
    have := h1.2.2 (by omega)
    omega
theorem classR_gl {sp : Sp} {sc : Sc} {bs : List Bd} {N : Nat} (hN12 : N ≤ 12) (g : ∀ r, r ∈ relsOf bs → GRel N r) : GL N (classR sp sc bs N) := refK_gl hN12 g (LeastC.gl firstR_least (by simp [firstR])) N
theorem refK_sub {sp : Sp} {sc : Sc} {bs : List Bd} {N : Nat} (hN12 : N ≤ 12) (g : ∀ r, r ∈ relsOf bs → GRel N r) : ∀ k x y, x < N → y < N → EQ (refK N bs (firstR sp sc N) k) x y → EQ (firstR sp sc N) x y
  | 0, x, y, _, _, h => h
  | k + 1, x, y, hx, hy, h => refK_sub hN12 g k x y hx hy ((refR_iff hN12 g (refK_gl hN12 g (LeastC.gl firstR_least (by simp [firstR])) k) hx hy).1 h).1
theorem al0_alike {sp : Sp} {sc : Sc} {x y : Nat} : al0 sp sc x y = true ↔ alike0 sp sc x y = true := by
  unfold al0 alike0 sortU
  rw [if_neg (by omega), if_neg (by omega), Bool.and_eq_true, Bool.and_eq_true, decide_eq_true_eq, decide_eq_true_eq]
  exact ⟨fun h => ⟨h.1.symm, h.2⟩, fun h => ⟨h.1.symm, h.2⟩⟩
/-- both partitions are the same -/
theorem class_same {sp : Sp} {sc : Sc} {bs : List Bd} {most : Int} {N : Nat} (F : Fit sp sc bs most N) {x y : Nat} (hx : x < N) (hy : y < N) : EQ (classR sp sc bs N) x y ↔ EQ (stableS sp sc bs).1 x y := by
  have hN12 := F.le12
  obtain ⟨m, _, S⟩ := stableF (sp := sp) F.hN F.g
  constructor
  · intro h
    have := stable_coarsest F.hN F.g (idL_perm N) (d := classR sp sc bs N) (fun v hv => ((classR_gl hN12 F.g).rng v hv).1) (Moved.sub F.g fun r hr => hr) (fun x y hx hy e => by
      rw [ap_id hx, ap_id hy]
      rcases (firstR_least.eq hx hy).1 (refK_sub hN12 F.g N x y hx hy e) with e | e
      · exact .inl e
      · exact .inr (al0_alike.1 e)) (classR_stb hN12 F.g) x y hx hy h
    rwa [ap_id hx, ap_id hy] at this
  · intro h
    have key : ∀ k x y, x < N → y < N → EQ (stableS sp sc bs).1 x y → EQ (refK N bs (firstR sp sc N) k) x y := by
      intro k
      induction k with
      | zero =>
        intro x y hx hy e
        refine (firstR_least.eq hx hy).2 ?_
        rcases S.fine0 x y hx hy e with e | e
        · exact .inl e
        · exact .inr (al0_alike.2 e)
      | succ k ih =>
        intro x y hx hy e
        refine (refR_iff hN12 F.g (refK_gl hN12 F.g (LeastC.gl firstR_least (by simp [firstR])) k) hx hy).2 ⟨ih x y hx hy e, ?_⟩
        exact alike_coarse (fun v hv => (S.rng v hv).1) (fun v w hv hw e => ih v w hv hw e) F.g (fun r hr => hr) hx hy (S.stab x y hx hy e)
    exact key N x y hx hy h
/-- each class is named by its least atom -/
theorem classR_fix {sp : Sp} {sc : Sc} {bs : List Bd} {N : Nat} (hN12 : N ≤ 12) (g : ∀ r, r ∈ relsOf bs → GRel N r) : (∀ x, x < N → ∃ m : Nat, m ≤ x ∧ gI (classR sp sc bs N) x = (m : Int) ∧ gI (classR sp sc bs N) m = (m : Int)) ∧
    ∀ x y, x < N → y < N → EQ (classR sp sc bs N) x y → gI (classR sp sc bs N) x ≤ (y : Int) := by
  have h0 : GL N (firstR sp sc N) := LeastC.gl firstR_least (by simp [firstR])
  unfold classR
  cases hk : N with
  | zero => exact ⟨fun x hx => by omega, fun x y hx => by omega⟩
  | succ k =>
    rw [← hk]
    have hL : LeastC N (al1 N bs (refK N bs (firstR sp sc N) k)) (refK N bs (firstR sp sc N) N) := by
      conv => arg 3; rw [show refK N bs (firstR sp sc N) N = refK N bs (firstR sp sc N) (k + 1) by rw [← hk]]
      exact refR_least hN12 g (refK_gl hN12 g h0 k)
    exact ⟨fun x hx => by
      obtain ⟨m, h1, h2, h3, _⟩ := hL.fix hx
      exact ⟨m, h1, h2, h3⟩, fun x y hx hy e => hL.least hx hy e⟩
theorem sorted_ext {l m : List Nat} (h1 : l.Pairwise (· < ·)) (h2 : m.Pairwise (· < ·)) (h : ∀ x, x ∈ l ↔ x ∈ m) : l = m := by
  have n1 : l.Nodup := h1.imp fun h e => by omega
  have n2 : m.Nodup := h2.imp fun h e => by omega
  exact List.Perm.eq_of_pairwise (le := (· ≤ ·)) (fun a b _ _ h1 h2 => by omega) (h1.imp fun h => by omega) (h2.imp fun h => by omega) ((List.perm_ext_iff_of_nodup n1 n2).2 h)
theorem classes_same {sp : Sp} {sc : Sc} {bs : List Bd} {most : Int} {N : Nat} (F : Fit sp sc bs most N) : clsR (classR sp sc bs N) N N = classesS sp sc bs := by
  have hN12 := F.le12
  obtain ⟨m, hm, S⟩ := stableF (sp := sp) F.hN F.g
  have hcan := stable_canon (sp := sp) F.hN bs
  have hsame := fun x y (hx : x < N) (hy : y < N) => class_same F hx hy
  obtain ⟨hfix, hleast⟩ := classR_fix (sp := sp) (sc := sc) hN12 F.g
  unfold classesS
  rw [hm, S.len, Int.toNat_natCast]
  generalize (stableS sp sc bs).1 = c at *
  generalize classR sp sc bs N = d at *
  rw [clsN_eq c m N S.rng]
  have hons := (canon_onto hcan (fun x hx => (S.rng x hx).1) N (Nat.le_refl _)).2.2
  rw [S.onto] at hons
  have hpos : ∀ v, v < m → 0 < (filt c N (v : Int)).length := fun v hv => by
    obtain ⟨y, hy, e⟩ := hons v (by omega) (by omega)
    exact List.length_pos_iff.2 (fun h => by have := mem_filt.2 ⟨hy, e⟩; rw [h] at this; simp at this)
  have hfst : ∀ u, u < m → fstA c N (u : Int) < N ∧ gI c (fstA c N (u : Int)) = (u : Int) := fun u hu => by
    have := mem_filt.1 (List.getElem_mem (hpos u hu))
    rw [← fstA_eq (hpos u hu)] at this
    exact this
  have hfl : ∀ u, u < m → ∀ y, y < N → gI c y = (u : Int) → fstA c N (u : Int) ≤ y := fun u hu y hy e => by
    rw [fstA_eq (hpos u hu)]; exact filt_head (hpos u hu) hy e
  have hdf : ∀ u, u < m → gI d (fstA c N (u : Int)) = (fstA c N (u : Int) : Nat) := fun u hu => by
    obtain ⟨h1, h2⟩ := hfst u hu
    obtain ⟨z, hz, e1, e2⟩ := hfix _ h1
    have : EQ d z (fstA c N (u : Int)) := by unfold EQ; rw [e1, e2]
    have e3 := (hsame z _ (by omega) h1).1 this
    have := hfl u hu z (by omega) (e3.trans h2)
    have : z = fstA c N (u : Int) := by omega
    rw [e1, this]
  have hA : ((List.range N).filter fun v : Nat => decide (0 < (filt d N (v : Int)).length)) = (List.range m).map fun u : Nat => fstA c N (u : Int) := by
    refine sorted_ext (List.Pairwise.filter _ List.pairwise_lt_range) ?_ fun v => ?_
    · rw [List.pairwise_map]
      refine List.Pairwise.imp_of_mem ?_ List.pairwise_lt_range
      intro a b ha hb hab
      simp at ha hb
      obtain ⟨h1, h2⟩ := hfst b hb
      obtain ⟨y, hy, e⟩ := hcan _ h1 a (by omega) (by rw [h2]; omega)
      have := hfl a ha y (by omega) e
      omega
    · rw [List.mem_filter, decide_eq_true_eq, List.mem_range, List.mem_map]
      constructor
      · rintro ⟨hv, hp⟩
        have hmx := List.getElem_mem hp
        generalize (filt d N (v : Int))[0] = x at hmx
        obtain ⟨hx, hdx⟩ := mem_filt.1 hmx
        have hr := S.rng x hx
        refine ⟨(gI c x).toNat, by rw [List.mem_range]; omega, ?_⟩
        have hu : (gI c x).toNat < m := by omega
        obtain ⟨z, hz, e1, e2⟩ := hfix x hx
        have hzv : z = v := by omega
        subst hzv
        have hzx : EQ d z x := by unfold EQ; rw [e1, e2]
        have h1 := hfl _ hu z hv (by rw [(hsame z x hv hx).1 hzx]; omega)
        obtain ⟨h2, h3⟩ := hfst _ hu
        have h4 : EQ c x (fstA c N ((gI c x).toNat : Int)) := by unfold EQ; rw [h3]; omega
        have h5 := hleast x _ hx h2 ((hsame x _ hx h2).2 h4)
        omega
      · rintro ⟨u, hu, rfl⟩
        rw [List.mem_range] at hu
        obtain ⟨h1, h2⟩ := hfst u hu
        refine ⟨h1, List.length_pos_iff.2 (fun h => ?_)⟩
        have := mem_filt.2 ⟨h1, hdf u hu⟩
        rw [h] at this; simp at this
  unfold clsR
  rw [hA, List.map_map]
  refine List.map_congr_left fun u hu => ?_
  rw [List.mem_range] at hu
  obtain ⟨h1, h2⟩ := hfst u hu
  show (filt d N (fstA c N (u : Int) : Int)).map _ = _
  congr 1
  unfold filt
  refine List.filter_congr fun x hx => ?_
  rw [List.mem_range] at hx
  have h3 := hdf u hu
  have h4 := hsame x _ hx h1
  unfold EQ at h4
  rw [h3, h2] at h4
  simp only [decide_eq_decide]
  exact h4

theorem flatMap_filt {α β : Type} (p : α → Bool) (f : α → List β) : ∀ l : List α, (l.filter p).flatMap f = l.flatMap fun y => if p y = true then f y else []
  | [] => rfl
  | y :: l => by
    have ih := flatMap_filt p f l
    rw [List.filter_cons, List.flatMap_cons]
    by_cases h : p y = true
    · rw [if_pos h, if_pos h, List.flatMap_cons, ih]
    · rw [if_neg h, if_neg h, ih]; rfl
/-- the level order and the search find the same permutations -/
theorem lvl_ext {sc : Sc} (g : GSc sc) {N : Nat} (hN : sumI sc.atoms = N) : ∀ i, i ≤ N → (lvl sc N i).flatMap (extG N (sortsL sc) anyP (N - i)) = extG N (sortsL sc) anyP N []
  | 0, _ => by simp [lvl]
  | i + 1, hi => by
    rw [← lvl_ext g hN i (by omega), lvl, List.flatMap_assoc]
    refine flatMap_congr' _ _ _ fun p hp => ?_
    have hl := lvl_each sc N i p hp
    rw [show N - i = (N - (i + 1)) + 1 by omega, extG]
    unfold stepN
    rw [List.flatMap_map, flatMap_filt]
    refine flatMap_congr' _ _ _ fun y hy => ?_
    rw [List.mem_range] at hy
    have hs : ∀ x : Nat, x < N → gI (sortsL sc) x = sortAt sc x := fun x hx => by
      rw [sortsL_get g hN hx, sortU, if_neg (by omega)]
    have hc : (decide (sortAt sc y = sortAt sc i ∧ ¬ (y : Int) ∈ p) = true) ↔ goOn (sortsL sc) anyP p y := by
      unfold goOn
      rw [decide_eq_true_eq, hl, hs y hy, hs i (by omega)]
      exact ⟨fun h => ⟨h.1, h.2, rfl⟩, fun h => ⟨h.1, h.2.1⟩⟩
    by_cases h : goOn (sortsL sc) anyP p y
    · rw [if_pos h, if_pos (hc.2 h)]
    · rw [if_neg h, if_neg (fun h2 => h (hc.1 h2))]
theorem lvl_all {sc : Sc} (g : GSc sc) {N : Nat} (hN : sumI sc.atoms = N) : lvl sc N N = allS N sc := by
  have := lvl_ext g hN N (Nat.le_refl _)
  rw [Nat.sub_self] at this
  rw [allS, ← this]
  have : ∀ l : List (List Int), l.flatMap (extG N (sortsL sc) anyP 0) = l := by
    intro l
    induction l with
    | nil => rfl
    | cons a l ih => rw [List.flatMap_cons, ih]; rfl
  rw [this]
/-- the listed pairs are the same -/
theorem swapRow_congr {c c' : List Int} {s s' : Nat → Nat → Bool} {x : Nat} {l : List (Int × Int)} : ∀ d, (∀ e, e < d → ((gI c x = gI c (x + 1 + e) ∧ s x (x + 1 + e) = true) ↔ (gI c' x = gI c' (x + 1 + e) ∧ s' x (x + 1 + e) = true))) → swapRow c s x l d = swapRow c' s' x l d
  | 0, _ => rfl
  | d + 1, h => by
    have ih := swapRow_congr (l := l) d fun e he => h e (by omega)
    have hd := h d (by omega)
    have st : ∀ c s, swapRow c s x l (d + 1) = if gI c x = gI c (x + 1 + d) ∧ s x (x + 1 + d) = true then swapRow c s x l d ++ [((x : Int), ((x + 1 + d : Nat) : Int))] else swapRow c s x l d := fun c s => by rw [swapRow, foldN_succ, ← swapRow]
    rw [st, st, ih]
    by_cases hc : gI c x = gI c (x + 1 + d) ∧ s x (x + 1 + d) = true
    · rw [if_pos hc, if_pos (hd.1 hc)]
    · rw [if_neg hc, if_neg (fun h2 => hc (hd.2 h2))]
theorem swapsN_congr {c c' : List Int} {s s' : Nat → Nat → Bool} {n : Nat} (h : ∀ x y, x < y → y < n → ((gI c x = gI c y ∧ s x y = true) ↔ (gI c' x = gI c' y ∧ s' x y = true))) : ∀ k, k ≤ n → swapsN c s n k = swapsN c' s' n k
  | 0, _ => rfl
  | k + 1, hk => by
    have ih := swapsN_congr h k (by omega)
    have st : ∀ c s, swapsN c s n (k + 1) = swapRow c s k (swapsN c s n k) (n - (k + 1)) := fun c s => by rw [swapsN, foldN_succ, ← swapsN]
    rw [st, st, ih]
    exact swapRow_congr _ fun e he => h k (k + 1 + e) (by omega) (by omega)
theorem swaps_same {sp : Sp} {sc : Sc} {bs : List Bd} {most : Int} {N : Nat} (F : Fit sp sc bs most N) : swapsN [] (sw2 sp sc bs N) N N = swapsS sp sc bs := by
  unfold swapsS
  rw [stable_len F]
  refine swapsN_congr (fun x y hxy hy => ?_) N (Nat.le_refl _)
  have hp := swap_perm (N := N) (x := x) (y := y) (by omega) hy
  rw [swap_cond F (by omega) hy, mem_grp F]
  have e : gI [] x = gI [] y := rfl
  unfold sw2
  rw [Bool.and_eq_true, fixes_iff F hp, symB_iff F.hN F.g]
  exact ⟨fun h => ⟨h.2.2, h.2.1⟩, fun h => ⟨e, h.2, h.1⟩⟩
theorem grp_same {sp : Sp} {sc : Sc} {bs : List Bd} {most : Int} {N : Nat} (F : Fit sp sc bs most N) : ((lvl sc N N).filter fun q => fixesOk sp sc q && symB sc bs q) = grpS sp sc N bs := by
  rw [lvl_all F.u.g F.hN, grp_filter F]
end Go.Proofs.YtiophnmdopoeeaaGreat.L17
