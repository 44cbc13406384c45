/-
  Own library, part 4: an abstract reading of values and a calculus over it; contracts of functions; plain lemmas.
-/
import Derived.Sort.Grow
import Derived.Shelf.Small.Bits
import Derived.Shelf.Strconv.Itoa0
import Derived.Shelf.Strconv.Itoa1
import Derived.Shelf.LaysM
import Derived.Shelf.Strconv.Itoa2
import Derived.Shelf.Strconv.Itoa3
import Derived.Shelf.Bits.Mul64
import Derived.Ground.Names2Prog
import Derived.Shelf.Slices.SearchI
import Derived.Ground.SlsfProg
import Derived.Shelf.SlSortCmp.Insertion
import Derived.Shelf.SlSortCmp.SiftDown1
import Derived.Shelf.SlSortCmp.HeapSort1
import Derived.Shelf.SlSortCmp.Insertion1
import Derived.Shelf.SlSortCmp.Median1
import Derived.Shelf.SlSortCmp.Pivot1
import Derived.Shelf.SlSortCmp.ReverseRange1
import Derived.Shelf.SlSortCmp.PartialInsertion1
import Derived.Shelf.SlSortCmp.PartitionEqual1
import Derived.Shelf.SlSortCmp.Partition1
import Derived.Shelf.SlSortCmp.Pdq1
import Derived.Shelf.SlSortCmp.Whole1
import Derived.Shelf.SlSortCmp.NoneTotal
import Derived.Test.YtcfopdccdeeleaaGreatDoorProg
import Derived.Test.YtcfopdccdeeleaaGreatDoorMc
set_option linter.unusedVariables false
set_option linter.unusedSimpArgs false
set_option maxRecDepth 100000


namespace Go.Proofs.YtcfopdccdeeleaaGreatDoor.P1
open Go Go.Ev Go.Proofs Y1 Y2 Y3 Y4
abbrev Tp := List Int
structure Pd where
  name : ByteArray
  params : List (ByteArray × Int)
  body : Nd
structure TS where
  sorts : List (ByteArray × Bool)
  fields : List Fld
  preds : List Pd
  facts : List (ByteArray × Nd)
def ins (l : List Tp) (t : Tp) : List Tp := if t ∈ l then l else l ++ [t]
def uni (a b : List Tp) : List Tp := b.foldl ins a
theorem mem_ins {l : List Tp} {t x : Tp} : x ∈ ins l t ↔ x ∈ l ∨ x = t := by
  unfold ins
  split
  · exact ⟨.inl, fun h => h.elim id fun e => by rw [e]; assumption⟩
  · simp
theorem mem_uni {a b : List Tp} {x : Tp} : x ∈ uni a b ↔ x ∈ a ∨ x ∈ b := by
  unfold uni
  induction b generalizing a with
  | nil => simp
  | cons t b ih =>
    rw [List.foldl_cons, ih, mem_ins, List.mem_cons, or_assoc]
theorem nodup_ins {l : List Tp} {t : Tp} (h : l.Nodup) : (ins l t).Nodup := by
  unfold ins
  split
  · exact h
  · rename_i hn
    rw [List.nodup_append]
    exact ⟨h, by simp, fun x hx y hy e => by simp at hy; subst hy; subst e; exact hn hx⟩
theorem nodup_uni {a b : List Tp} (h : a.Nodup) : (uni a b).Nodup := by
  unfold uni
  induction b generalizing a with
  | nil => exact h
  | cons t b ih => exact ih (nodup_ins h)
def kOf (l : List Int) : Kd := ⟨l.length, [pad l]⟩
def kSum (a b : Kd) : Kd := ⟨a.ar, uni (uni [] a.ts) b.ts⟩
def conc (x : Tp) (n : Nat) (y : Tp) (m skip : Nat) : Tp := pad (x.take (n - skip) ++ (y.take m).drop skip)
def pairs (a b : List Tp) : List (Tp × Tp) := a.flatMap fun x => b.map fun y => (x, y)
theorem mem_pairs {a b : List Tp} {x y : Tp} : (x, y) ∈ pairs a b ↔ x ∈ a ∧ y ∈ b := by
  simp [pairs]
def joinL (n m : Nat) (a b : List Tp) : List Tp := uni [] ((pairs a b).filterMap fun q => if q.1.getD (n - 1) 0 = q.2.getD 0 0 then some (conc q.1 n q.2 m 1) else none)
def kJoin (a b : Kd) : Kd := ⟨a.ar + b.ar - 2, joinL a.ar.toNat b.ar.toNat a.ts b.ts⟩
def prodL (n m : Nat) (a b : List Tp) : List Tp := uni [] ((pairs a b).map fun q => conc q.1 n q.2 m 0)
def kProd (a b : Kd) : Kd := ⟨a.ar + b.ar, prodL a.ar.toNat b.ar.toNat a.ts b.ts⟩
def cloN : Nat → Nat → Kd → Kd
  | 0, _, a => a
  | f + 1, n, a => if n < a.ts.length then cloN f a.ts.length (kSum a (kJoin a a)) else a
def kClo (a : Kd) : Kd := cloN 70 0 a
def kDiag (ns ar : Nat) : Kd := ⟨ar, (List.range ns).map fun (i : Nat) => pad (List.replicate ar (i : Int))⟩
def kInter (a b : Kd) : Kd := ⟨a.ar, a.ts.filter fun t => decide (t ∈ b.ts)⟩
def kTr (a : Kd) : Kd := ⟨2, uni [] (a.ts.map fun t => [t.getD 1 0, t.getD 0 0, 0])⟩
def sFirst : ByteArray := ⟨#[95, 102, 105, 114, 115, 116]⟩
def sNext : ByteArray := ⟨#[95, 110, 101, 120, 116]⟩
def meanF (fs : List Fld) (nm : ByteArray) : List Kd := fs.filterMap fun f => if f.name = nm then some (kOf f.sorts) else none
def meanS1 (i : Nat) (s : ByteArray × Bool) (nm : ByteArray) : List Kd :=
  (if s.1 = nm then [kOf [(i : Int)]] else []) ++ ((if s.2 = true ∧ s.1 ++ sFirst = nm then [kOf [(i : Int)]] else []) ++ (if s.2 = true ∧ s.1 ++ sNext = nm then [kOf [(i : Int), (i : Int)]] else []))
def meanS : Nat → List (ByteArray × Bool) → ByteArray → List Kd
  | _, [], _ => []
  | i, s :: r, nm => meanS1 i s nm ++ meanS (i + 1) r nm
def means (ts : TS) (nm : ByteArray) : List Kd := meanF ts.fields nm ++ meanS 0 ts.sorts nm
structure Ck where
  ts : TS
  calls : Nat
  timed : List Bool
def calleeL (c : Ck) (nm : ByteArray) : Option Nat := (c.ts.preds.take c.calls).findIdx? fun p => decide (p.name = nm)
def timeOp (op : Int) : Bool := decide (op = 5) || decide (op = 48) || decide (op = 49) || decide (op = 50) || decide (op = 51)
def timeOfL (c : Ck) (op : Int) (nm : ByteArray) : Bool := timeOp op || (decide (op = 47) && (match calleeL c nm with | some p => c.timed.getD p false | none => false))
mutual
def tempL (c : Ck) : Nd → Bool
  | .mk op nm n ks p => timeOfL c op nm || tempLs c ks
def tempLs (c : Ck) : List Nd → Bool
  | [] => false
  | k :: ks => tempL c k || tempLs c ks
end
def tmsL (ts : TS) : Nat → List Bool
  | 0 => []
  | k + 1 => tmsL ts k ++ (match ts.preds[k]? with | some p => [tempL ⟨ts, k, tmsL ts k⟩ p.body] | none => [])
def mkCk (ts : TS) (calls : Nat) : Ck := ⟨ts, calls, tmsL ts calls⟩
abbrev Scp := List (ByteArray × Kd)
abbrev Dg := Int × Int
abbrev Res := Except Dg (Option Kd)
def nameK (c : Ck) (s : Scp) (nm : ByteArray) (pos : Int) : Res :=
  match findS nm s with
  | v :: _ => .ok (some v.2)
  | [] => match means c.ts nm with
    | [] => .error (40, pos)
    | [k] => .ok (some k)
    | _ => .error (44, pos)
def alikeK (op : Int) (a b : Kd) : Kd := if op = 6 ∨ op = 14 then kSum a b else if op = 7 then kInter a b else a
def binK (ns : Nat) (op : Int) (a : Kd) : Kd := if op = 12 then kClo a else if op = 13 then kSum (kClo a) (kDiag ns 2) else kTr a
def applyK (ns : Nat) (op n pos : Int) (l : List (Option Kd)) : Res :=
  if op = 2 then .ok (some ⟨n, []⟩)
  else if op = 3 then .ok (some (kDiag ns 1))
  else if op = 4 then .ok (some (kDiag ns 2))
  else match l with
    | [a] => if op = 5 then .ok a else match a with
      | some a => if op = 11 ∨ op = 12 ∨ op = 13 then (if a.ar = 2 then .ok (some (binK ns op a)) else .error (42, pos)) else .ok none
      | none => .ok none
    | [some a, some b] =>
      if op = 6 ∨ op = 14 ∨ op = 7 ∨ op = 8 ∨ op = 32 ∨ op = 33 then (if a.ar = b.ar then .ok (some (alikeK op a b)) else .error (42, pos))
      else if op = 9 then (if 1 ≤ a.ar + b.ar - 2 ∧ a.ar + b.ar - 2 ≤ 3 then .ok (some (kJoin a b)) else .error (42, pos))
      else if op = 10 then (if a.ar + b.ar ≤ 3 then .ok (some (kProd a b)) else .error (42, pos))
      else .ok none
    | _ => .ok none
def argOk (i : Int) (k : Kd) : Bool := k.ts.all fun t => decide (t.getD 0 0 = i)
def arO : Option Kd → Int
  | some k => k.ar
  | none => 0
mutual
def exam (c : Ck) (s : Scp) (inn : Bool) : Nd → Res
  | .mk op nm n ks pos =>
    if (inn && timeOfL c op nm) = true then .error (46, pos)
    else if op = 1 then nameK c s nm pos
    else if op = 47 then
      if (c.ts.preds.any fun p => decide (p.name = nm)) = true then
        match calleeL c nm with
        | none => .error (45, pos)
        | some p => match c.ts.preds[p]? with
          | none => .error (45, pos)
          | some pd => if pd.params.length = ks.length then examA c s pos pd.params ks else .error (45, pos)
      else .error (40, pos)
    else if op = 15 ∨ op = 45 ∨ op = 46 then examB c s (inn || decide (op = 15)) nm pos ks
    else match examL c s (inn || decide (op = 12) || decide (op = 13)) ks with
      | .error e => .error e
      | .ok l => applyK c.ts.sorts.length op n pos l
def examL (c : Ck) (s : Scp) (inn : Bool) : List Nd → Except Dg (List (Option Kd))
  | [] => .ok []
  | k :: ks => match exam c s inn k with
    | .error e => .error e
    | .ok a => match examL c s inn ks with
      | .error e => .error e
      | .ok l => .ok (a :: l)
def examA (c : Ck) (s : Scp) (pos : Int) : List (ByteArray × Int) → List Nd → Res
  | _, [] => .ok none
  | [], _ => .ok none
  | p :: ps, k :: ks => match exam c s true k with
    | .error e => .error e
    | .ok none => .error (42, pos)
    | .ok (some a) => if a.ar = 1 then (if argOk p.2 a = true then examA c s pos ps ks else .error (43, pos)) else .error (42, pos)
def examB (c : Ck) (s : Scp) (inn : Bool) (nm : ByteArray) (pos : Int) : List Nd → Res
  | [] => .ok none
  | k :: ks => match exam c s inn k with
    | .error e => .error e
    | .ok none => .error (42, pos)
    | .ok (some a) => if a.ar = 1 then (match examL c ((nm, a) :: s) inn ks with
        | .error e => .error e
        | .ok _ => .ok (some a)) else .error (42, pos)
end
def bindL (env : List (ByteArray × Int)) : Scp := env.foldl (fun s p => (p.1, kOf [p.2]) :: s) []
def dgOf : Res → Dg
  | .ok _ => (0, 0)
  | .error e => e
def formK (c : Ck) (env : List (ByteArray × Int)) (n : Nd) : Dg := if 30 ≤ n.op then dgOf (exam c (bindL env) false n) else (43, n.pos)
def checkF (ts : TS) (env : List (ByteArray × Int)) (n : Nd) : Dg := formK (mkCk ts ts.preds.length) env n
end Go.Proofs.YtcfopdccdeeleaaGreatDoor.P1


namespace Go.Ev
open Go
structure KeyT (P : Program) (kt : TypeId) {κ : Type} [DecidableEq κ] (kenc : κ → AV) (ok : κ → Prop) : Prop where
  eq : ∀ a b, ok a → ok b → keyEq P kt (kenc a) (kenc b) = some (decide (a = b))
  kok : ∀ a, ok a → keyOk P kt (kenc a) = true
section
variable {κ α : Type} [DecidableEq κ]
def placeK (k : κ) : List (κ × α) → Nat → Option Nat
  | [], _ => none
  | e :: es, i => if k = e.1 then some i else placeK k es (i + 1)
def getK (k : κ) : List (κ × α) → Option α
  | [] => none
  | e :: es => if k = e.1 then some e.2 else getK k es
def setK (k : κ) (v : α) : List (κ × α) → List (κ × α)
  | [] => [(k, v)]
  | e :: es => if k = e.1 then (k, v) :: es else e :: setK k v es
theorem placeK_some {k : κ} : ∀ {es : List (κ × α)} {i : Nat} {j : Nat}, placeK k es i = some j → ∃ n v, j = i + n ∧ es[n]? = some (k, v) ∧ getK k es = some v
  | [], _, _, h => by simp [placeK] at h
  | e :: es, i, j, h => by
    unfold placeK at h
    unfold getK
    split at h
    · rename_i hk
      subst hk
      simp only [Option.some.injEq] at h
      subst h
      exact ⟨0, e.2, rfl, rfl, by simp⟩
    · rename_i hk
      obtain ⟨n, v, rfl, h1, h2⟩ := placeK_some h
      exact ⟨n + 1, v, by omega, by simpa using h1, by rw [if_neg hk]; exact h2⟩
theorem placeK_none {k : κ} : ∀ {es : List (κ × α)} {i : Nat}, placeK k es i = none → getK k es = none ∧ ∀ v, setK k v es = es ++ [(k, v)]
  | [], _, _ => ⟨rfl, fun _ => rfl⟩
  | e :: es, i, h => by
    unfold placeK at h
    split at h
    · exact absurd h (by simp)
    · rename_i hk
      obtain ⟨h1, h2⟩ := placeK_none h
      refine ⟨by unfold getK; rw [if_neg hk]; exact h1, fun v => ?_⟩
      simp only [setK, if_neg hk, h2 v, List.cons_append]
theorem placeK_set {k : κ} {v : α} : ∀ {es : List (κ × α)} {i n : Nat}, placeK k es i = some (i + n) → setK k v es = es.set n (k, v)
  | [], _, _, h => by simp [placeK] at h
  | e :: es, i, n, h => by
    unfold placeK at h
    split at h
    · rename_i hk
      have : n = 0 := by simp only [Option.some.injEq] at h; omega
      subst this
      simp [setK, hk]
    · rename_i hk
      obtain ⟨m, v', hm, _⟩ := placeK_some h
      have : n = m + 1 := by omega
      subst this
      have h' : placeK k es (i + 1) = some (i + 1 + m) := by rw [h, Nat.add_assoc, Nat.add_comm 1 m]
      simp only [setK, if_neg hk, placeK_set (v := v) h', List.set_cons_succ]
theorem setK_keys {k : κ} {v : α} : ∀ {es : List (κ × α)} {x : κ}, x ∈ (setK k v es).map Prod.fst ↔ x = k ∨ x ∈ es.map Prod.fst
  | [], x => by simp [setK]
  | e :: es, x => by
    unfold setK
    split
    · rename_i hk; subst hk; simp
    · simp only [List.map_cons, List.mem_cons, setK_keys]
      constructor
      · rintro (h | h | h)
        · exact .inr (.inl h)
        · exact .inl h
        · exact .inr (.inr h)
      · rintro (h | h | h)
        · exact .inr (.inl h)
        · exact .inl h
        · exact .inr (.inr h)
theorem setK_nodup {k : κ} {v : α} : ∀ {es : List (κ × α)}, (es.map Prod.fst).Nodup → ((setK k v es).map Prod.fst).Nodup
  | [], _ => by simp [setK]
  | e :: es, h => by
    unfold setK
    split
    · rename_i hk; subst hk; simpa using h
    · rename_i hk
      rw [List.map_cons, List.nodup_cons] at h ⊢
      exact ⟨fun hm => (setK_keys.1 hm).elim (fun e => hk e.symm) h.1, setK_nodup h.2⟩
theorem getK_mem {k : κ} {v : α} : ∀ {es : List (κ × α)}, (es.map Prod.fst).Nodup → (getK k es = some v ↔ (k, v) ∈ es)
  | [], _ => by simp [getK]
  | e :: es, h => by
    rw [List.map_cons, List.nodup_cons] at h
    unfold getK
    by_cases hk : k = e.1
    · rw [if_pos hk]
      subst hk
      refine ⟨fun h => ?_, fun hm => ?_⟩
      · cases h; exact List.mem_cons_self
      · rcases List.mem_cons.1 hm with h1 | h1
        · rw [← h1]
        · exact absurd (List.mem_map.2 ⟨_, h1, rfl⟩) h.1
    · rw [if_neg hk, getK_mem h.2, List.mem_cons]
      exact ⟨.inr, fun h => h.elim (fun e => absurd (congrArg Prod.fst e) hk) id⟩
def delK (k : κ) : List (κ × α) → List (κ × α)
  | [] => []
  | e :: es => if k = e.1 then es else e :: delK k es
theorem delK_mem {k : κ} : ∀ {es : List (κ × α)}, (es.map Prod.fst).Nodup → ∀ {x : κ × α}, x ∈ delK k es ↔ x ∈ es ∧ x.1 ≠ k
  | [], _, x => by simp [delK]
  | e :: es, h, x => by
    rw [List.map_cons, List.nodup_cons] at h
    unfold delK
    by_cases hk : k = e.1
    · rw [if_pos hk]
      refine ⟨fun hm => ⟨List.mem_cons_of_mem _ hm, fun e1 => ?_⟩, fun hm => ?_⟩
      · exact h.1 (List.mem_map.2 ⟨x, hm, by rw [e1, hk]⟩)
      · rcases List.mem_cons.1 hm.1 with h1 | h1
        · exact absurd (by rw [h1, hk]) hm.2
        · exact h1
    · rw [if_neg hk, List.mem_cons, List.mem_cons, delK_mem h.2]
      refine ⟨fun h1 => ?_, fun h1 => ?_⟩
      · rcases h1 with rfl | h1
        · exact ⟨.inl rfl, fun e => hk e.symm⟩
        · exact ⟨.inr h1.1, h1.2⟩
      · rcases h1 with ⟨h1 | h1, h2⟩
        · exact .inl h1
        · exact .inr ⟨h1, h2⟩
theorem delK_sub {k : κ} : ∀ {es : List (κ × α)}, (delK k es).Sublist es
  | [] => by simp [delK]
  | e :: es => by
    unfold delK
    split
    · exact List.sublist_cons_self _ _
    · exact delK_sub.cons_cons _
theorem delK_nodup {k : κ} {es : List (κ × α)} (h : (es.map Prod.fst).Nodup) : ((delK k es).map Prod.fst).Nodup := h.sublist (delK_sub.map _)
theorem placeK_del {k : κ} : ∀ {es : List (κ × α)} {i : Nat}, (match placeK k es i with | some j => es.eraseIdx (j - i) | none => es) = delK k es
  | [], i => by simp [placeK, delK]
  | e :: es, i => by
    unfold placeK delK
    by_cases hk : k = e.1
    · simp [hk]
    · rw [if_neg hk, if_neg hk, ← placeK_del (i := i + 1)]
      cases hp : placeK k es (i + 1) with
      | none => rfl
      | some j =>
        obtain ⟨n, v, hj, _⟩ := placeK_some hp
        simp only
        rw [show j - i = (j - (i + 1)) + 1 by omega, List.eraseIdx_cons_succ]
abbrev encK (kenc : κ → AV) (venc : α → AV) (es : List (κ × α)) : List (AV × AV) := es.map fun e => (kenc e.1, venc e.2)
variable {P : Program} {kt : TypeId} {kenc : κ → AV} {ok : κ → Prop} {venc : α → AV}
theorem KeyT.find (h : KeyT P kt kenc ok) {k : κ} (hk : ok k) : ∀ {es : List (κ × α)} {i : Nat}, (∀ e, e ∈ es → ok e.1) → findA P kt (kenc k) (encK kenc venc es) i = some (placeK k es i)
  | [], i, _ => rfl
  | e :: es, i, ho => by
    simp only [encK, List.map_cons, findA, h.eq k e.1 hk (ho e (by simp)), placeK]
    by_cases hx : k = e.1
    · simp [hx]
    · simp only [hx, decide_false, if_false]
      exact KeyT.find h hk (fun e he => ho e (by simp [he]))
theorem KeyT.update (h : KeyT P kt kenc ok) {et : TypeId} {t : TypeId} (ht : mapT P t = some (kt, et)) {mu : Mu} {b : Nat} {es : List (κ × α)} (hm : mu[b]? = some (.mp (encK kenc venc es))) {k : κ} {v : α} (hk : ok k) (ho : ∀ e, e ∈ es → ok e.1) :
    mapUpdateA P mu t (.mp b) (kenc k) (venc v) = some (mu.set b (.mp (encK kenc venc (setK k v es)))) := by
  simp only [mapUpdateA, ht, hm, h.kok k hk, if_true, h.find (venc := venc) hk ho, Option.map_some]
  cases hp : placeK k es 0 with
  | none => simp only [putEnt, (placeK_none hp).2 v, encK, List.map_append, List.map_cons, List.map_nil]
  | some j =>
    have h0 : placeK k es 0 = some (0 + j) := by rw [hp, Nat.zero_add]
    simp only [putEnt, placeK_set (v := v) h0, encK, List.map_set]
theorem KeyT.updateD (h : KeyT P kt kenc ok) {et : TypeId} {t : TypeId} (ht : mapT P t = some (kt, et)) {mu : Mu} {b : Nat} {es : List (κ × α)} (hm : mu[b]? = some (.md (encK kenc venc es))) {k : κ} {v : α} (hk : ok k) (ho : ∀ e, e ∈ es → ok e.1) :
    mapUpdateA P mu t (.mp b) (kenc k) (venc v) = some (mu.set b (.md (encK kenc venc (setK k v es)))) := by
  simp only [mapUpdateA, ht, hm, h.kok k hk, if_true, h.find (venc := venc) hk ho, Option.map_some]
  cases hp : placeK k es 0 with
  | none => simp only [putEnt, (placeK_none hp).2 v, encK, List.map_append, List.map_cons, List.map_nil]
  | some j =>
    have h0 : placeK k es 0 = some (0 + j) := by rw [hp, Nat.zero_add]
    simp only [putEnt, placeK_set (v := v) h0, encK, List.map_set]
theorem eraseIdx_map {β γ : Type} (f : β → γ) : ∀ (l : List β) (i : Nat), (l.map f).eraseIdx i = (l.eraseIdx i).map f
  | [], _ => rfl
  | x :: l, 0 => rfl
  | x :: l, i + 1 => by simp [eraseIdx_map f l i]
theorem KeyT.delete (h : KeyT P kt kenc ok) {et : TypeId} {t t' : TypeId} (ht : mapT P t = some (kt, et)) {mu : Mu} {b : Nat} {es : List (κ × α)} (hm : mu[b]? = some (.mp (encK kenc venc es))) {k : κ} (hk : ok k) (ho : ∀ e, e ∈ es → ok e.1) {K : AV → Mu → Prop}
    (kk : K (.tup []) (mu.set b (.md (encK kenc venc (delK k es))))) : ExtGo P mu .delete #[t, t'] [.mp b, kenc k] K := by
  refine ExtGo_delete ht hm (h.kok k hk) (h.find (venc := venc) hk ho) ?_
  have := placeK_del (k := k) (es := es) (i := 0)
  rw [← this] at kk
  cases hp : placeK k es 0 with
  | none => simpa only [hp, delE] using kk
  | some j =>
    simp only [hp, Nat.sub_zero] at kk
    have e : delE (encK kenc venc es) (some j) = encK kenc venc (es.eraseIdx j) := by simp only [delE, encK, eraseIdx_map]
    rw [e]; exact kk
theorem KeyT.look (h : KeyT P kt kenc ok) {et : TypeId} {t : TypeId} (ht : mapT P t = some (kt, et)) {mu : Mu} {m : AV} {es : List (κ × α)} (hm : entriesOf mu m = some (encK kenc venc es)) {k : κ} (hk : ok k) (ho : ∀ e, e ∈ es → ok e.1) {z : AV} (hz : zeroOf P et = some z) (b : Bool) :
    lookupO P mu t m (kenc k) b = some (match getK k es with | some v => if b then .tup [venc v, .sc (.bool true)] else venc v | none => if b then .tup [z, .sc (.bool false)] else z) := by
  simp only [lookupO, ht, hm, h.kok k hk, if_true, h.find (venc := venc) hk ho]
  cases hp : placeK k es 0 with
  | none => simp only [(placeK_none hp).1, hz, Option.map_some]
  | some j =>
    obtain ⟨n, v, hj, h1, h2⟩ := placeK_some hp
    rw [Nat.zero_add] at hj
    subst hj
    simp only [h2, encK, List.getElem?_map, h1, Option.map_some]
theorem KeyT.lookS (h : KeyT P kt kenc ok) {et : TypeId} {t : TypeId} (ht : mapT P t = some (kt, et)) {mu : Mu} {es : List (κ × α)} {k : κ} (hk : ok k) (ho : ∀ e, e ∈ es → ok e.1) {z : AV} (hz : zeroOf P et = some z) (b : Bool) :
    lookupA P mu t (.ims (encK kenc venc es)) (kenc k) b = some (match getK k es with | some v => if b then .tup [venc v, .sc (.bool true)] else venc v | none => if b then .tup [z, .sc (.bool false)] else z) := by
  have ha : (encK kenc venc es).all (fun e => keyOk P kt e.1) = true := List.all_eq_true.2 fun e he => by
    obtain ⟨x, hx, rfl⟩ := List.mem_map.1 he
    exact h.kok _ (ho x hx)
  simp only [lookupA, ht, ha, if_true]
  exact h.look ht (m := .im _) rfl hk ho hz b
end
def seenQ (n : Nat) (J : List Nat → St → Prop) (seen : List Nat) (Q : AExit → St → Prop) : AExit → St → Prop
  | .normal, st => ∃ i, i < n ∧ i ∉ seen ∧ Keep (J (seen ++ [i])) .mk st
  | e, st => Q e st
section
variable (n : Nat) (J : List Nat → St → Prop) (seen : List Nat) (Q : AExit → St → Prop) (st : St)
@[go_sem ↓] theorem seenQ_normal : seenQ n J seen Q .normal st = ∃ i, i < n ∧ i ∉ seen ∧ Keep (J (seen ++ [i])) .mk st := eqS rfl
@[go_sem ↓] theorem seenQ_exit (i : Nat) : seenQ n J seen Q (.exit i) st = Q (.exit i) st := eqS rfl
@[go_sem ↓] theorem seenQ_ret : seenQ n J seen Q .ret st = Q .ret st := eqS rfl
@[go_sem ↓] theorem seenQ_pan (v : AV) : seenQ n J seen Q (.pan v) st = Q (.pan v) st := eqS rfl
end
theorem seen_len : ∀ (n : Nat) (l : List Nat), l.Nodup → (∀ i, i ∈ l → i < n) → l.length ≤ n
  | 0, l, _, h => by
    cases l with
    | nil => simp
    | cons a l => exact absurd (h a (by simp)) (by omega)
  | n + 1, l, hn, h => by
    have ih := seen_len n (l.erase n) (hn.erase n) (fun i hi => by
      have h1 := h i (List.mem_of_mem_erase hi)
      have h2 : i ≠ n := fun e => by
        subst e
        exact (List.Nodup.not_mem_erase hn) hi
      omega)
    by_cases hm : n ∈ l
    · rw [List.length_erase_of_mem hm] at ih; omega
    · rw [List.erase_of_not_mem hm] at ih; omega
theorem seen_snoc {n i : Nat} {seen : List Nat} (hn : seen.Nodup) (hl : ∀ j, j ∈ seen → j < n) (hi : i < n) (hs : i ∉ seen) : (seen ++ [i]).Nodup ∧ (∀ j, j ∈ seen ++ [i] → j < n) ∧ n - (seen ++ [i]).length < n - seen.length := by
  have h1 : (seen ++ [i]).Nodup := by
    rw [List.nodup_append]
    refine ⟨hn, by simp, fun x hx y hy => ?_⟩
    rw [List.mem_singleton] at hy
    subst hy
    exact fun e => hs (e ▸ hx)
  have h2 : ∀ j, j ∈ seen ++ [i] → j < n := by
    intro j hj
    rcases List.mem_append.1 hj with h | h
    · exact hl j h
    · rw [List.mem_singleton] at h; omega
  refine ⟨h1, h2, ?_⟩
  have := seen_len n _ h1 h2
  simp at this ⊢
  omega
theorem LoopGo.seen {P : Program} {pl : Pol} {body : Code} {Q : AExit → St → Prop} {st : St} (n : Nat) (J : List Nat → St → Prop) (h0 : J [] st) (h : ∀ seen st, seen.Nodup → (∀ i, i ∈ seen → i < n) → J seen st → awp P pl body (seenQ n J seen Q) st) : LoopGo P pl body Q st := by
  refine LoopGo.intro (fun m st => ∃ seen, m = n - seen.length ∧ seen.Nodup ∧ (∀ i, i ∈ seen → i < n) ∧ J seen st) n ⟨[], by simp, by simp, by simp, h0⟩ ?_
  rintro m st ⟨seen, rfl, hn, hl, hJ⟩
  refine awp.mono body (h seen st hn hl hJ) (fun e st he => ?_)
  cases e with
  | normal =>
    obtain ⟨i, hi, hs, hk⟩ := he
    obtain ⟨h1, h2, h3⟩ := seen_snoc hn hl hi hs
    exact ⟨_, h3, seen ++ [i], rfl, h1, h2, hk⟩
  | exit i => exact he
  | ret => exact he
  | pan v => exact he
theorem LoopGo.upK {P : Program} {pl : Pol} {body : Code} {Q : AExit → St → Prop} {st : St} (N : Nat) (I : Nat → St → Prop) (h0 : I 0 st) (h : ∀ k st, k ≤ N → I k st → awp P pl body (upQ (fun k => Keep (I k) .mk) N k Q) st) : LoopGo P pl body Q st :=
  LoopGo.up N (fun k => Keep (I k) .mk) h0 h
theorem Keep.mk' {p : St → Prop} {st : St} (h : p st) : Keep p .mk st := h
theorem split1 {m : Mu} {a : Cell} (g0 : m[0]? = some a) : ∃ rest, m = a :: rest := by
  match m, g0 with
  | a :: rest, g0 => simp at g0; subst g0; exact ⟨rest, rfl⟩
end Go.Ev
namespace Go.Proofs.YtcfopdccdeeleaaGreatDoor.YM
open Go Go.Ev Go.Proofs Y1 Y2 Y3 Y4 P1
def okT (t : Tp) : Prop := t.length = 3
theorem aEqs_i8 : ∀ (a b : List Int), a.length = b.length → aEqs (i8s a) (i8s b) = some (decide (a = b))
  | [], [], _ => rfl
  | x :: a, y :: b, h => by
    have ih := aEqs_i8 a b (by simpa using h)
    simp only [i8s, List.map_cons, aEqs] at ih ⊢
    simp only [ih]
    by_cases hx : x = y <;> simp [hx]
  | [], _ :: _, h => by simp at h
  | _ :: _, [], h => by simp at h
theorem keyT : KeyT Tryz.prog 91 aT okT := by
  refine ⟨fun a b ha hb => ?_, fun a ha => ?_⟩
  · unfold okT at ha hb
    rw [← aEqs_i8 a b (by omega)]
    simp [go_sem, ha, hb]
  · unfold okT at ha
    simp [go_sem, ha]
theorem keyS : KeyT Tryz.prog 9 aS (fun _ => True) := by
  refine ⟨fun a b _ _ => ?_, fun a _ => by simp [go_sem]⟩
  simp [go_sem]
  by_cases h : a = b
  · subst h
    rw [decide_eq_true rfl]
    have : (a.data == a.data) = true := beq_self_eq_true _
    exact this
  · rw [decide_eq_false h]
    cases hq : (a == b) with
    | false => rfl
    | true => exact absurd (ba_eq hq) h
abbrev eT (l : List Tp) : List (AV × AV) := l.map fun t => (aT t, aB true)
theorem eT_enc (l : List Tp) : eT l = encK aT aB (l.map fun t => (t, true)) := by simp [eT, encK]
theorem setK_ins (l : List Tp) (t : Tp) : setK t true (l.map fun t => (t, true)) = (ins l t).map fun t => (t, true) := by
  unfold ins
  induction l with
  | nil => simp [setK]
  | cons x l ih =>
    by_cases h : t = x
    · subst h; simp [setK]
    · simp only [List.map_cons, setK, h, if_false, ih, List.mem_cons, false_or]
      split <;> simp
theorem updT {mu : Mu} {b : Nat} {l : List Tp} (hm : mu[b]? = some (.mp (eT l))) {t : Tp} (ht : okT t) (hl : ∀ x, x ∈ l → okT x) :
    mapUpdateA Tryz.prog mu 80 (.mp b) (aT t) (aB true) = some (mu.set b (.mp (eT (ins l t)))) := by
  have := keyT.update (et := 4) (t := 80) (by simp [go_sem]) (mu := mu) (b := b) (venc := aB) (es := l.map fun t => (t, true)) (by rw [hm, eT_enc]) (k := t) (v := true) ht (fun e he => by
    obtain ⟨x, hx, rfl⟩ := List.mem_map.1 he
    exact hl x hx)
  rw [this, setK_ins, ← eT_enc]
theorem getK_mem' (l : List Tp) (t : Tp) : getK t (l.map fun t => (t, true)) = if t ∈ l then some true else none := by
  induction l with
  | nil => rfl
  | cons x l ih =>
    by_cases h : t = x
    · subst h; simp [getK]
    · simp only [List.map_cons, getK, h, if_false, ih, List.mem_cons, false_or]
theorem lookT {mu : Mu} {l : List Tp} {t : Tp} (ht : okT t) (hl : ∀ x, x ∈ l → okT x) :
    lookupA Tryz.prog mu 80 (.ims (eT l)) (aT t) false = some (aB (decide (t ∈ l))) := by
  have := keyT.lookS (et := 4) (t := 80) (by simp [go_sem]) (mu := mu) (venc := aB) (es := l.map fun t => (t, true)) (k := t) ht (fun e he => by
    obtain ⟨x, hx, rfl⟩ := List.mem_map.1 he
    exact hl x hx) (z := aB false) (by simp [go_sem]) false
  rw [eT_enc, this, getK_mem']
  by_cases h : t ∈ l <;> simp [h]
end Go.Proofs.YtcfopdccdeeleaaGreatDoor.YM


namespace Go.Proofs.YtcfopdccdeeleaaGreatDoor.Y5
open Go Go.Ev Go.Proofs Y1 Y2 Y3 Y4 P1 YM
theorem eT_get {l : List Tp} {i : Nat} {e : AV × AV} (h : (eT l)[i]? = some e) : ∃ x, l[i]? = some x ∧ e = (aT x, aB true) := by
  rw [List.getElem?_map, Option.map_eq_some_iff] at h
  obtain ⟨x, hx, rfl⟩ := h
  exact ⟨x, hx, rfl⟩
theorem eachU (a b : Kd) (g : FuncId) (caps : List AV) (mu : Mu) (I : (Tp → Tp → Prop) → Mu → Prop) (h0 : I (fun _ _ => False) mu)
    (hS : ∀ S mu1 mu2, (∀ i, i < mu.length → mu2[i]? = mu1[i]?) → I S mu1 → I S mu2) (ha : ∀ x, x ∈ a.ts → okT x) (hb : ∀ x, x ∈ b.ts → okT x)
    (hf : ∀ S x y mu1, x ∈ a.ts → y ∈ b.ts → mu.length ≤ mu1.length → I S mu1 → Sound Tryz.prog g ([aT x, aT y] ++ caps) mu1 fun e m => e = .ret (.tup []) ∧ I (fun u v => S u v ∨ (u = x ∧ v = y)) m ∧ mu1.length ≤ m.length ∧ ∀ i, mu.length ≤ i → i < mu1.length → m[i]? = mu1[i]?) :
    Sound Tryz.prog 165 [eKd a, eKd b, .fn (.func g) [] caps] mu fun e m => e = .ret (.tup []) ∧ I (fun u v => u ∈ a.ts ∧ v ∈ b.ts) m ∧ mu.length ≤ m.length := by
  refine Sound.of_awp Tryz.call165 Tryz.func165 rfl (Nat.le_of_ble_eq_true (by kernel_rfl)) (by kernel_rfl) (pl := {}) ?_
  simp [go_sem]
  refine LoopGo.seen a.ts.length (fun seen st => st.tm 2 = .fn (.func g) [] caps ∧ st.tm 4 = .ip (cKd b) ∧ st.tm 10 = .ptr mu.length 0 ∧ mu.length < st.mu.length ∧ st.mu[mu.length]? = some (.it (eT a.ts) seen) ∧ I (fun u v => (∃ i, i ∈ seen ∧ a.ts[i]? = some u) ∧ v ∈ b.ts) st.mu) ?_ ?_
  · simp [go_sem]
    exact hS _ mu _ (fun i hi => List.getElem?_append_left hi) h0
  · rintro seen st hnd hlt ⟨e2, e4, e10, hl, hit, hI⟩
    simp [go_sem, e2, e4, e10]
    refine ⟨mu.length, eT a.ts, seen, rfl, hit, fun i e hi hns => ?_, fun hall => ?_⟩
    · obtain ⟨x, hx, rfl⟩ := eT_get hi
      have hxm : x ∈ a.ts := List.mem_of_getElem? hx
      have hx3 : x.length = 3 := ha x hxm
      have hil : i < a.ts.length := (List.getElem?_eq_some_iff.1 hx).1
      obtain ⟨x0, x1, x2, rfl⟩ : ∃ x0 x1 x2, x = [x0, x1, x2] := by
        match x, hx3 with
        | [x0, x1, x2], _ => exact ⟨_, _, _, rfl⟩
      have hme : ∀ (k : Nat) (c : Cell), k < mu.length → (st.mu.set mu.length c)[k]? = st.mu[k]? := fun k c hk => List.getElem?_set_ne (by omega)
      have hse : (st.mu.set mu.length (.it (eT a.ts) (seen ++ [i])))[mu.length]? = some (.it (eT a.ts) (seen ++ [i])) := List.getElem?_set_self hl
      simp [go_sem, e2, e4, e10, hit, hi, hl, hns]
      refine LoopGo.seen b.ts.length (fun sb st' => st'.tm 2 = .fn (.func g) [] caps ∧ st'.tm 4 = .ip (cKd b) ∧ st'.tm 10 = .ptr mu.length 0 ∧ st'.tm 6 = .ptr st.mu.length 0 ∧ st'.tm 17 = .ptr (st.mu.length + 1) 0 ∧ st.mu.length + 1 < st'.mu.length ∧
        st'.mu[mu.length]? = some (.it (eT a.ts) (seen ++ [i])) ∧ st'.mu[st.mu.length]? = some (.arr (i8s [x0, x1, x2])) ∧ st'.mu[st.mu.length + 1]? = some (.it (eT b.ts) sb) ∧
        I (fun u v => ((∃ i, i ∈ seen ∧ a.ts[i]? = some u) ∧ v ∈ b.ts) ∨ (u = [x0, x1, x2] ∧ ∃ j, j ∈ sb ∧ b.ts[j]? = some v)) st'.mu) ?_ ?_
      · simp [go_sem, e2, e4, e10, hse, hl]
        refine ⟨by rw [List.getElem?_append_left (by simpa using hl)]; exact hse, hS _ st.mu _ (fun k hk => ?_) hI⟩
        rw [List.getElem?_append_left (by simp; omega), hme k _ hk]
      · rintro sb st' hndb hltb ⟨f2, f4, f10, f6, f17, hl', g1, g2, g3, hI'⟩
        simp [go_sem, f2, f4, f10, f6, f17]
        refine ⟨st.mu.length + 1, eT b.ts, sb, rfl, g3, fun j e hj hnj => ?_, fun hallb => ?_⟩
        · obtain ⟨y, hy, rfl⟩ := eT_get hj
          have hym : y ∈ b.ts := List.mem_of_getElem? hy
          have hy3 : y.length = 3 := hb y hym
          have hjl : j < b.ts.length := (List.getElem?_eq_some_iff.1 hy).1
          obtain ⟨y0, y1, y2, rfl⟩ : ∃ y0 y1 y2, y = [y0, y1, y2] := by
            match y, hy3 with
            | [y0, y1, y2], _ => exact ⟨_, _, _, rfl⟩
          have hget : ∀ (c : Cell) (l : List Cell) (k : Nat), k < st'.mu.length → k ≠ st.mu.length + 1 → ((st'.mu.set (st.mu.length + 1) c) ++ l)[k]? = st'.mu[k]? := fun c l k h1 h2 => by
            rw [List.getElem?_append_left (by simpa using h1), List.getElem?_set_ne (by omega)]
          have hx1 := fun c l => (hget c l st.mu.length (by omega) (by omega)).trans g2
          simp [go_sem, f2, f4, f10, f6, f17, hj, hl', hnj, g2, g3, hx1]
          refine CallStep.eff (hf _ [x0, x1, x2] [y0, y1, y2] _ hxm hym ?_ (hS _ st'.mu _ (fun k hk => hget _ _ k (by omega) (by omega)) hI')) ?_ ?_
          · simp; omega
          · rintro r m ⟨e, hI2, hml, hmk⟩
            cases e
            simp only [List.length_append, List.length_set, List.length_cons, List.length_nil] at hml hmk
            simp [go_sem]
            refine ⟨j, hjl, hnj, ?_⟩
            simp [Keep, go_sem, f2, f4, f10, f6, f17]
            refine ⟨by omega, ?_, ?_, ?_, ?_⟩
            · rw [hmk _ (by omega) (by omega), hget _ _ _ (by omega) (by omega), g1]
            · rw [hmk _ (by omega) (by omega), hget _ _ _ (by omega) (by omega)]; exact g2
            · rw [hmk _ (by omega) (by omega), List.getElem?_append_left (by simpa using hl'), List.getElem?_set_self hl']
            · refine cast (congrArg (fun S => I S m) ?_) hI2
              funext u v
              refine propext ⟨?_, ?_⟩
              · rintro ((h | ⟨rfl, k, hk, hv⟩) | ⟨rfl, rfl⟩)
                · exact .inl h
                · exact .inr ⟨rfl, .inl ⟨k, hk, hv⟩⟩
                · exact .inr ⟨rfl, .inr hy⟩
              · rintro (h | ⟨rfl, ⟨k, hk, hv⟩ | hv⟩)
                · exact .inl (.inl h)
                · exact .inl (.inr ⟨rfl, k, hk, hv⟩)
                · rw [hy] at hv; cases hv
                  exact .inr ⟨rfl, rfl⟩
          · rintro r m ⟨e, _⟩; cases e
        · simp [go_sem]
          refine ⟨i, hil, hns, ?_⟩
          simp [Keep, go_sem, f2, f4, f10]
          refine ⟨by omega, g1, cast (congrArg (fun S => I S st'.mu) ?_) hI'⟩
          funext u v
          refine propext ⟨?_, ?_⟩
          · rintro (⟨⟨k, hk, hu⟩, hv⟩ | ⟨rfl, k, hk, hv⟩)
            · exact ⟨.inl ⟨k, hk, hu⟩, hv⟩
            · exact ⟨.inr hx, List.mem_of_getElem? hv⟩
          · rintro ⟨⟨k, hk, hu⟩ | hu, hv⟩
            · exact .inl ⟨⟨k, hk, hu⟩, hv⟩
            · rw [hx] at hu; cases hu
              obtain ⟨j, hj⟩ := List.mem_iff_getElem?.1 hv
              exact .inr ⟨rfl, j, hallb j (by simpa using (List.getElem?_eq_some_iff.1 hj).1), hj⟩
    · simp [go_sem]
      refine ⟨cast (congrArg (fun S => I S st.mu) ?_) hI, by omega⟩
      funext u v
      refine propext ⟨?_, ?_⟩
      · rintro ⟨⟨k, hk, hu⟩, hv⟩
        exact ⟨List.mem_of_getElem? hu, hv⟩
      · rintro ⟨hu, hv⟩
        obtain ⟨k, hk⟩ := List.mem_iff_getElem?.1 hu
        exact ⟨⟨k, hall k (by simpa using (List.getElem?_eq_some_iff.1 hk).1), hk⟩, hv⟩
end Go.Proofs.YtcfopdccdeeleaaGreatDoor.Y5


namespace Go.Proofs.YtcfopdccdeeleaaGreatDoor.Y6
open Go Go.Ev Go.Proofs Y1 Y2 Y3 Y4 P1 YM Y5
abbrev r8 (x : Int) : List AV := [.sc (.int .i8 x)]
theorem rows_r8 (xs : List Int) : rowsWf 1 (xs.map r8) := fun r hr => by
  obtain ⟨n, _, rfl⟩ := List.mem_map.1 hr
  exact ⟨rfl, rfl⟩
theorem clone8 (full : Bool) (xs : List Int) (hx : xs.length ≤ 1000) (mu : Mu) : Sound Tryz.prog 177 [.lst full (xs.map r8)] mu fun e m => ∃ av, e = .ret av ∧ OwnF mu.length m 1 av (xs.map r8) ∧ ∀ i, i < mu.length → m[i]? = mu[i]? := by
  refine Sound.of_awp Tryz.call177 Tryz.func177 rfl (Nat.le_of_ble_eq_true (by kernel_rfl)) (by kernel_rfl) (pl := {}) ?_
  cases xs with
  | nil =>
    simp [go_sem]
    refine ⟨OwnF.nil (Nat.le_refl _), ?_⟩
    refine AppendStep.ownF (lo := mu.length) (e := 89) (sz := 1) (bt := 1) (zv := .sc (.int .i8 0)) (xs := []) (ys := []) (by simp [go_sem]) (by simp [go_sem]) (by simp [go_sem]) rfl rfl (by omega) (by omega) (OwnF.nil (Nat.le_refl _)) (by simp [rowsOf]) (rows_r8 []) (rows_r8 []) (by simp) ?_
    intro av mu' ho hk
    simp [go_sem]
    exact ⟨ho, hk⟩
  | cons x xs =>
    simp [go_sem]
    refine AppendStep.ownF (lo := mu.length) (e := 89) (sz := 1) (bt := 1) (zv := .sc (.int .i8 0)) (xs := []) (ys := (x :: xs).map r8) (by simp [go_sem]) (by simp [go_sem]) (by simp [go_sem]) rfl rfl (by omega) (by omega) (OwnF.nil (Nat.le_refl _)) (by simp [rowsOf]) (rows_r8 []) (rows_r8 _) (by simpa using (by simp at hx; omega)) ?_
    intro av mu' ho hk
    simp [go_sem]
    exact ⟨ho, hk⟩
theorem put3 (zs : List Int) : putCells [.sc (.int .i8 0), .sc (.int .i8 0), .sc (.int .i8 0)] 0 ((zs.map r8).take 3).flatten = i8s (pad zs) := by
  match zs with
  | [] => rfl
  | [a] => rfl
  | [a, b] => rfl
  | a :: b :: c :: l => simp [putCells, pad]
theorem concU (x y : Tp) (n m s : Nat) (hx : okT x) (hy : okT y) (hn : s ≤ n) (hn3 : n - s ≤ 3) (hm : s ≤ m) (hm3 : m ≤ 3) (hs : s ≤ 1) : SoundP Tryz.prog 167 [aT x, aI n, aT y, aI m, aI s] (aT (conc x n y m s)) := by
  unfold okT at hx hy
  refine SoundP.of_sound (Sound.of_awp Tryz.call167 Tryz.func167 rfl (Nat.le_of_ble_eq_true (by kernel_rfl)) (by kernel_rfl) (pl := {}) ?_)
  obtain ⟨x0, x1, x2, rfl⟩ : ∃ x0 x1 x2, x = [x0, x1, x2] := by
    match x, hx with
    | [x0, x1, x2], _ => exact ⟨_, _, _, rfl⟩
  obtain ⟨y0, y1, y2, rfl⟩ : ∃ y0 y1 y2, y = [y0, y1, y2] := by
    match y, hy with
    | [y0, y1, y2], _ => exact ⟨_, _, _, rfl⟩
  obtain ⟨d, rfl⟩ : ∃ d, n = d + s := ⟨n - s, by omega⟩
  have hd : d + s - s = d := by omega
  rw [hd] at hn3
  simp [go_sem]
  refine DrawGo.float [] [0, 1, 2, 3, 4, 6, 7, 8] [(5, false), (9, false), (10, false)] (by kernel_rfl) (by kernel_rfl) (by kernel_rfl) ?_
  have w1 : IntKind.i64.wrap (d : Int) = (d : Int) := wrap_i64 (by omega) (by omega)
  have hfx : (List.take d [[AV.sc (.int .i8 x0)], [.sc (.int .i8 x1)], [.sc (.int .i8 x2)]]) = ([x0, x1, x2].take d).map r8 := by rw [List.map_take]; rfl
  have hfy : (List.drop s (List.take m [[AV.sc (.int .i8 y0)], [.sc (.int .i8 y1)], [.sc (.int .i8 y2)]])) = (([y0, y1, y2].take m).drop s).map r8 := by rw [List.map_drop, List.map_take]; rfl
  have h3 : ((d : Int) ≤ 3) := by omega
  have h4 : ((m : Int) ≤ 3) := by omega
  have h5 : ((s : Int) ≤ m) := by omega
  have h6 : ((s : Int) < 3) := by omega
  simp [go_sem, w1, h3, h4, h5, h6]
  rw [hfx]
  refine CallStep.eff0 (clone8 _ ([x0, x1, x2].take d) (by simp; omega) _) ?_ ?_
  · rintro r mm ⟨av, e, ho, hk⟩
    cases e
    simp [go_sem]
    rw [hfy]
    refine AppendStep.ownF (lo := 2) (e := 89) (sz := 1) (bt := 1) (zv := .sc (.int .i8 0)) (xs := ([x0, x1, x2].take d).map r8) (ys := (([y0, y1, y2].take m).drop s).map r8) (by simp [go_sem]) (by simp [go_sem]) (by simp [go_sem]) rfl rfl (by omega) (by omega) ho (by simp [rowsOf]) (rows_r8 _) (rows_r8 _) (by simp; omega) ?_
    intro av m2 ho2 hk2
    simp [go_sem]
    have g0 : m2[0]? = some (.arr [.sc (.int .i8 0), .sc (.int .i8 0), .sc (.int .i8 0)]) := by rw [hk2 0 (by omega), hk 0 (by simp)]; rfl
    have g1 : m2[1]? = some (.arr [.sc (.int .i8 0), .sc (.int .i8 0), .sc (.int .i8 0)]) := by rw [hk2 1 (by omega), hk 1 (by simp)]; rfl
    rw [← List.map_append] at ho2
    have hrow := ho2.1.rows (rows_r8 _).ok
    refine ExtGo_copy (sz := 1) (by simp [go_sem]) g1 (by simp) hrow (rows_r8 _) ?_
    obtain ⟨rest, rfl⟩ : ∃ rest, m2 = .arr [.sc (.int .i8 0), .sc (.int .i8 0), .sc (.int .i8 0)] :: .arr [.sc (.int .i8 0), .sc (.int .i8 0), .sc (.int .i8 0)] :: rest := by
      match m2, g0, g1 with
      | a :: b :: rest, g0, g1 => simp at g0 g1; exact ⟨rest, by rw [g0, g1]⟩
    rw [put3]
    simp [go_sem, pad, conc, hd]
    exact .hf _ (HF.agg fun c hc => by simp at hc; rcases hc with rfl | rfl | rfl <;> exact HF.sc _)
  · rintro r mm ⟨av, e, _⟩; cases e
theorem emptyM (n : Int) (mu : Mu) : Sound Tryz.prog 130 [aI n] mu fun e m => e = .ret (.agg [aI n, .mp (mu.length + 1)]) ∧ ∃ c, m = mu ++ [c, .mp []] := by
  refine Sound.of_awp Tryz.call130 Tryz.func130 rfl (Nat.le_of_ble_eq_true (by kernel_rfl)) (by kernel_rfl) (pl := {}) ?_
  simp [go_sem]
theorem hfA3 (a b c : Value) : HF (.agg [.sc a, .sc b, .sc c]) := HF.agg fun x hx => by simp at hx; rcases hx with rfl | rfl | rfl <;> exact HF.sc _
theorem wr0 : IntKind.i64.wrap 0 = 0 := rfl
theorem wr1 : IntKind.i64.wrap 1 = 1 := rfl
theorem wr2 : IntKind.i64.wrap 2 = 2 := rfl
structure okK (k : Kd) : Prop where
  ar : 1 ≤ k.ar ∧ k.ar ≤ 3
  len : ∀ t, t ∈ k.ts → okT t
  nd : k.ts.Nodup
theorem okT_conc (x : Tp) (n : Nat) (y : Tp) (m s : Nat) : okT (conc x n y m s) := rfl
theorem join1U (a b : Kd) (ha : okK a) (hb : okK b) (x y : Tp) (hx : okT x) (hy : okT y) (mu : Mu) (o m : Nat) (ar : Int) (l : List Tp) (ho : mu[o]? = some (.arr [aI ar, .mp m])) (hm : mu[m]? = some (.mp (eT l))) (hl : ∀ t, t ∈ l → okT t) :
    Sound Tryz.prog 166 [aT x, aT y, .ip (cKd a), .ptr o 0, .ip (cKd b)] mu fun e m' => e = .ret (.tup []) ∧ m' = if x.getD (a.ar.toNat - 1) 0 = y.getD 0 0 then mu.set m (.mp (eT (ins l (conc x a.ar.toNat y b.ar.toNat 1)))) else mu := by
  refine Sound.of_awp Tryz.call166 Tryz.func166 rfl (Nat.le_of_ble_eq_true (by kernel_rfl)) (by kernel_rfl) (pl := {}) ?_
  obtain ⟨ha1, ha2⟩ := ha.ar
  obtain ⟨hb1, hb2⟩ := hb.ar
  obtain ⟨n, hn⟩ : ∃ n : Nat, a.ar = n + 1 := ⟨(a.ar - 1).toNat, by omega⟩
  obtain ⟨k, hk⟩ : ∃ k : Nat, b.ar = k := ⟨b.ar.toNat, by omega⟩
  have hn3 : n < 3 := by omega
  have hcc := concU x y (n + 1) k 1 hx hy (by omega) (by omega) (by omega) (by omega) (by omega)
  unfold okT at hx hy
  obtain ⟨x0, x1, x2, rfl⟩ : ∃ x0 x1 x2, x = [x0, x1, x2] := by
    match x, hx with
    | [x0, x1, x2], _ => exact ⟨_, _, _, rfl⟩
  obtain ⟨y0, y1, y2, rfl⟩ : ∃ y0 y1 y2, y = [y0, y1, y2] := by
    match y, hy with
    | [y0, y1, y2], _ => exact ⟨_, _, _, rfl⟩
  have hup := updT hm (okT_conc [x0, x1, x2] (n + 1) [y0, y1, y2] k 1) hl
  have hcase : n = 0 ∨ n = 1 ∨ n = 2 := by omega
  rcases hcase with rfl | rfl | rfl
  all_goals
    simp [go_sem]
    refine DrawGo.intro (by kernel_rfl) ?_
    simp [go_sem, hn, hk, wr0, wr1, wr2]
    refine BrS.intro (fun he => ?_) (fun he => ?_)
    · simp at he
      subst he
      simp [go_sem]
      refine DrawGo.intro (by kernel_rfl) ?_
      simp [go_sem, ho, hk, hn]
      refine CallStep.pure hcc (.cons (.hf (hfA3 _ _ _)) (.cons (.hf (HF.sc _)) (.cons (.hf (hfA3 _ _ _)) (.cons (.hf (HF.sc _)) (.cons (.hf (HF.sc _)) .nil))))) ?_
      simp [go_sem]
      refine OptK.intro _ hup ?_
      simp [go_sem]
    · simp at he
      simp [go_sem, he]
theorem prod1U (a b : Kd) (ha : okK a) (hb : okK b) (hab : a.ar + b.ar ≤ 3) (x y : Tp) (hx : okT x) (hy : okT y) (mu : Mu) (o m : Nat) (ar : Int) (l : List Tp) (ho : mu[o]? = some (.arr [aI ar, .mp m])) (hm : mu[m]? = some (.mp (eT l))) (hl : ∀ t, t ∈ l → okT t) :
    Sound Tryz.prog 168 [aT x, aT y, .ptr o 0, .ip (cKd a), .ip (cKd b)] mu fun e m' => e = .ret (.tup []) ∧ m' = mu.set m (.mp (eT (ins l (conc x a.ar.toNat y b.ar.toNat 0)))) := by
  refine Sound.of_awp Tryz.call168 Tryz.func168 rfl (Nat.le_of_ble_eq_true (by kernel_rfl)) (by kernel_rfl) (pl := {}) ?_
  obtain ⟨ha1, ha2⟩ := ha.ar
  obtain ⟨hb1, hb2⟩ := hb.ar
  obtain ⟨n, hn⟩ : ∃ n : Nat, a.ar = n := ⟨a.ar.toNat, by omega⟩
  obtain ⟨k, hk⟩ : ∃ k : Nat, b.ar = k := ⟨b.ar.toNat, by omega⟩
  have hcc := concU x y n k 0 hx hy (by omega) (by omega) (by omega) (by omega) (by omega)
  unfold okT at hx hy
  obtain ⟨x0, x1, x2, rfl⟩ : ∃ x0 x1 x2, x = [x0, x1, x2] := by
    match x, hx with
    | [x0, x1, x2], _ => exact ⟨_, _, _, rfl⟩
  obtain ⟨y0, y1, y2, rfl⟩ : ∃ y0 y1 y2, y = [y0, y1, y2] := by
    match y, hy with
    | [y0, y1, y2], _ => exact ⟨_, _, _, rfl⟩
  have hup := updT hm (okT_conc [x0, x1, x2] n [y0, y1, y2] k 0) hl
  simp [go_sem]
  refine DrawGo.intro (by kernel_rfl) ?_
  simp [go_sem, ho, hk, hn]
  refine CallStep.pure hcc (.cons (.hf (hfA3 _ _ _)) (.cons (.hf (HF.sc _)) (.cons (.hf (hfA3 _ _ _)) (.cons (.hf (HF.sc _)) (.cons (.hf (HF.sc _)) .nil))))) ?_
  simp [go_sem]
  refine OptK.intro _ hup ?_
  simp [go_sem]
theorem eT_nodup {l : List Tp} (h : l.Nodup) : ((eT l).map Prod.fst).Nodup := by
  have e : (eT l).map Prod.fst = l.map aT := by simp [eT]
  rw [e]
  refine (List.pairwise_map (f := aT)).2 (h.imp fun hne e => hne ?_)
  have inj : ∀ (a b : List Int), i8s a = i8s b → a = b := by
    intro a
    induction a with
    | nil => intro b h; cases b with
      | nil => rfl
      | cons => simp at h
    | cons x a ih => intro b h; cases b with
      | nil => simp at h
      | cons y b =>
        simp only [i8s, List.map_cons, List.cons.injEq, AV.sc.injEq, Value.int.injEq, true_and] at h
        rw [h.1, ih b h.2]
  exact inj _ _ (AV.agg.inj e)
theorem Rd.setT {mu : Mu} {m : Nat} {l k : List Tp} (hm : mu[m]? = some (.mp (eT l))) (hl : l.Nodup) (hk : k.Nodup) (h : ∀ t, t ∈ l ↔ t ∈ k) : Rd mu (.mp m) (mKd k) :=
  Rd.mps hm (eT_nodup hl) (eT_nodup hk) (fun x => by
    simp only [eT, List.mem_map]
    constructor
    · rintro ⟨t, ht, rfl⟩; exact ⟨t, (h t).1 ht, rfl⟩
    · rintro ⟨t, ht, rfl⟩; exact ⟨t, (h t).2 ht, rfl⟩) (fun x hx => by
    obtain ⟨t, _, rfl⟩ := List.mem_map.1 hx
    exact ⟨hf_aT t, HF.sc _⟩)
def ColM (ar : Int) (z c : Cell) (f : Tp → Tp → Option Tp) (S : Tp → Tp → Prop) (m : Mu) : Prop :=
  ∃ l, m[0]? = some z ∧ m[1]? = some c ∧ m[2]? = some (.mp (eT l)) ∧ m[3]? = some (.arr [aI ar, .mp 2]) ∧ l.Nodup ∧ (∀ t, t ∈ l → okT t) ∧ ∀ t, t ∈ l ↔ ∃ x y, S x y ∧ f x y = some t
theorem ColM.zero (ar : Int) (z c : Cell) (f : Tp → Tp → Option Tp) : ColM ar z c f (fun _ _ => False) [z, c, .mp [], .arr [aI ar, .mp 2]] :=
  ⟨[], rfl, rfl, rfl, rfl, by simp, by simp, by simp⟩
theorem ColM.same {ar : Int} {z c : Cell} {f : Tp → Tp → Option Tp} {S : Tp → Tp → Prop} {m1 m2 : Mu} (h : ∀ i, i < 4 → m2[i]? = m1[i]?) (k : ColM ar z c f S m1) : ColM ar z c f S m2 := by
  obtain ⟨l, g0, g1, g2, g3, h1, h2, h3⟩ := k
  exact ⟨l, by rw [h 0 (by omega)]; exact g0, by rw [h 1 (by omega)]; exact g1, by rw [h 2 (by omega)]; exact g2, by rw [h 3 (by omega)]; exact g3, h1, h2, h3⟩
theorem ColM.step {ar : Int} {z c : Cell} {f : Tp → Tp → Option Tp} {S : Tp → Tp → Prop} {m : Mu} {l : List Tp} {x y t : Tp} (g0 : m[0]? = some z) (g1 : m[1]? = some c) (g2 : m[2]? = some (.mp (eT l))) (g3 : m[3]? = some (.arr [aI ar, .mp 2])) (h1 : l.Nodup) (h2 : ∀ t, t ∈ l → okT t) (h3 : ∀ t, t ∈ l ↔ ∃ x y, S x y ∧ f x y = some t)
    (hf : f x y = some t) (ht : okT t) : ColM ar z c f (fun u v => S u v ∨ (u = x ∧ v = y)) (m.set 2 (.mp (eT (ins l t)))) := by
  have hl : 2 < m.length := (List.getElem?_eq_some_iff.1 g2).1
  refine ⟨ins l t, ?_, ?_, List.getElem?_set_self hl, ?_, nodup_ins h1, fun u hu => ?_, fun u => ?_⟩
  · rw [List.getElem?_set_ne (by omega)]; exact g0
  · rw [List.getElem?_set_ne (by omega)]; exact g1
  · rw [List.getElem?_set_ne (by omega)]; exact g3
  · rcases mem_ins.1 hu with h | rfl
    · exact h2 u h
    · exact ht
  · rw [mem_ins, h3]
    constructor
    · rintro (⟨p, q, hs, e⟩ | rfl)
      · exact ⟨p, q, .inl hs, e⟩
      · exact ⟨x, y, .inr ⟨rfl, rfl⟩, hf⟩
    · rintro ⟨p, q, hs | ⟨rfl, rfl⟩, e⟩
      · exact .inl ⟨p, q, hs, e⟩
      · rw [hf] at e; exact .inr (Option.some.inj e).symm
theorem ColM.skip {ar : Int} {z c : Cell} {f : Tp → Tp → Option Tp} {S : Tp → Tp → Prop} {m : Mu} {x y : Tp} (k : ColM ar z c f S m) (hf : f x y = none) : ColM ar z c f (fun u v => S u v ∨ (u = x ∧ v = y)) m := by
  obtain ⟨l, g0, g1, g2, g3, h1, h2, h3⟩ := k
  refine ⟨l, g0, g1, g2, g3, h1, h2, fun u => ?_⟩
  rw [h3]
  constructor
  · rintro ⟨p, q, hs, e⟩; exact ⟨p, q, .inl hs, e⟩
  · rintro ⟨p, q, hs | ⟨rfl, rfl⟩, e⟩
    · exact ⟨p, q, hs, e⟩
    · rw [hf] at e; exact absurd e (by simp)
theorem four {m : Mu} {a b c d : Cell} (g0 : m[0]? = some a) (g1 : m[1]? = some b) (g2 : m[2]? = some c) (g3 : m[3]? = some d) : ∃ rest, m = a :: b :: c :: d :: rest := by
  match m, g0, g1, g2, g3 with
  | a :: b :: c :: d :: rest, g0, g1, g2, g3 =>
    simp at g0 g1 g2 g3
    subst g0; subst g1; subst g2; subst g3
    exact ⟨rest, rfl⟩
def joinF (n m : Nat) (x y : Tp) : Option Tp := if x.getD (n - 1) 0 = y.getD 0 0 then some (conc x n y m 1) else none
theorem mem_joinL {n m : Nat} {a b : List Tp} {t : Tp} : t ∈ joinL n m a b ↔ ∃ x y, (x ∈ a ∧ y ∈ b) ∧ joinF n m x y = some t := by
  unfold joinL joinF
  rw [mem_uni]
  simp only [List.not_mem_nil, false_or, List.mem_filterMap]
  constructor
  · rintro ⟨⟨x, y⟩, h1, h2⟩; exact ⟨x, y, mem_pairs.1 h1, h2⟩
  · rintro ⟨x, y, h1, h2⟩; exact ⟨(x, y), mem_pairs.2 h1, h2⟩
theorem nodup_joinL {n m : Nat} {a b : List Tp} : (joinL n m a b).Nodup := nodup_uni (by simp)
theorem joinU (a b : Kd) (ha : okK a) (hb : okK b) : SoundP Tryz.prog 133 [eKd a, eKd b] (eKd (kJoin a b)) := by
  refine SoundP.of_sound (Sound.of_awp Tryz.call133 Tryz.func133 rfl (Nat.le_of_ble_eq_true (by kernel_rfl)) (by kernel_rfl) (pl := {}) ?_)
  have w1 : IntKind.i64.wrap (a.ar + b.ar) = a.ar + b.ar := wrap_i64 (by have := ha.ar; have := hb.ar; omega) (by have := ha.ar; have := hb.ar; omega)
  have w2 : IntKind.i64.wrap (a.ar + b.ar - 2) = a.ar + b.ar - 2 := wrap_i64 (by have := ha.ar; have := hb.ar; omega) (by have := ha.ar; have := hb.ar; omega)
  simp [go_sem, w1, w2]
  refine CallStep.eff0 (emptyM _ _) ?_ (by rintro r m ⟨e, _⟩; cases e)
  rintro r m ⟨e, c, rfl⟩
  cases e
  simp [go_sem]
  refine CallStep.eff0 (eachU a b 166 [.ip (cKd a), .ptr 3 0, .ip (cKd b)] _ (ColM (a.ar + b.ar - 2) (.arr [aI 0, .sc (.map none)]) c (joinF a.ar.toNat b.ar.toNat)) (ColM.zero _ _ _ _) (fun S m1 m2 h k => k.same h) ha.len hb.len ?_) ?_ (by rintro r m ⟨e, _⟩; cases e)
  · rintro S x y m1 hx hy hlm ⟨l, g0, g1, g2, g3, h1, h2, h3⟩
    refine Sound.monoR (join1U a b ha hb x y (ha.len x hx) (hb.len y hy) m1 3 2 _ l g3 g2 h2) ?_
    rintro e m' ⟨rfl, rfl⟩
    by_cases hc : x.getD (a.ar.toNat - 1) 0 = y.getD 0 0
    · rw [if_pos hc]
      refine ⟨rfl, ColM.step g0 g1 g2 g3 h1 h2 h3 (by unfold joinF; rw [if_pos hc]) (okT_conc _ _ _ _ _), by simp, fun i hi1 hi2 => ?_⟩
      simp at hi1
      rw [List.getElem?_set_ne (by omega)]
    · rw [if_neg hc]
      exact ⟨rfl, ColM.skip ⟨l, g0, g1, g2, g3, h1, h2, h3⟩ (by unfold joinF; rw [if_neg hc]), Nat.le_refl _, fun _ _ _ => rfl⟩
  · rintro r m ⟨e, ⟨l, g0, g1, g2, g3, h1, h2, h3⟩, hlm⟩
    cases e
    obtain ⟨rest, rfl⟩ := four g0 g1 g2 g3
    simp [go_sem]
    exact Rd.aggs ⟨.hf _ (HF.sc _), Rd.setT rfl h1 nodup_joinL (fun t => (h3 t).trans mem_joinL.symm), trivial⟩
def prodF (n m : Nat) (x y : Tp) : Option Tp := some (conc x n y m 0)
theorem mem_prodL {n m : Nat} {a b : List Tp} {t : Tp} : t ∈ prodL n m a b ↔ ∃ x y, (x ∈ a ∧ y ∈ b) ∧ prodF n m x y = some t := by
  unfold prodL prodF
  rw [mem_uni]
  simp only [List.not_mem_nil, false_or, List.mem_map]
  constructor
  · rintro ⟨⟨x, y⟩, h1, h2⟩; exact ⟨x, y, mem_pairs.1 h1, by rw [← h2]⟩
  · rintro ⟨x, y, h1, h2⟩; exact ⟨(x, y), mem_pairs.2 h1, Option.some.inj h2⟩
theorem nodup_prodL {n m : Nat} {a b : List Tp} : (prodL n m a b).Nodup := nodup_uni (by simp)
theorem prodU (a b : Kd) (ha : okK a) (hb : okK b) (hab : a.ar + b.ar ≤ 3) : SoundP Tryz.prog 134 [eKd a, eKd b] (eKd (kProd a b)) := by
  refine SoundP.of_sound (Sound.of_awp Tryz.call134 Tryz.func134 rfl (Nat.le_of_ble_eq_true (by kernel_rfl)) (by kernel_rfl) (pl := {}) ?_)
  have w1 : IntKind.i64.wrap (a.ar + b.ar) = a.ar + b.ar := wrap_i64 (by have := ha.ar; have := hb.ar; omega) (by have := ha.ar; have := hb.ar; omega)
  simp [go_sem, w1]
  refine CallStep.eff0 (emptyM _ _) ?_ (by rintro r m ⟨e, _⟩; cases e)
  rintro r m ⟨e, c, rfl⟩
  cases e
  simp [go_sem]
  refine CallStep.eff0 (eachU a b 168 [.ptr 3 0, .ip (cKd a), .ip (cKd b)] _ (ColM (a.ar + b.ar) (.arr [aI 0, .sc (.map none)]) c (prodF a.ar.toNat b.ar.toNat)) (ColM.zero _ _ _ _) (fun S m1 m2 h k => k.same h) ha.len hb.len ?_) ?_ (by rintro r m ⟨e, _⟩; cases e)
  · rintro S x y m1 hx hy hlm ⟨l, g0, g1, g2, g3, h1, h2, h3⟩
    refine Sound.monoR (prod1U a b ha hb hab x y (ha.len x hx) (hb.len y hy) m1 3 2 _ l g3 g2 h2) ?_
    rintro e m' ⟨rfl, rfl⟩
    refine ⟨rfl, ColM.step g0 g1 g2 g3 h1 h2 h3 rfl (okT_conc _ _ _ _ _), by simp, fun i hi1 hi2 => ?_⟩
    simp at hi1
    rw [List.getElem?_set_ne (by omega)]
  · rintro r m ⟨e, ⟨l, g0, g1, g2, g3, h1, h2, h3⟩, hlm⟩
    cases e
    obtain ⟨rest, rfl⟩ := four g0 g1 g2 g3
    simp [go_sem]
    exact Rd.aggs ⟨.hf _ (HF.sc _), Rd.setT rfl h1 nodup_prodL (fun t => (h3 t).trans mem_prodL.symm), trivial⟩
end Go.Proofs.YtcfopdccdeeleaaGreatDoor.Y6


namespace Go.Proofs.YtcfopdccdeeleaaGreatDoor.Y7
open Go Go.Ev Go.Proofs Y1 Y2 Y3 Y4 P1 YM Y5 Y6
theorem AppendStep.lit {P : Program} {mu : Mu} {t t' e sz bt : Nat} {x : AV} {xs ys : List (List AV)} {zv : AV} {K : AV → Mu → Prop} (hs : sliceOf P t = some (e, sz, bt)) (hs' : (sliceOf P t').isSome = true) (hz : zeroOf P e = some zv)
    (hz1 : zv.cells.length = sz) (hz2 : zv.cells.all AV.one = true) (hz0 : sz ≠ 0) (hb : bt ≤ 16384) (hx : rowsOf mu x = some ys) (wx : rowsWf sz xs) (wy : rowsWf sz ys) (hl : xs.length + ys.length ≤ 4294967296) (hne : ys ≠ [])
    (k : K (.sl mu.length sz 0 (xs.length + ys.length)) (mu ++ [.arr (xs ++ ys).flatten])) : AppendStep P mu #[t, t'] (.lst true xs) x K :=
  .inl ⟨t, t', e, sz, bt, ys, rfl, hs, hs', ⟨zv, hz, hz1, hz2⟩, hz0, hb, hx, wy, .inl ⟨xs, rfl, wx, hl, fun h => absurd h hne, fun _ => k⟩⟩
theorem rows_cKd (l : List Kd) : rowsWf 2 (l.map cKd) := fun r hr => by
  obtain ⟨n, _, rfl⟩ := List.mem_map.1 hr
  exact ⟨rfl, rfl⟩
theorem hf_lKd (full : Bool) (l : List Kd) : HF (.lst full (l.map cKd)) := HF.lst fun r hr c hc => by
  obtain ⟨k, _, rfl⟩ := List.mem_map.1 hr
  simp at hc
  rcases hc with rfl | rfl
  · exact HF.sc _
  · exact hf_mKd _
def ColS (ar : Int) (z c : Cell) (sl : Cell) (S : Tp → Prop) (m : Mu) : Prop :=
  ∃ l, m[0]? = some z ∧ m[1]? = some c ∧ m[2]? = some (.mp (eT l)) ∧ m[3]? = some (.arr [aI ar, .mp 2]) ∧ m[4]? = some sl ∧ l.Nodup ∧ (∀ t, t ∈ l → okT t) ∧ ∀ t, t ∈ l ↔ S t
theorem sumU (full : Bool) (a b : Kd) (ha : ∀ t, t ∈ a.ts → okT t) (hb : ∀ t, t ∈ b.ts → okT t) : SoundP Tryz.prog 163 [eKd a, .lst full [cKd b]] (eKd (kSum a b)) := by
  refine SoundP.of_sound (Sound.of_awp Tryz.call163 Tryz.func163 rfl (Nat.le_of_ble_eq_true (by kernel_rfl)) (by kernel_rfl) (pl := {}) ?_)
  simp [go_sem]
  refine CallStep.eff0 (emptyM _ _) ?_ (by rintro r m ⟨e, _⟩; cases e)
  rintro r m ⟨e, c, rfl⟩
  cases e
  simp [go_sem]
  refine AppendStep.lit (e := 82) (sz := 2) (bt := 16) (zv := .agg [aI 0, .sc (.map none)]) (xs := [cKd a]) (ys := [cKd b]) (by simp [go_sem]) (by simp [go_sem]) (by simp [go_sem]) rfl rfl (by omega) (by omega) (by simp [rowsOf]) (rows_cKd [a]) (rows_cKd [b]) (by simp) (by simp) ?_
  simp [go_sem]
  refine LoopGo.up 2 (fun k st => st.tm 4 = .ptr 0 0 ∧ st.tm 5 = .ptr 3 0 ∧ st.tm 15 = .sl 4 2 0 2 ∧ st.tm 16 = aI 2 ∧ st.tm 17 = aI k ∧ ColS a.ar (.arr [aI 0, .sc (.map none)]) c (.arr [aI a.ar, mKd a.ts, aI b.ar, mKd b.ts]) (fun t => (0 < k ∧ t ∈ a.ts) ∨ (1 < k ∧ t ∈ b.ts)) st.mu) ?_ ?_
  · simp [go_sem]
    exact ⟨[], rfl, rfl, rfl, rfl, rfl, by simp, by simp, by simp⟩
  · rintro k st hk ⟨e4, e5, e15, e16, e17, l, g0, g1, g2, g3, g4, h1, h2, h3⟩
    have hk2 : k = 2 ∨ k = 0 ∨ k = 1 := by omega
    obtain ⟨rest, hm⟩ : ∃ rest, st.mu = [.arr [aI 0, .sc (.map none)], c, .mp (eT l), .arr [aI a.ar, .mp 2], .arr [aI a.ar, mKd a.ts, aI b.ar, mKd b.ts]] ++ rest := by
      generalize st.mu = m at *
      match m, g0, g1, g2, g3, g4 with
      | a0 :: a1 :: a2 :: a3 :: a4 :: rest, g0, g1, g2, g3, g4 =>
        simp at g0 g1 g2 g3 g4
        subst g0; subst g1; subst g2; subst g3; subst g4
        exact ⟨rest, rfl⟩
    rcases hk2 with rfl | rfl | rfl
    · simp [go_sem, e4, e5, e15, e16, e17, hm]
      refine Rd.aggs ⟨.hf _ (HF.sc _), Rd.setT rfl h1 (nodup_uni (nodup_uni (by simp))) (fun t => ?_), trivial⟩
      rw [h3]
      show _ ↔ t ∈ uni (uni [] a.ts) b.ts
      simp [mem_uni]
    · simp [go_sem, e4, e5, e15, e16, e17, hm]
      refine LoopGo.seen a.ts.length (fun seen st' => st'.tm 4 = .ptr 0 0 ∧ st'.tm 5 = .ptr 3 0 ∧ st'.tm 15 = .sl 4 2 0 2 ∧ st'.tm 16 = aI 2 ∧ st'.tm 17 = aI 0 ∧ st'.tm 23 = .ptr (rest.length + 6) 0 ∧ st'.mu[rest.length + 6]? = some (.it (eT a.ts) seen) ∧
        ColS a.ar (.arr [aI 0, .sc (.map none)]) c (.arr [aI a.ar, mKd a.ts, aI b.ar, mKd b.ts]) (fun t => t ∈ l ∨ ∃ i, i ∈ seen ∧ a.ts[i]? = some t) st'.mu) ?_ ?_
      · simp [go_sem, e4, e5, e15, e16, e17]
        exact ⟨l, rfl, rfl, rfl, rfl, rfl, h1, h2, by simp⟩
      · rintro seen st' hnd hlt ⟨f4, f5, f15, f16, f17, f23, hit, l', k0, k1, k2, k3, k4, p1, p2, p3⟩
        simp [go_sem, f4, f5, f15, f16, f17, f23]
        refine ⟨rest.length + 6, eT a.ts, seen, rfl, hit, fun i e hi hns => ?_, fun hall => ?_⟩
        · obtain ⟨x, hx, rfl⟩ := eT_get hi
          have hxo : okT x := ha x (List.mem_of_getElem? hx)
          have hil : i < a.ts.length := (List.getElem?_eq_some_iff.1 hx).1
          have hlen : rest.length + 6 < st'.mu.length := (List.getElem?_eq_some_iff.1 hit).1
          have hx3 : x.length = 3 := hxo
          have hget : ∀ (c : Cell) (l : List Cell) (j : Nat), j < 5 → ((st'.mu.set (rest.length + 6) c) ++ l)[j]? = st'.mu[j]? := fun c l j hj => by
            rw [List.getElem?_append_left (by simp; omega), List.getElem?_set_ne (by omega)]
          have q2 := fun c l => (hget c l 2 (by omega)).trans k2
          have q3 := fun c l => (hget c l 3 (by omega)).trans k3
          obtain ⟨x0, x1, x2, rfl⟩ : ∃ x0 x1 x2, x = [x0, x1, x2] := by
            match x, hx3 with
            | [x0, x1, x2], _ => exact ⟨_, _, _, rfl⟩
          simp [go_sem, f4, f5, f15, f16, f17, f23, hi, hlen, hns, hit, q3]
          refine OptK.intro _ (updT (q2 _ _) hxo p2) ?_
          simp [go_sem]
          refine ⟨i, hil, hns, ?_⟩
          show _ ∧ _
          refine ⟨by simp [go_sem, f4], by simp [go_sem, f5], by simp [go_sem, f15], by simp [go_sem, f16], by simp [go_sem, f17], by simp [go_sem, f23], ?_, ins l' [x0, x1, x2], ?_, ?_, ?_, ?_, ?_, nodup_ins p1, fun t ht => ?_, fun t => ?_⟩
          · simp only [put_mu]
            rw [List.getElem?_set_ne (by omega), List.getElem?_append_left (by simpa using hlen), List.getElem?_set_self hlen]
          · simp only [put_mu]
            rw [List.getElem?_set_ne (by omega), hget _ _ 0 (by omega), k0]
          · simp only [put_mu]
            rw [List.getElem?_set_ne (by omega), hget _ _ 1 (by omega), k1]
          · simp only [put_mu]
            rw [List.getElem?_set_self (by simp; omega)]
          · simp only [put_mu]
            rw [List.getElem?_set_ne (by omega), hget _ _ 3 (by omega), k3]
          · simp only [put_mu]
            rw [List.getElem?_set_ne (by omega), hget _ _ 4 (by omega), k4]
          · rcases mem_ins.1 ht with h | rfl
            · exact p2 t h
            · exact hxo
          · rw [mem_ins, p3]
            constructor
            · rintro ((h | ⟨j, hj, e⟩) | rfl)
              · exact .inl h
              · exact .inr ⟨j, by simp [hj], e⟩
              · exact .inr ⟨i, by simp, hx⟩
            · rintro (h | ⟨j, hj, e⟩)
              · exact .inl (.inl h)
              · rcases List.mem_append.1 hj with hj | hj
                · exact .inl (.inr ⟨j, hj, e⟩)
                · rw [List.mem_singleton] at hj; subst hj
                  rw [hx] at e; cases e
                  exact .inr rfl
        · have hend : ∀ t, t ∈ l' ↔ (t ∈ l ∨ t ∈ a.ts) := fun t => by
            rw [p3]
            constructor
            · rintro (h | ⟨j, hj, e⟩)
              · exact .inl h
              · exact .inr (List.mem_of_getElem? e)
            · rintro (h | h)
              · exact .inl h
              · obtain ⟨j, hj⟩ := List.mem_iff_getElem?.1 h
                exact .inr ⟨j, hall j (by simpa using (List.getElem?_eq_some_iff.1 hj).1), hj⟩
          simp [go_sem, f4, f5, f15, f16, f17, f23, wr1, wr2]
          refine ⟨l', k0, k1, k2, k3, k4, p1, p2, fun t => ?_⟩
          rw [hend t, h3]
          simp
    · simp [go_sem, e4, e5, e15, e16, e17, hm]
      refine LoopGo.seen b.ts.length (fun seen st' => st'.tm 4 = .ptr 0 0 ∧ st'.tm 5 = .ptr 3 0 ∧ st'.tm 15 = .sl 4 2 0 2 ∧ st'.tm 16 = aI 2 ∧ st'.tm 17 = aI 1 ∧ st'.tm 23 = .ptr (rest.length + 6) 0 ∧ st'.mu[rest.length + 6]? = some (.it (eT b.ts) seen) ∧
        ColS a.ar (.arr [aI 0, .sc (.map none)]) c (.arr [aI a.ar, mKd a.ts, aI b.ar, mKd b.ts]) (fun t => t ∈ l ∨ ∃ i, i ∈ seen ∧ b.ts[i]? = some t) st'.mu) ?_ ?_
      · simp [go_sem, e4, e5, e15, e16, e17]
        exact ⟨l, rfl, rfl, rfl, rfl, rfl, h1, h2, by simp⟩
      · rintro seen st' hnd hlt ⟨f4, f5, f15, f16, f17, f23, hit, l', k0, k1, k2, k3, k4, p1, p2, p3⟩
        simp [go_sem, f4, f5, f15, f16, f17, f23]
        refine ⟨rest.length + 6, eT b.ts, seen, rfl, hit, fun i e hi hns => ?_, fun hall => ?_⟩
        · obtain ⟨x, hx, rfl⟩ := eT_get hi
          have hxo : okT x := hb x (List.mem_of_getElem? hx)
          have hil : i < b.ts.length := (List.getElem?_eq_some_iff.1 hx).1
          have hlen : rest.length + 6 < st'.mu.length := (List.getElem?_eq_some_iff.1 hit).1
          have hx3 : x.length = 3 := hxo
          have hget : ∀ (c : Cell) (l : List Cell) (j : Nat), j < 5 → ((st'.mu.set (rest.length + 6) c) ++ l)[j]? = st'.mu[j]? := fun c l j hj => by
            rw [List.getElem?_append_left (by simp; omega), List.getElem?_set_ne (by omega)]
          have q2 := fun c l => (hget c l 2 (by omega)).trans k2
          have q3 := fun c l => (hget c l 3 (by omega)).trans k3
          obtain ⟨x0, x1, x2, rfl⟩ : ∃ x0 x1 x2, x = [x0, x1, x2] := by
            match x, hx3 with
            | [x0, x1, x2], _ => exact ⟨_, _, _, rfl⟩
          simp [go_sem, f4, f5, f15, f16, f17, f23, hi, hlen, hns, hit, q3]
          refine OptK.intro _ (updT (q2 _ _) hxo p2) ?_
          simp [go_sem]
          refine ⟨i, hil, hns, ?_⟩
          show _ ∧ _
          refine ⟨by simp [go_sem, f4], by simp [go_sem, f5], by simp [go_sem, f15], by simp [go_sem, f16], by simp [go_sem, f17], by simp [go_sem, f23], ?_, ins l' [x0, x1, x2], ?_, ?_, ?_, ?_, ?_, nodup_ins p1, fun t ht => ?_, fun t => ?_⟩
          · simp only [put_mu]
            rw [List.getElem?_set_ne (by omega), List.getElem?_append_left (by simpa using hlen), List.getElem?_set_self hlen]
          · simp only [put_mu]
            rw [List.getElem?_set_ne (by omega), hget _ _ 0 (by omega), k0]
          · simp only [put_mu]
            rw [List.getElem?_set_ne (by omega), hget _ _ 1 (by omega), k1]
          · simp only [put_mu]
            rw [List.getElem?_set_self (by simp; omega)]
          · simp only [put_mu]
            rw [List.getElem?_set_ne (by omega), hget _ _ 3 (by omega), k3]
          · simp only [put_mu]
            rw [List.getElem?_set_ne (by omega), hget _ _ 4 (by omega), k4]
          · rcases mem_ins.1 ht with h | rfl
            · exact p2 t h
            · exact hxo
          · rw [mem_ins, p3]
            constructor
            · rintro ((h | ⟨j, hj, e⟩) | rfl)
              · exact .inl h
              · exact .inr ⟨j, by simp [hj], e⟩
              · exact .inr ⟨i, by simp, hx⟩
            · rintro (h | ⟨j, hj, e⟩)
              · exact .inl (.inl h)
              · rcases List.mem_append.1 hj with hj | hj
                · exact .inl (.inr ⟨j, hj, e⟩)
                · rw [List.mem_singleton] at hj; subst hj
                  rw [hx] at e; cases e
                  exact .inr rfl
        · have hend : ∀ t, t ∈ l' ↔ (t ∈ l ∨ t ∈ b.ts) := fun t => by
            rw [p3]
            constructor
            · rintro (h | ⟨j, hj, e⟩)
              · exact .inl h
              · exact .inr (List.mem_of_getElem? e)
            · rintro (h | h)
              · exact .inl h
              · obtain ⟨j, hj⟩ := List.mem_iff_getElem?.1 h
                exact .inr ⟨j, hall j (by simpa using (List.getElem?_eq_some_iff.1 hj).1), hj⟩
          simp [go_sem, f4, f5, f15, f16, f17, f23, wr1, wr2]
          refine ⟨l', k0, k1, k2, k3, k4, p1, p2, fun t => ?_⟩
          rw [hend t, h3]
          simp
end Go.Proofs.YtcfopdccdeeleaaGreatDoor.Y7


namespace Go.Proofs.YtcfopdccdeeleaaGreatDoor.Y8
open Go Go.Ev Go.Proofs Y1 Y2 Y3 Y4 P1 YM Y5 Y6 Y7
theorem seen_mem {l : List Tp} {i : Nat} {x : Tp} (hx : l[i]? = some x) {seen : List Nat} {t : Tp} : (∃ j, j ∈ seen ++ [i] ∧ l[j]? = some t) ↔ (∃ j, j ∈ seen ∧ l[j]? = some t) ∨ t = x := by
  constructor
  · rintro ⟨j, hj, e⟩
    rcases List.mem_append.1 hj with hj | hj
    · exact .inl ⟨j, hj, e⟩
    · rw [List.mem_singleton] at hj; subst hj
      rw [hx] at e; cases e
      exact .inr rfl
  · rintro (⟨j, hj, e⟩ | rfl)
    · exact ⟨j, by simp [hj], e⟩
    · exact ⟨i, by simp, hx⟩
theorem seen_all {l : List Tp} {seen : List Nat} (hall : ∀ i, i < l.length → i ∈ seen) {t : Tp} : (∃ j, j ∈ seen ∧ l[j]? = some t) ↔ t ∈ l := by
  constructor
  · rintro ⟨j, hj, e⟩; exact List.mem_of_getElem? e
  · intro h
    obtain ⟨j, hj⟩ := List.mem_iff_getElem?.1 h
    exact ⟨j, hall j (List.getElem?_eq_some_iff.1 hj).1, hj⟩
structure ok2 (k : Kd) : Prop where
  ar : k.ar = 2
  nd : k.ts.Nodup
  ts : ∀ t, t ∈ k.ts → ∃ x y : Int, t = [x, y, 0] ∧ 0 ≤ x ∧ x < 4 ∧ 0 ≤ y ∧ y < 4
theorem ok2.okK {k : Kd} (h : ok2 k) : okK k := ⟨by rw [h.ar]; omega, fun t ht => by obtain ⟨x, y, rfl, _⟩ := h.ts t ht; rfl, h.nd⟩
theorem ok2.join {k : Kd} (h : ok2 k) : ok2 (kJoin k k) := by
  refine ⟨by simp [kJoin, h.ar], nodup_joinL, fun t ht => ?_⟩
  have ht : t ∈ joinL k.ar.toNat k.ar.toNat k.ts k.ts := ht
  rw [h.ar] at ht
  obtain ⟨x, y, ⟨hx, hy⟩, hf⟩ := mem_joinL.1 ht
  obtain ⟨x0, x1, rfl, a1, a2, a3, a4⟩ := h.ts x hx
  obtain ⟨y0, y1, rfl, b1, b2, b3, b4⟩ := h.ts y hy
  unfold joinF at hf
  split at hf
  · simp [conc, pad] at hf
    exact ⟨x0, y1, hf.symm, a1, a2, b3, b4⟩
  · exact absurd hf (by simp)
theorem ok2.sum {a b : Kd} (h : ok2 a) (k : ok2 b) : ok2 (kSum a b) := by
  refine ⟨h.ar, nodup_uni (nodup_uni (by simp)), fun t ht => ?_⟩
  have ht : t ∈ uni (uni [] a.ts) b.ts := ht
  simp only [mem_uni, List.not_mem_nil, false_or] at ht
  exact ht.elim (h.ts t) (k.ts t)
theorem ok2.len {k : Kd} (h : ok2 k) : k.ts.length ≤ 16 := by
  have hsub : ∀ t, t ∈ k.ts → t ∈ (List.range 4).flatMap fun (x : Nat) => (List.range 4).map fun (y : Nat) => [(x : Int), (y : Int), 0] := by
    intro t ht
    obtain ⟨x, y, rfl, h1, h2, h3, h4⟩ := h.ts t ht
    rw [List.mem_flatMap]
    refine ⟨x.toNat, List.mem_range.2 (by omega), List.mem_map.2 ⟨y.toNat, List.mem_range.2 (by omega), ?_⟩⟩
    rw [show ((x.toNat : Nat) : Int) = x by omega, show ((y.toNat : Nat) : Int) = y by omega]
  have := List.Nodup.length_le_of_subset h.nd hsub
  exact Nat.le_trans this (by decide)
theorem cloN_eq {f n : Nat} {a : Kd} (h : ¬ n < a.ts.length) : cloN f n a = a := by
  cases f with
  | zero => rfl
  | succ f => simp [cloN, h]
theorem closureU (a : Kd) (ha : ok2 a) : SoundP Tryz.prog 169 [eKd a] (eKd (kClo a)) := by
  refine SoundP.of_sound (Sound.of_awp Tryz.call169 Tryz.func169 rfl (Nat.le_of_ble_eq_true (by kernel_rfl)) (by kernel_rfl) (pl := { mt := [1] }) ?_)
  simp [go_sem]
  refine LoopGo.keep (fun m st => ∃ (n f : Nat) (cur : Kd), m = 17 - n ∧ cloN f n cur = kClo a ∧ 70 ≤ f + n ∧ ok2 cur ∧ st.tm 3 = aI n ∧ st.tm 1 = .ptr 0 0 ∧ st.tm 2 = .ptr 1 0 ∧ st.mu = [.arr (cKd cur), .arr [aI 0, .sc (.map none)]]) 17 ?_ ?_
  · exact ⟨0, 70, a, rfl, rfl, by omega, ha, by simp [go_sem], by simp [go_sem], by simp [go_sem], by simp [go_sem]⟩
  · rintro m st ⟨n, f, cur, rfl, hc, hf, hok, e3, e1, e2, hm⟩
    have hlen := hok.len
    by_cases hn : n < cur.ts.length
    · simp [go_sem, e1, e2, e3, hm, hn]
      refine DrawGo.intro (by kernel_rfl) ?_
      simp [go_sem, e1, e2, e3, hm, hn]
      refine CallStep.pure (joinU cur cur hok.okK hok.okK) (.cons (.hf (hf_eKd _)) (.cons (.hf (hf_eKd _)) .nil)) ?_
      simp [go_sem]
      refine CallStep.pure (sumU _ cur (kJoin cur cur) hok.okK.len hok.join.okK.len) (.cons (.hf (hf_eKd _)) (.cons (.hf (hf_lKd _ [kJoin cur cur])) .nil)) ?_
      simp [go_sem, e1]
      obtain ⟨f, rfl⟩ : ∃ f', f = f' + 1 := ⟨f - 1, by omega⟩
      refine Keep.loop (17 - cur.ts.length) (by omega) ⟨cur.ts.length, f, kSum cur (kJoin cur cur), rfl, ?_, by omega, hok.sum hok.join, by simp [go_sem, hm, hn], by simp [go_sem, e1], by simp [go_sem, e2], by simp [go_sem]⟩
      rw [← hc, cloN, if_pos hn]
    · rw [cloN_eq hn] at hc
      subst hc
      simp [go_sem, e1, e2, e3, hm, hn]
      exact .hf _ (hf_eKd _)
theorem alikeU (op : Int) (a b : Kd) (ha : okK a) (hb : okK b) : SoundP Tryz.prog 132 [aI op, eKd a, eKd b] (eKd (alikeK op a b)) := by
  refine SoundP.of_sound (Sound.of_awp Tryz.call132 Tryz.func132 rfl (Nat.le_of_ble_eq_true (by kernel_rfl)) (by kernel_rfl) (pl := {}) ?_)
  unfold alikeK
  by_cases h6 : op = 6
  · subst h6
    simp [go_sem]
    refine CallStep.pure (sumU _ a b ha.len hb.len) (.cons (.hf (hf_eKd _)) (.cons (.hf (hf_lKd _ [b])) .nil)) ?_
    simp [go_sem]
    exact .hf _ (hf_eKd _)
  by_cases h14 : op = 14
  · subst h14
    simp [go_sem]
    refine CallStep.pure (sumU _ a b ha.len hb.len) (.cons (.hf (hf_eKd _)) (.cons (.hf (hf_lKd _ [b])) .nil)) ?_
    simp [go_sem]
    exact .hf _ (hf_eKd _)
  by_cases h7 : op = 7
  · subst h7
    simp [go_sem]
    refine CallStep.eff0 (emptyM _ _) ?_ (by rintro r m ⟨e, _⟩; cases e)
    rintro r m ⟨e, c, rfl⟩
    cases e
    simp [go_sem]
    obtain ⟨B, hB⟩ : ∃ B, B = mKd b.ts := ⟨_, rfl⟩
    refine LoopGo.seen a.ts.length (fun seen st => st.tm 4 = .ip (cKd a) ∧ st.tm 5 = .ip [aI b.ar, B] ∧ st.tm 6 = .ptr 0 0 ∧ st.tm 7 = .ptr 3 0 ∧ st.tm 24 = .ptr 4 0 ∧
      ColS a.ar (.arr [aI 0, .sc (.map none)]) c (.it (eT a.ts) seen) (fun t => (∃ i, i ∈ seen ∧ a.ts[i]? = some t) ∧ t ∈ b.ts) st.mu) ?_ ?_
    · exact ⟨by simp [go_sem], by simp [go_sem, hB], by simp [go_sem], by simp [go_sem], by simp [go_sem], [], rfl, rfl, rfl, rfl, rfl, by simp, by simp, by simp⟩
    · rintro seen st hnd hlt ⟨e4, e5, e6, e7, e24, l, k0, k1, k2, k3, k4, h1, h2, h3⟩
      simp [go_sem, e4, e5, e6, e7, e24]
      refine ⟨4, eT a.ts, seen, rfl, k4, fun i e hi hns => ?_, fun hall => ?_⟩
      · obtain ⟨x, hx, rfl⟩ := eT_get hi
        have hxo : okT x := ha.len x (List.mem_of_getElem? hx)
        have hil : i < a.ts.length := (List.getElem?_eq_some_iff.1 hx).1
        have hx3 : x.length = 3 := hxo
        have hlk : ∀ mu : Mu, lookupA Tryz.prog mu 80 B (aT x) false = some (aB (decide (x ∈ b.ts))) := fun mu => by rw [hB]; exact lookT hxo hb.len
        have hlen : 4 < st.mu.length := (List.getElem?_eq_some_iff.1 k4).1
        have hget : ∀ (c : Cell) (l : List Cell) (j : Nat), j < 4 → ((st.mu.set 4 c) ++ l)[j]? = st.mu[j]? := fun c l j hj => by
          rw [List.getElem?_append_left (by simp; omega), List.getElem?_set_ne (by omega)]
        have q2 := fun c l => (hget c l 2 (by omega)).trans k2
        have q3 := fun c l => (hget c l 3 (by omega)).trans k3
        obtain ⟨x0, x1, x2, rfl⟩ : ∃ x0 x1 x2, x = [x0, x1, x2] := by
          match x, hx3 with
          | [x0, x1, x2], _ => exact ⟨_, _, _, rfl⟩
        have hlk' : ∀ mu : Mu, lookupA Tryz.prog mu 80 B (.agg [.sc (.int .i8 x0), .sc (.int .i8 x1), .sc (.int .i8 x2)]) false = some (aB (decide ([x0, x1, x2] ∈ b.ts))) := hlk
        simp [go_sem, e4, e5, e6, e7, e24, k4, hi, hlen, hns, hlk']
        by_cases hxb : [x0, x1, x2] ∈ b.ts
        · simp [go_sem, hxb, e4, e5, e6, e7, e24, q3]
          refine OptK.intro _ (updT (q2 _ _) hxo h2) ?_
          simp [go_sem]
          refine ⟨i, hil, hns, by simp [go_sem, e4], by simp [go_sem, e5], by simp [go_sem, e6], by simp [go_sem, e7], by simp [go_sem, e24], ins l [x0, x1, x2], ?_, ?_, ?_, ?_, ?_, nodup_ins h1, fun t ht => ?_, fun t => ?_⟩
          · simp only [put_mu]
            rw [List.getElem?_set_ne (by omega), hget _ _ 0 (by omega), k0]
          · simp only [put_mu]
            rw [List.getElem?_set_ne (by omega), hget _ _ 1 (by omega), k1]
          · simp only [put_mu]
            rw [List.getElem?_set_self (by simp; omega)]
          · simp only [put_mu]
            rw [List.getElem?_set_ne (by omega), hget _ _ 3 (by omega), k3]
          · simp only [put_mu]
            rw [List.getElem?_set_ne (by omega), List.getElem?_append_left (by simpa using hlen), List.getElem?_set_self hlen]
          · rcases mem_ins.1 ht with h | rfl
            · exact h2 t h
            · exact hxo
          · simp only [mem_ins, h3, seen_mem hx]
            constructor
            · rintro (⟨h, hb⟩ | rfl)
              · exact ⟨.inl h, hb⟩
              · exact ⟨.inr rfl, hxb⟩
            · rintro ⟨h | rfl, hb⟩
              · exact .inl ⟨h, hb⟩
              · exact .inr rfl
        · simp [go_sem, hxb, e4, e5, e6, e7, e24]
          refine ⟨i, hil, hns, by simp [go_sem, e4], by simp [go_sem, e5], by simp [go_sem, e6], by simp [go_sem, e7], by simp [go_sem, e24], l, ?_, ?_, ?_, ?_, ?_, h1, h2, fun t => ?_⟩
          · simp only [put_mu]
            rw [hget _ _ 0 (by omega), k0]
          · simp only [put_mu]
            rw [hget _ _ 1 (by omega), k1]
          · simp only [put_mu]
            rw [hget _ _ 2 (by omega), k2]
          · simp only [put_mu]
            rw [hget _ _ 3 (by omega), k3]
          · simp only [put_mu]
            rw [List.getElem?_append_left (by simpa using hlen), List.getElem?_set_self hlen]
          · simp only [h3, seen_mem hx]
            constructor
            · rintro ⟨h, hb⟩; exact ⟨.inl h, hb⟩
            · rintro ⟨h | rfl, hb⟩
              · exact ⟨h, hb⟩
              · exact absurd hb hxb
      · obtain ⟨rest, hm⟩ := four k0 k1 k2 k3
        simp [go_sem, e4, e5, e6, e7, e24, hm]
        refine Rd.aggs ⟨.hf _ (HF.sc _), Rd.setT rfl h1 (ha.nd.filter _) (fun t => ?_), trivial⟩
        refine (h3 t).trans ?_
        show (_ ∧ _) ↔ t ∈ a.ts.filter fun t => decide (t ∈ b.ts)
        rw [seen_all (by simpa using hall)]
        simp
  · simp [go_sem, h6, h14, h7]
    exact .hf _ (hf_eKd _)
end Go.Proofs.YtcfopdccdeeleaaGreatDoor.Y8


namespace Go.Ev
open Go Go.RowKit
theorem SoundP.of_still {P : Program} {f : FuncId} {args : List AV} {r : AV} {vs : Array Value} {v : Value} (hcal : Callable P f) (hargs : ∀ (G : Gh) (h : Array Obj) (us : Array Value), ArgsRel G h args us → us = vs)
    (h : ∀ w, Calls P f vs w fun e w' => e = .returned v ∧ w' = w) (hv : ∀ (G : Gh) (h : Array Obj), VRel G h r v) : SoundP P f args r := by
  refine ⟨hcal, fun imm w us hi ra => ?_⟩
  rw [hargs _ _ _ ra]
  refine (h w).mono fun e w' ⟨he, hw⟩ => ?_
  subst hw
  exact ⟨imm, v, he, fun _ hb => hb, fun b hb => ⟨hi.imm b hb, .inl hb⟩, ⟨Below.refl _ _, Nat.le_refl _⟩, hv _ _⟩
theorem argsRel_sc2 {G : Gh} {h : Array Obj} {a b : Value} {us : Array Value} (r : ArgsRel G h [.sc a, .sc b] us) : us = #[a, b] := by
  obtain ⟨h1, h2⟩ := r
  have r0 := h2 0 _ rfl
  have r1 := h2 1 _ rfl
  have hs : us.size = 2 := by simpa using h1
  have e0 : us.getD 0 undef = a := by generalize us.getD 0 undef = x at r0; cases r0; rfl
  have e1 : us.getD 1 undef = b := by generalize us.getD 1 undef = x at r1; cases r1; rfl
  apply Array.ext
  · simpa using hs
  · intro i hi hi'
    have : i = 0 ∨ i = 1 := by omega
    rcases this with rfl | rfl
    · simpa [Array.getD_eq_getD_getElem?, hi] using e0
    · simpa [Array.getD_eq_getD_getElem?, hi] using e1
theorem Stp.ahead {G : Gh} {mu : Mu} {w : World} (s : Sim G mu w.heap) (n : Nat) : Stp G mu w G mu (Sort.ahead w n) :=
  ⟨.refl G, s, fun _ _ _ => rfl, Nat.le_refl _, fun _ h => .inl h, fun _ h => .inl h, rfl, rfl, rfl, Nat.le_add_right _ _⟩
theorem grow_get (w : World) (os : Array Obj) (b : Nat) (h : b < w.heap.size) : (Sort.grow w os).heap[b]? = w.heap[b]? := by
  show (w.heap ++ os)[b]? = _
  rw [Array.getElem?_append_left h]
theorem Stp.grow {G : Gh} {mu : Mu} {w : World} (s : Sim G mu w.heap) (os : Array Obj) : Stp G mu w G mu (Sort.grow w os) := by
  have hsz : w.heap.size ≤ (Sort.grow w os).heap.size := by show _ ≤ (w.heap ++ os).size; simp
  have he : Ext G w.heap (Sort.grow w os).heap := ⟨hsz, fun b hb => grow_get w os b (s.imm b hb)⟩
  refine ⟨.refl G, ⟨s.len, fun b hb => Nat.lt_of_lt_of_le (s.imm b hb) hsz, ?_, s.live, s.inj, s.tab.mono (fun _ h => h) he.keep⟩, fun b hb _ => grow_get w os b hb, hsz, fun b h => .inl h, fun b h => .inl h, rfl, rfl, rfl, Nat.le_refl _⟩
  intro i c blk tot hc hd hk
  obtain ⟨o, h1, h2⟩ := s.obj i c blk tot hc hd hk
  exact ⟨o, by rw [grow_get w os blk (Array.getElem?_eq_some_iff.1 h1).1]; exact h1, h2.mono (.refl G) he⟩
end Go.Ev


namespace Go.Proofs
open Go.Shelf
def Tryz.laysSF1_ren : Go.Shelf.Ren := ⟨fun | 6 => 44 | 15 => 90 | 14 => 89 | 28 => 144 | 29 => 145 | 20 => 136 | 21 => 137 | 22 => 138 | 23 => 139 | 24 => 140 | 25 => 141 | 26 => 142 | 27 => 143 | 46 => 170 | 47 => 171 | 48 => 172 | 49 => 173 | 50 => 174 | 57 => 178 | n => n, fun | 22 => 38 | 24 => 52 | 25 => 94 | 3 => 3 | 39 => 154 | 0 => 0 | 53 => 212 | 55 => 214 | 4 => 4 | 46 => 205 | 45 => 204 | 50 => 209 | 5 => 5 | 9 => 9 | 66 => 233 | 70 => 237 | 76 => 243 | 77 => 244 | n => n, fun | n => n⟩
theorem Tryz.laysSF1 : Go.Proofs.SlLaysF.n6 Tryz.prog Tryz.laysSF1_ren := {
  mixed := by kernel_rfl
  f6 := ⟨Tryz.f44.name, by decide, Tryz.func44.trans (congrArg some (by kernel_rfl))⟩
  f14 := ⟨Tryz.f89.name, by decide, Tryz.func89.trans (congrArg some (by kernel_rfl))⟩
  f15 := Tryz.func90.trans (congrArg some (by kernel_rfl))
  f20 := ⟨Tryz.f136.name, by decide, Tryz.func136.trans (congrArg some (by kernel_rfl))⟩
  f21 := ⟨Tryz.f137.name, by decide, Tryz.func137.trans (congrArg some (by kernel_rfl))⟩
  f22 := ⟨Tryz.f138.name, by decide, Tryz.func138.trans (congrArg some (by kernel_rfl))⟩
  f23 := ⟨Tryz.f139.name, by decide, Tryz.func139.trans (congrArg some (by kernel_rfl))⟩
  f24 := ⟨Tryz.f140.name, by decide, Tryz.func140.trans (congrArg some (by kernel_rfl))⟩
  f25 := ⟨Tryz.f141.name, by decide, Tryz.func141.trans (congrArg some (by kernel_rfl))⟩
  f26 := ⟨Tryz.f142.name, by decide, Tryz.func142.trans (congrArg some (by kernel_rfl))⟩
  f27 := ⟨Tryz.f143.name, by decide, Tryz.func143.trans (congrArg some (by kernel_rfl))⟩
  f28 := Tryz.func144.trans (congrArg some (by kernel_rfl))
  f29 := Tryz.func145.trans (congrArg some (by kernel_rfl))
  f46 := ⟨Tryz.f170.name, by decide, Tryz.func170.trans (congrArg some (by kernel_rfl))⟩
  f47 := Tryz.func171.trans (congrArg some (by kernel_rfl))
  f48 := Tryz.func172.trans (congrArg some (by kernel_rfl))
  f49 := ⟨Tryz.f173.name, by decide, Tryz.func173.trans (congrArg some (by kernel_rfl))⟩
  f50 := ⟨Tryz.f174.name, by decide, Tryz.func174.trans (congrArg some (by kernel_rfl))⟩
  f57 := ⟨Tryz.f178.name, by decide, Tryz.func178.trans (congrArg some (by kernel_rfl))⟩
  t0 := Tryz.underlying0
  a0 := Tryz.isAgg0
  z0 := Tryz.sizeOf0
  v0 := Tryz.zeroValue0
  t3 := Tryz.underlying3
  a3 := Tryz.isAgg3
  z3 := Tryz.sizeOf3
  v3 := Tryz.zeroValue3
  t4 := Tryz.underlying4
  a4 := Tryz.isAgg4
  z4 := Tryz.sizeOf4
  v4 := Tryz.zeroValue4
  t5 := Tryz.underlying5
  a5 := Tryz.isAgg5
  z5 := Tryz.sizeOf5
  v5 := Tryz.zeroValue5
  t9 := Tryz.underlying9
  a9 := Tryz.isAgg9
  z9 := Tryz.sizeOf9
  v9 := Tryz.zeroValue9
  t22 := Tryz.underlying38
  a22 := Tryz.isAgg38
  z22 := Tryz.sizeOf38
  v22 := Tryz.zeroValue38
  a24 := Tryz.isAgg52
  z24 := Tryz.sizeOf52
  t25 := Tryz.underlying94
  a25 := Tryz.isAgg94
  z25 := Tryz.sizeOf94
  v25 := Tryz.zeroValue94
  t39 := Tryz.underlying154
  a39 := Tryz.isAgg154
  z39 := Tryz.sizeOf154
  v39 := Tryz.zeroValue154
  t45 := Tryz.underlying204
  a45 := Tryz.isAgg204
  z45 := Tryz.sizeOf204
  v45 := Tryz.zeroValue204
  t46 := Tryz.underlying205
  a46 := Tryz.isAgg205
  z46 := Tryz.sizeOf205
  v46 := Tryz.zeroValue205
  t50 := Tryz.underlying209
  a50 := Tryz.isAgg209
  z50 := Tryz.sizeOf209
  v50 := Tryz.zeroValue209
  t53 := Tryz.underlying212
  a53 := Tryz.isAgg212
  z53 := Tryz.sizeOf212
  v53 := Tryz.zeroValue212
  t55 := Tryz.underlying214
  a55 := Tryz.isAgg214
  z55 := Tryz.sizeOf214
  v55 := Tryz.zeroValue214
  t66 := Tryz.underlying233
  a66 := Tryz.isAgg233
  z66 := Tryz.sizeOf233
  v66 := Tryz.zeroValue233
  t70 := Tryz.underlying237
  a70 := Tryz.isAgg237
  z70 := Tryz.sizeOf237
  v70 := Tryz.zeroValue237
  t76 := Tryz.underlying243
  a76 := Tryz.isAgg243
  z76 := Tryz.sizeOf243
  v76 := Tryz.zeroValue243
  t77 := Tryz.underlying244
  a77 := Tryz.isAgg244
  z77 := Tryz.sizeOf244
  v77 := Tryz.zeroValue244 }
def Tryz.laysM171_ren : Go.Shelf.Ren := ⟨fun | 171 => 175 | 243 => 179 | 246 => 182 | 283 => 183 | 284 => 184 | 285 => 185 | 286 => 186 | 129 => 145 | 317 => 187 | 318 => 188 | 319 => 189 | 320 => 190 | 337 => 191 | 338 => 192 | n => n, fun | 3 => 3 | 9 => 9 | 2 => 2 | 4 => 4 | 171 => 251 | 0 => 0 | 53 => 214 | 37 => 239 | 5 => 5 | 173 => 253 | 212 => 256 | 51 => 212 | 20 => 20 | 213 => 257 | 46 => 154 | 232 => 258 | 233 => 259 | n => n, fun | 17 => 0 | 18 => 1 | 19 => 2 | n => n⟩
theorem Tryz.laysM171 : Go.Proofs.LaysM.n171 Tryz.prog Tryz.laysM171_ren := {
  mixed := by kernel_rfl
  f129 := Tryz.func145.trans (congrArg some (by kernel_rfl))
  f171 := Tryz.func175.trans (congrArg some (by kernel_rfl))
  f243 := Tryz.func179.trans (congrArg some (by kernel_rfl))
  f246 := Tryz.func182.trans (congrArg some (by kernel_rfl))
  f283 := Tryz.func183.trans (congrArg some (by kernel_rfl))
  f284 := Tryz.func184.trans (congrArg some (by kernel_rfl))
  f285 := Tryz.func185.trans (congrArg some (by kernel_rfl))
  f286 := Tryz.func186.trans (congrArg some (by kernel_rfl))
  f317 := Tryz.func187.trans (congrArg some (by kernel_rfl))
  f318 := Tryz.func188.trans (congrArg some (by kernel_rfl))
  f319 := Tryz.func189.trans (congrArg some (by kernel_rfl))
  f320 := Tryz.func190.trans (congrArg some (by kernel_rfl))
  f337 := Tryz.func191.trans (congrArg some (by kernel_rfl))
  f338 := Tryz.func192.trans (congrArg some (by kernel_rfl))
  t0 := Tryz.underlying0
  a0 := Tryz.isAgg0
  z0 := Tryz.sizeOf0
  v0 := Tryz.zeroValue0
  t2 := Tryz.underlying2
  a2 := Tryz.isAgg2
  z2 := Tryz.sizeOf2
  v2 := Tryz.zeroValue2
  t3 := Tryz.underlying3
  a3 := Tryz.isAgg3
  z3 := Tryz.sizeOf3
  v3 := Tryz.zeroValue3
  t4 := Tryz.underlying4
  a4 := Tryz.isAgg4
  z4 := Tryz.sizeOf4
  v4 := Tryz.zeroValue4
  t5 := Tryz.underlying5
  a5 := Tryz.isAgg5
  z5 := Tryz.sizeOf5
  v5 := Tryz.zeroValue5
  t9 := Tryz.underlying9
  a9 := Tryz.isAgg9
  z9 := Tryz.sizeOf9
  v9 := Tryz.zeroValue9
  t20 := Tryz.underlying20
  a20 := Tryz.isAgg20
  z20 := Tryz.sizeOf20
  v20 := Tryz.zeroValue20
  t37 := Tryz.underlying239
  a37 := Tryz.isAgg239
  z37 := Tryz.sizeOf239
  v37 := Tryz.zeroValue239
  t46 := Tryz.underlying154
  a46 := Tryz.isAgg154
  z46 := Tryz.sizeOf154
  v46 := Tryz.zeroValue154
  t51 := Tryz.underlying212
  a51 := Tryz.isAgg212
  z51 := Tryz.sizeOf212
  v51 := Tryz.zeroValue212
  t53 := Tryz.underlying214
  a53 := Tryz.isAgg214
  z53 := Tryz.sizeOf214
  v53 := Tryz.zeroValue214
  t171 := Tryz.underlying251
  a171 := Tryz.isAgg251
  z171 := Tryz.sizeOf251
  v171 := Tryz.zeroValue251
  t173 := Tryz.underlying253
  a173 := Tryz.isAgg253
  z173 := Tryz.sizeOf253
  v173 := Tryz.zeroValue253
  t212 := Tryz.underlying256
  a212 := Tryz.isAgg256
  z212 := Tryz.sizeOf256
  v212 := Tryz.zeroValue256
  t213 := Tryz.underlying257
  a213 := Tryz.isAgg257
  z213 := Tryz.sizeOf257
  t232 := Tryz.underlying258
  a232 := Tryz.isAgg258
  z232 := Tryz.sizeOf258
  v232 := Tryz.zeroValue258
  t233 := Tryz.underlying259
  a233 := Tryz.isAgg259
  z233 := Tryz.sizeOf259
  v233 := Tryz.zeroValue259
  g17 := by kernel_rfl
  g18 := by kernel_rfl
  g19 := by kernel_rfl
  i0 := by kernel_rfl
  i2 := by kernel_rfl
  i3 := by kernel_rfl
  i4 := by kernel_rfl
  i5 := by kernel_rfl
  i9 := by kernel_rfl
  i20 := by kernel_rfl
  i37 := by kernel_rfl
  i46 := by kernel_rfl
  i51 := by kernel_rfl
  i53 := by kernel_rfl
  i171 := by kernel_rfl
  i173 := by kernel_rfl
  i212 := by kernel_rfl
  i232 := by kernel_rfl
  i233 := by kernel_rfl
  m17 := by kernel_rfl
  m18 := by kernel_rfl
  m19 := by kernel_rfl }
open Go.RowKit Go.Sort Go.Lib in
theorem Tryz.strconv_Itoa (n : Int) (h0 : -9223372036854775808 ≤ n) (h1 : n ≤ 9223372036854775807) (w : World) (htab : Lib.TabIs Tryz.prog w "internal/strconv.uint64pow10" .u64 Lib.pow10Tab) :
    Calls Tryz.prog 175 #[.int .i64 n] w fun e w' => e = .returned (.string ⟨(Lib.itoa n).toArray⟩) ∧ ∃ k os, w' = grow (w.drewN k) os := Any.strconv_Itoa Tryz.laysM171 n h0 h1 w htab
def Tryz.lays212_ren : Go.Shelf.Ren := ⟨fun | 212 => 176 | 263 => 180 | 264 => 181 | n => n, fun | 46 => 154 | 51 => 212 | 146 => 246 | 53 => 214 | 148 => 248 | n => n, fun | n => n⟩
theorem Tryz.lays212 : Go.Proofs.Lays.n212 Tryz.prog Tryz.lays212_ren := {
  mixed := by kernel_rfl
  f212 := Tryz.func176.trans (congrArg some (by kernel_rfl))
  f263 := Tryz.func180.trans (congrArg some (by kernel_rfl))
  f264 := Tryz.func181.trans (congrArg some (by kernel_rfl))
  t46 := Tryz.underlying154
  a46 := Tryz.isAgg154
  z46 := Tryz.sizeOf154
  v46 := Tryz.zeroValue154
  t51 := Tryz.underlying212
  a51 := Tryz.isAgg212
  z51 := Tryz.sizeOf212
  v51 := Tryz.zeroValue212
  t53 := Tryz.underlying214
  a53 := Tryz.isAgg214
  z53 := Tryz.sizeOf214
  v53 := Tryz.zeroValue214
  t146 := Tryz.underlying246
  a146 := Tryz.isAgg246
  z146 := Tryz.sizeOf246
  v146 := Tryz.zeroValue246
  t148 := Tryz.underlying248
  a148 := Tryz.isAgg248
  z148 := Tryz.sizeOf248
  v148 := Tryz.zeroValue248 }
open Go.RowKit Go.Lib in
theorem Tryz.bits_Mul (x y : Nat) (hx : x < 18446744073709551616) (hy : y < 18446744073709551616) (w : World) :
    Calls Tryz.prog 176 #[.int .u64 x, .int .u64 y] w fun e w' => e = .returned (.tuple #[.int .u64 ((x * y / 18446744073709551616 : Nat) : Int), .int .u64 ((x * y % 18446744073709551616 : Nat) : Int)]) ∧ w' = w := Any.bits_Mul Tryz.lays212 x y hx hy w
def Tryz.laysSlF6_f44_ren : Go.Shelf.Ren := ⟨fun | 6 => 44 | 15 => 90 | 14 => 89 | 28 => 144 | 29 => 145 | 20 => 136 | 21 => 137 | 22 => 138 | 23 => 139 | 24 => 140 | 25 => 141 | 26 => 142 | 27 => 143 | 46 => 170 | 47 => 171 | 48 => 172 | 49 => 173 | 50 => 174 | 57 => 178 | n => n, fun | 22 => 38 | 24 => 52 | 25 => 94 | 3 => 3 | 39 => 154 | 0 => 0 | 53 => 212 | 55 => 214 | 4 => 4 | 46 => 205 | 45 => 204 | 50 => 209 | 5 => 5 | 9 => 9 | 66 => 233 | 70 => 237 | 76 => 243 | 77 => 244 | n => n, fun | n => n⟩
theorem Tryz.laysSlF6_f44 : Go.Proofs.SlLaysF.n6 Tryz.prog Tryz.laysSlF6_f44_ren := {
  mixed := by kernel_rfl
  f6 := ⟨Tryz.f44.name, by decide, Tryz.func44.trans (congrArg some (by kernel_rfl))⟩
  f14 := ⟨Tryz.f89.name, by decide, Tryz.func89.trans (congrArg some (by kernel_rfl))⟩
  f15 := Tryz.func90.trans (congrArg some (by kernel_rfl))
  f20 := ⟨Tryz.f136.name, by decide, Tryz.func136.trans (congrArg some (by kernel_rfl))⟩
  f21 := ⟨Tryz.f137.name, by decide, Tryz.func137.trans (congrArg some (by kernel_rfl))⟩
  f22 := ⟨Tryz.f138.name, by decide, Tryz.func138.trans (congrArg some (by kernel_rfl))⟩
  f23 := ⟨Tryz.f139.name, by decide, Tryz.func139.trans (congrArg some (by kernel_rfl))⟩
  f24 := ⟨Tryz.f140.name, by decide, Tryz.func140.trans (congrArg some (by kernel_rfl))⟩
  f25 := ⟨Tryz.f141.name, by decide, Tryz.func141.trans (congrArg some (by kernel_rfl))⟩
  f26 := ⟨Tryz.f142.name, by decide, Tryz.func142.trans (congrArg some (by kernel_rfl))⟩
  f27 := ⟨Tryz.f143.name, by decide, Tryz.func143.trans (congrArg some (by kernel_rfl))⟩
  f28 := Tryz.func144.trans (congrArg some (by kernel_rfl))
  f29 := Tryz.func145.trans (congrArg some (by kernel_rfl))
  f46 := ⟨Tryz.f170.name, by decide, Tryz.func170.trans (congrArg some (by kernel_rfl))⟩
  f47 := Tryz.func171.trans (congrArg some (by kernel_rfl))
  f48 := Tryz.func172.trans (congrArg some (by kernel_rfl))
  f49 := ⟨Tryz.f173.name, by decide, Tryz.func173.trans (congrArg some (by kernel_rfl))⟩
  f50 := ⟨Tryz.f174.name, by decide, Tryz.func174.trans (congrArg some (by kernel_rfl))⟩
  f57 := ⟨Tryz.f178.name, by decide, Tryz.func178.trans (congrArg some (by kernel_rfl))⟩
  t0 := Tryz.underlying0
  a0 := Tryz.isAgg0
  z0 := Tryz.sizeOf0
  v0 := Tryz.zeroValue0
  t3 := Tryz.underlying3
  a3 := Tryz.isAgg3
  z3 := Tryz.sizeOf3
  v3 := Tryz.zeroValue3
  t4 := Tryz.underlying4
  a4 := Tryz.isAgg4
  z4 := Tryz.sizeOf4
  v4 := Tryz.zeroValue4
  t5 := Tryz.underlying5
  a5 := Tryz.isAgg5
  z5 := Tryz.sizeOf5
  v5 := Tryz.zeroValue5
  t9 := Tryz.underlying9
  a9 := Tryz.isAgg9
  z9 := Tryz.sizeOf9
  v9 := Tryz.zeroValue9
  t22 := Tryz.underlying38
  a22 := Tryz.isAgg38
  z22 := Tryz.sizeOf38
  v22 := Tryz.zeroValue38
  a24 := Tryz.isAgg52
  z24 := Tryz.sizeOf52
  t25 := Tryz.underlying94
  a25 := Tryz.isAgg94
  z25 := Tryz.sizeOf94
  v25 := Tryz.zeroValue94
  t39 := Tryz.underlying154
  a39 := Tryz.isAgg154
  z39 := Tryz.sizeOf154
  v39 := Tryz.zeroValue154
  t45 := Tryz.underlying204
  a45 := Tryz.isAgg204
  z45 := Tryz.sizeOf204
  v45 := Tryz.zeroValue204
  t46 := Tryz.underlying205
  a46 := Tryz.isAgg205
  z46 := Tryz.sizeOf205
  v46 := Tryz.zeroValue205
  t50 := Tryz.underlying209
  a50 := Tryz.isAgg209
  z50 := Tryz.sizeOf209
  v50 := Tryz.zeroValue209
  t53 := Tryz.underlying212
  a53 := Tryz.isAgg212
  z53 := Tryz.sizeOf212
  v53 := Tryz.zeroValue212
  t55 := Tryz.underlying214
  a55 := Tryz.isAgg214
  z55 := Tryz.sizeOf214
  v55 := Tryz.zeroValue214
  t66 := Tryz.underlying233
  a66 := Tryz.isAgg233
  z66 := Tryz.sizeOf233
  v66 := Tryz.zeroValue233
  t70 := Tryz.underlying237
  a70 := Tryz.isAgg237
  z70 := Tryz.sizeOf237
  v70 := Tryz.zeroValue237
  t76 := Tryz.underlying243
  a76 := Tryz.isAgg243
  z76 := Tryz.sizeOf243
  v76 := Tryz.zeroValue243
  t77 := Tryz.underlying244
  a77 := Tryz.isAgg244
  z77 := Tryz.sizeOf244
  v77 := Tryz.zeroValue244 }
open Go.RowKit Go.Lib Go.Sort in
theorem Tryz.slices_SortFunc {α : Type} [Inhabited α] (enc : α → Value) (h1 : OneCell enc) (cf : α → α → Int) (hO : SWO (ltOf cf)) (g : Nat) (cb : Array Value) (blk off cap : Nat) (d : Array α) (w : World) (eg : ∀ args w, (callFunc g args).run Tryz.prog w = .ok (.enter g args) w) (hcmp : CmpLays1 Tryz.prog g cb enc cf blk off d.size w) (hH : Holds enc w blk off d) (hblk : blk < w.heap.size) (hsz : d.size < 4611686018427387904) :
    Calls Tryz.prog 44 #[.slice (some ⟨blk, off, none⟩) d.size cap, .func (.func g) #[] cb] w fun e w' =>
      e = .returned (.tuple #[]) ∧ ∃ d' n os, PermIn 0 d.size d d' ∧ SortedIn (ltOf cf) 0 d.size d' ∧ w' = sortWorld enc w blk off n d' os := Any.slices_SortFunc Tryz.laysSlF6_f44 enc h1 cf hO g cb blk off cap d w eg hcmp hH hblk hsz
def Tryz.laysSlF06_f44_ren : Go.Shelf.Ren := ⟨fun | 6 => 44 | 15 => 90 | 14 => 89 | 28 => 144 | 29 => 145 | 20 => 136 | 21 => 137 | 22 => 138 | 23 => 139 | 24 => 140 | 25 => 141 | 26 => 142 | 27 => 143 | 46 => 170 | 47 => 171 | 48 => 172 | 49 => 173 | 50 => 174 | 57 => 178 | n => n, fun | 22 => 38 | 24 => 52 | 25 => 94 | 3 => 3 | 39 => 154 | 0 => 0 | 53 => 212 | 55 => 214 | 4 => 4 | 46 => 205 | 45 => 204 | 50 => 209 | 5 => 5 | 9 => 9 | 66 => 233 | 70 => 237 | 76 => 243 | 77 => 244 | n => n, fun | n => n⟩
theorem Tryz.laysSlF06_f44 : Go.Proofs.SlLaysF0.n6 Tryz.prog Tryz.laysSlF06_f44_ren := {
  mixed := by kernel_rfl
  f6 := ⟨Tryz.f44.name, by decide, Tryz.func44.trans (congrArg some (by kernel_rfl))⟩
  f14 := ⟨Tryz.f89.name, by decide, Tryz.func89.trans (congrArg some (by kernel_rfl))⟩
  f15 := Tryz.func90.trans (congrArg some (by kernel_rfl))
  f20 := ⟨Tryz.f136.name, by decide, Tryz.func136.trans (congrArg some (by kernel_rfl))⟩
  f21 := ⟨Tryz.f137.name, by decide, Tryz.func137.trans (congrArg some (by kernel_rfl))⟩
  f22 := ⟨Tryz.f138.name, by decide, Tryz.func138.trans (congrArg some (by kernel_rfl))⟩
  f23 := ⟨Tryz.f139.name, by decide, Tryz.func139.trans (congrArg some (by kernel_rfl))⟩
  f24 := ⟨Tryz.f140.name, by decide, Tryz.func140.trans (congrArg some (by kernel_rfl))⟩
  f25 := ⟨Tryz.f141.name, by decide, Tryz.func141.trans (congrArg some (by kernel_rfl))⟩
  f26 := ⟨Tryz.f142.name, by decide, Tryz.func142.trans (congrArg some (by kernel_rfl))⟩
  f27 := ⟨Tryz.f143.name, by decide, Tryz.func143.trans (congrArg some (by kernel_rfl))⟩
  f28 := Tryz.func144.trans (congrArg some (by kernel_rfl))
  f29 := Tryz.func145.trans (congrArg some (by kernel_rfl))
  f46 := ⟨Tryz.f170.name, by decide, Tryz.func170.trans (congrArg some (by kernel_rfl))⟩
  f47 := Tryz.func171.trans (congrArg some (by kernel_rfl))
  f48 := Tryz.func172.trans (congrArg some (by kernel_rfl))
  f49 := ⟨Tryz.f173.name, by decide, Tryz.func173.trans (congrArg some (by kernel_rfl))⟩
  f50 := ⟨Tryz.f174.name, by decide, Tryz.func174.trans (congrArg some (by kernel_rfl))⟩
  f57 := ⟨Tryz.f178.name, by decide, Tryz.func178.trans (congrArg some (by kernel_rfl))⟩
  t0 := Tryz.underlying0
  a0 := Tryz.isAgg0
  z0 := Tryz.sizeOf0
  v0 := Tryz.zeroValue0
  t3 := Tryz.underlying3
  a3 := Tryz.isAgg3
  z3 := Tryz.sizeOf3
  v3 := Tryz.zeroValue3
  t4 := Tryz.underlying4
  a4 := Tryz.isAgg4
  z4 := Tryz.sizeOf4
  v4 := Tryz.zeroValue4
  t5 := Tryz.underlying5
  a5 := Tryz.isAgg5
  z5 := Tryz.sizeOf5
  v5 := Tryz.zeroValue5
  t9 := Tryz.underlying9
  a9 := Tryz.isAgg9
  z9 := Tryz.sizeOf9
  v9 := Tryz.zeroValue9
  t22 := Tryz.underlying38
  a22 := Tryz.isAgg38
  z22 := Tryz.sizeOf38
  v22 := Tryz.zeroValue38
  t25 := Tryz.underlying94
  a25 := Tryz.isAgg94
  z25 := Tryz.sizeOf94
  v25 := Tryz.zeroValue94
  t39 := Tryz.underlying154
  a39 := Tryz.isAgg154
  z39 := Tryz.sizeOf154
  v39 := Tryz.zeroValue154
  t45 := Tryz.underlying204
  a45 := Tryz.isAgg204
  z45 := Tryz.sizeOf204
  v45 := Tryz.zeroValue204
  t46 := Tryz.underlying205
  a46 := Tryz.isAgg205
  z46 := Tryz.sizeOf205
  v46 := Tryz.zeroValue205
  t50 := Tryz.underlying209
  a50 := Tryz.isAgg209
  z50 := Tryz.sizeOf209
  v50 := Tryz.zeroValue209
  t53 := Tryz.underlying212
  a53 := Tryz.isAgg212
  z53 := Tryz.sizeOf212
  v53 := Tryz.zeroValue212
  t55 := Tryz.underlying214
  a55 := Tryz.isAgg214
  z55 := Tryz.sizeOf214
  v55 := Tryz.zeroValue214
  t66 := Tryz.underlying233
  a66 := Tryz.isAgg233
  z66 := Tryz.sizeOf233
  v66 := Tryz.zeroValue233
  t70 := Tryz.underlying237
  a70 := Tryz.isAgg237
  z70 := Tryz.sizeOf237
  v70 := Tryz.zeroValue237
  t76 := Tryz.underlying243
  a76 := Tryz.isAgg243
  z76 := Tryz.sizeOf243
  v76 := Tryz.zeroValue243
  t77 := Tryz.underlying244
  a77 := Tryz.isAgg244
  z77 := Tryz.sizeOf244
  v77 := Tryz.zeroValue244 }
open Go.RowKit Go.Lib Go.Sort in
theorem Tryz.slices_SortFunc_none {α : Type} [Inhabited α] (p : Option Addr) (cap : Nat) (fv : Value) (w : World) :
    Calls Tryz.prog 44 #[.slice p 0 cap, fv] w fun e w' => e = .returned (.tuple #[]) ∧ w' = w := AnyF.slices_SortFunc_none Tryz.laysSlF06_f44 p cap fv w
end Go.Proofs


namespace Go.Proofs.YtcfopdccdeeleaaGreatDoor.YS
open Go Go.Ev Go.Proofs Y1 Y2 Y3 Y4 P1 YM Y5 Y6 Y7 Y8
theorem flat_rI (xs : List Int) : (xs.map rI).flatten = xs.map aI := by
  induction xs with
  | nil => rfl
  | cons x xs ih => simp [ih]
theorem ofCells {lo b n : Nat} {mu : Mu} {xs : List Int} (hb : lo ≤ b) (hc : mu[b]? = some (.arr (xs.map aI))) (hn : xs.length = n) : OwnF lo mu 1 (.sl b 1 0 n) (xs.map rI) := by
  have hl : b < mu.length := (List.getElem?_eq_some_iff.1 hc).1
  refine ⟨.inr ⟨b, by simp [hn], by rw [hc, flat_rI]⟩, fun b' s o l e => ?_, by omega⟩
  injection e; omega
theorem gPow : Tryz.prog.globalNamed "internal/strconv.uint64pow10" = some 0 := by kernel_rfl
theorem tabIs {G : Gh} {mu : Mu} {w : World} (s : Sim G mu w.heap) : Lib.TabIs Tryz.prog w "internal/strconv.uint64pow10" .u64 Lib.pow10Tab := by
  obtain ⟨_, e, fr, h⟩ := s.tab (0, [.int .u64 1, .int .u64 10, .int .u64 100, .int .u64 1000, .int .u64 10000, .int .u64 100000, .int .u64 1000000, .int .u64 10000000, .int .u64 100000000, .int .u64 1000000000, .int .u64 10000000000, .int .u64 100000000000, .int .u64 1000000000000, .int .u64 10000000000000, .int .u64 100000000000000, .int .u64 1000000000000000, .int .u64 10000000000000000, .int .u64 100000000000000000, .int .u64 1000000000000000000, .int .u64 10000000000000000000]) (by simp [tabs])
  unfold Lib.TabIs World.var?
  rw [gPow]
  simp only [Option.bind_some, h]
  rfl
def itoaB (n : Int) : ByteArray := ⟨(Lib.itoa n).toArray⟩
theorem itoaU (n : Int) (h0 : -9223372036854775808 ≤ n) (h1 : n ≤ 9223372036854775807) : SoundP Tryz.prog 175 [aI n] (aS (itoaB n)) := by
  refine ⟨Tryz.call175, fun imm w vs hi ra => ?_⟩
  obtain ⟨v, rfl, rv⟩ := ra.one_inv
  cases rv
  refine (Tryz.strconv_Itoa n h0 h1 w (tabIs hi)).mono fun e w' ⟨he, k, os, hw⟩ => ?_
  subst hw
  have st1 : Stp ⟨imm, []⟩ [] w ⟨imm, []⟩ [] (w.drewN k) := ⟨.refl _, hi, fun _ _ _ => rfl, Nat.le_refl _, fun _ h => .inl h, fun _ h => .inl h, rfl, rfl, rfl, Nat.le_add_right _ _⟩
  have st := st1.trans hi (Stp.grow st1.sim os)
  exact ⟨imm, _, he, fun _ h => h, fun b hb => ⟨st.sim.imm b hb, .inl hb⟩, ⟨⟨st.os, st.tape, st.output, st.size, fun b hb => st.keep b hb (fun ⟨i, c, t, hc, _⟩ => by simp at hc)⟩, st.drawn⟩, .sc _ rfl⟩
theorem mulB (x y : Nat) (hx : x < 18446744073709551616) (hy : y < 18446744073709551616) :
    SoundP Tryz.prog 176 [.sc (.int .u64 x), .sc (.int .u64 y)] (.tup [.sc (.int .u64 ((x * y / 18446744073709551616 : Nat) : Int)), .sc (.int .u64 ((x * y % 18446744073709551616 : Nat) : Int))]) :=
  SoundP.of_still Tryz.call176 (fun G h us r => argsRel_sc2 r) (fun w => Tryz.bits_Mul x y hx hy w) fun G h => .tup _ _ rfl fun k z hk => by
    match k with
    | 0 => simp at hk; subst hk; exact .sc _ rfl
    | 1 => simp at hk; subst hk; exact .sc _ rfl
    | k + 2 => simp at hk
theorem wrap_u64 {n : Int} (h0 : 0 ≤ n) (h1 : n ≤ 18446744073709551615) : IntKind.u64.wrap n = n := IntWalk.u64_in n ⟨h0, h1⟩
theorem rowsOf_one {mu : Mu} {b off len : Nat} {cells : List AV} (hc : mu[b]? = some (.arr cells)) (hl : off + len ≤ cells.length) : rowsOf mu (.sl b 1 off len) = some (((cells.drop off).take len).map fun c => [c]) := by
  simp only [rowsOf, hc]
  rw [if_pos (by omega)]
  congr 1
  apply List.ext_getElem?
  intro i
  by_cases hi : i < len
  · simp only [List.getElem?_map, List.getElem?_range hi, Option.map_some, Nat.mul_one]
    rw [List.getElem?_take, if_pos hi, List.getElem?_drop, List.getElem?_eq_getElem (show off + i < cells.length by omega)]
    rw [List.drop_eq_getElem_cons (show off + i < cells.length by omega)]; rfl
  · rw [List.getElem?_eq_none (by simp; omega), List.getElem?_eq_none (by simp; omega)]
theorem flat_one (l : List AV) : (l.map fun c => [c]).flatten = l := by
  induction l with
  | nil => rfl
  | cons x l ih => simp only [List.map_cons, List.flatten_cons, ih]; rfl
theorem rows_one {l : List AV} (h : ∀ c, c ∈ l → c.one = true) : rowsWf 1 (l.map fun c => [c]) := fun r hr => by
  obtain ⟨c, hc, rfl⟩ := List.mem_map.1 hr
  exact ⟨rfl, by simp [h c hc]⟩
def rep (s : Int) (k m : Nat) : List AV := List.replicate m (aI s) ++ List.replicate (k - m) (aI 0)
theorem rep_len (s : Int) (k m : Nat) (h : m ≤ k) : (rep s k m).length = k := by simp [rep]; omega
theorem rep_take (s : Int) (k m j : Nat) (h : j ≤ m) : (rep s k m).take j = List.replicate j (aI s) := by
  rw [rep, List.take_append_of_le_length (by simpa using h), List.take_replicate, Nat.min_eq_left h]
theorem rep_put (s : Int) (k m j : Nat) (hm : m ≤ k) (h : m + j ≤ k) : putCells (rep s k m) m (List.replicate j (aI s)) = rep s k (m + j) := by
  rw [putCells_eq _ _ _ (by rw [rep_len _ _ _ hm]; simpa using h)]
  rw [rep_take _ _ _ _ (Nat.le_refl m), List.replicate_append_replicate]
  have : List.drop (m + (List.replicate j (aI s)).length) (rep s k m) = List.replicate (k - (m + j)) (aI 0) := by
    rw [rep, List.length_replicate, List.drop_append, List.drop_of_length_le (by simp), List.nil_append, List.length_replicate, List.drop_replicate]
    congr 1; omega
  rw [this]; rfl
theorem repeatI (s : Int) (k : Nat) (hk : k ≤ 5) : SoundP Tryz.prog 164 [lI [s], aI k] (lI (List.replicate k s)) := by
  refine SoundP.of_sound (Sound.of_awp Tryz.call164 Tryz.func164 rfl (Nat.le_of_ble_eq_true (by kernel_rfl)) (by kernel_rfl) (pl := {}) ?_)
  have w1 : IntKind.u64.wrap (k : Int) = k := wrap_u64 (by omega) (by omega)
  have w2 : IntKind.u64.wrap 1 = 1 := wrap_u64 (by omega) (by omega)
  have w3 : IntKind.i64.wrap (k : Int) = k := wrap_i64 (by omega) (by omega)
  simp [go_sem, show ¬ (k : Int) < 0 by omega, w1, w2]
  refine CallStep.pure (mulB 1 k (by omega) (by omega)) (.cons (.hf (HF.sc _)) (.cons (.hf (HF.sc _)) .nil)) ?_
  rw [show 1 * k / 18446744073709551616 = 0 by omega, show 1 * k % 18446744073709551616 = k by omega]
  simp [go_sem, show ¬ (9223372036854775807 : Int) < k by omega, w3, show (k : Int) ≤ 4294967296 by omega]
  refine ExtGo_copy (ys := [[aI s]]) (by simp [go_sem]) rfl (by simp) rfl (rows_rI [s]) ?_
  have e0 : putCells (List.replicate k (aI 0)) 0 (([[aI s]] : List (List AV)).take k).flatten = rep s k (min 1 k) := by
    have := rep_put s k 0 (min 1 k) (by omega) (by omega)
    rw [Nat.zero_add] at this
    rw [← this]
    cases k with
    | zero => rfl
    | succ k => rw [show min 1 (k + 1) = 1 by omega]; simp [rep]
  simp only [e0]
  simp [go_sem]
  refine LoopGo.keep (fun n st => ∃ m, n = k - m ∧ m ≤ k ∧ (k = m ∨ 1 ≤ m) ∧ st.tm 7 = .sl 0 1 0 k ∧ st.tm 8 = aI m ∧ st.mu = [.arr (rep s k m)]) (k - min 1 k) ?_ ?_
  · exact ⟨min 1 k, rfl, by omega, by omega, by simp [go_sem], by simp [go_sem], by simp [go_sem]⟩
  rintro n st ⟨m, rfl, hm, hm1, e7, e8, em⟩
  by_cases hlt : m < k
  · have hc : rowsOf [.arr (rep s k m)] (.sl 0 1 0 m) = some ((List.replicate m (aI s)).map fun c => [c]) := by
      rw [rowsOf_one (cells := rep s k m) rfl (by rw [rep_len _ _ _ hm]; omega)]
      rw [List.drop_zero, rep_take _ _ _ _ (Nat.le_refl m)]
    simp [go_sem, e7, e8, em, hlt, show m ≤ k by omega]
    refine DrawGo.intro (by kernel_rfl) ?_
    simp [go_sem, e7, e8, em, hlt, show m ≤ k by omega]
    refine ExtGo_copy (cells := rep s k m) (by simp [go_sem]) rfl (by rw [rep_len _ _ _ hm]; omega) hc (rows_one fun c hc => by rw [List.eq_of_mem_replicate hc]; rfl) ?_
    have e1 : putCells (rep s k m) m ((((List.replicate m (aI s)).map fun c => [c]).take (k - m)).flatten) = rep s k (m + min m (k - m)) := by
      rw [← List.map_take, flat_one, List.take_replicate, Nat.min_comm]
      exact rep_put s k m _ hm (by omega)
    simp only [e1]
    simp [go_sem, e7, e8, em]
    refine Keep.loop (k - (m + min m (k - m))) (by omega) ⟨m + min m (k - m), rfl, by omega, by omega, by simp [go_sem, e7], ?_, by simp [go_sem]⟩
    simp [go_sem]
    rw [wrap_i64 (by omega) (by omega)]
  · obtain rfl : m = k := by omega
    simp [go_sem, e7, e8, em]
    have : rep s m m = (List.replicate m s).map aI := by simp [rep]
    rw [this]
    exact (ofCells (lo := 0) (mu := [.arr ((List.replicate m s).map aI)]) (b := 0) (Nat.zero_le _) rfl (by simp)).rdI
end Go.Proofs.YtcfopdccdeeleaaGreatDoor.YS


namespace Go.Proofs.YtcfopdccdeeleaaGreatDoor.YF
open Go Go.Ev Go.Proofs Y1 Y2 Y3 Y4 P1 YM Y5 Y6 Y7 Y8 YS
abbrev cPm (p : ByteArray × Int) : List AV := [aS p.1, aI p.2]
abbrev lPm (l : List (ByteArray × Int)) : AV := .lst false (l.map cPm)
abbrev cPd (p : Pd) : List AV := aS p.name :: lPm p.params :: cNd p.body
abbrev lPd (l : List Pd) : AV := .lst false (l.map cPd)
abbrev cFa (f : ByteArray × Nd) : List AV := aS f.1 :: cNd f.2
abbrev lSo (l : List (ByteArray × Bool)) : AV := .lst false (l.map cSort)
abbrev lFl (l : List Fld) : AV := .lst false (l.map cField)
abbrev lFa (l : List (ByteArray × Nd)) : AV := .lst false (l.map cFa)
abbrev cTS (s : TS) : List AV := [lSo s.sorts, lFl s.fields, lPd s.preds, lFa s.facts]
abbrev eTS (s : TS) : AV := .agg (cTS s)
theorem hf_cPm (p : ByteArray × Int) : ∀ c, c ∈ cPm p → HF c := by
  intro c hc; simp at hc; rcases hc with rfl | rfl <;> exact HF.sc _
theorem hf_lPm (l : List (ByteArray × Int)) : HF (lPm l) := HF.lst fun r hr c hc => by
  obtain ⟨p, _, rfl⟩ := List.mem_map.1 hr; exact hf_cPm p c hc
theorem hf_cPd (p : Pd) : ∀ c, c ∈ cPd p → HF c := by
  intro c hc
  simp only [cPd, List.mem_cons] at hc
  rcases hc with rfl | rfl | hc
  · exact HF.sc _
  · exact hf_lPm _
  · exact hf_cNd p.body c hc
theorem hf_lPd (l : List Pd) : HF (lPd l) := HF.lst fun r hr c hc => by
  obtain ⟨p, _, rfl⟩ := List.mem_map.1 hr; exact hf_cPd p c hc
theorem hf_cFa (p : ByteArray × Nd) : ∀ c, c ∈ cFa p → HF c := by
  intro c hc
  simp only [cFa, List.mem_cons] at hc
  rcases hc with rfl | hc
  · exact HF.sc _
  · exact hf_cNd p.2 c hc
theorem hf_lFa (l : List (ByteArray × Nd)) : HF (lFa l) := HF.lst fun r hr c hc => by
  obtain ⟨p, _, rfl⟩ := List.mem_map.1 hr; exact hf_cFa p c hc
theorem hf_cSo (p : ByteArray × Bool) : ∀ c, c ∈ cSort p → HF c := by
  intro c hc; simp at hc; rcases hc with rfl | rfl <;> exact HF.sc _
theorem hf_lSo (l : List (ByteArray × Bool)) : HF (lSo l) := HF.lst fun r hr c hc => by
  obtain ⟨p, _, rfl⟩ := List.mem_map.1 hr; exact hf_cSo p c hc
theorem hf_lFl (l : List Fld) : HF (lFl l) := HF.lst fun r hr c hc => by
  obtain ⟨p, _, rfl⟩ := List.mem_map.1 hr; exact hf_cField p c hc
theorem hf_cTS (s : TS) : ∀ c, c ∈ cTS s → HF c := by
  intro c hc
  simp only [cTS, List.mem_cons, List.not_mem_nil, or_false] at hc
  rcases hc with rfl | rfl | rfl | rfl
  · exact hf_lSo _
  · exact hf_lFl _
  · exact hf_lPd _
  · exact hf_lFa _
theorem hf_eTS (s : TS) : HF (eTS s) := HF.agg (hf_cTS s)
theorem cNd_row (n : Nd) : (cNd n).length = 5 ∧ (cNd n).all AV.one = true := ⟨cNd_len n, cNd_one n⟩
theorem cPd_row (p : Pd) : (cPd p).length = 7 ∧ (cPd p).all AV.one = true := ⟨by simp [cPd, cNd_len], by simp only [cPd, List.all_cons, cNd_one]; rfl⟩
theorem cFa_row (p : ByteArray × Nd) : (cFa p).length = 6 ∧ (cFa p).all AV.one = true := ⟨by simp [cFa, cNd_len], by simp only [cFa, List.all_cons, cNd_one]; rfl⟩
theorem cSort_row (p : ByteArray × Bool) : (cSort p).length = 2 ∧ (cSort p).all AV.one = true := ⟨rfl, rfl⟩
theorem cField_row (p : Fld) : (cField p).length = 3 ∧ (cField p).all AV.one = true := ⟨rfl, rfl⟩
theorem cPm_row (p : ByteArray × Int) : (cPm p).length = 2 ∧ (cPm p).all AV.one = true := ⟨rfl, rfl⟩
def FnOkP (P : Program) (fv : AV) {α : Type} (xs : List α) (enc : α → AV) (g : α → Bool) : Prop :=
  ∃ f first caps, fv = .fn (.func f) first caps ∧ ∀ x, x ∈ xs → ∃ args', SoundP P f args' (aB (g x)) ∧ WKs (first ++ [enc x] ++ caps) args'
def idxI {α : Type} (xs : List α) (g : α → Bool) : Int := match xs.findIdx? g with | some i => i | none => -1
theorem idxI_at {α : Type} {xs : List α} {g : α → Bool} {k : Nat} (hk : k < xs.length) (hg : g xs[k] = true) (hb : ∀ (j : Nat) (h : j < xs.length), j < k → g xs[j] = false) : idxI xs g = k := by
  unfold idxI
  have : xs.findIdx? g = some k := by
    rw [List.findIdx?_eq_some_iff_getElem]
    exact ⟨hk, hg, fun j hj => by rw [hb j (by omega) hj]; simp⟩
  rw [this]
theorem idxI_none {α : Type} {xs : List α} {g : α → Bool} (hb : ∀ (j : Nat) (h : j < xs.length), g xs[j] = false) : idxI xs g = -1 := by
  unfold idxI
  have : xs.findIdx? g = none := by
    rw [List.findIdx?_eq_none_iff]
    intro x hx
    obtain ⟨j, hj, rfl⟩ := List.mem_iff_getElem.1 hx
    exact hb j hj
  rw [this]
theorem idxI_any {α : Type} (xs : List α) (g : α → Bool) : decide (0 ≤ idxI xs g) = xs.any g := by
  unfold idxI
  cases h : xs.findIdx? g with
  | none =>
    rw [List.findIdx?_eq_none_iff] at h
    have : xs.any g = false := by
      rw [← Bool.not_eq_true, List.any_eq_true]
      rintro ⟨x, hx, hg⟩
      rw [h x hx] at hg; exact absurd hg (by simp)
    rw [this]; rfl
  | some i =>
    rw [List.findIdx?_eq_some_iff_getElem] at h
    obtain ⟨hi, hg, _⟩ := h
    have : xs.any g = true := List.any_eq_true.2 ⟨_, List.getElem_mem hi, hg⟩
    rw [this]; simp
theorem idxNd (full : Bool) (xs : List (Nd)) (fv : AV) (g : Nd → Bool) (hf : FnOkP Tryz.prog fv xs (fun x => .agg (cNd x)) g) (hl : xs.length ≤ 1000000000000) : SoundP Tryz.prog 161 [.lst full (xs.map cNd), fv] (aI (idxI xs g)) := by
  refine SoundP.of_sound (Sound.of_awp Tryz.call161 Tryz.func161 rfl (Nat.le_of_ble_eq_true (by kernel_rfl)) (by kernel_rfl) (pl := {}) ?_)
  obtain ⟨f, first, caps, rfl, hf⟩ := hf
  simp [go_sem]
  refine LoopGo.up xs.length (fun k st => st.tm 0 = .lst full (xs.map cNd) ∧ st.tm 1 = .fn (.func f) first caps ∧ st.tm 6 = .lst full (xs.map cNd) ∧ st.tm 7 = aI xs.length ∧ st.tm 8 = aI k ∧ st.mu = [] ∧ ∀ (j : Nat) (h : j < xs.length), j < k → g xs[j] = false) ?_ ?_
  · simp [go_sem]
  · rintro k st hk ⟨e0, e1, e6, e7, e8, hm, hb⟩
    by_cases he : k = xs.length
    · subst he
      simp [go_sem, e0, e1, e6, e7, e8, hm]
      rw [idxI_none (fun j h => hb j h h)]
      exact .hf _ (HF.sc _)
    · have hlt : k < xs.length := by omega
      obtain ⟨args', hs, hw⟩ := hf xs[k] (List.getElem_mem hlt)
      have hw' := wrap_i64 (n := ((k + 1 : Nat) : Int)) (by omega) (by omega)
      simp [go_sem, e0, e1, e6, e7, e8, hm, hlt, cNd_row xs[k], cNd_ones]
      refine .inl ⟨_, .inl ⟨f, first, caps, args', rfl, hs, .inl hw⟩, ?_⟩
      cases hg : g xs[k] with
      | true =>
        simp [go_sem, e0, e1, e6, e7, e8, hm]
        rw [idxI_at hlt hg (fun j h hj => hb j h hj)]
        exact .hf _ (HF.sc _)
      | false =>
        simp [go_sem, e0, e1, e6, e7, e8, hm, hlt]
        simp at hw'
        refine ⟨hw', fun j h hj => ?_⟩
        by_cases hjk : j = k
        · subst hjk; exact hg
        · exact hb j h (by omega)
theorem hasNd (full : Bool) (xs : List (Nd)) (fv : AV) (g : Nd → Bool) (hf : FnOkP Tryz.prog fv xs (fun x => .agg (cNd x)) g) (hh : HF fv) (hh2 : HF (.lst full (xs.map cNd))) (hl : xs.length ≤ 1000000000000) : SoundP Tryz.prog 125 [.lst full (xs.map cNd), fv] (aB (xs.any g)) := by
  refine SoundP.of_sound (Sound.of_awp Tryz.call125 Tryz.func125 rfl (Nat.le_of_ble_eq_true (by kernel_rfl)) (by kernel_rfl) (pl := {}) ?_)
  simp [go_sem]
  refine CallStep.pure (idxNd full xs fv g hf hl) (.cons (.hf hh2) (.cons (.hf hh) .nil)) ?_
  simp [go_sem]
  rw [idxI_any]
  exact .hf _ (HF.sc _)
theorem idxPd (full : Bool) (xs : List (Pd)) (fv : AV) (g : Pd → Bool) (hf : FnOkP Tryz.prog fv xs (fun x => .agg (cPd x)) g) (hl : xs.length ≤ 1000000000000) : SoundP Tryz.prog 114 [.lst full (xs.map cPd), fv] (aI (idxI xs g)) := by
  refine SoundP.of_sound (Sound.of_awp Tryz.call114 Tryz.func114 rfl (Nat.le_of_ble_eq_true (by kernel_rfl)) (by kernel_rfl) (pl := {}) ?_)
  obtain ⟨f, first, caps, rfl, hf⟩ := hf
  simp [go_sem]
  refine LoopGo.up xs.length (fun k st => st.tm 0 = .lst full (xs.map cPd) ∧ st.tm 1 = .fn (.func f) first caps ∧ st.tm 6 = .lst full (xs.map cPd) ∧ st.tm 7 = aI xs.length ∧ st.tm 8 = aI k ∧ st.mu = [] ∧ ∀ (j : Nat) (h : j < xs.length), j < k → g xs[j] = false) ?_ ?_
  · simp [go_sem]
  · rintro k st hk ⟨e0, e1, e6, e7, e8, hm, hb⟩
    by_cases he : k = xs.length
    · subst he
      simp [go_sem, e0, e1, e6, e7, e8, hm]
      rw [idxI_none (fun j h => hb j h h)]
      exact .hf _ (HF.sc _)
    · have hlt : k < xs.length := by omega
      obtain ⟨args', hs, hw⟩ := hf xs[k] (List.getElem_mem hlt)
      have hw' := wrap_i64 (n := ((k + 1 : Nat) : Int)) (by omega) (by omega)
      simp [go_sem, e0, e1, e6, e7, e8, hm, hlt, cPd_row xs[k], cNd_ones]
      refine .inl ⟨_, .inl ⟨f, first, caps, args', rfl, hs, .inl hw⟩, ?_⟩
      cases hg : g xs[k] with
      | true =>
        simp [go_sem, e0, e1, e6, e7, e8, hm]
        rw [idxI_at hlt hg (fun j h hj => hb j h hj)]
        exact .hf _ (HF.sc _)
      | false =>
        simp [go_sem, e0, e1, e6, e7, e8, hm, hlt]
        simp at hw'
        refine ⟨hw', fun j h hj => ?_⟩
        by_cases hjk : j = k
        · subst hjk; exact hg
        · exact hb j h (by omega)
theorem hasPd (full : Bool) (xs : List (Pd)) (fv : AV) (g : Pd → Bool) (hf : FnOkP Tryz.prog fv xs (fun x => .agg (cPd x)) g) (hh : HF fv) (hh2 : HF (.lst full (xs.map cPd))) (hl : xs.length ≤ 1000000000000) : SoundP Tryz.prog 104 [.lst full (xs.map cPd), fv] (aB (xs.any g)) := by
  refine SoundP.of_sound (Sound.of_awp Tryz.call104 Tryz.func104 rfl (Nat.le_of_ble_eq_true (by kernel_rfl)) (by kernel_rfl) (pl := {}) ?_)
  simp [go_sem]
  refine CallStep.pure (idxPd full xs fv g hf hl) (.cons (.hf hh2) (.cons (.hf hh) .nil)) ?_
  simp [go_sem]
  rw [idxI_any]
  exact .hf _ (HF.sc _)
theorem idxSo (full : Bool) (xs : List (ByteArray × Bool)) (fv : AV) (g : ByteArray × Bool → Bool) (hf : FnOkP Tryz.prog fv xs (fun x => .agg (cSort x)) g) (hl : xs.length ≤ 1000000000000) : SoundP Tryz.prog 154 [.lst full (xs.map cSort), fv] (aI (idxI xs g)) := by
  refine SoundP.of_sound (Sound.of_awp Tryz.call154 Tryz.func154 rfl (Nat.le_of_ble_eq_true (by kernel_rfl)) (by kernel_rfl) (pl := {}) ?_)
  obtain ⟨f, first, caps, rfl, hf⟩ := hf
  simp [go_sem]
  refine LoopGo.up xs.length (fun k st => st.tm 0 = .lst full (xs.map cSort) ∧ st.tm 1 = .fn (.func f) first caps ∧ st.tm 6 = .lst full (xs.map cSort) ∧ st.tm 7 = aI xs.length ∧ st.tm 8 = aI k ∧ st.mu = [] ∧ ∀ (j : Nat) (h : j < xs.length), j < k → g xs[j] = false) ?_ ?_
  · simp [go_sem]
  · rintro k st hk ⟨e0, e1, e6, e7, e8, hm, hb⟩
    by_cases he : k = xs.length
    · subst he
      simp [go_sem, e0, e1, e6, e7, e8, hm]
      rw [idxI_none (fun j h => hb j h h)]
      exact .hf _ (HF.sc _)
    · have hlt : k < xs.length := by omega
      obtain ⟨args', hs, hw⟩ := hf xs[k] (List.getElem_mem hlt)
      have hw' := wrap_i64 (n := ((k + 1 : Nat) : Int)) (by omega) (by omega)
      simp [go_sem, e0, e1, e6, e7, e8, hm, hlt, cSort_row xs[k], cNd_ones]
      refine .inl ⟨_, .inl ⟨f, first, caps, args', rfl, hs, .inl hw⟩, ?_⟩
      cases hg : g xs[k] with
      | true =>
        simp [go_sem, e0, e1, e6, e7, e8, hm]
        rw [idxI_at hlt hg (fun j h hj => hb j h hj)]
        exact .hf _ (HF.sc _)
      | false =>
        simp [go_sem, e0, e1, e6, e7, e8, hm, hlt]
        simp at hw'
        refine ⟨hw', fun j h hj => ?_⟩
        by_cases hjk : j = k
        · subst hjk; exact hg
        · exact hb j h (by omega)
theorem hasSo (full : Bool) (xs : List (ByteArray × Bool)) (fv : AV) (g : ByteArray × Bool → Bool) (hf : FnOkP Tryz.prog fv xs (fun x => .agg (cSort x)) g) (hh : HF fv) (hh2 : HF (.lst full (xs.map cSort))) (hl : xs.length ≤ 1000000000000) : SoundP Tryz.prog 100 [.lst full (xs.map cSort), fv] (aB (xs.any g)) := by
  refine SoundP.of_sound (Sound.of_awp Tryz.call100 Tryz.func100 rfl (Nat.le_of_ble_eq_true (by kernel_rfl)) (by kernel_rfl) (pl := {}) ?_)
  simp [go_sem]
  refine CallStep.pure (idxSo full xs fv g hf hl) (.cons (.hf hh2) (.cons (.hf hh) .nil)) ?_
  simp [go_sem]
  rw [idxI_any]
  exact .hf _ (HF.sc _)
theorem idxFl (full : Bool) (xs : List (Fld)) (fv : AV) (g : Fld → Bool) (hf : FnOkP Tryz.prog fv xs (fun x => .agg (cField x)) g) (hl : xs.length ≤ 1000000000000) : SoundP Tryz.prog 155 [.lst full (xs.map cField), fv] (aI (idxI xs g)) := by
  refine SoundP.of_sound (Sound.of_awp Tryz.call155 Tryz.func155 rfl (Nat.le_of_ble_eq_true (by kernel_rfl)) (by kernel_rfl) (pl := {}) ?_)
  obtain ⟨f, first, caps, rfl, hf⟩ := hf
  simp [go_sem]
  refine LoopGo.up xs.length (fun k st => st.tm 0 = .lst full (xs.map cField) ∧ st.tm 1 = .fn (.func f) first caps ∧ st.tm 6 = .lst full (xs.map cField) ∧ st.tm 7 = aI xs.length ∧ st.tm 8 = aI k ∧ st.mu = [] ∧ ∀ (j : Nat) (h : j < xs.length), j < k → g xs[j] = false) ?_ ?_
  · simp [go_sem]
  · rintro k st hk ⟨e0, e1, e6, e7, e8, hm, hb⟩
    by_cases he : k = xs.length
    · subst he
      simp [go_sem, e0, e1, e6, e7, e8, hm]
      rw [idxI_none (fun j h => hb j h h)]
      exact .hf _ (HF.sc _)
    · have hlt : k < xs.length := by omega
      obtain ⟨args', hs, hw⟩ := hf xs[k] (List.getElem_mem hlt)
      have hw' := wrap_i64 (n := ((k + 1 : Nat) : Int)) (by omega) (by omega)
      simp [go_sem, e0, e1, e6, e7, e8, hm, hlt, cField_row xs[k], cNd_ones]
      refine .inl ⟨_, .inl ⟨f, first, caps, args', rfl, hs, .inl hw⟩, ?_⟩
      cases hg : g xs[k] with
      | true =>
        simp [go_sem, e0, e1, e6, e7, e8, hm]
        rw [idxI_at hlt hg (fun j h hj => hb j h hj)]
        exact .hf _ (HF.sc _)
      | false =>
        simp [go_sem, e0, e1, e6, e7, e8, hm, hlt]
        simp at hw'
        refine ⟨hw', fun j h hj => ?_⟩
        by_cases hjk : j = k
        · subst hjk; exact hg
        · exact hb j h (by omega)
theorem hasFl (full : Bool) (xs : List (Fld)) (fv : AV) (g : Fld → Bool) (hf : FnOkP Tryz.prog fv xs (fun x => .agg (cField x)) g) (hh : HF fv) (hh2 : HF (.lst full (xs.map cField))) (hl : xs.length ≤ 1000000000000) : SoundP Tryz.prog 102 [.lst full (xs.map cField), fv] (aB (xs.any g)) := by
  refine SoundP.of_sound (Sound.of_awp Tryz.call102 Tryz.func102 rfl (Nat.le_of_ble_eq_true (by kernel_rfl)) (by kernel_rfl) (pl := {}) ?_)
  simp [go_sem]
  refine CallStep.pure (idxFl full xs fv g hf hl) (.cons (.hf hh2) (.cons (.hf hh) .nil)) ?_
  simp [go_sem]
  rw [idxI_any]
  exact .hf _ (HF.sc _)
theorem idxPm (full : Bool) (xs : List (ByteArray × Int)) (fv : AV) (g : ByteArray × Int → Bool) (hf : FnOkP Tryz.prog fv xs (fun x => .agg (cPm x)) g) (hl : xs.length ≤ 1000000000000) : SoundP Tryz.prog 156 [.lst full (xs.map cPm), fv] (aI (idxI xs g)) := by
  refine SoundP.of_sound (Sound.of_awp Tryz.call156 Tryz.func156 rfl (Nat.le_of_ble_eq_true (by kernel_rfl)) (by kernel_rfl) (pl := {}) ?_)
  obtain ⟨f, first, caps, rfl, hf⟩ := hf
  simp [go_sem]
  refine LoopGo.up xs.length (fun k st => st.tm 0 = .lst full (xs.map cPm) ∧ st.tm 1 = .fn (.func f) first caps ∧ st.tm 6 = .lst full (xs.map cPm) ∧ st.tm 7 = aI xs.length ∧ st.tm 8 = aI k ∧ st.mu = [] ∧ ∀ (j : Nat) (h : j < xs.length), j < k → g xs[j] = false) ?_ ?_
  · simp [go_sem]
  · rintro k st hk ⟨e0, e1, e6, e7, e8, hm, hb⟩
    by_cases he : k = xs.length
    · subst he
      simp [go_sem, e0, e1, e6, e7, e8, hm]
      rw [idxI_none (fun j h => hb j h h)]
      exact .hf _ (HF.sc _)
    · have hlt : k < xs.length := by omega
      obtain ⟨args', hs, hw⟩ := hf xs[k] (List.getElem_mem hlt)
      have hw' := wrap_i64 (n := ((k + 1 : Nat) : Int)) (by omega) (by omega)
      simp [go_sem, e0, e1, e6, e7, e8, hm, hlt, cPm_row xs[k], cNd_ones]
      refine .inl ⟨_, .inl ⟨f, first, caps, args', rfl, hs, .inl hw⟩, ?_⟩
      cases hg : g xs[k] with
      | true =>
        simp [go_sem, e0, e1, e6, e7, e8, hm]
        rw [idxI_at hlt hg (fun j h hj => hb j h hj)]
        exact .hf _ (HF.sc _)
      | false =>
        simp [go_sem, e0, e1, e6, e7, e8, hm, hlt]
        simp at hw'
        refine ⟨hw', fun j h hj => ?_⟩
        by_cases hjk : j = k
        · subst hjk; exact hg
        · exact hb j h (by omega)
theorem hasPm (full : Bool) (xs : List (ByteArray × Int)) (fv : AV) (g : ByteArray × Int → Bool) (hf : FnOkP Tryz.prog fv xs (fun x => .agg (cPm x)) g) (hh : HF fv) (hh2 : HF (.lst full (xs.map cPm))) (hl : xs.length ≤ 1000000000000) : SoundP Tryz.prog 106 [.lst full (xs.map cPm), fv] (aB (xs.any g)) := by
  refine SoundP.of_sound (Sound.of_awp Tryz.call106 Tryz.func106 rfl (Nat.le_of_ble_eq_true (by kernel_rfl)) (by kernel_rfl) (pl := {}) ?_)
  simp [go_sem]
  refine CallStep.pure (idxPm full xs fv g hf hl) (.cons (.hf hh2) (.cons (.hf hh) .nil)) ?_
  simp [go_sem]
  rw [idxI_any]
  exact .hf _ (HF.sc _)
theorem idxFa (full : Bool) (xs : List (ByteArray × Nd)) (fv : AV) (g : ByteArray × Nd → Bool) (hf : FnOkP Tryz.prog fv xs (fun x => .agg (cFa x)) g) (hl : xs.length ≤ 1000000000000) : SoundP Tryz.prog 157 [.lst full (xs.map cFa), fv] (aI (idxI xs g)) := by
  refine SoundP.of_sound (Sound.of_awp Tryz.call157 Tryz.func157 rfl (Nat.le_of_ble_eq_true (by kernel_rfl)) (by kernel_rfl) (pl := {}) ?_)
  obtain ⟨f, first, caps, rfl, hf⟩ := hf
  simp [go_sem]
  refine LoopGo.up xs.length (fun k st => st.tm 0 = .lst full (xs.map cFa) ∧ st.tm 1 = .fn (.func f) first caps ∧ st.tm 6 = .lst full (xs.map cFa) ∧ st.tm 7 = aI xs.length ∧ st.tm 8 = aI k ∧ st.mu = [] ∧ ∀ (j : Nat) (h : j < xs.length), j < k → g xs[j] = false) ?_ ?_
  · simp [go_sem]
  · rintro k st hk ⟨e0, e1, e6, e7, e8, hm, hb⟩
    by_cases he : k = xs.length
    · subst he
      simp [go_sem, e0, e1, e6, e7, e8, hm]
      rw [idxI_none (fun j h => hb j h h)]
      exact .hf _ (HF.sc _)
    · have hlt : k < xs.length := by omega
      obtain ⟨args', hs, hw⟩ := hf xs[k] (List.getElem_mem hlt)
      have hw' := wrap_i64 (n := ((k + 1 : Nat) : Int)) (by omega) (by omega)
      simp [go_sem, e0, e1, e6, e7, e8, hm, hlt, cFa_row xs[k], cNd_ones]
      refine .inl ⟨_, .inl ⟨f, first, caps, args', rfl, hs, .inl hw⟩, ?_⟩
      cases hg : g xs[k] with
      | true =>
        simp [go_sem, e0, e1, e6, e7, e8, hm]
        rw [idxI_at hlt hg (fun j h hj => hb j h hj)]
        exact .hf _ (HF.sc _)
      | false =>
        simp [go_sem, e0, e1, e6, e7, e8, hm, hlt]
        simp at hw'
        refine ⟨hw', fun j h hj => ?_⟩
        by_cases hjk : j = k
        · subst hjk; exact hg
        · exact hb j h (by omega)
theorem hasFa (full : Bool) (xs : List (ByteArray × Nd)) (fv : AV) (g : ByteArray × Nd → Bool) (hf : FnOkP Tryz.prog fv xs (fun x => .agg (cFa x)) g) (hh : HF fv) (hh2 : HF (.lst full (xs.map cFa))) (hl : xs.length ≤ 1000000000000) : SoundP Tryz.prog 109 [.lst full (xs.map cFa), fv] (aB (xs.any g)) := by
  refine SoundP.of_sound (Sound.of_awp Tryz.call109 Tryz.func109 rfl (Nat.le_of_ble_eq_true (by kernel_rfl)) (by kernel_rfl) (pl := {}) ?_)
  simp [go_sem]
  refine CallStep.pure (idxFa full xs fv g hf hl) (.cons (.hf hh2) (.cons (.hf hh) .nil)) ?_
  simp [go_sem]
  rw [idxI_any]
  exact .hf _ (HF.sc _)
end Go.Proofs.YtcfopdccdeeleaaGreatDoor.YF


namespace Go.Proofs.YtcfopdccdeeleaaGreatDoor.Y9
open Go Go.Ev Go.Proofs Y1 Y2 Y3 Y4 P1 YM Y5 Y6 Y7 Y8 YS YF
abbrev cCk (c : Ck) : List AV := [lSo c.ts.sorts, lFl c.ts.fields, lPd c.ts.preds, lFa c.ts.facts, aI c.calls, .lst false (c.timed.map fun b => [aB b])]
abbrev eCk (c : Ck) : AV := .ip (cCk c)
theorem hf_eCk (c : Ck) : HF (eCk c) := HF.ip fun x hx => by
  simp only [cCk, List.mem_cons, List.not_mem_nil, or_false] at hx
  rcases hx with rfl | rfl | rfl | rfl | rfl | rfl
  · exact hf_lSo _
  · exact hf_lFl _
  · exact hf_lPd _
  · exact hf_lFa _
  · exact HF.sc _
  · exact HF.lst fun r hr c hc => by
      obtain ⟨b, _, rfl⟩ := List.mem_map.1 hr
      simp at hc; subst hc; exact HF.sc _
structure okTS (s : TS) : Prop where
  ns : s.sorts.length ≤ 4
  nf : s.fields.length ≤ 6
  np : s.preds.length ≤ 8
  nfa : s.facts.length ≤ 16
  sl : ∀ x, x ∈ s.sorts → x.1.size ≤ 4611686018427387904
  fl : ∀ f, f ∈ s.fields → 1 ≤ f.sorts.length ∧ f.sorts.length ≤ 3 ∧ ∀ x, x ∈ f.sorts → 0 ≤ x ∧ x < s.sorts.length
  pl : ∀ p, p ∈ s.preds → p.params.length ≤ 8 ∧ ∀ x, x ∈ p.params → 0 ≤ x.2 ∧ x.2 < s.sorts.length
structure okCk (c : Ck) : Prop where
  ts : okTS c.ts
  calls : c.calls ≤ c.ts.preds.length
  timed : c.timed.length = c.calls
theorem callee1U (p : Pd) (nm : ByteArray) : SoundP Tryz.prog 162 [.agg (cPd p), .ip [aS nm]] (aB (decide (p.name = nm))) := by
  refine SoundP.of_sound (Sound.of_awp Tryz.call162 Tryz.func162 rfl (Nat.le_of_ble_eq_true (by kernel_rfl)) (by kernel_rfl) (pl := {}) ?_)
  by_cases h : p.name = nm
  · simp [go_sem, h]
    exact .hf _ (HF.sc _)
  · simp [go_sem, h, str_ne h]
    exact .hf _ (HF.sc _)
theorem calleeU (c : Ck) (hc : okCk c) (nm : ByteArray) : SoundP Tryz.prog 126 [eCk c, aS nm] (aI (match calleeL c nm with | some i => i | none => -1)) := by
  refine SoundP.of_sound (Sound.of_awp Tryz.call126 Tryz.func126 rfl (Nat.le_of_ble_eq_true (by kernel_rfl)) (by kernel_rfl) (pl := {}) ?_)
  simp [go_sem]
  refine DrawGo.intro (by kernel_rfl) ?_
  have hcl := hc.calls
  have hnp := hc.ts.np
  have htk : List.take c.calls (c.ts.preds.map cPd) = (c.ts.preds.take c.calls).map cPd := by rw [List.map_take]
  simp [go_sem, show (c.calls : Int) ≤ c.ts.preds.length by omega]
  refine ⟨⟨_, _, ⟨rfl, rfl⟩, fun r hr => by obtain ⟨p, _, rfl⟩ := List.mem_map.1 hr; exact (cPd_row p).1⟩, ?_⟩
  rw [htk]
  have hfn : HF (.fn (.func 162) [] [.ip [aS nm]]) := HF.fn (by simp) (fun x hx => by simp at hx; subst hx; exact HF.ip fun y hy => by simp at hy; subst hy; exact HF.sc _)
  refine CallStep.pure (idxPd false (c.ts.preds.take c.calls) _ (fun p => decide (p.name = nm)) ⟨_, _, _, rfl, fun p hp => ⟨_, callee1U p nm, .cons (.hf (HF.agg (hf_cPd p))) (.cons (.hf (HF.ip fun y hy => by simp at hy; subst hy; exact HF.sc _)) .nil)⟩⟩ (by simp; omega)) (.cons (.hf (hf_lPd _)) (.cons (.hf hfn) .nil)) ?_
  simp [go_sem]
  exact .hf _ (HF.sc _)
theorem calleeL_lt {c : Ck} (hc : okCk c) {nm : ByteArray} {p : Nat} (h : calleeL c nm = some p) : p < c.calls ∧ p < c.ts.preds.length := by
  unfold calleeL at h
  rw [List.findIdx?_eq_some_iff_getElem] at h
  obtain ⟨hp, _⟩ := h
  simp at hp
  omega
theorem timeOfU (c : Ck) (hc : okCk c) (n : Nd) : SoundP Tryz.prog 84 [eCk c, eNd n] (aB (timeOfL c n.op n.name)) := by
  refine SoundP.of_sound (Sound.of_awp Tryz.call84 Tryz.func84 rfl (Nat.le_of_ble_eq_true (by kernel_rfl)) (by kernel_rfl) (pl := {}) ?_)
  unfold timeOfL timeOp
  by_cases h5 : n.op = 5
  · simp [go_sem, h5]; exact .hf _ (HF.sc _)
  by_cases h48 : n.op = 48
  · simp [go_sem, h48]; exact .hf _ (HF.sc _)
  by_cases h49 : n.op = 49
  · simp [go_sem, h49]; exact .hf _ (HF.sc _)
  by_cases h50 : n.op = 50
  · simp [go_sem, h50]; exact .hf _ (HF.sc _)
  by_cases h51 : n.op = 51
  · simp [go_sem, h51]; exact .hf _ (HF.sc _)
  by_cases h47 : n.op = 47
  · simp [go_sem, h47]
    refine CallStep.pure (calleeU c hc n.name) (.cons (.hf (hf_eCk c)) (.cons (.hf (HF.sc _)) .nil)) ?_
    cases hq : calleeL c n.name with
    | none =>
      simp [go_sem]; exact .hf _ (HF.sc _)
    | some p =>
      obtain ⟨h1, h2⟩ := calleeL_lt hc hq
      have h3 : p < c.timed.length := by rw [hc.timed]; exact h1
      simp [go_sem, h3]
      exact .hf _ (HF.sc _)
  · simp [go_sem, h5, h48, h49, h50, h51, h47]
    exact .hf _ (HF.sc _)
theorem tempLs_any (c : Ck) : ∀ ks : List Nd, tempLs c ks = ks.any (tempL c)
  | [] => rfl
  | k :: ks => by simp [tempLs, tempLs_any c ks]
noncomputable abbrev szN (n : Nd) : Nat := SizeOf.sizeOf n
theorem kid_lt {n k : Nd} (h : k ∈ n.kids) : szN k < szN n := by
  obtain ⟨op, nm, i, ks, p⟩ := n
  have : SizeOf.sizeOf k < SizeOf.sizeOf ks := List.sizeOf_lt_of_mem h
  simp only [szN, Nd.mk.sizeOf_spec]
  omega
inductive Small : Nd → Prop where
  | mk (n : Nd) (h : n.kids.length ≤ 1000) (hk : ∀ k, k ∈ n.kids → Small k) : Small n
theorem Small.len {n : Nd} (h : Small n) : n.kids.length ≤ 1000 := by cases h; assumption
theorem Small.kid {n k : Nd} (h : Small n) (hk : k ∈ n.kids) : Small k := by
  cases h with
  | mk _ _ h => exact h k hk
theorem tempL_eq (c : Ck) (n : Nd) : tempL c n = (timeOfL c n.op n.name || n.kids.any (tempL c)) := by
  obtain ⟨op, nm, i, ks, p⟩ := n
  simp [tempL, tempLs_any, Nd.op, Nd.name, Nd.kids]
theorem temporalU (c : Ck) (hc : okCk c) : ∀ (m : Nat) (n : Nd), szN n ≤ m → Small n → SoundP Tryz.prog 83 [eCk c, eNd n] (aB (tempL c n))
  | 0, n, hm, _ => by obtain ⟨op, nm, i, ks, p⟩ := n; simp [szN] at hm
  | m + 1, n, hm, hs => by
    refine SoundP.of_sound (Sound.of_awp Tryz.call83 Tryz.func83 rfl (Nat.le_of_ble_eq_true (by kernel_rfl)) (by kernel_rfl) (pl := {}) ?_)
    rw [tempL_eq]
    simp [go_sem]
    refine CallStep.pure (timeOfU c hc n) (.cons (.hf (hf_eCk c)) (.cons (.hf (hf_eNd n)) .nil)) ?_
    cases ht : timeOfL c n.op n.name with
    | true =>
      simp [go_sem]
      exact .hf _ (HF.sc _)
    | false =>
      simp [go_sem]
      have hfn : HF (.fn (.func 83) [eCk c] []) := HF.fn (fun x hx => by simp at hx; subst hx; exact hf_eCk c) (by simp)
      refine CallStep.pure (hasNd false n.kids _ (tempL c) ⟨_, _, _, rfl, fun k hk => ⟨_, temporalU c hc m k (by have := kid_lt hk; omega) (hs.kid hk), .cons (.hf (hf_eCk c)) (.cons (.hf (hf_eNd k)) .nil)⟩⟩ hfn (hf_lNd _) (by have := hs.len; omega)) (.cons (.hf (hf_lNd _)) (.cons (.hf hfn) .nil)) ?_
      simp [go_sem]
      exact .hf _ (HF.sc _)
end Go.Proofs.YtcfopdccdeeleaaGreatDoor.Y9


namespace Go.Proofs.YtcfopdccdeeleaaGreatDoor.Y10
open Go Go.Ev Go.Proofs Y1 Y2 Y3 Y4 P1 YM Y5 Y6 Y7 Y8 YS YF Y9
abbrev rB (b : Bool) : List AV := [aB b]
theorem rows_rB (l : List Bool) : rowsWf 1 (l.map rB) := fun r hr => by
  obtain ⟨n, _, rfl⟩ := List.mem_map.1 hr
  exact ⟨rfl, rfl⟩
theorem OwnF.rdB {lo : Nat} {mu : Mu} {av : AV} {xs : List Bool} (h : OwnF lo mu 1 av (xs.map rB)) : Rd mu av (.lst false (xs.map rB)) :=
  h.1.rd (rows_rB xs).ok fun r hr c hc => by
    obtain ⟨n, _, rfl⟩ := List.mem_map.1 hr
    simp at hc; subst hc; exact HF.sc _
theorem ownF_le {lo sz : Nat} {mu mu' : Mu} {av : AV} {xs : List (List AV)} (h : OwnF lo mu sz av xs) (hm : MuLe mu mu') : OwnF lo mu' sz av xs := by
  obtain ⟨ho, hb, hl⟩ := h
  have hlen : mu.length ≤ mu'.length := by
    rcases Nat.eq_zero_or_pos mu.length with h0 | h0
    · omega
    · have := hm (mu.length - 1) mu[mu.length - 1] (List.getElem?_eq_getElem (by omega))
      have := (List.getElem?_eq_some_iff.1 this).1
      omega
  refine ⟨?_, hb, Nat.le_trans hl hlen⟩
  rcases ho with rfl | ⟨b, rfl, hc⟩
  · exact .inl rfl
  · exact .inr ⟨b, rfl, hm _ _ hc⟩
theorem tmsL_len (ts : TS) : ∀ k, k ≤ ts.preds.length → (tmsL ts k).length = k
  | 0, _ => rfl
  | k + 1, h => by
    have hk : k < ts.preds.length := by omega
    simp [tmsL, tmsL_len ts k (by omega), List.getElem?_eq_getElem hk]
theorem okCk_mk {ts : TS} (h : okTS ts) {k : Nat} (hk : k ≤ ts.preds.length) : okCk (mkCk ts k) := ⟨h, hk, tmsL_len ts k hk⟩
theorem newCheckerU (ts : TS) (h : okTS ts) (hs : ∀ p, p ∈ ts.preds → Small p.body) (n : Nat) (hn : n ≤ ts.preds.length) : SoundP Tryz.prog 41 [eTS ts, aI n] (eCk (mkCk ts n)) := by
  refine SoundP.of_sound (Sound.of_awp Tryz.call41 Tryz.func41 rfl (Nat.le_of_ble_eq_true (by kernel_rfl)) (by kernel_rfl) (pl := { mt := [9] }) ?_)
  have hnp := h.np
  simp [go_sem]
  refine LoopGo.upK n (fun k st => ∃ av rest, st.tm 1 = aI n ∧ st.tm 2 = .ip (cTS ts) ∧ st.tm 5 = .ptr 0 0 ∧ st.mu = [.arr [lSo ts.sorts, lFl ts.fields, lPd ts.preds, lFa ts.facts, aI k, av]] ++ rest ∧ OwnF 1 st.mu 1 av ((tmsL ts k).map rB)) ?_ ?_
  · refine ⟨.lst true [], [], by simp [go_sem], by simp [go_sem], by simp [go_sem], by simp [go_sem], ?_⟩
    exact OwnF.nil (by simp [go_sem])
  · rintro k st hk ⟨av, rest, e1, e2, e5, hm, ho⟩
    have hrd : Rd st.mu (.ptr 0 0) (eCk (mkCk ts k)) := by
      rw [hm]
      refine .ptr 0 0 _ _ rfl (by simp) (fun j x y hx hy => ?_)
      rw [← hm]
      match j with
      | 0 => simp at hx hy; subst hx; subst hy; exact .hf _ (hf_lSo _)
      | 1 => simp at hx hy; subst hx; subst hy; exact .hf _ (hf_lFl _)
      | 2 => simp at hx hy; subst hx; subst hy; exact .hf _ (hf_lPd _)
      | 3 => simp at hx hy; subst hx; subst hy; exact .hf _ (hf_lFa _)
      | 4 => simp at hx hy; subst hx; subst hy; exact .hf _ (HF.sc _)
      | 5 => simp at hx hy; subst hx; subst hy; exact OwnF.rdB ho
      | j + 6 => simp at hx
    by_cases hlt : k < n
    · have hkp : k < ts.preds.length := by omega
      simp [go_sem, e1, e2, e5, hm, hlt]
      refine DrawGo.intro (by kernel_rfl) ?_
      have ho' : OwnF 1 (st.mu ++ [.arr (cNd ts.preds[k].body)]) 1 av ((tmsL ts k).map rB) := ownF_le ho (MuLe.push _ _)
      have hrd' := Rd.le (MuLe.push st.mu (.arr (cNd ts.preds[k].body))) hrd
      have htm := temporalU (mkCk ts k) (okCk_mk h (by omega)) _ ts.preds[k].body (Nat.le_refl _) (hs _ (List.getElem_mem hkp))
      have hts : tmsL ts (k + 1) = tmsL ts k ++ [tempL (mkCk ts k) ts.preds[k].body] := by
        simp only [tmsL, List.getElem?_eq_getElem hkp]; rfl
      have hl := tmsL_len ts k (by omega)
      rw [hm] at ho' hrd'
      simp [go_sem, e1, e2, e5, hm, hlt, hkp, cNd_ones]
      refine DrawGo.intro (by kernel_rfl) ?_
      simp [go_sem, e1, e2, e5, hm, hlt, hkp, cNd_take]
      refine CallStep.lend htm ⟨by simpa using hrd', .hf _ (hf_eNd _), trivial⟩ (FL.sc _) ?_
      simp [go_sem, e1, e2, e5, hm, hlt, hkp]
      refine AppendStep.ownF (lo := 1) (e := 4) (sz := 1) (bt := 1) (zv := aB false) (xs := (tmsL ts k).map rB) (ys := [rB (tempL (mkCk ts k) ts.preds[k].body)]) (by simp [go_sem]) (by simp [go_sem]) (by simp [go_sem]) rfl rfl (by omega) (by omega) (by simpa using ho') (by simp [rowsOf]) (rows_rB _) (rows_rB [_]) (by simp; omega) ?_
      intro av' mu' ho2 hk2
      obtain ⟨rest', rfl⟩ := split1 (hk2 0 (by omega))
      have w1 : IntKind.i64.wrap ((k : Int) + 1) = (k : Int) + 1 := wrap_i64 (by omega) (by omega)
      simp [go_sem, e1, e2, e5, hm, hlt, hkp, w1, OwnF.cells ho2, OwnF.one ho2]
      refine Keep.mk' ?_
      refine ⟨av', rest', by simp [go_sem, e1], by simp [go_sem, e2], by simp [go_sem, e5], by simp [go_sem], ?_⟩
      have e3 : (tmsL ts k).map rB ++ [rB (tempL (mkCk ts k) ts.preds[k].body)] = (tmsL ts (k + 1)).map rB := by rw [hts, List.map_append]; rfl
      rw [← e3]
      exact OwnF.low (low := [.arr [lSo ts.sorts, lFl ts.fields, lPd ts.preds, lFa ts.facts, aI k, av]]) (low' := [.arr [lSo ts.sorts, lFl ts.fields, lPd ts.preds, lFa ts.facts, aI (k + 1), av']]) ho2 rfl
    · obtain rfl : k = n := by omega
      simp [go_sem, e1, e2, e5, hm]
      rw [hm] at hrd
      exact hrd
theorem ofU' (full : Bool) (l : List Int) (hl : l.length ≤ 3) (hr : ∀ x, x ∈ l → 0 ≤ x ∧ x < 128) : SoundP Tryz.prog 88 [.lst full (l.map rI)] (eKd (kOf l)) := by
  have := ofU l hl hr
  refine ⟨this.1, fun imm w vs hi ra => this.2 imm w vs hi ?_⟩
  obtain ⟨v, rfl, rv⟩ := ra.one_inv
  exact ⟨rfl, fun k x hk => by
    cases k with
    | zero => simp at hk; subst hk; simpa using rv.ro
    | succ k => simp at hk⟩
theorem bindU (ns : Nat) (hns : ns ≤ 4) (env : List (ByteArray × Int)) (he : env.length ≤ 1000000) (hr : ∀ p, p ∈ env → 0 ≤ p.2 ∧ p.2 < ns) : SoundP Tryz.prog 43 [lPm env] (aSc (bindL env)) := by
  refine SoundP.of_sound (Sound.of_awp Tryz.call43 Tryz.func43 rfl (Nat.le_of_ble_eq_true (by kernel_rfl)) (by kernel_rfl) (pl := {}) ?_)
  simp [go_sem]
  refine LoopGo.up env.length (fun k st => st.tm 3 = aSc (bindL (env.take k)) ∧ st.tm 6 = lPm env ∧ st.tm 7 = aI env.length ∧ st.tm 8 = aI k) ?_ ?_
  · simp [go_sem]
    rfl
  · rintro k st hk ⟨e3, e6, e7, e8⟩
    by_cases he' : k = env.length
    · subst he'
      simp [go_sem, e3, e6, e7, e8]
      exact .hf _ (hf_aSc _)
    · have hlt : k < env.length := by omega
      have hb : bindL (env.take (k + 1)) = (env[k].1, kOf [env[k].2]) :: bindL (env.take k) := by
        unfold bindL
        rw [List.take_add_one, List.getElem?_eq_getElem hlt, List.foldl_append]; rfl
      have hof := ofU' true [env[k].2] (by simp) (fun x hx => by simp at hx; subst hx; have := hr _ (List.getElem_mem hlt); omega)
      have w1 : IntKind.i64.wrap ((k : Int) + 1) = (k : Int) + 1 := wrap_i64 (by omega) (by omega)
      simp [go_sem, e3, e6, e7, e8, hlt]
      refine DrawGo.intro (by kernel_rfl) ?_
      simp [go_sem, e3, e6, e7, e8, hlt]
      refine CallStep.pure hof (.cons (.hf (HF.lst fun r hr c hc => by simp at hr; subst hr; simp at hc; subst hc; exact HF.sc _)) .nil) ?_
      simp [go_sem, e3, e6, e7, e8, hlt, w1]
      rw [hb]; rfl
theorem toL_eq (a b : ByteArray) : (a.toList == b.toList) = decide (a = b) := by
  by_cases h : a = b
  · subst h; simp
  · rw [str_ne h, decide_eq_false h]
theorem appK {mu : Mu} {s : AV} {xs : List Kd} {k : Kd} {K : AV → Mu → Prop} (ho : OwnF 0 mu 2 s (xs.map cKd)) (hl : xs.length ≤ 100000) (kk : ∀ av mu', OwnF 0 mu' 2 av ((xs ++ [k]).map cKd) → K av mu') :
    AppendStep Tryz.prog mu #[149, 149] s (.lst true [cKd k]) K := by
  refine AppendStep.ownF (lo := 0) (e := 82) (sz := 2) (bt := 16) (zv := .agg [aI 0, .sc (.map none)]) (xs := xs.map cKd) (ys := [cKd k]) (by simp [go_sem]) (by simp [go_sem]) (by simp [go_sem]) rfl rfl (by omega) (by omega) ho (by simp [rowsOf]) (rows_cKd _) (rows_cKd [k]) (by simp; omega) ?_
  intro av mu' h _
  exact kk av mu' (by rw [List.map_append]; exact h)
theorem appKB {mu : Mu} {s : AV} {xs : List Kd} {k : Kd} {K : AV → Mu → Prop} {b : Nat} {c : Cell} (ho : Own mu 2 s (xs.map cKd)) (hb : mu[b]? = some c) (hs : ∀ off len, s ≠ .sl b 2 off len) (hl : xs.length ≤ 100000)
    (kk : ∀ av mu', Own mu' 2 av ((xs ++ [k]).map cKd) → mu'[b]? = some c → (∀ off len, av ≠ .sl b 2 off len) → K av mu') :
    AppendStep Tryz.prog mu #[149, 149] s (.lst true [cKd k]) K := by
  have hbl : b < mu.length := (List.getElem?_eq_some_iff.1 hb).1
  have hfl := flatten_len (rows_cKd xs).ok
  refine .inl ⟨_, _, 82, 2, 16, [cKd k], rfl, by simp [go_sem], by simp [go_sem], ⟨.agg [aI 0, .sc (.map none)], by simp [go_sem], rfl, rfl⟩, by omega, by omega, by simp [rowsOf], rows_cKd [k], ?_⟩
  rcases ho with rfl | ⟨b0, rfl, hc⟩
  · refine .inl ⟨xs.map cKd, rfl, rows_cKd xs, by simp; omega, fun h => by simp at h, fun _ => ?_⟩
    refine kk _ _ (.inr ⟨mu.length, by simp, by simp⟩) (by rw [List.getElem?_append_left hbl]; exact hb) (fun off len e => ?_)
    injection e; omega
  · refine .inr ⟨b0, xs.length, _, by simp, hc, by simp at hfl ⊢; omega, by simp; omega, ?_⟩
    have hne : b0 ≠ b := fun e => hs 0 _ (by rw [e])
    refine kk _ _ (.inr ⟨mu.length, by simp, ?_⟩) (by rw [List.getElem?_append_left (by simpa using hbl), List.getElem?_set_ne hne]; exact hb) (fun off len e => ?_)
    · rw [List.getElem?_append_right (by simp)]
      have : (List.map cKd xs).flatten.take (xs.length * 2) = (List.map cKd xs).flatten := List.take_of_length_le (by simp at hfl ⊢; omega)
      simp only [List.length_set, Nat.sub_self, List.getElem?_cons_zero, this, List.map_append, List.flatten_append]
      rfl
    · injection e; omega
theorem own_push {mu : Mu} {sz : Nat} {s : AV} {xs : List (List AV)} (h : Own mu sz s xs) (c : Cell) : Own (mu ++ [c]) sz s xs := by
  rcases h with rfl | ⟨b, rfl, hc⟩
  · exact .inl rfl
  · exact .inr ⟨b, rfl, by rw [List.getElem?_append_left (List.getElem?_eq_some_iff.1 hc).1]; exact hc⟩
theorem own_not {mu : Mu} {sz : Nat} {s : AV} {xs : List (List AV)} (h : Own mu sz s xs) : ∀ off len, s ≠ .sl mu.length sz off len := by
  intro off len e
  rcases h with rfl | ⟨b, rfl, hc⟩
  · cases e
  · have := (List.getElem?_eq_some_iff.1 hc).1
    injection e; omega
theorem meanF_take {fs : List Fld} {k : Nat} (hk : k < fs.length) (nm : ByteArray) : meanF (fs.take (k + 1)) nm = meanF (fs.take k) nm ++ (if fs[k].name = nm then [kOf fs[k].sorts] else []) := by
  unfold meanF
  rw [List.take_add_one, List.getElem?_eq_getElem hk, List.filterMap_append]
  congr 1
  simp only [Option.toList_some, List.filterMap_cons, List.filterMap_nil]
  split <;> rename_i h <;> split at h <;> simp_all
theorem meanF_len (fs : List Fld) (nm : ByteArray) : (meanF fs nm).length ≤ fs.length := List.length_filterMap_le ..
theorem meanS_take : ∀ {so : List (ByteArray × Bool)} {i k : Nat} (hk : k < so.length) (nm : ByteArray), meanS i (so.take (k + 1)) nm = meanS i (so.take k) nm ++ meanS1 (i + k) so[k] nm
  | [], _, _, h, _ => by simp at h
  | s :: so, i, 0, _, nm => by simp [meanS]
  | s :: so, i, k + 1, h, nm => by
    have := meanS_take (so := so) (i := i + 1) (k := k) (by simpa using h) nm
    simp only [List.take_succ_cons, meanS, List.getElem_cons_succ] at this ⊢
    rw [this, List.append_assoc, show i + 1 + k = i + (k + 1) by omega]
theorem meanS1_len (i : Nat) (s : ByteArray × Bool) (nm : ByteArray) : (meanS1 i s nm).length ≤ 3 := by
  unfold meanS1
  simp only [List.length_append]
  have h : ∀ (p : Prop) [Decidable p] (k : Kd), (if p then [k] else []).length ≤ 1 := fun p _ k => by split <;> simp
  have h1 := h (s.1 = nm) (kOf [(i : Int)])
  have h2 := h (s.2 = true ∧ s.1 ++ sFirst = nm) (kOf [(i : Int)])
  have h3 := h (s.2 = true ∧ s.1 ++ sNext = nm) (kOf [(i : Int), (i : Int)])
  omega
theorem meanS_len : ∀ (so : List (ByteArray × Bool)) (i : Nat) (nm : ByteArray), (meanS i so nm).length ≤ 3 * so.length
  | [], _, _ => by simp [meanS]
  | s :: so, i, nm => by
    have := meanS_len so (i + 1) nm
    have := meanS1_len i s nm
    simp only [meanS, List.length_append, List.length_cons]; omega
theorem meansU (ts : TS) (h : okTS ts) (nm : ByteArray) : SoundP Tryz.prog 128 [eTS ts, aS nm] (.lst false ((means ts nm).map cKd)) := by
  refine SoundP.of_sound (Sound.of_awp Tryz.call128 Tryz.func128 rfl (Nat.le_of_ble_eq_true (by kernel_rfl)) (by kernel_rfl) (pl := {}) ?_)
  have hnf := h.nf
  have hns := h.ns
  simp [go_sem]
  refine LoopGo.upK ts.fields.length (fun k st => st.tm 1 = aS nm ∧ st.tm 2 = .ip (cTS ts) ∧ st.tm 11 = lFl ts.fields ∧ st.tm 12 = aI ts.fields.length ∧ st.tm 13 = aI k ∧ OwnF 0 st.mu 2 (st.tm 5) ((meanF (ts.fields.take k) nm).map cKd)) ?_ ?_
  · exact ⟨by simp [go_sem], by simp [go_sem], by simp [go_sem], by simp [go_sem], by simp [go_sem], by simp [go_sem]; exact OwnF.nil (Nat.zero_le _)⟩
  · rintro k st hk ⟨e1, e2, e11, e12, e13, ho⟩
    by_cases he : k = ts.fields.length
    · subst he
      rw [List.take_length] at ho
      simp [go_sem, e1, e2, e11, e12, e13]
      have hl1 := meanF_len ts.fields nm
      refine LoopGo.upK ts.sorts.length (fun k st => st.tm 1 = aS nm ∧ st.tm 29 = lSo ts.sorts ∧ st.tm 30 = aI ts.sorts.length ∧ st.tm 31 = aI k ∧ Own st.mu 2 (st.tm 5) ((meanF ts.fields nm ++ meanS 0 (ts.sorts.take k) nm).map cKd)) ?_ ?_
      · exact ⟨by simp [go_sem, e1], by simp [go_sem], by simp [go_sem], by simp [go_sem], by simp [go_sem, meanS]; simpa using ho.1⟩
      · rintro k st hk ⟨e1, e29, e30, e31, ho⟩
        by_cases he : k = ts.sorts.length
        · subst he
          rw [List.take_length] at ho
          simp [go_sem, e1, e29, e30, e31]
          exact ho.rd (rows_cKd _).ok (fun r hr c hc => by
            obtain ⟨x, _, rfl⟩ := List.mem_map.1 hr
            simp at hc
            rcases hc with rfl | rfl
            · exact HF.sc _
            · exact hf_mKd _)
        · have hlt : k < ts.sorts.length := by omega
          have w1 : IntKind.i64.wrap ((k : Int) + 1) = (k : Int) + 1 := wrap_i64 (by omega) (by omega)
          have hl2 := meanS_len (ts.sorts.take k) 0 nm
          have hl3 : (ts.sorts.take k).length ≤ 4 := by simp; omega
          have hof1 := ofU' true [(k : Int)] (by simp) (fun x hx => by simp at hx; subst hx; omega)
          have hof2 := ofU' true [(k : Int), (k : Int)] (by simp) (fun x hx => by simp at hx; subst hx; omega)
          have hr1 : HF (.lst true [rI k]) := HF.lst fun r hr c hc => by simp at hr; subst hr; simp at hc; subst hc; exact HF.sc _
          have hr2 : HF (.lst true [rI k, rI k]) := HF.lst fun r hr c hc => by simp at hr; subst hr; simp at hc; subst hc; exact HF.sc _
          have htk := meanS_take (i := 0) hlt nm
          rw [Nat.zero_add] at htk
          have hsz := h.sl _ (List.getElem_mem hlt)
          generalize hso : ts.sorts[k] = so at *
          obtain ⟨sn, sb⟩ := so
          have hll : (meanF ts.fields nm ++ meanS 0 (ts.sorts.take k) nm).length ≤ 18 := by simp at hl2 hl3 ⊢; omega
          have hlx : ∀ x : Kd, ((meanF ts.fields nm ++ meanS 0 (ts.sorts.take k) nm) ++ [x]).length ≤ 19 := fun x => by simp at hll ⊢; omega
          have hly : ∀ x y : Kd, (((meanF ts.fields nm ++ meanS 0 (ts.sorts.take k) nm) ++ [x]) ++ [y]).length ≤ 20 := fun x y => by simp at hll ⊢; omega
          generalize hX : meanF ts.fields nm ++ meanS 0 (ts.sorts.take k) nm = X at *
          have hfin : ∀ (s : AV) (mu : Mu) (Y : List Kd), Y = X ++ meanS1 k (sn, sb) nm → Own mu 2 s (Y.map cKd) → Own mu 2 s ((meanF ts.fields nm ++ meanS 0 (ts.sorts.take (k + 1)) nm).map cKd) := by
            intro s mu Y hY h
            rw [htk, ← List.append_assoc, hX, ← hY]; exact h
          have hsf : ∀ b : ByteArray, sn ++ sFirst = b → (sn ++ sFirst).toList == b.toList := fun b h => by rw [h]; simp
          have hmu := fun c => own_push ho c
          have hnot := own_not ho
          have hfs : (sn ++ sFirst = nm) = (sn ++ (⟨#[95, 102, 105, 114, 115, 116]⟩ : ByteArray) = nm) := rfl
          have hxs : (sn ++ sNext = nm) = (sn ++ (⟨#[95, 110, 101, 120, 116]⟩ : ByteArray) = nm) := rfl
          simp only [meanS1, hfs, hxs] at hfin
          have hs1 : sn.size ≤ 9223372036854775801 := by simp at hsz; omega
          have hs2 : sn.size ≤ 9223372036854775802 := by simp at hsz; omega
          simp only [List.map_append] at hfin
          obtain ⟨d1, hd1⟩ : ∃ d, decide (sn = nm) = d := ⟨_, rfl⟩
          obtain ⟨d2, hd2⟩ : ∃ d, decide (sn ++ (⟨#[95, 102, 105, 114, 115, 116]⟩ : ByteArray) = nm) = d := ⟨_, rfl⟩
          obtain ⟨d3, hd3⟩ : ∃ d, decide (sn ++ (⟨#[95, 110, 101, 120, 116]⟩ : ByteArray) = nm) = d := ⟨_, rfl⟩
          have p1 : (sn = nm) = (d1 = true) := by rw [← hd1]; simp
          have p2 : (sn ++ (⟨#[95, 102, 105, 114, 115, 116]⟩ : ByteArray) = nm) = (d2 = true) := by rw [← hd2]; simp
          have p3 : (sn ++ (⟨#[95, 110, 101, 120, 116]⟩ : ByteArray) = nm) = (d3 = true) := by rw [← hd3]; simp
          simp only [p1, p2, p3] at hfin
          cases d1 <;> cases d2 <;> cases d3 <;> cases sb
          all_goals simp only [if_true, if_false, List.append_nil, List.nil_append, and_false, and_true, false_and, true_and, reduceCtorEq] at hfin
          all_goals simp [go_sem, toL_eq, e1, e29, e30, e31, hlt, hso, hd1, hd2, hd3, w1, hs1, hs2]
          all_goals repeat' (first
            | (refine CallStep.pure hof1 (.cons (.hf hr1) .nil) ?_
               simp [go_sem]
               refine appKB (b := st.mu.length) (by first | exact hmu _ | assumption) (by first | assumption | exact List.getElem?_concat_length) (by assumption) (by first | (simp only [List.length_append, List.length_singleton]; omega) | omega) ?_
               rintro av mu' ho2 hb2 hn2
               simp [go_sem, toL_eq, e1, e29, e30, e31, hlt, hso, hd1, hd2, hd3, w1, hs1, hs2, hb2])
            | (refine CallStep.pure hof2 (.cons (.hf hr2) .nil) ?_
               simp [go_sem]
               refine appKB (b := st.mu.length) (by first | exact hmu _ | assumption) (by first | assumption | exact List.getElem?_concat_length) (by assumption) (by first | (simp only [List.length_append, List.length_singleton]; omega) | omega) ?_
               rintro av mu' ho2 hb2 hn2
               simp [go_sem, toL_eq, e1, e29, e30, e31, hlt, hso, hd1, hd2, hd3, w1, hs1, hs2, hb2]))
          all_goals
            refine Keep.mk' ?_
            refine ⟨by simp [go_sem, e1], by simp [go_sem, e29], by simp [go_sem, e30], by simp [go_sem], ?_⟩
            simp only [put_tm, put_mu]
            simp
            refine hfin _ _ _ ?_ (by first | assumption | exact hmu _)
            simp
    · have hlt : k < ts.fields.length := by omega
      have hfl := h.fl _ (List.getElem_mem hlt)
      have w1 : IntKind.i64.wrap ((k : Int) + 1) = (k : Int) + 1 := wrap_i64 (by omega) (by omega)
      have hof := ofU' false ts.fields[k].sorts hfl.2.1 (fun x hx => by have := hfl.2.2 x hx; omega)
      have htk := meanF_take hlt nm
      have hl1 := meanF_len (ts.fields.take k) nm
      by_cases hn : ts.fields[k].name = nm
      · simp [go_sem, e1, e2, e11, e12, e13, hlt, hn]
        refine CallStep.pure hof (.cons (.hf (hf_lI _)) .nil) ?_
        simp [go_sem, e1, e2, e11, e12, e13, hlt, hn]
        refine appK (xs := meanF (ts.fields.take k) nm) (ownF_le ho (MuLe.push _ _)) (by simp at hl1 ⊢; omega) ?_
        intro av mu' ho2
        simp [go_sem, e1, e2, e11, e12, e13, hlt, w1]
        refine Keep.mk' ?_
        refine ⟨by simp [go_sem, e1], by simp [go_sem, e2], by simp [go_sem, e11], by simp [go_sem, e12], by simp [go_sem], ?_⟩
        rw [htk, if_pos hn]
        simpa [go_sem] using ho2
      · simp [go_sem, e1, e2, e11, e12, e13, hlt, hn, str_ne hn, w1]
        refine Keep.mk' ?_
        refine ⟨by simp [go_sem, e1], by simp [go_sem, e2], by simp [go_sem, e11], by simp [go_sem, e12], by simp [go_sem], ?_⟩
        rw [htk, if_neg hn, List.append_nil]
        simpa [go_sem] using ownF_le ho (MuLe.push _ _)
end Go.Proofs.YtcfopdccdeeleaaGreatDoor.Y10


namespace Go.Proofs.YtcfopdccdeeleaaGreatDoor.Y11
open Go Go.Ev Go.Proofs Y1 Y2 Y3 Y4 P1 YM Y5 Y6 Y7 Y8 YS YF Y9 Y10
def cKo : Option Kd → List AV
  | some k => cKd k
  | none => [aI 0, .sc (.map none)]
@[go_sem] theorem cKo_some (k : Kd) : cKo (some k) = cKd k := rfl
@[go_sem] theorem cKo_none : cKo none = [aI 0, .sc (.map none)] := rfl
theorem hf_cKo (k : Option Kd) : ∀ c, c ∈ cKo k → HF c := by
  intro c hc
  cases k with
  | none => simp [cKo] at hc; rcases hc with rfl | rfl <;> exact HF.sc _
  | some k => simp [cKo] at hc; rcases hc with rfl | rfl; exact HF.sc _; exact hf_mKd _
theorem hf_eKo (k : Option Kd) : HF (.agg (cKo k)) := HF.agg (hf_cKo k)
theorem cKo_row (k : Option Kd) : (cKo k).length = 2 ∧ (cKo k).all AV.one = true := by cases k <;> exact ⟨rfl, rfl⟩
def endK : Res → AEnd
  | .ok k => .ret (.agg (cKo k))
  | .error e => .pan (stopV e.1 e.2)
@[go_sem] theorem endK_ok (k : Option Kd) : endK (.ok k) = .ret (.agg (cKo k)) := rfl
@[go_sem] theorem endK_error (e : Dg) : endK (.error e) = .pan (stopV e.1 e.2) := rfl
theorem nameU (c : Ck) (hc : okCk c) (s : Scp) (n : Nd) : SoundX Tryz.prog 85 [eCk c, aSc s, eNd n] (endK (nameK c s n.name n.pos)) := by
  refine SoundG.of_sound ?_
  refine Sound.of_awp Tryz.call85 Tryz.func85 rfl (Nat.le_of_ble_eq_true (by kernel_rfl)) (by kernel_rfl) (pl := {}) ?_
  simp [go_sem]
  refine CallStep.pure (findU s n.name) (.cons (.hf (hf_aSc s)) (.cons (.hf (HF.sc _)) .nil)) ?_
  unfold nameK
  cases hf : findS n.name s with
  | cons v r =>
    simp [go_sem, aSc]
    exact .hf _ (hf_eKd v.2)
  | nil =>
    simp [go_sem, aSc]
    refine DrawGo.intro (by kernel_rfl) ?_
    simp [go_sem]
    refine CallStep.pure (meansU c.ts hc.ts n.name) (.cons (.hf (hf_eTS c.ts)) (.cons (.hf (HF.sc _)) .nil)) ?_
    have hn0 := needU
    cases hm : means c.ts n.name with
    | nil =>
      simp [go_sem]
      refine CallStep.pans (needU false 40 n) (.cons (.hf (HF.sc _)) (.cons (.hf (HF.sc _)) (.cons (.hf (hf_eNd n)) .nil))) ?_
      simp [go_sem]
      exact .hf _ (hf_stopV _ _)
    | cons k ks =>
      simp [go_sem]
      refine CallStep.pure (needU true 40 n).toP (.cons (.hf (HF.sc _)) (.cons (.hf (HF.sc _)) (.cons (.hf (hf_eNd n)) .nil))) ?_
      cases ks with
      | nil =>
        simp [go_sem]
        refine CallStep.pure (needU true 44 n).toP (.cons (.hf (HF.sc _)) (.cons (.hf (HF.sc _)) (.cons (.hf (hf_eNd n)) .nil))) ?_
        simp [go_sem]
        exact .hf _ (hf_eKd k)
      | cons k2 ks =>
        simp [go_sem]
        refine CallStep.pans (needU false 44 n) (.cons (.hf (HF.sc _)) (.cons (.hf (HF.sc _)) (.cons (.hf (hf_eNd n)) .nil))) ?_
        simp [go_sem]
        exact .hf _ (hf_stopV _ _)
theorem diag_succ (k ar : Nat) (har : 1 ≤ ar) (h3 : ar ≤ 3) : kSum (kDiag k ar) (kOf (List.replicate ar (k : Int))) = kDiag (k + 1) ar := by
  have hnd : ∀ k, ((List.range k).map fun (i : Nat) => pad (List.replicate ar (i : Int))).Nodup := by
    intro k
    refine List.pairwise_map.2 ((List.pairwise_iff_getElem.2 fun i j hi hj hij => ?_))
    simp only [List.getElem_range]
    obtain ⟨a, rfl⟩ : ∃ a, ar = a + 1 := ⟨ar - 1, by omega⟩
    intro e
    simp [pad, List.replicate_succ] at e
    omega
  have hu : ∀ l : List Tp, l.Nodup → uni [] l = l := by
    intro l hl
    have : ∀ (b a : List Tp), (a ++ b).Nodup → uni a b = a ++ b := by
      intro b
      induction b with
      | nil => intro a _; simp [uni]
      | cons x b ih =>
        intro a h
        have hx : x ∉ a := fun hm => (List.nodup_append.1 h).2.2 x hm x (by simp) rfl
        show uni (ins a x) b = _
        rw [show ins a x = a ++ [x] by unfold ins; rw [if_neg hx], ih (a ++ [x]) (by simpa using h)]
        simp
    simpa using this l [] (by simpa using hl)
  unfold kSum kDiag kOf
  simp only
  rw [hu _ (hnd k)]
  have h1 := hnd (k + 1)
  rw [List.range_succ, List.map_append, List.map_singleton] at h1 ⊢
  have hx : pad (List.replicate ar (k : Int)) ∉ (List.range k).map fun (i : Nat) => pad (List.replicate ar (i : Int)) := fun hm => (List.nodup_append.1 h1).2.2 _ hm _ (by simp) rfl
  congr 1
  show ins _ _ = _
  unfold ins
  rw [if_neg hx]
theorem diagU (c : Ck) (hc : okCk c) (ar : Nat) (h1 : 1 ≤ ar) (h3 : ar ≤ 3) : SoundP Tryz.prog 131 [eCk c, aI ar] (eKd (kDiag c.ts.sorts.length ar)) := by
  refine SoundP.of_sound (Sound.of_awp Tryz.call131 Tryz.func131 rfl (Nat.le_of_ble_eq_true (by kernel_rfl)) (by kernel_rfl) (pl := {}) ?_)
  have hns := hc.ts.ns
  simp [go_sem]
  refine CallStep.pure (emptyU ar) (.cons (.hf (HF.sc _)) .nil) ?_
  simp [go_sem]
  refine LoopGo.up c.ts.sorts.length (fun k st => st.tm 1 = aI ar ∧ st.tm 4 = .ptr 0 0 ∧ st.tm 5 = .ptr 1 0 ∧ st.tm 13 = lSo c.ts.sorts ∧ st.tm 14 = aI c.ts.sorts.length ∧ st.tm 15 = aI k ∧ st.mu = [.arr [aI 0, .sc (.map none)], .arr (cKd (kDiag k ar))]) ?_ ?_
  · simp [go_sem, kDiag]
  · rintro k st hk ⟨e1, e4, e5, e13, e14, e15, hm⟩
    by_cases he : k = c.ts.sorts.length
    · subst he
      simp [go_sem, e1, e4, e5, e13, e14, e15, hm]
      exact .hf _ (hf_eKd _)
    · have hlt : k < c.ts.sorts.length := by omega
      have w1 : IntKind.i64.wrap ((k : Int) + 1) = (k : Int) + 1 := wrap_i64 (by omega) (by omega)
      have hr := repeatI k ar (by omega)
      have hof := ofU' false (List.replicate ar (k : Int)) (by simpa using h3) (fun x hx => by rw [List.eq_of_mem_replicate hx]; omega)
      have hsu := sumU true (kDiag k ar) (kOf (List.replicate ar (k : Int))) (fun t ht => by
        have ht : t ∈ (List.range k).map fun (i : Nat) => pad (List.replicate ar (i : Int)) := ht
        obtain ⟨i, _, rfl⟩ := List.mem_map.1 ht; rfl) (fun t ht => by
        have ht : t ∈ [pad (List.replicate ar (k : Int))] := ht
        simp at ht; subst ht; rfl)
      rw [diag_succ k ar h1 h3] at hsu
      simp [go_sem, e1, e4, e5, e13, e14, e15, hm, hlt]
      refine DrawGo.intro (by kernel_rfl) ?_
      simp [go_sem, e1, e4, e5, e13, e14, e15, hm, hlt]
      refine CallStep.pure hr (.cons (WK.lst fun r hr c hc => by simp at hr; subst hr; simp at hc; subst hc; exact HF.sc _) (.cons (.hf (HF.sc _)) .nil)) ?_
      simp [go_sem]
      refine CallStep.pure hof (.cons (.hf (hf_lI _)) .nil) ?_
      simp [go_sem]
      refine CallStep.pure hsu (.cons (.hf (hf_eKd _)) (.cons (.hf (hf_lKd _ [_])) .nil)) ?_
      simp [go_sem, e1, e4, e5, e13, e14, e15, hm, hlt, w1]
end Go.Proofs.YtcfopdccdeeleaaGreatDoor.Y11


namespace Go.Proofs.YtcfopdccdeeleaaGreatDoor.Y12
open Go Go.Ev Go.Proofs Y1 Y2 Y3 Y4 P1 YM Y5 Y6 Y7 Y8 YS YF Y9 Y10 Y11
def trF (t : Tp) : Tp := [t.getD 1 0, t.getD 0 0, 0]
theorem mem_kTr {a : List Tp} {t : Tp} : t ∈ uni [] (a.map fun t => [t.getD 1 0, t.getD 0 0, 0]) ↔ ∃ x, x ∈ a ∧ trF x = t := by
  rw [mem_uni]; simp [trF]
theorem ok2_kDiag (ns : Nat) (h : ns ≤ 4) : ok2 (kDiag ns 2) := by
  have hnd : ((List.range ns).map fun (i : Nat) => pad (List.replicate 2 (i : Int))).Nodup := by
    refine List.pairwise_map.2 (List.pairwise_iff_getElem.2 fun i j hi hj hij => ?_)
    simp only [List.getElem_range]
    intro e
    simp [pad, List.replicate_succ] at e
    omega
  refine ⟨rfl, hnd, fun t ht => ?_⟩
  have ht : t ∈ (List.range ns).map fun (i : Nat) => pad (List.replicate 2 (i : Int)) := ht
  obtain ⟨i, hi, rfl⟩ := List.mem_map.1 ht
  rw [List.mem_range] at hi
  exact ⟨i, i, rfl, by omega, by omega, by omega, by omega⟩
theorem ok2_clo {a : Kd} (h : ok2 a) : ok2 (kClo a) := by
  have : ∀ (f n : Nat) (a : Kd), ok2 a → ok2 (cloN f n a) := by
    intro f
    induction f with
    | zero => intro n a h; exact h
    | succ f ih =>
      intro n a h
      unfold cloN
      split
      · exact ih _ _ (h.sum h.join)
      · exact h
  exact this 70 0 a h
theorem binaryU (c : Ck) (hc : okCk c) (op : Int) (a : Kd) (ha : ok2 a) (hop : op = 11 ∨ op = 12 ∨ op = 13) : SoundP Tryz.prog 135 [eCk c, aI op, eKd a] (eKd (binK c.ts.sorts.length op a)) := by
  refine SoundP.of_sound (Sound.of_awp Tryz.call135 Tryz.func135 rfl (Nat.le_of_ble_eq_true (by kernel_rfl)) (by kernel_rfl) (pl := {}) ?_)
  have hns := hc.ts.ns
  unfold binK
  rcases hop with rfl | rfl | rfl
  · simp [go_sem]
    refine CallStep.eff0 (emptyM _ _) ?_ (by rintro r m ⟨e, _⟩; cases e)
    rintro r m ⟨e, c, rfl⟩
    cases e
    simp [go_sem]
    refine LoopGo.seen a.ts.length (fun seen st => st.tm 5 = .ip (cKd a) ∧ st.tm 6 = .ptr 0 0 ∧ st.tm 7 = .ptr 3 0 ∧ st.tm 25 = .ptr 4 0 ∧
      ColS 2 (.arr [aI 0, .sc (.map none)]) c (.it (eT a.ts) seen) (fun t => ∃ x, (∃ i, i ∈ seen ∧ a.ts[i]? = some x) ∧ trF x = t) st.mu) ?_ ?_
    · exact ⟨by simp [go_sem], by simp [go_sem], by simp [go_sem], by simp [go_sem], [], rfl, rfl, rfl, rfl, rfl, by simp, by simp, by simp⟩
    · rintro seen st hnd hlt ⟨e5, e6, e7, e25, l, k0, k1, k2, k3, k4, h1, h2, h3⟩
      simp [go_sem, e5, e6, e7, e25]
      refine ⟨4, eT a.ts, seen, rfl, k4, fun i e hi hns => ?_, fun hall => ?_⟩
      · obtain ⟨x, hx, rfl⟩ := eT_get hi
        have hxo : okT x := ha.okK.len x (List.mem_of_getElem? hx)
        have hil : i < a.ts.length := (List.getElem?_eq_some_iff.1 hx).1
        have hx3 : x.length = 3 := hxo
        have hlen : 4 < st.mu.length := (List.getElem?_eq_some_iff.1 k4).1
        have hget : ∀ (c : Cell) (l : List Cell) (j : Nat), j < 4 → ((st.mu.set 4 c) ++ l)[j]? = st.mu[j]? := fun c l j hj => by
          rw [List.getElem?_append_left (by simp; omega), List.getElem?_set_ne (by omega)]
        have q2 := fun c l => (hget c l 2 (by omega)).trans k2
        have q3 := fun c l => (hget c l 3 (by omega)).trans k3
        obtain ⟨x0, x1, x2, rfl⟩ : ∃ x0 x1 x2, x = [x0, x1, x2] := by
          match x, hx3 with
          | [x0, x1, x2], _ => exact ⟨_, _, _, rfl⟩
        simp [go_sem, e5, e6, e7, e25, k4, hi, hlen, hns, q3]
        refine OptK.intro _ (updT (t := [x1, x0, 0]) (q2 _ _) rfl h2) ?_
        simp [go_sem]
        refine ⟨i, hil, hns, by simp [go_sem, e5], by simp [go_sem, e6], by simp [go_sem, e7], by simp [go_sem, e25], ins l [x1, x0, 0], ?_, ?_, ?_, ?_, ?_, nodup_ins h1, fun t ht => ?_, fun t => ?_⟩
        · simp only [put_mu]
          rw [List.getElem?_set_ne (by omega), hget _ _ 0 (by omega), k0]
        · simp only [put_mu]
          rw [List.getElem?_set_ne (by omega), hget _ _ 1 (by omega), k1]
        · simp only [put_mu]
          rw [List.getElem?_set_self (by simp; omega)]
        · simp only [put_mu]
          rw [List.getElem?_set_ne (by omega), hget _ _ 3 (by omega), k3]
        · simp only [put_mu]
          rw [List.getElem?_set_ne (by omega), List.getElem?_append_left (by simpa using hlen), List.getElem?_set_self hlen]
        · rcases mem_ins.1 ht with h | rfl
          · exact h2 t h
          · rfl
        · simp only [mem_ins, h3, seen_mem hx]
          constructor
          · rintro (⟨y, h, e⟩ | rfl)
            · exact ⟨y, .inl h, e⟩
            · exact ⟨[x0, x1, x2], .inr rfl, rfl⟩
          · rintro ⟨y, h | rfl, e⟩
            · exact .inl ⟨y, h, e⟩
            · exact .inr e.symm
      · obtain ⟨rest, hm⟩ := four k0 k1 k2 k3
        simp [go_sem, e5, e6, e7, e25, hm]
        refine Rd.aggs ⟨.hf _ (HF.sc _), Rd.setT (k := (kTr a).ts) rfl h1 (nodup_uni (by simp)) (fun t => ?_), trivial⟩
        refine (h3 t).trans (Iff.trans ?_ mem_kTr.symm)
        constructor
        · rintro ⟨y, h, e⟩; exact ⟨y, (seen_all (by simpa using hall)).1 h, e⟩
        · rintro ⟨y, h, e⟩; exact ⟨y, (seen_all (by simpa using hall)).2 h, e⟩
  · simp [go_sem]
    refine CallStep.pure (closureU a ha) (.cons (.hf (hf_eKd _)) .nil) ?_
    simp [go_sem]
    exact .hf _ (hf_eKd _)
  · simp [go_sem]
    refine CallStep.pure (closureU a ha) (.cons (.hf (hf_eKd _)) .nil) ?_
    simp [go_sem]
    refine CallStep.pure (diagU c hc 2 (by omega) (by omega)) (.cons (.hf (hf_eCk _)) (.cons (.hf (HF.sc _)) .nil)) ?_
    simp [go_sem]
    refine CallStep.pure (sumU true (kClo a) (kDiag c.ts.sorts.length 2) (ok2_clo ha).okK.len (ok2_kDiag _ hns).okK.len) (.cons (.hf (hf_eKd _)) (.cons (.hf (hf_lKd _ [_])) .nil)) ?_
    simp [go_sem]
    exact .hf _ (hf_eKd _)
theorem hfK2 (n : Int) (ts : List Tp) : HF (.agg [aI n, mKd ts]) := hf_eKd ⟨n, ts⟩
theorem hfKn : HF (.agg [aI 0, .sc (.map none)]) := hf_eKo none
theorem wkR (n : Nd) (b : Bool) (e : Int) : WKs [aB b, aI e, eNd n] [aB b, aI e, eNd n] := .cons (.hf (HF.sc _)) (.cons (.hf (HF.sc _)) (.cons (.hf (hf_eNd n)) .nil))
structure ApOk (op : Int) (l : List (Option Kd)) : Prop where
  one : op = 5 → ∃ a, l = [a]
  bin : op = 11 ∨ op = 12 ∨ op = 13 → ∃ a, l = [some a] ∧ okK a ∧ (a.ar = 2 → ok2 a)
  two : op = 6 ∨ op = 14 ∨ op = 7 ∨ op = 8 ∨ op = 32 ∨ op = 33 ∨ op = 9 ∨ op = 10 → ∃ a b, l = [some a, some b] ∧ okK a ∧ okK b
theorem applyK_other {ns : Nat} {op n pos : Int} {l : List (Option Kd)} (h2 : op ≠ 2) (h3 : op ≠ 3) (h4 : op ≠ 4) (h5 : op ≠ 5) (b1 : op ≠ 11) (b2 : op ≠ 12) (b3 : op ≠ 13) (t1 : op ≠ 6) (t2 : op ≠ 14) (t3 : op ≠ 7) (t4 : op ≠ 8) (t5 : op ≠ 32) (t6 : op ≠ 33) (h9 : op ≠ 9) (h10 : op ≠ 10) : applyK ns op n pos l = .ok none := by
  unfold applyK
  rw [if_neg h2, if_neg h3, if_neg h4]
  split
  · simp only [h5, b1, b2, b3, or_self, if_false]
    split <;> rfl
  · simp only [t1, t2, t3, t4, t5, t6, h9, h10, or_self, if_false]
  · rfl
theorem applyU (c : Ck) (hc : okCk c) (full : Bool) (n : Nd) (l : List (Option Kd)) (hl : ApOk n.op l) : SoundX Tryz.prog 87 [eCk c, eNd n, .lst full (l.map cKo)] (endK (applyK c.ts.sorts.length n.op n.n n.pos l)) := by
  refine SoundG.of_sound ?_
  refine Sound.of_awp Tryz.call87 Tryz.func87 rfl (Nat.le_of_ble_eq_true (by kernel_rfl)) (by kernel_rfl) (pl := {}) ?_
  by_cases ho : n.op = 2 ∨ n.op = 3 ∨ n.op = 4 ∨ n.op = 5 ∨ n.op = 11 ∨ n.op = 12 ∨ n.op = 13 ∨ n.op = 6 ∨ n.op = 14 ∨ n.op = 7 ∨ n.op = 8 ∨ n.op = 32 ∨ n.op = 33 ∨ n.op = 9 ∨ n.op = 10
  case neg =>
    simp only [not_or] at ho
    obtain ⟨h2, h3, h4, h5, b1, b2, b3, t1, t2, t3, t4, t5, t6, h9, h10⟩ := ho
    rw [applyK_other h2 h3 h4 h5 b1 b2 b3 t1 t2 t3 t4 t5 t6 h9 h10]
    simp [go_sem, h2, h3, h4, h5, b1, b2, b3, t1, t2, t3, t4, t5, t6, h9, h10]
    exact .hf _ hfKn
  unfold applyK
  by_cases h2 : n.op = 2
  · simp [go_sem, h2]
    refine CallStep.pure (emptyU n.n) (.cons (.hf (HF.sc _)) .nil) ?_
    simp [go_sem]
    exact .hf _ (hfK2 _ _)
  by_cases h3 : n.op = 3
  · simp [go_sem, h3]
    refine CallStep.pure (diagU c hc 1 (by omega) (by omega)) (.cons (.hf (hf_eCk _)) (.cons (.hf (HF.sc _)) .nil)) ?_
    simp [go_sem]
    exact .hf _ (hf_eKd _)
  by_cases h4 : n.op = 4
  · simp [go_sem, h4]
    refine CallStep.pure (diagU c hc 2 (by omega) (by omega)) (.cons (.hf (hf_eCk _)) (.cons (.hf (HF.sc _)) .nil)) ?_
    simp [go_sem]
    exact .hf _ (hf_eKd _)
  by_cases h5 : n.op = 5
  · obtain ⟨a, rfl⟩ := hl.one h5
    cases a with
    | none => simp [go_sem, h5]; exact .hf _ hfKn
    | some a => simp [go_sem, h5]; exact .hf _ (hfK2 _ _)
  by_cases hb : n.op = 11 ∨ n.op = 12 ∨ n.op = 13
  · obtain ⟨a, rfl, ha, ha2⟩ := hl.bin hb
    have hbi := fun h => binaryU c hc n.op a (ha2 h) hb
    by_cases h2' : a.ar = 2
    · have hbi := hbi h2'
      rcases hb with h | h | h <;> rw [h] at hbi
      all_goals
        simp [go_sem, h, h2']
        refine DrawGo.intro (by kernel_rfl) ?_
        simp [go_sem, h, h2']
        refine CallStep.pure (needU true 42 n).toP (wkR n true 42) ?_
        simp [go_sem]
        refine DrawGo.intro (by kernel_rfl) ?_
        simp [go_sem, h]
        refine CallStep.pure hbi (.cons (.hf (hf_eCk _)) (.cons (.hf (HF.sc _)) (.cons (.hf (hf_eKd _)) .nil))) ?_
        simp [go_sem]
        exact .hf _ (hf_eKd _)
    · rcases hb with h | h | h
      all_goals
        simp [go_sem, h, h2']
        refine DrawGo.tail 6 (by kernel_rfl) ?_
        simp [go_sem, h, h2']
        refine CallStep.pans (needU false 42 n) (wkR n false 42) ?_
        simp [go_sem]
        exact .hf _ (hf_stopV _ _)
  by_cases ht : n.op = 6 ∨ n.op = 14 ∨ n.op = 7 ∨ n.op = 8 ∨ n.op = 32 ∨ n.op = 33
  · obtain ⟨a, b, rfl, ha, hb'⟩ := hl.two (by omega)
    have hal := alikeU n.op a b ha hb'
    simp only [not_or] at hb
    by_cases h2' : a.ar = b.ar
    · rcases ht with h | h | h | h | h | h <;> rw [h] at hal
      all_goals
        simp [go_sem, h, h2']
        refine DrawGo.intro (by kernel_rfl) ?_
        simp [go_sem, h, h2']
        refine CallStep.pure (needU true 42 n).toP (wkR n true 42) ?_
        simp [go_sem]
        refine DrawGo.intro (by kernel_rfl) ?_
        simp [go_sem, h]
        refine CallStep.pure hal (.cons (.hf (HF.sc _)) (.cons (.hf (hf_eKd _)) (.cons (.hf (hf_eKd _)) .nil))) ?_
        simp [go_sem]
        exact .hf _ (hf_eKd _)
    · rcases ht with h | h | h | h | h | h
      all_goals
        simp [go_sem, h, h2']
        refine DrawGo.tail 10 (by kernel_rfl) ?_
        simp [go_sem, h, h2']
        refine CallStep.pans (needU false 42 n) (wkR n false 42) ?_
        simp [go_sem]
        exact .hf _ (hf_stopV _ _)
  simp only [not_or] at hb ht
  by_cases h9 : n.op = 9
  · obtain ⟨a, b, rfl, ha, hb'⟩ := hl.two (by omega)
    have hj := joinU a b ha hb'
    have w1 : IntKind.i64.wrap (a.ar + b.ar) = a.ar + b.ar := wrap_i64 (by have := ha.ar; have := hb'.ar; omega) (by have := ha.ar; have := hb'.ar; omega)
    have w2 : IntKind.i64.wrap (a.ar + b.ar - 2) = a.ar + b.ar - 2 := wrap_i64 (by have := ha.ar; have := hb'.ar; omega) (by have := ha.ar; have := hb'.ar; omega)
    simp [go_sem, h9]
    refine DrawGo.intro (by kernel_rfl) ?_
    by_cases hk1 : 1 ≤ a.ar + b.ar - 2
    · by_cases hk2 : a.ar + b.ar - 2 ≤ 3
      · simp [go_sem, h9, w1, w2, hk1, hk2]
        refine CallStep.pure (needU true 42 n).toP (wkR n true 42) ?_
        simp [go_sem]
        refine DrawGo.intro (by kernel_rfl) ?_
        simp [go_sem, h9]
        refine CallStep.pure hj (.cons (.hf (hf_eKd _)) (.cons (.hf (hf_eKd _)) .nil)) ?_
        simp [go_sem]
        exact .hf _ (hf_eKd _)
      · simp [go_sem, h9, w1, w2, hk1, hk2]
        refine CallStep.pans (needU false 42 n) (wkR n false 42) ?_
        simp [go_sem]
        exact .hf _ (hf_stopV _ _)
    · simp [go_sem, h9, w1, w2, hk1]
      refine CallStep.pans (needU false 42 n) (wkR n false 42) ?_
      simp [go_sem]
      exact .hf _ (hf_stopV _ _)
  by_cases h10 : n.op = 10
  · obtain ⟨a, b, rfl, ha, hb'⟩ := hl.two (by omega)
    have w1 : IntKind.i64.wrap (a.ar + b.ar) = a.ar + b.ar := wrap_i64 (by have := ha.ar; have := hb'.ar; omega) (by have := ha.ar; have := hb'.ar; omega)
    by_cases hk2 : a.ar + b.ar ≤ 3
    · have hj := prodU a b ha hb' hk2
      simp [go_sem, h10]
      refine DrawGo.intro (by kernel_rfl) ?_
      simp [go_sem, h10, w1, hk2]
      refine CallStep.pure (needU true 42 n).toP (wkR n true 42) ?_
      simp [go_sem]
      refine DrawGo.intro (by kernel_rfl) ?_
      simp [go_sem, h10]
      refine CallStep.pure hj (.cons (.hf (hf_eKd _)) (.cons (.hf (hf_eKd _)) .nil)) ?_
      simp [go_sem]
      exact .hf _ (hf_eKd _)
    · simp [go_sem, h10]
      refine DrawGo.tail 11 (by kernel_rfl) ?_
      simp [go_sem, h10, w1, hk2]
      refine CallStep.pans (needU false 42 n) (wkR n false 42) ?_
      simp [go_sem]
      exact .hf _ (hf_stopV _ _)
  exact absurd ho (by omega)
end Go.Proofs.YtcfopdccdeeleaaGreatDoor.Y12


namespace Go.Proofs.YtcfopdccdeeleaaGreatDoor.P2
open Go Go.Ev Go.Proofs Y1 Y2 Y3 Y4 P1 YM Y5 Y6 Y7 Y8 YF Y9 Y10 Y11 Y12
def kd (op : Int) : Int := if 1 ≤ op ∧ op ≤ 15 then 101 else if 20 ≤ op ∧ op ≤ 23 then 105 else if 30 ≤ op ∧ op ≤ 51 then 102 else 0
def shp (op : Int) (nk : Nat) : Option (List Int) :=
  if op = 1 ∨ op = 2 ∨ op = 3 ∨ op = 4 ∨ op = 20 ∨ op = 30 ∨ op = 31 then some []
  else if op = 5 ∨ op = 11 ∨ op = 12 ∨ op = 13 ∨ op = 21 ∨ op = 34 ∨ op = 35 ∨ op = 36 ∨ op = 37 then some [101]
  else if op = 6 ∨ op = 7 ∨ op = 8 ∨ op = 9 ∨ op = 10 ∨ op = 14 ∨ op = 32 ∨ op = 33 then some [101, 101]
  else if op = 15 ∨ op = 45 ∨ op = 46 then some [101, 102]
  else if op = 22 ∨ op = 23 ∨ op = 38 ∨ op = 39 then some [105, 105]
  else if op = 40 ∨ op = 48 ∨ op = 49 ∨ op = 50 then some [102]
  else if op = 41 ∨ op = 42 ∨ op = 43 ∨ op = 44 ∨ op = 51 then some [102, 102]
  else if op = 47 then some (List.replicate (min nk 401) 101)
  else none
inductive WfN : Nd → Prop where
  | mk (n : Nd) (h : shp n.op n.kids.length = some (n.kids.map fun k => kd k.op)) (hn : n.op = 2 → 1 ≤ n.n ∧ n.n ≤ 3) (hk : ∀ k, k ∈ n.kids → WfN k) : WfN n
theorem WfN.shape {n : Nd} (h : WfN n) : shp n.op n.kids.length = some (n.kids.map fun k => kd k.op) := by cases h; assumption
theorem WfN.num {n : Nd} (h : WfN n) : n.op = 2 → 1 ≤ n.n ∧ n.n ≤ 3 := by cases h; assumption
theorem WfN.kid {n k : Nd} (h : WfN n) (hk : k ∈ n.kids) : WfN k := by
  cases h with
  | mk _ _ _ h => exact h k hk
theorem shp_len {op : Int} {nk : Nat} {l : List Int} (h : shp op nk = some l) : l.length ≤ 401 := by
  unfold shp at h
  repeat' (split at h)
  all_goals try cases h
  all_goals try simp
  all_goals try omega
theorem WfN.len {n : Nd} (h : WfN n) : n.kids.length ≤ 401 := by
  have := shp_len h.shape
  simpa using this
theorem WfN.small {n : Nd} (h : WfN n) : Small n := by
  induction h with
  | mk n hs hn hk ih => exact .mk n (by have := shp_len hs; simp at this; omega) ih
structure okKd (ns : Nat) (k : Kd) : Prop where
  ar : 1 ≤ k.ar ∧ k.ar ≤ 3
  nd : k.ts.Nodup
  ts : ∀ t, t ∈ k.ts → ∃ l, t = pad l ∧ (l.length : Int) = k.ar ∧ ∀ x, x ∈ l → 0 ≤ x ∧ x < ns
theorem okKd.okK {ns : Nat} {k : Kd} (h : okKd ns k) : okK k := ⟨h.ar, fun t ht => by obtain ⟨l, rfl, _⟩ := h.ts t ht; rfl, h.nd⟩
theorem okKd.ok2 {ns : Nat} {k : Kd} (h : okKd ns k) (hns : ns ≤ 4) (h2 : k.ar = 2) : ok2 k := ⟨h2, h.nd, fun t ht => by
  obtain ⟨l, rfl, hl, hr⟩ := h.ts t ht
  rw [h2] at hl
  match l, hl with
  | [x, y], _ =>
    have h1 := hr x (by simp)
    have h2 := hr y (by simp)
    exact ⟨x, y, rfl, by omega, by omega, by omega, by omega⟩⟩
theorem okKd.of2 {ns : Nat} {k : Kd} (h2 : k.ar = 2) (hnd : k.ts.Nodup) (h : ∀ t, t ∈ k.ts → ∃ x y : Int, t = [x, y, 0] ∧ 0 ≤ x ∧ x < ns ∧ 0 ≤ y ∧ y < ns) : okKd ns k := ⟨by omega, hnd, fun t ht => by
  obtain ⟨x, y, rfl, h1, h3, h4, h5⟩ := h t ht
  exact ⟨[x, y], rfl, by rw [h2]; rfl, fun z hz => by simp at hz; rcases hz with rfl | rfl <;> omega⟩⟩
theorem okKd.pairs {ns : Nat} {k : Kd} (h : okKd ns k) (h2 : k.ar = 2) : ∀ t, t ∈ k.ts → ∃ x y : Int, t = [x, y, 0] ∧ 0 ≤ x ∧ x < ns ∧ 0 ≤ y ∧ y < ns := fun t ht => by
  obtain ⟨l, rfl, hl, hr⟩ := h.ts t ht
  rw [h2] at hl
  match l, hl with
  | [x, y], _ =>
    have h1 := hr x (by simp)
    have h2 := hr y (by simp)
    exact ⟨x, y, rfl, h1.1, h1.2, h2.1, h2.2⟩
theorem okKd_kOf {ns : Nat} {l : List Int} (h1 : 1 ≤ l.length) (h3 : l.length ≤ 3) (hr : ∀ x, x ∈ l → 0 ≤ x ∧ x < ns) : okKd ns (kOf l) :=
  ⟨by simp only [kOf]; omega, by simp [kOf], fun t ht => by
    have ht : t ∈ [pad l] := ht
    rw [List.mem_singleton] at ht
    exact ⟨l, ht, rfl, hr⟩⟩
theorem okKd_none {ns : Nat} {n : Int} (h : 1 ≤ n ∧ n ≤ 3) : okKd ns ⟨n, []⟩ := ⟨h, by simp, fun t ht => by simp at ht⟩
theorem okKd_diag (ns ar : Nat) (h1 : 1 ≤ ar) (h3 : ar ≤ 3) : okKd ns (kDiag ns ar) := by
  refine ⟨by simp only [kDiag]; omega, ?_, fun t ht => ?_⟩
  · refine List.pairwise_map.2 ((List.pairwise_iff_getElem.2 fun i j hi hj hij => ?_))
    simp only [List.getElem_range]
    obtain ⟨a, rfl⟩ : ∃ a, ar = a + 1 := ⟨ar - 1, by omega⟩
    intro e
    simp [pad, List.replicate_succ] at e
    omega
  · have ht : t ∈ (List.range ns).map fun (i : Nat) => pad (List.replicate ar (i : Int)) := ht
    obtain ⟨i, hi, rfl⟩ := List.mem_map.1 ht
    rw [List.mem_range] at hi
    exact ⟨_, rfl, by simp [kDiag], fun x hx => by rw [List.eq_of_mem_replicate hx]; omega⟩
theorem okKd_sum {ns : Nat} {a b : Kd} (ha : okKd ns a) (hb : okKd ns b) (h : a.ar = b.ar) : okKd ns (kSum a b) := by
  refine ⟨ha.ar, nodup_uni (nodup_uni (by simp)), fun t ht => ?_⟩
  have ht : t ∈ uni (uni [] a.ts) b.ts := ht
  simp only [mem_uni, List.not_mem_nil, false_or] at ht
  rcases ht with ht | ht
  · exact ha.ts t ht
  · obtain ⟨l, e, hl, hr⟩ := hb.ts t ht
    exact ⟨l, e, by rw [hl, ← h]; rfl, hr⟩
theorem okKd_inter {ns : Nat} {a b : Kd} (ha : okKd ns a) : okKd ns (kInter a b) :=
  ⟨ha.ar, ha.nd.filter _, fun t ht => ha.ts t (List.mem_filter.1 ht).1⟩
theorem okKd_alike {ns : Nat} {op : Int} {a b : Kd} (ha : okKd ns a) (hb : okKd ns b) (h : a.ar = b.ar) : okKd ns (alikeK op a b) := by
  unfold alikeK
  split
  · exact okKd_sum ha hb h
  · split
    · exact okKd_inter ha
    · exact ha
theorem pad_take' {l : List Int} (h : l.length ≤ 3) (k : Nat) (hk : k ≤ l.length) : (pad l).take k = l.take k := by
  match l, h with
  | [], _ => simp at hk; subst hk; rfl
  | [a], _ => match k, hk with
    | 0, _ => rfl
    | 1, _ => rfl
  | [a, b], _ => match k, hk with
    | 0, _ => rfl
    | 1, _ => rfl
    | 2, _ => rfl
  | [a, b, c], _ => match k, hk with
    | 0, _ => rfl
    | 1, _ => rfl
    | 2, _ => rfl
    | 3, _ => rfl
theorem conc_pad {lx ly : List Int} (hx : lx.length ≤ 3) (hy : ly.length ≤ 3) (s : Nat) : conc (pad lx) lx.length (pad ly) ly.length s = pad (lx.take (lx.length - s) ++ ly.drop s) := by
  unfold conc
  rw [pad_take' hx _ (by omega), pad_take' hy _ (Nat.le_refl _), List.take_length]
theorem okKd_join {ns : Nat} {a b : Kd} (ha : okKd ns a) (hb : okKd ns b) (h1 : 1 ≤ a.ar + b.ar - 2) (h3 : a.ar + b.ar - 2 ≤ 3) : okKd ns (kJoin a b) := by
  refine ⟨⟨h1, h3⟩, nodup_joinL, fun t ht => ?_⟩
  obtain ⟨x, y, ⟨hx, hy⟩, hf⟩ := mem_joinL.1 ht
  obtain ⟨lx, rfl, hlx, hrx⟩ := ha.ts x hx
  obtain ⟨ly, rfl, hly, hry⟩ := hb.ts y hy
  have hax := ha.ar
  have hbx := hb.ar
  unfold joinF at hf
  split at hf
  · simp only [Option.some.injEq] at hf
    rw [show a.ar.toNat = lx.length by omega, show b.ar.toNat = ly.length by omega, conc_pad (by omega) (by omega)] at hf
    refine ⟨_, hf.symm, ?_, fun z hz => ?_⟩
    · show ((lx.take (lx.length - 1) ++ ly.drop 1).length : Int) = a.ar + b.ar - 2
      simp only [List.length_append, List.length_take, List.length_drop]; omega
    · rcases List.mem_append.1 hz with hz | hz
      · exact hrx z (List.mem_of_mem_take hz)
      · exact hry z (List.mem_of_mem_drop hz)
  · exact absurd hf (by simp)
theorem okKd_prod {ns : Nat} {a b : Kd} (ha : okKd ns a) (hb : okKd ns b) (h3 : a.ar + b.ar ≤ 3) : okKd ns (kProd a b) := by
  have hax := ha.ar
  have hbx := hb.ar
  refine ⟨⟨by simp only [kProd]; omega, h3⟩, nodup_prodL, fun t ht => ?_⟩
  obtain ⟨x, y, ⟨hx, hy⟩, hf⟩ := mem_prodL.1 ht
  obtain ⟨lx, rfl, hlx, hrx⟩ := ha.ts x hx
  obtain ⟨ly, rfl, hly, hry⟩ := hb.ts y hy
  unfold prodF at hf
  simp only [Option.some.injEq] at hf
  rw [show a.ar.toNat = lx.length by omega, show b.ar.toNat = ly.length by omega, conc_pad (by omega) (by omega)] at hf
  refine ⟨_, hf.symm, ?_, fun z hz => ?_⟩
  · show ((lx.take (lx.length - 0) ++ ly.drop 0).length : Int) = a.ar + b.ar
    simp only [List.length_append, List.length_take, List.length_drop]; omega
  · rcases List.mem_append.1 hz with hz | hz
    · exact hrx z (List.mem_of_mem_take hz)
    · exact hry z (List.mem_of_mem_drop hz)
theorem okKd_tr {ns : Nat} {a : Kd} (ha : okKd ns a) (h2 : a.ar = 2) : okKd ns (kTr a) := by
  refine okKd.of2 rfl (nodup_uni (by simp)) (fun t ht => ?_)
  obtain ⟨x, hx, rfl⟩ := mem_kTr.1 ht
  obtain ⟨p, q, rfl, h1, h3, h4, h5⟩ := ha.pairs h2 x hx
  exact ⟨q, p, rfl, h4, h5, h1, h3⟩
theorem okKd_clo {ns : Nat} {a : Kd} (ha : okKd ns a) (h2 : a.ar = 2) : okKd ns (kClo a) ∧ (kClo a).ar = 2 := by
  have : ∀ (f n : Nat) (a : Kd), okKd ns a → a.ar = 2 → okKd ns (cloN f n a) ∧ (cloN f n a).ar = 2 := by
    intro f
    induction f with
    | zero => intro n a h h2; exact ⟨h, h2⟩
    | succ f ih =>
      intro n a h h2
      unfold cloN
      split
      · exact ih _ _ (okKd_sum h (okKd_join h h (by omega) (by omega)) (by simp only [kJoin]; omega)) h2
      · exact ⟨h, h2⟩
  exact this 70 0 a ha h2
theorem okKd_bin {ns : Nat} {op : Int} {a : Kd} (ha : okKd ns a) (h2 : a.ar = 2) : okKd ns (binK ns op a) := by
  unfold binK
  split
  · exact (okKd_clo ha h2).1
  · split
    · exact okKd_sum (okKd_clo ha h2).1 (okKd_diag ns 2 (by omega) (by omega)) (by rw [(okKd_clo ha h2).2]; rfl)
    · exact okKd_tr ha h2
def ScOk (ns : Nat) (s : Scp) : Prop := ∀ v, v ∈ s → okKd ns v.2 ∧ v.2.ar = 1
theorem findS_mem {nm : ByteArray} : ∀ {s : Scp} {v : ByteArray × Kd} {r : Scp}, findS nm s = v :: r → v ∈ s
  | [], v, r, h => by simp [findS] at h
  | w :: s, v, r, h => by
    unfold findS at h
    split at h
    · cases h; exact List.mem_cons_self
    · exact List.mem_cons_of_mem _ (findS_mem h)
theorem okKd_means {ts : TS} (h : okTS ts) {nm : ByteArray} {k : Kd} (hk : k ∈ means ts nm) : okKd ts.sorts.length k := by
  unfold means at hk
  rcases List.mem_append.1 hk with hk | hk
  · unfold meanF at hk
    obtain ⟨f, hf, e⟩ := List.mem_filterMap.1 hk
    split at e
    · cases e
      have := h.fl f hf
      exact okKd_kOf this.1 this.2.1 this.2.2
    · exact absurd e (by simp)
  · have : ∀ (so : List (ByteArray × Bool)) (i : Nat), i + so.length ≤ ts.sorts.length → ∀ k, k ∈ meanS i so nm → okKd ts.sorts.length k := by
      intro so
      induction so with
      | nil => intro i _ k hk; simp [meanS] at hk
      | cons s so ih =>
        intro i hi k hk
        simp only [List.length_cons] at hi
        have h1 : okKd ts.sorts.length (kOf [(i : Int)]) := okKd_kOf (by simp) (by simp) (fun x hx => by simp at hx; subst hx; omega)
        have h2 : okKd ts.sorts.length (kOf [(i : Int), (i : Int)]) := okKd_kOf (by simp) (by simp) (fun x hx => by simp at hx; subst hx; omega)
        simp only [meanS, meanS1, List.mem_append] at hk
        rcases hk with (hk | hk | hk) | hk
        · split at hk <;> simp at hk; subst hk; exact h1
        · split at hk <;> simp at hk; subst hk; exact h1
        · split at hk <;> simp at hk; subst hk; exact h2
        · exact ih (i + 1) (by omega) k hk
    exact this ts.sorts 0 (by omega) k hk
theorem exam_eq (c : Ck) (s : Scp) (inn : Bool) (n : Nd) : exam c s inn n =
    if (inn && timeOfL c n.op n.name) = true then .error (46, n.pos)
    else if n.op = 1 then nameK c s n.name n.pos
    else if n.op = 47 then
      if (c.ts.preds.any fun p => decide (p.name = n.name)) = true then
        match calleeL c n.name with
        | none => .error (45, n.pos)
        | some p => match c.ts.preds[p]? with
          | none => .error (45, n.pos)
          | some pd => if pd.params.length = n.kids.length then examA c s n.pos pd.params n.kids else .error (45, n.pos)
      else .error (40, n.pos)
    else if n.op = 15 ∨ n.op = 45 ∨ n.op = 46 then examB c s (inn || decide (n.op = 15)) n.name n.pos n.kids
    else match examL c s (inn || decide (n.op = 12) || decide (n.op = 13)) n.kids with
      | .error e => .error e
      | .ok l => applyK c.ts.sorts.length n.op n.n n.pos l := by
  obtain ⟨op, nm, k, ks, pos⟩ := n
  simp only [exam, Nd.op, Nd.name, Nd.n, Nd.kids, Nd.pos]
  rfl
theorem examL_ok {c : Ck} {s : Scp} {inn : Bool} : ∀ {ks : List Nd} {l : List (Option Kd)}, examL c s inn ks = .ok l → l.length = ks.length ∧ ∀ (i : Nat) k a, ks[i]? = some k → l[i]? = some a → exam c s inn k = .ok a
  | [], l, h => by simp only [examL, Except.ok.injEq] at h; subst h; simp
  | k :: ks, l, h => by
    simp only [examL] at h
    cases hk : exam c s inn k with
    | error e => rw [hk] at h; exact absurd h (by simp)
    | ok a =>
      rw [hk] at h
      simp only at h
      cases hl : examL c s inn ks with
      | error e => rw [hl] at h; exact absurd h (by simp)
      | ok r =>
        rw [hl] at h
        simp only [Except.ok.injEq] at h
        subst h
        obtain ⟨h1, h2⟩ := examL_ok hl
        refine ⟨by simp [h1], fun i k' a' hi ha => ?_⟩
        cases i with
        | zero => simp at hi ha; subst hi; subst ha; exact hk
        | succ i => exact h2 i k' a' (by simpa using hi) (by simpa using ha)
theorem kd_101 {op : Int} (h : 1 ≤ op ∧ op ≤ 15) : kd op = 101 := by unfold kd; rw [if_pos h]
theorem of_kd {op : Int} (h : kd op = 101) : 1 ≤ op ∧ op ≤ 15 := by
  unfold kd at h
  split at h
  · assumption
  · split at h
    · exact absurd h (by omega)
    · split at h <;> exact absurd h (by omega)
theorem apOk_of {ns : Nat} (hns : ns ≤ 4) {n : Nd} (hw : WfN n) {l : List (Option Kd)} (hl : l.length = n.kids.length) (h : ∀ (i : Nat) k a, n.kids[i]? = some k → l[i]? = some a → kd k.op = 101 → ∃ q, a = some q ∧ okKd ns q) :
    ApOk n.op l ∧ (n.op = 5 → ∃ a, l = [some a] ∧ okKd ns a) ∧ (n.op = 11 ∨ n.op = 12 ∨ n.op = 13 → ∃ a, l = [some a] ∧ okKd ns a) ∧ (n.op = 6 ∨ n.op = 14 ∨ n.op = 7 ∨ n.op = 8 ∨ n.op = 32 ∨ n.op = 33 ∨ n.op = 9 ∨ n.op = 10 → ∃ a b, l = [some a, some b] ∧ okKd ns a ∧ okKd ns b) := by
  have hs := hw.shape
  have h1 : n.op = 5 ∨ n.op = 11 ∨ n.op = 12 ∨ n.op = 13 → ∃ a, l = [some a] ∧ okKd ns a := by
    intro ho
    have e : shp n.op n.kids.length = some [101] := by
      unfold shp
      rw [if_neg (by omega), if_pos (by omega)]
    rw [e] at hs
    simp only [Option.some.injEq] at hs
    match hk : n.kids, hs with
    | [k], hs =>
      simp at hs
      rw [hk] at hl
      match l, hl with
      | [a], _ =>
        obtain ⟨q, rfl, hq⟩ := h 0 k a (by rw [hk]; rfl) rfl hs.symm
        exact ⟨q, rfl, hq⟩
    | [], hs => simp at hs
    | _ :: _ :: _, hs => simp at hs
  have h2 : n.op = 6 ∨ n.op = 14 ∨ n.op = 7 ∨ n.op = 8 ∨ n.op = 32 ∨ n.op = 33 ∨ n.op = 9 ∨ n.op = 10 → ∃ a b, l = [some a, some b] ∧ okKd ns a ∧ okKd ns b := by
    intro ho
    have e : shp n.op n.kids.length = some [101, 101] := by
      unfold shp
      rw [if_neg (by omega), if_neg (by omega), if_pos (by omega)]
    rw [e] at hs
    simp only [Option.some.injEq] at hs
    match hk : n.kids, hs with
    | [k, k'], hs =>
      simp at hs
      rw [hk] at hl
      match l, hl with
      | [a, b], _ =>
        obtain ⟨q, rfl, hq⟩ := h 0 k a (by rw [hk]; rfl) rfl hs.1.symm
        obtain ⟨q', rfl, hq'⟩ := h 1 k' b (by rw [hk]; rfl) rfl hs.2.symm
        exact ⟨q, q', rfl, hq, hq'⟩
    | [], hs => simp at hs
    | [_], hs => simp at hs
    | _ :: _ :: _ :: _, hs => simp at hs
  refine ⟨⟨fun ho => ?_, fun ho => ?_, fun ho => ?_⟩, fun ho => h1 (.inl ho), fun ho => h1 (.inr ho), h2⟩
  · obtain ⟨a, rfl, _⟩ := h1 (.inl ho); exact ⟨_, rfl⟩
  · obtain ⟨a, rfl, ha⟩ := h1 (.inr ho); exact ⟨a, rfl, ha.okK, ha.ok2 hns⟩
  · obtain ⟨a, b, rfl, ha, hb⟩ := h2 ho; exact ⟨a, b, rfl, ha.okK, hb.okK⟩
theorem exam_ok {c : Ck} (hc : okCk c) : ∀ (m : Nat) (n : Nd) (s : Scp) (inn : Bool) (ko : Option Kd), szN n ≤ m → WfN n → ScOk c.ts.sorts.length s → exam c s inn n = .ok ko → kd n.op = 101 → ∃ k, ko = some k ∧ okKd c.ts.sorts.length k
  | 0, n, _, _, _, hm, _, _, _, _ => by obtain ⟨op, nm, i, ks, p⟩ := n; simp [szN] at hm
  | m + 1, n, s, inn, ko, hm, hw, hs, h, hop => by
    have ho := of_kd hop
    have hns := hc.ts.ns
    rw [exam_eq] at h
    split at h
    · exact absurd h (by simp)
    split at h
    · unfold nameK at h
      split at h
      · rename_i v r hf
        simp only [Except.ok.injEq] at h
        exact ⟨v.2, h.symm, (hs v (findS_mem hf)).1⟩
      · split at h
        · exact absurd h (by simp)
        · rename_i k hk
          simp only [Except.ok.injEq] at h
          exact ⟨k, h.symm, okKd_means hc.ts (by rw [hk]; simp)⟩
        · exact absurd h (by simp)
    split at h
    · omega
    split at h
    · rename_i hb
      have hsh := hw.shape
      have e : shp n.op n.kids.length = some [101, 102] := by
        unfold shp
        rw [if_neg (by omega), if_neg (by omega), if_neg (by omega), if_pos (by omega)]
      rw [e] at hsh
      simp only [Option.some.injEq] at hsh
      match hk : n.kids, hsh with
      | [a, f], hsh =>
        simp at hsh
        rw [hk] at h
        simp only [examB] at h
        cases hq : exam c s (inn || decide (n.op = 15)) a with
        | error e => rw [hq] at h; exact absurd h (by simp)
        | ok q =>
          obtain ⟨k, rfl, hkk⟩ := exam_ok hc m a s _ q (by have := kid_lt (n := n) (k := a) (by rw [hk]; simp); omega) (hw.kid (by rw [hk]; simp)) hs hq hsh.1.symm
          rw [hq] at h
          simp only at h
          split at h
          · split at h
            · exact absurd h (by simp)
            · simp only [Except.ok.injEq] at h
              exact ⟨k, h.symm, hkk⟩
          · exact absurd h (by simp)
      | [], hsh => simp at hsh
      | [_], hsh => simp at hsh
      | _ :: _ :: _ :: _, hsh => simp at hsh
    · rename_i n1 n47 nb
      cases hl : examL c s (inn || decide (n.op = 12) || decide (n.op = 13)) n.kids with
      | error e => rw [hl] at h; exact absurd h (by simp)
      | ok l =>
        rw [hl] at h
        simp only at h
        obtain ⟨hlen, hex⟩ := examL_ok hl
        obtain ⟨_, a5, a1, a2⟩ := apOk_of (ns := c.ts.sorts.length) hns hw hlen (fun i k a hi ha hkd => exam_ok hc m k s _ a (by have := kid_lt (n := n) (List.mem_of_getElem? hi); omega) (hw.kid (List.mem_of_getElem? hi)) hs (hex i k a hi ha) hkd)
        unfold applyK at h
        split at h
        · rename_i h2
          simp only [Except.ok.injEq] at h
          exact ⟨_, h.symm, okKd_none (hw.num h2)⟩
        split at h
        · simp only [Except.ok.injEq] at h
          exact ⟨_, h.symm, okKd_diag _ 1 (by omega) (by omega)⟩
        split at h
        · simp only [Except.ok.injEq] at h
          exact ⟨_, h.symm, okKd_diag _ 2 (by omega) (by omega)⟩
        have hcase : n.op = 5 ∨ (n.op = 11 ∨ n.op = 12 ∨ n.op = 13) ∨ (n.op = 6 ∨ n.op = 14 ∨ n.op = 7 ∨ n.op = 8 ∨ n.op = 32 ∨ n.op = 33 ∨ n.op = 9 ∨ n.op = 10) := by omega
        rcases hcase with h5 | h1 | h2
        · obtain ⟨a, rfl, ha⟩ := a5 h5
          simp only [if_pos h5, Except.ok.injEq] at h
          exact ⟨a, h.symm, ha⟩
        · obtain ⟨a, rfl, ha⟩ := a1 h1
          have n5 : n.op ≠ 5 := by omega
          simp only [if_neg n5, if_pos h1] at h
          split at h
          · simp only [Except.ok.injEq] at h
            exact ⟨_, h.symm, okKd_bin ha (by assumption)⟩
          · exact absurd h (by simp)
        · obtain ⟨a, b, rfl, ha, hb⟩ := a2 h2
          simp only at h
          split at h
          · split at h
            · simp only [Except.ok.injEq] at h
              exact ⟨_, h.symm, okKd_alike ha hb (by assumption)⟩
            · exact absurd h (by simp)
          · split at h
            · split at h
              · rename_i hj
                simp only [Except.ok.injEq] at h
                exact ⟨_, h.symm, okKd_join ha hb hj.1 hj.2⟩
              · exact absurd h (by simp)
            · split at h
              · split at h
                · simp only [Except.ok.injEq] at h
                  exact ⟨_, h.symm, okKd_prod ha hb (by assumption)⟩
                · exact absurd h (by simp)
              · omega
end Go.Proofs.YtcfopdccdeeleaaGreatDoor.P2


namespace Go.Proofs.YtcfopdccdeeleaaGreatDoor.Y13
open Go Go.Ev Go.Proofs Y1 Y2 Y3 Y4 P1 YM Y5 Y6 Y7 Y8 YS YF Y9 Y10 Y11 Y12 P2
theorem call1U (p : Pd) (n : Nd) : SoundP Tryz.prog 129 [.agg (cPd p), .ip (cNd n)] (aB (decide (p.name = n.name))) := by
  refine SoundP.of_sound (Sound.of_awp Tryz.call129 Tryz.func129 rfl (Nat.le_of_ble_eq_true (by kernel_rfl)) (by kernel_rfl) (pl := {}) ?_)
  simp [go_sem, toL_eq]
  exact .hf _ (HF.sc _)
def callK (c : Ck) (s : Scp) (n : Nd) : Res :=
  if (c.ts.preds.any fun p => decide (p.name = n.name)) = true then
    match calleeL c n.name with
    | none => .error (45, n.pos)
    | some p => match c.ts.preds[p]? with
      | none => .error (45, n.pos)
      | some pd => if pd.params.length = n.kids.length then examA c s n.pos pd.params n.kids else .error (45, n.pos)
  else .error (40, n.pos)
def endC : Res → AEnd
  | .ok _ => .ret (.tup [])
  | .error e => .pan (stopV e.1 e.2)
@[go_sem] theorem endC_ok (k : Option Kd) : endC (.ok k) = .ret (.tup []) := rfl
@[go_sem] theorem endC_error (e : Dg) : endC (.error e) = .pan (stopV e.1 e.2) := rfl
theorem hf_ipN (n : Nd) : HF (.ip (cNd n)) := HF.ip (hf_cNd n)
theorem hf_t0 : HF (.tup []) := HF.tup (by simp)
theorem callU (c : Ck) (hc : okCk c) (s : Scp) (hs : ScOk c.ts.sorts.length s) (n : Nd) (hw : WfN n) (hop : n.op = 47)
    (ih : ∀ k, k ∈ n.kids → SoundX Tryz.prog 42 [eCk c, aSc s, eNd k, aB true] (endK (exam c s true k))) :
    SoundX Tryz.prog 86 [eCk c, aSc s, eNd n] (endC (callK c s n)) := by
  refine SoundG.of_sound ?_
  refine Sound.of_awp Tryz.call86 Tryz.func86 rfl (Nat.le_of_ble_eq_true (by kernel_rfl)) (by kernel_rfl) (pl := {}) ?_
  have hnp := hc.ts.np
  have hkl := hw.len
  have hany := hasPd false c.ts.preds (.fn (.func 129) [] [.ip (cNd n)]) (fun p => decide (p.name = n.name)) ⟨_, _, _, rfl, fun p hp => ⟨_, call1U p n, .cons (.hf (HF.agg (hf_cPd p))) (.cons (.hf (hf_ipN n)) .nil)⟩⟩ (HF.fn (by simp) (fun x hx => by simp at hx; subst hx; exact hf_ipN n)) (hf_lPd _) (by omega)
  have hwk : WKs [lPd c.ts.preds, .fn (.func 129) [] [.ip (cNd n)]] [lPd c.ts.preds, .fn (.func 129) [] [.ip (cNd n)]] := .cons (.hf (hf_lPd _)) (.cons (.hf (HF.fn (by simp) (fun x hx => by simp at hx; subst hx; exact hf_ipN n))) .nil)
  generalize hR : callK c s n = R
  unfold callK at hR
  simp [go_sem]
  cases hA : c.ts.preds.any (fun p => decide (p.name = n.name)) with
  | false =>
    rw [hA] at hany hR
    subst hR
    refine DrawGo.tail 8 (by kernel_rfl) ?_
    simp [go_sem]
    refine CallStep.pure hany hwk ?_
    simp [go_sem]
    refine CallStep.pans (needU false 40 n) (wkR n false 40) ?_
    simp [go_sem]
    exact .hf _ (hf_stopV _ _)
  | true =>
    rw [hA] at hany hR
    rw [if_pos rfl] at hR
    refine DrawGo.intro (by kernel_rfl) ?_
    simp [go_sem]
    refine CallStep.pure hany hwk ?_
    simp [go_sem]
    refine CallStep.pure (needU true 40 n).toP (wkR n true 40) ?_
    simp [go_sem]
    refine CallStep.pure (calleeU c hc n.name) (.cons (.hf (hf_eCk c)) (.cons (.hf (HF.sc _)) .nil)) ?_
    cases hcal : calleeL c n.name with
    | none =>
      rw [hcal] at hR
      subst hR
      simp [go_sem]
      refine DrawGo.tail 19 (by kernel_rfl) ?_
      simp [go_sem]
      refine CallStep.pans (needU false 45 n) (wkR n false 45) ?_
      simp [go_sem]
      exact .hf _ (hf_stopV _ _)
    | some p =>
      obtain ⟨hp1, hp2⟩ := calleeL_lt hc hcal
      have hpd := hc.ts.pl _ (List.getElem_mem hp2)
      rw [hcal] at hR
      simp only [List.getElem?_eq_getElem hp2] at hR
      simp [go_sem]
      generalize hpp : c.ts.preds[p] = pd at *
      by_cases hpl : pd.params.length = n.kids.length
      · rw [if_pos hpl] at hR
        refine DrawGo.intro (by kernel_rfl) ?_
        simp [go_sem, hp2, hpp, hpl]
        refine CallStep.pure (needU true 45 n).toP (wkR n true 45) ?_
        simp [go_sem, hp2, hpp, hpl]
        have hsh := hw.shape
        have hkd : ∀ (k : Nat) (h : k < n.kids.length), kd n.kids[k].op = 101 := by
          have e : shp n.op n.kids.length = some (List.replicate (min n.kids.length 401) 101) := by
            unfold shp
            rw [if_neg (by omega), if_neg (by omega), if_neg (by omega), if_neg (by omega), if_neg (by omega), if_neg (by omega), if_neg (by omega), if_pos hop]
          rw [e] at hsh
          simp only [Option.some.injEq] at hsh
          intro k h
          have h2 : (n.kids.map fun k => kd k.op)[k]? = some (kd n.kids[k].op) := by rw [List.getElem?_map, List.getElem?_eq_getElem h]; rfl
          rw [← hsh, List.getElem?_replicate] at h2
          split at h2
          · simpa using h2.symm
          · exact absurd h2 (by simp)
        refine LoopGo.upK pd.params.length (fun k st => st.tm 0 = eCk c ∧ st.tm 1 = aSc s ∧ st.tm 5 = .ip (cNd n) ∧ st.tm 54 = lPm pd.params ∧ st.tm 55 = aI n.kids.length ∧ st.tm 56 = aI k ∧ examA c s n.pos (pd.params.drop k) (n.kids.drop k) = R) ?_ ?_
        · exact ⟨by simp [go_sem], by simp [go_sem], by simp [go_sem], by simp [go_sem], by simp [go_sem], by simp [go_sem], by simpa using hR⟩
        · rintro k st hk ⟨e0, e1, e5, e54, e55, e56, hE⟩
          by_cases hkl' : k = pd.params.length
          · subst hkl'
            rw [List.drop_length, hpl, List.drop_length] at hE
            simp only [examA] at hE
            subst hE
            simp [go_sem, e0, e1, e5, e54, e55, e56, hpl]
            exact .hf _ hf_t0
          · have hlt : k < pd.params.length := by omega
            have hlt2 : k < n.kids.length := by omega
            have w1 : IntKind.i64.wrap ((k : Int) + 1) = (k : Int) + 1 := wrap_i64 (by omega) (by omega)
            have hi := ih n.kids[k] (List.getElem_mem hlt2)
            rw [List.drop_eq_getElem_cons hlt, List.drop_eq_getElem_cons hlt2] at hE
            simp only [examA] at hE
            have hok := exam_ok hc (szN n.kids[k]) n.kids[k] s true
            have hkk := hkd k hlt2
            have hwk' := hw.kid (List.getElem_mem hlt2)
            simp [go_sem, e0, e1, e5, e54, e55, e56, hlt, hlt2, cNd_ones]
            cases hx : exam c s true n.kids[k] with
            | error e =>
              rw [hx] at hi hE
              subst hE
              refine CallStep.pans hi (.cons (.hf (hf_eCk c)) (.cons (.hf (hf_aSc s)) (.cons (.hf (hf_eNd _)) (.cons (.hf (HF.sc _)) .nil)))) ?_
              simp [go_sem]
              exact .hf _ (hf_stopV _ _)
            | ok ko =>
              obtain ⟨kk, rfl, hkk2⟩ := hok ko (Nat.le_refl _) hwk' hs hx hkk
              rw [hx] at hi hE
              simp only at hE
              refine CallStep.pure hi.toP (.cons (.hf (hf_eCk c)) (.cons (.hf (hf_aSc s)) (.cons (.hf (hf_eNd _)) (.cons (.hf (HF.sc _)) .nil)))) ?_
              by_cases har : kk.ar = 1
              · rw [if_pos har] at hE
                simp [go_sem, e5, har]
                refine CallStep.pure (needU true 42 n).toP (wkR n true 42) ?_
                simp [go_sem, e0, e1, e5, e54, e55, e56]
                refine LoopGo.seen kk.ts.length (fun seen st' => st'.tm 0 = eCk c ∧ st'.tm 1 = aSc s ∧ st'.tm 5 = .ip (cNd n) ∧ st'.tm 54 = lPm pd.params ∧ st'.tm 55 = aI n.kids.length ∧ st'.tm 56 = aI k ∧ st'.tm 9 = .ptr st.mu.length 0 ∧ st'.tm 76 = .ptr (st.mu.length + 2) 0 ∧
                  st'.mu[st.mu.length]? = some (.arr [aS pd.params[k].1, aI pd.params[k].2]) ∧ st'.mu[st.mu.length + 2]? = some (.it (eT kk.ts) seen) ∧ ∀ i t, i ∈ seen → kk.ts[i]? = some t → t.getD 0 0 = pd.params[k].2) ?_ ?_
                · refine ⟨by simp [go_sem, e0], by simp [go_sem, e1], by simp [go_sem, e5], by simp [go_sem, e54], by simp [go_sem, e55], by simp [go_sem, e56], by simp [go_sem], by simp [go_sem], ?_, ?_, by simp⟩
                  · simp [go_sem]
                  · simp [go_sem]
                · rintro seen st' hnd hlt' ⟨f0, f1, f5, f54, f55, f56, f9, f76, g0, g2, hall⟩
                  simp [go_sem, f0, f1, f5, f54, f55, f56, f9, f76]
                  refine ⟨st.mu.length + 2, eT kk.ts, seen, rfl, g2, fun i e hi hns => ?_, fun hdone => ?_⟩
                  · obtain ⟨x, hx2, rfl⟩ := eT_get hi
                    have hxo : okT x := hkk2.okK.len x (List.mem_of_getElem? hx2)
                    have hil : i < kk.ts.length := (List.getElem?_eq_some_iff.1 hx2).1
                    have hx3 : x.length = 3 := hxo
                    have hxl : x ∈ kk.ts := List.mem_of_getElem? hx2
                    have hlen : st.mu.length + 2 < st'.mu.length := (List.getElem?_eq_some_iff.1 g2).1
                    have hget : ∀ (c : Cell) (l : List Cell), ((st'.mu.set (st.mu.length + 2) c) ++ l)[st.mu.length]? = some (.arr [aS pd.params[k].1, aI pd.params[k].2]) := fun c l => by
                      rw [List.getElem?_append_left (by simp; omega), List.getElem?_set_ne (by omega)]; exact g0
                    obtain ⟨x0, x1, x2, rfl⟩ : ∃ x0 x1 x2, x = [x0, x1, x2] := by
                      match x, hx3 with
                      | [x0, x1, x2], _ => exact ⟨_, _, _, rfl⟩
                    have hrange : 0 ≤ x0 ∧ x0 < 128 := by
                      obtain ⟨l, el, hl, hr⟩ := hkk2.ts _ hxl
                      rw [har] at hl
                      match l, hl with
                      | [y], _ =>
                        have := hr y (by simp)
                        simp [pad] at el
                        have := hc.ts.ns
                        omega
                    have w8 : IntKind.i64.wrap x0 = x0 := wrap_i64 (by omega) (by omega)
                    by_cases hq : x0 = pd.params[k].2
                    · have w9 : IntKind.i64.wrap pd.params[k].2 = pd.params[k].2 := by rw [← hq]; exact w8
                      simp [go_sem, f0, f1, f5, f54, f55, f56, f9, f76, hi, hlen, hns, g2, hget, w8, w9, hq]
                      refine CallStep.pure (needU true 43 n).toP (wkR n true 43) ?_
                      simp [go_sem]
                      refine ⟨i, hil, hns, by simp [go_sem, f0], by simp [go_sem, f1], by simp [go_sem, f5], by simp [go_sem, f54], by simp [go_sem, f55], by simp [go_sem, f56], by simp [go_sem, f9], by simp [go_sem, f76], ?_, ?_, ?_⟩
                      · simp only [put_mu]
                        exact hget _ _
                      · simp only [put_mu]
                        rw [List.getElem?_append_left (by simpa using hlen), List.getElem?_set_self hlen]
                      · intro j t hj ht
                        rcases List.mem_append.1 hj with hj | hj
                        · exact hall j t hj ht
                        · rw [List.mem_singleton] at hj; subst hj
                          rw [hx2] at ht; cases ht
                          exact hq
                    · have hbad : argOk pd.params[k].2 kk = false := by
                        unfold argOk
                        rw [← Bool.not_eq_true, List.all_eq_true]
                        intro h
                        have := h _ hxl
                        simp at this
                        exact hq this
                      rw [hbad] at hE
                      simp only [Bool.false_eq_true, if_false] at hE
                      subst hE
                      simp [go_sem, f0, f1, f5, f54, f55, f56, f9, f76, hi, hlen, hns, g2, hget, w8, hq]
                      refine CallStep.pans (needU false 43 n) (wkR n false 43) ?_
                      simp [go_sem]
                      exact .hf _ (hf_stopV _ _)
                  · have hgood : argOk pd.params[k].2 kk = true := by
                      unfold argOk
                      rw [List.all_eq_true]
                      intro t ht
                      obtain ⟨j, hj⟩ := List.mem_iff_getElem?.1 ht
                      simpa using hall j t (hdone j (by simpa using (List.getElem?_eq_some_iff.1 hj).1)) hj
                    rw [if_pos hgood] at hE
                    simp [go_sem, f0, f1, f5, f54, f55, f56, f9, f76, hlt, w1, hlt2]
                    refine Keep.mk' ?_
                    refine ⟨by simp [go_sem, f0], by simp [go_sem, f1], by simp [go_sem, f5], by simp [go_sem, f54], by simp [go_sem, f55], by simp [go_sem], hE⟩
              · rw [if_neg har] at hE
                subst hE
                simp [go_sem, e5, har]
                refine CallStep.pans (needU false 42 n) (wkR n false 42) ?_
                simp [go_sem]
                exact .hf _ (hf_stopV _ _)
      · rw [if_neg hpl] at hR
        subst hR
        refine DrawGo.tail 19 (by kernel_rfl) ?_
        simp [go_sem, hp2, hpp, hpl]
        refine CallStep.pans (needU false 45 n) (wkR n false 45) ?_
        simp [go_sem]
        exact .hf _ (hf_stopV _ _)
theorem ownF_rdCut {lo sz : Nat} {mu : Mu} {av : AV} {xs : List (List AV)} (h : OwnF lo mu sz av xs) (w : rowsOk sz xs) (hf : ∀ r, r ∈ xs → ∀ c, c ∈ r → HF c) : Rd (cutM (fun i => decide (lo ≤ i)) mu 0) av (.lst false xs) := by
  obtain ⟨ho, hb, hl⟩ := h
  refine Own.rd (sz := sz) ?_ w hf
  rcases ho with rfl | ⟨b, rfl, hc⟩
  · exact .inl rfl
  · refine .inr ⟨b, rfl, ?_⟩
    rw [cutM_get, hc]
    simp [hb b _ _ _ rfl]
theorem callK_none {c : Ck} {s : Scp} {n : Nd} {ko : Option Kd} (h : callK c s n = .ok ko) : ko = none := by
  have hA : ∀ (ks : List Nd) (ps : List (ByteArray × Int)) (ko : Option Kd), examA c s n.pos ps ks = .ok ko → ko = none := by
    intro ks
    induction ks with
    | nil => intro ps ko h; cases ps <;> simp [examA] at h <;> exact h.symm
    | cons k ks ih =>
      intro ps ko h
      cases ps with
      | nil => simp [examA] at h; exact h.symm
      | cons p ps =>
        simp only [examA] at h
        split at h
        · exact absurd h (by simp)
        · exact absurd h (by simp)
        · split at h
          · split at h
            · exact ih _ _ h
            · exact absurd h (by simp)
          · exact absurd h (by simp)
  unfold callK at h
  split at h
  · split at h
    · exact absurd h (by simp)
    · split at h
      · exact absurd h (by simp)
      · split at h
        · exact hA _ _ _ h
        · exact absurd h (by simp)
  · exact absurd h (by simp)
theorem appKo {mu : Mu} {lo : Nat} {s : AV} {xs : List (Option Kd)} {k : Option Kd} {K : AV → Mu → Prop} (ho : OwnF lo mu 2 s (xs.map cKo)) (hl : xs.length ≤ 100000) (kk : ∀ av mu', OwnF lo mu' 2 av ((xs ++ [k]).map cKo) → (∀ i, i < lo → mu'[i]? = mu[i]?) → K av mu') :
    AppendStep Tryz.prog mu #[149, 149] s (.lst true [cKo k]) K := by
  have hrows : ∀ l : List (Option Kd), rowsWf 2 (l.map cKo) := fun l r hr => by
    obtain ⟨n, _, rfl⟩ := List.mem_map.1 hr
    exact cKo_row n
  refine AppendStep.ownF (lo := lo) (e := 82) (sz := 2) (bt := 16) (zv := .agg [aI 0, .sc (.map none)]) (xs := xs.map cKo) (ys := [cKo k]) (by simp [go_sem]) (by simp [go_sem]) (by simp [go_sem]) rfl rfl (by omega) (by omega) ho (by simp [rowsOf]) (hrows xs) (hrows [k]) (by simp; omega) ?_
  intro av mu' h h2
  exact kk av mu' (by rw [List.map_append]; exact h) h2
theorem examineU (c : Ck) (hc : okCk c) : ∀ (m : Nat) (n : Nd), szN n ≤ m → WfN n → ∀ (s : Scp), ScOk c.ts.sorts.length s → ∀ inn : Bool, SoundX Tryz.prog 42 [eCk c, aSc s, eNd n, aB inn] (endK (exam c s inn n))
  | 0, n, hm, _, _, _, _ => by obtain ⟨op, nm, i, ks, p⟩ := n; simp [szN] at hm
  | m + 1, n, hm, hw, s, hs, inn => by
    have ih : ∀ k, k ∈ n.kids → ∀ s', ScOk c.ts.sorts.length s' → ∀ inn', SoundX Tryz.prog 42 [eCk c, aSc s', eNd k, aB inn'] (endK (exam c s' inn' k)) := fun k hk s' hs' inn' =>
      examineU c hc m k (by have := kid_lt hk; omega) (hw.kid hk) s' hs' inn'
    refine SoundG.of_sound ?_
    refine Sound.of_awp Tryz.call42 Tryz.func42 rfl (Nat.le_of_ble_eq_true (by kernel_rfl)) (by kernel_rfl) (pl := {}) ?_
    generalize hE : exam c s inn n = E
    rw [exam_eq] at hE
    have htm := timeOfU c hc n
    simp [go_sem]
    by_cases hT : (inn && timeOfL c n.op n.name) = true
    · rw [if_pos hT] at hE
      subst hE
      rw [Bool.and_eq_true] at hT
      obtain ⟨rfl, hT⟩ := hT
      rw [hT] at htm
      refine DrawGo.tail 9 (by kernel_rfl) ?_
      simp [go_sem]
      refine CallStep.pure htm (.cons (.hf (hf_eCk c)) (.cons (.hf (hf_eNd n)) .nil)) ?_
      simp [go_sem]
      refine CallStep.pans (needU false 46 n) (wkR n false 46) ?_
      simp [go_sem]
      exact .hf _ (hf_stopV _ _)
    rw [if_neg hT] at hE
    have hnm := nameU c hc s n
    have hcl := fun h => callU c hc s hs n hw h (fun k hk => ih k hk s hs true)
    have hwc : WKs [eCk c, aSc s, eNd n] [eCk c, aSc s, eNd n] := .cons (.hf (hf_eCk c)) (.cons (.hf (hf_aSc s)) (.cons (.hf (hf_eNd n)) .nil))
    have hwe : ∀ (s' : Scp) (k : Nd) (b : Bool), WKs [eCk c, aSc s', eNd k, aB b] [eCk c, aSc s', eNd k, aB b] := fun s' k b => .cons (.hf (hf_eCk c)) (.cons (.hf (hf_aSc s')) (.cons (.hf (hf_eNd k)) (.cons (.hf (HF.sc _)) .nil)))
    have hbinder : n.op = 15 ∨ n.op = 45 ∨ n.op = 46 → ∃ a f, n.kids = [a, f] ∧ kd a.op = 101 := fun ho => by
      have hsh := hw.shape
      have e : shp n.op n.kids.length = some [101, 102] := by
        unfold shp
        rw [if_neg (by omega), if_neg (by omega), if_neg (by omega), if_pos (by omega)]
      rw [e] at hsh
      simp only [Option.some.injEq] at hsh
      match hk : n.kids, hsh with
      | [a, f], hsh => simp at hsh; exact ⟨a, f, rfl, hsh.1.symm⟩
      | [], hsh => simp at hsh
      | [_], hsh => simp at hsh
      | _ :: _ :: _ :: _, hsh => simp at hsh
    cases inn
    case' false =>
      refine DrawGo.intro (by kernel_rfl) ?_
      simp [go_sem]
      refine CallStep.pure (needU true 46 n).toP (wkR n true 46) ?_
      simp [go_sem]
    case' true =>
      have hT' : timeOfL c n.op n.name = false := by simpa using hT
      rw [hT'] at htm
      refine DrawGo.intro (by kernel_rfl) ?_
      simp [go_sem]
      refine CallStep.pure htm (.cons (.hf (hf_eCk c)) (.cons (.hf (hf_eNd n)) .nil)) ?_
      simp [go_sem]
      refine CallStep.pure (needU true 46 n).toP (wkR n true 46) ?_
      simp [go_sem]
    all_goals
      by_cases h1 : n.op = 1
      · rw [if_pos h1] at hE
        rw [hE] at hnm
        simp [go_sem, h1]
        cases E with
        | error e =>
          refine CallStep.pans hnm hwc ?_
          simp [go_sem]
          exact .hf _ (hf_stopV _ _)
        | ok ko =>
          refine CallStep.pure hnm.toP hwc ?_
          cases ko with
          | none => simp [go_sem]; exact .hf _ hfKn
          | some k => simp [go_sem]; exact .hf _ (hfK2 _ _)
      rw [if_neg h1] at hE
      by_cases h47 : n.op = 47
      · rw [if_pos h47] at hE
        have hE : callK c s n = E := hE
        have hcl := hcl h47
        rw [hE] at hcl
        simp [go_sem, h47]
        cases E with
        | error e =>
          refine CallStep.pans hcl hwc ?_
          simp [go_sem]
          exact .hf _ (hf_stopV _ _)
        | ok ko =>
          obtain rfl := callK_none hE
          refine CallStep.pure hcl.toP hwc ?_
          simp [go_sem]
          exact .hf _ hfKn
      rw [if_neg h47] at hE
      by_cases hb : n.op = 15 ∨ n.op = 45 ∨ n.op = 46
      · rw [if_pos hb] at hE
        obtain ⟨a, f, hkk, ha⟩ := hbinder hb
        rw [hkk] at hE
        have iha : ∀ b r, exam c s b a = r → SoundX Tryz.prog 42 [eCk c, aSc s, eNd a, aB b] (endK r) := fun b r h => h ▸ ih a (by rw [hkk]; simp) s hs b
        have ihf : ∀ s', ScOk c.ts.sorts.length s' → ∀ b r, exam c s' b f = r → SoundX Tryz.prog 42 [eCk c, aSc s', eNd f, aB b] (endK r) := fun s' hs' b r h => h ▸ ih f (by rw [hkk]; simp) s' hs' b
        have hoka := exam_ok hc (szN a) a s
        have hwa := hw.kid (k := a) (by rw [hkk]; simp)
        rcases hb with h | h | h
        all_goals
          simp [go_sem, h, hkk, cNd_ones]
          simp only [h, examB, examL] at hE
          simp at hE
          split at hE
          · rename_i e hx
            have hi := iha _ _ hx
            subst hE
            refine CallStep.pans hi (hwe _ _ _) ?_
            simp [go_sem]
            exact .hf _ (hf_stopV _ _)
          · rename_i hx
            obtain ⟨q, hq, _⟩ := hoka _ _ (Nat.le_refl _) hwa hs hx ha
            exact absurd hq (by simp)
          · rename_i k hx
            have hi := iha _ _ hx
            obtain ⟨q, hq, hqk⟩ := hoka _ _ (Nat.le_refl _) hwa hs hx ha
            simp only [Option.some.injEq] at hq
            subst hq
            refine CallStep.pure hi.toP (hwe _ _ _) ?_
            by_cases har : k.ar = 1
            · rw [if_pos har] at hE
              obtain ⟨ka, kt⟩ := k
              obtain rfl : ka = 1 := har
              simp [go_sem]
              refine CallStep.pure (needU true 42 n).toP (wkR n true 42) ?_
              simp [go_sem]
              have hs2 : ScOk c.ts.sorts.length ((n.name, ⟨1, kt⟩) :: s) := fun v hv => by
                rcases List.mem_cons.1 hv with rfl | hv
                · exact ⟨hqk, rfl⟩
                · exact hs v hv
              have hi2 := ihf _ hs2
              refine DrawGo.tail 12 (by kernel_rfl) ?_
              simp [go_sem, h, hkk, cNd_ones]
              split at hE
              · rename_i e hx2
                split at hx2
                · rename_i e' hx3
                  simp only [Except.error.injEq] at hx2
                  subst hx2
                  subst hE
                  have hi3 := hi2 _ _ hx3
                  refine CallStep.pans hi3 (hwe ((n.name, ⟨1, kt⟩) :: s) _ _) ?_
                  simp [go_sem]
                  exact .hf _ (hf_stopV _ _)
                · exact absurd hx2 (by simp)
              · rename_i l hx2
                split at hx2
                · exact absurd hx2 (by simp)
                · rename_i a' hx3
                  have hi3 := hi2 _ _ hx3
                  subst hE
                  refine CallStep.pure hi3.toP (hwe ((n.name, ⟨1, kt⟩) :: s) _ _) ?_
                  simp [go_sem]
                  exact .hf _ (hfK2 _ _)
            · rw [if_neg har] at hE
              subst hE
              simp [go_sem, har]
              refine CallStep.pans (needU false 42 n) (wkR n false 42) ?_
              simp [go_sem]
              exact .hf _ (hf_stopV _ _)
      · rw [if_neg hb] at hE
        simp only [not_or] at hb
        obtain ⟨b1, b2, b3⟩ := hb
        simp [go_sem, h1, h47, b1, b2, b3]
        have hkids := hw.len
        generalize hB : (_ || decide (n.op = 12) || decide (n.op = 13)) = B at hE
        by_cases h12 : n.op = 12
        case' pos => simp [go_sem, h12]
        case' neg =>
          by_cases h13 : n.op = 13
          case' pos => simp [go_sem, h12, h13]
          case' neg => simp [go_sem, h12, h13]
        all_goals
          refine LoopGo.upK n.kids.length (fun k st => ∃ acc : List (Option Kd), acc.length = k ∧ st.tm 0 = eCk c ∧ st.tm 1 = aSc s ∧ st.tm 3 = aB B ∧ st.tm 6 = .ip (cNd n) ∧ st.tm 8 = .ptr 0 0 ∧ st.tm 79 = lNd n.kids ∧ st.tm 80 = aI n.kids.length ∧ st.tm 81 = aI k ∧ st.mu[0]? = some (.arr [aI 0, .sc (.map none)]) ∧ OwnF 1 st.mu 2 (st.tm 10) (acc.map cKo) ∧
            examL c s B n.kids = (match examL c s B (n.kids.drop k) with | .error e => .error e | .ok l => .ok (acc ++ l))) ?_ ?_
          · refine ⟨[], rfl, by simp [go_sem], by simp [go_sem], ?_, by simp [go_sem], by simp [go_sem], by simp [go_sem], by simp [go_sem], by simp [go_sem], by simp [go_sem], ?_, ?_⟩
            · rw [← hB]; simp [go_sem, h12]; try simp [h13]
            · simp [go_sem]; exact OwnF.nil (by simp)
            · simp only [List.drop_zero, List.nil_append]
              cases examL c s B n.kids <;> rfl
          · rintro k st hk ⟨acc, hl, e0, e1, e3, e6, e8, e79, e80, e81, m0, ho, hE2⟩
            by_cases hkl' : k = n.kids.length
            · rw [hkl', List.drop_length] at hE2
              simp only [examL, List.append_nil] at hE2
              rw [hE2] at hE
              simp only at hE
              simp [go_sem, e0, e1, e3, e6, e8, e79, e80, e81, hkl']
              have hap : ApOk n.op acc := (apOk_of hc.ts.ns hw (by rw [hl, hkl']) (fun i k' a hi ha hkd => exam_ok hc (szN k') k' s B a (Nat.le_refl _) (hw.kid (List.mem_of_getElem? hi)) hs ((examL_ok hE2).2 i k' a hi ha) hkd)).1
              have hap2 := applyU c hc false n acc hap
              rw [hE] at hap2
              have hrf : ∀ r, r ∈ acc.map cKo → ∀ c, c ∈ r → HF c := fun r hr c hcc => by
                obtain ⟨q, _, rfl⟩ := List.mem_map.1 hr
                exact hf_cKo q c hcc
              have hrw : rowsOk 2 (acc.map cKo) := fun r hr => by
                obtain ⟨q, _, rfl⟩ := List.mem_map.1 hr
                exact (cKo_row q).1
              have g0 : (cutM (fun i => !decide (1 ≤ i)) st.mu 0)[0]? = some (.arr [aI 0, .sc (.map none)]) := by rw [cutM_get, m0]; simp
              refine CallStep.eff0 (Sound.freeze (args1 := [eCk c, eNd n, .lst false (acc.map cKo)]) (fun j => decide (1 ≤ j)) ⟨.inl rfl, .inl rfl, .inr (ownF_rdCut ho hrw hrf), trivial⟩ (hap2.toSound _ (.cons (.hf (hf_eCk c)) (.cons (.hf (hf_eNd n)) (.cons (.hf (HF.lst hrf)) .nil))))) ?_ ?_
              · rintro r m ⟨hv, rfl⟩
                have hv : AEnd.ret r = endK E := hv
                cases E with
                | error e => exact absurd hv (by simp [go_sem])
                | ok q =>
                  simp [go_sem] at hv
                  subst hv
                  generalize cutM (fun i => !decide (1 ≤ i)) st.mu 0 = M at g0
                  have hmz : 0 < M.length := (List.getElem?_eq_some_iff.1 g0).1
                  have hset : ∀ c, (M.set 0 c)[0]? = some c := fun c => List.getElem?_set_self hmz
                  cases q with
                  | none => simp [go_sem, e8, g0, hset]; exact .hf _ hfKn
                  | some k => simp [go_sem, e8, g0, hset]; exact .hf _ (hfK2 _ _)
              · rintro r m ⟨hv, rfl⟩
                have hv : AEnd.pan r = endK E := hv
                cases E with
                | ok q => exact absurd hv (by simp [go_sem])
                | error e =>
                  simp [go_sem] at hv
                  subst hv
                  simp [go_sem]
                  exact .hf _ (hf_stopV _ _)
            · have hlt : k < n.kids.length := by omega
              have w1 : IntKind.i64.wrap ((k : Int) + 1) = (k : Int) + 1 := wrap_i64 (by omega) (by omega)
              rw [List.drop_eq_getElem_cons hlt] at hE2
              simp only [examL] at hE2
              have hi := ih n.kids[k] (List.getElem_mem hlt) s hs B
              simp [go_sem, e0, e1, e3, e6, e8, e79, e80, e81, hlt, cNd_ones]
              cases hx : exam c s B n.kids[k] with
              | error e =>
                rw [hx] at hi hE2
                simp only at hE2
                rw [hE2] at hE
                simp only at hE
                subst hE
                refine CallStep.pans hi (hwe s n.kids[k] B) ?_
                simp [go_sem]
                exact .hf _ (hf_stopV _ _)
              | ok ko =>
                rw [hx] at hi hE2
                simp only at hE2
                refine CallStep.pure hi.toP (hwe s n.kids[k] B) ?_
                have hko := cKo_row ko
                rw [List.all_eq_true] at hko
                simp [go_sem]
                rw [if_pos hko]
                simp [go_sem]
                refine appKo (xs := acc) (k := ko) (lo := 1) ⟨own_push ho.1 _, ho.2.1, by have := ho.2.2; simp⟩ (by omega) fun av mu' ho' hm' => ?_
                simp [go_sem, e0, e1, e3, e6, e8, e79, e80, e81, w1]
                refine ⟨hlt, Keep.mk' ?_⟩
                refine ⟨acc ++ [ko], by simp [hl], by simp [go_sem, e0], by simp [go_sem, e1], by simp [go_sem, e3], by simp [go_sem, e6], by simp [go_sem, e8], by simp [go_sem, e79], by simp [go_sem, e80], by simp [go_sem], ?_, by simpa [go_sem] using ho', ?_⟩
                · simp only [put_mu]
                  rw [hm' 0 (by omega), List.getElem?_append_left (by have := ho.2.2; omega)]
                  exact m0
                · rw [hE2]
                  cases examL c s B (n.kids.drop (k + 1)) with
                  | error e => rfl
                  | ok l => simp
end Go.Proofs.YtcfopdccdeeleaaGreatDoor.Y13

namespace Go.Proofs.YtcfopdccdeeleaaGreatDoor.Y14
open Go Go.Ev Go.Proofs Go.Proofs.YtcfopdccdeeleaaGreatDoor YM YS YF P1 P2 Y1 Y2 Y3 Y4 Y5 Y6 Y7 Y8 Y9 Y10 Y11 Y12 Y13
structure okEnv (ns : Nat) (env : List (ByteArray × Int)) : Prop where
  len : env.length ≤ 1000000
  r : ∀ p, p ∈ env → 0 ≤ p.2 ∧ p.2 < ns
theorem scOk_bind {ns : Nat} {env : List (ByteArray × Int)} (h : okEnv ns env) : ScOk ns (bindL env) := by
  have : ∀ (l : List (ByteArray × Int)) (s : Scp), (∀ p, p ∈ l → 0 ≤ p.2 ∧ p.2 < (ns : Int)) → ScOk ns s → ScOk ns (l.foldl (fun s p => (p.1, kOf [p.2]) :: s) s) := by
    intro l
    induction l with
    | nil => intro s _ hs; exact hs
    | cons a l ih =>
      intro s hl hs
      refine ih _ (fun p hp => hl p (List.mem_cons_of_mem _ hp)) fun v hv => ?_
      rcases List.mem_cons.1 hv with rfl | hv
      · exact ⟨okKd_kOf (by simp) (by simp) (fun x hx => by rw [List.mem_singleton] at hx; subst hx; exact hl a (List.mem_cons_self ..)), rfl⟩
      · exact hs v hv
  exact this env [] h.r fun v hv => absurd hv List.not_mem_nil
theorem formula1 (c : Ck) (hc : okCk c) (n : Nd) (hw : WfN n) (env : List (ByteArray × Int)) (he : okEnv c.ts.sorts.length env) :
    SoundX Tryz.prog 108 [.ip (cNd n), .ip [eCk c], .ip [lPm env]] (if 30 ≤ n.op then (match exam c (bindL env) false n with | .ok _ => .ret (.tup []) | .error e => .pan (stopV e.1 e.2)) else .pan (stopV 43 n.pos)) := by
  refine SoundG.of_sound ?_
  refine Sound.of_awp Tryz.call108 Tryz.func108 rfl (Nat.le_of_ble_eq_true (by kernel_rfl)) (by kernel_rfl) (pl := {}) ?_
  have hx := examineU c hc (szN n) n (Nat.le_refl _) hw (bindL env) (scOk_bind he) false
  have hwe : WKs [eCk c, aSc (bindL env), eNd n, aB false] [eCk c, aSc (bindL env), eNd n, aB false] := .cons (.hf (hf_eCk c)) (.cons (.hf (hf_aSc _)) (.cons (.hf (hf_eNd n)) (.cons (.hf (HF.sc _)) .nil)))
  by_cases h : 30 ≤ n.op
  · rw [if_pos h]
    simp [go_sem, h]
    refine CallStep.pure (needU true 43 n).toP (wkR n true 43) ?_
    simp [go_sem]
    refine DrawGo.tail 4 (by kernel_rfl) ?_
    simp [go_sem]
    refine CallStep.pure (bindU _ hc.ts.ns env he.len he.r) (.cons (.hf (hf_lPm env)) .nil) ?_
    simp [go_sem]
    cases hE : exam c (bindL env) false n with
    | error e =>
      rw [hE] at hx
      refine CallStep.pans hx hwe ?_
      simp [go_sem]
      exact .hf _ (hf_stopV _ _)
    | ok k =>
      rw [hE] at hx
      refine CallStep.pure hx.toP hwe ?_
      simp [go_sem]
      exact .hf _ (HF.tup (by simp))
  · rw [if_neg h]
    simp [go_sem, h]
    refine CallStep.pans (needU false 43 n) (wkR n false 43) ?_
    simp [go_sem]
    exact .hf _ (hf_stopV _ _)
theorem formulaU (c : Ck) (hc : okCk c) (n : Nd) (hw : WfN n) (env : List (ByteArray × Int)) (he : okEnv c.ts.sorts.length env) : SoundP Tryz.prog 61 [eCk c, lPm env, eNd n] (.agg [aI (formK c env n).1, aI (formK c env n).2]) := by
  refine SoundX.toP ?_
  refine SoundG.of_sound ?_
  refine Sound.of_awp Tryz.call61 Tryz.func61 rfl (Nat.le_of_ble_eq_true (by kernel_rfl)) (by kernel_rfl) (pl := {}) ?_
  simp [go_sem]
  have hcap : WKs [.ip (cNd n), .ip [eCk c], .ip [lPm env]] [.ip (cNd n), .ip [eCk c], .ip [lPm env]] := .cons (.hf (HF.ip (hf_cNd n))) (.cons (.hf (HF.ip (by simp; exact hf_eCk c))) (.cons (.hf (HF.ip (by simp; exact hf_lPm env))) .nil))
  have h1 := (formula1 c hc n hw env he).toSound ([.arr [aI 0, aI 0]] ++ [.dead]) hcap
  refine CallStep.eff0 (caughtU (mu := [.arr [aI 0, aI 0]]) h1 ?_) ?_ ?_
  · rintro v m ⟨hv, _⟩
    have hv : AEnd.pan v = _ := hv
    split at hv
    · split at hv
      · exact absurd hv (by simp)
      · cases hv; exact ⟨_, _, rfl⟩
    · cases hv; exact ⟨_, _, rfl⟩
  · rintro r m ⟨m', x, ⟨l, rfl⟩, ⟨r', ⟨hv, rfl⟩, hr⟩ | ⟨er, p, ⟨hv, rfl⟩, hr⟩⟩
    · have hv : AEnd.ret r' = _ := hv
      cases hr
      have hf : formK c env n = (0, 0) := by
        unfold formK dgOf
        split at hv
        · rename_i h
          rw [if_pos h]
          split at hv
          · rename_i h2; first | (rw [h2]; done) | rfl
          · cases hv
        · cases hv
      rw [hf]
      simp [go_sem]
      exact .hf _ (HF.agg fun c hc => by simp at hc; rcases hc with rfl | rfl <;> exact HF.sc _)
    · have hv : AEnd.pan (stopV er p) = _ := hv
      cases hr
      have hf : formK c env n = (er, p) := by
        unfold formK dgOf
        split at hv
        · rename_i h
          rw [if_pos h]
          split at hv
          · cases hv
          · rename_i e h2; (try rw [h2]); cases hv; rfl
        · rename_i h
          rw [if_neg h]
          cases hv; rfl
      rw [hf]
      simp [go_sem]
      exact .hf _ (HF.agg fun c hc => by simp at hc; rcases hc with rfl | rfl <;> exact HF.sc _)
  · rintro r m ⟨m', x, ⟨l, rfl⟩, ⟨r', ⟨hv, rfl⟩, hr⟩ | ⟨er, p, ⟨hv, rfl⟩, hr⟩⟩ <;> cases hr
theorem small_of {p : Pd} (h : WfN p.body) : Small p.body := h.small
theorem checkFormulaU (ts : TS) (h : okTS ts) (hp : ∀ p, p ∈ ts.preds → WfN p.body) (n : Nd) (hw : WfN n) (env : List (ByteArray × Int)) (he : okEnv ts.sorts.length env) : SoundP Tryz.prog 20 [eTS ts, lPm env, eNd n] (.agg [aI (checkF ts env n).1, aI (checkF ts env n).2]) := by
  refine SoundP.of_sound (Sound.of_awp Tryz.call20 Tryz.func20 rfl (Nat.le_of_ble_eq_true (by kernel_rfl)) (by kernel_rfl) (pl := {}) ?_)
  simp [go_sem]
  refine DrawGo.intro (by kernel_rfl) ?_
  simp [go_sem]
  refine CallStep.pure (newCheckerU ts h (fun p hq => (hp p hq).small) _ (Nat.le_refl _)) (.cons (.hf (hf_eTS ts)) (.cons (.hf (HF.sc _)) .nil)) ?_
  simp [go_sem]
  refine CallStep.pure (formulaU _ (okCk_mk h (Nat.le_refl _)) n hw env he) (.cons (.hf (hf_eCk _)) (.cons (.hf (hf_lPm env)) (.cons (.hf (hf_eNd n)) .nil))) ?_
  simp [go_sem]
  exact .hf _ (HF.agg fun c hc => by simp at hc; rcases hc with rfl | rfl <;> exact HF.sc _)
end Go.Proofs.YtcfopdccdeeleaaGreatDoor.Y14


namespace Go.Proofs.YtcfopdccdeeleaaGreatDoor.Y15
open Go Go.Ev Go.Proofs Go.Proofs.YtcfopdccdeeleaaGreatDoor YM YS YF P1 P2 Y1 Y2 Y3 Y4 Y5 Y6 Y7 Y8 Y9 Y10 Y11 Y12 Y13 Y14
def repL {α : Type} (eqv : α → α → Bool) (l : List α) : List Bool := (List.range l.length).map fun i => match l[i]? with | some x => (l.take i).any fun y => eqv x y | none => false
theorem repL_len {α : Type} (eqv : α → α → Bool) (l : List α) : (repL eqv l).length = l.length := by simp [repL]
theorem repL_get {α : Type} (eqv : α → α → Bool) (l : List α) {i : Nat} (h : i < l.length) : (repL eqv l)[i]? = some ((l.take i).any fun y => eqv l[i] y) := by
  simp [repL, h]
abbrev lB (l : List Bool) : AV := .lst false (l.map fun b => [aB b])
theorem rd_bools {xs : List Bool} {n : Nat} (hn : xs.length = n) {c : List AV} {rest : Mu} (hc : c = (xs.take n).map aB) : Rd (.arr c :: rest) (.sl 0 1 0 n) (lB xs) := by
  subst hc
  refine .sl 0 1 0 n _ _ rfl (by simp [hn]) (by simp [hn]) (fun r hr => ?_) fun k x y hx hy => ?_
  · obtain ⟨b, _, rfl⟩ := List.mem_map.1 hr; rfl
  · have e : (xs.map fun b => [aB b]).flatten = xs.map aB := by
      clear hx hy hn
      induction xs with
      | nil => rfl
      | cons a l ih => simp [ih]
    rw [e] at hy
    rw [Nat.zero_add, List.take_of_length_le (by omega)] at hx
    rw [hx] at hy
    cases hy
    obtain ⟨b, _, rfl⟩ := List.mem_map.1 (List.mem_of_getElem? hx)
    exact .hf _ (HF.sc _)
theorem bools_set {xs : List Bool} {n k : Nat} (hn : xs.length = n) (hk : k < n) {b : Bool} (hb : xs[k]? = some b) : ((xs.take k).map aB ++ List.replicate (n - k) (aB false)).set k (aB b) = (xs.take (k + 1)).map aB ++ List.replicate (n - (k + 1)) (aB false) := by
  apply List.ext_getElem?
  intro i
  rw [List.getElem?_set]
  by_cases h : k = i
  · subst h
    rw [if_pos rfl, if_pos (by simp; omega), List.getElem?_append_left (by simp; omega), List.getElem?_map, List.getElem?_take, if_pos (by omega), hb]
    rfl
  · rw [if_neg h]
    by_cases h1 : i < k
    · rw [List.getElem?_append_left (by simp; omega), List.getElem?_append_left (by simp; omega), List.getElem?_map, List.getElem?_map, List.getElem?_take, List.getElem?_take, if_pos (by omega), if_pos (by omega)]
    · rw [List.getElem?_append_right (by simp; omega), List.getElem?_append_right (by simp; omega), List.getElem?_replicate, List.getElem?_replicate]
      simp only [List.length_map, List.length_take]
      by_cases h2 : i < n
      · rw [if_pos (by omega), if_pos (by omega)]
      · rw [if_neg (by omega), if_neg (by omega)]
theorem hf_fnc (g : FuncId) : HF (.ip [.fn (.func g) [] []]) := HF.ip fun c hc => by
  rw [List.mem_singleton] at hc; subst hc
  exact HF.fn (fun c hc => by simp at hc) (fun c hc => by simp at hc)
theorem eq3U (x y : ByteArray × Bool) : SoundP Tryz.prog 53 [.agg (cSort x), .agg (cSort y)] (aB (decide (x.1 = y.1))) := by
  refine SoundP.of_sound (Sound.of_awp Tryz.call53 Tryz.func53 rfl (Nat.le_of_ble_eq_true (by kernel_rfl)) (by kernel_rfl) (pl := {}) ?_)
  obtain ⟨a, b⟩ := x
  obtain ⟨c, d⟩ := y
  by_cases h : a = c
  · subst h
    simp [go_sem]
    exact .hf _ (HF.sc _)
  · simp [go_sem, h, str_ne h]
    exact .hf _ (HF.sc _)
@[go_sem] theorem put_cFa (a b c d e f : AV) (s : AV) (n : Nd) : putCells [a, b, c, d, e, f] 0 (s :: cNd n) = s :: cNd n := by
  rw [cNd_eq]; simp [putCells]
theorem rep1SoU (g : FuncId) (eqv : ByteArray × Bool → ByteArray × Bool → Bool) (x y : ByteArray × Bool) (hg : SoundP Tryz.prog g [.agg (cSort x), .agg (cSort y)] (aB (eqv x y))) : SoundP Tryz.prog 101 [.agg (cSort y), .ip [.fn (.func g) [] []], .ip (cSort x)] (aB (eqv x y)) := by
  refine SoundP.of_sound (Sound.of_awp Tryz.call101 Tryz.func101 rfl (Nat.le_of_ble_eq_true (by kernel_rfl)) (by kernel_rfl) (pl := {}) ?_)
  simp [go_sem]
  refine CallStep.pure hg (.cons (.hf (HF.agg (hf_cSo x))) (.cons (.hf (HF.agg (hf_cSo y))) .nil)) ?_
  simp [go_sem]
  exact .hf _ (HF.sc _)
theorem repSoU (g : FuncId) (eqv : ByteArray × Bool → ByteArray × Bool → Bool) (l : List (ByteArray × Bool)) (hg : ∀ x y, x ∈ l → y ∈ l → SoundP Tryz.prog g [.agg (cSort x), .agg (cSort y)] (aB (eqv x y))) (hl : l.length ≤ 1000) : SoundP Tryz.prog 52 [lSo l, .fn (.func g) [] []] (lB (repL eqv l)) := by
  refine SoundP.of_sound (Sound.of_awp Tryz.call52 Tryz.func52 rfl (Nat.le_of_ble_eq_true (by kernel_rfl)) (by kernel_rfl) (pl := {}) ?_)
  have hl2 : (l.length : Int) ≤ 4294967296 := by omega
  simp [go_sem, hl2]
  refine LoopGo.upK l.length (fun k st => ∃ rest, st.tm 0 = lSo l ∧ st.tm 3 = .ip [.fn (.func g) [] []] ∧ st.tm 5 = .sl 0 1 0 l.length ∧ st.tm 11 = lSo l ∧ st.tm 12 = aI l.length ∧ st.tm 13 = aI k ∧ st.mu = .arr (((repL eqv l).take k).map aB ++ List.replicate (l.length - k) (aB false)) :: rest) ?_ ?_
  · exact ⟨[], by simp [go_sem], by simp [go_sem], by simp [go_sem], by simp [go_sem], by simp [go_sem], by simp [go_sem], by simp [go_sem]⟩
  · rintro k st hk ⟨rest, e0, e3, e5, e11, e12, e13, hm⟩
    have hrl := repL_len eqv l
    by_cases hkl : k = l.length
    · subst hkl
      simp [go_sem, e0, e3, e5, e11, e12, e13, hm]
      exact rd_bools hrl List.map_take.symm
    · have hlt : k < l.length := by omega
      have w1 : IntKind.i64.wrap ((k : Int) + 1) = (k : Int) + 1 := wrap_i64 (by omega) (by omega)
      have hsz : rowsOk 2 (l.map cSort) := fun r hr => by
        obtain ⟨q, _, rfl⟩ := List.mem_map.1 hr
        exact (cSort_row q).1
      have hcc : (cSort l[k]).length = 2 := (cSort_row _).1
      simp [go_sem, e0, e3, e5, e11, e12, e13, hm, hlt]
      refine ⟨⟨_, _, ⟨rfl, rfl⟩, hsz⟩, ?_⟩
      rw [if_pos (by omega)]
      simp [go_sem, e3]
      have hF : FnOkP Tryz.prog (.fn (.func 101) [] [.ip [.fn (.func g) [] []], .ip (cSort l[k])]) (l.take k) (fun x => .agg (cSort x)) (eqv l[k]) :=
        ⟨_, _, _, rfl, fun y hy => ⟨_, rep1SoU g eqv l[k] y (hg l[k] y (List.getElem_mem hlt) (List.mem_of_mem_take hy)), .cons (.hf (HF.agg (hf_cSo y))) (.cons (.hf (hf_fnc g)) (.cons (.hf (HF.ip (hf_cSo _))) .nil))⟩⟩
      have hhF : HF (.fn (.func 101) [] [.ip [.fn (.func g) [] []], .ip (cSort l[k])]) := HF.fn (fun c hc => by simp at hc) fun c hc => by
        simp only [List.mem_cons, List.not_mem_nil, or_false] at hc
        rcases hc with rfl | rfl
        · exact hf_fnc g
        · exact HF.ip (hf_cSo _)
      have hl3 := hf_lSo (l.take k)
      refine CallStep.eff0 (Sound.freeze (args1 := [.lst false ((l.take k).map cSort), .fn (.func 101) [] [.ip [.fn (.func g) [] []], .ip (cSort l[k])]]) (fun j => decide (j = rest.length + 1)) ⟨.inl (by simp), .inr ?_, trivial⟩ ((hasSo false (l.take k) _ _ hF hhF hl3 (by simp; omega)).toSound _ (.cons (.hf hl3) (.cons (.hf hhF) .nil)))) ?_ ?_
      · refine .fn _ _ _ _ _ rfl rfl (fun k x y hx => by simp at hx) fun j x y hx hy => ?_
        match j, hx, hy with
        | 0, hx, hy =>
          simp at hx hy; subst hx; subst hy
          exact .hf _ (hf_fnc g)
        | 1, hx, hy =>
          simp at hx hy; subst hx; subst hy
          exact .ptr _ 0 (cSort l[k]) _ (by rw [cutM_get]; simp) (by simp) fun i x y hx hy => by
            rw [Nat.zero_add] at hx
            rw [hx] at hy; cases hy
            exact .hf _ (hf_cSo _ _ (List.mem_of_getElem? hx))
        | j + 2, hx, hy => simp at hx
      · rintro r m ⟨e, rfl⟩
        cases e
        have hAs := bools_set hrl hlt (repL_get eqv l hlt)
        simp only [List.map_take] at hAs
        generalize hA : List.take k (List.map aB (repL eqv l)) ++ List.replicate (l.length - k) (aB false) = A at hAs
        have hAl : A.length = l.length := by rw [← hA]; simp [hrl]; omega
        have hkA : k + 1 ≤ A.length := by omega
        simp [go_sem, cutM, hlt, hkA, e0, e3, e5, e11, e12, e13, w1]
        refine Keep.mk' ?_
        refine ⟨cutM (fun i => !decide (i = rest.length + 1)) (rest ++ [.arr (cSort l[k])]) 1, by simp [go_sem, e0], by simp [go_sem, e3], by simp [go_sem, e5], by simp [go_sem, e11], by simp [go_sem, e12], by simp [go_sem], ?_⟩
        simp only [put_mu, List.map_take]
        rw [← hAs]
      · rintro r m ⟨e, _⟩; cases e
theorem rep1FlU (g : FuncId) (eqv : Fld → Fld → Bool) (x y : Fld) (hg : SoundP Tryz.prog g [.agg (cField x), .agg (cField y)] (aB (eqv x y))) : SoundP Tryz.prog 103 [.agg (cField y), .ip [.fn (.func g) [] []], .ip (cField x)] (aB (eqv x y)) := by
  refine SoundP.of_sound (Sound.of_awp Tryz.call103 Tryz.func103 rfl (Nat.le_of_ble_eq_true (by kernel_rfl)) (by kernel_rfl) (pl := {}) ?_)
  simp [go_sem]
  refine CallStep.pure hg (.cons (.hf (HF.agg (hf_cField x))) (.cons (.hf (HF.agg (hf_cField y))) .nil)) ?_
  simp [go_sem]
  exact .hf _ (HF.sc _)
theorem repFlU (g : FuncId) (eqv : Fld → Fld → Bool) (l : List (Fld)) (hg : ∀ x y, x ∈ l → y ∈ l → SoundP Tryz.prog g [.agg (cField x), .agg (cField y)] (aB (eqv x y))) (hl : l.length ≤ 1000) : SoundP Tryz.prog 54 [lFl l, .fn (.func g) [] []] (lB (repL eqv l)) := by
  refine SoundP.of_sound (Sound.of_awp Tryz.call54 Tryz.func54 rfl (Nat.le_of_ble_eq_true (by kernel_rfl)) (by kernel_rfl) (pl := {}) ?_)
  have hl2 : (l.length : Int) ≤ 4294967296 := by omega
  simp [go_sem, hl2]
  refine LoopGo.upK l.length (fun k st => ∃ rest, st.tm 0 = lFl l ∧ st.tm 3 = .ip [.fn (.func g) [] []] ∧ st.tm 5 = .sl 0 1 0 l.length ∧ st.tm 11 = lFl l ∧ st.tm 12 = aI l.length ∧ st.tm 13 = aI k ∧ st.mu = .arr (((repL eqv l).take k).map aB ++ List.replicate (l.length - k) (aB false)) :: rest) ?_ ?_
  · exact ⟨[], by simp [go_sem], by simp [go_sem], by simp [go_sem], by simp [go_sem], by simp [go_sem], by simp [go_sem], by simp [go_sem]⟩
  · rintro k st hk ⟨rest, e0, e3, e5, e11, e12, e13, hm⟩
    have hrl := repL_len eqv l
    by_cases hkl : k = l.length
    · subst hkl
      simp [go_sem, e0, e3, e5, e11, e12, e13, hm]
      exact rd_bools hrl List.map_take.symm
    · have hlt : k < l.length := by omega
      have w1 : IntKind.i64.wrap ((k : Int) + 1) = (k : Int) + 1 := wrap_i64 (by omega) (by omega)
      have hsz : rowsOk 3 (l.map cField) := fun r hr => by
        obtain ⟨q, _, rfl⟩ := List.mem_map.1 hr
        exact (cField_row q).1
      have hcc : (cField l[k]).length = 3 := (cField_row _).1
      simp [go_sem, e0, e3, e5, e11, e12, e13, hm, hlt]
      refine ⟨⟨_, _, ⟨rfl, rfl⟩, hsz⟩, ?_⟩
      rw [if_pos (by omega)]
      simp [go_sem, e3]
      have hF : FnOkP Tryz.prog (.fn (.func 103) [] [.ip [.fn (.func g) [] []], .ip (cField l[k])]) (l.take k) (fun x => .agg (cField x)) (eqv l[k]) :=
        ⟨_, _, _, rfl, fun y hy => ⟨_, rep1FlU g eqv l[k] y (hg l[k] y (List.getElem_mem hlt) (List.mem_of_mem_take hy)), .cons (.hf (HF.agg (hf_cField y))) (.cons (.hf (hf_fnc g)) (.cons (.hf (HF.ip (hf_cField _))) .nil))⟩⟩
      have hhF : HF (.fn (.func 103) [] [.ip [.fn (.func g) [] []], .ip (cField l[k])]) := HF.fn (fun c hc => by simp at hc) fun c hc => by
        simp only [List.mem_cons, List.not_mem_nil, or_false] at hc
        rcases hc with rfl | rfl
        · exact hf_fnc g
        · exact HF.ip (hf_cField _)
      have hl3 := hf_lFl (l.take k)
      refine CallStep.eff0 (Sound.freeze (args1 := [.lst false ((l.take k).map cField), .fn (.func 103) [] [.ip [.fn (.func g) [] []], .ip (cField l[k])]]) (fun j => decide (j = rest.length + 1)) ⟨.inl (by simp), .inr ?_, trivial⟩ ((hasFl false (l.take k) _ _ hF hhF hl3 (by simp; omega)).toSound _ (.cons (.hf hl3) (.cons (.hf hhF) .nil)))) ?_ ?_
      · refine .fn _ _ _ _ _ rfl rfl (fun k x y hx => by simp at hx) fun j x y hx hy => ?_
        match j, hx, hy with
        | 0, hx, hy =>
          simp at hx hy; subst hx; subst hy
          exact .hf _ (hf_fnc g)
        | 1, hx, hy =>
          simp at hx hy; subst hx; subst hy
          exact .ptr _ 0 (cField l[k]) _ (by rw [cutM_get]; simp) (by simp) fun i x y hx hy => by
            rw [Nat.zero_add] at hx
            rw [hx] at hy; cases hy
            exact .hf _ (hf_cField _ _ (List.mem_of_getElem? hx))
        | j + 2, hx, hy => simp at hx
      · rintro r m ⟨e, rfl⟩
        cases e
        have hAs := bools_set hrl hlt (repL_get eqv l hlt)
        simp only [List.map_take] at hAs
        generalize hA : List.take k (List.map aB (repL eqv l)) ++ List.replicate (l.length - k) (aB false) = A at hAs
        have hAl : A.length = l.length := by rw [← hA]; simp [hrl]; omega
        have hkA : k + 1 ≤ A.length := by omega
        simp [go_sem, cutM, hlt, hkA, e0, e3, e5, e11, e12, e13, w1]
        refine Keep.mk' ?_
        refine ⟨cutM (fun i => !decide (i = rest.length + 1)) (rest ++ [.arr (cField l[k])]) 1, by simp [go_sem, e0], by simp [go_sem, e3], by simp [go_sem, e5], by simp [go_sem, e11], by simp [go_sem, e12], by simp [go_sem], ?_⟩
        simp only [put_mu, List.map_take]
        rw [← hAs]
      · rintro r m ⟨e, _⟩; cases e
theorem rep1PdU (g : FuncId) (eqv : Pd → Pd → Bool) (x y : Pd) (hg : SoundP Tryz.prog g [.agg (cPd x), .agg (cPd y)] (aB (eqv x y))) : SoundP Tryz.prog 105 [.agg (cPd y), .ip [.fn (.func g) [] []], .ip (cPd x)] (aB (eqv x y)) := by
  refine SoundP.of_sound (Sound.of_awp Tryz.call105 Tryz.func105 rfl (Nat.le_of_ble_eq_true (by kernel_rfl)) (by kernel_rfl) (pl := {}) ?_)
  simp [go_sem]
  refine CallStep.pure hg (.cons (.hf (HF.agg (hf_cPd x))) (.cons (.hf (HF.agg (hf_cPd y))) .nil)) ?_
  simp [go_sem]
  exact .hf _ (HF.sc _)
theorem repPdU (g : FuncId) (eqv : Pd → Pd → Bool) (l : List (Pd)) (hg : ∀ x y, x ∈ l → y ∈ l → SoundP Tryz.prog g [.agg (cPd x), .agg (cPd y)] (aB (eqv x y))) (hl : l.length ≤ 1000) : SoundP Tryz.prog 57 [lPd l, .fn (.func g) [] []] (lB (repL eqv l)) := by
  refine SoundP.of_sound (Sound.of_awp Tryz.call57 Tryz.func57 rfl (Nat.le_of_ble_eq_true (by kernel_rfl)) (by kernel_rfl) (pl := {}) ?_)
  have hl2 : (l.length : Int) ≤ 4294967296 := by omega
  simp [go_sem, hl2]
  refine LoopGo.upK l.length (fun k st => ∃ rest, st.tm 0 = lPd l ∧ st.tm 3 = .ip [.fn (.func g) [] []] ∧ st.tm 5 = .sl 0 1 0 l.length ∧ st.tm 11 = lPd l ∧ st.tm 12 = aI l.length ∧ st.tm 13 = aI k ∧ st.mu = .arr (((repL eqv l).take k).map aB ++ List.replicate (l.length - k) (aB false)) :: rest) ?_ ?_
  · exact ⟨[], by simp [go_sem], by simp [go_sem], by simp [go_sem], by simp [go_sem], by simp [go_sem], by simp [go_sem], by simp [go_sem]⟩
  · rintro k st hk ⟨rest, e0, e3, e5, e11, e12, e13, hm⟩
    have hrl := repL_len eqv l
    by_cases hkl : k = l.length
    · subst hkl
      simp [go_sem, e0, e3, e5, e11, e12, e13, hm]
      exact rd_bools hrl List.map_take.symm
    · have hlt : k < l.length := by omega
      have w1 : IntKind.i64.wrap ((k : Int) + 1) = (k : Int) + 1 := wrap_i64 (by omega) (by omega)
      have hsz : rowsOk 7 (l.map cPd) := fun r hr => by
        obtain ⟨q, _, rfl⟩ := List.mem_map.1 hr
        exact (cPd_row q).1
      have hcc : (cPd l[k]).length = 7 := (cPd_row _).1
      simp [go_sem, e0, e3, e5, e11, e12, e13, hm, hlt]
      refine ⟨⟨_, _, ⟨rfl, rfl⟩, hsz⟩, ?_⟩
      rw [if_pos (by omega)]
      simp [go_sem, e3]
      have hF : FnOkP Tryz.prog (.fn (.func 105) [] [.ip [.fn (.func g) [] []], .ip (cPd l[k])]) (l.take k) (fun x => .agg (cPd x)) (eqv l[k]) :=
        ⟨_, _, _, rfl, fun y hy => ⟨_, rep1PdU g eqv l[k] y (hg l[k] y (List.getElem_mem hlt) (List.mem_of_mem_take hy)), .cons (.hf (HF.agg (hf_cPd y))) (.cons (.hf (hf_fnc g)) (.cons (.hf (HF.ip (hf_cPd _))) .nil))⟩⟩
      have hhF : HF (.fn (.func 105) [] [.ip [.fn (.func g) [] []], .ip (cPd l[k])]) := HF.fn (fun c hc => by simp at hc) fun c hc => by
        simp only [List.mem_cons, List.not_mem_nil, or_false] at hc
        rcases hc with rfl | rfl
        · exact hf_fnc g
        · exact HF.ip (hf_cPd _)
      have hl3 := hf_lPd (l.take k)
      refine CallStep.eff0 (Sound.freeze (args1 := [.lst false ((l.take k).map cPd), .fn (.func 105) [] [.ip [.fn (.func g) [] []], .ip (cPd l[k])]]) (fun j => decide (j = rest.length + 1)) ⟨.inl (by simp), .inr ?_, trivial⟩ ((hasPd false (l.take k) _ _ hF hhF hl3 (by simp; omega)).toSound _ (.cons (.hf hl3) (.cons (.hf hhF) .nil)))) ?_ ?_
      · refine .fn _ _ _ _ _ rfl rfl (fun k x y hx => by simp at hx) fun j x y hx hy => ?_
        match j, hx, hy with
        | 0, hx, hy =>
          simp at hx hy; subst hx; subst hy
          exact .hf _ (hf_fnc g)
        | 1, hx, hy =>
          simp at hx hy; subst hx; subst hy
          exact .ptr _ 0 (cPd l[k]) _ (by rw [cutM_get]; simp) (by simp) fun i x y hx hy => by
            rw [Nat.zero_add] at hx
            rw [hx] at hy; cases hy
            exact .hf _ (hf_cPd _ _ (List.mem_of_getElem? hx))
        | j + 2, hx, hy => simp at hx
      · rintro r m ⟨e, rfl⟩
        cases e
        have hAs := bools_set hrl hlt (repL_get eqv l hlt)
        simp only [List.map_take] at hAs
        generalize hA : List.take k (List.map aB (repL eqv l)) ++ List.replicate (l.length - k) (aB false) = A at hAs
        have hAl : A.length = l.length := by rw [← hA]; simp [hrl]; omega
        have hkA : k + 1 ≤ A.length := by omega
        simp [go_sem, cutM, hlt, hkA, e0, e3, e5, e11, e12, e13, w1]
        refine Keep.mk' ?_
        refine ⟨cutM (fun i => !decide (i = rest.length + 1)) (rest ++ [.arr (cPd l[k])]) 1, by simp [go_sem, e0], by simp [go_sem, e3], by simp [go_sem, e5], by simp [go_sem, e11], by simp [go_sem, e12], by simp [go_sem], ?_⟩
        simp only [put_mu, List.map_take]
        rw [← hAs]
      · rintro r m ⟨e, _⟩; cases e
theorem rep1PmU (g : FuncId) (eqv : ByteArray × Int → ByteArray × Int → Bool) (x y : ByteArray × Int) (hg : SoundP Tryz.prog g [.agg (cPm x), .agg (cPm y)] (aB (eqv x y))) : SoundP Tryz.prog 107 [.agg (cPm y), .ip [.fn (.func g) [] []], .ip (cPm x)] (aB (eqv x y)) := by
  refine SoundP.of_sound (Sound.of_awp Tryz.call107 Tryz.func107 rfl (Nat.le_of_ble_eq_true (by kernel_rfl)) (by kernel_rfl) (pl := {}) ?_)
  simp [go_sem]
  refine CallStep.pure hg (.cons (.hf (HF.agg (hf_cPm x))) (.cons (.hf (HF.agg (hf_cPm y))) .nil)) ?_
  simp [go_sem]
  exact .hf _ (HF.sc _)
theorem repPmU (g : FuncId) (eqv : ByteArray × Int → ByteArray × Int → Bool) (l : List (ByteArray × Int)) (hg : ∀ x y, x ∈ l → y ∈ l → SoundP Tryz.prog g [.agg (cPm x), .agg (cPm y)] (aB (eqv x y))) (hl : l.length ≤ 1000) : SoundP Tryz.prog 59 [lPm l, .fn (.func g) [] []] (lB (repL eqv l)) := by
  refine SoundP.of_sound (Sound.of_awp Tryz.call59 Tryz.func59 rfl (Nat.le_of_ble_eq_true (by kernel_rfl)) (by kernel_rfl) (pl := {}) ?_)
  have hl2 : (l.length : Int) ≤ 4294967296 := by omega
  simp [go_sem, hl2]
  refine LoopGo.upK l.length (fun k st => ∃ rest, st.tm 0 = lPm l ∧ st.tm 3 = .ip [.fn (.func g) [] []] ∧ st.tm 5 = .sl 0 1 0 l.length ∧ st.tm 11 = lPm l ∧ st.tm 12 = aI l.length ∧ st.tm 13 = aI k ∧ st.mu = .arr (((repL eqv l).take k).map aB ++ List.replicate (l.length - k) (aB false)) :: rest) ?_ ?_
  · exact ⟨[], by simp [go_sem], by simp [go_sem], by simp [go_sem], by simp [go_sem], by simp [go_sem], by simp [go_sem], by simp [go_sem]⟩
  · rintro k st hk ⟨rest, e0, e3, e5, e11, e12, e13, hm⟩
    have hrl := repL_len eqv l
    by_cases hkl : k = l.length
    · subst hkl
      simp [go_sem, e0, e3, e5, e11, e12, e13, hm]
      exact rd_bools hrl List.map_take.symm
    · have hlt : k < l.length := by omega
      have w1 : IntKind.i64.wrap ((k : Int) + 1) = (k : Int) + 1 := wrap_i64 (by omega) (by omega)
      have hsz : rowsOk 2 (l.map cPm) := fun r hr => by
        obtain ⟨q, _, rfl⟩ := List.mem_map.1 hr
        exact (cPm_row q).1
      have hcc : (cPm l[k]).length = 2 := (cPm_row _).1
      simp [go_sem, e0, e3, e5, e11, e12, e13, hm, hlt]
      refine ⟨⟨_, _, ⟨rfl, rfl⟩, hsz⟩, ?_⟩
      rw [if_pos (by omega)]
      simp [go_sem, e3]
      have hF : FnOkP Tryz.prog (.fn (.func 107) [] [.ip [.fn (.func g) [] []], .ip (cPm l[k])]) (l.take k) (fun x => .agg (cPm x)) (eqv l[k]) :=
        ⟨_, _, _, rfl, fun y hy => ⟨_, rep1PmU g eqv l[k] y (hg l[k] y (List.getElem_mem hlt) (List.mem_of_mem_take hy)), .cons (.hf (HF.agg (hf_cPm y))) (.cons (.hf (hf_fnc g)) (.cons (.hf (HF.ip (hf_cPm _))) .nil))⟩⟩
      have hhF : HF (.fn (.func 107) [] [.ip [.fn (.func g) [] []], .ip (cPm l[k])]) := HF.fn (fun c hc => by simp at hc) fun c hc => by
        simp only [List.mem_cons, List.not_mem_nil, or_false] at hc
        rcases hc with rfl | rfl
        · exact hf_fnc g
        · exact HF.ip (hf_cPm _)
      have hl3 := hf_lPm (l.take k)
      refine CallStep.eff0 (Sound.freeze (args1 := [.lst false ((l.take k).map cPm), .fn (.func 107) [] [.ip [.fn (.func g) [] []], .ip (cPm l[k])]]) (fun j => decide (j = rest.length + 1)) ⟨.inl (by simp), .inr ?_, trivial⟩ ((hasPm false (l.take k) _ _ hF hhF hl3 (by simp; omega)).toSound _ (.cons (.hf hl3) (.cons (.hf hhF) .nil)))) ?_ ?_
      · refine .fn _ _ _ _ _ rfl rfl (fun k x y hx => by simp at hx) fun j x y hx hy => ?_
        match j, hx, hy with
        | 0, hx, hy =>
          simp at hx hy; subst hx; subst hy
          exact .hf _ (hf_fnc g)
        | 1, hx, hy =>
          simp at hx hy; subst hx; subst hy
          exact .ptr _ 0 (cPm l[k]) _ (by rw [cutM_get]; simp) (by simp) fun i x y hx hy => by
            rw [Nat.zero_add] at hx
            rw [hx] at hy; cases hy
            exact .hf _ (hf_cPm _ _ (List.mem_of_getElem? hx))
        | j + 2, hx, hy => simp at hx
      · rintro r m ⟨e, rfl⟩
        cases e
        have hAs := bools_set hrl hlt (repL_get eqv l hlt)
        simp only [List.map_take] at hAs
        generalize hA : List.take k (List.map aB (repL eqv l)) ++ List.replicate (l.length - k) (aB false) = A at hAs
        have hAl : A.length = l.length := by rw [← hA]; simp [hrl]; omega
        have hkA : k + 1 ≤ A.length := by omega
        simp [go_sem, cutM, hlt, hkA, e0, e3, e5, e11, e12, e13, w1]
        refine Keep.mk' ?_
        refine ⟨cutM (fun i => !decide (i = rest.length + 1)) (rest ++ [.arr (cPm l[k])]) 1, by simp [go_sem, e0], by simp [go_sem, e3], by simp [go_sem, e5], by simp [go_sem, e11], by simp [go_sem, e12], by simp [go_sem], ?_⟩
        simp only [put_mu, List.map_take]
        rw [← hAs]
      · rintro r m ⟨e, _⟩; cases e
theorem rep1FaU (g : FuncId) (eqv : ByteArray × Nd → ByteArray × Nd → Bool) (x y : ByteArray × Nd) (hg : SoundP Tryz.prog g [.agg (cFa x), .agg (cFa y)] (aB (eqv x y))) : SoundP Tryz.prog 110 [.agg (cFa y), .ip [.fn (.func g) [] []], .ip (cFa x)] (aB (eqv x y)) := by
  refine SoundP.of_sound (Sound.of_awp Tryz.call110 Tryz.func110 rfl (Nat.le_of_ble_eq_true (by kernel_rfl)) (by kernel_rfl) (pl := {}) ?_)
  simp [go_sem]
  refine CallStep.pure hg (.cons (.hf (HF.agg (hf_cFa x))) (.cons (.hf (HF.agg (hf_cFa y))) .nil)) ?_
  simp [go_sem]
  exact .hf _ (HF.sc _)
theorem repFaU (g : FuncId) (eqv : ByteArray × Nd → ByteArray × Nd → Bool) (l : List (ByteArray × Nd)) (hg : ∀ x y, x ∈ l → y ∈ l → SoundP Tryz.prog g [.agg (cFa x), .agg (cFa y)] (aB (eqv x y))) (hl : l.length ≤ 1000) : SoundP Tryz.prog 62 [lFa l, .fn (.func g) [] []] (lB (repL eqv l)) := by
  refine SoundP.of_sound (Sound.of_awp Tryz.call62 Tryz.func62 rfl (Nat.le_of_ble_eq_true (by kernel_rfl)) (by kernel_rfl) (pl := {}) ?_)
  have hl2 : (l.length : Int) ≤ 4294967296 := by omega
  simp [go_sem, hl2]
  refine LoopGo.upK l.length (fun k st => ∃ rest, st.tm 0 = lFa l ∧ st.tm 3 = .ip [.fn (.func g) [] []] ∧ st.tm 5 = .sl 0 1 0 l.length ∧ st.tm 11 = lFa l ∧ st.tm 12 = aI l.length ∧ st.tm 13 = aI k ∧ st.mu = .arr (((repL eqv l).take k).map aB ++ List.replicate (l.length - k) (aB false)) :: rest) ?_ ?_
  · exact ⟨[], by simp [go_sem], by simp [go_sem], by simp [go_sem], by simp [go_sem], by simp [go_sem], by simp [go_sem], by simp [go_sem]⟩
  · rintro k st hk ⟨rest, e0, e3, e5, e11, e12, e13, hm⟩
    have hrl := repL_len eqv l
    by_cases hkl : k = l.length
    · subst hkl
      simp [go_sem, e0, e3, e5, e11, e12, e13, hm]
      exact rd_bools hrl List.map_take.symm
    · have hlt : k < l.length := by omega
      have w1 : IntKind.i64.wrap ((k : Int) + 1) = (k : Int) + 1 := wrap_i64 (by omega) (by omega)
      have hsz : rowsOk 6 (l.map cFa) := fun r hr => by
        obtain ⟨q, _, rfl⟩ := List.mem_map.1 hr
        exact (cFa_row q).1
      have hcc : (cFa l[k]).length = 6 := (cFa_row _).1
      simp [go_sem, e0, e3, e5, e11, e12, e13, hm, hlt]
      refine ⟨⟨_, _, ⟨rfl, rfl⟩, hsz⟩, ?_⟩
      rw [if_pos (by omega)]
      simp [go_sem, e3]
      have hF : FnOkP Tryz.prog (.fn (.func 110) [] [.ip [.fn (.func g) [] []], .ip (cFa l[k])]) (l.take k) (fun x => .agg (cFa x)) (eqv l[k]) :=
        ⟨_, _, _, rfl, fun y hy => ⟨_, rep1FaU g eqv l[k] y (hg l[k] y (List.getElem_mem hlt) (List.mem_of_mem_take hy)), .cons (.hf (HF.agg (hf_cFa y))) (.cons (.hf (hf_fnc g)) (.cons (.hf (HF.ip (hf_cFa _))) .nil))⟩⟩
      have hhF : HF (.fn (.func 110) [] [.ip [.fn (.func g) [] []], .ip (cFa l[k])]) := HF.fn (fun c hc => by simp at hc) fun c hc => by
        simp only [List.mem_cons, List.not_mem_nil, or_false] at hc
        rcases hc with rfl | rfl
        · exact hf_fnc g
        · exact HF.ip (hf_cFa _)
      have hl3 := hf_lFa (l.take k)
      refine CallStep.eff0 (Sound.freeze (args1 := [.lst false ((l.take k).map cFa), .fn (.func 110) [] [.ip [.fn (.func g) [] []], .ip (cFa l[k])]]) (fun j => decide (j = rest.length + 1)) ⟨.inl (by simp), .inr ?_, trivial⟩ ((hasFa false (l.take k) _ _ hF hhF hl3 (by simp; omega)).toSound _ (.cons (.hf hl3) (.cons (.hf hhF) .nil)))) ?_ ?_
      · refine .fn _ _ _ _ _ rfl rfl (fun k x y hx => by simp at hx) fun j x y hx hy => ?_
        match j, hx, hy with
        | 0, hx, hy =>
          simp at hx hy; subst hx; subst hy
          exact .hf _ (hf_fnc g)
        | 1, hx, hy =>
          simp at hx hy; subst hx; subst hy
          exact .ptr _ 0 (cFa l[k]) _ (by rw [cutM_get]; simp) (by simp) fun i x y hx hy => by
            rw [Nat.zero_add] at hx
            rw [hx] at hy; cases hy
            exact .hf _ (hf_cFa _ _ (List.mem_of_getElem? hx))
        | j + 2, hx, hy => simp at hx
      · rintro r m ⟨e, rfl⟩
        cases e
        have hAs := bools_set hrl hlt (repL_get eqv l hlt)
        simp only [List.map_take] at hAs
        generalize hA : List.take k (List.map aB (repL eqv l)) ++ List.replicate (l.length - k) (aB false) = A at hAs
        have hAl : A.length = l.length := by rw [← hA]; simp [hrl]; omega
        have hkA : k + 1 ≤ A.length := by omega
        simp [go_sem, cutM, hlt, hkA, e0, e3, e5, e11, e12, e13, w1]
        refine Keep.mk' ?_
        refine ⟨cutM (fun i => !decide (i = rest.length + 1)) (rest ++ [.arr (cFa l[k])]) 1, by simp [go_sem, e0], by simp [go_sem, e3], by simp [go_sem, e5], by simp [go_sem, e11], by simp [go_sem, e12], by simp [go_sem], ?_⟩
        simp only [put_mu, List.map_take]
        rw [← hAs]
      · rintro r m ⟨e, _⟩; cases e
end Go.Proofs.YtcfopdccdeeleaaGreatDoor.Y15
