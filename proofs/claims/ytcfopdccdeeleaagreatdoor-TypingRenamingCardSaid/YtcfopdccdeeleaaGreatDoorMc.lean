/-
  Own library, part 3: an abstract reading of values and a calculus over it; contracts of functions; plain lemmas.
-/
import Derived.Test.YtcfopdccdeeleaaGreatDoorProg
import Derived.KernelRfl
import Derived.RecoverIn
import Derived.Test.YtcfopdccdeeleaaGreatDoorMb
set_option linter.unusedVariables false
set_option linter.unusedSimpArgs false
set_option maxRecDepth 100000


namespace Go.Ev
open Go Go.RowKit
theorem eqS {α : Sort _} {a b : α} (h : a = b) : a = b := h
abbrev aI (n : Int) : AV := .sc (.int .i64 n)
abbrev aB (b : Bool) : AV := .sc (.bool b)
def panQ (Q : AExit → St → Prop) : AV → St → Prop := fun v st => Q (.pan v) st
def retK (R : AEnd → Mu → Prop) (m : Mu) : AV → Prop := fun r => R (.ret r) m
def DrawGo (P : Program) (pl : Pol) (l : List Oper) (Q : St → Prop) (Qp : AV → St → Prop) (st : St) : Prop := ∃ st', Fz st st' ∧ DrawB P pl l.toArray Q Qp st'
theorem DrawGo.intro {P : Program} {pl : Pol} {l : List Oper} {Q : St → Prop} {Qp : AV → St → Prop} {st : St} (h : okDraw pl l.toArray = true) (k : awpS P pl true l.toArray l Q Qp st) : DrawGo P pl l Q Qp st := ⟨st, .refl st, .inl (.inl ⟨h, k⟩)⟩
theorem DrawGo.move {P : Program} {pl : Pol} {l : List Oper} {Q : St → Prop} {Qp : AV → St → Prop} {st : St} (a d : Nat) (h : okMove pl l.toArray a (a + d) = true) (hl : (Nat.blt 0 d && Nat.blt (a + d) l.length) = true) (k : awpS P pl true l.toArray l Q Qp st) (k2 : awpS P pl true l.toArray (moveOps a d l) Q Qp st) : DrawGo P pl l Q Qp st := by
  rw [Bool.and_eq_true] at hl
  exact ⟨st, .refl st, .inl (.inr (.inl ⟨a, d, h, Nat.le_of_ble_eq_true hl.1, Nat.le_of_ble_eq_true hl.2, k, k2⟩))⟩
theorem DrawGo.tail {P : Program} {pl : Pol} {l : List Oper} {Q : St → Prop} {Qp : AV → St → Prop} {st : St} (n : Nat) (h : okTail pl l.toArray n = true) (k : awpS P pl true l.toArray (l.take n) (fun st => awpS P pl false l.toArray (l.drop n) Q Qp st) Qp st) : DrawGo P pl l Q Qp st :=
  ⟨st, .refl st, .inl (.inr (.inr ⟨n, h, k⟩))⟩
theorem DrawGo.float {P : Program} {pl : Pol} {l : List Oper} {Q : St → Prop} {Qp : AV → St → Prop} {st : St} (X F : List Nat) (T : List (Nat × Bool)) (h : okFloat pl l.toArray X = true) (hF : floats pl l.toArray X = F) (hT : ((tails pl l.toArray X l.toArray.size).map fun i => (i, mustKeep l.toArray (floats pl l.toArray X) i)) = T)
    (k : awpS P pl true l.toArray (pick l.toArray F) (awpQ P pl (T.filterMap fun q => (l.toArray[q.1]?).map fun o => (q.2, o)) Q Qp) (fun _ _ => False) st) : DrawGo P pl l Q Qp st := by
  refine ⟨st, .refl st, .inr ⟨X, h, ?_⟩⟩
  subst hF hT
  rw [List.filterMap_map] at k
  exact k
theorem DrawGo.fz {P : Program} {pl : Pol} {l : List Oper} {Q : St → Prop} {Qp : AV → St → Prop} {st : St} (h : FzQ (fun _ st => DrawGo P pl l Q Qp st) (.exit 0) st) : DrawGo P pl l Q Qp st := by
  obtain ⟨st', f, _, st2, f2, h2⟩ := h
  exact ⟨st2, .step f f2, h2⟩
def contQ (P : Program) (pl : Pol) (q : Bool) (l : List (Bool × Oper)) (Q : St → Prop) (Qp : AV → St → Prop) (st : St) (dst : Option Tmp) : AV → Mu → Prop := fun v m => (q = true → m = st.mu) ∧ awpQ P pl l Q Qp (st.put dst v m)
def panT (Qp : AV → St → Prop) : AV → Mu → Prop := fun v m => ∀ tm, Qp v ⟨tm, m⟩
@[go_sem ↓] theorem contQ_eq (P : Program) (pl : Pol) (q : Bool) (l : List (Bool × Oper)) (Q : St → Prop) (Qp : AV → St → Prop) (st : St) (dst : Option Tmp) (v : AV) (m : Mu) : contQ P pl q l Q Qp st dst v m = ((q = true → m = st.mu) ∧ awpQ P pl l Q Qp (st.put dst v m)) := eqS rfl
@[go_sem ↓] theorem panT_eq (Qp : AV → St → Prop) (v : AV) (m : Mu) : panT Qp v m = ∀ tm, Qp v ⟨tm, m⟩ := eqS rfl
@[go_sem ↓] theorem awpQ_nil (P : Program) (pl : Pol) (Q : St → Prop) (Qp : AV → St → Prop) (st : St) : awpQ P pl [] Q Qp st = Q st := eqS rfl
@[go_sem ↓] theorem awpQ_cons (P : Program) (pl : Pol) (q : Bool) (dst : Option Tmp) (op : Op) (ty : TypeId) (pos : String) (after : Array Edge) (g : Option (Nat × Bool)) (l : List (Bool × Oper)) (Q : St → Prop) (Qp : AV → St → Prop) (st : St) :
    awpQ P pl ((q, ⟨dst, op, ty, pos, after, g⟩) :: l) Q Qp st = SStep P pl false dst op st.ev st.mu (contQ P pl q l Q Qp st dst) (panT Qp) := eqS rfl
@[go_sem] theorem pick_nil (ops : Array Oper) : pick ops [] = [] := eqS rfl
@[go_sem] theorem pick_list (l : List Oper) (i : Nat) (r : List Nat) : pick l.toArray (i :: r) = (match l[i]? with | some o => o :: pick l.toArray r | none => pick l.toArray r) := by
  simp only [pick, List.filterMap_cons, List.getElem?_toArray]
  cases l[i]? <;> rfl
@[go_sem] theorem insOps_zero (x : Oper) (l : List Oper) : insOps 0 x l = x :: l := eqS (by cases l <;> rfl)
@[go_sem] theorem insOps_succ (d : Nat) (x y : Oper) (l : List Oper) : insOps (d + 1) x (y :: l) = y :: insOps d x l := eqS rfl
@[go_sem] theorem moveOps_zero (d : Nat) (x : Oper) (l : List Oper) : moveOps 0 d (x :: l) = insOps d x l := eqS rfl
@[go_sem] theorem moveOps_succ (n d : Nat) (x : Oper) (l : List Oper) : moveOps (n + 1) d (x :: l) = x :: moveOps n d l := eqS rfl
def LoopGo (P : Program) (pl : Pol) (body : Code) (Q : AExit → St → Prop) (st : St) : Prop := ∃ (z : Bool) (I : Nat → St → Prop) (n : Nat) (st' : St), Fz st st' ∧ I n st' ∧ ∀ n st, I n st → awp P pl body (loopQ I n (fzQ z Q)) st
theorem LoopGo.intro {P : Program} {pl : Pol} {body : Code} {Q : AExit → St → Prop} {st : St} (I : Nat → St → Prop) (n : Nat) (h : I n st) (k : ∀ n st, I n st → awp P pl body (loopQ I n Q) st) : LoopGo P pl body Q st := ⟨false, I, n, st, .refl st, h, k⟩
theorem LoopGo.fz {P : Program} {pl : Pol} {body : Code} {Q : AExit → St → Prop} {st : St} (h : FzQ (fun _ st => LoopGo P pl body Q st) (.exit 0) st) : LoopGo P pl body Q st := by
  obtain ⟨st', f, _, z, I, n, st2, f2, h2⟩ := h
  exact ⟨z, I, n, st2, .step f f2, h2⟩
def RangeGo (P : Program) (pl : Pol) (g : AV) (ps : Array Tmp) (aas body : Code) (Q : AExit → St → Prop) (st : St) : Prop :=
  ∃ (z : Bool) (gf : FuncId) (caps : List AV) (rows : List (List AV)) (I : Nat → Mu → Prop) (Ix : AExit → Mu → Prop),
      g = .fn (.func gf) [] caps ∧ IterOk P gf caps rows ∧ I 0 (st.mu ++ [.dead]) ∧ (∀ k, Stb (I k)) ∧ (∀ e, Stb (Ix e)) ∧
      (∀ k x mu, rows[k]? = some x → I k mu → x.length = ps.size ∧ awp P pl aas (asQ (fun st => awp P pl body (rndQ I Ix k) st)) ⟨setPs st.tm ps.toList x, mu⟩) ∧
      (∀ mu, I rows.length mu → fzQ z Q .normal ⟨st.tm, mu⟩) ∧ (∀ e mu, Ix e mu → fzQ z Q e ⟨st.tm, mu⟩)
theorem RangeGo.intro {P : Program} {pl : Pol} {gf : FuncId} {caps : List AV} {ps : Array Tmp} {aas body : Code} {Q : AExit → St → Prop} {st : St} {rows : List (List AV)} (hit : IterOk P gf caps rows) (I : Nat → Mu → Prop) (Ix : AExit → Mu → Prop)
    (h0 : I 0 (st.mu ++ [.dead])) (hS : ∀ k mu, I k mu → I k (mu ++ [.dead])) (hX : ∀ e mu, Ix e mu → Ix e (mu ++ [.dead]))
    (hr : ∀ k x mu, rows[k]? = some x → I k mu → x.length = ps.size ∧ awp P pl aas (asQ (fun st => awp P pl body (rndQ I Ix k) st)) ⟨setPs st.tm ps.toList x, mu⟩)
    (he : ∀ mu, I rows.length mu → Q .normal ⟨st.tm, mu⟩) (hx : ∀ e mu, Ix e mu → Q e ⟨st.tm, mu⟩) : RangeGo P pl (.fn (.func gf) [] caps) ps aas body Q st :=
  ⟨false, gf, caps, rows, I, Ix, rfl, hit, h0, hS, hX, hr, he, hx⟩
@[go_sem] theorem setPs_nil (tm : Nat → AV) (xs : List AV) : setPs tm [] xs = tm := eqS (by cases xs <;> rfl)
@[go_sem] theorem setPs_cons (tm : Nat → AV) (t : Tmp) (ts : List Tmp) (x : AV) (xs : List AV) : setPs tm (t :: ts) (x :: xs) = setPs (fun i => if i = t then x else tm i) ts xs := eqS rfl
@[go_sem] theorem asQ_normal (n : St → Prop) (st : St) : asQ n .normal st = n st := eqS rfl
@[go_sem] theorem rndQ_normal (I : Nat → Mu → Prop) (Ix : AExit → Mu → Prop) (k : Nat) (st : St) : rndQ I Ix k .normal st = I (k + 1) st.mu := eqS rfl
@[go_sem] theorem rndQ_ret (I : Nat → Mu → Prop) (Ix : AExit → Mu → Prop) (k : Nat) (st : St) : rndQ I Ix k .ret st = Ix .ret st.mu := eqS rfl
@[go_sem] theorem rndQ_exit (I : Nat → Mu → Prop) (Ix : AExit → Mu → Prop) (k id : Nat) (st : St) : rndQ I Ix k (.exit id) st = Ix (.exit id) st.mu := eqS rfl
section
variable (P : Program) (pl : Pol) (Q : AExit → St → Prop) (st : St)
@[go_sem ↓] theorem awp_skip : awp P pl .skip Q st = Q .normal st := eqS rfl
@[go_sem ↓] theorem awp_label (l : Nat) : awp P pl (.label l) Q st = Q .normal st := eqS rfl
@[go_sem ↓] theorem awp_exit (id : Nat) : awp P pl (.exit id) Q st = Q (.exit id) st := eqS rfl
@[go_sem ↓] theorem awp_ret : awp P pl .ret Q st = Q .ret st := eqS rfl
@[go_sem ↓] theorem awp_seq (a b : Code) : awp P pl (.seq a b) Q st = awp P pl a (seqQ (awp P pl b Q) Q) st := eqS rfl
@[go_sem ↓] theorem awp_block (id : Nat) (b : Code) : awp P pl (.block id b) Q st = awp P pl b (blockQ id Q) st := eqS rfl
@[go_sem ↓] theorem awp_scope (b : Code) : awp P pl (.scope b) Q st = awp P pl b Q st := eqS rfl
@[go_sem ↓] theorem awp_loop (b : Code) : awp P pl (.loop b) Q st = LoopGo P pl b Q st := eqS rfl
@[go_sem ↓] theorem awp_rangeFunc (g : Operand) (ps : Array Tmp) (aas body : Code) : awp P pl (.rangeFunc g ps aas body) Q st = RangeGo P pl (st.ev g) ps aas body Q st := eqS rfl
@[go_sem ↓] theorem awp_region (id : Nat) (l : List Oper) : awp P pl (.region id l.toArray false) Q st = awpS P pl false l.toArray l (Q .normal) (panQ Q) st :=
  propext ⟨fun h => by rcases h with ⟨_, h⟩ | ⟨e, _⟩; exact h; exact absurd e (by simp), fun h => .inl ⟨rfl, h⟩⟩
@[go_sem ↓] theorem awp_region_draw (id : Nat) (l : List Oper) : awp P pl (.region id l.toArray true) Q st = DrawGo P pl l (Q .normal) (panQ Q) st :=
  propext ⟨fun h => by rcases h with ⟨e, _⟩ | ⟨_, h⟩; exact absurd e (by simp); exact h, fun h => .inr ⟨rfl, h⟩⟩
def BrS (b : Bool) (p q : St → Prop) (st : St) : Prop := Br b (p st) (q st)
@[go_sem ↓] theorem BrS_true (p q : St → Prop) : BrS true p q st = p st := by simp [BrS, Br]
@[go_sem ↓] theorem BrS_false (p q : St → Prop) : BrS false p q st = q st := by simp [BrS, Br]
@[go_sem] theorem BrS_true' (p q : St → Prop) : BrS true p q st = p st := by simp [BrS, Br]
@[go_sem] theorem BrS_false' (p q : St → Prop) : BrS false p q st = q st := by simp [BrS, Br]
theorem BrS.intro {b : Bool} {p q : St → Prop} {st : St} (h1 : b = true → p st) (h2 : b = false → q st) : BrS b p q st := ⟨h1, h2⟩
def CondGo (v : AV) (p q : St → Prop) (st : St) : Prop := ∃ t, v = .sc (.bool t) ∧ Br t (p st) (q st)
@[go_sem ↓] theorem awp_cond (c : Operand) (a b : Code) : awp P pl (.cond c a b) Q st = CondGo (st.ev c) (awp P pl a Q) (awp P pl b Q) st := eqS rfl
@[go_sem] theorem CondGo_bool (t : Bool) (p q : St → Prop) : CondGo (.sc (.bool t)) p q st = BrS t p q st := by
  simp [CondGo, BrS]
theorem Br.intro {b : Bool} {p q : Prop} (h1 : b = true → p) (h2 : b = false → q) : Br b p q := ⟨h1, h2⟩
@[go_sem ↓] theorem seqQ_normal (n : St → Prop) : seqQ n Q .normal st = n st := eqS rfl
@[go_sem ↓] theorem seqQ_exit (n : St → Prop) (i : Nat) : seqQ n Q (.exit i) st = Q (.exit i) st := eqS rfl
@[go_sem ↓] theorem seqQ_ret (n : St → Prop) : seqQ n Q .ret st = Q .ret st := eqS rfl
@[go_sem ↓] theorem seqQ_pan (n : St → Prop) (v : AV) : seqQ n Q (.pan v) st = Q (.pan v) st := eqS rfl
@[go_sem ↓] theorem blockQ_normal (i : Nat) : blockQ i Q .normal st = Q .normal st := eqS rfl
@[go_sem ↓] theorem blockQ_exit (i j : Nat) : blockQ j Q (.exit i) st = if i = j then Q .normal st else Q (.exit i) st := eqS rfl
@[go_sem ↓] theorem blockQ_ret (i : Nat) : blockQ i Q .ret st = Q .ret st := eqS rfl
@[go_sem ↓] theorem blockQ_pan (i : Nat) (v : AV) : blockQ i Q (.pan v) st = Q (.pan v) st := eqS rfl
@[go_sem ↓] theorem loopQ_normal (I : Nat → St → Prop) (n : Nat) : loopQ I n Q .normal st = ∃ m, m < n ∧ I m st := eqS rfl
@[go_sem ↓] theorem loopQ_exit (I : Nat → St → Prop) (n i : Nat) : loopQ I n Q (.exit i) st = Q (.exit i) st := eqS rfl
@[go_sem ↓] theorem loopQ_ret (I : Nat → St → Prop) (n : Nat) : loopQ I n Q .ret st = Q .ret st := eqS rfl
@[go_sem ↓] theorem loopQ_pan (I : Nat → St → Prop) (n : Nat) (v : AV) : loopQ I n Q (.pan v) st = Q (.pan v) st := eqS rfl
@[go_sem ↓] theorem panQ_eq (v : AV) : panQ Q v st = Q (.pan v) st := eqS rfl
@[go_sem ↓] theorem PostQ_normal (rs : List ResultVar) (R : AEnd → Mu → Prop) : PostQ P rs R .normal st = OptK (resultsA P st rs) (retK R st.mu) := eqS rfl
@[go_sem ↓] theorem PostQ_ret (rs : List ResultVar) (R : AEnd → Mu → Prop) : PostQ P rs R .ret st = OptK (resultsA P st rs) (retK R st.mu) := eqS rfl
@[go_sem ↓] theorem PostQ_pan (rs : List ResultVar) (R : AEnd → Mu → Prop) (v : AV) : PostQ P rs R (.pan v) st = R (.pan v) st.mu := eqS rfl
@[go_sem ↓] theorem retK_eq (R : AEnd → Mu → Prop) (m : Mu) (r : AV) : retK R m r = R (.ret r) m := eqS rfl
@[go_sem] theorem resultsA_one (r : ResultVar) : resultsA P st [r] = resV P st r := eqS rfl
@[go_sem] theorem resultsA_nil : resultsA P st [] = some (.tup []) := eqS rfl
@[go_sem] theorem resultsA_two (r s : ResultVar) : resultsA P st [r, s] = (match resV P st r, resV P st s with | some x, some y => some (.tup [x, y]) | _, _ => none) := by
  simp only [resultsA, resL]
  cases resV P st r <;> cases resV P st s <;> rfl
@[go_sem] theorem resultsA_three (r s t : ResultVar) : resultsA P st [r, s, t] = (match resV P st r, resV P st s, resV P st t with | some x, some y, some z => some (.tup [x, y, z]) | _, _, _ => none) := by
  simp only [resultsA, resL]
  cases resV P st r <;> cases resV P st s <;> cases resV P st t <;> rfl
@[go_sem] theorem resV_tmp (t : Tmp) : resV P st (.tmp t) = some (st.tm t) := eqS rfl
@[go_sem] theorem resV_cell (a : Tmp) (t : TypeId) : resV P st (.cell a t) = loadA P st.mu t (st.tm a) := eqS rfl
end
section
variable {α : Type}
@[go_sem] theorem OptK_some (v : α) (k : α → Prop) : OptK (some v) k = k v := by simp [OptK]
@[go_sem] theorem OptK_none (k : α → Prop) : OptK none k = False := by simp [OptK]
theorem OptK.intro {o : Option α} {k : α → Prop} (v : α) (h : o = some v) (hk : k v) : OptK o k := ⟨v, h, hk⟩
end
section
variable (P : Program) (pl : Pol) (det : Bool) (ops : Array Oper) (Q : St → Prop) (Qp : AV → St → Prop) (st : St)
def contK (P : Program) (pl : Pol) (det : Bool) (ops : Array Oper) (l : List Oper) (Q : St → Prop) (Qp : AV → St → Prop) (st : St) (dst : Option Tmp) : AV → Mu → Prop := fun v m => awpS P pl det ops l Q Qp (st.put dst v m)
def panS (Qp : AV → St → Prop) (st : St) : AV → Mu → Prop := fun v m => Qp v ⟨st.tm, m⟩
@[go_sem ↓] theorem contK_eq (l : List Oper) (dst : Option Tmp) (v : AV) (m : Mu) : contK P pl det ops l Q Qp st dst v m = awpS P pl det ops l Q Qp (st.put dst v m) := eqS rfl
@[go_sem ↓] theorem panS_eq (v : AV) (m : Mu) : panS Qp st v m = Qp v ⟨st.tm, m⟩ := eqS rfl
@[go_sem ↓] theorem awpS_nil : awpS P pl det ops [] Q Qp st = Q st := eqS rfl
@[go_sem ↓] theorem awpS_plain (dst : Option Tmp) (op : Op) (ty : TypeId) (pos : String) (after : Array Edge) (l : List Oper) : awpS P pl det ops (⟨dst, op, ty, pos, after, none⟩ :: l) Q Qp st =
    SStep P pl det dst op st.ev st.mu (contK P pl det ops l Q Qp st dst) (panS Qp st) := by
  simp [awpS, awanted, OptK, Br]
  rfl
def runK (P : Program) (pl : Pol) (det : Bool) (ops : Array Oper) (dst : Option Tmp) (op : Op) (l : List Oper) (Q : St → Prop) (Qp : AV → St → Prop) : St → Prop := fun st => SStep P pl det dst op st.ev st.mu (contK P pl det ops l Q Qp st dst) (panS Qp st)
def passK (P : Program) (pl : Pol) (det : Bool) (ops : Array Oper) (dst : Option Tmp) (l : List Oper) (Q : St → Prop) (Qp : AV → St → Prop) : St → Prop := fun st => awpS P pl det ops l Q Qp (st.put dst (.sc undef) st.mu)
@[go_sem ↓] theorem runK_eq (dst : Option Tmp) (op : Op) (l : List Oper) : runK P pl det ops dst op l Q Qp st = SStep P pl det dst op st.ev st.mu (contK P pl det ops l Q Qp st dst) (panS Qp st) := eqS rfl
@[go_sem ↓] theorem passK_eq (dst : Option Tmp) (l : List Oper) : passK P pl det ops dst l Q Qp st = awpS P pl det ops l Q Qp (st.put dst (.sc undef) st.mu) := eqS rfl
def brK (p q : St → Prop) (st : St) : Bool → Prop := fun b => BrS b p q st
@[go_sem ↓] theorem brK_eq (p q : St → Prop) (b : Bool) : brK p q st b = BrS b p q st := eqS rfl
def GuardGo (d : Option Tmp) (st : St) (want : Bool) (p q : St → Prop) : Prop := OptK (match d with | none => some false | some d => wantB (st.tm d) want) (brK p q st)
@[go_sem ↓] theorem awpS_guard (dst : Option Tmp) (op : Op) (ty : TypeId) (pos : String) (after : Array Edge) (l : List Oper) (j : Nat) (want : Bool) (ol : List Oper) :
    awpS P pl det ol.toArray (⟨dst, op, ty, pos, after, some (j, want)⟩ :: l) Q Qp st = GuardGo ((ol[j]?).bind (·.dst)) st want (runK P pl det ol.toArray dst op l Q Qp) (passK P pl det ol.toArray dst l Q Qp) := by
  simp only [awpS, awanted, GuardGo, List.getElem?_toArray]
  rfl
@[go_sem] theorem GuardGo_some (d : Tmp) (want : Bool) (p q : St → Prop) : GuardGo (some d) st want p q = OptK (wantB (st.tm d) want) (brK p q st) := eqS rfl
@[go_sem] theorem wantB_bool (b want : Bool) : wantB (.sc (.bool b)) want = some (b == want) := eqS rfl
@[go_sem] theorem wantB_undef (want : Bool) : wantB (.sc undef) want = some false := eqS rfl
end
def plc (l : List (Nat × Nat)) : Nat → Option (Nat × Nat) := fun i => l.toArray[i]?
def plA (s : Nat) : Nat → Option (Nat × Nat) := fun i => some (i * s, s)
@[go_sem] theorem plc_zero (p : Nat × Nat) (l : List (Nat × Nat)) : plc (p :: l) 0 = some p := by simp [plc]
@[go_sem] theorem plc_succ (p : Nat × Nat) (l : List (Nat × Nat)) (i : Nat) : plc (p :: l) (i + 1) = plc l i := by simp [plc]
@[go_sem] theorem plA_eq (s i : Nat) : plA s i = some (i * s, s) := eqS rfl
section
variable (st : St) (v : AV) (m : Mu)
@[go_sem] theorem put_tm (d i : Tmp) : (st.put (some d) v m).tm i = if i = d then v else st.tm i := eqS rfl
@[go_sem] theorem put_tm_none (i : Tmp) : (st.put none v m).tm i = st.tm i := eqS rfl
@[go_sem] theorem put_mu (d : Option Tmp) : (st.put d v m).mu = m := eqS rfl
@[go_sem] theorem st0_tm (args : List AV) (i : Tmp) : (st0 args m).tm i = (args[i]?).getD (.sc undef) := eqS rfl
@[go_sem] theorem st0_mu (args : List AV) : (st0 args m).mu = m := eqS rfl
@[go_sem] theorem ev_tmp (t : Tmp) : st.ev (.tmp t) = st.tm t := eqS rfl
@[go_sem] theorem ev_const (c : Value) : st.ev (.const c) = ofV c := eqS rfl
@[go_sem] theorem ev_func (f : FuncId) : st.ev (.func f) = .fn (.func f) [] [] := eqS rfl
@[go_sem] theorem ofV_int (k : IntKind) (n : Int) : ofV (.int k n) = .sc (.int k n) := eqS rfl
@[go_sem] theorem ofV_bool (b : Bool) : ofV (.bool b) = .sc (.bool b) := eqS rfl
@[go_sem] theorem ofV_string (s : ByteArray) : ofV (.string s) = .sc (.string s) := eqS rfl
@[go_sem] theorem ofV_nilSlice : ofV (.slice none 0 0) = .lst true [] := eqS rfl
@[go_sem] theorem ofV_nilIface : ofV .nilIface = .sc .nilIface := eqS rfl
@[go_sem] theorem ofV_nilFunc : ofV .nilFunc = .sc .nilFunc := eqS rfl
@[go_sem] theorem ofV_agg (cs : List Value) : ofV (.agg cs.toArray) = .agg (cs.map ofC) := eqS rfl
@[go_sem] theorem ofC_int (k : IntKind) (n : Int) : ofC (.int k n) = .sc (.int k n) := eqS rfl
@[go_sem] theorem ofC_bool (b : Bool) : ofC (.bool b) = .sc (.bool b) := eqS rfl
@[go_sem] theorem ofC_string (s : ByteArray) : ofC (.string s) = .sc (.string s) := eqS rfl
@[go_sem] theorem ofC_nilSlice : ofC (.slice none 0 0) = .lst true [] := eqS rfl
end
section
variable (P : Program) (pl : Pol) (det : Bool) (dst : Option Tmp) (ev : Operand → AV) (mu : Mu) (K Kp : AV → Mu → Prop)
def km (K : AV → Mu → Prop) (mu : Mu) : AV → Prop := fun z => K z mu
def ks (K : AV → Mu → Prop) : Mu → Prop := fun m => K (.sc undef) m
def kp (K : AV → Mu → Prop) : AV × Mu → Prop := fun z => K z.1 z.2
def allocK (K : AV → Mu → Prop) (mu : Mu) : AV → Prop := fun z => z.cells.all AV.one = true ∧ K (.ptr mu.length 0) (mu ++ [.arr z.cells])
@[go_sem ↓] theorem km_eq (z : AV) : km K mu z = K z mu := eqS rfl
@[go_sem ↓] theorem ks_eq (m : Mu) : ks K m = K (.sc undef) m := eqS rfl
@[go_sem ↓] theorem kp_eq (z : AV) (m : Mu) : kp K (z, m) = K z m := eqS rfl
@[go_sem ↓] theorem allocK_eq (z : AV) : allocK K mu z = (z.cells.all AV.one = true ∧ K (.ptr mu.length 0) (mu ++ [.arr z.cells])) := eqS rfl
@[go_sem ↓] theorem SStep_move (x : Operand) : SStep P pl det dst (.move x) ev mu K Kp = K (ev x) mu := eqS rfl
@[go_sem ↓] theorem SStep_assign (x : Operand) : SStep P pl det dst (.assign x) ev mu K Kp = K (ev x) mu := eqS rfl
def PickGo (v a b : AV) (k : AV → Prop) : Prop := ∃ t, v = .sc (.bool t) ∧ k (if t then a else b)
@[go_sem ↓] theorem SStep_pick (c a b : Operand) : SStep P pl det dst (.pick c a b) ev mu K Kp = PickGo (ev c) (ev a) (ev b) (km K mu) := eqS rfl
@[go_sem] theorem PickGo_bool (t : Bool) (a b : AV) (k : AV → Prop) : PickGo (.sc (.bool t)) a b k = k (if t then a else b) := by simp [PickGo]
@[go_sem ↓] theorem SStep_alloc (e : TypeId) : SStep P pl det dst (.alloc e) ev mu K Kp = OptK (zeroOf P e) (allocK K mu) := eqS rfl
@[go_sem ↓] theorem SStep_box (e : TypeId) (x : Operand) : SStep P pl det dst (.box e x) ev mu K Kp = ((ev x).cells.all AV.one = true ∧ (if (dst.any pl.mt.contains) = true then K (.ptr mu.length 0) (mu ++ [.arr (ev x).cells]) else K (.ip (ev x).cells) mu)) := eqS rfl
@[go_sem ↓] theorem SStep_build (t : TypeId) (ps : List (Nat × Operand)) : SStep P pl det dst (.build t ps.toArray) ev mu K Kp = (zerosOk P t = true ∧ OptK (buildA P t (ps.map fun p => (p.1, ev p.2))) (km K mu)) := eqS rfl
@[go_sem ↓] theorem SStep_buildSlice (t : TypeId) (n : Nat) (ps : List (Nat × Operand)) : SStep P pl det dst (.buildSlice t n ps.toArray) ev mu K Kp = OptK (buildSliceA P t n (ps.map fun p => (p.1, ev p.2))) (km K mu) := eqS rfl
@[go_sem ↓] theorem SStep_load (t : TypeId) (x : Operand) : SStep P pl det dst (.load t x) ev mu K Kp = OptK (loadA P mu t (ev x)) (km K mu) := eqS rfl
@[go_sem ↓] theorem SStep_store (t : TypeId) (a x : Operand) : SStep P pl det dst (.store t a x) ev mu K Kp = OptK (storeA P mu t (ev a) (ev x)) (ks K) := eqS rfl
@[go_sem ↓] theorem SStep_nilCheck (x : Operand) : SStep P pl det dst (.nilCheck x) ev mu K Kp = OptK (nilCheckA (ev x)) (km K mu) := eqS rfl
def BinGo (P : Program) (det : Bool) (op : BinOp) (t : TypeId) (x y : Operand) (ev : Operand → AV) (mu : Mu) (K : AV → Mu → Prop) : Prop := if isNilSlice y = true then NilGo P det op t (ev x) (km K mu) else OptK (aBinX P op t (ev x) (ev y)) (km K mu)
@[go_sem ↓] theorem SStep_binOp (op : BinOp) (t yt : TypeId) (x y : Operand) : SStep P pl det dst (.binOp op t x y yt) ev mu K Kp = BinGo P det op t x y ev mu K := eqS rfl
@[go_sem ↓] theorem BinGo_tmp (op : BinOp) (t : TypeId) (x : Operand) (u : Tmp) : BinGo P det op t x (.tmp u) ev mu K = OptK (aBinX P op t (ev x) (ev (.tmp u))) (km K mu) := by simp [BinGo, isNilSlice]
@[go_sem ↓] theorem BinGo_int (op : BinOp) (t : TypeId) (x : Operand) (k : IntKind) (n : Int) : BinGo P det op t x (.const (.int k n)) ev mu K = OptK (aBinX P op t (ev x) (ev (.const (.int k n)))) (km K mu) := by simp [BinGo, isNilSlice]
@[go_sem ↓] theorem BinGo_bool (op : BinOp) (t : TypeId) (x : Operand) (b : Bool) : BinGo P det op t x (.const (.bool b)) ev mu K = OptK (aBinX P op t (ev x) (ev (.const (.bool b)))) (km K mu) := by simp [BinGo, isNilSlice]
@[go_sem ↓] theorem BinGo_string (op : BinOp) (t : TypeId) (x : Operand) (s : ByteArray) : BinGo P det op t x (.const (.string s)) ev mu K = OptK (aBinX P op t (ev x) (ev (.const (.string s)))) (km K mu) := by simp [BinGo, isNilSlice]
@[go_sem ↓] theorem BinGo_nilIface (op : BinOp) (t : TypeId) (x : Operand) : BinGo P det op t x (.const .nilIface) ev mu K = OptK (aBinX P op t (ev x) (ev (.const .nilIface))) (km K mu) := by simp [BinGo, isNilSlice]
@[go_sem ↓] theorem BinGo_nilPtr (op : BinOp) (t : TypeId) (x : Operand) : BinGo P det op t x (.const (.pointer none)) ev mu K = OptK (aBinX P op t (ev x) (ev (.const (.pointer none)))) (km K mu) := by simp [BinGo, isNilSlice]
@[go_sem ↓] theorem BinGo_nil (op : BinOp) (t : TypeId) (x : Operand) : BinGo P det op t x (.const (.slice none 0 0)) ev mu K = NilGo P det op t (ev x) (km K mu) := by simp [BinGo, isNilSlice]
@[go_sem] theorem NilGo_cons (op : BinOp) (t : TypeId) (f : Bool) (r : List AV) (xs : List (List AV)) (k : AV → Prop) : NilGo P det op t (.lst f (r :: xs)) k = ((sliceOf P t).isSome = true ∧ (op = .eql ∨ op = .neq) ∧ k (.sc (.bool (decide (op = .neq))))) := eqS rfl
@[go_sem] theorem NilGo_nil (op : BinOp) (t : TypeId) (f : Bool) (k : AV → Prop) : NilGo P det op t (.lst f []) k = ((sliceOf P t).isSome = true ∧ (op = .eql ∨ op = .neq) ∧ det = false ∧ k (.sc (.bool true)) ∧ k (.sc (.bool false))) := eqS rfl
@[go_sem] theorem NilGo_sl (op : BinOp) (t : TypeId) (b sz off len : Nat) (k : AV → Prop) : NilGo P det op t (.sl b sz off len) k = ((sliceOf P t).isSome = true ∧ (op = .eql ∨ op = .neq) ∧ k (.sc (.bool (decide (op = .neq))))) := eqS rfl
@[go_sem ↓] theorem SStep_unOp (op : UnOp) (t : TypeId) (x : Operand) : SStep P pl det dst (.unOp op t x) ev mu K Kp = OptK (aUn op (ev x)) (km K mu) := eqS rfl
@[go_sem ↓] theorem SStep_convert (s t : TypeId) (x : Operand) : SStep P pl det dst (.convert s t x) ev mu K Kp = ((P.underlying s).isSome = true ∧ OptK (aConv P t (ev x)) (km K mu)) := eqS rfl
@[go_sem ↓] theorem SStep_makeInterface (t : TypeId) (x : Operand) : SStep P pl det dst (.makeInterface t x) ev mu K Kp = (concreteT P t = true ∧ K (.ifc t (ev x)) mu) := eqS rfl
@[go_sem ↓] theorem SStep_makeFunc (f : Fn) (a b : List Operand) : SStep P pl det dst (.makeFunc f a.toArray b.toArray) ev mu K Kp = K (.fn f (evs ev a) (evs ev b)) mu := eqS rfl
@[go_sem ↓] theorem SStep_makeSlice (t : TypeId) (l c : Operand) : SStep P pl det dst (.makeSlice t l c) ev mu K Kp = OptK (makeSliceA P mu t (ev l) (ev c)) (kp K) := eqS rfl
@[go_sem ↓] theorem SStep_slice (t : TypeId) (x : Operand) (lo hi mx : Option Operand) : SStep P pl det dst (.slice t x lo hi mx) ev mu K Kp = (RowsCond P t (ev x) ∧ OptK (sliceA P t (ev x) (lo.map ev) (hi.map ev) (mx.map ev)) (km K mu)) := eqS rfl
@[go_sem ↓] theorem SStep_fieldAddr (t : TypeId) (x : Operand) (f : Nat) : SStep P pl det dst (.fieldAddr t x f) ev mu K Kp = OptK (fieldAddrA P t f (ev x)) (km K mu) := eqS rfl
@[go_sem ↓] theorem SStep_field (t : TypeId) (x : Operand) (f : Nat) : SStep P pl det dst (.field t x f) ev mu K Kp = OptK (fieldA P t f (ev x)) (km K mu) := eqS rfl
@[go_sem ↓] theorem SStep_indexAddr (t : TypeId) (x i : Operand) : SStep P pl det dst (.indexAddr t x i) ev mu K Kp = OptK (indexAddrA P t (ev x) (ev i)) (km K mu) := eqS rfl
@[go_sem ↓] theorem SStep_index (t : TypeId) (x i : Operand) : SStep P pl det dst (.index t x i) ev mu K Kp = OptK (indexA P t (ev x) (ev i)) (km K mu) := eqS rfl
@[go_sem ↓] theorem SStep_extract (x : Operand) (i : Nat) : SStep P pl det dst (.extract x i) ev mu K Kp = OptK (extractA i (ev x)) (km K mu) := eqS rfl
@[go_sem ↓] theorem SStep_typeAssert (x : Operand) (xt t : TypeId) (ok : Bool) : SStep P pl det dst (.typeAssert x xt t ok) ev mu K Kp = OptK (typeAssertA P t ok (ev x)) (km K mu) := eqS rfl
@[go_sem ↓] theorem SStep_makeMap (t : TypeId) : SStep P pl det dst (.makeMap t none) ev mu K Kp = K (.mp mu.length) (mu ++ [.mp []]) := by
  simp only [SStep, true_and]
@[go_sem ↓] theorem SStep_lookup (t : TypeId) (m k : Operand) (ok : Bool) : SStep P pl det dst (.lookup t m k ok) ev mu K Kp = OptK (lookupA P mu t (ev m) (ev k) ok) (km K mu) := eqS rfl
@[go_sem ↓] theorem SStep_mapUpdate (t : TypeId) (m k v : Operand) : SStep P pl det dst (.mapUpdate t m k v) ev mu K Kp = OptK (mapUpdateA P mu t (ev m) (ev k) (ev v)) (ks K) := eqS rfl
@[go_sem ↓] theorem SStep_insert (t : TypeId) (m k v : Operand) : SStep P pl det dst (.insert t m k v) ev mu K Kp = OptK (mapUpdateA P mu t (ev m) (ev k) (ev v)) (ks K) := eqS rfl
@[go_sem ↓] theorem SStep_mapEntry (t : TypeId) (m k : Operand) : SStep P pl det dst (.mapEntry t m k) ev mu K Kp = OptK (mapEntryA P mu t (ev m) (ev k)) (kp K) := eqS rfl
@[go_sem ↓] theorem SStep_entryStore (t : TypeId) (m s v : Operand) : SStep P pl det dst (.entryStore t m s v) ev mu K Kp = OptK (entryStoreA mu (ev m) (ev s) (ev v)) (ks K) := eqS rfl
@[go_sem ↓] theorem SStep_range (t : TypeId) (m : Operand) : SStep P pl det dst (.range t m) ev mu K Kp = OptK (rangeA P mu t (ev m)) (kp K) := eqS rfl
@[go_sem ↓] theorem SStep_next (i : Operand) : SStep P pl false dst (.next i false) ev mu K Kp = NextStep mu (ev i) K := by
  simp only [SStep, true_and]
@[go_sem ↓] theorem SStep_entry (i : Operand) : SStep P pl det dst (.entry i) ev mu K Kp = OptK (entryA mu (ev i)) (km K mu) := eqS rfl
@[go_sem ↓] theorem SStep_panic (x : Operand) : SStep P pl det dst (.panic x) ev mu K Kp = (det = false ∧ ∃ t v, ev x = .ifc t v ∧ Kp (.ifc t v) mu) := eqS rfl
@[go_sem ↓] theorem SStep_call (f : Operand) (aas : List Operand) (ats : Array TypeId) : SStep P pl det dst (.call ⟨.value f, aas.toArray, ats⟩) ev mu K Kp = CallStep P det mu (ev f) (evs ev aas) K Kp := eqS rfl
def AppGo (P : Program) (mu : Mu) (ats : Array TypeId) (l : List AV) (K : AV → Mu → Prop) : Prop := ∃ s x, l = [s, x] ∧ AppendStep P mu ats s x K
@[go_sem ↓] theorem SStep_append (aas : List Operand) (ats : Array TypeId) : SStep P pl det dst (.call ⟨.builtin .append, aas.toArray, ats⟩) ev mu K Kp = AppGo P mu ats (evs ev aas) K := eqS rfl
@[go_sem] theorem AppGo_eq (ats : Array TypeId) (s x : AV) : AppGo P mu ats [s, x] K = AppendStep P mu ats s x K :=
  propext ⟨fun ⟨_, _, e, h⟩ => by cases e; exact h, fun h => ⟨s, x, rfl, h⟩⟩
@[go_sem ↓] theorem SStep_copy (aas : List Operand) (ats : Array TypeId) : SStep P pl det dst (.call ⟨.builtin .copy, aas.toArray, ats⟩) ev mu K Kp = ExtGo P mu .copy ats (evs ev aas) K := eqS rfl
@[go_sem ↓] theorem SStep_delete (aas : List Operand) (ats : Array TypeId) : SStep P pl det dst (.call ⟨.builtin .delete, aas.toArray, ats⟩) ev mu K Kp = ExtGo P mu .delete ats (evs ev aas) K := eqS rfl
theorem ExtGo_delete {P : Program} {mu : Mu} {K : AV → Mu → Prop} {t t' kt et : TypeId} {b : Nat} {es : List (AV × AV)} {k : AV} {r : Option Nat} (ht : mapT P t = some (kt, et)) (hc : mu[b]? = some (.mp es)) (hk : keyOk P kt k = true) (hf : findA P kt k es 0 = some r)
    (kk : K (.tup []) (mu.set b (.md (delE es r)))) : ExtGo P mu .delete #[t, t'] [.mp b, k] K := ⟨_, _, .delete ht hc hk hf, kk⟩
theorem ExtGo_copy {P : Program} {mu : Mu} {K : AV → Mu → Prop} {t t' : TypeId} {sz sz0 b off len : Nat} {cells : List AV} {ys : List (List AV)} {x : AV} (hs : (sliceOf P t).map (fun x => x.2.1) = some sz) (hc : mu[b]? = some (.arr cells)) (hl : off + len * sz ≤ cells.length)
      (hr : rowsOf mu x = some ys) (hw : rowsWf sz ys) (k : K (.sc (.int .i64 ((min ys.length len : Nat) : Int))) (mu.set b (.arr (putCells cells off (ys.take len).flatten)))) : ExtGo P mu .copy #[t, t'] [.sl b sz0 off len, x] K := by
  cases hq : sliceOf P t with
  | none => simp [hq] at hs
  | some q =>
    obtain ⟨e, sz', bt⟩ := q
    simp only [hq, Option.map_some, Option.some.injEq] at hs
    subst hs
    exact ⟨_, _, .copy hq hc hl hr hw, k⟩
@[go_sem ↓] theorem SStep_len (aas : List Operand) (ats : Array TypeId) : SStep P pl det dst (.call ⟨.builtin .len, aas.toArray, ats⟩) ev mu K Kp = OptK (builtinA P mu .len ats (evs ev aas)) (km K mu) := eqS rfl
@[go_sem ↓] theorem SStep_cap (aas : List Operand) (ats : Array TypeId) : SStep P pl det dst (.call ⟨.builtin .cap, aas.toArray, ats⟩) ev mu K Kp = OptK (builtinA P mu .cap ats (evs ev aas)) (km K mu) := eqS rfl
@[go_sem ↓] theorem SStep_min (aas : List Operand) (ats : Array TypeId) : SStep P pl det dst (.call ⟨.builtin .min, aas.toArray, ats⟩) ev mu K Kp = OptK (builtinA P mu .min ats (evs ev aas)) (km K mu) := eqS rfl
@[go_sem ↓] theorem SStep_max (aas : List Operand) (ats : Array TypeId) : SStep P pl det dst (.call ⟨.builtin .max, aas.toArray, ats⟩) ev mu K Kp = OptK (builtinA P mu .max ats (evs ev aas)) (km K mu) := eqS rfl
@[go_sem] theorem evs_nil : evs ev [] = [] := eqS rfl
@[go_sem] theorem evs_cons (x : Operand) (l : List Operand) : evs ev (x :: l) = ev x :: evs ev l := eqS rfl
end
@[go_sem] theorem cells_agg (cs : List AV) : (AV.agg cs).cells = cs := eqS rfl
@[go_sem] theorem cells_sc (v : Value) : (AV.sc v).cells = [.sc v] := eqS rfl
@[go_sem] theorem cells_any : (AV.any).cells = [.any] := eqS rfl
@[go_sem] theorem cells_lst (f : Bool) (xs : List (List AV)) : (AV.lst f xs).cells = [.lst f xs] := eqS rfl
@[go_sem] theorem cells_sl (b sz off len : Nat) : (AV.sl b sz off len).cells = [.sl b sz off len] := eqS rfl
@[go_sem] theorem cells_ip (cs : List AV) : (AV.ip cs).cells = [.ip cs] := eqS rfl
@[go_sem] theorem cells_ptr (b o : Nat) : (AV.ptr b o).cells = [.ptr b o] := eqS rfl
@[go_sem] theorem cells_mp (b : Nat) : (AV.mp b).cells = [.mp b] := eqS rfl
@[go_sem] theorem cells_ims (es : List (AV × AV)) : (AV.ims es).cells = [.ims es] := eqS rfl
@[go_sem] theorem cells_im (es : List (AV × AV)) : (AV.im es).cells = [.im es] := eqS rfl
@[go_sem] theorem cells_fn (f : Fn) (a b : List AV) : (AV.fn f a b).cells = [.fn f a b] := eqS rfl
@[go_sem] theorem cells_ifc (t : TypeId) (v : AV) : (AV.ifc t v).cells = [.ifc t v] := eqS rfl
@[go_sem] theorem one_int (k : IntKind) (n : Int) : (AV.sc (.int k n)).one = true := eqS rfl
@[go_sem] theorem one_bool (b : Bool) : (AV.sc (.bool b)).one = true := eqS rfl
@[go_sem] theorem one_string (s : ByteArray) : (AV.sc (.string s)).one = true := eqS rfl
@[go_sem] theorem one_nilIface : (AV.sc .nilIface).one = true := eqS rfl
@[go_sem] theorem one_nilFunc : (AV.sc .nilFunc).one = true := eqS rfl
@[go_sem] theorem one_nilPtr : (AV.sc (.pointer none)).one = true := eqS rfl
@[go_sem] theorem one_nilMap : (AV.sc (.map none)).one = true := eqS rfl
@[go_sem] theorem one_lst (f : Bool) (xs : List (List AV)) : (AV.lst f xs).one = true := eqS rfl
@[go_sem] theorem one_sl (b sz off len : Nat) : (AV.sl b sz off len).one = true := eqS rfl
@[go_sem] theorem one_ip (cs : List AV) : (AV.ip cs).one = true := eqS rfl
@[go_sem] theorem one_ptr (b o : Nat) : (AV.ptr b o).one = true := eqS rfl
@[go_sem] theorem one_mp (b : Nat) : (AV.mp b).one = true := eqS rfl
@[go_sem] theorem one_ims (es : List (AV × AV)) : (AV.ims es).one = true := eqS rfl
@[go_sem] theorem one_im (es : List (AV × AV)) : (AV.im es).one = true := eqS rfl
@[go_sem] theorem one_fn (f : Fn) (a b : List AV) : (AV.fn f a b).one = true := eqS rfl
@[go_sem] theorem one_ifc (t : TypeId) (v : AV) : (AV.ifc t v).one = true := eqS rfl
end Go.Ev


namespace Go.Ev
open Go Go.RowKit
theorem SStep.mono {P : Program} {pl : Pol} {det : Bool} {dst : Option Tmp} {op : Op} {ev : Operand → AV} {mu : Mu} {K K' Kp Kp' : AV → Mu → Prop} (h : SStep P pl det dst op ev mu K Kp)
    (hK : ∀ v m, K v m → K' v m) (hKp : ∀ v m, Kp v m → Kp' v m) : SStep P pl det dst op ev mu K' Kp' := by
  cases op <;> simp only [SStep] at h ⊢ <;> try (exact h.elim)
  case move => exact hK _ _ h
  case assign => exact hK _ _ h
  case makeFunc => exact hK _ _ h
  case pick => obtain ⟨t, h1, h2⟩ := h; exact ⟨t, h1, hK _ _ h2⟩
  case alloc => obtain ⟨z, h1, h2, h3⟩ := h; exact ⟨z, h1, h2, hK _ _ h3⟩
  case box =>
    obtain ⟨h1, h2⟩ := h
    refine ⟨h1, ?_⟩
    split at h2
    · rename_i hc; rw [if_pos hc]; exact hK _ _ h2
    · rename_i hc; rw [if_neg hc]; exact hK _ _ h2
  case build => obtain ⟨h0, z, h1, h2⟩ := h; exact ⟨h0, z, h1, hK _ _ h2⟩
  case buildSlice => obtain ⟨z, h1, h2⟩ := h; exact ⟨z, h1, hK _ _ h2⟩
  case load => obtain ⟨z, h1, h2⟩ := h; exact ⟨z, h1, hK _ _ h2⟩
  case store => obtain ⟨z, h1, h2⟩ := h; exact ⟨z, h1, hK _ _ h2⟩
  case nilCheck => obtain ⟨z, h1, h2⟩ := h; exact ⟨z, h1, hK _ _ h2⟩
  case binOp =>
    split at h
    · rename_i hy
      simp only [if_pos hy]
      exact h.mono fun z hz => hK _ _ hz
    · rename_i hy
      simp only [if_neg hy]
      obtain ⟨z, h1, h2⟩ := h; exact ⟨z, h1, hK _ _ h2⟩
  case unOp => obtain ⟨z, h1, h2⟩ := h; exact ⟨z, h1, hK _ _ h2⟩
  case convert => obtain ⟨h0, z, h1, h2⟩ := h; exact ⟨h0, z, h1, hK _ _ h2⟩
  case makeInterface => obtain ⟨h0, h2⟩ := h; exact ⟨h0, hK _ _ h2⟩
  case makeSlice => obtain ⟨z, h1, h2⟩ := h; exact ⟨z, h1, hK _ _ h2⟩
  case slice => obtain ⟨h0, z, h1, h2⟩ := h; exact ⟨h0, z, h1, hK _ _ h2⟩
  case fieldAddr => obtain ⟨z, h1, h2⟩ := h; exact ⟨z, h1, hK _ _ h2⟩
  case field => obtain ⟨z, h1, h2⟩ := h; exact ⟨z, h1, hK _ _ h2⟩
  case indexAddr => obtain ⟨z, h1, h2⟩ := h; exact ⟨z, h1, hK _ _ h2⟩
  case index => obtain ⟨z, h1, h2⟩ := h; exact ⟨z, h1, hK _ _ h2⟩
  case extract => obtain ⟨z, h1, h2⟩ := h; exact ⟨z, h1, hK _ _ h2⟩
  case typeAssert => obtain ⟨z, h1, h2⟩ := h; exact ⟨z, h1, hK _ _ h2⟩
  case makeMap => obtain ⟨h0, h2⟩ := h; exact ⟨h0, hK _ _ h2⟩
  case lookup => obtain ⟨z, h1, h2⟩ := h; exact ⟨z, h1, hK _ _ h2⟩
  case mapUpdate => obtain ⟨z, h1, h2⟩ := h; exact ⟨z, h1, hK _ _ h2⟩
  case insert => obtain ⟨z, h1, h2⟩ := h; exact ⟨z, h1, hK _ _ h2⟩
  case mapEntry => obtain ⟨z, h1, h2⟩ := h; exact ⟨z, h1, hK _ _ h2⟩
  case entryStore => obtain ⟨z, h1, h2⟩ := h; exact ⟨z, h1, hK _ _ h2⟩
  case range => obtain ⟨z, h1, h2⟩ := h; exact ⟨z, h1, hK _ _ h2⟩
  case next => obtain ⟨h0, h00, b, es, seen, h1, h2, h3, h4⟩ := h; exact ⟨h0, h00, b, es, seen, h1, h2, fun i e a c => hK _ _ (h3 i e a c), fun a => hK _ _ (h4 a)⟩
  case entry => obtain ⟨z, h1, h2⟩ := h; exact ⟨z, h1, hK _ _ h2⟩
  case panic => obtain ⟨h0, t, v, h1, h2⟩ := h; exact ⟨h0, t, v, h1, hKp _ _ h2⟩
  case call c =>
    obtain ⟨callee, args, ats⟩ := c
    cases callee with
    | invoke r m => exact h.elim
    | value f =>
      rcases h with ⟨v, h1, h2⟩ | ⟨h1, ⟨g, fi, ca, R, h2, h3, h4, h5⟩ | ⟨i, R, h2, h3, h4⟩⟩
      · exact .inl ⟨v, h1, hK _ _ h2⟩
      · exact .inr ⟨h1, .inl ⟨g, fi, ca, R, h2, h3, fun r m h => hK _ _ (h4 r m h), fun r m h => hKp _ _ (h5 r m h)⟩⟩
      · exact .inr ⟨h1, .inr ⟨i, R, h2, h3, fun b m h => hK _ _ (h4 b m h)⟩⟩
    | builtin b =>
      cases b <;> simp only at h ⊢ <;> try (first | (obtain ⟨z, m, h1, h2⟩ := h; exact ⟨z, m, h1, hK _ _ h2⟩) | (obtain ⟨z, h1, h2⟩ := h; exact ⟨z, h1, hK _ _ h2⟩))
      obtain ⟨s, x, h1, h⟩ := h
      exact ⟨s, x, h1, h.mono hK⟩
theorem awpS.mono {P : Program} {pl : Pol} {det : Bool} {ops : Array Oper} {Q Q' : St → Prop} {Qp Qp' : AV → St → Prop} (hQ : ∀ st, Q st → Q' st) (hQp : ∀ v st, Qp v st → Qp' v st) :
    ∀ (l : List Oper) (st : St), awpS P pl det ops l Q Qp st → awpS P pl det ops l Q' Qp' st := by
  intro l
  induction l with
  | nil => intro st h; exact hQ st h
  | cons o l ih =>
    intro st ⟨b, h0, h1, h2⟩
    exact ⟨b, h0, fun e => (h1 e).mono (fun v m h => ih _ h) (fun v m h => hQp _ _ h), fun e => ih _ (h2 e)⟩
theorem awpQ.mono {P : Program} {pl : Pol} {Q Q' : St → Prop} {Qp Qp' : AV → St → Prop} (hQ : ∀ st, Q st → Q' st) (hQp : ∀ v st, Qp v st → Qp' v st) :
    ∀ (l : List (Bool × Oper)) (st : St), awpQ P pl l Q Qp st → awpQ P pl l Q' Qp' st := by
  intro l
  induction l with
  | nil => intro st h; exact hQ st h
  | cons o l ih =>
    intro st h
    obtain ⟨q, o⟩ := o
    exact SStep.mono h (fun v m h => ⟨h.1, ih _ h.2⟩) (fun v m h tm => hQp _ _ (h tm))
theorem awp.mono {P : Program} {pl : Pol} : ∀ (c : Code) {Q Q' : AExit → St → Prop} {st : St}, awp P pl c Q st → (∀ e st, Q e st → Q' e st) → awp P pl c Q' st := by
  intro c
  induction c with
  | skip => intro Q Q' st h hq; exact hq _ _ h
  | label l => intro Q Q' st h hq; exact hq _ _ h
  | exit i => intro Q Q' st h hq; exact hq _ _ h
  | ret => intro Q Q' st h hq; exact hq _ _ h
  | region id ops draw =>
    intro Q Q' st h hq
    rcases h with ⟨h1, h2⟩ | ⟨h1, h2⟩
    · exact .inl ⟨h1, awpS.mono (fun st h => hq _ _ h) (fun v st h => hq _ _ h) _ _ h2⟩
    · obtain ⟨st1, hf1, h2⟩ := h2
      refine .inr ⟨h1, st1, hf1, ?_⟩
      rcases h2 with (⟨h3, h4⟩ | ⟨a, d, h3, hd, h4, h5, h6⟩ | ⟨n, h3, h4⟩) | ⟨X, h3, h4⟩
      · exact .inl (.inl ⟨h3, awpS.mono (fun st h => hq _ _ h) (fun v st h => hq _ _ h) _ _ h4⟩)
      · exact .inl (.inr (.inl ⟨a, d, h3, hd, h4, awpS.mono (fun st h => hq _ _ h) (fun v st h => hq _ _ h) _ _ h5, awpS.mono (fun st h => hq _ _ h) (fun v st h => hq _ _ h) _ _ h6⟩))
      · exact .inl (.inr (.inr ⟨n, h3, awpS.mono (fun st h => awpS.mono (fun st h => hq _ _ h) (fun v st h => hq _ _ h) _ _ h) (fun v st h => hq _ _ h) _ _ h4⟩))
      · exact .inr ⟨X, h3, awpS.mono (fun st h => awpQ.mono (fun st h => hq _ _ h) (fun v st h => hq _ _ h) _ _ h) (fun _ _ h => h) _ _ h4⟩
  | seq a b iha ihb =>
    intro Q Q' st h hq
    refine iha (Q := seqQ (awp P pl b Q) Q) h (fun e st h => ?_)
    cases e with
    | normal => exact ihb h hq
    | exit i => exact hq _ _ h
    | ret => exact hq _ _ h
    | pan v => exact hq _ _ h
  | cond cnd a b iha ihb => intro Q Q' st ⟨t, h0, h1, h2⟩ hq; exact ⟨t, h0, fun e => iha (h1 e) hq, fun e => ihb (h2 e) hq⟩
  | block id b ih =>
    intro Q Q' st h hq
    refine ih (Q := blockQ id Q) h (fun e st h => ?_)
    cases e with
    | normal => exact hq _ _ h
    | exit i =>
      simp only [blockQ] at h ⊢
      split at h
      · rename_i hi; rw [if_pos hi]; exact hq _ _ h
      · rename_i hi; rw [if_neg hi]; exact hq _ _ h
    | ret => exact hq _ _ h
    | pan v => exact hq _ _ h
  | loop b ih =>
    intro Q Q' st ⟨z, I, n, st1, hf1, h0, h1⟩ hq
    have hq : ∀ e st, fzQ z Q e st → fzQ z Q' e st := fun e st h => by
      cases z with
      | false => exact hq e st h
      | true => exact ⟨h.choose, h.choose_spec.1, h.choose_spec.2.1, hq e _ h.choose_spec.2.2⟩
    refine ⟨z, I, n, st1, hf1, h0, fun n st hI => ih (Q := loopQ I n (fzQ z Q)) (h1 n st hI) (fun e st h => ?_)⟩
    cases e with
    | normal => exact h
    | exit i => exact hq _ _ h
    | ret => exact hq _ _ h
    | pan v => exact hq _ _ h
  | scope b ih => intro Q Q' st h hq; exact ih h hq
  | rangeFunc f ps aas b ih1 ih2 =>
    intro Q Q' st ⟨z, gf, caps, rows, I, Ix, h1, h2, h3, h4, h5, h6, h7, h8⟩ hq
    have hq : ∀ e st, fzQ z Q e st → fzQ z Q' e st := fun e st h => by
      cases z with
      | false => exact hq e st h
      | true => exact ⟨h.choose, h.choose_spec.1, h.choose_spec.2.1, hq e _ h.choose_spec.2.2⟩
    exact ⟨z, gf, caps, rows, I, Ix, h1, h2, h3, h4, h5, h6, fun mu h => hq _ _ (h7 mu h), fun e mu h => hq _ _ (h8 e mu h)⟩
  | goto l => intro Q Q' st h hq; exact h.elim
  | refuse w => intro Q Q' st h hq; exact h.elim
def upQ (I : Nat → St → Prop) (N k : Nat) (Q : AExit → St → Prop) : AExit → St → Prop
  | .normal, st => k < N ∧ I (k + 1) st
  | e, st => Q e st
section
variable (Q : AExit → St → Prop) (st : St) (I : Nat → St → Prop) (N k : Nat)
@[go_sem ↓] theorem upQ_normal : upQ I N k Q .normal st = (k < N ∧ I (k + 1) st) := eqS rfl
@[go_sem ↓] theorem upQ_exit (i : Nat) : upQ I N k Q (.exit i) st = Q (.exit i) st := eqS rfl
@[go_sem ↓] theorem upQ_ret : upQ I N k Q .ret st = Q .ret st := eqS rfl
@[go_sem ↓] theorem upQ_pan (v : AV) : upQ I N k Q (.pan v) st = Q (.pan v) st := eqS rfl
end
theorem LoopGo.up {P : Program} {pl : Pol} {body : Code} {Q : AExit → St → Prop} {st : St} (N : Nat) (I : Nat → St → Prop) (h0 : I 0 st) (h : ∀ k st, k ≤ N → I k st → awp P pl body (upQ I N k Q) st) : LoopGo P pl body Q st := by
  refine LoopGo.intro (fun n st => ∃ k, n = N - k ∧ k ≤ N ∧ I k st) N ⟨0, by omega, by omega, h0⟩ ?_
  rintro n st ⟨k, rfl, hk, hI⟩
  refine awp.mono body (h k st hk hI) (fun e st he => ?_)
  cases e with
  | normal => exact ⟨N - (k + 1), by have := he.1; omega, k + 1, rfl, he.1, he.2⟩
  | exit i => exact he
  | ret => exact he
  | pan v => exact he
theorem cutM_none (mu : Mu) : ∀ k, cutM (fun i => !false) mu k = mu := by
  induction mu with
  | nil => intro k; rfl
  | cons c l ih =>
    intro k
    have := ih (k + 1)
    simp [cutM] at this ⊢
    exact this
theorem FzQ.skip {Q : AExit → St → Prop} {e : AExit} {st : St} (h : Q e st) : FzQ Q e st := by
  refine ⟨st, ⟨fun _ => false, (cutM_none _ 0).symm, fun i => .same _⟩, ?_, h⟩
  cases e <;> trivial
theorem FzQ.one {Q : AExit → St → Prop} {i d b : Nat} {x : AV} {st : St} (hr : Rd (cutM (fun j => j == b) st.mu 0) (st.tm d) x) (k : Q (.exit i) (st.put (some d) x (cutM (fun j => !(j == b)) st.mu 0))) : FzQ Q (.exit i) st := by
  refine ⟨_, ⟨fun j => j == b, rfl, fun j => ?_⟩, trivial, k⟩
  simp only [St.put]
  split
  · rename_i h; subst h; exact .rd _ _ hr
  · exact .same _
theorem CallStep.pure {P : Program} {det : Bool} {mu : Mu} {g : FuncId} {args args' : List AV} {v : AV} {K Kp : AV → Mu → Prop} (hs : SoundP P g args' v) (hw : WKs args args') (k : K v mu) :
    CallStep P det mu (.fn (.func g) [] []) args K Kp :=
  .inl ⟨v, .inl ⟨g, [], [], args', rfl, hs, .inl (by simpa using hw)⟩, k⟩
theorem CallStep.lend {P : Program} {det : Bool} {mu : Mu} {g : FuncId} {args args' : List AV} {v : AV} {K Kp : AV → Mu → Prop} (hs : SoundP P g args' v) (hw : Rds mu args args') (hf : FL v) (k : K v mu) :
    CallStep P det mu (.fn (.func g) [] []) args K Kp :=
  .inl ⟨v, .inl ⟨g, [], [], args', rfl, hs, .inr ⟨by simpa using hw, hf⟩⟩, k⟩
theorem CallStep.fresh {P : Program} {det : Bool} {mu : Mu} {g : FuncId} {args args' : List AV} {v : AV} {K Kp : AV → Mu → Prop} (hs : SoundF P g args' v) (hw : Rds mu args args') (k : K v mu) :
    CallStep P det mu (.fn (.func g) [] []) args K Kp :=
  .inl ⟨v, .inr ⟨g, [], [], args', rfl, hs, by simpa using hw⟩, k⟩
theorem CallStep.eff {P : Program} {mu : Mu} {g : FuncId} {caps args : List AV} {R : AEnd → Mu → Prop} {K Kp : AV → Mu → Prop} (hs : Sound P g (args ++ caps) mu R) (k : ∀ r m, R (.ret r) m → K r m) (kp : ∀ r m, R (.pan r) m → Kp r m) :
    CallStep P false mu (.fn (.func g) [] caps) args K Kp :=
  .inr ⟨rfl, .inl ⟨g, [], caps, R, rfl, by simpa using hs, k, kp⟩⟩
theorem CallStep.yield {P : Program} {mu : Mu} {i : Nat} {args : List AV} {R : Bool → Mu → Prop} {K Kp : AV → Mu → Prop} (h : YieldS P i args mu R) (k : ∀ b m, R b m → K (.sc (.bool b)) m) : CallStep P false mu (.yl i) args K Kp :=
  .inr ⟨rfl, .inr ⟨i, R, rfl, h, k⟩⟩
theorem WKs.args {G : Gh} {h : Array Obj} {xs ys : List AV} {vs : Array Value} (w : WKs xs ys) (r : ArgsRel G h xs vs) : ArgsRel G h ys vs := by
  obtain ⟨hn, hw⟩ := w.get
  refine ⟨by rw [hn]; exact r.1, fun k y hy => ?_⟩
  have hk : k < xs.length := by rw [← hn]; exact (List.getElem?_eq_some_iff.1 hy).1
  have hx : xs[k]? = some xs[k] := List.getElem?_eq_getElem hk
  exact VRel.le (G := ⟨G.imm, []⟩) (G' := G) ⟨fun _ h => h, fun i x hx => by simp at hx⟩ (hw k _ y hx hy G h _ (r.2 k _ hx))
theorem YieldS.wk {P : Program} {mu : Mu} {i : Nat} {args args' : List AV} {R : Bool → Mu → Prop} (h : YieldS P i args' mu R) (w : WKs args args') : YieldS P i args mu R :=
  fun G wd vs s ra l tot hb => h G wd vs s (w.args ra) l tot hb
theorem YieldS.hid {P : Program} {mu : Mu} {i j : Nat} {c : Cell} {args : List AV} {R : Bool → Mu → Prop} (hc : mu[j]? = some c) (hd : c ≠ .dead) (h : YieldS P i args (mu.set j .dead) R) : YieldS P i args mu fun b m' => ∃ m, R b m ∧ m[j]? = some .dead ∧ m' = m.set j c := by
  intro G w vs s ra l tot hb
  obtain ⟨fn, tmps, aas, body, h1, h2⟩ := h G w vs (s.hid j) ra l tot hb
  refine ⟨fn, tmps, aas, body, h1, h2.mono ?_⟩
  rintro e w' ⟨b, G', m, rfl, t, hR⟩
  have hj : j < G.blk.length := by rw [s.len]; exact (List.getElem?_eq_some_iff.1 hc).1
  obtain ⟨g1, g2, g3⟩ := t.unhid s hc hd (b := (G.blk[j]'hj).1) (t := (G.blk[j]'hj).2) (by simp [hj])
  exact ⟨b, G', _, rfl, g3, m, hR, g1, rfl⟩
theorem IterOk.of {P : Program} {f : FuncId} {caps : List AV} {rows : List (List AV)} (hcal : Callable P f)
    (h : ∀ (i : Nat) (I : Nat → Mu → Prop) (Ix : Mu → Prop), (∀ k mu, I k mu → I k (mu ++ [.dead])) → (∀ mu, Ix mu → Ix (mu ++ [.dead])) → Yld P i rows I Ix → ∀ mu, I 0 mu →
      Sound P f (.yl i :: caps) mu fun e mu' => ∃ r, e = .ret r ∧ (I rows.length mu' ∨ Ix mu')) : IterOk P f caps rows := ⟨hcal, h⟩
theorem WKs.nil : WKs [] [] := trivial
theorem WKs.cons {x y : AV} {xs ys : List AV} (h : WK x y) (t : WKs xs ys) : WKs (x :: xs) (y :: ys) := ⟨h, t⟩
def Own (mu : Mu) (sz : Nat) (av : AV) (xs : List (List AV)) : Prop :=
  (av = .lst true xs) ∨ ∃ b, av = .sl b sz 0 xs.length ∧ mu[b]? = some (.arr xs.flatten)
theorem AppendStep.own {P : Program} {mu : Mu} {t t' e sz bt : Nat} {s x : AV} {xs ys : List (List AV)} {zv : AV} {K : AV → Mu → Prop} (hs : sliceOf P t = some (e, sz, bt)) (hs' : (sliceOf P t').isSome = true) (hz : zeroOf P e = some zv)
    (hz1 : zv.cells.length = sz) (hz2 : zv.cells.all AV.one = true) (hz0 : sz ≠ 0) (hb : bt ≤ 16384) (ho : Own mu sz s xs) (hx : rowsOf mu x = some ys) (wx : rowsWf sz xs) (wy : rowsWf sz ys) (hl : xs.length + ys.length ≤ 4294967296)
    (k : ∀ av mu', Own mu' sz av (xs ++ ys) → (∀ i, i < mu.length → (∀ off len, s ≠ .sl i sz off len) → mu'[i]? = mu[i]?) → mu.length ≤ mu'.length → K av mu') : AppendStep P mu #[t, t'] s x K := by
  refine .inl ?_
  refine ⟨t, t', e, sz, bt, ys, rfl, hs, hs', ⟨zv, hz, hz1, hz2⟩, hz0, hb, hx, wy, ?_⟩
  rcases ho with rfl | ⟨b, rfl, hc⟩
  · refine .inl ⟨xs, rfl, wx, hl, fun h => ?_, fun h => ?_⟩
    · subst h
      exact k _ _ (.inl (by simp)) (fun _ _ _ => rfl) (Nat.le_refl _)
    · refine k _ _ (.inr ⟨mu.length, by simp, by simp⟩) (fun i hi _ => ?_) (by simp)
      rw [List.getElem?_append_left hi]
  · have hfl := flatten_len wx.ok
    refine .inr ⟨b, xs.length, xs.flatten, rfl, hc, by omega, hl, ?_⟩
    have htk : xs.flatten.take (xs.length * sz) = xs.flatten := List.take_of_length_le (by omega)
    refine k _ _ (.inr ⟨mu.length, by simp, ?_⟩) (fun i hi hne => ?_) (by simp)
    · rw [htk, List.getElem?_append_right (by simp)]; simp
    · rw [List.getElem?_append_left (by simpa using hi)]
      rw [List.getElem?_set_ne (fun e => hne 0 xs.length (by rw [e]))]
theorem Own.rows {mu : Mu} {sz : Nat} {av : AV} {xs : List (List AV)} (h : Own mu sz av xs) (w : rowsOk sz xs) : rowsOf mu av = some xs := by
  rcases h with rfl | ⟨b, rfl, hc⟩
  · rfl
  · have hfl := flatten_len w
    simp only [rowsOf, hc]
    rw [if_pos (by omega)]
    congr 1
    apply List.ext_getElem?
    intro i
    by_cases hi : i < xs.length
    · simp only [List.getElem?_map, List.getElem?_range hi, Option.map_some, Nat.zero_add]
      rw [List.getElem?_eq_getElem hi]
      congr 1
      have hr := w _ (List.getElem_mem hi)
      rw [← flatten_drop w i, List.drop_eq_getElem_cons hi, List.flatten_cons, List.take_append_of_le_length (by omega), List.take_of_length_le (by omega)]
    · rw [List.getElem?_eq_none (by simp; omega), List.getElem?_eq_none (by omega)]
theorem Own.rd {mu : Mu} {sz : Nat} {av : AV} {xs : List (List AV)} (h : Own mu sz av xs) (w : rowsOk sz xs) (hf : ∀ r, r ∈ xs → ∀ c, c ∈ r → HF c) : Rd mu av (.lst false xs) := by
  rcases h with rfl | ⟨b, rfl, hc⟩
  · exact .wk _ true _ (.hf _ (HF.lst hf))
  · have hfl := flatten_len w
    refine .sl b sz 0 xs.length xs.flatten xs hc (by omega) rfl w (fun k x y hx hy => ?_)
    rw [Nat.zero_add, hy] at hx
    cases hx
    obtain ⟨r, hr, hxr⟩ := List.mem_flatten.1 (List.mem_of_getElem? hy)
    exact .hf _ (hf r hr _ hxr)
end Go.Ev


namespace Go.Proofs.YtcfopdccdeeleaaGreatDoor.Ty
open Go Go.Ev Go.Proofs
@[go_sem] theorem sz1 : szOf Tryz.prog 1 = some 1 := eqS (by kernel_rfl)
@[go_sem] theorem ag1 : aggOf Tryz.prog 1 = some false := eqS (by kernel_rfl)
@[go_sem] theorem ze1 : zeroOf Tryz.prog 1 = some (.sc .nilFunc) := eqS (by kernel_rfl)
@[go_sem] theorem co1 : concreteT Tryz.prog 1 = true := eqS (by kernel_rfl)
@[go_sem] theorem sl1 : sliceOf Tryz.prog 1 = none := eqS (by kernel_rfl)
@[go_sem] theorem sz2 : szOf Tryz.prog 2 = some 1 := eqS (by kernel_rfl)
@[go_sem] theorem ag2 : aggOf Tryz.prog 2 = some false := eqS (by kernel_rfl)
@[go_sem] theorem ze2 : zeroOf Tryz.prog 2 = some (.sc (.int .i64 0)) := eqS (by kernel_rfl)
@[go_sem] theorem co2 : concreteT Tryz.prog 2 = true := eqS (by kernel_rfl)
@[go_sem] theorem sl2 : sliceOf Tryz.prog 2 = none := eqS (by kernel_rfl)
@[go_sem] theorem un2 : Tryz.prog.underlying 2 = some (.int .i64) := eqS (by kernel_rfl)
@[go_sem] theorem sz3 : szOf Tryz.prog 3 = some 1 := eqS (by kernel_rfl)
@[go_sem] theorem ag3 : aggOf Tryz.prog 3 = some false := eqS (by kernel_rfl)
@[go_sem] theorem ze3 : zeroOf Tryz.prog 3 = some (.sc (.int .i64 0)) := eqS (by kernel_rfl)
@[go_sem] theorem co3 : concreteT Tryz.prog 3 = true := eqS (by kernel_rfl)
@[go_sem] theorem sl3 : sliceOf Tryz.prog 3 = none := eqS (by kernel_rfl)
@[go_sem] theorem un3 : Tryz.prog.underlying 3 = some (.int .i64) := eqS (by kernel_rfl)
@[go_sem] theorem sz4 : szOf Tryz.prog 4 = some 1 := eqS (by kernel_rfl)
@[go_sem] theorem ag4 : aggOf Tryz.prog 4 = some false := eqS (by kernel_rfl)
@[go_sem] theorem ze4 : zeroOf Tryz.prog 4 = some (.sc (.bool false)) := eqS (by kernel_rfl)
@[go_sem] theorem co4 : concreteT Tryz.prog 4 = true := eqS (by kernel_rfl)
@[go_sem] theorem sl4 : sliceOf Tryz.prog 4 = none := eqS (by kernel_rfl)
@[go_sem] theorem un4 : Tryz.prog.underlying 4 = some .bool := eqS (by kernel_rfl)
@[go_sem] theorem bo4 : isBoolT Tryz.prog 4 = true := eqS (by kernel_rfl)
@[go_sem] theorem sz5 : szOf Tryz.prog 5 = some 1 := eqS (by kernel_rfl)
@[go_sem] theorem ag5 : aggOf Tryz.prog 5 = some false := eqS (by kernel_rfl)
@[go_sem] theorem ze5 : zeroOf Tryz.prog 5 = some (.sc (.int .u8 0)) := eqS (by kernel_rfl)
@[go_sem] theorem co5 : concreteT Tryz.prog 5 = true := eqS (by kernel_rfl)
@[go_sem] theorem sl5 : sliceOf Tryz.prog 5 = none := eqS (by kernel_rfl)
@[go_sem] theorem un5 : Tryz.prog.underlying 5 = some (.int .u8) := eqS (by kernel_rfl)
@[go_sem] theorem sz6 : szOf Tryz.prog 6 = some 1 := eqS (by kernel_rfl)
@[go_sem] theorem ag6 : aggOf Tryz.prog 6 = some false := eqS (by kernel_rfl)
@[go_sem] theorem ze6 : zeroOf Tryz.prog 6 = some (.sc (.int .u8 0)) := eqS (by kernel_rfl)
@[go_sem] theorem co6 : concreteT Tryz.prog 6 = true := eqS (by kernel_rfl)
@[go_sem] theorem sl6 : sliceOf Tryz.prog 6 = none := eqS (by kernel_rfl)
@[go_sem] theorem un6 : Tryz.prog.underlying 6 = some (.int .u8) := eqS (by kernel_rfl)
@[go_sem] theorem sz7 : szOf Tryz.prog 7 = some 4 := eqS (by kernel_rfl)
@[go_sem] theorem ag7 : aggOf Tryz.prog 7 = some true := eqS (by kernel_rfl)
@[go_sem] theorem ze7 : zeroOf Tryz.prog 7 = some (.agg [.sc (.int .i64 0), .sc (.int .i64 0), .sc (.bool false), .sc (.int .u8 0)]) := eqS (by kernel_rfl)
@[go_sem] theorem co7 : concreteT Tryz.prog 7 = true := eqS (by kernel_rfl)
@[go_sem] theorem sl7 : sliceOf Tryz.prog 7 = none := eqS (by kernel_rfl)
@[go_sem] theorem pl7 : placeOf Tryz.prog 7 = some (plc [(0, 1), (1, 1), (2, 1), (3, 1)]) := eqS (by kernel_rfl)
@[go_sem] theorem fl7_0 : fldOf Tryz.prog 7 0 = some (0, 2, 1) := eqS (by kernel_rfl)
@[go_sem] theorem fl7_1 : fldOf Tryz.prog 7 1 = some (1, 3, 1) := eqS (by kernel_rfl)
@[go_sem] theorem fl7_2 : fldOf Tryz.prog 7 2 = some (2, 4, 1) := eqS (by kernel_rfl)
@[go_sem] theorem fl7_3 : fldOf Tryz.prog 7 3 = some (3, 6, 1) := eqS (by kernel_rfl)
@[go_sem] theorem zo7 : zerosOk Tryz.prog 7 = true := eqS (by kernel_rfl)
@[go_sem] theorem sz8 : szOf Tryz.prog 8 = some 4 := eqS (by kernel_rfl)
@[go_sem] theorem ag8 : aggOf Tryz.prog 8 = some true := eqS (by kernel_rfl)
@[go_sem] theorem ze8 : zeroOf Tryz.prog 8 = some (.agg [.sc (.int .i64 0), .sc (.int .i64 0), .sc (.bool false), .sc (.int .u8 0)]) := eqS (by kernel_rfl)
@[go_sem] theorem co8 : concreteT Tryz.prog 8 = true := eqS (by kernel_rfl)
@[go_sem] theorem sl8 : sliceOf Tryz.prog 8 = none := eqS (by kernel_rfl)
@[go_sem] theorem pl8 : placeOf Tryz.prog 8 = some (plc [(0, 1), (1, 1), (2, 1), (3, 1)]) := eqS (by kernel_rfl)
@[go_sem] theorem fl8_0 : fldOf Tryz.prog 8 0 = some (0, 2, 1) := eqS (by kernel_rfl)
@[go_sem] theorem fl8_1 : fldOf Tryz.prog 8 1 = some (1, 3, 1) := eqS (by kernel_rfl)
@[go_sem] theorem fl8_2 : fldOf Tryz.prog 8 2 = some (2, 4, 1) := eqS (by kernel_rfl)
@[go_sem] theorem fl8_3 : fldOf Tryz.prog 8 3 = some (3, 6, 1) := eqS (by kernel_rfl)
@[go_sem] theorem zo8 : zerosOk Tryz.prog 8 = true := eqS (by kernel_rfl)
@[go_sem] theorem sz9 : szOf Tryz.prog 9 = some 1 := eqS (by kernel_rfl)
@[go_sem] theorem ag9 : aggOf Tryz.prog 9 = some false := eqS (by kernel_rfl)
@[go_sem] theorem ze9 : zeroOf Tryz.prog 9 = some (.sc (.string ⟨#[]⟩)) := eqS (by kernel_rfl)
@[go_sem] theorem co9 : concreteT Tryz.prog 9 = true := eqS (by kernel_rfl)
@[go_sem] theorem sl9 : sliceOf Tryz.prog 9 = none := eqS (by kernel_rfl)
@[go_sem] theorem un9 : Tryz.prog.underlying 9 = some .string := eqS (by kernel_rfl)
@[go_sem] theorem sz10 : szOf Tryz.prog 10 = some 1 := eqS (by kernel_rfl)
@[go_sem] theorem ag10 : aggOf Tryz.prog 10 = some false := eqS (by kernel_rfl)
@[go_sem] theorem ze10 : zeroOf Tryz.prog 10 = some (.sc (.string ⟨#[]⟩)) := eqS (by kernel_rfl)
@[go_sem] theorem co10 : concreteT Tryz.prog 10 = true := eqS (by kernel_rfl)
@[go_sem] theorem sl10 : sliceOf Tryz.prog 10 = none := eqS (by kernel_rfl)
@[go_sem] theorem un10 : Tryz.prog.underlying 10 = some .string := eqS (by kernel_rfl)
@[go_sem] theorem sz11 : szOf Tryz.prog 11 = some 1 := eqS (by kernel_rfl)
@[go_sem] theorem ag11 : aggOf Tryz.prog 11 = some false := eqS (by kernel_rfl)
@[go_sem] theorem ze11 : zeroOf Tryz.prog 11 = some (.sc (.string ⟨#[]⟩)) := eqS (by kernel_rfl)
@[go_sem] theorem co11 : concreteT Tryz.prog 11 = true := eqS (by kernel_rfl)
@[go_sem] theorem sl11 : sliceOf Tryz.prog 11 = none := eqS (by kernel_rfl)
@[go_sem] theorem un11 : Tryz.prog.underlying 11 = some .string := eqS (by kernel_rfl)
@[go_sem] theorem sz12 : szOf Tryz.prog 12 = some 1 := eqS (by kernel_rfl)
@[go_sem] theorem ag12 : aggOf Tryz.prog 12 = some false := eqS (by kernel_rfl)
@[go_sem] theorem ze12 : zeroOf Tryz.prog 12 = some (.sc (.int .u64 0)) := eqS (by kernel_rfl)
@[go_sem] theorem co12 : concreteT Tryz.prog 12 = true := eqS (by kernel_rfl)
@[go_sem] theorem sl12 : sliceOf Tryz.prog 12 = none := eqS (by kernel_rfl)
@[go_sem] theorem un12 : Tryz.prog.underlying 12 = some (.int .u64) := eqS (by kernel_rfl)
@[go_sem] theorem sz13 : szOf Tryz.prog 13 = some 2 := eqS (by kernel_rfl)
@[go_sem] theorem ag13 : aggOf Tryz.prog 13 = some true := eqS (by kernel_rfl)
@[go_sem] theorem ze13 : zeroOf Tryz.prog 13 = some (.agg [.sc (.string ⟨#[]⟩), .sc (.int .u64 0)]) := eqS (by kernel_rfl)
@[go_sem] theorem co13 : concreteT Tryz.prog 13 = true := eqS (by kernel_rfl)
@[go_sem] theorem sl13 : sliceOf Tryz.prog 13 = none := eqS (by kernel_rfl)
@[go_sem] theorem pl13 : placeOf Tryz.prog 13 = some (plc [(0, 1), (1, 1)]) := eqS (by kernel_rfl)
@[go_sem] theorem fl13_0 : fldOf Tryz.prog 13 0 = some (0, 9, 1) := eqS (by kernel_rfl)
@[go_sem] theorem fl13_1 : fldOf Tryz.prog 13 1 = some (1, 12, 1) := eqS (by kernel_rfl)
@[go_sem] theorem zo13 : zerosOk Tryz.prog 13 = true := eqS (by kernel_rfl)
@[go_sem] theorem sz14 : szOf Tryz.prog 14 = some 2 := eqS (by kernel_rfl)
@[go_sem] theorem ag14 : aggOf Tryz.prog 14 = some true := eqS (by kernel_rfl)
@[go_sem] theorem ze14 : zeroOf Tryz.prog 14 = some (.agg [.sc (.string ⟨#[]⟩), .sc (.int .u64 0)]) := eqS (by kernel_rfl)
@[go_sem] theorem co14 : concreteT Tryz.prog 14 = true := eqS (by kernel_rfl)
@[go_sem] theorem sl14 : sliceOf Tryz.prog 14 = none := eqS (by kernel_rfl)
@[go_sem] theorem pl14 : placeOf Tryz.prog 14 = some (plc [(0, 1), (1, 1)]) := eqS (by kernel_rfl)
@[go_sem] theorem fl14_0 : fldOf Tryz.prog 14 0 = some (0, 9, 1) := eqS (by kernel_rfl)
@[go_sem] theorem fl14_1 : fldOf Tryz.prog 14 1 = some (1, 12, 1) := eqS (by kernel_rfl)
@[go_sem] theorem zo14 : zerosOk Tryz.prog 14 = true := eqS (by kernel_rfl)
@[go_sem] theorem sz15 : szOf Tryz.prog 15 = some 1 := eqS (by kernel_rfl)
@[go_sem] theorem ag15 : aggOf Tryz.prog 15 = some false := eqS (by kernel_rfl)
@[go_sem] theorem ze15 : zeroOf Tryz.prog 15 = some (.sc (.pointer none)) := eqS (by kernel_rfl)
@[go_sem] theorem co15 : concreteT Tryz.prog 15 = true := eqS (by kernel_rfl)
@[go_sem] theorem sl15 : sliceOf Tryz.prog 15 = none := eqS (by kernel_rfl)
@[go_sem] theorem ptt15 : isPtrT Tryz.prog 15 = true := eqS (by kernel_rfl)
@[go_sem] theorem sz16 : szOf Tryz.prog 16 = some 1 := eqS (by kernel_rfl)
@[go_sem] theorem ag16 : aggOf Tryz.prog 16 = some false := eqS (by kernel_rfl)
@[go_sem] theorem ze16 : zeroOf Tryz.prog 16 = some (.sc (.pointer none)) := eqS (by kernel_rfl)
@[go_sem] theorem co16 : concreteT Tryz.prog 16 = true := eqS (by kernel_rfl)
@[go_sem] theorem sl16 : sliceOf Tryz.prog 16 = none := eqS (by kernel_rfl)
@[go_sem] theorem ptt16 : isPtrT Tryz.prog 16 = true := eqS (by kernel_rfl)
@[go_sem] theorem sz17 : szOf Tryz.prog 17 = some 1 := eqS (by kernel_rfl)
@[go_sem] theorem ag17 : aggOf Tryz.prog 17 = some false := eqS (by kernel_rfl)
@[go_sem] theorem ze17 : zeroOf Tryz.prog 17 = some (.sc (.pointer none)) := eqS (by kernel_rfl)
@[go_sem] theorem co17 : concreteT Tryz.prog 17 = true := eqS (by kernel_rfl)
@[go_sem] theorem sl17 : sliceOf Tryz.prog 17 = none := eqS (by kernel_rfl)
@[go_sem] theorem ptt17 : isPtrT Tryz.prog 17 = true := eqS (by kernel_rfl)
@[go_sem] theorem sz18 : szOf Tryz.prog 18 = some 1 := eqS (by kernel_rfl)
@[go_sem] theorem ag18 : aggOf Tryz.prog 18 = some true := eqS (by kernel_rfl)
@[go_sem] theorem ze18 : zeroOf Tryz.prog 18 = some (.agg [.sc (.pointer none)]) := eqS (by kernel_rfl)
@[go_sem] theorem co18 : concreteT Tryz.prog 18 = true := eqS (by kernel_rfl)
@[go_sem] theorem sl18 : sliceOf Tryz.prog 18 = none := eqS (by kernel_rfl)
@[go_sem] theorem pl18 : placeOf Tryz.prog 18 = some (plc [(0, 1)]) := eqS (by kernel_rfl)
@[go_sem] theorem fl18_0 : fldOf Tryz.prog 18 0 = some (0, 17, 1) := eqS (by kernel_rfl)
@[go_sem] theorem zo18 : zerosOk Tryz.prog 18 = true := eqS (by kernel_rfl)
@[go_sem] theorem sz19 : szOf Tryz.prog 19 = some 1 := eqS (by kernel_rfl)
@[go_sem] theorem ag19 : aggOf Tryz.prog 19 = some true := eqS (by kernel_rfl)
@[go_sem] theorem ze19 : zeroOf Tryz.prog 19 = some (.agg [.sc (.pointer none)]) := eqS (by kernel_rfl)
@[go_sem] theorem co19 : concreteT Tryz.prog 19 = true := eqS (by kernel_rfl)
@[go_sem] theorem sl19 : sliceOf Tryz.prog 19 = none := eqS (by kernel_rfl)
@[go_sem] theorem pl19 : placeOf Tryz.prog 19 = some (plc [(0, 1)]) := eqS (by kernel_rfl)
@[go_sem] theorem fl19_0 : fldOf Tryz.prog 19 0 = some (0, 17, 1) := eqS (by kernel_rfl)
@[go_sem] theorem zo19 : zerosOk Tryz.prog 19 = true := eqS (by kernel_rfl)
@[go_sem] theorem sz20 : szOf Tryz.prog 20 = some 1 := eqS (by kernel_rfl)
@[go_sem] theorem ag20 : aggOf Tryz.prog 20 = some false := eqS (by kernel_rfl)
@[go_sem] theorem ze20 : zeroOf Tryz.prog 20 = some (.sc .nilIface) := eqS (by kernel_rfl)
@[go_sem] theorem co20 : concreteT Tryz.prog 20 = false := eqS (by kernel_rfl)
@[go_sem] theorem sl20 : sliceOf Tryz.prog 20 = none := eqS (by kernel_rfl)
@[go_sem] theorem if20 : isIfaceT Tryz.prog 20 = true := eqS (by kernel_rfl)
@[go_sem] theorem ay20 : isAnyT Tryz.prog 20 = true := eqS (by kernel_rfl)
@[go_sem] theorem sz21 : szOf Tryz.prog 21 = some 1 := eqS (by kernel_rfl)
@[go_sem] theorem ag21 : aggOf Tryz.prog 21 = some false := eqS (by kernel_rfl)
@[go_sem] theorem ze21 : zeroOf Tryz.prog 21 = some (.sc (.int .i32 0)) := eqS (by kernel_rfl)
@[go_sem] theorem co21 : concreteT Tryz.prog 21 = true := eqS (by kernel_rfl)
@[go_sem] theorem sl21 : sliceOf Tryz.prog 21 = none := eqS (by kernel_rfl)
@[go_sem] theorem un21 : Tryz.prog.underlying 21 = some (.int .i32) := eqS (by kernel_rfl)
@[go_sem] theorem sz22 : szOf Tryz.prog 22 = some 1 := eqS (by kernel_rfl)
@[go_sem] theorem ag22 : aggOf Tryz.prog 22 = some false := eqS (by kernel_rfl)
@[go_sem] theorem ze22 : zeroOf Tryz.prog 22 = some (.lst true []) := eqS (by kernel_rfl)
@[go_sem] theorem co22 : concreteT Tryz.prog 22 = true := eqS (by kernel_rfl)
@[go_sem] theorem sl22 : sliceOf Tryz.prog 22 = some (108, 2, 24) := eqS (by kernel_rfl)
@[go_sem] theorem sz23 : szOf Tryz.prog 23 = some 1 := eqS (by kernel_rfl)
@[go_sem] theorem ag23 : aggOf Tryz.prog 23 = some false := eqS (by kernel_rfl)
@[go_sem] theorem ze23 : zeroOf Tryz.prog 23 = some (.lst true []) := eqS (by kernel_rfl)
@[go_sem] theorem co23 : concreteT Tryz.prog 23 = true := eqS (by kernel_rfl)
@[go_sem] theorem sl23 : sliceOf Tryz.prog 23 = some (74, 3, 48) := eqS (by kernel_rfl)
@[go_sem] theorem sz24 : szOf Tryz.prog 24 = some 1 := eqS (by kernel_rfl)
@[go_sem] theorem ag24 : aggOf Tryz.prog 24 = some false := eqS (by kernel_rfl)
@[go_sem] theorem ze24 : zeroOf Tryz.prog 24 = some (.lst true []) := eqS (by kernel_rfl)
@[go_sem] theorem co24 : concreteT Tryz.prog 24 = true := eqS (by kernel_rfl)
@[go_sem] theorem sl24 : sliceOf Tryz.prog 24 = some (76, 7, 104) := eqS (by kernel_rfl)
@[go_sem] theorem sz25 : szOf Tryz.prog 25 = some 1 := eqS (by kernel_rfl)
@[go_sem] theorem ag25 : aggOf Tryz.prog 25 = some false := eqS (by kernel_rfl)
@[go_sem] theorem ze25 : zeroOf Tryz.prog 25 = some (.lst true []) := eqS (by kernel_rfl)
@[go_sem] theorem co25 : concreteT Tryz.prog 25 = true := eqS (by kernel_rfl)
@[go_sem] theorem sl25 : sliceOf Tryz.prog 25 = some (70, 6, 80) := eqS (by kernel_rfl)
@[go_sem] theorem sz26 : szOf Tryz.prog 26 = some 4 := eqS (by kernel_rfl)
@[go_sem] theorem ag26 : aggOf Tryz.prog 26 = some true := eqS (by kernel_rfl)
@[go_sem] theorem ze26 : zeroOf Tryz.prog 26 = some (.agg [.lst true [], .lst true [], .lst true [], .lst true []]) := eqS (by kernel_rfl)
@[go_sem] theorem co26 : concreteT Tryz.prog 26 = true := eqS (by kernel_rfl)
@[go_sem] theorem sl26 : sliceOf Tryz.prog 26 = none := eqS (by kernel_rfl)
@[go_sem] theorem pl26 : placeOf Tryz.prog 26 = some (plc [(0, 1), (1, 1), (2, 1), (3, 1)]) := eqS (by kernel_rfl)
@[go_sem] theorem fl26_0 : fldOf Tryz.prog 26 0 = some (0, 22, 1) := eqS (by kernel_rfl)
@[go_sem] theorem fl26_1 : fldOf Tryz.prog 26 1 = some (1, 23, 1) := eqS (by kernel_rfl)
@[go_sem] theorem fl26_2 : fldOf Tryz.prog 26 2 = some (2, 24, 1) := eqS (by kernel_rfl)
@[go_sem] theorem fl26_3 : fldOf Tryz.prog 26 3 = some (3, 25, 1) := eqS (by kernel_rfl)
@[go_sem] theorem zo26 : zerosOk Tryz.prog 26 = true := eqS (by kernel_rfl)
@[go_sem] theorem sz27 : szOf Tryz.prog 27 = some 4 := eqS (by kernel_rfl)
@[go_sem] theorem ag27 : aggOf Tryz.prog 27 = some true := eqS (by kernel_rfl)
@[go_sem] theorem ze27 : zeroOf Tryz.prog 27 = some (.agg [.lst true [], .lst true [], .lst true [], .lst true []]) := eqS (by kernel_rfl)
@[go_sem] theorem co27 : concreteT Tryz.prog 27 = true := eqS (by kernel_rfl)
@[go_sem] theorem sl27 : sliceOf Tryz.prog 27 = none := eqS (by kernel_rfl)
@[go_sem] theorem pl27 : placeOf Tryz.prog 27 = some (plc [(0, 1), (1, 1), (2, 1), (3, 1)]) := eqS (by kernel_rfl)
@[go_sem] theorem fl27_0 : fldOf Tryz.prog 27 0 = some (0, 22, 1) := eqS (by kernel_rfl)
@[go_sem] theorem fl27_1 : fldOf Tryz.prog 27 1 = some (1, 23, 1) := eqS (by kernel_rfl)
@[go_sem] theorem fl27_2 : fldOf Tryz.prog 27 2 = some (2, 24, 1) := eqS (by kernel_rfl)
@[go_sem] theorem fl27_3 : fldOf Tryz.prog 27 3 = some (3, 25, 1) := eqS (by kernel_rfl)
@[go_sem] theorem zo27 : zerosOk Tryz.prog 27 = true := eqS (by kernel_rfl)
@[go_sem] theorem sz28 : szOf Tryz.prog 28 = some 1 := eqS (by kernel_rfl)
@[go_sem] theorem ag28 : aggOf Tryz.prog 28 = some false := eqS (by kernel_rfl)
@[go_sem] theorem ze28 : zeroOf Tryz.prog 28 = some (.lst true []) := eqS (by kernel_rfl)
@[go_sem] theorem co28 : concreteT Tryz.prog 28 = true := eqS (by kernel_rfl)
@[go_sem] theorem sl28 : sliceOf Tryz.prog 28 = some (54, 2, 24) := eqS (by kernel_rfl)
@[go_sem] theorem sz29 : szOf Tryz.prog 29 = some 1 := eqS (by kernel_rfl)
@[go_sem] theorem ag29 : aggOf Tryz.prog 29 = some false := eqS (by kernel_rfl)
@[go_sem] theorem ze29 : zeroOf Tryz.prog 29 = some (.lst true []) := eqS (by kernel_rfl)
@[go_sem] theorem co29 : concreteT Tryz.prog 29 = true := eqS (by kernel_rfl)
@[go_sem] theorem sl29 : sliceOf Tryz.prog 29 = some (31, 5, 64) := eqS (by kernel_rfl)
@[go_sem] theorem sz30 : szOf Tryz.prog 30 = some 5 := eqS (by kernel_rfl)
@[go_sem] theorem ag30 : aggOf Tryz.prog 30 = some true := eqS (by kernel_rfl)
@[go_sem] theorem ze30 : zeroOf Tryz.prog 30 = some (.agg [.sc (.int .i64 0), .sc (.string ⟨#[]⟩), .sc (.int .i64 0), .lst true [], .sc (.int .i64 0)]) := eqS (by kernel_rfl)
@[go_sem] theorem co30 : concreteT Tryz.prog 30 = true := eqS (by kernel_rfl)
@[go_sem] theorem sl30 : sliceOf Tryz.prog 30 = none := eqS (by kernel_rfl)
@[go_sem] theorem pl30 : placeOf Tryz.prog 30 = some (plc [(0, 1), (1, 1), (2, 1), (3, 1), (4, 1)]) := eqS (by kernel_rfl)
@[go_sem] theorem fl30_0 : fldOf Tryz.prog 30 0 = some (0, 3, 1) := eqS (by kernel_rfl)
@[go_sem] theorem fl30_1 : fldOf Tryz.prog 30 1 = some (1, 9, 1) := eqS (by kernel_rfl)
@[go_sem] theorem fl30_2 : fldOf Tryz.prog 30 2 = some (2, 3, 1) := eqS (by kernel_rfl)
@[go_sem] theorem fl30_3 : fldOf Tryz.prog 30 3 = some (3, 29, 1) := eqS (by kernel_rfl)
@[go_sem] theorem fl30_4 : fldOf Tryz.prog 30 4 = some (4, 3, 1) := eqS (by kernel_rfl)
@[go_sem] theorem zo30 : zerosOk Tryz.prog 30 = true := eqS (by kernel_rfl)
@[go_sem] theorem sz31 : szOf Tryz.prog 31 = some 5 := eqS (by kernel_rfl)
@[go_sem] theorem ag31 : aggOf Tryz.prog 31 = some true := eqS (by kernel_rfl)
@[go_sem] theorem ze31 : zeroOf Tryz.prog 31 = some (.agg [.sc (.int .i64 0), .sc (.string ⟨#[]⟩), .sc (.int .i64 0), .lst true [], .sc (.int .i64 0)]) := eqS (by kernel_rfl)
@[go_sem] theorem co31 : concreteT Tryz.prog 31 = true := eqS (by kernel_rfl)
@[go_sem] theorem sl31 : sliceOf Tryz.prog 31 = none := eqS (by kernel_rfl)
@[go_sem] theorem pl31 : placeOf Tryz.prog 31 = some (plc [(0, 1), (1, 1), (2, 1), (3, 1), (4, 1)]) := eqS (by kernel_rfl)
@[go_sem] theorem fl31_0 : fldOf Tryz.prog 31 0 = some (0, 3, 1) := eqS (by kernel_rfl)
@[go_sem] theorem fl31_1 : fldOf Tryz.prog 31 1 = some (1, 9, 1) := eqS (by kernel_rfl)
@[go_sem] theorem fl31_2 : fldOf Tryz.prog 31 2 = some (2, 3, 1) := eqS (by kernel_rfl)
@[go_sem] theorem fl31_3 : fldOf Tryz.prog 31 3 = some (3, 29, 1) := eqS (by kernel_rfl)
@[go_sem] theorem fl31_4 : fldOf Tryz.prog 31 4 = some (4, 3, 1) := eqS (by kernel_rfl)
@[go_sem] theorem zo31 : zerosOk Tryz.prog 31 = true := eqS (by kernel_rfl)
@[go_sem] theorem sz32 : szOf Tryz.prog 32 = some 1 := eqS (by kernel_rfl)
@[go_sem] theorem ag32 : aggOf Tryz.prog 32 = some false := eqS (by kernel_rfl)
@[go_sem] theorem ze32 : zeroOf Tryz.prog 32 = some (.sc .nilFunc) := eqS (by kernel_rfl)
@[go_sem] theorem co32 : concreteT Tryz.prog 32 = true := eqS (by kernel_rfl)
@[go_sem] theorem sl32 : sliceOf Tryz.prog 32 = none := eqS (by kernel_rfl)
@[go_sem] theorem sz33 : szOf Tryz.prog 33 = some 1 := eqS (by kernel_rfl)
@[go_sem] theorem ag33 : aggOf Tryz.prog 33 = some false := eqS (by kernel_rfl)
@[go_sem] theorem ze33 : zeroOf Tryz.prog 33 = some (.sc .nilFunc) := eqS (by kernel_rfl)
@[go_sem] theorem co33 : concreteT Tryz.prog 33 = true := eqS (by kernel_rfl)
@[go_sem] theorem sl33 : sliceOf Tryz.prog 33 = none := eqS (by kernel_rfl)
@[go_sem] theorem sz34 : szOf Tryz.prog 34 = some 1 := eqS (by kernel_rfl)
@[go_sem] theorem ag34 : aggOf Tryz.prog 34 = some false := eqS (by kernel_rfl)
@[go_sem] theorem ze34 : zeroOf Tryz.prog 34 = some (.sc .nilFunc) := eqS (by kernel_rfl)
@[go_sem] theorem co34 : concreteT Tryz.prog 34 = true := eqS (by kernel_rfl)
@[go_sem] theorem sl34 : sliceOf Tryz.prog 34 = none := eqS (by kernel_rfl)
@[go_sem] theorem sz35 : szOf Tryz.prog 35 = some 1 := eqS (by kernel_rfl)
@[go_sem] theorem ag35 : aggOf Tryz.prog 35 = some false := eqS (by kernel_rfl)
@[go_sem] theorem ze35 : zeroOf Tryz.prog 35 = some (.sc .nilFunc) := eqS (by kernel_rfl)
@[go_sem] theorem co35 : concreteT Tryz.prog 35 = true := eqS (by kernel_rfl)
@[go_sem] theorem sl35 : sliceOf Tryz.prog 35 = none := eqS (by kernel_rfl)
@[go_sem] theorem sz36 : szOf Tryz.prog 36 = some 1 := eqS (by kernel_rfl)
@[go_sem] theorem ag36 : aggOf Tryz.prog 36 = some false := eqS (by kernel_rfl)
@[go_sem] theorem ze36 : zeroOf Tryz.prog 36 = some (.lst true []) := eqS (by kernel_rfl)
@[go_sem] theorem co36 : concreteT Tryz.prog 36 = true := eqS (by kernel_rfl)
@[go_sem] theorem sl36 : sliceOf Tryz.prog 36 = some (44, 2, 16) := eqS (by kernel_rfl)
@[go_sem] theorem sz37 : szOf Tryz.prog 37 = some 1 := eqS (by kernel_rfl)
@[go_sem] theorem ag37 : aggOf Tryz.prog 37 = some false := eqS (by kernel_rfl)
@[go_sem] theorem ze37 : zeroOf Tryz.prog 37 = some (.sc .nilFunc) := eqS (by kernel_rfl)
@[go_sem] theorem co37 : concreteT Tryz.prog 37 = true := eqS (by kernel_rfl)
@[go_sem] theorem sl37 : sliceOf Tryz.prog 37 = none := eqS (by kernel_rfl)
@[go_sem] theorem sz38 : szOf Tryz.prog 38 = some 1 := eqS (by kernel_rfl)
@[go_sem] theorem ag38 : aggOf Tryz.prog 38 = some false := eqS (by kernel_rfl)
@[go_sem] theorem ze38 : zeroOf Tryz.prog 38 = some (.lst true []) := eqS (by kernel_rfl)
@[go_sem] theorem co38 : concreteT Tryz.prog 38 = true := eqS (by kernel_rfl)
@[go_sem] theorem sl38 : sliceOf Tryz.prog 38 = some (52, 1, 24) := eqS (by kernel_rfl)
@[go_sem] theorem sz39 : szOf Tryz.prog 39 = some 1 := eqS (by kernel_rfl)
@[go_sem] theorem ag39 : aggOf Tryz.prog 39 = some false := eqS (by kernel_rfl)
@[go_sem] theorem ze39 : zeroOf Tryz.prog 39 = some (.sc (.int .i64 0)) := eqS (by kernel_rfl)
@[go_sem] theorem co39 : concreteT Tryz.prog 39 = true := eqS (by kernel_rfl)
@[go_sem] theorem sl39 : sliceOf Tryz.prog 39 = none := eqS (by kernel_rfl)
@[go_sem] theorem un39 : Tryz.prog.underlying 39 = some (.int .i64) := eqS (by kernel_rfl)
@[go_sem] theorem sz41 : szOf Tryz.prog 41 = some 1 := eqS (by kernel_rfl)
@[go_sem] theorem ag41 : aggOf Tryz.prog 41 = some false := eqS (by kernel_rfl)
@[go_sem] theorem ze41 : zeroOf Tryz.prog 41 = some (.sc .nilFunc) := eqS (by kernel_rfl)
@[go_sem] theorem co41 : concreteT Tryz.prog 41 = true := eqS (by kernel_rfl)
@[go_sem] theorem sl41 : sliceOf Tryz.prog 41 = none := eqS (by kernel_rfl)
@[go_sem] theorem sz42 : szOf Tryz.prog 42 = some 1 := eqS (by kernel_rfl)
@[go_sem] theorem ag42 : aggOf Tryz.prog 42 = some false := eqS (by kernel_rfl)
@[go_sem] theorem ze42 : zeroOf Tryz.prog 42 = some (.sc .nilFunc) := eqS (by kernel_rfl)
@[go_sem] theorem co42 : concreteT Tryz.prog 42 = true := eqS (by kernel_rfl)
@[go_sem] theorem sl42 : sliceOf Tryz.prog 42 = none := eqS (by kernel_rfl)
@[go_sem] theorem sz43 : szOf Tryz.prog 43 = some 2 := eqS (by kernel_rfl)
@[go_sem] theorem ag43 : aggOf Tryz.prog 43 = some true := eqS (by kernel_rfl)
@[go_sem] theorem ze43 : zeroOf Tryz.prog 43 = some (.agg [.sc (.int .i64 0), .sc (.int .i64 0)]) := eqS (by kernel_rfl)
@[go_sem] theorem co43 : concreteT Tryz.prog 43 = true := eqS (by kernel_rfl)
@[go_sem] theorem sl43 : sliceOf Tryz.prog 43 = none := eqS (by kernel_rfl)
@[go_sem] theorem ia43 : intArr Tryz.prog 43 = some 2 := eqS (by kernel_rfl)
@[go_sem] theorem pl43 : placeOf Tryz.prog 43 = some (plc [(0, 1), (1, 1)]) := eqS (by kernel_rfl)
@[go_sem] theorem fl43_0 : fldOf Tryz.prog 43 0 = some (0, 39, 1) := eqS (by kernel_rfl)
@[go_sem] theorem fl43_1 : fldOf Tryz.prog 43 1 = some (1, 3, 1) := eqS (by kernel_rfl)
@[go_sem] theorem zo43 : zerosOk Tryz.prog 43 = true := eqS (by kernel_rfl)
@[go_sem] theorem sz44 : szOf Tryz.prog 44 = some 2 := eqS (by kernel_rfl)
@[go_sem] theorem ag44 : aggOf Tryz.prog 44 = some true := eqS (by kernel_rfl)
@[go_sem] theorem ze44 : zeroOf Tryz.prog 44 = some (.agg [.sc (.int .i64 0), .sc (.int .i64 0)]) := eqS (by kernel_rfl)
@[go_sem] theorem co44 : concreteT Tryz.prog 44 = true := eqS (by kernel_rfl)
@[go_sem] theorem sl44 : sliceOf Tryz.prog 44 = none := eqS (by kernel_rfl)
@[go_sem] theorem ia44 : intArr Tryz.prog 44 = some 2 := eqS (by kernel_rfl)
@[go_sem] theorem pl44 : placeOf Tryz.prog 44 = some (plc [(0, 1), (1, 1)]) := eqS (by kernel_rfl)
@[go_sem] theorem fl44_0 : fldOf Tryz.prog 44 0 = some (0, 39, 1) := eqS (by kernel_rfl)
@[go_sem] theorem fl44_1 : fldOf Tryz.prog 44 1 = some (1, 3, 1) := eqS (by kernel_rfl)
@[go_sem] theorem zo44 : zerosOk Tryz.prog 44 = true := eqS (by kernel_rfl)
@[go_sem] theorem sz45 : szOf Tryz.prog 45 = some 1 := eqS (by kernel_rfl)
@[go_sem] theorem ag45 : aggOf Tryz.prog 45 = some false := eqS (by kernel_rfl)
@[go_sem] theorem ze45 : zeroOf Tryz.prog 45 = some (.sc .nilFunc) := eqS (by kernel_rfl)
@[go_sem] theorem co45 : concreteT Tryz.prog 45 = true := eqS (by kernel_rfl)
@[go_sem] theorem sl45 : sliceOf Tryz.prog 45 = none := eqS (by kernel_rfl)
@[go_sem] theorem sz46 : szOf Tryz.prog 46 = some 1 := eqS (by kernel_rfl)
@[go_sem] theorem ag46 : aggOf Tryz.prog 46 = some false := eqS (by kernel_rfl)
@[go_sem] theorem ze46 : zeroOf Tryz.prog 46 = some (.sc .nilFunc) := eqS (by kernel_rfl)
@[go_sem] theorem co46 : concreteT Tryz.prog 46 = true := eqS (by kernel_rfl)
@[go_sem] theorem sl46 : sliceOf Tryz.prog 46 = none := eqS (by kernel_rfl)
@[go_sem] theorem sz48 : szOf Tryz.prog 48 = some 1 := eqS (by kernel_rfl)
@[go_sem] theorem ag48 : aggOf Tryz.prog 48 = some false := eqS (by kernel_rfl)
@[go_sem] theorem ze48 : zeroOf Tryz.prog 48 = some (.sc .nilFunc) := eqS (by kernel_rfl)
@[go_sem] theorem co48 : concreteT Tryz.prog 48 = true := eqS (by kernel_rfl)
@[go_sem] theorem sl48 : sliceOf Tryz.prog 48 = none := eqS (by kernel_rfl)
@[go_sem] theorem sz49 : szOf Tryz.prog 49 = some 1 := eqS (by kernel_rfl)
@[go_sem] theorem ag49 : aggOf Tryz.prog 49 = some false := eqS (by kernel_rfl)
@[go_sem] theorem ze49 : zeroOf Tryz.prog 49 = some (.sc .nilFunc) := eqS (by kernel_rfl)
@[go_sem] theorem co49 : concreteT Tryz.prog 49 = true := eqS (by kernel_rfl)
@[go_sem] theorem sl49 : sliceOf Tryz.prog 49 = none := eqS (by kernel_rfl)
@[go_sem] theorem sz50 : szOf Tryz.prog 50 = some 1 := eqS (by kernel_rfl)
@[go_sem] theorem ag50 : aggOf Tryz.prog 50 = some false := eqS (by kernel_rfl)
@[go_sem] theorem ze50 : zeroOf Tryz.prog 50 = some (.sc .nilFunc) := eqS (by kernel_rfl)
@[go_sem] theorem co50 : concreteT Tryz.prog 50 = true := eqS (by kernel_rfl)
@[go_sem] theorem sl50 : sliceOf Tryz.prog 50 = none := eqS (by kernel_rfl)
@[go_sem] theorem sz51 : szOf Tryz.prog 51 = some 1 := eqS (by kernel_rfl)
@[go_sem] theorem ag51 : aggOf Tryz.prog 51 = some false := eqS (by kernel_rfl)
@[go_sem] theorem ze51 : zeroOf Tryz.prog 51 = some (.sc .nilFunc) := eqS (by kernel_rfl)
@[go_sem] theorem co51 : concreteT Tryz.prog 51 = true := eqS (by kernel_rfl)
@[go_sem] theorem sl51 : sliceOf Tryz.prog 51 = none := eqS (by kernel_rfl)
@[go_sem] theorem sz52 : szOf Tryz.prog 52 = some 1 := eqS (by kernel_rfl)
@[go_sem] theorem ag52 : aggOf Tryz.prog 52 = some false := eqS (by kernel_rfl)
@[go_sem] theorem ze52 : zeroOf Tryz.prog 52 = some (.lst true []) := eqS (by kernel_rfl)
@[go_sem] theorem co52 : concreteT Tryz.prog 52 = true := eqS (by kernel_rfl)
@[go_sem] theorem sl52 : sliceOf Tryz.prog 52 = some (3, 1, 8) := eqS (by kernel_rfl)
@[go_sem] theorem sz53 : szOf Tryz.prog 53 = some 2 := eqS (by kernel_rfl)
@[go_sem] theorem ag53 : aggOf Tryz.prog 53 = some true := eqS (by kernel_rfl)
@[go_sem] theorem ze53 : zeroOf Tryz.prog 53 = some (.agg [.sc (.string ⟨#[]⟩), .sc (.int .i64 0)]) := eqS (by kernel_rfl)
@[go_sem] theorem co53 : concreteT Tryz.prog 53 = true := eqS (by kernel_rfl)
@[go_sem] theorem sl53 : sliceOf Tryz.prog 53 = none := eqS (by kernel_rfl)
@[go_sem] theorem pl53 : placeOf Tryz.prog 53 = some (plc [(0, 1), (1, 1)]) := eqS (by kernel_rfl)
@[go_sem] theorem fl53_0 : fldOf Tryz.prog 53 0 = some (0, 9, 1) := eqS (by kernel_rfl)
@[go_sem] theorem fl53_1 : fldOf Tryz.prog 53 1 = some (1, 3, 1) := eqS (by kernel_rfl)
@[go_sem] theorem zo53 : zerosOk Tryz.prog 53 = true := eqS (by kernel_rfl)
@[go_sem] theorem sz54 : szOf Tryz.prog 54 = some 2 := eqS (by kernel_rfl)
@[go_sem] theorem ag54 : aggOf Tryz.prog 54 = some true := eqS (by kernel_rfl)
@[go_sem] theorem ze54 : zeroOf Tryz.prog 54 = some (.agg [.sc (.string ⟨#[]⟩), .sc (.int .i64 0)]) := eqS (by kernel_rfl)
@[go_sem] theorem co54 : concreteT Tryz.prog 54 = true := eqS (by kernel_rfl)
@[go_sem] theorem sl54 : sliceOf Tryz.prog 54 = none := eqS (by kernel_rfl)
@[go_sem] theorem pl54 : placeOf Tryz.prog 54 = some (plc [(0, 1), (1, 1)]) := eqS (by kernel_rfl)
@[go_sem] theorem fl54_0 : fldOf Tryz.prog 54 0 = some (0, 9, 1) := eqS (by kernel_rfl)
@[go_sem] theorem fl54_1 : fldOf Tryz.prog 54 1 = some (1, 3, 1) := eqS (by kernel_rfl)
@[go_sem] theorem zo54 : zerosOk Tryz.prog 54 = true := eqS (by kernel_rfl)
@[go_sem] theorem sz55 : szOf Tryz.prog 55 = some 64 := eqS (by kernel_rfl)
@[go_sem] theorem ag55 : aggOf Tryz.prog 55 = some true := eqS (by kernel_rfl)
@[go_sem] theorem ze55 : zeroOf Tryz.prog 55 = some (.agg [.sc (.bool false), .sc (.bool false), .sc (.bool false), .sc (.bool false), .sc (.bool false), .sc (.bool false), .sc (.bool false), .sc (.bool false), .sc (.bool false), .sc (.bool false), .sc (.bool false), .sc (.bool false), .sc (.bool false), .sc (.bool false), .sc (.bool false), .sc (.bool false), .sc (.bool false), .sc (.bool false), .sc (.bool false), .sc (.bool false), .sc (.bool false), .sc (.bool false), .sc (.bool false), .sc (.bool false), .sc (.bool false), .sc (.bool false), .sc (.bool false), .sc (.bool false), .sc (.bool false), .sc (.bool false), .sc (.bool false), .sc (.bool false), .sc (.bool false), .sc (.bool false), .sc (.bool false), .sc (.bool false), .sc (.bool false), .sc (.bool false), .sc (.bool false), .sc (.bool false), .sc (.bool false), .sc (.bool false), .sc (.bool false), .sc (.bool false), .sc (.bool false), .sc (.bool false), .sc (.bool false), .sc (.bool false), .sc (.bool false), .sc (.bool false), .sc (.bool false), .sc (.bool false), .sc (.bool false), .sc (.bool false), .sc (.bool false), .sc (.bool false), .sc (.bool false), .sc (.bool false), .sc (.bool false), .sc (.bool false), .sc (.bool false), .sc (.bool false), .sc (.bool false), .sc (.bool false)]) := eqS (by kernel_rfl)
@[go_sem] theorem co55 : concreteT Tryz.prog 55 = true := eqS (by kernel_rfl)
@[go_sem] theorem sl55 : sliceOf Tryz.prog 55 = none := eqS (by kernel_rfl)
@[go_sem] theorem ar55 : arrOf Tryz.prog 55 = some (64, 4, 1) := eqS (by kernel_rfl)
@[go_sem] theorem pl55 : placeOf Tryz.prog 55 = some (plA 1) := eqS (by kernel_rfl)
@[go_sem] theorem un55 : Tryz.prog.underlying 55 = some (.array 64 4) := eqS (by kernel_rfl)
@[go_sem] theorem zo55 : zerosOk Tryz.prog 55 = true := eqS (by kernel_rfl)
@[go_sem] theorem sz56 : szOf Tryz.prog 56 = some 65 := eqS (by kernel_rfl)
@[go_sem] theorem ag56 : aggOf Tryz.prog 56 = some true := eqS (by kernel_rfl)
@[go_sem] theorem ze56 : zeroOf Tryz.prog 56 = some (.agg [.sc (.int .i64 0), .sc (.bool false), .sc (.bool false), .sc (.bool false), .sc (.bool false), .sc (.bool false), .sc (.bool false), .sc (.bool false), .sc (.bool false), .sc (.bool false), .sc (.bool false), .sc (.bool false), .sc (.bool false), .sc (.bool false), .sc (.bool false), .sc (.bool false), .sc (.bool false), .sc (.bool false), .sc (.bool false), .sc (.bool false), .sc (.bool false), .sc (.bool false), .sc (.bool false), .sc (.bool false), .sc (.bool false), .sc (.bool false), .sc (.bool false), .sc (.bool false), .sc (.bool false), .sc (.bool false), .sc (.bool false), .sc (.bool false), .sc (.bool false), .sc (.bool false), .sc (.bool false), .sc (.bool false), .sc (.bool false), .sc (.bool false), .sc (.bool false), .sc (.bool false), .sc (.bool false), .sc (.bool false), .sc (.bool false), .sc (.bool false), .sc (.bool false), .sc (.bool false), .sc (.bool false), .sc (.bool false), .sc (.bool false), .sc (.bool false), .sc (.bool false), .sc (.bool false), .sc (.bool false), .sc (.bool false), .sc (.bool false), .sc (.bool false), .sc (.bool false), .sc (.bool false), .sc (.bool false), .sc (.bool false), .sc (.bool false), .sc (.bool false), .sc (.bool false), .sc (.bool false), .sc (.bool false)]) := eqS (by kernel_rfl)
@[go_sem] theorem co56 : concreteT Tryz.prog 56 = true := eqS (by kernel_rfl)
@[go_sem] theorem sl56 : sliceOf Tryz.prog 56 = none := eqS (by kernel_rfl)
@[go_sem] theorem pl56 : placeOf Tryz.prog 56 = some (plc [(0, 1), (1, 64)]) := eqS (by kernel_rfl)
@[go_sem] theorem fl56_0 : fldOf Tryz.prog 56 0 = some (0, 3, 1) := eqS (by kernel_rfl)
@[go_sem] theorem fl56_1 : fldOf Tryz.prog 56 1 = some (1, 55, 64) := eqS (by kernel_rfl)
@[go_sem] theorem zo56 : zerosOk Tryz.prog 56 = true := eqS (by kernel_rfl)
@[go_sem] theorem sz57 : szOf Tryz.prog 57 = some 65 := eqS (by kernel_rfl)
@[go_sem] theorem ag57 : aggOf Tryz.prog 57 = some true := eqS (by kernel_rfl)
@[go_sem] theorem ze57 : zeroOf Tryz.prog 57 = some (.agg [.sc (.int .i64 0), .sc (.bool false), .sc (.bool false), .sc (.bool false), .sc (.bool false), .sc (.bool false), .sc (.bool false), .sc (.bool false), .sc (.bool false), .sc (.bool false), .sc (.bool false), .sc (.bool false), .sc (.bool false), .sc (.bool false), .sc (.bool false), .sc (.bool false), .sc (.bool false), .sc (.bool false), .sc (.bool false), .sc (.bool false), .sc (.bool false), .sc (.bool false), .sc (.bool false), .sc (.bool false), .sc (.bool false), .sc (.bool false), .sc (.bool false), .sc (.bool false), .sc (.bool false), .sc (.bool false), .sc (.bool false), .sc (.bool false), .sc (.bool false), .sc (.bool false), .sc (.bool false), .sc (.bool false), .sc (.bool false), .sc (.bool false), .sc (.bool false), .sc (.bool false), .sc (.bool false), .sc (.bool false), .sc (.bool false), .sc (.bool false), .sc (.bool false), .sc (.bool false), .sc (.bool false), .sc (.bool false), .sc (.bool false), .sc (.bool false), .sc (.bool false), .sc (.bool false), .sc (.bool false), .sc (.bool false), .sc (.bool false), .sc (.bool false), .sc (.bool false), .sc (.bool false), .sc (.bool false), .sc (.bool false), .sc (.bool false), .sc (.bool false), .sc (.bool false), .sc (.bool false), .sc (.bool false)]) := eqS (by kernel_rfl)
@[go_sem] theorem co57 : concreteT Tryz.prog 57 = true := eqS (by kernel_rfl)
@[go_sem] theorem sl57 : sliceOf Tryz.prog 57 = none := eqS (by kernel_rfl)
@[go_sem] theorem pl57 : placeOf Tryz.prog 57 = some (plc [(0, 1), (1, 64)]) := eqS (by kernel_rfl)
@[go_sem] theorem fl57_0 : fldOf Tryz.prog 57 0 = some (0, 3, 1) := eqS (by kernel_rfl)
@[go_sem] theorem fl57_1 : fldOf Tryz.prog 57 1 = some (1, 55, 64) := eqS (by kernel_rfl)
@[go_sem] theorem zo57 : zerosOk Tryz.prog 57 = true := eqS (by kernel_rfl)
@[go_sem] theorem sz59 : szOf Tryz.prog 59 = some 1 := eqS (by kernel_rfl)
@[go_sem] theorem ag59 : aggOf Tryz.prog 59 = some false := eqS (by kernel_rfl)
@[go_sem] theorem ze59 : zeroOf Tryz.prog 59 = some (.sc .nilFunc) := eqS (by kernel_rfl)
@[go_sem] theorem co59 : concreteT Tryz.prog 59 = true := eqS (by kernel_rfl)
@[go_sem] theorem sl59 : sliceOf Tryz.prog 59 = none := eqS (by kernel_rfl)
@[go_sem] theorem sz60 : szOf Tryz.prog 60 = some 1 := eqS (by kernel_rfl)
@[go_sem] theorem ag60 : aggOf Tryz.prog 60 = some false := eqS (by kernel_rfl)
@[go_sem] theorem ze60 : zeroOf Tryz.prog 60 = some (.sc .nilFunc) := eqS (by kernel_rfl)
@[go_sem] theorem co60 : concreteT Tryz.prog 60 = true := eqS (by kernel_rfl)
@[go_sem] theorem sl60 : sliceOf Tryz.prog 60 = none := eqS (by kernel_rfl)
@[go_sem] theorem sz61 : szOf Tryz.prog 61 = some 1 := eqS (by kernel_rfl)
@[go_sem] theorem ag61 : aggOf Tryz.prog 61 = some false := eqS (by kernel_rfl)
@[go_sem] theorem ze61 : zeroOf Tryz.prog 61 = some (.sc .nilFunc) := eqS (by kernel_rfl)
@[go_sem] theorem co61 : concreteT Tryz.prog 61 = true := eqS (by kernel_rfl)
@[go_sem] theorem sl61 : sliceOf Tryz.prog 61 = none := eqS (by kernel_rfl)
@[go_sem] theorem sz62 : szOf Tryz.prog 62 = some 1 := eqS (by kernel_rfl)
@[go_sem] theorem ag62 : aggOf Tryz.prog 62 = some false := eqS (by kernel_rfl)
@[go_sem] theorem ze62 : zeroOf Tryz.prog 62 = some (.sc .nilFunc) := eqS (by kernel_rfl)
@[go_sem] theorem co62 : concreteT Tryz.prog 62 = true := eqS (by kernel_rfl)
@[go_sem] theorem sl62 : sliceOf Tryz.prog 62 = none := eqS (by kernel_rfl)
@[go_sem] theorem sz63 : szOf Tryz.prog 63 = some 1 := eqS (by kernel_rfl)
@[go_sem] theorem ag63 : aggOf Tryz.prog 63 = some false := eqS (by kernel_rfl)
@[go_sem] theorem ze63 : zeroOf Tryz.prog 63 = some (.sc .nilFunc) := eqS (by kernel_rfl)
@[go_sem] theorem co63 : concreteT Tryz.prog 63 = true := eqS (by kernel_rfl)
@[go_sem] theorem sl63 : sliceOf Tryz.prog 63 = none := eqS (by kernel_rfl)
@[go_sem] theorem sz64 : szOf Tryz.prog 64 = some 1 := eqS (by kernel_rfl)
@[go_sem] theorem ag64 : aggOf Tryz.prog 64 = some false := eqS (by kernel_rfl)
@[go_sem] theorem ze64 : zeroOf Tryz.prog 64 = some (.sc .nilFunc) := eqS (by kernel_rfl)
@[go_sem] theorem co64 : concreteT Tryz.prog 64 = true := eqS (by kernel_rfl)
@[go_sem] theorem sl64 : sliceOf Tryz.prog 64 = none := eqS (by kernel_rfl)
@[go_sem] theorem sz65 : szOf Tryz.prog 65 = some 1 := eqS (by kernel_rfl)
@[go_sem] theorem ag65 : aggOf Tryz.prog 65 = some false := eqS (by kernel_rfl)
@[go_sem] theorem ze65 : zeroOf Tryz.prog 65 = some (.sc .nilFunc) := eqS (by kernel_rfl)
@[go_sem] theorem co65 : concreteT Tryz.prog 65 = true := eqS (by kernel_rfl)
@[go_sem] theorem sl65 : sliceOf Tryz.prog 65 = none := eqS (by kernel_rfl)
@[go_sem] theorem sz66 : szOf Tryz.prog 66 = some 1 := eqS (by kernel_rfl)
@[go_sem] theorem ag66 : aggOf Tryz.prog 66 = some false := eqS (by kernel_rfl)
@[go_sem] theorem ze66 : zeroOf Tryz.prog 66 = some (.sc .nilFunc) := eqS (by kernel_rfl)
@[go_sem] theorem co66 : concreteT Tryz.prog 66 = true := eqS (by kernel_rfl)
@[go_sem] theorem sl66 : sliceOf Tryz.prog 66 = none := eqS (by kernel_rfl)
@[go_sem] theorem sz67 : szOf Tryz.prog 67 = some 1 := eqS (by kernel_rfl)
@[go_sem] theorem ag67 : aggOf Tryz.prog 67 = some false := eqS (by kernel_rfl)
@[go_sem] theorem ze67 : zeroOf Tryz.prog 67 = some (.sc .nilFunc) := eqS (by kernel_rfl)
@[go_sem] theorem co67 : concreteT Tryz.prog 67 = true := eqS (by kernel_rfl)
@[go_sem] theorem sl67 : sliceOf Tryz.prog 67 = none := eqS (by kernel_rfl)
@[go_sem] theorem sz68 : szOf Tryz.prog 68 = some 1 := eqS (by kernel_rfl)
@[go_sem] theorem ag68 : aggOf Tryz.prog 68 = some false := eqS (by kernel_rfl)
@[go_sem] theorem ze68 : zeroOf Tryz.prog 68 = some (.sc .nilFunc) := eqS (by kernel_rfl)
@[go_sem] theorem co68 : concreteT Tryz.prog 68 = true := eqS (by kernel_rfl)
@[go_sem] theorem sl68 : sliceOf Tryz.prog 68 = none := eqS (by kernel_rfl)
@[go_sem] theorem sz69 : szOf Tryz.prog 69 = some 6 := eqS (by kernel_rfl)
@[go_sem] theorem ag69 : aggOf Tryz.prog 69 = some true := eqS (by kernel_rfl)
@[go_sem] theorem ze69 : zeroOf Tryz.prog 69 = some (.agg [.sc (.string ⟨#[]⟩), .sc (.int .i64 0), .sc (.string ⟨#[]⟩), .sc (.int .i64 0), .lst true [], .sc (.int .i64 0)]) := eqS (by kernel_rfl)
@[go_sem] theorem co69 : concreteT Tryz.prog 69 = true := eqS (by kernel_rfl)
@[go_sem] theorem sl69 : sliceOf Tryz.prog 69 = none := eqS (by kernel_rfl)
@[go_sem] theorem pl69 : placeOf Tryz.prog 69 = some (plc [(0, 1), (1, 5)]) := eqS (by kernel_rfl)
@[go_sem] theorem fl69_0 : fldOf Tryz.prog 69 0 = some (0, 9, 1) := eqS (by kernel_rfl)
@[go_sem] theorem fl69_1 : fldOf Tryz.prog 69 1 = some (1, 31, 5) := eqS (by kernel_rfl)
@[go_sem] theorem zo69 : zerosOk Tryz.prog 69 = true := eqS (by kernel_rfl)
@[go_sem] theorem sz70 : szOf Tryz.prog 70 = some 6 := eqS (by kernel_rfl)
@[go_sem] theorem ag70 : aggOf Tryz.prog 70 = some true := eqS (by kernel_rfl)
@[go_sem] theorem ze70 : zeroOf Tryz.prog 70 = some (.agg [.sc (.string ⟨#[]⟩), .sc (.int .i64 0), .sc (.string ⟨#[]⟩), .sc (.int .i64 0), .lst true [], .sc (.int .i64 0)]) := eqS (by kernel_rfl)
@[go_sem] theorem co70 : concreteT Tryz.prog 70 = true := eqS (by kernel_rfl)
@[go_sem] theorem sl70 : sliceOf Tryz.prog 70 = none := eqS (by kernel_rfl)
@[go_sem] theorem pl70 : placeOf Tryz.prog 70 = some (plc [(0, 1), (1, 5)]) := eqS (by kernel_rfl)
@[go_sem] theorem fl70_0 : fldOf Tryz.prog 70 0 = some (0, 9, 1) := eqS (by kernel_rfl)
@[go_sem] theorem fl70_1 : fldOf Tryz.prog 70 1 = some (1, 31, 5) := eqS (by kernel_rfl)
@[go_sem] theorem zo70 : zerosOk Tryz.prog 70 = true := eqS (by kernel_rfl)
@[go_sem] theorem sz71 : szOf Tryz.prog 71 = some 1 := eqS (by kernel_rfl)
@[go_sem] theorem ag71 : aggOf Tryz.prog 71 = some false := eqS (by kernel_rfl)
@[go_sem] theorem ze71 : zeroOf Tryz.prog 71 = some (.sc .nilFunc) := eqS (by kernel_rfl)
@[go_sem] theorem co71 : concreteT Tryz.prog 71 = true := eqS (by kernel_rfl)
@[go_sem] theorem sl71 : sliceOf Tryz.prog 71 = none := eqS (by kernel_rfl)
@[go_sem] theorem sz72 : szOf Tryz.prog 72 = some 1 := eqS (by kernel_rfl)
@[go_sem] theorem ag72 : aggOf Tryz.prog 72 = some false := eqS (by kernel_rfl)
@[go_sem] theorem ze72 : zeroOf Tryz.prog 72 = some (.sc .nilFunc) := eqS (by kernel_rfl)
@[go_sem] theorem co72 : concreteT Tryz.prog 72 = true := eqS (by kernel_rfl)
@[go_sem] theorem sl72 : sliceOf Tryz.prog 72 = none := eqS (by kernel_rfl)
@[go_sem] theorem sz73 : szOf Tryz.prog 73 = some 3 := eqS (by kernel_rfl)
@[go_sem] theorem ag73 : aggOf Tryz.prog 73 = some true := eqS (by kernel_rfl)
@[go_sem] theorem ze73 : zeroOf Tryz.prog 73 = some (.agg [.sc (.string ⟨#[]⟩), .lst true [], .sc (.bool false)]) := eqS (by kernel_rfl)
@[go_sem] theorem co73 : concreteT Tryz.prog 73 = true := eqS (by kernel_rfl)
@[go_sem] theorem sl73 : sliceOf Tryz.prog 73 = none := eqS (by kernel_rfl)
@[go_sem] theorem pl73 : placeOf Tryz.prog 73 = some (plc [(0, 1), (1, 1), (2, 1)]) := eqS (by kernel_rfl)
@[go_sem] theorem fl73_0 : fldOf Tryz.prog 73 0 = some (0, 9, 1) := eqS (by kernel_rfl)
@[go_sem] theorem fl73_1 : fldOf Tryz.prog 73 1 = some (1, 52, 1) := eqS (by kernel_rfl)
@[go_sem] theorem fl73_2 : fldOf Tryz.prog 73 2 = some (2, 4, 1) := eqS (by kernel_rfl)
@[go_sem] theorem zo73 : zerosOk Tryz.prog 73 = true := eqS (by kernel_rfl)
@[go_sem] theorem sz74 : szOf Tryz.prog 74 = some 3 := eqS (by kernel_rfl)
@[go_sem] theorem ag74 : aggOf Tryz.prog 74 = some true := eqS (by kernel_rfl)
@[go_sem] theorem ze74 : zeroOf Tryz.prog 74 = some (.agg [.sc (.string ⟨#[]⟩), .lst true [], .sc (.bool false)]) := eqS (by kernel_rfl)
@[go_sem] theorem co74 : concreteT Tryz.prog 74 = true := eqS (by kernel_rfl)
@[go_sem] theorem sl74 : sliceOf Tryz.prog 74 = none := eqS (by kernel_rfl)
@[go_sem] theorem pl74 : placeOf Tryz.prog 74 = some (plc [(0, 1), (1, 1), (2, 1)]) := eqS (by kernel_rfl)
@[go_sem] theorem fl74_0 : fldOf Tryz.prog 74 0 = some (0, 9, 1) := eqS (by kernel_rfl)
@[go_sem] theorem fl74_1 : fldOf Tryz.prog 74 1 = some (1, 52, 1) := eqS (by kernel_rfl)
@[go_sem] theorem fl74_2 : fldOf Tryz.prog 74 2 = some (2, 4, 1) := eqS (by kernel_rfl)
@[go_sem] theorem zo74 : zerosOk Tryz.prog 74 = true := eqS (by kernel_rfl)
@[go_sem] theorem sz75 : szOf Tryz.prog 75 = some 7 := eqS (by kernel_rfl)
@[go_sem] theorem ag75 : aggOf Tryz.prog 75 = some true := eqS (by kernel_rfl)
@[go_sem] theorem ze75 : zeroOf Tryz.prog 75 = some (.agg [.sc (.string ⟨#[]⟩), .lst true [], .sc (.int .i64 0), .sc (.string ⟨#[]⟩), .sc (.int .i64 0), .lst true [], .sc (.int .i64 0)]) := eqS (by kernel_rfl)
@[go_sem] theorem co75 : concreteT Tryz.prog 75 = true := eqS (by kernel_rfl)
@[go_sem] theorem sl75 : sliceOf Tryz.prog 75 = none := eqS (by kernel_rfl)
@[go_sem] theorem pl75 : placeOf Tryz.prog 75 = some (plc [(0, 1), (1, 1), (2, 5)]) := eqS (by kernel_rfl)
@[go_sem] theorem fl75_0 : fldOf Tryz.prog 75 0 = some (0, 9, 1) := eqS (by kernel_rfl)
@[go_sem] theorem fl75_1 : fldOf Tryz.prog 75 1 = some (1, 28, 1) := eqS (by kernel_rfl)
@[go_sem] theorem fl75_2 : fldOf Tryz.prog 75 2 = some (2, 31, 5) := eqS (by kernel_rfl)
@[go_sem] theorem zo75 : zerosOk Tryz.prog 75 = true := eqS (by kernel_rfl)
@[go_sem] theorem sz76 : szOf Tryz.prog 76 = some 7 := eqS (by kernel_rfl)
@[go_sem] theorem ag76 : aggOf Tryz.prog 76 = some true := eqS (by kernel_rfl)
@[go_sem] theorem ze76 : zeroOf Tryz.prog 76 = some (.agg [.sc (.string ⟨#[]⟩), .lst true [], .sc (.int .i64 0), .sc (.string ⟨#[]⟩), .sc (.int .i64 0), .lst true [], .sc (.int .i64 0)]) := eqS (by kernel_rfl)
@[go_sem] theorem co76 : concreteT Tryz.prog 76 = true := eqS (by kernel_rfl)
@[go_sem] theorem sl76 : sliceOf Tryz.prog 76 = none := eqS (by kernel_rfl)
@[go_sem] theorem pl76 : placeOf Tryz.prog 76 = some (plc [(0, 1), (1, 1), (2, 5)]) := eqS (by kernel_rfl)
@[go_sem] theorem fl76_0 : fldOf Tryz.prog 76 0 = some (0, 9, 1) := eqS (by kernel_rfl)
@[go_sem] theorem fl76_1 : fldOf Tryz.prog 76 1 = some (1, 28, 1) := eqS (by kernel_rfl)
@[go_sem] theorem fl76_2 : fldOf Tryz.prog 76 2 = some (2, 31, 5) := eqS (by kernel_rfl)
@[go_sem] theorem zo76 : zerosOk Tryz.prog 76 = true := eqS (by kernel_rfl)
@[go_sem] theorem sz77 : szOf Tryz.prog 77 = some 1 := eqS (by kernel_rfl)
@[go_sem] theorem ag77 : aggOf Tryz.prog 77 = some false := eqS (by kernel_rfl)
@[go_sem] theorem ze77 : zeroOf Tryz.prog 77 = some (.sc .nilFunc) := eqS (by kernel_rfl)
@[go_sem] theorem co77 : concreteT Tryz.prog 77 = true := eqS (by kernel_rfl)
@[go_sem] theorem sl77 : sliceOf Tryz.prog 77 = none := eqS (by kernel_rfl)
@[go_sem] theorem sz78 : szOf Tryz.prog 78 = some 1 := eqS (by kernel_rfl)
@[go_sem] theorem ag78 : aggOf Tryz.prog 78 = some false := eqS (by kernel_rfl)
@[go_sem] theorem ze78 : zeroOf Tryz.prog 78 = some (.sc .nilFunc) := eqS (by kernel_rfl)
@[go_sem] theorem co78 : concreteT Tryz.prog 78 = true := eqS (by kernel_rfl)
@[go_sem] theorem sl78 : sliceOf Tryz.prog 78 = none := eqS (by kernel_rfl)
@[go_sem] theorem sz79 : szOf Tryz.prog 79 = some 1 := eqS (by kernel_rfl)
@[go_sem] theorem ag79 : aggOf Tryz.prog 79 = some false := eqS (by kernel_rfl)
@[go_sem] theorem ze79 : zeroOf Tryz.prog 79 = some (.sc .nilFunc) := eqS (by kernel_rfl)
@[go_sem] theorem co79 : concreteT Tryz.prog 79 = true := eqS (by kernel_rfl)
@[go_sem] theorem sl79 : sliceOf Tryz.prog 79 = none := eqS (by kernel_rfl)
@[go_sem] theorem sz80 : szOf Tryz.prog 80 = some 1 := eqS (by kernel_rfl)
@[go_sem] theorem ag80 : aggOf Tryz.prog 80 = some false := eqS (by kernel_rfl)
@[go_sem] theorem ze80 : zeroOf Tryz.prog 80 = some (.sc (.map none)) := eqS (by kernel_rfl)
@[go_sem] theorem co80 : concreteT Tryz.prog 80 = true := eqS (by kernel_rfl)
@[go_sem] theorem sl80 : sliceOf Tryz.prog 80 = none := eqS (by kernel_rfl)
@[go_sem] theorem mt80 : mapT Tryz.prog 80 = some (91, 4) := eqS (by kernel_rfl)
@[go_sem] theorem unm80 : Tryz.prog.underlying 80 = some (.map 91 4) := eqS (by kernel_rfl)
@[go_sem] theorem sz81 : szOf Tryz.prog 81 = some 2 := eqS (by kernel_rfl)
@[go_sem] theorem ag81 : aggOf Tryz.prog 81 = some true := eqS (by kernel_rfl)
@[go_sem] theorem ze81 : zeroOf Tryz.prog 81 = some (.agg [.sc (.int .i64 0), .sc (.map none)]) := eqS (by kernel_rfl)
@[go_sem] theorem co81 : concreteT Tryz.prog 81 = true := eqS (by kernel_rfl)
@[go_sem] theorem sl81 : sliceOf Tryz.prog 81 = none := eqS (by kernel_rfl)
@[go_sem] theorem pl81 : placeOf Tryz.prog 81 = some (plc [(0, 1), (1, 1)]) := eqS (by kernel_rfl)
@[go_sem] theorem fl81_0 : fldOf Tryz.prog 81 0 = some (0, 3, 1) := eqS (by kernel_rfl)
@[go_sem] theorem fl81_1 : fldOf Tryz.prog 81 1 = some (1, 80, 1) := eqS (by kernel_rfl)
@[go_sem] theorem zo81 : zerosOk Tryz.prog 81 = true := eqS (by kernel_rfl)
@[go_sem] theorem sz82 : szOf Tryz.prog 82 = some 2 := eqS (by kernel_rfl)
@[go_sem] theorem ag82 : aggOf Tryz.prog 82 = some true := eqS (by kernel_rfl)
@[go_sem] theorem ze82 : zeroOf Tryz.prog 82 = some (.agg [.sc (.int .i64 0), .sc (.map none)]) := eqS (by kernel_rfl)
@[go_sem] theorem co82 : concreteT Tryz.prog 82 = true := eqS (by kernel_rfl)
@[go_sem] theorem sl82 : sliceOf Tryz.prog 82 = none := eqS (by kernel_rfl)
@[go_sem] theorem pl82 : placeOf Tryz.prog 82 = some (plc [(0, 1), (1, 1)]) := eqS (by kernel_rfl)
@[go_sem] theorem fl82_0 : fldOf Tryz.prog 82 0 = some (0, 3, 1) := eqS (by kernel_rfl)
@[go_sem] theorem fl82_1 : fldOf Tryz.prog 82 1 = some (1, 80, 1) := eqS (by kernel_rfl)
@[go_sem] theorem zo82 : zerosOk Tryz.prog 82 = true := eqS (by kernel_rfl)
@[go_sem] theorem sz83 : szOf Tryz.prog 83 = some 1 := eqS (by kernel_rfl)
@[go_sem] theorem ag83 : aggOf Tryz.prog 83 = some false := eqS (by kernel_rfl)
@[go_sem] theorem ze83 : zeroOf Tryz.prog 83 = some (.sc .nilFunc) := eqS (by kernel_rfl)
@[go_sem] theorem co83 : concreteT Tryz.prog 83 = true := eqS (by kernel_rfl)
@[go_sem] theorem sl83 : sliceOf Tryz.prog 83 = none := eqS (by kernel_rfl)
@[go_sem] theorem sz84 : szOf Tryz.prog 84 = some 1 := eqS (by kernel_rfl)
@[go_sem] theorem ag84 : aggOf Tryz.prog 84 = some false := eqS (by kernel_rfl)
@[go_sem] theorem ze84 : zeroOf Tryz.prog 84 = some (.sc (.pointer none)) := eqS (by kernel_rfl)
@[go_sem] theorem co84 : concreteT Tryz.prog 84 = true := eqS (by kernel_rfl)
@[go_sem] theorem sl84 : sliceOf Tryz.prog 84 = none := eqS (by kernel_rfl)
@[go_sem] theorem ptt84 : isPtrT Tryz.prog 84 = true := eqS (by kernel_rfl)
@[go_sem] theorem sz85 : szOf Tryz.prog 85 = some 1 := eqS (by kernel_rfl)
@[go_sem] theorem ag85 : aggOf Tryz.prog 85 = some false := eqS (by kernel_rfl)
@[go_sem] theorem ze85 : zeroOf Tryz.prog 85 = some (.sc .nilFunc) := eqS (by kernel_rfl)
@[go_sem] theorem co85 : concreteT Tryz.prog 85 = true := eqS (by kernel_rfl)
@[go_sem] theorem sl85 : sliceOf Tryz.prog 85 = none := eqS (by kernel_rfl)
@[go_sem] theorem sz86 : szOf Tryz.prog 86 = some 1 := eqS (by kernel_rfl)
@[go_sem] theorem ag86 : aggOf Tryz.prog 86 = some false := eqS (by kernel_rfl)
@[go_sem] theorem ze86 : zeroOf Tryz.prog 86 = some (.sc .nilFunc) := eqS (by kernel_rfl)
@[go_sem] theorem co86 : concreteT Tryz.prog 86 = true := eqS (by kernel_rfl)
@[go_sem] theorem sl86 : sliceOf Tryz.prog 86 = none := eqS (by kernel_rfl)
@[go_sem] theorem sz87 : szOf Tryz.prog 87 = some 1 := eqS (by kernel_rfl)
@[go_sem] theorem ag87 : aggOf Tryz.prog 87 = some false := eqS (by kernel_rfl)
@[go_sem] theorem ze87 : zeroOf Tryz.prog 87 = some (.sc (.pointer none)) := eqS (by kernel_rfl)
@[go_sem] theorem co87 : concreteT Tryz.prog 87 = true := eqS (by kernel_rfl)
@[go_sem] theorem sl87 : sliceOf Tryz.prog 87 = none := eqS (by kernel_rfl)
@[go_sem] theorem ptt87 : isPtrT Tryz.prog 87 = true := eqS (by kernel_rfl)
@[go_sem] theorem sz88 : szOf Tryz.prog 88 = some 1 := eqS (by kernel_rfl)
@[go_sem] theorem ag88 : aggOf Tryz.prog 88 = some false := eqS (by kernel_rfl)
@[go_sem] theorem ze88 : zeroOf Tryz.prog 88 = some (.sc .nilFunc) := eqS (by kernel_rfl)
@[go_sem] theorem co88 : concreteT Tryz.prog 88 = true := eqS (by kernel_rfl)
@[go_sem] theorem sl88 : sliceOf Tryz.prog 88 = none := eqS (by kernel_rfl)
@[go_sem] theorem sz89 : szOf Tryz.prog 89 = some 1 := eqS (by kernel_rfl)
@[go_sem] theorem ag89 : aggOf Tryz.prog 89 = some false := eqS (by kernel_rfl)
@[go_sem] theorem ze89 : zeroOf Tryz.prog 89 = some (.sc (.int .i8 0)) := eqS (by kernel_rfl)
@[go_sem] theorem co89 : concreteT Tryz.prog 89 = true := eqS (by kernel_rfl)
@[go_sem] theorem sl89 : sliceOf Tryz.prog 89 = none := eqS (by kernel_rfl)
@[go_sem] theorem un89 : Tryz.prog.underlying 89 = some (.int .i8) := eqS (by kernel_rfl)
@[go_sem] theorem sz90 : szOf Tryz.prog 90 = some 3 := eqS (by kernel_rfl)
@[go_sem] theorem ag90 : aggOf Tryz.prog 90 = some true := eqS (by kernel_rfl)
@[go_sem] theorem ze90 : zeroOf Tryz.prog 90 = some (.agg [.sc (.int .i8 0), .sc (.int .i8 0), .sc (.int .i8 0)]) := eqS (by kernel_rfl)
@[go_sem] theorem co90 : concreteT Tryz.prog 90 = true := eqS (by kernel_rfl)
@[go_sem] theorem sl90 : sliceOf Tryz.prog 90 = none := eqS (by kernel_rfl)
@[go_sem] theorem ar90 : arrOf Tryz.prog 90 = some (3, 89, 1) := eqS (by kernel_rfl)
@[go_sem] theorem pl90 : placeOf Tryz.prog 90 = some (plA 1) := eqS (by kernel_rfl)
@[go_sem] theorem ia90 : intArr Tryz.prog 90 = some 3 := eqS (by kernel_rfl)
@[go_sem] theorem un90 : Tryz.prog.underlying 90 = some (.array 3 89) := eqS (by kernel_rfl)
@[go_sem] theorem zo90 : zerosOk Tryz.prog 90 = true := eqS (by kernel_rfl)
@[go_sem] theorem sz91 : szOf Tryz.prog 91 = some 3 := eqS (by kernel_rfl)
@[go_sem] theorem ag91 : aggOf Tryz.prog 91 = some true := eqS (by kernel_rfl)
@[go_sem] theorem ze91 : zeroOf Tryz.prog 91 = some (.agg [.sc (.int .i8 0), .sc (.int .i8 0), .sc (.int .i8 0)]) := eqS (by kernel_rfl)
@[go_sem] theorem co91 : concreteT Tryz.prog 91 = true := eqS (by kernel_rfl)
@[go_sem] theorem sl91 : sliceOf Tryz.prog 91 = none := eqS (by kernel_rfl)
@[go_sem] theorem ar91 : arrOf Tryz.prog 91 = some (3, 89, 1) := eqS (by kernel_rfl)
@[go_sem] theorem pl91 : placeOf Tryz.prog 91 = some (plA 1) := eqS (by kernel_rfl)
@[go_sem] theorem ia91 : intArr Tryz.prog 91 = some 3 := eqS (by kernel_rfl)
@[go_sem] theorem un91 : Tryz.prog.underlying 91 = some (.array 3 89) := eqS (by kernel_rfl)
@[go_sem] theorem zo91 : zerosOk Tryz.prog 91 = true := eqS (by kernel_rfl)
@[go_sem] theorem sz92 : szOf Tryz.prog 92 = some 1 := eqS (by kernel_rfl)
@[go_sem] theorem ag92 : aggOf Tryz.prog 92 = some false := eqS (by kernel_rfl)
@[go_sem] theorem ze92 : zeroOf Tryz.prog 92 = some (.lst true []) := eqS (by kernel_rfl)
@[go_sem] theorem co92 : concreteT Tryz.prog 92 = true := eqS (by kernel_rfl)
@[go_sem] theorem sl92 : sliceOf Tryz.prog 92 = some (89, 1, 1) := eqS (by kernel_rfl)
@[go_sem] theorem sz93 : szOf Tryz.prog 93 = some 1 := eqS (by kernel_rfl)
@[go_sem] theorem ag93 : aggOf Tryz.prog 93 = some false := eqS (by kernel_rfl)
@[go_sem] theorem ze93 : zeroOf Tryz.prog 93 = some (.sc .nilFunc) := eqS (by kernel_rfl)
@[go_sem] theorem co93 : concreteT Tryz.prog 93 = true := eqS (by kernel_rfl)
@[go_sem] theorem sl93 : sliceOf Tryz.prog 93 = none := eqS (by kernel_rfl)
@[go_sem] theorem sz94 : szOf Tryz.prog 94 = some 1 := eqS (by kernel_rfl)
@[go_sem] theorem ag94 : aggOf Tryz.prog 94 = some false := eqS (by kernel_rfl)
@[go_sem] theorem ze94 : zeroOf Tryz.prog 94 = some (.sc .nilFunc) := eqS (by kernel_rfl)
@[go_sem] theorem co94 : concreteT Tryz.prog 94 = true := eqS (by kernel_rfl)
@[go_sem] theorem sl94 : sliceOf Tryz.prog 94 = none := eqS (by kernel_rfl)
@[go_sem] theorem sz96 : szOf Tryz.prog 96 = some 1 := eqS (by kernel_rfl)
@[go_sem] theorem ag96 : aggOf Tryz.prog 96 = some false := eqS (by kernel_rfl)
@[go_sem] theorem ze96 : zeroOf Tryz.prog 96 = some (.sc .nilFunc) := eqS (by kernel_rfl)
@[go_sem] theorem co96 : concreteT Tryz.prog 96 = true := eqS (by kernel_rfl)
@[go_sem] theorem sl96 : sliceOf Tryz.prog 96 = none := eqS (by kernel_rfl)
@[go_sem] theorem sz97 : szOf Tryz.prog 97 = some 1 := eqS (by kernel_rfl)
@[go_sem] theorem ag97 : aggOf Tryz.prog 97 = some false := eqS (by kernel_rfl)
@[go_sem] theorem ze97 : zeroOf Tryz.prog 97 = some (.lst true []) := eqS (by kernel_rfl)
@[go_sem] theorem co97 : concreteT Tryz.prog 97 = true := eqS (by kernel_rfl)
@[go_sem] theorem sl97 : sliceOf Tryz.prog 97 = some (4, 1, 1) := eqS (by kernel_rfl)
@[go_sem] theorem sz98 : szOf Tryz.prog 98 = some 1 := eqS (by kernel_rfl)
@[go_sem] theorem ag98 : aggOf Tryz.prog 98 = some false := eqS (by kernel_rfl)
@[go_sem] theorem ze98 : zeroOf Tryz.prog 98 = some (.sc .nilFunc) := eqS (by kernel_rfl)
@[go_sem] theorem co98 : concreteT Tryz.prog 98 = true := eqS (by kernel_rfl)
@[go_sem] theorem sl98 : sliceOf Tryz.prog 98 = none := eqS (by kernel_rfl)
@[go_sem] theorem sz99 : szOf Tryz.prog 99 = some 7 := eqS (by kernel_rfl)
@[go_sem] theorem ag99 : aggOf Tryz.prog 99 = some true := eqS (by kernel_rfl)
@[go_sem] theorem ze99 : zeroOf Tryz.prog 99 = some (.agg [.lst true [], .lst true [], .lst true [], .lst true [], .lst true [], .sc (.int .i64 0), .sc (.bool false)]) := eqS (by kernel_rfl)
@[go_sem] theorem co99 : concreteT Tryz.prog 99 = true := eqS (by kernel_rfl)
@[go_sem] theorem sl99 : sliceOf Tryz.prog 99 = none := eqS (by kernel_rfl)
@[go_sem] theorem pl99 : placeOf Tryz.prog 99 = some (plc [(0, 4), (4, 1), (5, 1), (6, 1)]) := eqS (by kernel_rfl)
@[go_sem] theorem fl99_0 : fldOf Tryz.prog 99 0 = some (0, 27, 4) := eqS (by kernel_rfl)
@[go_sem] theorem fl99_1 : fldOf Tryz.prog 99 1 = some (4, 97, 1) := eqS (by kernel_rfl)
@[go_sem] theorem fl99_2 : fldOf Tryz.prog 99 2 = some (5, 3, 1) := eqS (by kernel_rfl)
@[go_sem] theorem fl99_3 : fldOf Tryz.prog 99 3 = some (6, 4, 1) := eqS (by kernel_rfl)
@[go_sem] theorem zo99 : zerosOk Tryz.prog 99 = true := eqS (by kernel_rfl)
@[go_sem] theorem sz100 : szOf Tryz.prog 100 = some 7 := eqS (by kernel_rfl)
@[go_sem] theorem ag100 : aggOf Tryz.prog 100 = some true := eqS (by kernel_rfl)
@[go_sem] theorem ze100 : zeroOf Tryz.prog 100 = some (.agg [.lst true [], .lst true [], .lst true [], .lst true [], .lst true [], .sc (.int .i64 0), .sc (.bool false)]) := eqS (by kernel_rfl)
@[go_sem] theorem co100 : concreteT Tryz.prog 100 = true := eqS (by kernel_rfl)
@[go_sem] theorem sl100 : sliceOf Tryz.prog 100 = none := eqS (by kernel_rfl)
@[go_sem] theorem pl100 : placeOf Tryz.prog 100 = some (plc [(0, 4), (4, 1), (5, 1), (6, 1)]) := eqS (by kernel_rfl)
@[go_sem] theorem fl100_0 : fldOf Tryz.prog 100 0 = some (0, 27, 4) := eqS (by kernel_rfl)
@[go_sem] theorem fl100_1 : fldOf Tryz.prog 100 1 = some (4, 97, 1) := eqS (by kernel_rfl)
@[go_sem] theorem fl100_2 : fldOf Tryz.prog 100 2 = some (5, 3, 1) := eqS (by kernel_rfl)
@[go_sem] theorem fl100_3 : fldOf Tryz.prog 100 3 = some (6, 4, 1) := eqS (by kernel_rfl)
@[go_sem] theorem zo100 : zerosOk Tryz.prog 100 = true := eqS (by kernel_rfl)
@[go_sem] theorem sz101 : szOf Tryz.prog 101 = some 1 := eqS (by kernel_rfl)
@[go_sem] theorem ag101 : aggOf Tryz.prog 101 = some false := eqS (by kernel_rfl)
@[go_sem] theorem ze101 : zeroOf Tryz.prog 101 = some (.lst true []) := eqS (by kernel_rfl)
@[go_sem] theorem co101 : concreteT Tryz.prog 101 = true := eqS (by kernel_rfl)
@[go_sem] theorem sl101 : sliceOf Tryz.prog 101 = some (164, 66, 88) := eqS (by kernel_rfl)
@[go_sem] theorem sz102 : szOf Tryz.prog 102 = some 1 := eqS (by kernel_rfl)
@[go_sem] theorem ag102 : aggOf Tryz.prog 102 = some false := eqS (by kernel_rfl)
@[go_sem] theorem ze102 : zeroOf Tryz.prog 102 = some (.sc .nilFunc) := eqS (by kernel_rfl)
@[go_sem] theorem co102 : concreteT Tryz.prog 102 = true := eqS (by kernel_rfl)
@[go_sem] theorem sl102 : sliceOf Tryz.prog 102 = none := eqS (by kernel_rfl)
@[go_sem] theorem sz103 : szOf Tryz.prog 103 = some 1 := eqS (by kernel_rfl)
@[go_sem] theorem ag103 : aggOf Tryz.prog 103 = some false := eqS (by kernel_rfl)
@[go_sem] theorem ze103 : zeroOf Tryz.prog 103 = some (.sc .nilFunc) := eqS (by kernel_rfl)
@[go_sem] theorem co103 : concreteT Tryz.prog 103 = true := eqS (by kernel_rfl)
@[go_sem] theorem sl103 : sliceOf Tryz.prog 103 = none := eqS (by kernel_rfl)
@[go_sem] theorem sz104 : szOf Tryz.prog 104 = some 1 := eqS (by kernel_rfl)
@[go_sem] theorem ag104 : aggOf Tryz.prog 104 = some false := eqS (by kernel_rfl)
@[go_sem] theorem ze104 : zeroOf Tryz.prog 104 = some (.sc .nilFunc) := eqS (by kernel_rfl)
@[go_sem] theorem co104 : concreteT Tryz.prog 104 = true := eqS (by kernel_rfl)
@[go_sem] theorem sl104 : sliceOf Tryz.prog 104 = none := eqS (by kernel_rfl)
@[go_sem] theorem sz105 : szOf Tryz.prog 105 = some 1 := eqS (by kernel_rfl)
@[go_sem] theorem ag105 : aggOf Tryz.prog 105 = some false := eqS (by kernel_rfl)
@[go_sem] theorem ze105 : zeroOf Tryz.prog 105 = some (.sc .nilFunc) := eqS (by kernel_rfl)
@[go_sem] theorem co105 : concreteT Tryz.prog 105 = true := eqS (by kernel_rfl)
@[go_sem] theorem sl105 : sliceOf Tryz.prog 105 = none := eqS (by kernel_rfl)
@[go_sem] theorem sz106 : szOf Tryz.prog 106 = some 1 := eqS (by kernel_rfl)
@[go_sem] theorem ag106 : aggOf Tryz.prog 106 = some false := eqS (by kernel_rfl)
@[go_sem] theorem ze106 : zeroOf Tryz.prog 106 = some (.sc .nilFunc) := eqS (by kernel_rfl)
@[go_sem] theorem co106 : concreteT Tryz.prog 106 = true := eqS (by kernel_rfl)
@[go_sem] theorem sl106 : sliceOf Tryz.prog 106 = none := eqS (by kernel_rfl)
@[go_sem] theorem sz107 : szOf Tryz.prog 107 = some 2 := eqS (by kernel_rfl)
@[go_sem] theorem ag107 : aggOf Tryz.prog 107 = some true := eqS (by kernel_rfl)
@[go_sem] theorem ze107 : zeroOf Tryz.prog 107 = some (.agg [.sc (.string ⟨#[]⟩), .sc (.bool false)]) := eqS (by kernel_rfl)
@[go_sem] theorem co107 : concreteT Tryz.prog 107 = true := eqS (by kernel_rfl)
@[go_sem] theorem sl107 : sliceOf Tryz.prog 107 = none := eqS (by kernel_rfl)
@[go_sem] theorem pl107 : placeOf Tryz.prog 107 = some (plc [(0, 1), (1, 1)]) := eqS (by kernel_rfl)
@[go_sem] theorem fl107_0 : fldOf Tryz.prog 107 0 = some (0, 9, 1) := eqS (by kernel_rfl)
@[go_sem] theorem fl107_1 : fldOf Tryz.prog 107 1 = some (1, 4, 1) := eqS (by kernel_rfl)
@[go_sem] theorem zo107 : zerosOk Tryz.prog 107 = true := eqS (by kernel_rfl)
@[go_sem] theorem sz108 : szOf Tryz.prog 108 = some 2 := eqS (by kernel_rfl)
@[go_sem] theorem ag108 : aggOf Tryz.prog 108 = some true := eqS (by kernel_rfl)
@[go_sem] theorem ze108 : zeroOf Tryz.prog 108 = some (.agg [.sc (.string ⟨#[]⟩), .sc (.bool false)]) := eqS (by kernel_rfl)
@[go_sem] theorem co108 : concreteT Tryz.prog 108 = true := eqS (by kernel_rfl)
@[go_sem] theorem sl108 : sliceOf Tryz.prog 108 = none := eqS (by kernel_rfl)
@[go_sem] theorem pl108 : placeOf Tryz.prog 108 = some (plc [(0, 1), (1, 1)]) := eqS (by kernel_rfl)
@[go_sem] theorem fl108_0 : fldOf Tryz.prog 108 0 = some (0, 9, 1) := eqS (by kernel_rfl)
@[go_sem] theorem fl108_1 : fldOf Tryz.prog 108 1 = some (1, 4, 1) := eqS (by kernel_rfl)
@[go_sem] theorem zo108 : zerosOk Tryz.prog 108 = true := eqS (by kernel_rfl)
@[go_sem] theorem sz109 : szOf Tryz.prog 109 = some 1 := eqS (by kernel_rfl)
@[go_sem] theorem ag109 : aggOf Tryz.prog 109 = some false := eqS (by kernel_rfl)
@[go_sem] theorem ze109 : zeroOf Tryz.prog 109 = some (.sc .nilFunc) := eqS (by kernel_rfl)
@[go_sem] theorem co109 : concreteT Tryz.prog 109 = true := eqS (by kernel_rfl)
@[go_sem] theorem sl109 : sliceOf Tryz.prog 109 = none := eqS (by kernel_rfl)
@[go_sem] theorem sz110 : szOf Tryz.prog 110 = some 1 := eqS (by kernel_rfl)
@[go_sem] theorem ag110 : aggOf Tryz.prog 110 = some false := eqS (by kernel_rfl)
@[go_sem] theorem ze110 : zeroOf Tryz.prog 110 = some (.sc .nilFunc) := eqS (by kernel_rfl)
@[go_sem] theorem co110 : concreteT Tryz.prog 110 = true := eqS (by kernel_rfl)
@[go_sem] theorem sl110 : sliceOf Tryz.prog 110 = none := eqS (by kernel_rfl)
@[go_sem] theorem sz111 : szOf Tryz.prog 111 = some 1 := eqS (by kernel_rfl)
@[go_sem] theorem ag111 : aggOf Tryz.prog 111 = some false := eqS (by kernel_rfl)
@[go_sem] theorem ze111 : zeroOf Tryz.prog 111 = some (.sc .nilFunc) := eqS (by kernel_rfl)
@[go_sem] theorem co111 : concreteT Tryz.prog 111 = true := eqS (by kernel_rfl)
@[go_sem] theorem sl111 : sliceOf Tryz.prog 111 = none := eqS (by kernel_rfl)
@[go_sem] theorem sz112 : szOf Tryz.prog 112 = some 1 := eqS (by kernel_rfl)
@[go_sem] theorem ag112 : aggOf Tryz.prog 112 = some false := eqS (by kernel_rfl)
@[go_sem] theorem ze112 : zeroOf Tryz.prog 112 = some (.sc .nilFunc) := eqS (by kernel_rfl)
@[go_sem] theorem co112 : concreteT Tryz.prog 112 = true := eqS (by kernel_rfl)
@[go_sem] theorem sl112 : sliceOf Tryz.prog 112 = none := eqS (by kernel_rfl)
@[go_sem] theorem sz113 : szOf Tryz.prog 113 = some 1 := eqS (by kernel_rfl)
@[go_sem] theorem ag113 : aggOf Tryz.prog 113 = some false := eqS (by kernel_rfl)
@[go_sem] theorem ze113 : zeroOf Tryz.prog 113 = some (.sc .nilFunc) := eqS (by kernel_rfl)
@[go_sem] theorem co113 : concreteT Tryz.prog 113 = true := eqS (by kernel_rfl)
@[go_sem] theorem sl113 : sliceOf Tryz.prog 113 = none := eqS (by kernel_rfl)
@[go_sem] theorem sz114 : szOf Tryz.prog 114 = some 1 := eqS (by kernel_rfl)
@[go_sem] theorem ag114 : aggOf Tryz.prog 114 = some false := eqS (by kernel_rfl)
@[go_sem] theorem ze114 : zeroOf Tryz.prog 114 = some (.sc .nilFunc) := eqS (by kernel_rfl)
@[go_sem] theorem co114 : concreteT Tryz.prog 114 = true := eqS (by kernel_rfl)
@[go_sem] theorem sl114 : sliceOf Tryz.prog 114 = none := eqS (by kernel_rfl)
@[go_sem] theorem sz115 : szOf Tryz.prog 115 = some 1 := eqS (by kernel_rfl)
@[go_sem] theorem ag115 : aggOf Tryz.prog 115 = some false := eqS (by kernel_rfl)
@[go_sem] theorem ze115 : zeroOf Tryz.prog 115 = some (.sc .nilFunc) := eqS (by kernel_rfl)
@[go_sem] theorem co115 : concreteT Tryz.prog 115 = true := eqS (by kernel_rfl)
@[go_sem] theorem sl115 : sliceOf Tryz.prog 115 = none := eqS (by kernel_rfl)
@[go_sem] theorem sz116 : szOf Tryz.prog 116 = some 1 := eqS (by kernel_rfl)
@[go_sem] theorem ag116 : aggOf Tryz.prog 116 = some false := eqS (by kernel_rfl)
@[go_sem] theorem ze116 : zeroOf Tryz.prog 116 = some (.sc .nilFunc) := eqS (by kernel_rfl)
@[go_sem] theorem co116 : concreteT Tryz.prog 116 = true := eqS (by kernel_rfl)
@[go_sem] theorem sl116 : sliceOf Tryz.prog 116 = none := eqS (by kernel_rfl)
@[go_sem] theorem sz117 : szOf Tryz.prog 117 = some 1 := eqS (by kernel_rfl)
@[go_sem] theorem ag117 : aggOf Tryz.prog 117 = some false := eqS (by kernel_rfl)
@[go_sem] theorem ze117 : zeroOf Tryz.prog 117 = some (.sc .nilFunc) := eqS (by kernel_rfl)
@[go_sem] theorem co117 : concreteT Tryz.prog 117 = true := eqS (by kernel_rfl)
@[go_sem] theorem sl117 : sliceOf Tryz.prog 117 = none := eqS (by kernel_rfl)
@[go_sem] theorem sz118 : szOf Tryz.prog 118 = some 1 := eqS (by kernel_rfl)
@[go_sem] theorem ag118 : aggOf Tryz.prog 118 = some false := eqS (by kernel_rfl)
@[go_sem] theorem ze118 : zeroOf Tryz.prog 118 = some (.sc .nilFunc) := eqS (by kernel_rfl)
@[go_sem] theorem co118 : concreteT Tryz.prog 118 = true := eqS (by kernel_rfl)
@[go_sem] theorem sl118 : sliceOf Tryz.prog 118 = none := eqS (by kernel_rfl)
@[go_sem] theorem sz119 : szOf Tryz.prog 119 = some 1 := eqS (by kernel_rfl)
@[go_sem] theorem ag119 : aggOf Tryz.prog 119 = some false := eqS (by kernel_rfl)
@[go_sem] theorem ze119 : zeroOf Tryz.prog 119 = some (.sc .nilFunc) := eqS (by kernel_rfl)
@[go_sem] theorem co119 : concreteT Tryz.prog 119 = true := eqS (by kernel_rfl)
@[go_sem] theorem sl119 : sliceOf Tryz.prog 119 = none := eqS (by kernel_rfl)
@[go_sem] theorem sz120 : szOf Tryz.prog 120 = some 1 := eqS (by kernel_rfl)
@[go_sem] theorem ag120 : aggOf Tryz.prog 120 = some false := eqS (by kernel_rfl)
@[go_sem] theorem ze120 : zeroOf Tryz.prog 120 = some (.sc .nilFunc) := eqS (by kernel_rfl)
@[go_sem] theorem co120 : concreteT Tryz.prog 120 = true := eqS (by kernel_rfl)
@[go_sem] theorem sl120 : sliceOf Tryz.prog 120 = none := eqS (by kernel_rfl)
@[go_sem] theorem sz121 : szOf Tryz.prog 121 = some 1 := eqS (by kernel_rfl)
@[go_sem] theorem ag121 : aggOf Tryz.prog 121 = some false := eqS (by kernel_rfl)
@[go_sem] theorem ze121 : zeroOf Tryz.prog 121 = some (.sc (.pointer none)) := eqS (by kernel_rfl)
@[go_sem] theorem co121 : concreteT Tryz.prog 121 = true := eqS (by kernel_rfl)
@[go_sem] theorem sl121 : sliceOf Tryz.prog 121 = none := eqS (by kernel_rfl)
@[go_sem] theorem ptt121 : isPtrT Tryz.prog 121 = true := eqS (by kernel_rfl)
@[go_sem] theorem sz122 : szOf Tryz.prog 122 = some 1 := eqS (by kernel_rfl)
@[go_sem] theorem ag122 : aggOf Tryz.prog 122 = some false := eqS (by kernel_rfl)
@[go_sem] theorem ze122 : zeroOf Tryz.prog 122 = some (.sc (.map none)) := eqS (by kernel_rfl)
@[go_sem] theorem co122 : concreteT Tryz.prog 122 = true := eqS (by kernel_rfl)
@[go_sem] theorem sl122 : sliceOf Tryz.prog 122 = none := eqS (by kernel_rfl)
@[go_sem] theorem mt122 : mapT Tryz.prog 122 = some (9, 4) := eqS (by kernel_rfl)
@[go_sem] theorem unm122 : Tryz.prog.underlying 122 = some (.map 9 4) := eqS (by kernel_rfl)
@[go_sem] theorem sz123 : szOf Tryz.prog 123 = some 7 := eqS (by kernel_rfl)
@[go_sem] theorem ag123 : aggOf Tryz.prog 123 = some true := eqS (by kernel_rfl)
@[go_sem] theorem ze123 : zeroOf Tryz.prog 123 = some (.agg [.lst true [], .lst true [], .lst true [], .lst true [], .sc (.map none), .sc (.int .i64 0), .sc (.int .i64 0)]) := eqS (by kernel_rfl)
@[go_sem] theorem co123 : concreteT Tryz.prog 123 = true := eqS (by kernel_rfl)
@[go_sem] theorem sl123 : sliceOf Tryz.prog 123 = none := eqS (by kernel_rfl)
@[go_sem] theorem pl123 : placeOf Tryz.prog 123 = some (plc [(0, 4), (4, 1), (5, 1), (6, 1)]) := eqS (by kernel_rfl)
@[go_sem] theorem fl123_0 : fldOf Tryz.prog 123 0 = some (0, 27, 4) := eqS (by kernel_rfl)
@[go_sem] theorem fl123_1 : fldOf Tryz.prog 123 1 = some (4, 122, 1) := eqS (by kernel_rfl)
@[go_sem] theorem fl123_2 : fldOf Tryz.prog 123 2 = some (5, 3, 1) := eqS (by kernel_rfl)
@[go_sem] theorem fl123_3 : fldOf Tryz.prog 123 3 = some (6, 3, 1) := eqS (by kernel_rfl)
@[go_sem] theorem zo123 : zerosOk Tryz.prog 123 = true := eqS (by kernel_rfl)
@[go_sem] theorem sz124 : szOf Tryz.prog 124 = some 7 := eqS (by kernel_rfl)
@[go_sem] theorem ag124 : aggOf Tryz.prog 124 = some true := eqS (by kernel_rfl)
@[go_sem] theorem ze124 : zeroOf Tryz.prog 124 = some (.agg [.lst true [], .lst true [], .lst true [], .lst true [], .sc (.map none), .sc (.int .i64 0), .sc (.int .i64 0)]) := eqS (by kernel_rfl)
@[go_sem] theorem co124 : concreteT Tryz.prog 124 = true := eqS (by kernel_rfl)
@[go_sem] theorem sl124 : sliceOf Tryz.prog 124 = none := eqS (by kernel_rfl)
@[go_sem] theorem pl124 : placeOf Tryz.prog 124 = some (plc [(0, 4), (4, 1), (5, 1), (6, 1)]) := eqS (by kernel_rfl)
@[go_sem] theorem fl124_0 : fldOf Tryz.prog 124 0 = some (0, 27, 4) := eqS (by kernel_rfl)
@[go_sem] theorem fl124_1 : fldOf Tryz.prog 124 1 = some (4, 122, 1) := eqS (by kernel_rfl)
@[go_sem] theorem fl124_2 : fldOf Tryz.prog 124 2 = some (5, 3, 1) := eqS (by kernel_rfl)
@[go_sem] theorem fl124_3 : fldOf Tryz.prog 124 3 = some (6, 3, 1) := eqS (by kernel_rfl)
@[go_sem] theorem zo124 : zerosOk Tryz.prog 124 = true := eqS (by kernel_rfl)
@[go_sem] theorem sz125 : szOf Tryz.prog 125 = some 1 := eqS (by kernel_rfl)
@[go_sem] theorem ag125 : aggOf Tryz.prog 125 = some false := eqS (by kernel_rfl)
@[go_sem] theorem ze125 : zeroOf Tryz.prog 125 = some (.sc .nilFunc) := eqS (by kernel_rfl)
@[go_sem] theorem co125 : concreteT Tryz.prog 125 = true := eqS (by kernel_rfl)
@[go_sem] theorem sl125 : sliceOf Tryz.prog 125 = none := eqS (by kernel_rfl)
@[go_sem] theorem sz126 : szOf Tryz.prog 126 = some 1 := eqS (by kernel_rfl)
@[go_sem] theorem ag126 : aggOf Tryz.prog 126 = some false := eqS (by kernel_rfl)
@[go_sem] theorem ze126 : zeroOf Tryz.prog 126 = some (.sc .nilFunc) := eqS (by kernel_rfl)
@[go_sem] theorem co126 : concreteT Tryz.prog 126 = true := eqS (by kernel_rfl)
@[go_sem] theorem sl126 : sliceOf Tryz.prog 126 = none := eqS (by kernel_rfl)
@[go_sem] theorem sz128 : szOf Tryz.prog 128 = some 1 := eqS (by kernel_rfl)
@[go_sem] theorem ag128 : aggOf Tryz.prog 128 = some false := eqS (by kernel_rfl)
@[go_sem] theorem ze128 : zeroOf Tryz.prog 128 = some (.sc .nilFunc) := eqS (by kernel_rfl)
@[go_sem] theorem co128 : concreteT Tryz.prog 128 = true := eqS (by kernel_rfl)
@[go_sem] theorem sl128 : sliceOf Tryz.prog 128 = none := eqS (by kernel_rfl)
@[go_sem] theorem sz129 : szOf Tryz.prog 129 = some 1 := eqS (by kernel_rfl)
@[go_sem] theorem ag129 : aggOf Tryz.prog 129 = some false := eqS (by kernel_rfl)
@[go_sem] theorem ze129 : zeroOf Tryz.prog 129 = some (.sc (.map none)) := eqS (by kernel_rfl)
@[go_sem] theorem co129 : concreteT Tryz.prog 129 = true := eqS (by kernel_rfl)
@[go_sem] theorem sl129 : sliceOf Tryz.prog 129 = none := eqS (by kernel_rfl)
@[go_sem] theorem mt129 : mapT Tryz.prog 129 = some (9, 181) := eqS (by kernel_rfl)
@[go_sem] theorem unm129 : Tryz.prog.underlying 129 = some (.map 9 181) := eqS (by kernel_rfl)
@[go_sem] theorem sz130 : szOf Tryz.prog 130 = some 1 := eqS (by kernel_rfl)
@[go_sem] theorem ag130 : aggOf Tryz.prog 130 = some false := eqS (by kernel_rfl)
@[go_sem] theorem ze130 : zeroOf Tryz.prog 130 = some (.sc .nilFunc) := eqS (by kernel_rfl)
@[go_sem] theorem co130 : concreteT Tryz.prog 130 = true := eqS (by kernel_rfl)
@[go_sem] theorem sl130 : sliceOf Tryz.prog 130 = none := eqS (by kernel_rfl)
@[go_sem] theorem sz131 : szOf Tryz.prog 131 = some 1 := eqS (by kernel_rfl)
@[go_sem] theorem ag131 : aggOf Tryz.prog 131 = some false := eqS (by kernel_rfl)
@[go_sem] theorem ze131 : zeroOf Tryz.prog 131 = some (.sc .nilFunc) := eqS (by kernel_rfl)
@[go_sem] theorem co131 : concreteT Tryz.prog 131 = true := eqS (by kernel_rfl)
@[go_sem] theorem sl131 : sliceOf Tryz.prog 131 = none := eqS (by kernel_rfl)
@[go_sem] theorem sz132 : szOf Tryz.prog 132 = some 1 := eqS (by kernel_rfl)
@[go_sem] theorem ag132 : aggOf Tryz.prog 132 = some false := eqS (by kernel_rfl)
@[go_sem] theorem ze132 : zeroOf Tryz.prog 132 = some (.lst true []) := eqS (by kernel_rfl)
@[go_sem] theorem co132 : concreteT Tryz.prog 132 = true := eqS (by kernel_rfl)
@[go_sem] theorem sl132 : sliceOf Tryz.prog 132 = some (9, 1, 16) := eqS (by kernel_rfl)
@[go_sem] theorem sz133 : szOf Tryz.prog 133 = some 7 := eqS (by kernel_rfl)
@[go_sem] theorem ag133 : aggOf Tryz.prog 133 = some true := eqS (by kernel_rfl)
@[go_sem] theorem ze133 : zeroOf Tryz.prog 133 = some (.agg [.lst true [], .lst true [], .lst true [], .lst true [], .lst true [], .sc (.int .i64 0), .sc (.int .i64 0)]) := eqS (by kernel_rfl)
@[go_sem] theorem co133 : concreteT Tryz.prog 133 = true := eqS (by kernel_rfl)
@[go_sem] theorem sl133 : sliceOf Tryz.prog 133 = none := eqS (by kernel_rfl)
@[go_sem] theorem pl133 : placeOf Tryz.prog 133 = some (plc [(0, 4), (4, 1), (5, 1), (6, 1)]) := eqS (by kernel_rfl)
@[go_sem] theorem fl133_0 : fldOf Tryz.prog 133 0 = some (0, 27, 4) := eqS (by kernel_rfl)
@[go_sem] theorem fl133_1 : fldOf Tryz.prog 133 1 = some (4, 132, 1) := eqS (by kernel_rfl)
@[go_sem] theorem fl133_2 : fldOf Tryz.prog 133 2 = some (5, 3, 1) := eqS (by kernel_rfl)
@[go_sem] theorem fl133_3 : fldOf Tryz.prog 133 3 = some (6, 3, 1) := eqS (by kernel_rfl)
@[go_sem] theorem zo133 : zerosOk Tryz.prog 133 = true := eqS (by kernel_rfl)
@[go_sem] theorem sz134 : szOf Tryz.prog 134 = some 7 := eqS (by kernel_rfl)
@[go_sem] theorem ag134 : aggOf Tryz.prog 134 = some true := eqS (by kernel_rfl)
@[go_sem] theorem ze134 : zeroOf Tryz.prog 134 = some (.agg [.lst true [], .lst true [], .lst true [], .lst true [], .lst true [], .sc (.int .i64 0), .sc (.int .i64 0)]) := eqS (by kernel_rfl)
@[go_sem] theorem co134 : concreteT Tryz.prog 134 = true := eqS (by kernel_rfl)
@[go_sem] theorem sl134 : sliceOf Tryz.prog 134 = none := eqS (by kernel_rfl)
@[go_sem] theorem pl134 : placeOf Tryz.prog 134 = some (plc [(0, 4), (4, 1), (5, 1), (6, 1)]) := eqS (by kernel_rfl)
@[go_sem] theorem fl134_0 : fldOf Tryz.prog 134 0 = some (0, 27, 4) := eqS (by kernel_rfl)
@[go_sem] theorem fl134_1 : fldOf Tryz.prog 134 1 = some (4, 132, 1) := eqS (by kernel_rfl)
@[go_sem] theorem fl134_2 : fldOf Tryz.prog 134 2 = some (5, 3, 1) := eqS (by kernel_rfl)
@[go_sem] theorem fl134_3 : fldOf Tryz.prog 134 3 = some (6, 3, 1) := eqS (by kernel_rfl)
@[go_sem] theorem zo134 : zerosOk Tryz.prog 134 = true := eqS (by kernel_rfl)
@[go_sem] theorem sz136 : szOf Tryz.prog 136 = some 1 := eqS (by kernel_rfl)
@[go_sem] theorem ag136 : aggOf Tryz.prog 136 = some false := eqS (by kernel_rfl)
@[go_sem] theorem ze136 : zeroOf Tryz.prog 136 = some (.sc .nilFunc) := eqS (by kernel_rfl)
@[go_sem] theorem co136 : concreteT Tryz.prog 136 = true := eqS (by kernel_rfl)
@[go_sem] theorem sl136 : sliceOf Tryz.prog 136 = none := eqS (by kernel_rfl)
@[go_sem] theorem sz137 : szOf Tryz.prog 137 = some 1 := eqS (by kernel_rfl)
@[go_sem] theorem ag137 : aggOf Tryz.prog 137 = some false := eqS (by kernel_rfl)
@[go_sem] theorem ze137 : zeroOf Tryz.prog 137 = some (.sc .nilFunc) := eqS (by kernel_rfl)
@[go_sem] theorem co137 : concreteT Tryz.prog 137 = true := eqS (by kernel_rfl)
@[go_sem] theorem sl137 : sliceOf Tryz.prog 137 = none := eqS (by kernel_rfl)
@[go_sem] theorem sz138 : szOf Tryz.prog 138 = some 1 := eqS (by kernel_rfl)
@[go_sem] theorem ag138 : aggOf Tryz.prog 138 = some false := eqS (by kernel_rfl)
@[go_sem] theorem ze138 : zeroOf Tryz.prog 138 = some (.sc .nilFunc) := eqS (by kernel_rfl)
@[go_sem] theorem co138 : concreteT Tryz.prog 138 = true := eqS (by kernel_rfl)
@[go_sem] theorem sl138 : sliceOf Tryz.prog 138 = none := eqS (by kernel_rfl)
@[go_sem] theorem sz139 : szOf Tryz.prog 139 = some 1 := eqS (by kernel_rfl)
@[go_sem] theorem ag139 : aggOf Tryz.prog 139 = some false := eqS (by kernel_rfl)
@[go_sem] theorem ze139 : zeroOf Tryz.prog 139 = some (.sc .nilFunc) := eqS (by kernel_rfl)
@[go_sem] theorem co139 : concreteT Tryz.prog 139 = true := eqS (by kernel_rfl)
@[go_sem] theorem sl139 : sliceOf Tryz.prog 139 = none := eqS (by kernel_rfl)
@[go_sem] theorem sz140 : szOf Tryz.prog 140 = some 1 := eqS (by kernel_rfl)
@[go_sem] theorem ag140 : aggOf Tryz.prog 140 = some false := eqS (by kernel_rfl)
@[go_sem] theorem ze140 : zeroOf Tryz.prog 140 = some (.sc .nilFunc) := eqS (by kernel_rfl)
@[go_sem] theorem co140 : concreteT Tryz.prog 140 = true := eqS (by kernel_rfl)
@[go_sem] theorem sl140 : sliceOf Tryz.prog 140 = none := eqS (by kernel_rfl)
@[go_sem] theorem sz141 : szOf Tryz.prog 141 = some 2 := eqS (by kernel_rfl)
@[go_sem] theorem ag141 : aggOf Tryz.prog 141 = some true := eqS (by kernel_rfl)
@[go_sem] theorem ze141 : zeroOf Tryz.prog 141 = some (.agg [.sc (.int .i64 0), .sc (.int .i64 0)]) := eqS (by kernel_rfl)
@[go_sem] theorem co141 : concreteT Tryz.prog 141 = true := eqS (by kernel_rfl)
@[go_sem] theorem sl141 : sliceOf Tryz.prog 141 = none := eqS (by kernel_rfl)
@[go_sem] theorem pl141 : placeOf Tryz.prog 141 = some (plc [(0, 2)]) := eqS (by kernel_rfl)
@[go_sem] theorem fl141_0 : fldOf Tryz.prog 141 0 = some (0, 44, 2) := eqS (by kernel_rfl)
@[go_sem] theorem zo141 : zerosOk Tryz.prog 141 = true := eqS (by kernel_rfl)
@[go_sem] theorem sz142 : szOf Tryz.prog 142 = some 2 := eqS (by kernel_rfl)
@[go_sem] theorem ag142 : aggOf Tryz.prog 142 = some true := eqS (by kernel_rfl)
@[go_sem] theorem ze142 : zeroOf Tryz.prog 142 = some (.agg [.sc (.int .i64 0), .sc (.int .i64 0)]) := eqS (by kernel_rfl)
@[go_sem] theorem co142 : concreteT Tryz.prog 142 = true := eqS (by kernel_rfl)
@[go_sem] theorem sl142 : sliceOf Tryz.prog 142 = none := eqS (by kernel_rfl)
@[go_sem] theorem pl142 : placeOf Tryz.prog 142 = some (plc [(0, 2)]) := eqS (by kernel_rfl)
@[go_sem] theorem fl142_0 : fldOf Tryz.prog 142 0 = some (0, 44, 2) := eqS (by kernel_rfl)
@[go_sem] theorem zo142 : zerosOk Tryz.prog 142 = true := eqS (by kernel_rfl)
@[go_sem] theorem sz143 : szOf Tryz.prog 143 = some 6 := eqS (by kernel_rfl)
@[go_sem] theorem ag143 : aggOf Tryz.prog 143 = some true := eqS (by kernel_rfl)
@[go_sem] theorem ze143 : zeroOf Tryz.prog 143 = some (.agg [.lst true [], .lst true [], .lst true [], .lst true [], .sc (.int .i64 0), .lst true []]) := eqS (by kernel_rfl)
@[go_sem] theorem co143 : concreteT Tryz.prog 143 = true := eqS (by kernel_rfl)
@[go_sem] theorem sl143 : sliceOf Tryz.prog 143 = none := eqS (by kernel_rfl)
@[go_sem] theorem pl143 : placeOf Tryz.prog 143 = some (plc [(0, 4), (4, 1), (5, 1)]) := eqS (by kernel_rfl)
@[go_sem] theorem fl143_0 : fldOf Tryz.prog 143 0 = some (0, 27, 4) := eqS (by kernel_rfl)
@[go_sem] theorem fl143_1 : fldOf Tryz.prog 143 1 = some (4, 3, 1) := eqS (by kernel_rfl)
@[go_sem] theorem fl143_2 : fldOf Tryz.prog 143 2 = some (5, 97, 1) := eqS (by kernel_rfl)
@[go_sem] theorem zo143 : zerosOk Tryz.prog 143 = true := eqS (by kernel_rfl)
@[go_sem] theorem sz144 : szOf Tryz.prog 144 = some 6 := eqS (by kernel_rfl)
@[go_sem] theorem ag144 : aggOf Tryz.prog 144 = some true := eqS (by kernel_rfl)
@[go_sem] theorem ze144 : zeroOf Tryz.prog 144 = some (.agg [.lst true [], .lst true [], .lst true [], .lst true [], .sc (.int .i64 0), .lst true []]) := eqS (by kernel_rfl)
@[go_sem] theorem co144 : concreteT Tryz.prog 144 = true := eqS (by kernel_rfl)
@[go_sem] theorem sl144 : sliceOf Tryz.prog 144 = none := eqS (by kernel_rfl)
@[go_sem] theorem pl144 : placeOf Tryz.prog 144 = some (plc [(0, 4), (4, 1), (5, 1)]) := eqS (by kernel_rfl)
@[go_sem] theorem fl144_0 : fldOf Tryz.prog 144 0 = some (0, 27, 4) := eqS (by kernel_rfl)
@[go_sem] theorem fl144_1 : fldOf Tryz.prog 144 1 = some (4, 3, 1) := eqS (by kernel_rfl)
@[go_sem] theorem fl144_2 : fldOf Tryz.prog 144 2 = some (5, 97, 1) := eqS (by kernel_rfl)
@[go_sem] theorem zo144 : zerosOk Tryz.prog 144 = true := eqS (by kernel_rfl)
@[go_sem] theorem sz145 : szOf Tryz.prog 145 = some 1 := eqS (by kernel_rfl)
@[go_sem] theorem ag145 : aggOf Tryz.prog 145 = some false := eqS (by kernel_rfl)
@[go_sem] theorem ze145 : zeroOf Tryz.prog 145 = some (.sc .nilFunc) := eqS (by kernel_rfl)
@[go_sem] theorem co145 : concreteT Tryz.prog 145 = true := eqS (by kernel_rfl)
@[go_sem] theorem sl145 : sliceOf Tryz.prog 145 = none := eqS (by kernel_rfl)
@[go_sem] theorem sz146 : szOf Tryz.prog 146 = some 1 := eqS (by kernel_rfl)
@[go_sem] theorem ag146 : aggOf Tryz.prog 146 = some false := eqS (by kernel_rfl)
@[go_sem] theorem ze146 : zeroOf Tryz.prog 146 = some (.sc .nilFunc) := eqS (by kernel_rfl)
@[go_sem] theorem co146 : concreteT Tryz.prog 146 = true := eqS (by kernel_rfl)
@[go_sem] theorem sl146 : sliceOf Tryz.prog 146 = none := eqS (by kernel_rfl)
@[go_sem] theorem sz147 : szOf Tryz.prog 147 = some 4 := eqS (by kernel_rfl)
@[go_sem] theorem ag147 : aggOf Tryz.prog 147 = some true := eqS (by kernel_rfl)
@[go_sem] theorem ze147 : zeroOf Tryz.prog 147 = some (.agg [.sc (.string ⟨#[]⟩), .sc (.int .i64 0), .sc (.map none), .sc (.pointer none)]) := eqS (by kernel_rfl)
@[go_sem] theorem co147 : concreteT Tryz.prog 147 = true := eqS (by kernel_rfl)
@[go_sem] theorem sl147 : sliceOf Tryz.prog 147 = none := eqS (by kernel_rfl)
@[go_sem] theorem pl147 : placeOf Tryz.prog 147 = some (plc [(0, 1), (1, 2), (3, 1)]) := eqS (by kernel_rfl)
@[go_sem] theorem fl147_0 : fldOf Tryz.prog 147 0 = some (0, 9, 1) := eqS (by kernel_rfl)
@[go_sem] theorem fl147_1 : fldOf Tryz.prog 147 1 = some (1, 82, 2) := eqS (by kernel_rfl)
@[go_sem] theorem fl147_2 : fldOf Tryz.prog 147 2 = some (3, 87, 1) := eqS (by kernel_rfl)
@[go_sem] theorem zo147 : zerosOk Tryz.prog 147 = true := eqS (by kernel_rfl)
@[go_sem] theorem sz148 : szOf Tryz.prog 148 = some 4 := eqS (by kernel_rfl)
@[go_sem] theorem ag148 : aggOf Tryz.prog 148 = some true := eqS (by kernel_rfl)
@[go_sem] theorem ze148 : zeroOf Tryz.prog 148 = some (.agg [.sc (.string ⟨#[]⟩), .sc (.int .i64 0), .sc (.map none), .sc (.pointer none)]) := eqS (by kernel_rfl)
@[go_sem] theorem co148 : concreteT Tryz.prog 148 = true := eqS (by kernel_rfl)
@[go_sem] theorem sl148 : sliceOf Tryz.prog 148 = none := eqS (by kernel_rfl)
@[go_sem] theorem pl148 : placeOf Tryz.prog 148 = some (plc [(0, 1), (1, 2), (3, 1)]) := eqS (by kernel_rfl)
@[go_sem] theorem fl148_0 : fldOf Tryz.prog 148 0 = some (0, 9, 1) := eqS (by kernel_rfl)
@[go_sem] theorem fl148_1 : fldOf Tryz.prog 148 1 = some (1, 82, 2) := eqS (by kernel_rfl)
@[go_sem] theorem fl148_2 : fldOf Tryz.prog 148 2 = some (3, 87, 1) := eqS (by kernel_rfl)
@[go_sem] theorem zo148 : zerosOk Tryz.prog 148 = true := eqS (by kernel_rfl)
@[go_sem] theorem sz149 : szOf Tryz.prog 149 = some 1 := eqS (by kernel_rfl)
@[go_sem] theorem ag149 : aggOf Tryz.prog 149 = some false := eqS (by kernel_rfl)
@[go_sem] theorem ze149 : zeroOf Tryz.prog 149 = some (.lst true []) := eqS (by kernel_rfl)
@[go_sem] theorem co149 : concreteT Tryz.prog 149 = true := eqS (by kernel_rfl)
@[go_sem] theorem sl149 : sliceOf Tryz.prog 149 = some (82, 2, 16) := eqS (by kernel_rfl)
@[go_sem] theorem sz150 : szOf Tryz.prog 150 = some 1 := eqS (by kernel_rfl)
@[go_sem] theorem ag150 : aggOf Tryz.prog 150 = some false := eqS (by kernel_rfl)
@[go_sem] theorem ze150 : zeroOf Tryz.prog 150 = some (.sc .nilFunc) := eqS (by kernel_rfl)
@[go_sem] theorem co150 : concreteT Tryz.prog 150 = true := eqS (by kernel_rfl)
@[go_sem] theorem sl150 : sliceOf Tryz.prog 150 = none := eqS (by kernel_rfl)
@[go_sem] theorem sz151 : szOf Tryz.prog 151 = some 1 := eqS (by kernel_rfl)
@[go_sem] theorem ag151 : aggOf Tryz.prog 151 = some false := eqS (by kernel_rfl)
@[go_sem] theorem ze151 : zeroOf Tryz.prog 151 = some (.sc .nilFunc) := eqS (by kernel_rfl)
@[go_sem] theorem co151 : concreteT Tryz.prog 151 = true := eqS (by kernel_rfl)
@[go_sem] theorem sl151 : sliceOf Tryz.prog 151 = none := eqS (by kernel_rfl)
@[go_sem] theorem sz152 : szOf Tryz.prog 152 = some 1 := eqS (by kernel_rfl)
@[go_sem] theorem ag152 : aggOf Tryz.prog 152 = some false := eqS (by kernel_rfl)
@[go_sem] theorem ze152 : zeroOf Tryz.prog 152 = some (.sc .nilFunc) := eqS (by kernel_rfl)
@[go_sem] theorem co152 : concreteT Tryz.prog 152 = true := eqS (by kernel_rfl)
@[go_sem] theorem sl152 : sliceOf Tryz.prog 152 = none := eqS (by kernel_rfl)
@[go_sem] theorem sz153 : szOf Tryz.prog 153 = some 1 := eqS (by kernel_rfl)
@[go_sem] theorem ag153 : aggOf Tryz.prog 153 = some false := eqS (by kernel_rfl)
@[go_sem] theorem ze153 : zeroOf Tryz.prog 153 = some (.sc .nilFunc) := eqS (by kernel_rfl)
@[go_sem] theorem co153 : concreteT Tryz.prog 153 = true := eqS (by kernel_rfl)
@[go_sem] theorem sl153 : sliceOf Tryz.prog 153 = none := eqS (by kernel_rfl)
@[go_sem] theorem sz154 : szOf Tryz.prog 154 = some 1 := eqS (by kernel_rfl)
@[go_sem] theorem ag154 : aggOf Tryz.prog 154 = some false := eqS (by kernel_rfl)
@[go_sem] theorem ze154 : zeroOf Tryz.prog 154 = some (.sc (.int .u64 0)) := eqS (by kernel_rfl)
@[go_sem] theorem co154 : concreteT Tryz.prog 154 = true := eqS (by kernel_rfl)
@[go_sem] theorem sl154 : sliceOf Tryz.prog 154 = none := eqS (by kernel_rfl)
@[go_sem] theorem un154 : Tryz.prog.underlying 154 = some (.int .u64) := eqS (by kernel_rfl)
@[go_sem] theorem sz155 : szOf Tryz.prog 155 = some 1 := eqS (by kernel_rfl)
@[go_sem] theorem ag155 : aggOf Tryz.prog 155 = some false := eqS (by kernel_rfl)
@[go_sem] theorem ze155 : zeroOf Tryz.prog 155 = some (.sc .nilFunc) := eqS (by kernel_rfl)
@[go_sem] theorem co155 : concreteT Tryz.prog 155 = true := eqS (by kernel_rfl)
@[go_sem] theorem sl155 : sliceOf Tryz.prog 155 = none := eqS (by kernel_rfl)
@[go_sem] theorem sz156 : szOf Tryz.prog 156 = some 1 := eqS (by kernel_rfl)
@[go_sem] theorem ag156 : aggOf Tryz.prog 156 = some false := eqS (by kernel_rfl)
@[go_sem] theorem ze156 : zeroOf Tryz.prog 156 = some (.sc .nilFunc) := eqS (by kernel_rfl)
@[go_sem] theorem co156 : concreteT Tryz.prog 156 = true := eqS (by kernel_rfl)
@[go_sem] theorem sl156 : sliceOf Tryz.prog 156 = none := eqS (by kernel_rfl)
@[go_sem] theorem sz157 : szOf Tryz.prog 157 = some 1 := eqS (by kernel_rfl)
@[go_sem] theorem ag157 : aggOf Tryz.prog 157 = some false := eqS (by kernel_rfl)
@[go_sem] theorem ze157 : zeroOf Tryz.prog 157 = some (.sc .nilFunc) := eqS (by kernel_rfl)
@[go_sem] theorem co157 : concreteT Tryz.prog 157 = true := eqS (by kernel_rfl)
@[go_sem] theorem sl157 : sliceOf Tryz.prog 157 = none := eqS (by kernel_rfl)
@[go_sem] theorem sz158 : szOf Tryz.prog 158 = some 1 := eqS (by kernel_rfl)
@[go_sem] theorem ag158 : aggOf Tryz.prog 158 = some false := eqS (by kernel_rfl)
@[go_sem] theorem ze158 : zeroOf Tryz.prog 158 = some (.sc .nilFunc) := eqS (by kernel_rfl)
@[go_sem] theorem co158 : concreteT Tryz.prog 158 = true := eqS (by kernel_rfl)
@[go_sem] theorem sl158 : sliceOf Tryz.prog 158 = none := eqS (by kernel_rfl)
@[go_sem] theorem sz159 : szOf Tryz.prog 159 = some 1 := eqS (by kernel_rfl)
@[go_sem] theorem ag159 : aggOf Tryz.prog 159 = some false := eqS (by kernel_rfl)
@[go_sem] theorem ze159 : zeroOf Tryz.prog 159 = some (.lst true []) := eqS (by kernel_rfl)
@[go_sem] theorem co159 : concreteT Tryz.prog 159 = true := eqS (by kernel_rfl)
@[go_sem] theorem sl159 : sliceOf Tryz.prog 159 = some (57, 65, 72) := eqS (by kernel_rfl)
@[go_sem] theorem sz161 : szOf Tryz.prog 161 = some 1 := eqS (by kernel_rfl)
@[go_sem] theorem ag161 : aggOf Tryz.prog 161 = some false := eqS (by kernel_rfl)
@[go_sem] theorem ze161 : zeroOf Tryz.prog 161 = some (.sc .nilFunc) := eqS (by kernel_rfl)
@[go_sem] theorem co161 : concreteT Tryz.prog 161 = true := eqS (by kernel_rfl)
@[go_sem] theorem sl161 : sliceOf Tryz.prog 161 = none := eqS (by kernel_rfl)
@[go_sem] theorem sz162 : szOf Tryz.prog 162 = some 1 := eqS (by kernel_rfl)
@[go_sem] theorem ag162 : aggOf Tryz.prog 162 = some false := eqS (by kernel_rfl)
@[go_sem] theorem ze162 : zeroOf Tryz.prog 162 = some (.sc .nilFunc) := eqS (by kernel_rfl)
@[go_sem] theorem co162 : concreteT Tryz.prog 162 = true := eqS (by kernel_rfl)
@[go_sem] theorem sl162 : sliceOf Tryz.prog 162 = none := eqS (by kernel_rfl)
@[go_sem] theorem sz163 : szOf Tryz.prog 163 = some 66 := eqS (by kernel_rfl)
@[go_sem] theorem ag163 : aggOf Tryz.prog 163 = some true := eqS (by kernel_rfl)
@[go_sem] theorem ze163 : zeroOf Tryz.prog 163 = some (.agg [.sc (.string ⟨#[]⟩), .sc (.int .i64 0), .sc (.bool false), .sc (.bool false), .sc (.bool false), .sc (.bool false), .sc (.bool false), .sc (.bool false), .sc (.bool false), .sc (.bool false), .sc (.bool false), .sc (.bool false), .sc (.bool false), .sc (.bool false), .sc (.bool false), .sc (.bool false), .sc (.bool false), .sc (.bool false), .sc (.bool false), .sc (.bool false), .sc (.bool false), .sc (.bool false), .sc (.bool false), .sc (.bool false), .sc (.bool false), .sc (.bool false), .sc (.bool false), .sc (.bool false), .sc (.bool false), .sc (.bool false), .sc (.bool false), .sc (.bool false), .sc (.bool false), .sc (.bool false), .sc (.bool false), .sc (.bool false), .sc (.bool false), .sc (.bool false), .sc (.bool false), .sc (.bool false), .sc (.bool false), .sc (.bool false), .sc (.bool false), .sc (.bool false), .sc (.bool false), .sc (.bool false), .sc (.bool false), .sc (.bool false), .sc (.bool false), .sc (.bool false), .sc (.bool false), .sc (.bool false), .sc (.bool false), .sc (.bool false), .sc (.bool false), .sc (.bool false), .sc (.bool false), .sc (.bool false), .sc (.bool false), .sc (.bool false), .sc (.bool false), .sc (.bool false), .sc (.bool false), .sc (.bool false), .sc (.bool false), .sc (.bool false)]) := eqS (by kernel_rfl)
@[go_sem] theorem co163 : concreteT Tryz.prog 163 = true := eqS (by kernel_rfl)
@[go_sem] theorem sl163 : sliceOf Tryz.prog 163 = none := eqS (by kernel_rfl)
@[go_sem] theorem pl163 : placeOf Tryz.prog 163 = some (plc [(0, 1), (1, 65)]) := eqS (by kernel_rfl)
@[go_sem] theorem fl163_0 : fldOf Tryz.prog 163 0 = some (0, 9, 1) := eqS (by kernel_rfl)
@[go_sem] theorem fl163_1 : fldOf Tryz.prog 163 1 = some (1, 57, 65) := eqS (by kernel_rfl)
@[go_sem] theorem zo163 : zerosOk Tryz.prog 163 = true := eqS (by kernel_rfl)
@[go_sem] theorem sz164 : szOf Tryz.prog 164 = some 66 := eqS (by kernel_rfl)
@[go_sem] theorem ag164 : aggOf Tryz.prog 164 = some true := eqS (by kernel_rfl)
@[go_sem] theorem ze164 : zeroOf Tryz.prog 164 = some (.agg [.sc (.string ⟨#[]⟩), .sc (.int .i64 0), .sc (.bool false), .sc (.bool false), .sc (.bool false), .sc (.bool false), .sc (.bool false), .sc (.bool false), .sc (.bool false), .sc (.bool false), .sc (.bool false), .sc (.bool false), .sc (.bool false), .sc (.bool false), .sc (.bool false), .sc (.bool false), .sc (.bool false), .sc (.bool false), .sc (.bool false), .sc (.bool false), .sc (.bool false), .sc (.bool false), .sc (.bool false), .sc (.bool false), .sc (.bool false), .sc (.bool false), .sc (.bool false), .sc (.bool false), .sc (.bool false), .sc (.bool false), .sc (.bool false), .sc (.bool false), .sc (.bool false), .sc (.bool false), .sc (.bool false), .sc (.bool false), .sc (.bool false), .sc (.bool false), .sc (.bool false), .sc (.bool false), .sc (.bool false), .sc (.bool false), .sc (.bool false), .sc (.bool false), .sc (.bool false), .sc (.bool false), .sc (.bool false), .sc (.bool false), .sc (.bool false), .sc (.bool false), .sc (.bool false), .sc (.bool false), .sc (.bool false), .sc (.bool false), .sc (.bool false), .sc (.bool false), .sc (.bool false), .sc (.bool false), .sc (.bool false), .sc (.bool false), .sc (.bool false), .sc (.bool false), .sc (.bool false), .sc (.bool false), .sc (.bool false), .sc (.bool false)]) := eqS (by kernel_rfl)
@[go_sem] theorem co164 : concreteT Tryz.prog 164 = true := eqS (by kernel_rfl)
@[go_sem] theorem sl164 : sliceOf Tryz.prog 164 = none := eqS (by kernel_rfl)
@[go_sem] theorem pl164 : placeOf Tryz.prog 164 = some (plc [(0, 1), (1, 65)]) := eqS (by kernel_rfl)
@[go_sem] theorem fl164_0 : fldOf Tryz.prog 164 0 = some (0, 9, 1) := eqS (by kernel_rfl)
@[go_sem] theorem fl164_1 : fldOf Tryz.prog 164 1 = some (1, 57, 65) := eqS (by kernel_rfl)
@[go_sem] theorem zo164 : zerosOk Tryz.prog 164 = true := eqS (by kernel_rfl)
@[go_sem] theorem sz165 : szOf Tryz.prog 165 = some 1 := eqS (by kernel_rfl)
@[go_sem] theorem ag165 : aggOf Tryz.prog 165 = some false := eqS (by kernel_rfl)
@[go_sem] theorem ze165 : zeroOf Tryz.prog 165 = some (.sc .nilFunc) := eqS (by kernel_rfl)
@[go_sem] theorem co165 : concreteT Tryz.prog 165 = true := eqS (by kernel_rfl)
@[go_sem] theorem sl165 : sliceOf Tryz.prog 165 = none := eqS (by kernel_rfl)
@[go_sem] theorem sz166 : szOf Tryz.prog 166 = some 1 := eqS (by kernel_rfl)
@[go_sem] theorem ag166 : aggOf Tryz.prog 166 = some false := eqS (by kernel_rfl)
@[go_sem] theorem ze166 : zeroOf Tryz.prog 166 = some (.sc .nilFunc) := eqS (by kernel_rfl)
@[go_sem] theorem co166 : concreteT Tryz.prog 166 = true := eqS (by kernel_rfl)
@[go_sem] theorem sl166 : sliceOf Tryz.prog 166 = none := eqS (by kernel_rfl)
@[go_sem] theorem sz167 : szOf Tryz.prog 167 = some 1 := eqS (by kernel_rfl)
@[go_sem] theorem ag167 : aggOf Tryz.prog 167 = some false := eqS (by kernel_rfl)
@[go_sem] theorem ze167 : zeroOf Tryz.prog 167 = some (.sc .nilFunc) := eqS (by kernel_rfl)
@[go_sem] theorem co167 : concreteT Tryz.prog 167 = true := eqS (by kernel_rfl)
@[go_sem] theorem sl167 : sliceOf Tryz.prog 167 = none := eqS (by kernel_rfl)
@[go_sem] theorem sz168 : szOf Tryz.prog 168 = some 1 := eqS (by kernel_rfl)
@[go_sem] theorem ag168 : aggOf Tryz.prog 168 = some false := eqS (by kernel_rfl)
@[go_sem] theorem ze168 : zeroOf Tryz.prog 168 = some (.sc .nilFunc) := eqS (by kernel_rfl)
@[go_sem] theorem co168 : concreteT Tryz.prog 168 = true := eqS (by kernel_rfl)
@[go_sem] theorem sl168 : sliceOf Tryz.prog 168 = none := eqS (by kernel_rfl)
@[go_sem] theorem sz169 : szOf Tryz.prog 169 = some 1 := eqS (by kernel_rfl)
@[go_sem] theorem ag169 : aggOf Tryz.prog 169 = some false := eqS (by kernel_rfl)
@[go_sem] theorem ze169 : zeroOf Tryz.prog 169 = some (.sc .nilFunc) := eqS (by kernel_rfl)
@[go_sem] theorem co169 : concreteT Tryz.prog 169 = true := eqS (by kernel_rfl)
@[go_sem] theorem sl169 : sliceOf Tryz.prog 169 = none := eqS (by kernel_rfl)
@[go_sem] theorem sz170 : szOf Tryz.prog 170 = some 1 := eqS (by kernel_rfl)
@[go_sem] theorem ag170 : aggOf Tryz.prog 170 = some false := eqS (by kernel_rfl)
@[go_sem] theorem ze170 : zeroOf Tryz.prog 170 = some (.sc .nilFunc) := eqS (by kernel_rfl)
@[go_sem] theorem co170 : concreteT Tryz.prog 170 = true := eqS (by kernel_rfl)
@[go_sem] theorem sl170 : sliceOf Tryz.prog 170 = none := eqS (by kernel_rfl)
@[go_sem] theorem sz171 : szOf Tryz.prog 171 = some 1 := eqS (by kernel_rfl)
@[go_sem] theorem ag171 : aggOf Tryz.prog 171 = some false := eqS (by kernel_rfl)
@[go_sem] theorem ze171 : zeroOf Tryz.prog 171 = some (.sc .nilFunc) := eqS (by kernel_rfl)
@[go_sem] theorem co171 : concreteT Tryz.prog 171 = true := eqS (by kernel_rfl)
@[go_sem] theorem sl171 : sliceOf Tryz.prog 171 = none := eqS (by kernel_rfl)
@[go_sem] theorem sz172 : szOf Tryz.prog 172 = some 1 := eqS (by kernel_rfl)
@[go_sem] theorem ag172 : aggOf Tryz.prog 172 = some false := eqS (by kernel_rfl)
@[go_sem] theorem ze172 : zeroOf Tryz.prog 172 = some (.sc .nilFunc) := eqS (by kernel_rfl)
@[go_sem] theorem co172 : concreteT Tryz.prog 172 = true := eqS (by kernel_rfl)
@[go_sem] theorem sl172 : sliceOf Tryz.prog 172 = none := eqS (by kernel_rfl)
@[go_sem] theorem sz173 : szOf Tryz.prog 173 = some 1 := eqS (by kernel_rfl)
@[go_sem] theorem ag173 : aggOf Tryz.prog 173 = some false := eqS (by kernel_rfl)
@[go_sem] theorem ze173 : zeroOf Tryz.prog 173 = some (.sc .nilFunc) := eqS (by kernel_rfl)
@[go_sem] theorem co173 : concreteT Tryz.prog 173 = true := eqS (by kernel_rfl)
@[go_sem] theorem sl173 : sliceOf Tryz.prog 173 = none := eqS (by kernel_rfl)
@[go_sem] theorem sz174 : szOf Tryz.prog 174 = some 1 := eqS (by kernel_rfl)
@[go_sem] theorem ag174 : aggOf Tryz.prog 174 = some false := eqS (by kernel_rfl)
@[go_sem] theorem ze174 : zeroOf Tryz.prog 174 = some (.sc .nilFunc) := eqS (by kernel_rfl)
@[go_sem] theorem co174 : concreteT Tryz.prog 174 = true := eqS (by kernel_rfl)
@[go_sem] theorem sl174 : sliceOf Tryz.prog 174 = none := eqS (by kernel_rfl)
@[go_sem] theorem sz175 : szOf Tryz.prog 175 = some 1 := eqS (by kernel_rfl)
@[go_sem] theorem ag175 : aggOf Tryz.prog 175 = some false := eqS (by kernel_rfl)
@[go_sem] theorem ze175 : zeroOf Tryz.prog 175 = some (.sc .nilFunc) := eqS (by kernel_rfl)
@[go_sem] theorem co175 : concreteT Tryz.prog 175 = true := eqS (by kernel_rfl)
@[go_sem] theorem sl175 : sliceOf Tryz.prog 175 = none := eqS (by kernel_rfl)
@[go_sem] theorem sz176 : szOf Tryz.prog 176 = some 1 := eqS (by kernel_rfl)
@[go_sem] theorem ag176 : aggOf Tryz.prog 176 = some false := eqS (by kernel_rfl)
@[go_sem] theorem ze176 : zeroOf Tryz.prog 176 = some (.sc .nilFunc) := eqS (by kernel_rfl)
@[go_sem] theorem co176 : concreteT Tryz.prog 176 = true := eqS (by kernel_rfl)
@[go_sem] theorem sl176 : sliceOf Tryz.prog 176 = none := eqS (by kernel_rfl)
@[go_sem] theorem sz177 : szOf Tryz.prog 177 = some 1 := eqS (by kernel_rfl)
@[go_sem] theorem ag177 : aggOf Tryz.prog 177 = some false := eqS (by kernel_rfl)
@[go_sem] theorem ze177 : zeroOf Tryz.prog 177 = some (.sc .nilFunc) := eqS (by kernel_rfl)
@[go_sem] theorem co177 : concreteT Tryz.prog 177 = true := eqS (by kernel_rfl)
@[go_sem] theorem sl177 : sliceOf Tryz.prog 177 = none := eqS (by kernel_rfl)
@[go_sem] theorem sz178 : szOf Tryz.prog 178 = some 1 := eqS (by kernel_rfl)
@[go_sem] theorem ag178 : aggOf Tryz.prog 178 = some false := eqS (by kernel_rfl)
@[go_sem] theorem ze178 : zeroOf Tryz.prog 178 = some (.sc .nilFunc) := eqS (by kernel_rfl)
@[go_sem] theorem co178 : concreteT Tryz.prog 178 = true := eqS (by kernel_rfl)
@[go_sem] theorem sl178 : sliceOf Tryz.prog 178 = none := eqS (by kernel_rfl)
@[go_sem] theorem sz179 : szOf Tryz.prog 179 = some 1 := eqS (by kernel_rfl)
@[go_sem] theorem ag179 : aggOf Tryz.prog 179 = some false := eqS (by kernel_rfl)
@[go_sem] theorem ze179 : zeroOf Tryz.prog 179 = some (.sc (.pointer none)) := eqS (by kernel_rfl)
@[go_sem] theorem co179 : concreteT Tryz.prog 179 = true := eqS (by kernel_rfl)
@[go_sem] theorem sl179 : sliceOf Tryz.prog 179 = none := eqS (by kernel_rfl)
@[go_sem] theorem ptt179 : isPtrT Tryz.prog 179 = true := eqS (by kernel_rfl)
@[go_sem] theorem sz180 : szOf Tryz.prog 180 = some 3 := eqS (by kernel_rfl)
@[go_sem] theorem ag180 : aggOf Tryz.prog 180 = some true := eqS (by kernel_rfl)
@[go_sem] theorem ze180 : zeroOf Tryz.prog 180 = some (.agg [.sc (.pointer none), .sc (.int .i64 0), .sc (.string ⟨#[]⟩)]) := eqS (by kernel_rfl)
@[go_sem] theorem co180 : concreteT Tryz.prog 180 = true := eqS (by kernel_rfl)
@[go_sem] theorem sl180 : sliceOf Tryz.prog 180 = none := eqS (by kernel_rfl)
@[go_sem] theorem pl180 : placeOf Tryz.prog 180 = some (plc [(0, 1), (1, 1), (2, 1)]) := eqS (by kernel_rfl)
@[go_sem] theorem fl180_0 : fldOf Tryz.prog 180 0 = some (0, 179, 1) := eqS (by kernel_rfl)
@[go_sem] theorem fl180_1 : fldOf Tryz.prog 180 1 = some (1, 3, 1) := eqS (by kernel_rfl)
@[go_sem] theorem fl180_2 : fldOf Tryz.prog 180 2 = some (2, 9, 1) := eqS (by kernel_rfl)
@[go_sem] theorem zo180 : zerosOk Tryz.prog 180 = true := eqS (by kernel_rfl)
@[go_sem] theorem sz181 : szOf Tryz.prog 181 = some 3 := eqS (by kernel_rfl)
@[go_sem] theorem ag181 : aggOf Tryz.prog 181 = some true := eqS (by kernel_rfl)
@[go_sem] theorem ze181 : zeroOf Tryz.prog 181 = some (.agg [.sc (.pointer none), .sc (.int .i64 0), .sc (.string ⟨#[]⟩)]) := eqS (by kernel_rfl)
@[go_sem] theorem co181 : concreteT Tryz.prog 181 = true := eqS (by kernel_rfl)
@[go_sem] theorem sl181 : sliceOf Tryz.prog 181 = none := eqS (by kernel_rfl)
@[go_sem] theorem pl181 : placeOf Tryz.prog 181 = some (plc [(0, 1), (1, 1), (2, 1)]) := eqS (by kernel_rfl)
@[go_sem] theorem fl181_0 : fldOf Tryz.prog 181 0 = some (0, 179, 1) := eqS (by kernel_rfl)
@[go_sem] theorem fl181_1 : fldOf Tryz.prog 181 1 = some (1, 3, 1) := eqS (by kernel_rfl)
@[go_sem] theorem fl181_2 : fldOf Tryz.prog 181 2 = some (2, 9, 1) := eqS (by kernel_rfl)
@[go_sem] theorem zo181 : zerosOk Tryz.prog 181 = true := eqS (by kernel_rfl)
@[go_sem] theorem sz183 : szOf Tryz.prog 183 = some 1 := eqS (by kernel_rfl)
@[go_sem] theorem ag183 : aggOf Tryz.prog 183 = some false := eqS (by kernel_rfl)
@[go_sem] theorem ze183 : zeroOf Tryz.prog 183 = some (.sc .nilFunc) := eqS (by kernel_rfl)
@[go_sem] theorem co183 : concreteT Tryz.prog 183 = true := eqS (by kernel_rfl)
@[go_sem] theorem sl183 : sliceOf Tryz.prog 183 = none := eqS (by kernel_rfl)
@[go_sem] theorem sz184 : szOf Tryz.prog 184 = some 1 := eqS (by kernel_rfl)
@[go_sem] theorem ag184 : aggOf Tryz.prog 184 = some false := eqS (by kernel_rfl)
@[go_sem] theorem ze184 : zeroOf Tryz.prog 184 = some (.sc .nilFunc) := eqS (by kernel_rfl)
@[go_sem] theorem co184 : concreteT Tryz.prog 184 = true := eqS (by kernel_rfl)
@[go_sem] theorem sl184 : sliceOf Tryz.prog 184 = none := eqS (by kernel_rfl)
@[go_sem] theorem sz185 : szOf Tryz.prog 185 = some 1 := eqS (by kernel_rfl)
@[go_sem] theorem ag185 : aggOf Tryz.prog 185 = some false := eqS (by kernel_rfl)
@[go_sem] theorem ze185 : zeroOf Tryz.prog 185 = some (.lst true []) := eqS (by kernel_rfl)
@[go_sem] theorem co185 : concreteT Tryz.prog 185 = true := eqS (by kernel_rfl)
@[go_sem] theorem sl185 : sliceOf Tryz.prog 185 = some (190, 9, 112) := eqS (by kernel_rfl)
@[go_sem] theorem sz186 : szOf Tryz.prog 186 = some 1 := eqS (by kernel_rfl)
@[go_sem] theorem ag186 : aggOf Tryz.prog 186 = some false := eqS (by kernel_rfl)
@[go_sem] theorem ze186 : zeroOf Tryz.prog 186 = some (.sc .nilFunc) := eqS (by kernel_rfl)
@[go_sem] theorem co186 : concreteT Tryz.prog 186 = true := eqS (by kernel_rfl)
@[go_sem] theorem sl186 : sliceOf Tryz.prog 186 = none := eqS (by kernel_rfl)
@[go_sem] theorem sz188 : szOf Tryz.prog 188 = some 1 := eqS (by kernel_rfl)
@[go_sem] theorem ag188 : aggOf Tryz.prog 188 = some false := eqS (by kernel_rfl)
@[go_sem] theorem ze188 : zeroOf Tryz.prog 188 = some (.sc .nilFunc) := eqS (by kernel_rfl)
@[go_sem] theorem co188 : concreteT Tryz.prog 188 = true := eqS (by kernel_rfl)
@[go_sem] theorem sl188 : sliceOf Tryz.prog 188 = none := eqS (by kernel_rfl)
@[go_sem] theorem sz189 : szOf Tryz.prog 189 = some 9 := eqS (by kernel_rfl)
@[go_sem] theorem ag189 : aggOf Tryz.prog 189 = some true := eqS (by kernel_rfl)
@[go_sem] theorem ze189 : zeroOf Tryz.prog 189 = some (.agg [.sc (.string ⟨#[]⟩), .sc (.string ⟨#[]⟩), .sc (.bool false), .sc (.int .i64 0), .sc (.string ⟨#[]⟩), .sc (.int .i64 0), .lst true [], .sc (.int .i64 0), .sc (.int .i64 0)]) := eqS (by kernel_rfl)
@[go_sem] theorem co189 : concreteT Tryz.prog 189 = true := eqS (by kernel_rfl)
@[go_sem] theorem sl189 : sliceOf Tryz.prog 189 = none := eqS (by kernel_rfl)
@[go_sem] theorem pl189 : placeOf Tryz.prog 189 = some (plc [(0, 1), (1, 1), (2, 1), (3, 5), (8, 1)]) := eqS (by kernel_rfl)
@[go_sem] theorem fl189_0 : fldOf Tryz.prog 189 0 = some (0, 9, 1) := eqS (by kernel_rfl)
@[go_sem] theorem fl189_1 : fldOf Tryz.prog 189 1 = some (1, 9, 1) := eqS (by kernel_rfl)
@[go_sem] theorem fl189_2 : fldOf Tryz.prog 189 2 = some (2, 4, 1) := eqS (by kernel_rfl)
@[go_sem] theorem fl189_3 : fldOf Tryz.prog 189 3 = some (3, 31, 5) := eqS (by kernel_rfl)
@[go_sem] theorem fl189_4 : fldOf Tryz.prog 189 4 = some (8, 3, 1) := eqS (by kernel_rfl)
@[go_sem] theorem zo189 : zerosOk Tryz.prog 189 = true := eqS (by kernel_rfl)
@[go_sem] theorem sz190 : szOf Tryz.prog 190 = some 9 := eqS (by kernel_rfl)
@[go_sem] theorem ag190 : aggOf Tryz.prog 190 = some true := eqS (by kernel_rfl)
@[go_sem] theorem ze190 : zeroOf Tryz.prog 190 = some (.agg [.sc (.string ⟨#[]⟩), .sc (.string ⟨#[]⟩), .sc (.bool false), .sc (.int .i64 0), .sc (.string ⟨#[]⟩), .sc (.int .i64 0), .lst true [], .sc (.int .i64 0), .sc (.int .i64 0)]) := eqS (by kernel_rfl)
@[go_sem] theorem co190 : concreteT Tryz.prog 190 = true := eqS (by kernel_rfl)
@[go_sem] theorem sl190 : sliceOf Tryz.prog 190 = none := eqS (by kernel_rfl)
@[go_sem] theorem pl190 : placeOf Tryz.prog 190 = some (plc [(0, 1), (1, 1), (2, 1), (3, 5), (8, 1)]) := eqS (by kernel_rfl)
@[go_sem] theorem fl190_0 : fldOf Tryz.prog 190 0 = some (0, 9, 1) := eqS (by kernel_rfl)
@[go_sem] theorem fl190_1 : fldOf Tryz.prog 190 1 = some (1, 9, 1) := eqS (by kernel_rfl)
@[go_sem] theorem fl190_2 : fldOf Tryz.prog 190 2 = some (2, 4, 1) := eqS (by kernel_rfl)
@[go_sem] theorem fl190_3 : fldOf Tryz.prog 190 3 = some (3, 31, 5) := eqS (by kernel_rfl)
@[go_sem] theorem fl190_4 : fldOf Tryz.prog 190 4 = some (8, 3, 1) := eqS (by kernel_rfl)
@[go_sem] theorem zo190 : zerosOk Tryz.prog 190 = true := eqS (by kernel_rfl)
@[go_sem] theorem sz191 : szOf Tryz.prog 191 = some 1 := eqS (by kernel_rfl)
@[go_sem] theorem ag191 : aggOf Tryz.prog 191 = some false := eqS (by kernel_rfl)
@[go_sem] theorem ze191 : zeroOf Tryz.prog 191 = some (.sc .nilFunc) := eqS (by kernel_rfl)
@[go_sem] theorem co191 : concreteT Tryz.prog 191 = true := eqS (by kernel_rfl)
@[go_sem] theorem sl191 : sliceOf Tryz.prog 191 = none := eqS (by kernel_rfl)
@[go_sem] theorem sz193 : szOf Tryz.prog 193 = some 1 := eqS (by kernel_rfl)
@[go_sem] theorem ag193 : aggOf Tryz.prog 193 = some false := eqS (by kernel_rfl)
@[go_sem] theorem ze193 : zeroOf Tryz.prog 193 = some (.sc .nilFunc) := eqS (by kernel_rfl)
@[go_sem] theorem co193 : concreteT Tryz.prog 193 = true := eqS (by kernel_rfl)
@[go_sem] theorem sl193 : sliceOf Tryz.prog 193 = none := eqS (by kernel_rfl)
@[go_sem] theorem sz194 : szOf Tryz.prog 194 = some 1 := eqS (by kernel_rfl)
@[go_sem] theorem ag194 : aggOf Tryz.prog 194 = some false := eqS (by kernel_rfl)
@[go_sem] theorem ze194 : zeroOf Tryz.prog 194 = some (.sc .nilFunc) := eqS (by kernel_rfl)
@[go_sem] theorem co194 : concreteT Tryz.prog 194 = true := eqS (by kernel_rfl)
@[go_sem] theorem sl194 : sliceOf Tryz.prog 194 = none := eqS (by kernel_rfl)
@[go_sem] theorem sz195 : szOf Tryz.prog 195 = some 1 := eqS (by kernel_rfl)
@[go_sem] theorem ag195 : aggOf Tryz.prog 195 = some false := eqS (by kernel_rfl)
@[go_sem] theorem ze195 : zeroOf Tryz.prog 195 = some (.sc .nilFunc) := eqS (by kernel_rfl)
@[go_sem] theorem co195 : concreteT Tryz.prog 195 = true := eqS (by kernel_rfl)
@[go_sem] theorem sl195 : sliceOf Tryz.prog 195 = none := eqS (by kernel_rfl)
@[go_sem] theorem sz196 : szOf Tryz.prog 196 = some 1 := eqS (by kernel_rfl)
@[go_sem] theorem ag196 : aggOf Tryz.prog 196 = some false := eqS (by kernel_rfl)
@[go_sem] theorem ze196 : zeroOf Tryz.prog 196 = some (.sc .nilFunc) := eqS (by kernel_rfl)
@[go_sem] theorem co196 : concreteT Tryz.prog 196 = true := eqS (by kernel_rfl)
@[go_sem] theorem sl196 : sliceOf Tryz.prog 196 = none := eqS (by kernel_rfl)
@[go_sem] theorem sz197 : szOf Tryz.prog 197 = some 1 := eqS (by kernel_rfl)
@[go_sem] theorem ag197 : aggOf Tryz.prog 197 = some false := eqS (by kernel_rfl)
@[go_sem] theorem ze197 : zeroOf Tryz.prog 197 = some (.sc .nilFunc) := eqS (by kernel_rfl)
@[go_sem] theorem co197 : concreteT Tryz.prog 197 = true := eqS (by kernel_rfl)
@[go_sem] theorem sl197 : sliceOf Tryz.prog 197 = none := eqS (by kernel_rfl)
@[go_sem] theorem sz198 : szOf Tryz.prog 198 = some 1 := eqS (by kernel_rfl)
@[go_sem] theorem ag198 : aggOf Tryz.prog 198 = some false := eqS (by kernel_rfl)
@[go_sem] theorem ze198 : zeroOf Tryz.prog 198 = some (.sc .nilFunc) := eqS (by kernel_rfl)
@[go_sem] theorem co198 : concreteT Tryz.prog 198 = true := eqS (by kernel_rfl)
@[go_sem] theorem sl198 : sliceOf Tryz.prog 198 = none := eqS (by kernel_rfl)
@[go_sem] theorem sz199 : szOf Tryz.prog 199 = some 1 := eqS (by kernel_rfl)
@[go_sem] theorem ag199 : aggOf Tryz.prog 199 = some false := eqS (by kernel_rfl)
@[go_sem] theorem ze199 : zeroOf Tryz.prog 199 = some (.sc .nilFunc) := eqS (by kernel_rfl)
@[go_sem] theorem co199 : concreteT Tryz.prog 199 = true := eqS (by kernel_rfl)
@[go_sem] theorem sl199 : sliceOf Tryz.prog 199 = none := eqS (by kernel_rfl)
@[go_sem] theorem sz200 : szOf Tryz.prog 200 = some 1 := eqS (by kernel_rfl)
@[go_sem] theorem ag200 : aggOf Tryz.prog 200 = some false := eqS (by kernel_rfl)
@[go_sem] theorem ze200 : zeroOf Tryz.prog 200 = some (.sc .nilFunc) := eqS (by kernel_rfl)
@[go_sem] theorem co200 : concreteT Tryz.prog 200 = true := eqS (by kernel_rfl)
@[go_sem] theorem sl200 : sliceOf Tryz.prog 200 = none := eqS (by kernel_rfl)
@[go_sem] theorem sz201 : szOf Tryz.prog 201 = some 1 := eqS (by kernel_rfl)
@[go_sem] theorem ag201 : aggOf Tryz.prog 201 = some false := eqS (by kernel_rfl)
@[go_sem] theorem ze201 : zeroOf Tryz.prog 201 = some (.sc .nilFunc) := eqS (by kernel_rfl)
@[go_sem] theorem co201 : concreteT Tryz.prog 201 = true := eqS (by kernel_rfl)
@[go_sem] theorem sl201 : sliceOf Tryz.prog 201 = none := eqS (by kernel_rfl)
@[go_sem] theorem sz202 : szOf Tryz.prog 202 = some 1 := eqS (by kernel_rfl)
@[go_sem] theorem ag202 : aggOf Tryz.prog 202 = some false := eqS (by kernel_rfl)
@[go_sem] theorem ze202 : zeroOf Tryz.prog 202 = some (.sc .nilFunc) := eqS (by kernel_rfl)
@[go_sem] theorem co202 : concreteT Tryz.prog 202 = true := eqS (by kernel_rfl)
@[go_sem] theorem sl202 : sliceOf Tryz.prog 202 = none := eqS (by kernel_rfl)
@[go_sem] theorem sz203 : szOf Tryz.prog 203 = some 1 := eqS (by kernel_rfl)
@[go_sem] theorem ag203 : aggOf Tryz.prog 203 = some false := eqS (by kernel_rfl)
@[go_sem] theorem ze203 : zeroOf Tryz.prog 203 = some (.sc .nilFunc) := eqS (by kernel_rfl)
@[go_sem] theorem co203 : concreteT Tryz.prog 203 = true := eqS (by kernel_rfl)
@[go_sem] theorem sl203 : sliceOf Tryz.prog 203 = none := eqS (by kernel_rfl)
@[go_sem] theorem sz204 : szOf Tryz.prog 204 = some 1 := eqS (by kernel_rfl)
@[go_sem] theorem ag204 : aggOf Tryz.prog 204 = some false := eqS (by kernel_rfl)
@[go_sem] theorem ze204 : zeroOf Tryz.prog 204 = some (.sc (.int .i64 0)) := eqS (by kernel_rfl)
@[go_sem] theorem co204 : concreteT Tryz.prog 204 = true := eqS (by kernel_rfl)
@[go_sem] theorem sl204 : sliceOf Tryz.prog 204 = none := eqS (by kernel_rfl)
@[go_sem] theorem un204 : Tryz.prog.underlying 204 = some (.int .i64) := eqS (by kernel_rfl)
@[go_sem] theorem sz206 : szOf Tryz.prog 206 = some 1 := eqS (by kernel_rfl)
@[go_sem] theorem ag206 : aggOf Tryz.prog 206 = some false := eqS (by kernel_rfl)
@[go_sem] theorem ze206 : zeroOf Tryz.prog 206 = some (.sc .nilFunc) := eqS (by kernel_rfl)
@[go_sem] theorem co206 : concreteT Tryz.prog 206 = true := eqS (by kernel_rfl)
@[go_sem] theorem sl206 : sliceOf Tryz.prog 206 = none := eqS (by kernel_rfl)
@[go_sem] theorem sz207 : szOf Tryz.prog 207 = some 1 := eqS (by kernel_rfl)
@[go_sem] theorem ag207 : aggOf Tryz.prog 207 = some false := eqS (by kernel_rfl)
@[go_sem] theorem ze207 : zeroOf Tryz.prog 207 = some (.sc .nilFunc) := eqS (by kernel_rfl)
@[go_sem] theorem co207 : concreteT Tryz.prog 207 = true := eqS (by kernel_rfl)
@[go_sem] theorem sl207 : sliceOf Tryz.prog 207 = none := eqS (by kernel_rfl)
@[go_sem] theorem sz208 : szOf Tryz.prog 208 = some 1 := eqS (by kernel_rfl)
@[go_sem] theorem ag208 : aggOf Tryz.prog 208 = some false := eqS (by kernel_rfl)
@[go_sem] theorem ze208 : zeroOf Tryz.prog 208 = some (.sc .nilFunc) := eqS (by kernel_rfl)
@[go_sem] theorem co208 : concreteT Tryz.prog 208 = true := eqS (by kernel_rfl)
@[go_sem] theorem sl208 : sliceOf Tryz.prog 208 = none := eqS (by kernel_rfl)
@[go_sem] theorem sz210 : szOf Tryz.prog 210 = some 1 := eqS (by kernel_rfl)
@[go_sem] theorem ag210 : aggOf Tryz.prog 210 = some false := eqS (by kernel_rfl)
@[go_sem] theorem ze210 : zeroOf Tryz.prog 210 = some (.sc .nilFunc) := eqS (by kernel_rfl)
@[go_sem] theorem co210 : concreteT Tryz.prog 210 = true := eqS (by kernel_rfl)
@[go_sem] theorem sl210 : sliceOf Tryz.prog 210 = none := eqS (by kernel_rfl)
@[go_sem] theorem sz211 : szOf Tryz.prog 211 = some 1 := eqS (by kernel_rfl)
@[go_sem] theorem ag211 : aggOf Tryz.prog 211 = some false := eqS (by kernel_rfl)
@[go_sem] theorem ze211 : zeroOf Tryz.prog 211 = some (.sc .nilFunc) := eqS (by kernel_rfl)
@[go_sem] theorem co211 : concreteT Tryz.prog 211 = true := eqS (by kernel_rfl)
@[go_sem] theorem sl211 : sliceOf Tryz.prog 211 = none := eqS (by kernel_rfl)
@[go_sem] theorem sz212 : szOf Tryz.prog 212 = some 1 := eqS (by kernel_rfl)
@[go_sem] theorem ag212 : aggOf Tryz.prog 212 = some false := eqS (by kernel_rfl)
@[go_sem] theorem ze212 : zeroOf Tryz.prog 212 = some (.sc (.int .u32 0)) := eqS (by kernel_rfl)
@[go_sem] theorem co212 : concreteT Tryz.prog 212 = true := eqS (by kernel_rfl)
@[go_sem] theorem sl212 : sliceOf Tryz.prog 212 = none := eqS (by kernel_rfl)
@[go_sem] theorem un212 : Tryz.prog.underlying 212 = some (.int .u32) := eqS (by kernel_rfl)
@[go_sem] theorem sz213 : szOf Tryz.prog 213 = some 1 := eqS (by kernel_rfl)
@[go_sem] theorem ag213 : aggOf Tryz.prog 213 = some false := eqS (by kernel_rfl)
@[go_sem] theorem ze213 : zeroOf Tryz.prog 213 = some (.sc .nilFunc) := eqS (by kernel_rfl)
@[go_sem] theorem co213 : concreteT Tryz.prog 213 = true := eqS (by kernel_rfl)
@[go_sem] theorem sl213 : sliceOf Tryz.prog 213 = none := eqS (by kernel_rfl)
@[go_sem] theorem sz214 : szOf Tryz.prog 214 = some 1 := eqS (by kernel_rfl)
@[go_sem] theorem ag214 : aggOf Tryz.prog 214 = some false := eqS (by kernel_rfl)
@[go_sem] theorem ze214 : zeroOf Tryz.prog 214 = some (.sc (.int .u64 0)) := eqS (by kernel_rfl)
@[go_sem] theorem co214 : concreteT Tryz.prog 214 = true := eqS (by kernel_rfl)
@[go_sem] theorem sl214 : sliceOf Tryz.prog 214 = none := eqS (by kernel_rfl)
@[go_sem] theorem un214 : Tryz.prog.underlying 214 = some (.int .u64) := eqS (by kernel_rfl)
@[go_sem] theorem sz215 : szOf Tryz.prog 215 = some 1 := eqS (by kernel_rfl)
@[go_sem] theorem ag215 : aggOf Tryz.prog 215 = some false := eqS (by kernel_rfl)
@[go_sem] theorem ze215 : zeroOf Tryz.prog 215 = some (.sc .nilFunc) := eqS (by kernel_rfl)
@[go_sem] theorem co215 : concreteT Tryz.prog 215 = true := eqS (by kernel_rfl)
@[go_sem] theorem sl215 : sliceOf Tryz.prog 215 = none := eqS (by kernel_rfl)
@[go_sem] theorem sz216 : szOf Tryz.prog 216 = some 1 := eqS (by kernel_rfl)
@[go_sem] theorem ag216 : aggOf Tryz.prog 216 = some false := eqS (by kernel_rfl)
@[go_sem] theorem ze216 : zeroOf Tryz.prog 216 = some (.sc .nilFunc) := eqS (by kernel_rfl)
@[go_sem] theorem co216 : concreteT Tryz.prog 216 = true := eqS (by kernel_rfl)
@[go_sem] theorem sl216 : sliceOf Tryz.prog 216 = none := eqS (by kernel_rfl)
@[go_sem] theorem sz217 : szOf Tryz.prog 217 = some 1 := eqS (by kernel_rfl)
@[go_sem] theorem ag217 : aggOf Tryz.prog 217 = some false := eqS (by kernel_rfl)
@[go_sem] theorem ze217 : zeroOf Tryz.prog 217 = some (.sc .nilFunc) := eqS (by kernel_rfl)
@[go_sem] theorem co217 : concreteT Tryz.prog 217 = true := eqS (by kernel_rfl)
@[go_sem] theorem sl217 : sliceOf Tryz.prog 217 = none := eqS (by kernel_rfl)
@[go_sem] theorem sz218 : szOf Tryz.prog 218 = some 1 := eqS (by kernel_rfl)
@[go_sem] theorem ag218 : aggOf Tryz.prog 218 = some false := eqS (by kernel_rfl)
@[go_sem] theorem ze218 : zeroOf Tryz.prog 218 = some (.sc .nilFunc) := eqS (by kernel_rfl)
@[go_sem] theorem co218 : concreteT Tryz.prog 218 = true := eqS (by kernel_rfl)
@[go_sem] theorem sl218 : sliceOf Tryz.prog 218 = none := eqS (by kernel_rfl)
@[go_sem] theorem sz219 : szOf Tryz.prog 219 = some 1 := eqS (by kernel_rfl)
@[go_sem] theorem ag219 : aggOf Tryz.prog 219 = some false := eqS (by kernel_rfl)
@[go_sem] theorem ze219 : zeroOf Tryz.prog 219 = some (.sc .nilFunc) := eqS (by kernel_rfl)
@[go_sem] theorem co219 : concreteT Tryz.prog 219 = true := eqS (by kernel_rfl)
@[go_sem] theorem sl219 : sliceOf Tryz.prog 219 = none := eqS (by kernel_rfl)
@[go_sem] theorem sz220 : szOf Tryz.prog 220 = some 1 := eqS (by kernel_rfl)
@[go_sem] theorem ag220 : aggOf Tryz.prog 220 = some false := eqS (by kernel_rfl)
@[go_sem] theorem ze220 : zeroOf Tryz.prog 220 = some (.sc .nilFunc) := eqS (by kernel_rfl)
@[go_sem] theorem co220 : concreteT Tryz.prog 220 = true := eqS (by kernel_rfl)
@[go_sem] theorem sl220 : sliceOf Tryz.prog 220 = none := eqS (by kernel_rfl)
@[go_sem] theorem sz221 : szOf Tryz.prog 221 = some 1 := eqS (by kernel_rfl)
@[go_sem] theorem ag221 : aggOf Tryz.prog 221 = some false := eqS (by kernel_rfl)
@[go_sem] theorem ze221 : zeroOf Tryz.prog 221 = some (.sc .nilFunc) := eqS (by kernel_rfl)
@[go_sem] theorem co221 : concreteT Tryz.prog 221 = true := eqS (by kernel_rfl)
@[go_sem] theorem sl221 : sliceOf Tryz.prog 221 = none := eqS (by kernel_rfl)
@[go_sem] theorem sz223 : szOf Tryz.prog 223 = some 1 := eqS (by kernel_rfl)
@[go_sem] theorem ag223 : aggOf Tryz.prog 223 = some false := eqS (by kernel_rfl)
@[go_sem] theorem ze223 : zeroOf Tryz.prog 223 = some (.sc .nilFunc) := eqS (by kernel_rfl)
@[go_sem] theorem co223 : concreteT Tryz.prog 223 = true := eqS (by kernel_rfl)
@[go_sem] theorem sl223 : sliceOf Tryz.prog 223 = none := eqS (by kernel_rfl)
@[go_sem] theorem sz224 : szOf Tryz.prog 224 = some 1 := eqS (by kernel_rfl)
@[go_sem] theorem ag224 : aggOf Tryz.prog 224 = some false := eqS (by kernel_rfl)
@[go_sem] theorem ze224 : zeroOf Tryz.prog 224 = some (.sc .nilFunc) := eqS (by kernel_rfl)
@[go_sem] theorem co224 : concreteT Tryz.prog 224 = true := eqS (by kernel_rfl)
@[go_sem] theorem sl224 : sliceOf Tryz.prog 224 = none := eqS (by kernel_rfl)
@[go_sem] theorem sz225 : szOf Tryz.prog 225 = some 1 := eqS (by kernel_rfl)
@[go_sem] theorem ag225 : aggOf Tryz.prog 225 = some false := eqS (by kernel_rfl)
@[go_sem] theorem ze225 : zeroOf Tryz.prog 225 = some (.sc .nilFunc) := eqS (by kernel_rfl)
@[go_sem] theorem co225 : concreteT Tryz.prog 225 = true := eqS (by kernel_rfl)
@[go_sem] theorem sl225 : sliceOf Tryz.prog 225 = none := eqS (by kernel_rfl)
@[go_sem] theorem sz226 : szOf Tryz.prog 226 = some 1 := eqS (by kernel_rfl)
@[go_sem] theorem ag226 : aggOf Tryz.prog 226 = some false := eqS (by kernel_rfl)
@[go_sem] theorem ze226 : zeroOf Tryz.prog 226 = some (.sc .nilFunc) := eqS (by kernel_rfl)
@[go_sem] theorem co226 : concreteT Tryz.prog 226 = true := eqS (by kernel_rfl)
@[go_sem] theorem sl226 : sliceOf Tryz.prog 226 = none := eqS (by kernel_rfl)
@[go_sem] theorem sz227 : szOf Tryz.prog 227 = some 1 := eqS (by kernel_rfl)
@[go_sem] theorem ag227 : aggOf Tryz.prog 227 = some false := eqS (by kernel_rfl)
@[go_sem] theorem ze227 : zeroOf Tryz.prog 227 = some (.sc .nilFunc) := eqS (by kernel_rfl)
@[go_sem] theorem co227 : concreteT Tryz.prog 227 = true := eqS (by kernel_rfl)
@[go_sem] theorem sl227 : sliceOf Tryz.prog 227 = none := eqS (by kernel_rfl)
@[go_sem] theorem sz228 : szOf Tryz.prog 228 = some 1 := eqS (by kernel_rfl)
@[go_sem] theorem ag228 : aggOf Tryz.prog 228 = some false := eqS (by kernel_rfl)
@[go_sem] theorem ze228 : zeroOf Tryz.prog 228 = some (.sc .nilFunc) := eqS (by kernel_rfl)
@[go_sem] theorem co228 : concreteT Tryz.prog 228 = true := eqS (by kernel_rfl)
@[go_sem] theorem sl228 : sliceOf Tryz.prog 228 = none := eqS (by kernel_rfl)
@[go_sem] theorem sz229 : szOf Tryz.prog 229 = some 1 := eqS (by kernel_rfl)
@[go_sem] theorem ag229 : aggOf Tryz.prog 229 = some false := eqS (by kernel_rfl)
@[go_sem] theorem ze229 : zeroOf Tryz.prog 229 = some (.sc .nilFunc) := eqS (by kernel_rfl)
@[go_sem] theorem co229 : concreteT Tryz.prog 229 = true := eqS (by kernel_rfl)
@[go_sem] theorem sl229 : sliceOf Tryz.prog 229 = none := eqS (by kernel_rfl)
@[go_sem] theorem sz230 : szOf Tryz.prog 230 = some 1 := eqS (by kernel_rfl)
@[go_sem] theorem ag230 : aggOf Tryz.prog 230 = some false := eqS (by kernel_rfl)
@[go_sem] theorem ze230 : zeroOf Tryz.prog 230 = some (.sc .nilFunc) := eqS (by kernel_rfl)
@[go_sem] theorem co230 : concreteT Tryz.prog 230 = true := eqS (by kernel_rfl)
@[go_sem] theorem sl230 : sliceOf Tryz.prog 230 = none := eqS (by kernel_rfl)
@[go_sem] theorem sz231 : szOf Tryz.prog 231 = some 1 := eqS (by kernel_rfl)
@[go_sem] theorem ag231 : aggOf Tryz.prog 231 = some false := eqS (by kernel_rfl)
@[go_sem] theorem ze231 : zeroOf Tryz.prog 231 = some (.sc .nilFunc) := eqS (by kernel_rfl)
@[go_sem] theorem co231 : concreteT Tryz.prog 231 = true := eqS (by kernel_rfl)
@[go_sem] theorem sl231 : sliceOf Tryz.prog 231 = none := eqS (by kernel_rfl)
@[go_sem] theorem sz232 : szOf Tryz.prog 232 = some 1 := eqS (by kernel_rfl)
@[go_sem] theorem ag232 : aggOf Tryz.prog 232 = some false := eqS (by kernel_rfl)
@[go_sem] theorem ze232 : zeroOf Tryz.prog 232 = some (.sc .nilFunc) := eqS (by kernel_rfl)
@[go_sem] theorem co232 : concreteT Tryz.prog 232 = true := eqS (by kernel_rfl)
@[go_sem] theorem sl232 : sliceOf Tryz.prog 232 = none := eqS (by kernel_rfl)
@[go_sem] theorem sz233 : szOf Tryz.prog 233 = some 1 := eqS (by kernel_rfl)
@[go_sem] theorem ag233 : aggOf Tryz.prog 233 = some false := eqS (by kernel_rfl)
@[go_sem] theorem ze233 : zeroOf Tryz.prog 233 = some (.sc (.int .u64 0)) := eqS (by kernel_rfl)
@[go_sem] theorem co233 : concreteT Tryz.prog 233 = true := eqS (by kernel_rfl)
@[go_sem] theorem sl233 : sliceOf Tryz.prog 233 = none := eqS (by kernel_rfl)
@[go_sem] theorem un233 : Tryz.prog.underlying 233 = some (.int .u64) := eqS (by kernel_rfl)
@[go_sem] theorem sz234 : szOf Tryz.prog 234 = some 1 := eqS (by kernel_rfl)
@[go_sem] theorem ag234 : aggOf Tryz.prog 234 = some false := eqS (by kernel_rfl)
@[go_sem] theorem ze234 : zeroOf Tryz.prog 234 = some (.sc .nilFunc) := eqS (by kernel_rfl)
@[go_sem] theorem co234 : concreteT Tryz.prog 234 = true := eqS (by kernel_rfl)
@[go_sem] theorem sl234 : sliceOf Tryz.prog 234 = none := eqS (by kernel_rfl)
@[go_sem] theorem sz235 : szOf Tryz.prog 235 = some 1 := eqS (by kernel_rfl)
@[go_sem] theorem ag235 : aggOf Tryz.prog 235 = some false := eqS (by kernel_rfl)
@[go_sem] theorem ze235 : zeroOf Tryz.prog 235 = some (.sc .nilFunc) := eqS (by kernel_rfl)
@[go_sem] theorem co235 : concreteT Tryz.prog 235 = true := eqS (by kernel_rfl)
@[go_sem] theorem sl235 : sliceOf Tryz.prog 235 = none := eqS (by kernel_rfl)
@[go_sem] theorem sz236 : szOf Tryz.prog 236 = some 1 := eqS (by kernel_rfl)
@[go_sem] theorem ag236 : aggOf Tryz.prog 236 = some false := eqS (by kernel_rfl)
@[go_sem] theorem ze236 : zeroOf Tryz.prog 236 = some (.sc .nilFunc) := eqS (by kernel_rfl)
@[go_sem] theorem co236 : concreteT Tryz.prog 236 = true := eqS (by kernel_rfl)
@[go_sem] theorem sl236 : sliceOf Tryz.prog 236 = none := eqS (by kernel_rfl)
@[go_sem] theorem sz237 : szOf Tryz.prog 237 = some 1 := eqS (by kernel_rfl)
@[go_sem] theorem ag237 : aggOf Tryz.prog 237 = some false := eqS (by kernel_rfl)
@[go_sem] theorem ze237 : zeroOf Tryz.prog 237 = some (.sc (.pointer none)) := eqS (by kernel_rfl)
@[go_sem] theorem co237 : concreteT Tryz.prog 237 = true := eqS (by kernel_rfl)
@[go_sem] theorem sl237 : sliceOf Tryz.prog 237 = none := eqS (by kernel_rfl)
@[go_sem] theorem ptt237 : isPtrT Tryz.prog 237 = true := eqS (by kernel_rfl)
@[go_sem] theorem sz238 : szOf Tryz.prog 238 = some 1 := eqS (by kernel_rfl)
@[go_sem] theorem ag238 : aggOf Tryz.prog 238 = some false := eqS (by kernel_rfl)
@[go_sem] theorem ze238 : zeroOf Tryz.prog 238 = some (.sc .nilFunc) := eqS (by kernel_rfl)
@[go_sem] theorem co238 : concreteT Tryz.prog 238 = true := eqS (by kernel_rfl)
@[go_sem] theorem sl238 : sliceOf Tryz.prog 238 = none := eqS (by kernel_rfl)
@[go_sem] theorem sz239 : szOf Tryz.prog 239 = some 1 := eqS (by kernel_rfl)
@[go_sem] theorem ag239 : aggOf Tryz.prog 239 = some false := eqS (by kernel_rfl)
@[go_sem] theorem ze239 : zeroOf Tryz.prog 239 = some (.lst true []) := eqS (by kernel_rfl)
@[go_sem] theorem co239 : concreteT Tryz.prog 239 = true := eqS (by kernel_rfl)
@[go_sem] theorem sl239 : sliceOf Tryz.prog 239 = some (5, 1, 1) := eqS (by kernel_rfl)
@[go_sem] theorem sz241 : szOf Tryz.prog 241 = some 1 := eqS (by kernel_rfl)
@[go_sem] theorem ag241 : aggOf Tryz.prog 241 = some false := eqS (by kernel_rfl)
@[go_sem] theorem ze241 : zeroOf Tryz.prog 241 = some (.sc .nilFunc) := eqS (by kernel_rfl)
@[go_sem] theorem co241 : concreteT Tryz.prog 241 = true := eqS (by kernel_rfl)
@[go_sem] theorem sl241 : sliceOf Tryz.prog 241 = none := eqS (by kernel_rfl)
@[go_sem] theorem sz242 : szOf Tryz.prog 242 = some 1 := eqS (by kernel_rfl)
@[go_sem] theorem ag242 : aggOf Tryz.prog 242 = some false := eqS (by kernel_rfl)
@[go_sem] theorem ze242 : zeroOf Tryz.prog 242 = some (.sc .nilFunc) := eqS (by kernel_rfl)
@[go_sem] theorem co242 : concreteT Tryz.prog 242 = true := eqS (by kernel_rfl)
@[go_sem] theorem sl242 : sliceOf Tryz.prog 242 = none := eqS (by kernel_rfl)
@[go_sem] theorem sz243 : szOf Tryz.prog 243 = some 1 := eqS (by kernel_rfl)
@[go_sem] theorem ag243 : aggOf Tryz.prog 243 = some false := eqS (by kernel_rfl)
@[go_sem] theorem ze243 : zeroOf Tryz.prog 243 = some (.sc (.pointer none)) := eqS (by kernel_rfl)
@[go_sem] theorem co243 : concreteT Tryz.prog 243 = true := eqS (by kernel_rfl)
@[go_sem] theorem sl243 : sliceOf Tryz.prog 243 = none := eqS (by kernel_rfl)
@[go_sem] theorem ptt243 : isPtrT Tryz.prog 243 = true := eqS (by kernel_rfl)
@[go_sem] theorem sz245 : szOf Tryz.prog 245 = some 1 := eqS (by kernel_rfl)
@[go_sem] theorem ag245 : aggOf Tryz.prog 245 = some false := eqS (by kernel_rfl)
@[go_sem] theorem ze245 : zeroOf Tryz.prog 245 = some (.sc .nilFunc) := eqS (by kernel_rfl)
@[go_sem] theorem co245 : concreteT Tryz.prog 245 = true := eqS (by kernel_rfl)
@[go_sem] theorem sl245 : sliceOf Tryz.prog 245 = none := eqS (by kernel_rfl)
@[go_sem] theorem sz247 : szOf Tryz.prog 247 = some 1 := eqS (by kernel_rfl)
@[go_sem] theorem ag247 : aggOf Tryz.prog 247 = some false := eqS (by kernel_rfl)
@[go_sem] theorem ze247 : zeroOf Tryz.prog 247 = some (.sc .nilFunc) := eqS (by kernel_rfl)
@[go_sem] theorem co247 : concreteT Tryz.prog 247 = true := eqS (by kernel_rfl)
@[go_sem] theorem sl247 : sliceOf Tryz.prog 247 = none := eqS (by kernel_rfl)
@[go_sem] theorem sz249 : szOf Tryz.prog 249 = some 1 := eqS (by kernel_rfl)
@[go_sem] theorem ag249 : aggOf Tryz.prog 249 = some false := eqS (by kernel_rfl)
@[go_sem] theorem ze249 : zeroOf Tryz.prog 249 = some (.sc .nilFunc) := eqS (by kernel_rfl)
@[go_sem] theorem co249 : concreteT Tryz.prog 249 = true := eqS (by kernel_rfl)
@[go_sem] theorem sl249 : sliceOf Tryz.prog 249 = none := eqS (by kernel_rfl)
@[go_sem] theorem sz250 : szOf Tryz.prog 250 = some 1 := eqS (by kernel_rfl)
@[go_sem] theorem ag250 : aggOf Tryz.prog 250 = some false := eqS (by kernel_rfl)
@[go_sem] theorem ze250 : zeroOf Tryz.prog 250 = some (.sc .nilFunc) := eqS (by kernel_rfl)
@[go_sem] theorem co250 : concreteT Tryz.prog 250 = true := eqS (by kernel_rfl)
@[go_sem] theorem sl250 : sliceOf Tryz.prog 250 = none := eqS (by kernel_rfl)
@[go_sem] theorem sz251 : szOf Tryz.prog 251 = some 24 := eqS (by kernel_rfl)
@[go_sem] theorem ag251 : aggOf Tryz.prog 251 = some true := eqS (by kernel_rfl)
@[go_sem] theorem ze251 : zeroOf Tryz.prog 251 = some (.agg [.sc (.int .u8 0), .sc (.int .u8 0), .sc (.int .u8 0), .sc (.int .u8 0), .sc (.int .u8 0), .sc (.int .u8 0), .sc (.int .u8 0), .sc (.int .u8 0), .sc (.int .u8 0), .sc (.int .u8 0), .sc (.int .u8 0), .sc (.int .u8 0), .sc (.int .u8 0), .sc (.int .u8 0), .sc (.int .u8 0), .sc (.int .u8 0), .sc (.int .u8 0), .sc (.int .u8 0), .sc (.int .u8 0), .sc (.int .u8 0), .sc (.int .u8 0), .sc (.int .u8 0), .sc (.int .u8 0), .sc (.int .u8 0)]) := eqS (by kernel_rfl)
@[go_sem] theorem co251 : concreteT Tryz.prog 251 = true := eqS (by kernel_rfl)
@[go_sem] theorem sl251 : sliceOf Tryz.prog 251 = none := eqS (by kernel_rfl)
@[go_sem] theorem ar251 : arrOf Tryz.prog 251 = some (24, 5, 1) := eqS (by kernel_rfl)
@[go_sem] theorem pl251 : placeOf Tryz.prog 251 = some (plA 1) := eqS (by kernel_rfl)
@[go_sem] theorem ia251 : intArr Tryz.prog 251 = some 24 := eqS (by kernel_rfl)
@[go_sem] theorem un251 : Tryz.prog.underlying 251 = some (.array 24 5) := eqS (by kernel_rfl)
@[go_sem] theorem zo251 : zerosOk Tryz.prog 251 = true := eqS (by kernel_rfl)
@[go_sem] theorem sz252 : szOf Tryz.prog 252 = some 1 := eqS (by kernel_rfl)
@[go_sem] theorem ag252 : aggOf Tryz.prog 252 = some false := eqS (by kernel_rfl)
@[go_sem] theorem ze252 : zeroOf Tryz.prog 252 = some (.sc .nilFunc) := eqS (by kernel_rfl)
@[go_sem] theorem co252 : concreteT Tryz.prog 252 = true := eqS (by kernel_rfl)
@[go_sem] theorem sl252 : sliceOf Tryz.prog 252 = none := eqS (by kernel_rfl)
@[go_sem] theorem sz254 : szOf Tryz.prog 254 = some 1 := eqS (by kernel_rfl)
@[go_sem] theorem ag254 : aggOf Tryz.prog 254 = some false := eqS (by kernel_rfl)
@[go_sem] theorem ze254 : zeroOf Tryz.prog 254 = some (.sc .nilFunc) := eqS (by kernel_rfl)
@[go_sem] theorem co254 : concreteT Tryz.prog 254 = true := eqS (by kernel_rfl)
@[go_sem] theorem sl254 : sliceOf Tryz.prog 254 = none := eqS (by kernel_rfl)
@[go_sem] theorem sz255 : szOf Tryz.prog 255 = some 1 := eqS (by kernel_rfl)
@[go_sem] theorem ag255 : aggOf Tryz.prog 255 = some false := eqS (by kernel_rfl)
@[go_sem] theorem ze255 : zeroOf Tryz.prog 255 = some (.sc .nilFunc) := eqS (by kernel_rfl)
@[go_sem] theorem co255 : concreteT Tryz.prog 255 = true := eqS (by kernel_rfl)
@[go_sem] theorem sl255 : sliceOf Tryz.prog 255 = none := eqS (by kernel_rfl)
@[go_sem] theorem sz256 : szOf Tryz.prog 256 = some 20 := eqS (by kernel_rfl)
@[go_sem] theorem ag256 : aggOf Tryz.prog 256 = some true := eqS (by kernel_rfl)
@[go_sem] theorem ze256 : zeroOf Tryz.prog 256 = some (.agg [.sc (.int .u64 0), .sc (.int .u64 0), .sc (.int .u64 0), .sc (.int .u64 0), .sc (.int .u64 0), .sc (.int .u64 0), .sc (.int .u64 0), .sc (.int .u64 0), .sc (.int .u64 0), .sc (.int .u64 0), .sc (.int .u64 0), .sc (.int .u64 0), .sc (.int .u64 0), .sc (.int .u64 0), .sc (.int .u64 0), .sc (.int .u64 0), .sc (.int .u64 0), .sc (.int .u64 0), .sc (.int .u64 0), .sc (.int .u64 0)]) := eqS (by kernel_rfl)
@[go_sem] theorem co256 : concreteT Tryz.prog 256 = true := eqS (by kernel_rfl)
@[go_sem] theorem sl256 : sliceOf Tryz.prog 256 = none := eqS (by kernel_rfl)
@[go_sem] theorem ar256 : arrOf Tryz.prog 256 = some (20, 214, 1) := eqS (by kernel_rfl)
@[go_sem] theorem pl256 : placeOf Tryz.prog 256 = some (plA 1) := eqS (by kernel_rfl)
@[go_sem] theorem ia256 : intArr Tryz.prog 256 = some 20 := eqS (by kernel_rfl)
@[go_sem] theorem un256 : Tryz.prog.underlying 256 = some (.array 20 214) := eqS (by kernel_rfl)
@[go_sem] theorem zo256 : zerosOk Tryz.prog 256 = true := eqS (by kernel_rfl)
@[go_sem] theorem sz257 : szOf Tryz.prog 257 = some 65 := eqS (by kernel_rfl)
@[go_sem] theorem ag257 : aggOf Tryz.prog 257 = some true := eqS (by kernel_rfl)
@[go_sem] theorem ze257 : zeroOf Tryz.prog 257 = some (.agg [.sc (.int .u8 0), .sc (.int .u8 0), .sc (.int .u8 0), .sc (.int .u8 0), .sc (.int .u8 0), .sc (.int .u8 0), .sc (.int .u8 0), .sc (.int .u8 0), .sc (.int .u8 0), .sc (.int .u8 0), .sc (.int .u8 0), .sc (.int .u8 0), .sc (.int .u8 0), .sc (.int .u8 0), .sc (.int .u8 0), .sc (.int .u8 0), .sc (.int .u8 0), .sc (.int .u8 0), .sc (.int .u8 0), .sc (.int .u8 0), .sc (.int .u8 0), .sc (.int .u8 0), .sc (.int .u8 0), .sc (.int .u8 0), .sc (.int .u8 0), .sc (.int .u8 0), .sc (.int .u8 0), .sc (.int .u8 0), .sc (.int .u8 0), .sc (.int .u8 0), .sc (.int .u8 0), .sc (.int .u8 0), .sc (.int .u8 0), .sc (.int .u8 0), .sc (.int .u8 0), .sc (.int .u8 0), .sc (.int .u8 0), .sc (.int .u8 0), .sc (.int .u8 0), .sc (.int .u8 0), .sc (.int .u8 0), .sc (.int .u8 0), .sc (.int .u8 0), .sc (.int .u8 0), .sc (.int .u8 0), .sc (.int .u8 0), .sc (.int .u8 0), .sc (.int .u8 0), .sc (.int .u8 0), .sc (.int .u8 0), .sc (.int .u8 0), .sc (.int .u8 0), .sc (.int .u8 0), .sc (.int .u8 0), .sc (.int .u8 0), .sc (.int .u8 0), .sc (.int .u8 0), .sc (.int .u8 0), .sc (.int .u8 0), .sc (.int .u8 0), .sc (.int .u8 0), .sc (.int .u8 0), .sc (.int .u8 0), .sc (.int .u8 0), .sc (.int .u8 0)]) := eqS (by kernel_rfl)
@[go_sem] theorem co257 : concreteT Tryz.prog 257 = true := eqS (by kernel_rfl)
@[go_sem] theorem sl257 : sliceOf Tryz.prog 257 = none := eqS (by kernel_rfl)
@[go_sem] theorem ar257 : arrOf Tryz.prog 257 = some (65, 5, 1) := eqS (by kernel_rfl)
@[go_sem] theorem pl257 : placeOf Tryz.prog 257 = some (plA 1) := eqS (by kernel_rfl)
@[go_sem] theorem ia257 : intArr Tryz.prog 257 = some 65 := eqS (by kernel_rfl)
@[go_sem] theorem un257 : Tryz.prog.underlying 257 = some (.array 65 5) := eqS (by kernel_rfl)
@[go_sem] theorem zo257 : zerosOk Tryz.prog 257 = true := eqS (by kernel_rfl)
@[go_sem] theorem sz258 : szOf Tryz.prog 258 = some 32 := eqS (by kernel_rfl)
@[go_sem] theorem ag258 : aggOf Tryz.prog 258 = some true := eqS (by kernel_rfl)
@[go_sem] theorem ze258 : zeroOf Tryz.prog 258 = some (.agg [.sc (.int .u8 0), .sc (.int .u8 0), .sc (.int .u8 0), .sc (.int .u8 0), .sc (.int .u8 0), .sc (.int .u8 0), .sc (.int .u8 0), .sc (.int .u8 0), .sc (.int .u8 0), .sc (.int .u8 0), .sc (.int .u8 0), .sc (.int .u8 0), .sc (.int .u8 0), .sc (.int .u8 0), .sc (.int .u8 0), .sc (.int .u8 0), .sc (.int .u8 0), .sc (.int .u8 0), .sc (.int .u8 0), .sc (.int .u8 0), .sc (.int .u8 0), .sc (.int .u8 0), .sc (.int .u8 0), .sc (.int .u8 0), .sc (.int .u8 0), .sc (.int .u8 0), .sc (.int .u8 0), .sc (.int .u8 0), .sc (.int .u8 0), .sc (.int .u8 0), .sc (.int .u8 0), .sc (.int .u8 0)]) := eqS (by kernel_rfl)
@[go_sem] theorem co258 : concreteT Tryz.prog 258 = true := eqS (by kernel_rfl)
@[go_sem] theorem sl258 : sliceOf Tryz.prog 258 = none := eqS (by kernel_rfl)
@[go_sem] theorem ar258 : arrOf Tryz.prog 258 = some (32, 5, 1) := eqS (by kernel_rfl)
@[go_sem] theorem pl258 : placeOf Tryz.prog 258 = some (plA 1) := eqS (by kernel_rfl)
@[go_sem] theorem ia258 : intArr Tryz.prog 258 = some 32 := eqS (by kernel_rfl)
@[go_sem] theorem un258 : Tryz.prog.underlying 258 = some (.array 32 5) := eqS (by kernel_rfl)
@[go_sem] theorem zo258 : zerosOk Tryz.prog 258 = true := eqS (by kernel_rfl)
@[go_sem] theorem sz259 : szOf Tryz.prog 259 = some 64 := eqS (by kernel_rfl)
@[go_sem] theorem ag259 : aggOf Tryz.prog 259 = some true := eqS (by kernel_rfl)
@[go_sem] theorem ze259 : zeroOf Tryz.prog 259 = some (.agg [.sc (.int .u8 0), .sc (.int .u8 0), .sc (.int .u8 0), .sc (.int .u8 0), .sc (.int .u8 0), .sc (.int .u8 0), .sc (.int .u8 0), .sc (.int .u8 0), .sc (.int .u8 0), .sc (.int .u8 0), .sc (.int .u8 0), .sc (.int .u8 0), .sc (.int .u8 0), .sc (.int .u8 0), .sc (.int .u8 0), .sc (.int .u8 0), .sc (.int .u8 0), .sc (.int .u8 0), .sc (.int .u8 0), .sc (.int .u8 0), .sc (.int .u8 0), .sc (.int .u8 0), .sc (.int .u8 0), .sc (.int .u8 0), .sc (.int .u8 0), .sc (.int .u8 0), .sc (.int .u8 0), .sc (.int .u8 0), .sc (.int .u8 0), .sc (.int .u8 0), .sc (.int .u8 0), .sc (.int .u8 0), .sc (.int .u8 0), .sc (.int .u8 0), .sc (.int .u8 0), .sc (.int .u8 0), .sc (.int .u8 0), .sc (.int .u8 0), .sc (.int .u8 0), .sc (.int .u8 0), .sc (.int .u8 0), .sc (.int .u8 0), .sc (.int .u8 0), .sc (.int .u8 0), .sc (.int .u8 0), .sc (.int .u8 0), .sc (.int .u8 0), .sc (.int .u8 0), .sc (.int .u8 0), .sc (.int .u8 0), .sc (.int .u8 0), .sc (.int .u8 0), .sc (.int .u8 0), .sc (.int .u8 0), .sc (.int .u8 0), .sc (.int .u8 0), .sc (.int .u8 0), .sc (.int .u8 0), .sc (.int .u8 0), .sc (.int .u8 0), .sc (.int .u8 0), .sc (.int .u8 0), .sc (.int .u8 0), .sc (.int .u8 0)]) := eqS (by kernel_rfl)
@[go_sem] theorem co259 : concreteT Tryz.prog 259 = true := eqS (by kernel_rfl)
@[go_sem] theorem sl259 : sliceOf Tryz.prog 259 = none := eqS (by kernel_rfl)
@[go_sem] theorem ar259 : arrOf Tryz.prog 259 = some (64, 5, 1) := eqS (by kernel_rfl)
@[go_sem] theorem pl259 : placeOf Tryz.prog 259 = some (plA 1) := eqS (by kernel_rfl)
@[go_sem] theorem ia259 : intArr Tryz.prog 259 = some 64 := eqS (by kernel_rfl)
@[go_sem] theorem un259 : Tryz.prog.underlying 259 = some (.array 64 5) := eqS (by kernel_rfl)
@[go_sem] theorem zo259 : zerosOk Tryz.prog 259 = true := eqS (by kernel_rfl)
@[go_sem] theorem sz260 : szOf Tryz.prog 260 = some 4 := eqS (by kernel_rfl)
@[go_sem] theorem ag260 : aggOf Tryz.prog 260 = some true := eqS (by kernel_rfl)
@[go_sem] theorem ze260 : zeroOf Tryz.prog 260 = some (.agg [.sc (.pointer none), .sc (.pointer none), .sc (.pointer none), .sc (.string ⟨#[]⟩)]) := eqS (by kernel_rfl)
@[go_sem] theorem co260 : concreteT Tryz.prog 260 = true := eqS (by kernel_rfl)
@[go_sem] theorem sl260 : sliceOf Tryz.prog 260 = none := eqS (by kernel_rfl)
@[go_sem] theorem pl260 : placeOf Tryz.prog 260 = some (plc [(0, 1), (1, 1), (2, 1), (3, 1)]) := eqS (by kernel_rfl)
@[go_sem] theorem fl260_0 : fldOf Tryz.prog 260 0 = some (0, 17, 1) := eqS (by kernel_rfl)
@[go_sem] theorem fl260_1 : fldOf Tryz.prog 260 1 = some (1, 17, 1) := eqS (by kernel_rfl)
@[go_sem] theorem fl260_2 : fldOf Tryz.prog 260 2 = some (2, 17, 1) := eqS (by kernel_rfl)
@[go_sem] theorem fl260_3 : fldOf Tryz.prog 260 3 = some (3, 9, 1) := eqS (by kernel_rfl)
@[go_sem] theorem zo260 : zerosOk Tryz.prog 260 = true := eqS (by kernel_rfl)
@[go_sem] theorem sz261 : szOf Tryz.prog 261 = some 4 := eqS (by kernel_rfl)
@[go_sem] theorem ag261 : aggOf Tryz.prog 261 = some true := eqS (by kernel_rfl)
@[go_sem] theorem ze261 : zeroOf Tryz.prog 261 = some (.agg [.sc (.pointer none), .sc (.pointer none), .sc (.pointer none), .sc (.string ⟨#[]⟩)]) := eqS (by kernel_rfl)
@[go_sem] theorem co261 : concreteT Tryz.prog 261 = true := eqS (by kernel_rfl)
@[go_sem] theorem sl261 : sliceOf Tryz.prog 261 = none := eqS (by kernel_rfl)
@[go_sem] theorem pl261 : placeOf Tryz.prog 261 = some (plc [(0, 1), (1, 1), (2, 1), (3, 1)]) := eqS (by kernel_rfl)
@[go_sem] theorem fl261_0 : fldOf Tryz.prog 261 0 = some (0, 17, 1) := eqS (by kernel_rfl)
@[go_sem] theorem fl261_1 : fldOf Tryz.prog 261 1 = some (1, 17, 1) := eqS (by kernel_rfl)
@[go_sem] theorem fl261_2 : fldOf Tryz.prog 261 2 = some (2, 17, 1) := eqS (by kernel_rfl)
@[go_sem] theorem fl261_3 : fldOf Tryz.prog 261 3 = some (3, 9, 1) := eqS (by kernel_rfl)
@[go_sem] theorem zo261 : zerosOk Tryz.prog 261 = true := eqS (by kernel_rfl)
@[go_sem] theorem sz262 : szOf Tryz.prog 262 = some 0 := eqS (by kernel_rfl)
@[go_sem] theorem ag262 : aggOf Tryz.prog 262 = some true := eqS (by kernel_rfl)
@[go_sem] theorem ze262 : zeroOf Tryz.prog 262 = some (.agg []) := eqS (by kernel_rfl)
@[go_sem] theorem co262 : concreteT Tryz.prog 262 = true := eqS (by kernel_rfl)
@[go_sem] theorem sl262 : sliceOf Tryz.prog 262 = none := eqS (by kernel_rfl)
@[go_sem] theorem ar262 : arrOf Tryz.prog 262 = some (0, 16, 1) := eqS (by kernel_rfl)
@[go_sem] theorem pl262 : placeOf Tryz.prog 262 = some (plA 1) := eqS (by kernel_rfl)
@[go_sem] theorem un262 : Tryz.prog.underlying 262 = some (.array 0 16) := eqS (by kernel_rfl)
@[go_sem] theorem zo262 : zerosOk Tryz.prog 262 = true := eqS (by kernel_rfl)
@[go_sem] theorem sz263 : szOf Tryz.prog 263 = some 0 := eqS (by kernel_rfl)
@[go_sem] theorem ag263 : aggOf Tryz.prog 263 = some true := eqS (by kernel_rfl)
@[go_sem] theorem ze263 : zeroOf Tryz.prog 263 = some (.agg []) := eqS (by kernel_rfl)
@[go_sem] theorem co263 : concreteT Tryz.prog 263 = true := eqS (by kernel_rfl)
@[go_sem] theorem sl263 : sliceOf Tryz.prog 263 = none := eqS (by kernel_rfl)
@[go_sem] theorem pl263 : placeOf Tryz.prog 263 = some (plc [(0, 0)]) := eqS (by kernel_rfl)
@[go_sem] theorem zo263 : zerosOk Tryz.prog 263 = true := eqS (by kernel_rfl)
@[go_sem] theorem sz264 : szOf Tryz.prog 264 = some 0 := eqS (by kernel_rfl)
@[go_sem] theorem ag264 : aggOf Tryz.prog 264 = some true := eqS (by kernel_rfl)
@[go_sem] theorem ze264 : zeroOf Tryz.prog 264 = some (.agg []) := eqS (by kernel_rfl)
@[go_sem] theorem co264 : concreteT Tryz.prog 264 = true := eqS (by kernel_rfl)
@[go_sem] theorem sl264 : sliceOf Tryz.prog 264 = none := eqS (by kernel_rfl)
@[go_sem] theorem pl264 : placeOf Tryz.prog 264 = some (plc [(0, 0)]) := eqS (by kernel_rfl)
@[go_sem] theorem zo264 : zerosOk Tryz.prog 264 = true := eqS (by kernel_rfl)
@[go_sem] theorem sz265 : szOf Tryz.prog 265 = some 1 := eqS (by kernel_rfl)
@[go_sem] theorem ag265 : aggOf Tryz.prog 265 = some false := eqS (by kernel_rfl)
@[go_sem] theorem ze265 : zeroOf Tryz.prog 265 = some (.sc .nilFunc) := eqS (by kernel_rfl)
@[go_sem] theorem co265 : concreteT Tryz.prog 265 = true := eqS (by kernel_rfl)
@[go_sem] theorem sl265 : sliceOf Tryz.prog 265 = none := eqS (by kernel_rfl)
@[go_sem] theorem sz266 : szOf Tryz.prog 266 = some 1 := eqS (by kernel_rfl)
@[go_sem] theorem ag266 : aggOf Tryz.prog 266 = some false := eqS (by kernel_rfl)
@[go_sem] theorem ze266 : zeroOf Tryz.prog 266 = some (.sc (.int .u8 0)) := eqS (by kernel_rfl)
@[go_sem] theorem co266 : concreteT Tryz.prog 266 = true := eqS (by kernel_rfl)
@[go_sem] theorem sl266 : sliceOf Tryz.prog 266 = none := eqS (by kernel_rfl)
@[go_sem] theorem un266 : Tryz.prog.underlying 266 = some (.int .u8) := eqS (by kernel_rfl)
@[go_sem] theorem sz267 : szOf Tryz.prog 267 = some 1 := eqS (by kernel_rfl)
@[go_sem] theorem ag267 : aggOf Tryz.prog 267 = some false := eqS (by kernel_rfl)
@[go_sem] theorem ze267 : zeroOf Tryz.prog 267 = some (.sc (.int .u8 0)) := eqS (by kernel_rfl)
@[go_sem] theorem co267 : concreteT Tryz.prog 267 = true := eqS (by kernel_rfl)
@[go_sem] theorem sl267 : sliceOf Tryz.prog 267 = none := eqS (by kernel_rfl)
@[go_sem] theorem un267 : Tryz.prog.underlying 267 = some (.int .u8) := eqS (by kernel_rfl)
@[go_sem] theorem sz268 : szOf Tryz.prog 268 = some 1 := eqS (by kernel_rfl)
@[go_sem] theorem ag268 : aggOf Tryz.prog 268 = some false := eqS (by kernel_rfl)
@[go_sem] theorem ze268 : zeroOf Tryz.prog 268 = some (.sc .nilFunc) := eqS (by kernel_rfl)
@[go_sem] theorem co268 : concreteT Tryz.prog 268 = true := eqS (by kernel_rfl)
@[go_sem] theorem sl268 : sliceOf Tryz.prog 268 = none := eqS (by kernel_rfl)
@[go_sem] theorem sz269 : szOf Tryz.prog 269 = some 1 := eqS (by kernel_rfl)
@[go_sem] theorem ag269 : aggOf Tryz.prog 269 = some false := eqS (by kernel_rfl)
@[go_sem] theorem ze269 : zeroOf Tryz.prog 269 = some (.sc (.pointer none)) := eqS (by kernel_rfl)
@[go_sem] theorem co269 : concreteT Tryz.prog 269 = true := eqS (by kernel_rfl)
@[go_sem] theorem sl269 : sliceOf Tryz.prog 269 = none := eqS (by kernel_rfl)
@[go_sem] theorem ptt269 : isPtrT Tryz.prog 269 = true := eqS (by kernel_rfl)
@[go_sem] theorem sz270 : szOf Tryz.prog 270 = some 1 := eqS (by kernel_rfl)
@[go_sem] theorem ag270 : aggOf Tryz.prog 270 = some false := eqS (by kernel_rfl)
@[go_sem] theorem ze270 : zeroOf Tryz.prog 270 = some (.sc (.int .i32 0)) := eqS (by kernel_rfl)
@[go_sem] theorem co270 : concreteT Tryz.prog 270 = true := eqS (by kernel_rfl)
@[go_sem] theorem sl270 : sliceOf Tryz.prog 270 = none := eqS (by kernel_rfl)
@[go_sem] theorem un270 : Tryz.prog.underlying 270 = some (.int .i32) := eqS (by kernel_rfl)
@[go_sem] theorem sz271 : szOf Tryz.prog 271 = some 1 := eqS (by kernel_rfl)
@[go_sem] theorem ag271 : aggOf Tryz.prog 271 = some false := eqS (by kernel_rfl)
@[go_sem] theorem ze271 : zeroOf Tryz.prog 271 = some (.sc (.int .i32 0)) := eqS (by kernel_rfl)
@[go_sem] theorem co271 : concreteT Tryz.prog 271 = true := eqS (by kernel_rfl)
@[go_sem] theorem sl271 : sliceOf Tryz.prog 271 = none := eqS (by kernel_rfl)
@[go_sem] theorem un271 : Tryz.prog.underlying 271 = some (.int .i32) := eqS (by kernel_rfl)
@[go_sem] theorem sz272 : szOf Tryz.prog 272 = some 11 := eqS (by kernel_rfl)
@[go_sem] theorem ag272 : aggOf Tryz.prog 272 = some true := eqS (by kernel_rfl)
@[go_sem] theorem ze272 : zeroOf Tryz.prog 272 = some (.agg [.sc (.int .u64 0), .sc (.int .u64 0), .sc (.int .u32 0), .sc (.int .u8 0), .sc (.int .u8 0), .sc (.int .u8 0), .sc (.int .u8 0), .sc .nilFunc, .sc (.pointer none), .sc (.int .i32 0), .sc (.int .i32 0)]) := eqS (by kernel_rfl)
@[go_sem] theorem co272 : concreteT Tryz.prog 272 = true := eqS (by kernel_rfl)
@[go_sem] theorem sl272 : sliceOf Tryz.prog 272 = none := eqS (by kernel_rfl)
@[go_sem] theorem pl272 : placeOf Tryz.prog 272 = some (plc [(0, 1), (1, 1), (2, 1), (3, 1), (4, 1), (5, 1), (6, 1), (7, 1), (8, 1), (9, 1), (10, 1)]) := eqS (by kernel_rfl)
@[go_sem] theorem fl272_0 : fldOf Tryz.prog 272 0 = some (0, 12, 1) := eqS (by kernel_rfl)
@[go_sem] theorem fl272_1 : fldOf Tryz.prog 272 1 = some (1, 12, 1) := eqS (by kernel_rfl)
@[go_sem] theorem fl272_2 : fldOf Tryz.prog 272 2 = some (2, 212, 1) := eqS (by kernel_rfl)
@[go_sem] theorem fl272_3 : fldOf Tryz.prog 272 3 = some (3, 266, 1) := eqS (by kernel_rfl)
@[go_sem] theorem fl272_4 : fldOf Tryz.prog 272 4 = some (4, 5, 1) := eqS (by kernel_rfl)
@[go_sem] theorem fl272_5 : fldOf Tryz.prog 272 5 = some (5, 5, 1) := eqS (by kernel_rfl)
@[go_sem] theorem fl272_6 : fldOf Tryz.prog 272 6 = some (6, 267, 1) := eqS (by kernel_rfl)
@[go_sem] theorem fl272_7 : fldOf Tryz.prog 272 7 = some (7, 268, 1) := eqS (by kernel_rfl)
@[go_sem] theorem fl272_8 : fldOf Tryz.prog 272 8 = some (8, 269, 1) := eqS (by kernel_rfl)
@[go_sem] theorem fl272_9 : fldOf Tryz.prog 272 9 = some (9, 270, 1) := eqS (by kernel_rfl)
@[go_sem] theorem fl272_10 : fldOf Tryz.prog 272 10 = some (10, 271, 1) := eqS (by kernel_rfl)
@[go_sem] theorem zo272 : zerosOk Tryz.prog 272 = true := eqS (by kernel_rfl)
@[go_sem] theorem sz273 : szOf Tryz.prog 273 = some 11 := eqS (by kernel_rfl)
@[go_sem] theorem ag273 : aggOf Tryz.prog 273 = some true := eqS (by kernel_rfl)
@[go_sem] theorem ze273 : zeroOf Tryz.prog 273 = some (.agg [.sc (.int .u64 0), .sc (.int .u64 0), .sc (.int .u32 0), .sc (.int .u8 0), .sc (.int .u8 0), .sc (.int .u8 0), .sc (.int .u8 0), .sc .nilFunc, .sc (.pointer none), .sc (.int .i32 0), .sc (.int .i32 0)]) := eqS (by kernel_rfl)
@[go_sem] theorem co273 : concreteT Tryz.prog 273 = true := eqS (by kernel_rfl)
@[go_sem] theorem sl273 : sliceOf Tryz.prog 273 = none := eqS (by kernel_rfl)
@[go_sem] theorem pl273 : placeOf Tryz.prog 273 = some (plc [(0, 1), (1, 1), (2, 1), (3, 1), (4, 1), (5, 1), (6, 1), (7, 1), (8, 1), (9, 1), (10, 1)]) := eqS (by kernel_rfl)
@[go_sem] theorem fl273_0 : fldOf Tryz.prog 273 0 = some (0, 12, 1) := eqS (by kernel_rfl)
@[go_sem] theorem fl273_1 : fldOf Tryz.prog 273 1 = some (1, 12, 1) := eqS (by kernel_rfl)
@[go_sem] theorem fl273_2 : fldOf Tryz.prog 273 2 = some (2, 212, 1) := eqS (by kernel_rfl)
@[go_sem] theorem fl273_3 : fldOf Tryz.prog 273 3 = some (3, 266, 1) := eqS (by kernel_rfl)
@[go_sem] theorem fl273_4 : fldOf Tryz.prog 273 4 = some (4, 5, 1) := eqS (by kernel_rfl)
@[go_sem] theorem fl273_5 : fldOf Tryz.prog 273 5 = some (5, 5, 1) := eqS (by kernel_rfl)
@[go_sem] theorem fl273_6 : fldOf Tryz.prog 273 6 = some (6, 267, 1) := eqS (by kernel_rfl)
@[go_sem] theorem fl273_7 : fldOf Tryz.prog 273 7 = some (7, 268, 1) := eqS (by kernel_rfl)
@[go_sem] theorem fl273_8 : fldOf Tryz.prog 273 8 = some (8, 269, 1) := eqS (by kernel_rfl)
@[go_sem] theorem fl273_9 : fldOf Tryz.prog 273 9 = some (9, 270, 1) := eqS (by kernel_rfl)
@[go_sem] theorem fl273_10 : fldOf Tryz.prog 273 10 = some (10, 271, 1) := eqS (by kernel_rfl)
@[go_sem] theorem zo273 : zerosOk Tryz.prog 273 = true := eqS (by kernel_rfl)
@[go_sem] theorem sz274 : szOf Tryz.prog 274 = some 1 := eqS (by kernel_rfl)
@[go_sem] theorem ag274 : aggOf Tryz.prog 274 = some false := eqS (by kernel_rfl)
@[go_sem] theorem ze274 : zeroOf Tryz.prog 274 = some (.sc (.pointer none)) := eqS (by kernel_rfl)
@[go_sem] theorem co274 : concreteT Tryz.prog 274 = true := eqS (by kernel_rfl)
@[go_sem] theorem sl274 : sliceOf Tryz.prog 274 = none := eqS (by kernel_rfl)
end Go.Proofs.YtcfopdccdeeleaaGreatDoor.Ty


namespace Go.Ev
open Go Go.RowKit
def Gives (mu : Mu) (give : Nat → Bool) : List AV → List AV → Prop
  | [], [] => True
  | x :: xs, y :: ys => (x = y ∨ Rd (cutM give mu 0) x y) ∧ Gives mu give xs ys
  | _, _ => False
theorem Gives.get {mu : Mu} {give : Nat → Bool} : ∀ {xs ys : List AV}, Gives mu give xs ys → ys.length = xs.length ∧ ∀ (k : Nat) x y, xs[k]? = some x → ys[k]? = some y → x = y ∨ Rd (cutM give mu 0) x y
  | [], [], _ => ⟨rfl, by simp⟩
  | x :: xs, y :: ys, ⟨h, t⟩ => by
    obtain ⟨h1, h2⟩ := Gives.get t
    refine ⟨by simp [h1], fun k a b ha hb => ?_⟩
    cases k with
    | zero => simp at ha hb; subst ha; subst hb; exact h
    | succ k => exact h2 k a b (by simpa using ha) (by simpa using hb)
  | [], _ :: _, h => h.elim
  | _ :: _, [], h => h.elim
theorem Sound.freeze {P : Program} {f : FuncId} {args args1 : List AV} {mu : Mu} {R : AEnd → Mu → Prop} (give : Nat → Bool) (hg : Gives mu give args args1) (h : Sound P f args1 (cutM (fun i => !give i) mu 0) R) : Sound P f args mu R := by
  obtain ⟨hcal, h⟩ := h
  obtain ⟨hn, hg⟩ := hg.get
  refine ⟨hcal, fun G w vs s ra => ?_⟩
  have ra1 : ArgsRel (frz G give mu) w.heap args1 vs := by
    refine ⟨by rw [hn]; exact ra.1, fun k y hy => ?_⟩
    have hk : k < args.length := by rw [← hn]; exact (List.getElem?_eq_some_iff.1 hy).1
    have hx : args[k]? = some args[k] := List.getElem?_eq_getElem hk
    have rv := ra.2 k _ hx
    rcases hg k _ y hx hy with e | r
    · rw [← e]; exact rv.mono (frz_stp s give).le (Ext.refl _ _)
    · exact frz_rd s give r rv
  refine (h (frz G give mu) w vs (frz_sim s give) ra1).mono fun e w' ⟨G', mu', st, hR⟩ => ⟨G', mu', (frz_stp s give).trans s st, hR⟩
def Gvs (mu : Mu) (give : Nat → Bool) : List AV → List AV → Prop
  | [], [] => True
  | x :: xs, y :: ys => Gv mu give x y ∧ Gvs mu give xs ys
  | _, _ => False
theorem Gvs.get {mu : Mu} {give : Nat → Bool} : ∀ {xs ys : List AV}, Gvs mu give xs ys → ys.length = xs.length ∧ ∀ (k : Nat) x y, xs[k]? = some x → ys[k]? = some y → Gv mu give x y
  | [], [], _ => ⟨rfl, by simp⟩
  | x :: xs, y :: ys, ⟨h, t⟩ => by
    obtain ⟨h1, h2⟩ := Gvs.get t
    refine ⟨by simp [h1], fun k a b ha hb => ?_⟩
    cases k with
    | zero => simp at ha hb; subst ha; subst hb; exact h
    | succ k => exact h2 k a b (by simpa using ha) (by simpa using hb)
  | [], _ :: _, h => h.elim
  | _ :: _, [], h => h.elim
def FrzM (mu : Mu) (give : Nat → Bool) (mu' : Mu) : Prop := mu'.length = mu.length ∧ ∀ (i : Nat) (c' : Cell), mu'[i]? = some c' → c' ≠ .dead → give i = false ∧ ∃ c, mu[i]? = some c ∧ c ≠ .dead ∧
  (c' = c ∨ ∃ xs ys, c = .arr xs ∧ c' = .arr ys ∧ Gvs mu give xs ys ∧ ys.all AV.one = true)
theorem FrzM.sim {G : Gh} {mu mu' : Mu} {h : Array Obj} {give : Nat → Bool} (s : Sim G mu h) (f : FrzM mu give mu') : Sim (frz G give mu) mu' h := by
  have hle : G.le (frz G give mu) := ⟨fun b hb => .inl hb, fun _ _ h => h⟩
  have s0 := frz_sim s give
  have kept : ∀ (i : Nat) (c' : Cell), mu'[i]? = some c' → c' ≠ .dead → ∃ c, (cutM (fun i => !give i) mu 0)[i]? = some c ∧ c ≠ .dead := by
    intro i c' h1 h2
    obtain ⟨hg, c, hc, hd, _⟩ := f.2 i c' h1 h2
    exact ⟨c, by rw [cutM_get, hc]; simp [hg], hd⟩
  refine ⟨by rw [f.1]; exact s.len, s0.imm, ?_, ?_, ?_, s0.tab⟩
  · intro i c' blk tot h1 h2 h3
    obtain ⟨hg, c, hc, hd, hr⟩ := f.2 i c' h1 h2
    obtain ⟨o, ho, hrel⟩ := s.obj i c blk tot hc hd h3
    refine ⟨o, ho, ?_⟩
    rcases hr with rfl | ⟨xs, ys, rfl, rfl, hgv, hone⟩
    · exact hrel.mono hle (Ext.refl _ _)
    · obtain ⟨hyl, hgv⟩ := hgv.get
      obtain ⟨cs, e, rfl, k1, k2, k3⟩ := hrel
      refine ⟨cs, e, rfl, k1, by omega, fun j y hy => ?_⟩
      have hj : j < xs.length := by rw [← hyl]; exact (List.getElem?_eq_some_iff.1 hy).1
      have hx : xs[j]? = some xs[j] := List.getElem?_eq_getElem hj
      exact ⟨by simpa using List.all_eq_true.1 hone y (List.mem_of_getElem? hy), (hgv j _ y hx hy).sound s (k3 j _ hx).2⟩
  · intro i c' blk tot h1 h2 h3
    obtain ⟨c, hc, hd⟩ := kept i c' h1 h2
    exact s0.live i c blk tot hc hd h3
  · intro i j ci cj b ti tj h1 h2 h3 h4 h5 h6
    obtain ⟨c, hc, hd⟩ := kept i ci h1 h3
    obtain ⟨c', hc', hd'⟩ := kept j cj h2 h4
    exact s0.inj i j c c' b ti tj hc hc' hd hd' h5 h6
theorem FrzM.stp {G : Gh} {mu mu' : Mu} {w : World} {give : Nat → Bool} (s : Sim G mu w.heap) (f : FrzM mu give mu') : Stp G mu w (frz G give mu) mu' w := by
  refine ⟨⟨fun b hb => .inl hb, fun _ _ h => h⟩, f.sim s, fun _ _ _ => rfl, Nat.le_refl _, ?_, ?_, rfl, rfl, rfl, Nat.le_refl _⟩
  · rintro b ⟨i, c, tot, h1, h2, h3⟩
    obtain ⟨_, c0, hc, hd, _⟩ := f.2 i c h1 h2
    exact .inl ⟨i, c0, tot, hc, hd, h3⟩
  · rintro b (hb | hb)
    · exact .inl hb
    · exact .inr (.inl hb.cut)
theorem Sound.give {P : Program} {f : FuncId} {args : List AV} {mu : Mu} {R : AEnd → Mu → Prop} (h : Sound P f args mu fun e m => R e m ∨ ∃ (g : Nat → Bool) (x y : AV), e = .ret x ∧ Gv m g x y ∧ R (.ret y) (cutM (fun i => !g i) m 0)) : Sound P f args mu R := by
  obtain ⟨hcal, h⟩ := h
  refine ⟨hcal, fun G w vs s ra => (h G w vs s ra).mono fun e w' ⟨G', mu', st, hR⟩ => ?_⟩
  rcases hR with ⟨r, v, hR, he, hv⟩ | ⟨r, v, hR, he, hv⟩
  · rcases hR with hR | ⟨g, x, y, hx, hg, hR⟩
    · exact ⟨G', mu', st, .inl ⟨r, v, hR, he, hv⟩⟩
    · cases hx
      exact ⟨frz G' g mu', _, st.trans s (frz_stp st.sim g), .inl ⟨y, v, hR, he, hg.sound st.sim hv⟩⟩
  · rcases hR with hR | ⟨g, x, y, hx, _⟩
    · exact ⟨G', mu', st, .inr ⟨r, v, hR, he, hv⟩⟩
    · cases hx
theorem SoundP.toSound {P : Program} {f : FuncId} {args args' : List AV} {v : AV} (mu : Mu) (h : SoundP P f args' v) (hw : WKs args args') : Sound P f args mu fun e m => e = .ret v ∧ m = mu := by
  refine ⟨h.1, fun G w vs s ra => ?_⟩
  have fr : VRel G w.heap (.fn (.func f) [] []) (.func (.func f) #[] #[]) := .fn _ _ _ _ _ rfl rfl (fun k x hx => by simp at hx) (fun k x hx => by simp at hx)
  obtain ⟨g, first, caps, e, _, hc⟩ := pureCall_sound s fr ra (.inl ⟨f, [], [], args', rfl, h, .inl (by simpa using hw)⟩)
  injection e with e1 e2 e3
  injection e1 with e1
  subst e1; subst e2; subst e3
  simp at hc
  refine hc.mono fun e w' ⟨G', u, he, st, hv⟩ => ⟨G', mu, st, .inl ⟨v, u, ⟨rfl, rfl⟩, he, hv⟩⟩
end Go.Ev


namespace Go.Ev
open Go
abbrev rI (n : Int) : List AV := [.sc (.int .i64 n)]
abbrev lI (xs : List Int) : AV := .lst false (xs.map rI)
abbrev rL (xs : List Int) : List AV := [lI xs]
abbrev lL (xs : List (List Int)) : AV := .lst false (xs.map rL)
structure Rl where
  ar : Int
  ts : List Int
  deriving DecidableEq
structure Sc where
  atoms : List Int
  steps : Int
structure Fld where
  name : ByteArray
  sorts : List Int
  var : Bool
structure Sp where
  sorts : List (ByteArray × Bool)
  fields : List Fld
  preds : List (List AV)
  facts : List (List AV)
  hp : HF (.lst false preds)
  hf : HF (.lst false facts)
structure Bd where
  lo : Rl
  up : Rl
  deriving DecidableEq
abbrev cSort (s : ByteArray × Bool) : List AV := [.sc (.string s.1), aB s.2]
abbrev cField (f : Fld) : List AV := [.sc (.string f.name), lI f.sorts, aB f.var]
theorem hf_lI (xs : List Int) : HF (lI xs) := HF.lst fun r hr c hc => by
  obtain ⟨n, _, rfl⟩ := List.mem_map.1 hr
  simp at hc; subst hc; exact HF.sc _
theorem hf_lL (xs : List (List Int)) : HF (lL xs) := HF.lst fun r hr c hc => by
  obtain ⟨n, _, rfl⟩ := List.mem_map.1 hr
  simp at hc; subst hc; exact hf_lI _
theorem hf_cField (f : Fld) : ∀ c, c ∈ cField f → HF c := by
  intro c hc
  simp at hc
  rcases hc with rfl | rfl | rfl
  · exact HF.sc _
  · exact hf_lI _
  · exact HF.sc _
@[go_sem] theorem ieq (a b : Int) : (a == b) = decide (a = b) := eqS rfl
@[go_sem] theorem ine (a b : Int) : (a != b) = !decide (a = b) := eqS rfl
@[go_sem] theorem natEq (a b : Nat) : ((a : Int) = (b : Int)) = (a = b) := propext ⟨Int.ofNat_inj.1, fun h => by rw [h]⟩
inductive Tag (p : St → Prop) : Type where
  | mk : Tag p
def Keep (p : St → Prop) (_ : Tag p) (st : St) : Prop := p st
theorem Keep.loop {p : Nat → St → Prop} {st : St} {n : Nat} (m : Nat) (hm : m < n) (h : p m st) : ∃ m, m < n ∧ Keep (p m) .mk st := ⟨m, hm, h⟩
theorem LoopGo.keep {P : Program} {pl : Pol} {body : Code} {Q : AExit → St → Prop} {st : St} (I : Nat → St → Prop) (n : Nat) (h : I n st) (k : ∀ n st, I n st → awp P pl body (loopQ (fun n => Keep (I n) .mk) n Q) st) : LoopGo P pl body Q st := .intro (fun n => Keep (I n) .mk) n h k
theorem rows_rI (xs : List Int) : rowsWf 1 (xs.map rI) := fun r hr => by
  obtain ⟨n, _, rfl⟩ := List.mem_map.1 hr
  exact ⟨rfl, rfl⟩
theorem rows_rL (xs : List (List Int)) : rowsWf 1 (xs.map rL) := fun r hr => by
  obtain ⟨n, _, rfl⟩ := List.mem_map.1 hr
  exact ⟨rfl, rfl⟩
def OwnF (lo : Nat) (mu : Mu) (sz : Nat) (av : AV) (xs : List (List AV)) : Prop := Own mu sz av xs ∧ (∀ b s o l, av = .sl b s o l → lo ≤ b) ∧ lo ≤ mu.length
theorem OwnF.one {lo : Nat} {mu : Mu} {sz : Nat} {av : AV} {xs : List (List AV)} (h : OwnF lo mu sz av xs) : av.one = true := by
  rcases h.1 with rfl | ⟨b, rfl, _⟩ <;> rfl
theorem OwnF.cells {lo : Nat} {mu : Mu} {sz : Nat} {av : AV} {xs : List (List AV)} (h : OwnF lo mu sz av xs) : av.cells = [av] := by
  rcases h.1 with rfl | ⟨b, rfl, _⟩ <;> rfl
theorem OwnF.nil {lo : Nat} {mu : Mu} {sz : Nat} (h : lo ≤ mu.length) : OwnF lo mu sz (.lst true []) [] := ⟨.inl rfl, fun _ _ _ _ e => by simp at e, h⟩
theorem OwnF.lit {lo : Nat} {mu : Mu} {sz : Nat} (xs : List (List AV)) (h : lo ≤ mu.length) : OwnF lo mu sz (.lst true xs) xs := ⟨.inl rfl, fun _ _ _ _ e => by simp at e, h⟩
theorem OwnF.set {lo : Nat} {mu : Mu} {sz : Nat} {av : AV} {xs : List (List AV)} {i : Nat} {c : Cell} (h : OwnF lo mu sz av xs) (hi : i < lo) : OwnF lo (mu.set i c) sz av xs := by
  obtain ⟨ho, hb, hl⟩ := h
  refine ⟨?_, hb, by simpa using hl⟩
  rcases ho with rfl | ⟨b, rfl, hc⟩
  · exact .inl rfl
  · have := hb _ _ _ _ rfl
    exact .inr ⟨b, rfl, by rw [List.getElem?_set_ne (by omega)]; exact hc⟩
theorem OwnF.le {lo lo' : Nat} {mu : Mu} {sz : Nat} {av : AV} {xs : List (List AV)} (h : OwnF lo mu sz av xs) (hi : lo' ≤ lo) : OwnF lo' mu sz av xs :=
  ⟨h.1, fun b s o l e => Nat.le_trans hi (h.2.1 b s o l e), Nat.le_trans hi h.2.2⟩
theorem AppendStep0.ownF {P : Program} {lo : Nat} {mu : Mu} {t t' e sz bt : Nat} {s x : AV} {xs ys : List (List AV)} {zv : AV} {K : AV → Mu → Prop} (hs : sliceOf P t = some (e, sz, bt)) (hs' : (sliceOf P t').isSome = true) (hz : zeroOf P e = some zv)
    (hz1 : zv.cells.length = sz) (hz2 : zv.cells.all AV.one = true) (hz0 : sz ≠ 0) (hb : bt ≤ 16384) (ho : OwnF lo mu sz s xs) (hx : rowsOf mu x = some ys) (wx : rowsWf sz xs) (wy : rowsWf sz ys) (hl : xs.length + ys.length ≤ 4294967296)
    (k : ∀ av mu', OwnF lo mu' sz av (xs ++ ys) → (∀ i, i < lo → mu'[i]? = mu[i]?) → K av mu') : AppendStep0 P mu #[t, t'] s x K := by
  obtain ⟨ho, hlo, hlm⟩ := ho
  refine ⟨t, t', e, sz, bt, ys, rfl, hs, hs', ⟨zv, hz, hz1, hz2⟩, hz0, hb, hx, wy, ?_⟩
  rcases ho with rfl | ⟨b, rfl, hc⟩
  · refine .inl ⟨xs, rfl, wx, hl, fun h => ?_, fun h => ?_⟩
    · subst h
      exact k _ _ ⟨.inl (by simp), fun _ _ _ _ e => by simp at e, hlm⟩ (fun _ _ => rfl)
    · refine k _ _ ⟨.inr ⟨mu.length, by simp, by simp⟩, fun b s o l e => ?_, by simp; omega⟩ (fun i hi => ?_)
      · injection e; omega
      · rw [List.getElem?_append_left (by omega)]
  · have hfl := flatten_len wx.ok
    have hbl := hlo _ _ _ _ rfl
    refine .inr ⟨b, xs.length, xs.flatten, rfl, hc, by omega, hl, ?_⟩
    have htk : xs.flatten.take (xs.length * sz) = xs.flatten := List.take_of_length_le (by omega)
    refine k _ _ ⟨.inr ⟨mu.length, by simp, ?_⟩, fun b s o l e => ?_, by simp; omega⟩ (fun i hi => ?_)
    · rw [htk, List.getElem?_append_right (by simp)]; simp
    · injection e; omega
    · rw [List.getElem?_append_left (by simp; omega)]
      rw [List.getElem?_set_ne (by omega)]
theorem AppendStep.ownF {P : Program} {lo : Nat} {mu : Mu} {t t' e sz bt : Nat} {s x : AV} {xs ys : List (List AV)} {zv : AV} {K : AV → Mu → Prop} (hs : sliceOf P t = some (e, sz, bt)) (hs' : (sliceOf P t').isSome = true) (hz : zeroOf P e = some zv)
    (hz1 : zv.cells.length = sz) (hz2 : zv.cells.all AV.one = true) (hz0 : sz ≠ 0) (hb : bt ≤ 16384) (ho : OwnF lo mu sz s xs) (hx : rowsOf mu x = some ys) (wx : rowsWf sz xs) (wy : rowsWf sz ys) (hl : xs.length + ys.length ≤ 4294967296)
    (k : ∀ av mu', OwnF lo mu' sz av (xs ++ ys) → (∀ i, i < lo → mu'[i]? = mu[i]?) → K av mu') : AppendStep P mu #[t, t'] s x K :=
  .inl (AppendStep0.ownF hs hs' hz hz1 hz2 hz0 hb ho hx wx wy hl k)
theorem AppendStep.ints {P : Program} {lo : Nat} {mu : Mu} {t t' e bt : Nat} {s x : AV} {xs ys : List Int} {z : Int} {K : AV → Mu → Prop} (hs : sliceOf P t = some (e, 1, bt)) (hs' : (sliceOf P t').isSome = true) (hz : zeroOf P e = some (aI z))
    (hb : bt ≤ 16384) (ho : OwnF lo mu 1 s (xs.map rI)) (hx : rowsOf mu x = some (ys.map rI)) (hl : xs.length + ys.length ≤ 4294967296)
    (k : ∀ av mu', OwnF lo mu' 1 av ((xs ++ ys).map rI) → (∀ i, i < lo → mu'[i]? = mu[i]?) → K av mu') : AppendStep P mu #[t, t'] s x K :=
  AppendStep.ownF hs hs' hz rfl rfl (by omega) hb ho hx (rows_rI _) (rows_rI _) (by simpa using hl) (fun av mu' h1 h2 => k av mu' (by rw [List.map_append]; exact h1) h2)
theorem OwnF.low {low low' rest : Mu} {sz : Nat} {av : AV} {xs : List (List AV)} (h : OwnF low.length (low ++ rest) sz av xs) (hl : low'.length = low.length) : OwnF low'.length (low' ++ rest) sz av xs := by
  obtain ⟨ho, hb, _⟩ := h
  refine ⟨?_, by rw [hl]; exact hb, by simp⟩
  rcases ho with rfl | ⟨b, rfl, hc⟩
  · exact .inl rfl
  · have := hb _ _ _ _ rfl
    refine .inr ⟨b, rfl, ?_⟩
    rw [List.getElem?_append_right (by omega)] at hc ⊢
    rw [hl]; exact hc
theorem OwnF.rdI {lo : Nat} {mu : Mu} {av : AV} {xs : List Int} (h : OwnF lo mu 1 av (xs.map rI)) : Rd mu av (lI xs) :=
  h.1.rd (rows_rI xs).ok fun r hr c hc => by
    obtain ⟨n, _, rfl⟩ := List.mem_map.1 hr
    simp at hc; subst hc; exact HF.sc _
theorem cutM_at (b : Nat) (mu : Mu) : (cutM (fun j => j == b) mu 0)[b]? = mu[b]? := by
  rw [cutM_get]; cases mu[b]? <;> simp
theorem cutM_off {b i : Nat} (h : i ≠ b) (mu : Mu) : (cutM (fun j => !(j == b)) mu 0)[i]? = mu[i]? := by
  rw [cutM_get]; cases mu[i]? <;> simp [h]
theorem FzQ.own {Q : AExit → St → Prop} {lo i d sz : Nat} {av : AV} {xs : List (List AV)} {st : St} (hd : st.tm d = av) (ho : OwnF lo st.mu sz av xs) (wf : rowsWf sz xs) (hf : ∀ r, r ∈ xs → ∀ c, c ∈ r → HF c)
    (k : ∀ mu' full, mu'.length = st.mu.length → (∀ j, j < lo → mu'[j]? = st.mu[j]?) → Q (.exit i) (st.put (some d) (.lst full xs) mu')) : FzQ Q (.exit i) st := by
  rcases ho.1 with h | ⟨b, h, hc⟩
  · refine FzQ.one (b := st.mu.length) (d := d) (x := .lst true xs) ?_ (k _ _ (cutM_len _ _ _) fun j hj => cutM_off (by have := ho.2.2; omega) _)
    rw [hd, h]
    exact .hf _ (HF.lst hf)
  · refine FzQ.one (b := b) (d := d) (x := .lst false xs) ?_ (k _ _ (cutM_len _ _ _) fun j hj => cutM_off (by have := ho.2.1 _ _ _ _ h; omega) _)
    rw [hd]
    exact Own.rd (.inr ⟨b, h, by rw [cutM_at]; exact hc⟩) wf.ok hf
def sumI (xs : List Int) : Int := xs.foldr (· + ·) 0
theorem sumI_bounds (l : List Int) (m : Int) (h : ∀ a, a ∈ l → 0 ≤ a ∧ a ≤ m) : 0 ≤ sumI l ∧ sumI l ≤ m * l.length := by
  induction l with
  | nil => simp [sumI]
  | cons x l ih =>
    have h1 := h x (by simp)
    have h2 := ih (fun a ha => h a (by simp [ha]))
    simp only [sumI, List.foldr_cons, List.length_cons] at *
    have : m * ((l.length + 1 : Nat) : Int) = m * l.length + m := by rw [Int.natCast_succ, Int.mul_add]; simp
    omega
def GSc (s : Sc) : Prop := s.atoms.length ≤ 4 ∧ ∀ a, a ∈ s.atoms → 0 ≤ a ∧ a ≤ 5
theorem GSc.sum {s : Sc} (h : GSc s) (k : Nat) : 0 ≤ sumI (s.atoms.take k) ∧ sumI (s.atoms.take k) ≤ 20 := by
  have := sumI_bounds (s.atoms.take k) 5 (fun a ha => h.2 a (List.mem_of_mem_take ha))
  have h1 := h.1
  have h2 := List.length_take_le k s.atoms
  simp only [List.length_take] at *
  omega
theorem GSc.get {s : Sc} (h : GSc s) {k : Nat} (hk : k < s.atoms.length) : 0 ≤ s.atoms[k] ∧ s.atoms[k] ≤ 5 := h.2 _ (List.getElem_mem hk)
end Go.Ev


namespace Go.Ev
open Go Go.RowKit
theorem PIx.of_mem {α : Type} {es es' : List α} (h1 : es.Nodup) (h2 : es'.Nodup) (h : ∀ x, x ∈ es' ↔ x ∈ es) : ∃ σ τ, PIx σ τ es es' := by
  have hlen : es'.length = es.length := ((List.perm_ext_iff_of_nodup h2 h1).2 h).length_eq
  have f : ∀ k, ∃ j, k < es.length → j < es.length ∧ es'[j]? = es[k]? := by
    intro k
    by_cases hk : k < es.length
    · obtain ⟨j, hj⟩ := List.mem_iff_getElem?.1 ((h es[k]).2 (by simp))
      exact ⟨j, fun _ => ⟨by have := (List.getElem?_eq_some_iff.1 hj).1; omega, by rw [hj]; simp [hk]⟩⟩
    · exact ⟨0, fun h => absurd h hk⟩
  have g : ∀ j, ∃ k, j < es.length → k < es.length ∧ es[k]? = es'[j]? := by
    intro j
    by_cases hj : j < es.length
    · have hj' : j < es'.length := by omega
      obtain ⟨k, hk⟩ := List.mem_iff_getElem?.1 ((h es'[j]).1 (by simp))
      exact ⟨k, fun _ => ⟨(List.getElem?_eq_some_iff.1 hk).1, by rw [hk]; simp [hj']⟩⟩
    · exact ⟨0, fun h => absurd h hj⟩
  refine ⟨fun k => Classical.choose (f k), fun k => Classical.choose (g k), hlen, fun k hk => ?_⟩
  obtain ⟨a1, a2⟩ := Classical.choose_spec (f k) hk
  obtain ⟨b1, b2⟩ := Classical.choose_spec (g k) hk
  obtain ⟨c1, c2⟩ := Classical.choose_spec (g (Classical.choose (f k))) a1
  obtain ⟨d1, d2⟩ := Classical.choose_spec (f (Classical.choose (g k))) b1
  refine ⟨a1, b1, ?_, ?_, a2⟩
  · exact (List.getElem?_inj c1 h1).1 (c2.trans a2)
  · exact (List.getElem?_inj (by rw [hlen]; exact d1) h2).1 (d2.trans b2)
theorem nodup_of_fst {es : List (AV × AV)} (h : (es.map Prod.fst).Nodup) : es.Nodup := (List.pairwise_map.1 h).imp (fun hne e => hne (by rw [e]))
theorem Rd.mps {mu : Mu} {b : Nat} {es fs : List (AV × AV)} (hc : mu[b]? = some (.mp es)) (h1 : (es.map Prod.fst).Nodup) (h2 : (fs.map Prod.fst).Nodup) (hm : ∀ x, x ∈ es ↔ x ∈ fs) (hf : ∀ x, x ∈ es → HF x.1 ∧ HF x.2) : Rd mu (.mp b) (.ims fs) := by
  obtain ⟨σ, τ, hp⟩ := PIx.of_mem (nodup_of_fst h2) (nodup_of_fst h1) hm
  refine .ims _ fs es σ τ hp h2 (.mp b es es hc rfl (fun k x y hx hy => ?_) (fun k x y hx hy => ?_))
  · rw [hx] at hy; cases hy; exact .hf _ (hf x (List.mem_of_getElem? hx)).1
  · rw [hx] at hy; cases hy; exact .hf _ (hf x (List.mem_of_getElem? hx)).2
theorem Rd.mds {mu : Mu} {b : Nat} {es fs : List (AV × AV)} (hc : mu[b]? = some (.md es)) (h1 : (es.map Prod.fst).Nodup) (h2 : (fs.map Prod.fst).Nodup) (hm : ∀ x, x ∈ es ↔ x ∈ fs) (hf : ∀ x, x ∈ es → HF x.1 ∧ HF x.2) : Rd mu (.mp b) (.ims fs) := by
  obtain ⟨σ, τ, hp⟩ := PIx.of_mem (nodup_of_fst h2) (nodup_of_fst h1) hm
  refine .ims _ fs es σ τ hp h2 (.md b es es hc rfl (fun k x y hx hy => ?_) (fun k x y hx hy => ?_))
  · rw [hx] at hy; cases hy; exact .hf _ (hf x (List.mem_of_getElem? hx)).1
  · rw [hx] at hy; cases hy; exact .hf _ (hf x (List.mem_of_getElem? hx)).2
end Go.Ev


namespace Go.Ev
open Go Go.RowKit
def MRel (G : Gh) (h : Array Obj) : Option AV → FrameMode → Prop
  | none, u => u = .returning
  | some x, u => ∃ v, u = .panicking [{ v, recovered := false }] ∧ VRel G h x v
def SoundD (P : Program) (g : FuncId) (args : List AV) (mu : Mu) (m : Option AV) (R : Mu → Prop) : Prop := Callable P g ∧
  ∀ (G : Gh) (w : World) (vs : Array Value) (u : FrameMode), Sim G mu w.heap → ArgsRel G w.heap args vs → MRel G w.heap m u →
    CallsDIn Fence.wide 0 P g vs u w fun e u' w' => ∃ v G' mu', e = .returned v ∧ settle u' = .returning ∧ Stp G mu w G' mu' w' ∧ R mu'
def PostD (P : Program) (rs : List ResultVar) (g : FuncId) (dargs : List AV) (R : AEnd → Mu → Prop) : AExit → St → Prop
  | .normal, st | .ret, st => SoundD P g dargs st.mu none fun mu' => OptK (resultsA P ⟨st.tm, mu'⟩ rs) fun r => R (.ret r) mu'
  | .pan v, st => SoundD P g dargs st.mu (some v) fun mu' => OptK (resultsA P ⟨st.tm, mu'⟩ rs) fun r => R (.ret r) mu'
  | .exit _, _ => False
def lastD (ops : Array Oper) : Option (List Oper × Oper) :=
  match ops.toList.reverse with
  | o :: r => match o.op, o.guard, o.dst with | .defer _, none, none => some (r.reverse, o) | _, _, _ => none
  | [] => none
theorem lastD_some {ops : Array Oper} {pre : List Oper} {o : Oper} (h : lastD ops = some (pre, o)) : ops.toList = pre ++ [o] ∧ o.guard = none ∧ o.dst = none := by
  unfold lastD at h
  split at h
  · rename_i o' r hr
    split at h
    · rename_i c h1 h2 h3
      simp only [Option.some.injEq, Prod.mk.injEq] at h
      obtain ⟨rfl, rfl⟩ := h
      refine ⟨?_, h2, h3⟩
      have := congrArg List.reverse hr
      simpa using this
    · exact absurd h (by simp)
  · exact absurd h (by simp)
def DeferGo (P : Program) (pl : Pol) (rs : List ResultVar) (R : AEnd → Mu → Prop) (o : Oper) (rest : Code) (st : St) : Prop :=
  ∃ x args ats g first caps, o.op = .defer { callee := .value x, args, argTypes := ats } ∧ st.ev x = .fn (.func g) first caps ∧ Callable P g ∧ awp P pl rest (PostD P rs g (first ++ evs st.ev args.toList ++ caps) R) st
def awpD (P : Program) (pl : Pol) (rs : List ResultVar) (R : AEnd → Mu → Prop) : Code → St → Prop
  | .seq (.region _ ops false) rest, st => match lastD ops with
    | some (pre, o) => awpS P pl false ops pre (fun st => DeferGo P pl rs R o rest st) (fun v st => R (.pan v) st.mu) st
    | none => awpS P pl false ops ops.toList (fun st => awpD P pl rs R rest st) (fun v st => R (.pan v) st.mu) st
  | _, _ => False
def Ro.bare : Ro := ⟨none, [], false, []⟩
theorem Rel.bare {G0 : Gh} {mu0 : Mu} {w0 : World} {n : Nat} {G : Gh} {st : St} {a : Act} {w : World} (r : Rel Ro.bare G0 mu0 w0 n G st a w) : a.defers = [] := by
  obtain ⟨Ds, ⟨h1, h2⟩, _⟩ := r.df rfl
  have : Ds = [] := h2 rfl
  subst this
  simpa [Ro.bare] using h1
def REnd (G : Gh) (mu : Mu) (w : World) (R : AEnd → Mu → Prop) (e : Ending) (w' : World) : Prop := ∃ G' mu', Stp G mu w G' mu' w' ∧
      ((∃ r v, R (.ret r) mu' ∧ e = .returned v ∧ VRel G' w'.heap r v) ∨ (∃ r v, R (.pan r) mu' ∧ e = .panicked [{ v, recovered := false }] ∧ VRel G' w'.heap r v))
theorem awpD_sound {P : Program} {pl : Pol} {fn : Func} {R : AEnd → Mu → Prop} {G0 : Gh} {mu0 : Mu} {w0 : World} (s0 : Sim G0 mu0 w0.heap) : ∀ (c : Code) (st : St) (a : Act) (w : World) (G : Gh), Rel Ro.bare G0 mu0 w0 fn.ntmps G st a w →
    dOkC fn.ntmps c = true → awpD P pl fn.results.toList R c st → c.wpIn (WF Ro.bare) 0 P (bodyPostM Fence.wide 0 P fn (REnd G0 mu0 w0 R)) a w := by
  intro c
  induction c with
  | seq x y _ ih =>
    intro st a w G r hd h
    cases x with
    | region id ops draw =>
      cases draw with
      | true => exact h.elim
      | false =>
        simp only [dOkC, Bool.and_eq_true] at hd
        have hdl : (ops.toList.all fun o => dOk fn.ntmps o.dst) = true := hd.1
        have hpan : ∀ v (st : St) a w G u, R (.pan v) st.mu → Rel Ro.bare G0 mu0 w0 fn.ntmps G st a w → VRel G w.heap v u → LeavesInM Fence.wide 0 P fn a.tmps (REnd G0 mu0 w0 R) a.defers (.panicking [{ v := u, recovered := false }]) w := by
          intro v st a w G u hq r hv
          rw [r.bare]
          exact ⟨G, st.mu, r.stp, .inr ⟨v, u, hq, rfl, hv⟩⟩
        cases hl : lastD ops with
        | none =>
          simp only [awpD, hl] at h
          refine wpIn_seq (wpIn_region_list ?_)
          refine awpS_sound s0 ?_ ?_ ops.toList st a w G r hdl h
          · intro st a w G hq r
            exact ih st a w G r hd.2 hq
          · intro v st a w G u hq r hv
            exact hpan v st a w G u hq r hv
        | some q =>
          obtain ⟨pre, o⟩ := q
          simp only [awpD, hl] at h
          obtain ⟨ho, hg, hdst⟩ := lastD_some hl
          refine wpIn_seq (wpIn_region_list ?_)
          rw [ho] at hdl ⊢
          rw [List.all_append, Bool.and_eq_true] at hdl
          refine awpS_soundL s0 ?_ ?_ pre st a w G r hdl.1 h
          · intro st a w G hq r
            obtain ⟨xo, args, ats, g, first, caps, hop, hx, hcal, hrest⟩ := hq
            obtain ⟨od, oop, oty, opos, oaf, ogd⟩ := o
            simp only at hop hg hdst
            subst hop; subst hg; subst hdst
            simp only [wpListIn, Region.wanted, if_true]
            have rf := r.ev xo
            rw [hx] at rf
            generalize hq : a.eval xo = fv at rf
            cases rf with
            | fn _ _ _ fvs cvs hn hm hv hw =>
            have ra := ArgsRel.append3 ⟨hn, hv⟩ (evs_rel r.ev args) ⟨hm, hw⟩
            have hrun : ((({ dst := none, op := .defer { callee := .value xo, args, argTypes := ats }, type := oty, pos := opos, after := oaf, guard := none } : Oper).semAt (WF Ro.bare).round a.eval).run P w) =
                .ok (.defer { target := .fn (.func g) cvs, args := fvs ++ args.map a.eval }) w := by
              rw [show (WF Ro.bare).round = none from rfl, Oper.semAt_none]
              simp only [execOp, resolve, Sem.run_bind, Sem.run_pure, Result.andThen_ok, hq, Deferred.ofValue]
            refine ⟨fun _ _ => trivial, ?_⟩
            rw [hrun, Oper.uponIn_defer]
            rw [r.bare]
            let d : Deferred := { target := .fn (.func g) cvs, args := fvs ++ args.map a.eval }
            let dargs := first ++ evs st.ev args.toList ++ caps
            let dvs := fvs ++ args.map a.eval ++ cvs
            let ro : Ro := ⟨none, [d], true, dargs.zip dvs.toList⟩
            have hkp : ∀ {G : Gh} {h : Array Obj}, (∀ p, p ∈ ro.kp → VRel G h p.1 p.2) ↔ ArgsRel G h dargs dvs := by
              intro G h
              constructor
              · intro hk
                refine ⟨ra.1, fun k x hx => ?_⟩
                have hlt : k < dvs.size := by rw [ra.1]; exact (List.getElem?_eq_some_iff.1 hx).1
                have hv : dvs.toList[k]? = some (dvs.getD k undef) := by simp [Array.getD_eq_getD_getElem?, hlt]
                have : (x, dvs.getD k undef) ∈ dargs.zip dvs.toList := List.mem_of_getElem? (i := k) (by rw [List.getElem?_zip_eq_some]; exact ⟨hx, hv⟩)
                exact hk _ this
              · intro ha p hp
                obtain ⟨k, hk⟩ := List.mem_iff_getElem?.1 hp
                rw [List.getElem?_zip_eq_some] at hk
                have := ha.2 k p.1 hk.1
                have e : dvs.getD k undef = p.2 := by
                  have h2 := hk.2
                  rw [Array.getElem?_toList] at h2
                  simp [Array.getD_eq_getD_getElem?, h2]
                rwa [e] at this
            show y.wpIn (WF Ro.bare) 0 P _ _ _
            refine awp_sound (pl := pl) (n := fn.ntmps) y (ro := ro) s0 _ _ st _ w G ?_ ⟨r.tm, fun _ => Dfs.nil _ _ _ _ _ _, r.size, r.stp, hkp.2 ra⟩ hd.2 (.inl ⟨rfl, rfl⟩) hrest
            intro ae e st a w' G' hq r he
            obtain ⟨Ds, g1, g2, g3, r', hv'⟩ := r.left rfl
            have key : ∀ (m : Option AV) (u : FrameMode), u ≠ .run → MRel G' (putAll Ds w').heap m u → SoundD P g dargs st.mu m (fun mu' => OptK (resultsA P ⟨st.tm, mu'⟩ fn.results.toList) fun r => R (.ret r) mu') →
                LeavesInM Fence.wide 0 P fn a.tmps (REnd G0 mu0 w0 R) a.defers u w' := by
              intro m u hu hm hs
              rw [g1]
              refine leaves_marks hu Ds w' g2 g3 ?_
              refine ⟨hu, .inr ⟨fun h => by simp [Fence.wide] at h, .func g, cvs, g, dvs, rfl, ?_, fun _ _ => trivial, ?_⟩⟩
              · simp only [invoke, d]
                exact hcal _ _
              · refine (hs.2 G' (putAll Ds w') dvs u r'.stp.sim (hkp.1 r'.kp) hm).mono ?_
                intro e u' w'' ⟨v, G2, mu2, he, hset, hst, z, hz, hR⟩
                subst he
                simp only
                rw [hset]
                have r2 := r'.put (d := none) s0 hst (.any undef) rfl
                obtain ⟨u2, k1, k2⟩ := resultsA_sound (fn := fn) r2 hz
                exact ⟨u2, k1, G2, mu2, r2.stp, .inl ⟨z, u2, hR, rfl, k2⟩⟩
            cases ae <;> cases e <;> simp only [ERel] at he
            · exact key none .returning (by simp) rfl hq
            · exact hq.elim
            · exact key none .returning (by simp) rfl hq
            · obtain ⟨v, rfl, hv⟩ := he
              exact key (some _) (.panicking _) (by simp) ⟨v, rfl, hv' _ _ hv⟩ hq
          · intro v st a w G u hq r hv
            exact hpan v st a w G u hq r hv
    | _ => exact h.elim
  | _ => intro st a w G r hd h; exact h.elim
theorem Sound.of_awpD {P : Program} {f : FuncId} {fn : Func} {c : Code} {pl : Pol} {args : List AV} {mu : Mu} {R : AEnd → Mu → Prop} (hcal : Callable P f) (hf : P.funcs[f]? = some fn) (hb : fn.body = some c)
    (hn : args.length ≤ fn.ntmps) (hd : dOkC fn.ntmps c = true) (h : awpD P pl fn.results.toList R c (st0 args mu)) : Sound P f args mu R := by
  refine ⟨hcal, fun G w vs s ra => ?_⟩
  refine (callsIn_wide (n := 0)).1 (callsIn_of_wp_marks hf hb trivial ?_)
  refine awpD_sound (pl := pl) s c (st0 args mu) _ w G ?_ hd h
  exact Rel.start s ra hn
theorem SoundD.of_awp {P : Program} {f : FuncId} {fn : Func} {id : Nat} {o : Oper} {rest : Code} {pl : Pol} {args : List AV} {mu : Mu} {m : Option AV} {R : Mu → Prop} (hcal : Callable P f) (hf : P.funcs[f]? = some fn)
    (hb : fn.body = some (.seq (.region id #[o] false) rest)) (ho : ∃ d ty pos ats, o = { dst := d, op := .call { callee := .builtin .recover, args := #[], argTypes := ats }, type := ty, pos := pos, after := #[], guard := none })
    (hn : args.length ≤ fn.ntmps) (hd : dOkC fn.ntmps (.seq (.region id #[o] false) rest) = true) (hr : noRF rest = true)
    (h : awp P pl rest (PostQ P fn.results.toList fun e mu' => ∃ r, e = .ret r ∧ R mu') ((st0 args mu).put o.dst (m.getD (.sc .nilIface)) mu)) : SoundD P f args mu m R := by
  obtain ⟨od, oty, opos, oats, rfl⟩ := ho
  refine ⟨hcal, fun G w vs u s ra hm => ?_⟩
  refine callsDIn_of_wpSIn hf hb trivial fun c₀ cs hc => ?_
  have r0 : Rel Ro.bare G mu w fn.ntmps G (st0 args mu) { tmps := vs ++ Array.replicate (fn.ntmps - vs.size) undef, defers := [] } w := Rel.start s ra hn
  simp only [dOkC, Bool.and_eq_true] at hd
  have hdo : dOk fn.ntmps od = true := by have := hd.1; simpa using this
  refine wpSIn_seq (wpSIn_region ?_)
  have go : ∀ (cs' : List Frame) (v : Value) (u' : FrameMode), cs' = { c₀ with mode := u' } :: cs → settle u' = .returning → VRel G w.heap (m.getD (.sc .nilIface)) v →
      rest.wpSIn Fence.wide 0 P (bodyPostS P fn c₀ cs fun e u' w' => ∃ v G' mu', e = .returned v ∧ settle u' = .returning ∧ Stp G mu w G' mu' w' ∧ R mu')
        (({ tmps := vs ++ Array.replicate (fn.ntmps - vs.size) undef, defers := [] } : Act).put od v) cs' w := by
    intro cs' v u' hcs hset hv
    refine wpSIn_of_wpIn rfl ?_
    refine awp_sound (pl := pl) (n := fn.ntmps) rest (ro := Ro.bare) s _ _ _ _ w G ?_ (r0.put s (Stp.refl s) hv hdo) hd.2 (.inr hr) h
    intro ae e st a w' G' hq r he
    cases ae <;> cases e <;> simp only [ERel] at he
    · obtain ⟨z, hz, z', _, hR⟩ := hq
      obtain ⟨u2, k1, k2⟩ := resultsA_sound (fn := fn) r hz
      exact ⟨r.bare, u', hcs, u2, k1, u2, G', st.mu, rfl, hset, r.stp, hR⟩
    · exact hq.elim
    · obtain ⟨z, hz, z', _, hR⟩ := hq
      obtain ⟨u2, k1, k2⟩ := resultsA_sound (fn := fn) r hz
      exact ⟨r.bare, u', hcs, u2, k1, u2, G', st.mu, rfl, hset, r.stp, hR⟩
    · obtain ⟨z, hz, _⟩ := hq
      exact absurd hz (by simp)
  have hrun : ∀ ev : Operand → Value, (execOp ev { dst := od, op := .call { callee := .builtin .recover, args := #[], argTypes := oats }, type := oty, pos := opos, after := #[], guard := none }).run P w = .ok .recover w := by
    intro ev
    simp [execOp, resolve, invoke, builtin]
  simp only [List.size_toArray, List.length_cons, List.length_nil, List.range, List.range.loop, wpOpsSIn]
  refine ⟨fun _ _ => trivial, ?_⟩
  simp only [Region.wanted, if_true, hrun]
  cases m with
  | none =>
    have hu : u = .returning := hm
    have hrec : recoverD (c₀ :: cs) = none := by simp [recoverD, hc, hu]
    rw [hrec]
    exact go _ .nilIface .returning (by rw [← hu, ← hc]) rfl (.sc _ rfl)
  | some x =>
    obtain ⟨v, hu, hv⟩ := hm
    have hrec : recoverD (c₀ :: cs) = some (v, { c₀ with mode := .panicking [{ v, recovered := true }] } :: cs) := by simp [recoverD, hc, hu]
    rw [hrec]
    exact go _ v (.panicking [{ v, recovered := true }]) rfl rfl hv
end Go.Ev


namespace Go.Ev
open Go Go.RowKit
def EndR (G : Gh) (h : Array Obj) : AEnd → Ending → Prop
  | .ret r, e => ∃ v, e = .returned v ∧ VRel G h r v
  | .pan r, e => ∃ v, e = .panicked [{ v, recovered := false }] ∧ VRel G h r v
def SoundG (P : Program) (f : FuncId) (args : List AV) (V : AEnd → Prop) : Prop := Callable P f ∧
  ∀ (imm : Nat → Prop) (w : World) (vs : Array Value), Sim ⟨imm, []⟩ [] w.heap → ArgsRel ⟨imm, []⟩ w.heap args vs →
    Calls P f vs w fun e w' => ∃ imm' a, V a ∧ EndR ⟨imm', []⟩ w'.heap a e ∧ (∀ b, imm b → imm' b) ∧ (∀ b, imm' b → b < w'.heap.size ∧ (imm b ∨ w.heap.size ≤ b)) ∧ BelowD w.heap.size w w'
abbrev SoundX (P : Program) (f : FuncId) (args : List AV) (e : AEnd) : Prop := SoundG P f args (· = e)
theorem SoundG.mono {P : Program} {f : FuncId} {args : List AV} {V V' : AEnd → Prop} (h : SoundG P f args V) (k : ∀ e, V e → V' e) : SoundG P f args V' :=
  ⟨h.1, fun imm w vs hi ra => (h.2 imm w vs hi ra).mono fun e w' ⟨imm', a, hv, hr⟩ => ⟨imm', a, k a hv, hr⟩⟩
theorem SoundX.toP {P : Program} {f : FuncId} {args : List AV} {r : AV} (h : SoundX P f args (.ret r)) : SoundP P f args r := by
  refine ⟨h.1, fun imm w vs hi ra => (h.2 imm w vs hi ra).mono fun e w' ⟨imm', a, hv, hr, h1, h2, h3⟩ => ?_⟩
  subst hv
  obtain ⟨v, he, hv⟩ := hr
  exact ⟨imm', v, he, h1, h2, h3, hv⟩
theorem pure_step {G : Gh} {mu : Mu} {w : World} (s : Sim G mu w.heap) (imm imm' : Nat → Prop) (w' : World) (h1 : ∀ b, G.imm b → imm b) (h2 : ∀ b, imm' b → b < w'.heap.size ∧ (imm b ∨ w.heap.size ≤ b)) (hb : BelowD w.heap.size w w') (h3 : ∀ b, imm b → G.imm b ∨ Live G mu b) :
      Stp G mu w ⟨fun b => G.imm b ∨ (imm' b ∧ w.heap.size ≤ b), G.blk⟩ mu w' := by
    have hle : G.le ⟨fun b => G.imm b ∨ (imm' b ∧ w.heap.size ≤ b), G.blk⟩ := ⟨fun b h => .inl h, fun _ _ h => h⟩
    have he : Ext G w.heap w'.heap := ⟨hb.size, fun b hi => hb.block b (s.imm b hi)⟩
    have key : ∀ b, Live G mu b → w'.heap[b]? = w.heap[b]? := fun b hl => hb.block b (s.livesize hl)
    refine ⟨hle, ⟨s.len, ?_, ?_, ?_, s.inj, s.tab.mono hle.imm (fun b hi => hb.block b (s.imm b hi))⟩, fun b hb' _ => hb.block b hb', hb.size, fun b h => .inl h, fun b h => h.elim .inl (fun e => .inr (.inr e.2)), hb.tape, hb.os, hb.output, hb.drawn⟩
    · intro b hi
      rcases hi with hi | hi
      · exact Nat.lt_of_lt_of_le (s.imm b hi) hb.size
      · exact (h2 b hi.1).1
    · intro i c blk tot hc hd hk
      obtain ⟨o', g1, g2⟩ := s.obj i c blk tot hc hd hk
      exact ⟨o', by rw [key blk ⟨i, _, tot, hc, hd, hk⟩]; exact g1, g2.mono hle he⟩
    · intro i c blk tot hc hd hk hi
      rcases hi with hi | hi
      · exact s.live i c blk tot hc hd hk hi
      · have := s.livesize ⟨i, c, tot, hc, hd, hk⟩; omega
theorem EndR.le {G G' : Gh} {h : Array Obj} (hg : G.le G') {a : AEnd} {e : Ending} (r : EndR G h a e) : EndR G' h a e := by
  cases a with
  | ret x => obtain ⟨v, h1, h2⟩ := r; exact ⟨v, h1, h2.le hg⟩
  | pan x => obtain ⟨v, h1, h2⟩ := r; exact ⟨v, h1, h2.le hg⟩
theorem SoundG.toSound {P : Program} {f : FuncId} {args args' : List AV} {V : AEnd → Prop} (mu : Mu) (h : SoundG P f args' V) (hw : WKs args args') : Sound P f args mu fun e m => V e ∧ m = mu := by
  refine ⟨h.1, fun G w vs s ra => ?_⟩
  obtain ⟨hl, hg⟩ := hw.get
  have ra' : ArgsRel ⟨G.imm, []⟩ w.heap args' vs := by
    refine ⟨by rw [ra.1, hl], fun k y hy => ?_⟩
    have hk : k < args'.length := (List.getElem?_eq_some_iff.1 hy).1
    have hx : args[k]? = some (args[k]'(by omega)) := by rw [List.getElem?_eq_getElem]
    exact hg k _ y hx hy G w.heap _ (ra.2 k _ hx)
  refine (h.2 G.imm w vs s.bare ra').mono fun e w' ⟨imm', a, hv, hr, h1, h2, hb⟩ => ?_
  have st := pure_step s G.imm imm' w' (fun b h => h) h2 hb (fun b h => .inl h)
  have hr' : EndR ⟨fun b => G.imm b ∨ (imm' b ∧ w.heap.size ≤ b), G.blk⟩ w'.heap a e := hr.le ⟨fun b hi => by
    rcases (h2 b hi).2 with h | h
    · exact .inl h
    · exact .inr ⟨hi, h⟩, fun i x h => by simp at h⟩
  refine ⟨_, mu, st, ?_⟩
  cases a with
  | ret x => obtain ⟨v, h1, h2⟩ := hr'; exact .inl ⟨x, v, ⟨hv, rfl⟩, h1, h2⟩
  | pan x => obtain ⟨v, h1, h2⟩ := hr'; exact .inr ⟨x, v, ⟨hv, rfl⟩, h1, h2⟩
def RdE (mu : Mu) : AEnd → AEnd → Prop
  | .ret x, .ret y => Rd mu x y
  | .pan x, .pan y => Rd mu x y
  | _, _ => False
theorem SoundG.of_sound {P : Program} {f : FuncId} {args : List AV} {V : AEnd → Prop} (h : Sound P f args [] fun e mu' => ∃ e', V e' ∧ RdE mu' e e') : SoundG P f args V := by
  obtain ⟨hcal, h⟩ := h
  refine ⟨hcal, fun imm w vs hi ra => ?_⟩
  refine (h ⟨imm, []⟩ w vs hi ra).mono fun e w' ⟨G', mu', st, hR⟩ => ?_
  have nolive : ∀ b, ¬ Live ⟨imm, []⟩ [] b := fun b ⟨i, c, t, hc, _⟩ => by simp at hc
  have fin : ∀ a, V a → EndR ⟨fun b => G'.imm b ∨ Live G' mu' b, []⟩ w'.heap a e → ∃ imm' a, V a ∧ EndR ⟨imm', []⟩ w'.heap a e ∧ (∀ b, imm b → imm' b) ∧ (∀ b, imm' b → b < w'.heap.size ∧ (imm b ∨ w.heap.size ≤ b)) ∧ BelowD w.heap.size w w' := by
    intro a hv hr
    refine ⟨fun b => G'.imm b ∨ Live G' mu' b, a, hv, hr, fun b hb => .inl (st.le.imm b hb), fun b hb => ?_, ⟨st.os, st.tape, st.output, st.size, fun k hk => st.keep k hk (nolive k)⟩, st.drawn⟩
    rcases hb with hb | hb
    · refine ⟨st.sim.imm b hb, ?_⟩
      rcases st.inew b hb with h | h | h
      · exact .inl h
      · exact absurd h (nolive b)
      · exact .inr h
    · refine ⟨st.sim.livesize hb, ?_⟩
      rcases st.live b hb with h | h
      · exact absurd h (nolive b)
      · exact .inr h
  rcases hR with ⟨r', v, ⟨e', hv, hrd⟩, rfl, hu⟩ | ⟨r', v, ⟨e', hv, hrd⟩, rfl, hu⟩
  · cases e' with
    | ret y => exact fin _ hv ⟨v, rfl, hrd.sound st.sim hu⟩
    | pan y => exact hrd.elim
  · cases e' with
    | ret y => exact hrd.elim
    | pan y => exact fin _ hv ⟨v, rfl, hrd.sound st.sim hu⟩
@[go_sem] theorem RdE_ret (mu : Mu) (x y : AV) : RdE mu (.ret x) (.ret y) = Rd mu x y := eqS rfl
@[go_sem] theorem RdE_pan (mu : Mu) (x y : AV) : RdE mu (.pan x) (.pan y) = Rd mu x y := eqS rfl
theorem CallStep.gen {P : Program} {mu : Mu} {g : FuncId} {first caps args args' : List AV} {V : AEnd → Prop} {K Kp : AV → Mu → Prop} (h : SoundG P g args' V) (hw : WKs (first ++ args ++ caps) args') (kr : ∀ r, V (.ret r) → K r mu) (kp : ∀ r, V (.pan r) → Kp r mu) :
    CallStep P false mu (.fn (.func g) first caps) args K Kp :=
  .inr ⟨rfl, .inl ⟨g, first, caps, _, rfl, h.toSound mu hw, fun r m ⟨hv, hm⟩ => by subst hm; exact kr r hv, fun r m ⟨hv, hm⟩ => by subst hm; exact kp r hv⟩⟩
theorem CallStep.eff0 {P : Program} {mu : Mu} {g : FuncId} {args : List AV} {R : AEnd → Mu → Prop} {K Kp : AV → Mu → Prop} (hs : Sound P g args mu R) (k : ∀ r m, R (.ret r) m → K r m) (kp : ∀ r m, R (.pan r) m → Kp r m) :
    CallStep P false mu (.fn (.func g) [] []) args K Kp :=
  .inr ⟨rfl, .inl ⟨g, [], [], R, rfl, by simpa using hs, k, kp⟩⟩
theorem CallStep.pans {P : Program} {mu : Mu} {g : FuncId} {first caps args args' : List AV} {v : AV} {K Kp : AV → Mu → Prop} (h : SoundX P g args' (.pan v)) (hw : WKs (first ++ args ++ caps) args') (kp : Kp v mu) :
    CallStep P false mu (.fn (.func g) first caps) args K Kp := .gen h hw (fun r e => by cases e) (fun r e => by cases e; exact kp)
theorem Sound.hid {P : Program} {f : FuncId} {args : List AV} {mu : Mu} {R : AEnd → Mu → Prop} {i : Nat} {c : Cell} (hc : mu[i]? = some c) (hd : c ≠ .dead) (h : Sound P f args (mu.set i .dead) R) :
    Sound P f args mu fun e m => ∃ m', R e m' ∧ m'[i]? = some .dead ∧ m = m'.set i c := by
  refine ⟨h.1, fun G w vs s ra => ?_⟩
  have hj : i < G.blk.length := by rw [s.len]; exact (List.getElem?_eq_some_iff.1 hc).1
  refine (h.2 G w vs (s.hid i) ra).mono fun e w' ⟨G', m', t, hR⟩ => ?_
  obtain ⟨g1, g2, g3⟩ := t.unhid s hc hd (b := (G.blk[i]'hj).1) (t := (G.blk[i]'hj).2) (by simp [hj])
  refine ⟨G', m'.set i c, g3, ?_⟩
  rcases hR with ⟨r, v, hr, he, hv⟩ | ⟨r, v, hr, he, hv⟩
  · exact .inl ⟨r, v, ⟨m', hr, g1, rfl⟩, he, hv⟩
  · exact .inr ⟨r, v, ⟨m', hr, g1, rfl⟩, he, hv⟩
theorem Sound.monoR {P : Program} {f : FuncId} {args : List AV} {mu : Mu} {R R' : AEnd → Mu → Prop} (h : Sound P f args mu R) (k : ∀ e m, R e m → R' e m) : Sound P f args mu R' := by
  refine ⟨h.1, fun G w vs s ra => (h.2 G w vs s ra).mono fun e w' ⟨G', m', t, hR⟩ => ⟨G', m', t, ?_⟩⟩
  rcases hR with ⟨r, v, hr, he, hv⟩ | ⟨r, v, hr, he, hv⟩
  · exact .inl ⟨r, v, k _ _ hr, he, hv⟩
  · exact .inr ⟨r, v, k _ _ hr, he, hv⟩
attribute [go_sem] lastD
def lastK (P : Program) (pl : Pol) (rs : List ResultVar) (R : AEnd → Mu → Prop) (ops : Array Oper) (rest : Code) (st : St) : Option (List Oper × Oper) → Prop
  | some (pre, o) => awpS P pl false ops pre (fun st => DeferGo P pl rs R o rest st) (fun v st => R (.pan v) st.mu) st
  | none => awpS P pl false ops ops.toList (fun st => awpD P pl rs R rest st) (fun v st => R (.pan v) st.mu) st
@[go_sem ↓] theorem awpD_seq {P : Program} {pl : Pol} {rs : List ResultVar} {R : AEnd → Mu → Prop} {id : Nat} {ops : Array Oper} {rest : Code} {st : St} :
    awpD P pl rs R (.seq (.region id ops false) rest) st = lastK P pl rs R ops rest st (lastD ops) := by
  cases h : lastD ops <;> simp only [awpD, lastK, h]
@[go_sem] theorem lastK_some {P : Program} {pl : Pol} {rs : List ResultVar} {R : AEnd → Mu → Prop} {ops : Array Oper} {rest : Code} {st : St} {pre : List Oper} {o : Oper} :
    lastK P pl rs R ops rest st (some (pre, o)) = awpS P pl false ops pre (fun st => DeferGo P pl rs R o rest st) (fun v st => R (.pan v) st.mu) st := eqS rfl
@[go_sem] theorem lastK_none {P : Program} {pl : Pol} {rs : List ResultVar} {R : AEnd → Mu → Prop} {ops : Array Oper} {rest : Code} {st : St} :
    lastK P pl rs R ops rest st none = awpS P pl false ops ops.toList (fun st => awpD P pl rs R rest st) (fun v st => R (.pan v) st.mu) st := eqS rfl
theorem DeferGo.intro {P : Program} {pl : Pol} {rs : List ResultVar} {R : AEnd → Mu → Prop} {x : Operand} {args : Array Operand} {ats : Array TypeId} {ty : TypeId} {pos : String} {af : Array Edge} {gd : Option (Nat × Bool)} {d : Option Tmp} {rest : Code} {st : St} {g : FuncId} {first caps : List AV}
    (hx : st.ev x = .fn (.func g) first caps) (hcal : Callable P g) (h : awp P pl rest (PostD P rs g (first ++ evs st.ev args.toList ++ caps) R) st) :
    DeferGo P pl rs R { dst := d, op := .defer { callee := .value x, args := args, argTypes := ats }, type := ty, pos := pos, after := af, guard := gd } rest st :=
  ⟨x, args, ats, g, first, caps, rfl, hx, hcal, h⟩
@[go_sem] theorem PostD_normal {P : Program} {rs : List ResultVar} {g : FuncId} {dargs : List AV} {R : AEnd → Mu → Prop} {st : St} : PostD P rs g dargs R .normal st = SoundD P g dargs st.mu none fun mu' => OptK (resultsA P ⟨st.tm, mu'⟩ rs) fun r => R (.ret r) mu' := eqS rfl
@[go_sem] theorem PostD_ret {P : Program} {rs : List ResultVar} {g : FuncId} {dargs : List AV} {R : AEnd → Mu → Prop} {st : St} : PostD P rs g dargs R .ret st = SoundD P g dargs st.mu none fun mu' => OptK (resultsA P ⟨st.tm, mu'⟩ rs) fun r => R (.ret r) mu' := eqS rfl
@[go_sem] theorem PostD_pan {P : Program} {rs : List ResultVar} {g : FuncId} {dargs : List AV} {R : AEnd → Mu → Prop} {st : St} {v : AV} : PostD P rs g dargs R (.pan v) st = SoundD P g dargs st.mu (some v) fun mu' => OptK (resultsA P ⟨st.tm, mu'⟩ rs) fun r => R (.ret r) mu' := eqS rfl
theorem SoundD.mono {P : Program} {g : FuncId} {args : List AV} {mu : Mu} {m : Option AV} {R R' : Mu → Prop} (h : SoundD P g args mu m R) (k : ∀ mu', R mu' → R' mu') : SoundD P g args mu m R' :=
  ⟨h.1, fun G w vs u s ra hm => (h.2 G w vs u s ra hm).mono fun e u' w' ⟨v, G', mu', h1, h2, h3, h4⟩ => ⟨v, G', mu', h1, h2, h3, k _ h4⟩⟩
@[go_sem] theorem ofV_pnone : ofV (.pointer none) = .sc (.pointer none) := eqS rfl
@[go_sem] theorem ofV_mnone : ofV (.map none) = .sc (.map none) := eqS rfl
theorem Rd.aggs {mu : Mu} {xs ys : List AV} (h : Rds mu xs ys) : Rd mu (.agg xs) (.agg ys) := .agg _ _ h.get.1 h.get.2
end Go.Ev


namespace Go.Proofs.YtcfopdccdeeleaaGreatDoor.Y1
open Go Go.Ev Go.Proofs
inductive Nd where
  | mk (op : Int) (name : ByteArray) (n : Int) (kids : List Nd) (pos : Int)
def Nd.op : Nd → Int | .mk o _ _ _ _ => o
def Nd.name : Nd → ByteArray | .mk _ s _ _ _ => s
def Nd.n : Nd → Int | .mk _ _ n _ _ => n
def Nd.kids : Nd → List Nd | .mk _ _ _ ks _ => ks
def Nd.pos : Nd → Int | .mk _ _ _ _ p => p
abbrev aS (s : ByteArray) : AV := .sc (.string s)
mutual
def cNd : Nd → List AV
  | .mk op nm n ks p => [aI op, aS nm, aI n, .lst false (cNds ks), aI p]
def cNds : List Nd → List (List AV)
  | [] => []
  | k :: ks => cNd k :: cNds ks
end
theorem cNds_map : ∀ ks : List Nd, cNds ks = ks.map cNd
  | [] => by simp [cNds]
  | k :: ks => by simp [cNds, cNds_map ks]
theorem cNd_eq (n : Nd) : cNd n = [aI n.op, aS n.name, aI n.n, .lst false (n.kids.map cNd), aI n.pos] := by
  obtain ⟨op, nm, k, ks, p⟩ := n
  simp [cNd, cNds_map, Nd.op, Nd.name, Nd.n, Nd.kids, Nd.pos]
@[go_sem] theorem cNd_len (n : Nd) : (cNd n).length = 5 := by rw [cNd_eq]; rfl
@[go_sem] theorem cNd_take (n : Nd) : (cNd n).take 5 = cNd n := List.take_of_length_le (by rw [cNd_len]; exact Nat.le_refl _)
@[go_sem] theorem cNd_one (n : Nd) : (cNd n).all AV.one = true := by rw [cNd_eq]; rfl
@[go_sem] theorem cNd_ones (n : Nd) : (∀ x, x ∈ cNd n → x.one = true) = True := eq_true fun x hx => by have := List.all_eq_true.1 (cNd_one n) x hx; simpa using this
@[go_sem] theorem cNd_get0 (n : Nd) : (cNd n)[0]? = some (aI n.op) := by rw [cNd_eq]; rfl
@[go_sem] theorem cNd_get1 (n : Nd) : (cNd n)[1]? = some (aS n.name) := by rw [cNd_eq]; rfl
@[go_sem] theorem cNd_get2 (n : Nd) : (cNd n)[2]? = some (aI n.n) := by rw [cNd_eq]; rfl
@[go_sem] theorem cNd_get3 (n : Nd) : (cNd n)[3]? = some (.lst false (n.kids.map cNd)) := by rw [cNd_eq]; rfl
@[go_sem] theorem cNd_get4 (n : Nd) : (cNd n)[4]? = some (aI n.pos) := by rw [cNd_eq]; rfl
@[go_sem] theorem cNd_f0 (n : Nd) : (cNd n).take 1 = [aI n.op] := by rw [cNd_eq]; rfl
@[go_sem] theorem cNd_f1 (n : Nd) : ((cNd n).drop 1).take 1 = [aS n.name] := by rw [cNd_eq]; rfl
@[go_sem] theorem cNd_f1t (n : Nd) : (cNd n).tail.take 1 = [aS n.name] := by rw [cNd_eq]; rfl
@[go_sem] theorem cNd_f2 (n : Nd) : ((cNd n).drop 2).take 1 = [aI n.n] := by rw [cNd_eq]; rfl
@[go_sem] theorem cNd_f3 (n : Nd) : ((cNd n).drop 3).take 1 = [.lst false (n.kids.map cNd)] := by rw [cNd_eq]; rfl
@[go_sem] theorem cNd_f4 (n : Nd) : ((cNd n).drop 4).take 1 = [aI n.pos] := by rw [cNd_eq]; rfl
@[go_sem high] theorem put_cNd (z : List AV) (o : Nat) (n : Nd) : putCells z o (cNd n) = z.take o ++ (cNd n ++ z.drop (o + 5)) := by
  rw [cNd_eq]; simp [putCells]
abbrev eNd (n : Nd) : AV := .agg (cNd n)
abbrev lNd (ks : List Nd) : AV := .lst false (ks.map cNd)
mutual
theorem hf_cNd : ∀ (n : Nd), ∀ c, c ∈ cNd n → HF c
  | .mk op nm n ks p => by
    intro c hc
    simp only [cNd, List.mem_cons, List.not_mem_nil, or_false] at hc
    rcases hc with rfl | rfl | rfl | rfl | rfl
    · exact HF.sc _
    · exact HF.sc _
    · exact HF.sc _
    · exact HF.lst (hf_cNds ks)
    · exact HF.sc _
theorem hf_cNds : ∀ (ks : List Nd), ∀ r, r ∈ cNds ks → ∀ c, c ∈ r → HF c
  | [] => by intro r hr; simp [cNds] at hr
  | k :: ks => by
    intro r hr
    simp only [cNds, List.mem_cons] at hr
    rcases hr with rfl | hr
    · exact hf_cNd k
    · exact hf_cNds ks r hr
end
theorem hf_eNd (n : Nd) : HF (eNd n) := HF.agg (hf_cNd n)
theorem hf_lNd (ks : List Nd) : HF (lNd ks) := HF.lst (by rw [← cNds_map]; exact hf_cNds ks)
theorem rows_cNd (ks : List Nd) : rowsWf 5 (ks.map cNd) := fun r hr => by
  obtain ⟨n, _, rfl⟩ := List.mem_map.1 hr
  rw [cNd_eq]; exact ⟨rfl, rfl⟩
abbrev stopV (e p : Int) : AV := .ifc 142 (.agg [aI e, aI p])
theorem hf_stopV (e p : Int) : HF (stopV e p) := HF.ifc (HF.agg fun c hc => by simp at hc; rcases hc with rfl | rfl <;> exact HF.sc _)
theorem failU (e : Int) (n : Nd) : SoundX Tryz.prog 118 [aI e, eNd n] (.pan (stopV e n.pos)) := by
  refine SoundG.of_sound ?_
  refine Sound.of_awp Tryz.call118 Tryz.func118 rfl (Nat.le_of_ble_eq_true (by kernel_rfl)) (by kernel_rfl) (pl := {}) ?_
  simp only [eNd, cNd_eq]
  simp [go_sem]
  exact ⟨_, _, ⟨rfl, rfl⟩, .hf _ (hf_stopV _ _)⟩
theorem needU (ok : Bool) (e : Int) (n : Nd) : SoundX Tryz.prog 71 [aB ok, aI e, eNd n] (if ok then .ret (.tup []) else .pan (stopV e n.pos)) := by
  refine SoundG.of_sound ?_
  refine Sound.of_awp Tryz.call71 Tryz.func71 rfl (Nat.le_of_ble_eq_true (by kernel_rfl)) (by kernel_rfl) (pl := {}) ?_
  simp only [eNd]
  cases ok
  · simp [go_sem]
    refine CallStep.pans (failU e n) (.cons (.hf (HF.sc _)) (.cons (.hf (hf_eNd n)) .nil)) ?_
    simp [go_sem]
    exact .hf _ (hf_stopV _ _)
  · simp [go_sem]
    exact .hf _ (HF.tup (by simp))
theorem caught1U (mu : Mu) (b : Nat) (x y : AV) (hb : mu[b]? = some (.arr [x, y])) : SoundD Tryz.prog 82 [.ptr b 0] mu none fun mu' => mu' = mu := by
  refine SoundD.of_awp Tryz.call82 Tryz.func82 rfl ⟨_, _, _, _, rfl⟩ (Nat.le_of_ble_eq_true (by kernel_rfl)) (by kernel_rfl) (by kernel_rfl) (pl := {}) ?_
  simp [go_sem]
theorem caught1P (mu : Mu) (b : Nat) (x y : AV) (e p : Int) (hb : mu[b]? = some (.arr [x, y])) : SoundD Tryz.prog 82 [.ptr b 0] mu (some (stopV e p)) fun mu' => ∃ c, mu' = mu.set b (.arr [aI e, aI p]) ++ [c] := by
  refine SoundD.of_awp Tryz.call82 Tryz.func82 rfl ⟨_, _, _, _, rfl⟩ (Nat.le_of_ble_eq_true (by kernel_rfl)) (by kernel_rfl) (by kernel_rfl) (pl := {}) ?_
  have hl : b < mu.length := (List.getElem?_eq_some_iff.1 hb).1
  have hg : ∀ c : Cell, (mu ++ [c])[b]? = some (.arr [x, y]) := fun c => by rw [List.getElem?_append_left hl, hb]
  have hs : ∀ c d : Cell, (mu ++ [c]).set b d = mu.set b d ++ [c] := fun c d => List.set_append_left b d hl
  simp [go_sem, hg, hs]
theorem caughtU {g : FuncId} {caps : List AV} {mu : Mu} {R : AEnd → Mu → Prop} (h : Sound Tryz.prog g caps (mu ++ [.dead]) R) (hp : ∀ v m, R (.pan v) m → ∃ e p, v = stopV e p) :
    Sound Tryz.prog 39 [.fn (.func g) [] caps] mu fun e m => ∃ m' c, (∃ l, m = m'.set mu.length c ++ l) ∧ ((∃ r, R (.ret r) m' ∧ e = .ret (.agg [aI 0, aI 0])) ∨ ∃ er p, R (.pan (stopV er p)) m' ∧ e = .ret (.agg [aI er, aI p])) := by
  refine Sound.of_awpD Tryz.call39 Tryz.func39 rfl (Nat.le_of_ble_eq_true (by kernel_rfl)) (by kernel_rfl) (pl := {}) ?_
  simp [go_sem]
  refine DeferGo.intro (g := 82) (first := []) (caps := [.ptr mu.length 0]) (by simp [go_sem]) Tryz.call82 ?_
  simp [go_sem]
  refine CallStep.eff (Sound.hid (i := mu.length) (c := .arr [aI 0, aI 0]) (by simp) (by simp) (by simpa using h)) ?_ ?_
  · rintro r m ⟨m', hR, hd, rfl⟩
    have hl : mu.length < m'.length := (List.getElem?_eq_some_iff.1 hd).1
    have hg : (m'.set mu.length (.arr [aI 0, aI 0]))[mu.length]? = some (.arr [aI 0, aI 0]) := List.getElem?_set_self hl
    simp [go_sem, hg, hl]
    refine SoundD.mono (caught1U _ mu.length (aI 0) (aI 0) hg) ?_
    rintro _ rfl
    simp [go_sem, hg, hl]
    exact ⟨m', ⟨_, [], (List.append_nil _).symm⟩, .inl ⟨r, hR⟩⟩
  · rintro r m ⟨m', hR, hd, rfl⟩
    obtain ⟨e, p, rfl⟩ := hp _ _ hR
    have hl : mu.length < m'.length := (List.getElem?_eq_some_iff.1 hd).1
    have hg : (m'.set mu.length (.arr [aI 0, aI 0]))[mu.length]? = some (.arr [aI 0, aI 0]) := List.getElem?_set_self hl
    simp [go_sem]
    refine SoundD.mono (caught1P _ mu.length (aI 0) (aI 0) e p hg) ?_
    rintro _ ⟨c, rfl⟩
    simp [go_sem, hg, hl]
    exact ⟨m', ⟨_, [c], rfl⟩, .inr hR⟩
end Go.Proofs.YtcfopdccdeeleaaGreatDoor.Y1


namespace Go.Proofs.YtcfopdccdeeleaaGreatDoor.Y2
open Go Go.Ev Go.Proofs Y1
abbrev aT (t : List Int) : AV := .agg (t.map fun x => .sc (.int .i8 x))
structure Kd where
  ar : Int
  ts : List (List Int)
abbrev mKd (ts : List (List Int)) : AV := .ims (ts.map fun t => (aT t, aB true))
abbrev cKd (k : Kd) : List AV := [aI k.ar, mKd k.ts]
abbrev eKd (k : Kd) : AV := .agg (cKd k)
theorem hf_aT (t : List Int) : HF (aT t) := HF.agg fun c hc => by
  obtain ⟨x, _, rfl⟩ := List.mem_map.1 hc
  exact HF.sc _
theorem hf_mKd (ts : List (List Int)) : HF (mKd ts) := HF.ims fun p hp => by
  obtain ⟨t, _, rfl⟩ := List.mem_map.1 hp
  exact ⟨hf_aT t, HF.sc _⟩
theorem hf_eKd (k : Kd) : HF (eKd k) := HF.agg fun c hc => by
  simp at hc
  rcases hc with rfl | rfl
  · exact HF.sc _
  · exact hf_mKd _
theorem emptyU (n : Int) : SoundP Tryz.prog 130 [aI n] (eKd ⟨n, []⟩) := by
  refine SoundP.of_sound (Sound.of_awp Tryz.call130 Tryz.func130 rfl (Nat.le_of_ble_eq_true (by kernel_rfl)) (by kernel_rfl) (pl := {}) ?_)
  simp [go_sem]
  exact Rd.aggs ⟨.hf _ (HF.sc _), Rd.mps (es := []) (fs := []) rfl (by simp) (by simp) (by simp) (by simp), trivial⟩
theorem str_ne {a b : ByteArray} (h : ¬ a = b) : (a.toList == b.toList) = false := by
  cases hq : (a.toList == b.toList) with
  | false => rfl
  | true => exact absurd (ba_eq (by rw [beq_toListBytes]; exact hq)) h
def aSc : List (ByteArray × Kd) → AV
  | [] => .sc (.pointer none)
  | v :: s => .ip [aS v.1, aI v.2.ar, mKd v.2.ts, aSc s]
@[go_sem] theorem aSc_cells (s : List (ByteArray × Kd)) : (aSc s).cells = [aSc s] := by cases s <;> rfl
@[go_sem] theorem aSc_one (s : List (ByteArray × Kd)) : (aSc s).one = true := by cases s <;> rfl
theorem hf_aSc : ∀ s, HF (aSc s)
  | [] => HF.sc _
  | v :: s => HF.ip fun c hc => by
    simp only [List.mem_cons, List.not_mem_nil, or_false] at hc
    rcases hc with rfl | rfl | rfl | rfl
    · exact HF.sc _
    · exact HF.sc _
    · exact hf_mKd _
    · exact hf_aSc s
def findS (name : ByteArray) : List (ByteArray × Kd) → List (ByteArray × Kd)
  | [] => []
  | v :: s => if v.1 = name then v :: s else findS name s
theorem findU (s : List (ByteArray × Kd)) (name : ByteArray) : SoundP Tryz.prog 127 [aSc s, aS name] (aSc (findS name s)) := by
  refine SoundP.of_sound (Sound.of_awp Tryz.call127 Tryz.func127 rfl (Nat.le_of_ble_eq_true (by kernel_rfl)) (by kernel_rfl) (pl := {}) ?_)
  simp [go_sem]
  refine LoopGo.intro (fun n st => ∃ r, n = r.length ∧ findS name r = findS name s ∧ st.tm 0 = aSc r ∧ st.tm 1 = aS name ∧ st.mu = []) s.length ⟨s, rfl, rfl, rfl, rfl, rfl⟩ ?_
  rintro n st ⟨r, rfl, hr, h0, h1, hm⟩
  cases r with
  | nil =>
    simp [go_sem, aSc, h0, h1, hm]
    rw [← hr]
    exact .hf _ (HF.sc _)
  | cons v r =>
    by_cases hv : v.1 = name
    · simp [go_sem, aSc, h0, h1, hm, hv]
      rw [← hr, findS, if_pos hv]
      have := hf_aSc (v :: r)
      simp only [aSc, hv] at this ⊢
      exact .hf _ this
    · simp [go_sem, aSc, h0, h1, hm, hv, str_ne hv]
      rw [findS, if_neg hv] at hr
      exact ⟨_, Nat.lt_succ_self _, r, rfl, hr, rfl⟩
end Go.Proofs.YtcfopdccdeeleaaGreatDoor.Y2


namespace Go.Proofs.YtcfopdccdeeleaaGreatDoor.Y3
open Go Go.Ev Go.Proofs Y1 Y2
def pad (l : List Int) : List Int := [l.getD 0 0, l.getD 1 0, l.getD 2 0]
abbrev i8s (l : List Int) : List AV := l.map fun x => .sc (.int .i8 x)
theorem pad_step (l : List Int) (k : Nat) (hk : k < l.length) (h3 : l.length ≤ 3) : (i8s (pad (l.take k))).set k (.sc (.int .i8 l[k])) = i8s (pad (l.take (k + 1))) := by
  match l, h3 with
  | [], _ => simp at hk
  | [a], _ => match k, hk with | 0, _ => rfl
  | [a, b], _ => match k, hk with | 0, _ => rfl | 1, _ => rfl
  | [a, b, c], _ => match k, hk with | 0, _ => rfl | 1, _ => rfl | 2, _ => rfl
  | a :: b :: c :: d :: l, h => simp at h
theorem pad_len (l : List Int) : (pad l).length = 3 := rfl
theorem pad_take (l : List Int) : (i8s (pad l)).take 3 = i8s (pad l) := rfl
theorem wrap8 {x : Int} (h : 0 ≤ x ∧ x < 128) : IntKind.i8.wrap x = x := by
  simp [IntKind.wrap, IntKind.signed, IntKind.bits]; omega
@[go_sem] theorem findA_nil (P : Program) (kt : TypeId) (k : AV) (i : Nat) : findA P kt k [] i = some none := eqS rfl
theorem ofU (l : List Int) (hl : l.length ≤ 3) (hr : ∀ x, x ∈ l → 0 ≤ x ∧ x < 128) : SoundP Tryz.prog 88 [lI l] (eKd ⟨l.length, [pad l]⟩) := by
  refine SoundP.of_sound (Sound.of_awp Tryz.call88 Tryz.func88 rfl (Nat.le_of_ble_eq_true (by kernel_rfl)) (by kernel_rfl) (pl := {}) ?_)
  simp [go_sem]
  refine LoopGo.up l.length (fun k st => st.tm 0 = lI l ∧ st.tm 2 = .ptr 0 0 ∧ st.tm 3 = .ptr 1 0 ∧ st.tm 6 = lI l ∧ st.tm 7 = aI l.length ∧ st.tm 8 = aI k ∧ st.mu = [.arr [aI 0, .sc (.map none)], .arr (i8s (pad (l.take k)))]) ?_ ?_
  · simp [go_sem, pad]
    done
  · rintro k st hk ⟨h0, h2, h3, h6, h7, h8, hm⟩
    by_cases he : k = l.length
    · subst he
      simp [go_sem, h0, h2, h3, h6, h7, h8, hm, pad_len, pad_take]
      exact Rd.aggs ⟨.hf _ (HF.sc _), Rd.mps (es := [(aT (pad l), aB true)]) (fs := [(aT (pad l), aB true)]) rfl (by simp) (by simp) (by simp) (fun x hx => by simp at hx; subst hx; exact ⟨hf_aT _, HF.sc _⟩), trivial⟩
    · have hlt : k < l.length := by omega
      have h3' : (k : Int) < 3 := by omega
      have hw := wrap8 (hr l[k] (by simp))
      have hst := pad_step l k hlt hl
      simp [go_sem, h0, h2, h3, h6, h7, h8, hm, hlt, h3', hw, pad_len, pad_take, show k ≤ 2 by omega, hst]
      simp [IntKind.wrap, IntKind.signed, IntKind.bits]; omega
end Go.Proofs.YtcfopdccdeeleaaGreatDoor.Y3


namespace Go.Proofs.YtcfopdccdeeleaaGreatDoor.Y4
open Go Go.Ev Go.Proofs Y1 Y2 Y3
def bindsL (op : Int) : Bool := decide (op = 15) || decide (op = 45) || decide (op = 46)
theorem bindsU (op : Int) : SoundP Tryz.prog 116 [aI op] (aB (bindsL op)) := by
  refine SoundP.of_sound (Sound.of_awp Tryz.call116 Tryz.func116 rfl (Nat.le_of_ble_eq_true (by kernel_rfl)) (by kernel_rfl) (pl := {}) ?_)
  unfold bindsL
  by_cases h1 : op = 15 <;> by_cases h2 : op = 45 <;> by_cases h3 : op = 46 <;> simp [go_sem, h1, h2, h3] <;> first | exact .hf _ (HF.sc _) | omega
theorem formulaU (n : Nd) : SoundP Tryz.prog 111 [eNd n] (aB (decide (30 ≤ n.op))) := by
  refine SoundP.of_sound (Sound.of_awp Tryz.call111 Tryz.func111 rfl (Nat.le_of_ble_eq_true (by kernel_rfl)) (by kernel_rfl) (pl := {}) ?_)
  simp [go_sem]
  exact .hf _ (HF.sc _)
end Go.Proofs.YtcfopdccdeeleaaGreatDoor.Y4
