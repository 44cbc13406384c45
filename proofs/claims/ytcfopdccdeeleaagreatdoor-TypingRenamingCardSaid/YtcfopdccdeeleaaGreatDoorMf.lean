/-
  Own library, part 6: an abstract reading of values and a calculus over it; contracts of functions; plain lemmas.
-/
import Derived.Handed
import Derived.WideKeyArgs
import Derived.ProofKit
import Derived.OpenShut
import Derived.JoinedCond
import Derived.KernelRfl
import Derived.Test.YtcfopdccdeeleaaGreatDoorRows
import Derived.LaidMore
import Derived.MakeChecks
import Derived.WalkKit
import Derived.Test.YtcfopdccdeeleaaGreatDoorMe
set_option linter.unusedVariables false
set_option linter.unusedSimpArgs false
set_option maxRecDepth 100000


namespace Go.Proofs.YtcfopdccdeeleaaGreatDoor.YE
open Go Go.Ev Go.Proofs Go.Proofs.YtcfopdccdeeleaaGreatDoor YM YS YF P1 P2 Y1 Y2 Y3 Y4 Y5 Y6 Y7 Y8 Y9 Y10 Y11 Y12 Y13 Y14 Y15 Y16 YU YV YW YX YZ YA YB PA YC YD
mutual
def cntT : Nd → Int
  | .mk _ _ _ ks _ => 1 + cntTs ks
def cntTs : List Nd → Int
  | [] => 0
  | k :: ks => cntT k + cntTs ks
end
theorem cntT_eq (n : Nd) : cntT n = 1 + cntTs n.kids := by
  obtain ⟨op, nm, i, ks, p⟩ := n
  simp [cntT, Nd.kids]
mutual
theorem cntT_pos : ∀ n : Nd, 1 ≤ cntT n
  | .mk _ _ _ ks _ => by simp only [cntT]; have := cntTs_nn ks; omega
theorem cntTs_nn : ∀ ks : List Nd, 0 ≤ cntTs ks
  | [] => by simp [cntTs]
  | k :: ks => by simp only [cntTs]; have := cntT_pos k; have := cntTs_nn ks; omega
end
mutual
theorem dep_le : ∀ n : Nd, depN n ≤ cntT n
  | .mk _ _ _ ks _ => by simp only [cntT, depN]; have := deps_le ks; omega
theorem deps_le : ∀ ks : List Nd, depNs ks ≤ cntTs ks
  | [] => by simp [depNs, cntTs]
  | k :: ks => by
    simp only [cntTs, depNs]
    have := dep_le k
    have := deps_le ks
    have := cntT_pos k
    have := cntTs_nn ks
    omega
end
def ArgOk (env : IEnv) : Prop := ∀ e, e ∈ env → ∀ a, e.2.arg = some a → e.2.size = cntT a ∧ Small a
theorem getK_in {κ α : Type} [DecidableEq κ] {k : κ} {v : α} : ∀ {es : List (κ × α)}, getK k es = some v → (k, v) ∈ es
  | [], h => by simp [getK] at h
  | e :: es, h => by
    unfold getK at h
    split at h
    · rename_i hk; cases h; subst hk; exact List.mem_cons_self ..
    · exact List.mem_cons_of_mem _ (getK_in h)
theorem setK_in {κ α : Type} [DecidableEq κ] {k : κ} {v : α} : ∀ {es : List (κ × α)} {x : κ × α}, x ∈ setK k v es → x = (k, v) ∨ x ∈ es
  | [], x, h => by simp [setK] at h; exact .inl h
  | e :: es, x, h => by
    unfold setK at h
    split at h
    · rcases List.mem_cons.1 h with h | h
      · exact .inl h
      · exact .inr (List.mem_cons_of_mem _ h)
    · rcases List.mem_cons.1 h with h | h
      · exact .inr (by rw [h]; exact List.mem_cons_self ..)
      · exact (setK_in h).imp id (List.mem_cons_of_mem _)
theorem renI_arg {ts : TS} {es : List (ByteArray × Bool)} {env : IEnv} {nm : ByteArray} {body : Bool} {s : ISt} (h : ArgOk env) : ArgOk (renI ts es env nm body s).1.1 := by
  have hd : ArgOk (delK nm env) := fun e he => h e (delK_sub.subset he)
  unfold renI
  split
  · intro e he a ha
    rcases setK_in he with rfl | he
    · cases ha
    · exact hd e he a ha
  · exact hd
theorem expAs_arg {E : Nd → ISt → XR (Nd × Int)} : ∀ {ks : List Nd} {ps : List (ByteArray × Int)} {own own' : IEnv} {s s' : ISt}, (∀ k n' z s s', k ∈ ks → E k s = .ok ((n', z), s') → z = cntT n' ∧ Small n') → ArgOk own → expAs E ps ks own s = .ok (own', s') → ArgOk own'
  | [], ps, own, own', s, s', _, ho, e => by
    have e : Except.ok (own, s) = (Except.ok (own', s') : XR IEnv) := by cases ps <;> exact e
    cases e; exact ho
  | k :: ks, [], own, own', s, s', _, ho, e => by cases e; exact ho
  | k :: ks, p :: ps, own, own', s, s', hE, ho, e => by
    simp only [expAs] at e
    split at e
    · cases e
    · rename_i k' m s1 h1
      refine expAs_arg (fun k n' z s s' hk => hE k n' z s s' (List.mem_cons_of_mem _ hk)) (fun e he a ha => ?_) e
      rcases setK_in he with rfl | he
      · cases ha
        exact hE k _ m s s1 (List.mem_cons_self ..) h1
      · exact ho e he a ha
theorem expKs_size {E : IEnv → Nd → ISt → XR (Nd × Int)} {R : IEnv → ByteArray → ISt → (IEnv × ByteArray) × ISt} {bin : Bool} (hR : ∀ env nm s, ArgOk env → ArgOk (R env nm s).1.1) :
    ∀ {ks : List Nd} {i : Nat} {env : IEnv} {nm nm' : ByteArray} {s s' : ISt} {ks' : List Nd} {m : Int}, (∀ env k n' z s s', k ∈ ks → ArgOk env → E env k s = .ok ((n', z), s') → z = cntT n' ∧ Small n') → ArgOk env →
    expKs E R bin i env nm ks s = .ok ((nm', ks', m), s') → m = cntTs ks' ∧ ks'.length = ks.length ∧ ∀ k, k ∈ ks' → Small k
  | [], i, env, nm, nm', s, s', ks', m, _, _, e => by
    cases e
    exact ⟨rfl, rfl, fun k hk => absurd hk List.not_mem_nil⟩
  | k :: ks, i, env, nm, nm', s, s', ks', m, hE, he, e => by
    simp only [expKs] at e
    obtain ⟨r, hr⟩ : ∃ r, r = if bin = true ∧ i = 1 then R env nm s else ((env, nm), s) := ⟨_, rfl⟩
    rw [← hr] at e
    have hra : ArgOk r.1.1 := by
      rw [hr]
      split
      · exact hR _ _ _ he
      · exact he
    split at e
    · cases e
    · rename_i k' m1 s1 h1
      have g := hE r.1.1 k k' m1 r.2 s1 (List.mem_cons_self ..) hra h1
      split at e
      · cases e
      · rename_i nm2 ks2 m2 s2 h2
        obtain ⟨q1, q2, q3⟩ := expKs_size hR (fun env k n' z s s' hk => hE env k n' z s s' (List.mem_cons_of_mem _ hk)) hra h2
        cases e
        refine ⟨by simp only [cntTs]; rw [g.1, q1], by simp [q2], fun x hx => ?_⟩
        rcases List.mem_cons.1 hx with rfl | hx
        · exact g.2
        · exact q3 x hx
theorem expI_size (ts : TS) (hb : ∀ p, p ∈ ts.preds → WfN p.body) (es : List (ByteArray × Bool)) : ∀ (f : Nat) {env : IEnv} {n n' : Nd} {body : Bool} {s s' : ISt} {z : Int}, ArgOk env → WfN n → expI ts es f env n body s = .ok ((n', z), s') → z = cntT n' ∧ Small n'
  | 0, _, _, _, _, _, _, _, _, _, e => by cases e
  | f + 1, env, n, n', body, s, s', z, he, hw, e => by
    simp only [expI] at e
    split at e
    · split at e
      · rename_i hop
        have hkn : n.kids = [] := by
          have hs := hw.shape
          unfold shp at hs
          rw [if_pos (.inl hop)] at hs
          simp only [Option.some.injEq] at hs
          exact List.map_eq_nil_iff.1 hs.symm
        unfold replI at e
        split at e
        · cases e
          exact ⟨by rw [cntT_eq, hkn]; rfl, hw.small⟩
        · rename_i v hv
          split at e
          · cases e
            refine ⟨by rw [cntT_eq]; show 1 = 1 + cntTs n.kids; rw [hkn]; rfl, .mk _ (by show n.kids.length ≤ 1000; rw [hkn]; simp) fun k hk => ?_⟩
            have hk : k ∈ n.kids := hk
            rw [hkn] at hk; exact absurd hk List.not_mem_nil
          · rename_i a ha
            split at e
            · cases e
              exact he _ (getK_in hv) _ ha
            · cases e
      · split at e
        · split at e
          · cases e
          · rename_i p hp
            obtain ⟨own, s1, h1, e⟩ := bindX_ok e
            have ho := expAs_arg (fun k n' z s s' hk hE => expI_size ts hb es f he (hw.kid hk) hE) (fun e he => absurd he List.not_mem_nil) h1
            exact expI_size ts hb es f ho (hb p (List.mem_of_find?_eq_some hp)) e
        · obtain ⟨⟨nm', ks', m⟩, s1, h1, e⟩ := bindX_ok e
          cases e
          obtain ⟨q1, q2, q3⟩ := expKs_size (fun env nm s h => renI_arg h) (fun env k n' z s s' hk hv hE => expI_size ts hb es f hv (hw.kid hk) hE) he h1
          refine ⟨by rw [cntT_eq]; show 1 + m = _; rw [q1]; rfl, .mk _ ?_ q3⟩
          show ks'.length ≤ 1000
          have := hw.len
          omega
    · cases e
theorem expAs_err {E : Nd → ISt → XR (Nd × Int)} : ∀ {ks : List Nd} {ps : List (ByteArray × Int)} {own : IEnv} {s : ISt} {d : Dg}, (∀ k s d, E k s = .error d → d = (2, 0)) → expAs E ps ks own s = .error d → d = (2, 0)
  | [], ps, own, s, d, _, e => by
    have e : Except.ok (own, s) = (Except.error d : XR IEnv) := by cases ps <;> exact e
    cases e
  | k :: ks, [], own, s, d, _, e => by cases e
  | k :: ks, p :: ps, own, s, d, hE, e => by
    simp only [expAs] at e
    split at e
    · rename_i d' h1
      cases e; exact hE _ _ _ h1
    · exact expAs_err hE e
theorem expKs_err {E : IEnv → Nd → ISt → XR (Nd × Int)} {R : IEnv → ByteArray → ISt → (IEnv × ByteArray) × ISt} {bin : Bool} : ∀ {ks : List Nd} {i : Nat} {env : IEnv} {nm : ByteArray} {s : ISt} {d : Dg}, (∀ env k s d, E env k s = .error d → d = (2, 0)) → expKs E R bin i env nm ks s = .error d → d = (2, 0)
  | [], i, env, nm, s, d, _, e => by cases e
  | k :: ks, i, env, nm, s, d, hE, e => by
    simp only [expKs] at e
    split at e
    · rename_i d' h1
      cases e; exact hE _ _ _ _ h1
    · split at e
      · rename_i d' h2
        cases e; exact expKs_err hE h2
      · cases e
theorem bindX_err {α β : Type} {q : XR α} {g : α → ISt → XR β} {d : Dg} (h : bindX q g = .error d) : q = .error d ∨ ∃ a s, q = .ok (a, s) ∧ g a s = .error d := by
  unfold bindX at h
  split at h
  · cases h; exact .inl rfl
  · exact .inr ⟨_, _, rfl, h⟩
theorem expI_err (ts : TS) (es : List (ByteArray × Bool)) : ∀ (f : Nat) {env : IEnv} {n : Nd} {body : Bool} {s : ISt} {d : Dg}, expI ts es f env n body s = .error d → d = (2, 0)
  | 0, _, _, _, _, _, e => by cases e; rfl
  | f + 1, env, n, body, s, d, e => by
    simp only [expI] at e
    split at e
    · split at e
      · unfold replI at e
        split at e
        · cases e
        · split at e
          · cases e
          · split at e
            · cases e
            · cases e; rfl
      · split at e
        · split at e
          · cases e; rfl
          · rcases bindX_err e with e | ⟨own, s', h1, e⟩
            · exact expAs_err (fun k s d h => expI_err ts es f h) e
            · exact expI_err ts es f e
        · rcases bindX_err e with e | ⟨own, s', h1, e⟩
          · exact expKs_err (fun env k s d h => expI_err ts es f h) e
          · cases e
    · cases e; rfl
def outI (ts : TS) (es : List (ByteArray × Bool)) (n : Nd) : Except Dg Nd :=
  match expI ts es 4001 [] n false ⟨0, 0⟩ with
  | .error d => .error d
  | .ok ((n', z), _) => if z ≤ 400 ∧ depN n' ≤ 24 then .ok n' else .error (2, n.pos)
theorem outI_err {ts : TS} {es : List (ByteArray × Bool)} {n : Nd} {d : Dg} (h : outI ts es n = .error d) : d.1 = 2 := by
  unfold outI at h
  split at h
  · rename_i d' hd
    cases h
    rw [expI_err ts es _ hd]
  · split at h
    · cases h
    · cases h; rfl
theorem inline3U (ts : TS) (h : okTS ts) (hb : ∀ p, p ∈ ts.preds → WfN p.body ∧ CallsOk ts p.body) (es : List (ByteArray × Bool)) (hF : fuelN ts es ≤ 200000) (hfr : Free ts es) (n : Nd) (hw : WfN n) (hcl : CallsOk ts n) {mu : Mu} {xp ob xb tb : Nat}
    (h1 : mu[xp]? = some (.arr [.ptr xb 0])) (hx : mu[xb]? = some (.arr (cIn ts tb ⟨0, 0⟩))) (ht : mu[tb]? = some (.mp (eSet es))) (ho : mu[ob]? = some (.arr [aI 0, aS ⟨#[]⟩, aI 0, .lst true [], aI 0])) :
    Sound Tryz.prog 69 [.ptr xp 0, .ip (cNd n), .ptr ob 0] mu fun e m => match outI ts es n with
      | .error d => e = .pan (stopV d.1 d.2) ∧ mu.length ≤ m.length ∧ ∀ i, i < mu.length → i ≠ xb → i ≠ ob → m[i]? = mu[i]?
      | .ok n' => e = .ret (.tup []) ∧ m[ob]? = some (.arr (cNd n')) ∧ mu.length ≤ m.length ∧ ∀ i, i < mu.length → i ≠ xb → i ≠ ob → m[i]? = mu[i]? := by
  refine Sound.of_awp Tryz.call69 Tryz.func69 rfl (Nat.le_of_ble_eq_true (by kernel_rfl)) (by kernel_rfl) (pl := {}) ?_
  have hxpl : xp < mu.length := (List.getElem?_eq_some_iff.1 h1).1
  have hxl : xb < mu.length := (List.getElem?_eq_some_iff.1 hx).1
  have htl : tb < mu.length := (List.getElem?_eq_some_iff.1 ht).1
  have hol : ob < mu.length := (List.getElem?_eq_some_iff.1 ho).1
  have hobx : ob ≠ xb := fun e => by rw [e, hx] at ho; cases ho
  simp [go_sem, h1]
  have hkeep : ∀ i, i < mu.length → (cutM (fun i => !decide (mu.length ≤ i)) (mu ++ [Cell.mp []]) 0)[i]? = mu[i]? := fun i hi => by rw [cutM_keep (by simp; omega), List.getElem?_append_left hi]
  have hst : StOk (fuelN ts es) ⟨0, 0⟩ := ⟨by simp, by simp, by simp, by simp [pot]⟩
  have hcall := expandU ts h hb es hF hfr tb 4001 [] n false ⟨0, 0⟩ (cutM (fun i => !decide (mu.length ≤ i)) (mu ++ [Cell.mp []]) 0) xb (by simp) hst .nil hw hcl (by rw [hkeep _ hxl]; exact hx) (by rw [hkeep _ htl]; exact ht)
  have hcall := Sound.freeze (mu := mu ++ [Cell.mp []]) (args := [.ptr xb 0, .mp mu.length, eNd n, aB false]) (args1 := [.ptr xb 0, eEnv [], eNd n, aB false]) (fun i => decide (mu.length ≤ i)) ⟨.inl rfl, .inr (rd_own (acc := []) (by rw [cutM_keep (by simp)]; simp) (by simp) (fun e he => absurd he List.not_mem_nil)), .inl rfl, .inl rfl, trivial⟩ hcall
  have hsz := fun {n' z s'} => expI_size ts (fun p hp => (hb p hp).1) es 4001 (env := []) (n := n) (n' := n') (body := false) (s := ⟨0, 0⟩) (s' := s') (z := z) (fun e he => absurd he List.not_mem_nil) hw
  have hgo := fun {n' z s'} => expI_go ts hfr 4001 (env := []) (n := n) (n' := n') (body := false) (s' := s') (z := z) hst .nil
  unfold outI
  generalize expI ts es 4001 [] n false ⟨0, 0⟩ = E at *
  cases E with
  | error d =>
    refine CallStep.eff0 hcall (by rintro r m ⟨e, _⟩; cases e) ?_
    rintro r m ⟨e, hmb⟩
    cases e
    have hml := hmb.len
    rw [cutM_len] at hml
    simp only [List.length_append, List.length_cons, List.length_nil] at hml
    simp [go_sem]
    exact ⟨by omega, fun i hi hx ho => by rw [hmb.same i (by rw [cutM_len]; simp; omega) hx, hkeep i hi]⟩
  | ok q =>
    obtain ⟨⟨n', z⟩, s'⟩ := q
    obtain ⟨hz, hsm⟩ := hsz rfl
    have hg := hgo rfl
    have hz4 : z ≤ 4000 := by have := hg.cz; have := hg.c1; simp only at *; omega
    have hdl := dep_le n'
    refine CallStep.eff0 hcall ?_ (by rintro r m ⟨e, _⟩; cases e)
    rintro r m ⟨e, hmx, hmb⟩
    cases e
    have hml := hmb.len
    rw [cutM_len] at hml
    simp only [List.length_append, List.length_cons, List.length_nil] at hml
    have hmo : m[ob]? = some (.arr [aI 0, aS ⟨#[]⟩, aI 0, .lst true [], aI 0]) := by rw [hmb.same _ (by rw [cutM_len]; simp; omega) hobx, hkeep _ hol]; exact ho
    have hset : ∀ c, (m.set ob c)[ob]? = some c := fun c => List.getElem?_set_self (by omega)
    simp [go_sem, h1, hmo, cNd_ones]
    have hrest : ∀ c, mu.length ≤ (m.set ob c).length ∧ ∀ i, i < mu.length → i ≠ xb → i ≠ ob → (m.set ob c)[i]? = mu[i]? := fun c => ⟨by simp; omega, fun i hi hx ho => by
      rw [List.getElem?_set_ne (fun e => ho e.symm), hmb.same i (by rw [cutM_len]; simp; omega) hx, hkeep i hi]⟩
    have wz : ∀ b c, WKs [aB b, aI c, eNd n] [aB b, aI c, eNd n] := fun b c => .cons (.hf (HF.sc _)) (.cons (.hf (HF.sc _)) (.cons (.hf (hf_eNd n)) .nil))
    by_cases hz1 : z ≤ 400
    · have hdep := depthU (szN n') n' (Nat.le_refl _) hsm (by omega)
      by_cases hd1 : depN n' ≤ 24
      · refine DrawGo.intro (by kernel_rfl) ?_
        simp [go_sem, hz1, hset]
        refine CallStep.pure hdep (.cons (.hf (hf_eNd n')) .nil) ?_
        simp [go_sem, hz1, hd1]
        refine CallStep.pure (needU true 2 n).toP (wz true 2) ?_
        simp [go_sem, hz1, hd1, hset]
        simpa using hrest _
      · refine DrawGo.tail 8 (by kernel_rfl) ?_
        simp [go_sem, hz1, hset]
        refine CallStep.pure hdep (.cons (.hf (hf_eNd n')) .nil) ?_
        simp [go_sem, hz1, hd1]
        refine CallStep.pans (needU false 2 n) (wz false 2) ?_
        simp [go_sem, hz1, hd1]
        simpa using hrest _
    · refine DrawGo.tail 8 (by kernel_rfl) ?_
      simp [go_sem, hz1, hset]
      refine CallStep.pans (needU false 2 n) (wz false 2) ?_
      simp [go_sem, hz1]
      simpa using hrest _
end Go.Proofs.YtcfopdccdeeleaaGreatDoor.YE


namespace Go.Proofs.YtcfopdccdeeleaaGreatDoor.YG
open Go Go.Ev Go.Proofs Go.Proofs.YtcfopdccdeeleaaGreatDoor YM YS YF P1 P2 Y1 Y2 Y3 Y4 Y5 Y6 Y7 Y8 Y9 Y10 Y11 Y12 Y13 Y14 Y15 Y16 YU YV YW YX YZ YA YB PA YC YD YE Q4 Q6
def valD (l : List UInt8) : Nat := l.foldl (fun a b => 10 * a + (b.toNat - 48)) 0
theorem valD_dec (u : Nat) : valD (Lib.decDigits u) = u := by
  induction u using Nat.strongRecOn with
  | _ u ih =>
    rw [Lib.decDigits]
    split
    · rename_i h
      simp only [valD, List.foldl_cons, List.foldl_nil]
      rw [UInt8.toNat_ofNat_of_lt' (by simp [UInt8.size]; omega)]
      omega
    · rename_i h
      have := ih (u / 10) (by omega)
      unfold valD at this ⊢
      rw [List.foldl_append, this]
      simp only [List.foldl_cons, List.foldl_nil]
      rw [UInt8.toNat_ofNat_of_lt' (by simp [UInt8.size]; omega)]
      omega
theorem itoaB_inj {a b : Nat} (h : itoaB (a : Int) = itoaB (b : Int)) : a = b := by
  have h1 : Lib.decDigits a = Lib.decDigits b := by
    unfold itoaB Lib.itoa at h
    rw [if_neg (by omega), if_neg (by omega)] at h
    simp only [Int.toNat_natCast] at h
    have h := congrArg (fun x : ByteArray => x.data.toList) h
    simpa using h
  rw [← valD_dec a, h1, valD_dec]
theorem app_inj {p a b : ByteArray} (h : p ++ a = p ++ b) : a = b := by
  have h := congrArg (fun x : ByteArray => x.data.toList) h
  simp only [ByteArray.data_append, Array.toList_append] at h
  have := List.append_cancel_left h
  cases a; cases b
  simp at this
  rw [this]
theorem vN_inj {a b : Nat} (h : vN (a : Int) = vN (b : Int)) : a = b := itoaB_inj (app_inj h)
def badL (ts : TS) (es : List (ByteArray × Bool)) : List ByteArray := es.map Prod.fst ++ (ts.fields.map (fun f => f.name) ++ ts.sorts.flatMap fun s => [s.1, s.1 ++ sFirst, s.1 ++ sNext])
theorem badL_len (ts : TS) (es : List (ByteArray × Bool)) : (badL ts es).length + 1 = fuelN ts es := by
  have : ∀ l : List (ByteArray × Bool), (l.flatMap fun s => [s.1, s.1 ++ sFirst, s.1 ++ sNext]).length = 3 * l.length := by
    intro l
    induction l with
    | nil => rfl
    | cons a l ih => rw [List.flatMap_cons, List.length_append, ih]; simp; omega
  unfold badL fuelN
  rw [List.length_append, List.length_append, this, List.length_map, List.length_map]
  omega
theorem not_free {ts : TS} {es : List (ByteArray × Bool)} {nm : ByteArray} (h : freeN ts es nm = false) : nm ∈ badL ts es := by
  unfold freeN at h
  unfold badL
  rw [Bool.and_eq_false_iff] at h
  rcases h with h | h
  · have h : getK nm es = some true := by simpa using h
    exact List.mem_append_left _ (List.mem_map.2 ⟨_, getK_in h, rfl⟩)
  · refine List.mem_append_right _ ?_
    have h : means ts nm ≠ [] := by simpa using h
    unfold means at h
    by_cases hf : meanF ts.fields nm = []
    · rw [hf, List.nil_append] at h
      refine List.mem_append_right _ ?_
      have : ∀ (so : List (ByteArray × Bool)) (i : Nat), meanS i so nm ≠ [] → nm ∈ so.flatMap fun s => [s.1, s.1 ++ sFirst, s.1 ++ sNext] := by
        intro so
        induction so with
        | nil => intro i h; exact absurd rfl h
        | cons s so ih =>
          intro i h
          rw [List.flatMap_cons, List.mem_append]
          by_cases h1 : meanS1 i s nm = []
          · refine .inr (ih (i + 1) ?_)
            simpa [meanS, h1] using h
          · left
            unfold meanS1 at h1
            by_cases a1 : s.1 = nm
            · simp [a1]
            by_cases a2 : s.2 = true ∧ s.1 ++ sFirst = nm
            · simp [a2.2]
            by_cases a3 : s.2 = true ∧ s.1 ++ sNext = nm
            · simp [a3.2]
            exact absurd (by simp [a1, a2, a3]) h1
      exact this ts.sorts 0 h
    · refine List.mem_append_left _ ?_
      obtain ⟨k, hk⟩ := List.exists_mem_of_ne_nil _ hf
      unfold meanF at hk
      obtain ⟨f, hf, e⟩ := List.mem_filterMap.1 hk
      split at e
      · rename_i e1
        exact List.mem_map.2 ⟨f, hf, e1⟩
      · cases e
theorem free_all (ts : TS) (es : List (ByteArray × Bool)) : Free ts es := by
  intro l hl
  by_cases hex : ∃ j : Nat, 1 ≤ j ∧ j ≤ fuelN ts es ∧ freeN ts es (vN (l + j)) = true
  · exact hex
  exfalso
  obtain ⟨L, rfl⟩ : ∃ L : Nat, l = L := ⟨l.toNat, by omega⟩
  have hsub : ∀ x, x ∈ (List.range (fuelN ts es)).map (fun i => vN ((L + (i + 1) : Nat) : Int)) → x ∈ badL ts es := fun x hx => by
    obtain ⟨i, hi, rfl⟩ := List.mem_map.1 hx
    rw [List.mem_range] at hi
    refine not_free ?_
    cases hq : freeN ts es (vN ((L + (i + 1) : Nat) : Int)) with
    | false => rfl
    | true => exact absurd ⟨i + 1, by omega, by omega, by rw [show (L : Int) + ((i + 1 : Nat) : Int) = ((L + (i + 1) : Nat) : Int) by omega]; exact hq⟩ hex
  have hnd : ((List.range (fuelN ts es)).map (fun i => vN ((L + (i + 1) : Nat) : Int))).Nodup := by
    refine List.pairwise_map.2 (List.nodup_range.imp fun hne e => hne ?_)
    have := vN_inj e
    omega
  have := List.Nodup.length_le_of_subset hnd hsub
  rw [List.length_map, List.length_range] at this
  have := badL_len ts es
  omega
def putN (es : List (ByteArray × Bool)) (l : List Nd) : List (ByteArray × Bool) := l.foldl (fun es n => setK n.name true es) es
def takenI (ts : TS) (n : Nd) : List (ByteArray × Bool) := ts.preds.foldl (fun es p => putN es (preN p.body)) (putN [] (preN n))
def inlineL (ts : TS) (n : Nd) : Nd × Int :=
  if (checkF ts [] n).1 ≠ 0 then (nd0, (checkF ts [] n).1)
  else if anyN (fun n => decide (n.op = 47)) n = false then (n, 0)
  else match outI ts (takenI ts n) n with
    | .error d => (nd0, d.1)
    | .ok n' => (n', 0)
theorem any_pre (p : Nd → Bool) : ∀ (m : Nat) (n : Nd), szN n ≤ m → anyN p n = (preN n).any p
  | 0, n, hm => by obtain ⟨op, nm, i, ks, q⟩ := n; simp [szN] at hm
  | m + 1, n, hm => by
    rw [anyN_eq, preN_eq, List.any_cons]
    congr 1
    have : ∀ l : List Nd, (∀ k, k ∈ l → k ∈ n.kids) → anyNs p l = (preNs l).any p := by
      intro l
      induction l with
      | nil => intro _; rfl
      | cons k l ih =>
        intro hl
        simp only [anyNs, preNs, List.any_append]
        rw [ih fun x hx => hl x (List.mem_cons_of_mem _ hx), any_pre p m k (by have := kid_lt (hl k (List.mem_cons_self ..)); omega)]
    exact this n.kids fun k hk => hk
end Go.Proofs.YtcfopdccdeeleaaGreatDoor.YG


namespace Go.Proofs.YtcfopdccdeeleaaGreatDoor.YH
open Go Go.Ev Go.Proofs Go.Proofs.YtcfopdccdeeleaaGreatDoor YM YS YF P1 P2 Y1 Y2 Y3 Y4 Y5 Y6 Y7 Y8 Y9 Y10 Y11 Y12 Y13 Y14 Y15 Y16 YU YV YW YX YZ YA YB PA YC YD YE YG Q4 Q6
structure InM (ts : TS) (es : List (ByteArray × Bool)) (b : Bool) (mu : Mu) : Prop where
  r : mu[0]? = some (.arr [aI 0, aS ⟨#[]⟩, aI 0, .lst true [], aI 0])
  t : mu[2]? = some (.mp (eSet es))
  x : mu[3]? = some (.arr (cIn ts 2 ⟨0, 0⟩))
  p : mu[4]? = some (.arr [.ptr 3 0])
  c : mu[5]? = some (.arr [aB b])
theorem InM.len {ts : TS} {es : List (ByteArray × Bool)} {b : Bool} {mu : Mu} (h : InM ts es b mu) : 5 < mu.length := (List.getElem?_eq_some_iff.1 h.c).1
theorem InM.push {ts : TS} {es : List (ByteArray × Bool)} {b : Bool} {mu : Mu} (h : InM ts es b mu) (l : Mu) : InM ts es b (mu ++ l) := by
  have hl := h.len
  exact ⟨by rw [List.getElem?_append_left (by omega)]; exact h.r, by rw [List.getElem?_append_left (by omega)]; exact h.t, by rw [List.getElem?_append_left (by omega)]; exact h.x, by rw [List.getElem?_append_left (by omega)]; exact h.p, by rw [List.getElem?_append_left (by omega)]; exact h.c⟩
theorem InM.setT {ts : TS} {es es' : List (ByteArray × Bool)} {b : Bool} {mu : Mu} (h : InM ts es b mu) : InM ts es' b (mu.set 2 (.mp (eSet es'))) := by
  have hl := h.len
  exact ⟨by rw [List.getElem?_set_ne (by omega)]; exact h.r, List.getElem?_set_self (by omega), by rw [List.getElem?_set_ne (by omega)]; exact h.x, by rw [List.getElem?_set_ne (by omega)]; exact h.p, by rw [List.getElem?_set_ne (by omega)]; exact h.c⟩
theorem InM.setC {ts : TS} {es : List (ByteArray × Bool)} {b b' : Bool} {mu : Mu} (h : InM ts es b mu) : InM ts es b' (mu.set 5 (.arr [aB b'])) := by
  have hl := h.len
  exact ⟨by rw [List.getElem?_set_ne (by omega)]; exact h.r, by rw [List.getElem?_set_ne (by omega)]; exact h.t, by rw [List.getElem?_set_ne (by omega)]; exact h.x, by rw [List.getElem?_set_ne (by omega)]; exact h.p, List.getElem?_set_self (by omega)⟩
theorem rd_nd0 (mu : Mu) : Rd mu eN0 (eNd nd0) := .agg _ _ rfl fun k x y hx hy => by
  match k with
  | 0 => simp [nd0, cNd] at hx hy; subst hx; subst hy; exact .hf _ (HF.sc _)
  | 1 => simp [nd0, cNd] at hx hy; subst hx; subst hy; exact .hf _ (HF.sc _)
  | 2 => simp [nd0, cNd] at hx hy; subst hx; subst hy; exact .hf _ (HF.sc _)
  | 3 => simp [nd0, cNd, cNds] at hx hy; subst hx; subst hy; exact .wk _ true [] (.hf _ (HF.lst fun r hr => absurd hr List.not_mem_nil))
  | 4 => simp [nd0, cNd] at hx hy; subst hx; subst hy; exact .hf _ (HF.sc _)
  | k + 5 => simp at hx
theorem rd_nd0t (mu : Mu) (d : Int) : Rd mu (.tup [eN0, aI d]) (.tup [eNd nd0, aI d]) := .tup _ _ rfl fun k x y hx hy => by
  match k with
  | 0 => simp at hx hy; subst hx; subst hy; exact rd_nd0 _
  | 1 => simp at hx hy; subst hx; subst hy; exact .hf _ (HF.sc _)
  | k + 2 => simp at hx
theorem inlineU (ts : TS) (h : okTS ts) (hb : ∀ p, p ∈ ts.preds → WfN p.body ∧ CallsOk ts p.body) (n : Nd) (hw : WfN n) (hcl : (checkF ts [] n).1 = 0 → CallsOk ts n) (hF : fuelN ts (takenI ts n) ≤ 200000) : SoundP Tryz.prog 23 [eTS ts, eNd n] (.tup [eNd (inlineL ts n).1, aI (inlineL ts n).2]) := by
  generalize hR : inlineL ts n = R
  unfold inlineL at hR
  refine SoundP.of_sound (Sound.of_awp Tryz.call23 Tryz.func23 rfl (Nat.le_of_ble_eq_true (by kernel_rfl)) (by kernel_rfl) (pl := { mt := [25] }) ?_)
  simp [go_sem]
  have hwp : ∀ p, p ∈ ts.preds → WfN p.body := fun p hp => (hb p hp).1
  refine CallStep.pure (checkFormulaU ts h hwp n hw [] ⟨by simp, by simp⟩) (.cons (.hf (hf_eTS ts)) (.cons (WK.lst fun r hr => absurd hr List.not_mem_nil) (.cons (.hf (hf_eNd n)) .nil))) ?_
  simp [go_sem]
  by_cases hc : (checkF ts [] n).1 = 0
  case neg =>
    rw [if_pos hc] at hR
    subst hR
    simp [go_sem, hc]
    refine DrawGo.move 2 1 (by kernel_rfl) (by kernel_rfl) ?_ ?_
    all_goals
      simp [go_sem, hc]
      exact rd_nd0t _ _
  case pos =>
    rw [if_neg (by simpa using hc)] at hR
    simp [go_sem, hc]
    have hin : ∀ (v : List Nd) (k : Nd) (mu : Mu), InM ts (putN [] v) (v.any fun n => decide (n.op = 47)) mu → Sound Tryz.prog 67 (eNd k :: [.ptr 4 0, .ptr 5 0]) mu fun e m => e = .ret (.tup []) ∧ InM ts (putN [] (v ++ [k])) ((v ++ [k]).any fun n => decide (n.op = 47)) m := fun v k mu hI => by
      refine (inline1U ts ⟨0, 0⟩ 2 _ _ k hI.p hI.x hI.c hI.t).monoR ?_
      rintro e m ⟨rfl, rfl⟩
      refine ⟨rfl, ?_⟩
      rw [List.any_append]
      simp only [putN, List.foldl_append, List.foldl_cons, List.foldl_nil, List.any_cons, List.any_nil, Bool.or_false]
      exact hI.setT.setC
    refine CallStep.eff0 (walkU (caps := [.ptr 4 0, .ptr 5 0]) (fun v mu => InM ts (putN [] v) (v.any fun n => decide (n.op = 47)) mu) (fun v mu l h => h.push l) hin (szN n) n (Nat.le_refl _) hw.small [] _ ⟨rfl, rfl, rfl, rfl, rfl⟩) ?_ (by rintro r m ⟨e, _⟩; cases e)
    rintro r m ⟨e, hI⟩
    cases e
    rw [List.nil_append, ← any_pre _ (szN n) n (Nat.le_refl _)] at hI
    have hml := hI.len
    have hset : ∀ c, (m.set 0 c)[0]? = some c := fun c => List.getElem?_set_self (by omega)
    cases hcall : anyN (fun n => decide (n.op = 47)) n with
    | false =>
      rw [hcall] at hI hR
      rw [if_pos rfl] at hR
      subst hR
      simp [go_sem, hI.c, hI.r, hset, cNd_ones]
      exact .hf _ (HF.tup fun c hc => by simp at hc; rcases hc with rfl | rfl; exact hf_eNd n; exact HF.sc _)
    | true =>
      rw [hcall] at hI hR
      rw [if_neg (by simp)] at hR
      have hnp := h.np
      simp [go_sem, hI.c]
      refine LoopGo.upK ts.preds.length (fun k st => st.tm 3 = .ip (cNd n) ∧ st.tm 4 = .ptr 0 0 ∧ st.tm 7 = .ptr 4 0 ∧ st.tm 33 = lPd ts.preds ∧ st.tm 34 = aI ts.preds.length ∧ st.tm 35 = aI k ∧ InM ts ((ts.preds.take k).foldl (fun es p => putN es (preN p.body)) (putN [] (preN n))) true st.mu) ?_ ?_
      · exact ⟨by simp [go_sem], by simp [go_sem], by simp [go_sem], by simp [go_sem], by simp [go_sem], by simp [go_sem], by simpa [go_sem] using hI⟩
      · rintro k st hk ⟨e3, e4, e7, e33, e34, e35, hM⟩
        by_cases hkl : k = ts.preds.length
        · subst hkl
          simp [go_sem, e3, e4, e7, e33, e34, e35]
          rw [List.take_length] at hM
          have hM : InM ts (takenI ts n) true st.mu := hM
          have hsl := hM.len
          have hM2 : InM ts (takenI ts n) true (st.mu ++ [Cell.arr [aI 0, aS ⟨#[]⟩, aI 0, .lst true [], aI 0]] ++ [.dead]) := (hM.push _).push _
          have hcl0 := inline3U ts h hb (takenI ts n) hF (free_all ts _) n hw (hcl hc) (mu := st.mu ++ [Cell.arr [aI 0, aS ⟨#[]⟩, aI 0, .lst true [], aI 0]] ++ [.dead]) (ob := st.mu.length) hM2.p hM2.x hM2.t (by rw [List.getElem?_append_left (by simp), List.getElem?_append_right (Nat.le_refl _)]; simp)
          have hR2 := hR
          clear hR
          generalize hQ : outI ts (takenI ts n) n = Q at *
          refine CallStep.eff0 (caughtU hcl0 ?_) ?_ ?_
          · rintro v m hR
            cases Q with
            | error d => exact ⟨_, _, by have := hR.1; cases this; rfl⟩
            | ok n' => have := hR.1; cases this
          · rintro r m ⟨m', c, ⟨l, rfl⟩, hcase⟩
            have hml' : st.mu.length + 2 ≤ m'.length ∧ ∀ i, i < st.mu.length + 2 → i ≠ 3 → i ≠ st.mu.length → m'[i]? = (st.mu ++ [Cell.arr [aI 0, aS ⟨#[]⟩, aI 0, .lst true [], aI 0]] ++ [.dead])[i]? := by
              rcases hcase with ⟨r', hR, _⟩ | ⟨er, p, hR, _⟩ <;> cases Q with
              | error d => exact ⟨by have := hR.2.1; simpa using this, fun i h1 h2 h3 => hR.2.2 i (by simpa using h1) h2 h3⟩
              | ok n' => exact ⟨by have := hR.2.2.1; simpa using this, fun i h1 h2 h3 => hR.2.2.2 i (by simpa using h1) h2 h3⟩
            have hm0 : ∀ (c : Cell) (l : List Cell), (m'.set (st.mu.length + 1) c ++ l)[0]? = some (.arr [aI 0, aS ⟨#[]⟩, aI 0, .lst true [], aI 0]) := fun c l => by
              rw [List.getElem?_append_left (by simp; omega), List.getElem?_set_ne (by omega), hml'.2 0 (by omega) (by omega) (by omega)]
              exact hM2.r
            have hset2 : ∀ (c c2 : Cell) (l : List Cell), ((m'.set (st.mu.length + 1) c ++ l).set 0 c2)[0]? = some c2 := fun c c2 l => List.getElem?_set_self (by simp; omega)
            have hmid : ∀ (c c' : Cell) (l : List Cell), (m'.set (st.mu.length + 1) c ++ (l ++ [c']))[m'.length + l.length]? = some c' := fun c c' l => by
              rw [List.getElem?_append_right (by simp), List.getElem?_append_right (by simp)]; simp
            have hmid2 : ∀ (c c' c2 : Cell) (l : List Cell), ((m'.set (st.mu.length + 1) c ++ (l ++ [c'])).set 0 c2)[m'.length + l.length]? = some c' := fun c c' c2 l => by
              rw [List.getElem?_set_ne (by omega)]; exact hmid c c' l
            rcases hcase with ⟨r', hR, e⟩ | ⟨er, p, hR, e⟩
            · cases Q with
              | error d => have := hR.1; cases this
              | ok n' =>
                cases e
                have hmo : ∀ (c : Cell) (l : List Cell), (m'.set (st.mu.length + 1) c ++ l)[st.mu.length]? = some (.arr (cNd n')) := fun c l => by
                  rw [List.getElem?_append_left (by simp; omega), List.getElem?_set_ne (by omega)]
                  exact hR.2.1
                simp [go_sem, e3, e4, e7, hmo, hm0, hset2, cNd_ones]
                subst hR2
                exact .hf _ (HF.tup fun c hc => by simp at hc; rcases hc with rfl | rfl; exact hf_eNd _; exact HF.sc _)
            · cases Q with
              | ok n' => have := hR.1; cases this
              | error d =>
                have hd2 := outI_err hQ
                have e1 : er = d.1 := by have := hR.1; cases this; rfl
                subst e1
                cases e
                simp [go_sem, e3, e4, e7, hd2]
                have n0 := hm0 c (l ++ [Cell.arr [aI d.1, aI p]])
                have n1 := hmid c (Cell.arr [aI d.1, aI p]) l
                have n2 := fun c2 => hmid2 c (Cell.arr [aI d.1, aI p]) c2 l
                have n3 := fun c2 => hset2 c c2 (l ++ [Cell.arr [aI d.1, aI p]])
                rw [hd2] at n0 n1 n2 n3
                generalize m'.set (st.mu.length + 1) c ++ (l ++ [Cell.arr [aI 2, aI p]]) = N at *
                generalize m'.length + l.length = b at *
                refine DrawGo.move 2 1 (by kernel_rfl) (by kernel_rfl) ?_ ?_
                all_goals
                  simp [go_sem, e3, e4, e7, n0, n1, n2, n3]
                  subst hR2
                  rw [← hd2]
                  exact rd_nd0t _ _
          · rintro r m ⟨m', c, ⟨l, rfl⟩, ⟨r', hR, e⟩ | ⟨er, p, hR, e⟩⟩ <;> cases e
        · have hlt : k < ts.preds.length := by omega
          have w1 : IntKind.i64.wrap ((k : Int) + 1) = (k : Int) + 1 := wrap_i64 (by omega) (by omega)
          have hrow := cPd_row ts.preds[k]
          simp [go_sem, e3, e4, e7, e33, e34, e35, hlt, hrow, cNd_ones]
          have hpm : ts.preds[k] ∈ ts.preds := List.getElem_mem hlt
          generalize hE0 : (ts.preds.take k).foldl (fun es p => putN es (preN p.body)) (putN [] (preN n)) = E0 at *
          have hin2 : ∀ (v : List Nd) (x : Nd) (mu : Mu), InM ts (putN E0 v) true mu → Sound Tryz.prog 68 (eNd x :: [.ptr 4 0]) mu fun e m => e = .ret (.tup []) ∧ InM ts (putN E0 (v ++ [x])) true m := fun v x mu hI => by
            refine (inline2U ts ⟨0, 0⟩ 2 _ x hI.p hI.x hI.t).monoR ?_
            rintro e m ⟨rfl, rfl⟩
            refine ⟨rfl, ?_⟩
            simp only [putN, List.foldl_append, List.foldl_cons, List.foldl_nil]
            exact hI.setT
          refine CallStep.eff0 (walkU (caps := [.ptr 4 0]) (fun v mu => InM ts (putN E0 v) true mu) (fun v mu l h => h.push l) hin2 (szN ts.preds[k].body) ts.preds[k].body (Nat.le_refl _) (hwp _ hpm).small [] _ (hM.push _)) ?_ (by rintro r m ⟨e, _⟩; cases e)
          rintro r m ⟨e, hI2⟩
          cases e
          simp [go_sem, e3, e4, e7, e33, e34, e35, w1]
          refine ⟨hlt, Keep.mk' ?_⟩
          refine ⟨by simp [go_sem, e3], by simp [go_sem, e4], by simp [go_sem, e7], by simp [go_sem, e33], by simp [go_sem, e34], by simp [go_sem], ?_⟩
          rw [List.take_add_one, List.getElem?_eq_getElem hlt, List.foldl_append, hE0]
          simpa [go_sem] using hI2
end Go.Proofs.YtcfopdccdeeleaaGreatDoor.YH


namespace Go.EvW
open Go Go.Ev Go.RowKit Go.ChangeShapes Go.WideShapes
def CR (w : World) (xs : List AV) (cs : List Value) : Prop :=
  cs.length = xs.length ∧ ∀ (k : Nat) x, xs[k]? = some x → VRel ⟨(· < w.heap.size), []⟩ w.heap x (cs.getD k undef)
theorem CR.nil (w : World) : CR w [] [] := ⟨rfl, by simp⟩
theorem CR.one {w : World} {x : AV} {v : Value} (h : VRel ⟨(· < w.heap.size), []⟩ w.heap x v) : CR w [x] [v] := ⟨rfl, fun k y hk => by
  cases k with
  | zero => simp at hk; subst hk; simpa using h
  | succ k => simp at hk⟩
theorem CR.app {w : World} {xs ys : List AV} {cs ds : List Value} (h : CR w xs cs) (k : CR w ys ds) : CR w (xs ++ ys) (cs ++ ds) := by
  refine ⟨by simp [h.1, k.1], fun i x hi => ?_⟩
  by_cases hl : i < xs.length
  · rw [List.getElem?_append_left hl] at hi
    have := h.2 i x hi
    rw [List.getD_eq_getElem?_getD] at this ⊢
    rw [List.getElem?_append_left (by rw [h.1]; exact hl)]
    exact this
  · rw [List.getElem?_append_right (by omega)] at hi
    have := k.2 _ x hi
    rw [List.getD_eq_getElem?_getD] at this ⊢
    rw [List.getElem?_append_right (by rw [h.1]; omega), h.1]
    exact this
def Light {H : Type} (P : Program) (t : TypeId) (d : DataW H) : Prop := (d.weights P t).all (· ≤ reachBytes) = true
theorem Light.all {H : Type} {P : Program} {e : TypeId} : ∀ {ds : List (DataW H)}, (DataW.weightsAll P e ds).all (· ≤ reachBytes) = true → ∀ (i : Nat) d, ds[i]? = some d → Light P e d
  | [], _, i, d, hi => by simp at hi
  | x :: r, h, i, d, hi => by
    simp only [DataW.weightsAll, List.all_append, Bool.and_eq_true] at h
    cases i with
    | zero => simp at hi; subst hi; exact h.1
    | succ i => exact Light.all h.2 i d (by simpa using hi)
theorem Light.each {H : Type} {P : Program} : ∀ {ts : List TypeId} {ds : List (DataW H)}, (DataW.weightsEach P ts ds).all (· ≤ reachBytes) = true → ∀ (i : Nat) t d, ts[i]? = some t → ds[i]? = some d → Light P t d
  | [], ds, _, i, t, d, hi, _ => by simp at hi
  | t0 :: ts, [], _, i, t, d, _, hj => by simp at hj
  | t0 :: ts, x :: r, h, i, t, d, hi, hj => by
    simp only [DataW.weightsEach, List.all_append, Bool.and_eq_true] at h
    cases i with
    | zero => simp at hi hj; subst hi; subst hj; exact h.1
    | succ i => exact Light.each h.2 i t d (by simpa using hi) (by simpa using hj)
def ShT (P : Program) (n : Nat) (t : TypeId) {α : Type} (c : α → List AV) (ok : α → Prop) : Prop :=
  ∀ (H : Type) (enc : TypeId × Value → H) (w : World) (cs : List Value) (x : DataW H × List MemPlace),
    DataW.trod enc P w 0 (fun _ => true) true n t cs = some x → Light P t x.1 → ∃ a, ok a ∧ CR w (c a) cs
def ShU (P : Program) (N : Nat) (t : TypeId) {α : Type} (c : α → List AV) (ok : α → Prop) : Prop := ∀ n, n < N → ShT P n t c ok
theorem ShU.zero {P : Program} {t : TypeId} {α : Type} {c : α → List AV} {ok : α → Prop} : ShU P 1 t c ok := by
  intro n hn H enc w cs x h _
  obtain rfl : n = 0 := by omega
  simp [DataW.trod] at h
theorem ShU.le {P : Program} {N M : Nat} {t : TypeId} {α : Type} {c : α → List AV} {ok : α → Prop} (h : ShU P N t c ok) (hm : M ≤ N) : ShU P M t c ok := fun n hn => h n (by omega)
theorem ShU.map {P : Program} {N : Nat} {t : TypeId} {α β : Type} {c : α → List AV} {ok : α → Prop} {c' : β → List AV} {ok' : β → Prop} (h : ShU P N t c ok) (f : α → β) (hc : ∀ a, c' (f a) = c a) (ho : ∀ a, ok a → ok' (f a)) : ShU P N t c' ok' := by
  intro n hn H enc w cs x hx hw
  obtain ⟨a, h1, h2⟩ := h n hn H enc w cs x hx hw
  exact ⟨f a, ho a h1, by rw [hc]; exact h2⟩
theorem ShU.int {P : Program} {t : TypeId} {k : IntKind} (ht : P.underlying t = some (.int k)) (N : Nat) : ShU P N t (fun n : Int => [.sc (.int k n)]) (fun n => (Lit.int k n).wf = true) := by
  intro n hn H enc w cs x h _
  obtain ⟨i, rfl, _, hw⟩ := DataW.trod_int ht h
  exact ⟨i, hw, .one (.sc _ rfl)⟩
theorem ShU.bool {P : Program} {t : TypeId} (ht : P.underlying t = some .bool) (N : Nat) : ShU P N t (fun b : Bool => [.sc (.bool b)]) (fun _ => True) := by
  intro n hn H enc w cs x h _
  obtain ⟨i, rfl, _⟩ := DataW.trod_bool ht h
  exact ⟨i, trivial, .one (.sc _ rfl)⟩
theorem ShU.string {P : Program} {t : TypeId} (ht : P.underlying t = some .string) (N : Nat) : ShU P N t (fun s : ByteArray => [.sc (.string s)]) (fun s => s.size ≤ 140737488351232) := by
  intro n hn H enc w cs x h hw
  obtain ⟨i, rfl, rfl, hs⟩ := DataW.trod_string ht h
  refine ⟨i, ?_, .one (.sc _ rfl)⟩
  unfold Light at hw
  simp only [DataW.weights, List.all_cons, List.all_nil, Bool.and_true, decide_eq_true_eq] at hw
  have e : i.data.toList.length = i.size := Array.length_toList
  have h1 : i.size ≤ reachBytes := by rw [← e]; exact hw
  exact Nat.le_trans h1 (Nat.le_of_ble_eq_true rfl)
theorem cells?_some {w : World} {a : Addr} {n : Nat} {cs : List Value} (h : w.cells? 0 a n = some cs) : cs.length = n ∧ ∀ i, i < n → w.cell? (a.add i) = some (cs.getD i undef) := by
  unfold World.cells? at h
  rw [if_pos (Nat.zero_le _)] at h
  have hl := mapM_some_length h
  refine ⟨by simpa using hl, fun i hi => ?_⟩
  have := mapM_some_get h i i (by simp [hi])
  have hi' : i < cs.length := by simp at hl; omega
  rw [this, List.getD_eq_getElem?_getD, List.getElem?_eq_getElem hi']
  rfl
theorem cell_block {w : World} {a : Addr} {v : Value} (h : w.cell? a = some v) : ∃ arr e fr, w.heap[a.block]? = some (.cells arr e fr) ∧ a.spot = none ∧ arr[a.off]? = some v := by
  unfold World.cell? at h
  split at h
  · rename_i c e fr hb
    split at h
    · cases h
    · rename_i hs
      exact ⟨c, e, fr, hb, by simpa using hs, h⟩
  · cases h
theorem choose_list {α : Type} [Inhabited α] {p : Nat → α → Prop} (n : Nat) (h : ∀ i, i < n → ∃ a, p i a) : ∃ l : List α, l.length = n ∧ ∀ (i : Nat) a, l[i]? = some a → p i a := by
  induction n with
  | zero => exact ⟨[], rfl, by simp⟩
  | succ n ih =>
    obtain ⟨l, h1, h2⟩ := ih (fun i hi => h i (by omega))
    obtain ⟨a, ha⟩ := h n (by omega)
    refine ⟨l ++ [a], by simp [h1], fun i b hb => ?_⟩
    by_cases hi : i < l.length
    · rw [List.getElem?_append_left hi] at hb; exact h2 i b hb
    · rw [List.getElem?_append_right (by omega)] at hb
      have : i - l.length = 0 := by
        cases hq : i - l.length with
        | zero => rfl
        | succ q => rw [hq] at hb; simp at hb
      rw [this] at hb
      simp at hb
      subst hb
      have : i = n := by omega
      subst this; exact ha
theorem ShU.slice {P : Program} {N : Nat} {t e : TypeId} {α : Type} [Inhabited α] {c : α → List AV} {ok : α → Prop} (ht : P.underlying t = some (.slice e)) (he : ShU P N e c ok) (hsz : ∀ a, ok a → (c a).length = P.cellsOf e) (hpos : 0 < P.cellsOf e) (hby : Nat.blt 0 (P.bytesOf e) = true) :
    ShU P (N + 1) t (fun l : List α => [.lst false (l.map c)]) (fun l => l.length ≤ 140737488351232 ∧ ∀ a, a ∈ l → ok a) := by
  intro n hn H enc w cs x h hw
  rcases DataW.trod_slice ht h with ⟨rfl, _⟩ | ⟨a, len, cap, elems, rest, m, rfl, rfl, rfl, _, hl, hc, hel, hget, _, _⟩
  · exact ⟨[], ⟨by simp, by simp⟩, .one (.nil _)⟩
  · have hwl : (DataW.weightsAll P e (elems.map (·.1))).all (· ≤ reachBytes) = true := by
      unfold Light at hw
      simp only [DataW.weights, ht, List.all_cons, List.all_append, Bool.and_eq_true] at hw
      exact hw.2.1
    have hlr : len ≤ 140737488351232 := by
      unfold Light at hw
      simp only [DataW.weights, ht, List.all_cons, List.all_append, Bool.and_eq_true, decide_eq_true_eq] at hw
      have h1 := hw.1
      have hb1 : 1 ≤ P.bytesOf e := Nat.le_of_ble_eq_true hby
      have h2 : ((elems.map (·.1)).length + (rest.map (·.1)).length) * 1 ≤ ((elems.map (·.1)).length + (rest.map (·.1)).length) * P.bytesOf e := Nat.mul_le_mul_left _ hb1
      simp only [List.length_map] at h1 h2
      have h3 : reachBytes ≤ 140737488351232 := Nat.le_of_ble_eq_true rfl
      have h4 := Nat.le_trans h2 (Nat.le_trans h1 h3)
      omega
    have key : ∀ i, i < len → ∃ b, ok b ∧ ∃ cs', w.cells? 0 (a.add (i * P.cellsOf e)) (P.cellsOf e) = some cs' ∧ CR w (c b) cs' := by
      intro i hi
      have h1 := hget i hi
      have hie : i < elems.length := by omega
      rw [List.getElem?_eq_getElem hie] at h1
      obtain ⟨cs', h2, h3⟩ := Option.bind_eq_some_iff.1 h1
      obtain ⟨b, h4, h5⟩ := he m (by omega) H enc w cs' _ h3 (Light.all hwl i _ (by rw [List.getElem?_map, List.getElem?_eq_getElem hie]; rfl))
      exact ⟨b, h4, cs', h2, h5⟩
    obtain ⟨l, hll, hlp⟩ := choose_list len key
    refine ⟨l, ⟨by rw [hll]; exact hlr, fun b hb => ?_⟩, .one ?_⟩
    · obtain ⟨i, hi⟩ := List.mem_iff_getElem?.1 hb
      exact (hlp i b hi).1
    · have hlm : (l.map c).length = len := by simp [hll]
      rw [← hlm]
      cases Nat.eq_zero_or_pos len with
      | inl h0 =>
        have : l = [] := List.eq_nil_of_length_eq_zero (by omega)
        subst this
        exact .emp _ a cap (by simp)
      | inr hp =>
        have hl0 : 0 < l.length := by omega
        obtain ⟨_, cs0, h1, _⟩ := hlp 0 l[0] (List.getElem?_eq_getElem hl0)
        obtain ⟨hcl, hcg⟩ := cells?_some h1
        have hc0 := hcg 0 hpos
        obtain ⟨arr, el, fr, hb, hs, _⟩ := cell_block hc0
        have hadd : ∀ k : Nat, a.spot = none → (a.add k).spot = none ∧ (a.add k).off = a.off + k := by
          intro k hk; unfold Addr.add; split <;> simp_all
        have hab : ∀ (b : Addr) (j : Nat), (b.add j).block = b.block := by
          intro b j; unfold Addr.add; split <;> rfl
        have e0 : ((a.add (0 * P.cellsOf e)).add 0).block = a.block ∧ ((a.add (0 * P.cellsOf e)).add 0).spot = a.spot := by
          unfold Addr.add; split <;> simp_all
        rw [e0.1] at hb
        rw [e0.2] at hs
        have hz : rowsOk (P.cellsOf e) (l.map c) := fun r hr => by
          obtain ⟨b, hbm, rfl⟩ := List.mem_map.1 hr
          obtain ⟨i, hi⟩ := List.mem_iff_getElem?.1 hbm
          exact hsz b (hlp i b hi).1
        have hfl := flatten_len hz
        refine .lst false (l.map c) (P.cellsOf e) a cap arr el fr (fun k => arr.getD (a.off + k) undef) hb hs (by omega) (by simp) (Array.getElem?_eq_some_iff.1 hb).1 hz ?_ ?_
        all_goals
          intro k x hk
          have hkl : k < (l.map c).length * P.cellsOf e := by rw [← hfl]; exact (List.getElem?_eq_some_iff.1 hk).1
          have hq : k / P.cellsOf e < l.length := by
            rw [List.length_map] at hkl
            exact Nat.div_lt_of_lt_mul (by rw [Nat.mul_comm]; exact hkl)
          have hr : k % P.cellsOf e < P.cellsOf e := Nat.mod_lt _ hpos
          have hdm : k / P.cellsOf e * P.cellsOf e + k % P.cellsOf e = k := by
            have := Nat.div_add_mod k (P.cellsOf e); rw [Nat.mul_comm] at this; exact this
          obtain ⟨_, cs', h1, h2⟩ := hlp (k / P.cellsOf e) _ (List.getElem?_eq_getElem hq)
          obtain ⟨hcl, hcg⟩ := cells?_some h1
          have hc1 := hcg _ hr
          have hrow : (l.map c)[k / P.cellsOf e]? = some (c l[k / P.cellsOf e]) := by rw [List.getElem?_map, List.getElem?_eq_getElem hq]; rfl
          have hx : (c l[k / P.cellsOf e])[k % P.cellsOf e]? = some x := by
            have hlt : k % P.cellsOf e < (c l[k / P.cellsOf e]).length := by rw [hsz _ (hlp _ _ (List.getElem?_eq_getElem hq)).1]; exact hr
            have := flatten_get hz hrow (List.getElem?_eq_getElem hlt)
            rw [hdm] at this
            rw [this] at hk
            rw [List.getElem?_eq_getElem hlt]; exact hk
          obtain ⟨arr', el', fr', hb', hs', hv'⟩ := cell_block hc1
          have e1 : ((a.add (k / P.cellsOf e * P.cellsOf e)).add (k % P.cellsOf e)).block = a.block := by rw [hab, hab]
          have e2 : ((a.add (k / P.cellsOf e * P.cellsOf e)).add (k % P.cellsOf e)).off = a.off + k := by
            have a1 := (hadd (k / P.cellsOf e * P.cellsOf e) hs).2
            have a2 := (hadd (k / P.cellsOf e * P.cellsOf e) hs).1
            have : ∀ (b : Addr) (j : Nat), b.spot = none → (b.add j).off = b.off + j := by
              intro b j hb; unfold Addr.add; split <;> simp_all
            rw [this _ _ a2, a1]
            omega
          rw [e1, hb] at hb'
          cases hb'
          rw [e2] at hv'
          have hgd : arr.getD (a.off + k) undef = cs'.getD (k % P.cellsOf e) undef := by
            rw [Array.getD_eq_getD_getElem?, hv']; rfl
        · rw [hgd]; exact hv'
        · show VRel _ _ x (arr.getD (a.off + k) undef)
          rw [hgd]
          exact h2.2 _ x hx
def structOf (P : Program) (t : TypeId) : Option (List (TypeId × Nat)) := match P.underlying t with | some (.struct fs) => some (fs.toList.map fun f => (f.type, f.offset)) | _ => none
inductive ShF (P : Program) (N : Nat) : Nat → List (TypeId × Nat) → {α : Type} → (α → List AV) → (α → Prop) → Prop where
  | nil (o : Nat) : ShF P N o [] (fun _ : Unit => []) (fun _ => True)
  | cons {o : Nat} {t : TypeId} {fs : List (TypeId × Nat)} {α β : Type} {c : α → List AV} {ok : α → Prop} {c' : β → List AV} {ok' : β → Prop} (h : ShU P N t c ok) (k : ShF P N (o + P.cellsOf t) fs c' ok') :
      ShF P N o ((t, o) :: fs) (fun x : α × β => c x.1 ++ c' x.2) (fun x => ok x.1 ∧ ok' x.2)
def fieldsSize (P : Program) (fs : List (TypeId × Nat)) : Nat := (fs.map fun f => P.cellsOf f.1).foldr (· + ·) 0
theorem ShF.read {P : Program} {N n o : Nat} {fs : List (TypeId × Nat)} {α : Type} {c : α → List AV} {ok : α → Prop} (h : ShF P N o fs c ok) (hn : n < N) {H : Type} {enc : TypeId × Value → H} {w : World} (cs : List Value)
    (hlen : cs.length = o + fieldsSize P fs) (hx : ∀ (i : Nat) f, fs[i]? = some f → ∃ x, DataW.trod enc P w 0 (fun _ => true) true n f.1 ((cs.drop f.2).take (P.cellsOf f.1)) = some x ∧ Light P f.1 x.1) :
    ∃ a, ok a ∧ CR w (c a) (cs.drop o) := by
  induction h with
  | nil o =>
    refine ⟨(), trivial, ?_⟩
    rw [List.drop_of_length_le (by simp [fieldsSize] at hlen; omega)]
    exact .nil w
  | @cons o t fs α β c ok c' ok' h k ih =>
    obtain ⟨x, hx0, hxw⟩ := hx 0 _ rfl
    obtain ⟨a, ha, hr⟩ := h n hn H enc w _ x hx0 hxw
    have hfs : fieldsSize P ((t, o) :: fs) = P.cellsOf t + fieldsSize P fs := rfl
    obtain ⟨b, hb, hs⟩ := ih (by omega) (fun i g hg => hx (i + 1) g hg)
    refine ⟨(a, b), ⟨ha, hb⟩, ?_⟩
    have e : cs.drop o = (cs.drop o).take (P.cellsOf t) ++ cs.drop (o + P.cellsOf t) := by
      rw [← List.drop_drop, List.take_append_drop]
    rw [e]
    exact hr.app hs
theorem ShU.struct {P : Program} {N : Nat} {t : TypeId} {fs : List (TypeId × Nat)} {α : Type} {c : α → List AV} {ok : α → Prop} (ht : structOf P t = some fs) (hf : ShF P N 0 fs c ok) (hsz : P.cellsOf t = fieldsSize P fs) : ShU P (N + 1) t c ok := by
  intro n hn H enc w cs x h hw
  unfold structOf at ht
  split at ht
  · rename_i gs hu
    simp only [Option.some.injEq] at ht
    subst ht
    obtain ⟨xs, m, rfl, rfl, hl, hxl, hg⟩ := DataW.trod_struct hu h
    have hwl : (DataW.weightsEach P (gs.toList.map (·.type)) (xs.map (·.1))).all (· ≤ reachBytes) = true := by
      unfold Light at hw
      simp only [DataW.weights, hu] at hw
      exact hw
    obtain ⟨a, ha, hr⟩ := hf.read (n := m) (by omega) (w := w) (enc := enc) cs (by rw [hl, hsz]; simp) (fun i f hi => by
      simp only [List.getElem?_map, Option.map_eq_some_iff] at hi
      obtain ⟨g, hgi, rfl⟩ := hi
      have h1 := hg i g (by simpa using hgi)
      have hil : i < xs.length := by
        rw [hxl]; have := (List.getElem?_eq_some_iff.1 hgi).1; simpa using this
      rw [List.getElem?_eq_getElem hil] at h1
      exact ⟨_, h1, Light.each hwl i _ _ (by rw [List.getElem?_map, hgi]; rfl) (by rw [List.getElem?_map, List.getElem?_eq_getElem hil]; rfl)⟩)
    exact ⟨a, ha, by simpa using hr⟩
  · cases ht
def Opq (k : Nat) (xs : List AV) : Prop := xs.length = k ∧ ∀ x, x ∈ xs → HF x
theorem Opq.sc (v : Value) : Opq 1 [.sc v] := ⟨rfl, fun x hx => by simp at hx; subst hx; exact HF.sc v⟩
theorem Opq.app {a b : Nat} {xs ys : List AV} (h : Opq a xs) (k : Opq b ys) : Opq (a + b) (xs ++ ys) :=
  ⟨by simp [h.1, k.1], fun x hx => (List.mem_append.1 hx).elim (h.2 x) (k.2 x)⟩
theorem Opq.nil : Opq 0 [] := ⟨rfl, by simp⟩
theorem Opq.lst {k : Nat} {l : List (List AV)} (h : ∀ a, a ∈ l → Opq k a) : Opq 1 [.lst false l] := ⟨rfl, fun x hx => by
  simp at hx; subst hx
  exact HF.lst fun r hr c hc => (h r hr).2 c hc⟩
theorem ShU.arg1 {P : Program} {t : TypeId} {α : Type} {c : α → AV} {ok : α → Prop} (h : ∀ N, ShU P N t (fun a => [c a]) ok) (hone : ∀ (w : World) (r : Reach) (b : Nat) (v : Value), Value.okWide P w r b t v → v.cells = #[v])
    {H : Type} {enc : TypeId × Value → H} {w : World} {r : Reach} {b : Nat} {v : Value} {d : DataW H} {ps : List MemPlace} (hok : Value.okWide P w r b t v) (hd : DataW.Trod enc P w 0 (fun _ => true) true t v d ps) (hw : Light P t d) :
    ∃ a, ok a ∧ VRel ⟨(· < w.heap.size), []⟩ w.heap (c a) v := by
  obtain ⟨n, hn⟩ := hd
  obtain ⟨a, ha, hr⟩ := h (n + 1) n (by omega) H enc w _ _ hn hw
  rw [hone w r b v hok] at hr
  have := hr.2 0 (c a) rfl
  exact ⟨a, ha, by simpa using this⟩
theorem ShU.argS {P : Program} {t : TypeId} {α : Type} {c : α → List AV} {ok : α → Prop} {fs : Array Field} (h : ∀ N, ShU P N t c ok) (ht : P.underlying t = some (.struct fs))
    {H : Type} {enc : TypeId × Value → H} {w : World} {r : Reach} {b : Nat} {v : Value} {d : DataW H} {ps : List MemPlace} (hok : Value.okWide P w r b t v) (hd : DataW.Trod enc P w 0 (fun _ => true) true t v d ps) (hw : Light P t d) :
    ∃ a, ok a ∧ VRel ⟨(· < w.heap.size), []⟩ w.heap (.agg (c a)) v := by
  obtain ⟨n, hn⟩ := hd
  obtain ⟨a, ha, hr⟩ := h (n + 1) n (by omega) H enc w _ _ hn hw
  unfold Value.okWide at hok
  rw [ht] at hok
  obtain ⟨cs, rfl, _, _⟩ := hok
  refine ⟨a, ha, .agg _ _ (by simpa [Value.cells] using hr.1) (fun k x hk => ?_)⟩
  have := hr.2 k x hk
  simpa [Value.cells, Array.getD_eq_getD_getElem?, List.getD_eq_getElem?_getD] using this
theorem one_int_ty {P : Program} {t : TypeId} {k : IntKind} (ht : P.underlying t = some (.int k)) (w : World) (r : Reach) (b : Nat) (v : Value) (h : Value.okWide P w r b t v) : v.cells = #[v] := by
  unfold Value.okWide at h
  rw [ht] at h
  simp only [Cell.okWide, ht] at h
  cases v <;> simp_all [Value.cells, Cell.ok]
theorem one_bool_ty {P : Program} {t : TypeId} (ht : P.underlying t = some .bool) (w : World) (r : Reach) (b : Nat) (v : Value) (h : Value.okWide P w r b t v) : v.cells = #[v] := by
  unfold Value.okWide at h
  rw [ht] at h
  simp only [Cell.okWide, ht] at h
  cases v <;> simp_all [Value.cells, Cell.ok]
theorem one_string_ty {P : Program} {t : TypeId} (ht : P.underlying t = some .string) (w : World) (r : Reach) (b : Nat) (v : Value) (h : Value.okWide P w r b t v) : v.cells = #[v] := by
  unfold Value.okWide at h
  rw [ht] at h
  simp only [Cell.okWide, ht] at h
  cases v <;> simp_all [Value.cells, Cell.ok]
theorem one_slice_ty {P : Program} {t e : TypeId} (ht : P.underlying t = some (.slice e)) (w : World) (r : Reach) (b : Nat) (v : Value) (h : Value.okWide P w r b t v) : v.cells = #[v] := by
  unfold Value.okWide at h
  rw [ht] at h
  simp only [Cell.okWide, ht] at h
  cases v <;> simp_all [Value.cells, Cell.ok]
end Go.EvW


namespace Go.EvW
open Go Go.Ev Go.RowKit Go.ChangeShapes Go.WideShapes
def ArgSh (P : Program) (t : TypeId) {α : Type} (c : α → AV) (ok : α → Prop) : Prop :=
  ∀ (H : Type) (enc : TypeId × Value → H) (w : World) (r : Reach) (b : Nat) (v : Value) (d : DataW H) (ps : List MemPlace), Value.okWide P w r b t v → DataW.Trod enc P w 0 (fun _ => true) true t v d ps → Light P t d →
    ∃ a, ok a ∧ VRel ⟨(· < w.heap.size), []⟩ w.heap (c a) v
theorem ArgSh.struct {P : Program} {t : TypeId} {α : Type} {c : α → List AV} {ok : α → Prop} (ht : (structOf P t).isSome = true) (h : ∀ N, ShU P N t c ok) : ArgSh P t (fun a => .agg (c a)) ok := by
  intro H enc w r b v d ps h1 h2 h3
  unfold structOf at ht
  split at ht
  · rename_i fs hu; exact ShU.argS h hu h1 h2 h3
  · simp at ht
theorem ArgSh.slice {P : Program} {t e : TypeId} {α : Type} {c : α → AV} {ok : α → Prop} (ht : P.underlying t = some (.slice e)) (h : ∀ N, ShU P N t (fun a => [c a]) ok) : ArgSh P t c ok :=
  fun H enc w r b v d ps h1 h2 h3 => ShU.arg1 h (one_slice_ty ht) h1 h2 h3
theorem ArgSh.int {P : Program} {t : TypeId} {k : IntKind} {α : Type} {c : α → AV} {ok : α → Prop} (ht : P.underlying t = some (.int k)) (h : ∀ N, ShU P N t (fun a => [c a]) ok) : ArgSh P t c ok :=
  fun H enc w r b v d ps h1 h2 h3 => ShU.arg1 h (one_int_ty ht) h1 h2 h3
theorem ArgSh.string {P : Program} {t : TypeId} {α : Type} {c : α → AV} {ok : α → Prop} (ht : P.underlying t = some .string) (h : ∀ N, ShU P N t (fun a => [c a]) ok) : ArgSh P t c ok :=
  fun H enc w r b v d ps h1 h2 h3 => ShU.arg1 h (one_string_ty ht) h1 h2 h3
theorem ArgSh.bool {P : Program} {t : TypeId} {α : Type} {c : α → AV} {ok : α → Prop} (ht : P.underlying t = some .bool) (h : ∀ N, ShU P N t (fun a => [c a]) ok) : ArgSh P t c ok :=
  fun H enc w r b v d ps h1 h2 h3 => ShU.arg1 h (one_bool_ty ht) h1 h2 h3
inductive ArgF (P : Program) : List TypeId → {α : Type} → (α → List AV) → (α → Prop) → Prop where
  | nil : ArgF P [] (fun _ : Unit => []) (fun _ => True)
  | cons {t : TypeId} {ts : List TypeId} {α β : Type} {c : α → AV} {ok : α → Prop} {c' : β → List AV} {ok' : β → Prop} (h : ArgSh P t c ok) (k : ArgF P ts c' ok') : ArgF P (t :: ts) (fun x : α × β => c x.1 :: c' x.2) (fun x => ok x.1 ∧ ok' x.2)
theorem ArgF.read {P : Program} {ts : List TypeId} {α : Type} {c : α → List AV} {ok : α → Prop} (h : ArgF P ts c ok) {H : Type} {enc : TypeId × Value → H} {w : World} {r : Reach} {b : Nat} :
    ∀ {vs : List Value} {ds : List (DataW H)} {ps : List MemPlace}, DataW.TrodAll enc P w 0 (fun _ => true) true ts vs ds ps → (∀ (j : Nat) t v, ts[j]? = some t → vs[j]? = some v → Value.okWide P w r b t v) → (DataW.weightsEach P ts ds).all (· ≤ reachBytes) = true →
    ∃ a, ok a ∧ ds.length = ts.length ∧ vs.length = (c a).length ∧ ∀ (k : Nat) x, (c a)[k]? = some x → VRel ⟨(· < w.heap.size), []⟩ w.heap x (vs.getD k undef) := by
  induction h with
  | nil =>
    intro vs ds ps ht _ _
    obtain ⟨rfl, rfl, rfl⟩ := trodAll_nil ht
    exact ⟨(), trivial, rfl, rfl, by simp⟩
  | @cons t ts α β c ok c' ok' h k ih =>
    intro vs ds ps ht hk hw
    obtain ⟨v, vs', d, ds', p, q, rfl, rfl, rfl, h1, h2⟩ := trodAll_cons ht
    simp only [DataW.weightsEach, List.all_append, Bool.and_eq_true] at hw
    obtain ⟨a, ha, hr⟩ := h H enc w r b v d p (hk 0 t v rfl rfl) h1 hw.1
    obtain ⟨a', ha', hdl, hl, hg⟩ := ih h2 (fun j t v => hk (j + 1) t v) hw.2
    refine ⟨(a, a'), ⟨ha, ha'⟩, by simp [hdl], by simp [hl], fun k x hx => ?_⟩
    cases k with
    | zero => simp at hx; subst hx; simpa using hr
    | succ k =>
      simp only [List.getElem?_cons_succ] at hx
      simpa [List.getD_eq_getElem?_getD] using hg k x hx
theorem trodAll_stays {P : Program} (hl : laidOutB P = true) {H : Type} {enc : TypeId × Value → H} {W W' : World} {sp : Nat → Bool} : ∀ {ts : List TypeId} {vs : List Value} {ds : List (DataW H)} {ps : List MemPlace},
    (∀ t, t ∈ ts → P.readableRec t = true ∧ t < P.types.size) → DataW.TrodAll enc P W 0 (fun _ => true) true ts vs ds ps → (∀ p ∈ ps, W.sameAt W' p) → (∀ p ∈ ps, sp p.block = true) → DataW.TrodAll enc P W' 0 sp true ts vs ds ps
  | [], vs, ds, ps, _, h, _, _ => by
    obtain ⟨rfl, rfl, rfl⟩ := trodAll_nil h
    exact trodAll_mk0
  | t :: ts, vs, ds, ps, hr, h, h1, h2 => by
    obtain ⟨v, vs', d, ds', p, q, rfl, rfl, rfl, g1, g2⟩ := trodAll_cons h
    have ht := hr t (by simp)
    exact trodAll_cons_mk (WideElems.Trod_stays hl ht.1 ht.2 g1 (fun x hx => h1 x (by simp [hx])) (fun x hx => h2 x (by simp [hx])))
      (trodAll_stays hl (fun t ht => hr t (by simp [ht])) g2 (fun x hx => h1 x (by simp [hx])) (fun x hx => h2 x (by simp [hx])))
theorem law_row {P : Program} {f : FuncId} {fn : Func} {s : ChangeSpec} {ts : List TypeId} {tb : TypeId} {α : Type} {c : α → List AV} {ok : α → Prop} (hp : fn.params = ts.toArray) (hF : ArgF P ts c ok) (hv : s.vars = [])
    (hfn : ∀ (H : Type) (ds : List (DataW H)), ds.length = ts.length → s.fn H ds = { results := [.lit (.bool true)], args := ds }) (hr : fn.resultTypes = #[tb]) (htb : P.underlying tb = some .bool)
    (hl : laidOutB P = true) (hrr : (ts.all fun t => P.readableRec t && decide (t < P.types.size)) = true) (hS : ∀ a, ok a → SoundP P f (c a) (aB true))
    (H : Type) (enc : TypeId × Value → H) (W : World) (base : Nat) (args : Array Value) (ds gs : List (DataW H)) (before : List MemPlace)
    (hval : ∀ (j : Nat) t v, fn.params[j]? = some t → args[j]? = some v → Value.okWide P W .any base t v) (hW : DataW.Whole enc P fn.params.toList s.vars false W args.toList ds gs before) (hwt : (DataW.weightsEach P fn.params.toList ds).all (· ≤ reachBytes) = true) (hT : TabOk (· < W.heap.size) W.heap) :
    Calls P f args W fun e W' => ∃ v, e = .returned v ∧ s.post enc P fn false true false false W args v W' := by
  have hW' := hW
  obtain ⟨p, q, hA, hV, hpq, hfz, _⟩ := hW
  rw [hv] at hV
  obtain ⟨hg, hq⟩ := trodVars_none hV
  subst hg; subst hq
  rw [List.append_nil] at hpq
  subst hpq
  rw [hp] at hA hval
  obtain ⟨a, ha, hdl, hvl, hvg⟩ := hF.read (r := .any) (b := base) hA (fun j t v h1 h2 => hval j t v (by simpa using h1) (by simpa using h2)) (by rw [hp] at hwt; exact hwt)
  have hlt : ∀ x, x ∈ before → x.block < W.heap.size := fun x hx => hA.lt x hx
  obtain ⟨_, hcall⟩ := hS a ha
  refine (hcall (· < W.heap.size) W args (Sim.empty (fun _ h => h) hT) ⟨by simpa using hvl, fun k x hk => ?_⟩).mono fun e W' ⟨imm', v, he, _, _, hb, hrv⟩ => ?_
  · have := hvg k x hk
    simpa [Array.getD_eq_getD_getElem?, List.getD_eq_getElem?_getD] using this
  · have hvb : v = .bool true := by cases hrv; rfl
    subst hvb
    refine ⟨_, he, ds, [], before, [], before, [], hW', ?_, ?_, ?_, World.keptBut_mono (fun x hx => ⟨hx, .inr (.inl hx)⟩) (hb.frame (· ∈ before)), fun h => by cases h⟩
    all_goals try rw [List.append_nil]
    all_goals try rw [hfn H ds hdl]
    · rw [hr]
      exact trodAll_cons_mk (p' := []) (shut_bool htb true) trodAll_mk0
    · rw [hp]
      refine trodAll_stays hl (fun t ht => ?_) hA (fun x hx => hb.same (hlt x hx)) (fun x hx => by simpa using hlt x hx)
      have := List.all_eq_true.1 hrr t ht
      simpa using this
    · rw [hv]; rfl
theorem ShF.cons' {P : Program} {N o o' : Nat} {t : TypeId} {fs : List (TypeId × Nat)} {α β : Type} {c : α → List AV} {ok : α → Prop} {c' : β → List AV} {ok' : β → Prop} (ho : o + P.cellsOf t = o') (h : ShU P N t c ok) (k : ShF P N o' fs c' ok') :
    ShF P N o ((t, o) :: fs) (fun x : α × β => c x.1 ++ c' x.2) (fun x => ok x.1 ∧ ok' x.2) := by
  subst ho; exact .cons h k
theorem laid_vars {P : Program} {w : World} : ∀ {laid : List (String × DataW Unit)} {ps : List MemPlace}, DataW.LaidVars P w laid ps → ∀ x, x ∈ laid → ∃ g t cs fuel p, P.globalNamed x.1 = some g ∧ (P.globals[g]?).map (·.type) = some t ∧ w.var? P x.1 = some cs ∧ DataW.trod (fun _ => ()) P w 0 (fun _ => true) false fuel t cs.toList = some (x.2, p)
  | [], _, _, x, hx => by simp at hx
  | (n, d) :: r, ps, h, x, hx => by
    obtain ⟨g, t, cs, fuel, p, q, h1, h2, h3, h4, h5, _⟩ := h
    rcases List.mem_cons.1 hx with rfl | hx
    · exact ⟨g, t, cs, fuel, p, h1, h2, h3, h4⟩
    · exact laid_vars h5 x hx
theorem tab_ints {P : Program} {w : World} {t e : TypeId} {n fuel : Nat} {k : IntKind} (ht : P.underlying t = some (.array n e)) (he : P.underlying e = some (.int k)) (hc : P.cellsOf e = 1) (hct : P.cellsOf t = n) {cs : List Value} {ns : List Int} {p : List MemPlace}
    (h : DataW.trod (fun _ => ()) P w 0 (fun _ => true) false fuel t cs = some (.agg (ns.map fun i => .lit (.int k i)), p)) : cs = ns.map fun i => .int k i := by
  obtain ⟨xs, m, _, hx, hl, hn, hel⟩ := DataW.trod_array ht h
  simp only [Prod.mk.injEq, DataW.agg.injEq] at hx
  have hx := hx.1
  have hns : ns.length = n := by have := congrArg List.length hx; simp at this; omega
  rw [hct] at hl
  rw [hc] at hel
  apply List.ext_getElem
  · simp [hl, hns]
  · intro i h1 h2
    have h3 := hel i (by omega)
    rw [Nat.mul_one] at h3
    have hxi : i < xs.length := by omega
    rw [List.getElem?_eq_getElem hxi] at h3
    obtain ⟨z, e1, e2, _⟩ := DataW.trod_int he h3
    have h4 : (xs[i]).1 = DataW.lit (.int k z) := by rw [e2]
    have h5 : (ns.map fun i => (DataW.lit (.int k i) : DataW Unit))[i]? = (xs.map (·.1))[i]? := by rw [hx]
    rw [List.getElem?_map, List.getElem?_map, List.getElem?_eq_getElem hxi, List.getElem?_eq_getElem (by omega)] at h5
    simp only [Option.map_some, Option.some.injEq] at h5
    rw [h4] at h5
    simp only [DataW.lit.injEq, Lit.int.injEq, true_and] at h5
    have h6 : (cs.drop i).take 1 = [cs[i]] := by rw [List.drop_eq_getElem_cons h1]; rfl
    rw [h6] at e1
    simp only [List.cons.injEq, and_true] at e1
    rw [e1, List.getElem_map, h5]
theorem var_obj {P : Program} {w : World} {name : String} {g : Nat} {cs : Array Value} (hg : P.globalNamed name = some g) (h : w.var? P name = some cs) : ∃ e fr, w.heap[g]? = some (.cells cs e fr) := by
  unfold World.var? at h
  rw [hg] at h
  simp only [Option.bind_some] at h
  split at h
  · rename_i c e fr hh; cases h; exact ⟨e, fr, hh⟩
  · cases h
end Go.EvW


namespace Go.Proofs.YtcfopdccdeeleaaGreatDoor.DT
open Go Go.Ev Go.EvW Go.Proofs Go.Proofs.YtcfopdccdeeleaaGreatDoor Go.Proofs.YtcfopdccdeeleaaGreatDoor.Y1 Go.Proofs.YtcfopdccdeeleaaGreatDoor.Y2 Go.Proofs.YtcfopdccdeeleaaGreatDoor.Y3 Go.Proofs.YtcfopdccdeeleaaGreatDoor.Y4 Go.Proofs.YtcfopdccdeeleaaGreatDoor.P1 Go.Proofs.YtcfopdccdeeleaaGreatDoor.P2 Go.Proofs.YtcfopdccdeeleaaGreatDoor.YF Go.Proofs.YtcfopdccdeeleaaGreatDoor.Y9
theorem unInt : Tryz.prog.underlying 3 = some (.int .i64) := by kernel_rfl
theorem unBool : Tryz.prog.underlying 4 = some .bool := by kernel_rfl
theorem unString : Tryz.prog.underlying 9 = some .string := by kernel_rfl
theorem unInts : Tryz.prog.underlying 52 = some (.slice 3) := by kernel_rfl
theorem unSorts : Tryz.prog.underlying 22 = some (.slice 108) := by kernel_rfl
theorem unFields : Tryz.prog.underlying 23 = some (.slice 74) := by kernel_rfl
theorem unNodes : Tryz.prog.underlying 29 = some (.slice 31) := by kernel_rfl
theorem unParams : Tryz.prog.underlying 28 = some (.slice 54) := by kernel_rfl
theorem unPreds : Tryz.prog.underlying 24 = some (.slice 76) := by kernel_rfl
theorem unFacts : Tryz.prog.underlying 25 = some (.slice 70) := by kernel_rfl
abbrev okI (n : Int) : Prop := -9223372036854775808 ≤ n ∧ n ≤ 9223372036854775807
abbrev okS (s : ByteArray) : Prop := s.size ≤ 140737488351232
instance : Inhabited Nd := ⟨.mk 0 ⟨#[]⟩ 0 [] 0⟩
instance : Inhabited Pd := ⟨⟨⟨#[]⟩, [], default⟩⟩
instance : Inhabited Fld := ⟨⟨⟨#[]⟩, [], false⟩⟩
theorem shInt (N : Nat) : ShU Tryz.prog N 3 (fun n : Int => [aI n]) okI :=
  (ShU.int unInt N).map (fun n => n) (fun _ => rfl) (fun n h => by
    simp [Lit.wf, IntKind.min, IntKind.max, IntKind.signed, IntKind.bits] at h
    exact h)
theorem shBool (N : Nat) : ShU Tryz.prog N 4 (fun b : Bool => [aB b]) (fun _ => True) := ShU.bool unBool N
theorem shString (N : Nat) : ShU Tryz.prog N 9 (fun s : ByteArray => [aS s]) okS := ShU.string unString N
theorem shInts (N : Nat) : ShU Tryz.prog N 52 (fun xs : List Int => [lI xs]) (fun l => l.length ≤ 140737488351232 ∧ ∀ x, x ∈ l → okI x) :=
  ((ShU.slice unInts (shInt N) (fun _ _ => by kernel_rfl) (Nat.lt_of_lt_of_eq Nat.zero_lt_one (by kernel_rfl)) (by kernel_rfl)).le (by omega)).map (fun l => l) (fun _ => rfl) fun _ h => h
theorem shField (N : Nat) : ShU Tryz.prog N 74 cField (fun f => f.sorts.length ≤ 140737488351232 ∧ ∀ x, x ∈ f.sorts → okI x) :=
  ((ShU.struct (fs := [(9, 0), (52, 1), (4, 2)]) (by kernel_rfl) (.cons' (o' := 1) (by kernel_rfl) (shString N) (.cons' (o' := 2) (by kernel_rfl) (shInts N) (.cons' (o' := 3) (by kernel_rfl) (shBool N) (.nil 3)))) (by kernel_rfl)).map
    (fun x => (⟨x.1, x.2.1, x.2.2.1⟩ : Fld)) (fun _ => rfl) (fun x h => h.2.1)).le (by omega)
theorem shSort (N : Nat) : ShU Tryz.prog N 108 cSort (fun s => okS s.1) :=
  ((ShU.struct (fs := [(9, 0), (4, 1)]) (by kernel_rfl) (.cons' (o' := 1) (by kernel_rfl) (shString N) (.cons' (o' := 2) (by kernel_rfl) (shBool N) (.nil 2))) (by kernel_rfl)).map
    (fun x => ((x.1, x.2.1) : ByteArray × Bool)) (fun _ => rfl) (fun x h => h.1)).le (by omega)
theorem shNode : ∀ N : Nat, ShU Tryz.prog N 31 cNd (fun _ => True)
  | 0 => fun n hn => absurd hn (by omega)
  | N + 1 =>
    have ks : ShU Tryz.prog N 29 (fun l : List Nd => [.lst false (l.map cNd)]) (fun _ => True) := ((ShU.slice unNodes (shNode N) (fun a _ => (cNd_len a).trans (by kernel_rfl)) (Nat.lt_of_lt_of_eq (show 0 < 5 by omega) (by kernel_rfl)) (by kernel_rfl)).le (by omega)).map (fun l => l) (fun _ => rfl) fun _ _ => trivial
    ((ShU.struct (fs := [(3, 0), (9, 1), (3, 2), (29, 3), (3, 4)]) (by kernel_rfl)
      (.cons' (o' := 1) (by kernel_rfl) (shInt N) (.cons' (o' := 2) (by kernel_rfl) (shString N) (.cons' (o' := 3) (by kernel_rfl) (shInt N) (.cons' (o' := 4) (by kernel_rfl) ks (.cons' (o' := 5) (by kernel_rfl) (shInt N) (.nil 5)))))) (by kernel_rfl))).map
      (fun x => Nd.mk x.1 x.2.1 x.2.2.1 x.2.2.2.1 x.2.2.2.2.1) (fun x => by rw [cNd_eq]; rfl) fun _ _ => trivial
theorem shParam (N : Nat) : ShU Tryz.prog N 54 cPm (fun p => okI p.2) :=
  ((ShU.struct (fs := [(9, 0), (3, 1)]) (by kernel_rfl) (.cons' (o' := 1) (by kernel_rfl) (shString N) (.cons' (o' := 2) (by kernel_rfl) (shInt N) (.nil 2))) (by kernel_rfl)).map
    (fun x => ((x.1, x.2.1) : ByteArray × Int)) (fun _ => rfl) (fun x h => h.2.1)).le (by omega)
theorem shParams (N : Nat) : ShU Tryz.prog N 28 (fun l : List (ByteArray × Int) => [lPm l]) (fun l => l.length ≤ 140737488351232) :=
  ((ShU.slice unParams (shParam N) (fun _ _ => by kernel_rfl) (Nat.lt_of_lt_of_eq (show 0 < 2 by omega) (by kernel_rfl)) (by kernel_rfl)).le (by omega)).map (fun l => l) (fun _ => rfl) fun _ h => h.1
theorem shPred (N : Nat) : ShU Tryz.prog N 76 cPd (fun _ => True) :=
  ((ShU.struct (fs := [(9, 0), (28, 1), (31, 2)]) (by kernel_rfl) (.cons' (o' := 1) (by kernel_rfl) (shString N) (.cons' (o' := 2) (by kernel_rfl) (shParams N) (.cons' (o' := 7) (by kernel_rfl) (shNode N) (.nil 7)))) (by kernel_rfl)).map
    (fun x => (⟨x.1, x.2.1, x.2.2.1⟩ : Pd)) (fun x => by simp [cPd]) fun _ _ => trivial).le (by omega)
theorem shFact (N : Nat) : ShU Tryz.prog N 70 cFa (fun _ => True) :=
  ((ShU.struct (fs := [(9, 0), (31, 1)]) (by kernel_rfl) (.cons' (o' := 1) (by kernel_rfl) (shString N) (.cons' (o' := 6) (by kernel_rfl) (shNode N) (.nil 6))) (by kernel_rfl)).map
    (fun x => ((x.1, x.2.1) : ByteArray × Nd)) (fun x => by simp [cFa]) fun _ _ => trivial).le (by omega)
structure okTA (ts : TS) : Prop where
  so : ∀ x, x ∈ ts.sorts → okS x.1
  nso : ts.sorts.length ≤ 140737488351232
  nf : ts.fields.length ≤ 140737488351232
  fl : ∀ f, f ∈ ts.fields → f.sorts.length ≤ 140737488351232 ∧ ∀ x, x ∈ f.sorts → okI x
theorem shSpec (N : Nat) : ShU Tryz.prog N 27 cTS okTA := by
  have s1 := (ShU.slice unSorts (shSort N) (fun _ _ => by kernel_rfl) (Nat.lt_of_lt_of_eq (show 0 < 2 by omega) (by kernel_rfl)) (by kernel_rfl)).le (M := N) (by omega)
  have s2 := (ShU.slice unFields (shField N) (fun _ _ => by kernel_rfl) (Nat.lt_of_lt_of_eq (show 0 < 3 by omega) (by kernel_rfl)) (by kernel_rfl)).le (M := N) (by omega)
  have s3 := (ShU.slice unPreds (shPred N) (fun a h => (cPd_row a).1.trans (by kernel_rfl)) (Nat.lt_of_lt_of_eq (show 0 < 7 by omega) (by kernel_rfl)) (by kernel_rfl)).le (M := N) (by omega)
  have s4 := (ShU.slice unFacts (shFact N) (fun a h => (cFa_row a).1.trans (by kernel_rfl)) (Nat.lt_of_lt_of_eq (show 0 < 6 by omega) (by kernel_rfl)) (by kernel_rfl)).le (M := N) (by omega)
  have st := ShU.struct (t := 27) (fs := [(22, 0), (23, 1), (24, 2), (25, 3)]) (by kernel_rfl) (.cons' (o' := 1) (by kernel_rfl) s1 (.cons' (o' := 2) (by kernel_rfl) s2 (.cons' (o' := 3) (by kernel_rfl) s3 (.cons' (o' := 4) (by kernel_rfl) s4 (.nil 4))))) (by kernel_rfl)
  exact (st.map (fun x => (⟨x.1, x.2.1, x.2.2.1, x.2.2.2.1⟩ : TS)) (fun _ => rfl) fun x h => ⟨h.1.2, h.1.1, h.2.1.1, h.2.1.2⟩).le (by omega)
theorem aSpec : ArgSh Tryz.prog 27 eTS okTA := ArgSh.struct (by kernel_rfl) shSpec
theorem aNode : ArgSh Tryz.prog 31 eNd (fun _ => True) := ArgSh.struct (by kernel_rfl) shNode
theorem aParam : ArgSh Tryz.prog 54 (fun p => .agg (cPm p)) (fun p => okI p.2) := ArgSh.struct (by kernel_rfl) shParam
end Go.Proofs.YtcfopdccdeeleaaGreatDoor.DT


namespace Go.Proofs.YtcfopdccdeeleaaGreatDoor.QA
open Go Go.Ev Go.Proofs Go.Proofs.YtcfopdccdeeleaaGreatDoor YM YS YF P1 P2 Y1 Y2 Y3 Y4 Y5 Y6 Y7 Y8 Y9 Y10 Y11 Y12 Y13 Y14 Y15 Y16 YU YV YW YX YZ PA YC YE YG YH Q4 Q5 Q6 Q7 Q8 Q9
theorem hf_lL (l : List (List Int)) : HF (lL l) := HF.lst fun r hr c hc => by
  obtain ⟨x, _, rfl⟩ := List.mem_map.1 hr
  rw [List.mem_singleton] at hc; subst hc; exact hf_lI x
theorem typeK_small {ts : TS} (h : okTS ts) {n : Nd} (hw : WfN n) {env : List (ByteArray × Int)} (he : okEnv ts.sorts.length env) : (typeK ts env n).1.length ≤ 64 ∧ ∀ x, x ∈ (typeK ts env n).1 → x.length ≤ 3 := by
  unfold typeK
  split
  · simp
  · rename_i hop
    split
    · simp
    · rename_i k hk
      have hck := okCk_mk h (Nat.le_refl ts.preds.length)
      obtain ⟨q, hq, hok⟩ := exam_ok hck (szN n) n _ false _ (Nat.le_refl _) hw (scOk_bind he) hk (kd_rel hw hop)
      cases hq
      have h64 := okKd.le64 hok h.ns
      have har := hok.ar
      refine ⟨by simp only [typeL]; rw [(srt_perm _).length_eq, List.length_map]; exact h64, fun x hx => ?_⟩
      have hx : x ∈ k.ts.map (rowT k) := (srt_perm _).mem_iff.1 hx
      obtain ⟨t, _, rfl⟩ := List.mem_map.1 hx
      simp only [rowT, List.length_take]; omega
    · simp
theorem rds_get {mu : Mu} : ∀ {xs ys : List AV}, Rds mu xs ys → ys.length = xs.length ∧ ∀ (k : Nat) x y, xs[k]? = some x → ys[k]? = some y → Rd mu x y
  | [], [], _ => ⟨rfl, fun k x y h => by simp at h⟩
  | x :: xs, y :: ys, ⟨h, t⟩ => by
    obtain ⟨h1, h2⟩ := rds_get t
    refine ⟨by simp [h1], fun k a b ha hb => ?_⟩
    cases k with
    | zero => simp at ha hb; subst ha; subst hb; exact h
    | succ k => exact h2 k a b (by simpa using ha) (by simpa using hb)
  | [], _ :: _, h => h.elim
  | _ :: _, [], h => h.elim
theorem rds_app {mu : Mu} : ∀ {xs ys xs' ys' : List AV}, Rds mu xs ys → Rds mu xs' ys' → Rds mu (xs ++ xs') (ys ++ ys')
  | [], [], _, _, _, h' => h'
  | _ :: _, _ :: _, _, _, ⟨h, t⟩, h' => ⟨h, rds_app t h'⟩
  | [], _ :: _, _, _, h, _ => h.elim
  | _ :: _, [], _, _, h, _ => h.elim
theorem rd_aggs {mu : Mu} {xs ys : List AV} (h : Rds mu xs ys) : Rd mu (.agg xs) (.agg ys) := .agg _ _ (rds_get h).1 (rds_get h).2
def RdR (mu : Mu) : List (List AV) → List (List AV) → Prop
  | [], [] => True
  | x :: xs, y :: ys => Rds mu x y ∧ RdR mu xs ys
  | _, _ => False
theorem rdR_get {mu : Mu} : ∀ {xs ys : List (List AV)}, RdR mu xs ys → ys.length = xs.length ∧ (∀ (k : Nat) x y, xs[k]? = some x → ys[k]? = some y → x.length = y.length) ∧ Rds mu xs.flatten ys.flatten
  | [], [], _ => ⟨rfl, fun k x y h => by simp at h, trivial⟩
  | x :: xs, y :: ys, ⟨h, t⟩ => by
    obtain ⟨h1, h2, h3⟩ := rdR_get t
    refine ⟨by simp [h1], fun k a b ha hb => ?_, by rw [List.flatten_cons, List.flatten_cons]; exact rds_app h h3⟩
    cases k with
    | zero => simp at ha hb; subst ha; subst hb; exact (rds_get h).1.symm
    | succ k => exact h2 k a b (by simpa using ha) (by simpa using hb)
  | [], _ :: _, h => h.elim
  | _ :: _, [], h => h.elim
theorem rd_rows {mu : Mu} {full : Bool} {xs ys : List (List AV)} (h : RdR mu xs ys) : Rd mu (.lst full xs) (.lst false ys) := by
  obtain ⟨h1, h2, h3⟩ := rdR_get h
  exact .wk _ full _ (.lst full xs ys h1 h2 (rds_get h3).2)
theorem rds_hf {mu : Mu} : ∀ {xs : List AV}, (∀ x, x ∈ xs → HF x) → Rds mu xs xs
  | [], _ => trivial
  | x :: xs, h => ⟨.hf _ (h x (List.mem_cons_self ..)), rds_hf fun y hy => h y (List.mem_cons_of_mem _ hy)⟩
theorem rd_sc {mu : Mu} (v : Value) : Rd mu (.sc v) (.sc v) := .hf _ (HF.sc v)
def bA : ByteArray := ⟨#[65]⟩
def bB : ByteArray := ⟨#[66]⟩
def bf : ByteArray := ⟨#[102]⟩
def bp : ByteArray := ⟨#[112]⟩
def bx : ByteArray := ⟨#[120]⟩
def smallT : TS := ⟨[(bA, false), (bB, true)], [⟨bf, [0, 1], false⟩], [⟨bp, [(bx, 0)], ndOp 34 [ndOp 9 [ndUse bx 7, ndUse bf 9]]⟩], []⟩
theorem smallU : SoundP Tryz.prog 33 [] (eTS smallT) := by
  refine SoundP.of_sound (Sound.of_awp Tryz.call33 Tryz.func33 rfl (Nat.le_of_ble_eq_true (by kernel_rfl)) (by kernel_rfl) (pl := {}) ?_)
  simp [go_sem]
  refine CallStep.pure (useU bx 7) (.cons (.hf (HF.sc _)) (.cons (.hf (HF.sc _)) .nil)) ?_
  simp [go_sem]
  refine CallStep.pure (useU bf 9) (.cons (.hf (HF.sc _)) (.cons (.hf (HF.sc _)) .nil)) ?_
  simp [go_sem]
  have wkN : ∀ l : List Nd, WK (.lst true (l.map cNd)) (lNd l) := fun l => WK.lst fun r hr c hc => by
    obtain ⟨n, _, rfl⟩ := List.mem_map.1 hr
    exact hf_cNd n c hc
  refine CallStep.pure (nodeU 9 [ndUse bx 7, ndUse bf 9]) (.cons (.hf (HF.sc _)) (.cons (wkN [ndUse bx 7, ndUse bf 9]) .nil)) ?_
  simp [go_sem]
  refine CallStep.pure (nodeU 34 [ndOp 9 [ndUse bx 7, ndUse bf 9]]) (.cons (.hf (HF.sc _)) (.cons (wkN [ndOp 9 [ndUse bx 7, ndUse bf 9]]) .nil)) ?_
  simp [go_sem, cNd_ones]
  refine rd_aggs ⟨rd_rows ⟨⟨rd_sc _, rd_sc _, trivial⟩, ⟨rd_sc _, rd_sc _, trivial⟩, trivial⟩, rd_rows ⟨⟨rd_sc _, rd_rows ⟨⟨rd_sc _, trivial⟩, ⟨rd_sc _, trivial⟩, trivial⟩, rd_sc _, trivial⟩, trivial⟩,
    rd_rows ⟨⟨rd_sc _, rd_rows ⟨⟨rd_sc _, rd_sc _, trivial⟩, trivial⟩, rds_hf (hf_cNd _)⟩, trivial⟩, rd_rows trivial, trivial⟩
end Go.Proofs.YtcfopdccdeeleaaGreatDoor.QA


namespace Go.Proofs.YtcfopdccdeeleaaGreatDoor.QB
open Go Go.Ev Go.Proofs Go.Proofs.YtcfopdccdeeleaaGreatDoor P1 P2 Y1 Y2 Y3 Y4 YF Y9 Y14 Y16 YW YX YZ YA YB PA YC YE YG YH Q4 Q5 Q6 Q7 Q8 Q9 QA
def nT : Nd := ndOp 9 [ndUse bA 0, ndUse bf 0]
def nU : Nd := ndOp 9 [ndUse bf 0, ndUse bf 0]
def bBf : ByteArray := ⟨#[66, 95, 102, 105, 114, 115, 116]⟩
def bAf : ByteArray := ⟨#[65, 95, 102, 105, 114, 115, 116]⟩
def bBn : ByteArray := ⟨#[66, 95, 110, 101, 120, 116]⟩
def bv1 : ByteArray := ⟨#[118, 49]⟩
def bz : ByteArray := ⟨#[122]⟩
def ba : ByteArray := ⟨#[97]⟩
def nS : Nd := ndOp 6 [ndUse bf 0, ndUse bBf 0]
def nD : Nd := ndOp 34 [.mk 6 ⟨#[]⟩ 0 [ndUse bf 5, ndUse bA 9] 7]
def nN : Nd := ndOp 35 [ndUse bAf 3]
def nK : Nd := .mk 47 bp 0 [ndUse bB 6] 4
def nM : Nd := ndOp 34 [ndOp 12 [.mk 5 ⟨#[]⟩ 0 [ndUse bBn 6] 8]]
def nC : Nd := .mk 45 bf 0 [ndUse bA 2, .mk 47 bp 0 [ndUse bf 5] 3] 1
def nW : Nd := .mk 45 bv1 0 [ndUse bA 2, ndOp 34 [ndOp 9 [ndUse bv1 5, ndUse bf 9]]] 1
def nZ : Nd := ndOp 35 [ndUse bz 2]
def smallF : TS := wf smallT [(ba, nC), (ba, nZ)]
theorem f1 : typeK smallT [] nT = ([[1]], 0) := by decide +kernel
theorem f2 : typeK smallT [] nU = ([], 0) := by decide +kernel
theorem f3 : typeK smallT [(bf, 1)] nS = ([[1]], 0) := by decide +kernel
theorem f4 : checkF smallT [] nD = (42, 7) := by decide +kernel
theorem f5 : checkF smallT [] nN = (40, 3) := by decide +kernel
theorem f6 : checkF smallT [] nK = (43, 4) := by decide +kernel
theorem f7 : checkF smallT [] nM = (46, 8) := by decide +kernel
theorem f8 : checkL smallF = [(41, 0), (40, 2)] := by decide +kernel
theorem c0 : (checkF smallT [] nC).1 = 0 := by decide +kernel
theorem h47 : anyN (fun n => decide (n.op = 47)) nC = true := by decide +kernel
theorem f9 : eqN (inlineL smallT nC).1 nW = true ∧ (inlineL smallT nC).2 = 0 := by decide +kernel
def callsB (ts : TS) (n : Nd) : Bool := (preN n).all fun x => if x.op = 47 then (match ts.preds.find? fun p => decide (p.name = x.name) with | some p => decide (p.params.length = x.kids.length) | none => false) else true
theorem calls_of {ts : TS} {n : Nd} (h : callsB ts n = true) : CallsOk ts n := fun x hx ho => by
  have := List.all_eq_true.1 h x hx
  rw [if_pos ho] at this
  split at this
  · rename_i p hp; exact ⟨p, hp, by simpa using this⟩
  · cases this
theorem ok_small : okTS smallT ∧ (∀ p, p ∈ smallT.preds → WfN p.body) ∧ ∀ f, f ∈ smallT.facts → WfN f.2 := fits_ok (by decide +kernel) (by decide +kernel)
theorem ok_smallF : okTS smallF ∧ (∀ p, p ∈ smallF.preds → WfN p.body) ∧ ∀ f, f ∈ smallF.facts → WfN f.2 := fits_ok (by decide +kernel) (by decide +kernel)
theorem wkNd (l : List Nd) : WK (.lst true (l.map cNd)) (lNd l) := WK.lst fun r hr c hc => by
  obtain ⟨n, _, rfl⟩ := List.mem_map.1 hr
  exact hf_cNd n c hc
theorem wkEnv0 : WK (.lst true []) (lPm []) := WK.lst fun r hr => absurd hr List.not_mem_nil
def WkR : List (List AV) → List (List AV) → Prop
  | [], [] => True
  | x :: xs, y :: ys => WKs x y ∧ WkR xs ys
  | _, _ => False
theorem wks_app : ∀ {xs ys xs' ys' : List AV}, WKs xs ys → WKs xs' ys' → WKs (xs ++ xs') (ys ++ ys')
  | [], [], _, _, _, h' => h'
  | _ :: _, _ :: _, _, _, ⟨h, t⟩, h' => ⟨h, wks_app t h'⟩
  | [], _ :: _, _, _, h, _ => h.elim
  | _ :: _, [], _, _, h, _ => h.elim
theorem wkR_get : ∀ {xs ys : List (List AV)}, WkR xs ys → ys.length = xs.length ∧ (∀ (k : Nat) x y, xs[k]? = some x → ys[k]? = some y → x.length = y.length) ∧ WKs xs.flatten ys.flatten
  | [], [], _ => ⟨rfl, fun k x y h => by simp at h, trivial⟩
  | x :: xs, y :: ys, ⟨h, t⟩ => by
    obtain ⟨h1, h2, h3⟩ := wkR_get t
    refine ⟨by simp [h1], fun k a b ha hb => ?_, by rw [List.flatten_cons, List.flatten_cons]; exact wks_app h h3⟩
    cases k with
    | zero => simp at ha hb; subst ha; subst hb; exact h.get.1.symm
    | succ k => exact h2 k a b (by simpa using ha) (by simpa using hb)
  | [], _ :: _, h => h.elim
  | _ :: _, [], h => h.elim
theorem wk_rows {full : Bool} {xs ys : List (List AV)} (h : WkR xs ys) : WK (.lst full xs) (.lst false ys) := by
  obtain ⟨hn, hz, h3⟩ := wkR_get h
  have hfl := flatten_len_eq hn hz
  have hg := h3.get.2
  intro G hp v r
  cases r with
  | nil => cases ys with
    | nil => exact .nil _
    | cons => simp at hn
  | emp _ a cap hc => cases ys with
    | nil => exact .emp _ a cap (by simp)
    | cons => simp at hn
  | lst _ _ sz a cap cs e fr rd hb hs hl hc hi hz' hr hv =>
    rw [← hn]
    have hget : ∀ (k : Nat) y, ys.flatten[k]? = some y → ∃ x, xs.flatten[k]? = some x := by
      intro k y hy
      have hk : k < ys.flatten.length := (List.getElem?_eq_some_iff.1 hy).1
      exact ⟨xs.flatten[k]'(by omega), by simp only [List.getElem?_eq_getElem (show k < xs.flatten.length by omega)]⟩
    refine .lst false ys sz a cap cs e fr rd hb hs (by omega) (by simp) hi ?_ ?_ ?_
    · intro r hr'
      obtain ⟨k, hk⟩ := List.mem_iff_getElem?.1 hr'
      have hkl : k < ys.length := (List.getElem?_eq_some_iff.1 hk).1
      have hx : xs[k]? = some (xs[k]'(by omega)) := by simp [show k < xs.length by omega]
      rw [← hz k _ r hx hk]; exact hz' _ (List.mem_of_getElem? hx)
    · intro k y hy
      obtain ⟨x, hx⟩ := hget k y hy
      exact hr k x hx
    · intro k y hy
      obtain ⟨x, hx⟩ := hget k y hy
      exact hg k x y hx hy G hp _ (hv k x hx)
theorem wks_hf : ∀ {xs : List AV}, (∀ x, x ∈ xs → HF x) → WKs xs xs
  | [], _ => trivial
  | x :: xs, h => ⟨.hf (h x (List.mem_cons_self ..)), wks_hf fun y hy => h y (List.mem_cons_of_mem _ hy)⟩
theorem wk_row (op : Int) (nm : ByteArray) (n : Int) {ks : AV} {l : List Nd} (p : Int) (h : WK ks (lNd l)) : WKs [aI op, aS nm, aI n, ks, aI p] (cNd (.mk op nm n l p)) := by
  rw [cNd_eq]
  exact ⟨.hf (HF.sc _), .hf (HF.sc _), .hf (HF.sc _), h, .hf (HF.sc _), trivial⟩
theorem wk_node (op : Int) (nm : ByteArray) (n : Int) {ks : AV} {l : List Nd} (p : Int) (h : WK ks (lNd l)) : WK (.agg [aI op, aS nm, aI n, ks, aI p]) (eNd (.mk op nm n l p)) := WK.aggs (wk_row op nm n p h)
theorem inlineL_small {ts : TS} (hb : ∀ p, p ∈ ts.preds → WfN p.body) {n : Nd} (hw : WfN n) : Small (inlineL ts n).1 := by
  have h0 : Small nd0 := .mk _ (by simp [nd0, Nd.kids]) fun k hk => by simp [nd0, Nd.kids] at hk
  unfold inlineL
  split
  · exact h0
  · split
    · exact hw.small
    · split
      · exact h0
      · rename_i n' hn
        unfold outI at hn
        split at hn
        · cases hn
        · rename_i q z s' he
          split at hn
          · cases hn
            exact (expI_size ts hb _ 4001 (fun e he => absurd he List.not_mem_nil) hw he).2
          · cases hn
theorem headU : SoundP Tryz.prog 11 [] (aB true) := by
  obtain ⟨ok, wp, _⟩ := ok_small
  have e0 : okEnv smallT.sorts.length [] := ⟨by simp, by simp⟩
  have e1 : okEnv smallT.sorts.length [(bf, 1)] := ⟨by simp, by simp [smallT]⟩
  have t1 := typeU smallT ok wp nT (wf_valid (by decide +kernel)) [] e0
  have t2 := typeU smallT ok wp nU (wf_valid (by decide +kernel)) [] e0
  have t3 := typeU smallT ok wp nS (wf_valid (by decide +kernel)) [(bf, 1)] e1
  have t4 := checkFormulaU smallT ok wp nD (wf_valid (by decide +kernel)) [] e0
  have t5 := checkFormulaU smallT ok wp nN (wf_valid (by decide +kernel)) [] e0
  have t6 := checkFormulaU smallT ok wp nK (wf_valid (by decide +kernel)) [] e0
  have t7 := checkFormulaU smallT ok wp nM (wf_valid (by decide +kernel)) [] e0
  have t8 := checkU smallF ok_smallF.1 ok_smallF.2.1 ok_smallF.2.2
  have t9 := inlineU smallT ok (fun p hp => ⟨wp p hp, by
    have : p = ⟨bp, [(bx, 0)], ndOp 34 [ndOp 9 [ndUse bx 7, ndUse bf 9]]⟩ := by simpa [smallT] using hp
    subst this
    exact calls_of (by decide +kernel)⟩) nC (wf_valid (by decide +kernel)) (fun _ => calls_of (by decide +kernel)) (by decide +kernel)
  have t10 := sameU (szN (inlineL smallT nC).1) (inlineL smallT nC).1 nW (Nat.le_refl _) (inlineL_small wp (wf_valid (by decide +kernel)))
  obtain ⟨q1, q2⟩ := f9
  rw [f1] at t1; rw [f2] at t2; rw [f3] at t3; rw [f4] at t4; rw [f5] at t5; rw [f6] at t6; rw [f7] at t7; rw [f8] at t8
  rw [q1] at t10
  rw [q2] at t9
  clear q1 q2
  generalize (inlineL smallT nC).1 = X at *
  refine SoundP.of_sound (Sound.of_awp Tryz.call11 Tryz.func11 rfl (Nat.le_of_ble_eq_true (by kernel_rfl)) (by kernel_rfl) (pl := {}) ?_)
  simp [go_sem]
  refine CallStep.pure smallU .nil ?_
  simp [go_sem]
  refine DrawGo.intro (by kernel_rfl) ?_
  simp [go_sem]
  refine CallStep.pure (useU bA 0) (.cons (.hf (HF.sc _)) (.cons (.hf (HF.sc _)) .nil)) ?_
  simp [go_sem]
  refine CallStep.pure (useU bf 0) (.cons (.hf (HF.sc _)) (.cons (.hf (HF.sc _)) .nil)) ?_
  simp [go_sem]
  refine CallStep.pure (nodeU 9 [ndUse bA 0, ndUse bf 0]) (.cons (.hf (HF.sc _)) (.cons (wkNd [ndUse bA 0, ndUse bf 0]) .nil)) ?_
  simp [go_sem]
  refine CallStep.pure t1 (.cons (.hf (hf_eTS smallT)) (.cons wkEnv0 (.cons (.hf (hf_eNd nT)) .nil))) ?_
  simp [go_sem]
  refine DrawGo.intro (by kernel_rfl) ?_
  simp [go_sem]
  refine CallStep.pure (useU bf 0) (.cons (.hf (HF.sc _)) (.cons (.hf (HF.sc _)) .nil)) ?_
  simp [go_sem]
  refine CallStep.pure (useU bf 0) (.cons (.hf (HF.sc _)) (.cons (.hf (HF.sc _)) .nil)) ?_
  simp [go_sem]
  refine CallStep.pure (nodeU 9 [ndUse bf 0, ndUse bf 0]) (.cons (.hf (HF.sc _)) (.cons (wkNd [ndUse bf 0, ndUse bf 0]) .nil)) ?_
  simp [go_sem]
  refine CallStep.pure t2 (.cons (.hf (hf_eTS smallT)) (.cons wkEnv0 (.cons (.hf (hf_eNd nU)) .nil))) ?_
  simp [go_sem]
  refine DrawGo.intro (by kernel_rfl) ?_
  simp [go_sem]
  refine CallStep.pure (useU bf 0) (.cons (.hf (HF.sc _)) (.cons (.hf (HF.sc _)) .nil)) ?_
  simp [go_sem]
  refine CallStep.pure (useU bBf 0) (.cons (.hf (HF.sc _)) (.cons (.hf (HF.sc _)) .nil)) ?_
  simp [go_sem]
  refine CallStep.pure (nodeU 6 [ndUse bf 0, ndUse bBf 0]) (.cons (.hf (HF.sc _)) (.cons (wkNd [ndUse bf 0, ndUse bBf 0]) .nil)) ?_
  simp [go_sem]
  refine CallStep.pure t3 (.cons (.hf (hf_eTS smallT)) (.cons (wk_rows (xs := [cPm (bf, 1)]) (ys := [cPm (bf, 1)]) ⟨wks_hf (hf_cPm _), trivial⟩) (.cons (.hf (hf_eNd nS)) .nil))) ?_
  simp [go_sem]
  refine DrawGo.intro (by kernel_rfl) ?_
  simp [go_sem]
  refine CallStep.pure (useU bf 5) (.cons (.hf (HF.sc _)) (.cons (.hf (HF.sc _)) .nil)) ?_
  simp [go_sem]
  refine CallStep.pure (useU bA 9) (.cons (.hf (HF.sc _)) (.cons (.hf (HF.sc _)) .nil)) ?_
  simp [go_sem]
  refine CallStep.pure (nodeU 34 [.mk 6 ⟨#[]⟩ 0 [ndUse bf 5, ndUse bA 9] 7]) (.cons (.hf (HF.sc _)) (.cons (wk_rows ⟨wk_row 6 ⟨#[]⟩ 0 7 (wkNd [ndUse bf 5, ndUse bA 9]), trivial⟩) .nil)) ?_
  simp [go_sem]
  refine CallStep.pure t4 (.cons (.hf (hf_eTS smallT)) (.cons wkEnv0 (.cons (.hf (hf_eNd nD)) .nil))) ?_
  simp [go_sem, cNd_ones]
  refine DrawGo.intro (by kernel_rfl) ?_
  simp [go_sem]
  refine CallStep.pure (useU bAf 3) (.cons (.hf (HF.sc _)) (.cons (.hf (HF.sc _)) .nil)) ?_
  simp [go_sem]
  refine CallStep.pure (nodeU 35 [ndUse bAf 3]) (.cons (.hf (HF.sc _)) (.cons (wkNd [ndUse bAf 3]) .nil)) ?_
  simp [go_sem]
  refine CallStep.pure t5 (.cons (.hf (hf_eTS smallT)) (.cons wkEnv0 (.cons (.hf (hf_eNd nN)) .nil))) ?_
  simp [go_sem, cNd_ones]
  refine DrawGo.intro (by kernel_rfl) ?_
  simp [go_sem]
  refine CallStep.pure (useU bB 6) (.cons (.hf (HF.sc _)) (.cons (.hf (HF.sc _)) .nil)) ?_
  simp [go_sem]
  refine CallStep.pure t6 (.cons (.hf (hf_eTS smallT)) (.cons wkEnv0 (.cons (wk_node 47 bp 0 4 (wkNd [ndUse bB 6])) .nil))) ?_
  simp [go_sem, cNd_ones]
  refine DrawGo.intro (by kernel_rfl) ?_
  simp [go_sem]
  refine CallStep.pure (useU bBn 6) (.cons (.hf (HF.sc _)) (.cons (.hf (HF.sc _)) .nil)) ?_
  simp [go_sem]
  refine CallStep.pure (nodeU 12 [.mk 5 ⟨#[]⟩ 0 [ndUse bBn 6] 8]) (.cons (.hf (HF.sc _)) (.cons (wk_rows ⟨wk_row 5 ⟨#[]⟩ 0 8 (wkNd [ndUse bBn 6]), trivial⟩) .nil)) ?_
  simp [go_sem]
  refine CallStep.pure (nodeU 34 [ndOp 12 [.mk 5 ⟨#[]⟩ 0 [ndUse bBn 6] 8]]) (.cons (.hf (HF.sc _)) (.cons (wkNd [ndOp 12 [.mk 5 ⟨#[]⟩ 0 [ndUse bBn 6] 8]]) .nil)) ?_
  simp [go_sem]
  refine CallStep.pure t7 (.cons (.hf (hf_eTS smallT)) (.cons wkEnv0 (.cons (.hf (hf_eNd nM)) .nil))) ?_
  simp [go_sem, cNd_ones]
  refine CallStep.pure (useU bA 2) (.cons (.hf (HF.sc _)) (.cons (.hf (HF.sc _)) .nil)) ?_
  simp [go_sem]
  refine CallStep.pure (useU bf 5) (.cons (.hf (HF.sc _)) (.cons (.hf (HF.sc _)) .nil)) ?_
  simp [go_sem]
  refine CallStep.pure t9 (.cons (.hf (hf_eTS smallT)) (.cons (wk_node 45 bf 0 1 (wk_rows ⟨wks_hf (hf_cNd (ndUse bA 2)), wk_row 47 bp 0 3 (wkNd [ndUse bf 5]), trivial⟩)) .nil)) ?_
  simp [go_sem, cNd_ones]
  refine CallStep.pure (useU bA 2) (.cons (.hf (HF.sc _)) (.cons (.hf (HF.sc _)) .nil)) ?_
  simp [go_sem]
  refine CallStep.pure (useU bv1 5) (.cons (.hf (HF.sc _)) (.cons (.hf (HF.sc _)) .nil)) ?_
  simp [go_sem]
  refine CallStep.pure (useU bf 9) (.cons (.hf (HF.sc _)) (.cons (.hf (HF.sc _)) .nil)) ?_
  simp [go_sem]
  refine CallStep.pure (nodeU 9 [ndUse bv1 5, ndUse bf 9]) (.cons (.hf (HF.sc _)) (.cons (wkNd [ndUse bv1 5, ndUse bf 9]) .nil)) ?_
  simp [go_sem]
  refine CallStep.pure (nodeU 34 [ndOp 9 [ndUse bv1 5, ndUse bf 9]]) (.cons (.hf (HF.sc _)) (.cons (wkNd [ndOp 9 [ndUse bv1 5, ndUse bf 9]]) .nil)) ?_
  simp [go_sem]
  refine DrawGo.intro (by kernel_rfl) ?_
  simp [go_sem]
  refine CallStep.pure (useU bz 2) (.cons (.hf (HF.sc _)) (.cons (.hf (HF.sc _)) .nil)) ?_
  simp [go_sem]
  refine CallStep.pure (nodeU 35 [ndUse bz 2]) (.cons (.hf (HF.sc _)) (.cons (wkNd [ndUse bz 2]) .nil)) ?_
  simp [go_sem]
  have wspec : WK (.agg [lSo smallT.sorts, lFl smallT.fields, lPd smallT.preds, .lst true [[aS ba, aI 45, aS bf, aI 0, .lst true [cNd (ndUse bA 2), [aI 47, aS bp, aI 0, .lst true [cNd (ndUse bf 5)], aI 3]], aI 1], aS ba :: cNd nZ]]) (eTS smallF) :=
    WK.aggs ⟨.hf (hf_lSo _), .hf (hf_lFl _), .hf (hf_lPd _), wk_rows ⟨⟨.hf (HF.sc _), wk_row 45 bf 0 1 (wk_rows ⟨wks_hf (hf_cNd (ndUse bA 2)), wk_row 47 bp 0 3 (wkNd [ndUse bf 5]), trivial⟩)⟩, ⟨.hf (HF.sc _), wks_hf (hf_cNd nZ)⟩, trivial⟩, trivial⟩
  refine CallStep.pure t8 (.cons wspec .nil) ?_
  simp [go_sem]
  have wrow : WKs [lL [[1]], .lst true [[.lst true [[aI 1]]]]] [lL [[1]], lL [[1]]] := ⟨.hf (QA.hf_lL _), wk_rows ⟨⟨wk_rows ⟨⟨.hf (HF.sc _), trivial⟩, trivial⟩, trivial⟩, trivial⟩, trivial⟩
  have hst := sameTypesU [[1]] [[1]] (by simp) (by simp)
  rw [decide_eq_true rfl] at hst
  refine CallStep.pure hst wrow ?_
  simp [go_sem]
  refine CallStep.pure hst wrow ?_
  simp [go_sem, cNd_ones]
  refine CallStep.pure t10 (.cons (.hf (hf_eNd X)) (.cons (wk_node 45 bv1 0 1 (wkNd [ndUse bA 2, ndOp 34 [ndOp 9 [ndUse bv1 5, ndUse bf 9]]])) (.cons (.hf (HF.sc _)) .nil))) ?_
  simp [go_sem, cNd_ones]
  exact .hf _ (HF.sc _)
end Go.Proofs.YtcfopdccdeeleaaGreatDoor.QB


namespace Go.Proofs.YtcfopdccdeeleaaGreatDoor.QC
open Go Go.Ev Go.Proofs Go.Proofs.YtcfopdccdeeleaaGreatDoor YM YS YF P1 P2 Y1 Y2 Y3 Y4 Y5 Y6 Y9 Y16 PA YD Q4
theorem rd_nd {mu : Mu} {av : AV} {op i p : Int} {nm : ByteArray} {ks : List Nd} {lo : Nat} (go : OwnF lo mu 5 av (ks.map cNd)) : Rd mu (.agg [aI op, aS nm, aI i, av, aI p]) (eNd (.mk op nm i ks p)) := by
  have ecn : eNd (.mk op nm i ks p) = .agg [aI op, aS nm, aI i, .lst false (ks.map cNd), aI p] := by
    show AV.agg (cNd _) = _
    rw [cNd_eq]; rfl
  rw [ecn]
  refine .agg _ _ rfl fun k x y hx hy => ?_
  match k with
  | 0 => simp at hx hy; subst hx; subst hy; exact .hf _ (HF.sc _)
  | 1 => simp at hx hy; subst hx; subst hy; exact .hf _ (HF.sc _)
  | 2 => simp at hx hy; subst hx; subst hy; exact .hf _ (HF.sc _)
  | 3 =>
    simp at hx hy; subst hx; subst hy
    exact Own.rd (sz := 5) go.1 (rows_nd ks).ok fun r hr c hc => by
      obtain ⟨x, _, rfl⟩ := List.mem_map.1 hr
      exact hf_cNd x c hc
  | 4 => simp at hx hy; subst hx; subst hy; exact .hf _ (HF.sc _)
  | k + 5 => simp at hx
theorem renameU (a b : ByteArray) : ∀ (m : Nat) (n : Nd), szN n ≤ m → Small n → SoundP Tryz.prog 30 [eNd n, aS a, aS b] (eNd (renN a b n))
  | 0, n, hm, _ => by obtain ⟨op, nm, i, ks, p⟩ := n; simp [szN] at hm
  | m + 1, n, hm, hs => by
    have ih : ∀ k, k ∈ n.kids → SoundP Tryz.prog 30 [eNd k, aS a, aS b] (eNd (renN a b k)) := fun k hk =>
      renameU a b m k (by have := kid_lt hk; omega) (hs.kid hk)
    have hlen := hs.len
    generalize hR : renN a b n = R
    rw [renN_eq] at hR
    have hcn := cNd_eq n
    refine SoundP.of_sound (Sound.of_awp Tryz.call30 Tryz.func30 rfl (Nat.le_of_ble_eq_true (by kernel_rfl)) (by kernel_rfl) (pl := { mt := [3] }) ?_)
    by_cases h1 : n.op = 1 ∧ n.name = a
    · rw [if_pos h1] at hR
      obtain ⟨h1, h2⟩ := h1
      simp [go_sem, h1, h2, hcn]
      rw [← hR]
      have e : eNd (.mk n.op b n.n n.kids n.pos) = AV.agg [aI 1, AV.sc (Value.string b), aI n.n, AV.lst false (List.map cNd n.kids), aI n.pos] := by
        show AV.agg (cNd _) = _
        rw [cNd_eq, h1]; rfl
      rw [← e]
      exact .hf _ (hf_eNd _)
    rw [if_neg h1] at hR
    have hB : ∃ B, binB n.op = B ∧ B = decide (n.op = 15 ∨ n.op = 45 ∨ n.op = 46) := ⟨_, rfl, (binB_eq _).symm⟩
    rcases (show (n.op = 1 ∧ n.name ≠ a) ∨ n.op = 15 ∨ n.op = 45 ∨ n.op = 46 ∨ (n.op ≠ 1 ∧ n.op ≠ 15 ∧ n.op ≠ 45 ∧ n.op ≠ 46) by
      by_cases ho : n.op = 1
      · exact .inl ⟨ho, fun e => h1 ⟨ho, e⟩⟩
      · omega) with h | h | h | h | h
    · obtain ⟨h, hne⟩ := h
      have hbin : binB n.op = false := by rw [h]; rfl
      simp [go_sem, h, str_ne hne, hcn]
      refine LoopGo.upK n.kids.length (fun k st => ∃ (acc : List Nd) (av : AV), st.tm 1 = aS a ∧ st.tm 2 = aS b ∧ st.tm 3 = .ptr 0 0 ∧ st.tm 6 = .ptr 1 0 ∧ st.tm 7 = aB (binB n.op) ∧ st.tm 8 = av ∧ st.tm 9 = aI k ∧ st.mu[0]? = some (.arr [aI n.op, aS n.name, aI n.n, lNd n.kids, aI n.pos]) ∧ st.mu[1]? = some (.arr [aI 0, aS ⟨#[]⟩, aI 0, .lst true [], aI 0]) ∧ OwnF 2 st.mu 5 av (acc.map cNd) ∧ acc.length = k ∧ .mk n.op n.name n.n (acc ++ renNs a b (binB n.op && decide (n.name = a)) k (n.kids.drop k)) n.pos = R) ?_ ?_
      · exact ⟨[], .lst true [], by simp [go_sem], by simp [go_sem], by simp [go_sem], by simp [go_sem], by simp [go_sem, hbin], by simp [go_sem], by simp [go_sem], by simp [go_sem, h], by simp [go_sem], OwnF.nil (by simp [go_sem]), rfl, by simpa using hR⟩
      clear hR
      rintro k st hk ⟨acc, av, e1, e2, e3, e6, e7, e8, e9, gn, gr, ho, hal, hI⟩
      have hbl := ho.2.2
      by_cases hkl : k = n.kids.length
      · subst hkl
        rw [List.drop_length] at hI
        have hI : R = .mk n.op n.name n.n acc n.pos := by rw [← hI]; simp [renNs]
        have hcc := ho.cells
        have hon := ho.one
        have hs0 : ∀ c, (st.mu.set 0 c)[0]? = some c := fun c => List.getElem?_set_self (by omega)
        have hs1 : ∀ c c', ((st.mu.set 0 c).set 1 c')[1]? = some c' := fun c c' => List.getElem?_set_self (by simp; omega)
        have hs01 : ∀ c, (st.mu.set 0 c)[1]? = st.mu[1]? := fun c => List.getElem?_set_ne (by omega)
        rw [hI]
        simp [go_sem, e1, e2, e3, e6, e7, e8, e9, gn, gr, hcc, hon, hs0, hs1, hs01]
        exact rd_nd ((ho.set (by omega)).set (by omega))
      have hlt : k < n.kids.length := by omega
      have w1 : IntKind.i64.wrap ((k : Int) + 1) = (k : Int) + 1 := wrap_i64 (by omega) (by omega)
      have hlt' : (k : Int) < n.kids.length := by omega
      have hi := ih n.kids[k] (List.getElem_mem hlt)
      rw [List.drop_eq_getElem_cons hlt] at hI
      simp only [renNs] at hI
      have done : ∀ (x : Nd), (if (binB n.op && decide (n.name = a)) = true ∧ k = 1 then n.kids[k] else renN a b n.kids[k]) = x → .mk n.op n.name n.n ((acc ++ [x]) ++ renNs a b (binB n.op && decide (n.name = a)) (k + 1) (n.kids.drop (k + 1))) n.pos = R := fun x hx => by
        rw [hx] at hI; rw [← hI]; simp
      simp [go_sem, e1, e2, e3, e6, e7, e8, e9, gn, gr, hlt, hlt', cNd_ones, hbin, w1]
      refine CallStep.pure hi (.cons (.hf (hf_eNd _)) (.cons (.hf (HF.sc _)) (.cons (.hf (HF.sc _)) .nil))) ?_
      simp [go_sem, e1, e2, e3, e6, e7, e8, e9, gn, gr, hlt, hlt', cNd_ones, hbin, w1]
      refine appNd ho (by omega) fun av' m' ho' hm' => ?_
      have gn' : m'[0]? = some (.arr [aI n.op, aS n.name, aI n.n, lNd n.kids, aI n.pos]) := by rw [hm' 0 (by omega)]; exact gn
      have gr' : m'[1]? = some (.arr [aI 0, aS ⟨#[]⟩, aI 0, .lst true [], aI 0]) := by rw [hm' 1 (by omega)]; exact gr
      simp [go_sem, e1, e2, e3, e6, e7, e8, e9, gn, gr, hlt, hlt', cNd_ones, hbin, w1]
      exact Keep.mk' ⟨acc ++ [renN a b n.kids[k]], av', by simp [go_sem, e1], by simp [go_sem, e2], by simp [go_sem, e3], by simp [go_sem, e6], by simp [go_sem, e7], by simp [go_sem], by simp [go_sem], by simpa [go_sem] using gn', by simpa [go_sem] using gr', by simpa [go_sem] using ho', by simp [hal], done _ (by simp [hbin])⟩
    · have hbin : binB n.op = true := by rw [h]; rfl
      simp [go_sem, h, hcn]
      refine LoopGo.upK n.kids.length (fun k st => ∃ (acc : List Nd) (av : AV), st.tm 1 = aS a ∧ st.tm 2 = aS b ∧ st.tm 3 = .ptr 0 0 ∧ st.tm 6 = .ptr 1 0 ∧ st.tm 7 = aB (binB n.op) ∧ st.tm 8 = av ∧ st.tm 9 = aI k ∧ st.mu[0]? = some (.arr [aI n.op, aS n.name, aI n.n, lNd n.kids, aI n.pos]) ∧ st.mu[1]? = some (.arr [aI 0, aS ⟨#[]⟩, aI 0, .lst true [], aI 0]) ∧ OwnF 2 st.mu 5 av (acc.map cNd) ∧ acc.length = k ∧ .mk n.op n.name n.n (acc ++ renNs a b (binB n.op && decide (n.name = a)) k (n.kids.drop k)) n.pos = R) ?_ ?_
      · exact ⟨[], .lst true [], by simp [go_sem], by simp [go_sem], by simp [go_sem], by simp [go_sem], by simp [go_sem, hbin], by simp [go_sem], by simp [go_sem], by simp [go_sem, h], by simp [go_sem], OwnF.nil (by simp [go_sem]), rfl, by simpa using hR⟩
      clear hR
      rintro k st hk ⟨acc, av, e1, e2, e3, e6, e7, e8, e9, gn, gr, ho, hal, hI⟩
      have hbl := ho.2.2
      by_cases hkl : k = n.kids.length
      · subst hkl
        rw [List.drop_length] at hI
        have hI : R = .mk n.op n.name n.n acc n.pos := by rw [← hI]; simp [renNs]
        have hcc := ho.cells
        have hon := ho.one
        have hs0 : ∀ c, (st.mu.set 0 c)[0]? = some c := fun c => List.getElem?_set_self (by omega)
        have hs1 : ∀ c c', ((st.mu.set 0 c).set 1 c')[1]? = some c' := fun c c' => List.getElem?_set_self (by simp; omega)
        have hs01 : ∀ c, (st.mu.set 0 c)[1]? = st.mu[1]? := fun c => List.getElem?_set_ne (by omega)
        rw [hI]
        simp [go_sem, e1, e2, e3, e6, e7, e8, e9, gn, gr, hcc, hon, hs0, hs1, hs01]
        exact rd_nd ((ho.set (by omega)).set (by omega))
      have hlt : k < n.kids.length := by omega
      have w1 : IntKind.i64.wrap ((k : Int) + 1) = (k : Int) + 1 := wrap_i64 (by omega) (by omega)
      have hlt' : (k : Int) < n.kids.length := by omega
      have hi := ih n.kids[k] (List.getElem_mem hlt)
      rw [List.drop_eq_getElem_cons hlt] at hI
      simp only [renNs] at hI
      have done : ∀ (x : Nd), (if (binB n.op && decide (n.name = a)) = true ∧ k = 1 then n.kids[k] else renN a b n.kids[k]) = x → .mk n.op n.name n.n ((acc ++ [x]) ++ renNs a b (binB n.op && decide (n.name = a)) (k + 1) (n.kids.drop (k + 1))) n.pos = R := fun x hx => by
        rw [hx] at hI; rw [← hI]; simp
      by_cases hk1 : k = 1
      · subst hk1
        have z2 : (1 : Int) < n.kids.length := by omega
        have z3 : 1 < n.kids.length := by omega
        have w2 : IntKind.i64.wrap 2 = 2 := rfl
        by_cases hna : n.name = a
        · simp [go_sem, e1, e2, e3, e6, e7, e8, e9, gn, gr, hlt, hlt', cNd_ones, hbin, w1, z2, z3, w2, hna]
          refine appNd ho (by omega) fun av' m' ho' hm' => ?_
          have gn' : m'[0]? = some (.arr [aI n.op, aS n.name, aI n.n, lNd n.kids, aI n.pos]) := by rw [hm' 0 (by omega)]; exact gn
          have gr' : m'[1]? = some (.arr [aI 0, aS ⟨#[]⟩, aI 0, .lst true [], aI 0]) := by rw [hm' 1 (by omega)]; exact gr
          simp [go_sem, e1, e2, e3, e6, e7, e8, e9, gn, gr, hlt, hlt', cNd_ones, hbin, w1, z2, z3, w2, hna]
          exact Keep.mk' ⟨acc ++ [n.kids[1]], av', by simp [go_sem, e1], by simp [go_sem, e2], by simp [go_sem, e3], by simp [go_sem, e6], by simp [go_sem, e7], by simp [go_sem], by simp [go_sem], by simpa [go_sem] using gn', by simpa [go_sem] using gr', by simpa [go_sem] using ho', by simp [hal], done _ (by simp [hna, hbin])⟩
        · simp [go_sem, e1, e2, e3, e6, e7, e8, e9, gn, gr, hlt, hlt', cNd_ones, hbin, w1, z2, z3, w2, hna, str_ne hna]
          refine CallStep.pure hi (.cons (.hf (hf_eNd _)) (.cons (.hf (HF.sc _)) (.cons (.hf (HF.sc _)) .nil))) ?_
          simp [go_sem, e1, e2, e3, e6, e7, e8, e9, gn, gr, hlt, hlt', cNd_ones, hbin, w1, z2, z3, w2, hna, str_ne hna]
          refine appNd ho (by omega) fun av' m' ho' hm' => ?_
          have gn' : m'[0]? = some (.arr [aI n.op, aS n.name, aI n.n, lNd n.kids, aI n.pos]) := by rw [hm' 0 (by omega)]; exact gn
          have gr' : m'[1]? = some (.arr [aI 0, aS ⟨#[]⟩, aI 0, .lst true [], aI 0]) := by rw [hm' 1 (by omega)]; exact gr
          simp [go_sem, e1, e2, e3, e6, e7, e8, e9, gn, gr, hlt, hlt', cNd_ones, hbin, w1, z2, z3, w2, hna, str_ne hna]
          exact Keep.mk' ⟨acc ++ [renN a b n.kids[1]], av', by simp [go_sem, e1], by simp [go_sem, e2], by simp [go_sem, e3], by simp [go_sem, e6], by simp [go_sem, e7], by simp [go_sem], by simp [go_sem], by simpa [go_sem] using gn', by simpa [go_sem] using gr', by simpa [go_sem] using ho', by simp [hal], done _ (by simp [hna, str_ne hna, hbin])⟩
      · simp [go_sem, e1, e2, e3, e6, e7, e8, e9, gn, gr, hlt, hlt', cNd_ones, hbin, w1, hk1, show ¬ (k : Int) = 1 by omega]
        refine CallStep.pure hi (.cons (.hf (hf_eNd _)) (.cons (.hf (HF.sc _)) (.cons (.hf (HF.sc _)) .nil))) ?_
        simp [go_sem, e1, e2, e3, e6, e7, e8, e9, gn, gr, hlt, hlt', cNd_ones, hbin, w1, hk1, show ¬ (k : Int) = 1 by omega]
        refine appNd ho (by omega) fun av' m' ho' hm' => ?_
        have gn' : m'[0]? = some (.arr [aI n.op, aS n.name, aI n.n, lNd n.kids, aI n.pos]) := by rw [hm' 0 (by omega)]; exact gn
        have gr' : m'[1]? = some (.arr [aI 0, aS ⟨#[]⟩, aI 0, .lst true [], aI 0]) := by rw [hm' 1 (by omega)]; exact gr
        simp [go_sem, e1, e2, e3, e6, e7, e8, e9, gn, gr, hlt, hlt', cNd_ones, hbin, w1, hk1, show ¬ (k : Int) = 1 by omega]
        exact Keep.mk' ⟨acc ++ [renN a b n.kids[k]], av', by simp [go_sem, e1], by simp [go_sem, e2], by simp [go_sem, e3], by simp [go_sem, e6], by simp [go_sem, e7], by simp [go_sem], by simp [go_sem], by simpa [go_sem] using gn', by simpa [go_sem] using gr', by simpa [go_sem] using ho', by simp [hal], done _ (by simp [hk1, show ¬ (k : Int) = 1 by omega, hbin])⟩
    · have hbin : binB n.op = true := by rw [h]; rfl
      simp [go_sem, h, hcn]
      refine LoopGo.upK n.kids.length (fun k st => ∃ (acc : List Nd) (av : AV), st.tm 1 = aS a ∧ st.tm 2 = aS b ∧ st.tm 3 = .ptr 0 0 ∧ st.tm 6 = .ptr 1 0 ∧ st.tm 7 = aB (binB n.op) ∧ st.tm 8 = av ∧ st.tm 9 = aI k ∧ st.mu[0]? = some (.arr [aI n.op, aS n.name, aI n.n, lNd n.kids, aI n.pos]) ∧ st.mu[1]? = some (.arr [aI 0, aS ⟨#[]⟩, aI 0, .lst true [], aI 0]) ∧ OwnF 2 st.mu 5 av (acc.map cNd) ∧ acc.length = k ∧ .mk n.op n.name n.n (acc ++ renNs a b (binB n.op && decide (n.name = a)) k (n.kids.drop k)) n.pos = R) ?_ ?_
      · exact ⟨[], .lst true [], by simp [go_sem], by simp [go_sem], by simp [go_sem], by simp [go_sem], by simp [go_sem, hbin], by simp [go_sem], by simp [go_sem], by simp [go_sem, h], by simp [go_sem], OwnF.nil (by simp [go_sem]), rfl, by simpa using hR⟩
      clear hR
      rintro k st hk ⟨acc, av, e1, e2, e3, e6, e7, e8, e9, gn, gr, ho, hal, hI⟩
      have hbl := ho.2.2
      by_cases hkl : k = n.kids.length
      · subst hkl
        rw [List.drop_length] at hI
        have hI : R = .mk n.op n.name n.n acc n.pos := by rw [← hI]; simp [renNs]
        have hcc := ho.cells
        have hon := ho.one
        have hs0 : ∀ c, (st.mu.set 0 c)[0]? = some c := fun c => List.getElem?_set_self (by omega)
        have hs1 : ∀ c c', ((st.mu.set 0 c).set 1 c')[1]? = some c' := fun c c' => List.getElem?_set_self (by simp; omega)
        have hs01 : ∀ c, (st.mu.set 0 c)[1]? = st.mu[1]? := fun c => List.getElem?_set_ne (by omega)
        rw [hI]
        simp [go_sem, e1, e2, e3, e6, e7, e8, e9, gn, gr, hcc, hon, hs0, hs1, hs01]
        exact rd_nd ((ho.set (by omega)).set (by omega))
      have hlt : k < n.kids.length := by omega
      have w1 : IntKind.i64.wrap ((k : Int) + 1) = (k : Int) + 1 := wrap_i64 (by omega) (by omega)
      have hlt' : (k : Int) < n.kids.length := by omega
      have hi := ih n.kids[k] (List.getElem_mem hlt)
      rw [List.drop_eq_getElem_cons hlt] at hI
      simp only [renNs] at hI
      have done : ∀ (x : Nd), (if (binB n.op && decide (n.name = a)) = true ∧ k = 1 then n.kids[k] else renN a b n.kids[k]) = x → .mk n.op n.name n.n ((acc ++ [x]) ++ renNs a b (binB n.op && decide (n.name = a)) (k + 1) (n.kids.drop (k + 1))) n.pos = R := fun x hx => by
        rw [hx] at hI; rw [← hI]; simp
      by_cases hk1 : k = 1
      · subst hk1
        have z2 : (1 : Int) < n.kids.length := by omega
        have z3 : 1 < n.kids.length := by omega
        have w2 : IntKind.i64.wrap 2 = 2 := rfl
        by_cases hna : n.name = a
        · simp [go_sem, e1, e2, e3, e6, e7, e8, e9, gn, gr, hlt, hlt', cNd_ones, hbin, w1, z2, z3, w2, hna]
          refine appNd ho (by omega) fun av' m' ho' hm' => ?_
          have gn' : m'[0]? = some (.arr [aI n.op, aS n.name, aI n.n, lNd n.kids, aI n.pos]) := by rw [hm' 0 (by omega)]; exact gn
          have gr' : m'[1]? = some (.arr [aI 0, aS ⟨#[]⟩, aI 0, .lst true [], aI 0]) := by rw [hm' 1 (by omega)]; exact gr
          simp [go_sem, e1, e2, e3, e6, e7, e8, e9, gn, gr, hlt, hlt', cNd_ones, hbin, w1, z2, z3, w2, hna]
          exact Keep.mk' ⟨acc ++ [n.kids[1]], av', by simp [go_sem, e1], by simp [go_sem, e2], by simp [go_sem, e3], by simp [go_sem, e6], by simp [go_sem, e7], by simp [go_sem], by simp [go_sem], by simpa [go_sem] using gn', by simpa [go_sem] using gr', by simpa [go_sem] using ho', by simp [hal], done _ (by simp [hna, hbin])⟩
        · simp [go_sem, e1, e2, e3, e6, e7, e8, e9, gn, gr, hlt, hlt', cNd_ones, hbin, w1, z2, z3, w2, hna, str_ne hna]
          refine CallStep.pure hi (.cons (.hf (hf_eNd _)) (.cons (.hf (HF.sc _)) (.cons (.hf (HF.sc _)) .nil))) ?_
          simp [go_sem, e1, e2, e3, e6, e7, e8, e9, gn, gr, hlt, hlt', cNd_ones, hbin, w1, z2, z3, w2, hna, str_ne hna]
          refine appNd ho (by omega) fun av' m' ho' hm' => ?_
          have gn' : m'[0]? = some (.arr [aI n.op, aS n.name, aI n.n, lNd n.kids, aI n.pos]) := by rw [hm' 0 (by omega)]; exact gn
          have gr' : m'[1]? = some (.arr [aI 0, aS ⟨#[]⟩, aI 0, .lst true [], aI 0]) := by rw [hm' 1 (by omega)]; exact gr
          simp [go_sem, e1, e2, e3, e6, e7, e8, e9, gn, gr, hlt, hlt', cNd_ones, hbin, w1, z2, z3, w2, hna, str_ne hna]
          exact Keep.mk' ⟨acc ++ [renN a b n.kids[1]], av', by simp [go_sem, e1], by simp [go_sem, e2], by simp [go_sem, e3], by simp [go_sem, e6], by simp [go_sem, e7], by simp [go_sem], by simp [go_sem], by simpa [go_sem] using gn', by simpa [go_sem] using gr', by simpa [go_sem] using ho', by simp [hal], done _ (by simp [hna, str_ne hna, hbin])⟩
      · simp [go_sem, e1, e2, e3, e6, e7, e8, e9, gn, gr, hlt, hlt', cNd_ones, hbin, w1, hk1, show ¬ (k : Int) = 1 by omega]
        refine CallStep.pure hi (.cons (.hf (hf_eNd _)) (.cons (.hf (HF.sc _)) (.cons (.hf (HF.sc _)) .nil))) ?_
        simp [go_sem, e1, e2, e3, e6, e7, e8, e9, gn, gr, hlt, hlt', cNd_ones, hbin, w1, hk1, show ¬ (k : Int) = 1 by omega]
        refine appNd ho (by omega) fun av' m' ho' hm' => ?_
        have gn' : m'[0]? = some (.arr [aI n.op, aS n.name, aI n.n, lNd n.kids, aI n.pos]) := by rw [hm' 0 (by omega)]; exact gn
        have gr' : m'[1]? = some (.arr [aI 0, aS ⟨#[]⟩, aI 0, .lst true [], aI 0]) := by rw [hm' 1 (by omega)]; exact gr
        simp [go_sem, e1, e2, e3, e6, e7, e8, e9, gn, gr, hlt, hlt', cNd_ones, hbin, w1, hk1, show ¬ (k : Int) = 1 by omega]
        exact Keep.mk' ⟨acc ++ [renN a b n.kids[k]], av', by simp [go_sem, e1], by simp [go_sem, e2], by simp [go_sem, e3], by simp [go_sem, e6], by simp [go_sem, e7], by simp [go_sem], by simp [go_sem], by simpa [go_sem] using gn', by simpa [go_sem] using gr', by simpa [go_sem] using ho', by simp [hal], done _ (by simp [hk1, show ¬ (k : Int) = 1 by omega, hbin])⟩
    · have hbin : binB n.op = true := by rw [h]; rfl
      simp [go_sem, h, hcn]
      refine LoopGo.upK n.kids.length (fun k st => ∃ (acc : List Nd) (av : AV), st.tm 1 = aS a ∧ st.tm 2 = aS b ∧ st.tm 3 = .ptr 0 0 ∧ st.tm 6 = .ptr 1 0 ∧ st.tm 7 = aB (binB n.op) ∧ st.tm 8 = av ∧ st.tm 9 = aI k ∧ st.mu[0]? = some (.arr [aI n.op, aS n.name, aI n.n, lNd n.kids, aI n.pos]) ∧ st.mu[1]? = some (.arr [aI 0, aS ⟨#[]⟩, aI 0, .lst true [], aI 0]) ∧ OwnF 2 st.mu 5 av (acc.map cNd) ∧ acc.length = k ∧ .mk n.op n.name n.n (acc ++ renNs a b (binB n.op && decide (n.name = a)) k (n.kids.drop k)) n.pos = R) ?_ ?_
      · exact ⟨[], .lst true [], by simp [go_sem], by simp [go_sem], by simp [go_sem], by simp [go_sem], by simp [go_sem, hbin], by simp [go_sem], by simp [go_sem], by simp [go_sem, h], by simp [go_sem], OwnF.nil (by simp [go_sem]), rfl, by simpa using hR⟩
      clear hR
      rintro k st hk ⟨acc, av, e1, e2, e3, e6, e7, e8, e9, gn, gr, ho, hal, hI⟩
      have hbl := ho.2.2
      by_cases hkl : k = n.kids.length
      · subst hkl
        rw [List.drop_length] at hI
        have hI : R = .mk n.op n.name n.n acc n.pos := by rw [← hI]; simp [renNs]
        have hcc := ho.cells
        have hon := ho.one
        have hs0 : ∀ c, (st.mu.set 0 c)[0]? = some c := fun c => List.getElem?_set_self (by omega)
        have hs1 : ∀ c c', ((st.mu.set 0 c).set 1 c')[1]? = some c' := fun c c' => List.getElem?_set_self (by simp; omega)
        have hs01 : ∀ c, (st.mu.set 0 c)[1]? = st.mu[1]? := fun c => List.getElem?_set_ne (by omega)
        rw [hI]
        simp [go_sem, e1, e2, e3, e6, e7, e8, e9, gn, gr, hcc, hon, hs0, hs1, hs01]
        exact rd_nd ((ho.set (by omega)).set (by omega))
      have hlt : k < n.kids.length := by omega
      have w1 : IntKind.i64.wrap ((k : Int) + 1) = (k : Int) + 1 := wrap_i64 (by omega) (by omega)
      have hlt' : (k : Int) < n.kids.length := by omega
      have hi := ih n.kids[k] (List.getElem_mem hlt)
      rw [List.drop_eq_getElem_cons hlt] at hI
      simp only [renNs] at hI
      have done : ∀ (x : Nd), (if (binB n.op && decide (n.name = a)) = true ∧ k = 1 then n.kids[k] else renN a b n.kids[k]) = x → .mk n.op n.name n.n ((acc ++ [x]) ++ renNs a b (binB n.op && decide (n.name = a)) (k + 1) (n.kids.drop (k + 1))) n.pos = R := fun x hx => by
        rw [hx] at hI; rw [← hI]; simp
      by_cases hk1 : k = 1
      · subst hk1
        have z2 : (1 : Int) < n.kids.length := by omega
        have z3 : 1 < n.kids.length := by omega
        have w2 : IntKind.i64.wrap 2 = 2 := rfl
        by_cases hna : n.name = a
        · simp [go_sem, e1, e2, e3, e6, e7, e8, e9, gn, gr, hlt, hlt', cNd_ones, hbin, w1, z2, z3, w2, hna]
          refine appNd ho (by omega) fun av' m' ho' hm' => ?_
          have gn' : m'[0]? = some (.arr [aI n.op, aS n.name, aI n.n, lNd n.kids, aI n.pos]) := by rw [hm' 0 (by omega)]; exact gn
          have gr' : m'[1]? = some (.arr [aI 0, aS ⟨#[]⟩, aI 0, .lst true [], aI 0]) := by rw [hm' 1 (by omega)]; exact gr
          simp [go_sem, e1, e2, e3, e6, e7, e8, e9, gn, gr, hlt, hlt', cNd_ones, hbin, w1, z2, z3, w2, hna]
          exact Keep.mk' ⟨acc ++ [n.kids[1]], av', by simp [go_sem, e1], by simp [go_sem, e2], by simp [go_sem, e3], by simp [go_sem, e6], by simp [go_sem, e7], by simp [go_sem], by simp [go_sem], by simpa [go_sem] using gn', by simpa [go_sem] using gr', by simpa [go_sem] using ho', by simp [hal], done _ (by simp [hna, hbin])⟩
        · simp [go_sem, e1, e2, e3, e6, e7, e8, e9, gn, gr, hlt, hlt', cNd_ones, hbin, w1, z2, z3, w2, hna, str_ne hna]
          refine CallStep.pure hi (.cons (.hf (hf_eNd _)) (.cons (.hf (HF.sc _)) (.cons (.hf (HF.sc _)) .nil))) ?_
          simp [go_sem, e1, e2, e3, e6, e7, e8, e9, gn, gr, hlt, hlt', cNd_ones, hbin, w1, z2, z3, w2, hna, str_ne hna]
          refine appNd ho (by omega) fun av' m' ho' hm' => ?_
          have gn' : m'[0]? = some (.arr [aI n.op, aS n.name, aI n.n, lNd n.kids, aI n.pos]) := by rw [hm' 0 (by omega)]; exact gn
          have gr' : m'[1]? = some (.arr [aI 0, aS ⟨#[]⟩, aI 0, .lst true [], aI 0]) := by rw [hm' 1 (by omega)]; exact gr
          simp [go_sem, e1, e2, e3, e6, e7, e8, e9, gn, gr, hlt, hlt', cNd_ones, hbin, w1, z2, z3, w2, hna, str_ne hna]
          exact Keep.mk' ⟨acc ++ [renN a b n.kids[1]], av', by simp [go_sem, e1], by simp [go_sem, e2], by simp [go_sem, e3], by simp [go_sem, e6], by simp [go_sem, e7], by simp [go_sem], by simp [go_sem], by simpa [go_sem] using gn', by simpa [go_sem] using gr', by simpa [go_sem] using ho', by simp [hal], done _ (by simp [hna, str_ne hna, hbin])⟩
      · simp [go_sem, e1, e2, e3, e6, e7, e8, e9, gn, gr, hlt, hlt', cNd_ones, hbin, w1, hk1, show ¬ (k : Int) = 1 by omega]
        refine CallStep.pure hi (.cons (.hf (hf_eNd _)) (.cons (.hf (HF.sc _)) (.cons (.hf (HF.sc _)) .nil))) ?_
        simp [go_sem, e1, e2, e3, e6, e7, e8, e9, gn, gr, hlt, hlt', cNd_ones, hbin, w1, hk1, show ¬ (k : Int) = 1 by omega]
        refine appNd ho (by omega) fun av' m' ho' hm' => ?_
        have gn' : m'[0]? = some (.arr [aI n.op, aS n.name, aI n.n, lNd n.kids, aI n.pos]) := by rw [hm' 0 (by omega)]; exact gn
        have gr' : m'[1]? = some (.arr [aI 0, aS ⟨#[]⟩, aI 0, .lst true [], aI 0]) := by rw [hm' 1 (by omega)]; exact gr
        simp [go_sem, e1, e2, e3, e6, e7, e8, e9, gn, gr, hlt, hlt', cNd_ones, hbin, w1, hk1, show ¬ (k : Int) = 1 by omega]
        exact Keep.mk' ⟨acc ++ [renN a b n.kids[k]], av', by simp [go_sem, e1], by simp [go_sem, e2], by simp [go_sem, e3], by simp [go_sem, e6], by simp [go_sem, e7], by simp [go_sem], by simp [go_sem], by simpa [go_sem] using gn', by simpa [go_sem] using gr', by simpa [go_sem] using ho', by simp [hal], done _ (by simp [hk1, show ¬ (k : Int) = 1 by omega, hbin])⟩
    · have hbin : binB n.op = false := by rw [← binB_eq]; simp [h]
      simp [go_sem, h, hcn]
      refine LoopGo.upK n.kids.length (fun k st => ∃ (acc : List Nd) (av : AV), st.tm 1 = aS a ∧ st.tm 2 = aS b ∧ st.tm 3 = .ptr 0 0 ∧ st.tm 6 = .ptr 1 0 ∧ st.tm 7 = aB (binB n.op) ∧ st.tm 8 = av ∧ st.tm 9 = aI k ∧ st.mu[0]? = some (.arr [aI n.op, aS n.name, aI n.n, lNd n.kids, aI n.pos]) ∧ st.mu[1]? = some (.arr [aI 0, aS ⟨#[]⟩, aI 0, .lst true [], aI 0]) ∧ OwnF 2 st.mu 5 av (acc.map cNd) ∧ acc.length = k ∧ .mk n.op n.name n.n (acc ++ renNs a b (binB n.op && decide (n.name = a)) k (n.kids.drop k)) n.pos = R) ?_ ?_
      · exact ⟨[], .lst true [], by simp [go_sem], by simp [go_sem], by simp [go_sem], by simp [go_sem], by simp [go_sem, hbin], by simp [go_sem], by simp [go_sem], by simp [go_sem, h], by simp [go_sem], OwnF.nil (by simp [go_sem]), rfl, by simpa using hR⟩
      clear hR
      rintro k st hk ⟨acc, av, e1, e2, e3, e6, e7, e8, e9, gn, gr, ho, hal, hI⟩
      have hbl := ho.2.2
      by_cases hkl : k = n.kids.length
      · subst hkl
        rw [List.drop_length] at hI
        have hI : R = .mk n.op n.name n.n acc n.pos := by rw [← hI]; simp [renNs]
        have hcc := ho.cells
        have hon := ho.one
        have hs0 : ∀ c, (st.mu.set 0 c)[0]? = some c := fun c => List.getElem?_set_self (by omega)
        have hs1 : ∀ c c', ((st.mu.set 0 c).set 1 c')[1]? = some c' := fun c c' => List.getElem?_set_self (by simp; omega)
        have hs01 : ∀ c, (st.mu.set 0 c)[1]? = st.mu[1]? := fun c => List.getElem?_set_ne (by omega)
        rw [hI]
        simp [go_sem, e1, e2, e3, e6, e7, e8, e9, gn, gr, hcc, hon, hs0, hs1, hs01]
        exact rd_nd ((ho.set (by omega)).set (by omega))
      have hlt : k < n.kids.length := by omega
      have w1 : IntKind.i64.wrap ((k : Int) + 1) = (k : Int) + 1 := wrap_i64 (by omega) (by omega)
      have hlt' : (k : Int) < n.kids.length := by omega
      have hi := ih n.kids[k] (List.getElem_mem hlt)
      rw [List.drop_eq_getElem_cons hlt] at hI
      simp only [renNs] at hI
      have done : ∀ (x : Nd), (if (binB n.op && decide (n.name = a)) = true ∧ k = 1 then n.kids[k] else renN a b n.kids[k]) = x → .mk n.op n.name n.n ((acc ++ [x]) ++ renNs a b (binB n.op && decide (n.name = a)) (k + 1) (n.kids.drop (k + 1))) n.pos = R := fun x hx => by
        rw [hx] at hI; rw [← hI]; simp
      simp [go_sem, e1, e2, e3, e6, e7, e8, e9, gn, gr, hlt, hlt', cNd_ones, hbin, w1]
      refine CallStep.pure hi (.cons (.hf (hf_eNd _)) (.cons (.hf (HF.sc _)) (.cons (.hf (HF.sc _)) .nil))) ?_
      simp [go_sem, e1, e2, e3, e6, e7, e8, e9, gn, gr, hlt, hlt', cNd_ones, hbin, w1]
      refine appNd ho (by omega) fun av' m' ho' hm' => ?_
      have gn' : m'[0]? = some (.arr [aI n.op, aS n.name, aI n.n, lNd n.kids, aI n.pos]) := by rw [hm' 0 (by omega)]; exact gn
      have gr' : m'[1]? = some (.arr [aI 0, aS ⟨#[]⟩, aI 0, .lst true [], aI 0]) := by rw [hm' 1 (by omega)]; exact gr
      simp [go_sem, e1, e2, e3, e6, e7, e8, e9, gn, gr, hlt, hlt', cNd_ones, hbin, w1]
      exact Keep.mk' ⟨acc ++ [renN a b n.kids[k]], av', by simp [go_sem, e1], by simp [go_sem, e2], by simp [go_sem, e3], by simp [go_sem, e6], by simp [go_sem, e7], by simp [go_sem], by simp [go_sem], by simpa [go_sem] using gn', by simpa [go_sem] using gr', by simpa [go_sem] using ho', by simp [hal], done _ (by simp [hbin])⟩
end Go.Proofs.YtcfopdccdeeleaaGreatDoor.QC


namespace Go.Proofs.YtcfopdccdeeleaaGreatDoor.QD
open Go Go.Ev Go.Proofs Go.Proofs.YtcfopdccdeeleaaGreatDoor YM YS YF P1 P2 Y1 Y2 Y3 Y4 Y5 Y6 Y9 Y16 PA YD Q4
def atF (a : Int) : List Int → Int
  | [] => a
  | x :: l => atF (IntKind.i64.wrap (IntKind.i64.wrap (4 * a) + x)) l
def zs : List AV := List.replicate 64 (aB false)
def oneC (l : List Int) : List AV := aI l.length :: (if 0 ≤ atF 0 l ∧ atF 0 l < 64 then zs.set (atF 0 l).toNat (aB true) else zs)
structure SetC (c : List AV) : Prop where
  len : c.length = 65
  sc : ∀ x, x ∈ c → x.one = true ∧ HF x
theorem SetC.one {c : List AV} (h : SetC c) : ∀ x, x ∈ c → x.one = true := fun x hx => (h.sc x hx).1
theorem SetC.hf {c : List AV} (h : SetC c) : HF (.agg c) := HF.agg fun x hx => (h.sc x hx).2
theorem SetC.take {c : List AV} (h : SetC c) : List.take 65 c = c := List.take_of_length_le (by rw [h.len]; exact Nat.le_refl _)
theorem SetC.put {c d : List AV} (h : SetC c) (h' : SetC d) : putCells c 0 d = d := by
  rw [putCells_eq _ _ _ (by rw [h.len, h'.len]; exact Nat.le_refl _)]
  simp [h.len, h'.len, List.drop_of_length_le]
theorem SetC.zero : SetC (aI 0 :: zs) := ⟨rfl, fun x hx => by
  rcases List.mem_cons.1 hx with rfl | hx
  · exact ⟨rfl, HF.sc _⟩
  · rw [List.eq_of_mem_replicate hx]; exact ⟨rfl, HF.sc _⟩⟩
theorem SetC.oneC (l : List Int) : SetC (oneC l) := by
  have hz : ∀ x : AV, x ∈ zs → x.one = true ∧ HF x := fun x hx => by rw [List.eq_of_mem_replicate hx]; exact ⟨rfl, HF.sc _⟩
  unfold QD.oneC
  split
  · refine ⟨by simp [zs], fun x hx => ?_⟩
    rcases List.mem_cons.1 hx with rfl | hx
    · exact ⟨rfl, HF.sc _⟩
    · rcases List.mem_or_eq_of_mem_set hx with h | rfl
      · exact hz x h
      · exact ⟨rfl, HF.sc _⟩
  · refine ⟨by simp [zs], fun x hx => ?_⟩
    rcases List.mem_cons.1 hx with rfl | hx
    · exact ⟨rfl, HF.sc _⟩
    · exact hz x hx
theorem oneU (l : List Int) (hl : l.length ≤ 140737488351232) : SoundP Tryz.prog 76 [lI l] (.agg (oneC l)) := by
  have hset := SetC.oneC l
  generalize hR : oneC l = R at *
  unfold oneC at hR
  refine SoundP.of_sound (Sound.of_awp Tryz.call76 Tryz.func76 rfl (Nat.le_of_ble_eq_true (by kernel_rfl)) (by kernel_rfl) (pl := {}) ?_)
  simp [go_sem]
  have hzl : zs.length = 64 := rfl
  refine LoopGo.upK l.length (fun k st => ∃ a : Int, st.tm 0 = lI l ∧ st.tm 2 = .ptr 0 0 ∧ st.tm 3 = .ptr 1 0 ∧ st.tm 4 = aI a ∧ st.tm 5 = aI k ∧ st.mu = [.arr (aI 0 :: zs), .arr (aI l.length :: zs)] ∧ atF a (l.drop k) = atF 0 l) ?_ ?_
  · exact ⟨0, by simp [go_sem], by simp [go_sem], by simp [go_sem], by simp [go_sem], by simp [go_sem], by simp [go_sem, zs, List.replicate], rfl⟩
  rintro k st hk ⟨a, e0, e2, e3, e4, e5, hm, hI⟩
  by_cases hlt : k < l.length
  · have w1 : IntKind.i64.wrap ((k : Int) + 1) = (k : Int) + 1 := wrap_i64 (by omega) (by omega)
    rw [List.drop_eq_getElem_cons hlt] at hI
    simp [go_sem, e0, e2, e3, e4, e5, hm, hlt, w1]
    exact Keep.mk' ⟨_, by simp [go_sem, e0], by simp [go_sem, e2], by simp [go_sem, e3], by simp [go_sem], by simp [go_sem], by simp [go_sem, hm], hI⟩
  have hke : k = l.length := by omega
  subst hke
  rw [List.drop_length] at hI
  have ha : a = atF 0 l := hI
  rw [← ha] at hR
  have z1 : ∀ x : AV, (x :: zs).length = 65 := fun x => rfl
  have one1 : ∀ x : AV, x ∈ zs → x.one = true := fun x hx => by rw [List.eq_of_mem_replicate hx]; rfl
  have tk : List.take 64 zs = zs := rfl
  have pc : ∀ (x y : AV) (Z : List AV), Z.length = 64 → putCells (x :: zs) 0 (y :: Z) = y :: Z := fun x y Z hZ => by
    rw [putCells_eq _ _ _ (by simp [hZ, hzl])]; simp [hZ, hzl, List.drop_of_length_le]
  by_cases h0 : 0 ≤ a
  · obtain ⟨j, rfl⟩ : ∃ j : Nat, a = j := ⟨a.toNat, by omega⟩
    by_cases h64 : (j : Int) < 64
    · have hj : 1 + j ≤ 64 := by omega
      have hst : ∀ x : AV, (x :: zs).set (1 + j) (AV.sc (Value.bool true)) = x :: zs.set j (AV.sc (Value.bool true)) := fun x => by rw [Nat.add_comm]; rfl
      have sl : (zs.set j (AV.sc (Value.bool true))).length = 64 := by simp [hzl]
      have one2 : ∀ x : AV, x ∈ zs.set j (AV.sc (Value.bool true)) → x.one = true := fun x hx => by
        rcases List.mem_or_eq_of_mem_set hx with h | rfl
        · exact one1 x h
        · rfl
      have tk2 : List.take 64 (zs.set j (AV.sc (Value.bool true))) = zs.set j (AV.sc (Value.bool true)) := List.take_of_length_le (by omega)
      have hR2 : R = aI l.length :: zs.set j (AV.sc (Value.bool true)) := by rw [← hR, if_pos ⟨h0, h64⟩]; rfl
      generalize zs.set j (AV.sc (Value.bool true)) = Z at *
      simp [go_sem, e0, e2, e3, e4, e5, hm, h0, h64, hzl, hj, hst, sl, tk2, pc _ _ _ sl]
      rw [if_pos one2]
      simp [go_sem, e0, e2, e3, e4, e5, hm, sl, tk2]
      rw [hR2] at hset ⊢
      exact .hf _ hset.hf
    · simp [go_sem, e0, e2, e3, e4, e5, hm, h0, h64, hzl, tk, pc _ _ _ hzl]
      rw [if_pos one1]
      simp [go_sem, e0, e2, e3, e4, e5, hm, hzl, tk]
      have hR2 : R = aI l.length :: zs := by rw [← hR, if_neg (by omega)]
      rw [hR2] at hset ⊢
      exact .hf _ hset.hf
  · simp [go_sem, e0, e2, e3, e4, e5, hm, h0, hzl, tk, pc _ _ _ hzl]
    rw [if_pos one1]
    simp [go_sem, e0, e2, e3, e4, e5, hm, hzl, tk]
    have hR2 : R = aI l.length :: zs := by rw [← hR, if_neg (by omega)]
    rw [hR2] at hset ⊢
    exact .hf _ hset.hf
abbrev NS := List AV × Nat
def stF (nm : ByteArray) (f : Fld) (s : NS) : NS := if f.name = nm then (oneC f.sorts, s.2 + 1) else s
def nmF (nm : ByteArray) : List Fld → NS → NS
  | [], s => s
  | f :: l, s => nmF nm l (stF nm f s)
def st1 (nm : ByteArray) (i : Nat) (x : ByteArray × Bool) (s : NS) : NS := if x.1 = nm then (oneC [(i : Int)], s.2 + 1) else s
def st2 (nm : ByteArray) (i : Nat) (x : ByteArray × Bool) (s : NS) : NS := if x.2 = true ∧ x.1 ++ sFirst = nm then (oneC [(i : Int)], s.2 + 1) else s
def st3 (nm : ByteArray) (i : Nat) (x : ByteArray × Bool) (s : NS) : NS := if x.2 = true ∧ x.1 ++ sNext = nm then (oneC [(i : Int), (i : Int)], s.2 + 1) else s
def nmS (nm : ByteArray) : Nat → List (ByteArray × Bool) → NS → NS
  | _, [], s => s
  | i, x :: l, s => nmS nm (i + 1) l (st3 nm i x (st2 nm i x (st1 nm i x s)))
def named (ts : TS) (nm : ByteArray) : NS := nmS nm 0 ts.sorts (nmF nm ts.fields (aI 0 :: zs, 0))
theorem stF_set {nm : ByteArray} {f : Fld} {s : NS} (h : SetC s.1) : SetC (stF nm f s).1 := by
  unfold stF; split
  · exact SetC.oneC _
  · exact h
theorem st1_set {nm : ByteArray} {i : Nat} {x : ByteArray × Bool} {s : NS} (h : SetC s.1) : SetC (st1 nm i x s).1 := by
  unfold st1; split
  · exact SetC.oneC _
  · exact h
theorem st2_set {nm : ByteArray} {i : Nat} {x : ByteArray × Bool} {s : NS} (h : SetC s.1) : SetC (st2 nm i x s).1 := by
  unfold st2; split
  · exact SetC.oneC _
  · exact h
theorem st3_set {nm : ByteArray} {i : Nat} {x : ByteArray × Bool} {s : NS} (h : SetC s.1) : SetC (st3 nm i x s).1 := by
  unfold st3; split
  · exact SetC.oneC _
  · exact h
theorem st_le {nm : ByteArray} {i : Nat} {x : ByteArray × Bool} {s : NS} : (st3 nm i x (st2 nm i x (st1 nm i x s))).2 ≤ s.2 + 3 := by
  have h1 : (st1 nm i x s).2 ≤ s.2 + 1 := by unfold st1; split <;> simp
  have h2 : ∀ s : NS, (st2 nm i x s).2 ≤ s.2 + 1 := fun s => by unfold st2; split <;> simp
  have h3 : ∀ s : NS, (st3 nm i x s).2 ≤ s.2 + 1 := fun s => by unfold st3; split <;> simp
  have := h2 (st1 nm i x s)
  have := h3 (st2 nm i x (st1 nm i x s))
  omega
theorem nmF_set (nm : ByteArray) : ∀ (l : List Fld) (s : NS), SetC s.1 → SetC (nmF nm l s).1
  | [], _, h => h
  | f :: l, s, h => nmF_set nm l _ (stF_set h)
theorem nmS_set (nm : ByteArray) : ∀ (l : List (ByteArray × Bool)) (i : Nat) (s : NS), SetC s.1 → SetC (nmS nm i l s).1
  | [], _, _, h => h
  | x :: l, i, s, h => nmS_set nm l _ _ (st3_set (st2_set (st1_set h)))
theorem named_set (ts : TS) (nm : ByteArray) : SetC (named ts nm).1 := nmS_set nm _ _ _ (nmF_set nm _ _ SetC.zero)
theorem wk1 (i : Int) : WK (.lst true [rI i]) (lI [i]) := WK.lst fun r hr c hc => by
  rw [List.mem_singleton] at hr; subst hr
  rw [List.mem_singleton] at hc; subst hc; exact HF.sc _
theorem wk2 (i j : Int) : WK (.lst true [rI i, rI j]) (lI [i, j]) := WK.lst fun r hr c hc => by
  rcases List.mem_cons.1 hr with rfl | hr
  · rw [List.mem_singleton] at hc; subst hc; exact HF.sc _
  · rw [List.mem_singleton] at hr; subst hr
    rw [List.mem_singleton] at hc; subst hc; exact HF.sc _
theorem namedU (ts : TS) (ha : DT.okTA ts) (nm : ByteArray) : SoundP Tryz.prog 27 [eTS ts, aS nm] (.tup [.agg (named ts nm).1, aI (named ts nm).2]) := by
  generalize hR : named ts nm = R
  unfold named at hR
  refine SoundP.of_sound (Sound.of_awp Tryz.call27 Tryz.func27 rfl (Nat.le_of_ble_eq_true (by kernel_rfl)) (by kernel_rfl) (pl := {}) ?_)
  have hnf := ha.nf
  have hzl : zs.length = 64 := rfl
  have hns := ha.nso
  simp [go_sem]
  refine LoopGo.upK ts.fields.length (fun i st => ∃ s : NS, st.tm 1 = aS nm ∧ st.tm 2 = .ip (cTS ts) ∧ st.tm 4 = .ptr 0 0 ∧ st.tm 6 = .ptr 1 0 ∧ st.tm 7 = aI s.2 ∧ st.tm 8 = aI i ∧ st.mu = [.arr (aI 0 :: zs), .arr s.1] ∧ SetC s.1 ∧ s.2 ≤ i ∧ nmS nm 0 ts.sorts (nmF nm (ts.fields.drop i) s) = R) ?_ ?_
  · exact ⟨(aI 0 :: zs, 0), by simp [go_sem], by simp [go_sem], by simp [go_sem], by simp [go_sem], by simp [go_sem], by simp [go_sem], by simp [go_sem, zs, List.replicate], SetC.zero, by simp, by simpa using hR⟩
  clear hR
  rintro i st hi ⟨⟨c, k⟩, e1, e2, e4, e6, e7, e8, hm, hc, hk, hI⟩
  have hk : k ≤ i := hk
  have hc : SetC c := hc
  by_cases hlt : i < ts.fields.length
  · have w1 : IntKind.i64.wrap ((i : Int) + 1) = (i : Int) + 1 := wrap_i64 (by omega) (by omega)
    have w2 : IntKind.i64.wrap ((k : Int) + 1) = (k : Int) + 1 := wrap_i64 (by omega) (by omega)
    rw [List.drop_eq_getElem_cons hlt] at hI
    have ho := oneU ts.fields[i].sorts (ha.fl _ (List.getElem_mem hlt)).1
    have hco := SetC.oneC ts.fields[i].sorts
    by_cases hq : ts.fields[i].name = nm
    · simp [go_sem, e1, e2, e4, e6, e7, e8, hm, hlt, hq]
      refine CallStep.pure ho (.cons (.hf (hf_lI _)) .nil) ?_
      simp [go_sem, e1, e2, e4, e6, e7, e8, hm, hlt, hco.len, hc.len, hc.put hco]
      rw [if_pos hco.one]
      simp [go_sem, e1, e2, e4, e6, e7, e8, hm, hlt, hco.len, hc.put hco, w1, w2]
      exact Keep.mk' ⟨(oneC ts.fields[i].sorts, k + 1), by simp [go_sem, e1], by simp [go_sem, e2], by simp [go_sem, e4], by simp [go_sem, e6], by simp [go_sem], by simp [go_sem], by simp [go_sem], hco, by show k + 1 ≤ i + 1; omega, by rw [← hI]; simp [nmF, stF, hq]⟩
    · simp [go_sem, e1, e2, e4, e6, e7, e8, hm, hlt, str_ne hq, w1]
      exact Keep.mk' ⟨(c, k), by simp [go_sem, e1], by simp [go_sem, e2], by simp [go_sem, e4], by simp [go_sem, e6], by simp [go_sem, e7], by simp [go_sem], by simp [go_sem, hm], hc, by show k ≤ i + 1; omega, by rw [← hI]; simp [nmF, stF, hq]⟩
  have hie : i = ts.fields.length := by omega
  subst hie
  rw [List.drop_length] at hI
  simp only [nmF] at hI
  simp [go_sem, e1, e2, e4, e6, e7, e8, hm, hlt]
  refine LoopGo.upK ts.sorts.length (fun i st => ∃ s : NS, st.tm 1 = aS nm ∧ st.tm 2 = .ip (cTS ts) ∧ st.tm 4 = .ptr 0 0 ∧ st.tm 6 = .ptr 1 0 ∧ st.tm 7 = aI s.2 ∧ st.tm 9 = aI i ∧ st.mu = [.arr (aI 0 :: zs), .arr s.1] ∧ SetC s.1 ∧ s.2 ≤ ts.fields.length + 3 * i ∧ nmS nm i (ts.sorts.drop i) s = R) ?_ ?_
  · exact ⟨(c, k), by simp [go_sem, e1], by simp [go_sem, e2], by simp [go_sem, e4], by simp [go_sem, e6], by simp [go_sem, e7], by simp [go_sem], by simp [go_sem, hm], hc, by show k ≤ _; omega, by simpa using hI⟩
  clear e1 e2 e4 e6 e7 e8 hm hc hk hI hlt
  rintro i st hi ⟨⟨c, k⟩, e1, e2, e4, e6, e7, e9, hm, hc, hk, hI⟩
  have hk : k ≤ ts.fields.length + 3 * i := hk
  have hc : SetC c := hc
  by_cases hlt : i < ts.sorts.length
  · have w1 : IntKind.i64.wrap ((i : Int) + 1) = (i : Int) + 1 := wrap_i64 (by omega) (by omega)
    have w2 : IntKind.i64.wrap ((k : Int) + 1) = (k : Int) + 1 := wrap_i64 (by omega) (by omega)
    have w3 : IntKind.i64.wrap ((k : Int) + 1 + 1) = (k : Int) + 1 + 1 := wrap_i64 (by omega) (by omega)
    have w4 : IntKind.i64.wrap ((k : Int) + 1 + 1 + 1) = (k : Int) + 1 + 1 + 1 := wrap_i64 (by omega) (by omega)
    rw [List.drop_eq_getElem_cons hlt] at hI
    simp only [nmS] at hI
    have ho1 := oneU [(i : Int)] (by simp)
    have ho2 := oneU [(i : Int), (i : Int)] (by simp)
    have hc1 := SetC.oneC [(i : Int)]
    have hc2 := SetC.oneC [(i : Int), (i : Int)]
    have p01 := hc.put hc1
    have p02 := hc.put hc2
    have p11 := hc1.put hc1
    have p12 := hc1.put hc2
    have l1 := hc1.len
    have l2 := hc2.len
    have l0 := hc.len
    have hle := st_le (nm := nm) (i := i) (x := ts.sorts[i]) (s := (c, k))
    have hst := st3_set (nm := nm) (i := i) (x := ts.sorts[i]) (st2_set (nm := nm) (i := i) (x := ts.sorts[i]) (st1_set (nm := nm) (i := i) (x := ts.sorts[i]) (s := (c, k)) hc))
    have hsz := ha.so _ (List.getElem_mem hlt)
    have hsz : ts.sorts[i].1.size ≤ 140737488351232 := hsz
    generalize hso : ts.sorts[i] = so at *
    obtain ⟨sn, sb⟩ := so
    have hs1 : sn.size ≤ 9223372036854775801 := by simp at hsz; omega
    have hs2 : sn.size ≤ 9223372036854775802 := by simp at hsz; omega
    generalize hN : st3 nm i (sn, sb) (st2 nm i (sn, sb) (st1 nm i (sn, sb) (c, k))) = N at *
    have hfs : (sn ++ sFirst = nm) = (sn ++ (⟨#[95, 102, 105, 114, 115, 116]⟩ : ByteArray) = nm) := rfl
    have hxs : (sn ++ sNext = nm) = (sn ++ (⟨#[95, 110, 101, 120, 116]⟩ : ByteArray) = nm) := rfl
    simp only [st1, st2, st3, hfs, hxs] at hN
    obtain ⟨d1, hd1⟩ : ∃ d, decide (sn = nm) = d := ⟨_, rfl⟩
    obtain ⟨d2, hd2⟩ : ∃ d, decide (sn ++ (⟨#[95, 102, 105, 114, 115, 116]⟩ : ByteArray) = nm) = d := ⟨_, rfl⟩
    obtain ⟨d3, hd3⟩ : ∃ d, decide (sn ++ (⟨#[95, 110, 101, 120, 116]⟩ : ByteArray) = nm) = d := ⟨_, rfl⟩
    have p1 : (sn = nm) = (d1 = true) := by rw [← hd1]; simp
    have p2 : (sn ++ (⟨#[95, 102, 105, 114, 115, 116]⟩ : ByteArray) = nm) = (d2 = true) := by rw [← hd2]; simp
    have p3 : (sn ++ (⟨#[95, 110, 101, 120, 116]⟩ : ByteArray) = nm) = (d3 = true) := by rw [← hd3]; simp
    simp only [p1, p2, p3] at hN
    have done : ∀ st' : St, st'.tm 1 = aS nm → st'.tm 2 = .ip (cTS ts) → st'.tm 4 = .ptr 0 0 → st'.tm 6 = .ptr 1 0 → st'.tm 7 = aI N.2 → st'.tm 9 = aI (i + 1 : Nat) → st'.mu = [.arr (aI 0 :: zs), .arr N.1] →
        Keep (fun st => ∃ s : NS, st.tm 1 = aS nm ∧ st.tm 2 = .ip (cTS ts) ∧ st.tm 4 = .ptr 0 0 ∧ st.tm 6 = .ptr 1 0 ∧ st.tm 7 = aI s.2 ∧ st.tm 9 = aI (i + 1 : Nat) ∧ st.mu = [.arr (aI 0 :: zs), .arr s.1] ∧ SetC s.1 ∧ s.2 ≤ ts.fields.length + 3 * (i + 1) ∧ nmS nm (i + 1) (ts.sorts.drop (i + 1)) s = R) .mk st' :=
      fun st' a1 a2 a3 a4 a5 a6 a7 => Keep.mk' ⟨N, a1, a2, a3, a4, a5, a6, a7, hst, by have : N.2 ≤ k + 3 := hle; omega, hI⟩
    cases d1 <;> cases d2 <;> cases d3 <;> cases sb
    all_goals simp only [if_true, if_false, and_false, and_true, false_and, true_and, reduceCtorEq] at hN
    all_goals simp [go_sem, Y10.toL_eq, e1, e2, e4, e6, e7, e9, hm, hlt, hso, hd1, hd2, hd3, w1, w2, w3, w4, hs1, hs2]
    all_goals repeat' (first
      | (refine CallStep.pure ho1 (.cons (wk1 _) .nil) ?_
         simp [go_sem, e1, e2, e4, e6, e7, e9, hm, hlt, hso, p01, p11, l0, l1]
         rw [if_pos hc1.one]
         simp [go_sem, Y10.toL_eq, e1, e2, e4, e6, e7, e9, hm, hlt, hso, hd1, hd2, hd3, w1, w2, w3, w4, hs1, hs2])
      | (refine CallStep.pure ho2 (.cons (wk2 _ _) .nil) ?_
         simp [go_sem, e1, e2, e4, e6, e7, e9, hm, hlt, hso, p02, p12, l0, l1, l2]
         rw [if_pos hc2.one]
         simp [go_sem, Y10.toL_eq, e1, e2, e4, e6, e7, e9, hm, hlt, hso, hd1, hd2, hd3, w1, w2, w3, w4, hs1, hs2]))
    all_goals try subst hN
    all_goals try exact done _ (by simp [go_sem, e1]) (by simp [go_sem, e2]) (by simp [go_sem, e4]) (by simp [go_sem, e6]) (by simp [go_sem, e7]) (by simp [go_sem]) (by simp [go_sem, hm])
  have hie : i = ts.sorts.length := by omega
  subst hie
  rw [List.drop_length] at hI
  simp only [nmS] at hI
  subst hI
  simp [go_sem, e1, e2, e4, e6, e7, e9, hm, hc.len, hc.take, SetC.zero.put hc, SetC.zero.len, hzl]
  rw [if_pos hc.one]
  simp [go_sem, e1, e2, e4, e6, e7, e9, hm, hc.len, hc.take, SetC.zero.put hc]
  refine .hf _ (HF.tup fun x hx => ?_)
  rcases List.mem_cons.1 hx with rfl | hx
  · exact hc.hf
  · rw [List.mem_singleton] at hx; subst hx; exact HF.sc _
end Go.Proofs.YtcfopdccdeeleaaGreatDoor.QD


namespace Go.Proofs.YtcfopdccdeeleaaGreatDoor.W31
open Go Go.Ev Go.Proofs Go.Proofs.YtcfopdccdeeleaaGreatDoor P1 P2 Y1 Y2 Y3 Y4 YF Y9 Y14 Y16 YW YX YZ YA YB PA YC YE YG YH Q4 Q5 Q6 Q7 Q8 Q9 QA QB
theorem env_ok {ns : Nat} {env : List (ByteArray × Int)} (h : parB ns env = true) : okEnv ns env := ⟨by have := (par_ok h).1; omega, (par_ok h).2⟩
end Go.Proofs.YtcfopdccdeeleaaGreatDoor.W31


namespace Go.Proofs.YtcfopdccdeeleaaGreatDoor.W35
open Go Go.Ev Go.Proofs Go.Proofs.YtcfopdccdeeleaaGreatDoor Y15 P1 P2 Y1 Y2 Y3 Y4 YF Y9 Y14 Y16 YW YX YZ YA YB PA YC YE YG YH Q3 Q4 Q5 Q6 Q7 Q8 Q9 QA QB W31
theorem op_ren (a b : ByteArray) (n : Nd) : (renN a b n).op = n.op := by rw [renN_eq]; split <;> rfl
theorem ren_kinds (a b : ByteArray) (q : Bool) : ∀ (ks : List Nd) (i : Nat), ((renNs a b q i ks).map fun k => kd k.op) = ks.map fun k => kd k.op
  | [], _ => rfl
  | k :: ks, i => by
    simp only [renNs, List.map_cons, ren_kinds a b q ks]
    split
    · rfl
    · rw [op_ren]
theorem ren_mem (a b : ByteArray) (q : Bool) : ∀ (ks : List Nd) (i : Nat) (x : Nd), x ∈ renNs a b q i ks → x ∈ ks ∨ ∃ k, k ∈ ks ∧ x = renN a b k
  | [], _, x, h => by simp [renNs] at h
  | k :: ks, i, x, h => by
    simp only [renNs, List.mem_cons] at h
    rcases h with h | h
    · split at h
      · exact .inl (by rw [h]; exact List.mem_cons_self)
      · exact .inr ⟨k, List.mem_cons_self, h⟩
    · rcases ren_mem a b q ks (i + 1) x h with h | ⟨y, hy, e⟩
      · exact .inl (List.mem_cons_of_mem _ h)
      · exact .inr ⟨y, List.mem_cons_of_mem _ hy, e⟩
theorem wf_ren (a b : ByteArray) : ∀ (m : Nat) (n : Nd), szN n ≤ m → WfN n → WfN (renN a b n)
  | 0, n, hm, _ => by obtain ⟨op, nm, i, ks, p⟩ := n; simp [szN] at hm
  | m + 1, n, hm, hw => by
    have ih : ∀ k, k ∈ n.kids → WfN (renN a b k) := fun k hk => wf_ren a b m k (by have := kid_lt hk; omega) (hw.kid hk)
    rw [renN_eq]
    split
    · exact .mk _ hw.shape hw.num fun k hk => hw.kid hk
    · refine .mk _ ?_ hw.num fun k hk => ?_
      · show shp n.op (renNs a b (binB n.op && decide (n.name = a)) 0 n.kids).length = some ((renNs a b (binB n.op && decide (n.name = a)) 0 n.kids).map fun k => kd k.op)
        rw [renNs_len, ren_kinds]
        exact hw.shape
      · rcases ren_mem a b _ _ _ _ hk with h | ⟨y, hy, rfl⟩
        · exact hw.kid h
        · exact ih y hy
def b31 : ByteArray := ⟨#[122, 122, 95, 51, 49]⟩
theorem renamingU (ts : TS) (ha : DT.okTA ts) (x : ByteArray × Int) (n : Nd) : SoundP Tryz.prog 5 [eTS ts, .agg (cPm x), eNd n] (aB true) := by
  refine SoundP.of_sound (Sound.of_awp Tryz.call5 Tryz.func5 rfl (Nat.le_of_ble_eq_true (by kernel_rfl)) (by kernel_rfl) (pl := {}) ?_)
  have hs : ∀ x, x ∈ ts.sorts → x.1.size ≤ 4611686018427387904 := fun x hx => Nat.le_trans (ha.so x hx) (Nat.le_of_ble_eq_true rfl)
  have hx2 : cPm x = [aS x.1, aI x.2] := rfl
  simp [go_sem]
  refine CallStep.pure headU .nil ?_
  simp [go_sem]
  have hN := QD.namedU ts ha b31
  have hNs := QD.named_set ts b31
  generalize QD.named ts b31 = R at *
  refine CallStep.pure hN (.cons (.hf (hf_eTS ts)) (.cons (.hf (HF.sc _)) .nil)) ?_
  simp [go_sem, hNs.len]
  rw [if_pos hNs.one]
  simp [go_sem, hNs.len]
  refine CallStep.pure (fitsSU ts) (.cons (.hf (hf_eTS ts)) .nil) ?_
  cases hf : fitsS ts with
  | false => simp [go_sem]; exact .hf _ (HF.sc _)
  | true =>
  obtain ⟨ok, wp, wfa⟩ := fits_ok hf hs
  simp [go_sem]
  refine CallStep.pure (paramsU ts [x]) (.cons (.hf (hf_eTS ts)) (.cons (wk_rows (xs := [cPm x]) (ys := [cPm x]) ⟨wks_hf (hf_cPm x), trivial⟩) .nil)) ?_
  cases hpx : parB ts.sorts.length [x] with
  | false => simp [go_sem]; exact .hf _ (HF.sc _)
  | true =>
  have hx1 := (env_ok hpx).r x (by simp)
  have he := env_ok hpx
  have he2 : okEnv ts.sorts.length [(b31, x.2)] := ⟨by simp, fun p hp => by rw [List.mem_singleton] at hp; subst hp; exact hx1⟩
  simp [go_sem]
  refine CallStep.pure (validU n) (.cons (.hf (hf_eNd n)) .nil) ?_
  cases hn : validB n with
  | false => simp [go_sem]; exact .hf _ (HF.sc _)
  | true =>
  have wn := wf_valid hn
  simp [go_sem]
  refine CallStep.pure (name2U x.1) (.cons (.hf (HF.sc _)) .nil) ?_
  cases hnm : nameB x.1 with
  | false => simp [go_sem]; exact .hf _ (HF.sc _)
  | true =>
  simp [go_sem]
  by_cases hk : 0 < R.2
  · simp [go_sem, hk]; exact .hf _ (HF.sc _)
  simp [go_sem, hk]
  refine CallStep.pure (usesU b31 (szN n) n (Nat.le_refl _) wn.small) (.cons (.hf (hf_eNd n)) (.cons (.hf (HF.sc _)) .nil)) ?_
  have hck := rename_check ts (a := x.1) (b := b31) (i := x.2) (n := n) wn
  unfold usesN at hck
  cases hU : anyN (fun n => decide (n.name = b31)) n with
  | true => simp [go_sem]; exact .hf _ (HF.sc _)
  | false =>
  obtain ⟨f1, f2⟩ := hck (by rw [hU]; simp)
  have wm := wf_ren x.1 b31 (szN n) n (Nat.le_refl _) wn
  have hren := QC.renameU x.1 b31 (szN n) n (Nat.le_refl _) wn.small
  have c1 := typeU ts ok wp n wn [x] he
  have c2 := typeU ts ok wp _ wm [(b31, x.2)] he2
  have c3 := checkFormulaU ts ok wp n wn [x] he
  have c4 := checkFormulaU ts ok wp _ wm [(b31, x.2)] he2
  have hT := typeK_small ok wn he
  have c5 := sameTypesU (typeK ts [x] n).1 (typeK ts [x] n).1 (by omega) (fun x hx => by have := hT.2 x hx; omega)
  rw [decide_eq_true rfl] at c5
  have f1 : checkF ts [x] n = checkF ts [(b31, x.2)] (renN x.1 b31 n) := f1
  have f2 : typeK ts [x] n = typeK ts [(b31, x.2)] (renN x.1 b31 n) := f2
  rw [← f2] at c2
  rw [← f1] at c4
  clear hT f1 f2 hck
  generalize typeK ts [x] n = T at *
  generalize checkF ts [x] n = D at *
  generalize renN x.1 b31 n = m at *
  have a1 : WKs [eTS ts, .lst true [cPm x], eNd n] [eTS ts, lPm [x], eNd n] := .cons (.hf (hf_eTS ts)) (.cons (wk_rows (xs := [cPm x]) (ys := [cPm x]) ⟨wks_hf (hf_cPm x), trivial⟩) (.cons (.hf (hf_eNd n)) .nil))
  have a2 : WKs [eTS ts, .lst true [[aS b31, aI x.2]], eNd m] [eTS ts, lPm [(b31, x.2)], eNd m] := .cons (.hf (hf_eTS ts)) (.cons (wk_rows (xs := [cPm (b31, x.2)]) (ys := [cPm (b31, x.2)]) ⟨wks_hf (hf_cPm _), trivial⟩) (.cons (.hf (hf_eNd m)) .nil))
  simp [go_sem]
  refine CallStep.pure hren (.cons (.hf (hf_eNd n)) (.cons (.hf (HF.sc _)) (.cons (.hf (HF.sc _)) .nil))) ?_
  simp [go_sem, cNd_ones]
  generalize putCells _ 0 R.1 = C0
  refine CallStep.pure c1 a1 ?_
  simp [go_sem, cNd_ones]
  refine CallStep.pure c2 a2 ?_
  simp [go_sem, cNd_ones]
  refine DrawGo.intro (by kernel_rfl) ?_
  simp [go_sem, cNd_ones]
  refine CallStep.pure c3 a1 ?_
  simp [go_sem, cNd_ones]
  refine CallStep.pure c4 a2 ?_
  simp [go_sem, cNd_ones]
  refine CallStep.pure c5 (.cons (.hf (QA.hf_lL _)) (.cons (.hf (QA.hf_lL _)) .nil)) ?_
  simp [go_sem, cNd_ones]
  exact .hf _ (HF.sc _)
end Go.Proofs.YtcfopdccdeeleaaGreatDoor.W35


namespace Go.Proofs.YtcfopdccdeeleaaGreatDoor.DL
open Go Go.Ev Go.EvW Go.Proofs Go.Proofs.YtcfopdccdeeleaaGreatDoor Go.RowKit Go.ChangeShapes Go.WideShapes
theorem own : ownKnob Tryz.prog.godebug = none := by kernel_rfl
theorem laid : laidOutB Tryz.prog = true := by kernel_rfl
abbrev tabL : List (String × DataW Unit) := [("math/bits.deBruijn32tab", Rows.laid_math_bits_deBruijn32tab), ("math/bits.deBruijn64tab", Rows.laid_math_bits_deBruijn64tab), ("internal/strconv.uint64pow10", Rows.laid_internal_strconv_uint64pow10)]
def pows : List Int := [1, 10, 100, 1000, 10000, 100000, 1000000, 10000000, 100000000, 1000000000, 10000000000, 100000000000, 1000000000000, 10000000000000, 100000000000000, 1000000000000000, 10000000000000000, 100000000000000000, 1000000000000000000, 10000000000000000000]
theorem gPow : Tryz.prog.globalNamed "internal/strconv.uint64pow10" = some 0 := by kernel_rfl
theorem tPow : (Tryz.prog.globals[0]?).map (·.type) = some 256 := by kernel_rfl
theorem uPow : Tryz.prog.underlying 256 = some (.array 20 214) := by kernel_rfl
theorem uU64 : Tryz.prog.underlying 214 = some (.int .u64) := by kernel_rfl
theorem tab_of {W : World} (h : laidMetH Tryz.prog tabL W) : TabOk (· < W.heap.size) W.heap := by
  rw [MakeChecks.laidMetH_plain _ _ _ (by kernel_rfl)] at h
  obtain ⟨ps, hl, _⟩ := h
  obtain ⟨g, t, cs, fuel, p, hg, ht, hv, hd⟩ := laid_vars hl ("internal/strconv.uint64pow10", Rows.laid_internal_strconv_uint64pow10) (by simp)
  obtain rfl := Option.some.inj (gPow.symm.trans hg)
  obtain rfl := Option.some.inj (tPow.symm.trans ht)
  have hc : cs.toList = pows.map fun i => .int .u64 i := tab_ints uPow uU64 (by kernel_rfl) (by kernel_rfl) (ns := pows) hd
  obtain ⟨e, fr, ho⟩ := var_obj gPow hv
  intro x hx
  have hx : x ∈ [(0, pows.map fun i => Value.int .u64 i)] := hx
  rw [List.mem_singleton] at hx
  subst hx
  refine ⟨(Array.getElem?_eq_some_iff.1 ho).1, e, fr, ?_⟩
  show W.heap[0]? = _
  rw [ho]
  have : cs = (pows.map fun i => Value.int .u64 i).toArray := by rw [← hc]
  rw [this]
theorem door_met (os : Os) (args : Array Value) : laidMetH Tryz.prog tabL ((World.doorLaid Tryz.prog 4000 os).forCall (fun _ _ => 0) ⟨#[], args, []⟩).memory :=
  laidMetH_of_parts3 (fuel := 8) (laidMet_of_run' 8 (by kernel_rfl) (by kernel_rfl)) (by kernel_rfl) (by kernel_rfl)
end Go.Proofs.YtcfopdccdeeleaaGreatDoor.DL
