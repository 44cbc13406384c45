/-
  Own library, part 6: an abstract reading of values and a calculus over it; contracts of functions; plain lemmas.
-/
import Derived.Test.YtcfopdccdeeleaaGreatDoorMe
set_option linter.unusedVariables false
set_option linter.unusedSimpArgs false
set_option maxRecDepth 100000


namespace Go.Proofs.YtcfopdccdeeleaaGreatDoor.PC
open Go Go.Ev Go.Proofs Go.Proofs.YtcfopdccdeeleaaGreatDoor YM YS YF P1 P2 Y1 Y2 Y3 Y4 Y5 Y9 Y10 Y12 Y14 Y16 YX YZ YA YB PA YC YE YG Q1 Q3 Q4 Q6 PB
theorem inter_mono2 {a a' b b':Kd} (ha:Sub a' a) (hb:Sub b' b):Sub (kInter a' b') (kInter a b):=⟨ha.1,fun t ht=>by
 simp only [kInter,List.mem_filter,decide_eq_true_eq] at ht ⊢
 exact ⟨ha.2 t ht.1,hb.2 t ht.2⟩⟩
theorem alike_mono {op:Int} {a a' b b':Kd} (ha:Sub a' a) (hb:Sub b' b):Sub (alikeK op a' b') (alikeK op a b):=by
 unfold alikeK
 split
 ·exact sum_mono ha hb.2
 ·split
  ·exact inter_mono2 ha hb
  ·exact ha
theorem bin_mono {ns:Nat} (hns:ns≤4) {op:Int} {a a':Kd} (h:Sub a' a) (ok:okKd ns a) (h2:a.ar=2):Sub (binK ns op a') (binK ns op a):=by
 unfold binK
 split
 ·exact clo_mono hns h ok h2
 ·split
  ·exact sum_mono (clo_mono hns h ok h2) fun _ h=>h
  ·exact tr_mono h
theorem apK1 (ns:Nat) (op n pos:Int) (a:Kd):applyK ns op n pos [some a]=if op=2 then .ok (some ⟨n,[]⟩) else if op=3 then .ok (some (kDiag ns 1)) else if op=4 then .ok (some (kDiag ns 2)) else
  if op=5 then .ok (some a) else if op=11∨op=12∨op=13 then (if a.ar=2 then .ok (some (binK ns op a)) else .error (42,pos)) else .ok none:=rfl
theorem apK2 (ns : Nat) (op n pos : Int) (a b : Kd) : applyK ns op n pos [some a, some b] = if op = 2 then .ok (some ⟨n, []⟩) else if op = 3 then .ok (some (kDiag ns 1)) else if op = 4 then .ok (some (kDiag ns 2)) else
      if op=6∨op=14∨op=7∨op=8∨op=32∨op=33 then (if a.ar=b.ar then .ok (some (alikeK op a b)) else .error (42,pos))
      else if op=9 then (if 1≤a.ar+b.ar-2∧a.ar+b.ar-2≤3 then .ok (some (kJoin a b)) else .error (42,pos))
      else if op=10 then (if a.ar+b.ar≤3 then .ok (some (kProd a b)) else .error (42,pos))
      else .ok none:=rfl
theorem apply_mono {ns:Nat} (hns:ns≤4) {op num pos:Int} {l l':List (Option Kd)} {ko:Option Kd} (e1:op≠1) (e15:op≠15)
  (h1:op=5∨op=11∨op=12∨op=13→∃ a a',l=[some a]∧l'=[some a']∧Sub a' a∧okKd ns a)
  (h2:op=6∨op=14∨op=7∨op=8∨op=32∨op=33∨op=9∨op=10→∃ a b a' b',l=[some a,some b]∧l'=[some a',some b']∧Sub a' a∧Sub b' b)
  (h:applyK ns op num pos l = .ok ko):∃ ko',applyK ns op num pos l' = .ok ko'∧(kd op=101→∃ k k',ko=some k∧ko'=some k'∧Sub k' k):=by
 by_cases e2:op=2
 ·unfold applyK at h ⊢
  rw [if_pos e2] at h ⊢
  cases h
  exact ⟨_,rfl,fun _=>⟨_,_,rfl,rfl,Sub.refl _⟩⟩
 by_cases e3:op=3
 ·unfold applyK at h ⊢
  rw [if_neg e2,if_pos e3] at h ⊢
  cases h
  exact ⟨_,rfl,fun _=>⟨_,_,rfl,rfl,Sub.refl _⟩⟩
 by_cases e4:op=4
 ·unfold applyK at h ⊢
  rw [if_neg e2,if_neg e3,if_pos e4] at h ⊢
  cases h
  exact ⟨_,rfl,fun _=>⟨_,_,rfl,rfl,Sub.refl _⟩⟩
 by_cases g1:op=5∨op=11∨op=12∨op=13
 ·obtain ⟨a,a',rfl,rfl,hs,ok⟩:=h1 g1
  rw [apK1,if_neg e2,if_neg e3,if_neg e4] at h ⊢
  by_cases e5:op=5
  ·rw [if_pos e5] at h ⊢
   cases h
   exact ⟨_,rfl,fun _=>⟨_,_,rfl,rfl,hs⟩⟩
  have g:op=11∨op=12∨op=13:=by omega
  rw [if_neg e5,if_pos g] at h ⊢
  by_cases har:a.ar=2
  ·rw [if_pos har] at h
   rw [if_pos (hs.1.trans har)]
   cases h
   exact ⟨_,rfl,fun _=>⟨_,_,rfl,rfl,bin_mono hns hs ok har⟩⟩
  ·rw [if_neg har] at h;cases h
 by_cases g2:op=6∨op=14∨op=7∨op=8∨op=32∨op=33∨op=9∨op=10
 ·obtain ⟨a,b,a',b',rfl,rfl,ha,hb⟩:=h2 g2
  have q1:=ha.1
  have q2:=hb.1
  rw [apK2,if_neg e2,if_neg e3,if_neg e4] at h ⊢
  by_cases g3:op=6∨op=14∨op=7∨op=8∨op=32∨op=33
  ·rw [if_pos g3] at h ⊢
   by_cases har:a.ar=b.ar
   ·rw [if_pos har] at h
    rw [if_pos (by omega)]
    cases h
    exact ⟨_,rfl,fun _=>⟨_,_,rfl,rfl,alike_mono ha hb⟩⟩
   ·rw [if_neg har] at h;cases h
  rw [if_neg g3] at h ⊢
  by_cases e9:op=9
  ·rw [if_pos e9] at h ⊢
   by_cases har:1≤a.ar+b.ar-2∧a.ar+b.ar-2≤3
   ·rw [if_pos har] at h
    rw [if_pos (by omega)]
    cases h
    exact ⟨_,rfl,fun _=>⟨_,_,rfl,rfl,join_mono ha hb⟩⟩
   ·rw [if_neg har] at h;cases h
  have e10:op=10:=by omega
  rw [if_neg e9,if_pos e10] at h ⊢
  by_cases har:a.ar+b.ar≤3
  ·rw [if_pos har] at h
   rw [if_pos (by omega)]
   cases h
   exact ⟨_,rfl,fun _=>⟨_,_,rfl,rfl,prod_mono ha hb⟩⟩
  ·rw [if_neg har] at h;cases h
 refine ⟨none,applyK_other e2 e3 e4 (by omega) (by omega) (by omega) (by omega) (by omega) (by omega) (by omega) (by omega) (by omega) (by omega) (by omega) (by omega),fun hk=>?_⟩
 have:=of_kd hk
 omega
theorem tempL_kid {c:Ck} {n k:Nd} (h:tempL c n=false) (hk:k∈n.kids):tempL c k=false:=by
 rw [tempL_eq,Bool.or_eq_false_iff] at h
 have h2:=h.2
 rw [List.any_eq_false] at h2
 simpa using h2 k hk
theorem examL_inn {c:Ck} {b b':Bool}:∀{ks:List Nd} {s:Scp},(∀ k,k∈ks→∀ s,exam c s b k=exam c s b' k)→examL c s b ks=examL c s b' ks
 | [],s,_=>by simp only [examL]
 |k :: ks,s,h=>by
  simp only [examL]
  rw [h k (List.mem_cons_self ..) s,examL_inn fun k hk s=>h k (List.mem_cons_of_mem _ hk) s]
theorem examB_inn {c:Ck} {b b':Bool} {nm:ByteArray} {pos:Int}:∀{ks:List Nd} {s:Scp},(∀ k,k∈ks→∀ s,exam c s b k=exam c s b' k)→examB c s b nm pos ks=examB c s b' nm pos ks
 | [],s,_=>by simp only [examB]
 |k :: ks,s,h=>by
  simp only [examB]
  rw [h k (List.mem_cons_self ..) s]
  cases exam c s b' k with
  |error e=>rfl
  |ok a =>
   cases a with
   |none=>rfl
   |some a =>
    simp only
    rw [examL_inn (s:=(nm,a) :: s) fun k hk s=>h k (List.mem_cons_of_mem _ hk) s]
theorem exam_time (c:Ck):∀(m:Nat) (n:Nd) (s:Scp) (b b':Bool),szN n≤m→tempL c n=false→exam c s b n=exam c s b' n
 | 0,n,_,_,_,hm,_=>by obtain ⟨op,nm,i,ks,p⟩:=n;simp [szN] at hm
 |m+1,n,s,b,b',hm,h=>by
  have ih:∀ b b' k,k∈n.kids→∀ s,exam c s b k=exam c s b' k:=fun b b' k hk s=>exam_time c m k s b b' (by have:=kid_lt hk;omega) (tempL_kid h hk)
  have ht:timeOfL c n.op n.name=false:=by rw [tempL_eq,Bool.or_eq_false_iff] at h;exact h.1
  rw [exam_eq,exam_eq,ht,Bool.and_false,Bool.and_false]
  rw [examB_inn (b:=b||decide (n.op=15)) (b':=b'||decide (n.op=15)) (ih _ _),examL_inn (b:=b||decide (n.op=12)||decide (n.op=13)) (b':=b'||decide (n.op=12)||decide (n.op=13)) (ih _ _)]
theorem tms_get (ts:TS) (i:Nat):∀ m,i<m→m≤ts.preds.length→∀(hi:i<ts.preds.length),(tmsL ts m).getD i false=tempL (mkCk ts i) ts.preds[i].body
 | 0,h,_,_=>absurd h (by omega)
 |m+1,h,hm,hi=>by
  have hl:=tmsL_len ts m (by omega)
  have hmp:m<ts.preds.length:=by omega
  have e:tmsL ts (m+1)=tmsL ts m++[tempL (mkCk ts m) ts.preds[m].body]:=by
   show tmsL ts m++(match ts.preds[m]? with | some p=>[tempL ⟨ts,m,tmsL ts m⟩ p.body] | none=>[])=_
   rw [List.getElem?_eq_getElem hmp]
   rfl
  rw [e]
  by_cases hq:i<m
  ·rw [←tms_get ts i m hq (by omega) hi]
   simp only [List.getD_eq_getElem?_getD]
   rw [List.getElem?_append_left (by omega)]
  ·have:i=m:=by omega
   subst this
   simp only [List.getD_eq_getElem?_getD]
   rw [List.getElem?_append_right (by omega),hl]
   simp
abbrev tkn (es:List (ByteArray×Bool)) (nm:ByteArray):Prop:=getK nm es=some true
def Tk (es:List (ByteArray×Bool)) (n:Nd):Prop:=∀ x,x∈preN n→tkn es x.name
def OwnT (n:Nd):Prop:=∀ x,x∈preN n→ownB x=true
def vLe (es:List (ByteArray×Bool)) (L:Int) (nm:ByteArray):Prop:=∃ j:Nat,(j:Int)≤L∧nm=vN j∧¬tkn es nm∧nameB nm=true
structure NodeOk (es:List (ByteArray×Bool)) (L:Int) (x:Nd):Prop where
 nc:x.op≠47
 own:ownB x=true
 nm:tkn es x.name∨vLe es L x.name
structure GoodN (es:List (ByteArray×Bool)) (L:Int) (n:Nd):Prop where
 wf:WfN n
 all:∀ x,x∈preN n→NodeOk es L x
theorem vLe.mono {es:List (ByteArray×Bool)} {L L':Int} {nm:ByteArray} (h:vLe es L nm) (hl:L≤L'):vLe es L' nm:=by
 obtain ⟨j,a,b⟩:=h
 exact ⟨j,by omega,b⟩
theorem GoodN.mono {es:List (ByteArray×Bool)} {L L':Int} {n:Nd} (h:GoodN es L n) (hl:L≤L'):GoodN es L' n:=
 ⟨h.wf,fun x hx=>⟨(h.all x hx).nc,(h.all x hx).own,(h.all x hx).nm.imp id fun v=>v.mono hl⟩⟩
theorem Tk.kid {es:List (ByteArray×Bool)} {n k:Nd} (h:Tk es n) (hk:k∈n.kids):Tk es k:=fun x hx=>h x (preN_kid hk hx)
theorem OwnT.kid {n k:Nd} (h:OwnT n) (hk:k∈n.kids):OwnT k:=fun x hx=>h x (preN_kid hk hx)
theorem mem_preNs {ks:List Nd} {x:Nd} (h:x∈preNs ks):∃ k,k∈ks∧x∈preN k:=by
 induction ks with
 |nil=>simp [preNs] at h
 |cons a l ih =>
  simp only [preNs,List.mem_append] at h
  rcases h with h | h
  ·exact ⟨a,List.mem_cons_self ..,h⟩
  ·obtain ⟨k,hk,hx⟩:=ih h
   exact ⟨k,List.mem_cons_of_mem _ hk,hx⟩
theorem uses_pre {nm:ByteArray} {n:Nd} (h:usesN nm n):∃ x,x∈preN n∧x.name=nm:=by
 unfold usesN at h
 rw [any_pre _ (szN n) n (Nat.le_refl _),List.any_eq_true] at h
 obtain ⟨x,hx,e⟩:=h
 exact ⟨x,hx,by simpa using e⟩
theorem freshI_is {ts:TS} {es:List (ByteArray×Bool)}:∀{f:Nat} {k:Int},(∃ j:Nat,1≤j∧j≤f∧freeN ts es (vN (k+j))=true)→freeN ts es (vN (freshI ts es f k))=true
 | 0,k,⟨j,h1,h2,_⟩=>by omega
 |f+1,k,⟨j,h1,h2,h3⟩=>by
  simp only [freshI]
  split
  ·rename_i h;exact h
  ·rename_i hn
   have hj:j≠1:=fun e=>by subst e;exact hn h3
   exact freshI_is (ts:=ts) (es:=es) (f:=f) (k:=k+1) ⟨j-1,by omega,by omega,by rw [show k+1+((j-1:Nat):Int)=k+j by omega];exact h3⟩
theorem dec_len:∀(m u:Nat),u<10 ^ (m+1)→(Lib.decDigits u).length≤m+1
 | 0,u,h=>by
  rw [Lib.decDigits]
  split
  ·simp
  ·omega
 |m+1,u,h=>by
  rw [Lib.decDigits]
  split
  ·simp
  ·rw [List.length_append]
   have:=dec_len m (u / 10) (by rw [Nat.pow_succ] at h;omega)
   simp only [List.length_cons,List.length_nil]
   omega
theorem dec_dig:∀(m u:Nat),u≤m→∀ x,x∈Lib.decDigits u→48≤x.toNat∧x.toNat≤57
 |m,u,hm,x,hx=>by
  rw [Lib.decDigits] at hx
  split at hx
  ·rename_i h
   rw [List.mem_singleton] at hx
   subst hx
   rw [UInt8.toNat_ofNat_of_lt' (by simp [UInt8.size];omega)]
   omega
  ·rename_i h
   rcases List.mem_append.1 hx with hx | hx
   ·match m with
    | 0=>omega
    |m+1=>exact dec_dig m (u / 10) (by omega) x hx
   ·rw [List.mem_singleton] at hx
    subst hx
    rw [UInt8.toNat_ofNat_of_lt' (by simp [UInt8.size];omega)]
    omega
theorem dec_ne (u:Nat):Lib.decDigits u≠[]:=by
 rw [Lib.decDigits]
 split<;>simp
theorem vN_list (j:Nat):(vN (j:Int)).data.toList=118 :: Lib.decDigits j:=by
 unfold vN itoaB Lib.itoa
 rw [if_neg (by omega)]
 simp
theorem kw_dig:∀ x,x∈kwL→∀ c,x.data.toList[1]?=some c→¬(48≤c.toNat∧c.toNat≤57):=by decide +kernel
theorem nameB_vN {j:Nat} (h:j<1000000000000):nameB (vN (j:Int))=true:=by
 have hl:=vN_list j
 have h1:=dec_len 11 j (by omega)
 have h2:=dec_dig j j (Nat.le_refl _)
 have h3:=dec_ne j
 obtain ⟨d,r,e⟩:=List.exists_cons_of_ne_nil h3
 have hsz:(vN (j:Int)).size=1+(Lib.decDigits j).length:=by
  have e:(vN (j:Int)).size=(vN (j:Int)).data.toList.length:=by rw [Array.length_toList];rfl
  rw [e,hl,List.length_cons,Nat.add_comm]
 have hkw:kwB (vN (j:Int))=false:=by
  unfold kwB
  rw [List.any_eq_false]
  intro x hx hq
  have hq:x=vN (j:Int):=by simpa using hq
  refine kw_dig x hx d ?_ (h2 d (by rw [e];exact List.mem_cons_self ..))
  rw [hq,hl,e];rfl
 unfold nameB
 simp only [Bool.and_eq_true,decide_eq_true_eq,hkw,Bool.not_false,and_true]
 refine ⟨⟨by omega,by omega⟩,?_⟩
 rw [List.all_eq_true]
 intro i _
 rw [←Array.getElem?_toList,hl]
 cases i with
 |zero=>show chB 0 ((118:UInt8).toNat:Int)=true;decide
 |succ i =>
  rw [List.getElem?_cons_succ]
  cases hq:(Lib.decDigits j)[i]? with
  |none=>rfl
  |some c =>
   have:=h2 c (List.mem_of_getElem? hq)
   simp [chB]
   right;right;omega
end Go.Proofs.YtcfopdccdeeleaaGreatDoor.PC


namespace Go.Proofs.YtcfopdccdeeleaaGreatDoor.PD
open Go Go.Ev Go.Proofs Go.Proofs.YtcfopdccdeeleaaGreatDoor YM YS YF P1 P2 Y1 Y2 Y3 Y4 Y5 Y9 Y10 Y12 Y14 Y16 YX YZ YA YB PA YC YE YG Q1 Q3 Q4 Q6 PB PC
structure ArgR (c0:Ck) (es:List (ByteArray×Bool)) (L:Int) (s':Scp) (k:Kd) (a:Nd):Prop where
 ex:∃ k',exam c0 s' true a = .ok (some k')∧Sub k' k
 good:GoodN es L a
 kd:kd a.op=101
def RlV (c0:Ck) (es:List (ByteArray×Bool)) (L:Int) (s':Scp) (v:ByteArray):Option Kd→Option IV→Prop
 |none,none=>True
 |none,some _=>False
 |some k,none=>∃ k',lookS v s'=some k'∧Sub k' k
 |some k,some ⟨some a,_,_⟩=>ArgR c0 es L s' k a
 |some k,some ⟨none,_,to⟩=>(∃ k',lookS to s'=some k'∧Sub k' k)∧vLe es L to
structure Rl (c0:Ck) (es:List (ByteArray×Bool)) (L:Int) (body:Bool) (s s':Scp) (env:IEnv):Prop where
 mean:∀ v,v∈s'→means c0.ts v.1=[]
 rel:∀ v,tkn es v→RlV c0 es L s' v (lookS v s) (getK v env)
 arg:body=false→∀ v iv,getK v env=some iv→iv.arg=none
theorem RlV.mono {c0:Ck} {es:List (ByteArray×Bool)} {L L':Int} {s':Scp} {v:ByteArray} {lk:Option Kd} {iv:Option IV} (h:RlV c0 es L s' v lk iv) (hl:L≤L'):RlV c0 es L' s' v lk iv:=by
 match lk,iv with
 |none,none=>exact h
 |none,some _=>exact h
 |some k,none=>exact h
 |some k,some ⟨some a,_,_⟩ =>
  have h:ArgR c0 es L s' k a:=h
  exact (⟨h.ex,h.good.mono hl,h.kd⟩:ArgR c0 es L' s' k a)
 |some k,some ⟨none,_,to⟩=>exact ⟨h.1,h.2.mono hl⟩
theorem Rl.mono {c0:Ck} {es:List (ByteArray×Bool)} {L L':Int} {body:Bool} {s s':Scp} {env:IEnv} (h:Rl c0 es L body s s' env) (hl:L≤L'):Rl c0 es L' body s s' env:=
 ⟨h.mean,fun v hv=>(h.rel v hv).mono hl,h.arg⟩
theorem lookS_mem {nm:ByteArray}:∀{s:Scp} {k:Kd},lookS nm s=some k→(nm,k)∈s
 | [],k,h=>by simp [lookS_nil] at h
 |v :: s,k,h=>by
  rw [lookS_cons] at h
  split at h
  ·rename_i e
   cases h
   rw [←e]
   exact List.mem_cons_self ..
  ·exact List.mem_cons_of_mem _ (lookS_mem h)
theorem Rl.bind {c0:Ck} {es:List (ByteArray×Bool)} {body:Bool} {s s':Scp} {env:IEnv} {st:ISt} {nm:ByteArray} {k k':Kd} (hfr:Free c0.ts es) (hnd:(env.map Prod.fst).Nodup) (h:Rl c0 es st.last body s s' env) (h0:0≤st.last) (hb:st.last+(fuelN c0.ts es:Nat)<1000000000000) (ht:tkn es nm) (hs:Sub k' k) :
  Rl c0 es (renI c0.ts es env nm body st).2.last body ((nm,k) :: s) (((renI c0.ts es env nm body st).1.2,k') :: s') (renI c0.ts es env nm body st).1.1∧st.last≤(renI c0.ts es env nm body st).2.last∧(tkn es (renI c0.ts es env nm body st).1.2∨vLe es (renI c0.ts es env nm body st).2.last (renI c0.ts es env nm body st).1.2):=by
 have hlk:∀ v,lookS v ((nm,k) :: s)=if nm=v then some k else lookS v s:=fun v=>lookS_cons v _ _
 unfold renI
 by_cases hc:body=true∨means c0.ts nm≠[]
 ·rw [if_pos hc]
  have hex:=hfr st.last h0
  have hfree:=freshI_is hex
  have hle:=freshI_le c0.ts es (fuelN c0.ts es) st.last
  have hle2:=freshI_free hex
  generalize freshI c0.ts es (fuelN c0.ts es) st.last=J at *
  obtain ⟨j,rfl⟩:∃ j:Nat,J=j:=⟨J.toNat,by omega⟩
  simp only [freeN,Bool.and_eq_true,decide_eq_true_eq] at hfree
  obtain ⟨f1,f2⟩:=hfree
  have hv:vLe es (j:Int) (vN j):=⟨j,Int.le_refl _,rfl,f1,nameB_vN (by omega)⟩
  have hls:∀ v,v≠vN (j:Int)→lookS v ((vN (j:Int),k') :: s')=lookS v s':=fun v hv=>by
   rw [lookS_cons,if_neg (fun e=>hv e.symm)]
  have hne:∀{v:ByteArray},vLe es st.last v→v≠vN (j:Int):=fun ⟨i,hi,e,_⟩ e2=>by
   rw [e] at e2
   have:=vN_inj e2
   omega
  have hgk:∀ v,getK v (setK nm ⟨none,0,vN (j:Int)⟩ (delK nm env))=if v=nm then some ⟨none,0,vN (j:Int)⟩ else getK v env:=fun v=>by
   rw [getK_set,getK_del hnd]
   split<;>rfl
  refine ⟨⟨fun v hm=>?_,fun v htv=>?_,fun hbf v iv hiv=>?_⟩,by show st.last≤(j:Int);omega,.inr hv⟩
  ·rcases List.mem_cons.1 hm with rfl | hm
   ·exact f2
   ·exact h.mean v hm
  ·show RlV c0 es (j:Int) ((vN (j:Int),k') :: s') v (lookS v ((nm,k) :: s)) (getK v (setK nm ⟨none,0,vN (j:Int)⟩ (delK nm env)))
   rw [hlk,hgk]
   by_cases he:nm=v
   ·rw [if_pos he,if_pos he.symm]
    exact ⟨⟨k',by rw [lookS_cons,if_pos rfl],hs⟩,hv⟩
   ·rw [if_neg he,if_neg (fun e=>he e.symm)]
    have hr:=(h.rel v htv).mono (L':=(j:Int)) (by omega)
    have hr0:=h.rel v htv
    generalize lookS v s=lk at *
    generalize getK v env=iv at *
    match lk,iv with
    |none,none=>trivial
    |none,some _=>exact hr
    |some q,none =>
     obtain ⟨q',e1,e2⟩:=hr
     exact ⟨q',by rw [hls v (fun e=>f1 (e ▸ htv))];exact e1,e2⟩
    |some q,some ⟨some a,_,_⟩ =>
     have hr:ArgR c0 es (j:Int) s' q a:=hr
     have hr0:ArgR c0 es st.last s' q a:=hr0
     refine (⟨?_,hr.good,hr.kd⟩:ArgR c0 es (j:Int) ((vN (j:Int),k') :: s') q a)
     obtain ⟨q',e1,e2⟩:=hr.ex
     refine ⟨q',?_,e2⟩
     rw [←e1]
     refine exam_agree (SameC.refl c0) (szN a) a _ _ true (Nat.le_refl _) fun x hx=>?_
     obtain ⟨y,hy,rfl⟩:=uses_pre hx
     rcases (hr0.good.all y hy).nm with h1 | h1
     ·exact hls _ (fun e=>f1 (e ▸ h1))
     ·exact hls _ (hne h1)
    |some q,some ⟨none,_,to⟩ =>
     obtain ⟨⟨q',e1,e2⟩,e3⟩:=hr
     exact ⟨⟨q',by rw [hls to (hne hr0.2)];exact e1,e2⟩,e3⟩
  ·have hiv:getK v (setK nm ⟨none,0,vN (j:Int)⟩ (delK nm env))=some iv:=hiv
   rw [hgk] at hiv
   split at hiv
   ·cases hiv;rfl
   ·exact h.arg hbf v iv hiv
 ·rw [if_neg hc]
  have hbf:body=false:=by
   cases body with
   |false=>rfl
   |true=>exact absurd (.inl rfl) hc
  have hmn:means c0.ts nm=[]:=by
   by_cases hm:means c0.ts nm=[]
   ·exact hm
   ·exact absurd (.inr hm) hc
  have hls:∀ v,v≠nm→lookS v ((nm,k') :: s')=lookS v s':=fun v hv=>by
   rw [lookS_cons,if_neg (fun e=>hv e.symm)]
  refine ⟨⟨fun v hm=>?_,fun v htv=>?_,fun hbf v iv hiv=>?_⟩,Int.le_refl _,.inl ht⟩
  ·rcases List.mem_cons.1 hm with rfl | hm
   ·exact hmn
   ·exact h.mean v hm
  ·show RlV c0 es st.last ((nm,k') :: s') v (lookS v ((nm,k) :: s)) (getK v (delK nm env))
   rw [hlk,getK_del hnd]
   by_cases he:nm=v
   ·rw [if_pos he,if_pos he.symm]
    exact ⟨k',by rw [lookS_cons,if_pos he],hs⟩
   ·rw [if_neg he,if_neg (fun e=>he e.symm)]
    have hr:=h.rel v htv
    have harg:=h.arg hbf v
    generalize lookS v s=lk at *
    generalize getK v env=iv at *
    match lk,iv with
    |none,none=>trivial
    |none,some _=>exact hr
    |some q,none =>
     obtain ⟨q',e1,e2⟩:=hr
     exact ⟨q',by rw [hls v (fun e=>he e.symm)];exact e1,e2⟩
    |some q,some ⟨some a,_,_⟩=>exact absurd (harg _ rfl) (by simp)
    |some q,some ⟨none,_,to⟩ =>
     obtain ⟨⟨q',e1,e2⟩,e3⟩:=hr
     refine ⟨⟨q',?_,e2⟩,e3⟩
     rw [hls to fun e=>?_]
     ·exact e1
     ·obtain ⟨_,_,_,hn,_⟩:=e3
      exact hn (e ▸ ht)
  ·have hiv:getK v (delK nm env)=some iv:=hiv
   rw [getK_del hnd] at hiv
   split at hiv
   ·cases hiv
   ·exact h.arg hbf v iv hiv
structure Out (c0:Ck) (es:List (ByteArray×Bool)) (s':Scp) (inn:Bool) (n n':Nd) (ko:Option Kd) (L L':Int):Prop where
 ex:∃ ko',exam c0 s' inn n' = .ok ko'∧(kd n.op=101→∃ k k',ko=some k∧ko'=some k'∧Sub k' k)
 good:GoodN es L' n'
 kd:kd n'.op=kd n.op
 le:L≤L'
def Pt (es:List (ByteArray×Bool)) (L:Int):List Nd→List Nd→List (Option Kd)→List (Option Kd)→Prop
 | [],[],[],[]=>True
 |k :: ks,k' :: ks',a :: l,a' :: l'=>((kd k.op=101→∃ q q',a=some q∧a'=some q'∧Sub q' q)∧kd k'.op=kd k.op∧GoodN es L k')∧Pt es L ks ks' l l'
 |_,_,_,_=>False
theorem Pt.spec {es:List (ByteArray×Bool)} {L:Int}:∀{ks ks':List Nd} {l l':List (Option Kd)},Pt es L ks ks' l l'→(ks'.map fun k=>kd k.op)=(ks.map fun k=>kd k.op)∧∀ k,k∈ks'→GoodN es L k
 | [],[],[],[],_=>⟨rfl,fun k hk=>absurd hk List.not_mem_nil⟩
 |k :: ks,k' :: ks',a :: l,a' :: l',h=>by
  obtain ⟨⟨h1,h2,h3⟩,h4⟩:=h
  obtain ⟨i1,i2⟩:=Pt.spec h4
  refine ⟨by rw [List.map_cons,List.map_cons,h2,i1],fun x hx=>?_⟩
  rcases List.mem_cons.1 hx with rfl | hx
  ·exact h3
  ·exact i2 x hx
theorem Pt.cons {es:List (ByteArray×Bool)} {L:Int} {k:Nd} {ks ks':List Nd} {l l':List (Option Kd)} (h:Pt es L (k :: ks) ks' l l'):∃ k' ks2 a l2 a' l2',ks'=k' :: ks2∧l=a :: l2∧l'=a' :: l2'∧(kd k.op=101→∃ q q',a=some q∧a'=some q'∧Sub q' q)∧Pt es L ks ks2 l2 l2':=by
 cases ks' with
 |nil=>cases l<;>cases l'<;>exact h.elim
 |cons k' ks2 =>
  cases l with
  |nil=>cases l'<;>exact h.elim
  |cons a l2 =>
   cases l' with
   |nil=>exact h.elim
   |cons a' l2'=>exact ⟨k',ks2,a,l2,a',l2',rfl,rfl,rfl,h.1.1,h.2⟩
theorem Pt.nil {es:List (ByteArray×Bool)} {L:Int} {ks':List Nd} {l l':List (Option Kd)} (h:Pt es L [] ks' l l'):l=[]∧l'=[]:=by
 cases ks' with
 |nil =>
  cases l with
  |nil=>cases l' with
   |nil=>exact ⟨rfl,rfl⟩
   |cons a l=>exact h.elim
  |cons a l=>cases l'<;>exact h.elim
 |cons k ks=>cases l<;>cases l'<;>exact h.elim
theorem Pt.one {es:List (ByteArray×Bool)} {L:Int} {ks ks':List Nd} {l l':List (Option Kd)} (h:Pt es L ks ks' l l') (hk:(ks.map fun k=>kd k.op)=[101]):∃ a a',l=[some a]∧l'=[some a']∧Sub a' a:=by
 match ks,hk with
 | [k],hk =>
  obtain ⟨k',ks2,a,l2,a',l2',rfl,rfl,rfl,h1,h2⟩:=h.cons
  obtain ⟨rfl,rfl⟩:=h2.nil
  obtain ⟨q,q',rfl,rfl,e⟩:=h1 (by simpa using hk)
  exact ⟨q,q',rfl,rfl,e⟩
 | [],hk=>simp at hk
 |_ :: _ :: _,hk=>simp at hk
theorem Pt.two {es:List (ByteArray×Bool)} {L:Int} {ks ks':List Nd} {l l':List (Option Kd)} (h:Pt es L ks ks' l l') (hk:(ks.map fun k=>kd k.op)=[101,101]):∃ a b a' b',l=[some a,some b]∧l'=[some a',some b']∧Sub a' a∧Sub b' b:=by
 match ks,hk with
 | [k,j],hk =>
  have hk:kd k.op=101∧kd j.op=101:=by simpa using hk
  obtain ⟨k',ks2,a,l2,a',l2',rfl,rfl,rfl,h1,h2⟩:=h.cons
  obtain ⟨_,_,b,l3,b',l3',rfl,rfl,rfl,h3,h4⟩:=h2.cons
  obtain ⟨rfl,rfl⟩:=h4.nil
  obtain ⟨q,q',rfl,rfl,e⟩:=h1 hk.1
  obtain ⟨p,p',rfl,rfl,e2⟩:=h3 hk.2
  exact ⟨q,p,q',p',rfl,rfl,e,e2⟩
 | [],hk=>simp at hk
 | [_],hk=>simp at hk
 |_ :: _ :: _ :: _,hk=>simp at hk
theorem kids_ok {c c0:Ck} {es:List (ByteArray×Bool)} {F:Nat} {body inn:Bool} {s s':Scp} {env:IEnv} {E:IEnv→Nd→ISt→XR (Nd×Int)} {R:IEnv→ByteArray→ISt→(IEnv×ByteArray)×ISt} :
  ∀{ks:List Nd} {i:Nat} {nm nm':ByteArray} {st st':ISt} {ks':List Nd} {m':Int} {l:List (Option Kd)},
  (∀ k,k∈ks→∀ st n' z st' ko,StOk F st→Rl c0 es st.last body s s' env→E env k st = .ok ((n',z),st')→exam c s inn k = .ok ko→Out c0 es s' inn k n' ko st.last st'.last∧StOk F st') →
  StOk F st→Rl c0 es st.last body s s' env→expKs E R false i env nm ks st = .ok ((nm',ks',m'),st')→examL c s inn ks = .ok l →
  nm'=nm∧st.last≤st'.last∧∃ l',examL c0 s' inn ks' = .ok l'∧Pt es st'.last ks ks' l l'
 | [],i,nm,nm',st,st',ks',m',l,_,hst,hr,e,el=>by
  cases e
  simp only [examL,Except.ok.injEq] at el
  subst el
  exact ⟨rfl,Int.le_refl _,[],by simp only [examL],trivial⟩
 |k :: ks,i,nm,nm',st,st',ks',m',l,hE,hst,hr,e,el=>by
  simp only [expKs,Bool.false_eq_true,false_and,if_false] at e
  simp only [examL] at el
  split at e
  ·cases e
  ·rename_i k' m1 s1 h1
   cases hx:exam c s inn k with
   |error er=>rw [hx] at el;cases el
   |ok ko =>
    rw [hx] at el
    simp only at el
    obtain ⟨ho,hst1⟩:=hE k (List.mem_cons_self ..) st k' m1 s1 ko hst hr h1 hx
    cases hxl:examL c s inn ks with
    |error er=>rw [hxl] at el;cases el
    |ok l1 =>
     rw [hxl] at el
     cases el
     split at e
     ·cases e
     ·rename_i nm2 ks2 m2 s2 h2
      obtain ⟨e1,e2,l',e3,e4⟩:=kids_ok (fun k hk=>hE k (List.mem_cons_of_mem _ hk)) hst1 (hr.mono ho.le) h2 hxl
      cases e
      obtain ⟨ko',x1,x2⟩:=ho.ex
      refine ⟨e1,by have:=ho.le;omega,ko' :: l',?_,⟨⟨x2,ho.kd,ho.good.mono e2⟩,e4⟩⟩
      simp only [examL]
      rw [x1,e3]
theorem time_not {c:Ck} {op:Int} {nm:ByteArray} (h:op≠47):timeOfL c op nm=timeOp op:=by
 simp [timeOfL,h]
theorem GoodN.node {es:List (ByteArray×Bool)} {L:Int} {n:Nd} {nm:ByteArray} {ks:List Nd} (hw:WfN n) (hk:(ks.map fun k=>kd k.op)=(n.kids.map fun k=>kd k.op)) (hg:∀ k,k∈ks→GoodN es L k) (h47:n.op≠47) (ho:ownB n=true)
  (hn:nm=n.name∧tkn es nm∨vLe es L nm∧nameB n.name=true):GoodN es L (.mk n.op nm n.n ks n.pos):=by
 have hlen:ks.length=n.kids.length:=by have:=congrArg List.length hk;simpa using this
 have hnb:nameB nm=nameB n.name∧(nm=⟨#[]⟩↔n.name=⟨#[]⟩):=by
  rcases hn with ⟨rfl,_⟩ | ⟨h1,h2⟩
  ·exact ⟨rfl,Iff.rfl⟩
  ·obtain ⟨j,_,_,_,hv⟩:=h1
   refine ⟨hv.trans h2.symm,fun e=>?_,fun e=>?_⟩
   ·rw [e] at hv;exact absurd hv (by decide)
   ·rw [e] at h2;exact absurd h2 (by decide)
 refine ⟨.mk _ ?_ (fun h=>?_) fun k hk=>(hg k hk).wf,fun x hx=>?_⟩
 ·show shp n.op ks.length=some (ks.map fun k=>kd k.op)
  rw [hlen,hk]
  exact hw.shape
 ·exact hw.num h
 ·rw [preN_eq] at hx
  rcases List.mem_cons.1 hx with rfl | hx
  ·refine ⟨h47,?_,?_⟩
   ·unfold ownB at ho ⊢
    show (if namedB n.op=nameB nm∧(namedB n.op=true∨nm=⟨#[]⟩) then numB n.op n.n else false)=true
    split at ho
    ·rename_i hc
     rw [if_pos ⟨by rw [hnb.1];exact hc.1,hc.2.imp id hnb.2.2⟩]
     exact ho
    ·cases ho
   ·rcases hn with ⟨_,h⟩ | ⟨h,_⟩
    ·exact .inl h
    ·exact .inr h
  ·obtain ⟨k,hk,hx⟩:=mem_preNs hx
   exact (hg k hk).all x hx
end Go.Proofs.YtcfopdccdeeleaaGreatDoor.PD


namespace Go.Proofs.YtcfopdccdeeleaaGreatDoor.PE
open Go Go.Ev Go.Proofs Go.Proofs.YtcfopdccdeeleaaGreatDoor YM YS YF P1 P2 Y1 Y2 Y3 Y4 Y5 Y9 Y10 Y12 Y13 Y14 Y16 YX YZ YA YB PA YC YE YG Q1 Q3 Q4 Q6 PB PC PD
theorem exam_name {c:Ck} {s:Scp} {inn:Bool} {n:Nd} (h:n.op=1):exam c s inn n=nameK c s n.name n.pos:=by
 rw [exam_eq,time_not (by omega),h,show timeOp 1=false from rfl,Bool.and_false,if_neg (by simp),if_pos rfl]
theorem inn_of {c:Ck} {s:Scp} {inn:Bool} {n:Nd} {k:Option Kd} (h:exam c s true n = .ok k):exam c s inn n = .ok k:=by
 cases inn with
 |true=>exact h
 |false=>exact exam_inn c (szN n) n s k (Nat.le_refl _) h
theorem no_kids {n:Nd} (hw:WfN n) (h:n.op=1):n.kids=[]:=by
 have hs:=hw.shape
 unfold shp at hs
 rw [if_pos (.inl h)] at hs
 simp only [Option.some.injEq] at hs
 exact List.map_eq_nil_iff.1 hs.symm
theorem good_leaf {es:List (ByteArray×Bool)} {L:Int} {n:Nd} (hw:WfN n) (h:n.op=1) (ht:tkn es n.name) (ho:ownB n=true):GoodN es L n:=
 ⟨hw,fun x hx=>by
  rw [preN_eq,no_kids hw h] at hx
  simp [preNs] at hx
  subst hx
  exact ⟨by omega,ho,.inl ht⟩⟩
theorem own_named {n:Nd} (ho:ownB n=true) (h:namedB n.op=true):nameB n.name=true:=by
 unfold ownB at ho
 split at ho
 ·rename_i hh;rw [←hh.1];exact h
 ·cases ho
theorem leaf_ok {c c0:Ck} {es:List (ByteArray×Bool)} {body inn:Bool} {s s':Scp} {env:IEnv} {n n':Nd} {z:Int} {st st':ISt} {ko:Option Kd} (hts:c.ts=c0.ts) (h1:n.op=1) (hw:WfN n) (ht:tkn es n.name) (ho:ownB n=true) (hr:Rl c0 es st.last body s s' env)
  (e:replI env n st = .ok ((n',z),st')) (x:exam c s inn n = .ok ko):Out c0 es s' inn n n' ko st.last st'.last:=by
 rw [exam_name h1,nameK_eq] at x
 have hv:=hr.rel n.name ht
 unfold replI at e
 cases hg:getK n.name env with
 |none =>
  rw [hg] at e hv
  cases e
  cases hl:lookS n.name s with
  |some k =>
   rw [hl] at hv x
   obtain ⟨k',e1,e2⟩:=hv
   cases x
   exact ⟨⟨some k',by rw [exam_name h1,nameK_eq,e1],fun _=>⟨_,_,rfl,rfl,e2⟩⟩,good_leaf hw h1 ht ho,rfl,Int.le_refl _⟩
  |none =>
   rw [hl] at x
   simp only at x
   have hq:lookS n.name s'=none:=by
    cases hq:lookS n.name s' with
    |none=>rfl
    |some q =>
     have:=hr.mean _ (lookS_mem hq)
     rw [hts,this] at x
     cases x
   refine ⟨⟨ko,by rw [exam_name h1,nameK_eq,hq,←hts];exact x,fun _=>?_⟩,good_leaf hw h1 ht ho,rfl,Int.le_refl _⟩
   split at x
   ·cases x
   ·cases x;exact ⟨_,_,rfl,rfl,Sub.refl _⟩
   ·cases x
 |some iv =>
  obtain ⟨a,sz,to⟩:=iv
  rw [hg] at e hv
  simp only at e
  cases hl:lookS n.name s with
  |none=>rw [hl] at hv;exact hv.elim
  |some k =>
   rw [hl] at hv x
   cases x
   cases a with
   |none =>
    cases e
    obtain ⟨⟨k',e1,e2⟩,e3⟩:=hv
    refine ⟨⟨some k',by rw [exam_name (n := .mk n.op to n.n n.kids n.pos) h1,nameK_eq];show (match lookS to s' with | some k=>_ | none=>_)=_;rw [e1],fun _=>⟨_,_,rfl,rfl,e2⟩⟩,?_,rfl,Int.le_refl _⟩
    refine GoodN.node hw rfl (fun k hk=>?_) (by omega) ho (.inr ⟨e3,own_named ho (by rw [h1];rfl)⟩)
    rw [no_kids hw h1] at hk
    exact absurd hk List.not_mem_nil
   |some a =>
    simp only at e
    have hv:ArgR c0 es st.last s' k a:=hv
    obtain ⟨k',e1,e2⟩:=hv.ex
    split at e
    ·cases e
     exact ⟨⟨some k',inn_of e1,fun _=>⟨_,_,rfl,rfl,e2⟩⟩,hv.good,by rw [hv.kd,h1];rfl,Int.le_refl _⟩
    ·cases e
def OwnV (c0:Ck) (es:List (ByteArray×Bool)) (L:Int) (s':Scp):Option Kd→Option IV→Prop
 |none,none=>True
 |some k,some ⟨some a,_,_⟩=>ArgR c0 es L s' k a
 |_,_=>False
theorem OwnV.mono {c0:Ck} {es:List (ByteArray×Bool)} {L L':Int} {s':Scp} {lk:Option Kd} {iv:Option IV} (h:OwnV c0 es L s' lk iv) (hl:L≤L'):OwnV c0 es L' s' lk iv:=by
 match lk,iv with
 |none,none=>exact h
 |none,some _=>exact h.elim
 |some k,none=>exact h.elim
 |some k,some ⟨some a,_,_⟩ =>
  have h:ArgR c0 es L s' k a:=h
  exact (⟨h.ex,h.good.mono hl,h.kd⟩:ArgR c0 es L' s' k a)
 |some k,some ⟨none,_,to⟩=>exact h.elim
theorem arg_sub {ns:Nat} {i:Int} {a:Kd} (h:okKd ns a) (h1:a.ar=1) (ho:argOk i a=true):Sub a (kOf [i]):=⟨by rw [h1];rfl,fun t ht=>by
 obtain ⟨l,rfl,hl,_⟩:=h.ts t ht
 rw [h1] at hl
 match l,hl with
 | [y],_ =>
  have:=List.all_eq_true.1 ho _ ht
  simp [pad] at this
  subst this
  exact List.mem_singleton.2 rfl⟩
theorem args_ok {c c0:Ck} {ns:Nat} {es:List (ByteArray×Bool)} {F:Nat} {body:Bool} {s s':Scp} {env:IEnv} {pos:Int} {E:Nd→ISt→XR (Nd×Int)} {ko:Option Kd} :
  ∀{ks:List Nd} {ps:List (ByteArray×Int)} {own own':IEnv} {sc:Scp} {st st':ISt},
  (∀ k,k∈ks→∀ st n' z st' ko,StOk F st→Rl c0 es st.last body s s' env→E k st = .ok ((n',z),st')→exam c s true k = .ok ko→Out c0 es s' true k n' ko st.last st'.last∧StOk F st') →
  (∀ k,k∈ks→kd k.op=101)→(∀ k,k∈ks→∀ a,exam c s true k = .ok (some a)→okKd ns a)→StOk F st→Rl c0 es st.last body s s' env →
  (∀ v,OwnV c0 es st.last s' (lookS v sc) (getK v own))→ps.length=ks.length→examA c s pos ps ks = .ok ko→expAs E ps ks own st = .ok (own',st') →
  st.last≤st'.last∧∀ v,OwnV c0 es st'.last s' (lookS v (ps.foldl (fun s p=>(p.1,kOf [p.2]) :: s) sc)) (getK v own')
 | [],[],own,own',sc,st,st',_,_,_,_,_,ho,_,_,e=>by
  cases e
  exact ⟨Int.le_refl _,ho⟩
 |k :: ks,p :: ps,own,own',sc,st,st',hE,hk,hok,hst,hr,ho,hl,x,e=>by
  simp only [examA] at x
  simp only [expAs] at e
  cases hx:exam c s true k with
  |error er=>rw [hx] at x;cases x
  |ok ka =>
   cases ka with
   |none=>rw [hx] at x;cases x
   |some a =>
    rw [hx] at x
    simp only at x
    by_cases har:a.ar=1
    ·rw [if_pos har] at x
     by_cases hao:argOk p.2 a=true
     ·rw [if_pos hao] at x
      split at e
      ·cases e
      ·rename_i k' m s1 h1
       obtain ⟨out,hst1⟩:=hE k (List.mem_cons_self ..) st k' m s1 _ hst hr h1 hx
       obtain ⟨ko',x1,x2⟩:=out.ex
       have hk1:=hk k (List.mem_cons_self ..)
       obtain ⟨q,q',y1,y2,y3⟩:=x2 hk1
       cases y1
       subst y2
       have hs:=y3.trans (arg_sub (hok k (List.mem_cons_self ..) a hx) har hao)
       have harg:ArgR c0 es s1.last s' (kOf [p.2]) k':=⟨⟨q',x1,hs⟩,out.good,by rw [out.kd];exact hk1⟩
       have hown:∀ v,OwnV c0 es s1.last s' (lookS v ((p.1,kOf [p.2]) :: sc)) (getK v (setK p.1 ⟨some k',m,⟨#[]⟩⟩ own)):=fun v=>by
        rw [lookS_cons,getK_set]
        by_cases hv:p.1=v
        ·rw [if_pos hv,if_pos hv.symm]
         exact harg
        ·rw [if_neg hv,if_neg (fun e=>hv e.symm)]
         exact (ho v).mono out.le
       obtain ⟨r1,r2⟩:=args_ok (sc:=(p.1,kOf [p.2]) :: sc) (fun k hk=>hE k (List.mem_cons_of_mem _ hk)) (fun k h=>hk k (List.mem_cons_of_mem _ h)) (fun k h=>hok k (List.mem_cons_of_mem _ h)) hst1 (hr.mono out.le) hown (by simpa using hl) x e
       exact ⟨by have:=out.le;omega,r2⟩
     ·rw [if_neg hao] at x;cases x
    ·rw [if_neg har] at x;cases x
 | [],_ :: _,_,_,_,_,_,_,_,_,_,_,_,hl,_,_=>by simp at hl
 |_ :: _,[],_,_,_,_,_,_,_,_,_,_,_,hl,_,_=>by simp at hl
def PredsOk (ts:TS) (es:List (ByteArray×Bool)):Prop:=∀(i:Nat) (hi:i<ts.preds.length),(∃ ko,exam (mkCk ts i) (bindL ts.preds[i].params) false ts.preds[i].body = .ok ko)∧30≤ts.preds[i].body.op∧WfN ts.preds[i].body∧Tk es ts.preds[i].body∧OwnT ts.preds[i].body
abbrev ckF (ts:TS):Ck:=mkCk ts ts.preds.length
def IHx (ts:TS) (es:List (ByteArray×Bool)) (f:Nat):Prop:=∀(env:IEnv) (n:Nd) (body:Bool) (st:ISt) (n':Nd) (z:Int) (st':ISt) (s s':Scp) (inn:Bool) (m:Nat) (ko:Option Kd),
 m≤ts.preds.length→WfN n→Tk es n→OwnT n→ScOk ts.sorts.length s→StOk (fuelN ts es) st→EnvOk env→Rl (ckF ts) es st.last body s s' env →
 expI ts es f env n body st = .ok ((n',z),st')→exam (mkCk ts m) s inn n = .ok ko→Out (ckF ts) es s' inn n n' ko st.last st'.last
theorem kd_form {n:Nd} (hw:WfN n) (h:30≤n.op):kd n.op=102:=by
 have hs:=hw.shape
 have:n.op≤51:=by
  by_cases hh:n.op≤51
  ·exact hh
  ·exfalso
   unfold shp at hs
   rw [if_neg (by omega),if_neg (by omega),if_neg (by omega),if_neg (by omega),if_neg (by omega),if_neg (by omega),if_neg (by omega),if_neg (by omega)] at hs
   cases hs
 unfold kd
 rw [if_neg (by omega),if_neg (by omega),if_pos ⟨h,this⟩]
theorem kids_call {n:Nd} (hw:WfN n) (h:n.op=47):∀ k,k∈n.kids→kd k.op=101:=by
 have hsh:=hw.shape
 have e:shp n.op n.kids.length=some (List.replicate (min n.kids.length 401) 101):=by
  unfold shp
  rw [if_neg (by omega),if_neg (by omega),if_neg (by omega),if_neg (by omega),if_neg (by omega),if_neg (by omega),if_neg (by omega),if_pos h]
 rw [e] at hsh
 simp only [Option.some.injEq] at hsh
 intro k hk
 have:kd k.op∈n.kids.map fun k=>kd k.op:=List.mem_map.2 ⟨k,hk,rfl⟩
 rw [←hsh] at this
 exact List.eq_of_mem_replicate this
theorem call_ok (ts:TS) (h:okTS ts) (es:List (ByteArray×Bool)) (hP:PredsOk ts es) (hfr:Free ts es) (f:Nat) (ih:IHx ts es f) (env:IEnv) (n:Nd) (body:Bool) (st:ISt) (n':Nd) (z:Int) (st':ISt) (s s':Scp) (inn:Bool) (m:Nat) (ko:Option Kd)
  (hm:m≤ts.preds.length) (hw:WfN n) (ht:Tk es n) (ho:OwnT n) (hs:ScOk ts.sorts.length s) (hst:StOk (fuelN ts es) st) (hev:EnvOk env) (hr:Rl (ckF ts) es st.last body s s' env) (h47:n.op=47)
  (e:((match ts.preds.find? fun p=>decide (p.name=n.name) with
    |none=>Except.error (2,0)
    |some p=>bindX (expAs (fun k s=>expI ts es f env k body s) p.params n.kids [] st) fun own s'=>expI ts es f own p.body true s'):XR (Nd×Int)) = .ok ((n',z),st'))
  (x:exam (mkCk ts m) s inn n = .ok ko):Out (ckF ts) es s' inn n n' ko st.last st'.last:=by
 have hc:okCk (mkCk ts m):=okCk_mk h hm
 rw [exam_eq,if_neg (show ¬n.op=1 by omega),if_pos h47] at x
 split at x
 ·cases x
 rename_i htime
 split at x
 ·cases hcal:calleeL (mkCk ts m) n.name with
  |none=>rw [hcal] at x;cases x
  |some i =>
   obtain ⟨hp1,hp2⟩:=calleeL_lt hc hcal
   have hp1:i<m:=hp1
   have hp2:i<ts.preds.length:=hp2
   rw [hcal] at x
   simp only at x
   have x:((match ts.preds[i]? with | none=>Except.error (45,n.pos) | some pd=>if pd.params.length=n.kids.length then examA (mkCk ts m) s n.pos pd.params n.kids else .error (45,n.pos)):Res) = .ok ko:=x
   rw [List.getElem?_eq_getElem hp2] at x
   simp only at x
   have hfind:(ts.preds.find? fun p=>decide (p.name=n.name))=some ts.preds[i]:=by
    unfold calleeL at hcal
    rw [List.findIdx?_eq_some_iff_getElem] at hcal
    obtain ⟨hi,a1,a2⟩:=hcal
    rw [List.find?_eq_some_iff_getElem]
    refine ⟨?_,i,hp2,rfl,fun j hj=>?_⟩
    ·have:=a1
     simp only [List.getElem_take] at this
     exact this
    ·have:=a2 j hj
     simp only [List.getElem_take] at this
     have h3:¬decide (ts.preds[j].name=n.name)=true:=this
     simpa using h3
   rw [hfind] at e
   simp only at e
   obtain ⟨⟨kb,hb⟩,hb30,hbw,hbt,hbo⟩:=hP i hp2
   have hpl:=h.pl _ (List.getElem_mem hp2)
   generalize hpp:ts.preds[i]=pd at *
   by_cases hlen:pd.params.length=n.kids.length
   ·rw [if_pos hlen] at x
    obtain ⟨own,s1,h1,e⟩:=bindX_ok e
    have hkd:=kids_call hw h47
    have hEgo:∀ k,k∈n.kids→∀ st n' z st',StOk (fuelN ts es) st→expI ts es f env k body st = .ok ((n',z),st')→StOk (fuelN ts es) st':=fun k hk st n' z st' hst e=>(expI_go ts hfr f hst hev e).ok hst
    obtain ⟨g1,g2⟩:=args_ok (c:=mkCk ts m) (c0:=ckF ts) (ns:=ts.sorts.length) (F:=fuelN ts es) (body:=body) (s:=s) (s':=s') (env:=env) (sc:=[]) (own:=[])
     (fun k hk st n' z st' ko hst hr e x=>⟨ih env k body st n' z st' s s' true m ko hm (hw.kid hk) (ht.kid hk) (ho.kid hk) hs hst hev hr e x,hEgo k hk st n' z st' hst e⟩)
     hkd (fun k hk a hx=>by
      obtain ⟨q,e1,e2⟩:=exam_ok hc (szN k) k s true _ (Nat.le_refl _) (hw.kid hk) hs hx (hkd k hk)
      cases e1;exact e2)
     hst hr (fun v=>trivial) hlen x h1
    obtain ⟨hown,gos⟩:=expAs_go (F:=fuelN ts es) (fun k n' z s s' _ hs hE=>expI_go ts hfr f hs hev hE) hst .nil h1
    have hst1:=gos.ok hst
    have hrB:Rl (ckF ts) es s1.last true (bindL pd.params) s' own:=⟨hr.mean,fun v hv=>by
     have:=g2 v
     have:OwnV (ckF ts) es s1.last s' (lookS v (bindL pd.params)) (getK v own):=this
     generalize lookS v (bindL pd.params)=lk at *
     generalize getK v own=iv at *
     match lk,iv with
     |none,none=>trivial
     |some k,some ⟨some a,_,_⟩=>exact this
     |none,some _=>exact this.elim
     |some k,none=>exact this.elim
     |some k,some ⟨none,_,_⟩=>exact this.elim,fun hbf=>by cases hbf⟩
    have hscb:ScOk ts.sorts.length (bindL pd.params):=scOk_bind ⟨by omega,hpl.2⟩
    have hxb:exam (mkCk ts i) (bindL pd.params) inn pd.body = .ok kb:=by
     cases hinn:inn with
     |false=>exact hb
     |true =>
      rw [←hb]
      refine exam_time _ (szN pd.body) pd.body _ _ _ (Nat.le_refl _) ?_
      rw [hinn] at htime
      have htt:timeOfL (mkCk ts m) n.op n.name=false:=by simpa using htime
      unfold timeOfL at htt
      rw [hcal,h47] at htt
      have:=tms_get ts i m hp1 hm hp2
      rw [hpp] at this
      rw [←this]
      have htt2:(timeOp 47||(decide ((47:Int)=47)&&(tmsL ts m).getD i false))=false:=htt
      simpa using (Bool.or_eq_false_iff.1 htt2).2
    have out:=ih own pd.body true s1 n' z st' (bindL pd.params) s' inn i kb (by omega) hbw hbt hbo hscb hst1 hown hrB e hxb
    obtain ⟨ko',x1,_⟩:=out.ex
    refine ⟨⟨ko',x1,fun hk=>?_⟩,out.good,?_,by have:=out.le;omega⟩
    ·rw [h47] at hk;exact absurd hk (by decide)
    ·rw [out.kd,kd_form hbw hb30,h47];rfl
   ·rw [if_neg hlen] at x;cases x
 ·cases x
theorem shp_one {n:Nd} (hw:WfN n) (h:n.op=5∨n.op=11∨n.op=12∨n.op=13):(n.kids.map fun k=>kd k.op)=[101]:=by
 have hs:=hw.shape
 unfold shp at hs
 rw [if_neg (by omega),if_pos (by omega)] at hs
 simp only [Option.some.injEq] at hs
 exact hs.symm
theorem shp_two {n:Nd} (hw:WfN n) (h:n.op=6∨n.op=14∨n.op=7∨n.op=8∨n.op=32∨n.op=33∨n.op=9∨n.op=10):(n.kids.map fun k=>kd k.op)=[101,101]:=by
 have hs:=hw.shape
 unfold shp at hs
 rw [if_neg (by omega),if_neg (by omega),if_pos (by omega)] at hs
 simp only [Option.some.injEq] at hs
 exact hs.symm
theorem shp_bind {n:Nd} (hw:WfN n) (h:n.op=15∨n.op=45∨n.op=46):∃ a f,n.kids=[a,f]∧kd a.op=101:=by
 have hs:=hw.shape
 unfold shp at hs
 rw [if_neg (by omega),if_neg (by omega),if_neg (by omega),if_pos (by omega)] at hs
 simp only [Option.some.injEq] at hs
 match hk:n.kids,hs with
 | [a,f],hs =>
  simp at hs
  exact ⟨a,f,rfl,hs.1.symm⟩
 | [],hs=>simp at hs
 | [_],hs=>simp at hs
 |_ :: _ :: _ :: _,hs=>simp at hs
theorem node_ok (ts:TS) (h:okTS ts) (es:List (ByteArray×Bool)) (hfr:Free ts es) (f:Nat) (ih:IHx ts es f) (env:IEnv) (n:Nd) (body:Bool) (st:ISt) (nm':ByteArray) (ks':List Nd) (z:Int) (st':ISt) (s s':Scp) (inn:Bool) (m:Nat) (ko:Option Kd)
  (hm:m≤ts.preds.length) (hw:WfN n) (ht:Tk es n) (ho:OwnT n) (hs:ScOk ts.sorts.length s) (hst:StOk (fuelN ts es) st) (hev:EnvOk env) (hr:Rl (ckF ts) es st.last body s s' env) (h47:n.op≠47) (h1:n.op≠1) (hb:¬(n.op=15∨n.op=45∨n.op=46))
  (e:expKs (fun env k s=>expI ts es f env k body s) (fun env nm s=>renI ts es env nm body s) (binB n.op) 0 env n.name n.kids st = .ok ((nm',ks',z),st'))
  (x:exam (mkCk ts m) s inn n = .ok ko):Out (ckF ts) es s' inn n (.mk n.op nm' n.n ks' n.pos) ko st.last st'.last:=by
 have hc:okCk (mkCk ts m):=okCk_mk h hm
 have hbb:binB n.op=false:=by
  unfold binB
  simp only [not_or] at hb
  simp [hb]
 rw [hbb] at e
 rw [exam_eq,time_not h47,if_neg h1,if_neg h47,if_neg hb] at x
 split at x
 ·cases x
 rename_i htime
 have hx2:=x
 clear x
 generalize hB:(inn||decide (n.op=12)||decide (n.op=13))=B at hx2
 cases hl:examL (mkCk ts m) s B n.kids with
 |error er=>rw [hl] at hx2;cases hx2
 |ok l =>
  rw [hl] at hx2
  simp only at hx2
  obtain ⟨rfl,hle,l',hl',hpt⟩:=kids_ok (c:=mkCk ts m) (c0:=ckF ts) (F:=fuelN ts es) (body:=body) (s:=s) (s':=s') (env:=env)
   (fun k hk st n' z st' ko hst hr e x=>⟨ih env k body st n' z st' s s' B m ko hm (hw.kid hk) (ht.kid hk) (ho.kid hk) hs hst hev hr e x,(expI_go ts hfr f hst hev e).ok hst⟩) hst hr e hl
  obtain ⟨hkds,hgood⟩:=hpt.spec
  have hll:=examL_ok hl
  obtain ⟨ko',y1,y2⟩:=apply_mono (ns:=ts.sorts.length) h.ns (op:=n.op) (num:=n.n) (pos:=n.pos) (l:=l) (l':=l') h1 (fun e=>hb (.inl e)) (fun g=>by
    obtain ⟨a,a',rfl,rfl,e3⟩:=hpt.one (shp_one hw g)
    refine ⟨a,a',rfl,rfl,e3,?_⟩
    have hk1:=shp_one hw g
    match hks:n.kids,hk1 with
    | [k],hk1 =>
     rw [hks] at hll
     have hx:=hll.2 0 k (some a) rfl rfl
     obtain ⟨q,e1,e2⟩:=exam_ok hc (szN k) k s B _ (Nat.le_refl _) (hw.kid (by rw [hks];simp)) hs hx (by simpa using hk1)
     cases e1;exact e2
    | [],hk1=>simp at hk1
    |_ :: _ :: _,hk1=>simp at hk1)
   (fun g=>hpt.two (shp_two hw g)) hx2
  refine ⟨⟨ko',?_,y2⟩,GoodN.node hw hkds hgood h47 (ho n (preN_self n)) (.inl ⟨rfl,ht n (preN_self n)⟩),rfl,hle⟩
  rw [exam_eq]
  show (if (inn&&timeOfL (ckF ts) n.op n.name)=true then _ else if n.op=1 then _ else if n.op=47 then _ else if n.op=15∨n.op=45∨n.op=46 then _ else match examL (ckF ts) s' (inn||decide (n.op=12)||decide (n.op=13)) ks' with | .error e=>_ | .ok l=>applyK ts.sorts.length n.op n.n n.pos l)=_
  rw [time_not h47,if_neg htime,if_neg h1,if_neg h47,if_neg hb,hB,hl']
  exact y1
theorem binder_ok (ts:TS) (h:okTS ts) (es:List (ByteArray×Bool)) (hF:fuelN ts es≤200000) (hfr:Free ts es) (f:Nat) (ih:IHx ts es f) (env:IEnv) (n:Nd) (body:Bool) (st:ISt) (nm':ByteArray) (ks':List Nd) (z:Int) (st':ISt) (s s':Scp) (inn:Bool) (m:Nat) (ko:Option Kd)
  (hm:m≤ts.preds.length) (hw:WfN n) (ht:Tk es n) (ho:OwnT n) (hs:ScOk ts.sorts.length s) (hst:StOk (fuelN ts es) st) (hpot:(fuelN ts es:Nat)≤pot (fuelN ts es) st) (hev:EnvOk env) (hr:Rl (ckF ts) es st.last body s s' env) (hb:n.op=15∨n.op=45∨n.op=46)
  (e:expKs (fun env k s=>expI ts es f env k body s) (fun env nm s=>renI ts es env nm body s) (binB n.op) 0 env n.name n.kids st = .ok ((nm',ks',z),st'))
  (x:exam (mkCk ts m) s inn n = .ok ko):Out (ckF ts) es s' inn n (.mk n.op nm' n.n ks' n.pos) ko st.last st'.last:=by
 have hc:okCk (mkCk ts m):=okCk_mk h hm
 have hbb:binB n.op=true:=by
  unfold binB
  rcases hb with h | h | h<;>simp [h]
 have h47:n.op≠47:=by omega
 have h1:n.op≠1:=by omega
 rw [hbb] at e
 rw [exam_eq,time_not h47,if_neg h1,if_neg h47,if_pos hb] at x
 split at x
 ·cases x
 rename_i htime
 obtain ⟨a,g,hks,hka⟩:=shp_bind hw hb
 have ma:a∈n.kids:=by rw [hks];simp
 have mg:g∈n.kids:=by rw [hks];simp
 rw [hks] at e x
 generalize hB:(inn||decide (n.op=15))=B at x
 simp only [examB,examL] at x
 simp only [expKs,Nat.zero_add,true_and,Nat.zero_ne_one,Nat.succ_ne_self,if_false,if_true] at e
 cases hxa:exam (mkCk ts m) s B a with
 |error er=>rw [hxa] at x;cases x
 |ok ka =>
  cases ka with
  |none=>rw [hxa] at x;cases x
  |some k =>
   rw [hxa] at x
   simp only at x
   by_cases har:k.ar=1
   ·rw [if_pos har] at x
    split at e
    ·cases e
    ·rename_i a' m1 s1 e1
     have out:=ih env a body st a' m1 s1 s s' B m _ hm (hw.kid ma) (ht.kid ma) (ho.kid ma) hs hst hev hr e1 hxa
     have gos:=expI_go ts hfr f hst hev e1
     have hst1:=gos.ok hst
     obtain ⟨ko',x1,x2⟩:=out.ex
     obtain ⟨q,k',y1,y2,y3⟩:=x2 hka
     cases y1
     subst y2
     obtain ⟨q,y4,hkk⟩:=exam_ok hc (szN a) a s B _ (Nat.le_refl _) (hw.kid ma) hs hxa hka
     cases y4
     have hrs:=renI_st hfr (env:=env) (nm:=n.name) (body:=body) hst1.l0
     have hre:=renI_env (ts:=ts) (es:=es) (nm:=n.name) (body:=body) (s:=s1) hev
     have hlast:=hst1.last
     obtain ⟨w1,w2,w3⟩:=Rl.bind (c0:=ckF ts) (st:=s1) (nm:=n.name) (k:=k) (k':=k') hfr hev.nd (hr.mono out.le) hst1.l0 (by show s1.last+(fuelN ts es:Nat)<_;omega) (ht n (preN_self n)) y3
     have w1:Rl (ckF ts) es (renI ts es env n.name body s1).2.last body ((n.name,k) :: s) (((renI ts es env n.name body s1).1.2,k') :: s') (renI ts es env n.name body s1).1.1:=w1
     have w2:s1.last≤(renI ts es env n.name body s1).2.last:=w2
     have w3:tkn es (renI ts es env n.name body s1).1.2∨vLe es (renI ts es env n.name body s1).2.last (renI ts es env n.name body s1).1.2:=w3
     have w4:(renI ts es env n.name body s1).1.2=n.name∨vLe es (renI ts es env n.name body s1).2.last (renI ts es env n.name body s1).1.2:=by
      rcases w3 with w3 | w3
      ·left
       unfold renI at w3 ⊢
       split
       ·rename_i hcc
        rw [if_pos hcc] at w3
        exfalso
        have hex:=hfr s1.last hst1.l0
        have hfree:=freshI_is hex
        simp only [freeN,Bool.and_eq_true,decide_eq_true_eq] at hfree
        exact hfree.1 w3
       ·rfl
      ·exact .inr w3
     generalize hren:renI ts es env n.name body s1=ren at *
     obtain ⟨⟨env2,nm2⟩,s2⟩:=ren
     simp only at hrs hre w1 w2 w3 w4 e
     have hst2:StOk (fuelN ts es) s2:=⟨hrs.1,by rw [hrs.2.2];exact hst1.c0,by rw [hrs.2.2];exact hst1.c1,by
      have:=gos.p
      have h3:=hrs.2.1
      have h4:=hrs.2.2
      unfold pot at *
      rw [h4]
      omega⟩
     split at e
     ·cases e
     ·rename_i nm3 ks3 m3 s3 e3
      split at e3
      ·cases e3
      ·rename_i g' m2 s4 e2
       cases e3
       cases e
       cases hxg:exam (mkCk ts m) ((n.name,k) :: s) B g with
       |error er=>rw [hxg] at x;cases x
       |ok kg =>
        rw [hxg] at x
        cases x
        have hs2:ScOk ts.sorts.length ((n.name,k) :: s):=fun v hv=>by
         rcases List.mem_cons.1 hv with rfl | hv
         ·exact ⟨hkk,har⟩
         ·exact hs v hv
        have out2:=ih env2 g body s2 g' m2 st' ((n.name,k) :: s) ((nm',k') :: s') B m _ hm (hw.kid mg) (ht.kid mg) (ho.kid mg) hs2 hst2 hre w1 e2 hxg
        obtain ⟨kg',z1,_⟩:=out2.ex
        refine ⟨⟨some k',?_,fun _=>⟨k,k',rfl,rfl,y3⟩⟩,?_,rfl,by have:=out.le;have:=out2.le;omega⟩
        ·rw [exam_eq]
         show (if (inn&&timeOfL (ckF ts) n.op nm')=true then _ else if n.op=1 then _ else if n.op=47 then _ else if n.op=15∨n.op=45∨n.op=46 then examB (ckF ts) s' (inn||decide (n.op=15)) nm' n.pos [a',g'] else _)=_
         rw [time_not h47,if_neg htime,if_neg h1,if_neg h47,if_pos hb,hB]
         simp only [examB,examL]
         rw [x1]
         simp only
         rw [if_pos (by rw [y3.1];exact har),z1]
        ·refine GoodN.node hw (by rw [hks];simp [out.kd,out2.kd]) (fun y hy=>?_) h47 (ho n (preN_self n)) ?_
         ·rcases List.mem_cons.1 hy with rfl | hy
          ·exact out.good.mono (by have:=out2.le;omega)
          ·rw [List.mem_singleton] at hy;subst hy;exact out2.good
         ·rcases w4 with w4 | w4
          ·exact .inl ⟨w4,by rw [w4];exact ht n (preN_self n)⟩
          ·exact .inr ⟨w4.mono out2.le,own_named (ho n (preN_self n)) (by unfold namedB;rcases hb with h | h | h<;>simp [h])⟩
   ·rw [if_neg har] at x;cases x
theorem exp_ok (ts:TS) (h:okTS ts) (es:List (ByteArray×Bool)) (hP:PredsOk ts es) (hF:fuelN ts es≤200000) (hfr:Free ts es):∀ f:Nat,IHx ts es f
 | 0=>fun env n body st n' z st' s s' inn m ko _ _ _ _ _ _ _ _ e _=>by cases e
 |f+1=>fun env n body st n' z st' s s' inn m ko hm hw ht ho hs hst hev hr e x=>by
  have ih:=exp_ok ts h es hP hF hfr f
  simp only [expI] at e
  split at e
  ·rename_i hc
   have hp:=pay_go hst (n:=1) (by omega) hc
   have hst1:=hp.ok hst
   have hr1:Rl (ckF ts) es (payS 1 st).last body s s' env:=hr
   have hle:st.last=(payS 1 st).last:=rfl
   rw [hle]
   split at e
   ·rename_i h1
    exact leaf_ok (c:=mkCk ts m) (c0:=ckF ts) rfl h1 hw (ht n (preN_self n)) (ho n (preN_self n)) hr1 e x
   ·rename_i h1
    split at e
    ·rename_i h47
     exact call_ok ts h es hP hfr f ih env n body (payS 1 st) n' z st' s s' inn m ko hm hw ht ho hs hst1 hev hr1 h47 e x
    ·rename_i h47
     obtain ⟨⟨nm',ks',z'⟩,s1,e1,e2⟩:=bindX_ok e
     cases e2
     by_cases hb:n.op=15∨n.op=45∨n.op=46
     ·refine binder_ok ts h es hF hfr f ih env n body (payS 1 st) nm' ks' z' st' s s' inn m ko hm hw ht ho hs hst1 ?_ hev hr1 hb e1 x
      rw [pot_pay]
      have:=hst.p
      omega
     ·exact node_ok ts h es hfr f ih env n body (payS 1 st) nm' ks' z' st' s s' inn m ko hm hw ht ho hs hst1 hev hr1 h47 h1 hb e1 x
  ·cases e
end Go.Proofs.YtcfopdccdeeleaaGreatDoor.PE


namespace Go.Proofs.YtcfopdccdeeleaaGreatDoor.PG
open Go Go.Ev Go.Proofs Go.Proofs.YtcfopdccdeeleaaGreatDoor YM YF Y1 Y2 Y3 Y4 P1 P2 Y9 PA YD PB YZ
theorem applyK_err {ns:Nat} {op n pos:Int} {l:List (Option Kd)} {e:Dg} (h:applyK ns op n pos l = .error e):40≤e.1:=by
 unfold applyK at h
 repeat' split at h
 all_goals first
  | (cases h;done)
  | (cases h;simp)
theorem nameK_err {c:Ck} {s:Scp} {nm:ByteArray} {pos:Int} {e:Dg} (h:nameK c s nm pos = .error e):40≤e.1:=by
 unfold nameK at h
 repeat' split at h
 all_goals first
  | (cases h;done)
  | (cases h;simp)
section
variable {c:Ck}
theorem examL_err {inn:Bool}:∀{ks:List Nd} {s:Scp} {e:Dg},(∀ k,k∈ks→∀ s e,exam c s inn k = .error e→40≤e.1)→examL c s inn ks = .error e→40≤e.1
 | [],s,e,_,h=>by simp only [examL] at h;cases h
 |k :: ks,s,e,ih,h=>by
  simp only [examL] at h
  split at h
  ·rename_i e' hx
   cases h
   exact ih k (List.mem_cons_self ..) s _ hx
  ·split at h
   ·rename_i e' hx
    cases h
    exact examL_err (fun k hk=>ih k (List.mem_cons_of_mem _ hk)) hx
   ·cases h
theorem examA_err {pos:Int}:∀{ks:List Nd} {ps:List (ByteArray×Int)} {s:Scp} {e:Dg},(∀ k,k∈ks→∀ s e,exam c s true k = .error e→40≤e.1)→examA c s pos ps ks = .error e→40≤e.1
 | [],ps,s,e,_,h=>by cases ps<;>(simp only [examA] at h;cases h)
 |k :: ks,[],s,e,_,h=>by simp only [examA] at h;cases h
 |k :: ks,p :: ps,s,e,ih,h=>by
  simp only [examA] at h
  split at h
  ·rename_i e' hx
   cases h
   exact ih k (List.mem_cons_self ..) s _ hx
  ·cases h;simp
  ·split at h
   ·split at h
    ·exact examA_err (fun k hk=>ih k (List.mem_cons_of_mem _ hk)) h
    ·cases h;simp
   ·cases h;simp
theorem examB_err {inn:Bool} {nm:ByteArray} {pos:Int}:∀{ks:List Nd} {s:Scp} {e:Dg},(∀ k,k∈ks→∀ s e,exam c s inn k = .error e→40≤e.1)→examB c s inn nm pos ks = .error e→40≤e.1
 | [],s,e,_,h=>by simp only [examB] at h;cases h
 |k :: ks,s,e,ih,h=>by
  simp only [examB] at h
  split at h
  ·rename_i e' hx
   cases h
   exact ih k (List.mem_cons_self ..) s _ hx
  ·cases h;simp
  ·split at h
   ·split at h
    ·rename_i e' hx
     cases h
     exact examL_err (fun k hk=>ih k (List.mem_cons_of_mem _ hk)) hx
    ·cases h
   ·cases h;simp
theorem exam_err (c:Ck):∀(m:Nat) (n:Nd) (s:Scp) (inn:Bool) (e:Dg),szN n≤m→exam c s inn n = .error e→40≤e.1
 | 0,n,_,_,_,hm,_=>by obtain ⟨op,nm,i,ks,p⟩:=n;simp [szN] at hm
 |m+1,n,s,inn,e,hm,h=>by
  have ih:∀ inn k,k∈n.kids→∀ s e,exam c s inn k = .error e→40≤e.1:=fun inn k hk s e h=>exam_err c m k s inn e (by have:=kid_lt hk;omega) h
  rw [exam_eq] at h
  split at h
  ·cases h;simp
  split at h
  ·exact nameK_err h
  split at h
  ·split at h
   ·split at h
    ·cases h;simp
    ·split at h
     ·cases h;simp
     ·split at h
      ·exact examA_err (ih true) h
      ·cases h;simp
   ·cases h;simp
  split at h
  ·exact examB_err (ih _) h
  ·split at h
   ·rename_i e' hx
    cases h
    exact examL_err (ih _) hx
   ·exact applyK_err h
end
theorem depNs_kid {ks:List Nd} {k:Nd} (h:k∈ks):depN k≤depNs ks:=by
 induction ks with
 |nil=>simp at h
 |cons a l ih =>
  simp only [depNs]
  rcases List.mem_cons.1 h with rfl | h
  ·omega
  ·have:=ih h;omega
theorem dep_nn (n:Nd):1≤depN n:=by
 rw [depN_eq]
 have:∀ ks:List Nd,0≤depNs ks:=by
  intro ks
  induction ks with
  |nil=>simp [depNs]
  |cons a l ih=>simp only [depNs];omega
 have:=this n.kids
 omega
end Go.Proofs.YtcfopdccdeeleaaGreatDoor.PG


namespace Go.Proofs.YtcfopdccdeeleaaGreatDoor.PF
open Go Go.Ev Go.Proofs Go.Proofs.YtcfopdccdeeleaaGreatDoor YM YS YF P1 P2 Y1 Y2 Y3 Y4 Y5 Y9 Y10 Y12 Y13 Y14 Y16 YX YZ YA YB PA YC YE YG Q1 Q2 Q3 Q4 Q6 PB PC PD PE PG
mutual
theorem cnt_eq:∀(n:Nd) (left:Int),cntT n≤left→cntN n left=cntT n
 | .mk op nm i ks p,left,h=>by
  simp only [cntT,cntN] at h ⊢
  exact cnts_eq ks left 1 h
theorem cnts_eq:∀(ks:List Nd) (left sum:Int),sum+cntTs ks≤left→cntNs ks left sum=sum+cntTs ks
 | [],left,sum,h=>by simp only [cntTs,cntNs];omega
 |k :: ks,left,sum,h=>by
  simp only [cntTs,cntNs] at h ⊢
  have h1:=cntT_pos k
  have h2:=cntTs_nn ks
  rw [if_pos (by omega),cnt_eq k (left-sum) (by omega),cnts_eq ks left _ (by omega)]
  omega
end
mutual
theorem cnt_le:∀(n:Nd) (left:Int),cntN n left≤left→cntT n≤left
 | .mk op nm i ks p,left,h=>by
  simp only [cntT,cntN] at h ⊢
  exact cnts_le ks left 1 h
theorem cnts_le:∀(ks:List Nd) (left sum:Int),cntNs ks left sum≤left→sum+cntTs ks≤left
 | [],left,sum,h=>by simp only [cntTs,cntNs] at h ⊢;omega
 |k :: ks,left,sum,h=>by
  simp only [cntTs,cntNs] at h ⊢
  split at h
  ·have h1:=(cntNs_le ks left (sum+cntN k (left-sum))).1
   have h2:cntN k (left-sum)≤left-sum:=by omega
   have h3:=cnt_eq k (left-sum) (cnt_le k _ h2)
   have h4:=cnts_le ks left _ h
   omega
  ·omega
end
theorem depNs_le {ks:List Nd} {d:Int} (h0:0≤d) (h:∀ k,k∈ks→depN k≤d):depNs ks≤d:=by
 induction ks with
 |nil=>simp only [depNs];omega
 |cons a l ih =>
  simp only [depNs]
  have h1:=h a (List.mem_cons_self ..)
  have h2:=ih fun k hk=>h k (List.mem_cons_of_mem _ hk)
  omega
theorem forNs_of {ks:List Nd} {lv:Int} (h:∀ k,k∈ks→forN k lv=true):forNs ks lv=true:=by
 induction ks with
 |nil=>rfl
 |cons a l ih =>
  simp only [forNs,Bool.and_eq_true]
  exact ⟨h a (List.mem_cons_self ..),ih fun k hk=>h k (List.mem_cons_of_mem _ hk)⟩
theorem forN_of:∀(m:Nat) (n:Nd) (lv:Int),szN n≤m→WfN n→OwnT n→depN n≤lv→forN n lv=true
 | 0,n,_,hm,_,_,_=>by obtain ⟨op,nm,i,ks,p⟩:=n;simp [szN] at hm
 |m+1,n,lv,hm,hw,ho,hd=>by
  have h1:=dep_nn n
  rw [forN_eq,if_neg (by omega),ho n (preN_self n),Bool.true_and,Bool.and_eq_true]
  refine ⟨?_,forNs_of fun k hk=>forN_of m k (lv-1) (by have:=kid_lt hk;omega) (hw.kid hk) (ho.kid hk) ?_⟩
  ·unfold fitB
   rw [decide_eq_true_eq]
   exact hw.shape
  ·have:=depNs_kid hk
   rw [depN_eq] at hd
   omega
theorem of_forN:∀(m:Nat) (n:Nd) (lv:Int),szN n≤m→forN n lv=true→OwnT n∧depN n≤lv
 | 0,n,_,hm,_=>by obtain ⟨op,nm,i,ks,p⟩:=n;simp [szN] at hm
 |m+1,n,lv,hm,h=>by
  rw [forN_eq] at h
  split at h
  ·cases h
  ·rename_i hl
   simp only [Bool.and_eq_true] at h
   obtain ⟨h1,h2,h3⟩:=h
   have ih:=fun k (hk:k∈n.kids)=>of_forN m k (lv-1) (by have:=kid_lt hk;omega) (forNs_mem h3 k hk)
   refine ⟨fun x hx=>?_,?_⟩
   ·rw [preN_eq] at hx
    rcases List.mem_cons.1 hx with rfl | hx
    ·exact h1
    ·obtain ⟨k,hk,hx⟩:=mem_preNs hx
     exact (ih k hk).1 x hx
   ·rw [depN_eq]
    have:=depNs_le (ks:=n.kids) (d:=lv-1) (by omega) fun k hk=>(ih k hk).2
    omega
theorem valid_iff {n:Nd}:validB n=true↔WfN n∧OwnT n∧cntT n≤400∧depN n≤24:=by
 constructor
 ·intro h
  have hw:=wf_valid h
  simp only [validB,Bool.and_eq_true,decide_eq_true_eq] at h
  obtain ⟨a,b⟩:=of_forN (szN n) n 24 (Nat.le_refl _) h.2
  exact ⟨hw,a,cnt_le n 400 h.1,b⟩
 ·rintro ⟨h1,h2,h3,h4⟩
  simp only [validB,Bool.and_eq_true,decide_eq_true_eq]
  exact ⟨by rw [cnt_eq n 400 h3];exact h3,forN_of (szN n) n 24 (Nat.le_refl _) h1 h2 h4⟩
theorem find_callee {c:Ck} {nm:ByteArray} {i:Nat} (h:calleeL c nm=some i) (hp:i<c.ts.preds.length):(c.ts.preds.find? fun p=>decide (p.name=nm))=some c.ts.preds[i]:=by
 unfold calleeL at h
 rw [List.findIdx?_eq_some_iff_getElem] at h
 obtain ⟨hi,a1,a2⟩:=h
 rw [List.find?_eq_some_iff_getElem]
 refine ⟨?_,i,hp,rfl,fun j hj=>?_⟩
 ·have:=a1
  simp only [List.getElem_take] at this
  exact this
 ·have:=a2 j hj
  simp only [List.getElem_take] at this
  simpa using this
theorem examA_each {c:Ck} {s:Scp} {pos:Int}:∀{ks:List Nd} {ps:List (ByteArray×Int)} {ko:Option Kd},ps.length=ks.length→examA c s pos ps ks = .ok ko→∀ k,k∈ks→∃ a,exam c s true k = .ok a
 | [],_,_,_,_,k,hk=>absurd hk List.not_mem_nil
 |k :: ks,[],_,hl,_,_,_=>by simp at hl
 |k :: ks,p :: ps,ko,hl,h,x,hx=>by
  simp only [examA] at h
  split at h
  ·cases h
  ·cases h
  ·rename_i a hk
   split at h
   ·split at h
    ·rcases List.mem_cons.1 hx with rfl | hx
     ·exact ⟨_,hk⟩
     ·exact examA_each (by simpa using hl) h x hx
    ·cases h
   ·cases h
theorem examL_each {c:Ck} {s:Scp} {inn:Bool}:∀{ks:List Nd} {l:List (Option Kd)},examL c s inn ks = .ok l→∀ k,k∈ks→∃ a,exam c s inn k = .ok a
 | [],_,_,k,hk=>absurd hk List.not_mem_nil
 |k :: ks,l,h,x,hx=>by
  simp only [examL] at h
  split at h
  ·cases h
  ·rename_i a hk
   split at h
   ·cases h
   ·rename_i l' hl
    rcases List.mem_cons.1 hx with rfl | hx
    ·exact ⟨_,hk⟩
    ·exact examL_each hl x hx
theorem exam_calls {c:Ck} (hc:okCk c):∀(m:Nat) (n:Nd) (s:Scp) (inn:Bool) (ko:Option Kd),szN n≤m→exam c s inn n = .ok ko→WfN n→CallsOk c.ts n
 | 0,n,_,_,_,hm,_,_=>by obtain ⟨op,nm,i,ks,p⟩:=n;simp [szN] at hm
 |m+1,n,s,inn,ko,hm,h,hw=>fun x hx ho=>by
  have ih:∀ k,k∈n.kids→∀ s inn ko,exam c s inn k = .ok ko→CallsOk c.ts k:=fun k hk s inn ko h=>exam_calls hc m k s inn ko (by have:=kid_lt hk;omega) h (hw.kid hk)
  rw [exam_eq] at h
  rw [preN_eq] at hx
  split at h
  ·cases h
  by_cases h1:n.op=1
  ·rw [no_kids hw h1] at hx
   rcases List.mem_cons.1 hx with rfl | hx
   ·omega
   ·simp [preNs] at hx
  rw [if_neg h1] at h
  have hkid:∀(s:Nd→Scp) (inn:Nd→Bool),(∀ k,k∈n.kids→∃ ko,exam c (s k) (inn k) k = .ok ko)→x∈preNs n.kids→∃ p,(c.ts.preds.find? fun p=>decide (p.name=x.name))=some p∧p.params.length=x.kids.length:=fun s inn hk hx=>by
   obtain ⟨k,hkk,hx⟩:=mem_preNs hx
   obtain ⟨ko,hko⟩:=hk k hkk
   exact ih k hkk _ _ _ hko x hx ho
  by_cases h47:n.op=47
  ·rw [if_pos h47] at h
   split at h
   ·split at h
    ·cases h
    ·rename_i i hcal
     obtain ⟨_,hp2⟩:=calleeL_lt hc hcal
     rw [List.getElem?_eq_getElem hp2] at h
     simp only at h
     split at h
     ·rename_i hlen
      rcases List.mem_cons.1 hx with rfl | hx
      ·exact ⟨_,find_callee hcal hp2,hlen⟩
      ·exact hkid (fun _=>s) (fun _=>true) (examA_each hlen h) hx
     ·cases h
   ·cases h
  rw [if_neg h47] at h
  have hx:x∈preNs n.kids:=by
   rcases List.mem_cons.1 hx with rfl | hx
   ·exact absurd ho h47
   ·exact hx
  by_cases hb:n.op=15∨n.op=45∨n.op=46
  ·rw [if_pos hb] at h
   obtain ⟨a,g,hks,_⟩:=shp_bind hw hb
   rw [hks] at h
   simp only [examB] at h
   split at h
   ·cases h
   ·cases h
   ·rename_i k hk
    split at h
    ·split at h
     ·cases h
     ·rename_i l hl
      obtain ⟨y,hy,hx⟩:=mem_preNs hx
      rw [hks] at hy
      rcases List.mem_cons.1 hy with rfl | hy
      ·exact ih y (by rw [hks];simp) _ _ _ hk x hx ho
      ·rw [List.mem_singleton] at hy
       subst hy
       obtain ⟨b,hb⟩:=examL_each hl y (by simp)
       exact ih y (by rw [hks];simp) _ _ _ hb x hx ho
    ·cases h
  ·rw [if_neg hb] at h
   split at h
   ·cases h
   ·rename_i l hl
    exact hkid (fun _=>s) (fun _=>_) (fun k hk=>examL_each hl k hk) hx
theorem formK_ok {c:Ck} {env:List (ByteArray×Int)} {n:Nd} (h:(formK c env n).1=0):30≤n.op∧∃ ko,exam c (bindL env) false n = .ok ko:=by
 unfold formK at h
 split at h
 ·rename_i h30
  refine ⟨h30,?_⟩
  cases hx:exam c (bindL env) false n with
  |ok ko=>exact ⟨ko,rfl⟩
  |error e =>
   rw [hx] at h
   have:=PG.exam_err c (szN n) n _ _ e (Nat.le_refl _) hx
   have h:e.1=0:=h
   omega
 ·have h:(43:Int)=0:=h
  omega
theorem check_preds {ts:TS} (h:checkL ts=[]) (i:Nat) (hi:i<ts.preds.length):(formK (mkCk ts i) ts.preds[i].params ts.preds[i].body).1=0:=by
 unfold checkL at h
 simp only [List.append_eq_nil_iff] at h
 have:=h.2.2.1
 rw [List.flatMap_eq_nil_iff] at this
 have:=this i (List.mem_range.2 hi)
 unfold predD at this
 rw [List.getElem?_eq_getElem hi] at this
 simp only [List.append_eq_nil_iff] at this
 have:=this.2.2
 unfold rp at this
 split at this
 ·assumption
 ·cases this
theorem put_get (l:List Nd):∀(es:List (ByteArray×Bool)) (nm:ByteArray),(getK nm es=some true∨∃ x,x∈l∧x.name=nm)→getK nm (putN es l)=some true:=by
 induction l with
 |nil =>
  intro es nm h
  rcases h with h | ⟨x,hx,_⟩
  ·exact h
  ·exact absurd hx List.not_mem_nil
 |cons a l ih =>
  intro es nm h
  refine ih _ nm ?_
  rw [getK_set]
  by_cases e:nm=a.name
  ·rw [if_pos e];exact .inl rfl
  ·rw [if_neg e]
   rcases h with h | ⟨x,hx,hn⟩
   ·exact .inl h
   ·rcases List.mem_cons.1 hx with rfl | hx
    ·exact absurd hn.symm e
    ·exact .inr ⟨x,hx,hn⟩
theorem taken_tk (ts:TS) (n:Nd):Tk (takenI ts n) n∧∀ p,p∈ts.preds→Tk (takenI ts n) p.body:=by
 have h1:∀(l:List Pd) (es:List (ByteArray×Bool)) (nm:ByteArray),(getK nm es=some true∨∃ p,p∈l∧∃ x,x∈preN p.body∧x.name=nm)→getK nm (l.foldl (fun es p=>putN es (preN p.body)) es)=some true:=by
  intro l
  induction l with
  |nil =>
   intro es nm h
   rcases h with h | ⟨p,hp,_⟩
   ·exact h
   ·exact absurd hp List.not_mem_nil
  |cons a l ih =>
   intro es nm h
   refine ih _ nm ?_
   rcases h with h | ⟨p,hp,hx⟩
   ·exact .inl (put_get _ _ _ (.inl h))
   ·rcases List.mem_cons.1 hp with rfl | hp
    ·exact .inl (put_get _ _ _ (.inr hx))
    ·exact .inr ⟨p,hp,hx⟩
 refine ⟨fun x hx=>h1 _ _ _ (.inl (put_get _ _ _ (.inr ⟨x,hx,rfl⟩))),fun p hp x hx=>h1 _ _ _ (.inr ⟨p,hp,x,hx,rfl⟩)⟩
theorem put_len (l:List Nd):∀ es:List (ByteArray×Bool),(putN es l).length≤es.length+l.length:=by
 have hs:∀(es:List (ByteArray×Bool)) (k:ByteArray),(setK k true es).length≤es.length+1:=by
  intro es k
  induction es with
  |nil=>simp [setK]
  |cons a es ih=>unfold setK;split<;>simp<;>omega
 induction l with
 |nil=>intro es;simp [putN]
 |cons a l ih =>
  intro es
  have:=ih (setK a.name true es)
  have:=hs es a.name
  show (putN (setK a.name true es) l).length≤_
  simp only [List.length_cons]
  omega
mutual
theorem pre_cnt:∀ n:Nd,((preN n).length:Int)=cntT n
 | .mk op nm i ks p=>by simp only [preN,cntT,List.length_cons];have:=pres_cnt ks;omega
theorem pres_cnt:∀ ks:List Nd,((preNs ks).length:Int)=cntTs ks
 | []=>rfl
 |k :: ks=>by simp only [preNs,cntTs,List.length_append];have:=pre_cnt k;have:=pres_cnt ks;omega
end
theorem taken_len {ts:TS} (h:okTS ts) (hb:∀ p,p∈ts.preds→validB p.body=true) {n:Nd} (hn:validB n=true):fuelN ts (takenI ts n)≤200000:=by
 have h1:∀(l:List Pd) (es:List (ByteArray×Bool)),(∀ p,p∈l→validB p.body=true)→(l.foldl (fun es p=>putN es (preN p.body)) es).length≤es.length+400*l.length:=by
  intro l
  induction l with
  |nil=>intro es _;simp
  |cons a l ih =>
   intro es hv
   have a1:=ih (putN es (preN a.body)) fun p hp=>hv p (List.mem_cons_of_mem _ hp)
   have a2:=put_len (preN a.body) es
   have a3:=pre_cnt a.body
   have a4:=(valid_iff.1 (hv a (List.mem_cons_self ..))).2.2.1
   rw [List.foldl_cons]
   simp only [List.length_cons]
   omega
 have a1:=h1 ts.preds (putN [] (preN n)) hb
 have a2:=put_len (preN n) []
 have a3:=pre_cnt n
 have a4:=(valid_iff.1 hn).2.2.1
 have:=h.np
 have:=h.nf
 have:=h.ns
 unfold fuelN takenI
 simp only [List.length_nil] at a2
 omega
theorem inline_result {ts:TS} (h:okTS ts) (hb:∀ p,p∈ts.preds→validB p.body=true) (hk:checkL ts=[]) {n x:Nd} (hn:validB n=true) (hc:(checkF ts [] n).1=0) (hcall:anyN (fun n=>decide (n.op=47)) n=true) (hi:inlineL ts n=(x,0)) :
  validB x=true∧anyN (fun n=>decide (n.op=47)) x=false∧checkF ts [] x=(0,0)∧inlineL ts x=(x,0):=by
 have hw:=wf_valid hn
 have hon:=(valid_iff.1 hn).2.1
 have hF:=taken_len h hb hn
 obtain ⟨t1,t2⟩:=taken_tk ts n
 generalize hes:takenI ts n=es at *
 have hP:PredsOk ts es:=fun i hi=>by
  have hm:=List.getElem_mem hi
  obtain ⟨a,b⟩:=formK_ok (check_preds hk i hi)
  exact ⟨b,a,wf_valid (hb _ hm),t2 _ hm,(valid_iff.1 (hb _ hm)).2.1⟩
 unfold inlineL at hi
 rw [if_neg (by simpa using hc),if_neg (by simp [hcall]),hes] at hi
 unfold outI at hi
 split at hi
 ·rename_i d hd
  exfalso
  have h1:=outI_err hd
  have h2:d.1=0:=congrArg Prod.snd hi
  omega
 ·rename_i n' hn'
  have e:n'=x:=congrArg Prod.fst hi
  subst e
  split at hn'
  ·cases hn'
  ·rename_i n2 z st' he
   split at hn'
   ·rename_i hz
    cases hn'
    obtain ⟨h30,ko,hx⟩:=formK_ok (c:=mkCk ts ts.preds.length) (env:=[]) hc
    have hst:StOk (fuelN ts es) ⟨0,0⟩:=⟨by simp,by simp,by simp,by simp [pot]⟩
    have out:=exp_ok ts h es hP hF (free_all ts es) 4001 [] n false ⟨0,0⟩ n' z st' [] [] false ts.preds.length ko (Nat.le_refl _) hw t1 hon (fun v hv=>absurd hv List.not_mem_nil) hst .nil
     ⟨fun v hv=>absurd hv List.not_mem_nil,fun v _=>trivial,fun _ v iv e=>by cases e⟩ he hx
    obtain ⟨hz1,hsm⟩:=expI_size ts (fun p hp=>wf_valid (hb p hp)) es 4001 (env:=[]) (fun e he=>absurd he List.not_mem_nil) hw he
    have hv:validB n'=true:=valid_iff.2 ⟨out.good.wf,fun x hx=>(out.good.all x hx).own,by omega,hz.2⟩
    have hnc:anyN (fun n=>decide (n.op=47)) n'=false:=by
     rw [any_pre _ (szN n') n' (Nat.le_refl _),List.any_eq_false]
     intro x hx
     have:=(out.good.all x hx).nc
     simpa using this
    have h102:kd n'.op=102:=by rw [out.kd];exact kd_form hw h30
    have h30':30≤n'.op:=by
     unfold kd at h102
     split at h102
     ·omega
     ·split at h102
      ·omega
      ·split at h102<;>omega
    obtain ⟨ko',hx',_⟩:=out.ex
    have hcf:checkF ts [] n'=(0,0):=by
     unfold checkF formK
     rw [if_pos h30']
     have hx':exam (mkCk ts ts.preds.length) (bindL []) false n' = .ok ko':=hx'
     rw [hx']
     rfl
    refine ⟨hv,hnc,hcf,?_⟩
    unfold inlineL
    rw [hcf,if_neg (by simp),if_pos hnc]
   ·cases hn'
end Go.Proofs.YtcfopdccdeeleaaGreatDoor.PF


namespace Go.Proofs.YtcfopdccdeeleaaGreatDoor.QC
open Go Go.Ev Go.Proofs Go.Proofs.YtcfopdccdeeleaaGreatDoor YM YS YF P1 P2 Y1 Y2 Y3 Y4 Y5 Y6 Y9 Y16 PA YD Q4
theorem rd_nd {mu:Mu} {av:AV} {op i p:Int} {nm:ByteArray} {ks:List Nd} {lo:Nat} (go:OwnF lo mu 5 av (ks.map cNd)):Rd mu (.agg [aI op,aS nm,aI i,av,aI p]) (eNd (.mk op nm i ks p)):=by
 have ecn:eNd (.mk op nm i ks p) = .agg [aI op,aS nm,aI i,.lst false (ks.map cNd),aI p]:=by
  show AV.agg (cNd _)=_
  rw [cNd_eq];rfl
 rw [ecn]
 refine .agg _ _ rfl fun k x y hx hy=>?_
 match k with
 | 0=>simp at hx hy;subst hx;subst hy;exact .hf _ (HF.sc _)
 | 1=>simp at hx hy;subst hx;subst hy;exact .hf _ (HF.sc _)
 | 2=>simp at hx hy;subst hx;subst hy;exact .hf _ (HF.sc _)
 | 3 =>
  simp at hx hy;subst hx;subst hy
  exact Own.rd (sz:=5) go.1 (rows_nd ks).ok fun r hr c hc=>by
   obtain ⟨x,_,rfl⟩:=List.mem_map.1 hr
   exact hf_cNd x c hc
 | 4=>simp at hx hy;subst hx;subst hy;exact .hf _ (HF.sc _)
 |k+5=>simp at hx
theorem renameU (a b:ByteArray):∀(m:Nat) (n:Nd),szN n≤m→Small n→SoundP Tryz.prog 30 [eNd n,aS a,aS b] (eNd (renN a b n))
 | 0,n,hm,_=>by obtain ⟨op,nm,i,ks,p⟩:=n;simp [szN] at hm
 |m+1,n,hm,hs=>by
  have ih:∀ k,k∈n.kids→SoundP Tryz.prog 30 [eNd k,aS a,aS b] (eNd (renN a b k)):=fun k hk =>
   renameU a b m k (by have:=kid_lt hk;omega) (hs.kid hk)
  have hlen:=hs.len
  generalize hR:renN a b n=R
  rw [renN_eq] at hR
  have hcn:=cNd_eq n
  refine SoundP.of_sound (Sound.of_awp Tryz.call30 Tryz.func30 rfl (Nat.le_of_ble_eq_true (by kernel_rfl)) (by kernel_rfl) (pl:={ mt:=[3] }) ?_)
  by_cases h1:n.op=1∧n.name=a
  ·rw [if_pos h1] at hR
   obtain ⟨h1,h2⟩:=h1
   simp [go_sem,h1,h2,hcn]
   rw [←hR]
   have e:eNd (.mk n.op b n.n n.kids n.pos)=AV.agg [aI 1,AV.sc (Value.string b),aI n.n,AV.lst false (List.map cNd n.kids),aI n.pos]:=by
    show AV.agg (cNd _)=_
    rw [cNd_eq,h1];rfl
   rw [←e]
   exact .hf _ (hf_eNd _)
  rw [if_neg h1] at hR
  have hB:∃ B,binB n.op=B∧B=decide (n.op=15∨n.op=45∨n.op=46):=⟨_,rfl,(binB_eq _).symm⟩
  rcases (show (n.op=1∧n.name≠a)∨n.op=15∨n.op=45∨n.op=46∨(n.op≠1∧n.op≠15∧n.op≠45∧n.op≠46) by
   by_cases ho:n.op=1
   ·exact .inl ⟨ho,fun e=>h1 ⟨ho,e⟩⟩
   ·omega) with h | h | h | h | h
  ·obtain ⟨h,hne⟩:=h
   have hbin:binB n.op=false:=by rw [h];rfl
   simp [go_sem,h,str_ne hne,hcn]
   refine LoopGo.upK n.kids.length (fun k st=>∃(acc:List Nd) (av:AV),st.tm 1=aS a∧st.tm 2=aS b∧st.tm 3 = .ptr 0 0∧st.tm 6 = .ptr 1 0∧st.tm 7=aB (binB n.op)∧st.tm 8=av∧st.tm 9=aI k∧st.mu[0]?=some (.arr [aI n.op,aS n.name,aI n.n,lNd n.kids,aI n.pos])∧st.mu[1]?=some (.arr [aI 0,aS ⟨#[]⟩,aI 0,.lst true [],aI 0])∧OwnF 2 st.mu 5 av (acc.map cNd)∧acc.length=k ∧ .mk n.op n.name n.n (acc++renNs a b (binB n.op&&decide (n.name=a)) k (n.kids.drop k)) n.pos=R) ?_ ?_
   ·exact ⟨[],.lst true [],by simp [go_sem],by simp [go_sem],by simp [go_sem],by simp [go_sem],by simp [go_sem,hbin],by simp [go_sem],by simp [go_sem],by simp [go_sem,h],by simp [go_sem],OwnF.nil (by simp [go_sem]),rfl,by simpa using hR⟩
   clear hR
   rintro k st hk ⟨acc,av,e1,e2,e3,e6,e7,e8,e9,gn,gr,ho,hal,hI⟩
   have hbl:=ho.2.2
   by_cases hkl:k=n.kids.length
   ·subst hkl
    rw [List.drop_length] at hI
    have hI:R = .mk n.op n.name n.n acc n.pos:=by rw [←hI];simp [renNs]
    have hcc:=ho.cells
    have hon:=ho.one
    have hs0:∀ c,(st.mu.set 0 c)[0]?=some c:=fun c=>List.getElem?_set_self (by omega)
    have hs1:∀ c c',((st.mu.set 0 c).set 1 c')[1]?=some c':=fun c c'=>List.getElem?_set_self (by simp;omega)
    have hs01:∀ c,(st.mu.set 0 c)[1]?=st.mu[1]?:=fun c=>List.getElem?_set_ne (by omega)
    rw [hI]
    simp [go_sem,e1,e2,e3,e6,e7,e8,e9,gn,gr,hcc,hon,hs0,hs1,hs01]
    exact rd_nd ((ho.set (by omega)).set (by omega))
   have hlt:k<n.kids.length:=by omega
   have w1:IntKind.i64.wrap ((k:Int)+1)=(k:Int)+1:=wrap_i64 (by omega) (by omega)
   have hlt':(k:Int)<n.kids.length:=by omega
   have hi:=ih n.kids[k] (List.getElem_mem hlt)
   rw [List.drop_eq_getElem_cons hlt] at hI
   simp only [renNs] at hI
   have done:∀(x:Nd),(if (binB n.op&&decide (n.name=a))=true∧k=1 then n.kids[k] else renN a b n.kids[k])=x → .mk n.op n.name n.n ((acc++[x])++renNs a b (binB n.op&&decide (n.name=a)) (k+1) (n.kids.drop (k+1))) n.pos=R:=fun x hx=>by
    rw [hx] at hI;rw [←hI];simp
   simp [go_sem,e1,e2,e3,e6,e7,e8,e9,gn,gr,hlt,hlt',cNd_ones,hbin,w1]
   refine CallStep.pure hi (.cons (.hf (hf_eNd _)) (.cons (.hf (HF.sc _)) (.cons (.hf (HF.sc _)) .nil))) ?_
   simp [go_sem,e1,e2,e3,e6,e7,e8,e9,gn,gr,hlt,hlt',cNd_ones,hbin,w1]
   refine appNd ho (by omega) fun av' m' ho' hm'=>?_
   have gn':m'[0]?=some (.arr [aI n.op,aS n.name,aI n.n,lNd n.kids,aI n.pos]):=by rw [hm' 0 (by omega)];exact gn
   have gr':m'[1]?=some (.arr [aI 0,aS ⟨#[]⟩,aI 0,.lst true [],aI 0]):=by rw [hm' 1 (by omega)];exact gr
   simp [go_sem,e1,e2,e3,e6,e7,e8,e9,gn,gr,hlt,hlt',cNd_ones,hbin,w1]
   exact Keep.mk' ⟨acc++[renN a b n.kids[k]],av',by simp [go_sem,e1],by simp [go_sem,e2],by simp [go_sem,e3],by simp [go_sem,e6],by simp [go_sem,e7],by simp [go_sem],by simp [go_sem],by simpa [go_sem] using gn',by simpa [go_sem] using gr',by simpa [go_sem] using ho',by simp [hal],done _ (by simp [hbin])⟩
  ·have hbin:binB n.op=true:=by rw [h];rfl
   simp [go_sem,h,hcn]
   refine LoopGo.upK n.kids.length (fun k st=>∃(acc:List Nd) (av:AV),st.tm 1=aS a∧st.tm 2=aS b∧st.tm 3 = .ptr 0 0∧st.tm 6 = .ptr 1 0∧st.tm 7=aB (binB n.op)∧st.tm 8=av∧st.tm 9=aI k∧st.mu[0]?=some (.arr [aI n.op,aS n.name,aI n.n,lNd n.kids,aI n.pos])∧st.mu[1]?=some (.arr [aI 0,aS ⟨#[]⟩,aI 0,.lst true [],aI 0])∧OwnF 2 st.mu 5 av (acc.map cNd)∧acc.length=k ∧ .mk n.op n.name n.n (acc++renNs a b (binB n.op&&decide (n.name=a)) k (n.kids.drop k)) n.pos=R) ?_ ?_
   ·exact ⟨[],.lst true [],by simp [go_sem],by simp [go_sem],by simp [go_sem],by simp [go_sem],by simp [go_sem,hbin],by simp [go_sem],by simp [go_sem],by simp [go_sem,h],by simp [go_sem],OwnF.nil (by simp [go_sem]),rfl,by simpa using hR⟩
   clear hR
   rintro k st hk ⟨acc,av,e1,e2,e3,e6,e7,e8,e9,gn,gr,ho,hal,hI⟩
   have hbl:=ho.2.2
   by_cases hkl:k=n.kids.length
   ·subst hkl
    rw [List.drop_length] at hI
    have hI:R = .mk n.op n.name n.n acc n.pos:=by rw [←hI];simp [renNs]
    have hcc:=ho.cells
    have hon:=ho.one
    have hs0:∀ c,(st.mu.set 0 c)[0]?=some c:=fun c=>List.getElem?_set_self (by omega)
    have hs1:∀ c c',((st.mu.set 0 c).set 1 c')[1]?=some c':=fun c c'=>List.getElem?_set_self (by simp;omega)
    have hs01:∀ c,(st.mu.set 0 c)[1]?=st.mu[1]?:=fun c=>List.getElem?_set_ne (by omega)
    rw [hI]
    simp [go_sem,e1,e2,e3,e6,e7,e8,e9,gn,gr,hcc,hon,hs0,hs1,hs01]
    exact rd_nd ((ho.set (by omega)).set (by omega))
   have hlt:k<n.kids.length:=by omega
   have w1:IntKind.i64.wrap ((k:Int)+1)=(k:Int)+1:=wrap_i64 (by omega) (by omega)
   have hlt':(k:Int)<n.kids.length:=by omega
   have hi:=ih n.kids[k] (List.getElem_mem hlt)
   rw [List.drop_eq_getElem_cons hlt] at hI
   simp only [renNs] at hI
   have done:∀(x:Nd),(if (binB n.op&&decide (n.name=a))=true∧k=1 then n.kids[k] else renN a b n.kids[k])=x → .mk n.op n.name n.n ((acc++[x])++renNs a b (binB n.op&&decide (n.name=a)) (k+1) (n.kids.drop (k+1))) n.pos=R:=fun x hx=>by
    rw [hx] at hI;rw [←hI];simp
   by_cases hk1:k=1
   ·subst hk1
    have z2:(1:Int)<n.kids.length:=by omega
    have z3:1<n.kids.length:=by omega
    have w2:IntKind.i64.wrap 2=2:=rfl
    by_cases hna:n.name=a
    ·simp [go_sem,e1,e2,e3,e6,e7,e8,e9,gn,gr,hlt,hlt',cNd_ones,hbin,w1,z2,z3,w2,hna]
     refine appNd ho (by omega) fun av' m' ho' hm'=>?_
     have gn':m'[0]?=some (.arr [aI n.op,aS n.name,aI n.n,lNd n.kids,aI n.pos]):=by rw [hm' 0 (by omega)];exact gn
     have gr':m'[1]?=some (.arr [aI 0,aS ⟨#[]⟩,aI 0,.lst true [],aI 0]):=by rw [hm' 1 (by omega)];exact gr
     simp [go_sem,e1,e2,e3,e6,e7,e8,e9,gn,gr,hlt,hlt',cNd_ones,hbin,w1,z2,z3,w2,hna]
     exact Keep.mk' ⟨acc++[n.kids[1]],av',by simp [go_sem,e1],by simp [go_sem,e2],by simp [go_sem,e3],by simp [go_sem,e6],by simp [go_sem,e7],by simp [go_sem],by simp [go_sem],by simpa [go_sem] using gn',by simpa [go_sem] using gr',by simpa [go_sem] using ho',by simp [hal],done _ (by simp [hna,hbin])⟩
    ·simp [go_sem,e1,e2,e3,e6,e7,e8,e9,gn,gr,hlt,hlt',cNd_ones,hbin,w1,z2,z3,w2,hna,str_ne hna]
     refine CallStep.pure hi (.cons (.hf (hf_eNd _)) (.cons (.hf (HF.sc _)) (.cons (.hf (HF.sc _)) .nil))) ?_
     simp [go_sem,e1,e2,e3,e6,e7,e8,e9,gn,gr,hlt,hlt',cNd_ones,hbin,w1,z2,z3,w2,hna,str_ne hna]
     refine appNd ho (by omega) fun av' m' ho' hm'=>?_
     have gn':m'[0]?=some (.arr [aI n.op,aS n.name,aI n.n,lNd n.kids,aI n.pos]):=by rw [hm' 0 (by omega)];exact gn
     have gr':m'[1]?=some (.arr [aI 0,aS ⟨#[]⟩,aI 0,.lst true [],aI 0]):=by rw [hm' 1 (by omega)];exact gr
     simp [go_sem,e1,e2,e3,e6,e7,e8,e9,gn,gr,hlt,hlt',cNd_ones,hbin,w1,z2,z3,w2,hna,str_ne hna]
     exact Keep.mk' ⟨acc++[renN a b n.kids[1]],av',by simp [go_sem,e1],by simp [go_sem,e2],by simp [go_sem,e3],by simp [go_sem,e6],by simp [go_sem,e7],by simp [go_sem],by simp [go_sem],by simpa [go_sem] using gn',by simpa [go_sem] using gr',by simpa [go_sem] using ho',by simp [hal],done _ (by simp [hna,str_ne hna,hbin])⟩
   ·simp [go_sem,e1,e2,e3,e6,e7,e8,e9,gn,gr,hlt,hlt',cNd_ones,hbin,w1,hk1,show ¬(k:Int)=1 by omega]
    refine CallStep.pure hi (.cons (.hf (hf_eNd _)) (.cons (.hf (HF.sc _)) (.cons (.hf (HF.sc _)) .nil))) ?_
    simp [go_sem,e1,e2,e3,e6,e7,e8,e9,gn,gr,hlt,hlt',cNd_ones,hbin,w1,hk1,show ¬(k:Int)=1 by omega]
    refine appNd ho (by omega) fun av' m' ho' hm'=>?_
    have gn':m'[0]?=some (.arr [aI n.op,aS n.name,aI n.n,lNd n.kids,aI n.pos]):=by rw [hm' 0 (by omega)];exact gn
    have gr':m'[1]?=some (.arr [aI 0,aS ⟨#[]⟩,aI 0,.lst true [],aI 0]):=by rw [hm' 1 (by omega)];exact gr
    simp [go_sem,e1,e2,e3,e6,e7,e8,e9,gn,gr,hlt,hlt',cNd_ones,hbin,w1,hk1,show ¬(k:Int)=1 by omega]
    exact Keep.mk' ⟨acc++[renN a b n.kids[k]],av',by simp [go_sem,e1],by simp [go_sem,e2],by simp [go_sem,e3],by simp [go_sem,e6],by simp [go_sem,e7],by simp [go_sem],by simp [go_sem],by simpa [go_sem] using gn',by simpa [go_sem] using gr',by simpa [go_sem] using ho',by simp [hal],done _ (by simp [hk1,show ¬(k:Int)=1 by omega,hbin])⟩
  ·have hbin:binB n.op=true:=by rw [h];rfl
   simp [go_sem,h,hcn]
   refine LoopGo.upK n.kids.length (fun k st=>∃(acc:List Nd) (av:AV),st.tm 1=aS a∧st.tm 2=aS b∧st.tm 3 = .ptr 0 0∧st.tm 6 = .ptr 1 0∧st.tm 7=aB (binB n.op)∧st.tm 8=av∧st.tm 9=aI k∧st.mu[0]?=some (.arr [aI n.op,aS n.name,aI n.n,lNd n.kids,aI n.pos])∧st.mu[1]?=some (.arr [aI 0,aS ⟨#[]⟩,aI 0,.lst true [],aI 0])∧OwnF 2 st.mu 5 av (acc.map cNd)∧acc.length=k ∧ .mk n.op n.name n.n (acc++renNs a b (binB n.op&&decide (n.name=a)) k (n.kids.drop k)) n.pos=R) ?_ ?_
   ·exact ⟨[],.lst true [],by simp [go_sem],by simp [go_sem],by simp [go_sem],by simp [go_sem],by simp [go_sem,hbin],by simp [go_sem],by simp [go_sem],by simp [go_sem,h],by simp [go_sem],OwnF.nil (by simp [go_sem]),rfl,by simpa using hR⟩
   clear hR
   rintro k st hk ⟨acc,av,e1,e2,e3,e6,e7,e8,e9,gn,gr,ho,hal,hI⟩
   have hbl:=ho.2.2
   by_cases hkl:k=n.kids.length
   ·subst hkl
    rw [List.drop_length] at hI
    have hI:R = .mk n.op n.name n.n acc n.pos:=by rw [←hI];simp [renNs]
    have hcc:=ho.cells
    have hon:=ho.one
    have hs0:∀ c,(st.mu.set 0 c)[0]?=some c:=fun c=>List.getElem?_set_self (by omega)
    have hs1:∀ c c',((st.mu.set 0 c).set 1 c')[1]?=some c':=fun c c'=>List.getElem?_set_self (by simp;omega)
    have hs01:∀ c,(st.mu.set 0 c)[1]?=st.mu[1]?:=fun c=>List.getElem?_set_ne (by omega)
    rw [hI]
    simp [go_sem,e1,e2,e3,e6,e7,e8,e9,gn,gr,hcc,hon,hs0,hs1,hs01]
    exact rd_nd ((ho.set (by omega)).set (by omega))
   have hlt:k<n.kids.length:=by omega
   have w1:IntKind.i64.wrap ((k:Int)+1)=(k:Int)+1:=wrap_i64 (by omega) (by omega)
   have hlt':(k:Int)<n.kids.length:=by omega
   have hi:=ih n.kids[k] (List.getElem_mem hlt)
   rw [List.drop_eq_getElem_cons hlt] at hI
   simp only [renNs] at hI
   have done:∀(x:Nd),(if (binB n.op&&decide (n.name=a))=true∧k=1 then n.kids[k] else renN a b n.kids[k])=x → .mk n.op n.name n.n ((acc++[x])++renNs a b (binB n.op&&decide (n.name=a)) (k+1) (n.kids.drop (k+1))) n.pos=R:=fun x hx=>by
    rw [hx] at hI;rw [←hI];simp
   by_cases hk1:k=1
   ·subst hk1
    have z2:(1:Int)<n.kids.length:=by omega
    have z3:1<n.kids.length:=by omega
    have w2:IntKind.i64.wrap 2=2:=rfl
    by_cases hna:n.name=a
    ·simp [go_sem,e1,e2,e3,e6,e7,e8,e9,gn,gr,hlt,hlt',cNd_ones,hbin,w1,z2,z3,w2,hna]
     refine appNd ho (by omega) fun av' m' ho' hm'=>?_
     have gn':m'[0]?=some (.arr [aI n.op,aS n.name,aI n.n,lNd n.kids,aI n.pos]):=by rw [hm' 0 (by omega)];exact gn
     have gr':m'[1]?=some (.arr [aI 0,aS ⟨#[]⟩,aI 0,.lst true [],aI 0]):=by rw [hm' 1 (by omega)];exact gr
     simp [go_sem,e1,e2,e3,e6,e7,e8,e9,gn,gr,hlt,hlt',cNd_ones,hbin,w1,z2,z3,w2,hna]
     exact Keep.mk' ⟨acc++[n.kids[1]],av',by simp [go_sem,e1],by simp [go_sem,e2],by simp [go_sem,e3],by simp [go_sem,e6],by simp [go_sem,e7],by simp [go_sem],by simp [go_sem],by simpa [go_sem] using gn',by simpa [go_sem] using gr',by simpa [go_sem] using ho',by simp [hal],done _ (by simp [hna,hbin])⟩
    ·simp [go_sem,e1,e2,e3,e6,e7,e8,e9,gn,gr,hlt,hlt',cNd_ones,hbin,w1,z2,z3,w2,hna,str_ne hna]
     refine CallStep.pure hi (.cons (.hf (hf_eNd _)) (.cons (.hf (HF.sc _)) (.cons (.hf (HF.sc _)) .nil))) ?_
     simp [go_sem,e1,e2,e3,e6,e7,e8,e9,gn,gr,hlt,hlt',cNd_ones,hbin,w1,z2,z3,w2,hna,str_ne hna]
     refine appNd ho (by omega) fun av' m' ho' hm'=>?_
     have gn':m'[0]?=some (.arr [aI n.op,aS n.name,aI n.n,lNd n.kids,aI n.pos]):=by rw [hm' 0 (by omega)];exact gn
     have gr':m'[1]?=some (.arr [aI 0,aS ⟨#[]⟩,aI 0,.lst true [],aI 0]):=by rw [hm' 1 (by omega)];exact gr
     simp [go_sem,e1,e2,e3,e6,e7,e8,e9,gn,gr,hlt,hlt',cNd_ones,hbin,w1,z2,z3,w2,hna,str_ne hna]
     exact Keep.mk' ⟨acc++[renN a b n.kids[1]],av',by simp [go_sem,e1],by simp [go_sem,e2],by simp [go_sem,e3],by simp [go_sem,e6],by simp [go_sem,e7],by simp [go_sem],by simp [go_sem],by simpa [go_sem] using gn',by simpa [go_sem] using gr',by simpa [go_sem] using ho',by simp [hal],done _ (by simp [hna,str_ne hna,hbin])⟩
   ·simp [go_sem,e1,e2,e3,e6,e7,e8,e9,gn,gr,hlt,hlt',cNd_ones,hbin,w1,hk1,show ¬(k:Int)=1 by omega]
    refine CallStep.pure hi (.cons (.hf (hf_eNd _)) (.cons (.hf (HF.sc _)) (.cons (.hf (HF.sc _)) .nil))) ?_
    simp [go_sem,e1,e2,e3,e6,e7,e8,e9,gn,gr,hlt,hlt',cNd_ones,hbin,w1,hk1,show ¬(k:Int)=1 by omega]
    refine appNd ho (by omega) fun av' m' ho' hm'=>?_
    have gn':m'[0]?=some (.arr [aI n.op,aS n.name,aI n.n,lNd n.kids,aI n.pos]):=by rw [hm' 0 (by omega)];exact gn
    have gr':m'[1]?=some (.arr [aI 0,aS ⟨#[]⟩,aI 0,.lst true [],aI 0]):=by rw [hm' 1 (by omega)];exact gr
    simp [go_sem,e1,e2,e3,e6,e7,e8,e9,gn,gr,hlt,hlt',cNd_ones,hbin,w1,hk1,show ¬(k:Int)=1 by omega]
    exact Keep.mk' ⟨acc++[renN a b n.kids[k]],av',by simp [go_sem,e1],by simp [go_sem,e2],by simp [go_sem,e3],by simp [go_sem,e6],by simp [go_sem,e7],by simp [go_sem],by simp [go_sem],by simpa [go_sem] using gn',by simpa [go_sem] using gr',by simpa [go_sem] using ho',by simp [hal],done _ (by simp [hk1,show ¬(k:Int)=1 by omega,hbin])⟩
  ·have hbin:binB n.op=true:=by rw [h];rfl
   simp [go_sem,h,hcn]
   refine LoopGo.upK n.kids.length (fun k st=>∃(acc:List Nd) (av:AV),st.tm 1=aS a∧st.tm 2=aS b∧st.tm 3 = .ptr 0 0∧st.tm 6 = .ptr 1 0∧st.tm 7=aB (binB n.op)∧st.tm 8=av∧st.tm 9=aI k∧st.mu[0]?=some (.arr [aI n.op,aS n.name,aI n.n,lNd n.kids,aI n.pos])∧st.mu[1]?=some (.arr [aI 0,aS ⟨#[]⟩,aI 0,.lst true [],aI 0])∧OwnF 2 st.mu 5 av (acc.map cNd)∧acc.length=k ∧ .mk n.op n.name n.n (acc++renNs a b (binB n.op&&decide (n.name=a)) k (n.kids.drop k)) n.pos=R) ?_ ?_
   ·exact ⟨[],.lst true [],by simp [go_sem],by simp [go_sem],by simp [go_sem],by simp [go_sem],by simp [go_sem,hbin],by simp [go_sem],by simp [go_sem],by simp [go_sem,h],by simp [go_sem],OwnF.nil (by simp [go_sem]),rfl,by simpa using hR⟩
   clear hR
   rintro k st hk ⟨acc,av,e1,e2,e3,e6,e7,e8,e9,gn,gr,ho,hal,hI⟩
   have hbl:=ho.2.2
   by_cases hkl:k=n.kids.length
   ·subst hkl
    rw [List.drop_length] at hI
    have hI:R = .mk n.op n.name n.n acc n.pos:=by rw [←hI];simp [renNs]
    have hcc:=ho.cells
    have hon:=ho.one
    have hs0:∀ c,(st.mu.set 0 c)[0]?=some c:=fun c=>List.getElem?_set_self (by omega)
    have hs1:∀ c c',((st.mu.set 0 c).set 1 c')[1]?=some c':=fun c c'=>List.getElem?_set_self (by simp;omega)
    have hs01:∀ c,(st.mu.set 0 c)[1]?=st.mu[1]?:=fun c=>List.getElem?_set_ne (by omega)
    rw [hI]
    simp [go_sem,e1,e2,e3,e6,e7,e8,e9,gn,gr,hcc,hon,hs0,hs1,hs01]
    exact rd_nd ((ho.set (by omega)).set (by omega))
   have hlt:k<n.kids.length:=by omega
   have w1:IntKind.i64.wrap ((k:Int)+1)=(k:Int)+1:=wrap_i64 (by omega) (by omega)
   have hlt':(k:Int)<n.kids.length:=by omega
   have hi:=ih n.kids[k] (List.getElem_mem hlt)
   rw [List.drop_eq_getElem_cons hlt] at hI
   simp only [renNs] at hI
   have done:∀(x:Nd),(if (binB n.op&&decide (n.name=a))=true∧k=1 then n.kids[k] else renN a b n.kids[k])=x → .mk n.op n.name n.n ((acc++[x])++renNs a b (binB n.op&&decide (n.name=a)) (k+1) (n.kids.drop (k+1))) n.pos=R:=fun x hx=>by
    rw [hx] at hI;rw [←hI];simp
   by_cases hk1:k=1
   ·subst hk1
    have z2:(1:Int)<n.kids.length:=by omega
    have z3:1<n.kids.length:=by omega
    have w2:IntKind.i64.wrap 2=2:=rfl
    by_cases hna:n.name=a
    ·simp [go_sem,e1,e2,e3,e6,e7,e8,e9,gn,gr,hlt,hlt',cNd_ones,hbin,w1,z2,z3,w2,hna]
     refine appNd ho (by omega) fun av' m' ho' hm'=>?_
     have gn':m'[0]?=some (.arr [aI n.op,aS n.name,aI n.n,lNd n.kids,aI n.pos]):=by rw [hm' 0 (by omega)];exact gn
     have gr':m'[1]?=some (.arr [aI 0,aS ⟨#[]⟩,aI 0,.lst true [],aI 0]):=by rw [hm' 1 (by omega)];exact gr
     simp [go_sem,e1,e2,e3,e6,e7,e8,e9,gn,gr,hlt,hlt',cNd_ones,hbin,w1,z2,z3,w2,hna]
     exact Keep.mk' ⟨acc++[n.kids[1]],av',by simp [go_sem,e1],by simp [go_sem,e2],by simp [go_sem,e3],by simp [go_sem,e6],by simp [go_sem,e7],by simp [go_sem],by simp [go_sem],by simpa [go_sem] using gn',by simpa [go_sem] using gr',by simpa [go_sem] using ho',by simp [hal],done _ (by simp [hna,hbin])⟩
    ·simp [go_sem,e1,e2,e3,e6,e7,e8,e9,gn,gr,hlt,hlt',cNd_ones,hbin,w1,z2,z3,w2,hna,str_ne hna]
     refine CallStep.pure hi (.cons (.hf (hf_eNd _)) (.cons (.hf (HF.sc _)) (.cons (.hf (HF.sc _)) .nil))) ?_
     simp [go_sem,e1,e2,e3,e6,e7,e8,e9,gn,gr,hlt,hlt',cNd_ones,hbin,w1,z2,z3,w2,hna,str_ne hna]
     refine appNd ho (by omega) fun av' m' ho' hm'=>?_
     have gn':m'[0]?=some (.arr [aI n.op,aS n.name,aI n.n,lNd n.kids,aI n.pos]):=by rw [hm' 0 (by omega)];exact gn
     have gr':m'[1]?=some (.arr [aI 0,aS ⟨#[]⟩,aI 0,.lst true [],aI 0]):=by rw [hm' 1 (by omega)];exact gr
     simp [go_sem,e1,e2,e3,e6,e7,e8,e9,gn,gr,hlt,hlt',cNd_ones,hbin,w1,z2,z3,w2,hna,str_ne hna]
     exact Keep.mk' ⟨acc++[renN a b n.kids[1]],av',by simp [go_sem,e1],by simp [go_sem,e2],by simp [go_sem,e3],by simp [go_sem,e6],by simp [go_sem,e7],by simp [go_sem],by simp [go_sem],by simpa [go_sem] using gn',by simpa [go_sem] using gr',by simpa [go_sem] using ho',by simp [hal],done _ (by simp [hna,str_ne hna,hbin])⟩
   ·simp [go_sem,e1,e2,e3,e6,e7,e8,e9,gn,gr,hlt,hlt',cNd_ones,hbin,w1,hk1,show ¬(k:Int)=1 by omega]
    refine CallStep.pure hi (.cons (.hf (hf_eNd _)) (.cons (.hf (HF.sc _)) (.cons (.hf (HF.sc _)) .nil))) ?_
    simp [go_sem,e1,e2,e3,e6,e7,e8,e9,gn,gr,hlt,hlt',cNd_ones,hbin,w1,hk1,show ¬(k:Int)=1 by omega]
    refine appNd ho (by omega) fun av' m' ho' hm'=>?_
    have gn':m'[0]?=some (.arr [aI n.op,aS n.name,aI n.n,lNd n.kids,aI n.pos]):=by rw [hm' 0 (by omega)];exact gn
    have gr':m'[1]?=some (.arr [aI 0,aS ⟨#[]⟩,aI 0,.lst true [],aI 0]):=by rw [hm' 1 (by omega)];exact gr
    simp [go_sem,e1,e2,e3,e6,e7,e8,e9,gn,gr,hlt,hlt',cNd_ones,hbin,w1,hk1,show ¬(k:Int)=1 by omega]
    exact Keep.mk' ⟨acc++[renN a b n.kids[k]],av',by simp [go_sem,e1],by simp [go_sem,e2],by simp [go_sem,e3],by simp [go_sem,e6],by simp [go_sem,e7],by simp [go_sem],by simp [go_sem],by simpa [go_sem] using gn',by simpa [go_sem] using gr',by simpa [go_sem] using ho',by simp [hal],done _ (by simp [hk1,show ¬(k:Int)=1 by omega,hbin])⟩
  ·have hbin:binB n.op=false:=by rw [←binB_eq];simp [h]
   simp [go_sem,h,hcn]
   refine LoopGo.upK n.kids.length (fun k st=>∃(acc:List Nd) (av:AV),st.tm 1=aS a∧st.tm 2=aS b∧st.tm 3 = .ptr 0 0∧st.tm 6 = .ptr 1 0∧st.tm 7=aB (binB n.op)∧st.tm 8=av∧st.tm 9=aI k∧st.mu[0]?=some (.arr [aI n.op,aS n.name,aI n.n,lNd n.kids,aI n.pos])∧st.mu[1]?=some (.arr [aI 0,aS ⟨#[]⟩,aI 0,.lst true [],aI 0])∧OwnF 2 st.mu 5 av (acc.map cNd)∧acc.length=k ∧ .mk n.op n.name n.n (acc++renNs a b (binB n.op&&decide (n.name=a)) k (n.kids.drop k)) n.pos=R) ?_ ?_
   ·exact ⟨[],.lst true [],by simp [go_sem],by simp [go_sem],by simp [go_sem],by simp [go_sem],by simp [go_sem,hbin],by simp [go_sem],by simp [go_sem],by simp [go_sem,h],by simp [go_sem],OwnF.nil (by simp [go_sem]),rfl,by simpa using hR⟩
   clear hR
   rintro k st hk ⟨acc,av,e1,e2,e3,e6,e7,e8,e9,gn,gr,ho,hal,hI⟩
   have hbl:=ho.2.2
   by_cases hkl:k=n.kids.length
   ·subst hkl
    rw [List.drop_length] at hI
    have hI:R = .mk n.op n.name n.n acc n.pos:=by rw [←hI];simp [renNs]
    have hcc:=ho.cells
    have hon:=ho.one
    have hs0:∀ c,(st.mu.set 0 c)[0]?=some c:=fun c=>List.getElem?_set_self (by omega)
    have hs1:∀ c c',((st.mu.set 0 c).set 1 c')[1]?=some c':=fun c c'=>List.getElem?_set_self (by simp;omega)
    have hs01:∀ c,(st.mu.set 0 c)[1]?=st.mu[1]?:=fun c=>List.getElem?_set_ne (by omega)
    rw [hI]
    simp [go_sem,e1,e2,e3,e6,e7,e8,e9,gn,gr,hcc,hon,hs0,hs1,hs01]
    exact rd_nd ((ho.set (by omega)).set (by omega))
   have hlt:k<n.kids.length:=by omega
   have w1:IntKind.i64.wrap ((k:Int)+1)=(k:Int)+1:=wrap_i64 (by omega) (by omega)
   have hlt':(k:Int)<n.kids.length:=by omega
   have hi:=ih n.kids[k] (List.getElem_mem hlt)
   rw [List.drop_eq_getElem_cons hlt] at hI
   simp only [renNs] at hI
   have done:∀(x:Nd),(if (binB n.op&&decide (n.name=a))=true∧k=1 then n.kids[k] else renN a b n.kids[k])=x → .mk n.op n.name n.n ((acc++[x])++renNs a b (binB n.op&&decide (n.name=a)) (k+1) (n.kids.drop (k+1))) n.pos=R:=fun x hx=>by
    rw [hx] at hI;rw [←hI];simp
   simp [go_sem,e1,e2,e3,e6,e7,e8,e9,gn,gr,hlt,hlt',cNd_ones,hbin,w1]
   refine CallStep.pure hi (.cons (.hf (hf_eNd _)) (.cons (.hf (HF.sc _)) (.cons (.hf (HF.sc _)) .nil))) ?_
   simp [go_sem,e1,e2,e3,e6,e7,e8,e9,gn,gr,hlt,hlt',cNd_ones,hbin,w1]
   refine appNd ho (by omega) fun av' m' ho' hm'=>?_
   have gn':m'[0]?=some (.arr [aI n.op,aS n.name,aI n.n,lNd n.kids,aI n.pos]):=by rw [hm' 0 (by omega)];exact gn
   have gr':m'[1]?=some (.arr [aI 0,aS ⟨#[]⟩,aI 0,.lst true [],aI 0]):=by rw [hm' 1 (by omega)];exact gr
   simp [go_sem,e1,e2,e3,e6,e7,e8,e9,gn,gr,hlt,hlt',cNd_ones,hbin,w1]
   exact Keep.mk' ⟨acc++[renN a b n.kids[k]],av',by simp [go_sem,e1],by simp [go_sem,e2],by simp [go_sem,e3],by simp [go_sem,e6],by simp [go_sem,e7],by simp [go_sem],by simp [go_sem],by simpa [go_sem] using gn',by simpa [go_sem] using gr',by simpa [go_sem] using ho',by simp [hal],done _ (by simp [hbin])⟩
end Go.Proofs.YtcfopdccdeeleaaGreatDoor.QC


namespace Go.Proofs.YtcfopdccdeeleaaGreatDoor.QD
open Go Go.Ev Go.Proofs Go.Proofs.YtcfopdccdeeleaaGreatDoor YM YS YF P1 P2 Y1 Y2 Y3 Y4 Y5 Y6 Y9 Y16 PA YD Q4
def atF (a:Int):List Int→Int
 | []=>a
 |x :: l=>atF (IntKind.i64.wrap (IntKind.i64.wrap (4*a)+x)) l
def zs:List AV:=List.replicate 64 (aB false)
def oneC (l:List Int):List AV:=aI l.length :: (if 0≤atF 0 l∧atF 0 l<64 then zs.set (atF 0 l).toNat (aB true) else zs)
structure SetC (c:List AV):Prop where
 len:c.length=65
 sc:∀ x,x∈c→x.one=true∧HF x
theorem SetC.one {c:List AV} (h:SetC c):∀ x,x∈c→x.one=true:=fun x hx=>(h.sc x hx).1
theorem SetC.hf {c:List AV} (h:SetC c):HF (.agg c):=HF.agg fun x hx=>(h.sc x hx).2
theorem SetC.take {c:List AV} (h:SetC c):List.take 65 c=c:=List.take_of_length_le (by rw [h.len];exact Nat.le_refl _)
theorem SetC.put {c d:List AV} (h:SetC c) (h':SetC d):putCells c 0 d=d:=by
 rw [putCells_eq _ _ _ (by rw [h.len,h'.len];exact Nat.le_refl _)]
 simp [h.len,h'.len,List.drop_of_length_le]
theorem SetC.zero:SetC (aI 0 :: zs):=⟨rfl,fun x hx=>by
 rcases List.mem_cons.1 hx with rfl | hx
 ·exact ⟨rfl,HF.sc _⟩
 ·rw [List.eq_of_mem_replicate hx];exact ⟨rfl,HF.sc _⟩⟩
theorem SetC.oneC (l:List Int):SetC (oneC l):=by
 have hz:∀ x:AV,x∈zs→x.one=true∧HF x:=fun x hx=>by rw [List.eq_of_mem_replicate hx];exact ⟨rfl,HF.sc _⟩
 unfold QD.oneC
 split
 ·refine ⟨by simp [zs],fun x hx=>?_⟩
  rcases List.mem_cons.1 hx with rfl | hx
  ·exact ⟨rfl,HF.sc _⟩
  ·rcases List.mem_or_eq_of_mem_set hx with h | rfl
   ·exact hz x h
   ·exact ⟨rfl,HF.sc _⟩
 ·refine ⟨by simp [zs],fun x hx=>?_⟩
  rcases List.mem_cons.1 hx with rfl | hx
  ·exact ⟨rfl,HF.sc _⟩
  ·exact hz x hx
theorem oneU (l:List Int) (hl:l.length≤140737488351232):SoundP Tryz.prog 76 [lI l] (.agg (oneC l)):=by
 have hset:=SetC.oneC l
 generalize hR:oneC l=R at *
 unfold oneC at hR
 refine SoundP.of_sound (Sound.of_awp Tryz.call76 Tryz.func76 rfl (Nat.le_of_ble_eq_true (by kernel_rfl)) (by kernel_rfl) (pl:={}) ?_)
 simp [go_sem]
 have hzl:zs.length=64:=rfl
 refine LoopGo.upK l.length (fun k st=>∃ a:Int,st.tm 0=lI l∧st.tm 2 = .ptr 0 0∧st.tm 3 = .ptr 1 0∧st.tm 4=aI a∧st.tm 5=aI k∧st.mu=[.arr (aI 0 :: zs),.arr (aI l.length :: zs)]∧atF a (l.drop k)=atF 0 l) ?_ ?_
 ·exact ⟨0,by simp [go_sem],by simp [go_sem],by simp [go_sem],by simp [go_sem],by simp [go_sem],by simp [go_sem,zs,List.replicate],rfl⟩
 rintro k st hk ⟨a,e0,e2,e3,e4,e5,hm,hI⟩
 by_cases hlt:k<l.length
 ·have w1:IntKind.i64.wrap ((k:Int)+1)=(k:Int)+1:=wrap_i64 (by omega) (by omega)
  rw [List.drop_eq_getElem_cons hlt] at hI
  simp [go_sem,e0,e2,e3,e4,e5,hm,hlt,w1]
  exact Keep.mk' ⟨_,by simp [go_sem,e0],by simp [go_sem,e2],by simp [go_sem,e3],by simp [go_sem],by simp [go_sem],by simp [go_sem,hm],hI⟩
 have hke:k=l.length:=by omega
 subst hke
 rw [List.drop_length] at hI
 have ha:a=atF 0 l:=hI
 rw [←ha] at hR
 have z1:∀ x:AV,(x :: zs).length=65:=fun x=>rfl
 have one1:∀ x:AV,x∈zs→x.one=true:=fun x hx=>by rw [List.eq_of_mem_replicate hx];rfl
 have tk:List.take 64 zs=zs:=rfl
 have pc:∀(x y:AV) (Z:List AV),Z.length=64→putCells (x :: zs) 0 (y :: Z)=y :: Z:=fun x y Z hZ=>by
  rw [putCells_eq _ _ _ (by simp [hZ,hzl])];simp [hZ,hzl,List.drop_of_length_le]
 by_cases h0:0≤a
 ·obtain ⟨j,rfl⟩:∃ j:Nat,a=j:=⟨a.toNat,by omega⟩
  by_cases h64:(j:Int)<64
  ·have hj:1+j≤64:=by omega
   have hst:∀ x:AV,(x :: zs).set (1+j) (AV.sc (Value.bool true))=x :: zs.set j (AV.sc (Value.bool true)):=fun x=>by rw [Nat.add_comm];rfl
   have sl:(zs.set j (AV.sc (Value.bool true))).length=64:=by simp [hzl]
   have one2:∀ x:AV,x∈zs.set j (AV.sc (Value.bool true))→x.one=true:=fun x hx=>by
    rcases List.mem_or_eq_of_mem_set hx with h | rfl
    ·exact one1 x h
    ·rfl
   have tk2:List.take 64 (zs.set j (AV.sc (Value.bool true)))=zs.set j (AV.sc (Value.bool true)):=List.take_of_length_le (by omega)
   have hR2:R=aI l.length :: zs.set j (AV.sc (Value.bool true)):=by rw [←hR,if_pos ⟨h0,h64⟩];rfl
   generalize zs.set j (AV.sc (Value.bool true))=Z at *
   simp [go_sem,e0,e2,e3,e4,e5,hm,h0,h64,hzl,hj,hst,sl,tk2,pc _ _ _ sl]
   rw [if_pos one2]
   simp [go_sem,e0,e2,e3,e4,e5,hm,sl,tk2]
   rw [hR2] at hset ⊢
   exact .hf _ hset.hf
  ·simp [go_sem,e0,e2,e3,e4,e5,hm,h0,h64,hzl,tk,pc _ _ _ hzl]
   rw [if_pos one1]
   simp [go_sem,e0,e2,e3,e4,e5,hm,hzl,tk]
   have hR2:R=aI l.length :: zs:=by rw [←hR,if_neg (by omega)]
   rw [hR2] at hset ⊢
   exact .hf _ hset.hf
 ·simp [go_sem,e0,e2,e3,e4,e5,hm,h0,hzl,tk,pc _ _ _ hzl]
  rw [if_pos one1]
  simp [go_sem,e0,e2,e3,e4,e5,hm,hzl,tk]
  have hR2:R=aI l.length :: zs:=by rw [←hR,if_neg (by omega)]
  rw [hR2] at hset ⊢
  exact .hf _ hset.hf
abbrev NS:=List AV×Nat
def stF (nm:ByteArray) (f:Fld) (s:NS):NS:=if f.name=nm then (oneC f.sorts,s.2+1) else s
def nmF (nm:ByteArray):List Fld→NS→NS
 | [],s=>s
 |f :: l,s=>nmF nm l (stF nm f s)
def st1 (nm:ByteArray) (i:Nat) (x:ByteArray×Bool) (s:NS):NS:=if x.1=nm then (oneC [(i:Int)],s.2+1) else s
def st2 (nm:ByteArray) (i:Nat) (x:ByteArray×Bool) (s:NS):NS:=if x.2=true∧x.1++sFirst=nm then (oneC [(i:Int)],s.2+1) else s
def st3 (nm:ByteArray) (i:Nat) (x:ByteArray×Bool) (s:NS):NS:=if x.2=true∧x.1++sNext=nm then (oneC [(i:Int),(i:Int)],s.2+1) else s
def nmS (nm:ByteArray):Nat→List (ByteArray×Bool)→NS→NS
 |_,[],s=>s
 |i,x :: l,s=>nmS nm (i+1) l (st3 nm i x (st2 nm i x (st1 nm i x s)))
def named (ts:TS) (nm:ByteArray):NS:=nmS nm 0 ts.sorts (nmF nm ts.fields (aI 0 :: zs,0))
theorem stF_set {nm:ByteArray} {f:Fld} {s:NS} (h:SetC s.1):SetC (stF nm f s).1:=by
 unfold stF;split
 ·exact SetC.oneC _
 ·exact h
theorem st1_set {nm:ByteArray} {i:Nat} {x:ByteArray×Bool} {s:NS} (h:SetC s.1):SetC (st1 nm i x s).1:=by
 unfold st1;split
 ·exact SetC.oneC _
 ·exact h
theorem st2_set {nm:ByteArray} {i:Nat} {x:ByteArray×Bool} {s:NS} (h:SetC s.1):SetC (st2 nm i x s).1:=by
 unfold st2;split
 ·exact SetC.oneC _
 ·exact h
theorem st3_set {nm:ByteArray} {i:Nat} {x:ByteArray×Bool} {s:NS} (h:SetC s.1):SetC (st3 nm i x s).1:=by
 unfold st3;split
 ·exact SetC.oneC _
 ·exact h
theorem st_le {nm:ByteArray} {i:Nat} {x:ByteArray×Bool} {s:NS}:(st3 nm i x (st2 nm i x (st1 nm i x s))).2≤s.2+3:=by
 have h1:(st1 nm i x s).2≤s.2+1:=by unfold st1;split<;>simp
 have h2:∀ s:NS,(st2 nm i x s).2≤s.2+1:=fun s=>by unfold st2;split<;>simp
 have h3:∀ s:NS,(st3 nm i x s).2≤s.2+1:=fun s=>by unfold st3;split<;>simp
 have:=h2 (st1 nm i x s)
 have:=h3 (st2 nm i x (st1 nm i x s))
 omega
theorem nmF_set (nm:ByteArray):∀(l:List Fld) (s:NS),SetC s.1→SetC (nmF nm l s).1
 | [],_,h=>h
 |f :: l,s,h=>nmF_set nm l _ (stF_set h)
theorem nmS_set (nm:ByteArray):∀(l:List (ByteArray×Bool)) (i:Nat) (s:NS),SetC s.1→SetC (nmS nm i l s).1
 | [],_,_,h=>h
 |x :: l,i,s,h=>nmS_set nm l _ _ (st3_set (st2_set (st1_set h)))
theorem named_set (ts:TS) (nm:ByteArray):SetC (named ts nm).1:=nmS_set nm _ _ _ (nmF_set nm _ _ SetC.zero)
theorem wk1 (i:Int):WK (.lst true [rI i]) (lI [i]):=WK.lst fun r hr c hc=>by
 rw [List.mem_singleton] at hr;subst hr
 rw [List.mem_singleton] at hc;subst hc;exact HF.sc _
theorem wk2 (i j:Int):WK (.lst true [rI i,rI j]) (lI [i,j]):=WK.lst fun r hr c hc=>by
 rcases List.mem_cons.1 hr with rfl | hr
 ·rw [List.mem_singleton] at hc;subst hc;exact HF.sc _
 ·rw [List.mem_singleton] at hr;subst hr
  rw [List.mem_singleton] at hc;subst hc;exact HF.sc _
structure okNm (ts:TS):Prop where
 so:∀ x,x∈ts.sorts→x.1.size≤4611686018427387904
 nso:ts.sorts.length≤140737488351232
 nf:ts.fields.length≤140737488351232
 fl:∀ f,f∈ts.fields→f.sorts.length≤140737488351232
theorem namedU (ts:TS) (ha:okNm ts) (nm:ByteArray):SoundP Tryz.prog 27 [eTS ts,aS nm] (.tup [.agg (named ts nm).1,aI (named ts nm).2]):=by
  generalize hR:named ts nm=R
  unfold named at hR
  refine SoundP.of_sound (Sound.of_awp Tryz.call27 Tryz.func27 rfl (Nat.le_of_ble_eq_true (by kernel_rfl)) (by kernel_rfl) (pl:={}) ?_)
  have hnf:=ha.nf
  have hzl:zs.length=64:=rfl
  have hns:=ha.nso
  simp [go_sem]
  refine LoopGo.upK ts.fields.length (fun i st=>∃ s:NS,st.tm 1=aS nm∧st.tm 2 = .ip (cTS ts)∧st.tm 4 = .ptr 0 0∧st.tm 6 = .ptr 1 0∧st.tm 7=aI s.2∧st.tm 8=aI i∧st.mu=[.arr (aI 0 :: zs),.arr s.1]∧SetC s.1∧s.2≤i∧nmS nm 0 ts.sorts (nmF nm (ts.fields.drop i) s)=R) ?_ ?_
  · exact ⟨(aI 0 :: zs,0),by simp [go_sem],by simp [go_sem],by simp [go_sem],by simp [go_sem],by simp [go_sem],by simp [go_sem],by simp [go_sem,zs,List.replicate],SetC.zero,by simp,by simpa using hR⟩
  clear hR
  rintro i st hi ⟨⟨c,k⟩,e1,e2,e4,e6,e7,e8,hm,hc,hk,hI⟩
  have hk:k≤i:=hk
  have hc:SetC c:=hc
  by_cases hlt:i<ts.fields.length
  · have w1:IntKind.i64.wrap ((i:Int)+1)=(i:Int)+1:=wrap_i64 (by omega) (by omega)
    have w2:IntKind.i64.wrap ((k:Int)+1)=(k:Int)+1:=wrap_i64 (by omega) (by omega)
    rw [List.drop_eq_getElem_cons hlt] at hI
    have ho:=oneU ts.fields[i].sorts (ha.fl _ (List.getElem_mem hlt))
    have hco:=SetC.oneC ts.fields[i].sorts
    by_cases hq:ts.fields[i].name=nm
    · simp [go_sem,e1,e2,e4,e6,e7,e8,hm,hlt,hq]
      refine CallStep.pure ho (.cons (.hf (hf_lI _)) .nil) ?_
      simp [go_sem,e1,e2,e4,e6,e7,e8,hm,hlt,hco.len,hc.len,hc.put hco]
      rw [if_pos hco.one]
      simp [go_sem,e1,e2,e4,e6,e7,e8,hm,hlt,hco.len,hc.put hco,w1,w2]
      exact Keep.mk' ⟨(oneC ts.fields[i].sorts,k+1),by simp [go_sem,e1],by simp [go_sem,e2],by simp [go_sem,e4],by simp [go_sem,e6],by simp [go_sem],by simp [go_sem],by simp [go_sem],hco,by show k+1≤i+1;omega,by rw [←hI];simp [nmF,stF,hq]⟩
    · simp [go_sem,e1,e2,e4,e6,e7,e8,hm,hlt,str_ne hq,w1]
      exact Keep.mk' ⟨(c,k),by simp [go_sem,e1],by simp [go_sem,e2],by simp [go_sem,e4],by simp [go_sem,e6],by simp [go_sem,e7],by simp [go_sem],by simp [go_sem,hm],hc,by show k≤i+1;omega,by rw [←hI];simp [nmF,stF,hq]⟩
  have hie:i=ts.fields.length:=by omega
  subst hie
  rw [List.drop_length] at hI
  simp only [nmF] at hI
  simp [go_sem,e1,e2,e4,e6,e7,e8,hm,hlt]
  refine LoopGo.upK ts.sorts.length (fun i st=>∃ s:NS,st.tm 1=aS nm∧st.tm 2 = .ip (cTS ts)∧st.tm 4 = .ptr 0 0∧st.tm 6 = .ptr 1 0∧st.tm 7=aI s.2∧st.tm 9=aI i∧st.mu=[.arr (aI 0 :: zs),.arr s.1]∧SetC s.1∧s.2≤ts.fields.length+3*i∧nmS nm i (ts.sorts.drop i) s=R) ?_ ?_
  · exact ⟨(c,k),by simp [go_sem,e1],by simp [go_sem,e2],by simp [go_sem,e4],by simp [go_sem,e6],by simp [go_sem,e7],by simp [go_sem],by simp [go_sem,hm],hc,by show k≤_;omega,by simpa using hI⟩
  clear e1 e2 e4 e6 e7 e8 hm hc hk hI hlt
  rintro i st hi ⟨⟨c,k⟩,e1,e2,e4,e6,e7,e9,hm,hc,hk,hI⟩
  have hk:k≤ts.fields.length+3*i:=hk
  have hc:SetC c:=hc
  by_cases hlt:i<ts.sorts.length
  · have w1:IntKind.i64.wrap ((i:Int)+1)=(i:Int)+1:=wrap_i64 (by omega) (by omega)
    have w2:IntKind.i64.wrap ((k:Int)+1)=(k:Int)+1:=wrap_i64 (by omega) (by omega)
    have w3:IntKind.i64.wrap ((k:Int)+1+1)=(k:Int)+1+1:=wrap_i64 (by omega) (by omega)
    have w4:IntKind.i64.wrap ((k:Int)+1+1+1)=(k:Int)+1+1+1:=wrap_i64 (by omega) (by omega)
    rw [List.drop_eq_getElem_cons hlt] at hI
    simp only [nmS] at hI
    have ho1:=oneU [(i:Int)] (by simp)
    have ho2:=oneU [(i:Int),(i:Int)] (by simp)
    have hc1:=SetC.oneC [(i:Int)]
    have hc2:=SetC.oneC [(i:Int),(i:Int)]
    have p01:=hc.put hc1
    have p02:=hc.put hc2
    have p11:=hc1.put hc1
    have p12:=hc1.put hc2
    have l1:=hc1.len
    have l2:=hc2.len
    have l0:=hc.len
    have hle:=st_le (nm:=nm) (i:=i) (x:=ts.sorts[i]) (s:=(c,k))
    have hst:=st3_set (nm:=nm) (i:=i) (x:=ts.sorts[i]) (st2_set (nm:=nm) (i:=i) (x:=ts.sorts[i]) (st1_set (nm:=nm) (i:=i) (x:=ts.sorts[i]) (s:=(c,k)) hc))
    have hsz:=ha.so _ (List.getElem_mem hlt)
    have hsz:ts.sorts[i].1.size≤4611686018427387904:=hsz
    generalize hso:ts.sorts[i]=so at *
    obtain ⟨sn,sb⟩:=so
    have hs1:sn.size≤9223372036854775801:=by simp at hsz;omega
    have hs2:sn.size≤9223372036854775802:=by simp at hsz;omega
    generalize hN:st3 nm i (sn,sb) (st2 nm i (sn,sb) (st1 nm i (sn,sb) (c,k)))=N at *
    have hfs:(sn++sFirst=nm)=(sn++(⟨#[95,102,105,114,115,116]⟩:ByteArray)=nm):=rfl
    have hxs:(sn++sNext=nm)=(sn++(⟨#[95,110,101,120,116]⟩:ByteArray)=nm):=rfl
    simp only [st1,st2,st3,hfs,hxs] at hN
    obtain ⟨d1,hd1⟩:∃ d,decide (sn=nm)=d:=⟨_,rfl⟩
    obtain ⟨d2,hd2⟩:∃ d,decide (sn++(⟨#[95,102,105,114,115,116]⟩:ByteArray)=nm)=d:=⟨_,rfl⟩
    obtain ⟨d3,hd3⟩:∃ d,decide (sn++(⟨#[95,110,101,120,116]⟩:ByteArray)=nm)=d:=⟨_,rfl⟩
    have p1:(sn=nm)=(d1=true):=by rw [←hd1];simp
    have p2:(sn++(⟨#[95,102,105,114,115,116]⟩:ByteArray)=nm)=(d2=true):=by rw [←hd2];simp
    have p3:(sn++(⟨#[95,110,101,120,116]⟩:ByteArray)=nm)=(d3=true):=by rw [←hd3];simp
    simp only [p1,p2,p3] at hN
    have done:∀ st':St,st'.tm 1=aS nm→st'.tm 2 = .ip (cTS ts)→st'.tm 4 = .ptr 0 0→st'.tm 6 = .ptr 1 0→st'.tm 7=aI N.2→st'.tm 9=aI (i+1:Nat)→st'.mu=[.arr (aI 0 :: zs),.arr N.1] →
        Keep (fun st=>∃ s:NS,st.tm 1=aS nm∧st.tm 2 = .ip (cTS ts)∧st.tm 4 = .ptr 0 0∧st.tm 6 = .ptr 1 0∧st.tm 7=aI s.2∧st.tm 9=aI (i+1:Nat)∧st.mu=[.arr (aI 0 :: zs),.arr s.1]∧SetC s.1∧s.2≤ts.fields.length+3*(i+1)∧nmS nm (i+1) (ts.sorts.drop (i+1)) s=R) .mk st':=
      fun st' a1 a2 a3 a4 a5 a6 a7=>Keep.mk' ⟨N,a1,a2,a3,a4,a5,a6,a7,hst,by have:N.2≤k+3:=hle;omega,hI⟩
    cases d1<;>cases d2<;>cases d3<;>cases sb
    all_goals simp only [if_true,if_false,and_false,and_true,false_and,true_and,reduceCtorEq] at hN
    all_goals simp [go_sem,Y10.toL_eq,e1,e2,e4,e6,e7,e9,hm,hlt,hso,hd1,hd2,hd3,w1,w2,w3,w4,hs1,hs2]
    all_goals repeat' (first
      | (refine CallStep.pure ho1 (.cons (wk1 _) .nil) ?_
         simp [go_sem,e1,e2,e4,e6,e7,e9,hm,hlt,hso,p01,p11,l0,l1]
         rw [if_pos hc1.one]
         simp [go_sem,Y10.toL_eq,e1,e2,e4,e6,e7,e9,hm,hlt,hso,hd1,hd2,hd3,w1,w2,w3,w4,hs1,hs2])
      | (refine CallStep.pure ho2 (.cons (wk2 _ _) .nil) ?_
         simp [go_sem,e1,e2,e4,e6,e7,e9,hm,hlt,hso,p02,p12,l0,l1,l2]
         rw [if_pos hc2.one]
         simp [go_sem,Y10.toL_eq,e1,e2,e4,e6,e7,e9,hm,hlt,hso,hd1,hd2,hd3,w1,w2,w3,w4,hs1,hs2]))
    all_goals try subst hN
    all_goals try exact done _ (by simp [go_sem,e1]) (by simp [go_sem,e2]) (by simp [go_sem,e4]) (by simp [go_sem,e6]) (by simp [go_sem,e7]) (by simp [go_sem]) (by simp [go_sem,hm])
  have hie:i=ts.sorts.length:=by omega
  subst hie
  rw [List.drop_length] at hI
  simp only [nmS] at hI
  subst hI
  simp [go_sem,e1,e2,e4,e6,e7,e9,hm,hc.len,hc.take,SetC.zero.put hc,SetC.zero.len,hzl]
  rw [if_pos hc.one]
  simp [go_sem,e1,e2,e4,e6,e7,e9,hm,hc.len,hc.take,SetC.zero.put hc]
  refine .hf _ (HF.tup fun x hx=>?_)
  rcases List.mem_cons.1 hx with rfl | hx
  · exact hc.hf
  · rw [List.mem_singleton] at hx;subst hx;exact HF.sc _
end Go.Proofs.YtcfopdccdeeleaaGreatDoor.QD


namespace Go.Proofs.YtcfopdccdeeleaaGreatDoor.QE
open Go Go.Ev Go.Proofs Go.Proofs.YtcfopdccdeeleaaGreatDoor YM YS YF P1 P2 Y1 Y2 Y3 Y4 Y5 Y6 Y9 Y16 PA YD Q4 QD
abbrev RS:=Int×(Nat→Bool)
def hB (g:Nat→Bool):List AV:=(List.range 64).map fun i=>aB (g i)
abbrev cRS (s:RS):List AV:=aI s.1 :: hB s.2
abbrev eRS (s:RS):AV := .agg (cRS s)
theorem hB_len (g:Nat→Bool):(hB g).length=64:=by simp [hB]
theorem hB_set (g:Nat→Bool) (i:Nat) (v:Bool):(hB g).set i (aB v)=hB fun j=>if j=i then v else g j:=by
 refine List.ext_getElem (by simp [hB]) fun j h1 h2=>?_
 rw [List.getElem_set]
 simp only [hB,List.getElem_map,List.getElem_range]
 by_cases h:i=j
 ·rw [if_pos h,if_pos h.symm]
 ·rw [if_neg h,if_neg (fun e=>h e.symm)]
theorem hB_get (g:Nat→Bool) (i:Nat) (h:i<64):(hB g)[i]?=some (aB (g i)):=by
 simp [hB,h]
theorem hB_congr {g g':Nat→Bool} (h:∀ j,j<64→g j=g' j):hB g=hB g':=by
 refine List.map_congr_left fun j hj=>?_
 rw [h j (List.mem_range.1 hj)]
theorem setC (s:RS):SetC (cRS s):=⟨by simp [hB],fun x hx=>by
 rcases List.mem_cons.1 hx with rfl | hx
 ·exact ⟨rfl,HF.sc _⟩
 ·obtain ⟨j,_,rfl⟩:=List.mem_map.1 hx
  exact ⟨rfl,HF.sc _⟩⟩
theorem hf_eRS (s:RS):HF (eRS s):=(setC s).hf
theorem hB_zero:hB (fun _=>false)=zs:=rfl
def oneS (l:List Int):RS:=(l.length,fun j=>decide ((j:Int)=atF 0 l))
theorem oneS_eq (l:List Int):oneC l=cRS (oneS l):=by
 unfold oneC oneS
 simp only [cRS]
 split
 ·rename_i h
  have e:aB true=aB true:=rfl
  rw [←hB_zero,hB_set]
  congr 1
  refine hB_congr fun j hj=>?_
  by_cases hq:j=(atF 0 l).toNat
  ·rw [if_pos hq];exact (decide_eq_true (by omega)).symm
  ·rw [if_neg hq];exact (decide_eq_false (by omega)).symm
 ·rename_i h
  rw [←hB_zero]
  congr 1
  refine hB_congr fun j hj=>?_
  exact (decide_eq_false (by omega)).symm
def szA (k:Int):Nat:=if k<1 then 1 else if k=1 then 4 else if k=2 then 16 else 64
theorem szA_le (k:Int):szA k≤64∧1≤szA k:=by unfold szA;split<;>(try split)<;>(try split)<;>omega
theorem sizeU (k:Int):SoundP Tryz.prog 99 [aI k] (aI (szA k)):=by
 refine SoundP.of_sound (Sound.of_awp Tryz.call99 Tryz.func99 rfl (Nat.le_of_ble_eq_true (by kernel_rfl)) (by kernel_rfl) (pl:={}) ?_)
 unfold szA
 by_cases h1:k<1
 ·simp [go_sem,h1];exact .hf _ (HF.sc _)
 by_cases h2:k=1
 ·simp [go_sem,h2];exact .hf _ (HF.sc _)
 by_cases h3:k=2
 ·simp [go_sem,h3];exact .hf _ (HF.sc _)
 simp [go_sem,h1,h2,h3];exact .hf _ (HF.sc _)
def uniS (a b:RS):RS:=(a.1,fun j=>a.2 j||b.2 j)
def intS (a b:RS):RS:=(a.1,fun j=>a.2 j&&b.2 j)
theorem g1 (x:AV) (g:Nat→Bool) (i:Nat) (h:i<64):(x :: hB g)[1+i]?=some (aB (g i)):=by
 rw [Nat.add_comm,List.getElem?_cons_succ,hB_get g i h]
theorem d1 (x:AV) (g:Nat→Bool) (i:Nat) (h:i<64):List.take 1 (List.drop (1+i) (x :: hB g))=[aB (g i)]:=by
 rw [Nat.add_comm,List.drop_succ_cons,List.drop_eq_getElem_cons (by rw [hB_len];exact h)]
 simp [hB]
theorem d0 (g:Nat→Bool) (i:Nat) (h:i<64):List.take 1 (List.drop i (hB g))=[aB (g i)]:=by
 rw [List.drop_eq_getElem_cons (by rw [hB_len];exact h)]
 simp [hB]
theorem s1 (x:AV) (g:Nat→Bool) (i:Nat) (v:Bool):(x :: hB g).set (1+i) (aB v)=x :: hB fun j=>if j=i then v else g j:=by
 rw [Nat.add_comm,List.set_cons_succ,hB_set]
theorem hB_one (g:Nat→Bool):∀ x:AV,x∈hB g→x.one=true:=fun x hx=>by
 obtain ⟨j,_,rfl⟩:=List.mem_map.1 hx
 rfl
theorem tk (g:Nat→Bool):List.take 64 (hB g)=hB g:=List.take_of_length_le (by rw [hB_len];exact Nat.le_refl _)
theorem pc (x y:AV) (g g':Nat→Bool):putCells (x :: hB g) 0 (y :: hB g')=y :: hB g':=by
 rw [putCells_eq _ _ _ (by simp [hB_len])];simp [hB_len,List.drop_of_length_le]
theorem unionU (a b:RS):SoundP Tryz.prog 148 [eRS a,eRS b] (eRS (uniS a b)):=by
 refine SoundP.of_sound (Sound.of_awp Tryz.call148 Tryz.func148 rfl (Nat.le_of_ble_eq_true (by kernel_rfl)) (by kernel_rfl) (pl:={ mt:=[2] }) ?_)
 simp [go_sem,hB_len]
 refine ⟨hB_one _,hB_one _,?_⟩
 refine LoopGo.upK 64 (fun i st=>st.tm 2 = .ptr 0 0∧st.tm 3 = .ip (cRS b)∧st.tm 4 = .ptr 1 0∧st.tm 5=aI i∧st.mu=[.arr (aI a.1 :: hB (fun j=>if j<i then a.2 j||b.2 j else a.2 j)),.arr (aI 0 :: hB fun _=>false)]) ?_ ?_
 ·exact ⟨by simp [go_sem],by simp [go_sem],by simp [go_sem],by simp [go_sem],by simp [go_sem];rfl⟩
 rintro i st hi ⟨e2,e3,e4,e5,hm⟩
 by_cases hlt:i<64
 ·have hlt':(i:Int)<64:=by omega
  have hi1:1+i≤64:=by omega
  have w1:IntKind.i64.wrap ((i:Int)+1)=(i:Int)+1:=wrap_i64 (by omega) (by omega)
  generalize hG:(fun j=>if j<i then a.2 j||b.2 j else a.2 j)=G at *
  have hGi:G i=a.2 i:=by rw [←hG];simp
  have hnext:∀ v:Bool,v=(a.2 i||b.2 i)→(aI a.1 :: hB G).set (1+i) (aB v)=aI a.1 :: hB (fun j=>if j<i+1 then a.2 j||b.2 j else a.2 j):=fun v hv=>by
   rw [s1]
   congr 2
   funext j
   rw [←hG,hv]
   by_cases h1:j=i
   ·subst h1;simp
   ·by_cases h2:j<i
    ·simp [h1,h2,show j<i+1 by omega]
    ·simp [h1,h2,show ¬j<i+1 by omega]
  have m1:=d1 (aI a.1) G i hlt
  have m2:=d0 b.2 i hlt
  have hi2:1≤64-i:=by omega
  rw [hGi] at m1
  cases ha:a.2 i with
  |true =>
   rw [ha] at m1 hnext
   have hn:=hnext true (by simp)
   simp [go_sem,e2,e3,e4,e5,hm,hlt,hlt',hi1,hi2,hB_len,m1,m2,hn,w1]
   exact Keep.mk' ⟨by simp [go_sem,e2],by simp [go_sem,e3],by simp [go_sem,e4],by simp [go_sem],by simp [go_sem]⟩
  |false =>
   rw [ha] at m1 hnext
   have hn:=hnext (b.2 i) (by simp)
   simp [go_sem,e2,e3,e4,e5,hm,hlt,hlt',hi1,hi2,hB_len,m1,m2,hn,w1]
   exact Keep.mk' ⟨by simp [go_sem,e2],by simp [go_sem,e3],by simp [go_sem,e4],by simp [go_sem],by simp [go_sem]⟩
 ·have hie:i=64:=by omega
  subst hie
  simp [go_sem,e2,e3,e4,e5,hm,hB_len,tk,pc]
  rw [if_pos (hB_one _)]
  simp [go_sem,e2,e3,e4,e5,hm,hB_len,tk,pc]
  have e:(aI a.1 :: hB fun j=>if j<64 then a.2 j||b.2 j else a.2 j)=cRS (uniS a b):=by
   exact congrArg (aI a.1 :: ·) (hB_congr fun j hj=>if_pos hj)
  rw [e]
  exact .hf _ (hf_eRS _)
theorem interU (a b:RS):SoundP Tryz.prog 149 [eRS a,eRS b] (eRS (intS a b)):=by
 refine SoundP.of_sound (Sound.of_awp Tryz.call149 Tryz.func149 rfl (Nat.le_of_ble_eq_true (by kernel_rfl)) (by kernel_rfl) (pl:={ mt:=[2] }) ?_)
 simp [go_sem,hB_len]
 refine ⟨hB_one _,hB_one _,?_⟩
 refine LoopGo.upK 64 (fun i st=>st.tm 2 = .ptr 0 0∧st.tm 3 = .ip (cRS b)∧st.tm 4 = .ptr 1 0∧st.tm 5=aI i∧st.mu=[.arr (aI a.1 :: hB (fun j=>if j<i then a.2 j&&b.2 j else a.2 j)),.arr (aI 0 :: hB fun _=>false)]) ?_ ?_
 ·exact ⟨by simp [go_sem],by simp [go_sem],by simp [go_sem],by simp [go_sem],by simp [go_sem];rfl⟩
 rintro i st hi ⟨e2,e3,e4,e5,hm⟩
 by_cases hlt:i<64
 ·have hlt':(i:Int)<64:=by omega
  have hi1:1+i≤64:=by omega
  have w1:IntKind.i64.wrap ((i:Int)+1)=(i:Int)+1:=wrap_i64 (by omega) (by omega)
  generalize hG:(fun j=>if j<i then a.2 j&&b.2 j else a.2 j)=G at *
  have hGi:G i=a.2 i:=by rw [←hG];simp
  have hnext:∀ v:Bool,v=(a.2 i&&b.2 i)→(aI a.1 :: hB G).set (1+i) (aB v)=aI a.1 :: hB (fun j=>if j<i+1 then a.2 j&&b.2 j else a.2 j):=fun v hv=>by
   rw [s1]
   congr 2
   funext j
   rw [←hG,hv]
   by_cases h1:j=i
   ·subst h1;simp
   ·by_cases h2:j<i
    ·simp [h1,h2,show j<i+1 by omega]
    ·simp [h1,h2,show ¬j<i+1 by omega]
  have m1:=d1 (aI a.1) G i hlt
  have m2:=d0 b.2 i hlt
  have hi2:1≤64-i:=by omega
  rw [hGi] at m1
  cases ha:a.2 i with
  |false =>
   rw [ha] at m1 hnext
   have hn:=hnext false (by simp)
   simp [go_sem,e2,e3,e4,e5,hm,hlt,hlt',hi1,hi2,hB_len,m1,m2,hn,w1]
   exact Keep.mk' ⟨by simp [go_sem,e2],by simp [go_sem,e3],by simp [go_sem,e4],by simp [go_sem],by simp [go_sem]⟩
  |true =>
   rw [ha] at m1 hnext
   have hn:=hnext (b.2 i) (by simp)
   simp [go_sem,e2,e3,e4,e5,hm,hlt,hlt',hi1,hi2,hB_len,m1,m2,hn,w1]
   exact Keep.mk' ⟨by simp [go_sem,e2],by simp [go_sem,e3],by simp [go_sem,e4],by simp [go_sem],by simp [go_sem]⟩
 ·have hie:i=64:=by omega
  subst hie
  simp [go_sem,e2,e3,e4,e5,hm,hB_len,tk,pc]
  rw [if_pos (hB_one _)]
  simp [go_sem,e2,e3,e4,e5,hm,hB_len,tk,pc]
  have e:(aI a.1 :: hB fun j=>if j<64 then a.2 j&&b.2 j else a.2 j)=cRS (intS a b):=by
   exact congrArg (aI a.1 :: ·) (hB_congr fun j hj=>if_pos hj)
  rw [e]
  exact .hf _ (hf_eRS _)
def trS (a:RS):RS:=(2,fun j=>decide (j<16)&&a.2 (j % 4*4+j / 4))
theorem transposeU (a:RS):SoundP Tryz.prog 152 [eRS a] (eRS (trS a)):=by
 refine SoundP.of_sound (Sound.of_awp Tryz.call152 Tryz.func152 rfl (Nat.le_of_ble_eq_true (by kernel_rfl)) (by kernel_rfl) (pl:={}) ?_)
 simp [go_sem,hB_len]
 refine ⟨hB_one _,?_⟩
 refine LoopGo.upK 16 (fun i st=>st.tm 1 = .ip (cRS a)∧st.tm 2 = .ptr 0 0∧st.tm 3 = .ptr 1 0∧st.tm 4=aI i∧st.mu=[.arr (aI 0 :: hB fun _=>false),.arr (aI 2 :: hB (fun j=>decide (j<16∧j % 4*4+j / 4<i)&&a.2 (j % 4*4+j / 4)))]) ?_ ?_
 ·exact ⟨by simp [go_sem],by simp [go_sem],by simp [go_sem],by simp [go_sem],by simp [go_sem];first | rfl | exact ⟨rfl,rfl⟩⟩
 rintro i st hi ⟨e1,e2,e3,e4,hm⟩
 by_cases hlt:i<16
 ·have hlt':(i:Int)<16:=by omega
  have w1:IntKind.i64.wrap ((i:Int)+1)=(i:Int)+1:=wrap_i64 (by omega) (by omega)
  obtain ⟨q,hq⟩:∃ q:Nat,q=i % 4*4+i / 4:=⟨_,rfl⟩
  have q16:q<16:=by omega
  have w2:IntKind.i64.wrap ((i:Int).tmod 4)=((i % 4:Nat):Int):=by
   rw [Int.tmod_eq_emod_of_nonneg (by omega)];rw [wrap_i64 (by omega) (by omega)];omega
  have w3:IntKind.i64.wrap (IntKind.i64.wrap ((i:Int).tmod 4*4)+IntKind.i64.wrap ((i:Int) / 4))=(q:Int):=by
   have x1:IntKind.i64.wrap ((i:Int) % 4*4)=(i:Int) % 4*4:=wrap_i64 (by omega) (by omega)
   have x2:IntKind.i64.wrap ((i:Int) / 4)=(i:Int) / 4:=wrap_i64 (by omega) (by omega)
   rw [Int.tmod_eq_emod_of_nonneg (by omega),x1,x2,wrap_i64 (by omega) (by omega)];omega
  generalize hG:(fun j=>decide (j<16∧j % 4*4+j / 4<i)&&a.2 (j % 4*4+j / 4))=G at *
  have hnext:(aI 2 :: hB G).set (1+q) (aB (a.2 i))=aI 2 :: hB (fun j=>decide (j<16∧j % 4*4+j / 4<i+1)&&a.2 (j % 4*4+j / 4)):=by
   rw [s1]
   refine congrArg (aI 2 :: ·) (hB_congr fun j hj=>?_)
   rw [←hG]
   by_cases h1:j=q
   ·have h2:j % 4*4+j / 4=i:=by omega
    rw [if_pos h1,h2,decide_eq_true ⟨by omega,by omega⟩];rfl
   ·have h2:¬(j<16∧j % 4*4+j / 4=i):=fun h=>h1 (by omega)
    rw [if_neg h1]
    have h3:(j<16∧j % 4*4+j / 4<i+1)=(j<16∧j % 4*4+j / 4<i):=propext ⟨fun h=>⟨h.1,by omega⟩,fun h=>⟨h.1,by omega⟩⟩
    rw [show decide (j<16∧j % 4*4+j / 4<i+1)=decide (j<16∧j % 4*4+j / 4<i) from decide_eq_decide.2 (by rw [h3])]
  have m2:=d0 a.2 i (by omega)
  have h64:(i:Int)<64:=by omega
  have hi2:1≤64-i:=by omega
  simp [go_sem,e1,e2,e3,e4,hm,hlt,hlt',h64,hi2,m2,hB_len,w1,w3,show (q:Int)<64 by omega,show 1+q≤64 by omega,hnext]
  exact Keep.mk' ⟨by simp [go_sem,e1],by simp [go_sem,e2],by simp [go_sem,e3],by simp [go_sem],by simp [go_sem]⟩
 ·have hie:i=16:=by omega
  subst hie
  have e:hB (fun j=>decide (j<16∧j % 4*4+j / 4<16)&&a.2 (j % 4*4+j / 4))=hB (trS a).2:=by
   refine hB_congr fun j hj=>?_
   rw [show decide (j<16∧j % 4*4+j / 4<16)=decide (j<16) from decide_eq_decide.2 ⟨fun h=>h.1,fun h=>⟨h,by omega⟩⟩]
   rfl
  rw [e] at hm
  have hT:eRS (trS a) = .agg (aI 2 :: hB (trS a).2):=rfl
  rw [hT]
  generalize (trS a).2=T at *
  simp [go_sem,e1,e2,e3,e4,hm,hB_len,tk,pc]
  rw [if_pos (hB_one _)]
  simp [go_sem,e1,e2,e3,e4,hm,hB_len,tk,pc]
  exact .hf _ (hf_eRS (2,T))
def prodF (a b:RS) (j:Nat):Bool:=a.2 (j / szA b.1)&&b.2 (j % szA b.1)
def prodS (a b:RS):RS:=(a.1+b.1,fun j=>decide (j<szA a.1*szA b.1)&&prodF a b j)
theorem lt_step (f:Nat→Bool) (p:Nat) (v:Bool) (hv:v=f p):∀ j,(if j=p then v else decide (j<p)&&f j)=(decide (j<p+1)&&f j):=fun j=>by
 by_cases h1:j=p
 ·subst h1;simp [hv]
 ·rw [if_neg h1,show decide (j<p+1)=decide (j<p) from decide_eq_decide.2 (by omega)]
theorem productU (a b:RS) (ha:0≤a.1∧a.1≤1000) (hb:0≤b.1∧b.1≤1000):SoundP Tryz.prog 151 [eRS a,eRS b] (eRS (prodS a b)):=by
 refine SoundP.of_sound (Sound.of_awp Tryz.call151 Tryz.func151 rfl (Nat.le_of_ble_eq_true (by kernel_rfl)) (by kernel_rfl) (pl:={}) ?_)
 have w0:IntKind.i64.wrap (a.1+b.1)=a.1+b.1:=wrap_i64 (by omega) (by omega)
 have hsa:=szA_le a.1
 have hsb:=szA_le b.1
 have ca:=sizeU a.1
 have cb:=sizeU b.1
 have hf:∀ j,prodF a b j=(a.2 (j / szA b.1)&&b.2 (j % szA b.1)):=fun _=>rfl
 simp [go_sem,hB_len]
 refine ⟨hB_one _,hB_one _,?_⟩
 simp [go_sem,hB_len,w0]
 refine CallStep.pure cb (.cons (.hf (HF.sc _)) .nil) ?_
 generalize hE:prodS a b=E
 have hE1:E=(a.1+b.1,fun j=>decide (j<szA a.1*szA b.1)&&prodF a b j):=hE.symm
 clear hE
 generalize prodF a b=F at *
 generalize szA a.1=sa at *
 generalize szA b.1=n at *
 simp [go_sem,hB_len,w0]
 refine LoopGo.upK sa (fun i st=>st.tm 2 = .ip (cRS a)∧st.tm 3 = .ip (cRS b)∧st.tm 4 = .ptr 0 0∧st.tm 5 = .ptr 1 0∧st.tm 6=aI n∧st.tm 7=aI i∧st.mu=[.arr (aI 0 :: hB fun _=>false),.arr (aI (a.1+b.1) :: hB (fun j=>decide (j<i*n)&&F j))]) ?_ ?_
 ·exact ⟨by simp [go_sem],by simp [go_sem],by simp [go_sem],by simp [go_sem],by simp [go_sem],by simp [go_sem],by simp [go_sem];first | rfl | exact ⟨rfl,rfl⟩⟩
 rintro i st hi ⟨e2,e3,e4,e5,e6,e7,hm⟩
 simp [go_sem,e2,e3,e4,e5,e6,e7,hm]
 refine CallStep.pure ca (.cons (.hf (HF.sc _)) .nil) ?_
 by_cases hlt:i<sa
 ·have w1:IntKind.i64.wrap ((i:Int)+1)=(i:Int)+1:=wrap_i64 (by omega) (by omega)
  simp [go_sem,e2,e3,e4,e5,e6,e7,hm,hlt]
  refine LoopGo.upK n (fun k st=>st.tm 2 = .ip (cRS a)∧st.tm 3 = .ip (cRS b)∧st.tm 4 = .ptr 0 0∧st.tm 5 = .ptr 1 0∧st.tm 6=aI n∧st.tm 7=aI i∧st.tm 8=aI k∧st.mu=[.arr (aI 0 :: hB fun _=>false),.arr (aI (a.1+b.1) :: hB (fun j=>decide (j<i*n+k)&&F j))]) ?_ ?_
  ·exact ⟨by simp [go_sem,e2],by simp [go_sem,e3],by simp [go_sem,e4],by simp [go_sem,e5],by simp [go_sem,e6],by simp [go_sem,e7],by simp [go_sem],by simp [go_sem,hm]⟩
  clear e2 e3 e4 e5 e6 e7 hm
  rintro k st hk ⟨e2,e3,e4,e5,e6,e7,e8,hm⟩
  by_cases hkl:k<n
  ·have w2:IntKind.i64.wrap ((k:Int)+1)=(k:Int)+1:=wrap_i64 (by omega) (by omega)
   obtain ⟨p,hp⟩:∃ p:Nat,p=i*n+k:=⟨_,rfl⟩
   have hpi:((i:Int)*n+k)=(p:Int):=by rw [hp];push_cast;rfl
   have hin:i*n≤63*64:=Nat.mul_le_mul (by omega) (by omega)
   have w3:IntKind.i64.wrap ((i:Int)*n)=(i:Int)*n:=by
    have:((i*n:Nat):Int)=(i:Int)*n:=by push_cast;rfl
    rw [←this];exact wrap_i64 (by omega) (by omega)
   have w4:IntKind.i64.wrap (p:Int)=(p:Int):=wrap_i64 (by omega) (by omega)
   have hFp:F p=(a.2 i&&b.2 k):=by
    rw [hf,hp,Nat.add_comm,Nat.add_mul_div_right _ _ (by omega),Nat.add_mul_mod_self_right,Nat.div_eq_of_lt hkl,Nat.mod_eq_of_lt hkl,Nat.zero_add]
   have m1:=d0 a.2 i (by omega)
   have m2:=d0 b.2 k (by omega)
   have hi2:1≤64-i:=by omega
   have hk2:1≤64-k:=by omega
   have hi3:(i:Int)<64:=by omega
   have hk3:(k:Int)<64:=by omega
   have hq:∀ x:AV,(x :: hB (fun j=>decide (j<p)&&F j)).set (1+p) (aB true)=x :: hB (fun j=>if j=p then true else decide (j<p)&&F j):=fun x=>s1 x _ p true
   rw [←hp] at hm
   have hgo:F p=true→(fun j=>if j=p then true else decide (j<p)&&F j)=(fun j=>decide (j<p+1)&&F j):=fun h=>funext (lt_step F p true h.symm)
   have hq2:F p=true→∀ x:AV,(x :: hB (fun j=>decide (j<p)&&F j)).set (1+p) (AV.sc (Value.bool true))=x :: hB (fun j=>decide (j<p+1)&&F j):=fun h x=>by rw [←hgo h];exact hq x
   have hst:(F p=false∨64≤p)→hB (fun j=>decide (j<p)&&F j)=hB (fun j=>decide (j<p+1)&&F j):=fun h=>hB_congr fun j hj=>by
    by_cases h1:j=p
    ·rcases h with h | h
     ·rw [h1,h];simp
     ·omega
    ·rw [show decide (j<p+1)=decide (j<p) from decide_eq_decide.2 (by omega)]
   have done:∀ st':St,st'.tm 2 = .ip (cRS a)→st'.tm 3 = .ip (cRS b)→st'.tm 4 = .ptr 0 0→st'.tm 5 = .ptr 1 0→st'.tm 6=aI n→st'.tm 7=aI i→st'.tm 8=aI (k+1:Nat)→st'.mu=[.arr (aI 0 :: hB fun _=>false),.arr (aI (a.1+b.1) :: hB (fun j=>decide (j<p+1)&&F j))]→Keep (fun st=>st.tm 2 = .ip (cRS a)∧st.tm 3 = .ip (cRS b)∧st.tm 4 = .ptr 0 0∧st.tm 5 = .ptr 1 0∧st.tm 6=aI n∧st.tm 7=aI i∧st.tm 8=aI (k+1:Nat)∧st.mu=[.arr (aI 0 :: hB fun _=>false),.arr (aI (a.1+b.1) :: hB (fun j=>decide (j<i*n+(k+1))&&F j))]) .mk st':=
    fun st' b1 b2 b3 b4 b5 b6 b7 b8=>Keep.mk' ⟨b1,b2,b3,b4,b5,b6,b7,by rw [b8,hp];rfl⟩
   cases hai:a.2 i with
   |false =>
    rw [hai] at m1
    simp [go_sem,e2,e3,e4,e5,e6,e7,e8,hm,hkl,hB_len,m1,m2,hi2,hk2,hi3,hk3,w2]
    exact done _ (by simp [go_sem,e2]) (by simp [go_sem,e3]) (by simp [go_sem,e4]) (by simp [go_sem,e5]) (by simp [go_sem,e6]) (by simp [go_sem,e7]) (by simp [go_sem]) (by simp [go_sem,hst (.inl (by rw [hFp,hai];rfl))])
   |true =>
    rw [hai] at m1
    cases hbk:b.2 k with
    |false =>
     rw [hbk] at m2
     simp [go_sem,e2,e3,e4,e5,e6,e7,e8,hm,hkl,hB_len,m1,m2,hi2,hk2,hi3,hk3,w2]
     exact done _ (by simp [go_sem,e2]) (by simp [go_sem,e3]) (by simp [go_sem,e4]) (by simp [go_sem,e5]) (by simp [go_sem,e6]) (by simp [go_sem,e7]) (by simp [go_sem]) (by simp [go_sem,hst (.inl (by rw [hFp,hai,hbk];rfl))])
    |true =>
     rw [hbk] at m2
     by_cases h64:(p:Int)<64
     ·simp [go_sem,e2,e3,e4,e5,e6,e7,e8,hm,hkl,hB_len,m1,m2,hi2,hk2,hi3,hk3,w2,w3,hpi,w4,h64,show 1+p≤64 by omega,hq2 (by rw [hFp,hai,hbk];rfl)]
      exact done _ (by simp [go_sem,e2]) (by simp [go_sem,e3]) (by simp [go_sem,e4]) (by simp [go_sem,e5]) (by simp [go_sem,e6]) (by simp [go_sem,e7]) (by simp [go_sem]) (by simp [go_sem])
     ·simp [go_sem,e2,e3,e4,e5,e6,e7,e8,hm,hkl,hB_len,m1,m2,hi2,hk2,hi3,hk3,w2,w3,hpi,w4,h64]
      exact done _ (by simp [go_sem,e2]) (by simp [go_sem,e3]) (by simp [go_sem,e4]) (by simp [go_sem,e5]) (by simp [go_sem,e6]) (by simp [go_sem,e7]) (by simp [go_sem]) (by simp [go_sem,hst (.inr (by omega))])
  ·have hke:k=n:=by omega
   subst hke
   rw [show i*k+k=(i+1)*k by rw [Nat.add_mul,Nat.one_mul]] at hm
   simp [go_sem,e2,e3,e4,e5,e6,e7,e8,hm,w1]
   exact ⟨hlt,Keep.mk' ⟨by simp [go_sem,e2],by simp [go_sem,e3],by simp [go_sem,e4],by simp [go_sem,e5],by simp [go_sem,e6],by simp [go_sem],by simp [go_sem]⟩⟩
 ·have hie:i=sa:=by omega
  subst hie
  rw [hE1]
  generalize (fun j=>decide (j<i*n)&&F j)=T at *
  simp [go_sem,e2,e3,e4,e5,e6,e7,hm,hB_len,tk,pc]
  rw [if_pos (hB_one _)]
  simp [go_sem,e2,e3,e4,e5,e6,e7,hm,hB_len,tk,pc]
  exact .hf _ (hf_eRS (_,T))
def rowJ (a b:RS) (i kk j:Nat):Bool:=(List.range kk).any fun k=>decide (i / 4*(szA b.1 / 4)+k % (szA b.1 / 4)=j)&&(decide (i % 4=k / (szA b.1 / 4))&&(a.2 i&&b.2 k))
def joinS (a b:RS):RS:=(a.1+b.1-2,fun j=>(List.range (szA a.1)).any fun i=>rowJ a b i (szA b.1) j)
theorem rowJ_succ (a b:RS) (i k j:Nat):rowJ a b i (k+1) j=(rowJ a b i k j||(decide (i / 4*(szA b.1 / 4)+k % (szA b.1 / 4)=j)&&(decide (i % 4=k / (szA b.1 / 4))&&(a.2 i&&b.2 k)))):=by
 unfold rowJ
 rw [List.range_succ,List.any_append]
 simp
theorem szA_ge {k:Int} (h:1≤k):4≤szA k:=by unfold szA;split<;>(try split)<;>(try split)<;>omega
theorem joinU (a b:RS) (ha:0≤a.1∧a.1≤1000) (hb:1≤b.1∧b.1≤1000):SoundP Tryz.prog 150 [eRS a,eRS b] (eRS (joinS a b)):=by
 refine SoundP.of_sound (Sound.of_awp Tryz.call150 Tryz.func150 rfl (Nat.le_of_ble_eq_true (by kernel_rfl)) (by kernel_rfl) (pl:={}) ?_)
 have w0:IntKind.i64.wrap (a.1+b.1)=a.1+b.1:=wrap_i64 (by omega) (by omega)
 have w00:IntKind.i64.wrap (a.1+b.1-2)=a.1+b.1-2:=wrap_i64 (by omega) (by omega)
 have hsa:=szA_le a.1
 have hsb:=szA_le b.1
 have hge:=szA_ge hb.1
 have ca:=sizeU a.1
 have cb:=sizeU b.1
 have hR:∀ i k j,rowJ a b i (k+1) j=(rowJ a b i k j||(decide (i / 4*(szA b.1 / 4)+k % (szA b.1 / 4)=j)&&(decide (i % 4=k / (szA b.1 / 4))&&(a.2 i&&b.2 k)))):=rowJ_succ a b
 have hR0:∀ i j,rowJ a b i 0 j=false:=fun i j=>rfl
 simp [go_sem,hB_len]
 refine ⟨hB_one _,hB_one _,?_⟩
 simp [go_sem,hB_len,w0,w00]
 refine CallStep.pure cb (.cons (.hf (HF.sc _)) .nil) ?_
 generalize hE:joinS a b=E
 have hE1:E=(a.1+b.1-2,fun j=>(List.range (szA a.1)).any fun i=>rowJ a b i (szA b.1) j):=hE.symm
 clear hE
 generalize rowJ a b=F at *
 generalize szA a.1=sa at *
 generalize szA b.1=sb at *
 obtain ⟨n,hn⟩:∃ n:Nat,n=sb / 4:=⟨_,rfl⟩
 have hn1:1≤n∧n≤16:=by omega
 have wn:IntKind.i64.wrap ((sb:Int) / 4)=(n:Int):=by rw [wrap_i64 (by omega) (by omega)];omega
 rw [←hn] at hR
 simp [go_sem,hB_len,w0,wn]
 refine LoopGo.upK sa (fun i st=>st.tm 2 = .ip (cRS a)∧st.tm 3 = .ip (cRS b)∧st.tm 4 = .ptr 0 0∧st.tm 5 = .ptr 1 0∧st.tm 6=aI n∧st.tm 7=aI i∧st.mu=[.arr (aI 0 :: hB fun _=>false),.arr (aI (a.1+b.1-2) :: hB (fun j=>(List.range i).any fun i=>F i sb j))]) ?_ ?_
 ·exact ⟨by simp [go_sem],by simp [go_sem],by simp [go_sem],by simp [go_sem],by simp [go_sem],by simp [go_sem],by simp [go_sem];first | rfl | exact ⟨rfl,rfl⟩⟩
 rintro i st hi ⟨e2,e3,e4,e5,e6,e7,hm⟩
 simp [go_sem,e2,e3,e4,e5,e6,e7,hm]
 refine CallStep.pure ca (.cons (.hf (HF.sc _)) .nil) ?_
 by_cases hlt:i<sa
 ·have w1:IntKind.i64.wrap ((i:Int)+1)=(i:Int)+1:=wrap_i64 (by omega) (by omega)
  generalize hP:(fun j=>(List.range i).any fun i=>F i sb j)=P at *
  simp [go_sem,e2,e3,e4,e5,e6,e7,hm,hlt]
  refine LoopGo.upK sb (fun k st=>st.tm 2 = .ip (cRS a)∧st.tm 3 = .ip (cRS b)∧st.tm 4 = .ptr 0 0∧st.tm 5 = .ptr 1 0∧st.tm 6=aI n∧st.tm 7=aI i∧st.tm 8=aI k∧st.mu=[.arr (aI 0 :: hB fun _=>false),.arr (aI (a.1+b.1-2) :: hB (fun j=>P j||F i k j))]) ?_ ?_
  ·exact ⟨by simp [go_sem,e2],by simp [go_sem,e3],by simp [go_sem,e4],by simp [go_sem,e5],by simp [go_sem,e6],by simp [go_sem,e7],by simp [go_sem],by simp [go_sem,hm,hR0]⟩
  clear e2 e3 e4 e5 e6 e7 hm
  rintro k st hk ⟨e2,e3,e4,e5,e6,e7,e8,hm⟩
  simp [go_sem,e2,e3,e4,e5,e6,e7,e8,hm]
  refine CallStep.pure cb (.cons (.hf (HF.sc _)) .nil) ?_
  by_cases hkl:k<sb
  ·have w2:IntKind.i64.wrap ((k:Int)+1)=(k:Int)+1:=wrap_i64 (by omega) (by omega)
   obtain ⟨p,hp⟩:∃ p:Nat,p=i / 4*n+k % n:=⟨_,rfl⟩
   have hkn:k % n<n:=Nat.mod_lt _ (by omega)
   have hin:i / 4*n≤15*16:=Nat.mul_le_mul (by omega) (by omega)
   have y1:((i / 4:Nat):Int)=(i:Int) / 4:=by omega
   have y2:((i / 4*n:Nat):Int)=(i:Int) / 4*n:=by rw [←y1];push_cast;rfl
   have y3:((k % n:Nat):Int)=(k:Int) % n:=rfl
   have y4:((k / n:Nat):Int)=(k:Int) / n:=rfl
   have hkd:k / n≤64:=Nat.le_trans (Nat.div_le_self k n) (by omega)
   have x1:IntKind.i64.wrap ((i:Int) / 4)=(i:Int) / 4:=wrap_i64 (by omega) (by omega)
   have x2:IntKind.i64.wrap ((i:Int) / 4*n)=(i:Int) / 4*n:=by rw [←y2];exact wrap_i64 (by omega) (by omega)
   have x4:IntKind.i64.wrap ((i:Int) / 4*n+(k:Int) % n)=(p:Int):=by rw [←y2,←y3,wrap_i64 (by omega) (by omega),hp];push_cast;rfl
   have x4t:IntKind.i64.wrap ((i:Int) / 4*n+(k:Int).tmod n)=(p:Int):=by rw [Int.tmod_eq_emod_of_nonneg (by omega)];exact x4
   have x5:IntKind.i64.wrap ((k:Int) / n)=(k:Int) / n:=by
    rw [←y4]
    clear y4
    generalize k / n=c at hkd ⊢
    exact wrap_i64 (by omega) (by omega)
   have hn0:¬n=0:=by omega
   have m1:=d0 a.2 i (by omega)
   have m2:=d0 b.2 k (by omega)
   have hi2:1≤64-i:=by omega
   have hk2:1≤64-k:=by omega
   have hi3:(i:Int)<64:=by omega
   have hk3:(k:Int)<64:=by omega
   have hst:((decide (i % 4=k / n)&&(a.2 i&&b.2 k))=false∨64≤p)→hB (fun j=>P j||F i k j)=hB (fun j=>P j||F i (k+1) j):=fun h=>hB_congr fun j hj=>by
    rw [hR,←hp]
    rcases h with h | h
    ·rw [h,Bool.and_false,Bool.or_false]
    ·rw [decide_eq_false (by omega),Bool.false_and,Bool.or_false]
   have hq2:(decide (i % 4=k / n)&&(a.2 i&&b.2 k))=true→∀ x:AV,(x :: hB (fun j=>P j||F i k j)).set (1+p) (AV.sc (Value.bool true))=x :: hB (fun j=>P j||F i (k+1) j):=fun h x=>by
    refine (s1 x _ p true).trans (congrArg (x :: ·) (hB_congr fun j hj=>?_))
    rw [hR,←hp,h,Bool.and_true]
    by_cases h1:j=p
    ·rw [if_pos h1,h1];simp
    ·rw [if_neg h1,decide_eq_false (fun e=>h1 e.symm),Bool.or_false]
   have done:∀ st':St,st'.tm 2 = .ip (cRS a)→st'.tm 3 = .ip (cRS b)→st'.tm 4 = .ptr 0 0→st'.tm 5 = .ptr 1 0→st'.tm 6=aI n→st'.tm 7=aI i→st'.tm 8=aI (k+1:Nat)→st'.mu=[.arr (aI 0 :: hB fun _=>false),.arr (aI (a.1+b.1-2) :: hB (fun j=>P j||F i (k+1) j))]→Keep (fun st=>st.tm 2 = .ip (cRS a)∧st.tm 3 = .ip (cRS b)∧st.tm 4 = .ptr 0 0∧st.tm 5 = .ptr 1 0∧st.tm 6=aI n∧st.tm 7=aI i∧st.tm 8=aI (k+1:Nat)∧st.mu=[.arr (aI 0 :: hB fun _=>false),.arr (aI (a.1+b.1-2) :: hB (fun j=>P j||F i (k+1) j))]) .mk st':=
    fun st' b1 b2 b3 b4 b5 b6 b7 b8=>Keep.mk' ⟨b1,b2,b3,b4,b5,b6,b7,b8⟩
   cases hai:a.2 i with
   |false =>
    rw [hai] at m1
    simp [go_sem,e2,e3,e4,e5,e6,e7,e8,hm,hkl,hB_len,x1,x2,x4,hn0,m1,m2,hi2,hi3,hk2,hk3,w2]
    exact done _ (by simp [go_sem,e2]) (by simp [go_sem,e3]) (by simp [go_sem,e4]) (by simp [go_sem,e5]) (by simp [go_sem,e6]) (by simp [go_sem,e7]) (by simp [go_sem]) (by simp [go_sem,hst (.inl (by rw [hai];simp))])
   |true =>
    rw [hai] at m1
    cases hbk:b.2 k with
    |false =>
     rw [hbk] at m2
     simp [go_sem,e2,e3,e4,e5,e6,e7,e8,hm,hkl,hB_len,x1,x2,x4,hn0,m1,m2,hi2,hi3,hk2,hk3,w2]
     exact done _ (by simp [go_sem,e2]) (by simp [go_sem,e3]) (by simp [go_sem,e4]) (by simp [go_sem,e5]) (by simp [go_sem,e6]) (by simp [go_sem,e7]) (by simp [go_sem]) (by simp [go_sem,hst (.inl (by rw [hbk];simp))])
    |true =>
     rw [hbk] at m2
     by_cases hq:i % 4=k / n
     ·have hqi:(i:Int).tmod 4=(k:Int) / n:=by rw [Int.tmod_eq_emod_of_nonneg (by omega),←y4,←hq];rfl
      by_cases h64:(p:Int)<64
      ·simp [go_sem,e2,e3,e4,e5,e6,e7,e8,hm,hkl,hB_len,x1,x2,x4,x4t,x5,hn0,m1,m2,hi2,hi3,hk2,hk3,w2,hqi,h64,show 1+p≤64 by omega,hq2 (by rw [decide_eq_true hq,hai,hbk];rfl)]
       exact done _ (by simp [go_sem,e2]) (by simp [go_sem,e3]) (by simp [go_sem,e4]) (by simp [go_sem,e5]) (by simp [go_sem,e6]) (by simp [go_sem,e7]) (by simp [go_sem]) (by simp [go_sem])
      ·simp [go_sem,e2,e3,e4,e5,e6,e7,e8,hm,hkl,hB_len,x1,x2,x4,x4t,x5,hn0,m1,m2,hi2,hi3,hk2,hk3,w2,hqi,h64]
       exact done _ (by simp [go_sem,e2]) (by simp [go_sem,e3]) (by simp [go_sem,e4]) (by simp [go_sem,e5]) (by simp [go_sem,e6]) (by simp [go_sem,e7]) (by simp [go_sem]) (by simp [go_sem,hst (.inr (by omega))])
     ·have hqi:¬(i:Int).tmod 4=(k:Int) / n:=fun e=>hq (by rw [Int.tmod_eq_emod_of_nonneg (by omega),←y4] at e;exact Int.ofNat.inj e)
      simp [go_sem,e2,e3,e4,e5,e6,e7,e8,hm,hkl,hB_len,x1,x2,x4,x4t,x5,hn0,m1,m2,hi2,hi3,hk2,hk3,w2,hqi]
      exact done _ (by simp [go_sem,e2]) (by simp [go_sem,e3]) (by simp [go_sem,e4]) (by simp [go_sem,e5]) (by simp [go_sem,e6]) (by simp [go_sem,e7]) (by simp [go_sem]) (by simp [go_sem,hst (.inl (by rw [decide_eq_false hq];rfl))])
  ·have hke:k=sb:=by omega
   subst hke
   simp [go_sem,e2,e3,e4,e5,e6,e7,e8,hm,w1]
   exact ⟨hlt,Keep.mk' ⟨by simp [go_sem,e2],by simp [go_sem,e3],by simp [go_sem,e4],by simp [go_sem,e5],by simp [go_sem,e6],by simp [go_sem],by simp [go_sem];rw [←hP]⟩⟩
 ·have hie:i=sa:=by omega
  subst hie
  rw [hE1]
  generalize (fun j=>(List.range i).any fun i=>F i sb j)=T at *
  simp [go_sem,e2,e3,e4,e5,e6,e7,hm,hB_len,tk,pc]
  rw [if_pos (hB_one _)]
  simp [go_sem,e2,e3,e4,e5,e6,e7,hm,hB_len,tk,pc]
  exact .hf _ (hf_eRS (_,T))
end Go.Proofs.YtcfopdccdeeleaaGreatDoor.QE


namespace Go.Proofs.YtcfopdccdeeleaaGreatDoor.QF
open Go Go.Ev Go.Proofs Go.Proofs.YtcfopdccdeeleaaGreatDoor Y1 Y2 Y3 P1 P2 PA PB QD QE
def dig (k:Int) (j:Nat):List Int:=if k=0 then [] else if k=1 then [(j:Int)] else if k=2 then [((j / 4:Nat):Int),((j % 4:Nat):Int)] else [((j / 16:Nat):Int),((j / 4 % 4:Nat):Int),((j % 4:Nat):Int)]
theorem dig_len {k:Int} (h:0≤k∧k≤3) (j:Nat):((dig k j).length:Int)=k:=by
 unfold dig
 split
 ·simp;omega
 ·split
  ·simp;omega
  ·split
   ·simp;omega
   ·simp;omega
theorem szA1:szA 1=4:=rfl
theorem szA2:szA 2=16:=rfl
theorem szA3:szA 3=64:=rfl
theorem cases4 {p:Int} (h:0≤p∧p≤3):p=0∨p=1∨p=2∨p=3:=by omega
theorem dig_app {p q:Int} (hp:0≤p) (hq:0≤q) (h:p+q≤3) {j:Nat} (hj:j<szA (p+q)):j / szA q<szA p∧j % szA q<szA q∧dig (p+q) j=dig p (j / szA q)++dig q (j % szA q):=by
 rcases cases4 (p:=p) ⟨hp,by omega⟩ with rfl | rfl | rfl | rfl<;>rcases cases4 (p:=q) ⟨hq,by omega⟩ with rfl | rfl | rfl | rfl<;>first | (exfalso;omega) | skip
 all_goals simp [dig,szA] at hj ⊢
 all_goals omega
theorem dig_mk {p q:Int} (hp:0≤p) (hq:0≤q) (h:p+q≤3) {i k:Nat} (hi:i<szA p) (hk:k<szA q):i*szA q+k<szA (p+q)∧dig (p+q) (i*szA q+k)=dig p i++dig q k:=by
 rcases cases4 (p:=p) ⟨hp,by omega⟩ with rfl | rfl | rfl | rfl<;>rcases cases4 (p:=q) ⟨hq,by omega⟩ with rfl | rfl | rfl | rfl<;>first | (exfalso;omega) | skip
 all_goals simp [dig,szA] at hi hk ⊢
 all_goals omega
theorem dig_inj {p:Int} (h:0≤p∧p≤3) {i j:Nat} (hi:i<szA p) (hj:j<szA p) (e:dig p i=dig p j):i=j:=by
 rcases cases4 h with rfl | rfl | rfl | rfl
 all_goals simp [dig,szA] at hi hj e
 all_goals omega
theorem dig_of {p:Int} (h:1≤p∧p≤3) {l:List Int} (hl:(l.length:Int)=p) (hx:∀ x,x∈l→0≤x∧x<4):∃ i,i<szA p∧l=dig p i:=by
 match l,hl,hx with
 | [],hl,_=>simp at hl;omega
 | [a],hl,hx =>
  obtain rfl:p=1:=by simpa using hl.symm
  have:=hx a (by simp)
  exact ⟨a.toNat,by rw [szA1];omega,by simp [dig];omega⟩
 | [a,b],hl,hx =>
  obtain rfl:p=2:=by simpa using hl.symm
  have:=hx a (by simp)
  have:=hx b (by simp)
  exact ⟨(a*4+b).toNat,by rw [szA2];omega,by simp [dig];omega⟩
 | [a,b,c],hl,hx =>
  obtain rfl:p=3:=by simpa using hl.symm
  have:=hx a (by simp)
  have:=hx b (by simp)
  have:=hx c (by simp)
  exact ⟨(a*16+b*4+c).toNat,by rw [szA3];omega,by simp [dig];omega⟩
 |a :: b :: c :: d :: l,hl,_=>simp at hl;omega
theorem pad_inj {l l':List Int} (h:l.length=l'.length) (h3:l.length≤3) (e:pad l=pad l'):l=l':=by
 have e1:=pad_take' h3 l.length (Nat.le_refl _)
 have e2:=pad_take' (l:=l') (by omega) l'.length (Nat.le_refl _)
 rw [List.take_length] at e1 e2
 rw [←e1,←e2,e,h]
theorem mem_dig {ns:Nat} {k:Kd} (h:okKd ns k) (hns:ns≤4) {t:Tp} (ht:t∈k.ts):∃ i,i<szA k.ar∧t=pad (dig k.ar i):=by
 obtain ⟨l,rfl,hl,hx⟩:=h.ts t ht
 obtain ⟨i,hi,e⟩:=dig_of h.ar hl fun x hm=>by have:=hx x hm;omega
 exact ⟨i,hi,by rw [e]⟩
def setOf (k:Kd):RS:=(k.ar,fun j=>decide (j<szA k.ar∧pad (dig k.ar j)∈k.ts))
theorem set_iff (k:Kd) (j:Nat):(setOf k).2 j=true↔j<szA k.ar∧pad (dig k.ar j)∈k.ts:=decide_eq_true_iff
theorem eRS_congr {a b:RS} (h1:a.1=b.1) (h2:∀ j,j<64→a.2 j=b.2 j):eRS a=eRS b:=by
 simp only [eRS,cRS,h1,hB_congr h2]
theorem uni_set {a b:Kd} (h:a.ar=b.ar):eRS (uniS (setOf a) (setOf b))=eRS (setOf (kSum a b)):=by
 refine eRS_congr rfl fun j hj=>?_
 rw [Bool.eq_iff_iff,set_iff]
 show ((setOf a).2 j||(setOf b).2 j)=true↔j<szA a.ar∧pad (dig a.ar j)∈uni (uni [] a.ts) b.ts
 rw [Bool.or_eq_true,set_iff,set_iff,←h,mem_uni,mem_uni]
 constructor
 ·rintro (⟨h1,h2⟩ | ⟨h1,h2⟩)
  ·exact ⟨h1,.inl (.inr h2)⟩
  ·exact ⟨h1,.inr h2⟩
 ·rintro ⟨h1,(h2 | h2) | h2⟩
  ·cases h2
  ·exact .inl ⟨h1,h2⟩
  ·exact .inr ⟨h1,h2⟩
theorem int_set {a b:Kd} (h:a.ar=b.ar):eRS (intS (setOf a) (setOf b))=eRS (setOf (kInter a b)):=by
 refine eRS_congr rfl fun j hj=>?_
 rw [Bool.eq_iff_iff,set_iff]
 show ((setOf a).2 j&&(setOf b).2 j)=true↔j<szA a.ar∧pad (dig a.ar j)∈a.ts.filter fun t=>decide (t∈b.ts)
 rw [Bool.and_eq_true,set_iff,set_iff,←h,List.mem_filter,decide_eq_true_eq]
 constructor
 ·rintro ⟨⟨h1,h2⟩,_,h3⟩;exact ⟨h1,h2,h3⟩
 ·rintro ⟨h1,h2,h3⟩;exact ⟨⟨h1,h2⟩,h1,h3⟩
theorem mem_prodL {n m:Nat} {a b:List Tp} {t:Tp}:t∈prodL n m a b↔∃ x y,x∈a∧y∈b∧conc x n y m 0=t:=by
 unfold prodL
 rw [mem_uni]
 simp only [List.not_mem_nil,false_or,List.mem_map,Prod.exists,mem_pairs]
 constructor
 ·rintro ⟨x,y,⟨h1,h2⟩,h3⟩;exact ⟨x,y,h1,h2,h3⟩
 ·rintro ⟨x,y,h1,h2,h3⟩;exact ⟨x,y,⟨h1,h2⟩,h3⟩
theorem conc_pad {l l':List Int} {n m:Nat} (h:l.length=n) (h':l'.length=m) (hn:n≤3) (hm:m≤3):conc (pad l) n (pad l') m 0=pad (l++l'):=by
 unfold conc
 rw [Nat.sub_zero,List.drop_zero,pad_take' (by omega) n (by omega),pad_take' (by omega) m (by omega),←h,←h',List.take_length,List.take_length]
theorem prod_set {ns:Nat} {a b:Kd} (ha:okKd ns a) (hb:okKd ns b) (hns:ns≤4) (h3:a.ar+b.ar≤3):eRS (prodS (setOf a) (setOf b))=eRS (setOf (kProd a b)):=by
 have har:=ha.ar
 have hbr:=hb.ar
 have la:=fun i=>dig_len (k:=a.ar) (by omega) i
 have lb:=fun i=>dig_len (k:=b.ar) (by omega) i
 have lab:=fun i=>dig_len (k:=a.ar+b.ar) (by omega) i
 refine eRS_congr rfl fun j hj=>?_
 rw [Bool.eq_iff_iff,set_iff]
 show (decide (j<szA a.ar*szA b.ar)&&((setOf a).2 (j / szA b.ar)&&(setOf b).2 (j % szA b.ar)))=true↔j<szA (a.ar+b.ar)∧pad (dig (a.ar+b.ar) j)∈prodL a.ar.toNat b.ar.toNat a.ts b.ts
 rw [Bool.and_eq_true,Bool.and_eq_true,set_iff,set_iff,mem_prodL,decide_eq_true_eq]
 constructor
 ·rintro ⟨_,⟨h1,h2⟩,h4,h5⟩
  have hm:=dig_mk (p:=a.ar) (q:=b.ar) (by omega) (by omega) h3 h1 h4
  have hd:j / szA b.ar*szA b.ar+j % szA b.ar=j:=Nat.div_add_mod' j _
  rw [hd] at hm
  refine ⟨hm.1,_,_,h2,h5,?_⟩
  rw [hm.2]
  exact conc_pad (by have:=la (j / szA b.ar);omega) (by have:=lb (j % szA b.ar);omega) (by omega) (by omega)
 ·rintro ⟨h1,x,y,hx,hy,e⟩
  obtain ⟨i,hi,rfl⟩:=mem_dig ha hns hx
  obtain ⟨k,hk,rfl⟩:=mem_dig hb hns hy
  rw [conc_pad (by have:=la i;omega) (by have:=lb k;omega) (by omega) (by omega)] at e
  have hm:=dig_mk (p:=a.ar) (q:=b.ar) (by omega) (by omega) h3 hi hk
  rw [←hm.2] at e
  have e2:=pad_inj (by have:=lab (i*szA b.ar+k);have:=lab j;omega) (by have:=lab (i*szA b.ar+k);omega) e
  have e3:=dig_inj (by omega) hm.1 h1 e2
  have hsb:=szA_le b.ar
  have d1:j / szA b.ar=i:=by rw [←e3,Nat.add_comm,Nat.add_mul_div_right _ _ (by omega),Nat.div_eq_of_lt hk,Nat.zero_add]
  have d2:j % szA b.ar=k:=by rw [←e3,Nat.add_comm,Nat.add_mul_mod_self_right,Nat.mod_eq_of_lt hk]
  rw [d1,d2]
  refine ⟨?_,⟨hi,hx⟩,hk,hy⟩
  rw [←e3]
  calc i*szA b.ar+k<i*szA b.ar+szA b.ar:=by omega
   _=(i+1)*szA b.ar:=by rw [Nat.add_mul,Nat.one_mul]
   _≤szA a.ar*szA b.ar:=Nat.mul_le_mul_right _ hi
theorem mem_joinL {n m:Nat} {a b:List Tp} {t:Tp}:t∈joinL n m a b↔∃ x y,x∈a∧y∈b∧x.getD (n-1) 0=y.getD 0 0∧conc x n y m 1=t:=by
 unfold joinL
 rw [mem_uni]
 simp only [List.not_mem_nil,false_or,List.mem_filterMap,Prod.exists,mem_pairs]
 constructor
 ·rintro ⟨x,y,⟨h1,h2⟩,h3⟩
  split at h3
  ·rename_i h;cases h3;exact ⟨x,y,h1,h2,h,rfl⟩
  ·cases h3
 ·rintro ⟨x,y,h1,h2,h3,h4⟩;exact ⟨x,y,⟨h1,h2⟩,by rw [if_pos h3,h4]⟩
theorem conc1_pad {u v:List Int} {e f:Int} {n m:Nat} (h:u.length+1=n) (h':v.length+1=m) (hn:n≤3) (hm:m≤3):conc (pad (u++[e])) n (pad ([f]++v)) m 1=pad (u++v):=by
 unfold conc
 rw [pad_take' (by simp;omega) (n-1) (by simp;omega),pad_take' (by simp;omega) m (by simp;omega),List.take_append_of_le_length (by omega),List.take_of_length_le (by omega),List.take_of_length_le (by simp;omega)]
 rfl
theorem getD_pad {l:List Int} {k:Nat} (h:k<3):(pad l).getD k 0=l.getD k 0:=by
 match k,h with
 | 0,_=>rfl
 | 1,_=>rfl
 | 2,_=>rfl
theorem splitL {p:Int} (hp:0≤p∧p≤2) {i:Nat} (hi:i<szA (p+1)):i / 4<szA p∧dig (p+1) i=dig p (i / 4)++[((i % 4:Nat):Int)]:=by
 have:=dig_app (p:=p) (q:=1) hp.1 (by omega) (by omega) hi
 rw [szA1] at this
 exact ⟨this.1,this.2.2⟩
theorem splitR {q:Int} (hq:0≤q∧q≤2) {k:Nat} (hk:k<szA (1+q)):k % szA q<szA q∧dig (1+q) k=[((k / szA q:Nat):Int)]++dig q (k % szA q):=by
 have:=dig_app (p:=1) (q:=q) (by omega) hq.1 (by omega) hk
 exact ⟨this.2.1,this.2.2⟩
theorem szA_step {q:Int} (hq:0≤q∧q≤2):szA (q+1) / 4=szA q∧szA (q+1)=4*szA q:=by
 rcases (show q=0∨q=1∨q=2 by omega) with rfl | rfl | rfl<;>exact ⟨rfl,rfl⟩
theorem join_set {ns:Nat} {a b:Kd} (ha:okKd ns a) (hb:okKd ns b) (hns:ns≤4) (h3:1≤a.ar+b.ar-2∧a.ar+b.ar-2≤3):eRS (joinS (setOf a) (setOf b))=eRS (setOf (kJoin a b)):=by
 have har:=ha.ar
 have hbr:=hb.ar
 obtain ⟨p,hp⟩:∃ p,p=a.ar-1:=⟨_,rfl⟩
 obtain ⟨q,hq⟩:∃ q,q=b.ar-1:=⟨_,rfl⟩
 have ea:a.ar=p+1:=by omega
 have eb:b.ar=1+q:=by omega
 have eb':b.ar=q+1:=by omega
 have eab:a.ar+b.ar-2=p+q:=by omega
 have hst:=szA_step (q:=q) (by omega)
 have hn:szA b.ar / 4=szA q:=by rw [eb'];exact hst.1
 have lp:=fun i=>dig_len (k:=p) (by omega) i
 have lq:=fun i=>dig_len (k:=q) (by omega) i
 have lpq:=fun i=>dig_len (k:=p+q) (by omega) i
 have A:∀ i,i<szA a.ar→i / 4<szA p∧dig a.ar i=dig p (i / 4)++[((i % 4:Nat):Int)]:=fun i hi=>by rw [ea] at hi ⊢;exact splitL (by omega) hi
 have B:∀ k,k<szA b.ar→k % szA q<szA q∧dig b.ar k=[((k / szA q:Nat):Int)]++dig q (k % szA q):=fun k hk=>by rw [eb] at hk ⊢;exact splitR (by omega) hk
 have J:∀ i k,i<szA a.ar→k<szA b.ar→i / 4*szA q+k % szA q<szA (p+q)∧(pad (dig a.ar i)).getD (a.ar.toNat-1) 0=((i % 4:Nat):Int)∧(pad (dig b.ar k)).getD 0 0=((k / szA q:Nat):Int)∧conc (pad (dig a.ar i)) a.ar.toNat (pad (dig b.ar k)) b.ar.toNat 1=pad (dig (p+q) (i / 4*szA q+k % szA q)):=fun i k hi hk=>by
  obtain ⟨a1,a2⟩:=A i hi
  obtain ⟨b1,b2⟩:=B k hk
  have hm:=dig_mk (p:=p) (q:=q) (by omega) (by omega) (by omega) a1 b1
  have l1:=lp (i / 4)
  have l2:=lq (k % szA q)
  refine ⟨hm.1,?_,?_,?_⟩
  ·rw [getD_pad (by omega),a2,show a.ar.toNat-1=(dig p (i / 4)).length by omega];simp
  ·rw [getD_pad (by omega),b2];rfl
  ·rw [a2,b2,hm.2];exact conc1_pad (by omega) (by omega) (by omega) (by omega)
 refine eRS_congr rfl fun j hj=>?_
 rw [Bool.eq_iff_iff,set_iff]
 show ((List.range (szA a.ar)).any fun i=>(List.range (szA b.ar)).any fun k=>decide (i / 4*(szA b.ar / 4)+k % (szA b.ar / 4)=j)&&(decide (i % 4=k / (szA b.ar / 4))&&((setOf a).2 i&&(setOf b).2 k)))=true↔j<szA (a.ar+b.ar-2)∧pad (dig (a.ar+b.ar-2) j)∈joinL a.ar.toNat b.ar.toNat a.ts b.ts
 rw [mem_joinL,List.any_eq_true,hn,eab]
 constructor
 ·rintro ⟨i,hi,h⟩
  obtain ⟨k,hk,h⟩:=List.any_eq_true.1 h
  rw [List.mem_range] at hi hk
  rw [Bool.and_eq_true,Bool.and_eq_true,Bool.and_eq_true,decide_eq_true_eq,decide_eq_true_eq,set_iff,set_iff] at h
  obtain ⟨rfl,h2,⟨_,h4⟩,_,h5⟩:=h
  obtain ⟨j1,j2,j3,j4⟩:=J i k hi hk
  exact ⟨j1,_,_,h4,h5,by rw [j2,j3,h2],j4⟩
 ·rintro ⟨h1,x,y,hx,hy,h2,e⟩
  obtain ⟨i,hi,rfl⟩:=mem_dig ha hns hx
  obtain ⟨k,hk,rfl⟩:=mem_dig hb hns hy
  obtain ⟨j1,j2,j3,j4⟩:=J i k hi hk
  rw [j4] at e
  have e2:=pad_inj (by have:=lpq (i / 4*szA q+k % szA q);have:=lpq j;omega) (by have:=lpq (i / 4*szA q+k % szA q);omega) e
  have e3:=dig_inj (by omega) j1 h1 e2
  rw [j2,j3] at h2
  refine ⟨i,List.mem_range.2 hi,List.any_eq_true.2 ⟨k,List.mem_range.2 hk,?_⟩⟩
  rw [Bool.and_eq_true,Bool.and_eq_true,Bool.and_eq_true,decide_eq_true_eq,decide_eq_true_eq,set_iff,set_iff]
  exact ⟨e3,by omega,⟨hi,hx⟩,hk,hy⟩
theorem tr_set {ns:Nat} {a:Kd} (ha:okKd ns a) (hns:ns≤4) (h2:a.ar=2):eRS (trS (setOf a))=eRS (setOf (kTr a)):=by
 refine eRS_congr rfl fun j hj=>?_
 rw [Bool.eq_iff_iff,set_iff]
 show (decide (j<16)&&(setOf a).2 (j % 4*4+j / 4))=true↔j<16∧pad (dig 2 j)∈uni [] (a.ts.map fun t=>[t.getD 1 0,t.getD 0 0,0])
 rw [Bool.and_eq_true,set_iff,mem_uni,decide_eq_true_eq,h2,szA2]
 simp only [List.not_mem_nil,false_or,List.mem_map]
 constructor
 ·rintro ⟨h1,h3,h4⟩
  refine ⟨h1,_,h4,?_⟩
  simp [dig,pad]
  omega
 ·rintro ⟨h1,t,ht,e⟩
  obtain ⟨i,hi,rfl⟩:=mem_dig ha hns ht
  rw [h2,szA2] at hi
  rw [h2] at e ht
  simp [dig,pad] at e
  have:j % 4*4+j / 4=i:=by omega
  rw [this]
  exact ⟨h1,hi,ht⟩
theorem one_set {l:List Int} (h:1≤l.length∧l.length≤3) (hx:∀ x,x∈l→0≤x∧x<4):eRS (oneS l)=eRS (setOf (kOf l)):=by
 refine eRS_congr rfl fun j hj=>?_
 obtain ⟨i,hi,e⟩:=dig_of (p:=(l.length:Int)) (by omega) rfl hx
 have hat:atF 0 l=i:=by
  match l,h,hx,hi,e with
  | [x],_,hx,hi,e =>
   have:=hx x (by simp)
   simp [dig] at e
   simp [atF,IntKind.wrap,IntKind.signed,IntKind.bits];omega
  | [x,y],_,hx,hi,e =>
   have:=hx x (by simp)
   have:=hx y (by simp)
   simp [dig] at e
   simp [atF,IntKind.wrap,IntKind.signed,IntKind.bits];omega
  | [x,y,z],_,hx,hi,e =>
   have:=hx x (by simp)
   have:=hx y (by simp)
   have:=hx z (by simp)
   simp [dig] at e
   simp [atF,IntKind.wrap,IntKind.signed,IntKind.bits];omega
 rw [Bool.eq_iff_iff,set_iff]
 show decide ((j:Int)=atF 0 l)=true↔j<szA (l.length:Int)∧pad (dig (l.length:Int) j)∈[pad l]
 rw [decide_eq_true_eq,hat,List.mem_singleton]
 have ld:=fun j=>dig_len (k:=(l.length:Int)) (by omega) j
 constructor
 ·intro h1
  obtain rfl:j=i:=by omega
  exact ⟨hi,by rw [←e]⟩
 ·rintro ⟨h1,h2⟩
  have e2:=pad_inj (by have:=ld j;omega) (by have:=ld j;omega) h2
  rw [e] at e2
  have:=dig_inj (p:=(l.length:Int)) (by omega) h1 hi (by rw [←e] at e2 ⊢;exact e2)
  omega
end Go.Proofs.YtcfopdccdeeleaaGreatDoor.QF


namespace Go.Proofs.YtcfopdccdeeleaaGreatDoor.QG
open Go Go.Ev Go.Proofs Go.Proofs.YtcfopdccdeeleaaGreatDoor Y1 Y2 Y3 P1 P2 PA PB QD QE QF
def stepK (k:Kd):Kd:=kSum k (kJoin k k)
def itK:Nat→Kd→Kd
 | 0,k=>k
 |i+1,k=>stepK (itK i k)
theorem okStep {ns:Nat} {k:Kd} (h:okKd ns k) (h2:k.ar=2):okKd ns (stepK k)∧(stepK k).ar=2:=
 ⟨okKd_sum h (okKd_join h h (by omega) (by omega)) (by simp only [kJoin];omega),h2⟩
theorem okIt {ns:Nat} {k:Kd} (h:okKd ns k) (h2:k.ar=2):∀ i,okKd ns (itK i k)∧(itK i k).ar=2
 | 0=>⟨h,h2⟩
 |i+1=>okStep (okIt h h2 i).1 (okIt h h2 i).2
abbrev Ed (k:Kd) (u v:Int):Prop:=[u,v,0]∈k.ts
theorem ed_of {ns:Nat} {k:Kd} (h:okKd ns k) (h2:k.ar=2) {t:Tp} (ht:t∈k.ts):∃ u v,t=[u,v,0]∧(0≤u∧u<ns)∧(0≤v∧v<ns):=by
 obtain ⟨l,rfl,hl,hx⟩:=h.ts t ht
 match l,hl,hx with
 | [u,v],_,hx=>exact ⟨u,v,rfl,hx u (by simp),hx v (by simp)⟩
 | [],hl,_=>simp at hl;omega
 | [_],hl,_=>simp at hl;omega
 |_ :: _ :: _ :: _,hl,_=>simp at hl;omega
theorem ed_join {ns:Nat} {k:Kd} (h:okKd ns k) (h2:k.ar=2) {u v:Int}:[u,v,0]∈(kJoin k k).ts↔∃ w,Ed k u w∧Ed k w v:=by
 show [u,v,0]∈joinL k.ar.toNat k.ar.toNat k.ts k.ts↔_
 rw [QF.mem_joinL,h2]
 constructor
 ·rintro ⟨x,y,hx,hy,h3,h4⟩
  obtain ⟨a,b,rfl,_,_⟩:=ed_of h h2 hx
  obtain ⟨c,d,rfl,_,_⟩:=ed_of h h2 hy
  have h3:b=c:=h3
  have h4:[a,d,0]=[u,v,0]:=h4
  injection h4 with e1 e2
  injection e2 with e2 _
  subst e1 e2 h3
  exact ⟨b,hx,hy⟩
 ·rintro ⟨w,h3,h4⟩
  exact ⟨[u,w,0],[w,v,0],h3,h4,rfl,rfl⟩
theorem ed_step {ns:Nat} {k:Kd} (h:okKd ns k) (h2:k.ar=2) {u v:Int}:Ed (stepK k) u v↔Ed k u v∨∃ w,Ed k u w∧Ed k w v:=by
 unfold Ed stepK
 rw [mem_sum,ed_join h h2]
def Path (k:Kd) (n:Nat) (u v:Int):Prop:=∃ f:Nat→Int,f 0=u∧f n=v∧∀ i,i<n→Ed k (f i) (f (i+1))
theorem Path.one {k:Kd} {u v:Int} (h:Ed k u v):Path k 1 u v:=⟨fun i=>if i=0 then u else v,rfl,rfl,fun i hi=>by
 obtain rfl:i=0:=by omega
 exact h⟩
theorem Path.comp {k:Kd} {n m:Nat} {u w v:Int} (h:Path k n u w) (h':Path k m w v):Path k (n+m) u v:=by
 obtain ⟨f,f0,fn,hf⟩:=h
 obtain ⟨g,g0,gm,hg⟩:=h'
 refine ⟨fun i=>if i<n then f i else g (i-n),?_,?_,fun i hi=>?_⟩
 ·by_cases h0:0<n
  ·simp [h0,f0]
  ·have:n=0:=by omega
   subst this
   simp [g0,←fn,f0]
 ·simp only [if_neg (show ¬n+m<n by omega),Nat.add_sub_cancel_left,gm]
 ·by_cases h1:i+1<n
  ·simp only [if_pos h1,if_pos (show i<n by omega)];exact hf i (by omega)
  ·by_cases h2:i<n
   ·have e:i+1=n:=by omega
    simp only [if_neg h1,if_pos h2]
    have:=hf i h2
    rw [e,fn] at this
    rw [show i+1-n=0 by omega,g0]
    exact this
   ·simp only [if_neg h1,if_neg h2,show i+1-n=(i-n)+1 by omega]
    exact hg (i-n) (by omega)
theorem Path.short {ns:Nat} {k:Kd} (h:okKd ns k) (h2:k.ar=2) (hns:ns≤4):∀(N n:Nat) (u v:Int),n≤N→1≤n→Path k n u v→∃ m,1≤m∧m≤4∧Path k m u v
 | 0,n,u,v,hN,h1,_=>by omega
 | N+1,n,u,v,hN,h1,hp=>by
  by_cases h4:n≤4
  ·exact ⟨n,h1,h4,hp⟩
  obtain ⟨f,f0,fn,hf⟩:=hp
  have hr:∀ i,i<5→0≤f i∧f i<4:=fun i hi=>by
   obtain ⟨a,b,e,ha,hb⟩:=ed_of h h2 (hf i (by omega))
   injection e with e1 _
   omega
  obtain ⟨i,j,hij,hj,e⟩:∃ i j,i<j∧j<5∧f i=f j:=by
   apply Classical.byContradiction
   intro hno
   have hnd:((List.range 5).map f).Nodup:=List.pairwise_map.2 (List.pairwise_lt_range.imp_of_mem fun {a b} ha hb hab e=>hno ⟨a,b,hab,List.mem_range.1 hb,e⟩)
   have:=List.Nodup.length_le_of_subset hnd (l₂:=[0,1,2,3]) fun x hx=>by
    obtain ⟨i,hi,rfl⟩:=List.mem_map.1 hx
    have:=hr i (List.mem_range.1 hi)
    simp;omega
   simp at this
  refine Path.short h h2 hns N (n-(j-i)) u v (by omega) (by omega) ⟨fun x=>if x<i then f x else f (x+(j-i)),?_,?_,fun x hx=>?_⟩
  ·by_cases h0:0<i
   ·simp [h0,f0]
   ·have:i=0:=by omega
    subst this
    simp [←e,f0]
  ·simp only [if_neg (show ¬n-(j-i)<i by omega),show n-(j-i)+(j-i)=n by omega,fn]
  ·by_cases h3:x+1<i
   ·simp only [if_pos h3,if_pos (show x<i by omega)];exact hf x (by omega)
   ·by_cases h5:x<i
    ·have e1:x+1=i:=by omega
     simp only [if_neg h3,if_pos h5]
     rw [show x+1+(j-i)=j by omega,←e,←e1]
     exact hf x (by omega)
    ·simp only [if_neg h3,if_neg h5,show x+1+(j-i)=(x+(j-i))+1 by omega]
     exact hf _ (by omega)
theorem path_it {ns:Nat} {k:Kd} (h:okKd ns k) (h2:k.ar=2):∀(i:Nat) (u v:Int),Ed (itK i k) u v→∃ n,1≤n∧Path k n u v
 | 0,u,v,he=>⟨1,by omega,.one he⟩
 |i+1,u,v,he=>by
  rcases (ed_step (okIt h h2 i).1 (okIt h h2 i).2).1 he with he | ⟨w,h3,h4⟩
  ·exact path_it h h2 i u v he
  ·obtain ⟨n,n1,p⟩:=path_it h h2 i u w h3
   obtain ⟨m,m1,q⟩:=path_it h h2 i w v h4
   exact ⟨n+m,by omega,p.comp q⟩
theorem it_le {k:Kd} (i:Nat):Sub (itK i k) (itK (i+1) k):=sub_sum _ _
theorem it_path {ns:Nat} {k:Kd} (h:okKd ns k) (h2:k.ar=2) {m:Nat} {u v:Int} (h1:1≤m) (h4:m≤4) (hp:Path k m u v):Ed (itK 4 k) u v:=by
 obtain ⟨f,rfl,rfl,hf⟩:=hp
 have up:∀{u v},Ed (itK 2 k) u v→Ed (itK 4 k) u v:=fun he=>(it_le 3).2 _ ((it_le 2).2 _ he)
 have s1:∀{u w v},Ed (itK 0 k) u w→Ed (itK 0 k) w v→Ed (itK 1 k) u v:=fun a b=>(ed_step (okIt h h2 0).1 (okIt h h2 0).2).2 (.inr ⟨_,a,b⟩)
 have s2:∀{u w v},Ed (itK 1 k) u w→Ed (itK 1 k) w v→Ed (itK 2 k) u v:=fun a b=>(ed_step (okIt h h2 1).1 (okIt h h2 1).2).2 (.inr ⟨_,a,b⟩)
 have l1:∀{u v},Ed (itK 0 k) u v→Ed (itK 1 k) u v:=fun he=>(it_le 0).2 _ he
 refine up ?_
 rcases (show m=1∨m=2∨m=3∨m=4 by omega) with rfl | rfl | rfl | rfl
 ·exact (it_le 1).2 _ (l1 (hf 0 (by omega)))
 ·exact (it_le 1).2 _ (s1 (hf 0 (by omega)) (hf 1 (by omega)))
 ·exact s2 (s1 (hf 0 (by omega)) (hf 1 (by omega))) (l1 (hf 2 (by omega)))
 ·exact s2 (s1 (hf 0 (by omega)) (hf 1 (by omega))) (s1 (hf 2 (by omega)) (hf 3 (by omega)))
theorem it_closed {ns:Nat} {k:Kd} (h:okKd ns k) (h2:k.ar=2) (hns:ns≤4):Closed (itK 4 k):=fun t ht=>by
 have ok:=okIt h h2 4
 have okj:=okKd_join ok.1 ok.1 (by rw [ok.2];omega) (by rw [ok.2];omega)
 obtain ⟨u,v,rfl,_,_⟩:=ed_of okj (by simp only [kJoin];rw [ok.2];rfl) ht
 obtain ⟨w,h3,h4⟩:=(ed_join ok.1 ok.2).1 ht
 obtain ⟨n,n1,p⟩:=path_it h h2 4 u w h3
 obtain ⟨m,m1,q⟩:=path_it h h2 4 w v h4
 obtain ⟨c,c1,c4,hc⟩:=Path.short h h2 hns (n+m) (n+m) u v (Nat.le_refl _) (by omega) (p.comp q)
 exact it_path h h2 c1 c4 hc
theorem it_least {S:Kd} (hS:Closed S) {k:Kd} (h:Sub k S):∀ i,Sub (itK i k) S
 | 0=>h
 |i+1=>⟨(it_least hS h i).1,fun t ht=>by
  rcases mem_sum.1 ht with ht | ht
  ·exact (it_least hS h i).2 t ht
  ·exact hS t ((join_mono (it_least hS h i) (it_least hS h i)).2 t ht)⟩
theorem it_sup {k:Kd}:∀ i,Sub k (itK i k)
 | 0 => .refl k
 |i+1=>(it_sup i).trans (it_le i)
theorem clo_set {ns:Nat} {k:Kd} (h:okKd ns k) (h2:k.ar=2) (hns:ns≤4):eRS (setOf (itK 4 k))=eRS (setOf (kClo k)):=by
 have a1:Sub (kClo k) (itK 4 k):=clo_least (it_closed h h2 hns) 70 0 k (it_sup 4)
 have a2:Sub (itK 4 k) (kClo k):=it_least (clo_closed hns 70 0 k h h2 (by omega) (.inl rfl)) (clo_sup 70 0 k) 4
 refine eRS_congr a2.1 fun j hj=>?_
 rw [Bool.eq_iff_iff,set_iff,set_iff,a2.1]
 exact ⟨fun x=>⟨x.1,a2.2 _ x.2⟩,fun x=>⟨x.1,a1.2 _ x.2⟩⟩
end Go.Proofs.YtcfopdccdeeleaaGreatDoor.QG


namespace Go.Proofs.YtcfopdccdeeleaaGreatDoor.QH
open Go Go.Ev Go.Proofs Go.Proofs.YtcfopdccdeeleaaGreatDoor YM YF Y9 Y10 Y1 Y2 Y3 P1 P2 PA PB QD QE QF QG
theorem closureU {ns:Nat} {a:Kd} (h:okKd ns a) (h2:a.ar=2) (hns:ns≤4):SoundP Tryz.prog 153 [eRS (setOf a)] (eRS (setOf (kClo a))):=by
 refine SoundP.of_sound (Sound.of_awp Tryz.call153 Tryz.func153 rfl (Nat.le_of_ble_eq_true (by kernel_rfl)) (by kernel_rfl) (pl:={ mt:=[1] }) ?_)
 rw [←clo_set h h2 hns]
 simp [go_sem,hB_len]
 refine ⟨hB_one _,?_⟩
 refine LoopGo.upK 4 (fun i st=>st.tm 1 = .ptr 0 0∧st.tm 2 = .ptr 1 0∧st.tm 3=aI i∧st.mu=[.arr (cRS (setOf (itK i a))),.arr (aI 0 :: hB fun _=>false)]) ?_ ?_
 ·exact ⟨by simp [go_sem],by simp [go_sem],by simp [go_sem],by simp [go_sem];exact ⟨⟨rfl,rfl⟩,rfl⟩⟩
 rintro i st hi ⟨e1,e2,e3,hm⟩
 by_cases hlt:i<4
 ·have hlt':(i:Int)<4:=by omega
  have w1:IntKind.i64.wrap ((i:Int)+1)=(i:Int)+1:=wrap_i64 (by omega) (by omega)
  obtain ⟨ok,o2⟩:=okIt h h2 i
  have cj:SoundP Tryz.prog 150 [eRS (setOf (itK i a)),eRS (setOf (itK i a))] (eRS (setOf (kJoin (itK i a) (itK i a)))):=by
   rw [←join_set ok ok hns (by omega)]
   exact joinU _ _ (by show 0≤(itK i a).ar∧(itK i a).ar≤1000;omega) (by show 1≤(itK i a).ar∧(itK i a).ar≤1000;omega)
  have cu:SoundP Tryz.prog 148 [eRS (setOf (itK i a)),eRS (setOf (kJoin (itK i a) (itK i a)))] (eRS (setOf (itK (i+1) a))):=by
   have:=unionU (setOf (itK i a)) (setOf (kJoin (itK i a) (itK i a)))
   rw [uni_set (by simp only [kJoin];omega)] at this
   exact this
  generalize hs':setOf (itK (i+1) a)=s' at *
  generalize setOf (kJoin (itK i a) (itK i a))=q at *
  generalize setOf (itK i a)=s at *
  simp [go_sem,e1,e2,e3,hm,hlt']
  refine DrawGo.intro (by kernel_rfl) ?_
  simp [go_sem,e1,e2,e3,hm,hB_len,tk]
  refine CallStep.pure cj (.cons (.hf (hf_eRS _)) (.cons (.hf (hf_eRS _)) .nil)) ?_
  simp [go_sem,e1,e2,e3,hm,hB_len,tk]
  refine CallStep.pure cu (.cons (.hf (hf_eRS _)) (.cons (.hf (hf_eRS _)) .nil)) ?_
  simp [go_sem,e1,e2,e3,hm,hB_len,tk,pc]
  rw [if_pos (hB_one _)]
  simp [go_sem,e1,e2,e3,hm,hB_len,tk,pc,w1]
  exact ⟨hlt,Keep.mk' ⟨by simp [go_sem,e1],by simp [go_sem,e2],by simp [go_sem],by simp [go_sem,hs']⟩⟩
 ·have hie:i=4:=by omega
  subst hie
  generalize setOf (itK 4 a)=s at *
  simp [go_sem,e1,e2,e3,hm,hB_len,tk,pc]
  rw [if_pos (hB_one _)]
  simp [go_sem,e1,e2,e3,hm,hB_len,tk,pc]
  exact .hf _ (hf_eRS s)
theorem diag_step (i k:Nat) (hk:k=1∨k=2):eRS (setOf (kSum (kDiag i k) (kOf (List.replicate k (i:Int)))))=eRS (setOf (kDiag (i+1) k)):=by
 refine eRS_congr rfl fun j hj=>?_
 rw [Bool.eq_iff_iff,set_iff,set_iff]
 show j<szA (k:Int)∧pad (dig (k:Int) j)∈(kSum (kDiag i k) (kOf (List.replicate k (i:Int)))).ts↔j<szA (k:Int)∧pad (dig (k:Int) j)∈(List.range (i+1)).map fun (x:Nat)=>pad (List.replicate k (x:Int))
 rw [mem_sum,List.range_succ,List.map_append,List.mem_append]
 rfl
theorem diag_zero (k:Nat):hB (setOf (kDiag 0 k)).2=hB fun _=>false:=hB_congr fun j _=>decide_eq_false fun h=>absurd h.2 List.not_mem_nil
theorem allU (ts:TS) (h:okTS ts) (k:Nat) (hk:k=1∨k=2):SoundP Tryz.prog 147 [eTS ts,aI k] (eRS (setOf (kDiag ts.sorts.length k))):=by
 refine SoundP.of_sound (Sound.of_awp Tryz.call147 Tryz.func147 rfl (Nat.le_of_ble_eq_true (by kernel_rfl)) (by kernel_rfl) (pl:={}) ?_)
 have hns:=h.ns
 have hz:=diag_zero k
 simp [go_sem,hB_len]
 refine LoopGo.upK ts.sorts.length (fun i st=>st.tm 1=aI k∧st.tm 2 = .ip (cTS ts)∧st.tm 4 = .ptr 0 0∧st.tm 5 = .ptr 1 0∧st.tm 6=aI i∧st.mu=[.arr (aI 0 :: hB fun _=>false),.arr (cRS (setOf (kDiag i k)))]) ?_ ?_
 ·exact ⟨by simp [go_sem],by simp [go_sem],by simp [go_sem],by simp [go_sem],by simp [go_sem],by
   have e:cRS (setOf (kDiag 0 k))=aI k :: hB fun _=>false:=by simp only [cRS,hz];rfl
   rw [e];simp [go_sem];first | rfl | exact ⟨rfl,rfl⟩⟩
 rintro i st hi ⟨e1,e2,e4,e5,e6,hm⟩
 by_cases hlt:i<ts.sorts.length
 ·have w1:IntKind.i64.wrap ((i:Int)+1)=(i:Int)+1:=wrap_i64 (by omega) (by omega)
  have c1:∀ l:List Int,l=List.replicate k (i:Int)→SoundP Tryz.prog 76 [lI l] (eRS (setOf (kOf l))):=fun l hl=>by
   have hlen:l.length=k:=by rw [hl,List.length_replicate]
   have:=oneU l (by omega)
   rw [oneS_eq] at this
   rw [←QF.one_set (l:=l) (by omega) (fun x hx=>by rw [hl] at hx;rw [List.eq_of_mem_replicate hx];omega)]
   exact this
  have cu:∀ l:List Int,l=List.replicate k (i:Int)→SoundP Tryz.prog 148 [eRS (setOf (kDiag i k)),eRS (setOf (kOf l))] (eRS (setOf (kDiag (i+1) k))):=fun l hl=>by
   have:=unionU (setOf (kDiag i k)) (setOf (kOf l))
   rw [uni_set (by show (k:Int)=l.length;rw [hl,List.length_replicate]),hl,diag_step i k hk] at this
   rw [hl];exact this
  generalize hs':setOf (kDiag (i+1) k)=s' at *
  generalize setOf (kDiag i k)=s at *
  rcases hk with rfl | rfl
  ·have d1:=c1 [(i:Int)] rfl
   have d2:=cu [(i:Int)] rfl
   generalize setOf (kOf [(i:Int)])=q at *
   simp [go_sem,e1,e2,e4,e5,e6,hm,hlt]
   refine DrawGo.intro (by kernel_rfl) ?_
   simp [go_sem,e1,e2,e4,e5,e6,hm,hB_len,tk]
   refine CallStep.pure d1 (.cons (QD.wk1 _) .nil) ?_
   simp [go_sem,e1,e2,e4,e5,e6,hm,hB_len,tk]
   refine CallStep.pure d2 (.cons (.hf (hf_eRS _)) (.cons (.hf (hf_eRS _)) .nil)) ?_
   simp [go_sem,e1,e2,e4,e5,e6,hm,hB_len,tk,pc]
   rw [if_pos (hB_one _)]
   simp [go_sem,e1,e2,e4,e5,e6,hm,hB_len,tk,pc,w1]
   exact ⟨hlt,Keep.mk' ⟨by simp [go_sem,e1],by simp [go_sem,e2],by simp [go_sem,e4],by simp [go_sem,e5],by simp [go_sem],by simp [go_sem,hs']⟩⟩
  ·have d1:=c1 [(i:Int),(i:Int)] rfl
   have d2:=cu [(i:Int),(i:Int)] rfl
   generalize setOf (kOf [(i:Int),(i:Int)])=q at *
   simp [go_sem,e1,e2,e4,e5,e6,hm,hlt]
   refine DrawGo.intro (by kernel_rfl) ?_
   simp [go_sem,e1,e2,e4,e5,e6,hm,hB_len,tk]
   refine CallStep.pure d1 (.cons (QD.wk2 _ _) .nil) ?_
   simp [go_sem,e1,e2,e4,e5,e6,hm,hB_len,tk]
   refine CallStep.pure d2 (.cons (.hf (hf_eRS _)) (.cons (.hf (hf_eRS _)) .nil)) ?_
   simp [go_sem,e1,e2,e4,e5,e6,hm,hB_len,tk,pc]
   rw [if_pos (hB_one _)]
   simp [go_sem,e1,e2,e4,e5,e6,hm,hB_len,tk,pc,w1]
   exact ⟨hlt,Keep.mk' ⟨by simp [go_sem,e1],by simp [go_sem,e2],by simp [go_sem,e4],by simp [go_sem,e5],by simp [go_sem],by simp [go_sem,hs']⟩⟩
 ·have hie:i=ts.sorts.length:=by omega
  subst hie
  generalize setOf (kDiag ts.sorts.length k)=s at *
  simp [go_sem,e1,e2,e4,e5,e6,hm,hB_len,tk,pc]
  rw [if_pos (hB_one _)]
  simp [go_sem,e1,e2,e4,e5,e6,hm,hB_len,tk,pc]
  exact .hf _ (hf_eRS s)
end Go.Proofs.YtcfopdccdeeleaaGreatDoor.QH


namespace Go.Proofs.YtcfopdccdeeleaaGreatDoor.QI
open Go Go.Ev Go.Proofs Go.Proofs.YtcfopdccdeeleaaGreatDoor YM YF Y9 Y10 Y1 Y2 Y3 P1 P2 PA PB QD QE QF QG QH
theorem callee_at {c:Ck} {nm:ByteArray} {k:Nat} (hk:k<c.calls) (hp:k<c.ts.preds.length) (h:c.ts.preds[k].name=nm) (hb:∀(j:Nat) (hj:j<c.ts.preds.length),j<k→c.ts.preds[j].name≠nm):calleeL c nm=some k:=by
 unfold calleeL
 rw [List.findIdx?_eq_some_iff_getElem]
 refine ⟨by simp;omega,by simp [h],fun j hj=>?_⟩
 simp [hb j (by omega) hj]
theorem callee_no {c:Ck} {nm:ByteArray} (hb:∀(j:Nat) (hj:j<c.ts.preds.length),j<c.calls→c.ts.preds[j].name≠nm):calleeL c nm=none:=by
 unfold calleeL
 rw [List.findIdx?_eq_none_iff]
 intro p hp
 obtain ⟨j,hj,e⟩:=List.mem_iff_getElem.1 hp
 simp at hj
 rw [List.getElem_take] at e
 rw [←e]
 exact decide_eq_false (hb j (by omega) (by omega))
abbrev idxO:Option Nat→Int
 |some i=>i
 |none => -1
theorem predU (c:Ck) (hc:okCk c) (nm:ByteArray):SoundP Tryz.prog 81 [eTS c.ts,aI c.calls,aS nm] (aI (idxO (calleeL c nm))):=by
 refine SoundP.of_sound (Sound.of_awp Tryz.call81 Tryz.func81 rfl (Nat.le_of_ble_eq_true (by kernel_rfl)) (by kernel_rfl) (pl:={}) ?_)
 have hcl:=hc.calls
 have hnp:=hc.ts.np
 simp [go_sem]
 refine LoopGo.upK c.calls (fun k st=>st.tm 1=aI c.calls∧st.tm 2=aS nm∧st.tm 3 = .ip (cTS c.ts)∧st.tm 7=aI k∧∀(j:Nat) (hj:j<c.ts.preds.length),j<k→c.ts.preds[j].name≠nm) ?_ ?_
 ·exact ⟨by simp [go_sem],by simp [go_sem],by simp [go_sem],by simp [go_sem],fun j hj h=>by omega⟩
 rintro k st hk ⟨e1,e2,e3,e7,hI⟩
 by_cases hlt:k<c.calls
 ·have w1:IntKind.i64.wrap ((k:Int)+1)=(k:Int)+1:=wrap_i64 (by omega) (by omega)
  have hkp:k<c.ts.preds.length:=by omega
  by_cases hq:c.ts.preds[k].name=nm
  ·rw [callee_at hlt hkp hq hI]
   simp [go_sem,e1,e2,e3,e7,hlt,hkp,hq]
   exact .hf _ (HF.sc _)
  ·simp [go_sem,e1,e2,e3,e7,hlt,hkp,str_ne hq,w1]
   refine Keep.mk' ⟨by simp [go_sem,e1],by simp [go_sem,e2],by simp [go_sem,e3],by simp [go_sem],fun j hj hjk=>?_⟩
   by_cases he:j=k
   ·subst he;exact hq
   ·exact hI j hj (by omega)
 ·have hke:k=c.calls:=by omega
  subst hke
  rw [callee_no hI]
  simp [go_sem,e1,e2,e3,e7]
  exact .hf _ (HF.sc _)
theorem timedU (op:Int):SoundP Tryz.prog 92 [aI op] (aB (timeOp op)):=by
 refine SoundP.of_sound (Sound.of_awp Tryz.call92 Tryz.func92 rfl (Nat.le_of_ble_eq_true (by kernel_rfl)) (by kernel_rfl) (pl:={}) ?_)
 by_cases h5:op=5
 ·rw [show timeOp op=true by simp [timeOp,h5]]
  simp [go_sem,h5];exact .hf _ (HF.sc _)
 by_cases h48:48≤op
 ·by_cases h51:op≤51
  ·rw [show timeOp op=true by unfold timeOp;rcases (show op=48∨op=49∨op=50∨op=51 by omega) with h | h | h | h<;>simp [h]]
   simp [go_sem,h5,h48,h51];exact .hf _ (HF.sc _)
  ·rw [show timeOp op=false by simp [timeOp,h5,show ¬op=48 by omega,show ¬op=49 by omega,show ¬op=50 by omega,show ¬op=51 by omega]]
   simp [go_sem,h5,h48,h51];exact .hf _ (HF.sc _)
 ·rw [show timeOp op=false by simp [timeOp,h5,show ¬op=48 by omega,show ¬op=49 by omega,show ¬op=50 by omega,show ¬op=51 by omega]]
  simp [go_sem,h5,h48];exact .hf _ (HF.sc _)
abbrev rBo (b:Bool):List AV:=[aB b]
abbrev lBo (l:List Bool):AV := .lst false (l.map rBo)
theorem hf_lBo (l:List Bool):HF (lBo l):=HF.lst fun r hr c hc=>by
 obtain ⟨b,_,rfl⟩:=List.mem_map.1 hr
 rw [List.mem_singleton] at hc;subst hc;exact HF.sc _
def tpB (c:Ck) (nm:ByteArray):Bool:=match calleeL c nm with | some p=>c.timed.getD p false | none=>false
theorem temporalPredU (c:Ck) (hc:okCk c) (nm:ByteArray):SoundP Tryz.prog 93 [eTS c.ts,lBo c.timed,aI c.calls,aS nm] (aB (tpB c nm)):=by
 generalize hr:tpB c nm=r
 unfold tpB at hr
 refine SoundP.of_sound (Sound.of_awp Tryz.call93 Tryz.func93 rfl (Nat.le_of_ble_eq_true (by kernel_rfl)) (by kernel_rfl) (pl:={}) ?_)
 simp [go_sem]
 refine CallStep.pure (predU c hc nm) (.cons (.hf (hf_eTS _)) (.cons (.hf (HF.sc _)) (.cons (.hf (HF.sc _)) .nil))) ?_
 cases hcl:calleeL c nm with
 |none =>
  rw [hcl] at hr
  subst hr
  simp [go_sem,idxO]
  exact .hf _ (HF.sc _)
 |some p =>
  rw [hcl] at hr
  by_cases hp:p<c.timed.length
  ·have hr2:r=c.timed[p]:=by rw [←hr];simp [List.getD,hp]
   subst hr2
   simp [go_sem,idxO,hp]
   exact .hf _ (HF.sc _)
  ·have hr2:r=false:=by rw [←hr];simp [List.getD,hp]
   subst hr2
   simp [go_sem,idxO,hp]
   exact .hf _ (HF.sc _)
theorem temporalRU (c:Ck) (hc:okCk c) (hl:c.timed.length=c.calls):∀(m:Nat) (n:Nd),szN n≤m→Small n→SoundP Tryz.prog 98 [eTS c.ts,lBo c.timed,eNd n] (aB (tempL c n))
 | 0,n,hm,_=>by obtain ⟨op,nm,i,ks,p⟩:=n;simp [szN] at hm
 |m+1,n,hm,hs=>by
  have ih:∀ k,k∈n.kids→SoundP Tryz.prog 98 [eTS c.ts,lBo c.timed,eNd k] (aB (tempL c k)):=fun k hk =>
   temporalRU c hc hl m k (by have:=kid_lt hk;omega) (hs.kid hk)
  have hlen:=hs.len
  have hti:timeOfL c n.op n.name=(timeOp n.op||(decide (n.op=47)&&tpB c n.name)):=rfl
  rw [tempL_eq,hti]
  generalize hR:n.kids.any (tempL c)=R
  have ct:=timedU n.op
  have cp:=temporalPredU c hc n.name
  generalize timeOp n.op=T at *
  generalize tpB c n.name=B at *
  refine SoundP.of_sound (Sound.of_awp Tryz.call98 Tryz.func98 rfl (Nat.le_of_ble_eq_true (by kernel_rfl)) (by kernel_rfl) (pl:={}) ?_)
  simp [go_sem]
  refine CallStep.pure ct (.cons (.hf (HF.sc _)) .nil) ?_
  cases T with
  |true =>
   simp [go_sem]
   exact .hf _ (HF.sc _)
  |false =>
  rw [Bool.false_or]
  by_cases h47:n.op=47
  ·rw [decide_eq_true h47,Bool.true_and]
   simp [go_sem,h47,hl]
   refine CallStep.pure cp (.cons (.hf (hf_eTS _)) (.cons (.hf (hf_lBo _)) (.cons (.hf (HF.sc _)) (.cons (.hf (HF.sc _)) .nil)))) ?_
   cases B with
   |true =>
    simp [go_sem]
    exact .hf _ (HF.sc _)
   |false =>
   rw [Bool.false_or]
   simp [go_sem]
   refine LoopGo.upK n.kids.length (fun k st=>st.tm 1=lBo c.timed∧st.tm 3 = .ip (cTS c.ts)∧st.tm 5 = .ip (cNd n)∧st.tm 7=aI k∧(n.kids.drop k).any (tempL c)=R) ?_ ?_
   ·exact ⟨by simp [go_sem],by simp [go_sem],by simp [go_sem],by simp [go_sem],by simpa using hR⟩
   rintro k st hk ⟨e1,e3,e5,e7,hI⟩
   by_cases hkl:k=n.kids.length
   ·subst hkl
    rw [List.drop_length] at hI
    have hI:R=false:=by rw [←hI];rfl
    subst hI
    simp [go_sem,e1,e3,e5,e7]
    exact .hf _ (HF.sc _)
   have hlt:k<n.kids.length:=by omega
   have w1:IntKind.i64.wrap ((k:Int)+1)=(k:Int)+1:=wrap_i64 (by omega) (by omega)
   rw [List.drop_eq_getElem_cons hlt,List.any_cons] at hI
   have hi:=ih n.kids[k] (List.getElem_mem hlt)
   simp [go_sem,e1,e3,e5,e7,hlt,cNd_ones]
   refine DrawGo.intro (by kernel_rfl) ?_
   simp [go_sem,e1,e3,e5,e7,hlt,cNd_ones]
   refine CallStep.pure hi (.cons (.hf (hf_eTS _)) (.cons (.hf (hf_lBo _)) (.cons (.hf (hf_eNd _)) .nil))) ?_
   cases hq:tempL c n.kids[k] with
   |true =>
    rw [hq,Bool.true_or] at hI
    subst hI
    simp [go_sem,e1,e3,e5,e7,hlt]
    exact .hf _ (HF.sc _)
   |false =>
    rw [hq,Bool.false_or] at hI
    simp [go_sem,e1,e3,e5,e7,hlt,w1]
    exact Keep.mk' ⟨by simp [go_sem,e1],by simp [go_sem,e3],by simp [go_sem,e5],by simp [go_sem],hI⟩
  ·rw [decide_eq_false h47,Bool.false_and,Bool.false_or]
   simp [go_sem,h47]
   refine LoopGo.upK n.kids.length (fun k st=>st.tm 1=lBo c.timed∧st.tm 3 = .ip (cTS c.ts)∧st.tm 5 = .ip (cNd n)∧st.tm 7=aI k∧(n.kids.drop k).any (tempL c)=R) ?_ ?_
   ·exact ⟨by simp [go_sem],by simp [go_sem],by simp [go_sem],by simp [go_sem],by simpa using hR⟩
   rintro k st hk ⟨e1,e3,e5,e7,hI⟩
   by_cases hkl:k=n.kids.length
   ·subst hkl
    rw [List.drop_length] at hI
    have hI:R=false:=by rw [←hI];rfl
    subst hI
    simp [go_sem,e1,e3,e5,e7]
    exact .hf _ (HF.sc _)
   have hlt:k<n.kids.length:=by omega
   have w1:IntKind.i64.wrap ((k:Int)+1)=(k:Int)+1:=wrap_i64 (by omega) (by omega)
   rw [List.drop_eq_getElem_cons hlt,List.any_cons] at hI
   have hi:=ih n.kids[k] (List.getElem_mem hlt)
   simp [go_sem,e1,e3,e5,e7,hlt,cNd_ones]
   refine DrawGo.intro (by kernel_rfl) ?_
   simp [go_sem,e1,e3,e5,e7,hlt,cNd_ones]
   refine CallStep.pure hi (.cons (.hf (hf_eTS _)) (.cons (.hf (hf_lBo _)) (.cons (.hf (hf_eNd _)) .nil))) ?_
   cases hq:tempL c n.kids[k] with
   |true =>
    rw [hq,Bool.true_or] at hI
    subst hI
    simp [go_sem,e1,e3,e5,e7,hlt]
    exact .hf _ (HF.sc _)
   |false =>
    rw [hq,Bool.false_or] at hI
    simp [go_sem,e1,e3,e5,e7,hlt,w1]
    exact Keep.mk' ⟨by simp [go_sem,e1],by simp [go_sem,e3],by simp [go_sem,e5],by simp [go_sem],hI⟩
theorem rowsBo (l:List Bool):rowsWf 1 (l.map rBo):=fun r hr=>by
 obtain ⟨b,_,rfl⟩:=List.mem_map.1 hr
 exact ⟨rfl,rfl⟩
theorem appBo {mu:Mu} {lo:Nat} {s:AV} {xs:List Bool} {b:Bool} {K:AV→Mu→Prop} (ho:OwnF lo mu 1 s (xs.map rBo)) (hl:xs.length≤100000) (kk:∀ av mu',OwnF lo mu' 1 av ((xs++[b]).map rBo)→(∀ i,i<lo→mu'[i]?=mu[i]?)→K av mu') :
  AppendStep Tryz.prog mu #[97,97] s (.lst true [[aB b]]) K:=by
 refine AppendStep.ownF (lo:=lo) (e:=4) (sz:=1) (bt:=1) (zv:=aB false) (xs:=xs.map rBo) (ys:=[rBo b]) (by simp [go_sem]) (by simp [go_sem]) (by simp [go_sem]) rfl rfl (by omega) (by omega) ho (by simp [rowsOf]) (rowsBo xs) (rowsBo [b]) (by simp;omega) ?_
 intro av mu' h h2
 exact kk av mu' (by rw [List.map_append];exact h) h2
theorem rdBo {lo:Nat} {mu:Mu} {av:AV} {l:List Bool} (ho:OwnF lo mu 1 av (l.map rBo)):Rd mu av (lBo l):=
 Own.rd (sz:=1) ho.1 (rowsBo l).ok fun r hr c hc=>by
  obtain ⟨b,_,rfl⟩:=List.mem_map.1 hr
  rw [List.mem_singleton] at hc;subst hc;exact HF.sc _
theorem temporalsU (ts:TS) (h:okTS ts) (hp:∀ p,p∈ts.preds→WfN p.body):SoundP Tryz.prog 47 [eTS ts] (lBo (tmsL ts ts.preds.length)):=by
 refine SoundP.of_sound (Sound.of_awp Tryz.call47 Tryz.func47 rfl (Nat.le_of_ble_eq_true (by kernel_rfl)) (by kernel_rfl) (pl:={}) ?_)
 have hnp:=h.np
 simp [go_sem]
 refine LoopGo.upK ts.preds.length (fun k st=>st.tm 1 = .ip (cTS ts)∧st.tm 4=aI k∧OwnF 0 st.mu 1 (st.tm 3) ((tmsL ts k).map rBo)) ?_ ?_
 ·exact ⟨by simp [go_sem],by simp [go_sem],by simp [go_sem,tmsL];exact OwnF.nil (Nat.zero_le _)⟩
 rintro k st hk ⟨e1,e4,ho⟩
 by_cases hlt:k<ts.preds.length
 ·have w1:IntKind.i64.wrap ((k:Int)+1)=(k:Int)+1:=wrap_i64 (by omega) (by omega)
  generalize h3:st.tm 3=av at *
  have hrd:=rdBo ho
  have ht:=temporalRU (mkCk ts k) (okCk_mk h (by omega)) (tmsL_len ts k (by omega)) (szN ts.preds[k].body) ts.preds[k].body (Nat.le_refl _) (hp _ (List.getElem_mem hlt)).small
  have hlen:=tmsL_len ts k (by omega)
  have hnext:tmsL ts (k+1)=tmsL ts k++[tempL (mkCk ts k) ts.preds[k].body]:=by
   show tmsL ts k++(match ts.preds[k]? with | some p=>[tempL ⟨ts,k,tmsL ts k⟩ p.body] | none=>[])=_
   rw [List.getElem?_eq_getElem hlt]
   rfl
  simp [go_sem,e1,e4,h3,hlt,cPd_row]
  refine DrawGo.intro (by kernel_rfl) ?_
  simp [go_sem,e1,e4,h3,hlt,cPd_row]
  refine CallStep.lend (args':=[eTS ts,lBo (tmsL ts k),eNd ts.preds[k].body]) ht ⟨.hf _ (hf_eTS ts),hrd,.hf _ (hf_eNd _),trivial⟩ (FL.sc _) ?_
  simp [go_sem,e1,e4,h3,hlt,cPd_row]
  refine appBo ho (by omega) fun av' m' ho' _=>?_
  simp [go_sem,e1,e4,h3,hlt,w1]
  exact Keep.mk' ⟨by simp [go_sem,e1],by simp [go_sem],by rw [hnext];simpa [go_sem] using ho'⟩
 ·have hke:k=ts.preds.length:=by omega
  subst hke
  generalize h3:st.tm 3=av at *
  simp [go_sem,e1,e4,h3]
  exact rdBo ho
end Go.Proofs.YtcfopdccdeeleaaGreatDoor.QI


namespace Go.Proofs.YtcfopdccdeeleaaGreatDoor.QJ
open Go Go.Ev Go.Proofs Go.Proofs.YtcfopdccdeeleaaGreatDoor YM YF Y9 Y10 Y1 Y2 Y3 P1 P2 PA PB QD QE QF QG QH QI
abbrev Vr:=ByteArray×RS
abbrev cVr (v:Vr):List AV:=aS v.1 :: cRS v.2
abbrev lVr (l:List Vr):AV := .lst false (l.map cVr)
theorem hf_cVr (v:Vr):∀ c,c∈cVr v→HF c:=fun c hc=>by
 rcases List.mem_cons.1 hc with rfl | hc
 ·exact HF.sc _
 ·exact ((setC v.2).sc c hc).2
theorem hf_lVr (l:List Vr):HF (lVr l):=HF.lst fun r hr c hc=>by
 obtain ⟨v,_,rfl⟩:=List.mem_map.1 hr
 exact hf_cVr v c hc
theorem cVr_one (v:Vr):∀ c,c∈cVr v→c.one=true:=fun c hc=>by
 rcases List.mem_cons.1 hc with rfl | hc
 ·rfl
 ·exact ((setC v.2).sc c hc).1
theorem rowsVr (l:List Vr):rowsWf 66 (l.map cVr):=fun r hr=>by
 obtain ⟨v,_,rfl⟩:=List.mem_map.1 hr
 exact ⟨by simp [hB],List.all_eq_true.2 (cVr_one v)⟩
theorem appVr {mu:Mu} {lo:Nat} {s x:AV} {xs ys:List Vr} {K:AV→Mu→Prop} (ho:OwnF lo mu 66 s (xs.map cVr)) (hx:rowsOf mu x=some (ys.map cVr)) (hl:xs.length+ys.length≤100000) (kk:∀ av mu',OwnF lo mu' 66 av ((xs++ys).map cVr)→(∀ i,i<lo→mu'[i]?=mu[i]?)→K av mu') :
  AppendStep Tryz.prog mu #[101,101] s x K:=by
 refine AppendStep.ownF (lo:=lo) (e:=164) (sz:=66) (bt:=88) (zv := .agg (aS ⟨#[]⟩ :: aI 0 :: zs)) (xs:=xs.map cVr) (ys:=ys.map cVr) (by simp [go_sem]) (by simp [go_sem]) (by simp [go_sem];rfl) rfl rfl (by omega) (by omega) ho hx (rowsVr xs) (rowsVr ys) (by simp;omega) ?_
 intro av mu' h h2
 exact kk av mu' (by rw [List.map_append];exact h) h2
theorem rdVr {lo:Nat} {mu:Mu} {av:AV} {l:List Vr} (ho:OwnF lo mu 66 av (l.map cVr)):Rd mu av (lVr l):=
 Own.rd (sz:=66) ho.1 (rowsVr l).ok fun r hr c hc=>by
  obtain ⟨v,_,rfl⟩:=List.mem_map.1 hr
  exact hf_cVr v c hc
theorem pcV (n:ByteArray) (q:RS):putCells (aS n :: aI 0 :: zs) 1 (aI q.1 :: hB q.2)=cVr (n,q):=by
 have hzl:zs.length=64:=rfl
 rw [putCells_eq _ _ _ (by simp [hB_len,hzl])]
 simp [hB_len,hzl,List.drop_of_length_le]
def envV (env:List (ByteArray×Int)):List Vr:=env.map fun p=>(p.1,setOf (kOf [p.2]))
theorem envU (env:List (ByteArray×Int)) (hl:env.length≤1000) (hr:∀ p,p∈env→0≤p.2∧p.2<4):SoundP Tryz.prog 48 [lPm env] (lVr (envV env)):=by
 refine SoundP.of_sound (Sound.of_awp Tryz.call48 Tryz.func48 rfl (Nat.le_of_ble_eq_true (by kernel_rfl)) (by kernel_rfl) (pl:={}) ?_)
 simp [go_sem]
 refine LoopGo.upK env.length (fun k st=>st.tm 0=lPm env∧st.tm 4=aI k∧OwnF 0 st.mu 66 (st.tm 3) ((envV (env.take k)).map cVr)) ?_ ?_
 ·exact ⟨by simp [go_sem],by simp [go_sem],by simp [go_sem,envV];exact OwnF.nil (Nat.zero_le _)⟩
 rintro k st hk ⟨e0,e4,ho⟩
 by_cases hlt:k<env.length
 ·have w1:IntKind.i64.wrap ((k:Int)+1)=(k:Int)+1:=wrap_i64 (by omega) (by omega)
  generalize h3:st.tm 3=av at *
  have hp:=hr _ (List.getElem_mem hlt)
  have c1:SoundP Tryz.prog 76 [lI [env[k].2]] (eRS (setOf (kOf [env[k].2]))):=by
   have:=oneU [env[k].2] (by simp)
   rw [oneS_eq] at this
   rw [←QF.one_set (l:=[env[k].2]) (by simp) (fun x hx=>by rw [List.mem_singleton] at hx;subst hx;exact hp)]
   exact this
  have hnext:envV (env.take (k+1))=envV (env.take k)++[(env[k].1,setOf (kOf [env[k].2]))]:=by
   unfold envV
   rw [List.take_succ_eq_append_getElem hlt,List.map_append]
   rfl
  have hlen:(envV (env.take k)).length=k:=by simp [envV];omega
  generalize setOf (kOf [env[k].2])=q at *
  simp [go_sem,e0,e4,h3,hlt]
  refine DrawGo.intro (by kernel_rfl) ?_
  simp [go_sem,e0,e4,h3,hlt]
  refine CallStep.pure c1 (.cons (QD.wk1 _) .nil) ?_
  simp [go_sem,e0,e4,h3,hlt]
  rw [if_pos ⟨hB_len _,hB_one _⟩]
  generalize hC:putCells _ 1 _=C
  have hC2:C=cVr (env[k].1,q):=by rw [←hC];exact pcV _ _
  subst hC2
  clear hC
  have hcl:(cVr (env[k].1,q)).length=66:=by simp [hB_len]
  have hco:=cVr_one (env[k].1,q)
  generalize hV:cVr (env[k].1,q)=V at *
  simp [go_sem,e0,e4,h3,hlt,hcl]
  rw [if_pos hco]
  simp [go_sem,e0,e4,h3,hlt,hcl]
  refine appVr (ys:=[(env[k].1,q)]) ho (by simp [rowsOf,hV]) (by simp;omega) fun av' m' ho' _=>?_
  simp [go_sem,e0,e4,h3,hlt,w1]
  exact Keep.mk' ⟨by simp [go_sem,e0],by simp [go_sem],by rw [hnext];simpa [go_sem] using ho'⟩
 ·have hke:k=env.length:=by omega
  subst hke
  rw [List.take_length] at ho
  generalize h3:st.tm 3=av at *
  simp [go_sem,e0,e4,h3]
  exact rdVr ho
end Go.Proofs.YtcfopdccdeeleaaGreatDoor.QJ


namespace Go.Proofs.YtcfopdccdeeleaaGreatDoor.QK
open Go Go.Ev Go.Proofs Go.Proofs.YtcfopdccdeeleaaGreatDoor YM YF Y9 Y10 Y1 Y2 Y3 P1 P2 PA PB QD QE QF QG QH QI QJ
def fin (c:List AV) (l:List Kd):List AV:=match l.getLast? with | some k=>cRS (setOf k) | none=>c
theorem fin_app (c:List AV) (l m:List Kd):fin c (l++m)=fin (fin c l) m:=by
 unfold fin
 rw [List.getLast?_append]
 cases m.getLast?<;>rfl
theorem fin_one (c:List AV) (k:Kd):fin c [k]=cRS (setOf k):=rfl
theorem oneK {l:List Int} (h:1≤l.length∧l.length≤3) (hx:∀ x,x∈l→0≤x∧x<4):oneC l=cRS (setOf (kOf l)):=by
 rw [oneS_eq]
 exact AV.agg.inj (QF.one_set h hx)
theorem nmF_eq (nm:ByteArray):∀(l:List Fld) (c:List AV) (k:Nat),(∀ f,f∈l→(1≤f.sorts.length∧f.sorts.length≤3)∧∀ x,x∈f.sorts→0≤x∧x<4)→nmF nm l (c,k)=(fin c (meanF l nm),k+(meanF l nm).length)
 | [],c,k,_=>rfl
 |f :: l,c,k,h=>by
  have hf:=h f (List.mem_cons_self ..)
  have ih:=fun c k=>nmF_eq nm l c k fun g hg=>h g (List.mem_cons_of_mem _ hg)
  by_cases hq:f.name=nm
  ·have e:meanF (f :: l) nm=[kOf f.sorts]++meanF l nm:=by simp [meanF,hq]
   rw [e,fin_app,fin_one]
   simp only [nmF,stF,if_pos hq]
   rw [ih,oneK hf.1 hf.2]
   simp;omega
  ·have e:meanF (f :: l) nm=meanF l nm:=by simp [meanF,hq]
   rw [e]
   simp only [nmF,stF,if_neg hq]
   exact ih c k
theorem st_eq (nm:ByteArray) (i:Nat) (hi:i<4) (x:ByteArray×Bool) (c:List AV) (k:Nat):st3 nm i x (st2 nm i x (st1 nm i x (c,k)))=(fin c (meanS1 i x nm),k+(meanS1 i x nm).length):=by
 have o1:=oneK (l:=[(i:Int)]) (by simp) (fun y hy=>by simp at hy;subst hy;omega)
 have o2:=oneK (l:=[(i:Int),(i:Int)]) (by simp) (fun y hy=>by simp at hy;rcases hy with rfl | rfl<;>omega)
 have a1:∀ c k,st1 nm i x (c,k)=(fin c (if x.1=nm then [kOf [(i:Int)]] else []),k+(if x.1=nm then [kOf [(i:Int)]] else []).length):=fun c k=>by
  unfold st1;split
  ·rw [fin_one,o1];rfl
  ·rfl
 have a2:∀ c k,st2 nm i x (c,k)=(fin c (if x.2=true∧x.1++sFirst=nm then [kOf [(i:Int)]] else []),k+(if x.2=true∧x.1++sFirst=nm then [kOf [(i:Int)]] else []).length):=fun c k=>by
  unfold st2;split
  ·rw [fin_one,o1];rfl
  ·rfl
 have a3:∀ c k,st3 nm i x (c,k)=(fin c (if x.2=true∧x.1++sNext=nm then [kOf [(i:Int),(i:Int)]] else []),k+(if x.2=true∧x.1++sNext=nm then [kOf [(i:Int),(i:Int)]] else []).length):=fun c k=>by
  unfold st3;split
  ·rw [fin_one,o2];rfl
  ·rfl
 unfold meanS1
 rw [a1,a2,a3,fin_app,fin_app,List.length_append,List.length_append]
 simp only [Nat.add_assoc]
theorem nmS_eq (nm:ByteArray):∀(l:List (ByteArray×Bool)) (i:Nat) (c:List AV) (k:Nat),i+l.length≤4→nmS nm i l (c,k)=(fin c (meanS i l nm),k+(meanS i l nm).length)
 | [],i,c,k,_=>rfl
 |x :: l,i,c,k,h=>by
  simp only [List.length_cons] at h
  have ih:=fun c k=>nmS_eq nm l (i+1) c k (by omega)
  simp only [nmS,meanS]
  rw [st_eq nm i (by omega),ih,fin_app,List.length_append,Nat.add_assoc]
theorem named_eq {ts:TS} (h:okTS ts) (nm:ByteArray):named ts nm=(fin (aI 0 :: zs) (means ts nm),(means ts nm).length):=by
 unfold named means
 rw [nmF_eq nm ts.fields _ _ fun f hf=>?_,nmS_eq nm ts.sorts _ _ _ (by have:=h.ns;omega),fin_app,List.length_append,Nat.zero_add]
 have:=h.fl f hf
 have hns:=h.ns
 exact ⟨by omega,fun x hx=>by have:=this.2.2 x hx;omega⟩
end Go.Proofs.YtcfopdccdeeleaaGreatDoor.QK


namespace Go.Proofs.YtcfopdccdeeleaaGreatDoor.QL
open Go Go.Ev Go.Proofs Go.Proofs.YtcfopdccdeeleaaGreatDoor YM YF Y9 Y10 Y1 Y2 Y3 P1 P2 PA PB QD QE QF QG QH QI QJ QK
abbrev cVw (c:Ck) (inn:Bool):List AV:=[lSo c.ts.sorts,lFl c.ts.fields,lPd c.ts.preds,lFa c.ts.facts,lBo c.timed,aI c.calls,aB inn]
abbrev eVw (c:Ck) (inn:Bool):AV := .agg (cVw c inn)
def envS (s:Scp):List Vr:=s.reverse.map fun v=>(v.1,setOf v.2)
theorem envS_len (s:Scp):(envS s).length=s.length:=by simp [envS]
theorem envV_eq (env:List (ByteArray×Int)):envV env=envS (bindL env):=by
 have h:∀(l:List (ByteArray×Int)) (a:Scp),l.foldl (fun s p=>(p.1,kOf [p.2]) :: s) a=(l.map fun p=>(p.1,kOf [p.2])).reverse++a:=by
  intro l
  induction l with
  |nil=>intro a;rfl
  |cons p l ih=>intro a;rw [List.foldl_cons,ih];simp
 unfold envV envS bindL
 rw [h,List.append_nil,List.reverse_reverse,List.map_map]
 rfl
theorem envS_get (s:Scp) (d:Nat) (h:d<s.length) (h':s.length-1-d<(envS s).length):(envS s)[s.length-1-d]=(s[d].1,setOf s[d].2):=by
 have e:s.length-1-(s.length-1-d)=d:=by omega
 simp [envS,List.getElem_reverse,e]
abbrev zR:RS:=(0,fun _=>false)
abbrev eDg (d:Dg):AV := .agg [aI d.1,aI d.2]
def endR (z:RS):Res→AV
 | .error e => .tup [eRS z,eDg e]
 | .ok (some k) => .tup [eRS (setOf k),eDg (0,0)]
 | .ok none => .tup [eRS zR,eDg (0,0)]
theorem hf_end (s:RS) (d:Dg):HF (.tup [eRS s,eDg d]):=HF.tup fun x hx=>by
 rcases List.mem_cons.1 hx with rfl | hx
 ·exact hf_eRS s
 ·rw [List.mem_singleton] at hx;subst hx
  exact HF.agg fun c hc=>by
   rcases List.mem_cons.1 hc with rfl | hc
   ·exact HF.sc _
   ·rw [List.mem_singleton] at hc;subst hc;exact HF.sc _
theorem okNm.ofTS {ts:TS} (h:okTS ts):okNm ts:=⟨h.sl,by have:=h.ns;omega,by have:=h.nf;omega,fun f hf=>by have:=h.fl f hf;omega⟩
theorem nameU (c:Ck) (hc:okCk c) (inn:Bool) (s:Scp) (n:Nd) (hs:s.length≤100000):SoundP Tryz.prog 94 [eVw c inn,lVr (envS s),eNd n] (endR zR (nameK c s n.name n.pos)):=by
 generalize hR:endR zR (nameK c s n.name n.pos)=R
 unfold nameK at hR
 refine SoundP.of_sound (Sound.of_awp Tryz.call94 Tryz.func94 rfl (Nat.le_of_ble_eq_true (by kernel_rfl)) (by kernel_rfl) (pl:={}) ?_)
 have hel:=envS_len s
 have w0:IntKind.i64.wrap ((s.length:Int)-1)=(s.length:Int)-1:=wrap_i64 (by omega) (by omega)
 simp [go_sem,hel,w0]
 refine LoopGo.upK s.length (fun d st=>st.tm 1=lVr (envS s)∧st.tm 3 = .ip (cVw c inn)∧st.tm 5 = .ip (cNd n)∧st.tm 6 = .ptr 0 0∧st.tm 7 = .ptr 1 0∧st.tm 8=aI ((s.length:Int)-1-d)∧st.mu=[.arr (aI 0 :: hB fun _=>false),.arr [aI 0,aI 0]]∧findS n.name (s.drop d)=findS n.name s) ?_ ?_
 ·exact ⟨by simp [go_sem],by simp [go_sem],by simp [go_sem],by simp [go_sem],by simp [go_sem],by simp [go_sem],by simp [go_sem];first | rfl | exact ⟨rfl,rfl⟩,rfl⟩
 rintro d st hd ⟨e1,e3,e5,e6,e7,e8,hm,hI⟩
 by_cases hlt:d<s.length
 ·have hl:s.length-1-d<(envS s).length:=by omega
  have hget:=envS_get s d hlt hl
  obtain ⟨e,he⟩:∃ e:Nat,e=s.length-1-d:=⟨_,rfl⟩
  have hei:(s.length:Int)-1-d=(e:Int):=by omega
  rw [hei] at e8
  rw [←he] at hl
  have hget:(envS s)[e]=(s[d].1,setOf s[d].2):=by simp only [he];exact hget
  have w1:IntKind.i64.wrap ((e:Int)-1)=(s.length:Int)-1-((d+1:Nat):Int):=by rw [wrap_i64 (by omega) (by omega)];omega
  rw [List.drop_eq_getElem_cons hlt] at hI
  have h0:(0:Int)≤(e:Int):=by omega
  by_cases hq:s[d].1=n.name
  ·have hf:findS n.name s=s[d] :: s.drop (d+1):=by rw [←hI,findS,if_pos hq]
   rw [hf] at hR
   simp only [endR] at hR
   have hR:R = .tup [eRS (setOf s[d].2),eDg (0,0)]:=hR.symm
   subst hR
   simp [go_sem,e1,e3,e5,e6,e7,e8,hm,hl,hget]
   refine DrawGo.intro (by kernel_rfl) ?_
   simp [go_sem,e1,e3,e5,e6,e7,e8,hm,hl,hget,hq]
   generalize setOf s[d].2=q at *
   simp [go_sem,e1,e3,e5,e6,e7,e8,hm,hl,hget,hB_len,tk,pc]
   rw [if_pos (hB_one _)]
   simp [go_sem,e1,e3,e5,e6,e7,e8,hm,hB_len,tk,pc]
   exact .hf _ (hf_end q (0,0))
  ·rw [findS,if_neg hq] at hI
   simp [go_sem,e1,e3,e5,e6,e7,e8,hm,hl,hget]
   refine DrawGo.intro (by kernel_rfl) ?_
   simp [go_sem,e1,e3,e5,e6,e7,e8,hm,hl,hget,str_ne hq,w1,hB_len]
   exact ⟨by omega,Keep.mk' ⟨by simp [go_sem,e1],by simp [go_sem,e3],by simp [go_sem,e5],by simp [go_sem,e6],by simp [go_sem,e7],by simp [go_sem],by simp [go_sem],hI⟩⟩
 ·have hde:d=s.length:=by omega
  subst hde
  have e8:st.tm 8=aI (-1):=by rw [e8];congr 2;omega
  rw [List.drop_length] at hI
  rw [←hI] at hR
  simp only [findS] at hR
  have hN:=namedU c.ts (okNm.ofTS hc.ts) n.name
  have hNs:=named_set c.ts n.name
  rw [named_eq hc.ts] at hN hNs
  simp [go_sem,e1,e3,e5,e6,e7,e8,hm]
  refine CallStep.pure hN (.cons (.hf (hf_eTS _)) (.cons (.hf (HF.sc _)) .nil)) ?_
  have hF:SetC (fin (aI 0 :: zs) (means c.ts n.name)):=hNs
  generalize hms:means c.ts n.name=ms at *
  match ms,hms with
  | [],_ =>
   simp only [endR] at hR
   subst hR
   generalize fin (aI 0 :: zs) []=C at *
   simp [go_sem,e1,e3,e5,e6,e7,e8,hm,hF.len,cNd_f4,hB_len,tk,pc]
   rw [if_pos hF.one]
   simp [go_sem,e1,e3,e5,e6,e7,e8,hm,hF.len,cNd_f4,hB_len,tk,pc]
   refine DrawGo.float [] [0,1,2,3] [(4,true),(5,false)] (by kernel_rfl) (by kernel_rfl) (by kernel_rfl) ?_
   simp [go_sem,e1,e3,e5,e6,e7,e8,hm,hF.len,cNd_f4,hB_len,tk,pc]
   exact ⟨rfl,.hf _ (hf_end zR (_,n.pos))⟩
  | [k],_ =>
   simp only [endR] at hR
   subst hR
   have e:fin (aI 0 :: zs) [k]=aI (setOf k).1 :: hB (setOf k).2:=rfl
   rw [e] at hF ⊢
   generalize setOf k=q at *
   simp [go_sem,e1,e3,e5,e6,e7,e8,hm,hF.len,cNd_f4,hB_len,tk,pc]
   rw [if_pos (hB_one _)]
   generalize hP:putCells _ 0 (aI q.1 :: hB q.2)=P
   have hP2:P=aI q.1 :: hB q.2:=by rw [←hP];exact pc (aI 0) _ (fun _=>false) _
   subst hP2
   clear hP
   simp [go_sem,e1,e3,e5,e6,e7,e8,hm,hF.len,cNd_f4,hB_len,tk,pc]
   rw [if_pos (hB_one _)]
   simp [go_sem,e1,e3,e5,e6,e7,e8,hm,hF.len,cNd_f4,hB_len,tk,pc]
   exact .hf _ (hf_end q (0,0))
  |k1 :: k2 :: l,_ =>
   simp only [endR] at hR
   subst hR
   generalize fin (aI 0 :: zs) (k1 :: k2 :: l)=C at *
   simp [go_sem,e1,e3,e5,e6,e7,e8,hm,hF.len,cNd_f4,hB_len,tk,pc]
   rw [if_pos hF.one]
   simp [go_sem,e1,e3,e5,e6,e7,e8,hm,hF.len,cNd_f4,hB_len,tk,pc]
   have hl0:¬((l.length:Int)+1+1=0):=by omega
   have hl1:(1:Int)<(l.length:Int)+1+1:=by omega
   simp [go_sem,e1,e3,e5,e6,e7,e8,hm,hl0,hl1]
   refine DrawGo.float [] [0,1,2,3] [(4,true),(5,false)] (by kernel_rfl) (by kernel_rfl) (by kernel_rfl) ?_
   simp [go_sem,e1,e3,e5,e6,e7,e8,hm,hF.len,cNd_f4,hB_len,tk,pc]
   exact ⟨rfl,.hf _ (hf_end zR (_,n.pos))⟩
end Go.Proofs.YtcfopdccdeeleaaGreatDoor.QL


namespace Go.Proofs.YtcfopdccdeeleaaGreatDoor.QM
open Go Go.Ev Go.Proofs Go.Proofs.YtcfopdccdeeleaaGreatDoor YM YF Y9 Y10 Y1 Y2 Y3 P1 P2 PA PB QD QE QF QG QH QI QJ QK QL
theorem formulaRU (n:Nd):SoundP Tryz.prog 111 [eNd n] (aB (decide (30≤n.op))):=by
 refine SoundP.of_sound (Sound.of_awp Tryz.call111 Tryz.func111 rfl (Nat.le_of_ble_eq_true (by kernel_rfl)) (by kernel_rfl) (pl:={}) ?_)
 by_cases h:30≤n.op
 ·simp [go_sem,h];exact .hf _ (HF.sc _)
 ·simp [go_sem,h];exact .hf _ (HF.sc _)
end Go.Proofs.YtcfopdccdeeleaaGreatDoor.QM


namespace Go.Proofs.YtcfopdccdeeleaaGreatDoor.QN
open Go Go.Ev Go.Proofs Go.Proofs.YtcfopdccdeeleaaGreatDoor Y1 Y2 Y3 YM YF Y9 Y10 Y12 P1 P2 PA PB QD QE QF QG QH QI QJ QK QL QM
def setO:Option Kd→RS
 |some k=>setOf k
 |none=>zR
abbrev lRS (l:List RS):AV := .lst false (l.map cRS)
theorem hf_cRS (v:RS):∀ c,c∈cRS v→HF c:=fun c hc=>((setC v).sc c hc).2
theorem cRS_one (v:RS):∀ c,c∈cRS v→c.one=true:=fun c hc=>((setC v).sc c hc).1
theorem rowsRS (l:List RS):rowsWf 65 (l.map cRS):=fun r hr=>by
 obtain ⟨v,_,rfl⟩:=List.mem_map.1 hr
 exact ⟨by simp [hB],List.all_eq_true.2 (cRS_one v)⟩
theorem appRS {mu:Mu} {lo:Nat} {s x:AV} {xs ys:List RS} {K:AV→Mu→Prop} (ho:OwnF lo mu 65 s (xs.map cRS)) (hx:rowsOf mu x=some (ys.map cRS)) (hl:xs.length+ys.length≤100000) (kk:∀ av mu',OwnF lo mu' 65 av ((xs++ys).map cRS)→(∀ i,i<lo→mu'[i]?=mu[i]?)→K av mu') :
  AppendStep Tryz.prog mu #[159,159] s x K:=by
 refine AppendStep.ownF (lo:=lo) (e:=57) (sz:=65) (bt:=72) (zv := .agg (aI 0 :: zs)) (xs:=xs.map cRS) (ys:=ys.map cRS) (by simp [go_sem]) (by simp [go_sem]) (by simp [go_sem];rfl) rfl rfl (by omega) (by omega) ho hx (rowsRS xs) (rowsRS ys) (by simp;omega) ?_
 intro av mu' h h2
 exact kk av mu' (by rw [List.map_append];exact h) h2
theorem rdRS {lo:Nat} {mu:Mu} {av:AV} {l:List RS} (ho:OwnF lo mu 65 av (l.map cRS)):Rd mu av (lRS l):=
 Own.rd (sz:=65) ho.1 (rowsRS l).ok fun r hr c hc=>by
  obtain ⟨v,_,rfl⟩:=List.mem_map.1 hr
  exact hf_cRS v c hc
theorem hf_sb (s:RS) (b:Bool):HF (.tup [eRS s,aB b]):=HF.tup fun x hx=>by
 rcases List.mem_cons.1 hx with rfl | hx
 ·exact hf_eRS s
 ·rw [List.mem_singleton] at hx;subst hx;exact HF.sc _
def ApE (op:Int):Res→RS→Bool→Prop
 | .ok k,S,b=>b=true∧(kd op=101→∃ q,k=some q∧S=setOf q)
 | .error _,S,b=>b=false
theorem wkS1 (a:RS):WKs [eRS a] [eRS a] := .cons (.hf (hf_eRS _)) .nil
theorem wkS2 (a b:RS):WKs [eRS a,eRS b] [eRS a,eRS b] := .cons (.hf (hf_eRS _)) (.cons (.hf (hf_eRS _)) .nil)
theorem wkTI (ts:TS) (k:Int):WKs [eTS ts,aI k] [eTS ts,aI k] := .cons (.hf (hf_eTS _)) (.cons (.hf (HF.sc _)) .nil)
theorem none_set (n:Int):eRS (n,fun _=>false)=eRS (setOf ⟨n,[]⟩):=eRS_congr rfl fun j _=>(decide_eq_false fun h=>absurd h.2 List.not_mem_nil).symm
def itS:Nat→RS→RS
 | 0,s=>s
 |i+1,s=>uniS (itS i s) (joinS (itS i s) (itS i s))
theorem itS_ar (s:RS):∀ i,(itS i s).1=s.1
 | 0=>rfl
 |i+1=>itS_ar s i
theorem cloRU (s0:RS) (h:1≤s0.1∧s0.1≤3):SoundP Tryz.prog 153 [eRS s0] (eRS (itS 4 s0)):=by
 refine SoundP.of_sound (Sound.of_awp Tryz.call153 Tryz.func153 rfl (Nat.le_of_ble_eq_true (by kernel_rfl)) (by kernel_rfl) (pl:={ mt:=[1] }) ?_)
 simp [go_sem,hB_len]
 refine ⟨hB_one _,?_⟩
 refine LoopGo.upK 4 (fun i st=>st.tm 1 = .ptr 0 0∧st.tm 2 = .ptr 1 0∧st.tm 3=aI i∧st.mu=[.arr (cRS (itS i s0)),.arr (aI 0 :: hB fun _=>false)]) ?_ ?_
 ·exact ⟨by simp [go_sem],by simp [go_sem],by simp [go_sem],by simp [go_sem];exact ⟨⟨rfl,rfl⟩,rfl⟩⟩
 rintro i st hi ⟨e1,e2,e3,hm⟩
 by_cases hlt:i<4
 ·have hlt':(i:Int)<4:=by omega
  have w1:IntKind.i64.wrap ((i:Int)+1)=(i:Int)+1:=wrap_i64 (by omega) (by omega)
  have har:=itS_ar s0 i
  have cj:=joinU (itS i s0) (itS i s0) (by omega) (by omega)
  have cu:=unionU (itS i s0) (joinS (itS i s0) (itS i s0))
  have hu:uniS (itS i s0) (joinS (itS i s0) (itS i s0))=itS (i+1) s0:=rfl
  rw [hu] at cu
  clear hu
  generalize hs':itS (i+1) s0=s' at *
  generalize joinS (itS i s0) (itS i s0)=q at *
  generalize itS i s0=s at *
  simp [go_sem,e1,e2,e3,hm,hlt']
  refine DrawGo.intro (by kernel_rfl) ?_
  simp [go_sem,e1,e2,e3,hm,hB_len,tk]
  refine CallStep.pure cj (.cons (.hf (hf_eRS _)) (.cons (.hf (hf_eRS _)) .nil)) ?_
  simp [go_sem,e1,e2,e3,hm,hB_len,tk]
  refine CallStep.pure cu (.cons (.hf (hf_eRS _)) (.cons (.hf (hf_eRS _)) .nil)) ?_
  simp [go_sem,e1,e2,e3,hm,hB_len,tk,pc]
  rw [if_pos (hB_one _)]
  simp [go_sem,e1,e2,e3,hm,hB_len,tk,pc,w1]
  exact ⟨hlt,Keep.mk' ⟨by simp [go_sem,e1],by simp [go_sem,e2],by simp [go_sem],by simp [go_sem,hs']⟩⟩
 ·have hie:i=4:=by omega
  subst hie
  generalize itS 4 s0=s at *
  simp [go_sem,e1,e2,e3,hm,hB_len,tk,pc]
  rw [if_pos (hB_one _)]
  simp [go_sem,e1,e2,e3,hm,hB_len,tk,pc]
  exact .hf _ (hf_eRS s)
def prC (ts:TS) (n:Nd) (l:List RS) (S:RS) (b:Bool):Prop:=SoundP Tryz.prog 97 [eTS ts,eNd n,lRS l] (.tup [eRS S,aB b])
theorem ap2 (ts:TS) (n:Nd) (L:List RS) (h:n.op=2):prC ts n L (n.n,fun _=>false) true:=by
 unfold prC
 refine SoundP.of_sound (Sound.of_awp Tryz.call97 Tryz.func97 rfl (Nat.le_of_ble_eq_true (by kernel_rfl)) (by kernel_rfl) (pl:={}) ?_)
 simp [go_sem,h,hB_len,tk,pc]
 exact .hf _ (hf_sb (n.n,fun _=>false) true)
theorem ap3 (ts:TS) (ok:okTS ts) (n:Nd) (L:List RS) (h:n.op=3):prC ts n L (setOf (kDiag ts.sorts.length 1)) true:=by
 unfold prC
 refine SoundP.of_sound (Sound.of_awp Tryz.call97 Tryz.func97 rfl (Nat.le_of_ble_eq_true (by kernel_rfl)) (by kernel_rfl) (pl:={}) ?_)
 have c1:=allU ts ok 1 (by omega)
 generalize setOf (kDiag ts.sorts.length 1)=q at *
 simp [go_sem,h]
 refine CallStep.pure c1 (wkTI ts 1) ?_
 simp [go_sem,h,hB_len,tk,pc]
 rw [if_pos (hB_one _)]
 generalize hP:putCells _ 0 (aI q.1 :: hB q.2)=P
 have hP2:P=aI q.1 :: hB q.2:=by rw [←hP];exact pc (aI 0) _ (fun _=>false) _
 subst hP2
 clear hP
 simp [go_sem,h,hB_len,tk,pc]
 exact .hf _ (hf_sb q _)
theorem ap4 (ts:TS) (ok:okTS ts) (n:Nd) (L:List RS) (h:n.op=4):prC ts n L (setOf (kDiag ts.sorts.length 2)) true:=by
 unfold prC
 refine SoundP.of_sound (Sound.of_awp Tryz.call97 Tryz.func97 rfl (Nat.le_of_ble_eq_true (by kernel_rfl)) (by kernel_rfl) (pl:={}) ?_)
 have c1:=allU ts ok 2 (by omega)
 generalize setOf (kDiag ts.sorts.length 2)=q at *
 simp [go_sem,h]
 refine CallStep.pure c1 (wkTI ts 2) ?_
 simp [go_sem,h,hB_len,tk,pc]
 rw [if_pos (hB_one _)]
 generalize hP:putCells _ 0 (aI q.1 :: hB q.2)=P
 have hP2:P=aI q.1 :: hB q.2:=by rw [←hP];exact pc (aI 0) _ (fun _=>false) _
 subst hP2
 clear hP
 simp [go_sem,h,hB_len,tk,pc]
 exact .hf _ (hf_sb q _)
theorem ap5 (ts:TS) (n:Nd) (q:RS) (h:n.op=5):prC ts n [q] q true:=by
 unfold prC
 refine SoundP.of_sound (Sound.of_awp Tryz.call97 Tryz.func97 rfl (Nat.le_of_ble_eq_true (by kernel_rfl)) (by kernel_rfl) (pl:={}) ?_)
 simp [go_sem,h,hB_len,tk,pc]
 rw [if_pos (hB_one _)]
 generalize hP:putCells _ 0 (aI q.1 :: hB q.2)=P
 have hP2:P=aI q.1 :: hB q.2:=by rw [←hP];exact pc (aI 0) _ (fun _=>false) _
 subst hP2
 clear hP
 simp [go_sem,h,hB_len,tk,pc]
 exact .hf _ (hf_sb q _)
theorem ap6 (ts:TS) (n:Nd) (q r S:RS) (h:n.op=6) (c:SoundP Tryz.prog 148 [eRS q,eRS r] (eRS S)):prC ts n [q,r] S (decide (q.1=r.1)):=by
 unfold prC
 refine SoundP.of_sound (Sound.of_awp Tryz.call97 Tryz.func97 rfl (Nat.le_of_ble_eq_true (by kernel_rfl)) (by kernel_rfl) (pl:={}) ?_)
 simp [go_sem,h,hB_len,tk,pc]
 refine DrawGo.floatY [] [10,14] [0,1,2,3,4,5,7,8,9,10,11,12,13,14,15] [(6,false),(16,false),(17,false)] (by kernel_rfl) (by kernel_rfl) (by kernel_rfl) ?_
 simp [go_sem,h,hB_len,tk,pc]
 refine CallStep.pure c (wkS2 q r) ?_
 simp [go_sem,h,hB_len,tk,pc]
 rw [if_pos (hB_one _)]
 generalize hP:putCells _ 0 (aI S.1 :: hB S.2)=P
 have hP2:P=aI S.1 :: hB S.2:=by rw [←hP];exact pc (aI 0) _ (fun _=>false) _
 subst hP2
 clear hP
 simp [go_sem,h,hB_len,tk,pc]
 exact .hf _ (hf_sb S _)
theorem ap14 (ts:TS) (n:Nd) (q r S:RS) (h:n.op=14) (c:SoundP Tryz.prog 148 [eRS q,eRS r] (eRS S)):prC ts n [q,r] S (decide (q.1=r.1)):=by
 unfold prC
 refine SoundP.of_sound (Sound.of_awp Tryz.call97 Tryz.func97 rfl (Nat.le_of_ble_eq_true (by kernel_rfl)) (by kernel_rfl) (pl:={}) ?_)
 simp [go_sem,h,hB_len,tk,pc]
 refine DrawGo.floatY [] [10,14] [0,1,2,3,4,5,7,8,9,10,11,12,13,14,15] [(6,false),(16,false),(17,false)] (by kernel_rfl) (by kernel_rfl) (by kernel_rfl) ?_
 simp [go_sem,h,hB_len,tk,pc]
 refine CallStep.pure c (wkS2 q r) ?_
 simp [go_sem,h,hB_len,tk,pc]
 rw [if_pos (hB_one _)]
 generalize hP:putCells _ 0 (aI S.1 :: hB S.2)=P
 have hP2:P=aI S.1 :: hB S.2:=by rw [←hP];exact pc (aI 0) _ (fun _=>false) _
 subst hP2
 clear hP
 simp [go_sem,h,hB_len,tk,pc]
 exact .hf _ (hf_sb S _)
theorem ap7 (ts:TS) (n:Nd) (q r S:RS) (h:n.op=7) (c:SoundP Tryz.prog 149 [eRS q,eRS r] (eRS S)):prC ts n [q,r] S (decide (q.1=r.1)):=by
 unfold prC
 refine SoundP.of_sound (Sound.of_awp Tryz.call97 Tryz.func97 rfl (Nat.le_of_ble_eq_true (by kernel_rfl)) (by kernel_rfl) (pl:={}) ?_)
 simp [go_sem,h,hB_len,tk,pc]
 refine DrawGo.floatY [] [10,14] [0,1,2,3,4,5,7,8,9,10,11,12,13,14,15] [(6,false),(16,false),(17,false)] (by kernel_rfl) (by kernel_rfl) (by kernel_rfl) ?_
 simp [go_sem,h,hB_len,tk,pc]
 refine CallStep.pure c (wkS2 q r) ?_
 simp [go_sem,h,hB_len,tk,pc]
 rw [if_pos (hB_one _)]
 generalize hP:putCells _ 0 (aI S.1 :: hB S.2)=P
 have hP2:P=aI S.1 :: hB S.2:=by rw [←hP];exact pc (aI 0) _ (fun _=>false) _
 subst hP2
 clear hP
 simp [go_sem,h,hB_len,tk,pc]
 exact .hf _ (hf_sb S _)
theorem ap8 (ts:TS) (n:Nd) (q r:RS) (h:n.op=8):prC ts n [q,r] q (decide (q.1=r.1)):=by
 unfold prC
 refine SoundP.of_sound (Sound.of_awp Tryz.call97 Tryz.func97 rfl (Nat.le_of_ble_eq_true (by kernel_rfl)) (by kernel_rfl) (pl:={}) ?_)
 simp [go_sem,h,hB_len,tk,pc]
 refine DrawGo.floatY [] [6,10] [0,1,2,3,4,5,6,7,8,9,10,11] [(12,false),(13,false)] (by kernel_rfl) (by kernel_rfl) (by kernel_rfl) ?_
 simp [go_sem,h,hB_len,tk,pc]
 rw [if_pos (hB_one _)]
 generalize hP:putCells _ 0 (aI q.1 :: hB q.2)=P
 have hP2:P=aI q.1 :: hB q.2:=by rw [←hP];exact pc (aI 0) _ (fun _=>false) _
 subst hP2
 clear hP
 simp [go_sem,h,hB_len,tk,pc]
 exact .hf _ (hf_sb q _)
theorem ap32 (ts:TS) (n:Nd) (q r:RS) (h:n.op=32):prC ts n [q,r] zR (decide (q.1=r.1)):=by
 unfold prC
 refine SoundP.of_sound (Sound.of_awp Tryz.call97 Tryz.func97 rfl (Nat.le_of_ble_eq_true (by kernel_rfl)) (by kernel_rfl) (pl:={}) ?_)
 simp [go_sem,h,hB_len,tk,pc]
 refine DrawGo.floatY [] [4,8] [0,1,2,3,4,5,6,7,8,9] [(10,false),(11,false)] (by kernel_rfl) (by kernel_rfl) (by kernel_rfl) ?_
 simp [go_sem,h,hB_len,tk,pc]
 exact .hf _ (hf_sb zR _)
theorem ap33 (ts:TS) (n:Nd) (q r:RS) (h:n.op=33):prC ts n [q,r] zR (decide (q.1=r.1)):=by
 unfold prC
 refine SoundP.of_sound (Sound.of_awp Tryz.call97 Tryz.func97 rfl (Nat.le_of_ble_eq_true (by kernel_rfl)) (by kernel_rfl) (pl:={}) ?_)
 simp [go_sem,h,hB_len,tk,pc]
 refine DrawGo.floatY [] [4,8] [0,1,2,3,4,5,6,7,8,9] [(10,false),(11,false)] (by kernel_rfl) (by kernel_rfl) (by kernel_rfl) ?_
 simp [go_sem,h,hB_len,tk,pc]
 exact .hf _ (hf_sb zR _)
theorem ap9 (ts:TS) (n:Nd) (q r S:RS) (h:n.op=9) (hq:0≤q.1∧q.1≤1000) (hr:0≤r.1∧r.1≤1000) (c:SoundP Tryz.prog 150 [eRS q,eRS r] (eRS S)):prC ts n [q,r] S (decide (1≤q.1+r.1-2∧q.1+r.1-2≤3)):=by
 unfold prC
 refine SoundP.of_sound (Sound.of_awp Tryz.call97 Tryz.func97 rfl (Nat.le_of_ble_eq_true (by kernel_rfl)) (by kernel_rfl) (pl:={}) ?_)
 have w1:IntKind.i64.wrap (q.1+r.1)=q.1+r.1:=wrap_i64 (by omega) (by omega)
 have w2:IntKind.i64.wrap (q.1+r.1-2)=q.1+r.1-2:=wrap_i64 (by omega) (by omega)
 simp [go_sem,h,hB_len,tk,pc]
 refine DrawGo.intro (by kernel_rfl) ?_
 simp [go_sem,h,hB_len,tk,pc,w1,w2]
 refine DrawGo.intro (by kernel_rfl) ?_
 by_cases h1:1≤q.1+r.1-2
 ·simp [go_sem,h,hB_len,tk,pc,w1,w2,h1]
  refine CallStep.pure c (wkS2 q r) ?_
  simp [go_sem,h,hB_len,tk,pc,h1]
  rw [if_pos (hB_one _)]
  generalize hP:putCells _ 0 (aI S.1 :: hB S.2)=P
  have hP2:P=aI S.1 :: hB S.2:=by rw [←hP];exact pc (aI 0) _ (fun _=>false) _
  subst hP2
  clear hP
  simp [go_sem,h,hB_len,tk,pc,h1]
  exact .hf _ (hf_sb S _)
 ·simp [go_sem,h,hB_len,tk,pc,w1,w2,h1]
  refine CallStep.pure c (wkS2 q r) ?_
  simp [go_sem,h,hB_len,tk,pc,h1]
  rw [if_pos (hB_one _)]
  generalize hP:putCells _ 0 (aI S.1 :: hB S.2)=P
  have hP2:P=aI S.1 :: hB S.2:=by rw [←hP];exact pc (aI 0) _ (fun _=>false) _
  subst hP2
  clear hP
  simp [go_sem,h,hB_len,tk,pc,h1]
  exact .hf _ (hf_sb S _)
theorem ap10 (ts:TS) (n:Nd) (q r S:RS) (h:n.op=10) (hq:0≤q.1∧q.1≤1000) (hr:0≤r.1∧r.1≤1000) (c:SoundP Tryz.prog 151 [eRS q,eRS r] (eRS S)):prC ts n [q,r] S (decide (q.1+r.1≤3)):=by
 unfold prC
 refine SoundP.of_sound (Sound.of_awp Tryz.call97 Tryz.func97 rfl (Nat.le_of_ble_eq_true (by kernel_rfl)) (by kernel_rfl) (pl:={}) ?_)
 have w1:IntKind.i64.wrap (q.1+r.1)=q.1+r.1:=wrap_i64 (by omega) (by omega)
 simp [go_sem,h,hB_len,tk,pc]
 refine DrawGo.floatY [] [10,14] [0,1,2,3,4,5,7,8,9,10,11,12,13,14,15,16] [(6,false),(17,false),(18,false)] (by kernel_rfl) (by kernel_rfl) (by kernel_rfl) ?_
 simp [go_sem,h,hB_len,tk,pc,w1]
 refine CallStep.pure c (wkS2 q r) ?_
 simp [go_sem,h,hB_len,tk,pc,w1]
 rw [if_pos (hB_one _)]
 generalize hP:putCells _ 0 (aI S.1 :: hB S.2)=P
 have hP2:P=aI S.1 :: hB S.2:=by rw [←hP];exact pc (aI 0) _ (fun _=>false) _
 subst hP2
 clear hP
 simp [go_sem,h,hB_len,tk,pc,w1]
 exact .hf _ (hf_sb S _)
theorem ap11 (ts:TS) (n:Nd) (q S:RS) (h:n.op=11) (c:SoundP Tryz.prog 152 [eRS q] (eRS S)):prC ts n [q] S (decide (q.1=2)):=by
 unfold prC
 refine SoundP.of_sound (Sound.of_awp Tryz.call97 Tryz.func97 rfl (Nat.le_of_ble_eq_true (by kernel_rfl)) (by kernel_rfl) (pl:={}) ?_)
 simp [go_sem,h,hB_len,tk,pc]
 refine DrawGo.floatY [] [7] [0,1,2,4,5,6,7,8] [(3,false),(9,false),(10,false)] (by kernel_rfl) (by kernel_rfl) (by kernel_rfl) ?_
 simp [go_sem,h,hB_len,tk,pc]
 refine CallStep.pure c (wkS1 q) ?_
 simp [go_sem,h,hB_len,tk,pc]
 rw [if_pos (hB_one _)]
 generalize hP:putCells _ 0 (aI S.1 :: hB S.2)=P
 have hP2:P=aI S.1 :: hB S.2:=by rw [←hP];exact pc (aI 0) _ (fun _=>false) _
 subst hP2
 clear hP
 simp [go_sem,h,hB_len,tk,pc]
 exact .hf _ (hf_sb S _)
theorem ap12 (ts:TS) (n:Nd) (q S:RS) (h:n.op=12) (c:SoundP Tryz.prog 153 [eRS q] (eRS S)):prC ts n [q] S (decide (q.1=2)):=by
 unfold prC
 refine SoundP.of_sound (Sound.of_awp Tryz.call97 Tryz.func97 rfl (Nat.le_of_ble_eq_true (by kernel_rfl)) (by kernel_rfl) (pl:={}) ?_)
 simp [go_sem,h,hB_len,tk,pc]
 refine DrawGo.floatY [] [7] [0,1,2,4,5,6,7,8] [(3,false),(9,false),(10,false)] (by kernel_rfl) (by kernel_rfl) (by kernel_rfl) ?_
 simp [go_sem,h,hB_len,tk,pc]
 refine CallStep.pure c (wkS1 q) ?_
 simp [go_sem,h,hB_len,tk,pc]
 rw [if_pos (hB_one _)]
 generalize hP:putCells _ 0 (aI S.1 :: hB S.2)=P
 have hP2:P=aI S.1 :: hB S.2:=by rw [←hP];exact pc (aI 0) _ (fun _=>false) _
 subst hP2
 clear hP
 simp [go_sem,h,hB_len,tk,pc]
 exact .hf _ (hf_sb S _)
theorem ap13 (ts:TS) (ok:okTS ts) (n:Nd) (q C S:RS) (h:n.op=13) (c:SoundP Tryz.prog 153 [eRS q] (eRS C)) (c2:SoundP Tryz.prog 148 [eRS C,eRS (setOf (kDiag ts.sorts.length 2))] (eRS S)):prC ts n [q] S (decide (q.1=2)):=by
 unfold prC
 refine SoundP.of_sound (Sound.of_awp Tryz.call97 Tryz.func97 rfl (Nat.le_of_ble_eq_true (by kernel_rfl)) (by kernel_rfl) (pl:={}) ?_)
 have c1:=allU ts ok 2 (by omega)
 generalize setOf (kDiag ts.sorts.length 2)=D at *
 simp [go_sem,h,hB_len,tk,pc]
 refine DrawGo.floatY [] [4,10] [0,1,2,4,7,8,9,10,11] [(3,false),(5,false),(6,false),(12,false),(13,false)] (by kernel_rfl) (by kernel_rfl) (by kernel_rfl) ?_
 simp [go_sem,h,hB_len,tk,pc]
 refine CallStep.pure c (wkS1 q) ?_
 simp [go_sem,h,hB_len,tk,pc]
 refine CallStep.pure c1 (wkTI ts 2) ?_
 simp [go_sem,h,hB_len,tk,pc]
 refine CallStep.pure c2 (wkS2 C D) ?_
 simp [go_sem,h,hB_len,tk,pc]
 rw [if_pos (hB_one _)]
 generalize hP:putCells _ 0 (aI S.1 :: hB S.2)=P
 have hP2:P=aI S.1 :: hB S.2:=by rw [←hP];exact pc (aI 0) _ (fun _=>false) _
 subst hP2
 clear hP
 simp [go_sem,h,hB_len,tk,pc]
 exact .hf _ (hf_sb S _)
theorem apO (ts:TS) (n:Nd) (L:List RS) (h2:n.op≠2) (h3:n.op≠3) (h4:n.op≠4) (h5:n.op≠5) (h6:n.op≠6) (h14:n.op≠14) (h7:n.op≠7) (h8:n.op≠8) (h32:n.op≠32) (h33:n.op≠33) (h9:n.op≠9) (h10:n.op≠10) (h11:n.op≠11) (h12:n.op≠12) (h13:n.op≠13):prC ts n L zR true:=by
 unfold prC
 refine SoundP.of_sound (Sound.of_awp Tryz.call97 Tryz.func97 rfl (Nat.le_of_ble_eq_true (by kernel_rfl)) (by kernel_rfl) (pl:={}) ?_)
 simp [go_sem,h2,h3,h4,h5,h6,h14,h7,h8,h32,h33,h9,h10,h11,h12,h13,hB_len,tk,pc]
 exact .hf _ (hf_sb zR true)
end Go.Proofs.YtcfopdccdeeleaaGreatDoor.QN


namespace Go.Proofs.YtcfopdccdeeleaaGreatDoor.QO
open Go Go.Ev Go.Proofs Go.Proofs.YtcfopdccdeeleaaGreatDoor YM YF Y9 Y10 Y1 Y2 Y3 Y12 Y13 P1 P2 PA PB QD QE QF QG QH QI QJ QK QL QM QN PG PC
theorem prC_eq {ts:TS} {n:Nd} {L:List RS} {S S':RS} {b:Bool} (e:eRS S=eRS S') (h:prC ts n L S b):prC ts n L S' b:=by
 unfold prC at h ⊢
 rw [←e]
 exact h
theorem ap_alike {ts:TS} {n:Nd} {a b:Kd} (ho:n.op=6∨n.op=14∨n.op=7∨n.op=8∨n.op=32∨n.op=33):∃ S,prC ts n [setOf a,setOf b] S (decide (a.ar=b.ar))∧(a.ar=b.ar→kd n.op=101→S=setOf (alikeK n.op a b)):=by
 have e6:∀ op:Int,op=6∨op=14→alikeK op a b=kSum a b:=fun op h=>by unfold alikeK;rw [if_pos h]
 by_cases har:a.ar=b.ar
 ·rcases ho with h | h | h | h | h | h
  ·exact ⟨_,ap6 ts n _ _ _ h (by have:=unionU (setOf a) (setOf b);rw [uni_set har] at this;exact this),fun _ _=>by rw [h,e6 6 (.inl rfl)]⟩
  ·exact ⟨_,ap14 ts n _ _ _ h (by have:=unionU (setOf a) (setOf b);rw [uni_set har] at this;exact this),fun _ _=>by rw [h,e6 14 (.inr rfl)]⟩
  ·exact ⟨_,ap7 ts n _ _ _ h (by have:=interU (setOf a) (setOf b);rw [int_set har] at this;exact this),fun _ _=>by rw [h];rfl⟩
  ·exact ⟨_,ap8 ts n _ _ h,fun _ _=>by rw [h];rfl⟩
  ·exact ⟨_,ap32 ts n _ _ h,fun _ hk=>by rw [h] at hk;exact absurd hk (by decide)⟩
  ·exact ⟨_,ap33 ts n _ _ h,fun _ hk=>by rw [h] at hk;exact absurd hk (by decide)⟩
 ·rcases ho with h | h | h | h | h | h
  ·exact ⟨_,ap6 ts n _ _ _ h (unionU (setOf a) (setOf b)),fun e=>absurd e har⟩
  ·exact ⟨_,ap14 ts n _ _ _ h (unionU (setOf a) (setOf b)),fun e=>absurd e har⟩
  ·exact ⟨_,ap7 ts n _ _ _ h (interU (setOf a) (setOf b)),fun e=>absurd e har⟩
  ·exact ⟨_,ap8 ts n _ _ h,fun e=>absurd e har⟩
  ·exact ⟨_,ap32 ts n _ _ h,fun e=>absurd e har⟩
  ·exact ⟨_,ap33 ts n _ _ h,fun e=>absurd e har⟩
theorem ap_bin {ts:TS} (ok:okTS ts) {n:Nd} {a:Kd} (ha:okKd ts.sorts.length a) (ho:n.op=11∨n.op=12∨n.op=13):∃ S,prC ts n [setOf a] S (decide (a.ar=2))∧(a.ar=2→S=setOf (binK ts.sorts.length n.op a)):=by
 have hns:=ok.ns
 by_cases h2:a.ar=2
 ·have hc:=closureU ha h2 hns
  rcases ho with h | h | h
  ·exact ⟨_,ap11 ts n _ _ h (by have:=transposeU (setOf a);rw [tr_set ha hns h2] at this;exact this),fun _=>by rw [h];rfl⟩
  ·exact ⟨_,ap12 ts n _ _ h hc,fun _=>by rw [h];rfl⟩
  ·refine ⟨_,ap13 ts ok n _ _ (setOf (kSum (kClo a) (kDiag ts.sorts.length 2))) h hc ?_,fun _=>by rw [h];rfl⟩
   have:=unionU (setOf (kClo a)) (setOf (kDiag ts.sorts.length 2))
   rw [uni_set (show (kClo a).ar=2 from (okKd_clo ha h2).2)] at this
   exact this
 ·have har:=ha.ar
  rcases ho with h | h | h
  ·exact ⟨_,ap11 ts n _ _ h (transposeU (setOf a)),fun e=>absurd e h2⟩
  ·exact ⟨_,ap12 ts n _ _ h (cloRU (setOf a) har),fun e=>absurd e h2⟩
  ·exact ⟨_,ap13 ts ok n _ _ _ h (cloRU (setOf a) har) (unionU _ _),fun e=>absurd e h2⟩
theorem applyRU (ts:TS) (ok:okTS ts) (n:Nd) (l:List (Option Kd)) (L:List RS) (e1:n.op≠1) (e15:n.op≠15)
  (h1:n.op=5∨n.op=11∨n.op=12∨n.op=13→∃ a,l=[some a]∧L=[setOf a]∧okKd ts.sorts.length a)
  (h2:n.op=6∨n.op=14∨n.op=7∨n.op=8∨n.op=32∨n.op=33∨n.op=9∨n.op=10→∃ a b,l=[some a,some b]∧L=[setOf a,setOf b]∧okKd ts.sorts.length a∧okKd ts.sorts.length b) :
  ∃ S b,prC ts n L S b∧ApE n.op (applyK ts.sorts.length n.op n.n n.pos l) S b:=by
 have hns:=ok.ns
 by_cases o2:n.op=2
 ·refine ⟨setOf ⟨n.n,[]⟩,true,prC_eq (none_set n.n) (ap2 ts n L o2),?_⟩
  unfold applyK;rw [if_pos o2]
  exact ⟨rfl,fun _=>⟨_,rfl,rfl⟩⟩
 by_cases o3:n.op=3
 ·refine ⟨_,true,ap3 ts ok n L o3,?_⟩
  unfold applyK;rw [if_neg o2,if_pos o3]
  exact ⟨rfl,fun _=>⟨_,rfl,rfl⟩⟩
 by_cases o4:n.op=4
 ·refine ⟨_,true,ap4 ts ok n L o4,?_⟩
  unfold applyK;rw [if_neg o2,if_neg o3,if_pos o4]
  exact ⟨rfl,fun _=>⟨_,rfl,rfl⟩⟩
 by_cases g1:n.op=5∨n.op=11∨n.op=12∨n.op=13
 ·obtain ⟨a,rfl,rfl,ha⟩:=h1 g1
  rw [apK1,if_neg o2,if_neg o3,if_neg o4]
  by_cases o5:n.op=5
  ·rw [if_pos o5]
   exact ⟨_,true,ap5 ts n _ o5,rfl,fun _=>⟨_,rfl,rfl⟩⟩
  have g:n.op=11∨n.op=12∨n.op=13:=by omega
  rw [if_neg o5,if_pos g]
  obtain ⟨S,hc,hS⟩:=ap_bin ok ha g
  refine ⟨S,_,hc,?_⟩
  by_cases har:a.ar=2
  ·rw [if_pos har]
   exact ⟨decide_eq_true har,fun _=>⟨_,rfl,hS har⟩⟩
  ·rw [if_neg har]
   exact decide_eq_false har
 by_cases g2:n.op=6∨n.op=14∨n.op=7∨n.op=8∨n.op=32∨n.op=33∨n.op=9∨n.op=10
 ·obtain ⟨a,b,rfl,rfl,ha,hb⟩:=h2 g2
  have ra:=ha.ar
  have rb:=hb.ar
  rw [apK2,if_neg o2,if_neg o3,if_neg o4]
  by_cases g3:n.op=6∨n.op=14∨n.op=7∨n.op=8∨n.op=32∨n.op=33
  ·rw [if_pos g3]
   obtain ⟨S,hc,hS⟩:=ap_alike (ts:=ts) (n:=n) (a:=a) (b:=b) g3
   refine ⟨S,_,hc,?_⟩
   by_cases har:a.ar=b.ar
   ·rw [if_pos har]
    exact ⟨decide_eq_true har,fun hk=>⟨_,rfl,hS har hk⟩⟩
   ·rw [if_neg har]
    exact decide_eq_false har
  rw [if_neg g3]
  by_cases o9:n.op=9
  ·rw [if_pos o9]
   by_cases har:1≤a.ar+b.ar-2∧a.ar+b.ar-2≤3
   ·rw [if_pos har]
    refine ⟨_,_,ap9 ts n _ _ (setOf (kJoin a b)) o9 (by show 0≤a.ar∧a.ar≤1000;omega) (by show 0≤b.ar∧b.ar≤1000;omega) ?_,decide_eq_true har,fun _=>⟨_,rfl,rfl⟩⟩
    rw [←join_set ha hb hns har]
    exact joinU _ _ (by show 0≤a.ar∧a.ar≤1000;omega) (by show 1≤b.ar∧b.ar≤1000;omega)
   ·rw [if_neg har]
    exact ⟨_,_,ap9 ts n _ _ _ o9 (by show 0≤a.ar∧a.ar≤1000;omega) (by show 0≤b.ar∧b.ar≤1000;omega) (joinU _ _ (by show 0≤a.ar∧a.ar≤1000;omega) (by show 1≤b.ar∧b.ar≤1000;omega)),decide_eq_false har⟩
  have o10:n.op=10:=by omega
  rw [if_neg o9,if_pos o10]
  by_cases har:a.ar+b.ar≤3
  ·rw [if_pos har]
   refine ⟨_,_,ap10 ts n _ _ (setOf (kProd a b)) o10 (by show 0≤a.ar∧a.ar≤1000;omega) (by show 0≤b.ar∧b.ar≤1000;omega) ?_,decide_eq_true har,fun _=>⟨_,rfl,rfl⟩⟩
   rw [←prod_set ha hb hns har]
   exact productU _ _ (by show 0≤a.ar∧a.ar≤1000;omega) (by show 0≤b.ar∧b.ar≤1000;omega)
  ·rw [if_neg har]
   exact ⟨_,_,ap10 ts n _ _ _ o10 (by show 0≤a.ar∧a.ar≤1000;omega) (by show 0≤b.ar∧b.ar≤1000;omega) (productU _ _ (by show 0≤a.ar∧a.ar≤1000;omega) (by show 0≤b.ar∧b.ar≤1000;omega)),decide_eq_false har⟩
 refine ⟨zR,true,apO ts n L o2 o3 o4 (by omega) (by omega) (by omega) (by omega) (by omega) (by omega) (by omega) (by omega) (by omega) (by omega) (by omega) (by omega),?_⟩
 rw [applyK_other o2 o3 o4 (by omega) (by omega) (by omega) (by omega) (by omega) (by omega) (by omega) (by omega) (by omega) (by omega) (by omega) (by omega)]
 refine ⟨rfl,fun hk=>?_⟩
 have:=of_kd hk
 omega
theorem argOk_iff {ns:Nat} (hns:ns≤4) {q:Kd} (h:okKd ns q) (h1:q.ar=1) (i:Int):argOk i q=true↔∀ k:Nat,k<4→(setOf q).2 k=true→(k:Int)=i:=by
 unfold argOk
 rw [List.all_eq_true]
 constructor
 ·intro ha k hk hs
  rw [set_iff,h1] at hs
  have:=ha _ hs.2
  simpa [dig,pad] using this
 ·intro ha t ht
  obtain ⟨j,hj,e⟩:=mem_dig h hns ht
  rw [h1] at hj e
  have hj4:j<4:=hj
  have:=ha j hj4 ((set_iff q j).2 ⟨by rw [h1];exact hj4,by rw [h1,←e];exact ht⟩)
  rw [e]
  simp [dig,pad,this]
def ExR (c:Ck) (s:Scp) (inn:Bool) (n:Nd):Prop:=∃ S:RS,SoundP Tryz.prog 46 [eVw c inn,lVr (envS s),eNd n] (.tup [eRS S,eDg (dgOf (exam c s inn n))])∧(kd n.op=101→∀ q,exam c s inn n = .ok (some q)→S=setOf q)
theorem hf_eVw (c:Ck) (inn:Bool):HF (eVw c inn):=HF.agg fun x hx=>by
 simp only [List.mem_cons,List.not_mem_nil,or_false] at hx
 rcases hx with rfl | rfl | rfl | rfl | rfl | rfl | rfl
 ·exact hf_lSo _
 ·exact hf_lFl _
 ·exact hf_lPd _
 ·exact hf_lFa _
 ·exact hf_lBo _
 ·exact HF.sc _
 ·exact HF.sc _
theorem wkE (c:Ck) (inn:Bool) (l:List Vr) (n:Nd):WKs [eVw c inn,lVr l,eNd n] [eVw c inn,lVr l,eNd n] := .cons (.hf (hf_eVw c inn)) (.cons (.hf (hf_lVr _)) (.cons (.hf (hf_eNd n)) .nil))
theorem hf_eDg (d:Dg):HF (eDg d):=HF.agg fun x hx=>by
 simp only [List.mem_cons,List.not_mem_nil,or_false] at hx
 rcases hx with rfl | rfl<;>exact HF.sc _
theorem callee_any {c:Ck} {nm:ByteArray} {p:Nat} (hc:okCk c) (h:calleeL c nm=some p):(c.ts.preds.any fun p=>decide (p.name=nm))=true:=by
 obtain ⟨_,hp⟩:=calleeL_lt hc h
 unfold calleeL at h
 rw [List.findIdx?_eq_some_iff_getElem] at h
 obtain ⟨hi,a1,_⟩:=h
 simp only [List.getElem_take] at a1
 exact List.any_eq_true.2 ⟨_,List.getElem_mem hp,a1⟩
theorem callee_full {ts:TS} {nm:ByteArray} (h:calleeL (mkCk ts ts.preds.length) nm=none):(ts.preds.any fun p=>decide (p.name=nm))=false:=by
 unfold calleeL at h
 rw [List.findIdx?_eq_none_iff] at h
 rw [List.any_eq_false]
 intro p hp
 have:p∈ts.preds.take ts.preds.length:=by rw [List.take_length];exact hp
 have:=h p this
 simpa using this
theorem kids_call {n:Nd} (hw:WfN n) (h:n.op=47):∀ k,k∈n.kids→kd k.op=101:=by
 have hsh:=hw.shape
 have e:shp n.op n.kids.length=some (List.replicate (min n.kids.length 401) 101):=by
  unfold shp
  rw [if_neg (by omega),if_neg (by omega),if_neg (by omega),if_neg (by omega),if_neg (by omega),if_neg (by omega),if_neg (by omega),if_pos h]
 rw [e] at hsh
 simp only [Option.some.injEq] at hsh
 intro k hk
 have:kd k.op∈n.kids.map fun k=>kd k.op:=List.mem_map.2 ⟨k,hk,rfl⟩
 rw [←hsh] at this
 exact List.eq_of_mem_replicate this
theorem callRU (c:Ck) (hc:okCk c) (s:Scp) (hs:ScOk c.ts.sorts.length s) (n:Nd) (hw:WfN n) (hop:n.op=47) (ih:∀ k,k∈n.kids→ExR c s true k) (inn:Bool) :
  SoundP Tryz.prog 95 [eVw c inn,lVr (envS s),eNd n] (eDg (dgOf (callK c s n))):=by
 generalize hR:callK c s n=R
 unfold callK at hR
 refine SoundP.of_sound (Sound.of_awp Tryz.call95 Tryz.func95 rfl (Nat.le_of_ble_eq_true (by kernel_rfl)) (by kernel_rfl) (pl:={ mt:=[3] }) ?_)
 have hnp:=hc.ts.np
 have hkl:=hw.len
 have hp1:=predU c hc n.name
 have hp2:=predU (mkCk c.ts c.ts.preds.length) (okCk_mk hc.ts (Nat.le_refl _)) n.name
 have hwp:∀ k:Int,WKs [eTS c.ts,aI k,aS n.name] [eTS c.ts,aI k,aS n.name]:=fun k => .cons (.hf (hf_eTS _)) (.cons (.hf (HF.sc _)) (.cons (.hf (HF.sc _)) .nil))
 simp [go_sem]
 refine CallStep.pure hp1 (hwp _) ?_
 cases hcal:calleeL c n.name with
 |none =>
  rw [hcal] at hR
  simp [go_sem,idxO]
  refine CallStep.pure hp2 (hwp _) ?_
  cases hcal2:calleeL (mkCk c.ts c.ts.preds.length) n.name with
  |none =>
   rw [callee_full hcal2] at hR
   subst hR
   simp [go_sem,idxO,dgOf]
   exact .hf _ (hf_eDg (40,n.pos))
  |some p =>
   have ha:(c.ts.preds.any fun p=>decide (p.name=n.name))=true:=callee_any (c:=mkCk c.ts c.ts.preds.length) (okCk_mk hc.ts (Nat.le_refl _)) hcal2
   rw [ha] at hR
   subst hR
   have hp0:¬(p:Int)<0:=by omega
   simp [go_sem,idxO,dgOf,hp0]
   exact .hf _ (hf_eDg (45,n.pos))
 |some p =>
  obtain ⟨_,hlt⟩:=calleeL_lt hc hcal
  rw [callee_any hc hcal,if_pos rfl,hcal] at hR
  simp only [List.getElem?_eq_getElem hlt] at hR
  have hp0:¬(p:Int)<0:=by omega
  have hpd:=hc.ts.pl _ (List.getElem_mem hlt)
  simp [go_sem,idxO,hlt,cPd_row,hp0]
  generalize hpp:c.ts.preds[p]=pd at *
  by_cases hpl:pd.params.length=n.kids.length
  ·rw [if_pos hpl] at hR
   simp [go_sem,hpl]
   have hkd:=kids_call hw hop
   refine LoopGo.upK pd.params.length (fun k st=>st.tm 1=lVr (envS s)∧st.tm 3 = .ptr 0 0∧st.tm 5 = .ip (cNd n)∧st.tm 6 = .ptr 1 0∧st.tm 8=lPm pd.params∧st.tm 9=aI k∧st.mu[0]?=some (.arr (cVw c true))∧st.mu[1]?=some (.arr [aI 0,aI 0])∧examA c s n.pos (pd.params.drop k) (n.kids.drop k)=R) ?_ ?_
   ·exact ⟨by simp [go_sem],by simp [go_sem],by simp [go_sem],by simp [go_sem],by simp [go_sem],by simp [go_sem],by simp [go_sem],by simp [go_sem],by simpa using hR⟩
   rintro k st hk ⟨e1,e3,e5,e6,e8,e9,m0,m1,hE⟩
   have hml:1<st.mu.length:=(List.getElem?_eq_some_iff.1 m1).1
   have hpush:∀(l:List Cell) (i:Nat),i<st.mu.length→(st.mu++l)[i]?=st.mu[i]?:=fun l i hi=>List.getElem?_append_left hi
   have hset:∀ c,(st.mu.set 1 c)[1]?=some c:=fun c=>List.getElem?_set_self hml
   have hset2:∀ c (l:List Cell),((st.mu++l).set 1 c)[1]?=some c:=fun c l=>List.getElem?_set_self (by simp;omega)
   have hg0:∀(l:List Cell) (h:0<(st.mu++l).length),(st.mu++l)[0] = .arr (cVw c true):=fun l h=>by
    rw [List.getElem_append_left (by omega)];exact (List.getElem?_eq_some_iff.1 m0).2
   have hg1:∀(l:List Cell) (h:1<(st.mu++l).length),(st.mu++l)[1] = .arr [aI 0,aI 0]:=fun l h=>by
    rw [List.getElem_append_left (by omega)];exact (List.getElem?_eq_some_iff.1 m1).2
   by_cases hkl':k=pd.params.length
   ·subst hkl'
    rw [List.drop_length,hpl,List.drop_length] at hE
    simp only [examA] at hE
    subst hE
    simp [go_sem,e1,e3,e5,e6,e8,e9,m0,m1,hpl,dgOf,hset]
    exact .hf _ (hf_eDg (0,0))
   have hlt1:k<pd.params.length:=by omega
   have hlt2:k<n.kids.length:=by omega
   have w1:IntKind.i64.wrap ((k:Int)+1)=(k:Int)+1:=wrap_i64 (by omega) (by omega)
   obtain ⟨S,hi,hS⟩:=ih n.kids[k] (List.getElem_mem hlt2)
   rw [List.drop_eq_getElem_cons hlt1,List.drop_eq_getElem_cons hlt2] at hE
   simp only [examA] at hE
   have hok:=exam_ok hc (szN n.kids[k]) n.kids[k] s true
   have hkk:=hkd n.kids[k] (List.getElem_mem hlt2)
   have hwk':=hw.kid (List.getElem_mem hlt2)
   simp [go_sem,e1,e3,e5,e6,e8,e9,m0,m1,hlt1,hlt2,cNd_ones]
   refine DrawGo.move 11 1 (by kernel_rfl) (by kernel_rfl) ?_ ?_
   ·simp [go_sem,e1,e3,e5,e6,e8,e9,m0,m1,hlt1,hlt2,cNd_ones]
    refine CallStep.pure hi (wkE c true _ _) ?_
    cases hx:exam c s true n.kids[k] with
    |error e =>
     rw [hx] at hE
     subst hE
     have he:=exam_err c (szN n.kids[k]) n.kids[k] s true e (Nat.le_refl _) hx
     have he0:¬e.1=0:=by omega
     simp [go_sem,e1,e3,e5,e6,e8,e9,m0,m1,hlt1,hlt2,hB_len,QE.tk,pc,hpush,he0,dgOf]
     rw [if_pos (hB_one _)]
     generalize hP:putCells _ 0 (aI S.1 :: hB S.2)=P
     have hP2:P=aI S.1 :: hB S.2:=by rw [←hP];exact pc (aI 0) _ (fun _=>false) _
     subst hP2
     clear hP
     simp [go_sem,e1,e3,e5,e6,e8,e9,m0,m1,hlt1,hlt2,hB_len,QE.tk,pc,hpush,he0,dgOf]
     simp [go_sem,hg1,hset2,e6]
     exact .hf _ (hf_eDg e)
    |ok ko =>
     obtain ⟨q,rfl,hq⟩:=hok ko (Nat.le_refl _) hwk' hs hx hkk
     have hSq:=hS hkk q hx
     subst hSq
     rw [hx] at hE
     simp only at hE
     have hns:=hc.ts.ns
     have haq:(setOf q).1=q.ar:=rfl
     have hag:=fun h=>argOk_iff hns hq h pd.params[k].2
     generalize setOf q=Q at *
     simp [go_sem,e1,e3,e5,e6,e8,e9,m0,m1,hlt1,hlt2,hB_len,QE.tk,pc,hpush,dgOf]
     rw [if_pos (hB_one _)]
     generalize hP:putCells _ 0 (aI Q.1 :: hB Q.2)=P
     have hP2:P=aI Q.1 :: hB Q.2:=by rw [←hP];exact pc (aI 0) _ (fun _=>false) _
     subst hP2
     clear hP
     by_cases har:q.ar=1
     ·rw [if_pos har] at hE
      have har':Q.1=1:=haq.trans har
      simp [go_sem,e1,e3,e5,e6,e8,e9,m0,m1,hlt1,hlt2,hB_len,QE.tk,pc,hpush,dgOf,har']
      have hfst:pd.params[k].2<4∧0≤pd.params[k].2:=by have:=hpd.2 _ (List.getElem_mem hlt1);omega
      refine LoopGo.upK 4 (fun j st'=>∃ b,2≤b∧st'.tm 10 = .ptr b 0∧st'.mu[b]?=some (.arr (aI 1 :: hB Q.2))∧st'.tm 1=lVr (envS s)∧st'.tm 3 = .ptr 0 0∧st'.tm 5 = .ip (cNd n)∧st'.tm 6 = .ptr 1 0∧st'.tm 8=lPm pd.params∧st'.tm 9=aI k∧st'.tm 12=aI j∧st'.mu[0]?=some (.arr (cVw c true))∧st'.mu[1]?=some (.arr [aI 0,aI 0]) ∧
       ∀ i:Nat,i<j→Q.2 i=true→(i:Int)=pd.params[k].2) ?_ ?_
      ·exact ⟨st.mu.length,by omega,by simp [go_sem],by simp [go_sem],by simp [go_sem,e1],by simp [go_sem,e3],by simp [go_sem,e5],by simp [go_sem,e6],by simp [go_sem,e8],by simp [go_sem,e9],by simp [go_sem],by simp only [put_mu];rw [hpush _ _ (by omega)];exact m0,by simp only [put_mu];rw [hpush _ _ (by omega)];exact m1,fun i hi=>by omega⟩
      ·clear e1 e3 e5 e6 e8 e9 m0 m1 hpush hset hset2 hg0 hg1 hml
       rintro j st2 hj ⟨b,hb,e10,mb,e1,e3,e5,e6,e8,e9,e12,m0,m1,hall⟩
       have hml:1<st2.mu.length:=(List.getElem?_eq_some_iff.1 m1).1
       have hset:∀ c,(st2.mu.set 1 c)[1]?=some c:=fun c=>List.getElem?_set_self hml
       by_cases hj4:j<4
       ·have hjl:(j:Int)<4:=by omega
        have hj64:j<64:=by omega
        have hj64':(j:Int)<64:=by omega
        have wj:IntKind.i64.wrap ((j:Int)+1)=(j:Int)+1:=wrap_i64 (by omega) (by omega)
        have hd1:=d1 (aI 1) Q.2 j hj64
        have hi1:1+j≤64:=by omega
        by_cases hQ:Q.2 j=true
        ·rw [hQ] at hd1
         by_cases hq2:(j:Int)=pd.params[k].2
         ·have hq3:=eq_true hq2
          simp [go_sem,e10,mb,e1,e3,e5,e6,e8,e9,e12,hjl,hj64,hj64',hd1,hi1,hB_len,hlt1,hq3,wj]
          refine ⟨hj4,Keep.mk' ⟨b,hb,by simp [go_sem,e10],by simp [go_sem,mb],by simp [go_sem,e1],by simp [go_sem,e3],by simp [go_sem,e5],by simp [go_sem,e6],by simp [go_sem,e8],by simp [go_sem,e9],by simp [go_sem],by simp [go_sem,m0],by simp [go_sem,m1],fun i hi h=>?_⟩⟩
          by_cases hij:i=j
          ·subst hij;exact hq2
          ·exact hall i (by omega) h
         ·have hbad:¬argOk pd.params[k].2 q=true:=fun h=>hq2 ((hag har).1 h j hj4 hQ)
          rw [if_neg hbad] at hE
          subst hE
          simp [go_sem,e10,mb,e1,e3,e5,e6,e8,e9,e12,hjl,hj64,hj64',hd1,hi1,hB_len,hlt1,hq2,wj,m1,hset]
          exact .hf _ (hf_eDg (43,n.pos))
        ·have hQ:Q.2 j=false:=by simpa using hQ
         rw [hQ] at hd1
         simp [go_sem,e10,mb,e1,e3,e5,e6,e8,e9,e12,hjl,hj64,hj64',hd1,hi1,hB_len,hlt1,wj]
         refine ⟨hj4,Keep.mk' ⟨b,hb,by simp [go_sem,e10],by simp [go_sem,mb],by simp [go_sem,e1],by simp [go_sem,e3],by simp [go_sem,e5],by simp [go_sem,e6],by simp [go_sem,e8],by simp [go_sem,e9],by simp [go_sem],by simp [go_sem,m0],by simp [go_sem,m1],fun i hi h=>?_⟩⟩
         by_cases hij:i=j
         ·subst hij;rw [hQ] at h;cases h
         ·exact hall i (by omega) h
       ·have hje:j=4:=by omega
        subst hje
        have hgood:argOk pd.params[k].2 q=true:=(hag har).2 fun i hi h=>hall i hi h
        rw [if_pos hgood] at hE
        simp [go_sem,e10,mb,e1,e3,e5,e6,e8,e9,e12,w1]
        exact ⟨hlt1,Keep.mk' ⟨by simp [go_sem,e1],by simp [go_sem,e3],by simp [go_sem,e5],by simp [go_sem,e6],by simp [go_sem,e8],by simp [go_sem],by simp [go_sem,m0],by simp [go_sem,m1],hE⟩⟩
     ·rw [if_neg har] at hE
      subst hE
      have har':¬Q.1=1:=fun e=>har (haq.symm.trans e)
      simp [go_sem,e1,e3,e5,e6,e8,e9,m0,m1,hlt1,hlt2,hB_len,QE.tk,pc,hpush,dgOf,har',hg1,hset2,e6]
      exact .hf _ (hf_eDg (42,n.pos))
   ·simp [go_sem,e1,e3,e5,e6,e8,e9,m0,m1,hlt1,hlt2,cNd_ones]
    refine CallStep.pure hi (wkE c true _ _) ?_
    cases hx:exam c s true n.kids[k] with
    |error e =>
     rw [hx] at hE
     subst hE
     have he:=exam_err c (szN n.kids[k]) n.kids[k] s true e (Nat.le_refl _) hx
     have he0:¬e.1=0:=by omega
     simp [go_sem,e1,e3,e5,e6,e8,e9,m0,m1,hlt1,hlt2,hB_len,QE.tk,pc,hpush,he0,dgOf]
     rw [if_pos (hB_one _)]
     generalize hP:putCells _ 0 (aI S.1 :: hB S.2)=P
     have hP2:P=aI S.1 :: hB S.2:=by rw [←hP];exact pc (aI 0) _ (fun _=>false) _
     subst hP2
     clear hP
     simp [go_sem,e1,e3,e5,e6,e8,e9,m0,m1,hlt1,hlt2,hB_len,QE.tk,pc,hpush,he0,dgOf]
     simp [go_sem,hg1,hset2,e6]
     exact .hf _ (hf_eDg e)
    |ok ko =>
     obtain ⟨q,rfl,hq⟩:=hok ko (Nat.le_refl _) hwk' hs hx hkk
     have hSq:=hS hkk q hx
     subst hSq
     rw [hx] at hE
     simp only at hE
     have hns:=hc.ts.ns
     have haq:(setOf q).1=q.ar:=rfl
     have hag:=fun h=>argOk_iff hns hq h pd.params[k].2
     generalize setOf q=Q at *
     simp [go_sem,e1,e3,e5,e6,e8,e9,m0,m1,hlt1,hlt2,hB_len,QE.tk,pc,hpush,dgOf]
     rw [if_pos (hB_one _)]
     generalize hP:putCells _ 0 (aI Q.1 :: hB Q.2)=P
     have hP2:P=aI Q.1 :: hB Q.2:=by rw [←hP];exact pc (aI 0) _ (fun _=>false) _
     subst hP2
     clear hP
     by_cases har:q.ar=1
     ·rw [if_pos har] at hE
      have har':Q.1=1:=haq.trans har
      simp [go_sem,e1,e3,e5,e6,e8,e9,m0,m1,hlt1,hlt2,hB_len,QE.tk,pc,hpush,dgOf,har']
      have hfst:pd.params[k].2<4∧0≤pd.params[k].2:=by have:=hpd.2 _ (List.getElem_mem hlt1);omega
      refine LoopGo.upK 4 (fun j st'=>∃ b,2≤b∧st'.tm 10 = .ptr b 0∧st'.mu[b]?=some (.arr (aI 1 :: hB Q.2))∧st'.tm 1=lVr (envS s)∧st'.tm 3 = .ptr 0 0∧st'.tm 5 = .ip (cNd n)∧st'.tm 6 = .ptr 1 0∧st'.tm 8=lPm pd.params∧st'.tm 9=aI k∧st'.tm 12=aI j∧st'.mu[0]?=some (.arr (cVw c true))∧st'.mu[1]?=some (.arr [aI 0,aI 0]) ∧
       ∀ i:Nat,i<j→Q.2 i=true→(i:Int)=pd.params[k].2) ?_ ?_
      ·exact ⟨st.mu.length+1,by omega,by simp [go_sem],by simp [go_sem],by simp [go_sem,e1],by simp [go_sem,e3],by simp [go_sem,e5],by simp [go_sem,e6],by simp [go_sem,e8],by simp [go_sem,e9],by simp [go_sem],by simp only [put_mu];rw [hpush _ _ (by omega)];exact m0,by simp only [put_mu];rw [hpush _ _ (by omega)];exact m1,fun i hi=>by omega⟩
      ·clear e1 e3 e5 e6 e8 e9 m0 m1 hpush hset hset2 hg0 hg1 hml
       rintro j st2 hj ⟨b,hb,e10,mb,e1,e3,e5,e6,e8,e9,e12,m0,m1,hall⟩
       have hml:1<st2.mu.length:=(List.getElem?_eq_some_iff.1 m1).1
       have hset:∀ c,(st2.mu.set 1 c)[1]?=some c:=fun c=>List.getElem?_set_self hml
       by_cases hj4:j<4
       ·have hjl:(j:Int)<4:=by omega
        have hj64:j<64:=by omega
        have hj64':(j:Int)<64:=by omega
        have wj:IntKind.i64.wrap ((j:Int)+1)=(j:Int)+1:=wrap_i64 (by omega) (by omega)
        have hd1:=d1 (aI 1) Q.2 j hj64
        have hi1:1+j≤64:=by omega
        by_cases hQ:Q.2 j=true
        ·rw [hQ] at hd1
         by_cases hq2:(j:Int)=pd.params[k].2
         ·have hq3:=eq_true hq2
          simp [go_sem,e10,mb,e1,e3,e5,e6,e8,e9,e12,hjl,hj64,hj64',hd1,hi1,hB_len,hlt1,hq3,wj]
          refine ⟨hj4,Keep.mk' ⟨b,hb,by simp [go_sem,e10],by simp [go_sem,mb],by simp [go_sem,e1],by simp [go_sem,e3],by simp [go_sem,e5],by simp [go_sem,e6],by simp [go_sem,e8],by simp [go_sem,e9],by simp [go_sem],by simp [go_sem,m0],by simp [go_sem,m1],fun i hi h=>?_⟩⟩
          by_cases hij:i=j
          ·subst hij;exact hq2
          ·exact hall i (by omega) h
         ·have hbad:¬argOk pd.params[k].2 q=true:=fun h=>hq2 ((hag har).1 h j hj4 hQ)
          rw [if_neg hbad] at hE
          subst hE
          simp [go_sem,e10,mb,e1,e3,e5,e6,e8,e9,e12,hjl,hj64,hj64',hd1,hi1,hB_len,hlt1,hq2,wj,m1,hset]
          exact .hf _ (hf_eDg (43,n.pos))
        ·have hQ:Q.2 j=false:=by simpa using hQ
         rw [hQ] at hd1
         simp [go_sem,e10,mb,e1,e3,e5,e6,e8,e9,e12,hjl,hj64,hj64',hd1,hi1,hB_len,hlt1,wj]
         refine ⟨hj4,Keep.mk' ⟨b,hb,by simp [go_sem,e10],by simp [go_sem,mb],by simp [go_sem,e1],by simp [go_sem,e3],by simp [go_sem,e5],by simp [go_sem,e6],by simp [go_sem,e8],by simp [go_sem,e9],by simp [go_sem],by simp [go_sem,m0],by simp [go_sem,m1],fun i hi h=>?_⟩⟩
         by_cases hij:i=j
         ·subst hij;rw [hQ] at h;cases h
         ·exact hall i (by omega) h
       ·have hje:j=4:=by omega
        subst hje
        have hgood:argOk pd.params[k].2 q=true:=(hag har).2 fun i hi h=>hall i hi h
        rw [if_pos hgood] at hE
        simp [go_sem,e10,mb,e1,e3,e5,e6,e8,e9,e12,w1]
        exact ⟨hlt1,Keep.mk' ⟨by simp [go_sem,e1],by simp [go_sem,e3],by simp [go_sem,e5],by simp [go_sem,e6],by simp [go_sem,e8],by simp [go_sem],by simp [go_sem,m0],by simp [go_sem,m1],hE⟩⟩
     ·rw [if_neg har] at hE
      subst hE
      have har':¬Q.1=1:=fun e=>har (haq.symm.trans e)
      simp [go_sem,e1,e3,e5,e6,e8,e9,m0,m1,hlt1,hlt2,hB_len,QE.tk,pc,hpush,dgOf,har',hg1,hset2,e6]
      exact .hf _ (hf_eDg (42,n.pos))
  ·rw [if_neg hpl] at hR
   subst hR
   have hpl':¬n.kids.length=pd.params.length:=fun e=>hpl e.symm
   simp [go_sem,hpl',dgOf]
   exact .hf _ (hf_eDg (45,n.pos))
end Go.Proofs.YtcfopdccdeeleaaGreatDoor.QO
