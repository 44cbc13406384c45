/-
  Own library, part 5: an abstract reading of values and a calculus over it; contracts of functions; plain lemmas.
-/
import Derived.Test.YtkglmpmlfjogkaaGreatDoorMd
set_option linter.unusedVariables false
set_option linter.unusedSimpArgs false
set_option maxRecDepth 100000


open List renaming getElem?_eq_some_iff→qh,getElem?_append_left→qm,mem_map→qn,getElem?_eq_getElem→qq,getElem_mem→qr,mem_cons→qv,getElem?_set_ne→qC,mem_of_getElem?→qG,mem_singleton→qK,mem_append→qL,getElem?_append_right→qP,getElem?_set_self→qR,getElem?_map→qW,drop_eq_getElem_cons→qX,not_mem_nil→q9,length_append→za,take_length→zb,append_nil→zc,append_assoc→zf,getElem?_eq_none→zu,mem_cons_of_mem→zx,take_of_length_le→zC,mem_cons_self→zU,length_map→yj,getElem?_cons_succ→jg,take_append_drop→jW,getElem?_range→jX,foldl_append→Qi,getElem_of_mem→ZJ
open Nat renaming le_refl→qo,le_trans→zj,le_of_ble_eq_true→yZ
open Option renaming map_eq_some_iff→ju
namespace Go.Proofs.YtkglmpmlfjogkaaGreatDoor.P2
open Go Go.Ev Go.Proofs Y1 Y2 Y3 Y4 P1 YM Y5 Y6 Y7 Y8 YF Y9 Y10 Y11 Y12
def kd (op:Int):Int:=if 1≤op∧op≤15 then 101 else if 20≤op∧op≤23 then 105 else if 30≤op∧op≤51 then 102 else 0
def shp (op:Int) (nk:Nat):Option (List Int):=
 if op=1∨op=2∨op=3∨op=4∨op=20∨op=30∨op=31 then some []
 else if op=5∨op=11∨op=12∨op=13∨op=21∨op=34∨op=35∨op=36∨op=37 then some [101]
 else if op=6∨op=7∨op=8∨op=9∨op=10∨op=14∨op=32∨op=33 then some [101,101]
 else if op=15∨op=45∨op=46 then some [101,102]
 else if op=22∨op=23∨op=38∨op=39 then some [105,105]
 else if op=40∨op=48∨op=49∨op=50 then some [102]
 else if op=41∨op=42∨op=43∨op=44∨op=51 then some [102,102]
 else if op=47 then some (List.replicate (min nk 401) 101)
 else none
inductive WfN:Nd→Prop where
 |mk (n:Nd) (h:shp n.op n.kids.length=some (n.kids.map fun k=>kd k.op)) (hn:n.op=2→1≤n.n∧n.n≤3) (hk:∀ k,k∈n.kids→WfN k):WfN n
theorem WfN.shape {n:Nd} (h:WfN n):shp n.op n.kids.length=some (n.kids.map fun k=>kd k.op):=by cases h;assumption
theorem WfN.num {n:Nd} (h:WfN n):n.op=2→1≤n.n∧n.n≤3:=by cases h;assumption
theorem WfN.kid {n k:Nd} (h:WfN n) (hk:k∈n.kids):WfN k:=by
 cases h with
 |mk _ _ _ h=>exact h k hk
theorem Kj {op:Int} {nk:Nat} {l:List Int} (h:shp op nk=some l):l.length≤401:=by
 unfold shp at h
 repeat' (split at h)
 all_goals try cases h
 all_goals try simp
 all_goals try omega
theorem WfN.len {n:Nd} (h:WfN n):n.kids.length≤401:=by
 have:=Kj h.shape;simpa using this
theorem WfN.small {n:Nd} (h:WfN n):Small n:=by
 induction h with
 |mk n hs hn hk ih=>exact .mk n (by have:=Kj hs;simp at this;omega) ih
structure okKd (ns:Nat) (k:Kd):Prop where
 ar:1≤k.ar∧k.ar≤3
 nd:k.ts.Nodup
 ts:∀ t,t∈k.ts→∃ l,t=pad l∧(l.length:Int)=k.ar∧∀ x,x∈l→0≤x∧x<ns
theorem okKd.okK {ns:Nat} {k:Kd} (h:okKd ns k):okK k:=⟨h.ar,fun t ht=>by obtain ⟨l,rfl,_⟩:=h.ts t ht;rfl,h.nd⟩
theorem okKd.ok2 {ns:Nat} {k:Kd} (h:okKd ns k) (hns:ns≤4) (h2:k.ar=2):ok2 k:=⟨h2,h.nd,fun t ht=>by
 obtain ⟨l,rfl,hl,hr⟩:=h.ts t ht;rw [h2] at hl
 match l,hl with
 | [x,y],_ =>
  have h1:=hr x (by simp);have h2:=hr y (by simp);exact ⟨x,y,rfl,by omega,by omega,by omega,by omega⟩⟩
theorem okKd.of2 {ns:Nat} {k:Kd} (h2:k.ar=2) (hnd:k.ts.Nodup) (h:∀ t,t∈k.ts→∃ x y:Int,t=[x,y,0]∧0≤x∧x<ns∧0≤y∧y<ns):okKd ns k:=⟨by omega,hnd,fun t ht=>by
 obtain ⟨x,y,rfl,h1,h3,h4,h5⟩:=h t ht;exact ⟨[x,y],rfl,by rw [h2];rfl,fun z hz=>by simp at hz;rcases hz with rfl | rfl<;>omega⟩⟩
theorem okKd.pairs {ns:Nat} {k:Kd} (h:okKd ns k) (h2:k.ar=2):∀ t,t∈k.ts→∃ x y:Int,t=[x,y,0]∧0≤x∧x<ns∧0≤y∧y<ns:=fun t ht=>by
 obtain ⟨l,rfl,hl,hr⟩:=h.ts t ht;rw [h2] at hl
 match l,hl with
 | [x,y],_ =>
  have h1:=hr x (by simp);have h2:=hr y (by simp);exact ⟨x,y,rfl,h1.1,h1.2,h2.1,h2.2⟩
theorem YO {ns:Nat} {l:List Int} (h1:1≤l.length) (h3:l.length≤3) (hr:∀ x,x∈l→0≤x∧x<ns):okKd ns (kOf l):=
 ⟨by simp only [kOf];omega,by simp [kOf],fun t ht=>by
  have ht:t∈[pad l]:=ht;rw [qK] at ht;exact ⟨l,ht,rfl,hr⟩⟩
theorem qbB {ns:Nat} {n:Int} (h:1≤n∧n≤3):okKd ns ⟨n,[]⟩:=⟨h,by simp,fun t ht=>by simp at ht⟩
theorem VV (ns ar:Nat) (h1:1≤ar) (h3:ar≤3):okKd ns (qZ ns ar):=by
 refine ⟨by simp only [qZ];omega,?_,fun t ht=>?_⟩
 ·refine List.pairwise_map.2 ((List.pairwise_iff_getElem.2 fun i j hi hj hij=>?_))
  simp only [List.getElem_range];obtain ⟨a,rfl⟩:∃ a,ar=a+1:=⟨ar-1,by omega⟩;intro e;simp [pad,List.replicate_succ] at e;omega
 ·have ht:t∈(List.range ns).map fun (i:Nat)=>pad (List.replicate ar (i:Int)):=ht
  obtain ⟨i,hi,rfl⟩:=qn.1 ht;rw [List.mem_range] at hi;exact ⟨_,rfl,by simp [qZ],fun x hx=>by rw [List.eq_of_mem_replicate hx];omega⟩
theorem Zp {ns:Nat} {a b:Kd} (ha:okKd ns a) (hb:okKd ns b) (h:a.ar=b.ar):okKd ns (kSum a b):=by
 refine ⟨ha.ar,j7 (j7 (by simp)),fun t ht=>?_⟩;have ht:t∈uni (uni [] a.ts) b.ts:=ht;simp only [jp,q9,false_or] at ht;rcases ht with ht | ht
 ·exact ha.ts t ht
 ·obtain ⟨l,e,hl,hr⟩:=hb.ts t ht
  exact ⟨l,e,by rw [hl,←h];rfl,hr⟩
theorem qbC {ns:Nat} {a b:Kd} (ha:okKd ns a):okKd ns (Vj a b):=
 ⟨ha.ar,ha.nd.filter _,fun t ht=>ha.ts t (List.mem_filter.1 ht).1⟩
theorem qbD {ns:Nat} {op:Int} {a b:Kd} (ha:okKd ns a) (hb:okKd ns b) (h:a.ar=b.ar):okKd ns (vJ op a b):=by
 unfold vJ;split
 ·exact Zp ha hb h
 ·split
  ·exact qbC ha
  ·exact ha
theorem uj {l:List Int} (h:l.length≤3) (k:Nat) (hk:k≤l.length):(pad l).take k=l.take k:=by
 match l,h with
 | [],_=>simp at hk;subst hk;rfl
 | [a],_=>match k,hk with
  | 0,_=>rfl
  | 1,_=>rfl
 | [a,b],_=>match k,hk with
  | 0,_=>rfl
  | 1,_=>rfl
  | 2,_=>rfl
 | [a,b,c],_=>match k,hk with
  | 0,_=>rfl
  | 1,_=>rfl
  | 2,_=>rfl
  | 3,_=>rfl
theorem Zq {lx ly:List Int} (hx:lx.length≤3) (hy:ly.length≤3) (s:Nat):conc (pad lx) lx.length (pad ly) ly.length s=pad (lx.take (lx.length-s)++ly.drop s):=by
 unfold conc;rw [uj hx _ (by omega),uj hy _ (qo _),zb]
theorem Zr {ns:Nat} {a b:Kd} (ha:okKd ns a) (hb:okKd ns b) (h1:1≤a.ar+b.ar-2) (h3:a.ar+b.ar-2≤3):okKd ns (zd a b):=by
 refine ⟨⟨h1,h3⟩,Vp,fun t ht=>?_⟩;obtain ⟨x,y,⟨hx,hy⟩,hf⟩:=vK.1 ht;obtain ⟨lx,rfl,hlx,hrx⟩:=ha.ts x hx;obtain ⟨ly,rfl,hly,hry⟩:=hb.ts y hy;have hax:=ha.ar;have hbx:=hb.ar;unfold uL at hf;split at hf
 ·simp only [Option.some.injEq] at hf
  rw [show a.ar.toNat=lx.length by omega,show b.ar.toNat=ly.length by omega,Zq (by omega) (by omega)] at hf;refine ⟨_,hf.symm,?_,fun z hz=>?_⟩
  ·show ((lx.take (lx.length-1)++ly.drop 1).length:Int)=a.ar+b.ar-2
   simp only [za,List.length_take,List.length_drop];omega
  ·rcases qL.1 hz with hz | hz
   ·exact hrx z (List.mem_of_mem_take hz)
   ·exact hry z (List.mem_of_mem_drop hz)
 ·exact absurd hf (by simp)
theorem qbE {ns:Nat} {a b:Kd} (ha:okKd ns a) (hb:okKd ns b) (h3:a.ar+b.ar≤3):okKd ns (uI a b):=by
 have hax:=ha.ar;have hbx:=hb.ar;refine ⟨⟨by simp only [uI];omega,h3⟩,Xt,fun t ht=>?_⟩;obtain ⟨x,y,⟨hx,hy⟩,hf⟩:=Yn.1 ht;obtain ⟨lx,rfl,hlx,hrx⟩:=ha.ts x hx;obtain ⟨ly,rfl,hly,hry⟩:=hb.ts y hy;unfold vL at hf;simp only [Option.some.injEq] at hf;rw [show a.ar.toNat=lx.length by omega,show b.ar.toNat=ly.length by omega,Zq (by omega) (by omega)] at hf;refine ⟨_,hf.symm,?_,fun z hz=>?_⟩
 ·show ((lx.take (lx.length-0)++ly.drop 0).length:Int)=a.ar+b.ar
  simp only [za,List.length_take,List.length_drop];omega
 ·rcases qL.1 hz with hz | hz
  ·exact hrx z (List.mem_of_mem_take hz)
  ·exact hry z (List.mem_of_mem_drop hz)
theorem qbF {ns:Nat} {a:Kd} (ha:okKd ns a) (h2:a.ar=2):okKd ns (kTr a):=by
 refine okKd.of2 rfl (j7 (by simp)) (fun t ht=>?_);obtain ⟨x,hx,rfl⟩:=Ki.1 ht;obtain ⟨p,q,rfl,h1,h3,h4,h5⟩:=ha.pairs h2 x hx;exact ⟨q,p,rfl,h4,h5,h1,h3⟩
theorem YP {ns:Nat} {a:Kd} (ha:okKd ns a) (h2:a.ar=2):okKd ns (kClo a)∧(kClo a).ar=2:=by
 have:∀(f n:Nat) (a:Kd),okKd ns a→a.ar=2→okKd ns (cloN f n a)∧(cloN f n a).ar=2:=by
  intro f;induction f with
  |zero=>intro n a h h2;exact ⟨h,h2⟩
  |succ f ih =>
   intro n a h h2;unfold cloN;split
   ·exact ih _ _ (Zp h (Zr h h (by omega) (by omega)) (by simp only [zd];omega)) h2
   ·exact ⟨h,h2⟩
 exact this 70 0 a ha h2
theorem qbG {ns:Nat} {op:Int} {a:Kd} (ha:okKd ns a) (h2:a.ar=2):okKd ns (binK ns op a):=by
 unfold binK;split
 ·exact (YP ha h2).1
 ·split
  ·exact Zp (YP ha h2).1 (VV ns 2 (by omega) (by omega)) (by rw [(YP ha h2).2];rfl)
  ·exact qbF ha h2
def ScOk (ns:Nat) (s:Scp):Prop:=∀ v,v∈s→okKd ns v.2∧v.2.ar=1
theorem Kk {nm:ByteArray}:∀{s:Scp} {v:ByteArray×Kd} {r:Scp},yo nm s=v :: r→v∈s
 | [],v,r,h=>by simp [yo] at h
 |w :: s,v,r,h=>by
  unfold yo at h;split at h
  ·cases h;exact zU
  ·exact zx _ (Kk h)
theorem qbH {ts:TS} (h:okTS ts) {nm:ByteArray} {k:Kd} (hk:k∈ja ts nm):okKd ts.sorts.length k:=by
 unfold ja at hk;rcases qL.1 hk with hk | hk
 ·unfold zW at hk
  obtain ⟨f,hf,e⟩:=List.mem_filterMap.1 hk;split at e
  ·cases e
   have:=h.fl f hf;exact YO this.1 this.2.1 this.2.2
  ·exact absurd e (by simp)
 ·have:∀(so:List (ByteArray×Bool)) (i:Nat),i+so.length≤ts.sorts.length→∀ k,k∈zX i so nm→okKd ts.sorts.length k:=by
   intro so;induction so with
   |nil=>intro i _ k hk;simp [zX] at hk
   |cons s so ih =>
    intro i hi k hk;simp only [List.length_cons] at hi;have h1:okKd ts.sorts.length (kOf [(i:Int)]):=YO (by simp) (by simp) (fun x hx=>by simp at hx;subst hx;omega);have h2:okKd ts.sorts.length (kOf [(i:Int),(i:Int)]):=YO (by simp) (by simp) (fun x hx=>by simp at hx;subst hx;omega);simp only [zX,j8,qL] at hk;rcases hk with (hk | hk | hk) | hk
    ·split at hk<;>simp at hk;subst hk;exact h1
    ·split at hk<;>simp at hk;subst hk;exact h1
    ·split at hk<;>simp at hk;subst hk;exact h2
    ·exact ih (i+1) (by omega) k hk
  exact this ts.sorts 0 (by omega) k hk
theorem jE (c:Ck) (s:Scp) (inn:Bool) (n:Nd):exam c s inn n =
  if (inn&&zY c n.op n.name)=true then .error (46,n.pos)
  else if n.op=1 then yp c s n.name n.pos
  else if n.op=47 then
   if (c.ts.preds.any fun p=>decide (p.name=n.name))=true then
    match zg c n.name with
    |none => .error (45,n.pos)
    |some p=>match c.ts.preds[p]? with
     |none => .error (45,n.pos)
     |some pd=>if pd.params.length=n.kids.length then zt c s n.pos pd.params n.kids else .error (45,n.pos)
   else .error (40,n.pos)
  else if n.op=15∨n.op=45∨n.op=46 then yd c s (inn||decide (n.op=15)) n.name n.pos n.kids
  else match q6 c s (inn||decide (n.op=12)||decide (n.op=13)) n.kids with
   | .error e => .error e
   | .ok l=>zJ c.ts.sorts.length n.op n.n n.pos l:=by
 obtain ⟨op,nm,k,ks,pos⟩:=n;simp only [exam,Nd.op,Nd.name,Nd.n,Nd.kids,Nd.pos];rfl
theorem YQ {c:Ck} {s:Scp} {inn:Bool}:∀{ks:List Nd} {l:List (Option Kd)},q6 c s inn ks = .ok l→l.length=ks.length∧∀(i:Nat) k a,ks[i]?=some k→l[i]?=some a→exam c s inn k = .ok a
 | [],l,h=>by simp only [q6,Except.ok.injEq] at h;subst h;simp
 |k :: ks,l,h=>by
  simp only [q6] at h;cases hk:exam c s inn k with
  |error e=>rw [hk] at h;exact absurd h (by simp)
  |ok a =>
   rw [hk] at h;simp only at h;cases hl:q6 c s inn ks with
   |error e=>rw [hl] at h;exact absurd h (by simp)
   |ok r =>
    rw [hl] at h;simp only [Except.ok.injEq] at h;subst h;obtain ⟨h1,h2⟩:=YQ hl;refine ⟨by simp [h1],fun i k' a' hi ha=>?_⟩;cases i with
    |zero=>simp at hi ha;subst hi;subst ha;exact hk
    |succ i=>exact h2 i k' a' (by simpa using hi) (by simpa using ha)
theorem VW {op:Int} (h:kd op=101):1≤op∧op≤15:=by
 unfold kd at h;split at h
 ·assumption
 ·split at h
  ·exact absurd h (by omega)
  ·split at h<;>exact absurd h (by omega)
theorem VX {ns:Nat} (hns:ns≤4) {n:Nd} (hw:WfN n) {l:List (Option Kd)} (hl:l.length=n.kids.length) (h:∀(i:Nat) k a,n.kids[i]?=some k→l[i]?=some a→kd k.op=101→∃ q,a=some q∧okKd ns q) :
  ApOk n.op l∧(n.op=5→∃ a,l=[some a]∧okKd ns a)∧(n.op=11∨n.op=12∨n.op=13→∃ a,l=[some a]∧okKd ns a)∧(n.op=6∨n.op=14∨n.op=7∨n.op=8∨n.op=32∨n.op=33∨n.op=9∨n.op=10→∃ a b,l=[some a,some b]∧okKd ns a∧okKd ns b):=by
 have hs:=hw.shape;have h1:n.op=5∨n.op=11∨n.op=12∨n.op=13→∃ a,l=[some a]∧okKd ns a:=by
  intro ho;have e:shp n.op n.kids.length=some [101]:=by
   unfold shp;rw [if_neg (by omega),if_pos (by omega)]
  rw [e] at hs;simp only [Option.some.injEq] at hs
  match hk:n.kids,hs with
  | [k],hs =>
   simp at hs;rw [hk] at hl
   match l,hl with
   | [a],_ =>
    obtain ⟨q,rfl,hq⟩:=h 0 k a (by rw [hk];rfl) rfl hs.symm;exact ⟨q,rfl,hq⟩
  | [],hs=>simp at hs
  |_ :: _ :: _,hs=>simp at hs
 have h2:n.op=6∨n.op=14∨n.op=7∨n.op=8∨n.op=32∨n.op=33∨n.op=9∨n.op=10→∃ a b,l=[some a,some b]∧okKd ns a∧okKd ns b:=by
  intro ho;have e:shp n.op n.kids.length=some [101,101]:=by
   unfold shp;rw [if_neg (by omega),if_neg (by omega),if_pos (by omega)]
  rw [e] at hs;simp only [Option.some.injEq] at hs
  match hk:n.kids,hs with
  | [k,k'],hs =>
   simp at hs;rw [hk] at hl
   match l,hl with
   | [a,b],_ =>
    obtain ⟨q,rfl,hq⟩:=h 0 k a (by rw [hk];rfl) rfl hs.1.symm;obtain ⟨q',rfl,hq'⟩:=h 1 k' b (by rw [hk];rfl) rfl hs.2.symm;exact ⟨q,q',rfl,hq,hq'⟩
  | [],hs=>simp at hs
  | [_],hs=>simp at hs
  |_ :: _ :: _ :: _,hs=>simp at hs
 refine ⟨⟨fun ho=>?_,fun ho=>?_,fun ho=>?_⟩,fun ho=>h1 (.inl ho),fun ho=>h1 (.inr ho),h2⟩
 ·obtain ⟨a,rfl,_⟩:=h1 (.inl ho);exact ⟨_,rfl⟩
 ·obtain ⟨a,rfl,ha⟩:=h1 (.inr ho);exact ⟨a,rfl,ha.okK,ha.ok2 hns⟩
 ·obtain ⟨a,b,rfl,ha,hb⟩:=h2 ho;exact ⟨a,b,rfl,ha.okK,hb.okK⟩
theorem vQ {c:Ck} (hc:okCk c):∀(m:Nat) (n:Nd) (s:Scp) (inn:Bool) (ko:Option Kd),szN n≤m→WfN n→ScOk c.ts.sorts.length s→exam c s inn n = .ok ko→kd n.op=101→∃ k,ko=some k∧okKd c.ts.sorts.length k
 | 0,n,_,_,_,hm,_,_,_,_=>by obtain ⟨op,nm,i,ks,p⟩:=n;simp [szN] at hm
 |m+1,n,s,inn,ko,hm,hw,hs,h,hop=>by
  have ho:=VW hop;have hns:=hc.ts.ns;rw [jE] at h;split at h
  ·exact absurd h (by simp)
  split at h
  ·unfold yp at h
   split at h
   ·rename_i v r hf
    simp only [Except.ok.injEq] at h;exact ⟨v.2,h.symm,(hs v (Kk hf)).1⟩
   ·split at h
    ·exact absurd h (by simp)
    ·rename_i k hk
     simp only [Except.ok.injEq] at h;exact ⟨k,h.symm,qbH hc.ts (by rw [hk];simp)⟩
    ·exact absurd h (by simp)
  split at h
  ·omega
  split at h
  ·rename_i hb
   have hsh:=hw.shape;have e:shp n.op n.kids.length=some [101,102]:=by
    unfold shp;rw [if_neg (by omega),if_neg (by omega),if_neg (by omega),if_pos (by omega)]
   rw [e] at hsh;simp only [Option.some.injEq] at hsh
   match hk:n.kids,hsh with
   | [a,f],hsh =>
    simp at hsh;rw [hk] at h;simp only [yd] at h;cases hq:exam c s (inn||decide (n.op=15)) a with
    |error e=>rw [hq] at h;exact absurd h (by simp)
    |ok q =>
     obtain ⟨k,rfl,hkk⟩:=vQ hc m a s _ q (by have:=zZ (n:=n) (k:=a) (by rw [hk];simp);omega) (hw.kid (by rw [hk];simp)) hs hq hsh.1.symm;rw [hq] at h;simp only at h;split at h
     ·split at h
      ·exact absurd h (by simp)
      ·simp only [Except.ok.injEq] at h
       exact ⟨k,h.symm,hkk⟩
     ·exact absurd h (by simp)
   | [],hsh=>simp at hsh
   | [_],hsh=>simp at hsh
   |_ :: _ :: _ :: _,hsh=>simp at hsh
  ·rename_i n1 n47 nb
   cases hl:q6 c s (inn||decide (n.op=12)||decide (n.op=13)) n.kids with
   |error e=>rw [hl] at h;exact absurd h (by simp)
   |ok l =>
    rw [hl] at h;simp only at h;obtain ⟨hlen,hex⟩:=YQ hl;obtain ⟨_,a5,a1,a2⟩:=VX (ns:=c.ts.sorts.length) hns hw hlen (fun i k a hi ha hkd=>vQ hc m k s _ a (by have:=zZ (n:=n) (qG hi);omega) (hw.kid (qG hi)) hs (hex i k a hi ha) hkd);unfold zJ at h;split at h
    ·rename_i h2
     simp only [Except.ok.injEq] at h;exact ⟨_,h.symm,qbB (hw.num h2)⟩
    split at h
    ·simp only [Except.ok.injEq] at h
     exact ⟨_,h.symm,VV _ 1 (by omega) (by omega)⟩
    split at h
    ·simp only [Except.ok.injEq] at h
     exact ⟨_,h.symm,VV _ 2 (by omega) (by omega)⟩
    have hcase:n.op=5∨(n.op=11∨n.op=12∨n.op=13)∨(n.op=6∨n.op=14∨n.op=7∨n.op=8∨n.op=32∨n.op=33∨n.op=9∨n.op=10):=by omega
    rcases hcase with h5 | h1 | h2
    ·obtain ⟨a,rfl,ha⟩:=a5 h5
     simp only [if_pos h5,Except.ok.injEq] at h;exact ⟨a,h.symm,ha⟩
    ·obtain ⟨a,rfl,ha⟩:=a1 h1
     have n5:n.op≠5:=by omega
     simp only [if_neg n5,if_pos h1] at h;split at h
     ·simp only [Except.ok.injEq] at h
      exact ⟨_,h.symm,qbG ha (by assumption)⟩
     ·exact absurd h (by simp)
    ·obtain ⟨a,b,rfl,ha,hb⟩:=a2 h2
     simp only at h;split at h
     ·split at h
      ·simp only [Except.ok.injEq] at h
       exact ⟨_,h.symm,qbD ha hb (by assumption)⟩
      ·exact absurd h (by simp)
     ·split at h
      ·split at h
       ·rename_i hj
        simp only [Except.ok.injEq] at h;exact ⟨_,h.symm,Zr ha hb hj.1 hj.2⟩
       ·exact absurd h (by simp)
      ·split at h
       ·split at h
        ·simp only [Except.ok.injEq] at h
         exact ⟨_,h.symm,qbE ha hb (by assumption)⟩
        ·exact absurd h (by simp)
       ·omega
end Go.Proofs.YtkglmpmlfjogkaaGreatDoor.P2


namespace Go.Proofs.YtkglmpmlfjogkaaGreatDoor.EA
open Go Go.Ev Go.Proofs Go.Proofs.YtkglmpmlfjogkaaGreatDoor Y1 Y9 YM YS YF P1 P2 E1 E2 E3 E7
structure OkM (x:Mo) (N:Nat):Prop extends OkX x N where
 n0:0≤x.n
 n12:x.n≤12
 st:∀ s,s<N→(x.m.states.getD s []).length=x.ts.fields.length∧∀ r,r∈x.m.states.getD s []→GR x.n r
 at0:∀ i,i<x.ts.sorts.length→0≤gI x.m.sc.atoms i∧0≤sumI (x.m.sc.atoms.take i)∧sumI (x.m.sc.atoms.take i)+gI x.m.sc.atoms i≤x.n
structure OkP (x:Mo) (N:Nat) (p:Pl):Prop where
 st:p.st<N
 env:∀ e,e∈p.env→0≤e.2∧e.2<x.n
theorem OkP.nx {x:Mo} {N:Nat} {p:Pl} (h:OkM x N) (k:OkP x N p):OkP x N ⟨x.nx p.st,p.env⟩:=⟨h.nx _ k.st,k.env⟩
theorem OkP.bind {x:Mo} {N:Nat} {p:Pl} (k:OkP x N p) {nm:ByteArray} {a:Int} (ha:0≤a∧a<x.n):OkP x N ⟨p.st,p.env++[(nm,a)]⟩:=⟨k.st,fun e he=>by
 rcases qL.1 he with he | he
 ·exact k.env e he
 ·rw [qK] at he;subst he;exact ha⟩
theorem z7 {α β:Type} {q:XE α} {g:α→XE β} {r:β} (h:bX q g = .ok r):∃ a,q = .ok a∧g a = .ok r:=by
 cases q with
 |error e=>cases h
 |ok a=>exact ⟨a,rfl,h⟩
theorem Kl {nm:ByteArray} {a:Int}:∀{env:List (ByteArray×Int)} {r:Option Int},env.foldl (fun r e=>if e.1=nm then some e.2 else r) r=some a→r=some a∨∃ e,e∈env∧e.2=a
 | [],r,h => .inl h
 |e :: env,r,h=>by
  rw [List.foldl_cons] at h;rcases Kl h with h | ⟨e',h1,h2⟩
  ·split at h
   ·cases h;exact .inr ⟨e,zU ..,rfl⟩
   ·exact .inl h
  ·exact .inr ⟨e',zx _ h1,h2⟩
theorem qbI {fs:List Fld} {rs:List Rl} {nm:ByteArray} {r:Rl} (h:r∈jq fs rs nm):r∈rs:=by
 unfold jq at h;obtain ⟨e,he,hr⟩:=List.mem_filterMap.1 h;split at hr
 ·cases hr;exact (List.of_mem_zip (a:=e.1) (b:=e.2) he).2
 ·cases hr
theorem Km {x:Mo} {N:Nat} (h:OkM x N) (nm:ByteArray):∀(so:List (ByteArray×Bool)) (i:Nat),i+so.length≤x.ts.sorts.length→∀ r,r∈z6 x nm i so→GR x.n r
 | [],i,_,r,hr=>by cases hr
 |s :: so,i,hl,r,hr=>by
  simp only [List.length_cons] at hl;obtain ⟨a0,a1,a2⟩:=h.at0 i (by omega);rw [z6] at hr;simp only [qL] at hr;have hA:GR x.n ⟨1,q7 x i⟩:=GR.run _ a1 (by omega);rcases hr with hr | hr | hr | hr
  ·split at hr
   ·rw [qK] at hr;subst hr;exact hA
   ·cases hr
  ·split at hr
   ·rw [qK] at hr;subst hr
    exact ⟨hA.ar1,hA.ar3,fun t ht=>hA.val t (List.mem_of_mem_take ht),List.Pairwise.sublist (List.take_sublist _ _) hA.srt⟩
   ·cases hr
  ·split at hr
   ·rw [qK] at hr;subst hr
    by_cases hz:(gI x.m.sc.atoms i).toNat=0
    ·have e:va x i=[]:=by unfold va;rw [hz];rfl
     rw [e];exact GR.nil (by omega) (by omega)
    ·exact GR.steps h.n0 _ a1 (by omega)
   ·cases hr
  ·exact Km h nm so (i+1) (by omega) r hr
theorem qbJ {l:List Rl} {r:Rl} (h:Zl l = .ok r):r∈l:=by
 match l,h with
 | [q],h=>cases h;exact zU ..
theorem qbK {x:Mo} {N:Nat} (h:OkM x N) {p:Pl} (k:OkP x N p) {nm:ByteArray} {r:Rl} (e:wH x p nm = .ok r):GR x.n r:=by
 unfold wH at e;cases hl:uM nm p.env with
 |some a =>
  rw [hl] at e;cases e;rcases Kl hl with h1 | ⟨b,hb,rfl⟩
  ·cases h1
  ·exact GR.one (k.env b hb).1 (k.env b hb).2
 |none =>
  rw [hl] at e;rcases qL.1 (qbJ e) with h1 | h1
  ·exact (h.st _ k.st).2 r (qbI h1)
  ·exact Km h nm _ 0 (by omega) r h1
theorem VY {α:Type} {g:Int→XE α}:∀{ts:List Int} {l:List (Int×α)},mapX (fun a=>bX (g a) fun b => .ok (a,b)) ts = .ok l→l.map Prod.fst=ts
 | [],l,h=>by cases h;rfl
 |t :: ts,l,h=>by
  rw [mapX] at h;obtain ⟨b,h1,h2⟩:=z7 h;obtain ⟨c,h3,h4⟩:=z7 h1;cases h4;obtain ⟨r,h5,h6⟩:=z7 h2;cases h6;rw [List.map_cons,VY h5]
theorem Kn {ds:List Den} {nm:ByteArray} {p:Pl} {l:List (Int×Bool)} (h:ye ds nm p = .ok l):∃ d,(kD ds 0).E p = .ok d∧d.ar=1∧l.map Prod.fst=d.ts:=by
 unfold ye at h;obtain ⟨d,h1,h2⟩:=z7 h;split at h2
 ·rename_i h3;exact ⟨d,h1,h3,VY h2⟩
 ·cases h2
theorem vf {ds:List Den} {p:Pl} {q:Rl×Rl} (h:zF ds p = .ok q):(kD ds 0).E p = .ok q.1∧(kD ds 1).E p = .ok q.2∧q.1.ar=q.2.ar:=by
 unfold zF at h;obtain ⟨a,h1,h2⟩:=z7 h;obtain ⟨b,h3,h4⟩:=z7 h2;split at h4
 ·rename_i h5;cases h4;exact ⟨h1,h3,h5⟩
 ·cases h4
theorem wL {ds:List Den} {p:Pl} {a:Rl} (h:binE ds p = .ok a):(kD ds 0).E p = .ok a∧a.ar=2:=by
 unfold binE at h;obtain ⟨b,h1,h2⟩:=z7 h;split at h2
 ·rename_i h3;cases h2;exact ⟨h1,h3⟩
 ·cases h2
theorem qbL {x:Mo} {N:Nat} (h:OkM x N) {op:Int} {nm:ByteArray} {i:Int} {ds:List Den} (hi:op=2→1≤i∧i≤3) (hK:∀ j p r,OkP x N p→(kD ds j).E p = .ok r→GR x.n r) {p:Pl} (k:OkP x N p) {r:Rl} (e:opE x op nm i ds p = .ok r):GR x.n r:=by
 have n0:=h.n0;unfold opE at e;by_cases o1:op=1
 ·rw [if_pos o1] at e
  exact qbK h k e
 rw [if_neg o1] at e;by_cases o2:op=2
 ·rw [if_pos o2] at e
  cases e;exact GR.nil (hi o2).1 (hi o2).2
 rw [if_neg o2] at e;by_cases o3:op=3
 ·rw [if_pos o3] at e
  cases e;have:=GR.run (n:=x.n) (a:=0) x.n.toNat (by omega) (by omega);simpa using this
 rw [if_neg o3] at e;by_cases o4:op=4
 ·rw [if_pos o4] at e
  cases e;exact GR.iden n0
 rw [if_neg o4] at e;by_cases o5:op=5
 ·rw [if_pos o5] at e
  exact hK 0 _ r (k.nx h) e
 rw [if_neg o5] at e;by_cases o6:op=6
 ·rw [if_pos o6] at e
  obtain ⟨q,h1,h2⟩:=z7 e;obtain ⟨g1,g2,g3⟩:=vf h1;cases h2;exact GR.union (hK 0 p _ k g1) (hK 1 p _ k g2) g3
 rw [if_neg o6] at e;by_cases o7:op=7
 ·rw [if_pos o7] at e
  obtain ⟨q,h1,h2⟩:=z7 e;obtain ⟨g1,g2,g3⟩:=vf h1;cases h2;exact GR.filter (hK 0 p _ k g1) _
 rw [if_neg o7] at e;by_cases o8:op=8
 ·rw [if_pos o8] at e
  obtain ⟨q,h1,h2⟩:=z7 e;obtain ⟨g1,g2,g3⟩:=vf h1;cases h2;exact GR.filter (hK 0 p _ k g1) _
 rw [if_neg o8] at e;by_cases o9:op=9
 ·rw [if_pos o9] at e
  obtain ⟨a,h1,h2⟩:=z7 e;obtain ⟨b,h3,h4⟩:=z7 h2;unfold vb at h4;split at h4
  ·rename_i h5;cases h4;exact GR.join n0 (hK 0 p _ k h1) (hK 1 p _ k h3) h5.1 h5.2
  ·cases h4
 rw [if_neg o9] at e;by_cases o10:op=10
 ·rw [if_pos o10] at e
  obtain ⟨a,h1,h2⟩:=z7 e;obtain ⟨b,h3,h4⟩:=z7 h2;unfold uh at h4;split at h4
  ·rename_i h5;cases h4;exact GR.prod n0 (hK 0 p _ k h1) (hK 1 p _ k h3) h5
  ·cases h4
 rw [if_neg o10] at e;by_cases o11:op=11
 ·rw [if_pos o11] at e
  obtain ⟨a,h1,h2⟩:=z7 e;obtain ⟨g1,g2⟩:=wL h1;cases h2;exact GR.trans n0 (hK 0 p _ k g1) g2
 rw [if_neg o11] at e;by_cases o12:op=12
 ·rw [if_pos o12] at e
  obtain ⟨a,h1,h2⟩:=z7 e;obtain ⟨g1,g2⟩:=wL h1;cases h2;exact (GR.clos n0 _ (hK 0 p _ k g1) g2).1
 rw [if_neg o12] at e;by_cases o13:op=13
 ·rw [if_pos o13] at e
  obtain ⟨a,h1,h2⟩:=z7 e;obtain ⟨g1,g2⟩:=wL h1;obtain ⟨c1,c2⟩:=GR.clos n0 200 (hK 0 p _ k g1) g2;cases h2;exact GR.union c1 (GR.iden n0) c2
 rw [if_neg o13] at e;by_cases o14:op=14
 ·rw [if_pos o14] at e
  obtain ⟨q,h1,h2⟩:=z7 e;obtain ⟨g1,g2,g3⟩:=vf h1;cases h2;exact GR.over (hK 0 p _ k g1) (hK 1 p _ k g2) g3
 rw [if_neg o14] at e;by_cases o15:op=15
 ·rw [if_pos o15] at e
  obtain ⟨l,h1,h2⟩:=z7 e;obtain ⟨d,g1,g2,g3⟩:=Kn h1;cases h2;have gd:=hK 0 p d k g1;have hs:List.Sublist ((l.filter fun e=>e.2).map fun e=>e.1) d.ts:=by rw [←g3];exact List.Sublist.map _ List.filter_sublist
  refine ⟨by show (1:Int)≤1;omega,by show (1:Int)≤3;omega,fun t ht=>?_,List.Pairwise.sublist hs gd.srt⟩;have:=gd.val t (hs.subset ht);rw [g2] at this;exact this
 rw [if_neg o15] at e;cases e
theorem Ko {x:Mo} {N:Nat} (h:OkM x N):∀(m:Nat) (n:Nd),szN n≤m→WfN n→∀(p:Pl) (r:Rl),OkP x N p→(den x n).E p = .ok r→GR x.n r
 | 0,n,hm,_,_,_,_,_=>by obtain ⟨op,nm,i,ks,p⟩:=n;simp [szN] at hm
 |m+1,n,hm,hw,p,r,k,e=>by
  rw [Yx] at e;refine qbL h hw.num (fun j p r k e=>?_) k e;unfold kD at e;by_cases hj:j<n.kids.length
  ·have hd:(n.kids.map (den x)).getD j noD=den x n.kids[j]:=by simp [List.getD,hj]
   rw [hd] at e;exact Ko h m n.kids[j] (by have:=zZ (qr hj);omega) (hw.kid (qr hj)) p r k e
  ·have hd:(n.kids.map (den x)).getD j noD=noD:=by simp [List.getD,hj]
   rw [hd] at e;cases e
end Go.Proofs.YtkglmpmlfjogkaaGreatDoor.EA


namespace Go.Proofs.YtkglmpmlfjogkaaGreatDoor.F2
open Go Go.Ev Go.Proofs Go.Proofs.YtkglmpmlfjogkaaGreatDoor Y1 Y9 P1 P2 YM YS YF E1 E2 E3 E7 EA EL EO EQ ER ET EW EY EZ F1
structure Ev3 (x:Mo) (p:Pl) (n:Nd):Prop where
 E:qA Tryz.prog 53 [eMa x,ePl p,eNd n] (endE ((den x n).E p))
 N:qA Tryz.prog 62 [eMa x,ePl p,eNd n] (endN ((den x n).N p))
 F:qA Tryz.prog 63 [eMa x,ePl p,eNd n] (endB ((den x n).F p))
 G:∀ r,(den x n).E p = .ok r→GR x.n r
structure OkMa (x:Mo) (N:Nat):Prop extends OkM x N where
 gsc:GSc x.m.sc
 pos:∀ a,a∈x.m.sc.atoms→0≤a
 al:x.m.sc.atoms.length=x.ts.sorts.length
 loop:0≤x.m.loop
 N1:N≤1000
 ts:okTS x.ts
mutual
def dN:Nd→Nat
 | .mk _ _ _ ks _=>dNs ks+1
def dNs:List Nd→Nat
 | []=>0
 |k :: ks=>max (dN k) (dNs ks)
end
theorem Kq (n:Nd):dN n=dNs n.kids+1:=by
 obtain ⟨op,nm,i,ks,p⟩:=n;rfl
theorem qbM {ks:List Nd} {k:Nd} (h:k∈ks):dN k≤dNs ks:=by
 induction ks with
 |nil=>simp at h
 |cons a l ih =>
  simp only [dNs];rcases qv.1 h with rfl | h
  ·omega
  ·have:=ih h;omega
theorem qbN {n k:Nd} (h:k∈n.kids):dN k<dN n:=by
 have:=qbM h;rw [Kq n];omega
abbrev IH (x:Mo) (N:Nat) (n:Nd):Prop:=∀ k,k∈n.kids→∀ p:Pl,OkP x N p→p.env.length+dN n≤1000001→Ev3 x p k
abbrev bd (p:Pl) (n:Nd):Prop:=p.env.length+dN n≤1000000
theorem qbO {mu:Mu} {r s:Rl} {x y:AV} (h:Rd mu x (eRel r)) (h2:Rd mu y (eRel s)):Rd mu (.tup [x,y]) (.tup [eRel r,eRel s]):=by
 refine .tup _ _ rfl fun k u v hu hv=>?_
 match k with
 | 0=>simp at hu hv;subst hu;subst hv;exact h
 | 1=>simp at hu hv;subst hu;subst hv;exact h2
 |k+2=>simp at hu
theorem wO (x:Mo) (N:Nat) (n a b:Nd) (hk:n.kids=[a,b]) (ih:IH x N n) (p:Pl) (hp:OkP x N p) (hq:bd p n) :
  qA Tryz.prog 122 [eMa x,ePl p,eNd n] (end2 (zF [den x a,den x b] p)):=by
 refine qH.of_sound ?_;refine qSW Tryz.call122 Tryz.func122 rfl {} ?_;have ha:=(ih a (by rw [hk];simp) p hp (by omega)).E;have hb:=(ih b (by rw [hk];simp) p hp (by omega)).E;have wa:=wk3 x p a;have wb:=wk3 x p b;have hM:=q8 x;generalize hE:zF [den x a,den x b] p=E;unfold zF at hE;simp only [kD,List.getD_cons_zero,List.getD_cons_succ] at hE;generalize eMa x=M at *
 simp [go_sem,hk];refine qd.seg [0,1,2,3,4,5,7,8,9,10,11,12,6,13,14,15,16,17] [(0,0,[]),(1,0,[]),(2,0,[]),(3,0,[]),(4,0,[]),(5,0,[]),(7,0,[]),(8,0,[]),(9,0,[]),(10,0,[]),(11,0,[]),(12,0,[]),(6,1,[8,10,12]),(13,1,[]),(14,2,[1,3,5,8,10,12]),(15,2,[1,3,5,8,10,12]),(16,1,[]),(17,1,[])] (by kernel_rfl) (by kernel_rfl) (by simp [go_sem]) ?_;simp [go_sem,hk];cases ea:(den x a).E p with
 |error e =>
  rw [ea] at ha hE;subst hE;refine qc.pans ha wa ?_;simp [go_sem];exact .hf _ (qy _)
 |ok r =>
  rw [ea] at ha hE;rw [qO] at hE;refine qc.pure ha.toP wa ?_;simp [go_sem,hk];cases eb:(den x b).E p with
  |error e =>
   rw [eb] at hb hE;subst hE;refine qc.pans hb wb ?_;simp [go_sem];exact .hf _ (qy _)
  |ok s =>
   rw [eb] at hb hE;rw [qO] at hE;refine qc.pure hb.toP wb ?_;by_cases he:r.ar=s.ar
   ·rw [if_pos he] at hE
    subst hE;have hd:(r.ar=s.ar)=True:=eq_true he;simp [go_sem,hk,hd];refine qd.seg [0,1,2,3] [(0,0,[]),(1,0,[]),(2,1,[1]),(3,1,[])] (by kernel_rfl) (by kernel_rfl) (by simp [go_sem]) ?_;simp [go_sem,hk];exact qbO (.hf _ (qN r)) (.hf _ (qN s))
   ·rw [if_neg he] at hE
    subst hE;simp [go_sem,hk,he];refine qc.pans (vd 42) (wkI 42) ?_;simp [go_sem];exact .hf _ (qy _)
theorem qbP (x:Mo) (N:Nat) (n a b:Nd) (hM:OkMa x N) (hk:n.kids=[a,b]) (ih:IH x N n) (p:Pl) (hp:OkP x N p) (hq:bd p n) :
  qA Tryz.prog 98 [eMa x,ePl p,eNd n] (endE (bX (zF [den x a,den x b] p) fun q => .ok (unR q.1 q.2))):=by
 refine qH.of_sound ?_;refine qSW Tryz.call98 Tryz.func98 rfl {} ?_;have hpx:=wO x N n a b hk ih p hp hq;have wx:=wk3 x p n;have hMf:=q8 x;cases hE:zF [den x a,den x b] p with
 |error e =>
  rw [hE] at hpx;rw [qS];simp [go_sem];refine qc.pans hpx wx ?_;simp [go_sem];exact .hf _ (qy _)
 |ok q =>
  obtain ⟨r,s⟩:=q;obtain ⟨h1,h2,h3⟩:=vf hE;simp only [kD,List.getD_cons_zero,List.getD_cons_succ] at h1 h2;have gr:=(ih a (by rw [hk];simp) p hp (by omega)).G _ h1;have gs:=(ih b (by rw [hk];simp) p hp (by omega)).G _ h2;have lr:=gr.len hM.n0 (by have:=hM.n12;omega);have ls:=gs.len hM.n0 (by have:=hM.n12;omega);rw [hE] at hpx;rw [qO];simp [go_sem];refine qc.pure hpx.toP wx ?_;simp [go_sem];refine qc.pure (jc r s (by omega) (by omega)) (wkR2 r s) ?_;simp [go_sem];exact .hf _ (qN _)
theorem qbQ (x:Mo) (N:Nat) (n a b:Nd) (hM:OkMa x N) (hk:n.kids=[a,b]) (ih:IH x N n) (p:Pl) (hp:OkP x N p) (hq:bd p n) :
  qA Tryz.prog 99 [eMa x,ePl p,eNd n] (endE (bX (zF [den x a,den x b] p) fun q => .ok (inR q.1 q.2))):=by
 refine qH.of_sound ?_;refine qSW Tryz.call99 Tryz.func99 rfl {} ?_;have hpx:=wO x N n a b hk ih p hp hq;have wx:=wk3 x p n;have hMf:=q8 x;cases hE:zF [den x a,den x b] p with
 |error e =>
  rw [hE] at hpx;rw [qS];simp [go_sem];refine qc.pans hpx wx ?_;simp [go_sem];exact .hf _ (qy _)
 |ok q =>
  obtain ⟨r,s⟩:=q;obtain ⟨h1,h2,h3⟩:=vf hE;simp only [kD,List.getD_cons_zero,List.getD_cons_succ] at h1 h2;have gr:=(ih a (by rw [hk];simp) p hp (by omega)).G _ h1;have gs:=(ih b (by rw [hk];simp) p hp (by omega)).G _ h2;have lr:=gr.len hM.n0 (by have:=hM.n12;omega);have ls:=gs.len hM.n0 (by have:=hM.n12;omega);rw [hE] at hpx;rw [qO];simp [go_sem];refine qc.pure hpx.toP wx ?_;simp [go_sem];refine qc.pure (YL r s (by omega) (by omega)) (wkR2 r s) ?_;simp [go_sem];exact .hf _ (qN _)
theorem diffX (x:Mo) (N:Nat) (n a b:Nd) (hM:OkMa x N) (hk:n.kids=[a,b]) (ih:IH x N n) (p:Pl) (hp:OkP x N p) (hq:bd p n) :
  qA Tryz.prog 100 [eMa x,ePl p,eNd n] (endE (bX (zF [den x a,den x b] p) fun q => .ok (diR q.1 q.2))):=by
 refine qH.of_sound ?_;refine qSW Tryz.call100 Tryz.func100 rfl {} ?_;have hpx:=wO x N n a b hk ih p hp hq;have wx:=wk3 x p n;have hMf:=q8 x;cases hE:zF [den x a,den x b] p with
 |error e =>
  rw [hE] at hpx;rw [qS];simp [go_sem];refine qc.pans hpx wx ?_;simp [go_sem];exact .hf _ (qy _)
 |ok q =>
  obtain ⟨r,s⟩:=q;obtain ⟨h1,h2,h3⟩:=vf hE;simp only [kD,List.getD_cons_zero,List.getD_cons_succ] at h1 h2;have gr:=(ih a (by rw [hk];simp) p hp (by omega)).G _ h1;have gs:=(ih b (by rw [hk];simp) p hp (by omega)).G _ h2;have lr:=gr.len hM.n0 (by have:=hM.n12;omega);have ls:=gs.len hM.n0 (by have:=hM.n12;omega);rw [hE] at hpx;rw [qO];simp [go_sem];refine qc.pure hpx.toP wx ?_;simp [go_sem];refine qc.pure (X6 r s (by omega) (by omega)) (wkR2 r s) ?_;simp [go_sem];exact .hf _ (qN _)
theorem overX (x:Mo) (N:Nat) (n a b:Nd) (hM:OkMa x N) (hk:n.kids=[a,b]) (ih:IH x N n) (p:Pl) (hp:OkP x N p) (hq:bd p n) :
  qA Tryz.prog 101 [eMa x,ePl p,eNd n] (endE (bX (zF [den x a,den x b] p) fun q => .ok (ovR x.n q.1 q.2))):=by
 refine qH.of_sound ?_;refine qSW Tryz.call101 Tryz.func101 rfl {} ?_;have hpx:=wO x N n a b hk ih p hp hq;have wx:=wk3 x p n;have hMf:=q8 x;cases hE:zF [den x a,den x b] p with
 |error e =>
  rw [hE] at hpx;rw [qS];simp [go_sem];refine qc.pans hpx wx ?_;simp [go_sem];exact .hf _ (qy _)
 |ok q =>
  obtain ⟨r,s⟩:=q;obtain ⟨h1,h2,h3⟩:=vf hE;simp only [kD,List.getD_cons_zero,List.getD_cons_succ] at h1 h2;have gr:=(ih a (by rw [hk];simp) p hp (by omega)).G _ h1;have gs:=(ih b (by rw [hk];simp) p hp (by omega)).G _ h2;have lr:=gr.len hM.n0 (by have:=hM.n12;omega);have ls:=gs.len hM.n0 (by have:=hM.n12;omega);rw [hE] at hpx;rw [qO];simp [go_sem];refine qc.pure hpx.toP wx ?_;simp [go_sem];refine qd.intro (by kernel_rfl) ?_;simp [go_sem];refine qc.pure (overU x.n hM.n0 hM.n12 r s gr gs h3) (wkJ x.n r s) ?_;simp [go_sem];exact .hf _ (qN _)
end Go.Proofs.YtkglmpmlfjogkaaGreatDoor.F2


namespace Go.Proofs.YtkglmpmlfjogkaaGreatDoor.F3
open Go Go.Ev Go.Proofs Go.Proofs.YtkglmpmlfjogkaaGreatDoor Y1 Y9 P1 P2 YM YS YF E1 E2 E3 E7 EA EL EO EQ ER ET EW EY EZ F1 F2
theorem OkMa.n20 {x:Mo} {N:Nat} (h:OkMa x N):x.n≤20:=by have:=h.n12;omega
theorem GR.lens {n:Int} (h0:0≤n) (h12:n≤12) {a b:Rl} (ga:GR n a) (gb:GR n b) (h:a.ar+b.ar≤5):a.ts.length*b.ts.length≤1000000:=by
 have key:∀{c:Rl},GR n c→(c.ar=1→c.ts.length≤12)∧(c.ar=2→c.ts.length≤144)∧c.ts.length≤1728:=fun {c} g=>by
  have e2:n*n≤12*12:=Int.mul_le_mul h12 h12 h0 (by omega);have e20:0≤n*n:=Int.mul_nonneg h0 h0;have e3:n*n*n≤12*12*12:=Int.mul_le_mul e2 h12 h0 (by omega);have p1:powI n 1=n:=jR n;have p2:powI n 2=n*n:=Go.Proofs.YtkglmpmlfjogkaaGreatDoor.EC.Ka n;have p3:powI n 3=n*n*n:=by
   have:=ve (n:=n) (i:=2) (j:=1) (by omega) (by omega) (by omega);rw [p1,p2] at this;exact this
  have c1:=g.ar1;have c3:=g.ar3;refine ⟨fun e=>Zk g.srt fun t ht=>?_,fun e=>Zk g.srt fun t ht=>?_,Zk g.srt fun t ht=>?_⟩
  ·have:=g.val t ht;rw [e,p1] at this;omega
  ·have:=g.val t ht;rw [e,p2] at this;omega
  ·have hv:=g.val t ht
   have:c.ar=1∨c.ar=2∨c.ar=3:=by omega
   rcases this with e | e | e
   ·rw [e,p1] at hv;omega
   ·rw [e,p2] at hv;omega
   ·rw [e,p3] at hv;omega
 obtain ⟨a1,a2,a3⟩:=key ga;obtain ⟨b1,b2,b3⟩:=key gb;have:=ga.ar1;have:=gb.ar1;by_cases ea:a.ar=1
 ·exact zj (Nat.mul_le_mul (a1 ea) b3) (by omega)
 ·by_cases eb:b.ar=1
  ·exact zj (Nat.mul_le_mul a3 (b1 eb)) (by omega)
  ·by_cases ea2:a.ar=2
   ·exact zj (Nat.mul_le_mul (a2 ea2) b3) (by omega)
   ·exact zj (Nat.mul_le_mul a3 (b2 (by omega))) (by omega)
theorem Kr (x:Mo) (N:Nat) (n a:Nd) (rest:List Nd) (hk:n.kids=a :: rest) (ih:IH x N n) (p:Pl) (hp:OkP x N p) (hq:bd p n) :
  qA Tryz.prog 164 [eMa x,ePl p,eNd n] (endE (binE [den x a] p)):=by
 refine qH.of_sound ?_;refine qSW Tryz.call164 Tryz.func164 rfl {} ?_;have ha:=(ih a (by rw [hk];simp) p hp (by omega)).E;have wa:=wk3 x p a;generalize hE:binE [den x a] p=E;unfold binE at hE;simp only [kD,List.getD_cons_zero] at hE;generalize eMa x=M at *
 simp [go_sem,hk];refine qd.seg [0,1,2,3,4,5,6,7,8] [(0,0,[]),(1,0,[]),(2,0,[]),(3,0,[]),(4,0,[]),(5,0,[]),(6,1,[]),(7,2,[1,3,5]),(8,1,[])] (by kernel_rfl) (by kernel_rfl) (by simp [go_sem]) ?_;simp [go_sem,hk];cases ea:(den x a).E p with
 |error e =>
  rw [ea] at ha hE;subst hE;refine qc.pans ha wa ?_;simp [go_sem,qS];exact .hf _ (qy _)
 |ok r =>
  rw [ea] at ha hE;rw [qO] at hE;refine qc.pure ha.toP wa ?_;by_cases he:r.ar=2
  ·rw [if_pos he] at hE
   subst hE;have hd:(r.ar=2)=True:=eq_true he;simp [go_sem,hk,hd];exact .hf _ (qN r)
  ·rw [if_neg he] at hE
   subst hE;simp [go_sem,hk,he];refine qc.pans (vd 42) (wkI 42) ?_;simp [go_sem];exact .hf _ (qy _)
theorem joinX (x:Mo) (N:Nat) (n a b:Nd) (hM:OkMa x N) (hk:n.kids=[a,b]) (ih:IH x N n) (p:Pl) (hp:OkP x N p) (hq:bd p n) :
  qA Tryz.prog 102 [eMa x,ePl p,eNd n] (endE (bX ((den x a).E p) fun r=>bX ((den x b).E p) fun s=>vb x.n r s)):=by
 refine qH.of_sound ?_;refine qSW Tryz.call102 Tryz.func102 rfl {} ?_;have ia:=ih a (by rw [hk];simp) p hp (by omega);have ib:=ih b (by rw [hk];simp) p hp (by omega);have ha:=ia.E;have hb:=ib.E;have wa:=wk3 x p a;have wb:=wk3 x p b;have g0:=hM.n0;have g1:=hM.n12;generalize hE:(bX ((den x a).E p) fun r=>bX ((den x b).E p) fun s=>vb x.n r s)=E;simp [go_sem,hk];refine qd.seg [0,1,2,3,4,5,7,8,9,10,11,12,6,13,14,15,16,17] [(0,0,[]),(1,0,[]),(2,0,[]),(3,0,[]),(4,0,[]),(5,0,[]),(7,0,[]),(8,0,[]),(9,0,[]),(10,0,[]),(11,0,[]),(12,0,[]),(6,1,[8,10,12]),(13,1,[]),(14,2,[1,3,5,8,10,12]),(15,2,[1,3,5,8,10,12]),(16,1,[]),(17,1,[])] (by kernel_rfl) (by kernel_rfl) (by simp [go_sem]) ?_;simp [go_sem,hk];cases ea:(den x a).E p with
 |error e =>
  rw [ea] at ha hE;subst hE;refine qc.pans ha wa ?_;simp [go_sem,qS];exact .hf _ (qy _)
 |ok r =>
  rw [ea] at ha hE;rw [qO] at hE;refine qc.pure ha.toP wa ?_;simp [go_sem,hk];cases eb:(den x b).E p with
  |error e =>
   rw [eb] at hb hE;subst hE;refine qc.pans hb wb ?_;simp [go_sem,qS];exact .hf _ (qy _)
  |ok s =>
   rw [eb] at hb hE;rw [qO] at hE;refine qc.pure hb.toP wb ?_;have gr:=ia.G _ ea;have gs:=ib.G _ eb;have lr:=gr.len g0 (by omega);have ls:=gs.len g0 (by omega);simp [go_sem,hk];refine qd.seg [0,1,2,3,4,5,6,7,8,9,10] [(0,0,[]),(1,0,[]),(2,0,[]),(3,0,[]),(4,0,[]),(5,0,[]),(6,1,[]),(7,0,[]),(8,0,[]),(9,1,[]),(10,1,[])] (by kernel_rfl) (by kernel_rfl) (by simp [go_sem]) ?_;simp [go_sem,hk];have hj:=j9 x.n g0 g1 r s gr gs (GR.lens g0 g1 gr gs);cases ej:vb x.n r s with
   |error e =>
    rw [ej] at hj hE;subst hE;have he:e≠0:=by
     unfold vb at ej;split at ej
     ·cases ej
     ·cases ej;omega
    have hc:=YI ⟨0,[]⟩ e;rw [if_neg he] at hc;refine qc.pure hj (wkJ x.n r s) ?_;simp [go_sem];refine qc.pans hc (.cons (.hf (qN _)) (.cons (.hf (HF.sc _)) .nil)) ?_;simp [go_sem];exact .hf _ (qy _)
   |ok u =>
    rw [ej] at hj hE;subst hE;have hc:=YI u 0;rw [if_pos rfl] at hc;refine qc.pure hj (wkJ x.n r s) ?_;simp [go_sem];refine qc.pure hc.toP (.cons (.hf (qN _)) (.cons (.hf (HF.sc _)) .nil)) ?_;simp [go_sem];exact .hf _ (qN u)
theorem qbR (x:Mo) (N:Nat) (n a b:Nd) (hM:OkMa x N) (hk:n.kids=[a,b]) (ih:IH x N n) (p:Pl) (hp:OkP x N p) (hq:bd p n) :
  qA Tryz.prog 103 [eMa x,ePl p,eNd n] (endE (bX ((den x a).E p) fun r=>bX ((den x b).E p) fun s=>uh x.n r s)):=by
 refine qH.of_sound ?_;refine qSW Tryz.call103 Tryz.func103 rfl {} ?_;have ia:=ih a (by rw [hk];simp) p hp (by omega);have ib:=ih b (by rw [hk];simp) p hp (by omega);have ha:=ia.E;have hb:=ib.E;have wa:=wk3 x p a;have wb:=wk3 x p b;have g0:=hM.n0;have g1:=hM.n12;generalize hE:(bX ((den x a).E p) fun r=>bX ((den x b).E p) fun s=>uh x.n r s)=E;simp [go_sem,hk];refine qd.seg [0,1,2,3,4,5,7,8,9,10,11,12,6,13,14,15,16,17] [(0,0,[]),(1,0,[]),(2,0,[]),(3,0,[]),(4,0,[]),(5,0,[]),(7,0,[]),(8,0,[]),(9,0,[]),(10,0,[]),(11,0,[]),(12,0,[]),(6,1,[8,10,12]),(13,1,[]),(14,2,[1,3,5,8,10,12]),(15,2,[1,3,5,8,10,12]),(16,1,[]),(17,1,[])] (by kernel_rfl) (by kernel_rfl) (by simp [go_sem]) ?_;simp [go_sem,hk];cases ea:(den x a).E p with
 |error e =>
  rw [ea] at ha hE;subst hE;refine qc.pans ha wa ?_;simp [go_sem,qS];exact .hf _ (qy _)
 |ok r =>
  rw [ea] at ha hE;rw [qO] at hE;refine qc.pure ha.toP wa ?_;simp [go_sem,hk];cases eb:(den x b).E p with
  |error e =>
   rw [eb] at hb hE;subst hE;refine qc.pans hb wb ?_;simp [go_sem,qS];exact .hf _ (qy _)
  |ok s =>
   rw [eb] at hb hE;rw [qO] at hE;refine qc.pure hb.toP wb ?_;have gr:=ia.G _ ea;have gs:=ib.G _ eb;have lr:=gr.len g0 (by omega);have ls:=gs.len g0 (by omega);simp [go_sem,hk];refine qd.seg [0,1,2,3,4,5,6,7,8,9,10] [(0,0,[]),(1,0,[]),(2,0,[]),(3,0,[]),(4,0,[]),(5,0,[]),(6,1,[]),(7,0,[]),(8,0,[]),(9,1,[]),(10,1,[])] (by kernel_rfl) (by kernel_rfl) (by simp [go_sem]) ?_;simp [go_sem,hk];have hj:=Vq x.n g0 g1 r s gr gs;cases ej:uh x.n r s with
   |error e =>
    rw [ej] at hj hE;subst hE;have he:e≠0:=by
     unfold uh at ej;split at ej
     ·cases ej
     ·cases ej;omega
    have hc:=YI ⟨0,[]⟩ e;rw [if_neg he] at hc;refine qc.pure hj (wkJ x.n r s) ?_;simp [go_sem];refine qc.pans hc (.cons (.hf (qN _)) (.cons (.hf (HF.sc _)) .nil)) ?_;simp [go_sem];exact .hf _ (qy _)
   |ok u =>
    rw [ej] at hj hE;subst hE;have hc:=YI u 0;rw [if_pos rfl] at hc;refine qc.pure hj (wkJ x.n r s) ?_;simp [go_sem];refine qc.pure hc.toP (.cons (.hf (qN _)) (.cons (.hf (HF.sc _)) .nil)) ?_;simp [go_sem];exact .hf _ (qN u)
theorem qbS (x:Mo) (N:Nat) (n a:Nd) (hM:OkMa x N) (hk:n.kids=[a]) (ih:IH x N n) (p:Pl) (hp:OkP x N p) (hq:bd p n) :
  qA Tryz.prog 107 [eMa x,ePl p,eNd n] (endE ((den x a).E ⟨x.nx p.st,p.env⟩)):=by
 refine qH.of_sound ?_;refine qSW Tryz.call107 Tryz.func107 rfl {} ?_;have ha:=(ih a (by rw [hk];simp) _ (OkP.nx hM.toOkM hp) (by show p.env.length+_≤_;omega)).E;have wa:=wk3 x ⟨x.nx p.st,p.env⟩ a;have hN:=hM.N1;have hl:=hM.len;have hnx:=VA x hM.loop (by omega) p.st (by have:=hp.st;omega);have hnw:WKs [eMd x.m,aI p.st] [eMd x.m,aI p.st] := .cons (.hf (jD x.m)) (.cons (.hf (HF.sc _)) .nil);simp [go_sem,hk];refine qd.seg [0,1,2,3,4,5,6,8,9,11,12,13,14,7,10,15,16] [(0,0,[]),(1,0,[]),(2,0,[]),(3,0,[]),(4,0,[]),(5,0,[]),(6,0,[]),(8,0,[]),(9,0,[]),(11,0,[]),(12,0,[]),(13,0,[]),(14,0,[]),(7,1,[9,12,14]),(10,0,[]),(15,1,[]),(16,1,[])] (by kernel_rfl) (by kernel_rfl) (by simp [go_sem]) ?_;simp [go_sem,hk];refine qc.pure hnx hnw ?_;simp [go_sem,hk];cases ea:(den x a).E ⟨x.nx p.st,p.env⟩ with
 |error e =>
  rw [ea] at ha;refine qc.pans ha wa ?_;simp [go_sem];exact .hf _ (qy _)
 |ok r =>
  rw [ea] at ha;refine qc.pure ha.toP wa ?_;simp [go_sem];exact .hf _ (qN r)
theorem wkT (n:Int) (a:Rl):WKs [aI n,eRel a] [aI n,eRel a] := .cons (.hf (HF.sc _)) (.cons (.hf (qN a)) .nil)
theorem qbT (x:Mo) (N:Nat) (n a:Nd) (hM:OkMa x N) (hk:n.kids=[a]) (ih:IH x N n) (p:Pl) (hp:OkP x N p) (hq:bd p n) :
  qA Tryz.prog 104 [eMa x,ePl p,eNd n] (endE (bX (binE [den x a] p) fun a => .ok (trR x.n a))):=by
 refine qH.of_sound ?_;refine qSW Tryz.call104 Tryz.func104 rfl {} ?_;have hb:=Kr x N n a [] hk ih p hp hq;have wx:=wk3 x p n;have hMf:=q8 x;have g0:=hM.n0;have g1:=hM.n12;simp [go_sem];refine qd.seg [0,1,2,3,4,5,6,7,8,9] [(0,0,[]),(1,0,[]),(2,0,[]),(3,0,[]),(4,0,[]),(5,0,[]),(6,0,[]),(7,1,[3]),(8,1,[]),(9,1,[])] (by kernel_rfl) (by kernel_rfl) (by simp [go_sem]) ?_;simp [go_sem];cases hE:binE [den x a] p with
 |error e =>
  rw [hE] at hb;refine qc.pans hb wx ?_;simp [go_sem,qS];exact .hf _ (qy _)
 |ok r =>
  rw [hE] at hb;obtain ⟨h1,h2⟩:=wL hE;simp only [kD,List.getD_cons_zero] at h1;have gr:=(ih a (by rw [hk];simp) p hp (by omega)).G _ h1;refine qc.pure hb.toP wx ?_;simp [go_sem,qO];refine qc.pure (qaN x.n g0 g1 r gr h2) (wkT x.n r) ?_;simp [go_sem];exact .hf _ (qN _)
theorem Ks (x:Mo) (N:Nat) (n a:Nd) (hM:OkMa x N) (hk:n.kids=[a]) (ih:IH x N n) (p:Pl) (hp:OkP x N p) (hq:bd p n) :
  qA Tryz.prog 105 [eMa x,ePl p,eNd n] (endE (bX (binE [den x a] p) fun a => .ok (clR x.n 200 a))):=by
 refine qH.of_sound ?_;refine qSW Tryz.call105 Tryz.func105 rfl {} ?_;have hb:=Kr x N n a [] hk ih p hp hq;have wx:=wk3 x p n;have hMf:=q8 x;have g0:=hM.n0;have g1:=hM.n12;simp [go_sem];refine qd.seg [0,1,2,3,4,5,6,7,8,9] [(0,0,[]),(1,0,[]),(2,0,[]),(3,0,[]),(4,0,[]),(5,0,[]),(6,0,[]),(7,1,[3]),(8,1,[]),(9,1,[])] (by kernel_rfl) (by kernel_rfl) (by simp [go_sem]) ?_;simp [go_sem];cases hE:binE [den x a] p with
 |error e =>
  rw [hE] at hb;refine qc.pans hb wx ?_;simp [go_sem,qS];exact .hf _ (qy _)
 |ok r =>
  rw [hE] at hb;obtain ⟨h1,h2⟩:=wL hE;simp only [kD,List.getD_cons_zero] at h1;have gr:=(ih a (by rw [hk];simp) p hp (by omega)).G _ h1;refine qc.pure hb.toP wx ?_;simp [go_sem,qO];refine qc.pure (closU x.n g0 g1 r gr h2) (wkT x.n r) ?_;simp [go_sem];exact .hf _ (qN _)
theorem Kt (n:Int) (h0:0≤n) (h1:n≤12):qi Tryz.prog 38 [aI n] (eRel (idR n)):=by
 have:=idenU n.toNat (by omega);rw [show ((n.toNat:Nat):Int)=n by omega] at this;exact this
theorem qbU (x:Mo) (N:Nat) (n a:Nd) (hM:OkMa x N) (hk:n.kids=[a]) (ih:IH x N n) (p:Pl) (hp:OkP x N p) (hq:bd p n) :
  qA Tryz.prog 106 [eMa x,ePl p,eNd n] (endE (bX (binE [den x a] p) fun a => .ok (unR (clR x.n 200 a) (idR x.n)))):=by
 refine qH.of_sound ?_;refine qSW Tryz.call106 Tryz.func106 rfl {} ?_;have hb:=Ks x N n a hM hk ih p hp hq;have wx:=wk3 x p n;have hMf:=q8 x;have g0:=hM.n0;have g1:=hM.n12;simp [go_sem];refine qd.seg [0,1,2,4,5,6,7,3,8,9,10] [(0,0,[]),(1,0,[]),(2,0,[]),(4,0,[]),(5,0,[]),(6,0,[]),(7,0,[]),(3,1,[7]),(8,1,[]),(9,1,[]),(10,1,[])] (by kernel_rfl) (by kernel_rfl) (by simp [go_sem]) ?_;simp [go_sem];cases hE:binE [den x a] p with
 |error e =>
  rw [hE] at hb;refine qc.pans hb wx ?_;simp [go_sem,qS];exact .hf _ (qy _)
 |ok r =>
  rw [hE] at hb;obtain ⟨h1,h2⟩:=wL hE;simp only [kD,List.getD_cons_zero] at h1;have gr:=(ih a (by rw [hk];simp) p hp (by omega)).G _ h1;obtain ⟨gc,c2⟩:=GR.clos g0 200 gr h2;have gi:=GR.iden g0;have l1:=gc.len g0 (by omega);have l2:=gi.len g0 (by omega);rw [qO] at hb;refine qc.pure hb.toP wx ?_;simp [go_sem,qO];refine qc.pure (Kt x.n g0 g1) (.cons (.hf (HF.sc _)) .nil) ?_;simp [go_sem];refine qc.pure (jc _ _ (by omega) (by omega)) (wkR2 _ _) ?_;simp [go_sem];exact .hf _ (qN _)
end Go.Proofs.YtkglmpmlfjogkaaGreatDoor.F3


namespace Go.Proofs.YtkglmpmlfjogkaaGreatDoor.F4
open Go Go.Ev Go.Proofs Go.Proofs.YtkglmpmlfjogkaaGreatDoor Y1 Y9 P1 P2 YM YS YF E1 E2 E3 E7 EA EL EO EP EQ ER ET EW EY EZ F1 F2 F3
theorem Own.one {sz:Nat} {mu:Mu} {av:AV} {xs:List (List AV)} (h:Own mu sz av xs):av.one=true:=by
 rcases h with rfl | ⟨b,rfl,_⟩<;>rfl
theorem Own.cells {sz:Nat} {mu:Mu} {av:AV} {xs:List (List AV)} (h:Own mu sz av xs):av.cells=[av]:=by
 rcases h with rfl | ⟨b,rfl,_⟩<;>rfl
theorem Own.push {sz:Nat} {mu:Mu} {av:AV} {xs:List (List AV)} (h:Own mu sz av xs) (c:List Cell):Own (mu++c) sz av xs:=by
 rcases h with rfl | ⟨b,rfl,hc⟩
 ·exact .inl rfl
 ·exact .inr ⟨b,rfl,by rw [qm (qh.1 hc).1];exact hc⟩
theorem Own.set {sz:Nat} {mu:Mu} {av:AV} {xs:List (List AV)} (h:Own mu sz av xs) {i:Nat} (c:Cell) (hi:qp av≠some i):Own (mu.set i c) sz av xs:=by
 rcases h with rfl | ⟨b,rfl,hc⟩
 ·exact .inl rfl
 ·exact .inr ⟨b,rfl,by rw [qC (fun e=>hi (by rw [e];rfl))];exact hc⟩
theorem Own.lt {sz:Nat} {mu:Mu} {av:AV} {xs:List (List AV)} (h:Own mu sz av xs) {b:Nat} (hb:qp av=some b):b<mu.length:=by
 rcases h with rfl | ⟨b',rfl,hc⟩
 ·cases hb
 ·cases hb;exact (qh.1 hc).1
theorem qz.ownB {P:Program} {mu:Mu} {t t' e sz bt:Nat} {s x:AV} {xs ys:List (List AV)} {zv:AV} {K:AV→Mu→Prop} (hs:qF P t=some (e,sz,bt)) (hs':(qF P t').isSome=true) (hz:qt P e=some zv)
  (hz1:zv.cells.length=sz) (hz2:zv.cells.all AV.one=true) (hz0:sz≠0) (hb:bt≤16384) (ho:Own mu sz s xs) (hx:qE mu x=some ys) (wx:qY sz xs) (wy:qY sz ys) (hl:xs.length+ys.length≤4294967296)
  (k:∀ av mu',Own mu' sz av (xs++ys)→(∀ i,i<mu.length→qp s≠some i→mu'[i]?=mu[i]?)→(∀ b,qp av=some b→b=mu.length)→mu.length≤mu'.length→K av mu'):qz P mu #[t,t'] s x K:=by
 refine .inl ?_;refine ⟨t,t',e,sz,bt,ys,rfl,hs,hs',⟨zv,hz,hz1,hz2⟩,hz0,hb,hx,wy,?_⟩;rcases ho with rfl | ⟨b,rfl,hc⟩
 ·refine .inl ⟨xs,rfl,wx,hl,fun h=>?_,fun h=>?_⟩
  ·subst h
   exact k _ _ (.inl (by simp)) (fun _ _ _=>rfl) (fun b h=>by cases h) (qo _)
  ·refine k _ _ (.inr ⟨mu.length,by simp,by simp⟩) (fun i hi _=>?_) (fun b h=>by cases h;rfl) (by simp)
   rw [qm hi]
 ·have hfl:=yH wx.ok
  refine .inr ⟨b,xs.length,xs.flatten,rfl,hc,by omega,hl,?_⟩;have htk:xs.flatten.take (xs.length*sz)=xs.flatten:=zC (by omega);refine k _ _ (.inr ⟨mu.length,by simp,?_⟩) (fun i hi hne=>?_) (fun b h=>by cases h;rfl) (by simp)
  ·rw [htk,qP (by simp)];simp
  ·rw [qm (by simpa using hi)]
   rw [qC (fun e=>hne (by rw [e];rfl))]
theorem FzQ.ownB {Q:qM→St→Prop} {i d sz:Nat} {av:AV} {xs:List (List AV)} {st:St} (hd:st.tm d=av) (ho:Own st.mu sz av xs) (wf:qY sz xs) (hf:∀ r,r∈xs→∀ c,c∈r→HF c)
  (k:∀ mu' full,mu'.length=st.mu.length→(∀ j,qp av≠some j→mu'[j]?=st.mu[j]?)→Q (.exit i) (st.put (some d) (.lst full xs) mu')):FzQ Q (.exit i) st:=by
 rcases ho with h | ⟨b,h,hc⟩
 ·refine FzQ.one (b:=st.mu.length) (d:=d) (x := .lst true xs) ?_ (k _ _ (wc _ _ _) fun j hj=>?_)
  ·rw [hd,h]
   exact .hf _ (HF.lst hf)
  ·by_cases hjl:j=st.mu.length
   ·rw [hjl,zu (by rw [wc];exact qo _),zu (qo _)]
   ·exact Xe hjl _
 ·refine FzQ.one (b:=b) (d:=d) (x := .lst false xs) ?_ (k _ _ (wc _ _ _) fun j hj=>Xe (fun e=>hj (by rw [h,e];rfl)) _)
  rw [hd];exact Own.rd (.inr ⟨b,h,by rw [n4];exact hc⟩) wf.ok hf
abbrev lN (l:List Nat):AV:=lI (l.map fun k:Nat=>(k:Int))
theorem qbV (k:Nat) (l:List Nat):decide ((k:Int)∈l.map fun k:Nat=>(k:Int))=decide (k∈l):=by
 rw [Bool.eq_iff_iff,decide_eq_true_iff,decide_eq_true_iff,qn];exact ⟨fun ⟨a,h,e⟩=>by rwa [show a=k by omega] at h,fun h=>⟨k,h,rfl⟩⟩
theorem VZ (x:Mo) (N:Nat) (hM:OkMa x N) (s:Nat) (hs:s<N):qi Tryz.prog 126 [eMa x,aI s] (lN (x.path s)):=by
 refine qSQ Tryz.call126 Tryz.func126 rfl {} ?_;have hN:=hM.N1;have hl:=hM.len;have hMf:=q8 x;simp [go_sem];refine qk.keep (fun f st=>∃(cur:Nat) (acc:List Nat),vO x f cur acc=x.path s∧acc.Nodup∧(∀ t,t∈acc→t<N)∧cur<N∧N+1≤f+acc.length∧st.tm 0=eMa x∧st.tm 6=aI (cur:Nat)∧OwnI st.mu (st.tm 5) (acc.map fun k:Nat=>(k:Int))) (N+1) ?_ ?_
 ·refine ⟨s,[],by unfold Mo.path;rw [hl],by simp,by simp,hs,by simp,by simp [go_sem],by simp [go_sem],.inl ⟨by simp [go_sem],rfl⟩⟩
 rintro f st ⟨cur,acc,hp,hnd,hlt,hc,hf,e0,e6,ho⟩;have hal:acc.length≤N:=Vn N acc hnd hlt;obtain ⟨f,rfl⟩:∃ g,f=g+1:=⟨f-1,by omega⟩;have hcon:=m9 (acc.map fun k:Nat=>(k:Int)) cur (by simp;omega);rw [qbV] at hcon;simp only [vO] at hp;simp [go_sem,e0,e6];refine qc.lend hcon ⟨ho.v.rd,.hf _ (HF.sc _),trivial⟩ (FL.sc _) ?_;by_cases hm:cur∈acc
 ·rw [if_pos hm] at hp
  simp [go_sem,e0,e6,hm];rw [←hp];exact ho.v.rd
 ·rw [if_neg hm] at hp
  simp [go_sem,e0,e6,hm];refine qz.ownV1 (e:=3) (bt:=8) (z:=0) (l:=acc.map fun k:Nat=>(k:Int)) (by simp [go_sem]) (by simp [go_sem]) (by simp [go_sem]) (by omega) ho.v (by simp;omega) ?_;intro av' mu' ho' _ _ _;have hnx:=VA x hM.loop (by omega) cur (by omega);have hnw:WKs [eMd x.m,aI cur] [eMd x.m,aI cur] := .cons (.hf (jD x.m)) (.cons (.hf (HF.sc _)) .nil);simp [go_sem,e0,e6,ho'.v.one];refine qc.pure hnx hnw ?_;simp [go_sem,e0,e6];refine Keep.loop f (by omega) ⟨x.nx cur,acc++[cur],hp,?_,fun t ht=>?_,hM.nx _ hc,by simp;omega,by simp [go_sem,e0],by simp [go_sem],?_⟩
  ·rw [List.nodup_append]
   exact ⟨hnd,by simp,fun a ha b hb e=>by rw [qK] at hb;subst hb;exact hm (e ▸ ha)⟩
  ·rcases qL.1 ht with h | h
   ·exact hlt t h
   ·rw [qK] at h;omega
  ·rw [List.map_append]
   simpa [go_sem] using ho'
abbrev rB (b:Bool):List AV:=[aB b]
theorem vP (xs:List Bool):qY 1 (xs.map rB):=fun r hr=>by
 obtain ⟨n,_,rfl⟩:=qn.1 hr;exact ⟨rfl,rfl⟩
theorem Own.rdB {mu:Mu} {av:AV} {xs:List Bool} (h:Own mu 1 av (xs.map rB)):Rd mu av (lB xs):=
 h.rd (vP xs).ok fun r hr c hc=>by
  obtain ⟨n,_,rfl⟩:=qn.1 hr;simp at hc;subst hc;exact HF.sc _
def endL:XE (List Bool)→AEnd
 | .ok l => .ret (lB l)
 | .error e => .pan (errV e)
@[go_sem] theorem endL_ok (l:List Bool):endL (.ok l) = .ret (lB l):=rfl
@[go_sem] theorem endL_err (e:Int):endL (.error e) = .pan (errV e):=rfl
theorem uR {α β:Type} {g:α→XE β}:∀{l1 l2:List α} {r:List β},mapX g l1 = .ok r→mapX g (l1++l2)=bX (mapX g l2) fun s => .ok (r++s)
 | [],l2,r,h=>by cases h;rw [List.nil_append];cases mapX g l2<;>rfl
 |a :: l1,l2,r,h=>by
  rw [mapX] at h;obtain ⟨b,h1,h2⟩:=z7 h;obtain ⟨r',h3,h4⟩:=z7 h2;cases h4;rw [List.cons_append,mapX,h1,qO,uR h3];cases mapX g l2<;>rfl
theorem Ku (x:Mo) (ss:List Nat) (hl:ss.length≤1000000) (p:Pl) (n:Nd) (ih:∀ s,s∈ss→Ev3 x ⟨s,p.env⟩ n) :
  qA Tryz.prog 125 [eMa x,lN ss,ePl p,eNd n] (endL (mapX (fun s=>(den x n).F ⟨s,p.env⟩) ss)):=by
 refine qH.of_sound ?_;refine qSW Tryz.call125 Tryz.func125 rfl {} ?_;have hMf:=q8 x;generalize hE:mapX (fun s=>(den x n).F ⟨s,p.env⟩) ss=E;simp [go_sem];refine qk.upK ss.length (fun k st=>∃ acc:List Bool,mapX (fun s=>(den x n).F ⟨s,p.env⟩) (ss.take k) = .ok acc∧acc.length=k∧st.tm 0=eMa x∧st.tm 6 = .ip (cPl p)∧st.tm 7 = .ip (cNd n)∧st.tm 12=lN ss∧st.tm 13=aI ss.length∧st.tm 14=aI k∧Own st.mu 1 (st.tm 9) (acc.map rB)) ?_ ?_
 ·exact ⟨[],rfl,rfl,by simp [go_sem],by simp [go_sem],by simp [go_sem],by simp [go_sem],by simp [go_sem],by simp [go_sem],.inl (by simp [go_sem])⟩
 rintro k st hk ⟨acc,ha,hal,e0,e6,e7,e12,e13,e14,ho⟩;by_cases hlt:k<ss.length
 ·have w1:IntKind.i64.wrap ((k:Int)+1)=(k:Int)+1:=qg (by omega) (by omega)
  have hF:=(ih ss[k] (qr hlt)).F;have hw:=wk3 x ⟨ss[k],p.env⟩ n;have hsp:=uR (l2:=ss.drop k) ha;rw [jW,qX hlt,mapX] at hsp;rw [hE] at hsp;simp [go_sem,e0,e6,e7,e12,e13,e14,hlt];cases ef:(den x n).F ⟨ss[k],p.env⟩ with
  |error e =>
   rw [ef] at hF hsp;subst hsp;refine qc.pans hF hw ?_;simp [go_sem,qS];exact .hf _ (qy _)
  |ok b =>
   rw [ef] at hF;refine qc.pure hF.toP hw ?_;simp [go_sem,e0,e6,e7,e12,e13,e14];refine qz.ownB (e:=4) (sz:=1) (bt:=1) (zv:=aB false) (xs:=acc.map rB) (ys:=[rB b]) (by simp [go_sem]) (by simp [go_sem]) (by simp [go_sem]) rfl rfl (by omega) (by omega) ho (by simp [qE]) (vP acc) (vP [b]) (by simp;omega) ?_;intro av' mu' ho' _ _ _;simp [go_sem,e0,e6,e7,e12,e13,e14,w1,Own.one ho'];refine ⟨hlt,Keep.mk' ⟨acc++[b],?_,by simp [hal],by simp [go_sem,e0],by simp [go_sem,e6],by simp [go_sem,e7],by simp [go_sem,e12],by simp [go_sem,e13],by simp [go_sem],?_⟩⟩
   ·rw [zN hlt,uR ha,mapX,ef];rfl
   ·rw [List.map_append]
    simpa [go_sem] using ho'
 ·have hge:k=ss.length:=by omega
  subst hge;rw [zb,hE] at ha;subst ha;simp [go_sem,e0,e6,e7,e12,e13,e14];exact Own.rdB ho
theorem Kv (x:List Bool) (y:Bool) (hl:x.length≤1000000000):qi Tryz.prog 124 [lB x,aB y] (aB (decide (y∈x))):=qaB x y hl
theorem qbW (x:Mo) (N:Nat) (n a b:Nd) (hM:OkMa x N) (hk:n.kids=[a,b]) (p:Pl) (hp:OkP x N p) (ih:∀ s,s∈x.path p.st→Ev3 x ⟨s,p.env⟩ a∧Ev3 x ⟨s,p.env⟩ b) (hl:(x.path p.st).length≤1000000) :
  qA Tryz.prog 127 [eMa x,ePl p,eNd n] (endB (untX (fun s=>(den x a).F ⟨s,p.env⟩) (fun s=>(den x b).F ⟨s,p.env⟩) (x.path p.st) false false)):=by
 refine qH.of_sound ?_;refine qSW Tryz.call127 Tryz.func127 rfl {} ?_;have hMf:=q8 x;have hpu:=VZ x N hM p.st hp.st;generalize hE:untX (fun s=>(den x a).F ⟨s,p.env⟩) (fun s=>(den x b).F ⟨s,p.env⟩) (x.path p.st) false false=E;generalize x.path p.st=ss at *
 simp [go_sem];refine qc.pure hpu (.cons (.hf hMf) (.cons (.hf (HF.sc _)) .nil)) ?_;simp [go_sem];refine qk.upK ss.length (fun k st=>∃ d q:Bool,untX (fun s=>(den x a).F ⟨s,p.env⟩) (fun s=>(den x b).F ⟨s,p.env⟩) (ss.drop k) d q=E∧st.tm 0=eMa x∧st.tm 4 = .ip (cPl p)∧st.tm 5 = .ip (cNd n)∧st.tm 7=aB d∧st.tm 8=aB q∧st.tm 17=lN ss∧st.tm 18=aI ss.length∧st.tm 19=aI k) ?_ ?_
 ·exact ⟨false,false,hE,by simp [go_sem],by simp [go_sem],by simp [go_sem],by simp [go_sem],by simp [go_sem],by simp [go_sem],by simp [go_sem],by simp [go_sem]⟩
 rintro k st hk' ⟨d,q,hu,e0,e4,e5,e7,e8,e17,e18,e19⟩;by_cases hlt:k<ss.length
 ·have w1:IntKind.i64.wrap ((k:Int)+1)=(k:Int)+1:=qg (by omega) (by omega)
  obtain ⟨iha,ihb⟩:=ih ss[k] (qr hlt);have hFa:=iha.F;have hFb:=ihb.F;have hwa:=wk3 x ⟨ss[k],p.env⟩ a;have hwb:=wk3 x ⟨ss[k],p.env⟩ b;rw [qX hlt,untX] at hu;simp [go_sem,e0,e4,e5,e7,e8,e17,e18,e19,hlt,hk];refine qd.seg [0,1,2,3,4,5,7,8,9,10,11,12,6,14,13,15] [(0,0,[]),(1,0,[]),(2,0,[]),(3,0,[]),(4,0,[]),(5,0,[]),(7,0,[]),(8,0,[]),(9,0,[]),(10,0,[]),(11,0,[]),(12,0,[]),(6,1,[8,10,12]),(14,0,[]),(13,1,[]),(15,0,[])] (by kernel_rfl) (by kernel_rfl) (by simp [go_sem]) ?_;simp [go_sem,e0,e4,e5,e7,e8,e17,e18,e19,hk];cases ea:(den x a).F ⟨ss[k],p.env⟩ with
  |error e =>
   rw [ea] at hFa hu;subst hu;refine qc.pans hFa hwa ?_;simp [go_sem,qS];exact .hf _ (qy _)
  |ok u =>
   rw [ea] at hFa hu;rw [qO] at hu;refine qc.pure hFa.toP hwa ?_;simp [go_sem,e0,e4,e5,e7,e8,e17,e18,e19,hk];cases eb:(den x b).F ⟨ss[k],p.env⟩ with
   |error e =>
    rw [eb] at hFb hu;subst hu;refine qc.pans hFb hwb ?_;simp [go_sem,qS];exact .hf _ (qy _)
   |ok v =>
    rw [eb] at hFb hu;rw [qO] at hu;refine qc.pure hFb.toP hwb ?_;cases d<;>cases q<;>cases u<;>cases v<;>simp [go_sem,e0,e4,e5,e7,e8,e17,e18,e19,hk,w1]<;>refine ⟨hlt,Keep.mk' ⟨_,_,hu,by simp [go_sem,e0],by simp [go_sem,e4],by simp [go_sem,e5],by simp [go_sem,e7],by simp [go_sem,e8],by simp [go_sem,e17],by simp [go_sem,e18],by simp [go_sem]⟩⟩
 ·have hge:k=ss.length:=by omega
  subst hge;rw [List.drop_length,untX] at hu;subst hu;simp [go_sem,e0,e4,e5,e7,e8,e17,e18,e19];exact .hf _ (HF.sc _)
theorem jr {n:Nd} (hw:WfN n) (h:n.op=5∨n.op=11∨n.op=12∨n.op=13∨n.op=21∨n.op=34∨n.op=35∨n.op=36∨n.op=37∨n.op=40∨n.op=48∨n.op=49∨n.op=50):∃ a,n.kids=[a]:=by
 have hsh:=hw.shape;have hl:n.kids.length=1:=by
  unfold shp at hsh;rw [if_neg (by omega)] at hsh;split at hsh
  ·simpa using congrArg List.length (Option.some.inj hsh).symm
  ·rw [if_neg (by omega),if_neg (by omega),if_neg (by omega),if_pos (by omega)] at hsh
   simpa using congrArg List.length (Option.some.inj hsh).symm
 match n.kids,hl with
 | [a],_=>exact ⟨a,rfl⟩
theorem yg {n:Nd} (hw:WfN n) (h:(6≤n.op∧n.op≤10)∨n.op=14∨n.op=15∨n.op=22∨n.op=23∨n.op=32∨n.op=33∨n.op=38∨n.op=39∨(41≤n.op∧n.op≤46)∨n.op=51):∃ a b,n.kids=[a,b]:=by
 have hsh:=hw.shape;have hl:n.kids.length=2:=by
  unfold shp at hsh;rw [if_neg (by omega),if_neg (by omega)] at hsh;split at hsh
  ·simpa using congrArg List.length (Option.some.inj hsh).symm
  ·split at hsh
   ·simpa using congrArg List.length (Option.some.inj hsh).symm
   ·split at hsh
    ·simpa using congrArg List.length (Option.some.inj hsh).symm
    ·rw [if_neg (by omega),if_pos (by omega)] at hsh
     simpa using congrArg List.length (Option.some.inj hsh).symm
 match n.kids,hl with
 | [a,b],_=>exact ⟨a,b,rfl⟩
theorem qbX (x:Mo) (N:Nat) (n:Nd) (hw:WfN n) (hM:OkMa x N) (ih:IH x N n) (p:Pl) (hp:OkP x N p) (hq:bd p n) :
  qA Tryz.prog 62 [eMa x,ePl p,eNd n] (endN ((den x n).N p)):=by
 refine qH.of_sound ?_;refine qSW Tryz.call62 Tryz.func62 rfl {} ?_;have hMf:=q8 x;rw [Yx];simp only [opD];unfold opN;by_cases o20:n.op=20
 ·rw [if_pos o20]
  simp [go_sem,o20];exact .hf _ (HF.sc _)
 rw [if_neg o20];by_cases o21:n.op=21
 ·rw [if_pos o21]
  obtain ⟨a,hk⟩:=jr hw (by omega);have ia:=(ih a (by rw [hk];simp) p hp (by omega)).E;have wa:=wk3 x p a;simp [go_sem,o21,hk,kD];refine qd.seg [0,1,2,3,4,5,6,7,8,9] [(0,0,[]),(1,0,[]),(2,0,[]),(3,0,[]),(4,0,[]),(5,0,[]),(6,1,[]),(7,0,[]),(8,0,[]),(9,0,[])] (by kernel_rfl) (by kernel_rfl) (by simp [go_sem]) ?_;simp [go_sem,hk];cases ea:(den x a).E p with
  |error e =>
   rw [ea] at ia;refine qc.pans ia wa ?_;simp [go_sem,qS];exact .hf _ (qy _)
  |ok r =>
   rw [ea] at ia;refine qc.pure ia.toP wa ?_;simp [go_sem,qO];exact .hf _ (HF.sc _)
 rw [if_neg o21];by_cases o22:n.op=22
 ·rw [if_pos o22]
  obtain ⟨a,b,hk⟩:=yg hw (by omega);have ia:=(ih a (by rw [hk];simp) p hp (by omega)).N;have ib:=(ih b (by rw [hk];simp) p hp (by omega)).N;have wa:=wk3 x p a;have wb:=wk3 x p b;simp [go_sem,o22,hk,kD];refine qd.seg [0,1,2,3,4,5,7,8,9,10,11,12,6,13,14,15] [(0,0,[]),(1,0,[]),(2,0,[]),(3,0,[]),(4,0,[]),(5,0,[]),(7,0,[]),(8,0,[]),(9,0,[]),(10,0,[]),(11,0,[]),(12,0,[]),(6,1,[8,10,12]),(13,1,[]),(14,0,[]),(15,0,[])] (by kernel_rfl) (by kernel_rfl) (by simp [go_sem]) ?_;simp [go_sem,hk];cases ea:(den x a).N p with
  |error e =>
   rw [ea] at ia;refine qc.pans ia wa ?_;simp [go_sem,qS];exact .hf _ (qy _)
  |ok r =>
   rw [ea] at ia;refine qc.pure ia.toP wa ?_;simp [go_sem,qO,hk];cases eb:(den x b).N p with
   |error e =>
    rw [eb] at ib;refine qc.pans ib wb ?_;simp [go_sem,qS];exact .hf _ (qy _)
   |ok s =>
    rw [eb] at ib;refine qc.pure ib.toP wb ?_;simp [go_sem,qO];exact .hf _ (HF.sc _)
 rw [if_neg o22];by_cases o23:n.op=23
 ·rw [if_pos o23]
  obtain ⟨a,b,hk⟩:=yg hw (by omega);have ia:=(ih a (by rw [hk];simp) p hp (by omega)).N;have ib:=(ih b (by rw [hk];simp) p hp (by omega)).N;have wa:=wk3 x p a;have wb:=wk3 x p b;simp [go_sem,o23,hk,kD];refine qd.seg [0,1,2,3,4,5,7,8,9,10,11,12,6,13,14,15] [(0,0,[]),(1,0,[]),(2,0,[]),(3,0,[]),(4,0,[]),(5,0,[]),(7,0,[]),(8,0,[]),(9,0,[]),(10,0,[]),(11,0,[]),(12,0,[]),(6,1,[8,10,12]),(13,1,[]),(14,0,[]),(15,0,[])] (by kernel_rfl) (by kernel_rfl) (by simp [go_sem]) ?_;simp [go_sem,hk];cases ea:(den x a).N p with
  |error e =>
   rw [ea] at ia;refine qc.pans ia wa ?_;simp [go_sem,qS];exact .hf _ (qy _)
  |ok r =>
   rw [ea] at ia;refine qc.pure ia.toP wa ?_;simp [go_sem,qO,hk];cases eb:(den x b).N p with
   |error e =>
    rw [eb] at ib;refine qc.pans ib wb ?_;simp [go_sem,qS];exact .hf _ (qy _)
   |ok s =>
    rw [eb] at ib;refine qc.pure ib.toP wb ?_;simp [go_sem,qO];exact .hf _ (HF.sc _)
 rw [if_neg o23];simp [go_sem,o20,o21,o22,o23];refine qc.pans (vd 43) (wkI 43) ?_;simp [go_sem];exact .hf _ (qy _)
end Go.Proofs.YtkglmpmlfjogkaaGreatDoor.F4


namespace Go.Proofs.YtkglmpmlfjogkaaGreatDoor.F5
open Go Go.Ev Go.Proofs Go.Proofs.YtkglmpmlfjogkaaGreatDoor Y1 Y9 P1 P2 YM YS YF E1 E2 E3 E7 EA EL EO EP EQ ER ET EW EY EZ F1 F2 F3 F4
theorem clipE (l:List (ByteArray×Int)):qi Tryz.prog 173 [lPm l] (.lst true (l.map cPm)):=by
 refine qSQ Tryz.call173 Tryz.func173 rfl {} ?_;have htk:List.take l.length (l.map cPm)=l.map cPm:=zC (by simp);simp [go_sem,htk];exact ⟨⟨_,_,⟨rfl,rfl⟩,fun r hr=>by obtain ⟨q,_,rfl⟩:=qn.1 hr;rfl⟩,.hf _ (HF.lst fun r hr c hc=>by obtain ⟨q,_,rfl⟩:=qn.1 hr;exact Yq q c hc)⟩
theorem clipI (l:List Int):qi Tryz.prog 167 [lI l] (lI l):=by
 refine qSQ Tryz.call167 Tryz.func167 rfl {} ?_;have htk:List.take l.length (l.map rI)=l.map rI:=zC (by simp);simp [go_sem,htk];exact ⟨⟨_,_,⟨rfl,rfl⟩,(vF l).ok⟩,.wk _ true _ (.hf _ (HF.lst fun r hr c hc=>by obtain ⟨q,_,rfl⟩:=qn.1 hr;simp at hc;subst hc;exact HF.sc _))⟩
theorem V0 (xs:List (ByteArray×Int)):qY 2 (xs.map cPm):=fun r hr=>by
 obtain ⟨n,_,rfl⟩:=qn.1 hr;exact ⟨rfl,rfl⟩
abbrev insC (ar:Int) (ts:List Int) (vs:List Bool):List AV:=[.ip [aI ar,lI ts],.ip [lB vs]]
def uS (ts:List Int) (vs:List Bool):List (List AV):=(ts.zip vs).map fun e=>[aI e.1,aB e.2]
theorem V1 (ar:Int) (ts:List Int) (vs:List Bool) (hl:ts.length=vs.length) (hb:ts.length≤1000000):yw Tryz.prog 174 (insC ar ts vs) (uS ts vs):=by
 refine yw.of Tryz.call174 fun i I Ix hS hX hY mu h0=>?_
 refine qSW Tryz.call174 Tryz.func174 rfl {} ?_;have hrl:(uS ts vs).length=ts.length:=by simp [uS,hl]
 simp [go_sem];refine qk.upK ts.length (fun k st=>st.tm 0 = .yl i∧st.tm 2 = .ip [lB vs]∧st.tm 7=lI ts∧st.tm 8=aI ts.length∧st.tm 9=aI k∧I k st.mu) ?_ ?_
 ·exact ⟨by simp [go_sem],by simp [go_sem],by simp [go_sem],by simp [go_sem],by simp [go_sem],by simpa [go_sem] using h0⟩
 rintro k st hk ⟨e0,e2,e7,e8,e9,hI⟩;by_cases hlt:k<ts.length
 ·have w1:IntKind.i64.wrap ((k:Int)+1)=(k:Int)+1:=qg (by omega) (by omega)
  have hv:k<vs.length:=by omega
  have hget:(uS ts vs)[k]?=some [aI ts[k],aB vs[k]]:=by
   rw [uS,qW,List.getElem?_zip_eq_some (z:=(ts[k],vs[k])) |>.2 ⟨qq hlt,qq hv⟩];rfl
  simp [go_sem,e0,e2,e7,e8,e9,hlt,hv];refine qc.yield (hY _ _ _ hget hI) ?_;rintro b mu' (⟨rfl,hI'⟩ | ⟨rfl,hx'⟩)
  ·simp [go_sem,e0,e2,e7,e8,e9,w1]
   exact ⟨hlt,Keep.mk' ⟨by simp [go_sem,e0],by simp [go_sem,e2],by simp [go_sem,e7],by simp [go_sem,e8],by simp [go_sem],by simpa [go_sem] using hI'⟩⟩
  ·simp [go_sem]
   exact .inr hx'
 ·have hge:k=ts.length:=by omega
  subst hge;simp [go_sem,e0,e2,e7,e8,e9];exact .inl (by rw [hrl];exact hI)
def endI (l:XE (List (Int×Bool))):AEnd:=match l with
 | .ok l => .ret (.fn (.func 174) [] (insC 1 (l.map Prod.fst) (l.map Prod.snd)))
 | .error e => .pan (errV e)
theorem YR (l:List (Int×Bool)):endI (.ok l) = .ret (.fn (.func 174) [] (insC 1 (l.map Prod.fst) (l.map Prod.snd))):=rfl
theorem V2 (e:Int):endI (.error e) = .pan (errV e):=rfl
theorem V3 (x:Mo) (N:Nat) (n a b:Nd) (hM:OkMa x N) (hk:n.kids=[a,b]) (ih:IH x N n) (p:Pl) (hp:OkP x N p) (hq:bd p n) :
  qA Tryz.prog 123 [eMa x,ePl p,eNd n] (endI (ye [den x a,den x b] n.name p)):=by
 refine qH.of_sound ?_;refine qSW Tryz.call123 Tryz.func123 rfl {} ?_;have ia:=ih a (by rw [hk];simp) p hp (by omega);have ha:=ia.E;have wa:=wk3 x p a;have hMf:=q8 x;have ihb:=fun p' h1 h2=>(ih b (by rw [hk];simp) p' h1 h2).F
 generalize hE:ye [den x a,den x b] n.name p=E;unfold ye at hE;simp only [kD,List.getD_cons_zero,List.getD_cons_succ] at hE;simp [go_sem,hk];refine qd.seg [0,1,2,3,4,5,6,7,8] [(0,0,[]),(1,0,[]),(2,0,[]),(3,0,[]),(4,0,[]),(5,0,[]),(6,1,[]),(7,2,[1,3,5]),(8,1,[])] (by kernel_rfl) (by kernel_rfl) (by simp [go_sem]) ?_;simp [go_sem,hk];cases ea:(den x a).E p with
 |error e =>
  rw [ea] at ha hE;subst hE;refine qc.pans ha wa ?_;simp [go_sem,qS,V2];exact .hf _ (qy _)
 |ok d =>
  rw [ea] at ha hE;rw [qO] at hE;refine qc.pure ha.toP wa ?_;by_cases he:d.ar=1
  case neg =>
   rw [if_neg he] at hE;subst hE;simp [go_sem,hk,he];refine qc.pans (vd 42) (wkI 42) ?_;simp [go_sem,V2];exact .hf _ (qy _)
  rw [if_pos he] at hE;have hd:(d.ar=1)=True:=eq_true he;have gd:=ia.G _ ea;have ld:=gd.len hM.n0 (OkMa.n20 hM);generalize hg:(fun a=>bX ((den x b).F ⟨p.st,p.env++[(n.name,a)]⟩) fun b=>(Except.ok (a,b):XE (Int×Bool)))=g at hE;simp [go_sem,hk,hd];refine qk.upK d.ts.length (fun k st=>∃(acc:List (Int×Bool)) (av:AV),mapX g (d.ts.take k) = .ok acc∧acc.length=k∧st.tm 0=eMa x∧st.tm 4 = .ip (cPl p)∧st.tm 5 = .ip (cNd n)∧st.tm 7 = .ptr 0 0∧st.tm 8 = .ptr 1 0∧st.tm 24=lI d.ts∧st.tm 25=aI d.ts.length∧st.tm 26=aI k ∧
   st.mu[0]?=some (.arr (cRel d))∧st.mu[1]?=some (.arr [av])∧Own st.mu 1 av ((acc.map Prod.snd).map rB)∧qp av≠some 0∧qp av≠some 1) ?_ ?_
  ·exact ⟨[],.lst true [],rfl,rfl,by simp [go_sem],by simp [go_sem],by simp [go_sem],by simp [go_sem],by simp [go_sem],by simp [go_sem],by simp [go_sem],by simp [go_sem],by simp [go_sem],by simp [go_sem],.inl rfl,by simp [qp],by simp [qp]⟩
  rintro k st hkk ⟨acc,av,ha',hal,e0,e4,e5,e7,e8,e24,e25,e26,g0,g1,ho,n0,n1⟩;by_cases hlt:k<d.ts.length
  ·have w1:IntKind.i64.wrap ((k:Int)+1)=(k:Int)+1:=qg (by omega) (by omega)
   have hv:=gd.val _ (qr hlt);rw [he,jR] at hv;have hF:=ihb ⟨p.st,p.env++[(n.name,d.ts[k])]⟩ (hp.bind hv) (by simp;omega);have hw:=wk3 x ⟨p.st,p.env++[(n.name,d.ts[k])]⟩ b;have hsp:=uR (l2:=d.ts.drop k) ha';rw [jW,qX hlt,mapX] at hsp;rw [hE] at hsp;have hgk:g d.ts[k]=bX ((den x b).F ⟨p.st,p.env++[(n.name,d.ts[k])]⟩) fun b => .ok (d.ts[k],b):=by rw [←hg]
   simp [go_sem,e0,e4,e5,e7,e8,e24,e25,e26,hlt];refine qd.seg [0,1,3,4,5,6,7,2,8,9] [(0,0,[]),(1,0,[]),(3,0,[]),(4,0,[]),(5,0,[]),(6,0,[]),(7,0,[]),(2,1,[4]),(8,1,[]),(9,0,[])] (by kernel_rfl) (by kernel_rfl) (by simp [go_sem]) ?_;simp [go_sem,e0,e4,e5,e7,e8,e24,e25,e26];refine qc.pure (clipE p.env) (.cons (.hf (yV _)) .nil) ?_;simp [go_sem,e0,e4,e5,e7,e8,e24,e25,e26];refine qz.ownB (e:=68) (sz:=2) (bt:=24) (zv := .agg [aS ⟨#[]⟩,aI 0]) (xs:=p.env.map cPm) (ys:=[cPm (n.name,d.ts[k])]) (by simp [go_sem]) (by simp [go_sem]) (by simp [go_sem]) rfl rfl (by omega) (by omega) (.inl rfl) (by simp [qE]) (V0 p.env) (V0 [(n.name,d.ts[k])]) (by simp;omega) ?_;intro ev mu1 hoe hs1 hb1 hl1;have l1:1<st.mu.length:=(qh.1 g1).1;have hrow:p.env.map cPm++[cPm (n.name,d.ts[k])]=(p.env++[(n.name,d.ts[k])]).map cPm:=by rw [List.map_append];rfl
   rw [hrow] at hoe;have hs1':∀ i,i<st.mu.length→mu1[i]?=st.mu[i]?:=fun i hi=>hs1 i hi (by simp [qp])
   simp [go_sem,Own.one hoe];refine qd.fz (FzQ.ownB (d:=11) (sz:=2) (av:=ev) (xs:=(p.env++[(n.name,d.ts[k])]).map cPm) (by simp [go_sem]) hoe (V0 _) (fun r hr c hc=>by obtain ⟨q,_,rfl⟩:=qn.1 hr;exact Yq q c hc) fun mu2 full hl2 hs2=>?_);have hs3:∀ i,i<st.mu.length→mu2[i]?=st.mu[i]?:=fun i hi=>(hs2 i (fun e=>by have:=hb1 i e;omega)).trans (hs1' i hi)
   simp [go_sem,e0,e4,e5,e7,e8,e24,e25,e26];refine qd.seg [0,1,2,3,4,5,6,7,8,9,10,11,12,13] [(0,0,[]),(1,0,[]),(2,0,[]),(3,0,[]),(4,0,[]),(5,0,[]),(6,0,[]),(7,0,[]),(8,0,[]),(9,0,[]),(10,1,[0]),(11,0,[]),(12,1,[]),(13,1,[])] (by kernel_rfl) (by kernel_rfl) (by simp [go_sem]) ?_;have h0':=(hs3 0 (by omega)).trans g0;have h1':=(hs3 1 l1).trans g1;have hwa:∀ f,WKs [eMa x,.agg [aI p.st,.lst f ((p.env++[(n.name,d.ts[k])]).map cPm)],eNd b] [eMa x,ePl ⟨p.st,p.env++[(n.name,d.ts[k])]⟩,eNd b]:=fun f =>
    .cons (.hf hMf) (.cons (WK.aggs (.cons (.hf (HF.sc _)) (.cons (WK.lst fun r hr c hc=>by obtain ⟨q,_,rfl⟩:=qn.1 hr;exact Yq q c hc) .nil))) (.cons (.hf (qB b)) .nil))
   have ho2:Own mu2 1 av ((acc.map Prod.snd).map rB):=by
    rcases ho with h | ⟨bb,h,hc⟩
    ·exact .inl h
    ·exact .inr ⟨bb,h,by rw [hs3 bb (qh.1 hc).1];exact hc⟩
   have hwa:WKs [eMa x,.agg [aI p.st,.lst full (p.env.map cPm++[cPm (n.name,d.ts[k])])],.agg (cNd b)] [eMa x,ePl ⟨p.st,p.env++[(n.name,d.ts[k])]⟩,eNd b]:=by rw [hrow];exact hwa full
   simp [go_sem,e0,e4,e5,e7,e8,e24,e25,e26,hk,h1'];cases ef:(den x b).F ⟨p.st,p.env++[(n.name,d.ts[k])]⟩ with
   |error e =>
    rw [ef] at hF hgk;rw [hgk] at hsp;subst hsp;refine qc.pans hF hwa ?_;simp [go_sem,qS,V2];exact .hf _ (qy _)
   |ok v =>
    rw [ef] at hF hgk;refine qc.pure hF.toP hwa ?_;simp [go_sem,e0,e4,e5,e7,e8,e24,e25,e26,h1'];refine qz.ownB (e:=4) (sz:=1) (bt:=1) (zv:=aB false) (xs:=(acc.map Prod.snd).map rB) (ys:=[rB v]) (by simp [go_sem]) (by simp [go_sem]) (by simp [go_sem]) rfl rfl (by omega) (by omega) ho2 (by simp [qE]) (vP _) (vP [v]) (by simp;omega) ?_;intro av' mu' ho' hs' hb' hl';have hml:st.mu.length≤mu2.length:=by
     have:mu2.length=mu1.length:=hl2;omega
    have k0:mu'[0]?=some (.arr (cRel d)):=(hs' 0 (by omega) n0).trans h0';have k1:mu'[1]?=some (.arr [av]):=(hs' 1 (by omega) n1).trans h1';have m0:qp av'≠some 0:=fun e=>by have:=hb' 0 e;omega
    have m1:qp av'≠some 1:=fun e=>by have:=hb' 1 e;omega
    simp [go_sem,e0,e4,e5,e7,e8,e24,e25,e26,k1,Own.one ho',Own.cells ho',w1];refine ⟨hlt,Keep.mk' ⟨acc++[(d.ts[k],v)],av',?_,by simp [hal],by simp [go_sem,e0],by simp [go_sem,e4],by simp [go_sem,e5],by simp [go_sem,e7],by simp [go_sem,e8],by simp [go_sem,e24],by simp [go_sem,e25],by simp [go_sem],?_,?_,?_,m0,m1⟩⟩
    ·rw [zN hlt,uR ha',mapX,hgk];rfl
    ·simp only [qD];rw [qC (by omega)];exact k0
    ·simp only [qD];rw [qR (by omega)]
    ·simp only [qD]
     rw [List.map_append,List.map_append];exact Own.set ho' _ m1
  ·have hge:k=d.ts.length:=by omega
   subst hge;rw [zb,hE] at ha';subst ha';have hfst:=VY (g:=fun a=>(den x b).F ⟨p.st,p.env++[(n.name,a)]⟩) (ts:=d.ts) (l:=acc) (by rw [hg];exact hE);have hend:=YR acc;rw [hfst] at hend;generalize acc.map Prod.snd=vs at *
   simp [go_sem,e0,e4,e5,e7,e8,e24,e25,e26,hend];refine .fn _ _ _ _ _ rfl rfl (fun k x y hx=>by simp at hx) (fun k x y hx hy=>?_)
   match k with
   | 0 =>
    simp at hx hy;subst hx;subst hy;rw [←he];refine .ptr 0 0 _ _ g0 (by simp) fun k u v hu hv=>?_
    rw [Nat.zero_add] at hu;rw [hu] at hv;cases hv;exact .hf _ (Zd d _ (qG hu))
   | 1=>simp at hx hy;subst hx;subst hy;exact Rd.ip1 g1 (Own.rdB ho)
   |k+2=>simp at hx
theorem RelM.push {mu:Mu} {ar:Int} {l:List Int} (h:RelM mu ar l):RelM (mu++[.dead]) ar l:=by
 obtain ⟨av,g0,g1,ho,n0,n1⟩:=h;exact ⟨av,by rw [qm (qh.1 g0).1];exact g0,by rw [qm (qh.1 g1).1];exact g1,ho.same fun b hb=>by rw [qm (ho.v.lt hb)],n0,n1⟩
abbrev onL (l:List (Int×Bool)):List Int:=(l.filter fun e=>e.2).map fun e=>e.1
theorem V4 (l:List (Int×Bool)):uS (l.map Prod.fst) (l.map Prod.snd)=l.map fun e=>[aI e.1,aB e.2]:=by
 rw [uS,List.zip_map'];simp
theorem qbY (l:List (Int×Bool)) (k:Nat) (h:k<l.length):onL (l.take (k+1))=onL (l.take k)++(if l[k].2=true then [l[k].1] else []):=by
 rw [zN h,onL,List.filter_append,List.map_append];cases hb:l[k].2<;>simp [hb]
theorem V5 {ds:List Den} {nm:ByteArray} {p:Pl} {l:List (Int×Bool)} (h:ye ds nm p = .ok l) (B:Nat) (hB:∀ d,(kD ds 0).E p = .ok d→d.ts.length≤B):l.length≤B:=by
 obtain ⟨d,h1,_,h3⟩:=Kn h;have:=congrArg List.length h3;rw [yj] at this;rw [this];exact hB d h1
theorem qbZ (x:Mo) (N:Nat) (n a b:Nd) (hM:OkMa x N) (hk:n.kids=[a,b]) (ih:IH x N n) (p:Pl) (hp:OkP x N p) (hq:bd p n) :
  qA Tryz.prog 108 [eMa x,ePl p,eNd n] (endE (bX (ye [den x a,den x b] n.name p) fun l => .ok ⟨1,(l.filter fun e=>e.2).map fun e=>e.1⟩)):=by
 refine qH.of_sound ?_;refine qSW Tryz.call108 Tryz.func108 rfl {} ?_;have hi:=V3 x N n a b hM hk ih p hp hq;have wx:=wk3 x p n;simp [go_sem];cases hE:ye [den x a,den x b] n.name p with
 |error e =>
  rw [hE] at hi;refine qc.pans hi wx ?_;simp [go_sem,qS];exact .hf _ (qy _)
 |ok l =>
  rw [hE] at hi;have hl:l.length≤8000:=V5 hE 8000 fun d h=>((ih a (by rw [hk];simp) p hp (by omega)).G d h).len hM.n0 (OkMa.n20 hM)
  have hit:=V1 1 (l.map Prod.fst) (l.map Prod.snd) (by simp) (by simp;omega);rw [V4] at hit;rw [YR] at hi;refine qc.pure hi.toP wx ?_;generalize insC 1 (l.map Prod.fst) (l.map Prod.snd)=C at *
  simp [go_sem,qO];refine jm.keep hit (fun j M=>RelM M 1 (onL (l.take j))) (fun _ _=>False) ?_ ?_ ?_ ?_ ?_ ?_
  ·exact ⟨.lst true [],by simp [go_sem],by simp [go_sem],.inl ⟨rfl,rfl⟩,by simp [qp],by simp [qp]⟩
  ·exact fun j M h=>RelM.push h
  ·intro e M h;exact h
  ·rintro j y M hj ⟨av,g0,g1,ho,n0,n1⟩
   rw [qW,ju] at hj;obtain ⟨t,ht,rfl⟩:=hj;obtain ⟨hjl,hte⟩:=qh.1 ht;have hon:=qbY l j hjl;rw [hte] at hon;refine ⟨rfl,?_⟩;cases hb:t.2 with
   |true =>
    rw [if_pos hb] at hon;have hln:(onL (l.take j)).length≤8000:=by
     rw [onL,yj];exact zj (List.length_filter_le _ _) (by simp;omega)
    simp [go_sem,g1];refine qz.ownV1 (e:=3) (bt:=8) (z:=0) (by simp [go_sem]) (by simp [go_sem]) (by simp [go_sem]) (by omega) ho.v (by omega) ?_;intro av' mu' ho' hs' hl' hb';obtain ⟨k1,k2⟩:=RelM.step g0 g1 n0 n1 ho' hs' hl' hb';simp [go_sem,k1,ho'.v.one,ho'.v.cells];refine jd.intro ?_;rw [hon];exact k2
   |false =>
    rw [if_neg (by rw [hb];simp),zc] at hon;simp [go_sem];refine jd.intro ?_;rw [hon];exact ⟨av,g0,g1,ho,n0,n1⟩
  ·rintro M ⟨av,g0,g1,ho,n0,n1⟩
   rw [yj,zb] at ho;have hset:∀ c,(M.set 0 c)[0]?=some c:=fun c=>qR (qh.1 g0).1
   simp [go_sem,g0,g1,hset,ho.v.one,ho.v.cells];refine OwnV.rdRel (ho.v.same fun b hb=>?_);rw [qC (fun e=>n0 (by rw [e];exact hb))]
  ·intro e M h;exact h.elim
end Go.Proofs.YtkglmpmlfjogkaaGreatDoor.F5


namespace Go.Proofs.YtkglmpmlfjogkaaGreatDoor.F6
open Go Go.Ev Go.Proofs Go.Proofs.YtkglmpmlfjogkaaGreatDoor Y1 Y2 Y10 Y9 P1 P2 YM YS YF E1 E2 E3 E7 EA EL EO EP EQ ER ET EW EY EZ F1 F2 F3 F4 F5
theorem backU (l:List (ByteArray×Int)):qi Tryz.prog 165 [lPm l] (.fn (.func 201) [] [.ip [lPm l]]):=by
 refine qSQ Tryz.call165 Tryz.func165 rfl {} ?_;simp [go_sem];exact .hf _ (HF.fn (by simp) (by simp;exact yf (yV _)))
def ul (l:List (ByteArray×Int)):List (List AV):=(List.range l.length).map fun k:Nat=>[aI ((l.length-1-k:Nat):Int),.agg (cPm (l.getD (l.length-1-k) (⟨#[]⟩,0)))]
theorem qb0 (l:List (ByteArray×Int)) (hl:l.length≤1000000000):yw Tryz.prog 201 [.ip [lPm l]] (ul l):=by
 refine yw.of Tryz.call201 fun i I Ix hS hX hY mu h0=>?_
 refine qSW Tryz.call201 Tryz.func201 rfl {} ?_;have hrl:(ul l).length=l.length:=by simp [ul]
 have w0:IntKind.i64.wrap ((l.length:Int)-1)=(l.length:Int)-1:=qg (by omega) (by omega);simp [go_sem,w0];refine qk.upK l.length (fun k st=>st.tm 0 = .yl i∧st.tm 1 = .ip [lPm l]∧st.tm 3=aI ((l.length:Int)-1-k)∧I k st.mu) ?_ ?_
 ·exact ⟨by simp [go_sem],by simp [go_sem],by simp [go_sem],by simpa [go_sem] using h0⟩
 rintro k st hk ⟨e0,e1,e3,hI⟩;by_cases hlt:k<l.length
 ·have hj:((l.length:Int)-1-k)=((l.length-1-k:Nat):Int):=by omega
  have hjl:l.length-1-k<l.length:=by omega
  have hw:IntKind.i64.wrap (((l.length-1-k:Nat):Int)-1)=(l.length:Int)-1-((k+1:Nat):Int):=by rw [qg (by omega) (by omega)];omega
  have hge0:(0:Int)≤((l.length-1-k:Nat):Int):=by omega
  have hget:(ul l)[k]?=some [aI ((l.length-1-k:Nat):Int),.agg (cPm l[l.length-1-k])]:=by
   rw [ul,qW,jX hlt];simp [List.getD_eq_getElem?_getD,qq hjl]
  rw [hj] at e3;generalize l.length-1-k=j at *
  simp [go_sem,e0,e1,e3,hge0,hjl];refine qc.yield (hY _ _ _ hget hI) ?_;rintro b mu' (⟨rfl,hI'⟩ | ⟨rfl,hx'⟩)
  ·simp [go_sem,e0,e1,e3,hw]
   exact ⟨hlt,Keep.mk' ⟨by simp [go_sem,e0],by simp [go_sem,e1],by simp [go_sem],by simpa [go_sem] using hI'⟩⟩
  ·simp [go_sem]
   exact .inr hx'
 ·have hge:k=l.length:=by omega
  subst hge;rw [show (l.length:Int)-1-l.length = -1 by omega] at e3;simp [go_sem,e0,e1,e3];exact .inl (by rw [hrl];exact hI)
theorem V6 (nm:ByteArray):∀(l:List (ByteArray×Int)) (r:Option Int),(∀ e,e∈l→e.1≠nm)→l.foldl (fun r e=>if e.1=nm then some e.2 else r) r=r
 | [],r,_=>rfl
 |e :: l,r,h=>by rw [List.foldl_cons,if_neg (h e (by simp))];exact V6 nm l r fun x hx=>h x (by simp [hx])
theorem qb1 {nm:ByteArray} {env:List (ByteArray×Int)} (h:∀ e,e∈env→e.1≠nm):uM nm env=none:=V6 nm env none h
theorem qb2 {nm:ByteArray} {env:List (ByteArray×Int)} {j:Nat} (hj:j<env.length) (he:env[j].1=nm) (h:∀ e,e∈env.drop (j+1)→e.1≠nm):uM nm env=some env[j].2:=by
 have e:env=env.take j++env[j] :: env.drop (j+1):=by rw [←qX hj,jW]
 unfold uM
 conv=>lhs;rw [e]
 rw [Qi,List.foldl_cons,if_pos he];exact V6 nm _ _ h
theorem qb3 (fs:List Fld) (rs:List Rl) (nm:ByteArray) (k:Nat) (h:k<fs.length) (h':k<rs.length):jq (fs.take (k+1)) (rs.take (k+1)) nm=jq (fs.take k) (rs.take k) nm++(if fs[k].name=nm then [rs[k]] else []):=by
 unfold jq;rw [zN h,zN h',List.zip_append (by simp;omega),List.filterMap_append];congr 1;by_cases e:fs[k].name=nm<;>simp [e]
theorem Kw (fs:List Fld) (rs:List Rl) (nm:ByteArray):(jq fs rs nm).length≤fs.length:=by
 unfold jq;refine zj (List.length_filterMap_le _ _) ?_;rw [List.length_zip];omega
def um (x:Mo) (nm:ByteArray) (i:Nat) (s:ByteArray×Bool):List Rl:=(if s.1=nm then [⟨1,q7 x i⟩] else [])++((if s.2=true∧s.1++yD=nm then [⟨1,(q7 x i).take 1⟩] else [])++(if s.2=true∧s.1++jB=nm then [⟨2,va x i⟩] else []))
theorem Kx (x:Mo) (nm:ByteArray):∀(a b:List (ByteArray×Bool)) (i:Nat),z6 x nm i (a++b)=z6 x nm i a++z6 x nm (i+a.length) b
 | [],b,i=>rfl
 |s :: a,b,i=>by
  rw [List.cons_append,z6,z6,Kx x nm a b (i+1),List.length_cons,show i+1+a.length=i+(a.length+1) by omega];simp only [zf]
theorem Ky (x:Mo) (nm:ByteArray) (so:List (ByteArray×Bool)) (k:Nat) (h:k<so.length):z6 x nm 0 (so.take (k+1))=z6 x nm 0 (so.take k)++um x nm k so[k]:=by
 rw [zN h,Kx,List.length_take,Nat.min_eq_left (by omega),Nat.zero_add,z6];simp [um,z6]
theorem qb4 (x:Mo) (nm:ByteArray) (i:Nat) (s:ByteArray×Bool):(um x nm i s).length≤3:=by
 unfold um;simp only [za];split<;>split<;>split<;>simp
theorem Kz (x:Mo) (nm:ByteArray) (so:List (ByteArray×Bool)):∀ k,k≤so.length→(z6 x nm 0 (so.take k)).length≤3*k
 | 0,_=>by simp [z6]
 |k+1,h=>by
  rw [Ky x nm so k (by omega),za];have:=Kz x nm so k (by omega);have:=qb4 x nm k so[k];omega
theorem qb5 (sc:Sc) (i:Nat):tupR sc [(i:Int)] 0=(List.range (gI sc.atoms i).toNat).map fun k:Nat=>sumI (sc.atoms.take i)+k:=by
 rw [tupR];simp only [tupR,Int.zero_mul,Int.zero_add,show (i:Int).toNat=i by omega];exact List.map_eq_flatMap.symm
theorem FzQ.above {Q:qM→St→Prop} {i d L:Nat} {x:AV} {st:St} (hr:Rd (cutM (fun j=>decide (L≤j)) st.mu 0) (st.tm d) x) (k:Q (.exit i) (st.put (some d) x (cutM (fun j=>!decide (L≤j)) st.mu 0))):FzQ Q (.exit i) st:=by
 refine ⟨_,⟨fun j=>decide (L≤j),rfl,fun j=>?_⟩,trivial,k⟩;simp only [St.put];split
 ·rename_i h;subst h;exact .rd _ _ hr
 ·exact .same _
def bR:Nat→Int
 | 0=>0
 |k+1=>bR k*20+20
theorem bR_ok:∀ k,k≤3→bR k≤100000
 | 0,_=>by decide
 | 1,_=>by decide
 | 2,_=>by decide
 | 3,_=>by decide
def jF (n:Int) (tuple:List Int):Int:=tuple.foldl (fun o t=>o*n+t) 0
theorem qb6 (n:Int) (tuple:List Int) (k:Nat) (h:k<tuple.length):jF n (tuple.take (k+1))=jF n (tuple.take k)*n+tuple[k]:=by
 rw [List.take_add_one,qq h,jF,jF,Qi];rfl
theorem rankU (sc:Sc) (g:GSc sc) (tuple:List Int) (ht:tuple.length≤3) (hd:∀ d,d∈tuple→0≤d∧d<sumI sc.atoms):qi Tryz.prog 168 [eSc sc,lI tuple] (aI (jF (sumI sc.atoms) tuple)):=by
 refine qSQ Tryz.call168 Tryz.func168 rfl {} ?_;simp [go_sem,show ¬(3:Int)<tuple.length by omega];refine qc.pure (VD sc g) (.cons (.hf (yK sc)) .nil) ?_;have hsum:=g.sum sc.atoms.length;rw [zb] at hsum;generalize sumI sc.atoms=n at *
 simp [go_sem];refine qk.up tuple.length (fun k st=>st.tm 5=aI n∧st.tm 14=lI tuple∧st.tm 15=aI tuple.length∧st.tm 6=aI (jF n (tuple.take k))∧st.tm 16=aI k∧st.mu=[]∧0≤jF n (tuple.take k)∧jF n (tuple.take k)≤bR k) ?_ ?_
 ·simp [go_sem,jF,bR]
 rintro k st hk ⟨e5,e14,e15,e6,e16,hm,hr0,hr1⟩;by_cases hlt:k<tuple.length
 ·have hdk:=hd _ (qr hlt)
  have hs:=qb6 n tuple k hlt;have hb:=bR_ok k (by omega);have hbs:bR (k+1)=bR k*20+20:=rfl;generalize hre:jF n (tuple.take k)=r at *
  have m0:0≤r*n:=Int.mul_nonneg hr0 (by omega);have m1:r*n≤bR k*20:=Int.mul_le_mul hr1 (by omega) (by omega) (by omega);have hw:IntKind.i64.wrap (n-1)=n-1:=qg (by omega) (by omega);simp [go_sem,e5,e14,e15,e6,e16,hm,hlt,hw];refine qc.pure (VP tuple[k] 0 (n-1)) (.cons (.hf (HF.sc _)) (.cons (.hf (HF.sc _)) (.cons (.hf (HF.sc _)) .nil))) ?_;simp [go_sem,e5,e14,e15,e6,e16,hm,hlt,hdk.1,show tuple[k]≤n-1 by omega];rw [hs,qg (n:=r*n) (by omega) (by omega),qg (n:=r*n+tuple[k]) (by omega) (by omega),qg (n:=(k:Int)+1) (by omega) (by omega)];exact ⟨rfl,rfl,by omega,by omega⟩
 ·have hge:k=tuple.length:=by omega
  subst hge;simp [go_sem,e5,e14,e15,e6,e16,hm];exact .hf _ (HF.sc _)
theorem BrS.join {P:Program} {pl:Pol} {b:Bool} {st:St} {A B:Code} {K:St→Prop} {Q:qM→St→Prop} (J:St→Prop) (h1:b=true→awp P pl A (seqQ (fun st=>Keep J .mk st) Q) st) (h2:b=false→awp P pl B (seqQ (fun st=>Keep J .mk st) Q) st) (hK:∀ st,J st→K st) :
  BrS b (awp P pl A (seqQ K Q)) (awp P pl B (seqQ K Q)) st:=by
 refine BrS.intro (fun h=>awp.mono A (h1 h) fun e st he=>?_) (fun h=>awp.mono B (h2 h) fun e st he=>?_)
 all_goals cases e with
  |normal=>exact hK st he
  |exit i=>exact he
  |ret=>exact he
  |pan v=>exact he
theorem BrS.at {b:Bool} {p q:St→Prop} {st:St} (J:St→Prop) (h:J st) (k:∀ st,J st→BrS b p q st):BrS b p q st:=k st h
def FndM (mu:Mu) (s:AV) (F:List Rl):Prop:=mu[0]?=some (.arr [aI 0,.lst true []])∧Own mu 2 s (F.map cRel)∧qp s≠some 0
theorem WK.intsF {full:Bool} (l:List Int):WK (.lst full (l.map rI)) (lI l):=WK.lst fun r hr c hc=>by
 obtain ⟨n,_,rfl⟩:=qn.1 hr;simp at hc;subst hc;exact HF.sc _
structure SInv (x:Mo) (nm sn:ByteArray) (sb:Bool) (k c d:Nat) (F:List Rl) (st:St):Prop where
 e0:st.tm 0=eMa x
 e5:st.tm 5 = .ip [aS nm]
 e6:st.tm 6 = .ptr 0 0
 e13:st.tm 13 = .ptr c 0
 e14:st.tm 14 = .ptr d 0
 e65:st.tm 65=lSo x.ts.sorts
 e66:st.tm 66=aI x.ts.sorts.length
 e67:st.tm 67=aI k
 g0:st.mu[0]?=some (.arr [aI 0,.lst true []])
 gc:st.mu[c]?=some (.arr [aS sn,aB sb])
 gd:st.mu[d]?=some (.arr [aI 1,lI (q7 x k)])
 ho:Own st.mu 2 (st.tm 9) (F.map cRel)
 n0:qp (st.tm 9)≠some 0
 nc:qp (st.tm 9)≠some c
 nd:qp (st.tm 9)≠some d
structure SNew (c d:Nat) (F:List Rl) (av:AV) (mu:Mu):Prop where
 g0:mu[0]?=some (.arr [aI 0,.lst true []])
 ho:Own mu 2 av (F.map cRel)
 n0:qp av≠some 0
 nc:qp av≠some c
 nd:qp av≠some d
theorem SInv.app {t t':TypeId} (hs:qF Tryz.prog t=some (42,2,32)) (hs':(qF Tryz.prog t').isSome=true) {x:Mo} {nm sn:ByteArray} {sb:Bool} {k c d:Nat} {F:List Rl} {st:St} (h:SInv x nm sn sb k c d F st) (hl:F.length≤100) (r:Rl) {xv:AV} (hx:qE st.mu xv=some [cRel r]) {K:AV→Mu→Prop}
  (kk:∀ av mu',SNew c d (F++[r]) av mu'→mu'[c]?=some (.arr [aS sn,aB sb])→mu'[d]?=some (.arr [aI 1,lI (q7 x k)])→K av mu'):qz Tryz.prog st.mu #[t,t'] (st.tm 9) xv K:=by
 have lc:=(qh.1 h.gc).1;have ld:=(qh.1 h.gd).1;have l0:=(qh.1 h.g0).1;refine qz.ownB (e:=42) (sz:=2) (bt:=32) (zv := .agg [aI 0,.lst true []]) (xs:=F.map cRel) (ys:=[cRel r]) hs hs' (by simp [go_sem]) rfl rfl (by omega) (by omega) h.ho hx (uD _) (uD [r]) (by simp;omega) ?_;intro av' mu' ho' hs' hb' hl';refine kk av' mu' ⟨by rw [hs' 0 l0 h.n0];exact h.g0,by rw [List.map_append];exact ho',fun e=>by have:=hb' 0 e;omega,fun e=>by have:=hb' c e;omega,fun e=>by have:=hb' d e;omega⟩ (by rw [hs' c lc h.nc];exact h.gc) (by rw [hs' d ld h.nd];exact h.gd)
theorem appR {t t':TypeId} (hs:qF Tryz.prog t=some (42,2,32)) (hs':(qF Tryz.prog t').isSome=true) {mu:Mu} {s:AV} {F:List Rl} (h:FndM mu s F) (hl:F.length≤100) (r:Rl) {xv:AV} (hx:qE mu xv=some [cRel r]) {K:AV→Mu→Prop}
  (kk:∀ av mu',FndM mu' av (F++[r])→K av mu'):qz Tryz.prog mu #[t,t'] s xv K:=by
 have l0:=(qh.1 h.1).1;refine qz.ownB (e:=42) (sz:=2) (bt:=32) (zv := .agg [aI 0,.lst true []]) (xs:=F.map cRel) (ys:=[cRel r]) hs hs' (by simp [go_sem]) rfl rfl (by omega) (by omega) h.2.1 hx (uD _) (uD [r]) (by simp;omega) ?_;intro av' mu' ho' hs' hb' hl';exact kk av' mu' ⟨by rw [hs' 0 l0 h.2.2];exact h.1,by rw [List.map_append];exact ho',fun e=>by have:=hb' 0 e;omega⟩
theorem qb7 (x:Mo) (N:Nat) (hM:OkMa x N) (nm:ByteArray) (p:Pl) (hp:OkP x N p) (hq:p.env.length≤1000000) :
  qA Tryz.prog 109 [eMa x,ePl p,aS nm] (endE (wH x p nm)):=by
 refine qH.of_sound ?_;refine qSW Tryz.call109 Tryz.func109 rfl {} ?_;have hMf:=q8 x;generalize hE:wH x p nm=E;unfold wH at hE;simp [go_sem];refine qc.pure (backU p.env) (.cons (.hf (yV _)) .nil) ?_;simp [go_sem];refine jm.keep (qb0 p.env (by omega)) (fun k M=>(∃ rest,M = .arr [aI 0,.lst true []] :: rest)∧∀ e,e∈p.env.drop (p.env.length-k)→e.1≠nm) (fun e M=>e = .ret∧∃ a rest,uM nm p.env=some a∧M = .arr [aI 1,.lst true [[aI a]]] :: rest) ?_ ?_ ?_ ?_ ?_ ?_
 ·exact ⟨⟨_,by simp only [qD,List.cons_append];rfl⟩,by simp⟩
 ·rintro k M ⟨⟨rest,rfl⟩,h⟩
  exact ⟨⟨rest++[.dead],rfl⟩,h⟩
 ·rintro e M ⟨h1,a,rest,h2,rfl⟩
  exact ⟨h1,a,rest++[.dead],h2,rfl⟩
 ·rintro k y M hk ⟨⟨rest,rfl⟩,h⟩
  have hkl:k<p.env.length:=by
   have:=(qh.1 hk).1;simpa [ul] using this
  have hjl:p.env.length-1-k<p.env.length:=by omega
  rw [ul,qW,jX hkl] at hk;simp only [Option.map_some,Option.some.injEq,List.getD_eq_getElem?_getD,qq hjl,Option.getD_some] at hk;subst hk;have hj1:p.env.length-k=p.env.length-1-k+1:=by omega
  rw [hj1] at h;have hhit:=fun he=>qb2 hjl he h
  have hd:p.env.drop (p.env.length-(k+1))=p.env[p.env.length-1-k] :: p.env.drop (p.env.length-1-k+1):=by
   rw [show p.env.length-(k+1)=p.env.length-1-k by omega,qX hjl]
  generalize hb:p.env[p.env.length-1-k]=b at *
  refine ⟨rfl,?_⟩;by_cases he:b.1=nm
  ·simp [go_sem,zO,he]
   exact jd.intro ⟨rfl,b.2,_,hhit he,rfl⟩
  ·simp [go_sem,zO,he]
   refine jd.intro ⟨⟨_,rfl⟩,fun e hm=>?_⟩;rw [hd] at hm;rcases qv.1 hm with rfl | hm
   ·exact he
   ·exact h e hm
 ·rintro M ⟨⟨rest,rfl⟩,h⟩
  have hno:uM nm p.env=none:=qb1 fun e hm=>h e (by simpa [ul] using hm)
  rw [hno] at hE;simp only at hE;obtain ⟨hrl,hrg⟩:=hM.st p.st hp.st;have hstl:p.st<x.m.states.length:=by have:=hM.len;have:=hp.st;omega
  have hrs:x.m.states.getD p.st []=x.m.states[p.st]:=by rw [List.getD_eq_getElem?_getD,qq hstl];rfl
  have hnf:=hM.ts.nf;have hns:=hM.ts.ns;have hffl:=Kw x.ts.fields (x.m.states.getD p.st []) nm;rw [hrs] at hE hrl hrg hffl;generalize hRS:x.m.states[p.st]=rs at *
  simp [go_sem];refine qk.upK x.ts.fields.length (fun k st=>st.tm 0=eMa x∧st.tm 4 = .ip (cPl p)∧st.tm 5 = .ip [aS nm]∧st.tm 6 = .ptr 0 0∧st.tm 34=lFl x.ts.fields∧st.tm 35=aI x.ts.fields.length∧st.tm 36=aI k∧FndM st.mu (st.tm 9) (jq (x.ts.fields.take k) (rs.take k) nm)) ?_ ?_
  ·exact ⟨by simp [go_sem],by simp [go_sem],by simp [go_sem],by simp [go_sem],by simp [go_sem],by simp [go_sem],by simp [go_sem],by simp [go_sem],.inl (by simp [go_sem,jq]),by simp [go_sem,qp]⟩
  rintro k st hk ⟨e0,e4,e5,e6,e34,e35,e36,g0,ho,hn⟩;by_cases hlt:k<x.ts.fields.length
  ·have hrk:k<rs.length:=by omega
   have w1:IntKind.i64.wrap ((k:Int)+1)=(k:Int)+1:=qg (by omega) (by omega);have hs:=qb3 x.ts.fields rs nm k hlt hrk;have hfl:(jq (x.ts.fields.take k) (rs.take k) nm).length≤6:=zj (Kw _ _ _) (by simp;omega);have l0:0<st.mu.length:=(qh.1 g0).1;by_cases he:x.ts.fields[k].name=nm
   ·rw [if_pos he] at hs
    simp [go_sem,zO,e0,e4,e5,e6,e34,e35,e36,hlt,he];refine qd.intro (by kernel_rfl) ?_;simp [go_sem,zO,e0,e4,e5,e6,e34,e35,e36,hlt,he,hstl,hRS,hrk];refine qz.ownB (e:=42) (sz:=2) (bt:=32) (zv := .agg [aI 0,.lst true []]) (xs:=(jq (x.ts.fields.take k) (rs.take k) nm).map cRel) (ys:=[cRel rs[k]]) (by simp [go_sem]) (by simp [go_sem]) (by simp [go_sem]) rfl rfl (by omega) (by omega) (Own.push ho _) (by simp [qE]) (uD _) (uD [rs[k]]) (by simp;omega) ?_;intro av' mu' ho' hs' hb' hl';have k0:mu'[0]?=some (.arr [aI 0,.lst true []]):=by
     rw [hs' 0 (by simp) hn,qm l0];exact g0
    have m0:qp av'≠some 0:=fun e=>by have:=hb' 0 e;simp at this
    simp [go_sem,zO,e0,e4,e5,e6,e34,e35,e36,hlt,he,w1,Own.one ho'];refine Keep.mk' ⟨by simp [go_sem,e0],by simp [go_sem,e4],by simp [go_sem,e5],by simp [go_sem,e6],by simp [go_sem,e34],by simp [go_sem,e35],by simp [go_sem],by simpa [go_sem] using k0,?_,by simpa [go_sem] using m0⟩;rw [hs,List.map_append];simpa [go_sem] using ho'
   ·rw [if_neg he,zc] at hs
    simp [go_sem,zO,e0,e4,e5,e6,e34,e35,e36,hlt,he,w1];refine Keep.mk' ⟨by simp [go_sem,e0],by simp [go_sem,e4],by simp [go_sem,e5],by simp [go_sem,e6],by simp [go_sem,e34],by simp [go_sem,e35],by simp [go_sem],?_,?_,by simpa [go_sem] using hn⟩
    ·simp only [qD];rw [qm l0];exact g0
    ·rw [hs];simpa [go_sem] using Own.push ho _
  ·have hge:k=x.ts.fields.length:=by omega
   rw [zC (by omega),zC (by omega)] at ho;generalize jq x.ts.fields rs nm=F at *
   simp [go_sem,zO,e0,e4,e5,e6,e34,e35,e36,hge];refine qk.upF x.ts.sorts.length (fun k=>Keep (fun st=>st.tm 0=eMa x∧st.tm 5 = .ip [aS nm]∧st.tm 6 = .ptr 0 0∧st.tm 65=lSo x.ts.sorts∧st.tm 66=aI x.ts.sorts.length∧st.tm 67=aI k∧FndM st.mu (st.tm 9) (F++z6 x nm 0 (x.ts.sorts.take k))) .mk) ?_ ?_
   ·exact Keep.mk' ⟨by simp [go_sem,e0],by simp [go_sem,e5],by simp [go_sem,e6],by simp [go_sem],by simp [go_sem],by simp [go_sem],by simpa [go_sem] using g0,by simpa [go_sem,z6] using ho,by simpa [go_sem] using hn⟩
   rintro k st hk ⟨e0,e5,e6,e65,e66,e67,g0,ho,hn⟩;have hfs:=Kz x nm x.ts.sorts k hk;by_cases hlt:k<x.ts.sorts.length
   ·have w1:IntKind.i64.wrap ((k:Int)+1)=(k:Int)+1:=qg (by omega) (by omega)
    have hs:=Ky x nm x.ts.sorts k hlt;have hsz:=hM.ts.sl _ (qr hlt);have hka:k<x.m.sc.atoms.length:=by have:=hM.al;omega
    have hfull:=fullU x.m.sc hM.gsc hM.pos [(k:Int)] (fun s hs=>by rw [qK] at hs;omega) (by simp) (by simp);rw [qb5] at hfull;have hat:q7 x k=(List.range (gI x.m.sc.atoms k).toNat).map fun j:Nat=>sumI (x.m.sc.atoms.take k)+j:=rfl
    rw [←hat] at hfull;have hfw:WKs [eSc x.m.sc,.lst true [rI k]] [eSc x.m.sc,lI [(k:Int)]] := .cons (.hf (yK _)) (.cons (WK.intsF [(k:Int)]) .nil);generalize hso:x.ts.sorts[k]=so at *
    obtain ⟨sn,sb⟩:=so;have hs1:sn.size≤9223372036854775801:=by simp at hsz;omega
    have hs2:sn.size≤9223372036854775802:=by simp at hsz;omega
    generalize hF:F++z6 x nm 0 (x.ts.sorts.take k)=F0 at *
    have hfin:F++z6 x nm 0 (x.ts.sorts.take (k+1))=F0++um x nm k (sn,sb):=by rw [hs,←hF,zf]
    have hF0:F0.length≤18:=by rw [←hF,za];omega
    have l0:0<st.mu.length:=(qh.1 g0).1;simp [go_sem,zO,e0,e5,e6,e65,e66,e67,hlt,hso];refine qc.pure hfull hfw ?_;simp [go_sem,zO,e0,e5,e6,e65,e66,e67,hlt,hso];generalize hL:st.mu.length=L at *
    have hlt9:∀ b,qp (st.tm 9)=some b→b<L:=fun b hb=>by have:=Own.lt ho hb;omega
    have hpush:∀ c,Own (st.mu++c) 2 (st.tm 9) (F0.map cRel):=fun c=>Own.push ho c
    have g0':st.mu[0]'(qh.1 g0).1 = .arr [aI 0,.lst true []]:=(qh.1 g0).2;have hk0:∀ c:List Cell,(st.mu++c)[0]?=some (.arr [aI 0,.lst true []]):=fun c=>by rw [qm (by omega)];exact g0
    have hL0:∀ A B:Cell,(st.mu++[A,B])[L]?=some A:=fun A B=>by rw [qP (by omega),hL];simp
    have hL1:∀ A B:Cell,(st.mu++[A,B])[L+1]?=some B:=fun A B=>by rw [qP (by omega),hL];simp
    refine BrS.at (SInv x nm sn sb k L (L+1) F0) ⟨by simp [go_sem,e0],by simp [go_sem,e5],by simp [go_sem,e6],by simp [go_sem],by simp [go_sem],by simp [go_sem,e65],by simp [go_sem,e66],by simp [go_sem,e67],by simp [go_sem,List.getElem_append_left,hL,l0,g0'],by simp [go_sem,hL0],by simp [go_sem,hL1],by simp [go_sem,hpush],by simp [go_sem,hn],fun e=>?_,fun e=>?_⟩ fun st0 h0=>?_
    ·have:=hlt9 L (by simpa [go_sem] using e);omega
    ·have:=hlt9 (L+1) (by simpa [go_sem] using e);omega
    refine BrS.join (SInv x nm sn sb k L (L+1) (F0++if sn=nm then [⟨1,q7 x k⟩] else [])) ?_ ?_ ?_
    ·intro hd
     have hd:=of_decide_eq_true hd;rw [if_pos hd];simp [go_sem,h0.e14,h0.gd];refine h0.app (by simp [go_sem]) (by simp [go_sem]) (by omega) ⟨1,q7 x k⟩ (by simp [qE]) fun av mu' hnw hc' hd'=>?_
     simp [go_sem,Own.one hnw.ho];refine Keep.mk' ?_;exact ⟨by simp [go_sem,h0.e0],by simp [go_sem,h0.e5],by simp [go_sem,h0.e6],by simp [go_sem,h0.e13],by simp [go_sem,h0.e14],by simp [go_sem,h0.e65],by simp [go_sem,h0.e66],by simp [go_sem,h0.e67],hnw.g0,hc',hd',hnw.ho,hnw.n0,hnw.nc,hnw.nd⟩
    ·intro hd
     have hd:=of_decide_eq_false hd;rw [if_neg hd,zc];simp [go_sem];exact Keep.mk' h0
    intro st1 h1;have hF1:(F0++if sn=nm then [(⟨1,q7 x k⟩:Rl)] else []).length≤19:=by rw [za];split<;>simp only [List.length_cons,List.length_nil]<;>omega
    cases sb with
    |false =>
     have hfk:F0++um x nm k (sn,false)=F0++if sn=nm then [⟨1,q7 x k⟩] else []:=by simp [um]
     rw [←hfk,←hfin] at h1;simp [go_sem,zO,h1.e0,h1.e5,h1.e6,h1.e13,h1.e14,h1.e65,h1.e66,h1.e67,h1.gc,h1.gd,w1,hlt];exact Keep.mk' ⟨by simp [go_sem,h1.e0],by simp [go_sem,h1.e5],by simp [go_sem,h1.e6],by simp [go_sem,h1.e65],by simp [go_sem,h1.e66],by simp [go_sem],by simpa [go_sem] using h1.g0,by simpa [go_sem] using h1.ho,by simpa [go_sem] using h1.n0⟩
    |true =>
    generalize hF1':(F0++if sn=nm then [⟨1,q7 x k⟩] else [])=F1 at *
    have hall:(q7 x k).length≤100:=by
     obtain ⟨u0,u1⟩:=hM.gsc.sum (k+1);obtain ⟨v0,v1⟩:=hM.gsc.sum k;rw [uF _ _ hka] at u1;unfold q7;rw [yj,List.length_range,uE hka];omega
    simp [go_sem,zO,h1.e0,h1.e5,h1.e6,h1.e13,h1.e14,h1.e65,h1.e66,h1.e67,h1.gc,h1.gd,hs1];refine BrS.at (SInv x nm sn true k L (L+1) F1) ⟨by simp [go_sem,h1.e0],by simp [go_sem,h1.e5],by simp [go_sem,h1.e6],by simp [go_sem,h1.e13],by simp [go_sem,h1.e14],by simp [go_sem,h1.e65],by simp [go_sem,h1.e66],by simp [go_sem,h1.e67],h1.g0,h1.gc,h1.gd,h1.ho,h1.n0,h1.nc,h1.nd⟩ fun st2 h2=>?_
    refine BrS.join (SInv x nm sn true k L (L+1) (F1++if sn++yD=nm then [⟨1,(q7 x k).take 1⟩] else [])) ?_ ?_ ?_
    ·intro hd
     have hd:=of_decide_eq_true hd;have hd:sn++yD=nm:=by rw [hd];rfl
     rw [if_pos hd];obtain ⟨m,hmi,hm1,hm2⟩:∃ m:Nat,(if ((q7 x k).length:Int)<1 then ((q7 x k).length:Int) else 1)=m∧m≤(q7 x k).length∧(q7 x k).take m=(q7 x k).take 1:=by
      by_cases hz:(q7 x k).length=0
      ·exact ⟨0,by rw [if_pos (by omega),hz],by omega,by rw [List.length_eq_zero_iff.1 hz];rfl⟩
      ·exact ⟨1,if_neg (by omega),by omega,rfl⟩
     have hcw:WKs [.lst false (((q7 x k).map rI).take m)] [lI ((q7 x k).take 1)] := .cons (by rw [←List.map_take,hm2];exact .hf (zI _)) .nil;simp [go_sem,h2.e14,h2.gd,hmi,hm1];refine ⟨⟨_,_,⟨rfl,rfl⟩,(vF _).ok⟩,?_⟩;refine qc.pure (clipI ((q7 x k).take 1)) hcw ?_;generalize (q7 x k).take 1=T1 at *
     simp [go_sem,h2.e14,h2.gd];refine h2.app (by simp [go_sem]) (by simp [go_sem]) (by omega) ⟨1,T1⟩ (by simp [qE]) fun av mu' hnw hc' hd'=>?_
     simp [go_sem,Own.one hnw.ho];refine Keep.mk' ?_;exact ⟨by simp [go_sem,h2.e0],by simp [go_sem,h2.e5],by simp [go_sem,h2.e6],by simp [go_sem,h2.e13],by simp [go_sem,h2.e14],by simp [go_sem,h2.e65],by simp [go_sem,h2.e66],by simp [go_sem,h2.e67],hnw.g0,hc',hd',hnw.ho,hnw.n0,hnw.nc,hnw.nd⟩
    ·intro hd
     have hd:=of_decide_eq_false hd;have hd:¬sn++yD=nm:=fun e=>hd (by rw [←e];rfl)
     rw [if_neg hd,zc];simp [go_sem];exact Keep.mk' h2
    intro st3 h3;have hF2:(F1++if sn++yD=nm then [(⟨1,(q7 x k).take 1⟩:Rl)] else []).length≤20:=by rw [za];split<;>simp only [List.length_cons,List.length_nil]<;>omega
    have hfin2:F++z6 x nm 0 (x.ts.sorts.take (k+1))=(F1++if sn++yD=nm then [⟨1,(q7 x k).take 1⟩] else [])++(if sn++jB=nm then [⟨2,va x k⟩] else []):=by
     rw [hfin,←hF1'];simp [um]
    generalize (F1++if sn++yD=nm then [⟨1,(q7 x k).take 1⟩] else [])=F2 at *
    simp [go_sem,zO,h3.e0,h3.e5,h3.e6,h3.e13,h3.e14,h3.e65,h3.e66,h3.e67,h3.gc,h3.gd,hs2];refine BrS.at (SInv x nm sn true k L (L+1) F2) ⟨by simp [go_sem,h3.e0],by simp [go_sem,h3.e5],by simp [go_sem,h3.e6],by simp [go_sem,h3.e13],by simp [go_sem,h3.e14],by simp [go_sem,h3.e65],by simp [go_sem,h3.e66],by simp [go_sem,h3.e67],h3.g0,h3.gc,h3.gd,h3.ho,h3.n0,h3.nc,h3.nd⟩ fun st4 h4=>?_
    refine BrS.intro ?_ ?_
    ·intro hd
     have hd:=of_decide_eq_true hd;have hd:sn++jB=nm:=by rw [hd];rfl
     rw [if_pos hd] at hfin2;have gl:=(qh.1 h4.gd).1;have hA:∀(z:List Cell) (i:Nat),i<st4.mu.length→(st4.mu++z)[i]?=st4.mu[i]?:=fun z i hi=>qm hi
     obtain ⟨A,hAe⟩:∃ A,A=st4.mu:=⟨_,rfl⟩;rw [←hAe] at hA gl;have hAd:∀ z:List Cell,(A++z)[L+1]?=some (.arr [aI 1,lI (q7 x k)]):=fun z=>by rw [hA z _ gl,hAe];exact h4.gd
     have hAL:∀(c:Cell) (z:List Cell),(A++c :: z)[A.length]?=some c:=fun c z=>by rw [qP (qo _)];simp
     have hAs:∀(c d:Cell) (z:List Cell),(A++c :: z).set A.length d=A++d :: z:=fun c d z=>by rw [List.set_append_right _ _ (qo _)];simp
     have hT9:∀ b,qp (st4.tm 9)=some b→b<A.length:=fun b hb=>by rw [hAe];exact Own.lt h4.ho hb
     have hget:∀ j,j<(q7 x k).length-1→∃ u v:Int,(q7 x k)[j]?=some u∧(q7 x k)[j+1]?=some v∧(0≤u∧u<x.n)∧(0≤v∧v<x.n)∧(va x k)[j]?=some (u*x.n+v):=by
      intro j hj;obtain ⟨a0,a1,a2⟩:=hM.at0 k hlt;have hml:(q7 x k).length=(gI x.m.sc.atoms k).toNat:=by simp [q7]
      refine ⟨sumI (x.m.sc.atoms.take k)+j,sumI (x.m.sc.atoms.take k)+((j+1:Nat):Int),?_,?_,⟨by omega,by omega⟩,⟨by omega,by omega⟩,?_⟩
      ·rw [q7,qW,jX (by omega)];rfl
      ·rw [q7,qW,jX (by omega)];rfl
      ·rw [va,qW,jX (by omega)]
       simp only [Option.map_some,Option.some.injEq];congr 1;omega
     have hNl:(va x k).length=(q7 x k).length-1:=by simp [va,q7]
     generalize hAl:q7 x k=al at *
     generalize hNx:va x k=nx at *
     simp [go_sem,←hAe];refine qk.upF (al.length-1) (fun j=>Keep (fun st=>∃ av rest,st.mu=A++(.arr [aI 2,av] :: rest)∧OwnI st.mu av (nx.take j)∧(∀ b,qp av=some b→A.length<b)∧st.tm 0=eMa x∧st.tm 5 = .ip [aS nm]∧st.tm 6 = .ptr 0 0∧st.tm 9=st4.tm 9∧st.tm 14 = .ptr (L+1) 0∧st.tm 15 = .ptr A.length 0∧st.tm 16=aI ((j:Int)+1)∧st.tm 65=lSo x.ts.sorts∧st.tm 66=aI x.ts.sorts.length∧st.tm 67=aI k) .mk) ?_ ?_
     ·exact Keep.mk' ⟨.lst true [],[],by simp [go_sem],.inl ⟨rfl,by simp⟩,by simp [qp],by simp [go_sem,h4.e0],by simp [go_sem,h4.e5],by simp [go_sem,h4.e6],by simp [go_sem],by simp [go_sem,h4.e14],by simp [go_sem],by simp [go_sem],by simp [go_sem,h4.e65],by simp [go_sem,h4.e66],by simp [go_sem,h4.e67]⟩
     rintro j st5 hj ⟨av,rest,hm5,ho5,hb5,i0,i5,i6,i9,i14,i15,i16,i65,i66,i67⟩;by_cases hjl:j<al.length-1
     ·have hc:(j:Int)+1<al.length:=by omega
      obtain ⟨u,v,hu,hv,hur,hvr,hnx⟩:=hget j hjl;obtain ⟨hu1,hu2⟩:=qh.1 hu;obtain ⟨hv1,hv2⟩:=qh.1 hv;obtain ⟨hn1,hn2⟩:=qh.1 hnx;have wj:IntKind.i64.wrap (j:Int)=j:=qg (by omega) (by omega);have wj':IntKind.i64.wrap ((j:Int)+1+1)=(j:Int)+1+1:=qg (by omega) (by omega);have hrk:=rankU x.m.sc hM.gsc [u,v] (by simp) (fun d hd=>by
       rcases qv.1 hd with rfl | hd
       ·exact hur
       ·rw [qK] at hd;subst hd;exact hvr)
      have hrv:jF (sumI x.m.sc.atoms) [u,v]=u*x.n+v:=by simp [jF,Mo.n]
      rw [hrv] at hrk;have hrw:WKs [eSc x.m.sc,.lst true [[aI u],[aI v]]] [eSc x.m.sc,lI [u,v]] := .cons (.hf (yK _)) (.cons (WK.intsF [u,v]) .nil);simp [go_sem,i0,i5,i6,i9,i14,i15,i16,i65,i66,i67,hm5,hAd,hc];refine qd.seg [0,1,2,3,4,5,6,7,8,9,10,11,12,13,14,15,16,17,18,22,19,20,21,23] [(0,0,[]),(1,0,[]),(2,0,[]),(3,0,[]),(4,0,[]),(5,0,[]),(6,0,[]),(7,0,[]),(8,0,[]),(9,0,[]),(10,0,[]),(11,0,[]),(12,0,[]),(13,0,[]),(14,0,[]),(15,0,[]),(16,0,[]),(17,0,[]),(18,0,[]),(22,0,[]),(19,1,[1]),(20,0,[]),(21,1,[]),(23,1,[])] (by kernel_rfl) (by kernel_rfl) (by simp [go_sem]) ?_;simp [go_sem,i0,i5,i6,i9,i14,i15,i16,i65,i66,i67,hm5,hAd,hAL,hc,wj,hu1,hu2,hv1,hv2,show (0:Int)≤(j:Int)+1 by omega];refine qc.pure hrk hrw ?_;simp [go_sem,i0,i5,i6,i9,i14,i15,i16,i65,i66,i67,hm5,hAd,hAL];rw [hm5] at ho5;refine qz.ownV1 (e:=3) (bt:=8) (z:=0) (l:=nx.take j) (by simp [go_sem]) (by simp [go_sem]) (by simp [go_sem]) (by omega) ho5.v (by simp;omega) ?_;intro av' mu' ho' hs' hl' hb';have hAle:A.length<(A++(.arr [aI 2,av] :: rest)).length:=by simp
      have hme:mu'=A++(.arr [aI 2,av] :: mu'.drop (A.length+1)):=by
       apply List.ext_getElem?;intro i;by_cases hi:i<A.length
       ·rw [qm hi,hs' i (by omega) (fun e=>by have:=hb5 i e;omega),qm hi]
       ·rw [qP (by omega)]
        by_cases hi2:i=A.length
        ·subst hi2
         rw [hs' _ hAle (fun e=>by have:=hb5 _ e;omega),qP (qo _)];simp
        ·obtain ⟨q,hq⟩:∃ q,i-A.length=q+1:=⟨i-A.length-1,by omega⟩
         rw [hq,jg,List.getElem?_drop];congr 1;omega
      have hb'':∀ b,qp av'=some b→A.length<b:=fun b hb=>by have:=hb' b hb;omega
      rw [hme] at ho' ⊢;generalize mu'.drop (A.length+1)=rest' at *
      simp [go_sem,i0,i5,i6,i9,i14,i15,i16,i65,i66,i67,hAL,hAs,ho'.v.one,ho'.v.cells,wj'];refine ⟨hjl,Keep.mk' ⟨av',rest',by simp [go_sem],?_,hb'',by simp [go_sem,i0],by simp [go_sem,i5],by simp [go_sem,i6],by simp [go_sem,i9],by simp [go_sem,i14],by simp [go_sem,i15],by simp [go_sem],by simp [go_sem,i65],by simp [go_sem,i66],by simp [go_sem,i67]⟩⟩;simp only [qD];rw [zN hn1,hn2];refine ho'.same fun b hb=>?_
      have:=hb'' b hb;rw [qP (by omega),qP (by omega)];obtain ⟨q,hq⟩:∃ q,b-A.length=q+1:=⟨b-A.length-1,by omega⟩;rw [hq,jg,jg]
     ·have hge:j=al.length-1:=by omega
      have hc:¬(j:Int)+1<al.length:=by omega
      rw [zC (by omega)] at ho5;simp [go_sem,i0,i5,i6,i9,i14,i15,i16,i65,i66,i67,hm5,hAd,hc];have hmL:(A++(.arr [aI 2,av] :: rest))[A.length]?=some (.arr [aI 2,av]):=hAL _ _;rw [hm5] at ho5;generalize hMM:A++(.arr [aI 2,av] :: rest)=MM at *
      have hkeep:∀ i,A.length≤i→(cutM (fun j=>decide (A.length≤j)) MM 0)[i]?=MM[i]?:=fun i hi=>by
       rw [vr,Nat.zero_add];cases MM[i]?<;>simp [hi]
      have hlow:∀ i,i<A.length→(cutM (fun j=>!decide (A.length≤j)) MM 0)[i]?=A[i]?:=fun i hi=>by
       rw [vr,Nat.zero_add,←hMM,qm hi];cases A[i]?<;>simp<;>omega
      have hl0:0<A.length:=by omega
      have hfnd:FndM (cutM (fun j=>!decide (A.length≤j)) MM 0) (st4.tm 9) F2:=by
       refine ⟨by rw [hlow 0 hl0,hAe];exact h4.g0,?_,h4.n0⟩;rcases h4.ho with h | ⟨b,h,hcc⟩
       ·exact .inl h
       ·refine .inr ⟨b,h,?_⟩
        rw [hlow b (hT9 b (by rw [h];rfl)),hAe];exact hcc
      refine FzQ.above (d:=15) (L:=A.length) (x := .ip (cRel ⟨2,nx⟩)) ?_ ?_
      ·simp only [qD,W9,i15]
       refine .ptr A.length 0 [aI 2,av] _ (by rw [hkeep _ (qo _)];exact hmL) (by simp) fun k u v hu hv=>?_
       match k with
       | 0=>simp at hu hv;subst hu;subst hv;exact .hf _ (HF.sc _)
       | 1 =>
        simp at hu hv;subst hu;subst hv;exact (ho5.v.same fun b hb=>hkeep b (by have:=hb5 b hb;omega)).rd
       |k+2=>simp at hv
      ·simp [go_sem,i0,i5,i6,i9,i65,i66,i67]
       refine appR (F:=F2) (by simp [go_sem]) (by simp [go_sem]) hfnd (by omega) ⟨2,nx⟩ (by simp [qE]) fun av2 mu2 hf2=>?_
       rw [←hfin2] at hf2;obtain ⟨z0,z1,z2⟩:=hf2;simp [go_sem,i0,i5,i6,i9,i65,i66,i67,Own.one z1,w1,hlt];exact Keep.mk' ⟨by simp [go_sem,i0],by simp [go_sem,i5],by simp [go_sem,i6],by simp [go_sem,i65],by simp [go_sem,i66],by simp [go_sem],z0,z1,z2⟩
    ·intro hd
     have hd:=of_decide_eq_false hd;have hd:¬sn++jB=nm:=fun e=>hd (by rw [←e];rfl)
     rw [if_neg hd,zc] at hfin2;rw [←hfin2] at h4;simp [go_sem,h4.e0,h4.e5,h4.e6,h4.e65,h4.e66,h4.e67,w1,hlt];exact Keep.mk' ⟨by simp [go_sem,h4.e0],by simp [go_sem,h4.e5],by simp [go_sem,h4.e6],by simp [go_sem,h4.e65],by simp [go_sem,h4.e66],by simp [go_sem],by simpa [go_sem] using h4.g0,by simpa [go_sem] using h4.ho,by simpa [go_sem] using h4.n0⟩
   ·have hge:k=x.ts.sorts.length:=by omega
    subst hge;rw [zb] at ho;generalize F++z6 x nm 0 x.ts.sorts=F0 at *
    simp [go_sem,zO,e0,e5,e6,e65,e66,e67];refine FzQ.ownB (d:=9) (sz:=2) (av:=st.tm 9) (xs:=F0.map cRel) (by simp [go_sem]) ho (uD _) (fun r hr c hc=>by obtain ⟨q,_,rfl⟩:=qn.1 hr;exact Zd q c hc) fun mu' full hl hs=>?_
    have g0':mu'[0]?=some (.arr [aI 0,.lst true []]):=(hs 0 hn).trans g0;have hset:∀ c,(mu'.set 0 c)[0]?=some c:=fun c=>qR (qh.1 g0').1
    match F0,hE with
    | [],hE =>
     simp only [Zl] at hE;subst hE;simp [go_sem,zO,e0,e5,e6,e65,e66,e67];refine qc.pans (vd 40) (wkI 40) ?_;simp [go_sem];exact .hf _ (qy _)
    | [r],hE =>
     simp only [Zl] at hE;subst hE;simp [go_sem,zO,e0,e5,e6,e65,e66,e67,g0',hset];exact .hf _ (qN r)
    |r :: s :: F1,hE =>
     have hne:¬(F1.length:Int)+1+1=0:=by omega
     have hne1:¬(F1.length:Int)+1+1=1:=by omega
     simp only [Zl] at hE;subst hE;simp [go_sem,zO,e0,e5,e6,e65,e66,e67,hne,hne1];refine qc.pans (vd 44) (wkI 44) ?_;simp [go_sem];exact .hf _ (qy _)
 ·rintro e M ⟨rfl,a,rest,h2,rfl⟩
  rw [h2] at hE;simp only at hE;subst hE;simp [go_sem];refine .agg _ _ rfl fun k u v hu hv=>?_
  match k with
  | 0=>simp at hu hv;subst hu;subst hv;exact .hf _ (HF.sc _)
  | 1=>simp at hu hv;subst hu;subst hv;exact .wk _ true _ (.hf _ (HF.lst fun r hr c hc=>by simp at hr;subst hr;simp at hc;subst hc;exact HF.sc _))
  |k+2=>simp at hu
end Go.Proofs.YtkglmpmlfjogkaaGreatDoor.F6


namespace Go.Proofs.YtkglmpmlfjogkaaGreatDoor.F7
open Go Go.Ev Go.Proofs Go.Proofs.YtkglmpmlfjogkaaGreatDoor Y1 Y9 P1 P2 YM YS YF E1 E2 E3 E7 EA EL EO EP EQ ER ET EW EY EZ F1 F2 F3 F4 F5 F6
theorem zw (a b:Int) (v:AV) (es:List (AV×AV)) (i:Nat):qU Tryz.prog 3 (.sc (.int .i64 a)) ((.sc (.int .i64 b),v) :: es) i=if a=b then some (some i) else qU Tryz.prog 3 (.sc (.int .i64 a)) es (i+1):=by
 have h:yB Tryz.prog 3 (.sc (.int .i64 a)) (.sc (.int .i64 b))=some (decide (a=b)):=keyI.eq a b trivial trivial;rw [qU,h];by_cases e:a=b<;>simp [e]
def RelN (mu:Mu) (ar:Int) (l:List Int):Prop:=∃ av,mu[0]?=some (.arr [aI 0,.lst true []])∧mu[2]?=some (.arr [aI ar,av])∧OwnI mu av l∧qp av≠some 0∧qp av≠some 2
theorem RelN.step {mu mu':Mu} {ar:Int} {av av':AV} {l:List Int} (h0:mu[0]?=some (.arr [aI 0,.lst true []])) (h1:mu[2]?=some (.arr [aI ar,av])) (n0:qp av≠some 0) (n1:qp av≠some 2) (ho:OwnI mu' av' l)
  (hs:∀ i,i<mu.length→qp av≠some i→mu'[i]?=mu[i]?) (hl:mu.length≤mu'.length) (hb:∀ b,qp av'=some b→b=mu.length):mu'[2]?=some (.arr [aI ar,av])∧RelN (mu'.set 2 (.arr [aI ar,av'])) ar l:=by
 have l1:2<mu.length:=(qh.1 h1).1;have m0:qp av'≠some 0:=fun e=>by have:=hb 0 e;omega
 have m1:qp av'≠some 2:=fun e=>by have:=hb 2 e;omega
 refine ⟨by rw [hs 2 l1 n1];exact h1,av',by rw [qC (by omega),hs 0 (by omega) n0];exact h0,by rw [qR (by omega)],ho.same fun b hb'=>?_,m0,m1⟩;rw [qC (fun e=>m1 (by rw [e];exact hb'))]
theorem jG {f:Nat} {l:List AV} {A E:XE Rl} (h:qA Tryz.prog f l (endE A)) (e:A=E):qA Tryz.prog f l (endE E):=e ▸ h
theorem exprX (x:Mo) (N:Nat) (n:Nd) (hw:WfN n) (hM:OkMa x N) (ih:IH x N n) (p:Pl) (hp:OkP x N p) (hq:bd p n) :
  qA Tryz.prog 53 [eMa x,ePl p,eNd n] (endE ((den x n).E p)):=by
 refine qH.of_sound ?_;refine qSW Tryz.call53 Tryz.func53 rfl {} ?_;have hMf:=q8 x;have wx:=wk3 x p n;rw [Yx];simp only [opD];generalize hE:opE x n.op n.name n.n (n.kids.map (den x)) p=E;unfold opE at hE;by_cases o6:n.op=6
 ·obtain ⟨a,b,hk⟩:=yg hw (by omega)
  have hr:=qbP x N n a b hM hk ih p hp hq;rw [o6,hk] at hE;replace hr:=jG hr hE;cases E with
  |error e =>
   simp [go_sem,o6,zw];refine qc.pans hr wx ?_;simp [go_sem];exact .hf _ (qy _)
  |ok r =>
   simp [go_sem,o6,zw];refine qc.pure hr.toP wx ?_;simp [go_sem];exact .hf _ (qN _)
 by_cases o7:n.op=7
 ·obtain ⟨a,b,hk⟩:=yg hw (by omega)
  have hr:=qbQ x N n a b hM hk ih p hp hq;rw [o7,hk] at hE;replace hr:=jG hr hE;cases E with
  |error e =>
   simp [go_sem,o7,zw];refine qc.pans hr wx ?_;simp [go_sem];exact .hf _ (qy _)
  |ok r =>
   simp [go_sem,o7,zw];refine qc.pure hr.toP wx ?_;simp [go_sem];exact .hf _ (qN _)
 by_cases o8:n.op=8
 ·obtain ⟨a,b,hk⟩:=yg hw (by omega)
  have hr:=diffX x N n a b hM hk ih p hp hq;rw [o8,hk] at hE;replace hr:=jG hr hE;cases E with
  |error e =>
   simp [go_sem,o8,zw];refine qc.pans hr wx ?_;simp [go_sem];exact .hf _ (qy _)
  |ok r =>
   simp [go_sem,o8,zw];refine qc.pure hr.toP wx ?_;simp [go_sem];exact .hf _ (qN _)
 by_cases o14:n.op=14
 ·obtain ⟨a,b,hk⟩:=yg hw (by omega)
  have hr:=overX x N n a b hM hk ih p hp hq;rw [o14,hk] at hE;replace hr:=jG hr hE;cases E with
  |error e =>
   simp [go_sem,o14,zw];refine qc.pans hr wx ?_;simp [go_sem];exact .hf _ (qy _)
  |ok r =>
   simp [go_sem,o14,zw];refine qc.pure hr.toP wx ?_;simp [go_sem];exact .hf _ (qN _)
 by_cases o9:n.op=9
 ·obtain ⟨a,b,hk⟩:=yg hw (by omega)
  have hr:=joinX x N n a b hM hk ih p hp hq;rw [o9,hk] at hE;replace hr:=jG hr hE;cases E with
  |error e =>
   simp [go_sem,o9,zw];refine qc.pans hr wx ?_;simp [go_sem];exact .hf _ (qy _)
  |ok r =>
   simp [go_sem,o9,zw];refine qc.pure hr.toP wx ?_;simp [go_sem];exact .hf _ (qN _)
 by_cases o10:n.op=10
 ·obtain ⟨a,b,hk⟩:=yg hw (by omega)
  have hr:=qbR x N n a b hM hk ih p hp hq;rw [o10,hk] at hE;replace hr:=jG hr hE;cases E with
  |error e =>
   simp [go_sem,o10,zw];refine qc.pans hr wx ?_;simp [go_sem];exact .hf _ (qy _)
  |ok r =>
   simp [go_sem,o10,zw];refine qc.pure hr.toP wx ?_;simp [go_sem];exact .hf _ (qN _)
 by_cases o11:n.op=11
 ·obtain ⟨a,hk⟩:=jr hw (by omega)
  have hr:=qbT x N n a hM hk ih p hp hq;rw [o11,hk] at hE;replace hr:=jG hr hE;cases E with
  |error e =>
   simp [go_sem,o11,zw];refine qc.pans hr wx ?_;simp [go_sem];exact .hf _ (qy _)
  |ok r =>
   simp [go_sem,o11,zw];refine qc.pure hr.toP wx ?_;simp [go_sem];exact .hf _ (qN _)
 by_cases o12:n.op=12
 ·obtain ⟨a,hk⟩:=jr hw (by omega)
  have hr:=Ks x N n a hM hk ih p hp hq;rw [o12,hk] at hE;replace hr:=jG hr hE;cases E with
  |error e =>
   simp [go_sem,o12,zw];refine qc.pans hr wx ?_;simp [go_sem];exact .hf _ (qy _)
  |ok r =>
   simp [go_sem,o12,zw];refine qc.pure hr.toP wx ?_;simp [go_sem];exact .hf _ (qN _)
 by_cases o13:n.op=13
 ·obtain ⟨a,hk⟩:=jr hw (by omega)
  have hr:=qbU x N n a hM hk ih p hp hq;rw [o13,hk] at hE;replace hr:=jG hr hE;cases E with
  |error e =>
   simp [go_sem,o13,zw];refine qc.pans hr wx ?_;simp [go_sem];exact .hf _ (qy _)
  |ok r =>
   simp [go_sem,o13,zw];refine qc.pure hr.toP wx ?_;simp [go_sem];exact .hf _ (qN _)
 by_cases o5:n.op=5
 ·obtain ⟨a,hk⟩:=jr hw (by omega)
  have hr:=qbS x N n a hM hk ih p hp hq;rw [o5,hk] at hE;replace hr:=jG hr hE;cases E with
  |error e =>
   simp [go_sem,o5,zw];refine qc.pans hr wx ?_;simp [go_sem];exact .hf _ (qy _)
  |ok r =>
   simp [go_sem,o5,zw];refine qc.pure hr.toP wx ?_;simp [go_sem];exact .hf _ (qN _)
 by_cases o15:n.op=15
 ·obtain ⟨a,b,hk⟩:=yg hw (by omega)
  have hr:=qbZ x N n a b hM hk ih p hp hq;rw [o15,hk] at hE;replace hr:=jG hr hE;cases E with
  |error e =>
   simp [go_sem,o15,zw];refine qc.pans hr wx ?_;simp [go_sem];exact .hf _ (qy _)
  |ok r =>
   simp [go_sem,o15,zw];refine qc.pure hr.toP wx ?_;simp [go_sem];exact .hf _ (qN _)
 by_cases o1:n.op=1
 ·have hr:=qb7 x N hM n.name p hp (by omega)
  have wn:WKs [eMa x,ePl p,aS n.name] [eMa x,ePl p,aS n.name] := .cons (.hf hMf) (.cons (.hf (Yz p)) (.cons (.hf (HF.sc _)) .nil));rw [o1] at hE;replace hr:=jG hr hE;cases E with
  |error e =>
   simp [go_sem,o1,zw];refine qc.pans hr wn ?_;simp [go_sem];exact .hf _ (qy _)
  |ok r =>
   simp [go_sem,o1,zw];refine qc.pure hr.toP wn ?_;simp [go_sem];exact .hf _ (qN _)
 by_cases o2:n.op=2
 ·rw [o2] at hE
  replace hE:Except.ok ⟨n.n,[]⟩=E:=hE;subst hE;simp [go_sem,o2,zw];exact uP
 by_cases o3:n.op=3
 ·rw [o3] at hE
  replace hE:Except.ok ⟨1,(List.range x.n.toNat).map fun k:Nat=>(k:Int)⟩=E:=hE;subst hE;have h0:=hM.n0;have h12:=hM.n12;obtain ⟨m,hm⟩:=Int.eq_ofNat_of_zero_le h0;simp [go_sem,o3,zw];rw [hm] at h12;refine qk.upK m (fun k st=>st.tm 6 = .ptr 0 0∧st.tm 10 = .ptr 2 0∧st.tm 47=aI m∧st.tm 48=aI k∧RelN st.mu 1 ((List.range k).map fun k:Nat=>(k:Int))) ?_ ?_
  ·exact ⟨by simp [go_sem],by simp [go_sem],by simp [go_sem,hm],by simp [go_sem],.lst true [],by simp [go_sem],by simp [go_sem],.inl ⟨rfl,rfl⟩,by simp [qp],by simp [qp]⟩
  rintro k st hk ⟨e6,e10,e47,e48,av,g0,g2,ho,n0,n2⟩;by_cases hlt:k<m
  ·have w1:IntKind.i64.wrap ((k:Int)+1)=(k:Int)+1:=qg (by omega) (by omega)
   simp [go_sem,e6,e10,e47,e48,hlt,g2];refine qz.ownV1 (e:=3) (bt:=8) (z:=0) (by simp [go_sem]) (by simp [go_sem]) (by simp [go_sem]) (by omega) ho.v (by simp;omega) ?_;intro av' mu' ho' hs' hl' hb';obtain ⟨k1,k2⟩:=RelN.step g0 g2 n0 n2 ho' hs' hl' hb';simp [go_sem,e6,e10,e47,e48,hlt,k1,ho'.v.one,ho'.v.cells,w1];refine Keep.mk' ⟨by simp [go_sem,e6],by simp [go_sem,e10],by simp [go_sem,e47],by simp [go_sem],?_⟩;rw [List.range_succ,List.map_append];exact k2
  ·have hge:k=m:=by omega
   subst hge;have hset:∀ c,(st.mu.set 0 c)[0]?=some c:=fun c=>qR (qh.1 g0).1
   rw [hm];simp [go_sem,e6,e10,e47,e48,g0,g2,hset,ho.v.one,ho.v.cells];refine OwnV.rdRel (ho.v.same fun b hb=>?_);rw [qC (fun e=>n0 (by rw [e];exact hb))]
 by_cases o4:n.op=4
 ·rw [o4] at hE
  replace hE:Except.ok (idR x.n)=E:=hE;subst hE;simp [go_sem,o4,zw];refine qc.pure (Kt x.n hM.n0 hM.n12) (.cons (.hf (HF.sc _)) .nil) ?_;simp [go_sem];exact .hf _ (qN _)
 have hE:Except.error 43=E:=by
  rw [←hE];rw [if_neg o1,if_neg o2,if_neg o3,if_neg o4,if_neg o5,if_neg o6,if_neg o7,if_neg o8,if_neg o9,if_neg o10,if_neg o11,if_neg o12,if_neg o13,if_neg o14,if_neg o15]
 subst hE;simp [go_sem,o1,o2,o3,o4,o5,o6,o7,o8,o9,o10,o11,o12,o13,o14,o15,zw];refine qc.pans (vd 43) (wkI 43) ?_;simp [go_sem];exact .hf _ (qy _)
end Go.Proofs.YtkglmpmlfjogkaaGreatDoor.F7


namespace Go.Proofs.YtkglmpmlfjogkaaGreatDoor.F8
open Go Go.Ev Go.Proofs Go.Proofs.YtkglmpmlfjogkaaGreatDoor Y1 Y9 P1 P2 YM YS YF E1 E2 E3 E7 EA EL EO EP EQ ER ET EW EY EZ F1 F2 F3 F4 F5 F6 F7
theorem f30 (x:Mo) (N:Nat) (n:Nd) (hw:WfN n) (hM:OkMa x N) (ih:IH x N n) (p:Pl) (hp:OkP x N p) (hq:bd p n) (o30:n.op=30):qA Tryz.prog 63 [eMa x,ePl p,eNd n] (endB (Except.ok true)):=by
 refine qH.of_sound ?_;refine qSW Tryz.call63 Tryz.func63 rfl {} ?_;have hMf:=q8 x;simp [go_sem,o30];exact .hf _ (HF.sc _)
theorem f31 (x:Mo) (N:Nat) (n:Nd) (hw:WfN n) (hM:OkMa x N) (ih:IH x N n) (p:Pl) (hp:OkP x N p) (hq:bd p n) (o31:n.op=31):qA Tryz.prog 63 [eMa x,ePl p,eNd n] (endB (Except.ok false)):=by
 refine qH.of_sound ?_;refine qSW Tryz.call63 Tryz.func63 rfl {} ?_;have hMf:=q8 x;simp [go_sem,o31];exact .hf _ (HF.sc _)
theorem f32 (x:Mo) (N:Nat) (n a b:Nd) (hM:OkMa x N) (hk:n.kids=[a,b]) (ih:IH x N n) (p:Pl) (hp:OkP x N p) (hq:bd p n) (o32:n.op=32):qA Tryz.prog 63 [eMa x,ePl p,eNd n] (endB ((bX (zF [den x a,den x b] p) fun q => .ok (decide ((diR q.1 q.2).ts=[]))))):=by
 refine qH.of_sound ?_;refine qSW Tryz.call63 Tryz.func63 rfl {} ?_;have hMf:=q8 x;have wx:=wk3 x p n;generalize hE:(bX (zF [den x a,den x b] p) fun q => .ok (decide ((diR q.1 q.2).ts=[])))=E;have hr:=wO x N n a b hk ih p hp hq;simp [go_sem,o32];cases ea:zF [den x a,den x b] p with
 |error e =>
  rw [ea] at hr hE;subst hE;refine qc.pans hr wx ?_;simp [go_sem,qS];exact .hf _ (qy _)
 |ok q =>
  obtain ⟨r,s⟩:=q;obtain ⟨h1,h2,h3⟩:=vf ea;simp only [kD,List.getD_cons_zero,List.getD_cons_succ] at h1 h2;have gr:=(ih a (by rw [hk];simp) p hp (by omega)).G _ h1;have gs:=(ih b (by rw [hk];simp) p hp (by omega)).G _ h2;have lr:=gr.len hM.n0 (OkMa.n20 hM);have ls:=gs.len hM.n0 (OkMa.n20 hM);rw [ea] at hr hE;rw [qO] at hE;subst hE;refine qc.pure hr.toP wx ?_;simp [go_sem];refine qc.pure (inU r s (by omega) (by omega)) (wkR2 r s) ?_;simp [go_sem];exact .hf _ (HF.sc _)
theorem f33 (x:Mo) (N:Nat) (n a b:Nd) (hM:OkMa x N) (hk:n.kids=[a,b]) (ih:IH x N n) (p:Pl) (hp:OkP x N p) (hq:bd p n) (o33:n.op=33):qA Tryz.prog 63 [eMa x,ePl p,eNd n] (endB ((bX (zF [den x a,den x b] p) fun q => .ok (decide (q.1=q.2))))):=by
 refine qH.of_sound ?_;refine qSW Tryz.call63 Tryz.func63 rfl {} ?_;have hMf:=q8 x;have wx:=wk3 x p n;generalize hE:(bX (zF [den x a,den x b] p) fun q => .ok (decide (q.1=q.2)))=E;have hr:=wO x N n a b hk ih p hp hq;simp [go_sem,o33];cases ea:zF [den x a,den x b] p with
 |error e =>
  rw [ea] at hr hE;subst hE;refine qc.pans hr wx ?_;simp [go_sem,qS];exact .hf _ (qy _)
 |ok q =>
  obtain ⟨r,s⟩:=q;obtain ⟨h1,h2,h3⟩:=vf ea;simp only [kD,List.getD_cons_zero,List.getD_cons_succ] at h1 h2;have gr:=(ih a (by rw [hk];simp) p hp (by omega)).G _ h1;have gs:=(ih b (by rw [hk];simp) p hp (by omega)).G _ h2;have lr:=gr.len hM.n0 (OkMa.n20 hM);have ls:=gs.len hM.n0 (OkMa.n20 hM);rw [ea] at hr hE;rw [qO] at hE;subst hE;refine qc.pure hr.toP wx ?_;simp [go_sem];refine qc.pure (E4.m6 r s (by omega)) (wkR2 r s) ?_;simp [go_sem];exact .hf _ (HF.sc _)
theorem f34 (x:Mo) (N:Nat) (n a:Nd) (hM:OkMa x N) (hk:n.kids=[a]) (ih:IH x N n) (p:Pl) (hp:OkP x N p) (hq:bd p n) (o34:n.op=34):qA Tryz.prog 63 [eMa x,ePl p,eNd n] (endB ((bX ((den x a).E p) fun a => .ok (decide (0<a.ts.length))))):=by
 refine qH.of_sound ?_;refine qSW Tryz.call63 Tryz.func63 rfl {} ?_;have hMf:=q8 x;have wx:=wk3 x p n;generalize hE:(bX ((den x a).E p) fun a => .ok (decide (0<a.ts.length)))=E;have ia:=(ih a (by rw [hk];simp) p hp (by omega)).E;have wa:=wk3 x p a;simp [go_sem,o34,hk];refine qd.seg [0,1,2,3,4,5,6,7,8,9] [(0,0,[]),(1,0,[]),(2,0,[]),(3,0,[]),(4,0,[]),(5,0,[]),(6,1,[]),(7,0,[]),(8,0,[]),(9,0,[])] (by kernel_rfl) (by kernel_rfl) (by simp [go_sem]) ?_;simp [go_sem,hk];cases ea:(den x a).E p with
 |error e =>
  rw [ea] at ia hE;subst hE;refine qc.pans ia wa ?_;simp [go_sem,qS];exact .hf _ (qy _)
 |ok r =>
  rw [ea] at ia hE;rw [qO] at hE;subst hE;refine qc.pure ia.toP wa ?_;by_cases hc:0<r.ts.length
  ·have hi:(0:Int)<r.ts.length:=by omega
   rw [decide_eq_true hc];simp [go_sem,o34,hc,hi];exact .hf _ (HF.sc _)
  ·have hi:¬(0:Int)<r.ts.length:=by omega
   rw [decide_eq_false hc];simp [go_sem,o34,hc,hi];exact .hf _ (HF.sc _)
theorem f35 (x:Mo) (N:Nat) (n a:Nd) (hM:OkMa x N) (hk:n.kids=[a]) (ih:IH x N n) (p:Pl) (hp:OkP x N p) (hq:bd p n) (o35:n.op=35):qA Tryz.prog 63 [eMa x,ePl p,eNd n] (endB ((bX ((den x a).E p) fun a => .ok (decide (a.ts.length=0))))):=by
 refine qH.of_sound ?_;refine qSW Tryz.call63 Tryz.func63 rfl {} ?_;have hMf:=q8 x;have wx:=wk3 x p n;generalize hE:(bX ((den x a).E p) fun a => .ok (decide (a.ts.length=0)))=E;have ia:=(ih a (by rw [hk];simp) p hp (by omega)).E;have wa:=wk3 x p a;simp [go_sem,o35,hk];refine qd.seg [0,1,2,3,4,5,6,7,8,9] [(0,0,[]),(1,0,[]),(2,0,[]),(3,0,[]),(4,0,[]),(5,0,[]),(6,1,[]),(7,0,[]),(8,0,[]),(9,0,[])] (by kernel_rfl) (by kernel_rfl) (by simp [go_sem]) ?_;simp [go_sem,hk];cases ea:(den x a).E p with
 |error e =>
  rw [ea] at ia hE;subst hE;refine qc.pans ia wa ?_;simp [go_sem,qS];exact .hf _ (qy _)
 |ok r =>
  rw [ea] at ia hE;rw [qO] at hE;subst hE;refine qc.pure ia.toP wa ?_;by_cases hc:r.ts.length=0
  ·have hi:r.ts=[]:=by exact List.length_eq_zero_iff.1 hc
   rw [decide_eq_true hc];simp [go_sem,o35,hc,hi];exact .hf _ (HF.sc _)
  ·have hi:¬(r.ts=[]):=by exact fun e=>hc (List.length_eq_zero_iff.2 e)
   rw [decide_eq_false hc];simp [go_sem,o35,hc,hi];exact .hf _ (HF.sc _)
theorem f36 (x:Mo) (N:Nat) (n a:Nd) (hM:OkMa x N) (hk:n.kids=[a]) (ih:IH x N n) (p:Pl) (hp:OkP x N p) (hq:bd p n) (o36:n.op=36):qA Tryz.prog 63 [eMa x,ePl p,eNd n] (endB ((bX ((den x a).E p) fun a => .ok (decide (a.ts.length=1))))):=by
 refine qH.of_sound ?_;refine qSW Tryz.call63 Tryz.func63 rfl {} ?_;have hMf:=q8 x;have wx:=wk3 x p n;generalize hE:(bX ((den x a).E p) fun a => .ok (decide (a.ts.length=1)))=E;have ia:=(ih a (by rw [hk];simp) p hp (by omega)).E;have wa:=wk3 x p a;simp [go_sem,o36,hk];refine qd.seg [0,1,2,3,4,5,6,7,8,9] [(0,0,[]),(1,0,[]),(2,0,[]),(3,0,[]),(4,0,[]),(5,0,[]),(6,1,[]),(7,0,[]),(8,0,[]),(9,0,[])] (by kernel_rfl) (by kernel_rfl) (by simp [go_sem]) ?_;simp [go_sem,hk];cases ea:(den x a).E p with
 |error e =>
  rw [ea] at ia hE;subst hE;refine qc.pans ia wa ?_;simp [go_sem,qS];exact .hf _ (qy _)
 |ok r =>
  rw [ea] at ia hE;rw [qO] at hE;subst hE;refine qc.pure ia.toP wa ?_;by_cases hc:r.ts.length=1
  ·have hi:(r.ts.length:Int)=1:=by omega
   rw [decide_eq_true hc];simp [go_sem,o36,hc,hi];exact .hf _ (HF.sc _)
  ·have hi:¬(r.ts.length:Int)=1:=by omega
   rw [decide_eq_false hc];simp [go_sem,o36,hc,hi];exact .hf _ (HF.sc _)
theorem f37 (x:Mo) (N:Nat) (n a:Nd) (hM:OkMa x N) (hk:n.kids=[a]) (ih:IH x N n) (p:Pl) (hp:OkP x N p) (hq:bd p n) (o37:n.op=37):qA Tryz.prog 63 [eMa x,ePl p,eNd n] (endB ((bX ((den x a).E p) fun a => .ok (decide (a.ts.length≤1))))):=by
 refine qH.of_sound ?_;refine qSW Tryz.call63 Tryz.func63 rfl {} ?_;have hMf:=q8 x;have wx:=wk3 x p n;generalize hE:(bX ((den x a).E p) fun a => .ok (decide (a.ts.length≤1)))=E;have ia:=(ih a (by rw [hk];simp) p hp (by omega)).E;have wa:=wk3 x p a;simp [go_sem,o37,hk];refine qd.seg [0,1,2,3,4,5,6,7,8,9] [(0,0,[]),(1,0,[]),(2,0,[]),(3,0,[]),(4,0,[]),(5,0,[]),(6,1,[]),(7,0,[]),(8,0,[]),(9,0,[])] (by kernel_rfl) (by kernel_rfl) (by simp [go_sem]) ?_;simp [go_sem,hk];cases ea:(den x a).E p with
 |error e =>
  rw [ea] at ia hE;subst hE;refine qc.pans ia wa ?_;simp [go_sem,qS];exact .hf _ (qy _)
 |ok r =>
  rw [ea] at ia hE;rw [qO] at hE;subst hE;refine qc.pure ia.toP wa ?_;by_cases hc:r.ts.length≤1
  ·have hi:(r.ts.length:Int)≤1:=by omega
   rw [decide_eq_true hc];simp [go_sem,o37,hc,hi];exact .hf _ (HF.sc _)
  ·have hi:¬(r.ts.length:Int)≤1:=by omega
   rw [decide_eq_false hc];simp [go_sem,o37,hc,hi];exact .hf _ (HF.sc _)
theorem f38 (x:Mo) (N:Nat) (n a b:Nd) (hM:OkMa x N) (hk:n.kids=[a,b]) (ih:IH x N n) (p:Pl) (hp:OkP x N p) (hq:bd p n) (o38:n.op=38):qA Tryz.prog 63 [eMa x,ePl p,eNd n] (endB ((bX ((den x a).N p) fun a=>bX ((den x b).N p) fun b => .ok (decide (a=b))))):=by
 refine qH.of_sound ?_;refine qSW Tryz.call63 Tryz.func63 rfl {} ?_;have hMf:=q8 x;have wx:=wk3 x p n;generalize hE:(bX ((den x a).N p) fun a=>bX ((den x b).N p) fun b => .ok (decide (a=b)))=E;have ia:=(ih a (by rw [hk];simp) p hp (by omega)).N;have ib:=(ih b (by rw [hk];simp) p hp (by omega)).N;have wa:=wk3 x p a;have wb:=wk3 x p b;simp [go_sem,o38,hk];refine qd.seg [0,1,2,3,4,5,7,8,9,10,11,12,6,13,14,15] [(0,0,[]),(1,0,[]),(2,0,[]),(3,0,[]),(4,0,[]),(5,0,[]),(7,0,[]),(8,0,[]),(9,0,[]),(10,0,[]),(11,0,[]),(12,0,[]),(6,1,[8,10,12]),(13,1,[]),(14,0,[]),(15,0,[])] (by kernel_rfl) (by kernel_rfl) (by simp [go_sem]) ?_;simp [go_sem,hk];cases ea:(den x a).N p with
 |error e =>
  rw [ea] at ia hE;subst hE;refine qc.pans ia wa ?_;simp [go_sem,qS];exact .hf _ (qy _)
 |ok r =>
  rw [ea] at ia hE;rw [qO] at hE;refine qc.pure ia.toP wa ?_;simp [go_sem,hk];cases eb:(den x b).N p with
  |error e =>
   rw [eb] at ib hE;subst hE;refine qc.pans ib wb ?_;simp [go_sem,qS];exact .hf _ (qy _)
  |ok s =>
   rw [eb] at ib hE;rw [qO] at hE;subst hE;refine qc.pure ib.toP wb ?_;simp [go_sem];exact .hf _ (HF.sc _)
theorem f39 (x:Mo) (N:Nat) (n a b:Nd) (hM:OkMa x N) (hk:n.kids=[a,b]) (ih:IH x N n) (p:Pl) (hp:OkP x N p) (hq:bd p n) (o39:n.op=39):qA Tryz.prog 63 [eMa x,ePl p,eNd n] (endB ((bX ((den x a).N p) fun a=>bX ((den x b).N p) fun b => .ok (decide (a<b))))):=by
 refine qH.of_sound ?_;refine qSW Tryz.call63 Tryz.func63 rfl {} ?_;have hMf:=q8 x;have wx:=wk3 x p n;generalize hE:(bX ((den x a).N p) fun a=>bX ((den x b).N p) fun b => .ok (decide (a<b)))=E;have ia:=(ih a (by rw [hk];simp) p hp (by omega)).N;have ib:=(ih b (by rw [hk];simp) p hp (by omega)).N;have wa:=wk3 x p a;have wb:=wk3 x p b;simp [go_sem,o39,hk];refine qd.seg [0,1,2,3,4,5,7,8,9,10,11,12,6,13,14,15] [(0,0,[]),(1,0,[]),(2,0,[]),(3,0,[]),(4,0,[]),(5,0,[]),(7,0,[]),(8,0,[]),(9,0,[]),(10,0,[]),(11,0,[]),(12,0,[]),(6,1,[8,10,12]),(13,1,[]),(14,0,[]),(15,0,[])] (by kernel_rfl) (by kernel_rfl) (by simp [go_sem]) ?_;simp [go_sem,hk];cases ea:(den x a).N p with
 |error e =>
  rw [ea] at ia hE;subst hE;refine qc.pans ia wa ?_;simp [go_sem,qS];exact .hf _ (qy _)
 |ok r =>
  rw [ea] at ia hE;rw [qO] at hE;refine qc.pure ia.toP wa ?_;simp [go_sem,hk];cases eb:(den x b).N p with
  |error e =>
   rw [eb] at ib hE;subst hE;refine qc.pans ib wb ?_;simp [go_sem,qS];exact .hf _ (qy _)
  |ok s =>
   rw [eb] at ib hE;rw [qO] at hE;subst hE;refine qc.pure ib.toP wb ?_;simp [go_sem];exact .hf _ (HF.sc _)
theorem f40 (x:Mo) (N:Nat) (n a:Nd) (hM:OkMa x N) (hk:n.kids=[a]) (ih:IH x N n) (p:Pl) (hp:OkP x N p) (hq:bd p n) (o40:n.op=40):qA Tryz.prog 63 [eMa x,ePl p,eNd n] (endB ((bX ((den x a).F p) fun a => .ok (!a)))):=by
 refine qH.of_sound ?_;refine qSW Tryz.call63 Tryz.func63 rfl {} ?_;have hMf:=q8 x;have wx:=wk3 x p n;generalize hE:(bX ((den x a).F p) fun a => .ok (!a))=E;have ia:=(ih a (by rw [hk];simp) p hp (by omega)).F;have wa:=wk3 x p a;simp [go_sem,o40,hk];refine qd.seg [0,1,2,3,4,5,6,7,8] [(0,0,[]),(1,0,[]),(2,0,[]),(3,0,[]),(4,0,[]),(5,0,[]),(6,1,[]),(7,0,[]),(8,0,[])] (by kernel_rfl) (by kernel_rfl) (by simp [go_sem]) ?_;simp [go_sem,hk];cases ea:(den x a).F p with
 |error e =>
  rw [ea] at ia hE;subst hE;refine qc.pans ia wa ?_;simp [go_sem,qS];exact .hf _ (qy _)
 |ok r =>
  rw [ea] at ia hE;rw [qO] at hE;subst hE;refine qc.pure ia.toP wa ?_;simp [go_sem];exact .hf _ (HF.sc _)
theorem f41 (x:Mo) (N:Nat) (n a b:Nd) (hM:OkMa x N) (hk:n.kids=[a,b]) (ih:IH x N n) (p:Pl) (hp:OkP x N p) (hq:bd p n) (o41:n.op=41):qA Tryz.prog 63 [eMa x,ePl p,eNd n] (endB ((bX ((den x a).F p) fun a=>bX ((den x b).F p) fun b => .ok (a&&b)))):=by
 refine qH.of_sound ?_;refine qSW Tryz.call63 Tryz.func63 rfl {} ?_;have hMf:=q8 x;have wx:=wk3 x p n;generalize hE:(bX ((den x a).F p) fun a=>bX ((den x b).F p) fun b => .ok (a&&b))=E;have ia:=(ih a (by rw [hk];simp) p hp (by omega)).F;have ib:=(ih b (by rw [hk];simp) p hp (by omega)).F;have wa:=wk3 x p a;have wb:=wk3 x p b;simp [go_sem,o41,hk];refine qd.seg [0,1,2,3,4,5,7,8,9,10,11,12,6,14,13,15] [(0,0,[]),(1,0,[]),(2,0,[]),(3,0,[]),(4,0,[]),(5,0,[]),(7,0,[]),(8,0,[]),(9,0,[]),(10,0,[]),(11,0,[]),(12,0,[]),(6,1,[8,10,12]),(14,0,[]),(13,1,[]),(15,0,[])] (by kernel_rfl) (by kernel_rfl) (by simp [go_sem]) ?_;simp [go_sem,hk];cases ea:(den x a).F p with
 |error e =>
  rw [ea] at ia hE;subst hE;refine qc.pans ia wa ?_;simp [go_sem,qS];exact .hf _ (qy _)
 |ok r =>
  rw [ea] at ia hE;rw [qO] at hE;refine qc.pure ia.toP wa ?_;simp [go_sem,hk];cases eb:(den x b).F p with
  |error e =>
   rw [eb] at ib hE;subst hE;refine qc.pans ib wb ?_;simp [go_sem,qS];exact .hf _ (qy _)
  |ok s =>
   rw [eb] at ib hE;rw [qO] at hE;subst hE;refine qc.pure ib.toP wb ?_;cases r<;>cases s<;>simp [go_sem,o41]<;>exact .hf _ (HF.sc _)
theorem f42 (x:Mo) (N:Nat) (n a b:Nd) (hM:OkMa x N) (hk:n.kids=[a,b]) (ih:IH x N n) (p:Pl) (hp:OkP x N p) (hq:bd p n) (o42:n.op=42):qA Tryz.prog 63 [eMa x,ePl p,eNd n] (endB ((bX ((den x a).F p) fun a=>bX ((den x b).F p) fun b => .ok (a||b)))):=by
 refine qH.of_sound ?_;refine qSW Tryz.call63 Tryz.func63 rfl {} ?_;have hMf:=q8 x;have wx:=wk3 x p n;generalize hE:(bX ((den x a).F p) fun a=>bX ((den x b).F p) fun b => .ok (a||b))=E;have ia:=(ih a (by rw [hk];simp) p hp (by omega)).F;have ib:=(ih b (by rw [hk];simp) p hp (by omega)).F;have wa:=wk3 x p a;have wb:=wk3 x p b;simp [go_sem,o42,hk];refine qd.seg [0,1,2,3,4,5,7,8,9,10,11,12,6,14,13,15] [(0,0,[]),(1,0,[]),(2,0,[]),(3,0,[]),(4,0,[]),(5,0,[]),(7,0,[]),(8,0,[]),(9,0,[]),(10,0,[]),(11,0,[]),(12,0,[]),(6,1,[8,10,12]),(14,0,[]),(13,1,[]),(15,0,[])] (by kernel_rfl) (by kernel_rfl) (by simp [go_sem]) ?_;simp [go_sem,hk];cases ea:(den x a).F p with
 |error e =>
  rw [ea] at ia hE;subst hE;refine qc.pans ia wa ?_;simp [go_sem,qS];exact .hf _ (qy _)
 |ok r =>
  rw [ea] at ia hE;rw [qO] at hE;refine qc.pure ia.toP wa ?_;simp [go_sem,hk];cases eb:(den x b).F p with
  |error e =>
   rw [eb] at ib hE;subst hE;refine qc.pans ib wb ?_;simp [go_sem,qS];exact .hf _ (qy _)
  |ok s =>
   rw [eb] at ib hE;rw [qO] at hE;subst hE;refine qc.pure ib.toP wb ?_;cases r<;>cases s<;>simp [go_sem,o42]<;>exact .hf _ (HF.sc _)
theorem f43 (x:Mo) (N:Nat) (n a b:Nd) (hM:OkMa x N) (hk:n.kids=[a,b]) (ih:IH x N n) (p:Pl) (hp:OkP x N p) (hq:bd p n) (o43:n.op=43):qA Tryz.prog 63 [eMa x,ePl p,eNd n] (endB ((bX ((den x a).F p) fun a=>bX ((den x b).F p) fun b => .ok (!a||b)))):=by
 refine qH.of_sound ?_;refine qSW Tryz.call63 Tryz.func63 rfl {} ?_;have hMf:=q8 x;have wx:=wk3 x p n;generalize hE:(bX ((den x a).F p) fun a=>bX ((den x b).F p) fun b => .ok (!a||b))=E;have ia:=(ih a (by rw [hk];simp) p hp (by omega)).F;have ib:=(ih b (by rw [hk];simp) p hp (by omega)).F;have wa:=wk3 x p a;have wb:=wk3 x p b;simp [go_sem,o43,hk];refine qd.seg [0,1,2,3,4,5,7,8,9,10,11,12,6,14,13,15] [(0,0,[]),(1,0,[]),(2,0,[]),(3,0,[]),(4,0,[]),(5,0,[]),(7,0,[]),(8,0,[]),(9,0,[]),(10,0,[]),(11,0,[]),(12,0,[]),(6,1,[8,10,12]),(14,0,[]),(13,1,[]),(15,0,[])] (by kernel_rfl) (by kernel_rfl) (by simp [go_sem]) ?_;simp [go_sem,hk];cases ea:(den x a).F p with
 |error e =>
  rw [ea] at ia hE;subst hE;refine qc.pans ia wa ?_;simp [go_sem,qS];exact .hf _ (qy _)
 |ok r =>
  rw [ea] at ia hE;rw [qO] at hE;refine qc.pure ia.toP wa ?_;simp [go_sem,hk];cases eb:(den x b).F p with
  |error e =>
   rw [eb] at ib hE;subst hE;refine qc.pans ib wb ?_;simp [go_sem,qS];exact .hf _ (qy _)
  |ok s =>
   rw [eb] at ib hE;rw [qO] at hE;subst hE;refine qc.pure ib.toP wb ?_;cases r<;>cases s<;>simp [go_sem,o43]<;>exact .hf _ (HF.sc _)
theorem f44 (x:Mo) (N:Nat) (n a b:Nd) (hM:OkMa x N) (hk:n.kids=[a,b]) (ih:IH x N n) (p:Pl) (hp:OkP x N p) (hq:bd p n) (o44:n.op=44):qA Tryz.prog 63 [eMa x,ePl p,eNd n] (endB ((bX ((den x a).F p) fun a=>bX ((den x b).F p) fun b => .ok (decide (a=b))))):=by
 refine qH.of_sound ?_;refine qSW Tryz.call63 Tryz.func63 rfl {} ?_;have hMf:=q8 x;have wx:=wk3 x p n;generalize hE:(bX ((den x a).F p) fun a=>bX ((den x b).F p) fun b => .ok (decide (a=b)))=E;have ia:=(ih a (by rw [hk];simp) p hp (by omega)).F;have ib:=(ih b (by rw [hk];simp) p hp (by omega)).F;have wa:=wk3 x p a;have wb:=wk3 x p b;simp [go_sem,o44,hk];refine qd.seg [0,1,2,3,4,5,7,8,9,10,11,12,6,14,13,15] [(0,0,[]),(1,0,[]),(2,0,[]),(3,0,[]),(4,0,[]),(5,0,[]),(7,0,[]),(8,0,[]),(9,0,[]),(10,0,[]),(11,0,[]),(12,0,[]),(6,1,[8,10,12]),(14,0,[]),(13,1,[]),(15,0,[])] (by kernel_rfl) (by kernel_rfl) (by simp [go_sem]) ?_;simp [go_sem,hk];cases ea:(den x a).F p with
 |error e =>
  rw [ea] at ia hE;subst hE;refine qc.pans ia wa ?_;simp [go_sem,qS];exact .hf _ (qy _)
 |ok r =>
  rw [ea] at ia hE;rw [qO] at hE;refine qc.pure ia.toP wa ?_;simp [go_sem,hk];cases eb:(den x b).F p with
  |error e =>
   rw [eb] at ib hE;subst hE;refine qc.pans ib wb ?_;simp [go_sem,qS];exact .hf _ (qy _)
  |ok s =>
   rw [eb] at ib hE;rw [qO] at hE;subst hE;refine qc.pure ib.toP wb ?_;cases r<;>cases s<;>simp [go_sem,o44]<;>exact .hf _ (HF.sc _)
end Go.Proofs.YtkglmpmlfjogkaaGreatDoor.F8


namespace Go.Proofs.YtkglmpmlfjogkaaGreatDoor.E8
open Go Go.Ev Go.Proofs Go.Proofs.YtkglmpmlfjogkaaGreatDoor Y1 Y9 YM YS YF P1 E1 E3 E5 E7
theorem qb8 {x:Mo} {N:Nat} (h:OkX x N) {s:Nat} (hs:s<N) {t:Nat} (ht:t∈x.path s):∃ k,it x k s=t:=by
 obtain ⟨r,e,hr⟩:=mR h hs;rw [e] at ht;obtain ⟨j,_,e⟩:=qn.1 ht;exact ⟨j,e⟩
end Go.Proofs.YtkglmpmlfjogkaaGreatDoor.E8


namespace Go.Proofs.YtkglmpmlfjogkaaGreatDoor.EB
open Go Go.Ev Go.Proofs Go.Proofs.YtkglmpmlfjogkaaGreatDoor Y1 Y9 YM YS YF P1 E1 E3 E5 E7 E8
end Go.Proofs.YtkglmpmlfjogkaaGreatDoor.EB


namespace Go.Proofs.YtkglmpmlfjogkaaGreatDoor.EK
open Go Go.Ev Go.Proofs Go.Proofs.YtkglmpmlfjogkaaGreatDoor Y1 Y9 YM YS YF P1 E1 E3 E5 E7 E8 EB
theorem V7 {α β:Type} {g:α→XE β}:∀{l:List α} {r:List β},mapX g l = .ok r→r.length=l.length
 | [],r,h=>by cases h;rfl
 |a :: l,r,h=>by
  rw [mapX] at h;cases h1:g a with
  |error e=>rw [h1] at h;cases h
  |ok b =>
   rw [h1,qO] at h;cases h2:mapX g l with
   |error e=>rw [h2] at h;cases h
   |ok s =>
    rw [h2,qO] at h;cases h;rw [List.length_cons,List.length_cons,V7 h2]
def pick (l:List Int) (vs:List Bool):List Int:=((l.zip vs).filter fun e=>e.2).map fun e=>e.1
end Go.Proofs.YtkglmpmlfjogkaaGreatDoor.EK


namespace Go.Proofs.YtkglmpmlfjogkaaGreatDoor.F9
open Go Go.Ev Go.Proofs Go.Proofs.YtkglmpmlfjogkaaGreatDoor Y1 Y9 P1 P2 YM YS YF E1 E2 E3 E7 EA EL EO EP EQ ER ET EW EY EZ F1 F2 F3 F4 F5 F6 F7 F8
theorem f45 (x:Mo) (N:Nat) (n a b:Nd) (hM:OkMa x N) (hk:n.kids=[a,b]) (ih:IH x N n) (p:Pl) (hp:OkP x N p) (hq:bd p n) (o45:n.op=45):qA Tryz.prog 63 [eMa x,ePl p,eNd n] (endB (bX (ye [den x a,den x b] n.name p) fun l => .ok (l.all fun e=>e.2))):=by
 refine qH.of_sound ?_;refine qSW Tryz.call63 Tryz.func63 rfl {} ?_;have hMf:=q8 x;have hi:=V3 x N n a b hM hk ih p hp hq;have wx:=wk3 x p n;simp [go_sem,o45];cases hE:ye [den x a,den x b] n.name p with
 |error e =>
  rw [hE] at hi;refine qc.pans hi wx ?_;simp [go_sem,qS];exact .hf _ (qy _)
 |ok l =>
  rw [hE] at hi;have hl:l.length≤8000:=V5 hE 8000 fun d h=>((ih a (by rw [hk];simp) p hp (by omega)).G d h).len hM.n0 (OkMa.n20 hM)
  have hit:=V1 1 (l.map Prod.fst) (l.map Prod.snd) (by simp) (by simp;omega);rw [V4] at hit;rw [YR] at hi;refine qc.pure hi.toP wx ?_;generalize insC 1 (l.map Prod.fst) (l.map Prod.snd)=C at *
  simp [go_sem,qO];refine jm.keep hit (fun j M=>∃ rest,M = .arr [aB ((l.take j).any fun e=>e.2)] :: .arr [aB ((l.take j).all fun e=>e.2)] :: rest) (fun _ _=>False) ?_ ?_ ?_ ?_ ?_ ?_
  ·exact ⟨_,by simp only [qD,List.cons_append];rfl⟩
  ·rintro j M ⟨rest,rfl⟩
   exact ⟨rest++[.dead],rfl⟩
  ·intro e M h;exact h
  ·rintro j y M hj ⟨rest,rfl⟩
   rw [qW,ju] at hj;obtain ⟨t,ht,rfl⟩:=hj;obtain ⟨hjl,hte⟩:=qh.1 ht;have hs:=zN hjl;rw [hte] at hs;refine ⟨rfl,?_⟩;have ha:((l.take (j+1)).any fun e=>e.2)=((l.take j).any (fun e=>e.2)||t.2):=by rw [hs,List.any_append];simp
   have hb:((l.take (j+1)).all fun e=>e.2)=((l.take j).all (fun e=>e.2)&&t.2):=by rw [hs,List.all_append];simp
   generalize (l.take j).any (fun e=>e.2)=A at *
   generalize (l.take j).all (fun e=>e.2)=B at *
   cases A<;>cases B<;>cases t2:t.2
   all_goals simp [go_sem,t2]
   all_goals refine jd.intro ?_
   all_goals rw [ha,hb,t2]
   all_goals exact ⟨_,rfl⟩
  ·rintro M ⟨rest,rfl⟩
   rw [yj,zb];generalize (l.any fun e=>e.2)=A at *
   generalize (l.all fun e=>e.2)=B at *
   cases A<;>cases B
   all_goals simp [go_sem,o45]
   all_goals exact .hf _ (HF.sc _)
  ·intro e M h;exact h.elim
theorem f46 (x:Mo) (N:Nat) (n a b:Nd) (hM:OkMa x N) (hk:n.kids=[a,b]) (ih:IH x N n) (p:Pl) (hp:OkP x N p) (hq:bd p n) (o46:n.op=46):qA Tryz.prog 63 [eMa x,ePl p,eNd n] (endB (bX (ye [den x a,den x b] n.name p) fun l => .ok (l.any fun e=>e.2))):=by
 refine qH.of_sound ?_;refine qSW Tryz.call63 Tryz.func63 rfl {} ?_;have hMf:=q8 x;have hi:=V3 x N n a b hM hk ih p hp hq;have wx:=wk3 x p n;simp [go_sem,o46];cases hE:ye [den x a,den x b] n.name p with
 |error e =>
  rw [hE] at hi;refine qc.pans hi wx ?_;simp [go_sem,qS];exact .hf _ (qy _)
 |ok l =>
  rw [hE] at hi;have hl:l.length≤8000:=V5 hE 8000 fun d h=>((ih a (by rw [hk];simp) p hp (by omega)).G d h).len hM.n0 (OkMa.n20 hM)
  have hit:=V1 1 (l.map Prod.fst) (l.map Prod.snd) (by simp) (by simp;omega);rw [V4] at hit;rw [YR] at hi;refine qc.pure hi.toP wx ?_;generalize insC 1 (l.map Prod.fst) (l.map Prod.snd)=C at *
  simp [go_sem,qO];refine jm.keep hit (fun j M=>∃ rest,M = .arr [aB ((l.take j).any fun e=>e.2)] :: .arr [aB ((l.take j).all fun e=>e.2)] :: rest) (fun _ _=>False) ?_ ?_ ?_ ?_ ?_ ?_
  ·exact ⟨_,by simp only [qD,List.cons_append];rfl⟩
  ·rintro j M ⟨rest,rfl⟩
   exact ⟨rest++[.dead],rfl⟩
  ·intro e M h;exact h
  ·rintro j y M hj ⟨rest,rfl⟩
   rw [qW,ju] at hj;obtain ⟨t,ht,rfl⟩:=hj;obtain ⟨hjl,hte⟩:=qh.1 ht;have hs:=zN hjl;rw [hte] at hs;refine ⟨rfl,?_⟩;have ha:((l.take (j+1)).any fun e=>e.2)=((l.take j).any (fun e=>e.2)||t.2):=by rw [hs,List.any_append];simp
   have hb:((l.take (j+1)).all fun e=>e.2)=((l.take j).all (fun e=>e.2)&&t.2):=by rw [hs,List.all_append];simp
   generalize (l.take j).any (fun e=>e.2)=A at *
   generalize (l.take j).all (fun e=>e.2)=B at *
   cases A<;>cases B<;>cases t2:t.2
   all_goals simp [go_sem,t2]
   all_goals refine jd.intro ?_
   all_goals rw [ha,hb,t2]
   all_goals exact ⟨_,rfl⟩
  ·rintro M ⟨rest,rfl⟩
   rw [yj,zb];generalize (l.any fun e=>e.2)=A at *
   generalize (l.all fun e=>e.2)=B at *
   cases A<;>cases B
   all_goals simp [go_sem,o46]
   all_goals exact .hf _ (HF.sc _)
  ·intro e M h;exact h.elim
theorem KA (x:Mo):∀(f s:Nat) (acc:List Nat),(vO x f s acc).length≤acc.length+f
 | 0,s,acc=>by simp [vO]
 |f+1,s,acc=>by
  simp only [vO];split
  ·omega
  ·have:=KA x f (x.nx s) (acc++[s])
   rw [za,List.length_singleton] at this;omega
theorem V8 (x:Mo) (s:Nat):(x.path s).length≤x.m.states.length+1:=by
 have:=KA x (x.m.states.length+1) s [];simpa [Mo.path] using this
theorem YT {x:Mo} {N:Nat} (hM:OkMa x N) {p:Pl} (hp:OkP x N p):∀ s,s∈x.path p.st→OkP x N ⟨s,p.env⟩:=fun s hs=>by
 obtain ⟨k,rfl⟩:=Go.Proofs.YtkglmpmlfjogkaaGreatDoor.E8.qb8 hM.toOkX hp.st hs;exact ⟨Vz hM.toOkX hp.st k,hp.env⟩
theorem qb9 (l:List Bool):l.all id=!decide (false∈l):=by
 rw [Bool.eq_iff_iff];simp only [List.all_eq_true,id,Bool.not_eq_true',decide_eq_false_iff_not];exact ⟨fun h hm=>by simpa using h _ hm,fun h b hb=>by cases b with | true=>rfl | false=>exact (h hb).elim⟩
theorem qcA (l:List Bool):l.any id=decide (true∈l):=by
 rw [Bool.eq_iff_iff];simp
theorem f48 (x:Mo) (N:Nat) (n a:Nd) (hM:OkMa x N) (hk:n.kids=[a]) (ih:IH x N n) (p:Pl) (hp:OkP x N p) (hq:bd p n) (o48:n.op=48):qA Tryz.prog 63 [eMa x,ePl p,eNd n] (endB (bX (mapX (fun s=>(den x a).F ⟨s,p.env⟩) (x.path p.st)) fun l => .ok (l.all id))):=by
 refine qH.of_sound ?_;refine qSW Tryz.call63 Tryz.func63 rfl {} ?_;have hMf:=q8 x;have hN:=hM.N1;have hl:=hM.len;have hpu:=VZ x N hM p.st hp.st;have hpl:=V8 x p.st;have wpu:WKs [eMa x,aI p.st] [eMa x,aI p.st] := .cons (.hf hMf) (.cons (.hf (HF.sc _)) .nil);have hal:=Ku x (x.path p.st) (by omega) p a fun s hs=>ih a (by rw [hk];simp) _ (YT hM hp s hs) (by show p.env.length+_≤_;omega)
 have wal:WKs [eMa x,lN (x.path p.st),ePl p,eNd a] [eMa x,lN (x.path p.st),ePl p,eNd a] := .cons (.hf hMf) (.cons (WK.intsF _) (.cons (.hf (Yz p)) (.cons (.hf (qB a)) .nil)));simp [go_sem,o48,hk];refine qd.seg [0,1,2,3,5,6,7,8,9,4,10,11,12,13] [(0,0,[]),(1,0,[]),(2,0,[]),(3,0,[]),(5,0,[]),(6,0,[]),(7,0,[]),(8,0,[]),(9,0,[]),(4,1,[5,7,9]),(10,1,[]),(11,1,[]),(12,0,[]),(13,0,[])] (by kernel_rfl) (by kernel_rfl) (by simp [go_sem]) ?_;simp [go_sem,hk];refine qc.pure hpu wpu ?_;simp [go_sem,hk];cases em:mapX (fun s=>(den x a).F ⟨s,p.env⟩) (x.path p.st) with
 |error e =>
  rw [em] at hal;refine qc.pans hal wal ?_;simp [go_sem,qS];exact .hf _ (qy _)
 |ok l =>
  rw [em] at hal;have hll:l.length=(x.path p.st).length:=Go.Proofs.YtkglmpmlfjogkaaGreatDoor.EK.V7 em;refine qc.pure hal.toP wal ?_;simp [go_sem];refine qc.pure (Kv l false (by omega)) (.cons (.hf (VF l)) (.cons (.hf (HF.sc _)) .nil)) ?_;have hb:(l.all id)=!decide (false∈l):=qb9 l;generalize decide (false∈l)=B at *
  simp [go_sem,qO,hb];exact .hf _ (HF.sc _)
theorem f49 (x:Mo) (N:Nat) (n a:Nd) (hM:OkMa x N) (hk:n.kids=[a]) (ih:IH x N n) (p:Pl) (hp:OkP x N p) (hq:bd p n) (o49:n.op=49):qA Tryz.prog 63 [eMa x,ePl p,eNd n] (endB (bX (mapX (fun s=>(den x a).F ⟨s,p.env⟩) (x.path p.st)) fun l => .ok (l.any id))):=by
 refine qH.of_sound ?_;refine qSW Tryz.call63 Tryz.func63 rfl {} ?_;have hMf:=q8 x;have hN:=hM.N1;have hl:=hM.len;have hpu:=VZ x N hM p.st hp.st;have hpl:=V8 x p.st;have wpu:WKs [eMa x,aI p.st] [eMa x,aI p.st] := .cons (.hf hMf) (.cons (.hf (HF.sc _)) .nil);have hal:=Ku x (x.path p.st) (by omega) p a fun s hs=>ih a (by rw [hk];simp) _ (YT hM hp s hs) (by show p.env.length+_≤_;omega)
 have wal:WKs [eMa x,lN (x.path p.st),ePl p,eNd a] [eMa x,lN (x.path p.st),ePl p,eNd a] := .cons (.hf hMf) (.cons (WK.intsF _) (.cons (.hf (Yz p)) (.cons (.hf (qB a)) .nil)));simp [go_sem,o49,hk];refine qd.seg [0,1,2,3,5,6,7,8,9,4,10,11,12] [(0,0,[]),(1,0,[]),(2,0,[]),(3,0,[]),(5,0,[]),(6,0,[]),(7,0,[]),(8,0,[]),(9,0,[]),(4,1,[5,7,9]),(10,1,[]),(11,1,[]),(12,0,[])] (by kernel_rfl) (by kernel_rfl) (by simp [go_sem]) ?_;simp [go_sem,hk];refine qc.pure hpu wpu ?_;simp [go_sem,hk];cases em:mapX (fun s=>(den x a).F ⟨s,p.env⟩) (x.path p.st) with
 |error e =>
  rw [em] at hal;refine qc.pans hal wal ?_;simp [go_sem,qS];exact .hf _ (qy _)
 |ok l =>
  rw [em] at hal;have hll:l.length=(x.path p.st).length:=Go.Proofs.YtkglmpmlfjogkaaGreatDoor.EK.V7 em;refine qc.pure hal.toP wal ?_;simp [go_sem];refine qc.pure (Kv l true (by omega)) (.cons (.hf (VF l)) (.cons (.hf (HF.sc _)) .nil)) ?_;have hb:(l.any id)=decide (true∈l):=qcA l;generalize decide (true∈l)=B at *
  simp [go_sem,qO,hb];exact .hf _ (HF.sc _)
theorem f50 (x:Mo) (N:Nat) (n a:Nd) (hM:OkMa x N) (hk:n.kids=[a]) (ih:IH x N n) (p:Pl) (hp:OkP x N p) (hq:bd p n) (o50:n.op=50):qA Tryz.prog 63 [eMa x,ePl p,eNd n] (endB ((den x a).F ⟨x.nx p.st,p.env⟩)):=by
 refine qH.of_sound ?_;refine qSW Tryz.call63 Tryz.func63 rfl {} ?_;have hMf:=q8 x;have ha:=(ih a (by rw [hk];simp) _ (OkP.nx hM.toOkM hp) (by show p.env.length+_≤_;omega)).F;have wa:=wk3 x ⟨x.nx p.st,p.env⟩ a;have hN:=hM.N1;have hl:=hM.len;have hnx:=VA x hM.loop (by omega) p.st (by have:=hp.st;omega);have hnw:WKs [eMd x.m,aI p.st] [eMd x.m,aI p.st] := .cons (.hf (jD x.m)) (.cons (.hf (HF.sc _)) .nil);simp [go_sem,o50,hk];refine qd.seg [0,1,2,3,4,5,6,8,9,11,12,13,14,7,10,15,16] [(0,0,[]),(1,0,[]),(2,0,[]),(3,0,[]),(4,0,[]),(5,0,[]),(6,0,[]),(8,0,[]),(9,0,[]),(11,0,[]),(12,0,[]),(13,0,[]),(14,0,[]),(7,1,[9,12,14]),(10,0,[]),(15,1,[]),(16,0,[])] (by kernel_rfl) (by kernel_rfl) (by simp [go_sem]) ?_;simp [go_sem,hk];refine qc.pure hnx hnw ?_;simp [go_sem,hk];cases ea:(den x a).F ⟨x.nx p.st,p.env⟩ with
 |error e =>
  rw [ea] at ha;refine qc.pans ha wa ?_;simp [go_sem];exact .hf _ (qy _)
 |ok r =>
  rw [ea] at ha;refine qc.pure ha.toP wa ?_;simp [go_sem];exact .hf _ (HF.sc _)
theorem f51 (x:Mo) (N:Nat) (n a b:Nd) (hM:OkMa x N) (hk:n.kids=[a,b]) (ih:IH x N n) (p:Pl) (hp:OkP x N p) (hq:bd p n) (o51:n.op=51):qA Tryz.prog 63 [eMa x,ePl p,eNd n] (endB (untX (fun s=>(den x a).F ⟨s,p.env⟩) (fun s=>(den x b).F ⟨s,p.env⟩) (x.path p.st) false false)):=by
 refine qH.of_sound ?_;refine qSW Tryz.call63 Tryz.func63 rfl {} ?_;have hMf:=q8 x;have hN:=hM.N1;have hl:=hM.len;have hpl:=V8 x p.st;have hr:=qbW x N n a b hM hk p hp (fun s hs=>⟨ih a (by rw [hk];simp) _ (YT hM hp s hs) (by show p.env.length+_≤_;omega),ih b (by rw [hk];simp) _ (YT hM hp s hs) (by show p.env.length+_≤_;omega)⟩) (by omega);have wx:=wk3 x p n;generalize untX (fun s=>(den x a).F ⟨s,p.env⟩) (fun s=>(den x b).F ⟨s,p.env⟩) (x.path p.st) false false=E at *
 simp [go_sem,o51];cases E with
 |error e =>
  refine qc.pans hr wx ?_;simp [go_sem];exact .hf _ (qy _)
 |ok r =>
  refine qc.pure hr.toP wx ?_;simp [go_sem];exact .hf _ (HF.sc _)
theorem f47 (x:Mo) (N:Nat) (n:Nd) (hM:OkMa x N) (hkl:n.kids.length≤1000000) (ih:IH x N n) (p:Pl) (hp:OkP x N p) (hq:bd p n) (o47:n.op=47):qA Tryz.prog 63 [eMa x,ePl p,eNd n] (endB (bX (mapX (fun d:Den=>d.E p) (n.kids.map (den x))) fun _ => .error 45)):=by
 refine qH.of_sound ?_;refine qSW Tryz.call63 Tryz.func63 rfl {} ?_;have hMf:=q8 x;generalize hE:mapX (fun d:Den=>d.E p) (n.kids.map (den x))=E;simp [go_sem,o47];refine qk.upK n.kids.length (fun k st=>∃ acc,mapX (fun d:Den=>d.E p) ((n.kids.take k).map (den x)) = .ok acc∧st.tm 0=eMa x∧st.tm 4 = .ip (cPl p)∧st.tm 282=lNd n.kids∧st.tm 283=aI n.kids.length∧st.tm 284=aI k) ?_ ?_
 ·exact ⟨[],rfl,by simp [go_sem],by simp [go_sem],by simp [go_sem],by simp [go_sem],by simp [go_sem]⟩
 rintro k st hk ⟨acc,ha,e0,e4,e282,e283,e284⟩;by_cases hlt:k<n.kids.length
 ·have w1:IntKind.i64.wrap ((k:Int)+1)=(k:Int)+1:=qg (by omega) (by omega)
  have hF:=(ih n.kids[k] (qr hlt) p hp (by omega)).E;have hw:=wk3 x p n.kids[k];have hsp:=uR (l2:=(n.kids.drop k).map (den x)) ha;rw [←List.map_append,jW,qX hlt,List.map_cons,mapX,hE] at hsp;simp [go_sem,e0,e4,e282,e283,e284,hlt];cases ef:(den x n.kids[k]).E p with
  |error e =>
   rw [ef] at hF hsp;rw [qS,qS] at hsp;subst hsp;refine qc.pans hF hw ?_;simp [go_sem,qS];exact .hf _ (qy _)
  |ok r =>
   rw [ef] at hF;refine qc.pure hF.toP hw ?_;simp [go_sem,e0,e4,e282,e283,e284,w1];refine ⟨hlt,Keep.mk' ⟨acc++[r],?_,by simp [go_sem,e0],by simp [go_sem,e4],by simp [go_sem,e282],by simp [go_sem,e283],by simp [go_sem]⟩⟩;rw [zN hlt,List.map_append,uR ha,List.map_cons,List.map_nil,mapX,ef];rfl
 ·have hge:k=n.kids.length:=by omega
  subst hge;rw [zb,hE] at ha;subst ha;rw [qO];simp [go_sem,e0,e4,e282,e283,e284];refine qc.pans (vd 45) (wkI 45) ?_;simp [go_sem];exact .hf _ (qy _)
theorem fNo (x:Mo) (n:Nd) (p:Pl) (h:∀ k:Int,(30≤k∧k≤51)→n.op≠k):qA Tryz.prog 63 [eMa x,ePl p,eNd n] (endB (.error 43)):=by
 refine qH.of_sound ?_;refine qSW Tryz.call63 Tryz.func63 rfl {} ?_;have hMf:=q8 x;have o30:=h 30 (by decide);have o31:=h 31 (by decide);have o32:=h 32 (by decide);have o33:=h 33 (by decide);have o34:=h 34 (by decide);have o35:=h 35 (by decide);have o36:=h 36 (by decide);have o37:=h 37 (by decide);have o38:=h 38 (by decide);have o39:=h 39 (by decide);have o40:=h 40 (by decide);have o41:=h 41 (by decide);have o42:=h 42 (by decide);have o43:=h 43 (by decide);have o44:=h 44 (by decide);have o45:=h 45 (by decide);have o46:=h 46 (by decide);have o47:=h 47 (by decide);have o48:=h 48 (by decide);have o49:=h 49 (by decide);have o50:=h 50 (by decide);have o51:=h 51 (by decide);simp [go_sem,o30,o31,o32,o33,o34,o35,o36,o37,o38,o39,o40,o41,o42,o43,o44,o45,o46,o47,o48,o49,o50,o51];refine qc.pans (vd 43) (wkI 43) ?_;simp [go_sem];exact .hf _ (qy _)
end Go.Proofs.YtkglmpmlfjogkaaGreatDoor.F9


namespace Go.Proofs.YtkglmpmlfjogkaaGreatDoor.FA
open Go Go.Ev Go.Proofs Go.Proofs.YtkglmpmlfjogkaaGreatDoor Y1 Y9 P1 P2 YM YS YF E1 E2 E3 E7 EA EL EO F1 F2 F3 F4 F5 F6 F7 F8 F9
theorem zP {f:Nat} {l:List AV} {A E:XE Bool} (h:qA Tryz.prog f l (endB A)) (e:A=E):qA Tryz.prog f l (endB E):=e ▸ h
theorem qcB (x:Mo) (N:Nat) (n:Nd) (hw:WfN n) (hM:OkMa x N) (ih:IH x N n) (p:Pl) (hp:OkP x N p) (hq:bd p n) :
  qA Tryz.prog 63 [eMa x,ePl p,eNd n] (endB ((den x n).F p)):=by
 rw [Yx];show qA _ _ _ (endB (opF x n.op n.name (n.kids.map (den x)) p));by_cases o30:n.op=30
 ·exact zP (f30 x N n hw hM ih p hp hq o30) (by rw [o30];rfl)
 by_cases o31:n.op=31
 ·exact zP (f31 x N n hw hM ih p hp hq o31) (by rw [o31];rfl)
 by_cases o32:n.op=32
 ·obtain ⟨a,b,hk⟩:=yg hw (by omega)
  exact zP (f32 x N n a b hM hk ih p hp hq o32) (by rw [o32,hk];rfl)
 by_cases o33:n.op=33
 ·obtain ⟨a,b,hk⟩:=yg hw (by omega)
  exact zP (f33 x N n a b hM hk ih p hp hq o33) (by rw [o33,hk];rfl)
 by_cases o34:n.op=34
 ·obtain ⟨a,hk⟩:=jr hw (by omega)
  exact zP (f34 x N n a hM hk ih p hp hq o34) (by rw [o34,hk];rfl)
 by_cases o35:n.op=35
 ·obtain ⟨a,hk⟩:=jr hw (by omega)
  exact zP (f35 x N n a hM hk ih p hp hq o35) (by rw [o35,hk];rfl)
 by_cases o36:n.op=36
 ·obtain ⟨a,hk⟩:=jr hw (by omega)
  exact zP (f36 x N n a hM hk ih p hp hq o36) (by rw [o36,hk];rfl)
 by_cases o37:n.op=37
 ·obtain ⟨a,hk⟩:=jr hw (by omega)
  exact zP (f37 x N n a hM hk ih p hp hq o37) (by rw [o37,hk];rfl)
 by_cases o38:n.op=38
 ·obtain ⟨a,b,hk⟩:=yg hw (by omega)
  exact zP (f38 x N n a b hM hk ih p hp hq o38) (by rw [o38,hk];rfl)
 by_cases o39:n.op=39
 ·obtain ⟨a,b,hk⟩:=yg hw (by omega)
  exact zP (f39 x N n a b hM hk ih p hp hq o39) (by rw [o39,hk];rfl)
 by_cases o40:n.op=40
 ·obtain ⟨a,hk⟩:=jr hw (by omega)
  exact zP (f40 x N n a hM hk ih p hp hq o40) (by rw [o40,hk];rfl)
 by_cases o41:n.op=41
 ·obtain ⟨a,b,hk⟩:=yg hw (by omega)
  exact zP (f41 x N n a b hM hk ih p hp hq o41) (by rw [o41,hk];rfl)
 by_cases o42:n.op=42
 ·obtain ⟨a,b,hk⟩:=yg hw (by omega)
  exact zP (f42 x N n a b hM hk ih p hp hq o42) (by rw [o42,hk];rfl)
 by_cases o43:n.op=43
 ·obtain ⟨a,b,hk⟩:=yg hw (by omega)
  exact zP (f43 x N n a b hM hk ih p hp hq o43) (by rw [o43,hk];rfl)
 by_cases o44:n.op=44
 ·obtain ⟨a,b,hk⟩:=yg hw (by omega)
  exact zP (f44 x N n a b hM hk ih p hp hq o44) (by rw [o44,hk];rfl)
 by_cases o45:n.op=45
 ·obtain ⟨a,b,hk⟩:=yg hw (by omega)
  exact zP (f45 x N n a b hM hk ih p hp hq o45) (by rw [o45,hk];rfl)
 by_cases o46:n.op=46
 ·obtain ⟨a,b,hk⟩:=yg hw (by omega)
  exact zP (f46 x N n a b hM hk ih p hp hq o46) (by rw [o46,hk];rfl)
 by_cases o47:n.op=47
 ·exact zP (f47 x N n hM (by have:=hw.small.len;omega) ih p hp hq o47) (by rw [o47];rfl)
 by_cases o48:n.op=48
 ·obtain ⟨a,hk⟩:=jr hw (by omega)
  exact zP (f48 x N n a hM hk ih p hp hq o48) (by rw [o48,hk];rfl)
 by_cases o49:n.op=49
 ·obtain ⟨a,hk⟩:=jr hw (by omega)
  exact zP (f49 x N n a hM hk ih p hp hq o49) (by rw [o49,hk];rfl)
 by_cases o50:n.op=50
 ·obtain ⟨a,hk⟩:=jr hw (by omega)
  exact zP (f50 x N n a hM hk ih p hp hq o50) (by rw [o50,hk];rfl)
 by_cases o51:n.op=51
 ·obtain ⟨a,b,hk⟩:=yg hw (by omega)
  exact zP (f51 x N n a b hM hk ih p hp hq o51) (by rw [o51,hk];rfl)
 refine zP (fNo x n p fun k hk e=>?_) ?_
 ·omega
 ·unfold opF
  rw [if_neg o30,if_neg o31,if_neg o32,if_neg o33,if_neg o34,if_neg o35,if_neg o36,if_neg o37,if_neg o38,if_neg o39,if_neg o40,if_neg o41,if_neg o42,if_neg o43,if_neg o44,if_neg o45,if_neg o46,if_neg o47,if_neg o48,if_neg o49,if_neg o50,if_neg o51]
theorem evX (x:Mo) (N:Nat) (hM:OkMa x N):∀(m:Nat) (n:Nd),szN n≤m→WfN n→∀ p:Pl,OkP x N p→bd p n→Ev3 x p n
 | 0,n,hs,_,_,_,_=>by
  obtain ⟨op,nm,i,ks,q⟩:=n;simp only [szN,Nd.mk.sizeOf_spec] at hs;omega
 |m+1,n,hs,hw,p,hp,hq=>by
  have ih:IH x N n:=fun k hk p hp hq=>evX x N hM m k (by have:=zZ hk;omega) (hw.kid hk) p hp (by have:=qbN hk;show _+_≤_;omega)
  exact ⟨exprX x N n hw hM ih p hp hq,qbX x N n hw hM ih p hp hq,qcB x N n hw hM ih p hp hq,fun r h=>Ko hM.toOkM _ n (qo _) hw p r hp h⟩
end Go.Proofs.YtkglmpmlfjogkaaGreatDoor.FA


namespace Go.Proofs.YtkglmpmlfjogkaaGreatDoor.FB
open Go Go.Ev Go.Proofs Go.Proofs.YtkglmpmlfjogkaaGreatDoor Y1 Y9 P1 P2 YM YS YF E1 E2 E3 E7 EA EL EO ET F1 F2 F3 F4 F5 F6 F7 F8 F9 FA
def outE:XE Rl→AV
 | .ok r => .tup [eRel r,aI 0]
 | .error e => .tup [eRel ⟨0,[]⟩,aI e]
def outN:XE Int→AV
 | .ok r => .tup [aI r,aI 0]
 | .error e => .tup [aI 0,aI e]
def outB:XE Bool→AV
 | .ok r => .tup [aB r,aI 0]
 | .error e => .tup [aB false,aI e]
theorem wkM (x:Mo):WKs [eTS x.ts,eMd x.m] [eTS x.ts,eMd x.m] := .cons (.hf (ze x.ts)) (.cons (.hf (jD x.m)) .nil)
theorem YY (x:Mo) (N:Nat) (n:Nd) (hw:WfN n) (hM:OkMa x N) (p:Pl) (hp:OkP x N p) (hq:bd p n) :
  qi Tryz.prog 18 [eTS x.ts,eMd x.m,aI p.st,lPm p.env,eNd n] (outB ((den x n).F p)):=by
 have hf:=(evX x N hM (szN n) n (qo _) hw p hp hq).F;have wx:=wk3 x p n;generalize (den x n).F p=E at *
 refine qA.toP ?_;refine qH.of_sound ?_;refine qJ.of_awpD Tryz.call18 Tryz.func18 rfl (yZ (by kernel_rfl)) (by kernel_rfl) (pl:={}) ?_;simp [go_sem];refine vG.intro (g:=51) (first:=[]) (caps:=[]) (by simp [go_sem]) Tryz.call51 ?_;simp [go_sem];refine qd.tail 7 (by kernel_rfl) ?_;simp [go_sem];refine qc.pure (VG x hM.gsc) (wkM x) ?_;simp [go_sem];cases E with
 |error e =>
  refine qc.pans hf wx ?_;simp [go_sem];refine zz.mono (VI [.arr [aI 0]] 0 0 e rfl) ?_;rintro _ rfl;simp [go_sem];exact .hf _ (HF.tup (by simp only [qv,q9,or_false,forall_eq_or_imp,forall_eq];exact ⟨HF.sc _,HF.sc _⟩))
 |ok r =>
  refine qc.pure hf.toP wx ?_;simp [go_sem];refine zz.mono (VH [.arr [aI 0]] 0 0 rfl) ?_;rintro _ rfl;simp [go_sem];exact .hf _ (HF.tup (by simp only [qv,q9,or_false,forall_eq_or_imp,forall_eq];exact ⟨HF.sc _,HF.sc _⟩))
theorem intP (x:Mo) (N:Nat) (n:Nd) (hw:WfN n) (hM:OkMa x N) (p:Pl) (hp:OkP x N p) (hq:bd p n) :
  qi Tryz.prog 16 [eTS x.ts,eMd x.m,aI p.st,lPm p.env,eNd n] (outN ((den x n).N p)):=by
 have hf:=(evX x N hM (szN n) n (qo _) hw p hp hq).N;have wx:=wk3 x p n;generalize (den x n).N p=E at *
 refine qA.toP ?_;refine qH.of_sound ?_;refine qJ.of_awpD Tryz.call16 Tryz.func16 rfl (yZ (by kernel_rfl)) (by kernel_rfl) (pl:={}) ?_;simp [go_sem];refine vG.intro (g:=51) (first:=[]) (caps:=[]) (by simp [go_sem]) Tryz.call51 ?_;simp [go_sem];refine qd.tail 7 (by kernel_rfl) ?_;simp [go_sem];refine qc.pure (VG x hM.gsc) (wkM x) ?_;simp [go_sem];cases E with
 |error e =>
  refine qc.pans hf wx ?_;simp [go_sem];refine zz.mono (VI [.arr [aI 0]] 0 0 e rfl) ?_;rintro _ rfl;simp [go_sem];exact .hf _ (HF.tup (by simp only [qv,q9,or_false,forall_eq_or_imp,forall_eq];exact ⟨HF.sc _,HF.sc _⟩))
 |ok r =>
  refine qc.pure hf.toP wx ?_;simp [go_sem];refine zz.mono (VH [.arr [aI 0]] 0 0 rfl) ?_;rintro _ rfl;simp [go_sem];exact .hf _ (HF.tup (by simp only [qv,q9,or_false,forall_eq_or_imp,forall_eq];exact ⟨HF.sc _,HF.sc _⟩))
theorem exprP (x:Mo) (N:Nat) (n:Nd) (hw:WfN n) (hM:OkMa x N) (p:Pl) (hp:OkP x N p) (hq:bd p n) :
  qi Tryz.prog 14 [eTS x.ts,eMd x.m,aI p.st,lPm p.env,eNd n] (outE ((den x n).E p)):=by
 have hf:=(evX x N hM (szN n) n (qo _) hw p hp hq).E;have wx:=wk3 x p n;generalize (den x n).E p=E at *
 refine qA.toP ?_;refine qH.of_sound ?_;refine qJ.of_awpD Tryz.call14 Tryz.func14 rfl (yZ (by kernel_rfl)) (by kernel_rfl) (pl:={}) ?_;simp [go_sem];refine vG.intro (g:=51) (first:=[]) (caps:=[]) (by simp [go_sem]) Tryz.call51 ?_;simp [go_sem];refine qd.tail 7 (by kernel_rfl) ?_;simp [go_sem];refine qc.pure (VG x hM.gsc) (wkM x) ?_;simp [go_sem];cases E with
 |error e =>
  refine qc.pans hf wx ?_;simp [go_sem];refine zz.mono (VI [.arr [aI 0,.lst true []],.arr [aI 0]] 1 0 e rfl) ?_;rintro _ rfl;simp [go_sem];exact ui uP
 |ok r =>
  refine qc.pure hf.toP wx ?_;simp [go_sem];refine zz.mono (VH [.arr [aI r.ar,lI r.ts],.arr [aI 0]] 1 0 rfl) ?_;rintro _ rfl;simp [go_sem];exact ui (.hf _ (qN r))
end Go.Proofs.YtkglmpmlfjogkaaGreatDoor.FB


namespace Go.Proofs.YtkglmpmlfjogkaaGreatDoor.FC
open Go Go.Ev Go.Proofs Go.Proofs.YtkglmpmlfjogkaaGreatDoor Y1 Y9 P1 P2 YM YS YF E1 E2 E3 E7 EA EL EO EP F1 F2 F3 F4 F5 F6 F7 F8 F9 FA FB
def fmV:XE Bool→Bool×Int
 | .ok v=>(v,0)
 | .error e=>(false,e)
theorem V9 (q:XE Bool):outB q = .tup [aB (fmV q).1,aI (fmV q).2]:=by cases q<;>rfl
def vg (I:Nd→Nd×Int) (x:Mo):List Nd→Bool→Bool×Int
 | [],a=>(a,0)
 |b :: l,a=>if (I b).2≠0 then (false,(I b).2) else if (fmV ((den x (I b).1).F ⟨0,[]⟩)).2≠0 then (false,(fmV ((den x (I b).1).F ⟨0,[]⟩)).2) else vg I x l (a&&(fmV ((den x (I b).1).F ⟨0,[]⟩)).1)
theorem wD (xs:List Nd):qY 5 (xs.map cNd):=fun r hr=>by
 obtain ⟨n,_,rfl⟩:=qn.1 hr;exact ⟨by cases n;rfl,wC n⟩
theorem put6 (a:ByteArray) (n:Nd):putCells [aS ⟨#[]⟩,aI 0,aS ⟨#[]⟩,aI 0,.lst true [],aI 0] 0 (aS a :: cNd n)=aS a :: cNd n:=by cases n;rfl
theorem qcC (x:Mo) (N:Nat) (hM:OkMa x N) (hN:0<N) (I:Nd→Nd×Int) (n:Nd) (hl:x.ts.facts.length≤1000) (hI:∀ b,b∈x.ts.facts.map Prod.snd++[n]→qi Tryz.prog 71 [eTS x.ts,eNd b] (.tup [eNd (I b).1,aI (I b).2])∧((I b).2=0→WfN (I b).1∧dN (I b).1≤999999)) :
  qi Tryz.prog 23 [eTS x.ts,eMd x.m,eNd n] (.tup [aB (vg I x (x.ts.facts.map Prod.snd++[n]) true).1,aI (vg I x (x.ts.facts.map Prod.snd++[n]) true).2]):=by
 generalize hR:vg I x (x.ts.facts.map Prod.snd++[n]) true=R;refine qSQ Tryz.call23 Tryz.func23 rfl {} ?_;simp [go_sem];refine qk.upK x.ts.facts.length (fun k st=>st.tm 3 = .ip (cTS x.ts)∧st.tm 4 = .ip (cMd x.m)∧st.tm 5 = .ip (cNd n)∧st.tm 8=aB true∧st.tm 18=lFa x.ts.facts∧st.tm 19=aI x.ts.facts.length∧st.tm 20=aI k∧Own st.mu 5 (st.tm 9) (((x.ts.facts.take k).map Prod.snd).map cNd)) ?_ ?_
 ·exact ⟨by simp [go_sem],by simp [go_sem],by simp [go_sem],by simp [go_sem],by simp [go_sem],by simp [go_sem],by simp [go_sem],.inl (by simp [go_sem])⟩
 rintro k st hk ⟨e3,e4,e5,e8,e18,e19,e20,ho⟩;by_cases hlt:k<x.ts.facts.length
 ·have w1:IntKind.i64.wrap ((k:Int)+1)=(k:Int)+1:=qg (by omega) (by omega)
  simp [go_sem,e3,e4,e5,e8,e18,e19,e20,hlt,qj,put6];refine qz.ownB (e:=37) (sz:=5) (bt:=64) (zv := .agg [aI 0,aS ⟨#[]⟩,aI 0,.lst true [],aI 0]) (xs:=((x.ts.facts.take k).map Prod.snd).map cNd) (ys:=[cNd x.ts.facts[k].2]) (by simp [go_sem]) (by simp [go_sem]) (by simp [go_sem]) rfl rfl (by omega) (by omega) (Own.push ho _) (by simp [qE]) (wD _) (wD [_]) (by simp;omega) ?_;intro av' mu' ho' _ _ _;simp [go_sem,e3,e4,e5,e8,e18,e19,e20,hlt,w1,Own.one ho'];refine Keep.mk' ⟨by simp [go_sem,e3],by simp [go_sem,e4],by simp [go_sem,e5],by simp [go_sem,e8],by simp [go_sem,e18],by simp [go_sem,e19],by simp [go_sem],?_⟩;rw [zN hlt,List.map_append,List.map_append];simpa [go_sem] using ho'
 ·have hge:k=x.ts.facts.length:=by omega
  subst hge;rw [zb] at ho;simp [go_sem,e3,e4,e5,e8,e18,e19,e20];refine qz.ownB (e:=37) (sz:=5) (bt:=64) (zv := .agg [aI 0,aS ⟨#[]⟩,aI 0,.lst true [],aI 0]) (xs:=(x.ts.facts.map Prod.snd).map cNd) (ys:=[cNd n]) (by simp [go_sem]) (by simp [go_sem]) (by simp [go_sem]) rfl rfl (by omega) (by omega) ho (by simp [qE]) (wD _) (wD [_]) (by simp;omega) ?_;intro av' mu' ho' _ _ _;have ho2:Own mu' 5 av' ((x.ts.facts.map Prod.snd++[n]).map cNd):=by rw [List.map_append];exact ho'
  have hlb:(x.ts.facts.map Prod.snd++[n]).length≤1001:=by simp;omega
  generalize x.ts.facts.map Prod.snd++[n]=L at *
  simp [go_sem,e3,e4,e5,e8,Own.one ho2];refine OptK.intro (aI L.length) (by rcases ho2 with h | ⟨b,h,_⟩<;>rw [h]<;>simp) ?_;simp [go_sem,e3,e4,e5,e8];refine qk.fz ?_;refine FzQ.ownB (d:=33) (by simp [go_sem]) ho2 (wD L) (fun r hr c hc=>?_) fun mu2 full _ _=>?_
  ·obtain ⟨b,_,rfl⟩:=qn.1 hr
   exact jz b c hc
  refine qk.upK L.length (fun k st=>∃ a,st.tm 3 = .ip (cTS x.ts)∧st.tm 4 = .ip (cMd x.m)∧st.tm 8=aB a∧st.tm 33 = .lst full (L.map cNd)∧st.tm 34=aI L.length∧st.tm 35=aI k∧vg I x (L.drop k) a=R) ?_ ?_
  ·exact ⟨true,by simp [go_sem,e3],by simp [go_sem,e4],by simp [go_sem,e8],by simp [go_sem],by simp [go_sem],by simp [go_sem],hR⟩
  rintro k st hk ⟨a,f3,f4,f8,f33,f34,f35,hV⟩;by_cases hlt:k<L.length
  ·have w1:IntKind.i64.wrap ((k:Int)+1)=(k:Int)+1:=qg (by omega) (by omega)
   obtain ⟨hi,hwf⟩:=hI L[k] (qr hlt);rw [qX hlt,vg] at hV;have wi:WKs [eTS x.ts,eNd L[k]] [eTS x.ts,eNd L[k]] := .cons (.hf (ze _)) (.cons (.hf (qB _)) .nil);simp [go_sem,f3,f4,f8,f33,f34,f35,hlt,qj];refine qc.pure hi wi ?_;generalize hIb:I L[k]=ib at *
   obtain ⟨b',e'⟩:=ib;by_cases he:e'=0
   ·subst he
    obtain ⟨hwb,hsb⟩:=hwf rfl;replace hsb:dN b'≤999999:=hsb;rw [if_neg (by simp)] at hV;have hf:=YY x N b' hwb hM ⟨0,[]⟩ ⟨hN,by simp⟩ (by show 0+_≤_;omega);have wf:WKs [eTS x.ts,eMd x.m,aI (0:Nat),.lst true [],eNd b'] [eTS x.ts,eMd x.m,aI (0:Nat),lPm [],eNd b'] := .cons (.hf (ze _)) (.cons (.hf (jD _)) (.cons (.hf (HF.sc _)) (.cons (WK.lst fun r hr=>absurd hr q9) (.cons (.hf (qB _)) .nil))));rw [V9] at hf;simp only at hV;generalize fmV ((den x b').F ⟨0,[]⟩)=q at *
    obtain ⟨v,e2⟩:=q;simp [go_sem,f3,f4,f8,f33,f34,f35,hlt,qj];refine qc.pure hf wf ?_;by_cases he2:e2=0
    ·subst he2
     rw [if_neg (by simp)] at hV;cases a<;>cases v
     all_goals simp [go_sem,f3,f4,f8,f33,f34,f35,hlt,qj,w1]
     all_goals exact Keep.mk' ⟨_,by simp [go_sem,f3],by simp [go_sem,f4],by simp [go_sem],by simp [go_sem,f33],by simp [go_sem,f34],by simp [go_sem],hV⟩
    ·rw [if_pos he2] at hV
     subst hV;simp [go_sem,he2];exact .hf _ (HF.tup (by simp only [qv,q9,or_false,forall_eq_or_imp,forall_eq];exact ⟨HF.sc _,HF.sc _⟩))
   ·rw [if_pos he] at hV
    subst hV;simp [go_sem,he];exact .hf _ (HF.tup (by simp only [qv,q9,or_false,forall_eq_or_imp,forall_eq];exact ⟨HF.sc _,HF.sc _⟩))
  ·have hge:k=L.length:=by omega
   subst hge;rw [List.drop_length,vg] at hV;subst hV;simp [go_sem,f3,f4,f8,f33,f34,f35];exact .hf _ (HF.tup (by simp only [qv,q9,or_false,forall_eq_or_imp,forall_eq];exact ⟨HF.sc _,HF.sc _⟩))
end Go.Proofs.YtkglmpmlfjogkaaGreatDoor.FC


namespace Go.Proofs.YtkglmpmlfjogkaaGreatDoor.E9
open Go Go.Ev Go.Proofs Go.Proofs.YtkglmpmlfjogkaaGreatDoor P1 YM YS YF E1 E3 E4
theorem Zs (sc:Sc) (g:GSc sc):qi Tryz.prog 22 [eSc sc] (aI (sumI sc.atoms)):=by
 refine qSQ Tryz.call22 Tryz.func22 rfl {} ?_;simp [go_sem];refine qk.up sc.atoms.length (fun k st=>st.tm 1 = .ip [lI sc.atoms,aI sc.steps]∧st.tm 3=aI (sumI (sc.atoms.take k))∧st.tm 4=aI k∧st.mu=[]) ?_ ?_
 ·simp [go_sem,sumI]
 rintro k st hk ⟨h1,h3,h4,hm⟩;have hl:=g.1;simp [go_sem,h1,h3,h4,hm];refine BrS.intro (fun hlt=>?_) (fun hge=>?_)
 ·have hlt:k<sc.atoms.length:=by simpa using hlt
  have hs:=uF sc.atoms k hlt;have hb':=g.sum (k+1);rw [hs] at hb';simp [go_sem,h1,h3,h4,hm,hlt];exact ⟨by rw [hs,qg (by omega) (by omega)],qg (by omega) (by omega)⟩
 ·have hge:k=sc.atoms.length:=by simp at hge;omega
  subst hge;simp [go_sem,h1,h3,h4,hm];exact .hf _ (HF.sc _)
def uT:List Int→Int→Int→Int
 | [],_,_ => -1
 |a :: l,x,i=>if x<a then i else uT l (x-a) (i+1)
def wP (sc:Sc) (x:Int):Int:=uT sc.atoms x 0
theorem qcD (l:List Int) (k:Nat) (x i:Int) (h:k<l.length):uT (l.drop k) x i=if x<l[k] then i else uT (l.drop (k+1)) (x-l[k]) (i+1):=by
 rw [qX h,uT]
theorem qcE (sc:Sc) (g:GSc sc) (x:Int) (hx : -1000000≤x∧x≤1000000):qi Tryz.prog 156 [eSc sc,aI x] (aI (wP sc x)):=by
 refine qSQ Tryz.call156 Tryz.func156 rfl {} ?_;simp [go_sem];refine qk.up sc.atoms.length (fun k st=>st.tm 2 = .ip [lI sc.atoms,aI sc.steps]∧st.tm 5=aI k∧st.mu=[]∧∃ y,st.tm 1=aI y∧uT (sc.atoms.drop k) y k=wP sc x∧y+5*k ≥ x∧y≤x) ?_ ?_
 ·simp [go_sem,wP]
 rintro k st hk ⟨h1,h3,hm,y,h4,hy,hy1,hy2⟩;have hl:=g.1;simp [go_sem,h1,h3,h4,hm];refine BrS.intro (fun hlt=>?_) (fun hge=>?_)
 ·have hlt:k<sc.atoms.length:=by simpa using hlt
  have hg:=g.get hlt;rw [qcD _ _ _ _ hlt] at hy;simp [go_sem,h1,h3,h4,hm,hlt];refine BrS.intro (fun hb=>?_) (fun hb=>?_)
  ·simp [go_sem,h1,h3,h4,hm,hlt]
   simp at hb;rw [if_pos hb] at hy;rw [←hy];exact .hf _ (HF.sc _)
  ·simp [go_sem,h1,h3,h4,hm,hlt]
   simp at hb;rw [if_neg (by omega)] at hy;rw [qg (by omega) (by omega),qg (by omega) (by omega)];exact ⟨rfl,hy,by omega,by omega⟩
 ·have hge:k=sc.atoms.length:=by simp at hge;omega
  subst hge;simp [go_sem,h1,h3,h4,hm];simp [uT] at hy;rw [←hy];exact .hf _ (HF.sc _)
def je (sp:Sp) (sc:Sc):Bool:=decide (sc.atoms.length=sp.sorts.length)&&decide (sp.sorts.length≤4)&&decide (1≤sc.steps)&&decide (sc.steps≤4)&&sc.atoms.all (fun a=>decide (1≤a)&&decide (a≤5))&&decide (sumI sc.atoms≤12)
theorem qcF (sp:Sp) (sc:Sc) (ha:sc.atoms.length≤9223372036854775807):qi Tryz.prog 88 [eSp sp,eSc sc] (aB (je sp sc)):=by
 refine qSQ Tryz.call88 Tryz.func88 rfl {} ?_;by_cases h1:sc.atoms.length=sp.sorts.length
 case neg =>
  simp [go_sem,h1,je];exact .hf _ (HF.sc _)
 by_cases h2:(4:Int)<sp.sorts.length
 case pos =>
  simp [go_sem,h1,h2,je,show ¬sp.sorts.length≤4 by omega];exact .hf _ (HF.sc _)
 by_cases h3:sc.steps<1
 case pos =>
  simp [go_sem,h1,h2,h3,je,show ¬ 1≤sc.steps by omega];exact .hf _ (HF.sc _)
 by_cases h4:4<sc.steps
 case pos =>
  simp [go_sem,h1,h2,h3,h4,je,show ¬sc.steps≤4 by omega];exact .hf _ (HF.sc _)
 simp [go_sem,h1,h2,h3,h4];refine qk.up sc.atoms.length (fun k st=>st.tm 3 = .ip [lI sc.atoms,aI sc.steps]∧st.tm 5=aI k∧st.mu=[]∧∀(i:Nat) (h:i<sc.atoms.length),i<k→1≤sc.atoms[i]∧sc.atoms[i]≤5) ?_ ?_
 ·simp [go_sem]
 rintro k st hk ⟨e3,e5,hm,he⟩;by_cases hlt:k<sc.atoms.length
 ·by_cases hb:sc.atoms[k]<1∨5<sc.atoms[k]
  ·have:sc.atoms.all (fun a=>decide (1≤a)&&decide (a≤5))=false:=by
    rw [←Bool.not_eq_true,List.all_eq_true];intro hall;have:=hall _ (qr hlt);simp at this;omega
   have:je sp sc=false:=by simp only [je,this,Bool.and_false,Bool.false_and]
   rw [this];by_cases hb1:sc.atoms[k]<1
   ·simp [go_sem,e3,e5,hm,hlt,hb1]
    exact .hf _ (HF.sc _)
   ·simp [go_sem,e3,e5,hm,hlt,hb1,show 5<sc.atoms[k] by omega]
    exact .hf _ (HF.sc _)
  ·simp [go_sem,e3,e5,hm,hlt,show ¬sc.atoms[k]<1 by omega,show ¬ 5<sc.atoms[k] by omega]
   refine ⟨qg (by omega) (by omega),fun i h hi=>?_⟩;rcases Nat.lt_succ_iff_lt_or_eq.1 hi with h2 | h2
   ·exact he i h h2
   ·subst h2;exact ⟨by omega,by omega⟩
 ·have hge:k=sc.atoms.length:=by omega
  subst hge;have hall:sc.atoms.all (fun a=>decide (1≤a)&&decide (a≤5))=true:=by
   rw [List.all_eq_true];intro a ha;obtain ⟨i,hi,rfl⟩:=ZJ ha;have:=he i hi hi;simp;omega
  have g:GSc sc:=⟨by omega,fun a ha=>by
   have:=List.all_eq_true.1 hall a ha;simp at this;omega⟩
  simp [go_sem,e3,e5,hm];refine qc.pure (Zs sc g) (.cons (.hf (yK sc)) .nil) ?_;simp [go_sem,e3,e5,hm];simp only [je,h1,hall,show sp.sorts.length≤4 by omega,show 1≤sc.steps by omega,show sc.steps≤4 by omega];simp;exact .hf _ (HF.sc _)
def vR (sc:Sc) (n:Int):List Int→Int→Bool
 | [],_=>true
 |s :: l,x=>decide (wP sc (x % n)=s)&&vR sc n l (x / n)
theorem qcG (sc:Sc) (n:Int) (l:List Int) (k:Nat) (x:Int) (h:k<l.length):vR sc n (l.drop k) x=(decide (wP sc (x % n)=l[k])&&vR sc n (l.drop (k+1)) (x / n)):=by
 rw [qX h,vR]
def divN (n x:Int):Nat→Int
 | 0=>x
 |j+1=>divN n x j / n
theorem Ua {n x m:Int} (hn:1≤n) (h0:0≤x) (hm:x≤m):∀ j,0≤divN n x j∧divN n x j≤m
 | 0=>⟨h0,hm⟩
 |j+1=>by
  have ih:=Ua hn h0 hm j;have d0:0≤divN n x j / n:=Int.ediv_nonneg ih.1 (by omega);have d1:divN n x j / n≤divN n x j:=Int.ediv_le_self n ih.1;exact ⟨d0,Int.le_trans d1 ih.2⟩
def uU (sc:Sc) (sorts:List Int) (r:Rl):Bool:=r.ts.all (fun t=>vR sc (max 1 (sumI sc.atoms)) sorts.reverse t)
theorem qcH (sc:Sc) (g:GSc sc) (sorts:List Int) (hs:sorts.length≤1000) (r:Rl) (hl:r.ts.length≤9223372036854775807) (hr:∀ t,t∈r.ts→0≤t∧t≤1000000) :
  qi Tryz.prog 90 [eSc sc,lI sorts,eRel r] (aB (uU sc sorts r)):=by
 refine qSQ Tryz.call90 Tryz.func90 rfl {} ?_;simp [go_sem];refine qc.pure (Zs sc g) (.cons (.hf (yK sc)) .nil) ?_;simp [go_sem];have hsum:=g.sum sc.atoms.length;rw [zb] at hsum;generalize hn:max 1 (sumI sc.atoms)=n;have hn1:1≤n∧n≤20:=by omega
 refine qk.up r.ts.length (fun k st=>st.tm 3 = .ip [lI sc.atoms,aI sc.steps]∧st.tm 5 = .ip [aI r.ar,lI r.ts]∧st.tm 1=lI sorts∧st.tm 7=aI n∧st.tm 8=aI k∧st.mu=[]∧∀(i:Nat) (h:i<r.ts.length),i<k→vR sc n sorts.reverse r.ts[i]=true) ?_ ?_
 ·simp [go_sem]
  omega
 rintro k st hk ⟨e3,e5,e1,e7,e8,hm,he⟩;by_cases hlt:k<r.ts.length
 ·have hrk:=hr _ (qr hlt)
  simp [go_sem,e3,e5,e1,e7,e8,hm,hlt];refine qk.up sorts.length (fun j st=>st.tm 3 = .ip [lI sc.atoms,aI sc.steps]∧st.tm 5 = .ip [aI r.ar,lI r.ts]∧st.tm 1=lI sorts∧st.tm 7=aI n∧st.tm 8=aI k∧st.mu=[] ∧
   st.tm 9=aI (divN n r.ts[k] j)∧st.tm 10=aI (sorts.length-1-j)∧vR sc n (sorts.reverse.drop j) (divN n r.ts[k] j)=vR sc n sorts.reverse r.ts[k]) ?_ ?_
  ·simp [go_sem,e3,e5,e1,e7,e8,hm,divN]
   exact qg (by omega) (by omega)
  rintro j st hj ⟨f3,f5,f1,f7,f8,fm,f9,f10,hy⟩;have hyb:=Ua hn1.1 hrk.1 hrk.2 j;have hyb':=Ua hn1.1 hrk.1 hrk.2 (j+1);rw [divN] at hyb';generalize hye:divN n r.ts[k] j=y at *
  generalize hc:(sorts.length:Int)-1-j=c at *
  by_cases hjl:j<sorts.length
  ·have hjl':j<sorts.reverse.length:=by simpa using hjl
   rw [qcG _ _ _ _ _ hjl'] at hy;have hyd:y.tdiv n=y / n:=Int.tdiv_eq_ediv_of_nonneg hyb.1;have hym:y.tmod n=y % n:=Int.tmod_eq_emod_of_nonneg hyb.1;have m0:=Int.emod_nonneg y (show n≠0 by omega);have m1:=Int.emod_lt_of_pos y (show 0<n by omega);have hc0:0≤c:=by omega
   have hc1:c<sorts.length:=by omega
   have hcl:c.toNat=sorts.length-1-j:=by omega
   have hcl':sorts.length-1-j<sorts.length:=by omega
   have hrev:sorts.reverse[j]=sorts[sorts.length-1-j]:=by simp
   rw [hrev] at hy;simp [go_sem,f3,f5,f1,f7,f8,f9,f10,fm,hc0];refine qd.intro (by kernel_rfl) ?_;simp [go_sem,f3,f5,f1,f7,f8,f9,f10,fm,show n≠0 by omega,hym];refine qc.pure (qcE sc g (y % n) (by omega)) (.cons (.hf (yK sc)) (.cons (.hf (HF.sc _)) .nil)) ?_;by_cases hs:wP sc (y % n)=sorts[sorts.length-1-j]
   ·simp [go_sem,f3,f5,f1,f7,f8,f9,f10,fm,hc0,hc1,hcl,hcl',hs,show n≠0 by omega,hyd]
    refine ⟨hjl,?_,?_,?_⟩
    ·rw [divN,hye,qg (by omega) (by omega)]
    ·rw [qg (by omega) (by omega)];omega
    ·rw [divN,hye];simpa [hs] using hy
   ·simp [go_sem,f3,f5,f1,f7,f8,f9,f10,fm,hc0,hc1,hcl,hcl',hs]
    have:uU sc sorts r=false:=by
     rw [uU,←Bool.not_eq_true,List.all_eq_true,hn];intro hall;have:=hall _ (qr hlt);rw [←hy] at this;simp [hs] at this
    rw [this];exact .hf _ (HF.sc _)
  ·have hje:j=sorts.length:=by omega
   subst hje;simp [go_sem,f3,f5,f1,f7,f8,f9,f10,fm,show ¬ 0≤c by omega];refine ⟨hlt,qg (by omega) (by omega),fun i h hi=>?_⟩;rcases Nat.lt_succ_iff_lt_or_eq.1 hi with h2 | h2
   ·exact he i h h2
   ·subst h2
    rw [←hy,List.drop_of_length_le (by simp),vR]
 ·have hge:k=r.ts.length:=by omega
  subst hge;simp [go_sem,e3,e5,e1,e7,e8,hm];have:uU sc sorts r=true:=by
   rw [uU,List.all_eq_true,hn];intro t ht;obtain ⟨i,hi,rfl⟩:=ZJ ht;exact he i hi hi
  rw [this];exact .hf _ (HF.sc _)
theorem Ub {α:Type} {l:List α} {p:α→Bool}:l.all p=true↔∀(i:Nat) (h:i<l.length),p l[i]=true:=by
 rw [List.all_eq_true];refine ⟨fun h i hi=>h _ (qr hi),fun h a ha=>?_⟩;obtain ⟨i,hi,rfl⟩:=ZJ ha;exact h i hi
theorem qcI {α:Type} {l:List α} {p:α→Bool} {i:Nat} (h:i<l.length) (hp:p l[i]=false):l.all p=false:=by
 rw [←Bool.not_eq_true,Ub];intro h';have:=h' i h;simp [hp] at this
def vS (sp:Sp) (f:Fld):Bool:=f.sorts.all (fun s=>decide (0≤s)&&decide (s<sp.sorts.length))&&decide (1≤f.sorts.length)&&decide (f.sorts.length≤3)
theorem qcJ {n:Int} {r:Rl} (h:yL n r=true):∀ t,t∈r.ts→0≤t∧t≤1000000:=by
 intro t ht;simp only [yL,Bool.and_eq_true,decide_eq_true_eq,List.all_eq_true] at h;obtain ⟨⟨⟨⟨⟨h1,h2⟩,h3⟩,h4⟩,h5⟩,_⟩:=h;have h6:=h5 t ht;have h7:=Yu h1 (by omega) (powN r.ar) (by unfold powN;omega);unfold powI at h6;omega
theorem Uc {sp:Sp} {sc:Sc} (h:je sp sc=true):GSc sc:=by
 simp only [je,Bool.and_eq_true,decide_eq_true_eq,List.all_eq_true] at h;obtain ⟨⟨⟨⟨⟨h1,h2⟩,h3⟩,h4⟩,h5⟩,_⟩:=h;exact ⟨by omega,fun a ha=>by have:=h5 a ha;omega⟩
abbrev ipSp (sp:Sp):AV := .ip [.lst false (sp.sorts.map ww),.lst false (sp.fields.map j6),.lst false sp.preds,.lst false sp.facts]
abbrev ipMd (m:Md):AV := .ip (cMd m)
structure Ud (sp:Sp) (m:Md):Prop where
 ns:sp.sorts.length≤10
 nf:sp.fields.length≤10
 nt:m.states.length≤64
 na:m.sc.atoms.length≤10
 st:∀(i:Nat) (h:i<m.states.length),m.states[i].length≤10∧∀(j:Nat) (h':j<m.states[i].length),(m.states[i][j]).ts.length≤200
 fs:∀(i:Nat) (h:i<sp.fields.length),(sp.fields[i]).sorts.length≤10
def wQ (sp:Sp) (m:Md):Bool:=decide (sp.sorts.length≤10)&&decide (sp.fields.length≤10)&&decide (m.states.length≤64)&&decide (m.sc.atoms.length≤10) &&
 (m.states.all fun s=>decide (s.length≤10)&&s.all fun r=>decide (r.ts.length≤200))&&sp.fields.all fun f=>decide (f.sorts.length≤10)
theorem Ue {sp:Sp} {m:Md}:wQ sp m=true↔Ud sp m:=by
 simp only [wQ,Bool.and_eq_true,decide_eq_true_eq,Ub];constructor
 ·rintro ⟨⟨⟨⟨⟨h1,h2⟩,h3⟩,h4⟩,h5⟩,h6⟩
  exact ⟨h1,h2,h3,h4,h5,h6⟩
 ·rintro ⟨h1,h2,h3,h4,h5,h6⟩
  exact ⟨⟨⟨⟨⟨h1,h2⟩,h3⟩,h4⟩,h5⟩,h6⟩
theorem uV {sp:Sp} {m:Md} (h:¬Ud sp m):wQ sp m=false:=by
 rw [←Bool.not_eq_true,Ue];exact h
theorem qcK (sp:Sp) (m:Md):qi Tryz.prog 44 [eSp sp,eMd m] (aB (wQ sp m)):=by
 refine qSQ Tryz.call44 Tryz.func44 rfl {} ?_;simp [go_sem];by_cases h1:(10:Int)<sp.sorts.length
 ·simp [go_sem,h1]
  rw [uV fun h=>by have:=h.ns;omega];exact .hf _ (HF.sc _)
 by_cases h2:(10:Int)<sp.fields.length
 ·simp [go_sem,h1,h2]
  rw [uV fun h=>by have:=h.nf;omega];exact .hf _ (HF.sc _)
 by_cases h3:(64:Int)<m.states.length
 ·simp [go_sem,h1,h2,h3]
  rw [uV fun h=>by have:=h.nt;omega];exact .hf _ (HF.sc _)
 by_cases h4:(10:Int)<m.sc.atoms.length
 ·simp [go_sem,h1,h2,h3,h4]
  rw [uV fun h=>by have:=h.na;omega];exact .hf _ (HF.sc _)
 simp [go_sem,h1,h2,h3,h4];refine qk.up m.states.length (fun k st=>st.tm 2=ipSp sp∧st.tm 3=ipMd m∧st.tm 5=aI k∧st.mu=[]∧∀(i:Nat) (h:i<m.states.length),i<k→m.states[i].length≤10∧∀(j:Nat) (h':j<m.states[i].length),(m.states[i][j]).ts.length≤200) ?_ ?_
 ·simp [go_sem]
 rintro k st hk ⟨e2,e3,e5,hm,he⟩;by_cases hlt:k<m.states.length
 ·simp [go_sem,e2,e3,e5,hm,hlt]
  by_cases h5:(10:Int)<m.states[k].length
  ·simp [go_sem,e2,e3,e5,hm,hlt,h5]
   rw [uV fun h=>by have:=(h.st k hlt).1;omega];exact .hf _ (HF.sc _)
  simp [go_sem,e2,e3,e5,hm,hlt,h5];refine qk.up m.states[k].length (fun j st=>st.tm 2=ipSp sp∧st.tm 3=ipMd m∧st.tm 5=aI k∧st.tm 6=aI j∧st.mu=[]∧∀(i:Nat) (h:i<m.states[k].length),i<j→(m.states[k][i]).ts.length≤200) ?_ ?_
  ·simp [go_sem,e2,e3,e5,hm]
  clear e2 e3 e5 hm st;rintro j st hj ⟨e2,e3,e5,e6,hm,he2⟩;by_cases hjl:j<m.states[k].length
  ·by_cases h6:(200:Int)<(m.states[k][j]).ts.length
   ·simp [go_sem,e2,e3,e5,e6,hm,hlt,hjl,h6]
    rw [uV fun h=>by have:=(h.st k hlt).2 j hjl;omega];exact .hf _ (HF.sc _)
   simp [go_sem,e2,e3,e5,e6,hm,hlt,hjl,h6];refine ⟨qg (by omega) (by omega),fun i h hi=>?_⟩;rcases Nat.lt_succ_iff_lt_or_eq.1 hi with h7 | h7
   ·exact he2 i h h7
   ·subst h7;omega
  ·have hje:j=m.states[k].length:=by omega
   simp [go_sem,e2,e3,e5,e6,hm,hlt,hjl];refine ⟨qg (by omega) (by omega),fun i h hi=>?_⟩;rcases Nat.lt_succ_iff_lt_or_eq.1 hi with h7 | h7
   ·exact he i h h7
   ·subst h7;exact ⟨by omega,fun q hq=>he2 q hq (by omega)⟩
 ·have hst:∀(i:Nat) (h:i<m.states.length),m.states[i].length≤10∧∀(j:Nat) (h':j<m.states[i].length),(m.states[i][j]).ts.length≤200:=fun i h=>he i h (by omega)
  simp [go_sem,e2,e3,e5,hm,hlt];refine qk.up sp.fields.length (fun k st=>st.tm 2=ipSp sp∧st.tm 7=aI k∧st.mu=[]∧∀(i:Nat) (h:i<sp.fields.length),i<k→(sp.fields[i]).sorts.length≤10) ?_ ?_
  ·simp [go_sem,e2,hm]
  clear e2 e3 e5 hm he st;rintro j st hj ⟨e2,e7,hm,he⟩;by_cases hjl:j<sp.fields.length
  ·by_cases h6:(10:Int)<(sp.fields[j]).sorts.length
   ·simp [go_sem,e2,e7,hm,hjl,h6]
    rw [uV fun h=>by have:=h.fs j hjl;omega];exact .hf _ (HF.sc _)
   simp [go_sem,e2,e7,hm,hjl,h6];refine ⟨qg (by omega) (by omega),fun i h hi=>?_⟩;rcases Nat.lt_succ_iff_lt_or_eq.1 hi with h7 | h7
   ·exact he i h h7
   ·subst h7;omega
  ·simp [go_sem,e2,e7,hm,hjl]
   rw [Ue.2 ⟨by omega,by omega,by omega,by omega,hst,fun i h=>he i h (by omega)⟩];exact .hf _ (HF.sc _)
theorem qcL (sp:Sp) (f:Fld) (hl:f.sorts.length≤9223372036854775807):qi Tryz.prog 89 [eSp sp,Xc f] (aB (vS sp f)):=by
 refine qSQ Tryz.call89 Tryz.func89 rfl {} ?_;simp [go_sem];refine qk.up f.sorts.length (fun k st=>st.tm 2 = .ip [.lst false (sp.sorts.map ww),.lst false (sp.fields.map j6),.lst false sp.preds,.lst false sp.facts]∧st.tm 3 = .ip (j6 f)∧st.tm 5=aI k∧st.mu=[]∧∀(i:Nat) (h:i<f.sorts.length),i<k→0≤f.sorts[i]∧f.sorts[i]<sp.sorts.length) ?_ ?_
 ·simp [go_sem]
 rintro k st hk ⟨e2,e3,e5,hm,he⟩;by_cases hlt:k<f.sorts.length
 ·have bad:¬(0≤f.sorts[k]∧f.sorts[k]<sp.sorts.length)→vS sp f=false:=by
   intro hb;have:=qcI (l:=f.sorts) (i:=k) (p:=fun s=>decide (0≤s)&&decide (s<sp.sorts.length)) hlt (by simp;omega);simp only [vS,this,Bool.false_and]
  simp [go_sem,e2,e3,e5,hm,hlt];refine qd.intro (by kernel_rfl) ?_;by_cases ha:f.sorts[k]<0
  ·simp [go_sem,e2,e3,e5,hm,hlt,ha]
   rw [bad (by omega)];exact .hf _ (HF.sc _)
  by_cases hb:(sp.sorts.length:Int)≤f.sorts[k]
  ·simp [go_sem,e2,e3,e5,hm,hlt,ha,hb]
   rw [bad (by omega)];exact .hf _ (HF.sc _)
  simp [go_sem,e2,e3,e5,hm,hlt,ha,hb];refine ⟨qg (by omega) (by omega),fun i h hi=>?_⟩;rcases Nat.lt_succ_iff_lt_or_eq.1 hi with h2 | h2
  ·exact he i h h2
  ·subst h2;exact ⟨by omega,by omega⟩
 ·have hge:k=f.sorts.length:=by omega
  subst hge;have hall:f.sorts.all (fun s=>decide (0≤s)&&decide (s<sp.sorts.length))=true:=Ub.2 fun i hi=>by simpa using he i hi hi
  by_cases h1:(1:Int)≤f.sorts.length
  ·have h1':1≤f.sorts.length:=by omega
   by_cases h2:(f.sorts.length:Int)≤3
   ·have h2':f.sorts.length≤3:=by omega
    simp [go_sem,e2,e3,e5,hm,h1,h2];simp only [vS,hall,h1',h2'];exact .hf _ (HF.sc _)
   ·have h2':¬f.sorts.length≤3:=by omega
    simp [go_sem,e2,e3,e5,hm,h1,h2];simp only [vS,hall,h1',h2'];exact .hf _ (HF.sc _)
  ·have h1':¬ 1≤f.sorts.length:=by omega
   simp [go_sem,e2,e3,e5,hm,h1];simp only [vS,hall,h1'];exact .hf _ (HF.sc _)
noncomputable def dec (p:Prop):Bool:=@decide p (Classical.propDecidable p)
theorem qcM {p:Prop} (h:p):dec p=true:=@decide_eq_true p (Classical.propDecidable p) h
theorem jS {p:Prop} (h:¬p):dec p=false:=@decide_eq_false p (Classical.propDecidable p) h
def Zt (sp:Sp) (m:Md) (s i:Nat) (hs:s<m.states.length) (hi:i<sp.fields.length) (h:m.states[s].length=sp.fields.length):Prop:=
 m.states[s][i].ar=sp.fields[i].sorts.length∧yL (sumI m.sc.atoms) m.states[s][i]=true∧uU m.sc sp.fields[i].sorts m.states[s][i]=true∧(sp.fields[i].var=false→(m.states[0]?.bind (·[i]?))=some m.states[s][i])
structure MVal (sp:Sp) (m:Md):Prop where
 sc:je sp m.sc=true
 ns:(m.states.length:Int)=m.sc.steps
 l0:0≤m.loop
 l1:m.loop<m.sc.steps
 fld:∀(i:Nat) (h:i<sp.fields.length),vS sp sp.fields[i]=true
 len:∀(s:Nat) (h:s<m.states.length),m.states[s].length=sp.fields.length
 cell:∀(s i:Nat) (hs:s<m.states.length) (hi:i<sp.fields.length),Zt sp m s i hs hi (len s hs)
theorem qcN (sp:Sp) (m:Md) (hsm:Ud sp m):qi Tryz.prog 45 [eSp sp,eMd m] (aB (dec (MVal sp m))):=by
 refine qSQ Tryz.call45 Tryz.func45 rfl {} ?_;simp [go_sem];refine qc.pure (qcF sp m.sc (by have:=hsm.na;omega)) (.cons (.hf (Xd sp)) (.cons (.hf (yK m.sc)) .nil)) ?_;by_cases h1:je sp m.sc=true
 case neg =>
  rw [jS fun h=>h1 h.sc];simp [go_sem,h1];exact .hf _ (HF.sc _)
 have g:=Uc h1;by_cases h2:(m.states.length:Int)=m.sc.steps
 case neg =>
  rw [jS fun h=>h2 h.ns];simp [go_sem,h1,h2];exact .hf _ (HF.sc _)
 by_cases h3:m.loop<0
 ·rw [jS fun h=>by have:=h.l0;omega]
  simp [go_sem,h1,h2,h3];exact .hf _ (HF.sc _)
 by_cases h4:m.sc.steps≤m.loop
 ·rw [jS fun h=>by have:=h.l1;omega]
  simp [go_sem,h1,h2,h3,h4];exact .hf _ (HF.sc _)
 have hsum:=GSc.sum g sp.sorts.length;simp [go_sem,h1,h2,h3,h4];refine qc.pure (Zs m.sc g) (.cons (.hf (yK m.sc)) .nil) ?_;simp [go_sem,h1,h2,h3,h4];refine qk.keep (fun q st=>∃ k,q=sp.fields.length-k∧k≤sp.fields.length∧st.tm 2=ipSp sp∧st.tm 3=ipMd m∧st.tm 5=aI (sumI m.sc.atoms)∧st.tm 6=aI (k:Nat)∧(∀(i:Nat) (h:i<sp.fields.length),i<k→vS sp sp.fields[i]=true ∧
  ∀(s:Nat) (hs:s<m.states.length),∃ hl:m.states[s].length=sp.fields.length,Zt sp m s i hs h hl)) sp.fields.length ?_ ?_
 ·exact ⟨0,by omega,by omega,by simp [go_sem],by simp [go_sem],by simp [go_sem],by simp [go_sem],fun i _ h=>by omega⟩
 rintro q st ⟨k,rfl,hk,e2,e3,e5,e6,he⟩;have hf10:=hsm.nf;have hs64:=hsm.nt;by_cases hlt:k<sp.fields.length
 ·have hfs:=hsm.fs k hlt
  simp [go_sem,e2,e3,e5,e6,hlt];generalize st.mu=mu0;refine qc.pure (qcL sp sp.fields[k] (by omega)) (.cons (.hf (Xd sp)) (.cons (.hf (nY _)) .nil)) ?_;by_cases h5:vS sp sp.fields[k]=true
  case neg =>
   rw [jS fun h=>h5 (h.fld k hlt)];simp [go_sem,h5];exact .hf _ (HF.sc _)
  simp [go_sem,e2,e3,e5,e6,hlt,h5];refine qk.keep (fun q2 st=>∃ s,q2=m.states.length-s∧s≤m.states.length∧st.tm 2=ipSp sp∧st.tm 3=ipMd m∧st.tm 5=aI (sumI m.sc.atoms)∧st.tm 6=aI (k:Nat)∧st.tm 7 = .ptr mu0.length 0∧st.tm 8=aI (s:Nat)∧st.mu[mu0.length]?=some (.arr (j6 sp.fields[k])) ∧
   (∀(u:Nat) (hu:u<m.states.length),u<s→∃ hl:m.states[u].length=sp.fields.length,Zt sp m u k hu hlt hl)) m.states.length ?_ ?_
  ·exact ⟨0,by omega,by omega,by simp [go_sem,e2],by simp [go_sem,e3],by simp [go_sem,e5],by simp [go_sem,e6],by simp [go_sem],by simp [go_sem],by simp [go_sem],fun u _ h=>by omega⟩
  clear e2 e3 e5 e6 st;rintro q2 st ⟨s,rfl,hs,e2,e3,e5,e6,e7,e8,hmL,he2⟩;generalize mu0.length=L at *
  by_cases hsl:s<m.states.length
  ·simp [go_sem,e2,e3,e5,e6,e7,e8,hlt,hsl]
   refine qd.intro (by kernel_rfl) ?_;have hL:L<st.mu.length:=(qh.1 hmL).1;generalize st.mu=mu1 at *
   by_cases h6:m.states[s].length=sp.fields.length
   case neg =>
    rw [jS fun h=>h6 (h.len s hsl)];simp [go_sem,e2,e3,e5,e6,e7,e8,hlt,hsl,h6];exact .hf _ (HF.sc _)
   have hki:k<m.states[s].length:=by omega
   have hmL1:mu1[L]'hL = .arr (j6 sp.fields[k]):=by
    rw [qq hL] at hmL;exact Option.some.inj hmL
   have h0l:0<m.states.length:=by omega
   have hr200:=(hsm.st s hsl).2 k hki;simp [go_sem,e2,e3,e5,e6,e7,e8,hlt,hsl,h6,hki];refine qd.intro (by kernel_rfl) ?_;generalize hr:m.states[s][k]=r at *
   by_cases c1:r.ar=sp.fields[k].sorts.length
   case neg =>
    rw [jS fun h=>c1 (hr ▸ (h.cell s k hsl hlt).1)];simp [go_sem,e2,e3,e5,e6,e7,e8,hlt,hsl,h6,hki,hmL1,hL,c1];exact .hf _ (HF.sc _)
   obtain ⟨ar,ts⟩:=r;simp only at c1 hr200;subst c1;simp [go_sem,e2,e3,e5,e6,e7,e8,hlt,hsl,h6,hki,hmL1,hL];refine qc.pure (m5 (sumI m.sc.atoms) ⟨sp.fields[k].sorts.length,ts⟩ (by simp only;omega)) (.cons (.hf (HF.sc _)) (.cons (.hf (qN ⟨sp.fields[k].sorts.length,ts⟩)) .nil)) ?_;by_cases c2:yL (sumI m.sc.atoms) ⟨sp.fields[k].sorts.length,ts⟩=true
   case neg =>
    rw [jS fun h=>c2 (hr ▸ (h.cell s k hsl hlt).2.1)];simp [go_sem,e2,e3,e5,e6,e7,e8,hlt,hsl,h6,hki,hmL1,hL,c2];exact .hf _ (HF.sc _)
   simp [go_sem,e2,e3,e5,e6,e7,e8,hlt,hsl,h6,hki,hmL1,hL,c2];refine qc.pure (qcH m.sc g sp.fields[k].sorts (by omega) ⟨sp.fields[k].sorts.length,ts⟩ (by simp only;omega) (qcJ c2)) (.cons (.hf (yK _)) (.cons (.hf (zI _)) (.cons (.hf (qN ⟨sp.fields[k].sorts.length,ts⟩)) .nil))) ?_;by_cases c3:uU m.sc sp.fields[k].sorts ⟨sp.fields[k].sorts.length,ts⟩=true
   case neg =>
    rw [jS fun h=>c3 (hr ▸ (h.cell s k hsl hlt).2.2.1)];simp [go_sem,e2,e3,e5,e6,e7,e8,hlt,hsl,h6,hki,hmL1,hL,c3];exact .hf _ (HF.sc _)
   have next:(sp.fields[k].var=false→(m.states[0]?.bind (·[k]?))=some (⟨sp.fields[k].sorts.length,ts⟩:Rl))→∀(u:Nat) (hu:u<m.states.length),u<s+1→∃ hl:m.states[u].length=sp.fields.length,Zt sp m u k hu hlt hl:=by
    intro hv u hu hus;rcases Nat.lt_succ_iff_lt_or_eq.1 hus with h7 | h7
    ·exact he2 u hu h7
    ·subst h7
     refine ⟨h6,?_⟩;unfold Zt;rw [hr];exact ⟨rfl,c2,c3,hv⟩
   have hws:IntKind.i64.wrap ((s:Int)+1)=((s+1:Nat):Int):=by rw [qg (by omega) (by omega)];omega
   by_cases c4:sp.fields[k].var=true
   ·simp [go_sem,e2,e3,e5,e6,e7,e8,hlt,hsl,h6,hki,hmL1,hL,c3,c4]
    exact Keep.loop (m.states.length-(s+1)) (by omega) ⟨s+1,rfl,by omega,by simp [go_sem,e2],by simp [go_sem,e3],by simp [go_sem,e5],by simp [go_sem,e6],by simp [go_sem,e7],by simp [go_sem,hws],by simp [go_sem,hL,hmL1],next fun h=>by rw [c4] at h;simp at h⟩
   have c4':sp.fields[k].var=false:=by simpa using c4
   have h00:k<m.states[0].length:=by
    by_cases hs0:s=0
    ·subst hs0;exact hki
    ·obtain ⟨hl,_⟩:=he2 0 h0l (by omega)
     omega
   generalize hr0:m.states[0][k]=r0 at *
   have hb0:(m.states[0]?.bind (·[k]?))=some r0:=by
    rw [qq h0l,Option.bind_some,qq h00,hr0]
   simp [go_sem,e2,e3,e5,e6,e7,e8,hlt,hsl,h6,hki,hmL1,hL,c3,c4',h0l,h00,hr0];refine qc.pure (XW ⟨sp.fields[k].sorts.length,ts⟩ r0 (by simp only;omega)) (.cons (.hf (qN ⟨sp.fields[k].sorts.length,ts⟩)) (.cons (.hf (qN r0)) .nil)) ?_;by_cases c5:(⟨sp.fields[k].sorts.length,ts⟩:Rl)=r0
   case neg =>
    rw [jS fun h=>c5 (by
     have:=(h.cell s k hsl hlt).2.2.2 c4';rw [hb0,hr] at this;exact (Option.some.inj this).symm)]
    simp [go_sem,e2,e3,e5,e6,e7,e8,hlt,hsl,h6,hki,hmL1,hL,c3,c4',h0l,h00,hr0,c5];exact .hf _ (HF.sc _)
   simp [go_sem,e2,e3,e5,e6,e7,e8,hlt,hsl,h6,hki,hmL1,hL,c3,c4',h0l,h00,hr0,c5];exact Keep.loop (m.states.length-(s+1)) (by omega) ⟨s+1,rfl,by omega,by simp [go_sem,e2],by simp [go_sem,e3],by simp [go_sem,e5],by simp [go_sem,e6],by simp [go_sem,e7],by simp [go_sem,hws],by simp [go_sem,hL,hmL1],next fun h=>by rw [hb0,c5]⟩
  ·have hse:s=m.states.length:=by omega
   have hwk:IntKind.i64.wrap ((k:Int)+1)=((k+1:Nat):Int):=by rw [qg (by omega) (by omega)];omega
   simp [go_sem,e2,e3,e5,e6,e7,e8,hlt,hsl];refine Keep.loop (sp.fields.length-(k+1)) (by omega) ⟨k+1,rfl,by omega,by simp [go_sem,e2],by simp [go_sem,e3],by simp [go_sem,e5],by simp [go_sem,hwk],fun i h hi=>?_⟩;rcases Nat.lt_succ_iff_lt_or_eq.1 hi with h7 | h7
   ·exact he i h h7
   ·subst h7;exact ⟨h5,fun u hu=>he2 u hu (by omega)⟩
 ·have hke:k=sp.fields.length:=by omega
  simp [go_sem,e2,e3,e5,e6,hlt];refine qk.up m.states.length (fun s st=>st.tm 2=ipSp sp∧st.tm 3=ipMd m∧st.tm 10=aI s∧∀(u:Nat) (hu:u<m.states.length),u<s→m.states[u].length=sp.fields.length) ?_ ?_
  ·simp [go_sem,e2,e3]
  clear e2 e3 e5 e6 st;rintro s st hs ⟨e2,e3,e10,he2⟩;by_cases hsl:s<m.states.length
  ·simp [go_sem,e2,e3,e10,hsl]
   refine qd.intro (by kernel_rfl) ?_;by_cases h6:m.states[s].length=sp.fields.length
   case neg =>
    rw [jS fun h=>h6 (h.len s hsl)];simp [go_sem,e2,e3,e10,hsl,h6];exact .hf _ (HF.sc _)
   simp [go_sem,e2,e3,e10,hsl,h6];refine ⟨qg (by omega) (by omega),fun u hu hus=>?_⟩;rcases Nat.lt_succ_iff_lt_or_eq.1 hus with h7 | h7
   ·exact he2 u hu h7
   ·subst h7;exact h6
  ·rw [qcM ⟨h1,h2,by omega,by omega,fun i h=>(he i h (by omega)).1,fun u hu=>he2 u hu (by omega),fun u i hu hi=>((he i hi (by omega)).2 u hu).2⟩]
   simp [go_sem,e2,e3,e10,hsl];exact .hf _ (HF.sc _)
def spOf (ts:TS):Sp:=⟨ts.sorts,ts.fields,ts.preds.map cPd,ts.facts.map cFa,ug ts.preds,Zi ts.facts⟩
end Go.Proofs.YtkglmpmlfjogkaaGreatDoor.E9


namespace Go.Proofs.YtkglmpmlfjogkaaGreatDoor.Y13
open Go Go.Ev Go.Proofs Y1 Y2 Y3 Y4 P1 YM Y5 Y6 Y7 Y8 YS YF Y9 Y10 Y11 Y12 P2
theorem qcO (p:Pd) (n:Nd):qi Tryz.prog 258 [.agg (cPd p),.ip (cNd n)] (aB (decide (p.name=n.name))):=by
 refine qSQ Tryz.call258 Tryz.func258 rfl {} ?_;simp [go_sem,zO];exact .hf _ (HF.sc _)
def jT (c:Ck) (s:Scp) (n:Nd):Res:=
 if (c.ts.preds.any fun p=>decide (p.name=n.name))=true then
  match zg c n.name with
  |none => .error (45,n.pos)
  |some p=>match c.ts.preds[p]? with
   |none => .error (45,n.pos)
   |some pd=>if pd.params.length=n.kids.length then zt c s n.pos pd.params n.kids else .error (45,n.pos)
 else .error (40,n.pos)
def endC:Res→AEnd
 | .ok _ => .ret (.tup [])
 | .error e => .pan (yS e.1 e.2)
@[go_sem] theorem endC_ok (k:Option Kd):endC (.ok k) = .ret (.tup []):=rfl
@[go_sem] theorem qi3 (e:Dg):endC (.error e) = .pan (yS e.1 e.2):=rfl
theorem Uf (n:Nd):HF (.ip (cNd n)):=HF.ip (jz n)
theorem hf_t0:HF (.tup []):=HF.tup (by simp)
theorem callU (c:Ck) (hc:okCk c) (s:Scp) (hs:ScOk c.ts.sorts.length s) (n:Nd) (hw:WfN n) (hop:n.op=47)
  (ih:∀ k,k∈n.kids→qA Tryz.prog 210 [eCk c,aSc s,eNd k,aB true] (endK (exam c s true k))) :
  qA Tryz.prog 238 [eCk c,aSc s,eNd n] (endC (jT c s n)):=by
 refine qH.of_sound ?_;refine qSW Tryz.call238 Tryz.func238 rfl {} ?_;have hnp:=hc.ts.np;have hkl:=hw.len;have hany:=hasPd false c.ts.preds (.fn (.func 258) [] [.ip (cNd n)]) (fun p=>decide (p.name=n.name)) ⟨_,_,_,rfl,fun p hp=>⟨_,qcO p n,.cons (.hf (HF.agg (Vw p))) (.cons (.hf (Uf n)) .nil)⟩⟩ (HF.fn (by simp) (fun x hx=>by simp at hx;subst hx;exact Uf n)) (ug _) (by omega);have hwk:WKs [lPd c.ts.preds,.fn (.func 258) [] [.ip (cNd n)]] [lPd c.ts.preds,.fn (.func 258) [] [.ip (cNd n)]] := .cons (.hf (ug _)) (.cons (.hf (HF.fn (by simp) (fun x hx=>by simp at hx;subst hx;exact Uf n))) .nil);generalize hR:jT c s n=R;unfold jT at hR;simp [go_sem];cases hA:c.ts.preds.any (fun p=>decide (p.name=n.name)) with
 |false =>
  rw [hA] at hany hR;subst hR;refine qd.tail 8 (by kernel_rfl) ?_;simp [go_sem];refine qc.pure hany hwk ?_;simp [go_sem];refine qc.pans (zp false 40 n) (wkR n false 40) ?_;simp [go_sem];exact .hf _ (zE _ _)
 |true =>
  rw [hA] at hany hR;rw [if_pos rfl] at hR;refine qd.intro (by kernel_rfl) ?_;simp [go_sem];refine qc.pure hany hwk ?_;simp [go_sem];refine qc.pure (zp true 40 n).toP (wkR n true 40) ?_;simp [go_sem];refine qc.pure (XD c hc n.name) (.cons (.hf (yq c)) (.cons (.hf (HF.sc _)) .nil)) ?_;cases hcal:zg c n.name with
  |none =>
   rw [hcal] at hR;subst hR;simp [go_sem];refine qd.tail 19 (by kernel_rfl) ?_;simp [go_sem];refine qc.pans (zp false 45 n) (wkR n false 45) ?_;simp [go_sem];exact .hf _ (zE _ _)
  |some p =>
   obtain ⟨hp1,hp2⟩:=Zj hc hcal;have hpd:=hc.ts.pl _ (qr hp2);rw [hcal] at hR;simp only [qq hp2] at hR;simp [go_sem];generalize hpp:c.ts.preds[p]=pd at *
   by_cases hpl:pd.params.length=n.kids.length
   ·rw [if_pos hpl] at hR
    refine qd.intro (by kernel_rfl) ?_;simp [go_sem,hp2,hpp,hpl];refine qc.pure (zp true 45 n).toP (wkR n true 45) ?_;simp [go_sem,hp2,hpp,hpl];have hsh:=hw.shape;have hkd:∀(k:Nat) (h:k<n.kids.length),kd n.kids[k].op=101:=by
     have e:shp n.op n.kids.length=some (List.replicate (min n.kids.length 401) 101):=by
      unfold shp;rw [if_neg (by omega),if_neg (by omega),if_neg (by omega),if_neg (by omega),if_neg (by omega),if_neg (by omega),if_neg (by omega),if_pos hop]
     rw [e] at hsh;simp only [Option.some.injEq] at hsh;intro k h;have h2:(n.kids.map fun k=>kd k.op)[k]?=some (kd n.kids[k].op):=by rw [qW,qq h];rfl
     rw [←hsh,List.getElem?_replicate] at h2;split at h2
     ·simpa using h2.symm
     ·exact absurd h2 (by simp)
    refine qk.upK pd.params.length (fun k st=>st.tm 0=eCk c∧st.tm 1=aSc s∧st.tm 5 = .ip (cNd n)∧st.tm 54=lPm pd.params∧st.tm 55=aI n.kids.length∧st.tm 56=aI k∧zt c s n.pos (pd.params.drop k) (n.kids.drop k)=R) ?_ ?_
    ·exact ⟨by simp [go_sem],by simp [go_sem],by simp [go_sem],by simp [go_sem],by simp [go_sem],by simp [go_sem],by simpa using hR⟩
    ·rintro k st hk ⟨e0,e1,e5,e54,e55,e56,hE⟩
     by_cases hkl':k=pd.params.length
     ·subst hkl'
      rw [List.drop_length,hpl,List.drop_length] at hE;simp only [zt] at hE;subst hE;simp [go_sem,e0,e1,e5,e54,e55,e56,hpl];exact .hf _ hf_t0
     ·have hlt:k<pd.params.length:=by omega
      have hlt2:k<n.kids.length:=by omega
      have w1:IntKind.i64.wrap ((k:Int)+1)=(k:Int)+1:=qg (by omega) (by omega);have hi:=ih n.kids[k] (qr hlt2);rw [qX hlt,qX hlt2] at hE;simp only [zt] at hE;have hok:=vQ hc (szN n.kids[k]) n.kids[k] s true;have hkk:=hkd k hlt2;have hwk':=hw.kid (qr hlt2);simp [go_sem,e0,e1,e5,e54,e55,e56,hlt,hlt2,qj];cases hx:exam c s true n.kids[k] with
      |error e =>
       rw [hx] at hi hE;subst hE;refine qc.pans hi (.cons (.hf (yq c)) (.cons (.hf (vI s)) (.cons (.hf (qB _)) (.cons (.hf (HF.sc _)) .nil)))) ?_;simp [go_sem];exact .hf _ (zE _ _)
      |ok ko =>
       obtain ⟨kk,rfl,hkk2⟩:=hok ko (qo _) hwk' hs hx hkk;rw [hx] at hi hE;simp only at hE;refine qc.pure hi.toP (.cons (.hf (yq c)) (.cons (.hf (vI s)) (.cons (.hf (qB _)) (.cons (.hf (HF.sc _)) .nil)))) ?_;by_cases har:kk.ar=1
       ·rw [if_pos har] at hE
        simp [go_sem,e5,har];refine qc.pure (zp true 42 n).toP (wkR n true 42) ?_;simp [go_sem,e0,e1,e5,e54,e55,e56];refine qk.seen kk.ts.length (fun seen st'=>st'.tm 0=eCk c∧st'.tm 1=aSc s∧st'.tm 5 = .ip (cNd n)∧st'.tm 54=lPm pd.params∧st'.tm 55=aI n.kids.length∧st'.tm 56=aI k∧st'.tm 9 = .ptr st.mu.length 0∧st'.tm 76 = .ptr (st.mu.length+2) 0 ∧
         st'.mu[st.mu.length]?=some (.arr [aS pd.params[k].1,aI pd.params[k].2])∧st'.mu[st.mu.length+2]?=some (.it (eT kk.ts) seen)∧∀ i t,i∈seen→kk.ts[i]?=some t→t.getD 0 0=pd.params[k].2) ?_ ?_
        ·refine ⟨by simp [go_sem,e0],by simp [go_sem,e1],by simp [go_sem,e5],by simp [go_sem,e54],by simp [go_sem,e55],by simp [go_sem,e56],by simp [go_sem],by simp [go_sem],?_,?_,by simp⟩
         ·simp [go_sem]
         ·simp [go_sem]
        ·rintro seen st' hnd hlt' ⟨f0,f1,f5,f54,f55,f56,f9,f76,g0,g2,hall⟩
         simp [go_sem,f0,f1,f5,f54,f55,f56,f9,f76];refine ⟨st.mu.length+2,eT kk.ts,seen,rfl,g2,fun i e hi hns=>?_,fun hdone=>?_⟩
         ·obtain ⟨x,hx2,rfl⟩:=uK hi
          have hxo:okT x:=hkk2.okK.len x (qG hx2);have hil:i<kk.ts.length:=(qh.1 hx2).1;have hx3:x.length=3:=hxo;have hxl:x∈kk.ts:=qG hx2;have hlen:st.mu.length+2<st'.mu.length:=(qh.1 g2).1;have hget:∀(c:Cell) (l:List Cell),((st'.mu.set (st.mu.length+2) c)++l)[st.mu.length]?=some (.arr [aS pd.params[k].1,aI pd.params[k].2]):=fun c l=>by
           rw [qm (by simp;omega),qC (by omega)];exact g0
          obtain ⟨x0,x1,x2,rfl⟩:∃ x0 x1 x2,x=[x0,x1,x2]:=by
           match x,hx3 with
           | [x0,x1,x2],_=>exact ⟨_,_,_,rfl⟩
          have hrange:0≤x0∧x0<128:=by
           obtain ⟨l,el,hl,hr⟩:=hkk2.ts _ hxl;rw [har] at hl
           match l,hl with
           | [y],_ =>
            have:=hr y (by simp);simp [pad] at el;have:=hc.ts.ns;omega
          have w8:IntKind.i64.wrap x0=x0:=qg (by omega) (by omega);by_cases hq:x0=pd.params[k].2
          ·have w9:IntKind.i64.wrap pd.params[k].2=pd.params[k].2:=by rw [←hq];exact w8
           simp [go_sem,f0,f1,f5,f54,f55,f56,f9,f76,hi,hlen,hns,g2,hget,w8,w9,hq];refine qc.pure (zp true 43 n).toP (wkR n true 43) ?_;simp [go_sem];refine ⟨i,hil,hns,by simp [go_sem,f0],by simp [go_sem,f1],by simp [go_sem,f5],by simp [go_sem,f54],by simp [go_sem,f55],by simp [go_sem,f56],by simp [go_sem,f9],by simp [go_sem,f76],?_,?_,?_⟩
           ·simp only [qD]
            exact hget _ _
           ·simp only [qD]
            rw [qm (by simpa using hlen),qR hlen]
           ·intro j t hj ht
            rcases qL.1 hj with hj | hj
            ·exact hall j t hj ht
            ·rw [qK] at hj;subst hj
             rw [hx2] at ht;cases ht;exact hq
          ·have hbad:jQ pd.params[k].2 kk=false:=by
            unfold jQ;rw [←Bool.not_eq_true,List.all_eq_true];intro h;have:=h _ hxl;simp at this;exact hq this
           rw [hbad] at hE;simp only [Bool.false_eq_true,if_false] at hE;subst hE;simp [go_sem,f0,f1,f5,f54,f55,f56,f9,f76,hi,hlen,hns,g2,hget,w8,hq];refine qc.pans (zp false 43 n) (wkR n false 43) ?_;simp [go_sem];exact .hf _ (zE _ _)
         ·have hgood:jQ pd.params[k].2 kk=true:=by
           unfold jQ;rw [List.all_eq_true];intro t ht;obtain ⟨j,hj⟩:=List.mem_iff_getElem?.1 ht;simpa using hall j t (hdone j (by simpa using (qh.1 hj).1)) hj
          rw [if_pos hgood] at hE;simp [go_sem,f0,f1,f5,f54,f55,f56,f9,f76,hlt,w1,hlt2];refine Keep.mk' ?_;refine ⟨by simp [go_sem,f0],by simp [go_sem,f1],by simp [go_sem,f5],by simp [go_sem,f54],by simp [go_sem,f55],by simp [go_sem],hE⟩
       ·rw [if_neg har] at hE
        subst hE;simp [go_sem,e5,har];refine qc.pans (zp false 42 n) (wkR n false 42) ?_;simp [go_sem];exact .hf _ (zE _ _)
   ·rw [if_neg hpl] at hR
    subst hR;refine qd.tail 19 (by kernel_rfl) ?_;simp [go_sem,hp2,hpp,hpl];refine qc.pans (zp false 45 n) (wkR n false 45) ?_;simp [go_sem];exact .hf _ (zE _ _)
theorem qcP {lo sz:Nat} {mu:Mu} {av:AV} {xs:List (List AV)} (h:OwnF lo mu sz av xs) (w:yI sz xs) (hf:∀ r,r∈xs→∀ c,c∈r→HF c):Rd (cutM (fun i=>decide (lo≤i)) mu 0) av (.lst false xs):=by
 obtain ⟨ho,hb,hl⟩:=h;refine Own.rd (sz:=sz) ?_ w hf;rcases ho with rfl | ⟨b,rfl,hc⟩
 ·exact .inl rfl
 ·refine .inr ⟨b,rfl,?_⟩
  rw [vr,hc];simp [hb b _ _ _ rfl]
theorem qcQ {c:Ck} {s:Scp} {n:Nd} {ko:Option Kd} (h:jT c s n = .ok ko):ko=none:=by
 have hA:∀(ks:List Nd) (ps:List (ByteArray×Int)) (ko:Option Kd),zt c s n.pos ps ks = .ok ko→ko=none:=by
  intro ks;induction ks with
  |nil=>intro ps ko h;cases ps<;>simp [zt] at h<;>exact h.symm
  |cons k ks ih =>
   intro ps ko h;cases ps with
   |nil=>simp [zt] at h;exact h.symm
   |cons p ps =>
    simp only [zt] at h;split at h
    ·exact absurd h (by simp)
    ·exact absurd h (by simp)
    ·split at h
     ·split at h
      ·exact ih _ _ h
      ·exact absurd h (by simp)
     ·exact absurd h (by simp)
 unfold jT at h;split at h
 ·split at h
  ·exact absurd h (by simp)
  ·split at h
   ·exact absurd h (by simp)
   ·split at h
    ·exact hA _ _ _ h
    ·exact absurd h (by simp)
 ·exact absurd h (by simp)
theorem appKo {mu:Mu} {lo:Nat} {s:AV} {xs:List (Option Kd)} {k:Option Kd} {K:AV→Mu→Prop} (ho:OwnF lo mu 2 s (xs.map cKo)) (hl:xs.length≤100000) (kk:∀ av mu',OwnF lo mu' 2 av ((xs++[k]).map cKo)→(∀ i,i<lo→mu'[i]?=mu[i]?)→K av mu') :
  qz Tryz.prog mu #[256,256] s (.lst true [cKo k]) K:=by
 have hrows:∀ l:List (Option Kd),qY 2 (l.map cKo):=fun l r hr=>by
  obtain ⟨n,_,rfl⟩:=qn.1 hr;exact VR n
 refine qz.ownF (lo:=lo) (e:=251) (sz:=2) (bt:=16) (zv := .agg [aI 0,.sc (.map none)]) (xs:=xs.map cKo) (ys:=[cKo k]) (by simp [go_sem]) (by simp [go_sem]) (by simp [go_sem]) rfl rfl (by omega) (by omega) ho (by simp [qE]) (hrows xs) (hrows [k]) (by simp;omega) ?_;intro av mu' h h2;exact kk av mu' (by rw [List.map_append];exact h) h2
theorem KB (c:Ck) (hc:okCk c):∀(m:Nat) (n:Nd),szN n≤m→WfN n→∀(s:Scp),ScOk c.ts.sorts.length s→∀ inn:Bool,qA Tryz.prog 210 [eCk c,aSc s,eNd n,aB inn] (endK (exam c s inn n))
 | 0,n,hm,_,_,_,_=>by obtain ⟨op,nm,i,ks,p⟩:=n;simp [szN] at hm
 |m+1,n,hm,hw,s,hs,inn=>by
  have ih:∀ k,k∈n.kids→∀ s',ScOk c.ts.sorts.length s'→∀ inn',qA Tryz.prog 210 [eCk c,aSc s',eNd k,aB inn'] (endK (exam c s' inn' k)):=fun k hk s' hs' inn' =>
   KB c hc m k (by have:=zZ hk;omega) (hw.kid hk) s' hs' inn'
  refine qH.of_sound ?_;refine qSW Tryz.call210 Tryz.func210 rfl {} ?_;generalize hE:exam c s inn n=E;rw [jE] at hE;have htm:=XF c hc n;simp [go_sem];by_cases hT:(inn&&zY c n.op n.name)=true
  ·rw [if_pos hT] at hE
   subst hE;rw [Bool.and_eq_true] at hT;obtain ⟨rfl,hT⟩:=hT;rw [hT] at htm;refine qd.tail 9 (by kernel_rfl) ?_;simp [go_sem];refine qc.pure htm (.cons (.hf (yq c)) (.cons (.hf (qB n)) .nil)) ?_;simp [go_sem];refine qc.pans (zp false 46 n) (wkR n false 46) ?_;simp [go_sem];exact .hf _ (zE _ _)
  rw [if_neg hT] at hE;have hnm:=VS c hc s n;have hcl:=fun h=>callU c hc s hs n hw h (fun k hk=>ih k hk s hs true)
  have hwc:WKs [eCk c,aSc s,eNd n] [eCk c,aSc s,eNd n] := .cons (.hf (yq c)) (.cons (.hf (vI s)) (.cons (.hf (qB n)) .nil));have hwe:∀(s':Scp) (k:Nd) (b:Bool),WKs [eCk c,aSc s',eNd k,aB b] [eCk c,aSc s',eNd k,aB b]:=fun s' k b => .cons (.hf (yq c)) (.cons (.hf (vI s')) (.cons (.hf (qB k)) (.cons (.hf (HF.sc _)) .nil)))
  have hbinder:n.op=15∨n.op=45∨n.op=46→∃ a f,n.kids=[a,f]∧kd a.op=101:=fun ho=>by
   have hsh:=hw.shape;have e:shp n.op n.kids.length=some [101,102]:=by
    unfold shp;rw [if_neg (by omega),if_neg (by omega),if_neg (by omega),if_pos (by omega)]
   rw [e] at hsh;simp only [Option.some.injEq] at hsh
   match hk:n.kids,hsh with
   | [a,f],hsh=>simp at hsh;exact ⟨a,f,rfl,hsh.1.symm⟩
   | [],hsh=>simp at hsh
   | [_],hsh=>simp at hsh
   |_ :: _ :: _ :: _,hsh=>simp at hsh
  cases inn
  case' false =>
   refine qd.intro (by kernel_rfl) ?_;simp [go_sem];refine qc.pure (zp true 46 n).toP (wkR n true 46) ?_;simp [go_sem]
  case' true =>
   have hT':zY c n.op n.name=false:=by simpa using hT
   rw [hT'] at htm;refine qd.intro (by kernel_rfl) ?_;simp [go_sem];refine qc.pure htm (.cons (.hf (yq c)) (.cons (.hf (qB n)) .nil)) ?_;simp [go_sem];refine qc.pure (zp true 46 n).toP (wkR n true 46) ?_;simp [go_sem]
  all_goals
   by_cases h1:n.op=1
   ·rw [if_pos h1] at hE
    rw [hE] at hnm;simp [go_sem,h1];cases E with
    |error e =>
     refine qc.pans hnm hwc ?_;simp [go_sem];exact .hf _ (zE _ _)
    |ok ko =>
     refine qc.pure hnm.toP hwc ?_;cases ko with
     |none=>simp [go_sem];exact .hf _ hfKn
     |some k=>simp [go_sem];exact .hf _ (hfK2 _ _)
   rw [if_neg h1] at hE;by_cases h47:n.op=47
   ·rw [if_pos h47] at hE
    have hE:jT c s n=E:=hE;have hcl:=hcl h47;rw [hE] at hcl;simp [go_sem,h47];cases E with
    |error e =>
     refine qc.pans hcl hwc ?_;simp [go_sem];exact .hf _ (zE _ _)
    |ok ko =>
     obtain rfl:=qcQ hE;refine qc.pure hcl.toP hwc ?_;simp [go_sem];exact .hf _ hfKn
   rw [if_neg h47] at hE;by_cases hb:n.op=15∨n.op=45∨n.op=46
   ·rw [if_pos hb] at hE
    obtain ⟨a,f,hkk,ha⟩:=hbinder hb;rw [hkk] at hE;have iha:∀ b r,exam c s b a=r→qA Tryz.prog 210 [eCk c,aSc s,eNd a,aB b] (endK r):=fun b r h=>h ▸ ih a (by rw [hkk];simp) s hs b
    have ihf:∀ s',ScOk c.ts.sorts.length s'→∀ b r,exam c s' b f=r→qA Tryz.prog 210 [eCk c,aSc s',eNd f,aB b] (endK r):=fun s' hs' b r h=>h ▸ ih f (by rw [hkk];simp) s' hs' b
    have hoka:=vQ hc (szN a) a s;have hwa:=hw.kid (k:=a) (by rw [hkk];simp);rcases hb with h | h | h
    all_goals
     simp [go_sem,h,hkk,qj];simp only [h,yd,q6] at hE;simp at hE;split at hE
     ·rename_i e hx
      have hi:=iha _ _ hx;subst hE;refine qc.pans hi (hwe _ _ _) ?_;simp [go_sem];exact .hf _ (zE _ _)
     ·rename_i hx
      obtain ⟨q,hq,_⟩:=hoka _ _ (qo _) hwa hs hx ha;exact absurd hq (by simp)
     ·rename_i k hx
      have hi:=iha _ _ hx;obtain ⟨q,hq,hqk⟩:=hoka _ _ (qo _) hwa hs hx ha;simp only [Option.some.injEq] at hq;subst hq;refine qc.pure hi.toP (hwe _ _ _) ?_;by_cases har:k.ar=1
      ·rw [if_pos har] at hE
       obtain ⟨ka,kt⟩:=k;obtain rfl:ka=1:=har;simp [go_sem];refine qc.pure (zp true 42 n).toP (wkR n true 42) ?_;simp [go_sem];have hs2:ScOk c.ts.sorts.length ((n.name,⟨1,kt⟩) :: s):=fun v hv=>by
        rcases qv.1 hv with rfl | hv
        ·exact ⟨hqk,rfl⟩
        ·exact hs v hv
       have hi2:=ihf _ hs2;refine qd.tail 12 (by kernel_rfl) ?_;simp [go_sem,h,hkk,qj];split at hE
       ·rename_i e hx2
        split at hx2
        ·rename_i e' hx3
         simp only [Except.error.injEq] at hx2;subst hx2;subst hE;have hi3:=hi2 _ _ hx3;refine qc.pans hi3 (hwe ((n.name,⟨1,kt⟩) :: s) _ _) ?_;simp [go_sem];exact .hf _ (zE _ _)
        ·exact absurd hx2 (by simp)
       ·rename_i l hx2
        split at hx2
        ·exact absurd hx2 (by simp)
        ·rename_i a' hx3
         have hi3:=hi2 _ _ hx3;subst hE;refine qc.pure hi3.toP (hwe ((n.name,⟨1,kt⟩) :: s) _ _) ?_;simp [go_sem];exact .hf _ (hfK2 _ _)
      ·rw [if_neg har] at hE
       subst hE;simp [go_sem,har];refine qc.pans (zp false 42 n) (wkR n false 42) ?_;simp [go_sem];exact .hf _ (zE _ _)
   ·rw [if_neg hb] at hE
    simp only [not_or] at hb;obtain ⟨b1,b2,b3⟩:=hb;simp [go_sem,h1,h47,b1,b2,b3];have hkids:=hw.len;generalize hB:(_||decide (n.op=12)||decide (n.op=13))=B at hE;by_cases h12:n.op=12
    case' pos=>simp [go_sem,h12]
    case' neg =>
     by_cases h13:n.op=13
     case' pos=>simp [go_sem,h12,h13]
     case' neg=>simp [go_sem,h12,h13]
    all_goals
     refine qk.upK n.kids.length (fun k st=>∃ acc:List (Option Kd),acc.length=k∧st.tm 0=eCk c∧st.tm 1=aSc s∧st.tm 3=aB B∧st.tm 6 = .ip (cNd n)∧st.tm 8 = .ptr 0 0∧st.tm 79=lNd n.kids∧st.tm 80=aI n.kids.length∧st.tm 81=aI k∧st.mu[0]?=some (.arr [aI 0,.sc (.map none)])∧OwnF 1 st.mu 2 (st.tm 10) (acc.map cKo) ∧
      q6 c s B n.kids=(match q6 c s B (n.kids.drop k) with | .error e => .error e | .ok l => .ok (acc++l))) ?_ ?_
     ·refine ⟨[],rfl,by simp [go_sem],by simp [go_sem],?_,by simp [go_sem],by simp [go_sem],by simp [go_sem],by simp [go_sem],by simp [go_sem],by simp [go_sem],?_,?_⟩
      ·rw [←hB];simp [go_sem,h12];try simp [h13]
      ·simp [go_sem];exact OwnF.nil (by simp)
      ·simp only [List.drop_zero,List.nil_append]
       cases q6 c s B n.kids<;>rfl
     ·rintro k st hk ⟨acc,hl,e0,e1,e3,e6,e8,e79,e80,e81,m0,ho,hE2⟩
      by_cases hkl':k=n.kids.length
      ·rw [hkl',List.drop_length] at hE2
       simp only [q6,zc] at hE2;rw [hE2] at hE;simp only at hE;simp [go_sem,e0,e1,e3,e6,e8,e79,e80,e81,hkl'];have hap:ApOk n.op acc:=(VX hc.ts.ns hw (by rw [hl,hkl']) (fun i k' a hi ha hkd=>vQ hc (szN k') k' s B a (qo _) (hw.kid (qG hi)) hs ((YQ hE2).2 i k' a hi ha) hkd)).1;have hap2:=qbA c hc false n acc hap;rw [hE] at hap2;have hrf:∀ r,r∈acc.map cKo→∀ c,c∈r→HF c:=fun r hr c hcc=>by
        obtain ⟨q,_,rfl⟩:=qn.1 hr;exact Kh q c hcc
       have hrw:yI 2 (acc.map cKo):=fun r hr=>by
        obtain ⟨q,_,rfl⟩:=qn.1 hr;exact (VR q).1
       have g0:(cutM (fun i=>!decide (1≤i)) st.mu 0)[0]?=some (.arr [aI 0,.sc (.map none)]):=by rw [vr,m0];simp
       refine qc.eff0 (qJ.freeze (args1:=[eCk c,eNd n,.lst false (acc.map cKo)]) (fun j=>decide (1≤j)) ⟨.inl rfl,.inl rfl,.inr (qcP ho hrw hrf),trivial⟩ (hap2.toSound _ (.cons (.hf (yq c)) (.cons (.hf (qB n)) (.cons (.hf (HF.lst hrf)) .nil))))) ?_ ?_
       ·rintro r m ⟨hv,rfl⟩
        have hv:AEnd.ret r=endK E:=hv;cases E with
        |error e=>exact absurd hv (by simp [go_sem])
        |ok q =>
         simp [go_sem] at hv;subst hv;generalize cutM (fun i=>!decide (1≤i)) st.mu 0=M at g0;have hmz:0<M.length:=(qh.1 g0).1;have hset:∀ c,(M.set 0 c)[0]?=some c:=fun c=>qR hmz
         cases q with
         |none=>simp [go_sem,e8,g0,hset];exact .hf _ hfKn
         |some k=>simp [go_sem,e8,g0,hset];exact .hf _ (hfK2 _ _)
       ·rintro r m ⟨hv,rfl⟩
        have hv:AEnd.pan r=endK E:=hv;cases E with
        |ok q=>exact absurd hv (by simp [go_sem])
        |error e =>
         simp [go_sem] at hv;subst hv;simp [go_sem];exact .hf _ (zE _ _)
      ·have hlt:k<n.kids.length:=by omega
       have w1:IntKind.i64.wrap ((k:Int)+1)=(k:Int)+1:=qg (by omega) (by omega);rw [qX hlt] at hE2;simp only [q6] at hE2;have hi:=ih n.kids[k] (qr hlt) s hs B;simp [go_sem,e0,e1,e3,e6,e8,e79,e80,e81,hlt,qj];cases hx:exam c s B n.kids[k] with
       |error e =>
        rw [hx] at hi hE2;simp only at hE2;rw [hE2] at hE;simp only at hE;subst hE;refine qc.pans hi (hwe s n.kids[k] B) ?_;simp [go_sem];exact .hf _ (zE _ _)
       |ok ko =>
        rw [hx] at hi hE2;simp only at hE2;refine qc.pure hi.toP (hwe s n.kids[k] B) ?_;have hko:=VR ko;rw [List.all_eq_true] at hko;simp [go_sem];rw [if_pos hko];simp [go_sem];refine appKo (xs:=acc) (k:=ko) (lo:=1) ⟨yY ho.1 _,ho.2.1,by have:=ho.2.2;simp⟩ (by omega) fun av mu' ho' hm'=>?_
        simp [go_sem,e0,e1,e3,e6,e8,e79,e80,e81,w1];refine ⟨hlt,Keep.mk' ?_⟩;refine ⟨acc++[ko],by simp [hl],by simp [go_sem,e0],by simp [go_sem,e1],by simp [go_sem,e3],by simp [go_sem,e6],by simp [go_sem,e8],by simp [go_sem,e79],by simp [go_sem,e80],by simp [go_sem],?_,by simpa [go_sem] using ho',?_⟩
        ·simp only [qD]
         rw [hm' 0 (by omega),qm (by have:=ho.2.2;omega)];exact m0
        ·rw [hE2]
         cases q6 c s B (n.kids.drop (k+1)) with
         |error e=>rfl
         |ok l=>simp
end Go.Proofs.YtkglmpmlfjogkaaGreatDoor.Y13
