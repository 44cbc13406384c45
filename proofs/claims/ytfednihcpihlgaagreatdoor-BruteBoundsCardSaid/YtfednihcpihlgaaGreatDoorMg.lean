/-
  Own library, part 7: an abstract reading of values and a calculus over it; contracts of functions; plain lemmas.
-/
import Derived.Test.YtfednihcpihlgaaGreatDoorMf
set_option linter.unusedVariables false
set_option linter.unusedSimpArgs false
set_option maxRecDepth 100000
open Go.Proofs.Tryz renaming prog->qb
open List renaming getElem?_eq_some_iff->qg,mem_map->qi,getElem_mem->qn,range->qq,mem_cons->qt,getElem?_eq_getElem->qw,not_mem_nil->qF,getElem?_append_left->qG,mem_append->qH,getElem?_set_self->qI,take_length->qO,replicate->qS,mem_singleton->qT,mem_of_getElem?->qU,mem_cons_of_mem->qW,length_append->qX,map_append->q9,all_eq_true->zb,mem_cons_self->zd,drop_eq_getElem_cons->zm,length_cons->zz,getD_eq_getElem?_getD->zC,getElem?_append_right->zE,append_nil->zF,take_of_length_le->zO,mem_range->zW,drop_length->yh,mem_filter->yX,getElem?_cons_succ->vw,getElem?_eq_none->uJ
open Go.IntKind renaming i64->qm
open Nat renaming le_refl->qo,zero_add->z7
open Option.some renaming injEq->qr
open Bool renaming and_eq_true->qD,eq_iff_iff->jX
open Int renaming le_refl->vf,tmod_eq_emod_of_nonneg->uN
namespace Go.Proofs.YtfednihcpihlgaaGreatDoor
open Go Go.Ev Go.Proofs Tryz
namespace PC
open YS P1 P2 Y1 Y2 Y9 Y10 Y12 YZ YA PA YC YG Q1 Q3 Q4 PB
section
variable {nm:tG}{es:List (tG×Bool)}
theorem qoT{a i b b'}(j:Sub i a)(l:Sub b' b):Sub (Ye i b') (Ye a b):=⟨j.1,fun t g=>by
 simp only[Ye,yX,decide_eq_true_eq]at g⊢;exact⟨j.2 t g.1,l.2 t g.2⟩⟩
theorem qoU{op a g b b'}(i:Sub g a)(j:Sub b' b):Sub (vY op g b') (vY op a b):=by
 unfold vY;split
 .exact qbP i j.2
 grind [qoT]
theorem qoV{ns}(i:ns<=4){op a g}(h:Sub g a)(ok:okKd ns a)(j:a.ar=2):Sub (binK ns op g) (binK ns op a):=by
 grind [binK,qoS,qbP,qoR]
theorem apK1(ns op n pos a):ya ns op n pos [some a]=if op=2 then .ok (some ⟨n,[]⟩) else if op=3 then .ok (some (zu ns 1)) else if op=4 then .ok (some (zu ns 2)) else
  if op=5 then .ok (some a) else if op=11\/op=12\/op=13 then (if a.ar=2 then .ok (some (binK ns op a)) else .error (42,pos)) else .ok none:=rfl
theorem apK2(ns op n pos a b) : ya ns op n pos [some a, some b] = if op = 2 then .ok (some ⟨n, []⟩) else if op = 3 then .ok (some (zu ns 1)) else if op = 4 then .ok (some (zu ns 2)) else
      if op=6\/op=14\/op=7\/op=8\/op=32\/op=33 then (if a.ar=b.ar then .ok (some (vY op a b)) else .error (42,pos))
      else if op=9 then (if 1<=a.ar+b.ar-2/\a.ar+b.ar-2<=3 then .ok (some (zH a b)) else .error (42,pos))
      else if op=10 then (if a.ar+b.ar<=3 then .ok (some (uz a b)) else .error (42,pos))
      else .ok none:=rfl
theorem qoW{ns}(J:ns<=4){op num pos l l' R}(e1:op≠1)(a0:op≠15)
  (h1:op=5\/op=11\/op=12\/op=13->∃ a j,l=[some a]/\l'=[some j]/\Sub j a/\okKd ns a)
  (h2:op=6\/op=14\/op=7\/op=8\/op=32\/op=33\/op=9\/op=10->∃ a b j b',l=[some a,some b]/\l'=[some j,some b']/\Sub j a/\Sub b' b)
  (h:ya ns op num pos l = .ok R):∃ p,ya ns op num pos l' = .ok p/\(kd op=101->∃ k k',R=some k/\p=some k'/\Sub k' k):=by
 by_cases o:op=2
 .unfold ya at h⊢
  rw[if_pos o]at h⊢;cases h;exact⟨_,rfl,fun _=>⟨_,_,rfl,rfl,Sub.refl _⟩⟩
 by_cases r:op=3
 .unfold ya at h⊢
  rw[if_neg o,if_pos r]at h⊢;cases h;exact⟨_,rfl,fun _=>⟨_,_,rfl,rfl,Sub.refl _⟩⟩
 by_cases t:op=4
 .unfold ya at h⊢
  rw[if_neg o,if_neg r,if_pos t]at h⊢;cases h;exact⟨_,rfl,fun _=>⟨_,_,rfl,rfl,Sub.refl _⟩⟩
 by_cases g1:op=5\/op=11\/op=12\/op=13
 .obtain ⟨a,j,rfl,rfl,T,ok⟩:=h1 g1
  rw[apK1,if_neg o,if_neg r,if_neg t]at h⊢;by_cases U:op=5
  .rw [if_pos U]at h⊢
   cases h
   grind
  have g:op=11\/op=12\/op=13:=zOm;rw[if_neg U,if_pos g]at h⊢;by_cases i:a.ar=2
  .rw [if_pos i]at h
   rw[if_pos (T.1.trans i)];cases h;exact⟨_,rfl,fun _=>⟨_,_,rfl,rfl,qoV J T ok i⟩⟩
  grind
 by_cases g2:op=6\/op=14\/op=7\/op=8\/op=32\/op=33\/op=9\/op=10
 .obtain ⟨a,b,j,b',rfl,rfl,C,I⟩:=h2 g2
  have q1:=C.1;have q2:=I.1;rw[apK2,if_neg o,if_neg r,if_neg t]at h⊢;by_cases g3:op=6\/op=14\/op=7\/op=8\/op=32\/op=33
  .rw [if_pos g3]at h⊢
   by_cases i:a.ar=b.ar
   .rw [if_pos i]at h
    rw[if_pos zOm];cases h;exact⟨_,rfl,fun _=>⟨_,_,rfl,rfl,qoU C I⟩⟩
   grind
  rw[if_neg g3]at h⊢;by_cases e9:op=9
  .rw [if_pos e9]at h⊢
   by_cases i:1<=a.ar+b.ar-2/\a.ar+b.ar-2<=3
   .rw [if_pos i]at h
    rw[if_pos zOm];cases h;exact⟨_,rfl,fun _=>⟨_,_,rfl,rfl,UQ C I⟩⟩
   grind
  have P:op=10:=zOm;rw[if_neg e9,if_pos P]at h⊢;by_cases i:a.ar+b.ar<=3
  .rw [if_pos i]at h
   rw[if_pos zOm];cases h;exact⟨_,rfl,fun _=>⟨_,_,rfl,rfl,qoQ C I⟩⟩
  grind
 refine⟨none,Ux o r t zOm zOm zOm zOm zOm zOm zOm zOm zOm zOm zOm zOm,fun hk=>?_⟩;have:=Uz hk;omega
theorem qoX{c n k}(h:yq c n=false)(g:k∈n.sD):yq c k=false:=by
 grind [Ul,Bool.or_eq_false_iff,List.any_eq_false]
theorem KP{c b b'}:∀{ks s},(∀ k,k∈ks->∀ s,exam c s b k=exam c s b' k)->qY c s b ks=qY c s b' ks
 | [],s,_=>by simp only[qY]
 |k :: ks,s,h=>by
  simp only[qY];rw[h k (zd ..) s,KP fun k g s=>h k (qW _ g) s]
theorem qoY{c b b' pos}:∀{ks s},(∀ k,k∈ks->∀ s,exam c s b k=exam c s b' k)->yd c s b nm pos ks=yd c s b' nm pos ks
 | [],s,_=>by simp only[yd]
 |k :: ks,s,h=>by
  grind [yd,zd,exam,KP,qW]
theorem qbR(c):∀ m n s b b',szN n<=m->yq c n=false->exam c s b n=exam c s b' n
 | 0,n,_,_,_,g,_=>by obtain⟨op,nm,i,ks,p⟩:=n;simp[szN]at g
 |m+1,n,s,b,b',g,h=>by
  have j:∀ b b' k,k∈n.sD->∀ s,exam c s b k=exam c s b' k:=fun b b' k l s=>qbR c m k s b b' (zW1 (ym l)) (qoX h l)
  have o:zS c n.op n.name=false:=by rw[Ul,Bool.or_eq_false_iff]at h;exact h.1
  rw[y8,y8,o,Bool.and_false,Bool.and_false];rw[qoY (b:=b||decide (n.op=15)) (b':=b'||decide (n.op=15)) (j _ _),KP (b:=b||decide (n.op=12)||decide (n.op=13)) (b':=b'||decide (n.op=12)||decide (n.op=13)) (j _ _)]
theorem US(ts i):∀ m,i<m->m<=ts.sT.length->∀ j,(tmsL ts m).getD i false=yq (mkCk ts i) ts.sT[i].body
 | 0,h,_,_=>absurd h zOm
 |m+1,h,r,j=>by
  have l:=ZH ts m zOm;have g:m<ts.sT.length:=zOm;have e:tmsL ts (m+1)=tmsL ts m++[yq (mkCk ts m) ts.sT[m].body]:=by
   show tmsL ts m++(match ts.sT[m]? with|some p=>[yq ⟨ts,m,tmsL ts m⟩ p.body] | none=>[])=_;rw[qw g];rfl
  rw[e];by_cases o:i<m
  .rw [<-US ts i m o zOm j]
   simp only[zC];rw[zGa]
  .have:i=m:=by omega
   subst this;simp only[zC];rw[zE zOm,l];simp
abbrev tkn(es:List (tG×Bool))(nm:tG):Prop:=getK nm es=some true
def Tk(es:List (tG×Bool))(n:Nd):Prop:=∀ x,x∈preN n->tkn es x.name
def OwnT(n:Nd):Prop:=∀ x,x∈preN n->ownB x=true
def vLe(es:List (tG×Bool))(L:Int)(nm:tG):Prop:=∃ j:Nat,(j:Int)<=L/\nm=vN j/\¬tkn es nm/\y9 nm=true
structure qoZ (es:List (tG×Bool)) (L:Int) (x:Nd):Prop where
 nc:x.op≠47
 own:ownB x=true
 nm:tkn es x.name\/vLe es L x.name
structure vt (es:List (tG×Bool)) (L:Int) (n:Nd):Prop where
 wf:WfN n
 all:∀ x,x∈preN n->qoZ es L x
theorem vLe.mono{L L'}(h:vLe es L nm)(g:L<=L'):vLe es L' nm:=by
 obtain⟨j,a,b⟩:=h;exact⟨j,zOm,b⟩
theorem vt.mono{L L' n}(h:vt es L n)(i:L<=L'):vt es L' n:=
 ⟨h.wf,fun x g=>⟨(h.all x g).nc,(h.all x g).own,(h.all x g).nm.imp id fun v=>v.mono i⟩⟩
theorem Tk.kid{n k}(h:Tk es n)(g:k∈n.sD):Tk es k:=fun x i=>h x (Kx g i)
theorem OwnT.kid{n k}(h:OwnT n)(g:k∈n.sD):OwnT k:=fun x i=>h x (Kx g i)
theorem UT{ks x}(h:x∈zp ks):∃ k,k∈ks/\x∈preN k:=by
 induction ks with
 |nil=>simp[zp]at h
 |cons a l g =>
  simp only[zp,qH]at h;rcases h with h|h
  .exact ⟨a,zd ..,h⟩
  .obtain ⟨k,i,j⟩:=g h
   exact⟨k,qW _ i,j⟩
theorem qo0{n}(h:wd nm n):∃ x,x∈preN n/\x.name=nm:=by
 unfold wd at h;rw[UN _ (szN n) n (qo _),List.any_eq_true]at h
 grind
theorem KQ{ts es}:∀{f k},(∃ j:Nat,1<=j/\j<=f/\yB ts es (vN (k+j))=true)->yB ts es (vN (zq ts es f k))=true
 | 0,k,⟨j,i,l,_⟩=>zOm
 |f+1,k,⟨j,i,l,g⟩=>by
  simp only[zq];split
  .rename_i h;exact h
  .rename_i o
   have p:j≠1:=fun e=>by subst e;exact o g
   exact KQ (ts:=ts) (es:=es) (f:=f) (k:=k+1) ⟨j-1,zOm,zOm,by rw[show k+1+((j-1:Nat):Int)=k+j by omega];exact g⟩
theorem qbS:∀ m u,u<10 ^ (m+1)->(Lib.decDigits u).length<=m+1
 | 0,u,h=>by
  grind [Lib.decDigits]
 |m+1,u,h=>by
  rw[Lib.decDigits];split
  .simp
  .rw [qX]
   have:=qbS m (u / 10) (by rw[Nat.pow_succ]at h;omega);simp only[zz,List.length_nil];omega
theorem qbT:∀ m u,u<=m->∀ x,x∈Lib.decDigits u->48<=x.toNat/\x.toNat<=57
 |m,u,i,x,g=>by
  rw[Lib.decDigits]at g;split at g
  .rename_i h
   rw[qT]at g;subst g;rw[UInt8.toNat_ofNat_of_lt' (by simp[UInt8.size];omega)];omega
  .rename_i h
   rcases qH.1 g with g|g
   .match m with
    | 0=>omega
    |m+1=>exact qbT m (u / 10) zOm x g
   .rw [qT]at g
    subst g;rw[UInt8.toNat_ofNat_of_lt' (by simp[UInt8.size];omega)];omega
theorem qo1(u):Lib.decDigits u≠[]:=by
 rw[Lib.decDigits];split<;>simp
theorem qo2(j:Nat):(vN (j:Int)).data.toList=118 :: Lib.decDigits j:=by
 simp_all[vN,jm,Lib.itoa,if_neg]
theorem qo3:∀ x,x∈kwL->∀ c,x.data.toList[1]?=some c->¬(48<=c.toNat/\c.toNat<=57):=by decide +kernel
theorem qo4{j:Nat}(h:j<1000000000000):y9 (vN (j:Int))=true:=by
 have l:=qo2 j;have J:=qbS 11 j zOm;have p:=qbT j j (qo _);have t:=qo1 j;obtain⟨d,r,e⟩:=List.exists_cons_of_ne_nil t;have C:(vN (j:Int)).size=1+(Lib.decDigits j).length:=by
  have e:(vN (j:Int)).size=(vN (j:Int)).data.toList.length:=by rw[Array.length_toList];rfl
  rw[e,l,zz,Nat.add_comm]
 have o:kwB (vN (j:Int))=false:=by
  unfold kwB;rw[List.any_eq_false];intro x I g;have g:x=vN (j:Int):=zUs g;refine qo3 x I d ?_ (p d (by rw[e];exact zd ..));rw[g,l,e];rfl
 unfold y9;simp only[qD,decide_eq_true_eq,o,Bool.not_false,and_true];refine⟨⟨zOm,zOm⟩,?_⟩;rw[zb];intro i _;rw[<-Array.getElem?_toList,l];cases i with
 |zero=>show chB 0 ((118:UInt8).toNat:Int)=true;decide
 |succ i =>
  rw[vw];cases g:(Lib.decDigits j)[i]? with
  |none=>rfl
  |some c =>
   have:=p c (qU g);simp[chB];right;right;omega
end
end PC
namespace PD
open P1 P2 Y1 Y2 Y9 YX YZ YA YB PA YC YG Q3 Q4 PB PC
section
variable {body:Bool}{nm:tG}{c0:Ck}{env:IEnv}{L:Int}{es:List (tG×Bool)}{l l':List (Option Kd)}{s s':Scp}
structure ArgR (c0:Ck) (es:List (tG×Bool)) (L:Int) (s':Scp) (k:Kd) (a:Nd):Prop where
 ex:∃ k',exam c0 s' true a = .ok (some k')/\Sub k' k
 good:vt es L a
 kd:kd a.op=101
def RlV(c0:Ck)(es:List (tG×Bool))(L:Int)(s':Scp)(v:tG):Option Kd->Option IV->Prop
 |none,none=>True
 |none,some _=>False
 |some k,none=>∃ g,lookS v s'=some g/\Sub g k
 |some k,some ⟨some a,_,_⟩=>ArgR c0 es L s' k a
 |some k,some ⟨none,_,i⟩=>(∃ g,lookS i s'=some g/\Sub g k)/\vLe es L i
structure Rl (c0:Ck) (es:List (tG×Bool)) (L:Int) (body:Bool) (s s':Scp) (env:IEnv):Prop where
 mean:∀ v,v∈s'->means c0.ts v.1=[]
 rel:∀ v,tkn es v->RlV c0 es L s' v (lookS v s) (getK v env)
 arg:body=false->∀ v iv,getK v env=some iv->iv.arg=none
theorem RlV.mono{L' v g i}(h:RlV c0 es L s' v g i)(j:L<=L'):RlV c0 es L' s' v g i:=by
 match g,i with
 |none,none=>exact h
 |none,some _=>exact h
 |some k,none=>exact h
 |some k,some ⟨some a,_,_⟩ =>
  have h:ArgR c0 es L s' k a:=h;exact(⟨h.ex,h.good.mono j,h.kd⟩:ArgR c0 es L' s' k a)
 |some k,some ⟨none,_,l⟩=>exact⟨h.1,h.2.mono j⟩
theorem Rl.mono{L'}(h:Rl c0 es L body s s' env)(g:L<=L'):Rl c0 es L' body s s' env:=
 ⟨h.mean,fun v i=>(h.rel v i).mono g,h.arg⟩
theorem UU:∀{s k},lookS nm s=some k->(nm,k)∈s
 | [],k,h=>by simp[qnL]at h
 |v :: s,k,h=>by
  rw[Zg]at h;split at h
  .rename_i e
   cases h;rw[<-e];exact zd ..
  .exact qW _ (UU h)
theorem Rl.bind{st:ISt}{k k'}(a4:Free c0.ts es)(a0:(env.map Prod.fst).Nodup)(h:Rl c0 es st.last body s s' env)(h0:0<=st.last)(hb:st.last+(qk c0.ts es:Nat)<1000000000000)(ht:tkn es nm)(hs:Sub k' k) :
  Rl c0 es (renI c0.ts es env nm body st).2.last body ((nm,k) :: s) (((renI c0.ts es env nm body st).1.2,k') :: s') (renI c0.ts es env nm body st).1.1/\st.last<=(renI c0.ts es env nm body st).2.last/\(tkn es (renI c0.ts es env nm body st).1.2\/vLe es (renI c0.ts es env nm body st).2.last (renI c0.ts es env nm body st).1.2):=by
 have a1:∀ v,lookS v ((nm,k) :: s)=if nm=v then some k else lookS v s:=fun v=>Zg v _ _
 unfold renI;by_cases hc:body=true\/means c0.ts nm≠[]
 .rw [if_pos hc]
  have a2:=a4 st.last h0;have o:=KQ a2;have a9:=Ky c0.ts es (qk c0.ts es) st.last;have a7:=Kz a2;generalize zq c0.ts es (qk c0.ts es) st.last=J at *
  obtain⟨j,rfl⟩:∃ j:Nat,J=j:=⟨J.toNat,zOm⟩;simp only[yB,qD,decide_eq_true_eq]at o;obtain⟨f1,f2⟩:=o;have hv:vLe es (j:Int) (vN j):=⟨j,vf _,rfl,f1,qo4 zOm⟩;have T:∀ v,v≠vN (j:Int)->lookS v ((vN (j:Int),k') :: s')=lookS v s':=fun v hv=>by
   rw[Zg,if_neg (fun e=>hv e.symm)]
  have a5:∀{v:tG},vLe es st.last v->v≠vN (j:Int):=fun⟨i,hi,e,_⟩ r=>by
   grind [qbG]
  have a3:∀ v,getK v (setK nm ⟨none,0,vN (j:Int)⟩ (delK nm env))=if v=nm then some ⟨none,0,vN (j:Int)⟩ else getK v env:=fun v=>by
   grind [j7,Qr]
  refine⟨⟨fun v U=>?_,fun v C=>?_,fun p v I g=>?_⟩,by grind,.inr hv⟩
  .rcases qt.1 U with rfl|U
   .exact f2
   .exact h.mean v U
  .show RlV c0 es (j:Int) ((vN (j:Int),k') :: s') v (lookS v ((nm,k) :: s)) (getK v (setK nm ⟨none,0,vN (j:Int)⟩ (delK nm env)))
   rw[a1,a3];by_cases t:nm=v
   .rw [if_pos t,if_pos t.symm]
    exact⟨⟨k',by rw[Zg,if_pos rfl],hs⟩,hv⟩
   .rw [if_neg t,if_neg (fun e=>t e.symm)]
    have l:=(h.rel v C).mono (L':=(j:Int)) zOm;have P:=h.rel v C;generalize lookS v s=lk at *
    generalize getK v env=I at *
    match lk,I with
    |none,none=>trivial
    |none,some _=>exact l
    |some q,none =>
     obtain⟨R,e1,r⟩:=l;exact⟨R,by grind,r⟩
    |some q,some ⟨some a,_,_⟩ =>
     have l:ArgR c0 es (j:Int) s' q a:=l;have P:ArgR c0 es st.last s' q a:=P;refine(⟨?_,l.good,l.kd⟩:ArgR c0 es (j:Int) ((vN (j:Int),k') :: s') q a);obtain⟨R,e1,r⟩:=l.ex;refine⟨R,?_,r⟩;rw[<-e1];refine qa3 (we.refl c0) (szN a) a _ _ true (qo _) fun x hx=>?_
     obtain⟨y,hy,rfl⟩:=qo0 hx;rcases (P.good.all y hy).nm with h1|h1
     .grind
     grind
    |some q,some ⟨none,_,to⟩ =>
     obtain⟨⟨R,e1,r⟩,e3⟩:=l;exact⟨⟨R,by rw[T to (a5 P.2)];exact e1,r⟩,e3⟩
  .have g:getK v (setK nm ⟨none,0,vN (j:Int)⟩ (delK nm env))=some I:=g
   rw[a3]at g;split at g
   .cases g;rfl
   .exact h.arg p v I g
 .rw [if_neg hc]
  have p:body=false:=by
   grind
  have a6:means c0.ts nm=[]:=by
   grind
  have T:∀ v,v≠nm->lookS v ((nm,k') :: s')=lookS v s':=fun v hv=>by
   rw[Zg,if_neg (fun e=>hv e.symm)]
  refine⟨⟨fun v U=>?_,fun v C=>?_,fun p v I g=>?_⟩,vf _,.inl ht⟩
  .rcases qt.1 U with rfl|U
   .exact a6
   .exact h.mean v U
  .show RlV c0 es st.last ((nm,k') :: s') v (lookS v ((nm,k) :: s)) (getK v (delK nm env))
   rw[a1,Qr a0];by_cases t:nm=v
   .rw [if_pos t,if_pos t.symm]
    exact⟨k',by rw[Zg,if_pos t],hs⟩
   .rw [if_neg t,if_neg (fun e=>t e.symm)]
    have l:=h.rel v C;have a8:=h.arg p v;generalize lookS v s=lk at *
    generalize getK v env=I at *
    match lk,I with
    |none,none=>trivial
    |none,some _=>exact l
    |some q,none =>
     obtain⟨R,e1,r⟩:=l;exact⟨R,by grind,r⟩
    |some q,some ⟨some a,_,_⟩=>grind
    |some q,some ⟨none,_,to⟩ =>
     obtain⟨⟨R,e1,r⟩,e3⟩:=l;refine⟨⟨R,?_,r⟩,e3⟩;rw[T to fun e=>?_]
     .exact e1
     .obtain ⟨_,_,_,hn,_⟩:=e3
      grind
  .have g:getK v (delK nm env)=some I:=g
   rw[Qr a0]at g;split at g
   .cases g
   .exact h.arg p v I g
structure Out (c0:Ck) (es:List (tG×Bool)) (s':Scp) (inn:Bool) (n n':Nd) (ko:Option Kd) (L L':Int):Prop where
 ex:∃ ko',exam c0 s' inn n' = .ok ko'/\(kd n.op=101->∃ k k',ko=some k/\ko'=some k'/\Sub k' k)
 good:vt es L' n'
 kd:kd n'.op=kd n.op
 le:L<=L'
def Pt(es:List (tG×Bool))(L:Int):List Nd->List Nd->List (Option Kd)->List (Option Kd)->Prop
 | [],[],[],[]=>True
 |k :: ks,i :: g,a :: l,o :: p=>((kd k.op=101->∃ q j,a=some q/\o=some j/\Sub j q)/\kd i.op=kd k.op/\vt es L i)/\Pt es L ks g l p
 |_,_,_,_=>False
theorem Pt.spec:∀{ks g l l'},Pt es L ks g l l'->(g.map fun k=>kd k.op)=(ks.map fun k=>kd k.op)/\∀ k,k∈g->vt es L k
 | [],[],[],[],_=>⟨rfl,fun k j=>absurd j qF⟩
 |k :: ks,k' :: g,a :: l,r :: l',h=>by
  obtain⟨⟨t,C,o⟩,p⟩:=h;obtain⟨I,J⟩:=Pt.spec p;refine⟨by grind,fun x i=>?_⟩;rcases qt.1 i with rfl|i
  .exact o
  grind
theorem Pt.cons{k ks j}(h:Pt es L (k :: ks) j l l'):∃ k' g a l2 o i,j=k' :: g/\l=a :: l2/\l'=o :: i/\(kd k.op=101->∃ q p,a=some q/\o=some p/\Sub p q)/\Pt es L ks g l2 i:=by
 cases j with
 |nil=>cases l<;>cases l'<;>exact h.elim
 |cons k' g =>
  cases l with
  |nil=>cases l'<;>exact h.elim
  |cons a l2 =>
   cases l' with
   |nil=>exact h.elim
   |cons o i=>exact⟨k',g,a,l2,o,i,rfl,rfl,rfl,h.1.1,h.2⟩
theorem Pt.nil{g}(h:Pt es L [] g l l'):l=[]/\l'=[]:=by
 cases g with
 |nil =>
  cases l with
  |nil=>cases l' with
   |nil=>exact⟨rfl,rfl⟩
   |cons a l=>exact h.elim
  |cons a l=>cases l'<;>exact h.elim
 |cons k ks=>cases l<;>cases l'<;>exact h.elim
theorem Pt.one{ks i}(h:Pt es L ks i l l')(g:(ks.map fun k=>kd k.op)=[101]):∃ a j,l=[some a]/\l'=[some j]/\Sub j a:=by
 match ks,g with
 | [k],g =>
  obtain⟨t,o,a,C,j,p,rfl,rfl,rfl,I,r⟩:=h.cons;obtain⟨rfl,rfl⟩:=r.nil
  grind
 | [],g=>simp at g
 |_ :: _ :: _,g=>simp at g
theorem Pt.two{ks i}(h:Pt es L ks i l l')(g:(ks.map fun k=>kd k.op)=[101,101]):∃ a b o b',l=[some a,some b]/\l'=[some o,some b']/\Sub o a/\Sub b' b:=by
 match ks,g with
 | [k,j],g =>
  have g:kd k.op=101/\kd j.op=101:=zUs g;obtain⟨k',r,a,l2,o,t,rfl,rfl,rfl,C,I⟩:=h.cons;obtain⟨_,_,b,l3,b',J,rfl,rfl,rfl,P,R⟩:=I.cons;obtain⟨rfl,rfl⟩:=R.nil;obtain⟨q,T,rfl,rfl,e⟩:=C g.1;obtain⟨p,U,rfl,rfl,e2⟩:=P g.2;exact⟨q,p,T,U,rfl,rfl,e,e2⟩
 | [],g=>simp at g
 | [_],g=>simp at g
 |_ :: _ :: _ :: _,g=>simp at g
theorem qbU{c F inn E R} :
  ∀{ks i nm o st g j J l},
  (∀ k,k∈ks->∀ st n' z g I,StOk F st->Rl c0 es st.last body s s' env->E env k st = .ok ((n',z),g)->exam c s inn k = .ok I->Out c0 es s' inn k n' I st.last g.last/\StOk F g) ->
  StOk F st->Rl c0 es st.last body s s' env->yJ E R false i env nm ks st = .ok ((o,j,J),g)->qY c s inn ks = .ok l ->
  o=nm/\st.last<=g.last/\∃ l',qY c0 s' inn j = .ok l'/\Pt es g.last ks j l l'
 | [],i,nm,o,st,g,j,J,l,_,p,P,e,el=>by
  cases e;simp only[qY,Except.ok.injEq]at el;subst el;exact⟨rfl,vf _,[],by simp only[qY],trivial⟩
 |k :: ks,i,nm,o,st,g,j,J,l,U,p,P,e,el=>by
  simp only[yJ,Bool.false_eq_true,false_and,if_false]at e;simp only[qY]at el;split at e
  .cases e
  .rename_i k' m1 s1 h1
   cases hx:exam c s inn k with
   |error er=>grind
   |ok I =>
    rw[hx]at el;simp only at el;obtain⟨r,t⟩:=U k (zd ..) st k' m1 s1 I p P h1 hx;cases C:qY c s inn ks with
    |error er=>grind
    |ok l1 =>
     rw[C]at el;cases el;split at e
     .cases e
     .rename_i a0 a1 m2 s2 h2
      obtain⟨e1,e2,l',e3,e4⟩:=qbU (fun k hk=>U k (qW _ hk)) t (P.mono r.le) h2 C;cases e;obtain⟨T,x1,x2⟩:=r.ex;refine⟨e1,zW1 r.le,T :: l',?_,⟨⟨x2,r.kd,r.good.mono e2⟩,e4⟩⟩;simp only[qY];rw[x1,e3]
theorem YK{c op}(h:op≠47):zS c op nm=yp op:=by
 simp[zS,h]
theorem cH{n ks}(C:WfN n)(g:(ks.map fun k=>kd k.op)=(n.sD.map fun k=>kd k.op))(I:∀ k,k∈ks->vt es L k)(h47:n.op≠47)(o:ownB n=true)
  (J:nm=n.name/\tkn es nm\/vLe es L nm/\y9 n.name=true):vt es L (.mk n.op nm n.n ks n.pos):=by
 have l:ks.length=n.sD.length:=by have:=congrArg List.length g;grind
 have p:y9 nm=y9 n.name/\(nm=⟨#[]⟩↔n.name=⟨#[]⟩):=by
  rcases J with ⟨rfl,_⟩|⟨P,r⟩
  .exact ⟨rfl,Iff.rfl⟩
  .obtain ⟨j,_,_,_,t⟩:=P
   refine⟨t.trans r.symm,fun e=>?_,fun e=>?_⟩
   .rw [e]at t;exact absurd t zDe
   .rw [e]at r;exact absurd r zDe
 refine⟨.mk _ ?_ (fun h=>?_) fun k g=>(I k g).wf,fun x i=>?_⟩
 .show shp n.op ks.length=some (ks.map fun k=>kd k.op)
  rw[l,g];exact C.shape
 .exact C.num h
 .rw [u9]at i
  rcases qt.1 i with rfl|i
  .refine ⟨h47,?_,?_⟩
   .unfold ownB at o⊢
    show (if u6 n.op=y9 nm/\(u6 n.op=true\/nm=⟨#[]⟩) then numB n.op n.n else false)=true;split at o
    .rename_i R
     rw[if_pos ⟨by grind,R.2.imp id p.2.2⟩];exact o
    .cases o
   .rcases J with ⟨_,h⟩|⟨h,_⟩
    .exact .inl h
    .exact .inr h
  .obtain ⟨k,g,i⟩:=UT i
   exact(I k g).all x i
end
end PD
namespace PE
open P1 P2 Y1 Y2 Y3 Y9 Y10 Y14 YX YZ YA YB PA YC Q3 Q4 PB PC PD
section
variable {inn:Bool}{c c0:Ck}{es:List (tG×Bool)}{s s':Scp}
theorem UV{n}(h:n.op=1):exam c s inn n=jl c s n.name n.pos:=by
 rw[y8,YK zOm,h,show yp 1=false from rfl,Bool.and_false,if_neg zSp,if_pos rfl]
theorem qo5{n k}(h:exam c s true n = .ok k):exam c s inn n = .ok k:=by
 cases inn with
 |true=>exact h
 |false=>exact qbQ c (szN n) n s k (qo _) h
theorem KR{n}(g:WfN n)(h:n.op=1):n.sD=[]:=by
 have i:=g.shape;simp_all[shp,if_pos,qr,List.map_eq_nil_iff]
theorem qbV{L n}(i:WfN n)(h:n.op=1)(j:tkn es n.name)(l:ownB n=true):vt es L n:=
 ⟨i,fun x g=>by
  rw[u9,KR i h]at g;simp[zp]at g;subst g;exact⟨zOm,l,.inl j⟩⟩
theorem qbW{n}(g:ownB n=true)(h:u6 n.op=true):y9 n.name=true:=by
 grind [ownB]
theorem qo6{body env n n' z st l J}(P:c.ts=c0.ts)(j:n.op=1)(C:WfN n)(R:tkn es n.name)(I:ownB n=true)(T:Rl c0 es st.last body s s' env)
  (e:vK env n st = .ok ((n',z),l)) (x:exam c s inn n = .ok J):Out c0 es s' inn n n' J st.last l.last:=by
 rw[UV j,ZO]at x;have i:=T.rel n.name R;unfold vK at e;cases U:getK n.name env with
 |none =>
  rw[U]at e i;cases e;cases o:lookS n.name s with
  |some k =>
   rw[o]at i x;obtain⟨p,r,t⟩:=i;cases x;exact⟨⟨some p,by rw[UV j,ZO,r],fun _=>⟨_,_,rfl,rfl,t⟩⟩,qbV C j R I,rfl,vf _⟩
  |none =>
   rw[o]at x;simp only at x;have hq:lookS n.name s'=none:=by
    cases hq:lookS n.name s' with
    |none=>rfl
    |some q =>
     have:=T.mean _ (UU hq);rw[P,this]at x;cases x
   refine⟨⟨J,by grind [UV,ZO],fun _=>?_⟩,qbV C j R I,rfl,vf _⟩;split at x
   .cases x
   .cases x;exact⟨_,_,rfl,rfl,Sub.refl _⟩
   .cases x
 |some iv =>
  obtain⟨a,g,to⟩:=iv;rw[U]at e i;simp only at e;cases o:lookS n.name s with
  |none=>rw[o]at i;exact i.elim
  |some k =>
   rw[o]at i x;cases x;cases a with
   |none =>
    cases e;obtain⟨⟨p,r,t⟩,e3⟩:=i;refine⟨⟨some p,by rw[UV (n := .mk n.op to n.n n.sD n.pos) j,ZO];show (match lookS to s' with|some k=>_|none=>_)=_;rw[r],fun _=>⟨_,_,rfl,rfl,t⟩⟩,?_,rfl,vf _⟩;refine cH C rfl (fun k hk=>?_) zOm I (.inr ⟨e3,qbW I (by rw[j];rfl)⟩);rw[KR C j]at hk;exact absurd hk qF
   |some a =>
    simp only at e;have i:ArgR c0 es st.last s' k a:=i;obtain⟨p,r,t⟩:=i.ex;split at e
    .cases e
     exact⟨⟨some p,qo5 r,fun _=>⟨_,_,rfl,rfl,t⟩⟩,i.good,by rw[i.kd,j];rfl,vf _⟩
    .cases e
def OwnV(c0:Ck)(es:List (tG×Bool))(L:Int)(s':Scp):Option Kd->Option IV->Prop
 |none,none=>True
 |some k,some ⟨some a,_,_⟩=>ArgR c0 es L s' k a
 |_,_=>False
theorem OwnV.mono{L L' g i}(h:OwnV c0 es L s' g i)(j:L<=L'):OwnV c0 es L' s' g i:=by
 match g,i with
 |none,none=>exact h
 |none,some _=>exact h.elim
 |some k,none=>exact h.elim
 |some k,some ⟨some a,_,_⟩ =>
  have h:ArgR c0 es L s' k a:=h;exact(⟨h.ex,h.good.mono j,h.kd⟩:ArgR c0 es L' s' k a)
 |some k,some ⟨none,_,l⟩=>exact h.elim
theorem qo7{ns i a}(h:okKd ns a)(g:a.ar=1)(p:uA i a=true):Sub a (kOf [i]):=⟨by rw[g];rfl,fun t j=>by
 obtain⟨l,rfl,o,_⟩:=h.ts t j;rw[g]at o
 match l,o with
 | [y],_ =>
  have:=zb.1 p _ j;simp[pad]at this;subst this;exact qT.2 rfl⟩
theorem qbX{ns F body env pos E P} :
  ∀{ks ps}{own i:IEnv}{sc st g},
  (∀ k,k∈ks->∀ st n' z g P,StOk F st->Rl c0 es st.last body s s' env->E k st = .ok ((n',z),g)->exam c s true k = .ok P->Out c0 es s' true k n' P st.last g.last/\StOk F g) ->
  (∀ k,k∈ks->kd k.op=101)->(∀ k,k∈ks->∀ a,exam c s true k = .ok (some a)->okKd ns a)->StOk F st->Rl c0 es st.last body s s' env ->
  (∀ v,OwnV c0 es st.last s' (lookS v sc) (getK v own))->ps.length=ks.length->z6 c s pos ps ks = .ok P->ji E ps ks own st = .ok (i,g) ->
  st.last<=g.last/\∀ v,OwnV c0 es g.last s' (lookS v (ps.foldl (fun s p=>(p.1,kOf [p.2]) :: s) sc)) (getK v i)
 | [],[],own,i,sc,st,g,_,_,_,_,_,U,_,_,e=>by
  cases e;exact⟨vf _,U⟩
 |k :: ks,p :: ps,own,i,sc,st,g,hE,R,j,a0,hr,U,l,x,e=>by
  simp only[z6]at x;simp only[ji]at e;cases hx:exam c s true k with
  |error er=>grind
  |ok ka =>
   cases ka with
   |none=>grind
   |some a =>
    rw[hx]at x;simp only at x;by_cases o:a.ar=1
    .rw [if_pos o]at x
     by_cases r:uA p.2 a=true
     .rw [if_pos r]at x
      split at e
      .cases e
      .rename_i k' m s1 h1
       obtain⟨out,t⟩:=hE k (zd ..) st k' m s1 _ a0 hr h1 hx;obtain⟨a1,x1,x2⟩:=out.ex;have C:=R k (zd ..);obtain⟨q,q',y1,y2,y3⟩:=x2 C;cases y1;subst y2;have hs:=y3.trans (qo7 (j k (zd ..) a hx) o r);have I:ArgR c0 es s1.last s' (kOf [p.2]) k':=⟨⟨q',x1,hs⟩,out.good,by rw[out.kd];exact C⟩;have J:∀ v,OwnV c0 es s1.last s' (lookS v ((p.1,kOf [p.2]) :: sc)) (getK v (setK p.1 ⟨some k',m,⟨#[]⟩⟩ own)):=fun v=>by
        rw[Zg,j7];by_cases T:p.1=v
        .rw [if_pos T,if_pos T.symm]
         exact I
        .rw [if_neg T,if_neg (fun e=>T e.symm)]
         exact(U v).mono out.le
       obtain⟨r1,r2⟩:=qbX (sc:=(p.1,kOf [p.2]) :: sc) (fun k R=>hE k (qW _ R)) (fun k h=>R k (qW _ h)) (fun k h=>j k (qW _ h)) t (hr.mono out.le) J (zUs l) x e;exact⟨zW1 out.le,r2⟩
     grind
    grind
 | [],_ :: _,_,_,_,_,_,_,_,_,_,_,_,l,_,_=>by simp at l
 |_ :: _,[],_,_,_,_,_,_,_,_,_,_,_,l,_,_=>by simp at l
def KS(ts:TS)(es:List (tG×Bool)):Prop:=∀(i:Nat)(j:i<ts.sT.length),(∃ g,exam (mkCk ts i) (ye ts.sT[i].params) false ts.sT[i].body = .ok g)/\30<=ts.sT[i].body.op/\WfN ts.sT[i].body/\Tk es ts.sT[i].body/\OwnT ts.sT[i].body
abbrev ckF(ts:TS):Ck:=mkCk ts ts.sT.length
def IHx(ts:TS)(es:List (tG×Bool))(f:Nat):Prop:=∀(env:IEnv)(n:Nd)(g:Bool)(U:ISt)(l:Nd)(z:Int)(i:ISt)(s o:Scp)(j:Bool)(m:Nat)(p:Option Kd),
 m<=ts.sT.length->WfN n->Tk es n->OwnT n->ScOk ts.sS.length s->StOk (qk ts es) U->zo env->Rl (ckF ts) es U.last g s o env ->
 expI ts es f env n g U = .ok ((l,z),i)->exam (mkCk ts m) s j n = .ok p->Out (ckF ts) es o j n l p U.last i.last
theorem qbY{n}(i:WfN n)(h:30<=n.op):kd n.op=102:=by
 have g:=i.shape;have:n.op<=51:=by
  by_cases j:n.op<=51
  .exact j
  .exfalso
   unfold shp at g;rw[zIn,zIn,zIn,zIn,zIn,zIn,zIn,zIn]at g;cases g
 unfold kd;omega
theorem KT{n}(i:WfN n)(h:n.op=47):∀ k,k∈n.sD->kd k.op=101:=by
 have g:=i.shape;have e:shp n.op n.sD.length=some (qS (min n.sD.length 401) 101):=by
  unfold shp;rw[zIn,zIn,zIn,zIn,zIn,zIn,zIn,if_pos h]
 rw[e]at g;simp only[qr]at g;intro k j;have:kd k.op∈n.sD.map fun k=>kd k.op:=qi.2 ⟨k,j,rfl⟩
 grind
theorem qo8(ts)(h:okTS ts)(es)(hP:KS ts es)(a3:Free ts es)(f)(ih:IHx ts es f)(env n body st n' z g s s' inn m ko)
  (hm:m<=ts.sT.length) (hw:WfN n) (ht:Tk es n) (ho:OwnT n) (hs:ScOk ts.sS.length s) (o:StOk (qk ts es) st) (R:zo env) (hr:Rl (ckF ts) es st.last body s s' env) (h47:n.op=47)
  (e:((match ts.sT.find? fun p=>decide (p.name=n.name) with
    |none=>Except.error (2,0)
    |some p=>vP (ji (fun k s=>expI ts es f env k body s) p.params n.sD [] st) fun own s'=>expI ts es f own p.body true s'):XR (Nd×Int)) = .ok ((n',z),g))
  (x:exam (mkCk ts m) s inn n = .ok ko):Out (ckF ts) es s' inn n n' ko st.last g.last:=by
 have hc:okCk (mkCk ts m):=uD h hm;rw[y8,if_neg (show ¬n.op=1 by omega),if_pos h47]at x;split at x
 .cases x
 rename_i I;split at x
 .cases l:zn (mkCk ts m) n.name with
  |none=>grind
  |some i =>
   obtain⟨T,t⟩:=Qx hc l;have T:i<m:=T;have t:i<ts.sT.length:=t;rw[l]at x;simp only at x;have x:((match ts.sT[i]? with|none=>Except.error (45,n.pos)|some C=>if C.params.length=n.sD.length then z6 (mkCk ts m) s n.pos C.params n.sD else .error (45,n.pos)):Res) = .ok ko:=x;rw[qw t]at x;simp only at x;have U:(ts.sT.find? fun p=>decide (p.name=n.name))=some ts.sT[i]:=by
    unfold zn at l;rw[List.findIdx?_eq_some_iff_getElem]at l;obtain⟨hi,a1,a2⟩:=l;rw[List.find?_eq_some_iff_getElem];refine⟨?_,i,t,rfl,fun j hj=>?_⟩
    .have:=a1
     simp only[List.getElem_take]at this;exact this
    .have:=a2 j hj
     simp only[List.getElem_take]at this;have h3:¬decide (ts.sT[j].name=n.name)=true:=this
     grind
   rw[U]at e;simp only at e;obtain⟨⟨kb,hb⟩,a4,a5,ad,ae⟩:=hP i t;have af:=h.pl _ (qn t);generalize ag:ts.sT[i]=C at *
   by_cases P:C.params.length=n.sD.length
   .rw [if_pos P]at x
    obtain⟨own,s1,h1,e⟩:=Yx e;have a6:=KT hw h47;have a7:∀ k,k∈n.sD->∀ st n' z g,StOk (qk ts es) st->expI ts es f env k body st = .ok ((n',z),g)->StOk (qk ts es) g:=fun k J st n' z g o e=>(jG ts a3 f o R e).ok o
    obtain⟨g1,g2⟩:=qbX (c:=mkCk ts m) (c0:=ckF ts) (ns:=ts.sS.length) (F:=qk ts es) (body:=body) (s:=s) (s':=s') (env:=env) (sc:=[]) (own:=[])
     (fun k J st n' z g ko o hr e x=>⟨ih env k body st n' z g s s' true m ko hm (hw.kid J) (ht.kid J) (ho.kid J) hs o R hr e x,a7 k J st n' z g o e⟩)
     a6 (fun k J a hx=>by
      obtain⟨q,e1,e2⟩:=v7 hc (szN k) k s true _ (qo _) (hw.kid J) hs hx (a6 k J);cases e1;exact e2)
     o hr (fun v=>trivial) P x h1
    obtain⟨a8,ah⟩:=KA (F:=qk ts es) (fun k n' z s s' _ hs hE=>jG ts a3 f hs R hE) o .nil h1;have a9:=ah.ok o;have ai:Rl (ckF ts) es s1.last true (ye C.params) s' own:=⟨hr.mean,fun v hv=>by
     have:=g2 v;have:OwnV (ckF ts) es s1.last s' (lookS v (ye C.params)) (getK v own):=this;generalize lookS v (ye C.params)=lk at *
     generalize getK v own=iv at *
     match lk,iv with
     |none,none=>trivial
     |some k,some ⟨some a,_,_⟩=>exact this
     |none,some _=>exact this.elim
     |some k,none=>exact this.elim
     |some k,some ⟨none,_,_⟩=>exact this.elim,fun aj=>by cases aj⟩
    have aa:ScOk ts.sS.length (ye C.params):=X1 ⟨zOm,af.2⟩;have ak:exam (mkCk ts i) (ye C.params) inn C.body = .ok kb:=by
     cases ab:inn with
     |false=>exact hb
     |true =>
      rw[<-hb];refine qbR _ (szN C.body) C.body _ _ _ (qo _) ?_;rw[ab]at I;have a0:zS (mkCk ts m) n.op n.name=false:=by simpa using I
      unfold zS at a0;rw[l,h47]at a0;have:=US ts i m T hm t;rw[ag]at this;rw[<-this];have an:(yp 47||(decide ((47:Int)=47)&&(tmsL ts m).getD i false))=false:=a0
      grind
    have out:=ih own C.body true s1 n' z g (ye C.params) s' inn i kb zOm a5 ad ae aa a9 a8 ai e ak;obtain⟨al,x1,_⟩:=out.ex;refine⟨⟨al,x1,fun J=>?_⟩,out.good,?_,zW1 out.le⟩
    .rw [h47]at J;exact absurd J zDe
    .rw [out.kd,qbY a5 a4,h47];rfl
   grind
 .cases x
theorem qbZ{n}(i:WfN n)(h:n.op=5\/n.op=11\/n.op=12\/n.op=13):(n.sD.map fun k=>kd k.op)=[101]:=by
 have g:=i.shape;unfold shp at g;rw[zIn,if_pos zOm]at g
 grind
theorem qo9{n}(i:WfN n)(h:n.op=6\/n.op=14\/n.op=7\/n.op=8\/n.op=32\/n.op=33\/n.op=9\/n.op=10):(n.sD.map fun k=>kd k.op)=[101,101]:=by
 have g:=i.shape;unfold shp at g;rw[zIn,zIn,if_pos zOm]at g
 grind
theorem UW{n}(i:WfN n)(h:n.op=15\/n.op=45\/n.op=46):∃ a f,n.sD=[a,f]/\kd a.op=101:=by
 have g:=i.shape;unfold shp at g;rw[zIn,zIn,zIn,if_pos zOm]at g;simp only[qr]at g
 match j:n.sD,g with
 | [a,f],g =>
  grind
 | [],g=>simp at g
 | [_],g=>simp at g
 |_ :: _ :: _ :: _,g=>simp at g
theorem qpA(ts)(h:okTS ts)(es)(a1:Free ts es)(f)(ih:IHx ts es f)(env n body st P t z o s s' inn m ko)
  (hm:m<=ts.sT.length) (J:WfN n) (ht:Tk es n) (ho:OwnT n) (hs:ScOk ts.sS.length s) (j:StOk (qk ts es) st) (R:zo env) (hr:Rl (ckF ts) es st.last body s s' env) (h47:n.op≠47) (h1:n.op≠1) (hb:¬(n.op=15\/n.op=45\/n.op=46))
  (e:yJ (fun env k s=>expI ts es f env k body s) (fun env nm s=>renI ts es env nm body s) (binB n.op) 0 env n.name n.sD st = .ok ((P,t,z),o))
  (x:exam (mkCk ts m) s inn n = .ok ko):Out (ckF ts) es s' inn n (.mk n.op P n.n t n.pos) ko st.last o.last:=by
 have hc:okCk (mkCk ts m):=uD h hm;have a2:binB n.op=false:=by
  simp_all[binB,not_or]
 rw[a2]at e;rw[y8,YK h47,if_neg h1,if_neg h47,if_neg hb]at x;split at x
 .cases x
 rename_i a3;have p:=x;clear x;generalize hB:(inn||decide (n.op=12)||decide (n.op=13))=B at p;cases hl:qY (mkCk ts m) s B n.sD with
 |error er=>grind
 |ok l =>
  rw[hl]at p;simp only at p;obtain⟨rfl,a4,l',a6,C⟩:=qbU (c:=mkCk ts m) (c0:=ckF ts) (F:=qk ts es) (body:=body) (s:=s) (s':=s') (env:=env)
   (fun k hk st n' z o ko j hr e x=>⟨ih env k body st n' z o s s' B m ko hm (J.kid hk) (ht.kid hk) (ho.kid hk) hs j R hr e x,(jG ts a1 f j R e).ok j⟩) j hr e hl
  obtain⟨T,I⟩:=C.spec;have U:=JV hl;obtain⟨a5,y1,y2⟩:=qoW (ns:=ts.sS.length) h.ns (op:=n.op) (num:=n.n) (pos:=n.pos) (l:=l) (l':=l') h1 (fun e=>hb (.inl e)) (fun g=>by
    obtain⟨a,a',rfl,rfl,e3⟩:=C.one (qbZ J g);refine⟨a,a',rfl,rfl,e3,?_⟩;have i:=qbZ J g
    match a0:n.sD,i with
    | [k],i =>
     rw[a0]at U;have hx:=U.2 0 k (some a) rfl rfl;obtain⟨q,e1,e2⟩:=v7 hc (szN k) k s B _ (qo _) (J.kid (by rw[a0];simp)) hs hx (zUs i);cases e1;exact e2
    | [],i=>simp at i
    |_ :: _ :: _,i=>simp at i)
   (fun g=>C.two (qo9 J g)) p
  refine⟨⟨a5,?_,y2⟩,cH J T I h47 (ho n (ud n)) (.inl ⟨rfl,ht n (ud n)⟩),rfl,a4⟩;rw[y8];show (if (inn&&zS (ckF ts) n.op n.name)=true then _ else if n.op=1 then _ else if n.op=47 then _ else if n.op=15\/n.op=45\/n.op=46 then _ else match qY (ckF ts) s' (inn||decide (n.op=12)||decide (n.op=13)) t with | .error e=>_ | .ok l=>ya ts.sS.length n.op n.n n.pos l)=_;simp_all[YK,if_neg]
theorem qpB(ts)(h:okTS ts)(es)(hF:qk ts es<=200000)(o:Free ts es)(f)(ih:IHx ts es f)(env n body st l a0 z J s s' inn m ko)
  (hm:m<=ts.sT.length) (hw:WfN n) (ht:Tk es n) (ho:OwnT n) (hs:ScOk ts.sS.length s) (P:StOk (qk ts es) st) (ag:(qk ts es:Nat)<=pot (qk ts es) st) (r:zo env) (hr:Rl (ckF ts) es st.last body s s' env) (hb:n.op=15\/n.op=45\/n.op=46)
  (e:yJ (fun env k s=>expI ts es f env k body s) (fun env nm s=>renI ts es env nm body s) (binB n.op) 0 env n.name n.sD st = .ok ((l,a0,z),J))
  (x:exam (mkCk ts m) s inn n = .ok ko):Out (ckF ts) es s' inn n (.mk n.op l n.n a0 n.pos) ko st.last J.last:=by
 have hc:okCk (mkCk ts m):=uD h hm;have a7:binB n.op=true:=by
  grind [binB]
 have h47:n.op≠47:=zOm;have h1:n.op≠1:=zOm;rw[a7]at e;rw[y8,YK h47,if_neg h1,if_neg h47,if_pos hb]at x;split at x
 .cases x
 rename_i R;obtain⟨a,g,t,a1⟩:=UW hw hb;have ma:a∈n.sD:=by rw[t];simp
 have mg:g∈n.sD:=by rw[t];simp
 rw[t]at e x;generalize hB:(inn||decide (n.op=15))=B at x;simp only[yd,qY]at x;simp only[yJ,z7,true_and,Nat.zero_ne_one,if_false,if_true]at e;cases T:exam (mkCk ts m) s B a with
 |error er=>grind
 |ok ka =>
  cases ka with
  |none=>grind
  |some k =>
   rw[T]at x;simp only at x;by_cases U:k.ar=1
   .rw [if_pos U]at x
    split at e
    .cases e
    .rename_i a' m1 s1 e1
     have out:=ih env a body st a' m1 s1 s s' B m _ hm (hw.kid ma) (ht.kid ma) (ho.kid ma) hs P r hr e1 T;have a2:=jG ts o f P r e1;have i:=a2.ok P;obtain⟨ai,x1,x2⟩:=out.ex;obtain⟨q,k',y1,y2,y3⟩:=x2 a1;cases y1;subst y2;obtain⟨q,y4,a8⟩:=v7 hc (szN a) a s B _ (qo _) (hw.kid ma) hs T a1;cases y4;have C:=J8 o (env:=env) (nm:=n.name) (body:=body) i.l0;have a3:=J7 (ts:=ts) (es:=es) (nm:=n.name) (body:=body) (s:=s1) r;have a9:=i.last;obtain⟨w1,w2,I⟩:=Rl.bind (c0:=ckF ts) (st:=s1) (nm:=n.name) (k:=k) (k':=k') o r.nd (hr.mono out.le) i.l0 (by show s1.last+(qk ts es:Nat)<_;omega) (ht n (ud n)) y3;have w1:Rl (ckF ts) es (renI ts es env n.name body s1).2.last body ((n.name,k) :: s) (((renI ts es env n.name body s1).1.2,k') :: s') (renI ts es env n.name body s1).1.1:=w1;have w2:s1.last<=(renI ts es env n.name body s1).2.last:=w2;have I:tkn es (renI ts es env n.name body s1).1.2\/vLe es (renI ts es env n.name body s1).2.last (renI ts es env n.name body s1).1.2:=I;have w4:(renI ts es env n.name body s1).1.2=n.name\/vLe es (renI ts es env n.name body s1).2.last (renI ts es env n.name body s1).1.2:=by
      rcases I with I|I
      .left
       unfold renI at I⊢;split
       .rename_i aa
        rw[if_pos aa]at I;exfalso;have ab:=o s1.last i.l0;have ad:=KQ ab;simp_all[yB,qD,decide_eq_true_eq]
       .rfl
      grind
     generalize ah:renI ts es env n.name body s1=ae at *
     obtain⟨⟨a4,aj⟩,s2⟩:=ae;simp only at C a3 w1 w2 I w4 e;have a5:StOk (qk ts es) s2:=⟨C.1,by rw[C.2.2];exact i.c0,by rw[C.2.2];exact i.c1,by
      have:=a2.p
      grind [pot]⟩
     split at e
     .cases e
     .rename_i ak al m3 s3 e3
      split at e3
      .cases e3
      .rename_i g' m2 s4 e2
       cases e3;cases e;cases a6:exam (mkCk ts m) ((n.name,k) :: s) B g with
       |error er=>grind
       |ok kg =>
        rw[a6]at x;cases x;have af:ScOk ts.sS.length ((n.name,k) :: s):=fun v hv=>by
         rcases qt.1 hv with rfl|hv
         .exact ⟨a8,U⟩
         .exact hs v hv
        have j:=ih a4 g body s2 g' m2 J ((n.name,k) :: s) ((l,k') :: s') B m _ hm (hw.kid mg) (ht.kid mg) (ho.kid mg) af a5 a3 w1 e2 a6;obtain⟨an,z1,_⟩:=j.ex;refine⟨⟨some k',?_,fun _=>⟨k,k',rfl,rfl,y3⟩⟩,?_,rfl,zW2 out.le j.le⟩
        .rw [y8]
         show (if (inn&&zS (ckF ts) n.op l)=true then _ else if n.op=1 then _ else if n.op=47 then _ else if n.op=15\/n.op=45\/n.op=46 then yd (ckF ts) s' (inn||decide (n.op=15)) l n.pos [a',g'] else _)=_;rw[YK h47,if_neg R,if_neg h1,if_neg h47,if_pos hb,hB];simp only[yd,qY];rw[x1];simp only;rw[if_pos (by rw[y3.1];exact U),z1]
        .refine cH hw (by rw[t];simp[out.kd,j.kd]) (fun y hy=>?_) h47 (ho n (ud n)) ?_
         .rcases qt.1 hy with rfl|hy
          .exact out.good.mono (zW1 j.le)
          .rw [qT]at hy;subst hy;exact j.good
         .rcases w4 with w4|w4
          .exact .inl ⟨w4,by rw[w4];exact ht n (ud n)⟩
          .exact .inr ⟨w4.mono j.le,qbW (ho n (ud n)) (by unfold u6;rcases hb with h|h|h<;>simp[h])⟩
   grind
theorem qb0(ts)(h:okTS ts)(es)(hP:KS ts es)(J:qk ts es<=200000)(i:Free ts es):∀ f,IHx ts es f
 | 0=>fun env n body st n' z j s s' inn m P _ _ _ _ _ _ _ _ e _=>by cases e
 |f+1=>fun env n body st n' z j s s' inn m P hm R T U hs g r hr e x=>by
  have ih:=qb0 ts h es hP J i f;simp only[expI]at e;split at e
  .rename_i hc
   have hp:=Qb g (n:=1) zOm hc;have l:=hp.ok g;have o:Rl (ckF ts) es (payS 1 st).last body s s' env:=hr;have t:st.last=(payS 1 st).last:=rfl;rw[t];split at e
   .rename_i h1
    exact qo6 (c:=mkCk ts m) (c0:=ckF ts) rfl h1 R (T n (ud n)) (U n (ud n)) o e x
   .rename_i h1
    split at e
    .grind [qo8,payS]
    .rename_i h47
     obtain⟨⟨C,I,z'⟩,s1,e1,e2⟩:=Yx e;cases e2;by_cases hb:n.op=15\/n.op=45\/n.op=46
     .refine qpB ts h es J i f ih env n body (payS 1 st) C I z' j s s' inn m P hm R T U hs l ?_ r o hb e1 x
      rw[ZP];have:=g.p;omega
     grind [qpA,payS]
  .cases e
end
end PE
namespace ED
end ED
namespace EG
end EG
namespace PG
open Y1 Y2 P1 P2 Y9 YZ
section
variable {nm:tG}
theorem qpC{ns op n pos l e}(h:ya ns op n pos l = .error e):40<=e.1:=by
 unfold ya at h
 repeat' split at h
 all_goals first
  | (cases h;done)
  | (cases h;simp)
theorem qpD{c s pos e}(h:jl c s nm pos = .error e):40<=e.1:=by
 unfold jl at h
 repeat' split at h
 all_goals first
  | (cases h;done)
  | (cases h;simp)
section
variable {c:Ck}
theorem KU{inn}:∀{ks s e},(∀ k,k∈ks->∀ s e,exam c s inn k = .error e->40<=e.1)->qY c s inn ks = .error e->40<=e.1
 | [],s,e,_,h=>by simp only[qY]at h;cases h
 |k :: ks,s,e,i,h=>by
  simp only[qY]at h;split at h
  .rename_i j g
   cases h;exact i k (zd ..) s _ g
  .split at h
   .rename_i j g
    cases h;exact KU (fun k l=>i k (qW _ l)) g
   .cases h
theorem qb1{pos}:∀{ks ps s e},(∀ k,k∈ks->∀ s e,exam c s true k = .error e->40<=e.1)->z6 c s pos ps ks = .error e->40<=e.1
 | [],ps,s,e,_,h=>by cases ps<;>(simp only[z6]at h;cases h)
 |k :: ks,[],s,e,_,h=>by simp only[z6]at h;cases h
 |k :: ks,p :: ps,s,e,g,h=>by
  simp only[z6]at h;split at h
  .rename_i l i
   cases h;exact g k (zd ..) s _ i
  .cases h;simp
  .split at h
   .split at h
    .exact qb1 (fun k j=>g k (qW _ j)) h
    .cases h;simp
   .cases h;simp
theorem qpE{inn pos}:∀{ks s e},(∀ k,k∈ks->∀ s e,exam c s inn k = .error e->40<=e.1)->yd c s inn nm pos ks = .error e->40<=e.1
 | [],s,e,_,h=>by simp only[yd]at h;cases h
 |k :: ks,s,e,i,h=>by
  simp only[yd]at h;split at h
  .rename_i j g
   cases h;exact i k (zd ..) s _ g
  .cases h;simp
  .split at h
   .split at h
    .rename_i j g
     cases h;exact KU (fun k l=>i k (qW _ l)) g
    .cases h
   .cases h;simp
theorem Vb(c):∀ m n s inn e,szN n<=m->exam c s inn n = .error e->40<=e.1
 | 0,n,_,_,_,j,_=>by obtain⟨op,nm,i,ks,p⟩:=n;simp[szN]at j
 |m+1,n,s,inn,e,j,h=>by
  have g:∀ inn k,k∈n.sD->∀ s e,exam c s inn k = .error e->40<=e.1:=fun inn k l s e h=>Vb c m k s inn e (zW1 (ym l)) h
  rw[y8]at h;split at h
  .cases h;simp
  split at h
  .exact qpD h
  split at h
  .split at h
   .split at h
    .cases h;simp
    .split at h
     .cases h;simp
     .split at h
      .exact qb1 (g true) h
      .cases h;simp
   .cases h;simp
  split at h
  .exact qpE (g _) h
  .split at h
   .rename_i r o
    cases h;exact KU (g _) o
   .exact qpC h
end
end
theorem qb2{ks k}(h:k∈ks):depN k<=yn ks:=by
 induction ks with
 |nil=>simp at h
 |cons a l g =>
  simp only[yn];rcases qt.1 h with rfl|h
  .omega
  .have:=g h;omega
theorem qb3(n):1<=depN n:=by
 rw[Ze];have:∀ ks:List Nd,0<=yn ks:=by
  intro ks;induction ks with
  |nil=>simp[yn]
  |cons a l g=>simp only[yn];omega
 have:=this n.sD;omega
end PG
namespace PF
open P1 P2 Y1 Y2 Y9 Y16 YZ YB YC YE YG Q2 Q4 Q6 PC PE PG
mutual
theorem KV:∀(n:Nd)(left:Int),cntT n<=left->cntN n left=cntT n
 | .mk op o i ks p,left,h=>by
  simp only[cntT,cntN]at h⊢;exact qb4 ks left 1 h
theorem qb4:∀(ks:List Nd)(left sum:Int),sum+jd ks<=left->yV ks left sum=sum+jd ks
 | [],left,sum,h=>by simp only[jd,yV];omega
 |k :: ks,left,sum,h=>by
  simp only[jd,yV]at h⊢;have g:=KE k;have i:=UL ks;rw[if_pos zOm,KV k (left-sum) zOm,qb4 ks left _ zOm];omega
end
mutual
theorem qb5:∀(n:Nd)(left:Int),cntN n left<=left->cntT n<=left
 | .mk op o i ks p,left,h=>by
  simp only[cntT,cntN]at h⊢;exact qb6 ks left 1 h
theorem qb6:∀(ks:List Nd)(left sum:Int),yV ks left sum<=left->sum+jd ks<=left
 | [],left,sum,h=>by simp only[jd,yV]at h⊢;omega
 |k :: ks,left,sum,h=>by
  simp only[jd,yV]at h⊢;split at h
  .have i:=(X4 ks left (sum+cntN k (left-sum))).1
   have g:cntN k (left-sum)<=left-sum:=zOm;have j:=KV k (left-sum) (qb5 k _ g);have l:=qb6 ks left _ h;omega
  .omega
end
section
variable {c:Ck}
theorem qpF{ks d}(g:0<=d)(h:∀ k,k∈ks->depN k<=d):yn ks<=d:=by
 induction ks with
 |nil=>grind [yn]
 |cons a l i =>
  grind [yn,zd,qW]
theorem qpG{ks g}(h:∀ k,k∈ks->forN k g=true):uF ks g=true:=by
 induction ks with
 |nil=>rfl
 |cons a l i =>
  simp_all[uF,qD,zd,qW]
theorem qb7:∀ m n g,szN n<=m->WfN n->OwnT n->depN n<=g->forN n g=true
 | 0,n,_,l,_,_,_=>by obtain⟨op,nm,i,ks,p⟩:=n;simp[szN]at l
 |m+1,n,g,l,o,r,t=>by
  have C:=qb3 n;rw[JY,zIn,r n (ud n),Bool.true_and,qD];refine⟨?_,qpG fun k j=>qb7 m k (g-1) (zW1 (ym j)) (o.kid j) (r.kid j) ?_⟩
  .unfold fitB
   rw[decide_eq_true_eq];exact o.shape
  .have:=qb2 j
   rw[Ze]at t;omega
theorem qb8:∀ m n l,szN n<=m->forN n l=true->OwnT n/\depN n<=l
 | 0,n,_,o,_=>by obtain⟨op,nm,i,ks,p⟩:=n;simp[szN]at o
 |m+1,n,l,o,h=>by
  rw[JY]at h;split at h
  .cases h
  .rename_i I
   simp only[qD]at h;obtain⟨t,J,C⟩:=h;have r:=fun k (g:k∈n.sD)=>qb8 m k (l-1) (zW1 (ym g)) (X6 C k g)
   refine⟨fun x j=>?_,?_⟩
   .rw [u9]at j
    rcases qt.1 j with rfl|j
    .exact t
    .obtain ⟨k,g,j⟩:=UT j
     exact(r k g).1 x j
   .rw [Ze]
    have:=qpF (ks:=n.sD) (d:=l-1) zOm fun k g=>(r k g).2
    omega
theorem wh{n}:ze n=true↔WfN n/\OwnT n/\cntT n<=400/\depN n<=24:=by
 constructor
 .intro h
  have l:=v8 h;simp only[ze,qD,decide_eq_true_eq]at h;obtain⟨a,b⟩:=qb8 (szN n) n 24 (qo _) h.2;simp_all[qb5]
 .rintro ⟨g,i,o,j⟩
  simp only[ze,qD,decide_eq_true_eq];exact⟨by grind [KV],qb7 (szN n) n 24 (qo _) g i j⟩
theorem qb9{nm i}(h:zn c nm=some i)(g):(c.ts.sT.find? fun p=>decide (p.name=nm))=some c.ts.sT[i]:=by
 unfold zn at h;rw[List.findIdx?_eq_some_iff_getElem]at h;obtain⟨l,o,r⟩:=h;rw[List.find?_eq_some_iff_getElem];refine⟨?_,i,g,rfl,fun j t=>?_⟩
 .grind
 grind
theorem qcA{s pos}:∀{ks ps l},ps.length=ks.length->z6 c s pos ps ks = .ok l->∀ k,k∈ks->∃ a,exam c s true k = .ok a
 | [],_,_,_,_,k,g=>absurd g qF
 |k :: ks,[],_,i,_,_,_=>by simp at i
 |k :: ks,p :: ps,l,i,h,x,j=>by
  simp only[z6]at h;split at h
  .cases h
  .cases h
  .rename_i a g
   split at h
   .split at h
    .rcases qt.1 j with rfl|j
     .exact ⟨_,g⟩
     .exact qcA (zUs i) h x j
    .cases h
   .cases h
theorem KW{s inn}:∀{ks l},qY c s inn ks = .ok l->∀ k,k∈ks->∃ a,exam c s inn k = .ok a
 | [],_,_,k,g=>absurd g qF
 |k :: ks,l,h,x,i=>by
  simp only[qY]at h;split at h
  .cases h
  .rename_i a g
   split at h
   .cases h
   .rename_i o j
    rcases qt.1 i with rfl|i
    .exact ⟨_,g⟩
    .exact KW j x i
theorem KX(hc:okCk c):∀ m n s inn o,szN n<=m->exam c s inn n = .ok o->WfN n->yK c.ts n
 | 0,n,_,_,_,hm,_,_=>by obtain⟨op,nm,i,ks,p⟩:=n;simp[szN]at hm
 |m+1,n,s,inn,o,hm,h,U=>fun x j ho=>by
  have ih:∀ k,k∈n.sD->∀ s inn o,exam c s inn k = .ok o->yK c.ts k:=fun k t s inn o h=>KX hc m k s inn o (zW1 (ym t)) h (U.kid t)
  rw[y8]at h;rw[u9]at j;split at h
  .cases h
  by_cases h1:n.op=1
  .rw [KR U h1]at j
   rcases qt.1 j with rfl|j
   .omega
   .simp [zp]at j
  rw[if_neg h1]at h;have C:∀(s:Nd->Scp)(inn:Nd->Bool),(∀ k,k∈n.sD->∃ o,exam c (s k) (inn k) k = .ok o)->x∈zp n.sD->∃ p,(c.ts.sT.find? fun p=>decide (p.name=x.name))=some p/\p.params.length=x.sD.length:=fun s inn t j=>by
   obtain⟨k,I,j⟩:=UT j;obtain⟨o,a0⟩:=t k I;exact ih k I _ _ _ a0 x j ho
  by_cases h47:n.op=47
  .rw [if_pos h47]at h
   split at h
   .split at h
    .cases h
    .rename_i i J
     obtain⟨_,a1⟩:=Qx hc J;rw[qw a1]at h;simp only at h;split at h
     .rename_i P
      rcases qt.1 j with rfl|j
      .grind [qb9]
      .exact C (fun _=>s) (fun _=>true) (qcA P h) j
     .cases h
   .cases h
  rw[if_neg h47]at h;have j:x∈zp n.sD:=by
   rcases qt.1 j with rfl|j
   .omega
   .exact j
  by_cases R:n.op=15\/n.op=45\/n.op=46
  .rw [if_pos R]at h
   obtain⟨a,g,r,_⟩:=UW U R;rw[r]at h;simp only[yd]at h;split at h
   .cases h
   .cases h
   .rename_i k t
    split at h
    .split at h
     .cases h
     .rename_i l hl
      obtain⟨y,T,j⟩:=UT j;rw[r]at T;rcases qt.1 T with rfl|T
      .exact ih y (by rw[r];simp) _ _ _ t x j ho
      .rw [qT]at T
       subst T;obtain⟨b,R⟩:=KW hl y zSp;exact ih y (by rw[r];simp) _ _ _ R x j ho
    .cases h
  .rw [if_neg R]at h
   split at h
   .cases h
   .rename_i l hl
    exact C (fun _=>s) (fun _=>_) (fun k t=>KW hl k t) j
theorem UX{env n}(h:(jv c env n).1=0):30<=n.op/\∃ g,exam c (ye env) false n = .ok g:=by
 unfold jv at h;split at h
 .rename_i i
  refine⟨i,?_⟩;cases j:exam c (ye env) false n with
  |ok g=>exact⟨g,rfl⟩
  |error e =>
   rw[j]at h;have:=PG.Vb c (szN n) n _ _ e (qo _) j;have h:e.1=0:=h;omega
 omega
theorem qcB{ts}(h:jo ts=[])(i g):(jv (mkCk ts i) ts.sT[i].params ts.sT[i].body).1=0:=by
 simp_all[jo,List.append_eq_nil_iff,List.flatMap_eq_nil_iff,zW,vJ,qw,rp]
theorem KY(l):∀ es nm,(getK nm es=some true\/∃ x,x∈l/\x.name=nm)->getK nm (putN es l)=some true:=by
 induction l with
 |nil =>
  intro es nm h;rcases h with h|⟨x,g,_⟩
  .exact h
  .exact absurd g qF
 |cons a l i =>
  intro es nm h;refine i _ nm ?_;rw[j7];by_cases e:nm=a.name
  .rw [if_pos e];exact .inl rfl
  .rw [if_neg e]
   rcases h with h|⟨x,g,j⟩
   .exact .inl h
   .rcases qt.1 g with rfl|g
    .grind
    grind
theorem qpH(ts n):Tk (yO ts n) n/\∀ p,p∈ts.sT->Tk (yO ts n) p.body:=by
 have j:∀(l:List Pd)(I:List (tG×Bool))(o:tG),(getK o I=some true\/∃ p,p∈l/\∃ x,x∈preN p.body/\x.name=o)->getK o (l.foldl (fun I p=>putN I (preN p.body)) I)=some true:=by
  intro l;induction l with
  |nil =>
   simp
  |cons a l r =>
   intro I o h;refine r _ o ?_;rcases h with h|⟨p,g,i⟩
   .grind [KY]
   .rcases qt.1 g with rfl|g
    .grind [KY]
    grind
 refine⟨fun x i=>j _ _ _ (.inl (KY _ _ _ (.inr ⟨x,i,rfl⟩))),fun p g x i=>j _ _ _ (.inr ⟨p,g,x,i,rfl⟩)⟩
theorem qcC(l):∀ es,(putN es l).length<=es.length+l.length:=by
 have i:∀(es:List (tG×Bool))(k:tG),(setK k true es).length<=es.length+1:=by
  intro es k;induction es with
  |nil=>simp[setK]
  |cons a es g=>grind [setK]
 induction l with
 |nil=>grind [putN]
 |cons a l g =>
  grind [setK,putN,zz]
mutual
theorem Vc:∀ n:Nd,((preN n).length:Int)=cntT n
 | .mk op nm i ks p=>by simp only[preN,cntT,zz];have:=qcD ks;omega
theorem qcD:∀ ks:List Nd,((zp ks).length:Int)=jd ks
 | []=>rfl
 |k :: ks=>by simp only[zp,jd,qX];have:=Vc k;have:=qcD ks;omega
end
end
theorem KZ{ts}(h:okTS ts)(g:∀ p,p∈ts.sT->ze p.body=true){n}(i:ze n=true):qk ts (yO ts n)<=200000:=by
 have j:∀(l:List Pd)(I:List (tG×Bool)),(∀ p,p∈l->ze p.body=true)->(l.foldl (fun I p=>putN I (preN p.body)) I).length<=I.length+400*l.length:=by
  intro l;induction l with
  |nil=>intro I _;simp
  |cons a l o =>
   grind [putN,preN,qW,qcC,Vc,wh,zd]
 have r:=j ts.sT (putN [] (preN n)) g;have t:=qcC (preN n) [];have C:=Vc n;have J:=(wh.1 i).2.2.1;have:=h.np;have:=h.nf;have:=h.ns
 grind [qk,yO,List.length_nil]
theorem qpI{ts}(h:okTS ts)(hb:∀ p,p∈ts.sT->ze p.body=true)(hk:jo ts=[]){n x}(R:ze n=true)(hc:(yr ts [] n).1=0)(o:anyN (fun n=>decide (n.op=47)) n=true)(l:yg ts n=(x,0)) :
  ze x=true/\anyN (fun n=>decide (n.op=47)) x=false/\yr ts [] x=(0,0)/\yg ts x=(x,0):=by
 have T:=v8 R;have U:=(wh.1 R).2.1;have hF:=KZ h hb R;obtain⟨t1,t2⟩:=qpH ts n;generalize a0:yO ts n=I at *
 have hP:KS ts I:=fun i l=>by
  have hm:=qn l;obtain⟨a,b⟩:=UX (qcB hk i l)
  grind [v8,wh]
 unfold yg at l;rw[if_neg (zUs hc),if_neg (by simp[o]),a0]at l;unfold outI at l;split at l
 .rename_i d hd
  exfalso;have h1:=qbF hd
  grind
 .rename_i j g
  have e:j=x:=congrArg Prod.fst l;subst e;split at g
  .cases g
  .rename_i n2 z a1 J
   split at g
   .rename_i hz
    cases g;obtain⟨a2,ko,t⟩:=UX (c:=mkCk ts ts.sT.length) (env:=[]) hc;have a3:StOk (qk ts I) ⟨0,0⟩:=⟨zSp,zSp,zSp,by simp[pot]⟩;have out:=qb0 ts h I hP hF (KH ts I) 4001 [] n false ⟨0,0⟩ j z a1 [] [] false ts.sT.length ko (qo _) T t1 U (fun v P=>absurd P qF) a3 .nil
     ⟨fun v P=>absurd P qF,fun v _=>trivial,fun _ v iv e=>by cases e⟩ J t
    obtain⟨a6,a7⟩:=Yy ts (fun p hp=>v8 (hb p hp)) I 4001 (env:=[]) (fun e J=>absurd J qF) T J;have P:ze j=true:=wh.2 ⟨out.good.wf,fun x t=>(out.good.all x t).own,zOm,hz.2⟩;have a8:anyN (fun n=>decide (n.op=47)) j=false:=by
     rw[UN _ (szN j) j (qo _),List.any_eq_false];intro x t;have:=(out.good.all x t).nc
     grind
    have a5:kd j.op=102:=by rw[out.kd];exact qbY T a2
    have C:30<=j.op:=by
     grind [kd]
    obtain⟨a4,r,_⟩:=out.ex;have a9:yr ts [] j=(0,0):=by
     unfold yr jv;rw[if_pos C];have r:exam (mkCk ts ts.sT.length) (ye []) false j = .ok a4:=r;rw[r];rfl
    simp_all[yg,if_neg,if_pos]
   .cases g
end PF
namespace EH
end EH
namespace FJ
end FJ
namespace IA
open Y1 YG E3 FC
def hV(x:Mo)(n:Nd):Bool×Int:=Zb (yg x.ts) x (x.ts.sP.map Prod.snd++[n]) true
end IA
namespace QC
end QC
namespace QD
open YF P1 Y1 Y2
section
variable {nm:tG}{x:tG×Bool}{c:List AV}{i:Nat}
def atF(a:Int):List Int->Int
 | []=>a
 |x :: l=>atF (qm.wrap (qm.wrap (4*a)+x)) l
def zs:List AV:=qS 64 (aB false)
def oneC(l:List Int):List AV:=aI l.length :: (if 0<=atF 0 l/\atF 0 l<64 then zs.set (atF 0 l).toNat (aB true) else zs)
structure SetC (c:List AV):Prop where
 len:c.length=65
 sc:∀ x,x∈c->x.one=true/\HF x
theorem SetC.one(h:SetC c):∀ x,x∈c->x.one=true:=fun x g=>(h.sc x g).1
theorem SetC.hf(h:SetC c):HF (.agg c):=HF.agg fun x g=>(h.sc x g).2
theorem SetC.take(h:SetC c):List.take 65 c=c:=zO (by rw[h.len];omega)
theorem SetC.put{d}(h:SetC c)(g:SetC d):putCells c 0 d=d:=by
 rw[yY _ _ _ (by rw[h.len,g.len];omega)];simp[h.len,g.len,List.drop_of_length_le]
theorem SetC.zero:SetC (aI 0 :: zs):=⟨rfl,fun x g=>by
 rcases qt.1 g with rfl|g
 .exact ⟨rfl,HF.sc _⟩
 .rw [List.eq_of_mem_replicate g];exact⟨rfl,HF.sc _⟩⟩
theorem SetC.oneC(l):SetC (oneC l):=by
 have i:∀ x:AV,x∈zs->x.one=true/\HF x:=fun x g=>by rw[List.eq_of_mem_replicate g];exact⟨rfl,HF.sc _⟩
 unfold QD.oneC;split
 .refine ⟨by simp[zs],fun x g=>?_⟩
  rcases qt.1 g with rfl|g
  .exact ⟨rfl,HF.sc _⟩
  .rcases List.mem_or_eq_of_mem_set g with h|rfl
   .exact i x h
   .exact ⟨rfl,HF.sc _⟩
 .refine ⟨by simp[zs],fun x g=>?_⟩
  rcases qt.1 g with rfl|g
  .exact ⟨rfl,HF.sc _⟩
  .exact i x g
theorem oneU(l)(hl:l.length<=140737488351232):qd qb 155 [lI l] (.agg (oneC l)):=by
 have g:=SetC.oneC l;generalize C:oneC l=R at *
 unfold oneC at C;refine qSU call155 func155 rfl ?_;have i:zs.length=64:=rfl;refine kT l.length (fun k U=>∃ a:Int,U.tm 0=lI l/\U.tm 2 = .ptr 0 0/\U.tm 3 = .ptr 1 0/\U.tm 4=aI a/\U.tm 5=aI k/\U.mu=[.arr (aI 0 :: zs),.arr (aI l.length :: zs)]/\atF a (l.drop k)=atF 0 l) ?_ ?_
 .exact ⟨0,zSi,zSi,zSi,zSi,zSi,by simp[go_sem,zs,qS],rfl⟩
 rintro k U hk ⟨a,I,r,e3,e4,e5,hm,hI⟩;by_cases J:k<l.length
 .have w1:=zWk k
  rw[zm J]at hI;simp[go_sem,I,e4,e5,hm,J,w1];exact aK ⟨_,zS1 I,zS1 r,zS1 e3,zSi,zSi,zSi,hI⟩
 have a0:k=l.length:=zOm;subst a0;rw[yh]at hI;have ha:a=atF 0 l:=hI;rw[<-ha]at C;have z1:∀ x:AV,(x :: zs).length=65:=fun x=>rfl
 have o:∀ x:AV,x∈zs->x.one=true:=fun x hx=>by rw[List.eq_of_mem_replicate hx];rfl
 have tk:List.take 64 zs=zs:=rfl;have pc:∀(x y:AV)(Z:List AV),Z.length=64->putCells (x :: zs) 0 (y :: Z)=y :: Z:=fun x y Z hZ=>by
  grind [yY,List.drop_of_length_le]
 by_cases h0:0<=a
 .obtain ⟨j,rfl⟩:∃ j:Nat,a=j:=⟨a.toNat,zOm⟩
  by_cases t:(j:Int)<64
  .have hj:1+j<=64:=by omega
   have a1:∀ x:AV,(x :: zs).set (1+j) (AV.sc (Value.bool true))=x :: zs.set j (AV.sc (Value.bool true)):=fun x=>by rw[Nat.add_comm];rfl
   have sl:(zs.set j (AV.sc (Value.bool true))).length=64:=zP1 i;have P:∀ x:AV,x∈zs.set j (AV.sc (Value.bool true))->x.one=true:=fun x hx=>by
    rcases List.mem_or_eq_of_mem_set hx with h|rfl
    .exact o x h
    .rfl
   have T:List.take 64 (zs.set j (AV.sc (Value.bool true)))=zs.set j (AV.sc (Value.bool true)):=zO zOm;have p:R=aI l.length :: zs.set j (AV.sc (Value.bool true)):=by rw[<-C,if_pos ⟨h0,t⟩];rfl
   generalize zs.set j (AV.sc (Value.bool true))=Z at *
   simp[go_sem,I,r,e3,e4,e5,hm,h0,t,i,hj,a1,sl,T,pc _ _ _ sl];rw[if_pos P];simp[go_sem,r,sl,T];rw[p]at g⊢;exact .hf _ g.hf
  .simp [go_sem,I,r,e3,e4,e5,hm,h0,t,i,tk,pc _ _ _ i]
   rw[if_pos o];simp[go_sem,r,i,tk];have p:R=aI l.length :: zs:=by rw[<-C,zIn]
   rw[p]at g⊢;exact .hf _ g.hf
 .simp [go_sem,I,r,e3,e4,e5,hm,h0,i,tk,pc _ _ _ i]
  rw[if_pos o];simp[go_sem,r,i,tk];have p:R=aI l.length :: zs:=by rw[<-C,zIn]
  rw[p]at g⊢;exact .hf _ g.hf
abbrev NS:=List AV×Nat
variable {s:NS}
def stF(nm:tG)(f:Fld)(s:NS):NS:=if f.name=nm then (oneC f.sS,s.2+1) else s
def nmF(nm:tG):List Fld->NS->NS
 | [],s=>s
 |f :: l,s=>nmF nm l (stF nm f s)
def st1(nm:tG)(i:Nat)(x:tG×Bool)(s:NS):NS:=if x.1=nm then (oneC [(i:Int)],s.2+1) else s
def st2(nm:tG)(i:Nat)(x:tG×Bool)(s:NS):NS:=if x.2=true/\x.1++y6=nm then (oneC [(i:Int)],s.2+1) else s
def st3(nm:tG)(i:Nat)(x:tG×Bool)(s:NS):NS:=if x.2=true/\x.1++jR=nm then (oneC [(i:Int),(i:Int)],s.2+1) else s
def nmS(nm:tG):Nat->List (tG×Bool)->NS->NS
 |_,[],s=>s
 |i,x :: l,s=>nmS nm (i+1) l (st3 nm i x (st2 nm i x (st1 nm i x s)))
def named(ts:TS)(nm:tG):NS:=nmS nm 0 ts.sS (nmF nm ts.sA (aI 0 :: zs,0))
theorem qpJ{f}(h:SetC s.1):SetC (stF nm f s).1:=by
 grind [stF,SetC.oneC]
theorem qcE(h:SetC s.1):SetC (st1 nm i x s).1:=by
 grind [st1,SetC.oneC]
theorem qcF(h:SetC s.1):SetC (st2 nm i x s).1:=by
 grind [st2,SetC.oneC]
theorem qcG(h:SetC s.1):SetC (st3 nm i x s).1:=by
 grind [st3,SetC.oneC]
theorem st_le:(st3 nm i x (st2 nm i x (st1 nm i x s))).2<=s.2+3:=by
 have g:(st1 nm i x s).2<=s.2+1:=by grind [st1]
 have j:∀ s:NS,(st2 nm i x s).2<=s.2+1:=fun s=>by grind [st2]
 have l:∀ s:NS,(st3 nm i x s).2<=s.2+1:=fun s=>by grind [st3]
 grind
theorem qcH(nm):∀ l s,SetC s.1->SetC (nmF nm l s).1
 | [],_,h=>h
 |f :: l,s,h=>qcH nm l _ (qpJ h)
theorem qcI(nm):∀ l i s,SetC s.1->SetC (nmS nm i l s).1
 | [],_,_,h=>h
 |x :: l,i,s,h=>qcI nm l _ _ (qcG (qcF (qcE h)))
theorem K0(ts nm):SetC (named ts nm).1:=qcI nm _ _ _ (qcH nm _ _ SetC.zero)
theorem wk1(i):WK (.lst true [rI i]) (lI [i]):=WK.lst fun r g c j=>by
 grind [qT,HF.sc]
theorem wk2(i j):WK (.lst true [rI i,rI j]) (lI [i,j]):=WK.lst fun r g c l=>by
 rcases qt.1 g with rfl|g
 .grind [qT,HF.sc]
 grind [qT,HF.sc]
structure okNm (ts:TS):Prop where
 so:∀ x,x∈ts.sS->x.1.size<=4611686018427387904
 nso:ts.sS.length<=140737488351232
 nf:ts.sA.length<=140737488351232
 fl:∀ f,f∈ts.sA->f.sS.length<=140737488351232
theorem K1(ts)(ha:okNm ts)(nm):qd qb 158 [eTS ts,aS nm] (.tup [.agg (named ts nm).1,aI (named ts nm).2]):=by
  generalize hR:named ts nm=R;unfold named at hR;refine qSV call158 func158 rfl ?_;have ar:=ha.nf;have au:zs.length=64:=rfl;have av:=ha.nso;simp[go_sem];refine kT ts.sA.length (fun i U=>∃ s:NS,U.tm 1=aS nm/\U.tm 2 = .ip (cTS ts)/\U.tm 4 = .ptr 0 0/\U.tm 6 = .ptr 1 0/\U.tm 7=aI s.2/\U.tm 8=aI i/\U.mu=[.arr (aI 0 :: zs),.arr s.1]/\SetC s.1/\s.2<=i/\nmS nm 0 ts.sS (nmF nm (ts.sA.drop i) s)=R) ?_ ?_
  · exact⟨(aI 0 :: zs,0),zSi,zSi,zSi,zSi,zSi,zSi,by simp[go_sem,zs,qS],SetC.zero,zSp,zUs hR⟩
  clear hR;rintro i U hi ⟨⟨c,k⟩,J,t,e4,P,T,e8,hm,j,hk,r⟩;have hk:k<=i:=hk;have j:SetC c:=j;by_cases g:i<ts.sA.length
  · have w1:=zWk i
    have w2:=zWk k;rw[zm g]at r;have ho:=oneU ts.sA[i].sS (ha.fl _ (qn g));have C:=SetC.oneC ts.sA[i].sS;by_cases hq:ts.sA[i].name=nm
    · simp[go_sem,J,t,e8,hm,g,hq]
      refine tC ho (.zk (zh _) .nil) ?_;simp[go_sem,P,C.len,j.len,j.put C];rw[if_pos C.one];simp[go_sem,T,e8,g,w1,w2];exact aK ⟨(oneC ts.sA[i].sS,k+1),zS1 J,zS1 t,zS1 e4,zS1 P,zSi,zSi,zSi,C,zOm,by grind [nmF,stF]⟩
    · simp[go_sem,J,t,e8,hm,g,jF hq,w1]
      exact aK ⟨(c,k),zS1 J,zS1 t,zS1 e4,zS1 P,zS1 T,zSi,zSi,j,zOm,by grind [nmF,stF]⟩
  have a0:i=ts.sA.length:=zOm;subst a0;rw[yh]at r;simp only[nmF]at r;simp[go_sem,t,e8,hm];refine kT ts.sS.length (fun i U=>∃ s:NS,U.tm 1=aS nm/\U.tm 2 = .ip (cTS ts)/\U.tm 4 = .ptr 0 0/\U.tm 6 = .ptr 1 0/\U.tm 7=aI s.2/\U.tm 9=aI i/\U.mu=[.arr (aI 0 :: zs),.arr s.1]/\SetC s.1/\s.2<=ts.sA.length+3*i/\nmS nm i (ts.sS.drop i) s=R) ?_ ?_
  · simp[go_sem, *]
  clear J t e4 P T e8 hm j hk r g;rintro i U hi ⟨⟨c,k⟩,J,t,e4,P,T,e9,hm,j,hk,r⟩;have hk:k<=ts.sA.length+3*i:=hk;have j:SetC c:=j;by_cases g:i<ts.sS.length
  · have w1:=zWk i
    have w2:=zWk k;have w3:qm.wrap ((k:Int)+1+1)=(k:Int)+1+1:=zWr;have w4:qm.wrap ((k:Int)+1+1+1)=(k:Int)+1+1+1:=zWr;rw[zm g]at r;simp only[nmS]at r;have af:=oneU [(i:Int)] zSp;have ag:=oneU [(i:Int),(i:Int)] zSp;have p:=SetC.oneC [(i:Int)];have I:=SetC.oneC [(i:Int),(i:Int)];have ah:=j.put p;have ai:=j.put I;have aj:=p.put p;have ak:=p.put I;have l1:=p.len;have l2:=I.len;have l0:=j.len;have aw:=st_le (nm:=nm) (i:=i) (x:=ts.sS[i]) (s:=(c,k));have al:=qcG (nm:=nm) (i:=i) (x:=ts.sS[i]) (qcF (nm:=nm) (i:=i) (x:=ts.sS[i]) (qcE (nm:=nm) (i:=i) (x:=ts.sS[i]) (s:=(c,k)) j));have a8:=ha.so _ (qn g);have a8:ts.sS[i].1.size<=4611686018427387904:=a8;generalize a9:ts.sS[i]=so at *
    obtain⟨o,sb⟩:=so;have aa:o.size<=9223372036854775801:=by grind
    have ab:o.size<=9223372036854775802:=zOm;generalize hN:st3 nm i (o,sb) (st2 nm i (o,sb) (st1 nm i (o,sb) (c,k)))=N at *
    have an:(o++y6=nm)=(o++(⟨#[95,102,105,114,115,116]⟩:tG)=nm):=rfl;have ao:(o++jR=nm)=(o++(⟨#[95,110,101,120,116]⟩:tG)=nm):=rfl;simp only[st1,st2,st3,an,ao]at hN;obtain⟨d1,aq⟩:∃ d,decide (o=nm)=d:=⟨_,rfl⟩;obtain⟨d2,ad⟩:∃ d,decide (o++(⟨#[95,102,105,114,115,116]⟩:tG)=nm)=d:=⟨_,rfl⟩;obtain⟨d3,ae⟩:∃ d,decide (o++(⟨#[95,110,101,120,116]⟩:tG)=nm)=d:=⟨_,rfl⟩;have p1:(o=nm)=(d1=true):=by grind
    have p2:(o++(⟨#[95,102,105,114,115,116]⟩:tG)=nm)=(d2=true):=by grind
    have p3:(o++(⟨#[95,110,101,120,116]⟩:tG)=nm)=(d3=true):=by grind
    simp only[p1,p2,p3]at hN;have done:∀ l:St,l.tm 1=aS nm->l.tm 2 = .ip (cTS ts)->l.tm 4 = .ptr 0 0->l.tm 6 = .ptr 1 0->l.tm 7=aI N.2->l.tm 9=aI (i+1:Nat)->l.mu=[.arr (aI 0 :: zs),.arr N.1] ->
        Keep (fun U=>∃ s:NS,U.tm 1=aS nm/\U.tm 2 = .ip (cTS ts)/\U.tm 4 = .ptr 0 0/\U.tm 6 = .ptr 1 0/\U.tm 7=aI s.2/\U.tm 9=aI (i+1:Nat)/\U.mu=[.arr (aI 0 :: zs),.arr s.1]/\SetC s.1/\s.2<=ts.sA.length+3*(i+1)/\nmS nm (i+1) (ts.sS.drop (i+1)) s=R) .mk l:=
      fun l a1 a2 a3 a4 a5 a6 a7=>aK ⟨N,a1,a2,a3,a4,a5,a6,a7,al,zOm,r⟩
    cases d1<;>cases d2<;>cases d3<;>cases sb
    all_goals simp only[if_true,if_false,and_false,and_true,reduceCtorEq]at hN
    all_goals simp[go_sem,Y10.u5,J,t,e9,hm,g,a9,aq,ad,ae,w1,aa,ab]
    all_goals repeat' (first
      | (refine tC af (.cons (wk1 _) .nil) ?_
         simp[go_sem,P,ah,aj,l0,l1];rw[if_pos p.one];simp[go_sem,Y10.u5,J,t,T,e9,g,a9,ad,ae,w1,w2,w3,aa,ab])
      | (refine tC ag (.cons (wk2 _ _) .nil) ?_
         simp[go_sem,P,ai,ak,l0,l1,l2];rw[if_pos I.one];simp[go_sem,T,e9,g,w1,w2,w3,w4]))
    all_goals try subst hN
    all_goals simp_all[go_sem]
  have a0:i=ts.sS.length:=zOm;subst a0;rw[yh]at r;simp only[nmS]at r;subst r;simp[go_sem,t,e4,P,T,e9,hm,j.len,j.take,SetC.zero.put j,SetC.zero.len];rw[if_pos j.one];simp[go_sem,e4,j.len,j.take];refine .hf _ (HF.tup fun x hx=>?_);rcases qt.1 hx with rfl|hx
  · exact j.hf
  grind [qT,HF.sc]
end
end QD
namespace QE
open Y6 QD
abbrev RS:=Int×(Nat->Bool)
def hB(g:Nat->Bool):List AV:=(qq 64).map fun i=>aB (g i)
abbrev cRS(s:RS):List AV:=aI s.1 :: hB s.2
abbrev eRS(s:RS):AV := .agg (cRS s)
theorem qs(g):(hB g).length=64:=by simp[hB]
theorem qcJ(g i v):(hB g).set i (aB v)=hB fun j=>if j=i then v else g j:=by
 refine List.ext_getElem (by simp[hB]) fun j l o=>?_
 rw[List.getElem_set];simp only[hB,List.getElem_map,List.getElem_range];by_cases h:i=j
 .rw [if_pos h,if_pos h.symm]
 .rw [if_neg h,if_neg (fun e=>h e.symm)]
theorem qpK(g i)(h:i<64):(hB g)[i]?=some (aB (g i)):=by
 simp[hB,h]
theorem uH{g i}(h:∀ j,j<64->g j=i j):hB g=hB i:=by
 refine List.map_congr_left fun j l=>?_
 rw[h j (zW.1 l)]
theorem setC(s):SetC (cRS s):=⟨by simp[hB],fun x g=>by
 rcases qt.1 g with rfl|g
 .exact ⟨rfl,HF.sc _⟩
 .obtain ⟨j,_,rfl⟩:=qi.1 g
  exact⟨rfl,HF.sc _⟩⟩
theorem yC(s):HF (eRS s):=(setC s).hf
theorem qcK:hB (fun _=>false)=zs:=rfl
def oneS(l:List Int):RS:=(l.length,fun j=>decide ((j:Int)=atF 0 l))
theorem K2(l):oneC l=cRS (oneS l):=by
 unfold oneC oneS;simp only[cRS];split
 .rename_i h
  have e:aB true=aB true:=rfl;rw[<-qcK,qcJ];congr 1;refine uH fun j i=>?_
  by_cases g:j=(atF 0 l).toNat
  .rw [if_pos g];exact(decide_eq_true zOm).symm
  .rw [if_neg g];exact(decide_eq_false zOm).symm
 .rename_i h
  rw[<-qcK];congr 1;refine uH fun j i=>?_
  exact(decide_eq_false zOm).symm
def szA(k:Int):Nat:=if k<1 then 1 else if k=1 then 4 else if k=2 then 16 else 64
theorem Vd(k):szA k<=64/\1<=szA k:=by unfold szA;split<;>(try split)<;>(try split)<;>omega
theorem UY(k):qd qb 230 [aI k] (aI (szA k)):=by
 refine qSV call230 func230 rfl ?_;unfold szA;by_cases g:k<1
 .simp [go_sem,g];exact .zsc _
 by_cases i:k=1
 .simp [go_sem,i];exact .zsc _
 by_cases j:k=2
 .simp [go_sem,j];exact .zsc _
 simp[go_sem,g,i,j];exact .zsc _
def uniS(a b:RS):RS:=(a.1,fun j=>a.2 j||b.2 j)
def intS(a b:RS):RS:=(a.1,fun j=>a.2 j&&b.2 j)
theorem g1(x g i)(h:i<64):(x :: hB g)[1+i]?=some (aB (g i)):=by
 rw[Nat.add_comm,vw,qpK g i h]
theorem d1(x g i)(h:i<64):List.take 1 (List.drop (1+i) (x :: hB g))=[aB (g i)]:=by
 rw[Nat.add_comm,List.drop_succ_cons,zm (by rw[qs];exact h)];simp[hB]
theorem d0(g i)(h:i<64):List.take 1 (List.drop i (hB g))=[aB (g i)]:=by
 rw[zm (by rw[qs];exact h)];simp[hB]
theorem s1(x g i v):(x :: hB g).set (1+i) (aB v)=x :: hB fun j=>if j=i then v else g j:=by
 rw[Nat.add_comm,List.set_cons_succ,qcJ]
theorem q8(g):∀ x,x∈hB g->x.one=true:=fun x i=>by
 obtain⟨j,_,rfl⟩:=qi.1 i;rfl
theorem tk(g):List.take 64 (hB g)=hB g:=zO (by rw[qs];exact qo _)
theorem pc(x y g i):putCells (x :: hB g) 0 (y :: hB i)=y :: hB i:=by
 rw[yY _ _ _ (by simp[qs])];simp[qs,List.drop_of_length_le]
theorem jT(a b):qd qb 193 [eRS a,eRS b] (eRS (uniS a b)):=by
 refine qSQ call193 func193 rfl { mt:=[2] } ?_;simp[go_sem];refine⟨q8 _,q8 _,?_⟩;refine kT 64 (fun i U=>U.tm 2 = .ptr 0 0/\U.tm 3 = .ip (cRS b)/\U.tm 4 = .ptr 1 0/\U.tm 5=aI i/\U.mu=[.arr (aI a.1 :: hB (fun j=>if j<i then a.2 j||b.2 j else a.2 j)),.arr (aI 0 :: hB fun _=>false)]) ?_ ?_
 .exact ⟨zSi,zSi,zSi,zSi,by simp[go_sem];rfl⟩
 rintro i U hi ⟨p,I,C,J,P⟩;by_cases l:i<64
 .have o:(i:Int)<64:=by omega
  have r:1+i<=64:=zOm;have w1:=zWk i;generalize hG:(fun j=>if j<i then a.2 j||b.2 j else a.2 j)=G at *
  have R:G i=a.2 i:=by rw[<-hG];simp
  have g:∀ v:Bool,v=(a.2 i||b.2 i)->(aI a.1 :: hB G).set (1+i) (aB v)=aI a.1 :: hB (fun j=>if j<i+1 then a.2 j||b.2 j else a.2 j):=fun v hv=>by
   rw[s1];congr 2;funext j;rw[<-hG,hv];by_cases T:j=i
   .subst T;simp
   .by_cases h2:j<i
    .simp [T,h2,show j<i+1 by omega]
    .simp [T,h2,show ¬j<i+1 by omega]
  have t:=d1 (aI a.1) G i l;have m2:=d0 b.2 i l;have a0:1<=64-i:=zOm;rw[R]at t;cases ha:a.2 i with
  |true =>
   rw[ha]at t g;have hn:=g true zSp;simp[go_sem,p,J,P,l,o,r,qs,t,hn,w1];exact aK ⟨zS1 p,zS1 I,zS1 C,zSi,zSi⟩
  |false =>
   rw[ha]at t g;have hn:=g (b.2 i) zSp;simp[go_sem,p,I,J,P,l,o,r,a0,qs,t,m2,hn,w1];exact aK ⟨zS1 p,zS1 I,zS1 C,zSi,zSi⟩
 .have a1:i=64:=by omega
  subst a1;simp[go_sem,p,C,J,P,qs,tk,pc];rw[if_pos (q8 _)];simp[go_sem,C,qs,tk];have e:(aI a.1 :: hB fun j=>if j<64 then a.2 j||b.2 j else a.2 j)=cRS (uniS a b):=by
   exact congrArg (aI a.1 :: ·) (uH fun j hj=>if_pos hj)
  rw[e];exact .hf _ (yC _)
theorem JN(a b):qd qb 194 [eRS a,eRS b] (eRS (intS a b)):=by
 refine qSQ call194 func194 rfl { mt:=[2] } ?_;simp[go_sem];refine⟨q8 _,q8 _,?_⟩;refine kT 64 (fun i U=>U.tm 2 = .ptr 0 0/\U.tm 3 = .ip (cRS b)/\U.tm 4 = .ptr 1 0/\U.tm 5=aI i/\U.mu=[.arr (aI a.1 :: hB (fun j=>if j<i then a.2 j&&b.2 j else a.2 j)),.arr (aI 0 :: hB fun _=>false)]) ?_ ?_
 .exact ⟨zSi,zSi,zSi,zSi,by simp[go_sem];rfl⟩
 rintro i U hi ⟨p,I,C,J,P⟩;by_cases l:i<64
 .have o:(i:Int)<64:=by omega
  have r:1+i<=64:=zOm;have w1:=zWk i;generalize hG:(fun j=>if j<i then a.2 j&&b.2 j else a.2 j)=G at *
  have R:G i=a.2 i:=by rw[<-hG];simp
  have g:∀ v:Bool,v=(a.2 i&&b.2 i)->(aI a.1 :: hB G).set (1+i) (aB v)=aI a.1 :: hB (fun j=>if j<i+1 then a.2 j&&b.2 j else a.2 j):=fun v hv=>by
   rw[s1];congr 2;funext j;rw[<-hG,hv];by_cases T:j=i
   .subst T;simp
   .by_cases h2:j<i
    .simp [T,h2,show j<i+1 by omega]
    .simp [T,h2,show ¬j<i+1 by omega]
  have t:=d1 (aI a.1) G i l;have m2:=d0 b.2 i l;have a0:1<=64-i:=zOm;rw[R]at t;cases ha:a.2 i with
  |false =>
   rw[ha]at t g;have hn:=g false zSp;simp[go_sem,p,J,P,l,o,r,qs,t,hn,w1];exact aK ⟨zS1 p,zS1 I,zS1 C,zSi,zSi⟩
  |true =>
   rw[ha]at t g;have hn:=g (b.2 i) zSp;simp[go_sem,p,I,J,P,l,o,r,a0,qs,t,m2,hn,w1];exact aK ⟨zS1 p,zS1 I,zS1 C,zSi,zSi⟩
 .have a1:i=64:=by omega
  subst a1;simp[go_sem,p,C,J,P,qs,tk,pc];rw[if_pos (q8 _)];simp[go_sem,C,qs,tk];have e:(aI a.1 :: hB fun j=>if j<64 then a.2 j&&b.2 j else a.2 j)=cRS (intS a b):=by
   exact congrArg (aI a.1 :: ·) (uH fun j hj=>if_pos hj)
  rw[e];exact .hf _ (yC _)
def trS(a:RS):RS:=(2,fun j=>decide (j<16)&&a.2 (j % 4*4+j / 4))
theorem qcL(a):qd qb 197 [eRS a] (eRS (trS a)):=by
 refine qSU call197 func197 rfl ?_;refine⟨q8 _,?_⟩;refine kT 16 (fun i U=>U.tm 1 = .ip (cRS a)/\U.tm 2 = .ptr 0 0/\U.tm 3 = .ptr 1 0/\U.tm 4=aI i/\U.mu=[.arr (aI 0 :: hB fun _=>false),.arr (aI 2 :: hB (fun j=>decide (j<16/\j % 4*4+j / 4<i)&&a.2 (j % 4*4+j / 4)))]) ?_ ?_
 .exact ⟨zSi,zSi,zSi,zSi,by simp[go_sem];first|rfl|exact⟨rfl,rfl⟩⟩
 rintro i U hi ⟨R,o,p,e4,r⟩;by_cases t:i<16
 .have l:(i:Int)<16:=by omega
  have w1:=zWk i;obtain⟨q,hq⟩:∃ q:Nat,q=i % 4*4+i / 4:=⟨_,rfl⟩;have a0:q<16:=zOm;have w2:qm.wrap ((i:Int).tmod 4)=((i % 4:Nat):Int):=by
   rw[uN zOm];rw[zWr];omega
  have w3:qm.wrap (qm.wrap ((i:Int).tmod 4*4)+qm.wrap ((i:Int) / 4))=(q:Int):=by
   have x1:qm.wrap ((i:Int) % 4*4)=(i:Int) % 4*4:=zWr;have x2:qm.wrap ((i:Int) / 4)=(i:Int) / 4:=zWr;rw[uN zOm,x1,x2,zWr];omega
  generalize hG:(fun j=>decide (j<16/\j % 4*4+j / 4<i)&&a.2 (j % 4*4+j / 4))=G at *
  have g:(aI 2 :: hB G).set (1+q) (aB (a.2 i))=aI 2 :: hB (fun j=>decide (j<16/\j % 4*4+j / 4<i+1)&&a.2 (j % 4*4+j / 4)):=by
   rw[s1];refine congrArg (aI 2 :: ·) (uH fun j hj=>?_);rw[<-hG];by_cases C:j=q
   .have h2:j % 4*4+j / 4=i:=by omega
    rw[if_pos C,h2,decide_eq_true ⟨zOm,zOm⟩];rfl
   .have h2:¬(j<16/\j % 4*4+j / 4=i):=fun h=>C zOm
    rw[if_neg C];have h3:(j<16/\j % 4*4+j / 4<i+1)=(j<16/\j % 4*4+j / 4<i):=propext ⟨fun h=>⟨h.1,zOm⟩,fun h=>⟨h.1,zOm⟩⟩;rw[show decide (j<16/\j % 4*4+j / 4<i+1)=decide (j<16/\j % 4*4+j / 4<i) from decide_eq_decide.2 (by rw[h3])]
  have m2:=d0 a.2 i zOm;have I:(i:Int)<64:=zOm;have J:1<=64-i:=zOm;simp[go_sem,R,p,e4,r,t,l,I,J,m2,qs,w1,w3,show (q:Int)<64 by omega,show 1+q<=64 by omega,g];exact aK ⟨zS1 R,zS1 o,zS1 p,zSi,zSi⟩
 .have P:i=16:=by omega
  subst P;have e:hB (fun j=>decide (j<16/\j % 4*4+j / 4<16)&&a.2 (j % 4*4+j / 4))=hB (trS a).2:=by
   refine uH fun j hj=>?_
   rw[show decide (j<16/\j % 4*4+j / 4<16)=decide (j<16) from decide_eq_decide.2 ⟨fun h=>h.1,fun h=>⟨h,zOm⟩⟩];rfl
  rw[e]at r;have hT:eRS (trS a) = .agg (aI 2 :: hB (trS a).2):=rfl;rw[hT];generalize (trS a).2=T at *
  simp[go_sem,o,p,e4,r,qs,tk,pc];rw[if_pos (q8 _)];simp[go_sem,o,qs,tk];exact .hf _ (yC (2,T))
def wT(a b:RS)(j:Nat):Bool:=a.2 (j / szA b.1)&&b.2 (j % szA b.1)
def K3(a b:RS):RS:=(a.1+b.1,fun j=>decide (j<szA a.1*szA b.1)&&wT a b j)
theorem qpL(f:Nat->Bool)(p v)(i:v=f p):∀ j,(if j=p then v else decide (j<p)&&f j)=(decide (j<p+1)&&f j):=fun j=>by
 by_cases g:j=p
 .subst g;simp[i]
 .rw [if_neg g,show decide (j<p+1)=decide (j<p) from decide_eq_decide.2 zOm]
theorem qcM(a b)(ha:0<=a.1/\a.1<=1000)(hb:0<=b.1/\b.1<=1000):qd qb 196 [eRS a,eRS b] (eRS (K3 a b)):=by
 refine qSV call196 func196 rfl ?_;have w0:qm.wrap (a.1+b.1)=a.1+b.1:=zWr;have ag:=Vd a.1;have ah:=Vd b.1;have ca:=UY a.1;have cb:=UY b.1;have hf:∀ j,wT a b j=(a.2 (j / szA b.1)&&b.2 (j % szA b.1)):=fun _=>rfl
 simp[go_sem,qs];refine⟨q8 _,q8 _,?_⟩;simp[go_sem,w0];refine tC cb (.zs .nil) ?_;generalize hE:K3 a b=E;have aa:E=(a.1+b.1,fun j=>decide (j<szA a.1*szA b.1)&&wT a b j):=hE.symm;clear hE;generalize wT a b=F at *
 generalize szA a.1=sa at *
 generalize szA b.1=n at *
 simp[go_sem];refine kT sa (fun i U=>U.tm 2 = .ip (cRS a)/\U.tm 3 = .ip (cRS b)/\U.tm 4 = .ptr 0 0/\U.tm 5 = .ptr 1 0/\U.tm 6=aI n/\U.tm 7=aI i/\U.mu=[.arr (aI 0 :: hB fun _=>false),.arr (aI (a.1+b.1) :: hB (fun j=>decide (j<i*n)&&F j))]) ?_ ?_
 .exact ⟨zSi,zSi,zSi,zSi,zSi,zSi,by simp[go_sem];first|rfl|exact⟨rfl,rfl⟩⟩
 rintro i U hi ⟨l,C,J,P,o,r,R⟩;simp[go_sem,l,r,R];refine tC ca (.zs .nil) ?_;by_cases a7:i<sa
 .have w1:=zWk i
  simp[go_sem,a7];refine kT n (fun k U=>U.tm 2 = .ip (cRS a)/\U.tm 3 = .ip (cRS b)/\U.tm 4 = .ptr 0 0/\U.tm 5 = .ptr 1 0/\U.tm 6=aI n/\U.tm 7=aI i/\U.tm 8=aI k/\U.mu=[.arr (aI 0 :: hB fun _=>false),.arr (aI (a.1+b.1) :: hB (fun j=>decide (j<i*n+k)&&F j))]) ?_ ?_
  .exact ⟨zS1 l,zS1 C,zS1 J,zS1 P,zS1 o,zS1 r,zSi,zSi⟩
  clear l C J P o r R;rintro k U hk ⟨l,C,J,P,o,r,e8,R⟩;by_cases t:k<n
  .have w2:=zWk k
   obtain⟨p,hp⟩:∃ p:Nat,p=i*n+k:=⟨_,rfl⟩;have a8:((i:Int)*n+k)=(p:Int):=by rw[hp];push_cast;rfl
   have ai:i*n<=63*64:=Nat.mul_le_mul zOm zOm;have w3:qm.wrap ((i:Int)*n)=(i:Int)*n:=by
    have:((i*n:Nat):Int)=(i:Int)*n:=by push_cast;rfl
    rw[<-this];exact zWr
   have w4:qm.wrap (p:Int)=(p:Int):=zWr;have a3:F p=(a.2 i&&b.2 k):=by
    rw[hf,hp,Nat.add_comm,Nat.add_mul_div_right _ _ zOm,Nat.add_mul_mod_self_right,Nat.div_eq_of_lt t,Nat.mod_eq_of_lt t,z7]
   have m1:=d0 a.2 i zOm;have m2:=d0 b.2 k zOm;have a0:1<=64-i:=zOm;have a4:1<=64-k:=zOm;have a1:(i:Int)<64:=zOm;have a5:(k:Int)<64:=zOm;have hq:∀ x:AV,(x :: hB (fun j=>decide (j<p)&&F j)).set (1+p) (aB true)=x :: hB (fun j=>if j=p then true else decide (j<p)&&F j):=fun x=>s1 x _ p true
   rw[<-hp]at R;have ab:F p=true->(fun j=>if j=p then true else decide (j<p)&&F j)=(fun j=>decide (j<p+1)&&F j):=fun h=>funext (qpL F p true h.symm)
   have ad:F p=true->∀ x:AV,(x :: hB (fun j=>decide (j<p)&&F j)).set (1+p) (AV.sc (Value.bool true))=x :: hB (fun j=>decide (j<p+1)&&F j):=fun h x=>by rw[<-ab h];exact hq x
   have a6:(F p=false\/64<=p)->hB (fun j=>decide (j<p)&&F j)=hB (fun j=>decide (j<p+1)&&F j):=fun h=>uH fun j hj=>by
    by_cases h1:j=p
    .rcases h with h|h
     .rw [h1,h];simp
     .omega
    .rw [show decide (j<p+1)=decide (j<p) from decide_eq_decide.2 zOm]
   have done:∀ g:St,g.tm 2 = .ip (cRS a)->g.tm 3 = .ip (cRS b)->g.tm 4 = .ptr 0 0->g.tm 5 = .ptr 1 0->g.tm 6=aI n->g.tm 7=aI i->g.tm 8=aI (k+1:Nat)->g.mu=[.arr (aI 0 :: hB fun _=>false),.arr (aI (a.1+b.1) :: hB (fun j=>decide (j<p+1)&&F j))]->Keep (fun U=>U.tm 2 = .ip (cRS a)/\U.tm 3 = .ip (cRS b)/\U.tm 4 = .ptr 0 0/\U.tm 5 = .ptr 1 0/\U.tm 6=aI n/\U.tm 7=aI i/\U.tm 8=aI (k+1:Nat)/\U.mu=[.arr (aI 0 :: hB fun _=>false),.arr (aI (a.1+b.1) :: hB (fun j=>decide (j<i*n+(k+1))&&F j))]) .mk g:=
    fun g b1 b2 b3 b4 b5 b6 b7 b8=>aK ⟨b1,b2,b3,b4,b5,b6,b7,by rw[b8,hp];rfl⟩
   cases I:a.2 i with
   |false =>
    rw[I]at m1;simp[go_sem,l,o,r,e8,R,t,qs,m1,a0,a1,w2];exact done _ (zS1 l) (zS1 C) (zS1 J) (zS1 P) (zS1 o) (zS1 r) zSi (by simp[go_sem,a6 (.inl (by rw[a3,I];rfl))])
   |true =>
    rw[I]at m1;cases a2:b.2 k with
    |false =>
     rw[a2]at m2;simp[go_sem,l,C,o,r,e8,R,t,qs,m1,m2,a0,a4,a1,a5,w2];exact done _ (zS1 l) (zS1 C) (zS1 J) (zS1 P) (zS1 o) (zS1 r) zSi (by simp[go_sem,a6 (.inl (by rw[a3,I,a2];rfl))])
    |true =>
     rw[a2]at m2;by_cases a9:(p:Int)<64
     .simp [go_sem,l,C,P,o,r,e8,R,t,qs,m1,m2,a0,a4,a1,a5,w2,w3,a8,w4,a9,show 1+p<=64 by omega,ad (by rw[a3,I,a2];rfl)]
      exact done _ (zS1 l) (zS1 C) (zS1 J) (zS1 P) (zS1 o) (zS1 r) zSi zSi
     .simp [go_sem,l,C,o,r,e8,R,t,qs,m1,m2,a0,a4,a1,a5,w2,w3,a8,w4,a9]
      exact done _ (zS1 l) (zS1 C) (zS1 J) (zS1 P) (zS1 o) (zS1 r) zSi (by simp[go_sem,a6 (.inr zOm)])
  .have ae:k=n:=by omega
   subst ae;rw[show i*k+k=(i+1)*k by rw[Nat.add_mul,Nat.one_mul]]at R;simp[go_sem,o,r,e8,R,w1];exact⟨a7,aK ⟨zS1 l,zS1 C,zS1 J,zS1 P,zS1 o,zSi,zSi⟩⟩
 .have af:i=sa:=by omega
  subst af;rw[aa];generalize (fun j=>decide (j<i*n)&&F j)=T at *
  simp[go_sem,J,P,qs,tk,pc];rw[if_pos (q8 _)];simp[go_sem,J,qs,tk];exact .hf _ (yC (_,T))
def rowJ(a b:RS)(i g j:Nat):Bool:=(qq g).any fun k=>decide (i / 4*(szA b.1 / 4)+k % (szA b.1 / 4)=j)&&(decide (i % 4=k / (szA b.1 / 4))&&(a.2 i&&b.2 k))
def ZS(a b:RS):RS:=(a.1+b.1-2,fun j=>(qq (szA a.1)).any fun i=>rowJ a b i (szA b.1) j)
theorem qpM(a b i k j):rowJ a b i (k+1) j=(rowJ a b i k j||(decide (i / 4*(szA b.1 / 4)+k % (szA b.1 / 4)=j)&&(decide (i % 4=k / (szA b.1 / 4))&&(a.2 i&&b.2 k)))):=by
 unfold rowJ;rw[List.range_succ,List.any_append];simp
theorem qpN{k}(h:1<=k):4<=szA k:=by unfold szA;split<;>(try split)<;>(try split)<;>omega
theorem uX(a b)(ha:0<=a.1/\a.1<=1000)(hb:1<=b.1/\b.1<=1000):qd qb 195 [eRS a,eRS b] (eRS (ZS a b)):=by
 refine qSV call195 func195 rfl ?_;have w0:qm.wrap (a.1+b.1)=a.1+b.1:=zWr;have ab:qm.wrap (a.1+b.1-2)=a.1+b.1-2:=zWr;have aj:=Vd a.1;have ak:=Vd b.1;have al:=qpN hb.1;have ca:=UY a.1;have cb:=UY b.1;have hR:∀ i k j,rowJ a b i (k+1) j=(rowJ a b i k j||(decide (i / 4*(szA b.1 / 4)+k % (szA b.1 / 4)=j)&&(decide (i % 4=k / (szA b.1 / 4))&&(a.2 i&&b.2 k)))):=qpM a b;have ad:∀ i j,rowJ a b i 0 j=false:=fun i j=>rfl
 simp[go_sem,qs];refine⟨q8 _,q8 _,?_⟩;simp[go_sem,w0,ab];refine tC cb (.zs .nil) ?_;generalize hE:ZS a b=E;have ae:E=(a.1+b.1-2,fun j=>(qq (szA a.1)).any fun i=>rowJ a b i (szA b.1) j):=hE.symm;clear hE;generalize rowJ a b=F at *
 generalize szA a.1=sa at *
 generalize szA b.1=sb at *
 obtain⟨n,hn⟩:∃ n:Nat,n=sb / 4:=⟨_,rfl⟩;have an:1<=n/\n<=16:=zOm;have wn:qm.wrap ((sb:Int) / 4)=(n:Int):=by rw[zWr];omega
 rw[<-hn]at hR;simp[go_sem,wn];refine kT sa (fun i U=>U.tm 2 = .ip (cRS a)/\U.tm 3 = .ip (cRS b)/\U.tm 4 = .ptr 0 0/\U.tm 5 = .ptr 1 0/\U.tm 6=aI n/\U.tm 7=aI i/\U.mu=[.arr (aI 0 :: hB fun _=>false),.arr (aI (a.1+b.1-2) :: hB (fun j=>(qq i).any fun i=>F i sb j))]) ?_ ?_
 .exact ⟨zSi,zSi,zSi,zSi,zSi,zSi,by simp[go_sem];first|rfl|exact⟨rfl,rfl⟩⟩
 rintro i U hi ⟨l,r,C,I,t,o,hm⟩;simp[go_sem,l,o,hm];refine tC ca (.zs .nil) ?_;by_cases a9:i<sa
 .have w1:=zWk i
  generalize hP:(fun j=>(qq i).any fun i=>F i sb j)=P at *
  simp[go_sem,a9];refine kT sb (fun k U=>U.tm 2 = .ip (cRS a)/\U.tm 3 = .ip (cRS b)/\U.tm 4 = .ptr 0 0/\U.tm 5 = .ptr 1 0/\U.tm 6=aI n/\U.tm 7=aI i/\U.tm 8=aI k/\U.mu=[.arr (aI 0 :: hB fun _=>false),.arr (aI (a.1+b.1-2) :: hB (fun j=>P j||F i k j))]) ?_ ?_
  .exact ⟨zS1 l,zS1 r,zS1 C,zS1 I,zS1 t,zS1 o,zSi,zS1 ad⟩
  clear l r C I t o hm;rintro k U hk ⟨l,r,C,I,t,o,e8,hm⟩;simp[go_sem,r,e8,hm];refine tC cb (.zs .nil) ?_;by_cases J:k<sb
  .have w2:=zWk k
   obtain⟨p,hp⟩:∃ p:Nat,p=i / 4*n+k % n:=⟨_,rfl⟩;have ao:k % n<n:=Nat.mod_lt _ zOm;have aq:i / 4*n<=15*16:=Nat.mul_le_mul zOm zOm;have y1:((i / 4:Nat):Int)=(i:Int) / 4:=zOm;have y2:((i / 4*n:Nat):Int)=(i:Int) / 4*n:=by rw[<-y1];push_cast;rfl
   have y3:((k % n:Nat):Int)=(k:Int) % n:=rfl;have y4:((k / n:Nat):Int)=(k:Int) / n:=rfl;have af:k / n<=64:=Nat.le_trans (Nat.div_le_self k n) zOm;have x1:qm.wrap ((i:Int) / 4)=(i:Int) / 4:=zWr;have x2:qm.wrap ((i:Int) / 4*n)=(i:Int) / 4*n:=by rw[<-y2];exact zWr
   have x4:qm.wrap ((i:Int) / 4*n+(k:Int) % n)=(p:Int):=by rw[<-y2,<-y3,zWr,hp];push_cast;rfl
   have a8:qm.wrap ((i:Int) / 4*n+(k:Int).tmod n)=(p:Int):=by rw[uN zOm];exact x4
   have x5:qm.wrap ((k:Int) / n)=(k:Int) / n:=by
    rw[<-y4];clear y4;generalize k / n=c at af⊢;exact zWr
   have R:¬n=0:=zOm;have m1:=d0 a.2 i zOm;have m2:=d0 b.2 k zOm;have a0:1<=64-i:=zOm;have a2:1<=64-k:=zOm;have a1:(i:Int)<64:=zOm;have a3:(k:Int)<64:=zOm;have a4:((decide (i % 4=k / n)&&(a.2 i&&b.2 k))=false\/64<=p)->hB (fun j=>P j||F i k j)=hB (fun j=>P j||F i (k+1) j):=fun h=>uH fun j hj=>by
    rw[hR,<-hp];rcases h with h|h
    .rw [h,Bool.and_false,Bool.or_false]
    .rw [decide_eq_false zOm,Bool.false_and,Bool.or_false]
   have ag:(decide (i % 4=k / n)&&(a.2 i&&b.2 k))=true->∀ x:AV,(x :: hB (fun j=>P j||F i k j)).set (1+p) (AV.sc (Value.bool true))=x :: hB (fun j=>P j||F i (k+1) j):=fun h x=>by
    refine(s1 x _ p true).trans (congrArg (x :: ·) (uH fun j hj=>?_));rw[hR,<-hp,h,Bool.and_true];by_cases h1:j=p
    .rw [if_pos h1,h1];simp
    .rw [if_neg h1,decide_eq_false (fun e=>h1 e.symm),Bool.or_false]
   have done:∀ g:St,g.tm 2 = .ip (cRS a)->g.tm 3 = .ip (cRS b)->g.tm 4 = .ptr 0 0->g.tm 5 = .ptr 1 0->g.tm 6=aI n->g.tm 7=aI i->g.tm 8=aI (k+1:Nat)->g.mu=[.arr (aI 0 :: hB fun _=>false),.arr (aI (a.1+b.1-2) :: hB (fun j=>P j||F i (k+1) j))]->Keep (fun U=>U.tm 2 = .ip (cRS a)/\U.tm 3 = .ip (cRS b)/\U.tm 4 = .ptr 0 0/\U.tm 5 = .ptr 1 0/\U.tm 6=aI n/\U.tm 7=aI i/\U.tm 8=aI (k+1:Nat)/\U.mu=[.arr (aI 0 :: hB fun _=>false),.arr (aI (a.1+b.1-2) :: hB (fun j=>P j||F i (k+1) j))]) .mk g:=
    fun g b1 b2 b3 b4 b5 b6 b7 b8=>aK ⟨b1,b2,b3,b4,b5,b6,b7,b8⟩
   cases a5:a.2 i with
   |false =>
    rw[a5]at m1;simp[go_sem,l,t,o,e8,J,qs,x1,x2,R,m1,a0,a1,w2];exact done _ (zS1 l) (zS1 r) (zS1 C) (zS1 I) (zS1 t) (zS1 o) zSi (by simp[go_sem,a4 (.inl (by rw[a5];simp))])
   |true =>
    rw[a5]at m1;cases a6:b.2 k with
    |false =>
     rw[a6]at m2;simp[go_sem,l,r,t,o,e8,J,qs,x1,x2,R,m1,m2,a0,a1,a2,a3,w2];exact done _ (zS1 l) (zS1 r) (zS1 C) (zS1 I) (zS1 t) (zS1 o) zSi (by simp[go_sem,a4 (.inl (by rw[a6];simp))])
    |true =>
     rw[a6]at m2;by_cases hq:i % 4=k / n
     .have a7:(i:Int).tmod 4=(k:Int) / n:=by rw[uN zOm,<-y4,<-hq];rfl
      by_cases aa:(p:Int)<64
      .simp [go_sem,l,r,I,t,o,e8,J,qs,x1,x2,a8,x5,R,m1,m2,a0,a1,a2,a3,w2,a7,aa,show 1+p<=64 by omega,ag (by rw[decide_eq_true hq,a5,a6];rfl)]
       exact done _ (zS1 l) (zS1 r) (zS1 C) (zS1 I) (zS1 t) (zS1 o) zSi zSi
      .simp [go_sem,l,r,t,o,e8,J,qs,x1,x2,a8,x5,R,m1,m2,a0,a1,a2,a3,w2,a7,aa]
       exact done _ (zS1 l) (zS1 r) (zS1 C) (zS1 I) (zS1 t) (zS1 o) zSi (by simp[go_sem,a4 (.inr zOm)])
     .have a7:¬(i:Int).tmod 4=(k:Int) / n:=fun e=>hq (by rw[uN zOm,<-y4]at e;exact Int.ofNat.inj e)
      simp[go_sem,l,r,t,o,e8,J,qs,x1,x2,a8,x5,R,m1,m2,a0,a1,a2,a3,w2,a7];exact done _ (zS1 l) (zS1 r) (zS1 C) (zS1 I) (zS1 t) (zS1 o) zSi (by simp[go_sem,a4 (.inl (by rw[decide_eq_false hq];rfl))])
  .have ah:k=sb:=by omega
   subst ah;simp[go_sem,o,w1];exact⟨a9,aK ⟨zS1 l,zS1 r,zS1 C,zS1 I,zS1 t,zSi,by simp[go_sem];rw[<-hP]⟩⟩
 .have ai:i=sa:=by omega
  subst ai;rw[ae];generalize (fun j=>(qq i).any fun i=>F i sb j)=T at *
  simp[go_sem,C,I,qs,tk,pc];rw[if_pos (q8 _)];simp[go_sem,C,qs,tk];exact .hf _ (yC (_,T))
end QE
namespace QF
open Y2 Y3 P1 P2 QD QE
section
variable {p q:Int}{a b:Kd}{l:List Int}{m ns:Nat}
def dig(k:Int)(j:Nat):List Int:=if k=0 then [] else if k=1 then [(j:Int)] else if k=2 then [((j / 4:Nat):Int),((j % 4:Nat):Int)] else [((j / 16:Nat):Int),((j / 4 % 4:Nat):Int),((j % 4:Nat):Int)]
theorem ZT{k}(h:0<=k/\k<=3)(j):((dig k j).length:Int)=k:=by
 grind [dig]
theorem szA1:szA 1=4:=rfl
theorem szA2:szA 2=16:=rfl
theorem szA3:szA 3=64:=rfl
theorem Ve(h:0<=p/\p<=3):p=0\/p=1\/p=2\/p=3:=by omega
theorem qcN(g:0<=p)(i:0<=q)(h:p+q<=3){j}(l:j<szA (p+q)):j / szA q<szA p/\j % szA q<szA q/\dig (p+q) j=dig p (j / szA q)++dig q (j % szA q):=by
 rcases Ve (p:=p) ⟨g,zOm⟩ with rfl|rfl|rfl|rfl<;>rcases Ve (p:=q) ⟨i,zOm⟩ with rfl|rfl|rfl|rfl<;>first | (exfalso;omega)|skip
 all_goals simp[dig,szA]at l⊢
 all_goals omega
theorem K4(g:0<=p)(j:0<=q)(h:p+q<=3){i k}(l:i<szA p)(o:k<szA q):i*szA q+k<szA (p+q)/\dig (p+q) (i*szA q+k)=dig p i++dig q k:=by
 rcases Ve (p:=p) ⟨g,zOm⟩ with rfl|rfl|rfl|rfl<;>rcases Ve (p:=q) ⟨j,zOm⟩ with rfl|rfl|rfl|rfl<;>first | (exfalso;omega)|skip
 all_goals simp[dig,szA]at l o⊢
 all_goals omega
theorem K5(h:0<=p/\p<=3){i j}(g:i<szA p)(l:j<szA p)(e:dig p i=dig p j):i=j:=by
 rcases Ve h with rfl|rfl|rfl|rfl
 all_goals grind [dig,szA]
 all_goals omega
theorem qcO(h:1<=p/\p<=3){l}(j:(l.length:Int)=p)(g:∀ x,x∈l->0<=x/\x<4):∃ i,i<szA p/\l=dig p i:=by
 match l,j,g with
 | [],j,_=>simp at j;omega
 | [a],j,g =>
  obtain rfl:p=1:=by grind
  have:=g a zSp;exact⟨a.toNat,by rw[szA1];omega,by simp[dig];omega⟩
 | [a,b],j,g =>
  obtain rfl:p=2:=by grind
  have:=g a zSp;have:=g b zSp;exact⟨(a*4+b).toNat,by rw[szA2];omega,by simp[dig];omega⟩
 | [a,b,c],j,g =>
  obtain rfl:p=3:=by grind
  have:=g a zSp;have:=g b zSp;have:=g c zSp;exact⟨(a*16+b*4+c).toNat,by rw[szA3];omega,by simp[dig];omega⟩
 |a :: b :: c :: d :: l,j,_=>simp at j;omega
theorem K6{l'}(h:l.length=l'.length)(g:l.length<=3)(e:pad l=pad l'):l=l':=by
 have i:=ZI g l.length (qo _);have j:=ZI (l:=l') zOm l'.length (qo _)
 grind
theorem YL{k}(h:okKd ns k)(g:ns<=4){t:Tp}(j:t∈k.ts):∃ i,i<szA k.ar/\t=pad (dig k.ar i):=by
 obtain⟨l,rfl,o,p⟩:=h.ts t j;obtain⟨i,r,e⟩:=qcO h.ar o fun x C=>by grind
 grind
def qp(k:Kd):RS:=(k.ar,fun j=>decide (j<szA k.ar/\pad (dig k.ar j)∈k.ts))
theorem yP(k j):(qp k).2 j=true↔j<szA k.ar/\pad (dig k.ar j)∈k.ts:=decide_eq_true_iff
theorem Qd{a b}(g:a.1=b.1)(i:∀ j,j<64->a.2 j=b.2 j):eRS a=eRS b:=by
 simp only[eRS,cRS,g,uH i]
theorem Vf(h:a.ar=b.ar):eRS (uniS (qp a) (qp b))=eRS (qp (kSum a b)):=by
 refine Qd rfl fun j g=>?_
 rw[jX,yP];show ((qp a).2 j||(qp b).2 j)=true↔j<szA a.ar/\pad (dig a.ar j)∈uni (uni [] a.ts) b.ts;rw[Bool.or_eq_true,yP,yP,<-h,vH,vH]
 grind
theorem qpO(h:a.ar=b.ar):eRS (intS (qp a) (qp b))=eRS (qp (Ye a b)):=by
 refine Qd rfl fun j g=>?_
 rw[jX,yP];show ((qp a).2 j&&(qp b).2 j)=true↔j<szA a.ar/\pad (dig a.ar j)∈a.ts.filter fun t=>decide (t∈b.ts)
 rw[qD,yP,yP,<-h,yX,decide_eq_true_eq]
 grind
theorem Jw{n a b t}:t∈wS n m a b↔∃ x y,x∈a/\y∈b/\conc x n y m 0=t:=by
 unfold wS;rw[vH];simp only[qF,false_or,qi,Prod.exists,Yd]
 grind
theorem JT{l' n}(h:l.length=n)(g:l'.length=m)(i:n<=3)(j:m<=3):conc (pad l) n (pad l') m 0=pad (l++l'):=by
 unfold conc;rw[Nat.sub_zero,List.drop_zero,ZI zOm n zOm,ZI zOm m zOm,<-h,<-g,qO,qO]
theorem qpP(J:okKd ns a)(P:okKd ns b)(l:ns<=4)(R:a.ar+b.ar<=3):eRS (K3 (qp a) (qp b))=eRS (qp (uz a b)):=by
 have a0:=J.ar;have a1:=P.ar;have la:=fun i=>ZT (k:=a.ar) zOm i
 have lb:=fun i=>ZT (k:=b.ar) zOm i
 have g:=fun i=>ZT (k:=a.ar+b.ar) zOm i
 refine Qd rfl fun j hj=>?_
 rw[jX,yP];show (decide (j<szA a.ar*szA b.ar)&&((qp a).2 (j / szA b.ar)&&(qp b).2 (j % szA b.ar)))=true↔j<szA (a.ar+b.ar)/\pad (dig (a.ar+b.ar) j)∈wS a.ar.toNat b.ar.toNat a.ts b.ts;rw[qD,qD,yP,yP,Jw,decide_eq_true_eq];constructor
 .rintro ⟨_,⟨r,h2⟩,h4,h5⟩
  have t:=K4 (p:=a.ar) (q:=b.ar) zOm zOm R r h4
  grind [szA,Nat.div_add_mod',JT]
 .rintro ⟨r,x,y,T,U,e⟩
  obtain⟨i,C,rfl⟩:=YL J l T;obtain⟨k,o,rfl⟩:=YL P l U;rw[JT (zW1 (la i)) (zW1 (lb k)) zOm zOm]at e;have t:=K4 (p:=a.ar) (q:=b.ar) zOm zOm R C o;rw[<-t.2]at e;have e2:=K6 (zW2 (g (i*szA b.ar+k)) (g j)) (zW1 (g (i*szA b.ar+k))) e;have I:=K5 zOm t.1 r e2;have a2:=Vd b.ar;have d1:j / szA b.ar=i:=by rw[<-I,Nat.add_comm,Nat.add_mul_div_right _ _ zOm,Nat.div_eq_of_lt o,z7]
  have d2:j % szA b.ar=k:=by rw[<-I,Nat.add_comm,Nat.add_mul_mod_self_right,Nat.mod_eq_of_lt o]
  rw[d1,d2];refine⟨?_,⟨C,T⟩,o,U⟩;rw[<-I]
  calc i*szA b.ar+k<i*szA b.ar+szA b.ar:=by omega
   _=(i+1)*szA b.ar:=by rw[Nat.add_mul,Nat.one_mul]
   _<=szA a.ar*szA b.ar:=Nat.mul_le_mul_right _ C
theorem Qt{n a b t}:t∈uy n m a b↔∃ x y,x∈a/\y∈b/\x.getD (n-1) 0=y.getD 0 0/\conc x n y m 1=t:=by
 unfold uy;rw[vH];simp only[qF,false_or,List.mem_filterMap,Prod.exists,Yd];constructor
 .rintro ⟨x,y,⟨i,j⟩,g⟩
  split at g
  .rename_i h;cases g;exact⟨x,y,i,j,h,rfl⟩
  .cases g
 .rintro ⟨x,y,i,j,g,l⟩;exact⟨x,y,⟨i,j⟩,by rw[if_pos g,l]⟩
theorem qpQ{u v e f n}(h:u.length+1=n)(g:v.length+1=m)(i:n<=3)(j:m<=3):conc (pad (u++[e])) n (pad ([f]++v)) m 1=pad (u++v):=by
 unfold conc;rw[ZI zSo (n-1) zSo,ZI zSo m zSo,List.take_append_of_le_length zOm,zO zOm,zO zSo];rfl
theorem qcP{k}(h:k<3):(pad l).getD k 0=l.getD k 0:=by
 match k,h with
 | 0,_=>rfl
 | 1,_=>rfl
 | 2,_=>rfl
theorem qpR(g:0<=p/\p<=2){i}(j:i<szA (p+1)):i / 4<szA p/\dig (p+1) i=dig p (i / 4)++[((i % 4:Nat):Int)]:=by
 have:=qcN (p:=p) (q:=1) g.1 zOm zOm j;rw[szA1]at this;exact⟨this.1,this.2.2⟩
theorem qpS(g:0<=q/\q<=2){k}(i:k<szA (1+q)):k % szA q<szA q/\dig (1+q) k=[((k / szA q:Nat):Int)]++dig q (k % szA q):=by
 have:=qcN (p:=1) (q:=q) zOm g.1 zOm i;exact⟨this.2.1,this.2.2⟩
theorem qpT(g:0<=q/\q<=2):szA (q+1) / 4=szA q/\szA (q+1)=4*szA q:=by
 rcases (show q=0\/q=1\/q=2 by omega) with rfl|rfl|rfl<;>exact⟨rfl,rfl⟩
theorem qcQ(ha:okKd ns a)(hb:okKd ns b)(r:ns<=4)(h3:1<=a.ar+b.ar-2/\a.ar+b.ar-2<=3):eRS (ZS (qp a) (qp b))=eRS (qp (zH a b)):=by
 have a0:=ha.ar;have a3:=hb.ar;obtain⟨p,hp⟩:∃ p,p=a.ar-1:=⟨_,rfl⟩;obtain⟨q,hq⟩:∃ q,q=b.ar-1:=⟨_,rfl⟩;have ea:a.ar=p+1:=zOm;have eb:b.ar=1+q:=zOm;have t:b.ar=q+1:=zOm;have C:a.ar+b.ar-2=p+q:=zOm;have I:=qpT (q:=q) zOm;have hn:szA b.ar / 4=szA q:=by rw[t];exact I.1
 have lp:=fun i=>ZT (k:=p) zOm i
 have lq:=fun i=>ZT (k:=q) zOm i
 have o:=fun i=>ZT (k:=p+q) zOm i
 have A:∀ i,i<szA a.ar->i / 4<szA p/\dig a.ar i=dig p (i / 4)++[((i % 4:Nat):Int)]:=fun i g=>by rw[ea]at g⊢;exact qpR zOm g
 have B:∀ k,k<szA b.ar->k % szA q<szA q/\dig b.ar k=[((k / szA q:Nat):Int)]++dig q (k % szA q):=fun k l=>by rw[eb]at l⊢;exact qpS zOm l
 have J:∀ i k,i<szA a.ar->k<szA b.ar->i / 4*szA q+k % szA q<szA (p+q)/\(pad (dig a.ar i)).getD (a.ar.toNat-1) 0=((i % 4:Nat):Int)/\(pad (dig b.ar k)).getD 0 0=((k / szA q:Nat):Int)/\conc (pad (dig a.ar i)) a.ar.toNat (pad (dig b.ar k)) b.ar.toNat 1=pad (dig (p+q) (i / 4*szA q+k % szA q)):=fun i k g l=>by
  obtain⟨a1,a2⟩:=A i g;obtain⟨b1,b2⟩:=B k l;have hm:=K4 (p:=p) (q:=q) zOm zOm zOm a1 b1;have l1:=lp (i / 4);have l2:=lq (k % szA q);refine⟨hm.1,?_,?_,?_⟩
  .rw [qcP zOm,a2,show a.ar.toNat-1=(dig p (i / 4)).length by omega];simp
  .rw [qcP zOm,b2];rfl
  .rw [a2,b2,hm.2];exact qpQ zOm zOm zOm zOm
 refine Qd rfl fun j hj=>?_
 rw[jX,yP];show ((qq (szA a.ar)).any fun i=>(qq (szA b.ar)).any fun k=>decide (i / 4*(szA b.ar / 4)+k % (szA b.ar / 4)=j)&&(decide (i % 4=k / (szA b.ar / 4))&&((qp a).2 i&&(qp b).2 k)))=true↔j<szA (a.ar+b.ar-2)/\pad (dig (a.ar+b.ar-2) j)∈uy a.ar.toNat b.ar.toNat a.ts b.ts;rw[Qt,List.any_eq_true,hn,C];constructor
 .rintro ⟨i,g,h⟩
  obtain⟨k,l,h⟩:=List.any_eq_true.1 h;rw[zW]at g l;rw[qD,qD,qD,decide_eq_true_eq,decide_eq_true_eq,yP,yP]at h;obtain⟨rfl,P,⟨_,h4⟩,_,h5⟩:=h;obtain⟨R,T,U,j4⟩:=J i k g l;exact⟨R,_,_,h4,h5,by rw[T,U,P],j4⟩
 .rintro ⟨h1,x,y,hx,hy,P,e⟩
  obtain⟨i,g,rfl⟩:=YL ha r hx;obtain⟨k,l,rfl⟩:=YL hb r hy;obtain⟨R,T,U,j4⟩:=J i k g l;rw[j4]at e;have e2:=K6 (zW2 (o (i / 4*szA q+k % szA q)) (o j)) (zW1 (o (i / 4*szA q+k % szA q))) e;have e3:=K5 zOm R h1 e2;rw[T,U]at P;refine⟨i,zW.2 g,List.any_eq_true.2 ⟨k,zW.2 l,?_⟩⟩;rw[qD,qD,qD,decide_eq_true_eq,decide_eq_true_eq,yP,yP];exact⟨e3,zOm,⟨g,hx⟩,l,hy⟩
theorem qpU(o:okKd ns a)(g:ns<=4)(p:a.ar=2):eRS (trS (qp a))=eRS (qp (kTr a)):=by
 refine Qd rfl fun j I=>?_
 rw[jX,yP];show (decide (j<16)&&(qp a).2 (j % 4*4+j / 4))=true↔j<16/\pad (dig 2 j)∈uni [] (a.ts.map fun t=>[t.getD 1 0,t.getD 0 0,0]);rw[qD,yP,vH,decide_eq_true_eq,p,szA2];simp only[qF,false_or,qi];constructor
 .rintro ⟨l,J,r⟩
  refine⟨l,_,r,?_⟩
  grind [dig,pad]
 .rintro ⟨l,t,C,e⟩
  obtain⟨i,P,rfl⟩:=YL o g C
  grind [szA2,dig,pad]
theorem K7(h:1<=l.length/\l.length<=3)(g:∀ x,x∈l->0<=x/\x<4):eRS (oneS l)=eRS (qp (kOf l)):=by
 refine Qd rfl fun j P=>?_
 obtain⟨i,o,e⟩:=qcO (p:=(l.length:Int)) zOm rfl g;have r:atF 0 l=i:=by
  match l,h,g,o,e with
  | [x],_,g,o,e =>
   have:=g x zSp;simp[dig]at e;simp[atF,IntKind.wrap,IntKind.signed,IntKind.bits];omega
  | [x,y],_,g,o,e =>
   have:=g x zSp;have:=g y zSp;simp[dig]at e;simp[atF,IntKind.wrap,IntKind.signed,IntKind.bits];omega
  | [x,y,z],_,g,o,e =>
   have:=g x zSp;have:=g y zSp;have:=g z zSp;simp[dig]at e;simp[atF,IntKind.wrap,IntKind.signed,IntKind.bits];omega
 rw[jX,yP];show decide ((j:Int)=atF 0 l)=true↔j<szA (l.length:Int)/\pad (dig (l.length:Int) j)∈[pad l];rw[decide_eq_true_eq,r,qT];have C:=fun j=>ZT (k:=(l.length:Int)) zOm j
 constructor
 .intro I
  obtain rfl:j=i:=zOm
  grind
 .rintro ⟨I,J⟩
  have t:=K6 (zW1 (C j)) (zW1 (C j)) J;rw[e]at t;have:=K5 (p:=(l.length:Int)) zOm I o (by rw[<-e]at t⊢;exact t);omega
end
end QF
namespace QG
open Y2 P1 P2 PB QE QF
section
variable {k:Kd}{ns:Nat}
def Vg(k:Kd):Kd:=kSum k (zH k k)
def itK:Nat->Kd->Kd
 | 0,k=>k
 |i+1,k=>Vg (itK i k)
theorem qpV(h:okKd ns k)(g:k.ar=2):okKd ns (Vg k)/\(Vg k).ar=2:=
 ⟨JS h (JU h h zOm zOm) (by grind [zH]),g⟩
theorem okIt(h:okKd ns k)(g:k.ar=2):∀ i,okKd ns (itK i k)/\(itK i k).ar=2
 | 0=>⟨h,g⟩
 |i+1=>qpV (okIt h g i).1 (okIt h g i).2
abbrev Ed(k:Kd)(u v:Int):Prop:=[u,v,0]∈k.ts
theorem UZ(h:okKd ns k)(o:k.ar=2){t:Tp}(j:t∈k.ts):∃ u v,t=[u,v,0]/\(0<=u/\u<ns)/\(0<=v/\v<ns):=by
 obtain⟨l,rfl,g,i⟩:=h.ts t j
 match l,g,i with
 | [u,v],_,i=>exact⟨u,v,rfl,i u zSp,i v zSp⟩
 | [],g,_=>simp at g;omega
 | [_],g,_=>simp at g;omega
 |_ :: _ :: _ :: _,g,_=>simp at g;omega
theorem qcR(h:okKd ns k)(j:k.ar=2){u v}:[u,v,0]∈(zH k k).ts↔∃ w,Ed k u w/\Ed k w v:=by
 show [u,v,0]∈uy k.ar.toNat k.ar.toNat k.ts k.ts↔_;rw[QF.Qt,j];constructor
 .rintro ⟨x,y,l,o,g,i⟩
  obtain⟨a,b,rfl,_,_⟩:=UZ h j l;obtain⟨c,d,rfl,_,_⟩:=UZ h j o;have g:b=c:=g;have i:[a,d,0]=[u,v,0]:=i
  grind
 .rintro ⟨w,g,i⟩
  exact⟨[u,w,0],[w,v,0],g,i,rfl,rfl⟩
theorem K8(h:okKd ns k)(g:k.ar=2){u v}:Ed (Vg k) u v↔Ed k u v\/∃ w,Ed k u w/\Ed k w v:=by
 unfold Ed Vg;rw[Zi,qcR h g]
def Path(k:Kd)(n:Nat)(u v:Int):Prop:=∃ f:Nat->Int,f 0=u/\f n=v/\∀ i,i<n->Ed k (f i) (f (i+1))
theorem Path.one{u v}(h:Ed k u v):Path k 1 u v:=⟨fun i=>if i=0 then u else v,rfl,rfl,fun i g=>by
 grind⟩
theorem Path.comp{n m u w v}(h:Path k n u w)(o:Path k m w v):Path k (n+m) u v:=by
 obtain⟨f,f0,fn,hf⟩:=h;obtain⟨g,p,r,t⟩:=o;refine⟨fun i=>if i<n then f i else g (i-n),?_,?_,fun i C=>?_⟩
 .grind
 .grind
 .by_cases j:i+1<n
  .simp only[if_pos j,if_pos (show i<n by omega)];grind
  .by_cases l:i<n
   .have e:i+1=n:=by omega
    simp only[if_neg j,if_pos l]
    grind
   .simp only[if_neg j,if_neg l,show i+1-n=(i-n)+1 by omega]
    grind
theorem cV(h:okKd ns k)(J:k.ar=2)(g:ns<=4):∀ N n u v,n<=N->1<=n->Path k n u v->∃ m,1<=m/\m<=4/\Path k m u v
 | 0,n,u,v,P,R,_=>zOm
 | N+1,n,u,v,P,R,T=>by
  by_cases h4:n<=4
  .grind
  obtain⟨f,f0,fn,hf⟩:=T;have U:∀ i,i<5->0<=f i/\f i<4:=fun i t=>by
   grind [UZ]
  obtain⟨i,j,a0,hj,e⟩:∃ i j,i<j/\j<5/\f i=f j:=by
   apply Classical.byContradiction;intro l;have o:((qq 5).map f).Nodup:=List.pairwise_map.2 (List.pairwise_lt_range.imp_of_mem fun {a b} ha hb p e=>l ⟨a,b,p,zW.1 hb,e⟩);have:=List.Nodup.length_le_of_subset o (l₂:=[0,1,2,3]) fun x C=>by
    obtain⟨i,t,rfl⟩:=qi.1 C;have:=U i (zW.1 t);simp;omega
   simp at this
  refine cV h J g N (n-(j-i)) u v zOm zOm ⟨fun x=>if x<i then f x else f (x+(j-i)),?_,?_,fun x C=>?_⟩
  .grind
  .simp only[if_neg (show ¬n-(j-i)<i by omega),show n-(j-i)+(j-i)=n by omega,fn]
  .by_cases r:x+1<i
   .simp only[if_pos r,if_pos (show x<i by omega)];grind
   .by_cases I:x<i
    .have e1:x+1=i:=by omega
     simp only[if_neg r,if_pos I]
     grind
    .simp only[if_neg r,if_neg I,show x+1+(j-i)=(x+(j-i))+1 by omega]
     exact hf _ zOm
theorem Vh(h:okKd ns k)(g:k.ar=2):∀ i u v,Ed (itK i k) u v->∃ n,1<=n/\Path k n u v
 | 0,u,v,j=>⟨1,zOm,.one j⟩
 |i+1,u,v,j=>by
  rcases (K8 (okIt h g i).1 (okIt h g i).2).1 j with j|⟨w,l,o⟩
  .exact Vh h g i u v j
  .obtain ⟨n,r,p⟩:=Vh h g i u w l
   obtain⟨m,t,q⟩:=Vh h g i w v o;exact⟨n+m,zOm,p.comp q⟩
theorem YN(i):Sub (itK i k) (itK (i+1) k):=KL _ _
theorem qpW(h:okKd ns k)(g:k.ar=2){m u v}(p:1<=m)(r:m<=4)(o:Path k m u v):Ed (itK 4 k) u v:=by
 obtain⟨f,rfl,rfl,hf⟩:=o;have up:∀{u v},Ed (itK 2 k) u v->Ed (itK 4 k) u v:=fun i=>(YN 3).2 _ ((YN 2).2 _ i)
 have s1:∀{u w v},Ed (itK 0 k) u w->Ed (itK 0 k) w v->Ed (itK 1 k) u v:=fun a b=>(K8 (okIt h g 0).1 (okIt h g 0).2).2 (.inr ⟨_,a,b⟩)
 have j:∀{u w v},Ed (itK 1 k) u w->Ed (itK 1 k) w v->Ed (itK 2 k) u v:=fun a b=>(K8 (okIt h g 1).1 (okIt h g 1).2).2 (.inr ⟨_,a,b⟩)
 have l:∀{u v},Ed (itK 0 k) u v->Ed (itK 1 k) u v:=fun i=>(YN 0).2 _ i
 refine up ?_;rcases (show m=1\/m=2\/m=3\/m=4 by omega) with rfl|rfl|rfl|rfl
 .exact (YN 1).2 _ (l (hf 0 zOm))
 .exact (YN 1).2 _ (s1 (hf 0 zOm) (hf 1 zOm))
 .exact j (s1 (hf 0 zOm) (hf 1 zOm)) (l (hf 2 zOm))
 .exact j (s1 (hf 0 zOm) (hf 1 zOm)) (s1 (hf 2 zOm) (hf 3 zOm))
theorem qpX(h:okKd ns k)(g:k.ar=2)(i:ns<=4):UR (itK 4 k):=fun t l=>by
 have ok:=okIt h g 4;have j:=JU ok.1 ok.1 (by rw[ok.2];omega) (by rw[ok.2];omega);obtain⟨u,v,rfl,_,_⟩:=UZ j (by grind [zH]) l;obtain⟨w,o,r⟩:=(qcR ok.1 ok.2).1 l;obtain⟨n,C,p⟩:=Vh h g 4 u w o;obtain⟨m,I,q⟩:=Vh h g 4 w v r;obtain⟨c,c1,c4,J⟩:=cV h g i (n+m) (n+m) u v (qo _) zOm (p.comp q)
 grind [qpW]
theorem Vi{S}(g:UR S){k}(h:Sub k S):∀ i,Sub (itK i k) S
 | 0=>h
 |i+1=>⟨(Vi g h i).1,fun t j=>by
  rcases Zi.1 j with j|j
  .exact (Vi g h i).2 t j
  .exact g t ((UQ (Vi g h i) (Vi g h i)).2 t j)⟩
theorem qcS:∀ i,Sub k (itK i k)
 | 0 => .refl k
 |i+1=>(qcS i).trans (YN i)
theorem qpY(h:okKd ns k)(l:k.ar=2)(g:ns<=4):eRS (qp (itK 4 k))=eRS (qp (kClo k)):=by
 have o:Sub (kClo k) (itK 4 k):=KN (qpX h l g) 70 0 k (qcS 4);have i:Sub (itK 4 k) (kClo k):=Vi (KO g 70 0 k h l zOm (.inl rfl)) (KM 70 0 k) 4;refine Qd i.1 fun j p=>?_
 rw[jX,yP,yP,i.1];exact⟨fun x=>⟨x.1,i.2 _ x.2⟩,fun x=>⟨x.1,o.2 _ x.2⟩⟩
end
end QG
namespace QH
open YF Y9 Y2 Y3 P1 P2 PB QD QE QF QG
theorem Uf{ns a}(h:okKd ns a)(I:a.ar=2)(g:ns<=4):qd qb 198 [eRS (qp a)] (eRS (qp (kClo a))):=by
 refine qSQ call198 func198 rfl { mt:=[1] } ?_;rw[<-qpY h I g];simp[go_sem];refine⟨q8 _,?_⟩;refine kT 4 (fun i U=>U.tm 1 = .ptr 0 0/\U.tm 2 = .ptr 1 0/\U.tm 3=aI i/\U.mu=[.arr (cRS (qp (itK i a))),.arr (aI 0 :: hB fun _=>false)]) ?_ ?_
 .exact ⟨zSi,zSi,zSi,by simp[go_sem];exact⟨⟨rfl,rfl⟩,rfl⟩⟩
 rintro i U hi ⟨l,o,p,J⟩;by_cases r:i<4
 .have j:(i:Int)<4:=by omega
  have P:=zWk i;obtain⟨ok,o2⟩:=okIt h I i;have R:qd qb 195 [eRS (qp (itK i a)),eRS (qp (itK i a))] (eRS (qp (zH (itK i a) (itK i a)))):=by
   rw[<-qcQ ok ok g zOm];exact uX _ _ (by show 0<=(itK i a).ar/\(itK i a).ar<=1000;omega) (by show 1<=(itK i a).ar/\(itK i a).ar<=1000;omega)
  have T:qd qb 193 [eRS (qp (itK i a)),eRS (qp (zH (itK i a) (itK i a)))] (eRS (qp (itK (i+1) a))):=by
   have:=jT (qp (itK i a)) (qp (zH (itK i a) (itK i a)));rw[Vf (by simp only[zH];omega)]at this;exact this
  generalize t:qp (itK (i+1) a)=s' at *
  generalize qp (zH (itK i a) (itK i a))=q at *
  generalize qp (itK i a)=s at *
  simp[go_sem,p,J,j];refine cZ zKr ?_;simp[go_sem,l,qs,tk];refine fR R (.zk (yC _) (.zk (yC _) .nil)) ?_;refine tC T (.zk (yC _) (.zk (yC _) .nil)) ?_;simp[go_sem,l,qs,pc];rw[if_pos (q8 _)];simp[go_sem,p,P];exact⟨r,aK ⟨zS1 l,zS1 o,zSi,zS1 t⟩⟩
 .have C:i=4:=by omega
  subst C;generalize qp (itK 4 a)=s at *
  simp[go_sem,l,o,p,J,qs,tk,pc];rw[if_pos (q8 _)];simp[go_sem,o,qs,tk];exact .hf _ (yC s)
theorem qpZ(i k)(g:k=1\/k=2):eRS (qp (kSum (zu i k) (kOf (qS k (i:Int)))))=eRS (qp (zu (i+1) k)):=by
 refine Qd rfl fun j l=>?_
 rw[jX,yP,yP];show j<szA (k:Int)/\pad (dig (k:Int) j)∈(kSum (zu i k) (kOf (qS k (i:Int)))).ts↔j<szA (k:Int)/\pad (dig (k:Int) j)∈(qq (i+1)).map fun (x:Nat)=>pad (qS k (x:Int))
 rw[Zi,List.range_succ,q9,qH];rfl
theorem qp0(k):hB (qp (zu 0 k)).2=hB fun _=>false:=uH fun j _=>decide_eq_false fun h=>absurd h.2 qF
theorem allU(ts)(h:okTS ts)(k:Nat)(R:k=1\/k=2):qd qb 192 [eTS ts,aI k] (eRS (qp (zu ts.sS.length k))):=by
 refine qSV call192 func192 rfl ?_;have a1:=h.ns;have hz:=qp0 k;simp[go_sem];refine kT ts.sS.length (fun i U=>U.tm 1=aI k/\U.tm 2 = .ip (cTS ts)/\U.tm 4 = .ptr 0 0/\U.tm 5 = .ptr 1 0/\U.tm 6=aI i/\U.mu=[.arr (aI 0 :: hB fun _=>false),.arr (cRS (qp (zu i k)))]) ?_ ?_
 .exact ⟨zSi,zSi,zSi,zSi,zSi,by
   have e:cRS (qp (zu 0 k))=aI k :: hB fun _=>false:=by simp only[cRS,hz];rfl
   rw[e];simp[go_sem];first|rfl|exact⟨rfl,rfl⟩⟩
 rintro i U hi ⟨C,r,I,j,o,J⟩;by_cases g:i<ts.sS.length
 .have T:=zWk i
  have c1:∀ l:List Int,l=qS k (i:Int)->qd qb 155 [lI l] (eRS (qp (kOf l))):=fun l p=>by
   have a0:l.length=k:=by rw[p,List.length_replicate]
   have:=oneU l zOm;rw[K2]at this;rw[<-QF.K7 (l:=l) zOm (fun x hx=>by rw[p]at hx;rw[List.eq_of_mem_replicate hx];omega)];exact this
  have cu:∀ l:List Int,l=qS k (i:Int)->qd qb 193 [eRS (qp (zu i k)),eRS (qp (kOf l))] (eRS (qp (zu (i+1) k))):=fun l p=>by
   have:=jT (qp (zu i k)) (qp (kOf l));rw[Vf (by show (k:Int)=l.length;rw[p,List.length_replicate]),p,qpZ i k R]at this;rw[p];exact this
  generalize t:qp (zu (i+1) k)=s' at *
  generalize qp (zu i k)=s at *
  rcases R with rfl|rfl
  .have d1:=c1 [(i:Int)] rfl
   have d2:=cu [(i:Int)] rfl;generalize qp (kOf [(i:Int)])=q at *
   simp[go_sem,C,r,o,J,g];refine cZ zKr ?_;simp[go_sem,j,o,qs,tk];refine fR d1 (.cons (QD.wk1 _) .nil) ?_;refine tC d2 (.zk (yC _) (.zk (yC _) .nil)) ?_;simp[go_sem,j,qs,pc];rw[if_pos (q8 _)];simp[go_sem,o,T];exact⟨g,aK ⟨zS1 C,zS1 r,zS1 I,zS1 j,zSi,zS1 t⟩⟩
  .have d1:=c1 [(i:Int),(i:Int)] rfl
   have d2:=cu [(i:Int),(i:Int)] rfl;generalize qp (kOf [(i:Int),(i:Int)])=q at *
   simp[go_sem,C,r,o,J,g];refine cZ zKr ?_;simp[go_sem,j,o,qs,tk];refine fR d1 (.cons (QD.wk2 _ _) .nil) ?_;refine tC d2 (.zk (yC _) (.zk (yC _) .nil)) ?_;simp[go_sem,j,qs,pc];rw[if_pos (q8 _)];simp[go_sem,o,T];exact⟨g,aK ⟨zS1 C,zS1 r,zS1 I,zS1 j,zSi,zS1 t⟩⟩
 .have P:i=ts.sS.length:=by omega
  subst P;generalize qp (zu ts.sS.length k)=s at *
  simp[go_sem,r,I,j,o,J,qs,tk,pc];rw[if_pos (q8 _)];simp[go_sem,I,qs,tk];exact .hf _ (yC s)
end QH
namespace QI
open YF Y9 Y10 Y1 Y2 P1 P2
section
variable {nm:tG}
theorem qp1{c k}(l:k<c.calls)(o)(h:c.ts.sT[k].name=nm)(i:∀(j) (g),j<k->c.ts.sT[j].name≠nm):zn c nm=some k:=by
 unfold zn;rw[List.findIdx?_eq_some_iff_getElem];refine⟨zSo,zP1 h,fun j g=>?_⟩;simp[i j zOm g]
theorem qp2{c}(i:∀ j g,j<c.calls->c.ts.sT[j].name≠nm):zn c nm=none:=by
 unfold zn;rw[List.findIdx?_eq_none_iff];intro p l;obtain⟨j,g,e⟩:=List.mem_iff_getElem.1 l;simp at g;rw[List.getElem_take]at e;rw[<-e];exact decide_eq_false (i j zOm zOm)
abbrev idxO:Option Nat->Int
 |some i=>i
 |none => -1
theorem Vj(c)(P:okCk c)(nm):qd qb 102 [eTS c.ts,aI c.calls,aS nm] (aI (idxO (zn c nm))):=by
 refine qSV call102 func102 rfl ?_;have R:=P.calls;have T:=P.ts.np;simp[go_sem];refine kT c.calls (fun k U=>U.tm 1=aI c.calls/\U.tm 2=aS nm/\U.tm 3 = .ip (cTS c.ts)/\U.tm 7=aI k/\∀(j:Nat)(p:j<c.ts.sT.length),j<k->c.ts.sT[j].name≠nm) ?_ ?_
 .exact ⟨zSi,zSi,zSi,zSi,fun j p h=>zOm⟩
 rintro k U hk ⟨l,r,t,C,I⟩;by_cases g:k<c.calls
 .have w1:=zWk k
  have i:k<c.ts.sT.length:=zOm;by_cases o:c.ts.sT[k].name=nm
  .rw [qp1 g i o I]
   simp[go_sem,l,r,t,C,g,i,o];exact .zsc _
  .simp [go_sem,l,r,t,C,g,i,jF o,w1]
   refine aK ⟨zS1 l,zS1 r,zS1 t,zSi,fun j p a0=>?_⟩;by_cases he:j=k
   .subst he;exact o
   .exact I j p zOm
 .have J:k=c.calls:=by omega
  subst J;rw[qp2 I];simp[go_sem,l,C];exact .zsc _
theorem YO(op):qd qb 148 [aI op] (aB (yp op)):=by
 refine qSV call148 func148 rfl ?_;by_cases g:op=5
 .rw [show yp op=true by simp[yp,g]]
  simp[go_sem,g];exact .zsc _
 by_cases i:48<=op
 .by_cases j:op<=51
  .rw [show yp op=true by unfold yp;rcases (show op=48\/op=49\/op=50\/op=51 by omega) with h|h|h|h<;>simp[h]]
   simp[go_sem,g,i,j];exact .zsc _
  .rw [show yp op=false by simp[yp,g,show ¬op=48 by omega,show ¬op=49 by omega,show ¬op=50 by omega,show ¬op=51 by omega]]
   simp[go_sem,g,i,j];exact .zsc _
 .rw [show yp op=false by simp[yp,g,show ¬op=48 by omega,show ¬op=49 by omega,show ¬op=50 by omega,show ¬op=51 by omega]]
  simp[go_sem,g,i];exact .zsc _
abbrev rBo(b:Bool):List AV:=[aB b]
abbrev lBo(l:List Bool):AV := .lst false (l.map rBo)
theorem Vk(l):HF (lBo l):=HF.lst fun r i c g=>by
 obtain⟨b,_,rfl⟩:=qi.1 i;rw[qT]at g;subst g;exact HF.sc _
def tpB(c:Ck)(nm:tG):Bool:=match zn c nm with|some p=>c.timed.getD p false|none=>false
theorem YP(c)(o:okCk c)(nm):qd qb 149 [eTS c.ts,lBo c.timed,aI c.calls,aS nm] (aB (tpB c nm)):=by
 generalize i:tpB c nm=r;unfold tpB at i;refine qSU call149 func149 rfl ?_;refine tC (Vj c o nm) (.zk (zl _) (.zs (.zs .nil))) ?_;cases j:zn c nm with
 |none =>
  rw[j]at i;subst i;simp[go_sem,idxO];exact .zsc _
 |some p =>
  rw[j]at i;by_cases l:p<c.timed.length
  .have g:r=c.timed[p]:=by rw[<-i];simp[List.getD,l]
   subst g;simp[go_sem,idxO,l];exact .zsc _
  .have g:r=false:=by rw[<-i];simp[List.getD,l]
   subst g;simp[go_sem,idxO,l];exact .zsc _
theorem qcT(c)(hc:okCk c)(hl:c.timed.length=c.calls):∀ m n,szN n<=m->Small n->qd qb 154 [eTS c.ts,lBo c.timed,eNd n] (aB (yq c n))
 | 0,n,hm,_=>by obtain⟨op,nm,i,ks,p⟩:=n;simp[szN]at hm
 |m+1,n,hm,hs=>by
  have ih:∀ k,k∈n.sD->qd qb 154 [eTS c.ts,lBo c.timed,eNd k] (aB (yq c k)):=fun k J =>
   qcT c hc hl m k (zW1 (ym J)) (hs.kid J)
  have a0:=hs.len;have P:zS c n.op n.name=(yp n.op||(decide (n.op=47)&&tpB c n.name)):=rfl;rw[Ul,P];generalize hR:n.sD.any (yq c)=R;have ct:=YO n.op;have cp:=YP c hc n.name;generalize yp n.op=T at *
  generalize tpB c n.name=B at *
  refine qSU call154 func154 rfl ?_;refine tC ct (.zs .nil) ?_;cases T with
  |true =>
   simp[go_sem];exact .zsc _
  |false =>
  rw[Bool.false_or];by_cases h47:n.op=47
  .rw [decide_eq_true h47,Bool.true_and]
   simp[go_sem,h47,hl];refine tC cp (.zk (zl _) (.zk (Vk _) (.zs (.zs .nil)))) ?_;cases B with
   |true =>
    simp[go_sem];exact .zsc _
   |false =>
   rw[Bool.false_or];simp[go_sem];refine kT n.sD.length (fun k U=>U.tm 1=lBo c.timed/\U.tm 3 = .ip (cTS c.ts)/\U.tm 5 = .ip (cNd n)/\U.tm 7=aI k/\(n.sD.drop k).any (yq c)=R) ?_ ?_
   .exact ⟨zSi,zSi,zSi,zSi,zUs hR⟩
   rintro k U J ⟨t,C,l,o,j⟩;by_cases r:k=n.sD.length
   .subst r
    rw[yh]at j;have j:R=false:=by rw[<-j];rfl
    subst j;simp[go_sem,l,o];exact .zsc _
   have g:k<n.sD.length:=zOm;have w1:=zWk k;rw[zm g,List.any_cons]at j;have hi:=ih n.sD[k] (qn g);simp[go_sem,l,o,g];refine cZ zKr ?_;simp[go_sem,t,C,l,o,g];refine tC hi (.zk (zl _) (.zk (Vk _) (.zk (qJ _) .nil))) ?_;cases I:yq c n.sD[k] with
   |true =>
    rw[I,Bool.true_or]at j;subst j;simp[go_sem];exact .zsc _
   |false =>
    rw[I,Bool.false_or]at j;simp[go_sem,o,g,w1];exact aK ⟨zS1 t,zS1 C,zS1 l,zSi,j⟩
  .rw [decide_eq_false h47,Bool.false_and,Bool.false_or]
   simp[go_sem,h47];refine kT n.sD.length (fun k U=>U.tm 1=lBo c.timed/\U.tm 3 = .ip (cTS c.ts)/\U.tm 5 = .ip (cNd n)/\U.tm 7=aI k/\(n.sD.drop k).any (yq c)=R) ?_ ?_
   .exact ⟨zSi,zSi,zSi,zSi,zUs hR⟩
   rintro k U J ⟨t,C,l,o,j⟩;by_cases r:k=n.sD.length
   .subst r
    rw[yh]at j;have j:R=false:=by rw[<-j];rfl
    subst j;simp[go_sem,l,o];exact .zsc _
   have g:k<n.sD.length:=zOm;have w1:=zWk k;rw[zm g,List.any_cons]at j;have hi:=ih n.sD[k] (qn g);simp[go_sem,l,o,g];refine cZ zKr ?_;simp[go_sem,t,C,l,o,g];refine tC hi (.zk (zl _) (.zk (Vk _) (.zk (qJ _) .nil))) ?_;cases I:yq c n.sD[k] with
   |true =>
    rw[I,Bool.true_or]at j;subst j;simp[go_sem];exact .zsc _
   |false =>
    rw[I,Bool.false_or]at j;simp[go_sem,o,g,w1];exact aK ⟨zS1 t,zS1 C,zS1 l,zSi,j⟩
theorem K9(l:List Bool):zc 1 (l.map rBo):=fun r g=>by
 obtain⟨b,_,rfl⟩:=qi.1 g;exact⟨rfl,rfl⟩
theorem appBo{mu lo s xs b K}(j:OwnF lo mu 1 s (xs.map rBo))(p:xs.length<=100000)(l:∀ av mu',OwnF lo mu' 1 av ((xs++[b]).map rBo)->(∀ i,i<lo->mu'[i]?=mu[i]?)->K av mu') :
  qu qb mu #[128,128] s (.lst true [[aB b]]) K:=by
 refine qu.ownF (lo:=lo) (e:=4) (sz:=1) (bt:=1) (zv:=aB false) (xs:=xs.map rBo) (ys:=[rBo b]) zSi zSi zSi rfl rfl zOm zOm j (by simp[qz]) (K9 xs) (K9 [b]) zSo ?_;intro av mu' h o;exact l av mu' (by rw[q9];exact h) o
theorem rdBo{lo mu av l}(j:OwnF lo mu 1 av (l.map rBo)):Rd mu av (lBo l):=
 Own.rd (sz:=1) j.1 (K9 l).ok fun r o c i=>by
  obtain⟨b,_,rfl⟩:=qi.1 o;rw[qT]at i;subst i;exact HF.sc _
theorem qp3(ts)(h:okTS ts)(T:∀ p,p∈ts.sT->WfN p.body):qd qb 105 [eTS ts] (lBo (tmsL ts ts.sT.length)):=by
 refine qSV call105 func105 rfl ?_;have a0:=h.np;simp[go_sem];refine kT ts.sT.length (fun k U=>U.tm 1 = .ip (cTS ts)/\U.tm 4=aI k/\OwnF 0 U.mu 1 (U.tm 3) ((tmsL ts k).map rBo)) ?_ ?_
 .exact ⟨zSi,zSi,by simp[go_sem,tmsL];exact OwnF.nil (Nat.zero_le _)⟩
 rintro k U hk ⟨j,l,o⟩;by_cases g:k<ts.sT.length
 .have w1:=zWk k
  generalize r:U.tm 3=t at *
  have C:=rdBo o;have ht:=qcT (mkCk ts k) (uD h zOm) (ZH ts k zOm) (szN ts.sT[k].body) ts.sT[k].body (qo _) (T _ (qn g)).small;have R:=ZH ts k zOm;have i:tmsL ts (k+1)=tmsL ts k++[yq (mkCk ts k) ts.sT[k].body]:=by
   show tmsL ts k++(match ts.sT[k]? with|some p=>[yq ⟨ts,k,tmsL ts k⟩ p.body] | none=>[])=_;rw[qw g];rfl
  simp[go_sem,j,l,g];refine cZ zKr ?_;simp[go_sem,j,l,r,g];refine fX (args':=[eTS ts,lBo (tmsL ts k),eNd ts.sT[k].body]) ht ⟨.hf _ (zl ts),C,.hf _ (qJ _),trivial⟩ (FL.sc _) ?_;simp[go_sem];refine appBo o zOm fun a1 m' J _=>?_
  simp[go_sem,l,g,w1];exact aK ⟨zS1 j,zSi,by rw[i];simpa[go_sem] using J⟩
 .have P:k=ts.sT.length:=by omega
  subst P;generalize r:U.tm 3=t at *
  simp[go_sem,j,l,r];exact rdBo o
end
end QI
namespace QJ
open YF Y10 Y1 P1 QD QE QF
abbrev Vr:=tG×RS
abbrev cVr(v:Vr):List AV:=aS v.1 :: cRS v.2
abbrev lVr(l:List Vr):AV := .lst false (l.map cVr)
theorem qcU(v):∀ c,c∈cVr v->HF c:=fun c g=>by
 rcases qt.1 g with rfl|g
 .exact HF.sc _
 .exact ((setC v.2).sc c g).2
theorem qp4(l):HF (lVr l):=HF.lst fun r g c i=>by
 obtain⟨v,_,rfl⟩:=qi.1 g;exact qcU v c i
theorem kf(v):∀ c,c∈cVr v->c.one=true:=fun c g=>by
 rcases qt.1 g with rfl|g
 .rfl
 .exact ((setC v.2).sc c g).1
theorem kh(l:List Vr):zc 66 (l.map cVr):=fun r g=>by
 obtain⟨v,_,rfl⟩:=qi.1 g;exact⟨by simp[hB],zb.2 (kf v)⟩
theorem ki{mu lo s x}{xs ys:List Vr}{K}(j:OwnF lo mu 66 s (xs.map cVr))(l:qz mu x=some (ys.map cVr))(r:xs.length+ys.length<=100000)(o:∀ av mu',OwnF lo mu' 66 av ((xs++ys).map cVr)->(∀ i,i<lo->mu'[i]?=mu[i]?)->K av mu') :
  qu qb mu #[187,187] s x K:=by
 refine qu.ownF (lo:=lo) (e:=244) (sz:=66) (bt:=88) (zv := .agg (aS ⟨#[]⟩ :: aI 0 :: zs)) (xs:=xs.map cVr) (ys:=ys.map cVr) zSi zSi (by simp[go_sem];rfl) rfl rfl zOm zOm j l (kh xs) (kh ys) zSo ?_;intro av mu' h p;exact o av mu' (by rw[q9];exact h) p
theorem rdVr{lo mu av l}(i:OwnF lo mu 66 av (l.map cVr)):Rd mu av (lVr l):=
 Own.rd (sz:=66) i.1 (kh l).ok fun r j c o=>by
  obtain⟨v,_,rfl⟩:=qi.1 j;exact qcU v c o
theorem pcV(n q):putCells (aS n :: aI 0 :: zs) 1 (aI q.1 :: hB q.2)=cVr (n,q):=by
 have g:zs.length=64:=rfl;rw[yY _ _ _ (by simp[qs,g])];simp[qs,g,List.drop_of_length_le]
def envV(env:List (tG×Int)):List Vr:=env.map fun p=>(p.1,qp (kOf [p.2]))
theorem envU(env)(hl:env.length<=1000)(hr:∀ p,p∈env->0<=p.2/\p.2<4):qd qb 106 [lPm env] (lVr (envV env)):=by
 refine qSU call106 func106 rfl ?_;refine kT env.length (fun k U=>U.tm 0=lPm env/\U.tm 4=aI k/\OwnF 0 U.mu 66 (U.tm 3) ((envV (env.take k)).map cVr)) ?_ ?_
 .exact ⟨zSi,zSi,by simp[go_sem,envV];exact OwnF.nil (Nat.zero_le _)⟩
 rintro k U hk ⟨o,r,I⟩;by_cases g:k<env.length
 .have w1:=zWk k
  generalize J:U.tm 3=t at *
  have hp:=hr _ (qn g);have c1:qd qb 155 [lI [env[k].2]] (eRS (qp (kOf [env[k].2]))):=by
   have:=oneU [env[k].2] zSp;rw[K2]at this;rw[<-QF.K7 (l:=[env[k].2]) zSp (fun x hx=>by rw[qT]at hx;subst hx;exact hp)];exact this
  have j:envV (env.take (k+1))=envV (env.take k)++[(env[k].1,qp (kOf [env[k].2]))]:=by
   unfold envV;rw[List.take_succ_eq_append_getElem g,q9];rfl
  have a2:(envV (env.take k)).length=k:=by simp[envV];omega
  generalize qp (kOf [env[k].2])=q at *
  simp[go_sem,o,r,g];refine cZ zKr ?_;simp[go_sem,o,r,J,g];refine fR c1 (.cons (QD.wk1 _) .nil) ?_;rw[if_pos ⟨qs _,q8 _⟩];generalize hC:putCells _ 1 _=C;have P:C=cVr (env[k].1,q):=by rw[<-hC];exact pcV _ _
  subst P;clear hC;have R:(cVr (env[k].1,q)).length=66:=by simp[qs]
  have T:=kf (env[k].1,q);generalize hV:cVr (env[k].1,q)=V at *
  simp[go_sem,R];rw[if_pos T];simp[go_sem];refine ki (ys:=[(env[k].1,q)]) I (by simp[qz,hV]) zSo fun a3 m' a0 _=>?_
  simp[go_sem,r,g,w1];exact aK ⟨zS1 o,zSi,by rw[j];simpa[go_sem] using a0⟩
 .have a1:k=env.length:=by omega
  subst a1;rw[qO]at I;generalize J:U.tm 3=t at *
  simp[go_sem,o,r,J];exact rdVr I
end QJ
namespace QK
open Y9 Y2 P1 QD QE QF
def fin(c:List AV)(l:List Kd):List AV:=match l.getLast? with|some k=>cRS (qp k)|none=>c
theorem Vl(c l m):fin c (l++m)=fin (fin c l) m:=by
 unfold fin;rw[List.getLast?_append];cases m.getLast?<;>rfl
theorem U0(c k):fin c [k]=cRS (qp k):=rfl
theorem oneK{l}(h:1<=l.length/\l.length<=3)(g:∀ x,x∈l->0<=x/\x<4):oneC l=cRS (qp (kOf l)):=by
 rw[K2];exact AV.agg.inj (QF.K7 h g)
theorem qcV(nm):∀ l c k,(∀ f,f∈l->(1<=f.sS.length/\f.sS.length<=3)/\∀ x,x∈f.sS->0<=x/\x<4)->nmF nm l (c,k)=(fin c (yF l nm),k+(yF l nm).length)
 | [],c,k,_=>rfl
 |f :: l,c,k,h=>by
  have hf:=h f (zd ..);have j:=fun c k=>qcV nm l c k fun g o=>h g (qW _ o)
  by_cases i:f.name=nm
  .have e:yF (f :: l) nm=[kOf f.sS]++yF l nm:=by simp[yF,i]
   rw[e,Vl,U0];simp only[nmF,stF,if_pos i];rw[j,oneK hf.1 hf.2];simp;omega
  .have e:yF (f :: l) nm=yF l nm:=by simp[yF,i]
   rw[e];simp only[nmF,stF,if_neg i];exact j c k
theorem st_eq(nm i)(C:i<4)(x c k):st3 nm i x (st2 nm i x (st1 nm i x (c,k)))=(fin c (vX i x nm),k+(vX i x nm).length):=by
 have j:=oneK (l:=[(i:Int)]) zSp (fun y g=>by simp at g;subst g;omega);have o:=oneK (l:=[(i:Int),(i:Int)]) zSp (fun y g=>by simp at g;rcases g with rfl|rfl<;>omega);have p:∀ c k,st1 nm i x (c,k)=(fin c (if x.1=nm then [kOf [(i:Int)]] else []),k+(if x.1=nm then [kOf [(i:Int)]] else []).length):=fun c k=>by
  unfold st1;split
  .rw [U0,j];rfl
  .rfl
 have r:∀ c k,st2 nm i x (c,k)=(fin c (if x.2=true/\x.1++y6=nm then [kOf [(i:Int)]] else []),k+(if x.2=true/\x.1++y6=nm then [kOf [(i:Int)]] else []).length):=fun c k=>by
  unfold st2;split
  .rw [U0,j];rfl
  .rfl
 have t:∀ c k,st3 nm i x (c,k)=(fin c (if x.2=true/\x.1++jR=nm then [kOf [(i:Int),(i:Int)]] else []),k+(if x.2=true/\x.1++jR=nm then [kOf [(i:Int),(i:Int)]] else []).length):=fun c k=>by
  unfold st3;split
  .rw [U0,o];rfl
  .rfl
 unfold vX;rw[p,r,t,Vl,Vl,qX,qX];simp only[Nat.add_assoc]
theorem qcW(nm):∀ l i c k,i+l.length<=4->nmS nm i l (c,k)=(fin c (yG i l nm),k+(yG i l nm).length)
 | [],i,c,k,_=>rfl
 |x :: l,i,c,k,h=>by
  simp only[zz]at h;have g:=fun c k=>qcW nm l (i+1) c k zOm
  simp only[nmS,yG];rw[st_eq nm i zOm,g,Vl,qX,Nat.add_assoc]
theorem kj{ts}(h:okTS ts)(nm):named ts nm=(fin (aI 0 :: zs) (means ts nm),(means ts nm).length):=by
 unfold named means;rw[qcV nm ts.sA _ _ fun f hf=>?_,qcW nm ts.sS _ _ _ (zW1 h.ns),Vl,qX,z7];have:=h.fl f hf;have g:=h.ns;exact⟨zOm,fun x i=>zW1 (this.2.2 x i)⟩
end QK
namespace QL
open YF Y9 Y1 Y2 P1 QD QE QF QI QJ QK
abbrev cVw(c:Ck)(inn:Bool):List AV:=[lSo c.ts.sS,lFl c.ts.sA,lPd c.ts.sT,lFa c.ts.sP,lBo c.timed,aI c.calls,aB inn]
abbrev eVw(c:Ck)(inn:Bool):AV := .agg (cVw c inn)
def envS(s:Scp):List Vr:=s.reverse.map fun v=>(v.1,qp v.2)
theorem U1(s):(envS s).length=s.length:=by simp[envS]
theorem qcX(env):envV env=envS (ye env):=by
 have h:∀(l:List (tG×Int))(a:Scp),l.foldl (fun s p=>(p.1,kOf [p.2]) :: s) a=(l.map fun p=>(p.1,kOf [p.2])).reverse++a:=by
  intro l;induction l with
  |nil=>intro a;rfl
  |cons p l g=>intro a;rw[List.foldl_cons,g];simp
 unfold envV envS ye;rw[h,zF,List.reverse_reverse,List.map_map];rfl
theorem qp5(s d h g):(envS s)[s.length-1-d]=(s[d].1,qp s[d].2):=by
 have e:s.length-1-(s.length-1-d)=d:=zOm;simp[envS,List.getElem_reverse,e]
abbrev zR:RS:=(0,fun _=>false)
abbrev eDg(d:Dg):AV := .agg [aI d.1,aI d.2]
def endR(z:RS):Res->AV
 | .error e => .tup [eRS z,eDg e]
 | .ok (some k) => .tup [eRS (qp k),eDg (0,0)]
 | .ok none => .tup [eRS zR,eDg (0,0)]
theorem vd(s d):HF (.tup [eRS s,eDg d]):=HF.tup fun x g=>by
 rcases qt.1 g with rfl|g
 .exact yC s
 .rw [qT]at g;subst g
  exact HF.agg fun c i=>by
   rcases qt.1 i with rfl|i
   .exact HF.sc _
   .rw [qT]at i;subst i;exact HF.sc _
theorem cJ{ts}(h:okTS ts):okNm ts:=⟨h.sl,zW1 h.ns,zW1 h.nf,fun f hf=>zW1 (h.fl f hf)⟩
theorem XV(c)(hc:okCk c)(inn s n)(hs:s.length<=100000):qd qb 150 [eVw c inn,lVr (envS s),eNd n] (endR zR (jl c s n.name n.pos)):=by
 generalize i:endR zR (jl c s n.name n.pos)=R;unfold jl at i;refine qSV call150 func150 rfl ?_;have a1:=U1 s;have w0:qm.wrap ((s.length:Int)-1)=(s.length:Int)-1:=zWr;simp[go_sem,a1,w0];refine kT s.length (fun d U=>U.tm 1=lVr (envS s)/\U.tm 3 = .ip (cVw c inn)/\U.tm 5 = .ip (cNd n)/\U.tm 6 = .ptr 0 0/\U.tm 7 = .ptr 1 0/\U.tm 8=aI ((s.length:Int)-1-d)/\U.mu=[.arr (aI 0 :: hB fun _=>false),.arr [aI 0,aI 0]]/\jg n.name (s.drop d)=jg n.name s) ?_ ?_
 .exact ⟨zSi,zSi,zSi,zSi,zSi,zSi,by simp[go_sem];first|rfl|exact⟨rfl,rfl⟩,rfl⟩
 rintro d U hd ⟨e1,e3,r,p,I,j,hm,t⟩;by_cases J:d<s.length
 .have T:s.length-1-d<(envS s).length:=by omega
  have g:=qp5 s d J T;obtain⟨e,he⟩:∃ e:Nat,e=s.length-1-d:=⟨_,rfl⟩;have a2:(s.length:Int)-1-d=(e:Int):=zOm;rw[a2]at j;rw[<-he]at T;have g:(envS s)[e]=(s[d].1,qp s[d].2):=by simp only[he];exact g
  have w1:qm.wrap ((e:Int)-1)=(s.length:Int)-1-((d+1:Nat):Int):=by rw[zWr];omega
  rw[zm J]at t;have h0:(0:Int)<=(e:Int):=zOm;by_cases hq:s[d].1=n.name
  .have hf:jg n.name s=s[d] :: s.drop (d+1):=by rw[<-t,jg,if_pos hq]
   rw[hf]at i;simp only[endR]at i;have i:R = .tup [eRS (qp s[d].2),eDg (0,0)]:=i.symm;subst i;simp[go_sem,j,hm];refine cZ zKr ?_;simp[go_sem,e1,j,T,g,hq];generalize qp s[d].2=q at *
   simp[go_sem,e1,r,p,j,T,g,qs,tk,pc];rw[if_pos (q8 _)];simp[go_sem,p,I,qs,tk];exact .hf _ (vd q (0,0))
  .rw [jg,if_neg hq]at t
   simp[go_sem,j,hm];refine cZ zKr ?_;simp[go_sem,e1,r,j,T,g,jF hq,w1,qs];exact⟨zOm,aK ⟨zS1 e1,zS1 e3,zS1 r,zS1 p,zS1 I,zSi,zSi,t⟩⟩
 .have a3:d=s.length:=by omega
  subst a3;have j:U.tm 8=aI (-1):=by rw[j];congr 2;omega
  rw[yh]at t;rw[<-t]at i;simp only[jg]at i;have hN:=K1 c.ts (cJ hc.ts) n.name;have a0:=K0 c.ts n.name;rw[kj hc.ts]at hN a0;simp[go_sem,e3,r,j,hm];refine tC hN (.zk (zl _) (.zs .nil)) ?_;have o:SetC (fin (aI 0 :: zs) (means c.ts n.name)):=a0;generalize a4:means c.ts n.name=ms at *
  match ms,a4 with
  | [],_ =>
   simp only[endR]at i;subst i;generalize fin (aI 0 :: zs) []=C at *
   simp[go_sem,o.len];rw[if_pos o.one];simp[go_sem];refine fD [0,1,2,3,4,5] [(0,0,[]),(1,0,[]),(2,0,[]),(3,0,[]),(4,1,[2]),(5,1,[])] zKr zKr zSi ?_;simp[go_sem,r,p,I,gJ,qs];exact .hf _ (vd zR (_,n.pos))
  | [k],_ =>
   simp only[endR]at i;subst i;have e:fin (aI 0 :: zs) [k]=aI (qp k).1 :: hB (qp k).2:=rfl;rw[e]at o⊢;generalize qp k=q at *
   simp[go_sem,o.len];rw[if_pos (q8 _)];generalize hP:putCells _ 0 (aI q.1 :: hB q.2)=P;have a5:P=aI q.1 :: hB q.2:=by rw[<-hP];exact pc (aI 0) _ (fun _=>false) _
   subst a5;clear hP;simp[go_sem,p,o.len,qs,tk,pc];rw[if_pos (q8 _)];simp[go_sem,p,I,o.len,tk];exact .hf _ (vd q (0,0))
  |k1 :: k2 :: l,_ =>
   simp only[endR]at i;subst i;generalize fin (aI 0 :: zs) (k1 :: k2 :: l)=C at *
   simp[go_sem,o.len];rw[if_pos o.one];simp[go_sem];have a6:¬((l.length:Int)+1+1=0):=zOm;have a7:(1:Int)<(l.length:Int)+1+1:=zOm;simp[go_sem,a6,a7];refine fD [0,1,2,3,4,5] [(0,0,[]),(1,0,[]),(2,0,[]),(3,0,[]),(4,1,[2]),(5,1,[])] zKr zKr zSi ?_;simp[go_sem,r,p,I,gJ,qs];exact .hf _ (vd zR (_,n.pos))
end QL
namespace QM
open Y1
theorem qp6(n):qd qb 103 [eNd n] (aB (decide (30<=n.op))):=by
 refine qSV call103 func103 rfl ?_;by_cases h:30<=n.op
 .simp [go_sem,h];exact .zsc _
 .simp [go_sem,h];exact .zsc _
end QM
namespace QN
open Y1 Y2 YF Y9 Y10 P1 P2 QD QE QF QH QL
def setO:Option Kd->RS
 |some k=>qp k
 |none=>zR
abbrev lRS(l:List RS):AV := .lst false (l.map cRS)
theorem qp7(v):∀ c,c∈cRS v->HF c:=fun c g=>((setC v).sc c g).2
theorem qp8(v):∀ c,c∈cRS v->c.one=true:=fun c g=>((setC v).sc c g).1
theorem kl(l:List RS):zc 65 (l.map cRS):=fun r g=>by
 obtain⟨v,_,rfl⟩:=qi.1 g
 grind [hB,zb,qp8]
theorem appRS{mu lo s x}{xs ys:List RS}{K}(j:OwnF lo mu 65 s (xs.map cRS))(l:qz mu x=some (ys.map cRS))(o:xs.length+ys.length<=100000)(p:∀ av mu',OwnF lo mu' 65 av ((xs++ys).map cRS)->(∀ i,i<lo->mu'[i]?=mu[i]?)->K av mu') :
  qu qb mu #[238,238] s x K:=by
 refine qu.ownF (lo:=lo) (e:=181) (sz:=65) (bt:=72) (zv := .agg (aI 0 :: zs)) (xs:=xs.map cRS) (ys:=ys.map cRS) zSi zSi (by simp[go_sem];rfl) rfl rfl zOm zOm j l (kl xs) (kl ys) zSo ?_
 grind
theorem rdRS{lo mu av l}(i:OwnF lo mu 65 av (l.map cRS)):Rd mu av (lRS l):=
 Own.rd (sz:=65) i.1 (kl l).ok fun r j c o=>by
  obtain⟨v,_,rfl⟩:=qi.1 j;exact qp7 v c o
theorem jI(s b):HF (.tup [eRS s,aB b]):=HF.tup fun x g=>by
 rcases qt.1 g with rfl|g
 .exact yC s
 grind [qT,HF.sc]
def ApE(op:Int):Res->RS->Bool->Prop
 | .ok k,S,b=>b=true/\(kd op=101->∃ q,k=some q/\S=qp q)
 | .error _,S,b=>b=false
theorem wkS1(a):WKs [eRS a] [eRS a] := .zk (yC _) .nil
theorem wkS2(a b):WKs [eRS a,eRS b] [eRS a,eRS b] := .zk (yC _) (.zk (yC _) .nil)
theorem wkTI(ts k):WKs [eTS ts,aI k] [eTS ts,aI k] := .zk (zl _) (.zs .nil)
theorem qcY(n):eRS (n,fun _=>false)=eRS (qp ⟨n,[]⟩):=Qd rfl fun j _=>(decide_eq_false fun h=>absurd h.2 qF).symm
def itS:Nat->RS->RS
 | 0,s=>s
 |i+1,s=>uniS (itS i s) (ZS (itS i s) (itS i s))
theorem qcZ(s):∀ i,(itS i s).1=s.1
 | 0=>rfl
 |i+1=>qcZ s i
theorem qc0(g)(h:1<=g.1/\g.1<=3):qd qb 198 [eRS g] (eRS (itS 4 g)):=by
 refine qSQ call198 func198 rfl { mt:=[1] } ?_;simp[go_sem];refine⟨q8 _,?_⟩;refine kT 4 (fun i U=>U.tm 1 = .ptr 0 0/\U.tm 2 = .ptr 1 0/\U.tm 3=aI i/\U.mu=[.arr (cRS (itS i g)),.arr (aI 0 :: hB fun _=>false)]) ?_ ?_
 .exact ⟨zSi,zSi,zSi,by simp[go_sem];exact⟨⟨rfl,rfl⟩,rfl⟩⟩
 rintro i U hi ⟨l,p,r,t⟩;by_cases J:i<4
 .have j:(i:Int)<4:=by omega
  have w1:=zWk i;have P:=qcZ g i;have R:=uX (itS i g) (itS i g) zOm zOm;have C:=jT (itS i g) (ZS (itS i g) (itS i g));have I:uniS (itS i g) (ZS (itS i g) (itS i g))=itS (i+1) g:=rfl;rw[I]at C;clear I;generalize T:itS (i+1) g=s' at *
  generalize ZS (itS i g) (itS i g)=q at *
  generalize itS i g=s at *
  simp[go_sem,r,t,j];refine cZ zKr ?_;simp[go_sem,l,qs,tk];refine fR R (.zk (yC _) (.zk (yC _) .nil)) ?_;refine tC C (.zk (yC _) (.zk (yC _) .nil)) ?_;simp[go_sem,l,qs,pc];rw[if_pos (q8 _)];simp_all[go_sem,aK]
 .have o:i=4:=by omega
  subst o;generalize itS 4 g=s at *
  simp[go_sem,l,p,r,t,qs,tk,pc];rw[if_pos (q8 _)];simp[go_sem,p,qs,tk];exact .hf _ (yC s)
def prC(ts:TS)(n:Nd)(l:List RS)(S:RS)(b:Bool):Prop:=qd qb 153 [eTS ts,eNd n,lRS l] (.tup [eRS S,aB b])
theorem ap2(ts n L)(h:n.op=2):prC ts n L (n.n,fun _=>false) true:=by
 unfold prC;refine qSV call153 func153 rfl ?_;simp[go_sem,h];exact .hf _ (jI (n.n,fun _=>false) true)
theorem ap3(ts)(ok:okTS ts)(n L)(h:n.op=3):prC ts n L (qp (zu ts.sS.length 1)) true:=by
 unfold prC;refine qSV call153 func153 rfl ?_;have c1:=allU ts ok 1 zOm;generalize qp (zu ts.sS.length 1)=q at *
 simp[go_sem,h];refine tC c1 (wkTI ts 1) ?_;simp[go_sem,qs];rw[if_pos (q8 _)];generalize i:putCells _ 0 (aI q.1 :: hB q.2)=P;have g:P=aI q.1 :: hB q.2:=by rw[<-i];exact pc (aI 0) _ (fun _=>false) _
 subst g;clear i;simp[go_sem,qs,tk];exact .hf _ (jI q _)
theorem ap4(ts)(ok:okTS ts)(n L)(h:n.op=4):prC ts n L (qp (zu ts.sS.length 2)) true:=by
 unfold prC;refine qSV call153 func153 rfl ?_;have c1:=allU ts ok 2 zOm;generalize qp (zu ts.sS.length 2)=q at *
 simp[go_sem,h];refine tC c1 (wkTI ts 2) ?_;simp[go_sem,qs];rw[if_pos (q8 _)];generalize i:putCells _ 0 (aI q.1 :: hB q.2)=P;have g:P=aI q.1 :: hB q.2:=by rw[<-i];exact pc (aI 0) _ (fun _=>false) _
 subst g;clear i;simp[go_sem,qs,tk];exact .hf _ (jI q _)
theorem ap5(ts n q)(h:n.op=5):prC ts n [q] q true:=by
 unfold prC;refine qSV call153 func153 rfl ?_;simp[go_sem,h,qs,tk];rw[if_pos (q8 _)];generalize i:putCells _ 0 (aI q.1 :: hB q.2)=P;have g:P=aI q.1 :: hB q.2:=by rw[<-i];exact pc (aI 0) _ (fun _=>false) _
 subst g;clear i;simp[go_sem,qs,tk];exact .hf _ (jI q _)
theorem ap6(ts n q r S)(h:n.op=6)(c:qd qb 193 [eRS q,eRS r] (eRS S)):prC ts n [q,r] S (decide (q.1=r.1)):=by
 unfold prC;refine qSV call153 func153 rfl ?_;simp[go_sem,h];refine fD [0,1,2,3,4,5,7,8,9,10,11,12,13,14,15,17,6,16] [(0,0,[]),(1,0,[]),(2,0,[]),(3,0,[]),(4,0,[]),(5,0,[]),(7,0,[]),(8,0,[]),(9,0,[]),(10,0,[]),(11,0,[]),(12,0,[]),(13,0,[]),(14,0,[]),(15,0,[]),(17,0,[]),(6,1,[10,14]),(16,1,[10,14])] zKr zKr zSi ?_;simp[go_sem,qs,tk];refine tC c (wkS2 q r) ?_;simp[go_sem,qs];rw[if_pos (q8 _)];generalize i:putCells _ 0 (aI S.1 :: hB S.2)=P;have g:P=aI S.1 :: hB S.2:=by rw[<-i];exact pc (aI 0) _ (fun _=>false) _
 subst g;clear i;simp[go_sem,qs,tk];exact .hf _ (jI S _)
theorem ap14(ts n q r S)(h:n.op=14)(c:qd qb 193 [eRS q,eRS r] (eRS S)):prC ts n [q,r] S (decide (q.1=r.1)):=by
 unfold prC;refine qSV call153 func153 rfl ?_;simp[go_sem,h];refine fD [0,1,2,3,4,5,7,8,9,10,11,12,13,14,15,17,6,16] [(0,0,[]),(1,0,[]),(2,0,[]),(3,0,[]),(4,0,[]),(5,0,[]),(7,0,[]),(8,0,[]),(9,0,[]),(10,0,[]),(11,0,[]),(12,0,[]),(13,0,[]),(14,0,[]),(15,0,[]),(17,0,[]),(6,1,[10,14]),(16,1,[10,14])] zKr zKr zSi ?_;simp[go_sem,qs,tk];refine tC c (wkS2 q r) ?_;simp[go_sem,qs];rw[if_pos (q8 _)];generalize i:putCells _ 0 (aI S.1 :: hB S.2)=P;have g:P=aI S.1 :: hB S.2:=by rw[<-i];exact pc (aI 0) _ (fun _=>false) _
 subst g;clear i;simp[go_sem,qs,tk];exact .hf _ (jI S _)
theorem ap7(ts n q r S)(h:n.op=7)(c:qd qb 194 [eRS q,eRS r] (eRS S)):prC ts n [q,r] S (decide (q.1=r.1)):=by
 unfold prC;refine qSV call153 func153 rfl ?_;simp[go_sem,h];refine fD [0,1,2,3,4,5,7,8,9,10,11,12,13,14,15,17,6,16] [(0,0,[]),(1,0,[]),(2,0,[]),(3,0,[]),(4,0,[]),(5,0,[]),(7,0,[]),(8,0,[]),(9,0,[]),(10,0,[]),(11,0,[]),(12,0,[]),(13,0,[]),(14,0,[]),(15,0,[]),(17,0,[]),(6,1,[10,14]),(16,1,[10,14])] zKr zKr zSi ?_;simp[go_sem,qs,tk];refine tC c (wkS2 q r) ?_;simp[go_sem,qs];rw[if_pos (q8 _)];generalize i:putCells _ 0 (aI S.1 :: hB S.2)=P;have g:P=aI S.1 :: hB S.2:=by rw[<-i];exact pc (aI 0) _ (fun _=>false) _
 subst g;clear i;simp[go_sem,qs,tk];exact .hf _ (jI S _)
theorem ap8(ts n q r)(h:n.op=8):prC ts n [q,r] q (decide (q.1=r.1)):=by
 unfold prC;refine qSV call153 func153 rfl ?_;simp[go_sem,h];refine fD [0,1,2,3,4,5,6,7,8,9,10,11,13,12] [(0,0,[]),(1,0,[]),(2,0,[]),(3,0,[]),(4,0,[]),(5,0,[]),(6,0,[]),(7,0,[]),(8,0,[]),(9,0,[]),(10,0,[]),(11,0,[]),(13,0,[]),(12,1,[6,10])] zKr zKr zSi ?_;simp[go_sem,qs,tk];rw[if_pos (q8 _)];generalize i:putCells _ 0 (aI q.1 :: hB q.2)=P;have g:P=aI q.1 :: hB q.2:=by rw[<-i];exact pc (aI 0) _ (fun _=>false) _
 subst g;clear i;simp[go_sem,qs,tk];exact .hf _ (jI q _)
theorem ap32(ts n q r)(h:n.op=32):prC ts n [q,r] zR (decide (q.1=r.1)):=by
 unfold prC;refine qSV call153 func153 rfl ?_;simp[go_sem,h];refine fD [0,1,2,3,4,5,6,7,8,9,11,10] [(0,0,[]),(1,0,[]),(2,0,[]),(3,0,[]),(4,0,[]),(5,0,[]),(6,0,[]),(7,0,[]),(8,0,[]),(9,0,[]),(11,0,[]),(10,1,[4,8])] zKr zKr zSi ?_;simp[go_sem,qs];exact .hf _ (jI zR _)
theorem ap33(ts n q r)(h:n.op=33):prC ts n [q,r] zR (decide (q.1=r.1)):=by
 unfold prC;refine qSV call153 func153 rfl ?_;simp[go_sem,h];refine fD [0,1,2,3,4,5,6,7,8,9,11,10] [(0,0,[]),(1,0,[]),(2,0,[]),(3,0,[]),(4,0,[]),(5,0,[]),(6,0,[]),(7,0,[]),(8,0,[]),(9,0,[]),(11,0,[]),(10,1,[4,8])] zKr zKr zSi ?_;simp[go_sem,qs];exact .hf _ (jI zR _)
theorem ap9(ts n q r S)(h:n.op=9)(p:0<=q.1/\q.1<=1000)(t:0<=r.1/\r.1<=1000)(c:qd qb 195 [eRS q,eRS r] (eRS S)):prC ts n [q,r] S (decide (1<=q.1+r.1-2/\q.1+r.1-2<=3)):=by
 unfold prC;refine qSV call153 func153 rfl ?_;have l:qm.wrap (q.1+r.1)=q.1+r.1:=zWr;have o:qm.wrap (q.1+r.1-2)=q.1+r.1-2:=zWr;simp[go_sem,h];refine cZ zKr ?_;simp[go_sem,qs,l,o];refine cZ zKr ?_;by_cases j:1<=q.1+r.1-2
 .simp [go_sem,qs,tk,j]
  refine tC c (wkS2 q r) ?_;simp[go_sem,qs,j];rw[if_pos (q8 _)];generalize i:putCells _ 0 (aI S.1 :: hB S.2)=P;have g:P=aI S.1 :: hB S.2:=by rw[<-i];exact pc (aI 0) _ (fun _=>false) _
  subst g;clear i;simp[go_sem,qs,tk];exact .hf _ (jI S _)
 .simp [go_sem,qs,tk,j]
  refine tC c (wkS2 q r) ?_;simp[go_sem,qs,j];rw[if_pos (q8 _)];generalize i:putCells _ 0 (aI S.1 :: hB S.2)=P;have g:P=aI S.1 :: hB S.2:=by rw[<-i];exact pc (aI 0) _ (fun _=>false) _
  subst g;clear i;simp[go_sem,qs,tk];exact .hf _ (jI S _)
theorem ap10(ts n q r S)(h:n.op=10)(l:0<=q.1/\q.1<=1000)(o:0<=r.1/\r.1<=1000)(c:qd qb 196 [eRS q,eRS r] (eRS S)):prC ts n [q,r] S (decide (q.1+r.1<=3)):=by
 unfold prC;refine qSV call153 func153 rfl ?_;have j:qm.wrap (q.1+r.1)=q.1+r.1:=zWr;simp[go_sem,h];refine fD [0,1,2,3,4,5,7,8,9,10,11,12,13,14,15,16,18,6,17] [(0,0,[]),(1,0,[]),(2,0,[]),(3,0,[]),(4,0,[]),(5,0,[]),(7,0,[]),(8,0,[]),(9,0,[]),(10,0,[]),(11,0,[]),(12,0,[]),(13,0,[]),(14,0,[]),(15,0,[]),(16,0,[]),(18,0,[]),(6,1,[10,14]),(17,1,[10,14])] zKr zKr zSi ?_;simp[go_sem,qs,tk,j];refine tC c (wkS2 q r) ?_;simp[go_sem,qs];rw[if_pos (q8 _)];generalize i:putCells _ 0 (aI S.1 :: hB S.2)=P;have g:P=aI S.1 :: hB S.2:=by rw[<-i];exact pc (aI 0) _ (fun _=>false) _
 subst g;clear i;simp[go_sem,qs,tk];exact .hf _ (jI S _)
theorem ap11(ts n q S)(h:n.op=11)(c:qd qb 197 [eRS q] (eRS S)):prC ts n [q] S (decide (q.1=2)):=by
 unfold prC;refine qSV call153 func153 rfl ?_;simp[go_sem,h];refine fD [0,1,2,4,5,6,7,8,10,3,9] [(0,0,[]),(1,0,[]),(2,0,[]),(4,0,[]),(5,0,[]),(6,0,[]),(7,0,[]),(8,0,[]),(10,0,[]),(3,1,[7]),(9,1,[7])] zKr zKr zSi ?_;simp[go_sem,qs,tk];refine tC c (wkS1 q) ?_;simp[go_sem,qs];rw[if_pos (q8 _)];generalize i:putCells _ 0 (aI S.1 :: hB S.2)=P;have g:P=aI S.1 :: hB S.2:=by rw[<-i];exact pc (aI 0) _ (fun _=>false) _
 subst g;clear i;simp[go_sem,qs,tk];exact .hf _ (jI S _)
theorem ap12(ts n q S)(h:n.op=12)(c:qd qb 198 [eRS q] (eRS S)):prC ts n [q] S (decide (q.1=2)):=by
 unfold prC;refine qSV call153 func153 rfl ?_;simp[go_sem,h];refine fD [0,1,2,4,5,6,7,8,10,3,9] [(0,0,[]),(1,0,[]),(2,0,[]),(4,0,[]),(5,0,[]),(6,0,[]),(7,0,[]),(8,0,[]),(10,0,[]),(3,1,[7]),(9,1,[7])] zKr zKr zSi ?_;simp[go_sem,qs,tk];refine tC c (wkS1 q) ?_;simp[go_sem,qs];rw[if_pos (q8 _)];generalize i:putCells _ 0 (aI S.1 :: hB S.2)=P;have g:P=aI S.1 :: hB S.2:=by rw[<-i];exact pc (aI 0) _ (fun _=>false) _
 subst g;clear i;simp[go_sem,qs,tk];exact .hf _ (jI S _)
theorem ap13(ts)(ok:okTS ts)(n q C S)(h:n.op=13)(c:qd qb 198 [eRS q] (eRS C))(c2:qd qb 193 [eRS C,eRS (qp (zu ts.sS.length 2))] (eRS S)):prC ts n [q] S (decide (q.1=2)):=by
 unfold prC;refine qSV call153 func153 rfl ?_;have c1:=allU ts ok 2 zOm;generalize qp (zu ts.sS.length 2)=D at *
 simp[go_sem,h];refine fD [0,1,2,4,7,8,9,10,11,13,3,5,6,12] [(0,0,[]),(1,0,[]),(2,0,[]),(4,0,[]),(7,0,[]),(8,0,[]),(9,0,[]),(10,0,[]),(11,0,[]),(13,0,[]),(3,1,[4,10]),(5,1,[10]),(6,1,[10]),(12,1,[10])] zKr zKr zSi ?_;simp[go_sem,qs,tk];refine tC c (wkS1 q) ?_;simp[go_sem,qs];refine tC c1 (wkTI ts 2) ?_;simp[go_sem,qs];refine tC c2 (wkS2 C D) ?_;simp[go_sem,qs];rw[if_pos (q8 _)];generalize i:putCells _ 0 (aI S.1 :: hB S.2)=P;have g:P=aI S.1 :: hB S.2:=by rw[<-i];exact pc (aI 0) _ (fun _=>false) _
 subst g;clear i;simp[go_sem,qs,tk];exact .hf _ (jI S _)
theorem apO(ts n L)(t:n.op≠2)(C:n.op≠3)(I:n.op≠4)(J:n.op≠5)(P:n.op≠6)(g:n.op≠14)(R:n.op≠7)(T:n.op≠8)(i:n.op≠32)(j:n.op≠33)(U:n.op≠9)(l:n.op≠10)(o:n.op≠11)(p:n.op≠12)(r:n.op≠13):prC ts n L zR true:=by
 unfold prC;refine qSV call153 func153 rfl ?_;simp[go_sem,t,C,I,J,P,g,R,T,i,j,U,l,o,p,r];exact .hf _ (jI zR true)
end QN
namespace QO
open YF Y9 Y10 Y1 Y2 Y3 Y12 Y13 P1 P2 QD QE QF QH QI QJ QL QN PG PC
section
variable {nm:tG}{ts:TS}
theorem qc1{n L S g b}(e:eRS S=eRS g)(h:prC ts n L S b):prC ts n L g b:=by
 grind [prC]
theorem qp9{n a b}(j:n.op=6\/n.op=14\/n.op=7\/n.op=8\/n.op=32\/n.op=33):∃ S,prC ts n [qp a,qp b] S (decide (a.ar=b.ar))/\(a.ar=b.ar->kd n.op=101->S=qp (vY n.op a b)):=by
 have l:∀ op:Int,op=6\/op=14->vY op a b=kSum a b:=fun op h=>by unfold vY;rw[if_pos h]
 by_cases g:a.ar=b.ar
 .rcases j with h|h|h|h|h|h
  .exact ⟨_,ap6 ts n _ _ _ h (by have:=jT (qp a) (qp b);rw[Vf g]at this;exact this),fun _ _=>by grind⟩
  .exact ⟨_,ap14 ts n _ _ _ h (by have:=jT (qp a) (qp b);rw[Vf g]at this;exact this),fun _ _=>by grind⟩
  .exact ⟨_,ap7 ts n _ _ _ h (by have:=JN (qp a) (qp b);rw[qpO g]at this;exact this),fun _ _=>by rw[h];rfl⟩
  .exact ⟨_,ap8 ts n _ _ h,fun _ _=>by rw[h];rfl⟩
  .exact ⟨_,ap32 ts n _ _ h,fun _ i=>by rw[h]at i;exact absurd i zDe⟩
  .exact ⟨_,ap33 ts n _ _ h,fun _ i=>by rw[h]at i;exact absurd i zDe⟩
 .rcases j with h|h|h|h|h|h
  .exact ⟨_,ap6 ts n _ _ _ h (jT (qp a) (qp b)),fun e=>absurd e g⟩
  .exact ⟨_,ap14 ts n _ _ _ h (jT (qp a) (qp b)),fun e=>absurd e g⟩
  .exact ⟨_,ap7 ts n _ _ _ h (JN (qp a) (qp b)),fun e=>absurd e g⟩
  .exact ⟨_,ap8 ts n _ _ h,fun e=>absurd e g⟩
  .exact ⟨_,ap32 ts n _ _ h,fun e=>absurd e g⟩
  .exact ⟨_,ap33 ts n _ _ h,fun e=>absurd e g⟩
theorem qqA(ok:okTS ts){n a}(l:okKd ts.sS.length a)(o:n.op=11\/n.op=12\/n.op=13):∃ S,prC ts n [qp a] S (decide (a.ar=2))/\(a.ar=2->S=qp (binK ts.sS.length n.op a)):=by
 have i:=ok.ns;by_cases g:a.ar=2
 .have p:=Uf l g i
  rcases o with h|h|h
  .exact ⟨_,ap11 ts n _ _ h (by have:=qcL (qp a);rw[qpU l i g]at this;exact this),fun _=>by rw[h];rfl⟩
  .exact ⟨_,ap12 ts n _ _ h p,fun _=>by rw[h];rfl⟩
  .refine ⟨_,ap13 ts ok n _ _ (qp (kSum (kClo a) (zu ts.sS.length 2))) h p ?_,fun _=>by rw[h];rfl⟩
   have:=jT (qp (kClo a)) (qp (zu ts.sS.length 2));rw[Vf (show (kClo a).ar=2 from (Uy l g).2)]at this;exact this
 .have j:=l.ar
  rcases o with h|h|h
  .exact ⟨_,ap11 ts n _ _ h (qcL (qp a)),fun e=>absurd e g⟩
  .exact ⟨_,ap12 ts n _ _ h (qc0 (qp a) j),fun e=>absurd e g⟩
  .exact ⟨_,ap13 ts ok n _ _ _ h (qc0 (qp a) j) (jT _ _),fun e=>absurd e g⟩
theorem qqB(ts)(ok:okTS ts)(n l L)(e1:n.op≠1)(a0:n.op≠15)
  (h1:n.op=5\/n.op=11\/n.op=12\/n.op=13->∃ a,l=[some a]/\L=[qp a]/\okKd ts.sS.length a)
  (h2:n.op=6\/n.op=14\/n.op=7\/n.op=8\/n.op=32\/n.op=33\/n.op=9\/n.op=10->∃ a b,l=[some a,some b]/\L=[qp a,qp b]/\okKd ts.sS.length a/\okKd ts.sS.length b) :
  ∃ S b,prC ts n L S b/\ApE n.op (ya ts.sS.length n.op n.n n.pos l) S b:=by
 have t:=ok.ns;by_cases j:n.op=2
 .refine ⟨qp ⟨n.n,[]⟩,true,qc1 (qcY n.n) (ap2 ts n L j),?_⟩
  unfold ya;rw[if_pos j];exact⟨rfl,fun _=>⟨_,rfl,rfl⟩⟩
 by_cases o:n.op=3
 .refine ⟨_,true,ap3 ts ok n L o,?_⟩
  unfold ya;rw[if_neg j,if_pos o];exact⟨rfl,fun _=>⟨_,rfl,rfl⟩⟩
 by_cases r:n.op=4
 .refine ⟨_,true,ap4 ts ok n L r,?_⟩
  unfold ya;rw[if_neg j,if_neg o,if_pos r];exact⟨rfl,fun _=>⟨_,rfl,rfl⟩⟩
 by_cases g1:n.op=5\/n.op=11\/n.op=12\/n.op=13
 .obtain ⟨a,rfl,rfl,C⟩:=h1 g1
  rw[apK1,if_neg j,if_neg o,if_neg r];by_cases J:n.op=5
  .rw [if_pos J]
   exact⟨_,true,ap5 ts n _ J,rfl,fun _=>⟨_,rfl,rfl⟩⟩
  have g:n.op=11\/n.op=12\/n.op=13:=zOm;rw[if_neg J,if_pos g];obtain⟨S,P,R⟩:=qqA ok C g;refine⟨S,_,P,?_⟩;by_cases i:a.ar=2
  .rw [if_pos i]
   exact⟨decide_eq_true i,fun _=>⟨_,rfl,R i⟩⟩
  .rw [if_neg i]
   exact decide_eq_false i
 by_cases g2:n.op=6\/n.op=14\/n.op=7\/n.op=8\/n.op=32\/n.op=33\/n.op=9\/n.op=10
 .obtain ⟨a,b,rfl,rfl,C,T⟩:=h2 g2
  have ra:=C.ar;have rb:=T.ar;rw[apK2,if_neg j,if_neg o,if_neg r];by_cases U:n.op=6\/n.op=14\/n.op=7\/n.op=8\/n.op=32\/n.op=33
  .rw [if_pos U]
   obtain⟨S,P,R⟩:=qp9 (ts:=ts) (n:=n) (a:=a) (b:=b) U;refine⟨S,_,P,?_⟩;by_cases i:a.ar=b.ar
   .rw [if_pos i]
    exact⟨decide_eq_true i,fun hk=>⟨_,rfl,R i hk⟩⟩
   .rw [if_neg i]
    exact decide_eq_false i
  rw[if_neg U];by_cases I:n.op=9
  .rw [if_pos I]
   by_cases i:1<=a.ar+b.ar-2/\a.ar+b.ar-2<=3
   .rw [if_pos i]
    refine⟨_,_,ap9 ts n _ _ (qp (zH a b)) I (by show 0<=a.ar/\a.ar<=1000;omega) (by show 0<=b.ar/\b.ar<=1000;omega) ?_,decide_eq_true i,fun _=>⟨_,rfl,rfl⟩⟩;rw[<-qcQ C T t i];exact uX _ _ (by show 0<=a.ar/\a.ar<=1000;omega) (by show 1<=b.ar/\b.ar<=1000;omega)
   .rw [if_neg i]
    exact⟨_,_,ap9 ts n _ _ _ I (by show 0<=a.ar/\a.ar<=1000;omega) (by show 0<=b.ar/\b.ar<=1000;omega) (uX _ _ (by show 0<=a.ar/\a.ar<=1000;omega) (by show 1<=b.ar/\b.ar<=1000;omega)),decide_eq_false i⟩
  have p:n.op=10:=zOm;rw[if_neg I,if_pos p];by_cases i:a.ar+b.ar<=3
  .rw [if_pos i]
   refine⟨_,_,ap10 ts n _ _ (qp (uz a b)) p (by show 0<=a.ar/\a.ar<=1000;omega) (by show 0<=b.ar/\b.ar<=1000;omega) ?_,decide_eq_true i,fun _=>⟨_,rfl,rfl⟩⟩;rw[<-qpP C T t i];exact qcM _ _ (by show 0<=a.ar/\a.ar<=1000;omega) (by show 0<=b.ar/\b.ar<=1000;omega)
  .rw [if_neg i]
   exact⟨_,_,ap10 ts n _ _ _ p (by show 0<=a.ar/\a.ar<=1000;omega) (by show 0<=b.ar/\b.ar<=1000;omega) (qcM _ _ (by show 0<=a.ar/\a.ar<=1000;omega) (by show 0<=b.ar/\b.ar<=1000;omega)),decide_eq_false i⟩
 refine⟨zR,true,apO ts n L j o r zOm zOm zOm zOm zOm zOm zOm zOm zOm zOm zOm zOm,?_⟩;rw[Ux j o r zOm zOm zOm zOm zOm zOm zOm zOm zOm zOm zOm zOm];refine⟨rfl,fun hk=>?_⟩;have:=Uz hk;omega
theorem qqC{ns}(o:ns<=4){q}(h:okKd ns q)(l:q.ar=1)(i):uA i q=true↔∀ k,k<4->(qp q).2 k=true->(k:Int)=i:=by
 unfold uA;rw[zb];constructor
 .intro p k J r
  rw[yP,l]at r;have:=p _ r.2;simpa[dig,pad] using this
 .intro p t C
  obtain⟨j,I,e⟩:=YL h o C;rw[l]at I e;have g:j<4:=I;have:=p j g ((yP q j).2 ⟨by rw[l];exact g,by rw[l,<-e];exact C⟩);rw[e];simp[dig,pad,this]
def ExR(c:Ck)(s:Scp)(inn:Bool)(n:Nd):Prop:=∃ S:RS,qd qb 104 [eVw c inn,lVr (envS s),eNd n] (.tup [eRS S,eDg (dgOf (exam c s inn n))])/\(kd n.op=101->∀ q,exam c s inn n = .ok (some q)->S=qp q)
theorem qc2(c inn):HF (eVw c inn):=HF.agg fun x g=>by
 simp only[qt,qF,or_false]at g;rcases g with rfl|rfl|rfl|rfl|rfl|rfl|rfl
 .exact Uj _
 .exact Yf _
 .exact Qv _
 .exact Ui _
 .exact Vk _
 .exact HF.sc _
 .exact HF.sc _
theorem wkE(c inn l n):WKs [eVw c inn,lVr l,eNd n] [eVw c inn,lVr l,eNd n] := .zk (qc2 c inn) (.zk (qp4 _) (.zk (qJ n) .nil))
theorem wm(d):HF (eDg d):=HF.agg fun x g=>by
 simp only[qt,qF,or_false]at g;rcases g with rfl|rfl<;>exact HF.sc _
theorem qc3{c p}(i:okCk c)(h:zn c nm=some p):(c.ts.sT.any fun p=>decide (p.name=nm))=true:=by
 obtain⟨_,j⟩:=Qx i h;unfold zn at h;rw[List.findIdx?_eq_some_iff_getElem]at h;obtain⟨l,g,_⟩:=h;simp only[List.getElem_take]at g;exact List.any_eq_true.2 ⟨_,qn j,g⟩
theorem qqD(h:zn (mkCk ts ts.sT.length) nm=none):(ts.sT.any fun p=>decide (p.name=nm))=false:=by
 unfold zn at h;rw[List.findIdx?_eq_none_iff]at h;rw[List.any_eq_false];intro p g;have:p∈ts.sT.take ts.sT.length:=by rw[qO];exact g
 have:=h p this
 grind
theorem KT{n}(i:WfN n)(h:n.op=47):∀ k,k∈n.sD->kd k.op=101:=by
 have g:=i.shape;have e:shp n.op n.sD.length=some (qS (min n.sD.length 401) 101):=by
  unfold shp;rw[zIn,zIn,zIn,zIn,zIn,zIn,zIn,if_pos h]
 rw[e]at g;simp only[qr]at g;intro k j;have:kd k.op∈n.sD.map fun k=>kd k.op:=qi.2 ⟨k,j,rfl⟩
 grind
theorem qqE(c)(hc:okCk c)(s)(hs:ScOk c.ts.sS.length s)(n)(hw:WfN n)(b1:n.op=47)(ih:∀ k,k∈n.sD->ExR c s true k)(inn) :
  qd qb 151 [eVw c inn,lVr (envS s),eNd n] (eDg (dgOf (uE c s n))):=by
 generalize hR:uE c s n=R;unfold uE at hR;refine qSQ call151 func151 rfl { mt:=[3] } ?_;have be:=hc.ts.np;have bg:=hw.len;have b2:=Vj c hc n.name;have b3:=Vj (mkCk c.ts c.ts.sT.length) (uD hc.ts (qo _)) n.name;have ao:∀ k:Int,WKs [eTS c.ts,aI k,aS n.name] [eTS c.ts,aI k,aS n.name]:=fun k => .zk (zl _) (.zs (.zs .nil))
 simp[go_sem];refine tC b2 (ao _) ?_;cases T:zn c n.name with
 |none =>
  rw[T]at hR;simp[go_sem,idxO];refine tC b3 (ao _) ?_;cases a3:zn (mkCk c.ts c.ts.sT.length) n.name with
  |none =>
   rw[qqD a3]at hR;subst hR;simp[go_sem,idxO,dgOf];exact .hf _ (wm (40,n.pos))
  |some p =>
   have ha:(c.ts.sT.any fun p=>decide (p.name=n.name))=true:=qc3 (c:=mkCk c.ts c.ts.sT.length) (uD hc.ts (qo _)) a3;rw[ha]at hR;subst hR;have ab:¬(p:Int)<0:=zOm;simp[go_sem,idxO,dgOf,ab];exact .hf _ (wm (45,n.pos))
 |some p =>
  obtain⟨_,ad⟩:=Qx hc T;rw[qc3 hc T,if_pos rfl,T]at hR;simp only[qw ad]at hR;have ab:¬(p:Int)<0:=zOm;have bh:=hc.ts.pl _ (qn ad);simp[go_sem,idxO,ad,ab];generalize bi:c.ts.sT[p]=C at *
  by_cases a1:C.params.length=n.sD.length
  .rw [if_pos a1]at hR
   simp[go_sem,a1];have b4:=KT hw b1;refine kT C.params.length (fun k U=>U.tm 1=lVr (envS s)/\U.tm 3 = .ptr 0 0/\U.tm 5 = .ip (cNd n)/\U.tm 6 = .ptr 1 0/\U.tm 8=lPm C.params/\U.tm 9=aI k/\U.mu[0]?=some (.arr (cVw c true))/\U.mu[1]?=some (.arr [aI 0,aI 0])/\z6 c s n.pos (C.params.drop k) (n.sD.drop k)=R) ?_ ?_
   .simp [go_sem, *]
   rintro k U hk ⟨e1,e3,e5,e6,e8,e9,m0,m1,t⟩;have a8:1<U.mu.length:=(qg.1 m1).1;have I:∀(l:List Cell)(i:Nat),i<U.mu.length->(U.mu++l)[i]?=U.mu[i]?:=fun l i hi=>qG hi
   have a0:∀ c,(U.mu.set 1 c)[1]?=some c:=fun c=>qI a8
   have ae:∀ c (l:List Cell),((U.mu++l).set 1 c)[1]?=some c:=fun c l=>qI zSo
   have af:∀(l:List Cell)(h:0<(U.mu++l).length),(U.mu++l)[0] = .arr (cVw c true):=fun l h=>by
    grind
   have ag:∀(l:List Cell)(h:1<(U.mu++l).length),(U.mu++l)[1] = .arr [aI 0,aI 0]:=fun l h=>by
    grind
   by_cases aq:k=C.params.length
   .subst aq
    rw[yh,a1,yh]at t;simp only[z6]at t;subst t;simp[go_sem,e6,e8,e9,m1,a1,dgOf,a0];exact .hf _ (wm (0,0))
   have o:k<C.params.length:=zOm;have r:k<n.sD.length:=zOm;have w1:=zWk k;obtain⟨S,hi,hS⟩:=ih n.sD[k] (qn r);rw[zm o,zm r]at t;simp only[z6]at t;have b5:=v7 hc (szN n.sD[k]) n.sD[k] s true;have au:=b4 n.sD[k] (qn r);have av:=hw.kid (qn r);simp[go_sem,e8,e9,o];refine fD [0,1,2,3,4,5,6,7,8,9,10,11,12,13,14] [(0,0,[]),(1,0,[]),(2,0,[]),(3,0,[]),(4,0,[]),(5,0,[]),(6,0,[]),(7,1,[]),(8,0,[]),(9,0,[]),(10,0,[]),(11,2,[0,3,6]),(12,2,[0,3,6]),(13,1,[]),(14,1,[])] zKr zKr zSi ?_;simp[go_sem,e1,e3,e5,e9,m0,r];refine tC hi (wkE c true _ _) ?_;cases hx:exam c s true n.sD[k] with
   |error e =>
    rw[hx]at t;subst t;have he:=Vb c (szN n.sD[k]) n.sD[k] s true e (qo _) hx;have b6:¬e.1=0:=zOm;simp[go_sem,e3,qs,af,dgOf];rw[if_pos (q8 _)];generalize hP:putCells _ 0 (aI S.1 :: hB S.2)=P;have ah:P=aI S.1 :: hB S.2:=by rw[<-hP];exact pc (aI 0) _ (fun _=>false) _
    subst ah;clear hP;simp[go_sem,e6,b6];simp[go_sem,ag,e6];exact .hf _ (wm e)
   |ok ko =>
    obtain⟨q,rfl,hq⟩:=b5 ko (qo _) av hs hx au;have b7:=hS au q hx;subst b7;rw[hx]at t;simp only at t;have b8:=hc.ts.ns;have aw:(qp q).1=q.ar:=rfl;have ax:=fun h=>qqC b8 hq h C.params[k].2
    generalize qp q=Q at *
    simp[go_sem,e3,qs,af,dgOf];rw[if_pos (q8 _)];generalize hP:putCells _ 0 (aI Q.1 :: hB Q.2)=P;have ah:P=aI Q.1 :: hB Q.2:=by rw[<-hP];exact pc (aI 0) _ (fun _=>false) _
    subst ah;clear hP;by_cases a2:q.ar=1
    .rw [if_pos a2]at t
     have a4:Q.1=1:=aw.trans a2;simp[go_sem,qs,a4];have bc:C.params[k].2<4/\0<=C.params[k].2:=by grind
     refine kT 4 (fun j g=>∃ b,2<=b/\g.tm 10 = .ptr b 0/\g.mu[b]?=some (.arr (aI 1 :: hB Q.2))/\g.tm 1=lVr (envS s)/\g.tm 3 = .ptr 0 0/\g.tm 5 = .ip (cNd n)/\g.tm 6 = .ptr 1 0/\g.tm 8=lPm C.params/\g.tm 9=aI k/\g.tm 12=aI j/\g.mu[0]?=some (.arr (cVw c true))/\g.mu[1]?=some (.arr [aI 0,aI 0]) /\
      ∀ i:Nat,i<j->Q.2 i=true->(i:Int)=C.params[k].2) ?_ ?_
     .exact ⟨U.mu.length,zOm,zSi,zSi,zS1 e1,zS1 e3,zS1 e5,zS1 e6,zS1 e8,zS1 e9,zSi,by simp only[qA];rw[I _ _ zOm];exact m0,by simp only[qA];rw[I _ _ zOm];exact m1,fun i hi=>zOm⟩
     .clear e1 e3 e5 e6 e8 e9 m0 m1 I a0 ae af ag a8
      rintro j st2 hj ⟨b,hb,a5,mb,e1,e3,e5,e6,e8,e9,a9,m0,m1,a6⟩;have a8:1<st2.mu.length:=(qg.1 m1).1;have a0:∀ c,(st2.mu.set 1 c)[1]?=some c:=fun c=>qI a8
      by_cases ai:j<4
      .have aj:(j:Int)<4:=by omega
       have ay:j<64:=zOm;have J:(j:Int)<64:=zOm;have wj:=zWk j;have a7:=d1 (aI 1) Q.2 j ay;have ak:1+j<=64:=zOm;by_cases hQ:Q.2 j=true
       .rw [hQ]at a7
        by_cases aa:(j:Int)=C.params[k].2
        .have b9:=eq_true aa
         simp[go_sem,a5,mb,e8,e9,a9,aj,J,a7,ak,qs,o,b9,wj];refine⟨ai,aK ⟨b,hb,zS1 a5,zS1 mb,zS1 e1,zS1 e3,zS1 e5,zS1 e6,zS1 e8,zS1 e9,zSi,zS1 m0,zS1 m1,fun i hi h=>?_⟩⟩;by_cases al:i=j
         .subst al;exact aa
         .exact a6 i zOm h
        .have az:¬uA C.params[k].2 q=true:=fun h=>aa ((ax a2).1 h j ai hQ)
         rw[if_neg az]at t;subst t;simp[go_sem,a5,mb,e5,e6,e8,e9,a9,aj,J,a7,ak,qs,o,aa,m1,a0];exact .hf _ (wm (43,n.pos))
       .have hQ:Q.2 j=false:=by simpa using hQ
        rw[hQ]at a7;simp[go_sem,a5,mb,a9,aj,J,a7,ak,qs,wj];refine⟨ai,aK ⟨b,hb,zS1 a5,zS1 mb,zS1 e1,zS1 e3,zS1 e5,zS1 e6,zS1 e8,zS1 e9,zSi,zS1 m0,zS1 m1,fun i hi h=>?_⟩⟩;by_cases al:i=j
        .subst al;rw[hQ]at h;cases h
        .exact a6 i zOm h
      .have bb:j=4:=by omega
       subst bb;have an:uA C.params[k].2 q=true:=(ax a2).2 fun i hi h=>a6 i hi h
       rw[if_pos an]at t;simp[go_sem,e9,a9,w1];exact⟨o,aK ⟨zS1 e1,zS1 e3,zS1 e5,zS1 e6,zS1 e8,zSi,zS1 m0,zS1 m1,t⟩⟩
    .rw [if_neg a2]at t
     subst t;have a4:¬Q.1=1:=fun e=>a2 (aw.symm.trans e)
     simp[go_sem,e5,qs,a4,ag,e6];exact .hf _ (wm (42,n.pos))
  .rw [if_neg a1]at hR
   subst hR;have b0:¬n.sD.length=C.params.length:=fun e=>a1 e.symm
   simp[go_sem,b0,dgOf];exact .hf _ (wm (45,n.pos))
end
end QO
namespace QR
open Y9 Y10 Y1 Y2 Y12 P1 P2 QE QF QJ QL QN PG QO
theorem UW{n}(i:WfN n)(h:n.op=15\/n.op=45\/n.op=46):∃ a f,n.sD=[a,f]/\kd a.op=101:=by
 have g:=i.shape;unfold shp at g;rw[zIn,zIn,zIn,if_pos zOm]at g;simp only[qr]at g
 match j:n.sD,g with
 | [a,f],g =>
  grind
 | [],g=>simp at g
 | [_],g=>simp at g
 |_ :: _ :: _ :: _,g=>simp at g
theorem five{J:Type}{l}{a b c d e:J}(g:l[0]?=some a)(i:l[1]?=some b)(j:l[2]?=some c)(o:l[3]?=some d)(p:l[4]?=some e):∃ r,l=a :: b :: c :: d :: e :: r:=by
 match l,g,i,j,o,p with
 |_ :: _ :: _ :: _ :: _ :: r,g,i,j,o,p =>
  simp_all
def Vm:Res->RS
 | .ok (some k)=>if k.ar=1 then qp k else zR
 |_=>zR
theorem qqF(s d):FL (.tup [eRS s,eDg d]):=FL.tup fun x i=>by
 rcases qt.1 i with rfl|i
 .exact FL.agg fun c g=>by
   rcases qt.1 g with rfl|g
   .exact FL.sc _
   .obtain ⟨j,_,rfl⟩:=qi.1 g
    exact FL.sc _
 .rw [qT]at i;subst i
  exact FL.agg fun c g=>by
   rcases qt.1 g with rfl|g
   .exact FL.sc _
   .rw [qT]at g;subst g;exact FL.sc _
theorem qqG(c)(hc:okCk c)(s)(hs:ScOk c.ts.sS.length s)(ax:s.length<=90000)(n a g)(hw:WfN n)(hb:n.op=15\/n.op=45\/n.op=46)(r:n.sD=[a,g])(a5:kd a.op=101)(inn)
  (ae:ExR c s (inn||decide (n.op=15)) a) (af:∀ k,okKd c.ts.sS.length k->k.ar=1->ExR c ((n.name,k) :: s) (inn||decide (n.op=15)) g) :
  qd qb 152 [eVw c inn,lVr (envS s),eNd n] (.tup [eRS (Vm (exam c s (inn||decide (n.op=15)) a)),eDg (dgOf (yd c s (inn||decide (n.op=15)) n.name n.pos n.sD))]):=by
 have wa:=hw.kid (k:=a) (by rw[r];simp);obtain⟨S,ca,hS⟩:=ae;have ag:=v7 hc (szN a) a s (inn||decide (n.op=15));have a6:=Vb c (szN a) a s (inn||decide (n.op=15));rw[r];have w1:=wkE c (inn||decide (n.op=15)) (envS s) a;have ah:n.op=15->(inn||decide (n.op=15))=true:=fun h=>zP1 h
 have ai:¬n.op=15->(inn||decide (n.op=15))=inn:=fun h=>zP1 h
 generalize (inn||decide (n.op=15))=B at *
 generalize hE:dgOf (yd c s B n.name n.pos [a,g])=E;generalize hX:exam c s B a=X at *
 have a7:∀ k,okKd c.ts.sS.length k->k.ar=1->X = .ok (some k)->∃ S2,qd qb 104 [eVw c B,lVr (envS ((n.name,k) :: s)),eNd g] (.tup [eRS S2,eDg E]):=fun k hk o aj=>by
  obtain⟨S2,cg,_⟩:=af k hk o;refine⟨S2,?_⟩;have U:E=dgOf (exam c ((n.name,k) :: s) B g):=by
   rw[<-hE];simp only[yd,qY];rw[hX,aj];simp only;rw[if_pos o];cases exam c ((n.name,k) :: s) B g<;>rfl
  grind
 refine qSQ call152 func152 rfl { mt:=[3] } ?_;by_cases a1:n.op=15
 case' pos =>
  have a2:=ah a1;subst a2
 case' neg =>
  have a2:=ai a1;subst a2
 all_goals
  simp[go_sem,a1];refine fD [0,1,2,3,4,5,6,7,8,9,10,11,12,13] [(0,0,[]),(1,0,[]),(2,0,[]),(3,0,[]),(4,0,[]),(5,0,[]),(6,1,[]),(7,0,[]),(8,0,[]),(9,0,[]),(10,2,[0,3,5]),(11,2,[0,3,5]),(12,1,[]),(13,1,[])] zKr zKr zSi ?_;simp[go_sem,r];refine tC ca w1 ?_;simp[go_sem,qs,r];rw[if_pos (q8 _)];generalize hP:putCells _ 0 (aI S.1 :: hB S.2)=P;have I:P=aI S.1 :: hB S.2:=by rw[<-hP];exact pc (aI 0) _ (fun _=>false) _
  subst I;clear hP;simp[go_sem]
 all_goals
  cases X with
  |error e =>
   have he:=a6 e (qo _) rfl;have ak:¬e.1=0:=zOm;have U:E=e:=by rw[<-hE];simp only[yd];rw[hX];rfl
   subst U;clear hE;simp[go_sem,dgOf,ak];refine fD [0,1,2,3] [(0,0,[]),(1,0,[]),(2,1,[1]),(3,1,[])] zKr zKr zSi ?_;simp[go_sem];exact .hf _ (vd zR E)
  |ok ko =>
   obtain⟨q,rfl,hq⟩:=ag ko (qo _) wa hs rfl a5;have al:=hS a5 q rfl;subst al;have a8:(qp q).1=q.ar:=rfl;by_cases o:q.ar=1
   .have J:(qp q).1=1:=a8.trans o
    obtain⟨S2,cg⟩:=a7 q hq o rfl;have a3:Vm (.ok (some q))=qp q:=if_pos o;rw[a3];have a9:envS ((n.name,q) :: s)=envS s++[(n.name,qp q)]:=by simp[envS]
    rw[a9]at cg;generalize qp q=Q at *
    obtain⟨qa,R⟩:=Q;have a4:qa=1:=J;subst a4;simp[go_sem,dgOf];refine fD [0,1,2,4,5,6,7,8,10,11,12,13,3,9,14,15,16,17,18,19,20,21] [(0,0,[]),(1,0,[]),(2,0,[]),(4,0,[]),(5,0,[]),(6,0,[]),(7,0,[]),(8,0,[]),(10,0,[]),(11,0,[]),(12,0,[]),(13,0,[]),(3,1,[0,5,6,11,13]),(9,1,[0,11,13]),(14,1,[]),(15,0,[]),(16,0,[]),(17,0,[]),(18,2,[0,5,6,11,13]),(19,2,[0,5,6,11,13]),(20,1,[]),(21,1,[])] zKr zKr zSi ?_;simp[go_sem,qs,tk];rw[if_pos (q8 _)];generalize hC:putCells _ 1 _=C;have an:C=cVr (n.name,(1,R)):=by rw[<-hC];exact pcV n.name (1,R)
    subst an;clear hC;have ao:(cVr (n.name,((1:Int),R))).length=66:=by simp[qs]
    have aq:=kf (n.name,((1:Int),R));generalize hV:cVr (n.name,((1:Int),R))=V at *
    simp[go_sem,ao];rw[if_pos aq];simp[go_sem,r];refine ki (lo:=5) (xs:=[]) (ys:=envS s) (OwnF.nil zSp) (by simp[qz]) (by simp[U1];omega) fun ay m1 au T=>?_
    have k0:=T 0 zOm;have k1:=T 1 zOm;have k2:=T 2 zOm;have k3:=T 3 zOm;have k4:=T 4 zOm;simp at k0 k1 k2 k3 k4;simp[go_sem,qs,tk,r,k0,k3];refine ki (xs:=[]++envS s) (ys:=[(n.name,(1,R))]) au (by simp[qz,hV]) (by simp[U1];omega) fun az m2 a0 t=>?_
    rw[List.nil_append]at a0;have av:=a0.2.2;replace k0:=(t 0 zOm).trans k0;replace k1:=(t 1 zOm).trans k1;replace k2:=(t 2 zOm).trans k2;replace k3:=(t 3 zOm).trans k3;replace k4:=(t 4 zOm).trans k4;have j:∀(l:List Cell)(i:Nat),i<m2.length->(m2++l)[i]?=m2[i]?:=fun l i hi=>qG hi
    have g0:=(qg.1 k0).2;have g1:=(qg.1 k1).2;have g2:=(qg.1 k2).2;have g3:=(qg.1 k3).2;simp[go_sem,r,k0];refine fX (args':=[eVw c _,lVr (envS s++[(n.name,(1,R))]),eNd g]) cg ⟨.hf _ (qc2 c _),rdVr a0,.hf _ (qJ g),trivial⟩ (qqF S2 _) ?_;have p0:=fun l=>(j l 0 zOm).trans k0
    have p1:=fun l=>(j l 1 zOm).trans k1
    have p2:=fun l=>(j l 2 zOm).trans k2
    have p3:=fun l=>(j l 3 zOm).trans k3
    have p4:=fun l=>(j l 4 zOm).trans k4
    have aa:0<m2.length:=zOm;have ab:3<m2.length:=zOm;simp[go_sem,qs,tk,r,g0,g3,aa,ab,p3];rw[if_pos (q8 _)];generalize hP:putCells _ 0 (cRS S2)=P;have I:P=cRS S2:=by rw[<-hP];exact pc (aI 0) _ (fun _=>false) _
    subst I;clear hP;simp[go_sem];obtain⟨rr,ad⟩:=five k0 k1 k2 k3 k4;have b0:m2.length=rr.length+5:=by rw[ad];rfl
    clear g0 g1 g2 g3 p0 p1 p2 p3 p4 j a0 t k0 k1 k2 k3 k4 av aa ab;refine fD [0,1,2,3] [(0,0,[]),(1,0,[]),(2,1,[1]),(3,1,[])] zKr zKr zSi ?_;simp[go_sem,qs,tk,ad];rw[if_pos (q8 _)];generalize hP:putCells _ 0 (aI 1 :: hB R)=P;have I:P=aI 1 :: hB R:=by rw[<-hP];exact pc (aI 0) (aI 1) (fun _=>false) R
    subst I;clear hP;simp[go_sem,qs,tk];exact .hf _ (vd (1,R) E)
   .have J:¬(qp q).1=1:=fun e=>o (a8.symm.trans e)
    have a3:Vm (.ok (some q))=zR:=if_neg o;rw[a3];have U:E=(42,n.pos):=by
     rw[<-hE];simp only[yd];rw[hX];simp only;rw[if_neg o];rfl
    subst U;clear hE;generalize qp q=Q at *
    simp[go_sem,dgOf,J];refine fD [0,1,2,3,4,5] [(0,0,[]),(1,0,[]),(2,0,[]),(3,0,[]),(4,1,[2]),(5,1,[])] zKr zKr zSi ?_;simp[go_sem];exact .hf _ (vd zR (42,n.pos))
theorem qqH(ts)(ok:okTS ts)(n l)(r:n.op≠1)(o:n.op≠15)
  (t:n.op=5\/n.op=11\/n.op=12\/n.op=13->∃ a,l=[some a]/\okKd ts.sS.length a)
  (C:n.op=6\/n.op=14\/n.op=7\/n.op=8\/n.op=32\/n.op=33\/n.op=9\/n.op=10->∃ a b,l=[some a,some b]/\okKd ts.sS.length a/\okKd ts.sS.length b) :
  ∃ S b,(∀ L,((n.op=5\/n.op=11\/n.op=12\/n.op=13)\/(n.op=6\/n.op=14\/n.op=7\/n.op=8\/n.op=32\/n.op=33\/n.op=9\/n.op=10)->L=l.map setO)->prC ts n L S b)/\ApE n.op (ya ts.sS.length n.op n.n n.pos l) S b:=by
 by_cases P:(n.op=5\/n.op=11\/n.op=12\/n.op=13)\/(n.op=6\/n.op=14\/n.op=7\/n.op=8\/n.op=32\/n.op=33\/n.op=9\/n.op=10)
 .obtain ⟨S,b,c,a⟩:=qqB ts ok n l (l.map setO) r o (fun h=>by obtain⟨a,rfl,p⟩:=t h;exact⟨a,rfl,rfl,p⟩) (fun h=>by obtain⟨a,b,rfl,p,I⟩:=C h;exact⟨a,b,rfl,rfl,p,I⟩)
  grind
 by_cases g:n.op=2
 .refine ⟨qp ⟨n.n,[]⟩,true,fun L _=>qc1 (qcY n.n) (ap2 ts n L g),?_⟩
  unfold ya;rw[if_pos g];exact⟨rfl,fun _=>⟨_,rfl,rfl⟩⟩
 by_cases i:n.op=3
 .refine ⟨_,true,fun L _=>ap3 ts ok n L i,?_⟩
  unfold ya;rw[if_neg g,if_pos i];exact⟨rfl,fun _=>⟨_,rfl,rfl⟩⟩
 by_cases j:n.op=4
 .refine ⟨_,true,fun L _=>ap4 ts ok n L j,?_⟩
  unfold ya;rw[if_neg g,if_neg i,if_pos j];exact⟨rfl,fun _=>⟨_,rfl,rfl⟩⟩
 refine⟨zR,true,fun L _=>apO ts n L g i j zOm zOm zOm zOm zOm zOm zOm zOm zOm zOm zOm zOm,?_⟩;rw[Ux g i j zOm zOm zOm zOm zOm zOm zOm zOm zOm zOm zOm zOm];refine⟨rfl,fun J=>?_⟩;have:=Uz J;omega
def resS:Res->RS
 | .ok (some k)=>qp k
 |_=>zR
theorem qqI(R):endR zR R = .tup [eRS (resS R),eDg (dgOf R)]:=by
 cases R with
 |error e=>rfl
 |ok k=>cases k<;>rfl
end QR
namespace QS
open YZ YF Y9 Y10 Y1 Y2 Y13 P1 P2 QE QF QI QJ QL QN PG QO QR
theorem U2(c op nm):zS c op nm=(yp op||(decide (op=47)&&tpB c nm)):=rfl
theorem qqJ{ns op n pos l e}(h:ya ns op n pos l = .error e):e=(42,pos):=by
 unfold ya at h
 repeat' split at h
 all_goals grind
theorem wkTP(c:Ck)(nm):WKs [eTS c.ts,lBo c.timed,aI c.calls,aS nm] [eTS c.ts,lBo c.timed,aI c.calls,aS nm] := .zk (zl _) (.zk (Vk _) (.zs (.zs .nil)))
theorem wk1I(k):WKs [aI k] [aI k] := .zs .nil
theorem fl_sb(s b):FL (.tup [eRS s,aB b]):=FL.tup fun x i=>by
 rcases qt.1 i with rfl|i
 .exact FL.agg fun c g=>by
   rcases qt.1 g with rfl|g
   .exact FL.sc _
   .obtain ⟨j,_,rfl⟩:=qi.1 g
    exact FL.sc _
 grind [qT,FL.sc]
theorem qqK(c)(i:okCk c)(s n)(g:zS c n.op n.name=true):ExR c s true n:=by
 refine⟨zR,?_,fun _ q h=>?_⟩
 case refine_2=>simp_all[y8,if_pos]
 have j:exam c s true n = .error (46,n.pos):=by simp_all[y8,if_pos]
 rw[j];rw[U2]at g;refine qSQ call104 func104 rfl { mt:=[3] } ?_;have l:=YO n.op;have o:=YP c i n.name;simp[go_sem];refine tC l (wk1I _) ?_;cases hT:yp n.op with
 |true =>
  simp[go_sem];refine fD [0,1,2,3,4,5] [(0,0,[]),(1,0,[]),(2,0,[]),(3,0,[]),(4,1,[2]),(5,1,[])] zKr zKr zSi ?_;simp[go_sem,dgOf];exact .hf _ (vd zR (46,n.pos))
 |false =>
  rw[hT,Bool.false_or,qD]at g;obtain⟨h47,hB⟩:=g;have h47:n.op=47:=by simpa using h47
  simp[go_sem,h47];refine tC o (wkTP c n.name) ?_;rw[hB];simp[go_sem];refine fD [0,1,2,3,4,5] [(0,0,[]),(1,0,[]),(2,0,[]),(3,0,[]),(4,1,[2]),(5,1,[])] zKr zKr zSi ?_;simp[go_sem,dgOf];exact .hf _ (vd zR (46,n.pos))
theorem qqL(c)(l:okCk c)(s)(g:s.length<=100000)(inn n)(i:n.op=1):ExR c s inn n:=by
 have o:exam c s inn n=jl c s n.name n.pos:=by
  rw[y8,U2,i,show yp 1=false from rfl];simp
 refine⟨resS (jl c s n.name n.pos),?_,fun _ q h=>by rw[o]at h;rw[h];rfl⟩;rw[o];have p:=XV c l inn s n g;rw[qqI]at p;generalize resS (jl c s n.name n.pos)=S at *
 generalize dgOf (jl c s n.name n.pos)=D at *
 refine qSQ call104 func104 rfl { mt:=[3] } ?_;have r:=YO n.op;have I:=YP c l n.name;have hT:yp n.op=false:=by rw[i];rfl
 rw[hT]at r;have C:=wkE c inn (envS s) n;cases inn
 case' true =>
  simp[go_sem];refine tC r (wk1I _) ?_
 all_goals
  simp[go_sem,i];refine tC p C ?_;simp[go_sem,qs];rw[if_pos (q8 _)];generalize t:putCells _ 0 (aI S.1 :: hB S.2)=P;have j:P=aI S.1 :: hB S.2:=by rw[<-t];exact pc (aI 0) _ (fun _=>false) _
  subst j;clear t;simp[go_sem,qs,QE.tk];exact .hf _ (vd S D)
theorem qqM(c)(i:okCk c)(s)(p:ScOk c.ts.sS.length s)(inn n)(r:WfN n)(h47:n.op=47)(g:(inn&&zS c n.op n.name)=false)(t:∀ k,k∈n.sD->ExR c s true k):ExR c s inn n:=by
 have C:exam c s inn n=uE c s n:=by
  rw[y8,g,if_neg zSp,zIn,if_pos h47];rfl
 have I:=qqE c i s p n r h47 t inn;refine⟨zR,?_,fun j=>by rw[h47]at j;exact absurd j zDe⟩;rw[C];generalize dgOf (uE c s n)=D at *
 refine qSQ call104 func104 rfl { mt:=[3] } ?_;have l:=YO n.op;have o:=YP c i n.name;have hT:yp n.op=false:=by rw[h47];rfl
 rw[hT]at l;have J:=wkE c inn (envS s) n;cases inn
 case' true =>
  rw[Bool.true_and,U2,hT,h47]at g;have hB:tpB c n.name=false:=zUs g;rw[hB]at o;simp[go_sem];refine tC l (wk1I _) ?_;simp[go_sem,h47];refine tC o (wkTP c n.name) ?_
 all_goals
  simp[go_sem,h47];refine fR I J ?_;exact .hf _ (vd zR D)
theorem qqN(c)(J:okCk c)(s)(o:ScOk c.ts.sS.length s)(p:s.length<=90000)(inn n)(R:WfN n)(l:n.op=15\/n.op=45\/n.op=46)(ht:(inn&&zS c n.op n.name)=false)(T:∀ k,k∈n.sD->∀ s',ScOk c.ts.sS.length s'->s'.length<=s.length+1->∀ inn,ExR c s' inn k):ExR c s inn n:=by
 have U:exam c s inn n=yd c s (inn||decide (n.op=15)) n.name n.pos n.sD:=by
  rw[y8,ht,if_neg zSp,zIn,zIn,if_pos l]
 obtain⟨a,g,i,r⟩:=UW R l;have cb:=qqG c J s o p n a g R l i r inn (T a (by rw[i];simp) s o zOm _) (fun k hk j=>T g (by rw[i];simp) _ (fun v t=>by
  rcases qt.1 t with rfl|t
  .grind
  .exact o v t) zSp _)
 refine⟨Vm (exam c s (inn||decide (n.op=15)) a),?_,fun _ q h=>?_⟩
 case refine_2 =>
  rw[U,i]at h;simp only[yd]at h;split at h
  .cases h
  .cases h
  .rename_i k hk
   split at h
   .rename_i j
    split at h
    .cases h
    .cases h
     rw[hk];exact if_pos j
   .cases h
 rw[U];generalize Vm (exam c s (inn||decide (n.op=15)) a)=S at *
 generalize dgOf (yd c s (inn||decide (n.op=15)) n.name n.pos n.sD)=D at *
 refine qSQ call104 func104 rfl { mt:=[3] } ?_;have C:=YO n.op;have cp:=YP c J n.name;have h47:¬n.op=47:=zOm;have hT:yp n.op=false:=by grind [yp]
 rw[hT]at C;have wn:=wkE c inn (envS s) n;rcases l with h|h|h
 all_goals
  rw[h]at C;cases inn
 all_goals
  simp[go_sem,h]
  try (refine tC C (wk1I _) ?_)
  try simp[go_sem,h]
  refine tC cb wn ?_;simp[go_sem,qs];rw[if_pos (q8 _)];generalize hP:putCells _ 0 (aI S.1 :: hB S.2)=P;have I:P=aI S.1 :: hB S.2:=by rw[<-hP];exact pc (aI 0) _ (fun _=>false) _
  subst I;clear hP;simp[go_sem,qs,QE.tk];exact .hf _ (vd S D)
def seqL(X:Nd->Res):List Nd->Except Dg (List (Option Kd))
 | [] => .ok []
 |k :: ks=>match X k with
  | .error e => .error e
  | .ok a=>match seqL X ks with
   | .error e => .error e
   | .ok l => .ok (a :: l)
theorem qc4(c s B):∀ ks,qY c s B ks=seqL (exam c s B) ks
 | []=>by simp only[qY,seqL]
 |k :: ks=>by simp only[qY,seqL];rw[qc4 c s B ks];cases exam c s B k with
  |error e=>rfl
  |ok a=>cases seqL (exam c s B) ks<;>rfl
theorem kn{J:Type}{l}{a b c:J}(g:l[0]?=some a)(i:l[1]?=some b)(j:l[2]?=some c):∃ r,l=a :: b :: c :: r:=by
 match l,g,i,j with
 |_ :: _ :: _ :: r,g,i,j =>
  grind
theorem qqO{n}(j:WfN n)(h:(n.op=5\/n.op=11\/n.op=12\/n.op=13)\/(n.op=6\/n.op=14\/n.op=7\/n.op=8\/n.op=32\/n.op=33\/n.op=9\/n.op=10)):∀ x,x∈n.sD->kd x.op=101:=by
 have g:=j.shape;intro x l;have i:kd x.op∈n.sD.map fun k=>kd k.op:=qi.2 ⟨x,l,rfl⟩
 rcases h with h|h
 .unfold shp at g
  rw[zIn,if_pos zOm]at g
  grind
 .unfold shp at g
  rw[zIn,zIn,if_pos zOm]at g;simp only[qr]at g;rw[<-g]at i;simpa using i
set_option maxHeartbeats 2000000 in
theorem ex_t(c)(hc:okCk c)(s n inn B X S D)(h1:¬n.op=1)(h47:¬n.op=47)(hb:¬(n.op=15\/n.op=45\/n.op=46))(hw:WfN n)(au:n.sD.length<=401)(hT:inn=true->yp n.op=false)(a5:n.op=12->B=true)(a6:n.op=13->B=true)(af:¬n.op=12->¬n.op=13->B=inn)
  (ag:∀ k,k∈n.sD->∃ S,qd qb 104 [eVw c B,lVr (envS s),eNd k] (.tup [eRS S,eDg (dgOf (X k))])/\(kd k.op=101->∀ q,X k = .ok (some q)->S=qp q))
  (a7:∀ k a,k∈n.sD->X k = .ok a->kd k.op=101->∃ q,a=some q/\okKd c.ts.sS.length q)
  (a1:∀ k e,X k = .error e->40<=e.1)
  (ah:∀ e,seqL X n.sD = .error e->S=zR/\D=e)
  (ai:∀ l,seqL X n.sD = .ok l->∃ S' b,(∀ L,((n.op=5\/n.op=11\/n.op=12\/n.op=13)\/(n.op=6\/n.op=14\/n.op=7\/n.op=8\/n.op=32\/n.op=33\/n.op=9\/n.op=10)->L=l.map setO)->prC c.ts n L S' b)/\(b=true->S=S'/\D=(0,0))/\(b=false->S=zR/\D=(42,n.pos))) :
  qd qb 104 [eVw c inn,lVr (envS s),eNd n] (.tup [eRS S,eDg D]):=by
 simp only[not_or]at hb;obtain⟨b1,b2,b3⟩:=hb;refine qSQ call104 func104 rfl { mt:=[3] } ?_;have ct:=YO n.op;have cp:=YP c hc n.name;cases inn
 all_goals first
  | (rw[hT rfl]at ct;simp[go_sem];refine tC ct (wk1I _) ?_)
  |skip
 all_goals simp[go_sem,h1,h47,b1,b2,b3]
 all_goals rcases (show n.op=12\/(¬n.op=12/\n.op=13)\/(¬n.op=12/\¬n.op=13) by omega) with r|⟨r,T⟩|⟨r,T⟩
 all_goals first|simp[go_sem,r,T] | simp[go_sem,r]
 all_goals first|have a2:=a5 r|have a2:=a6 T|have a2:=af r T
 all_goals
  refine kT n.sD.length (fun k U=>∃(j:List (Option Kd)) (L:List RS),j.length=k/\L.length=k/\U.tm 1=lVr (envS s)/\U.tm 3 = .ptr 0 0/\U.tm 5 = .ip (cNd n)/\U.tm 6 = .ptr 1 0/\U.tm 7 = .ptr 2 0/\U.tm 9=aI k/\U.mu[0]?=some (.arr (cVw c B))/\U.mu[1]?=some (.arr (aI 0 :: hB fun _=>false))/\U.mu[2]?=some (.arr [aI 0,aI 0])/\OwnF 3 U.mu 65 (U.tm 8) (L.map cRS)/\(∀(i:Nat) x,n.sD[i]?=some x->i<k->kd x.op=101->∃ q,j[i]?=some (some q)/\L[i]?=some (qp q))/\seqL X n.sD=(match seqL X (n.sD.drop k) with | .error e => .error e | .ok l => .ok (j++l))) ?_ ?_
  .refine ⟨[],[],rfl,rfl,zSi,zSi,zSi,zSi,zSi,zSi,by rw[a2];simp[go_sem],by simp[go_sem];rfl,zSi,by simp_all[go_sem,OwnF.nil],fun i x _ h=>absurd h zOm,?_⟩
   grind
  rintro k U hk ⟨j,L,a8,a9,e1,e3,e5,e6,e7,e9,m0,m1,m2,ho,a0,C⟩;generalize h8:U.tm 8=t at *
  by_cases o:k<n.sD.length
  .have w1:=zWk k
   obtain⟨Sk,ck,aj⟩:=ag n.sD[k] (qn o);rw[zm o]at C;simp only[seqL]at C;simp[go_sem,e5,e9,o];refine fD [0,1,2,3,4,5,6,7,8,9,10,11,12,13,14] [(0,0,[]),(1,0,[]),(2,0,[]),(3,0,[]),(4,0,[]),(5,0,[]),(6,0,[]),(7,1,[]),(8,0,[]),(9,0,[]),(10,0,[]),(11,2,[0,3,6]),(12,2,[0,3,6]),(13,1,[]),(14,1,[])] zKr zKr zSi ?_;have aa:2<U.mu.length:=(qg.1 m2).1;have g:∀(l:List Cell)(i:Nat),i<U.mu.length->(U.mu++l)[i]?=U.mu[i]?:=fun l i I=>qG I
   have p0:=fun l=>(g l 0 zOm).trans m0
   have p1:=fun l=>(g l 1 zOm).trans m1
   have p2:=fun l=>(g l 2 zOm).trans m2
   have g0:=(qg.1 m0).2;have g1:=(qg.1 m1).2;have g2:=(qg.1 m2).2;have a3:0<U.mu.length:=zOm;have ak:1<U.mu.length:=zOm;simp[go_sem,e1,e3,e5,e9,o,m0];refine tC ck (wkE c _ _ _) ?_;cases hx:X n.sD[k] with
   |error e =>
    have he:=a1 _ _ hx;have al:¬e.1=0:=zOm;rw[hx]at C;have C:seqL X n.sD = .error e:=C;obtain⟨an,ao⟩:=ah e C;rw[an,ao];simp[go_sem,e3,g0,a3,qs,dgOf];rw[if_pos (q8 _)];generalize hP:putCells _ 0 (cRS Sk)=P;have J:P=cRS Sk:=by rw[<-hP];exact pc (aI 0) _ (fun _=>false) _
    subst J;clear hP;simp[go_sem,al];refine fD [0,1,2,3] [(0,0,[]),(1,0,[]),(2,1,[1]),(3,1,[])] zKr zKr zSi ?_;simp[go_sem,e6,e7,a3,qs,g1,g2,ak,aa];exact .hf _ (vd zR e)
   |ok a =>
    rw[hx]at C;simp only at C;simp[go_sem,e3,g0,a3,qs,dgOf];rw[if_pos (q8 _)];generalize hP:putCells _ 0 (cRS Sk)=P;have J:P=cRS Sk:=by rw[<-hP];exact pc (aI 0) _ (fun _=>false) _
    subst J;clear hP;simp[go_sem,h8,qs,QE.tk];rw[if_pos (q8 _)];simp[go_sem];refine appRS (lo:=3) (xs:=L) (ys:=[Sk]) ⟨by simpa using JR (JR ho.1 _) _,ho.2.1,by grind⟩ (by simp[qz]) zSo fun aw m' aq a4=>?_
    simp[go_sem,e9,o,w1];refine aK ⟨j++[a],L++[Sk],zP1 a8,zP1 a9,zS1 e1,zS1 e3,zS1 e5,zS1 e6,zS1 e7,zSi,?_,?_,?_,zVs aq,fun i x I ax R=>?_,?_⟩
    .simp only[qA];exact(a4 0 zOm).trans (p0 _)
    .simp only[qA];exact(a4 1 zOm).trans (p1 _)
    .simp only[qA];exact(a4 2 zOm).trans (p2 _)
    .by_cases ab:i=k
     .subst ab
      rw[qw o]at I;cases I;obtain⟨q,rfl,_⟩:=a7 _ a (qn o) hx R;refine⟨q,?_,?_⟩
      .rw [zE zOm,a8];simp
      .rw [zE zOm,a9];simp[aj R q hx]
     .obtain ⟨q,q1,q2⟩:=a0 i x I zOm R
      exact⟨q,by rw[zGa];exact q1,by rw[zGa];exact q2⟩
    grind
  .have ad:k=n.sD.length:=by omega
   subst ad;rw[yh]at C;have C:seqL X n.sD = .ok j:=by rw[C];simp only[seqL,zF]
   obtain⟨S',b,q1,q2,q3⟩:=ai j C;have hL:((n.op=5\/n.op=11\/n.op=12\/n.op=13)\/(n.op=6\/n.op=14\/n.op=7\/n.op=8\/n.op=32\/n.op=33\/n.op=9\/n.op=10))->L=j.map setO:=fun h=>by
    have R:∀ x,x∈n.sD->kd x.op=101:=fun x hx=>qqO hw h x hx
    refine List.ext_getElem? fun i=>?_
    by_cases I:i<n.sD.length
    .obtain ⟨q,e1,e2⟩:=a0 i n.sD[i] (zP1 I) I (R _ (qn I))
     rw[e2,List.getElem?_map,e1];rfl
    .rw [uJ zOm,uJ zSo]
   have hp:=q1 L hL;unfold prC at hp;have aa:2<U.mu.length:=(qg.1 m2).1;have g:∀(l:List Cell)(i:Nat),i<U.mu.length->(U.mu++l)[i]?=U.mu[i]?:=fun l i I=>qG I
   obtain⟨rr,ae⟩:=kn m0 m1 m2;simp[go_sem,e3,e5,e9,h8,m0];refine fX (args':=[eTS c.ts,eNd n,lRS L]) hp ⟨.hf _ (zl _),.hf _ (qJ n),rdRS ho,trivial⟩ (fl_sb S' b) ?_;have ay:U.mu.length=rr.length+3:=by rw[ae];rfl
   clear m0 m1 m2 g ho;simp[go_sem,ae,qs];rw[if_pos (q8 _)];generalize hP:putCells _ 0 (cRS S')=P;have J:P=cRS S':=by rw[<-hP];exact pc (aI 0) _ (fun _=>false) _
   subst J;clear hP;cases b with
   |true =>
    obtain⟨rfl,rfl⟩:=q2 rfl;simp[go_sem,e6,qs,QE.tk,pc];rw[if_pos (q8 _)];simp[go_sem,e6,e7,qs,QE.tk];exact .hf _ (vd S (0,0))
   |false =>
    obtain⟨rfl,rfl⟩:=q3 rfl;simp[go_sem];refine fD [0,1,2,3,4,5] [(0,0,[]),(1,0,[]),(2,0,[]),(3,0,[]),(4,1,[2]),(5,1,[])] zKr zKr zSi ?_;simp[go_sem,e5,e6,e7,qs];exact .hf _ (vd zR (42,n.pos))
theorem qqP(c)(p:okCk c)(s)(hs:ScOk c.ts.sS.length s)(inn n)(r:WfN n)(h1:¬n.op=1)(h47:¬n.op=47)(hb:¬(n.op=15\/n.op=45\/n.op=46))(ht:(inn&&zS c n.op n.name)=false)(ih:∀ k,k∈n.sD->∀ inn,ExR c s inn k):ExR c s inn n:=by
 have hx:exam c s inn n=match qY c s (inn||decide (n.op=12)||decide (n.op=13)) n.sD with | .error e => .error e | .ok l=>ya c.ts.sS.length n.op n.n n.pos l:=by
  rw[y8,ht,if_neg zSp,if_neg h1,if_neg h47,if_neg hb]
  grind
 have t:n.op=12\/n.op=13->(inn||decide (n.op=12)||decide (n.op=13))=true:=fun h=>by grind
 have a0:¬n.op=12->¬n.op=13->(inn||decide (n.op=12)||decide (n.op=13))=inn:=fun h h'=>by simp[h,h']
 generalize (inn||decide (n.op=12)||decide (n.op=13))=B at *
 obtain⟨S,D,C,hq,I,J⟩:∃ S D,dgOf (exam c s inn n)=D/\(kd n.op=101->∀ q,exam c s inn n = .ok (some q)->S=qp q)/\(∀ e,qY c s B n.sD = .error e->S=zR/\D=e) /\
   (∀ l,qY c s B n.sD = .ok l->∃ P b,(∀ L:List RS,((n.op=5\/n.op=11\/n.op=12\/n.op=13)\/(n.op=6\/n.op=14\/n.op=7\/n.op=8\/n.op=32\/n.op=33\/n.op=9\/n.op=10)->L=l.map setO)->prC c.ts n L P b)/\(b=true->S=P/\D=(0,0))/\(b=false->S=zR/\D=(42,n.pos))):=by
  rw[hx];cases hE:qY c s B n.sD with
  |error e=>exact⟨zR,e,rfl,(fun _ q h=>by cases h),(fun e' h=>by grind),(fun l h=>by cases h)⟩
  |ok l =>
   obtain⟨a1,a2⟩:=JV hE;have a3:=(XZ p.ts.ns r a1 (fun i k' a hi ha g=>v7 p (szN k') k' s B a (qo _) (r.kid (qU hi)) hs (a2 i k' a hi ha) g)).2;obtain⟨P,b,p1,o⟩:=qqH c.ts p.ts n l h1 (fun h=>hb (.inl h)) (fun h=>by
    grind) a3.2.2
   simp only;cases hA:ya c.ts.sS.length n.op n.n n.pos l with
   |error e =>
    rw[hA]at o;have o:b=false:=o;refine⟨zR,e,rfl,(fun _ q h=>by cases h),(fun e' h=>by cases h),(fun l' h=>by cases h;exact⟨P,b,p1,(fun h=>by grind),(fun _=>⟨rfl,qqJ hA⟩)⟩)⟩
   |ok ko =>
    rw[hA]at o;obtain⟨o,p3⟩:=o;refine⟨P,(0,0),rfl,(fun U q h=>?_),(fun e' h=>by cases h),(fun l' h=>by simp_all)⟩
    grind
 refine⟨S,?_,hq⟩;rw[C];clear C hx hq;obtain⟨X,R⟩:∃ X:Nd->Res,X=exam c s B:=⟨_,rfl⟩;have a4:∀ k,k∈n.sD->∃ S,qd qb 104 [eVw c B,lVr (envS s),eNd k] (.tup [eRS S,eDg (dgOf (X k))])/\(kd k.op=101->∀ q,X k = .ok (some q)->S=qp q):=fun k U=>by rw[R];exact ih k U B
 have T:∀ k a,k∈n.sD->X k = .ok a->kd k.op=101->∃ q,a=some q/\okKd c.ts.sS.length q:=fun k a U h g=>by rw[R]at h;exact v7 p (szN k) k s B a (qo _) (r.kid U) hs h g
 have j:∀ k e,X k = .error e->40<=e.1:=fun k e h=>by rw[R]at h;exact Vb c (szN k) k s B e (qo _) h
 rw[qc4,<-R]at I J;clear R ih;have a5:=r.len;exact ex_t c p s n inn B X S D h1 h47 hb r a5 (fun hi=>by
  simp_all[Bool.true_and,U2,Bool.or_eq_false_iff]) (fun h=>t (.inl h)) (fun h=>t (.inr h)) a0 a4 T j I J
theorem qc5(c)(l:okCk c):∀(m:Nat)(n),depN n<=m->WfN n->∀ s,ScOk c.ts.sS.length s->s.length+m<=80000->∀ inn,ExR c s inn n
 | 0,n,i,_,_,_,_,_=>zW1 (qb3 n)
 |m+1,n,i,o,s,r,p,inn=>by
  have t:∀ k,k∈n.sD->∀ s',ScOk c.ts.sS.length s'->s'.length<=s.length+1->∀ inn,ExR c s' inn k:=fun k j s' g C inn=>qc5 c l m k (by have:=qb2 j;rw[Ze]at i;omega) (o.kid j) s' g zOm inn
  cases I:inn&&zS c n.op n.name with
  |true =>
   simp_all[qD,qqK]
  |false =>
   grind [qqL,qqM,qqN,qqP]
end QS
end Go.Proofs.YtfednihcpihlgaaGreatDoor
