/-
  Own library, part 7: an abstract reading of values and a calculus over it; contracts of functions; plain lemmas.
-/
import Derived.Test.YtahmfpfdgiemoaaGreatDoorRows
import Derived.LaidMore
import Derived.MakeChecks
import Derived.WalkKit
import Derived.JoinedCond
import Derived.Test.YtahmfpfdgiemoaaGreatDoorMf
set_option linter.unusedVariables false
set_option linter.unusedSimpArgs false
set_option maxRecDepth 100000
open Go renaming Program->qf,Code->vn,World->j2,Value->j3
open Go.Proofs.Tryz renaming prog->qb
open List renaming getElem?_eq_some_iff->qe,mem_map->qk,range->qo,getElem_mem->qt,mem_cons->qu,getElem?_eq_getElem->qv,mem_append->qC,not_mem_nil->qD,getElem?_append_left->qI,all_eq_true->qJ,mem_cons_of_mem->qK,mem_singleton->qN,mem_cons_self->qR,getElem?_append_right->qT,length_append->qU,take_length->qX,getD_eq_getElem?_getD->q8,append_assoc->zc,map_append->zd,getElem?_map->zm,getElem?_set_self->zo,length_cons->zq,drop_eq_getElem_cons->zD,length_map->zJ,append_nil->zL,getElem?_eq_none->yC,getElem?_set_ne->yP,drop_length->yR,mem_filter->jg,getElem?_cons_succ->vb,mem_iff_getElem->vB,getElem_of_mem->uY,getElem_map->Zu,drop_eq_nil_of_le->YN,length_pos_iff->VR
open Nat renaming le_refl->qn,lt_succ_iff_lt_or_eq->Qf
open Bool renaming and_eq_true->qq
open Go.IntKind renaming i64->qs
open Int renaming le_refl->jv,mul_le_mul->ve,tmod_eq_emod_of_nonneg->u3
namespace Go.Proofs.YtahmfpfdgiemoaaGreatDoor
open Go Go.Ev Go.Proofs Tryz
namespace QX
open YS YF Y9 Y1 Y2 YX YZ YA YB P1 QD QK QW
abbrev cWk(ts:TS)(l:List ByteArray)(s:ISt):List AV:=cTS ts++[lNm l,aI s.last,aI s.cost]
abbrev eWk(ts:TS)(l:List ByteArray)(s:ISt):AV := .agg (cWk ts l s)
theorem qkB(ts:TS)(l:List ByteArray)(s:ISt):∀ c,c∈cWk ts l s->HF c:=fun c g=>by
 rcases qC.1 g with g|g
 .exact JV ts c g
 .simp only[qu,qD,or_false]at g
  rcases g with rfl|rfl|rfl
  .exact mw l
  .exact HF.sc _
  .exact HF.sc _
theorem uj(ts:TS)(l:List ByteArray)(s:ISt):HF (eWk ts l s):=HF.agg (qkB ts l s)
structure Tn (l:List ByteArray) (es:List (ByteArray×Bool)):Prop where
 mem:∀ nm:ByteArray,nm≠⟨#[]⟩->(nm∈l↔getK nm es=some true)
 len:es.length<=l.length+1
theorem vN_ne(k:Int):vN k≠⟨#[]⟩:=fun e=>by
 have:=congrArg ByteArray.size e;unfold vN at this;rw[ByteArray.size_append]at this;have g:(⟨#[118]⟩:ByteArray).size=1:=rfl;have i:(⟨#[]⟩:ByteArray).size=0:=rfl;omega
theorem qkC{ts:TS}{l:List ByteArray}{es:List (ByteArray×Bool)}(t:Tn l es)(k:Int):yX ts es (vN k)=(decide ((means ts (vN k)).length=0)&&!inL (vN k) l):=by
 unfold yX;have i:=t.mem (vN k) (vN_ne k);have j:decide (means ts (vN k)=[])=decide ((means ts (vN k)).length=0):=by
  simp[List.length_eq_zero_iff]
 rw[j,Bool.and_comm];congr 1;by_cases g:vN k∈l
 .rw [Xz.2 g];simp[i.1 g]
 .rw [my g]
  simp only[Bool.not_false,decide_eq_true_eq];exact fun e=>g (i.2 e)
theorem two{C:Type}{l:List C}{a b:C}(g:l[0]?=some a)(i:l[1]?=some b):∃ r,l=a :: b :: r:=by
 match l,g,i with
 |_ :: _ :: r,g,i =>
  simp at g i;exact⟨r,by rw[g,i]⟩
abbrev zWc:List AV:=[.lst true [],.lst true [],.lst true [],.lst true [],.lst true [],aI 0,aI 0]
theorem qkD(ts:TS)(h:okTS ts)(l:List ByteArray)(es:List (ByteArray×Bool))(t:Tn l es)(hl:l.length<=400000)(s:ISt)(hs:0<=s.last/\s.last+(qp ts es:Nat)<=1000000000)(a4:∃ j:Nat,1<=j/\j<=qp ts es/\yX ts es (vN (s.last+j))=true) :
  qd qb 170 [eWk ts l s] (.tup [eWk ts l ⟨zu ts es (qp ts es) s.last,s.cost⟩,aS (vN (zu ts es (qp ts es) s.last))]):=by
 have a8:=h.ns;have a9:=h.nf;have hF:qp ts es<=l.length+40:=by have:=t.len;unfold qp;omega
 have a5:okNm ts:=⟨h.sl,zOm,zOm,fun f hf=>zW1 (h.fl f hf)⟩;generalize aa:qp ts es=F at *
 generalize hR:zu ts es F s.last=R;refine qSQ call170 func170 rfl { mt:=[1] } ?_;simp[go_sem];refine qh.keep (fun m st=>∃(i:Nat) (k:Int),i+m=F/\0<=k/\k+m<=1000000000/\st.tm 1 = .ptr 0 0/\st.tm 2 = .ptr 1 0/\st.tm 4=aI i/\st.mu[0]?=some (.arr (cWk ts l ⟨k,s.cost⟩))/\st.mu[1]?=some (.arr zWc)/\zu ts es m k=R/\∃ j:Nat,1<=j/\j<=m/\yX ts es (vN (k+j))=true) F ?_ ?_
 .exact ⟨0,s.last,zOm,hs.1,zOm,zSi,zSi,zSi,zSi,zSi,hR,a4⟩
 rintro m st ⟨i,k,ab,ad,ae,I,J,e4,m0,m1,hI,j,af,ag,P⟩;obtain⟨m,rfl⟩:∃ m',m=m'+1:=⟨m-1,zOm⟩;obtain⟨rr,o⟩:=two m0 m1;have w1:qs.wrap (k+1)=k+1:=zWr;have w2:qs.wrap ((l.length:Int)+40)=(l.length:Int)+40:=zWr;have w3:=zWk i;have g:(i:Int)<=(l.length:Int)+40:=zOm;obtain⟨u,hu⟩:∃ u:Nat,k+1=(u:Int):=⟨(k+1).toNat,zOm⟩;have cd:=digU u u (qn _) zOm;have ah:=gl (u:Int) zOm zOm;have a2:1+(jd (u:Int)).size<=9223372036854775807:=zOm;have hv:(⟨#[118]⟩:ByteArray)++jd (u:Int)=vN (k+1):=by rw[hu];rfl
 have p:=qkC (ts:=ts) t (k+1);have cn:=Xg ts a5 (vN (k+1));have U:=Xf ts (vN (k+1));have hk:(named ts (vN (k+1))).2=(means ts (vN (k+1))).length:=by rw[Xs h]
 rw[hk]at cn;generalize (named ts (vN (k+1))).1=C at *
 have ch:=hasU l (vN (k+1)) zOm;clear m0 m1;simp[go_sem,I,J,e4,o,w1,w2,g];refine qc.pure cd (.cons (by rw[hu];exact .hf (HF.sc _)) .nil) ?_;simp[go_sem,I,J,e4,o,w1,w2,g,a2,hv];refine qc.pure cn (.zk (zn ts) (.zs .nil)) ?_;simp[go_sem,I,J,e4,o,w1,w2,g,U.len];rw[if_pos U.one];generalize putCells _ 0 C=PC;have next:yX ts es (vN (k+1))=false->∃ k':Int,k'=k+1/\zu ts es m k'=R/\∃ j:Nat,1<=j/\j<=m/\yX ts es (vN (k'+j))=true:=fun hn=>by
  refine⟨k+1,rfl,?_,j-1,?_,zOm,?_⟩
  .rw [<-hI];simp only[zu];rw[if_neg (by rw[hn];simp)]
  .have:j≠1:=fun e=>by subst e;rw[show k+((1:Nat):Int)=k+1 from rfl]at P;rw[hn]at P;cases P
   omega
  .rw [show k+1+((j-1:Nat):Int)=k+j by omega];exact P
 by_cases T:means ts (vN (k+1))=[]
 .rw [T]at p
  simp[go_sem,I,J,e4,o,w1,w2,g,T];refine qc.pure ch (.zk (mw l) (.zs .nil)) ?_;cases a3:inL (vN (k+1)) l with
  |true =>
   rw[a3]at p;obtain⟨k',r,a0,a1⟩:=next p;simp[go_sem,I,J,e4,o,w1,w2,w3,g];exact⟨m,zOm,Keep.mk' ⟨i+1,k+1,zOm,zOm,zOm,zS1 I,zS1 J,zSi,zSi,zSi,by rw[<-r];exact a0,by rw[<-r];exact a1⟩⟩
  |false =>
   rw[a3]at p;have a6:R=k+1:=by rw[<-hI];simp only[zu];rw[if_pos (by rw[p];rfl)]
   simp[go_sem,I,J,e4,o,w1,w2,g];rw[a6];exact .hf _ (HF.tup fun x hx=>by
    simp only[qu,qD,or_false]at hx;rcases hx with rfl|rfl
    .exact uj ts l ⟨k+1,s.cost⟩
    .exact HF.sc _)
 .have a7:¬(means ts (vN (k+1))).length=0:=fun e=>T (List.length_eq_zero_iff.1 e)
  rw[decide_eq_false a7]at p;obtain⟨k',r,a0,a1⟩:=next p;simp[go_sem,I,J,e4,o,w1,w2,w3,g,T];exact⟨m,zOm,Keep.mk' ⟨i+1,k+1,zOm,zOm,zOm,zS1 I,zS1 J,zSi,zSi,zSi,by rw[<-r];exact a0,by rw[<-r];exact a1⟩⟩
abbrev Sb:=ByteArray×IV
def cAr:Option Nd->List AV
 |some a=>cNd a
 |none=>[aI 0,aS ⟨#[]⟩,aI 0,.lst true [],aI 0]
@[go_sem] theorem cAr_some(a:Nd):cAr (some a)=cNd a:=rfl
@[go_sem] theorem cAr_none:cAr none=[aI 0,aS ⟨#[]⟩,aI 0,.lst true [],aI 0]:=rfl
@[go_sem] theorem qkE(o:Option Nd):(cAr o).length=5:=by cases o<;>simp[go_sem,yu]
theorem qkF(o:Option Nd):∀ c,c∈cAr o->HF c:=by
 cases o with
 |some a=>exact wW a
 |none =>
  intro c g;simp only[cAr,qu,qD,or_false]at g;rcases g with rfl|rfl|rfl|rfl|rfl
  .exact HF.sc _
  .exact HF.sc _
  .exact HF.sc _
  .exact HF.lst fun r i=>absurd i qD
  .exact HF.sc _
abbrev cSb(x:Sb):List AV:=[aS x.1,aS x.2.name,aB x.2.arg.isSome]++cAr x.2.arg++[aI x.2.size]
abbrev lSb(l:List Sb):AV := .lst false (l.map cSb)
def vA(nm:ByteArray)(l:List Sb):Option IV:=l.foldl (fun r e=>if e.1=nm then some e.2 else r) none
theorem VM(nm:ByteArray)(l:List Sb)(e:Sb):vA nm (l++[e])=if e.1=nm then some e.2 else vA nm l:=by
 unfold vA;rw[List.foldl_append];rfl
theorem XA{mu:Mu}(ts:TS)(l:List ByteArray)(s:ISt)(n:Nd)(z:Int):Rd mu (.tup [eWk ts l s,eNd n,aI z]) (.tup [eWk ts l s,eNd n,aI z]) := .hf _ (HF.tup fun x g=>by
 simp only[qu,qD,or_false]at g;rcases g with rfl|rfl|rfl
 .exact uj ts l s
 .exact za n
 .exact HF.sc _)
def uW(sc:List Sb)(n:Nd)(s:ISt):(Nd×Int)×ISt:=match vA n.name sc with
 |none=>((n,1),s)
 |some v=>match v.arg with
  |none=>((.mk n.op v.name n.n n.kids n.pos,1),s)
  |some a=>((a,v.size),payS v.size s)
theorem leafU(ts:TS)(l:List ByteArray)(sc:List Sb)(hl:sc.length<=1000000)(n:Nd)(s:ISt)(hs:0<=s.cost/\s.cost<=1000000)(hz:∀ e,e∈sc->0<=e.2.size/\e.2.size<=1000000) :
  qd qb 167 [eWk ts l s,lSb sc,eNd n] (.tup [eWk ts l (uW sc n s).2,eNd (uW sc n s).1.1,aI (uW sc n s).1.2]):=by
 unfold uW;generalize hR:vA n.name sc=R;have wl:qs.wrap ((sc.length:Int)-1)=(sc.length:Int)-1:=zWr;refine qSQ call167 func167 rfl { mt:=[3,5] } ?_;simp[go_sem,wl,qO];refine qh.keep (fun m st=>m<=sc.length/\st.tm 1=lSb sc/\st.tm 3 = .ptr 0 0/\st.tm 5 = .ptr 1 0/\st.tm 6 = .ptr 2 0/\st.tm 7 = .ptr 3 0/\st.tm 9=aI ((m:Int)-1)/\st.mu=[.arr (cWk ts l s),.arr (cNd n),.arr zWc,.arr [aI 0,aS ⟨#[]⟩,aI 0,.lst true [],aI 0]]/\vA n.name (sc.take m)=R) sc.length ?_ ?_
 .exact ⟨qn _,zSi,zSi,zSi,zSi,zSi,zSi,by simp[go_sem,qO],by rw[qX];exact hR⟩
 rintro m st ⟨a1,j,o,p,r,t,C,I,P⟩;cases m with
 |zero =>
  have a0:R=none:=by rw[<-P];rfl
  subst a0;simp[go_sem,j,o,p,r,t,C,I,qO];refine qg.seg [0,1,4,2,3] [(0,0,[]),(1,0,[]),(4,0,[]),(2,1,[1]),(3,1,[])] zKr zKr zSi ?_;simp[go_sem,j,o,p,r,t,C,I,qO];exact XA ts l s n 1
 |succ m =>
  have g:m<sc.length:=zOm;have a2:(0:Int)<=((m+1:Nat):Int)-1:=zOm;have T:((m+1:Nat):Int)-1=(m:Int):=zOm;rw[T]at C;rw[List.take_succ_eq_append_getElem g,VM]at P;have w1:qs.wrap ((m:Int)-1)=(m:Int)-1:=zWr;have a3:=hz _ (qt g);generalize i:sc[m]=e at *
  by_cases J:e.1=n.name
  .rw [if_pos J]at P
   subst P;have w2:qs.wrap (s.cost+e.2.size)=s.cost+e.2.size:=zWr;simp[go_sem,j,o,p,r,t,C,I,qO,g];refine qg.intro zKr ?_;simp[go_sem,j,o,p,r,t,C,I,qO,g,i,J];cases ha:e.2.arg with
   |none =>
    simp[go_sem,j,o,p,r,t,C,I,qO,g,i,J,ha];refine qg.seg [0,1,4,2,3] [(0,0,[]),(1,0,[]),(4,0,[]),(2,1,[1]),(3,1,[])] zKr zKr zSi ?_;have U:(cNd n).set 1 (AV.sc (.string e.2.name))=cNd (.mk n.op e.2.name n.n n.kids n.pos):=by rw[yu n,yu];rfl
    rw[U];simp[go_sem,j,o,p,r,t,C,I,qO];exact XA ts l s _ 1
   |some a =>
    simp[go_sem,j,o,p,r,t,C,I,qO,g,i,J,ha];refine qg.seg [0,1,2,3,4,5,6,7,8,9] [(0,0,[]),(1,0,[]),(2,0,[]),(3,0,[]),(4,0,[]),(5,0,[]),(6,0,[]),(7,0,[]),(8,0,[]),(9,1,[])] zKr zKr zSi ?_;simp[go_sem,j,o,p,r,t,C,I,qO,g,i,J,ha,w2];refine qg.seg [0,1,2,3,4,5,6,7,8,9,10,13,11,12] [(0,0,[]),(1,0,[]),(2,0,[]),(3,0,[]),(4,0,[]),(5,0,[]),(6,0,[]),(7,0,[]),(8,0,[]),(9,0,[]),(10,0,[]),(13,0,[]),(11,1,[5,10]),(12,1,[10])] zKr zKr zSi ?_;simp[go_sem,j,o,p,r,t,C,I,qO,g,i,J,ha,w2];exact XA ts l (payS e.2.size s) a e.2.size
  .rw [if_neg J]at P
   simp[go_sem,j,o,p,r,t,C,I,qO,g];refine qg.intro zKr ?_;simp[go_sem,j,o,p,r,t,C,I,qO,g,i,jM J,w1];exact⟨m,zOm,Keep.mk' ⟨zOm,zS1 j,zS1 o,zS1 p,zS1 r,zS1 t,zSi,zS1 I,P⟩⟩
theorem XB:∀(m:Nat) (n:Nd),szN n<=m->yf n->depN n<=1000000->qd qb 123 [eNd n] (aI (depN n))
 | 0,n,J,_,_=>by obtain⟨op,nm,i,ks,p⟩:=n;simp[szN]at J
 |m+1,n,J,P,R=>by
  have U:∀ k,k∈n.kids->qd qb 123 [eNd k] (aI (depN k)):=fun k j =>
   XB m k (zW1 (yv j)) (P.kid j) (by rw[Zh]at R;have:=qgZ j;omega)
  rw[Zh]at R⊢;have T:=P.len;have a0:=WN n.kids;generalize hD:z8 n.kids=D at *
  refine qSU call123 func123 rfl ?_;refine qh.upK n.kids.length (fun k st=>∃ d,st.tm 3=aI d/\st.tm 1 = .ip (cNd n)/\st.tm 4=aI k/\0<=d/\max d (z8 (n.kids.drop k))=D) ?_ ?_
  .exact ⟨0,zSi,zSi,zSi,zOm,by simp only[List.drop_zero,hD];omega⟩
  .rintro k st j ⟨d,r,l,t,a1,o⟩
   by_cases C:k=n.kids.length
   .subst C
    rw[yR]at o;simp only[z8]at o;have I:d=D:=zOm;subst I;have w:qs.wrap (d+1)=d+1:=zWr;simp[go_sem,r,l,t,w];exact .zsc _
   .have g:k<n.kids.length:=by omega
    have w1:=zWk k;rw[zD g]at o;simp only[z8]at o;simp[go_sem,r,l,t,g,qO];refine qc.pure (U n.kids[k] (qt g)) (.zk (za _) .nil) ?_;simp[go_sem,r,l,t,w1];refine⟨g,Keep.mk' ?_⟩;refine⟨if d<depN n.kids[k] then depN n.kids[k] else d,zSi,zS1 l,zSi,?_,?_⟩
    .have:=qgY n.kids[k]
     split<;>omega
    .split<;>omega
end QX
namespace QY
open Y1 YX YA YB YC P1 P2 PA QE QX
section
variable {es:List (ByteArray×Bool)}
structure ScOf (ts:TS) (body:Bool) (sc:List Sb) (env:IEnv):Prop where
 look:∀ nm,vA nm sc=getK nm env
 own:body=false->∀ nm v,getK nm env=some v->means ts nm≠[]
 sz:∀ e,e∈sc->0<=e.2.size/\e.2.size<=4000
def OutR(r:XR (Nd×Int))(s':ISt)(n':Nd)(z:Int):Prop:=match r with
 | .ok ((m,y),t)=>n'=m/\z=y/\s'=t
 | .error _=>4000<s'.cost/\s'.cost<=9000/\0<=z/\z<=4000
def renR(ts:TS)(es:List (ByteArray×Bool))(sc:List Sb)(nm:ByteArray)(body:Bool)(s:ISt):(List Sb×ByteArray)×ISt:=
 if body=true\/means ts nm≠[] then
  ((sc++[(nm,⟨none,0,vN (zu ts es (qp ts es) s.last)⟩)],vN (zu ts es (qp ts es) s.last)),⟨zu ts es (qp ts es) s.last,s.cost⟩)
 else ((sc,nm),s)
abbrev XO:=ISt×Nd×Int
def jQ(E:Nd->ISt->XO):List (ByteArray×Int)->List Nd->List Sb->ISt->Except ISt (List Sb×ISt)
 |p :: g,k :: ks,own,s=>if 4000<(E k s).1.cost then .error (E k s).1 else jQ E g ks (own++[(p.1,⟨some (E k s).2.1,(E k s).2.2,⟨#[]⟩⟩)]) (E k s).1
 |_,_,own,s => .ok (own,s)
def j8(E:List Sb->Nd->ISt->XO)(R:List Sb->ByteArray->ISt->(List Sb×ByteArray)×ISt)(bin:Bool):Nat->List Sb->ByteArray->List Nd->ISt->Except ISt ((ByteArray×List Nd×Int)×ISt)
 |_,_,t,[],s => .ok ((t,[],0),s)
 |i,sc,t,k :: ks,s =>
  let r:=if bin=true/\i=1 then R sc t s else ((sc,t),s)
  let q:=E r.1.1 k r.2
  if 4000<q.1.cost then .error q.1 else match j8 E R bin (i+1) r.1.1 r.1.2 ks q.1 with
   | .error e => .error e
   | .ok ((g,j,o),l) => .ok ((g,q.2.1 :: j,q.2.2+o),l)
def expR(ts:TS)(es:List (ByteArray×Bool)):Nat->List Sb->Nd->Bool->ISt->XO
 | 0,_,n,_,s=>(s,n,0)
 |f+1,sc,n,i,s =>
  if s.cost+1<=4000 then
   if n.op=1 then ((uW sc n (payS 1 s)).2,(uW sc n (payS 1 s)).1.1,(uW sc n (payS 1 s)).1.2)
   else if n.op=47 then match ts.preds.find? fun p=>decide (p.name=n.name) with
    |none=>(payS 1 s,n,1)
    |some p=>match jQ (fun k s=>expR ts es f sc k i s) p.params n.kids [] (payS 1 s) with
     | .error g=>(g,nd0,0)
     | .ok (own,g)=>expR ts es f own p.body true g
   else match j8 (fun sc k s=>expR ts es f sc k i s) (fun sc t s=>renR ts es sc t i s) (binB n.op) 0 sc n.name n.kids (payS 1 s) with
    | .error g=>(g,nd0,0)
    | .ok ((t,ks,m),g)=>(g,.mk n.op t n.n ks n.pos,1+m)
  else (payS 1 s,nd0,0)
theorem VN{F:Nat}{s s':ISt}{z:Int}(g:Gos F s s' z)(h:StOk F s):StOk F s'/\s.cost<=s'.cost/\z<=4000:=⟨g.ok h,zW2 g.cz g.z0,by have:=g.cz;have:=g.c1;have:=h.c0;omega⟩
theorem mz{F f:Nat}{E:Nd->ISt->XR (Nd×Int)}{E':Nd->ISt->XO}:∀(ps:List (ByteArray×Int)) (ks:List Nd) (own:IEnv) (i:List Sb) (s:ISt),
  (∀ k,k∈ks->∀ s,StOk F s->4000<s.cost+(f:Int)->OutR (E k s) (E' k s).1 (E' k s).2.1 (E' k s).2.2)->(∀ k n' z s s',k∈ks->StOk F s->E k s = .ok ((n',z),s')->Gos F s s' z) ->
  StOk F s->4000<s.cost+(f:Int)->qW own->(∀ nm,vA nm i=getK nm own)->(∀ e,e∈i->0<=e.2.size/\e.2.size<=4000) ->
  match yY E ps ks own s with
  | .error _=>∃ t,jQ E' ps ks i s = .error t/\4000<t.cost/\t.cost<=9000
  | .ok (l,s')=>∃ j,jQ E' ps ks i s = .ok (j,s')/\qW l/\(∀ nm,vA nm j=getK nm l)/\(∀ e,e∈j->0<=e.2.size/\e.2.size<=4000)/\StOk F s'/\s.cost<=s'.cost
 | [],ks,own,i,s,_,_,o,_,J,P,R=>by simp only[yY,jQ];exact⟨i,rfl,J,P,R,o,jv _⟩
 |p :: ps,[],own,i,s,_,_,o,_,J,P,R=>by simp only[yY,jQ];exact⟨i,rfl,J,P,R,o,jv _⟩
 |p :: ps,k :: ks,own,i,s,hE,hG,o,hf,J,P,R=>by
  simp only[yY,jQ];have C:=hE k (qR ..) s o hf;have h2:=fun n' z s'=>hG k n' z s s' (qR ..) o
  generalize E' k s=Q at *
  cases U:E k s with
  |error d =>
   rw[U]at C;simp only;rw[if_pos C.1];exact⟨_,rfl,C.1,C.2.1⟩
  |ok r =>
   obtain⟨⟨m,y⟩,t⟩:=r;rw[U]at C;obtain⟨e1,e2,e3⟩:=C;have g:=h2 m y t U;obtain⟨g1,g2,g3⟩:=VN g o;have hc:=g.c1;simp only;rw[if_neg (by rw[e3];omega),e1,e2,e3];have T:=mz (F:=F) (f:=f) ps ks (setK p.1 ⟨some m,y,⟨#[]⟩⟩ own) (i++[(p.1,⟨some m,y,⟨#[]⟩⟩)]) t (fun k hk=>hE k (qK _ hk)) (fun k n' z s s' hk=>hG k n' z s s' (qK _ hk)) g1 zOm (J.set ⟨g.z0,g3⟩) (fun nm=>by
    rw[VM,v6,P];by_cases e:p.1=nm
    .rw [if_pos e,if_pos e.symm]
    .rw [if_neg e,if_neg fun x=>e x.symm]) (fun e I=>by
    rcases qC.1 I with I|I
    .exact R e I
    .rw [qN]at I;subst I;exact⟨g.z0,g3⟩)
   cases hx:yY E ps ks (setK p.1 ⟨some m,y,⟨#[]⟩⟩ own) t with
   |error d=>rw[hx]at T;exact T
   |ok r =>
    obtain⟨l,s'⟩:=r;rw[hx]at T;obtain⟨L,a1,a2,a3,a4,a5,a6⟩:=T;exact⟨L,a1,a2,a3,a4,a5,zOm⟩
theorem mA{ts:TS}{env:IEnv}{sc:List Sb}{nm:ByteArray}{body:Bool}{s:ISt}(o:qW env)(h:ScOf ts body sc env) :
  ScOf ts body (renR ts es sc nm body s).1.1 (renI ts es env nm body s).1.1/\(renR ts es sc nm body s).1.2=(renI ts es env nm body s).1.2/\(renR ts es sc nm body s).2=(renI ts es env nm body s).2:=by
 unfold renR renI;by_cases g:body=true\/means ts nm≠[]
 .rw [if_pos g,if_pos g]
  refine⟨⟨fun x=>?_,fun j x v i=>?_,fun e l=>?_⟩,rfl,rfl⟩
  .simp only
   rw[VM,v6,wh o.nd,h.look];by_cases e:nm=x
   .rw [if_pos e,if_pos e.symm]
   .rw [if_neg e,if_neg fun y=>e y.symm,if_neg fun y=>e y.symm]
  .simp only at i
   rw[v6,wh o.nd]at i;by_cases e:x=nm
   .rw [e]
    rcases g with g|g
    .rw [g]at j;cases j
    .exact g
   .rw [if_neg e,if_neg e]at i
    exact h.own j x v i
  .rcases qC.1 l with l|l
   .exact h.sz e l
   .rw [qN]at l;subst l;exact⟨zSp,zSp⟩
 .rw [if_neg g,if_neg g]
  refine⟨⟨fun x=>?_,fun j x v i=>?_,h.sz⟩,rfl,rfl⟩
  .simp only
   rw[wh o.nd,h.look];by_cases e:x=nm
   .rw [if_pos e]
    cases p:getK x env with
    |none=>rfl
    |some v =>
     have j:body=false:=by cases body<;>simp_all
     exact absurd (h.own j x v p) (by rw[e];exact fun y=>g (.inr y))
   .rw [if_neg e]
  .simp only at i
   rw[wh o.nd]at i;split at i
   .cases i
   .exact h.own j x v i
theorem mB{ts:TS}{es:List (ByteArray×Bool)}(I:Free ts es){f:Nat}{body:Bool}{E:IEnv->Nd->ISt->XR (Nd×Int)}{E':List Sb->Nd->ISt->XO}{bin:Bool}:∀(ks:List Nd) (i:Nat) (env:IEnv) (sc:List Sb) (nm:ByteArray) (s:ISt),
  (∀ k,k∈ks->∀ env sc s,StOk (qp ts es) s->4000<s.cost+(f:Int)->qW env->ScOf ts body sc env->OutR (E env k s) (E' sc k s).1 (E' sc k s).2.1 (E' sc k s).2.2) ->
  (∀ env k n' z s s',k∈ks->StOk (qp ts es) s->qW env->E env k s = .ok ((n',z),s')->Gos (qp ts es) s s' z) ->
  0<=s.last->0<=s.cost->s.cost<=4000->dueN (qp ts es) bin i<=pot (qp ts es) s->4000<s.cost+(f:Int)->qW env->ScOf ts body sc env ->
  match yN E (fun env nm s=>renI ts es env nm body s) bin i env nm ks s with
  | .error _=>∃ t,j8 E' (fun sc nm s=>renR ts es sc nm body s) bin i sc nm ks s = .error t/\4000<t.cost/\t.cost<=9000
  | .ok r=>j8 E' (fun sc nm s=>renR ts es sc nm body s) bin i sc nm ks s = .ok r
 | [],i,env,sc,nm,s,_,_,_,_,_,_,_,_,_=>by simp only[yN,j8]
 |k :: ks,i,env,sc,nm,s,hE,hG,l0,c0,c1,hp,hf,U,J=>by
  simp only[yN,j8];obtain⟨r,P⟩:∃ r,(if bin=true/\i=1 then renI ts es env nm body s else ((env,nm),s))=r:=⟨_,rfl⟩;obtain⟨l,j⟩:∃ l,(if bin=true/\i=1 then renR ts es sc nm body s else ((sc,nm),s))=l:=⟨_,rfl⟩;have hR:ScOf ts body l.1.1 r.1.1/\l.1.2=r.1.2/\l.2=r.2/\qW r.1.1/\StOk (qp ts es) r.2/\r.2.cost=s.cost/\dueN (qp ts es) bin (i+1)<=pot (qp ts es) r.2:=by
   by_cases hb:bin=true/\i=1
   .rw [if_pos hb]at P j
    subst P;subst j;obtain⟨a1,a2,a3⟩:=mA (es:=es) (nm:=nm) (s:=s) U J;have a4:=Vl (ts:=ts) (es:=es) (nm:=nm) (body:=body) (s:=s) U;obtain⟨b1,b2,R⟩:=Vm (body:=body) (nm:=nm) (env:=env) I l0;have hd:dueN (qp ts es) bin i=(qp ts es:Int):=by unfold dueN;rw[if_pos ⟨hb.1,zOm⟩]
    have a0:dueN (qp ts es) bin (i+1)=0:=by unfold dueN;rw[zIn]
    rw[hd]at hp;have o:0<=pot (qp ts es) (renI ts es env nm body s).2:=by
     unfold pot at hp⊢;rw[R];omega
    exact⟨a1,a2,a3,a4,⟨b1,by rw[R];exact c0,by rw[R];exact c1,o⟩,R,by rw[a0];exact o⟩
   .rw [if_neg hb]at P j
    subst P;subst j;have hd:dueN (qp ts es) bin (i+1)<=dueN (qp ts es) bin i:=by
     unfold dueN;split
     .rename_i h
      rw[if_pos ⟨h.1,zOm⟩];exact jv _
     .split<;>omega
    have a5:0<=dueN (qp ts es) bin i:=by unfold dueN;split<;>omega
    exact⟨J,rfl,rfl,U,⟨l0,c0,c1,by show 0<=pot (qp ts es) s;omega⟩,rfl,by show _<=pot (qp ts es) s;omega⟩
  rw[P,j];obtain⟨q1,q2,q3,q4,q5,q6,q7⟩:=hR;rw[q2,q3];have C:=hE k (qR ..) r.1.1 l.1.1 r.2 q5 zOm q4 q1;have h2:=fun n' z s'=>hG r.1.1 k n' z r.2 s' (qR ..) q5 q4
  generalize E' l.1.1 k r.2=Q at *
  cases hq:E r.1.1 k r.2 with
  |error d =>
   rw[hq]at C;simp only;rw[if_pos C.1];exact⟨_,rfl,C.1,C.2.1⟩
  |ok x =>
   obtain⟨⟨m,y⟩,t⟩:=x;rw[hq]at C;obtain⟨e1,e2,e3⟩:=C;have g:=h2 m y t hq;obtain⟨g1,g2,g3⟩:=VN g q5;have hc:=g.c1;have a6:=g.p;simp only;rw[if_neg (by rw[e3];omega),e1,e2,e3];have T:=mB I (f:=f) (body:=body) (E:=E) (E':=E') (bin:=bin) ks (i+1) r.1.1 l.1.1 r.1.2 t (fun k hk=>hE k (qK _ hk)) (fun env k n' z s s' hk=>hG env k n' z s s' (qK _ hk)) g1.l0 g1.c0 g1.c1 zOm zOm q4 q1;cases hx:yN E (fun env nm s=>renI ts es env nm body s) bin (i+1) r.1.1 r.1.2 ks t with
   |error d =>
    rw[hx]at T;obtain⟨t',a1,a2,a3⟩:=T;rw[a1];exact⟨t',rfl,a2,a3⟩
   |ok x =>
    obtain⟨⟨a7,a8,m'⟩,a9⟩:=x;rw[hx]at T;rw[T]
theorem Zs(ts:TS)(es:List (ByteArray×Bool))(i:Free ts es)(hb:∀ p,p∈ts.preds->WfN p.body/\js ts p.body):∀(f:Nat) (env:IEnv) (sc:List Sb) (n:Nd) (body:Bool) (s:ISt),
  4000<s.cost+(f:Int)->StOk (qp ts es) s->qW env->WfN n->js ts n->ScOf ts body sc env->OutR (expI ts es f env n body s) (expR ts es f sc n body s).1 (expR ts es f sc n body s).2.1 (expR ts es f sc n body s).2.2
 | 0,env,sc,n,body,s,hf,g,_,_,_,_=>zW1 g.c1
 |f+1,env,sc,n,body,s,hf,g,o,hw,C,l=>by
  have a8:=g.c0;have a9:=g.c1;have I:(payS 1 s).cost=s.cost+1:=rfl;simp only[expI,expR];by_cases J:s.cost+1<=4000
  case neg =>
   rw[if_neg J,if_neg J];exact⟨by rw[I];omega,by rw[I];omega,zSp,zSp⟩
  rw[if_pos J,if_pos J];have r:=(w9 g (n:=1) zOm J).ok g;by_cases h1:n.op=1
  .rw [if_pos h1,if_pos h1]
   unfold uW wq;rw[l.look];cases hg:getK n.name env with
   |none=>exact⟨rfl,rfl,rfl⟩
   |some v =>
    have hv:=o.sz _ ((Z3 o.nd).1 hg);have hv:0<=v.size/\v.size<=4000:=hv;simp only;cases P:v.arg with
    |none=>exact⟨rfl,rfl,rfl⟩
    |some a =>
     simp only;have e2:(payS v.size (payS 1 s)).cost=(payS 1 s).cost+v.size:=rfl;by_cases R:(payS 1 s).cost+v.size<=4000
     .rw [if_pos R];exact⟨rfl,rfl,rfl⟩
     .rw [if_neg R]
      exact⟨by rw[e2];omega,by rw[e2];omega,hv.1,hv.2⟩
  rw[if_neg h1,if_neg h1];by_cases h47:n.op=47
  .rw [if_pos h47,if_pos h47]
   obtain⟨p,T,a7⟩:=C n (vu n) h47;have a0:=List.mem_of_find?_eq_some T;rw[T];simp only;have P:=mz (F:=qp ts es) (f:=f) (E:=fun k s=>expI ts es f env k body s) (E':=fun k s=>expR ts es f sc k body s) p.params n.kids [] [] (payS 1 s)
    (fun k j s g hf=>Zs ts es i hb f env sc k body s hf g o (hw.kid j) (C.kid j) l)
    (fun k n' z s s' j g e=>j7 ts i f g o e) r (by rw[I];omega) .nil (fun nm=>rfl) (fun e hm=>absurd hm qD)
   cases U:yY (fun k s=>expI ts es f env k body s) p.params n.kids [] (payS 1 s) with
   |error d =>
    rw[U]at P;obtain⟨t,a1,a2,a3⟩:=P;rw[a1];exact⟨a2,a3,zSp,zSp⟩
   |ok x =>
    obtain⟨own,s'⟩:=x;rw[U]at P;obtain⟨L,a1,a2,a3,a4,a5,a6⟩:=P;rw[a1];obtain⟨b1,b2⟩:=hb p a0;exact Zs ts es i hb f own L p.body true s' (by rw[I]at a6;omega) a5 a2 b1 b2 ⟨a3,fun h=>absurd h zSp,a4⟩
  .rw [if_neg h47,if_neg h47]
   have j:=mB i (f:=f) (body:=body) (E:=fun env k s=>expI ts es f env k body s) (E':=fun sc k s=>expR ts es f sc k body s) (bin:=binB n.op) n.kids 0 env sc n.name (payS 1 s)
    (fun k j env sc s g hf o l=>Zs ts es i hb f env sc k body s hf g o (hw.kid j) (C.kid j) l)
    (fun env k n' z s s' j g o e=>j7 ts i f g o e) r.l0 r.c0 r.c1 (by
     rw[Zj];have:=g.p;unfold dueN;split<;>omega) (by rw[I];omega) o l
   cases U:yN (fun env k s=>expI ts es f env k body s) (fun env nm s=>renI ts es env nm body s) (binB n.op) 0 env n.name n.kids (payS 1 s) with
   |error d =>
    rw[U]at j;obtain⟨t,a1,a2,a3⟩:=j;rw[a1];exact⟨a2,a3,zSp,zSp⟩
   |ok x =>
    obtain⟨⟨nm,ks,m⟩,s'⟩:=x;rw[U]at j;rw[j];exact⟨rfl,rfl,rfl⟩
end
end QY
namespace QZ
open YF Y9 Y1 YX YB YC P1 P2 PA QE QI QS QT QX QY
section
variable {mu:Mu}
abbrev eXO(ts:TS)(l:List ByteArray)(q:XO):AV := .tup [eWk ts l q.1,eNd q.2.1,aI q.2.2]
theorem VO(x:Sb):∀ c,c∈cSb x->HF c:=fun c g=>by
 rcases qC.1 g with g|g
 .rcases qC.1 g with g|g
  .simp only[qu,qD,or_false]at g
   rcases g with rfl|rfl|rfl<;>exact HF.sc _
  .exact qkF _ c g
 .rw [qN]at g;subst g;exact HF.sc _
theorem qkG(x:Sb):(cSb x).length=9:=by simp[qkE]
theorem Zt(l:List Sb):zg 9 (l.map cSb):=fun r g=>by
 obtain⟨x,_,rfl⟩:=qk.1 g;refine⟨qkG x,?_⟩;obtain⟨t,⟨a,z,w⟩⟩:=x;cases a<;>simp[yu,go_sem]
theorem mC(l:List Sb):HF (lSb l):=HF.lst fun r g c i=>by
 obtain⟨x,_,rfl⟩:=qk.1 g;exact VO x c i
theorem wkX(ts:TS)(l:List ByteArray)(s:ISt)(sc:List Sb)(n:Nd)(b:Bool):WKs [eWk ts l s,lSb sc,eNd n,aB b] [eWk ts l s,lSb sc,eNd n,aB b] := .zk (uj ts l s) (.zk (mC sc) (.zk (za n) (.zs .nil)))
theorem XC(ts:TS)(l:List ByteArray)(q:XO):HF (eXO ts l q):=HF.tup fun x g=>by
 simp only[qu,qD,or_false]at g;rcases g with rfl|rfl|rfl
 .exact uj ts l _
 .exact za _
 .exact HF.sc _
structure Pre (ts:TS) (es:List (ByteArray×Bool)) (f:Nat) (env:IEnv) (sc:List Sb) (n:Nd) (body:Bool) (s:ISt):Prop where
 fu:4000<s.cost+(f:Int)
 st:StOk (qp ts es) s
 en:qW env
 wf:WfN n
 cl:js ts n
 so:ScOf ts body sc env
 le:(sc.length:Int)<=s.cost+8
theorem rd0:Rd mu (.agg [aI 0,aS ⟨#[]⟩,aI 0,.lst true [],aI 0]) (eNd nd0) := .agg _ _ rfl fun k x y g i=>by
 match k,g,i with
 | 0,g,i=>cases g;cases i;exact .zsc _
 | 1,g,i=>cases g;cases i;exact .zsc _
 | 2,g,i=>cases g;cases i;exact .zsc _
 | 3,g,i=>cases g;cases i;exact .wk _ true _ (.hf _ (HF.lst fun r j=>absurd j qD))
 | 4,g,i=>cases g;cases i;exact .zsc _
 |k+5,g,i=>cases g
theorem rdZ(ts:TS)(l:List ByteArray)(s:ISt):Rd mu (.tup [eWk ts l s,.agg [aI 0,aS ⟨#[]⟩,aI 0,.lst true [],aI 0],aI 0]) (eXO ts l (s,nd0,0)) := .tup _ _ rfl fun k x y g i=>by
 match k,g,i with
 | 0,g,i=>cases g;cases i;exact .hf _ (uj ts l s)
 | 1,g,i=>cases g;cases i;exact rd0
 | 2,g,i=>cases g;cases i;exact .zsc _
 |k+3,g,i=>cases g
theorem mD{lo:Nat}{s:AV}{xs:List Sb}{y:Sb}{K:AV->Mu->Prop}(g:OwnF lo mu 9 s (xs.map cSb))(t:xs.length<=100000)(o:∀ av l,OwnF lo l 9 av ((xs++[y]).map cSb)->(∀ i,i<lo->l[i]?=mu[i]?)->K av l) :
  qA qb mu #[251,251] s (.lst true [cSb y]) K:=by
 refine qA.ownF (lo:=lo) (e:=258) (sz:=9) (bt:=112) (zv := .agg [aS ⟨#[]⟩,aS ⟨#[]⟩,aB false,aI 0,aS ⟨#[]⟩,aI 0,.lst true [],aI 0,aI 0]) (xs:=xs.map cSb) (ys:=[cSb y]) zSi zSi zSi rfl rfl zOm zOm g (by simp[qH]) (Zt xs) (Zt [y]) zSo ?_;intro av l h r;exact o av l (by rw[zd];exact h) r
abbrev ExpW(ts:TS)(l:List ByteArray)(es:List (ByteArray×Bool))(f:Nat)(sc:List Sb)(n:Nd)(body:Bool)(s:ISt):Prop:=
 qd qb 121 [eWk ts l s,lSb sc,eNd n,aB body] (eXO ts l (expR ts es f sc n body s))
theorem expN(ts:TS)(l:List ByteArray)(es:List (ByteArray×Bool))(f:Nat)(env:IEnv)(sc:List Sb)(n:Nd)(body:Bool)(s:ISt)(p:Pre ts es (f+1) env sc n body s)(j:s.cost+1<=4000)(i:n.op=1):ExpW ts l es (f+1) sc n body s:=by
 have o:=p.st.c0;have I:=p.le;have r:=leafU ts l sc zOm n (payS 1 s) ⟨by show 0<=s.cost+1;omega,by show s.cost+1<=_;omega⟩ (fun e t=>zW1 (p.so.sz e t));unfold ExpW;simp only[expR];rw[if_pos j,if_pos i];have C:qs.wrap (s.cost+1)=s.cost+1:=zWr;have g:¬ 4000<s.cost+1:=zOm;generalize uW sc n (payS 1 s)=Q at *
 refine qSQ call121 func121 rfl { mt:=[4] } ?_;simp[go_sem,C,g,i,qO];refine qc.pure r (.zk (uj ts l (payS 1 s)) (.zk (mC sc) (.zk (za n) .nil))) ?_;simp[go_sem,qO];exact .hf _ (XC ts l (Q.2,Q.1.1,Q.1.2))
theorem expZ(ts:TS)(l:List ByteArray)(es:List (ByteArray×Bool))(f:Nat)(env:IEnv)(sc:List Sb)(n:Nd)(body:Bool)(s:ISt)(p:Pre ts es (f+1) env sc n body s)(i:¬s.cost+1<=4000):ExpW ts l es (f+1) sc n body s:=by
 have j:=p.st.c0;have o:=p.st.c1;unfold ExpW;simp only[expR];rw[if_neg i];have r:qs.wrap (s.cost+1)=s.cost+1:=zWr;have g:4000<s.cost+1:=zOm;refine qSQ call121 func121 rfl { mt:=[4] } ?_;simp[go_sem,r,g,qO];exact rdZ ts l (payS 1 s)
def repR(ts : TS)(es : List (ByteArray × Bool))(f : Nat)(sc : List Sb)(n : Nd)(body : Bool)(s : ISt)(p : Pd) : XO := match jQ (fun k s => expR ts es f sc k body s) p.params n.kids [] s with
          | .error g=>(g,nd0,0)
          | .ok (own,g)=>expR ts es f own p.body true g
theorem expC(ts:TS)(l:List ByteArray)(es:List (ByteArray×Bool))(f:Nat)(env:IEnv)(sc:List Sb)(n:Nd)(body:Bool)(s:ISt)(p:Pre ts es (f+1) env sc n body s)(j:s.cost+1<=4000)(h47:n.op=47)(g:Pd)(o:(ts.preds.find? fun p=>decide (p.name=n.name))=some g)
  (r:qd qb 168 [eWk ts l (payS 1 s),lSb sc,eNd n,aB body] (eXO ts l (repR ts es f sc n body (payS 1 s) g))):ExpW ts l es (f+1) sc n body s:=by
 have t:=p.st.c0;unfold ExpW;simp only[expR];rw[if_pos j,zIn,if_pos h47,o];simp only;have C:qs.wrap (s.cost+1)=s.cost+1:=zWr;have i:¬ 4000<s.cost+1:=zOm;show qd qb 121 [eWk ts l s,lSb sc,eNd n,aB body] (eXO ts l (repR ts es f sc n body (payS 1 s) g));generalize repR ts es f sc n body (payS 1 s) g=Q at *
 refine qSQ call121 func121 rfl { mt:=[4] } ?_;simp[go_sem,C,i,h47,qO];refine qc.pure r (wkX ts l (payS 1 s) sc n body) ?_;simp[go_sem,qO];exact .hf _ (XC ts l Q)
theorem replW(ts:TS)(h:okTS ts)(l:List ByteArray)(es:List (ByteArray×Bool))(ag:Free ts es)(hb:∀ p,p∈ts.preds->WfN p.body/\js ts p.body)(f:Nat)(ih:∀ env sc n body s,Pre ts es f env sc n body s->ExpW ts l es f sc n body s)(env:IEnv)(sc:List Sb)(n:Nd)(body:Bool)(s:ISt)(p:Pre ts es f env sc n body s)(h47:n.op=47)
  (R:Pd) (hp:(ts.preds.find? fun p=>decide (p.name=n.name))=some R) (ax:R.params.length=n.kids.length):qd qb 168 [eWk ts l s,lSb sc,eNd n,aB body] (eXO ts l (repR ts es f sc n body s R)):=by
 have a7:=List.mem_of_find?_eq_some hp;have az:=(h.pl R a7).1;have b0:=h.np;obtain⟨i,hi,a1,ah⟩:∃ i,∃ hi:i<ts.preds.length,ts.preds[i]=R/\zb (ckR ts ts.preds.length) n.name=some i:=by
  cases hc:zb (ckR ts ts.preds.length) n.name with
  |none =>
   unfold zb at hc;rw[List.findIdx?_eq_none_iff]at hc;have:=hc R (by show R∈ts.preds.take ts.preds.length;rw[qX];exact a7);have h2:=List.find?_some hp;rw[h2]at this;cases this
  |some i =>
   obtain⟨h1,h2⟩:=Qy (VI h (qn _)) hc;have h2:i<ts.preds.length:=h2;have h3:=PF.nA hc h2;have h3:(ts.preds.find? fun p=>decide (p.name=n.name))=some ts.preds[i]:=h3;rw[hp]at h3;exact⟨i,h2,(Option.some.inj h3).symm,rfl⟩
 have cp:=Yy (ckR ts ts.preds.length) (VI h (qn _)) n.name;rw[ah]at cp;have C:=JW;have a8:¬(i:Int)<0:=zOm;obtain⟨E',hE⟩:∃ E':Nd->ISt->XO,E'=fun k s=>expR ts es f sc k body s:=⟨_,rfl⟩
 obtain⟨a5,a6⟩:∃ a5,a5=repR ts es f sc n body s R:=⟨_,rfl⟩;have ak:∀ k,k∈n.kids->∀ o,StOk (qp ts es) o->s.cost<=o.cost->qd qb 121 [eWk ts l o,lSb sc,eNd k,aB body] (eXO ts l (E' k o)):=fun k hk o I a8=>by
  rw[hE];exact ih env sc k body o ⟨zW1 p.fu,I,p.en,p.wf.kid hk,p.cl.kid hk,p.so,zW1 p.le⟩
 have al:∀ k,k∈n.kids->∀ o,StOk (qp ts es) o->s.cost<=o.cost->4000<(E' k o).1.cost\/(¬ 4000<(E' k o).1.cost/\Gos (qp ts es) o (E' k o).1 (E' k o).2.2):=fun k hk o I a8=>by
  have ho:=Zs ts es ag hb f env sc k body o (zW1 p.fu) I p.en (p.wf.kid hk) (p.cl.kid hk) p.so;have an:E' k o=expR ts es f sc k body o:=by rw[hE]
  rw[an];cases hx:expI ts es f env k body o with
  |error d=>rw[hx]at ho;exact .inl ho.1
  |ok r =>
   obtain⟨⟨m,y⟩,t⟩:=r;rw[hx]at ho;obtain⟨e1,e2,e3⟩:=ho;have g:=j7 ts ag f I p.en hx;rw[e2,e3];exact .inr ⟨zW1 g.c1,g⟩
 have ao:∀ t,jQ E' R.params n.kids [] s = .error t->a5=(t,nd0,0):=fun t ht=>by
  rw[a6];unfold repR;rw[<-hE,ht]
 have aq:∀ own t O,jQ E' R.params n.kids [] s = .ok (own,t)->StOk (qp ts es) t->s.cost<=t.cost->qW O->(∀ nm,vA nm own=getK nm O)->(∀ e,e∈own->0<=e.2.size/\e.2.size<=4000)->own.length<=8->qd qb 121 [eWk ts l t,lSb own,eNd R.body,aB true] (eXO ts l a5):=fun own t O ht I a8 hO a9 aa h8=>by
  have e:a5=expR ts es f own R.body true t:=by rw[a6];unfold repR;rw[<-hE,ht]
  rw[e];have b1:=I.c0;exact ih O own R.body true t ⟨zW1 p.fu,I,hO,(hb R a7).1,(hb R a7).2,⟨a9,fun h=>absurd h zSp,aa⟩,zOm⟩
 rw[<-a6];have ai:=p.st;clear a6 hE ih;refine qSQ call168 func168 rfl { mt:=[4] } ?_;simp[go_sem,qO];refine qc.pure cp (.zk (zn ts) (.zs (.zs .nil))) ?_;simp[go_sem,qO,idxO,a8];refine qh.upK n.kids.length (fun k st=>∃(o:ISt) (L:List Sb) (O:IEnv),st.tm 1=lSb sc/\st.tm 3=aB body/\st.tm 4 = .ptr 0 0/\st.tm 6 = .ip (cNd n)/\st.tm 8 = .ptr 1 0/\st.tm 9 = .ptr 2 0/\st.tm 12=aI i/\st.tm 14=aI k/\st.mu[0]?=some (.arr (cWk ts l o))/\st.mu[1]?=some (.arr zWc)/\st.mu[2]?=some (.arr [aI 0,aS ⟨#[]⟩,aI 0,.lst true [],aI 0])/\OwnF 3 st.mu 9 (st.tm 13) (L.map cSb)/\jQ E' R.params n.kids [] s=jQ E' (R.params.drop k) (n.kids.drop k) L o/\StOk (qp ts es) o/\s.cost<=o.cost/\qW O/\(∀ nm,vA nm L=getK nm O)/\(∀ e,e∈L->0<=e.2.size/\e.2.size<=4000)/\L.length=k) ?_ ?_
 .exact ⟨s,[],[],zSi,zSi,zSi,zSi,zSi,zSi,zSi,zSi,zSi,zSi,zSi,by simp[go_sem];exact OwnF.nil zSp,rfl,ai,jv _,.nil,fun nm=>rfl,fun e he=>absurd he qD,rfl⟩
 rintro k st hk ⟨o,L,O,e1,e3,e4,e6,e8,e9,a0,a2,m0,m1,m2,ho,hI,I,ab,hO,a9,aa,ar⟩;generalize a3:st.tm 13=P at *
 obtain⟨rr,T⟩:=Xu m0 m1 m2;have b2:st.mu.length=rr.length+3:=by rw[T];rfl
 have ay:n.kids.length<=8:=zOm;by_cases J:k<n.kids.length
 .have a4:k<R.params.length:=by omega
  have w1:=zWk k;rw[zD J,zD a4]at hI;simp only[jQ]at hI;have x1:=ak n.kids[k] (qt J) o I ab;have x2:=al n.kids[k] (qt J) o I ab;generalize E' n.kids[k] o=q at *
  clear m0 m1 m2;simp[go_sem,e1,e3,e4,e6,e8,e9,a0,a2,a3,T,J,a4,hi,a1,C,qO];refine qg.seg [0,1,2,3,4,5,6,7,8,9,10,11,12,17,13,14,15,16] [(0,0,[]),(1,0,[]),(2,0,[]),(3,0,[]),(4,0,[]),(5,0,[]),(6,0,[]),(7,0,[]),(8,1,[]),(9,0,[]),(10,0,[]),(11,0,[]),(12,0,[]),(17,0,[]),(13,2,[0,3,6]),(14,2,[0,3,6]),(15,1,[]),(16,1,[])] zKr zKr zSi ?_;simp[go_sem,e1,e3,e4,e6,e8,e9,a0,a2,a3,T,J,a4,hi,a1,C,qO];refine qc.pure x1 (wkX ts l o sc n.kids[k] body) ?_;simp[go_sem,e1,e3,e4,e6,e8,e9,a0,a2,a3,T,J,a4,hi,a1,C,qO];by_cases U:4000<q.1.cost
  .have au:a5=(q.1,nd0,0):=ao _ (by rw[hI,if_pos U])
   simp[go_sem,e1,e3,e4,e6,e8,e9,a0,a2,a3,T,J,a4,hi,a1,C,qO,U];rw[au];exact rdZ ts l q.1
  .rcases x2 with x2|⟨_,g⟩
   .exact absurd x2 U
   rw[if_neg U]at hI;simp[go_sem,e1,e3,e4,e6,e8,e9,a0,a2,a3,T,J,a4,hi,a1,C,qO,U];refine qg.intro zKr ?_;simp[go_sem,e1,e3,e4,e6,e8,e9,a0,a2,a3,T,J,a4,hi,a1,C,qO,U];obtain⟨g1,g2,g3⟩:=VN g I;have gz:=g.z0;have hy:(AV.sc (.string R.params[k].1) :: AV.sc (.string ⟨#[]⟩) :: AV.sc (.bool true) :: (cNd q.2.1++[AV.sc (.int .i64 q.2.2)]))=cSb (R.params[k].1,⟨some q.2.1,q.2.2,⟨#[]⟩⟩):=zSi;rw[hy];generalize ad:(R.params[k].1,(⟨some q.2.1,q.2.2,⟨#[]⟩⟩:IV))=en at *
   refine mD (lo:=3) (xs:=L) (y:=en) ?_ zOm ?_
   .have h1:OwnF 3 (st.mu++[Cell.arr (cWk ts l q.1),Cell.arr (cNd q.2.1)]) 9 P (L.map cSb):=YD.gD ho zSo fun i _ hi=>qI hi
    rw[T]at h1;have h2:=OwnF.set (i:=0) (c:=Cell.arr (cWk ts l q.1)) h1 zOm;simpa using h2
   intro b3 b4 ae af;have n0:=af 0 zOm;have n1:=af 1 zOm;have n2:=af 2 zOm;simp at n0 n1 n2;obtain⟨r2,aj⟩:=Xu n0 n1 n2;simp[go_sem,e1,e3,e4,e6,e8,e9,a0,a2,a3,aj,J,a4,hi,a1,C,qO,U,w1];refine Keep.mk' ⟨q.1,L++[en],setK en.1 en.2 O,zS1 e1,zS1 e3,zS1 e4,zS1 e6,zS1 e8,zS1 e9,zS1 a0,zSi,zSi,zSi,zSi,?_,?_,g1,?_,?_,?_,?_,?_⟩
   .have h2:=OwnF.set (i:=0) (c:=Cell.arr (cWk ts l q.1)) ae zOm
    simp[go_sem];rw[aj]at ae;simpa using ae
   .rw [hI,<-ad]
   .omega
   .rw [<-ad];exact hO.set ⟨gz,g3⟩
   .intro nm
    rw[VM,v6,a9];by_cases e:en.1=nm
    .rw [if_pos e,if_pos e.symm]
    .rw [if_neg e,if_neg fun x=>e x.symm]
   .intro e he
    rcases qC.1 he with he|he
    .exact aa e he
    .rw [qN]at he;subst he;rw[<-ad];exact⟨gz,g3⟩
   .simp [ar]
 .simp [go_sem,e1,e3,e4,e6,e8,e9,a0,a2,a3,T,J,hi,a1,C,qO]
  refine qg.seg [0,1,2,3,4,5,6,7,8,9,10,11,12,15,13,14] [(0,0,[]),(1,0,[]),(2,0,[]),(3,0,[]),(4,0,[]),(5,0,[]),(6,0,[]),(7,0,[]),(8,0,[]),(9,1,[]),(10,0,[]),(11,0,[]),(12,0,[]),(15,0,[]),(13,1,[]),(14,1,[])] zKr zKr zSi ?_;simp[go_sem,e1,e3,e4,e6,e8,e9,a0,a2,a3,T,J,hi,a1,C,qO];refine qc.eff0 (qL.freeze (args1:=[eWk ts l o,lSb L,eNd R.body,aB true]) (fun j=>decide (3<=j)) ⟨.inl rfl,.inr ?_,.inl rfl,.inl rfl,trivial⟩ (qd.toSound _ (aq L o O ?_ I ab hO a9 aa zOm) (wkX ts l o L R.body true))) ?_ ?_
  .have h1:=Y13.qeY ho (Zt L).ok fun r hr c hc=>by
    obtain⟨x,_,rfl⟩:=qk.1 hr;exact VO x c hc
   rw[T]at h1;exact h1
  .rw [hI,YN zOm,YN zOm];rfl
  .rintro r m ⟨hv,rfl⟩
   cases hv;simp[go_sem,cutM,qO,e1,e3,e4,e6,e8,e9];exact .hf _ (XC ts l a5)
  .rintro r m ⟨hv,rfl⟩
   cases hv
end
end QZ
end Go.Proofs.YtahmfpfdgiemoaaGreatDoor
set_option maxHeartbeats 1000000
namespace Go.Ev
theorem awp.cut{P:qf}{pl:Pol}{l j g C:vn}{i:Nat}{Q:qM->St->Prop}{st:St}(J:St->Prop)
  (h:awp P pl l (seqQ (awp P pl j (seqQ (Keep J .mk) (jW i (seqQ (awp P pl C Q) Q)))) Q) st)
  (o:∀ st,J st->awp P pl g (jW i (seqQ (awp P pl C Q) Q)) st):awp P pl (.seq l (.seq (.block i (.seq j g)) C)) Q st:=by
 refine awp.mono l (Q:=seqQ (awp P pl j (seqQ (Keep J .mk) (jW i (seqQ (awp P pl C Q) Q)))) Q) h (fun e st h=>?_);cases e with
 |normal =>
  refine awp.mono j (Q:=seqQ (Keep J .mk) (jW i (seqQ (awp P pl C Q) Q))) h (fun e st h=>?_);cases e with
  |normal=>exact o st h
  |exit i=>exact h
  |ret=>exact h
  |pan v=>exact h
 |exit i=>exact h
 |ret=>exact h
 |pan v=>exact h
theorem qkH{K:St->Prop}(J:St->Prop){st:St}(h:FzQ (fun _=>J) (.exit 0) st)(k:∀ st2,J st2->K st2):FzQ (fun _ st=>K st) (.exit 0) st:=by
 obtain⟨g,f,q,j⟩:=h;exact⟨g,f,q,k _ j⟩
end Go.Ev
namespace Go.Proofs.YtahmfpfdgiemoaaGreatDoor
open Go Go.Ev Go.Proofs Tryz
namespace RA
open YF Y9 Y1 YX YA YB YC P1 P2 PA QD QE QK QX QY QZ
section
variable {av:AV}{es:List (ByteArray×Bool)}{l:List ByteArray}
theorem four{C:Type}{l:List C}{a b c d:C}(g:l[0]?=some a)(i:l[1]?=some b)(j:l[2]?=some c)(o:l[3]?=some d):∃ r,l=a :: b :: c :: d :: r:=by
 match l,g,i,j,o with
 |_ :: _ :: _ :: _ :: r,g,i,j,o =>
  simp at g i j o;exact⟨r,by rw[g,i,j,o]⟩
def resK(n:Nd)(g:List Nd)(z:Int):Except ISt ((ByteArray×List Nd×Int)×ISt)->XO
 | .error s=>(s,nd0,0)
 | .ok ((t,ks,m),s)=>(s,.mk n.op t n.n (g++ks) n.pos,z+m)
structure AtK (ts:TS) (l:List ByteArray) (es:List (ByteArray×Bool)) (n:Nd) (body:Bool) (s:ISt) (k:Nat) (sc2:List Sb) (env2:IEnv) (nm2:ByteArray) (s3:ISt) (acc:List Nd) (av:AV) (z:Int) (st:St):Prop where
 e3:st.tm 3=aB body
 e4:st.tm 4 = .ptr 0 0
 e6:st.tm 6 = .ip (cNd n)
 e8:st.tm 8 = .ptr 1 0
 e9:st.tm 9 = .ptr 2 0
 e11:st.tm 11 = .ptr 3 0
 e12:st.tm 12=aI z
 e13:st.tm 13=aI k
 m0:st.mu[0]?=some (.arr (cWk ts l s3))
 m1:st.mu[1]?=some (.arr zWc)
 m2:st.mu[2]?=some (.arr [aI 0,aS ⟨#[]⟩,aI 0,.lst true [],aI 0])
 m3:st.mu[3]?=some (.arr [aI n.op,aS nm2,aI n.n,av,aI n.pos])
 ho:OwnF 4 st.mu 5 av (acc.map cNd)
 so:ScOf ts body sc2 env2
 en:qW env2
 al:acc.length=k
 l0:0<=s3.last
 c0:s.cost+1<=s3.cost
 c1:s3.cost<=4000
 z1:0<=z
 z2:z<=1+4000*(k:Int)
theorem AtK.same{ts:TS}{n:Nd}{body:Bool}{s:ISt}{k:Nat}{j:List Sb}{i:IEnv}{o:ByteArray}{I:ISt}{p:List Nd}{z:Int}{st g:St}(A:AtK ts l es n body s k j i o I p av z st)
  (J:g.tm 3=aB body) (P:g.tm 4 = .ptr 0 0) (R:g.tm 6 = .ip (cNd n)) (T:g.tm 8 = .ptr 1 0) (U:g.tm 9 = .ptr 2 0) (r:g.tm 11 = .ptr 3 0) (t:g.tm 12=aI z) (C:g.tm 13=aI k) (em:g.mu=st.mu):AtK ts l es n body s k j i o I p av z g:=
 ⟨J,P,R,T,U,r,t,C,by rw[em];exact A.m0,by rw[em];exact A.m1,by rw[em];exact A.m2,by rw[em];exact A.m3,by rw[em];exact A.ho,A.so,A.en,A.al,A.l0,A.c0,A.c1,A.z1,A.z2⟩
theorem mE{g lo sz:Nat}{mu l:Mu}{xs:List (List AV)}(h:OwnF g mu sz av xs)(i:∀ b s o q,av = .sl b s o q->b<lo)(r:g<=l.length)(t:∀ j,g<=j->j<lo->l[j]?=mu[j]?):OwnF g l sz av xs:=by
 obtain⟨C,p,_⟩:=h;refine⟨?_,p,r⟩;rcases C with rfl|⟨b,rfl,I⟩
 .exact .inl rfl
 .exact .inr ⟨b,rfl,by rw[t b (p b _ _ _ rfl) (i b _ _ _ rfl)];exact I⟩
theorem AtK.keep{ts:TS}{n:Nd}{body:Bool}{s:ISt}{k:Nat}{p:List Sb}{i:IEnv}{r:ByteArray}{T:ISt}{t:List Nd}{z:Int}{st g:St}(A:AtK ts l es n body s k p i r T t av z st)
  (U:g.tm 3=aB body) (e4:g.tm 4 = .ptr 0 0) (e6:g.tm 6 = .ip (cNd n)) (e8:g.tm 8 = .ptr 1 0) (e9:g.tm 9 = .ptr 2 0) (I:g.tm 11 = .ptr 3 0) (J:g.tm 12=aI z) (P:g.tm 13=aI k) (lo:Nat) (h4:4<=lo) (R:∀ b s o q,av = .sl b s o q->b<lo) (hl:4<=g.mu.length) (C:∀ j,j<lo->g.mu[j]?=st.mu[j]?):AtK ts l es n body s k p i r T t av z g:=
 ⟨U,e4,e6,e8,e9,I,J,P,by rw[C 0 zOm];exact A.m0,by rw[C 1 zOm];exact A.m1,by rw[C 2 zOm];exact A.m2,by rw[C 3 zOm];exact A.m3,mE A.ho R hl (fun j _=>C j),A.so,A.en,A.al,A.l0,A.c0,A.c1,A.z1,A.z2⟩
theorem qkI{mu:Mu}{lo:Nat}{s x:AV}{xs ys:List Sb}{K:AV->Mu->Prop}(g:OwnF lo mu 9 s (xs.map cSb))(j:qH mu x=some (ys.map cSb))(t:xs.length+ys.length<=100000)(o:∀ av l,OwnF lo l 9 av ((xs++ys).map cSb)->(∀ i,i<lo->l[i]?=mu[i]?)->K av l) :
  qA qb mu #[251,251] s x K:=by
 refine qA.ownF (lo:=lo) (e:=258) (sz:=9) (bt:=112) (zv := .agg [aS ⟨#[]⟩,aS ⟨#[]⟩,aB false,aI 0,aS ⟨#[]⟩,aI 0,.lst true [],aI 0,aI 0]) (xs:=xs.map cSb) (ys:=ys.map cSb) zSi zSi zSi rfl rfl zOm zOm g j (Zt xs) (Zt ys) zSo ?_;intro av l h r;exact o av l (by rw[zd];exact h) r
theorem expK(ts:TS)(h:okTS ts)(l:List ByteArray)(es:List (ByteArray×Bool))(t:Tn l es)(hl:l.length<=400000)(hF:qp ts es<=200000)(b4:Free ts es)(hb:∀ p,p∈ts.preds->WfN p.body/\js ts p.body)(f:Nat)(ih:∀ env sc n body s,Pre ts es f env sc n body s->ExpW ts l es f sc n body s)
  (env:IEnv) (sc:List Sb) (n:Nd) (body:Bool) (s:ISt) (p:Pre ts es (f+1) env sc n body s) (hc:s.cost+1<=4000) (h1:¬n.op=1) (h47:¬n.op=47):ExpW ts l es (f+1) sc n body s:=by
 have di:=p.st.c0;have dj:=p.st.c1;have dk:=p.wf.len;obtain⟨E',hE⟩:∃ E':List Sb->Nd->ISt->XO,E'=fun sc k s=>expR ts es f sc k body s:=⟨_,rfl⟩
 obtain⟨R',bg⟩:∃ R':List Sb->ByteArray->ISt->(List Sb×ByteArray)×ISt,R'=fun sc nm s=>renR ts es sc nm body s:=⟨_,rfl⟩
 have bh:∀ k,k∈n.kids->∀ T I sk,StOk (qp ts es) sk->s.cost+1<=sk.cost->qW T->ScOf ts body I T->(I.length:Int)<=sk.cost+8->qd qb 121 [eWk ts l sk,lSb I,eNd k,aB body] (eXO ts l (E' I k sk)):=fun k hk T I sk b5 cj b6 bi bj=>by
  rw[hE];exact ih T I k body sk ⟨zW1 p.fu,b5,b6,p.wf.kid hk,p.cl.kid hk,bi,bj⟩
 have bk:∀ k,k∈n.kids->∀ T I sk,StOk (qp ts es) sk->s.cost+1<=sk.cost->qW T->ScOf ts body I T->4000<(E' I k sk).1.cost\/(¬ 4000<(E' I k sk).1.cost/\Gos (qp ts es) sk (E' I k sk).1 (E' I k sk).2.2):=fun k hk T I sk b5 cj b6 bi=>by
  have ho:=Zs ts es b4 hb f T I k body sk (zW1 p.fu) b5 b6 (p.wf.kid hk) (p.cl.kid hk) bi;have ck:E' I k sk=expR ts es f I k body sk:=by rw[hE]
  rw[ck];cases hx:expI ts es f T k body sk with
  |error d=>rw[hx]at ho;exact .inl ho.1
  |ok r =>
   obtain⟨⟨m,y⟩,t⟩:=r;rw[hx]at ho;obtain⟨e1,e2,e3⟩:=ho;have g:=j7 ts b4 f b5 b6 hx;rw[e2,e3];exact .inr ⟨zW1 g.c1,g⟩
 obtain⟨ax,b9⟩:∃ ax,ax=resK n [] 1 (j8 E' R' (binB n.op) 0 sc n.name n.kids (payS 1 s)):=⟨_,rfl⟩;have bb:expR ts es (f+1) sc n body s=ax:=by
  simp only[expR];rw[if_pos hc,if_neg h1,if_neg h47,b9,hE,bg];cases j8 (fun sc k s=>expR ts es f sc k body s) (fun sc nm s=>renR ts es sc nm body s) (binB n.op) 0 sc n.name n.kids (payS 1 s) with
  |error e=>rfl
  |ok r=>rfl
 unfold ExpW;rw[bb];clear hE bb ih;have bc:StOk (qp ts es) (payS 1 s):=(w9 p.st zOm hc).ok p.st;have w1:qs.wrap (s.cost+1)=s.cost+1:=zWr;have bj:¬ 4000<s.cost+1:=zOm;have cm:=yu n;refine qSQ call121 func121 rfl { mt:=[4] } ?_;simp[go_sem,w1,bj,h1,h47,cm];refine qh.upK n.kids.length (fun k st=>∃(full:Bool) (I:List Sb) (T:IEnv) (a9:ByteArray) (s2:ISt) (ad:List Nd) (P:AV) (z:Int),st.tm 1 = .lst full (I.map cSb)/\AtK ts l es n body s k I T a9 s2 ad P z st/\(I.length:Int)+(if k<=1 then 1 else 0)<=s2.cost+8/\dueN (qp ts es) (binB n.op) k<=pot (qp ts es) s2/\(k<=1->a9=n.name)/\resK n ad z (j8 E' R' (binB n.op) k I a9 (n.kids.drop k) s2)=ax) ?_ ?_
 .refine ⟨false,sc,env,n.name,payS 1 s,[],.lst true [],1,zSi,⟨zSi,zSi,by simp[go_sem,yu n],zSi,zSi,zSi,zSi,zSi,by simp[go_sem];exact⟨rfl,rfl⟩,zSi,zSi,zSi,by simp[go_sem];exact OwnF.nil zSp,p.so,p.en,rfl,bc.l0,by show _<=s.cost+1;omega,bc.c1,zOm,zOm⟩,by show _<=s.cost+1+8;have:=p.le;simp;omega,?_,fun _=>rfl,b9.symm⟩
  rw[Zj];have:=p.st.p;unfold dueN;split<;>omega
 .rintro k st hk ⟨full,I,T,a9,s2,ad,P,z,J,A,af,an,b7,hI⟩
  obtain⟨rr,U⟩:=four A.m0 A.m1 A.m2 A.m3;have e3:=A.e3;have e4:=A.e4;have e6:=A.e6;have e8:=A.e8;have e9:=A.e9;have a0:=A.e11;have a5:=A.e12;have a6:=A.e13;have ai:=A.ho.one;have aj:=A.ho.cells;by_cases a7:k<n.kids.length
  .have w2:=zWk k
   rw[zD a7]at hI;simp only[j8]at hI;refine awp.cut (fun st=>∃(full:Bool) (lo:Nat) (sl:AV) (ab:List Sb) (ag:IEnv) (ar:ByteArray) (s3:ISt) (P:AV),(if binB n.op=true/\k=1 then R' I a9 s2 else ((I,a9),s2))=((ab,ar),s3)/\st.tm 1=sl/\(sl = .lst full (ab.map cSb)\/(OwnF lo st.mu 9 sl (ab.map cSb)/\(∀ b s o q,P = .sl b s o q->b<lo)/\4<=lo))/\AtK ts l es n body s k ab ag ar s3 ad P z st/\(ab.length:Int)+(if k+1<=1 then 1 else 0)<=s3.cost+8/\dueN (qp ts es) (binB n.op) (k+1)<=pot (qp ts es) s3/\(k+1<=1->ar=n.name)) ?_ ?_
   .clear bh bk
    by_cases aq:k=1
    .subst aq
     have be:=b7 (qn _);have df:st.mu.length=rr.length+4:=by rw[U];rfl
     have az:∀ b s o q,P = .sl b s o q->b<rr.length+4:=fun b s o q e=>by
      rcases A.ho.1 with h|⟨c,h,hc⟩
      .rw [h]at e;cases e
      .rw [h]at e;cases e;have:=(qe.1 hc).1;omega
     have aa:(1:Int)<n.kids.length:=zOm;have cp:=A.c0;have b8:=A.l0;have cq:=A.c1;by_cases ak:binB n.op=true
     .have a8:n.op=15\/n.op=45\/n.op=46:=by simpa[binB,or_assoc] using ak
      have dm:=h.ns;have dn:=h.nf;have dp:qp ts es<=l.length+40:=by have:=t.len;unfold qp;omega
      have cr:okNm ts:=⟨h.sl,zOm,zOm,fun f hf=>zW1 (h.fl f hf)⟩;have cn:=Xg ts cr n.name;have aw:=Xf ts n.name;have cs:(named ts n.name).2=(means ts n.name).length:=by rw[Xs h]
      rw[cs]at cn;generalize (named ts n.name).1=C at *
      have bu:StOk (qp ts es) s2:=⟨b8,zOm,cq,zW1 (Vn (qp ts es) (binB n.op) 1)⟩;have ct:=bu.last;have cf:=qkD ts h l es t hl s2 ⟨b8,zOm⟩ (b4 s2.last b8);by_cases ae:body=true\/means ts n.name≠[]
      .have hq:(if binB n.op=true/\1=1 then R' I a9 s2 else ((I,a9),s2))=((I++[(n.name,⟨none,0,vN (zu ts es (qp ts es) s2.last)⟩)],vN (zu ts es (qp ts es) s2.last)),⟨zu ts es (qp ts es) s2.last,s2.cost⟩):=by
        rw[if_pos ⟨ak,rfl⟩,bg,be];show renR ts es I n.name body s2=_;unfold renR;rw[if_pos ae]
       have cu:body=true\/(body=false/\0<(means ts n.name).length):=by
        cases body with
        |true=>exact .inl rfl
        |false=>exact .inr ⟨rfl,VR.2 (ae.resolve_left zSp)⟩
       clear hI;have bv:renR ts es I n.name body s2=((I++[(n.name,⟨none,0,vN (zu ts es (qp ts es) s2.last)⟩)],vN (zu ts es (qp ts es) s2.last)),⟨zu ts es (qp ts es) s2.last,s2.cost⟩):=by
        unfold renR;rw[if_pos ae]
       obtain⟨a1,a2,a3⟩:=mA (es:=es) (nm:=n.name) (s:=s2) A.en A.so;have a4:=Vl (ts:=ts) (es:=es) (nm:=n.name) (body:=body) (s:=s2) A.en;obtain⟨b1,b2,b3⟩:=Vm (body:=body) (nm:=n.name) (env:=T) b4 b8;rw[bv]at a1 a3;rw[<-a3]at b1 b2;simp only at b1 b2 a1;have bm:dueN (qp ts es) (binB n.op) 1=(qp ts es:Int):=by unfold dueN;rw[if_pos ⟨ak,zOm⟩]
       have bn:dueN (qp ts es) (binB n.op) 2=0:=by unfold dueN;rw[zIn]
       rw[bm]at an;unfold pot at an;generalize (renI ts es T n.name body s2).1.1=ag at *
       clear a2 a3 b3;generalize dq:zu ts es (qp ts es) s2.last=R at *
       rcases a8 with a8|a8|a8<;>rcases cu with au|⟨au,cv⟩
       all_goals
        simp[go_sem,e3,e4,e6,e8,e9,a0,a5,a6,J,U,a7,aa,a8,qO];refine qc.pure cn (.zk (zn ts) (.zs .nil)) ?_;simp[go_sem,e3,e4,e6,e8,e9,a0,a5,a6,J,U,a7,aa,a8,qO,aw.len];rw[if_pos aw.one];generalize putCells _ 0 C=PC
        first
        |simp[go_sem,e3,e4,e6,e8,e9,a0,a5,a6,J,U,a7,aa,a8,qO,au,cv]
        |simp[go_sem,e3,e4,e6,e8,e9,a0,a5,a6,J,U,a7,aa,a8,qO,au]
        refine qc.pure cf (.zk (uj ts l s2) .nil) ?_;simp[go_sem,e3,e4,e6,e8,e9,a0,a5,a6,J,U,a7,aa,a8,qO,au];refine qg.move 2 2 zKr zKr ?_ ?_
        all_goals
         simp[go_sem,e3,e4,e6,e8,e9,a0,a5,a6,J,U,a7,aa,a8,qO,au];refine qkI (lo:=rr.length+6) (xs:=[]) (ys:=I) (OwnF.nil zSp) (by simp[qH]) (by simp at af⊢;omega) ?_;intro dr ds cw aq;simp[go_sem,e3,e4,e6,e8,e9,a0,a5,a6,J,U,a7,aa,a8,qO,au];refine mD (y:=(n.name,⟨none,0,vN R⟩)) cw (by simp at af⊢;omega) ?_;intro cx dt ay ah;have n0:=(ah 0 zOm).trans (aq 0 zOm);have n1:=(ah 1 zOm).trans (aq 1 zOm);have n2:=(ah 2 zOm).trans (aq 2 zOm);have n3:=(ah 3 zOm).trans (aq 3 zOm);simp at n0 n1 n2 n3;simp[go_sem,e3,e4,e6,e8,e9,a0,a5,a6,J,a7,aa,a8,qO,au];refine Keep.mk' ⟨false,rr.length+6,cx,I++[(n.name,⟨none,0,vN R⟩)],ag,vN R,⟨R,s2.cost⟩,P,hq,zSi,.inr ⟨zVs ay,?_,zOm⟩,⟨zS2 e3 au,zS1 e4,zS1 e6,zS1 e8,zS1 e9,zS1 a0,zS1 a5,zS1 a6,zS1 n0,zS1 n1,zS1 n2,zS2 n3 a8,?_,a1,a4,A.al,b1,A.c0,A.c1,A.z1,A.z2⟩,?_,?_,fun h=>zOm⟩
         .intro b s o q e;have:=az b s o q e;omega
         .simp only[zi]
          refine mE A.ho az (zW1 ay.2.2) fun j h4 hj=>?_
          obtain⟨i,rfl⟩:∃ i,j=i+4:=⟨j-4,zOm⟩;rw[ah _ zOm,aq _ zOm,U];simp only[vb];rw[zGa]
         .simp at af⊢;omega
         .rw [bn];unfold pot;simp only;omega
      .have bw:body=false:=by cases body with
        |true=>exact absurd (.inl rfl) ae
        |false=>rfl
       have cy:means ts n.name=[]:=Classical.byContradiction fun x=>ae (.inr x)
       have hq:(if binB n.op=true/\1=1 then R' I a9 s2 else ((I,a9),s2))=((I,a9),s2):=by
        rw[if_pos ⟨ak,rfl⟩,bg,be];show renR ts es I n.name body s2=_;unfold renR;rw[if_neg ae]
       rcases a8 with a8|a8|a8
       all_goals
        simp[go_sem,e3,e4,e6,e8,e9,a0,a5,a6,J,U,a7,aa,a8,qO];refine qc.pure cn (.zk (zn ts) (.zs .nil)) ?_;simp[go_sem,e3,e4,e6,e8,e9,a0,a5,a6,J,U,a7,aa,a8,qO,aw.len];rw[if_pos aw.one];generalize putCells _ 0 C=PC;simp[go_sem,e3,e4,e6,e8,e9,a0,a5,a6,J,U,a7,aa,a8,qO,bw,cy];refine Keep.mk' ⟨full,rr.length+5,.lst full (I.map cSb),I,T,a9,s2,P,hq,zS1 J,.inl rfl,A.keep (zS2 e3 bw) (zS1 e4) (zS1 e6) (zS1 e8) (zS1 e9) (zS1 a0) (zS1 a5) (zS1 a6) (rr.length+4) zOm ?_ zSi (fun j hj=>?_),?_,?_,fun h=>zOm⟩
        .exact az
        .simp only[zi]
         rw[U]
         match j,hj with
         | 0,_=>rfl
         | 1,_=>rfl
         | 2,_=>rfl
         | 3,_=>simp[a8]
         |i+4,hj =>
          simp only[vb];rw[zGa]
        .simp at af⊢;omega
        .have bm:dueN (qp ts es) (binB n.op) 1=(qp ts es:Int):=by unfold dueN;rw[if_pos ⟨ak,zOm⟩]
         have bn:dueN (qp ts es) (binB n.op) 2=0:=by unfold dueN;rw[zIn]
         rw[bm]at an;rw[bn];omega
     .have ca:¬n.op=15:=fun e=>ak (by simp[binB,e])
      have cb:¬n.op=45:=fun e=>ak (by simp[binB,e])
      have cc:¬n.op=46:=fun e=>ak (by simp[binB,e])
      simp[go_sem,e3,e4,e6,e8,e9,a0,a5,a6,J,U,a7,aa,ca,cb,cc,qO];refine Keep.mk' ⟨full,4,.lst full (I.map cSb),I,T,a9,s2,P,by rw[if_neg (fun x=>ak x.1)],zS1 J,.inl rfl,A.same (zS1 e3) (zS1 e4) (zS1 e6) (zS1 e8) (zS1 e9) (zS1 a0) (zS1 a5) (zS1 a6) (zS1 U),?_,?_,fun h=>zOm⟩
      .simp at af⊢;omega
      .rw [<-gB (fun x=>ak x.1)];exact an
    .have cd:¬(k:Int)=1:=by omega
     simp[go_sem,e3,e4,e6,e8,e9,a0,a5,a6,J,U,a7,cd,qO];refine Keep.mk' ⟨full,4,.lst full (I.map cSb),I,T,a9,s2,P,by rw[if_neg (fun x=>aq x.2)],zS1 J,.inl rfl,A.same (zS1 e3) (zS1 e4) (zS1 e6) (zS1 e8) (zS1 e9) (zS1 a0) (zS1 a5) (zS1 a6) (zS1 U),?_,?_,fun h=>b7 zOm⟩
     .split at af<;>split<;>omega
     .rw [<-gB (fun x=>aq x.2)];exact an
   .rintro st ⟨full,lo,sl,ab,ag,ar,s3,P,hq,J,bo,A,af,an,b7⟩
    rw[hq]at hI;simp only at hI;have b0:StOk (qp ts es) s3:=⟨A.l0,zW1 A.c0,A.c1,zW1 (Vn (qp ts es) (binB n.op) (k+1))⟩;have bq:(ab.length:Int)<=s3.cost+8:=by split at af<;>omega
    have x1:=bh n.kids[k] (qt a7) ag ab s3 b0 A.c0 A.en A.so bq;have x2:=bk n.kids[k] (qt a7) ag ab s3 b0 A.c0 A.en A.so;generalize E' ab n.kids[k] s3=q at *
    clear bh bk;rw[qcU,qcV];refine qg.fz (qkH (fun st=>∃ full,st.tm 1 = .lst full (ab.map cSb)/\AtK ts l es n body s k ab ag ar s3 ad P z st) ?_ ?_)
    .rcases bo with bo|⟨da,az,h4⟩
     .exact FzQ.skip ⟨full,by rw[J,bo],A⟩
     .refine FzQ.own (d:=1) J da (Zt ab) (fun r hr c hc=>by obtain⟨x,_,rfl⟩:=qk.1 hr;exact VO x c hc) ?_
      intro db br du ah;refine⟨br,zSi,A.keep (by simp[go_sem,A.e3]) (by simp[go_sem,A.e4]) (by simp[go_sem,A.e6]) (by simp[go_sem,A.e8]) (by simp[go_sem,A.e9]) (by simp[go_sem,A.e11]) (by simp[go_sem,A.e12]) (by simp[go_sem,A.e13]) lo h4 az ?_ ?_⟩
      .have:=A.ho.2.2;simp only[zi];omega
      .intro j hj;simp only[zi];exact ah j hj
    rintro st ⟨full,J,A⟩;obtain⟨rr,U⟩:=four A.m0 A.m1 A.m2 A.m3;have e3:=A.e3;have e4:=A.e4;have e6:=A.e6;have e8:=A.e8;have e9:=A.e9;have a0:=A.e11;have a5:=A.e12;have a6:=A.e13;have ai:=A.ho.one;have aj:=A.ho.cells;refine qg.seg [0,1,2,3,4,5,6,7,8,9,10,11,12,17,13,14,15,16] [(0,0,[]),(1,0,[]),(2,0,[]),(3,0,[]),(4,0,[]),(5,0,[]),(6,0,[]),(7,0,[]),(8,1,[]),(9,0,[]),(10,0,[]),(11,0,[]),(12,0,[]),(17,0,[]),(13,2,[0,3,6]),(14,2,[0,3,6]),(15,1,[]),(16,1,[])] zKr zKr zSi ?_;simp[go_sem,e3,e4,e6,e8,e9,a0,a5,a6,J,U,a7,qO,ai,aj];refine qc.pure x1 (.zk (uj ts l s3) (.cons (WK.lst fun r hr c hc=>by
     obtain⟨x,_,rfl⟩:=qk.1 hr;exact VO x c hc) (.zk (za _) (.zs .nil)))) ?_
    simp[go_sem,e3,e4,e6,e8,e9,a0,a5,a6,J,U,a7,qO,ai,aj];by_cases ao:4000<q.1.cost
    .rw [if_pos ao]at hI
     have hI:ax=(q.1,nd0,0):=hI.symm;simp[go_sem,e3,e4,e6,e8,e9,a0,a5,a6,J,U,a7,qO,ai,aj,ao];rw[hI];exact rdZ ts l q.1
    .rcases x2 with x2|⟨_,g⟩
     .exact absurd x2 ao
     rw[if_neg ao]at hI;simp[go_sem,e3,e4,e6,e8,e9,a0,a5,a6,J,U,a7,qO,ai,aj,ao];obtain⟨g1,g2,g3⟩:=VN g b0;have gz:=g.z0;have dv:=g.cz;have dc:=g.c1;have gp:=g.p;have dw:=A.z1;have dx:=A.z2;have cp:=A.c0;have dd:=A.al;have dh:=A.ho.2.2;refine YD.appNd (lo:=4) (xs:=ad) ?_ zOm ?_
     .have h1:OwnF 4 (st.mu++[Cell.arr (cWk ts l q.1),Cell.arr (cNd q.2.1)]) 5 P (ad.map cNd):=YD.gD A.ho zSo fun i _ hi=>qI hi
      rw[U]at h1;have h2:=OwnF.set (i:=0) (c:=Cell.arr (cWk ts l q.1)) h1 zOm;simpa using h2
     intro cg db ay ah;have n0:=ah 0 zOm;have n1:=ah 1 zOm;have n2:=ah 2 zOm;have n3:=ah 3 zOm;simp at n0 n1 n2 n3;obtain⟨r2,ch⟩:=four n0 n1 n2 n3;have bs:=ay.one;have bt:=ay.cells;have w3:qs.wrap (z+q.2.2)=z+q.2.2:=zWr;simp[go_sem,e3,e4,e6,e8,e9,a0,a5,a6,J,ch,a7,qO,bs,bt,ao,w2,w3];refine Keep.mk' ⟨full,ab,ag,ar,q.1,ad++[q.2.1],cg,z+q.2.2,zS1 J,⟨zS1 e3,zS1 e4,zS1 e6,zS1 e8,zS1 e9,zS1 a0,zSi,zSi,zSi,zSi,zSi,zSi,?_,A.so,A.en,zP1 dd,g1.l0,zOm,dc,zOm,zOm⟩,zOm,zOm,b7,?_⟩
     .have h2:=OwnF.set (i:=3) (c:=Cell.arr [aI n.op,aS ar,aI n.n,cg,aI n.pos]) ay zOm
      rw[ch]at h2;simpa[go_sem] using h2
     .rw [<-hI]
      generalize j8 E' R' (binB n.op) (k+1) ab ar (List.drop (k+1) n.kids) q.1=X;cases X with
      |error e=>rfl
      |ok r =>
       obtain⟨⟨a,b,c⟩,d⟩:=r;simp[resK];omega
  .simp [go_sem,e3,e4,e6,e8,e9,a0,a5,a6,J,U,a7,qO,ai,aj]
   refine qg.seg [0,1,2,5,3,4] [(0,0,[]),(1,0,[]),(2,0,[]),(5,0,[]),(3,1,[1]),(4,1,[])] zKr zKr zSi ?_;simp[go_sem,e3,e4,e6,e8,e9,a0,a5,a6,J,U,a7,qO,ai,aj];rw[YN zOm]at hI;have hI:ax=(s2,.mk n.op a9 n.n ad n.pos,z):=by rw[<-hI];simp[j8,resK]
   rw[hI];refine .tup _ _ rfl fun k x y hx hy=>?_
   match k,hx,hy with
   | 0,hx,hy=>cases hx;cases hy;exact .hf _ (uj ts l s2)
   | 1,hx,hy =>
    cases hx;cases hy;have de:eNd (.mk n.op a9 n.n ad n.pos) = .agg [aI n.op,aS a9,aI n.n,.lst false (ad.map cNd),aI n.pos]:=by
     show AV.agg (cNd _)=_;rw[yu];rfl
    show Rd _ _ (eNd (.mk n.op a9 n.n ad n.pos));rw[de];refine .agg _ _ rfl fun k x y hx hy=>?_
    match k,hx,hy with
    | 0,hx,hy=>cases hx;cases hy;exact .zsc _
    | 1,hx,hy=>cases hx;cases hy;exact .zsc _
    | 2,hx,hy=>cases hx;cases hy;exact .zsc _
    | 3,hx,hy =>
     cases hx;cases hy;have h1:=OwnF.set (i:=1) (c:=Cell.arr (cWk ts l s2)) A.ho zOm;have h2:=OwnF.set (i:=2) (c:=Cell.arr [aI n.op,aS a9,aI n.n,P,aI n.pos]) h1 zOm;rw[U]at h2;exact h2.1.rd (YD.WS ad).ok fun r hr c hc=>by
      obtain⟨x,_,rfl⟩:=qk.1 hr;exact wW x c hc
    | 4,hx,hy=>cases hx;cases hy;exact .zsc _
    |k+5,hx,hy=>cases hx
   | 2,hx,hy=>cases hx;cases hy;exact .zsc _
   |k+3,hx,hy=>cases hx
end
end RA
namespace RB
open YF Y9 Y1 YX YZ YB YC YE YG YH P1 P2 Q4 Q6 PF QE QT QW QX QY QZ RA
theorem mF(l:List Nd):∀(es:List (ByteArray×Bool)) (nm:ByteArray),getK nm (putN es l)=some true↔(getK nm es=some true\/∃ x,x∈l/\x.name=nm):=by
 induction l with
 |nil=>intro es nm;exact⟨fun h => .inl h,fun h=>h.elim id fun⟨x,g,_⟩=>absurd g qD⟩
 |cons a l j =>
  intro es nm;have e:putN es (a :: l)=putN (setK a.name true es) l:=rfl;rw[e,j,v6];by_cases e:nm=a.name
  .rw [if_pos e]
   exact⟨fun _ => .inr ⟨a,qR ..,e.symm⟩,fun _ => .inl rfl⟩
  .rw [if_neg e]
   constructor
   .rintro (h|⟨x,g,i⟩)
    .exact .inl h
    .exact .inr ⟨x,qK _ g,i⟩
   .rintro (h|⟨x,g,i⟩)
    .exact .inl h
    .rcases qu.1 g with rfl|g
     .exact absurd i.symm e
     .exact .inr ⟨x,g,i⟩
theorem qkJ(l:List Pd):∀(es:List (ByteArray×Bool)) (nm:ByteArray),getK nm (l.foldl (fun es p=>putN es (preN p.body)) es)=some true↔(getK nm es=some true\/∃ p,p∈l/\∃ x,x∈preN p.body/\x.name=nm):=by
 induction l with
 |nil=>intro es nm;exact⟨fun h => .inl h,fun h=>h.elim id fun⟨x,i,_⟩=>absurd i qD⟩
 |cons a l j =>
  intro es nm;rw[List.foldl_cons,j,mF];constructor
  .rintro ((h|h)|⟨p,g,h⟩)
   .exact .inl h
   .exact .inr ⟨a,qR ..,h⟩
   .exact .inr ⟨p,qK _ g,h⟩
  .rintro (h|⟨p,g,h⟩)
   .exact .inl (.inl h)
   .rcases qu.1 g with rfl|g
    .exact .inl (.inr h)
    .exact .inr ⟨p,g,h⟩
structure Ti (es:List (ByteArray×Bool)):Prop where
 nd:(es.map Prod.fst).Nodup
 tr:∀ e,e∈es->e.2=true
theorem Ti.put(l:List Nd):∀{es:List (ByteArray×Bool)},Ti es->Ti (putN es l):=by
 induction l with
 |nil=>intro es h;exact h
 |cons a l i =>
  intro es h;refine i (es:=setK a.name true es) ⟨UX h.nd,fun e g=>?_⟩;rcases Vp g with rfl|g
  .rfl
  .exact h.tr e g
theorem Ti.puts(l:List Pd):∀{es:List (ByteArray×Bool)},Ti es->Ti (l.foldl (fun es p=>putN es (preN p.body)) es):=by
 induction l with
 |nil=>intro es h;exact h
 |cons a l g=>intro es h;exact g (h.put _)
theorem XD{nm:ByteArray}(n:Nd)(i:nm≠⟨#[]⟩):nm∈namL n↔∃ x,x∈preN n/\x.name=nm:=by
 unfold namL;rw[qk];constructor
 .rintro ⟨x,g,e⟩
  exact⟨x,(jg.1 g).1,e⟩
 .rintro ⟨x,g,e⟩
  exact⟨x,jg.2 ⟨g,by rw[e];simpa using i⟩,e⟩
theorem takTn(ts:TS)(n:Nd):Tn (takL ts n) (yO ts n):=by
 have l:∀ t:ByteArray,t≠⟨#[]⟩->(t∈takL ts n↔getK t (yO ts n)=some true):=fun t g=>by
  unfold takL yO;rw[qkJ,mF,qC,XD n g,List.mem_flatMap];constructor
  .rintro (h|⟨p,i,h⟩)
   .exact .inl (.inr h)
   .exact .inr ⟨p,i,(XD _ g).1 h⟩
  .rintro ((h|h)|⟨p,i,h⟩)
   .cases h
   .exact .inl h
   .exact .inr ⟨p,i,(XD _ g).2 h⟩
 refine⟨l,?_⟩;have j:Ti (yO ts n):=Ti.puts _ (Ti.put _ ⟨.nil,fun e C=>absurd C qD⟩);have:=List.Nodup.length_le_of_subset (l₂:=⟨#[]⟩ :: takL ts n) j.nd fun x I=>by
  by_cases e:x=⟨#[]⟩
  .rw [e];exact qR ..
  .refine qK _ ((l x e).2 ?_)
   obtain⟨q,r,rfl⟩:=qk.1 I;have J:=j.tr q r;have P:=(Z3 j.nd (k:=q.1) (v:=q.2)).2 r;rw[P,J]
 simpa using this
theorem mG(ts:TS)(h:okTS ts)(l:List ByteArray)(es:List (ByteArray×Bool))(t:Tn l es)(r:l.length<=400000)(C:qp ts es<=200000)(g:Free ts es)(o:∀ p,p∈ts.preds->WfN p.body/\js ts p.body):∀(f:Nat) (env:IEnv) (sc:List Sb) (n:Nd) (body:Bool) (s:ISt),Pre ts es f env sc n body s->ExpW ts l es f sc n body s
 | 0,env,sc,n,body,s,p=>zW2 p.fu p.st.c1
 |f+1,env,sc,n,body,s,p=>by
  have I:=mG ts h l es t r C g o f;by_cases i:s.cost+1<=4000
  case neg=>exact expZ ts l es f env sc n body s p i
  by_cases J:n.op=1
  .exact expN ts l es f env sc n body s p i J
  by_cases h47:n.op=47
  .obtain ⟨P,R,j⟩:=p.cl n (vu n) h47
   have T:(payS 1 s).cost=s.cost+1:=rfl;exact expC ts l es f env sc n body s p i h47 P R (replW ts h l es g o f I env sc n body (payS 1 s) ⟨zW1 p.fu,(w9 p.st zOm i).ok p.st,p.en,p.wf,p.cl,p.so,zW1 p.le⟩ h47 P R j)
  .exact expK ts h l es t r C g o f I env sc n body s p i J h47
theorem inlRU(ts:TS)(h:okTS ts)(hv:∀ p,p∈ts.preds->qY p.body=true)(hb:∀ p,p∈ts.preds->WfN p.body/\js ts p.body)(n:Nd)(hn:qY n=true)(a9:(ye ts [] n).1=0->js ts n):qd qb 68 [eTS ts,eNd n] (.tup [eNd (yz ts n).1,aI (yz ts n).2]):=by
 have hw:=ub hn;have a0:=ug.1 hn;have J:∀ p,p∈ts.preds->WfN p.body:=fun p hp=>(hb p hp).1
 have a4:∀ p,p∈ts.preds->(preN p.body).length<=400:=fun p hp=>zW2 ((ug.1 (hv p hp)).2.2.1) (Yr p.body)
 have aa:(preN n).length<=400:=zW2 a0.2.2.1 (Yr n);have hF:=nH h hv hn;have hT:=takTn ts n;have ag:=h.np;have ab:(takL ts n).length<=400000:=by
  have h1:∀ L:List Pd,(∀ p,p∈L->(preN p.body).length<=400)->(L.flatMap fun p=>namL p.body).length<=400*L.length:=by
   intro L;induction L with
   |nil=>intro _;simp
   |cons a L ih =>
    intro hL;have a1:=ih fun p hp=>hL p (qK _ hp)
    have a2:=VL a.body;have a3:=hL a (qR ..);rw[List.flatMap_cons,qU,zq];omega
  have a1:=h1 ts.preds a4;have a2:=VL n;unfold takL;rw[qU];omega
 have P:=gO ts (yO ts n);have T:StOk (qp ts (yO ts n)) ⟨0,0⟩:=⟨zSp,zSp,zSp,by simp[pot]⟩;have cf:=Xv ts h J [] ⟨zSp,zSp⟩ zSp n hw a0.2.2.2;have o:=pf (szN n) n (qn _) hw.small;have ct:=qj8 ts h J n hw aa a4;have U:WKs [eTS ts,.lst true [],eNd n] [eTS ts,lPm [],eNd n] := .zk (zn ts) (.cons (WK.lst fun r hr=>absurd hr qD) (.zk (za n) .nil));have ad:WKs [eTS ts,eNd n] [eTS ts,eNd n] := .zk (zn ts) (.zk (za n) .nil);generalize j:yz ts n=R;unfold yz at j;by_cases l:(ye ts [] n).1=0
 case neg =>
  rw[if_pos l]at j;subst j;refine qSU call68 func68 rfl ?_;refine qc.pure cf U ?_;simp[go_sem,l];refine qg.seg [0,1,2,4,3] [(0,0,[]),(1,0,[]),(2,0,[]),(4,0,[]),(3,1,[2])] zKr zKr zSi ?_;simp[go_sem,l];exact Vq _ _
 rw[if_neg (zUs l)]at j;cases ha:anyN (fun n=>decide (n.op=47)) n with
 |false =>
  rw[ha]at j o;rw[if_pos rfl]at j;subst j;refine qSU call68 func68 rfl ?_;refine qc.pure cf U ?_;simp[go_sem,l];refine qc.pure o (.zk (za n) .nil) ?_;simp[go_sem,l];exact .hf _ (HF.tup fun x hx=>by
   simp only[qu,qD,or_false]at hx;rcases hx with rfl|rfl
   .exact za n
   .exact HF.sc _)
 |true =>
  rw[ha]at j o;rw[if_neg zSp]at j;have a5:=a9 l;have cx:=mG ts h (takL ts n) (yO ts n) hT ab hF P hb 4001 [] [] n false ⟨0,0⟩ ⟨zSp,T,.nil,hw,a5,⟨fun nm=>rfl,fun _ nm v hv=>(by cases hv),fun e he=>absurd he qD⟩,zSp⟩;have ho:=Zs ts (yO ts n) P hb 4001 [] [] n false ⟨0,0⟩ zSp T .nil hw a5 ⟨fun nm=>rfl,fun _ nm v hv=>(by cases hv),fun e he=>absurd he qD⟩;have a6:=fun {n' z s'}=>Ym ts J (yO ts n) 4001 (env:=[]) (n:=n) (n':=n') (body:=false) (s:=⟨0,0⟩) (s':=s') (z:=z) (fun e he=>absurd he qD) hw
  have a7:=fun {n' z s'}=>j7 ts P 4001 (env:=[]) (n:=n) (n':=n') (body:=false) (s':=s') (z:=z) T .nil
  have a8:=fun {d}=>Yn ts (yO ts n) 4001 (env:=[]) (n:=n) (body:=false) (s:=⟨0,0⟩) (d:=d)
  unfold outI at j;unfold ExpW at cx;generalize expR ts (yO ts n) 4001 [] n false ⟨0,0⟩=q at *
  generalize expI ts (yO ts n) 4001 [] n false ⟨0,0⟩=E at *
  have ae:(4000<q.1.cost/\R=(nd0,2))\/(¬ 4000<q.1.cost/\yf q.2.1/\depN q.2.1<=1000000/\((400<q.2.2/\R=(nd0,2))\/(¬ 400<q.2.2/\24<depN q.2.1/\R=(nd0,2))\/(¬ 400<q.2.2/\¬ 24<depN q.2.1/\R=(q.2.1,0)))):=by
   cases E with
   |error d =>
    have:=a8 rfl;subst this;exact .inl ⟨ho.1,j.symm⟩
   |ok r =>
    obtain⟨⟨m,y⟩,t⟩:=r;obtain⟨o1,o2,o3⟩:=ho;obtain⟨s1,s2⟩:=a6 rfl;have g:=a7 rfl;have gc:=g.c1;have gz:=g.cz;have dl:=gE m;rw[o1,o2,o3];have gz:0+y<=t.cost:=gz;refine .inr ⟨zOm,s2,zOm,?_⟩;simp only at j;by_cases z1:y<=400
    .by_cases z2:depN m<=24
     .rw [if_pos ⟨z1,z2⟩]at j
      exact .inr (.inr ⟨zOm,zOm,j.symm⟩)
     .rw [if_neg (fun x=>z2 x.2)]at j
      exact .inr (.inl ⟨zOm,zOm,j.symm⟩)
    .rw [if_neg (fun x=>z1 x.1)]at j
     exact .inl ⟨zOm,j.symm⟩
  clear j ho a6 a7 a8;refine qSU call68 func68 rfl ?_;refine qc.pure cf U ?_;simp[go_sem,l];refine qc.pure o (.zk (za n) .nil) ?_;simp[go_sem,l];refine qg.seg [0,1,2,5,3,4,6,7,8,9,10,15,11,12,13,14] [(0,0,[]),(1,0,[]),(2,0,[]),(5,0,[]),(3,1,[0,5]),(4,0,[]),(6,1,[]),(7,0,[]),(8,0,[]),(9,0,[]),(10,0,[]),(15,0,[]),(11,2,[0,1,2,5]),(12,2,[0,1,2,5]),(13,1,[]),(14,1,[])] zKr zKr zSi ?_;simp[go_sem,l];refine qc.pure ct ad ?_;simp[go_sem,l];refine qc.pure cx ?_ ?_
  .exact .zk (uj ts (takL ts n) ⟨0,0⟩) (.cons (WK.lst fun r hr=>absurd hr qD) (.zk (za n) (.zs .nil)))
  simp[go_sem,l];have af:∀ I:Mu,Rd I (.tup [eNd q.2.1,aI 0]) (.tup [eNd q.2.1,aI 0]):=fun I => .hf _ (HF.tup fun x hx=>by
   simp only[qu,qD,or_false]at hx;rcases hx with rfl|rfl
   .exact za _
   .exact HF.sc _)
  rcases ae with ⟨g1,C⟩|⟨g1,gs,gd,⟨C,g3⟩|⟨C,g3,g4⟩|⟨C,g3,g4⟩⟩
  .rw [C]
   simp[go_sem,l,g1];exact Vq _ _
  .rw [g3]
   simp[go_sem,l,g1,C];exact Vq _ _
  .rw [g4]
   simp[go_sem,l,g1,C];refine qc.pure (XB (szN q.2.1) q.2.1 (qn _) gs gd) (.zk (za _) .nil) ?_;simp[go_sem,l,g1,C,g3];exact Vq _ _
  .rw [g4]
   simp[go_sem,l,g1,C];refine qc.pure (XB (szN q.2.1) q.2.1 (qn _) gs gd) (.zk (za _) .nil) ?_;simp[go_sem,l,g1,C,g3];exact af _
end RB
namespace FE
open Y1 Y9
def zC(op a s:Int)(i:Nat)(k:Int):Int:=if op=48\/op=49\/op=51 then k*s else if i=1/\(op=45\/op=46\/op=15) then k*a else k
def minW(v:Int):Int:=if 1000000<v then 1000000 else v
mutual
def wkN(a s:Int):Nd->Int
 | .mk op _ _ ks _=>wkNs a s op 0 ks 1
def wkNs(a s op:Int):Nat->List Nd->Int->Int
 |_,[],sum=>sum
 |i,k :: ks,sum=>wkNs a s op (i+1) ks (minW (sum+zC op a s i (wkN a s k)))
end
theorem qkK(a s:Int)(n:Nd):wkN a s n=wkNs a s n.op 0 n.kids 1:=by
 obtain⟨op,t,i,ks,q⟩:=n;rw[wkN];rfl
theorem mH{op a s:Int}{i:Nat}{k:Int}(j:0<=a/\a<=100)(l:0<=s/\s<=100)(g:0<=k/\k<=1000000):0<=zC op a s i k/\zC op a s i k<=100000000:=by
 unfold zC;have o:=Int.mul_nonneg g.1 j.1;have p:=Int.mul_nonneg g.1 l.1;have r:k*a<=1000000*100:=ve g.2 j.2 j.1 zOm;have t:k*s<=1000000*100:=ve g.2 l.2 l.1 zOm;split
 .omega
 .split<;>omega
theorem mI{v:Int}(h:0<=v):0<=minW v/\minW v<=1000000:=by unfold minW;split<;>omega
mutual
theorem mJ(a s:Int)(g:0<=a/\a<=100)(i:0<=s/\s<=100):∀ n:Nd,0<=wkN a s n/\wkN a s n<=1000000
 | .mk op _ _ ks _=>by rw[wkN];exact mK a s g i op ks 0 1 zOm
theorem mK(a s:Int)(g:0<=a/\a<=100)(j:0<=s/\s<=100)(op:Int):∀(ks:List Nd) (i:Nat) (sum:Int),0<=sum/\sum<=1000000->0<=wkNs a s op i ks sum/\wkNs a s op i ks sum<=1000000
 | [],_,sum,h=>by rw[wkNs];exact h
 |k :: ks,i,sum,h=>by
  rw[wkNs];have l:=mJ a s g j k;have o:=mH (op:=op) (i:=i) g j l;exact mK a s g j op ks (i+1) _ (mI zOm)
end
theorem mL(a s:Int)(ha:0<=a/\a<=100)(hs:0<=s/\s<=100):∀(m:Nat) (n:Nd),szN n<=m->yf n->qd qb 69 [eNd n,aI a,aI s] (aI (wkN a s n))
 | 0,n,hm,_=>by obtain⟨op,nm,i,ks,p⟩:=n;simp[szN]at hm
 |m+1,n,hm,a6=>by
  have ih:∀ k,k∈n.kids->qd qb 69 [eNd k,aI a,aI s] (aI (wkN a s k)):=fun k hk=>mL a s ha hs m k (zW1 (yv hk)) (a6.kid hk)
  rw[qkK];have a8:=a6.len;generalize hR:wkNs a s n.op 0 n.kids 1=R;refine qSU call69 func69 rfl ?_;refine qh.upK n.kids.length (fun k st=>∃ sum:Int,st.tm 1=aI a/\st.tm 2=aI s/\st.tm 3 = .ip (cNd n)/\st.tm 7=aI sum/\st.tm 8=aI k/\(0<=sum/\sum<=1000000)/\wkNs a s n.op k (n.kids.drop k) sum=R) ?_ ?_
  .exact ⟨1,zSi,zSi,zSi,zSi,zSi,zOm,zUs hR⟩
  .rintro k st hk ⟨sum,r,t,C,e7,e8,a9,o⟩
   by_cases a7:k=n.kids.length
   .subst a7
    rw[yR,wkNs]at o;subst o;simp[go_sem,r,t,C,e7,e8];exact .zsc _
   .have l:k<n.kids.length:=by omega
    rw[zD l,wkNs]at o;have w1:=zWk k;have a2:=mJ a s ha hs n.kids[k];have aa:=mH (op:=n.op) (i:=k) ha hs a2;have j:=mI (v:=sum+zC n.op a s k (wkN a s n.kids[k])) zOm;have m1:=Int.mul_nonneg a2.1 ha.1;have m2:=Int.mul_nonneg a2.1 hs.1;have m3:wkN a s n.kids[k] * a<=1000000*100:=ve a2.2 ha.2 ha.1 zOm;have m4:wkN a s n.kids[k] * s<=1000000*100:=ve a2.2 hs.2 hs.1 zOm;simp[go_sem,r,t,C,e7,e8,l,qO];refine qc.pure (ih n.kids[k] (qt l)) (.zk (za _) (.zs (.zs .nil))) ?_;generalize wkN a s n.kids[k]=K at *
    by_cases I:k=1
    .have g:(k:Int)=1:=by omega
     by_cases U:n.op=48
     .have J:zC n.op a s k K=K*s:=by simp[zC,U,I,g]
      rw[J]at o j;have P:qs.wrap (K*s)=K*s:=zWr;have T:qs.wrap (sum+K*s)=sum+K*s:=zWr;simp[go_sem,r,t,C,e7,e8,w1,P,T,l,U,eq_true I,eq_true g];exact Keep.mk' ⟨_,zS1 r,zS1 t,zS1 C,by simp[go_sem,minW],zSi,j,o⟩
     by_cases a0:n.op=49
     .have J:zC n.op a s k K=K*s:=by simp[zC,a0,I,g]
      rw[J]at o j;have P:qs.wrap (K*s)=K*s:=zWr;have T:qs.wrap (sum+K*s)=sum+K*s:=zWr;simp[go_sem,r,t,C,e7,e8,w1,P,T,l,a0,eq_true I,eq_true g];exact Keep.mk' ⟨_,zS1 r,zS1 t,zS1 C,by simp[go_sem,minW],zSi,j,o⟩
     by_cases a1:n.op=51
     .have J:zC n.op a s k K=K*s:=by simp[zC,a1,I,g]
      rw[J]at o j;have P:qs.wrap (K*s)=K*s:=zWr;have T:qs.wrap (sum+K*s)=sum+K*s:=zWr;simp[go_sem,r,t,C,e7,e8,w1,P,T,l,a1,eq_true I,eq_true g];exact Keep.mk' ⟨_,zS1 r,zS1 t,zS1 C,by simp[go_sem,minW],zSi,j,o⟩
     by_cases a3:n.op=45
     .have J:zC n.op a s k K=K*a:=by simp[zC,a3,I,g]
      rw[J]at o j;have P:qs.wrap (K*a)=K*a:=zWr;have T:qs.wrap (sum+K*a)=sum+K*a:=zWr;simp[go_sem,r,t,C,e7,e8,w1,P,T,l,a3,eq_true I,eq_true g];exact Keep.mk' ⟨_,zS1 r,zS1 t,zS1 C,by simp[go_sem,minW],zSi,j,o⟩
     by_cases a4:n.op=46
     .have J:zC n.op a s k K=K*a:=by simp[zC,a4,I,g]
      rw[J]at o j;have P:qs.wrap (K*a)=K*a:=zWr;have T:qs.wrap (sum+K*a)=sum+K*a:=zWr;simp[go_sem,r,t,C,e7,e8,w1,P,T,l,a4,eq_true I,eq_true g];exact Keep.mk' ⟨_,zS1 r,zS1 t,zS1 C,by simp[go_sem,minW],zSi,j,o⟩
     by_cases a5:n.op=15
     .have J:zC n.op a s k K=K*a:=by simp[zC,a5,I,g]
      rw[J]at o j;have P:qs.wrap (K*a)=K*a:=zWr;have T:qs.wrap (sum+K*a)=sum+K*a:=zWr;simp[go_sem,r,t,C,e7,e8,w1,P,T,l,a5,eq_true I,eq_true g];exact Keep.mk' ⟨_,zS1 r,zS1 t,zS1 C,by simp[go_sem,minW],zSi,j,o⟩
     have J:zC n.op a s k K=K:=by simp[zC,U,a0,a1,a3,a4,a5,I,g]
     rw[J]at o j;have P:=w1;have T:qs.wrap (sum+K)=sum+K:=zWr;simp[go_sem,r,t,C,e7,e8,w1,P,T,l,U,a0,a1,a3,a4,a5,eq_true I,eq_true g];exact Keep.mk' ⟨_,zS1 r,zS1 t,zS1 C,by simp[go_sem,minW],zSi,j,o⟩
    .have g:¬(k:Int)=1:=by omega
     by_cases U:n.op=48
     .have J:zC n.op a s k K=K*s:=by simp[zC,U,I,g]
      rw[J]at o j;have P:qs.wrap (K*s)=K*s:=zWr;have T:qs.wrap (sum+K*s)=sum+K*s:=zWr;simp[go_sem,r,t,C,e7,e8,w1,P,T,l,U,I,g];exact Keep.mk' ⟨_,zS1 r,zS1 t,zS1 C,by simp[go_sem,minW],zSi,j,o⟩
     by_cases a0:n.op=49
     .have J:zC n.op a s k K=K*s:=by simp[zC,a0,I,g]
      rw[J]at o j;have P:qs.wrap (K*s)=K*s:=zWr;have T:qs.wrap (sum+K*s)=sum+K*s:=zWr;simp[go_sem,r,t,C,e7,e8,w1,P,T,l,a0,I,g];exact Keep.mk' ⟨_,zS1 r,zS1 t,zS1 C,by simp[go_sem,minW],zSi,j,o⟩
     by_cases a1:n.op=51
     .have J:zC n.op a s k K=K*s:=by simp[zC,a1,I,g]
      rw[J]at o j;have P:qs.wrap (K*s)=K*s:=zWr;have T:qs.wrap (sum+K*s)=sum+K*s:=zWr;simp[go_sem,r,t,C,e7,e8,w1,P,T,l,a1,I,g];exact Keep.mk' ⟨_,zS1 r,zS1 t,zS1 C,by simp[go_sem,minW],zSi,j,o⟩
     have J:zC n.op a s k K=K:=by simp[zC,U,a0,a1,I,g]
     rw[J]at o j;have P:=w1;have T:qs.wrap (sum+K)=sum+K:=zWr;simp[go_sem,r,t,C,e7,e8,w1,P,T,l,U,a0,a1,I,g];exact Keep.mk' ⟨_,zS1 r,zS1 t,zS1 C,by simp[go_sem,minW],zSi,j,o⟩
end FE
namespace FF
end FF
namespace IB
open QU P1 P2 Y1 YF Y9 Y10 Y16 PA YC YG Q4 Q6 Q8 PF QT RB QL FE
section
variable {ts:TS}
abbrev bigT(ts:TS):Prop:=∀ x,x∈ts.sorts->x.1.size<=4611686018427387904
structure SpD (ts:TS):Prop where
 h:okTS ts
 wp:∀ p,p∈ts.preds->WfN p.body
 wf:∀ f,f∈ts.facts->WfN f.2
 hv:∀ p,p∈ts.preds->qY p.body=true
 hf:∀ f,f∈ts.facts->qY f.2=true
theorem mM(h:z7 ts=true)(i:bigT ts):SpD ts:=by
 obtain⟨ok,j,wf⟩:=qfB h i;simp only[z7,limB,fldB,qq,decide_eq_true_eq,qJ]at h;obtain⟨⟨⟨⟨r,t⟩,C⟩,I⟩,hf,l,o⟩:=h;exact⟨ok,j,wf,fun p g=>(l p g).2,fun f g=>o f g⟩
theorem SpD.chk(S:SpD ts):qd qb 29 [eTS ts] (lDg (yW ts)):=
 qj3 ts S.h S.wp S.wf (fun p g=>(ug.1 (S.hv p g)).2.2.2) (fun f hf=>(ug.1 (S.hf f hf)).2.2.2)
theorem SpD.chkF(S:SpD ts){n:Nd}(g:qY n=true):qd qb 30 [eTS ts,lPm [],eNd n] (eDg (ye ts [] n)):=
 Xv ts S.h S.wp [] ⟨zSp,zSp⟩ zSp n (ub g) (ug.1 g).2.2.2
theorem qkL(S:SpD ts)(j:yW ts=[]):∀ p,p∈ts.preds->WfN p.body/\js ts p.body:=fun p g=>⟨S.wp p g,by
 obtain⟨i,l,rfl⟩:=vB.1 g;obtain⟨_,r,o⟩:=VB (nD j i l);exact Xd (uM S.h zOm) (szN ts.preds[i].body) _ _ _ _ (qn _) o (S.wp _ g)⟩
theorem callF(S:SpD ts){n:Nd}(g:qY n=true)(i:(ye ts [] n).1=0):js ts n:=by
 obtain⟨_,l,j⟩:=VB i;exact Xd (uM S.h (qn _)) (szN n) _ _ _ _ (qn _) j (ub g)
theorem inlR(S:SpD ts)(i:yW ts=[]){n:Nd}(g:qY n=true):qd qb 68 [eTS ts,eNd n] (.tup [eNd (yz ts n).1,aI (yz ts n).2]):=
 inlRU ts S.h S.hv (qkL S i) n g (callF S g)
theorem qkM(S:SpD ts)(o:yW ts=[]){n:Nd}(j:qY n=true)(g:(yz ts n).2=0):qY (yz ts n).1=true:=by
 by_cases i:(ye ts [] n).1=0
 .cases l:anyN (fun n=>decide (n.op=47)) n with
  |false =>
   have:yz ts n=(n,0):=by unfold yz;rw[if_neg (zUs i),if_pos l]
   rw[this];exact j
  |true=>exact(qiP S.h S.hv o j i l (Prod.ext rfl g)).1
 .unfold yz at g
  rw[if_pos i]at g;exact absurd g i
def qkN(ts:TS)(a s:Int)(l:List Nd):Bool:=l.all fun b=>!(decide ((yz ts b).2=0)&&decide (3000<wkN a s (yz ts b).1))
def XF(ts:TS)(a s:Int)(n:Nd):Bool:=qkN ts a s (ts.facts.map Prod.snd++[n])
theorem qkO(S:SpD ts)(g:yW ts=[]){n:Nd}(i:qY n=true)(j:(yz ts n).2=0):yf (yz ts n).1:=(ub (qkM S g i j)).small
end
end IB
namespace IN
open Y1 P1 YF
def wB(I:Nd->Nd×Int)(W:Nd->Int)(l:List Nd):Bool:=l.all fun b=>!(decide ((I b).2=0)&&decide (3000<W (I b).1))
theorem qkP(ts:TS)(I:Nd->Nd×Int)(W:Nd->Int)(a3:ts.facts.length<=1000)(a s:Int)(n:Nd)(step:∀ b,b∈ts.facts.map Prod.snd++[n]->qd qb 68 [eTS ts,eNd b] (.tup [eNd (I b).1,aI (I b).2]))(zC:∀ b,b∈ts.facts.map Prod.snd++[n]->(I b).2=0->qd qb 69 [eNd (I b).1,aI a,aI s] (aI (W (I b).1))):qd qb 31 [eTS ts,aI a,aI s,eNd n] (aB (wB I W (ts.facts.map Prod.snd++[n]))):=by
 have a4:(ts.facts.map Prod.snd++[n]).length=ts.facts.length+1:=zSp;have T:∀(k:Nat) (h:k<ts.facts.length) (h2:k<(ts.facts.map Prod.snd++[n]).length),(ts.facts.map Prod.snd++[n])[k]=ts.facts[k].2:=fun k h h2=>by rw[List.getElem_append_left (zUs h)];simp
 have U:∀(h2:ts.facts.length<(ts.facts.map Prod.snd++[n]).length),(ts.facts.map Prod.snd++[n])[ts.facts.length]=n:=fun h2=>by rw[List.getElem_append_right zSp];simp
 generalize ts.facts.map Prod.snd++[n]=L at *
 generalize hR:wB I W L=R;refine qSU call31 func31 rfl ?_;refine qh.upK (ts.facts.length+1) (fun k st=>st.tm 1=aI a/\st.tm 2=aI s/\st.tm 4 = .ip (cTS ts)/\st.tm 7 = .ip (cNd n)/\st.tm 9=aI k/\wB I W (L.drop k)=R) ?_ ?_
 .exact ⟨zSi,zSi,zSi,zSi,zSi,zUs hR⟩
 rintro k st a5 ⟨C,J,o,P,p,g⟩;have wi:∀ b:Nd,WKs [eTS ts,eNd b] [eTS ts,eNd b]:=fun b => .zk (zn ts) (.zk (za b) .nil)
 have ww:∀ b:Nd,WKs [eNd b,aI a,aI s] [eNd b,aI a,aI s]:=fun b => .zk (za b) (.zs (.zs .nil))
 have w1:=zWk k;by_cases j:k<ts.facts.length+1
 .have i:k<L.length:=by omega
  have a1:k<=ts.facts.length:=zOm;have a0:(k:Int)<=ts.facts.length:=zOm;have c1:=step _ (qt i);have c2:=zC _ (qt i);rw[zD i,wB,List.all_cons]at g;by_cases hf:k<ts.facts.length
  .rw [T k hf i]at g c1 c2
   generalize I ts.facts[k].2=ib at *
   obtain⟨b',e'⟩:=ib;simp only at g c1 c2;simp[go_sem,o,P,p,hf,a1,a0];refine qc.zP c1 (wi _) ?_;by_cases r:e'=0
   .subst r
    have c3:=c2 rfl;simp[go_sem,C,J];refine qc.pure c3 (ww b') ?_;generalize W b'=w at *
    by_cases l:3000<w
    .simp [l]at g
     subst g;simp[go_sem,l];exact .zsc _
    .simp [l]at g
     simp[go_sem,l,p,w1,j];exact Keep.mk' ⟨zS1 C,zS1 J,zS1 o,zS1 P,zSi,by simpa[wB] using g⟩
   .simp [r]at g
    simp[go_sem,r,p,w1,j];exact Keep.mk' ⟨zS1 C,zS1 J,zS1 o,zS1 P,zSi,by simpa[wB] using g⟩
  .have t:k=ts.facts.length:=by omega
   subst t;rw[U i]at g c1 c2;generalize I n=ib at *
   obtain⟨b',e'⟩:=ib;simp only at g c1 c2;simp[go_sem,o,P,p];refine qc.zP c1 (wi _) ?_;by_cases r:e'=0
   .subst r
    have c3:=c2 rfl;simp[go_sem,C,J];refine qc.pure c3 (ww b') ?_;generalize W b'=w at *
    by_cases l:3000<w
    .simp [l]at g
     subst g;simp[go_sem,l];exact .zsc _
    .simp [l]at g
     simp[go_sem,l,p,w1,j];exact Keep.mk' ⟨zS1 C,zS1 J,zS1 o,zS1 P,zSi,by simpa[wB] using g⟩
   .simp [r]at g
    simp[go_sem,r,p,w1,j];exact Keep.mk' ⟨zS1 C,zS1 J,zS1 o,zS1 P,zSi,by simpa[wB] using g⟩
 .have t:k=ts.facts.length+1:=by omega
  subst t;rw[YN zOm]at g;have a2:R=true:=by rw[<-g];rfl
  subst a2;simp[go_sem,o,p,show ¬((ts.facts.length:Int)+1<=ts.facts.length) by omega];exact .zsc _
end IN
namespace IF
open P1 Y1 YF Y16 YG Q4 FE IB IN
theorem qkQ{ts:TS}(S:SpD ts)(i:yW ts=[])(a s:Int)(l:0<=a/\a<=100)(o:0<=s/\s<=100){n:Nd}(p:qY n=true):qd qb 31 [eTS ts,aI a,aI s,eNd n] (aB (XF ts a s n)):=by
 have j:∀ b,b∈ts.facts.map Prod.snd++[n]->qY b=true:=fun b g=>by
  rcases qC.1 g with h|h
  .obtain ⟨f,hf,rfl⟩:=qk.1 h
   exact S.hf f hf
  .rw [qN]at h;subst h;exact p
 exact qkP ts (yz ts) (wkN a s) (zW1 S.h.nfa) a s n (fun b g=>inlR S i (j b g)) (fun b g r=>mL a s l o _ _ (qn _) (qkO S i (j b g) r))
end IF
namespace IC
open P1 E1 E3 GF GS GU GW GY HA
structure Betw (sc:Sc) (vs:List Bool) (bs:List Bd) (N:Nat) (m:Md):Prop where
 sc:m.sc=sc
 lp:∃ k:Nat,k<N/\m.loop=k
 ns:m.states.length=N
 len:∀ s,s∈m.states->s.length=bs.length
 rel:∀(k f:Nat) (hk:k<m.states.length) (hf:f<bs.length) (h2:f<m.states[k].length),m.states[k][f].ar=bs[f].lo.ar/\sorted m.states[k][f].ts/\(∀ t,t∈bs[f].lo.ts->t∈m.states[k][f].ts)/\∀ t,t∈m.states[k][f].ts->t∈bs[f].up.ts
 fix:∀(k f:Nat) (hk:k<m.states.length) (h0:0<m.states.length) (h2:f<m.states[k].length) (h3:f<m.states[0].length),vs.getD f true=false->m.states[k][f]=m.states[0][f]
theorem qkR{ts:TS}{sc:Sc}{g:List Bd}(B:BndV ts sc g){N:Nat}(U:1<=N){m:Md}(h:m∈uc sc (vsT ts) g (chs (vsT ts) (qy g 0) N) N):Betw sc (vsT ts) g N m:=by
 obtain⟨k,c,r,t,rfl⟩:=WJ.1 h;have C:(yy sc (vsT ts) g c N k).states.length=N:=by simp[yy]
 have o:∀ s,s∈(yy sc (vsT ts) g c N k).states->∃ j,s=jf (vsT ts) g c j:=fun s p=>by
  obtain⟨j,_,rfl⟩:=qk.1 p;exact⟨j,rfl⟩
 refine⟨rfl,⟨k,r,rfl⟩,C,fun s p=>?_,fun j f l hf i=>?_,fun j f l h0 i h3 I=>?_⟩
 .obtain ⟨j,rfl⟩:=o s p
  rw[Ze]
 .simp only[yy,Zu,List.getElem_range]at i⊢
  obtain⟨J,P,R,T⟩:=pY B t j f hf i;exact⟨J,P,R,T⟩
 .have hf:f<g.length:=by
   have:(yy sc (vsT ts) g c N k).states[j]=jf (vsT ts) g c j:=by simp[yy]
   rw[this,Ze]at i;exact i
  simp only[yy,Zu,List.getElem_range,Yi _ _ _ _ _ hf];by_cases l:j=0
  .subst l;rfl
  .rw [if_pos ⟨l,I⟩,if_neg zSp]
end IC
namespace ID
open P1 E1 E3 GS GW HI IC
theorem mN{a b:Rl}:inOk a b=true↔∀ t,t∈a.ts->t∈b.ts:=by simp[inOk,qJ]
theorem qkS{ts:TS}{sc:Sc}{b c:List Bd}(B:BndV ts sc b)(C:BndV ts sc c){N:Nat}{m:Md}(h:Betw sc (vsT ts) b N m) :
  cntB c m=true↔∀(k f:Nat) (g:k<m.states.length) (hf:f<c.length) (r:f<m.states[k].length),(∀ t,t∈c[f].lo.ts->t∈m.states[k][f].ts)/\∀ t,t∈m.states[k][f].ts->t∈c[f].up.ts:=by
 have J:b.length=c.length:=by rw[B.len,C.len]
 constructor
 .intro l k f g hf r
  have o:=qJ.1 l _ (qt g);simp only[wthS,qq,decide_eq_true_eq,qJ]at o;have p:=o.2 (c[f],m.states[k][f]) (by
   rw[vB];exact⟨f,zSo,zSp⟩)
  simp only[wthB,qq,decide_eq_true_eq,mN]at p;exact p.2.2
 .intro l
  refine WM fun k g=>?_
  have I:=h.len _ (qt g);simp only[wthS,qq,decide_eq_true_eq];refine⟨zOm,WM fun f hf=>?_⟩;simp only[List.length_zip]at hf;have i:f<c.length:=zOm;have j:f<m.states[k].length:=zOm;obtain⟨c1,c2⟩:=l k f g i j;have P:=(h.rel k f g zOm j).1;have R:=B.lo f zOm (by rw[<-B.len];omega);have T:=C.lo f i (by rw[<-C.len];omega);simp only[List.getElem_zip,wthB,qq,decide_eq_true_eq,mN];exact⟨zOm,zOm,c1,c2⟩
end ID
namespace IE
end IE
namespace IK
open GH P1 E1 E3 GD G5 GF GQ GR GS GU GW GX GY HA IB IC YF Y16
structure Cx (ts:TS) (sc:Sc) (b:List Bd) (N:Nat):Prop where
 S:SpD ts
 hk:yW ts=[]
 F:Fit9 ts sc
 z:yn sc=true
 h5:sumI sc.atoms<=5
 B:BndV ts sc b
 hS:sc.steps=N
 c9:(chs (vsT ts) (qy b 0) N).length<=9
theorem mO{ts:TS}{sc:Sc}(F:Fit9 ts sc)(g:sumI sc.atoms<=5){f:Fld}(hf:f∈ts.fields):(zQ sc f.sorts).length<=1000/\sorted (zQ sc f.sorts):=by
 obtain⟨a,b,_⟩:=py F g _ (List.mem_map_of_mem (f:=fun f:Fld=>(⟨⟨f.sorts.length,[]⟩,⟨f.sorts.length,zQ sc f.sorts⟩⟩:Bd)) hf);exact⟨a,b⟩
theorem XG(M:Nat):∀(l:List Bd) (k:Nat),(∀ x,x∈l->x.up.ts.length<=M)->(qy l k).length<=l.length*M
 | [],k,_=>by simp[qy]
 |x :: l,k,h=>by
  have i:=h x zSp;have j:(yh k x).length<=x.up.ts.length:=by rw[yh,zJ];exact List.length_filter_le _ _
  have o:=XG M l (k+1) fun y g=>h y (zP1 g)
  simp only[qy,qU,zq,Nat.add_mul,Nat.one_mul];omega
namespace Cx
variable {ts:TS} {sc:Sc} {b:List Bd} {N:Nat}
theorem N1(X:Cx ts sc b N):1<=N:=by have:=X.F.s1;have:=X.hS;omega
theorem N4(X:Cx ts sc b N):N<=4:=by have:=X.F.s4;have:=X.hS;omega
theorem bl(X:Cx ts sc b N):b.length<=6:=by rw[X.B.len];exact X.F.nf
theorem bts(X:Cx ts sc b N):∀ x,x∈b->x.up.ts.length<=1000/\x.lo.ts.length<=1000/\sorted x.up.ts/\sorted x.lo.ts:=fun x g=>by
 obtain⟨i,j,rfl⟩:=uY g;have l:i<ts.fields.length:=by rw[<-X.B.len];exact j
 obtain⟨s1,o⟩:=X.B.so _ g;have h:=mO X.F X.h5 (qt l);have p:=Zg o (X.B.full i j l);have r:=Zg s1 (X.B.sub _ g);exact⟨zOm,zOm,o,s1⟩
theorem okf(X:Cx ts sc b N):∀ x,x∈b->wt x:=fun x g=>by
 obtain⟨j,l,o,i⟩:=X.bts x g;exact⟨zOm,zOm,i.imp fun h=>zOm⟩
theorem fl(X:Cx ts sc b N):(qy b 0).length<=100000:=by
 have:=XG 1000 b 0 fun x g=>(X.bts x g).1
 have:=X.bl;omega
end Cx
abbrev LL(ts:TS)(sc:Sc)(b:List Bd)(N:Nat):List Md:=uc sc (vsT ts) b (chs (vsT ts) (qy b 0) N) N
namespace Cx
variable {ts:TS} {sc:Sc} {b:List Bd} {N:Nat}
theorem len(X:Cx ts sc b N):(LL ts sc b N).length<=10000:=by
 rw[pG];have g:2 ^ (chs (vsT ts) (qy b 0) N).length<=2 ^ 9:=Nat.pow_le_pow_right zOm X.c9;have:=Nat.mul_le_mul X.N4 g;omega
theorem inst(X:Cx ts sc b N):qd qb 13 [eTS ts,eSc sc,lBd b] (.tup [lMd (LL ts sc b N),aI 0]):=by
 have g:2 ^ (chs (vsT ts) (qy b 0) N).length<=2 ^ 9:=Nat.pow_le_pow_right zOm X.c9;have j:=Nat.mul_le_mul X.N4 g;exact pH ts sc b N X.hS X.N4 (zW1 X.bl) X.okf (fun x i=>⟨zW1 ((X.bts x i).2.1)⟩) (by rw[X.B.len];exact qn _) X.fl (zW1 X.c9) zOm (pQ ts sc X.F X.z) (qgG ts sc b X.F (pU X.z) X.B)
theorem mdv(X:Cx ts sc b N){m:Md}(h:m∈LL ts sc b N):MdV ts m:=by
 obtain⟨k,c,g,i,rfl⟩:=WJ.1 h;exact qgL X.F X.z X.B X.hS g i
theorem sms(X:Cx ts sc b N){m:Md}(h:Betw sc (vsT ts) b N m):SmS m.states:=by
 have t:=X.N4;have l:=h.ns;have C:=X.bl;refine⟨zOm,fun s g=>by rw[h.len s g];omega,fun s g r o=>?_⟩;obtain⟨k,i,rfl⟩:=uY g;obtain⟨f,hf,rfl⟩:=uY o;have I:=h.len _ (qt i);obtain⟨J,j,P,p⟩:=h.rel k f i zOm hf;have:=Zg j p;have:=(X.bts _ (qt (show f<b.length by omega))).1;exact⟨zOm,j⟩
theorem betw(X:Cx ts sc b N){m:Md}(h:m∈LL ts sc b N):Betw sc (vsT ts) b N m:=qkR X.B X.N1 h
end Cx
namespace Cx
variable {ts:TS} {sc:Sc} {b:List Bd} {N:Nat}
end Cx
end IK
namespace IL
open P1 GP GS GZ IK
variable {ts:TS} {sc:Sc} {b:List Bd} {N:Nat}
theorem qkT(X:Cx ts sc b N)(g:List (List Bool))(lp:Int)(r:0<=lp):anyM sc (vsT ts) b g (lp % sc.steps)∈LL ts sc b N:=by
 have t:=X.N1;have o:0<=lp % sc.steps/\lp % sc.steps<N:=⟨Int.emod_nonneg _ (zW1 X.hS),zW2 (Int.emod_lt_of_pos lp (b:=sc.steps) (zW1 X.hS)) X.hS⟩;obtain⟨k,p⟩:=Int.eq_ofNat_of_zero_le o.1;rw[p];refine qf9 sc (vsT ts) b g N k X.hS zOm (fun x j=>?_) (fun x j=>(X.bts x j).2.2.1) X.B.sub;obtain⟨i,l,rfl⟩:=uY j;obtain⟨C,I⟩:=X.B.lo i l (by rw[<-X.B.len];exact l);omega
end IL
namespace I1
open YF P1 EO EP EQ F4 GF GR GS GU
theorem qkU(l:List Int)(x:Int)(P:l.length<=1000000000):qd qb 103 [lI l,aI x] (aB (decide (x∈l))):=by
 refine qSU call103 func103 rfl ?_;refine qh.up l.length (fun k st=>st.tm 0=lI l/\st.tm 1=aI x/\st.tm 5=aI k/\st.mu=[]/\∀(i:Nat) (h:i<l.length),i<k->l[i]≠x) ?_ ?_
 .simp [go_sem]
 rintro k st R ⟨o,p,r,t,J⟩;by_cases g:k<l.length
 .by_cases j:l[k]=x
  .simp [go_sem,o,p,r,t,g,j]
   rw[decide_eq_true (by rw[<-j];exact qt g)];exact .zsc _
  .simp [go_sem,o,p,r,t,g,j]
   refine⟨zWr,fun i h C=>?_⟩;rcases Qf.1 C with I|I
   .exact J i h I
   .subst I;exact j
 .simp [go_sem,o,p,r,t,g]
  rw[decide_eq_false (fun h=>by
   obtain⟨i,C,e⟩:=vB.1 h;exact J i C zOm e)]
  exact .zsc _
def ul(k:Nat)(x:Bd)(j:Nat):List (Int×Int):=((x.up.ts.take j).filter fun t=>!decide (t∈x.lo.ts)).map fun t=>((k:Int),t)
theorem qkV(k:Nat)(x:Bd)(j:Nat)(h:j<x.up.ts.length):ul k x (j+1)=ul k x j++(if x.up.ts[j]∈x.lo.ts then [] else [((k:Int),x.up.ts[j])]):=by
 unfold ul;rw[uJ h,List.filter_append,zd];by_cases g:x.up.ts[j]∈x.lo.ts<;>simp[g]
theorem qkW(k:Nat)(x:Bd)(j:Nat):(ul k x j).length<=x.up.ts.length:=by
 unfold ul;rw[zJ];exact Nat.le_trans (List.length_filter_le _ _) (List.length_take_le' _ _)
theorem qkX(i:List Bd)(hl:i.length<=1000)(hb:∀ x,x∈i->wt x):qd qb 56 [lBd i] (lP (qy i 0)):=by
 refine qSU call56 func56 rfl ?_;refine qh.upK i.length (fun k st=>st.tm 0=lBd i/\st.tm 4=aI k/\Own st.mu 2 (st.tm 3) ((qy (i.take k) 0).map rP)) ?_ ?_
 .exact ⟨zSi,zSi,.inl (by simp[go_sem,qy])⟩
 rintro k st hk ⟨t,C,I⟩;by_cases o:k<i.length
 .have w1:=zWk k
  have hx:=hb _ (qt o);have a3:=hx.up;have a4:=hx.lo;have a1:=Vb (i.take k) 0 fun y hy=>hb y (List.mem_of_mem_take hy)
  have a5:(qy (i.take k) 0).length<=1000000000:=by
   have h2:(i.take k).length<=1000:=zSo;have h3:=Nat.mul_le_mul_right 1000000 h2;omega
  have J:=ph i k o;have P:ul k i[k] i[k].up.ts.length=yh k i[k]:=by unfold ul;rw[qX];rfl
  simp[go_sem,t,C,o];refine qh.upK i[k].up.ts.length (fun j st2=>st2.tm 0=lBd i/\st2.tm 4=aI k/\st2.tm 5=aI j/\Own st2.mu 2 (st2.tm 3) ((qy (i.take k) 0++ul k i[k] j).map rP)) ?_ ?_
  .exact ⟨zS1 t,zS1 C,zSi,by simpa[go_sem,ul] using I⟩
  clear t C I;rintro j st2 hj ⟨t,C,T,I⟩;by_cases r:j<i[k].up.ts.length
  .have w2:=zWk j
   have hh:=qkU i[k].lo.ts i[k].up.ts[j] zOm;have U:=qkV k i[k] j r;have a6:=qkW k i[k] j;simp[go_sem,t,C,T,o,r];refine qg.intro zKr ?_;simp[go_sem,t,C,T,o,r];refine qc.pure hh (.zk (zf _) (.zs .nil)) ?_;by_cases hm:i[k].up.ts[j]∈i[k].lo.ts
   .rw [if_pos hm,zL]at U
    simp[go_sem,hm,T,r,w2]
    try refine⟨r,Keep.mk' ?_⟩
    try refine Keep.mk' ?_
    refine⟨zS1 t,zS1 C,zSi,?_⟩;rw[U];simpa[go_sem] using I
   .rw [if_neg hm]at U
    simp[go_sem,hm,t,C,T,o,r];refine qA.ownB (e:=91) (sz:=2) (bt:=16) (zv := .agg [aI 0,aI 0]) (xs:=(qy (i.take k) 0++ul k i[k] j).map rP) (ys:=[rP ((k:Int),i[k].up.ts[j])]) zSi zSi zSi rfl rfl zOm zOm I (by simp[qH]) (Yf _) (Yf [_]) zSo ?_;intro a7 l a0 _ _ _;simp[go_sem,T,r,w2]
    try refine⟨r,Keep.mk' ?_⟩
    try refine Keep.mk' ?_
    refine⟨zS1 t,zS1 C,zSi,?_⟩;rw[U,<-zc,zd (l₂:=[_])];simpa[go_sem] using a0
  .have R:j=i[k].up.ts.length:=by omega
   subst R;rw[P,<-J]at I;simp[go_sem,t,C,T,o,w1]
   try refine⟨o,Keep.mk' ?_⟩
   try refine Keep.mk' ?_
   exact⟨zS1 t,zSi,zVs I⟩
 .have R:k=i.length:=by omega
  subst R;rw[qX]at I;simp[go_sem,t,C];exact Own.rdP2 I
theorem mP(ts:TS)(sc:Sc)(bs:List Bd)(N:Nat)(hS:sc.steps=N)(hN:N<=4)(hl:bs.length<=1000)(hb:∀ x,x∈bs->wt x)(ad:bs.length<=ts.fields.length)(a7:(qy bs 0).length<=100000) :
  qd qb 22 [eTS ts,eSc sc,lBd bs] (lCh (chs (vsT ts) (qy bs 0) N)):=by
 have a3:=qkX bs hl hb;have a5:=WI bs 0;generalize hF:qy bs 0=F at *
 refine qSU call22 func22 rfl ?_;refine qc.zP a3 (.zk (j0 _) .nil) ?_;refine qh.upK N (fun k st=>st.tm 3 = .ip (cTS ts)/\st.tm 4 = .ip [lI sc.atoms,aI sc.steps]/\st.tm 8=lP F/\st.tm 9=aI k/\Own st.mu 3 (st.tm 7) ((chs (vsT ts) F k).map rC)) ?_ ?_
 .exact ⟨zSi,zSi,zSi,zSi,.inl (by simp[go_sem,chs])⟩
 rintro k st hk ⟨T,e4,I,J,ho⟩;by_cases a6:k<N
 .have w1:=zWk k
  have n4:(k:Int)<4:=zOm;have ae:=WH (vsT ts) F k;have aa:k*F.length<=4*100000:=Nat.mul_le_mul zOm a7;simp[go_sem,e4,I,J,hS,a6,n4];refine qh.upK F.length (fun j st2=>st2.tm 3 = .ip (cTS ts)/\st2.tm 4 = .ip [lI sc.atoms,aI sc.steps]/\st2.tm 8=lP F/\st2.tm 9=aI k/\st2.tm 10=aI j/\Own st2.mu 3 (st2.tm 7) ((chs (vsT ts) F k++chA (vsT ts) k (F.take j)).map rC)) ?_ ?_
  .exact ⟨zS1 T,zS1 e4,zS1 I,zS1 J,zSi,by simpa[go_sem,chA] using ho⟩
  clear T e4 I J ho;rintro j st2 hj ⟨T,e4,I,J,o,a1⟩;by_cases i:j<F.length
  .have w2:=zWk j
   have hm:=a5 _ (qt i);obtain⟨f,hf⟩:=Int.eq_ofNat_of_zero_le (show 0<=F[j].1 by have:=hm.1;simpa using this);have t:f<ts.fields.length:=by have:=hm.2;rw[hf]at this;simp at this;omega
   have U:0<=F[j].1:=zOm;have a0:F[j].1.toNat=f:=zOm;have P:F[j].1<ts.fields.length:=zOm;have a8:(vsT ts).getD F[j].1.toNat true=ts.fields[f].var:=by rw[hf,Int.toNat_natCast,q8,zm,qv t];rfl
   have af:=WG (vsT ts) k (F.take j);have ag:=List.length_take_le j F;have hs:=pz (vsT ts) k F j i;rw[a8]at hs;have a2:∀(K:AV->Mu->Prop),(∀ R l,Own l 3 R ((chs (vsT ts) F k++(chA (vsT ts) k (F.take j)++[((k:Int),F[j].1,F[j].2)])).map rC)->K R l)->qA qb st2.mu #[68,68] (st2.tm 7) (.lst true [[aI k,aI F[j].1,aI F[j].2]]) K:=fun K hK=>by
    refine qA.ownB (e:=124) (sz:=3) (bt:=24) (zv := .agg [aI 0,aI 0,aI 0]) (xs:=(chs (vsT ts) F k++chA (vsT ts) k (F.take j)).map rC) (ys:=[rC ((k:Int),F[j].1,F[j].2)]) zSi zSi zSi rfl rfl zOm zOm a1 (by simp[qH]) (Zd _) (Zd [_]) zSo ?_;intro R l a9 _ _ _;exact hK R l (by rw[<-zc,zd (l₂:=[_])];exact a9)
   by_cases hc:(decide (k=0)||ts.fields[f].var)=true
   .rw [if_pos hc]at hs
    by_cases C:k=0
    .subst C
     simp[go_sem,I,J,o,i];refine qg.intro zKr ?_;simp[go_sem,I,J,o,i];refine qg.intro zKr ?_;simp[go_sem,I,J,o,i];refine a2 _ fun R l h1=>?_
     simp[go_sem,o,i,w2]
     try refine⟨i,Keep.mk' ?_⟩
     try refine Keep.mk' ?_
     refine⟨zS1 T,zS1 e4,zS1 I,zS1 J,zSi,?_⟩;rw[hs];simpa[go_sem] using h1
    .have hv:ts.fields[f].var=true:=by simpa[C] using hc
     simp[go_sem,T,I,J,o,i,C,U,a0,P,t,hv];refine qg.intro zKr ?_;simp[go_sem,T,I,J,o,i,C,U,a0,P,t,hv];refine qg.intro zKr ?_;simp[go_sem,T,I,J,o,i,C,U,a0,P,t,hv];refine a2 _ fun R l h1=>?_
     simp[go_sem,o,i,w2]
     try refine⟨i,Keep.mk' ?_⟩
     try refine Keep.mk' ?_
     refine⟨zS1 T,zS1 e4,zS1 I,zS1 J,zSi,?_⟩;rw[hs];simpa[go_sem] using h1
   .rw [if_neg hc,zL]at hs
    have C:¬k=0:=fun h=>hc (zP1 h)
    have hv:ts.fields[f].var=false:=by simpa[C] using hc
    simp[go_sem,T,I,J,o,i,C,U,a0,P,t,hv,w2];refine qg.intro zKr ?_;simp[go_sem,T,I,J,o,i,C,U,a0,P,t,hv,w2]
    try refine⟨i,Keep.mk' ?_⟩
    try refine Keep.mk' ?_
    refine⟨zS1 T,zS1 e4,zS1 I,zS1 J,zSi,?_⟩;rw[hs];simpa[go_sem] using a1
  .have a4:j=F.length:=by omega
   subst a4;rw[qX]at a1;simp[go_sem,I,J,o,w1]
   try refine⟨a6,Keep.mk' ?_⟩
   try refine Keep.mk' ?_
   refine⟨zS1 T,zS1 e4,zS1 I,zSi,?_⟩;rw[WE];simpa[go_sem] using a1
 .have a4:k=N:=by omega
  subst a4;simp[go_sem,e4,J,hS];exact Own.rd ho (Zd _).ok fun r hr c hc=>by
   obtain⟨n,_,rfl⟩:=qk.1 hr;simp at hc;rcases hc with rfl|rfl|rfl<;>exact HF.sc _
end I1
namespace W41
open Y1 YF P1 GS
abbrev u8(x:Int):AV := .sc (.int .u8 x)
abbrev lRaw(r:List (List Int)):AV := .lst false (r.map fun l=>[.lst false (l.map fun x=>[u8 x])])
abbrev j9(ts:TS)(sc:Sc)(raw:List (List Int))(n:Nd)(g:List (List Bool))(lp:Int):List AV:=cTS ts++([lI sc.atoms,aI sc.steps,lRaw raw]++(cNd n++[lBB g,u8 lp]))
end W41
namespace I2
open YF P1 EO EP EQ F4 GF G5 GR GS GW HE W41
theorem qkY(ts:TS)(sc:Sc)(F:Fit9 ts sc):qL qb 24 [eTS ts,eSc sc] [] (fun e m=>∃ av,e = .ret av/\Own m 4 av (ts.fields.map (rowD sc))/\(0<ts.fields.length->∃ b,qr av=some b)):=by
 have a0:=F.nf;refine qSW call24 func24 rfl {} ?_;simp[go_sem];refine qh.upK ts.fields.length (fun k st=>st.tm 2 = .ip (cTS ts)/\st.tm 3 = .ip [lI sc.atoms,aI sc.steps]/\st.tm 6=aI k/\Own st.mu 4 (st.tm 5) ((ts.fields.take k).map (rowD sc))/\(0<k->∃ b,qr (st.tm 5)=some b)) ?_ ?_
 .exact ⟨zSi,zSi,zSi,.inl zSi,fun h=>absurd h zOm⟩
 rintro k st hk ⟨t,U,C,I,J⟩;by_cases i:k<ts.fields.length
 .have w1:=zWk k
  have o:=qt i;have r:=pt sc F.g F.p ts.fields[k].sorts (F.f1 _ o).1 (F.f1 _ o).2 (F.fs _ o);simp[go_sem,t,C,i];refine qg.intro zKr ?_;simp[go_sem,t,U,C,i];refine qc.zP r (.zk (zx _) (.zk (zf _) .nil)) ?_;refine .inl (y9.ownB (e:=113) (sz:=4) (bt:=64) (zv := .agg [aI 0,.lst true [],aI 0,.lst true []]) (xs:=(ts.fields.take k).map (rowD sc)) (ys:=[rowD sc ts.fields[k]]) zSi zSi zSi rfl rfl zOm zOm I (by simp[qH,rowD]) (Yg sc _) (Yg sc [_]) zSo ?_);intro a1 l P _ _ _ R;simp[go_sem,C,i,w1];refine Keep.mk' ⟨zS1 t,zS1 U,zSi,?_,fun _=>by simp[go_sem];exact R zSp⟩;rw[uJ i,zd];simpa[go_sem] using P
 .have T:k=ts.fields.length:=by omega
  subst T;rw[qX]at I;simp[go_sem,t,C];exact⟨I,J⟩
def y5(ts:TS)(sc:Sc)(raw:List (List Int))(k:Nat):List (List AV):=((zB ts sc raw).take k).map cBd++(ts.fields.drop k).map (rowD sc)
theorem qkZ(ts:TS)(sc:Sc)(raw:List (List Int))(k:Nat)(h:k<=ts.fields.length):(y5 ts sc raw k).length=ts.fields.length:=by
 simp[y5,uR];omega
theorem qk0(ts:TS)(sc:Sc)(raw:List (List Int))(k:Nat):zX 4 (y5 ts sc raw k):=fun r g=>by
 rcases qC.1 g with h|h
 .obtain ⟨x,_,rfl⟩:=qk.1 h;rfl
 .obtain ⟨x,_,rfl⟩:=qk.1 h;rfl
theorem qk1(ts:TS)(sc:Sc)(raw:List (List Int))(k:Nat)(h:k<ts.fields.length):(y5 ts sc raw k)[k]?=some (rowD sc ts.fields[k]):=by
 have g:(((zB ts sc raw).take k).map cBd).length=k:=by simp[uR];omega
 unfold y5;rw[qT zOm,g,Nat.sub_self,zm,List.getElem?_drop,Nat.add_zero,qv h];rfl
theorem qk2(ts:TS)(sc:Sc)(raw:List (List Int))(k:Nat)(h:k<ts.fields.length):(y5 ts sc raw k).set k (cBd ((zB ts sc raw)[k]'(by rw[uR];exact h)))=y5 ts sc raw (k+1):=by
 have g:(((zB ts sc raw).take k).map cBd).length=k:=by simp[uR];omega
 have i:k<(zB ts sc raw).length:=by rw[uR];exact h
 unfold y5;rw[List.set_append_right _ _ zOm,g,Nat.sub_self,zD h,List.map_cons,List.set_cons_zero,uJ i,zd,zc];rfl
theorem FzQ.above2{Q:qM->St->Prop}{i d d' L:Nat}{x x':AV}{st:St}(o:d≠d')(l:Rd (cutM (fun j=>decide (L<=j)) st.mu 0) (st.tm d) x)(g:Rd (cutM (fun j=>decide (L<=j)) st.mu 0) (st.tm d') x')
  (k:Q (.exit i) ((st.put (some d) x st.mu).put (some d') x' (cutM (fun j=>!decide (L<=j)) st.mu 0))):FzQ Q (.exit i) st:=by
 refine⟨_,⟨fun j=>decide (L<=j),rfl,fun j=>?_⟩,trivial,k⟩;simp only[St.put];split
 .rename_i h;subst h;exact .rd _ _ g
 .split
  .rename_i h;subst h;exact .rd _ _ l
  .exact .same _
theorem XH{sz:Nat}:∀{xs:List (List AV)},zX sz xs->∀(i:Nat) (h:i<xs.length) (j:Nat),j<sz->xs.flatten[i*sz+j]?=xs[i][j]?
 | [],_,i,h,j,l=>absurd h (Nat.not_lt_zero i)
 |r :: xs,w,i,h,j,l=>by
  have g:r.length=sz:=w r zSp;rw[List.flatten_cons];cases i with
  |zero=>rw[Nat.zero_mul,Nat.zero_add,zGa];rfl
  |succ i =>
   rw[qT (by rw[g,Nat.succ_mul];omega),g,show (i+1)*sz+j-sz=i*sz+j by rw[Nat.succ_mul];omega];exact XH (fun r g=>w r (zP1 g)) i (zUs h) j l
theorem Own.same{sz:Nat}{mu l:Mu}{av:AV}{xs:List (List AV)}(h:Own mu sz av xs)(g:∀ b,qr av=some b->l[b]?=mu[b]?):Own l sz av xs:=by
 rcases h with rfl|⟨b,rfl,i⟩
 .exact .inl rfl
 .exact .inr ⟨b,rfl,by rw[g b rfl];exact i⟩
theorem qk3(ts:TS)(sc:Sc)(F:Fit9 ts sc)(raw:List (List Int))(hr:∀ l,l∈raw->∀ x,x∈l->0<=x/\x<=255):qd qb 18 [eTS ts,eSc sc,lRaw raw] (lBd (zB ts sc raw)):=by
 have cr:=F.nf;have b8:=qkY ts sc F;have aw:=uR ts sc raw;refine qSU call18 func18 rfl ?_;refine qc.eff0 b8 ?_ (by rintro r m ⟨P,h,_⟩;cases h);rintro r m ⟨P,h,bo,bq⟩;cases h;simp[go_sem];refine qh.upK ts.fields.length (fun k st=>st.tm 2=lRaw raw/\st.tm 7=r/\st.tm 8=aI k/\Own st.mu 4 r (y5 ts sc raw k)) ?_ ?_
 .exact ⟨zSi,zSi,zSi,by simpa[go_sem,y5] using bo⟩
 rintro k st hk ⟨e2,e7,e8,ho⟩;have b9:=qkZ ts sc raw k hk;have aj:=qk0 ts sc raw k;by_cases aa:k<ts.fields.length
 .have w1:=zWk k
  have ax:=qk1 ts sc raw k aa;obtain⟨BK,br,bs⟩:∃ BK,(zB ts sc raw)[k]?=some BK/\BK=Vi (raw.getD k []) ⟨⟨ts.fields[k].sorts.length,[]⟩,⟨ts.fields[k].sorts.length,zQ sc ts.fields[k].sorts⟩⟩:=⟨_,qv zOm,Vj ts sc raw k zOm aa⟩;have ak:(y5 ts sc raw k).set k (cBd BK)=y5 ts sc raw (k+1):=by
   rw[<-qk2 ts sc raw k aa,(qe.1 br).2]
  have cs:=pS sc F.g ts.fields[k].sorts (F.f1 _ (qt aa)).2;generalize hW:y5 ts sc raw k=W at ho b9 aj ax ak;obtain⟨B,hB⟩:=bq zOm;rcases ho with h|⟨B',h,hc⟩
  .rw [h]at hB;cases hB
  .rw [h]at hB;cases hB
   have bu:W.flatten.length=W.length*4:=by rw[zW aj]
   have bv:=(qe.1 hc).1;have bw:W.flatten[k*4+2]?=some (aI ts.fields[k].sorts.length):=by
    have:=XH aj k zOm 2 zOm;rw[this,(qe.1 ax).2];rfl
   have ca:W.flatten[k*4+3]?=some (lI (zQ sc ts.fields[k].sorts)):=by
    have:=XH aj k zOm 3 zOm;rw[this,(qe.1 ax).2];rfl
   have bb:=fun x:List AV=>ZF W k x aj
   have ct:=bu;generalize cu:(ts.fields[k].sorts.length:Int)=t at *
   generalize cv:zQ sc ts.fields[k].sorts=U at *
   generalize bc:raw.getD k []=rw at *
   generalize cw:W.flatten=FL at *
   have cb:(FL.drop (k*4+2)).take 2=[aI t,lI U]:=by
    obtain⟨a1,a2⟩:=qe.1 bw;obtain⟨b1,b2⟩:=qe.1 ca;rw[zD a1,a2,zD b1,b2];rfl
   simp[go_sem,e7,e8,h,b9,aa,hc];refine OptK.intro (.agg [aI t,lI U]) (by rw[if_pos zOm,cb]) ?_;simp[go_sem];generalize hR:st.mu.length=R at *
   refine qh.upF U.length (fun j=>Keep (fun st2=>st2.tm 2=lRaw raw/\st2.tm 7=r/\st2.tm 8=aI k/\st2.tm 9 = .ptr R 0/\st2.tm 10 = .ptr (R+1) 0/\st2.tm 11 = .ptr (R+2) 0/\st2.tm 12=aI j/\∃ o a3,st2.mu[R]?=some (.arr [aI t,lI U])/\st2.mu[R+1]?=some (.arr [aI t,o])/\st2.mu[R+2]?=some (.arr [aI t,a3]) /\
    Own st2.mu 1 o ((selW (fun x=>decide (1<x)) rw (U.take j) 0).map rI)/\Own st2.mu 1 a3 ((selW (fun x=>decide (0<x)) rw (U.take j) 0).map rI)/\(∀ b,qr o=some b->R+3<=b)/\(∀ b,qr a3=some b->R+3<=b)/\(∀ b,qr o=some b->qr a3≠some b)/\∀ i,i<R->st2.mu[i]?=st.mu[i]?) .mk) ?_ ?_
   .exact Keep.mk' ⟨zS1 e2,zS1 e7,zS1 e8,zSi,zSi,zSi,zSi,.lst true [],.lst true [],zS1 hR,zS1 hR,zS1 hR,.inl (by simp[selW]),.inl (by simp[selW]),by simp[qr],by simp[qr],by simp[qr],fun i hi=>by simp[go_sem];rw[zGa]⟩
   rintro j st2 hj ⟨f2,f7,f8,f9,f10,f11,f12,o,a3,c9,c10,c11,ol,oh,bl,bh,nb,low⟩;by_cases I:j<U.length
   .skip
    have w2:=zWk j;have an:=gh (fun x=>decide (1<x)) rw U j I;have ao:=gh (fun x=>decide (0<x)) rw U j I;by_cases ab:k<raw.length
    .have be:rw=raw[k]:=by rw[<-bc,q8,qv ab];rfl
     by_cases a8:j<raw[k].length
     .have bg:=hr _ (qt ab) _ (qt a8)
      have hx:(raw[k][j]).tmod 4=wtR rw j:=by
       rw[u3 bg.1,wtR,be,if_pos a8,q8,qv a8];rfl
      have cx:0<=wtR rw j/\wtR rw j<4:=by rw[<-hx,u3 bg.1];omega
      generalize hw:wtR rw j=w at *
      rcases (show w=0\/w=1\/1<w by omega) with ay|a5|az
      .rw [ay]at hx
       have sl:selW (fun x=>decide (1<x)) rw (U.take (j+1)) 0=selW (fun x=>decide (1<x)) rw (U.take j) 0:=by simpa[ay] using an
       have sh:selW (fun x=>decide (0<x)) rw (U.take (j+1)) 0=selW (fun x=>decide (0<x)) rw (U.take j) 0:=by simpa[ay] using ao
       simp[go_sem,f2,f8,f9,f12,c9,I,w2,ab,a8,hx]
       try refine⟨I,Keep.mk' ?_⟩
       try refine Keep.mk' ?_
       refine⟨zS1 f2,zS1 f7,zS1 f8,zS1 f9,zS1 f10,zS1 f11,zSi,o,a3,by simpa[go_sem] using c9,by simpa[go_sem] using c10,by simpa[go_sem] using c11,by rw[sl];simpa[go_sem] using ol,by rw[sh];simpa[go_sem] using oh,bl,bh,nb,by simpa[go_sem] using low⟩
      .rw [a5]at hx
       have sl:selW (fun x=>decide (1<x)) rw (U.take (j+1)) 0=selW (fun x=>decide (1<x)) rw (U.take j) 0:=by simpa[a5] using an
       have sh:selW (fun x=>decide (0<x)) rw (U.take (j+1)) 0=selW (fun x=>decide (0<x)) rw (U.take j) 0++[U[j]]:=by simpa[a5] using ao
       simp[go_sem,f2,f8,f9,f12,c9,I,ab,a8,hx];refine qg.intro zKr ?_;simp[go_sem,f9,f11,f12,c9,c11,I];refine qA.ownB (e:=3) (sz:=1) (bt:=8) (zv:=aI 0) (xs:=(selW (fun x=>decide (0<x)) rw (U.take j) 0).map rI) (ys:=[rI U[j]]) zSi zSi zSi rfl rfl zOm zOm oh (by simp[qH]) (zU _) (zU [_]) (by have:=(ud (fun x=>decide (0<x)) rw (U.take j) 0).length_le;have:=List.length_take_le j U;simp;omega) ?_;intro J mh T C a0 b0;have d9:mh[R]?=some (.arr [aI t,lI U]):=by rw[C R (qe.1 c9).1 (fun h=>zW1 (bh R h))];exact c9
       have d10:mh[R+1]?=some (.arr [aI t,o]):=by rw[C (R+1) (qe.1 c10).1 (fun h=>zW1 (bh _ h))];exact c10
       have d11:mh[R+2]?=some (.arr [aI t,a3]):=by rw[C (R+2) (qe.1 c11).1 (fun h=>zW1 (bh _ h))];exact c11
       have ad:=(qe.1 d11).1;have aq:=(qe.1 c11).1;have ae:Own mh 1 o ((selW (fun x=>decide (1<x)) rw (U.take j) 0).map rI):=Own.same ol fun b hb=>C b (Own.lt ol hb) (nb b hb)
       have af:=Own.set ae (i:=R+2) (.arr [aI t,J]) (fun h=>zW1 (bl _ h));have a6:=Own.set T (i:=R+2) (.arr [aI t,J]) (fun h=>zW1 (a0 _ h));have a9:∀ b,qr J=some b->R+3<=b:=fun b h=>zW1 (a0 b h)
       have ag:∀ b,qr o=some b->qr J≠some b:=fun b h h2=>zW2 (a0 b h2) (Own.lt ol h)
       have a4:∀ i,i<R->(mh.set (R+2) (.arr [aI t,J]))[i]?=st.mu[i]?:=fun i hi=>by
        rw[zGl,C i zOm (fun h=>zW1 (bh i h))];exact low i hi
       simp[go_sem,f11,f12,d11,I,w2,Own.one T,Own.cells T]
       try refine⟨I,Keep.mk' ?_⟩
       try refine Keep.mk' ?_
       refine⟨zS1 f2,zS1 f7,zS1 f8,zS1 f9,zS1 f10,zS1 f11,zSi,o,J,by simp[go_sem];exact d9,by simp[go_sem];exact d10,zS1 ad,by rw[sl];simpa[go_sem] using af,by rw[sh,zd];simpa[go_sem] using a6,bl,a9,ag,by simpa[go_sem] using a4⟩
      .skip
       have b3:0<w:=zOm;have sl:selW (fun x=>decide (1<x)) rw (U.take (j+1)) 0=selW (fun x=>decide (1<x)) rw (U.take j) 0++[U[j]]:=by simpa[az] using an
       have sh:selW (fun x=>decide (0<x)) rw (U.take (j+1)) 0=selW (fun x=>decide (0<x)) rw (U.take j) 0++[U[j]]:=by simpa[b3] using ao
       simp[go_sem,f2,f8,f9,f12,c9,I,b3,az,ab,a8,hx];refine qg.intro zKr ?_;simp[go_sem,f9,f11,f12,c9,c11,I];refine qA.ownB (e:=3) (sz:=1) (bt:=8) (zv:=aI 0) (xs:=(selW (fun x=>decide (0<x)) rw (U.take j) 0).map rI) (ys:=[rI U[j]]) zSi zSi zSi rfl rfl zOm zOm oh (by simp[qH]) (zU _) (zU [_]) (by have:=(ud (fun x=>decide (0<x)) rw (U.take j) 0).length_le;have:=List.length_take_le j U;simp;omega) ?_;intro J mh T C a0 b0;have d9:mh[R]?=some (.arr [aI t,lI U]):=by rw[C R (qe.1 c9).1 (fun h=>zW1 (bh R h))];exact c9
       have d10:mh[R+1]?=some (.arr [aI t,o]):=by rw[C (R+1) (qe.1 c10).1 (fun h=>zW1 (bh _ h))];exact c10
       have d11:mh[R+2]?=some (.arr [aI t,a3]):=by rw[C (R+2) (qe.1 c11).1 (fun h=>zW1 (bh _ h))];exact c11
       have ad:=(qe.1 d11).1;have aq:=(qe.1 c11).1;have ae:Own mh 1 o ((selW (fun x=>decide (1<x)) rw (U.take j) 0).map rI):=Own.same ol fun b hb=>C b (Own.lt ol hb) (nb b hb)
       have af:=Own.set ae (i:=R+2) (.arr [aI t,J]) (fun h=>zW1 (bl _ h));have a6:=Own.set T (i:=R+2) (.arr [aI t,J]) (fun h=>zW1 (a0 _ h));have a9:∀ b,qr J=some b->R+3<=b:=fun b h=>zW1 (a0 b h)
       have ag:∀ b,qr o=some b->qr J≠some b:=fun b h h2=>zW2 (a0 b h2) (Own.lt ol h)
       have a4:∀ i,i<R->(mh.set (R+2) (.arr [aI t,J]))[i]?=st.mu[i]?:=fun i hi=>by
        rw[zGl,C i zOm (fun h=>zW1 (bh i h))];exact low i hi
       simp[go_sem,f11,d11,b3,az,Own.one T,Own.cells T];refine qg.intro zKr ?_;have e9:(mh.set (R+2) (.arr [aI t,J]))[R]?=some (.arr [aI t,lI U]):=by rw[zGl];exact d9
       have b4:(mh.set (R+2) (.arr [aI t,J]))[R+1]?=some (.arr [aI t,o]):=by rw[zGl];exact d10
       have b5:(mh.set (R+2) (.arr [aI t,J]))[R+2]?=some (.arr [aI t,J]):=zo ad;generalize cy:mh.set (R+2) (.arr [aI t,J])=M2 at *
       simp[go_sem,f9,f10,f12,e9,b4,I];refine qA.ownB (e:=3) (sz:=1) (bt:=8) (zv:=aI 0) (xs:=(selW (fun x=>decide (1<x)) rw (U.take j) 0).map rI) (ys:=[rI U[j]]) zSi zSi zSi rfl rfl zOm zOm af (by simp[qH]) (zU _) (zU [_]) (by have:=(ud (fun x=>decide (1<x)) rw (U.take j) 0).length_le;have:=List.length_take_le j U;simp;omega) ?_;intro al ml b6 au b7 cz;have g9:ml[R]?=some (.arr [aI t,lI U]):=by rw[au R (qe.1 e9).1 (fun h=>zW1 (bl R h))];exact e9
       have bi:ml[R+1]?=some (.arr [aI t,o]):=by rw[au (R+1) (qe.1 b4).1 (fun h=>zW1 (bl _ h))];exact b4
       have cc:ml[R+2]?=some (.arr [aI t,J]):=by rw[au (R+2) (qe.1 b5).1 (fun h=>zW1 (bl _ h))];exact b5
       have l10:=(qe.1 bi).1;have cq:=(qe.1 b5).1;have cd:Own ml 1 J ((selW (fun x=>decide (0<x)) rw (U.take j) 0++[U[j]]).map rI):=by
        rw[zd];exact Own.same a6 fun b hb=>au b (Own.lt a6 hb) (fun h=>ag b h hb)
       have cf:=Own.set b6 (i:=R+1) (.arr [aI t,al]) (fun h=>zW1 (b7 _ h));have cg:=Own.set cd (i:=R+1) (.arr [aI t,al]) (fun h=>zW1 (a9 _ h));simp[go_sem,f10,f12,bi,I,w2,Own.one b6,Own.cells b6]
       try refine⟨I,Keep.mk' ?_⟩
       try refine Keep.mk' ?_
       refine⟨zS1 f2,zS1 f7,zS1 f8,zS1 f9,zS1 f10,zS1 f11,zSi,al,J,by simp[go_sem];exact g9,zS1 l10,by simp[go_sem];exact cc,by rw[sl,zd];simpa[go_sem] using cf,by rw[sh];simpa[go_sem] using cg,fun b h=>zW1 (b7 b h),a9,fun b h h2=>zW2 (b7 b h) (Own.lt a6 h2),fun i hi=>?_⟩;simp[go_sem];rw[zGl,au i zOm (fun h=>zW1 (bl i h))];exact a4 i hi
     .have a5:wtR rw j=1:=by rw[wtR,be,if_neg a8]
      have sl:selW (fun x=>decide (1<x)) rw (U.take (j+1)) 0=selW (fun x=>decide (1<x)) rw (U.take j) 0:=by simpa[a5] using an
      have sh:selW (fun x=>decide (0<x)) rw (U.take (j+1)) 0=selW (fun x=>decide (0<x)) rw (U.take j) 0++[U[j]]:=by simpa[a5] using ao
      simp[go_sem,f2,f8,f9,f12,c9,I,ab,a8];refine qg.intro zKr ?_;simp[go_sem,f9,f11,f12,c9,c11,I];refine qA.ownB (e:=3) (sz:=1) (bt:=8) (zv:=aI 0) (xs:=(selW (fun x=>decide (0<x)) rw (U.take j) 0).map rI) (ys:=[rI U[j]]) zSi zSi zSi rfl rfl zOm zOm oh (by simp[qH]) (zU _) (zU [_]) (by have:=(ud (fun x=>decide (0<x)) rw (U.take j) 0).length_le;have:=List.length_take_le j U;simp;omega) ?_;intro J mh T C a0 b0;have d9:mh[R]?=some (.arr [aI t,lI U]):=by rw[C R (qe.1 c9).1 (fun h=>zW1 (bh R h))];exact c9
      have d10:mh[R+1]?=some (.arr [aI t,o]):=by rw[C (R+1) (qe.1 c10).1 (fun h=>zW1 (bh _ h))];exact c10
      have d11:mh[R+2]?=some (.arr [aI t,a3]):=by rw[C (R+2) (qe.1 c11).1 (fun h=>zW1 (bh _ h))];exact c11
      have ad:=(qe.1 d11).1;have aq:=(qe.1 c11).1;have ae:Own mh 1 o ((selW (fun x=>decide (1<x)) rw (U.take j) 0).map rI):=Own.same ol fun b hb=>C b (Own.lt ol hb) (nb b hb)
      have af:=Own.set ae (i:=R+2) (.arr [aI t,J]) (fun h=>zW1 (bl _ h));have a6:=Own.set T (i:=R+2) (.arr [aI t,J]) (fun h=>zW1 (a0 _ h));have a9:∀ b,qr J=some b->R+3<=b:=fun b h=>zW1 (a0 b h)
      have ag:∀ b,qr o=some b->qr J≠some b:=fun b h h2=>zW2 (a0 b h2) (Own.lt ol h)
      have a4:∀ i,i<R->(mh.set (R+2) (.arr [aI t,J]))[i]?=st.mu[i]?:=fun i hi=>by
       rw[zGl,C i zOm (fun h=>zW1 (bh i h))];exact low i hi
      simp[go_sem,f11,f12,d11,I,w2,Own.one T,Own.cells T]
      try refine⟨I,Keep.mk' ?_⟩
      try refine Keep.mk' ?_
      refine⟨zS1 f2,zS1 f7,zS1 f8,zS1 f9,zS1 f10,zS1 f11,zSi,o,J,by simp[go_sem];exact d9,by simp[go_sem];exact d10,zS1 ad,by rw[sl];simpa[go_sem] using af,by rw[sh,zd];simpa[go_sem] using a6,bl,a9,ag,by simpa[go_sem] using a4⟩
    .have a5:wtR rw j=1:=by
      have:rw=[]:=by rw[<-bc,q8,yC zOm];rfl
      rw[wtR,this];rfl
     have sl:selW (fun x=>decide (1<x)) rw (U.take (j+1)) 0=selW (fun x=>decide (1<x)) rw (U.take j) 0:=by simpa[a5] using an
     have sh:selW (fun x=>decide (0<x)) rw (U.take (j+1)) 0=selW (fun x=>decide (0<x)) rw (U.take j) 0++[U[j]]:=by simpa[a5] using ao
     simp[go_sem,f2,f8,f9,f12,c9,I,ab];refine qg.intro zKr ?_;simp[go_sem,f9,f11,f12,c9,c11,I];refine qA.ownB (e:=3) (sz:=1) (bt:=8) (zv:=aI 0) (xs:=(selW (fun x=>decide (0<x)) rw (U.take j) 0).map rI) (ys:=[rI U[j]]) zSi zSi zSi rfl rfl zOm zOm oh (by simp[qH]) (zU _) (zU [_]) (by have:=(ud (fun x=>decide (0<x)) rw (U.take j) 0).length_le;have:=List.length_take_le j U;simp;omega) ?_;intro J mh T C a0 b0;have d9:mh[R]?=some (.arr [aI t,lI U]):=by rw[C R (qe.1 c9).1 (fun h=>zW1 (bh R h))];exact c9
     have d10:mh[R+1]?=some (.arr [aI t,o]):=by rw[C (R+1) (qe.1 c10).1 (fun h=>zW1 (bh _ h))];exact c10
     have d11:mh[R+2]?=some (.arr [aI t,a3]):=by rw[C (R+2) (qe.1 c11).1 (fun h=>zW1 (bh _ h))];exact c11
     have ad:=(qe.1 d11).1;have aq:=(qe.1 c11).1;have ae:Own mh 1 o ((selW (fun x=>decide (1<x)) rw (U.take j) 0).map rI):=Own.same ol fun b hb=>C b (Own.lt ol hb) (nb b hb)
     have af:=Own.set ae (i:=R+2) (.arr [aI t,J]) (fun h=>zW1 (bl _ h));have a6:=Own.set T (i:=R+2) (.arr [aI t,J]) (fun h=>zW1 (a0 _ h));have a9:∀ b,qr J=some b->R+3<=b:=fun b h=>zW1 (a0 b h)
     have ag:∀ b,qr o=some b->qr J≠some b:=fun b h h2=>zW2 (a0 b h2) (Own.lt ol h)
     have a4:∀ i,i<R->(mh.set (R+2) (.arr [aI t,J]))[i]?=st.mu[i]?:=fun i hi=>by
      rw[zGl,C i zOm (fun h=>zW1 (bh i h))];exact low i hi
     simp[go_sem,f11,f12,d11,I,w2,Own.one T,Own.cells T]
     try refine⟨I,Keep.mk' ?_⟩
     try refine Keep.mk' ?_
     refine⟨zS1 f2,zS1 f7,zS1 f8,zS1 f9,zS1 f10,zS1 f11,zSi,o,J,by simp[go_sem];exact d9,by simp[go_sem];exact d10,zS1 ad,by rw[sl];simpa[go_sem] using af,by rw[sh,zd];simpa[go_sem] using a6,bl,a9,ag,by simpa[go_sem] using a4⟩
   .skip
    obtain rfl:U.length=j:=zOm;rw[qX]at ol oh;have da:R+2<st2.mu.length:=(qe.1 c11).1;have ch:(cutM (fun j=>decide (R<=j)) st2.mu 0)[R+1]?=some (.arr [aI t,o]):=by rw[jI,c10];simp
    have cj:(cutM (fun j=>decide (R<=j)) st2.mu 0)[R+2]?=some (.arr [aI t,a3]):=by rw[jI,c11];simp
    have bj:∀ l:List Int,∀ r,r∈l.map rI->∀ c,c∈r->HF c:=fun l r hr c hc=>by
     obtain⟨x,_,rfl⟩:=qk.1 hr;simp at hc;subst hc;exact HF.sc _
    have ck:Rd (cutM (fun j=>decide (R<=j)) st2.mu 0) o (lI (selW (fun x=>decide (1<x)) rw U 0)):=Own.rd (Zc ol fun b hb=>zW1 (bl b hb)) (zU _).ok (bj _);have cl:Rd (cutM (fun j=>decide (R<=j)) st2.mu 0) a3 (lI (selW (fun x=>decide (0<x)) rw U 0)):=Own.rd (Zc oh fun b hb=>zW1 (bh b hb)) (zU _).ok (bj _);simp[go_sem,f9,f12,c9];refine FzQ.above2 (d:=10) (d':=11) (L:=R) (x := .ip [aI t,lI (selW (fun x=>decide (1<x)) rw U 0)]) (x' := .ip [aI t,lI (selW (fun x=>decide (0<x)) rw U 0)]) zDe ?_ ?_ ?_
    .simp [go_sem,f10]
     refine .ptr (R+1) 0 [aI t,o] _ ch zSp fun k u v hu hv=>?_
     match k with
     | 0=>simp at hu hv;subst hu;subst hv;exact .zsc _
     | 1=>simp at hu hv;subst hu;subst hv;exact ck
     |k+2=>simp at hv
    .simp [go_sem,f11]
     refine .ptr (R+2) 0 [aI t,a3] _ cj zSp fun k u v hu hv=>?_
     match k with
     | 0=>simp at hu hv;subst hu;subst hv;exact .zsc _
     | 1=>simp at hu hv;subst hu;subst hv;exact cl
     |k+2=>simp at hv
    have ai:(cutM (fun j=>!decide (R<=j)) st2.mu 0)[B]?=some (.arr FL):=by
     rw[jI,low B bv,hc];simp[show ¬R<=B by omega]
    have bk:B<(cutM (fun j=>!decide (R<=j)) st2.mu 0).length:=(qe.1 ai).1;generalize bm:cutM (fun j=>!decide (R<=j)) st2.mu 0=CM at *
    simp[go_sem,f7,f8,h,aa,ai,bm];refine OptK.intro (.ptr B (k*4)) (if_pos zOm) ?_;have a7:=bb (cBd BK) rfl zOm;rw[ak,yq _ _ _ zSo]at a7;have cm:cBd BK=[aI t,lI (selW (fun x=>decide (1<x)) rw U 0),aI t,lI (selW (fun x=>decide (0<x)) rw U 0)]:=by rw[bs];rfl
    rw[cm]at a7;simp only[zc,List.cons_append,List.nil_append,zq,List.length_nil]at a7;have bn:(y5 ts sc raw (k+1)).length=W.length:=by rw[<-ak,List.length_set]
    simp[go_sem,ai,bm];refine OptK.intro (CM.set B (.arr (y5 ts sc raw (k+1)).flatten)) (by rw[if_pos zOm,a7]) ?_;simp[go_sem,f2,f7,f8,w1,aa,h];refine Keep.mk' ⟨zS1 f2,zS1 f7,zSi,.inr ⟨B,?_,?_⟩⟩
    .simp [go_sem,f7,h,bn]
    .simp [go_sem]
     rw[zo bk]
 .have cn:k=ts.fields.length:=by omega
  subst cn;have cp:y5 ts sc raw ts.fields.length=(zB ts sc raw).map cBd:=by
   rw[y5,<-aw,qX,aw,yR,List.map_nil,zL]
  rw[cp]at ho;simp[go_sem,e7,e8];refine OptK.intro (aI (zB ts sc raw).length) (by rcases ho with h|⟨b,h,_⟩<;>rw[h]<;>simp) ?_;simp[go_sem,aw,e7,Own.one ho,Own.cells ho];refine Own.rd ho (fun r hr=>?_) fun r hr=>?_
  .obtain ⟨x,_,rfl⟩:=qk.1 hr;rfl
  .obtain ⟨x,_,rfl⟩:=qk.1 hr;exact Wk x
end I2
namespace IJ
open YF P1 E3 EO EQ F4 GB GP GR GS
theorem anyB(ts:TS)(sc:Sc)(F:Fit9 ts sc)(D:List Bd)(ca:D.length=ts.fields.length)(hd:∀ b,b∈D->WB b)(o:List (List Bool))(lp:Int)(b8:0<=lp/\lp<=255) :
  qd qb 10 [eTS ts,eSc sc,lBd D,lBB o,.sc (.int .u8 lp)] (eMd (anyM sc (vsT ts) D o (lp % sc.steps))):=by
 have cb:=F.nf;have s1:=F.s1;have s4:=F.s4;generalize hS:sc.steps=S at *
 obtain⟨N,rfl⟩:=Int.eq_ofNat_of_zero_le (show 0<=S by omega);refine qSU call10 func10 rfl ?_;refine qg.intro zKr ?_;have n1:¬(N:Int)<1:=zOm;have n0:¬(N:Int)=0:=zOm;have b9:¬N=0:=zOm;have wl:qs.wrap lp=lp:=zWr;have tm:lp.tmod (N:Int)=lp % (N:Int):=u3 b8.1;simp[go_sem,hS,n1,b9,wl,tm];generalize hL:lp % (N:Int)=L at *
 have bb:anyM sc (vsT ts) D o L=⟨sc,(qo N).map (anyS (vsT ts) D o),L⟩:=by rw[anyM,hS];rfl
 rw[bb];generalize hA:anyS (vsT ts) D o=A at *
 refine qh.upK N (fun k st=>st.tm 3=lBB o/\st.tm 5 = .ip (cTS ts)/\st.tm 6 = .ip [lI sc.atoms,aI sc.steps]/\st.tm 10 = .ptr 0 0/\st.tm 11 = .ptr 1 0/\st.tm 2=lBd D/\st.tm 12=aI k /\
  ∃ s,st.mu[0]?=some (.arr [.lst true [],aI 0,.lst true [],aI 0])/\st.mu[1]?=some (.arr [lI sc.atoms,aI N,s,aI L])/\Own st.mu 1 s (((qo k).map A).map fun r=>[lRel r])/\∀ b,qr s=some b->2<=b) ?_ ?_
 .exact ⟨zSi,zSi,zS1 hS,zSi,zSi,zSi,zSi,.lst true [],zSi,zSi,.inl zSp,by simp[qr]⟩
 rintro k st hk ⟨e2,e4,e5,e8,e9,ak,a6,s,h0,h1,ho,hb⟩;have ab:=(qe.1 h0).1;have ad:=(qe.1 h1).1;by_cases al:k<N
 .have w1:=zWk k
  have n4:(k:Int)<4:=zOm;have a9:=fun fl:Bool=>qfW fl D (o.getD k []) st.mu zOm hd
  have bc:=w7 D (o.getD k []);have an:=w7 D (o.getD 0 []);have ae:A 0=zS D (o.getD 0 []):=by rw[<-hA,anyS,if_pos rfl]
  have be:k≠0->A k=fixS (vsT ts) (A 0) (zS D (o.getD k [])) D.length:=fun h=>by rw[ae,<-hA,qf0 _ _ _ _ h]
  have ao:k=0->A k=zS D (o.getD k []):=fun h=>by subst h;exact ae
  generalize cc:zS D (o.getD k [])=R at *
  have bv:(A 0).length=D.length:=by rw[ae];exact an
  simp[go_sem,hS,e2,e5,a6,al,n4];by_cases af:k<o.length
  all_goals simp[go_sem,e2,ak,a6,af]
  all_goals first
   | (rw[show lB o[k] = .lst false ((o.getD k []).map rB) by rw[q8,qv af];rfl];refine qc.eff0 (a9 false) ?_ (by rintro r m ⟨P,h,_⟩;cases h))
   | (have hi:=a9 true;rw[show (o.getD k []).map rB=[] by rw[q8,yC zOm];rfl]at hi;refine qc.eff0 hi ?_ (by rintro r m ⟨P,h,_⟩;cases h))
  all_goals
   rintro r m ⟨P,h,bg,bh,ag,cd,bi⟩;cases h;simp[go_sem,af];refine qh.upK D.length (fun j st2=>st2.tm 3=lBB o/\st2.tm 5 = .ip (cTS ts)/\st2.tm 6 = .ip [lI sc.atoms,aI N]/\st2.tm 10 = .ptr 0 0/\st2.tm 11 = .ptr 1 0/\st2.tm 2=lBd D/\st2.tm 12=aI k/\st2.tm 14=r/\st2.tm 15=aI j /\
    Own st2.mu 2 r ((if k=0 then R else fixS (vsT ts) (A 0) R j).map cRel)/\∀ i,i<m.length->qr r≠some i->st2.mu[i]?=m[i]?) ?_ ?_
   .exact ⟨zS1 e2,zS1 e4,zS2 e5 hS,zS1 e8,zS1 e9,zS1 ak,zS1 a6,zSi,zSi,by simpa[go_sem,qfX] using bg,zSi⟩
   rintro j st2 hj ⟨f2,f4,f5,f8,f9,f10,f11,f13,f14,T,a7⟩;have C:∀ i,i<st.mu.length->st2.mu[i]?=st.mu[i]?:=fun i hi=>by rw[a7 i zOm (fun h=>zW1 (ag i h)),bh i hi]
   have a1:(if k=0 then R else fixS (vsT ts) (A 0) R j).length=D.length:=by split<;>simp[qfY,bc]
   have aq:k≠0->j<D.length->(if k=0 then R else fixS (vsT ts) (A 0) R (j+1))=if (vsT ts).getD j true=false then (if k=0 then R else fixS (vsT ts) (A 0) R j).set j ((A 0).getD j noR) else (if k=0 then R else fixS (vsT ts) (A 0) R j):=fun h1 h2=>by rw[if_neg h1,if_neg h1,qfZ _ _ _ _ zOm]
   have bj:¬(j<D.length/\k≠0)->(if k=0 then R else fixS (vsT ts) (A 0) R j)=A k:=fun h=>by
    by_cases h0:k=0
    .rw [if_pos h0,ao h0]
    .rw [if_neg h0,be h0,show j=D.length by omega]
   generalize hW:(if k=0 then R else fixS (vsT ts) (A 0) R j)=W at *
   simp[go_sem,f13,f14];refine OptK.intro (aI D.length) (by rcases T with h|⟨b,h,_⟩<;>rw[h]<;>simp[a1]) ?_;by_cases a2:j<D.length/\k≠0
   .obtain ⟨t,au⟩:=a2
    have aw:(vsT ts).getD j true=ts.fields[j].var:=by rw[q8,zm,qv (show j<ts.fields.length by omega)];rfl
    have w2:=zWk j;have J:st2.mu[1]?=some (.arr [lI sc.atoms,aI N,s,aI L]):=by rw[C 1 ad];exact h1
    simp[go_sem,f4,f11,f14,t,show 0<k by omega,show j<ts.fields.length by omega];cases hv:ts.fields[j].var with
    |true =>
     simp[go_sem,f14,t,w2]
     try refine⟨t,Keep.mk' ?_⟩
     try refine Keep.mk' ?_
     refine⟨zS1 f2,zS1 f4,zS1 f5,zS1 f8,zS1 f9,zS1 f10,zS1 f11,zS1 f13,zSi,?_,zVs a7⟩;rw[aq au t,aw,hv,if_neg zSp];simpa[go_sem] using T
    |false =>
     obtain⟨b,U⟩:=bi zOm;have a0:r = .sl b 2 0 W.length/\st2.mu[b]?=some (.arr (W.map cRel).flatten):=by
      rcases T with h|⟨b',h,hc⟩
      .rw [h]at U;cases U
      .rw [h]at U;cases U
       exact⟨by rw[h];simp,hc⟩
     obtain⟨a0,a8⟩:=a0;have bk:=(qe.1 a8).1;have cf:=ag b U;have ah:(W.map cRel).flatten.length=W.length*2:=by rw[zW (wT W).ok];simp
     have bw:=Own.put (av:=r) (xs:=W.map cRel) (by rw[a0];simp) a8 (wT W).ok (i:=j) (r:=cRel ((A 0).getD j noR)) rfl zSo;have a3:j<(A 0).length:=zOm;have bm:(A 0).getD j noR=(A 0)[j]:=by rw[q8,qv a3];rfl
     have I:(((qo k).map A).map fun r=>[lRel r]).flatten[0]?=some (lRel (A 0)):=by
      obtain⟨k',rfl⟩:∃ k',k=k'+1:=⟨k-1,zOm⟩;rw[List.range_succ_eq_map];simp
     have ax:(((qo k).map A).map fun r=>[lRel r]).length=k:=zSp;generalize a4:(((qo k).map A).map fun r=>[lRel r])=rows at *
     have bn:rows[0]?=some [lRel (A 0)]:=by
      rw[<-a4];obtain⟨k',rfl⟩:∃ k',k=k'+1:=⟨k-1,zOm⟩;rw[List.range_succ_eq_map];rfl
     have ay:(rows.map List.length).sum=k:=by
      have:=zW (sz:=1) (xs:=rows) (by rw[<-a4];intro r hr;obtain⟨n,_,rfl⟩:=qk.1 hr;rfl);rw[List.length_flatten]at this;omega
     have az:rows.flatten.take 1=[lRel (A 0)]:=by
      cases b0:rows.flatten with
      |nil=>rw[b0]at I;cases I
      |cons x l=>rw[b0]at I;cases I;rfl
     have b1:(W.map cRel).flatten.take (j*2)++aI (A 0)[j].ar :: lI (A 0)[j].ts :: (W.map cRel).flatten.drop (j*2+2)=((W.set j (A 0)[j]).map cRel).flatten:=by
      rw[List.map_set,ZF (W.map cRel) j _ (wT W).ok rfl zSo,yq _ _ _ (by simp only[ah,cRel,zq,List.length_nil];omega)];simp
     have a5:Own (st2.mu.set b (.arr ((W.set j (A 0)[j]).map cRel).flatten)) 2 r ((W.set j (A 0)[j]).map cRel) := .inr ⟨b,by rw[a0];simp,zo bk⟩;have ai:=aq au t;rw[aw,hv,if_pos rfl,bm]at ai;rcases ho with rfl|⟨c,rfl,b2⟩
     .simp [go_sem,f9,f13,f14,J,a0,a1]
      refine OptK.intro (.ip [lRel (A 0)]) (by rw[bn];simp[ax];omega) ?_;simp[go_sem,f14,t,a8,ah,a1,a3];refine OptK.intro (st2.mu.set b (.arr ((W.set j (A 0)[j]).map cRel).flatten)) (by rw[if_pos zOm,b1]) ?_;simp[go_sem,f14,t,w2]
      try refine⟨t,Keep.mk' ?_⟩
      try refine Keep.mk' ?_
      refine⟨zS1 f2,zS1 f4,zS1 f5,zS1 f8,zS1 f9,zS1 f10,zS1 f11,zS1 f13,zSi,by rw[ai];simpa[go_sem] using a5,fun i hi hn=>?_⟩;simp only[zi];rw[yP (fun e=>hn (by rw[<-e];exact U))];exact a7 i hi hn
     .have bo:=(qe.1 b2).1
      have aa:=C c bo;rw[b2]at aa;simp[go_sem,f9,f13,f14,J,aa,ax,show 0<k by omega,a0,a1];refine OptK.intro (lRel (A 0)) (by rw[ay,if_pos zOm,az];rfl) ?_;simp[go_sem,f14,t,a8,ah,a1,a3];refine OptK.intro (st2.mu.set b (.arr ((W.set j (A 0)[j]).map cRel).flatten)) (by rw[if_pos zOm,b1]) ?_;simp[go_sem,f14,t,w2]
      try refine⟨t,Keep.mk' ?_⟩
      try refine Keep.mk' ?_
      refine⟨zS1 f2,zS1 f4,zS1 f5,zS1 f8,zS1 f9,zS1 f10,zS1 f11,zS1 f13,zSi,by rw[ai];simpa[go_sem] using a5,fun i hi hn=>?_⟩;simp only[zi];rw[yP (fun e=>hn (by rw[<-e];exact U))];exact a7 i hi hn
   .have bq:j<D.length->¬ 0<k:=fun h=>by omega
    rw[bj a2]at T;have J:st2.mu[1]?=some (.arr [lI sc.atoms,aI N,s,aI L]):=by rw[C 1 ad];exact h1
    by_cases t:j<D.length<;>simp[go_sem,f9,f11,f13,t,bq,J,Own.one T,Own.cells T]
    all_goals
     refine qA.giveB (e:=87) (sz:=1) (bt:=24) (zv := .lst true []) (xs:=((qo k).map A).map fun r=>[lRel r]) [lRel (A k)] st.mu.length zSi zSi zSi rfl rfl zOm zOm ?_ (fun b h=>Own.lt ho h) ?_ ?_ ?_ zSo ?_
     .rcases ho with h|⟨b,h,hc⟩
      .exact .inl h
      .exact .inr ⟨b,h,by rw[C b (qe.1 hc).1];exact hc⟩
     .exact ⟨Own.rd (Zc T ag) (wT _).ok fun r hr c hc=>by
       obtain⟨n,_,rfl⟩:=qk.1 hr;exact JP n c hc,trivial⟩
     .intro r hr
      obtain⟨n,_,rfl⟩:=qk.1 hr;exact⟨rfl,rfl⟩
     .intro r hr
      simp at hr;subst hr;exact⟨rfl,rfl⟩
     intro b3 b4 aj b5 b6 cg ch;have cj:st.mu.length<=st2.mu.length:=by
      have:=C (st.mu.length-1) zOm;rw[qv (show st.mu.length-1<st.mu.length by omega)]at this;have:=(qe.1 this).1;omega
     have g1:b4[1]?=some (.arr [lI sc.atoms,aI N,s,aI L]):=by rw[b5 1 zOm ad (fun h=>zW1 (hb 1 h))];exact J
     have g0:b4[0]?=some (.arr [.lst true [],aI 0,.lst true [],aI 0]):=by rw[b5 0 zOm ab (fun h=>zW1 (hb 0 h)),C 0 ab];exact h0
     have l1:=(qe.1 g1).1;simp[go_sem,f9,f11,g1,w1,Own.one aj,Own.cells aj]
     try refine⟨al,Keep.mk' ?_⟩
     try refine Keep.mk' ?_
     refine⟨zS1 f2,zS1 f4,zS2 f5 hS,zS1 f8,zS1 f9,zS1 f10,zSi,b3,zS1 g0,zS1 l1,?_,fun b h=>zW1 (b6 b h)⟩;rw[List.range_succ,zd,zd];simpa[go_sem] using Own.set aj (.arr [lI sc.atoms,aI N,b3,aI L]) (fun h=>zW1 (b6 1 h))
 .have br:k=N:=by omega
  subst br;have bs:s.one=true:=Own.one ho;have ck:s.cells=[s]:=Own.cells ho;have b7:∀ c,(st.mu.set 0 c)[0]?=some c:=fun c=>zo ab
  simp[go_sem,hS,e5,e8,e9,a6,h0,h1,bs,b7];have bu:=Own.set ho (i:=0) (.arr [lI sc.atoms,aI k,s,aI L]) (fun h=>zW1 (hb 0 h));show Rd _ _ (.agg [lI sc.atoms,aI sc.steps,lSt ((qo k).map A),aI L]);rw[hS];refine Rd.aggs ⟨.hf _ (zf _),.hf _ (HF.sc _),?_,.hf _ (HF.sc _),trivial⟩;exact Own.rd bu (fun r hr=>by
   obtain⟨n,_,rfl⟩:=qk.1 hr;rfl) fun r hr c hc=>by
   obtain⟨n,_,rfl⟩:=qk.1 hr;simp at hc;subst hc;exact Z0 n
end IJ
set_option maxHeartbeats 1000000
namespace I5
open GH Y1 Y16 YF P1 Q4 Q8 E1 E3 E4 E9 F1 GD G5 GF GP GQ GR GS GU GV GW HE HH IB IF IJ IK I1 I2 W41
theorem mQ(raw:List (List Int)):HF (lRaw raw):=HF.lst fun r i c g=>by
 obtain⟨l,_,rfl⟩:=qk.1 i;simp at g;subst g;exact HF.lst fun r i c g=>by
  obtain⟨x,_,rfl⟩:=qk.1 i;simp at g;subst g;exact HF.sc _
def tiny(m:Md):Prop:=SmS m.states/\m.sc.atoms.length<=1000
theorem eq07(a b:Md)(h:tiny a):qd qb 12 [eMd a,eMd b] (aB (decide (a=b))):=
 qgR a b (zW1 h.2) (zW1 h.1.n) fun s g=>⟨zW1 (h.1.f s g),fun r i=>zW1 ((h.1.t s g r i).1)⟩
theorem has25(l:List Md)(m:Md)(U:l.length<=1000000)(h:∀ x,x∈l->tiny x):qd qb 17 [lMd l,eMd m] (aB (decide (m∈l))):=by
 refine qSU call17 func17 rfl ?_;refine qh.upK l.length (fun k st=>st.tm 0=lMd l/\st.tm 3 = .ip (cMd m)/\st.tm 5=aI k/\∀(i:Nat) (h:i<l.length),i<k->l[i]≠m) ?_ ?_
 .exact ⟨zSi,zSi,zSi,fun i h j=>absurd j (Nat.not_lt_zero i)⟩
 rintro k st hk ⟨o,I,p,J⟩;by_cases g:k<l.length
 .have P:=zWk k
  have R:=h _ (qt g);have T:=eq07 l[k] m R;simp[go_sem,o,p,g];refine qg.intro zKr ?_;simp[go_sem,o,I,p,g];refine qc.pure T (.zk (Qz _) (.zk (Qz _) .nil)) ?_;by_cases r:l[k]=m
  .simp [go_sem,r]
   rw[decide_eq_true (by rw[<-r];exact qt g)];exact .zsc _
  .simp [go_sem,r,p,g,P]
   try refine⟨g,Keep.mk' ?_⟩
   try refine Keep.mk' ?_
   refine⟨zS1 o,zS1 I,zSi,fun i h j=>?_⟩;rcases Qf.1 j with t|t
   .exact J i h t
   .subst t;exact r
 .have C:k=l.length:=by omega
  subst C;simp[go_sem,o,p];rw[decide_eq_false (fun h=>by
   obtain⟨i,j,e⟩:=vB.1 h;exact J i j j e)]
  exact .zsc _
theorem uX(mu:Mu):Rd mu (.tup [.lst true [],.agg [.lst true [],aI 0,.lst true [],aI 0],aB false]) (.tup [lBd [],eMd mdZ,aB false]):=by
 refine .tup _ _ rfl fun j u v g i=>?_
 match j with
 | 0=>simp at g i;subst g;subst i;exact .wk _ true _ (.hf _ (HF.lst fun r l=>by simp at l))
 | 1=>simp at g i;subst g;subst i;exact qgB mu
 | 2=>simp at g i;subst g;subst i;exact .zsc _
 |j+3=>simp at g
theorem qk4(b:List Bd)(m:Md):HF (.tup [lBd b,eMd m,aB true]):=HF.tup (by simp only[qu,qD,or_false,forall_eq_or_imp,forall_eq];exact⟨j0 _,Qz _,HF.sc _⟩)
abbrev tupM(ts:TS)(sc:Sc)(raw:List (List Int))(g:List (List Bool))(lp:Int)(ok:Bool):AV:=if ok=true then .tup [lBd (zB ts sc raw),eMd (anyM sc (vsT ts) (defB ts sc) g (lp % sc.steps)),aB true] else .tup [lBd [],eMd mdZ,aB false]
def ok25(ts:TS)(sc:Sc)(raw:List (List Int))(n:Nd):Bool:=z7 ts&&(yM ts sc&&(decide (sumI sc.atoms<=5)&&(qY n&&(decide (yW ts=[])&&(decide (ye ts [] n=(0,0))&&(XF ts (sumI sc.atoms) sc.steps n&&(decide ((chs (vsT ts) (qy (zB ts sc raw) 0) sc.steps.toNat).length<=8))))))))
theorem mR{ts:TS}(i:bigT ts){sc:Sc}{raw:List (List Int)}{n:Nd}(h:ok25 ts sc raw n=true):Cx ts sc (zB ts sc raw) sc.steps.toNat/\qY n=true/\(ye ts [] n).1=0:=by
 simp only[ok25,qq,decide_eq_true_eq]at h;obtain⟨j,g,l,o,p,r,I,J⟩:=h;have F:=Vg g;have t:=F.s1;have C:yn sc=true:=by
  simp only[yM,qq]at g;exact g.2.2.2.2.2.2
 refine⟨⟨mM j i,p,F,C,l,gj ts sc raw fun f hf=>Ww _ _ _,zOm,?_⟩,o,by rw[r]⟩;omega
theorem qk5(ts:TS)(hs:bigT ts)(sc:Sc)(raw:List (List Int))(hr:∀ l,l∈raw->∀ x,x∈l->0<=x/\x<=255)(n:Nd)(J:List (List Bool))(lp:Int)(a3:0<=lp/\lp<=255) :
  qd qb 9 [.agg (j9 ts sc raw n J lp)] (tupM ts sc raw J lp (ok25 ts sc raw n)):=by
 generalize o:ok25 ts sc raw n=R;have C:=fun h=>mR (ts:=ts) hs (sc:=sc) (raw:=raw) (n:=n) h
 unfold ok25 at o C;obtain⟨op,t,i,ks,q⟩:=n;have a4:j9 ts sc raw (.mk op t i ks q) J lp=[.lst false (ts.sorts.map uE),.lst false (ts.fields.map jn),lPd ts.preds,lFa ts.facts,lI sc.atoms,aI sc.steps,lRaw raw,aI op,aS t,aI i,.lst false (ks.map cNd),aI q,lBB J,u8 lp]:=by unfold j9;rw[yu];rfl
 have a5:eNd (.mk op t i ks q) = .agg [aI op,aS t,aI i,.lst false (ks.map cNd),aI q]:=by rw[eNd,yu];rfl
 rw[a4];generalize hn:Nd.mk op t i ks q=n at *
 have wn:WK (.agg [aI op,aS t,aI i,.lst false (ks.map cNd),aI q]) (eNd n):=by rw[<-a5];exact .hf (za n)
 have p:WK (.agg [.lst false (ts.sorts.map uE),.lst false (ts.fields.map jn),lPd ts.preds,lFa ts.facts]) (eTS ts) := .hf (zn ts);have I:WK (.agg [lI sc.atoms,aI sc.steps]) (eSc sc) := .hf (zx sc);refine qSU call9 func9 rfl ?_;refine qg.zI ?_;refine qc.pure (qfA ts) (.cons p .nil) ?_;cases h1:z7 ts with
 |false =>
  rw[h1]at o;replace o:false=R:=o;subst o;simp[go_sem];exact uX _
 |true =>
 have S:=mM h1 hs;rw[h1,Bool.true_and]at o C;simp[go_sem];refine qc.pure (qfU ts sc) (.cons p (.cons I .nil)) ?_;cases h2:yM ts sc with
 |false =>
  rw[h2]at o;replace o:false=R:=o;subst o;simp[go_sem];exact uX _
 |true =>
 have F:=Vg h2;rw[h2,Bool.true_and]at o C;simp[go_sem];refine qc.pure (kS sc F.g) (.cons I .nil) ?_;by_cases h3:sumI sc.atoms<=5
 case neg =>
  have T:5<sumI sc.atoms:=zOm;rw[decide_eq_false h3]at o;replace o:false=R:=o;subst o;simp[go_sem,T];exact uX _
 have T:¬ 5<sumI sc.atoms:=zOm;rw[decide_eq_true h3,Bool.true_and]at o C;simp[go_sem,T];refine qc.pure (Wj n) (.cons wn .nil) ?_;cases h4:qY n with
 |false =>
  rw[h4]at o;replace o:false=R:=o;subst o;simp[go_sem];exact uX _
 |true =>
 rw[h4,Bool.true_and]at o C;simp[go_sem];refine qc.pure S.chk (.cons p .nil) ?_;by_cases h5:yW ts=[]
 case neg =>
  have U:0<(yW ts).length:=VR.2 h5;rw[decide_eq_false h5]at o;replace o:false=R:=o;subst o;simp[go_sem,U];exact uX _
 have U:(yW ts).length=0:=by rw[h5];rfl
 rw[decide_eq_true h5,Bool.true_and]at o C;simp[go_sem,U];refine qc.pure (S.chkF h4) (.cons p (.cons (WK.lst fun r hr=>absurd hr qD) (.cons wn .nil))) ?_;by_cases h6:ye ts [] n=(0,0)
 case neg =>
  rw[decide_eq_false h6]at o;replace o:false=R:=o;subst o;generalize ye ts [] n=D at *
  obtain⟨d1,d2⟩:=D;by_cases g1:d1=0
  .have g2:¬d2=0:=fun e=>h6 (by rw[g1,e])
   simp[go_sem,g1,g2];exact uX _
  .simp [go_sem,g1]
   exact uX _
 rw[decide_eq_true h6,Bool.true_and]at o C;rw[h6];simp[go_sem];have a1:=F.g.sum sc.atoms.length;rw[qX]at a1;have a7:=F.s1;have a8:=F.s4;refine qc.zP (kS sc F.g) (.cons I .nil) ?_;refine qc.pure (qkQ S h5 (sumI sc.atoms) sc.steps zOm zOm h4) (.cons p (.zs (.zs (.cons wn .nil)))) ?_;cases h7:XF ts (sumI sc.atoms) sc.steps n with
 |false =>
  rw[h7]at o;replace o:false=R:=o;subst o;simp[go_sem];exact uX _
 |true =>
 rw[h7,Bool.true_and]at o C;simp[go_sem];have hB:=gj ts sc raw fun f hf=>Ww _ _ _
 have a9:(zB ts sc raw).length=ts.fields.length:=uR ts sc raw;have aa:=F.nf;have a2:∀ x,x∈zB ts sc raw->x.up.ts.length<=1000/\x.lo.ts.length<=1000/\sorted x.lo.ts:=fun x C=>by
  obtain⟨j,hj,rfl⟩:=uY C;have h2:j<ts.fields.length:=zOm;have h:=mO F h3 (qt h2);obtain⟨s1,s2⟩:=hB.so _ C;have h4:=Zg s2 (hB.full j hj h2);have h5:=Zg s1 (hB.sub _ C);exact⟨zOm,zOm,s1⟩
 have a0:∀ x,x∈zB ts sc raw->wt x:=fun x C=>by
  obtain⟨a,b,c⟩:=a2 x C;exact⟨zOm,zOm,c.imp fun h=>zOm⟩
 have a6:(qy (zB ts sc raw) 0).length<=100000:=by
  have:=XG 1000 (zB ts sc raw) 0 fun x C=>(a2 x C).1
  omega
 have cM:=qk3 ts sc F raw hr;have cC:=mP ts sc (zB ts sc raw) sc.steps.toNat zOm zOm zOm a0 zOm a6;refine qc.zP cM (.cons p (.cons I (.zk (mQ raw) .nil))) ?_;refine qc.pure cC (.cons p (.cons I (.zk (j0 _) .nil))) ?_;by_cases h8:(chs (vsT ts) (qy (zB ts sc raw) 0) sc.steps.toNat).length<=8
 case neg =>
  have P:(8:Int)<(chs (vsT ts) (qy (zB ts sc raw) 0) sc.steps.toNat).length:=zOm;rw[decide_eq_false h8]at o;subst o
  try simp only[qU,Int.natCast_add]at P
  simp[go_sem,P];exact uX _
 have P:¬(8:Int)<(chs (vsT ts) (qy (zB ts sc raw) 0) sc.steps.toNat).length:=zOm;rw[decide_eq_true h8]at o;subst o
 try simp only[qU,Int.natCast_add]at P
 simp[go_sem,P];refine qg.zI ?_;refine qc.zP (WA ts sc F) (.cons p (.cons I .nil)) ?_;refine qc.zP (anyB ts sc F (defB ts sc) (by simp[defB]) (fun b hb=>(py F h3 b hb).2.2) J lp a3) (.cons p (.cons I (.zk (j0 _) (.zk (WD _) (.zs .nil))))) ?_;exact .hf _ (qk4 _ _)
end I5
namespace IM
open P1 E3 HI ID IK
variable {ts:TS} {sc:Sc} {b:List Bd} {N:Nat}
theorem qk6(X:Cx ts sc b N){m:Md}(h:m∈LL ts sc b N):cntB b m=true:=by
 have g:=X.betw h;exact(qkS X.B X.B g).2 fun k f i hf j=>by
  obtain⟨p,r,l,o⟩:=g.rel k f i hf j;exact⟨l,o⟩
end IM
set_option maxHeartbeats 1000000
namespace W52
open Y1 YF P1 E3 E4 F1 GF GH GP GS GU GV GX GY HE HI IB IC IJ IK IL IM I1 I4 I5 W41
theorem qk7(ts:TS)(sc:Sc)(raw:List (List Int))(n:Nd)(g:List (List Bool))(lp:Int):HF (.agg (j9 ts sc raw n g lp)):=HF.agg fun c i=>by
 unfold j9 at i;simp only[qC,qu,qD,or_false]at i;rcases i with h | (rfl|rfl|rfl)|h|rfl|rfl
 .exact JV ts c (by simpa[cTS] using h)
 .exact zf _
 .exact HF.sc _
 .exact mQ raw
 .exact wW n c h
 .exact WD _
 .exact HF.sc _
theorem _root_.Go.Proofs.YtahmfpfdgiemoaaGreatDoor.IK.Cx.tiny{ts:TS}{sc:Sc}{b:List Bd}{N:Nat}(X:Cx ts sc b N){m:Md}(h:Betw sc (vsT ts) b N m):tiny m:=
 ⟨X.sms h,by rw[h.sc];have:=X.F.g.1;have:=X.F.ns;have:=X.S.h.ns;omega⟩
theorem _root_.Go.Proofs.YtahmfpfdgiemoaaGreatDoor.IK.Cx.cnt{ts:TS}{sc:Sc}{b c:List Bd}{N:Nat}(X:Cx ts sc b N)(p:c.length<=6)(i:∀ x,x∈c->x.up.ts.length<=1000/\x.lo.ts.length<=1000){m:Md}(h:m∈LL ts sc b N):qd qb 19 [lBd c,eMd m] (aB (cntB c m)):=by
 have g:=X.sms (X.betw h);exact qgX c m zOm (zW1 g.n) (fun x j=>zW1 (i x j)) fun s l r o=>zW1 ((g.t s l r o).1)
theorem qk8(ts:TS)(hs:bigT ts)(sc:Sc)(raw:List (List Int))(hr:∀ l,l∈raw->∀ x,x∈l->0<=x/\x<=255)(n:Nd)(g:List (List Bool))(lp:Int)(U:0<=lp/\lp<=255) :
  qd qb 7 [.agg (j9 ts sc raw n g lp)] (aB true):=by
 have o:=qk5 ts hs sc raw hr n g lp U;have hx:=fun h=>mR (ts:=ts) hs (sc:=sc) (raw:=raw) (n:=n) h
 obtain⟨op,t,i,ks,q⟩:=n;have r:j9 ts sc raw (.mk op t i ks q) g lp=[.lst false (ts.sorts.map uE),.lst false (ts.fields.map jn),lPd ts.preds,lFa ts.facts,lI sc.atoms,aI sc.steps,lRaw raw,aI op,aS t,aI i,.lst false (ks.map cNd),aI q,lBB g,u8 lp]:=by unfold j9;rw[yu];rfl
 have a7:eNd (.mk op t i ks q) = .agg [aI op,aS t,aI i,.lst false (ks.map cNd),aI q]:=by rw[eNd,yu];rfl
 have wc:WK (.agg (j9 ts sc raw (.mk op t i ks q) g lp)) (.agg (j9 ts sc raw (.mk op t i ks q) g lp)) := .hf (qk7 ts sc raw _ g lp);rw[r]at wc⊢;rw[r]at o;generalize hn:Nd.mk op t i ks q=n at *
 have wn:WK (.agg [aI op,aS t,aI i,.lst false (ks.map cNd),aI q]) (eNd n):=by rw[<-a7];exact .hf (za n)
 have I:WK (.agg [.lst false (ts.sorts.map uE),.lst false (ts.fields.map jn),lPd ts.preds,lFa ts.facts]) (eTS ts) := .hf (zn ts);have a0:WK (.agg [lI sc.atoms,aI sc.steps]) (eSc sc) := .hf (zx sc);refine qSU call7 func7 rfl ?_;refine qc.zP JH.headB .nil ?_;refine qc.pure o (.cons wc .nil) ?_;cases a8:ok25 ts sc raw n with
 |false =>
  simp[go_sem,tupM];exact .zsc _
 |true =>
 simp only[tupM,reduceIte];obtain⟨X,ab,ad⟩:=hx a8;generalize hb:zB ts sc raw=b at *
 generalize hN:sc.steps.toNat=N at *
 have a1:=X.hS;have wb:WK (lBd b) (lBd b) := .hf (j0 b);have a2:∀ m,m∈LL ts sc b N->tiny m:=fun m J=>X.tiny (X.betw J)
 have a9:=X.len;have cC:=mP ts sc b N X.hS X.N4 (zW1 X.bl) X.okf (by rw[X.B.len];exact qn _) X.fl;have cA:=anyB ts sc X.F b X.B.len (fun x hx=>by obtain⟨h1,h2,h3,h4⟩:=X.bts x hx;exact⟨zOm,zOm,h4⟩) g lp U;have cH:=has25 (LL ts sc b N) (anyM sc (vsT ts) b g (lp % sc.steps)) zOm a2;rw[decide_eq_true (qkT X g lp U.1)]at cH;have hI:=X.inst;have a5:(LL ts sc b N).length=N*2 ^ (chs (vsT ts) (qy b 0) N).length:=pG sc (vsT ts) b (chs (vsT ts) (qy b 0) N) N;have hv:∀ m,m∈LL ts sc b N->qd qb 23 [eTS ts,eMd m] (aB true):=fun m J=>qgK ts m (X.mdv J)
 have r:∀ m,m∈LL ts sc b N->qd qb 19 [lBd b,eMd m] (aB true):=fun m J=>by
  have:=X.cnt (c:=b) X.bl (fun x hx=>by obtain⟨h1,h2,_,_⟩:=X.bts x hx;exact⟨h1,h2⟩) J
  rwa[qk6 X J]at this
 have c9:=X.c9;have N4:=X.N4;generalize hL:LL ts sc b N=L at *
 generalize chs (vsT ts) (qy b 0) N=C at *
 simp[go_sem];refine qc.zP hI (.cons I (.cons a0 (.cons wb .nil))) ?_;refine qc.pure cC (.cons I (.cons a0 (.cons wb .nil))) ?_;simp[go_sem,a1];have p9:∀ k:Nat,k<=C.length->N*2 ^ k<=4*512:=fun k hk=>Nat.mul_le_mul N4 (Nat.pow_le_pow_right (n:=2) zOm (by omega:k<=9))
 refine qh.upK C.length (fun k st=>st.tm 1 = .ip [.lst false (ts.sorts.map uE),.lst false (ts.fields.map jn),lPd ts.preds,lFa ts.facts,lI sc.atoms,aI sc.steps,lRaw raw,aI op,aS t,aI i,.lst false (ks.map cNd),aI q,lBB g,u8 lp]/\st.tm 3=aB true/\st.tm 4=lBd b/\st.tm 7=lMd L/\st.tm 8=aI 0/\st.tm 9=aI ((N*2 ^ k:Nat):Int)/\st.tm 10=aI C.length/\st.tm 11=aI k) ?_ ?_
 .exact ⟨zS1 a1,zSi,zSi,zSi,zSi,zS1 a1,zSi,zSi⟩
 rintro k st hk ⟨e1,e3,e4,P,e8,e9,R,a3⟩;by_cases j:k<C.length
 .have w1:=zWk k
  have hp:=p9 (k+1) zOm;have a6:N*2 ^ (k+1)=2*(N*2 ^ k):=by rw[Nat.pow_succ,<-Nat.mul_assoc,Nat.mul_comm]
  generalize hT:N*2 ^ k=T at *
  have w2:qs.wrap (2*(T:Int))=2*(T:Int):=zWr;have aa:(N:Int)*2 ^ (k+1)=2*(T:Int):=by have:=congrArg (fun x:Nat=>(x:Int)) a6;simpa using this
  simp[go_sem,e9,R,a3,j,w1,w2]
  try refine⟨j,Keep.mk' ?_⟩
  try refine Keep.mk' ?_
  exact⟨zS1 e1,zS1 e3,zS1 e4,zS1 P,zS1 e8,by first | (rw[aa];simp[go_sem]) | (rw[a6];simp[go_sem]),zS1 R,zSi⟩
 have a4:k=C.length:=zOm;subst a4;rw[<-a5]at e9;simp[go_sem,R,a3];refine qh.upK L.length (fun k st=>st.tm 1 = .ip [.lst false (ts.sorts.map uE),.lst false (ts.fields.map jn),lPd ts.preds,lFa ts.facts,lI sc.atoms,aI sc.steps,lRaw raw,aI op,aS t,aI i,.lst false (ks.map cNd),aI q,lBB g,u8 lp]/\st.tm 3=aB true/\st.tm 4=lBd b/\st.tm 7=lMd L/\st.tm 8=aI 0/\st.tm 9=aI L.length/\st.tm 12=aI k) ?_ ?_
 .exact ⟨zS1 e1,zS1 e3,zS1 e4,zS1 P,zS1 e8,zS1 e9,zSi⟩
 clear e1 e3 e4 P e8 e9 R a3;rintro k st hk ⟨e1,e3,e4,P,e8,e9,p⟩;by_cases j:k<L.length
 .have w1:=zWk k
  have J:=qt j;simp[go_sem,P,p,j];refine qg.intro zKr ?_;simp[go_sem,e1,P,p,j];refine qc.pure (hv _ J) (.cons I (.zk (Qz _) .nil)) ?_;simp[go_sem,e4,P,p,j];refine qc.pure (r _ J) (.cons wb (.zk (Qz _) .nil)) ?_;simp[go_sem,p,j,w1]
  try refine⟨j,Keep.mk' ?_⟩
  try refine Keep.mk' ?_
  exact⟨zS1 e1,zS1 e3,zS1 e4,zS1 P,zS1 e8,zS1 e9,zSi⟩
 have a4:k=L.length:=zOm;simp[go_sem,e1,e3,e4,P,e8,e9,p,a4];refine qc.zP cA (.cons I (.cons a0 (.cons wb (.zk (WD _) (.zs .nil))))) ?_;refine qc.zP cH (.zk (qgA _) (.zk (Qz _) .nil)) ?_;exact .zsc _
end W52
namespace DL
open Go.EvW Go.RowKit Go.ChangeShapes Go.WideShapes
theorem own:ownKnob qb.godebug=none:=by kernel_rfl
theorem laid:laidOutB qb=true:=by kernel_rfl
abbrev tabL : List (String × DataW Unit) := [("math/bits.deBruijn32tab", Rows.laid_math_bits_deBruijn32tab), ("math/bits.deBruijn64tab", Rows.laid_math_bits_deBruijn64tab), ("internal/strconv.uint64pow10", Rows.laid_internal_strconv_uint64pow10)]
def pows:List Int:=[1,10,100,1000,10000,100000,1000000,10000000,100000000,1000000000,10000000000,100000000000,1000000000000,10000000000000,100000000000000,1000000000000000,10000000000000000,100000000000000000,1000000000000000000,10000000000000000000]
theorem gPow : qb.globalNamed "internal/strconv.uint64pow10" = some 0 := by kernel_rfl
theorem tPow:(qb.globals[0]?).map (·.type)=some 360:=by kernel_rfl
theorem uPow:qb.underlying 360=some (.array 20 317):=by kernel_rfl
theorem uU64:qb.underlying 317=some (.int .u64):=by kernel_rfl
theorem qk9{W:j2}(h:laidMetH qb tabL W):wD (·<W.heap.size) W.heap:=by
  rw[MakeChecks.laidMetH_plain _ _ _ zKr]at h;obtain⟨ps,I,_⟩:=h
  obtain ⟨g, t, l, r, p, J, P, R, T⟩ := gS I ("internal/strconv.uint64pow10", Rows.laid_internal_strconv_uint64pow10) zSp
  obtain rfl:=Option.some.inj (gPow.symm.trans J);obtain rfl:=Option.some.inj (tPow.symm.trans P);have U:l.toList=pows.map fun i => .int .u64 i:=qhF uPow uU64 zKr zKr (ns:=pows) T
  obtain⟨e,fr,C⟩:=qhG gPow R;intro x j;have j:x∈[(0,pows.map fun i=>Value.int .u64 i)]:=j;rw[qN]at j;subst j;refine⟨(Array.getElem?_eq_some_iff.1 C).1,e,fr,?_⟩;show W.heap[0]?=_;rw[C];have:l=(pows.map fun i=>Value.int .u64 i).toArray:=by rw[<-U]
  rw[this]
theorem qlA(os:Os)(args:Array j3):laidMetH qb tabL ((World.doorLaid qb 4000 os).forCall (fun _ _=>0) ⟨#[],args,[]⟩).memory:=
 laidMetH_of_parts3 (fuel:=8) (laidMet_of_run' 8 zKr zKr) zKr zKr
end DL
namespace DM
open Go.EvW E3 DT
instance:Inhabited Rl:=⟨⟨0,[]⟩⟩
instance:Inhabited Sc:=⟨⟨[],0⟩⟩
instance:Inhabited Md:=⟨⟨default,[],0⟩⟩
theorem shRel(N:Nat):ShU qb N 90 cRel (fun _=>True):=
 ((ShU.struct (fs:=[(3,0),(28,1)]) zKr (.cons' (o':=1) zKr (Qa N) (.cons' (o':=2) zKr (WY N) (.nil 2))) zKr).map
  (fun x=>(⟨x.1,x.2.1⟩:Rl)) (fun _=>rfl) (fun x h=>trivial)).le zOm
theorem qlB(N:Nat):ShU qb N 30 (fun s:Sc=>[lI s.atoms,aI s.steps]) (fun _=>True):=
 ((ShU.struct (fs:=[(28,0),(3,1)]) zKr (.cons' (o':=1) zKr (WY N) (.cons' (o':=2) zKr (Qa N) (.nil 2))) zKr).map
  (fun x=>(⟨x.1,x.2.1⟩:Sc)) (fun _=>rfl) (fun x h=>trivial)).le zOm
end DM
namespace DN
open Go.EvW P1 Y1 EO DT GS W41
theorem qlC:qb.underlying 86=some (.slice 4):=by kernel_rfl
theorem unBB:qb.underlying 36=some (.slice 86):=by kernel_rfl
theorem unU8s:qb.underlying 114=some (.slice 5):=by kernel_rfl
theorem unRaw:qb.underlying 32=some (.slice 114):=by kernel_rfl
theorem qlD(N:Nat):ShU qb N 86 (fun l:List Bool=>[lB l]) (fun _=>True):=
 ((ShU.slice qlC (WX N) (fun _ _=>zKr) (Nat.lt_of_lt_of_eq Nat.zero_lt_one zKr) zKr).le zOm).map (fun l=>l) (fun _=>rfl) fun _ _=>trivial
theorem shBB(N:Nat):ShU qb N 36 (fun l:List (List Bool)=>[lBB l]) (fun _=>True):=
 ((ShU.slice unBB (qlD N) (fun _ _=>zKr) (Nat.lt_of_lt_of_eq Nat.zero_lt_one zKr) zKr).le zOm).map (fun l=>l) (fun _=>rfl) fun _ _=>trivial
abbrev VP:=TS×Sc×List (List Int)×Nd×List (List Bool)×Int
abbrev cCs(x:VP):List AV:=j9 x.1 x.2.1 x.2.2.1 x.2.2.2.1 x.2.2.2.2.1 x.2.2.2.2.2
end DN
namespace DO
open Go.EvW DT DM DN W41
def mS(l:List Int):Prop:=∀ x,x∈l->0<=x/\x<=255
def mT(r:List (List Int)):Prop:=∀ l,l∈r->mS l
theorem shU8r(N:Nat):ShU qb N 114 (fun l:List Int=>[.lst false (l.map fun x=>[u8 x])]) mS:=
 ((ShU.slice unU8s (shU8 N) (fun _ _=>zKr) (Nat.lt_of_lt_of_eq Nat.zero_lt_one zKr) zKr).le zOm).map (fun l=>l) (fun _=>rfl) fun _ h=>h.2
theorem qlE(N:Nat):ShU qb N 32 (fun l:List (List Int)=>[lRaw l]) mT:=
 ((ShU.slice unRaw (shU8r N) (fun _ _=>zKr) (Nat.lt_of_lt_of_eq Nat.zero_lt_one zKr) zKr).le zOm).map (fun l=>l) (fun _=>rfl) fun _ h=>h.2
def okCs(x:VP):Prop:=okTA x.1/\mT x.2.2.1/\(0<=x.2.2.2.2.2/\x.2.2.2.2.2<=255)
theorem qlF(N:Nat):ShU qb N 38 cCs okCs:=
 ((ShU.struct (fs:=[(27,0),(30,4),(32,6),(35,7),(36,12),(5,13)]) zKr
  (.cons' (o':=4) zKr (qhV N) (.cons' (o':=6) zKr (qlB N) (.cons' (o':=7) zKr (qlE N) (.cons' (o':=12) zKr (Vt N) (.cons' (o':=13) zKr (shBB N) (.cons' (o':=14) zKr (shU8 N) (.nil 14))))))) zKr).map
  (fun x=>((x.1,x.2.1,x.2.2.1,x.2.2.2.1,x.2.2.2.2.1,x.2.2.2.2.2.1):VP)) (fun x=>by simp[cCs,j9]) (fun x h=>⟨h.1,h.2.2.1,h.2.2.2.2.2.1⟩)).le zOm
theorem qlG:Yp qb 38 (fun x => .agg (cCs x)) okCs:=Yp.struct zKr qlF
end DO
end Go.Proofs.YtahmfpfdgiemoaaGreatDoor
