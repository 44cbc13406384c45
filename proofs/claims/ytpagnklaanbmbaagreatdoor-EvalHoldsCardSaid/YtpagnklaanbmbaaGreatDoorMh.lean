/-
  Own library, part 8: an abstract reading of values and a calculus over it; contracts of functions; plain lemmas.
-/
import Derived.Test.YtpagnklaanbmbaaGreatDoorRows
import Derived.LaidMore
import Derived.MakeChecks
import Derived.WalkKit
import Derived.JoinedCond
import Derived.Test.YtpagnklaanbmbaaGreatDoorMg
set_option linter.unusedVariables false
set_option linter.unusedSimpArgs false
set_option maxRecDepth 100000
open Go renaming Program->j1,World->j3,Value->uk
open Go.Proofs.Tryz renaming prog->qb
open Nat renaming le_of_ble_eq_true->qh,le_refl->qm
open Go.IntKind renaming i64->qj
open List renaming getElem?_append_left->qo,mem_map->qr,mem_cons->qt,getElem_mem->qy,not_mem_nil->qE,all_eq_true->qI,mem_singleton->qL,mem_append->qM,mem_cons_of_mem->qY,mem_cons_self->q8,length_append->zc,drop_eq_getElem_cons->zt,take_length->zw,map_append->zx,drop_length->yk,nil_append->jq,getElem?_cons_succ->j7,mem_filter->vt,foldl_append->ue,drop_eq_nil_of_le->J1
open Bool renaming and_eq_true->qB
open Int renaming mul_le_mul->jS,le_refl->j9
open Prod.mk renaming injEq->ul
namespace Go.Proofs.YtpagnklaanbmbaaGreatDoor
open Go Go.Ev Go.Proofs Tryz
namespace QX
open YS YF Y9 Y1 Y2 YX YZ YA YB P1 QD QK QW
abbrev cWk(ts:TS)(l:List ByteArray)(s:ISt):List AV:=cTS ts++[lNm l,aI s.last,aI s.cost]
abbrev eWk(ts:TS)(l:List ByteArray)(s:ISt):AV := .agg (cWk ts l s)
theorem qnK(ts:TS)(l:List ByteArray)(s:ISt):∀ c,c∈cWk ts l s->HF c:=fun c g=>by
 rcases qM.1 g with g|g
 .exact Z8 ts c g
 .simp only[qt,qE,or_false]at g
  rcases g with rfl|rfl|rfl
  .exact qbG l
  .exact HF.sc _
  .exact HF.sc _
theorem wo(ts:TS)(l:List ByteArray)(s:ISt):HF (eWk ts l s):=HF.agg (qnK ts l s)
structure Tn (l:List ByteArray) (es:List (ByteArray×Bool)):Prop where
 mem:∀ nm:ByteArray,nm≠⟨#[]⟩->(nm∈l↔getK nm es=some true)
 len:es.length<=l.length+1
theorem vN_ne(k:Int):vN k≠⟨#[]⟩:=fun e=>by
 have:=congrArg ByteArray.size e;unfold vN at this;rw[ByteArray.size_append]at this;have g:(⟨#[118]⟩:ByteArray).size=1:=rfl;have i:(⟨#[]⟩:ByteArray).size=0:=rfl;omega
theorem qnL{ts:TS}{l:List ByteArray}{es:List (ByteArray×Bool)}(t:Tn l es)(k:Int):yr ts es (vN k)=(decide ((means ts (vN k)).length=0)&&!inL (vN k) l):=by
 unfold yr;have i:=t.mem (vN k) (vN_ne k);have j:decide (means ts (vN k)=[])=decide ((means ts (vN k)).length=0):=by
  simp[List.length_eq_zero_iff]
 rw[j,Bool.and_comm];congr 1;by_cases g:vN k∈l
 .rw [KP.2 g];simp[i.1 g]
 .rw [qbH g]
  simp only[Bool.not_false,decide_eq_true_eq];exact fun e=>g (i.2 e)
theorem two{J:Type}{l:List J}{a b:J}(g:l[0]?=some a)(i:l[1]?=some b):∃ r,l=a :: b :: r:=by
 match l,g,i with
 |_ :: _ :: r,g,i =>
  simp at g i;exact⟨r,by rw[g,i]⟩
abbrev zWk:List AV:=[.lst true [],.lst true [],.lst true [],.lst true [],.lst true [],aI 0,aI 0]
theorem qnM(ts:TS)(h:okTS ts)(l:List ByteArray)(es:List (ByteArray×Bool))(t:Tn l es)(hl:l.length<=400000)(s:ISt)(hs:0<=s.last/\s.last+(ql ts es:Nat)<=1000000000)(a6:∃ j:Nat,1<=j/\j<=ql ts es/\yr ts es (vN (s.last+j))=true) :
  qd qb 212 [eWk ts l s] (.tup [eWk ts l ⟨zj ts es (ql ts es) s.last,s.cost⟩,aS (vN (zj ts es (ql ts es) s.last))]):=by
 have aa:=h.ns;have ab:=h.nf;have hF:ql ts es<=l.length+40:=by have:=t.len;unfold ql;omega
 have a7:okNm ts:=⟨h.sl,zOm,zOm,fun f hf=>zW1 (h.fl f hf)⟩;generalize ad:ql ts es=F at *
 generalize hR:zj ts es F s.last=R;refine qd.of_sound (qe.of_awp call212 func212 rfl (qh zKr) zKr (pl:={ mt:=[1] }) ?_);simp[go_sem];refine qn.keep (fun m U=>∃(i:Nat) (k:Int),i+m=F/\0<=k/\k+m<=1000000000/\U.tm 1 = .ptr 0 0/\U.tm 2 = .ptr 1 0/\U.tm 4=aI i/\U.mu[0]?=some (.arr (cWk ts l ⟨k,s.cost⟩))/\U.mu[1]?=some (.arr zWk)/\zj ts es m k=R/\∃ j:Nat,1<=j/\j<=m/\yr ts es (vN (k+j))=true) F ?_ ?_
 .exact ⟨0,s.last,zOm,hs.1,zOm,zSi,zSi,zSi,zSi,zSi,hR,a6⟩
 rintro m U ⟨i,k,ae,af,ag,I,J,e4,m0,m1,hI,j,ah,ai,P⟩;obtain⟨m,rfl⟩:∃ m',m=m'+1:=⟨m-1,zOm⟩;obtain⟨rr,o⟩:=two m0 m1;have w1:qj.wrap (k+1)=k+1:=qi zOm zOm;have w2:qj.wrap ((l.length:Int)+40)=(l.length:Int)+40:=qi zOm zOm;have w3:qj.wrap ((i:Int)+1)=(i:Int)+1:=qi zOm zOm;have g:(i:Int)<=(l.length:Int)+40:=zOm;obtain⟨u,hu⟩:∃ u:Nat,k+1=(u:Int):=⟨(k+1).toNat,zOm⟩;have cd:=digU u u (qm _) zOm;have aj:=XZ (u:Int) zOm zOm;have a4:1+(jh (u:Int)).size<=9223372036854775807:=zOm;have hv:(⟨#[118]⟩:ByteArray)++jh (u:Int)=vN (k+1):=by rw[hu];rfl
 have p:=qnL (ts:=ts) t (k+1);have cn:=Kg ts a7 (vN (k+1));have a1:=Kf ts (vN (k+1));have hk:(named ts (vN (k+1))).2=(means ts (vN (k+1))).length:=by rw[Kx h]
 rw[hk]at cn;generalize (named ts (vN (k+1))).1=C at *
 have ch:=hasU l (vN (k+1)) zOm;clear m0 m1;simp[go_sem,I,J,e4,o,w1,w2,g];refine qc.pure cd (.cons (by rw[hu];exact .hf (HF.sc _)) .nil) ?_;simp[go_sem,I,J,e4,o,w1,w2,g,a4,hv];refine qc.pure cn (.zk (zA ts) (.zs .nil)) ?_;simp[go_sem,I,J,e4,o,w1,w2,g,a1.len];rw[if_pos a1.one];generalize putCells _ 0 C=PC;have next:yr ts es (vN (k+1))=false->∃ k':Int,k'=k+1/\zj ts es m k'=R/\∃ j:Nat,1<=j/\j<=m/\yr ts es (vN (k'+j))=true:=fun hn=>by
  refine⟨k+1,rfl,?_,j-1,?_,zOm,?_⟩
  .rw [<-hI];simp only[zj];rw[if_neg (by rw[hn];simp)]
  .have:j≠1:=fun e=>by subst e;rw[show k+((1:Nat):Int)=k+1 from rfl]at P;rw[hn]at P;cases P
   omega
  .rw [show k+1+((j-1:Nat):Int)=k+j by omega];exact P
 by_cases a0:means ts (vN (k+1))=[]
 .rw [a0]at p
  simp[go_sem,I,J,e4,o,w1,w2,g,a0];refine qc.pure ch (.zk (qbG l) (.zs .nil)) ?_;cases a5:inL (vN (k+1)) l with
  |true =>
   rw[a5]at p;obtain⟨k',r,a2,a3⟩:=next p;simp[go_sem,I,J,e4,o,w1,w2,w3,g];exact⟨m,zOm,Keep.mk' ⟨i+1,k+1,zOm,zOm,zOm,zS1 I,zS1 J,zSi,zSi,zSi,by rw[<-r];exact a2,by rw[<-r];exact a3⟩⟩
  |false =>
   rw[a5]at p;have a8:R=k+1:=by rw[<-hI];simp only[zj];rw[if_pos (by rw[p];rfl)]
   simp[go_sem,I,J,e4,o,w1,w2,g];rw[a8];exact .hf _ (HF.tup fun x hx=>by
    simp only[qt,qE,or_false]at hx;rcases hx with rfl|rfl
    .exact wo ts l ⟨k+1,s.cost⟩
    .exact HF.sc _)
 .have a9:¬(means ts (vN (k+1))).length=0:=fun e=>a0 (List.length_eq_zero_iff.1 e)
  rw[decide_eq_false a9]at p;obtain⟨k',r,a2,a3⟩:=next p;simp[go_sem,I,J,e4,o,w1,w2,w3,g,a0];exact⟨m,zOm,Keep.mk' ⟨i+1,k+1,zOm,zOm,zOm,zS1 I,zS1 J,zSi,zSi,zSi,by rw[<-r];exact a2,by rw[<-r];exact a3⟩⟩
abbrev Sb:=ByteArray×IV
def cAr:Option Nd->List AV
 |some a=>cNd a
 |none=>[aI 0,aS ⟨#[]⟩,aI 0,.lst true [],aI 0]
@[go_sem] theorem cAr_some(a:Nd):cAr (some a)=cNd a:=rfl
@[go_sem] theorem cAr_none:cAr none=[aI 0,aS ⟨#[]⟩,aI 0,.lst true [],aI 0]:=rfl
@[go_sem] theorem qnN(o:Option Nd):(cAr o).length=5:=by cases o<;>simp[go_sem,yQ]
theorem qnO(o:Option Nd):∀ c,c∈cAr o->HF c:=by
 cases o with
 |some a=>exact jy a
 |none =>
  intro c g;simp only[cAr,qt,qE,or_false]at g;rcases g with rfl|rfl|rfl|rfl|rfl
  .exact HF.sc _
  .exact HF.sc _
  .exact HF.sc _
  .exact HF.lst fun r i=>absurd i qE
  .exact HF.sc _
abbrev cSb(x:Sb):List AV:=[aS x.1,aS x.2.name,aB x.2.arg.isSome]++cAr x.2.arg++[aI x.2.size]
abbrev lSb(l:List Sb):AV := .lst false (l.map cSb)
def uF(nm:ByteArray)(l:List Sb):Option IV:=l.foldl (fun r e=>if e.1=nm then some e.2 else r) none
theorem UG(nm:ByteArray)(l:List Sb)(e:Sb):uF nm (l++[e])=if e.1=nm then some e.2 else uF nm l:=by
 unfold uF;rw[ue];rfl
theorem KQ{mu:Mu}(ts:TS)(l:List ByteArray)(s:ISt)(n:Nd)(z:Int):Rd mu (.tup [eWk ts l s,eNd n,aI z]) (.tup [eWk ts l s,eNd n,aI z]) := .hf _ (HF.tup fun x hx=>by
 simp only[qt,qE,or_false]at hx;rcases hx with rfl|rfl|rfl
 .exact wo ts l s
 .exact qz n
 .exact HF.sc _)
def Qd(sc:List Sb)(n:Nd)(s:ISt):(Nd×Int)×ISt:=match uF n.name sc with
 |none=>((n,1),s)
 |some v=>match v.arg with
  |none=>((.mk n.op v.name n.n n.kids n.pos,1),s)
  |some a=>((a,v.size),payS v.size s)
theorem leafU(ts:TS)(l:List ByteArray)(sc:List Sb)(hl:sc.length<=1000000)(n:Nd)(s:ISt)(hs:0<=s.cost/\s.cost<=1000000)(hz:∀ e,e∈sc->0<=e.2.size/\e.2.size<=1000000) :
  qd qb 209 [eWk ts l s,lSb sc,eNd n] (.tup [eWk ts l (Qd sc n s).2,eNd (Qd sc n s).1.1,aI (Qd sc n s).1.2]):=by
 unfold Qd;generalize hR:uF n.name sc=R;have wl:qj.wrap ((sc.length:Int)-1)=(sc.length:Int)-1:=qi zOm zOm;refine qd.of_sound (qe.of_awp call209 func209 rfl (qh zKr) zKr (pl:={ mt:=[3,5] }) ?_);simp[go_sem,wl,qw];refine qn.keep (fun m U=>m<=sc.length/\U.tm 1=lSb sc/\U.tm 3 = .ptr 0 0/\U.tm 5 = .ptr 1 0/\U.tm 6 = .ptr 2 0/\U.tm 7 = .ptr 3 0/\U.tm 9=aI ((m:Int)-1)/\U.mu=[.arr (cWk ts l s),.arr (cNd n),.arr zWk,.arr [aI 0,aS ⟨#[]⟩,aI 0,.lst true [],aI 0]]/\uF n.name (sc.take m)=R) sc.length ?_ ?_
 .exact ⟨qm _,zSi,zSi,zSi,zSi,zSi,zSi,by simp[go_sem,qw],by rw[zw];exact hR⟩
 rintro m U ⟨a3,j,o,p,r,t,C,I,P⟩;cases m with
 |zero =>
  have a2:R=none:=by rw[<-P];rfl
  subst a2;simp[go_sem,j,o,p,r,t,C,I,qw];refine qg.seg [0,1,4,2,3] [(0,0,[]),(1,0,[]),(4,0,[]),(2,1,[1]),(3,1,[])] zKr zKr zSi ?_;simp[go_sem,j,o,p,r,t,C,I,qw];exact KQ ts l s n 1
 |succ m =>
  have g:m<sc.length:=zOm;have a4:(0:Int)<=((m+1:Nat):Int)-1:=zOm;have a0:((m+1:Nat):Int)-1=(m:Int):=zOm;rw[a0]at C;rw[List.take_succ_eq_append_getElem g,UG]at P;have w1:qj.wrap ((m:Int)-1)=(m:Int)-1:=qi zOm zOm;have a5:=hz _ (qy g);generalize i:sc[m]=e at *
  by_cases J:e.1=n.name
  .rw [if_pos J]at P
   subst P;have w2:qj.wrap (s.cost+e.2.size)=s.cost+e.2.size:=qi zOm zOm;simp[go_sem,j,o,p,r,t,C,I,qw,g];refine qg.intro zKr ?_;simp[go_sem,j,o,p,r,t,C,I,qw,g,i,J];cases ha:e.2.arg with
   |none =>
    simp[go_sem,j,o,p,r,t,C,I,qw,g,i,J,ha];refine qg.seg [0,1,4,2,3] [(0,0,[]),(1,0,[]),(4,0,[]),(2,1,[1]),(3,1,[])] zKr zKr zSi ?_;have a1:(cNd n).set 1 (AV.sc (.string e.2.name))=cNd (.mk n.op e.2.name n.n n.kids n.pos):=by rw[yQ n,yQ];rfl
    rw[a1];simp[go_sem,j,o,p,r,t,C,I,qw];exact KQ ts l s _ 1
   |some a =>
    simp[go_sem,j,o,p,r,t,C,I,qw,g,i,J,ha];refine qg.seg [0,1,2,3,4,5,6,7,8,9] [(0,0,[]),(1,0,[]),(2,0,[]),(3,0,[]),(4,0,[]),(5,0,[]),(6,0,[]),(7,0,[]),(8,0,[]),(9,1,[])] zKr zKr zSi ?_;simp[go_sem,j,o,p,r,t,C,I,qw,g,i,J,ha,w2];refine qg.seg [0,1,2,3,4,5,6,7,8,9,10,13,11,12] [(0,0,[]),(1,0,[]),(2,0,[]),(3,0,[]),(4,0,[]),(5,0,[]),(6,0,[]),(7,0,[]),(8,0,[]),(9,0,[]),(10,0,[]),(13,0,[]),(11,1,[5,10]),(12,1,[10])] zKr zKr zSi ?_;simp[go_sem,j,o,p,r,t,C,I,qw,g,i,J,ha,w2];exact KQ ts l (payS e.2.size s) a e.2.size
  .rw [if_neg J]at P
   simp[go_sem,j,o,p,r,t,C,I,qw,g];refine qg.intro zKr ?_;simp[go_sem,j,o,p,r,t,C,I,qw,g,i,jA J,w1];exact⟨m,zOm,Keep.mk' ⟨zOm,zS1 j,zS1 o,zS1 p,zS1 r,zS1 t,zSi,zS1 I,P⟩⟩
theorem UH:∀(m:Nat) (n:Nd),szN n<=m->Small n->depN n<=1000000->qd qb 64 [eNd n] (aI (depN n))
 | 0,n,J,_,_=>by obtain⟨op,nm,i,ks,p⟩:=n;simp[szN]at J
 |m+1,n,J,P,R=>by
  have ih:∀ k,k∈n.kids->qd qb 64 [eNd k] (aI (depN k)):=fun k j =>
   UH m k (zW1 (zS j)) (P.kid j) (by rw[wd]at R;have:=XY j;omega)
  rw[wd]at R⊢;have a0:=P.len;have a1:=Jy n.kids;generalize hD:zZ n.kids=D at *
  refine qd.of_sound (qe.of_awp call64 func64 rfl (qh zKr) zKr (pl:={}) ?_);simp[go_sem];refine qn.upK n.kids.length (fun k U=>∃ d,U.tm 3=aI d/\U.tm 1 = .ip (cNd n)/\U.tm 4=aI k/\0<=d/\max d (zZ (n.kids.drop k))=D) ?_ ?_
  .exact ⟨0,zSi,zSi,zSi,zOm,by simp only[List.drop_zero,hD];omega⟩
  .rintro k U j ⟨d,r,l,t,a2,o⟩
   by_cases C:k=n.kids.length
   .subst C
    rw[yk]at o;simp only[zZ]at o;have I:d=D:=zOm;subst I;have w:qj.wrap (d+1)=d+1:=qi zOm zOm;simp[go_sem,r,l,t,w];exact .zsc _
   .have g:k<n.kids.length:=by omega
    have w1:qj.wrap ((k:Int)+1)=(k:Int)+1:=qi zOm zOm;rw[zt g]at o;simp only[zZ]at o;simp[go_sem,r,l,t,g,qw];refine qc.pure (ih n.kids[k] (qy g)) (.zk (qz _) .nil) ?_;simp[go_sem,r,l,t,w1];refine⟨g,Keep.mk' ?_⟩;refine⟨if d<depN n.kids[k] then depN n.kids[k] else d,zSi,zS1 l,zSi,?_,?_⟩
    .have:=ml n.kids[k]
     split<;>omega
    .split<;>omega
end QX
namespace FE
open Y1 Y9 P2 E5 Q1 Q4
theorem rd_ks{mu:Mu}(full:Bool)(ks:List Nd):Rd mu (.lst full (ks.map cNd)) (lNd ks):=by
 refine .wk _ full _ (.hf _ (HF.lst fun r g c i=>?_));obtain⟨b,_,rfl⟩:=qr.1 g;exact jy b c i
theorem KR{mu:Mu}(full:Bool)(op:Int)(nm:ByteArray)(i:Int)(ks:List Nd)(q:Int):Rd mu (.agg [aI op,aS nm,aI i,.lst full (ks.map cNd),aI q]) (eNd (.mk op nm i ks q)):=by
 have j:cNd (.mk op nm i ks q)=[aI op,aS nm,aI i,lNd ks,aI q]:=by rw[yQ];rfl
 rw[eNd,j];refine .agg _ _ rfl fun k x y hx g=>?_
 match k,hx,g with
 | 0,hx,g=>simp at hx g;subst hx;subst g;exact .zsc _
 | 1,hx,g=>simp at hx g;subst hx;subst g;exact .zsc _
 | 2,hx,g=>simp at hx g;subst hx;subst g;exact .zsc _
 | 3,hx,g=>simp at hx g;subst hx;subst g;exact rd_ks full ks
 | 4,hx,g=>simp at hx g;subst hx;subst g;exact .zsc _
 |k+5,hx,g=>simp at hx
theorem zh(op:Int)(ks:List Nd):qd qb 21 [aI op,lNd ks] (eNd (nk op ks)):=by
 refine qd.of_sound (qe.of_awp call21 func21 rfl (qh zKr) zKr (pl:={}) ?_);simp[go_sem];exact KR false op ⟨#[]⟩ 0 ks 0
theorem jo(nm:ByteArray):qd qb 53 [aS nm] (eNd (.mk 1 nm 0 [] 0)):=by
 refine qd.of_sound (qe.of_awp call53 func53 rfl (qh zKr) zKr (pl:={}) ?_);simp[go_sem];exact KR true 1 nm 0 [] 0
theorem UI(op:Int)(nm:ByteArray)(d f:Nd):qd qb 54 [aI op,aS nm,eNd d,eNd f] (eNd (nb op nm d f)):=by
 refine qd.of_sound (qe.of_awp call54 func54 rfl (qh zKr) zKr (pl:={}) ?_);simp[go_sem];exact KR true op nm 0 [d,f] 0
theorem qbI(n:Nd):qd qb 17 [eNd n] (aB (decide (kd n.op=102))):=by
 refine qd.of_sound (qe.of_awp call17 func17 rfl (qh zKr) zKr (pl:={}) ?_);simp[go_sem];refine qc.pure (nT n.op) (.zs .nil) ?_;simp[go_sem];exact .zsc _
theorem qbJ:∀(m:Nat) (n:Nd),szN n<=m->∀ left:Int,-1000000<=left/\left<=1000000->qd qb 63 [eNd n,aI left] (aI (cntN n left))
 | 0,n,J,_,_=>by obtain⟨op,nm,i,ks,p⟩:=n;simp[szN]at J
 |m+1,n,J,left,hl=>by
  have ih:∀ k,k∈n.kids->∀ left:Int,-1000000<=left/\left<=1000000->qd qb 63 [eNd k,aI left] (aI (cntN k left)):=fun k P =>
   qbJ m k (zW1 (zS P))
  rw[XN];generalize hR:yp n.kids left 1=R;refine qd.of_sound (qe.of_awp call63 func63 rfl (qh zKr) zKr (pl:={}) ?_);simp[go_sem];refine qn.upK n.kids.length (fun k U=>∃ sum:Int,U.tm 1=aI left/\U.tm 2 = .ip (cNd n)/\U.tm 5=aI sum/\U.tm 6=aI k/\(k:Int)+1<=sum/\(sum<=left+1\/sum=1)/\yp (n.kids.drop k) left sum=R) ?_ ?_
  .exact ⟨1,zSi,zSi,zSi,zSi,zOm,zOm,zUs hR⟩
  .rintro k U P ⟨sum,l,o,r,t,a0,a1,j⟩
   by_cases I:k=n.kids.length
   .subst I
    rw[yk]at j;simp only[yp]at j;subst j;simp[go_sem,l,o,r,t];exact .zsc _
   .have g:k<n.kids.length:=by omega
    rw[zt g]at j;simp only[yp]at j;by_cases C:sum<=left
    .rw [if_pos C]at j
     have w1:qj.wrap ((k:Int)+1)=(k:Int)+1:=qi zOm zOm;have w2:qj.wrap (left-sum)=left-sum:=qi zOm zOm;have a2:=Ue n.kids[k] (left-sum);have w3:qj.wrap (sum+cntN n.kids[k] (left-sum))=sum+cntN n.kids[k] (left-sum):=qi zOm zOm;simp[go_sem,l,o,r,t,g,C,w2,qw];refine qc.pure (ih n.kids[k] (qy g) (left-sum) ⟨zOm,zOm⟩) (.zk (qz _) (.zs .nil)) ?_;simp[go_sem,l,o,r,t,w1,w3];refine⟨g,Keep.mk' ?_⟩;exact⟨sum+cntN n.kids[k] (left-sum),zS1 l,zS1 o,zSi,zSi,zOm,zOm,j⟩
    .rw [if_neg C]at j
     subst j;simp[go_sem,l,o,r,t,g,C];exact .zsc _
def yb(op a s:Int)(i:Nat)(k:Int):Int:=if op=48\/op=49\/op=51 then k*s else if i=1/\(op=45\/op=46\/op=15) then k*a else k
def minW(v:Int):Int:=if 1000000<v then 1000000 else v
mutual
def wkN(a s:Int):Nd->Int
 | .mk op _ _ ks _=>wkNs a s op 0 ks 1
def wkNs(a s op:Int):Nat->List Nd->Int->Int
 |_,[],sum=>sum
 |i,k :: ks,sum=>wkNs a s op (i+1) ks (minW (sum+yb op a s i (wkN a s k)))
end
theorem qnP(a s:Int)(n:Nd):wkN a s n=wkNs a s n.op 0 n.kids 1:=by
 obtain⟨op,nm,i,ks,q⟩:=n;rw[wkN];rfl
theorem qbK{op a s:Int}{i:Nat}{k:Int}(j:0<=a/\a<=100)(l:0<=s/\s<=100)(g:0<=k/\k<=1000000):0<=yb op a s i k/\yb op a s i k<=100000000:=by
 unfold yb;have o:=Int.mul_nonneg g.1 j.1;have p:=Int.mul_nonneg g.1 l.1;have r:k*a<=1000000*100:=jS g.2 j.2 j.1 zOm;have t:k*s<=1000000*100:=jS g.2 l.2 l.1 zOm;split
 .omega
 .split<;>omega
theorem qbL{v:Int}(h:0<=v):0<=minW v/\minW v<=1000000:=by unfold minW;split<;>omega
mutual
theorem qbM(a s:Int)(g:0<=a/\a<=100)(i:0<=s/\s<=100):∀ n:Nd,0<=wkN a s n/\wkN a s n<=1000000
 | .mk op _ _ ks _=>by rw[wkN];exact qbN a s g i op ks 0 1 zOm
theorem qbN(a s:Int)(g:0<=a/\a<=100)(j:0<=s/\s<=100)(op:Int):∀(ks:List Nd) (i:Nat) (sum:Int),0<=sum/\sum<=1000000->0<=wkNs a s op i ks sum/\wkNs a s op i ks sum<=1000000
 | [],_,sum,h=>by rw[wkNs];exact h
 |k :: ks,i,sum,h=>by
  rw[wkNs];have l:=qbM a s g j k;have o:=qbK (op:=op) (i:=i) g j l;exact qbN a s g j op ks (i+1) _ (qbL zOm)
end
theorem KS(a s:Int)(ha:0<=a/\a<=100)(hs:0<=s/\s<=100):∀(m:Nat) (n:Nd),szN n<=m->Small n->qd qb 67 [eNd n,aI a,aI s] (aI (wkN a s n))
 | 0,n,hm,_=>by obtain⟨op,nm,i,ks,p⟩:=n;simp[szN]at hm
 |m+1,n,hm,a7=>by
  have ih:∀ k,k∈n.kids->qd qb 67 [eNd k,aI a,aI s] (aI (wkN a s k)):=fun k hk=>KS a s ha hs m k (zW1 (zS hk)) (a7.kid hk)
  rw[qnP];have a9:=a7.len;generalize hR:wkNs a s n.op 0 n.kids 1=R;refine qd.of_sound (qe.of_awp call67 func67 rfl (qh zKr) zKr (pl:={}) ?_);simp[go_sem];refine qn.upK n.kids.length (fun k U=>∃ sum:Int,U.tm 1=aI a/\U.tm 2=aI s/\U.tm 3 = .ip (cNd n)/\U.tm 7=aI sum/\U.tm 8=aI k/\(0<=sum/\sum<=1000000)/\wkNs a s n.op k (n.kids.drop k) sum=R) ?_ ?_
  .exact ⟨1,zSi,zSi,zSi,zSi,zSi,zOm,zUs hR⟩
  .rintro k U hk ⟨sum,r,t,C,e7,e8,aa,o⟩
   by_cases a8:k=n.kids.length
   .subst a8
    rw[yk,wkNs]at o;subst o;simp[go_sem,r,t,C,e7,e8];exact .zsc _
   .have l:k<n.kids.length:=by omega
    rw[zt l,wkNs]at o;have w1:qj.wrap ((k:Int)+1)=(k:Int)+1:=qi zOm zOm;have a3:=qbM a s ha hs n.kids[k];have ab:=qbK (op:=n.op) (i:=k) ha hs a3;have j:=qbL (v:=sum+yb n.op a s k (wkN a s n.kids[k])) zOm;have m1:=Int.mul_nonneg a3.1 ha.1;have m2:=Int.mul_nonneg a3.1 hs.1;have m3:wkN a s n.kids[k] * a<=1000000*100:=jS a3.2 ha.2 ha.1 zOm;have m4:wkN a s n.kids[k] * s<=1000000*100:=jS a3.2 hs.2 hs.1 zOm;simp[go_sem,r,t,C,e7,e8,l,qw];refine qc.pure (ih n.kids[k] (qy l)) (.zk (qz _) (.zs (.zs .nil))) ?_;generalize wkN a s n.kids[k]=K at *
    by_cases I:k=1
    .have g:(k:Int)=1:=by omega
     by_cases a0:n.op=48
     .have J:yb n.op a s k K=K*s:=by simp[yb,a0,I,g]
      rw[J]at o j;have P:qj.wrap (K*s)=K*s:=qi zOm zOm;have w3:qj.wrap (sum+K*s)=sum+K*s:=qi zOm zOm;simp[go_sem,r,t,C,e7,e8,w1,P,w3,l,a0,eq_true I,eq_true g];exact Keep.mk' ⟨_,zS1 r,zS1 t,zS1 C,by simp[go_sem,minW],zSi,j,o⟩
     by_cases a1:n.op=49
     .have J:yb n.op a s k K=K*s:=by simp[yb,a1,I,g]
      rw[J]at o j;have P:qj.wrap (K*s)=K*s:=qi zOm zOm;have w3:qj.wrap (sum+K*s)=sum+K*s:=qi zOm zOm;simp[go_sem,r,t,C,e7,e8,w1,P,w3,l,a1,eq_true I,eq_true g];exact Keep.mk' ⟨_,zS1 r,zS1 t,zS1 C,by simp[go_sem,minW],zSi,j,o⟩
     by_cases a2:n.op=51
     .have J:yb n.op a s k K=K*s:=by simp[yb,a2,I,g]
      rw[J]at o j;have P:qj.wrap (K*s)=K*s:=qi zOm zOm;have w3:qj.wrap (sum+K*s)=sum+K*s:=qi zOm zOm;simp[go_sem,r,t,C,e7,e8,w1,P,w3,l,a2,eq_true I,eq_true g];exact Keep.mk' ⟨_,zS1 r,zS1 t,zS1 C,by simp[go_sem,minW],zSi,j,o⟩
     by_cases a4:n.op=45
     .have J:yb n.op a s k K=K*a:=by simp[yb,a4,I,g]
      rw[J]at o j;have P:qj.wrap (K*a)=K*a:=qi zOm zOm;have w3:qj.wrap (sum+K*a)=sum+K*a:=qi zOm zOm;simp[go_sem,r,t,C,e7,e8,w1,P,w3,l,a4,eq_true I,eq_true g];exact Keep.mk' ⟨_,zS1 r,zS1 t,zS1 C,by simp[go_sem,minW],zSi,j,o⟩
     by_cases a5:n.op=46
     .have J:yb n.op a s k K=K*a:=by simp[yb,a5,I,g]
      rw[J]at o j;have P:qj.wrap (K*a)=K*a:=qi zOm zOm;have w3:qj.wrap (sum+K*a)=sum+K*a:=qi zOm zOm;simp[go_sem,r,t,C,e7,e8,w1,P,w3,l,a5,eq_true I,eq_true g];exact Keep.mk' ⟨_,zS1 r,zS1 t,zS1 C,by simp[go_sem,minW],zSi,j,o⟩
     by_cases a6:n.op=15
     .have J:yb n.op a s k K=K*a:=by simp[yb,a6,I,g]
      rw[J]at o j;have P:qj.wrap (K*a)=K*a:=qi zOm zOm;have w3:qj.wrap (sum+K*a)=sum+K*a:=qi zOm zOm;simp[go_sem,r,t,C,e7,e8,w1,P,w3,l,a6,eq_true I,eq_true g];exact Keep.mk' ⟨_,zS1 r,zS1 t,zS1 C,by simp[go_sem,minW],zSi,j,o⟩
     have J:yb n.op a s k K=K:=by simp[yb,a0,a1,a2,a4,a5,a6,I,g]
     rw[J]at o j;have P:=w1;have w3:qj.wrap (sum+K)=sum+K:=qi zOm zOm;simp[go_sem,r,t,C,e7,e8,w1,P,w3,l,a0,a1,a2,a4,a5,a6,eq_true I,eq_true g];exact Keep.mk' ⟨_,zS1 r,zS1 t,zS1 C,by simp[go_sem,minW],zSi,j,o⟩
    .have g:¬(k:Int)=1:=by omega
     by_cases a0:n.op=48
     .have J:yb n.op a s k K=K*s:=by simp[yb,a0,I,g]
      rw[J]at o j;have P:qj.wrap (K*s)=K*s:=qi zOm zOm;have w3:qj.wrap (sum+K*s)=sum+K*s:=qi zOm zOm;simp[go_sem,r,t,C,e7,e8,w1,P,w3,l,a0,I,g];exact Keep.mk' ⟨_,zS1 r,zS1 t,zS1 C,by simp[go_sem,minW],zSi,j,o⟩
     by_cases a1:n.op=49
     .have J:yb n.op a s k K=K*s:=by simp[yb,a1,I,g]
      rw[J]at o j;have P:qj.wrap (K*s)=K*s:=qi zOm zOm;have w3:qj.wrap (sum+K*s)=sum+K*s:=qi zOm zOm;simp[go_sem,r,t,C,e7,e8,w1,P,w3,l,a1,I,g];exact Keep.mk' ⟨_,zS1 r,zS1 t,zS1 C,by simp[go_sem,minW],zSi,j,o⟩
     by_cases a2:n.op=51
     .have J:yb n.op a s k K=K*s:=by simp[yb,a2,I,g]
      rw[J]at o j;have P:qj.wrap (K*s)=K*s:=qi zOm zOm;have w3:qj.wrap (sum+K*s)=sum+K*s:=qi zOm zOm;simp[go_sem,r,t,C,e7,e8,w1,P,w3,l,a2,I,g];exact Keep.mk' ⟨_,zS1 r,zS1 t,zS1 C,by simp[go_sem,minW],zSi,j,o⟩
     have J:yb n.op a s k K=K:=by simp[yb,a0,a1,a2,I,g]
     rw[J]at o j;have P:=w1;have w3:qj.wrap (sum+K)=sum+K:=qi zOm zOm;simp[go_sem,r,t,C,e7,e8,w1,P,w3,l,a0,a1,a2,I,g];exact Keep.mk' ⟨_,zS1 r,zS1 t,zS1 C,by simp[go_sem,minW],zSi,j,o⟩
end FE
namespace FF
open Y1 Y9 Y16 YZ P1 YF E3 E9 Q4 Q8 QX F1 F2 FD FE
mutual
theorem UJ:∀ n:Nd,depN n=(dN n:Int)
 | .mk _ _ _ ks _=>by simp only[depN,dN];rw[qbO ks];omega
theorem qbO:∀ ks:List Nd,zZ ks=(dNs ks:Int)
 | []=>rfl
 |k :: ks=>by simp only[zZ,dNs];rw[UJ k,qbO ks];omega
end
def ZK(m:Md)(n:Nd):Bool:=qS n&&decide (wkN (sumI m.sc.atoms) m.states.length n<=3000)
theorem qnQ(m:Md)(g:GSc m.sc)(p:m.states.length<=64)(n:Nd):qd qb 62 [eMd m,eNd n] (aB (ZK m n)):=by
 have l:=XQ n;have i:=g.sum m.sc.atoms.length;rw[zw]at i;refine qd.of_sound (qe.of_awp call62 func62 rfl (qh zKr) zKr (pl:={}) ?_);simp[go_sem];refine qc.pure l (.zk (qz n) .nil) ?_;cases j:qS n with
 |false =>
  simp[go_sem,ZK,j];refine qg.intro zKr ?_;simp[go_sem];exact .zsc _
 |true =>
  have o:=KS (sumI m.sc.atoms) m.states.length zOm zOm (szN n) n (qm _) (yE j).small;simp[go_sem,ZK,j];refine qg.intro zKr ?_;simp[go_sem];refine qc.pure (Yd m.sc g) (.zk (jx m.sc) .nil) ?_;simp[go_sem];refine qc.pure o (.zk (qz n) (.zs (.zs .nil))) ?_;simp[go_sem];exact .zsc _
def smB(m:Md)(n:Nd):Bool:=ZK m n&&(decide (cntN n 90<=90)&&decide (depN n<=18))
theorem qnR(m:Md)(g:GSc m.sc)(o:m.states.length<=64)(n:Nd):qd qb 16 [eMd m,eNd n] (aB (smB m n)):=by
 have p:=qnQ m g o n;have r:=qbJ (szN n) n (qm _) 90 zOm;refine qd.of_sound (qe.of_awp call16 func16 rfl (qh zKr) zKr (pl:={}) ?_);simp[go_sem];refine qc.pure p (.zk (yK m) (.zk (qz n) .nil)) ?_;cases j:ZK m n with
 |false =>
  simp[go_sem,smB,j];exact .zsc _
 |true =>
  have i:qS n=true:=by simp only[ZK,qB]at j;exact j.1
  have t:=UH (szN n) n (qm _) (yE i).small (by rw[UJ];have:=w6 i;omega);simp[go_sem,smB,j];refine qc.pure r (.zk (qz n) (.zs .nil)) ?_;by_cases l:cntN n 90<=90
  .simp [go_sem,l]
   refine qc.pure t (.zk (qz n) .nil) ?_;simp[go_sem];exact .zsc _
  .simp [go_sem,l]
   exact .zsc _
noncomputable def fitB(ts:TS)(m:Md)(s:Int)(env:List (ByteArray×Int))(D:List Dg):Bool:=
 yq ts&&(Yf (spOf ts) m&&(dec (MVal (spOf ts) m)&&(decide (D.length=0)&&(decide (0<=s)&&(decide (s<m.states.length)&&(decide (env.length<=8)&&env.all fun e=>decide (0<=e.2)&&decide (e.2<sumI m.sc.atoms)))))))
theorem qbP{p:Prop}(h:dec p=true):p:=@of_decide_eq_true p (Classical.propDecidable p) h
theorem qnS(ts:TS)(m:Md)(s:Int)(env:List (ByteArray×Int))(D:List Dg)(P:yq ts=true->qd qb 61 [eTS ts] (lDg D)):qd qb 15 [eTS ts,eMd m,aI s,lPm env] (aB (fitB ts m s env D)):=by
 generalize g:fitB ts m s env D=R;unfold fitB at g;refine qd.of_sound (qe.of_awp call15 func15 rfl (qh zKr) zKr (pl:={}) ?_);simp[go_sem];refine qc.pure (qjV ts) (.zk (zA ts) .nil) ?_;cases r:yq ts with
 |false =>
  rw[r]at g;replace g:false=R:=g;subst g;simp[go_sem];exact .zsc _
 |true =>
  rw[r,Bool.true_and]at g;simp[go_sem];refine qc.pure (qi9 (spOf ts) m) (.zk (zA ts) (.zk (yK _) .nil)) ?_;cases t:Yf (spOf ts) m with
  |false =>
   rw[t]at g;replace g:false=R:=g;subst g;simp[go_sem];exact .zsc _
  |true =>
   rw[t,Bool.true_and]at g;simp[go_sem];refine qc.pure (qjC (spOf ts) m (XK.1 t)) (.zk (zA ts) (.zk (yK _) .nil)) ?_;cases C:dec (MVal (spOf ts) m) with
   |false =>
    rw[C]at g;replace g:false=R:=g;subst g;simp[go_sem];exact .zsc _
   |true =>
    rw[C,Bool.true_and]at g;simp[go_sem];refine qc.pure (P r) (.zk (zA ts) .nil) ?_;by_cases c1:0<D.length
    .rw [decide_eq_false (show ¬D.length=0 by omega)]at g;replace g:false=R:=g;subst g
     simp[go_sem,c1];exact .zsc _
    rw[decide_eq_true (show D.length=0 by omega),Bool.true_and]at g;by_cases c2:s<0
    .rw [decide_eq_false (show ¬ 0<=s by omega)]at g;replace g:false=R:=g;subst g
     simp[go_sem,c1,c2];exact .zsc _
    rw[decide_eq_true (show 0<=s by omega),Bool.true_and]at g;by_cases c3:(m.states.length:Int)<=s
    .rw [decide_eq_false (show ¬s<m.states.length by omega)]at g;replace g:false=R:=g;subst g
     simp[go_sem,c1,c2,c3];exact .zsc _
    rw[decide_eq_true (show s<m.states.length by omega),Bool.true_and]at g;by_cases c4:(8:Int)<env.length
    .rw [decide_eq_false (show ¬env.length<=8 by omega)]at g;replace g:false=R:=g;subst g
     simp[go_sem,c1,c2,c3,c4];exact .zsc _
    rw[decide_eq_true (show env.length<=8 by omega),Bool.true_and]at g;have I:MVal (spOf ts) m:=qbP C;have hg:GSc m.sc:=XI I.sc;simp[go_sem,c1,c2,c3,c4];refine qc.pure (Yd m.sc hg) (.zk (jx m.sc) .nil) ?_;simp[go_sem];refine qn.upK env.length (fun k U=>U.tm 3=lPm env/\U.tm 10=aI (sumI m.sc.atoms)/\U.tm 11=aI k/\((env.drop k).all fun e=>decide (0<=e.2)&&decide (e.2<sumI m.sc.atoms))=R) ?_ ?_
    .exact ⟨zSi,zSi,zSi,g⟩
    rintro k U hk ⟨p,j,l,i⟩;by_cases o:k<env.length
    .have w1:qj.wrap ((k:Int)+1)=(k:Int)+1:=qi zOm zOm
     rw[zt o,List.all_cons]at i;by_cases d1:env[k].2<0
     .rw [decide_eq_false (show ¬ 0<=env[k].2 by omega)]at i;replace i:false=R:=i;subst i
      simp[go_sem,p,j,l,o,d1];exact .zsc _
     rw[decide_eq_true (show 0<=env[k].2 by omega),Bool.true_and]at i;by_cases d2:sumI m.sc.atoms<=env[k].2
     .rw [decide_eq_false (show ¬env[k].2<sumI m.sc.atoms by omega)]at i;replace i:false=R:=i;subst i
      simp[go_sem,p,j,l,o,d1,d2];exact .zsc _
     rw[decide_eq_true (show env[k].2<sumI m.sc.atoms by omega),Bool.true_and]at i;simp[go_sem,p,j,l,o,d1,d2,w1];exact Keep.mk' ⟨zS1 p,zS1 j,zSi,i⟩
    .have J:k=env.length:=by omega
     subst J;rw[yk]at i;replace i:true=R:=i;subst i;simp[go_sem,p,j,l];exact .zsc _
end FF
namespace FH
open YF P1 P2 Y1 Y9 Y14 YZ YG Q6 YH
theorem qnT(ts:TS)(h:okTS ts)(J:∀ p,p∈ts.preds->WfN p.body)(n:Nd)(U:WfN n)(g:anyN (fun n=>decide (n.op=47)) n=false):qd qb 68 [eTS ts,eNd n] (.tup [eNd (qK ts n).1,aI (qK ts n).2]):=by
 generalize o:qK ts n=R;unfold qK at o;refine qd.of_sound (qe.of_awp call68 func68 rfl (qh zKr) zKr (pl:={ mt:=[25] }) ?_);simp[go_sem];refine qc.pure (nM ts h J n U [] ⟨zSp,zSp⟩) (.zk (zA ts) (.cons (WK.lst fun r hr=>absurd hr qE) (.zk (qz n) .nil))) ?_;simp[go_sem];by_cases j:(yi ts [] n).1=0
 case neg =>
  rw[if_pos j]at o;subst o;simp[go_sem,j];refine qg.seg [0,1,2,4,3] [(0,0,[]),(1,0,[]),(2,0,[]),(4,0,[]),(3,1,[2])] zKr zKr zSi ?_
  all_goals
   simp[go_sem,j];exact ZH _ _
 case pos =>
  rw[if_neg (zUs j)]at o;simp[go_sem,j];have P:∀(v:List Nd) (k:Nd) (C:Mu),InM ts (putN [] v) (v.any fun n=>decide (n.op=47)) C->qe qb 140 (eNd k :: [.ptr 4 0,.ptr 5 0]) C fun e m=>e = .ret (.tup [])/\InM ts (putN [] (v++[k])) ((v++[k]).any fun n=>decide (n.op=47)) m:=fun v k C i=>by
   refine(mq ts ⟨0,0⟩ 2 _ _ k i.p i.x i.c i.t).monoR ?_;rintro e m ⟨rfl,rfl⟩;refine⟨rfl,?_⟩;rw[List.any_append];simp only[putN,ue,List.foldl_cons,List.foldl_nil,List.any_cons,List.any_nil,Bool.or_false];exact i.setT.setC
  refine qc.eff0 (Uh (caps:=[.ptr 4 0,.ptr 5 0]) (fun v C=>InM ts (putN [] v) (v.any fun n=>decide (n.op=47)) C) (fun v C l h=>h.push l) P (szN n) n (qm _) U.small [] _ ⟨rfl,rfl,rfl,rfl,rfl⟩) ?_ (by rintro r m ⟨e,_⟩;cases e);rintro r m ⟨e,i⟩;cases e;rw[jq,<-Yl _ (szN n) n (qm _),g]at i;have a1:=i.len;have I:∀ c,(m.set 0 c)[0]?=some c:=fun c=>List.getElem?_set_self zOm
  rw[if_pos g]at o;subst o;simp[go_sem,i.c,i.r,I,qw];exact .hf _ (HF.tup fun c j=>by simp at j;rcases j with rfl|rfl;exact qz n;exact HF.sc _)
end FH
namespace FG
open Y1 Y9 P1 YG Q6 YF E3 E4 E5 EA Q4 QB F2 FB FC FD FE
def hA:ByteArray:=⟨#[65]⟩
def hf:ByteArray:=⟨#[102]⟩
def hx:ByteArray:=⟨#[120]⟩
def hg:ByteArray:=⟨#[103]⟩
def hp:ByteArray:=⟨#[112]⟩
def hAf:ByteArray:=⟨#[65,95,102,105,114,115,116]⟩
def hAn:ByteArray:=⟨#[65,95,110,101,120,116]⟩
def nm(b:ByteArray):Nd := .mk 1 b 0 [] 0
def tsH:TS:=⟨[(hA,true)],[⟨hf,[0,0],true⟩],[],[]⟩
def mdH:Md:=⟨⟨[2],2⟩,[[⟨2,[1]⟩],[⟨2,[1,2]⟩]],1⟩
abbrev xH:Mo:=⟨tsH,mdH⟩
def zr:Nd:=nk 9 [nm hf,nm hf]
def JT:Nd:=nk 38 [nk 21 [nk 13 [nm hf]],.mk 20 ⟨#[]⟩ 3 [] 0]
def JU:Nd:=nb 45 hx (nm hA) (nk 37 [nk 9 [nm hx,nm hf]])
def JV:Nd:=nb 15 hx (nm hA) (nk 35 [nk 9 [nm hx,nm hf]])
def eqH:Nd:=nk 33 [nm hf,nk 9 [nm hAf,nm hAn]]
def untH:Nd:=nk 51 [nk 35 [zr],nk 48 [nk 34 [zr]]]
def inH:Nd:=nk 32 [nm hf,nm hA]
def KT:Nd := .mk 47 hp 0 [] 0
theorem v1:fmV ((den xH (nk 34 [zr])).F ⟨0,[]⟩)=(false,0):=by decide +kernel
theorem v2:fmV ((den xH JT).F ⟨0,[]⟩)=(true,0):=by decide +kernel
theorem v3:fmV ((den xH JU).F ⟨0,[]⟩)=(true,0):=by decide +kernel
theorem v4:(den xH JV).E ⟨0,[]⟩ = .ok ⟨1,[1]⟩:=by rfl
theorem v5:(den xH (nk 21 [nk 5 [zr]])).N ⟨0,[]⟩ = .ok 2:=by rfl
theorem v6:fmV ((den xH eqH).F ⟨0,[(hf,1)]⟩)=(true,0):=by decide +kernel
theorem v7:fmV ((den xH untH).F ⟨0,[]⟩)=(true,0):=by decide +kernel
theorem v8:(den xH (nm hg)).E ⟨0,[]⟩ = .error 40:=by rfl
theorem v9:fmV ((den xH inH).F ⟨0,[]⟩)=(false,42):=by decide +kernel
theorem v10:fmV ((den xH KT).F ⟨0,[]⟩)=(false,45):=by decide +kernel
theorem v11:(den xH (nm hf)).N ⟨0,[]⟩ = .error 43:=by rfl
theorem v12:fmV ((den xH (nk 34 [nm hf])).F ⟨0,[]⟩)=(true,0):=by decide +kernel
theorem qbQ:okTS tsH:=⟨zDe,zDe,zDe,zDe,fun x hx=>by
 have:x=(hA,true):=by simpa[tsH] using hx
 subst this;decide,fun f g=>by
 have:f=⟨hf,[0,0],true⟩:=by simpa[tsH] using g
 subst this;exact⟨zDe,zDe,fun x hx=>by simp at hx;subst hx;decide⟩,fun p hp=>by simp[tsH]at hp⟩
theorem okMH:OkMa xH 2:=by
 refine { len:=rfl,nx:=?_,n0:=zDe,n12:=zDe,st:=?_,at0:=?_,gsc:=⟨zDe,fun a g=>?_⟩,pos:=fun a g=>?_,al:=rfl,loop:=zDe,N1:=zDe,ts:=qbQ }
 .intro t o
  match t,o with
  | 0,_=>decide
  | 1,_=>decide
  |t+2,o=>omega
 .intro s p
  match s,p with
  | 0,_=>exact⟨rfl,fun r j=>by
    have:r=⟨2,[1]⟩:=by simpa[mdH] using j
    subst this;exact XV (by decide +kernel)⟩
  | 1,_=>exact⟨rfl,fun r j=>by
    have:r=⟨2,[1,2]⟩:=by simpa[mdH] using j
    subst this;exact XV (by decide +kernel)⟩
  |s+2,p=>omega
 .intro i l
  match i,l with
  | 0,_=>decide
  |i+1,l=>exact absurd l (by simp[tsH])
 .have:a=2:=by simpa[mdH] using g
  subst this;decide
 .have:a=2:=by simpa[mdH] using g
  subst this;decide
theorem okPH:OkP xH 2 ⟨0,[]⟩:=⟨zDe,fun e g=>by simp at g⟩
theorem qbR:OkP xH 2 ⟨0,[(hf,1)]⟩:=⟨zDe,fun e g=>by
 have:e=(hf,1):=zUs g;subst this;decide⟩
theorem wS:WK (.agg [.lst true [[aS hA,aB true]],.lst true [[aS hf,.lst true [[aI 0],[aI 0]],aB true]],.lst true [],.lst true []]) (eTS tsH):=
 WK.aggs ⟨jb ⟨⟨.hf (HF.sc _),.hf (HF.sc _),trivial⟩,trivial⟩,jb ⟨⟨.hf (HF.sc _),jb ⟨⟨.hf (HF.sc _),trivial⟩,⟨.hf (HF.sc _),trivial⟩,trivial⟩,.hf (HF.sc _),trivial⟩,trivial⟩,jb trivial,jb trivial,trivial⟩
theorem wM:WK (.agg [.lst true [[aI 2]],aI 2,.lst true [[.lst true [[aI 2,.lst true [[aI 1]]]]],[.lst true [[aI 2,.lst true [[aI 1],[aI 2]]]]]],aI 1]) (eMd mdH):=
 WK.aggs ⟨jb ⟨⟨.hf (HF.sc _),trivial⟩,trivial⟩,.hf (HF.sc _),jb ⟨⟨jb ⟨⟨.hf (HF.sc _),jb ⟨⟨.hf (HF.sc _),trivial⟩,trivial⟩,trivial⟩,trivial⟩,trivial⟩,⟨jb ⟨⟨.hf (HF.sc _),jb ⟨⟨.hf (HF.sc _),trivial⟩,⟨.hf (HF.sc _),trivial⟩,trivial⟩,trivial⟩,trivial⟩,trivial⟩,trivial⟩,.hf (HF.sc _),trivial⟩
theorem wE:WK (.lst true []) (lPm []):=WK.lst fun r g=>absurd g qE
theorem wEv(n:Nd){env:AV}{l:List (ByteArray×Int)}(h:WK env (lPm l)):WKs [.agg [.lst true [[aS hA,aB true]],.lst true [[aS hf,.lst true [[aI 0],[aI 0]],aB true]],.lst true [],.lst true []],.agg [.lst true [[aI 2]],aI 2,.lst true [[.lst true [[aI 2,.lst true [[aI 1]]]]],[.lst true [[aI 2,.lst true [[aI 1],[aI 2]]]]]],aI 1],aI (0:Nat),env,eNd n] [eTS xH.ts,eMd xH.m,aI (0:Nat),lPm l,eNd n] := .cons wS (.cons wM (.zs (.cons h (.zk (qz _) .nil))))
theorem wN(op:Int)(l:List Nd):WKs [aI op,.lst true (l.map cNd)] [aI op,lNd l] := .zs (.cons (wkNd l) .nil)
theorem wB(op:Int)(nm:ByteArray)(d f:Nd):WKs [aI op,aS nm,eNd d,eNd f] [aI op,aS nm,eNd d,eNd f] := .zs (.zs (.zk (qz _) (.zk (qz _) .nil)))
theorem evH(n:Nd)(g:qS n=true)(p:Pl)(hp:OkP xH 2 p)(i:p.env.length<=10)(q:Bool×Int)(e:fmV ((den xH n).F p)=q):qd qb 23 [eTS xH.ts,eMd xH.m,aI p.st,lPm p.env,eNd n] (.tup [aB q.1,aI q.2]):=by
 have h:=XC xH 2 n (yE g) okMH p hp (by have:=w6 g;show _+_<=_;omega);rw[XD,e]at h;exact h
theorem wEv2{n:Nd}{g env:AV}{l:List (ByteArray×Int)}(i:WK g (eNd n))(h:WK env (lPm l)):WKs [.agg [.lst true [[aS hA,aB true]],.lst true [[aS hf,.lst true [[aI 0],[aI 0]],aB true]],.lst true [],.lst true []],.agg [.lst true [[aI 2]],aI 2,.lst true [[.lst true [[aI 2,.lst true [[aI 1]]]]],[.lst true [[aI 2,.lst true [[aI 1],[aI 2]]]]]],aI 1],aI (0:Nat),env,g] [eTS xH.ts,eMd xH.m,aI (0:Nat),lPm l,eNd n] := .cons wS (.cons wM (.zs (.cons h (.cons i .nil))))
theorem wEb:WK (.lst true [[aS hf,aI 1]]) (lPm [(hf,1)]):=jb ⟨⟨.hf (HF.sc _),.hf (HF.sc _),trivial⟩,trivial⟩
theorem exH(n:Nd)(g:qS n=true)(p:Pl)(hp:OkP xH 2 p)(i:p.env.length<=10)(q:XE Rl)(e:(den xH n).E p=q):qd qb 55 [eTS xH.ts,eMd xH.m,aI p.st,lPm p.env,eNd n] (outE q):=by
 have h:=nK xH 2 n (yE g) okMH p hp (by have:=w6 g;show _+_<=_;omega);rw[e]at h;exact h
theorem inHU(n:Nd)(g:qS n=true)(p:Pl)(hp:OkP xH 2 p)(i:p.env.length<=10)(q:XE Int)(e:(den xH n).N p=q):qd qb 56 [eTS xH.ts,eMd xH.m,aI p.st,lPm p.env,eNd n] (outN q):=by
 have h:=intP xH 2 n (yE g) okMH p hp (by have:=w6 g;show _+_<=_;omega);rw[e]at h;exact h
@[go_sem] theorem outE_ok(r:Rl):outE (.ok r) = .tup [eRel r,aI 0]:=rfl
@[go_sem] theorem outE_err(e:Int):outE (.error e) = .tup [eRel ⟨0,[]⟩,aI e]:=rfl
@[go_sem] theorem outN_ok(r:Int):outN (.ok r) = .tup [aI r,aI 0]:=rfl
@[go_sem] theorem outN_err(e:Int):outN (.error e) = .tup [aI 0,aI e]:=rfl
theorem v13:qK tsH (nk 34 [nm hf])=(nk 34 [nm hf],0):=by
 have h:(yi tsH [] (nk 34 [nm hf])).1=0:=by decide +kernel
 have g:anyN (fun n=>decide (n.op=47)) (nk 34 [nm hf])=false:=by decide +kernel
 unfold qK;rw[if_neg (zUs h),if_pos g]
theorem hoH:qd qb 20 [eTS xH.ts,eMd xH.m,eNd (nk 34 [nm hf])] (.tup [aB true,aI 0]):=by
 have g:=FH.qnT tsH qbQ (fun p hp=>by simp[tsH]at hp) (nk 34 [nm hf]) (yE (by decide +kernel)) (by decide +kernel);rw[v13]at g;have h:=XF xH 2 okMH zDe (fun b=>(b,0)) (nk 34 [nm hf]) zDe fun b i=>by
  have:b=nk 34 [nm hf]:=by simpa[tsH] using i
  subst this;exact⟨g,fun _=>⟨yE (by decide +kernel),by decide +kernel⟩⟩
 have e:vo (fun b=>(b,0)) xH (xH.ts.facts.map Prod.snd++[nk 34 [nm hf]]) true=(true,0):=by
  show vo (fun b=>(b,0)) xH [nk 34 [nm hf]] true=(true,0);simp only[vo,v12];rfl
 rw[e]at h;exact h
theorem wHo:WKs [.agg [.lst true [[aS hA,aB true]],.lst true [[aS hf,.lst true [[aI 0],[aI 0]],aB true]],.lst true [],.lst true []],.agg [.lst true [[aI 2]],aI 2,.lst true [[.lst true [[aI 2,.lst true [[aI 1]]]]],[.lst true [[aI 2,.lst true [[aI 1],[aI 2]]]]]],aI 1],eNd (nk 34 [nm hf])] [eTS xH.ts,eMd xH.m,eNd (nk 34 [nm hf])] := .cons wS (.cons wM (.zk (qz _) .nil))
theorem eqHU:qd qb 57 [eRel ⟨1,[1]⟩,eRel ⟨1,[1]⟩] (aB true):=gF ⟨1,[1]⟩ ⟨1,[1]⟩ zDe
theorem qnU:qd qb 14 [] (aB true):=by
 refine qd.of_sound (qe.of_awp call14 func14 rfl (qh zKr) zKr (pl:={}) ?_);simp[go_sem]
 first|refine qc.pure (jo hf) (.zs .nil) ?_ | (refine qg.intro zKr ?_;simp[go_sem];refine qc.pure (jo hf) (.zs .nil) ?_)
 simp[go_sem,qw]
 first|refine qc.pure (zh 9 [nm hf,nm hf]) (wN 9 [nm hf,nm hf]) ?_ | (refine qg.intro zKr ?_;simp[go_sem];refine qc.pure (zh 9 [nm hf,nm hf]) (wN 9 [nm hf,nm hf]) ?_)
 simp[go_sem,qw]
 first|refine qc.pure (zh 13 [nm hf]) (wN 13 [nm hf]) ?_ | (refine qg.intro zKr ?_;simp[go_sem];refine qc.pure (zh 13 [nm hf]) (wN 13 [nm hf]) ?_)
 simp[go_sem,qw]
 first|refine qc.pure (zh 21 [nk 13 [nm hf]]) (wN 21 [nk 13 [nm hf]]) ?_ | (refine qg.intro zKr ?_;simp[go_sem];refine qc.pure (zh 21 [nk 13 [nm hf]]) (wN 21 [nk 13 [nm hf]]) ?_)
 simp[go_sem,qw]
 first|refine qc.pure (zh 38 [nk 21 [nk 13 [nm hf]],.mk 20 ⟨#[]⟩ 3 [] 0]) (.zs (.cons (jb ⟨Kc (jy (nk 21 [nk 13 [nm hf]])),Ke 20 ⟨#[]⟩ 3 0 (jb trivial),trivial⟩) .nil)) ?_ | (refine qg.intro zKr ?_;simp[go_sem];refine qc.pure (zh 38 [nk 21 [nk 13 [nm hf]],.mk 20 ⟨#[]⟩ 3 [] 0]) (.zs (.cons (jb ⟨Kc (jy (nk 21 [nk 13 [nm hf]])),Ke 20 ⟨#[]⟩ 3 0 (jb trivial),trivial⟩) .nil)) ?_)
 simp[go_sem,qw]
 first|refine qc.pure (jo hA) (.zs .nil) ?_ | (refine qg.intro zKr ?_;simp[go_sem];refine qc.pure (jo hA) (.zs .nil) ?_)
 simp[go_sem,qw]
 first|refine qc.pure (jo hx) (.zs .nil) ?_ | (refine qg.intro zKr ?_;simp[go_sem];refine qc.pure (jo hx) (.zs .nil) ?_)
 simp[go_sem,qw]
 first|refine qc.pure (zh 9 [nm hx,nm hf]) (wN 9 [nm hx,nm hf]) ?_ | (refine qg.intro zKr ?_;simp[go_sem];refine qc.pure (zh 9 [nm hx,nm hf]) (wN 9 [nm hx,nm hf]) ?_)
 simp[go_sem,qw]
 first|refine qc.pure (zh 37 [nk 9 [nm hx,nm hf]]) (wN 37 [nk 9 [nm hx,nm hf]]) ?_ | (refine qg.intro zKr ?_;simp[go_sem];refine qc.pure (zh 37 [nk 9 [nm hx,nm hf]]) (wN 37 [nk 9 [nm hx,nm hf]]) ?_)
 simp[go_sem,qw]
 first|refine qc.pure (UI 45 hx (nm hA) (nk 37 [nk 9 [nm hx,nm hf]])) (wB 45 hx (nm hA) (nk 37 [nk 9 [nm hx,nm hf]])) ?_ | (refine qg.intro zKr ?_;simp[go_sem];refine qc.pure (UI 45 hx (nm hA) (nk 37 [nk 9 [nm hx,nm hf]])) (wB 45 hx (nm hA) (nk 37 [nk 9 [nm hx,nm hf]])) ?_)
 simp[go_sem,qw]
 first|refine qc.pure (jo hA) (.zs .nil) ?_ | (refine qg.intro zKr ?_;simp[go_sem];refine qc.pure (jo hA) (.zs .nil) ?_)
 simp[go_sem,qw]
 first|refine qc.pure (jo hx) (.zs .nil) ?_ | (refine qg.intro zKr ?_;simp[go_sem];refine qc.pure (jo hx) (.zs .nil) ?_)
 simp[go_sem,qw]
 first|refine qc.pure (zh 9 [nm hx,nm hf]) (wN 9 [nm hx,nm hf]) ?_ | (refine qg.intro zKr ?_;simp[go_sem];refine qc.pure (zh 9 [nm hx,nm hf]) (wN 9 [nm hx,nm hf]) ?_)
 simp[go_sem,qw]
 first|refine qc.pure (zh 35 [nk 9 [nm hx,nm hf]]) (wN 35 [nk 9 [nm hx,nm hf]]) ?_ | (refine qg.intro zKr ?_;simp[go_sem];refine qc.pure (zh 35 [nk 9 [nm hx,nm hf]]) (wN 35 [nk 9 [nm hx,nm hf]]) ?_)
 simp[go_sem,qw]
 first|refine qc.pure (UI 15 hx (nm hA) (nk 35 [nk 9 [nm hx,nm hf]])) (wB 15 hx (nm hA) (nk 35 [nk 9 [nm hx,nm hf]])) ?_ | (refine qg.intro zKr ?_;simp[go_sem];refine qc.pure (UI 15 hx (nm hA) (nk 35 [nk 9 [nm hx,nm hf]])) (wB 15 hx (nm hA) (nk 35 [nk 9 [nm hx,nm hf]])) ?_)
 simp[go_sem,qw]
 first|refine qc.pure (zh 34 [zr]) (wN 34 [zr]) ?_ | (refine qg.intro zKr ?_;simp[go_sem];refine qc.pure (zh 34 [zr]) (wN 34 [zr]) ?_)
 simp[go_sem,qw]
 first|refine qc.pure (evH (nk 34 [zr]) (by decide +kernel) ⟨0,[]⟩ okPH zDe (false,0) v1) (wEv (nk 34 [zr]) wE) ?_ | (refine qg.intro zKr ?_;simp[go_sem];refine qc.pure (evH (nk 34 [zr]) (by decide +kernel) ⟨0,[]⟩ okPH zDe (false,0) v1) (wEv (nk 34 [zr]) wE) ?_)
 simp[go_sem,qw]
 first|refine qc.pure (evH (JT) (by decide +kernel) ⟨0,[]⟩ okPH zDe (true,0) v2) (wEv (JT) wE) ?_ | (refine qg.intro zKr ?_;simp[go_sem];refine qc.pure (evH (JT) (by decide +kernel) ⟨0,[]⟩ okPH zDe (true,0) v2) (wEv (JT) wE) ?_)
 simp[go_sem,qw]
 first|refine qc.pure (evH (JU) (by decide +kernel) ⟨0,[]⟩ okPH zDe (true,0) v3) (wEv (JU) wE) ?_ | (refine qg.intro zKr ?_;simp[go_sem];refine qc.pure (evH (JU) (by decide +kernel) ⟨0,[]⟩ okPH zDe (true,0) v3) (wEv (JU) wE) ?_)
 simp[go_sem,qw]
 first|refine qc.pure (exH (JV) (by decide +kernel) ⟨0,[]⟩ okPH zDe _ v4) (wEv JV wE) ?_ | (refine qg.intro zKr ?_;simp[go_sem];refine qc.pure (exH (JV) (by decide +kernel) ⟨0,[]⟩ okPH zDe _ v4) (wEv JV wE) ?_)
 simp[go_sem,qw]
 first|refine qc.pure (zh 5 [zr]) (wN 5 [zr]) ?_ | (refine qg.intro zKr ?_;simp[go_sem];refine qc.pure (zh 5 [zr]) (wN 5 [zr]) ?_)
 simp[go_sem,qw]
 first|refine qc.pure (zh 21 [nk 5 [zr]]) (wN 21 [nk 5 [zr]]) ?_ | (refine qg.intro zKr ?_;simp[go_sem];refine qc.pure (zh 21 [nk 5 [zr]]) (wN 21 [nk 5 [zr]]) ?_)
 simp[go_sem,qw]
 first|refine qc.pure (inHU (nk 21 [nk 5 [zr]]) (by decide +kernel) ⟨0,[]⟩ okPH zDe _ v5) (wEv (nk 21 [nk 5 [zr]]) wE) ?_ | (refine qg.intro zKr ?_;simp[go_sem];refine qc.pure (inHU (nk 21 [nk 5 [zr]]) (by decide +kernel) ⟨0,[]⟩ okPH zDe _ v5) (wEv (nk 21 [nk 5 [zr]]) wE) ?_)
 simp[go_sem,qw]
 first|refine qc.pure (jo hAf) (.zs .nil) ?_ | (refine qg.intro zKr ?_;simp[go_sem];refine qc.pure (jo hAf) (.zs .nil) ?_)
 simp[go_sem,qw]
 first|refine qc.pure (jo hAn) (.zs .nil) ?_ | (refine qg.intro zKr ?_;simp[go_sem];refine qc.pure (jo hAn) (.zs .nil) ?_)
 simp[go_sem,qw]
 first|refine qc.pure (zh 9 [nm hAf,nm hAn]) (wN 9 [nm hAf,nm hAn]) ?_ | (refine qg.intro zKr ?_;simp[go_sem];refine qc.pure (zh 9 [nm hAf,nm hAn]) (wN 9 [nm hAf,nm hAn]) ?_)
 simp[go_sem,qw]
 first|refine qc.pure (zh 33 [nm hf,nk 9 [nm hAf,nm hAn]]) (wN 33 [nm hf,nk 9 [nm hAf,nm hAn]]) ?_ | (refine qg.intro zKr ?_;simp[go_sem];refine qc.pure (zh 33 [nm hf,nk 9 [nm hAf,nm hAn]]) (wN 33 [nm hf,nk 9 [nm hAf,nm hAn]]) ?_)
 simp[go_sem,qw]
 first|refine qc.pure (evH (eqH) (by decide +kernel) ⟨0,[(hf,1)]⟩ qbR zDe (true,0) v6) (wEv (eqH) wEb) ?_ | (refine qg.intro zKr ?_;simp[go_sem];refine qc.pure (evH (eqH) (by decide +kernel) ⟨0,[(hf,1)]⟩ qbR zDe (true,0) v6) (wEv (eqH) wEb) ?_)
 simp[go_sem,qw]
 first|refine qc.pure (zh 35 [zr]) (wN 35 [zr]) ?_ | (refine qg.intro zKr ?_;simp[go_sem];refine qc.pure (zh 35 [zr]) (wN 35 [zr]) ?_)
 simp[go_sem,qw]
 first|refine qc.pure (zh 34 [zr]) (wN 34 [zr]) ?_ | (refine qg.intro zKr ?_;simp[go_sem];refine qc.pure (zh 34 [zr]) (wN 34 [zr]) ?_)
 simp[go_sem,qw]
 first|refine qc.pure (zh 48 [nk 34 [zr]]) (wN 48 [nk 34 [zr]]) ?_ | (refine qg.intro zKr ?_;simp[go_sem];refine qc.pure (zh 48 [nk 34 [zr]]) (wN 48 [nk 34 [zr]]) ?_)
 simp[go_sem,qw]
 first|refine qc.pure (zh 51 [nk 35 [zr],nk 48 [nk 34 [zr]]]) (wN 51 [nk 35 [zr],nk 48 [nk 34 [zr]]]) ?_ | (refine qg.intro zKr ?_;simp[go_sem];refine qc.pure (zh 51 [nk 35 [zr],nk 48 [nk 34 [zr]]]) (wN 51 [nk 35 [zr],nk 48 [nk 34 [zr]]]) ?_)
 simp[go_sem,qw]
 first|refine qc.pure (evH (untH) (by decide +kernel) ⟨0,[]⟩ okPH zDe (true,0) v7) (wEv (untH) wE) ?_ | (refine qg.intro zKr ?_;simp[go_sem];refine qc.pure (evH (untH) (by decide +kernel) ⟨0,[]⟩ okPH zDe (true,0) v7) (wEv (untH) wE) ?_)
 simp[go_sem,qw]
 first|refine qc.pure (jo hg) (.zs .nil) ?_ | (refine qg.intro zKr ?_;simp[go_sem];refine qc.pure (jo hg) (.zs .nil) ?_)
 simp[go_sem,qw]
 first|refine qc.pure (exH (nm hg) (by decide +kernel) ⟨0,[]⟩ okPH zDe _ v8) (wEv (nm hg) wE) ?_ | (refine qg.intro zKr ?_;simp[go_sem];refine qc.pure (exH (nm hg) (by decide +kernel) ⟨0,[]⟩ okPH zDe _ v8) (wEv (nm hg) wE) ?_)
 simp[go_sem,qw]
 first|refine qc.pure (jo hA) (.zs .nil) ?_ | (refine qg.intro zKr ?_;simp[go_sem];refine qc.pure (jo hA) (.zs .nil) ?_)
 simp[go_sem,qw]
 first|refine qc.pure (zh 32 [nm hf,nm hA]) (wN 32 [nm hf,nm hA]) ?_ | (refine qg.intro zKr ?_;simp[go_sem];refine qc.pure (zh 32 [nm hf,nm hA]) (wN 32 [nm hf,nm hA]) ?_)
 simp[go_sem,qw]
 first|refine qc.pure (evH (inH) (by decide +kernel) ⟨0,[]⟩ okPH zDe (false,42) v9) (wEv (inH) wE) ?_ | (refine qg.intro zKr ?_;simp[go_sem];refine qc.pure (evH (inH) (by decide +kernel) ⟨0,[]⟩ okPH zDe (false,42) v9) (wEv (inH) wE) ?_)
 simp[go_sem,qw]
 first|refine qc.pure (evH KT (by decide +kernel) ⟨0,[]⟩ okPH zDe (false,45) v10) (wEv2 (mT 47 hp 0 0 (jb trivial)) wE) ?_ | (refine qg.intro zKr ?_;simp[go_sem];refine qc.pure (evH KT (by decide +kernel) ⟨0,[]⟩ okPH zDe (false,45) v10) (wEv2 (mT 47 hp 0 0 (jb trivial)) wE) ?_)
 simp[go_sem,qw]
 first|refine qc.pure (inHU (nm hf) (by decide +kernel) ⟨0,[]⟩ okPH zDe _ v11) (wEv (nm hf) wE) ?_ | (refine qg.intro zKr ?_;simp[go_sem];refine qc.pure (inHU (nm hf) (by decide +kernel) ⟨0,[]⟩ okPH zDe _ v11) (wEv (nm hf) wE) ?_)
 simp[go_sem,qw]
 first|refine qc.pure (zh 34 [nm hf]) (wN 34 [nm hf]) ?_ | (refine qg.intro zKr ?_;simp[go_sem];refine qc.pure (zh 34 [nm hf]) (wN 34 [nm hf]) ?_)
 simp[go_sem,qw]
 first|refine qc.pure (hoH) (wHo) ?_ | (refine qg.intro zKr ?_;simp[go_sem];refine qc.pure (hoH) (wHo) ?_)
 simp[go_sem,qw]
 first|refine qc.pure (eqHU) (.zk (q9 ⟨1,[1]⟩) (.cons (WK.aggs ⟨.hf (HF.sc _),jb ⟨⟨.hf (HF.sc _),trivial⟩,trivial⟩,trivial⟩) .nil)) ?_ | (refine qg.intro zKr ?_;simp[go_sem];refine qc.pure (eqHU) (.zk (q9 ⟨1,[1]⟩) (.cons (WK.aggs ⟨.hf (HF.sc _),jb ⟨⟨.hf (HF.sc _),trivial⟩,trivial⟩,trivial⟩) .nil)) ?_)
 simp[go_sem,qw];exact .zsc _
end FG
namespace FI
open Y1 Y16 P1 P2 YF E3 E9 EA Q4 Q8 QU F1 F2 FD FF FG
abbrev bigS(ts:TS):Prop:=∀ x,x∈ts.sorts->x.1.size<=4611686018427387904
theorem fitsL{ts:TS}(i:bigS ts)(m:Md)(s:Int)(env:List (ByteArray×Int)):qd qb 15 [eTS ts,eMd m,aI s,lPm env] (aB (fitB ts m s env (yT ts))):=qnS ts m s env (yT ts) fun hf=>by
 obtain⟨ok,j,wf⟩:=XU hf i;simp only[yq,qB,qI]at hf;exact qm2 ts ok j wf (fun p hp=>by rw[UJ];have:=w6 (hf.2.2.1 p hp).2;omega) (fun f g=>by rw[UJ];have:=w6 (hf.2.2.2 f g);omega)
structure FitP (ts:TS) (m:Md) (s:Nat) (env:List (ByteArray×Int)):Prop where
 ma:OkMa ⟨ts,m⟩ m.states.length
 p:OkP ⟨ts,m⟩ m.states.length ⟨s,env⟩
 el:env.length<=8
 st:m.states.length<=4
theorem fit_p{ts:TS}(j:bigS ts){m:Md}{s:Int}{env:List (ByteArray×Int)}(h:fitB ts m s env (yT ts)=true):∃ k:Nat,s=k/\FitP ts m k env:=by
 simp only[fitB,qB,decide_eq_true_eq,qI]at h;obtain⟨l,I,o,J,p,P,r,t⟩:=h;obtain⟨k,rfl⟩:=Int.eq_ofNat_of_zero_le p;have g:=qbP o;have i:=g.sc;simp only[vp,qB,decide_eq_true_eq,qI]at i;have:=g.ns;refine⟨k,rfl,qjY (XU l j).1 g,⟨by show k<m.states.length;omega,fun e C=>t e C⟩,r,zOm⟩
theorem wf2{op:Int}{f g:Nd}(i:WfN f)(hg:WfN g)(h:shp op 2=some [kd f.op,kd g.op])(j:op≠2)(nm:ByteArray):WfN (.mk op nm 0 [f,g] 0) := .mk _ h (fun e=>absurd e j) fun k l=>by
 have:k=f\/k=g:=by simpa[Nd.kids] using l
 rcases this with rfl|rfl
 .exact i
 .exact hg
theorem UK{m:Md}{n:Nd}(h:smB m n=true):qS n=true:=by
 simp only[smB,ZK,qB]at h;exact h.1.1
theorem wkS(m:Md)(n:Nd):WKs [eMd m,eNd n] [eMd m,eNd n] := .zk (yK m) (.zk (qz n) .nil)
theorem wk1(n:Nd):WKs [eNd n] [eNd n] := .zk (qz n) .nil
structure OkF (F:Nat) (n:Nd):Prop where
 w:WfN n
 d:dN n<=F
 k:kd n.op=102
theorem qnV{N M:Nat}{n:Nd}(h:OkF N n)(g:N<=M):OkF M n:=⟨h.w,zW1 h.d,h.k⟩
end FI
namespace FJ
open Y1 Y9 E3
section
variable {J:Type}{ds:List Den}
def NZ(q:XE J):Prop:=∀ e,q = .error e->e≠0
theorem zp(a:J):NZ (.ok a:XE J):=fun e h=>by cases h
theorem jR{e:Int}(h:e≠0):NZ (.error e:XE J):=fun i g=>by cases g;exact h
theorem ze{i:Type}{q:XE J}{g:J->XE i}(h:NZ q)(k:∀ a,NZ (g a)):NZ (bX q g):=by
 cases q with
 |error e=>exact jR (h e rfl)
 |ok a=>exact k a
theorem JW{i:Type}{g:J->XE i}:∀{l:List J},(∀ a,a∈l->NZ (g a))->NZ (mapX g l)
 | [],_=>zp _
 |a :: l,h=>ze (h a zSp) fun b=>ze (JW fun y j=>h y (zP1 j)) fun r=>zp _
theorem qbS{g h:Nat->XE Bool}(hg:∀ s,NZ (g s))(i:∀ s,NZ (h s)):∀(l:List Nat) (d q:Bool),NZ (untX g h l d q)
 | [],d,q=>zp _
 |s :: l,d,q=>ze (hg s) fun a=>ze (i s) fun b=>qbS hg i l _ _
theorem zq{c:Prop} [Decidable c] {a b:XE J} (g:NZ a) (i:NZ b):NZ (if c then a else b):=by split<;>assumption
structure NZD (d:Den):Prop where
 E:∀ p,NZ (d.E p)
 N:∀ p,NZ (d.N p)
 F:∀ p,NZ (d.F p)
theorem qnW(x:Mo)(p:Pl)(nm:ByteArray):NZ (jC x p nm):=by
 unfold jC;split
 .exact zp _
 .unfold Qq
  split
  .exact jR zDe
  .exact zp _
  .exact jR zDe
theorem Yv(g:∀ j,NZD (kD ds j))(p:Pl):NZ (zY ds p):=ze ((g 0).E p) fun a=>ze ((g 1).E p) fun b=>zq (zp _) (jR zDe)
theorem KU(g:∀ j,NZD (kD ds j))(p:Pl):NZ (binE ds p):=ze ((g 0).E p) fun a=>zq (zp _) (jR zDe)
theorem KV(g:∀ j,NZD (kD ds j))(nm:ByteArray)(p:Pl):NZ (yW ds nm p):=ze ((g 0).E p) fun a=>zq (JW fun y _=>ze ((g 1).F _) fun b=>zp _) (jR zDe)
theorem op_nz(x:Mo)(op:Int)(nm:ByteArray)(i:Int)(ds:List Den)(g:∀ j,NZD (kD ds j))(o:∀ d,d∈ds->NZD d):NZD (opD x op nm i ds):=by
 refine⟨fun p=>?_,fun p=>?_,fun p=>?_⟩
 .show NZ (opE x op nm i ds p)
  unfold opE;refine zq (qnW x p nm) ?_;refine zq (zp _) ?_;refine zq (zp _) ?_;refine zq (zp _) ?_;refine zq ((g 0).E _) ?_;refine zq (ze (Yv g p) fun _=>zp _) ?_;refine zq (ze (Yv g p) fun _=>zp _) ?_;refine zq (ze (Yv g p) fun _=>zp _) ?_;refine zq (ze ((g 0).E p) fun _=>ze ((g 1).E p) fun _=>zq (zp _) (jR zDe)) ?_;refine zq (ze ((g 0).E p) fun _=>ze ((g 1).E p) fun _=>zq (zp _) (jR zDe)) ?_;refine zq (ze (KU g p) fun _=>zp _) ?_;refine zq (ze (KU g p) fun _=>zp _) ?_;refine zq (ze (KU g p) fun _=>zp _) ?_;refine zq (ze (Yv g p) fun _=>zp _) ?_;refine zq (ze (KV g nm p) fun _=>zp _) ?_;exact jR zDe
 .show NZ (opN op i ds p)
  unfold opN;refine zq (zp _) ?_;refine zq (ze ((g 0).E p) fun _=>zp _) ?_;refine zq (ze ((g 0).N p) fun _=>ze ((g 1).N p) fun _=>zp _) ?_;refine zq (ze ((g 0).N p) fun _=>ze ((g 1).N p) fun _=>zp _) ?_;exact jR zDe
 .show NZ (opF x op nm ds p)
  unfold opF;refine zq (zp _) ?_;refine zq (zp _) ?_;refine zq (ze (Yv g p) fun _=>zp _) ?_;refine zq (ze (Yv g p) fun _=>zp _) ?_;refine zq (ze ((g 0).E p) fun _=>zp _) ?_;refine zq (ze ((g 0).E p) fun _=>zp _) ?_;refine zq (ze ((g 0).E p) fun _=>zp _) ?_;refine zq (ze ((g 0).E p) fun _=>zp _) ?_;refine zq (ze ((g 0).N p) fun _=>ze ((g 1).N p) fun _=>zp _) ?_;refine zq (ze ((g 0).N p) fun _=>ze ((g 1).N p) fun _=>zp _) ?_;refine zq (ze ((g 0).F p) fun _=>zp _) ?_;refine zq (ze ((g 0).F p) fun _=>ze ((g 1).F p) fun _=>zp _) ?_;refine zq (ze ((g 0).F p) fun _=>ze ((g 1).F p) fun _=>zp _) ?_;refine zq (ze ((g 0).F p) fun _=>ze ((g 1).F p) fun _=>zp _) ?_;refine zq (ze ((g 0).F p) fun _=>ze ((g 1).F p) fun _=>zp _) ?_;refine zq (ze (KV g nm p) fun _=>zp _) ?_;refine zq (ze (KV g nm p) fun _=>zp _) ?_;refine zq (ze (JW fun d l=>(o d l).E p) fun _=>jR zDe) ?_;refine zq (ze (JW fun s _=>(g 0).F _) fun _=>zp _) ?_;refine zq (ze (JW fun s _=>(g 0).F _) fun _=>zp _) ?_;refine zq ((g 0).F _) ?_;refine zq (qbS (fun s=>(g 0).F _) (fun s=>(g 1).F _) _ _ _) ?_;exact jR zDe
theorem qnX:NZD noD:=⟨fun _=>jR zDe,fun _=>jR zDe,fun _=>jR zDe⟩
theorem qbT(x:Mo):∀(m:Nat) (n:Nd),szN n<=m->NZD (den x n)
 | 0,n,o=>by obtain⟨op,nm,i,ks,p⟩:=n;simp[szN]at o
 |m+1,n,o=>by
  rw[jO];have r:∀ k,k∈n.kids->NZD (den x k):=fun k g=>qbT x m k (zW1 (zS g))
  refine op_nz x _ _ _ _ (fun j=>?_) fun d t=>?_
  .unfold kD
   by_cases l:j<n.kids.length
   .have:(n.kids.map (den x)).getD j noD=den x n.kids[j]:=by simp[List.getD,l]
    rw[this];exact r _ (qy l)
   .have:(n.kids.map (den x)).getD j noD=noD:=by simp[List.getD,l]
    rw[this];exact qnX
  .obtain ⟨k,g,rfl⟩:=qr.1 t
   exact r k g
end
end FJ
namespace FK
open Y1 P1 P2 YF E3 F2 FB FC FI
section
variable {env:List (ByteArray×Int)}
def reV:XE Rl->Rl×Int
 | .ok r=>(r,0)
 | .error e=>(⟨0,[]⟩,e)
theorem qnY(q:XE Rl):outE q = .tup [eRel (reV q).1,aI (reV q).2]:=by cases q<;>rfl
structure OkG (F:Nat) (n:Nd):Prop where
 w:WfN n
 d:dN n<=F
theorem expr_ok{ts:TS}{m:Md}{k:Nat}(F:FitP ts m k env){a:Nd}(g:OkG 100 a):qd qb 55 [eTS ts,eMd m,aI k,lPm env,eNd a] (.tup [eRel (reV ((den ⟨ts,m⟩ a).E ⟨k,env⟩)).1,aI (reV ((den ⟨ts,m⟩ a).E ⟨k,env⟩)).2]):=by
 have h:=nK ⟨ts,m⟩ _ a g.w F.ma ⟨k,env⟩ F.p (by have:=g.d;have:=F.el;show _+_<=_;simp only;omega);rw[qnY]at h;exact h
theorem qnZ{ts:TS}{m:Md}{k:Nat}(F:FitP ts m k env){a:Nd}(g:OkG 100 a):qd qb 23 [eTS ts,eMd m,aI k,lPm env,eNd a] (.tup [aB (fmV ((den ⟨ts,m⟩ a).F ⟨k,env⟩)).1,aI (fmV ((den ⟨ts,m⟩ a).F ⟨k,env⟩)).2]):=by
 have h:=XC ⟨ts,m⟩ _ a g.w F.ma ⟨k,env⟩ F.p (by have:=g.d;have:=F.el;show _+_<=_;simp only;omega);rw[XD]at h;exact h
theorem un_ok{f:Nd}{F:Nat}(h:OkF F f):OkG F f:=⟨h.w,h.d⟩
end
end FK
namespace E6
open Y1 Y9 Y1 Y9 YZ YC E3
structure UL (d:Den) (p q:Pl):Prop where
 E:d.E p=d.E q
 N:d.N p=d.N q
 F:d.F p=d.F q
theorem qn0{x:Mo}{op:Int}{nm:ByteArray}{i:Int}{ds:List Den}{env g:List (ByteArray×Int)}(C:op=1->zF nm env=zF nm g)
  (l:∀ j s,UL (kD ds j) ⟨s,env⟩ ⟨s,g⟩) (p:∀ s a,(kD ds 1).F ⟨s,env++[(nm,a)]⟩=(kD ds 1).F ⟨s,g++[(nm,a)]⟩) (I:∀ s,mapX (fun d:Den=>d.E ⟨s,env⟩) ds=mapX (fun d:Den=>d.E ⟨s,g⟩) ds) (s:Nat):UL (opD x op nm i ds) ⟨s,env⟩ ⟨s,g⟩:=by
 have o:=fun j s=>(l j s).E
 have r:=fun j s=>(l j s).N
 have J:=fun j s=>(l j s).F
 refine⟨?_,?_,?_⟩
 .show opE x op nm i ds ⟨s,env⟩=opE x op nm i ds ⟨s,g⟩
  by_cases t:op=1
  .subst t
   simp only[opE,if_true,jC,C rfl]
  .simp only[opE,if_neg t,zY,binE,yW,o,p]
 .show opN op i ds ⟨s,env⟩=opN op i ds ⟨s,g⟩
  simp only[opN,o,r]
 .show opF x op nm ds ⟨s,env⟩=opF x op nm ds ⟨s,g⟩
  simp only[opF,zY,yW,o,r,J,p,I]
theorem wq(nm:ByteArray)(env:List (ByteArray×Int))(e:ByteArray×Int):zF nm (env++[e])=if e.1=nm then some e.2 else zF nm env:=by
 unfold zF;rw[ue];rfl
theorem qbU(x:Mo)(R:ByteArray->Prop):∀(m:Nat) (n:Nd),szN n<=m->(∀ y,y∈preN n->R y.name)->∀(env g:List (ByteArray×Int)),(∀ nm,R nm->zF nm env=zF nm g)->∀ s,UL (den x n) ⟨s,env⟩ ⟨s,g⟩
 | 0,n,T,_=>by obtain⟨op,nm,i,ks,p⟩:=n;simp[szN]at T
 |m+1,n,T,U=>by
  intro env g t s;rw[jO];have C:∀ k,k∈n.kids->∀(env g:List (ByteArray×Int)),(∀ nm,R nm->zF nm env=zF nm g)->∀ s,UL (den x k) ⟨s,env⟩ ⟨s,g⟩:=fun k o =>
   qbU x R m k (zW1 (zS o)) fun y I=>U y (by rw[ub];exact qY _ (mw o I))
  have r:∀ j,kD (n.kids.map (den x)) j=noD\/∃ k,k∈n.kids/\kD (n.kids.map (den x)) j=den x k:=fun j=>by
   unfold kD;by_cases J:j<n.kids.length
   .exact .inr ⟨n.kids[j],qy J,by simp[List.getD,J]⟩
   .exact .inl (by simp[List.getD,J])
  refine qn0 (fun _=>t _ (U n (by rw[ub];exact q8 ..))) (fun j s=>?_) (fun s a=>?_) (fun s=>?_) s
  .rcases r j with h|⟨k,o,h⟩
   .rw [h];exact⟨rfl,rfl,rfl⟩
   .rw [h];exact C k o env g t s
  .rcases r 1 with h|⟨k,o,h⟩
   .rw [h];rfl
   .rw [h]
    exact(C k o _ _ (fun nm hr=>by rw[wq,wq,t nm hr]) s).F
  .have:∀ l:List Nd,(∀ k,k∈l->k∈n.kids)->mapX (fun d:Den=>d.E ⟨s,env⟩) (l.map (den x))=mapX (fun d:Den=>d.E ⟨s,g⟩) (l.map (den x)):=by
    intro l;induction l with
    |nil=>intro _;rfl
    |cons k l P =>
     intro hl;simp only[List.map_cons,mapX];rw[(C k (hl k (q8 ..)) env g t s).E,P fun y I=>hl y (qY _ I)]
   exact this n.kids fun k o=>o
end E6
namespace ED
open P1 P2 Y1 Y2 Y9 YX YA YB PA YC YG PC PE E3 E6 EB
open PD
section
variable {nm':ByteArray}{es:List (ByteArray×Bool)}{e:List (ByteArray×Int)}{ds':List Den}{x:Mo}
abbrev Th:=ByteArray->Option (Nat->XE Ev.Rl)
def globE(x:Mo)(q:Nat)(nm:ByteArray):XE Ev.Rl:=Qq (jY x.ts.fields (x.m.states.getD q []) nm++yj x nm 0 x.ts.sorts)
def namC(x:Mo)(ρ:Th)(nm:ByteArray)(p:Pl):XE Ev.Rl:=match zF nm p.env with
 |some a => .ok ⟨1,[a]⟩
 |none=>match ρ nm with
  |some t=>t p.st
  |none=>globE x p.st nm
def JY:List (ByteArray×Int)->List (Nat->XE Ev.Rl)->Th->Th
 |q :: i,t :: R,g=>JY i R fun v=>if v=q.1 then some t else g v
 |_,_,g=>g
def cD(x:Mo):Nat->Th->Nd->Den
 | 0,_,_=>noD
 |f+1,g,n =>
  if n.op=1 then ⟨namC x g n.name,fun _ => .error 43,fun _ => .error 43⟩
  else if n.op=47 then match x.ts.preds.find? fun q=>decide (q.name=n.name) with
   |none=>noD
   |some q=>⟨fun _ => .error 43,fun _ => .error 43,fun p=>(cD x f (JY q.params (n.kids.map fun k=>fun U=>(cD x f g k).E ⟨U,p.env⟩) fun _=>none) q.body).F ⟨p.st,[]⟩⟩
  else opD x n.op n.name n.n (n.kids.map (cD x f g))
def ValV(x:Mo)(ev e:List (ByteArray×Int))(ρ:Th)(v:ByteArray):Option Kd->Option IV->Prop
 |none,_=>zF v ev=none/\ρ v=none
 |some _,none=>∃ a,zF v ev=some a/\zF v e=some a
 |some _,some ⟨some t,_,_⟩=>zF v ev=none/\∃ g,ρ v=some g/\∀ q,g q=(den x t).E ⟨q,e⟩
 |some _,some ⟨none,_,i⟩=>∃ a,zF v ev=some a/\zF i e=some a
structure SV (x:Mo) (es:List (ByteArray×Bool)) (s s':Scp) (env:IEnv) (ρ:Th) (ev e:List (ByteArray×Int)):Prop where
 val:∀ v,tkn es v->ValV x ev e ρ v (lookS v s) (getK v env)
 dom:∀ v,lookS v s'=none->zF v e=none
theorem qn1{op:Int}(h:kd op=101)(i:Int)(ds:List Den)(p:Pl):opN op i ds p = .error 43:=by
 have j:1<=op/\op<=15:=by
  unfold kd at h;by_cases g:1<=op/\op<=15
  .exact g
  .rw [if_neg g]at h;split at h
   .cases h
   .split at h<;>cases h
 unfold opN;rw[if_neg zOm,if_neg zOm,if_neg zOm,if_neg zOm]
theorem qn2{op:Int}(h:op<=15)(nm:ByteArray)(ds:List Den)(p:Pl):opF x op nm ds p = .error 43:=by
 unfold opF;rw[if_neg zOm,if_neg zOm,if_neg zOm,if_neg zOm,if_neg zOm,if_neg zOm,if_neg zOm,if_neg zOm,if_neg zOm,if_neg zOm,if_neg zOm,if_neg zOm,if_neg zOm,if_neg zOm,if_neg zOm,if_neg zOm,if_neg zOm,if_neg zOm,if_neg zOm,if_neg zOm,if_neg zOm,if_neg zOm]
theorem qn3{op:Int}(h:kd op=101):1<=op/\op<=15:=by
 unfold kd at h;by_cases g:1<=op/\op<=15
 .exact g
 .rw [if_neg g]at h;split at h
  .cases h
  .split at h<;>cases h
theorem UM(x:Mo){t:Nd}(h:kd t.op=101)(p:Pl):(den x t).N p = .error 43:=by rw[jO];exact qn1 h _ _ p
theorem UN(x:Mo){t:Nd}(h:kd t.op=101)(p:Pl):(den x t).F p = .error 43:=by rw[jO];exact qn2 (qn3 h).2 _ _ p
theorem KW(x:Mo){n:Nd}(h:n.op=1)(p:Pl):(den x n).E p=jC x p n.name:=by
 rw[jO];show opE x n.op _ _ _ p=_;unfold opE;rw[if_pos h]
theorem qn4{c c0:Ck}{body inn:Bool}{s s':Scp}{env:IEnv}{n n':Nd}{z:Int}{st J:ISt}{ko:Option Kd}{ρ:Th}{ev:List (ByteArray×Int)}(F:Nat)(P:c.ts=c0.ts)(r:n.op=1)(ht:tkn es n.name)(hr:PD.Rl c0 es st.last body s s' env)(hS:SV x es s s' env ρ ev e)
  (g:j0 env n st = .ok ((n',z),J)) (C:exam c s inn n = .ok ko) (q:Nat):vY (cD x (F+1) ρ n) (den x n') ⟨q,ev⟩ ⟨q,e⟩:=by
 rw[JQ r,w7]at C;have i:=hr.rel n.name ht;have j:=hS.val n.name ht;have R:cD x (F+1) ρ n=⟨namC x ρ n.name,fun _ => .error 43,fun _ => .error 43⟩:=by rw[cD,if_pos r]
 rw[R];have T:kd n.op=101:=by rw[r];rfl
 unfold j0 at g;cases hg:getK n.name env with
 |none =>
  rw[hg]at g i j;cases g;refine⟨?_,(UM x T _).symm,(UN x T _).symm⟩;rw[KW x r];show namC x ρ n.name ⟨q,ev⟩=jC x ⟨q,e⟩ n.name;unfold namC jC;cases I:lookS n.name s with
  |some k =>
   rw[I]at j;obtain⟨a,o,p⟩:=j;simp only;rw[o,p]
  |none =>
   rw[I]at j C;obtain⟨o,p⟩:=j;simp only at C⊢;have U:lookS n.name s'=none:=by
    cases U:lookS n.name s' with
    |none=>rfl
    |some q =>
     have:=hr.mean _ (JP U);rw[P,this]at C;cases C
   rw[o,p,hS.dom _ U];rfl
 |some iv =>
  obtain⟨a,l,to⟩:=iv;rw[hg]at g i j;simp only at g;cases I:lookS n.name s with
  |none=>rw[I]at i;exact i.elim
  |some k =>
   rw[I]at i j;cases a with
   |none =>
    cases g;obtain⟨a,o,p⟩:=j;have k2:kd (Nd.mk n.op to n.n n.kids n.pos).op=101:=T;refine⟨?_,(UM x k2 _).symm,(UN x k2 _).symm⟩;rw[KW x (n := .mk n.op to n.n n.kids n.pos) r];show namC x ρ n.name ⟨q,ev⟩=jC x ⟨q,e⟩ to;unfold namC jC;simp only;rw[o,p]
   |some t =>
    simp only at g;have i:ArgR c0 es st.last s' k t:=i;obtain⟨o,th,p,e3⟩:=j;split at g
    .cases g
     refine⟨?_,(UM x i.kd _).symm,(UN x i.kd _).symm⟩;show namC x ρ n.name ⟨q,ev⟩=_;unfold namC;simp only;rw[o,p];exact e3 q
    .cases g
theorem SV.bind{c0:Ck}{body:Bool}{s s':Scp}{env:IEnv}{st:ISt}{nm:ByteArray}{k k':Kd}{ρ:Th}{ev:List (ByteArray×Int)}(a4:Free c0.ts es)(a0:(env.map Prod.fst).Nodup)(h:PD.Rl c0 es st.last body s s' env)(h0:0<=st.last)(ht:tkn es nm)(hS:SV x es s s' env ρ ev e)(a:Int) :
  SV x es ((nm,k) :: s) (((renI c0.ts es env nm body st).1.2,k') :: s') (renI c0.ts es env nm body st).1.1 ρ (ev++[(nm,a)]) (e++[((renI c0.ts es env nm body st).1.2,a)]):=by
 have a1:∀ v,lookS v ((nm,k) :: s)=if nm=v then some k else lookS v s:=fun v=>vJ v _ _
 unfold renI;by_cases hc:body=true\/means c0.ts nm≠[]
 .rw [if_pos hc]
  have a5:=a4 st.last h0;have R:=UA a5;have a8:=Uj c0.ts es (ql c0.ts es) st.last;generalize zj c0.ts es (ql c0.ts es) st.last=J at *
  obtain⟨j,rfl⟩:∃ j:Nat,J=j:=⟨J.toNat,zOm⟩;simp only[yr,qB,decide_eq_true_eq]at R;obtain⟨f1,f2⟩:=R;have a2:∀{v:ByteArray},vLe es st.last v->v≠vN (j:Int):=fun⟨i,hi,e,_⟩ P=>by
   rw[e]at P;have:=Ka P;omega
  have a6:∀ v,getK v (setK nm ⟨none,0,vN (j:Int)⟩ (delK nm env))=if v=nm then some ⟨none,0,vN (j:Int)⟩ else getK v env:=fun v=>by
   rw[jB,uW a0];split<;>rfl
  have l:∀ v,v≠vN (j:Int)->zF v (e++[(vN (j:Int),a)])=zF v e:=fun v o=>by rw[wq,if_neg fun x=>o x.symm]
  refine⟨fun v C=>?_,fun v o=>?_⟩
  .show ValV x (ev++[(nm,a)]) (e++[(vN (j:Int),a)]) ρ v (lookS v ((nm,k) :: s)) (getK v (setK nm ⟨none,0,vN (j:Int)⟩ (delK nm env)))
   rw[a1,a6];by_cases r:nm=v
   .rw [if_pos r,if_pos r.symm]
    exact⟨a,by rw[wq,if_pos r],by rw[wq,if_pos rfl]⟩
   .rw [if_neg r,if_neg (fun e=>r e.symm)]
    have p:zF v (ev++[(nm,a)])=zF v ev:=by rw[wq,if_neg r]
    have I:=h.rel v C;have g:=hS.val v C;generalize lookS v s=lk at *
    generalize getK v env=iv at *
    match lk,iv with
    |none,iv=>exact⟨by rw[p];exact g.1,g.2⟩
    |some q,none =>
     obtain⟨b,U,P⟩:=g;exact⟨b,by rw[p];exact U,by rw[l v (fun e=>f1 (e ▸ C))];exact P⟩
    |some q,some ⟨some t,_,_⟩ =>
     have I:ArgR c0 es st.last s' q t:=I;obtain⟨U,th,P,e3⟩:=g;refine⟨by rw[p];exact U,th,P,fun q=>?_⟩;rw[e3];refine(qbU x (fun nm=>nm≠vN (j:Int)) (szN t) t (qm _) (fun y hy=>?_) _ _ (fun nm hn=>(l nm hn).symm) q).E;rcases (I.good.all y hy).nm with h1|h1
     .exact fun e=>f1 (e ▸ h1)
     .exact a2 h1
    |some q,some ⟨none,_,to⟩ =>
     obtain⟨b,U,P⟩:=g;exact⟨b,by rw[p];exact U,by rw[l to (a2 I.2)];exact P⟩
  .have o:lookS v ((vN (j:Int),k') :: s')=none:=o
   rw[vJ]at o;split at o
   .cases o
   .rename_i T
    show zF v (e++[(vN (j:Int),a)])=none;rw[l v fun x=>T x.symm];exact hS.dom v o
 .rw [if_neg hc]
  have a7:body=false:=by
   cases body with
   |false=>rfl
   |true=>exact absurd (.inl rfl) hc
  have l:∀ v,v≠nm->zF v (e++[(nm,a)])=zF v e:=fun v o=>by rw[wq,if_neg fun x=>o x.symm]
  refine⟨fun v C=>?_,fun v o=>?_⟩
  .show ValV x (ev++[(nm,a)]) (e++[(nm,a)]) ρ v (lookS v ((nm,k) :: s)) (getK v (delK nm env))
   rw[a1,uW a0];by_cases r:nm=v
   .rw [if_pos r,if_pos r.symm]
    exact⟨a,by rw[wq,if_pos r],by rw[wq,if_pos r]⟩
   .rw [if_neg r,if_neg (fun e=>r e.symm)]
    have p:zF v (ev++[(nm,a)])=zF v ev:=by rw[wq,if_neg r]
    have I:=h.rel v C;have g:=hS.val v C;have a3:=h.arg a7 v;generalize lookS v s=lk at *
    generalize getK v env=iv at *
    match lk,iv with
    |none,iv=>exact⟨by rw[p];exact g.1,g.2⟩
    |some q,none =>
     obtain⟨b,U,P⟩:=g;exact⟨b,by rw[p];exact U,by rw[l v (fun e=>r e.symm)];exact P⟩
    |some q,some ⟨some t,_,_⟩=>exact absurd (a3 _ rfl) zSp
    |some q,some ⟨none,_,to⟩ =>
     obtain⟨b,U,P⟩:=g;refine⟨b,by rw[p];exact U,?_⟩;rw[l to fun e=>?_]
     .exact P
     .obtain ⟨_,_,_,hn,_⟩:=I.2
      exact hn (e ▸ ht)
  .have o:lookS v ((nm,k') :: s')=none:=o
   rw[vJ]at o;split at o
   .cases o
   .rename_i T
    show zF v (e++[(nm,a)])=none;rw[l v fun x=>T x.symm];exact hS.dom v o
theorem op_sv{op:Int}{nm:ByteArray}{i:Int}{ds:List Den}{ev:List (ByteArray×Int)}(I:op≠1)(h47:op≠47)(g:¬(op=15\/op=45\/op=46))(l:∀ j q,vY (kD ds j) (kD ds' j) ⟨q,ev⟩ ⟨q,e⟩)(q:Nat):vY (opD x op nm i ds) (opD x op nm' i ds') ⟨q,ev⟩ ⟨q,e⟩:=by
 have o:=fun j q=>(l j q).E
 have C:=fun j q=>(l j q).N
 have J:=fun j q=>(l j q).F
 have p:¬op=15:=fun h=>g (.inl h)
 have r:¬op=45:=fun h=>g (.inr (.inl h))
 have t:¬op=46:=fun h=>g (.inr (.inr h))
 refine⟨?_,?_,?_⟩
 .show opE x op nm i ds ⟨q,ev⟩=opE x op nm' i ds' ⟨q,e⟩
  simp only[opE,if_neg I,if_neg p,zY,binE,o]
 .show opN op i ds ⟨q,ev⟩=opN op i ds' ⟨q,e⟩
  simp only[opN,o,C]
 .show opF x op nm ds ⟨q,ev⟩=opF x op nm' ds' ⟨q,e⟩
  simp only[opF,if_neg r,if_neg t,if_neg h47,zY,o,C,J]
theorem qn5{op:Int}{nm:ByteArray}{i:Int}{ds:List Den}{ev:List (ByteArray×Int)}(g:op=15\/op=45\/op=46)(q:Nat)(l:(kD ds 0).E ⟨q,ev⟩=(kD ds' 0).E ⟨q,e⟩)(o:∀ a,(kD ds 1).F ⟨q,ev++[(nm,a)]⟩=(kD ds' 1).F ⟨q,e++[(nm',a)]⟩):vY (opD x op nm i ds) (opD x op nm' i ds') ⟨q,ev⟩ ⟨q,e⟩:=by
 have j:yW ds nm ⟨q,ev⟩=yW ds' nm' ⟨q,e⟩:=by
  unfold yW;simp only[l,o]
 refine⟨?_,?_,?_⟩
 .show opE x op nm i ds ⟨q,ev⟩=opE x op nm' i ds' ⟨q,e⟩
  rcases g with rfl|rfl|rfl
  .simp [opE,j]
  .simp [opE]
  .simp [opE]
 .show opN op i ds ⟨q,ev⟩=opN op i ds' ⟨q,e⟩
  rcases g with rfl|rfl|rfl<;>simp[opN]
 .show opF x op nm ds ⟨q,ev⟩=opF x op nm' ds' ⟨q,e⟩
  rcases g with rfl|rfl|rfl
  .simp [opF]
  .simp [opF,j]
  .simp [opF,j]
end
end ED
namespace EG
open P1 P2 Y1 Y2 Y9 Y10 Y14 YX YB PA YC PC PE E3 EB ED
open PD
section
variable {es:List (ByteArray×Bool)}{e:List (ByteArray×Int)}{x:Mo}
def PS(x:Mo)(G:Nd->Den)(ev e:List (ByteArray×Int)):List Nd->List Nd->Prop
 | [],[]=>True
 |k :: ks,i :: g=>(∀ q,vY (G k) (den x i) ⟨q,ev⟩ ⟨q,e⟩)/\PS x G ev e ks g
 |_,_=>False
theorem PS.get{G:Nd->Den}{ev:List (ByteArray×Int)}:∀{ks g:List Nd},PS x G ev e ks g->∀ j q,vY (kD (ks.map G) j) (kD (g.map (den x)) j) ⟨q,ev⟩ ⟨q,e⟩
 | [],[],_,j,q=>⟨rfl,rfl,rfl⟩
 |k :: ks,i :: g,h,0,q=>h.1 q
 |k :: ks,i :: g,h,j+1,q=>PS.get h.2 j q
 | [],_ :: _,h,_,_=>h.elim
 |_ :: _,[],h,_,_=>h.elim
theorem qbV{G:Nd->Den}{ev:List (ByteArray×Int)}{c c0:Ck}{F:Nat}{body inn:Bool}{s s':Scp}{env:IEnv}{E:IEnv->Nd->ISt->XR (Nd×Int)}{R:IEnv->ByteArray->ISt->(IEnv×ByteArray)×ISt} :
  ∀{ks:List Nd} {i:Nat} {nm nm':ByteArray} {st g:ISt} {j:List Nd} {J:Int} {l:List (Option Kd)},
  (∀ k,k∈ks->∀ st n' z g I,StOk F st->PD.Rl c0 es st.last body s s' env->E env k st = .ok ((n',z),g)->exam c s inn k = .ok I->(Out c0 es s' inn k n' I st.last g.last/\StOk F g)/\∀ q,vY (G k) (den x n') ⟨q,ev⟩ ⟨q,e⟩) ->
  StOk F st->PD.Rl c0 es st.last body s s' env->ya E R false i env nm ks st = .ok ((nm',j,J),g)->qQ c s inn ks = .ok l->PS x G ev e ks j
 | [],i,nm,nm',st,g,j,J,l,_,p,P,o,el=>by
  cases o;exact trivial
 |k :: ks,i,nm,nm',st,g,j,J,l,T,p,P,o,el=>by
  simp only[ya,Bool.false_eq_true,false_and,if_false]at o;simp only[qQ]at el;split at o
  .cases o
  .rename_i k' U s1 h1
   cases hx:exam c s inn k with
   |error er=>rw[hx]at el;cases el
   |ok I =>
    rw[hx]at el;simp only at el;obtain⟨⟨ho,t⟩,hq⟩:=T k (q8 ..) st k' U s1 I p P h1 hx;cases C:qQ c s inn ks with
    |error er=>rw[C]at el;cases el
    |ok l1 =>
     split at o
     .cases o
     .rename_i a0 a1 m2 s2 h2
      have r:=qbV (fun k hk=>T k (qY _ hk)) t (Rl.mono P ho.le) h2 C;cases o;exact⟨hq,r⟩
theorem qbW{T:Nd->Nat->XE Ev.Rl}{c c0:Ck}{F:Nat}{body:Bool}{s s':Scp}{env:IEnv}{pos:Int}{E:Nd->ISt->XR (Nd×Int)}{ko:Option Kd} :
  ∀{ks:List Nd} {ps:List (ByteArray×Int)} {own i:IEnv} {sc:Scp} {ρ:Th} {st g:ISt},
  (∀ k,k∈ks->∀ st n' z g ko,StOk F st->PD.Rl c0 es st.last body s s' env->E k st = .ok ((n',z),g)->exam c s true k = .ok ko->(Out c0 es s' true k n' ko st.last g.last/\StOk F g)/\∀ q,T k q=(den x n').E ⟨q,e⟩) ->
  StOk F st->PD.Rl c0 es st.last body s s' env->(∀ v,ValV x [] e ρ v (lookS v sc) (getK v own))->ps.length=ks.length->zN c s pos ps ks = .ok ko->yF E ps ks own st = .ok (i,g) ->
  ∀ v,ValV x [] e (JY ps (ks.map T) ρ) v (lookS v (ps.foldl (fun s p=>(p.1,kOf [p.2]) :: s) sc)) (getK v i)
 | [],[],own,i,sc,ρ,st,g,_,_,_,ho,_,_,l=>by
  cases l;exact ho
 |k :: ks,p :: ps,own,i,sc,ρ,st,g,hE,a0,hr,ho,r,j,l=>by
  simp only[zN]at j;simp only[yF]at l;cases hx:exam c s true k with
  |error er=>rw[hx]at j;cases j
  |ok ka =>
   cases ka with
   |none=>rw[hx]at j;cases j
   |some a =>
    rw[hx]at j;simp only at j;by_cases C:a.ar=1
    .rw [if_pos C]at j
     by_cases I:vU p.2 a=true
     .rw [if_pos I]at j
      split at l
      .cases l
      .rename_i k' m s1 h1
       obtain⟨⟨out,J⟩,hT⟩:=hE k (q8 ..) st k' m s1 _ a0 hr h1 hx;have P:∀ v,ValV x [] e (fun v=>if v=p.1 then some (T k) else ρ v) v (lookS v ((p.1,kOf [p.2]) :: sc)) (getK v (setK p.1 ⟨some k',m,⟨#[]⟩⟩ own)):=fun v=>by
        rw[vJ,jB];by_cases o:p.1=v
        .rw [if_pos o,if_pos o.symm]
         exact⟨rfl,T k,if_pos o.symm,hT⟩
        .rw [if_neg o,if_neg (fun e=>o e.symm)]
         have R:=ho v;have U:(if v=p.1 then some (T k) else ρ v)=ρ v:=if_neg fun e=>o e.symm
         generalize lookS v sc=lk at *
         generalize getK v own=iv at *
         match lk,iv with
         |none,iv=>exact⟨R.1,by rw[<-R.2];exact U⟩
         |some q,none=>exact R
         |some q,some ⟨some t,_,_⟩ =>
          obtain⟨e1,th,e2,e3⟩:=R;exact⟨e1,th,by rw[<-e2];exact U,e3⟩
         |some q,some ⟨none,_,to⟩=>exact R
       exact qbW (ks:=ks) (ps:=ps) (fun k hk=>hE k (qY _ hk)) J (Rl.mono hr out.le) P (zUs r) j l
     .rw [if_neg I]at j;cases j
    .rw [if_neg C]at j;cases j
 | [],_ :: _,_,_,_,_,_,_,_,_,_,_,r,_,_=>by simp at r
 |_ :: _,[],_,_,_,_,_,_,_,_,_,_,r,_,_=>by simp at r
theorem qn6{op:Int}(h:16<=op)(nm:ByteArray)(i:Int)(ds:List Den)(p:Pl):opE x op nm i ds p = .error 43:=by
 unfold opE;rw[if_neg zOm,if_neg zOm,if_neg zOm,if_neg zOm,if_neg zOm,if_neg zOm,if_neg zOm,if_neg zOm,if_neg zOm,if_neg zOm,if_neg zOm,if_neg zOm,if_neg zOm,if_neg zOm,if_neg zOm]
theorem qn7{op:Int}(h:24<=op)(i:Int)(ds:List Den)(p:Pl):opN op i ds p = .error 43:=by
 unfold opN;rw[if_neg zOm,if_neg zOm,if_neg zOm,if_neg zOm]
theorem qn8{op:Int}(h:kd op=102):30<=op:=by
 unfold kd at h;split at h
 .cases h
 .split at h
  .cases h
  .split at h
   .omega
   .cases h
def IHs(x:Mo)(es:List (ByteArray×Bool))(f:Nat):Prop:=∀(env:IEnv) (n:Nd) (i:Bool) (U:ISt) (l:Nd) (z:Int) (g:ISt) (s o:Scp) (j:Bool) (m:Nat) (r:Option Kd) (p:Th) (ev e:List (ByteArray×Int)) (F:Nat),
 m<=x.ts.preds.length->WfN n->Tk es n->OwnT n->ScOk x.ts.sorts.length s->StOk (ql x.ts es) U->zl env->PD.Rl (ckF x.ts) es U.last i s o env->SV x es s o env p ev e->f<=F ->
 expI x.ts es f env n i U = .ok ((l,z),g)->exam (mkCk x.ts m) s j n = .ok r->∀ q,vY (cD x F p n) (den x l) ⟨q,ev⟩ ⟨q,e⟩
theorem qn9(x:Mo)(h:okTS x.ts)(es:List (ByteArray×Bool))(hP:Zc x.ts es)(hF:ql x.ts es<=200000)(a4:Free x.ts es)(f:Nat)(ih:IHs x es f)(env:IEnv)(n:Nd)(body:Bool)(st:ISt)(n':Nd)(z:Int)(g:ISt)(s s':Scp)(inn:Bool)(m:Nat)(ko:Option Kd)(ρ:Th)(ev ee:List (ByteArray×Int))(F:Nat)
  (hm:m<=x.ts.preds.length) (hw:WfN n) (ht:Tk es n) (ho:OwnT n) (hs:ScOk x.ts.sorts.length s) (l:StOk (ql x.ts es) st) (R:zl env) (hr:PD.Rl (ckF x.ts) es st.last body s s' env) (hS:SV x es s s' env ρ ev ee) (a7:f<=F) (h47:n.op=47) (a8:Out (ckF x.ts) es s' inn n n' ko st.last g.last)
  (e:((match x.ts.preds.find? fun p=>decide (p.name=n.name) with
    |none=>Except.error (2,0)
    |some p=>vq (yF (fun k s=>expI x.ts es f env k body s) p.params n.kids [] st) fun own s'=>expI x.ts es f own p.body true s'):XR (Nd×Int)) = .ok ((n',z),g))
  (t:exam (mkCk x.ts m) s inn n = .ok ko) (q:Nat):vY (cD x (F+1) ρ n) (den x n') ⟨q,ev⟩ ⟨q,ee⟩:=by
 have hc:okCk (mkCk x.ts m):=vG h hm;rw[yD,if_neg (show ¬n.op=1 by omega),if_pos h47]at t;split at t
 .cases t
 rename_i U;split at t
 .cases r:zn (mkCk x.ts m) n.name with
  |none=>rw[r]at t;cases t
  |some i =>
   obtain⟨a5,J⟩:=wT hc r;have a5:i<m:=a5;have J:i<x.ts.preds.length:=J;rw[r]at t;simp only at t;have t:((match x.ts.preds[i]? with|none=>Except.error (45,n.pos)|some C=>if C.params.length=n.kids.length then zN (mkCk x.ts m) s n.pos C.params n.kids else .error (45,n.pos)):Res) = .ok ko:=t;rw[List.getElem?_eq_getElem J]at t;simp only at t;have a0:(x.ts.preds.find? fun p=>decide (p.name=n.name))=some x.ts.preds[i]:=by
    unfold zn at r;rw[List.findIdx?_eq_some_iff_getElem]at r;obtain⟨hi,a1,a2⟩:=r;rw[List.find?_eq_some_iff_getElem];refine⟨?_,i,J,rfl,fun j hj=>?_⟩
    .have:=a1
     simp only[List.getElem_take]at this;exact this
    .have:=a2 j hj
     simp only[List.getElem_take]at this;have h3:¬decide (x.ts.preds[j].name=n.name)=true:=this;simpa using h3
   have ah:cD x (F+1) ρ n=⟨fun _ => .error 43,fun _ => .error 43,fun p=>(cD x F (JY x.ts.preds[i].params (n.kids.map fun k=>fun st=>(cD x F ρ k).E ⟨st,p.env⟩) fun _=>none) x.ts.preds[i].body).F ⟨p.st,[]⟩⟩:=by
    rw[cD,if_neg zOm,if_pos h47,a0]
   rw[a0]at e;simp only at e;obtain⟨⟨kb,hb⟩,aw,ai,aj,ak⟩:=hP i J;have al:=h.pl _ (qy J);generalize an:x.ts.preds[i]=C at *
   by_cases P:C.params.length=n.kids.length
   .rw [if_pos P]at t
    obtain⟨own,s1,h1,e⟩:=Qx e;have a9:=UB hw h47;have a3:∀ k,k∈n.kids->∀ st n' z g,StOk (ql x.ts es) st->expI x.ts es f env k body st = .ok ((n',z),g)->StOk (ql x.ts es) g:=fun k I st n' z g l e=>(yZ x.ts a4 f l R e).ok l
    have aa:=Yt x.ts h es hP hF a4 f;obtain⟨g1,g2⟩:=KF (c:=mkCk x.ts m) (c0:=ckF x.ts) (ns:=x.ts.sorts.length) (F:=ql x.ts es) (body:=body) (s:=s) (s':=s') (env:=env) (sc:=[]) (own:=[])
     (fun k I st n' z g ko l hr e x=>⟨aa env k body st n' z g s s' true m ko hm (hw.kid I) (ht.kid I) (ho.kid I) hs l R hr e x,a3 k I st n' z g l e⟩)
     a9 (fun k I a hx=>by
      obtain⟨q,e1,e2⟩:=vj hc (szN k) k s true _ (qm _) (hw.kid I) hs hx (a9 k I);cases e1;exact e2)
     l hr (fun v=>trivial) P t h1
    have gv:=qbW (x:=x) (e:=ee) (T:=fun k=>fun st=>(cD x F ρ k).E ⟨st,ev⟩) (c:=mkCk x.ts m) (c0:=ckF x.ts) (F:=ql x.ts es) (body:=body) (s:=s) (s':=s') (env:=env) (sc:=[]) (own:=[]) (ρ:=fun _=>none)
     (fun k I st n' z g ko l hr e x2=>⟨⟨aa env k body st n' z g s s' true m ko hm (hw.kid I) (ht.kid I) (ho.kid I) hs l R hr e x2,a3 k I st n' z g l e⟩,fun q=>(ih env k body st n' z g s s' true m ko ρ ev ee F hm (hw.kid I) (ht.kid I) (ho.kid I) hs l R hr hS a7 e x2 q).E⟩)
     l hr (fun v=>⟨rfl,rfl⟩) P t h1
    obtain⟨ab,ao⟩:=Uk (F:=ql x.ts es) (fun k n' z s s' _ hs hE=>yZ x.ts a4 f hs R hE) l .nil h1;have ad:=ao.ok l;have aq:PD.Rl (ckF x.ts) es s1.last true (zJ C.params) s' own:=⟨hr.mean,fun v hv=>by
     have:=g2 v;have:OwnV (ckF x.ts) es s1.last s' (lookS v (zJ C.params)) (getK v own):=this;generalize lookS v (zJ C.params)=lk at *
     generalize getK v own=iv at *
     match lk,iv with
     |none,none=>trivial
     |some k,some ⟨some a,_,_⟩=>exact this
     |none,some _=>exact this.elim
     |some k,none=>exact this.elim
     |some k,some ⟨none,_,_⟩=>exact this.elim,fun ar=>by cases ar⟩
    have ae:ScOk x.ts.sorts.length (zJ C.params):=Uc ⟨zOm,al.2⟩;have au:exam (mkCk x.ts i) (zJ C.params) inn C.body = .ok kb:=by
     cases af:inn with
     |false=>exact hb
     |true =>
      rw[<-hb];refine KA _ (szN C.body) C.body _ _ _ (qm _) ?_;rw[af]at U;have a6:zL (mkCk x.ts m) n.op n.name=false:=by simpa using U
      unfold zL at a6;rw[r,h47]at a6;have:=JL x.ts i m a5 hm J;rw[an]at this;rw[<-this];have ag:(yh 47||(decide ((47:Int)=47)&&(tmsL x.ts m).getD i false))=false:=a6;simpa using (Bool.or_eq_false_iff.1 ag).2
    have av:SV x es (zJ C.params) s' own (JY C.params (n.kids.map fun k=>fun st=>(cD x F ρ k).E ⟨st,ev⟩) fun _=>none) [] ee:=⟨fun v _=>gv v,hS.dom⟩;have hB:=ih own C.body true s1 n' z g (zJ C.params) s' inn i kb _ [] ee F zOm ai aj ak ae ad ab aq av a7 e au q;have ax:30<=n'.op:=qn8 (by rw[a8.kd,h47];rfl);rw[ah];refine⟨?_,?_,hB.F⟩
    .rw [jO];exact(qn6 zOm _ _ _ _).symm
    .rw [jO];exact(qn7 zOm _ _ _).symm
   .rw [if_neg P]at t;cases t
 .cases t
theorem qoA(x:Mo)(h:okTS x.ts)(es:List (ByteArray×Bool))(hP:Zc x.ts es)(hF:ql x.ts es<=200000)(r:Free x.ts es)(f:Nat)(ih:IHs x es f)(env:IEnv)(n:Nd)(body:Bool)(st:ISt)(nm':ByteArray)(t:List Nd)(z:Int)(i:ISt)(s s':Scp)(inn:Bool)(m:Nat)(I:Option Kd)(ρ:Th)(ev J:List (ByteArray×Int))(F:Nat)
  (hm:m<=x.ts.preds.length) (hw:WfN n) (ht:Tk es n) (ho:OwnT n) (hs:ScOk x.ts.sorts.length s) (g:StOk (ql x.ts es) st) (j:zl env) (P:PD.Rl (ckF x.ts) es st.last body s s' env) (hS:SV x es s s' env ρ ev J) (T:f<=F) (h47:n.op≠47) (U:n.op≠1) (R:¬(n.op=15\/n.op=45\/n.op=46))
  (e:ya (fun env k s=>expI x.ts es f env k body s) (fun env nm s=>renI x.ts es env nm body s) (binB n.op) 0 env n.name n.kids st = .ok ((nm',t,z),i))
  (C:exam (mkCk x.ts m) s inn n = .ok I) (q:Nat):vY (cD x (F+1) ρ n) (den x (.mk n.op nm' n.n t n.pos)) ⟨q,ev⟩ ⟨q,J⟩:=by
 have a0:binB n.op=false:=by
  unfold binB;simp only[not_or]at R;simp[R]
 rw[a0]at e;rw[yD,Zb h47,if_neg U,if_neg h47,if_neg R]at C;split at C
 .cases C
 have o:=C;clear C;generalize hB:(inn||decide (n.op=12)||decide (n.op=13))=B at o;have a1:=Yt x.ts h es hP hF r f;cases hl:qQ (mkCk x.ts m) s B n.kids with
 |error er=>rw[hl]at o;cases o
 |ok l =>
  have a2:=qbV (x:=x) (G:=cD x F ρ) (ev:=ev) (e:=J) (c:=mkCk x.ts m) (c0:=ckF x.ts) (F:=ql x.ts es) (body:=body) (s:=s) (s':=s') (env:=env)
   (fun k p st n' z i I g P e x2=>⟨⟨a1 env k body st n' z i s s' B m I hm (hw.kid p) (ht.kid p) (ho.kid p) hs g j P e x2,(yZ x.ts r f g j e).ok g⟩,ih env k body st n' z i s s' B m I ρ ev J F hm (hw.kid p) (ht.kid p) (ho.kid p) hs g j P hS T e x2⟩) g P e hl
  have a3:cD x (F+1) ρ n=opD x n.op n.name n.n (n.kids.map (cD x F ρ)):=by rw[cD,if_neg U,if_neg h47]
  rw[a3,jO];exact op_sv U h47 R a2.get q
theorem qoB(x:Mo)(h:okTS x.ts)(es:List (ByteArray×Bool))(hP:Zc x.ts es)(hF:ql x.ts es<=200000)(t:Free x.ts es)(f:Nat)(ih:IHs x es f)(env:IEnv)(n:Nd)(body:Bool)(st:ISt)(nm':ByteArray)(U:List Nd)(z:Int)(a0:ISt)(s s':Scp)(inn:Bool)(m:Nat)(ko:Option Kd)(ρ:Th)(ev ee:List (ByteArray×Int))(F:Nat)
  (hm:m<=x.ts.preds.length) (hw:WfN n) (ht:Tk es n) (ho:OwnT n) (hs:ScOk x.ts.sorts.length s) (C:StOk (ql x.ts es) st) (ah:(ql x.ts es:Nat)<=pot (ql x.ts es) st) (l:zl env) (hr:PD.Rl (ckF x.ts) es st.last body s s' env) (hS:SV x es s s' env ρ ev ee) (a1:f<=F) (hb:n.op=15\/n.op=45\/n.op=46)
  (e:ya (fun env k s=>expI x.ts es f env k body s) (fun env nm s=>renI x.ts es env nm body s) (binB n.op) 0 env n.name n.kids st = .ok ((nm',U,z),a0))
  (j:exam (mkCk x.ts m) s inn n = .ok ko) (q:Nat):vY (cD x (F+1) ρ n) (den x (.mk n.op nm' n.n U n.pos)) ⟨q,ev⟩ ⟨q,ee⟩:=by
 have hc:okCk (mkCk x.ts m):=vG h hm;have a8:binB n.op=true:=by
  unfold binB;rcases hb with h|h|h<;>simp[h]
 have h47:n.op≠47:=zOm;have h1:n.op≠1:=zOm;have a9:=Yt x.ts h es hP hF t f;have aa:cD x (F+1) ρ n=opD x n.op n.name n.n (n.kids.map (cD x F ρ)):=by rw[cD,if_neg h1,if_neg h47]
 rw[aa,jO];rw[a8]at e;rw[yD,Zb h47,if_neg h1,if_neg h47,if_pos hb]at j;split at j
 .cases j
 obtain⟨a,g,I,a2⟩:=JN hw hb;have J:a∈n.kids:=by rw[I];simp
 have mg:g∈n.kids:=by rw[I];simp
 rw[I]at e j⊢;generalize hB:(inn||decide (n.op=15))=B at j;simp only[z8,qQ]at j;simp only[ya,Nat.zero_add,true_and,Nat.zero_ne_one,if_false,if_true]at e;cases o:exam (mkCk x.ts m) s B a with
 |error er=>rw[o]at j;cases j
 |ok ka =>
  cases ka with
  |none=>rw[o]at j;cases j
  |some k =>
   rw[o]at j;simp only at j;by_cases P:k.ar=1
   .rw [if_pos P]at j
    split at e
    .cases e
    .rename_i a' m1 s1 e1
     have out:=a9 env a body st a' m1 s1 s s' B m _ hm (hw.kid J) (ht.kid J) (ho.kid J) hs C l hr e1 o;have ab:=ih env a body st a' m1 s1 s s' B m _ ρ ev ee F hm (hw.kid J) (ht.kid J) (ho.kid J) hs C l hr hS a1 e1 o q;have a3:=yZ x.ts t f C l e1;have i:=a3.ok C;obtain⟨aj,x1,x2⟩:=out.ex;obtain⟨q1,T,y1,y2,y3⟩:=x2 a2;cases y1;subst y2;obtain⟨q2,y4,ad⟩:=vj hc (szN a) a s B _ (qm _) (hw.kid J) hs o a2;cases y4;have r:=Yj t (env:=env) (nm:=n.name) (body:=body) i.l0;have a4:=Yi (ts:=x.ts) (es:=es) (nm:=n.name) (body:=body) (s:=s1) l;have ae:=i.last;obtain⟨w1,w2,w3⟩:=Rl.bind (c0:=ckF x.ts) (st:=s1) (nm:=n.name) (k:=k) (k':=T) t l.nd (Rl.mono hr out.le) i.l0 (by show s1.last+(ql x.ts es:Nat)<_;omega) (ht n (jQ n)) y3;have w4:=fun a=>SV.bind (x:=x) (c0:=ckF x.ts) (st:=s1) (nm:=n.name) (k:=k) (k':=T) (ρ:=ρ) (ev:=ev) (e:=ee) t l.nd (Rl.mono hr out.le) i.l0 (ht n (jQ n)) hS a
     have w1:PD.Rl (ckF x.ts) es (renI x.ts es env n.name body s1).2.last body ((n.name,k) :: s) (((renI x.ts es env n.name body s1).1.2,T) :: s') (renI x.ts es env n.name body s1).1.1:=w1;have w4:∀ a,SV x es ((n.name,k) :: s) (((renI x.ts es env n.name body s1).1.2,T) :: s') (renI x.ts es env n.name body s1).1.1 ρ (ev++[(n.name,a)]) (ee++[((renI x.ts es env n.name body s1).1.2,a)]):=w4;clear w2 w3;generalize ai:renI x.ts es env n.name body s1=af at *
     obtain⟨⟨a5,ak⟩,s2⟩:=af;simp only at r a4 w1 w4 e;have a6:StOk (ql x.ts es) s2:=⟨r.1,by rw[r.2.2];exact i.c0,by rw[r.2.2];exact i.c1,by
      have:=a3.p;have h3:=r.2.1;have h4:=r.2.2;unfold pot at *
      rw[h4];omega⟩
     split at e
     .cases e
     .rename_i al an m3 s3 e3
      split at e3
      .cases e3
      .rename_i g' m2 s4 e2
       cases e3;cases e;cases a7:exam (mkCk x.ts m) ((n.name,k) :: s) B g with
       |error er=>rw[a7]at j;cases j
       |ok kg =>
        have ag:ScOk x.ts.sorts.length ((n.name,k) :: s):=fun v hv=>by
         rcases qt.1 hv with rfl|hv
         .exact ⟨ad,P⟩
         .exact hs v hv
        refine qn5 (nm':=nm') (ds:=[a,g].map (cD x F ρ)) (ds':=[a',g'].map (den x)) hb q ab.E fun v=>?_
        exact(ih a5 g body s2 g' m2 a0 ((n.name,k) :: s) ((nm',T) :: s') B m _ ρ _ _ F hm (hw.kid mg) (ht.kid mg) (ho.kid mg) ag a6 a4 w1 (w4 v) a1 e2 a7 q).F
   .rw [if_neg P]at j;cases j
theorem qbX(x:Mo)(h:okTS x.ts)(es:List (ByteArray×Bool))(C:Zc x.ts es)(I:ql x.ts es<=200000)(g:Free x.ts es):∀ f:Nat,IHs x es f
 | 0=>fun env n body st n' z i s s' inn m J ρ ev ee F _ _ _ _ _ _ _ _ _ _ e _=>by cases e
 |f+1=>fun env n body st n' z i s s' inn m J ρ ev ee F hm hw P ho hs l o hr hS r e R q=>by
  have ih:=qbX x h es C I g f;have T:=Yt x.ts h es C I g (f+1) env n body st n' z i s s' inn m J hm hw P ho hs l o hr e R;obtain⟨F,rfl⟩:∃ F',F=F'+1:=⟨F-1,zOm⟩;have r:f<=F:=zOm;simp only[expI]at e;split at e
  .rename_i hc
   have hp:=we l (n:=1) zOm hc;have j:=hp.ok l;have t:PD.Rl (ckF x.ts) es (payS 1 st).last body s s' env:=hr;split at e
   .rename_i h1
    exact qn4 (c:=mkCk x.ts m) (c0:=ckF x.ts) F rfl h1 (P n (jQ n)) t hS e R q
   .rename_i h1
    split at e
    .rename_i h47
     exact qn9 x h es C I g f ih env n body (payS 1 st) n' z i s s' inn m J ρ ev ee F hm hw P ho hs j o t hS r h47 T e R q
    .rename_i h47
     obtain⟨⟨U,a0,z'⟩,s1,e1,e2⟩:=Qx e;cases e2;by_cases hb:n.op=15\/n.op=45\/n.op=46
     .refine qoB x h es C I g f ih env n body (payS 1 st) U a0 z' i s s' inn m J ρ ev ee F hm hw P ho hs j ?_ o t hS r hb e1 R q
      rw[Qy];have:=l.p;omega
     .exact qoA x h es C I g f ih env n body (payS 1 st) U a0 z' i s s' inn m J ρ ev ee F hm hw P ho hs j o t hS r h47 h1 hb e1 R q
  .cases e
end
end EG
namespace EH
open P1 P2 Y1 Y9 Y16 YX YZ YA YB PA YC YE YG Q4 Q6 PE E3 E5 EB ED EG PF
theorem Den.ext{a b:Den}(g:a.E=b.E)(i:a.N=b.N)(j:a.F=b.F):a=b:=by cases a;cases b;simp at g i j;rw[g,i,j]
abbrev rho0:Th:=fun _=>none
theorem qbY(x:Mo):∀(F:Nat) (n:Nd),depN n<=F->(∀ y,y∈preN n->y.op≠47)->cD x F rho0 n=den x n
 | 0,n,i,_=>by
  rw[wd]at i;have:=Jy n.kids;omega
 | F+1,n,i,j=>by
  have h47:=j n (jQ n);by_cases g:n.op=1
  .have e:cD x (F+1) rho0 n=⟨namC x rho0 n.name,fun _ => .error 43,fun _ => .error 43⟩:=by rw[cD,if_pos g]
   have l:kd n.op=101:=by rw[g];rfl
   rw[e];refine Den.ext (funext fun p=>?_) (funext fun p=>(UM x l p).symm) (funext fun p=>(UN x l p).symm);rw[KW x g];rfl
  .have e:cD x (F+1) rho0 n=opD x n.op n.name n.n (n.kids.map (cD x F rho0)):=by rw[cD,if_neg g,if_neg h47]
   rw[e,jO];congr 1;refine List.map_congr_left fun k o=>qbY x F k ?_ fun y r=>j y (Ui o r)
   rw[wd]at i;have:=XY o;omega
theorem JZ(x:Mo)(h:okTS x.ts)(t:∀ p,p∈x.ts.preds->qS p.body=true)(hk:yT x.ts=[]){n n':Nd}(C:qS n=true)(j:qK x.ts n=(n',0))(F:Nat)(J:4001<=F)(q:Nat):vY (cD x F rho0 n) (den x n') ⟨q,[]⟩ ⟨q,[]⟩:=by
 have hw:=yE C;have o:=uc.1 C;have hF:=JS h t C;obtain⟨t1,t2⟩:=qbD x.ts n;generalize P:yH x.ts n=I at *
 have hP:Zc x.ts I:=fun i j=>by
  have R:=qy j;obtain⟨a,b⟩:=Yu (KL hk i j);exact⟨b,a,yE (t _ R),t2 _ R,(uc.1 (t _ R)).2.1⟩
 unfold qK at j;by_cases r:(yi x.ts [] n).1=0
 case neg =>
  rw[if_pos r]at j;exact absurd (congrArg Prod.snd j) r
 rw[if_neg (zUs r)]at j;cases g:anyN (fun n=>decide (n.op=47)) n with
 |false =>
  rw[if_pos g]at j;have e:n=n':=congrArg Prod.fst j;subst e;rw[qbY x F n (zW1 o.2.2.2) (fun y hy=>by
   rw[Yl _ (szN n) n (qm _),List.any_eq_false]at g;have:=g y hy;simpa using this)]
  exact⟨rfl,rfl,rfl⟩
 |true =>
  rw[if_neg (by simp[g]),P]at j;unfold outI at j;split at j
  .rename_i d hd
   exfalso;have h1:=X9 hd;have h2:d.1=0:=congrArg Prod.snd j;omega
  .rename_i n2 l
   have e:n2=n':=congrArg Prod.fst j;subst e;split at l
   .cases l
   .rename_i n3 z T he
    split at l
    .rename_i hz
     cases l;obtain⟨a0,ko,hx⟩:=Yu (c:=mkCk x.ts x.ts.preds.length) (env:=[]) r;have U:StOk (ql x.ts I) ⟨0,0⟩:=⟨zSp,zSp,zSp,by simp[pot]⟩;exact qbX x h I hP hF (Uq x.ts I) 4001 [] n false ⟨0,0⟩ n2 z T [] [] false x.ts.preds.length ko rho0 [] [] F (qm _) hw t1 o.2.1 (fun v hv=>absurd hv qE) U .nil
      ⟨fun v hv=>absurd hv qE,fun v _=>trivial,fun _ v iv e=>by cases e⟩ ⟨fun v _=>⟨rfl,rfl⟩,fun v _=>rfl⟩ J he hx q
    .cases l
def y5(x:Mo):List Nd->XE Bool
 | [] => .ok true
 |b :: l=>if (qK x.ts b).2=0 then bX ((den x (qK x.ts b).1).F ⟨0,[]⟩) fun v=>bX (y5 x l) fun r => .ok (v&&r) else .error (qK x.ts b).2
theorem qbZ(x:Mo):∀ a b:List Nd,y5 x (a++b)=bX (y5 x a) fun r=>bX (y5 x b) fun s => .ok (r&&s)
 | [],b=>by
  rw[jq,y5,zi];cases y5 x b with
  |error e=>rfl
  |ok s=>simp[zi]
 |n :: a,b=>by
  rw[List.cons_append,y5,y5];by_cases h:(qK x.ts n).2=0
  .rw [if_pos h,if_pos h,qbZ x a b,VX]
   congr 1;funext v;rw[VX,VX];congr 1;funext r;rw[zi,VX];congr 1;funext s;rw[zi,Bool.and_assoc]
  .rw [if_neg h,if_neg h];rfl
theorem qoC(x:Mo)(n:Nd):y5 x [n]=if (qK x.ts n).2=0 then (den x (qK x.ts n).1).F ⟨0,[]⟩ else .error (qK x.ts n).2:=by
 rw[y5];split
 .rw [y5]
  cases (den x (qK x.ts n).1).F ⟨0,[]⟩ with
  |error e=>rfl
  |ok v=>simp[zi]
 .rfl
theorem qb0{x y:Mo}(h:∀ op nm i ds,opD x op nm i ds=opD y op nm i ds):∀(m:Nat) (n:Nd),szN n<=m->den x n=den y n
 | 0,n,g=>by obtain⟨op,nm,i,ks,p⟩:=n;simp[szN]at g
 |m+1,n,g=>by
  rw[jO,jO,h];congr 1;exact List.map_congr_left fun k j=>qb0 h m k (zW1 (zS j))
theorem qb1(ts g:TS)(m:Md)(nm:ByteArray):∀(so:List (ByteArray×Bool)) (i:Nat),yj ⟨ts,m⟩ nm i so=yj ⟨g,m⟩ nm i so
 | [],i=>rfl
 |s :: so,i=>by rw[yj,yj,qb1 ts g m nm so];rfl
theorem qb2(ts g:TS)(m:Md):∀(f s:Nat) (acc:List Nat),vF ⟨ts,m⟩ f s acc=vF ⟨g,m⟩ f s acc
 | 0,s,acc=>rfl
 |f+1,s,acc=>by
  rw[vF,vF];split
  .rfl
  .exact qb2 ts g m f _ _
theorem qoD(ts:TS)(m:Md)(l:List (ByteArray×Nd))(op:Int)(nm:ByteArray)(i:Int)(ds:List Den):opD ⟨wf ts l,m⟩ op nm i ds=opD ⟨ts,m⟩ op nm i ds:=by
 have g:∀ p nm,jC ⟨wf ts l,m⟩ p nm=jC ⟨ts,m⟩ p nm:=fun p nm=>by
  unfold jC;show (match zF nm p.env with|some a=>_|none=>Qq (jY ts.fields _ nm++yj ⟨wf ts l,m⟩ nm 0 ts.sorts))=_;rw[qb1 (wf ts l) ts];cases zF nm p.env<;>rfl
 have hp:∀ s,(Mo.path ⟨wf ts l,m⟩ s)=Mo.path ⟨ts,m⟩ s:=fun s=>qb2 _ _ _ _ _ _
 refine Den.ext (funext fun p=>?_) rfl (funext fun p=>?_)
 .show opE ⟨wf ts l,m⟩ op nm i ds p=opE ⟨ts,m⟩ op nm i ds p
  unfold opE;rw[g];rfl
 .show opF ⟨wf ts l,m⟩ op nm ds p=opF ⟨ts,m⟩ op nm ds p
  unfold opF;rw[hp];rfl
theorem qb3(ts:TS)(m:Md)(l:List (ByteArray×Nd))(n:Nd):den ⟨wf ts l,m⟩ n=den ⟨ts,m⟩ n:=qb0 (qoD ts m l) (szN n) n (qm _)
theorem qb4(ts:TS)(l:List (ByteArray×Nd))(es:List (ByteArray×Bool)):∀(f:Nat) (k:Int),zj (wf ts l) es f k=zj ts es f k
 | 0,k=>rfl
 |f+1,k=>by
  simp only[zj];rw[qb4 ts l es f];rfl
theorem qoE(ts:TS)(l:List (ByteArray×Nd))(es:List (ByteArray×Bool))(env:IEnv)(nm:ByteArray)(body:Bool)(s:ISt):renI (wf ts l) es env nm body s=renI ts es env nm body s:=by
 unfold renI;rw[qb4];rfl
theorem UO(ts:TS)(l:List (ByteArray×Nd))(es:List (ByteArray×Bool)):∀(f:Nat) (env:IEnv) (n:Nd) (body:Bool) (s:ISt),expI (wf ts l) es f env n body s=expI ts es f env n body s
 | 0,_,_,_,_=>rfl
 |f+1,env,n,body,s=>by
  have i:(fun env k s=>expI (wf ts l) es f env k body s)=fun env k s=>expI ts es f env k body s:=by funext env k s;exact UO ts l es f env k body s
  have j:(fun k s=>expI (wf ts l) es f env k body s)=fun k s=>expI ts es f env k body s:=by funext k s;exact UO ts l es f env k body s
  have o:(fun env nm s=>renI (wf ts l) es env nm body s)=fun env nm s=>renI ts es env nm body s:=by funext env nm s;exact qoE ts l es env nm body s
  have r:(fun (p:Pd)=>fun own g=>expI (wf ts l) es f own p.body true g)=fun p own g=>expI ts es f own p.body true g:=by funext p own g;exact UO ts l es f own p.body true g
  have t:∀ p:Pd,(fun own g=>expI (wf ts l) es f own p.body true g)=fun own g=>expI ts es f own p.body true g:=fun p=>congrFun r p
  simp only[expI,i,j,o,t];rfl
theorem qb5(ts:TS)(l:List (ByteArray×Nd))(n:Nd):qK (wf ts l) n=qK ts n:=by
 unfold qK outI;rw[mi,UO];rfl
end EH
namespace IA
open Y1 Y9 Y16 YG PA P1 Q4 Q6 E3 E5 ED EH FC FJ
section
variable {s:Bool}{x:Mo}
theorem qb6(x:Mo)(n:Nd)(p:Pl):NZ ((den x n).F p):=(qbT x _ n (qm _)).F p
theorem UP(x:Mo):∀ l,NZ (y5 x l)
 | []=>zp _
 |b :: l=>by
  rw[y5];split
  .exact ze (qb6 x _ _) fun v=>ze (UP x l) fun r=>zp _
  .rename_i h;exact jR h
theorem qb7(v:Bool):fmV (.ok v)=(v,0):=rfl
theorem qoF(e:Int):fmV (.error e)=(false,e):=rfl
theorem qb8(x:Mo):∀(l:List Nd) (a:Bool),vo (qK x.ts) x l a=fmV (bX (y5 x l) fun r => .ok (a&&r))
 | [],a=>by simp[vo,y5,bX,fmV]
 |b :: l,a=>by
  have g:=qb6 x (qK x.ts b).1 ⟨0,[]⟩;rw[vo,y5];by_cases h:(qK x.ts b).2=0
  .rw [if_neg (zUs h),if_pos h]
   cases i:(den x (qK x.ts b).1).F ⟨0,[]⟩ with
   |error e =>
    rw[i]at g;rw[qoF,if_pos (g e rfl)];rfl
   |ok v =>
    rw[qb7,if_neg zSp,qb8 x l,zi];cases y5 x l with
    |error e=>rfl
    |ok r=>simp[zi,Bool.and_assoc]
  .rw [if_pos h,if_neg h];rfl
def hV(x:Mo)(n:Nd):Bool×Int:=vo (qK x.ts) x (x.ts.facts.map Prod.snd++[n]) true
def fX(x:Mo):XE Bool:=y5 x (x.ts.facts.map Prod.snd)
def gX(x:Mo)(n:Nd):XE Bool:=y5 x [n]
theorem KX(x:Mo)(n:Nd):hV x n=fmV (bX (fX x) fun r=>bX (gX x n) fun s => .ok (r&&s)):=by
 rw[hV,qb8,qbZ];congr 1;rw[fX,gX];cases y5 x (x.ts.facts.map Prod.snd) with
 |error e=>rfl
 |ok r=>cases y5 x [n]<;>rfl
theorem qb9{n:Nd}{r:Bool}(g:fX x = .ok r)(i:gX x n = .ok s):hV x n=(r&&s,0):=by rw[KX,g,i];rfl
theorem KY{n:Nd}(h:(hV x n).2=0):∃ r s,fX x = .ok r/\gX x n = .ok s/\(hV x n).1=(r&&s):=by
 rw[KX]at h⊢;have g:NZ (fX x):=UP x _;have i:NZ (gX x n):=UP x _;cases j:fX x with
 |error e=>rw[j]at h g;exact absurd h (g e rfl)
 |ok r =>
  cases l:gX x n with
  |error e=>rw[j,l]at h;rw[l]at i;exact absurd h (i e rfl)
  |ok s=>exact⟨r,s,rfl,rfl,rfl⟩
theorem UQ(x:Mo)(n:Nd):gX x n=if (qK x.ts n).2=0 then (den x (qK x.ts n).1).F ⟨0,[]⟩ else .error (qK x.ts n).2:=qoC x n
theorem UR{n:Nd}(h:gX x n = .ok s):qK x.ts n=((qK x.ts n).1,0)/\(den x (qK x.ts n).1).F ⟨0,[]⟩ = .ok s:=by
 rw[UQ]at h;split at h
 .rename_i e;exact⟨Prod.ext rfl e,h⟩
 .cases h
theorem qoG(ts:TS):qK ts (nk 30 [])=(nk 30 [],0):=by rfl
theorem qoH(x:Mo):gX x (nk 30 []) = .ok true:=by
 rw[UQ,qoG,if_pos rfl];rfl
structure OkSp (ts:TS):Prop where
 h:okTS ts
 hb:∀ p,p∈ts.preds->qS p.body=true
 hk:yT ts=[]
theorem one_sem(x:Mo)(S:OkSp x.ts)(op:Int)(o:¬op=1)(g:¬op=47){f l n':Nd}(hf:qS f=true)(p:qS (nk op [f])=true)(i:qK x.ts f=(l,0))(j:qK x.ts (nk op [f])=(n',0))(q:Nat) :
  (den x n').F ⟨q,[]⟩=opF x op ⟨#[]⟩ [cD x 4001 rho0 f] ⟨q,[]⟩/\(cD x 4001 rho0 f).F ⟨q,[]⟩=(den x l).F ⟨q,[]⟩:=by
 refine⟨?_,(JZ x S.h S.hb S.hk hf i 4001 (qm _) q).F⟩;rw[<-(JZ x S.h S.hb S.hk p j 4002 zOm q).F];have e:cD x 4002 rho0 (nk op [f])=opD x op ⟨#[]⟩ 0 [cD x 4001 rho0 f]:=by
  rw[cD,if_neg (by exact o),if_neg (by exact g)];rfl
 rw[e];rfl
theorem qoI(x:Mo)(S:OkSp x.ts)(op:Int)(r:¬op=1)(i:¬op=47){f g o p n':Nd}(hf:qS f=true)(hg:qS g=true)(t:qS (nk op [f,g])=true)(j:qK x.ts f=(o,0))(C:qK x.ts g=(p,0))(l:qK x.ts (nk op [f,g])=(n',0))(q:Nat) :
  (den x n').F ⟨q,[]⟩=opF x op ⟨#[]⟩ [cD x 4001 rho0 f,cD x 4001 rho0 g] ⟨q,[]⟩/\(cD x 4001 rho0 f).F ⟨q,[]⟩=(den x o).F ⟨q,[]⟩/\(cD x 4001 rho0 g).F ⟨q,[]⟩=(den x p).F ⟨q,[]⟩:=by
 refine⟨?_,(JZ x S.h S.hb S.hk hf j 4001 (qm _) q).F,(JZ x S.h S.hb S.hk hg C 4001 (qm _) q).F⟩;rw[<-(JZ x S.h S.hb S.hk t l 4002 zOm q).F];have e:cD x 4002 rho0 (nk op [f,g])=opD x op ⟨#[]⟩ 0 [cD x 4001 rho0 f,cD x 4001 rho0 g]:=by
  rw[cD,if_neg (by exact r),if_neg (by exact i)];rfl
 rw[e];rfl
theorem qoJ(S:OkSp x.ts){f g:Nd}(hf:qS f=true)(hg:qS g=true)(l:qS (nk 41 [f,g])=true){a b c:Bool}(o:gX x f = .ok a)(p:gX x g = .ok b)(r:gX x (nk 41 [f,g]) = .ok c):c=(a&&b):=by
 obtain⟨t,d1⟩:=UR o;obtain⟨C,d2⟩:=UR p;obtain⟨I,d3⟩:=UR r;obtain⟨e,i,j⟩:=qoI x S 41 zOm zOm hf hg l t C I 0;rw[d3]at e;rw[d1]at i;rw[d2]at j;simp[opF,kD,i,j,zi]at e;exact e
theorem qoK(x:Mo)(n:Nd):hV ⟨wf x.ts [],x.m⟩ n=fmV (gX x n):=by
 rw[KX];have g:fX ⟨wf x.ts [],x.m⟩ = .ok true:=rfl;have i:gX ⟨wf x.ts [],x.m⟩ n=gX x n:=by
  rw[UQ,UQ];show (if (qK (wf x.ts []) n).2=0 then (den ⟨wf x.ts [],x.m⟩ (qK (wf x.ts []) n).1).F ⟨0,[]⟩ else .error (qK (wf x.ts []) n).2)=_;rw[qb5,qb3]
 rw[g,i,zi];cases gX x n<;>rfl
theorem qcA{n:Nd}(j:anyN (fun n=>decide (n.op=47)) n=false)(h:gX x n = .ok s):(den x n).F ⟨0,[]⟩ = .ok s:=by
 obtain⟨l,d1⟩:=UR h;have e:(qK x.ts n).1=n:=by
  have g:(qK x.ts n).2=0:=congrArg Prod.snd l;unfold qK at g⊢;by_cases i:(yi x.ts [] n).1=0
  .rw [if_neg (zUs i),if_pos j]
  .rw [if_pos i]at g;exact absurd g i
 rw[e]at d1;exact d1
end
end IA
namespace QY
open Y1 YX YA YB YC P1 P2 PA QE QX
section
variable {es:List (ByteArray×Bool)}
structure ScOf (ts:TS) (body:Bool) (sc:List Sb) (env:IEnv):Prop where
 look:∀ nm,uF nm sc=getK nm env
 own:body=false->∀ nm v,getK nm env=some v->means ts nm≠[]
 sz:∀ e,e∈sc->0<=e.2.size/\e.2.size<=4000
def OutR(r:XR (Nd×Int))(s':ISt)(n':Nd)(z:Int):Prop:=match r with
 | .ok ((m,y),t)=>n'=m/\z=y/\s'=t
 | .error _=>4000<s'.cost/\s'.cost<=9000/\0<=z/\z<=4000
def renR(ts:TS)(es:List (ByteArray×Bool))(sc:List Sb)(nm:ByteArray)(body:Bool)(s:ISt):(List Sb×ByteArray)×ISt:=
 if body=true\/means ts nm≠[] then
  ((sc++[(nm,⟨none,0,vN (zj ts es (ql ts es) s.last)⟩)],vN (zj ts es (ql ts es) s.last)),⟨zj ts es (ql ts es) s.last,s.cost⟩)
 else ((sc,nm),s)
abbrev XO:=ISt×Nd×Int
def vL(E:Nd->ISt->XO):List (ByteArray×Int)->List Nd->List Sb->ISt->Except ISt (List Sb×ISt)
 |p :: g,k :: ks,own,s=>if 4000<(E k s).1.cost then .error (E k s).1 else vL E g ks (own++[(p.1,⟨some (E k s).2.1,(E k s).2.2,⟨#[]⟩⟩)]) (E k s).1
 |_,_,own,s => .ok (own,s)
def ud(E:List Sb->Nd->ISt->XO)(R:List Sb->ByteArray->ISt->(List Sb×ByteArray)×ISt)(bin:Bool):Nat->List Sb->ByteArray->List Nd->ISt->Except ISt ((ByteArray×List Nd×Int)×ISt)
 |_,_,nm,[],s => .ok ((nm,[],0),s)
 |i,sc,nm,k :: ks,s =>
  let r:=if bin=true/\i=1 then R sc nm s else ((sc,nm),s)
  let q:=E r.1.1 k r.2
  if 4000<q.1.cost then .error q.1 else match ud E R bin (i+1) r.1.1 r.1.2 ks q.1 with
   | .error e => .error e
   | .ok ((g,j,o),l) => .ok ((g,q.2.1 :: j,q.2.2+o),l)
def expR(ts:TS)(es:List (ByteArray×Bool)):Nat->List Sb->Nd->Bool->ISt->XO
 | 0,_,n,_,s=>(s,n,0)
 |f+1,sc,n,i,s =>
  if s.cost+1<=4000 then
   if n.op=1 then ((Qd sc n (payS 1 s)).2,(Qd sc n (payS 1 s)).1.1,(Qd sc n (payS 1 s)).1.2)
   else if n.op=47 then match ts.preds.find? fun p=>decide (p.name=n.name) with
    |none=>(payS 1 s,n,1)
    |some p=>match vL (fun k s=>expR ts es f sc k i s) p.params n.kids [] (payS 1 s) with
     | .error g=>(g,nd0,0)
     | .ok (own,g)=>expR ts es f own p.body true g
   else match ud (fun sc k s=>expR ts es f sc k i s) (fun sc nm s=>renR ts es sc nm i s) (binB n.op) 0 sc n.name n.kids (payS 1 s) with
    | .error g=>(g,nd0,0)
    | .ok ((nm,ks,m),g)=>(g,.mk n.op nm n.n ks n.pos,1+m)
  else (payS 1 s,nd0,0)
theorem US{F:Nat}{s s':ISt}{z:Int}(g:Gos F s s' z)(h:StOk F s):StOk F s'/\s.cost<=s'.cost/\z<=4000:=⟨g.ok h,zW2 g.cz g.z0,by have:=g.cz;have:=g.c1;have:=h.c0;omega⟩
theorem qcB{F f:Nat}{E:Nd->ISt->XR (Nd×Int)}{E':Nd->ISt->XO}:∀(ps:List (ByteArray×Int)) (ks:List Nd) (own:IEnv) (i:List Sb) (s:ISt),
  (∀ k,k∈ks->∀ s,StOk F s->4000<s.cost+(f:Int)->OutR (E k s) (E' k s).1 (E' k s).2.1 (E' k s).2.2)->(∀ k n' z s s',k∈ks->StOk F s->E k s = .ok ((n',z),s')->Gos F s s' z) ->
  StOk F s->4000<s.cost+(f:Int)->zl own->(∀ nm,uF nm i=getK nm own)->(∀ e,e∈i->0<=e.2.size/\e.2.size<=4000) ->
  match yF E ps ks own s with
  | .error _=>∃ t,vL E' ps ks i s = .error t/\4000<t.cost/\t.cost<=9000
  | .ok (l,s')=>∃ j,vL E' ps ks i s = .ok (j,s')/\zl l/\(∀ nm,uF nm j=getK nm l)/\(∀ e,e∈j->0<=e.2.size/\e.2.size<=4000)/\StOk F s'/\s.cost<=s'.cost
 | [],ks,own,i,s,_,_,o,_,J,P,R=>by simp only[yF,vL];exact⟨i,rfl,J,P,R,o,j9 _⟩
 |p :: ps,[],own,i,s,_,_,o,_,J,P,R=>by simp only[yF,vL];exact⟨i,rfl,J,P,R,o,j9 _⟩
 |p :: ps,k :: ks,own,i,s,hE,hG,o,hf,J,P,R=>by
  simp only[yF,vL];have C:=hE k (q8 ..) s o hf;have h2:=fun n' z s'=>hG k n' z s s' (q8 ..) o
  generalize E' k s=Q at *
  cases U:E k s with
  |error d =>
   rw[U]at C;simp only;rw[if_pos C.1];exact⟨_,rfl,C.1,C.2.1⟩
  |ok r =>
   obtain⟨⟨m,y⟩,t⟩:=r;rw[U]at C;obtain⟨e1,e2,e3⟩:=C;have g:=h2 m y t U;obtain⟨g1,g2,g3⟩:=US g o;have hc:=g.c1;simp only;rw[if_neg (by rw[e3];omega),e1,e2,e3];have T:=qcB (F:=F) (f:=f) ps ks (setK p.1 ⟨some m,y,⟨#[]⟩⟩ own) (i++[(p.1,⟨some m,y,⟨#[]⟩⟩)]) t (fun k hk=>hE k (qY _ hk)) (fun k n' z s s' hk=>hG k n' z s s' (qY _ hk)) g1 zOm (J.set ⟨g.z0,g3⟩) (fun nm=>by
    rw[UG,jB,P];by_cases e:p.1=nm
    .rw [if_pos e,if_pos e.symm]
    .rw [if_neg e,if_neg fun x=>e x.symm]) (fun e I=>by
    rcases qM.1 I with I|I
    .exact R e I
    .rw [qL]at I;subst I;exact⟨g.z0,g3⟩)
   cases hx:yF E ps ks (setK p.1 ⟨some m,y,⟨#[]⟩⟩ own) t with
   |error d=>rw[hx]at T;exact T
   |ok r =>
    obtain⟨l,s'⟩:=r;rw[hx]at T;obtain⟨L,a1,a2,a3,a4,a5,a6⟩:=T;exact⟨L,a1,a2,a3,a4,a5,zOm⟩
theorem qcC{ts:TS}{env:IEnv}{sc:List Sb}{nm:ByteArray}{body:Bool}{s:ISt}(l:zl env)(h:ScOf ts body sc env) :
  ScOf ts body (renR ts es sc nm body s).1.1 (renI ts es env nm body s).1.1/\(renR ts es sc nm body s).1.2=(renI ts es env nm body s).1.2/\(renR ts es sc nm body s).2=(renI ts es env nm body s).2:=by
 unfold renR renI;by_cases g:body=true\/means ts nm≠[]
 .rw [if_pos g,if_pos g]
  refine⟨⟨fun x=>?_,fun i x v hx=>?_,fun e j=>?_⟩,rfl,rfl⟩
  .simp only
   rw[UG,jB,uW l.nd,h.look];by_cases e:nm=x
   .rw [if_pos e,if_pos e.symm]
   .rw [if_neg e,if_neg fun y=>e y.symm,if_neg fun y=>e y.symm]
  .simp only at hx
   rw[jB,uW l.nd]at hx;by_cases e:x=nm
   .rw [e]
    rcases g with g|g
    .rw [g]at i;cases i
    .exact g
   .rw [if_neg e,if_neg e]at hx
    exact h.own i x v hx
  .rcases qM.1 j with j|j
   .exact h.sz e j
   .rw [qL]at j;subst j;exact⟨zSp,zSp⟩
 .rw [if_neg g,if_neg g]
  refine⟨⟨fun x=>?_,fun i x v hx=>?_,h.sz⟩,rfl,rfl⟩
  .simp only
   rw[uW l.nd,h.look];by_cases e:x=nm
   .rw [if_pos e]
    cases hg:getK x env with
    |none=>rfl
    |some v =>
     have i:body=false:=by cases body<;>simp_all
     exact absurd (h.own i x v hg) (by rw[e];exact fun y=>g (.inr y))
   .rw [if_neg e]
  .simp only at hx
   rw[uW l.nd]at hx;split at hx
   .cases hx
   .exact h.own i x v hx
theorem qcD{ts:TS}(I:Free ts es){f:Nat}{body:Bool}{E:IEnv->Nd->ISt->XR (Nd×Int)}{E':List Sb->Nd->ISt->XO}{bin:Bool}:∀(ks:List Nd) (i:Nat) (env:IEnv) (sc:List Sb) (nm:ByteArray) (s:ISt),
  (∀ k,k∈ks->∀ env sc s,StOk (ql ts es) s->4000<s.cost+(f:Int)->zl env->ScOf ts body sc env->OutR (E env k s) (E' sc k s).1 (E' sc k s).2.1 (E' sc k s).2.2) ->
  (∀ env k n' z s s',k∈ks->StOk (ql ts es) s->zl env->E env k s = .ok ((n',z),s')->Gos (ql ts es) s s' z) ->
  0<=s.last->0<=s.cost->s.cost<=4000->dueN (ql ts es) bin i<=pot (ql ts es) s->4000<s.cost+(f:Int)->zl env->ScOf ts body sc env ->
  match ya E (fun env nm s=>renI ts es env nm body s) bin i env nm ks s with
  | .error _=>∃ t,ud E' (fun sc nm s=>renR ts es sc nm body s) bin i sc nm ks s = .error t/\4000<t.cost/\t.cost<=9000
  | .ok r=>ud E' (fun sc nm s=>renR ts es sc nm body s) bin i sc nm ks s = .ok r
 | [],i,env,sc,nm,s,_,_,_,_,_,_,_,_,_=>by simp only[ya,ud]
 |k :: ks,i,env,sc,nm,s,hE,hG,l0,c0,c1,hp,hf,U,J=>by
  simp only[ya,ud];obtain⟨r,P⟩:∃ r,(if bin=true/\i=1 then renI ts es env nm body s else ((env,nm),s))=r:=⟨_,rfl⟩;obtain⟨l,j⟩:∃ l,(if bin=true/\i=1 then renR ts es sc nm body s else ((sc,nm),s))=l:=⟨_,rfl⟩;have hR:ScOf ts body l.1.1 r.1.1/\l.1.2=r.1.2/\l.2=r.2/\zl r.1.1/\StOk (ql ts es) r.2/\r.2.cost=s.cost/\dueN (ql ts es) bin (i+1)<=pot (ql ts es) r.2:=by
   by_cases hb:bin=true/\i=1
   .rw [if_pos hb]at P j
    subst P;subst j;obtain⟨a1,a2,a3⟩:=qcC (es:=es) (nm:=nm) (s:=s) U J;have a4:=Yi (ts:=ts) (es:=es) (nm:=nm) (body:=body) (s:=s) U;obtain⟨b1,b2,R⟩:=Yj (body:=body) (nm:=nm) (env:=env) I l0;have hd:dueN (ql ts es) bin i=(ql ts es:Int):=by unfold dueN;rw[if_pos ⟨hb.1,zOm⟩]
    have a0:dueN (ql ts es) bin (i+1)=0:=by unfold dueN;rw[if_neg zOm]
    rw[hd]at hp;have o:0<=pot (ql ts es) (renI ts es env nm body s).2:=by
     unfold pot at hp⊢;rw[R];omega
    exact⟨a1,a2,a3,a4,⟨b1,by rw[R];exact c0,by rw[R];exact c1,o⟩,R,by rw[a0];exact o⟩
   .rw [if_neg hb]at P j
    subst P;subst j;have hd:dueN (ql ts es) bin (i+1)<=dueN (ql ts es) bin i:=by
     unfold dueN;split
     .rename_i h
      rw[if_pos ⟨h.1,zOm⟩];exact j9 _
     .split<;>omega
    have a5:0<=dueN (ql ts es) bin i:=by unfold dueN;split<;>omega
    exact⟨J,rfl,rfl,U,⟨l0,c0,c1,by show 0<=pot (ql ts es) s;omega⟩,rfl,by show _<=pot (ql ts es) s;omega⟩
  rw[P,j];obtain⟨q1,q2,q3,q4,q5,q6,q7⟩:=hR;rw[q2,q3];have C:=hE k (q8 ..) r.1.1 l.1.1 r.2 q5 zOm q4 q1;have h2:=fun n' z s'=>hG r.1.1 k n' z r.2 s' (q8 ..) q5 q4
  generalize E' l.1.1 k r.2=Q at *
  cases hq:E r.1.1 k r.2 with
  |error d =>
   rw[hq]at C;simp only;rw[if_pos C.1];exact⟨_,rfl,C.1,C.2.1⟩
  |ok x =>
   obtain⟨⟨m,y⟩,t⟩:=x;rw[hq]at C;obtain⟨e1,e2,e3⟩:=C;have g:=h2 m y t hq;obtain⟨g1,g2,g3⟩:=US g q5;have hc:=g.c1;have a6:=g.p;simp only;rw[if_neg (by rw[e3];omega),e1,e2,e3];have T:=qcD I (f:=f) (body:=body) (E:=E) (E':=E') (bin:=bin) ks (i+1) r.1.1 l.1.1 r.1.2 t (fun k hk=>hE k (qY _ hk)) (fun env k n' z s s' hk=>hG env k n' z s s' (qY _ hk)) g1.l0 g1.c0 g1.c1 zOm zOm q4 q1;cases hx:ya E (fun env nm s=>renI ts es env nm body s) bin (i+1) r.1.1 r.1.2 ks t with
   |error d =>
    rw[hx]at T;obtain⟨t',a1,a2,a3⟩:=T;rw[a1];exact⟨t',rfl,a2,a3⟩
   |ok x =>
    obtain⟨⟨a7,a8,m'⟩,a9⟩:=x;rw[hx]at T;rw[T]
theorem Yw(ts:TS)(es:List (ByteArray×Bool))(i:Free ts es)(hb:∀ p,p∈ts.preds->WfN p.body/\yG ts p.body):∀(f:Nat) (env:IEnv) (sc:List Sb) (n:Nd) (body:Bool) (s:ISt),
  4000<s.cost+(f:Int)->StOk (ql ts es) s->zl env->WfN n->yG ts n->ScOf ts body sc env->OutR (expI ts es f env n body s) (expR ts es f sc n body s).1 (expR ts es f sc n body s).2.1 (expR ts es f sc n body s).2.2
 | 0,env,sc,n,body,s,hf,g,_,_,_,_=>zW1 g.c1
 |f+1,env,sc,n,body,s,hf,g,o,hw,C,l=>by
  have a8:=g.c0;have a9:=g.c1;have I:(payS 1 s).cost=s.cost+1:=rfl;simp only[expI,expR];by_cases J:s.cost+1<=4000
  case neg =>
   rw[if_neg J,if_neg J];exact⟨by rw[I];omega,by rw[I];omega,zSp,zSp⟩
  rw[if_pos J,if_pos J];have r:=(we g (n:=1) zOm J).ok g;by_cases h1:n.op=1
  .rw [if_pos h1,if_pos h1]
   unfold Qd j0;rw[l.look];cases hg:getK n.name env with
   |none=>exact⟨rfl,rfl,rfl⟩
   |some v =>
    have hv:=o.sz _ ((Ql o.nd).1 hg);have hv:0<=v.size/\v.size<=4000:=hv;simp only;cases P:v.arg with
    |none=>exact⟨rfl,rfl,rfl⟩
    |some a =>
     simp only;have e2:(payS v.size (payS 1 s)).cost=(payS 1 s).cost+v.size:=rfl;by_cases R:(payS 1 s).cost+v.size<=4000
     .rw [if_pos R];exact⟨rfl,rfl,rfl⟩
     .rw [if_neg R]
      exact⟨by rw[e2];omega,by rw[e2];omega,hv.1,hv.2⟩
  rw[if_neg h1,if_neg h1];by_cases h47:n.op=47
  .rw [if_pos h47,if_pos h47]
   obtain⟨p,T,a7⟩:=C n (jQ n) h47;have a0:=List.mem_of_find?_eq_some T;rw[T];simp only;have P:=qcB (F:=ql ts es) (f:=f) (E:=fun k s=>expI ts es f env k body s) (E':=fun k s=>expR ts es f sc k body s) p.params n.kids [] [] (payS 1 s)
    (fun k j s g hf=>Yw ts es i hb f env sc k body s hf g o (hw.kid j) (C.kid j) l)
    (fun k n' z s s' j g e=>yZ ts i f g o e) r (by rw[I];omega) .nil (fun nm=>rfl) (fun e hm=>absurd hm qE)
   cases hx:yF (fun k s=>expI ts es f env k body s) p.params n.kids [] (payS 1 s) with
   |error d =>
    rw[hx]at P;obtain⟨t,U,a2,a3⟩:=P;rw[U];exact⟨a2,a3,zSp,zSp⟩
   |ok x =>
    obtain⟨own,s'⟩:=x;rw[hx]at P;obtain⟨L,U,a2,a3,a4,a5,a6⟩:=P;rw[U];obtain⟨b1,b2⟩:=hb p a0;exact Yw ts es i hb f own L p.body true s' (by rw[I]at a6;omega) a5 a2 b1 b2 ⟨a3,fun h=>absurd h zSp,a4⟩
  .rw [if_neg h47,if_neg h47]
   have j:=qcD i (f:=f) (body:=body) (E:=fun env k s=>expI ts es f env k body s) (E':=fun sc k s=>expR ts es f sc k body s) (bin:=binB n.op) n.kids 0 env sc n.name (payS 1 s)
    (fun k j env sc s g hf o l=>Yw ts es i hb f env sc k body s hf g o (hw.kid j) (C.kid j) l)
    (fun env k n' z s s' j g o e=>yZ ts i f g o e) r.l0 r.c0 r.c1 (by
     rw[Qy];have:=g.p;unfold dueN;split<;>omega) (by rw[I];omega) o l
   cases hx:ya (fun env k s=>expI ts es f env k body s) (fun env nm s=>renI ts es env nm body s) (binB n.op) 0 env n.name n.kids (payS 1 s) with
   |error d =>
    rw[hx]at j;obtain⟨t,U,a2,a3⟩:=j;rw[U];exact⟨a2,a3,zSp,zSp⟩
   |ok x =>
    obtain⟨⟨nm,ks,m⟩,s'⟩:=x;rw[hx]at j;rw[j];exact⟨rfl,rfl,rfl⟩
end
end QY
namespace QZ
open YF Y9 Y10 Y1 YX YB YC P1 P2 PA QE QI QS QT QX QY
section
variable {mu:Mu}
abbrev eXO(ts:TS)(l:List ByteArray)(q:XO):AV := .tup [eWk ts l q.1,eNd q.2.1,aI q.2.2]
theorem UT(x:Sb):∀ c,c∈cSb x->HF c:=fun c g=>by
 rcases qM.1 g with g|g
 .rcases qM.1 g with g|g
  .simp only[qt,qE,or_false]at g
   rcases g with rfl|rfl|rfl<;>exact HF.sc _
  .exact qnO _ c g
 .rw [qL]at g;subst g;exact HF.sc _
theorem qoL(x:Sb):(cSb x).length=9:=by simp[qnN]
theorem Yx(l:List Sb):zy 9 (l.map cSb):=fun r g=>by
 obtain⟨x,_,rfl⟩:=qr.1 g;refine⟨qoL x,?_⟩;obtain⟨nm,⟨a,z,w⟩⟩:=x;cases a<;>simp[yQ,go_sem]
theorem qcE(l:List Sb):HF (lSb l):=HF.lst fun r g c i=>by
 obtain⟨x,_,rfl⟩:=qr.1 g;exact UT x c i
theorem wkX(ts:TS)(l:List ByteArray)(s:ISt)(sc:List Sb)(n:Nd)(b:Bool):WKs [eWk ts l s,lSb sc,eNd n,aB b] [eWk ts l s,lSb sc,eNd n,aB b] := .zk (wo ts l s) (.zk (qcE sc) (.zk (qz n) (.zs .nil)))
theorem KZ(ts:TS)(l:List ByteArray)(q:XO):HF (eXO ts l q):=HF.tup fun x hx=>by
 simp only[qt,qE,or_false]at hx;rcases hx with rfl|rfl|rfl
 .exact wo ts l _
 .exact qz _
 .exact HF.sc _
structure Pre (ts:TS) (es:List (ByteArray×Bool)) (f:Nat) (env:IEnv) (sc:List Sb) (n:Nd) (body:Bool) (s:ISt):Prop where
 fu:4000<s.cost+(f:Int)
 st:StOk (ql ts es) s
 en:zl env
 wf:WfN n
 cl:yG ts n
 so:ScOf ts body sc env
 le:(sc.length:Int)<=s.cost+8
theorem rd0:Rd mu (.agg [aI 0,aS ⟨#[]⟩,aI 0,.lst true [],aI 0]) (eNd nd0) := .agg _ _ rfl fun k x y hx g=>by
 match k,hx,g with
 | 0,hx,g=>cases hx;cases g;exact .zsc _
 | 1,hx,g=>cases hx;cases g;exact .zsc _
 | 2,hx,g=>cases hx;cases g;exact .zsc _
 | 3,hx,g=>cases hx;cases g;exact .wk _ true _ (.hf _ (HF.lst fun r i=>absurd i qE))
 | 4,hx,g=>cases hx;cases g;exact .zsc _
 |k+5,hx,g=>cases hx
theorem rdZ(ts:TS)(l:List ByteArray)(s:ISt):Rd mu (.tup [eWk ts l s,.agg [aI 0,aS ⟨#[]⟩,aI 0,.lst true [],aI 0],aI 0]) (eXO ts l (s,nd0,0)) := .tup _ _ rfl fun k x y hx g=>by
 match k,hx,g with
 | 0,hx,g=>cases hx;cases g;exact .hf _ (wo ts l s)
 | 1,hx,g=>cases hx;cases g;exact rd0
 | 2,hx,g=>cases hx;cases g;exact .zsc _
 |k+3,hx,g=>cases hx
theorem qcF{lo:Nat}{s:AV}{xs:List Sb}{y:Sb}{K:AV->Mu->Prop}(g:OwnF lo mu 9 s (xs.map cSb))(r:xs.length<=100000)(o:∀ av mu',OwnF lo mu' 9 av ((xs++[y]).map cSb)->(∀ i,i<lo->mu'[i]?=mu[i]?)->K av mu') :
  qF qb mu #[269,269] s (.lst true [cSb y]) K:=by
 refine qF.ownF (lo:=lo) (e:=279) (sz:=9) (bt:=112) (zv := .agg [aS ⟨#[]⟩,aS ⟨#[]⟩,aB false,aI 0,aS ⟨#[]⟩,aI 0,.lst true [],aI 0,aI 0]) (xs:=xs.map cSb) (ys:=[cSb y]) zSi zSi zSi rfl rfl zOm zOm g (by simp[qO]) (Yx xs) (Yx [y]) zSo ?_;intro av mu' h p;exact o av mu' (by rw[zx];exact h) p
abbrev ExpW(ts:TS)(l:List ByteArray)(es:List (ByteArray×Bool))(f:Nat)(sc:List Sb)(n:Nd)(body:Bool)(s:ISt):Prop:=
 qd qb 136 [eWk ts l s,lSb sc,eNd n,aB body] (eXO ts l (expR ts es f sc n body s))
theorem expN(ts:TS)(l:List ByteArray)(es:List (ByteArray×Bool))(f:Nat)(env:IEnv)(sc:List Sb)(n:Nd)(body:Bool)(s:ISt)(p:Pre ts es (f+1) env sc n body s)(j:s.cost+1<=4000)(i:n.op=1):ExpW ts l es (f+1) sc n body s:=by
 have o:=p.st.c0;have I:=p.le;have r:=leafU ts l sc zOm n (payS 1 s) ⟨by show 0<=s.cost+1;omega,by show s.cost+1<=_;omega⟩ (fun e t=>zW1 (p.so.sz e t));unfold ExpW;simp only[expR];rw[if_pos j,if_pos i];have C:qj.wrap (s.cost+1)=s.cost+1:=qi zOm zOm;have g:¬ 4000<s.cost+1:=zOm;generalize Qd sc n (payS 1 s)=Q at *
 refine qd.of_sound (qe.of_awp call136 func136 rfl (qh zKr) zKr (pl:={ mt:=[4] }) ?_);simp[go_sem,C,g,i,qw];refine qc.pure r (.zk (wo ts l (payS 1 s)) (.zk (qcE sc) (.zk (qz n) .nil))) ?_;simp[go_sem,qw];exact .hf _ (KZ ts l (Q.2,Q.1.1,Q.1.2))
theorem expZ(ts:TS)(l:List ByteArray)(es:List (ByteArray×Bool))(f:Nat)(env:IEnv)(sc:List Sb)(n:Nd)(body:Bool)(s:ISt)(p:Pre ts es (f+1) env sc n body s)(i:¬s.cost+1<=4000):ExpW ts l es (f+1) sc n body s:=by
 have j:=p.st.c0;have o:=p.st.c1;unfold ExpW;simp only[expR];rw[if_neg i];have r:qj.wrap (s.cost+1)=s.cost+1:=qi zOm zOm;have g:4000<s.cost+1:=zOm;refine qd.of_sound (qe.of_awp call136 func136 rfl (qh zKr) zKr (pl:={ mt:=[4] }) ?_);simp[go_sem,r,g,qw];exact rdZ ts l (payS 1 s)
def repR(ts : TS)(es : List (ByteArray × Bool))(f : Nat)(sc : List Sb)(n : Nd)(body : Bool)(s : ISt)(p : Pd) : XO := match vL (fun k s => expR ts es f sc k body s) p.params n.kids [] s with
          | .error g=>(g,nd0,0)
          | .ok (own,g)=>expR ts es f own p.body true g
theorem expC(ts:TS)(l:List ByteArray)(es:List (ByteArray×Bool))(f:Nat)(env:IEnv)(sc:List Sb)(n:Nd)(body:Bool)(s:ISt)(p:Pre ts es (f+1) env sc n body s)(j:s.cost+1<=4000)(h47:n.op=47)(g:Pd)(hp:(ts.preds.find? fun p=>decide (p.name=n.name))=some g)
  (o:qd qb 210 [eWk ts l (payS 1 s),lSb sc,eNd n,aB body] (eXO ts l (repR ts es f sc n body (payS 1 s) g))):ExpW ts l es (f+1) sc n body s:=by
 have r:=p.st.c0;unfold ExpW;simp only[expR];rw[if_pos j,if_neg zOm,if_pos h47,hp];simp only;have t:qj.wrap (s.cost+1)=s.cost+1:=qi zOm zOm;have i:¬ 4000<s.cost+1:=zOm;show qd qb 136 [eWk ts l s,lSb sc,eNd n,aB body] (eXO ts l (repR ts es f sc n body (payS 1 s) g));generalize repR ts es f sc n body (payS 1 s) g=Q at *
 refine qd.of_sound (qe.of_awp call136 func136 rfl (qh zKr) zKr (pl:={ mt:=[4] }) ?_);simp[go_sem,t,i,h47,qw];refine qc.pure o (wkX ts l (payS 1 s) sc n body) ?_;simp[go_sem,qw];exact .hf _ (KZ ts l Q)
theorem replW(ts:TS)(h:okTS ts)(l:List ByteArray)(es:List (ByteArray×Bool))(ai:Free ts es)(hb:∀ p,p∈ts.preds->WfN p.body/\yG ts p.body)(f:Nat)(ih:∀ env sc n body s,Pre ts es f env sc n body s->ExpW ts l es f sc n body s)(env:IEnv)(sc:List Sb)(n:Nd)(body:Bool)(s:ISt)(p:Pre ts es f env sc n body s)(h47:n.op=47)
  (R:Pd) (hp:(ts.preds.find? fun p=>decide (p.name=n.name))=some R) (az:R.params.length=n.kids.length):qd qb 210 [eWk ts l s,lSb sc,eNd n,aB body] (eXO ts l (repR ts es f sc n body s R)):=by
 have a9:=List.mem_of_find?_eq_some hp;have b1:=(h.pl R a9).1;have b2:=h.np;obtain⟨i,hi,a3,aj⟩:∃ i,∃ hi:i<ts.preds.length,ts.preds[i]=R/\zn (ckR ts ts.preds.length) n.name=some i:=by
  cases hc:zn (ckR ts ts.preds.length) n.name with
  |none =>
   unfold zn at hc;rw[List.findIdx?_eq_none_iff]at hc;have:=hc R (by show R∈ts.preds.take ts.preds.length;rw[zw];exact a9);have h2:=List.find?_some hp;rw[h2]at this;cases this
  |some i =>
   obtain⟨h1,h2⟩:=wT (UD h (qm _)) hc;have h2:i<ts.preds.length:=h2;have h3:=PF.qbB hc h2;have h3:(ts.preds.find? fun p=>decide (p.name=n.name))=some ts.preds[i]:=h3;rw[hp]at h3;exact⟨i,h2,(Option.some.inj h3).symm,rfl⟩
 have cp:=JH (ckR ts ts.preds.length) (UD h (qm _)) n.name;rw[aj]at cp;have C:=Qo;have aa:¬(i:Int)<0:=zOm;obtain⟨E',hE⟩:∃ E':Nd->ISt->XO,E'=fun k s=>expR ts es f sc k body s:=⟨_,rfl⟩
 obtain⟨a7,a8⟩:∃ a7,a7=repR ts es f sc n body s R:=⟨_,rfl⟩;have an:∀ k,k∈n.kids->∀ o,StOk (ql ts es) o->s.cost<=o.cost->qd qb 136 [eWk ts l o,lSb sc,eNd k,aB body] (eXO ts l (E' k o)):=fun k hk o I aa=>by
  rw[hE];exact ih env sc k body o ⟨zW1 p.fu,I,p.en,p.wf.kid hk,p.cl.kid hk,p.so,zW1 p.le⟩
 have ao:∀ k,k∈n.kids->∀ o,StOk (ql ts es) o->s.cost<=o.cost->4000<(E' k o).1.cost\/(¬ 4000<(E' k o).1.cost/\Gos (ql ts es) o (E' k o).1 (E' k o).2.2):=fun k hk o I aa=>by
  have ho:=Yw ts es ai hb f env sc k body o (zW1 p.fu) I p.en (p.wf.kid hk) (p.cl.kid hk) p.so;have aq:E' k o=expR ts es f sc k body o:=by rw[hE]
  rw[aq];cases hx:expI ts es f env k body o with
  |error d=>rw[hx]at ho;exact .inl ho.1
  |ok r =>
   obtain⟨⟨m,y⟩,t⟩:=r;rw[hx]at ho;obtain⟨e1,e2,e3⟩:=ho;have g:=yZ ts ai f I p.en hx;rw[e2,e3];exact .inr ⟨zW1 g.c1,g⟩
 have ar:∀ t,vL E' R.params n.kids [] s = .error t->a7=(t,nd0,0):=fun t ht=>by
  rw[a8];unfold repR;rw[<-hE,ht]
 have au:∀ own t O,vL E' R.params n.kids [] s = .ok (own,t)->StOk (ql ts es) t->s.cost<=t.cost->zl O->(∀ nm,uF nm own=getK nm O)->(∀ e,e∈own->0<=e.2.size/\e.2.size<=4000)->own.length<=8->qd qb 136 [eWk ts l t,lSb own,eNd R.body,aB true] (eXO ts l a7):=fun own t O ht I aa hO ab ad h8=>by
  have e:a7=expR ts es f own R.body true t:=by rw[a8];unfold repR;rw[<-hE,ht]
  rw[e];have b3:=I.c0;exact ih O own R.body true t ⟨zW1 p.fu,I,hO,(hb R a9).1,(hb R a9).2,⟨ab,fun h=>absurd h zSp,ad⟩,zOm⟩
 rw[<-a8];have ak:=p.st;clear a8 hE ih;refine qd.of_sound (qe.of_awp call210 func210 rfl (qh zKr) zKr (pl:={ mt:=[4] }) ?_);simp[go_sem,qw];refine qc.pure cp (.zk (zA ts) (.zs (.zs .nil))) ?_;simp[go_sem,qw,idxO,aa];refine qn.upK n.kids.length (fun k U=>∃(o:ISt) (L:List Sb) (O:IEnv),U.tm 1=lSb sc/\U.tm 3=aB body/\U.tm 4 = .ptr 0 0/\U.tm 6 = .ip (cNd n)/\U.tm 8 = .ptr 1 0/\U.tm 9 = .ptr 2 0/\U.tm 12=aI i/\U.tm 14=aI k/\U.mu[0]?=some (.arr (cWk ts l o))/\U.mu[1]?=some (.arr zWk)/\U.mu[2]?=some (.arr [aI 0,aS ⟨#[]⟩,aI 0,.lst true [],aI 0])/\OwnF 3 U.mu 9 (U.tm 13) (L.map cSb)/\vL E' R.params n.kids [] s=vL E' (R.params.drop k) (n.kids.drop k) L o/\StOk (ql ts es) o/\s.cost<=o.cost/\zl O/\(∀ nm,uF nm L=getK nm O)/\(∀ e,e∈L->0<=e.2.size/\e.2.size<=4000)/\L.length=k) ?_ ?_
 .exact ⟨s,[],[],zSi,zSi,zSi,zSi,zSi,zSi,zSi,zSi,zSi,zSi,zSi,by simp[go_sem];exact OwnF.nil zSp,rfl,ak,j9 _,.nil,fun nm=>rfl,fun e he=>absurd he qE,rfl⟩
 rintro k U hk ⟨o,L,O,e1,e3,e4,e6,e8,e9,a2,a4,m0,m1,m2,ho,hI,I,ae,hO,ab,ad,aw⟩;generalize a5:U.tm 13=av at *
 obtain⟨rr,a0⟩:=KC m0 m1 m2;have b4:U.mu.length=rr.length+3:=by rw[a0];rfl
 have b0:n.kids.length<=8:=zOm;by_cases J:k<n.kids.length
 .have a6:k<R.params.length:=by omega
  have w1:qj.wrap ((k:Int)+1)=(k:Int)+1:=qi zOm zOm;rw[zt J,zt a6]at hI;simp only[vL]at hI;have x1:=an n.kids[k] (qy J) o I ae;have x2:=ao n.kids[k] (qy J) o I ae;generalize E' n.kids[k] o=q at *
  clear m0 m1 m2;simp[go_sem,e1,e3,e4,e6,e8,e9,a2,a4,a5,a0,J,a6,hi,a3,C,qw];refine qg.seg [0,1,2,3,4,5,6,7,8,9,10,11,12,17,13,14,15,16] [(0,0,[]),(1,0,[]),(2,0,[]),(3,0,[]),(4,0,[]),(5,0,[]),(6,0,[]),(7,0,[]),(8,1,[]),(9,0,[]),(10,0,[]),(11,0,[]),(12,0,[]),(17,0,[]),(13,2,[0,3,6]),(14,2,[0,3,6]),(15,1,[]),(16,1,[])] zKr zKr zSi ?_;simp[go_sem,e1,e3,e4,e6,e8,e9,a2,a4,a5,a0,J,a6,hi,a3,C,qw];refine qc.pure x1 (wkX ts l o sc n.kids[k] body) ?_;simp[go_sem,e1,e3,e4,e6,e8,e9,a2,a4,a5,a0,J,a6,hi,a3,C,qw];by_cases a1:4000<q.1.cost
  .have ax:a7=(q.1,nd0,0):=ar _ (by rw[hI,if_pos a1])
   simp[go_sem,e1,e3,e4,e6,e8,e9,a2,a4,a5,a0,J,a6,hi,a3,C,qw,a1];rw[ax];exact rdZ ts l q.1
  .rcases x2 with x2|⟨_,g⟩
   .exact absurd x2 a1
   rw[if_neg a1]at hI;simp[go_sem,e1,e3,e4,e6,e8,e9,a2,a4,a5,a0,J,a6,hi,a3,C,qw,a1];refine qg.intro zKr ?_;simp[go_sem,e1,e3,e4,e6,e8,e9,a2,a4,a5,a0,J,a6,hi,a3,C,qw,a1];obtain⟨g1,g2,g3⟩:=US g I;have gz:=g.z0;have hy:(AV.sc (.string R.params[k].1) :: AV.sc (.string ⟨#[]⟩) :: AV.sc (.bool true) :: (cNd q.2.1++[AV.sc (.int .i64 q.2.2)]))=cSb (R.params[k].1,⟨some q.2.1,q.2.2,⟨#[]⟩⟩):=zSi;rw[hy];generalize af:(R.params[k].1,(⟨some q.2.1,q.2.2,⟨#[]⟩⟩:IV))=en at *
   refine qcF (lo:=3) (xs:=L) (y:=en) ?_ zOm ?_
   .have h1:OwnF 3 (U.mu++[Cell.arr (cWk ts l q.1),Cell.arr (cNd q.2.1)]) 9 av (L.map cSb):=YD.Qz ho zSo fun i _ hi=>qo hi
    rw[a0]at h1;have h2:=OwnF.set (i:=0) (c:=Cell.arr (cWk ts l q.1)) h1 zOm;simpa using h2
   intro b5 b6 ag ah;have n0:=ah 0 zOm;have n1:=ah 1 zOm;have n2:=ah 2 zOm;simp at n0 n1 n2;obtain⟨r2,al⟩:=KC n0 n1 n2;simp[go_sem,e1,e3,e4,e6,e8,e9,a2,a4,a5,al,J,a6,hi,a3,C,qw,a1,w1];refine Keep.mk' ⟨q.1,L++[en],setK en.1 en.2 O,zS1 e1,zS1 e3,zS1 e4,zS1 e6,zS1 e8,zS1 e9,zS1 a2,zSi,zSi,zSi,zSi,?_,?_,g1,?_,?_,?_,?_,?_⟩
   .have h2:=OwnF.set (i:=0) (c:=Cell.arr (cWk ts l q.1)) ag zOm
    simp[go_sem];rw[al]at ag;simpa using ag
   .rw [hI,<-af]
   .omega
   .rw [<-af];exact hO.set ⟨gz,g3⟩
   .intro nm
    rw[UG,jB,ab];by_cases e:en.1=nm
    .rw [if_pos e,if_pos e.symm]
    .rw [if_neg e,if_neg fun x=>e x.symm]
   .intro e he
    rcases qM.1 he with he|he
    .exact ad e he
    .rw [qL]at he;subst he;rw[<-af];exact⟨gz,g3⟩
   .simp [aw]
 .simp [go_sem,e1,e3,e4,e6,e8,e9,a2,a4,a5,a0,J,hi,a3,C,qw]
  refine qg.seg [0,1,2,3,4,5,6,7,8,9,10,11,12,15,13,14] [(0,0,[]),(1,0,[]),(2,0,[]),(3,0,[]),(4,0,[]),(5,0,[]),(6,0,[]),(7,0,[]),(8,0,[]),(9,1,[]),(10,0,[]),(11,0,[]),(12,0,[]),(15,0,[]),(13,1,[]),(14,1,[])] zKr zKr zSi ?_;simp[go_sem,e1,e3,e4,e6,e8,e9,a2,a4,a5,a0,J,hi,a3,C,qw];refine qc.eff0 (qe.freeze (args1:=[eWk ts l o,lSb L,eNd R.body,aB true]) (fun j=>decide (3<=j)) ⟨.inl rfl,.inr ?_,.inl rfl,.inl rfl,trivial⟩ (qd.toSound _ (au L o O ?_ I ae hO ab ad zOm) (wkX ts l o L R.body true))) ?_ ?_
  .have h1:=Y13.XL ho (Yx L).ok fun r hr c hc=>by
    obtain⟨x,_,rfl⟩:=qr.1 hr;exact UT x c hc
   rw[a0]at h1;exact h1
  .rw [hI,J1 zOm,J1 zOm];rfl
  .rintro r m ⟨hv,rfl⟩
   cases hv;simp[go_sem,cutM,qw,e1,e3,e4,e6,e8,e9];exact .hf _ (KZ ts l a7)
  .rintro r m ⟨hv,rfl⟩
   cases hv
end
end QZ
end Go.Proofs.YtpagnklaanbmbaaGreatDoor
namespace Go.Ev
theorem awp.cut{P:j1}{pl:Pol}{l j g C:Code}{i:Nat}{Q:qX->St->Prop}{st:St}(J:St->Prop)
  (h:awp P pl l (seqQ (awp P pl j (seqQ (Keep J .mk) (vB i (seqQ (awp P pl C Q) Q)))) Q) st)
  (o:∀ st,J st->awp P pl g (vB i (seqQ (awp P pl C Q) Q)) st):awp P pl (.seq l (.seq (.block i (.seq j g)) C)) Q st:=by
 refine awp.mono l (Q:=seqQ (awp P pl j (seqQ (Keep J .mk) (vB i (seqQ (awp P pl C Q) Q)))) Q) h (fun e st h=>?_);cases e with
 |normal =>
  refine awp.mono j (Q:=seqQ (Keep J .mk) (vB i (seqQ (awp P pl C Q) Q))) h (fun e st h=>?_);cases e with
  |normal=>exact o st h
  |exit i=>exact h
  |ret=>exact h
  |pan v=>exact h
 |exit i=>exact h
 |ret=>exact h
 |pan v=>exact h
theorem qoM{K:St->Prop}(J:St->Prop){st:St}(h:FzQ (fun _=>J) (.exit 0) st)(k:∀ st2,J st2->K st2):FzQ (fun _ st=>K st) (.exit 0) st:=by
 obtain⟨g,f,q,j⟩:=h;exact⟨g,f,q,k _ j⟩
end Go.Ev
namespace Go.Proofs.YtpagnklaanbmbaaGreatDoor
set_option maxHeartbeats 1000000
open Go Go.Ev Go.Proofs Tryz
namespace RA
open YF Y9 Y10 Y1 YX YA YB YC P1 P2 PA QD QE QK QX QY QZ
section
variable {av:AV}{es:List (ByteArray×Bool)}{l:List ByteArray}
theorem four{J:Type}{l:List J}{a b c d:J}(g:l[0]?=some a)(i:l[1]?=some b)(j:l[2]?=some c)(o:l[3]?=some d):∃ r,l=a :: b :: c :: d :: r:=by
 match l,g,i,j,o with
 |_ :: _ :: _ :: _ :: r,g,i,j,o =>
  simp at g i j o;exact⟨r,by rw[g,i,j,o]⟩
def resK(n:Nd)(acc:List Nd)(z:Int):Except ISt ((ByteArray×List Nd×Int)×ISt)->XO
 | .error s=>(s,nd0,0)
 | .ok ((nm,ks,m),s)=>(s,.mk n.op nm n.n (acc++ks) n.pos,z+m)
structure AtK (ts:TS) (l:List ByteArray) (es:List (ByteArray×Bool)) (n:Nd) (body:Bool) (s:ISt) (k:Nat) (sc2:List Sb) (env2:IEnv) (nm2:ByteArray) (s3:ISt) (acc:List Nd) (av:AV) (z:Int) (st:St):Prop where
 e3:st.tm 3=aB body
 e4:st.tm 4 = .ptr 0 0
 e6:st.tm 6 = .ip (cNd n)
 e8:st.tm 8 = .ptr 1 0
 e9:st.tm 9 = .ptr 2 0
 e11:st.tm 11 = .ptr 3 0
 e12:st.tm 12=aI z
 e13:st.tm 13=aI k
 m0:st.mu[0]?=some (.arr (cWk ts l s3))
 m1:st.mu[1]?=some (.arr zWk)
 m2:st.mu[2]?=some (.arr [aI 0,aS ⟨#[]⟩,aI 0,.lst true [],aI 0])
 m3:st.mu[3]?=some (.arr [aI n.op,aS nm2,aI n.n,av,aI n.pos])
 ho:OwnF 4 st.mu 5 av (acc.map cNd)
 so:ScOf ts body sc2 env2
 en:zl env2
 al:acc.length=k
 l0:0<=s3.last
 c0:s.cost+1<=s3.cost
 c1:s3.cost<=4000
 z1:0<=z
 z2:z<=1+4000*(k:Int)
theorem AtK.same{ts:TS}{n:Nd}{body:Bool}{s:ISt}{k:Nat}{j:List Sb}{i:IEnv}{o:ByteArray}{C:ISt}{acc:List Nd}{z:Int}{st g:St}(A:AtK ts l es n body s k j i o C acc av z st)
  (I:g.tm 3=aB body) (J:g.tm 4 = .ptr 0 0) (P:g.tm 6 = .ip (cNd n)) (R:g.tm 8 = .ptr 1 0) (T:g.tm 9 = .ptr 2 0) (p:g.tm 11 = .ptr 3 0) (r:g.tm 12=aI z) (t:g.tm 13=aI k) (em:g.mu=st.mu):AtK ts l es n body s k j i o C acc av z g:=
 ⟨I,J,P,R,T,p,r,t,by rw[em];exact A.m0,by rw[em];exact A.m1,by rw[em];exact A.m2,by rw[em];exact A.m3,by rw[em];exact A.ho,A.so,A.en,A.al,A.l0,A.c0,A.c1,A.z1,A.z2⟩
theorem qcG{g lo sz:Nat}{mu mu':Mu}{xs:List (List AV)}(h:OwnF g mu sz av xs)(i:∀ b s o q,av = .sl b s o q->b<lo)(p:g<=mu'.length)(r:∀ j,g<=j->j<lo->mu'[j]?=mu[j]?):OwnF g mu' sz av xs:=by
 obtain⟨t,l,_⟩:=h;refine⟨?_,l,p⟩;rcases t with rfl|⟨b,rfl,C⟩
 .exact .inl rfl
 .exact .inr ⟨b,rfl,by rw[r b (l b _ _ _ rfl) (i b _ _ _ rfl)];exact C⟩
theorem AtK.keep{ts:TS}{n:Nd}{body:Bool}{s:ISt}{k:Nat}{p:List Sb}{i:IEnv}{r:ByteArray}{R:ISt}{acc:List Nd}{z:Int}{st g:St}(A:AtK ts l es n body s k p i r R acc av z st)
  (T:g.tm 3=aB body) (U:g.tm 4 = .ptr 0 0) (e6:g.tm 6 = .ip (cNd n)) (e8:g.tm 8 = .ptr 1 0) (e9:g.tm 9 = .ptr 2 0) (C:g.tm 11 = .ptr 3 0) (I:g.tm 12=aI z) (J:g.tm 13=aI k) (lo:Nat) (h4:4<=lo) (P:∀ b s o q,av = .sl b s o q->b<lo) (hl:4<=g.mu.length) (t:∀ j,j<lo->g.mu[j]?=st.mu[j]?):AtK ts l es n body s k p i r R acc av z g:=
 ⟨T,U,e6,e8,e9,C,I,J,by rw[t 0 zOm];exact A.m0,by rw[t 1 zOm];exact A.m1,by rw[t 2 zOm];exact A.m2,by rw[t 3 zOm];exact A.m3,qcG A.ho P hl (fun j _=>t j),A.so,A.en,A.al,A.l0,A.c0,A.c1,A.z1,A.z2⟩
theorem qoN{mu:Mu}{lo:Nat}{s x:AV}{xs ys:List Sb}{K:AV->Mu->Prop}(g:OwnF lo mu 9 s (xs.map cSb))(hx:qO mu x=some (ys.map cSb))(p:xs.length+ys.length<=100000)(j:∀ av mu',OwnF lo mu' 9 av ((xs++ys).map cSb)->(∀ i,i<lo->mu'[i]?=mu[i]?)->K av mu') :
  qF qb mu #[269,269] s x K:=by
 refine qF.ownF (lo:=lo) (e:=279) (sz:=9) (bt:=112) (zv := .agg [aS ⟨#[]⟩,aS ⟨#[]⟩,aB false,aI 0,aS ⟨#[]⟩,aI 0,.lst true [],aI 0,aI 0]) (xs:=xs.map cSb) (ys:=ys.map cSb) zSi zSi zSi rfl rfl zOm zOm g hx (Yx xs) (Yx ys) zSo ?_;intro av mu' h o;exact j av mu' (by rw[zx];exact h) o
theorem expK(ts:TS)(h:okTS ts)(l:List ByteArray)(es:List (ByteArray×Bool))(t:Tn l es)(hl:l.length<=400000)(hF:ql ts es<=200000)(b6:Free ts es)(hb:∀ p,p∈ts.preds->WfN p.body/\yG ts p.body)(f:Nat)(ih:∀ env sc n body s,Pre ts es f env sc n body s->ExpW ts l es f sc n body s)
  (env:IEnv) (sc:List Sb) (n:Nd) (body:Bool) (s:ISt) (p:Pre ts es (f+1) env sc n body s) (hc:s.cost+1<=4000) (h1:¬n.op=1) (h47:¬n.op=47):ExpW ts l es (f+1) sc n body s:=by
 have dj:=p.st.c0;have dk:=p.st.c1;have dm:=p.wf.len;obtain⟨E',hE⟩:∃ E':List Sb->Nd->ISt->XO,E'=fun sc k s=>expR ts es f sc k body s:=⟨_,rfl⟩
 obtain⟨R',bi⟩:∃ R':List Sb->ByteArray->ISt->(List Sb×ByteArray)×ISt,R'=fun sc nm s=>renR ts es sc nm body s:=⟨_,rfl⟩
 have bj:∀ k,k∈n.kids->∀ a0 I sk,StOk (ql ts es) sk->s.cost+1<=sk.cost->zl a0->ScOf ts body I a0->(I.length:Int)<=sk.cost+8->qd qb 136 [eWk ts l sk,lSb I,eNd k,aB body] (eXO ts l (E' I k sk)):=fun k hk a0 I sk b7 ck b8 bk bl=>by
  rw[hE];exact ih a0 I k body sk ⟨zW1 p.fu,b7,b8,p.wf.kid hk,p.cl.kid hk,bk,bl⟩
 have bm:∀ k,k∈n.kids->∀ a0 I sk,StOk (ql ts es) sk->s.cost+1<=sk.cost->zl a0->ScOf ts body I a0->4000<(E' I k sk).1.cost\/(¬ 4000<(E' I k sk).1.cost/\Gos (ql ts es) sk (E' I k sk).1 (E' I k sk).2.2):=fun k hk a0 I sk b7 ck b8 bk=>by
  have ho:=Yw ts es b6 hb f a0 I k body sk (zW1 p.fu) b7 b8 (p.wf.kid hk) (p.cl.kid hk) bk;have cm:E' I k sk=expR ts es f I k body sk:=by rw[hE]
  rw[cm];cases hx:expI ts es f a0 k body sk with
  |error d=>rw[hx]at ho;exact .inl ho.1
  |ok r =>
   obtain⟨⟨m,y⟩,t⟩:=r;rw[hx]at ho;obtain⟨e1,e2,e3⟩:=ho;have g:=yZ ts b6 f b7 b8 hx;rw[e2,e3];exact .inr ⟨zW1 g.c1,g⟩
 obtain⟨az,bc⟩:∃ az,az=resK n [] 1 (ud E' R' (binB n.op) 0 sc n.name n.kids (payS 1 s)):=⟨_,rfl⟩;have be:expR ts es (f+1) sc n body s=az:=by
  simp only[expR];rw[if_pos hc,if_neg h1,if_neg h47,bc,hE,bi];cases ud (fun sc k s=>expR ts es f sc k body s) (fun sc nm s=>renR ts es sc nm body s) (binB n.op) 0 sc n.name n.kids (payS 1 s) with
  |error e=>rfl
  |ok r=>rfl
 unfold ExpW;rw[be];clear hE be ih;have bg:StOk (ql ts es) (payS 1 s):=(we p.st zOm hc).ok p.st;have w1:qj.wrap (s.cost+1)=s.cost+1:=qi zOm zOm;have bl:¬ 4000<s.cost+1:=zOm;have cp:=yQ n;refine qd.of_sound (qe.of_awp call136 func136 rfl (qh zKr) zKr (pl:={ mt:=[4] }) ?_);simp[go_sem,w1,bl,h1,h47,cp];refine qn.upK n.kids.length (fun k U=>∃(full:Bool) (I:List Sb) (a0:IEnv) (ab:ByteArray) (s2:ISt) (af:List Nd) (av:AV) (z:Int),U.tm 1 = .lst full (I.map cSb)/\AtK ts l es n body s k I a0 ab s2 af av z U/\(I.length:Int)+(if k<=1 then 1 else 0)<=s2.cost+8/\dueN (ql ts es) (binB n.op) k<=pot (ql ts es) s2/\(k<=1->ab=n.name)/\resK n af z (ud E' R' (binB n.op) k I ab (n.kids.drop k) s2)=az) ?_ ?_
 .refine ⟨false,sc,env,n.name,payS 1 s,[],.lst true [],1,zSi,⟨zSi,zSi,by simp[go_sem,yQ n],zSi,zSi,zSi,zSi,zSi,by simp[go_sem];exact⟨rfl,rfl⟩,zSi,zSi,zSi,by simp[go_sem];exact OwnF.nil zSp,p.so,p.en,rfl,bg.l0,by show _<=s.cost+1;omega,bg.c1,zOm,zOm⟩,by show _<=s.cost+1+8;have:=p.le;simp;omega,?_,fun _=>rfl,bc.symm⟩
  rw[Qy];have:=p.st.p;unfold dueN;split<;>omega
 .rintro k U hk ⟨full,I,a0,ab,s2,af,av,z,J,A,ah,aq,b9,hI⟩
  obtain⟨rr,a5⟩:=four A.m0 A.m1 A.m2 A.m3;have e3:=A.e3;have e4:=A.e4;have e6:=A.e6;have e8:=A.e8;have e9:=A.e9;have a6:=A.e11;have a7:=A.e12;have a8:=A.e13;have ak:=A.ho.one;have an:=A.ho.cells;by_cases a9:k<n.kids.length
  .have w2:qj.wrap ((k:Int)+1)=(k:Int)+1:=qi zOm zOm
   rw[zt a9]at hI;simp only[ud]at hI;refine awp.cut (fun U=>∃(full:Bool) (P:Nat) (sl:AV) (ae:List Sb) (ai:IEnv) (aw:ByteArray) (s3:ISt) (av:AV),(if binB n.op=true/\k=1 then R' I ab s2 else ((I,ab),s2))=((ae,aw),s3)/\U.tm 1=sl/\(sl = .lst full (ae.map cSb)\/(OwnF P U.mu 9 sl (ae.map cSb)/\(∀ b s o q,av = .sl b s o q->b<P)/\4<=P))/\AtK ts l es n body s k ae ai aw s3 af av z U/\(ae.length:Int)+(if k+1<=1 then 1 else 0)<=s3.cost+8/\dueN (ql ts es) (binB n.op) (k+1)<=pot (ql ts es) s3/\(k+1<=1->aw=n.name)) ?_ ?_
   .clear bj bm
    by_cases au:k=1
    .subst au
     have bh:=b9 (qm _);have dh:U.mu.length=rr.length+4:=by rw[a5];rfl
     have b4:∀ b s o q,av = .sl b s o q->b<rr.length+4:=fun b s o q e=>by
      rcases A.ho.1 with h|⟨c,h,hc⟩
      .rw [h]at e;cases e
      .rw [h]at e;cases e;have:=(List.getElem?_eq_some_iff.1 hc).1;omega
     have ad:(1:Int)<n.kids.length:=zOm;have cq:=A.c0;have bb:=A.l0;have cr:=A.c1;by_cases ao:binB n.op=true
     .have aa:n.op=15\/n.op=45\/n.op=46:=by simpa[binB,or_assoc] using ao
      have dn:=h.ns;have dp:=h.nf;have dq:ql ts es<=l.length+40:=by have:=t.len;unfold ql;omega
      have cs:okNm ts:=⟨h.sl,zOm,zOm,fun f hf=>zW1 (h.fl f hf)⟩;have cn:=Kg ts cs n.name;have ay:=Kf ts n.name;have ct:(named ts n.name).2=(means ts n.name).length:=by rw[Kx h]
      rw[ct]at cn;generalize (named ts n.name).1=C at *
      have bv:StOk (ql ts es) s2:=⟨bb,zOm,cr,zW1 (ZG (ql ts es) (binB n.op) 1)⟩;have cu:=bv.last;have cf:=qnM ts h l es t hl s2 ⟨bb,zOm⟩ (b6 s2.last bb);by_cases ag:body=true\/means ts n.name≠[]
      .have hq:(if binB n.op=true/\1=1 then R' I ab s2 else ((I,ab),s2))=((I++[(n.name,⟨none,0,vN (zj ts es (ql ts es) s2.last)⟩)],vN (zj ts es (ql ts es) s2.last)),⟨zj ts es (ql ts es) s2.last,s2.cost⟩):=by
        rw[if_pos ⟨ao,rfl⟩,bi,bh];show renR ts es I n.name body s2=_;unfold renR;rw[if_pos ag]
       have cv:body=true\/(body=false/\0<(means ts n.name).length):=by
        cases body with
        |true=>exact .inl rfl
        |false=>exact .inr ⟨rfl,List.length_pos_iff.2 (ag.resolve_left zSp)⟩
       clear hI;have bw:renR ts es I n.name body s2=((I++[(n.name,⟨none,0,vN (zj ts es (ql ts es) s2.last)⟩)],vN (zj ts es (ql ts es) s2.last)),⟨zj ts es (ql ts es) s2.last,s2.cost⟩):=by
        unfold renR;rw[if_pos ag]
       obtain⟨a1,a2,a3⟩:=qcC (es:=es) (nm:=n.name) (s:=s2) A.en A.so;have a4:=Yi (ts:=ts) (es:=es) (nm:=n.name) (body:=body) (s:=s2) A.en;obtain⟨b1,b2,b3⟩:=Yj (body:=body) (nm:=n.name) (env:=a0) b6 bb;rw[bw]at a1 a3;rw[<-a3]at b1 b2;simp only at b1 b2 a1;have bn:dueN (ql ts es) (binB n.op) 1=(ql ts es:Int):=by unfold dueN;rw[if_pos ⟨ao,zOm⟩]
       have bo:dueN (ql ts es) (binB n.op) 2=0:=by unfold dueN;rw[if_neg zOm]
       rw[bn]at aq;unfold pot at aq;generalize (renI ts es a0 n.name body s2).1.1=ai at *
       clear a2 a3 b3;generalize dr:zj ts es (ql ts es) s2.last=R at *
       rcases aa with aa|aa|aa<;>rcases cv with ax|⟨ax,cw⟩
       all_goals
        simp[go_sem,e3,e4,e6,e8,e9,a6,a7,a8,J,a5,a9,ad,aa,qw];refine qc.pure cn (.zk (zA ts) (.zs .nil)) ?_;simp[go_sem,e3,e4,e6,e8,e9,a6,a7,a8,J,a5,a9,ad,aa,qw,ay.len];rw[if_pos ay.one];generalize putCells _ 0 C=PC
        first
        |simp[go_sem,e3,e4,e6,e8,e9,a6,a7,a8,J,a5,a9,ad,aa,qw,ax,cw]
        |simp[go_sem,e3,e4,e6,e8,e9,a6,a7,a8,J,a5,a9,ad,aa,qw,ax]
        refine qc.pure cf (.zk (wo ts l s2) .nil) ?_;simp[go_sem,e3,e4,e6,e8,e9,a6,a7,a8,J,a5,a9,ad,aa,qw,ax];refine qg.move 2 2 zKr zKr ?_ ?_
        all_goals
         simp[go_sem,e3,e4,e6,e8,e9,a6,a7,a8,J,a5,a9,ad,aa,qw,ax];refine qoN (lo:=rr.length+6) (xs:=[]) (ys:=I) (OwnF.nil zSp) (by simp[qO]) (by simp at ah⊢;omega) ?_;intro ds dt cx au;simp[go_sem,e3,e4,e6,e8,e9,a6,a7,a8,J,a5,a9,ad,aa,qw,ax];refine qcF (y:=(n.name,⟨none,0,vN R⟩)) cx (by simp at ah⊢;omega) ?_;intro cy du b0 aj;have n0:=(aj 0 zOm).trans (au 0 zOm);have n1:=(aj 1 zOm).trans (au 1 zOm);have n2:=(aj 2 zOm).trans (au 2 zOm);have n3:=(aj 3 zOm).trans (au 3 zOm);simp at n0 n1 n2 n3;simp[go_sem,e3,e4,e6,e8,e9,a6,a7,a8,J,a9,ad,aa,qw,ax];refine Keep.mk' ⟨false,rr.length+6,cy,I++[(n.name,⟨none,0,vN R⟩)],ai,vN R,⟨R,s2.cost⟩,av,hq,zSi,.inr ⟨zVs b0,?_,zOm⟩,⟨zS2 e3 ax,zS1 e4,zS1 e6,zS1 e8,zS1 e9,zS1 a6,zS1 a7,zS1 a8,zS1 n0,zS1 n1,zS1 n2,zS2 n3 aa,?_,a1,a4,A.al,b1,A.c0,A.c1,A.z1,A.z2⟩,?_,?_,fun h=>zOm⟩
         .intro b s o q e;have:=b4 b s o q e;omega
         .simp only[qP]
          refine qcG A.ho b4 (zW1 b0.2.2) fun j h4 hj=>?_
          obtain⟨i,rfl⟩:∃ i,j=i+4:=⟨j-4,zOm⟩;rw[aj _ zOm,au _ zOm,a5];simp only[j7];rw[qo zOm]
         .simp at ah⊢;omega
         .rw [bo];unfold pot;simp only;omega
      .have ca:body=false:=by cases body with
        |true=>exact absurd (.inl rfl) ag
        |false=>rfl
       have da:means ts n.name=[]:=Classical.byContradiction fun x=>ag (.inr x)
       have hq:(if binB n.op=true/\1=1 then R' I ab s2 else ((I,ab),s2))=((I,ab),s2):=by
        rw[if_pos ⟨ao,rfl⟩,bi,bh];show renR ts es I n.name body s2=_;unfold renR;rw[if_neg ag]
       rcases aa with aa|aa|aa
       all_goals
        simp[go_sem,e3,e4,e6,e8,e9,a6,a7,a8,J,a5,a9,ad,aa,qw];refine qc.pure cn (.zk (zA ts) (.zs .nil)) ?_;simp[go_sem,e3,e4,e6,e8,e9,a6,a7,a8,J,a5,a9,ad,aa,qw,ay.len];rw[if_pos ay.one];generalize putCells _ 0 C=PC;simp[go_sem,e3,e4,e6,e8,e9,a6,a7,a8,J,a5,a9,ad,aa,qw,ca,da];refine Keep.mk' ⟨full,rr.length+5,.lst full (I.map cSb),I,a0,ab,s2,av,hq,zS1 J,.inl rfl,A.keep (zS2 e3 ca) (zS1 e4) (zS1 e6) (zS1 e8) (zS1 e9) (zS1 a6) (zS1 a7) (zS1 a8) (rr.length+4) zOm ?_ zSi (fun j hj=>?_),?_,?_,fun h=>zOm⟩
        .exact b4
        .simp only[qP]
         rw[a5]
         match j,hj with
         | 0,_=>rfl
         | 1,_=>rfl
         | 2,_=>rfl
         | 3,_=>simp[aa]
         |i+4,hj =>
          simp only[j7];rw[qo zOm]
        .simp at ah⊢;omega
        .have bn:dueN (ql ts es) (binB n.op) 1=(ql ts es:Int):=by unfold dueN;rw[if_pos ⟨ao,zOm⟩]
         have bo:dueN (ql ts es) (binB n.op) 2=0:=by unfold dueN;rw[if_neg zOm]
         rw[bn]at aq;rw[bo];omega
     .have cb:¬n.op=15:=fun e=>ao (by simp[binB,e])
      have cc:¬n.op=45:=fun e=>ao (by simp[binB,e])
      have cd:¬n.op=46:=fun e=>ao (by simp[binB,e])
      simp[go_sem,e3,e4,e6,e8,e9,a6,a7,a8,J,a5,a9,ad,cb,cc,cd,qw];refine Keep.mk' ⟨full,4,.lst full (I.map cSb),I,a0,ab,s2,av,by rw[if_neg (fun x=>ao x.1)],zS1 J,.inl rfl,A.same (zS1 e3) (zS1 e4) (zS1 e6) (zS1 e8) (zS1 e9) (zS1 a6) (zS1 a7) (zS1 a8) (zS1 a5),?_,?_,fun h=>zOm⟩
      .simp at ah⊢;omega
      .rw [<-Ul (fun x=>ao x.1)];exact aq
    .have cg:¬(k:Int)=1:=by omega
     simp[go_sem,e3,e4,e6,e8,e9,a6,a7,a8,J,a5,a9,cg,qw];refine Keep.mk' ⟨full,4,.lst full (I.map cSb),I,a0,ab,s2,av,by rw[if_neg (fun x=>au x.2)],zS1 J,.inl rfl,A.same (zS1 e3) (zS1 e4) (zS1 e6) (zS1 e8) (zS1 e9) (zS1 a6) (zS1 a7) (zS1 a8) (zS1 a5),?_,?_,fun h=>b9 zOm⟩
     .split at ah<;>split<;>omega
     .rw [<-Ul (fun x=>au x.2)];exact aq
   .rintro U ⟨full,P,sl,ae,ai,aw,s3,av,hq,J,bq,A,ah,aq,b9⟩
    rw[hq]at hI;simp only at hI;have b5:StOk (ql ts es) s3:=⟨A.l0,zW1 A.c0,A.c1,zW1 (ZG (ql ts es) (binB n.op) (k+1))⟩;have br:(ae.length:Int)<=s3.cost+8:=by split at ah<;>omega
    have x1:=bj n.kids[k] (qy a9) ai ae s3 b5 A.c0 A.en A.so br;have x2:=bm n.kids[k] (qy a9) ai ae s3 b5 A.c0 A.en A.so;generalize E' ae n.kids[k] s3=q at *
    clear bj bm;rw[qfG,qfH];refine qg.fz (qoM (fun U=>∃ full,U.tm 1 = .lst full (ae.map cSb)/\AtK ts l es n body s k ae ai aw s3 af av z U) ?_ ?_)
    .rcases bq with bq|⟨db,b4,h4⟩
     .exact FzQ.skip ⟨full,by rw[J,bq],A⟩
     .refine FzQ.own (d:=1) J db (Yx ae) (fun r hr c hc=>by obtain⟨x,_,rfl⟩:=qr.1 hr;exact UT x c hc) ?_
      intro dc bs dv aj;refine⟨bs,zSi,A.keep (by simp[go_sem,A.e3]) (by simp[go_sem,A.e4]) (by simp[go_sem,A.e6]) (by simp[go_sem,A.e8]) (by simp[go_sem,A.e9]) (by simp[go_sem,A.e11]) (by simp[go_sem,A.e12]) (by simp[go_sem,A.e13]) P h4 b4 ?_ ?_⟩
      .have:=A.ho.2.2;simp only[qP];omega
      .intro j hj;simp only[qP];exact aj j hj
    rintro U ⟨full,J,A⟩;obtain⟨rr,a5⟩:=four A.m0 A.m1 A.m2 A.m3;have e3:=A.e3;have e4:=A.e4;have e6:=A.e6;have e8:=A.e8;have e9:=A.e9;have a6:=A.e11;have a7:=A.e12;have a8:=A.e13;have ak:=A.ho.one;have an:=A.ho.cells;refine qg.seg [0,1,2,3,4,5,6,7,8,9,10,11,12,17,13,14,15,16] [(0,0,[]),(1,0,[]),(2,0,[]),(3,0,[]),(4,0,[]),(5,0,[]),(6,0,[]),(7,0,[]),(8,1,[]),(9,0,[]),(10,0,[]),(11,0,[]),(12,0,[]),(17,0,[]),(13,2,[0,3,6]),(14,2,[0,3,6]),(15,1,[]),(16,1,[])] zKr zKr zSi ?_;simp[go_sem,e3,e4,e6,e8,e9,a6,a7,a8,J,a5,a9,qw,ak,an];refine qc.pure x1 (.zk (wo ts l s3) (.cons (WK.lst fun r hr c hc=>by
     obtain⟨x,_,rfl⟩:=qr.1 hr;exact UT x c hc) (.zk (qz _) (.zs .nil)))) ?_
    simp[go_sem,e3,e4,e6,e8,e9,a6,a7,a8,J,a5,a9,qw,ak,an];by_cases ar:4000<q.1.cost
    .rw [if_pos ar]at hI
     have hI:az=(q.1,nd0,0):=hI.symm;simp[go_sem,e3,e4,e6,e8,e9,a6,a7,a8,J,a5,a9,qw,ak,an,ar];rw[hI];exact rdZ ts l q.1
    .rcases x2 with x2|⟨_,g⟩
     .exact absurd x2 ar
     rw[if_neg ar]at hI;simp[go_sem,e3,e4,e6,e8,e9,a6,a7,a8,J,a5,a9,qw,ak,an,ar];obtain⟨g1,g2,g3⟩:=US g b5;have gz:=g.z0;have dw:=g.cz;have dd:=g.c1;have gp:=g.p;have dx:=A.z1;have dy:=A.z2;have cq:=A.c0;have de:=A.al;have di:=A.ho.2.2;refine YD.Un (lo:=4) (xs:=af) ?_ zOm ?_
     .have h1:OwnF 4 (U.mu++[Cell.arr (cWk ts l q.1),Cell.arr (cNd q.2.1)]) 5 av (af.map cNd):=YD.Qz A.ho zSo fun i _ hi=>qo hi
      rw[a5]at h1;have h2:=OwnF.set (i:=0) (c:=Cell.arr (cWk ts l q.1)) h1 zOm;simpa using h2
     intro ch dc b0 aj;have n0:=aj 0 zOm;have n1:=aj 1 zOm;have n2:=aj 2 zOm;have n3:=aj 3 zOm;simp at n0 n1 n2 n3;obtain⟨r2,cj⟩:=four n0 n1 n2 n3;have bt:=b0.one;have bu:=b0.cells;have w3:qj.wrap (z+q.2.2)=z+q.2.2:=qi zOm zOm;simp[go_sem,e3,e4,e6,e8,e9,a6,a7,a8,J,cj,a9,qw,bt,bu,ar,w2,w3];refine Keep.mk' ⟨full,ae,ai,aw,q.1,af++[q.2.1],ch,z+q.2.2,zS1 J,⟨zS1 e3,zS1 e4,zS1 e6,zS1 e8,zS1 e9,zS1 a6,zSi,zSi,zSi,zSi,zSi,zSi,?_,A.so,A.en,zP1 de,g1.l0,zOm,dd,zOm,zOm⟩,zOm,zOm,b9,?_⟩
     .have h2:=OwnF.set (i:=3) (c:=Cell.arr [aI n.op,aS aw,aI n.n,ch,aI n.pos]) b0 zOm
      rw[cj]at h2;simpa[go_sem] using h2
     .rw [<-hI]
      generalize ud E' R' (binB n.op) (k+1) ae aw (List.drop (k+1) n.kids) q.1=X;cases X with
      |error e=>rfl
      |ok r =>
       obtain⟨⟨a,b,c⟩,d⟩:=r;simp[resK];omega
  .simp [go_sem,e3,e4,e6,e8,e9,a6,a7,a8,J,a5,a9,qw,ak,an]
   refine qg.seg [0,1,2,5,3,4] [(0,0,[]),(1,0,[]),(2,0,[]),(5,0,[]),(3,1,[1]),(4,1,[])] zKr zKr zSi ?_;simp[go_sem,e3,e4,e6,e8,e9,a6,a7,a8,J,a5,a9,qw,ak,an];rw[J1 zOm]at hI;have hI:az=(s2,.mk n.op ab n.n af n.pos,z):=by rw[<-hI];simp[ud,resK]
   rw[hI];refine .tup _ _ rfl fun k x y hx hy=>?_
   match k,hx,hy with
   | 0,hx,hy=>cases hx;cases hy;exact .hf _ (wo ts l s2)
   | 1,hx,hy =>
    cases hx;cases hy;have df:eNd (.mk n.op ab n.n af n.pos) = .agg [aI n.op,aS ab,aI n.n,.lst false (af.map cNd),aI n.pos]:=by
     show AV.agg (cNd _)=_;rw[yQ];rfl
    show Rd _ _ (eNd (.mk n.op ab n.n af n.pos));rw[df];refine .agg _ _ rfl fun k x y hx hy=>?_
    match k,hx,hy with
    | 0,hx,hy=>cases hx;cases hy;exact .zsc _
    | 1,hx,hy=>cases hx;cases hy;exact .zsc _
    | 2,hx,hy=>cases hx;cases hy;exact .zsc _
    | 3,hx,hy =>
     cases hx;cases hy;have h1:=OwnF.set (i:=1) (c:=Cell.arr (cWk ts l s2)) A.ho zOm;have h2:=OwnF.set (i:=2) (c:=Cell.arr [aI n.op,aS ab,aI n.n,av,aI n.pos]) h1 zOm;rw[a5]at h2;exact h2.1.rd (YD.Um af).ok fun r hr c hc=>by
      obtain⟨x,_,rfl⟩:=qr.1 hr;exact jy x c hc
    | 4,hx,hy=>cases hx;cases hy;exact .zsc _
    |k+5,hx,hy=>cases hx
   | 2,hx,hy=>cases hx;cases hy;exact .zsc _
   |k+3,hx,hy=>cases hx
end
end RA
namespace RB
open YF Y9 Y1 YX YZ YB YC YE YG YH P1 P2 Q4 Q6 PF QE QT QW QX QY QZ RA
theorem qcH(l:List Nd):∀(es:List (ByteArray×Bool)) (nm:ByteArray),getK nm (putN es l)=some true↔(getK nm es=some true\/∃ x,x∈l/\x.name=nm):=by
 induction l with
 |nil=>intro es nm;exact⟨fun h => .inl h,fun h=>h.elim id fun⟨x,hx,_⟩=>absurd hx qE⟩
 |cons a l i =>
  intro es nm;have e:putN es (a :: l)=putN (setK a.name true es) l:=rfl;rw[e,i,jB];by_cases e:nm=a.name
  .rw [if_pos e]
   exact⟨fun _ => .inr ⟨a,q8 ..,e.symm⟩,fun _ => .inl rfl⟩
  .rw [if_neg e]
   constructor
   .rintro (h|⟨x,hx,g⟩)
    .exact .inl h
    .exact .inr ⟨x,qY _ hx,g⟩
   .rintro (h|⟨x,hx,g⟩)
    .exact .inl h
    .rcases qt.1 hx with rfl|hx
     .exact absurd g.symm e
     .exact .inr ⟨x,hx,g⟩
theorem qoO(l:List Pd):∀(es:List (ByteArray×Bool)) (nm:ByteArray),getK nm (l.foldl (fun es p=>putN es (preN p.body)) es)=some true↔(getK nm es=some true\/∃ p,p∈l/\∃ x,x∈preN p.body/\x.name=nm):=by
 induction l with
 |nil=>intro es nm;exact⟨fun h => .inl h,fun h=>h.elim id fun⟨x,hx,_⟩=>absurd hx qE⟩
 |cons a l g =>
  intro es nm;rw[List.foldl_cons,g,qcH];constructor
  .rintro ((h|h)|⟨p,hp,h⟩)
   .exact .inl h
   .exact .inr ⟨a,q8 ..,h⟩
   .exact .inr ⟨p,qY _ hp,h⟩
  .rintro (h|⟨p,hp,h⟩)
   .exact .inl (.inl h)
   .rcases qt.1 hp with rfl|hp
    .exact .inl (.inr h)
    .exact .inr ⟨p,hp,h⟩
structure Ti (es:List (ByteArray×Bool)):Prop where
 nd:(es.map Prod.fst).Nodup
 tr:∀ e,e∈es->e.2=true
theorem Ti.put(l:List Nd):∀{es:List (ByteArray×Bool)},Ti es->Ti (putN es l):=by
 induction l with
 |nil=>intro es h;exact h
 |cons a l i =>
  intro es h;refine i (es:=setK a.name true es) ⟨uV h.nd,fun e g=>?_⟩;rcases Up g with rfl|g
  .rfl
  .exact h.tr e g
theorem Ti.puts(l:List Pd):∀{es:List (ByteArray×Bool)},Ti es->Ti (l.foldl (fun es p=>putN es (preN p.body)) es):=by
 induction l with
 |nil=>intro es h;exact h
 |cons a l g=>intro es h;exact g (h.put _)
theorem K0{nm:ByteArray}(n:Nd)(g:nm≠⟨#[]⟩):nm∈namL n↔∃ x,x∈preN n/\x.name=nm:=by
 unfold namL;rw[qr];constructor
 .rintro ⟨x,hx,e⟩
  exact⟨x,(vt.1 hx).1,e⟩
 .rintro ⟨x,hx,e⟩
  exact⟨x,vt.2 ⟨hx,by rw[e];simpa using g⟩,e⟩
theorem takTn(ts:TS)(n:Nd):Tn (takL ts n) (yH ts n):=by
 have j:∀ nm:ByteArray,nm≠⟨#[]⟩->(nm∈takL ts n↔getK nm (yH ts n)=some true):=fun nm g=>by
  unfold takL yH;rw[qoO,qcH,qM,K0 n g,List.mem_flatMap];constructor
  .rintro (h|⟨p,hp,h⟩)
   .exact .inl (.inr h)
   .exact .inr ⟨p,hp,(K0 _ g).1 h⟩
  .rintro ((h|h)|⟨p,hp,h⟩)
   .cases h
   .exact .inl h
   .exact .inr ⟨p,hp,(K0 _ g).2 h⟩
 refine⟨j,?_⟩;have i:Ti (yH ts n):=Ti.puts _ (Ti.put _ ⟨.nil,fun e r=>absurd r qE⟩);have:=List.Nodup.length_le_of_subset (l₂:=⟨#[]⟩ :: takL ts n) i.nd fun x hx=>by
  by_cases e:x=⟨#[]⟩
  .rw [e];exact q8 ..
  .refine qY _ ((j x e).2 ?_)
   obtain⟨q,o,rfl⟩:=qr.1 hx;have t:=i.tr q o;have C:=(Ql i.nd (k:=q.1) (v:=q.2)).2 o;rw[C,t]
 simpa using this
theorem qcI(ts:TS)(h:okTS ts)(l:List ByteArray)(es:List (ByteArray×Bool))(t:Tn l es)(r:l.length<=400000)(C:ql ts es<=200000)(g:Free ts es)(o:∀ p,p∈ts.preds->WfN p.body/\yG ts p.body):∀(f:Nat) (env:IEnv) (sc:List Sb) (n:Nd) (body:Bool) (s:ISt),Pre ts es f env sc n body s->ExpW ts l es f sc n body s
 | 0,env,sc,n,body,s,p=>zW2 p.fu p.st.c1
 |f+1,env,sc,n,body,s,p=>by
  have I:=qcI ts h l es t r C g o f;by_cases i:s.cost+1<=4000
  case neg=>exact expZ ts l es f env sc n body s p i
  by_cases J:n.op=1
  .exact expN ts l es f env sc n body s p i J
  by_cases h47:n.op=47
  .obtain ⟨P,hp,j⟩:=p.cl n (jQ n) h47
   have R:(payS 1 s).cost=s.cost+1:=rfl;exact expC ts l es f env sc n body s p i h47 P hp (replW ts h l es g o f I env sc n body (payS 1 s) ⟨zW1 p.fu,(we p.st zOm i).ok p.st,p.en,p.wf,p.cl,p.so,zW1 p.le⟩ h47 P hp j)
  .exact expK ts h l es t r C g o f I env sc n body s p i J h47
theorem inlRU(ts:TS)(h:okTS ts)(hv:∀ p,p∈ts.preds->qS p.body=true)(hb:∀ p,p∈ts.preds->WfN p.body/\yG ts p.body)(n:Nd)(hn:qS n=true)(aa:(yi ts [] n).1=0->yG ts n):qd qb 66 [eTS ts,eNd n] (.tup [eNd (qK ts n).1,aI (qK ts n).2]):=by
 have hw:=yE hn;have a4:=uc.1 hn;have J:∀ p,p∈ts.preds->WfN p.body:=fun p hp=>(hb p hp).1
 have a5:∀ p,p∈ts.preds->(preN p.body).length<=400:=fun p hp=>zW2 ((uc.1 (hv p hp)).2.2.1) (JR p.body)
 have ab:(preN n).length<=400:=zW2 a4.2.2.1 (JR n);have hF:=JS h hv hn;have hT:=takTn ts n;have ah:=h.np;have ad:(takL ts n).length<=400000:=by
  have h1:∀ L:List Pd,(∀ p,p∈L->(preN p.body).length<=400)->(L.flatMap fun p=>namL p.body).length<=400*L.length:=by
   intro L;induction L with
   |nil=>intro _;simp
   |cons a L ih =>
    intro hL;have a1:=ih fun p hp=>hL p (qY _ hp)
    have a2:=UF a.body;have a3:=hL a (q8 ..);rw[List.flatMap_cons,zc,List.length_cons];omega
  have a1:=h1 ts.preds a5;have a2:=UF n;unfold takL;rw[zc];omega
 have P:=Uq ts (yH ts n);have U:StOk (ql ts (yH ts n)) ⟨0,0⟩:=⟨zSp,zSp,zSp,by simp[pot]⟩;have cf:=qa1 ts h J [] ⟨zSp,zSp⟩ zSp n hw a4.2.2.2;have o:=XT (szN n) n (qm _) hw.small;have ct:=qnH ts h J n hw ab a5;have a0:WKs [eTS ts,.lst true [],eNd n] [eTS ts,lPm [],eNd n] := .zk (zA ts) (.cons (WK.lst fun r hr=>absurd hr qE) (.zk (qz n) .nil));have ae:WKs [eTS ts,eNd n] [eTS ts,eNd n] := .zk (zA ts) (.zk (qz n) .nil);generalize j:qK ts n=R;unfold qK at j;by_cases l:(yi ts [] n).1=0
 case neg =>
  rw[if_pos l]at j;subst j;refine qd.of_sound (qe.of_awp call66 func66 rfl (qh zKr) zKr (pl:={}) ?_);simp[go_sem];refine qc.pure cf a0 ?_;simp[go_sem,l];refine qg.seg [0,1,2,4,3] [(0,0,[]),(1,0,[]),(2,0,[]),(4,0,[]),(3,1,[2])] zKr zKr zSi ?_;simp[go_sem,l];exact ZH _ _
 rw[if_neg (zUs l)]at j;cases ha:anyN (fun n=>decide (n.op=47)) n with
 |false =>
  rw[ha]at j o;rw[if_pos rfl]at j;subst j;refine qd.of_sound (qe.of_awp call66 func66 rfl (qh zKr) zKr (pl:={}) ?_);simp[go_sem];refine qc.pure cf a0 ?_;simp[go_sem,l];refine qc.pure o (.zk (qz n) .nil) ?_;simp[go_sem,l];exact .hf _ (HF.tup fun x hx=>by
   simp only[qt,qE,or_false]at hx;rcases hx with rfl|rfl
   .exact qz n
   .exact HF.sc _)
 |true =>
  rw[ha]at j o;rw[if_neg zSp]at j;have a6:=aa l;have cx:=qcI ts h (takL ts n) (yH ts n) hT ad hF P hb 4001 [] [] n false ⟨0,0⟩ ⟨zSp,U,.nil,hw,a6,⟨fun nm=>rfl,fun _ nm v hv=>(by cases hv),fun e he=>absurd he qE⟩,zSp⟩;have ho:=Yw ts (yH ts n) P hb 4001 [] [] n false ⟨0,0⟩ zSp U .nil hw a6 ⟨fun nm=>rfl,fun _ nm v hv=>(by cases hv),fun e he=>absurd he qE⟩;have a7:=fun {n' z s'}=>Yk ts J (yH ts n) 4001 (env:=[]) (n:=n) (n':=n') (body:=false) (s:=⟨0,0⟩) (s':=s') (z:=z) (fun e he=>absurd he qE) hw
  have a8:=fun {n' z s'}=>yZ ts P 4001 (env:=[]) (n:=n) (n':=n') (body:=false) (s':=s') (z:=z) U .nil
  have a9:=fun {d}=>Jz ts (yH ts n) 4001 (env:=[]) (n:=n) (body:=false) (s:=⟨0,0⟩) (d:=d)
  unfold outI at j;unfold ExpW at cx;generalize expR ts (yH ts n) 4001 [] n false ⟨0,0⟩=q at *
  generalize expI ts (yH ts n) 4001 [] n false ⟨0,0⟩=E at *
  have af:(4000<q.1.cost/\R=(nd0,2))\/(¬ 4000<q.1.cost/\Small q.2.1/\depN q.2.1<=1000000/\((400<q.2.2/\R=(nd0,2))\/(¬ 400<q.2.2/\24<depN q.2.1/\R=(nd0,2))\/(¬ 400<q.2.2/\¬ 24<depN q.2.1/\R=(q.2.1,0)))):=by
   cases E with
   |error d =>
    have:=a9 rfl;subst this;exact .inl ⟨ho.1,j.symm⟩
   |ok r =>
    obtain⟨⟨m,y⟩,t⟩:=r;obtain⟨o1,o2,o3⟩:=ho;obtain⟨s1,s2⟩:=a7 rfl;have g:=a8 rfl;have gc:=g.c1;have gz:=g.cz;have dl:=X7 m;rw[o1,o2,o3];have gz:0+y<=t.cost:=gz;refine .inr ⟨zOm,s2,zOm,?_⟩;simp only at j;by_cases z1:y<=400
    .by_cases z2:depN m<=24
     .rw [if_pos ⟨z1,z2⟩]at j
      exact .inr (.inr ⟨zOm,zOm,j.symm⟩)
     .rw [if_neg (fun x=>z2 x.2)]at j
      exact .inr (.inl ⟨zOm,zOm,j.symm⟩)
    .rw [if_neg (fun x=>z1 x.1)]at j
     exact .inl ⟨zOm,j.symm⟩
  clear j ho a7 a8 a9;refine qd.of_sound (qe.of_awp call66 func66 rfl (qh zKr) zKr (pl:={}) ?_);simp[go_sem];refine qc.pure cf a0 ?_;simp[go_sem,l];refine qc.pure o (.zk (qz n) .nil) ?_;simp[go_sem,l];refine qg.seg [0,1,2,5,3,4,6,7,8,9,10,15,11,12,13,14] [(0,0,[]),(1,0,[]),(2,0,[]),(5,0,[]),(3,1,[0,5]),(4,0,[]),(6,1,[]),(7,0,[]),(8,0,[]),(9,0,[]),(10,0,[]),(15,0,[]),(11,2,[0,1,2,5]),(12,2,[0,1,2,5]),(13,1,[]),(14,1,[])] zKr zKr zSi ?_;simp[go_sem,l];refine qc.pure ct ae ?_;simp[go_sem,l];refine qc.pure cx ?_ ?_
  .exact .zk (wo ts (takL ts n) ⟨0,0⟩) (.cons (WK.lst fun r hr=>absurd hr qE) (.zk (qz n) (.zs .nil)))
  simp[go_sem,l];have ag:∀ C:Mu,Rd C (.tup [eNd q.2.1,aI 0]) (.tup [eNd q.2.1,aI 0]):=fun C => .hf _ (HF.tup fun x hx=>by
   simp only[qt,qE,or_false]at hx;rcases hx with rfl|rfl
   .exact qz _
   .exact HF.sc _)
  rcases af with ⟨g1,I⟩|⟨g1,gs,gd,⟨I,g3⟩|⟨I,g3,g4⟩|⟨I,g3,g4⟩⟩
  .rw [I]
   simp[go_sem,l,g1];exact ZH _ _
  .rw [g3]
   simp[go_sem,l,g1,I];exact ZH _ _
  .rw [g4]
   simp[go_sem,l,g1,I];refine qc.pure (UH (szN q.2.1) q.2.1 (qm _) gs gd) (.zk (qz _) .nil) ?_;simp[go_sem,l,g1,I,g3];exact ZH _ _
  .rw [g4]
   simp[go_sem,l,g1,I];refine qc.pure (UH (szN q.2.1) q.2.1 (qm _) gs gd) (.zk (qz _) .nil) ?_;simp[go_sem,l,g1,I,g3];exact ag _
end RB
namespace IB
open P1 P2 Y1 YF Y9 Y10 Y16 PA YC YG YH Q4 Q6 Q8 PF RB E3 F2 FC FD FE IA
section
variable {ts:TS}
abbrev bigT(ts:TS):Prop:=∀ x,x∈ts.sorts->x.1.size<=4611686018427387904
structure SpD (ts:TS):Prop where
 h:okTS ts
 wp:∀ p,p∈ts.preds->WfN p.body
 wf:∀ f,f∈ts.facts->WfN f.2
 hv:∀ p,p∈ts.preds->qS p.body=true
 hf:∀ f,f∈ts.facts->qS f.2=true
theorem qoP(h:yq ts=true)(i:bigT ts):SpD ts:=by
 obtain⟨ok,j,wf⟩:=XU h i;simp only[yq,limB,fldB,qB,decide_eq_true_eq,qI]at h;obtain⟨⟨⟨⟨o,r⟩,t⟩,C⟩,hf,hp,l⟩:=h;exact⟨ok,j,wf,fun p g=>(hp p g).2,fun f g=>l f g⟩
theorem SpD.sp(S:SpD ts)(g:yT ts=[]):OkSp ts:=⟨S.h,S.hv,g⟩
theorem K1(S:SpD ts)(g:yT ts=[]):∀ p,p∈ts.preds->WfN p.body/\yG ts p.body:=fun p hp=>⟨S.wp p hp,by
 obtain⟨i,j,rfl⟩:=List.mem_iff_getElem.1 hp;obtain⟨_,l,hx⟩:=Yu (KL g i j);exact KJ (vG S.h zOm) (szN ts.preds[i].body) _ _ _ _ (qm _) hx (S.wp _ hp)⟩
theorem K2(S:SpD ts){n:Nd}(g:qS n=true)(i:(yi ts [] n).1=0):yG ts n:=by
 obtain⟨_,j,hx⟩:=Yu i;exact KJ (vG S.h (qm _)) (szN n) _ _ _ _ (qm _) hx (yE g)
theorem inlC(S:SpD ts)(i:yT ts=[]){n:Nd}(g:qS n=true):qd qb 68 [eTS ts,eNd n] (.tup [eNd (qK ts n).1,aI (qK ts n).2]):=
 mJ ts S.h (K1 S i) n (yE g) (K2 S g) (JS S.h S.hv g)
theorem inlR(S:SpD ts)(i:yT ts=[]){n:Nd}(g:qS n=true):qd qb 66 [eTS ts,eNd n] (.tup [eNd (qK ts n).1,aI (qK ts n).2]):=
 inlRU ts S.h S.hv (K1 S i) n g (K2 S g)
theorem K3(S:SpD ts)(o:yT ts=[]){n:Nd}(j:qS n=true)(g:(qK ts n).2=0):qS (qK ts n).1=true:=by
 by_cases i:(yi ts [] n).1=0
 .cases l:anyN (fun n=>decide (n.op=47)) n with
  |false =>
   have:qK ts n=(n,0):=by unfold qK;rw[if_neg (zUs i),if_pos l]
   rw[this];exact j
  |true=>exact(qnC S.h S.hv o j i l (Prod.ext rfl g)).1
 .unfold qK at g
  rw[if_pos i]at g;exact absurd g i
theorem UU(S:SpD ts)(g:yT ts=[]){m:Md}(j:OkMa ⟨ts,m⟩ m.states.length)(l:0<m.states.length){n:Nd}(o:qS n=true):qd qb 20 [eTS ts,eMd m,eNd n] (.tup [aB (hV ⟨ts,m⟩ n).1,aI (hV ⟨ts,m⟩ n).2]):=by
 refine XF ⟨ts,m⟩ m.states.length j l (qK ts) n (by have:=S.h.nfa;show ts.facts.length<=_;omega) fun b p=>?_
 have i:qS b=true:=by
  rcases qM.1 p with h|h
  .obtain ⟨f,hf,rfl⟩:=qr.1 h
   exact S.hf f hf
  .rw [qL]at h;subst h;exact o
 refine⟨inlC S g i,fun r=>?_⟩;have:=K3 S g i r;exact⟨yE this,zW1 (w6 this)⟩
def qoQ(ts:TS)(a s:Int)(l:List Nd):Bool:=l.all fun b=>!(decide ((qK ts b).2=0)&&decide (3000<wkN a s (qK ts b).1))
def K4(ts:TS)(a s:Int)(n:Nd):Bool:=qoQ ts a s (ts.facts.map Prod.snd++[n])
theorem qoR(S:SpD ts)(g:yT ts=[]){n:Nd}(i:qS n=true)(j:(qK ts n).2=0):Small (qK ts n).1:=(yE (K3 S g i j)).small
end
end IB
namespace IN
open Y1 P1 YF
def Zd(I:Nd->Nd×Int)(W:Nd->Int)(l:List Nd):Bool:=l.all fun b=>!(decide ((I b).2=0)&&decide (3000<W (I b).1))
theorem qoS(ts:TS)(I:Nd->Nd×Int)(W:Nd->Int)(a5:ts.facts.length<=1000)(a s:Int)(n:Nd)(step:∀ b,b∈ts.facts.map Prod.snd++[n]->qd qb 66 [eTS ts,eNd b] (.tup [eNd (I b).1,aI (I b).2]))(yb:∀ b,b∈ts.facts.map Prod.snd++[n]->(I b).2=0->qd qb 67 [eNd (I b).1,aI a,aI s] (aI (W (I b).1))):qd qb 19 [eTS ts,aI a,aI s,eNd n] (aB (Zd I W (ts.facts.map Prod.snd++[n]))):=by
 have a6:(ts.facts.map Prod.snd++[n]).length=ts.facts.length+1:=zSp;have a0:∀(k:Nat) (h:k<ts.facts.length) (h2:k<(ts.facts.map Prod.snd++[n]).length),(ts.facts.map Prod.snd++[n])[k]=ts.facts[k].2:=fun k h h2=>by rw[List.getElem_append_left (zUs h)];simp
 have a1:∀(h2:ts.facts.length<(ts.facts.map Prod.snd++[n]).length),(ts.facts.map Prod.snd++[n])[ts.facts.length]=n:=fun h2=>by rw[List.getElem_append_right zSp];simp
 generalize ts.facts.map Prod.snd++[n]=L at *
 generalize hR:Zd I W L=R;refine qd.of_sound (qe.of_awp call19 func19 rfl (qh zKr) zKr (pl:={}) ?_);simp[go_sem];refine qn.upK (ts.facts.length+1) (fun k U=>U.tm 1=aI a/\U.tm 2=aI s/\U.tm 4 = .ip (cTS ts)/\U.tm 7 = .ip (cNd n)/\U.tm 9=aI k/\Zd I W (L.drop k)=R) ?_ ?_
 .exact ⟨zSi,zSi,zSi,zSi,zSi,zUs hR⟩
 rintro k U a7 ⟨C,J,o,P,p,g⟩;have wi:∀ b:Nd,WKs [eTS ts,eNd b] [eTS ts,eNd b]:=fun b => .zk (zA ts) (.zk (qz b) .nil)
 have ww:∀ b:Nd,WKs [eNd b,aI a,aI s] [eNd b,aI a,aI s]:=fun b => .zk (qz b) (.zs (.zs .nil))
 have w1:qj.wrap ((k:Int)+1)=(k:Int)+1:=qi zOm zOm;by_cases j:k<ts.facts.length+1
 .have i:k<L.length:=by omega
  have a3:k<=ts.facts.length:=zOm;have a2:(k:Int)<=ts.facts.length:=zOm;have c1:=step _ (qy i);have c2:=yb _ (qy i);rw[zt i,Zd,List.all_cons]at g;by_cases hf:k<ts.facts.length
  .rw [a0 k hf i]at g c1 c2
   generalize I ts.facts[k].2=ib at *
   obtain⟨b',e'⟩:=ib;simp only at g c1 c2;simp[go_sem,o,P,p,hf,a3,a2];refine qc.pure c1 (wi _) ?_;simp[go_sem];by_cases r:e'=0
   .subst r
    have c3:=c2 rfl;simp[go_sem,C,J];refine qc.pure c3 (ww b') ?_;generalize W b'=w at *
    by_cases l:3000<w
    .simp [l]at g
     subst g;simp[go_sem,l];exact .zsc _
    .simp [l]at g
     simp[go_sem,l,p,w1,j];exact Keep.mk' ⟨zS1 C,zS1 J,zS1 o,zS1 P,zSi,by simpa[Zd] using g⟩
   .simp [r]at g
    simp[go_sem,r,p,w1,j];exact Keep.mk' ⟨zS1 C,zS1 J,zS1 o,zS1 P,zSi,by simpa[Zd] using g⟩
  .have t:k=ts.facts.length:=by omega
   subst t;rw[a1 i]at g c1 c2;generalize I n=ib at *
   obtain⟨b',e'⟩:=ib;simp only at g c1 c2;simp[go_sem,o,P,p];refine qc.pure c1 (wi _) ?_;simp[go_sem];by_cases r:e'=0
   .subst r
    have c3:=c2 rfl;simp[go_sem,C,J];refine qc.pure c3 (ww b') ?_;generalize W b'=w at *
    by_cases l:3000<w
    .simp [l]at g
     subst g;simp[go_sem,l];exact .zsc _
    .simp [l]at g
     simp[go_sem,l,p,w1,j];exact Keep.mk' ⟨zS1 C,zS1 J,zS1 o,zS1 P,zSi,by simpa[Zd] using g⟩
   .simp [r]at g
    simp[go_sem,r,p,w1,j];exact Keep.mk' ⟨zS1 C,zS1 J,zS1 o,zS1 P,zSi,by simpa[Zd] using g⟩
 .have t:k=ts.facts.length+1:=by omega
  subst t;rw[J1 zOm]at g;have a4:R=true:=by rw[<-g];rfl
  subst a4;simp[go_sem,o,p,show ¬((ts.facts.length:Int)+1<=ts.facts.length) by omega];exact .zsc _
end IN
namespace IF
open P1 Y1 YF Y16 YG Q4 FE IB IN
theorem qcJ{ts:TS}(S:SpD ts)(i:yT ts=[])(a s:Int)(l:0<=a/\a<=100)(o:0<=s/\s<=100){n:Nd}(p:qS n=true):qd qb 19 [eTS ts,aI a,aI s,eNd n] (aB (K4 ts a s n)):=by
 have j:∀ b,b∈ts.facts.map Prod.snd++[n]->qS b=true:=fun b g=>by
  rcases qM.1 g with h|h
  .obtain ⟨f,hf,rfl⟩:=qr.1 h
   exact S.hf f hf
  .rw [qL]at h;subst h;exact p
 exact qoS ts (qK ts) (wkN a s) (zW1 S.h.nfa) a s n (fun b g=>inlR S i (j b g)) (fun b g r=>KS a s l o _ _ (qm _) (qoR S i (j b g) r))
end IF
set_option maxHeartbeats 4000000
namespace W50
open P1 P2 Y1 YF Y9 Y16 YZ PA YE YG YH Q4 Q6 Q8 PF E3 E5 E9 EH F1 F2 FC FD FE FF FG FI FJ FK IA IB IF
section
variable {ts:TS}
theorem K5(h:okTS ts):okTS (wf ts []):=⟨h.ns,h.nf,h.np,by show 0<=16;omega,h.sl,h.fl,h.pl⟩
theorem qoT(S:SpD ts)(o:yT ts=[]){m:Md}(g:OkMa ⟨ts,m⟩ m.states.length)(t:0<m.states.length){n:Nd}(i:qS n=true):qd qb 20 [eTS (wf ts []),eMd m,eNd n] (.tup [aB (fmV (gX ⟨ts,m⟩ n)).1,aI (fmV (gX ⟨ts,m⟩ n)).2]):=by
 rw[<-qoK];have j:OkMa ⟨wf ts [],m⟩ m.states.length:={ len:=g.len,nx:=g.nx,n0:=g.n0,n12:=g.n12,st:=g.st,at0:=g.at0,gsc:=g.gsc,pos:=g.pos,al:=g.al,loop:=g.loop,N1:=g.N1,ts:=K5 g.ts };refine XF ⟨wf ts [],m⟩ m.states.length j t (qK (wf ts [])) n (by show 0<=_;omega) fun b P=>?_
 have l:b=n:=by simpa[wf] using P
 subst l;refine⟨mJ (wf ts []) (K5 S.h) (K1 (ts:=ts) S o) b (yE i) (fun p=>K2 (ts:=ts) S i (by rw[mi]at p;exact p)) (JS S.h S.hv i),fun r=>?_⟩;rw[qb5]at r⊢;have:=K3 S o i r;exact⟨yE this,zW1 (w6 this)⟩
theorem formW{m:Md}(F:FitP ts m 0 []){a:Nd}(i:OkF 24 a):qd qb 23 [eTS (wf ts []),eMd m,aI (0:Nat),lPm [],eNd a] (.tup [aB (fmV ((den ⟨ts,m⟩ a).F ⟨0,[]⟩)).1,aI (fmV ((den ⟨ts,m⟩ a).F ⟨0,[]⟩)).2]):=by
 have g:=F.ma;have j:FitP (wf ts []) m 0 []:=⟨{ len:=g.len,nx:=g.nx,n0:=g.n0,n12:=g.n12,st:=g.st,at0:=g.at0,gsc:=g.gsc,pos:=g.pos,al:=g.al,loop:=g.loop,N1:=g.N1,ts:=K5 g.ts },⟨F.p.st,zSp⟩,F.el,F.st⟩;have:=qnZ j (un_ok (qnV i (by decide:24<=100)));rw[qb3]at this;exact this
theorem qcK{m:Md}{n:Nd}(h:smB m n=true):cntT n<=90/\depN n<=18:=by
 simp only[smB,qB,decide_eq_true_eq]at h;exact⟨KH n 90 h.2.1,h.2.2⟩
theorem qoU{m:Md}{f g:Nd}(c1:smB m f=true)(c2:smB m g=true)(l:kd f.op=102)(o:kd g.op=102):qS (nk 41 [f,g])=true:=by
 have i:=uc.1 (UK c1);have j:=uc.1 (UK c2);obtain⟨p,r⟩:=qcK c1;obtain⟨t,C⟩:=qcK c2;refine uc.2 ⟨wf2 i.1 j.1 (by rw[l,o];decide) zDe _,fun x hx=>?_,by simp only[cntT,yU];omega,?_⟩
 .simp only[preN,zo,List.append_nil,qt,qM]at hx
  rcases hx with rfl|hx|hx
  .rfl
  .exact i.2.1 x hx
  .exact j.2.1 x hx
 .simp only[depN,zZ];omega
theorem qoV(ts:TS)(hs:bigS ts)(m:Md)(f g:Nd):qd qb 3 [eTS ts,eMd m,eNd f,eNd g] (aB true):=by
 have a1:=fitsL hs m 0 [];have a2:WKs [eTS ts,eMd m,aI 0,.lst true []] [eTS ts,eMd m,aI 0,lPm []] := .zk (zA ts) (.zk (yK m) (.zs (.cons (WK.lst fun r P=>absurd P qE) .nil)));refine qd.of_sound (qe.of_awp call3 func3 rfl (qh zKr) zKr (pl:={}) ?_);simp[go_sem];refine qc.pure qnU .nil ?_;simp[go_sem]
 first|refine qc.pure a1 a2 ?_ | (refine qg.intro zKr ?_;simp[go_sem];refine qc.pure a1 a2 ?_)
 cases hF:fitB ts m 0 [] (yT ts) with
 |false =>
  simp[go_sem];exact .zsc _
 |true =>
  obtain⟨k,R,F⟩:=fit_p hs hF;obtain rfl:k=0:=zOm;clear R;have a3:=fun n=>qnR m F.ma.gsc (zW1 F.st) n
  simp[go_sem];refine qc.pure (a3 f) (wkS m f) ?_;cases c1:smB m f with
  |false =>
   simp[go_sem];exact .zsc _
  |true =>
  simp[go_sem];refine qc.pure (a3 g) (wkS m g) ?_;cases c2:smB m g with
  |false =>
   simp[go_sem];exact .zsc _
  |true =>
  simp[go_sem];refine qc.pure (qbI f) (wk1 f) ?_;by_cases c3:kd f.op=102
  case neg =>
   rw[decide_eq_false c3];simp[go_sem];exact .zsc _
  rw[decide_eq_true c3];simp[go_sem];refine qc.pure (qbI g) (wk1 g) ?_;by_cases c4:kd g.op=102
  case neg =>
   rw[decide_eq_false c4];simp[go_sem];exact .zsc _
  rw[decide_eq_true c4];have a8:yq ts=true:=by simp only[fitB,qB]at hF;exact hF.1
  have J:yT ts=[]:=by
   simp only[fitB,qB,decide_eq_true_eq]at hF;exact List.eq_nil_of_length_eq_zero hF.2.2.2.1
  have S:=qoP a8 hs;have SP:=S.sp J;have vf:=UK c1;have vg:=UK c2;have aa:=F.st;have h0:0<m.states.length:=F.p.st;have a4:=F.ma.gsc.sum m.sc.atoms.length;rw[zw]at a4;have L1:=qcJ S J (sumI m.sc.atoms) m.states.length zOm zOm vf;have L2:=qcJ S J (sumI m.sc.atoms) m.states.length zOm zOm vg;have wl:∀ n,WKs [eTS ts,aI (sumI m.sc.atoms),aI m.states.length,eNd n] [eTS ts,aI (sumI m.sc.atoms),aI m.states.length,eNd n]:=fun n => .zk (zA ts) (.zs (.zs (.zk (qz n) .nil)))
  simp[go_sem];refine qc.pure (Yd m.sc F.ma.gsc) (.zk (jx m.sc) .nil) ?_;simp[go_sem];refine qc.pure L1 (wl f) ?_;simp[go_sem];refine qc.pure L2 (wl g) ?_;cases l1:K4 ts (sumI m.sc.atoms) m.states.length f with
  |false =>
   simp[go_sem];exact .zsc _
  |true =>
  cases l2:K4 ts (sumI m.sc.atoms) m.states.length g with
  |false =>
   simp[go_sem];exact .zsc _
  |true =>
  have a5:qS (nk 41 [f,g])=true:=qoU c1 c2 c3 c4;have a9:qS (nk 30 [])=true:=by decide +kernel
  have H1:=UU S J F.ma h0 vf;have H2:=UU S J F.ma h0 vg;have H3:=UU S J F.ma h0 a5;have H4:=UU S J F.ma h0 a9;have H5:=qoT S J F.ma h0 vf;have of:OkF 24 f:=⟨yE vf,w6 vf,c3⟩;have H6:=formW F of;have I:∀ n,WKs [eTS ts,eMd m,eNd n] [eTS ts,eMd m,eNd n]:=fun n => .zk (zA ts) (.zk (yK m) (.zk (qz n) .nil))
  have t:∀(fl:Bool),WK (.agg [.lst false (ts.sorts.map Zp),.lst false (ts.fields.map uu),lPd ts.preds,.lst fl []]) (eTS (wf ts [])):=fun fl=>WK.aggs (.zk (Z8 ts _ zSp) (.zk (Z8 ts _ zSp) (.zk (Z8 ts _ zSp) (.cons (WK.lst fun r P=>absurd P qE) .nil))))
  have U:=XT (szN f) f (qm _) (yE vf).small;by_cases o:(hV ⟨ts,m⟩ f).2=0
  .obtain ⟨r,s,f1,g1,v1⟩:=KY o
   rw[qb9 f1 g1]at H1;rw[qb9 f1 (qoH _),Bool.and_true]at H4;rw[g1,qb7]at H5;have a0:(hV ⟨ts,m⟩ g).2=0->(hV ⟨ts,m⟩ (nk 41 [f,g])).2=0->(hV ⟨ts,m⟩ (nk 41 [f,g])).1=((r&&s)&&(hV ⟨ts,m⟩ g).1):=fun h2 h3=>by
    obtain⟨r2,s2,f2,g2,v2⟩:=KY h2;obtain⟨r3,s3,f3,g3,v3⟩:=KY h3;rw[f1]at f2 f3;cases f2;cases f3;rw[v2,v3,qoJ (x:=⟨ts,m⟩) SP vf vg a5 g1 g2 g3];cases r<;>cases s<;>cases s2<;>rfl
   have a6:anyN (fun n=>decide (n.op=47)) f=false->fmV ((den ⟨ts,m⟩ f).F ⟨0,[]⟩)=(s,0):=fun hc=>by rw[qcA hc g1];rfl
   generalize hV ⟨ts,m⟩ g=B at *
   generalize hV ⟨ts,m⟩ (nk 41 [f,g])=C at *
   generalize fmV ((den ⟨ts,m⟩ f).F ⟨0,[]⟩)=D at *
   generalize anyN (fun n=>decide (n.op=47)) f=hc at *
   obtain⟨b,h⟩:=B;obtain⟨c,i⟩:=C;obtain⟨y,l⟩:=D;simp only at a0 a6 H2 H3 H6;simp[go_sem]
   first|refine qc.pure H1 (I f) ?_ | (refine qg.intro zKr ?_;simp[go_sem];refine qc.pure H1 (I f) ?_) | (refine qg.intro zKr ?_;simp[go_sem,o];refine qc.pure H1 (I f) ?_)
   simp[go_sem]
   first|refine qc.pure H2 (I g) ?_ | (refine qg.intro zKr ?_;simp[go_sem];refine qc.pure H2 (I g) ?_) | (refine qg.intro zKr ?_;simp[go_sem,o];refine qc.pure H2 (I g) ?_)
   simp[go_sem]
   first|refine qc.pure (zh 41 [f,g]) (wN 41 [f,g]) ?_ | (refine qg.intro zKr ?_;simp[go_sem];refine qc.pure (zh 41 [f,g]) (wN 41 [f,g]) ?_) | (refine qg.intro zKr ?_;simp[go_sem,o];refine qc.pure (zh 41 [f,g]) (wN 41 [f,g]) ?_)
   simp[go_sem,qw]
   first|refine qc.pure H3 (I _) ?_ | (refine qg.intro zKr ?_;simp[go_sem];refine qc.pure H3 (I _) ?_) | (refine qg.intro zKr ?_;simp[go_sem,o];refine qc.pure H3 (I _) ?_)
   simp[go_sem]
   first|refine qc.pure (zh 30 []) (wN 30 []) ?_ | (refine qg.intro zKr ?_;simp[go_sem];refine qc.pure (zh 30 []) (wN 30 []) ?_) | (refine qg.intro zKr ?_;simp[go_sem,o];refine qc.pure (zh 30 []) (wN 30 []) ?_)
   simp[go_sem,qw]
   first|refine qc.pure H4 (I _) ?_ | (refine qg.intro zKr ?_;simp[go_sem];refine qc.pure H4 (I _) ?_) | (refine qg.intro zKr ?_;simp[go_sem,o];refine qc.pure H4 (I _) ?_)
   cases r<;>cases s
   all_goals
    simp[go_sem]
    first|refine qc.pure H5 (.cons (t true) (.zk (yK m) (.zk (qz f) .nil))) ?_ | (refine qg.intro zKr ?_;simp[go_sem];refine qc.pure H5 (.cons (t true) (.zk (yK m) (.zk (qz f) .nil))) ?_) | (refine qg.intro zKr ?_;simp[go_sem,o];refine qc.pure H5 (.cons (t true) (.zk (yK m) (.zk (qz f) .nil))) ?_)
    simp[go_sem]
    first|refine qc.pure U (wk1 f) ?_ | (refine qg.intro zKr ?_;simp[go_sem];refine qc.pure U (wk1 f) ?_) | (refine qg.intro zKr ?_;simp[go_sem,o];refine qc.pure U (wk1 f) ?_)
    simp[go_sem]
    first|refine qc.pure H6 (.cons (t true) (.zk (yK m) (.zs (.cons (WK.lst fun r P=>absurd P qE) (.zk (qz f) .nil))))) ?_ | (refine qg.intro zKr ?_;simp[go_sem];refine qc.pure H6 (.cons (t true) (.zk (yK m) (.zs (.cons (WK.lst fun r P=>absurd P qE) (.zk (qz f) .nil))))) ?_) | (refine qg.intro zKr ?_;simp[go_sem,o];refine qc.pure H6 (.cons (t true) (.zk (yK m) (.zs (.cons (WK.lst fun r P=>absurd P qE) (.zk (qz f) .nil))))) ?_)
    cases hc with
    |false =>
     have hD:=a6 rfl;simp only[ul]at hD;obtain⟨rfl,rfl⟩:=hD;by_cases hh:h=0
     .by_cases hi:i=0
      .have:=a0 hh hi
       simp at this;subst this;simp[go_sem,hh,hi];exact .zsc _
      .simp [go_sem,hh,hi]
       exact .zsc _
     .simp [go_sem,hh]
      exact .zsc _
    |true =>
     by_cases hh:h=0
     .by_cases hi:i=0
      .have:=a0 hh hi
       simp at this;subst this;simp[go_sem,hh,hi];exact .zsc _
      .simp [go_sem,hh,hi]
       exact .zsc _
     .simp [go_sem,hh]
      exact .zsc _
  .have a7:(fmV (gX ⟨ts,m⟩ f)).2=0->anyN (fun n=>decide (n.op=47)) f=false->fmV ((den ⟨ts,m⟩ f).F ⟨0,[]⟩)=((fmV (gX ⟨ts,m⟩ f)).1,0):=fun h1 hc=>by
    have hn:NZ (gX ⟨ts,m⟩ f):=UP _ _;cases hg:gX ⟨ts,m⟩ f with
    |error e=>rw[hg]at h1 hn;exact absurd h1 (hn e rfl)
    |ok s=>rw[qcA hc hg];rfl
   generalize hV ⟨ts,m⟩ f=A at *
   generalize hV ⟨ts,m⟩ g=B at *
   generalize hV ⟨ts,m⟩ (nk 41 [f,g])=C at *
   generalize hV ⟨ts,m⟩ (nk 30 [])=E at *
   generalize fmV ((den ⟨ts,m⟩ f).F ⟨0,[]⟩)=D at *
   generalize fmV (gX ⟨ts,m⟩ f)=G at *
   generalize anyN (fun n=>decide (n.op=47)) f=hc at *
   obtain⟨a,e⟩:=A;obtain⟨b,h⟩:=B;obtain⟨c,i⟩:=C;obtain⟨d,j⟩:=E;obtain⟨y,l⟩:=D;obtain⟨x,k⟩:=G;simp only at o a7 H1 H2 H3 H4 H5 H6;simp[go_sem]
   first|refine qc.pure H1 (I f) ?_ | (refine qg.intro zKr ?_;simp[go_sem];refine qc.pure H1 (I f) ?_) | (refine qg.intro zKr ?_;simp[go_sem,o];refine qc.pure H1 (I f) ?_)
   simp[go_sem]
   first|refine qc.pure H2 (I g) ?_ | (refine qg.intro zKr ?_;simp[go_sem];refine qc.pure H2 (I g) ?_) | (refine qg.intro zKr ?_;simp[go_sem,o];refine qc.pure H2 (I g) ?_)
   simp[go_sem]
   first|refine qc.pure (zh 41 [f,g]) (wN 41 [f,g]) ?_ | (refine qg.intro zKr ?_;simp[go_sem];refine qc.pure (zh 41 [f,g]) (wN 41 [f,g]) ?_) | (refine qg.intro zKr ?_;simp[go_sem,o];refine qc.pure (zh 41 [f,g]) (wN 41 [f,g]) ?_)
   simp[go_sem,qw]
   first|refine qc.pure H3 (I _) ?_ | (refine qg.intro zKr ?_;simp[go_sem];refine qc.pure H3 (I _) ?_) | (refine qg.intro zKr ?_;simp[go_sem,o];refine qc.pure H3 (I _) ?_)
   simp[go_sem]
   first|refine qc.pure (zh 30 []) (wN 30 []) ?_ | (refine qg.intro zKr ?_;simp[go_sem];refine qc.pure (zh 30 []) (wN 30 []) ?_) | (refine qg.intro zKr ?_;simp[go_sem,o];refine qc.pure (zh 30 []) (wN 30 []) ?_)
   simp[go_sem,qw]
   first|refine qc.pure H4 (I _) ?_ | (refine qg.intro zKr ?_;simp[go_sem];refine qc.pure H4 (I _) ?_) | (refine qg.intro zKr ?_;simp[go_sem,o];refine qc.pure H4 (I _) ?_)
   simp[go_sem,o]
   first|refine qc.pure H5 (.cons (t true) (.zk (yK m) (.zk (qz f) .nil))) ?_ | (refine qg.intro zKr ?_;simp[go_sem];refine qc.pure H5 (.cons (t true) (.zk (yK m) (.zk (qz f) .nil))) ?_) | (refine qg.intro zKr ?_;simp[go_sem,o];refine qc.pure H5 (.cons (t true) (.zk (yK m) (.zk (qz f) .nil))) ?_)
   simp[go_sem,o]
   first|refine qc.pure U (wk1 f) ?_ | (refine qg.intro zKr ?_;simp[go_sem];refine qc.pure U (wk1 f) ?_) | (refine qg.intro zKr ?_;simp[go_sem,o];refine qc.pure U (wk1 f) ?_)
   simp[go_sem,o]
   first|refine qc.pure H6 (.cons (t true) (.zk (yK m) (.zs (.cons (WK.lst fun r P=>absurd P qE) (.zk (qz f) .nil))))) ?_ | (refine qg.intro zKr ?_;simp[go_sem];refine qc.pure H6 (.cons (t true) (.zk (yK m) (.zs (.cons (WK.lst fun r P=>absurd P qE) (.zk (qz f) .nil))))) ?_) | (refine qg.intro zKr ?_;simp[go_sem,o];refine qc.pure H6 (.cons (t true) (.zk (yK m) (.zs (.cons (WK.lst fun r P=>absurd P qE) (.zk (qz f) .nil))))) ?_)
   by_cases R:k=0
   .cases hc with
    |false =>
     have hD:=a7 R rfl;simp only[ul]at hD;obtain⟨rfl,rfl⟩:=hD;simp[go_sem,o,R];exact .zsc _
    |true =>
     simp[go_sem,o,R];exact .zsc _
   .simp [go_sem,o,R]
    exact .zsc _
end
end W50
namespace DL
open Go.EvW Go.RowKit Go.ChangeShapes Go.WideShapes
theorem own:ownKnob qb.godebug=none:=by kernel_rfl
theorem laid:laidOutB qb=true:=by kernel_rfl
abbrev tabL : List (String × DataW Unit) := [("math/bits.deBruijn32tab", Rows.laid_math_bits_deBruijn32tab), ("math/bits.deBruijn64tab", Rows.laid_math_bits_deBruijn64tab), ("internal/strconv.uint64pow10", Rows.laid_internal_strconv_uint64pow10)]
def pows:List Int:=[1,10,100,1000,10000,100000,1000000,10000000,100000000,1000000000,10000000000,100000000000,1000000000000,10000000000000,100000000000000,1000000000000000,10000000000000000,100000000000000000,1000000000000000000,10000000000000000000]
theorem gPow : qb.globalNamed "internal/strconv.uint64pow10" = some 0 := by kernel_rfl
theorem tPow:(qb.globals[0]?).map (·.type)=some 412:=by kernel_rfl
theorem uPow:qb.underlying 412=some (.array 20 359):=by kernel_rfl
theorem uU64:qb.underlying 359=some (.int .u64):=by kernel_rfl
theorem qoW{W:j3}(h:laidMetH qb tabL W):Zf (·<W.heap.size) W.heap:=by
  rw[MakeChecks.laidMetH_plain _ _ _ zKr]at h;obtain⟨U,C,_⟩:=h
  obtain ⟨g, t, j, l, p, hg, I, J, P⟩ := mN C ("internal/strconv.uint64pow10", Rows.laid_internal_strconv_uint64pow10) zSp
  obtain rfl:=Option.some.inj (gPow.symm.trans hg);obtain rfl:=Option.some.inj (tPow.symm.trans I);have R:j.toList=pows.map fun i => .int .u64 i:=qkQ uPow uU64 zKr zKr (ns:=pows) P
  obtain⟨e,T,r⟩:=qkR gPow J;intro x hx;have hx:x∈[(0,pows.map fun i=>Value.int .u64 i)]:=hx;rw[qL]at hx;subst hx;refine⟨(Array.getElem?_eq_some_iff.1 r).1,e,T,?_⟩;show W.heap[0]?=_;rw[r];have:j=(pows.map fun i=>Value.int .u64 i).toArray:=by rw[<-R]
  rw[this]
theorem qoX(os:Os)(args:Array uk):laidMetH qb tabL ((World.doorLaid qb 4000 os).forCall (fun _ _=>0) ⟨#[],args,[]⟩).memory:=
 laidMetH_of_parts3 (fuel:=8) (laidMet_of_run' 8 zKr zKr) zKr zKr
end DL
namespace DM
open Go.EvW E3 DT
instance:Inhabited Rl:=⟨⟨0,[]⟩⟩
instance:Inhabited Sc:=⟨⟨[],0⟩⟩
instance:Inhabited Md:=⟨⟨default,[],0⟩⟩
theorem qoY:qb.underlying 105=some (.slice 104):=by kernel_rfl
theorem qoZ:qb.underlying 31=some (.slice 105):=by kernel_rfl
theorem shRel(N:Nat):ShU qb N 104 cRel (fun _=>True):=
 ((ShU.struct (fs:=[(3,0),(28,1)]) zKr (.cons' (o':=1) zKr (Q0 N) (.cons' (o':=2) zKr (Kb N) (.nil 2))) zKr).map
  (fun x=>(⟨x.1,x.2.1⟩:Rl)) (fun _=>rfl) (fun x h=>trivial)).le zOm
theorem qo0(N:Nat):ShU qb N 105 (fun b:List Rl=>[.lst false (b.map cRel)]) (fun _=>True):=
 ((ShU.slice qoY (shRel N) (fun _ _=>zKr) (Nat.lt_of_lt_of_eq (show 0<2 by omega) zKr) zKr).le zOm).map (fun l=>l) (fun _=>rfl) fun _ _=>trivial
theorem qo1(N:Nat):ShU qb N 31 (fun b:List (List Rl)=>[lSt b]) (fun _=>True):=
 ((ShU.slice qoZ (qo0 N) (fun _ _=>zKr) (Nat.lt_of_lt_of_eq (show 0<1 by omega) zKr) zKr).le zOm).map (fun l=>l) (fun _=>rfl) fun _ _=>trivial
theorem qo2(N:Nat):ShU qb N 30 (fun s:Sc=>[lI s.atoms,aI s.steps]) (fun _=>True):=
 ((ShU.struct (fs:=[(28,0),(3,1)]) zKr (.cons' (o':=1) zKr (Kb N) (.cons' (o':=2) zKr (Q0 N) (.nil 2))) zKr).map
  (fun x=>(⟨x.1,x.2.1⟩:Sc)) (fun _=>rfl) (fun x h=>trivial)).le zOm
theorem qo3(N:Nat):ShU qb N 33 cMd (fun _=>True):=
 ((ShU.struct (fs:=[(30,0),(31,2),(3,3)]) zKr (.cons' (o':=2) zKr (qo2 N) (.cons' (o':=3) zKr (qo1 N) (.cons' (o':=4) zKr (Q0 N) (.nil 4)))) zKr).map
  (fun x=>(⟨x.1,x.2.1,x.2.2.1⟩:Md)) (fun _=>rfl) (fun x h=>trivial)).le zOm
theorem qo4:Qa qb 33 eMd (fun _=>True):=Qa.struct zKr qo3
end DM
end Go.Proofs.YtpagnklaanbmbaaGreatDoor
