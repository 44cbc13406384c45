/-
  Own library, part 8: an abstract reading of values and a calculus over it; contracts of functions; plain lemmas.
-/
import Derived.KernelRfl
import Derived.Test.YtfednihcpihlgaaGreatDoorMg
set_option linter.unusedVariables false
set_option linter.unusedSimpArgs false
set_option maxRecDepth 100000
open Go renaming Program->qb
open Go.Proofs.Tryz renaming prog->qc
open List renaming getElem?_eq_some_iff->qi,mem_map->qk,getElem_mem->qq,range->qs,mem_cons->qv,getElem?_eq_getElem->qz,not_mem_nil->qI,getElem?_append_left->qJ,getElem?_set_self->qL,mem_append->qM,take_length->qR,mem_singleton->qY,mem_cons_of_mem->za,length_append->zb,map_append->zh,mem_cons_self->zj,drop_eq_getElem_cons->zy,all_eq_true->zC,append_nil->zF,append_assoc->zJ,length_cons->zK,getElem?_append_right->zN,length_map->zW,getD_eq_getElem?_getD->z6,take_of_length_le->yg,drop_length->yA,cons_append->yG,mem_filter->jy,nil_append->vd,take_succ_eq_append_getElem->vP,getElem?_cons_succ->vQ,getElem?_eq_none->uU,mem_iff_getElem->wN,flatMap_cons->wO,mem_flatMap->wP,getElem_of_mem->Zu,getElem_map->VE,drop_eq_nil_of_le->VH
open Nat renaming le_refl->qo,le_trans->zG
open Go.IntKind renaming i64->qp
open Option.some renaming injEq->qt
open Bool renaming and_eq_true->qF
open Int renaming mul_le_mul->jz,le_refl->vS
open Prod.mk renaming injEq->uz
namespace Go.Proofs.YtfednihcpihlgaaGreatDoor
open Go Go.Ev Go.Proofs Tryz
namespace QO
open YF Y9 Y10 Y1 Y2 Y3 Y12 Y13 P1 P2 QD QE QF QH QI QJ QL QN PG PC
section
variable {ts:TS}
theorem qdV{n L S g b}(e:eRS S=eRS g)(h:prC ts n L S b):prC ts n L g b:=by
 grind [prC]
theorem qq7{n a b}(j:n.op=6\/n.op=14\/n.op=7\/n.op=8\/n.op=32\/n.op=33):∃ S,prC ts n [qr a,qr b] S (decide (a.ar=b.ar))/\(a.ar=b.ar->kd n.op=101->S=qr (uh n.op a b)):=by
 have l:∀ op:Int,op=6\/op=14->uh op a b=kSum a b:=fun op h=>by unfold uh;rw[if_pos h]
 by_cases g:a.ar=b.ar
 .rcases j with h|h|h|h|h|h
  .exact ⟨_,ap6 ts n _ _ _ h (by have:=vq (qr a) (qr b);rw[Vv g]at this;exact this),fun _ _=>by grind⟩
  .exact ⟨_,ap14 ts n _ _ _ h (by have:=vq (qr a) (qr b);rw[Vv g]at this;exact this),fun _ _=>by grind⟩
  .exact ⟨_,ap7 ts n _ _ _ h (by have:=UF (qr a) (qr b);rw[qqM g]at this;exact this),fun _ _=>by rw[h];rfl⟩
  .exact ⟨_,ap8 ts n _ _ h,fun _ _=>by rw[h];rfl⟩
  .exact ⟨_,ap32 ts n _ _ h,fun _ i=>by rw[h]at i;exact absurd i zDe⟩
  .exact ⟨_,ap33 ts n _ _ h,fun _ i=>by rw[h]at i;exact absurd i zDe⟩
 .rcases j with h|h|h|h|h|h
  .exact ⟨_,ap6 ts n _ _ _ h (vq (qr a) (qr b)),fun e=>absurd e g⟩
  .exact ⟨_,ap14 ts n _ _ _ h (vq (qr a) (qr b)),fun e=>absurd e g⟩
  .exact ⟨_,ap7 ts n _ _ _ h (UF (qr a) (qr b)),fun e=>absurd e g⟩
  .exact ⟨_,ap8 ts n _ _ h,fun e=>absurd e g⟩
  .exact ⟨_,ap32 ts n _ _ h,fun e=>absurd e g⟩
  .exact ⟨_,ap33 ts n _ _ h,fun e=>absurd e g⟩
theorem qq8(ok:okTS ts){n a}(l:okKd ts.sS.length a)(o:n.op=11\/n.op=12\/n.op=13):∃ S,prC ts n [qr a] S (decide (a.ar=2))/\(a.ar=2->S=qr (binK ts.sS.length n.op a)):=by
 have i:=ok.ns;by_cases g:a.ar=2
 .have p:=Us l g i
  rcases o with h|h|h
  .exact ⟨_,ap11 ts n _ _ h (by have:=qdF (qr a);rw[qqS l i g]at this;exact this),fun _=>by rw[h];rfl⟩
  .exact ⟨_,ap12 ts n _ _ h p,fun _=>by rw[h];rfl⟩
  .refine ⟨_,ap13 ts ok n _ _ (qr (kSum (kClo a) (zD ts.sS.length 2))) h p ?_,fun _=>by rw[h];rfl⟩
   have:=vq (qr (kClo a)) (qr (zD ts.sS.length 2));rw[Vv (show (kClo a).ar=2 from (UN l g).2)]at this;exact this
 .have j:=l.ar
  rcases o with h|h|h
  .exact ⟨_,ap11 ts n _ _ h (qdF (qr a)),fun e=>absurd e g⟩
  .exact ⟨_,ap12 ts n _ _ h (qdU (qr a) j),fun e=>absurd e g⟩
  .exact ⟨_,ap13 ts ok n _ _ _ h (qdU (qr a) j) (vq _ _),fun e=>absurd e g⟩
theorem qq9(ts)(ok:okTS ts)(n l L)(e1:n.op≠1)(a0:n.op≠15)
  (h1:n.op=5\/n.op=11\/n.op=12\/n.op=13->∃ a,l=[some a]/\L=[qr a]/\okKd ts.sS.length a)
  (h2:n.op=6\/n.op=14\/n.op=7\/n.op=8\/n.op=32\/n.op=33\/n.op=9\/n.op=10->∃ a b,l=[some a,some b]/\L=[qr a,qr b]/\okKd ts.sS.length a/\okKd ts.sS.length b) :
  ∃ S b,prC ts n L S b/\ApE n.op (yk ts.sS.length n.op n.n n.pos l) S b:=by
 have t:=ok.ns;by_cases j:n.op=2
 .refine ⟨qr ⟨n.n,[]⟩,true,qdV (qdS n.n) (ap2 ts n L j),?_⟩
  unfold yk;rw[if_pos j];exact⟨rfl,fun _=>⟨_,rfl,rfl⟩⟩
 by_cases o:n.op=3
 .refine ⟨_,true,ap3 ts ok n L o,?_⟩
  unfold yk;rw[if_neg j,if_pos o];exact⟨rfl,fun _=>⟨_,rfl,rfl⟩⟩
 by_cases r:n.op=4
 .refine ⟨_,true,ap4 ts ok n L r,?_⟩
  unfold yk;rw[if_neg j,if_neg o,if_pos r];exact⟨rfl,fun _=>⟨_,rfl,rfl⟩⟩
 by_cases g1:n.op=5\/n.op=11\/n.op=12\/n.op=13
 .obtain ⟨a,rfl,rfl,C⟩:=h1 g1
  rw[apK1,if_neg j,if_neg o,if_neg r];by_cases J:n.op=5
  .rw [if_pos J]
   exact⟨_,true,ap5 ts n _ J,rfl,fun _=>⟨_,rfl,rfl⟩⟩
  have g:n.op=11\/n.op=12\/n.op=13:=zOm;rw[if_neg J,if_pos g];obtain⟨S,P,R⟩:=qq8 ok C g;refine⟨S,_,P,?_⟩;by_cases i:a.ar=2
  .rw [if_pos i]
   exact⟨decide_eq_true i,fun _=>⟨_,rfl,R i⟩⟩
  .rw [if_neg i]
   exact decide_eq_false i
 by_cases g2:n.op=6\/n.op=14\/n.op=7\/n.op=8\/n.op=32\/n.op=33\/n.op=9\/n.op=10
 .obtain ⟨a,b,rfl,rfl,C,T⟩:=h2 g2
  have ra:=C.ar;have rb:=T.ar;rw[apK2,if_neg j,if_neg o,if_neg r];by_cases U:n.op=6\/n.op=14\/n.op=7\/n.op=8\/n.op=32\/n.op=33
  .rw [if_pos U]
   obtain⟨S,P,R⟩:=qq7 (ts:=ts) (n:=n) (a:=a) (b:=b) U;refine⟨S,_,P,?_⟩;by_cases i:a.ar=b.ar
   .rw [if_pos i]
    exact⟨decide_eq_true i,fun hk=>⟨_,rfl,R i hk⟩⟩
   .rw [if_neg i]
    exact decide_eq_false i
  rw[if_neg U];by_cases I:n.op=9
  .rw [if_pos I]
   by_cases i:1<=a.ar+b.ar-2/\a.ar+b.ar-2<=3
   .rw [if_pos i]
    refine⟨_,_,ap9 ts n _ _ (qr (zQ a b)) I (by show 0<=a.ar/\a.ar<=1000;omega) (by show 0<=b.ar/\b.ar<=1000;omega) ?_,decide_eq_true i,fun _=>⟨_,rfl,rfl⟩⟩;rw[<-qdK C T t i];exact we _ _ (by show 0<=a.ar/\a.ar<=1000;omega) (by show 1<=b.ar/\b.ar<=1000;omega)
   .rw [if_neg i]
    exact⟨_,_,ap9 ts n _ _ _ I (by show 0<=a.ar/\a.ar<=1000;omega) (by show 0<=b.ar/\b.ar<=1000;omega) (we _ _ (by show 0<=a.ar/\a.ar<=1000;omega) (by show 1<=b.ar/\b.ar<=1000;omega)),decide_eq_false i⟩
  have p:n.op=10:=zOm;rw[if_neg I,if_pos p];by_cases i:a.ar+b.ar<=3
  .rw [if_pos i]
   refine⟨_,_,ap10 ts n _ _ (qr (uL a b)) p (by show 0<=a.ar/\a.ar<=1000;omega) (by show 0<=b.ar/\b.ar<=1000;omega) ?_,decide_eq_true i,fun _=>⟨_,rfl,rfl⟩⟩;rw[<-qqN C T t i];exact qdG _ _ (by show 0<=a.ar/\a.ar<=1000;omega) (by show 0<=b.ar/\b.ar<=1000;omega)
  .rw [if_neg i]
   exact⟨_,_,ap10 ts n _ _ _ p (by show 0<=a.ar/\a.ar<=1000;omega) (by show 0<=b.ar/\b.ar<=1000;omega) (qdG _ _ (by show 0<=a.ar/\a.ar<=1000;omega) (by show 0<=b.ar/\b.ar<=1000;omega)),decide_eq_false i⟩
 refine⟨zR,true,apO ts n L j o r zOm zOm zOm zOm zOm zOm zOm zOm zOm zOm zOm zOm,?_⟩;rw[UM j o r zOm zOm zOm zOm zOm zOm zOm zOm zOm zOm zOm zOm];refine⟨rfl,fun hk=>?_⟩;have:=UO hk;omega
theorem qrA{ns}(o:ns<=4){q}(h:okKd ns q)(l:q.ar=1)(i):ui i q=true↔∀ k,k<4->(qr q).2 k=true->(k:Int)=i:=by
 unfold ui;rw[zC];constructor
 .intro p k J r
  rw[yW,l]at r;have:=p _ r.2;simpa[dig,pad] using this
 .intro p t C
  obtain⟨j,I,e⟩:=Jc h o C;rw[l]at I e;have g:j<4:=I;have:=p j g ((yW q j).2 ⟨by rw[l];exact g,by rw[l,<-e];exact C⟩);rw[e];simp[dig,pad,this]
def ExR(c:Ck)(s:Scp)(inn:Bool)(n:Nd):Prop:=∃ S:RS,qg qc 104 [eVw c inn,lVr (envS s),eNd n] (.tup [eRS S,eDg (dgOf (exam c s inn n))])/\(kd n.op=101->∀ q,exam c s inn n = .ok (some q)->S=qr q)
theorem qdW(c inn):HF (eVw c inn):=HF.agg fun x hx=>by
 simp only[qv,qI,or_false]at hx;rcases hx with rfl|rfl|rfl|rfl|rfl|rfl|rfl
 .exact Uw _
 .exact Yn _
 .exact Ze _
 .exact Uv _
 .exact VA _
 .exact HF.sc _
 .exact HF.sc _
theorem wkE(c inn l n):WKs [eVw c inn,lVr l,eNd n] [eVw c inn,lVr l,eNd n] := .zk (qdW c inn) (.zk (qq2 _) (.zk (qK n) .nil))
theorem wH(d):HF (eDg d):=HF.agg fun x hx=>by
 simp only[qv,qI,or_false]at hx;rcases hx with rfl|rfl<;>exact HF.sc _
theorem qdX{c nm p}(i:okCk c)(h:zt c nm=some p):(c.ts.sT.any fun p=>decide (p.name=nm))=true:=by
 obtain⟨_,hp⟩:=Qe i h;unfold zt at h;rw[List.findIdx?_eq_some_iff_getElem]at h;obtain⟨j,g,_⟩:=h;simp only[List.getElem_take]at g;exact List.any_eq_true.2 ⟨_,qq hp,g⟩
theorem qrB{nm}(h:zt (mkCk ts ts.sT.length) nm=none):(ts.sT.any fun p=>decide (p.name=nm))=false:=by
 unfold zt at h;rw[List.findIdx?_eq_none_iff]at h;rw[List.any_eq_false];intro p hp;have:p∈ts.sT.take ts.sT.length:=by rw[qR];exact hp
 have:=h p this
 grind
theorem Wf{n}(i:WfN n)(h:n.op=47):∀ k,k∈n.sD->kd k.op=101:=by
 have g:=i.shape;have e:shp n.op n.sD.length=some (List.replicate (min n.sD.length 401) 101):=by
  unfold shp;rw[zIn,zIn,zIn,zIn,zIn,zIn,zIn,if_pos h]
 rw[e]at g;simp only[qt]at g;intro k j;have:kd k.op∈n.sD.map fun k=>kd k.op:=qk.2 ⟨k,j,rfl⟩
 grind
theorem qrC(c)(hc:okCk c)(s)(hs:ScOk c.ts.sS.length s)(n)(hw:WfN n)(b1:n.op=47)(ih:∀ k,k∈n.sD->ExR c s true k)(inn) :
  qg qc 151 [eVw c inn,lVr (envS s),eNd n] (eDg (dgOf (uO c s n))):=by
 generalize hR:uO c s n=R;unfold uO at hR;refine qSQ call151 func151 rfl { mt:=[3] } ?_;have be:=hc.ts.np;have bg:=hw.len;have b2:=Vz c hc n.name;have b3:=Vz (mkCk c.ts c.ts.sT.length) (v6 hc.ts (qo _)) n.name;have ao:∀ k:Int,WKs [eTS c.ts,aI k,aS n.name] [eTS c.ts,aI k,aS n.name]:=fun k => .zk (zq _) (.zs (.zs .nil))
 simp[go_sem];refine pL b2 (ao _) ?_;cases T:zt c n.name with
 |none =>
  rw[T]at hR;simp[go_sem,idxO];refine pL b3 (ao _) ?_;cases a3:zt (mkCk c.ts c.ts.sT.length) n.name with
  |none =>
   rw[qrB a3]at hR;subst hR;simp[go_sem,idxO,dgOf];exact .hf _ (wH (40,n.pos))
  |some p =>
   have ha:(c.ts.sT.any fun p=>decide (p.name=n.name))=true:=qdX (c:=mkCk c.ts c.ts.sT.length) (v6 hc.ts (qo _)) a3;rw[ha]at hR;subst hR;have ab:¬(p:Int)<0:=zOm;simp[go_sem,idxO,dgOf,ab];exact .hf _ (wH (45,n.pos))
 |some p =>
  obtain⟨_,ad⟩:=Qe hc T;rw[qdX hc T,if_pos rfl,T]at hR;simp only[qz ad]at hR;have ab:¬(p:Int)<0:=zOm;have bh:=hc.ts.pl _ (qq ad);simp[go_sem,idxO,ad,ab];generalize bi:c.ts.sT[p]=C at *
  by_cases a1:C.params.length=n.sD.length
  .rw [if_pos a1]at hR
   simp[go_sem,a1];have b4:=Wf hw b1;refine aA C.params.length (fun k U=>U.tm 1=lVr (envS s)/\U.tm 3 = .ptr 0 0/\U.tm 5 = .ip (cNd n)/\U.tm 6 = .ptr 1 0/\U.tm 8=lPm C.params/\U.tm 9=aI k/\U.mu[0]?=some (.arr (cVw c true))/\U.mu[1]?=some (.arr [aI 0,aI 0])/\zY c s n.pos (C.params.drop k) (n.sD.drop k)=R) ?_ ?_
   .simp [go_sem, *]
   rintro k U hk ⟨e1,e3,e5,e6,e8,e9,m0,m1,t⟩;have a8:1<U.mu.length:=(qi.1 m1).1;have I:∀(l:List Cell)(i:Nat),i<U.mu.length->(U.mu++l)[i]?=U.mu[i]?:=fun l i hi=>qJ hi
   have a0:∀ c,(U.mu.set 1 c)[1]?=some c:=fun c=>qL a8
   have ae:∀ c (l:List Cell),((U.mu++l).set 1 c)[1]?=some c:=fun c l=>qL zSo
   have af:∀(l:List Cell)(h:0<(U.mu++l).length),(U.mu++l)[0] = .arr (cVw c true):=fun l h=>by
    grind
   have ag:∀(l:List Cell)(h:1<(U.mu++l).length),(U.mu++l)[1] = .arr [aI 0,aI 0]:=fun l h=>by
    grind
   by_cases aq:k=C.params.length
   .subst aq
    rw[yA,a1,yA]at t;simp only[zY]at t;subst t;simp[go_sem,e6,e8,e9,m1,a1,dgOf,a0];exact .hf _ (wH (0,0))
   have o:k<C.params.length:=zOm;have r:k<n.sD.length:=zOm;have w1:=zWk k;obtain⟨S,hi,hS⟩:=ih n.sD[k] (qq r);rw[zy o,zy r]at t;simp only[zY]at t;have b5:=vH hc (szN n.sD[k]) n.sD[k] s true;have au:=b4 n.sD[k] (qq r);have av:=hw.kid (qq r);simp[go_sem,e8,e9,o];refine fD [0,1,2,3,4,5,6,7,8,9,10,11,12,13,14] [(0,0,[]),(1,0,[]),(2,0,[]),(3,0,[]),(4,0,[]),(5,0,[]),(6,0,[]),(7,1,[]),(8,0,[]),(9,0,[]),(10,0,[]),(11,2,[0,3,6]),(12,2,[0,3,6]),(13,1,[]),(14,1,[])] zKr zKr zSi ?_;simp[go_sem,e1,e3,e5,e9,m0,r];refine pL hi (wkE c true _ _) ?_;cases hx:exam c s true n.sD[k] with
   |error e =>
    rw[hx]at t;subst t;have he:=Vo c (szN n.sD[k]) n.sD[k] s true e (qo _) hx;have b6:¬e.1=0:=zOm;simp[go_sem,e3,qu,af,dgOf];rw[if_pos (ze _)];generalize hP:putCells _ 0 (aI S.1 :: hB S.2)=P;have ah:P=aI S.1 :: hB S.2:=by rw[<-hP];exact pc (aI 0) _ (fun _=>false) _
    subst ah;clear hP;simp[go_sem,e6,b6];simp[go_sem,ag,e6];exact .hf _ (wH e)
   |ok ko =>
    obtain⟨q,rfl,hq⟩:=b5 ko (qo _) av hs hx au;have b7:=hS au q hx;subst b7;rw[hx]at t;simp only at t;have b8:=hc.ts.ns;have aw:(qr q).1=q.ar:=rfl;have ax:=fun h=>qrA b8 hq h C.params[k].2
    generalize qr q=Q at *
    simp[go_sem,e3,qu,af,dgOf];rw[if_pos (ze _)];generalize hP:putCells _ 0 (aI Q.1 :: hB Q.2)=P;have ah:P=aI Q.1 :: hB Q.2:=by rw[<-hP];exact pc (aI 0) _ (fun _=>false) _
    subst ah;clear hP;by_cases a2:q.ar=1
    .rw [if_pos a2]at t
     have a4:Q.1=1:=aw.trans a2;simp[go_sem,qu,a4];have bc:C.params[k].2<4/\0<=C.params[k].2:=by grind
     refine aA 4 (fun j g=>∃ b,2<=b/\g.tm 10 = .ptr b 0/\g.mu[b]?=some (.arr (aI 1 :: hB Q.2))/\g.tm 1=lVr (envS s)/\g.tm 3 = .ptr 0 0/\g.tm 5 = .ip (cNd n)/\g.tm 6 = .ptr 1 0/\g.tm 8=lPm C.params/\g.tm 9=aI k/\g.tm 12=aI j/\g.mu[0]?=some (.arr (cVw c true))/\g.mu[1]?=some (.arr [aI 0,aI 0]) /\
      ∀ i:Nat,i<j->Q.2 i=true->(i:Int)=C.params[k].2) ?_ ?_
     .exact ⟨U.mu.length,zOm,zSi,zSi,zS1 e1,zS1 e3,zS1 e5,zS1 e6,zS1 e8,zS1 e9,zSi,by simp only[qB];rw[I _ _ zOm];exact m0,by simp only[qB];rw[I _ _ zOm];exact m1,fun i hi=>zOm⟩
     .clear e1 e3 e5 e6 e8 e9 m0 m1 I a0 ae af ag a8
      rintro j st2 hj ⟨b,hb,a5,mb,e1,e3,e5,e6,e8,e9,a9,m0,m1,a6⟩;have a8:1<st2.mu.length:=(qi.1 m1).1;have a0:∀ c,(st2.mu.set 1 c)[1]?=some c:=fun c=>qL a8
      by_cases ai:j<4
      .have aj:(j:Int)<4:=by omega
       have ay:j<64:=zOm;have J:(j:Int)<64:=zOm;have wj:=zWk j;have a7:=d1 (aI 1) Q.2 j ay;have ak:1+j<=64:=zOm;by_cases hQ:Q.2 j=true
       .rw [hQ]at a7
        by_cases aa:(j:Int)=C.params[k].2
        .have b9:=eq_true aa
         simp[go_sem,a5,mb,e8,e9,a9,aj,J,a7,ak,qu,o,b9,wj];refine⟨ai,aC ⟨b,hb,zS1 a5,zS1 mb,zS1 e1,zS1 e3,zS1 e5,zS1 e6,zS1 e8,zS1 e9,zSi,zS1 m0,zS1 m1,fun i hi h=>?_⟩⟩;by_cases al:i=j
         .subst al;exact aa
         .exact a6 i zOm h
        .have az:¬ui C.params[k].2 q=true:=fun h=>aa ((ax a2).1 h j ai hQ)
         rw[if_neg az]at t;subst t;simp[go_sem,a5,mb,e5,e6,e8,e9,a9,aj,J,a7,ak,qu,o,aa,m1,a0];exact .hf _ (wH (43,n.pos))
       .have hQ:Q.2 j=false:=by simpa using hQ
        rw[hQ]at a7;simp[go_sem,a5,mb,a9,aj,J,a7,ak,qu,wj];refine⟨ai,aC ⟨b,hb,zS1 a5,zS1 mb,zS1 e1,zS1 e3,zS1 e5,zS1 e6,zS1 e8,zS1 e9,zSi,zS1 m0,zS1 m1,fun i hi h=>?_⟩⟩;by_cases al:i=j
        .subst al;rw[hQ]at h;cases h
        .exact a6 i zOm h
      .have bb:j=4:=by omega
       subst bb;have an:ui C.params[k].2 q=true:=(ax a2).2 fun i hi h=>a6 i hi h
       rw[if_pos an]at t;simp[go_sem,e9,a9,w1];exact⟨o,aC ⟨zS1 e1,zS1 e3,zS1 e5,zS1 e6,zS1 e8,zSi,zS1 m0,zS1 m1,t⟩⟩
    .rw [if_neg a2]at t
     subst t;have a4:¬Q.1=1:=fun e=>a2 (aw.symm.trans e)
     simp[go_sem,e5,qu,a4,ag,e6];exact .hf _ (wH (42,n.pos))
  .rw [if_neg a1]at hR
   subst hR;have b0:¬n.sD.length=C.params.length:=fun e=>a1 e.symm
   simp[go_sem,b0,dgOf];exact .hf _ (wH (45,n.pos))
end
end QO
namespace QR
open Y9 Y10 Y1 Y2 Y12 P1 P2 QE QF QJ QL QN PG QO
theorem Vm{n}(i:WfN n)(h:n.op=15\/n.op=45\/n.op=46):∃ a f,n.sD=[a,f]/\kd a.op=101:=by
 have g:=i.shape;unfold shp at g;rw[zIn,zIn,zIn,if_pos zOm]at g;simp only[qt]at g
 match j:n.sD,g with
 | [a,f],g =>
  grind
 | [],g=>simp at g
 | [_],g=>simp at g
 |_ :: _ :: _ :: _,g=>simp at g
theorem five{J:Type}{l}{a b c d e:J}(g:l[0]?=some a)(i:l[1]?=some b)(j:l[2]?=some c)(o:l[3]?=some d)(p:l[4]?=some e):∃ r,l=a :: b :: c :: d :: e :: r:=by
 match l,g,i,j,o,p with
 |_ :: _ :: _ :: _ :: _ :: r,g,i,j,o,p =>
  simp_all
def VC:Res->RS
 | .ok (some k)=>if k.ar=1 then qr k else zR
 |_=>zR
theorem qrD(s d):FL (.tup [eRS s,eDg d]):=FL.tup fun x hx=>by
 rcases qv.1 hx with rfl|hx
 .exact FL.agg fun c g=>by
   rcases qv.1 g with rfl|g
   .exact FL.sc _
   .obtain ⟨j,_,rfl⟩:=qk.1 g
    exact FL.sc _
 .rw [qY]at hx;subst hx
  exact FL.agg fun c g=>by
   rcases qv.1 g with rfl|g
   .exact FL.sc _
   .rw [qY]at g;subst g;exact FL.sc _
theorem qrE(c)(hc:okCk c)(s)(hs:ScOk c.ts.sS.length s)(ay:s.length<=90000)(n a g)(hw:WfN n)(hb:n.op=15\/n.op=45\/n.op=46)(t:n.sD=[a,g])(a6:kd a.op=101)(inn)
  (af:ExR c s (inn||decide (n.op=15)) a) (ag:∀ k,okKd c.ts.sS.length k->k.ar=1->ExR c ((n.name,k) :: s) (inn||decide (n.op=15)) g) :
  qg qc 152 [eVw c inn,lVr (envS s),eNd n] (.tup [eRS (VC (exam c s (inn||decide (n.op=15)) a)),eDg (dgOf (ym c s (inn||decide (n.op=15)) n.name n.pos n.sD))]):=by
 have wa:=hw.kid (k:=a) (by rw[t];simp);obtain⟨S,ca,hS⟩:=af;have ah:=vH hc (szN a) a s (inn||decide (n.op=15));have a7:=Vo c (szN a) a s (inn||decide (n.op=15));rw[t];have w1:=wkE c (inn||decide (n.op=15)) (envS s) a;have ai:n.op=15->(inn||decide (n.op=15))=true:=fun h=>zP1 h
 have aj:¬n.op=15->(inn||decide (n.op=15))=inn:=fun h=>zP1 h
 generalize (inn||decide (n.op=15))=B at *
 generalize hE:dgOf (ym c s B n.name n.pos [a,g])=E;generalize hX:exam c s B a=X at *
 have a8:∀ k,okKd c.ts.sS.length k->k.ar=1->X = .ok (some k)->∃ S2,qg qc 104 [eVw c B,lVr (envS ((n.name,k) :: s)),eNd g] (.tup [eRS S2,eDg E]):=fun k hk o ak=>by
  obtain⟨S2,cg,_⟩:=ag k hk o;refine⟨S2,?_⟩;have a0:E=dgOf (exam c ((n.name,k) :: s) B g):=by
   rw[<-hE];simp only[ym,qX];rw[hX,ak];simp only;rw[if_pos o];cases exam c ((n.name,k) :: s) B g<;>rfl
  grind
 refine qSQ call152 func152 rfl { mt:=[3] } ?_;by_cases a2:n.op=15
 case' pos =>
  have a3:=ai a2;subst a3
 case' neg =>
  have a3:=aj a2;subst a3
 all_goals
  simp[go_sem,a2];refine fD [0,1,2,3,4,5,6,7,8,9,10,11,12,13] [(0,0,[]),(1,0,[]),(2,0,[]),(3,0,[]),(4,0,[]),(5,0,[]),(6,1,[]),(7,0,[]),(8,0,[]),(9,0,[]),(10,2,[0,3,5]),(11,2,[0,3,5]),(12,1,[]),(13,1,[])] zKr zKr zSi ?_;simp[go_sem,t];refine pL ca w1 ?_;simp[go_sem,qu,t];rw[if_pos (ze _)];generalize hP:putCells _ 0 (aI S.1 :: hB S.2)=P;have J:P=aI S.1 :: hB S.2:=by rw[<-hP];exact pc (aI 0) _ (fun _=>false) _
  subst J;clear hP;simp[go_sem]
 all_goals
  cases X with
  |error e =>
   have he:=a7 e (qo _) rfl;have al:¬e.1=0:=zOm;have a0:E=e:=by rw[<-hE];simp only[ym];rw[hX];rfl
   subst a0;clear hE;simp[go_sem,dgOf,al];refine fD [0,1,2,3] [(0,0,[]),(1,0,[]),(2,1,[1]),(3,1,[])] zKr zKr zSi ?_;simp[go_sem];exact .hf _ (vu zR E)
  |ok ko =>
   obtain⟨q,rfl,hq⟩:=ah ko (qo _) wa hs rfl a6;have an:=hS a6 q rfl;subst an;have a9:(qr q).1=q.ar:=rfl;by_cases o:q.ar=1
   .have R:(qr q).1=1:=a9.trans o
    obtain⟨S2,cg⟩:=a8 q hq o rfl;have a4:VC (.ok (some q))=qr q:=if_pos o;rw[a4];have aa:envS ((n.name,q) :: s)=envS s++[(n.name,qr q)]:=by simp[envS]
    rw[aa]at cg;generalize qr q=Q at *
    obtain⟨qa,T⟩:=Q;have a5:qa=1:=R;subst a5;simp[go_sem,dgOf];refine fD [0,1,2,4,5,6,7,8,10,11,12,13,3,9,14,15,16,17,18,19,20,21] [(0,0,[]),(1,0,[]),(2,0,[]),(4,0,[]),(5,0,[]),(6,0,[]),(7,0,[]),(8,0,[]),(10,0,[]),(11,0,[]),(12,0,[]),(13,0,[]),(3,1,[0,5,6,11,13]),(9,1,[0,11,13]),(14,1,[]),(15,0,[]),(16,0,[]),(17,0,[]),(18,2,[0,5,6,11,13]),(19,2,[0,5,6,11,13]),(20,1,[]),(21,1,[])] zKr zKr zSi ?_;simp[go_sem,qu,tk];rw[if_pos (ze _)];generalize hC:putCells _ 1 _=C;have ao:C=cVr (n.name,(1,T)):=by rw[<-hC];exact pcV n.name (1,T)
    subst ao;clear hC;have aq:(cVr (n.name,((1:Int),T))).length=66:=by simp[qu]
    have au:=kL (n.name,((1:Int),T));generalize hV:cVr (n.name,((1:Int),T))=V at *
    simp[go_sem,aq];rw[if_pos au];simp[go_sem,t];refine kN (lo:=5) (xs:=[]) (ys:=envS s) (OwnF.nil zSp) (by simp[qC]) (by simp[Wn];omega) fun az m1 av U=>?_
    have k0:=U 0 zOm;have k1:=U 1 zOm;have k2:=U 2 zOm;have k3:=U 3 zOm;have k4:=U 4 zOm;simp at k0 k1 k2 k3 k4;simp[go_sem,qu,tk,t,k0,k3];refine kN (xs:=[]++envS s) (ys:=[(n.name,(1,T))]) av (by simp[qC,hV]) (by simp[Wn];omega) fun b0 m2 a1 I=>?_
    rw[vd]at a1;have aw:=a1.2.2;replace k0:=(I 0 zOm).trans k0;replace k1:=(I 1 zOm).trans k1;replace k2:=(I 2 zOm).trans k2;replace k3:=(I 3 zOm).trans k3;replace k4:=(I 4 zOm).trans k4;have j:∀(l:List Cell)(i:Nat),i<m2.length->(m2++l)[i]?=m2[i]?:=fun l i hi=>qJ hi
    have g0:=(qi.1 k0).2;have g1:=(qi.1 k1).2;have g2:=(qi.1 k2).2;have g3:=(qi.1 k3).2;simp[go_sem,t,k0];refine fY (args':=[eVw c _,lVr (envS s++[(n.name,(1,T))]),eNd g]) cg ⟨.hf _ (qdW c _),rdVr a1,.hf _ (qK g),trivial⟩ (qrD S2 _) ?_;have p0:=fun l=>(j l 0 zOm).trans k0
    have p1:=fun l=>(j l 1 zOm).trans k1
    have p2:=fun l=>(j l 2 zOm).trans k2
    have p3:=fun l=>(j l 3 zOm).trans k3
    have p4:=fun l=>(j l 4 zOm).trans k4
    have ab:0<m2.length:=zOm;have ad:3<m2.length:=zOm;simp[go_sem,qu,tk,t,g0,g3,ab,ad,p3];rw[if_pos (ze _)];generalize hP:putCells _ 0 (cRS S2)=P;have J:P=cRS S2:=by rw[<-hP];exact pc (aI 0) _ (fun _=>false) _
    subst J;clear hP;simp[go_sem];obtain⟨rr,ae⟩:=five k0 k1 k2 k3 k4;have b1:m2.length=rr.length+5:=by rw[ae];rfl
    clear g0 g1 g2 g3 p0 p1 p2 p3 p4 j a1 I k0 k1 k2 k3 k4 aw ab ad;refine fD [0,1,2,3] [(0,0,[]),(1,0,[]),(2,1,[1]),(3,1,[])] zKr zKr zSi ?_;simp[go_sem,qu,tk,ae];rw[if_pos (ze _)];generalize hP:putCells _ 0 (aI 1 :: hB T)=P;have J:P=aI 1 :: hB T:=by rw[<-hP];exact pc (aI 0) (aI 1) (fun _=>false) T
    subst J;clear hP;simp[go_sem,qu,tk];exact .hf _ (vu (1,T) E)
   .have R:¬(qr q).1=1:=fun e=>o (a9.symm.trans e)
    have a4:VC (.ok (some q))=zR:=if_neg o;rw[a4];have a0:E=(42,n.pos):=by
     rw[<-hE];simp only[ym];rw[hX];simp only;rw[if_neg o];rfl
    subst a0;clear hE;generalize qr q=Q at *
    simp[go_sem,dgOf,R];refine fD [0,1,2,3,4,5] [(0,0,[]),(1,0,[]),(2,0,[]),(3,0,[]),(4,1,[2]),(5,1,[])] zKr zKr zSi ?_;simp[go_sem];exact .hf _ (vu zR (42,n.pos))
theorem qrF(ts)(ok:okTS ts)(n l)(r:n.op≠1)(o:n.op≠15)
  (t:n.op=5\/n.op=11\/n.op=12\/n.op=13->∃ a,l=[some a]/\okKd ts.sS.length a)
  (C:n.op=6\/n.op=14\/n.op=7\/n.op=8\/n.op=32\/n.op=33\/n.op=9\/n.op=10->∃ a b,l=[some a,some b]/\okKd ts.sS.length a/\okKd ts.sS.length b) :
  ∃ S b,(∀ L,((n.op=5\/n.op=11\/n.op=12\/n.op=13)\/(n.op=6\/n.op=14\/n.op=7\/n.op=8\/n.op=32\/n.op=33\/n.op=9\/n.op=10)->L=l.map setO)->prC ts n L S b)/\ApE n.op (yk ts.sS.length n.op n.n n.pos l) S b:=by
 by_cases P:(n.op=5\/n.op=11\/n.op=12\/n.op=13)\/(n.op=6\/n.op=14\/n.op=7\/n.op=8\/n.op=32\/n.op=33\/n.op=9\/n.op=10)
 .obtain ⟨S,b,c,a⟩:=qq9 ts ok n l (l.map setO) r o (fun h=>by obtain⟨a,rfl,p⟩:=t h;exact⟨a,rfl,rfl,p⟩) (fun h=>by obtain⟨a,b,rfl,p,I⟩:=C h;exact⟨a,b,rfl,rfl,p,I⟩)
  grind
 by_cases g:n.op=2
 .refine ⟨qr ⟨n.n,[]⟩,true,fun L _=>qdV (qdS n.n) (ap2 ts n L g),?_⟩
  unfold yk;rw[if_pos g];exact⟨rfl,fun _=>⟨_,rfl,rfl⟩⟩
 by_cases i:n.op=3
 .refine ⟨_,true,fun L _=>ap3 ts ok n L i,?_⟩
  unfold yk;rw[if_neg g,if_pos i];exact⟨rfl,fun _=>⟨_,rfl,rfl⟩⟩
 by_cases j:n.op=4
 .refine ⟨_,true,fun L _=>ap4 ts ok n L j,?_⟩
  unfold yk;rw[if_neg g,if_neg i,if_pos j];exact⟨rfl,fun _=>⟨_,rfl,rfl⟩⟩
 refine⟨zR,true,fun L _=>apO ts n L g i j zOm zOm zOm zOm zOm zOm zOm zOm zOm zOm zOm zOm,?_⟩;rw[UM g i j zOm zOm zOm zOm zOm zOm zOm zOm zOm zOm zOm zOm];refine⟨rfl,fun J=>?_⟩;have:=UO J;omega
def resS:Res->RS
 | .ok (some k)=>qr k
 |_=>zR
theorem qrG(R):endR zR R = .tup [eRS (resS R),eDg (dgOf R)]:=by
 cases R with
 |error e=>rfl
 |ok k=>cases k<;>rfl
end QR
namespace QS
open YZ YF Y9 Y10 Y1 Y2 Y13 P1 P2 QE QF QI QJ QL QN PG QO QR
theorem Wo(c op nm):zU c op nm=(yx op||(decide (op=47)&&tpB c nm)):=rfl
theorem qrH{ns op n pos l e}(h:yk ns op n pos l = .error e):e=(42,pos):=by
 unfold yk at h
 repeat' split at h
 all_goals grind
theorem wkTP(c:Ck)(nm):WKs [eTS c.ts,lBo c.timed,aI c.calls,aS nm] [eTS c.ts,lBo c.timed,aI c.calls,aS nm] := .zk (zq _) (.zk (VA _) (.zs (.zs .nil)))
theorem wk1I(k):WKs [aI k] [aI k] := .zs .nil
theorem fl_sb(s b):FL (.tup [eRS s,aB b]):=FL.tup fun x hx=>by
 rcases qv.1 hx with rfl|hx
 .exact FL.agg fun c g=>by
   rcases qv.1 g with rfl|g
   .exact FL.sc _
   .obtain ⟨j,_,rfl⟩:=qk.1 g
    exact FL.sc _
 grind [qY,FL.sc]
theorem qrI(c)(i:okCk c)(s n)(g:zU c n.op n.name=true):ExR c s true n:=by
 refine⟨zR,?_,fun _ q h=>?_⟩
 case refine_2=>simp_all[yP,if_pos]
 have hx:exam c s true n = .error (46,n.pos):=by simp_all[yP,if_pos]
 rw[hx];rw[Wo]at g;refine qSQ call104 func104 rfl { mt:=[3] } ?_;have j:=Je n.op;have l:=Jf c i n.name;simp[go_sem];refine pL j (wk1I _) ?_;cases hT:yx n.op with
 |true =>
  simp[go_sem];refine fD [0,1,2,3,4,5] [(0,0,[]),(1,0,[]),(2,0,[]),(3,0,[]),(4,1,[2]),(5,1,[])] zKr zKr zSi ?_;simp[go_sem,dgOf];exact .hf _ (vu zR (46,n.pos))
 |false =>
  rw[hT,Bool.false_or,qF]at g;obtain⟨h47,hB⟩:=g;have h47:n.op=47:=by simpa using h47
  simp[go_sem,h47];refine pL l (wkTP c n.name) ?_;rw[hB];simp[go_sem];refine fD [0,1,2,3,4,5] [(0,0,[]),(1,0,[]),(2,0,[]),(3,0,[]),(4,1,[2]),(5,1,[])] zKr zKr zSi ?_;simp[go_sem,dgOf];exact .hf _ (vu zR (46,n.pos))
theorem qrJ(c)(l:okCk c)(s)(g:s.length<=100000)(inn n)(i:n.op=1):ExR c s inn n:=by
 have hx:exam c s inn n=ju c s n.name n.pos:=by
  rw[yP,Wo,i,show yx 1=false from rfl];simp
 refine⟨resS (ju c s n.name n.pos),?_,fun _ q h=>by rw[hx]at h;rw[h];rfl⟩;rw[hx];have o:=Ke c l inn s n g;rw[qrG]at o;generalize resS (ju c s n.name n.pos)=S at *
 generalize dgOf (ju c s n.name n.pos)=D at *
 refine qSQ call104 func104 rfl { mt:=[3] } ?_;have p:=Je n.op;have C:=Jf c l n.name;have hT:yx n.op=false:=by rw[i];rfl
 rw[hT]at p;have t:=wkE c inn (envS s) n;cases inn
 case' true =>
  simp[go_sem];refine pL p (wk1I _) ?_
 all_goals
  simp[go_sem,i];refine pL o t ?_;simp[go_sem,qu];rw[if_pos (ze _)];generalize r:putCells _ 0 (aI S.1 :: hB S.2)=P;have j:P=aI S.1 :: hB S.2:=by rw[<-r];exact pc (aI 0) _ (fun _=>false) _
  subst j;clear r;simp[go_sem,qu,QE.tk];exact .hf _ (vu S D)
theorem qrK(c)(i:okCk c)(s)(p:ScOk c.ts.sS.length s)(inn n)(r:WfN n)(h47:n.op=47)(g:(inn&&zU c n.op n.name)=false)(t:∀ k,k∈n.sD->ExR c s true k):ExR c s inn n:=by
 have hx:exam c s inn n=uO c s n:=by
  rw[yP,g,if_neg zSp,zIn,if_pos h47];rfl
 have C:=qrC c i s p n r h47 t inn;refine⟨zR,?_,fun j=>by rw[h47]at j;exact absurd j zDe⟩;rw[hx];generalize dgOf (uO c s n)=D at *
 refine qSQ call104 func104 rfl { mt:=[3] } ?_;have l:=Je n.op;have o:=Jf c i n.name;have hT:yx n.op=false:=by rw[h47];rfl
 rw[hT]at l;have I:=wkE c inn (envS s) n;cases inn
 case' true =>
  rw[Bool.true_and,Wo,hT,h47]at g;have hB:tpB c n.name=false:=zUs g;rw[hB]at o;simp[go_sem];refine pL l (wk1I _) ?_;simp[go_sem,h47];refine pL o (wkTP c n.name) ?_
 all_goals
  simp[go_sem,h47];refine fR C I ?_;exact .hf _ (vu zR D)
theorem qrL(c)(J:okCk c)(s)(o:ScOk c.ts.sS.length s)(p:s.length<=90000)(inn n)(R:WfN n)(l:n.op=15\/n.op=45\/n.op=46)(ht:(inn&&zU c n.op n.name)=false)(T:∀ k,k∈n.sD->∀ s',ScOk c.ts.sS.length s'->s'.length<=s.length+1->∀ inn,ExR c s' inn k):ExR c s inn n:=by
 have hx:exam c s inn n=ym c s (inn||decide (n.op=15)) n.name n.pos n.sD:=by
  rw[yP,ht,if_neg zSp,zIn,zIn,if_pos l]
 obtain⟨a,g,i,r⟩:=Vm R l;have cb:=qrE c J s o p n a g R l i r inn (T a (by rw[i];simp) s o zOm _) (fun k U j=>T g (by rw[i];simp) _ (fun v t=>by
  rcases qv.1 t with rfl|t
  .grind
  .exact o v t) zSp _)
 refine⟨VC (exam c s (inn||decide (n.op=15)) a),?_,fun _ q h=>?_⟩
 case refine_2 =>
  rw[hx,i]at h;simp only[ym]at h;split at h
  .cases h
  .cases h
  .rename_i k U
   split at h
   .rename_i j
    split at h
    .cases h
    .cases h
     rw[U];exact if_pos j
   .cases h
 rw[hx];generalize VC (exam c s (inn||decide (n.op=15)) a)=S at *
 generalize dgOf (ym c s (inn||decide (n.op=15)) n.name n.pos n.sD)=D at *
 refine qSQ call104 func104 rfl { mt:=[3] } ?_;have C:=Je n.op;have cp:=Jf c J n.name;have h47:¬n.op=47:=zOm;have hT:yx n.op=false:=by grind [yx]
 rw[hT]at C;have wn:=wkE c inn (envS s) n;rcases l with h|h|h
 all_goals
  rw[h]at C;cases inn
 all_goals
  simp[go_sem,h]
  try (refine pL C (wk1I _) ?_)
  try simp[go_sem,h]
  refine pL cb wn ?_;simp[go_sem,qu];rw[if_pos (ze _)];generalize hP:putCells _ 0 (aI S.1 :: hB S.2)=P;have I:P=aI S.1 :: hB S.2:=by rw[<-hP];exact pc (aI 0) _ (fun _=>false) _
  subst I;clear hP;simp[go_sem,qu,QE.tk];exact .hf _ (vu S D)
def seqL(X:Nd->Res):List Nd->Except Dg (List (Option Kd))
 | [] => .ok []
 |k :: ks=>match X k with
  | .error e => .error e
  | .ok a=>match seqL X ks with
   | .error e => .error e
   | .ok l => .ok (a :: l)
theorem qdY(c s B):∀ ks,qX c s B ks=seqL (exam c s B) ks
 | []=>by simp only[qX,seqL]
 |k :: ks=>by simp only[qX,seqL];rw[qdY c s B ks];cases exam c s B k with
  |error e=>rfl
  |ok a=>cases seqL (exam c s B) ks<;>rfl
theorem kQ{J:Type}{l}{a b c:J}(g:l[0]?=some a)(i:l[1]?=some b)(j:l[2]?=some c):∃ r,l=a :: b :: c :: r:=by
 match l,g,i,j with
 |_ :: _ :: _ :: r,g,i,j =>
  grind
theorem qrM{n}(j:WfN n)(h:(n.op=5\/n.op=11\/n.op=12\/n.op=13)\/(n.op=6\/n.op=14\/n.op=7\/n.op=8\/n.op=32\/n.op=33\/n.op=9\/n.op=10)):∀ x,x∈n.sD->kd x.op=101:=by
 have g:=j.shape;intro x hx;have i:kd x.op∈n.sD.map fun k=>kd k.op:=qk.2 ⟨x,hx,rfl⟩
 rcases h with h|h
 .unfold shp at g
  rw[zIn,if_pos zOm]at g
  grind
 .unfold shp at g
  rw[zIn,zIn,if_pos zOm]at g;simp only[qt]at g;rw[<-g]at i;simpa using i
set_option maxHeartbeats 2000000 in
theorem ex_t(c)(hc:okCk c)(s n inn B X S D)(h1:¬n.op=1)(h47:¬n.op=47)(hb:¬(n.op=15\/n.op=45\/n.op=46))(hw:WfN n)(aw:n.sD.length<=401)(hT:inn=true->yx n.op=false)(a6:n.op=12->B=true)(a7:n.op=13->B=true)(ag:¬n.op=12->¬n.op=13->B=inn)
  (ah:∀ k,k∈n.sD->∃ S,qg qc 104 [eVw c B,lVr (envS s),eNd k] (.tup [eRS S,eDg (dgOf (X k))])/\(kd k.op=101->∀ q,X k = .ok (some q)->S=qr q))
  (a8:∀ k a,k∈n.sD->X k = .ok a->kd k.op=101->∃ q,a=some q/\okKd c.ts.sS.length q)
  (a2:∀ k e,X k = .error e->40<=e.1)
  (ai:∀ e,seqL X n.sD = .error e->S=zR/\D=e)
  (aj:∀ l,seqL X n.sD = .ok l->∃ S' b,(∀ L,((n.op=5\/n.op=11\/n.op=12\/n.op=13)\/(n.op=6\/n.op=14\/n.op=7\/n.op=8\/n.op=32\/n.op=33\/n.op=9\/n.op=10)->L=l.map setO)->prC c.ts n L S' b)/\(b=true->S=S'/\D=(0,0))/\(b=false->S=zR/\D=(42,n.pos))) :
  qg qc 104 [eVw c inn,lVr (envS s),eNd n] (.tup [eRS S,eDg D]):=by
 simp only[not_or]at hb;obtain⟨b1,b2,b3⟩:=hb;refine qSQ call104 func104 rfl { mt:=[3] } ?_;have ct:=Je n.op;have cp:=Jf c hc n.name;cases inn
 all_goals first
  | (rw[hT rfl]at ct;simp[go_sem];refine pL ct (wk1I _) ?_)
  |skip
 all_goals simp[go_sem,h1,h47,b1,b2,b3]
 all_goals rcases (show n.op=12\/(¬n.op=12/\n.op=13)\/(¬n.op=12/\¬n.op=13) by omega) with C|⟨C,a0⟩|⟨C,a0⟩
 all_goals first|simp[go_sem,C,a0] | simp[go_sem,C]
 all_goals first|have a3:=a6 C|have a3:=a7 a0|have a3:=ag C a0
 all_goals
  refine aA n.sD.length (fun k U=>∃(j:List (Option Kd)) (L:List RS),j.length=k/\L.length=k/\U.tm 1=lVr (envS s)/\U.tm 3 = .ptr 0 0/\U.tm 5 = .ip (cNd n)/\U.tm 6 = .ptr 1 0/\U.tm 7 = .ptr 2 0/\U.tm 9=aI k/\U.mu[0]?=some (.arr (cVw c B))/\U.mu[1]?=some (.arr (aI 0 :: hB fun _=>false))/\U.mu[2]?=some (.arr [aI 0,aI 0])/\OwnF 3 U.mu 65 (U.tm 8) (L.map cRS)/\(∀(i:Nat) x,n.sD[i]?=some x->i<k->kd x.op=101->∃ q,j[i]?=some (some q)/\L[i]?=some (qr q))/\seqL X n.sD=(match seqL X (n.sD.drop k) with | .error e => .error e | .ok l => .ok (j++l))) ?_ ?_
  .refine ⟨[],[],rfl,rfl,zSi,zSi,zSi,zSi,zSi,zSi,by rw[a3];simp[go_sem],by simp[go_sem];rfl,zSi,by simp_all[go_sem,OwnF.nil],fun i x _ h=>absurd h zOm,?_⟩
   grind
  rintro k U hk ⟨j,L,a9,aa,e1,e3,e5,e6,e7,e9,m0,m1,m2,ho,a1,I⟩;generalize h8:U.tm 8=t at *
  by_cases o:k<n.sD.length
  .have w1:=zWk k
   obtain⟨Sk,ck,ak⟩:=ah n.sD[k] (qq o);rw[zy o]at I;simp only[seqL]at I;simp[go_sem,e5,e9,o];refine fD [0,1,2,3,4,5,6,7,8,9,10,11,12,13,14] [(0,0,[]),(1,0,[]),(2,0,[]),(3,0,[]),(4,0,[]),(5,0,[]),(6,0,[]),(7,1,[]),(8,0,[]),(9,0,[]),(10,0,[]),(11,2,[0,3,6]),(12,2,[0,3,6]),(13,1,[]),(14,1,[])] zKr zKr zSi ?_;have ab:2<U.mu.length:=(qi.1 m2).1;have g:∀(l:List Cell)(i:Nat),i<U.mu.length->(U.mu++l)[i]?=U.mu[i]?:=fun l i J=>qJ J
   have p0:=fun l=>(g l 0 zOm).trans m0
   have p1:=fun l=>(g l 1 zOm).trans m1
   have p2:=fun l=>(g l 2 zOm).trans m2
   have g0:=(qi.1 m0).2;have g1:=(qi.1 m1).2;have g2:=(qi.1 m2).2;have a4:0<U.mu.length:=zOm;have al:1<U.mu.length:=zOm;simp[go_sem,e1,e3,e5,e9,o,m0];refine pL ck (wkE c _ _ _) ?_;cases hx:X n.sD[k] with
   |error e =>
    have he:=a2 _ _ hx;have an:¬e.1=0:=zOm;rw[hx]at I;have I:seqL X n.sD = .error e:=I;obtain⟨ao,aq⟩:=ai e I;rw[ao,aq];simp[go_sem,e3,g0,a4,qu,dgOf];rw[if_pos (ze _)];generalize hP:putCells _ 0 (cRS Sk)=P;have R:P=cRS Sk:=by rw[<-hP];exact pc (aI 0) _ (fun _=>false) _
    subst R;clear hP;simp[go_sem,an];refine fD [0,1,2,3] [(0,0,[]),(1,0,[]),(2,1,[1]),(3,1,[])] zKr zKr zSi ?_;simp[go_sem,e6,e7,a4,qu,g1,g2,al,ab];exact .hf _ (vu zR e)
   |ok a =>
    rw[hx]at I;simp only at I;simp[go_sem,e3,g0,a4,qu,dgOf];rw[if_pos (ze _)];generalize hP:putCells _ 0 (cRS Sk)=P;have R:P=cRS Sk:=by rw[<-hP];exact pc (aI 0) _ (fun _=>false) _
    subst R;clear hP;simp[go_sem,h8,qu,QE.tk];rw[if_pos (ze _)];simp[go_sem];refine appRS (lo:=3) (xs:=L) (ys:=[Sk]) ⟨by simpa using JY (JY ho.1 _) _,ho.2.1,by grind⟩ (by simp[qC]) zSo fun ax m' ar a5=>?_
    simp[go_sem,e9,o,w1];refine aC ⟨j++[a],L++[Sk],zP1 a9,zP1 aa,zS1 e1,zS1 e3,zS1 e5,zS1 e6,zS1 e7,zSi,?_,?_,?_,zVs ar,fun i x J ay T=>?_,?_⟩
    .simp only[qB];exact(a5 0 zOm).trans (p0 _)
    .simp only[qB];exact(a5 1 zOm).trans (p1 _)
    .simp only[qB];exact(a5 2 zOm).trans (p2 _)
    .by_cases ad:i=k
     .subst ad
      rw[qz o]at J;cases J;obtain⟨q,rfl,_⟩:=a8 _ a (qq o) hx T;refine⟨q,?_,?_⟩
      .rw [zN zOm,a9];simp
      .rw [zN zOm,aa];simp[ak T q hx]
     .obtain ⟨q,q1,q2⟩:=a1 i x J zOm T
      exact⟨q,by rw[zGa];exact q1,by rw[zGa];exact q2⟩
    grind
  .have ae:k=n.sD.length:=by omega
   subst ae;rw[yA]at I;have I:seqL X n.sD = .ok j:=by rw[I];simp only[seqL,zF]
   obtain⟨S',b,q1,q2,q3⟩:=aj j I;have hL:((n.op=5\/n.op=11\/n.op=12\/n.op=13)\/(n.op=6\/n.op=14\/n.op=7\/n.op=8\/n.op=32\/n.op=33\/n.op=9\/n.op=10))->L=j.map setO:=fun h=>by
    have T:∀ x,x∈n.sD->kd x.op=101:=fun x hx=>qrM hw h x hx
    refine List.ext_getElem? fun i=>?_
    by_cases J:i<n.sD.length
    .obtain ⟨q,e1,e2⟩:=a1 i n.sD[i] (zP1 J) J (T _ (qq J))
     rw[e2,List.getElem?_map,e1];rfl
    .rw [uU zOm,uU zSo]
   have hp:=q1 L hL;unfold prC at hp;have ab:2<U.mu.length:=(qi.1 m2).1;have g:∀(l:List Cell)(i:Nat),i<U.mu.length->(U.mu++l)[i]?=U.mu[i]?:=fun l i J=>qJ J
   obtain⟨rr,af⟩:=kQ m0 m1 m2;simp[go_sem,e3,e5,e9,h8,m0];refine fY (args':=[eTS c.ts,eNd n,lRS L]) hp ⟨.hf _ (zq _),.hf _ (qK n),rdRS ho,trivial⟩ (fl_sb S' b) ?_;have az:U.mu.length=rr.length+3:=by rw[af];rfl
   clear m0 m1 m2 g ho;simp[go_sem,af,qu];rw[if_pos (ze _)];generalize hP:putCells _ 0 (cRS S')=P;have R:P=cRS S':=by rw[<-hP];exact pc (aI 0) _ (fun _=>false) _
   subst R;clear hP;cases b with
   |true =>
    obtain⟨rfl,rfl⟩:=q2 rfl;simp[go_sem,e6,qu,QE.tk,pc];rw[if_pos (ze _)];simp[go_sem,e6,e7,qu,QE.tk];exact .hf _ (vu S (0,0))
   |false =>
    obtain⟨rfl,rfl⟩:=q3 rfl;simp[go_sem];refine fD [0,1,2,3,4,5] [(0,0,[]),(1,0,[]),(2,0,[]),(3,0,[]),(4,1,[2]),(5,1,[])] zKr zKr zSi ?_;simp[go_sem,e5,e6,e7,qu];exact .hf _ (vu zR (42,n.pos))
theorem qrN(c)(p:okCk c)(s)(hs:ScOk c.ts.sS.length s)(inn n)(r:WfN n)(h1:¬n.op=1)(h47:¬n.op=47)(hb:¬(n.op=15\/n.op=45\/n.op=46))(ht:(inn&&zU c n.op n.name)=false)(ih:∀ k,k∈n.sD->∀ inn,ExR c s inn k):ExR c s inn n:=by
 have hx:exam c s inn n=match qX c s (inn||decide (n.op=12)||decide (n.op=13)) n.sD with | .error e => .error e | .ok l=>yk c.ts.sS.length n.op n.n n.pos l:=by
  rw[yP,ht,if_neg zSp,if_neg h1,if_neg h47,if_neg hb]
  grind
 have t:n.op=12\/n.op=13->(inn||decide (n.op=12)||decide (n.op=13))=true:=fun h=>by grind
 have a0:¬n.op=12->¬n.op=13->(inn||decide (n.op=12)||decide (n.op=13))=inn:=fun h h'=>by simp[h,h']
 generalize (inn||decide (n.op=12)||decide (n.op=13))=B at *
 obtain⟨S,D,C,hq,I,J⟩:∃ S D,dgOf (exam c s inn n)=D/\(kd n.op=101->∀ q,exam c s inn n = .ok (some q)->S=qr q)/\(∀ e,qX c s B n.sD = .error e->S=zR/\D=e) /\
   (∀ l,qX c s B n.sD = .ok l->∃ P b,(∀ L:List RS,((n.op=5\/n.op=11\/n.op=12\/n.op=13)\/(n.op=6\/n.op=14\/n.op=7\/n.op=8\/n.op=32\/n.op=33\/n.op=9\/n.op=10)->L=l.map setO)->prC c.ts n L P b)/\(b=true->S=P/\D=(0,0))/\(b=false->S=zR/\D=(42,n.pos))):=by
  rw[hx];cases hE:qX c s B n.sD with
  |error e=>exact⟨zR,e,rfl,(fun _ q h=>by cases h),(fun e' h=>by grind),(fun l h=>by cases h)⟩
  |ok l =>
   obtain⟨a1,a2⟩:=J2 hE;have a3:=(Ki p.ts.ns r a1 (fun i k' a hi ha g=>vH p (szN k') k' s B a (qo _) (r.kid (List.mem_of_getElem? hi)) hs (a2 i k' a hi ha) g)).2;obtain⟨P,b,p1,o⟩:=qrF c.ts p.ts n l h1 (fun h=>hb (.inl h)) (fun h=>by
    grind) a3.2.2
   simp only;cases hA:yk c.ts.sS.length n.op n.n n.pos l with
   |error e =>
    rw[hA]at o;have o:b=false:=o;refine⟨zR,e,rfl,(fun _ q h=>by cases h),(fun e' h=>by cases h),(fun l' h=>by cases h;exact⟨P,b,p1,(fun h=>by grind),(fun _=>⟨rfl,qrH hA⟩)⟩)⟩
   |ok ko =>
    rw[hA]at o;obtain⟨o,p3⟩:=o;refine⟨P,(0,0),rfl,(fun U q h=>?_),(fun e' h=>by cases h),(fun l' h=>by simp_all)⟩
    grind
 refine⟨S,?_,hq⟩;rw[C];clear C hx hq;obtain⟨X,R⟩:∃ X:Nd->Res,X=exam c s B:=⟨_,rfl⟩;have a4:∀ k,k∈n.sD->∃ S,qg qc 104 [eVw c B,lVr (envS s),eNd k] (.tup [eRS S,eDg (dgOf (X k))])/\(kd k.op=101->∀ q,X k = .ok (some q)->S=qr q):=fun k U=>by rw[R];exact ih k U B
 have T:∀ k a,k∈n.sD->X k = .ok a->kd k.op=101->∃ q,a=some q/\okKd c.ts.sS.length q:=fun k a U h g=>by rw[R]at h;exact vH p (szN k) k s B a (qo _) (r.kid U) hs h g
 have j:∀ k e,X k = .error e->40<=e.1:=fun k e h=>by rw[R]at h;exact Vo c (szN k) k s B e (qo _) h
 rw[qdY,<-R]at I J;clear R ih;have a5:=r.len;exact ex_t c p s n inn B X S D h1 h47 hb r a5 (fun hi=>by
  simp_all[Bool.true_and,Wo,Bool.or_eq_false_iff]) (fun h=>t (.inl h)) (fun h=>t (.inr h)) a0 a4 T j I J
theorem qdZ(c)(l:okCk c):∀(m:Nat)(n),depN n<=m->WfN n->∀ s,ScOk c.ts.sS.length s->s.length+m<=80000->∀ inn,ExR c s inn n
 | 0,n,i,_,_,_,_,_=>zW1 (qcO n)
 |m+1,n,i,o,s,r,p,inn=>by
  have t:∀ k,k∈n.sD->∀ s',ScOk c.ts.sS.length s'->s'.length<=s.length+1->∀ inn,ExR c s' inn k:=fun k j s' g C inn=>qdZ c l m k (by have:=qcN j;rw[wC]at i;omega) (o.kid j) s' g zOm inn
  cases I:inn&&zU c n.op n.name with
  |true =>
   simp_all[qF,qrI]
  |false =>
   grind [qrJ,qrK,qrL,qrN]
end QS
namespace QT
open YF Y9 Y10 Y1 Y2 Y14 Y15 Y16 YZ P1 P2 PA Q5 QD QE QI QJ QL QM QO QS
section
variable {ts:TS}
def ckR(ts:TS)(i:Nat):Ck:=⟨ts,i,tmsL ts ts.sT.length⟩
theorem Wp(h:okTS ts){i}(g:i<=ts.sT.length):okCk (ckR ts i):=⟨h,g,by show i<=(tmsL ts ts.sT.length).length;rw[ZR ts _ (qo _)];exact g⟩
theorem qd0{c c'}(g:c'.ts=c.ts)(l:∀ nm,zt c' nm=zt c nm)(o:∀ op nm,zU c' op nm=zU c op nm):∀ m n s inn,szN n<=m->exam c s inn n=exam c' s inn n
 | 0,n,_,_,t=>by obtain⟨op,nm,i,ks,p⟩:=n;simp[szN]at t
 |m+1,n,s,inn,t=>by
  have r:∀ k,k∈n.sD->∀(s:Scp)(inn:Bool),exam c s inn k=exam c' s inn k:=fun k r s inn=>qd0 g l o m k s inn (zW1 (yn r))
  refine qbK rfl rfl rfl rfl (o _ _) (fun _=>?_) (by rw[g]) (l _) (by rw[g]) rfl (fun _ I=>qbN fun k j=>r k j s true) (fun _ inn=>?_) (fun _ _ _ inn=>UY fun k j=>r k j s inn)
  .grind [Zl]
  .cases C:n.sD with
   |nil=>rfl
   |cons k ks =>
    grind [ks,ym,zj,qX,UY,za]
theorem qrO(h:okTS ts){i}(l:i<=ts.sT.length)(n s inn):exam (ckR ts i) s inn n=exam (mkCk ts i) s inn n:=by
 refine(qd0 (c:=mkCk ts i) (c':=ckR ts i) rfl (fun nm=>rfl) (fun op nm=>?_) (szN n) n s inn (qo _)).symm;unfold zU;have e:zt (ckR ts i) nm=zt (mkCk ts i) nm:=rfl;rw[e];cases o:zt (mkCk ts i) nm with
 |none=>rfl
 |some p =>
  obtain⟨j,g⟩:=Qe (v6 h l) o;have j:p<i:=j;have g:p<ts.sT.length:=g;simp only;have r:=PC.Vj ts p ts.sT.length g (qo _) g;have t:=PC.Vj ts p i j l g;show (yx op||(decide (op=47)&&(tmsL ts ts.sT.length).getD p false))=(yx op||(decide (op=47)&&(tmsL ts i).getD p false));rw[r,t]
theorem qrP(h:okTS ts){i}(g:i<=ts.sT.length)(env n):jE (mkCk ts i) env n=if 30<=n.op then dgOf (exam (ckR ts i) (zS env) false n) else (43,n.pos):=by
 grind [jE,qrO]
theorem qd1(ts)(h:okTS ts)(J:∀ p,p∈ts.sT->WfN p.body)(i)(o:i<=ts.sT.length)(env)(t:Yv ts.sS.length env)(j:env.length<=1000)(n)(R:WfN n)(T:depN n<=24) :
  qg qc 57 [eTS ts,aI i,lPm env,eNd n] (eDg (jE (mkCk ts i) env n)):=by
 rw[qrP h o];have U:=h.ns;have hs:=UP t;have a0:(zS env).length=env.length:=by
  have:=congrArg List.length (qdR env)
  grind [Wn,envV]
 obtain⟨S,ce,_⟩:=qdZ (ckR ts i) (Wp h o) 24 n T R (zS env) hs zOm false;have C:=envU env j (fun p hp=>zW1 (t.r p hp));rw[qdR]at C;have c1:=qq4 n;have c2:=qq1 ts h J;refine qSU call57 func57 rfl ?_;refine pL c1 (.zk (qK n) .nil) ?_;by_cases g:30<=n.op
 .rw [if_pos g]
  generalize dgOf (exam (ckR ts i) (zS env) false n)=D at *
  simp[go_sem,g];refine fD [0,1,3,5,7,2,4,6,8,9,10,11,12,13,14,15] [(0,0,[]),(1,0,[]),(3,0,[]),(5,0,[]),(7,0,[]),(2,1,[0,7]),(4,0,[]),(6,1,[0,7]),(8,1,[]),(9,0,[]),(10,0,[]),(11,0,[]),(12,2,[0,1,7]),(13,2,[0,1,7]),(14,1,[]),(15,1,[])] zKr zKr zSi ?_;simp[go_sem];refine fR c2 (.zk (zq ts) .nil) ?_;refine fR C (.zk (uj env) .nil) ?_;refine pL ce (wkE (ckR ts i) false _ n) ?_;simp[go_sem,qu];rw[if_pos (ze _)];generalize I:putCells _ 0 (cRS S)=P;have l:P=cRS S:=by rw[<-I];exact pc (aI 0) _ (fun _=>false) _
  subst l;clear I;simp[go_sem];exact .hf _ (wH D)
 .rw [if_neg g]
  simp[go_sem,g];exact .hf _ (wH (43,n.pos))
theorem kR(ts)(h:okTS ts)(i:∀ p,p∈ts.sT->WfN p.body)(env)(j:Yv ts.sS.length env)(g:env.length<=1000)(n)(l:WfN n)(o:depN n<=24) :
  qg qc 25 [eTS ts,lPm env,eNd n] (eDg (yy ts env n)):=by
 have c1:=qd1 ts h i ts.sT.length (qo _) env j g n l o;have e:jE (mkCk ts ts.sT.length) env n=yy ts env n:=rfl;rw[e]at c1;generalize yy ts env n=D at *
 refine qSU call25 func25 rfl ?_;refine fR c1 (.zk (zq ts) (.zs (.zk (uj env) (.zk (qK n) .nil)))) ?_;exact .hf _ (wH D)
theorem Jg(a b):dups (a++b)=dups a++dups b:=by simp[dups]
theorem wI(b):dups [b]=if b=true then [(41,0)] else []:=by cases b<;>rfl
theorem Ql(l):(dups l).length<=l.length:=by
 grind [dups,zW,List.length_filter_le]
theorem kS{J}(g)(l:List J)(k h):(repL g l).take (k+1)=(repL g l).take k++[(l.take k).any fun y=>g l[k] y]:=by
 grind [repL,Qj,vP,mQ,qz,Option.some.inj]
theorem Wq{J:Type}(p)(l:List J)(k h):(l.take (k+1)).any p=((l.take k).any p||p l[k]):=by
 rw[vP h,List.any_append];simp only[List.any_cons,List.any_nil,Bool.or_false]
abbrev eS:tC×Bool->tC×Bool->Bool:=fun x y=>decide (x.1=y.1)
abbrev eF:Fld->Fld->Bool:=fun x y=>decide (x.name=y.name)&&decide (x.sS=y.sS)
abbrev eP:Pd->Pd->Bool:=fun x y=>decide (x.name=y.name)
abbrev eM:tC×Int->tC×Int->Bool:=fun x y=>decide (x.1=y.1)
abbrev eA:tC×Nd->tC×Nd->Bool:=fun x y=>decide (x.1=y.1)
theorem Qq{mu lo s x}{xs ys:List Dg}{K}(o:OwnF lo mu 2 s (xs.map cDg))(hx:qC mu x=some (ys.map cDg))(t:xs.length+ys.length<=100000)(C:∀ av mu',OwnF lo mu' 2 av ((xs++ys).map cDg)->(∀ i,i<lo->mu'[i]?=mu[i]?)->K av mu') :
  qw qc mu #[76,76] s x K:=by
 have j:∀ l:List Dg,zi 2 (l.map cDg):=fun l r p=>by
  obtain⟨n,_,rfl⟩:=qk.1 p;exact⟨rfl,rfl⟩
 refine qw.ownF (lo:=lo) (e:=72) (sz:=2) (bt:=16) (zv := .agg [aI 0,aI 0]) (xs:=xs.map cDg) (ys:=ys.map cDg) zSi zSi zSi rfl rfl zOm zOm o hx (j xs) (j ys) zSo ?_
 grind
theorem qrQ(ts)(h:okTS ts)(mu):qA qc 55 [eTS ts] mu fun e m=>∃ av,e = .ret av/\OwnF mu.length m 2 av ((dups (repL eS ts.sS)++dups (repL eF ts.sA)).map cDg)/\∀ i,i<mu.length->m[i]?=mu[i]?:=by
 refine qSW call55 func55 rfl {} ?_;have a6:=h.ns;have ab:=h.nf;simp[go_sem];refine aA ts.sS.length (fun i U=>U.tm 1 = .ip (cTS ts)/\U.tm 4=aI i/\OwnF mu.length U.mu 2 (U.tm 3) ((dups ((repL eS ts.sS).take i)).map cDg)/\∀ i,i<mu.length->U.mu[i]?=mu[i]?) ?_ ?_
 .simp_all [go_sem,dups,OwnF.nil,qo]
 rintro i U P ⟨R,e4,I,hm⟩;have a0:(dups ((repL eS ts.sS).take i)).length<=i:=zG (Ql _) (List.length_take_le ..);generalize h3:U.tm 3=av at *
 by_cases l:i<ts.sS.length
 .have o:=kS eS ts.sS i l
  have wi:=zWk i;simp[go_sem,R,e4,l];refine aA i (fun k st2=>st2.tm 1 = .ip (cTS ts)/\st2.tm 4=aI i/\st2.tm 3=av/\st2.tm 6=aI k/\st2.tm 5=aB ((ts.sS.take k).any fun y=>eS ts.sS[i] y)/\st2.mu=U.mu) ?_ ?_
  .simp [go_sem, *]
  rintro k st2 hk ⟨f1,f4,f3,f6,f5,C⟩;generalize hT:(ts.sS.take k).any (fun y=>eS ts.sS[i] y)=T at *
  by_cases p:k<i
  .have t:k<ts.sS.length:=by omega
   have wk:=zWk k;have g:=Wq (fun y=>eS ts.sS[i] y) ts.sS k t;rw[hT]at g;simp[go_sem,f4,f6,p];refine cL zKr ?_;cases T with
   |true =>
    simp_all[go_sem,Bool.true_or,aC]
   |false =>
    rw[Bool.false_or]at g;by_cases hq:ts.sS[k].1=ts.sS[i].1
    .simp_all [go_sem,eS,decide_eq_true,aC]
    .have j:(ts.sS.take (k+1)).any (fun y=>eS ts.sS[i] y)=false:=by rw[g];exact decide_eq_false fun e=>hq e.symm
     simp_all[go_sem,jM,aC]
  .have a1:k=i:=by omega
   subst a1;rw[hT]at o;cases T with
   |true =>
    simp[go_sem,f4,f3,f6,f5,C];refine Qq (ys:=[(41,0)]) I (by simp[qC]) zSo fun a7 m' a2 a3=>?_
    simp[go_sem,f4,wi];exact⟨l,aC ⟨zS1 f1,zSi,by rw[o,Jg,wI,if_pos rfl];simpa[go_sem] using a2,by simp only[qB];exact fun i P=>(a3 i P).trans (hm i P)⟩⟩
   |false =>
    simp[go_sem,f4,f6,f5,C,wi];exact⟨l,aC ⟨zS1 f1,zSi,by rw[o,Jg,wI,if_neg zSp,zF];simpa[go_sem,f3,C] using I,by simp only[qB];exact hm⟩⟩
 .have a4:i=ts.sS.length:=by omega
  subst a4;rw[yg (by rw[Qj];exact qo _)]at I;simp[go_sem,R,e4];generalize a8:dups (repL eS ts.sS)=a5 at *
  have ad:a5.length<=4:=by rw[<-a8];exact zG (Ql _) (by rw[Qj];exact a6)
  refine aA ts.sA.length (fun i U=>U.tm 1 = .ip (cTS ts)/\U.tm 7=aI i/\OwnF mu.length U.mu 2 (U.tm 3) ((a5++dups ((repL eF ts.sA).take i)).map cDg)/\∀ i,i<mu.length->U.mu[i]?=mu[i]?) ?_ ?_
  .exact ⟨zS1 R,zSi,by simpa[go_sem,dups,h3] using I,zVs hm⟩
  clear a0 I hm R e4 h3 l P U;rintro i U P ⟨R,e4,I,hm⟩;have a0:(dups ((repL eF ts.sA).take i)).length<=i:=zG (Ql _) (List.length_take_le ..);generalize h3:U.tm 3=a9 at *
  by_cases l:i<ts.sA.length
  .have o:=kS eF ts.sA i l
   have wi:=zWk i;simp[go_sem,R,e4,l];refine aA i (fun k st2=>st2.tm 1 = .ip (cTS ts)/\st2.tm 7=aI i/\st2.tm 3=a9/\st2.tm 9=aI k/\st2.tm 8=aB ((ts.sA.take k).any fun y=>eF ts.sA[i] y)/\st2.mu=U.mu) ?_ ?_
   .exact ⟨zS1 R,zS1 e4,zS1 h3,zSi,zSi,zSi⟩
   rintro k st2 hk ⟨f1,f4,f3,f6,f5,C⟩;generalize hT:(ts.sA.take k).any (fun y=>eF ts.sA[i] y)=T at *
   by_cases p:k<i
   .have t:k<ts.sA.length:=by omega
    have wk:=zWk k;have g:=Wq (fun y=>eF ts.sA[i] y) ts.sA k t;rw[hT]at g;have ae:=h.fl _ (qq t);have aa:=qlO ts.sA[k].sS ts.sA[i].sS zOm;simp[go_sem,f4,f6,p];refine cL zKr ?_;cases T with
    |true =>
     rw[Bool.true_or]at g;simp[go_sem,f6,f5,p,wk];exact aC ⟨zS1 f1,zS1 f4,zS1 f3,zSi,by rw[g];simp[go_sem],zS1 C⟩
    |false =>
     rw[Bool.false_or]at g;by_cases hq:ts.sA[k].name=ts.sA[i].name
     .simp [go_sem,f1,f4,f6,f5,t,l,hq]
      refine pL aa (.zk (zo _) (.zk (zo _) .nil)) ?_;by_cases J:ts.sA[k].sS=ts.sA[i].sS
      .have j:(ts.sA.take (k+1)).any (fun y=>eF ts.sA[i] y)=true:=by rw[g];simp[eF,hq.symm,J.symm]
       simp[go_sem,f6,p,wk,J];exact aC ⟨zS1 f1,zS1 f4,zS1 f3,zSi,by rw[j];simp[go_sem],zS1 C⟩
      .have j:(ts.sA.take (k+1)).any (fun y=>eF ts.sA[i] y)=false:=by rw[g];simp[eF,hq.symm];exact fun e=>J e.symm
       simp[go_sem,f6,p,wk,J];exact aC ⟨zS1 f1,zS1 f4,zS1 f3,zSi,by rw[j];simp[go_sem],zS1 C⟩
     .have j:(ts.sA.take (k+1)).any (fun y=>eF ts.sA[i] y)=false:=by rw[g];simp[eF];exact fun e=>absurd e.symm hq
      simp[go_sem,f1,f4,f6,f5,p,t,l,wk,jM hq];exact aC ⟨zS1 f1,zS1 f4,zS1 f3,zSi,by rw[j];simp[go_sem],zS1 C⟩
   .have a1:k=i:=by omega
    subst a1;rw[hT]at o;cases T with
    |true =>
     simp[go_sem,f4,f3,f6,f5,C];refine Qq (ys:=[(41,0)]) I (by simp[qC]) zSo fun a7 m' a2 a3=>?_
     simp[go_sem,f4,wi];exact⟨l,aC ⟨zS1 f1,zSi,by rw[o,Jg,wI,if_pos rfl,<-zJ];simpa[go_sem] using a2,by simp only[qB];exact fun i P=>(a3 i P).trans (hm i P)⟩⟩
    |false =>
     simp[go_sem,f4,f6,f5,C,wi];exact⟨l,aC ⟨zS1 f1,zSi,by rw[o,Jg,wI,if_neg zSp,zF];simpa[go_sem,f3,C] using I,by simp only[qB];exact hm⟩⟩
  .have a4:i=ts.sA.length:=by omega
   subst a4;rw[yg (by rw[Qj];exact qo _)]at I;simp[go_sem,R,e4,h3];exact⟨zUs I,hm⟩
end
end QT
namespace QU
open YF Y9 Y10 Y1 Y2 Y15 Y16 YZ P1 P2 PA QD QI QK QT
theorem qrR{ts i}(g):(∃ p,zt (ckR ts i) ts.sT[i].name=some p/\(ts.sT.take i).any (fun y=>eP ts.sT[i] y)=true)\/(zt (ckR ts i) ts.sT[i].name=none/\(ts.sT.take i).any (fun y=>eP ts.sT[i] y)=false):=by
 cases h:zt (ckR ts i) ts.sT[i].name with
 |some p =>
  left;refine⟨p,rfl,?_⟩;unfold zt at h;rw[List.findIdx?_eq_some_iff_getElem]at h;obtain⟨hp,j,_⟩:=h;refine List.any_eq_true.2 ⟨_,qq hp,?_⟩
  grind
 |none =>
  right;refine⟨rfl,?_⟩;unfold zt at h;rw[List.findIdx?_eq_none_iff]at h;rw[List.any_eq_false];intro x hx;have:=h x hx
  grind
theorem rdDg{lo mu av xs}(h:OwnF lo mu 2 av (xs.map cDg)):Rd mu av (lDg xs):=by
 refine h.1.rd (zi.ok fun r g=>?_) fun r g c i=>?_
 .obtain ⟨n,_,rfl⟩:=qk.1 g
  exact⟨rfl,rfl⟩
 .obtain ⟨n,_,rfl⟩:=qk.1 g
  rcases qv.1 i with rfl|i
  .exact HF.sc _
  grind [qY,HF.sc]
theorem Jh{lo sz mu av xs}(h:OwnF lo mu sz av xs)(c):OwnF lo (mu++[c]) sz av xs:=⟨JY h.1 c,h.2.1,by have:=h.2.2;simp;omega⟩
theorem qrS(ts)(h:okTS ts)(wp:∀ p,p∈ts.sT->WfN p.body)(i)(R:i<ts.sT.length)(hd:depN ts.sT[i].body<=24):qg qc 56 [eTS ts,aI i] (lDg (v7 ts i)):=by
 have a6:=h.pl _ (qq R);have ag:=h.np;have c1:=qd1 ts h wp i zOm ts.sT[i].params ⟨zOm,a6.2⟩ zOm ts.sT[i].body (wp _ (qq R)) hd;have c2:=Vz (ckR ts i) (Wp h zOm) ts.sT[i].name;have a7:=qrR R;have hp:v7 ts i=dups [(ts.sT.take i).any (fun y=>eP ts.sT[i] y)]++(dups (repL eM ts.sT[i].params)++rp (jE (mkCk ts i) ts.sT[i].params ts.sT[i].body)):=by
  grind [v7,qz,qbP]
 rw[hp];generalize hD:jE (mkCk ts i) ts.sT[i].params ts.sT[i].body=D at *
 generalize hb:(ts.sT.take i).any (fun y=>eP ts.sT[i] y)=b at *
 have ah:(dups [b]).length<=1:=by grind [dups]
 refine qSU call56 func56 rfl ?_;refine cL zKr ?_;simp[go_sem,R];refine pL c2 (.zk (zq _) (.zs (.zs .nil))) ?_;have wk:WKs [eTS ts,aI i,lPm ts.sT[i].params,eNd ts.sT[i].body] [eTS ts,aI i,lPm ts.sT[i].params,eNd ts.sT[i].body] := .zk (zq _) (.zs (.zk (uj _) (.zk (qK _) .nil)));have af:=Zf;have fin:∀ U:St,True:=fun _=>trivial
 rcases a7 with ⟨p,hc,a0⟩|⟨hc,a0⟩
 case' inl =>
  subst a0;rw[hc];have a8:(0:Int)<=(p:Int):=zOm;simp[go_sem,idxO,a8];refine Qq (lo:=0) (xs:=[]) (ys:=[(41,0)]) (OwnF.nil zSp) (by simp[qC]) zSp fun ai m0 aj _=>?_
  simp[go_sem,R]
 case' inr =>
  subst a0;rw[hc];simp[go_sem,idxO,R]
 all_goals
  generalize a9:ts.sT[i]=g at *
 case' inl =>
  refine aA g.params.length (fun k U=>U.tm 2 = .ip (cTS ts)/\U.tm 1=aI i/\U.tm 6=lPm g.params/\U.tm 7=aI k/\OwnF 0 U.mu 2 (U.tm 5) ((dups [true]++dups ((repL eM g.params).take k)).map cDg)) ?_ ?_
  .simp_all [go_sem,dups]
 case' inr =>
  refine aA g.params.length (fun k U=>U.tm 2 = .ip (cTS ts)/\U.tm 1=aI i/\U.tm 6=lPm g.params/\U.tm 7=aI k/\OwnF 0 U.mu 2 (U.tm 5) ((dups [false]++dups ((repL eM g.params).take k)).map cDg)) ?_ ?_
  .simp_all [go_sem,dups,OwnF.nil]
 all_goals
  rintro k U hk ⟨e2,e1,e6,e7,ho⟩;have a5:(dups ((repL eM g.params).take k)).length<=k:=zG (Y16.Ql _) (List.length_take_le ..);generalize h5:U.tm 5=t at *
  by_cases C:k<g.params.length
  .have a1:=kS eM g.params k C
   have wi:=zWk k;simp[go_sem,e6,e7,C];refine aA k (fun j st2=>st2.tm 2 = .ip (cTS ts)/\st2.tm 1=aI i/\st2.tm 6=lPm g.params/\st2.tm 7=aI k/\st2.tm 5=t/\st2.tm 9=aI j/\st2.tm 8=aB ((g.params.take j).any fun y=>eM g.params[k] y)/\st2.mu=U.mu) ?_ ?_
   .simp [go_sem, *]
   rintro j st2 hj ⟨f2,f1,f6,f7,f5,f9,f8,fm⟩;generalize hT:(g.params.take j).any (fun y=>eM g.params[k] y)=T at *
   by_cases a2:j<k
   .have a3:j<g.params.length:=by omega
    have wj:=zWk j;have o:=Wq (fun y=>eM g.params[k] y) g.params j a3;rw[hT]at o;simp[go_sem,f7,f9,a2];refine cL zKr ?_;cases T with
    |true =>
     simp_all[go_sem,Bool.true_or,aC]
    |false =>
     rw[Bool.false_or]at o;by_cases hq:g.params[j].1=g.params[k].1
     .have l:(g.params.take (j+1)).any (fun y=>eM g.params[k] y)=true:=by rw[o];exact decide_eq_true hq.symm
      simp[go_sem,f6,f7,f9,f8,a2,a3,C,wj,hq];exact aC ⟨zS1 f2,zS1 f1,zS1 f6,zS1 f7,zS1 f5,zSi,by rw[l];simp[go_sem],zS1 fm⟩
     .have l:(g.params.take (j+1)).any (fun y=>eM g.params[k] y)=false:=by rw[o];exact decide_eq_false fun e=>hq e.symm
      simp[go_sem,f6,f7,f9,f8,a2,a3,C,wj,jM hq];exact aC ⟨zS1 f2,zS1 f1,zS1 f6,zS1 f7,zS1 f5,zSi,by rw[l];simp[go_sem],zS1 fm⟩
   .have aa:j=k:=by omega
    subst aa;rw[hT]at a1;cases T with
    |true =>
     simp[go_sem,f7,f5,f9,f8,fm];refine Qq (ys:=[(41,0)]) ho (by simp[qC]) zSo fun ab m' I ad=>?_
     simp[go_sem,f7,wi];exact⟨C,aC ⟨zS1 f2,zS1 f1,zS1 f6,zSi,by rw[a1,Jg,<-zJ];simpa[go_sem,wI] using I⟩⟩
    |false =>
     simp[go_sem,f7,f9,f8,fm,wi];exact⟨C,aC ⟨zS1 f2,zS1 f1,zS1 f6,zSi,by rw[a1,Jg];simpa[go_sem,wI,f5,fm] using ho⟩⟩
  .have ae:k=g.params.length:=by omega
   subst ae;rw[yg (by rw[Qj];exact qo _)]at ho a5;simp[go_sem,e6,e7];refine cL zKr ?_;simp[go_sem,e2,e1,e6,R,a9];refine pL c1 wk ?_;by_cases J:D.1=0
   .have a4:rp D=[]:=if_pos J
    rw[a4];simp[go_sem,h5,J];exact rdDg (Jh ho _)
   .have a4:rp D=[D]:=if_neg J
    rw[a4];simp[go_sem,h5,J];refine Qq (ys:=[D]) (Jh ho _) (by simp[qC]) (by simp only[zb,List.length_singleton];omega) fun ab m' I ad=>?_
    simp[go_sem];rw[zJ]at I;exact rdDg I
theorem JW(f:Nat->List Dg)(n):(qs (n+1)).flatMap f=(qs n).flatMap f++f n:=by
 rw[List.range_succ,List.flatMap_append];simp only[wO,List.flatMap_nil,zF]
theorem qrT(ts)(h:okTS ts)(wp:∀ p,p∈ts.sT->WfN p.body)(wf:∀ f,f∈ts.sP->WfN f.2)(dp:∀ p,p∈ts.sT->depN p.body<=24)(df:∀ f,f∈ts.sP->depN f.2<=24):qg qc 24 [eTS ts] (lDg (y7 ts)):=by
 have aj:=h.np;have ak:=h.nfa;have hD:(dups (repL eS ts.sS)++dups (repL eF ts.sA)).length<=10:=by
  have a1:=Y16.Ql (repL eS ts.sS);have a2:=Y16.Ql (repL eF ts.sA);rw[Qj]at a1 a2;have:=h.ns;have:=h.nf;rw[zb];omega
 have hC:y7 ts=(dups (repL eS ts.sS)++dups (repL eF ts.sA))++((qs ts.sT.length).flatMap (v7 ts)++(qs ts.sP.length).flatMap (Qk ts ts.sP)):=by
  unfold y7;rw[zJ]
 rw[hC];have a8:=qrQ ts h [];generalize dups (repL eS ts.sS)++dups (repL eF ts.sA)=D0 at *
 refine qSU call24 func24 rfl ?_;refine fZ a8 (fun r m hr=>?_) (fun r m hr=>?_)
 case refine_2 =>
  grind
 obtain⟨al,e,an,_⟩:=hr;cases e;simp[go_sem];refine aA ts.sT.length (fun i U=>U.tm 1 = .ip (cTS ts)/\U.tm 4=aI i/\OwnF 0 U.mu 2 (U.tm 3) ((D0++(qs i).flatMap (v7 ts)).map cDg)) ?_ ?_
 .simp_all [go_sem]
 rintro i U hi ⟨e1,e4,P⟩;have ai:=Y16.Kk (v7 ts) (Y16.mT h) i;generalize h3:U.tm 3=t at *
 by_cases g:i<ts.sT.length
 .have j:=JW (v7 ts) i
  have ao:=Y16.mT h i;have a9:=qrS ts h wp i g (dp _ (qq g));have wi:=zWk i;generalize v7 ts i=PD at *
  simp[go_sem,e1,e4,h3,g];refine fR a9 (.zk (zq ts) (.zs .nil)) ?_;refine Qq (ys:=PD) P (by simp[qC]) (by simp only[zb];omega) fun aa m' a0 ab=>?_
  simp_all[go_sem,aC,zJ]
 .have a3:i=ts.sT.length:=by omega
  subst a3;simp[go_sem,e1,e4];generalize (qs ts.sT.length).flatMap (v7 ts)=P0 at *
  refine aA ts.sP.length (fun i U=>U.tm 1 = .ip (cTS ts)/\U.tm 5=aI i/\OwnF 0 U.mu 2 (U.tm 3) (((D0++P0)++(qs i).flatMap (Qk ts ts.sP)).map cDg)) ?_ ?_
  .exact ⟨zS1 e1,zSi,by simpa[go_sem,h3] using P⟩
  clear P e1 e4 h3 g hi U;rintro i U hi ⟨e1,e4,P⟩;have ad:=Y16.Kk (Qk ts ts.sP) (Y16.qlD ts ts.sP) i;generalize h3:U.tm 3=ae at *
  by_cases g:i<ts.sP.length
  .have j:=JW (Qk ts ts.sP) i
   have af:Qk ts ts.sP i=dups [(ts.sP.take i).any (fun y=>eA ts.sP[i] y)]++rp (yy ts [] ts.sP[i].2):=by
    unfold Qk;rw[qz g];simp only;rw[qbP,qz g]
   rw[af]at j;have cf:=kR ts h wp [] ⟨zSp,zSp⟩ zSp ts.sP[i].2 (wf _ (qq g)) (df _ (qq g));have wi:=zWk i;generalize yy ts [] ts.sP[i].2=D at *
   simp[go_sem,e1,e4,g];refine aA i (fun k st2=>st2.tm 1 = .ip (cTS ts)/\st2.tm 5=aI i/\st2.tm 3=ae/\st2.tm 7=aI k/\st2.tm 6=aB ((ts.sP.take k).any fun y=>eA ts.sP[i] y)/\st2.mu=U.mu) ?_ ?_
   .exact ⟨zS1 e1,zS1 e4,zS1 h3,zSi,zSi,zSi⟩
   rintro k st2 hk ⟨f1,f4,f3,f6,f5,fm⟩;generalize hT:(ts.sP.take k).any (fun y=>eA ts.sP[i] y)=T at *
   by_cases R:k<i
   .have a4:k<ts.sP.length:=by omega
    have wk:=zWk k;have l:=Wq (fun y=>eA ts.sP[i] y) ts.sP k a4;rw[hT]at l;simp[go_sem,f4,f6,R];refine cL zKr ?_;cases T with
    |true =>
     rw[Bool.true_or]at l;simp[go_sem,f6,f5,R,wk];exact aC ⟨zS1 f1,zS1 f4,zS1 f3,zSi,by rw[l];simp[go_sem],zS1 fm⟩
    |false =>
     rw[Bool.false_or]at l;by_cases hq:ts.sP[k].1=ts.sP[i].1
     .have C:(ts.sP.take (k+1)).any (fun y=>eA ts.sP[i] y)=true:=by rw[l];exact decide_eq_true hq.symm
      simp[go_sem,f1,f4,f6,f5,R,a4,g,wk,hq];exact aC ⟨zS1 f1,zS1 f4,zS1 f3,zSi,by rw[C];simp[go_sem],zS1 fm⟩
     .have C:(ts.sP.take (k+1)).any (fun y=>eA ts.sP[i] y)=false:=by rw[l];exact decide_eq_false fun e=>hq e.symm
      simp[go_sem,f1,f4,f6,f5,R,a4,g,wk,jM hq];exact aC ⟨zS1 f1,zS1 f4,zS1 f3,zSi,by rw[C];simp[go_sem],zS1 fm⟩
   .have ag:k=i:=by omega
    subst ag;rw[hT]at j;have a5:WKs [eTS ts,.lst true [],eNd ts.sP[k].2] [eTS ts,lPm [],eNd ts.sP[k].2] := .zk (zq ts) (.cons (WK.lst fun r hr=>absurd hr qI) (.zk (qK _) .nil));have aq:=nJ;cases T with
    |true =>
     simp[go_sem,f4,f3,f6,f5,fm];refine Qq (ys:=[(41,0)]) P (by simp[qC]) (by simp only[zb,List.length_singleton];omega) fun aa m' a0 ab=>?_
     simp[go_sem];refine cL zKr ?_;simp[go_sem,f1,f4,g];refine pL cf a5 ?_;by_cases o:D.1=0
     .have I:rp D=[]:=if_pos o
      rw[I,zF]at j;simp[go_sem,f4,wi,o];exact⟨g,aC ⟨zS1 f1,zSi,by rw[j,<-zJ];simpa[go_sem,wI] using Jh a0 (.arr [aI 0,aI D.2])⟩⟩
     .have I:rp D=[D]:=if_neg o
      rw[I]at j;simp[go_sem,o];refine Qq (ys:=[D]) (Jh a0 _) (by simp[qC]) (by simp only[zb,List.length_singleton];omega) fun a6 ah J a7=>?_
      simp[go_sem,f4,wi];exact⟨g,aC ⟨zS1 f1,zSi,by rw[j,<-zJ];simpa[go_sem,wI,zJ] using J⟩⟩
    |false =>
     simp[go_sem,f4,f6,f5,fm];refine cL zKr ?_;simp[go_sem,f1,f4,g];refine pL cf a5 ?_;by_cases o:D.1=0
     .have I:rp D=[]:=if_pos o
      rw[I,zF]at j;simp[go_sem,f4,wi,o];exact⟨g,aC ⟨zS1 f1,zSi,by rw[j,<-zJ];simpa[go_sem,wI,f3] using Jh P (.arr [aI 0,aI D.2])⟩⟩
     .have I:rp D=[D]:=if_neg o
      rw[I]at j;simp[go_sem,f3,o];refine Qq (ys:=[D]) (Jh P _) (by simp[qC]) (by simp only[zb,List.length_singleton];omega) fun a6 ah J a7=>?_
      simp[go_sem,f4,wi];exact⟨g,aC ⟨zS1 f1,zSi,by rw[j,<-zJ];simpa[go_sem,wI,zJ] using J⟩⟩
  .have a3:i=ts.sP.length:=by omega
   subst a3;simp[go_sem,e1,e4,h3];rw[zJ]at P;exact rdDg P
end QU
namespace QP
end QP
namespace QV
end QV
namespace QW
open YS YF Y9 Y10 Y1 Y2 YZ YA P1 P2
section
variable {l:List tC}
abbrev rNm(b:tC):List AV:=[aS b]
abbrev lNm(l:List tC):AV := .lst false (l.map rNm)
def namL(n:Nd):List tC:=((preN n).filter fun x=>decide (x.name≠⟨#[]⟩)).map Nd.name
def vw(l:List Nd):List tC:=((zz l).filter fun x=>decide (x.name≠⟨#[]⟩)).map Nd.name
theorem qrU(n):namL n=(if n.name=⟨#[]⟩ then [] else [n.name])++vw n.sD:=by
 unfold namL vw;rw[ur,List.filter_cons];by_cases h:n.name=⟨#[]⟩
 .simp [h]
 .simp [h]
theorem YL:∀ a b,zz (a++b)=zz a++zz b
 | [],b=>rfl
 |x :: a,b=>by rw[yG];simp only[zz];rw[YL a b,zJ]
theorem qrV(a k):vw (a++[k])=vw a++namL k:=by
 grind [vw,namL,YL,zz]
theorem qrW(l):(vw l).length<=(zz l).length:=by
 grind [vw,zW,List.length_filter_le]
theorem Wr(n):(namL n).length<=(preN n).length:=by
 grind [namL,zW,List.length_filter_le]
theorem kT(l:List tC):zi 1 (l.map rNm):=fun r g=>by
 obtain⟨x,_,rfl⟩:=qk.1 g;exact⟨rfl,rfl⟩
theorem qd2(l):HF (lNm l):=HF.lst fun r g c i=>by
 obtain⟨x,_,rfl⟩:=qk.1 g
 grind [qY,HF.sc]
theorem rdNm{lo mu av}(h:OwnF lo mu 1 av (l.map rNm)):Rd mu av (lNm l):=
 h.1.rd (kT l).ok fun r g c i=>by
  obtain⟨x,_,rfl⟩:=qk.1 g
  grind [qY,HF.sc]
theorem appNm{mu lo s x}{xs ys:List tC}{K}(j:OwnF lo mu 1 s (xs.map rNm))(hx:qC mu x=some (ys.map rNm))(l:xs.length+ys.length<=1000000)(o:∀ av mu',OwnF lo mu' 1 av ((xs++ys).map rNm)->(∀ i,i<lo->mu'[i]?=mu[i]?)->K av mu') :
  qw qc mu #[189,189] s x K:=by
 refine qw.ownF (lo:=lo) (e:=9) (sz:=1) (bt:=16) (zv:=aS ⟨#[]⟩) (xs:=xs.map rNm) (ys:=ys.map rNm) zSi zSi zSi rfl rfl zOm zOm j hx (kT xs) (kT ys) zSo ?_
 grind
theorem qrX(l k):(zz (l.take k)).length<=(zz l).length:=by
 grind [zz,YL,List.take_append_drop,zb]
theorem kU:∀ m n,szN n<=m->Small n->∀ lo mu av xs,OwnF lo mu 1 av (xs.map rNm)->xs.length+(preN n).length<=500000 ->
  qA qc 160 [av,eNd n] mu fun e t=>∃ g,e = .ret g/\OwnF lo t 1 g ((xs++namL n).map rNm)/\∀ i,i<lo->t[i]?=mu[i]?
 | 0,n,I,_=>by obtain⟨op,nm,i,ks,p⟩:=n;simp[szN]at I
 |m+1,n,I,hs=>by
  intro lo mu av xs C hl;have ih:∀ k,k∈n.sD->∀(lo:Nat)(mu:Mu)(av:AV)(xs:List tC),OwnF lo mu 1 av (xs.map rNm)->xs.length+(preN k).length<=500000->qA qc 160 [av,eNd k] mu fun e t=>∃ g,e = .ret g/\OwnF lo t 1 g ((xs++namL k).map rNm)/\∀ i,i<lo->t[i]?=mu[i]?:=fun k P =>
   kU m k (zW1 (yn P)) (hs.kid P)
  have a2:=hs.len;have l:=qrU n;have a3:(preN n).length=1+(zz n.sD).length:=by rw[ur,zK];omega
  refine qSW call160 func160 rfl {} ?_;by_cases J:n.name=⟨#[]⟩
  case' pos =>
   rw[if_pos J,vd]at l;simp[go_sem,J];refine aA n.sD.length (fun k U=>U.tm 3 = .ip (cNd n)/\U.tm 5=aI k/\OwnF lo U.mu 1 (U.tm 0) ((xs++vw (n.sD.take k)).map rNm)/\∀ i,i<lo->U.mu[i]?=mu[i]?) ?_ ?_
   .simp_all [go_sem,vw,zz]
   generalize hX:xs=X at *
   have R:X.length+(zz n.sD).length<=500000:=zOm;have j:X++vw n.sD=X++namL n:=by rw[l]
  case' neg =>
   rw[if_neg J]at l;have T:n.name.toList.isEmpty=false:=by simpa using jM J
   simp[go_sem,T];refine appNm (ys:=[n.name]) C (by simp[qC]) (by grind) fun g t a4 a5=>?_
   simp[go_sem];refine aA n.sD.length (fun k U=>U.tm 3 = .ip (cNd n)/\U.tm 5=aI k/\OwnF lo U.mu 1 (U.tm 0) (((xs++[n.name])++vw (n.sD.take k)).map rNm)/\∀ i,i<lo->U.mu[i]?=mu[i]?) ?_ ?_
   .simp_all [go_sem,vw,zz]
   generalize hX:xs++[n.name]=X at *
   have R:X.length+(zz n.sD).length<=500000:=by grind
   have j:X++vw n.sD=xs++namL n:=by grind
  all_goals
   rintro k U P ⟨e3,e5,C,I⟩;generalize h0:U.tm 0=a0 at *
   by_cases o:k<n.sD.length
   .have w1:=zWk k
    have a6:vw (n.sD.take (k+1))=vw (n.sD.take k)++namL n.sD[k]:=by rw[vP o,qrV]
    have a7:(zz (n.sD.take (k+1))).length=(zz (n.sD.take k)).length+(preN n.sD[k]).length:=by grind [vP,YL,zz]
    have h1:=qrX n.sD (k+1);have h2:=qrW (n.sD.take k);simp[go_sem,e3,e5,h0,o,zc];refine fZ (ih n.sD[k] (qq o) lo U.mu a0 _ C (by rw[zb];omega)) (fun r m2 hr=>?_) (fun r m2 hr=>?_)
    .simp_all [go_sem,aC,zJ,qB,trans]
    grind
   .have a1:k=n.sD.length:=by omega
    subst a1;rw[qR,j]at C;simp[go_sem,e3,e5,h0];exact⟨zUs C,I⟩
def takL(ts:TS)(n:Nd):List tC:=namL n++ts.sT.flatMap fun p=>namL p.body
theorem qrY(ts)(h:okTS ts)(wp:∀ p,p∈ts.sT->WfN p.body)(n)(hw:WfN n)(hl:(preN n).length<=400)(hp:∀ p,p∈ts.sT->(preN p.body).length<=400):qg qc 109 [eTS ts,eNd n] (lNm (takL ts n)):=by
 have a3:=h.np;have hk:∀ i (o:i<ts.sT.length),ts.sT.take (i+1)=ts.sT.take i++[ts.sT[i]]:=fun i o=>vP o
 have I:∀ i,((ts.sT.take i).flatMap fun p=>namL p.body).length<=400*i:=by
  intro i;induction i with
  |zero=>simp
  |succ i ih =>
   by_cases o:i<ts.sT.length
   .rw [hk i o,List.flatMap_append,zb]
    have h1:=Wr ts.sT[i].body;have h2:=hp _ (qq o);simp only[wO,List.flatMap_nil,zF];omega
   .have e1:ts.sT.take (i+1)=ts.sT:=yg zOm
    have l:ts.sT.take i=ts.sT:=yg zOm;rw[e1];rw[l]at ih;omega
 have hn:=Wr n;refine qSU call109 func109 rfl ?_;refine fZ (kU (szN n) n (qo _) hw.small 0 [] (.lst true []) [] (OwnF.nil zSp) zSo) (fun r J j=>?_) (fun r J j=>?_)
 case refine_2 =>
  obtain⟨t,e,_⟩:=j;cases e
 obtain⟨a4,e,C,_⟩:=j;cases e;rw[vd]at C;simp[go_sem];refine aA ts.sT.length (fun k U=>U.tm 2 = .ip (cTS ts)/\U.tm 6=aI k/\OwnF 0 U.mu 1 (U.tm 5) ((namL n++(ts.sT.take k).flatMap fun p=>namL p.body).map rNm)) ?_ ?_
 .exact ⟨zSi,zSi,zVs C⟩
 rintro k U a5 ⟨l,P,R⟩;generalize h5:U.tm 5=T at *
 by_cases g:k<ts.sT.length
 .have w1:=zWk k
  have a0:(ts.sT.take (k+1)).flatMap (fun p=>namL p.body)=(ts.sT.take k).flatMap (fun p=>namL p.body)++namL ts.sT[k].body:=by
   rw[hk k g,List.flatMap_append];simp only[wO,List.flatMap_nil,zF]
  have h1:=I k;have h2:=hp _ (qq g);simp[go_sem,l,P,h5,g,Zf];refine fZ (kU (szN ts.sT[k].body) ts.sT[k].body (qo _) (wp _ (qq g)).small 0 U.mu T _ R (by rw[zb];omega)) (fun r J j=>?_) (fun r J j=>?_)
  .obtain ⟨t,e,a1,_⟩:=j
   cases e;simp[go_sem,l,P,w1];exact⟨g,aC ⟨zS1 l,zSi,by rw[a0,<-zJ];simpa[go_sem] using a1⟩⟩
  .obtain ⟨t,e,_⟩:=j
   cases e
 .have a2:k=ts.sT.length:=by omega
  subst a2;rw[qR]at R;simp[go_sem,l,P,h5];exact rdNm R
def inL(nm:tC)(l:List tC):Bool:=l.any fun x=>decide (x=nm)
theorem kV{nm}:inL nm l=true↔nm∈l:=by
 unfold inL;simp
theorem qd3{nm}(h:¬nm∈l):inL nm l=false:=by
 grind [inL,absurd,kV]
theorem hasU(l nm)(J:l.length<=1000000):qg qc 200 [lNm l,aS nm] (aB (inL nm l)):=by
 refine qSU call200 func200 rfl ?_;refine aA l.length (fun k U=>U.tm 0=lNm l/\U.tm 1=aS nm/\U.tm 5=aI k/\∀ x,x∈l.take k->x≠nm) ?_ ?_
 .simp [go_sem, *]
 rintro k U P ⟨i,j,p,r⟩;by_cases g:k<l.length
 .have I:=zWk k
  by_cases o:l[k]=nm
  .have t:inL nm l=true:=kV.2 (o ▸ qq g)
   rw[t];simp[go_sem,i,j,p,g,o];exact .zsc _
  .simp [go_sem,i,j,p,g,jM o,I]
   refine aC ⟨zS1 i,zS1 j,zSi,fun x hx=>?_⟩;rw[vP g,qM,qY]at hx;rcases hx with hx|rfl
   .exact r x hx
   .exact o
 .have C:k=l.length:=by omega
  subst C;rw[qR]at r;have t:inL nm l=false:=qd3 fun h=>r nm h rfl
  rw[t];simp[go_sem,i,j,p];exact .zsc _
theorem qrZ(u:Nat)(h:u<10):ByteArray.empty.push (UInt8.ofNat ((48:Int)+(u:Int)).toNat)=jv u:=by
 unfold jv;rw[Lib.itoa_nonneg,Lib.decDigits_one h,show ((48:Int)+(u:Int)).toNat=48+u by omega];rfl
theorem qr0(u)(h:¬u<10):jv ((u / 10:Nat):Int)++ByteArray.empty.push (UInt8.ofNat ((48:Int)+((u % 10:Nat):Int)).toNat)=jv u:=by
 unfold jv;rw[Lib.itoa_nonneg,Lib.itoa_nonneg,Lib.decDigits.eq_1 u,dif_neg h,show ((48:Int)+((u % 10:Nat):Int)).toNat=48+u % 10 by omega];apply ByteArray.ext;simp
theorem digU:∀(m u:Nat),u<=m->u<=1000000000->qg qc 199 [aI u] (aS (jv u))
 |m,u,J,P=>by
  have r:qp.wrap (48+(u:Int))=48+(u:Int):=zWr;refine qSV call199 func199 rfl ?_;by_cases h:u<10
  .have i:(u:Int)<10:=by omega
   have t:IntKind.u8.wrap (48+(u:Int))=48+(u:Int):=IntWalk.u8_in _ ⟨zOm,zOm⟩;have g:=qrZ u h;simp[go_sem,i,r,t,g];exact .zsc _
  .have i:¬(u:Int)<10:=by omega
   have C:=digU (u / 10) (u / 10) (qo _) zOm;have g:=qr0 u h;simp[go_sem,i];refine cL zKr ?_;have I:qp.wrap ((u:Int) / 10)=((u / 10:Nat):Int):=by rw[show ((u:Int) / 10)=((u / 10:Nat):Int) from rfl];grind [z7]
   have t3:(u:Int).tmod 10=((u % 10:Nat):Int):=rfl;have o:qp.wrap (48+((u % 10:Nat):Int))=48+((u % 10:Nat):Int):=zWr;have p:IntKind.u8.wrap (48+((u % 10:Nat):Int))=48+((u % 10:Nat):Int):=IntWalk.u8_in _ ⟨zOm,zOm⟩;have j:=KP ((u / 10:Nat):Int) zOm zOm;simp[go_sem,I];refine pL C (.zs .nil) ?_;have c1:((u / 10:Nat):Int)=(u:Int) / 10:=rfl;have c2:((u % 10:Nat):Int)=(u:Int) % 10:=rfl;rw[c1]at j g;rw[c2]at o p g;have l:(jv ((u:Int) / 10)).size<=9223372036854775806:=zOm;simp[go_sem,t3,o,p,l,g];exact .zsc _
end
end QW
namespace QX
open YS YF Y9 Y1 Y2 YX YZ YA YB P1 QD QK QW
abbrev cWk(ts:TS)(l:List tC)(s:ISt):List AV:=cTS ts++[lNm l,aI s.last,aI s.sM]
abbrev eWk(ts:TS)(l:List tC)(s:ISt):AV := .agg (cWk ts l s)
theorem qr1(ts l s):∀ c,c∈cWk ts l s->HF c:=fun c g=>by
 rcases qM.1 g with g|g
 .exact Ux ts c g
 .simp only[qv,qI,or_false]at g
  rcases g with rfl|rfl|rfl
  .exact qd2 l
  .exact HF.sc _
  .exact HF.sc _
theorem wJ(ts l s):HF (eWk ts l s):=HF.agg (qr1 ts l s)
structure Tn (l:List tC) (es:List (tC×Bool)):Prop where
 mem:∀ nm:tC,nm≠⟨#[]⟩->(nm∈l↔getK nm es=some true)
 len:es.length<=l.length+1
theorem vN_ne(k):vN k≠⟨#[]⟩:=fun e=>by
 have:=congrArg ByteArray.size e;unfold vN at this;rw[ByteArray.size_append]at this;have g:(⟨#[118]⟩:tC).size=1:=rfl;have i:(⟨#[]⟩:tC).size=0:=rfl;omega
theorem qr2{ts l es}(t:Tn l es)(k):yD ts es (vN k)=(decide ((means ts (vN k)).length=0)&&!inL (vN k) l):=by
 unfold yD;have i:=t.mem (vN k) (vN_ne k);have g:decide (means ts (vN k)=[])=decide ((means ts (vN k)).length=0):=by
  simp[List.length_eq_zero_iff]
 rw[g,Bool.and_comm];congr 1;by_cases j:vN k∈l
 .grind [kV]
 simp_all[qd3,Bool.not_false,decide_eq_true_eq]
theorem two{J:Type}{l}{a b:J}(g:l[0]?=some a)(i:l[1]?=some b):∃ r,l=a :: b :: r:=by
 match l,g,i with
 |_ :: _ :: r,g,i =>
  grind
abbrev zWc:List AV:=[.lst true [],.lst true [],.lst true [],.lst true [],.lst true [],aI 0,aI 0]
theorem qr3(ts)(h:okTS ts)(l es)(t:Tn l es)(hl:l.length<=400000)(s:ISt)(hs:0<=s.last/\s.last+(qm ts es:Nat)<=1000000000)(a4:∃ j,1<=j/\j<=qm ts es/\yD ts es (vN (s.last+j))=true) :
  qg qc 159 [eWk ts l s] (.tup [eWk ts l ⟨zA ts es (qm ts es) s.last,s.sM⟩,aS (vN (zA ts es (qm ts es) s.last))]):=by
 have a8:=h.ns;have a9:=h.nf;have hF:qm ts es<=l.length+40:=by have:=t.len;unfold qm;omega
 have a5:okNm ts:=⟨h.sl,zOm,zOm,fun f hf=>zW1 (h.fl f hf)⟩;generalize aa:qm ts es=F at *
 generalize hR:zA ts es F s.last=R;refine qSQ call159 func159 rfl { mt:=[1] } ?_;simp[go_sem];refine tS (fun m U=>∃(i:Nat) (k:Int),i+m=F/\0<=k/\k+m<=1000000000/\U.tm 1 = .ptr 0 0/\U.tm 2 = .ptr 1 0/\U.tm 4=aI i/\U.mu[0]?=some (.arr (cWk ts l ⟨k,s.sM⟩))/\U.mu[1]?=some (.arr zWc)/\zA ts es m k=R/\∃ j:Nat,1<=j/\j<=m/\yD ts es (vN (k+j))=true) F ?_ ?_
 .exact ⟨0,s.last,zOm,hs.1,zOm,zSi,zSi,zSi,zSi,zSi,hR,a4⟩
 rintro m U ⟨i,k,ab,ad,ae,I,J,e4,m0,m1,hI,j,af,ag,ah⟩;obtain⟨m,rfl⟩:∃ m',m=m'+1:=⟨m-1,zOm⟩;obtain⟨rr,o⟩:=two m0 m1;have w1:qp.wrap (k+1)=k+1:=zWr;have w2:qp.wrap ((l.length:Int)+40)=(l.length:Int)+40:=zWr;have w3:=zWk i;have g:(i:Int)<=(l.length:Int)+40:=zOm;obtain⟨u,hu⟩:∃ u:Nat,k+1=(u:Int):=⟨(k+1).toNat,zOm⟩;have cd:=digU u u (qo _) zOm;have ai:=KP (u:Int) zOm zOm;have a2:1+(jv (u:Int)).size<=9223372036854775807:=zOm;have hv:(⟨#[118]⟩:tC)++jv (u:Int)=vN (k+1):=by rw[hu];rfl
 have p:=qr2 (ts:=ts) t (k+1);have cn:=kB ts a5 (vN (k+1));have T:=kA ts (vN (k+1));have hk:(named ts (vN (k+1))).2=(means ts (vN (k+1))).length:=by rw[kO h]
 rw[hk]at cn;generalize (named ts (vN (k+1))).1=C at *
 have ch:=hasU l (vN (k+1)) zOm;clear m0 m1;simp[go_sem,I,J,e4,o,w1,w2,g];refine pL cd (.cons (by rw[hu];exact .hf (HF.sc _)) .nil) ?_;simp[go_sem,I,J,e4,o,w1,w2,g,a2,hv];refine pL cn (.zk (zq ts) (.zs .nil)) ?_;simp[go_sem,I,J,e4,o,w1,w2,g,T.len];rw[if_pos T.one];generalize putCells _ 0 C=PC;have next:yD ts es (vN (k+1))=false->∃ k':Int,k'=k+1/\zA ts es m k'=R/\∃ j:Nat,1<=j/\j<=m/\yD ts es (vN (k'+j))=true:=fun hn=>by
  refine⟨k+1,rfl,?_,j-1,?_,zOm,?_⟩
  .simp_all [zA,if_neg]
  .have:j≠1:=fun e=>by grind
   omega
  grind
 by_cases P:means ts (vN (k+1))=[]
 .rw [P]at p
  simp[go_sem,I,J,e4,o,w1,w2,g,P];refine pL ch (.zk (qd2 l) (.zs .nil)) ?_;cases a3:inL (vN (k+1)) l with
  |true =>
   rw[a3]at p;obtain⟨k',r,a0,a1⟩:=next p;simp[go_sem,I,J,e4,o,w1,w2,w3,g];exact⟨m,zOm,aC ⟨i+1,k+1,zOm,zOm,zOm,zS1 I,zS1 J,zSi,zSi,zSi,by rw[<-r];exact a0,by rw[<-r];exact a1⟩⟩
  |false =>
   rw[a3]at p;have a6:R=k+1:=by rw[<-hI];simp only[zA];rw[if_pos (by rw[p];rfl)]
   simp[go_sem,I,J,e4,o,w1,w2,g];rw[a6];exact .hf _ (HF.tup fun x hx=>by
    simp only[qv,qI,or_false]at hx;rcases hx with rfl|rfl
    .exact wJ ts l ⟨k+1,s.sM⟩
    .exact HF.sc _)
 .have a7:¬(means ts (vN (k+1))).length=0:=fun e=>P (List.length_eq_zero_iff.1 e)
  rw[decide_eq_false a7]at p;obtain⟨k',r,a0,a1⟩:=next p;simp[go_sem,I,J,e4,o,w1,w2,w3,g,P];exact⟨m,zOm,aC ⟨i+1,k+1,zOm,zOm,zOm,zS1 I,zS1 J,zSi,zSi,zSi,by rw[<-r];exact a0,by rw[<-r];exact a1⟩⟩
abbrev Sb:=tC×IV
def cAr:Option Nd->List AV
 |some a=>cNd a
 |none=>[aI 0,aS ⟨#[]⟩,aI 0,.lst true [],aI 0]
@[go_sem] theorem cAr_some(a):cAr (some a)=cNd a:=rfl
@[go_sem] theorem cAr_none:cAr none=[aI 0,aS ⟨#[]⟩,aI 0,.lst true [],aI 0]:=rfl
@[go_sem] theorem qr4(o):(cAr o).length=5:=by cases o<;>simp[go_sem,z8]
theorem qr5(o):∀ c,c∈cAr o->HF c:=by
 cases o with
 |some a=>exact vo a
 |none =>
  intro c g;simp only[cAr,qv,qI,or_false]at g;rcases g with rfl|rfl|rfl|rfl|rfl
  .exact HF.sc _
  .exact HF.sc _
  .exact HF.sc _
  .exact HF.lst fun r i=>absurd i qI
  .exact HF.sc _
abbrev cSb(x:Sb):List AV:=[aS x.1,aS x.2.name,aB x.2.arg.isSome]++cAr x.2.arg++[aI x.2.size]
abbrev lSb(l:List Sb):AV := .lst false (l.map cSb)
def uT(nm:tC)(l:List Sb):Option IV:=l.foldl (fun r e=>if e.1=nm then some e.2 else r) none
theorem Ws(nm l e):uT nm (l++[e])=if e.1=nm then some e.2 else uT nm l:=by
 unfold uT;rw[List.foldl_append];rfl
theorem kW{mu}(ts l s n z):Rd mu (.tup [eWk ts l s,eNd n,aI z]) (.tup [eWk ts l s,eNd n,aI z]) := .hf _ (HF.tup fun x hx=>by
 simp only[qv,qI,or_false]at hx;rcases hx with rfl|rfl|rfl
 .exact wJ ts l s
 .exact qK n
 .exact HF.sc _)
def Qr(sc:List Sb)(n:Nd)(s:ISt):(Nd×Int)×ISt:=match uT n.name sc with
 |none=>((n,1),s)
 |some v=>match v.arg with
  |none=>((.mk n.op v.name n.n n.sD n.pos,1),s)
  |some a=>((a,v.size),payS v.size s)
theorem leafU(ts l sc)(hl:sc.length<=1000000)(n s)(hs:0<=s.sM/\s.sM<=1000000)(hz:∀ e,e∈sc->0<=e.2.size/\e.2.size<=1000000) :
  qg qc 156 [eWk ts l s,lSb sc,eNd n] (.tup [eWk ts l (Qr sc n s).2,eNd (Qr sc n s).1.1,aI (Qr sc n s).1.2]):=by
 unfold Qr;generalize hR:uT n.name sc=R;have wl:qp.wrap ((sc.length:Int)-1)=(sc.length:Int)-1:=zWr;refine qSQ call156 func156 rfl { mt:=[3,5] } ?_;simp[go_sem,wl,zc];refine tS (fun m U=>m<=sc.length/\U.tm 1=lSb sc/\U.tm 3 = .ptr 0 0/\U.tm 5 = .ptr 1 0/\U.tm 6 = .ptr 2 0/\U.tm 7 = .ptr 3 0/\U.tm 9=aI ((m:Int)-1)/\U.mu=[.arr (cWk ts l s),.arr (cNd n),.arr zWc,.arr [aI 0,aS ⟨#[]⟩,aI 0,.lst true [],aI 0]]/\uT n.name (sc.take m)=R) sc.length ?_ ?_
 .simp [go_sem, *]
 rintro m U ⟨a2,j,o,p,r,t,C,I,P⟩;cases m with
 |zero =>
  have a1:R=none:=by rw[<-P];rfl
  subst a1;simp[go_sem,j,o,p,r,t,C,I,zc];refine fD [0,1,4,2,3] [(0,0,[]),(1,0,[]),(4,0,[]),(2,1,[1]),(3,1,[])] zKr zKr zSi ?_;simp[go_sem,j,o,p,r,t,C,I,zc]
  grind [kW]
 |succ m =>
  have g:m<sc.length:=zOm;have a3:(0:Int)<=((m+1:Nat):Int)-1:=zOm;have T:((m+1:Nat):Int)-1=(m:Int):=zOm;rw[T]at C;rw[vP g,Ws]at P;have w1:qp.wrap ((m:Int)-1)=(m:Int)-1:=zWr;have a4:=hz _ (qq g);generalize i:sc[m]=e at *
  by_cases J:e.1=n.name
  .rw [if_pos J]at P
   subst P;have w2:qp.wrap (s.sM+e.2.size)=s.sM+e.2.size:=zWr;simp[go_sem,j,o,p,r,t,C,I,zc,g];refine cL zKr ?_;simp[go_sem,j,o,p,r,t,C,I,zc,g,i,J];cases ha:e.2.arg with
   |none =>
    simp[go_sem,j,o,p,r,t,C,I,zc,g,i,J,ha];refine fD [0,1,4,2,3] [(0,0,[]),(1,0,[]),(4,0,[]),(2,1,[1]),(3,1,[])] zKr zKr zSi ?_;have a0:(cNd n).set 1 (AV.sc (.string e.2.name))=cNd (.mk n.op e.2.name n.n n.sD n.pos):=by rw[z8 n,z8];rfl
    rw[a0];simp[go_sem,j,o,p,r,t,C,I,zc]
    grind [kW]
   |some a =>
    simp[go_sem,j,o,p,r,t,C,I,zc,g,i,J,ha];refine fD [0,1,2,3,4,5,6,7,8,9] [(0,0,[]),(1,0,[]),(2,0,[]),(3,0,[]),(4,0,[]),(5,0,[]),(6,0,[]),(7,0,[]),(8,0,[]),(9,1,[])] zKr zKr zSi ?_;simp[go_sem,j,o,p,r,t,C,I,zc,g,i,J,ha,w2];refine fD [0,1,2,3,4,5,6,7,8,9,10,13,11,12] [(0,0,[]),(1,0,[]),(2,0,[]),(3,0,[]),(4,0,[]),(5,0,[]),(6,0,[]),(7,0,[]),(8,0,[]),(9,0,[]),(10,0,[]),(13,0,[]),(11,1,[5,10]),(12,1,[10])] zKr zKr zSi ?_;simp[go_sem,j,o,p,r,t,C,I,zc,g,i,J,ha,w2]
    grind [kW,payS]
  .rw [if_neg J]at P
   simp[go_sem,j,o,p,r,t,C,I,zc,g];refine cL zKr ?_;simp[go_sem,j,o,p,r,t,C,I,zc,g,i,jM J,w1];exact⟨m,zOm,aC ⟨zOm,zS1 j,zS1 o,zS1 p,zS1 r,zS1 t,zSi,zS1 I,P⟩⟩
theorem kX:∀ m n,szN n<=m->Small n->depN n<=1000000->qg qc 110 [eNd n] (aI (depN n))
 | 0,n,J,_,_=>by obtain⟨op,nm,i,ks,p⟩:=n;simp[szN]at J
 |m+1,n,J,P,R=>by
  have ih:∀ k,k∈n.sD->qg qc 110 [eNd k] (aI (depN k)):=fun k j =>
   kX m k (zW1 (yn j)) (P.kid j) (by rw[wC]at R;have:=KN j;omega)
  rw[wC]at R⊢;have T:=P.len;have a0:=Ve n.sD;generalize hD:yr n.sD=D at *
  refine qSU call110 func110 rfl ?_;refine aA n.sD.length (fun k U=>∃ d,U.tm 3=aI d/\U.tm 1 = .ip (cNd n)/\U.tm 4=aI k/\0<=d/\max d (yr (n.sD.drop k))=D) ?_ ?_
  .exact ⟨0,zSi,zSi,zSi,zOm,by grind⟩
  .rintro k U j ⟨d,r,l,t,a1,o⟩
   by_cases C:k=n.sD.length
   .subst C
    rw[yA]at o;simp only[yr]at o;have I:d=D:=zOm;subst I;have w:qp.wrap (d+1)=d+1:=zWr;simp[go_sem,r,l,t,w];exact .zsc _
   .have g:k<n.sD.length:=by omega
    have w1:=zWk k;rw[zy g]at o;simp only[yr]at o;simp[go_sem,r,l,t,g,zc];refine pL (ih n.sD[k] (qq g)) (.zk (qK _) .nil) ?_;simp[go_sem,r,l,t,w1];refine⟨g,aC ?_⟩;refine⟨if d<depN n.sD[k] then depN n.sD[k] else d,zSi,zS1 l,zSi,?_,?_⟩
    .omega
    omega
end QX
namespace QY
open Y1 YX YA YB YC P1 P2 PA QE QX
section
variable {es:List (tC×Bool)}
structure ScOf (ts:TS) (body:Bool) (sc:List Sb) (env:IEnv):Prop where
 look:∀ nm,uT nm sc=getK nm env
 own:body=false->∀ nm v,getK nm env=some v->means ts nm≠[]
 sz:∀ e,e∈sc->0<=e.2.size/\e.2.size<=4000
def OutR(r:XR (Nd×Int))(s':ISt)(n':Nd)(z:Int):Prop:=match r with
 | .ok ((m,y),t)=>n'=m/\z=y/\s'=t
 | .error _=>4000<s'.sM/\s'.sM<=9000/\0<=z/\z<=4000
def renR(ts:TS)(es:List (tC×Bool))(sc:List Sb)(nm:tC)(body:Bool)(s:ISt):(List Sb×tC)×ISt:=
 if body=true\/means ts nm≠[] then
  ((sc++[(nm,⟨none,0,vN (zA ts es (qm ts es) s.last)⟩)],vN (zA ts es (qm ts es) s.last)),⟨zA ts es (qm ts es) s.last,s.sM⟩)
 else ((sc,nm),s)
abbrev XO:=ISt×Nd×Int
def ub(E:Nd->ISt->XO):List (tC×Int)->List Nd->List Sb->ISt->Except ISt (List Sb×ISt)
 |p :: g,k :: ks,own,s=>if 4000<(E k s).1.sM then .error (E k s).1 else ub E g ks (own++[(p.1,⟨some (E k s).2.1,(E k s).2.2,⟨#[]⟩⟩)]) (E k s).1
 |_,_,own,s => .ok (own,s)
def uw(E:List Sb->Nd->ISt->XO)(R:List Sb->tC->ISt->(List Sb×tC)×ISt)(bin:Bool):Nat->List Sb->tC->List Nd->ISt->Except ISt ((tC×List Nd×Int)×ISt)
 |_,_,nm,[],s => .ok ((nm,[],0),s)
 |i,sc,nm,k :: ks,s =>
  let r:=if bin=true/\i=1 then R sc nm s else ((sc,nm),s)
  let q:=E r.1.1 k r.2
  if 4000<q.1.sM then .error q.1 else match uw E R bin (i+1) r.1.1 r.1.2 ks q.1 with
   | .error e => .error e
   | .ok ((g,j,o),l) => .ok ((g,q.2.1 :: j,q.2.2+o),l)
def expR(ts:TS)(es:List (tC×Bool)):Nat->List Sb->Nd->Bool->ISt->XO
 | 0,_,n,_,s=>(s,n,0)
 |f+1,sc,n,i,s =>
  if s.sM+1<=4000 then
   if n.op=1 then ((Qr sc n (payS 1 s)).2,(Qr sc n (payS 1 s)).1.1,(Qr sc n (payS 1 s)).1.2)
   else if n.op=47 then match ts.sT.find? fun p=>decide (p.name=n.name) with
    |none=>(payS 1 s,n,1)
    |some p=>match ub (fun k s=>expR ts es f sc k i s) p.params n.sD [] (payS 1 s) with
     | .error g=>(g,nd0,0)
     | .ok (own,g)=>expR ts es f own p.body true g
   else match uw (fun sc k s=>expR ts es f sc k i s) (fun sc nm s=>renR ts es sc nm i s) (binB n.op) 0 sc n.name n.sD (payS 1 s) with
    | .error g=>(g,nd0,0)
    | .ok ((nm,ks,m),g)=>(g,.mk n.op nm n.n ks n.pos,1+m)
  else (payS 1 s,nd0,0)
theorem Wt{F s s' z}(g:Gos F s s' z)(h:StOk F s):StOk F s'/\s.sM<=s'.sM/\z<=4000:=⟨g.ok h,zW2 g.cz g.z0,by have:=g.cz;have:=g.c1;have:=h.c0;omega⟩
theorem qd4{F f:Nat}{E E'}:∀ ps ks own i s,
  (∀ k,k∈ks->∀ s,StOk F s->4000<s.sM+(f:Int)->OutR (E k s) (E' k s).1 (E' k s).2.1 (E' k s).2.2)->(∀ k n' z s s',k∈ks->StOk F s->E k s = .ok ((n',z),s')->Gos F s s' z) ->
  StOk F s->4000<s.sM+(f:Int)->zp own->(∀ nm,uT nm i=getK nm own)->(∀ e,e∈i->0<=e.2.size/\e.2.size<=4000) ->
  match yV E ps ks own s with
  | .error _=>∃ t,ub E' ps ks i s = .error t/\4000<t.sM/\t.sM<=9000
  | .ok (l,s')=>∃ j,ub E' ps ks i s = .ok (j,s')/\zp l/\(∀ nm,uT nm j=getK nm l)/\(∀ e,e∈j->0<=e.2.size/\e.2.size<=4000)/\StOk F s'/\s.sM<=s'.sM
 | [],ks,own,i,s,_,_,o,_,J,P,R=>by simp only[yV,ub];exact⟨i,rfl,J,P,R,o,vS _⟩
 |p :: ps,[],own,i,s,_,_,o,_,J,P,R=>by simp only[yV,ub];exact⟨i,rfl,J,P,R,o,vS _⟩
 |p :: ps,k :: ks,own,i,s,hE,hG,o,hf,J,P,R=>by
  simp only[yV,ub];have C:=hE k (zj ..) s o hf;have h2:=fun n' z s'=>hG k n' z s s' (zj ..) o
  generalize E' k s=Q at *
  cases T:E k s with
  |error d =>
   rw[T]at C;simp only;rw[if_pos C.1];exact⟨_,rfl,C.1,C.2.1⟩
  |ok r =>
   obtain⟨⟨m,y⟩,t⟩:=r;rw[T]at C;obtain⟨e1,e2,e3⟩:=C;have g:=h2 m y t T;obtain⟨g1,g2,g3⟩:=Wt g o;have hc:=g.c1;simp only;rw[if_neg (by rw[e3];omega),e1,e2,e3];have ih:=qd4 (F:=F) (f:=f) ps ks (setK p.1 ⟨some m,y,⟨#[]⟩⟩ own) (i++[(p.1,⟨some m,y,⟨#[]⟩⟩)]) t (fun k U=>hE k (za _ U)) (fun k n' z s s' U=>hG k n' z s s' (za _ U)) g1 zOm (J.set ⟨g.z0,g3⟩) (fun nm=>by
    rw[Ws,jN,P];by_cases e:p.1=nm
    .grind
    .rw [if_neg e,if_neg fun x=>e x.symm]) (fun e I=>by
    rcases qM.1 I with I|I
    .exact R e I
    .rw [qY]at I;subst I;exact⟨g.z0,g3⟩)
   grind
theorem qd5{ts env sc nm body s}(i:zp env)(h:ScOf ts body sc env) :
  ScOf ts body (renR ts es sc nm body s).1.1 (renI ts es env nm body s).1.1/\(renR ts es sc nm body s).1.2=(renI ts es env nm body s).1.2/\(renR ts es sc nm body s).2=(renI ts es env nm body s).2:=by
 unfold renR renI;by_cases j:body=true\/means ts nm≠[]
 .rw [if_pos j,if_pos j]
  refine⟨⟨fun x=>?_,fun g x v hx=>?_,fun e l=>?_⟩,rfl,rfl⟩
  .simp only
   rw[Ws,jN,wd i.nd,h.look];by_cases e:nm=x
   .grind
   .rw [if_neg e,if_neg fun y=>e y.symm,if_neg fun y=>e y.symm]
  .simp only at hx
   rw[jN,wd i.nd]at hx;by_cases e:x=nm
   .grind
   .rw [if_neg e,if_neg e]at hx
    exact h.own g x v hx
  .rcases qM.1 l with l|l
   .exact h.sz e l
   grind
 .rw [if_neg j,if_neg j]
  refine⟨⟨fun x=>?_,fun g x v hx=>?_,h.sz⟩,rfl,rfl⟩
  .simp only
   rw[wd i.nd,h.look];by_cases e:x=nm
   .rw [if_pos e]
    cases hg:getK x env with
    |none=>rfl
    |some v =>
     have g:body=false:=by grind
     exact absurd (h.own g x v hg) (by grind)
   .rw [if_neg e]
  .simp only at hx
   rw[wd i.nd]at hx;split at hx
   .cases hx
   .exact h.own g x v hx
theorem qd6{ts es}(C:Free ts es){f:Nat}{body E E' bin}:∀ ks i env sc nm s,
  (∀ k,k∈ks->∀ env sc s,StOk (qm ts es) s->4000<s.sM+(f:Int)->zp env->ScOf ts body sc env->OutR (E env k s) (E' sc k s).1 (E' sc k s).2.1 (E' sc k s).2.2) ->
  (∀ env k n' z s s',k∈ks->StOk (qm ts es) s->zp env->E env k s = .ok ((n',z),s')->Gos (qm ts es) s s' z) ->
  0<=s.last->0<=s.sM->s.sM<=4000->dueN (qm ts es) bin i<=pot (qm ts es) s->4000<s.sM+(f:Int)->zp env->ScOf ts body sc env ->
  match yo E (fun env nm s=>renI ts es env nm body s) bin i env nm ks s with
  | .error _=>∃ t,uw E' (fun sc nm s=>renR ts es sc nm body s) bin i sc nm ks s = .error t/\4000<t.sM/\t.sM<=9000
  | .ok r=>uw E' (fun sc nm s=>renR ts es sc nm body s) bin i sc nm ks s = .ok r
 | [],i,env,sc,nm,s,_,_,_,_,_,_,_,_,_=>by simp only[yo,uw]
 |k :: ks,i,env,sc,nm,s,hE,hG,l0,c0,c1,hp,hf,R,I=>by
  simp only[yo,uw];obtain⟨r,J⟩:∃ r,(if bin=true/\i=1 then renI ts es env nm body s else ((env,nm),s))=r:=⟨_,rfl⟩;obtain⟨l,j⟩:∃ l,(if bin=true/\i=1 then renR ts es sc nm body s else ((sc,nm),s))=l:=⟨_,rfl⟩;have hR:ScOf ts body l.1.1 r.1.1/\l.1.2=r.1.2/\l.2=r.2/\zp r.1.1/\StOk (qm ts es) r.2/\r.2.sM=s.sM/\dueN (qm ts es) bin (i+1)<=pot (qm ts es) r.2:=by
   by_cases hb:bin=true/\i=1
   .rw [if_pos hb]at J j
    subst J;subst j;obtain⟨a1,a2,a3⟩:=qd5 (es:=es) (nm:=nm) (s:=s) R I;have a4:=YN (ts:=ts) (es:=es) (nm:=nm) (body:=body) (s:=s) R;obtain⟨b1,b2,T⟩:=YO (body:=body) (nm:=nm) (env:=env) C l0;have hd:dueN (qm ts es) bin i=(qm ts es:Int):=by simp_all[dueN,if_pos]
    have a0:dueN (qm ts es) bin (i+1)=0:=by simp_all[dueN,if_neg]
    rw[hd]at hp;have P:0<=pot (qm ts es) (renI ts es env nm body s).2:=by
     grind [pot]
    exact⟨a1,a2,a3,a4,⟨b1,by rw[T];exact c0,by rw[T];exact c1,P⟩,T,zOm⟩
   .rw [if_neg hb]at J j
    subst J;subst j;have hd:dueN (qm ts es) bin (i+1)<=dueN (qm ts es) bin i:=by
     unfold dueN;split
     .grind
     omega
    have a5:0<=dueN (qm ts es) bin i:=by grind [dueN]
    exact⟨I,rfl,rfl,R,⟨l0,c0,c1,by grind⟩,rfl,by grind⟩
  rw[J,j];obtain⟨q1,q2,q3,U,q5,q6,q7⟩:=hR;rw[q2,q3];have o:=hE k (zj ..) r.1.1 l.1.1 r.2 q5 zOm U q1;have h2:=fun n' z s'=>hG r.1.1 k n' z r.2 s' (zj ..) q5 U
  generalize E' l.1.1 k r.2=Q at *
  cases hq:E r.1.1 k r.2 with
  |error d =>
   rw[hq]at o;simp only;rw[if_pos o.1];exact⟨_,rfl,o.1,o.2.1⟩
  |ok x =>
   obtain⟨⟨m,y⟩,t⟩:=x;rw[hq]at o;obtain⟨e1,e2,e3⟩:=o;have g:=h2 m y t hq;obtain⟨g1,g2,g3⟩:=Wt g q5;have hc:=g.c1;have a6:=g.p;simp only;rw[if_neg (by rw[e3];omega),e1,e2,e3];have ih:=qd6 C (f:=f) (body:=body) (E:=E) (E':=E') (bin:=bin) ks (i+1) r.1.1 l.1.1 r.1.2 t (fun k hk=>hE k (za _ hk)) (fun env k n' z s s' hk=>hG env k n' z s s' (za _ hk)) g1.l0 g1.c0 g1.c1 zOm zOm U q1;cases hx:yo E (fun env nm s=>renI ts es env nm body s) bin (i+1) r.1.1 r.1.2 ks t with
   |error d =>
    rw[hx]at ih;obtain⟨t',a1,a2,a3⟩:=ih
    grind
   |ok x =>
    grind
theorem Ji(ts es)(i:Free ts es)(hb:∀ p,p∈ts.sT->WfN p.body/\yQ ts p.body):∀(f:Nat)(env sc n body s),
  4000<s.sM+(f:Int)->StOk (qm ts es) s->zp env->WfN n->yQ ts n->ScOf ts body sc env->OutR (expI ts es f env n body s) (expR ts es f sc n body s).1 (expR ts es f sc n body s).2.1 (expR ts es f sc n body s).2.2
 | 0,env,sc,n,body,s,hf,g,_,_,_,_=>zW1 g.c1
 |f+1,env,sc,n,body,s,hf,g,o,hw,C,l=>by
  have a8:=g.c0;have a9:=g.c1;have p1:(payS 1 s).sM=s.sM+1:=rfl;simp only[expI,expR];by_cases I:s.sM+1<=4000
  case neg =>
   rw[if_neg I,if_neg I];exact⟨by rw[p1];omega,by rw[p1];omega,zSp,zSp⟩
  rw[if_pos I,if_pos I];have r:=(wF g (n:=1) zOm I).ok g;by_cases h1:n.op=1
  .rw [if_pos h1,if_pos h1]
   unfold Qr vt;rw[l.look];cases hg:getK n.name env with
   |none=>exact⟨rfl,rfl,rfl⟩
   |some v =>
    have hv:=o.sz _ ((Za o.nd).1 hg);have hv:0<=v.size/\v.size<=4000:=hv;simp only;cases J:v.arg with
    |none=>exact⟨rfl,rfl,rfl⟩
    |some a =>
     simp only;have e2:(payS v.size (payS 1 s)).sM=(payS 1 s).sM+v.size:=rfl;by_cases P:(payS 1 s).sM+v.size<=4000
     .rw [if_pos P];exact⟨rfl,rfl,rfl⟩
     .rw [if_neg P]
      exact⟨by rw[e2];omega,by rw[e2];omega,hv.1,hv.2⟩
  rw[if_neg h1,if_neg h1];by_cases h47:n.op=47
  .rw [if_pos h47,if_pos h47]
   obtain⟨p,R,a7⟩:=C n (j8 n) h47;have a0:=List.mem_of_find?_eq_some R;rw[R];simp only;have J:=qd4 (F:=qm ts es) (f:=f) (E:=fun k s=>expI ts es f env k body s) (E':=fun k s=>expR ts es f sc k body s) p.params n.sD [] [] (payS 1 s)
    (fun k j s g hf=>Ji ts es i hb f env sc k body s hf g o (hw.kid j) (C.kid j) l)
    (fun k n' z s s' j g e=>jl ts i f g o e) r (by rw[p1];omega) .nil (fun nm=>rfl) (fun e hm=>absurd hm qI)
   cases hx:yV (fun k s=>expI ts es f env k body s) p.params n.sD [] (payS 1 s) with
   |error d =>
    rw[hx]at J;obtain⟨t,T,U,a3⟩:=J;rw[T];exact⟨U,a3,zSp,zSp⟩
   |ok x =>
    obtain⟨own,s'⟩:=x;rw[hx]at J;obtain⟨L,T,U,a3,a4,a5,a6⟩:=J;rw[T];obtain⟨b1,b2⟩:=hb p a0;exact Ji ts es i hb f own L p.body true s' zOm a5 U b1 b2 ⟨a3,fun h=>absurd h zSp,a4⟩
  .rw [if_neg h47,if_neg h47]
   have j:=qd6 i (f:=f) (body:=body) (E:=fun env k s=>expI ts es f env k body s) (E':=fun sc k s=>expR ts es f sc k body s) (bin:=binB n.op) n.sD 0 env sc n.name (payS 1 s)
    (fun k j env sc s g hf o l=>Ji ts es i hb f env sc k body s hf g o (hw.kid j) (C.kid j) l)
    (fun env k n' z s s' j g o e=>jl ts i f g o e) r.l0 r.c0 r.c1 (by
     rw[Zn];have:=g.p
     grind [dueN]) (by rw[p1];omega) o l
   cases hx:yo (fun env k s=>expI ts es f env k body s) (fun env nm s=>renI ts es env nm body s) (binB n.op) 0 env n.name n.sD (payS 1 s) with
   |error d =>
    rw[hx]at j;obtain⟨t,T,U,a3⟩:=j;rw[T];exact⟨U,a3,zSp,zSp⟩
   |ok x =>
    obtain⟨⟨nm,ks,m⟩,s'⟩:=x;rw[hx]at j;rw[j];exact⟨rfl,rfl,rfl⟩
end
end QY
namespace QZ
open YF Y9 Y10 Y1 YX YB YC P1 P2 PA QE QI QS QT QX QY
section
variable {mu:Mu}
abbrev eXO(ts:TS)(l:List tC)(q:XO):AV := .tup [eWk ts l q.1,eNd q.2.1,aI q.2.2]
theorem Wu(x):∀ c,c∈cSb x->HF c:=fun c g=>by
 rcases qM.1 g with g|g
 .rcases qM.1 g with g|g
  .simp only[qv,qI,or_false]at g
   rcases g with rfl|rfl|rfl<;>exact HF.sc _
  grind [qr5]
 grind [qY,HF.sc]
theorem qr6(x):(cSb x).length=9:=by simp[qr4]
theorem Jj(l:List Sb):zi 9 (l.map cSb):=fun r g=>by
 obtain⟨x,_,rfl⟩:=qk.1 g;refine⟨qr6 x,?_⟩;obtain⟨nm,⟨a,z,w⟩⟩:=x;cases a<;>simp[z8,go_sem]
theorem qd7(l):HF (lSb l):=HF.lst fun r g c i=>by
 obtain⟨x,_,rfl⟩:=qk.1 g;exact Wu x c i
theorem wkX(ts l s sc n b):WKs [eWk ts l s,lSb sc,eNd n,aB b] [eWk ts l s,lSb sc,eNd n,aB b] := .zk (wJ ts l s) (.zk (qd7 sc) (.zk (qK n) (.zs .nil)))
theorem kY(ts l q):HF (eXO ts l q):=HF.tup fun x hx=>by
 simp only[qv,qI,or_false]at hx;rcases hx with rfl|rfl|rfl
 .exact wJ ts l _
 .exact qK _
 .exact HF.sc _
structure Pre (ts:TS) (es:List (tC×Bool)) (f:Nat) (env:IEnv) (sc:List Sb) (n:Nd) (body:Bool) (s:ISt):Prop where
 fu:4000<s.sM+(f:Int)
 st:StOk (qm ts es) s
 en:zp env
 wf:WfN n
 cl:yQ ts n
 so:ScOf ts body sc env
 le:(sc.length:Int)<=s.sM+8
theorem rd0:Rd mu (.agg [aI 0,aS ⟨#[]⟩,aI 0,.lst true [],aI 0]) (eNd nd0) := .agg _ _ rfl fun k x y hx g=>by
 match k,hx,g with
 | 0,hx,g=>cases hx;cases g;exact .zsc _
 | 1,hx,g=>cases hx;cases g;exact .zsc _
 | 2,hx,g=>cases hx;cases g;exact .zsc _
 | 3,hx,g=>cases hx;cases g;exact .wk _ true _ (.hf _ (HF.lst fun r i=>absurd i qI))
 | 4,hx,g=>cases hx;cases g;exact .zsc _
 |k+5,hx,g=>cases hx
theorem rdZ(ts l s):Rd mu (.tup [eWk ts l s,.agg [aI 0,aS ⟨#[]⟩,aI 0,.lst true [],aI 0],aI 0]) (eXO ts l (s,nd0,0)) := .tup _ _ rfl fun k x y hx g=>by
 match k,hx,g with
 | 0,hx,g=>cases hx;cases g;exact .hf _ (wJ ts l s)
 | 1,hx,g=>grind [rd0]
 | 2,hx,g=>cases hx;cases g;exact .zsc _
 |k+3,hx,g=>cases hx
theorem qd8{lo s xs y K}(j:OwnF lo mu 9 s (xs.map cSb))(l:xs.length<=100000)(o:∀ av mu',OwnF lo mu' 9 av ((xs++[y]).map cSb)->(∀ i,i<lo->mu'[i]?=mu[i]?)->K av mu') :
  qw qc mu #[245,245] s (.lst true [cSb y]) K:=by
 refine qw.ownF (lo:=lo) (e:=252) (sz:=9) (bt:=112) (zv := .agg [aS ⟨#[]⟩,aS ⟨#[]⟩,aB false,aI 0,aS ⟨#[]⟩,aI 0,.lst true [],aI 0,aI 0]) (xs:=xs.map cSb) (ys:=[cSb y]) zSi zSi zSi rfl rfl zOm zOm j (by simp[qC]) (Jj xs) (Jj [y]) zSo ?_
 grind
abbrev ExpW(ts:TS)(l:List tC)(es:List (tC×Bool))(f:Nat)(sc:List Sb)(n:Nd)(body:Bool)(s:ISt):Prop:=
 qg qc 108 [eWk ts l s,lSb sc,eNd n,aB body] (eXO ts l (expR ts es f sc n body s))
theorem expN(ts l es f env sc n body s)(p:Pre ts es (f+1) env sc n body s)(j:s.sM+1<=4000)(i:n.op=1):ExpW ts l es (f+1) sc n body s:=by
 have o:=p.st.c0;have I:=p.le;have r:=leafU ts l sc zOm n (payS 1 s) ⟨by show 0<=s.sM+1;omega,by show s.sM+1<=_;omega⟩ (fun e t=>zW1 (p.so.sz e t));unfold ExpW;simp only[expR];rw[if_pos j,if_pos i];have C:qp.wrap (s.sM+1)=s.sM+1:=zWr;have g:¬ 4000<s.sM+1:=zOm;generalize Qr sc n (payS 1 s)=Q at *
 refine qSQ call108 func108 rfl { mt:=[4] } ?_;simp[go_sem,C,g,i,zc];refine pL r (.zk (wJ ts l (payS 1 s)) (.zk (qd7 sc) (.zk (qK n) .nil))) ?_;simp[go_sem,zc];exact .hf _ (kY ts l (Q.2,Q.1.1,Q.1.2))
theorem expZ(ts l es f env sc n body s)(p:Pre ts es (f+1) env sc n body s)(i:¬s.sM+1<=4000):ExpW ts l es (f+1) sc n body s:=by
 have j:=p.st.c0;have o:=p.st.c1;unfold ExpW;simp only[expR];rw[if_neg i];have r:qp.wrap (s.sM+1)=s.sM+1:=zWr;have g:4000<s.sM+1:=zOm;refine qSQ call108 func108 rfl { mt:=[4] } ?_;simp[go_sem,r,g,zc]
 grind [rdZ,payS]
def repR(ts : TS)(es : List (tC × Bool))(f : Nat)(sc : List Sb)(n : Nd)(body : Bool)(s : ISt)(p : Pd) : XO := match ub (fun k s => expR ts es f sc k body s) p.params n.sD [] s with
          | .error g=>(g,nd0,0)
          | .ok (own,g)=>expR ts es f own p.body true g
theorem expC(ts l es f env sc n body s)(p:Pre ts es (f+1) env sc n body s)(j:s.sM+1<=4000)(h47:n.op=47)(g)(hp:(ts.sT.find? fun p=>decide (p.name=n.name))=some g)
  (o:qg qc 157 [eWk ts l (payS 1 s),lSb sc,eNd n,aB body] (eXO ts l (repR ts es f sc n body (payS 1 s) g))):ExpW ts l es (f+1) sc n body s:=by
 have r:=p.st.c0;unfold ExpW;simp only[expR];rw[if_pos j,zIn,if_pos h47,hp];simp only;have t:qp.wrap (s.sM+1)=s.sM+1:=zWr;have i:¬ 4000<s.sM+1:=zOm;show qg qc 108 [eWk ts l s,lSb sc,eNd n,aB body] (eXO ts l (repR ts es f sc n body (payS 1 s) g));generalize repR ts es f sc n body (payS 1 s) g=Q at *
 refine qSQ call108 func108 rfl { mt:=[4] } ?_;simp[go_sem,t,i,h47,zc];refine pL o (wkX ts l (payS 1 s) sc n body) ?_;simp[go_sem,zc];exact .hf _ (kY ts l Q)
theorem replW(ts)(h:okTS ts)(l es)(ah:Free ts es)(hb:∀ p,p∈ts.sT->WfN p.body/\yQ ts p.body)(f)(ih:∀ env sc n body s,Pre ts es f env sc n body s->ExpW ts l es f sc n body s)(env sc n body s)(p:Pre ts es f env sc n body s)(h47:n.op=47)
  (R) (hp:(ts.sT.find? fun p=>decide (p.name=n.name))=some R) (ay:R.params.length=n.sD.length):qg qc 157 [eWk ts l s,lSb sc,eNd n,aB body] (eXO ts l (repR ts es f sc n body s R)):=by
 have a8:=List.mem_of_find?_eq_some hp;have b0:=(h.pl R a8).1;have b1:=h.np;obtain⟨i,hi,a2,ai⟩:∃ i,∃ hi:i<ts.sT.length,ts.sT[i]=R/\zt (ckR ts ts.sT.length) n.name=some i:=by
  cases hc:zt (ckR ts ts.sT.length) n.name with
  |none =>
   unfold zt at hc;rw[List.findIdx?_eq_none_iff]at hc;have:=hc R (by show R∈ts.sT.take ts.sT.length;rw[qR];exact a8);have h2:=List.find?_some hp;rw[h2]at this;cases this
  |some i =>
   obtain⟨h1,h2⟩:=Qe (Wp h (qo _)) hc;have h2:i<ts.sT.length:=h2;have h3:=PF.qcU hc h2;have h3:(ts.sT.find? fun p=>decide (p.name=n.name))=some ts.sT[i]:=h3;rw[hp]at h3;exact⟨i,h2,(Option.some.inj h3).symm,rfl⟩
 have cp:=Vz (ckR ts ts.sT.length) (Wp h (qo _)) n.name;rw[ai]at cp;have C:=Zf;have a9:¬(i:Int)<0:=zOm;obtain⟨E',hE⟩:∃ E':Nd->ISt->XO,E'=fun k s=>expR ts es f sc k body s:=⟨_,rfl⟩
 obtain⟨a6,a7⟩:∃ a6,a6=repR ts es f sc n body s R:=⟨_,rfl⟩;have al:∀ k,k∈n.sD->∀ o,StOk (qm ts es) o->s.sM<=o.sM->qg qc 108 [eWk ts l o,lSb sc,eNd k,aB body] (eXO ts l (E' k o)):=fun k hk o I a9=>by
  rw[hE];exact ih env sc k body o ⟨zW1 p.fu,I,p.en,p.wf.kid hk,p.cl.kid hk,p.so,zW1 p.le⟩
 have an:∀ k,k∈n.sD->∀ o,StOk (qm ts es) o->s.sM<=o.sM->4000<(E' k o).1.sM\/(¬ 4000<(E' k o).1.sM/\Gos (qm ts es) o (E' k o).1 (E' k o).2.2):=fun k hk o I a9=>by
  have ho:=Ji ts es ah hb f env sc k body o (zW1 p.fu) I p.en (p.wf.kid hk) (p.cl.kid hk) p.so;have ao:E' k o=expR ts es f sc k body o:=by rw[hE]
  rw[ao];cases hx:expI ts es f env k body o with
  |error d=>rw[hx]at ho;exact .inl ho.1
  |ok r =>
   obtain⟨⟨m,y⟩,t⟩:=r;rw[hx]at ho;obtain⟨e1,e2,e3⟩:=ho;have g:=jl ts ah f I p.en hx;rw[e2,e3];exact .inr ⟨zW1 g.c1,g⟩
 have aq:∀ t,ub E' R.params n.sD [] s = .error t->a6=(t,nd0,0):=fun t ht=>by
  rw[a7];unfold repR;rw[<-hE,ht]
 have ar:∀ own t O,ub E' R.params n.sD [] s = .ok (own,t)->StOk (qm ts es) t->s.sM<=t.sM->zp O->(∀ nm,uT nm own=getK nm O)->(∀ e,e∈own->0<=e.2.size/\e.2.size<=4000)->own.length<=8->qg qc 108 [eWk ts l t,lSb own,eNd R.body,aB true] (eXO ts l a6):=fun own t O ht I a9 hO aa ab h8=>by
  have e:a6=expR ts es f own R.body true t:=by rw[a7];unfold repR;rw[<-hE,ht]
  rw[e];have b2:=I.c0;exact ih O own R.body true t ⟨zW1 p.fu,I,hO,(hb R a8).1,(hb R a8).2,⟨aa,fun h=>absurd h zSp,ab⟩,zOm⟩
 rw[<-a7];have aj:=p.st;clear a7 hE ih;refine qSQ call157 func157 rfl { mt:=[4] } ?_;simp[go_sem,zc];refine pL cp (.zk (zq ts) (.zs (.zs .nil))) ?_;simp[go_sem,zc,idxO,a9];refine aA n.sD.length (fun k U=>∃(o:ISt) (L:List Sb) (O:IEnv),U.tm 1=lSb sc/\U.tm 3=aB body/\U.tm 4 = .ptr 0 0/\U.tm 6 = .ip (cNd n)/\U.tm 8 = .ptr 1 0/\U.tm 9 = .ptr 2 0/\U.tm 12=aI i/\U.tm 14=aI k/\U.mu[0]?=some (.arr (cWk ts l o))/\U.mu[1]?=some (.arr zWc)/\U.mu[2]?=some (.arr [aI 0,aS ⟨#[]⟩,aI 0,.lst true [],aI 0])/\OwnF 3 U.mu 9 (U.tm 13) (L.map cSb)/\ub E' R.params n.sD [] s=ub E' (R.params.drop k) (n.sD.drop k) L o/\StOk (qm ts es) o/\s.sM<=o.sM/\zp O/\(∀ nm,uT nm L=getK nm O)/\(∀ e,e∈L->0<=e.2.size/\e.2.size<=4000)/\L.length=k) ?_ ?_
 .exact ⟨s,[],[],zSi,zSi,zSi,zSi,zSi,zSi,zSi,zSi,zSi,zSi,zSi,by simp[go_sem];exact OwnF.nil zSp,rfl,aj,vS _,.nil,fun nm=>rfl,fun e he=>absurd he qI,rfl⟩
 rintro k U hk ⟨o,L,O,e1,e3,e4,e6,e8,e9,a1,a3,m0,m1,m2,ho,hI,I,ad,hO,aa,ab,au⟩;generalize a4:U.tm 13=av at *
 obtain⟨rr,T⟩:=kQ m0 m1 m2;have b3:U.mu.length=rr.length+3:=by rw[T];rfl
 have az:n.sD.length<=8:=zOm;by_cases J:k<n.sD.length
 .have a5:k<R.params.length:=by omega
  have w1:=zWk k;rw[zy J,zy a5]at hI;simp only[ub]at hI;have x1:=al n.sD[k] (qq J) o I ad;have x2:=an n.sD[k] (qq J) o I ad;generalize E' n.sD[k] o=q at *
  clear m0 m1 m2;simp[go_sem,e1,e3,e4,e6,e8,e9,a1,a3,a4,T,J,a5,hi,a2,C,zc];refine fD [0,1,2,3,4,5,6,7,8,9,10,11,12,17,13,14,15,16] [(0,0,[]),(1,0,[]),(2,0,[]),(3,0,[]),(4,0,[]),(5,0,[]),(6,0,[]),(7,0,[]),(8,1,[]),(9,0,[]),(10,0,[]),(11,0,[]),(12,0,[]),(17,0,[]),(13,2,[0,3,6]),(14,2,[0,3,6]),(15,1,[]),(16,1,[])] zKr zKr zSi ?_;simp[go_sem,e1,e3,e4,e6,e8,e9,a1,a3,a4,T,J,a5,hi,a2,C,zc];refine pL x1 (wkX ts l o sc n.sD[k] body) ?_;simp[go_sem,e1,e3,e4,e6,e8,e9,a1,a3,a4,T,J,a5,hi,a2,C,zc];by_cases a0:4000<q.1.sM
  .have aw:a6=(q.1,nd0,0):=aq _ (by rw[hI,if_pos a0])
   simp[go_sem,e1,e3,e4,e6,e8,e9,a1,a3,a4,T,J,a5,hi,a2,C,zc,a0];rw[aw];exact rdZ ts l q.1
  .rcases x2 with x2|⟨_,g⟩
   .exact absurd x2 a0
   rw[if_neg a0]at hI;simp[go_sem,e1,e3,e4,e6,e8,e9,a1,a3,a4,T,J,a5,hi,a2,C,zc,a0];refine cL zKr ?_;simp[go_sem,e1,e3,e4,e6,e8,e9,a1,a3,a4,T,J,a5,hi,a2,C,zc,a0];obtain⟨g1,g2,g3⟩:=Wt g I;have gz:=g.z0;have hy:(AV.sc (.string R.params[k].1) :: AV.sc (.string ⟨#[]⟩) :: AV.sc (.bool true) :: (cNd q.2.1++[AV.sc (.int .i64 q.2.2)]))=cSb (R.params[k].1,⟨some q.2.1,q.2.2,⟨#[]⟩⟩):=zSi;rw[hy];generalize ae:(R.params[k].1,(⟨some q.2.1,q.2.2,⟨#[]⟩⟩:IV))=en at *
   refine qd8 (lo:=3) (xs:=L) (y:=en) ?_ zOm ?_
   .have h1:OwnF 3 (U.mu++[Cell.arr (cWk ts l q.1),Cell.arr (cNd q.2.1)]) 9 av (L.map cSb):=YD.Zo ho zSo fun i _ hi=>qJ hi
    rw[T]at h1;have h2:=OwnF.set (i:=0) (c:=Cell.arr (cWk ts l q.1)) h1 zOm;simpa using h2
   intro b4 b5 af ag;have n0:=ag 0 zOm;have n1:=ag 1 zOm;have n2:=ag 2 zOm;simp at n0 n1 n2;obtain⟨r2,ak⟩:=kQ n0 n1 n2;simp[go_sem,e1,e3,e4,e6,e8,e9,a1,a3,a4,ak,J,a5,hi,a2,C,zc,a0,w1];refine aC ⟨q.1,L++[en],setK en.1 en.2 O,zS1 e1,zS1 e3,zS1 e4,zS1 e6,zS1 e8,zS1 e9,zS1 a1,zSi,zSi,zSi,zSi,?_,?_,g1,?_,?_,?_,?_,?_⟩
   .have h2:=OwnF.set (i:=0) (c:=Cell.arr (cWk ts l q.1)) af zOm
    simp[go_sem];rw[ak]at af;simpa using af
   .rw [hI,<-ae]
   .omega
   .rw [<-ae];exact hO.set ⟨gz,g3⟩
   .intro nm
    rw[Ws,jN,aa];by_cases e:en.1=nm
    .rw [if_pos e,if_pos e.symm]
    .rw [if_neg e,if_neg fun x=>e x.symm]
   .intro e he
    rcases qM.1 he with he|he
    .exact ab e he
    .rw [qY]at he;subst he;rw[<-ae];exact⟨gz,g3⟩
   .simp [au]
 .simp [go_sem,e1,e3,e4,e6,e8,e9,a1,a3,a4,T,J,hi,a2,C,zc]
  refine fD [0,1,2,3,4,5,6,7,8,9,10,11,12,15,13,14] [(0,0,[]),(1,0,[]),(2,0,[]),(3,0,[]),(4,0,[]),(5,0,[]),(6,0,[]),(7,0,[]),(8,0,[]),(9,1,[]),(10,0,[]),(11,0,[]),(12,0,[]),(15,0,[]),(13,1,[]),(14,1,[])] zKr zKr zSi ?_;simp[go_sem,e1,e3,e4,e6,e8,e9,a1,a3,a4,T,J,hi,a2,C,zc];refine fZ (qA.freeze (args1:=[eWk ts l o,lSb L,eNd R.body,aB true]) (fun j=>decide (3<=j)) ⟨.inl rfl,.inr ?_,.inl rfl,.inl rfl,trivial⟩ (qg.toSound _ (ar L o O ?_ I ad hO aa ab zOm) (wkX ts l o L R.body true))) ?_ ?_
  .have h1:=Y13.Kj ho (Jj L).ok fun r hr c hc=>by
    obtain⟨x,_,rfl⟩:=qk.1 hr;exact Wu x c hc
   rw[T]at h1;exact h1
  .rw [hI,VH zOm,VH zOm];rfl
  .rintro r m ⟨hv,rfl⟩
   cases hv;simp[go_sem,cutM,zc,e1,e3,e4,e6,e8,e9];exact .hf _ (kY ts l a6)
  .rintro r m ⟨hv,rfl⟩
   cases hv
end
end QZ
end Go.Proofs.YtfednihcpihlgaaGreatDoor
set_option maxHeartbeats 1000000
namespace Go.Ev
theorem awp.cut{P pl l j g C i Q st}(J)
  (h:awp P pl l (seqQ (awp P pl j (seqQ (Keep J .mk) (vX i (seqQ (awp P pl C Q) Q)))) Q) st)
  (o:∀ st,J st->awp P pl g (vX i (seqQ (awp P pl C Q) Q)) st):awp P pl (.seq l (.seq (.block i (.seq j g)) C)) Q st:=by
 refine awp.mono l (Q:=seqQ (awp P pl j (seqQ (Keep J .mk) (vX i (seqQ (awp P pl C Q) Q)))) Q) h (fun e st h=>?_);cases e with
 |normal =>
  refine awp.mono j (Q:=seqQ (Keep J .mk) (vX i (seqQ (awp P pl C Q) Q))) h (fun e st h=>?_);cases e with
  |normal=>exact o st h
  |exit i=>exact h
  |ret=>exact h
  |pan v=>exact h
 |exit i=>exact h
 |ret=>exact h
 |pan v=>exact h
theorem qr7{K:St->Prop}(J){st}(h:FzQ (fun _=>J) (.exit 0) st)(k:∀ st2,J st2->K st2):FzQ (fun _ st=>K st) (.exit 0) st:=by
 obtain⟨g,f,q,j⟩:=h;exact⟨g,f,q,k _ j⟩
end Go.Ev
namespace Go.Proofs.YtfednihcpihlgaaGreatDoor
open Go Go.Ev Go.Proofs Tryz
namespace RA
open YF Y9 Y10 Y1 YX YA YB YC P1 P2 PA QD QE QK QX QY QZ
section
variable {av:AV}{es:List (tC×Bool)}{l:List tC}
theorem four{J:Type}{l}{a b c d:J}(g:l[0]?=some a)(i:l[1]?=some b)(j:l[2]?=some c)(o:l[3]?=some d):∃ r,l=a :: b :: c :: d :: r:=by
 match l,g,i,j,o with
 |_ :: _ :: _ :: _ :: r,g,i,j,o =>
  grind
def resK(n:Nd)(acc:List Nd)(z:Int):Except ISt ((tC×List Nd×Int)×ISt)->XO
 | .error s=>(s,nd0,0)
 | .ok ((nm,ks,m),s)=>(s,.mk n.op nm n.n (acc++ks) n.pos,z+m)
structure AtK (ts:TS) (l:List tC) (es:List (tC×Bool)) (n:Nd) (body:Bool) (s:ISt) (k:Nat) (sc2:List Sb) (env2:IEnv) (nm2:tC) (s3:ISt) (acc:List Nd) (av:AV) (z:Int) (st:St):Prop where
 e3:st.tm 3=aB body
 e4:st.tm 4 = .ptr 0 0
 e6:st.tm 6 = .ip (cNd n)
 e8:st.tm 8 = .ptr 1 0
 e9:st.tm 9 = .ptr 2 0
 e11:st.tm 11 = .ptr 3 0
 e12:st.tm 12=aI z
 e13:st.tm 13=aI k
 m0:st.mu[0]?=some (.arr (cWk ts l s3))
 m1:st.mu[1]?=some (.arr zWc)
 m2:st.mu[2]?=some (.arr [aI 0,aS ⟨#[]⟩,aI 0,.lst true [],aI 0])
 m3:st.mu[3]?=some (.arr [aI n.op,aS nm2,aI n.n,av,aI n.pos])
 ho:OwnF 4 st.mu 5 av (acc.map cNd)
 so:ScOf ts body sc2 env2
 en:zp env2
 al:acc.length=k
 l0:0<=s3.last
 c0:s.sM+1<=s3.sM
 c1:s3.sM<=4000
 z1:0<=z
 z2:z<=1+4000*(k:Int)
theorem AtK.same{ts n body s k j i o C acc z st g}(A:AtK ts l es n body s k j i o C acc av z st)
  (I:g.tm 3=aB body) (J:g.tm 4 = .ptr 0 0) (P:g.tm 6 = .ip (cNd n)) (R:g.tm 8 = .ptr 1 0) (T:g.tm 9 = .ptr 2 0) (p:g.tm 11 = .ptr 3 0) (r:g.tm 12=aI z) (t:g.tm 13=aI k) (em:g.mu=st.mu):AtK ts l es n body s k j i o C acc av z g:=
 ⟨I,J,P,R,T,p,r,t,by rw[em];exact A.m0,by rw[em];exact A.m1,by rw[em];exact A.m2,by rw[em];exact A.m3,by rw[em];exact A.ho,A.so,A.en,A.al,A.l0,A.c0,A.c1,A.z1,A.z2⟩
theorem qd9{g lo sz mu mu' xs}(h:OwnF g mu sz av xs)(i:∀ b s o q,av = .sl b s o q->b<lo)(p:g<=mu'.length)(r:∀ j,g<=j->j<lo->mu'[j]?=mu[j]?):OwnF g mu' sz av xs:=by
 obtain⟨t,l,_⟩:=h;refine⟨?_,l,p⟩;rcases t with rfl|⟨b,rfl,C⟩
 .exact .inl rfl
 .exact .inr ⟨b,rfl,by rw[r b (l b _ _ _ rfl) (i b _ _ _ rfl)];exact C⟩
theorem AtK.keep{ts n body s k p i r R acc z st g}(A:AtK ts l es n body s k p i r R acc av z st)
  (T:g.tm 3=aB body) (U:g.tm 4 = .ptr 0 0) (e6:g.tm 6 = .ip (cNd n)) (e8:g.tm 8 = .ptr 1 0) (e9:g.tm 9 = .ptr 2 0) (C:g.tm 11 = .ptr 3 0) (I:g.tm 12=aI z) (J:g.tm 13=aI k) (lo) (h4:4<=lo) (P:∀ b s o q,av = .sl b s o q->b<lo) (hl:4<=g.mu.length) (t:∀ j,j<lo->g.mu[j]?=st.mu[j]?):AtK ts l es n body s k p i r R acc av z g:=
 ⟨T,U,e6,e8,e9,C,I,J,by rw[t 0 zOm];exact A.m0,by rw[t 1 zOm];exact A.m1,by rw[t 2 zOm];exact A.m2,by rw[t 3 zOm];exact A.m3,qd9 A.ho P hl (fun j _=>t j),A.so,A.en,A.al,A.l0,A.c0,A.c1,A.z1,A.z2⟩
theorem qr8{mu lo s x}{xs ys:List Sb}{K}(j:OwnF lo mu 9 s (xs.map cSb))(hx:qC mu x=some (ys.map cSb))(p:xs.length+ys.length<=100000)(l:∀ av mu',OwnF lo mu' 9 av ((xs++ys).map cSb)->(∀ i,i<lo->mu'[i]?=mu[i]?)->K av mu') :
  qw qc mu #[245,245] s x K:=by
 refine qw.ownF (lo:=lo) (e:=252) (sz:=9) (bt:=112) (zv := .agg [aS ⟨#[]⟩,aS ⟨#[]⟩,aB false,aI 0,aS ⟨#[]⟩,aI 0,.lst true [],aI 0,aI 0]) (xs:=xs.map cSb) (ys:=ys.map cSb) zSi zSi zSi rfl rfl zOm zOm j hx (Jj xs) (Jj ys) zSo ?_;intro av mu' h o;exact l av mu' (by rw[zh];exact h) o
theorem expK(ts)(h:okTS ts)(l es)(t:Tn l es)(hl:l.length<=400000)(hF:qm ts es<=200000)(b5:Free ts es)(hb:∀ p,p∈ts.sT->WfN p.body/\yQ ts p.body)(f)(ih:∀ env sc n body s,Pre ts es f env sc n body s->ExpW ts l es f sc n body s)
  (env) (sc) (n) (body) (s) (p:Pre ts es (f+1) env sc n body s) (hc:s.sM+1<=4000) (h1:¬n.op=1) (h47:¬n.op=47):ExpW ts l es (f+1) sc n body s:=by
 have dj:=p.st.c0;have dk:=p.st.c1;have dm:=p.wf.len;obtain⟨E',hE⟩:∃ E':List Sb->Nd->ISt->XO,E'=fun sc k s=>expR ts es f sc k body s:=⟨_,rfl⟩
 obtain⟨R',bh⟩:∃ R':List Sb->tC->ISt->(List Sb×tC)×ISt,R'=fun sc nm s=>renR ts es sc nm body s:=⟨_,rfl⟩
 have bi:∀ k,k∈n.sD->∀ T I sk,StOk (qm ts es) sk->s.sM+1<=sk.sM->zp T->ScOf ts body I T->(I.length:Int)<=sk.sM+8->qg qc 108 [eWk ts l sk,lSb I,eNd k,aB body] (eXO ts l (E' I k sk)):=fun k hk T I sk b6 ck b7 bj bk=>by
  rw[hE];exact ih T I k body sk ⟨zW1 p.fu,b6,b7,p.wf.kid hk,p.cl.kid hk,bj,bk⟩
 have bm:∀ k,k∈n.sD->∀ T I sk,StOk (qm ts es) sk->s.sM+1<=sk.sM->zp T->ScOf ts body I T->4000<(E' I k sk).1.sM\/(¬ 4000<(E' I k sk).1.sM/\Gos (qm ts es) sk (E' I k sk).1 (E' I k sk).2.2):=fun k hk T I sk b6 ck b7 bj=>by
  have ho:=Ji ts es b5 hb f T I k body sk (zW1 p.fu) b6 b7 (p.wf.kid hk) (p.cl.kid hk) bj;have cm:E' I k sk=expR ts es f I k body sk:=by rw[hE]
  rw[cm];cases hx:expI ts es f T k body sk with
  |error d=>rw[hx]at ho;exact .inl ho.1
  |ok r =>
   obtain⟨⟨m,y⟩,t⟩:=r;rw[hx]at ho;obtain⟨e1,e2,e3⟩:=ho;have g:=jl ts b5 f b6 b7 hx;rw[e2,e3];exact .inr ⟨zW1 g.c1,g⟩
 obtain⟨ay,bb⟩:∃ ay,ay=resK n [] 1 (uw E' R' (binB n.op) 0 sc n.name n.sD (payS 1 s)):=⟨_,rfl⟩;have bc:expR ts es (f+1) sc n body s=ay:=by
  simp only[expR];rw[if_pos hc,if_neg h1,if_neg h47,bb,hE,bh];cases uw (fun sc k s=>expR ts es f sc k body s) (fun sc nm s=>renR ts es sc nm body s) (binB n.op) 0 sc n.name n.sD (payS 1 s) with
  |error e=>rfl
  |ok r=>rfl
 unfold ExpW;rw[bc];clear hE bc ih;have be:StOk (qm ts es) (payS 1 s):=(wF p.st zOm hc).ok p.st;have w1:qp.wrap (s.sM+1)=s.sM+1:=zWr;have bk:¬ 4000<s.sM+1:=zOm;have cp:=z8 n;refine qSQ call108 func108 rfl { mt:=[4] } ?_;simp[go_sem,w1,bk,h1,h47,cp];refine aA n.sD.length (fun k U=>∃(full:Bool) (I:List Sb) (T:IEnv) (aa:tC) (s2:ISt) (ae:List Nd) (av:AV) (z:Int),U.tm 1 = .lst full (I.map cSb)/\AtK ts l es n body s k I T aa s2 ae av z U/\(I.length:Int)+(if k<=1 then 1 else 0)<=s2.sM+8/\dueN (qm ts es) (binB n.op) k<=pot (qm ts es) s2/\(k<=1->aa=n.name)/\resK n ae z (uw E' R' (binB n.op) k I aa (n.sD.drop k) s2)=ay) ?_ ?_
 .refine ⟨false,sc,env,n.name,payS 1 s,[],.lst true [],1,zSi,⟨zSi,zSi,by simp[go_sem,z8 n],zSi,zSi,zSi,zSi,zSi,by simp[go_sem];exact⟨rfl,rfl⟩,zSi,zSi,zSi,by simp[go_sem];exact OwnF.nil zSp,p.so,p.en,rfl,be.l0,by show _<=s.sM+1;omega,be.c1,zOm,zOm⟩,by show _<=s.sM+1+8;have:=p.le;simp;omega,?_,fun _=>rfl,bb.symm⟩
  rw[Zn];have:=p.st.p;unfold dueN;split<;>omega
 .rintro k U hk ⟨full,I,T,aa,s2,ae,av,z,J,A,ag,ao,b8,hI⟩
  obtain⟨rr,a0⟩:=four A.m0 A.m1 A.m2 A.m3;have e3:=A.e3;have e4:=A.e4;have e6:=A.e6;have e8:=A.e8;have e9:=A.e9;have a5:=A.e11;have a6:=A.e12;have a7:=A.e13;have aj:=A.ho.one;have ak:=A.ho.cells;by_cases a8:k<n.sD.length
  .have w2:=zWk k
   rw[zy a8]at hI;simp only[uw]at hI;refine awp.cut (fun U=>∃(full:Bool) (P:Nat) (sl:AV) (ad:List Sb) (ah:IEnv) (au:tC) (s3:ISt) (av:AV),(if binB n.op=true/\k=1 then R' I aa s2 else ((I,aa),s2))=((ad,au),s3)/\U.tm 1=sl/\(sl = .lst full (ad.map cSb)\/(OwnF P U.mu 9 sl (ad.map cSb)/\(∀ b s o q,av = .sl b s o q->b<P)/\4<=P))/\AtK ts l es n body s k ad ah au s3 ae av z U/\(ad.length:Int)+(if k+1<=1 then 1 else 0)<=s3.sM+8/\dueN (qm ts es) (binB n.op) (k+1)<=pot (qm ts es) s3/\(k+1<=1->au=n.name)) ?_ ?_
   .clear bi bm
    by_cases ar:k=1
    .subst ar
     have bg:=b8 (qo _);have dh:U.mu.length=rr.length+4:=by rw[a0];rfl
     have b0:∀ b s o q,av = .sl b s o q->b<rr.length+4:=fun b s o q e=>by
      rcases A.ho.1 with h|⟨c,h,hc⟩
      .rw [h]at e;cases e
      .rw [h]at e;cases e;have:=(qi.1 hc).1;omega
     have ab:(1:Int)<n.sD.length:=zOm;have cq:=A.c0;have b9:=A.l0;have cr:=A.c1;by_cases an:binB n.op=true
     .have a9:n.op=15\/n.op=45\/n.op=46:=by simpa[binB,or_assoc] using an
      have dn:=h.ns;have dp:=h.nf;have dq:qm ts es<=l.length+40:=by have:=t.len;unfold qm;omega
      have cs:okNm ts:=⟨h.sl,zOm,zOm,fun f hf=>zW1 (h.fl f hf)⟩;have cn:=kB ts cs n.name;have ax:=kA ts n.name;have ct:(named ts n.name).2=(means ts n.name).length:=by rw[kO h]
      rw[ct]at cn;generalize (named ts n.name).1=C at *
      have bv:StOk (qm ts es) s2:=⟨b9,zOm,cr,zW1 (ZW (qm ts es) (binB n.op) 1)⟩;have cu:=bv.last;have cf:=qr3 ts h l es t hl s2 ⟨b9,zOm⟩ (b5 s2.last b9);by_cases af:body=true\/means ts n.name≠[]
      .have hq:(if binB n.op=true/\1=1 then R' I aa s2 else ((I,aa),s2))=((I++[(n.name,⟨none,0,vN (zA ts es (qm ts es) s2.last)⟩)],vN (zA ts es (qm ts es) s2.last)),⟨zA ts es (qm ts es) s2.last,s2.sM⟩):=by
        rw[if_pos ⟨an,rfl⟩,bh,bg];show renR ts es I n.name body s2=_;unfold renR;rw[if_pos af]
       have cv:body=true\/(body=false/\0<(means ts n.name).length):=by
        cases body with
        |true=>exact .inl rfl
        |false=>exact .inr ⟨rfl,List.length_pos_iff.2 (af.resolve_left zSp)⟩
       clear hI;have bw:renR ts es I n.name body s2=((I++[(n.name,⟨none,0,vN (zA ts es (qm ts es) s2.last)⟩)],vN (zA ts es (qm ts es) s2.last)),⟨zA ts es (qm ts es) s2.last,s2.sM⟩):=by
        unfold renR;rw[if_pos af]
       obtain⟨a1,a2,a3⟩:=qd5 (es:=es) (nm:=n.name) (s:=s2) A.en A.so;have a4:=YN (ts:=ts) (es:=es) (nm:=n.name) (body:=body) (s:=s2) A.en;obtain⟨b1,b2,b3⟩:=YO (body:=body) (nm:=n.name) (env:=T) b5 b9;rw[bw]at a1 a3;rw[<-a3]at b1 b2;simp only at b1 b2 a1;have bn:dueN (qm ts es) (binB n.op) 1=(qm ts es:Int):=by unfold dueN;rw[if_pos ⟨an,zOm⟩]
       have bo:dueN (qm ts es) (binB n.op) 2=0:=by unfold dueN;rw[zIn]
       rw[bn]at ao;unfold pot at ao;generalize (renI ts es T n.name body s2).1.1=ah at *
       clear a2 a3 b3;generalize dr:zA ts es (qm ts es) s2.last=R at *
       rcases a9 with a9|a9|a9<;>rcases cv with aw|⟨aw,cw⟩
       all_goals
        simp[go_sem,e3,e4,e6,e8,e9,a5,a6,a7,J,a0,a8,ab,a9,zc];refine pL cn (.zk (zq ts) (.zs .nil)) ?_;simp[go_sem,e3,e4,e6,e8,e9,a5,a6,a7,J,a0,a8,ab,a9,zc,ax.len];rw[if_pos ax.one];generalize putCells _ 0 C=PC
        first
        |simp[go_sem,e3,e4,e6,e8,e9,a5,a6,a7,J,a0,a8,ab,a9,zc,aw,cw]
        |simp[go_sem,e3,e4,e6,e8,e9,a5,a6,a7,J,a0,a8,ab,a9,zc,aw]
        refine pL cf (.zk (wJ ts l s2) .nil) ?_;simp[go_sem,e3,e4,e6,e8,e9,a5,a6,a7,J,a0,a8,ab,a9,zc,aw];refine qh.move 2 2 zKr zKr ?_ ?_
        all_goals
         simp[go_sem,e3,e4,e6,e8,e9,a5,a6,a7,J,a0,a8,ab,a9,zc,aw];refine qr8 (lo:=rr.length+6) (xs:=[]) (ys:=I) (OwnF.nil zSp) (by simp[qC]) (by simp at ag⊢;omega) ?_;intro ds dt cx ar;simp[go_sem,e3,e4,e6,e8,e9,a5,a6,a7,J,a0,a8,ab,a9,zc,aw];refine qd8 (y:=(n.name,⟨none,0,vN R⟩)) cx (by simp at ag⊢;omega) ?_;intro cy du az ai;have n0:=(ai 0 zOm).trans (ar 0 zOm);have n1:=(ai 1 zOm).trans (ar 1 zOm);have n2:=(ai 2 zOm).trans (ar 2 zOm);have n3:=(ai 3 zOm).trans (ar 3 zOm);simp at n0 n1 n2 n3;simp[go_sem,e3,e4,e6,e8,e9,a5,a6,a7,J,a8,ab,a9,zc,aw];refine aC ⟨false,rr.length+6,cy,I++[(n.name,⟨none,0,vN R⟩)],ah,vN R,⟨R,s2.sM⟩,av,hq,zSi,.inr ⟨zVs az,?_,zOm⟩,⟨zS2 e3 aw,zS1 e4,zS1 e6,zS1 e8,zS1 e9,zS1 a5,zS1 a6,zS1 a7,zS1 n0,zS1 n1,zS1 n2,zS2 n3 a9,?_,a1,a4,A.al,b1,A.c0,A.c1,A.z1,A.z2⟩,?_,?_,fun h=>zOm⟩
         .intro b s o q e;have:=b0 b s o q e;omega
         .simp only[qB]
          refine qd9 A.ho b0 (zW1 az.2.2) fun j h4 hj=>?_
          obtain⟨i,rfl⟩:∃ i,j=i+4:=⟨j-4,zOm⟩;rw[ai _ zOm,ar _ zOm,a0];simp only[vQ];rw[zGa]
         .simp at ag⊢;omega
         .rw [bo];unfold pot;simp only;omega
      .have ca:body=false:=by cases body with
        |true=>exact absurd (.inl rfl) af
        |false=>rfl
       have da:means ts n.name=[]:=Classical.byContradiction fun x=>af (.inr x)
       have hq:(if binB n.op=true/\1=1 then R' I aa s2 else ((I,aa),s2))=((I,aa),s2):=by
        rw[if_pos ⟨an,rfl⟩,bh,bg];show renR ts es I n.name body s2=_;unfold renR;rw[if_neg af]
       rcases a9 with a9|a9|a9
       all_goals
        simp[go_sem,e3,e4,e6,e8,e9,a5,a6,a7,J,a0,a8,ab,a9,zc];refine pL cn (.zk (zq ts) (.zs .nil)) ?_;simp[go_sem,e3,e4,e6,e8,e9,a5,a6,a7,J,a0,a8,ab,a9,zc,ax.len];rw[if_pos ax.one];generalize putCells _ 0 C=PC;simp[go_sem,e3,e4,e6,e8,e9,a5,a6,a7,J,a0,a8,ab,a9,zc,ca,da];refine aC ⟨full,rr.length+5,.lst full (I.map cSb),I,T,aa,s2,av,hq,zS1 J,.inl rfl,A.keep (zS2 e3 ca) (zS1 e4) (zS1 e6) (zS1 e8) (zS1 e9) (zS1 a5) (zS1 a6) (zS1 a7) (rr.length+4) zOm ?_ zSi (fun j hj=>?_),?_,?_,fun h=>zOm⟩
        .exact b0
        .simp only[qB]
         rw[a0]
         match j,hj with
         | 0,_=>rfl
         | 1,_=>rfl
         | 2,_=>rfl
         | 3,_=>simp[a9]
         |i+4,hj =>
          simp only[vQ];rw[zGa]
        .simp at ag⊢;omega
        .have bn:dueN (qm ts es) (binB n.op) 1=(qm ts es:Int):=by unfold dueN;rw[if_pos ⟨an,zOm⟩]
         have bo:dueN (qm ts es) (binB n.op) 2=0:=by unfold dueN;rw[zIn]
         rw[bn]at ao;rw[bo];omega
     .have cb:¬n.op=15:=fun e=>an (by simp[binB,e])
      have cc:¬n.op=45:=fun e=>an (by simp[binB,e])
      have cd:¬n.op=46:=fun e=>an (by simp[binB,e])
      simp[go_sem,e3,e4,e6,e8,e9,a5,a6,a7,J,a0,a8,ab,cb,cc,cd,zc];refine aC ⟨full,4,.lst full (I.map cSb),I,T,aa,s2,av,by rw[if_neg (fun x=>an x.1)],zS1 J,.inl rfl,A.same (zS1 e3) (zS1 e4) (zS1 e6) (zS1 e8) (zS1 e9) (zS1 a5) (zS1 a6) (zS1 a7) (zS1 a0),?_,?_,fun h=>zOm⟩
      .simp at ag⊢;omega
      .rw [<-U2 (fun x=>an x.1)];exact ao
    .have cg:¬(k:Int)=1:=by omega
     simp[go_sem,e3,e4,e6,e8,e9,a5,a6,a7,J,a0,a8,cg,zc];refine aC ⟨full,4,.lst full (I.map cSb),I,T,aa,s2,av,by rw[if_neg (fun x=>ar x.2)],zS1 J,.inl rfl,A.same (zS1 e3) (zS1 e4) (zS1 e6) (zS1 e8) (zS1 e9) (zS1 a5) (zS1 a6) (zS1 a7) (zS1 a0),?_,?_,fun h=>b8 zOm⟩
     .split at ag<;>split<;>omega
     .rw [<-U2 (fun x=>ar x.2)];exact ao
   .rintro U ⟨full,P,sl,ad,ah,au,s3,av,hq,J,bq,A,ag,ao,b8⟩
    rw[hq]at hI;simp only at hI;have b4:StOk (qm ts es) s3:=⟨A.l0,zW1 A.c0,A.c1,zW1 (ZW (qm ts es) (binB n.op) (k+1))⟩;have br:(ad.length:Int)<=s3.sM+8:=by split at ag<;>omega
    have x1:=bi n.sD[k] (qq a8) ah ad s3 b4 A.c0 A.en A.so br;have x2:=bm n.sD[k] (qq a8) ah ad s3 b4 A.c0 A.en A.so;generalize E' ad n.sD[k] s3=q at *
    clear bi bm;rw[qh8,qh9];refine qh.fz (qr7 (fun U=>∃ full,U.tm 1 = .lst full (ad.map cSb)/\AtK ts l es n body s k ad ah au s3 ae av z U) ?_ ?_)
    .rcases bq with bq|⟨db,b0,h4⟩
     .exact FzQ.skip ⟨full,by rw[J,bq],A⟩
     .refine FzQ.own (d:=1) J db (Jj ad) (fun r hr c hc=>by obtain⟨x,_,rfl⟩:=qk.1 hr;exact Wu x c hc) ?_
      intro dc bs dv ai;refine⟨bs,zSi,A.keep (by simp[go_sem,A.e3]) (by simp[go_sem,A.e4]) (by simp[go_sem,A.e6]) (by simp[go_sem,A.e8]) (by simp[go_sem,A.e9]) (by simp[go_sem,A.e11]) (by simp[go_sem,A.e12]) (by simp[go_sem,A.e13]) P h4 b0 ?_ ?_⟩
      .have:=A.ho.2.2;simp only[qB];omega
      .intro j hj;simp only[qB];exact ai j hj
    rintro U ⟨full,J,A⟩;obtain⟨rr,a0⟩:=four A.m0 A.m1 A.m2 A.m3;have e3:=A.e3;have e4:=A.e4;have e6:=A.e6;have e8:=A.e8;have e9:=A.e9;have a5:=A.e11;have a6:=A.e12;have a7:=A.e13;have aj:=A.ho.one;have ak:=A.ho.cells;refine fD [0,1,2,3,4,5,6,7,8,9,10,11,12,17,13,14,15,16] [(0,0,[]),(1,0,[]),(2,0,[]),(3,0,[]),(4,0,[]),(5,0,[]),(6,0,[]),(7,0,[]),(8,1,[]),(9,0,[]),(10,0,[]),(11,0,[]),(12,0,[]),(17,0,[]),(13,2,[0,3,6]),(14,2,[0,3,6]),(15,1,[]),(16,1,[])] zKr zKr zSi ?_;simp[go_sem,e3,e4,e6,e8,e9,a5,a6,a7,J,a0,a8,zc,aj,ak];refine pL x1 (.zk (wJ ts l s3) (.cons (WK.lst fun r hr c hc=>by
     obtain⟨x,_,rfl⟩:=qk.1 hr;exact Wu x c hc) (.zk (qK _) (.zs .nil)))) ?_
    simp[go_sem,e3,e4,e6,e8,e9,a5,a6,a7,J,a0,a8,zc,aj,ak];by_cases aq:4000<q.1.sM
    .rw [if_pos aq]at hI
     have hI:ay=(q.1,nd0,0):=hI.symm;simp[go_sem,e3,e4,e6,e8,e9,a5,a6,a7,J,a0,a8,zc,aj,ak,aq];rw[hI];exact rdZ ts l q.1
    .rcases x2 with x2|⟨_,g⟩
     .exact absurd x2 aq
     rw[if_neg aq]at hI;simp[go_sem,e3,e4,e6,e8,e9,a5,a6,a7,J,a0,a8,zc,aj,ak,aq];obtain⟨g1,g2,g3⟩:=Wt g b4;have gz:=g.z0;have dw:=g.cz;have dd:=g.c1;have gp:=g.p;have dx:=A.z1;have dy:=A.z2;have cq:=A.c0;have de:=A.al;have di:=A.ho.2.2;refine YD.U5 (lo:=4) (xs:=ae) ?_ zOm ?_
     .have h1:OwnF 4 (U.mu++[Cell.arr (cWk ts l q.1),Cell.arr (cNd q.2.1)]) 5 av (ae.map cNd):=YD.Zo A.ho zSo fun i _ hi=>qJ hi
      rw[a0]at h1;have h2:=OwnF.set (i:=0) (c:=Cell.arr (cWk ts l q.1)) h1 zOm;simpa using h2
     intro ch dc az ai;have n0:=ai 0 zOm;have n1:=ai 1 zOm;have n2:=ai 2 zOm;have n3:=ai 3 zOm;simp at n0 n1 n2 n3;obtain⟨r2,cj⟩:=four n0 n1 n2 n3;have bt:=az.one;have bu:=az.cells;have w3:qp.wrap (z+q.2.2)=z+q.2.2:=zWr;simp[go_sem,e3,e4,e6,e8,e9,a5,a6,a7,J,cj,a8,zc,bt,bu,aq,w2,w3];refine aC ⟨full,ad,ah,au,q.1,ae++[q.2.1],ch,z+q.2.2,zS1 J,⟨zS1 e3,zS1 e4,zS1 e6,zS1 e8,zS1 e9,zS1 a5,zSi,zSi,zSi,zSi,zSi,zSi,?_,A.so,A.en,zP1 de,g1.l0,zOm,dd,zOm,zOm⟩,zOm,zOm,b8,?_⟩
     .have h2:=OwnF.set (i:=3) (c:=Cell.arr [aI n.op,aS au,aI n.n,ch,aI n.pos]) az zOm
      rw[cj]at h2;simpa[go_sem] using h2
     .rw [<-hI]
      generalize uw E' R' (binB n.op) (k+1) ad au (List.drop (k+1) n.sD) q.1=X;cases X with
      |error e=>rfl
      |ok r =>
       obtain⟨⟨a,b,c⟩,d⟩:=r;simp[resK];omega
  .simp [go_sem,e3,e4,e6,e8,e9,a5,a6,a7,J,a0,a8,zc,aj,ak]
   refine fD [0,1,2,5,3,4] [(0,0,[]),(1,0,[]),(2,0,[]),(5,0,[]),(3,1,[1]),(4,1,[])] zKr zKr zSi ?_;simp[go_sem,e3,e4,e6,e8,e9,a5,a6,a7,J,a0,a8,zc,aj,ak];rw[VH zOm]at hI;have hI:ay=(s2,.mk n.op aa n.n ae n.pos,z):=by rw[<-hI];simp[uw,resK]
   rw[hI];refine .tup _ _ rfl fun k x y hx hy=>?_
   match k,hx,hy with
   | 0,hx,hy=>cases hx;cases hy;exact .hf _ (wJ ts l s2)
   | 1,hx,hy =>
    cases hx;cases hy;have df:eNd (.mk n.op aa n.n ae n.pos) = .agg [aI n.op,aS aa,aI n.n,.lst false (ae.map cNd),aI n.pos]:=by
     show AV.agg (cNd _)=_;rw[z8];rfl
    show Rd _ _ (eNd (.mk n.op aa n.n ae n.pos));rw[df];refine .agg _ _ rfl fun k x y hx hy=>?_
    match k,hx,hy with
    | 0,hx,hy=>cases hx;cases hy;exact .zsc _
    | 1,hx,hy=>cases hx;cases hy;exact .zsc _
    | 2,hx,hy=>cases hx;cases hy;exact .zsc _
    | 3,hx,hy =>
     cases hx;cases hy;have h1:=OwnF.set (i:=1) (c:=Cell.arr (cWk ts l s2)) A.ho zOm;have h2:=OwnF.set (i:=2) (c:=Cell.arr [aI n.op,aS aa,aI n.n,av,aI n.pos]) h1 zOm;rw[a0]at h2;exact h2.1.rd (YD.U4 ae).ok fun r hr c hc=>by
      obtain⟨x,_,rfl⟩:=qk.1 hr;exact vo x c hc
    | 4,hx,hy=>cases hx;cases hy;exact .zsc _
    |k+5,hx,hy=>cases hx
   | 2,hx,hy=>cases hx;cases hy;exact .zsc _
   |k+3,hx,hy=>cases hx
end
end RA
namespace RB
open YF Y9 Y1 YX YZ YB YC YE YG YH P1 P2 Q4 Q6 PF QE QT QW QX QY QZ RA
theorem qeA(l):∀ es nm,getK nm (putN es l)=some true↔(getK nm es=some true\/∃ x,x∈l/\x.name=nm):=by
 induction l with
 |nil=>intro es nm;exact⟨fun h => .inl h,fun h=>h.elim id fun⟨x,hx,_⟩=>absurd hx qI⟩
 |cons a l g =>
  intro es nm;have e:putN es (a :: l)=putN (setK a.name true es) l:=rfl;rw[e,g,jN];by_cases e:nm=a.name
  .grind
  .rw [if_neg e]
   constructor
   .grind
   .rintro (h|⟨x,hx,i⟩)
    .exact .inl h
    .rcases qv.1 hx with rfl|hx
     .grind
     grind
theorem qr9(l:List Pd):∀ es nm,getK nm (l.foldl (fun es p=>putN es (preN p.body)) es)=some true↔(getK nm es=some true\/∃ p,p∈l/\∃ x,x∈preN p.body/\x.name=nm):=by
 induction l with
 |nil=>simp
 |cons a l g =>
  intro es nm;rw[List.foldl_cons,g,qeA];constructor
  .grind
  .rintro (h|⟨p,hp,h⟩)
   .grind
   .rcases qv.1 hp with rfl|hp
    .grind
    grind
structure Ti (es:List (tC×Bool)):Prop where
 nd:(es.map Prod.fst).Nodup
 tr:∀ e,e∈es->e.2=true
theorem Ti.put(l):∀{es},Ti es->Ti (putN es l):=by
 induction l with
 |nil=>intro es h;exact h
 |cons a l i =>
  intro es h;refine i (es:=setK a.name true es) ⟨u9 h.nd,fun e g=>?_⟩;rcases U7 g with rfl|g
  .rfl
  .exact h.tr e g
theorem cV(l:List Pd):∀{es},Ti es->Ti (l.foldl (fun es p=>putN es (preN p.body)) es):=by
 induction l with
 |nil=>grind
 |cons a l g=>intro es h;exact g (h.put _)
theorem kZ{nm}(n)(g:nm≠⟨#[]⟩):nm∈namL n↔∃ x,x∈preN n/\x.name=nm:=by
 unfold namL;rw[qk];constructor
 .rintro ⟨x,hx,e⟩
  exact⟨x,(jy.1 hx).1,e⟩
 .rintro ⟨x,hx,e⟩
  exact⟨x,jy.2 ⟨hx,by rw[e];simpa using g⟩,e⟩
theorem takTn(ts n):Tn (takL ts n) (yR ts n):=by
 have i:∀ nm:tC,nm≠⟨#[]⟩->(nm∈takL ts n↔getK nm (yR ts n)=some true):=fun nm o=>by
  unfold takL yR;rw[qr9,qeA,qM,kZ n o,wP];constructor
  .grind [kZ]
  .rintro ((h|h)|⟨p,hp,h⟩)
   .cases h
   .exact .inl h
   grind [kZ]
 refine⟨i,?_⟩;have g:Ti (yR ts n):=cV _ (Ti.put _ ⟨.nil,fun e r=>absurd r qI⟩);have:=List.Nodup.length_le_of_subset (l₂:=⟨#[]⟩ :: takL ts n) g.nd fun x hx=>by
  by_cases e:x=⟨#[]⟩
  .grind
  .refine za _ ((i x e).2 ?_)
   obtain⟨q,l,rfl⟩:=qk.1 hx;have t:=g.tr q l;have C:=(Za g.nd (k:=q.1) (v:=q.2)).2 l;rw[C,t]
 grind
theorem qeB(ts)(h:okTS ts)(l es)(t:Tn l es)(C:l.length<=400000)(I:qm ts es<=200000)(g:Free ts es)(j:∀ p,p∈ts.sT->WfN p.body/\yQ ts p.body):∀ f env sc n body s,Pre ts es f env sc n body s->ExpW ts l es f sc n body s
 | 0,env,sc,n,body,s,p=>zW2 p.fu p.st.c1
 |f+1,env,sc,n,body,s,p=>by
  have J:=qeB ts h l es t C I g j f;by_cases o:s.sM+1<=4000
  case neg=>grind [expZ]
  by_cases P:n.op=1
  .grind [expN]
  by_cases h47:n.op=47
  .obtain ⟨r,hp,i⟩:=p.cl n (j8 n) h47
   have R:(payS 1 s).sM=s.sM+1:=rfl;exact expC ts l es f env sc n body s p o h47 r hp (replW ts h l es g j f J env sc n body (payS 1 s) ⟨zW1 p.fu,(wF p.st zOm o).ok p.st,p.en,p.wf,p.cl,p.so,zW1 p.le⟩ h47 r hp i)
  grind [expK]
theorem inlRU(ts)(h:okTS ts)(hv:∀ p,p∈ts.sT->qH p.body=true)(hb:∀ p,p∈ts.sT->WfN p.body/\yQ ts p.body)(n)(hn:qH n=true)(a7:(yy ts [] n).1=0->yQ ts n):qg qc 58 [eTS ts,eNd n] (.tup [eNd (zd ts n).1,aI (zd ts n).2]):=by
 have U:=vI hn;have a8:=vM.1 hn;have I:∀ p,p∈ts.sT->WfN p.body:=fun p hp=>(hb p hp).1
 have a9:∀ p,p∈ts.sT->(preN p.body).length<=400:=fun p hp=>by grind [vM,Vp]
 have aa:(preN n).length<=400:=by grind [Vp]
 have hF:=Wi h hv hn;have hT:=takTn ts n;have af:=h.np;have ab:(takL ts n).length<=400000:=by
  have h1:∀ L:List Pd,(∀ p,p∈L->(preN p.body).length<=400)->(L.flatMap fun p=>namL p.body).length<=400*L.length:=by
   intro L;induction L with
   |nil=>intro _;simp
   |cons a L ih =>
    intro hL;have a1:=ih fun p hp=>hL p (za _ hp)
    have a2:=Wr a.body;have a3:=hL a (zj ..);rw[wO,zb,zK];omega
  grind [Wr,takL,zb]
 have J:=U8 ts (yR ts n);have P:StOk (qm ts (yR ts n)) ⟨0,0⟩:=⟨zSp,zSp,zSp,by simp[pot]⟩;have cf:=kR ts h I [] ⟨zSp,zSp⟩ zSp n U a8.2.2.2;have o:=m8 (szN n) n (qo _) U.small;have ct:=qrY ts h I n U aa a9;have T:WKs [eTS ts,.lst true [],eNd n] [eTS ts,lPm [],eNd n] := .zk (zq ts) (.cons (WK.lst fun r hr=>absurd hr qI) (.zk (qK n) .nil));have ad:WKs [eTS ts,eNd n] [eTS ts,eNd n] := .zk (zq ts) (.zk (qK n) .nil);generalize j:zd ts n=R;unfold zd at j;by_cases l:(yy ts [] n).1=0
 case neg =>
  rw[if_pos l]at j;subst j;refine qSU call58 func58 rfl ?_;refine pL cf T ?_;simp[go_sem,l];refine fD [0,1,2,4,3] [(0,0,[]),(1,0,[]),(2,0,[]),(4,0,[]),(3,1,[2])] zKr zKr zSi ?_;simp_all[go_sem,YQ]
 rw[if_neg (zUs l)]at j;cases ha:anyN (fun n=>decide (n.op=47)) n with
 |false =>
  rw[ha]at j o;rw[if_pos rfl]at j;subst j;refine qSU call58 func58 rfl ?_;refine pL cf T ?_;simp[go_sem,l];refine pL o (.zk (qK n) .nil) ?_;simp[go_sem,l];exact .hf _ (HF.tup fun x hx=>by
   simp only[qv,qI,or_false]at hx;rcases hx with rfl|rfl
   .exact qK n
   .exact HF.sc _)
 |true =>
  rw[ha]at j o;rw[if_neg zSp]at j;have a0:=a7 l;have cx:=qeB ts h (takL ts n) (yR ts n) hT ab hF J hb 4001 [] [] n false ⟨0,0⟩ ⟨zSp,P,.nil,U,a0,⟨fun nm=>rfl,fun _ nm v hv=>(by cases hv),fun e he=>absurd he qI⟩,zSp⟩;have ho:=Ji ts (yR ts n) J hb 4001 [] [] n false ⟨0,0⟩ zSp P .nil U a0 ⟨fun nm=>rfl,fun _ nm v hv=>(by cases hv),fun e he=>absurd he qI⟩;have a4:=fun {n' z s'}=>YP ts I (yR ts n) 4001 (env:=[]) (n:=n) (n':=n') (body:=false) (s:=⟨0,0⟩) (s':=s') (z:=z) (fun e he=>absurd he qI) U
  have a5:=fun {n' z s'}=>jl ts J 4001 (env:=[]) (n:=n) (n':=n') (body:=false) (s':=s') (z:=z) P .nil
  have a6:=fun {d}=>Vf ts (yR ts n) 4001 (env:=[]) (n:=n) (body:=false) (s:=⟨0,0⟩) (d:=d)
  unfold outI at j;unfold ExpW at cx;generalize expR ts (yR ts n) 4001 [] n false ⟨0,0⟩=q at *
  generalize expI ts (yR ts n) 4001 [] n false ⟨0,0⟩=E at *
  have ae:(4000<q.1.sM/\R=(nd0,2))\/(¬ 4000<q.1.sM/\Small q.2.1/\depN q.2.1<=1000000/\((400<q.2.2/\R=(nd0,2))\/(¬ 400<q.2.2/\24<depN q.2.1/\R=(nd0,2))\/(¬ 400<q.2.2/\¬ 24<depN q.2.1/\R=(q.2.1,0)))):=by
   cases E with
   |error d =>
    have:=a6 rfl;subst this;exact .inl ⟨ho.1,j.symm⟩
   |ok r =>
    obtain⟨⟨m,y⟩,t⟩:=r;obtain⟨o1,o2,o3⟩:=ho;obtain⟨s1,s2⟩:=a4 rfl;have g:=a5 rfl;have gc:=g.c1;have gz:=g.cz;have dl:=KW m;rw[o1,o2,o3];have gz:0+y<=t.sM:=gz;refine .inr ⟨zOm,s2,zOm,?_⟩;simp only at j;by_cases z1:y<=400
    .by_cases z2:depN m<=24
     .grind
     grind
    .rw [if_neg (fun x=>z1 x.1)]at j
     grind
  clear j ho a4 a5 a6;refine qSU call58 func58 rfl ?_;refine pL cf T ?_;simp[go_sem,l];refine pL o (.zk (qK n) .nil) ?_;simp[go_sem,l];refine fD [0,1,2,5,3,4,6,7,8,9,10,15,11,12,13,14] [(0,0,[]),(1,0,[]),(2,0,[]),(5,0,[]),(3,1,[0,5]),(4,0,[]),(6,1,[]),(7,0,[]),(8,0,[]),(9,0,[]),(10,0,[]),(15,0,[]),(11,2,[0,1,2,5]),(12,2,[0,1,2,5]),(13,1,[]),(14,1,[])] zKr zKr zSi ?_;simp[go_sem,l];refine pL ct ad ?_;simp[go_sem,l];refine pL cx ?_ ?_
  .exact .zk (wJ ts (takL ts n) ⟨0,0⟩) (.cons (WK.lst fun r hr=>absurd hr qI) (.zk (qK n) (.zs .nil)))
  simp[go_sem,l];have ag:∀ C:Mu,Rd C (.tup [eNd q.2.1,aI 0]) (.tup [eNd q.2.1,aI 0]):=fun C => .hf _ (HF.tup fun x hx=>by
   simp only[qv,qI,or_false]at hx;rcases hx with rfl|rfl
   .exact qK _
   .exact HF.sc _)
  rcases ae with ⟨g1,g2⟩|⟨g1,gs,gd,⟨g2,g3⟩|⟨g2,g3,g4⟩|⟨g2,g3,g4⟩⟩
  .simp_all [go_sem,g1,YQ]
  .rw [g3]
   simp[go_sem,l,g1,g2];exact YQ _ _
  .rw [g4]
   simp[go_sem,l,g1,g2];refine pL (kX (szN q.2.1) q.2.1 (qo _) gs gd) (.zk (qK _) .nil) ?_;simp_all[go_sem,g1,YQ]
  .rw [g4]
   simp[go_sem,l,g1,g2];refine pL (kX (szN q.2.1) q.2.1 (qo _) gs gd) (.zk (qK _) .nil) ?_;simp[go_sem, *]
end RB
namespace FE
open Y1 Y9
def yp(op a s:Int)(i:Nat)(k:Int):Int:=if op=48\/op=49\/op=51 then k*s else if i=1/\(op=45\/op=46\/op=15) then k*a else k
def minW(v:Int):Int:=if 1000000<v then 1000000 else v
mutual
def wkN(a s:Int):Nd->Int
 | .mk op _ _ ks _=>wkNs a s op 0 ks 1
def wkNs(a s op:Int):Nat->List Nd->Int->Int
 |_,[],sum=>sum
 |i,k :: ks,sum=>wkNs a s op (i+1) ks (minW (sum+yp op a s i (wkN a s k)))
end
theorem qsA(a s n):wkN a s n=wkNs a s n.op 0 n.sD 1:=by
 obtain⟨op,nm,i,ks,q⟩:=n;rw[wkN];rfl
theorem qeC{op a s i k}(j:0<=a/\a<=100)(l:0<=s/\s<=100)(g:0<=k/\k<=1000000):0<=yp op a s i k/\yp op a s i k<=100000000:=by
 unfold yp;have o:=Int.mul_nonneg g.1 j.1;have p:=Int.mul_nonneg g.1 l.1;have r:k*a<=1000000*100:=jz g.2 j.2 j.1 zOm;have t:k*s<=1000000*100:=jz g.2 l.2 l.1 zOm;split
 .omega
 omega
theorem qeD{v}(h:0<=v):0<=minW v/\minW v<=1000000:=by unfold minW;split<;>omega
mutual
theorem qeE(a s:Int)(g:0<=a/\a<=100)(i:0<=s/\s<=100):∀ n:Nd,0<=wkN a s n/\wkN a s n<=1000000
 | .mk op _ _ ks _=>by rw[wkN];exact qeF a s g i op ks 0 1 zOm
theorem qeF(a s:Int)(g:0<=a/\a<=100)(j:0<=s/\s<=100)(op:Int):∀(ks:List Nd)(i:Nat)(sum:Int),0<=sum/\sum<=1000000->0<=wkNs a s op i ks sum/\wkNs a s op i ks sum<=1000000
 | [],_,sum,h=>by rw[wkNs];exact h
 |k :: ks,i,sum,h=>by
  rw[wkNs];have l:=qeE a s g j k;have o:=qeC (op:=op) (i:=i) g j l;exact qeF a s g j op ks (i+1) _ (qeD zOm)
end
theorem qeG(a s)(ha:0<=a/\a<=100)(hs:0<=s/\s<=100):∀ m n,szN n<=m->Small n->qg qc 59 [eNd n,aI a,aI s] (aI (wkN a s n))
 | 0,n,hm,_=>by obtain⟨op,nm,i,ks,p⟩:=n;simp[szN]at hm
 |m+1,n,hm,a7=>by
  have ih:∀ k,k∈n.sD->qg qc 59 [eNd k,aI a,aI s] (aI (wkN a s k)):=fun k hk=>qeG a s ha hs m k (zW1 (yn hk)) (a7.kid hk)
  rw[qsA];have a9:=a7.len;generalize hR:wkNs a s n.op 0 n.sD 1=R;refine qSU call59 func59 rfl ?_;refine aA n.sD.length (fun k U=>∃ sum:Int,U.tm 1=aI a/\U.tm 2=aI s/\U.tm 3 = .ip (cNd n)/\U.tm 7=aI sum/\U.tm 8=aI k/\(0<=sum/\sum<=1000000)/\wkNs a s n.op k (n.sD.drop k) sum=R) ?_ ?_
  .simp [go_sem, *]
  .rintro k U hk ⟨sum,r,t,C,e7,e8,aa,o⟩
   by_cases a8:k=n.sD.length
   .subst a8
    rw[yA,wkNs]at o;subst o;simp[go_sem,r,t,C,e7,e8];exact .zsc _
   .have l:k<n.sD.length:=by omega
    rw[zy l,wkNs]at o;have w1:=zWk k;have a3:=qeE a s ha hs n.sD[k];have ab:=qeC (op:=n.op) (i:=k) ha hs a3;have j:=qeD (v:=sum+yp n.op a s k (wkN a s n.sD[k])) zOm;have m1:=Int.mul_nonneg a3.1 ha.1;have m2:=Int.mul_nonneg a3.1 hs.1;have m3:wkN a s n.sD[k] * a<=1000000*100:=jz a3.2 ha.2 ha.1 zOm;have m4:wkN a s n.sD[k] * s<=1000000*100:=jz a3.2 hs.2 hs.1 zOm;simp[go_sem,r,t,C,e7,e8,l,zc];refine pL (ih n.sD[k] (qq l)) (.zk (qK _) (.zs (.zs .nil))) ?_;generalize wkN a s n.sD[k]=K at *
    by_cases I:k=1
    .have g:(k:Int)=1:=by omega
     by_cases a0:n.op=48
     .have J:yp n.op a s k K=K*s:=by simp[yp,a0,I,g]
      rw[J]at o j;have P:qp.wrap (K*s)=K*s:=zWr;have T:qp.wrap (sum+K*s)=sum+K*s:=zWr;simp[go_sem,r,t,C,e7,e8,w1,P,T,l,a0,eq_true I,eq_true g];simp_all[go_sem,aC,minW]
     by_cases a1:n.op=49
     .have J:yp n.op a s k K=K*s:=by simp[yp,a1,I,g]
      rw[J]at o j;have P:qp.wrap (K*s)=K*s:=zWr;have T:qp.wrap (sum+K*s)=sum+K*s:=zWr;simp[go_sem,r,t,C,e7,e8,w1,P,T,l,a1,eq_true I,eq_true g];exact aC ⟨_,zS1 r,zS1 t,zS1 C,by simp[go_sem,minW],zSi,j,o⟩
     by_cases a2:n.op=51
     .have J:yp n.op a s k K=K*s:=by simp[yp,a2,I,g]
      rw[J]at o j;have P:qp.wrap (K*s)=K*s:=zWr;have T:qp.wrap (sum+K*s)=sum+K*s:=zWr;simp[go_sem,r,t,C,e7,e8,w1,P,T,l,a2,eq_true I,eq_true g];exact aC ⟨_,zS1 r,zS1 t,zS1 C,by simp[go_sem,minW],zSi,j,o⟩
     by_cases a4:n.op=45
     .have J:yp n.op a s k K=K*a:=by simp[yp,a4,I,g]
      rw[J]at o j;have P:qp.wrap (K*a)=K*a:=zWr;have T:qp.wrap (sum+K*a)=sum+K*a:=zWr;simp[go_sem,r,t,C,e7,e8,w1,P,T,l,a4,eq_true I,eq_true g];exact aC ⟨_,zS1 r,zS1 t,zS1 C,by simp[go_sem,minW],zSi,j,o⟩
     by_cases a5:n.op=46
     .have J:yp n.op a s k K=K*a:=by simp[yp,a5,I,g]
      rw[J]at o j;have P:qp.wrap (K*a)=K*a:=zWr;have T:qp.wrap (sum+K*a)=sum+K*a:=zWr;simp[go_sem,r,t,C,e7,e8,w1,P,T,l,a5,eq_true I,eq_true g];exact aC ⟨_,zS1 r,zS1 t,zS1 C,by simp[go_sem,minW],zSi,j,o⟩
     by_cases a6:n.op=15
     .have J:yp n.op a s k K=K*a:=by simp[yp,a6,I,g]
      rw[J]at o j;have P:qp.wrap (K*a)=K*a:=zWr;have T:qp.wrap (sum+K*a)=sum+K*a:=zWr;simp[go_sem,r,t,C,e7,e8,w1,P,T,l,a6,eq_true I,eq_true g];exact aC ⟨_,zS1 r,zS1 t,zS1 C,by simp[go_sem,minW],zSi,j,o⟩
     have J:yp n.op a s k K=K:=by simp[yp,a0,a1,a2,a4,a5,a6,I,g]
     rw[J]at o j;have P:=w1;have T:qp.wrap (sum+K)=sum+K:=zWr;simp[go_sem,r,t,C,e7,e8,w1,P,T,l,a0,a1,a2,a4,a5,a6,eq_true I,eq_true g];simp_all[go_sem,aC,minW]
    .have g:¬(k:Int)=1:=by omega
     by_cases a0:n.op=48
     .have J:yp n.op a s k K=K*s:=by simp[yp,a0,I,g]
      rw[J]at o j;have P:qp.wrap (K*s)=K*s:=zWr;have T:qp.wrap (sum+K*s)=sum+K*s:=zWr;simp[go_sem,r,t,C,e7,e8,w1,P,T,l,a0,I,g];exact aC ⟨_,zS1 r,zS1 t,zS1 C,by simp[go_sem,minW],zSi,j,o⟩
     by_cases a1:n.op=49
     .have J:yp n.op a s k K=K*s:=by simp[yp,a1,I,g]
      rw[J]at o j;have P:qp.wrap (K*s)=K*s:=zWr;have T:qp.wrap (sum+K*s)=sum+K*s:=zWr;simp[go_sem,r,t,C,e7,e8,w1,P,T,l,a1,I,g];exact aC ⟨_,zS1 r,zS1 t,zS1 C,by simp[go_sem,minW],zSi,j,o⟩
     by_cases a2:n.op=51
     .have J:yp n.op a s k K=K*s:=by simp[yp,a2,I,g]
      rw[J]at o j;have P:qp.wrap (K*s)=K*s:=zWr;have T:qp.wrap (sum+K*s)=sum+K*s:=zWr;simp[go_sem,r,t,C,e7,e8,w1,P,T,l,a2,I,g];exact aC ⟨_,zS1 r,zS1 t,zS1 C,by simp[go_sem,minW],zSi,j,o⟩
     have J:yp n.op a s k K=K:=by simp[yp,a0,a1,a2,I,g]
     rw[J]at o j;have P:=w1;have T:qp.wrap (sum+K)=sum+K:=zWr;simp[go_sem,r,t,C,e7,e8,w1,P,T,l,a0,a1,a2,I,g];exact aC ⟨_,zS1 r,zS1 t,zS1 C,by simp[go_sem,minW],zSi,j,o⟩
end FE
namespace FF
end FF
namespace IB
open QU P1 P2 Y1 YF Y9 Y10 Y16 PA YC YG YH Q4 Q6 Q8 PF QT RB QL E3 F2 FC FD FE IA
section
variable {ts:TS}
abbrev bigT(ts:TS):Prop:=∀ x,x∈ts.sS->x.1.size<=4611686018427387904
structure SpD (ts:TS):Prop where
 h:okTS ts
 wp:∀ p,p∈ts.sT->WfN p.body
 wf:∀ f,f∈ts.sP->WfN f.2
 hv:∀ p,p∈ts.sT->qH p.body=true
 hf:∀ f,f∈ts.sP->qH f.2=true
theorem k5(h:yT ts=true)(i:bigT ts):SpD ts:=by
 obtain⟨ok,j,wf⟩:=qlS h i;simp only[yT,limB,fldB,qF,decide_eq_true_eq,zC]at h;obtain⟨⟨⟨⟨o,r⟩,t⟩,C⟩,hf,hp,l⟩:=h;exact⟨ok,j,wf,fun p g=>(hp p g).2,fun f g=>l f g⟩
theorem SpD.sp(S:SpD ts)(g:y7 ts=[]):OkSp ts:=⟨S.h,S.hv,g⟩
theorem SpD.chk(S:SpD ts):qg qc 24 [eTS ts] (lDg (y7 ts)):=
 qrT ts S.h S.wp S.wf (fun p hp=>(vM.1 (S.hv p hp)).2.2.2) (fun f hf=>(vM.1 (S.hf f hf)).2.2.2)
theorem SpD.chkF(S:SpD ts){n}(g:qH n=true):qg qc 25 [eTS ts,lPm [],eNd n] (eDg (yy ts [] n)):=
 kR ts S.h S.wp [] ⟨zSp,zSp⟩ zSp n (vI g) (vM.1 g).2.2.2
theorem qeH(S:SpD ts)(g:y7 ts=[]):∀ p,p∈ts.sT->WfN p.body/\yQ ts p.body:=fun p hp=>⟨S.wp p hp,by
 obtain⟨i,j,rfl⟩:=wN.1 hp;obtain⟨_,l,hx⟩:=Y0 (kq g i j);exact kn (v6 S.h zOm) (szN ts.sT[i].body) _ _ _ _ (qo _) hx (S.wp _ hp)⟩
theorem qeI(S:SpD ts){n}(g:qH n=true)(i:(yy ts [] n).1=0):yQ ts n:=by
 obtain⟨_,j,hx⟩:=Y0 i;exact kn (v6 S.h (qo _)) (szN n) _ _ _ _ (qo _) hx (vI g)
theorem inlC(S:SpD ts)(i:y7 ts=[]){n}(g:qH n=true):qg qc 36 [eTS ts,eNd n] (.tup [eNd (zd ts n).1,aI (zd ts n).2]):=
 qoJ ts S.h (qeH S i) n (vI g) (qeI S g) (Wi S.h S.hv g)
theorem inlR(S:SpD ts)(i:y7 ts=[]){n}(g:qH n=true):qg qc 58 [eTS ts,eNd n] (.tup [eNd (zd ts n).1,aI (zd ts n).2]):=
 inlRU ts S.h S.hv (qeH S i) n g (qeI S g)
theorem qeJ(S:SpD ts)(o:y7 ts=[]){n}(j:qH n=true)(g:(zd ts n).2=0):qH (zd ts n).1=true:=by
 by_cases i:(yy ts [] n).1=0
 .cases l:anyN (fun n=>decide (n.op=47)) n with
  |false =>
   have:zd ts n=(n,0):=by unfold zd;rw[if_neg (zUs i),if_pos l]
   rw[this];exact j
  |true=>exact(qp6 S.h S.hv o j i l (Prod.ext rfl g)).1
 .unfold zd at g
  rw[if_pos i]at g;exact absurd g i
theorem qsB(S:SpD ts)(g:y7 ts=[]){m}(j:OkMa ⟨ts,m⟩ m.sK.length)(l:0<m.sK.length){n}(o:qH n=true):qg qc 11 [eTS ts,eMd m,eNd n] (.tup [aB (hV ⟨ts,m⟩ n).1,aI (hV ⟨ts,m⟩ n).2]):=by
 refine qm3 ⟨ts,m⟩ m.sK.length j l (zd ts) n (by have:=S.h.nfa;show ts.sP.length<=_;omega) fun b p=>?_
 have i:qH b=true:=by
  rcases qM.1 p with h|h
  .obtain ⟨f,hf,rfl⟩:=qk.1 h
   exact S.hf f hf
  .rw [qY]at h;subst h;exact o
 refine⟨inlC S g i,fun r=>?_⟩;have:=qeJ S g i r;exact⟨vI this,zW1 (qm5 this)⟩
def qsC(ts:TS)(a s:Int)(l:List Nd):Bool:=l.all fun b=>!(decide ((zd ts b).2=0)&&decide (3000<wkN a s (zd ts b).1))
def k6(ts:TS)(a s:Int)(n:Nd):Bool:=qsC ts a s (ts.sP.map Prod.snd++[n])
theorem qsD(S:SpD ts)(g:y7 ts=[]){n}(i:qH n=true)(j:(zd ts n).2=0):Small (zd ts n).1:=(vI (qeJ S g i j)).small
end
end IB
namespace IN
open Y1 P1 YF
def Zt(I:Nd->Nd×Int)(W:Nd->Int)(l:List Nd):Bool:=l.all fun b=>!(decide ((I b).2=0)&&decide (3000<W (I b).1))
theorem qsE(ts I W)(a3:ts.sP.length<=1000)(a s n)(step:∀ b,b∈ts.sP.map Prod.snd++[n]->qg qc 58 [eTS ts,eNd b] (.tup [eNd (I b).1,aI (I b).2]))(yp:∀ b,b∈ts.sP.map Prod.snd++[n]->(I b).2=0->qg qc 59 [eNd (I b).1,aI a,aI s] (aI (W (I b).1))):qg qc 26 [eTS ts,aI a,aI s,eNd n] (aB (Zt I W (ts.sP.map Prod.snd++[n]))):=by
 have a4:(ts.sP.map Prod.snd++[n]).length=ts.sP.length+1:=zSp;have t:∀(k:Nat)(h:k<ts.sP.length)(h2:k<(ts.sP.map Prod.snd++[n]).length),(ts.sP.map Prod.snd++[n])[k]=ts.sP[k].2:=fun k h h2=>by grind
 have C:∀(h2:ts.sP.length<(ts.sP.map Prod.snd++[n]).length),(ts.sP.map Prod.snd++[n])[ts.sP.length]=n:=fun h2=>zSp
 generalize ts.sP.map Prod.snd++[n]=L at *
 generalize hR:Zt I W L=R;refine qSU call26 func26 rfl ?_;refine aA (ts.sP.length+1) (fun k U=>U.tm 1=aI a/\U.tm 2=aI s/\U.tm 4 = .ip (cTS ts)/\U.tm 7 = .ip (cNd n)/\U.tm 9=aI k/\Zt I W (L.drop k)=R) ?_ ?_
 .simp [go_sem, *]
 rintro k U a5 ⟨J,P,p,T,r,g⟩;have wi:∀ b:Nd,WKs [eTS ts,eNd b] [eTS ts,eNd b]:=fun b => .zk (zq ts) (.zk (qK b) .nil)
 have ww:∀ b:Nd,WKs [eNd b,aI a,aI s] [eNd b,aI a,aI s]:=fun b => .zk (qK b) (.zs (.zs .nil))
 have w1:=zWk k;by_cases l:k<ts.sP.length+1
 .have i:k<L.length:=by omega
  have a1:k<=ts.sP.length:=zOm;have a0:(k:Int)<=ts.sP.length:=zOm;have c1:=step _ (qq i);have c2:=yp _ (qq i);rw[zy i,Zt,List.all_cons]at g;by_cases hf:k<ts.sP.length
  .rw [t k hf i]at g c1 c2
   generalize I ts.sP[k].2=ib at *
   obtain⟨b',e'⟩:=ib;simp only at g c1 c2;simp[go_sem,p,T,r,hf,a1,a0];refine fR c1 (wi _) ?_;by_cases he:e'=0
   .subst he
    have c3:=c2 rfl;simp[go_sem,J,P];refine pL c3 (ww b') ?_;generalize W b'=w at *
    by_cases j:3000<w
    .simp [j]at g
     subst g;simp[go_sem,j];exact .zsc _
    .simp [j]at g
     simp[go_sem,j,r,w1,l];exact aC ⟨zS1 J,zS1 P,zS1 p,zS1 T,zSi,by simpa[Zt] using g⟩
   simp_all[go_sem,aC,Zt]
  .have o:k=ts.sP.length:=by omega
   subst o;rw[C i]at g c1 c2;generalize I n=ib at *
   obtain⟨b',e'⟩:=ib;simp only at g c1 c2;simp[go_sem,p,T,r];refine fR c1 (wi _) ?_;by_cases he:e'=0
   .subst he
    have c3:=c2 rfl;simp[go_sem,J,P];refine pL c3 (ww b') ?_;generalize W b'=w at *
    by_cases j:3000<w
    .simp [j]at g
     subst g;simp[go_sem,j];exact .zsc _
    .simp [j]at g
     simp[go_sem,j,r,w1,l];exact aC ⟨zS1 J,zS1 P,zS1 p,zS1 T,zSi,by simpa[Zt] using g⟩
   .simp [he]at g
    simp[go_sem,he,r,w1,l];exact aC ⟨zS1 J,zS1 P,zS1 p,zS1 T,zSi,by simpa[Zt] using g⟩
 .have o:k=ts.sP.length+1:=by omega
  subst o;rw[VH zOm]at g;have a2:R=true:=by rw[<-g];rfl
  subst a2;simp[go_sem,p,r,show ¬((ts.sP.length:Int)+1<=ts.sP.length) by omega];exact .zsc _
end IN
namespace IF
open P1 Y1 YF Y16 YG Q4 FE IB IN
theorem qsF{ts}(S:SpD ts)(i:y7 ts=[])(a s)(l:0<=a/\a<=100)(o:0<=s/\s<=100){n}(p:qH n=true):qg qc 26 [eTS ts,aI a,aI s,eNd n] (aB (k6 ts a s n)):=by
 have j:∀ b,b∈ts.sP.map Prod.snd++[n]->qH b=true:=fun b g=>by
  rcases qM.1 g with h|h
  .obtain ⟨f,hf,rfl⟩:=qk.1 h
   exact S.hf f hf
  .rw [qY]at h;subst h;exact p
 exact qsE ts (zd ts) (wkN a s) (zW1 S.h.nfa) a s n (fun b g=>inlR S i (j b g)) (fun b g r=>qeG a s l o _ _ (qo _) (qsD S i (j b g) r))
end IF
namespace GZ
open GF GU
theorem qsG(g s f t):t∈selT g s f↔((s:Int),(f:Int),t)∈g:=by
 simp only[selT,qk,jy,qF,decide_eq_true_eq];constructor
 .rintro ⟨⟨a,b,c⟩,⟨h,i,j⟩,rfl⟩
  simp only at i j;subst i j;exact h
 .intro h
  exact⟨_,⟨h,rfl,rfl⟩,rfl⟩
theorem k7:∀ g k p t,(p,t)∈qN g k↔∃(f:Nat) (h:f<g.length),p=((k+f:Nat):Int)/\t∈wA g[f]
 | [],k,p,t=>by simp[qN]
 |b :: g,k,p,t=>by
  simp only[qN,qM,jj,qk,uz,k7 g (k+1)];constructor
  .rintro (⟨a,j,rfl,rfl⟩|⟨f,hf,rfl,i⟩)
   .exact ⟨0,zSp,zSp,zUs j⟩
   .exact ⟨f+1,by simpa using hf,zOm,zUs i⟩
  .rintro ⟨f,hf,rfl,i⟩
   cases f with
   |zero=>grind
   |succ f=>grind
theorem qsH(i g)(N s f:Nat)(t):((s:Int),(f:Int),t)∈chs i (qN g 0) N↔s<N/\(s=0\/i.getD f true=true)/\∃ h,t∈wA g[f]:=by
 simp only[chs,wP,List.mem_range,chA,qk,jy,Bool.or_eq_true,decide_eq_true_eq,uz,Prod.exists];constructor
 .rintro ⟨C,l,p,I,⟨J,j⟩,P,rfl,rfl⟩
  grind [k7]
 .rintro ⟨o,j,hf,r⟩
  exact⟨s,o,f,t,⟨(k7 _ _ _ _).2 ⟨f,hf,zSp,r⟩,zUs j⟩,rfl,rfl,rfl⟩
theorem qsI(b t):t∈wA b↔t∈b.up.ts/\¬t∈b.lo.ts:=by simp[wA]
end GZ
namespace GX
open P1 E3 G5 GQ GR
structure MdV (ts:TS) (m:Md):Prop where
 f:Fit9 ts m.sc
 z:y9 m.sc=true
 ns:(m.sK.length:Int)=m.sc.sN
 l0:0<=m.loop
 l1:m.loop<m.sK.length
 len:∀ s,s∈m.sK->s.length=ts.sA.length
 ar:∀ s,s∈m.sK->∀(i:Nat)(h:i<s.length)(h2:i<ts.sA.length),s[i].ar=ts.sA[i].sS.length/\s[i].ts.Pairwise (·<·)/\∀ t,t∈s[i].ts->t∈yJ m.sc ts.sA[i].sS
 fix:∀(k:Nat)(h:k<m.sK.length)(h0:0<m.sK.length)(i:Nat)(h1:i<m.sK[k].length)(h3:i<m.sK[0].length)(h2:i<ts.sA.length),ts.sA[i].var=false->m.sK[k][i]=m.sK[0][i]
theorem qeK{sc}(h:y9 sc=true):sumI sc.sC<=12:=by
 simp_all[y9,qF,decide_eq_true_eq]
end GX
namespace HA
open P1 E1 GF GQ GR GS GU GW GX GZ
section
variable {g:List Bd}{ts:TS}
theorem qeL(c s f b t):t∈(wB c s f b).ts↔t∈b.lo.ts\/((s:Int),(f:Int),t)∈c:=by
 unfold wB unR;rw[(Yo _).2,qM,qsG]
theorem qeM(c s f b):sorted (wB c s f b).ts:=(Yo _).1
theorem qeN{sc}(B:BndV ts sc g){i N c}(j:c.Sublist (chs i (qN g 0) N))(s f hf) :
  (∀ t,t∈g[f].lo.ts->t∈(wB c s f g[f]).ts)/\∀ t,t∈(wB c s f g[f]).ts->t∈g[f].up.ts:=by
 refine⟨fun t h=>(qeL ..).2 (.inl h),fun t h=>?_⟩;rcases (qeL ..).1 h with h|h
 .exact B.sub _ (qq hf) t h
 .obtain ⟨_,_,_,h⟩:=(qsH ..).1 (j.subset h)
  exact((qsI ..).1 h).1
theorem qeO{sc}(B:BndV ts sc g){i N c}(j:c.Sublist (chs i (qN g 0) N))(s f hf)(l:f<(j7 i g c s).length) :
  (j7 i g c s)[f].ar=g[f].lo.ar/\sorted (j7 i g c s)[f].ts/\(∀ t,t∈g[f].lo.ts->t∈(j7 i g c s)[f].ts)/\∀ t,t∈(j7 i g c s)[f].ts->t∈g[f].up.ts:=by
 rw[UV _ _ _ _ _ hf];split
 .exact ⟨rfl,qeM ..,qeN B j _ _ hf⟩
 .exact ⟨rfl,qeM ..,qeN B j _ _ hf⟩
theorem qsJ{sc}(F:Fit9 ts sc)(z:y9 sc=true)(B:BndV ts sc g){N k:Nat}(J:sc.sN=N)(hk:k<N){c}(P:c.Sublist (chs (vsT ts) (qN g 0) N)):MdV ts (jO sc (vsT ts) g c N k):=by
 have l:∀ s,s∈(jO sc (vsT ts) g c N k).sK->∃ j,s=j7 (vsT ts) g c j:=fun s o=>by
  obtain⟨j,_,rfl⟩:=qk.1 o;exact⟨j,rfl⟩
 have C:(jO sc (vsT ts) g c N k).sK.length=N:=by simp[jO]
 refine⟨F,z,by rw[C];exact J.symm,by simp[jO],by rw[C];simp only[jO];omega,fun s o=>?_,fun s o i h p=>?_,fun j h h0 i h1 h3 p R=>?_⟩
 .obtain ⟨j,rfl⟩:=l s o
  rw[Vb];exact B.len
 .obtain ⟨j,rfl⟩:=l s o
  have hf:i<g.length:=by rw[Vb]at h;exact h
  obtain⟨T,U,a3,a4⟩:=qeO B P j i hf h;exact⟨T.trans (B.lo i hf p).1,U,fun t ht=>B.full i hf p t (a4 t ht)⟩
 .have hf:i<g.length:=by rw[B.len];exact p
  have r:(vsT ts).getD i true=false:=by
   rw[z6];simp[p,R]
  simp only[jO,VE,List.getElem_range,UV _ _ _ _ _ hf];by_cases I:j=0
  .subst I;rfl
  .rw [if_pos ⟨I,r⟩,if_neg zSp]
end
end HA
namespace HB
def lexB:List Bool->List Bool->Bool
 |x :: l,y :: m=>if x=y then lexB l m else y
 |_,_=>false
end HB
namespace HC
open E3 GB GU HB
def posF(g:List (Int×Int))(N:Nat):List Ch:=(qs N).flatMap fun s:Nat=>g.map fun p=>((s:Int),p.1,p.2)
def bit(m:Md)(c:Ch):Bool:=decide (c.2.2∈((m.sK.getD c.1.toNat []).getD c.2.1.toNat noR).ts)
def Wv(g:List (Int×Int))(N:Nat)(m:Md):List Bool:=(posF g N).map (bit m)
def Jk(g:List (Int×Int))(N:Nat)(a b:Md):Bool:=if a.loop=b.loop then lexB (Wv g N a) (Wv g N b) else decide (a.loop<b.loop)
end HC
namespace HD
end HD
namespace IC
open Y9 P1 E1 E3 F2 FD GF GS GU GV GW GX GY HA
section
variable {L:List Md}{g:Md->Bool×Int}
theorem qsK(n)(k:Nat)(g:k<=3):powI n k=n ^ k:=by
 unfold powI powN;congr 1;omega
theorem qsL{ts m}(h:okTS ts)(V:MdV ts m):OkMa ⟨ts,m⟩ m.sK.length:=by
 have F:=V.f;have hg:=F.g;have j:=qeK V.z;have hp:=F.p;refine { len:=rfl,nx:=?_,n0:=by show 0<=sumI m.sc.sC;omega,n12:=j,st:=?_,at0:=?_,gsc:=hg,pos:=fun a l=>(hg.2 a l).1,al:=F.ns.symm,loop:=V.l0,N1:=zW2 V.ns F.s4,ts:=h }
 .intro t I
  have:=V.l1;have:=V.l0;show (if t+1<m.sK.length then t+1 else m.loop.toNat)<m.sK.length
  grind
 .intro s J
  have hd:m.sK.getD s []=m.sK[s]:=by rw[z6,qz J];rfl
  show (m.sK.getD s []).length=ts.sA.length/\∀ r,r∈m.sK.getD s []->GR (sumI m.sc.sC) r;rw[hd];have P:=qq J;have hl:=V.len _ P;refine⟨hl,fun r hr=>?_⟩;obtain⟨i,o,rfl⟩:=Zu hr;obtain⟨a1,a2,a3⟩:=V.ar _ P i o zOm;have f1:=F.f1 _ (qq (show i<ts.sA.length by omega));refine⟨zOm,zOm,fun t I=>?_,a2⟩;have:=qbC _ _ t (a3 t I)
  grind [qsK,sumI,Int.pow_nonneg]
 .intro i o
  have C:i<m.sc.sC.length:=by rw[<-F.ns];exact o
  exact qm6 m.sc.sC i (fun a l=>(hg.2 a l).1) C
theorem k8(g):∀ L acc,(∀ m,m∈L->(g m).2=0)->modG g acc L=(acc++L.filter fun m=>(g m).1,0)
 | [],acc,_=>by simp[modG]
 |m :: L,acc,h=>by
  rw[modG,if_neg (by grind),k8 g L _ fun x hx=>h x (zP1 hx)]
  grind
theorem qeP(i):∀ L acc,(modG i acc L).2=0->∀ m,m∈L->(i m).2=0
 | [],acc,_,m,g=>absurd g qI
 |x :: L,acc,h,m,g=>by
  rw[modG]at h;by_cases hx:(i x).2=0
  .rw [if_neg (zUs hx)]at h
   rcases qv.1 g with rfl|g
   .exact hx
   .exact qeP i L _ h m g
  grind
theorem qeQ(g):∀ L acc,(modG g acc L).2≠0->(modG g acc L).1=[]/\∃ m,m∈L/\(g m).2=(modG g acc L).2
 | [],acc,h=>absurd rfl h
 |x :: L,acc,h=>by
  rw[modG]at h⊢;by_cases hx:(g x).2=0
  .simp_all [if_neg,qeQ]
  grind
theorem qeR(h:(modV g L 0).2=0):(∀ m,m∈L->(g m).2=0)/\(modV g L 0).1=L.filter fun m=>(g m).1:=by
 grind [modV,modG,qeP,k8]
theorem qsM(h:∀ m,m∈L->(g m).2=0):modV g L 0=(L.filter fun m=>(g m).1,0):=by
 grind [modV,modG,k8]
theorem qsN(h:(modV g L 0).2≠0):(modV g L 0).1=[]/\∃ m,m∈L/\(g m).2=(modV g L 0).2:=by
 grind [modV,modG,qeQ]
theorem qsO(g L):(modV g L 0).1.Sublist L:=by
 by_cases h:(modV g L 0).2=0
 .rw [(qeR h).2];exact List.filter_sublist
 .rw [(qsN h).1];exact List.nil_sublist _
structure Betw (sc:Sc) (vs:List Bool) (bs:List Bd) (N:Nat) (m:Md):Prop where
 sc:m.sc=sc
 lp:∃ k:Nat,k<N/\m.loop=k
 ns:m.sK.length=N
 len:∀ s,s∈m.sK->s.length=bs.length
 rel:∀(k f:Nat)(hk:k<m.sK.length)(hf:f<bs.length)(h2:f<m.sK[k].length),m.sK[k][f].ar=bs[f].lo.ar/\sorted m.sK[k][f].ts/\(∀ t,t∈bs[f].lo.ts->t∈m.sK[k][f].ts)/\∀ t,t∈m.sK[k][f].ts->t∈bs[f].up.ts
 fix:∀(k f:Nat)(hk:k<m.sK.length)(h0:0<m.sK.length)(h2:f<m.sK[k].length)(h3:f<m.sK[0].length),vs.getD f true=false->m.sK[k][f]=m.sK[0][f]
theorem qsP{ts sc g}(B:BndV ts sc g){N}(T:1<=N){m}(h:m∈Zj sc (vsT ts) g (chs (vsT ts) (qN g 0) N) N):Betw sc (vsT ts) g N m:=by
 obtain⟨k,c,p,r,rfl⟩:=qa7.1 h;have t:(jO sc (vsT ts) g c N k).sK.length=N:=by simp[jO]
 have i:∀ s,s∈(jO sc (vsT ts) g c N k).sK->∃ j,s=j7 (vsT ts) g c j:=fun s l=>by
  obtain⟨j,_,rfl⟩:=qk.1 l;exact⟨j,rfl⟩
 refine⟨rfl,⟨k,p,rfl⟩,t,fun s l=>?_,fun j f C hf o=>?_,fun j f C U o h3 hv=>?_⟩
 .obtain ⟨j,rfl⟩:=i s l
  rw[Vb]
 .simp only[jO,VE,List.getElem_range]at o⊢
  obtain⟨I,J,P,R⟩:=qeO B r j f hf o;exact⟨I,J,P,R⟩
 simp_all[jO,vsT,j7,Vb,VE,List.getElem_range,UV]
end
end IC
namespace HE
open P1 E1 G5 GP GW
def wtR(rw:List Int)(k:Nat):Int:=if k<rw.length then rw.getD k 0 % 4 else 1
def selW(p:Int->Bool)(rw:List Int):List Int->Nat->List Int
 | [],_=>[]
 |t :: R,k=>(if p (wtR rw k)=true then [t] else [])++selW p rw R (k+1)
theorem qeS(p rw):∀ ts g k,selW p rw (ts++g) k=selW p rw ts k++selW p rw g (k+ts.length)
 | [],g,k=>by simp[selW]
 |t :: ts,g,k=>by
  rw[yG,selW,selW,qeS p rw ts g (k+1),zJ,zK,show k+1+ts.length=k+(ts.length+1) by omega]
theorem qeT(p rw)(ts:List Int)(k h):selW p rw (ts.take (k+1)) 0=selW p rw (ts.take k) 0++(if p (wtR rw k)=true then [ts[k]] else []):=by
 grind [vP,qeS,selW]
theorem wK(p rw):∀ ts k,(selW p rw ts k).Sublist ts
 | [],k=>List.Sublist.refl _
 |t :: ts,k=>by
  rw[selW];split
  .exact (wK p rw ts (k+1)).cons_cons t
  .exact (wK p rw ts (k+1)).cons t
theorem qeU{p q}(h:∀ x,p x=true->q x=true)(rw):∀ ts k t,t∈selW p rw ts k->t∈selW q rw ts k
 | [],k,t,g=>g
 |a :: ts,k,t,g=>by
  rw[selW,qM]at g⊢;rcases g with g|g
  .grind
  .exact .inr (qeU h rw ts (k+1) t g)
def Ww(rw:List Int)(b:Bd):Bd:=⟨⟨b.up.ar,selW (fun x=>decide (1<x)) rw b.up.ts 0⟩,⟨b.up.ar,selW (fun x=>decide (0<x)) rw b.up.ts 0⟩⟩
def yf(ts:TS)(sc:Sc)(raw:List (List Int)):List Bd:=(defB ts sc).mapIdx fun i b=>Ww (raw.getD i []) b
theorem Qs(ts sc raw):(yf ts sc raw).length=ts.sA.length:=by simp[yf,defB]
theorem Wx(ts sc raw i h)(g:i<ts.sA.length):(yf ts sc raw)[i]=Ww (raw.getD i []) ⟨⟨ts.sA[i].sS.length,[]⟩,⟨ts.sA[i].sS.length,yJ sc ts.sA[i].sS⟩⟩:=by
 simp[yf,defB]
theorem qeV(ts sc raw)(hf:∀ f,f∈ts.sA->sorted (yJ sc f.sS)):BndV ts sc (yf ts sc raw):=by
 have key:∀ b,b∈yf ts sc raw->∃(i:Nat) (g:i<ts.sA.length),b=Ww (raw.getD i []) ⟨⟨ts.sA[i].sS.length,[]⟩,⟨ts.sA[i].sS.length,yJ sc ts.sA[i].sS⟩⟩:=fun b j=>by
  obtain⟨i,o,rfl⟩:=wN.1 j
  grind [Qs,Wx]
 refine⟨Qs ..,fun i h g=>?_,fun b j=>?_,fun b j t l=>?_,fun i h g t l=>?_⟩
 .rw [Wx _ _ _ _ h g];exact⟨rfl,rfl⟩
 .obtain ⟨i,g,rfl⟩:=key b j
  have:=hf _ (qq g);exact⟨this.sublist (wK ..),this.sublist (wK ..)⟩
 .obtain ⟨i,g,rfl⟩:=key b j
  exact qeU (fun x hx=>by have:=of_decide_eq_true hx;grind) _ _ _ t l
 .rw [Wx _ _ _ _ h g]at l
  exact(wK ..).subset l
end HE
namespace HF1
open GB
theorem qsQ{a b:Ed}:a=b↔a.kind=b.kind/\a.state=b.state/\a.field=b.field/\a.tup=b.tup:=by
 cases a;cases b;simp
instance:DecidableEq Ed:=fun a b=>decidable_of_iff _ qsQ.symm
end HF1
namespace HG
end HG
namespace HH
open E3 E4
theorem qsR(a b)(P:a.length<=1000000):qg qc 38 [lI a,lI b] (aB (decide (a=b))):=by
 refine qSV call38 func38 rfl ?_;by_cases C:a.length=b.length
 .have I:(a.length:Int)=b.length:=by omega
  simp[go_sem,C];refine qj.up a.length (fun k U=>U.tm 0=lI a/\U.tm 1=lI b/\U.tm 5=aI k/\∀(i:Nat)(h:i<k)(P:i<a.length)(hb:i<b.length),a[i]=b[i]) ?_ ?_
  .simp [go_sem, *]
  rintro k U hk ⟨o,p,r,t⟩;by_cases j:k<a.length
  .have g:k<b.length:=by omega
   have R:=zWk k;simp[go_sem,o,p,r,j,g];refine cL zKr ?_;simp[go_sem,o,p,r,j,g];by_cases J:a[k]=b[k]
   .simp [go_sem,o,p,r,j,g,J,R]
    grind
   .have l:¬a=b:=fun e=>J (by simp only[e])
    simp[go_sem,o,p,r,j,g,J];rw[decide_eq_false l];exact .zsc _
  .have T:a=b:=List.ext_getElem C fun i h h'=>t i zOm h h'
   simp[go_sem,o,p,r,show ¬k<a.length from j];rw[decide_eq_true T];exact .zsc _
 .have I:¬(a.length:Int)=b.length:=by omega
  have l:¬a=b:=fun e=>C (by rw[e])
  simp[go_sem,C,l];exact .zsc _
theorem qsS(a b)(R:a.length<=1000000)(T:∀ r,r∈a->r.ts.length<=4611686018427387904):qg qc 39 [lRel a,lRel b] (aB (decide (a=b))):=by
 refine qSV call39 func39 rfl ?_;by_cases I:a.length=b.length
 .have J:(a.length:Int)=b.length:=by omega
  simp[go_sem,I];refine qj.up a.length (fun k U=>U.tm 0=lRel a/\U.tm 1=lRel b/\U.tm 5=aI k/\∀(i:Nat)(h:i<k)(R:i<a.length)(hb:i<b.length),a[i]=b[i]) ?_ ?_
  .simp [go_sem, *]
  rintro k U hk ⟨o,p,t,C⟩;by_cases j:k<a.length
  .have g:k<b.length:=by omega
   have w1:=zWk k;simp[go_sem,o,p,t,j,g];refine cL zKr ?_;simp[go_sem,o,p,t,j,g];refine pL (qjN a[k] b[k] (T _ (qq j))) (.zk (q9 _) (.zk (q9 _) .nil)) ?_;by_cases P:a[k]=b[k]
   .simp [go_sem,o,p,t,j,g,P,w1]
    grind
   .have l:¬a=b:=fun e=>P (by simp only[e])
    simp[go_sem,o,p,t,j,g,P];rw[decide_eq_false l];exact .zsc _
  .have he:a=b:=List.ext_getElem I fun i h h'=>C i zOm h h'
   simp[go_sem,o,p,t,show ¬k<a.length from j];rw[decide_eq_true he];exact .zsc _
 .have J:¬(a.length:Int)=b.length:=by omega
  have l:¬a=b:=fun e=>I (by rw[e])
  simp[go_sem,I,l];exact .zsc _
theorem qeW(l):HF (lRel l):=HF.lst fun r i c g=>by
 obtain⟨n,_,rfl⟩:=qk.1 i;simp at g;rcases g with rfl|rfl
 .exact HF.sc _
 .exact zo _
theorem qsT{a b:Md}:a=b↔a.sc.sC=b.sc.sC/\a.sc.sN=b.sc.sN/\a.loop=b.loop/\a.sK=b.sK:=by
 obtain⟨⟨_,_⟩,_,_⟩:=a;obtain⟨⟨_,_⟩,_,_⟩:=b
 grind
theorem qsU(a b)(P:a.sc.sC.length<=1000000)(hs:a.sK.length<=1000000)(R:∀ s,s∈a.sK->s.length<=1000000/\∀ r,r∈s->r.ts.length<=4611686018427387904):qg qc 12 [eMd a,eMd b] (aB (decide (a=b))):=by
 refine qSU call12 func12 rfl ?_;refine pL (qsR a.sc.sC b.sc.sC P) (.zk (zo _) (.zk (zo _) .nil)) ?_;by_cases c0:a.sc.sC=b.sc.sC
 case neg =>
  have g:¬a=b:=fun e=>c0 (by rw[e])
  simp[go_sem,c0,g];exact .zsc _
 by_cases c1:a.sc.sN=b.sc.sN
 case neg =>
  have g:¬a=b:=fun e=>c1 (by rw[e])
  simp[go_sem,c0,c1,g];exact .zsc _
 by_cases c2:a.loop=b.loop
 case neg =>
  have g:¬a=b:=fun e=>c2 (by rw[e])
  simp[go_sem,c0,c1,c2,g];exact .zsc _
 by_cases c3:a.sK.length=b.sK.length
 case neg =>
  have g:¬a=b:=fun e=>c3 (by rw[e])
  have T:¬(a.sK.length:Int)=b.sK.length:=zOm;simp[go_sem,c0,c1,c2,c3,g];exact .zsc _
 simp[go_sem,c0,c1,c2,c3];refine qj.up a.sK.length (fun k U=>U.tm 2 = .ip (cMd a)/\U.tm 3 = .ip (cMd b)/\U.tm 5=aI k/\∀(i:Nat)(h:i<k)(P:i<a.sK.length)(hb:i<b.sK.length),a.sK[i]=b.sK[i]) ?_ ?_
 .simp [go_sem, *]
 rintro k U hk ⟨o,p,t,C⟩;by_cases l:k<a.sK.length
 .have j:k<b.sK.length:=by omega
  have w1:=zWk k;have I:=R _ (qq l);simp[go_sem,o,p,t,l,j];refine cL zKr ?_;simp[go_sem,o,p,t,l,j];refine pL (qsS a.sK[k] b.sK[k] I.1 I.2) (.zk (qeW _) (.zk (qeW _) .nil)) ?_;by_cases J:a.sK[k]=b.sK[k]
  .simp [go_sem,o,p,t,l,j,J,w1]
   grind
  .have g:¬a=b:=fun e=>J (by simp only[e])
   simp[go_sem,o,p,t,l,j,J];rw[decide_eq_false g];exact .zsc _
 .have he:a=b:=qsT.2 ⟨c0,c1,c2,List.ext_getElem c3 fun i h h'=>C i zOm h h'⟩
  simp[go_sem,o,p,t,show ¬k<a.sK.length from l];rw[decide_eq_true he];exact .zsc _
end HH
namespace HI
end HI
namespace ID
end ID
namespace IE
end IE
namespace IK
open GH Y1 P1 Q4 E1 E3 GD G5 GF GQ GR GS GU GV GW GX GY HA IA IB IC YF Y16
structure Cx (ts:TS) (sc:Sc) (b:List Bd) (N:Nat):Prop where
 S:SpD ts
 hk:y7 ts=[]
 F:Fit9 ts sc
 z:y9 sc=true
 h5:sumI sc.sC<=5
 B:BndV ts sc b
 hS:sc.sN=N
 c9:(chs (vsT ts) (qN b 0) N).length<=9
theorem qeX{ts sc}(F:Fit9 ts sc)(g:sumI sc.sC<=5){f}(hf:f∈ts.sA):(yJ sc f.sS).length<=1000/\sorted (yJ sc f.sS):=by
 obtain⟨a,b,_⟩:=qaM F g _ (List.mem_map_of_mem (f:=fun f:Fld=>(⟨⟨f.sS.length,[]⟩,⟨f.sS.length,yJ sc f.sS⟩⟩:Bd)) hf);exact⟨a,b⟩
theorem k9(M):∀ l k,(∀ x,x∈l->x.up.ts.length<=M)->(qN l k).length<=l.length*M
 | [],k,_=>by simp[qN]
 |x :: l,k,h=>by
  have i:=h x zSp;have j:(jj k x).length<=x.up.ts.length:=by rw[jj,zW];exact List.length_filter_le _ _
  have o:=k9 M l (k+1) fun y g=>h y (zP1 g)
  simp only[qN,zb,zK,Nat.add_mul,Nat.one_mul];omega
namespace Cx
variable {ts:TS} {sc:Sc} {b:List Bd} {N:Nat}
theorem N1(X:Cx ts sc b N):1<=N:=by have:=X.F.s1;have:=X.hS;omega
theorem N4(X:Cx ts sc b N):N<=4:=by have:=X.F.s4;have:=X.hS;omega
theorem bl(X:Cx ts sc b N):b.length<=6:=by rw[X.B.len];exact X.F.nf
theorem bts(X:Cx ts sc b N):∀ x,x∈b->x.up.ts.length<=1000/\x.lo.ts.length<=1000/\sorted x.up.ts/\sorted x.lo.ts:=fun x hx=>by
 obtain⟨i,g,rfl⟩:=Zu hx;have j:i<ts.sA.length:=by rw[<-X.B.len];exact g
 obtain⟨s1,l⟩:=X.B.so _ hx;have h:=qeX X.F X.h5 (qq j);have o:=YK l (X.B.full i g j);have p:=YK s1 (X.B.sub _ hx);exact⟨zOm,zOm,l,s1⟩
theorem okf(X:Cx ts sc b N):∀ x,x∈b->Qn x:=fun x hx=>by
 obtain⟨i,j,l,g⟩:=X.bts x hx;exact⟨zOm,zOm,g.imp fun h=>zOm⟩
theorem fl(X:Cx ts sc b N):(qN b 0).length<=100000:=by
 have:=k9 1000 b 0 fun x hx=>(X.bts x hx).1
 have:=X.bl;omega
end Cx
abbrev LL(ts:TS)(sc:Sc)(b:List Bd)(N:Nat):List Md:=Zj sc (vsT ts) b (chs (vsT ts) (qN b 0) N) N
namespace Cx
variable {ts:TS} {sc:Sc} {b:List Bd} {N:Nat}
theorem len(X:Cx ts sc b N):(LL ts sc b N).length<=10000:=by
 rw[qnE];have g:2 ^ (chs (vsT ts) (qN b 0) N).length<=2 ^ 9:=Nat.pow_le_pow_right zOm X.c9;have:=Nat.mul_le_mul X.N4 g;omega
theorem inst(X:Cx ts sc b N):qg qc 9 [eTS ts,eSc sc,lBd b] (.tup [lMd (LL ts sc b N),aI 0]):=by
 have g:2 ^ (chs (vsT ts) (qN b 0) N).length<=2 ^ 9:=Nat.pow_le_pow_right zOm X.c9;have i:=Nat.mul_le_mul X.N4 g;exact qnG ts sc b N X.hS X.N4 (zW1 X.bl) X.okf (fun x hx=>⟨zW1 ((X.bts x hx).2.1)⟩) (by rw[X.B.len];omega) X.fl (zW1 X.c9) zOm (KM ts sc X.F X.z) (qbE ts sc b X.F (qeK X.z) X.B)
theorem mdv(X:Cx ts sc b N){m}(h:m∈LL ts sc b N):MdV ts m:=by
 obtain⟨k,c,g,i,rfl⟩:=qa7.1 h;exact qsJ X.F X.z X.B X.hS g i
theorem sms(X:Cx ts sc b N){m}(h:Betw sc (vsT ts) b N m):SmS m.sK:=by
 have t:=X.N4;have l:=h.ns;have C:=X.bl;refine⟨zOm,fun s g=>by rw[h.len s g];omega,fun s g r o=>?_⟩;obtain⟨k,i,rfl⟩:=Zu g;obtain⟨f,hf,rfl⟩:=Zu o;have I:=h.len _ (qq i);obtain⟨J,j,P,p⟩:=h.rel k f i zOm hf;have:=YK j p;have:=(X.bts _ (qq (show f<b.length by omega))).1;exact⟨zOm,j⟩
theorem betw(X:Cx ts sc b N){m}(h:m∈LL ts sc b N):Betw sc (vsT ts) b N m:=qsP X.B X.N1 h
theorem holds(X:Cx ts sc b N){m}(h:m∈LL ts sc b N){n}(g:qH n=true):qg qc 11 [eTS ts,eMd m,eNd n] (.tup [aB (hV ⟨ts,m⟩ n).1,aI (hV ⟨ts,m⟩ n).2]):=
 qsB X.S X.hk (qsL X.S.h (X.mdv h)) (by rw[(X.betw h).ns];exact X.N1) g
end Cx
def MV(ts:TS)(sc:Sc)(b:List Bd)(N:Nat)(n:Nd):List Md×Int:=modV (fun m=>hV ⟨ts,m⟩ n) (LL ts sc b N) 0
namespace Cx
variable {ts:TS} {sc:Sc} {b:List Bd} {N:Nat}
theorem models(X:Cx ts sc b N){n}(g:qH n=true):qg qc 10 [eTS ts,eSc sc,lBd b,eNd n] (.tup [lMd (MV ts sc b N n).1,aI (MV ts sc b N n).2]):=
 qnH ts sc b n (LL ts sc b N) 0 _ (zW1 X.len) X.inst fun m i=>X.holds i g
theorem Jl{n}:(MV ts sc b N n).1.Sublist (LL ts sc b N):=qsO _ _
end Cx
end IK
namespace IL
open Y1 P1 Q4 E5 IA IC IK
variable {ts:TS} {sc:Sc} {b:List Bd} {N:Nat}
theorem Z1{n}(h:(MV ts sc b N n).2=0):(∀ m,m∈LL ts sc b N->(hV ⟨ts,m⟩ n).2=0)/\(MV ts sc b N n).1=(LL ts sc b N).filter fun m=>(hV ⟨ts,m⟩ n).1:=qeR h
theorem mv_of{n}(h:∀ m,m∈LL ts sc b N->(hV ⟨ts,m⟩ n).2=0):MV ts sc b N n=((LL ts sc b N).filter fun m=>(hV ⟨ts,m⟩ n).1,0):=qsM h
theorem qeY{J:Type}(p q t):∀(l:List J),(∀ x,x∈l->t x=(p x||q x)/\(p x&&q x)=false)->(l.filter p).length+(l.filter q).length=(l.filter t).length
 | [],_=>rfl
 |x :: l,h=>by
  have r:=qeY p q t l fun y g=>h y (zP1 g)
  obtain⟨i,j⟩:=h x zSp;cases hp:p x<;>cases o:q x<;>simp[hp,o,i]at j⊢<;>omega
theorem qeZ{J:Type}(p q r s):∀(l:List J),(∀ x,x∈l->r x=(p x&&q x)/\s x=(p x||q x))->(l.filter s).length+(l.filter r).length=(l.filter p).length+(l.filter q).length
 | [],_=>rfl
 |x :: l,h=>by
  have t:=qeZ p q r s l fun y g=>h y (zP1 g)
  obtain⟨i,j⟩:=h x zSp;cases hp:p x<;>cases o:q x<;>simp[hp,o,i,j]<;>omega
theorem qsV(X:Cx ts sc b N){n}(t:qH n=true)(C:qH (nk 40 [n])=true)(J:(MV ts sc b N n).2=0)(P:(MV ts sc b N (nk 40 [n])).2=0) :
  (MV ts sc b N (nk 30 [])).2=0/\(∀ y,y∈(MV ts sc b N n).1->¬y∈(MV ts sc b N (nk 40 [n])).1/\y∈(MV ts sc b N (nk 30 [])).1)/\(MV ts sc b N n).1.length+(MV ts sc b N (nk 40 [n])).1.length=(MV ts sc b N (nk 30 [])).1.length:=by
 obtain⟨R,T⟩:=Z1 J;obtain⟨U,e2⟩:=Z1 P;have SP:=X.S.sp X.hk;have key:∀ m,m∈LL ts sc b N->∃ r s,hV ⟨ts,m⟩ n=(r&&s,0)/\hV ⟨ts,m⟩ (nk 40 [n])=(r&&!s,0)/\hV ⟨ts,m⟩ (nk 30 [])=(r,0):=fun m g=>by
  obtain⟨r,s,f1,g1,v1⟩:=Jb (R m g);obtain⟨r2,s2,f2,i,v2⟩:=Jb (U m g);have I:s2=!s:=qqF (x:=⟨ts,m⟩) SP t C g1 i;subst I;exact⟨r,s,kz f1 g1,kz f1 i,by rw[kz f1 (qqD _),Bool.and_true]⟩
 have e3:=mv_of (n:=nk 30 []) (ts:=ts) (sc:=sc) (b:=b) (N:=N) fun m g=>by grind
 rw[T,e2,e3];refine⟨rfl,fun y j=>?_,qeY _ _ _ _ fun m g=>?_⟩
 .rw [jy]at j
  obtain⟨r,s,l,o,p⟩:=key y j.1
  grind
 .obtain ⟨r,s,l,o,p⟩:=key m g
  rw[l,o,p];cases r<;>cases s<;>exact⟨rfl,rfl⟩
theorem qsW(X:Cx ts sc b N){f g}(hf:qH f=true)(hg:qH g=true)(p:qH (nk 41 [f,g])=true)(t:qH (nk 42 [f,g])=true)
  (C:(MV ts sc b N f).2=0) (J:(MV ts sc b N g).2=0) (P:(MV ts sc b N (nk 41 [f,g])).2=0) (R:(MV ts sc b N (nk 42 [f,g])).2=0) :
  (MV ts sc b N (nk 41 [f,g])).1=(MV ts sc b N f).1.filter (fun m=>decide (m∈(MV ts sc b N g).1)) /\
  (MV ts sc b N (nk 42 [f,g])).1.length+(MV ts sc b N (nk 41 [f,g])).1.length=(MV ts sc b N f).1.length+(MV ts sc b N g).1.length:=by
 obtain⟨T,U⟩:=Z1 C;obtain⟨a2,e2⟩:=Z1 J;obtain⟨a3,e3⟩:=Z1 P;obtain⟨a4,e4⟩:=Z1 R;have l:=X.S.sp X.hk;have key:∀ m,m∈LL ts sc b N->(hV ⟨ts,m⟩ (nk 41 [f,g])).1=((hV ⟨ts,m⟩ f).1&&(hV ⟨ts,m⟩ g).1)/\(hV ⟨ts,m⟩ (nk 42 [f,g])).1=((hV ⟨ts,m⟩ f).1||(hV ⟨ts,m⟩ g).1):=fun m i=>by
  obtain⟨r,s,f1,g1,v1⟩:=Jb (T m i);obtain⟨r2,j,f2,o,v2⟩:=Jb (a2 m i);obtain⟨r3,s3,f3,g3,v3⟩:=Jb (a3 m i);obtain⟨r4,s4,f4,g4,v4⟩:=Jb (a4 m i);rw[f1]at f2 f3 f4;cases f2;cases f3;cases f4;have I:s3=(s&&j):=qqG (x:=⟨ts,m⟩) l hf hg p g1 o g3;have et:s4=(s||j):=gX_or (x:=⟨ts,m⟩) l hf hg t g1 o g4;rw[v1,v2,v3,v4,I,et];cases r<;>cases s<;>cases j<;>exact⟨rfl,rfl⟩
 rw[U,e2,e3,e4];refine⟨?_,qeZ _ _ _ _ _ fun m i=>key m i⟩;rw[List.filter_filter];refine List.filter_congr fun m i=>?_
 rw[(key m i).1,Bool.and_comm];congr 1;simp[jy,i]
end IL
namespace I1
open YF P1 EO EP EQ F4 GF GR GS GU
theorem qsX(l x)(J:l.length<=1000000000):qg qc 111 [lI l,aI x] (aB (decide (x∈l))):=by
 refine qSU call111 func111 rfl ?_;refine qj.up l.length (fun k U=>U.tm 0=lI l/\U.tm 1=aI x/\U.tm 5=aI k/\U.mu=[]/\∀(i:Nat)(h:i<l.length),i<k->l[i]≠x) ?_ ?_
 .simp [go_sem]
 rintro k U P ⟨j,o,p,r,C⟩;by_cases g:k<l.length
 .by_cases hx:l[k]=x
  .simp [go_sem,j,o,p,r,g,hx]
   rw[decide_eq_true (by grind)];exact .zsc _
  .simp [go_sem,j,o,p,r,g,hx]
   refine⟨zWr,fun i h I=>?_⟩;rcases Nat.lt_succ_iff_lt_or_eq.1 I with t|t
   .exact C i h t
   grind
 .simp [go_sem,j,o,p,r,g]
  rw[decide_eq_false (fun h=>by
   grind [wN])]
  exact .zsc _
def wL(k:Nat)(x:Bd)(j:Nat):List (Int×Int):=((x.up.ts.take j).filter fun t=>!decide (t∈x.lo.ts)).map fun t=>((k:Int),t)
theorem qsY(k x j h):wL k x (j+1)=wL k x j++(if x.up.ts[j]∈x.lo.ts then [] else [((k:Int),x.up.ts[j])]):=by
 unfold wL;rw[yz h,List.filter_append,zh];by_cases g:x.up.ts[j]∈x.lo.ts<;>simp[g]
theorem qsZ(k x j):(wL k x j).length<=x.up.ts.length:=by
 grind [wL,zW,zG,List.length_filter_le,List.length_take_le']
theorem qs0(i)(hl:i.length<=1000)(hb:∀ x,x∈i->Qn x):qg qc 60 [lBd i] (lP (qN i 0)):=by
 refine qSU call60 func60 rfl ?_;refine aA i.length (fun k U=>U.tm 0=lBd i/\U.tm 4=aI k/\Own U.mu 2 (U.tm 3) ((qN (i.take k) 0).map rP)) ?_ ?_
 .exact ⟨zSi,zSi,.inl (by simp[go_sem,qN])⟩
 rintro k U hk ⟨o,C,I⟩;by_cases l:k<i.length
 .have w1:=zWk k
  have hx:=hb _ (qq l);have a1:=hx.up;have a2:=hx.lo;have a0:=J9 (i.take k) 0 fun y hy=>hb y (List.mem_of_mem_take hy)
  have a3:(qN (i.take k) 0).length<=1000000000:=by
   grind
  have J:=qaW i k l;have P:wL k i[k] i[k].up.ts.length=jj k i[k]:=by unfold wL;rw[qR];rfl
  simp[go_sem,o,C,l];refine aA i[k].up.ts.length (fun j st2=>st2.tm 0=lBd i/\st2.tm 4=aI k/\st2.tm 5=aI j/\Own st2.mu 2 (st2.tm 3) ((qN (i.take k) 0++wL k i[k] j).map rP)) ?_ ?_
  .simp_all [go_sem,wL]
  clear o C I;rintro j st2 hj ⟨o,C,T,I⟩;by_cases t:j<i[k].up.ts.length
  .have w2:=zWk j
   have hh:=qsX i[k].lo.ts i[k].up.ts[j] zOm;have hs:=qsY k i[k] j t;have a4:=qsZ k i[k] j;simp[go_sem,o,C,T,l,t];refine cL zKr ?_;simp[go_sem,o,C,T,l,t];refine pL hh (.zk (zo _) (.zs .nil)) ?_;by_cases hm:i[k].up.ts[j]∈i[k].lo.ts
   .simp_all [go_sem,if_pos,zF,aC]
   .rw [if_neg hm]at hs
    simp[go_sem,hm,o,C,T,l,t];refine qw.ownB (e:=113) (sz:=2) (bt:=16) (zv := .agg [aI 0,aI 0]) (xs:=(qN (i.take k) 0++wL k i[k] j).map rP) (ys:=[rP ((k:Int),i[k].up.ts[j])]) zSi zSi zSi rfl rfl zOm zOm I (by simp[qC]) (J8 _) (J8 [_]) zSo ?_;simp_all[go_sem,aC,zJ,zh]
  .have R:j=i[k].up.ts.length:=by omega
   subst R;rw[P,<-J]at I;simp[go_sem,o,C,T,l,w1]
   try refine⟨l,aC ?_⟩
   try refine aC ?_
   exact⟨zS1 o,zSi,zVs I⟩
 .have R:k=i.length:=by omega
  subst R;rw[qR]at I;simp[go_sem,o,C];exact cN I
theorem qs1(ts)(sc:Sc)(P)(N:Nat)(hS:sc.sN=N)(hN:N<=4)(hl:P.length<=1000)(hb:∀ x,x∈P->Qn x)(ab:P.length<=ts.sA.length)(a7:(qN P 0).length<=100000) :
  qg qc 27 [eTS ts,eSc sc,lBd P] (lCh (chs (vsT ts) (qN P 0) N)):=by
 have a1:=qs0 P hl hb;have a3:=UU P 0;generalize hF:qN P 0=F at *
 refine qSU call27 func27 rfl ?_;refine fR a1 (.zk (yH _) .nil) ?_;refine aA N (fun k U=>U.tm 3 = .ip (cTS ts)/\U.tm 4 = .ip [lI sc.sC,aI sc.sN]/\U.tm 8=lP F/\U.tm 9=aI k/\Own U.mu 3 (U.tm 7) ((chs (vsT ts) F k).map rC)) ?_ ?_
 .exact ⟨zSi,zSi,zSi,zSi,.inl (by simp[go_sem,chs])⟩
 rintro k U hk ⟨e3,e4,I,J,ho⟩;by_cases a4:k<N
 .have w1:=zWk k
  have n4:(k:Int)<4:=zOm;have ad:=KL (vsT ts) F k;have a9:k*F.length<=4*100000:=Nat.mul_le_mul zOm a7;simp[go_sem,e4,I,J,hS,a4,n4];refine aA F.length (fun j st2=>st2.tm 3 = .ip (cTS ts)/\st2.tm 4 = .ip [lI sc.sC,aI sc.sN]/\st2.tm 8=lP F/\st2.tm 9=aI k/\st2.tm 10=aI j/\Own st2.mu 3 (st2.tm 7) ((chs (vsT ts) F k++chA (vsT ts) k (F.take j)).map rC)) ?_ ?_
  .simp_all [go_sem,chA]
  clear e3 e4 I J ho;rintro j st2 hj ⟨e3,e4,I,J,o,R⟩;by_cases i:j<F.length
  .have w2:=zWk j
   have hm:=a3 _ (qq i);obtain⟨f,hf⟩:=Int.eq_ofNat_of_zero_le (show 0<=F[j].1 by omega);have t:f<ts.sA.length:=zOm;have T:0<=F[j].1:=zOm;have a0:F[j].1.toNat=f:=zOm;have C:F[j].1<ts.sA.length:=zOm;have a8:(vsT ts).getD F[j].1.toNat true=ts.sA[f].var:=by grind
   have ae:=KJ (vsT ts) k (F.take j);have af:=List.length_take_le j F;have hs:=qaZ (vsT ts) k F j i;rw[a8]at hs;have aa:∀(K:AV->Mu->Prop),(∀ a5 a6,Own a6 3 a5 ((chs (vsT ts) F k++(chA (vsT ts) k (F.take j)++[((k:Int),F[j].1,F[j].2)])).map rC)->K a5 a6)->qw qc st2.mu #[80,80] (st2.tm 7) (.lst true [[aI k,aI F[j].1,aI F[j].2]]) K:=fun K hK=>by
    refine qw.ownB (e:=127) (sz:=3) (bt:=24) (zv := .agg [aI 0,aI 0,aI 0]) (xs:=(chs (vsT ts) F k++chA (vsT ts) k (F.take j)).map rC) (ys:=[rC ((k:Int),F[j].1,F[j].2)]) zSi zSi zSi rfl rfl zOm zOm R (by simp[qC]) (YI _) (YI [_]) zSo ?_
    grind
   by_cases hc:(decide (k=0)||ts.sA[f].var)=true
   .rw [if_pos hc]at hs
    by_cases l:k=0
    .subst l
     simp[go_sem,I,J,o,i];refine cL zKr ?_;simp[go_sem,I,J,o,i];refine cL zKr ?_;simp_all[go_sem,aC]
    .have hv:ts.sA[f].var=true:=by simpa[l] using hc
     simp[go_sem,e3,I,J,o,i,l,T,a0,C,t,hv];refine cL zKr ?_;simp[go_sem,e3,I,J,o,i,l,T,a0,C,t,hv];refine cL zKr ?_;simp_all[go_sem,aC]
   .rw [if_neg hc,zF]at hs
    have l:¬k=0:=fun h=>hc (zP1 h)
    have hv:ts.sA[f].var=false:=by simpa[l] using hc
    simp[go_sem,e3,I,J,o,i,l,T,a0,C,t,hv,w2];refine cL zKr ?_;simp[go_sem,e3,I,J,o,i,l,T,a0,C,t,hv,w2]
    try refine⟨i,aC ?_⟩
    try refine aC ?_
    refine⟨zS1 e3,zS1 e4,zS1 I,zS1 J,zSi,?_⟩;rw[hs];simpa[go_sem] using R
  .have a2:j=F.length:=by omega
   subst a2;rw[qR]at R;simp[go_sem,I,J,o,w1]
   try refine⟨a4,aC ?_⟩
   try refine aC ?_
   refine⟨zS1 e3,zS1 e4,zS1 I,zSi,?_⟩;rw[KI];simpa[go_sem] using R
 .have a2:k=N:=by omega
  subst a2;simp[go_sem,e4,J,hS];exact Own.rd ho (YI _).ok fun r hr c hc=>by
   obtain⟨n,_,rfl⟩:=qk.1 hr;simp at hc;rcases hc with rfl|rfl|rfl<;>exact HF.sc _
end I1
end Go.Proofs.YtfednihcpihlgaaGreatDoor
namespace Go.Ev
open Go Go.RowKit
section
variable {β:Type}
end
end Go.Ev
namespace Go.Proofs.YtfednihcpihlgaaGreatDoor
open Go Go.Ev Go.Proofs Tryz
namespace JB
end JB
namespace JC
end JC
namespace JE
end JE
namespace JF
end JF
namespace JG
end JG
namespace W41
open Y1 YF P1 GS
abbrev u8(x:Int):AV := .sc (.int .u8 x)
abbrev lRaw(r:List (List Int)):AV := .lst false (r.map fun l=>[.lst false (l.map fun x=>[u8 x])])
abbrev jn(ts:TS)(sc:Sc)(raw:List (List Int))(n:Nd)(g:List (List Bool))(lp:Int):List AV:=cTS ts++([lI sc.sC,aI sc.sN,lRaw raw]++(cNd n++[lBB g,u8 lp]))
end W41
end Go.Proofs.YtfednihcpihlgaaGreatDoor
