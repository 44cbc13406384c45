/-
  Own library, part 8: an abstract reading of values and a calculus over it; contracts of functions; plain lemmas.
-/
import Derived.Test.YtipbakanneogpaaGreatDoorMg
set_option linter.unusedVariables false
set_option linter.unusedSimpArgs false
set_option maxRecDepth 100000
open Go renaming Program->qb
open Go.Proofs.Tryz renaming prog->qe
open List renaming getElem?_eq_some_iff->qk,mem_map->qn,getElem_mem->qs,range->qu,mem_cons->qy,getElem?_eq_getElem->qA,not_mem_nil->qH,mem_append->qK,getElem?_set_self->qM,getElem?_append_left->qN,take_length->qP,mem_singleton->qV,length_append->za,mem_cons_of_mem->zc,mem_cons_self->zl,drop_eq_getElem_cons->zp,append_assoc->zt,length_cons->zu,all_eq_true->zA,length_map->zF,getD_eq_getElem?_getD->zG,getElem?_append_right->zJ,append_nil->zO,map_cons->zQ,take_of_length_le->zV,drop_length->zZ,mem_range->yb,cons_append->yT,mem_filter->jM,nil_append->vo,take_append_drop->vF,take_succ_eq_append_getElem->vO,getElem?_cons_succ->vP,foldl_append->vQ,getElem_of_mem->uf,getElem?_eq_none->uz,flatMap_cons->wP,mem_flatMap->wQ,mem_iff_getElem->Qu,getElem_map->Zv,drop_eq_nil_of_le->Ww
open Go.IntKind renaming i64->qp
open Nat renaming le_refl->qr,le_trans->zL
open Option.some renaming injEq->qv
open Bool renaming and_eq_true->qI
open Int renaming mul_le_mul->jE,le_refl->vh
open Prod.mk renaming injEq->uB
open List.cons renaming injEq->Zy
namespace Go.Proofs.YtipbakanneogpaaGreatDoor
open Go Go.Ev Go.Proofs Tryz
namespace QO
open YF Y9 Y10 Y1 Y2 Y3 Y12 Y13 P1 P2 QD QE QF QH QI QJ QL QN PG PC
section
variable {nm:tA}{ts:TS}
theorem qdZ{n L S g b}(e:eRS S=eRS g)(h:prC ts n L S b):prC ts n L g b:=by
 grind [prC]
theorem qq6{n a b}(j:n.op=6\/n.op=14\/n.op=7\/n.op=8\/n.op=32\/n.op=33):∃ S,prC ts n [qt a,qt b] S (decide (a.ar=b.ar))/\(a.ar=b.ar->kd n.op=101->S=qt (ul n.op a b)):=by
 have l:∀ op:Int,op=6\/op=14->ul op a b=kSum a b:=fun op h=>by unfold ul;rw[if_pos h]
 by_cases g:a.ar=b.ar
 .rcases j with h|h|h|h|h|h
  .exact ⟨_,ap6 ts n _ _ _ h (by have:=vB (qt a) (qt b);rw[Vq g]at this;exact this),fun _ _=>by grind⟩
  .exact ⟨_,ap14 ts n _ _ _ h (by have:=vB (qt a) (qt b);rw[Vq g]at this;exact this),fun _ _=>by grind⟩
  .exact ⟨_,ap7 ts n _ _ _ h (by have:=Uz (qt a) (qt b);rw[qqL g]at this;exact this),fun _ _=>by rw[h];rfl⟩
  .exact ⟨_,ap8 ts n _ _ h,fun _ _=>by rw[h];rfl⟩
  .exact ⟨_,ap32 ts n _ _ h,fun _ i=>by rw[h]at i;exact absurd i zDe⟩
  .exact ⟨_,ap33 ts n _ _ h,fun _ i=>by rw[h]at i;exact absurd i zDe⟩
 .rcases j with h|h|h|h|h|h
  .exact ⟨_,ap6 ts n _ _ _ h (vB (qt a) (qt b)),fun e=>absurd e g⟩
  .exact ⟨_,ap14 ts n _ _ _ h (vB (qt a) (qt b)),fun e=>absurd e g⟩
  .exact ⟨_,ap7 ts n _ _ _ h (Uz (qt a) (qt b)),fun e=>absurd e g⟩
  .exact ⟨_,ap8 ts n _ _ h,fun e=>absurd e g⟩
  .exact ⟨_,ap32 ts n _ _ h,fun e=>absurd e g⟩
  .exact ⟨_,ap33 ts n _ _ h,fun e=>absurd e g⟩
theorem qq7(ok:okTS ts){n a}(l:okKd ts.sS.length a)(o:n.op=11\/n.op=12\/n.op=13):∃ S,prC ts n [qt a] S (decide (a.ar=2))/\(a.ar=2->S=qt (binK ts.sS.length n.op a)):=by
 have i:=ok.ns;by_cases g:a.ar=2
 .have p:=Ul l g i
  rcases o with h|h|h
  .exact ⟨_,ap11 ts n _ _ h (by have:=qdJ (qt a);rw[qqR l i g]at this;exact this),fun _=>by rw[h];rfl⟩
  .exact ⟨_,ap12 ts n _ _ h p,fun _=>by rw[h];rfl⟩
  .refine ⟨_,ap13 ts ok n _ _ (qt (kSum (kClo a) (zB ts.sS.length 2))) h p ?_,fun _=>by rw[h];rfl⟩
   have:=vB (qt (kClo a)) (qt (zB ts.sS.length 2));rw[Vq (show (kClo a).ar=2 from (UI l g).2)]at this;exact this
 .have j:=l.ar
  rcases o with h|h|h
  .exact ⟨_,ap11 ts n _ _ h (qdJ (qt a)),fun e=>absurd e g⟩
  .exact ⟨_,ap12 ts n _ _ h (qdY (qt a) j),fun e=>absurd e g⟩
  .exact ⟨_,ap13 ts ok n _ _ _ h (qdY (qt a) j) (vB _ _),fun e=>absurd e g⟩
theorem qq8(ts)(ok:okTS ts)(n l L)(e1:n.op≠1)(a0:n.op≠15)
  (h1:n.op=5\/n.op=11\/n.op=12\/n.op=13->∃ a,l=[some a]/\L=[qt a]/\okKd ts.sS.length a)
  (h2:n.op=6\/n.op=14\/n.op=7\/n.op=8\/n.op=32\/n.op=33\/n.op=9\/n.op=10->∃ a b,l=[some a,some b]/\L=[qt a,qt b]/\okKd ts.sS.length a/\okKd ts.sS.length b) :
  ∃ S b,prC ts n L S b/\ApE n.op (yh ts.sS.length n.op n.n n.pos l) S b:=by
 have t:=ok.ns;by_cases j:n.op=2
 .refine ⟨qt ⟨n.n,[]⟩,true,qdZ (qdW n.n) (ap2 ts n L j),?_⟩
  unfold yh;rw[if_pos j];exact⟨rfl,fun _=>⟨_,rfl,rfl⟩⟩
 by_cases o:n.op=3
 .refine ⟨_,true,ap3 ts ok n L o,?_⟩
  unfold yh;rw[if_neg j,if_pos o];exact⟨rfl,fun _=>⟨_,rfl,rfl⟩⟩
 by_cases r:n.op=4
 .refine ⟨_,true,ap4 ts ok n L r,?_⟩
  unfold yh;rw[if_neg j,if_neg o,if_pos r];exact⟨rfl,fun _=>⟨_,rfl,rfl⟩⟩
 by_cases g1:n.op=5\/n.op=11\/n.op=12\/n.op=13
 .obtain ⟨a,rfl,rfl,C⟩:=h1 g1
  rw[apK1,if_neg j,if_neg o,if_neg r];by_cases J:n.op=5
  .rw [if_pos J]
   exact⟨_,true,ap5 ts n _ J,rfl,fun _=>⟨_,rfl,rfl⟩⟩
  have g:n.op=11\/n.op=12\/n.op=13:=zOm;rw[if_neg J,if_pos g];obtain⟨S,P,R⟩:=qq7 ok C g;refine⟨S,_,P,?_⟩;by_cases i:a.ar=2
  .rw [if_pos i]
   exact⟨decide_eq_true i,fun _=>⟨_,rfl,R i⟩⟩
  .rw [if_neg i]
   exact decide_eq_false i
 by_cases g2:n.op=6\/n.op=14\/n.op=7\/n.op=8\/n.op=32\/n.op=33\/n.op=9\/n.op=10
 .obtain ⟨a,b,rfl,rfl,C,T⟩:=h2 g2
  have ra:=C.ar;have rb:=T.ar;rw[apK2,if_neg j,if_neg o,if_neg r];by_cases U:n.op=6\/n.op=14\/n.op=7\/n.op=8\/n.op=32\/n.op=33
  .rw [if_pos U]
   obtain⟨S,P,R⟩:=qq6 (ts:=ts) (n:=n) (a:=a) (b:=b) U;refine⟨S,_,P,?_⟩;by_cases i:a.ar=b.ar
   .rw [if_pos i]
    exact⟨decide_eq_true i,fun hk=>⟨_,rfl,R i hk⟩⟩
   .rw [if_neg i]
    exact decide_eq_false i
  rw[if_neg U];by_cases I:n.op=9
  .rw [if_pos I]
   by_cases i:1<=a.ar+b.ar-2/\a.ar+b.ar-2<=3
   .rw [if_pos i]
    refine⟨_,_,ap9 ts n _ _ (qt (zT a b)) I (by show 0<=a.ar/\a.ar<=1000;omega) (by show 0<=b.ar/\b.ar<=1000;omega) ?_,decide_eq_true i,fun _=>⟨_,rfl,rfl⟩⟩;rw[<-qdO C T t i];exact wm _ _ (by show 0<=a.ar/\a.ar<=1000;omega) (by show 1<=b.ar/\b.ar<=1000;omega)
   .rw [if_neg i]
    exact⟨_,_,ap9 ts n _ _ _ I (by show 0<=a.ar/\a.ar<=1000;omega) (by show 0<=b.ar/\b.ar<=1000;omega) (wm _ _ (by show 0<=a.ar/\a.ar<=1000;omega) (by show 1<=b.ar/\b.ar<=1000;omega)),decide_eq_false i⟩
  have p:n.op=10:=zOm;rw[if_neg I,if_pos p];by_cases i:a.ar+b.ar<=3
  .rw [if_pos i]
   refine⟨_,_,ap10 ts n _ _ (qt (uM a b)) p (by show 0<=a.ar/\a.ar<=1000;omega) (by show 0<=b.ar/\b.ar<=1000;omega) ?_,decide_eq_true i,fun _=>⟨_,rfl,rfl⟩⟩;rw[<-qqM C T t i];exact qdK _ _ (by show 0<=a.ar/\a.ar<=1000;omega) (by show 0<=b.ar/\b.ar<=1000;omega)
  .rw [if_neg i]
   exact⟨_,_,ap10 ts n _ _ _ p (by show 0<=a.ar/\a.ar<=1000;omega) (by show 0<=b.ar/\b.ar<=1000;omega) (qdK _ _ (by show 0<=a.ar/\a.ar<=1000;omega) (by show 0<=b.ar/\b.ar<=1000;omega)),decide_eq_false i⟩
 refine⟨zR,true,apO ts n L j o r zOm zOm zOm zOm zOm zOm zOm zOm zOm zOm zOm zOm,?_⟩;rw[UH j o r zOm zOm zOm zOm zOm zOm zOm zOm zOm zOm zOm zOm];refine⟨rfl,fun hk=>?_⟩;have:=UJ hk;omega
theorem qq9{ns}(o:ns<=4){q}(h:okKd ns q)(l:q.ar=1)(i):uN i q=true↔∀ k,k<4->(qt q).2 k=true->(k:Int)=i:=by
 unfold uN;rw[zA];constructor
 .intro p k J r
  rw[yY,l]at r;have:=p _ r.2;simpa[dig,pad] using this
 .intro p t C
  obtain⟨j,I,e⟩:=Jf h o C;rw[l]at I e;have g:j<4:=I;have:=p j g ((yY q j).2 ⟨by rw[l];exact g,by rw[l,<-e];exact C⟩);rw[e];simp[dig,pad,this]
def ExR(c:Ck)(s:Scp)(inn:Bool)(n:Nd):Prop:=∃ S:RS,qi qe 92 [eVw c inn,lVr (envS s),eNd n] (.tup [eRS S,eDg (dgOf (exam c s inn n))])/\(kd n.op=101->∀ q,exam c s inn n = .ok (some q)->S=qt q)
theorem qd0(c inn):HF (eVw c inn):=HF.agg fun x g=>by
 simp only[qy,qH,or_false]at g;rcases g with rfl|rfl|rfl|rfl|rfl|rfl|rfl
 .exact Up _
 .exact JQ _
 .exact Zg _
 .exact Uo _
 .exact Vw _
 .exact HF.sc _
 .exact HF.sc _
theorem wkE(c inn l n):WKs [eVw c inn,lVr l,eNd n] [eVw c inn,lVr l,eNd n] := .zk (qd0 c inn) (.zk (qq1 _) (.zk (qL n) .nil))
theorem wH(d):HF (eDg d):=HF.agg fun x g=>by
 simp only[qy,qH,or_false]at g;rcases g with rfl|rfl<;>exact HF.sc _
theorem qd1{c p}(i:okCk c)(h:zw c nm=some p):(c.ts.sT.any fun p=>decide (p.name=nm))=true:=by
 obtain⟨_,j⟩:=Zi i h;unfold zw at h;rw[List.findIdx?_eq_some_iff_getElem]at h;obtain⟨l,g,_⟩:=h;simp only[List.getElem_take]at g;exact List.any_eq_true.2 ⟨_,qs j,g⟩
theorem qrA(h:zw (mkCk ts ts.sT.length) nm=none):(ts.sT.any fun p=>decide (p.name=nm))=false:=by
 unfold zw at h;rw[List.findIdx?_eq_none_iff]at h;rw[List.any_eq_false];intro p g;have:p∈ts.sT.take ts.sT.length:=by rw[qP];exact g
 have:=h p this
 grind
theorem kh{n}(i:WfN n)(h:n.op=47):∀ k,k∈n.sD->kd k.op=101:=by
 have g:=i.shape;have e:shp n.op n.sD.length=some (List.replicate (min n.sD.length 401) 101):=by
  unfold shp;rw[zIn,zIn,zIn,zIn,zIn,zIn,zIn,if_pos h]
 rw[e]at g;simp only[qv]at g;intro k j;have:kd k.op∈n.sD.map fun k=>kd k.op:=qn.2 ⟨k,j,rfl⟩
 grind
theorem qrB(c)(hc:okCk c)(s)(hs:ScOk c.ts.sS.length s)(n)(hw:WfN n)(b1:n.op=47)(ih:∀ k,k∈n.sD->ExR c s true k)(inn) :
  qi qe 145 [eVw c inn,lVr (envS s),eNd n] (eDg (dgOf (uR c s n))):=by
 generalize hR:uR c s n=R;unfold uR at hR;refine qSQ call145 func145 rfl { mt:=[3] } ?_;have be:=hc.ts.np;have bg:=hw.len;have b2:=Vv c hc n.name;have b3:=Vv (mkCk c.ts c.ts.sT.length) (uQ hc.ts (qr _)) n.name;have ao:∀ k:Int,WKs [eTS c.ts,aI k,aS n.name] [eTS c.ts,aI k,aS n.name]:=fun k => .zk (zn _) (.zs (.zs .nil))
 simp[go_sem];refine cQ b2 (ao _) ?_;cases T:zw c n.name with
 |none =>
  rw[T]at hR;simp[go_sem,idxO];refine cQ b3 (ao _) ?_;cases a3:zw (mkCk c.ts c.ts.sT.length) n.name with
  |none =>
   rw[qrA a3]at hR;subst hR;simp[go_sem,idxO,dgOf];exact .hf _ (wH (40,n.pos))
  |some p =>
   have ha:(c.ts.sT.any fun p=>decide (p.name=n.name))=true:=qd1 (c:=mkCk c.ts c.ts.sT.length) (uQ hc.ts (qr _)) a3;rw[ha]at hR;subst hR;have ab:¬(p:Int)<0:=zOm;simp[go_sem,idxO,dgOf,ab];exact .hf _ (wH (45,n.pos))
 |some p =>
  obtain⟨_,ad⟩:=Zi hc T;rw[qd1 hc T,if_pos rfl,T]at hR;simp only[qA ad]at hR;have ab:¬(p:Int)<0:=zOm;have bh:=hc.ts.pl _ (qs ad);simp[go_sem,idxO,ad,ab];generalize bi:c.ts.sT[p]=C at *
  by_cases a1:C.params.length=n.sD.length
  .rw [if_pos a1]at hR
   simp[go_sem,a1];have b4:=kh hw b1;refine kL C.params.length (fun k U=>U.tm 1=lVr (envS s)/\U.tm 3 = .ptr 0 0/\U.tm 5 = .ip (cNd n)/\U.tm 6 = .ptr 1 0/\U.tm 8=lPm C.params/\U.tm 9=aI k/\U.mu[0]?=some (.arr (cVw c true))/\U.mu[1]?=some (.arr [aI 0,aI 0])/\ye c s n.pos (C.params.drop k) (n.sD.drop k)=R) ?_ ?_
   .simp [go_sem, *]
   rintro k U hk ⟨e1,e3,e5,e6,e8,e9,m0,m1,t⟩;have a8:1<U.mu.length:=(qk.1 m1).1;have I:∀(l:List Cell)(i:Nat),i<U.mu.length->(U.mu++l)[i]?=U.mu[i]?:=fun l i hi=>qN hi
   have a0:∀ c,(U.mu.set 1 c)[1]?=some c:=fun c=>qM a8
   have ae:∀ c (l:List Cell),((U.mu++l).set 1 c)[1]?=some c:=fun c l=>qM zSo
   have af:∀(l:List Cell)(h:0<(U.mu++l).length),(U.mu++l)[0] = .arr (cVw c true):=fun l h=>by
    grind
   have ag:∀(l:List Cell)(h:1<(U.mu++l).length),(U.mu++l)[1] = .arr [aI 0,aI 0]:=fun l h=>by
    grind
   by_cases aq:k=C.params.length
   .subst aq
    rw[zZ,a1,zZ]at t;simp only[ye]at t;subst t;simp[go_sem,e6,e8,e9,m1,a1,dgOf,a0];exact .hf _ (wH (0,0))
   have o:k<C.params.length:=zOm;have r:k<n.sD.length:=zOm;have w1:=zWk k;obtain⟨S,hi,hS⟩:=ih n.sD[k] (qs r);rw[zp o,zp r]at t;simp only[ye]at t;have b5:=uo hc (szN n.sD[k]) n.sD[k] s true;have au:=b4 n.sD[k] (qs r);have av:=hw.kid (qs r);simp[go_sem,e8,e9,o];refine fD [0,1,2,3,4,5,6,7,8,9,10,11,12,13,14] [(0,0,[]),(1,0,[]),(2,0,[]),(3,0,[]),(4,0,[]),(5,0,[]),(6,0,[]),(7,1,[]),(8,0,[]),(9,0,[]),(10,0,[]),(11,2,[0,3,6]),(12,2,[0,3,6]),(13,1,[]),(14,1,[])] zKr zKr zSi ?_;simp[go_sem,e1,e3,e5,e9,m0,r];refine cQ hi (wkE c true _ _) ?_;cases hx:exam c s true n.sD[k] with
   |error e =>
    rw[hx]at t;subst t;have he:=Vm c (szN n.sD[k]) n.sD[k] s true e (qr _) hx;have b6:¬e.1=0:=zOm;simp[go_sem,e3,qw,af,dgOf];rw[if_pos (zg _)];generalize hP:putCells _ 0 (aI S.1 :: hB S.2)=P;have ah:P=aI S.1 :: hB S.2:=by rw[<-hP];exact pc (aI 0) _ (fun _=>false) _
    subst ah;clear hP;simp[go_sem,e6,b6];simp[go_sem,ag,e6];exact .hf _ (wH e)
   |ok ko =>
    obtain⟨q,rfl,hq⟩:=b5 ko (qr _) av hs hx au;have b7:=hS au q hx;subst b7;rw[hx]at t;simp only at t;have b8:=hc.ts.ns;have aw:(qt q).1=q.ar:=rfl;have ax:=fun h=>qq9 b8 hq h C.params[k].2
    generalize qt q=Q at *
    simp[go_sem,e3,qw,af,dgOf];rw[if_pos (zg _)];generalize hP:putCells _ 0 (aI Q.1 :: hB Q.2)=P;have ah:P=aI Q.1 :: hB Q.2:=by rw[<-hP];exact pc (aI 0) _ (fun _=>false) _
    subst ah;clear hP;by_cases a2:q.ar=1
    .rw [if_pos a2]at t
     have a4:Q.1=1:=aw.trans a2;simp[go_sem,qw,a4];have bc:C.params[k].2<4/\0<=C.params[k].2:=by grind
     refine kL 4 (fun j g=>∃ b,2<=b/\g.tm 10 = .ptr b 0/\g.mu[b]?=some (.arr (aI 1 :: hB Q.2))/\g.tm 1=lVr (envS s)/\g.tm 3 = .ptr 0 0/\g.tm 5 = .ip (cNd n)/\g.tm 6 = .ptr 1 0/\g.tm 8=lPm C.params/\g.tm 9=aI k/\g.tm 12=aI j/\g.mu[0]?=some (.arr (cVw c true))/\g.mu[1]?=some (.arr [aI 0,aI 0]) /\
      ∀ i:Nat,i<j->Q.2 i=true->(i:Int)=C.params[k].2) ?_ ?_
     .exact ⟨U.mu.length,zOm,zSi,zSi,zS1 e1,zS1 e3,zS1 e5,zS1 e6,zS1 e8,zS1 e9,zSi,by simp only[qC];rw[I _ _ zOm];exact m0,by simp only[qC];rw[I _ _ zOm];exact m1,fun i hi=>zOm⟩
     .clear e1 e3 e5 e6 e8 e9 m0 m1 I a0 ae af ag a8
      rintro j st2 hj ⟨b,hb,a5,mb,e1,e3,e5,e6,e8,e9,a9,m0,m1,a6⟩;have a8:1<st2.mu.length:=(qk.1 m1).1;have a0:∀ c,(st2.mu.set 1 c)[1]?=some c:=fun c=>qM a8
      by_cases ai:j<4
      .have aj:(j:Int)<4:=by omega
       have ay:j<64:=zOm;have J:(j:Int)<64:=zOm;have wj:=zWk j;have a7:=d1 (aI 1) Q.2 j ay;have ak:1+j<=64:=zOm;by_cases hQ:Q.2 j=true
       .rw [hQ]at a7
        by_cases aa:(j:Int)=C.params[k].2
        .have b9:=eq_true aa
         simp[go_sem,a5,mb,e8,e9,a9,aj,J,a7,ak,qw,o,b9,wj];refine⟨ai,aK ⟨b,hb,zS1 a5,zS1 mb,zS1 e1,zS1 e3,zS1 e5,zS1 e6,zS1 e8,zS1 e9,zSi,zS1 m0,zS1 m1,fun i hi h=>?_⟩⟩;by_cases al:i=j
         .subst al;exact aa
         .exact a6 i zOm h
        .have az:¬uN C.params[k].2 q=true:=fun h=>aa ((ax a2).1 h j ai hQ)
         rw[if_neg az]at t;subst t;simp[go_sem,a5,mb,e5,e6,e8,e9,a9,aj,J,a7,ak,qw,o,aa,m1,a0];exact .hf _ (wH (43,n.pos))
       .have hQ:Q.2 j=false:=by simpa using hQ
        rw[hQ]at a7;simp[go_sem,a5,mb,a9,aj,J,a7,ak,qw,wj];refine⟨ai,aK ⟨b,hb,zS1 a5,zS1 mb,zS1 e1,zS1 e3,zS1 e5,zS1 e6,zS1 e8,zS1 e9,zSi,zS1 m0,zS1 m1,fun i hi h=>?_⟩⟩;by_cases al:i=j
        .subst al;rw[hQ]at h;cases h
        .exact a6 i zOm h
      .have bb:j=4:=by omega
       subst bb;have an:uN C.params[k].2 q=true:=(ax a2).2 fun i hi h=>a6 i hi h
       rw[if_pos an]at t;simp[go_sem,e9,a9,w1];exact⟨o,aK ⟨zS1 e1,zS1 e3,zS1 e5,zS1 e6,zS1 e8,zSi,zS1 m0,zS1 m1,t⟩⟩
    .rw [if_neg a2]at t
     subst t;have a4:¬Q.1=1:=fun e=>a2 (aw.symm.trans e)
     simp[go_sem,e5,qw,a4,ag,e6];exact .hf _ (wH (42,n.pos))
  .rw [if_neg a1]at hR
   subst hR;have b0:¬n.sD.length=C.params.length:=fun e=>a1 e.symm
   simp[go_sem,b0,dgOf];exact .hf _ (wH (45,n.pos))
end
end QO
namespace QR
open Y9 Y10 Y1 Y2 Y12 P1 P2 QE QF QJ QL QN PG QO
theorem Wc{n}(i:WfN n)(h:n.op=15\/n.op=45\/n.op=46):∃ a f,n.sD=[a,f]/\kd a.op=101:=by
 have g:=i.shape;unfold shp at g;rw[zIn,zIn,zIn,if_pos zOm]at g;simp only[qv]at g
 match j:n.sD,g with
 | [a,f],g =>
  grind
 | [],g=>simp at g
 | [_],g=>simp at g
 |_ :: _ :: _ :: _,g=>simp at g
theorem five{J:Type}{l}{a b c d e:J}(g:l[0]?=some a)(i:l[1]?=some b)(j:l[2]?=some c)(o:l[3]?=some d)(p:l[4]?=some e):∃ r,l=a :: b :: c :: d :: e :: r:=by
 match l,g,i,j,o,p with
 |_ :: _ :: _ :: _ :: _ :: r,g,i,j,o,p =>
  simp_all
def Vy:Res->RS
 | .ok (some k)=>if k.ar=1 then qt k else zR
 |_=>zR
theorem qrC(s d):FL (.tup [eRS s,eDg d]):=FL.tup fun x i=>by
 rcases qy.1 i with rfl|i
 .exact FL.agg fun c g=>by
   rcases qy.1 g with rfl|g
   .exact FL.sc _
   .obtain ⟨j,_,rfl⟩:=qn.1 g
    exact FL.sc _
 .rw [qV]at i;subst i
  exact FL.agg fun c g=>by
   rcases qy.1 g with rfl|g
   .exact FL.sc _
   .rw [qV]at g;subst g;exact FL.sc _
theorem qrD(c)(hc:okCk c)(s)(hs:ScOk c.ts.sS.length s)(ax:s.length<=90000)(n a g)(hw:WfN n)(hb:n.op=15\/n.op=45\/n.op=46)(p:n.sD=[a,g])(a5:kd a.op=101)(inn)
  (ae:ExR c s (inn||decide (n.op=15)) a) (af:∀ k,okKd c.ts.sS.length k->k.ar=1->ExR c ((n.name,k) :: s) (inn||decide (n.op=15)) g) :
  qi qe 146 [eVw c inn,lVr (envS s),eNd n] (.tup [eRS (Vy (exam c s (inn||decide (n.op=15)) a)),eDg (dgOf (ym c s (inn||decide (n.op=15)) n.name n.pos n.sD))]):=by
 have wa:=hw.kid (k:=a) (by rw[p];simp);obtain⟨S,ca,hS⟩:=ae;have ag:=uo hc (szN a) a s (inn||decide (n.op=15));have a6:=Vm c (szN a) a s (inn||decide (n.op=15));rw[p];have w1:=wkE c (inn||decide (n.op=15)) (envS s) a;have ah:n.op=15->(inn||decide (n.op=15))=true:=fun h=>zP1 h
 have ai:¬n.op=15->(inn||decide (n.op=15))=inn:=fun h=>zP1 h
 generalize (inn||decide (n.op=15))=B at *
 generalize hE:dgOf (ym c s B n.name n.pos [a,g])=E;generalize hX:exam c s B a=X at *
 have a7:∀ k,okKd c.ts.sS.length k->k.ar=1->X = .ok (some k)->∃ S2,qi qe 92 [eVw c B,lVr (envS ((n.name,k) :: s)),eNd g] (.tup [eRS S2,eDg E]):=fun k hk o aj=>by
  obtain⟨S2,cg,_⟩:=af k hk o;refine⟨S2,?_⟩;have U:E=dgOf (exam c ((n.name,k) :: s) B g):=by
   rw[<-hE];simp only[ym,ze];rw[hX,aj];simp only;rw[if_pos o];cases exam c ((n.name,k) :: s) B g<;>rfl
  grind
 refine qSQ call146 func146 rfl { mt:=[3] } ?_;by_cases a1:n.op=15
 case' pos =>
  have a2:=ah a1;subst a2
 case' neg =>
  have a2:=ai a1;subst a2
 all_goals
  simp[go_sem,a1];refine fD [0,1,2,3,4,5,6,7,8,9,10,11,12,13] [(0,0,[]),(1,0,[]),(2,0,[]),(3,0,[]),(4,0,[]),(5,0,[]),(6,1,[]),(7,0,[]),(8,0,[]),(9,0,[]),(10,2,[0,3,5]),(11,2,[0,3,5]),(12,1,[]),(13,1,[])] zKr zKr zSi ?_;simp[go_sem,p];refine cQ ca w1 ?_;simp[go_sem,qw,p];rw[if_pos (zg _)];generalize hP:putCells _ 0 (aI S.1 :: hB S.2)=P;have t:P=aI S.1 :: hB S.2:=by rw[<-hP];exact pc (aI 0) _ (fun _=>false) _
  subst t;clear hP;simp[go_sem]
 all_goals
  cases X with
  |error e =>
   have he:=a6 e (qr _) rfl;have ak:¬e.1=0:=zOm;have U:E=e:=by rw[<-hE];simp only[ym];rw[hX];rfl
   subst U;clear hE;simp[go_sem,dgOf,ak];refine fD [0,1,2,3] [(0,0,[]),(1,0,[]),(2,1,[1]),(3,1,[])] zKr zKr zSi ?_;simp[go_sem];exact .hf _ (vD zR E)
  |ok ko =>
   obtain⟨q,rfl,hq⟩:=ag ko (qr _) wa hs rfl a5;have al:=hS a5 q rfl;subst al;have a8:(qt q).1=q.ar:=rfl;by_cases o:q.ar=1
   .have I:(qt q).1=1:=a8.trans o
    obtain⟨S2,cg⟩:=a7 q hq o rfl;have a3:Vy (.ok (some q))=qt q:=if_pos o;rw[a3];have a9:envS ((n.name,q) :: s)=envS s++[(n.name,qt q)]:=by simp[envS]
    rw[a9]at cg;generalize qt q=Q at *
    obtain⟨qa,J⟩:=Q;have a4:qa=1:=I;subst a4;simp[go_sem,dgOf];refine fD [0,1,2,4,5,6,7,8,10,11,12,13,3,9,14,15,16,17,18,19,20,21] [(0,0,[]),(1,0,[]),(2,0,[]),(4,0,[]),(5,0,[]),(6,0,[]),(7,0,[]),(8,0,[]),(10,0,[]),(11,0,[]),(12,0,[]),(13,0,[]),(3,1,[0,5,6,11,13]),(9,1,[0,11,13]),(14,1,[]),(15,0,[]),(16,0,[]),(17,0,[]),(18,2,[0,5,6,11,13]),(19,2,[0,5,6,11,13]),(20,1,[]),(21,1,[])] zKr zKr zSi ?_;simp[go_sem,qw,tk];rw[if_pos (zg _)];generalize hC:putCells _ 1 _=C;have an:C=cVr (n.name,(1,J)):=by rw[<-hC];exact pcV n.name (1,J)
    subst an;clear hC;have ao:(cVr (n.name,((1:Int),J))).length=66:=by simp[qw]
    have aq:=kH (n.name,((1:Int),J));generalize hV:cVr (n.name,((1:Int),J))=V at *
    simp[go_sem,ao];rw[if_pos aq];simp[go_sem,p];refine kJ (lo:=5) (xs:=[]) (ys:=envS s) (OwnF.nil zSp) (by simp[qD]) (by simp[Wg];omega) fun ay m1 au R=>?_
    have k0:=R 0 zOm;have k1:=R 1 zOm;have k2:=R 2 zOm;have k3:=R 3 zOm;have k4:=R 4 zOm;simp at k0 k1 k2 k3 k4;simp[go_sem,qw,tk,p,k0,k3];refine kJ (xs:=[]++envS s) (ys:=[(n.name,(1,J))]) au (by simp[qD,hV]) (by simp[Wg];omega) fun az m2 a0 r=>?_
    rw[vo]at a0;have av:=a0.2.2;replace k0:=(r 0 zOm).trans k0;replace k1:=(r 1 zOm).trans k1;replace k2:=(r 2 zOm).trans k2;replace k3:=(r 3 zOm).trans k3;replace k4:=(r 4 zOm).trans k4;have j:∀(l:List Cell)(i:Nat),i<m2.length->(m2++l)[i]?=m2[i]?:=fun l i hi=>qN hi
    have g0:=(qk.1 k0).2;have g1:=(qk.1 k1).2;have g2:=(qk.1 k2).2;have g3:=(qk.1 k3).2;simp[go_sem,p,k0];refine fX (args':=[eVw c _,lVr (envS s++[(n.name,(1,J))]),eNd g]) cg ⟨.hf _ (qd0 c _),rdVr a0,.hf _ (qL g),trivial⟩ (qrC S2 _) ?_;have p0:=fun l=>(j l 0 zOm).trans k0
    have p1:=fun l=>(j l 1 zOm).trans k1
    have p2:=fun l=>(j l 2 zOm).trans k2
    have p3:=fun l=>(j l 3 zOm).trans k3
    have p4:=fun l=>(j l 4 zOm).trans k4
    have aa:0<m2.length:=zOm;have ab:3<m2.length:=zOm;simp[go_sem,qw,tk,p,g0,g3,aa,ab,p3];rw[if_pos (zg _)];generalize hP:putCells _ 0 (cRS S2)=P;have t:P=cRS S2:=by rw[<-hP];exact pc (aI 0) _ (fun _=>false) _
    subst t;clear hP;simp[go_sem];obtain⟨rr,ad⟩:=five k0 k1 k2 k3 k4;have b0:m2.length=rr.length+5:=by rw[ad];rfl
    clear g0 g1 g2 g3 p0 p1 p2 p3 p4 j a0 r k0 k1 k2 k3 k4 av aa ab;refine fD [0,1,2,3] [(0,0,[]),(1,0,[]),(2,1,[1]),(3,1,[])] zKr zKr zSi ?_;simp[go_sem,qw,tk,ad];rw[if_pos (zg _)];generalize hP:putCells _ 0 (aI 1 :: hB J)=P;have t:P=aI 1 :: hB J:=by rw[<-hP];exact pc (aI 0) (aI 1) (fun _=>false) J
    subst t;clear hP;simp[go_sem,qw,tk];exact .hf _ (vD (1,J) E)
   .have I:¬(qt q).1=1:=fun e=>o (a8.symm.trans e)
    have a3:Vy (.ok (some q))=zR:=if_neg o;rw[a3];have U:E=(42,n.pos):=by
     rw[<-hE];simp only[ym];rw[hX];simp only;rw[if_neg o];rfl
    subst U;clear hE;generalize qt q=Q at *
    simp[go_sem,dgOf,I];refine fD [0,1,2,3,4,5] [(0,0,[]),(1,0,[]),(2,0,[]),(3,0,[]),(4,1,[2]),(5,1,[])] zKr zKr zSi ?_;simp[go_sem];exact .hf _ (vD zR (42,n.pos))
theorem qrE(ts)(ok:okTS ts)(n l)(r:n.op≠1)(o:n.op≠15)
  (t:n.op=5\/n.op=11\/n.op=12\/n.op=13->∃ a,l=[some a]/\okKd ts.sS.length a)
  (C:n.op=6\/n.op=14\/n.op=7\/n.op=8\/n.op=32\/n.op=33\/n.op=9\/n.op=10->∃ a b,l=[some a,some b]/\okKd ts.sS.length a/\okKd ts.sS.length b) :
  ∃ S b,(∀ L,((n.op=5\/n.op=11\/n.op=12\/n.op=13)\/(n.op=6\/n.op=14\/n.op=7\/n.op=8\/n.op=32\/n.op=33\/n.op=9\/n.op=10)->L=l.map setO)->prC ts n L S b)/\ApE n.op (yh ts.sS.length n.op n.n n.pos l) S b:=by
 by_cases P:(n.op=5\/n.op=11\/n.op=12\/n.op=13)\/(n.op=6\/n.op=14\/n.op=7\/n.op=8\/n.op=32\/n.op=33\/n.op=9\/n.op=10)
 .obtain ⟨S,b,c,a⟩:=qq8 ts ok n l (l.map setO) r o (fun h=>by obtain⟨a,rfl,p⟩:=t h;exact⟨a,rfl,rfl,p⟩) (fun h=>by obtain⟨a,b,rfl,p,I⟩:=C h;exact⟨a,b,rfl,rfl,p,I⟩)
  grind
 by_cases g:n.op=2
 .refine ⟨qt ⟨n.n,[]⟩,true,fun L _=>qdZ (qdW n.n) (ap2 ts n L g),?_⟩
  unfold yh;rw[if_pos g];exact⟨rfl,fun _=>⟨_,rfl,rfl⟩⟩
 by_cases i:n.op=3
 .refine ⟨_,true,fun L _=>ap3 ts ok n L i,?_⟩
  unfold yh;rw[if_neg g,if_pos i];exact⟨rfl,fun _=>⟨_,rfl,rfl⟩⟩
 by_cases j:n.op=4
 .refine ⟨_,true,fun L _=>ap4 ts ok n L j,?_⟩
  unfold yh;rw[if_neg g,if_neg i,if_pos j];exact⟨rfl,fun _=>⟨_,rfl,rfl⟩⟩
 refine⟨zR,true,fun L _=>apO ts n L g i j zOm zOm zOm zOm zOm zOm zOm zOm zOm zOm zOm zOm,?_⟩;rw[UH g i j zOm zOm zOm zOm zOm zOm zOm zOm zOm zOm zOm zOm];refine⟨rfl,fun J=>?_⟩;have:=UJ J;omega
def resS:Res->RS
 | .ok (some k)=>qt k
 |_=>zR
theorem qrF(R):endR zR R = .tup [eRS (resS R),eDg (dgOf R)]:=by
 cases R with
 |error e=>rfl
 |ok k=>cases k<;>rfl
end QR
namespace QS
open YZ YF Y9 Y10 Y1 Y2 Y13 P1 P2 QE QF QI QJ QL QN PG QO QR
theorem Wh(c op nm):z7 c op nm=(yC op||(decide (op=47)&&tpB c nm)):=rfl
theorem qrG{ns op n pos l e}(h:yh ns op n pos l = .error e):e=(42,pos):=by
 unfold yh at h
 repeat' split at h
 all_goals grind
theorem wkTP(c:Ck)(nm):WKs [eTS c.ts,lBo c.timed,aI c.calls,aS nm] [eTS c.ts,lBo c.timed,aI c.calls,aS nm] := .zk (zn _) (.zk (Vw _) (.zs (.zs .nil)))
theorem wk1I(k):WKs [aI k] [aI k] := .zs .nil
theorem fl_sb(s b):FL (.tup [eRS s,aB b]):=FL.tup fun x i=>by
 rcases qy.1 i with rfl|i
 .exact FL.agg fun c g=>by
   rcases qy.1 g with rfl|g
   .exact FL.sc _
   .obtain ⟨j,_,rfl⟩:=qn.1 g
    exact FL.sc _
 grind [qV,FL.sc]
theorem qrH(c)(i:okCk c)(s n)(g:z7 c n.op n.name=true):ExR c s true n:=by
 refine⟨zR,?_,fun _ q h=>?_⟩
 case refine_2=>simp_all[jh,if_pos]
 have j:exam c s true n = .error (46,n.pos):=by simp_all[jh,if_pos]
 rw[j];rw[Wh]at g;refine qSQ call92 func92 rfl { mt:=[3] } ?_;have l:=Jh n.op;have o:=Ji c i n.name;simp[go_sem];refine cQ l (wk1I _) ?_;cases p:yC n.op with
 |true =>
  simp[go_sem];refine fD [0,1,2,3,4,5] [(0,0,[]),(1,0,[]),(2,0,[]),(3,0,[]),(4,1,[2]),(5,1,[])] zKr zKr zSi ?_;simp[go_sem,dgOf];exact .hf _ (vD zR (46,n.pos))
 |false =>
  rw[p,Bool.false_or,qI]at g;obtain⟨h47,hB⟩:=g;have h47:n.op=47:=by simpa using h47
  simp[go_sem,h47];refine cQ o (wkTP c n.name) ?_;rw[hB];simp[go_sem];refine fD [0,1,2,3,4,5] [(0,0,[]),(1,0,[]),(2,0,[]),(3,0,[]),(4,1,[2]),(5,1,[])] zKr zKr zSi ?_;simp[go_sem,dgOf];exact .hf _ (vD zR (46,n.pos))
theorem qrI(c)(l:okCk c)(s)(g:s.length<=100000)(inn n)(i:n.op=1):ExR c s inn n:=by
 have o:exam c s inn n=jz c s n.name n.pos:=by
  rw[jh,Wh,i,show yC 1=false from rfl];simp
 refine⟨resS (jz c s n.name n.pos),?_,fun _ q h=>by rw[o]at h;rw[h];rfl⟩;rw[o];have p:=Kg c l inn s n g;rw[qrF]at p;generalize resS (jz c s n.name n.pos)=S at *
 generalize dgOf (jz c s n.name n.pos)=D at *
 refine qSQ call92 func92 rfl { mt:=[3] } ?_;have r:=Jh n.op;have J:=Ji c l n.name;have C:yC n.op=false:=by rw[i];rfl
 rw[C]at r;have I:=wkE c inn (envS s) n;cases inn
 case' true =>
  simp[go_sem];refine cQ r (wk1I _) ?_
 all_goals
  simp[go_sem,i];refine cQ p I ?_;simp[go_sem,qw];rw[if_pos (zg _)];generalize t:putCells _ 0 (aI S.1 :: hB S.2)=P;have j:P=aI S.1 :: hB S.2:=by rw[<-t];exact pc (aI 0) _ (fun _=>false) _
  subst j;clear t;simp[go_sem,qw,QE.tk];exact .hf _ (vD S D)
theorem qrJ(c)(i:okCk c)(s)(r:ScOk c.ts.sS.length s)(inn n)(t:WfN n)(h47:n.op=47)(g:(inn&&z7 c n.op n.name)=false)(C:∀ k,k∈n.sD->ExR c s true k):ExR c s inn n:=by
 have I:exam c s inn n=uR c s n:=by
  rw[jh,g,if_neg zSp,zIn,if_pos h47];rfl
 have J:=qrB c i s r n t h47 C inn;refine⟨zR,?_,fun j=>by rw[h47]at j;exact absurd j zDe⟩;rw[I];generalize dgOf (uR c s n)=D at *
 refine qSQ call92 func92 rfl { mt:=[3] } ?_;have l:=Jh n.op;have o:=Ji c i n.name;have p:yC n.op=false:=by rw[h47];rfl
 rw[p]at l;have P:=wkE c inn (envS s) n;cases inn
 case' true =>
  rw[Bool.true_and,Wh,p,h47]at g;have hB:tpB c n.name=false:=zUs g;rw[hB]at o;simp[go_sem];refine cQ l (wk1I _) ?_;simp[go_sem,h47];refine cQ o (wkTP c n.name) ?_
 all_goals
  simp[go_sem,h47];refine fR J P ?_;exact .hf _ (vD zR D)
theorem qrK(c)(J:okCk c)(s)(o:ScOk c.ts.sS.length s)(p:s.length<=90000)(inn n)(R:WfN n)(l:n.op=15\/n.op=45\/n.op=46)(ht:(inn&&z7 c n.op n.name)=false)(T:∀ k,k∈n.sD->∀ s',ScOk c.ts.sS.length s'->s'.length<=s.length+1->∀ inn,ExR c s' inn k):ExR c s inn n:=by
 have U:exam c s inn n=ym c s (inn||decide (n.op=15)) n.name n.pos n.sD:=by
  rw[jh,ht,if_neg zSp,zIn,zIn,if_pos l]
 obtain⟨a,g,i,r⟩:=Wc R l;have cb:=qrD c J s o p n a g R l i r inn (T a (by rw[i];simp) s o zOm _) (fun k hk j=>T g (by rw[i];simp) _ (fun v t=>by
  rcases qy.1 t with rfl|t
  .grind
  .exact o v t) zSp _)
 refine⟨Vy (exam c s (inn||decide (n.op=15)) a),?_,fun _ q h=>?_⟩
 case refine_2 =>
  rw[U,i]at h;simp only[ym]at h;split at h
  .cases h
  .cases h
  .rename_i k hk
   split at h
   .rename_i j
    split at h
    .cases h
    .cases h
     rw[hk];exact if_pos j
   .cases h
 rw[U];generalize Vy (exam c s (inn||decide (n.op=15)) a)=S at *
 generalize dgOf (ym c s (inn||decide (n.op=15)) n.name n.pos n.sD)=D at *
 refine qSQ call92 func92 rfl { mt:=[3] } ?_;have C:=Jh n.op;have cp:=Ji c J n.name;have h47:¬n.op=47:=zOm;have hT:yC n.op=false:=by grind [yC]
 rw[hT]at C;have wn:=wkE c inn (envS s) n;rcases l with h|h|h
 all_goals
  rw[h]at C;cases inn
 all_goals
  simp[go_sem,h]
  try (refine cQ C (wk1I _) ?_)
  try simp[go_sem,h]
  refine cQ cb wn ?_;simp[go_sem,qw];rw[if_pos (zg _)];generalize hP:putCells _ 0 (aI S.1 :: hB S.2)=P;have I:P=aI S.1 :: hB S.2:=by rw[<-hP];exact pc (aI 0) _ (fun _=>false) _
  subst I;clear hP;simp[go_sem,qw,QE.tk];exact .hf _ (vD S D)
def seqL(X:Nd->Res):List Nd->Except Dg (List (Option Kd))
 | [] => .ok []
 |k :: ks=>match X k with
  | .error e => .error e
  | .ok a=>match seqL X ks with
   | .error e => .error e
   | .ok l => .ok (a :: l)
theorem qd2(c s B):∀ ks,ze c s B ks=seqL (exam c s B) ks
 | []=>by simp only[ze,seqL]
 |k :: ks=>by simp only[ze,seqL];rw[qd2 c s B ks];cases exam c s B k with
  |error e=>rfl
  |ok a=>cases seqL (exam c s B) ks<;>rfl
theorem kN{J:Type}{l}{a b c:J}(g:l[0]?=some a)(i:l[1]?=some b)(j:l[2]?=some c):∃ r,l=a :: b :: c :: r:=by
 match l,g,i,j with
 |_ :: _ :: _ :: r,g,i,j =>
  grind
theorem qrL{n}(j:WfN n)(h:(n.op=5\/n.op=11\/n.op=12\/n.op=13)\/(n.op=6\/n.op=14\/n.op=7\/n.op=8\/n.op=32\/n.op=33\/n.op=9\/n.op=10)):∀ x,x∈n.sD->kd x.op=101:=by
 have g:=j.shape;intro x l;have i:kd x.op∈n.sD.map fun k=>kd k.op:=qn.2 ⟨x,l,rfl⟩
 rcases h with h|h
 .unfold shp at g
  rw[zIn,if_pos zOm]at g
  grind
 .unfold shp at g
  rw[zIn,zIn,if_pos zOm]at g;simp only[qv]at g;rw[<-g]at i;simpa using i
set_option maxHeartbeats 2000000 in
theorem ex_t(c)(hc:okCk c)(s n inn B X S D)(h1:¬n.op=1)(h47:¬n.op=47)(hb:¬(n.op=15\/n.op=45\/n.op=46))(hw:WfN n)(au:n.sD.length<=401)(hT:inn=true->yC n.op=false)(a5:n.op=12->B=true)(a6:n.op=13->B=true)(af:¬n.op=12->¬n.op=13->B=inn)
  (ag:∀ k,k∈n.sD->∃ S,qi qe 92 [eVw c B,lVr (envS s),eNd k] (.tup [eRS S,eDg (dgOf (X k))])/\(kd k.op=101->∀ q,X k = .ok (some q)->S=qt q))
  (a7:∀ k a,k∈n.sD->X k = .ok a->kd k.op=101->∃ q,a=some q/\okKd c.ts.sS.length q)
  (a1:∀ k e,X k = .error e->40<=e.1)
  (ah:∀ e,seqL X n.sD = .error e->S=zR/\D=e)
  (ai:∀ l,seqL X n.sD = .ok l->∃ S' b,(∀ L,((n.op=5\/n.op=11\/n.op=12\/n.op=13)\/(n.op=6\/n.op=14\/n.op=7\/n.op=8\/n.op=32\/n.op=33\/n.op=9\/n.op=10)->L=l.map setO)->prC c.ts n L S' b)/\(b=true->S=S'/\D=(0,0))/\(b=false->S=zR/\D=(42,n.pos))) :
  qi qe 92 [eVw c inn,lVr (envS s),eNd n] (.tup [eRS S,eDg D]):=by
 simp only[not_or]at hb;obtain⟨b1,b2,b3⟩:=hb;refine qSQ call92 func92 rfl { mt:=[3] } ?_;have ct:=Jh n.op;have cp:=Ji c hc n.name;cases inn
 all_goals first
  | (rw[hT rfl]at ct;simp[go_sem];refine cQ ct (wk1I _) ?_)
  |skip
 all_goals simp[go_sem,h1,h47,b1,b2,b3]
 all_goals rcases (show n.op=12\/(¬n.op=12/\n.op=13)\/(¬n.op=12/\¬n.op=13) by omega) with p|⟨p,R⟩|⟨p,R⟩
 all_goals first|simp[go_sem,p,R] | simp[go_sem,p]
 all_goals first|have a2:=a5 p|have a2:=a6 R|have a2:=af p R
 all_goals
  refine kL n.sD.length (fun k U=>∃(j:List (Option Kd)) (L:List RS),j.length=k/\L.length=k/\U.tm 1=lVr (envS s)/\U.tm 3 = .ptr 0 0/\U.tm 5 = .ip (cNd n)/\U.tm 6 = .ptr 1 0/\U.tm 7 = .ptr 2 0/\U.tm 9=aI k/\U.mu[0]?=some (.arr (cVw c B))/\U.mu[1]?=some (.arr (aI 0 :: hB fun _=>false))/\U.mu[2]?=some (.arr [aI 0,aI 0])/\OwnF 3 U.mu 65 (U.tm 8) (L.map cRS)/\(∀(i:Nat) x,n.sD[i]?=some x->i<k->kd x.op=101->∃ q,j[i]?=some (some q)/\L[i]?=some (qt q))/\seqL X n.sD=(match seqL X (n.sD.drop k) with | .error e => .error e | .ok l => .ok (j++l))) ?_ ?_
  .refine ⟨[],[],rfl,rfl,zSi,zSi,zSi,zSi,zSi,zSi,by rw[a2];simp[go_sem],by simp[go_sem];rfl,zSi,by simp_all[go_sem,OwnF.nil],fun i x _ h=>absurd h zOm,?_⟩
   grind
  rintro k U hk ⟨j,L,a8,a9,e1,e3,e5,e6,e7,e9,m0,m1,m2,ho,a0,r⟩;generalize h8:U.tm 8=t at *
  by_cases o:k<n.sD.length
  .have w1:=zWk k
   obtain⟨Sk,ck,aj⟩:=ag n.sD[k] (qs o);rw[zp o]at r;simp only[seqL]at r;simp[go_sem,e5,e9,o];refine fD [0,1,2,3,4,5,6,7,8,9,10,11,12,13,14] [(0,0,[]),(1,0,[]),(2,0,[]),(3,0,[]),(4,0,[]),(5,0,[]),(6,0,[]),(7,1,[]),(8,0,[]),(9,0,[]),(10,0,[]),(11,2,[0,3,6]),(12,2,[0,3,6]),(13,1,[]),(14,1,[])] zKr zKr zSi ?_;have aa:2<U.mu.length:=(qk.1 m2).1;have g:∀(l:List Cell)(i:Nat),i<U.mu.length->(U.mu++l)[i]?=U.mu[i]?:=fun l i C=>qN C
   have p0:=fun l=>(g l 0 zOm).trans m0
   have p1:=fun l=>(g l 1 zOm).trans m1
   have p2:=fun l=>(g l 2 zOm).trans m2
   have g0:=(qk.1 m0).2;have g1:=(qk.1 m1).2;have g2:=(qk.1 m2).2;have a3:0<U.mu.length:=zOm;have ak:1<U.mu.length:=zOm;simp[go_sem,e1,e3,e5,e9,o,m0];refine cQ ck (wkE c _ _ _) ?_;cases hx:X n.sD[k] with
   |error e =>
    have he:=a1 _ _ hx;have al:¬e.1=0:=zOm;rw[hx]at r;have r:seqL X n.sD = .error e:=r;obtain⟨an,ao⟩:=ah e r;rw[an,ao];simp[go_sem,e3,g0,a3,qw,dgOf];rw[if_pos (zg _)];generalize hP:putCells _ 0 (cRS Sk)=P;have I:P=cRS Sk:=by rw[<-hP];exact pc (aI 0) _ (fun _=>false) _
    subst I;clear hP;simp[go_sem,al];refine fD [0,1,2,3] [(0,0,[]),(1,0,[]),(2,1,[1]),(3,1,[])] zKr zKr zSi ?_;simp[go_sem,e6,e7,a3,qw,g1,g2,ak,aa];exact .hf _ (vD zR e)
   |ok a =>
    rw[hx]at r;simp only at r;simp[go_sem,e3,g0,a3,qw,dgOf];rw[if_pos (zg _)];generalize hP:putCells _ 0 (cRS Sk)=P;have I:P=cRS Sk:=by rw[<-hP];exact pc (aI 0) _ (fun _=>false) _
    subst I;clear hP;simp[go_sem,h8,qw,QE.tk];rw[if_pos (zg _)];simp[go_sem];refine appRS (lo:=3) (xs:=L) (ys:=[Sk]) ⟨by simpa using J2 (J2 ho.1 _) _,ho.2.1,by grind⟩ (by simp[qD]) zSo fun aw m' aq a4=>?_
    simp[go_sem,e9,o,w1];refine aK ⟨j++[a],L++[Sk],zP1 a8,zP1 a9,zS1 e1,zS1 e3,zS1 e5,zS1 e6,zS1 e7,zSi,?_,?_,?_,zVs aq,fun i x C ax J=>?_,?_⟩
    .simp only[qC];exact(a4 0 zOm).trans (p0 _)
    .simp only[qC];exact(a4 1 zOm).trans (p1 _)
    .simp only[qC];exact(a4 2 zOm).trans (p2 _)
    .by_cases ab:i=k
     .subst ab
      rw[qA o]at C;cases C;obtain⟨q,rfl,_⟩:=a7 _ a (qs o) hx J;refine⟨q,?_,?_⟩
      .rw [zJ zOm,a8];simp
      .rw [zJ zOm,a9];simp[aj J q hx]
     .obtain ⟨q,q1,q2⟩:=a0 i x C zOm J
      exact⟨q,by rw[zGa];exact q1,by rw[zGa];exact q2⟩
    grind
  .have ad:k=n.sD.length:=by omega
   subst ad;rw[zZ]at r;have r:seqL X n.sD = .ok j:=by rw[r];simp only[seqL,zO]
   obtain⟨S',b,q1,q2,q3⟩:=ai j r;have hL:((n.op=5\/n.op=11\/n.op=12\/n.op=13)\/(n.op=6\/n.op=14\/n.op=7\/n.op=8\/n.op=32\/n.op=33\/n.op=9\/n.op=10))->L=j.map setO:=fun h=>by
    have J:∀ x,x∈n.sD->kd x.op=101:=fun x hx=>qrL hw h x hx
    refine List.ext_getElem? fun i=>?_
    by_cases C:i<n.sD.length
    .obtain ⟨q,e1,e2⟩:=a0 i n.sD[i] (zP1 C) C (J _ (qs C))
     rw[e2,List.getElem?_map,e1];rfl
    .rw [uz zOm,uz zSo]
   have hp:=q1 L hL;unfold prC at hp;have aa:2<U.mu.length:=(qk.1 m2).1;have g:∀(l:List Cell)(i:Nat),i<U.mu.length->(U.mu++l)[i]?=U.mu[i]?:=fun l i C=>qN C
   obtain⟨rr,ae⟩:=kN m0 m1 m2;simp[go_sem,e3,e5,e9,h8,m0];refine fX (args':=[eTS c.ts,eNd n,lRS L]) hp ⟨.hf _ (zn _),.hf _ (qL n),rdRS ho,trivial⟩ (fl_sb S' b) ?_;have ay:U.mu.length=rr.length+3:=by rw[ae];rfl
   clear m0 m1 m2 g ho;simp[go_sem,ae,qw];rw[if_pos (zg _)];generalize hP:putCells _ 0 (cRS S')=P;have I:P=cRS S':=by rw[<-hP];exact pc (aI 0) _ (fun _=>false) _
   subst I;clear hP;cases b with
   |true =>
    obtain⟨rfl,rfl⟩:=q2 rfl;simp[go_sem,e6,qw,QE.tk,pc];rw[if_pos (zg _)];simp[go_sem,e6,e7,qw,QE.tk];exact .hf _ (vD S (0,0))
   |false =>
    obtain⟨rfl,rfl⟩:=q3 rfl;simp[go_sem];refine fD [0,1,2,3,4,5] [(0,0,[]),(1,0,[]),(2,0,[]),(3,0,[]),(4,1,[2]),(5,1,[])] zKr zKr zSi ?_;simp[go_sem,e5,e6,e7,qw];exact .hf _ (vD zR (42,n.pos))
theorem qrM(c)(p:okCk c)(s)(hs:ScOk c.ts.sS.length s)(inn n)(r:WfN n)(h1:¬n.op=1)(h47:¬n.op=47)(hb:¬(n.op=15\/n.op=45\/n.op=46))(ht:(inn&&z7 c n.op n.name)=false)(ih:∀ k,k∈n.sD->∀ inn,ExR c s inn k):ExR c s inn n:=by
 have hx:exam c s inn n=match ze c s (inn||decide (n.op=12)||decide (n.op=13)) n.sD with | .error e => .error e | .ok l=>yh c.ts.sS.length n.op n.n n.pos l:=by
  rw[jh,ht,if_neg zSp,if_neg h1,if_neg h47,if_neg hb]
  grind
 have t:n.op=12\/n.op=13->(inn||decide (n.op=12)||decide (n.op=13))=true:=fun h=>by grind
 have a0:¬n.op=12->¬n.op=13->(inn||decide (n.op=12)||decide (n.op=13))=inn:=fun h h'=>by simp[h,h']
 generalize (inn||decide (n.op=12)||decide (n.op=13))=B at *
 obtain⟨S,D,C,hq,I,J⟩:∃ S D,dgOf (exam c s inn n)=D/\(kd n.op=101->∀ q,exam c s inn n = .ok (some q)->S=qt q)/\(∀ e,ze c s B n.sD = .error e->S=zR/\D=e) /\
   (∀ l,ze c s B n.sD = .ok l->∃ P b,(∀ L:List RS,((n.op=5\/n.op=11\/n.op=12\/n.op=13)\/(n.op=6\/n.op=14\/n.op=7\/n.op=8\/n.op=32\/n.op=33\/n.op=9\/n.op=10)->L=l.map setO)->prC c.ts n L P b)/\(b=true->S=P/\D=(0,0))/\(b=false->S=zR/\D=(42,n.pos))):=by
  rw[hx];cases hE:ze c s B n.sD with
  |error e=>exact⟨zR,e,rfl,(fun _ q h=>by cases h),(fun e' h=>by grind),(fun l h=>by cases h)⟩
  |ok l =>
   obtain⟨a1,a2⟩:=J6 hE;have a3:=(Kk p.ts.ns r a1 (fun i k' a hi ha g=>uo p (szN k') k' s B a (qr _) (r.kid (List.mem_of_getElem? hi)) hs (a2 i k' a hi ha) g)).2;obtain⟨P,b,p1,o⟩:=qrE c.ts p.ts n l h1 (fun h=>hb (.inl h)) (fun h=>by
    grind) a3.2.2
   simp only;cases hA:yh c.ts.sS.length n.op n.n n.pos l with
   |error e =>
    rw[hA]at o;have o:b=false:=o;refine⟨zR,e,rfl,(fun _ q h=>by cases h),(fun e' h=>by cases h),(fun l' h=>by cases h;exact⟨P,b,p1,(fun h=>by grind),(fun _=>⟨rfl,qrG hA⟩)⟩)⟩
   |ok ko =>
    rw[hA]at o;obtain⟨o,p3⟩:=o;refine⟨P,(0,0),rfl,(fun U q h=>?_),(fun e' h=>by cases h),(fun l' h=>by simp_all)⟩
    grind
 refine⟨S,?_,hq⟩;rw[C];clear C hx hq;obtain⟨X,R⟩:∃ X:Nd->Res,X=exam c s B:=⟨_,rfl⟩;have a4:∀ k,k∈n.sD->∃ S,qi qe 92 [eVw c B,lVr (envS s),eNd k] (.tup [eRS S,eDg (dgOf (X k))])/\(kd k.op=101->∀ q,X k = .ok (some q)->S=qt q):=fun k U=>by rw[R];exact ih k U B
 have T:∀ k a,k∈n.sD->X k = .ok a->kd k.op=101->∃ q,a=some q/\okKd c.ts.sS.length q:=fun k a U h g=>by rw[R]at h;exact uo p (szN k) k s B a (qr _) (r.kid U) hs h g
 have j:∀ k e,X k = .error e->40<=e.1:=fun k e h=>by rw[R]at h;exact Vm c (szN k) k s B e (qr _) h
 rw[qd2,<-R]at I J;clear R ih;have a5:=r.len;exact ex_t c p s n inn B X S D h1 h47 hb r a5 (fun hi=>by
  simp_all[Bool.true_and,Wh,Bool.or_eq_false_iff]) (fun h=>t (.inl h)) (fun h=>t (.inr h)) a0 a4 T j I J
theorem qd3(c)(l:okCk c):∀(m:Nat)(n),depN n<=m->WfN n->∀ s,ScOk c.ts.sS.length s->s.length+m<=80000->∀ inn,ExR c s inn n
 | 0,n,i,_,_,_,_,_=>zW1 (qc0 n)
 |m+1,n,i,o,s,r,p,inn=>by
  have t:∀ k,k∈n.sD->∀ s',ScOk c.ts.sS.length s'->s'.length<=s.length+1->∀ inn,ExR c s' inn k:=fun k j s' g C inn=>qd3 c l m k (by have:=qcZ j;rw[Zp]at i;omega) (o.kid j) s' g zOm inn
  cases I:inn&&z7 c n.op n.name with
  |true =>
   simp_all[qI,qrH]
  |false =>
   grind [qrI,qrJ,qrK,qrM]
end QS
namespace QT
open YF Y9 Y10 Y1 Y2 Y14 Y15 Y16 YZ P1 P2 PA Q5 QD QE QI QJ QL QM QO QS
section
variable {ts:TS}
def ckR(ts:TS)(i:Nat):Ck:=⟨ts,i,tmsL ts ts.sT.length⟩
theorem Wi(h:okTS ts){i}(g:i<=ts.sT.length):okCk (ckR ts i):=⟨h,g,by show i<=(tmsL ts ts.sT.length).length;rw[ZV ts _ (qr _)];exact g⟩
theorem qd4{c c'}(g:c'.ts=c.ts)(l:∀ nm,zw c' nm=zw c nm)(o:∀ op nm,z7 c' op nm=z7 c op nm):∀ m n s inn,szN n<=m->exam c s inn n=exam c' s inn n
 | 0,n,_,_,t=>by obtain⟨op,nm,i,ks,p⟩:=n;simp[szN]at t
 |m+1,n,s,inn,t=>by
  have r:∀ k,k∈n.sD->∀(s:Scp)(inn:Bool),exam c s inn k=exam c' s inn k:=fun k r s inn=>qd4 g l o m k s inn (zW1 (yw r))
  refine qbW rfl rfl rfl rfl (o _ _) (fun _=>?_) (by rw[g]) (l _) (by rw[g]) rfl (fun _ I=>qbZ fun k j=>r k j s true) (fun _ inn=>?_) (fun _ _ _ inn=>UW fun k j=>r k j s inn)
  .grind [ZZ]
  .cases C:n.sD with
   |nil=>rfl
   |cons k ks =>
    grind [ks,ym,zl,ze,UW,zc]
theorem qrN(h:okTS ts){i}(l:i<=ts.sT.length)(n s inn):exam (ckR ts i) s inn n=exam (mkCk ts i) s inn n:=by
 refine(qd4 (c:=mkCk ts i) (c':=ckR ts i) rfl (fun o=>rfl) (fun op o=>?_) (szN n) n s inn (qr _)).symm;unfold z7;have e:zw (ckR ts i) o=zw (mkCk ts i) o:=rfl;rw[e];cases r:zw (mkCk ts i) o with
 |none=>rfl
 |some p =>
  obtain⟨j,g⟩:=Zi (uQ h l) r;have j:p<i:=j;have g:p<ts.sT.length:=g;simp only;have t:=PC.U8 ts p ts.sT.length g (qr _) g;have C:=PC.U8 ts p i j l g;show (yC op||(decide (op=47)&&(tmsL ts ts.sT.length).getD p false))=(yC op||(decide (op=47)&&(tmsL ts i).getD p false));rw[t,C]
theorem qrO(h:okTS ts){i}(g:i<=ts.sT.length)(env n):jJ (mkCk ts i) env n=if 30<=n.op then dgOf (exam (ckR ts i) (yn env) false n) else (43,n.pos):=by
 grind [jJ,qrN]
theorem qd5(ts)(h:okTS ts)(J:∀ p,p∈ts.sT->WfN p.body)(i)(o:i<=ts.sT.length)(env)(t:YK ts.sS.length env)(j:env.length<=1000)(n)(R:WfN n)(T:depN n<=24) :
  qi qe 51 [eTS ts,aI i,lPm env,eNd n] (eDg (jJ (mkCk ts i) env n)):=by
 rw[qrO h o];have U:=h.ns;have hs:=Km t;have a0:(yn env).length=env.length:=by
  have:=congrArg List.length (qdV env)
  grind [Wg,envV]
 obtain⟨S,ce,_⟩:=qd3 (ckR ts i) (Wi h o) 24 n T R (yn env) hs zOm false;have C:=envU env j (fun p hp=>zW1 (t.r p hp));rw[qdV]at C;have c1:=qq3 n;have c2:=qq0 ts h J;refine qSU call51 func51 rfl ?_;refine cQ c1 (.zk (qL n) .nil) ?_;by_cases g:30<=n.op
 .rw [if_pos g]
  generalize dgOf (exam (ckR ts i) (yn env) false n)=D at *
  simp[go_sem,g];refine fD [0,1,3,5,7,2,4,6,8,9,10,11,12,13,14,15] [(0,0,[]),(1,0,[]),(3,0,[]),(5,0,[]),(7,0,[]),(2,1,[0,7]),(4,0,[]),(6,1,[0,7]),(8,1,[]),(9,0,[]),(10,0,[]),(11,0,[]),(12,2,[0,1,7]),(13,2,[0,1,7]),(14,1,[]),(15,1,[])] zKr zKr zSi ?_;simp[go_sem];refine fR c2 (.zk (zn ts) .nil) ?_;refine fR C (.zk (um env) .nil) ?_;refine cQ ce (wkE (ckR ts i) false _ n) ?_;simp[go_sem,qw];rw[if_pos (zg _)];generalize I:putCells _ 0 (cRS S)=P;have l:P=cRS S:=by rw[<-I];exact pc (aI 0) _ (fun _=>false) _
  subst l;clear I;simp[go_sem];exact .hf _ (wH D)
 .rw [if_neg g]
  simp[go_sem,g];exact .hf _ (wH (43,n.pos))
theorem kO(ts)(h:okTS ts)(i:∀ p,p∈ts.sT->WfN p.body)(env)(j:YK ts.sS.length env)(g:env.length<=1000)(n)(l:WfN n)(o:depN n<=24) :
  qi qe 25 [eTS ts,lPm env,eNd n] (eDg (yi ts env n)):=by
 have c1:=qd5 ts h i ts.sT.length (qr _) env j g n l o;have e:jJ (mkCk ts ts.sT.length) env n=yi ts env n:=rfl;rw[e]at c1;generalize yi ts env n=D at *
 refine qSU call25 func25 rfl ?_;refine fR c1 (.zk (zn ts) (.zs (.zk (um env) (.zk (qL n) .nil)))) ?_;exact .hf _ (wH D)
theorem Jj(a b):dups (a++b)=dups a++dups b:=by simp[dups]
theorem wI(b):dups [b]=if b=true then [(41,0)] else []:=by cases b<;>rfl
theorem Ql(l):(dups l).length<=l.length:=by
 grind [dups,zF,List.length_filter_le]
theorem kP{J}(g)(l:List J)(k h):(repL g l).take (k+1)=(repL g l).take k++[(l.take k).any fun y=>g l[k] y]:=by
 grind [repL,Qj,vO,mZ,qA,Option.some.inj]
theorem Wj{J:Type}(p)(l:List J)(k h):(l.take (k+1)).any p=((l.take k).any p||p l[k]):=by
 rw[vO h,List.any_append];simp only[List.any_cons,List.any_nil,Bool.or_false]
abbrev eS:tA×Bool->tA×Bool->Bool:=fun x y=>decide (x.1=y.1)
abbrev eF:Fld->Fld->Bool:=fun x y=>decide (x.name=y.name)&&decide (x.sS=y.sS)
abbrev eP:Pd->Pd->Bool:=fun x y=>decide (x.name=y.name)
abbrev eM:tA×Int->tA×Int->Bool:=fun x y=>decide (x.1=y.1)
abbrev eA:tA×Nd->tA×Nd->Bool:=fun x y=>decide (x.1=y.1)
theorem Qr{mu lo s x}{xs ys:List Dg}{K}(o:OwnF lo mu 2 s (xs.map cDg))(p:qD mu x=some (ys.map cDg))(C:xs.length+ys.length<=100000)(I:∀ av mu',OwnF lo mu' 2 av ((xs++ys).map cDg)->(∀ i,i<lo->mu'[i]?=mu[i]?)->K av mu') :
  qz qe mu #[76,76] s x K:=by
 have j:∀ l:List Dg,zm 2 (l.map cDg):=fun l r t=>by
  obtain⟨n,_,rfl⟩:=qn.1 t;exact⟨rfl,rfl⟩
 refine qz.ownF (lo:=lo) (e:=71) (sz:=2) (bt:=16) (zv := .agg [aI 0,aI 0]) (xs:=xs.map cDg) (ys:=ys.map cDg) zSi zSi zSi rfl rfl zOm zOm o p (j xs) (j ys) zSo ?_
 grind
theorem qrP(ts)(h:okTS ts)(mu):qE qe 49 [eTS ts] mu fun e m=>∃ av,e = .ret av/\OwnF mu.length m 2 av ((dups (repL eS ts.sS)++dups (repL eF ts.sA)).map cDg)/\∀ i,i<mu.length->m[i]?=mu[i]?:=by
 refine qSW call49 func49 rfl {} ?_;have a6:=h.ns;have ab:=h.nf;simp[go_sem];refine kL ts.sS.length (fun i U=>U.tm 1 = .ip (cTS ts)/\U.tm 4=aI i/\OwnF mu.length U.mu 2 (U.tm 3) ((dups ((repL eS ts.sS).take i)).map cDg)/\∀ i,i<mu.length->U.mu[i]?=mu[i]?) ?_ ?_
 .simp_all [go_sem,dups,OwnF.nil,qr]
 rintro i U J ⟨P,e4,C,R⟩;have a0:(dups ((repL eS ts.sS).take i)).length<=i:=zL (Ql _) (List.length_take_le ..);generalize h3:U.tm 3=av at *
 by_cases l:i<ts.sS.length
 .have o:=kP eS ts.sS i l
  have wi:=zWk i;simp[go_sem,P,e4,l];refine kL i (fun k st2=>st2.tm 1 = .ip (cTS ts)/\st2.tm 4=aI i/\st2.tm 3=av/\st2.tm 6=aI k/\st2.tm 5=aB ((ts.sS.take k).any fun y=>eS ts.sS[i] y)/\st2.mu=U.mu) ?_ ?_
  .simp [go_sem, *]
  rintro k st2 hk ⟨f1,f4,f3,f6,f5,t⟩;generalize hT:(ts.sS.take k).any (fun y=>eS ts.sS[i] y)=T at *
  by_cases p:k<i
  .have r:k<ts.sS.length:=by omega
   have wk:=zWk k;have g:=Wj (fun y=>eS ts.sS[i] y) ts.sS k r;rw[hT]at g;simp[go_sem,f4,f6,p];refine cH zKr ?_;cases T with
   |true =>
    simp_all[go_sem,Bool.true_or,aK]
   |false =>
    rw[Bool.false_or]at g;by_cases hq:ts.sS[k].1=ts.sS[i].1
    .simp_all [go_sem,eS,decide_eq_true,aK]
    .have j:(ts.sS.take (k+1)).any (fun y=>eS ts.sS[i] y)=false:=by rw[g];exact decide_eq_false fun e=>hq e.symm
     simp_all[go_sem,jV,aK]
  .have a1:k=i:=by omega
   subst a1;rw[hT]at o;cases T with
   |true =>
    simp[go_sem,f4,f3,f6,f5,t];refine Qr (ys:=[(41,0)]) C (by simp[qD]) zSo fun a7 m' a2 a3=>?_
    simp[go_sem,f4,wi];exact⟨l,aK ⟨zS1 f1,zSi,by rw[o,Jj,wI,if_pos rfl];simpa[go_sem] using a2,by simp only[qC];exact fun i J=>(a3 i J).trans (R i J)⟩⟩
   |false =>
    simp[go_sem,f4,f6,f5,t,wi];exact⟨l,aK ⟨zS1 f1,zSi,by rw[o,Jj,wI,if_neg zSp,zO];simpa[go_sem,f3,t] using C,by simp only[qC];exact R⟩⟩
 .have a4:i=ts.sS.length:=by omega
  subst a4;rw[zV (by rw[Qj];exact qr _)]at C;simp[go_sem,P,e4];generalize a8:dups (repL eS ts.sS)=a5 at *
  have ad:a5.length<=4:=by rw[<-a8];exact zL (Ql _) (by rw[Qj];exact a6)
  refine kL ts.sA.length (fun i U=>U.tm 1 = .ip (cTS ts)/\U.tm 7=aI i/\OwnF mu.length U.mu 2 (U.tm 3) ((a5++dups ((repL eF ts.sA).take i)).map cDg)/\∀ i,i<mu.length->U.mu[i]?=mu[i]?) ?_ ?_
  .exact ⟨zS1 P,zSi,by simpa[go_sem,dups,h3] using C,zVs R⟩
  clear a0 C R P e4 h3 l J U;rintro i U J ⟨P,e4,C,R⟩;have a0:(dups ((repL eF ts.sA).take i)).length<=i:=zL (Ql _) (List.length_take_le ..);generalize h3:U.tm 3=a9 at *
  by_cases l:i<ts.sA.length
  .have o:=kP eF ts.sA i l
   have wi:=zWk i;simp[go_sem,P,e4,l];refine kL i (fun k st2=>st2.tm 1 = .ip (cTS ts)/\st2.tm 7=aI i/\st2.tm 3=a9/\st2.tm 9=aI k/\st2.tm 8=aB ((ts.sA.take k).any fun y=>eF ts.sA[i] y)/\st2.mu=U.mu) ?_ ?_
   .exact ⟨zS1 P,zS1 e4,zS1 h3,zSi,zSi,zSi⟩
   rintro k st2 hk ⟨f1,f4,f3,f6,f5,t⟩;generalize hT:(ts.sA.take k).any (fun y=>eF ts.sA[i] y)=T at *
   by_cases p:k<i
   .have r:k<ts.sA.length:=by omega
    have wk:=zWk k;have g:=Wj (fun y=>eF ts.sA[i] y) ts.sA k r;rw[hT]at g;have ae:=h.fl _ (qs r);have aa:=ql5 ts.sA[k].sS ts.sA[i].sS zOm;simp[go_sem,f4,f6,p];refine cH zKr ?_;cases T with
    |true =>
     rw[Bool.true_or]at g;simp[go_sem,f6,f5,p,wk];exact aK ⟨zS1 f1,zS1 f4,zS1 f3,zSi,by rw[g];simp[go_sem],zS1 t⟩
    |false =>
     rw[Bool.false_or]at g;by_cases hq:ts.sA[k].name=ts.sA[i].name
     .simp [go_sem,f1,f4,f6,f5,r,l,hq]
      refine cQ aa (.zk (zh _) (.zk (zh _) .nil)) ?_;by_cases I:ts.sA[k].sS=ts.sA[i].sS
      .have j:(ts.sA.take (k+1)).any (fun y=>eF ts.sA[i] y)=true:=by rw[g];simp[eF,hq.symm,I.symm]
       simp[go_sem,f6,p,wk,I];exact aK ⟨zS1 f1,zS1 f4,zS1 f3,zSi,by rw[j];simp[go_sem],zS1 t⟩
      .have j:(ts.sA.take (k+1)).any (fun y=>eF ts.sA[i] y)=false:=by rw[g];simp[eF,hq.symm];exact fun e=>I e.symm
       simp[go_sem,f6,p,wk,I];exact aK ⟨zS1 f1,zS1 f4,zS1 f3,zSi,by rw[j];simp[go_sem],zS1 t⟩
     .have j:(ts.sA.take (k+1)).any (fun y=>eF ts.sA[i] y)=false:=by rw[g];simp[eF];exact fun e=>absurd e.symm hq
      simp[go_sem,f1,f4,f6,f5,p,r,l,wk,jV hq];exact aK ⟨zS1 f1,zS1 f4,zS1 f3,zSi,by rw[j];simp[go_sem],zS1 t⟩
   .have a1:k=i:=by omega
    subst a1;rw[hT]at o;cases T with
    |true =>
     simp[go_sem,f4,f3,f6,f5,t];refine Qr (ys:=[(41,0)]) C (by simp[qD]) zSo fun a7 m' a2 a3=>?_
     simp[go_sem,f4,wi];exact⟨l,aK ⟨zS1 f1,zSi,by rw[o,Jj,wI,if_pos rfl,<-zt];simpa[go_sem] using a2,by simp only[qC];exact fun i J=>(a3 i J).trans (R i J)⟩⟩
    |false =>
     simp[go_sem,f4,f6,f5,t,wi];exact⟨l,aK ⟨zS1 f1,zSi,by rw[o,Jj,wI,if_neg zSp,zO];simpa[go_sem,f3,t] using C,by simp only[qC];exact R⟩⟩
  .have a4:i=ts.sA.length:=by omega
   subst a4;rw[zV (by rw[Qj];exact qr _)]at C;simp[go_sem,P,e4,h3];exact⟨zUs C,R⟩
end
end QT
namespace QU
open YF Y9 Y10 Y1 Y2 Y15 Y16 YZ P1 P2 PA QD QI QK QT
theorem qrQ{ts i}(l):(∃ p,zw (ckR ts i) ts.sT[i].name=some p/\(ts.sT.take i).any (fun y=>eP ts.sT[i] y)=true)\/(zw (ckR ts i) ts.sT[i].name=none/\(ts.sT.take i).any (fun y=>eP ts.sT[i] y)=false):=by
 cases h:zw (ckR ts i) ts.sT[i].name with
 |some p =>
  left;refine⟨p,rfl,?_⟩;unfold zw at h;rw[List.findIdx?_eq_some_iff_getElem]at h;obtain⟨g,o,_⟩:=h;refine List.any_eq_true.2 ⟨_,qs g,?_⟩
  grind
 |none =>
  right;refine⟨rfl,?_⟩;unfold zw at h;rw[List.findIdx?_eq_none_iff]at h;rw[List.any_eq_false];intro x j;have:=h x j
  grind
theorem rdDg{lo mu av xs}(h:OwnF lo mu 2 av (xs.map cDg)):Rd mu av (lDg xs):=by
 refine h.1.rd (zm.ok fun r g=>?_) fun r g c i=>?_
 .obtain ⟨n,_,rfl⟩:=qn.1 g
  exact⟨rfl,rfl⟩
 .obtain ⟨n,_,rfl⟩:=qn.1 g
  rcases qy.1 i with rfl|i
  .exact HF.sc _
  grind [qV,HF.sc]
theorem Jk{lo sz mu av xs}(h:OwnF lo mu sz av xs)(c):OwnF lo (mu++[c]) sz av xs:=⟨J2 h.1 c,h.2.1,by have:=h.2.2;simp;omega⟩
theorem qrR(ts)(h:okTS ts)(wp:∀ p,p∈ts.sT->WfN p.body)(i)(J:i<ts.sT.length)(hd:depN ts.sT[i].body<=24):qi qe 50 [eTS ts,aI i] (lDg (v6 ts i)):=by
 have a5:=h.pl _ (qs J);have af:=h.np;have c1:=qd5 ts h wp i zOm ts.sT[i].params ⟨zOm,a5.2⟩ zOm ts.sT[i].body (wp _ (qs J)) hd;have c2:=Vv (ckR ts i) (Wi h zOm) ts.sT[i].name;have a6:=qrQ J;have hp:v6 ts i=dups [(ts.sT.take i).any (fun y=>eP ts.sT[i] y)]++(dups (repL eM ts.sT[i].params)++rp (jJ (mkCk ts i) ts.sT[i].params ts.sT[i].body)):=by
  grind [v6,qA,qb1]
 rw[hp];generalize hD:jJ (mkCk ts i) ts.sT[i].params ts.sT[i].body=D at *
 generalize hb:(ts.sT.take i).any (fun y=>eP ts.sT[i] y)=b at *
 have ag:(dups [b]).length<=1:=by grind [dups]
 refine qSU call50 func50 rfl ?_;refine cH zKr ?_;simp[go_sem,J];refine cQ c2 (.zk (zn _) (.zs (.zs .nil))) ?_;have wk:WKs [eTS ts,aI i,lPm ts.sT[i].params,eNd ts.sT[i].body] [eTS ts,aI i,lPm ts.sT[i].params,eNd ts.sT[i].body] := .zk (zn _) (.zs (.zk (um _) (.zk (qL _) .nil)));have ae:=Zh;have fin:∀ U:St,True:=fun _=>trivial
 rcases a6 with ⟨p,hc,R⟩|⟨hc,R⟩
 case' inl =>
  subst R;rw[hc];have a7:(0:Int)<=(p:Int):=zOm;simp[go_sem,idxO,a7];refine Qr (lo:=0) (xs:=[]) (ys:=[(41,0)]) (OwnF.nil zSp) (by simp[qD]) zSp fun ah m0 ai _=>?_
  simp[go_sem,J]
 case' inr =>
  subst R;rw[hc];simp[go_sem,idxO,J]
 all_goals
  generalize a8:ts.sT[i]=g at *
 case' inl =>
  refine kL g.params.length (fun k U=>U.tm 2 = .ip (cTS ts)/\U.tm 1=aI i/\U.tm 6=lPm g.params/\U.tm 7=aI k/\OwnF 0 U.mu 2 (U.tm 5) ((dups [true]++dups ((repL eM g.params).take k)).map cDg)) ?_ ?_
  .simp_all [go_sem,dups]
 case' inr =>
  refine kL g.params.length (fun k U=>U.tm 2 = .ip (cTS ts)/\U.tm 1=aI i/\U.tm 6=lPm g.params/\U.tm 7=aI k/\OwnF 0 U.mu 2 (U.tm 5) ((dups [false]++dups ((repL eM g.params).take k)).map cDg)) ?_ ?_
  .simp_all [go_sem,dups,OwnF.nil]
 all_goals
  rintro k U hk ⟨e2,e1,e6,e7,ho⟩;have a4:(dups ((repL eM g.params).take k)).length<=k:=zL (Y16.Ql _) (List.length_take_le ..);generalize h5:U.tm 5=t at *
  by_cases r:k<g.params.length
  .have a0:=kP eM g.params k r
   have wi:=zWk k;simp[go_sem,e6,e7,r];refine kL k (fun j st2=>st2.tm 2 = .ip (cTS ts)/\st2.tm 1=aI i/\st2.tm 6=lPm g.params/\st2.tm 7=aI k/\st2.tm 5=t/\st2.tm 9=aI j/\st2.tm 8=aB ((g.params.take j).any fun y=>eM g.params[k] y)/\st2.mu=U.mu) ?_ ?_
   .simp [go_sem, *]
   rintro j st2 hj ⟨f2,f1,f6,f7,f5,f9,f8,fm⟩;generalize hT:(g.params.take j).any (fun y=>eM g.params[k] y)=T at *
   by_cases a1:j<k
   .have a2:j<g.params.length:=by omega
    have wj:=zWk j;have o:=Wj (fun y=>eM g.params[k] y) g.params j a2;rw[hT]at o;simp[go_sem,f7,f9,a1];refine cH zKr ?_;cases T with
    |true =>
     simp_all[go_sem,Bool.true_or,aK]
    |false =>
     rw[Bool.false_or]at o;by_cases hq:g.params[j].1=g.params[k].1
     .have l:(g.params.take (j+1)).any (fun y=>eM g.params[k] y)=true:=by rw[o];exact decide_eq_true hq.symm
      simp[go_sem,f6,f7,f9,f8,a1,a2,r,wj,hq];exact aK ⟨zS1 f2,zS1 f1,zS1 f6,zS1 f7,zS1 f5,zSi,by rw[l];simp[go_sem],zS1 fm⟩
     .have l:(g.params.take (j+1)).any (fun y=>eM g.params[k] y)=false:=by rw[o];exact decide_eq_false fun e=>hq e.symm
      simp[go_sem,f6,f7,f9,f8,a1,a2,r,wj,jV hq];exact aK ⟨zS1 f2,zS1 f1,zS1 f6,zS1 f7,zS1 f5,zSi,by rw[l];simp[go_sem],zS1 fm⟩
   .have a9:j=k:=by omega
    subst a9;rw[hT]at a0;cases T with
    |true =>
     simp[go_sem,f7,f5,f9,f8,fm];refine Qr (ys:=[(41,0)]) ho (by simp[qD]) zSo fun aa m' C ab=>?_
     simp[go_sem,f7,wi];exact⟨r,aK ⟨zS1 f2,zS1 f1,zS1 f6,zSi,by rw[a0,Jj,<-zt];simpa[go_sem,wI] using C⟩⟩
    |false =>
     simp[go_sem,f7,f9,f8,fm,wi];exact⟨r,aK ⟨zS1 f2,zS1 f1,zS1 f6,zSi,by rw[a0,Jj];simpa[go_sem,wI,f5,fm] using ho⟩⟩
  .have ad:k=g.params.length:=by omega
   subst ad;rw[zV (by rw[Qj];exact qr _)]at ho a4;simp[go_sem,e6,e7];refine cH zKr ?_;simp[go_sem,e2,e1,e6,J,a8];refine cQ c1 wk ?_;by_cases I:D.1=0
   .have a3:rp D=[]:=if_pos I
    rw[a3];simp[go_sem,h5,I];exact rdDg (Jk ho _)
   .have a3:rp D=[D]:=if_neg I
    rw[a3];simp[go_sem,h5,I];refine Qr (ys:=[D]) (Jk ho _) (by simp[qD]) (by simp only[za,List.length_singleton];omega) fun aa m' C ab=>?_
    simp[go_sem];rw[zt]at C;exact rdDg C
theorem JZ(f:Nat->List Dg)(n):(qu (n+1)).flatMap f=(qu n).flatMap f++f n:=by
 rw[List.range_succ,List.flatMap_append];simp only[wP,List.flatMap_nil,zO]
theorem qrS(ts)(h:okTS ts)(wp:∀ p,p∈ts.sT->WfN p.body)(wf:∀ f,f∈ts.sP->WfN f.2)(dp:∀ p,p∈ts.sT->depN p.body<=24)(df:∀ f,f∈ts.sP->depN f.2<=24):qi qe 24 [eTS ts] (lDg (ju ts)):=by
 have aj:=h.np;have ak:=h.nfa;have hD:(dups (repL eS ts.sS)++dups (repL eF ts.sA)).length<=10:=by
  have a1:=Y16.Ql (repL eS ts.sS);have a2:=Y16.Ql (repL eF ts.sA);rw[Qj]at a1 a2;have:=h.ns;have:=h.nf;rw[za];omega
 have hC:ju ts=(dups (repL eS ts.sS)++dups (repL eF ts.sA))++((qu ts.sT.length).flatMap (v6 ts)++(qu ts.sP.length).flatMap (Qk ts ts.sP)):=by
  unfold ju;rw[zt]
 rw[hC];have a8:=qrP ts h [];generalize dups (repL eS ts.sS)++dups (repL eF ts.sA)=D0 at *
 refine qSU call24 func24 rfl ?_;refine fQ a8 (fun r m hr=>?_) (fun r m hr=>?_)
 case refine_2 =>
  grind
 obtain⟨al,e,an,_⟩:=hr;cases e;simp[go_sem];refine kL ts.sT.length (fun i U=>U.tm 1 = .ip (cTS ts)/\U.tm 4=aI i/\OwnF 0 U.mu 2 (U.tm 3) ((D0++(qu i).flatMap (v6 ts)).map cDg)) ?_ ?_
 .simp_all [go_sem]
 rintro i U hi ⟨e1,e4,P⟩;have ai:=Y16.Kn (v6 ts) (Y16.m7 h) i;generalize h3:U.tm 3=t at *
 by_cases g:i<ts.sT.length
 .have j:=JZ (v6 ts) i
  have ao:=Y16.m7 h i;have a9:=qrR ts h wp i g (dp _ (qs g));have wi:=zWk i;generalize v6 ts i=PD at *
  simp[go_sem,e1,e4,h3,g];refine fR a9 (.zk (zn ts) (.zs .nil)) ?_;refine Qr (ys:=PD) P (by simp[qD]) (by simp only[za];omega) fun aa m' a0 ab=>?_
  simp_all[go_sem,aK,zt]
 .have a3:i=ts.sT.length:=by omega
  subst a3;simp[go_sem,e1,e4];generalize (qu ts.sT.length).flatMap (v6 ts)=P0 at *
  refine kL ts.sP.length (fun i U=>U.tm 1 = .ip (cTS ts)/\U.tm 5=aI i/\OwnF 0 U.mu 2 (U.tm 3) (((D0++P0)++(qu i).flatMap (Qk ts ts.sP)).map cDg)) ?_ ?_
  .exact ⟨zS1 e1,zSi,by simpa[go_sem,h3] using P⟩
  clear P e1 e4 h3 g hi U;rintro i U hi ⟨e1,e4,P⟩;have ad:=Y16.Kn (Qk ts ts.sP) (Y16.qlU ts ts.sP) i;generalize h3:U.tm 3=ae at *
  by_cases g:i<ts.sP.length
  .have j:=JZ (Qk ts ts.sP) i
   have af:Qk ts ts.sP i=dups [(ts.sP.take i).any (fun y=>eA ts.sP[i] y)]++rp (yi ts [] ts.sP[i].2):=by
    unfold Qk;rw[qA g];simp only;rw[qb1,qA g]
   rw[af]at j;have cf:=kO ts h wp [] ⟨zSp,zSp⟩ zSp ts.sP[i].2 (wf _ (qs g)) (df _ (qs g));have wi:=zWk i;generalize yi ts [] ts.sP[i].2=D at *
   simp[go_sem,e1,e4,g];refine kL i (fun k st2=>st2.tm 1 = .ip (cTS ts)/\st2.tm 5=aI i/\st2.tm 3=ae/\st2.tm 7=aI k/\st2.tm 6=aB ((ts.sP.take k).any fun y=>eA ts.sP[i] y)/\st2.mu=U.mu) ?_ ?_
   .exact ⟨zS1 e1,zS1 e4,zS1 h3,zSi,zSi,zSi⟩
   rintro k st2 hk ⟨f1,f4,f3,f6,f5,fm⟩;generalize hT:(ts.sP.take k).any (fun y=>eA ts.sP[i] y)=T at *
   by_cases R:k<i
   .have a4:k<ts.sP.length:=by omega
    have wk:=zWk k;have l:=Wj (fun y=>eA ts.sP[i] y) ts.sP k a4;rw[hT]at l;simp[go_sem,f4,f6,R];refine cH zKr ?_;cases T with
    |true =>
     rw[Bool.true_or]at l;simp[go_sem,f6,f5,R,wk];exact aK ⟨zS1 f1,zS1 f4,zS1 f3,zSi,by rw[l];simp[go_sem],zS1 fm⟩
    |false =>
     rw[Bool.false_or]at l;by_cases hq:ts.sP[k].1=ts.sP[i].1
     .have C:(ts.sP.take (k+1)).any (fun y=>eA ts.sP[i] y)=true:=by rw[l];exact decide_eq_true hq.symm
      simp[go_sem,f1,f4,f6,f5,R,a4,g,wk,hq];exact aK ⟨zS1 f1,zS1 f4,zS1 f3,zSi,by rw[C];simp[go_sem],zS1 fm⟩
     .have C:(ts.sP.take (k+1)).any (fun y=>eA ts.sP[i] y)=false:=by rw[l];exact decide_eq_false fun e=>hq e.symm
      simp[go_sem,f1,f4,f6,f5,R,a4,g,wk,jV hq];exact aK ⟨zS1 f1,zS1 f4,zS1 f3,zSi,by rw[C];simp[go_sem],zS1 fm⟩
   .have ag:k=i:=by omega
    subst ag;rw[hT]at j;have a5:WKs [eTS ts,.lst true [],eNd ts.sP[k].2] [eTS ts,lPm [],eNd ts.sP[k].2] := .zk (zn ts) (.cons (WK.lst fun r hr=>absurd hr qH) (.zk (qL _) .nil));have aq:=nL;cases T with
    |true =>
     simp[go_sem,f4,f3,f6,f5,fm];refine Qr (ys:=[(41,0)]) P (by simp[qD]) (by simp only[za,List.length_singleton];omega) fun aa m' a0 ab=>?_
     simp[go_sem];refine cH zKr ?_;simp[go_sem,f1,f4,g];refine cQ cf a5 ?_;by_cases o:D.1=0
     .have I:rp D=[]:=if_pos o
      rw[I,zO]at j;simp[go_sem,f4,wi,o];exact⟨g,aK ⟨zS1 f1,zSi,by rw[j,<-zt];simpa[go_sem,wI] using Jk a0 (.arr [aI 0,aI D.2])⟩⟩
     .have I:rp D=[D]:=if_neg o
      rw[I]at j;simp[go_sem,o];refine Qr (ys:=[D]) (Jk a0 _) (by simp[qD]) (by simp only[za,List.length_singleton];omega) fun a6 ah J a7=>?_
      simp[go_sem,f4,wi];exact⟨g,aK ⟨zS1 f1,zSi,by rw[j,<-zt];simpa[go_sem,wI,zt] using J⟩⟩
    |false =>
     simp[go_sem,f4,f6,f5,fm];refine cH zKr ?_;simp[go_sem,f1,f4,g];refine cQ cf a5 ?_;by_cases o:D.1=0
     .have I:rp D=[]:=if_pos o
      rw[I,zO]at j;simp[go_sem,f4,wi,o];exact⟨g,aK ⟨zS1 f1,zSi,by rw[j,<-zt];simpa[go_sem,wI,f3] using Jk P (.arr [aI 0,aI D.2])⟩⟩
     .have I:rp D=[D]:=if_neg o
      rw[I]at j;simp[go_sem,f3,o];refine Qr (ys:=[D]) (Jk P _) (by simp[qD]) (by simp only[za,List.length_singleton];omega) fun a6 ah J a7=>?_
      simp[go_sem,f4,wi];exact⟨g,aK ⟨zS1 f1,zSi,by rw[j,<-zt];simpa[go_sem,wI,zt] using J⟩⟩
  .have a3:i=ts.sP.length:=by omega
   subst a3;simp[go_sem,e1,e4,h3];rw[zt]at P;exact rdDg P
end QU
namespace QP
end QP
namespace QV
end QV
namespace QW
open YS YF Y9 Y10 Y1 Y2 YZ YA P1 P2
section
variable {nm:tA}{l:List tA}
abbrev rNm(b:tA):List AV:=[aS b]
abbrev lNm(l:List tA):AV := .lst false (l.map rNm)
def namL(n:Nd):List tA:=((preN n).filter fun x=>decide (x.name≠⟨#[]⟩)).map Nd.name
def vE(l:List Nd):List tA:=((zy l).filter fun x=>decide (x.name≠⟨#[]⟩)).map Nd.name
theorem qrT(n):namL n=(if n.name=⟨#[]⟩ then [] else [n.name])++vE n.sD:=by
 unfold namL vE;rw[wC,List.filter_cons];by_cases h:n.name=⟨#[]⟩
 .simp [h]
 .simp [h]
theorem Y0:∀ a b,zy (a++b)=zy a++zy b
 | [],b=>rfl
 |x :: a,b=>by rw[yT];simp only[zy];rw[Y0 a b,zt]
theorem qrU(a k):vE (a++[k])=vE a++namL k:=by
 grind [vE,namL,Y0,zy]
theorem qrV(l):(vE l).length<=(zy l).length:=by
 grind [vE,zF,List.length_filter_le]
theorem Wk(n):(namL n).length<=(preN n).length:=by
 grind [namL,zF,List.length_filter_le]
theorem kQ(l:List tA):zm 1 (l.map rNm):=fun r g=>by
 obtain⟨x,_,rfl⟩:=qn.1 g;exact⟨rfl,rfl⟩
theorem qd6(l):HF (lNm l):=HF.lst fun r g c i=>by
 obtain⟨x,_,rfl⟩:=qn.1 g
 grind [qV,HF.sc]
theorem rdNm{lo mu av}(h:OwnF lo mu 1 av (l.map rNm)):Rd mu av (lNm l):=
 h.1.rd (kQ l).ok fun r g c i=>by
  obtain⟨x,_,rfl⟩:=qn.1 g
  grind [qV,HF.sc]
theorem appNm{mu lo s x}{xs ys:List tA}{K}(j:OwnF lo mu 1 s (xs.map rNm))(l:qD mu x=some (ys.map rNm))(o:xs.length+ys.length<=1000000)(p:∀ av mu',OwnF lo mu' 1 av ((xs++ys).map rNm)->(∀ i,i<lo->mu'[i]?=mu[i]?)->K av mu') :
  qz qe mu #[173,173] s x K:=by
 refine qz.ownF (lo:=lo) (e:=9) (sz:=1) (bt:=16) (zv:=aS ⟨#[]⟩) (xs:=xs.map rNm) (ys:=ys.map rNm) zSi zSi zSi rfl rfl zOm zOm j l (kQ xs) (kQ ys) zSo ?_
 grind
theorem qrW(l k):(zy (l.take k)).length<=(zy l).length:=by
 grind [zy,Y0,vF,za]
theorem kR:∀ m n,szN n<=m->Small n->∀ lo mu av xs,OwnF lo mu 1 av (xs.map rNm)->xs.length+(preN n).length<=500000 ->
  qE qe 154 [av,eNd n] mu fun e t=>∃ g,e = .ret g/\OwnF lo t 1 g ((xs++namL n).map rNm)/\∀ i,i<lo->t[i]?=mu[i]?
 | 0,n,I,_=>by obtain⟨op,nm,i,ks,p⟩:=n;simp[szN]at I
 |m+1,n,I,hs=>by
  intro lo mu av xs C hl;have ih:∀ k,k∈n.sD->∀(lo:Nat)(mu:Mu)(av:AV)(xs:List tA),OwnF lo mu 1 av (xs.map rNm)->xs.length+(preN k).length<=500000->qE qe 154 [av,eNd k] mu fun e t=>∃ g,e = .ret g/\OwnF lo t 1 g ((xs++namL k).map rNm)/\∀ i,i<lo->t[i]?=mu[i]?:=fun k P =>
   kR m k (zW1 (yw P)) (hs.kid P)
  have a2:=hs.len;have l:=qrT n;have a3:(preN n).length=1+(zy n.sD).length:=by rw[wC,zu];omega
  refine qSW call154 func154 rfl {} ?_;by_cases J:n.name=⟨#[]⟩
  case' pos =>
   rw[if_pos J,vo]at l;simp[go_sem,J];refine kL n.sD.length (fun k U=>U.tm 3 = .ip (cNd n)/\U.tm 5=aI k/\OwnF lo U.mu 1 (U.tm 0) ((xs++vE (n.sD.take k)).map rNm)/\∀ i,i<lo->U.mu[i]?=mu[i]?) ?_ ?_
   .simp_all [go_sem,vE,zy]
   generalize hX:xs=X at *
   have R:X.length+(zy n.sD).length<=500000:=zOm;have j:X++vE n.sD=X++namL n:=by rw[l]
  case' neg =>
   rw[if_neg J]at l;have T:n.name.toList.isEmpty=false:=by simpa using jV J
   simp[go_sem,T];refine appNm (ys:=[n.name]) C (by simp[qD]) (by grind) fun g t a4 a5=>?_
   simp[go_sem];refine kL n.sD.length (fun k U=>U.tm 3 = .ip (cNd n)/\U.tm 5=aI k/\OwnF lo U.mu 1 (U.tm 0) (((xs++[n.name])++vE (n.sD.take k)).map rNm)/\∀ i,i<lo->U.mu[i]?=mu[i]?) ?_ ?_
   .simp_all [go_sem,vE,zy]
   generalize hX:xs++[n.name]=X at *
   have R:X.length+(zy n.sD).length<=500000:=by grind
   have j:X++vE n.sD=xs++namL n:=by grind
  all_goals
   rintro k U P ⟨e3,e5,C,I⟩;generalize h0:U.tm 0=a0 at *
   by_cases o:k<n.sD.length
   .have w1:=zWk k
    have a6:vE (n.sD.take (k+1))=vE (n.sD.take k)++namL n.sD[k]:=by rw[vO o,qrU]
    have a7:(zy (n.sD.take (k+1))).length=(zy (n.sD.take k)).length+(preN n.sD[k]).length:=by grind [vO,Y0,zy]
    have h1:=qrW n.sD (k+1);have h2:=qrV (n.sD.take k);simp[go_sem,e3,e5,h0,o,zf];refine fQ (ih n.sD[k] (qs o) lo U.mu a0 _ C (by rw[za];omega)) (fun r m2 hr=>?_) (fun r m2 hr=>?_)
    .simp_all [go_sem,aK,zt,qC,trans]
    grind
   .have a1:k=n.sD.length:=by omega
    subst a1;rw[qP,j]at C;simp[go_sem,e3,e5,h0];exact⟨zUs C,I⟩
def takL(ts:TS)(n:Nd):List tA:=namL n++ts.sT.flatMap fun p=>namL p.body
theorem qrX(ts)(h:okTS ts)(wp:∀ p,p∈ts.sT->WfN p.body)(n)(hw:WfN n)(hl:(preN n).length<=400)(hp:∀ p,p∈ts.sT->(preN p.body).length<=400):qi qe 97 [eTS ts,eNd n] (lNm (takL ts n)):=by
 have a3:=h.np;have hk:∀ i (o:i<ts.sT.length),ts.sT.take (i+1)=ts.sT.take i++[ts.sT[i]]:=fun i o=>vO o
 have I:∀ i,((ts.sT.take i).flatMap fun p=>namL p.body).length<=400*i:=by
  intro i;induction i with
  |zero=>simp
  |succ i ih =>
   by_cases o:i<ts.sT.length
   .rw [hk i o,List.flatMap_append,za]
    have h1:=Wk ts.sT[i].body;have h2:=hp _ (qs o);simp only[wP,List.flatMap_nil,zO];omega
   .have e1:ts.sT.take (i+1)=ts.sT:=zV zOm
    have l:ts.sT.take i=ts.sT:=zV zOm;rw[e1];rw[l]at ih;omega
 have hn:=Wk n;refine qSU call97 func97 rfl ?_;refine fQ (kR (szN n) n (qr _) hw.small 0 [] (.lst true []) [] (OwnF.nil zSp) zSo) (fun r J j=>?_) (fun r J j=>?_)
 case refine_2 =>
  obtain⟨t,e,_⟩:=j;cases e
 obtain⟨a4,e,C,_⟩:=j;cases e;rw[vo]at C;simp[go_sem];refine kL ts.sT.length (fun k U=>U.tm 2 = .ip (cTS ts)/\U.tm 6=aI k/\OwnF 0 U.mu 1 (U.tm 5) ((namL n++(ts.sT.take k).flatMap fun p=>namL p.body).map rNm)) ?_ ?_
 .exact ⟨zSi,zSi,zVs C⟩
 rintro k U a5 ⟨l,P,R⟩;generalize h5:U.tm 5=T at *
 by_cases g:k<ts.sT.length
 .have w1:=zWk k
  have a0:(ts.sT.take (k+1)).flatMap (fun p=>namL p.body)=(ts.sT.take k).flatMap (fun p=>namL p.body)++namL ts.sT[k].body:=by
   rw[hk k g,List.flatMap_append];simp only[wP,List.flatMap_nil,zO]
  have h1:=I k;have h2:=hp _ (qs g);simp[go_sem,l,P,h5,g,Zh];refine fQ (kR (szN ts.sT[k].body) ts.sT[k].body (qr _) (wp _ (qs g)).small 0 U.mu T _ R (by rw[za];omega)) (fun r J j=>?_) (fun r J j=>?_)
  .obtain ⟨t,e,a1,_⟩:=j
   cases e;simp[go_sem,l,P,w1];exact⟨g,aK ⟨zS1 l,zSi,by rw[a0,<-zt];simpa[go_sem] using a1⟩⟩
  .obtain ⟨t,e,_⟩:=j
   cases e
 .have a2:k=ts.sT.length:=by omega
  subst a2;rw[qP]at R;simp[go_sem,l,P,h5];exact rdNm R
def inL(nm:tA)(l:List tA):Bool:=l.any fun x=>decide (x=nm)
theorem kS:inL nm l=true↔nm∈l:=by
 unfold inL;simp
theorem qd7(h:¬nm∈l):inL nm l=false:=by
 grind [inL,absurd,kS]
theorem hasU(l nm)(P:l.length<=1000000):qi qe 200 [lNm l,aS nm] (aB (inL nm l)):=by
 refine qSU call200 func200 rfl ?_;refine kL l.length (fun k U=>U.tm 0=lNm l/\U.tm 1=aS nm/\U.tm 5=aI k/\∀ x,x∈l.take k->x≠nm) ?_ ?_
 .simp [go_sem, *]
 rintro k U R ⟨i,j,r,t⟩;by_cases g:k<l.length
 .have J:=zWk k
  by_cases o:l[k]=nm
  .have C:inL nm l=true:=kS.2 (o ▸ qs g)
   rw[C];simp[go_sem,i,j,r,g,o];exact .zsc _
  .simp [go_sem,i,j,r,g,jV o,J]
   refine aK ⟨zS1 i,zS1 j,zSi,fun x p=>?_⟩;rw[vO g,qK,qV]at p;rcases p with p|rfl
   .exact t x p
   .exact o
 .have I:k=l.length:=by omega
  subst I;rw[qP]at t;have C:inL nm l=false:=qd7 fun h=>t nm h rfl
  rw[C];simp[go_sem,i,j,r];exact .zsc _
theorem qrY(u:Nat)(h:u<10):ByteArray.empty.push (UInt8.ofNat ((48:Int)+(u:Int)).toNat)=jA u:=by
 unfold jA;rw[Lib.itoa_nonneg,Lib.decDigits_one h,show ((48:Int)+(u:Int)).toNat=48+u by omega];rfl
theorem qrZ(u)(h:¬u<10):jA ((u / 10:Nat):Int)++ByteArray.empty.push (UInt8.ofNat ((48:Int)+((u % 10:Nat):Int)).toNat)=jA u:=by
 unfold jA;rw[Lib.itoa_nonneg,Lib.itoa_nonneg,Lib.decDigits.eq_1 u,dif_neg h,show ((48:Int)+((u % 10:Nat):Int)).toNat=48+u % 10 by omega];apply ByteArray.ext;simp
theorem digU:∀(m u:Nat),u<=m->u<=1000000000->qi qe 199 [aI u] (aS (jA u))
 |m,u,J,P=>by
  have r:qp.wrap (48+(u:Int))=48+(u:Int):=zWr;refine qSV call199 func199 rfl ?_;by_cases h:u<10
  .have i:(u:Int)<10:=by omega
   have t:IntKind.u8.wrap (48+(u:Int))=48+(u:Int):=IntWalk.u8_in _ ⟨zOm,zOm⟩;have g:=qrY u h;simp[go_sem,i,r,t,g];exact .zsc _
  .have i:¬(u:Int)<10:=by omega
   have C:=digU (u / 10) (u / 10) (qr _) zOm;have g:=qrZ u h;simp[go_sem,i];refine cH zKr ?_;have I:qp.wrap ((u:Int) / 10)=((u / 10:Nat):Int):=by rw[show ((u:Int) / 10)=((u / 10:Nat):Int) from rfl];grind [zW]
   have t3:(u:Int).tmod 10=((u % 10:Nat):Int):=rfl;have o:qp.wrap (48+((u % 10:Nat):Int))=48+((u % 10:Nat):Int):=zWr;have p:IntKind.u8.wrap (48+((u % 10:Nat):Int))=48+((u % 10:Nat):Int):=IntWalk.u8_in _ ⟨zOm,zOm⟩;have j:=KP ((u / 10:Nat):Int) zOm zOm;simp[go_sem,I];refine cQ C (.zs .nil) ?_;have c1:((u / 10:Nat):Int)=(u:Int) / 10:=rfl;have c2:((u % 10:Nat):Int)=(u:Int) % 10:=rfl;rw[c1]at j g;rw[c2]at o p g;have l:(jA ((u:Int) / 10)).size<=9223372036854775806:=zOm;simp[go_sem,t3,o,p,l,g];exact .zsc _
end
end QW
namespace QX
open YS YF Y9 Y1 Y2 YX YZ YA YB P1 QD QK QW
abbrev cWk(ts:TS)(l:List tA)(s:ISt):List AV:=cTS ts++[lNm l,aI s.last,aI s.sM]
abbrev eWk(ts:TS)(l:List tA)(s:ISt):AV := .agg (cWk ts l s)
theorem qr0(ts l s):∀ c,c∈cWk ts l s->HF c:=fun c g=>by
 rcases qK.1 g with g|g
 .exact JR ts c g
 .simp only[qy,qH,or_false]at g
  rcases g with rfl|rfl|rfl
  .exact qd6 l
  .exact HF.sc _
  .exact HF.sc _
theorem wJ(ts l s):HF (eWk ts l s):=HF.agg (qr0 ts l s)
structure Tn (l:List tA) (es:List (tA×Bool)):Prop where
 mem:∀ nm:tA,nm≠⟨#[]⟩->(nm∈l↔getK nm es=some true)
 len:es.length<=l.length+1
theorem vN_ne(k):vN k≠⟨#[]⟩:=fun e=>by
 have:=congrArg ByteArray.size e;unfold vN at this;rw[ByteArray.size_append]at this;have g:(⟨#[118]⟩:tA).size=1:=rfl;have i:(⟨#[]⟩:tA).size=0:=rfl;omega
theorem qr1{ts l es}(t:Tn l es)(k):yJ ts es (vN k)=(decide ((means ts (vN k)).length=0)&&!inL (vN k) l):=by
 unfold yJ;have i:=t.mem (vN k) (vN_ne k);have g:decide (means ts (vN k)=[])=decide ((means ts (vN k)).length=0):=by
  simp[List.length_eq_zero_iff]
 rw[g,Bool.and_comm];congr 1;by_cases j:vN k∈l
 .grind [kS]
 simp_all[qd7,Bool.not_false,decide_eq_true_eq]
theorem two{J:Type}{l}{a b:J}(g:l[0]?=some a)(i:l[1]?=some b):∃ r,l=a :: b :: r:=by
 match l,g,i with
 |_ :: _ :: r,g,i =>
  grind
abbrev zWc:List AV:=[.lst true [],.lst true [],.lst true [],.lst true [],.lst true [],aI 0,aI 0]
theorem qr2(ts)(h:okTS ts)(l es)(t:Tn l es)(hl:l.length<=400000)(s:ISt)(hs:0<=s.last/\s.last+(qq ts es:Nat)<=1000000000)(a4:∃ j,1<=j/\j<=qq ts es/\yJ ts es (vN (s.last+j))=true) :
  qi qe 153 [eWk ts l s] (.tup [eWk ts l ⟨zz ts es (qq ts es) s.last,s.sM⟩,aS (vN (zz ts es (qq ts es) s.last))]):=by
 have a8:=h.ns;have a9:=h.nf;have hF:qq ts es<=l.length+40:=by have:=t.len;unfold qq;omega
 have a5:okNm ts:=⟨h.sl,zOm,zOm,fun f hf=>zW1 (h.fl f hf)⟩;generalize aa:qq ts es=F at *
 generalize hR:zz ts es F s.last=R;refine qSQ call153 func153 rfl { mt:=[1] } ?_;simp[go_sem];refine cZ (fun m U=>∃(i:Nat) (k:Int),i+m=F/\0<=k/\k+m<=1000000000/\U.tm 1 = .ptr 0 0/\U.tm 2 = .ptr 1 0/\U.tm 4=aI i/\U.mu[0]?=some (.arr (cWk ts l ⟨k,s.sM⟩))/\U.mu[1]?=some (.arr zWc)/\zz ts es m k=R/\∃ j:Nat,1<=j/\j<=m/\yJ ts es (vN (k+j))=true) F ?_ ?_
 .exact ⟨0,s.last,zOm,hs.1,zOm,zSi,zSi,zSi,zSi,zSi,hR,a4⟩
 rintro m U ⟨i,k,ab,ad,ae,I,J,e4,m0,m1,hI,j,af,ag,ah⟩;obtain⟨m,rfl⟩:∃ m',m=m'+1:=⟨m-1,zOm⟩;obtain⟨rr,o⟩:=two m0 m1;have w1:qp.wrap (k+1)=k+1:=zWr;have w2:qp.wrap ((l.length:Int)+40)=(l.length:Int)+40:=zWr;have w3:=zWk i;have g:(i:Int)<=(l.length:Int)+40:=zOm;obtain⟨u,hu⟩:∃ u:Nat,k+1=(u:Int):=⟨(k+1).toNat,zOm⟩;have cd:=digU u u (qr _) zOm;have ai:=KP (u:Int) zOm zOm;have a2:1+(jA (u:Int)).size<=9223372036854775807:=zOm;have hv:(⟨#[118]⟩:tA)++jA (u:Int)=vN (k+1):=by rw[hu];rfl
 have p:=qr1 (ts:=ts) t (k+1);have cn:=kw ts a5 (vN (k+1));have T:=kv ts (vN (k+1));have hk:(named ts (vN (k+1))).2=(means ts (vN (k+1))).length:=by rw[kK h]
 rw[hk]at cn;generalize (named ts (vN (k+1))).1=C at *
 have ch:=hasU l (vN (k+1)) zOm;clear m0 m1;simp[go_sem,I,J,e4,o,w1,w2,g];refine cQ cd (.cons (by rw[hu];exact .hf (HF.sc _)) .nil) ?_;simp[go_sem,I,J,e4,o,w1,w2,g,a2,hv];refine cQ cn (.zk (zn ts) (.zs .nil)) ?_;simp[go_sem,I,J,e4,o,w1,w2,g,T.len];rw[if_pos T.one];generalize putCells _ 0 C=PC;have next:yJ ts es (vN (k+1))=false->∃ k':Int,k'=k+1/\zz ts es m k'=R/\∃ j:Nat,1<=j/\j<=m/\yJ ts es (vN (k'+j))=true:=fun hn=>by
  refine⟨k+1,rfl,?_,j-1,?_,zOm,?_⟩
  .simp_all [zz,if_neg]
  .have:j≠1:=fun e=>by grind
   omega
  grind
 by_cases P:means ts (vN (k+1))=[]
 .rw [P]at p
  simp[go_sem,I,J,e4,o,w1,w2,g,P];refine cQ ch (.zk (qd6 l) (.zs .nil)) ?_;cases a3:inL (vN (k+1)) l with
  |true =>
   rw[a3]at p;obtain⟨k',r,a0,a1⟩:=next p;simp[go_sem,I,J,e4,o,w1,w2,w3,g];exact⟨m,zOm,aK ⟨i+1,k+1,zOm,zOm,zOm,zS1 I,zS1 J,zSi,zSi,zSi,by rw[<-r];exact a0,by rw[<-r];exact a1⟩⟩
  |false =>
   rw[a3]at p;have a6:R=k+1:=by rw[<-hI];simp only[zz];rw[if_pos (by rw[p];rfl)]
   simp[go_sem,I,J,e4,o,w1,w2,g];rw[a6];exact .hf _ (HF.tup fun x hx=>by
    simp only[qy,qH,or_false]at hx;rcases hx with rfl|rfl
    .exact wJ ts l ⟨k+1,s.sM⟩
    .exact HF.sc _)
 .have a7:¬(means ts (vN (k+1))).length=0:=fun e=>P (List.length_eq_zero_iff.1 e)
  rw[decide_eq_false a7]at p;obtain⟨k',r,a0,a1⟩:=next p;simp[go_sem,I,J,e4,o,w1,w2,w3,g,P];exact⟨m,zOm,aK ⟨i+1,k+1,zOm,zOm,zOm,zS1 I,zS1 J,zSi,zSi,zSi,by rw[<-r];exact a0,by rw[<-r];exact a1⟩⟩
abbrev Sb:=tA×IV
def cAr:Option Nd->List AV
 |some a=>cNd a
 |none=>[aI 0,aS ⟨#[]⟩,aI 0,.lst true [],aI 0]
@[go_sem] theorem cAr_some(a):cAr (some a)=cNd a:=rfl
@[go_sem] theorem cAr_none:cAr none=[aI 0,aS ⟨#[]⟩,aI 0,.lst true [],aI 0]:=rfl
@[go_sem] theorem qr3(o):(cAr o).length=5:=by cases o<;>simp[go_sem,yB]
theorem qr4(o):∀ c,c∈cAr o->HF c:=by
 cases o with
 |some a=>exact vJ a
 |none =>
  intro c g;simp only[cAr,qy,qH,or_false]at g;rcases g with rfl|rfl|rfl|rfl|rfl
  .exact HF.sc _
  .exact HF.sc _
  .exact HF.sc _
  .exact HF.lst fun r i=>absurd i qH
  .exact HF.sc _
abbrev cSb(x:Sb):List AV:=[aS x.1,aS x.2.name,aB x.2.arg.isSome]++cAr x.2.arg++[aI x.2.size]
abbrev lSb(l:List Sb):AV := .lst false (l.map cSb)
def uY(nm:tA)(l:List Sb):Option IV:=l.foldl (fun r e=>if e.1=nm then some e.2 else r) none
theorem Wl(nm l e):uY nm (l++[e])=if e.1=nm then some e.2 else uY nm l:=by
 unfold uY;rw[vQ];rfl
theorem kT{mu}(ts l s n z):Rd mu (.tup [eWk ts l s,eNd n,aI z]) (.tup [eWk ts l s,eNd n,aI z]) := .hf _ (HF.tup fun x g=>by
 simp only[qy,qH,or_false]at g;rcases g with rfl|rfl|rfl
 .exact wJ ts l s
 .exact qL n
 .exact HF.sc _)
def Qs(sc:List Sb)(n:Nd)(s:ISt):(Nd×Int)×ISt:=match uY n.name sc with
 |none=>((n,1),s)
 |some v=>match v.arg with
  |none=>((.mk n.op v.name n.n n.sD n.pos,1),s)
  |some a=>((a,v.size),payS v.size s)
theorem leafU(ts l sc)(hl:sc.length<=1000000)(n s)(hs:0<=s.sM/\s.sM<=1000000)(hz:∀ e,e∈sc->0<=e.2.size/\e.2.size<=1000000) :
  qi qe 150 [eWk ts l s,lSb sc,eNd n] (.tup [eWk ts l (Qs sc n s).2,eNd (Qs sc n s).1.1,aI (Qs sc n s).1.2]):=by
 unfold Qs;generalize hR:uY n.name sc=R;have wl:qp.wrap ((sc.length:Int)-1)=(sc.length:Int)-1:=zWr;refine qSQ call150 func150 rfl { mt:=[3,5] } ?_;simp[go_sem,wl,zf];refine cZ (fun m U=>m<=sc.length/\U.tm 1=lSb sc/\U.tm 3 = .ptr 0 0/\U.tm 5 = .ptr 1 0/\U.tm 6 = .ptr 2 0/\U.tm 7 = .ptr 3 0/\U.tm 9=aI ((m:Int)-1)/\U.mu=[.arr (cWk ts l s),.arr (cNd n),.arr zWc,.arr [aI 0,aS ⟨#[]⟩,aI 0,.lst true [],aI 0]]/\uY n.name (sc.take m)=R) sc.length ?_ ?_
 .simp [go_sem, *]
 rintro m U ⟨a2,j,o,p,r,t,C,I,P⟩;cases m with
 |zero =>
  have a1:R=none:=by rw[<-P];rfl
  subst a1;simp[go_sem,j,o,p,r,t,C,I,zf];refine fD [0,1,4,2,3] [(0,0,[]),(1,0,[]),(4,0,[]),(2,1,[1]),(3,1,[])] zKr zKr zSi ?_;simp[go_sem,j,o,p,r,t,C,I,zf]
  grind [kT]
 |succ m =>
  have g:m<sc.length:=zOm;have a3:(0:Int)<=((m+1:Nat):Int)-1:=zOm;have T:((m+1:Nat):Int)-1=(m:Int):=zOm;rw[T]at C;rw[vO g,Wl]at P;have w1:qp.wrap ((m:Int)-1)=(m:Int)-1:=zWr;have a4:=hz _ (qs g);generalize i:sc[m]=e at *
  by_cases J:e.1=n.name
  .rw [if_pos J]at P
   subst P;have w2:qp.wrap (s.sM+e.2.size)=s.sM+e.2.size:=zWr;simp[go_sem,j,o,p,r,t,C,I,zf,g];refine cH zKr ?_;simp[go_sem,j,o,p,r,t,C,I,zf,g,i,J];cases ha:e.2.arg with
   |none =>
    simp[go_sem,j,o,p,r,t,C,I,zf,g,i,J,ha];refine fD [0,1,4,2,3] [(0,0,[]),(1,0,[]),(4,0,[]),(2,1,[1]),(3,1,[])] zKr zKr zSi ?_;have a0:(cNd n).set 1 (AV.sc (.string e.2.name))=cNd (.mk n.op e.2.name n.n n.sD n.pos):=by rw[yB n,yB];rfl
    rw[a0];simp[go_sem,j,o,p,r,t,C,I,zf]
    grind [kT]
   |some a =>
    simp[go_sem,j,o,p,r,t,C,I,zf,g,i,J,ha];refine fD [0,1,2,3,4,5,6,7,8,9] [(0,0,[]),(1,0,[]),(2,0,[]),(3,0,[]),(4,0,[]),(5,0,[]),(6,0,[]),(7,0,[]),(8,0,[]),(9,1,[])] zKr zKr zSi ?_;simp[go_sem,j,o,p,r,t,C,I,zf,g,i,J,ha,w2];refine fD [0,1,2,3,4,5,6,7,8,9,10,13,11,12] [(0,0,[]),(1,0,[]),(2,0,[]),(3,0,[]),(4,0,[]),(5,0,[]),(6,0,[]),(7,0,[]),(8,0,[]),(9,0,[]),(10,0,[]),(13,0,[]),(11,1,[5,10]),(12,1,[10])] zKr zKr zSi ?_;simp[go_sem,j,o,p,r,t,C,I,zf,g,i,J,ha,w2]
    grind [kT,payS]
  .rw [if_neg J]at P
   simp[go_sem,j,o,p,r,t,C,I,zf,g];refine cH zKr ?_;simp[go_sem,j,o,p,r,t,C,I,zf,g,i,jV J,w1];exact⟨m,zOm,aK ⟨zOm,zS1 j,zS1 o,zS1 p,zS1 r,zS1 t,zSi,zS1 I,P⟩⟩
theorem kU:∀ m n,szN n<=m->Small n->depN n<=1000000->qi qe 98 [eNd n] (aI (depN n))
 | 0,n,J,_,_=>by obtain⟨op,nm,i,ks,p⟩:=n;simp[szN]at J
 |m+1,n,J,P,R=>by
  have ih:∀ k,k∈n.sD->qi qe 98 [eNd k] (aI (depN k)):=fun k j =>
   kU m k (zW1 (yw j)) (P.kid j) (by rw[Zp]at R;have:=qbR j;omega)
  rw[Zp]at R⊢;have T:=P.len;have a0:=UU n.sD;generalize hD:yz n.sD=D at *
  refine qSU call98 func98 rfl ?_;refine kL n.sD.length (fun k U=>∃ d,U.tm 3=aI d/\U.tm 1 = .ip (cNd n)/\U.tm 4=aI k/\0<=d/\max d (yz (n.sD.drop k))=D) ?_ ?_
  .exact ⟨0,zSi,zSi,zSi,zOm,by grind⟩
  .rintro k U j ⟨d,r,l,t,a1,o⟩
   by_cases C:k=n.sD.length
   .subst C
    rw[zZ]at o;simp only[yz]at o;have I:d=D:=zOm;subst I;have w:qp.wrap (d+1)=d+1:=zWr;simp[go_sem,r,l,t,w];exact .zsc _
   .have g:k<n.sD.length:=by omega
    have w1:=zWk k;rw[zp g]at o;simp only[yz]at o;simp[go_sem,r,l,t,g,zf];refine cQ (ih n.sD[k] (qs g)) (.zk (qL _) .nil) ?_;simp[go_sem,r,l,t,w1];refine⟨g,aK ?_⟩;refine⟨if d<depN n.sD[k] then depN n.sD[k] else d,zSi,zS1 l,zSi,?_,?_⟩
    .omega
    omega
end QX
namespace QY
open Y1 YX YA YB YC P1 P2 PA QE QX
section
variable {es:List (tA×Bool)}
structure ScOf (ts:TS) (body:Bool) (sc:List Sb) (env:IEnv):Prop where
 look:∀ nm,uY nm sc=getK nm env
 own:body=false->∀ nm v,getK nm env=some v->means ts nm≠[]
 sz:∀ e,e∈sc->0<=e.2.size/\e.2.size<=4000
def OutR(r:XR (Nd×Int))(s':ISt)(n':Nd)(z:Int):Prop:=match r with
 | .ok ((m,y),t)=>n'=m/\z=y/\s'=t
 | .error _=>4000<s'.sM/\s'.sM<=9000/\0<=z/\z<=4000
def renR(ts:TS)(es:List (tA×Bool))(sc:List Sb)(nm:tA)(body:Bool)(s:ISt):(List Sb×tA)×ISt:=
 if body=true\/means ts nm≠[] then
  ((sc++[(nm,⟨none,0,vN (zz ts es (qq ts es) s.last)⟩)],vN (zz ts es (qq ts es) s.last)),⟨zz ts es (qq ts es) s.last,s.sM⟩)
 else ((sc,nm),s)
abbrev XO:=ISt×Nd×Int
def ud(E:Nd->ISt->XO):List (tA×Int)->List Nd->List Sb->ISt->Except ISt (List Sb×ISt)
 |p :: g,k :: ks,own,s=>if 4000<(E k s).1.sM then .error (E k s).1 else ud E g ks (own++[(p.1,⟨some (E k s).2.1,(E k s).2.2,⟨#[]⟩⟩)]) (E k s).1
 |_,_,own,s => .ok (own,s)
def uy(E:List Sb->Nd->ISt->XO)(R:List Sb->tA->ISt->(List Sb×tA)×ISt)(bin:Bool):Nat->List Sb->tA->List Nd->ISt->Except ISt ((tA×List Nd×Int)×ISt)
 |_,_,o,[],s => .ok ((o,[],0),s)
 |i,sc,o,k :: ks,s =>
  let r:=if bin=true/\i=1 then R sc o s else ((sc,o),s)
  let q:=E r.1.1 k r.2
  if 4000<q.1.sM then .error q.1 else match uy E R bin (i+1) r.1.1 r.1.2 ks q.1 with
   | .error e => .error e
   | .ok ((g,j,p),l) => .ok ((g,q.2.1 :: j,q.2.2+p),l)
def expR(ts:TS)(es:List (tA×Bool)):Nat->List Sb->Nd->Bool->ISt->XO
 | 0,_,n,_,s=>(s,n,0)
 |f+1,sc,n,g,s =>
  if s.sM+1<=4000 then
   if n.op=1 then ((Qs sc n (payS 1 s)).2,(Qs sc n (payS 1 s)).1.1,(Qs sc n (payS 1 s)).1.2)
   else if n.op=47 then match ts.sT.find? fun p=>decide (p.name=n.name) with
    |none=>(payS 1 s,n,1)
    |some p=>match ud (fun k s=>expR ts es f sc k g s) p.params n.sD [] (payS 1 s) with
     | .error i=>(i,nd0,0)
     | .ok (own,i)=>expR ts es f own p.body true i
   else match uy (fun sc k s=>expR ts es f sc k g s) (fun sc o s=>renR ts es sc o g s) (binB n.op) 0 sc n.name n.sD (payS 1 s) with
    | .error i=>(i,nd0,0)
    | .ok ((o,ks,m),i)=>(i,.mk n.op o n.n ks n.pos,1+m)
  else (payS 1 s,nd0,0)
theorem Wm{F s s' z}(g:Gos F s s' z)(h:StOk F s):StOk F s'/\s.sM<=s'.sM/\z<=4000:=⟨g.ok h,zW2 g.cz g.z0,by have:=g.cz;have:=g.c1;have:=h.c0;omega⟩
theorem qd8{F f:Nat}{E E'}:∀ ps ks own i s,
  (∀ k,k∈ks->∀ s,StOk F s->4000<s.sM+(f:Int)->OutR (E k s) (E' k s).1 (E' k s).2.1 (E' k s).2.2)->(∀ k n' z s s',k∈ks->StOk F s->E k s = .ok ((n',z),s')->Gos F s s' z) ->
  StOk F s->4000<s.sM+(f:Int)->zx own->(∀ nm,uY nm i=getK nm own)->(∀ e,e∈i->0<=e.2.size/\e.2.size<=4000) ->
  match jx E ps ks own s with
  | .error _=>∃ t,ud E' ps ks i s = .error t/\4000<t.sM/\t.sM<=9000
  | .ok (l,s')=>∃ j,ud E' ps ks i s = .ok (j,s')/\zx l/\(∀ nm,uY nm j=getK nm l)/\(∀ e,e∈j->0<=e.2.size/\e.2.size<=4000)/\StOk F s'/\s.sM<=s'.sM
 | [],ks,own,i,s,_,_,o,_,J,P,R=>by simp only[jx,ud];exact⟨i,rfl,J,P,R,o,vh _⟩
 |p :: ps,[],own,i,s,_,_,o,_,J,P,R=>by simp only[jx,ud];exact⟨i,rfl,J,P,R,o,vh _⟩
 |p :: ps,k :: ks,own,i,s,hE,hG,o,hf,J,P,R=>by
  simp only[jx,ud];have C:=hE k (zl ..) s o hf;have h2:=fun n' z s'=>hG k n' z s s' (zl ..) o
  generalize E' k s=Q at *
  cases T:E k s with
  |error d =>
   rw[T]at C;simp only;rw[if_pos C.1];exact⟨_,rfl,C.1,C.2.1⟩
  |ok r =>
   obtain⟨⟨m,y⟩,t⟩:=r;rw[T]at C;obtain⟨e1,e2,e3⟩:=C;have g:=h2 m y t T;obtain⟨g1,g2,g3⟩:=Wm g o;have hc:=g.c1;simp only;rw[if_neg (by rw[e3];omega),e1,e2,e3];have ih:=qd8 (F:=F) (f:=f) ps ks (setK p.1 ⟨some m,y,⟨#[]⟩⟩ own) (i++[(p.1,⟨some m,y,⟨#[]⟩⟩)]) t (fun k U=>hE k (zc _ U)) (fun k n' z s s' U=>hG k n' z s s' (zc _ U)) g1 zOm (J.set ⟨g.z0,g3⟩) (fun nm=>by
    rw[Wl,vw,P];by_cases e:p.1=nm
    .grind
    .rw [if_neg e,if_neg fun x=>e x.symm]) (fun e I=>by
    rcases qK.1 I with I|I
    .exact R e I
    .rw [qV]at I;subst I;exact⟨g.z0,g3⟩)
   grind
theorem qd9{ts env sc nm body s}(j:zx env)(h:ScOf ts body sc env) :
  ScOf ts body (renR ts es sc nm body s).1.1 (renI ts es env nm body s).1.1/\(renR ts es sc nm body s).1.2=(renI ts es env nm body s).1.2/\(renR ts es sc nm body s).2=(renI ts es env nm body s).2:=by
 unfold renR renI;by_cases l:body=true\/means ts nm≠[]
 .rw [if_pos l,if_pos l]
  refine⟨⟨fun x=>?_,fun i x v g=>?_,fun e o=>?_⟩,rfl,rfl⟩
  .simp only
   rw[Wl,vw,Zc j.nd,h.look];by_cases e:nm=x
   .grind
   .rw [if_neg e,if_neg fun y=>e y.symm,if_neg fun y=>e y.symm]
  .simp only at g
   rw[vw,Zc j.nd]at g;by_cases e:x=nm
   .grind
   .rw [if_neg e,if_neg e]at g
    exact h.own i x v g
  .rcases qK.1 o with o|o
   .exact h.sz e o
   grind
 .rw [if_neg l,if_neg l]
  refine⟨⟨fun x=>?_,fun i x v g=>?_,h.sz⟩,rfl,rfl⟩
  .simp only
   rw[Zc j.nd,h.look];by_cases e:x=nm
   .rw [if_pos e]
    cases p:getK x env with
    |none=>rfl
    |some v =>
     have i:body=false:=by grind
     exact absurd (h.own i x v p) (by grind)
   .rw [if_neg e]
  .simp only at g
   rw[Zc j.nd]at g;split at g
   .cases g
   .exact h.own i x v g
theorem qeA{ts es}(C:Free ts es){f:Nat}{body E E' bin}:∀ ks i env sc nm s,
  (∀ k,k∈ks->∀ env sc s,StOk (qq ts es) s->4000<s.sM+(f:Int)->zx env->ScOf ts body sc env->OutR (E env k s) (E' sc k s).1 (E' sc k s).2.1 (E' sc k s).2.2) ->
  (∀ env k n' z s s',k∈ks->StOk (qq ts es) s->zx env->E env k s = .ok ((n',z),s')->Gos (qq ts es) s s' z) ->
  0<=s.last->0<=s.sM->s.sM<=4000->dueN (qq ts es) bin i<=pot (qq ts es) s->4000<s.sM+(f:Int)->zx env->ScOf ts body sc env ->
  match yR E (fun env nm s=>renI ts es env nm body s) bin i env nm ks s with
  | .error _=>∃ t,uy E' (fun sc nm s=>renR ts es sc nm body s) bin i sc nm ks s = .error t/\4000<t.sM/\t.sM<=9000
  | .ok r=>uy E' (fun sc nm s=>renR ts es sc nm body s) bin i sc nm ks s = .ok r
 | [],i,env,sc,nm,s,_,_,_,_,_,_,_,_,_=>by simp only[yR,uy]
 |k :: ks,i,env,sc,nm,s,hE,hG,l0,c0,c1,hp,hf,R,I=>by
  simp only[yR,uy];obtain⟨r,J⟩:∃ r,(if bin=true/\i=1 then renI ts es env nm body s else ((env,nm),s))=r:=⟨_,rfl⟩;obtain⟨l,j⟩:∃ l,(if bin=true/\i=1 then renR ts es sc nm body s else ((sc,nm),s))=l:=⟨_,rfl⟩;have hR:ScOf ts body l.1.1 r.1.1/\l.1.2=r.1.2/\l.2=r.2/\zx r.1.1/\StOk (qq ts es) r.2/\r.2.sM=s.sM/\dueN (qq ts es) bin (i+1)<=pot (qq ts es) r.2:=by
   by_cases hb:bin=true/\i=1
   .rw [if_pos hb]at J j
    subst J;subst j;obtain⟨a1,a2,a3⟩:=qd9 (es:=es) (nm:=nm) (s:=s) R I;have a4:=Vh (ts:=ts) (es:=es) (nm:=nm) (body:=body) (s:=s) R;obtain⟨b1,b2,T⟩:=Vi (body:=body) (nm:=nm) (env:=env) C l0;have hd:dueN (qq ts es) bin i=(qq ts es:Int):=by simp_all[dueN,if_pos]
    have a0:dueN (qq ts es) bin (i+1)=0:=by simp_all[dueN,if_neg]
    rw[hd]at hp;have P:0<=pot (qq ts es) (renI ts es env nm body s).2:=by
     grind [pot]
    exact⟨a1,a2,a3,a4,⟨b1,by rw[T];exact c0,by rw[T];exact c1,P⟩,T,zOm⟩
   .rw [if_neg hb]at J j
    subst J;subst j;have hd:dueN (qq ts es) bin (i+1)<=dueN (qq ts es) bin i:=by
     unfold dueN;split
     .grind
     omega
    have a5:0<=dueN (qq ts es) bin i:=by grind [dueN]
    exact⟨I,rfl,rfl,R,⟨l0,c0,c1,by grind⟩,rfl,by grind⟩
  rw[J,j];obtain⟨q1,q2,q3,U,q5,q6,q7⟩:=hR;rw[q2,q3];have o:=hE k (zl ..) r.1.1 l.1.1 r.2 q5 zOm U q1;have h2:=fun n' z s'=>hG r.1.1 k n' z r.2 s' (zl ..) q5 U
  generalize E' l.1.1 k r.2=Q at *
  cases hq:E r.1.1 k r.2 with
  |error d =>
   rw[hq]at o;simp only;rw[if_pos o.1];exact⟨_,rfl,o.1,o.2.1⟩
  |ok x =>
   obtain⟨⟨m,y⟩,t⟩:=x;rw[hq]at o;obtain⟨e1,e2,e3⟩:=o;have g:=h2 m y t hq;obtain⟨g1,g2,g3⟩:=Wm g q5;have hc:=g.c1;have a6:=g.p;simp only;rw[if_neg (by rw[e3];omega),e1,e2,e3];have ih:=qeA C (f:=f) (body:=body) (E:=E) (E':=E') (bin:=bin) ks (i+1) r.1.1 l.1.1 r.1.2 t (fun k hk=>hE k (zc _ hk)) (fun env k n' z s s' hk=>hG env k n' z s s' (zc _ hk)) g1.l0 g1.c0 g1.c1 zOm zOm U q1;cases hx:yR E (fun env nm s=>renI ts es env nm body s) bin (i+1) r.1.1 r.1.2 ks t with
   |error d =>
    rw[hx]at ih;obtain⟨t',a1,a2,a3⟩:=ih
    grind
   |ok x =>
    grind
theorem Jl(ts es)(i:Free ts es)(hb:∀ p,p∈ts.sT->WfN p.body/\yS ts p.body):∀(f:Nat)(env sc n body s),
  4000<s.sM+(f:Int)->StOk (qq ts es) s->zx env->WfN n->yS ts n->ScOf ts body sc env->OutR (expI ts es f env n body s) (expR ts es f sc n body s).1 (expR ts es f sc n body s).2.1 (expR ts es f sc n body s).2.2
 | 0,env,sc,n,body,s,hf,g,_,_,_,_=>zW1 g.c1
 |f+1,env,sc,n,body,s,hf,g,r,hw,I,l=>by
  have a8:=g.c0;have a9:=g.c1;have p1:(payS 1 s).sM=s.sM+1:=rfl;simp only[expI,expR];by_cases J:s.sM+1<=4000
  case neg =>
   rw[if_neg J,if_neg J];exact⟨by rw[p1];omega,by rw[p1];omega,zSp,zSp⟩
  rw[if_pos J,if_pos J];have C:=(Qo g (n:=1) zOm J).ok g;by_cases h1:n.op=1
  .rw [if_pos h1,if_pos h1]
   unfold Qs v7;rw[l.look];cases hg:getK n.name env with
   |none=>exact⟨rfl,rfl,rfl⟩
   |some v =>
    have hv:=r.sz _ ((Zb r.nd).1 hg);have hv:0<=v.size/\v.size<=4000:=hv;simp only;cases P:v.arg with
    |none=>exact⟨rfl,rfl,rfl⟩
    |some a =>
     simp only;have e2:(payS v.size (payS 1 s)).sM=(payS 1 s).sM+v.size:=rfl;by_cases R:(payS 1 s).sM+v.size<=4000
     .rw [if_pos R];exact⟨rfl,rfl,rfl⟩
     .rw [if_neg R]
      exact⟨by rw[e2];omega,by rw[e2];omega,hv.1,hv.2⟩
  rw[if_neg h1,if_neg h1];by_cases h47:n.op=47
  .rw [if_pos h47,if_pos h47]
   obtain⟨p,T,a7⟩:=I n (ux n) h47;have a0:=List.mem_of_find?_eq_some T;rw[T];simp only;have P:=qd8 (F:=qq ts es) (f:=f) (E:=fun k s=>expI ts es f env k body s) (E':=fun k s=>expR ts es f sc k body s) p.params n.sD [] [] (payS 1 s)
    (fun k j s g hf=>Jl ts es i hb f env sc k body s hf g r (hw.kid j) (I.kid j) l)
    (fun k n' z s s' j g e=>jW ts i f g r e) C (by rw[p1];omega) .nil (fun o=>rfl) (fun e hm=>absurd hm qH)
   cases U:jx (fun k s=>expI ts es f env k body s) p.params n.sD [] (payS 1 s) with
   |error d =>
    rw[U]at P;obtain⟨t,a1,a2,a3⟩:=P;rw[a1];exact⟨a2,a3,zSp,zSp⟩
   |ok x =>
    obtain⟨own,s'⟩:=x;rw[U]at P;obtain⟨L,a1,a2,a3,a4,a5,a6⟩:=P;rw[a1];obtain⟨b1,b2⟩:=hb p a0;exact Jl ts es i hb f own L p.body true s' zOm a5 a2 b1 b2 ⟨a3,fun h=>absurd h zSp,a4⟩
  .rw [if_neg h47,if_neg h47]
   have j:=qeA i (f:=f) (body:=body) (E:=fun env k s=>expI ts es f env k body s) (E':=fun sc k s=>expR ts es f sc k body s) (bin:=binB n.op) n.sD 0 env sc n.name (payS 1 s)
    (fun k j env sc s g hf r l=>Jl ts es i hb f env sc k body s hf g r (hw.kid j) (I.kid j) l)
    (fun env k n' z s s' j g r e=>jW ts i f g r e) C.l0 C.c0 C.c1 (by
     rw[Z0];have:=g.p
     grind [dueN]) (by rw[p1];omega) r l
   cases U:yR (fun env k s=>expI ts es f env k body s) (fun env o s=>renI ts es env o body s) (binB n.op) 0 env n.name n.sD (payS 1 s) with
   |error d =>
    rw[U]at j;obtain⟨t,a1,a2,a3⟩:=j;rw[a1];exact⟨a2,a3,zSp,zSp⟩
   |ok x =>
    obtain⟨⟨o,ks,m⟩,s'⟩:=x;rw[U]at j;rw[j];exact⟨rfl,rfl,rfl⟩
end
end QY
namespace QZ
open YF Y9 Y10 Y1 YX YB YC P1 P2 PA QE QI QS QT QX QY
section
variable {mu:Mu}
abbrev eXO(ts:TS)(l:List tA)(q:XO):AV := .tup [eWk ts l q.1,eNd q.2.1,aI q.2.2]
theorem Wn(x):∀ c,c∈cSb x->HF c:=fun c g=>by
 rcases qK.1 g with g|g
 .rcases qK.1 g with g|g
  .simp only[qy,qH,or_false]at g
   rcases g with rfl|rfl|rfl<;>exact HF.sc _
  grind [qr4]
 grind [qV,HF.sc]
theorem qr5(x):(cSb x).length=9:=by simp[qr3]
theorem Jm(l:List Sb):zm 9 (l.map cSb):=fun r g=>by
 obtain⟨x,_,rfl⟩:=qn.1 g;refine⟨qr5 x,?_⟩;obtain⟨o,⟨a,z,w⟩⟩:=x;cases a<;>simp[yB,go_sem]
theorem qeB(l):HF (lSb l):=HF.lst fun r g c i=>by
 obtain⟨x,_,rfl⟩:=qn.1 g;exact Wn x c i
theorem wkX(ts l s sc n b):WKs [eWk ts l s,lSb sc,eNd n,aB b] [eWk ts l s,lSb sc,eNd n,aB b] := .zk (wJ ts l s) (.zk (qeB sc) (.zk (qL n) (.zs .nil)))
theorem kV(ts l q):HF (eXO ts l q):=HF.tup fun x g=>by
 simp only[qy,qH,or_false]at g;rcases g with rfl|rfl|rfl
 .exact wJ ts l _
 .exact qL _
 .exact HF.sc _
structure Pre (ts:TS) (es:List (tA×Bool)) (f:Nat) (env:IEnv) (sc:List Sb) (n:Nd) (body:Bool) (s:ISt):Prop where
 fu:4000<s.sM+(f:Int)
 st:StOk (qq ts es) s
 en:zx env
 wf:WfN n
 cl:yS ts n
 so:ScOf ts body sc env
 le:(sc.length:Int)<=s.sM+8
theorem rd0:Rd mu (.agg [aI 0,aS ⟨#[]⟩,aI 0,.lst true [],aI 0]) (eNd nd0) := .agg _ _ rfl fun k x y g i=>by
 match k,g,i with
 | 0,g,i=>cases g;cases i;exact .zsc _
 | 1,g,i=>cases g;cases i;exact .zsc _
 | 2,g,i=>cases g;cases i;exact .zsc _
 | 3,g,i=>cases g;cases i;exact .wk _ true _ (.hf _ (HF.lst fun r j=>absurd j qH))
 | 4,g,i=>cases g;cases i;exact .zsc _
 |k+5,g,i=>cases g
theorem rdZ(ts l s):Rd mu (.tup [eWk ts l s,.agg [aI 0,aS ⟨#[]⟩,aI 0,.lst true [],aI 0],aI 0]) (eXO ts l (s,nd0,0)) := .tup _ _ rfl fun k x y g i=>by
 match k,g,i with
 | 0,g,i=>cases g;cases i;exact .hf _ (wJ ts l s)
 | 1,g,i=>grind [rd0]
 | 2,g,i=>cases g;cases i;exact .zsc _
 |k+3,g,i=>cases g
theorem qeC{lo s xs y K}(j:OwnF lo mu 9 s (xs.map cSb))(l:xs.length<=100000)(o:∀ av mu',OwnF lo mu' 9 av ((xs++[y]).map cSb)->(∀ i,i<lo->mu'[i]?=mu[i]?)->K av mu') :
  qz qe mu #[239,239] s (.lst true [cSb y]) K:=by
 refine qz.ownF (lo:=lo) (e:=246) (sz:=9) (bt:=112) (zv := .agg [aS ⟨#[]⟩,aS ⟨#[]⟩,aB false,aI 0,aS ⟨#[]⟩,aI 0,.lst true [],aI 0,aI 0]) (xs:=xs.map cSb) (ys:=[cSb y]) zSi zSi zSi rfl rfl zOm zOm j (by simp[qD]) (Jm xs) (Jm [y]) zSo ?_
 grind
abbrev ExpW(ts:TS)(l:List tA)(es:List (tA×Bool))(f:Nat)(sc:List Sb)(n:Nd)(body:Bool)(s:ISt):Prop:=
 qi qe 96 [eWk ts l s,lSb sc,eNd n,aB body] (eXO ts l (expR ts es f sc n body s))
theorem expN(ts l es f env sc n body s)(p:Pre ts es (f+1) env sc n body s)(j:s.sM+1<=4000)(i:n.op=1):ExpW ts l es (f+1) sc n body s:=by
 have o:=p.st.c0;have I:=p.le;have r:=leafU ts l sc zOm n (payS 1 s) ⟨by show 0<=s.sM+1;omega,by show s.sM+1<=_;omega⟩ (fun e t=>zW1 (p.so.sz e t));unfold ExpW;simp only[expR];rw[if_pos j,if_pos i];have C:qp.wrap (s.sM+1)=s.sM+1:=zWr;have g:¬ 4000<s.sM+1:=zOm;generalize Qs sc n (payS 1 s)=Q at *
 refine qSQ call96 func96 rfl { mt:=[4] } ?_;simp[go_sem,C,g,i,zf];refine cQ r (.zk (wJ ts l (payS 1 s)) (.zk (qeB sc) (.zk (qL n) .nil))) ?_;simp[go_sem,zf];exact .hf _ (kV ts l (Q.2,Q.1.1,Q.1.2))
theorem expZ(ts l es f env sc n body s)(p:Pre ts es (f+1) env sc n body s)(i:¬s.sM+1<=4000):ExpW ts l es (f+1) sc n body s:=by
 have j:=p.st.c0;have o:=p.st.c1;unfold ExpW;simp only[expR];rw[if_neg i];have r:qp.wrap (s.sM+1)=s.sM+1:=zWr;have g:4000<s.sM+1:=zOm;refine qSQ call96 func96 rfl { mt:=[4] } ?_;simp[go_sem,r,g,zf]
 grind [rdZ,payS]
def repR(ts : TS)(es : List (tA × Bool))(f : Nat)(sc : List Sb)(n : Nd)(body : Bool)(s : ISt)(p : Pd) : XO := match ud (fun k s => expR ts es f sc k body s) p.params n.sD [] s with
          | .error g=>(g,nd0,0)
          | .ok (own,g)=>expR ts es f own p.body true g
theorem expC(ts l es f env sc n body s)(p:Pre ts es (f+1) env sc n body s)(j:s.sM+1<=4000)(h47:n.op=47)(g)(o:(ts.sT.find? fun p=>decide (p.name=n.name))=some g)
  (r:qi qe 151 [eWk ts l (payS 1 s),lSb sc,eNd n,aB body] (eXO ts l (repR ts es f sc n body (payS 1 s) g))):ExpW ts l es (f+1) sc n body s:=by
 have t:=p.st.c0;unfold ExpW;simp only[expR];rw[if_pos j,zIn,if_pos h47,o];simp only;have C:qp.wrap (s.sM+1)=s.sM+1:=zWr;have i:¬ 4000<s.sM+1:=zOm;show qi qe 96 [eWk ts l s,lSb sc,eNd n,aB body] (eXO ts l (repR ts es f sc n body (payS 1 s) g));generalize repR ts es f sc n body (payS 1 s) g=Q at *
 refine qSQ call96 func96 rfl { mt:=[4] } ?_;simp[go_sem,C,i,h47,zf];refine cQ r (wkX ts l (payS 1 s) sc n body) ?_;simp[go_sem,zf];exact .hf _ (kV ts l Q)
theorem replW(ts)(h:okTS ts)(l es)(ai:Free ts es)(hb:∀ p,p∈ts.sT->WfN p.body/\yS ts p.body)(f)(ih:∀ env sc n body s,Pre ts es f env sc n body s->ExpW ts l es f sc n body s)(env sc n body s)(p:Pre ts es f env sc n body s)(h47:n.op=47)
  (pd) (hp:(ts.sT.find? fun p=>decide (p.name=n.name))=some pd) (az:pd.params.length=n.sD.length):qi qe 151 [eWk ts l s,lSb sc,eNd n,aB body] (eXO ts l (repR ts es f sc n body s pd)):=by
 have a9:=List.mem_of_find?_eq_some hp;have b1:=(h.pl pd a9).1;have b2:=h.np;obtain⟨i,hi,a3,aj⟩:∃ i,∃ hi:i<ts.sT.length,ts.sT[i]=pd/\zw (ckR ts ts.sT.length) n.name=some i:=by
  cases hc:zw (ckR ts ts.sT.length) n.name with
  |none =>
   unfold zw at hc;rw[List.findIdx?_eq_none_iff]at hc;have:=hc pd (by show pd∈ts.sT.take ts.sT.length;rw[qP];exact a9);have h2:=List.find?_some hp;rw[h2]at this;cases this
  |some i =>
   obtain⟨h1,h2⟩:=Zi (Wi h (qr _)) hc;have h2:i<ts.sT.length:=h2;have h3:=PF.qc6 hc h2;have h3:(ts.sT.find? fun p=>decide (p.name=n.name))=some ts.sT[i]:=h3;rw[hp]at h3;exact⟨i,h2,(Option.some.inj h3).symm,rfl⟩
 have cp:=Vv (ckR ts ts.sT.length) (Wi h (qr _)) n.name;rw[aj]at cp;have I:=Zh;have aa:¬(i:Int)<0:=zOm;obtain⟨E',hE⟩:∃ E':Nd->ISt->XO,E'=fun k s=>expR ts es f sc k body s:=⟨_,rfl⟩
 obtain⟨a7,a8⟩:∃ a7,a7=repR ts es f sc n body s pd:=⟨_,rfl⟩;have an:∀ k,k∈n.sD->∀ C,StOk (qq ts es) C->s.sM<=C.sM->qi qe 96 [eWk ts l C,lSb sc,eNd k,aB body] (eXO ts l (E' k C)):=fun k hk C J aa=>by
  rw[hE];exact ih env sc k body C ⟨zW1 p.fu,J,p.en,p.wf.kid hk,p.cl.kid hk,p.so,zW1 p.le⟩
 have ao:∀ k,k∈n.sD->∀ C,StOk (qq ts es) C->s.sM<=C.sM->4000<(E' k C).1.sM\/(¬ 4000<(E' k C).1.sM/\Gos (qq ts es) C (E' k C).1 (E' k C).2.2):=fun k hk C J aa=>by
  have ho:=Jl ts es ai hb f env sc k body C (zW1 p.fu) J p.en (p.wf.kid hk) (p.cl.kid hk) p.so;have aq:E' k C=expR ts es f sc k body C:=by rw[hE]
  rw[aq];cases hx:expI ts es f env k body C with
  |error d=>rw[hx]at ho;exact .inl ho.1
  |ok r =>
   obtain⟨⟨m,y⟩,t⟩:=r;rw[hx]at ho;obtain⟨e1,e2,e3⟩:=ho;have g:=jW ts ai f J p.en hx;rw[e2,e3];exact .inr ⟨zW1 g.c1,g⟩
 have ar:∀ t,ud E' pd.params n.sD [] s = .error t->a7=(t,nd0,0):=fun t ht=>by
  rw[a8];unfold repR;rw[<-hE,ht]
 have au:∀ own t O,ud E' pd.params n.sD [] s = .ok (own,t)->StOk (qq ts es) t->s.sM<=t.sM->zx O->(∀ o,uY o own=getK o O)->(∀ e,e∈own->0<=e.2.size/\e.2.size<=4000)->own.length<=8->qi qe 96 [eWk ts l t,lSb own,eNd pd.body,aB true] (eXO ts l a7):=fun own t O ht J aa hO ab ad h8=>by
  have e:a7=expR ts es f own pd.body true t:=by rw[a8];unfold repR;rw[<-hE,ht]
  rw[e];have b3:=J.c0;exact ih O own pd.body true t ⟨zW1 p.fu,J,hO,(hb pd a9).1,(hb pd a9).2,⟨ab,fun h=>absurd h zSp,ad⟩,zOm⟩
 rw[<-a8];have ak:=p.st;clear a8 hE ih;refine qSQ call151 func151 rfl { mt:=[4] } ?_;simp[go_sem,zf];refine cQ cp (.zk (zn ts) (.zs (.zs .nil))) ?_;simp[go_sem,zf,idxO,aa];refine kL n.sD.length (fun k U=>∃(C:ISt) (L:List Sb) (O:IEnv),U.tm 1=lSb sc/\U.tm 3=aB body/\U.tm 4 = .ptr 0 0/\U.tm 6 = .ip (cNd n)/\U.tm 8 = .ptr 1 0/\U.tm 9 = .ptr 2 0/\U.tm 12=aI i/\U.tm 14=aI k/\U.mu[0]?=some (.arr (cWk ts l C))/\U.mu[1]?=some (.arr zWc)/\U.mu[2]?=some (.arr [aI 0,aS ⟨#[]⟩,aI 0,.lst true [],aI 0])/\OwnF 3 U.mu 9 (U.tm 13) (L.map cSb)/\ud E' pd.params n.sD [] s=ud E' (pd.params.drop k) (n.sD.drop k) L C/\StOk (qq ts es) C/\s.sM<=C.sM/\zx O/\(∀ o,uY o L=getK o O)/\(∀ e,e∈L->0<=e.2.size/\e.2.size<=4000)/\L.length=k) ?_ ?_
 .exact ⟨s,[],[],zSi,zSi,zSi,zSi,zSi,zSi,zSi,zSi,zSi,zSi,zSi,by simp[go_sem];exact OwnF.nil zSp,rfl,ak,vh _,.nil,fun o=>rfl,fun e he=>absurd he qH,rfl⟩
 rintro k U hk ⟨C,L,O,e1,e3,e4,e6,e8,e9,a2,a4,m0,m1,m2,ho,hI,J,ae,hO,ab,ad,aw⟩;generalize a5:U.tm 13=av at *
 obtain⟨rr,a0⟩:=kN m0 m1 m2;have b4:U.mu.length=rr.length+3:=by rw[a0];rfl
 have b0:n.sD.length<=8:=zOm;by_cases R:k<n.sD.length
 .have a6:k<pd.params.length:=by omega
  have w1:=zWk k;rw[zp R,zp a6]at hI;simp only[ud]at hI;have x1:=an n.sD[k] (qs R) C J ae;have x2:=ao n.sD[k] (qs R) C J ae;generalize E' n.sD[k] C=q at *
  clear m0 m1 m2;simp[go_sem,e1,e3,e4,e6,e8,e9,a2,a4,a5,a0,R,a6,hi,a3,I,zf];refine fD [0,1,2,3,4,5,6,7,8,9,10,11,12,17,13,14,15,16] [(0,0,[]),(1,0,[]),(2,0,[]),(3,0,[]),(4,0,[]),(5,0,[]),(6,0,[]),(7,0,[]),(8,1,[]),(9,0,[]),(10,0,[]),(11,0,[]),(12,0,[]),(17,0,[]),(13,2,[0,3,6]),(14,2,[0,3,6]),(15,1,[]),(16,1,[])] zKr zKr zSi ?_;simp[go_sem,e1,e3,e4,e6,e8,e9,a2,a4,a5,a0,R,a6,hi,a3,I,zf];refine cQ x1 (wkX ts l C sc n.sD[k] body) ?_;simp[go_sem,e1,e3,e4,e6,e8,e9,a2,a4,a5,a0,R,a6,hi,a3,I,zf];by_cases a1:4000<q.1.sM
  .have ax:a7=(q.1,nd0,0):=ar _ (by rw[hI,if_pos a1])
   simp[go_sem,e1,e3,e4,e6,e8,e9,a2,a4,a5,a0,R,a6,hi,a3,I,zf,a1];rw[ax];exact rdZ ts l q.1
  .rcases x2 with x2|⟨_,g⟩
   .exact absurd x2 a1
   rw[if_neg a1]at hI;simp[go_sem,e1,e3,e4,e6,e8,e9,a2,a4,a5,a0,R,a6,hi,a3,I,zf,a1];refine cH zKr ?_;simp[go_sem,e1,e3,e4,e6,e8,e9,a2,a4,a5,a0,R,a6,hi,a3,I,zf,a1];obtain⟨g1,g2,g3⟩:=Wm g J;have gz:=g.z0;have hy:(AV.sc (.string pd.params[k].1) :: AV.sc (.string ⟨#[]⟩) :: AV.sc (.bool true) :: (cNd q.2.1++[AV.sc (.int .i64 q.2.2)]))=cSb (pd.params[k].1,⟨some q.2.1,q.2.2,⟨#[]⟩⟩):=zSi;rw[hy];generalize af:(pd.params[k].1,(⟨some q.2.1,q.2.2,⟨#[]⟩⟩:IV))=en at *
   refine qeC (lo:=3) (xs:=L) (y:=en) ?_ zOm ?_
   .have h1:OwnF 3 (U.mu++[Cell.arr (cWk ts l q.1),Cell.arr (cNd q.2.1)]) 9 av (L.map cSb):=YD.Zs ho zSo fun i _ hi=>qN hi
    rw[a0]at h1;have h2:=OwnF.set (i:=0) (c:=Cell.arr (cWk ts l q.1)) h1 zOm;simpa using h2
   intro b5 b6 ag ah;have n0:=ah 0 zOm;have n1:=ah 1 zOm;have n2:=ah 2 zOm;simp at n0 n1 n2;obtain⟨r2,al⟩:=kN n0 n1 n2;simp[go_sem,e1,e3,e4,e6,e8,e9,a2,a4,a5,al,R,a6,hi,a3,I,zf,a1,w1];refine aK ⟨q.1,L++[en],setK en.1 en.2 O,zS1 e1,zS1 e3,zS1 e4,zS1 e6,zS1 e8,zS1 e9,zS1 a2,zSi,zSi,zSi,zSi,?_,?_,g1,?_,?_,?_,?_,?_⟩
   .have h2:=OwnF.set (i:=0) (c:=Cell.arr (cWk ts l q.1)) ag zOm
    simp[go_sem];rw[al]at ag;simpa using ag
   .rw [hI,<-af]
   .omega
   .rw [<-af];exact hO.set ⟨gz,g3⟩
   .intro o
    rw[Wl,vw,ab];by_cases e:en.1=o
    .rw [if_pos e,if_pos e.symm]
    .rw [if_neg e,if_neg fun x=>e x.symm]
   .intro e he
    rcases qK.1 he with he|he
    .exact ad e he
    .rw [qV]at he;subst he;rw[<-af];exact⟨gz,g3⟩
   .simp [aw]
 .simp [go_sem,e1,e3,e4,e6,e8,e9,a2,a4,a5,a0,R,hi,a3,I,zf]
  refine fD [0,1,2,3,4,5,6,7,8,9,10,11,12,15,13,14] [(0,0,[]),(1,0,[]),(2,0,[]),(3,0,[]),(4,0,[]),(5,0,[]),(6,0,[]),(7,0,[]),(8,0,[]),(9,1,[]),(10,0,[]),(11,0,[]),(12,0,[]),(15,0,[]),(13,1,[]),(14,1,[])] zKr zKr zSi ?_;simp[go_sem,e1,e3,e4,e6,e8,e9,a2,a4,a5,a0,R,hi,a3,I,zf];refine fQ (qE.freeze (args1:=[eWk ts l C,lSb L,eNd pd.body,aB true]) (fun j=>decide (3<=j)) ⟨.inl rfl,.inr ?_,.inl rfl,.inl rfl,trivial⟩ (qi.toSound _ (au L C O ?_ J ae hO ab ad zOm) (wkX ts l C L pd.body true))) ?_ ?_
  .have h1:=Y13.Kl ho (Jm L).ok fun r hr c hc=>by
    obtain⟨x,_,rfl⟩:=qn.1 hr;exact Wn x c hc
   rw[a0]at h1;exact h1
  .rw [hI,Ww zOm,Ww zOm];rfl
  .rintro r m ⟨hv,rfl⟩
   cases hv;simp[go_sem,cutM,zf,e1,e3,e4,e6,e8,e9];exact .hf _ (kV ts l a7)
  .rintro r m ⟨hv,rfl⟩
   cases hv
end
end QZ
end Go.Proofs.YtipbakanneogpaaGreatDoor
set_option maxHeartbeats 1000000
namespace Go.Ev
theorem awp.cut{P pl l j g C i Q st}(J)
  (h:awp P pl l (seqQ (awp P pl j (seqQ (Keep J .mk) (vW i (seqQ (awp P pl C Q) Q)))) Q) st)
  (o:∀ st,J st->awp P pl g (vW i (seqQ (awp P pl C Q) Q)) st):awp P pl (.seq l (.seq (.block i (.seq j g)) C)) Q st:=by
 refine awp.mono l (Q:=seqQ (awp P pl j (seqQ (Keep J .mk) (vW i (seqQ (awp P pl C Q) Q)))) Q) h (fun e st h=>?_);cases e with
 |normal =>
  refine awp.mono j (Q:=seqQ (Keep J .mk) (vW i (seqQ (awp P pl C Q) Q))) h (fun e st h=>?_);cases e with
  |normal=>exact o st h
  |exit i=>exact h
  |ret=>exact h
  |pan v=>exact h
 |exit i=>exact h
 |ret=>exact h
 |pan v=>exact h
theorem qr6{K:St->Prop}(J){st}(h:FzQ (fun _=>J) (.exit 0) st)(k:∀ st2,J st2->K st2):FzQ (fun _ st=>K st) (.exit 0) st:=by
 obtain⟨g,f,q,j⟩:=h;exact⟨g,f,q,k _ j⟩
end Go.Ev
namespace Go.Proofs.YtipbakanneogpaaGreatDoor
open Go Go.Ev Go.Proofs Tryz
namespace RA
open YF Y9 Y10 Y1 YX YA YB YC P1 P2 PA QD QE QK QX QY QZ
section
variable {av:AV}{es:List (tA×Bool)}{l:List tA}
theorem four{J:Type}{l}{a b c d:J}(g:l[0]?=some a)(i:l[1]?=some b)(j:l[2]?=some c)(o:l[3]?=some d):∃ r,l=a :: b :: c :: d :: r:=by
 match l,g,i,j,o with
 |_ :: _ :: _ :: _ :: r,g,i,j,o =>
  grind
def resK(n:Nd)(acc:List Nd)(z:Int):Except ISt ((tA×List Nd×Int)×ISt)->XO
 | .error s=>(s,nd0,0)
 | .ok ((o,ks,m),s)=>(s,.mk n.op o n.n (acc++ks) n.pos,z+m)
structure AtK (ts:TS) (l:List tA) (es:List (tA×Bool)) (n:Nd) (body:Bool) (s:ISt) (k:Nat) (sc2:List Sb) (env2:IEnv) (nm2:tA) (s3:ISt) (acc:List Nd) (av:AV) (z:Int) (st:St):Prop where
 e3:st.tm 3=aB body
 e4:st.tm 4 = .ptr 0 0
 e6:st.tm 6 = .ip (cNd n)
 e8:st.tm 8 = .ptr 1 0
 e9:st.tm 9 = .ptr 2 0
 e11:st.tm 11 = .ptr 3 0
 e12:st.tm 12=aI z
 e13:st.tm 13=aI k
 m0:st.mu[0]?=some (.arr (cWk ts l s3))
 m1:st.mu[1]?=some (.arr zWc)
 m2:st.mu[2]?=some (.arr [aI 0,aS ⟨#[]⟩,aI 0,.lst true [],aI 0])
 m3:st.mu[3]?=some (.arr [aI n.op,aS nm2,aI n.n,av,aI n.pos])
 ho:OwnF 4 st.mu 5 av (acc.map cNd)
 so:ScOf ts body sc2 env2
 en:zx env2
 al:acc.length=k
 l0:0<=s3.last
 c0:s.sM+1<=s3.sM
 c1:s3.sM<=4000
 z1:0<=z
 z2:z<=1+4000*(k:Int)
theorem AtK.same{ts n body s k j i o C acc z st g}(A:AtK ts l es n body s k j i o C acc av z st)
  (I:g.tm 3=aB body) (J:g.tm 4 = .ptr 0 0) (P:g.tm 6 = .ip (cNd n)) (R:g.tm 8 = .ptr 1 0) (T:g.tm 9 = .ptr 2 0) (p:g.tm 11 = .ptr 3 0) (r:g.tm 12=aI z) (t:g.tm 13=aI k) (em:g.mu=st.mu):AtK ts l es n body s k j i o C acc av z g:=
 ⟨I,J,P,R,T,p,r,t,by rw[em];exact A.m0,by rw[em];exact A.m1,by rw[em];exact A.m2,by rw[em];exact A.m3,by rw[em];exact A.ho,A.so,A.en,A.al,A.l0,A.c0,A.c1,A.z1,A.z2⟩
theorem qeD{g lo sz mu mu' xs}(h:OwnF g mu sz av xs)(i:∀ b s o q,av = .sl b s o q->b<lo)(p:g<=mu'.length)(r:∀ j,g<=j->j<lo->mu'[j]?=mu[j]?):OwnF g mu' sz av xs:=by
 obtain⟨t,l,_⟩:=h;refine⟨?_,l,p⟩;rcases t with rfl|⟨b,rfl,C⟩
 .exact .inl rfl
 .exact .inr ⟨b,rfl,by rw[r b (l b _ _ _ rfl) (i b _ _ _ rfl)];exact C⟩
theorem AtK.keep{ts n body s k p i r R acc z st g}(A:AtK ts l es n body s k p i r R acc av z st)
  (T:g.tm 3=aB body) (U:g.tm 4 = .ptr 0 0) (e6:g.tm 6 = .ip (cNd n)) (e8:g.tm 8 = .ptr 1 0) (e9:g.tm 9 = .ptr 2 0) (C:g.tm 11 = .ptr 3 0) (I:g.tm 12=aI z) (J:g.tm 13=aI k) (lo) (h4:4<=lo) (P:∀ b s o q,av = .sl b s o q->b<lo) (hl:4<=g.mu.length) (t:∀ j,j<lo->g.mu[j]?=st.mu[j]?):AtK ts l es n body s k p i r R acc av z g:=
 ⟨T,U,e6,e8,e9,C,I,J,by rw[t 0 zOm];exact A.m0,by rw[t 1 zOm];exact A.m1,by rw[t 2 zOm];exact A.m2,by rw[t 3 zOm];exact A.m3,qeD A.ho P hl (fun j _=>t j),A.so,A.en,A.al,A.l0,A.c0,A.c1,A.z1,A.z2⟩
theorem qr7{mu lo s x}{xs ys:List Sb}{K}(j:OwnF lo mu 9 s (xs.map cSb))(l:qD mu x=some (ys.map cSb))(r:xs.length+ys.length<=100000)(o:∀ av mu',OwnF lo mu' 9 av ((xs++ys).map cSb)->(∀ i,i<lo->mu'[i]?=mu[i]?)->K av mu') :
  qz qe mu #[239,239] s x K:=by
 refine qz.ownF (lo:=lo) (e:=246) (sz:=9) (bt:=112) (zv := .agg [aS ⟨#[]⟩,aS ⟨#[]⟩,aB false,aI 0,aS ⟨#[]⟩,aI 0,.lst true [],aI 0,aI 0]) (xs:=xs.map cSb) (ys:=ys.map cSb) zSi zSi zSi rfl rfl zOm zOm j l (Jm xs) (Jm ys) zSo ?_;intro av mu' h p;exact o av mu' (by rw[List.map_append];exact h) p
theorem expK(ts)(h:okTS ts)(l es)(t:Tn l es)(hl:l.length<=400000)(hF:qq ts es<=200000)(b6:Free ts es)(hb:∀ p,p∈ts.sT->WfN p.body/\yS ts p.body)(f)(ih:∀ env sc n body s,Pre ts es f env sc n body s->ExpW ts l es f sc n body s)
  (env) (sc) (n) (body) (s) (p:Pre ts es (f+1) env sc n body s) (hc:s.sM+1<=4000) (h1:¬n.op=1) (h47:¬n.op=47):ExpW ts l es (f+1) sc n body s:=by
 have dk:=p.st.c0;have dm:=p.st.c1;have dn:=p.wf.len;obtain⟨E',hE⟩:∃ E':List Sb->Nd->ISt->XO,E'=fun sc k s=>expR ts es f sc k body s:=⟨_,rfl⟩
 obtain⟨R',bi⟩:∃ R':List Sb->tA->ISt->(List Sb×tA)×ISt,R'=fun sc nm s=>renR ts es sc nm body s:=⟨_,rfl⟩
 have bj:∀ k,k∈n.sD->∀ a0 I sk,StOk (qq ts es) sk->s.sM+1<=sk.sM->zx a0->ScOf ts body I a0->(I.length:Int)<=sk.sM+8->qi qe 96 [eWk ts l sk,lSb I,eNd k,aB body] (eXO ts l (E' I k sk)):=fun k hk a0 I sk b7 cm b8 bk bm=>by
  rw[hE];exact ih a0 I k body sk ⟨zW1 p.fu,b7,b8,p.wf.kid hk,p.cl.kid hk,bk,bm⟩
 have bn:∀ k,k∈n.sD->∀ a0 I sk,StOk (qq ts es) sk->s.sM+1<=sk.sM->zx a0->ScOf ts body I a0->4000<(E' I k sk).1.sM\/(¬ 4000<(E' I k sk).1.sM/\Gos (qq ts es) sk (E' I k sk).1 (E' I k sk).2.2):=fun k hk a0 I sk b7 cm b8 bk=>by
  have ho:=Jl ts es b6 hb f a0 I k body sk (zW1 p.fu) b7 b8 (p.wf.kid hk) (p.cl.kid hk) bk;have cp:E' I k sk=expR ts es f I k body sk:=by rw[hE]
  rw[cp];cases hx:expI ts es f a0 k body sk with
  |error d=>rw[hx]at ho;exact .inl ho.1
  |ok r =>
   obtain⟨⟨m,y⟩,t⟩:=r;rw[hx]at ho;obtain⟨e1,e2,e3⟩:=ho;have g:=jW ts b6 f b7 b8 hx;rw[e2,e3];exact .inr ⟨zW1 g.c1,g⟩
 obtain⟨az,bc⟩:∃ az,az=resK n [] 1 (uy E' R' (binB n.op) 0 sc n.name n.sD (payS 1 s)):=⟨_,rfl⟩;have be:expR ts es (f+1) sc n body s=az:=by
  simp only[expR];rw[if_pos hc,if_neg h1,if_neg h47,bc,hE,bi];cases uy (fun sc k s=>expR ts es f sc k body s) (fun sc nm s=>renR ts es sc nm body s) (binB n.op) 0 sc n.name n.sD (payS 1 s) with
  |error e=>rfl
  |ok r=>rfl
 unfold ExpW;rw[be];clear hE be ih;have bg:StOk (qq ts es) (payS 1 s):=(Qo p.st zOm hc).ok p.st;have w1:qp.wrap (s.sM+1)=s.sM+1:=zWr;have bm:¬ 4000<s.sM+1:=zOm;have cq:=yB n;refine qSQ call96 func96 rfl { mt:=[4] } ?_;simp[go_sem,w1,bm,h1,h47,cq];refine kL n.sD.length (fun k U=>∃(full:Bool) (I:List Sb) (a0:IEnv) (ab:tA) (s2:ISt) (af:List Nd) (av:AV) (z:Int),U.tm 1 = .lst full (I.map cSb)/\AtK ts l es n body s k I a0 ab s2 af av z U/\(I.length:Int)+(if k<=1 then 1 else 0)<=s2.sM+8/\dueN (qq ts es) (binB n.op) k<=pot (qq ts es) s2/\(k<=1->ab=n.name)/\resK n af z (uy E' R' (binB n.op) k I ab (n.sD.drop k) s2)=az) ?_ ?_
 .refine ⟨false,sc,env,n.name,payS 1 s,[],.lst true [],1,zSi,⟨zSi,zSi,by simp[go_sem,yB n],zSi,zSi,zSi,zSi,zSi,by simp[go_sem];exact⟨rfl,rfl⟩,zSi,zSi,zSi,by simp[go_sem];exact OwnF.nil zSp,p.so,p.en,rfl,bg.l0,by show _<=s.sM+1;omega,bg.c1,zOm,zOm⟩,by show _<=s.sM+1+8;have:=p.le;simp;omega,?_,fun _=>rfl,bc.symm⟩
  rw[Z0];have:=p.st.p;unfold dueN;split<;>omega
 .rintro k U hk ⟨full,I,a0,ab,s2,af,av,z,J,A,ah,aq,b9,hI⟩
  obtain⟨rr,a5⟩:=four A.m0 A.m1 A.m2 A.m3;have e3:=A.e3;have e4:=A.e4;have e6:=A.e6;have e8:=A.e8;have e9:=A.e9;have a6:=A.e11;have a7:=A.e12;have a8:=A.e13;have ak:=A.ho.one;have an:=A.ho.cells;by_cases a9:k<n.sD.length
  .have w2:=zWk k
   rw[zp a9]at hI;simp only[uy]at hI;refine awp.cut (fun U=>∃(full:Bool) (P:Nat) (sl:AV) (ae:List Sb) (ai:IEnv) (aw:tA) (s3:ISt) (av:AV),(if binB n.op=true/\k=1 then R' I ab s2 else ((I,ab),s2))=((ae,aw),s3)/\U.tm 1=sl/\(sl = .lst full (ae.map cSb)\/(OwnF P U.mu 9 sl (ae.map cSb)/\(∀ b s o q,av = .sl b s o q->b<P)/\4<=P))/\AtK ts l es n body s k ae ai aw s3 af av z U/\(ae.length:Int)+(if k+1<=1 then 1 else 0)<=s3.sM+8/\dueN (qq ts es) (binB n.op) (k+1)<=pot (qq ts es) s3/\(k+1<=1->aw=n.name)) ?_ ?_
   .clear bj bn
    by_cases au:k=1
    .subst au
     have bh:=b9 (qr _);have di:U.mu.length=rr.length+4:=by rw[a5];rfl
     have b4:∀ b s o q,av = .sl b s o q->b<rr.length+4:=fun b s o q e=>by
      rcases A.ho.1 with h|⟨c,h,hc⟩
      .rw [h]at e;cases e
      .rw [h]at e;cases e;have:=(qk.1 hc).1;omega
     have ad:(1:Int)<n.sD.length:=zOm;have cr:=A.c0;have bb:=A.l0;have cs:=A.c1;by_cases ao:binB n.op=true
     .have aa:n.op=15\/n.op=45\/n.op=46:=by simpa[binB,or_assoc] using ao
      have dp:=h.ns;have dq:=h.nf;have dr:qq ts es<=l.length+40:=by have:=t.len;unfold qq;omega
      have ct:okNm ts:=⟨h.sl,zOm,zOm,fun f hf=>zW1 (h.fl f hf)⟩;have cn:=kw ts ct n.name;have ay:=kv ts n.name;have cu:(named ts n.name).2=(means ts n.name).length:=by rw[kK h]
      rw[cu]at cn;generalize (named ts n.name).1=C at *
      have bw:StOk (qq ts es) s2:=⟨bb,zOm,cs,zW1 (Z1 (qq ts es) (binB n.op) 1)⟩;have cv:=bw.last;have cf:=qr2 ts h l es t hl s2 ⟨bb,zOm⟩ (b6 s2.last bb);by_cases ag:body=true\/means ts n.name≠[]
      .have hq:(if binB n.op=true/\1=1 then R' I ab s2 else ((I,ab),s2))=((I++[(n.name,⟨none,0,vN (zz ts es (qq ts es) s2.last)⟩)],vN (zz ts es (qq ts es) s2.last)),⟨zz ts es (qq ts es) s2.last,s2.sM⟩):=by
        rw[if_pos ⟨ao,rfl⟩,bi,bh];show renR ts es I n.name body s2=_;unfold renR;rw[if_pos ag]
       have cw:body=true\/(body=false/\0<(means ts n.name).length):=by
        cases body with
        |true=>exact .inl rfl
        |false=>exact .inr ⟨rfl,List.length_pos_iff.2 (ag.resolve_left zSp)⟩
       clear hI;have ca:renR ts es I n.name body s2=((I++[(n.name,⟨none,0,vN (zz ts es (qq ts es) s2.last)⟩)],vN (zz ts es (qq ts es) s2.last)),⟨zz ts es (qq ts es) s2.last,s2.sM⟩):=by
        unfold renR;rw[if_pos ag]
       obtain⟨a1,a2,a3⟩:=qd9 (es:=es) (nm:=n.name) (s:=s2) A.en A.so;have a4:=Vh (ts:=ts) (es:=es) (nm:=n.name) (body:=body) (s:=s2) A.en;obtain⟨b1,b2,b3⟩:=Vi (body:=body) (nm:=n.name) (env:=a0) b6 bb;rw[ca]at a1 a3;rw[<-a3]at b1 b2;simp only at b1 b2 a1;have bo:dueN (qq ts es) (binB n.op) 1=(qq ts es:Int):=by unfold dueN;rw[if_pos ⟨ao,zOm⟩]
       have bq:dueN (qq ts es) (binB n.op) 2=0:=by unfold dueN;rw[zIn]
       rw[bo]at aq;unfold pot at aq;generalize (renI ts es a0 n.name body s2).1.1=ai at *
       clear a2 a3 b3;generalize ds:zz ts es (qq ts es) s2.last=R at *
       rcases aa with aa|aa|aa<;>rcases cw with ax|⟨ax,cx⟩
       all_goals
        simp[go_sem,e3,e4,e6,e8,e9,a6,a7,a8,J,a5,a9,ad,aa,zf];refine cQ cn (.zk (zn ts) (.zs .nil)) ?_;simp[go_sem,e3,e4,e6,e8,e9,a6,a7,a8,J,a5,a9,ad,aa,zf,ay.len];rw[if_pos ay.one];generalize putCells _ 0 C=PC
        first
        |simp[go_sem,e3,e4,e6,e8,e9,a6,a7,a8,J,a5,a9,ad,aa,zf,ax,cx]
        |simp[go_sem,e3,e4,e6,e8,e9,a6,a7,a8,J,a5,a9,ad,aa,zf,ax]
        refine cQ cf (.zk (wJ ts l s2) .nil) ?_;simp[go_sem,e3,e4,e6,e8,e9,a6,a7,a8,J,a5,a9,ad,aa,zf,ax];refine qj.move 2 2 zKr zKr ?_ ?_
        all_goals
         simp[go_sem,e3,e4,e6,e8,e9,a6,a7,a8,J,a5,a9,ad,aa,zf,ax];refine qr7 (lo:=rr.length+6) (xs:=[]) (ys:=I) (OwnF.nil zSp) (by simp[qD]) (by simp at ah⊢;omega) ?_;intro dt du cy au;simp[go_sem,e3,e4,e6,e8,e9,a6,a7,a8,J,a5,a9,ad,aa,zf,ax];refine qeC (y:=(n.name,⟨none,0,vN R⟩)) cy (by simp at ah⊢;omega) ?_;intro da dv b0 aj;have n0:=(aj 0 zOm).trans (au 0 zOm);have n1:=(aj 1 zOm).trans (au 1 zOm);have n2:=(aj 2 zOm).trans (au 2 zOm);have n3:=(aj 3 zOm).trans (au 3 zOm);simp at n0 n1 n2 n3;simp[go_sem,e3,e4,e6,e8,e9,a6,a7,a8,J,a9,ad,aa,zf,ax];refine aK ⟨false,rr.length+6,da,I++[(n.name,⟨none,0,vN R⟩)],ai,vN R,⟨R,s2.sM⟩,av,hq,zSi,.inr ⟨zVs b0,?_,zOm⟩,⟨zS2 e3 ax,zS1 e4,zS1 e6,zS1 e8,zS1 e9,zS1 a6,zS1 a7,zS1 a8,zS1 n0,zS1 n1,zS1 n2,zS2 n3 aa,?_,a1,a4,A.al,b1,A.c0,A.c1,A.z1,A.z2⟩,?_,?_,fun h=>zOm⟩
         .intro b s o q e;have:=b4 b s o q e;omega
         .simp only[qC]
          refine qeD A.ho b4 (zW1 b0.2.2) fun j h4 hj=>?_
          obtain⟨i,rfl⟩:∃ i,j=i+4:=⟨j-4,zOm⟩;rw[aj _ zOm,au _ zOm,a5];simp only[vP];rw[zGa]
         .simp at ah⊢;omega
         .rw [bq];unfold pot;simp only;omega
      .have cb:body=false:=by cases body with
        |true=>exact absurd (.inl rfl) ag
        |false=>rfl
       have db:means ts n.name=[]:=Classical.byContradiction fun x=>ag (.inr x)
       have hq:(if binB n.op=true/\1=1 then R' I ab s2 else ((I,ab),s2))=((I,ab),s2):=by
        rw[if_pos ⟨ao,rfl⟩,bi,bh];show renR ts es I n.name body s2=_;unfold renR;rw[if_neg ag]
       rcases aa with aa|aa|aa
       all_goals
        simp[go_sem,e3,e4,e6,e8,e9,a6,a7,a8,J,a5,a9,ad,aa,zf];refine cQ cn (.zk (zn ts) (.zs .nil)) ?_;simp[go_sem,e3,e4,e6,e8,e9,a6,a7,a8,J,a5,a9,ad,aa,zf,ay.len];rw[if_pos ay.one];generalize putCells _ 0 C=PC;simp[go_sem,e3,e4,e6,e8,e9,a6,a7,a8,J,a5,a9,ad,aa,zf,cb,db];refine aK ⟨full,rr.length+5,.lst full (I.map cSb),I,a0,ab,s2,av,hq,zS1 J,.inl rfl,A.keep (zS2 e3 cb) (zS1 e4) (zS1 e6) (zS1 e8) (zS1 e9) (zS1 a6) (zS1 a7) (zS1 a8) (rr.length+4) zOm ?_ zSi (fun j hj=>?_),?_,?_,fun h=>zOm⟩
        .exact b4
        .simp only[qC]
         rw[a5]
         match j,hj with
         | 0,_=>rfl
         | 1,_=>rfl
         | 2,_=>rfl
         | 3,_=>simp[aa]
         |i+4,hj =>
          simp only[vP];rw[zGa]
        .simp at ah⊢;omega
        .have bo:dueN (qq ts es) (binB n.op) 1=(qq ts es:Int):=by unfold dueN;rw[if_pos ⟨ao,zOm⟩]
         have bq:dueN (qq ts es) (binB n.op) 2=0:=by unfold dueN;rw[zIn]
         rw[bo]at aq;rw[bq];omega
     .have cc:¬n.op=15:=fun e=>ao (by simp[binB,e])
      have cd:¬n.op=45:=fun e=>ao (by simp[binB,e])
      have cg:¬n.op=46:=fun e=>ao (by simp[binB,e])
      simp[go_sem,e3,e4,e6,e8,e9,a6,a7,a8,J,a5,a9,ad,cc,cd,cg,zf];refine aK ⟨full,4,.lst full (I.map cSb),I,a0,ab,s2,av,by rw[if_neg (fun x=>ao x.1)],zS1 J,.inl rfl,A.same (zS1 e3) (zS1 e4) (zS1 e6) (zS1 e8) (zS1 e9) (zS1 a6) (zS1 a7) (zS1 a8) (zS1 a5),?_,?_,fun h=>zOm⟩
      .simp at ah⊢;omega
      .rw [<-UX (fun x=>ao x.1)];exact aq
    .have ch:¬(k:Int)=1:=by omega
     simp[go_sem,e3,e4,e6,e8,e9,a6,a7,a8,J,a5,a9,ch,zf];refine aK ⟨full,4,.lst full (I.map cSb),I,a0,ab,s2,av,by rw[if_neg (fun x=>au x.2)],zS1 J,.inl rfl,A.same (zS1 e3) (zS1 e4) (zS1 e6) (zS1 e8) (zS1 e9) (zS1 a6) (zS1 a7) (zS1 a8) (zS1 a5),?_,?_,fun h=>b9 zOm⟩
     .split at ah<;>split<;>omega
     .rw [<-UX (fun x=>au x.2)];exact aq
   .rintro U ⟨full,P,sl,ae,ai,aw,s3,av,hq,J,br,A,ah,aq,b9⟩
    rw[hq]at hI;simp only at hI;have b5:StOk (qq ts es) s3:=⟨A.l0,zW1 A.c0,A.c1,zW1 (Z1 (qq ts es) (binB n.op) (k+1))⟩;have bs:(ae.length:Int)<=s3.sM+8:=by split at ah<;>omega
    have x1:=bj n.sD[k] (qs a9) ai ae s3 b5 A.c0 A.en A.so bs;have x2:=bn n.sD[k] (qs a9) ai ae s3 b5 A.c0 A.en A.so;generalize E' ae n.sD[k] s3=q at *
    clear bj bn;rw[qiT,qiU];refine qj.fz (qr6 (fun U=>∃ full,U.tm 1 = .lst full (ae.map cSb)/\AtK ts l es n body s k ae ai aw s3 af av z U) ?_ ?_)
    .rcases br with br|⟨dc,b4,h4⟩
     .exact FzQ.skip ⟨full,by rw[J,br],A⟩
     .refine FzQ.own (d:=1) J dc (Jm ae) (fun r hr c hc=>by obtain⟨x,_,rfl⟩:=qn.1 hr;exact Wn x c hc) ?_
      intro dd bt dw aj;refine⟨bt,zSi,A.keep (by simp[go_sem,A.e3]) (by simp[go_sem,A.e4]) (by simp[go_sem,A.e6]) (by simp[go_sem,A.e8]) (by simp[go_sem,A.e9]) (by simp[go_sem,A.e11]) (by simp[go_sem,A.e12]) (by simp[go_sem,A.e13]) P h4 b4 ?_ ?_⟩
      .have:=A.ho.2.2;simp only[qC];omega
      .intro j hj;simp only[qC];exact aj j hj
    rintro U ⟨full,J,A⟩;obtain⟨rr,a5⟩:=four A.m0 A.m1 A.m2 A.m3;have e3:=A.e3;have e4:=A.e4;have e6:=A.e6;have e8:=A.e8;have e9:=A.e9;have a6:=A.e11;have a7:=A.e12;have a8:=A.e13;have ak:=A.ho.one;have an:=A.ho.cells;refine fD [0,1,2,3,4,5,6,7,8,9,10,11,12,17,13,14,15,16] [(0,0,[]),(1,0,[]),(2,0,[]),(3,0,[]),(4,0,[]),(5,0,[]),(6,0,[]),(7,0,[]),(8,1,[]),(9,0,[]),(10,0,[]),(11,0,[]),(12,0,[]),(17,0,[]),(13,2,[0,3,6]),(14,2,[0,3,6]),(15,1,[]),(16,1,[])] zKr zKr zSi ?_;simp[go_sem,e3,e4,e6,e8,e9,a6,a7,a8,J,a5,a9,zf,ak,an];refine cQ x1 (.zk (wJ ts l s3) (.cons (WK.lst fun r hr c hc=>by
     obtain⟨x,_,rfl⟩:=qn.1 hr;exact Wn x c hc) (.zk (qL _) (.zs .nil)))) ?_
    simp[go_sem,e3,e4,e6,e8,e9,a6,a7,a8,J,a5,a9,zf,ak,an];by_cases ar:4000<q.1.sM
    .rw [if_pos ar]at hI
     have hI:az=(q.1,nd0,0):=hI.symm;simp[go_sem,e3,e4,e6,e8,e9,a6,a7,a8,J,a5,a9,zf,ak,an,ar];rw[hI];exact rdZ ts l q.1
    .rcases x2 with x2|⟨_,g⟩
     .exact absurd x2 ar
     rw[if_neg ar]at hI;simp[go_sem,e3,e4,e6,e8,e9,a6,a7,a8,J,a5,a9,zf,ak,an,ar];obtain⟨g1,g2,g3⟩:=Wm g b5;have gz:=g.z0;have dx:=g.cz;have de:=g.c1;have gp:=g.p;have dy:=A.z1;have dz:=A.z2;have cr:=A.c0;have df:=A.al;have dj:=A.ho.2.2;refine YD.UZ (lo:=4) (xs:=af) ?_ zOm ?_
     .have h1:OwnF 4 (U.mu++[Cell.arr (cWk ts l q.1),Cell.arr (cNd q.2.1)]) 5 av (af.map cNd):=YD.Zs A.ho zSo fun i _ hi=>qN hi
      rw[a5]at h1;have h2:=OwnF.set (i:=0) (c:=Cell.arr (cWk ts l q.1)) h1 zOm;simpa using h2
     intro cj dd b0 aj;have n0:=aj 0 zOm;have n1:=aj 1 zOm;have n2:=aj 2 zOm;have n3:=aj 3 zOm;simp at n0 n1 n2 n3;obtain⟨r2,ck⟩:=four n0 n1 n2 n3;have bu:=b0.one;have bv:=b0.cells;have w3:qp.wrap (z+q.2.2)=z+q.2.2:=zWr;simp[go_sem,e3,e4,e6,e8,e9,a6,a7,a8,J,ck,a9,zf,bu,bv,ar,w2,w3];refine aK ⟨full,ae,ai,aw,q.1,af++[q.2.1],cj,z+q.2.2,zS1 J,⟨zS1 e3,zS1 e4,zS1 e6,zS1 e8,zS1 e9,zS1 a6,zSi,zSi,zSi,zSi,zSi,zSi,?_,A.so,A.en,zP1 df,g1.l0,zOm,de,zOm,zOm⟩,zOm,zOm,b9,?_⟩
     .have h2:=OwnF.set (i:=3) (c:=Cell.arr [aI n.op,aS aw,aI n.n,cj,aI n.pos]) b0 zOm
      rw[ck]at h2;simpa[go_sem] using h2
     .rw [<-hI]
      generalize uy E' R' (binB n.op) (k+1) ae aw (List.drop (k+1) n.sD) q.1=X;cases X with
      |error e=>rfl
      |ok r =>
       obtain⟨⟨a,b,c⟩,d⟩:=r;simp[resK];omega
  .simp [go_sem,e3,e4,e6,e8,e9,a6,a7,a8,J,a5,a9,zf,ak,an]
   refine fD [0,1,2,5,3,4] [(0,0,[]),(1,0,[]),(2,0,[]),(5,0,[]),(3,1,[1]),(4,1,[])] zKr zKr zSi ?_;simp[go_sem,e3,e4,e6,e8,e9,a6,a7,a8,J,a5,a9,zf,ak,an];rw[Ww zOm]at hI;have hI:az=(s2,.mk n.op ab n.n af n.pos,z):=by rw[<-hI];simp[uy,resK]
   rw[hI];refine .tup _ _ rfl fun k x y hx hy=>?_
   match k,hx,hy with
   | 0,hx,hy=>cases hx;cases hy;exact .hf _ (wJ ts l s2)
   | 1,hx,hy =>
    cases hx;cases hy;have dh:eNd (.mk n.op ab n.n af n.pos) = .agg [aI n.op,aS ab,aI n.n,.lst false (af.map cNd),aI n.pos]:=by
     show AV.agg (cNd _)=_;rw[yB];rfl
    show Rd _ _ (eNd (.mk n.op ab n.n af n.pos));rw[dh];refine .agg _ _ rfl fun k x y hx hy=>?_
    match k,hx,hy with
    | 0,hx,hy=>cases hx;cases hy;exact .zsc _
    | 1,hx,hy=>cases hx;cases hy;exact .zsc _
    | 2,hx,hy=>cases hx;cases hy;exact .zsc _
    | 3,hx,hy =>
     cases hx;cases hy;have h1:=OwnF.set (i:=1) (c:=Cell.arr (cWk ts l s2)) A.ho zOm;have h2:=OwnF.set (i:=2) (c:=Cell.arr [aI n.op,aS ab,aI n.n,av,aI n.pos]) h1 zOm;rw[a5]at h2;exact h2.1.rd (YD.UY af).ok fun r hr c hc=>by
      obtain⟨x,_,rfl⟩:=qn.1 hr;exact vJ x c hc
    | 4,hx,hy=>cases hx;cases hy;exact .zsc _
    |k+5,hx,hy=>cases hx
   | 2,hx,hy=>cases hx;cases hy;exact .zsc _
   |k+3,hx,hy=>cases hx
end
end RA
namespace RB
open YF Y9 Y1 YX YZ YB YC YE YG YH P1 P2 Q4 Q6 PF QE QT QW QX QY QZ RA
theorem qeE(l):∀ es nm,getK nm (putN es l)=some true↔(getK nm es=some true\/∃ x,x∈l/\x.name=nm):=by
 induction l with
 |nil=>intro es nm;exact⟨fun h => .inl h,fun h=>h.elim id fun⟨x,g,_⟩=>absurd g qH⟩
 |cons a l i =>
  intro es nm;have e:putN es (a :: l)=putN (setK a.name true es) l:=rfl;rw[e,i,vw];by_cases e:nm=a.name
  .grind
  .rw [if_neg e]
   constructor
   .grind
   .rintro (h|⟨x,g,j⟩)
    .exact .inl h
    .rcases qy.1 g with rfl|g
     .grind
     grind
theorem qr8(l:List Pd):∀ es nm,getK nm (l.foldl (fun es p=>putN es (preN p.body)) es)=some true↔(getK nm es=some true\/∃ p,p∈l/\∃ x,x∈preN p.body/\x.name=nm):=by
 induction l with
 |nil=>simp
 |cons a l i =>
  intro es nm;rw[List.foldl_cons,i,qeE];constructor
  .grind
  .rintro (h|⟨p,g,h⟩)
   .grind
   .rcases qy.1 g with rfl|g
    .grind
    grind
structure Ti (es:List (tA×Bool)):Prop where
 nd:(es.map Prod.fst).Nodup
 tr:∀ e,e∈es->e.2=true
theorem Ti.put(l):∀{es},Ti es->Ti (putN es l):=by
 induction l with
 |nil=>intro es h;exact h
 |cons a l i =>
  intro es h;refine i (es:=setK a.name true es) ⟨wh h.nd,fun e g=>?_⟩;rcases U1 g with rfl|g
  .rfl
  .exact h.tr e g
theorem cX(l:List Pd):∀{es},Ti es->Ti (l.foldl (fun es p=>putN es (preN p.body)) es):=by
 induction l with
 |nil=>grind
 |cons a l g=>intro es h;exact g (h.put _)
theorem kW{nm}(n)(i:nm≠⟨#[]⟩):nm∈namL n↔∃ x,x∈preN n/\x.name=nm:=by
 unfold namL;rw[qn];constructor
 .rintro ⟨x,g,e⟩
  exact⟨x,(jM.1 g).1,e⟩
 .rintro ⟨x,g,e⟩
  exact⟨x,jM.2 ⟨g,by rw[e];simpa using i⟩,e⟩
theorem takTn(ts n):Tn (takL ts n) (yX ts n):=by
 have i:∀ o:tA,o≠⟨#[]⟩->(o∈takL ts n↔getK o (yX ts n)=some true):=fun o r=>by
  unfold takL yX;rw[qr8,qeE,qK,kW n r,wQ];constructor
  .grind [kW]
  .rintro ((h|h)|⟨p,P,h⟩)
   .cases h
   .exact .inl h
   grind [kW]
 refine⟨i,?_⟩;have g:Ti (yX ts n):=cX _ (Ti.put _ ⟨.nil,fun e t=>absurd t qH⟩);have:=List.Nodup.length_le_of_subset (l₂:=⟨#[]⟩ :: takL ts n) g.nd fun x C=>by
  by_cases e:x=⟨#[]⟩
  .grind
  .refine zc _ ((i x e).2 ?_)
   obtain⟨q,l,rfl⟩:=qn.1 C;have I:=g.tr q l;have J:=(Zb g.nd (k:=q.1) (v:=q.2)).2 l;rw[J,I]
 grind
theorem qeF(ts)(h:okTS ts)(l es)(t:Tn l es)(I:l.length<=400000)(J:qq ts es<=200000)(g:Free ts es)(j:∀ p,p∈ts.sT->WfN p.body/\yS ts p.body):∀ f env sc n body s,Pre ts es f env sc n body s->ExpW ts l es f sc n body s
 | 0,env,sc,n,body,s,p=>zW2 p.fu p.st.c1
 |f+1,env,sc,n,body,s,p=>by
  have P:=qeF ts h l es t I J g j f;by_cases o:s.sM+1<=4000
  case neg=>grind [expZ]
  by_cases R:n.op=1
  .grind [expN]
  by_cases h47:n.op=47
  .obtain ⟨r,C,i⟩:=p.cl n (ux n) h47
   have T:(payS 1 s).sM=s.sM+1:=rfl;exact expC ts l es f env sc n body s p o h47 r C (replW ts h l es g j f P env sc n body (payS 1 s) ⟨zW1 p.fu,(Qo p.st zOm o).ok p.st,p.en,p.wf,p.cl,p.so,zW1 p.le⟩ h47 r C i)
  grind [expK]
theorem inlRU(ts)(h:okTS ts)(hv:∀ p,p∈ts.sT->zd p.body=true)(hb:∀ p,p∈ts.sT->WfN p.body/\yS ts p.body)(n)(hn:zd n=true)(a7:(yi ts [] n).1=0->yS ts n):qi qe 52 [eTS ts,eNd n] (.tup [eNd (yq ts n).1,aI (yq ts n).2]):=by
 have hw:=uq hn;have a8:=wG.1 hn;have J:∀ p,p∈ts.sT->WfN p.body:=fun p hp=>(hb p hp).1
 have a9:∀ p,p∈ts.sT->(preN p.body).length<=400:=fun p hp=>by grind [wG,Vn]
 have aa:(preN n).length<=400:=by grind [Vn]
 have hF:=ku h hv hn;have hT:=takTn ts n;have af:=h.np;have ab:(takL ts n).length<=400000:=by
  have h1:∀ L:List Pd,(∀ p,p∈L->(preN p.body).length<=400)->(L.flatMap fun p=>namL p.body).length<=400*L.length:=by
   intro L;induction L with
   |nil=>intro _;simp
   |cons a L ih =>
    intro hL;have a1:=ih fun p hp=>hL p (zc _ hp)
    have a2:=Wk a.body;have a3:=hL a (zl ..);rw[wP,za,zu];omega
  grind [Wk,takL,za]
 have P:=K1 ts (yX ts n);have T:StOk (qq ts (yX ts n)) ⟨0,0⟩:=⟨zSp,zSp,zSp,by simp[pot]⟩;have cf:=kO ts h J [] ⟨zSp,zSp⟩ zSp n hw a8.2.2.2;have l:=qaH (szN n) n (qr _) hw.small;have ct:=qrX ts h J n hw aa a9;have U:WKs [eTS ts,.lst true [],eNd n] [eTS ts,lPm [],eNd n] := .zk (zn ts) (.cons (WK.lst fun r hr=>absurd hr qH) (.zk (qL n) .nil));have ad:WKs [eTS ts,eNd n] [eTS ts,eNd n] := .zk (zn ts) (.zk (qL n) .nil);generalize i:yq ts n=R;unfold yq at i;by_cases j:(yi ts [] n).1=0
 case neg =>
  rw[if_pos j]at i;subst i;refine qSU call52 func52 rfl ?_;refine cQ cf U ?_;simp[go_sem,j];refine fD [0,1,2,4,3] [(0,0,[]),(1,0,[]),(2,0,[]),(4,0,[]),(3,1,[2])] zKr zKr zSi ?_;simp_all[go_sem,Jc]
 rw[if_neg (zUs j)]at i;cases ha:anyN (fun n=>decide (n.op=47)) n with
 |false =>
  rw[ha]at i l;rw[if_pos rfl]at i;subst i;refine qSU call52 func52 rfl ?_;refine cQ cf U ?_;simp[go_sem,j];refine cQ l (.zk (qL n) .nil) ?_;simp[go_sem,j];exact .hf _ (HF.tup fun x hx=>by
   simp only[qy,qH,or_false]at hx;rcases hx with rfl|rfl
   .exact qL n
   .exact HF.sc _)
 |true =>
  rw[ha]at i l;rw[if_neg zSp]at i;have a0:=a7 j;have cx:=qeF ts h (takL ts n) (yX ts n) hT ab hF P hb 4001 [] [] n false ⟨0,0⟩ ⟨zSp,T,.nil,hw,a0,⟨fun o=>rfl,fun _ o v hv=>(by cases hv),fun e he=>absurd he qH⟩,zSp⟩;have ho:=Jl ts (yX ts n) P hb 4001 [] [] n false ⟨0,0⟩ zSp T .nil hw a0 ⟨fun o=>rfl,fun _ o v hv=>(by cases hv),fun e he=>absurd he qH⟩;have a4:=fun {n' z s'}=>Jb ts J (yX ts n) 4001 (env:=[]) (n:=n) (n':=n') (body:=false) (s:=⟨0,0⟩) (s':=s') (z:=z) (fun e he=>absurd he qH) hw
  have a5:=fun {n' z s'}=>jW ts P 4001 (env:=[]) (n:=n) (n':=n') (body:=false) (s':=s') (z:=z) T .nil
  have a6:=fun {d}=>Vj ts (yX ts n) 4001 (env:=[]) (n:=n) (body:=false) (s:=⟨0,0⟩) (d:=d)
  unfold outI at i;unfold ExpW at cx;generalize expR ts (yX ts n) 4001 [] n false ⟨0,0⟩=q at *
  generalize expI ts (yX ts n) 4001 [] n false ⟨0,0⟩=E at *
  have ae:(4000<q.1.sM/\R=(nd0,2))\/(¬ 4000<q.1.sM/\Small q.2.1/\depN q.2.1<=1000000/\((400<q.2.2/\R=(nd0,2))\/(¬ 400<q.2.2/\24<depN q.2.1/\R=(nd0,2))\/(¬ 400<q.2.2/\¬ 24<depN q.2.1/\R=(q.2.1,0)))):=by
   cases E with
   |error d =>
    have:=a6 rfl;subst this;exact .inl ⟨ho.1,i.symm⟩
   |ok r =>
    obtain⟨⟨m,y⟩,t⟩:=r;obtain⟨o1,o2,o3⟩:=ho;obtain⟨s1,s2⟩:=a4 rfl;have g:=a5 rfl;have gc:=g.c1;have gz:=g.cz;have dl:=KZ m;rw[o1,o2,o3];have gz:0+y<=t.sM:=gz;refine .inr ⟨zOm,s2,zOm,?_⟩;simp only at i;by_cases z1:y<=400
    .by_cases z2:depN m<=24
     .grind
     grind
    .rw [if_neg (fun x=>z1 x.1)]at i
     grind
  clear i ho a4 a5 a6;refine qSU call52 func52 rfl ?_;refine cQ cf U ?_;simp[go_sem,j];refine cQ l (.zk (qL n) .nil) ?_;simp[go_sem,j];refine fD [0,1,2,5,3,4,6,7,8,9,10,15,11,12,13,14] [(0,0,[]),(1,0,[]),(2,0,[]),(5,0,[]),(3,1,[0,5]),(4,0,[]),(6,1,[]),(7,0,[]),(8,0,[]),(9,0,[]),(10,0,[]),(15,0,[]),(11,2,[0,1,2,5]),(12,2,[0,1,2,5]),(13,1,[]),(14,1,[])] zKr zKr zSi ?_;simp[go_sem,j];refine cQ ct ad ?_;simp[go_sem,j];refine cQ cx ?_ ?_
  .exact .zk (wJ ts (takL ts n) ⟨0,0⟩) (.cons (WK.lst fun r hr=>absurd hr qH) (.zk (qL n) (.zs .nil)))
  simp[go_sem,j];have ag:∀ C:Mu,Rd C (.tup [eNd q.2.1,aI 0]) (.tup [eNd q.2.1,aI 0]):=fun C => .hf _ (HF.tup fun x hx=>by
   simp only[qy,qH,or_false]at hx;rcases hx with rfl|rfl
   .exact qL _
   .exact HF.sc _)
  rcases ae with ⟨g1,g2⟩|⟨g1,gs,gd,⟨g2,g3⟩|⟨g2,g3,g4⟩|⟨g2,g3,g4⟩⟩
  .simp_all [go_sem,g1,Jc]
  .rw [g3]
   simp[go_sem,j,g1,g2];exact Jc _ _
  .rw [g4]
   simp[go_sem,j,g1,g2];refine cQ (kU (szN q.2.1) q.2.1 (qr _) gs gd) (.zk (qL _) .nil) ?_;simp_all[go_sem,g1,Jc]
  .rw [g4]
   simp[go_sem,j,g1,g2];refine cQ (kU (szN q.2.1) q.2.1 (qr _) gs gd) (.zk (qL _) .nil) ?_;simp[go_sem, *]
end RB
namespace FE
open Y1 Y9
def yk(op a s:Int)(i:Nat)(k:Int):Int:=if op=48\/op=49\/op=51 then k*s else if i=1/\(op=45\/op=46\/op=15) then k*a else k
def minW(v:Int):Int:=if 1000000<v then 1000000 else v
mutual
def wkN(a s:Int):Nd->Int
 | .mk op _ _ ks _=>wkNs a s op 0 ks 1
def wkNs(a s op:Int):Nat->List Nd->Int->Int
 |_,[],sum=>sum
 |i,k :: ks,sum=>wkNs a s op (i+1) ks (minW (sum+yk op a s i (wkN a s k)))
end
theorem qr9(a s n):wkN a s n=wkNs a s n.op 0 n.sD 1:=by
 obtain⟨op,o,i,ks,q⟩:=n;rw[wkN];rfl
theorem qeG{op a s i k}(j:0<=a/\a<=100)(l:0<=s/\s<=100)(g:0<=k/\k<=1000000):0<=yk op a s i k/\yk op a s i k<=100000000:=by
 unfold yk;have o:=Int.mul_nonneg g.1 j.1;have p:=Int.mul_nonneg g.1 l.1;have r:k*a<=1000000*100:=jE g.2 j.2 j.1 zOm;have t:k*s<=1000000*100:=jE g.2 l.2 l.1 zOm;split
 .omega
 omega
theorem qeH{v}(h:0<=v):0<=minW v/\minW v<=1000000:=by unfold minW;split<;>omega
mutual
theorem qeI(a s:Int)(g:0<=a/\a<=100)(i:0<=s/\s<=100):∀ n:Nd,0<=wkN a s n/\wkN a s n<=1000000
 | .mk op _ _ ks _=>by rw[wkN];exact qeJ a s g i op ks 0 1 zOm
theorem qeJ(a s:Int)(g:0<=a/\a<=100)(j:0<=s/\s<=100)(op:Int):∀(ks:List Nd)(i:Nat)(sum:Int),0<=sum/\sum<=1000000->0<=wkNs a s op i ks sum/\wkNs a s op i ks sum<=1000000
 | [],_,sum,h=>by rw[wkNs];exact h
 |k :: ks,i,sum,h=>by
  rw[wkNs];have l:=qeI a s g j k;have o:=qeG (op:=op) (i:=i) g j l;exact qeJ a s g j op ks (i+1) _ (qeH zOm)
end
theorem qeK(a s)(ha:0<=a/\a<=100)(hs:0<=s/\s<=100):∀ m n,szN n<=m->Small n->qi qe 53 [eNd n,aI a,aI s] (aI (wkN a s n))
 | 0,n,hm,_=>by obtain⟨op,nm,i,ks,p⟩:=n;simp[szN]at hm
 |m+1,n,hm,a7=>by
  have ih:∀ k,k∈n.sD->qi qe 53 [eNd k,aI a,aI s] (aI (wkN a s k)):=fun k hk=>qeK a s ha hs m k (zW1 (yw hk)) (a7.kid hk)
  rw[qr9];have a9:=a7.len;generalize hR:wkNs a s n.op 0 n.sD 1=R;refine qSU call53 func53 rfl ?_;refine kL n.sD.length (fun k U=>∃ sum:Int,U.tm 1=aI a/\U.tm 2=aI s/\U.tm 3 = .ip (cNd n)/\U.tm 7=aI sum/\U.tm 8=aI k/\(0<=sum/\sum<=1000000)/\wkNs a s n.op k (n.sD.drop k) sum=R) ?_ ?_
  .simp [go_sem, *]
  .rintro k U hk ⟨sum,r,t,C,e7,e8,aa,o⟩
   by_cases a8:k=n.sD.length
   .subst a8
    rw[zZ,wkNs]at o;subst o;simp[go_sem,r,t,C,e7,e8];exact .zsc _
   .have l:k<n.sD.length:=by omega
    rw[zp l,wkNs]at o;have w1:=zWk k;have a3:=qeI a s ha hs n.sD[k];have ab:=qeG (op:=n.op) (i:=k) ha hs a3;have j:=qeH (v:=sum+yk n.op a s k (wkN a s n.sD[k])) zOm;have m1:=Int.mul_nonneg a3.1 ha.1;have m2:=Int.mul_nonneg a3.1 hs.1;have m3:wkN a s n.sD[k] * a<=1000000*100:=jE a3.2 ha.2 ha.1 zOm;have m4:wkN a s n.sD[k] * s<=1000000*100:=jE a3.2 hs.2 hs.1 zOm;simp[go_sem,r,t,C,e7,e8,l,zf];refine cQ (ih n.sD[k] (qs l)) (.zk (qL _) (.zs (.zs .nil))) ?_;generalize wkN a s n.sD[k]=K at *
    by_cases I:k=1
    .have g:(k:Int)=1:=by omega
     by_cases a0:n.op=48
     .have J:yk n.op a s k K=K*s:=by simp[yk,a0,I,g]
      rw[J]at o j;have P:qp.wrap (K*s)=K*s:=zWr;have T:qp.wrap (sum+K*s)=sum+K*s:=zWr;simp[go_sem,r,t,C,e7,e8,w1,P,T,l,a0,eq_true I,eq_true g];simp_all[go_sem,aK,minW]
     by_cases a1:n.op=49
     .have J:yk n.op a s k K=K*s:=by simp[yk,a1,I,g]
      rw[J]at o j;have P:qp.wrap (K*s)=K*s:=zWr;have T:qp.wrap (sum+K*s)=sum+K*s:=zWr;simp[go_sem,r,t,C,e7,e8,w1,P,T,l,a1,eq_true I,eq_true g];exact aK ⟨_,zS1 r,zS1 t,zS1 C,by simp[go_sem,minW],zSi,j,o⟩
     by_cases a2:n.op=51
     .have J:yk n.op a s k K=K*s:=by simp[yk,a2,I,g]
      rw[J]at o j;have P:qp.wrap (K*s)=K*s:=zWr;have T:qp.wrap (sum+K*s)=sum+K*s:=zWr;simp[go_sem,r,t,C,e7,e8,w1,P,T,l,a2,eq_true I,eq_true g];exact aK ⟨_,zS1 r,zS1 t,zS1 C,by simp[go_sem,minW],zSi,j,o⟩
     by_cases a4:n.op=45
     .have J:yk n.op a s k K=K*a:=by simp[yk,a4,I,g]
      rw[J]at o j;have P:qp.wrap (K*a)=K*a:=zWr;have T:qp.wrap (sum+K*a)=sum+K*a:=zWr;simp[go_sem,r,t,C,e7,e8,w1,P,T,l,a4,eq_true I,eq_true g];exact aK ⟨_,zS1 r,zS1 t,zS1 C,by simp[go_sem,minW],zSi,j,o⟩
     by_cases a5:n.op=46
     .have J:yk n.op a s k K=K*a:=by simp[yk,a5,I,g]
      rw[J]at o j;have P:qp.wrap (K*a)=K*a:=zWr;have T:qp.wrap (sum+K*a)=sum+K*a:=zWr;simp[go_sem,r,t,C,e7,e8,w1,P,T,l,a5,eq_true I,eq_true g];exact aK ⟨_,zS1 r,zS1 t,zS1 C,by simp[go_sem,minW],zSi,j,o⟩
     by_cases a6:n.op=15
     .have J:yk n.op a s k K=K*a:=by simp[yk,a6,I,g]
      rw[J]at o j;have P:qp.wrap (K*a)=K*a:=zWr;have T:qp.wrap (sum+K*a)=sum+K*a:=zWr;simp[go_sem,r,t,C,e7,e8,w1,P,T,l,a6,eq_true I,eq_true g];exact aK ⟨_,zS1 r,zS1 t,zS1 C,by simp[go_sem,minW],zSi,j,o⟩
     have J:yk n.op a s k K=K:=by simp[yk,a0,a1,a2,a4,a5,a6,I,g]
     rw[J]at o j;have P:=w1;have T:qp.wrap (sum+K)=sum+K:=zWr;simp[go_sem,r,t,C,e7,e8,w1,P,T,l,a0,a1,a2,a4,a5,a6,eq_true I,eq_true g];simp_all[go_sem,aK,minW]
    .have g:¬(k:Int)=1:=by omega
     by_cases a0:n.op=48
     .have J:yk n.op a s k K=K*s:=by simp[yk,a0,I,g]
      rw[J]at o j;have P:qp.wrap (K*s)=K*s:=zWr;have T:qp.wrap (sum+K*s)=sum+K*s:=zWr;simp[go_sem,r,t,C,e7,e8,w1,P,T,l,a0,I,g];exact aK ⟨_,zS1 r,zS1 t,zS1 C,by simp[go_sem,minW],zSi,j,o⟩
     by_cases a1:n.op=49
     .have J:yk n.op a s k K=K*s:=by simp[yk,a1,I,g]
      rw[J]at o j;have P:qp.wrap (K*s)=K*s:=zWr;have T:qp.wrap (sum+K*s)=sum+K*s:=zWr;simp[go_sem,r,t,C,e7,e8,w1,P,T,l,a1,I,g];exact aK ⟨_,zS1 r,zS1 t,zS1 C,by simp[go_sem,minW],zSi,j,o⟩
     by_cases a2:n.op=51
     .have J:yk n.op a s k K=K*s:=by simp[yk,a2,I,g]
      rw[J]at o j;have P:qp.wrap (K*s)=K*s:=zWr;have T:qp.wrap (sum+K*s)=sum+K*s:=zWr;simp[go_sem,r,t,C,e7,e8,w1,P,T,l,a2,I,g];exact aK ⟨_,zS1 r,zS1 t,zS1 C,by simp[go_sem,minW],zSi,j,o⟩
     have J:yk n.op a s k K=K:=by simp[yk,a0,a1,a2,I,g]
     rw[J]at o j;have P:=w1;have T:qp.wrap (sum+K)=sum+K:=zWr;simp[go_sem,r,t,C,e7,e8,w1,P,T,l,a0,a1,a2,I,g];exact aK ⟨_,zS1 r,zS1 t,zS1 C,by simp[go_sem,minW],zSi,j,o⟩
end FE
namespace FF
end FF
namespace IB
open QU P1 P2 Y1 YF Y9 Y10 Y16 PA YC YG YH Q4 Q6 Q8 PF QT RB QL E3 F2 FC FD FE IA
section
variable {ts:TS}
abbrev bigT(ts:TS):Prop:=∀ x,x∈ts.sS->x.1.size<=4611686018427387904
structure SpD (ts:TS):Prop where
 h:okTS ts
 wp:∀ p,p∈ts.sT->WfN p.body
 wf:∀ f,f∈ts.sP->WfN f.2
 hv:∀ p,p∈ts.sT->zd p.body=true
 hf:∀ f,f∈ts.sP->zd f.2=true
theorem Wo(h:yP ts=true)(i:bigT ts):SpD ts:=by
 obtain⟨ok,j,wf⟩:=ql9 h i;simp only[yP,limB,fldB,qI,decide_eq_true_eq,zA]at h;obtain⟨⟨⟨⟨r,t⟩,C⟩,I⟩,hf,l,o⟩:=h;exact⟨ok,j,wf,fun p g=>(l p g).2,fun f g=>o f g⟩
theorem SpD.chk(S:SpD ts):qi qe 24 [eTS ts] (lDg (ju ts)):=
 qrS ts S.h S.wp S.wf (fun p g=>(wG.1 (S.hv p g)).2.2.2) (fun f hf=>(wG.1 (S.hf f hf)).2.2.2)
theorem SpD.chkF(S:SpD ts){n}(g:zd n=true):qi qe 25 [eTS ts,lPm [],eNd n] (eDg (yi ts [] n)):=
 kO ts S.h S.wp [] ⟨zSp,zSp⟩ zSp n (uq g) (wG.1 g).2.2.2
theorem qeL(S:SpD ts)(j:ju ts=[]):∀ p,p∈ts.sT->WfN p.body/\yS ts p.body:=fun p g=>⟨S.wp p g,by
 obtain⟨i,l,rfl⟩:=Qu.1 g;obtain⟨_,r,o⟩:=Wd (qc8 j i l);exact kn (uQ S.h zOm) (szN ts.sT[i].body) _ _ _ _ (qr _) o (S.wp _ g)⟩
theorem qeM(S:SpD ts){n}(g:zd n=true)(i:(yi ts [] n).1=0):yS ts n:=by
 obtain⟨_,l,j⟩:=Wd i;exact kn (uQ S.h (qr _)) (szN n) _ _ _ _ (qr _) j (uq g)
theorem inlC(S:SpD ts)(i:ju ts=[]){n}(g:zd n=true):qi qe 34 [eTS ts,eNd n] (.tup [eNd (yq ts n).1,aI (yq ts n).2]):=
 qo0 ts S.h (qeL S i) n (uq g) (qeM S g) (ku S.h S.hv g)
theorem inlR(S:SpD ts)(i:ju ts=[]){n}(g:zd n=true):qi qe 52 [eTS ts,eNd n] (.tup [eNd (yq ts n).1,aI (yq ts n).2]):=
 inlRU ts S.h S.hv (qeL S i) n g (qeM S g)
theorem qeN(S:SpD ts)(o:ju ts=[]){n}(j:zd n=true)(g:(yq ts n).2=0):zd (yq ts n).1=true:=by
 by_cases i:(yi ts [] n).1=0
 .cases l:anyN (fun n=>decide (n.op=47)) n with
  |false =>
   have:yq ts n=(n,0):=by unfold yq;rw[if_neg (zUs i),if_pos l]
   rw[this];exact j
  |true=>exact(qqF S.h S.hv o j i l (Prod.ext rfl g)).1
 .unfold yq at g
  rw[if_pos i]at g;exact absurd g i
theorem qsA(S:SpD ts)(g:ju ts=[]){m}(j:OkMa ⟨ts,m⟩ m.sK.length)(l:0<m.sK.length){n}(o:zd n=true):qi qe 10 [eTS ts,eMd m,eNd n] (.tup [aB (hV ⟨ts,m⟩ n).1,aI (hV ⟨ts,m⟩ n).2]):=by
 refine qnK ⟨ts,m⟩ m.sK.length j l (yq ts) n (by have:=S.h.nfa;show ts.sP.length<=_;omega) fun b p=>?_
 have i:zd b=true:=by
  rcases qK.1 p with h|h
  .obtain ⟨f,hf,rfl⟩:=qn.1 h
   exact S.hf f hf
  .rw [qV]at h;subst h;exact o
 refine⟨inlC S g i,fun r=>?_⟩;have:=qeN S g i r;exact⟨uq this,zW1 (qnM this)⟩
def qsB(ts:TS)(a s:Int)(l:List Nd):Bool:=l.all fun b=>!(decide ((yq ts b).2=0)&&decide (3000<wkN a s (yq ts b).1))
def Wp(ts:TS)(a s:Int)(n:Nd):Bool:=qsB ts a s (ts.sP.map Prod.snd++[n])
theorem qsC(S:SpD ts)(g:ju ts=[]){n}(i:zd n=true)(j:(yq ts n).2=0):Small (yq ts n).1:=(uq (qeN S g i j)).small
end
end IB
namespace IN
open Y1 P1 YF
def Zu(I:Nd->Nd×Int)(W:Nd->Int)(l:List Nd):Bool:=l.all fun b=>!(decide ((I b).2=0)&&decide (3000<W (I b).1))
theorem qsD(ts I W)(a3:ts.sP.length<=1000)(a s n)(step:∀ b,b∈ts.sP.map Prod.snd++[n]->qi qe 52 [eTS ts,eNd b] (.tup [eNd (I b).1,aI (I b).2]))(yk:∀ b,b∈ts.sP.map Prod.snd++[n]->(I b).2=0->qi qe 53 [eNd (I b).1,aI a,aI s] (aI (W (I b).1))):qi qe 26 [eTS ts,aI a,aI s,eNd n] (aB (Zu I W (ts.sP.map Prod.snd++[n]))):=by
 have a4:(ts.sP.map Prod.snd++[n]).length=ts.sP.length+1:=zSp;have t:∀(k:Nat)(h:k<ts.sP.length)(h2:k<(ts.sP.map Prod.snd++[n]).length),(ts.sP.map Prod.snd++[n])[k]=ts.sP[k].2:=fun k h h2=>by grind
 have C:∀(h2:ts.sP.length<(ts.sP.map Prod.snd++[n]).length),(ts.sP.map Prod.snd++[n])[ts.sP.length]=n:=fun h2=>zSp
 generalize ts.sP.map Prod.snd++[n]=L at *
 generalize hR:Zu I W L=R;refine qSU call26 func26 rfl ?_;refine kL (ts.sP.length+1) (fun k U=>U.tm 1=aI a/\U.tm 2=aI s/\U.tm 4 = .ip (cTS ts)/\U.tm 7 = .ip (cNd n)/\U.tm 9=aI k/\Zu I W (L.drop k)=R) ?_ ?_
 .simp [go_sem, *]
 rintro k U a5 ⟨J,P,p,T,r,g⟩;have wi:∀ b:Nd,WKs [eTS ts,eNd b] [eTS ts,eNd b]:=fun b => .zk (zn ts) (.zk (qL b) .nil)
 have ww:∀ b:Nd,WKs [eNd b,aI a,aI s] [eNd b,aI a,aI s]:=fun b => .zk (qL b) (.zs (.zs .nil))
 have w1:=zWk k;by_cases l:k<ts.sP.length+1
 .have i:k<L.length:=by omega
  have a1:k<=ts.sP.length:=zOm;have a0:(k:Int)<=ts.sP.length:=zOm;have c1:=step _ (qs i);have c2:=yk _ (qs i);rw[zp i,Zu,List.all_cons]at g;by_cases hf:k<ts.sP.length
  .rw [t k hf i]at g c1 c2
   generalize I ts.sP[k].2=ib at *
   obtain⟨b',e'⟩:=ib;simp only at g c1 c2;simp[go_sem,p,T,r,hf,a1,a0];refine fR c1 (wi _) ?_;by_cases he:e'=0
   .subst he
    have c3:=c2 rfl;simp[go_sem,J,P];refine cQ c3 (ww b') ?_;generalize W b'=w at *
    by_cases j:3000<w
    .simp [j]at g
     subst g;simp[go_sem,j];exact .zsc _
    .simp [j]at g
     simp[go_sem,j,r,w1,l];exact aK ⟨zS1 J,zS1 P,zS1 p,zS1 T,zSi,by simpa[Zu] using g⟩
   simp_all[go_sem,aK,Zu]
  .have o:k=ts.sP.length:=by omega
   subst o;rw[C i]at g c1 c2;generalize I n=ib at *
   obtain⟨b',e'⟩:=ib;simp only at g c1 c2;simp[go_sem,p,T,r];refine fR c1 (wi _) ?_;by_cases he:e'=0
   .subst he
    have c3:=c2 rfl;simp[go_sem,J,P];refine cQ c3 (ww b') ?_;generalize W b'=w at *
    by_cases j:3000<w
    .simp [j]at g
     subst g;simp[go_sem,j];exact .zsc _
    .simp [j]at g
     simp[go_sem,j,r,w1,l];exact aK ⟨zS1 J,zS1 P,zS1 p,zS1 T,zSi,by simpa[Zu] using g⟩
   .simp [he]at g
    simp[go_sem,he,r,w1,l];exact aK ⟨zS1 J,zS1 P,zS1 p,zS1 T,zSi,by simpa[Zu] using g⟩
 .have o:k=ts.sP.length+1:=by omega
  subst o;rw[Ww zOm]at g;have a2:R=true:=by rw[<-g];rfl
  subst a2;simp[go_sem,p,r,show ¬((ts.sP.length:Int)+1<=ts.sP.length) by omega];exact .zsc _
end IN
namespace IF
open P1 Y1 YF Y16 YG Q4 FE IB IN
theorem qsE{ts}(S:SpD ts)(i:ju ts=[])(a s)(l:0<=a/\a<=100)(o:0<=s/\s<=100){n}(p:zd n=true):qi qe 26 [eTS ts,aI a,aI s,eNd n] (aB (Wp ts a s n)):=by
 have j:∀ b,b∈ts.sP.map Prod.snd++[n]->zd b=true:=fun b g=>by
  rcases qK.1 g with h|h
  .obtain ⟨f,hf,rfl⟩:=qn.1 h
   exact S.hf f hf
  .rw [qV]at h;subst h;exact p
 exact qsD ts (yq ts) (wkN a s) (zW1 S.h.nfa) a s n (fun b g=>inlR S i (j b g)) (fun b g r=>qeK a s l o _ _ (qr _) (qsC S i (j b g) r))
end IF
namespace GZ
open E1 GB GF GP GU GY
theorem qeO(g s f t):t∈selT g s f↔((s:Int),(f:Int),t)∈g:=by
 simp only[selT,qn,jM,qI,decide_eq_true_eq];constructor
 .rintro ⟨⟨a,b,c⟩,⟨h,i,j⟩,rfl⟩
  simp only at i j;subst i j;exact h
 .intro h
  exact⟨_,⟨h,rfl,rfl⟩,rfl⟩
theorem kX:∀ g k p t,(p,t)∈qQ g k↔∃(f:Nat) (h:f<g.length),p=((k+f:Nat):Int)/\t∈uT g[f]
 | [],k,p,t=>by simp[qQ]
 |b :: g,k,p,t=>by
  simp only[qQ,qK,jk,qn,uB,kX g (k+1)];constructor
  .rintro (⟨a,j,rfl,rfl⟩|⟨f,hf,rfl,i⟩)
   .exact ⟨0,zSp,zSp,zUs j⟩
   .exact ⟨f+1,by simpa using hf,zOm,zUs i⟩
  .rintro ⟨f,hf,rfl,i⟩
   cases f with
   |zero=>grind
   |succ f=>grind
theorem qeP(i g)(N s f:Nat)(t):((s:Int),(f:Int),t)∈chs i (qQ g 0) N↔s<N/\(s=0\/i.getD f true=true)/\∃ h,t∈uT g[f]:=by
 simp only[chs,wQ,yb,chA,qn,jM,Bool.or_eq_true,decide_eq_true_eq,uB,Prod.exists];constructor
 .rintro ⟨C,l,p,I,⟨J,j⟩,P,rfl,rfl⟩
  grind [kX]
 .rintro ⟨o,j,hf,r⟩
  exact⟨s,o,f,t,⟨(kX _ _ _ _).2 ⟨f,hf,zSp,r⟩,zUs j⟩,rfl,rfl,rfl⟩
theorem qeQ(g lo t)(i:t∈lo.ts):∀(ts:List Int)(q),t∈q.1\/t∈ts->t∈(ts.foldl (y9 g lo) q).1
 | [],q,h=>by
  grind
 |a :: ts,q,h=>by
  rw[List.foldl_cons];refine qeQ g lo t i ts _ ?_;rcases h with h|h
  .grind [y9,List.mem_append_left]
  .rcases qy.1 h with rfl|h
   .refine .inl ?_
    unfold y9;rw[if_pos i];exact List.mem_append_right _ (qV.2 rfl)
   grind
theorem qeR(g):∀(i:List Bd)(q),∃ l,(i.foldl (insB g) q).1=q.1++l
 | [],q=>⟨[],zSp⟩
 |b :: i,q=>by
  obtain⟨l,h⟩:=qeR g i (insB g q b);exact⟨_,by rw[List.foldl_cons,h];simp only[insB,zt];rfl⟩
theorem qsF(g i f)(h:f<g.length):∃ n,(yy g i)[f]?=some ⟨g[f].up.ar,(insF i g[f].lo g[f].up.ts n).1⟩:=by
 have e:g=g.take (f+1)++g.drop (f+1):=(vF ..).symm;have j:jt g i=(g.drop (f+1)).foldl (insB i) (jt (g.take (f+1)) i):=by
  rw[jt,jt,<-vQ,vF]
 obtain⟨l,o⟩:=qeR i (g.drop (f+1)) (jt (g.take (f+1)) i);rw[<-j,mO g i f h]at o;have p:(yy (g.take f) i).length=f:=by rw[Zk];simp;omega
 grind [jt,yy,insB,zt,zJ]
theorem qeS(b t):t∈uT b↔t∈b.up.ts/\¬t∈b.lo.ts:=by simp[uT]
theorem qsG(g i f h)(r:g[f].lo.ar=g[f].up.ar)(C:sorted g[f].up.ts)(j:∀ t,t∈g[f].lo.ts->t∈g[f].up.ts)(ts)
  (l:∀ t,t∈ts↔t∈uT g[f]/\t∈((yy g i).getD f noR).ts):unR g[f].lo ⟨g[f].lo.ar,ts⟩=(yy g i).getD f noR:=by
 obtain⟨n,I⟩:=qsF g i f h;rw[zG,I]at l⊢;simp only[Option.getD_some]at l⊢;have o:(insF i g[f].lo g[f].up.ts n).1.Sublist g[f].up.ts:=by
  have:=J1 i g[f].lo g[f].up.ts ([],n) [] (List.Sublist.refl _)
  grind [insF]
 have J:∀ t,t∈g[f].lo.ts->t∈(insF i g[f].lo g[f].up.ts n).1:=fun t h=>qeQ i g[f].lo t h g[f].up.ts ([],n) (.inr (j t h))
 obtain⟨P,R⟩:=ZR (g[f].lo.ts++ts);unfold unR;rw[r];congr 1;refine nT P (C.sublist o) fun x=>?_
 rw[R,qK,l x,qeS];constructor
 .rintro (h|⟨_,h⟩)
  .exact J x h
  .exact h
 .intro h
  by_cases p:x∈g[f].lo.ts
  .exact .inl p
  .exact .inr ⟨⟨o.subset h,p⟩,h⟩
theorem qsH(sc:Sc)(j g i)(N k:Nat)(hN:sc.sN=N)(P:k<N)
  (R:∀ b,b∈g->b.lo.ar=b.up.ar) (T:∀ b,b∈g->sorted b.up.ts) (o:∀ b,b∈g->∀ t,t∈b.lo.ts->t∈b.up.ts) :
  anyM sc j g i k∈Qn sc j g (chs j (qQ g 0) N) N:=by
 refine UT.2 ⟨k,(chs j (qQ g 0) N).filter fun c=>decide (c.2.2∈((yy g (i.getD c.1.toNat [])).getD c.2.1.toNat noR).ts),P,List.filter_sublist,?_⟩;unfold anyM jL;have r:sc.sN.toNat=N:=zOm;rw[r];congr 1;refine List.map_congr_left fun s p=>?_
 rw[yb]at p;have key:∀(s f:Nat)(hf:f<g.length),s<N->(s=0\/j.getD f true=true) ->
   uV ((chs j (qQ g 0) N).filter fun c=>decide (c.2.2∈((yy g (i.getD c.1.toNat [])).getD c.2.1.toNat noR).ts)) s f g[f]=(yy g (i.getD s [])).getD f noR:=fun s f hf U hc=>by
  have C:=qs hf;refine qsG g (i.getD s []) f hf (R _ C) (T _ C) (o _ C) _ fun t=>?_
  simp_all[qeO,jM,qeP,decide_eq_true_eq,Int.toNat_natCast]
 refine List.ext_getElem (by rw[Kb,YR]) fun f h1 h2=>?_
 have hf:f<g.length:=by grind [Kb]
 rw[Vd _ _ _ _ _ hf];have hi:∀ l,f<(yy g l).length:=fun l=>by rw[Zk];exact hf
 have hg:∀ l,(yy g l)[f]'(hi l)=(yy g l).getD f noR:=fun l=>by grind
 by_cases I:s=0
 .subst I
  rw[if_neg zSp,key 0 f hf p (.inl rfl)];simp only[anyS,if_true];exact hg _
 .simp only[anyS,if_neg I,List.getElem_mapIdx]
  by_cases J:j.getD f true=true
  .grind
  .rw [if_neg J,if_pos ⟨I,zUs J⟩,key 0 f hf zOm (.inl rfl)]
end GZ
namespace GX
open YF P1 E3 E4 EO ER G5 GQ GR GW
theorem qsI(xs l p)(hf:EO.FnOk qe l (fun x=>aI x) (·∈xs) (fun x=>aB (p x)))(R:xs.length<=1000000000):qi qe 155 [lI xs,l] (aI (jK p xs 0)):=by
 refine qSU call155 func155 rfl ?_;refine qm.up xs.length (fun k U=>U.tm 0=lI xs/\U.tm 1=l/\U.tm 7=aI xs.length/\U.tm 8=aI k/\U.mu=[]/\jK p (xs.drop k) k=jK p xs 0) ?_ ?_
 .simp [go_sem]
 rintro k U T ⟨C,I,o,r,J,i⟩;by_cases g:k<xs.length
 .rw [XQ _ _ _ _ g]at i
  simp[go_sem,C,I,o,r,J,g];refine FnOk.call (enc:=fun x=>aI x) hf (qs g) ?_;by_cases j:p xs[k]=true
  .rw [if_pos j]at i
   simp[go_sem,j];rw[<-i];exact .zsc _
  .rw [if_neg j]at i
   simp only[Bool.not_eq_true]at j;simp[go_sem,C,I,o,r,g,j]
   grind [zW]
 .have t:k=xs.length:=by omega
  subst t;rw[zZ]at i;simp[go_sem,o,r,J];rw[<-i];exact .zsc _
theorem qsJ(xs g p)(hf:EO.FnOk qe g (fun x=>aI x) (·∈xs) (fun x=>aB (p x)))(i:xs.length<=1000000000):qi qe 102 [lI xs,g] (aB (xs.any p)):=by
 refine qSU call102 func102 rfl ?_;refine cQ (qsI xs g p hf i) (.zk (zh _) (.cons (.hf hf.1) .nil)) ?_;rw[<-Uu p xs 0 zOm];simp[go_sem];exact .zsc _
theorem qsK(ts sc)(F:Fit9 ts sc)(f)(hf:f∈ts.sA):qi qe 57 [eTS ts,Ua f] (aB true):=by
 have t:=F.f1 f hf;have l:=F.fs f hf;have C:=F.ns;have o:HF (.ip (cTS ts)):=HF.ip fun c j=>JR _ c j
 have p:∀ s,s∈f.sS->qi qe 103 [aI s,.ip (cTS ts)] (aB false):=fun s I=>by
  have:=l s I;have r:¬s<0:=zOm;have J:¬(ts.sS.length:Int)<=s:=zOm;refine qSV call103 func103 rfl ?_;simp[go_sem,r,J];exact .zsc _
 have g:HF (.fn (.func 103) [] [.ip (cTS ts)]):=HF.fn (fun c j=>by simp at j) (fun c j=>by grind);have i:=qsJ f.sS (.fn (.func 103) [] [.ip (cTS ts)]) (fun _=>false) ⟨g,_,[],_,rfl,fun x P=>⟨[aI x,.ip (cTS ts)],by simpa using WKs.zs (.zk o .nil),p x P⟩⟩ zOm;rw[show (f.sS.any fun _=>false)=false by simp]at i;refine qSV call57 func57 rfl ?_;have r:¬(f.sS.length:Int)<1:=zOm;have R:¬(3:Int)<f.sS.length:=zOm;simp[go_sem,r,R];refine fR i (.zk (zh _) (.zk g .nil)) ?_;exact .zsc _
structure MdV (ts:TS) (m:Md):Prop where
 f:Fit9 ts m.sc
 z:yV m.sc=true
 ns:(m.sK.length:Int)=m.sc.sN
 l0:0<=m.loop
 l1:m.loop<m.sK.length
 len:∀ s,s∈m.sK->s.length=ts.sA.length
 ar:∀ s,s∈m.sK->∀(i:Nat)(h:i<s.length)(h2:i<ts.sA.length),s[i].ar=ts.sA[i].sS.length/\s[i].ts.Pairwise (·<·)/\∀ t,t∈s[i].ts->t∈yE m.sc ts.sA[i].sS
 fix:∀(k:Nat)(h:k<m.sK.length)(h0:0<m.sK.length)(i:Nat)(h1:i<m.sK[k].length)(h3:i<m.sK[0].length)(h2:i<ts.sA.length),ts.sA[i].var=false->m.sK[k][i]=m.sK[0][i]
theorem kY{sc}(h:yV sc=true):sumI sc.sC<=12:=by
 simp_all[yV,qI,decide_eq_true_eq]
theorem kZ(ts m)(V:MdV ts m):qi qe 29 [eTS ts,eMd m] (aB true):=by
 have F:=V.f;have af:=V.ns;have an:=V.l0;have ao:=V.l1;have aq:=F.s1;have au:=F.s4;have av:=F.nf;have ag:=kY V.z;refine qSU call29 func29 rfl ?_;refine cQ (qbM ts m.sc F V.z) (.zk (zn _) (.zk (zr _) .nil)) ?_;have n1:¬m.loop<0:=zOm;have n2:¬(m.sK.length:Int)<=m.loop:=zOm;simp[go_sem,af,n1];have n3:¬m.sc.sN<=m.loop:=zOm;simp[go_sem,n3];refine fR (Yu m.sc F.g) (.zk (zr _) .nil) ?_;refine kL ts.sA.length (fun k U=>U.tm 2 = .ip (cTS ts)/\U.tm 3 = .ip (cMd m)/\U.tm 5=aI (sumI m.sc.sC)/\U.tm 44 = .lst false (ts.sA.map jq)/\U.tm 45=aI ts.sA.length/\U.tm 46=aI k) ?_ ?_
 .simp [go_sem, *]
 rintro k U hk ⟨P,I,R,a8,T,a0⟩;by_cases i:k<ts.sA.length
 .have w1:=zWk k
  simp[go_sem,P,a8,T,a0,i];refine cQ (qsK ts m.sc F _ (qs i)) (.zk (zn _) (.zk (nj _) .nil)) ?_;simp_all[go_sem,aK]
 have J:k=ts.sA.length:=zOm;simp[go_sem,I,T,a0,J];refine kL m.sK.length (fun k U=>U.tm 2 = .ip (cTS ts)/\U.tm 3 = .ip (cMd m)/\U.tm 5=aI (sumI m.sc.sC)/\U.tm 56=lSt m.sK/\U.tm 57=aI m.sK.length/\U.tm 58=aI k) ?_ ?_
 .simp [go_sem, *]
 clear P I R a8 T a0 hk i J k U;rintro k U hk ⟨P,I,R,t,l,o⟩;by_cases i:k<m.sK.length
 .have w1:=zWk k
  have a9:=qs i;have aa:=V.len _ a9;simp[go_sem,P,t,l,o,i,aa];refine kL ts.sA.length (fun j U=>U.tm 2 = .ip (cTS ts)/\U.tm 3 = .ip (cMd m)/\U.tm 5=aI (sumI m.sc.sC)/\U.tm 56=lSt m.sK/\U.tm 57=aI m.sK.length/\U.tm 58=aI k/\U.tm 9=lRel m.sK[k]/\U.tm 69 = .lst false (ts.sA.map jq)/\U.tm 70=aI ts.sA.length/\U.tm 71=aI j) ?_ ?_
  .simp [go_sem, *]
  clear P I R t l o U;rintro j U hj ⟨P,I,R,t,l,o,e9,ab,a4,a5⟩;by_cases p:j<ts.sA.length
  .have w2:=zWk j
   have a6:j<m.sK[k].length:=zOm;have a7:0<m.sK.length:=zOm;have ad:j<m.sK[0].length:=by rw[V.len _ (qs a7)];exact p
   obtain⟨a1,a2,a3⟩:=V.ar _ a9 j a6 p;have ae:=V.fix k i a7 j a6 ad p;have C:=qs p;obtain⟨v1,l1⟩:=relT ts m.sc F ag _ C _ a1 a2 a3;have i2:=qbQ ts m.sc F _ C _ l1 a3;have ah:=EW.XZ m.sc F.g (fun a ha=>(F.g.2 a ha).1) ts.sA[j].sS (F.fs _ C) (F.f1 _ C).1 (F.f1 _ C).2;have heq:=XP m.sK[k][j] m.sK[0][j] zOm;generalize hr:m.sK[k][j]=r at *
   generalize ai:m.sK[0][j]=r0 at *
   simp[go_sem,e9,ab,a4,a5,p,a6,hr];have wr:WK (.agg [aI ts.sA[j].sS.length,lI r.ts]) (eRel r):=by rw[<-a1];exact .hf (qY r)
   have aj:WK (.agg [lI m.sc.sC,aI m.sc.sN]) (eSc m.sc) := .hf (zr _);generalize hX:U.mu.length=X at *
   refine cH zKr ?_;have g0:∀ a b:Cell,(U.mu++[a,b])[X]?=some a:=fun a b=>by grind
   have g1:∀ a b:Cell,(U.mu++[a,b])[X+1]?=some b:=fun a b=>by grind
   simp[go_sem,R,hX,a1];refine cQ v1 (.zs (.cons wr .nil)) ?_;simp[go_sem,I,hX];refine fR ah (.cons aj (.zk (zh _) .nil)) ?_;refine fR i2 (.cons wr (.zk (qY _) .nil)) ?_;refine cH zKr ?_;cases hv:ts.sA[j].var with
   |true =>
    simp_all[go_sem,aK]
   |false =>
    have ak:=ae hv;simp[go_sem,I,hX,a7,ad,ai];refine cQ heq (.cons wr (.zk (qY _) .nil)) ?_;rw[decide_eq_true ak];simp[go_sem,a5,p,w2];exact aK ⟨zS1 P,zS1 I,zS1 R,zS1 t,zS1 l,zS1 o,zS1 e9,zS1 ab,zS1 a4,zSi⟩
  .have al:j=ts.sA.length:=by omega
   simp[go_sem,o,a4,a5,al,w1]
   try refine⟨i,aK ?_⟩
   try refine aK ?_
   exact⟨zS1 P,zS1 I,zS1 R,zS1 t,zS1 l,zSi⟩
 .have J:k=m.sK.length:=by omega
  simp[go_sem,l,o,J];exact .zsc _
end GX
namespace HA
open P1 E1 GF GQ GR GS GU GW GX GZ
section
variable {g:List Bd}{ts:TS}
theorem qeT(c s f b t):t∈(uV c s f b).ts↔t∈b.lo.ts\/((s:Int),(f:Int),t)∈c:=by
 unfold uV unR;rw[(ZR _).2,qK,qeO]
theorem qeU(c s f b):sorted (uV c s f b).ts:=(ZR _).1
theorem qeV{sc}(B:BndV ts sc g){i N c}(j:c.Sublist (chs i (qQ g 0) N))(s f hf) :
  (∀ t,t∈g[f].lo.ts->t∈(uV c s f g[f]).ts)/\∀ t,t∈(uV c s f g[f]).ts->t∈g[f].up.ts:=by
 refine⟨fun t h=>(qeT ..).2 (.inl h),fun t h=>?_⟩;rcases (qeT ..).1 h with h|h
 .exact B.sub _ (qs hf) t h
 .obtain ⟨_,_,_,h⟩:=(qeP ..).1 (j.subset h)
  exact((qeS ..).1 h).1
theorem qeW{sc}(B:BndV ts sc g){i N c}(j:c.Sublist (chs i (qQ g 0) N))(s f hf)(l:f<(vg i g c s).length) :
  (vg i g c s)[f].ar=g[f].lo.ar/\sorted (vg i g c s)[f].ts/\(∀ t,t∈g[f].lo.ts->t∈(vg i g c s)[f].ts)/\∀ t,t∈(vg i g c s)[f].ts->t∈g[f].up.ts:=by
 rw[Vd _ _ _ _ _ hf];split
 .exact ⟨rfl,qeU ..,qeV B j _ _ hf⟩
 .exact ⟨rfl,qeU ..,qeV B j _ _ hf⟩
theorem qeX{sc}(F:Fit9 ts sc)(z:yV sc=true)(B:BndV ts sc g){N k:Nat}(J:sc.sN=N)(hk:k<N){c}(P:c.Sublist (chs (vsT ts) (qQ g 0) N)):MdV ts (jL sc (vsT ts) g c N k):=by
 have l:∀ s,s∈(jL sc (vsT ts) g c N k).sK->∃ j,s=vg (vsT ts) g c j:=fun s o=>by
  obtain⟨j,_,rfl⟩:=qn.1 o;exact⟨j,rfl⟩
 have C:(jL sc (vsT ts) g c N k).sK.length=N:=by simp[jL]
 refine⟨F,z,by rw[C];exact J.symm,by simp[jL],by rw[C];simp only[jL];omega,fun s o=>?_,fun s o i h p=>?_,fun j h h0 i h1 h3 p R=>?_⟩
 .obtain ⟨j,rfl⟩:=l s o
  rw[YR];exact B.len
 .obtain ⟨j,rfl⟩:=l s o
  have hf:i<g.length:=by rw[YR]at h;exact h
  obtain⟨T,U,a3,a4⟩:=qeW B P j i hf h;exact⟨T.trans (B.lo i hf p).1,U,fun t ht=>B.full i hf p t (a4 t ht)⟩
 .have hf:i<g.length:=by rw[B.len];exact p
  have r:(vsT ts).getD i true=false:=by
   rw[zG];simp[p,R]
  simp only[jL,Zv,List.getElem_range,Vd _ _ _ _ _ hf];by_cases I:j=0
  .subst I;rfl
  .rw [if_pos ⟨I,r⟩,if_neg zSp]
end
end HA
namespace HB
end HB
namespace HC
end HC
namespace HD
end HD
namespace IC
open Y9 P1 E1 E3 F2 FD GF GS GU GV GW GX GY HA
section
variable {g:Md->Bool×Int}
theorem qsL(n)(k:Nat)(g:k<=3):powI n k=n ^ k:=by
 unfold powI powN;congr 1;omega
theorem qsM{ts m}(h:okTS ts)(V:MdV ts m):OkMa ⟨ts,m⟩ m.sK.length:=by
 have F:=V.f;have j:=F.g;have l:=kY V.z;have hp:=F.p;refine { len:=rfl,nx:=?_,n0:=by show 0<=sumI m.sc.sC;omega,n12:=l,st:=?_,at0:=?_,gsc:=j,pos:=fun a o=>(j.2 a o).1,al:=F.ns.symm,loop:=V.l0,N1:=zW2 V.ns F.s4,ts:=h }
 .intro t J
  have:=V.l1;have:=V.l0;show (if t+1<m.sK.length then t+1 else m.loop.toNat)<m.sK.length
  grind
 .intro s P
  have hd:m.sK.getD s []=m.sK[s]:=by rw[zG,qA P];rfl
  show (m.sK.getD s []).length=ts.sA.length/\∀ r,r∈m.sK.getD s []->GR (sumI m.sc.sC) r;rw[hd];have R:=qs P;have hl:=V.len _ R;refine⟨hl,fun r hr=>?_⟩;obtain⟨i,C,rfl⟩:=uf hr;obtain⟨a1,a2,a3⟩:=V.ar _ R i C zOm;have f1:=F.f1 _ (qs (show i<ts.sA.length by omega));refine⟨zOm,zOm,fun t J=>?_,a2⟩;have:=qbO _ _ t (a3 t J)
  grind [qsL,sumI,Int.pow_nonneg]
 .intro i C
  have I:i<m.sc.sC.length:=by rw[<-F.ns];exact C
  exact qnN m.sc.sC i (fun a o=>(j.2 a o).1) I
theorem qeY(g):∀ L acc,(∀ m,m∈L->(g m).2=0)->modG g acc L=(acc++L.filter fun m=>(g m).1,0)
 | [],acc,_=>by simp[modG]
 |m :: L,acc,h=>by
  rw[modG,if_neg (by grind),qeY g L _ fun x i=>h x (zP1 i)]
  grind
theorem qeZ(i):∀ L acc,(modG i acc L).2=0->∀ m,m∈L->(i m).2=0
 | [],acc,_,m,g=>absurd g qH
 |x :: L,acc,h,m,g=>by
  rw[modG]at h;by_cases j:(i x).2=0
  .rw [if_neg (zUs j)]at h
   rcases qy.1 g with rfl|g
   .exact j
   .exact qeZ i L _ h m g
  grind
theorem qe0(g):∀ L acc,(modG g acc L).2≠0->(modG g acc L).1=[]/\∃ m,m∈L/\(g m).2=(modG g acc L).2
 | [],acc,h=>absurd rfl h
 |x :: L,acc,h=>by
  rw[modG]at h⊢;by_cases i:(g x).2=0
  .simp_all [if_neg,qe0]
  grind
theorem qsN{L}(h:(modV g L 0).2=0):(∀ m,m∈L->(g m).2=0)/\(modV g L 0).1=L.filter fun m=>(g m).1:=by
 grind [modV,modG,qeZ,qeY]
theorem qsO{L}(h:(modV g L 0).2≠0):(modV g L 0).1=[]/\∃ m,m∈L/\(g m).2=(modV g L 0).2:=by
 grind [modV,modG,qe0]
theorem qsP(g L):(modV g L 0).1.Sublist L:=by
 by_cases h:(modV g L 0).2=0
 .rw [(qsN h).2];exact List.filter_sublist
 .rw [(qsO h).1];exact List.nil_sublist _
structure Betw (sc:Sc) (vs:List Bool) (bs:List Bd) (N:Nat) (m:Md):Prop where
 sc:m.sc=sc
 lp:∃ k:Nat,k<N/\m.loop=k
 ns:m.sK.length=N
 len:∀ s,s∈m.sK->s.length=bs.length
 rel:∀(k f:Nat)(hk:k<m.sK.length)(hf:f<bs.length)(h2:f<m.sK[k].length),m.sK[k][f].ar=bs[f].lo.ar/\sorted m.sK[k][f].ts/\(∀ t,t∈bs[f].lo.ts->t∈m.sK[k][f].ts)/\∀ t,t∈m.sK[k][f].ts->t∈bs[f].up.ts
 fix:∀(k f:Nat)(hk:k<m.sK.length)(h0:0<m.sK.length)(h2:f<m.sK[k].length)(h3:f<m.sK[0].length),vs.getD f true=false->m.sK[k][f]=m.sK[0][f]
theorem Wq{ts sc g}(B:BndV ts sc g){N}(T:1<=N){m}(h:m∈Qn sc (vsT ts) g (chs (vsT ts) (qQ g 0) N) N):Betw sc (vsT ts) g N m:=by
 obtain⟨k,c,p,r,rfl⟩:=UT.1 h;have t:(jL sc (vsT ts) g c N k).sK.length=N:=by simp[jL]
 have i:∀ s,s∈(jL sc (vsT ts) g c N k).sK->∃ j,s=vg (vsT ts) g c j:=fun s l=>by
  obtain⟨j,_,rfl⟩:=qn.1 l;exact⟨j,rfl⟩
 refine⟨rfl,⟨k,p,rfl⟩,t,fun s l=>?_,fun j f C hf o=>?_,fun j f C U o h3 hv=>?_⟩
 .obtain ⟨j,rfl⟩:=i s l
  rw[YR]
 .simp only[jL,Zv,List.getElem_range]at o⊢
  obtain⟨I,J,P,R⟩:=qeW B r j f hf o;exact⟨I,J,P,R⟩
 simp_all[jL,vsT,vg,YR,Zv,List.getElem_range,Vd]
end
end IC
namespace HE
open P1 E1 G5 GP GW
def wtR(rw:List Int)(k:Nat):Int:=if k<rw.length then rw.getD k 0 % 4 else 1
def selW(p:Int->Bool)(rw:List Int):List Int->Nat->List Int
 | [],_=>[]
 |t :: R,k=>(if p (wtR rw k)=true then [t] else [])++selW p rw R (k+1)
theorem qe1(p rw):∀ ts g k,selW p rw (ts++g) k=selW p rw ts k++selW p rw g (k+ts.length)
 | [],g,k=>by simp[selW]
 |t :: ts,g,k=>by
  rw[yT,selW,selW,qe1 p rw ts g (k+1),zt,zu,show k+1+ts.length=k+(ts.length+1) by omega]
theorem qe2(p rw)(ts:List Int)(k h):selW p rw (ts.take (k+1)) 0=selW p rw (ts.take k) 0++(if p (wtR rw k)=true then [ts[k]] else []):=by
 grind [vO,qe1,selW]
theorem wK(p rw):∀ ts k,(selW p rw ts k).Sublist ts
 | [],k=>List.Sublist.refl _
 |t :: ts,k=>by
  rw[selW];split
  .exact (wK p rw ts (k+1)).cons_cons t
  .exact (wK p rw ts (k+1)).cons t
theorem qe3{p q}(h:∀ x,p x=true->q x=true)(rw):∀ ts k t,t∈selW p rw ts k->t∈selW q rw ts k
 | [],k,t,g=>g
 |a :: ts,k,t,g=>by
  rw[selW,qK]at g⊢;rcases g with g|g
  .grind
  .exact .inr (qe3 h rw ts (k+1) t g)
def Wr(rw:List Int)(b:Bd):Bd:=⟨⟨b.up.ar,selW (fun x=>decide (1<x)) rw b.up.ts 0⟩,⟨b.up.ar,selW (fun x=>decide (0<x)) rw b.up.ts 0⟩⟩
def z8(ts:TS)(sc:Sc)(raw:List (List Int)):List Bd:=(defB ts sc).mapIdx fun i b=>Wr (raw.getD i []) b
theorem Qt(ts sc raw):(z8 ts sc raw).length=ts.sA.length:=by simp[z8,defB]
theorem Ws(ts sc raw i h)(g:i<ts.sA.length):(z8 ts sc raw)[i]=Wr (raw.getD i []) ⟨⟨ts.sA[i].sS.length,[]⟩,⟨ts.sA[i].sS.length,yE sc ts.sA[i].sS⟩⟩:=by
 simp[z8,defB]
theorem k5(ts sc raw)(hf:∀ f,f∈ts.sA->sorted (yE sc f.sS)):BndV ts sc (z8 ts sc raw):=by
 have key:∀ b,b∈z8 ts sc raw->∃(i:Nat) (g:i<ts.sA.length),b=Wr (raw.getD i []) ⟨⟨ts.sA[i].sS.length,[]⟩,⟨ts.sA[i].sS.length,yE sc ts.sA[i].sS⟩⟩:=fun b j=>by
  obtain⟨i,p,rfl⟩:=Qu.1 j
  grind [Qt,Ws]
 refine⟨Qt ..,fun i h g=>?_,fun b j=>?_,fun b j t l=>?_,fun i h g t l=>?_⟩
 .rw [Ws _ _ _ _ h g];exact⟨rfl,rfl⟩
 .obtain ⟨i,g,rfl⟩:=key b j
  have:=hf _ (qs g);exact⟨this.sublist (wK ..),this.sublist (wK ..)⟩
 .obtain ⟨i,g,rfl⟩:=key b j
  exact qe3 (fun x o=>by have:=of_decide_eq_true o;grind) _ _ _ t l
 .rw [Ws _ _ _ _ h g]at l
  exact(wK ..).subset l
end HE
namespace HF1
open GB
theorem qsQ{a b:Ed}:a=b↔a.kind=b.kind/\a.state=b.state/\a.field=b.field/\a.tup=b.tup:=by
 cases a;cases b;simp
instance:DecidableEq Ed:=fun a b=>decidable_of_iff _ qsQ.symm
end HF1
namespace HG
end HG
namespace HH
end HH
namespace HI
end HI
namespace ID
end ID
namespace IE
open P1 E3 GA GD GM GS GV GW IC
theorem Wt(g):∀ l m,∃ p q,m :: l=p++yQ g m l :: q/\(∀ x,x∈p->g (yQ g m l)<g x)/\∀ x,x∈q->g (yQ g m l)<=g x
 | [],m=>⟨[],[],rfl,fun x j=>absurd j qH,fun x j=>absurd j qH⟩
 |x :: l,m=>by
  rw[yQ];by_cases h:g x<g m
  .rw [if_pos h]
   obtain⟨p,q,e,r,o⟩:=Wt g l x;refine⟨m :: p,q,by rw[e];rfl,fun y i=>?_,o⟩;rcases qy.1 i with rfl|i
   .have:g (yQ g x l)<=g x:=by
     have j:x∈p++yQ g x l :: q:=by rw[<-e];simp
     rcases qK.1 j with j|j
     .grind
     .rcases qy.1 j with j|j
      .rw [<-j];omega
      grind
    omega
   grind
  .rw [if_neg h]
   obtain⟨p,q,e,r,o⟩:=Wt g l m;cases p with
   |nil =>
    simp only[vo,Zy]at e;obtain⟨t,C⟩:=e;refine⟨[],x :: q,by grind,fun y i=>absurd i qH,fun y i=>?_⟩;rcases qy.1 i with rfl|i
    .grind
    grind
   |cons a p =>
    simp only[yT,Zy]at e;obtain⟨t,C⟩:=e;subst t;refine⟨m :: x :: p,q,by grind,fun y i=>?_,o⟩;have I:=r m zSp;rcases qy.1 i with rfl|i
    .exact I
    .rcases qy.1 i with rfl|i
     .omega
     grind
theorem qe4(g l m):yQ g m l∈m :: l:=by
 obtain⟨p,q,e,_,_⟩:=Wt g l m;rw[e];simp
theorem qsR(g:Md->Int)(l m x)(i:x∈m :: l):g (yQ g m l)<=g x:=by
 obtain⟨p,q,e,j,o⟩:=Wt g l m;rw[e]at i;rcases qK.1 i with i|i
 .grind
 .rcases qy.1 i with i|i
  .rw [i];omega
  grind
theorem k6(g h):∀ l m,(∀ x y,x∈m :: l->y∈m :: l->(g x<g y↔h x<h y))->yQ g m l=yQ h m l
 | [],m,_=>rfl
 |x :: l,m,p=>by
  rw[yQ,yQ];have e:=p x m zSp zSp;by_cases o:g x<g m
  .rw [if_pos o,if_pos (e.1 o)]
   exact k6 g h l x fun a b i j=>p a b (by simp at i⊢;right;exact i) (by simp at j⊢;right;exact j)
  .rw [if_neg o,if_neg (fun k=>o (e.2 k))]
   exact k6 g h l m fun a b i j=>p a b (by simp at i⊢;rcases i with h|h;exact .inl h;exact .inr (.inr h)) (by simp at j⊢;rcases j with h|h;exact .inl h;exact .inr (.inr h))
def szT(s:List Rl):Int:=(s.map fun r=>(r.ts.length:Int)).foldr (·+·) 0
def szS(S:List (List Rl)):Int:=(S.map szT).foldr (·+·) 0
theorem qsS(a):xorN a []=a.length:=by
 grind [vy,List.filter_eq_nil_iff,xorN]
theorem qe5:∀{s t},s.length=t.length->(∀ r,r∈t->r.ts=[])->xorT s t=szT s
 | [],[],_,_=>rfl
 |r :: s,q :: t,g,h=>by
  have i:=qe5 (s:=s) (t:=t) (zUs g) fun r j=>h r (zP1 j)
  unfold xorT at i⊢;simp only[sumZ,szT,zQ,List.foldr_cons]at i⊢;rw[i,xorR,h q zSp,qsS]
 | [],_ :: _,g,_=>by simp at g
 |_ :: _,[],g,_=>by simp at g
theorem qe6:∀{S T:List (List Rl)},S.length=T.length->(∀ s t,s∈S->t∈T->s.length=t.length)->(∀ t,t∈T->∀ r,r∈t->r.ts=[])->xorS S T=szS S
 | [],[],_,_,_=>rfl
 |s :: S,t :: T,g,l,o=>by
  have i:=qe6 (S:=S) (T:=T) (zUs g) (fun s t p j=>l s t (zP1 p) (zP1 j)) fun t j=>o t (zP1 j)
  unfold xorS at i⊢;simp only[sumZ,szS,zQ,List.foldr_cons]at i⊢;rw[i,qe5 (l s t zSp zSp) (o t zSp)]
 | [],_ :: _,g,_,_=>by simp at g
 |_ :: _,[],g,_,_=>by simp at g
theorem qsT{a b}(h:∀ t,t∈a->t∈b):xorN a b=b.length-a.length:=by
 grind [vy,List.filter_eq_self,xorN]
def subT(s t:List Rl):Prop:=s.length=t.length/\∀(i:Nat)(g:i<s.length)(j:i<t.length),∀ x,x∈s[i].ts->x∈t[i].ts
theorem qe7:∀{s t},subT s t->xorT s t=szT t-szT s
 | [],[],_=>rfl
 |r :: s,q :: t,h=>by
  have g:=qe7 (s:=s) (t:=t) ⟨by simpa using h.1,fun i l o=>by have:=h.2 (i+1) (zUs l) (zUs o);simpa using this⟩;have j:=h.2 0 zSp zSp;simp only[List.getElem_cons_zero]at j;unfold xorT at g⊢;simp only[sumZ,szT,zQ,List.foldr_cons]at g⊢;rw[g,xorR,qsT j];omega
 | [],_ :: _,h=>by have:=h.1;simp at this
 |_ :: _,[],h=>by have:=h.1;simp at this
theorem qe8:∀{S T:List (List Rl)},S.length=T.length->(∀ s t,s∈S->t∈T->subT s t)->xorS S T=szS T-szS S
 | [],[],_,_=>rfl
 |s :: S,t :: T,g,h=>by
  have i:=qe8 (S:=S) (T:=T) (zUs g) fun s t j l=>h s t (zP1 j) (zP1 l)
  unfold xorS at i⊢;simp only[sumZ,szS,zQ,List.foldr_cons]at i⊢;rw[i,qe7 (h s t zSp zSp)];omega
 | [],_ :: _,g,_=>by simp at g
 |_ :: _,[],g,_=>by simp at g
theorem qe9{ts sc j}(B:BndV ts sc j){N m}(h:Betw sc (vsT ts) j N m):Shd sc (j.map fun b=>b.up.ar) N m:=by
 refine⟨h.sc,h.ns,fun s g=>?_,fun s g r t=>?_⟩
 .obtain ⟨k,l,rfl⟩:=uf g
  have o:=h.len _ g;refine List.ext_getElem (zP1 o) fun f p i=>?_
  simp only[Zv,zF]at p i⊢;have:=(h.rel k f l i p).1;have:=B.lo f i (by rw[<-B.len];exact i);omega
 .obtain ⟨k,l,rfl⟩:=uf g
  have o:=h.len _ g;obtain⟨f,hf,rfl⟩:=uf t;exact(h.rel k f l zOm hf).2.1
end IE
namespace IK
open GH Y1 P1 Q4 E1 E3 GD G5 GF GQ GR GS GU GV GW GX GY HA IA IB IC YF Y16
structure Cx (ts:TS) (sc:Sc) (b:List Bd) (N:Nat):Prop where
 S:SpD ts
 hk:ju ts=[]
 F:Fit9 ts sc
 z:yV sc=true
 h5:sumI sc.sC<=5
 B:BndV ts sc b
 hS:sc.sN=N
 c9:(chs (vsT ts) (qQ b 0) N).length<=9
theorem qfA{ts sc}(F:Fit9 ts sc)(g:sumI sc.sC<=5){f}(hf:f∈ts.sA):(yE sc f.sS).length<=1000/\sorted (yE sc f.sS):=by
 obtain⟨a,b,_⟩:=Kw F g _ (List.mem_map_of_mem (f:=fun f:Fld=>(⟨⟨f.sS.length,[]⟩,⟨f.sS.length,yE sc f.sS⟩⟩:Bd)) hf);exact⟨a,b⟩
theorem k7(M):∀ l k,(∀ x,x∈l->x.up.ts.length<=M)->(qQ l k).length<=l.length*M
 | [],k,_=>by simp[qQ]
 |x :: l,k,h=>by
  have i:=h x zSp;have j:(jk k x).length<=x.up.ts.length:=by rw[jk,zF];exact List.length_filter_le _ _
  have o:=k7 M l (k+1) fun y g=>h y (zP1 g)
  simp only[qQ,za,zu,Nat.add_mul,Nat.one_mul];omega
namespace Cx
variable {ts:TS} {sc:Sc} {b:List Bd} {N:Nat}
theorem N1(X:Cx ts sc b N):1<=N:=by have:=X.F.s1;have:=X.hS;omega
theorem N4(X:Cx ts sc b N):N<=4:=by have:=X.F.s4;have:=X.hS;omega
theorem bl(X:Cx ts sc b N):b.length<=6:=by rw[X.B.len];exact X.F.nf
theorem bts(X:Cx ts sc b N):∀ x,x∈b->x.up.ts.length<=1000/\x.lo.ts.length<=1000/\sorted x.up.ts/\sorted x.lo.ts:=fun x g=>by
 obtain⟨i,j,rfl⟩:=uf g;have l:i<ts.sA.length:=by rw[<-X.B.len];exact j
 obtain⟨s1,o⟩:=X.B.so _ g;have h:=qfA X.F X.h5 (qs l);have p:=YY o (X.B.full i j l);have r:=YY s1 (X.B.sub _ g);exact⟨zOm,zOm,o,s1⟩
theorem okf(X:Cx ts sc b N):∀ x,x∈b->Zo x:=fun x g=>by
 obtain⟨j,l,o,i⟩:=X.bts x g;exact⟨zOm,zOm,i.imp fun h=>zOm⟩
theorem fl(X:Cx ts sc b N):(qQ b 0).length<=100000:=by
 have:=k7 1000 b 0 fun x g=>(X.bts x g).1
 have:=X.bl;omega
end Cx
abbrev LL(ts:TS)(sc:Sc)(b:List Bd)(N:Nat):List Md:=Qn sc (vsT ts) b (chs (vsT ts) (qQ b 0) N) N
namespace Cx
variable {ts:TS} {sc:Sc} {b:List Bd} {N:Nat}
theorem len(X:Cx ts sc b N):(LL ts sc b N).length<=10000:=by
 rw[qnY];have g:2 ^ (chs (vsT ts) (qQ b 0) N).length<=2 ^ 9:=Nat.pow_le_pow_right zOm X.c9;have:=Nat.mul_le_mul X.N4 g;omega
theorem inst(X:Cx ts sc b N):qi qe 33 [eTS ts,eSc sc,lBd b] (.tup [lMd (LL ts sc b N),aI 0]):=by
 have g:2 ^ (chs (vsT ts) (qQ b 0) N).length<=2 ^ 9:=Nat.pow_le_pow_right zOm X.c9;have j:=Nat.mul_le_mul X.N4 g;exact qn0 ts sc b N X.hS X.N4 (zW1 X.bl) X.okf (fun x i=>⟨zW1 ((X.bts x i).2.1)⟩) (by rw[X.B.len];omega) X.fl (zW1 X.c9) zOm (qbM ts sc X.F X.z) (qn7 ts sc b X.F (kY X.z) X.B)
theorem mdv(X:Cx ts sc b N){m}(h:m∈LL ts sc b N):MdV ts m:=by
 obtain⟨k,c,g,i,rfl⟩:=UT.1 h;exact qeX X.F X.z X.B X.hS g i
theorem sms(X:Cx ts sc b N){m}(h:Betw sc (vsT ts) b N m):SmS m.sK:=by
 have t:=X.N4;have l:=h.ns;have C:=X.bl;refine⟨zOm,fun s g=>by rw[h.len s g];omega,fun s g r o=>?_⟩;obtain⟨k,i,rfl⟩:=uf g;obtain⟨f,hf,rfl⟩:=uf o;have I:=h.len _ (qs i);obtain⟨J,j,P,p⟩:=h.rel k f i zOm hf;have:=YY j p;have:=(X.bts _ (qs (show f<b.length by omega))).1;exact⟨zOm,j⟩
theorem betw(X:Cx ts sc b N){m}(h:m∈LL ts sc b N):Betw sc (vsT ts) b N m:=Wq X.B X.N1 h
theorem holds(X:Cx ts sc b N){m}(h:m∈LL ts sc b N){n}(g:zd n=true):qi qe 10 [eTS ts,eMd m,eNd n] (.tup [aB (hV ⟨ts,m⟩ n).1,aI (hV ⟨ts,m⟩ n).2]):=
 qsA X.S X.hk (qsM X.S.h (X.mdv h)) (by rw[(X.betw h).ns];exact X.N1) g
end Cx
def MV(ts:TS)(sc:Sc)(b:List Bd)(N:Nat)(n:Nd):List Md×Int:=modV (fun m=>hV ⟨ts,m⟩ n) (LL ts sc b N) 0
namespace Cx
variable {ts:TS} {sc:Sc} {b:List Bd} {N:Nat}
theorem models(X:Cx ts sc b N){n}(g:zd n=true):qi qe 9 [eTS ts,eSc sc,lBd b,eNd n] (.tup [lMd (MV ts sc b N n).1,aI (MV ts sc b N n).2]):=
 qn3 ts sc b n (LL ts sc b N) 0 _ (zW1 X.len) X.inst fun m i=>X.holds i g
theorem Z6{n}:(MV ts sc b N n).1.Sublist (LL ts sc b N):=qsP _ _
end Cx
end IK
namespace IL
open P1
variable {ts:TS} {sc:Sc} {b:List Bd} {N:Nat}
end IL
end Go.Proofs.YtipbakanneogpaaGreatDoor
