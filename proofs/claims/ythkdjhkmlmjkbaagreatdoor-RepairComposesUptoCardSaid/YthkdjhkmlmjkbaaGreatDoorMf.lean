/-
  Own library, part 6: an abstract reading of values and a calculus over it; contracts of functions; plain lemmas.
-/
import Derived.Test.YthkdjhkmlmjkbaaGreatDoorRows
import Derived.LaidMore
import Derived.MakeChecks
import Derived.WalkKit
import Derived.JoinedCond
import Derived.Test.YthkdjhkmlmjkbaaGreatDoorMe
set_option linter.unusedVariables false
set_option linter.unusedSimpArgs false
set_option maxRecDepth 100000
open Go renaming FuncId->us,World->j2,Value->j3,Program->qf,TypeId->j1,undef->vd
open Go.Proofs.Tryz renaming prog->qb
open Bool renaming and_eq_true->qi
open Option.some renaming injEq->qj
open List renaming range->qm,getElem?_eq_some_iff->qn,getElem_mem->qo,mem_cons->qp,getElem?_eq_getElem->qq,mem_map->qs,all_eq_true->qu,mem_cons_of_mem->qJ,getElem?_append_left->qT,mem_singleton->qV,mem_cons_self->q8,not_mem_nil->zb,length_append->zc,take_of_length_le->zi,getElem?_append_right->zo,take_length->zt,append_nil->zA,drop_eq_getElem_cons->zH,append_assoc->zJ,getElem_of_mem->zX,length_cons->zZ,getElem?_set_self->yC,length_map->yP,drop_length->yQ,getElem?_eq_none->je,take_succ_eq_append_getElem->ua,flatMap_cons->Je
open Nat renaming le_refl->qr,le_trans->zu
open Go.IntKind renaming i64->qx
namespace Go.Proofs.YthkdjhkmlmjkbaaGreatDoor
open Go Go.Ev Go.Proofs Tryz
namespace QO
open YF Y9 Y10 Y1 Y2 Y3 Y12 Y13 P1 P2 QD QE QF QH QI QJ QL QN PG PC
section
variable {nm:cD}{ts:TS}
theorem kN{n:Nd}{L:List RS}{S g:RS}{b:Bool}(e:eRS S=eRS g)(h:prC ts n L S b):prC ts n L g b:=by
 grind [prC]
theorem qeK{n:Nd}{a b:Kd}(j:n.op=6\/n.op=14\/n.op=7\/n.op=8\/n.op=32\/n.op=33):∃ S,prC ts n [qe a,qe b] S (decide (a.ar=b.ar))/\(a.ar=b.ar->kd n.op=101->S=qe (uB n.op a b)):=by
 have l:∀ op:Int,op=6\/op=14->uB op a b=kSum a b:=fun op h=>by unfold uB;rw[if_pos h]
 by_cases g:a.ar=b.ar
 .rcases j with h|h|h|h|h|h
  .exact ⟨_,ap6 ts n _ _ _ h (by have:=vG (qe a) (qe b);rw[Zf g]at this;exact this),fun _ _=>by grind⟩
  .exact ⟨_,ap14 ts n _ _ _ h (by have:=vG (qe a) (qe b);rw[Zf g]at this;exact this),fun _ _=>by grind⟩
  .exact ⟨_,ap7 ts n _ _ _ h (by have:=kj (qe a) (qe b);rw[qdT g]at this;exact this),fun _ _=>by rw[h];rfl⟩
  .exact ⟨_,ap8 ts n _ _ h,fun _ _=>by rw[h];rfl⟩
  .exact ⟨_,ap32 ts n _ _ h,fun _ i=>by rw[h]at i;exact absurd i zDe⟩
  .exact ⟨_,ap33 ts n _ _ h,fun _ i=>by rw[h]at i;exact absurd i zDe⟩
 .rcases j with h|h|h|h|h|h
  .exact ⟨_,ap6 ts n _ _ _ h (vG (qe a) (qe b)),fun e=>absurd e g⟩
  .exact ⟨_,ap14 ts n _ _ _ h (vG (qe a) (qe b)),fun e=>absurd e g⟩
  .exact ⟨_,ap7 ts n _ _ _ h (kj (qe a) (qe b)),fun e=>absurd e g⟩
  .exact ⟨_,ap8 ts n _ _ h,fun e=>absurd e g⟩
  .exact ⟨_,ap32 ts n _ _ h,fun e=>absurd e g⟩
  .exact ⟨_,ap33 ts n _ _ h,fun e=>absurd e g⟩
theorem qeL(ok:okTS ts){n:Nd}{a:Kd}(l:okKd ts.sS.length a)(o:n.op=11\/n.op=12\/n.op=13):∃ S,prC ts n [qe a] S (decide (a.ar=2))/\(a.ar=2->S=qe (binK ts.sS.length n.op a)):=by
 have i:=ok.ns;by_cases g:a.ar=2
 .have p:=qd4 l g i
  rcases o with h|h|h
  .exact ⟨_,ap11 ts n _ _ h (by have:=kl (qe a);rw[qdZ l i g]at this;exact this),fun _=>by rw[h];rfl⟩
  .exact ⟨_,ap12 ts n _ _ h p,fun _=>by rw[h];rfl⟩
  .refine ⟨_,ap13 ts ok n _ _ (qe (kSum (kClo a) (zg ts.sS.length 2))) h p ?_,fun _=>by rw[h];rfl⟩
   have:=vG (qe (kClo a)) (qe (zg ts.sS.length 2));rw[Zf (show (kClo a).ar=2 from (Yl l g).2)]at this;exact this
 .have j:=l.ar
  rcases o with h|h|h
  .exact ⟨_,ap11 ts n _ _ h (kl (qe a)),fun e=>absurd e g⟩
  .exact ⟨_,ap12 ts n _ _ h (kJ (qe a) j),fun e=>absurd e g⟩
  .exact ⟨_,ap13 ts ok n _ _ _ h (kJ (qe a) j) (vG _ _),fun e=>absurd e g⟩
theorem qeM(ts:TS)(ok:okTS ts)(n:Nd)(l:List (Option Kd))(L:List RS)(e1:n.op≠1)(a0:n.op≠15)
  (h1:n.op=5\/n.op=11\/n.op=12\/n.op=13->∃ a,l=[some a]/\L=[qe a]/\okKd ts.sS.length a)
  (h2:n.op=6\/n.op=14\/n.op=7\/n.op=8\/n.op=32\/n.op=33\/n.op=9\/n.op=10->∃ a b,l=[some a,some b]/\L=[qe a,qe b]/\okKd ts.sS.length a/\okKd ts.sS.length b) :
  ∃ S b,prC ts n L S b/\ApE n.op (zQ ts.sS.length n.op n.n n.pos l) S b:=by
 have t:=ok.ns;by_cases j:n.op=2
 .refine ⟨qe ⟨n.n,[]⟩,true,kN (kH n.n) (ap2 ts n L j),?_⟩
  unfold zQ;rw[if_pos j];exact⟨rfl,fun _=>⟨_,rfl,rfl⟩⟩
 by_cases o:n.op=3
 .refine ⟨_,true,ap3 ts ok n L o,?_⟩
  unfold zQ;rw[if_neg j,if_pos o];exact⟨rfl,fun _=>⟨_,rfl,rfl⟩⟩
 by_cases r:n.op=4
 .refine ⟨_,true,ap4 ts ok n L r,?_⟩
  unfold zQ;rw[if_neg j,if_neg o,if_pos r];exact⟨rfl,fun _=>⟨_,rfl,rfl⟩⟩
 by_cases g1:n.op=5\/n.op=11\/n.op=12\/n.op=13
 .obtain ⟨a,rfl,rfl,C⟩:=h1 g1
  rw[apK1,if_neg j,if_neg o,if_neg r];by_cases J:n.op=5
  .rw [if_pos J]
   exact⟨_,true,ap5 ts n _ J,rfl,fun _=>⟨_,rfl,rfl⟩⟩
  have g:n.op=11\/n.op=12\/n.op=13:=zOm;rw[if_neg J,if_pos g];obtain⟨S,P,R⟩:=qeL ok C g;refine⟨S,_,P,?_⟩;by_cases i:a.ar=2
  .rw [if_pos i]
   exact⟨decide_eq_true i,fun _=>⟨_,rfl,R i⟩⟩
  .rw [if_neg i]
   exact decide_eq_false i
 by_cases g2:n.op=6\/n.op=14\/n.op=7\/n.op=8\/n.op=32\/n.op=33\/n.op=9\/n.op=10
 .obtain ⟨a,b,rfl,rfl,C,T⟩:=h2 g2
  have ra:=C.ar;have rb:=T.ar;rw[apK2,if_neg j,if_neg o,if_neg r];by_cases U:n.op=6\/n.op=14\/n.op=7\/n.op=8\/n.op=32\/n.op=33
  .rw [if_pos U]
   obtain⟨S,P,R⟩:=qeK (ts:=ts) (n:=n) (a:=a) (b:=b) U;refine⟨S,_,P,?_⟩;by_cases i:a.ar=b.ar
   .rw [if_pos i]
    exact⟨decide_eq_true i,fun hk=>⟨_,rfl,R i hk⟩⟩
   .rw [if_neg i]
    exact decide_eq_false i
  rw[if_neg U];by_cases I:n.op=9
  .rw [if_pos I]
   by_cases i:1<=a.ar+b.ar-2/\a.ar+b.ar-2<=3
   .rw [if_pos i]
    refine⟨_,_,ap9 ts n _ _ (qe (zl a b)) I (by show 0<=a.ar/\a.ar<=1000;omega) (by show 0<=b.ar/\b.ar<=1000;omega) ?_,decide_eq_true i,fun _=>⟨_,rfl,rfl⟩⟩;rw[<-kz C T t i];exact Yz _ _ (by show 0<=a.ar/\a.ar<=1000;omega) (by show 1<=b.ar/\b.ar<=1000;omega)
   .rw [if_neg i]
    exact⟨_,_,ap9 ts n _ _ _ I (by show 0<=a.ar/\a.ar<=1000;omega) (by show 0<=b.ar/\b.ar<=1000;omega) (Yz _ _ (by show 0<=a.ar/\a.ar<=1000;omega) (by show 1<=b.ar/\b.ar<=1000;omega)),decide_eq_false i⟩
  have p:n.op=10:=zOm;rw[if_neg I,if_pos p];by_cases i:a.ar+b.ar<=3
  .rw [if_pos i]
   refine⟨_,_,ap10 ts n _ _ (qe (wc a b)) p (by show 0<=a.ar/\a.ar<=1000;omega) (by show 0<=b.ar/\b.ar<=1000;omega) ?_,decide_eq_true i,fun _=>⟨_,rfl,rfl⟩⟩;rw[<-qdU C T t i];exact kn _ _ (by show 0<=a.ar/\a.ar<=1000;omega) (by show 0<=b.ar/\b.ar<=1000;omega)
  .rw [if_neg i]
   exact⟨_,_,ap10 ts n _ _ _ p (by show 0<=a.ar/\a.ar<=1000;omega) (by show 0<=b.ar/\b.ar<=1000;omega) (kn _ _ (by show 0<=a.ar/\a.ar<=1000;omega) (by show 0<=b.ar/\b.ar<=1000;omega)),decide_eq_false i⟩
 refine⟨zR,true,apO ts n L j o r zOm zOm zOm zOm zOm zOm zOm zOm zOm zOm zOm zOm,?_⟩;rw[XU j o r zOm zOm zOm zOm zOm zOm zOm zOm zOm zOm zOm zOm];refine⟨rfl,fun hk=>?_⟩;have:=VP hk;omega
theorem qeN{ns:Nat}(o:ns<=4){q:Kd}(h:okKd ns q)(l:q.ar=1)(i:Int):Qv i q=true↔∀ k:Nat,k<4->(qe q).2 k=true->(k:Int)=i:=by
 unfold Qv;rw[qu];constructor
 .intro p k J r
  rw[zF,l]at r;have:=p _ r.2;simpa[dig,pad] using this
 .intro p t C
  obtain⟨j,I,e⟩:=wI h o C;rw[l]at I e;have g:j<4:=I;have:=p j g ((zF q j).2 ⟨by rw[l];exact g,by rw[l,<-e];exact C⟩);rw[e];simp[dig,pad,this]
def ExR(c:Ck)(s:Scp)(inn:Bool)(n:Nd):Prop:=∃ S:RS,qd qb 109 [eVw c inn,lVr (envS s),eNd n] (.tup [eRS S,eDg (dgOf (exam c s inn n))])/\(kd n.op=101->∀ q,exam c s inn n = .ok (some q)->S=qe q)
theorem kO(c:Ck)(inn:Bool):HF (eVw c inn):=HF.agg fun x g=>by
 simp only[qp,zb,or_false]at g;rcases g with rfl|rfl|rfl|rfl|rfl|rfl|rfl
 .exact Xp _
 .exact Xq _
 .exact Vx _
 .exact Vy _
 .exact Zj _
 .exact HF.sc _
 .exact HF.sc _
theorem wkE(c:Ck)(inn:Bool)(l:List Vr)(n:Nd):WKs [eVw c inn,lVr l,eNd n] [eVw c inn,lVr l,eNd n] := .zk (kO c inn) (.zk (qeA _) (.zk (zV n) .nil))
theorem vf(d:Dg):HF (eDg d):=HF.agg fun x g=>by
 simp only[qp,zb,or_false]at g;rcases g with rfl|rfl<;>exact HF.sc _
theorem kP{c:Ck}{p:Nat}(i:okCk c)(h:zh c nm=some p):(c.ts.sT.any fun p=>decide (p.name=nm))=true:=by
 obtain⟨_,j⟩:=VA i h;unfold zh at h;rw[List.findIdx?_eq_some_iff_getElem]at h;obtain⟨l,g,_⟩:=h;simp only[List.getElem_take]at g;exact List.any_eq_true.2 ⟨_,qo j,g⟩
theorem qeO(h:zh (mkCk ts ts.sT.length) nm=none):(ts.sT.any fun p=>decide (p.name=nm))=false:=by
 unfold zh at h;rw[List.findIdx?_eq_none_iff]at h;rw[List.any_eq_false];intro p g;have:p∈ts.sT.take ts.sT.length:=by rw[zt];exact g
 have:=h p this
 grind
theorem qeP{n:Nd}(i:WfN n)(h:n.op=47):∀ k,k∈n.sM->kd k.op=101:=by
 have g:=i.shape;have e:shp n.op n.sM.length=some (List.replicate (min n.sM.length 401) 101):=by
  unfold shp;rw[zIn,zIn,zIn,zIn,zIn,zIn,zIn,if_pos h]
 rw[e]at g;simp only[qj]at g;intro k j;have:kd k.op∈n.sM.map fun k=>kd k.op:=qs.2 ⟨k,j,rfl⟩
 grind
theorem qeQ(c:Ck)(hc:okCk c)(s:Scp)(hs:ScOk c.ts.sS.length s)(n:Nd)(hw:WfN n)(b0:n.op=47)(ih:∀ k,k∈n.sM->ExR c s true k)(inn:Bool) :
  qd qb 140 [eVw c inn,lVr (envS s),eNd n] (eDg (dgOf (Q0 c s n))):=by
 generalize hR:Q0 c s n=R;unfold Q0 at hR;refine qSQ call140 func140 rfl { mt:=[3] } ?_;have bc:=hc.ts.np;have be:=hw.len;have b1:=YK c hc n.name;have b2:=YK (mkCk c.ts c.ts.sT.length) (Yk hc.ts (qr _)) n.name;have an:∀ k:Int,WKs [eTS c.ts,aI k,aS n.name] [eTS c.ts,aI k,aS n.name]:=fun k => .zk (qG _) (.zs (.zs .nil))
 simp[go_sem];refine cA b1 (an _) ?_;cases T:zh c n.name with
 |none =>
  rw[T]at hR;simp[go_sem,idxO];refine cA b2 (an _) ?_;cases a2:zh (mkCk c.ts c.ts.sT.length) n.name with
  |none =>
   rw[qeO a2]at hR;subst hR;simp[go_sem,idxO,dgOf];exact .hf _ (vf (40,n.pos))
  |some p =>
   have ha:(c.ts.sT.any fun p=>decide (p.name=n.name))=true:=kP (c:=mkCk c.ts c.ts.sT.length) (Yk hc.ts (qr _)) a2;rw[ha]at hR;subst hR;have aa:¬(p:Int)<0:=zOm;simp[go_sem,idxO,dgOf,aa];exact .hf _ (vf (45,n.pos))
 |some p =>
  obtain⟨_,ab⟩:=VA hc T;rw[kP hc T,if_pos rfl,T]at hR;simp only[qq ab]at hR;have aa:¬(p:Int)<0:=zOm;have bg:=hc.ts.pl _ (qo ab);simp[go_sem,idxO,ab,aa];generalize bh:c.ts.sT[p]=C at *
  by_cases a0:C.params.length=n.sM.length
  .rw [if_pos a0]at hR
   simp[go_sem,a0];have b3:=qeP hw b0;refine fZ C.params.length (fun k st=>st.tm 1=lVr (envS s)/\st.tm 3 = .ptr 0 0/\st.tm 5 = .ip (cNd n)/\st.tm 6 = .ptr 1 0/\st.tm 8=lPm C.params/\st.tm 9=aI k/\st.mu[0]?=some (.arr (cVw c true))/\st.mu[1]?=some (.arr [aI 0,aI 0])/\yf c s n.pos (C.params.drop k) (n.sM.drop k)=R) ?_ ?_
   .simp [go_sem, *]
   rintro k st hk ⟨e1,e3,e5,e6,e8,e9,m0,m1,t⟩;have a7:1<st.mu.length:=(qn.1 m1).1;have I:∀(l:List Cell) (i:Nat),i<st.mu.length->(st.mu++l)[i]?=st.mu[i]?:=fun l i hi=>qT hi
   have U:∀ c,(st.mu.set 1 c)[1]?=some c:=fun c=>yC a7
   have ad:∀ c (l:List Cell),((st.mu++l).set 1 c)[1]?=some c:=fun c l=>yC zSo
   have ae:∀(l:List Cell) (h:0<(st.mu++l).length),(st.mu++l)[0] = .arr (cVw c true):=fun l h=>by
    grind
   have af:∀(l:List Cell) (h:1<(st.mu++l).length),(st.mu++l)[1] = .arr [aI 0,aI 0]:=fun l h=>by
    grind
   by_cases ao:k=C.params.length
   .subst ao
    rw[yQ,a0,yQ]at t;simp only[yf]at t;subst t;simp[go_sem,e6,e8,e9,m1,a0,dgOf,U];exact .hf _ (vf (0,0))
   have o:k<C.params.length:=zOm;have r:k<n.sM.length:=zOm;have w1:=zWk k;obtain⟨S,hi,hS⟩:=ih n.sM[k] (qo r);rw[zH o,zH r]at t;simp only[yf]at t;have b4:=wq hc (szN n.sM[k]) n.sM[k] s true;have aq:=b3 n.sM[k] (qo r);have au:=hw.kid (qo r);simp[go_sem,e8,e9,o];refine fD [0,1,2,3,4,5,6,7,8,9,10,11,12,13,14] [(0,0,[]),(1,0,[]),(2,0,[]),(3,0,[]),(4,0,[]),(5,0,[]),(6,0,[]),(7,1,[]),(8,0,[]),(9,0,[]),(10,0,[]),(11,2,[0,3,6]),(12,2,[0,3,6]),(13,1,[]),(14,1,[])] zKr zKr zSi ?_;simp[go_sem,e1,e3,e5,e9,m0,r];refine cA hi (wkE c true _ _) ?_;cases hx:exam c s true n.sM[k] with
   |error e =>
    rw[hx]at t;subst t;have he:=YO c (szN n.sM[k]) n.sM[k] s true e (qr _) hx;have b5:¬e.1=0:=zOm;simp[go_sem,e3,qh,ae,dgOf];rw[if_pos (qC _)];generalize hP:qH _ 0 (aI S.1 :: hB S.2)=P;have ag:P=aI S.1 :: hB S.2:=by rw[<-hP];exact pc (aI 0) _ (fun _=>false) _
    subst ag;clear hP;simp[go_sem,e6,b5];simp[go_sem,af,e6];exact .hf _ (vf e)
   |ok ko =>
    obtain⟨q,rfl,hq⟩:=b4 ko (qr _) au hs hx aq;have b6:=hS aq q hx;subst b6;rw[hx]at t;simp only at t;have b7:=hc.ts.ns;have av:(qe q).1=q.ar:=rfl;have aw:=fun h=>qeN b7 hq h C.params[k].2
    generalize qe q=Q at *
    simp[go_sem,e3,qh,ae,dgOf];rw[if_pos (qC _)];generalize hP:qH _ 0 (aI Q.1 :: hB Q.2)=P;have ag:P=aI Q.1 :: hB Q.2:=by rw[<-hP];exact pc (aI 0) _ (fun _=>false) _
    subst ag;clear hP;by_cases a1:q.ar=1
    .rw [if_pos a1]at t
     have a3:Q.1=1:=av.trans a1;simp[go_sem,qh,a3];have bb:C.params[k].2<4/\0<=C.params[k].2:=by grind
     refine fZ 4 (fun j g=>∃ b,2<=b/\g.tm 10 = .ptr b 0/\g.mu[b]?=some (.arr (aI 1 :: hB Q.2))/\g.tm 1=lVr (envS s)/\g.tm 3 = .ptr 0 0/\g.tm 5 = .ip (cNd n)/\g.tm 6 = .ptr 1 0/\g.tm 8=lPm C.params/\g.tm 9=aI k/\g.tm 12=aI j/\g.mu[0]?=some (.arr (cVw c true))/\g.mu[1]?=some (.arr [aI 0,aI 0]) /\
      ∀ i:Nat,i<j->Q.2 i=true->(i:Int)=C.params[k].2) ?_ ?_
     .exact ⟨st.mu.length,zOm,zSi,zSi,zS1 e1,zS1 e3,zS1 e5,zS1 e6,zS1 e8,zS1 e9,zSi,by simp only[jz];rw[I _ _ zOm];exact m0,by simp only[jz];rw[I _ _ zOm];exact m1,fun i hi=>zOm⟩
     .clear e1 e3 e5 e6 e8 e9 m0 m1 I U ad ae af a7
      rintro j st2 hj ⟨b,hb,a4,mb,e1,e3,e5,e6,e8,e9,a8,m0,m1,a5⟩;have a7:1<st2.mu.length:=(qn.1 m1).1;have U:∀ c,(st2.mu.set 1 c)[1]?=some c:=fun c=>yC a7
      by_cases ah:j<4
      .have ai:(j:Int)<4:=by omega
       have ax:j<64:=zOm;have J:(j:Int)<64:=zOm;have wj:=zWk j;have a6:=d1 (aI 1) Q.2 j ax;have aj:1+j<=64:=zOm;by_cases hQ:Q.2 j=true
       .rw [hQ]at a6
        by_cases a9:(j:Int)=C.params[k].2
        .have b8:=eq_true a9
         simp[go_sem,a4,mb,e8,e9,a8,ai,J,a6,aj,qh,o,b8,wj];refine⟨ah,aK ⟨b,hb,zS1 a4,zS1 mb,zS1 e1,zS1 e3,zS1 e5,zS1 e6,zS1 e8,zS1 e9,zSi,zS1 m0,zS1 m1,fun i hi h=>?_⟩⟩;by_cases ak:i=j
         .subst ak;exact a9
         .exact a5 i zOm h
        .have ay:¬Qv C.params[k].2 q=true:=fun h=>a9 ((aw a1).1 h j ah hQ)
         rw[if_neg ay]at t;subst t;simp[go_sem,a4,mb,e5,e6,e8,e9,a8,ai,J,a6,aj,qh,o,a9,m1,U];exact .hf _ (vf (43,n.pos))
       .have hQ:Q.2 j=false:=by simpa using hQ
        rw[hQ]at a6;simp[go_sem,a4,mb,a8,ai,J,a6,aj,qh,wj];refine⟨ah,aK ⟨b,hb,zS1 a4,zS1 mb,zS1 e1,zS1 e3,zS1 e5,zS1 e6,zS1 e8,zS1 e9,zSi,zS1 m0,zS1 m1,fun i hi h=>?_⟩⟩;by_cases ak:i=j
        .subst ak;rw[hQ]at h;cases h
        .exact a5 i zOm h
      .have b9:j=4:=by omega
       subst b9;have al:Qv C.params[k].2 q=true:=(aw a1).2 fun i hi h=>a5 i hi h
       rw[if_pos al]at t;simp[go_sem,e9,a8,w1];exact⟨o,aK ⟨zS1 e1,zS1 e3,zS1 e5,zS1 e6,zS1 e8,zSi,zS1 m0,zS1 m1,t⟩⟩
    .rw [if_neg a1]at t
     subst t;have a3:¬Q.1=1:=fun e=>a1 (av.symm.trans e)
     simp[go_sem,e5,qh,a3,af,e6];exact .hf _ (vf (42,n.pos))
  .rw [if_neg a0]at hR
   subst hR;have az:¬n.sM.length=C.params.length:=fun e=>a0 e.symm
   simp[go_sem,az,dgOf];exact .hf _ (vf (45,n.pos))
end
end QO
namespace QR
open Y9 Y1 Y2 Y12 P1 P2 QE QF QJ QL QN PG QO
theorem qeR{n:Nd}(i:WfN n)(h:n.op=15\/n.op=45\/n.op=46):∃ a f,n.sM=[a,f]/\kd a.op=101:=by
 have g:=i.shape;unfold shp at g;rw[zIn,zIn,zIn,if_pos zOm]at g;simp only[qj]at g
 match j:n.sM,g with
 | [a,f],g =>
  grind
 | [],g=>simp at g
 | [_],g=>simp at g
 |_ :: _ :: _ :: _,g=>simp at g
theorem five{C:Type}{l:List C}{a b c d e:C}(g:l[0]?=some a)(i:l[1]?=some b)(j:l[2]?=some c)(o:l[3]?=some d)(p:l[4]?=some e):∃ r,l=a :: b :: c :: d :: e :: r:=by
 match l,g,i,j,o,p with
 |_ :: _ :: _ :: _ :: _ :: r,g,i,j,o,p =>
  simp_all
def Zl:Res->RS
 | .ok (some k)=>if k.ar=1 then qe k else zR
 |_=>zR
theorem qeS(s:RS)(d:Dg):FL (.tup [eRS s,eDg d]):=FL.tup fun x i=>by
 rcases qp.1 i with rfl|i
 .exact FL.agg fun c g=>by
   rcases qp.1 g with rfl|g
   .exact FL.sc _
   .obtain ⟨j,_,rfl⟩:=qs.1 g
    exact FL.sc _
 .rw [qV]at i;subst i
  exact FL.agg fun c g=>by
   rcases qp.1 g with rfl|g
   .exact FL.sc _
   .rw [qV]at g;subst g;exact FL.sc _
theorem qeT(c:Ck)(hc:okCk c)(s:Scp)(hs:ScOk c.ts.sS.length s)(ay:s.length<=90000)(n a g:Nd)(hw:WfN n)(hb:n.op=15\/n.op=45\/n.op=46)(p:n.sM=[a,g])(a6:kd a.op=101)(inn:Bool)
  (af:ExR c s (inn||decide (n.op=15)) a) (ag:∀ k,okKd c.ts.sS.length k->k.ar=1->ExR c ((n.name,k) :: s) (inn||decide (n.op=15)) g) :
  qd qb 141 [eVw c inn,lVr (envS s),eNd n] (.tup [eRS (Zl (exam c s (inn||decide (n.op=15)) a)),eDg (dgOf (yp c s (inn||decide (n.op=15)) n.name n.pos n.sM))]):=by
 have wa:=hw.kid (k:=a) (by rw[p];simp);obtain⟨S,ca,hS⟩:=af;have ah:=wq hc (szN a) a s (inn||decide (n.op=15));have a7:=YO c (szN a) a s (inn||decide (n.op=15));rw[p];have w1:=wkE c (inn||decide (n.op=15)) (envS s) a;have ai:n.op=15->(inn||decide (n.op=15))=true:=fun h=>zP1 h
 have aj:¬n.op=15->(inn||decide (n.op=15))=inn:=fun h=>zP1 h
 generalize (inn||decide (n.op=15))=B at *
 generalize hE:dgOf (yp c s B n.name n.pos [a,g])=E;generalize hX:exam c s B a=X at *
 have a8:∀ k,okKd c.ts.sS.length k->k.ar=1->X = .ok (some k)->∃ S2,qd qb 109 [eVw c B,lVr (envS ((n.name,k) :: s)),eNd g] (.tup [eRS S2,eDg E]):=fun k hk o ak=>by
  obtain⟨S2,cg,_⟩:=ag k hk o;refine⟨S2,?_⟩;have a0:E=dgOf (exam c ((n.name,k) :: s) B g):=by
   rw[<-hE];simp only[yp,zq];rw[hX,ak];simp only;rw[if_pos o];cases exam c ((n.name,k) :: s) B g<;>rfl
  grind
 refine qSQ call141 func141 rfl { mt:=[3] } ?_;by_cases a2:n.op=15
 case' pos =>
  have a3:=ai a2;subst a3
 case' neg =>
  have a3:=aj a2;subst a3
 all_goals
  simp[go_sem,a2];refine fD [0,1,2,3,4,5,6,7,8,9,10,11,12,13] [(0,0,[]),(1,0,[]),(2,0,[]),(3,0,[]),(4,0,[]),(5,0,[]),(6,1,[]),(7,0,[]),(8,0,[]),(9,0,[]),(10,2,[0,3,5]),(11,2,[0,3,5]),(12,1,[]),(13,1,[])] zKr zKr zSi ?_;simp[go_sem,p];refine cA ca w1 ?_;simp[go_sem,qh,p];rw[if_pos (qC _)];generalize hP:qH _ 0 (aI S.1 :: hB S.2)=P;have I:P=aI S.1 :: hB S.2:=by rw[<-hP];exact pc (aI 0) _ (fun _=>false) _
  subst I;clear hP;simp[go_sem]
 all_goals
  cases X with
  |error e =>
   have he:=a7 e (qr _) rfl;have al:¬e.1=0:=zOm;have a0:E=e:=by rw[<-hE];simp only[yp];rw[hX];rfl
   subst a0;clear hE;simp[go_sem,dgOf,al];refine fD [0,1,2,3] [(0,0,[]),(1,0,[]),(2,1,[1]),(3,1,[])] zKr zKr zSi ?_;simp[go_sem];exact .hf _ (yO zR E)
  |ok ko =>
   obtain⟨q,rfl,hq⟩:=ah ko (qr _) wa hs rfl a6;have an:=hS a6 q rfl;subst an;have a9:(qe q).1=q.ar:=rfl;by_cases o:q.ar=1
   .have R:(qe q).1=1:=a9.trans o
    obtain⟨S2,cg⟩:=a8 q hq o rfl;have a4:Zl (.ok (some q))=qe q:=if_pos o;rw[a4];have aa:envS ((n.name,q) :: s)=envS s++[(n.name,qe q)]:=by simp[envS]
    rw[aa]at cg;generalize qe q=Q at *
    obtain⟨qa,T⟩:=Q;have a5:qa=1:=R;subst a5;simp[go_sem,dgOf];refine fD [0,1,2,4,5,6,7,8,10,11,12,13,3,9,14,15,16,17,18,19,20,21] [(0,0,[]),(1,0,[]),(2,0,[]),(4,0,[]),(5,0,[]),(6,0,[]),(7,0,[]),(8,0,[]),(10,0,[]),(11,0,[]),(12,0,[]),(13,0,[]),(3,1,[0,5,6,11,13]),(9,1,[0,11,13]),(14,1,[]),(15,0,[]),(16,0,[]),(17,0,[]),(18,2,[0,5,6,11,13]),(19,2,[0,5,6,11,13]),(20,1,[]),(21,1,[])] zKr zKr zSi ?_;simp[go_sem,qh,tk];rw[if_pos (qC _)];generalize hC:qH _ 1 _=C;have ao:C=cVr (n.name,(1,T)):=by rw[<-hC];exact pcV n.name (1,T)
    subst ao;clear hC;have aq:(cVr (n.name,((1:Int),T))).length=66:=by simp[qh]
    have au:=Uz (n.name,((1:Int),T));generalize hV:cVr (n.name,((1:Int),T))=V at *
    simp[go_sem,aq];rw[if_pos au];simp[go_sem,p];refine UB (lo:=5) (xs:=[]) (ys:=envS s) (OwnF.nil zSp) (by simp[qE]) (by simp[YN];omega) fun az m1 av U=>?_
    have k0:=U 0 zOm;have k1:=U 1 zOm;have k2:=U 2 zOm;have k3:=U 3 zOm;have k4:=U 4 zOm;simp at k0 k1 k2 k3 k4;simp[go_sem,qh,tk,p,k0,k3];refine UB (xs:=[]++envS s) (ys:=[(n.name,(1,T))]) av (by simp[qE,hV]) (by simp[YN];omega) fun b0 m2 a1 r=>?_
    rw[List.nil_append]at a1;have aw:=a1.2.2;replace k0:=(r 0 zOm).trans k0;replace k1:=(r 1 zOm).trans k1;replace k2:=(r 2 zOm).trans k2;replace k3:=(r 3 zOm).trans k3;replace k4:=(r 4 zOm).trans k4;have j:∀(l:List Cell) (i:Nat),i<m2.length->(m2++l)[i]?=m2[i]?:=fun l i hi=>qT hi
    have g0:=(qn.1 k0).2;have g1:=(qn.1 k1).2;have g2:=(qn.1 k2).2;have g3:=(qn.1 k3).2;simp[go_sem,p,k0];refine fB (args':=[eVw c _,lVr (envS s++[(n.name,(1,T))]),eNd g]) cg ⟨.hf _ (kO c _),rdVr a1,.hf _ (zV g),trivial⟩ (qeS S2 _) ?_;have p0:=fun l=>(j l 0 zOm).trans k0
    have p1:=fun l=>(j l 1 zOm).trans k1
    have p2:=fun l=>(j l 2 zOm).trans k2
    have p3:=fun l=>(j l 3 zOm).trans k3
    have p4:=fun l=>(j l 4 zOm).trans k4
    have ab:0<m2.length:=zOm;have ad:3<m2.length:=zOm;simp[go_sem,qh,tk,p,g0,g3,ab,ad,p3];rw[if_pos (qC _)];generalize hP:qH _ 0 (cRS S2)=P;have I:P=cRS S2:=by rw[<-hP];exact pc (aI 0) _ (fun _=>false) _
    subst I;clear hP;simp[go_sem];obtain⟨rr,ae⟩:=five k0 k1 k2 k3 k4;have b1:m2.length=rr.length+5:=by rw[ae];rfl
    clear g0 g1 g2 g3 p0 p1 p2 p3 p4 j a1 r k0 k1 k2 k3 k4 aw ab ad;refine fD [0,1,2,3] [(0,0,[]),(1,0,[]),(2,1,[1]),(3,1,[])] zKr zKr zSi ?_;simp[go_sem,qh,tk,ae];rw[if_pos (qC _)];generalize hP:qH _ 0 (aI 1 :: hB T)=P;have I:P=aI 1 :: hB T:=by rw[<-hP];exact pc (aI 0) (aI 1) (fun _=>false) T
    subst I;clear hP;simp[go_sem,qh,tk];exact .hf _ (yO (1,T) E)
   .have R:¬(qe q).1=1:=fun e=>o (a9.symm.trans e)
    have a4:Zl (.ok (some q))=zR:=if_neg o;rw[a4];have a0:E=(42,n.pos):=by
     rw[<-hE];simp only[yp];rw[hX];simp only;rw[if_neg o];rfl
    subst a0;clear hE;generalize qe q=Q at *
    simp[go_sem,dgOf,R];refine fD [0,1,2,3,4,5] [(0,0,[]),(1,0,[]),(2,0,[]),(3,0,[]),(4,1,[2]),(5,1,[])] zKr zKr zSi ?_;simp[go_sem];exact .hf _ (yO zR (42,n.pos))
theorem qeU(ts:TS)(ok:okTS ts)(n:Nd)(l:List (Option Kd))(r:n.op≠1)(o:n.op≠15)
  (t:n.op=5\/n.op=11\/n.op=12\/n.op=13->∃ a,l=[some a]/\okKd ts.sS.length a)
  (C:n.op=6\/n.op=14\/n.op=7\/n.op=8\/n.op=32\/n.op=33\/n.op=9\/n.op=10->∃ a b,l=[some a,some b]/\okKd ts.sS.length a/\okKd ts.sS.length b) :
  ∃ S b,(∀ L:List RS,((n.op=5\/n.op=11\/n.op=12\/n.op=13)\/(n.op=6\/n.op=14\/n.op=7\/n.op=8\/n.op=32\/n.op=33\/n.op=9\/n.op=10)->L=l.map setO)->prC ts n L S b)/\ApE n.op (zQ ts.sS.length n.op n.n n.pos l) S b:=by
 by_cases P:(n.op=5\/n.op=11\/n.op=12\/n.op=13)\/(n.op=6\/n.op=14\/n.op=7\/n.op=8\/n.op=32\/n.op=33\/n.op=9\/n.op=10)
 .obtain ⟨S,b,c,a⟩:=qeM ts ok n l (l.map setO) r o (fun h=>by obtain⟨a,rfl,p⟩:=t h;exact⟨a,rfl,rfl,p⟩) (fun h=>by obtain⟨a,b,rfl,p,I⟩:=C h;exact⟨a,b,rfl,rfl,p,I⟩)
  grind
 by_cases g:n.op=2
 .refine ⟨qe ⟨n.n,[]⟩,true,fun L _=>kN (kH n.n) (ap2 ts n L g),?_⟩
  unfold zQ;rw[if_pos g];exact⟨rfl,fun _=>⟨_,rfl,rfl⟩⟩
 by_cases i:n.op=3
 .refine ⟨_,true,fun L _=>ap3 ts ok n L i,?_⟩
  unfold zQ;rw[if_neg g,if_pos i];exact⟨rfl,fun _=>⟨_,rfl,rfl⟩⟩
 by_cases j:n.op=4
 .refine ⟨_,true,fun L _=>ap4 ts ok n L j,?_⟩
  unfold zQ;rw[if_neg g,if_neg i,if_pos j];exact⟨rfl,fun _=>⟨_,rfl,rfl⟩⟩
 refine⟨zR,true,fun L _=>apO ts n L g i j zOm zOm zOm zOm zOm zOm zOm zOm zOm zOm zOm zOm,?_⟩;rw[XU g i j zOm zOm zOm zOm zOm zOm zOm zOm zOm zOm zOm zOm];refine⟨rfl,fun J=>?_⟩;have:=VP J;omega
def resS:Res->RS
 | .ok (some k)=>qe k
 |_=>zR
theorem qeV(R:Res):endR zR R = .tup [eRS (resS R),eDg (dgOf R)]:=by
 cases R with
 |error e=>rfl
 |ok k=>cases k<;>rfl
end QR
namespace QS
open YZ YF Y9 Y10 Y1 Y2 Y13 P1 P2 QE QF QI QJ QL QN PG QO QR
theorem YP(c:Ck)(op:Int)(nm:cD):yo c op nm=(zL op||(decide (op=47)&&tpB c nm)):=rfl
theorem qeW{ns:Nat}{op n pos:Int}{l:List (Option Kd)}{e:Dg}(h:zQ ns op n pos l = .error e):e=(42,pos):=by
 unfold zQ at h
 repeat' split at h
 all_goals grind
theorem wkTP(c:Ck)(nm:cD):WKs [eTS c.ts,lBo c.timed,aI c.calls,aS nm] [eTS c.ts,lBo c.timed,aI c.calls,aS nm] := .zk (qG _) (.zk (Zj _) (.zs (.zs .nil)))
theorem wk1I(k:Int):WKs [aI k] [aI k] := .zs .nil
theorem fl_sb(s:RS)(b:Bool):FL (.tup [eRS s,aB b]):=FL.tup fun x i=>by
 rcases qp.1 i with rfl|i
 .exact FL.agg fun c g=>by
   rcases qp.1 g with rfl|g
   .exact FL.sc _
   .obtain ⟨j,_,rfl⟩:=qs.1 g
    exact FL.sc _
 grind [qV,FL.sc]
theorem qeX(c:Ck)(i:okCk c)(s:Scp)(n:Nd)(g:yo c n.op n.name=true):ExR c s true n:=by
 refine⟨zR,?_,fun _ q h=>?_⟩
 case refine_2=>simp_all[va,if_pos]
 have j:exam c s true n = .error (46,n.pos):=by simp_all[va,if_pos]
 rw[j];rw[YP]at g;refine qSQ call109 func109 rfl { mt:=[3] } ?_;have l:=wK n.op;have o:=wL c i n.name;simp[go_sem];refine cA l (wk1I _) ?_;cases hT:zL n.op with
 |true =>
  simp[go_sem];refine fD [0,1,2,3,4,5] [(0,0,[]),(1,0,[]),(2,0,[]),(3,0,[]),(4,1,[2]),(5,1,[])] zKr zKr zSi ?_;simp[go_sem,dgOf];exact .hf _ (yO zR (46,n.pos))
 |false =>
  rw[hT,Bool.false_or,qi]at g;obtain⟨h47,hB⟩:=g;have h47:n.op=47:=zUs h47;simp[go_sem,h47];refine cA o (wkTP c n.name) ?_;rw[hB];simp[go_sem];refine fD [0,1,2,3,4,5] [(0,0,[]),(1,0,[]),(2,0,[]),(3,0,[]),(4,1,[2]),(5,1,[])] zKr zKr zSi ?_;simp[go_sem,dgOf];exact .hf _ (yO zR (46,n.pos))
theorem qeY(c:Ck)(l:okCk c)(s:Scp)(g:s.length<=100000)(inn:Bool)(n:Nd)(i:n.op=1):ExR c s inn n:=by
 have o:exam c s inn n=yA c s n.name n.pos:=by
  rw[va,YP,i,show zL 1=false from rfl];simp
 refine⟨resS (yA c s n.name n.pos),?_,fun _ q h=>by rw[o]at h;rw[h];rfl⟩;rw[o];have p:=nameU c l inn s n g;rw[qeV]at p;generalize resS (yA c s n.name n.pos)=S at *
 generalize dgOf (yA c s n.name n.pos)=D at *
 refine qSQ call109 func109 rfl { mt:=[3] } ?_;have r:=wK n.op;have I:=wL c l n.name;have hT:zL n.op=false:=by rw[i];rfl
 rw[hT]at r;have C:=wkE c inn (envS s) n;cases inn
 case' true =>
  simp[go_sem];refine cA r (wk1I _) ?_
 all_goals
  simp[go_sem,i];refine cA p C ?_;simp[go_sem,qh];rw[if_pos (qC _)];generalize t:qH _ 0 (aI S.1 :: hB S.2)=P;have j:P=aI S.1 :: hB S.2:=by rw[<-t];exact pc (aI 0) _ (fun _=>false) _
  subst j;clear t;simp[go_sem,qh,QE.tk];exact .hf _ (yO S D)
theorem qeZ(c:Ck)(i:okCk c)(s:Scp)(p:ScOk c.ts.sS.length s)(inn:Bool)(n:Nd)(r:WfN n)(h47:n.op=47)(g:(inn&&yo c n.op n.name)=false)(t:∀ k,k∈n.sM->ExR c s true k):ExR c s inn n:=by
 have C:exam c s inn n=Q0 c s n:=by
  rw[va,g,if_neg zSp,zIn,if_pos h47];rfl
 have I:=qeQ c i s p n r h47 t inn;refine⟨zR,?_,fun j=>by rw[h47]at j;exact absurd j zDe⟩;rw[C];generalize dgOf (Q0 c s n)=D at *
 refine qSQ call109 func109 rfl { mt:=[3] } ?_;have l:=wK n.op;have o:=wL c i n.name;have hT:zL n.op=false:=by rw[h47];rfl
 rw[hT]at l;have J:=wkE c inn (envS s) n;cases inn
 case' true =>
  rw[Bool.true_and,YP,hT,h47]at g;have hB:tpB c n.name=false:=zUs g;rw[hB]at o;simp[go_sem];refine cA l (wk1I _) ?_;simp[go_sem,h47];refine cA o (wkTP c n.name) ?_
 all_goals
  simp[go_sem,h47];refine fG I J ?_;exact .hf _ (yO zR D)
theorem qe0(c:Ck)(J:okCk c)(s:Scp)(o:ScOk c.ts.sS.length s)(p:s.length<=90000)(inn:Bool)(n:Nd)(R:WfN n)(l:n.op=15\/n.op=45\/n.op=46)(ht:(inn&&yo c n.op n.name)=false)(T:∀ k,k∈n.sM->∀ s',ScOk c.ts.sS.length s'->s'.length<=s.length+1->∀ inn,ExR c s' inn k):ExR c s inn n:=by
 have U:exam c s inn n=yp c s (inn||decide (n.op=15)) n.name n.pos n.sM:=by
  rw[va,ht,if_neg zSp,zIn,zIn,if_pos l]
 obtain⟨a,g,i,r⟩:=qeR R l;have cb:=qeT c J s o p n a g R l i r inn (T a (by rw[i];simp) s o zOm _) (fun k hk j=>T g (by rw[i];simp) _ (fun v t=>by
  rcases qp.1 t with rfl|t
  .grind
  .exact o v t) zSp _)
 refine⟨Zl (exam c s (inn||decide (n.op=15)) a),?_,fun _ q h=>?_⟩
 case refine_2 =>
  rw[U,i]at h;simp only[yp]at h;split at h
  .cases h
  .cases h
  .rename_i k hk
   split at h
   .rename_i j
    split at h
    .cases h
    .cases h
     rw[hk];exact if_pos j
   .cases h
 rw[U];generalize Zl (exam c s (inn||decide (n.op=15)) a)=S at *
 generalize dgOf (yp c s (inn||decide (n.op=15)) n.name n.pos n.sM)=D at *
 refine qSQ call109 func109 rfl { mt:=[3] } ?_;have C:=wK n.op;have cp:=wL c J n.name;have h47:¬n.op=47:=zOm;have hT:zL n.op=false:=by grind [zL]
 rw[hT]at C;have wn:=wkE c inn (envS s) n;rcases l with h|h|h
 all_goals
  rw[h]at C;cases inn
 all_goals
  simp[go_sem,h]
  try (refine cA C (wk1I _) ?_)
  try simp[go_sem,h]
  refine cA cb wn ?_;simp[go_sem,qh];rw[if_pos (qC _)];generalize hP:qH _ 0 (aI S.1 :: hB S.2)=P;have I:P=aI S.1 :: hB S.2:=by rw[<-hP];exact pc (aI 0) _ (fun _=>false) _
  subst I;clear hP;simp[go_sem,qh,QE.tk];exact .hf _ (yO S D)
def seqL(X:Nd->Res):List Nd->Except Dg (List (Option Kd))
 | [] => .ok []
 |k :: ks=>match X k with
  | .error e => .error e
  | .ok a=>match seqL X ks with
   | .error e => .error e
   | .ok l => .ok (a :: l)
theorem kQ(c:Ck)(s:Scp)(B:Bool):∀ ks:List Nd,zq c s B ks=seqL (exam c s B) ks
 | []=>by simp only[zq,seqL]
 |k :: ks=>by simp only[zq,seqL];rw[kQ c s B ks];cases exam c s B k with
  |error e=>rfl
  |ok a=>cases seqL (exam c s B) ks<;>rfl
theorem three{C:Type}{l:List C}{a b c:C}(g:l[0]?=some a)(i:l[1]?=some b)(j:l[2]?=some c):∃ r,l=a :: b :: c :: r:=by
 match l,g,i,j with
 |_ :: _ :: _ :: r,g,i,j =>
  grind
theorem qe1{n:Nd}(j:WfN n)(h:(n.op=5\/n.op=11\/n.op=12\/n.op=13)\/(n.op=6\/n.op=14\/n.op=7\/n.op=8\/n.op=32\/n.op=33\/n.op=9\/n.op=10)):∀ x,x∈n.sM->kd x.op=101:=by
 have g:=j.shape;intro x l;have i:kd x.op∈n.sM.map fun k=>kd k.op:=qs.2 ⟨x,l,rfl⟩
 rcases h with h|h
 .unfold shp at g
  rw[zIn,if_pos zOm]at g
  grind
 .unfold shp at g
  rw[zIn,zIn,if_pos zOm]at g;simp only[qj]at g;rw[<-g]at i;simpa using i
set_option maxHeartbeats 2000000 in
theorem ex_t(c:Ck)(hc:okCk c)(s:Scp)(n:Nd)(inn B:Bool)(X:Nd->Res)(S:RS)(D:Dg)(h1:¬n.op=1)(h47:¬n.op=47)(hb:¬(n.op=15\/n.op=45\/n.op=46))(hw:WfN n)(ar:n.sM.length<=401)(hT:inn=true->zL n.op=false)(a4:n.op=12->B=true)(a5:n.op=13->B=true)(ae:¬n.op=12->¬n.op=13->B=inn)
  (af:∀ k,k∈n.sM->∃ S,qd qb 109 [eVw c B,lVr (envS s),eNd k] (.tup [eRS S,eDg (dgOf (X k))])/\(kd k.op=101->∀ q,X k = .ok (some q)->S=qe q))
  (a6:∀ k a,k∈n.sM->X k = .ok a->kd k.op=101->∃ q,a=some q/\okKd c.ts.sS.length q)
  (a0:∀ k e,X k = .error e->40<=e.1)
  (ag:∀ e,seqL X n.sM = .error e->S=zR/\D=e)
  (ah:∀ l,seqL X n.sM = .ok l->∃ S' b,(∀ L:List RS,((n.op=5\/n.op=11\/n.op=12\/n.op=13)\/(n.op=6\/n.op=14\/n.op=7\/n.op=8\/n.op=32\/n.op=33\/n.op=9\/n.op=10)->L=l.map setO)->prC c.ts n L S' b)/\(b=true->S=S'/\D=(0,0))/\(b=false->S=zR/\D=(42,n.pos))) :
  qd qb 109 [eVw c inn,lVr (envS s),eNd n] (.tup [eRS S,eDg D]):=by
 simp only[not_or]at hb;obtain⟨b1,b2,b3⟩:=hb;refine qSQ call109 func109 rfl { mt:=[3] } ?_;have ct:=wK n.op;have cp:=wL c hc n.name;cases inn
 all_goals first
  | (rw[hT rfl]at ct;simp[go_sem];refine cA ct (wk1I _) ?_)
  |skip
 all_goals simp[go_sem,h1,h47,b1,b2,b3]
 all_goals rcases (show n.op=12\/(¬n.op=12/\n.op=13)\/(¬n.op=12/\¬n.op=13) by omega) with p|⟨p,T⟩|⟨p,T⟩
 all_goals first|simp[go_sem,p,T] | simp[go_sem,p]
 all_goals first|have a1:=a4 p|have a1:=a5 T|have a1:=ae p T
 all_goals
  refine fZ n.sM.length (fun k st=>∃(j:List (Option Kd)) (L:List RS),j.length=k/\L.length=k/\st.tm 1=lVr (envS s)/\st.tm 3 = .ptr 0 0/\st.tm 5 = .ip (cNd n)/\st.tm 6 = .ptr 1 0/\st.tm 7 = .ptr 2 0/\st.tm 9=aI k/\st.mu[0]?=some (.arr (cVw c B))/\st.mu[1]?=some (.arr (aI 0 :: hB fun _=>false))/\st.mu[2]?=some (.arr [aI 0,aI 0])/\OwnF 3 st.mu 65 (st.tm 8) (L.map cRS)/\(∀(i:Nat) x,n.sM[i]?=some x->i<k->kd x.op=101->∃ q,j[i]?=some (some q)/\L[i]?=some (qe q))/\seqL X n.sM=(match seqL X (n.sM.drop k) with | .error e => .error e | .ok l => .ok (j++l))) ?_ ?_
  .refine ⟨[],[],rfl,rfl,zSi,zSi,zSi,zSi,zSi,zSi,by rw[a1];simp[go_sem],by simp[go_sem];rfl,zSi,by simp_all[go_sem,OwnF.nil],fun i x _ h=>absurd h zOm,?_⟩
   grind
  rintro k st hk ⟨j,L,a7,a8,e1,e3,e5,e6,e7,e9,m0,m1,m2,ho,U,r⟩;generalize h8:st.tm 8=av at *
  by_cases o:k<n.sM.length
  .have w1:=zWk k
   obtain⟨Sk,ck,ai⟩:=af n.sM[k] (qo o);rw[zH o]at r;simp only[seqL]at r;simp[go_sem,e5,e9,o];refine fD [0,1,2,3,4,5,6,7,8,9,10,11,12,13,14] [(0,0,[]),(1,0,[]),(2,0,[]),(3,0,[]),(4,0,[]),(5,0,[]),(6,0,[]),(7,1,[]),(8,0,[]),(9,0,[]),(10,0,[]),(11,2,[0,3,6]),(12,2,[0,3,6]),(13,1,[]),(14,1,[])] zKr zKr zSi ?_;have a9:2<st.mu.length:=(qn.1 m2).1;have g:∀(l:List Cell) (i:Nat),i<st.mu.length->(st.mu++l)[i]?=st.mu[i]?:=fun l i C=>qT C
   have p0:=fun l=>(g l 0 zOm).trans m0
   have p1:=fun l=>(g l 1 zOm).trans m1
   have p2:=fun l=>(g l 2 zOm).trans m2
   have g0:=(qn.1 m0).2;have g1:=(qn.1 m1).2;have g2:=(qn.1 m2).2;have a2:0<st.mu.length:=zOm;have aj:1<st.mu.length:=zOm;simp[go_sem,e1,e3,e5,e9,o,m0];refine cA ck (wkE c _ _ _) ?_;cases hx:X n.sM[k] with
   |error e =>
    have he:=a0 _ _ hx;have ak:¬e.1=0:=zOm;rw[hx]at r;have r:seqL X n.sM = .error e:=r;obtain⟨al,an⟩:=ag e r;rw[al,an];simp[go_sem,e3,g0,a2,qh,dgOf];rw[if_pos (qC _)];generalize hP:qH _ 0 (cRS Sk)=P;have I:P=cRS Sk:=by rw[<-hP];exact pc (aI 0) _ (fun _=>false) _
    subst I;clear hP;simp[go_sem,ak];refine fD [0,1,2,3] [(0,0,[]),(1,0,[]),(2,1,[1]),(3,1,[])] zKr zKr zSi ?_;simp[go_sem,e6,e7,a2,qh,g1,g2,aj,a9];exact .hf _ (yO zR e)
   |ok a =>
    rw[hx]at r;simp only at r;simp[go_sem,e3,g0,a2,qh,dgOf];rw[if_pos (qC _)];generalize hP:qH _ 0 (cRS Sk)=P;have I:P=cRS Sk:=by rw[<-hP];exact pc (aI 0) _ (fun _=>false) _
    subst I;clear hP;simp[go_sem,h8,qh,QE.tk];rw[if_pos (qC _)];simp[go_sem];refine appRS (lo:=3) (xs:=L) (ys:=[Sk]) ⟨by simpa using VL (VL ho.1 _) _,ho.2.1,by grind⟩ (by simp[qE]) zSo fun au m' ao a3=>?_
    simp[go_sem,e9,o,w1];refine aK ⟨j++[a],L++[Sk],zP1 a7,zP1 a8,zS1 e1,zS1 e3,zS1 e5,zS1 e6,zS1 e7,zSi,?_,?_,?_,zVs ao,fun i x C aw R=>?_,?_⟩
    .simp only[jz];exact(a3 0 zOm).trans (p0 _)
    .simp only[jz];exact(a3 1 zOm).trans (p1 _)
    .simp only[jz];exact(a3 2 zOm).trans (p2 _)
    .by_cases aa:i=k
     .subst aa
      rw[qq o]at C;cases C;obtain⟨q,rfl,_⟩:=a6 _ a (qo o) hx R;refine⟨q,?_,?_⟩
      .rw [zo zOm,a7];simp
      .rw [zo zOm,a8];simp[ai R q hx]
     .obtain ⟨q,q1,q2⟩:=U i x C zOm R
      exact⟨q,by rw[zGa];exact q1,by rw[zGa];exact q2⟩
    grind
  .have ab:k=n.sM.length:=by omega
   subst ab;rw[yQ]at r;have r:seqL X n.sM = .ok j:=by rw[r];simp only[seqL,zA]
   obtain⟨S',b,q1,q2,q3⟩:=ah j r;have hL:((n.op=5\/n.op=11\/n.op=12\/n.op=13)\/(n.op=6\/n.op=14\/n.op=7\/n.op=8\/n.op=32\/n.op=33\/n.op=9\/n.op=10))->L=j.map setO:=fun h=>by
    have R:∀ x,x∈n.sM->kd x.op=101:=fun x hx=>qe1 hw h x hx
    refine List.ext_getElem? fun i=>?_
    by_cases C:i<n.sM.length
    .obtain ⟨q,e1,e2⟩:=U i n.sM[i] (zP1 C) C (R _ (qo C))
     rw[e2,List.getElem?_map,e1];rfl
    .rw [je zOm,je zSo]
   have hp:=q1 L hL;unfold prC at hp;have a9:2<st.mu.length:=(qn.1 m2).1;have g:∀(l:List Cell) (i:Nat),i<st.mu.length->(st.mu++l)[i]?=st.mu[i]?:=fun l i C=>qT C
   obtain⟨rr,ad⟩:=three m0 m1 m2;simp[go_sem,e3,e5,e9,h8,m0];refine fB (args':=[eTS c.ts,eNd n,lRS L]) hp ⟨.hf _ (qG _),.hf _ (zV n),rdRS ho,trivial⟩ (fl_sb S' b) ?_;have ax:st.mu.length=rr.length+3:=by rw[ad];rfl
   clear m0 m1 m2 g ho;simp[go_sem,ad,qh];rw[if_pos (qC _)];generalize hP:qH _ 0 (cRS S')=P;have I:P=cRS S':=by rw[<-hP];exact pc (aI 0) _ (fun _=>false) _
   subst I;clear hP;cases b with
   |true =>
    obtain⟨rfl,rfl⟩:=q2 rfl;simp[go_sem,e6,qh,QE.tk,pc];rw[if_pos (qC _)];simp[go_sem,e6,e7,qh,QE.tk];exact .hf _ (yO S (0,0))
   |false =>
    obtain⟨rfl,rfl⟩:=q3 rfl;simp[go_sem];refine fD [0,1,2,3,4,5] [(0,0,[]),(1,0,[]),(2,0,[]),(3,0,[]),(4,1,[2]),(5,1,[])] zKr zKr zSi ?_;simp[go_sem,e5,e6,e7,qh];exact .hf _ (yO zR (42,n.pos))
theorem qe2(c:Ck)(p:okCk c)(s:Scp)(hs:ScOk c.ts.sS.length s)(inn:Bool)(n:Nd)(r:WfN n)(h1:¬n.op=1)(h47:¬n.op=47)(hb:¬(n.op=15\/n.op=45\/n.op=46))(ht:(inn&&yo c n.op n.name)=false)(ih:∀ k,k∈n.sM->∀ inn,ExR c s inn k):ExR c s inn n:=by
 have hx:exam c s inn n=match zq c s (inn||decide (n.op=12)||decide (n.op=13)) n.sM with | .error e => .error e | .ok l=>zQ c.ts.sS.length n.op n.n n.pos l:=by
  rw[va,ht,if_neg zSp,if_neg h1,if_neg h47,if_neg hb]
  grind
 have t:n.op=12\/n.op=13->(inn||decide (n.op=12)||decide (n.op=13))=true:=fun h=>by grind
 have a0:¬n.op=12->¬n.op=13->(inn||decide (n.op=12)||decide (n.op=13))=inn:=fun h h'=>by simp[h,h']
 generalize (inn||decide (n.op=12)||decide (n.op=13))=B at *
 obtain⟨S,D,C,hq,I,J⟩:∃ S D,dgOf (exam c s inn n)=D/\(kd n.op=101->∀ q,exam c s inn n = .ok (some q)->S=qe q)/\(∀ e,zq c s B n.sM = .error e->S=zR/\D=e) /\
   (∀ l,zq c s B n.sM = .ok l->∃ P b,(∀ L:List RS,((n.op=5\/n.op=11\/n.op=12\/n.op=13)\/(n.op=6\/n.op=14\/n.op=7\/n.op=8\/n.op=32\/n.op=33\/n.op=9\/n.op=10)->L=l.map setO)->prC c.ts n L P b)/\(b=true->S=P/\D=(0,0))/\(b=false->S=zR/\D=(42,n.pos))):=by
  rw[hx];cases hE:zq c s B n.sM with
  |error e=>exact⟨zR,e,rfl,(fun _ q h=>by cases h),(fun e' h=>by grind),(fun l h=>by cases h)⟩
  |ok l =>
   obtain⟨a1,a2⟩:=VO hE;have a3:=(XX p.ts.ns r a1 (fun i k' a hi ha g=>wq p (szN k') k' s B a (qr _) (r.kid (List.mem_of_getElem? hi)) hs (a2 i k' a hi ha) g)).2;obtain⟨P,b,p1,o⟩:=qeU c.ts p.ts n l h1 (fun h=>hb (.inl h)) (fun h=>by
    grind) a3.2.2
   simp only;cases hA:zQ c.ts.sS.length n.op n.n n.pos l with
   |error e =>
    rw[hA]at o;have o:b=false:=o;refine⟨zR,e,rfl,(fun _ q h=>by cases h),(fun e' h=>by cases h),(fun l' h=>by cases h;exact⟨P,b,p1,(fun h=>by grind),(fun _=>⟨rfl,qeW hA⟩)⟩)⟩
   |ok ko =>
    rw[hA]at o;obtain⟨o,p3⟩:=o;refine⟨P,(0,0),rfl,(fun U q h=>?_),(fun e' h=>by cases h),(fun l' h=>by simp_all)⟩
    grind
 refine⟨S,?_,hq⟩;rw[C];clear C hx hq;obtain⟨X,R⟩:∃ X:Nd->Res,X=exam c s B:=⟨_,rfl⟩;have a4:∀ k,k∈n.sM->∃ S,qd qb 109 [eVw c B,lVr (envS s),eNd k] (.tup [eRS S,eDg (dgOf (X k))])/\(kd k.op=101->∀ q,X k = .ok (some q)->S=qe q):=fun k U=>by rw[R];exact ih k U B
 have T:∀ k a,k∈n.sM->X k = .ok a->kd k.op=101->∃ q,a=some q/\okKd c.ts.sS.length q:=fun k a U h g=>by rw[R]at h;exact wq p (szN k) k s B a (qr _) (r.kid U) hs h g
 have j:∀ k e,X k = .error e->40<=e.1:=fun k e h=>by rw[R]at h;exact YO c (szN k) k s B e (qr _) h
 rw[kQ,<-R]at I J;clear R ih;have a5:=r.len;exact ex_t c p s n inn B X S D h1 h47 hb r a5 (fun hi=>by
  simp_all[Bool.true_and,YP,Bool.or_eq_false_iff]) (fun h=>t (.inl h)) (fun h=>t (.inr h)) a0 a4 T j I J
theorem kR(c:Ck)(l:okCk c):∀(m:Nat) (n:Nd),depN n<=m->WfN n->∀(s:Scp),ScOk c.ts.sS.length s->s.length+m<=80000->∀ inn,ExR c s inn n
 | 0,n,i,_,_,_,_,_=>zW1 (kM n)
 |m+1,n,i,o,s,r,p,inn=>by
  have t:∀ k,k∈n.sM->∀ s',ScOk c.ts.sS.length s'->s'.length<=s.length+1->∀ inn,ExR c s' inn k:=fun k j s' g C inn=>kR c l m k (by have:=kL j;rw[Yv]at i;omega) (o.kid j) s' g zOm inn
  cases I:inn&&yo c n.op n.name with
  |true =>
   simp_all[qi,qeX]
  |false =>
   grind [qeY,qeZ,qe0,qe2]
end QS
namespace QT
open YF Y9 Y10 Y1 Y2 Y14 Y15 Y16 YZ P1 P2 PA Q5 QD QE QI QJ QL QM QO QS
section
variable {ts:TS}
def ckR(ts:TS)(i:Nat):Ck:=⟨ts,i,tmsL ts ts.sT.length⟩
theorem kS(h:okTS ts){i:Nat}(g:i<=ts.sT.length):okCk (ckR ts i):=⟨h,g,by show i<=(tmsL ts ts.sT.length).length;rw[wo ts _ (qr _)];exact g⟩
theorem kT{c c':Ck}(g:c'.ts=c.ts)(l:∀ nm,zh c' nm=zh c nm)(o:∀ op nm,yo c' op nm=yo c op nm):∀(m:Nat) (n:Nd) (s:Scp) (inn:Bool),szN n<=m->exam c s inn n=exam c' s inn n
 | 0,n,_,_,t=>by obtain⟨op,nm,i,ks,p⟩:=n;simp[szN]at t
 |m+1,n,s,inn,t=>by
  have r:∀ k,k∈n.sM->∀(s:Scp) (inn:Bool),exam c s inn k=exam c' s inn k:=fun k r s inn=>kT g l o m k s inn (zW1 (jC r))
  refine qcW rfl rfl rfl rfl (o _ _) (fun _=>?_) (by rw[g]) (l _) (by rw[g]) rfl (fun _ I=>qcX fun k j=>r k j s true) (fun _ inn=>?_) (fun _ _ _ inn=>K3 fun k j=>r k j s inn)
  .grind [qcV]
  .cases C:n.sM with
   |nil=>rfl
   |cons k ks =>
    grind [ks,yp,q8,zq,K3,qJ]
theorem qe3(h:okTS ts){i:Nat}(o:i<=ts.sT.length)(n:Nd)(s:Scp)(inn:Bool):exam (ckR ts i) s inn n=exam (mkCk ts i) s inn n:=by
 refine(kT (c:=mkCk ts i) (c':=ckR ts i) rfl (fun j=>rfl) (fun op j=>?_) (szN n) n s inn (qr _)).symm;unfold yo;have e:zh (ckR ts i) j=zh (mkCk ts i) j:=rfl;rw[e];cases r:zh (mkCk ts i) j with
 |none=>rfl
 |some p =>
  obtain⟨l,g⟩:=VA (Yk h o) r;have l:p<i:=l;have g:p<ts.sT.length:=g;simp only;have t:=PC.UD ts p ts.sT.length g (qr _) g;have C:=PC.UD ts p i l o g;show (zL op||(decide (op=47)&&(tmsL ts ts.sT.length).getD p false))=(zL op||(decide (op=47)&&(tmsL ts i).getD p false));rw[t,C]
theorem qe4(h:okTS ts){i:Nat}(g:i<=ts.sT.length)(env:List (cD×Int))(n:Nd):v5 (mkCk ts i) env n=if 30<=n.op then dgOf (exam (ckR ts i) (vZ env) false n) else (43,n.pos):=by
 grind [v5,qe3]
theorem kU(ts:TS)(h:okTS ts)(J:∀ p,p∈ts.sT->WfN p.body)(i:Nat)(o:i<=ts.sT.length)(env:List (cD×Int))(t:VT ts.sS.length env)(j:env.length<=1000)(n:Nd)(R:WfN n)(T:depN n<=24) :
  qd qb 79 [eTS ts,aI i,lPm env,eNd n] (eDg (v5 (mkCk ts i) env n)):=by
 rw[qe4 h o];have U:=h.ns;have hs:=qaV t;have a0:(vZ env).length=env.length:=by
  have:=congrArg List.length (kG env)
  grind [YN,envV]
 obtain⟨S,ce,_⟩:=kR (ckR ts i) (kS h o) 24 n T R (vZ env) hs zOm false;have C:=envU env j (fun p hp=>zW1 (t.r p hp));rw[kG]at C;have c1:=qeD n;have c2:=qd9 ts h J;refine qSU call79 func79 rfl ?_;refine cA c1 (.zk (zV n) .nil) ?_;by_cases g:30<=n.op
 .rw [if_pos g]
  generalize dgOf (exam (ckR ts i) (vZ env) false n)=D at *
  simp[go_sem,g];refine fD [0,1,3,5,7,2,4,6,8,9,10,11,12,13,14,15] [(0,0,[]),(1,0,[]),(3,0,[]),(5,0,[]),(7,0,[]),(2,1,[0,7]),(4,0,[]),(6,1,[0,7]),(8,1,[]),(9,0,[]),(10,0,[]),(11,0,[]),(12,2,[0,1,7]),(13,2,[0,1,7]),(14,1,[]),(15,1,[])] zKr zKr zSi ?_;simp[go_sem];refine fG c2 (.zk (qG ts) .nil) ?_;refine fG C (.zk (Qw env) .nil) ?_;refine cA ce (wkE (ckR ts i) false _ n) ?_;simp[go_sem,qh];rw[if_pos (qC _)];generalize I:qH _ 0 (cRS S)=P;have l:P=cRS S:=by rw[<-I];exact pc (aI 0) _ (fun _=>false) _
  subst l;clear I;simp[go_sem];exact .hf _ (vf D)
 .rw [if_neg g]
  simp[go_sem,g];exact .hf _ (vf (43,n.pos))
theorem qe5(ts:TS)(h:okTS ts)(i:∀ p,p∈ts.sT->WfN p.body)(env:List (cD×Int))(j:VT ts.sS.length env)(g:env.length<=1000)(n:Nd)(l:WfN n)(o:depN n<=24) :
  qd qb 38 [eTS ts,lPm env,eNd n] (eDg (uC ts env n)):=by
 have c1:=kU ts h i ts.sT.length (qr _) env j g n l o;have e:v5 (mkCk ts ts.sT.length) env n=uC ts env n:=rfl;rw[e]at c1;generalize uC ts env n=D at *
 refine qSU call38 func38 rfl ?_;refine fG c1 (.zk (qG ts) (.zs (.zk (Qw env) (.zk (zV n) .nil)))) ?_;exact .hf _ (vf D)
theorem wM(a b:List Bool):dups (a++b)=dups a++dups b:=by simp[dups]
theorem vg(b:Bool):dups [b]=if b=true then [(41,0)] else []:=by cases b<;>rfl
theorem vE(l:List Bool):(dups l).length<=l.length:=by
 grind [dups,yP,List.length_filter_le]
theorem UF{C:Type}(g:C->C->Bool)(l:List C)(k:Nat)(h:k<l.length):(repL g l).take (k+1)=(repL g l).take k++[(l.take k).any fun y=>g l[k] y]:=by
 grind [repL,vC,ua,X2,qq,Option.some.inj]
theorem YQ{C:Type}(p:C->Bool)(l:List C)(k:Nat)(h:k<l.length):(l.take (k+1)).any p=((l.take k).any p||p l[k]):=by
 rw[ua h,List.any_append];simp only[List.any_cons,List.any_nil,Bool.or_false]
abbrev eS:cD×Bool->cD×Bool->Bool:=fun x y=>decide (x.1=y.1)
abbrev eF:Fld->Fld->Bool:=fun x y=>decide (x.name=y.name)&&decide (x.sS=y.sS)
abbrev eP:Pd->Pd->Bool:=fun x y=>decide (x.name=y.name)
abbrev eM:cD×Int->cD×Int->Bool:=fun x y=>decide (x.1=y.1)
abbrev eA:cD×Nd->cD×Nd->Bool:=fun x y=>decide (x.1=y.1)
theorem vI{mu:Mu}{lo:Nat}{s x:AV}{xs ys:List Dg}{K:AV->Mu->Prop}(o:OwnF lo mu 2 s (xs.map cDg))(t:qE mu x=some (ys.map cDg))(I:xs.length+ys.length<=100000)(J:∀ av p,OwnF lo p 2 av ((xs++ys).map cDg)->(∀ i,i<lo->p[i]?=mu[i]?)->K av p) :
  qI qb mu #[85,85] s x K:=by
 have g:∀ l:List Dg,za 2 (l.map cDg):=fun l r C=>by
  obtain⟨n,_,rfl⟩:=qs.1 C;exact⟨rfl,rfl⟩
 refine qI.ownF (lo:=lo) (e:=81) (sz:=2) (bt:=16) (zv := .agg [aI 0,aI 0]) (xs:=xs.map cDg) (ys:=ys.map cDg) zSi zSi zSi rfl rfl zOm zOm o t (g xs) (g ys) zSo ?_
 grind
theorem qe6(ts:TS)(h:okTS ts)(mu:Mu):qK qb 77 [eTS ts] mu fun e m=>∃ av,e = .ret av/\OwnF mu.length m 2 av ((dups (repL eS ts.sS)++dups (repL eF ts.sA)).map cDg)/\∀ i,i<mu.length->m[i]?=mu[i]?:=by
 refine qSW call77 func77 rfl {} ?_;have a6:=h.ns;have ab:=h.nf;simp[go_sem];refine fZ ts.sS.length (fun i st=>st.tm 1 = .ip (cTS ts)/\st.tm 4=aI i/\OwnF mu.length st.mu 2 (st.tm 3) ((dups ((repL eS ts.sS).take i)).map cDg)/\∀ i,i<mu.length->st.mu[i]?=mu[i]?) ?_ ?_
 .simp_all [go_sem,dups,OwnF.nil,qr]
 rintro i st P ⟨R,e4,I,U⟩;have a0:(dups ((repL eS ts.sS).take i)).length<=i:=zu (vE _) (List.length_take_le ..);generalize h3:st.tm 3=av at *
 by_cases o:i<ts.sS.length
 .have p:=UF eS ts.sS i o
  have wi:=zWk i;simp[go_sem,R,e4,o];refine fZ i (fun k st2=>st2.tm 1 = .ip (cTS ts)/\st2.tm 4=aI i/\st2.tm 3=av/\st2.tm 6=aI k/\st2.tm 5=aB ((ts.sS.take k).any fun y=>eS ts.sS[i] y)/\st2.mu=st.mu) ?_ ?_
  .simp [go_sem, *]
  rintro k st2 hk ⟨f1,f4,f3,f6,f5,C⟩;generalize hT:(ts.sS.take k).any (fun y=>eS ts.sS[i] y)=T at *
  by_cases r:k<i
  .have t:k<ts.sS.length:=by omega
   have wk:=zWk k;have g:=YQ (fun y=>eS ts.sS[i] y) ts.sS k t;rw[hT]at g;simp[go_sem,f4,f6,r];refine aQ zKr ?_;cases T with
   |true =>
    simp_all[go_sem,Bool.true_or,aK]
   |false =>
    rw[Bool.false_or]at g;by_cases hq:ts.sS[k].1=ts.sS[i].1
    .simp_all [go_sem,eS,decide_eq_true,aK]
    .have j:(ts.sS.take (k+1)).any (fun y=>eS ts.sS[i] y)=false:=by rw[g];exact decide_eq_false fun e=>hq e.symm
     simp_all[go_sem,j7,aK]
  .have a1:k=i:=by omega
   subst a1;rw[hT]at p;cases T with
   |true =>
    simp[go_sem,f4,f3,f6,f5,C];refine vI (ys:=[(41,0)]) I (by simp[qE]) zSo fun a7 m' a2 a3=>?_
    simp[go_sem,f4,wi];exact⟨o,aK ⟨zS1 f1,zSi,by rw[p,wM,vg,if_pos rfl];simpa[go_sem] using a2,by simp only[jz];exact fun i P=>(a3 i P).trans (U i P)⟩⟩
   |false =>
    simp[go_sem,f4,f6,f5,C,wi];exact⟨o,aK ⟨zS1 f1,zSi,by rw[p,wM,vg,if_neg zSp,zA];simpa[go_sem,f3,C] using I,by simp only[jz];exact U⟩⟩
 .have a4:i=ts.sS.length:=by omega
  subst a4;rw[zi (by rw[vC];exact qr _)]at I;simp[go_sem,R,e4];generalize a8:dups (repL eS ts.sS)=a5 at *
  have ad:a5.length<=4:=by rw[<-a8];exact zu (vE _) (by rw[vC];exact a6)
  refine fZ ts.sA.length (fun i st=>st.tm 1 = .ip (cTS ts)/\st.tm 7=aI i/\OwnF mu.length st.mu 2 (st.tm 3) ((a5++dups ((repL eF ts.sA).take i)).map cDg)/\∀ i,i<mu.length->st.mu[i]?=mu[i]?) ?_ ?_
  .exact ⟨zS1 R,zSi,by simpa[go_sem,dups,h3] using I,zVs U⟩
  clear a0 I U R e4 h3 o P st;rintro i st P ⟨R,e4,I,U⟩;have a0:(dups ((repL eF ts.sA).take i)).length<=i:=zu (vE _) (List.length_take_le ..);generalize h3:st.tm 3=a9 at *
  by_cases o:i<ts.sA.length
  .have p:=UF eF ts.sA i o
   have wi:=zWk i;simp[go_sem,R,e4,o];refine fZ i (fun k st2=>st2.tm 1 = .ip (cTS ts)/\st2.tm 7=aI i/\st2.tm 3=a9/\st2.tm 9=aI k/\st2.tm 8=aB ((ts.sA.take k).any fun y=>eF ts.sA[i] y)/\st2.mu=st.mu) ?_ ?_
   .exact ⟨zS1 R,zS1 e4,zS1 h3,zSi,zSi,zSi⟩
   rintro k st2 hk ⟨f1,f4,f3,f6,f5,C⟩;generalize hT:(ts.sA.take k).any (fun y=>eF ts.sA[i] y)=T at *
   by_cases r:k<i
   .have t:k<ts.sA.length:=by omega
    have wk:=zWk k;have g:=YQ (fun y=>eF ts.sA[i] y) ts.sA k t;rw[hT]at g;have ae:=h.fl _ (qo t);have aa:=qa4 ts.sA[k].sS ts.sA[i].sS zOm;simp[go_sem,f4,f6,r];refine aQ zKr ?_;cases T with
    |true =>
     rw[Bool.true_or]at g;simp[go_sem,f6,f5,r,wk];exact aK ⟨zS1 f1,zS1 f4,zS1 f3,zSi,by rw[g];simp[go_sem],zS1 C⟩
    |false =>
     rw[Bool.false_or]at g;by_cases hq:ts.sA[k].name=ts.sA[i].name
     .simp [go_sem,f1,f4,f6,f5,t,o,hq]
      refine cA aa (.zk (qM _) (.zk (qM _) .nil)) ?_;by_cases J:ts.sA[k].sS=ts.sA[i].sS
      .have j:(ts.sA.take (k+1)).any (fun y=>eF ts.sA[i] y)=true:=by rw[g];simp[eF,hq.symm,J.symm]
       simp[go_sem,f6,r,wk,J];exact aK ⟨zS1 f1,zS1 f4,zS1 f3,zSi,by rw[j];simp[go_sem],zS1 C⟩
      .have j:(ts.sA.take (k+1)).any (fun y=>eF ts.sA[i] y)=false:=by rw[g];simp[eF,hq.symm];exact fun e=>J e.symm
       simp[go_sem,f6,r,wk,J];exact aK ⟨zS1 f1,zS1 f4,zS1 f3,zSi,by rw[j];simp[go_sem],zS1 C⟩
     .have j:(ts.sA.take (k+1)).any (fun y=>eF ts.sA[i] y)=false:=by rw[g];simp[eF];exact fun e=>absurd e.symm hq
      simp[go_sem,f1,f4,f6,f5,r,t,o,wk,j7 hq];exact aK ⟨zS1 f1,zS1 f4,zS1 f3,zSi,by rw[j];simp[go_sem],zS1 C⟩
   .have a1:k=i:=by omega
    subst a1;rw[hT]at p;cases T with
    |true =>
     simp[go_sem,f4,f3,f6,f5,C];refine vI (ys:=[(41,0)]) I (by simp[qE]) zSo fun a7 m' a2 a3=>?_
     simp[go_sem,f4,wi];exact⟨o,aK ⟨zS1 f1,zSi,by rw[p,wM,vg,if_pos rfl,<-zJ];simpa[go_sem] using a2,by simp only[jz];exact fun i P=>(a3 i P).trans (U i P)⟩⟩
    |false =>
     simp[go_sem,f4,f6,f5,C,wi];exact⟨o,aK ⟨zS1 f1,zSi,by rw[p,wM,vg,if_neg zSp,zA];simpa[go_sem,f3,C] using I,by simp only[jz];exact U⟩⟩
  .have a4:i=ts.sA.length:=by omega
   subst a4;rw[zi (by rw[vC];exact qr _)]at I;simp[go_sem,R,e4,h3];exact⟨zUs I,U⟩
end
end QT
namespace QU
open YF Y9 Y10 Y1 Y2 Y15 Y16 YZ P1 P2 PA QD QI QK QT
theorem qe7{ts:TS}{i:Nat}(l:i<ts.sT.length):(∃ p:Nat,zh (ckR ts i) ts.sT[i].name=some p/\(ts.sT.take i).any (fun y=>eP ts.sT[i] y)=true)\/(zh (ckR ts i) ts.sT[i].name=none/\(ts.sT.take i).any (fun y=>eP ts.sT[i] y)=false):=by
 cases h:zh (ckR ts i) ts.sT[i].name with
 |some p =>
  left;refine⟨p,rfl,?_⟩;unfold zh at h;rw[List.findIdx?_eq_some_iff_getElem]at h;obtain⟨g,o,_⟩:=h;refine List.any_eq_true.2 ⟨_,qo g,?_⟩
  grind
 |none =>
  right;refine⟨rfl,?_⟩;unfold zh at h;rw[List.findIdx?_eq_none_iff]at h;rw[List.any_eq_false];intro x j;have:=h x j
  grind
theorem rdDg{lo:Nat}{mu:Mu}{av:AV}{xs:List Dg}(h:OwnF lo mu 2 av (xs.map cDg)):Rd mu av (lDg xs):=by
 refine h.1.rd (za.ok fun r g=>?_) fun r g c i=>?_
 .obtain ⟨n,_,rfl⟩:=qs.1 g
  exact⟨rfl,rfl⟩
 .obtain ⟨n,_,rfl⟩:=qs.1 g
  rcases qp.1 i with rfl|i
  .exact HF.sc _
  grind [qV,HF.sc]
theorem wN{lo sz:Nat}{mu:Mu}{av:AV}{xs:List (List AV)}(h:OwnF lo mu sz av xs)(c:Cell):OwnF lo (mu++[c]) sz av xs:=⟨VL h.1 c,h.2.1,by have:=h.2.2;simp;omega⟩
theorem qe8(ts:TS)(h:okTS ts)(wp:∀ p,p∈ts.sT->WfN p.body)(i:Nat)(U:i<ts.sT.length)(hd:depN ts.sT[i].body<=24):qd qb 78 [eTS ts,aI i] (lDg (jo ts i)):=by
 have a6:=h.pl _ (qo U);have ag:=h.np;have c1:=kU ts h wp i zOm ts.sT[i].params ⟨zOm,a6.2⟩ zOm ts.sT[i].body (wp _ (qo U)) hd;have c2:=YK (ckR ts i) (kS h zOm) ts.sT[i].name;have a7:=qe7 U;have hp:jo ts i=dups [(ts.sT.take i).any (fun y=>eP ts.sT[i] y)]++(dups (repL eM ts.sT[i].params)++rp (v5 (mkCk ts i) ts.sT[i].params ts.sT[i].body)):=by
  grind [jo,qq,K4]
 rw[hp];generalize hD:v5 (mkCk ts i) ts.sT[i].params ts.sT[i].body=D at *
 generalize hb:(ts.sT.take i).any (fun y=>eP ts.sT[i] y)=b at *
 have ah:(dups [b]).length<=1:=by grind [dups]
 refine qSU call78 func78 rfl ?_;refine aQ zKr ?_;simp[go_sem,U];refine cA c2 (.zk (qG _) (.zs (.zs .nil))) ?_;have wk:WKs [eTS ts,aI i,lPm ts.sT[i].params,eNd ts.sT[i].body] [eTS ts,aI i,lPm ts.sT[i].params,eNd ts.sT[i].body] := .zk (qG _) (.zs (.zk (Qw _) (.zk (zV _) .nil)));have af:=Xr;have fin:∀ st:St,True:=fun _=>trivial
 rcases a7 with ⟨p,hc,a0⟩|⟨hc,a0⟩
 case' inl =>
  subst a0;rw[hc];have a8:(0:Int)<=(p:Int):=zOm;simp[go_sem,idxO,a8];refine vI (lo:=0) (xs:=[]) (ys:=[(41,0)]) (OwnF.nil zSp) (by simp[qE]) zSp fun ai m0 aj _=>?_
  simp[go_sem,U]
 case' inr =>
  subst a0;rw[hc];simp[go_sem,idxO,U]
 all_goals
  generalize a9:ts.sT[i]=g at *
 case' inl =>
  refine fZ g.params.length (fun k st=>st.tm 2 = .ip (cTS ts)/\st.tm 1=aI i/\st.tm 6=lPm g.params/\st.tm 7=aI k/\OwnF 0 st.mu 2 (st.tm 5) ((dups [true]++dups ((repL eM g.params).take k)).map cDg)) ?_ ?_
  .simp_all [go_sem,dups]
 case' inr =>
  refine fZ g.params.length (fun k st=>st.tm 2 = .ip (cTS ts)/\st.tm 1=aI i/\st.tm 6=lPm g.params/\st.tm 7=aI k/\OwnF 0 st.mu 2 (st.tm 5) ((dups [false]++dups ((repL eM g.params).take k)).map cDg)) ?_ ?_
  .simp_all [go_sem,dups,OwnF.nil]
 all_goals
  rintro k st hk ⟨e2,e1,e6,e7,ho⟩;have a5:(dups ((repL eM g.params).take k)).length<=k:=zu (Y16.vE _) (List.length_take_le ..);generalize h5:st.tm 5=P at *
  by_cases C:k<g.params.length
  .have a1:=UF eM g.params k C
   have wi:=zWk k;simp[go_sem,e6,e7,C];refine fZ k (fun j st2=>st2.tm 2 = .ip (cTS ts)/\st2.tm 1=aI i/\st2.tm 6=lPm g.params/\st2.tm 7=aI k/\st2.tm 5=P/\st2.tm 9=aI j/\st2.tm 8=aB ((g.params.take j).any fun y=>eM g.params[k] y)/\st2.mu=st.mu) ?_ ?_
   .simp [go_sem, *]
   rintro j st2 hj ⟨f2,f1,f6,f7,f5,f9,f8,fm⟩;generalize hT:(g.params.take j).any (fun y=>eM g.params[k] y)=T at *
   by_cases a2:j<k
   .have a3:j<g.params.length:=by omega
    have wj:=zWk j;have r:=YQ (fun y=>eM g.params[k] y) g.params j a3;rw[hT]at r;simp[go_sem,f7,f9,a2];refine aQ zKr ?_;cases T with
    |true =>
     simp_all[go_sem,Bool.true_or,aK]
    |false =>
     rw[Bool.false_or]at r;by_cases hq:g.params[j].1=g.params[k].1
     .have o:(g.params.take (j+1)).any (fun y=>eM g.params[k] y)=true:=by rw[r];exact decide_eq_true hq.symm
      simp[go_sem,f6,f7,f9,f8,a2,a3,C,wj,hq];exact aK ⟨zS1 f2,zS1 f1,zS1 f6,zS1 f7,zS1 f5,zSi,by rw[o];simp[go_sem],zS1 fm⟩
     .have o:(g.params.take (j+1)).any (fun y=>eM g.params[k] y)=false:=by rw[r];exact decide_eq_false fun e=>hq e.symm
      simp[go_sem,f6,f7,f9,f8,a2,a3,C,wj,j7 hq];exact aK ⟨zS1 f2,zS1 f1,zS1 f6,zS1 f7,zS1 f5,zSi,by rw[o];simp[go_sem],zS1 fm⟩
   .have aa:j=k:=by omega
    subst aa;rw[hT]at a1;cases T with
    |true =>
     simp[go_sem,f7,f5,f9,f8,fm];refine vI (ys:=[(41,0)]) ho (by simp[qE]) zSo fun ab m' I ad=>?_
     simp[go_sem,f7,wi];exact⟨C,aK ⟨zS1 f2,zS1 f1,zS1 f6,zSi,by rw[a1,wM,<-zJ];simpa[go_sem,vg] using I⟩⟩
    |false =>
     simp[go_sem,f7,f9,f8,fm,wi];exact⟨C,aK ⟨zS1 f2,zS1 f1,zS1 f6,zSi,by rw[a1,wM];simpa[go_sem,vg,f5,fm] using ho⟩⟩
  .have ae:k=g.params.length:=by omega
   subst ae;rw[zi (by rw[vC];exact qr _)]at ho a5;simp[go_sem,e6,e7];refine aQ zKr ?_;simp[go_sem,e2,e1,e6,U,a9];refine cA c1 wk ?_;by_cases R:D.1=0
   .have a4:rp D=[]:=if_pos R
    rw[a4];simp[go_sem,h5,R];exact rdDg (wN ho _)
   .have a4:rp D=[D]:=if_neg R
    rw[a4];simp[go_sem,h5,R];refine vI (ys:=[D]) (wN ho _) (by simp[qE]) (by simp only[zc,List.length_singleton];omega) fun ab m' I ad=>?_
    simp[go_sem];rw[zJ]at I;exact rdDg I
theorem Qx(f:Nat->List Dg)(n:Nat):(qm (n+1)).flatMap f=(qm n).flatMap f++f n:=by
 rw[List.range_succ,List.flatMap_append];simp only[Je,List.flatMap_nil,zA]
theorem qe9(ts:TS)(h:okTS ts)(wp:∀ p,p∈ts.sT->WfN p.body)(wf:∀ f,f∈ts.sP->WfN f.2)(dp:∀ p,p∈ts.sT->depN p.body<=24)(df:∀ f,f∈ts.sP->depN f.2<=24):qd qb 37 [eTS ts] (lDg (Yn ts)):=by
 have aj:=h.np;have ak:=h.nfa;have hD:(dups (repL eS ts.sS)++dups (repL eF ts.sA)).length<=10:=by
  have a1:=Y16.vE (repL eS ts.sS);have a2:=Y16.vE (repL eF ts.sA);rw[vC]at a1 a2;have:=h.ns;have:=h.nf;rw[zc];omega
 have hC:Yn ts=(dups (repL eS ts.sS)++dups (repL eF ts.sA))++((qm ts.sT.length).flatMap (jo ts)++(qm ts.sP.length).flatMap (vD ts ts.sP)):=by
  unfold Yn;rw[zJ]
 rw[hC];have a8:=qe6 ts h [];generalize dups (repL eS ts.sS)++dups (repL eF ts.sA)=D0 at *
 refine qSU call37 func37 rfl ?_;refine fL a8 (fun r m hr=>?_) (fun r m hr=>?_)
 case refine_2 =>
  grind
 obtain⟨al,e,an,_⟩:=hr;cases e;simp[go_sem];refine fZ ts.sT.length (fun i st=>st.tm 1 = .ip (cTS ts)/\st.tm 4=aI i/\OwnF 0 st.mu 2 (st.tm 3) ((D0++(qm i).flatMap (jo ts)).map cDg)) ?_ ?_
 .simp_all [go_sem]
 rintro i st hi ⟨e1,e4,R⟩;have ai:=Y16.VU (jo ts) (Y16.X5 h) i;generalize h3:st.tm 3=P at *
 by_cases g:i<ts.sT.length
 .have j:=Qx (jo ts) i
  have ao:=Y16.X5 h i;have a9:=qe8 ts h wp i g (dp _ (qo g));have wi:=zWk i;generalize jo ts i=PD at *
  simp[go_sem,e1,e4,h3,g];refine fG a9 (.zk (qG ts) (.zs .nil)) ?_;refine vI (ys:=PD) R (by simp[qE]) (by simp only[zc];omega) fun aa m' a0 ab=>?_
  simp_all[go_sem,aK,zJ]
 .have a3:i=ts.sT.length:=by omega
  subst a3;simp[go_sem,e1,e4];generalize (qm ts.sT.length).flatMap (jo ts)=P0 at *
  refine fZ ts.sP.length (fun i st=>st.tm 1 = .ip (cTS ts)/\st.tm 5=aI i/\OwnF 0 st.mu 2 (st.tm 3) (((D0++P0)++(qm i).flatMap (vD ts ts.sP)).map cDg)) ?_ ?_
  .exact ⟨zS1 e1,zSi,by simpa[go_sem,h3] using R⟩
  clear R e1 e4 h3 g hi st;rintro i st hi ⟨e1,e4,R⟩;have ad:=Y16.VU (vD ts ts.sP) (Y16.qaW ts ts.sP) i;generalize h3:st.tm 3=ae at *
  by_cases g:i<ts.sP.length
  .have j:=Qx (vD ts ts.sP) i
   have af:vD ts ts.sP i=dups [(ts.sP.take i).any (fun y=>eA ts.sP[i] y)]++rp (uC ts [] ts.sP[i].2):=by
    unfold vD;rw[qq g];simp only;rw[K4,qq g]
   rw[af]at j;have cf:=qe5 ts h wp [] ⟨zSp,zSp⟩ zSp ts.sP[i].2 (wf _ (qo g)) (df _ (qo g));have wi:=zWk i;generalize uC ts [] ts.sP[i].2=D at *
   simp[go_sem,e1,e4,g];refine fZ i (fun k st2=>st2.tm 1 = .ip (cTS ts)/\st2.tm 5=aI i/\st2.tm 3=ae/\st2.tm 7=aI k/\st2.tm 6=aB ((ts.sP.take k).any fun y=>eA ts.sP[i] y)/\st2.mu=st.mu) ?_ ?_
   .exact ⟨zS1 e1,zS1 e4,zS1 h3,zSi,zSi,zSi⟩
   rintro k st2 hk ⟨f1,f4,f3,f6,f5,fm⟩;generalize hT:(ts.sP.take k).any (fun y=>eA ts.sP[i] y)=T at *
   by_cases U:k<i
   .have a4:k<ts.sP.length:=by omega
    have wk:=zWk k;have o:=YQ (fun y=>eA ts.sP[i] y) ts.sP k a4;rw[hT]at o;simp[go_sem,f4,f6,U];refine aQ zKr ?_;cases T with
    |true =>
     rw[Bool.true_or]at o;simp[go_sem,f6,f5,U,wk];exact aK ⟨zS1 f1,zS1 f4,zS1 f3,zSi,by rw[o];simp[go_sem],zS1 fm⟩
    |false =>
     rw[Bool.false_or]at o;by_cases hq:ts.sP[k].1=ts.sP[i].1
     .have C:(ts.sP.take (k+1)).any (fun y=>eA ts.sP[i] y)=true:=by rw[o];exact decide_eq_true hq.symm
      simp[go_sem,f1,f4,f6,f5,U,a4,g,wk,hq];exact aK ⟨zS1 f1,zS1 f4,zS1 f3,zSi,by rw[C];simp[go_sem],zS1 fm⟩
     .have C:(ts.sP.take (k+1)).any (fun y=>eA ts.sP[i] y)=false:=by rw[o];exact decide_eq_false fun e=>hq e.symm
      simp[go_sem,f1,f4,f6,f5,U,a4,g,wk,j7 hq];exact aK ⟨zS1 f1,zS1 f4,zS1 f3,zSi,by rw[C];simp[go_sem],zS1 fm⟩
   .have ag:k=i:=by omega
    subst ag;rw[hT]at j;have a5:WKs [eTS ts,.lst true [],eNd ts.sP[k].2] [eTS ts,lPm [],eNd ts.sP[k].2] := .zk (qG ts) (.cons (WK.lst fun r hr=>absurd hr zb) (.zk (zV _) .nil));have aq:=Xs;cases T with
    |true =>
     simp[go_sem,f4,f3,f6,f5,fm];refine vI (ys:=[(41,0)]) R (by simp[qE]) (by simp only[zc,List.length_singleton];omega) fun aa m' a0 ab=>?_
     simp[go_sem];refine aQ zKr ?_;simp[go_sem,f1,f4,g];refine cA cf a5 ?_;by_cases t:D.1=0
     .have I:rp D=[]:=if_pos t
      rw[I,zA]at j;simp[go_sem,f4,wi,t];exact⟨g,aK ⟨zS1 f1,zSi,by rw[j,<-zJ];simpa[go_sem,vg] using wN a0 (.arr [aI 0,aI D.2])⟩⟩
     .have I:rp D=[D]:=if_neg t
      rw[I]at j;simp[go_sem,t];refine vI (ys:=[D]) (wN a0 _) (by simp[qE]) (by simp only[zc,List.length_singleton];omega) fun a6 ah J a7=>?_
      simp[go_sem,f4,wi];exact⟨g,aK ⟨zS1 f1,zSi,by rw[j,<-zJ];simpa[go_sem,vg,zJ] using J⟩⟩
    |false =>
     simp[go_sem,f4,f6,f5,fm];refine aQ zKr ?_;simp[go_sem,f1,f4,g];refine cA cf a5 ?_;by_cases t:D.1=0
     .have I:rp D=[]:=if_pos t
      rw[I,zA]at j;simp[go_sem,f4,wi,t];exact⟨g,aK ⟨zS1 f1,zSi,by rw[j,<-zJ];simpa[go_sem,vg,f3] using wN R (.arr [aI 0,aI D.2])⟩⟩
     .have I:rp D=[D]:=if_neg t
      rw[I]at j;simp[go_sem,f3,t];refine vI (ys:=[D]) (wN R _) (by simp[qE]) (by simp only[zc,List.length_singleton];omega) fun a6 ah J a7=>?_
      simp[go_sem,f4,wi];exact⟨g,aK ⟨zS1 f1,zSi,by rw[j,<-zJ];simpa[go_sem,vg,zJ] using J⟩⟩
  .have a3:i=ts.sP.length:=by omega
   subst a3;simp[go_sem,e1,e4,h3];rw[zJ]at R;exact rdDg R
end QU
namespace PD
end PD
namespace PE
end PE
namespace PF
open P2 Y1 Y9 YZ YC YE Q2 Q4 PC PG
mutual
theorem UG:∀(n:Nd) (left:Int),cntT n<=left->cntN n left=cntT n
 | .mk op g i ks p,left,h=>by
  simp only[cntT,cntN]at h⊢;exact kV ks left 1 h
theorem kV:∀(ks:List Nd) (left sum:Int),sum+jq ks<=left->zN ks left sum=sum+jq ks
 | [],left,sum,h=>by simp only[jq,zN];omega
 |k :: ks,left,sum,h=>by
  simp only[jq,zN]at h⊢;have g:=K5 k;have i:=Uk ks;rw[if_pos zOm,UG k (left-sum) zOm,kV ks left _ zOm];omega
end
mutual
theorem kW:∀(n:Nd) (left:Int),cntN n left<=left->cntT n<=left
 | .mk op g i ks p,left,h=>by
  simp only[cntT,cntN]at h⊢;exact kX ks left 1 h
theorem kX:∀(ks:List Nd) (left sum:Int),zN ks left sum<=left->sum+jq ks<=left
 | [],left,sum,h=>by simp only[jq,zN]at h⊢;omega
 |k :: ks,left,sum,h=>by
  simp only[jq,zN]at h⊢;split at h
  .have i:=(VW ks left (sum+cntN k (left-sum))).1
   have g:cntN k (left-sum)<=left-sum:=zOm;have j:=UG k (left-sum) (kW k _ g);have l:=kX ks left _ h;omega
  .omega
end
theorem qfA{ks:List Nd}{d:Int}(g:0<=d)(h:∀ k,k∈ks->depN k<=d):jH ks<=d:=by
 induction ks with
 |nil=>grind [jH]
 |cons a l i =>
  grind [jH,q8,qJ]
theorem qfB{ks:List Nd}{g:Int}(h:∀ k,k∈ks->forN k g=true):jF ks g=true:=by
 induction ks with
 |nil=>rfl
 |cons a l i =>
  simp_all[jF,qi,q8,qJ]
theorem kY:∀(m:Nat) (n:Nd) (g:Int),szN n<=m->WfN n->OwnT n->depN n<=g->forN n g=true
 | 0,n,_,l,_,_,_=>by obtain⟨op,nm,i,ks,p⟩:=n;simp[szN]at l
 |m+1,n,g,l,o,r,t=>by
  have C:=kM n;rw[Yp,zIn,r n (qc1 n),Bool.true_and,qi];refine⟨?_,qfB fun k j=>kY m k (g-1) (zW1 (jC j)) (o.kid j) (r.kid j) ?_⟩
  .unfold fitB
   rw[decide_eq_true_eq];exact o.shape
  .have:=kL j
   rw[Yv]at t;omega
theorem kZ:∀(m:Nat) (n:Nd) (l:Int),szN n<=m->forN n l=true->OwnT n/\depN n<=l
 | 0,n,_,o,_=>by obtain⟨op,nm,i,ks,p⟩:=n;simp[szN]at o
 |m+1,n,l,o,h=>by
  rw[Yp]at h;split at h
  .cases h
  .rename_i I
   simp only[qi]at h;obtain⟨t,J,C⟩:=h;have r:=fun k (g:k∈n.sM)=>kZ m k (l-1) (zW1 (jC g)) (Ke C k g)
   refine⟨fun x j=>?_,?_⟩
   .rw [Uj]at j
    rcases qp.1 j with rfl|j
    .exact t
    .obtain ⟨k,g,j⟩:=qeG j
     exact(r k g).1 x j
   .rw [Yv]
    have:=qfA (ks:=n.sM) (d:=l-1) zOm fun k g=>(r k g).2
    omega
theorem k5{n:Nd}:zS n=true↔WfN n/\OwnT n/\cntT n<=400/\depN n<=24:=by
 constructor
 .intro h
  have l:=VX h;simp only[zS,qi,decide_eq_true_eq]at h;obtain⟨a,b⟩:=kZ (szN n) n 24 (qr _) h.2;simp_all[kW]
 .rintro ⟨g,i,o,j⟩
  simp only[zS,qi,decide_eq_true_eq];exact⟨by grind [UG],kY (szN n) n 24 (qr _) g i j⟩
end PF
set_option maxHeartbeats 1000000
namespace HU
open Y16 YF P1 QU E3 E9 Q8 GB G5 GR GW HF1 HJ HL HM PF
def vBs(ts:TS)(sc:Sc)(g:List Bd):Bool:=decide (g.length=ts.sA.length)&&(ts.sA.zip g).all fun p=>vB9 ts sc p.1 p.2
noncomputable def f33(ts:TS)(g:List Bd)(m:Md)(k:Nat):Bool:=
 QZ (spOf ts) m&&(decide (k<=30)&&(Yu ts m.sc g (yq (spOf ts) m.sc) (Yn ts) (vBs ts m.sc g)&&dec (MVal (spOf ts) m)))
structure F33 (ts:TS) (bs:List Bd) (m:Md):Prop where
 V:MVal (spOf ts) m
 S:wr (spOf ts) m
 nb:bs.length=ts.sA.length
 nf:ts.sA.length<=6
 a4:sumI m.sc.sC<=4
 vb:∀ i (h:i<ts.sA.length),vB9 ts m.sc ts.sA[i] (bs[i]' zOm)=true
 sz:∀ b,b∈bs->b.lo.ts.length<=64/\b.up.ts.length<=64
theorem qfC{p:Prop}(h:dec p=true):p:=Classical.byContradiction fun q=>by rw[jn q]at h;cases h
theorem Zm{ts:TS}{g:List Bd}{m:Md}{k:Nat}(h:f33 ts g m k=true):F33 ts g m/\k<=30:=by
 simp only[f33,Yu,qi,decide_eq_true_eq]at h;obtain⟨p,r,⟨l,t,R,C,I,T,o⟩,j⟩:=h;refine⟨⟨qfC j,wt.1 p,t,?_,I,fun i U=>?_,fun b J=>?_⟩,r⟩
 .simp only[zn,limB,qi,decide_eq_true_eq]at l
  exact l.1.1.1.2
 .simp only[vBs,qi,qu]at o
  have P:i<(ts.sA.zip g).length:=zSo;have:=o.2 _ (qo P);simpa using this
 .have:=qu.1 C b J
  simpa[tupB] using this
theorem uH(ts:TS)(r:∀ x,x∈ts.sS->x.1.size<=4611686018427387904)(i:List Bd)(m:Md)(l:List Ed):qd qb 17 [eTS ts,lBd i,eMd m,lEd l] (aB (f33 ts i m l.length)):=by
 refine qb4 ts i m l _ _ _ (XZ (spOf ts) m) (fun t=>?_) fun t P=>X1 (spOf ts) m (wt.1 t)
 have S:=wt.1 t;have j:yq (spOf ts) m.sc=true->GSc m.sc:=Ym;refine qb3 ts m.sc i _ _ _ (fun h=>?_) (fun h=>XY (spOf ts) m.sc (zW1 S.na)) (fun h=>QY m.sc (j h)) (fun h=>?_) fun h P C R h5 h6=>?_
 .simp only[zn,limB,qi,decide_eq_true_eq]at h
  omega
 .obtain ⟨ok,T,wf⟩:=qa8 h r
  simp only[zn,qi,qu]at h;exact qe9 ts ok T wf (fun p I=>(k5.1 (h.2.2.1 p I).2).2.2.2) (fun f hf=>(k5.1 (h.2.2.2 f hf)).2.2.2)
 .have g:=j C
  simp only[zn,limB,fldB,qi,decide_eq_true_eq,qu]at h;simp only[yq,qi,decide_eq_true_eq,qu]at C;obtain⟨⟨⟨⟨⟨o,a2⟩,a3⟩,a4⟩,U⟩,a6⟩:=C;have o:m.sc.sC.length=ts.sS.length:=o;refine qbZ ts m.sc i g (fun I=>?_) zOm (fun f hf=>?_) fun b hb=>?_
  .have hf:=h.2.1 _ (qo I)
   have h0:=hf.2 _ (qo (n:=0) zOm);have J:m.sc.sC≠[]:=fun e=>by rw[e]at o;simp at o;omega
   have:=V9 J fun a ha=>(U a ha).1
   omega
  .obtain ⟨⟨f1,f2⟩,f3⟩:=h.2.1 f hf
   exact⟨f1,f2,fun s r=>zW1 (f3 s r),qbP m.sc g f.sS f2,qbM _ _ _⟩
  .have:=qu.1 R b hb
   simp only[tupB,qi,decide_eq_true_eq]at this;omega
end HU
namespace HV
open Y1 P1 YF E3 EW GB GC GF GG GH JB JE JF JG HF1 HS HT
def tsR:TS:=tsH
def scR:Sc:=⟨[2],1⟩
def bsR:List Bd:=[⟨⟨1,[]⟩,⟨1,[0,1]⟩⟩]
def csR:List (List AV):=[[aI 0,aI 0,aI 0],[aI 0,aI 0,aI 1]]
def mR(l:List Int):Md:=⟨scR,[[⟨1,l⟩]],0⟩
def inR(k:Nat)(c:List (List AV)):Md:=⟨scR,[[⟨1,c.map rkH⟩]],k⟩
def k6:List (List AV×AV):=[([eSc scR,lI [0]],eRel ⟨1,[0,1]⟩)]
def k7:List (List AV×AV):=[([lBd bsR],lP [(0,0),(0,1)])]
def R0:List (us×yz):=[(194,Vz),(43,y9 (tabX k6)),(185,y9 (tabX k7))]
theorem vJ:uw qb (envL R0):=by
 refine V3 fun p g=>?_
 simp only[R0,qp,zb,or_false]at g;rcases g with rfl|rfl|rfl
 .exact mz
 .refine Qn (Qo fun p g=>?_)
  simp only[k6,qp,zb,or_false]at g;subst g;have:=fullU scR ⟨zDe,zDe⟩ zDe [0] (by intro s i;simp at i;subst i;decide) zDe zDe;exact this
 .refine Qn (Qo fun p g=>?_)
  simp only[k7,qp,zb,or_false]at g;subst g;have:=freeU bsR zDe (by intro x j;simp[bsR]at j;subst j;exact⟨zDe,zDe,zDe⟩);exact this
theorem uvR:qd qb 128 [eTS tsR,eSc scR] (aB true):=uI vJ (n:=1000) zKr
theorem bvR:qd qb 176 [eTS tsR,eSc scR,lBd bsR] (aB true):=uI vJ (n:=1000) zKr
theorem chR:qd qb 177 [eTS tsR,eSc scR,lBd bsR] (.lst false csR):=uI vJ (n:=1000) zKr
theorem qfD:∀ c,c∈subL [] csR->qd qb 179 [eTS tsR,eSc scR,lBd bsR,aI (0:Nat),.lst false c] (eMd (inR 0 c)):=by
 have h:(subL [] csR).all (fun c=>wA (envL R0) 1000 179 [eTS tsR,eSc scR,lBd bsR,aI (0:Nat),.lst false c] (eMd (inR 0 c)))=true:=zKr;exact fun c g=>uI vJ (qu.1 h c g)
def nOne:Nd := .mk 36 (bA []) 0 [nF] 0
def nsR:List Nd:=[nOne,qbO]
theorem inlR:∀ n,n∈nsR->qd qb 180 [eTS tsR,eNd n] (.tup [eNd n,aI 0]):=by
 have h:nsR.all (fun n=>wA (envL R0) 1000 180 [eTS tsR,eNd n] (.tup [eNd n,aI 0]))=true:=zKr;exact fun n g=>uI vJ (qu.1 h n g)
theorem instR:qd qb 158 [eTS tsR,eSc scR,lBd bsR] (.tup [lMd (yW inR csR 1),aI 0]):=
 qbE tsR scR bsR csR inR 1 rfl zOm (by
  intro r g;simp[csR]at g;rcases g with rfl|rfl<;>exact⟨rfl,rfl,fun x i=>by simp only[qp,zb,or_false]at i;rcases i with rfl|rfl|rfl<;>exact HF.sc _⟩) zDe zDe zDe uvR bvR chR fun k l c j=>by
   obtain rfl:k=0:=zOm;exact qfD c j
def inlTR:List (List AV×AV):=nsR.map fun n=>([eTS tsR,eNd n],.tup [eNd n,aI 0])
def hTR(n:Nd)(m:Md):Bool:=if n.op=36 then decide (((m.sK.getD 0 []).getD 0 ⟨0,[]⟩).ts.length=1) else false
def k8:List (List AV×AV):=nsR.flatMap fun n=>(subL [] csR).map fun c=>([eTS tsR,eMd (inR 0 c),eNd n],.tup [aB (hTR n (inR 0 c)),aI 0])
def k9:List (List AV×AV):=[([eTS tsR,eSc scR,lBd bsR],.tup [lMd (yW inR csR 1),aI 0])]
noncomputable def R1:List (us×yz):=(181,y9 (V4 R0)) :: (180,y9 (tabX inlTR)) :: R0
theorem qfE:∀ p,p∈R0->yK qb p.1 p.2:=fun p g=>by
 simp only[R0,qp,zb,or_false]at g;rcases g with rfl|rfl|rfl
 .exact vJ.1 _ _ zKr
 .exact vJ.1 _ _ zKr
 .exact vJ.1 _ _ zKr
theorem pa:∀ p,p∈R1->yK qb p.1 p.2:=
 wB (wB qfE (Ys zKr fun p g=>by
  obtain⟨n,i,rfl⟩:=qs.1 g;exact inlR n i)) (qbG vJ)
theorem holR:k8.all (fun p=>eqLi (eqV 64) (p.1.map (nV 64)) p.1&&wA (envL R1) 3000 159 p.1 p.2)=true:=by kernel_rfl
def appR:List (List Bd×List Ed×Except Int Sts):=[(bsR,[⟨1,0,0,1⟩,⟨2,0,0,0⟩],.ok [[⟨1,[1]⟩]]),(bsR,[⟨1,0,0,1⟩,⟨1,0,0,2⟩],.error 330),(bsR,[⟨1,0,1,2⟩],.error 1),([⟨⟨1,[0]⟩,⟨1,[0]⟩⟩],[⟨2,0,0,0⟩],.error 330)]
theorem qfF:∀ x,x∈appR->qd qb 14 [eTS tsR,lBd x.1,eMd (mR [0]),lEd x.2.1] (outA (mR [0]) x.2.2):=by
 intro x g;have i:ShpS 1 1 1000 (mR [0]).sK:=⟨⟨rfl,zDe,fun s f j hf=>by obtain rfl:s=0:=zOm;obtain rfl:f=0:=zOm;decide⟩,fun s f j hf=>by obtain rfl:s=0:=zOm;obtain rfl:f=0:=zOm;decide⟩;have h:=fun b l o p r=>KU tsR b (mR [0]) l o p i zDe zDe zDe r
 simp only[appR,qp,zb,or_false]at g;rcases g with rfl|rfl|rfl|rfl<;>exact h _ _ zDe zDe zDe
def difR:List (List Int×List Int×List Ed):=[([0],[1],[⟨2,0,0,0⟩,⟨1,0,0,1⟩]),([0,1],[1],[⟨2,0,0,0⟩]),([0,1],[0],[⟨2,0,0,1⟩])]
theorem qfG:∀ x,x∈difR->qd qb 12 [eMd (mR x.1),eMd (mR x.2.1)] (lEd x.2.2):=by
 intro x j;have o:∀ l:List Int,l.Pairwise (·<·)->l.length<=2->ShpS 1 1 1000 (mR l).sK:=fun l i p=>⟨⟨rfl,by intro st g;simp[mR]at g;subst g;rfl,fun s f r hf=>by obtain rfl:s=0:=zOm;obtain rfl:f=0:=zOm;exact i⟩,fun s f r hf=>by obtain rfl:s=0:=zOm;obtain rfl:f=0:=zOm;show l.length<=1000;omega⟩
 have h:=fun l k i p t C=>KZ (mR l) (mR k) 1 1 rfl rfl (show [2].length<=1000000 by decide) (o l i p) (o k t C) zDe zDe
 simp only[difR,qp,zb,or_false]at j;rcases j with rfl|rfl|rfl
 .have e:q9 1 1 (mR [0]).sK (mR [1]).sK=[⟨2,0,0,0⟩,⟨1,0,0,1⟩]:=by simp[q9,mR,getR,qO,List.range_succ]
  exact e ▸ h [0] [1] zDe zDe zDe zDe
 .have e:q9 1 1 (mR [0,1]).sK (mR [1]).sK=[⟨2,0,0,0⟩]:=by simp[q9,mR,getR,qO,List.range_succ]
  exact e ▸ h [0,1] [1] zDe zDe zDe zDe
 .have e:q9 1 1 (mR [0,1]).sK (mR [0]).sK=[⟨2,0,0,1⟩]:=by simp[q9,mR,getR,qO,List.range_succ]
  exact e ▸ h [0,1] [0] zDe zDe zDe zDe
def appT:List (List AV×AV):=appR.map fun x=>([eTS tsR,lBd x.1,eMd (mR [0]),lEd x.2.1],outA (mR [0]) x.2.2)
def difT:List (List AV×AV):=difR.map fun x=>([eMd (mR x.1),eMd (mR x.2.1)],lEd x.2.2)
noncomputable def R2:List (us×yz):=(14,y9 (tabX appT)) :: (12,y9 (tabX difT)) :: (158,y9 (tabX k9)) :: (159,y9 (tabX k8)) :: R1
theorem qfH:∀ p,p∈R2->yK qb p.1 p.2:=
 wB (wB (wB (wB pa (tabOf (V3 pa) 3000 holR)) (Ys zKr fun p g=>by
  simp only[k9,qV]at g;subst g;exact instR)) (Ys zKr fun p g=>by
  obtain⟨x,i,rfl⟩:=qs.1 g;exact qfG x i)) (Ys zKr fun p g=>by
  obtain⟨x,i,rfl⟩:=qs.1 g;exact qfF x i)
theorem YR:qd qb 16 [] (aB true):=uI (V3 qfH) (n:=3000) zKr
end HV
namespace HW
open YF P1 E1 E3 E9 GB GC GD GS HF1 HH HI HJ HO HS HT HU
section
variable {g i:List Bd}{m x y:Md}{ts:TS}
theorem jJ(F:F33 ts i m):ShpS m.sK.length ts.sA.length 1000 m.sK:=⟨KC F.V,fun s f g hf=>by
 have j:m.sK[s].length=ts.sA.length:=F.V.len s g;rw[zE g zOm];have:=(F.S.st s g).2 f zOm;omega⟩
theorem f_ap(F:F33 ts g m)(l:List Ed)(i:l.length<=20000):qd qb 14 [eTS ts,lBd g,eMd m,lEd l] (outA m (zm (vsT ts) m.sK.length ts.sA.length g l m.sK)):=
 KU ts g m l F.nb (fun x j=>zW1 (F.sz x j)) (jJ F) (zW1 F.S.nt) (zW1 F.nf) (zW1 F.S.na) i
theorem Zn{j:List Bd}(F:F33 ts j m){l:List Ed}{T:Sts}(h:zm (vsT ts) m.sK.length ts.sA.length j l m.sK = .ok T):F33 ts j { m with sK:=T }/\T.length=m.sK.length:=by
 obtain⟨p,rfl⟩:=Yb h;have:=qcA (sp:=spOf ts) F.V F.S F.a4 F.nb (fun i h=>qb9 (F.vb i h)) p;exact⟨⟨this.2,this.1,F.nb,F.nf,F.a4,F.vb,F.sz⟩,((jJ F).shp.eds (vs:=vsT ts) (l:=l)).len⟩
theorem f_eq(F:F33 ts g m)(x:Md):qd qb 26 [eMd m,eMd x] (aB (decide (m=x))):=
 Ky m x (zW1 F.S.na) (zW1 F.S.nt) fun s l=>by
  obtain⟨i,o,rfl⟩:=zX l;have h:=F.S.st i o;refine⟨zOm,fun r p=>?_⟩;obtain⟨j,t,rfl⟩:=zX p;have:=h.2 j t;omega
theorem UH(F:F33 ts g m):qd qb 18 [eTS ts,eMd m] (aB true):=by
 have h:=XZ (spOf ts) m
 rwa[wt.2 F.S]at h
theorem UI(F:F33 ts g m):qd qb 19 [eTS ts,eMd m] (aB true):=by
 have h:=X1 (spOf ts) m F.S
 rwa[X0 F.V]at h
theorem pb(F:F33 ts g m)(x:Md)(i:x.sc.sC.length<=1000000):qd qb 20 [eSc m.sc,eSc x.sc] (aB (decide (m.sc.sN=x.sc.sN/\m.sc.sC=x.sc.sC))):=
 VJ m.sc x.sc (zW1 F.S.na) i
theorem YT(F:F33 ts g m):qd qb 25 [lBd g,eMd m] (aB (cntB g m)):=
 qbY g m (zW2 F.nb F.nf) (zW1 F.S.nt) (fun b o=>⟨zW1 (F.sz b o),zW1 (F.sz b o),by
  obtain⟨i,l,rfl⟩:=zX o;have h:=F.vb i (zW1 F.nb);simp only[vB9,qi,decide_eq_true_eq]at h;exact vF h.2.2.2.1⟩) fun s p=>by
  obtain⟨i,l,rfl⟩:=zX p;have h:=F.S.st i l;have I:m.sK[i].length=ts.sA.length:=F.V.len i l;refine⟨zOm,fun r t=>?_⟩;obtain⟨j,C,rfl⟩:=zX t;have:=h.2 j C;exact⟨zOm,vF (F.V.cell i j l (by show j<ts.sA.length;omega)).2.1⟩
theorem UJ{C i:Type}{g:C->List i}{K:Nat}:∀{l:List C},(∀ x,x∈l->(g x).length<=K)->(l.flatMap g).length<=l.length*K
 | [],_=>zSp
 |x :: l,h=>by
  have o:=h x (q8 ..);have p:=UJ (l:=l) fun y j=>h y (qJ _ j)
  rw[Je,zc,zZ,Nat.succ_mul];omega
theorem f_n4(F:F33 ts g m):m.sK.length<=4:=by
 have h:=F.V.sc;have i:=F.V.ns;simp only[yq,qi,decide_eq_true_eq,qu]at h;omega
theorem uM(F:F33 ts i x)(G:F33 ts i y)(g:x.sc=y.sc):x.sK.length=y.sK.length:=by
 have j:=F.V.ns;have l:=G.V.ns;rw[g]at j;omega
theorem UK{j:List Bd}(F:F33 ts j x)(G:F33 ts j y)(i:x.sc=y.sc):(q9 x.sK.length ts.sA.length x.sK y.sK).length<=20000:=by
 have l:=f_n4 F;have o:=F.nf;have r:=uM F G i;have p:(q9 x.sK.length ts.sA.length x.sK y.sK).length<=(qm x.sK.length).length*((qm ts.sA.length).length*400):=UJ fun s g=>UJ fun f hf=>by
  simp only[List.mem_range]at g hf;have t:x.sK[s].length=ts.sA.length:=F.V.len s g;have C:(y.sK[s]' zOm).length=ts.sA.length:=G.V.len s zOm;have I:=(F.S.st s g).2 f zOm;have J:=(G.S.st s zOm).2 f zOm;have:=Uh s f (getR x.sK s f).ts (getR y.sK s f).ts;rw[zE g zOm,zE (by omega:s<y.sK.length) zOm]at this⊢;omega
 simp only[List.length_range]at p;have P:x.sK.length*(ts.sA.length*400)<=4*(6*400):=Nat.mul_le_mul l (Nat.mul_le_mul_right _ o);omega
theorem YY(F:F33 ts i x)(G:F33 ts i y)(g:x.sc=y.sc):qd qb 12 [eMd x,eMd y] (lEd (q9 x.sK.length ts.sA.length x.sK y.sK)):=by
 have l:=uM F G g;have j:=jJ G;rw[<-l]at j;exact KZ x y ts.sA.length x.sK.length (by rw[g]) (by rw[g]) (zW1 F.S.na) (jJ F) j (f_n4 F) (zW1 F.nf)
theorem pf(F:F33 ts i x)(G:F33 ts i y)(l:x.sc=y.sc)(p:cntB i y=true):zm (vsT ts) x.sK.length ts.sA.length i (q9 x.sK.length ts.sA.length x.sK y.sK) x.sK = .ok y.sK:=by
 have I:=uM F G l;have h:=(jJ F).shp;have k:=(jJ G).shp;have J:Fix (vsT ts) x.sK.length ts.sA.length x.sK:=Uc F.V;have r:Fix (vsT ts) y.sK.length ts.sA.length y.sK:=Uc G.V;rw[<-I]at k r;have g1:∀ s f (g:s<x.sK.length) (hf:f<ts.sA.length),getR x.sK s f=x.sK[s][f]'(by have:x.sK[s].length=ts.sA.length:=F.V.len s g;omega):=fun s f g hf=>zE g _
 have t:∀ s f (g:s<y.sK.length) (hf:f<ts.sA.length),getR y.sK s f=y.sK[s][f]'(by have:y.sK[s].length=ts.sA.length:=G.V.len s g;omega):=fun s f g hf=>zE g _
 rw[Qy,qaB h k J r]
 .intro s f g hf
  rw[g1 s f g hf,t s f zOm hf];exact(F.V.cell s f g hf).1.trans (G.V.cell s f zOm hf).1.symm
 .refine qaC h k F.nb fun s f hf g=>?_
  rw[t s f zOm hf];have j:s<y.sK.length:=zOm;have P:y.sK[s].length=ts.sA.length:=G.V.len s j;simp only[cntB,qu]at p;have C:=p _ (qo j);simp only[wthS,qi,decide_eq_true_eq,qu]at C;have R:=F.nb;have o:=C.2 ((i.zip y.sK[s])[f]' zSo) (qo _);simp only[List.getElem_zip,wthB,qi,decide_eq_true_eq,inOk,qu]at o;exact⟨o.2.2.1,o.2.2.2⟩
end
end HW
set_option maxHeartbeats 1000000
namespace W63
open YF P1 E3 F1 GB GC GS HF1 HI HS HU HV HW
theorem undoW(ts:TS)(t:∀ x,x∈ts.sS->x.1.size<=4611686018427387904)(j:List Bd)(m:Md)(l:List Ed):qd qb 7 [eTS ts,lBd j,eMd m,lEd l] (aB true):=by
 refine qSU call7 func7 rfl ?_;refine fG YR .nil ?_;refine cA (uH ts t j m l) (.zk (qG _) (.zk (zC _) (.zk (qN _) (.zk (yN _) .nil)))) ?_;cases hf:f33 ts j m l.length with
 |false =>
  simp[go_sem];exact .zsc _
 |true =>
 obtain⟨F,hl⟩:=Zm hf;simp[go_sem];refine cA (YT F) (.zk (zC _) (.zk (qN _) .nil)) ?_;cases C:cntB j m with
 |false =>
  simp[go_sem];exact .zsc _
 |true =>
 simp[go_sem];refine cA (f_ap F l zOm) (.zk (qG _) (.zk (zC _) (.zk (qN _) (.zk (yN _) .nil)))) ?_;cases p:zm (vsT ts) m.sK.length ts.sA.length j l m.sK with
 |error x =>
  obtain⟨I,J⟩:=Yc p;rcases J with rfl|rfl<;>simp[go_sem,outA]<;>exact .zsc _
 |ok T =>
 obtain⟨i,P⟩:=Zn F p;have R:=YY i F rfl;have U:=UK i F rfl;have aD:=pf i F rfl C;have o:=f_ap i _ U;rw[aD]at o;have ho:outA { m with sK:=T } (.ok m.sK) = .tup [eMd m,aI 0]:=rfl;rw[ho]at o;have r:=f_eq F m;rw[decide_eq_true rfl]at r;rw[show outA m (.ok T) = .tup [eMd { m with sK:=T },aI 0] from rfl];generalize ({ m with sK:=T }:Md)=x at *
 generalize q9 x.sK.length ts.sA.length x.sK m.sK=k at *
 simp[go_sem];refine fG (UH i) (.zk (qG _) (.zk (qN _) .nil)) ?_;refine fG (UI i) (.zk (qG _) (.zk (qN _) .nil)) ?_;refine fP ?_;refine fG R (.zk (qN _) (.zk (qN _) .nil)) ?_;refine fG o (.zk (qG _) (.zk (zC _) (.zk (qN _) (.zk (yN _) .nil)))) ?_;refine fG r (.zk (qN _) (.zk (qN _) .nil)) ?_;exact .zsc _
end W63
namespace DL
open Go.EvW Go.RowKit Go.ChangeShapes Go.WideShapes
theorem own:ownKnob qb.godebug=none:=by kernel_rfl
theorem laid:laidOutB qb=true:=by kernel_rfl
abbrev tabL : List (String × DataW Unit) := [("math/bits.deBruijn32tab", Rows.laid_math_bits_deBruijn32tab), ("math/bits.deBruijn64tab", Rows.laid_math_bits_deBruijn64tab), ("internal/strconv.uint64pow10", Rows.laid_internal_strconv_uint64pow10)]
def pows:List Int:=[1,10,100,1000,10000,100000,1000000,10000000,100000000,1000000000,10000000000,100000000000,1000000000000,10000000000000,100000000000000,1000000000000000,10000000000000000,100000000000000000,1000000000000000000,10000000000000000000]
theorem gPow : qb.globalNamed "internal/strconv.uint64pow10" = some 0 := by kernel_rfl
theorem tPow:(qb.globals[0]?).map (·.type)=some 392:=by kernel_rfl
theorem uPow:qb.underlying 392=some (.array 20 349):=by kernel_rfl
theorem uU64:qb.underlying 349=some (.int .u64):=by kernel_rfl
theorem Y0{W:j2}(h:laidMetH qb tabL W):vN (·<W.heap.size) W.heap:=by
  rw[MakeChecks.laidMetH_plain _ _ _ zKr]at h;obtain⟨ps,C,_⟩:=h
  obtain ⟨g, t, l, o, p, I, J, P, R⟩ := K8 C ("internal/strconv.uint64pow10", Rows.laid_internal_strconv_uint64pow10) zSp
  obtain rfl:=Option.some.inj (gPow.symm.trans I);obtain rfl:=Option.some.inj (tPow.symm.trans J);have U:l.toList=pows.map fun i => .int .u64 i:=qc4 uPow uU64 zKr zKr (ns:=pows) R
  obtain⟨e,fr,r⟩:=qc5 gPow P;intro x j;have j:x∈[(0,pows.map fun i=>Value.int .u64 i)]:=j;rw[qV]at j;subst j;refine⟨(Array.getElem?_eq_some_iff.1 r).1,e,fr,?_⟩;show W.heap[0]?=_;rw[r];have:l=(pows.map fun i=>Value.int .u64 i).toArray:=by rw[<-U]
  rw[this]
theorem Ja(os:Os)(args:Array j3):laidMetH qb tabL ((World.doorLaid qb 4000 os).forCall (fun _ _=>0) ⟨#[],args,[]⟩).memory:=
 laidMetH_of_parts3 (fuel:=8) (laidMet_of_run' 8 zKr zKr) zKr zKr
end DL
namespace DM
open Go.EvW E3 DT
instance:Inhabited Rl:=⟨⟨0,[]⟩⟩
instance:Inhabited Sc:=⟨⟨[],0⟩⟩
instance:Inhabited Md:=⟨⟨default,[],0⟩⟩
theorem qfI:qb.underlying 60=some (.slice 62):=by kernel_rfl
theorem qfJ:qb.underlying 41=some (.slice 60):=by kernel_rfl
theorem UL(N:Nat):ShU qb N 62 cRel (fun _=>True):=
 ((ShU.struct (fs:=[(3,0),(28,1)]) zKr (.cons' (o':=1) zKr (jr N) (.cons' (o':=2) zKr (Un N) (.nil 2))) zKr).map
  (fun x=>(⟨x.1,x.2.1⟩:Rl)) (fun _=>rfl) (fun x h=>trivial)).le zOm
theorem qfK(N:Nat):ShU qb N 60 (fun b:List Rl=>[.lst false (b.map cRel)]) (fun _=>True):=
 ((ShU.slice qfI (UL N) (fun _ _=>zKr) (Nat.lt_of_lt_of_eq (show 0<2 by omega) zKr) zKr).le zOm).map (fun l=>l) (fun _=>rfl) fun _ _=>trivial
theorem qfL(N:Nat):ShU qb N 41 (fun b:List (List Rl)=>[lSt b]) (fun _=>True):=
 ((ShU.slice qfJ (qfK N) (fun _ _=>zKr) (Nat.lt_of_lt_of_eq (show 0<1 by omega) zKr) zKr).le zOm).map (fun l=>l) (fun _=>rfl) fun _ _=>trivial
theorem qfM(N:Nat):ShU qb N 30 (fun s:Sc=>[lI s.sC,aI s.sN]) (fun _=>True):=
 ((ShU.struct (fs:=[(28,0),(3,1)]) zKr (.cons' (o':=1) zKr (Un N) (.cons' (o':=2) zKr (jr N) (.nil 2))) zKr).map
  (fun x=>(⟨x.1,x.2.1⟩:Sc)) (fun _=>rfl) (fun x h=>trivial)).le zOm
theorem qfN(N:Nat):ShU qb N 43 cMd (fun _=>True):=
 ((ShU.struct (fs:=[(30,0),(41,2),(3,3)]) zKr (.cons' (o':=2) zKr (qfM N) (.cons' (o':=3) zKr (qfL N) (.cons' (o':=4) zKr (jr N) (.nil 4)))) zKr).map
  (fun x=>(⟨x.1,x.2.1,x.2.2.1⟩:Md)) (fun _=>rfl) (fun x h=>trivial)).le zOm
theorem Zo:jd qb 43 eMd (fun _=>True):=jd.struct zKr qfN
end DM
namespace HX
open Go.EvW DT DM GB HF1
instance:Inhabited Bd:=⟨⟨default,default⟩⟩
instance:Inhabited Ed:=⟨⟨0,0,0,0⟩⟩
theorem pg:qb.underlying 40=some (.slice 96):=by kernel_rfl
theorem ph:qb.underlying 48=some (.slice 78):=by kernel_rfl
theorem qfO(N:Nat):ShU qb N 96 cBd (fun _=>True):=
 ((ShU.struct (fs:=[(62,0),(62,2)]) zKr (.cons' (o':=2) zKr (UL N) (.cons' (o':=4) zKr (UL N) (.nil 4))) zKr).map
  (fun x=>(⟨x.1,x.2.1⟩:Bd)) (fun _=>rfl) (fun x h=>trivial)).le zOm
theorem qfP(N:Nat):ShU qb N 40 (fun b:List Bd=>[lBd b]) (fun _=>True):=
 ((ShU.slice pg (qfO N) (fun _ _=>zKr) (Nat.lt_of_lt_of_eq (show 0<4 by omega) zKr) zKr).le zOm).map (fun l=>l) (fun _=>rfl) fun _ _=>trivial
theorem Jb:jd qb 40 lBd (fun _=>True):=jd.slice pg qfP
theorem qfQ(N:Nat):ShU qb N 78 cEd (fun _=>True):=
 ((ShU.struct (fs:=[(3,0),(3,1),(3,2),(3,3)]) zKr (.cons' (o':=1) zKr (jr N) (.cons' (o':=2) zKr (jr N) (.cons' (o':=3) zKr (jr N) (.cons' (o':=4) zKr (jr N) (.nil 4))))) zKr).map
  (fun x=>(⟨x.1,x.2.1,x.2.2.1,x.2.2.2.1⟩:Ed)) (fun _=>rfl) (fun x h=>trivial)).le zOm
theorem qfR(N:Nat):ShU qb N 48 (fun b:List Ed=>[lEd b]) (fun _=>True):=
 ((ShU.slice ph (qfQ N) (fun _ _=>zKr) (Nat.lt_of_lt_of_eq (show 0<4 by omega) zKr) zKr).le zOm).map (fun l=>l) (fun _=>rfl) fun _ _=>trivial
theorem Jc:jd qb 48 lEd (fun _=>True):=jd.slice ph qfR
end HX
set_option maxHeartbeats 1000000
namespace W60
open YF P1 E1 E3 E4 E9 F1 GB GS HF1 HG HI HJ HK HO HS HU HV HW
section
variable {m:Md}{ts:TS}
theorem qfS{g:List Bd}(F:F33 ts g m){s f:Nat}(i:s<m.sK.length)(hf:f<ts.sA.length)(h:f<m.sK[s].length):∃ U:List Int,U.length<=1000/\qd qb 22 [aI (sumI m.sc.sC),aI m.sK[s][f].ar] (eRel ⟨m.sK[s][f].ar,U⟩):=by
 have C:=(F.V.cell s f i hf).2.1;simp only[zy,qi,decide_eq_true_eq,qu]at C;have l:=C.1.1.1.1.1;have o:=C.1.1.1.2;have p:=C.1.1.2;have r:=F.a4;have j:0<=powI (sumI m.sc.sC) m.sK[s][f].ar/\powI (sumI m.sc.sC) m.sK[s][f].ar<=64:=by
  generalize sumI m.sc.sC=n at *
  generalize m.sK[s][f].ar=k at *
  rcases (show k=1\/k=2\/k=3 by omega) with rfl|rfl|rfl<;>rcases (show n=0\/n=1\/n=2\/n=3\/n=4 by omega) with rfl|rfl|rfl|rfl|rfl<;>decide
 exact⟨upto (powI (sumI m.sc.sC) m.sK[s][f].ar).toNat,by simp[upto];omega,qb2 _ _ _ zOm zOm zOm zOm⟩
theorem qfT{i:List Bd}{x:Md}{l:List Ed}(F:F33 ts i m)(F':F33 ts i x)(he:∀ e,e∈l->errE m.sK.length ts.sA.length i e=0)(t:x.sK=edsL (vsT ts) l m.sK)(R:cntB i m=true):cntB i x=true:=by
 have C:=(jJ F).shp;have hl:x.sK.length=m.sK.length:=by rw[t];exact(C.eds (vs:=vsT ts) (l:=l)).len
 simp only[cntB,qu]at R⊢;intro st I;obtain⟨s,J,rfl⟩:=zX I;have g:s<m.sK.length:=zOm;have h1:x.sK[s].length=ts.sA.length:=F'.V.len s J;have h2:m.sK[s].length=ts.sA.length:=F.V.len s g;have T:=R _ (qo g);simp only[wthS,qi,decide_eq_true_eq,qu]at T⊢;refine⟨zW1 F.nb,fun p hp=>?_⟩;obtain⟨f,hf,rfl⟩:=zX hp;have a0:f<i.length:=by simp at hf;omega
 have j:f<ts.sA.length:=zW1 F.nb;have r:=T.2 ((i.zip m.sK[s])[f]' zSo) (qo _);have U:=qcB (vs:=vsT ts) (l:=l) C F.nb he g j;have P:=Qz (vs:=vsT ts) (l:=l) g j C;rw[<-t,zE J zOm,zE g zOm]at U;change (getR (edsL (vsT ts) l m.sK) s f).ar=_ at P;rw[<-t,zE J zOm,zE g zOm]at P;simp only[List.getElem_zip,wthB,qi,decide_eq_true_eq]at r⊢;rw[P];exact⟨r.1,r.2.1,U r.2.2⟩
theorem qfU{I:List Bd}{x:Md}{l:List Ed}(F:F33 ts I m)(J:∀ e,e∈l->errE m.sK.length ts.sA.length I e=0)(P:x.sK=edsL (vsT ts) l m.sK)(T:l.length<=30){s f:Nat}(i:s<m.sK.length)(hf:f<ts.sA.length)(j:s<x.sK.length)(p:f<x.sK[s].length)(t:Int) :
  qd qb 24 [eTS ts,eMd m,lEd l,aI s,aI f,aI t] (aB (decide (t∈(x.sK[s][f]).ts))):=by
 have R:m.sK[s].length=ts.sA.length:=F.V.len s i;have h:=qbT ts m l s f t zOm hf (fun e r=>by
  have C:=J e r;unfold errE at C;by_cases q:(e.kind≠1/\e.kind≠2)\/e.state<0\/(m.sK.length:Int)<=e.state\/e.field<0\/(ts.sA.length:Int)<=e.field
  .rw [if_pos q]at C;exact absurd C zDe
  .omega) i zOm (vF (F.V.cell s f i hf).2.1) (by have:=(F.S.st s i).2 f (by omega);omega)
 have g:=we (vs:=vsT ts) (l:=l) (t:=t) i hf (jJ F).shp;change decide (t∈(getR (edsL (vsT ts) l m.sK) s f).ts)=_ at g;rw[<-P,zE j p,zE i zOm]at g;rw[g];exact h
theorem f_has{i:List Bd}(F:F33 ts i m){s f:Nat}(g:s<m.sK.length)(hf:f<ts.sA.length)(h:f<m.sK[s].length)(t:Int):qd qb 23 [eRel m.sK[s][f],aI t] (aB (decide (t∈m.sK[s][f].ts))):=
 VC _ t (zW1 ((F.S.st s g).2 f h)) (vF (F.V.cell s f g hf).2.1)
theorem qfV(ts:TS)(hs:∀ x,x∈ts.sS->x.1.size<=4611686018427387904)(bs:List Bd)(m:Md)(l:List Ed):qd qb 4 [eTS ts,lBd bs,eMd m,lEd l] (aB true):=by
 refine qSU call4 func4 rfl ?_;refine fG YR .nil ?_;refine cA (uH ts hs bs m l) (.zk (qG _) (.zk (zC _) (.zk (qN _) (.zk (yN _) .nil)))) ?_;cases hf:f33 ts bs m l.length with
 |false =>
  simp[go_sem];exact .zsc _
 |true =>
 obtain⟨F,hl⟩:=Zm hf;simp[go_sem];refine cA (f_ap F l zOm) (.zk (qG _) (.zk (zC _) (.zk (qN _) (.zk (yN _) .nil)))) ?_;cases ha:zm (vsT ts) m.sK.length ts.sA.length bs l m.sK with
 |error x =>
  obtain⟨ab,hx⟩:=Yc ha;have hp:=List.length_pos_iff.2 ab;rcases hx with rfl|rfl<;>simp[go_sem,outA,hp]<;>exact .zsc _
 |ok T =>
 obtain⟨F',ad⟩:=Zn F ha;obtain⟨he,hT⟩:=Yb ha;rw[show outA m (.ok T) = .tup [eMd { m with sK:=T },aI 0] from rfl];have R:({ m with sK:=T }:Md).sc=m.sc:=rfl;have a8:({ m with sK:=T }:Md).loop=m.loop:=rfl;have a5:({ m with sK:=T }:Md).sK=T:=rfl;generalize ({ m with sK:=T }:Md)=x at *
 have a9:=pb F' m (zW1 F.S.na);rw[R]at a9;simp[go_sem];refine fG (UH F') (.zk (qG _) (.zk (qN _) .nil)) ?_;refine cA (UI F') (.zk (qG _) (.zk (qN _) .nil)) ?_;simp[go_sem,R,a8];refine cA a9 (.zk (qX _) (.zk (qX _) .nil)) ?_;simp[go_sem,R];refine fG (QY m.sc (Ym F.V.sc)) (.zk (qX _) .nil) ?_;refine fZ m.sK.length (fun s st=>st.tm 1=lBd bs/\st.tm 3=lEd l/\st.tm 4 = .ip (cTS ts)/\st.tm 6 = .ip (cMd m)/\st.tm 9=aB true/\st.tm 10 = .ptr 0 0/\st.mu[0]?=some (.arr (cMd x))/\st.tm 13=aI (sumI m.sc.sC)/\st.tm 14=aI s) ?_ ?_
 .exact ⟨zSi,zSi,zSi,zSi,zSi,zSi,zS2 R a8,zSi,zSi⟩
 rintro s st ae ⟨e1,e3,e4,e6,P,g,C,p,j⟩;have aa:x.sK.length=m.sK.length:=by rw[a5,ad]
 by_cases a6:s<m.sK.length
 case neg =>
  have a0:s=m.sK.length:=zOm;subst a0;simp[go_sem,C,e1,e6,P,g,j,aa];refine cA (YT F) (.zk (zC _) (.zk (qN _) .nil)) ?_;simp[go_sem,C,e1,P,g];refine cA (YT F') (.zk (zC _) (.zk (qN _) .nil)) ?_;simp[go_sem,P];have a7:=qfT F F' he (a5.trans hT);cases hc:cntB bs m with
  |false=>simp[go_sem,P];exact .zsc _
  |true=>simp[go_sem,P,a7 hc];exact .zsc _
 have I:s<x.sK.length:=zOm;have a3:x.sK[s].length=ts.sA.length:=F'.V.len s I;simp[go_sem,C,g,j,aa,a6];refine fZ ts.sA.length (fun f st=>st.tm 1=lBd bs/\st.tm 3=lEd l/\st.tm 4 = .ip (cTS ts)/\st.tm 6 = .ip (cMd m)/\st.tm 9=aB true/\st.tm 10 = .ptr 0 0/\st.mu[0]?=some (.arr (cMd x))/\st.tm 13=aI (sumI m.sc.sC)/\st.tm 14=aI s/\st.tm 15=aI f) ?_ ?_
 .exact ⟨zS1 e1,zS1 e3,zS1 e4,zS1 e6,zS1 P,zS1 g,zS1 C,zS1 p,zS1 j,zSi⟩
 clear e1 e3 e4 e6 P g C p j st;rintro f st af ⟨e1,e3,e4,e6,P,g,C,p,j,r⟩;by_cases J:f<ts.sA.length
 case neg =>
  have a0:f=ts.sA.length:=zOm;subst a0;have w1:qx.wrap ((s:Int)+1)=(s:Int)+1:=yi zOm (zW1 F.S.nt);simp[go_sem,C,g,j,r,I,a3,w1]
  try refine⟨a6,aK ?_⟩
  exact⟨zS1 e1,zS1 e3,zS1 e4,zS1 e6,zS1 P,zS1 g,zS1 C,zS1 p,zSi⟩
 obtain⟨U,hU,cU⟩:=qfS F' I J zOm;rw[R]at cU;have cH:=fun t=>f_has F' I J zOm t
 have cW:=fun t=>qfU F he (a5.trans hT) hl a6 J I zOm t
 simp[go_sem,C,g,p,j,r,I,a3,J];refine cA cU (.zs (.zs .nil)) ?_;simp[go_sem,C,g,p,j,r,I,a3,J];refine fZ U.length (fun i st=>st.tm 1=lBd bs/\st.tm 3=lEd l/\st.tm 4 = .ip (cTS ts)/\st.tm 6 = .ip (cMd m)/\st.tm 9=aB true/\st.tm 10 = .ptr 0 0/\st.mu[0]?=some (.arr (cMd x))/\st.tm 13=aI (sumI m.sc.sC)/\st.tm 14=aI s/\st.tm 15=aI f/\(∃ L,st.tm 16 = .ptr L 0/\st.mu[L]?=some (.arr [aI x.sK[s][f].ar,lI U]))/\st.tm 17=aI i) ?_ ?_
 .refine ⟨zS1 e1,zS1 e3,zS1 e4,zS1 e6,zS1 P,zS1 g,?_,zS1 p,zS1 j,zS1 r,⟨st.mu.length,zSi,zSi⟩,zSi⟩
  have h0:0<st.mu.length:=by
   by_cases h:0<st.mu.length
   .exact h
   .rw [je zOm]at C;cases C
  simp[go_sem,qT,h0];rw[qq h0]at C;exact Option.some.inj C
 clear e1 e3 e4 e6 P g C p j r st;rintro i st ag ⟨e1,e3,e4,e6,P,g,C,p,j,r,⟨L,a1,eL⟩,a2⟩;by_cases a4:i<U.length
 case neg =>
  have a0:i=U.length:=zOm;subst a0;have w1:qx.wrap ((f:Int)+1)=(f:Int)+1:=yi zOm (zW1 F.nf);simp[go_sem,C,g,j,r,a1,a2,eL,w1]
  try refine⟨J,aK ?_⟩
  exact⟨zS1 e1,zS1 e3,zS1 e4,zS1 e6,zS1 P,zS1 g,zS1 C,zS1 p,zS1 j,zSi⟩
 have w1:=zWk i;simp[go_sem,a1,a2,eL,a4];refine aQ zKr ?_;simp[go_sem,C,g,j,r,a1,a2,eL,I,a3,J,a4];refine fG (cH U[i]) (.zk (zK _) (.zs .nil)) ?_;refine aQ zKr ?_;simp[go_sem,e3,e4,e6,j,r,a1,a2,eL,a4];refine cA (cW U[i]) (.zk (qG _) (.zk (qN _) (.zk (yN _) (.zs (.zs (.zs .nil)))))) ?_;simp[go_sem,a2,w1]
 try refine⟨a4,aK ?_⟩
 exact⟨zS1 e1,zS1 e3,zS1 e4,zS1 e6,zS1 P,zS1 g,zS1 C,zS1 p,zS1 j,zS1 r,⟨L,zS1 a1,by simp[go_sem,eL]⟩,zSi⟩
end
end W60
set_option maxHeartbeats 1000000
namespace W62
open YF P1 E3 F1 GA GB GC GD HF1 HI HJ HO HS HU HV HW
section
variable {ts:TS}
theorem pi{C j:Type}{f:C->C->Int}{g:Nat->List j}{xs ys:List C}(i:xs.length=ys.length)(h:∀ k (o:k<xs.length) (p:k<ys.length),((g k).length:Int)=f xs[k] ys[k]):(((qm xs.length).flatMap g).length:Int)=sumZ f xs ys:=by
 have:∀ k,k<=xs.length->(((qm k).flatMap g).length:Int)=sumZ f (xs.take k) (ys.take k):=fun k r=>by
  induction k with
  |zero=>simp[sumZ]
  |succ k l =>
   rw[List.range_succ,List.flatMap_append,zc,Yh f xs ys k zOm zOm,<-l zOm,<-h k zOm zOm];simp
 have h:=this xs.length (qr _)
 rwa[zt,i,zt,<-i]at h
theorem qfW{l:List Bd}{x y:Md}(F:F33 ts l x)(G:F33 ts l y)(g:x.sc=y.sc):((q9 x.sK.length ts.sA.length x.sK y.sK).length:Int)=xorS x.sK y.sK:=by
 refine pi (uM F G g) fun s i j=>?_
 have o:x.sK[s].length=ts.sA.length:=F.V.len s i;have r:y.sK[s].length=ts.sA.length:=G.V.len s j;rw[<-o];refine pi (f:=xorR) (o.trans r.symm) fun f g1 t=>?_
 rw[zE i g1,zE j t];have s1:=vF (F.V.cell s f i (by show f<ts.sA.length;omega)).2.1;have p:=vF (G.V.cell s f j (by show f<ts.sA.length;omega)).2.1;rw[wh s1 p,xorR,mX (s1.imp fun h e=>zOm) (p.imp fun h e=>zOm)];omega
theorem pj{o:List Bd}{m:Md}(F:F33 ts o m):SmS m.sK:=⟨zW1 F.S.nt,fun s l=>by
  obtain⟨i,g,rfl⟩:=zX l;have:=(F.S.st i g).1;omega,fun s l r p=>by
  obtain⟨i,g,rfl⟩:=zX l;obtain⟨j,t,rfl⟩:=zX p;have C:m.sK[i].length=ts.sA.length:=F.V.len i g;have:=(F.S.st i g).2 j t;exact⟨zOm,vF (F.V.cell i j g (by show j<ts.sA.length;omega)).2.1⟩⟩
theorem qfX{o:List Bd}{x y:Md}(F:F33 ts o x)(G:F33 ts o y)(g:x.sc=y.sc):qd qb 13 [eMd x,eMd y] (aI (((q9 x.sK.length ts.sA.length x.sK y.sK).length:Int)+(if x.loop=y.loop then 0 else 1))):=by
 have h:=qaG x y (pj F) (pj G) (zW1 F.S.na);have p:yg (fun x y:List Rl=>decide (x.length=y.length)) x.sK y.sK=true:=by
  have i:=uM F G g;have:∀(S T:Sts),S.length=T.length->(∀ k (j:k<S.length) (l:k<T.length),S[k].length=T[k].length)->yg (fun x y:List Rl=>decide (x.length=y.length)) S T=true:=fun S=>by
   induction S with
   |nil=>intro T i _;cases T with
    |nil=>rfl
    |cons=>simp at i
   |cons a S r=>intro T i h;cases T with
    |nil=>simp at i
    |cons b T =>
     have t:=h 0 zSp zSp;rw[yg,r T (zUs i) fun k j l=>h (k+1) zSo zSo];simpa using t
  exact this _ _ i fun k j l=>(F.V.len k j).trans (G.V.len k l).symm
 rw[Yj,g,p,<-qfW F G g]at h;simpa using h
theorem qfY(l:List Ed):oppL l=l.map oppE:=by simp[oppL,oppE]
theorem diffW(ts:TS)(R:∀ x,x∈ts.sS->x.1.size<=4611686018427387904)(i:List Bd)(x y:Md):qd qb 6 [eTS ts,lBd i,eMd x,eMd y] (aB true):=by
 have T:WK (.lst true []) (lEd []):=WK.lst fun r hr=>absurd hr zb
 refine qSU call6 func6 rfl ?_;refine fG YR .nil ?_;refine cA (uH ts R i x []) (.zk (qG _) (.zk (zC _) (.zk (qN _) (.cons T .nil)))) ?_;cases C:f33 ts i x ([]:List Ed).length with
 |false =>
  simp[go_sem];exact .zsc _
 |true =>
 obtain⟨F,_⟩:=Zm C;simp[go_sem];refine cA (uH ts R i y []) (.zk (qG _) (.zk (zC _) (.zk (qN _) (.cons T .nil)))) ?_;cases I:f33 ts i y ([]:List Ed).length with
 |false =>
  simp[go_sem];exact .zsc _
 |true =>
 obtain⟨G,_⟩:=Zm I;simp[go_sem];refine cA (pb F y (zW1 G.S.na)) (.zk (qX _) (.zk (qX _) .nil)) ?_;by_cases j:x.sc.sN=y.sc.sN/\x.sc.sC=y.sc.sC
 case neg =>
  rw[decide_eq_false j];simp[go_sem];exact .zsc _
 rw[decide_eq_true j];have g:x.sc=y.sc:=by
  obtain⟨⟨a1,b1⟩,c1,d1⟩:=x;obtain⟨⟨a2,b2⟩,c2,d2⟩:=y;simp only at j⊢;rw[j.1,j.2]
 simp[go_sem];refine cA (YT G) (.zk (zC _) (.zk (qN _) .nil)) ?_;cases hc:cntB i y with
 |false =>
  simp[go_sem];exact .zsc _
 |true =>
 have c1:=YY F G g;have c2:=YY G F g.symm;have c3:=qfX F G g;have c4:=YY F F rfl;rw[qaA]at c4;have l1:=UK F G g;have l2:=UK G F g.symm;have J:=pf F G g hc;have c5:=f_ap F _ l1;rw[J]at c5;have U:({ x with sK:=y.sK }:Md)={ y with loop:=x.loop }:=by
  obtain⟨sc,c1,d1⟩:=x;obtain⟨a0,c2,d2⟩:=y;simp only at g⊢;rw[g]
 have ho:outA x (.ok y.sK) = .tup [eMd { y with loop:=x.loop },aI 0]:=by rw[<-U];rfl
 rw[ho]at c5;have F':=(Zn F J).1;rw[U]at F';have c6:=f_eq F' { y with loop:=x.loop };rw[decide_eq_true rfl]at c6;have o:oppL (q9 x.sK.length ts.sA.length x.sK y.sK)=q9 y.sK.length ts.sA.length y.sK x.sK:=by
  rw[qfY,m9,uM F G g]
 have p:∀ e,e∈q9 x.sK.length ts.sA.length x.sK y.sK->0<=e.kind/\e.kind<=3:=fun e he=>by
  have hk:=(jJ G).shp;rw[<-uM F G g]at hk;obtain⟨s,f,_,_,_,h⟩:=(QP (jJ F).shp hk).1 he;omega
 have c7:=qbR _ zOm p;rw[o]at c7;have c8:=qbQ (q9 y.sK.length ts.sA.length y.sK x.sK) (q9 y.sK.length ts.sA.length y.sK x.sK) zOm zOm;rw[decide_eq_true rfl]at c8;clear p o J ho;generalize q9 x.sK.length ts.sA.length x.sK y.sK=l at *
 generalize q9 y.sK.length ts.sA.length y.sK x.sK=k at *
 have w1:qx.wrap ((l.length:Int)+1-1)=l.length:=by rw[zWr];omega
 simp[go_sem];refine fG c1 (.zk (qN _) (.zk (qN _) .nil)) ?_;refine fG c2 (.zk (qN _) (.zk (qN _) .nil)) ?_;refine cA c3 (.zk (qN _) (.zk (qN _) .nil)) ?_;have wz:WK (.agg [lI y.sc.sC,aI y.sc.sN,lSt y.sK,aI x.loop]) (eMd { y with loop:=x.loop }) := .hf (qN { y with loop:=x.loop });have w2:qx.wrap (l.length:Int)=l.length:=zWr;by_cases P:x.loop=y.loop<;>simp[go_sem,P,w1,w2]
 all_goals
  refine fG c7 (.zk (yN _) .nil) ?_;refine fG c8 (.zk (yN _) (.zk (yN _) .nil)) ?_;refine fG c5 (.zk (qG _) (.zk (zC _) (.zk (qN _) (.zk (yN _) .nil)))) ?_;refine fG c6 (.cons wz (.cons wz .nil)) ?_;refine fG c4 (.zk (qN _) (.zk (qN _) .nil)) ?_;exact .zsc _
end
end W62
set_option maxHeartbeats 1000000
namespace W61
open YF P1 E3 EO F1 F4 GB GF GR GS HF1 HH HP HS HU HV HW
theorem qfZ(ts:TS)(hs:∀ x,x∈ts.sS->x.1.size<=4611686018427387904)(C:List Bd)(m:Md)(k l:List Ed)(aa:k.length+l.length<=4294967296):qd qb 5 [eTS ts,lBd C,eMd m,lEd k,lEd l] (aB true):=by
 refine qSU call5 func5 rfl ?_;refine fG YR .nil ?_;refine qI.ownB (e:=78) (sz:=4) (bt:=32) (zv := .agg [aI 0,aI 0,aI 0,aI 0]) (xs:=[]) (ys:=k.map cEd) zSi zSi zSi rfl rfl zOm zOm (.inl rfl) (by simp[qE]) (jp []) (jp k) zSo ?_;intro P ab o1 _ _ _;simp[go_sem];refine qI.ownB (e:=78) (sz:=4) (bt:=32) (zv := .agg [aI 0,aI 0,aI 0,aI 0]) (xs:=k.map cEd) (ys:=l.map cEd) zSi zSi zSi rfl rfl zOm zOm o1 (by simp[qE]) (jp k) (jp l) zSo ?_;intro aw o o2 _ _ _;rw[<-List.map_append]at o2;have a8:Rd o aw (lEd (k++l)):=o2.rd (jp _).ok fun r hr c R=>by
  obtain⟨e,_,rfl⟩:=qs.1 hr;simp at R;rcases R with rfl|rfl|rfl|rfl<;>exact HF.sc _
 have a1:∀ c:Cell,∃ b,b≠o.length/\Rd (cutM (fun j=>j == b) (o++[c]) 0) aw (lEd (k++l)):=fun c=>by
  have I:∀ r,r∈(k++l).map cEd->∀ c,c∈r->HF c:=fun r hr c R=>by
   obtain⟨e,_,rfl⟩:=qs.1 hr;simp at R;rcases R with rfl|rfl|rfl|rfl<;>exact HF.sc _
  rcases o2 with h|⟨b,h,R⟩
  .rw [h]
   exact⟨o.length+1,zOm,.wk _ true _ (.hf _ (HF.lst I))⟩
  .have hb:=(qn.1 R).1
   exact⟨b,zOm,Own.rd (.inr ⟨b,h,by rw[Xj,qT hb];exact R⟩) (jp _).ok I⟩
 simp[go_sem];refine fB (uH ts hs C m (k++l)) ⟨.hf _ (qG _),.hf _ (zC _),.hf _ (qN _),a8,trivial⟩ (FL.sc _) ?_;cases hf:f33 ts C m (k++l).length with
 |false =>
  simp[go_sem];exact .zsc _
 |true =>
 obtain⟨F,hl⟩:=Zm hf;have ad:k.length+l.length<=30:=zUs hl;have U:=f_ap F (k++l) zOm;rw[VG]at U;simp[go_sem];refine cA (f_ap F k zOm) (.zk (qG _) (.zk (zC _) (.zk (qN _) (.zk (yN _) .nil)))) ?_;cases ha:zm (vsT ts) m.sK.length ts.sA.length C k m.sK with
 |error x =>
  rw[ha]at U;simp only at U;obtain⟨b,hb,hr⟩:=a1 (.arr (cMd ⟨⟨[],0⟩,[],0⟩));simp[go_sem,outA];refine fL (qK.freeze (args1:=[eTS ts,lBd C,eMd m,lEd (k++l)]) (fun j=>j == b) ⟨.inl rfl,.inl rfl,.inl rfl,.inr hr,trivial⟩ (qd.toSound _ U (.zk (qG _) (.zk (zC _) (.zk (qN _) (.zk (yN _) .nil)))))) ?_ (by rintro r m ⟨h,_⟩;cases h);rintro r m' ⟨h,rfl⟩;cases h;obtain⟨ae,hx⟩:=Yc ha;rcases hx with rfl|rfl<;>simp[go_sem,outA]<;>exact .zsc _
 |ok T =>
 rw[ha]at U;simp only at U;obtain⟨F',a2⟩:=Zn F ha;obtain⟨he,hT⟩:=Yb ha;have a3:zm (vsT ts) m.sK.length ts.sA.length C k T = .ok T:=by
  rw[Qy he,hT,m8 (jJ F).shp]
 have c1:=f_ap F' l zOm;have c2:=f_ap F' k zOm;change qd _ _ _ (outA _ (zm (vsT ts) T.length ts.sA.length C l T)) at c1;change qd _ _ _ (outA _ (zm (vsT ts) T.length ts.sA.length C k T)) at c2;rw[a2]at c1 c2;rw[a3,show outA { m with sK:=T } (.ok T) = .tup [eMd { m with sK:=T },aI 0] from rfl]at c2;have hp:∃ p c,outA m (zm (vsT ts) m.sK.length ts.sA.length C l T) = .tup [eMd p,aI c]/\outA { m with sK:=T } (zm (vsT ts) m.sK.length ts.sA.length C l T) = .tup [eMd p,aI c]/\qd qb 26 [eMd p,eMd p] (aB true):=by
  cases hq:zm (vsT ts) m.sK.length ts.sA.length C l T with
  |error e =>
   refine⟨⟨⟨[],0⟩,[],0⟩,e,rfl,rfl,?_⟩;have h:=Ky ⟨⟨[],0⟩,[],0⟩ ⟨⟨[],0⟩,[],0⟩ zSp zSp zSp
   rwa[decide_eq_true rfl]at h
  |ok S =>
   have h:=(Zn F' (l:=l) (T:=S) (by show zm _ T.length _ _ _ T=_;rw[a2];exact hq)).1;have h:=f_eq h { m with sK:=S };rw[decide_eq_true rfl]at h;exact⟨{ m with sK:=S },0,rfl,rfl,h⟩
 obtain⟨p,c,h1,h2,c3⟩:=hp;rw[h1]at U;rw[h2]at c1;have c4:=f_eq F' { m with sK:=T };rw[decide_eq_true rfl]at c4;rw[show outA m (.ok T) = .tup [eMd { m with sK:=T },aI 0] from rfl];clear a3 h1 h2 hT;generalize ({ m with sK:=T }:Md)=x at *
 obtain⟨b,hb,hr⟩:=a1 (.arr (cMd x));simp[go_sem];refine fL (qK.freeze (args1:=[eTS ts,lBd C,eMd m,lEd (k++l)]) (fun j=>j == b) ⟨.inl rfl,.inl rfl,.inl rfl,.inr hr,trivial⟩ (qd.toSound _ U (.zk (qG _) (.zk (zC _) (.zk (qN _) (.zk (yN _) .nil)))))) ?_ (by rintro r m ⟨h,_⟩;cases h);rintro r i ⟨h,a4⟩;cases h;have a5:i[o.length]?=some (.arr (cMd x)):=by rw[a4,ma (fun e=>hb e.symm)];simp
 have a9:o.length<i.length:=(qn.1 a5).1;clear a4;have t:∀ L,(i++L)[o.length]?=some (.arr (cMd x)):=fun L=>by rw[qT a9];exact a5
 simp[go_sem,t];refine cA (UH F') (.zk (qG _) (.zk (qN _) .nil)) ?_;simp[go_sem,t];refine cA (UI F') (.zk (qG _) (.zk (qN _) .nil)) ?_;simp[go_sem,t];refine cA c1 (.zk (qG _) (.zk (zC _) (.zk (qN _) (.zk (yN _) .nil)))) ?_;simp[go_sem,t];refine cA c2 (.zk (qG _) (.zk (zC _) (.zk (qN _) (.zk (yN _) .nil)))) ?_;simp[go_sem,t];have hy:∀(a:Cell) L,(i++a :: L)[i.length]?=some a:=fun a L=>zSp
 have a6:∀(a b:Cell) L,(i++a :: b :: L)[i.length+1]?=some b:=fun a b L=>by rw[zo zOm];simp
 have a7:∀(a b c:Cell) L,(i++a :: b :: c :: L)[i.length+2]?=some c:=fun a b c L=>by rw[zo zOm];simp
 try simp[go_sem,t,hy,a6,a7]
 refine cA c3 (.zk (qN _) (.zk (qN _) .nil)) ?_;simp[go_sem,t,hy,a6,a7];refine fG c4 (.zk (qN _) (.zk (qN _) .nil)) ?_;exact .zsc _
end W61
namespace HZ
open Go.EvW Go.RowKit Go.ChangeShapes Go.WideShapes HF1 GB
section
variable {H:Type}
theorem qf0{P:qf}{f:us}{fn:Func}{s:ChangeSpec}{ts:List j1}{tb:j1}{C:Type}{c:C->List AV}{ok ok2:C->Prop}(hp:fn.params=ts.toArray)(hF:ArgF P ts c ok)(hv:s.vars=[])
  (T:∀(H:Type) (ds:List (DataW H)),ds.length=ts.length->s.fn H ds={ results:=[.lit (.bool true)],args:=ds }) (hr:fn.resultTypes=#[tb]) (U:P.underlying tb=some .bool)
  (hl:laidOutB P=true) (a8:(ts.all fun t=>P.readableRec t&&decide (t<P.types.size))=true) (hS:∀ a,ok a->ok2 a->qd P f (c a) (aB true))
  (H:Type) (I:j1×j3->H) (W:j2) (base:Nat) (args:Array j3) (ds gs:List (DataW H)) (g:List MemPlace)
  (i:∀(j:Nat) t v,fn.params[j]?=some t->args[j]?=some v->Value.okWide P W .any base t v) (hW:DataW.Whole I P fn.params.toList s.vars false W args.toList ds gs g) (a9:(DataW.weightsEach P fn.params.toList ds).all (·<=reachBytes)=true) (hX:∀ a,(∀(k:Nat) x,(c a)[k]?=some x->VRel ⟨(·<W.heap.size),[]⟩ W.heap x (args.toList.getD k vd))->ok2 a) (hT:vN (·<W.heap.size) W.heap) :
  Calls P f args W fun e W'=>∃ v,e = .returned v/\s.post I P fn false true false false W args v W':=by
 have a0:=hW;obtain⟨p,q,R,hV,J,aa,_⟩:=hW;rw[hv]at hV;obtain⟨hg,hq⟩:=trodVars_none hV;subst hg;subst hq;rw[zA]at J;subst J;rw[hp]at R i;obtain⟨a,ha,a1,a2,a3⟩:=hF.read (r := .any) (b:=base) R (fun j t v h1 h2=>i j t v (zUs h1) (zUs h2)) (by grind);have a4:∀ x,x∈g->x.block<W.heap.size:=fun x l=>R.lt x l
 obtain⟨_,o⟩:=hS a ha (hX a a3);refine(o (·<W.heap.size) W args (Sim.empty (fun _ h=>h) hT) ⟨zUs a2,fun k x hk=>?_⟩).mono fun e W' ⟨a7,v,he,_,_,hb,a5⟩=>?_
 .simp_all
 .have a6:v = .bool true:=by cases a5;rfl
  subst a6;refine⟨_,he,ds,[],g,[],g,[],a0,?_,?_,?_,World.keptBut_mono (fun x l=>⟨l,.inr (.inl l)⟩) (hb.frame (·∈g)),fun h=>by cases h⟩
  all_goals try rw[zA]
  all_goals try rw[T H ds a1]
  .rw [hr]
   exact trodAll_cons_mk (p':=[]) (shut_bool U true) trodAll_mk0
  .rw [hp]
   refine Ul hl (fun t ht=>?_) R (fun x l=>hb.same (a4 x l)) (fun x l=>by grind)
   grind
  .rw [hv];rfl
theorem qf1(d:DataW H):1<=Rows.uptoBulk d:=by
 cases d with
 |lit l=>cases l<;>simp[Rows.uptoBulk]
 |_=>simp[Rows.uptoBulk]
theorem pk:∀ l:List (DataW H),l.length<=Rows.uptoBulkAll l
 | []=>by simp[Rows.uptoBulkAll]
 |x :: r=>by
  have g:=qf1 x;have i:=pk r;simp only[Rows.uptoBulkAll,zZ];omega
theorem pm{enc:j1×j3->H}{w:j2}{sp:Nat->Bool}{p:Bool}{G:Gh}{l:List Ed}{v:j3}{d:DataW H}{ps:List MemPlace}(t:DataW.Trod enc qb w 0 sp p 48 v d ps)(r:VRel G w.heap (lEd l) v):l.length<=Rows.uptoBulk d:=by
 obtain⟨n,i⟩:=t;obtain⟨a,cap,rfl,_⟩:=r.lst_inv;rw[yP]at i;rcases DataW.trod_slice (show qb.underlying 48=some (.slice 78) by kernel_rfl) i with ⟨h,_⟩|⟨b,len,c,g,j,m,_,h,o,_,_,_,C,_⟩
 .simp [Value.cells]at h
  have:l.length=0:=by simp[h.2.1]
  omega
 .simp [Value.cells]at h
  simp only[Prod.mk.injEq]at o;rw[o.1];have:=pk (g.map (·.1));simp only[Rows.uptoBulk,yP]at this⊢;omega
end
end HZ
end Go.Proofs.YthkdjhkmlmjkbaaGreatDoor
