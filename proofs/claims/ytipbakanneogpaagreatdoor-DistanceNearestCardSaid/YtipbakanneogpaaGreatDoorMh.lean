/-
  Own library, part 8: an abstract reading of values and a calculus over it; contracts of functions; plain lemmas.
-/
import Derived.Test.YtipbakanneogpaaGreatDoorMg
set_option linter.unusedVariables false
set_option linter.unusedSimpArgs false
set_option maxRecDepth 100000
open Go renaming Program->qc
open Go.Proofs.Tryz renaming prog->qb
open List renaming getElem?_eq_some_iff->qj,mem_map->qm,getElem_mem->qp,range->qt,mem_cons->qw,getElem?_eq_getElem->qz,not_mem_nil->qH,mem_append->qJ,getElem?_set_self->qL,getElem?_append_left->qM,take_length->qO,mem_singleton->qT,replicate->qY,length_append->q8,mem_cons_of_mem->za,map_append->zb,mem_cons_self->zj,all_eq_true->zo,drop_eq_getElem_cons->zp,append_assoc->zt,length_cons->zz,length_map->zA,getElem?_append_right->zG,append_nil->zJ,take_of_length_le->zQ,drop_length->zW,mem_range->z7,mem_filter->y7,nil_append->vE,take_succ_eq_append_getElem->vJ,getElem?_cons_succ->vK,getElem?_eq_none->uw,flatMap_cons->wR,drop_eq_nil_of_le->Wx
open Go.IntKind renaming i64->qo
open Nat renaming le_refl->qr,le_trans->zL
open Option.some renaming injEq->qu
open Bool renaming and_eq_true->qE,eq_iff_iff->jM
open Int renaming mul_le_mul->jD,le_refl->vM
open List.Nodup renaming length_le_of_subset->jN
open Classical renaming byContradiction->uY
namespace Go.Proofs.YtipbakanneogpaaGreatDoor
open Go Go.Ev Go.Proofs Tryz
namespace QG
open Y2 P1 P2 PB QE QF
section
variable {k:Kd}{ns:Nat}
def Vt(k:Kd):Kd:=kSum k (zN k k)
def itK:Nat->Kd->Kd
 | 0,k=>k
 |i+1,k=>Vt (itK i k)
theorem qq0(h:okKd ns k)(g:k.ar=2):okKd ns (Vt k)/\(Vt k).ar=2:=
 ⟨J3 h (J5 h h zOm zOm) (by grind [zN]),g⟩
theorem okIt(h:okKd ns k)(g:k.ar=2):∀ i,okKd ns (itK i k)/\(itK i k).ar=2
 | 0=>⟨h,g⟩
 |i+1=>qq0 (okIt h g i).1 (okIt h g i).2
abbrev Ed(k:Kd)(u v:Int):Prop:=[u,v,0]∈k.ts
theorem Wg(h:okKd ns k)(o:k.ar=2){t:Tp}(j:t∈k.ts):∃ u v,t=[u,v,0]/\(0<=u/\u<ns)/\(0<=v/\v<ns):=by
 obtain⟨l,rfl,g,i⟩:=h.ts t j
 match l,g,i with
 | [u,v],_,i=>exact⟨u,v,rfl,i u zSp,i v zSp⟩
 | [],g,_=>simp at g;omega
 | [_],g,_=>simp at g;omega
 |_ :: _ :: _ :: _,g,_=>simp at g;omega
theorem qdX(h:okKd ns k)(j:k.ar=2){u v}:[u,v,0]∈(zN k k).ts↔∃ w,Ed k u w/\Ed k w v:=by
 show [u,v,0]∈uK k.ar.toNat k.ar.toNat k.ts k.ts↔_;rw[QF.Zh,j];constructor
 .rintro ⟨x,y,l,o,g,i⟩
  obtain⟨a,b,rfl,_,_⟩:=Wg h j l;obtain⟨c,d,rfl,_,_⟩:=Wg h j o;have g:b=c:=g;have i:[a,d,0]=[u,v,0]:=i
  grind
 .rintro ⟨w,g,i⟩
  exact⟨[u,w,0],[w,v,0],g,i,rfl,rfl⟩
theorem kJ(h:okKd ns k)(g:k.ar=2){u v}:Ed (Vt k) u v↔Ed k u v\/∃ w,Ed k u w/\Ed k w v:=by
 unfold Ed Vt;rw[Zw,qdX h g]
def Path(k:Kd)(n:Nat)(u v:Int):Prop:=∃ f:Nat->Int,f 0=u/\f n=v/\∀ i,i<n->Ed k (f i) (f (i+1))
theorem Path.one{u v}(h:Ed k u v):Path k 1 u v:=⟨fun i=>if i=0 then u else v,rfl,rfl,fun i g=>by
 grind⟩
theorem Path.comp{n m u w v}(h:Path k n u w)(o:Path k m w v):Path k (n+m) u v:=by
 obtain⟨f,f0,fn,hf⟩:=h;obtain⟨g,p,r,t⟩:=o;refine⟨fun i=>if i<n then f i else g (i-n),?_,?_,fun i C=>?_⟩
 .grind
 .grind
 .by_cases j:i+1<n
  .simp only[if_pos j,if_pos (show i<n by omega)];grind
  .by_cases l:i<n
   .have e:i+1=n:=by omega
    simp only[if_neg j,if_pos l]
    grind
   .simp only[if_neg j,if_neg l,show i+1-n=(i-n)+1 by omega]
    grind
theorem cY(h:okKd ns k)(J:k.ar=2)(g:ns<=4):∀ N n u v,n<=N->1<=n->Path k n u v->∃ m,1<=m/\m<=4/\Path k m u v
 | 0,n,u,v,P,R,_=>zOm
 | N+1,n,u,v,P,R,T=>by
  by_cases h4:n<=4
  .grind
  obtain⟨f,f0,fn,hf⟩:=T;have U:∀ i,i<5->0<=f i/\f i<4:=fun i t=>by
   grind [Wg]
  obtain⟨i,j,a0,hj,e⟩:∃ i j,i<j/\j<5/\f i=f j:=by
   apply uY;intro l;have o:((qt 5).map f).Nodup:=List.pairwise_map.2 (List.pairwise_lt_range.imp_of_mem fun {a b} ha hb p e=>l ⟨a,b,p,z7.1 hb,e⟩);have:=jN o (l₂:=[0,1,2,3]) fun x C=>by
    obtain⟨i,t,rfl⟩:=qm.1 C;have:=U i (z7.1 t);simp;omega
   simp at this
  refine cY h J g N (n-(j-i)) u v zOm zOm ⟨fun x=>if x<i then f x else f (x+(j-i)),?_,?_,fun x C=>?_⟩
  .grind
  .simp only[if_neg (show ¬n-(j-i)<i by omega),show n-(j-i)+(j-i)=n by omega,fn]
  .by_cases r:x+1<i
   .simp only[if_pos r,if_pos (show x<i by omega)];grind
   .by_cases I:x<i
    .have e1:x+1=i:=by omega
     simp only[if_neg r,if_pos I]
     grind
    .simp only[if_neg r,if_neg I,show x+1+(j-i)=(x+(j-i))+1 by omega]
     exact hf _ zOm
theorem Vu(h:okKd ns k)(g:k.ar=2):∀ i u v,Ed (itK i k) u v->∃ n,1<=n/\Path k n u v
 | 0,u,v,j=>⟨1,zOm,.one j⟩
 |i+1,u,v,j=>by
  rcases (kJ (okIt h g i).1 (okIt h g i).2).1 j with j|⟨w,l,o⟩
  .exact Vu h g i u v j
  .obtain ⟨n,r,p⟩:=Vu h g i u w l
   obtain⟨m,t,q⟩:=Vu h g i w v o;exact⟨n+m,zOm,p.comp q⟩
theorem Ji(i):Sub (itK i k) (itK (i+1) k):=K8 _ _
theorem qq1(h:okKd ns k)(g:k.ar=2){m u v}(p:1<=m)(r:m<=4)(o:Path k m u v):Ed (itK 4 k) u v:=by
 obtain⟨f,rfl,rfl,hf⟩:=o;have up:∀{u v},Ed (itK 2 k) u v->Ed (itK 4 k) u v:=fun i=>(Ji 3).2 _ ((Ji 2).2 _ i)
 have s1:∀{u w v},Ed (itK 0 k) u w->Ed (itK 0 k) w v->Ed (itK 1 k) u v:=fun a b=>(kJ (okIt h g 0).1 (okIt h g 0).2).2 (.inr ⟨_,a,b⟩)
 have j:∀{u w v},Ed (itK 1 k) u w->Ed (itK 1 k) w v->Ed (itK 2 k) u v:=fun a b=>(kJ (okIt h g 1).1 (okIt h g 1).2).2 (.inr ⟨_,a,b⟩)
 have l:∀{u v},Ed (itK 0 k) u v->Ed (itK 1 k) u v:=fun i=>(Ji 0).2 _ i
 refine up ?_;rcases (show m=1\/m=2\/m=3\/m=4 by omega) with rfl|rfl|rfl|rfl
 .exact (Ji 1).2 _ (l (hf 0 zOm))
 .exact (Ji 1).2 _ (s1 (hf 0 zOm) (hf 1 zOm))
 .exact j (s1 (hf 0 zOm) (hf 1 zOm)) (l (hf 2 zOm))
 .exact j (s1 (hf 0 zOm) (hf 1 zOm)) (s1 (hf 2 zOm) (hf 3 zOm))
theorem qq2(h:okKd ns k)(g:k.ar=2)(i:ns<=4):U9 (itK 4 k):=fun t l=>by
 have ok:=okIt h g 4;have j:=J5 ok.1 ok.1 (by rw[ok.2];omega) (by rw[ok.2];omega);obtain⟨u,v,rfl,_,_⟩:=Wg j (by grind [zN]) l;obtain⟨w,o,r⟩:=(qdX ok.1 ok.2).1 l;obtain⟨n,C,p⟩:=Vu h g 4 u w o;obtain⟨m,I,q⟩:=Vu h g 4 w v r;obtain⟨c,c1,c4,J⟩:=cY h g i (n+m) (n+m) u v (qr _) zOm (p.comp q)
 grind [qq1]
theorem Vv{S}(g:U9 S){k}(h:Sub k S):∀ i,Sub (itK i k) S
 | 0=>h
 |i+1=>⟨(Vv g h i).1,fun t j=>by
  rcases Zw.1 j with j|j
  .exact (Vv g h i).2 t j
  .exact g t ((U8 (Vv g h i) (Vv g h i)).2 t j)⟩
theorem qdY:∀ i,Sub k (itK i k)
 | 0 => .refl k
 |i+1=>(qdY i).trans (Ji i)
theorem qq3(h:okKd ns k)(l:k.ar=2)(g:ns<=4):eRS (qs (itK 4 k))=eRS (qs (kClo k)):=by
 have o:Sub (kClo k) (itK 4 k):=kc (qq2 h l g) 70 0 k (qdY 4);have i:Sub (itK 4 k) (kClo k):=Vv (kf g 70 0 k h l zOm (.inl rfl)) (K9 70 0 k) 4;refine Qt i.1 fun j p=>?_
 rw[jM,yU,yU,i.1];exact⟨fun x=>⟨x.1,i.2 _ x.2⟩,fun x=>⟨x.1,o.2 _ x.2⟩⟩
end
end QG
namespace QH
open YF Y9 Y2 Y3 P1 P2 PB QD QE QF QG
theorem Uo{ns a}(h:okKd ns a)(I:a.ar=2)(g:ns<=4):qh qb 198 [eRS (qs a)] (eRS (qs (kClo a))):=by
 refine qSQ call198 func198 rfl { mt:=[1] } ?_;rw[<-qq3 h I g];simp[go_sem];refine⟨zf _,?_⟩;refine aK 4 (fun i U=>U.tm 1 = .ptr 0 0/\U.tm 2 = .ptr 1 0/\U.tm 3=aI i/\U.mu=[.arr (cRS (qs (itK i a))),.arr (aI 0 :: hB fun _=>false)]) ?_ ?_
 .exact ⟨zSi,zSi,zSi,by simp[go_sem];exact⟨⟨rfl,rfl⟩,rfl⟩⟩
 rintro i U hi ⟨l,o,p,J⟩;by_cases r:i<4
 .have j:(i:Int)<4:=by omega
  have P:=zWk i;obtain⟨ok,o2⟩:=okIt h I i;have R:qh qb 195 [eRS (qs (itK i a)),eRS (qs (itK i a))] (eRS (qs (zN (itK i a) (itK i a)))):=by
   rw[<-qdW ok ok g zOm];exact wo _ _ (by show 0<=(itK i a).ar/\(itK i a).ar<=1000;omega) (by show 1<=(itK i a).ar/\(itK i a).ar<=1000;omega)
  have T:qh qb 193 [eRS (qs (itK i a)),eRS (qs (zN (itK i a) (itK i a)))] (eRS (qs (itK (i+1) a))):=by
   have:=vt (qs (itK i a)) (qs (zN (itK i a) (itK i a)));rw[Vs (by simp only[zN];omega)]at this;exact this
  generalize t:qs (itK (i+1) a)=s' at *
  generalize qs (zN (itK i a) (itK i a))=q at *
  generalize qs (itK i a)=s at *
  simp[go_sem,p,J,j];refine cL zKr ?_;simp[go_sem,l,qv,tk];refine fR R (.zk (yH _) (.zk (yH _) .nil)) ?_;refine tK T (.zk (yH _) (.zk (yH _) .nil)) ?_;simp[go_sem,l,qv,pc];rw[if_pos (zf _)];simp[go_sem,p,P];exact⟨r,aA ⟨zS1 l,zS1 o,zSi,zS1 t⟩⟩
 .have C:i=4:=by omega
  subst C;generalize qs (itK 4 a)=s at *
  simp[go_sem,l,o,p,J,qv,tk,pc];rw[if_pos (zf _)];simp[go_sem,o,qv,tk];exact .hf _ (yH s)
theorem qq4(i k)(g:k=1\/k=2):eRS (qs (kSum (zB i k) (kOf (qY k (i:Int)))))=eRS (qs (zB (i+1) k)):=by
 refine Qt rfl fun j l=>?_
 rw[jM,yU,yU];show j<szA (k:Int)/\pad (dig (k:Int) j)∈(kSum (zB i k) (kOf (qY k (i:Int)))).ts↔j<szA (k:Int)/\pad (dig (k:Int) j)∈(qt (i+1)).map fun (x:Nat)=>pad (qY k (x:Int))
 rw[Zw,List.range_succ,zb,qJ];rfl
theorem qq5(k):hB (qs (zB 0 k)).2=hB fun _=>false:=uV fun j _=>decide_eq_false fun h=>absurd h.2 qH
theorem allU(ts)(h:okTS ts)(k:Nat)(R:k=1\/k=2):qh qb 192 [eTS ts,aI k] (eRS (qs (zB ts.sS.length k))):=by
 refine qSV call192 func192 rfl ?_;have a1:=h.ns;have hz:=qq5 k;simp[go_sem];refine aK ts.sS.length (fun i U=>U.tm 1=aI k/\U.tm 2 = .ip (cTS ts)/\U.tm 4 = .ptr 0 0/\U.tm 5 = .ptr 1 0/\U.tm 6=aI i/\U.mu=[.arr (aI 0 :: hB fun _=>false),.arr (cRS (qs (zB i k)))]) ?_ ?_
 .exact ⟨zSi,zSi,zSi,zSi,zSi,by
   have e:cRS (qs (zB 0 k))=aI k :: hB fun _=>false:=by simp only[cRS,hz];rfl
   rw[e];simp[go_sem];first|rfl|exact⟨rfl,rfl⟩⟩
 rintro i U hi ⟨C,r,I,j,o,J⟩;by_cases g:i<ts.sS.length
 .have T:=zWk i
  have c1:∀ l:List Int,l=qY k (i:Int)->qh qb 149 [lI l] (eRS (qs (kOf l))):=fun l p=>by
   have a0:l.length=k:=by rw[p,List.length_replicate]
   have:=oneU l zOm;rw[kC]at this;rw[<-QF.kI (l:=l) zOm (fun x hx=>by rw[p]at hx;rw[List.eq_of_mem_replicate hx];omega)];exact this
  have cu:∀ l:List Int,l=qY k (i:Int)->qh qb 193 [eRS (qs (zB i k)),eRS (qs (kOf l))] (eRS (qs (zB (i+1) k))):=fun l p=>by
   have:=vt (qs (zB i k)) (qs (kOf l));rw[Vs (by show (k:Int)=l.length;rw[p,List.length_replicate]),p,qq4 i k R]at this;rw[p];exact this
  generalize t:qs (zB (i+1) k)=s' at *
  generalize qs (zB i k)=s at *
  rcases R with rfl|rfl
  .have d1:=c1 [(i:Int)] rfl
   have d2:=cu [(i:Int)] rfl;generalize qs (kOf [(i:Int)])=q at *
   simp[go_sem,C,r,o,J,g];refine cL zKr ?_;simp[go_sem,j,o,qv,tk];refine fR d1 (.cons (QD.wk1 _) .nil) ?_;refine tK d2 (.zk (yH _) (.zk (yH _) .nil)) ?_;simp[go_sem,j,qv,pc];rw[if_pos (zf _)];simp[go_sem,o,T];exact⟨g,aA ⟨zS1 C,zS1 r,zS1 I,zS1 j,zSi,zS1 t⟩⟩
  .have d1:=c1 [(i:Int),(i:Int)] rfl
   have d2:=cu [(i:Int),(i:Int)] rfl;generalize qs (kOf [(i:Int),(i:Int)])=q at *
   simp[go_sem,C,r,o,J,g];refine cL zKr ?_;simp[go_sem,j,o,qv,tk];refine fR d1 (.cons (QD.wk2 _ _) .nil) ?_;refine tK d2 (.zk (yH _) (.zk (yH _) .nil)) ?_;simp[go_sem,j,qv,pc];rw[if_pos (zf _)];simp[go_sem,o,T];exact⟨g,aA ⟨zS1 C,zS1 r,zS1 I,zS1 j,zSi,zS1 t⟩⟩
 .have P:i=ts.sS.length:=by omega
  subst P;generalize qs (zB ts.sS.length k)=s at *
  simp[go_sem,r,I,j,o,J,qv,tk,pc];rw[if_pos (zf _)];simp[go_sem,I,qv,tk];exact .hf _ (yH s)
end QH
namespace QI
open YF Y9 Y10 Y1 Y2 P1 P2
section
variable {nm:tM}
theorem qq6{c k}(l:k<c.calls)(o)(h:c.ts.sT[k].name=nm)(i:∀(j) (g),j<k->c.ts.sT[j].name≠nm):zu c nm=some k:=by
 unfold zu;rw[List.findIdx?_eq_some_iff_getElem];refine⟨zSo,zP1 h,fun j g=>?_⟩;simp[i j zOm g]
theorem qq7{c}(i:∀ j g,j<c.calls->c.ts.sT[j].name≠nm):zu c nm=none:=by
 unfold zu;rw[List.findIdx?_eq_none_iff];intro p l;obtain⟨j,g,e⟩:=List.mem_iff_getElem.1 l;simp at g;rw[List.getElem_take]at e;rw[<-e];exact decide_eq_false (i j zOm zOm)
abbrev idxO:Option Nat->Int
 |some i=>i
 |none => -1
theorem Vw(c)(P:okCk c)(nm):qh qb 90 [eTS c.ts,aI c.calls,aS nm] (aI (idxO (zu c nm))):=by
 refine qSV call90 func90 rfl ?_;have R:=P.calls;have T:=P.ts.np;simp[go_sem];refine aK c.calls (fun k U=>U.tm 1=aI c.calls/\U.tm 2=aS nm/\U.tm 3 = .ip (cTS c.ts)/\U.tm 7=aI k/\∀(j:Nat)(p:j<c.ts.sT.length),j<k->c.ts.sT[j].name≠nm) ?_ ?_
 .exact ⟨zSi,zSi,zSi,zSi,fun j p h=>zOm⟩
 rintro k U hk ⟨l,r,t,C,I⟩;by_cases g:k<c.calls
 .have w1:=zWk k
  have i:k<c.ts.sT.length:=zOm;by_cases o:c.ts.sT[k].name=nm
  .rw [qq6 g i o I]
   simp[go_sem,l,r,t,C,g,i,o];exact .zsc _
  .simp [go_sem,l,r,t,C,g,i,jU o,w1]
   refine aA ⟨zS1 l,zS1 r,zS1 t,zSi,fun j p a0=>?_⟩;by_cases he:j=k
   .subst he;exact o
   .exact I j p zOm
 .have J:k=c.calls:=by omega
  subst J;rw[qq7 I];simp[go_sem,l,C];exact .zsc _
theorem Jj(op):qh qb 142 [aI op] (aB (yy op)):=by
 refine qSV call142 func142 rfl ?_;by_cases g:op=5
 .rw [show yy op=true by simp[yy,g]]
  simp[go_sem,g];exact .zsc _
 by_cases i:48<=op
 .by_cases j:op<=51
  .rw [show yy op=true by unfold yy;rcases (show op=48\/op=49\/op=50\/op=51 by omega) with h|h|h|h<;>simp[h]]
   simp[go_sem,g,i,j];exact .zsc _
  .rw [show yy op=false by simp[yy,g,show ¬op=48 by omega,show ¬op=49 by omega,show ¬op=50 by omega,show ¬op=51 by omega]]
   simp[go_sem,g,i,j];exact .zsc _
 .rw [show yy op=false by simp[yy,g,show ¬op=48 by omega,show ¬op=49 by omega,show ¬op=50 by omega,show ¬op=51 by omega]]
  simp[go_sem,g,i];exact .zsc _
abbrev rBo(b:Bool):List AV:=[aB b]
abbrev lBo(l:List Bool):AV := .lst false (l.map rBo)
theorem Vx(l):HF (lBo l):=HF.lst fun r i c g=>by
 obtain⟨b,_,rfl⟩:=qm.1 i;rw[qT]at g;subst g;exact HF.sc _
def tpB(c:Ck)(nm:tM):Bool:=match zu c nm with|some p=>c.timed.getD p false|none=>false
theorem Jk(c)(o:okCk c)(nm):qh qb 143 [eTS c.ts,lBo c.timed,aI c.calls,aS nm] (aB (tpB c nm)):=by
 generalize i:tpB c nm=r;unfold tpB at i;refine qSU call143 func143 rfl ?_;refine tK (Vw c o nm) (.zk (zm _) (.zs (.zs .nil))) ?_;cases j:zu c nm with
 |none =>
  rw[j]at i;subst i;simp[go_sem,idxO];exact .zsc _
 |some p =>
  rw[j]at i;by_cases l:p<c.timed.length
  .have g:r=c.timed[p]:=by rw[<-i];simp[List.getD,l]
   subst g;simp[go_sem,idxO,l];exact .zsc _
  .have g:r=false:=by rw[<-i];simp[List.getD,l]
   subst g;simp[go_sem,idxO,l];exact .zsc _
theorem qdZ(c)(hc:okCk c)(hl:c.timed.length=c.calls):∀ m n,szN n<=m->Small n->qh qb 148 [eTS c.ts,lBo c.timed,eNd n] (aB (yz c n))
 | 0,n,hm,_=>by obtain⟨op,nm,i,ks,p⟩:=n;simp[szN]at hm
 |m+1,n,hm,hs=>by
  have ih:∀ k,k∈n.sD->qh qb 148 [eTS c.ts,lBo c.timed,eNd k] (aB (yz c k)):=fun k J =>
   qdZ c hc hl m k (zW1 (yr J)) (hs.kid J)
  have a0:=hs.len;have P:zY c n.op n.name=(yy n.op||(decide (n.op=47)&&tpB c n.name)):=rfl;rw[Ut,P];generalize hR:n.sD.any (yz c)=R;have ct:=Jj n.op;have cp:=Jk c hc n.name;generalize yy n.op=T at *
  generalize tpB c n.name=B at *
  refine qSU call148 func148 rfl ?_;refine tK ct (.zs .nil) ?_;cases T with
  |true =>
   simp[go_sem];exact .zsc _
  |false =>
  rw[Bool.false_or];by_cases h47:n.op=47
  .rw [decide_eq_true h47,Bool.true_and]
   simp[go_sem,h47,hl];refine tK cp (.zk (zm _) (.zk (Vx _) (.zs (.zs .nil)))) ?_;cases B with
   |true =>
    simp[go_sem];exact .zsc _
   |false =>
   rw[Bool.false_or];simp[go_sem];refine aK n.sD.length (fun k U=>U.tm 1=lBo c.timed/\U.tm 3 = .ip (cTS c.ts)/\U.tm 5 = .ip (cNd n)/\U.tm 7=aI k/\(n.sD.drop k).any (yz c)=R) ?_ ?_
   .exact ⟨zSi,zSi,zSi,zSi,zUs hR⟩
   rintro k U J ⟨t,C,l,o,j⟩;by_cases r:k=n.sD.length
   .subst r
    rw[zW]at j;have j:R=false:=by rw[<-j];rfl
    subst j;simp[go_sem,l,o];exact .zsc _
   have g:k<n.sD.length:=zOm;have w1:=zWk k;rw[zp g,List.any_cons]at j;have hi:=ih n.sD[k] (qp g);simp[go_sem,l,o,g];refine cL zKr ?_;simp[go_sem,t,C,l,o,g];refine tK hi (.zk (zm _) (.zk (Vx _) (.zk (qK _) .nil))) ?_;cases I:yz c n.sD[k] with
   |true =>
    rw[I,Bool.true_or]at j;subst j;simp[go_sem];exact .zsc _
   |false =>
    rw[I,Bool.false_or]at j;simp[go_sem,o,g,w1];exact aA ⟨zS1 t,zS1 C,zS1 l,zSi,j⟩
  .rw [decide_eq_false h47,Bool.false_and,Bool.false_or]
   simp[go_sem,h47];refine aK n.sD.length (fun k U=>U.tm 1=lBo c.timed/\U.tm 3 = .ip (cTS c.ts)/\U.tm 5 = .ip (cNd n)/\U.tm 7=aI k/\(n.sD.drop k).any (yz c)=R) ?_ ?_
   .exact ⟨zSi,zSi,zSi,zSi,zUs hR⟩
   rintro k U J ⟨t,C,l,o,j⟩;by_cases r:k=n.sD.length
   .subst r
    rw[zW]at j;have j:R=false:=by rw[<-j];rfl
    subst j;simp[go_sem,l,o];exact .zsc _
   have g:k<n.sD.length:=zOm;have w1:=zWk k;rw[zp g,List.any_cons]at j;have hi:=ih n.sD[k] (qp g);simp[go_sem,l,o,g];refine cL zKr ?_;simp[go_sem,t,C,l,o,g];refine tK hi (.zk (zm _) (.zk (Vx _) (.zk (qK _) .nil))) ?_;cases I:yz c n.sD[k] with
   |true =>
    rw[I,Bool.true_or]at j;subst j;simp[go_sem];exact .zsc _
   |false =>
    rw[I,Bool.false_or]at j;simp[go_sem,o,g,w1];exact aA ⟨zS1 t,zS1 C,zS1 l,zSi,j⟩
theorem kK(l:List Bool):zl 1 (l.map rBo):=fun r g=>by
 obtain⟨b,_,rfl⟩:=qm.1 g;exact⟨rfl,rfl⟩
theorem appBo{mu lo s xs b K}(j:OwnF lo mu 1 s (xs.map rBo))(p:xs.length<=100000)(l:∀ av mu',OwnF lo mu' 1 av ((xs++[b]).map rBo)->(∀ i,i<lo->mu'[i]?=mu[i]?)->K av mu') :
  qy qb mu #[58,58] s (.lst true [[aB b]]) K:=by
 refine qy.ownF (lo:=lo) (e:=4) (sz:=1) (bt:=1) (zv:=aB false) (xs:=xs.map rBo) (ys:=[rBo b]) zSi zSi zSi rfl rfl zOm zOm j (by simp[qD]) (kK xs) (kK [b]) zSo ?_;intro av mu' h o;exact l av mu' (by rw[zb];exact h) o
theorem rdBo{lo mu av l}(j:OwnF lo mu 1 av (l.map rBo)):Rd mu av (lBo l):=
 Own.rd (sz:=1) j.1 (kK l).ok fun r o c i=>by
  obtain⟨b,_,rfl⟩:=qm.1 o;rw[qT]at i;subst i;exact HF.sc _
theorem qq8(ts)(h:okTS ts)(T:∀ p,p∈ts.sT->WfN p.body):qh qb 93 [eTS ts] (lBo (tmsL ts ts.sT.length)):=by
 refine qSV call93 func93 rfl ?_;have a0:=h.np;simp[go_sem];refine aK ts.sT.length (fun k U=>U.tm 1 = .ip (cTS ts)/\U.tm 4=aI k/\OwnF 0 U.mu 1 (U.tm 3) ((tmsL ts k).map rBo)) ?_ ?_
 .exact ⟨zSi,zSi,by simp[go_sem,tmsL];exact OwnF.nil (Nat.zero_le _)⟩
 rintro k U hk ⟨j,l,o⟩;by_cases g:k<ts.sT.length
 .have w1:=zWk k
  generalize r:U.tm 3=t at *
  have C:=rdBo o;have ht:=qdZ (mkCk ts k) (uP h zOm) (ZX ts k zOm) (szN ts.sT[k].body) ts.sT[k].body (qr _) (T _ (qp g)).small;have R:=ZX ts k zOm;have i:tmsL ts (k+1)=tmsL ts k++[yz (mkCk ts k) ts.sT[k].body]:=by
   show tmsL ts k++(match ts.sT[k]? with|some p=>[yz ⟨ts,k,tmsL ts k⟩ p.body] | none=>[])=_;rw[qz g];rfl
  simp[go_sem,j,l,g];refine cL zKr ?_;simp[go_sem,j,l,r,g];refine fX (args':=[eTS ts,lBo (tmsL ts k),eNd ts.sT[k].body]) ht ⟨.hf _ (zm ts),C,.hf _ (qK _),trivial⟩ (FL.sc _) ?_;simp[go_sem];refine appBo o zOm fun a1 m' J _=>?_
  simp[go_sem,l,g,w1];exact aA ⟨zS1 j,zSi,by rw[i];simpa[go_sem] using J⟩
 .have P:k=ts.sT.length:=by omega
  subst P;generalize r:U.tm 3=t at *
  simp[go_sem,j,l,r];exact rdBo o
end
end QI
namespace QJ
open YF Y10 Y1 P1 QD QE QF
abbrev Vr:=tM×RS
abbrev cVr(v:Vr):List AV:=aS v.1 :: cRS v.2
abbrev lVr(l:List Vr):AV := .lst false (l.map cVr)
theorem qd0(v):∀ c,c∈cVr v->HF c:=fun c g=>by
 rcases qw.1 g with rfl|g
 .exact HF.sc _
 .exact ((setC v.2).sc c g).2
theorem qq9(l):HF (lVr l):=HF.lst fun r g c i=>by
 obtain⟨v,_,rfl⟩:=qm.1 g;exact qd0 v c i
theorem kL(v):∀ c,c∈cVr v->c.one=true:=fun c g=>by
 rcases qw.1 g with rfl|g
 .rfl
 .exact ((setC v.2).sc c g).1
theorem kM(l:List Vr):zl 66 (l.map cVr):=fun r g=>by
 obtain⟨v,_,rfl⟩:=qm.1 g;exact⟨by simp[hB],zo.2 (kL v)⟩
theorem kN{mu lo s x}{xs ys:List Vr}{K}(j:OwnF lo mu 66 s (xs.map cVr))(l:qD mu x=some (ys.map cVr))(r:xs.length+ys.length<=100000)(o:∀ av mu',OwnF lo mu' 66 av ((xs++ys).map cVr)->(∀ i,i<lo->mu'[i]?=mu[i]?)->K av mu') :
  qy qb mu #[171,171] s x K:=by
 refine qy.ownF (lo:=lo) (e:=238) (sz:=66) (bt:=88) (zv := .agg (aS ⟨#[]⟩ :: aI 0 :: zs)) (xs:=xs.map cVr) (ys:=ys.map cVr) zSi zSi (by simp[go_sem];rfl) rfl rfl zOm zOm j l (kM xs) (kM ys) zSo ?_;intro av mu' h p;exact o av mu' (by rw[zb];exact h) p
theorem rdVr{lo mu av l}(i:OwnF lo mu 66 av (l.map cVr)):Rd mu av (lVr l):=
 Own.rd (sz:=66) i.1 (kM l).ok fun r j c o=>by
  obtain⟨v,_,rfl⟩:=qm.1 j;exact qd0 v c o
theorem pcV(n q):putCells (aS n :: aI 0 :: zs) 1 (aI q.1 :: hB q.2)=cVr (n,q):=by
 have g:zs.length=64:=rfl;rw[y8 _ _ _ (by simp[qv,g])];simp[qv,g,List.drop_of_length_le]
def envV(env:List (tM×Int)):List Vr:=env.map fun p=>(p.1,qs (kOf [p.2]))
theorem envU(env)(hl:env.length<=1000)(hr:∀ p,p∈env->0<=p.2/\p.2<4):qh qb 94 [lPm env] (lVr (envV env)):=by
 refine qSU call94 func94 rfl ?_;refine aK env.length (fun k U=>U.tm 0=lPm env/\U.tm 4=aI k/\OwnF 0 U.mu 66 (U.tm 3) ((envV (env.take k)).map cVr)) ?_ ?_
 .exact ⟨zSi,zSi,by simp[go_sem,envV];exact OwnF.nil (Nat.zero_le _)⟩
 rintro k U hk ⟨o,r,I⟩;by_cases g:k<env.length
 .have w1:=zWk k
  generalize J:U.tm 3=t at *
  have hp:=hr _ (qp g);have c1:qh qb 149 [lI [env[k].2]] (eRS (qs (kOf [env[k].2]))):=by
   have:=oneU [env[k].2] zSp;rw[kC]at this;rw[<-QF.kI (l:=[env[k].2]) zSp (fun x hx=>by rw[qT]at hx;subst hx;exact hp)];exact this
  have j:envV (env.take (k+1))=envV (env.take k)++[(env[k].1,qs (kOf [env[k].2]))]:=by
   unfold envV;rw[vJ g,zb];rfl
  have a2:(envV (env.take k)).length=k:=by simp[envV];omega
  generalize qs (kOf [env[k].2])=q at *
  simp[go_sem,o,r,g];refine cL zKr ?_;simp[go_sem,o,r,J,g];refine fR c1 (.cons (QD.wk1 _) .nil) ?_;rw[if_pos ⟨qv _,zf _⟩];generalize hC:putCells _ 1 _=C;have P:C=cVr (env[k].1,q):=by rw[<-hC];exact pcV _ _
  subst P;clear hC;have R:(cVr (env[k].1,q)).length=66:=by simp[qv]
  have T:=kL (env[k].1,q);generalize hV:cVr (env[k].1,q)=V at *
  simp[go_sem,R];rw[if_pos T];simp[go_sem];refine kN (ys:=[(env[k].1,q)]) I (by simp[qD,hV]) zSo fun a3 m' a0 _=>?_
  simp[go_sem,r,g,w1];exact aA ⟨zS1 o,zSi,by rw[j];simpa[go_sem] using a0⟩
 .have a1:k=env.length:=by omega
  subst a1;rw[qO]at I;generalize J:U.tm 3=t at *
  simp[go_sem,o,r,J];exact rdVr I
end QJ
namespace QK
open Y9 Y2 P1 QD QE QF
def fin(c:List AV)(l:List Kd):List AV:=match l.getLast? with|some k=>cRS (qs k)|none=>c
theorem Vy(c l m):fin c (l++m)=fin (fin c l) m:=by
 unfold fin;rw[List.getLast?_append];cases m.getLast?<;>rfl
theorem Wh(c k):fin c [k]=cRS (qs k):=rfl
theorem oneK{l}(h:1<=l.length/\l.length<=3)(g:∀ x,x∈l->0<=x/\x<4):oneC l=cRS (qs (kOf l)):=by
 rw[kC];exact AV.agg.inj (QF.kI h g)
theorem qd1(nm):∀ l c k,(∀ f,f∈l->(1<=f.sS.length/\f.sS.length<=3)/\∀ x,x∈f.sS->0<=x/\x<4)->nmF nm l (c,k)=(fin c (yK l nm),k+(yK l nm).length)
 | [],c,k,_=>rfl
 |f :: l,c,k,h=>by
  have hf:=h f (zj ..);have j:=fun c k=>qd1 nm l c k fun g o=>h g (za _ o)
  by_cases i:f.name=nm
  .have e:yK (f :: l) nm=[kOf f.sS]++yK l nm:=by simp[yK,i]
   rw[e,Vy,Wh];simp only[nmF,stF,if_pos i];rw[j,oneK hf.1 hf.2];simp;omega
  .have e:yK (f :: l) nm=yK l nm:=by simp[yK,i]
   rw[e];simp only[nmF,stF,if_neg i];exact j c k
theorem st_eq(nm i)(C:i<4)(x c k):st3 nm i x (st2 nm i x (st1 nm i x (c,k)))=(fin c (uf i x nm),k+(uf i x nm).length):=by
 have j:=oneK (l:=[(i:Int)]) zSp (fun y g=>by simp at g;subst g;omega);have o:=oneK (l:=[(i:Int),(i:Int)]) zSp (fun y g=>by simp at g;rcases g with rfl|rfl<;>omega);have p:∀ c k,st1 nm i x (c,k)=(fin c (if x.1=nm then [kOf [(i:Int)]] else []),k+(if x.1=nm then [kOf [(i:Int)]] else []).length):=fun c k=>by
  unfold st1;split
  .rw [Wh,j];rfl
  .rfl
 have r:∀ c k,st2 nm i x (c,k)=(fin c (if x.2=true/\x.1++jb=nm then [kOf [(i:Int)]] else []),k+(if x.2=true/\x.1++jb=nm then [kOf [(i:Int)]] else []).length):=fun c k=>by
  unfold st2;split
  .rw [Wh,j];rfl
  .rfl
 have t:∀ c k,st3 nm i x (c,k)=(fin c (if x.2=true/\x.1++j9=nm then [kOf [(i:Int),(i:Int)]] else []),k+(if x.2=true/\x.1++j9=nm then [kOf [(i:Int),(i:Int)]] else []).length):=fun c k=>by
  unfold st3;split
  .rw [Wh,o];rfl
  .rfl
 unfold uf;rw[p,r,t,Vy,Vy,q8,q8];simp only[Nat.add_assoc]
theorem qd2(nm):∀ l i c k,i+l.length<=4->nmS nm i l (c,k)=(fin c (yL i l nm),k+(yL i l nm).length)
 | [],i,c,k,_=>rfl
 |x :: l,i,c,k,h=>by
  simp only[zz]at h;have g:=fun c k=>qd2 nm l (i+1) c k zOm
  simp only[nmS,yL];rw[st_eq nm i zOm,g,Vy,q8,Nat.add_assoc]
theorem kO{ts}(h:okTS ts)(nm):named ts nm=(fin (aI 0 :: zs) (means ts nm),(means ts nm).length):=by
 unfold named means;rw[qd1 nm ts.sA _ _ fun f hf=>?_,qd2 nm ts.sS _ _ _ (zW1 h.ns),Vy,q8,Nat.zero_add];have:=h.fl f hf;have g:=h.ns;exact⟨zOm,fun x i=>zW1 (this.2.2 x i)⟩
end QK
namespace QL
open YF Y9 Y1 Y2 P1 QD QE QF QI QJ QK
abbrev cVw(c:Ck)(inn:Bool):List AV:=[lSo c.ts.sS,lFl c.ts.sA,lPd c.ts.sT,lFa c.ts.sP,lBo c.timed,aI c.calls,aB inn]
abbrev eVw(c:Ck)(inn:Bool):AV := .agg (cVw c inn)
def envS(s:Scp):List Vr:=s.reverse.map fun v=>(v.1,qs v.2)
theorem Wi(s):(envS s).length=s.length:=by simp[envS]
theorem qd3(env):envV env=envS (yi env):=by
 have h:∀(l:List (tM×Int))(a:Scp),l.foldl (fun s p=>(p.1,kOf [p.2]) :: s) a=(l.map fun p=>(p.1,kOf [p.2])).reverse++a:=by
  intro l;induction l with
  |nil=>intro a;rfl
  |cons p l g=>intro a;rw[List.foldl_cons,g];simp
 unfold envV envS yi;rw[h,zJ,List.reverse_reverse,List.map_map];rfl
theorem qrA(s d h g):(envS s)[s.length-1-d]=(s[d].1,qs s[d].2):=by
 have e:s.length-1-(s.length-1-d)=d:=zOm;simp[envS,List.getElem_reverse,e]
abbrev zR:RS:=(0,fun _=>false)
abbrev eDg(d:Dg):AV := .agg [aI d.1,aI d.2]
def endR(z:RS):Res->AV
 | .error e => .tup [eRS z,eDg e]
 | .ok (some k) => .tup [eRS (qs k),eDg (0,0)]
 | .ok none => .tup [eRS zR,eDg (0,0)]
theorem vA(s d):HF (.tup [eRS s,eDg d]):=HF.tup fun x g=>by
 rcases qw.1 g with rfl|g
 .exact yH s
 .rw [qT]at g;subst g
  exact HF.agg fun c i=>by
   rcases qw.1 i with rfl|i
   .exact HF.sc _
   .rw [qT]at i;subst i;exact HF.sc _
theorem cU{ts}(h:okTS ts):okNm ts:=⟨h.sl,zW1 h.ns,zW1 h.nf,fun f hf=>zW1 (h.fl f hf)⟩
theorem Kk(c)(hc:okCk c)(inn s n)(hs:s.length<=100000):qh qb 144 [eVw c inn,lVr (envS s),eNd n] (endR zR (jw c s n.name n.pos)):=by
 generalize i:endR zR (jw c s n.name n.pos)=R;unfold jw at i;refine qSV call144 func144 rfl ?_;have a1:=Wi s;have w0:qo.wrap ((s.length:Int)-1)=(s.length:Int)-1:=zWr;simp[go_sem,a1,w0];refine aK s.length (fun d U=>U.tm 1=lVr (envS s)/\U.tm 3 = .ip (cVw c inn)/\U.tm 5 = .ip (cNd n)/\U.tm 6 = .ptr 0 0/\U.tm 7 = .ptr 1 0/\U.tm 8=aI ((s.length:Int)-1-d)/\U.mu=[.arr (aI 0 :: hB fun _=>false),.arr [aI 0,aI 0]]/\jo n.name (s.drop d)=jo n.name s) ?_ ?_
 .exact ⟨zSi,zSi,zSi,zSi,zSi,zSi,by simp[go_sem];first|rfl|exact⟨rfl,rfl⟩,rfl⟩
 rintro d U hd ⟨e1,e3,r,p,I,j,hm,t⟩;by_cases J:d<s.length
 .have T:s.length-1-d<(envS s).length:=by omega
  have g:=qrA s d J T;obtain⟨e,he⟩:∃ e:Nat,e=s.length-1-d:=⟨_,rfl⟩;have a2:(s.length:Int)-1-d=(e:Int):=zOm;rw[a2]at j;rw[<-he]at T;have g:(envS s)[e]=(s[d].1,qs s[d].2):=by simp only[he];exact g
  have w1:qo.wrap ((e:Int)-1)=(s.length:Int)-1-((d+1:Nat):Int):=by rw[zWr];omega
  rw[zp J]at t;have h0:(0:Int)<=(e:Int):=zOm;by_cases hq:s[d].1=n.name
  .have hf:jo n.name s=s[d] :: s.drop (d+1):=by rw[<-t,jo,if_pos hq]
   rw[hf]at i;simp only[endR]at i;have i:R = .tup [eRS (qs s[d].2),eDg (0,0)]:=i.symm;subst i;simp[go_sem,j,hm];refine cL zKr ?_;simp[go_sem,e1,j,T,g,hq];generalize qs s[d].2=q at *
   simp[go_sem,e1,r,p,j,T,g,qv,tk,pc];rw[if_pos (zf _)];simp[go_sem,p,I,qv,tk];exact .hf _ (vA q (0,0))
  .rw [jo,if_neg hq]at t
   simp[go_sem,j,hm];refine cL zKr ?_;simp[go_sem,e1,r,j,T,g,jU hq,w1,qv];exact⟨zOm,aA ⟨zS1 e1,zS1 e3,zS1 r,zS1 p,zS1 I,zSi,zSi,t⟩⟩
 .have a3:d=s.length:=by omega
  subst a3;have j:U.tm 8=aI (-1):=by rw[j];congr 2;omega
  rw[zW]at t;rw[<-t]at i;simp only[jo]at i;have hN:=kB c.ts (cU hc.ts) n.name;have a0:=kA c.ts n.name;rw[kO hc.ts]at hN a0;simp[go_sem,e3,r,j,hm];refine tK hN (.zk (zm _) (.zs .nil)) ?_;have o:SetC (fin (aI 0 :: zs) (means c.ts n.name)):=a0;generalize a4:means c.ts n.name=ms at *
  match ms,a4 with
  | [],_ =>
   simp only[endR]at i;subst i;generalize fin (aI 0 :: zs) []=C at *
   simp[go_sem,o.len];rw[if_pos o.one];simp[go_sem];refine fD [0,1,2,3,4,5] [(0,0,[]),(1,0,[]),(2,0,[]),(3,0,[]),(4,1,[2]),(5,1,[])] zKr zKr zSi ?_;simp[go_sem,r,p,I,nu,qv];exact .hf _ (vA zR (_,n.pos))
  | [k],_ =>
   simp only[endR]at i;subst i;have e:fin (aI 0 :: zs) [k]=aI (qs k).1 :: hB (qs k).2:=rfl;rw[e]at o⊢;generalize qs k=q at *
   simp[go_sem,o.len];rw[if_pos (zf _)];generalize hP:putCells _ 0 (aI q.1 :: hB q.2)=P;have a5:P=aI q.1 :: hB q.2:=by rw[<-hP];exact pc (aI 0) _ (fun _=>false) _
   subst a5;clear hP;simp[go_sem,p,o.len,qv,tk,pc];rw[if_pos (zf _)];simp[go_sem,p,I,o.len,tk];exact .hf _ (vA q (0,0))
  |k1 :: k2 :: l,_ =>
   simp only[endR]at i;subst i;generalize fin (aI 0 :: zs) (k1 :: k2 :: l)=C at *
   simp[go_sem,o.len];rw[if_pos o.one];simp[go_sem];have a6:¬((l.length:Int)+1+1=0):=zOm;have a7:(1:Int)<(l.length:Int)+1+1:=zOm;simp[go_sem,a6,a7];refine fD [0,1,2,3,4,5] [(0,0,[]),(1,0,[]),(2,0,[]),(3,0,[]),(4,1,[2]),(5,1,[])] zKr zKr zSi ?_;simp[go_sem,r,p,I,nu,qv];exact .hf _ (vA zR (_,n.pos))
end QL
namespace QM
open Y1
theorem qrB(n):qh qb 91 [eNd n] (aB (decide (30<=n.op))):=by
 refine qSV call91 func91 rfl ?_;by_cases h:30<=n.op
 .simp [go_sem,h];exact .zsc _
 .simp [go_sem,h];exact .zsc _
end QM
namespace QN
open Y1 Y2 YF Y9 Y10 P1 P2 QD QE QF QH QL
def setO:Option Kd->RS
 |some k=>qs k
 |none=>zR
abbrev lRS(l:List RS):AV := .lst false (l.map cRS)
theorem qrC(v):∀ c,c∈cRS v->HF c:=fun c g=>((setC v).sc c g).2
theorem qrD(v):∀ c,c∈cRS v->c.one=true:=fun c g=>((setC v).sc c g).1
theorem kP(l:List RS):zl 65 (l.map cRS):=fun r g=>by
 obtain⟨v,_,rfl⟩:=qm.1 g
 grind [hB,zo,qrD]
theorem appRS{mu lo s x}{xs ys:List RS}{K}(j:OwnF lo mu 65 s (xs.map cRS))(l:qD mu x=some (ys.map cRS))(o:xs.length+ys.length<=100000)(p:∀ av mu',OwnF lo mu' 65 av ((xs++ys).map cRS)->(∀ i,i<lo->mu'[i]?=mu[i]?)->K av mu') :
  qy qb mu #[232,232] s x K:=by
 refine qy.ownF (lo:=lo) (e:=165) (sz:=65) (bt:=72) (zv := .agg (aI 0 :: zs)) (xs:=xs.map cRS) (ys:=ys.map cRS) zSi zSi (by simp[go_sem];rfl) rfl rfl zOm zOm j l (kP xs) (kP ys) zSo ?_
 grind
theorem rdRS{lo mu av l}(i:OwnF lo mu 65 av (l.map cRS)):Rd mu av (lRS l):=
 Own.rd (sz:=65) i.1 (kP l).ok fun r j c o=>by
  obtain⟨v,_,rfl⟩:=qm.1 j;exact qrC v c o
theorem jX(s b):HF (.tup [eRS s,aB b]):=HF.tup fun x g=>by
 rcases qw.1 g with rfl|g
 .exact yH s
 grind [qT,HF.sc]
def ApE(op:Int):Res->RS->Bool->Prop
 | .ok k,S,b=>b=true/\(kd op=101->∃ q,k=some q/\S=qs q)
 | .error _,S,b=>b=false
theorem wkS1(a):WKs [eRS a] [eRS a] := .zk (yH _) .nil
theorem wkS2(a b):WKs [eRS a,eRS b] [eRS a,eRS b] := .zk (yH _) (.zk (yH _) .nil)
theorem wkTI(ts k):WKs [eTS ts,aI k] [eTS ts,aI k] := .zk (zm _) (.zs .nil)
theorem qd4(n):eRS (n,fun _=>false)=eRS (qs ⟨n,[]⟩):=Qt rfl fun j _=>(decide_eq_false fun h=>absurd h.2 qH).symm
def itS:Nat->RS->RS
 | 0,s=>s
 |i+1,s=>uniS (itS i s) (Z7 (itS i s) (itS i s))
theorem qd5(s):∀ i,(itS i s).1=s.1
 | 0=>rfl
 |i+1=>qd5 s i
theorem qd6(g)(h:1<=g.1/\g.1<=3):qh qb 198 [eRS g] (eRS (itS 4 g)):=by
 refine qSQ call198 func198 rfl { mt:=[1] } ?_;simp[go_sem];refine⟨zf _,?_⟩;refine aK 4 (fun i U=>U.tm 1 = .ptr 0 0/\U.tm 2 = .ptr 1 0/\U.tm 3=aI i/\U.mu=[.arr (cRS (itS i g)),.arr (aI 0 :: hB fun _=>false)]) ?_ ?_
 .exact ⟨zSi,zSi,zSi,by simp[go_sem];exact⟨⟨rfl,rfl⟩,rfl⟩⟩
 rintro i U hi ⟨l,p,r,t⟩;by_cases J:i<4
 .have j:(i:Int)<4:=by omega
  have w1:=zWk i;have P:=qd5 g i;have R:=wo (itS i g) (itS i g) zOm zOm;have C:=vt (itS i g) (Z7 (itS i g) (itS i g));have I:uniS (itS i g) (Z7 (itS i g) (itS i g))=itS (i+1) g:=rfl;rw[I]at C;clear I;generalize T:itS (i+1) g=s' at *
  generalize Z7 (itS i g) (itS i g)=q at *
  generalize itS i g=s at *
  simp[go_sem,r,t,j];refine cL zKr ?_;simp[go_sem,l,qv,tk];refine fR R (.zk (yH _) (.zk (yH _) .nil)) ?_;refine tK C (.zk (yH _) (.zk (yH _) .nil)) ?_;simp[go_sem,l,qv,pc];rw[if_pos (zf _)];simp_all[go_sem,aA]
 .have o:i=4:=by omega
  subst o;generalize itS 4 g=s at *
  simp[go_sem,l,p,r,t,qv,tk,pc];rw[if_pos (zf _)];simp[go_sem,p,qv,tk];exact .hf _ (yH s)
def prC(ts:TS)(n:Nd)(l:List RS)(S:RS)(b:Bool):Prop:=qh qb 147 [eTS ts,eNd n,lRS l] (.tup [eRS S,aB b])
theorem ap2(ts n L)(h:n.op=2):prC ts n L (n.n,fun _=>false) true:=by
 unfold prC;refine qSV call147 func147 rfl ?_;simp[go_sem,h];exact .hf _ (jX (n.n,fun _=>false) true)
theorem ap3(ts)(ok:okTS ts)(n L)(h:n.op=3):prC ts n L (qs (zB ts.sS.length 1)) true:=by
 unfold prC;refine qSV call147 func147 rfl ?_;have c1:=allU ts ok 1 zOm;generalize qs (zB ts.sS.length 1)=q at *
 simp[go_sem,h];refine tK c1 (wkTI ts 1) ?_;simp[go_sem,qv];rw[if_pos (zf _)];generalize i:putCells _ 0 (aI q.1 :: hB q.2)=P;have g:P=aI q.1 :: hB q.2:=by rw[<-i];exact pc (aI 0) _ (fun _=>false) _
 subst g;clear i;simp[go_sem,qv,tk];exact .hf _ (jX q _)
theorem ap4(ts)(ok:okTS ts)(n L)(h:n.op=4):prC ts n L (qs (zB ts.sS.length 2)) true:=by
 unfold prC;refine qSV call147 func147 rfl ?_;have c1:=allU ts ok 2 zOm;generalize qs (zB ts.sS.length 2)=q at *
 simp[go_sem,h];refine tK c1 (wkTI ts 2) ?_;simp[go_sem,qv];rw[if_pos (zf _)];generalize i:putCells _ 0 (aI q.1 :: hB q.2)=P;have g:P=aI q.1 :: hB q.2:=by rw[<-i];exact pc (aI 0) _ (fun _=>false) _
 subst g;clear i;simp[go_sem,qv,tk];exact .hf _ (jX q _)
theorem ap5(ts n q)(h:n.op=5):prC ts n [q] q true:=by
 unfold prC;refine qSV call147 func147 rfl ?_;simp[go_sem,h,qv,tk];rw[if_pos (zf _)];generalize i:putCells _ 0 (aI q.1 :: hB q.2)=P;have g:P=aI q.1 :: hB q.2:=by rw[<-i];exact pc (aI 0) _ (fun _=>false) _
 subst g;clear i;simp[go_sem,qv,tk];exact .hf _ (jX q _)
theorem ap6(ts n q r S)(h:n.op=6)(c:qh qb 193 [eRS q,eRS r] (eRS S)):prC ts n [q,r] S (decide (q.1=r.1)):=by
 unfold prC;refine qSV call147 func147 rfl ?_;simp[go_sem,h];refine fD [0,1,2,3,4,5,7,8,9,10,11,12,13,14,15,17,6,16] [(0,0,[]),(1,0,[]),(2,0,[]),(3,0,[]),(4,0,[]),(5,0,[]),(7,0,[]),(8,0,[]),(9,0,[]),(10,0,[]),(11,0,[]),(12,0,[]),(13,0,[]),(14,0,[]),(15,0,[]),(17,0,[]),(6,1,[10,14]),(16,1,[10,14])] zKr zKr zSi ?_;simp[go_sem,qv,tk];refine tK c (wkS2 q r) ?_;simp[go_sem,qv];rw[if_pos (zf _)];generalize i:putCells _ 0 (aI S.1 :: hB S.2)=P;have g:P=aI S.1 :: hB S.2:=by rw[<-i];exact pc (aI 0) _ (fun _=>false) _
 subst g;clear i;simp[go_sem,qv,tk];exact .hf _ (jX S _)
theorem ap14(ts n q r S)(h:n.op=14)(c:qh qb 193 [eRS q,eRS r] (eRS S)):prC ts n [q,r] S (decide (q.1=r.1)):=by
 unfold prC;refine qSV call147 func147 rfl ?_;simp[go_sem,h];refine fD [0,1,2,3,4,5,7,8,9,10,11,12,13,14,15,17,6,16] [(0,0,[]),(1,0,[]),(2,0,[]),(3,0,[]),(4,0,[]),(5,0,[]),(7,0,[]),(8,0,[]),(9,0,[]),(10,0,[]),(11,0,[]),(12,0,[]),(13,0,[]),(14,0,[]),(15,0,[]),(17,0,[]),(6,1,[10,14]),(16,1,[10,14])] zKr zKr zSi ?_;simp[go_sem,qv,tk];refine tK c (wkS2 q r) ?_;simp[go_sem,qv];rw[if_pos (zf _)];generalize i:putCells _ 0 (aI S.1 :: hB S.2)=P;have g:P=aI S.1 :: hB S.2:=by rw[<-i];exact pc (aI 0) _ (fun _=>false) _
 subst g;clear i;simp[go_sem,qv,tk];exact .hf _ (jX S _)
theorem ap7(ts n q r S)(h:n.op=7)(c:qh qb 194 [eRS q,eRS r] (eRS S)):prC ts n [q,r] S (decide (q.1=r.1)):=by
 unfold prC;refine qSV call147 func147 rfl ?_;simp[go_sem,h];refine fD [0,1,2,3,4,5,7,8,9,10,11,12,13,14,15,17,6,16] [(0,0,[]),(1,0,[]),(2,0,[]),(3,0,[]),(4,0,[]),(5,0,[]),(7,0,[]),(8,0,[]),(9,0,[]),(10,0,[]),(11,0,[]),(12,0,[]),(13,0,[]),(14,0,[]),(15,0,[]),(17,0,[]),(6,1,[10,14]),(16,1,[10,14])] zKr zKr zSi ?_;simp[go_sem,qv,tk];refine tK c (wkS2 q r) ?_;simp[go_sem,qv];rw[if_pos (zf _)];generalize i:putCells _ 0 (aI S.1 :: hB S.2)=P;have g:P=aI S.1 :: hB S.2:=by rw[<-i];exact pc (aI 0) _ (fun _=>false) _
 subst g;clear i;simp[go_sem,qv,tk];exact .hf _ (jX S _)
theorem ap8(ts n q r)(h:n.op=8):prC ts n [q,r] q (decide (q.1=r.1)):=by
 unfold prC;refine qSV call147 func147 rfl ?_;simp[go_sem,h];refine fD [0,1,2,3,4,5,6,7,8,9,10,11,13,12] [(0,0,[]),(1,0,[]),(2,0,[]),(3,0,[]),(4,0,[]),(5,0,[]),(6,0,[]),(7,0,[]),(8,0,[]),(9,0,[]),(10,0,[]),(11,0,[]),(13,0,[]),(12,1,[6,10])] zKr zKr zSi ?_;simp[go_sem,qv,tk];rw[if_pos (zf _)];generalize i:putCells _ 0 (aI q.1 :: hB q.2)=P;have g:P=aI q.1 :: hB q.2:=by rw[<-i];exact pc (aI 0) _ (fun _=>false) _
 subst g;clear i;simp[go_sem,qv,tk];exact .hf _ (jX q _)
theorem ap32(ts n q r)(h:n.op=32):prC ts n [q,r] zR (decide (q.1=r.1)):=by
 unfold prC;refine qSV call147 func147 rfl ?_;simp[go_sem,h];refine fD [0,1,2,3,4,5,6,7,8,9,11,10] [(0,0,[]),(1,0,[]),(2,0,[]),(3,0,[]),(4,0,[]),(5,0,[]),(6,0,[]),(7,0,[]),(8,0,[]),(9,0,[]),(11,0,[]),(10,1,[4,8])] zKr zKr zSi ?_;simp[go_sem,qv];exact .hf _ (jX zR _)
theorem ap33(ts n q r)(h:n.op=33):prC ts n [q,r] zR (decide (q.1=r.1)):=by
 unfold prC;refine qSV call147 func147 rfl ?_;simp[go_sem,h];refine fD [0,1,2,3,4,5,6,7,8,9,11,10] [(0,0,[]),(1,0,[]),(2,0,[]),(3,0,[]),(4,0,[]),(5,0,[]),(6,0,[]),(7,0,[]),(8,0,[]),(9,0,[]),(11,0,[]),(10,1,[4,8])] zKr zKr zSi ?_;simp[go_sem,qv];exact .hf _ (jX zR _)
theorem ap9(ts n q r S)(h:n.op=9)(p:0<=q.1/\q.1<=1000)(t:0<=r.1/\r.1<=1000)(c:qh qb 195 [eRS q,eRS r] (eRS S)):prC ts n [q,r] S (decide (1<=q.1+r.1-2/\q.1+r.1-2<=3)):=by
 unfold prC;refine qSV call147 func147 rfl ?_;have l:qo.wrap (q.1+r.1)=q.1+r.1:=zWr;have o:qo.wrap (q.1+r.1-2)=q.1+r.1-2:=zWr;simp[go_sem,h];refine cL zKr ?_;simp[go_sem,qv,l,o];refine cL zKr ?_;by_cases j:1<=q.1+r.1-2
 .simp [go_sem,qv,tk,j]
  refine tK c (wkS2 q r) ?_;simp[go_sem,qv,j];rw[if_pos (zf _)];generalize i:putCells _ 0 (aI S.1 :: hB S.2)=P;have g:P=aI S.1 :: hB S.2:=by rw[<-i];exact pc (aI 0) _ (fun _=>false) _
  subst g;clear i;simp[go_sem,qv,tk];exact .hf _ (jX S _)
 .simp [go_sem,qv,tk,j]
  refine tK c (wkS2 q r) ?_;simp[go_sem,qv,j];rw[if_pos (zf _)];generalize i:putCells _ 0 (aI S.1 :: hB S.2)=P;have g:P=aI S.1 :: hB S.2:=by rw[<-i];exact pc (aI 0) _ (fun _=>false) _
  subst g;clear i;simp[go_sem,qv,tk];exact .hf _ (jX S _)
theorem ap10(ts n q r S)(h:n.op=10)(l:0<=q.1/\q.1<=1000)(o:0<=r.1/\r.1<=1000)(c:qh qb 196 [eRS q,eRS r] (eRS S)):prC ts n [q,r] S (decide (q.1+r.1<=3)):=by
 unfold prC;refine qSV call147 func147 rfl ?_;have j:qo.wrap (q.1+r.1)=q.1+r.1:=zWr;simp[go_sem,h];refine fD [0,1,2,3,4,5,7,8,9,10,11,12,13,14,15,16,18,6,17] [(0,0,[]),(1,0,[]),(2,0,[]),(3,0,[]),(4,0,[]),(5,0,[]),(7,0,[]),(8,0,[]),(9,0,[]),(10,0,[]),(11,0,[]),(12,0,[]),(13,0,[]),(14,0,[]),(15,0,[]),(16,0,[]),(18,0,[]),(6,1,[10,14]),(17,1,[10,14])] zKr zKr zSi ?_;simp[go_sem,qv,tk,j];refine tK c (wkS2 q r) ?_;simp[go_sem,qv];rw[if_pos (zf _)];generalize i:putCells _ 0 (aI S.1 :: hB S.2)=P;have g:P=aI S.1 :: hB S.2:=by rw[<-i];exact pc (aI 0) _ (fun _=>false) _
 subst g;clear i;simp[go_sem,qv,tk];exact .hf _ (jX S _)
theorem ap11(ts n q S)(h:n.op=11)(c:qh qb 197 [eRS q] (eRS S)):prC ts n [q] S (decide (q.1=2)):=by
 unfold prC;refine qSV call147 func147 rfl ?_;simp[go_sem,h];refine fD [0,1,2,4,5,6,7,8,10,3,9] [(0,0,[]),(1,0,[]),(2,0,[]),(4,0,[]),(5,0,[]),(6,0,[]),(7,0,[]),(8,0,[]),(10,0,[]),(3,1,[7]),(9,1,[7])] zKr zKr zSi ?_;simp[go_sem,qv,tk];refine tK c (wkS1 q) ?_;simp[go_sem,qv];rw[if_pos (zf _)];generalize i:putCells _ 0 (aI S.1 :: hB S.2)=P;have g:P=aI S.1 :: hB S.2:=by rw[<-i];exact pc (aI 0) _ (fun _=>false) _
 subst g;clear i;simp[go_sem,qv,tk];exact .hf _ (jX S _)
theorem ap12(ts n q S)(h:n.op=12)(c:qh qb 198 [eRS q] (eRS S)):prC ts n [q] S (decide (q.1=2)):=by
 unfold prC;refine qSV call147 func147 rfl ?_;simp[go_sem,h];refine fD [0,1,2,4,5,6,7,8,10,3,9] [(0,0,[]),(1,0,[]),(2,0,[]),(4,0,[]),(5,0,[]),(6,0,[]),(7,0,[]),(8,0,[]),(10,0,[]),(3,1,[7]),(9,1,[7])] zKr zKr zSi ?_;simp[go_sem,qv,tk];refine tK c (wkS1 q) ?_;simp[go_sem,qv];rw[if_pos (zf _)];generalize i:putCells _ 0 (aI S.1 :: hB S.2)=P;have g:P=aI S.1 :: hB S.2:=by rw[<-i];exact pc (aI 0) _ (fun _=>false) _
 subst g;clear i;simp[go_sem,qv,tk];exact .hf _ (jX S _)
theorem ap13(ts)(ok:okTS ts)(n q C S)(h:n.op=13)(c:qh qb 198 [eRS q] (eRS C))(c2:qh qb 193 [eRS C,eRS (qs (zB ts.sS.length 2))] (eRS S)):prC ts n [q] S (decide (q.1=2)):=by
 unfold prC;refine qSV call147 func147 rfl ?_;have c1:=allU ts ok 2 zOm;generalize qs (zB ts.sS.length 2)=D at *
 simp[go_sem,h];refine fD [0,1,2,4,7,8,9,10,11,13,3,5,6,12] [(0,0,[]),(1,0,[]),(2,0,[]),(4,0,[]),(7,0,[]),(8,0,[]),(9,0,[]),(10,0,[]),(11,0,[]),(13,0,[]),(3,1,[4,10]),(5,1,[10]),(6,1,[10]),(12,1,[10])] zKr zKr zSi ?_;simp[go_sem,qv,tk];refine tK c (wkS1 q) ?_;simp[go_sem,qv];refine tK c1 (wkTI ts 2) ?_;simp[go_sem,qv];refine tK c2 (wkS2 C D) ?_;simp[go_sem,qv];rw[if_pos (zf _)];generalize i:putCells _ 0 (aI S.1 :: hB S.2)=P;have g:P=aI S.1 :: hB S.2:=by rw[<-i];exact pc (aI 0) _ (fun _=>false) _
 subst g;clear i;simp[go_sem,qv,tk];exact .hf _ (jX S _)
theorem apO(ts n L)(t:n.op≠2)(C:n.op≠3)(I:n.op≠4)(J:n.op≠5)(P:n.op≠6)(g:n.op≠14)(R:n.op≠7)(T:n.op≠8)(i:n.op≠32)(j:n.op≠33)(U:n.op≠9)(l:n.op≠10)(o:n.op≠11)(p:n.op≠12)(r:n.op≠13):prC ts n L zR true:=by
 unfold prC;refine qSV call147 func147 rfl ?_;simp[go_sem,t,C,I,J,P,g,R,T,i,j,U,l,o,p,r];exact .hf _ (jX zR true)
end QN
namespace QO
open YF Y9 Y10 Y1 Y2 Y3 Y12 Y13 P1 P2 QD QE QF QH QI QJ QL QN PG PC
section
variable {nm:tM}{ts:TS}
theorem qd7{n L S g b}(e:eRS S=eRS g)(h:prC ts n L S b):prC ts n L g b:=by
 grind [prC]
theorem qrE{n a b}(j:n.op=6\/n.op=14\/n.op=7\/n.op=8\/n.op=32\/n.op=33):∃ S,prC ts n [qs a,qs b] S (decide (a.ar=b.ar))/\(a.ar=b.ar->kd n.op=101->S=qs (ug n.op a b)):=by
 have l:∀ op:Int,op=6\/op=14->ug op a b=kSum a b:=fun op h=>by unfold ug;rw[if_pos h]
 by_cases g:a.ar=b.ar
 .rcases j with h|h|h|h|h|h
  .exact ⟨_,ap6 ts n _ _ _ h (by have:=vt (qs a) (qs b);rw[Vs g]at this;exact this),fun _ _=>by grind⟩
  .exact ⟨_,ap14 ts n _ _ _ h (by have:=vt (qs a) (qs b);rw[Vs g]at this;exact this),fun _ _=>by grind⟩
  .exact ⟨_,ap7 ts n _ _ _ h (by have:=UD (qs a) (qs b);rw[qqT g]at this;exact this),fun _ _=>by rw[h];rfl⟩
  .exact ⟨_,ap8 ts n _ _ h,fun _ _=>by rw[h];rfl⟩
  .exact ⟨_,ap32 ts n _ _ h,fun _ i=>by rw[h]at i;exact absurd i zDe⟩
  .exact ⟨_,ap33 ts n _ _ h,fun _ i=>by rw[h]at i;exact absurd i zDe⟩
 .rcases j with h|h|h|h|h|h
  .exact ⟨_,ap6 ts n _ _ _ h (vt (qs a) (qs b)),fun e=>absurd e g⟩
  .exact ⟨_,ap14 ts n _ _ _ h (vt (qs a) (qs b)),fun e=>absurd e g⟩
  .exact ⟨_,ap7 ts n _ _ _ h (UD (qs a) (qs b)),fun e=>absurd e g⟩
  .exact ⟨_,ap8 ts n _ _ h,fun e=>absurd e g⟩
  .exact ⟨_,ap32 ts n _ _ h,fun e=>absurd e g⟩
  .exact ⟨_,ap33 ts n _ _ h,fun e=>absurd e g⟩
theorem qrF(ok:okTS ts){n a}(l:okKd ts.sS.length a)(o:n.op=11\/n.op=12\/n.op=13):∃ S,prC ts n [qs a] S (decide (a.ar=2))/\(a.ar=2->S=qs (binK ts.sS.length n.op a)):=by
 have i:=ok.ns;by_cases g:a.ar=2
 .have p:=Uo l g i
  rcases o with h|h|h
  .exact ⟨_,ap11 ts n _ _ h (by have:=qdR (qs a);rw[qqZ l i g]at this;exact this),fun _=>by rw[h];rfl⟩
  .exact ⟨_,ap12 ts n _ _ h p,fun _=>by rw[h];rfl⟩
  .refine ⟨_,ap13 ts ok n _ _ (qs (kSum (kClo a) (zB ts.sS.length 2))) h p ?_,fun _=>by rw[h];rfl⟩
   have:=vt (qs (kClo a)) (qs (zB ts.sS.length 2));rw[Vs (show (kClo a).ar=2 from (UM l g).2)]at this;exact this
 .have j:=l.ar
  rcases o with h|h|h
  .exact ⟨_,ap11 ts n _ _ h (qdR (qs a)),fun e=>absurd e g⟩
  .exact ⟨_,ap12 ts n _ _ h (qd6 (qs a) j),fun e=>absurd e g⟩
  .exact ⟨_,ap13 ts ok n _ _ _ h (qd6 (qs a) j) (vt _ _),fun e=>absurd e g⟩
theorem qrG(ts)(ok:okTS ts)(n l L)(e1:n.op≠1)(a0:n.op≠15)
  (h1:n.op=5\/n.op=11\/n.op=12\/n.op=13->∃ a,l=[some a]/\L=[qs a]/\okKd ts.sS.length a)
  (h2:n.op=6\/n.op=14\/n.op=7\/n.op=8\/n.op=32\/n.op=33\/n.op=9\/n.op=10->∃ a b,l=[some a,some b]/\L=[qs a,qs b]/\okKd ts.sS.length a/\okKd ts.sS.length b) :
  ∃ S b,prC ts n L S b/\ApE n.op (yf ts.sS.length n.op n.n n.pos l) S b:=by
 have t:=ok.ns;by_cases j:n.op=2
 .refine ⟨qs ⟨n.n,[]⟩,true,qd7 (qd4 n.n) (ap2 ts n L j),?_⟩
  unfold yf;rw[if_pos j];exact⟨rfl,fun _=>⟨_,rfl,rfl⟩⟩
 by_cases o:n.op=3
 .refine ⟨_,true,ap3 ts ok n L o,?_⟩
  unfold yf;rw[if_neg j,if_pos o];exact⟨rfl,fun _=>⟨_,rfl,rfl⟩⟩
 by_cases r:n.op=4
 .refine ⟨_,true,ap4 ts ok n L r,?_⟩
  unfold yf;rw[if_neg j,if_neg o,if_pos r];exact⟨rfl,fun _=>⟨_,rfl,rfl⟩⟩
 by_cases g1:n.op=5\/n.op=11\/n.op=12\/n.op=13
 .obtain ⟨a,rfl,rfl,C⟩:=h1 g1
  rw[apK1,if_neg j,if_neg o,if_neg r];by_cases J:n.op=5
  .rw [if_pos J]
   exact⟨_,true,ap5 ts n _ J,rfl,fun _=>⟨_,rfl,rfl⟩⟩
  have g:n.op=11\/n.op=12\/n.op=13:=zOm;rw[if_neg J,if_pos g];obtain⟨S,P,R⟩:=qrF ok C g;refine⟨S,_,P,?_⟩;by_cases i:a.ar=2
  .rw [if_pos i]
   exact⟨decide_eq_true i,fun _=>⟨_,rfl,R i⟩⟩
  .rw [if_neg i]
   exact decide_eq_false i
 by_cases g2:n.op=6\/n.op=14\/n.op=7\/n.op=8\/n.op=32\/n.op=33\/n.op=9\/n.op=10
 .obtain ⟨a,b,rfl,rfl,C,T⟩:=h2 g2
  have ra:=C.ar;have rb:=T.ar;rw[apK2,if_neg j,if_neg o,if_neg r];by_cases U:n.op=6\/n.op=14\/n.op=7\/n.op=8\/n.op=32\/n.op=33
  .rw [if_pos U]
   obtain⟨S,P,R⟩:=qrE (ts:=ts) (n:=n) (a:=a) (b:=b) U;refine⟨S,_,P,?_⟩;by_cases i:a.ar=b.ar
   .rw [if_pos i]
    exact⟨decide_eq_true i,fun hk=>⟨_,rfl,R i hk⟩⟩
   .rw [if_neg i]
    exact decide_eq_false i
  rw[if_neg U];by_cases I:n.op=9
  .rw [if_pos I]
   by_cases i:1<=a.ar+b.ar-2/\a.ar+b.ar-2<=3
   .rw [if_pos i]
    refine⟨_,_,ap9 ts n _ _ (qs (zN a b)) I (by show 0<=a.ar/\a.ar<=1000;omega) (by show 0<=b.ar/\b.ar<=1000;omega) ?_,decide_eq_true i,fun _=>⟨_,rfl,rfl⟩⟩;rw[<-qdW C T t i];exact wo _ _ (by show 0<=a.ar/\a.ar<=1000;omega) (by show 1<=b.ar/\b.ar<=1000;omega)
   .rw [if_neg i]
    exact⟨_,_,ap9 ts n _ _ _ I (by show 0<=a.ar/\a.ar<=1000;omega) (by show 0<=b.ar/\b.ar<=1000;omega) (wo _ _ (by show 0<=a.ar/\a.ar<=1000;omega) (by show 1<=b.ar/\b.ar<=1000;omega)),decide_eq_false i⟩
  have p:n.op=10:=zOm;rw[if_neg I,if_pos p];by_cases i:a.ar+b.ar<=3
  .rw [if_pos i]
   refine⟨_,_,ap10 ts n _ _ (qs (uL a b)) p (by show 0<=a.ar/\a.ar<=1000;omega) (by show 0<=b.ar/\b.ar<=1000;omega) ?_,decide_eq_true i,fun _=>⟨_,rfl,rfl⟩⟩;rw[<-qqU C T t i];exact qdS _ _ (by show 0<=a.ar/\a.ar<=1000;omega) (by show 0<=b.ar/\b.ar<=1000;omega)
  .rw [if_neg i]
   exact⟨_,_,ap10 ts n _ _ _ p (by show 0<=a.ar/\a.ar<=1000;omega) (by show 0<=b.ar/\b.ar<=1000;omega) (qdS _ _ (by show 0<=a.ar/\a.ar<=1000;omega) (by show 0<=b.ar/\b.ar<=1000;omega)),decide_eq_false i⟩
 refine⟨zR,true,apO ts n L j o r zOm zOm zOm zOm zOm zOm zOm zOm zOm zOm zOm zOm,?_⟩;rw[UL j o r zOm zOm zOm zOm zOm zOm zOm zOm zOm zOm zOm zOm];refine⟨rfl,fun hk=>?_⟩;have:=UN hk;omega
theorem qrH{ns}(o:ns<=4){q}(h:okKd ns q)(l:q.ar=1)(i):uM i q=true↔∀ k,k<4->(qs q).2 k=true->(k:Int)=i:=by
 unfold uM;rw[zo];constructor
 .intro p k J r
  rw[yU,l]at r;have:=p _ r.2;simpa[dig,pad] using this
 .intro p t C
  obtain⟨j,I,e⟩:=Jh h o C;rw[l]at I e;have g:j<4:=I;have:=p j g ((yU q j).2 ⟨by rw[l];exact g,by rw[l,<-e];exact C⟩);rw[e];simp[dig,pad,this]
def ExR(c:Ck)(s:Scp)(inn:Bool)(n:Nd):Prop:=∃ S:RS,qh qb 92 [eVw c inn,lVr (envS s),eNd n] (.tup [eRS S,eDg (dgOf (exam c s inn n))])/\(kd n.op=101->∀ q,exam c s inn n = .ok (some q)->S=qs q)
theorem qd8(c inn):HF (eVw c inn):=HF.agg fun x g=>by
 simp only[qw,qH,or_false]at g;rcases g with rfl|rfl|rfl|rfl|rfl|rfl|rfl
 .exact Us _
 .exact JQ _
 .exact Zj _
 .exact Ur _
 .exact Vx _
 .exact HF.sc _
 .exact HF.sc _
theorem wkE(c inn l n):WKs [eVw c inn,lVr l,eNd n] [eVw c inn,lVr l,eNd n] := .zk (qd8 c inn) (.zk (qq9 _) (.zk (qK n) .nil))
theorem wJ(d):HF (eDg d):=HF.agg fun x g=>by
 simp only[qw,qH,or_false]at g;rcases g with rfl|rfl<;>exact HF.sc _
theorem qd9{c p}(i:okCk c)(h:zu c nm=some p):(c.ts.sT.any fun p=>decide (p.name=nm))=true:=by
 obtain⟨_,j⟩:=Zl i h;unfold zu at h;rw[List.findIdx?_eq_some_iff_getElem]at h;obtain⟨l,g,_⟩:=h;simp only[List.getElem_take]at g;exact List.any_eq_true.2 ⟨_,qp j,g⟩
theorem qrI(h:zu (mkCk ts ts.sT.length) nm=none):(ts.sT.any fun p=>decide (p.name=nm))=false:=by
 unfold zu at h;rw[List.findIdx?_eq_none_iff]at h;rw[List.any_eq_false];intro p g;have:p∈ts.sT.take ts.sT.length:=by rw[qO];exact g
 have:=h p this
 grind
theorem kn{n}(i:WfN n)(h:n.op=47):∀ k,k∈n.sD->kd k.op=101:=by
 have g:=i.shape;have e:shp n.op n.sD.length=some (qY (min n.sD.length 401) 101):=by
  unfold shp;rw[zIn,zIn,zIn,zIn,zIn,zIn,zIn,if_pos h]
 rw[e]at g;simp only[qu]at g;intro k j;have:kd k.op∈n.sD.map fun k=>kd k.op:=qm.2 ⟨k,j,rfl⟩
 grind
theorem qrJ(c)(hc:okCk c)(s)(hs:ScOk c.ts.sS.length s)(n)(hw:WfN n)(b1:n.op=47)(ih:∀ k,k∈n.sD->ExR c s true k)(inn) :
  qh qb 145 [eVw c inn,lVr (envS s),eNd n] (eDg (dgOf (uQ c s n))):=by
 generalize hR:uQ c s n=R;unfold uQ at hR;refine qSQ call145 func145 rfl { mt:=[3] } ?_;have be:=hc.ts.np;have bg:=hw.len;have b2:=Vw c hc n.name;have b3:=Vw (mkCk c.ts c.ts.sT.length) (uP hc.ts (qr _)) n.name;have ao:∀ k:Int,WKs [eTS c.ts,aI k,aS n.name] [eTS c.ts,aI k,aS n.name]:=fun k => .zk (zm _) (.zs (.zs .nil))
 simp[go_sem];refine tK b2 (ao _) ?_;cases T:zu c n.name with
 |none =>
  rw[T]at hR;simp[go_sem,idxO];refine tK b3 (ao _) ?_;cases a3:zu (mkCk c.ts c.ts.sT.length) n.name with
  |none =>
   rw[qrI a3]at hR;subst hR;simp[go_sem,idxO,dgOf];exact .hf _ (wJ (40,n.pos))
  |some p =>
   have ha:(c.ts.sT.any fun p=>decide (p.name=n.name))=true:=qd9 (c:=mkCk c.ts c.ts.sT.length) (uP hc.ts (qr _)) a3;rw[ha]at hR;subst hR;have ab:¬(p:Int)<0:=zOm;simp[go_sem,idxO,dgOf,ab];exact .hf _ (wJ (45,n.pos))
 |some p =>
  obtain⟨_,ad⟩:=Zl hc T;rw[qd9 hc T,if_pos rfl,T]at hR;simp only[qz ad]at hR;have ab:¬(p:Int)<0:=zOm;have bh:=hc.ts.pl _ (qp ad);simp[go_sem,idxO,ad,ab];generalize bi:c.ts.sT[p]=C at *
  by_cases a1:C.params.length=n.sD.length
  .rw [if_pos a1]at hR
   simp[go_sem,a1];have b4:=kn hw b1;refine aK C.params.length (fun k U=>U.tm 1=lVr (envS s)/\U.tm 3 = .ptr 0 0/\U.tm 5 = .ip (cNd n)/\U.tm 6 = .ptr 1 0/\U.tm 8=lPm C.params/\U.tm 9=aI k/\U.mu[0]?=some (.arr (cVw c true))/\U.mu[1]?=some (.arr [aI 0,aI 0])/\yb c s n.pos (C.params.drop k) (n.sD.drop k)=R) ?_ ?_
   .simp [go_sem, *]
   rintro k U hk ⟨e1,e3,e5,e6,e8,e9,m0,m1,t⟩;have a8:1<U.mu.length:=(qj.1 m1).1;have I:∀(l:List Cell)(i:Nat),i<U.mu.length->(U.mu++l)[i]?=U.mu[i]?:=fun l i hi=>qM hi
   have a0:∀ c,(U.mu.set 1 c)[1]?=some c:=fun c=>qL a8
   have ae:∀ c (l:List Cell),((U.mu++l).set 1 c)[1]?=some c:=fun c l=>qL zSo
   have af:∀(l:List Cell)(h:0<(U.mu++l).length),(U.mu++l)[0] = .arr (cVw c true):=fun l h=>by
    grind
   have ag:∀(l:List Cell)(h:1<(U.mu++l).length),(U.mu++l)[1] = .arr [aI 0,aI 0]:=fun l h=>by
    grind
   by_cases aq:k=C.params.length
   .subst aq
    rw[zW,a1,zW]at t;simp only[yb]at t;subst t;simp[go_sem,e6,e8,e9,m1,a1,dgOf,a0];exact .hf _ (wJ (0,0))
   have o:k<C.params.length:=zOm;have r:k<n.sD.length:=zOm;have w1:=zWk k;obtain⟨S,hi,hS⟩:=ih n.sD[k] (qp r);rw[zp o,zp r]at t;simp only[yb]at t;have b5:=uj hc (szN n.sD[k]) n.sD[k] s true;have au:=b4 n.sD[k] (qp r);have av:=hw.kid (qp r);simp[go_sem,e8,e9,o];refine fD [0,1,2,3,4,5,6,7,8,9,10,11,12,13,14] [(0,0,[]),(1,0,[]),(2,0,[]),(3,0,[]),(4,0,[]),(5,0,[]),(6,0,[]),(7,1,[]),(8,0,[]),(9,0,[]),(10,0,[]),(11,2,[0,3,6]),(12,2,[0,3,6]),(13,1,[]),(14,1,[])] zKr zKr zSi ?_;simp[go_sem,e1,e3,e5,e9,m0,r];refine tK hi (wkE c true _ _) ?_;cases hx:exam c s true n.sD[k] with
   |error e =>
    rw[hx]at t;subst t;have he:=Vn c (szN n.sD[k]) n.sD[k] s true e (qr _) hx;have b6:¬e.1=0:=zOm;simp[go_sem,e3,qv,af,dgOf];rw[if_pos (zf _)];generalize hP:putCells _ 0 (aI S.1 :: hB S.2)=P;have ah:P=aI S.1 :: hB S.2:=by rw[<-hP];exact pc (aI 0) _ (fun _=>false) _
    subst ah;clear hP;simp[go_sem,e6,b6];simp[go_sem,ag,e6];exact .hf _ (wJ e)
   |ok ko =>
    obtain⟨q,rfl,hq⟩:=b5 ko (qr _) av hs hx au;have b7:=hS au q hx;subst b7;rw[hx]at t;simp only at t;have b8:=hc.ts.ns;have aw:(qs q).1=q.ar:=rfl;have ax:=fun h=>qrH b8 hq h C.params[k].2
    generalize qs q=Q at *
    simp[go_sem,e3,qv,af,dgOf];rw[if_pos (zf _)];generalize hP:putCells _ 0 (aI Q.1 :: hB Q.2)=P;have ah:P=aI Q.1 :: hB Q.2:=by rw[<-hP];exact pc (aI 0) _ (fun _=>false) _
    subst ah;clear hP;by_cases a2:q.ar=1
    .rw [if_pos a2]at t
     have a4:Q.1=1:=aw.trans a2;simp[go_sem,qv,a4];have bc:C.params[k].2<4/\0<=C.params[k].2:=by grind
     refine aK 4 (fun j g=>∃ b,2<=b/\g.tm 10 = .ptr b 0/\g.mu[b]?=some (.arr (aI 1 :: hB Q.2))/\g.tm 1=lVr (envS s)/\g.tm 3 = .ptr 0 0/\g.tm 5 = .ip (cNd n)/\g.tm 6 = .ptr 1 0/\g.tm 8=lPm C.params/\g.tm 9=aI k/\g.tm 12=aI j/\g.mu[0]?=some (.arr (cVw c true))/\g.mu[1]?=some (.arr [aI 0,aI 0]) /\
      ∀ i:Nat,i<j->Q.2 i=true->(i:Int)=C.params[k].2) ?_ ?_
     .exact ⟨U.mu.length,zOm,zSi,zSi,zS1 e1,zS1 e3,zS1 e5,zS1 e6,zS1 e8,zS1 e9,zSi,by simp only[qB];rw[I _ _ zOm];exact m0,by simp only[qB];rw[I _ _ zOm];exact m1,fun i hi=>zOm⟩
     .clear e1 e3 e5 e6 e8 e9 m0 m1 I a0 ae af ag a8
      rintro j st2 hj ⟨b,hb,a5,mb,e1,e3,e5,e6,e8,e9,a9,m0,m1,a6⟩;have a8:1<st2.mu.length:=(qj.1 m1).1;have a0:∀ c,(st2.mu.set 1 c)[1]?=some c:=fun c=>qL a8
      by_cases ai:j<4
      .have aj:(j:Int)<4:=by omega
       have ay:j<64:=zOm;have J:(j:Int)<64:=zOm;have wj:=zWk j;have a7:=d1 (aI 1) Q.2 j ay;have ak:1+j<=64:=zOm;by_cases hQ:Q.2 j=true
       .rw [hQ]at a7
        by_cases aa:(j:Int)=C.params[k].2
        .have b9:=eq_true aa
         simp[go_sem,a5,mb,e8,e9,a9,aj,J,a7,ak,qv,o,b9,wj];refine⟨ai,aA ⟨b,hb,zS1 a5,zS1 mb,zS1 e1,zS1 e3,zS1 e5,zS1 e6,zS1 e8,zS1 e9,zSi,zS1 m0,zS1 m1,fun i hi h=>?_⟩⟩;by_cases al:i=j
         .subst al;exact aa
         .exact a6 i zOm h
        .have az:¬uM C.params[k].2 q=true:=fun h=>aa ((ax a2).1 h j ai hQ)
         rw[if_neg az]at t;subst t;simp[go_sem,a5,mb,e5,e6,e8,e9,a9,aj,J,a7,ak,qv,o,aa,m1,a0];exact .hf _ (wJ (43,n.pos))
       .have hQ:Q.2 j=false:=by simpa using hQ
        rw[hQ]at a7;simp[go_sem,a5,mb,a9,aj,J,a7,ak,qv,wj];refine⟨ai,aA ⟨b,hb,zS1 a5,zS1 mb,zS1 e1,zS1 e3,zS1 e5,zS1 e6,zS1 e8,zS1 e9,zSi,zS1 m0,zS1 m1,fun i hi h=>?_⟩⟩;by_cases al:i=j
        .subst al;rw[hQ]at h;cases h
        .exact a6 i zOm h
      .have bb:j=4:=by omega
       subst bb;have an:uM C.params[k].2 q=true:=(ax a2).2 fun i hi h=>a6 i hi h
       rw[if_pos an]at t;simp[go_sem,e9,a9,w1];exact⟨o,aA ⟨zS1 e1,zS1 e3,zS1 e5,zS1 e6,zS1 e8,zSi,zS1 m0,zS1 m1,t⟩⟩
    .rw [if_neg a2]at t
     subst t;have a4:¬Q.1=1:=fun e=>a2 (aw.symm.trans e)
     simp[go_sem,e5,qv,a4,ag,e6];exact .hf _ (wJ (42,n.pos))
  .rw [if_neg a1]at hR
   subst hR;have b0:¬n.sD.length=C.params.length:=fun e=>a1 e.symm
   simp[go_sem,b0,dgOf];exact .hf _ (wJ (45,n.pos))
end
end QO
namespace QR
open Y9 Y10 Y1 Y2 Y12 P1 P2 QE QF QJ QL QN PG QO
theorem We{n}(i:WfN n)(h:n.op=15\/n.op=45\/n.op=46):∃ a f,n.sD=[a,f]/\kd a.op=101:=by
 have g:=i.shape;unfold shp at g;rw[zIn,zIn,zIn,if_pos zOm]at g;simp only[qu]at g
 match j:n.sD,g with
 | [a,f],g =>
  grind
 | [],g=>simp at g
 | [_],g=>simp at g
 |_ :: _ :: _ :: _,g=>simp at g
theorem five{I:Type}{l}{a b c d e:I}(g:l[0]?=some a)(i:l[1]?=some b)(j:l[2]?=some c)(o:l[3]?=some d)(p:l[4]?=some e):∃ r,l=a :: b :: c :: d :: e :: r:=by
 match l,g,i,j,o,p with
 |_ :: _ :: _ :: _ :: _ :: r,g,i,j,o,p =>
  simp_all
def Vz:Res->RS
 | .ok (some k)=>if k.ar=1 then qs k else zR
 |_=>zR
theorem qrK(s d):FL (.tup [eRS s,eDg d]):=FL.tup fun x i=>by
 rcases qw.1 i with rfl|i
 .exact FL.agg fun c g=>by
   rcases qw.1 g with rfl|g
   .exact FL.sc _
   .obtain ⟨j,_,rfl⟩:=qm.1 g
    exact FL.sc _
 .rw [qT]at i;subst i
  exact FL.agg fun c g=>by
   rcases qw.1 g with rfl|g
   .exact FL.sc _
   .rw [qT]at g;subst g;exact FL.sc _
theorem qrL(c)(hc:okCk c)(s)(hs:ScOk c.ts.sS.length s)(ax:s.length<=90000)(n a g)(hw:WfN n)(hb:n.op=15\/n.op=45\/n.op=46)(p:n.sD=[a,g])(a5:kd a.op=101)(inn)
  (ae:ExR c s (inn||decide (n.op=15)) a) (af:∀ k,okKd c.ts.sS.length k->k.ar=1->ExR c ((n.name,k) :: s) (inn||decide (n.op=15)) g) :
  qh qb 146 [eVw c inn,lVr (envS s),eNd n] (.tup [eRS (Vz (exam c s (inn||decide (n.op=15)) a)),eDg (dgOf (yh c s (inn||decide (n.op=15)) n.name n.pos n.sD))]):=by
 have wa:=hw.kid (k:=a) (by rw[p];simp);obtain⟨S,ca,hS⟩:=ae;have ag:=uj hc (szN a) a s (inn||decide (n.op=15));have a6:=Vn c (szN a) a s (inn||decide (n.op=15));rw[p];have w1:=wkE c (inn||decide (n.op=15)) (envS s) a;have ah:n.op=15->(inn||decide (n.op=15))=true:=fun h=>zP1 h
 have ai:¬n.op=15->(inn||decide (n.op=15))=inn:=fun h=>zP1 h
 generalize (inn||decide (n.op=15))=B at *
 generalize hE:dgOf (yh c s B n.name n.pos [a,g])=E;generalize hX:exam c s B a=X at *
 have a7:∀ k,okKd c.ts.sS.length k->k.ar=1->X = .ok (some k)->∃ S2,qh qb 92 [eVw c B,lVr (envS ((n.name,k) :: s)),eNd g] (.tup [eRS S2,eDg E]):=fun k hk o aj=>by
  obtain⟨S2,cg,_⟩:=af k hk o;refine⟨S2,?_⟩;have U:E=dgOf (exam c ((n.name,k) :: s) B g):=by
   rw[<-hE];simp only[yh,zd];rw[hX,aj];simp only;rw[if_pos o];cases exam c ((n.name,k) :: s) B g<;>rfl
  grind
 refine qSQ call146 func146 rfl { mt:=[3] } ?_;by_cases a1:n.op=15
 case' pos =>
  have a2:=ah a1;subst a2
 case' neg =>
  have a2:=ai a1;subst a2
 all_goals
  simp[go_sem,a1];refine fD [0,1,2,3,4,5,6,7,8,9,10,11,12,13] [(0,0,[]),(1,0,[]),(2,0,[]),(3,0,[]),(4,0,[]),(5,0,[]),(6,1,[]),(7,0,[]),(8,0,[]),(9,0,[]),(10,2,[0,3,5]),(11,2,[0,3,5]),(12,1,[]),(13,1,[])] zKr zKr zSi ?_;simp[go_sem,p];refine tK ca w1 ?_;simp[go_sem,qv,p];rw[if_pos (zf _)];generalize hP:putCells _ 0 (aI S.1 :: hB S.2)=P;have t:P=aI S.1 :: hB S.2:=by rw[<-hP];exact pc (aI 0) _ (fun _=>false) _
  subst t;clear hP;simp[go_sem]
 all_goals
  cases X with
  |error e =>
   have he:=a6 e (qr _) rfl;have ak:¬e.1=0:=zOm;have U:E=e:=by rw[<-hE];simp only[yh];rw[hX];rfl
   subst U;clear hE;simp[go_sem,dgOf,ak];refine fD [0,1,2,3] [(0,0,[]),(1,0,[]),(2,1,[1]),(3,1,[])] zKr zKr zSi ?_;simp[go_sem];exact .hf _ (vA zR E)
  |ok ko =>
   obtain⟨q,rfl,hq⟩:=ag ko (qr _) wa hs rfl a5;have al:=hS a5 q rfl;subst al;have a8:(qs q).1=q.ar:=rfl;by_cases o:q.ar=1
   .have I:(qs q).1=1:=a8.trans o
    obtain⟨S2,cg⟩:=a7 q hq o rfl;have a3:Vz (.ok (some q))=qs q:=if_pos o;rw[a3];have a9:envS ((n.name,q) :: s)=envS s++[(n.name,qs q)]:=by simp[envS]
    rw[a9]at cg;generalize qs q=Q at *
    obtain⟨qa,R⟩:=Q;have a4:qa=1:=I;subst a4;simp[go_sem,dgOf];refine fD [0,1,2,4,5,6,7,8,10,11,12,13,3,9,14,15,16,17,18,19,20,21] [(0,0,[]),(1,0,[]),(2,0,[]),(4,0,[]),(5,0,[]),(6,0,[]),(7,0,[]),(8,0,[]),(10,0,[]),(11,0,[]),(12,0,[]),(13,0,[]),(3,1,[0,5,6,11,13]),(9,1,[0,11,13]),(14,1,[]),(15,0,[]),(16,0,[]),(17,0,[]),(18,2,[0,5,6,11,13]),(19,2,[0,5,6,11,13]),(20,1,[]),(21,1,[])] zKr zKr zSi ?_;simp[go_sem,qv,tk];rw[if_pos (zf _)];generalize hC:putCells _ 1 _=C;have an:C=cVr (n.name,(1,R)):=by rw[<-hC];exact pcV n.name (1,R)
    subst an;clear hC;have ao:(cVr (n.name,((1:Int),R))).length=66:=by simp[qv]
    have aq:=kL (n.name,((1:Int),R));generalize hV:cVr (n.name,((1:Int),R))=V at *
    simp[go_sem,ao];rw[if_pos aq];simp[go_sem,p];refine kN (lo:=5) (xs:=[]) (ys:=envS s) (OwnF.nil zSp) (by simp[qD]) (by simp[Wi];omega) fun ay m1 au T=>?_
    have k0:=T 0 zOm;have k1:=T 1 zOm;have k2:=T 2 zOm;have k3:=T 3 zOm;have k4:=T 4 zOm;simp at k0 k1 k2 k3 k4;simp[go_sem,qv,tk,p,k0,k3];refine kN (xs:=[]++envS s) (ys:=[(n.name,(1,R))]) au (by simp[qD,hV]) (by simp[Wi];omega) fun az m2 a0 r=>?_
    rw[vE]at a0;have av:=a0.2.2;replace k0:=(r 0 zOm).trans k0;replace k1:=(r 1 zOm).trans k1;replace k2:=(r 2 zOm).trans k2;replace k3:=(r 3 zOm).trans k3;replace k4:=(r 4 zOm).trans k4;have j:∀(l:List Cell)(i:Nat),i<m2.length->(m2++l)[i]?=m2[i]?:=fun l i hi=>qM hi
    have g0:=(qj.1 k0).2;have g1:=(qj.1 k1).2;have g2:=(qj.1 k2).2;have g3:=(qj.1 k3).2;simp[go_sem,p,k0];refine fX (args':=[eVw c _,lVr (envS s++[(n.name,(1,R))]),eNd g]) cg ⟨.hf _ (qd8 c _),rdVr a0,.hf _ (qK g),trivial⟩ (qrK S2 _) ?_;have p0:=fun l=>(j l 0 zOm).trans k0
    have p1:=fun l=>(j l 1 zOm).trans k1
    have p2:=fun l=>(j l 2 zOm).trans k2
    have p3:=fun l=>(j l 3 zOm).trans k3
    have p4:=fun l=>(j l 4 zOm).trans k4
    have aa:0<m2.length:=zOm;have ab:3<m2.length:=zOm;simp[go_sem,qv,tk,p,g0,g3,aa,ab,p3];rw[if_pos (zf _)];generalize hP:putCells _ 0 (cRS S2)=P;have t:P=cRS S2:=by rw[<-hP];exact pc (aI 0) _ (fun _=>false) _
    subst t;clear hP;simp[go_sem];obtain⟨rr,ad⟩:=five k0 k1 k2 k3 k4;have b0:m2.length=rr.length+5:=by rw[ad];rfl
    clear g0 g1 g2 g3 p0 p1 p2 p3 p4 j a0 r k0 k1 k2 k3 k4 av aa ab;refine fD [0,1,2,3] [(0,0,[]),(1,0,[]),(2,1,[1]),(3,1,[])] zKr zKr zSi ?_;simp[go_sem,qv,tk,ad];rw[if_pos (zf _)];generalize hP:putCells _ 0 (aI 1 :: hB R)=P;have t:P=aI 1 :: hB R:=by rw[<-hP];exact pc (aI 0) (aI 1) (fun _=>false) R
    subst t;clear hP;simp[go_sem,qv,tk];exact .hf _ (vA (1,R) E)
   .have I:¬(qs q).1=1:=fun e=>o (a8.symm.trans e)
    have a3:Vz (.ok (some q))=zR:=if_neg o;rw[a3];have U:E=(42,n.pos):=by
     rw[<-hE];simp only[yh];rw[hX];simp only;rw[if_neg o];rfl
    subst U;clear hE;generalize qs q=Q at *
    simp[go_sem,dgOf,I];refine fD [0,1,2,3,4,5] [(0,0,[]),(1,0,[]),(2,0,[]),(3,0,[]),(4,1,[2]),(5,1,[])] zKr zKr zSi ?_;simp[go_sem];exact .hf _ (vA zR (42,n.pos))
theorem qrM(ts)(ok:okTS ts)(n l)(r:n.op≠1)(o:n.op≠15)
  (t:n.op=5\/n.op=11\/n.op=12\/n.op=13->∃ a,l=[some a]/\okKd ts.sS.length a)
  (C:n.op=6\/n.op=14\/n.op=7\/n.op=8\/n.op=32\/n.op=33\/n.op=9\/n.op=10->∃ a b,l=[some a,some b]/\okKd ts.sS.length a/\okKd ts.sS.length b) :
  ∃ S b,(∀ L,((n.op=5\/n.op=11\/n.op=12\/n.op=13)\/(n.op=6\/n.op=14\/n.op=7\/n.op=8\/n.op=32\/n.op=33\/n.op=9\/n.op=10)->L=l.map setO)->prC ts n L S b)/\ApE n.op (yf ts.sS.length n.op n.n n.pos l) S b:=by
 by_cases P:(n.op=5\/n.op=11\/n.op=12\/n.op=13)\/(n.op=6\/n.op=14\/n.op=7\/n.op=8\/n.op=32\/n.op=33\/n.op=9\/n.op=10)
 .obtain ⟨S,b,c,a⟩:=qrG ts ok n l (l.map setO) r o (fun h=>by obtain⟨a,rfl,p⟩:=t h;exact⟨a,rfl,rfl,p⟩) (fun h=>by obtain⟨a,b,rfl,p,I⟩:=C h;exact⟨a,b,rfl,rfl,p,I⟩)
  grind
 by_cases g:n.op=2
 .refine ⟨qs ⟨n.n,[]⟩,true,fun L _=>qd7 (qd4 n.n) (ap2 ts n L g),?_⟩
  unfold yf;rw[if_pos g];exact⟨rfl,fun _=>⟨_,rfl,rfl⟩⟩
 by_cases i:n.op=3
 .refine ⟨_,true,fun L _=>ap3 ts ok n L i,?_⟩
  unfold yf;rw[if_neg g,if_pos i];exact⟨rfl,fun _=>⟨_,rfl,rfl⟩⟩
 by_cases j:n.op=4
 .refine ⟨_,true,fun L _=>ap4 ts ok n L j,?_⟩
  unfold yf;rw[if_neg g,if_neg i,if_pos j];exact⟨rfl,fun _=>⟨_,rfl,rfl⟩⟩
 refine⟨zR,true,fun L _=>apO ts n L g i j zOm zOm zOm zOm zOm zOm zOm zOm zOm zOm zOm zOm,?_⟩;rw[UL g i j zOm zOm zOm zOm zOm zOm zOm zOm zOm zOm zOm zOm];refine⟨rfl,fun J=>?_⟩;have:=UN J;omega
def resS:Res->RS
 | .ok (some k)=>qs k
 |_=>zR
theorem qrN(R):endR zR R = .tup [eRS (resS R),eDg (dgOf R)]:=by
 cases R with
 |error e=>rfl
 |ok k=>cases k<;>rfl
end QR
namespace QS
open YZ YF Y9 Y10 Y1 Y2 Y13 P1 P2 QE QF QI QJ QL QN PG QO QR
theorem Wj(c op nm):zY c op nm=(yy op||(decide (op=47)&&tpB c nm)):=rfl
theorem qrO{ns op n pos l e}(h:yf ns op n pos l = .error e):e=(42,pos):=by
 unfold yf at h
 repeat' split at h
 all_goals grind
theorem wkTP(c:Ck)(nm):WKs [eTS c.ts,lBo c.timed,aI c.calls,aS nm] [eTS c.ts,lBo c.timed,aI c.calls,aS nm] := .zk (zm _) (.zk (Vx _) (.zs (.zs .nil)))
theorem wk1I(k):WKs [aI k] [aI k] := .zs .nil
theorem fl_sb(s b):FL (.tup [eRS s,aB b]):=FL.tup fun x i=>by
 rcases qw.1 i with rfl|i
 .exact FL.agg fun c g=>by
   rcases qw.1 g with rfl|g
   .exact FL.sc _
   .obtain ⟨j,_,rfl⟩:=qm.1 g
    exact FL.sc _
 grind [qT,FL.sc]
theorem qrP(c)(i:okCk c)(s n)(g:zY c n.op n.name=true):ExR c s true n:=by
 refine⟨zR,?_,fun _ q h=>?_⟩
 case refine_2=>simp_all[je,if_pos]
 have j:exam c s true n = .error (46,n.pos):=by simp_all[je,if_pos]
 rw[j];rw[Wj]at g;refine qSQ call92 func92 rfl { mt:=[3] } ?_;have l:=Jj n.op;have o:=Jk c i n.name;simp[go_sem];refine tK l (wk1I _) ?_;cases p:yy n.op with
 |true =>
  simp[go_sem];refine fD [0,1,2,3,4,5] [(0,0,[]),(1,0,[]),(2,0,[]),(3,0,[]),(4,1,[2]),(5,1,[])] zKr zKr zSi ?_;simp[go_sem,dgOf];exact .hf _ (vA zR (46,n.pos))
 |false =>
  rw[p,Bool.false_or,qE]at g;obtain⟨h47,hB⟩:=g;have h47:n.op=47:=by simpa using h47
  simp[go_sem,h47];refine tK o (wkTP c n.name) ?_;rw[hB];simp[go_sem];refine fD [0,1,2,3,4,5] [(0,0,[]),(1,0,[]),(2,0,[]),(3,0,[]),(4,1,[2]),(5,1,[])] zKr zKr zSi ?_;simp[go_sem,dgOf];exact .hf _ (vA zR (46,n.pos))
theorem qrQ(c)(l:okCk c)(s)(g:s.length<=100000)(inn n)(i:n.op=1):ExR c s inn n:=by
 have o:exam c s inn n=jw c s n.name n.pos:=by
  rw[je,Wj,i,show yy 1=false from rfl];simp
 refine⟨resS (jw c s n.name n.pos),?_,fun _ q h=>by rw[o]at h;rw[h];rfl⟩;rw[o];have p:=Kk c l inn s n g;rw[qrN]at p;generalize resS (jw c s n.name n.pos)=S at *
 generalize dgOf (jw c s n.name n.pos)=D at *
 refine qSQ call92 func92 rfl { mt:=[3] } ?_;have r:=Jj n.op;have J:=Jk c l n.name;have C:yy n.op=false:=by rw[i];rfl
 rw[C]at r;have I:=wkE c inn (envS s) n;cases inn
 case' true =>
  simp[go_sem];refine tK r (wk1I _) ?_
 all_goals
  simp[go_sem,i];refine tK p I ?_;simp[go_sem,qv];rw[if_pos (zf _)];generalize t:putCells _ 0 (aI S.1 :: hB S.2)=P;have j:P=aI S.1 :: hB S.2:=by rw[<-t];exact pc (aI 0) _ (fun _=>false) _
  subst j;clear t;simp[go_sem,qv,QE.tk];exact .hf _ (vA S D)
theorem qrR(c)(i:okCk c)(s)(r:ScOk c.ts.sS.length s)(inn n)(t:WfN n)(h47:n.op=47)(g:(inn&&zY c n.op n.name)=false)(C:∀ k,k∈n.sD->ExR c s true k):ExR c s inn n:=by
 have I:exam c s inn n=uQ c s n:=by
  rw[je,g,if_neg zSp,zIn,if_pos h47];rfl
 have J:=qrJ c i s r n t h47 C inn;refine⟨zR,?_,fun j=>by rw[h47]at j;exact absurd j zDe⟩;rw[I];generalize dgOf (uQ c s n)=D at *
 refine qSQ call92 func92 rfl { mt:=[3] } ?_;have l:=Jj n.op;have o:=Jk c i n.name;have p:yy n.op=false:=by rw[h47];rfl
 rw[p]at l;have P:=wkE c inn (envS s) n;cases inn
 case' true =>
  rw[Bool.true_and,Wj,p,h47]at g;have hB:tpB c n.name=false:=zUs g;rw[hB]at o;simp[go_sem];refine tK l (wk1I _) ?_;simp[go_sem,h47];refine tK o (wkTP c n.name) ?_
 all_goals
  simp[go_sem,h47];refine fR J P ?_;exact .hf _ (vA zR D)
theorem qrS(c)(J:okCk c)(s)(o:ScOk c.ts.sS.length s)(p:s.length<=90000)(inn n)(R:WfN n)(l:n.op=15\/n.op=45\/n.op=46)(ht:(inn&&zY c n.op n.name)=false)(T:∀ k,k∈n.sD->∀ s',ScOk c.ts.sS.length s'->s'.length<=s.length+1->∀ inn,ExR c s' inn k):ExR c s inn n:=by
 have U:exam c s inn n=yh c s (inn||decide (n.op=15)) n.name n.pos n.sD:=by
  rw[je,ht,if_neg zSp,zIn,zIn,if_pos l]
 obtain⟨a,g,i,r⟩:=We R l;have cb:=qrL c J s o p n a g R l i r inn (T a (by rw[i];simp) s o zOm _) (fun k hk j=>T g (by rw[i];simp) _ (fun v t=>by
  rcases qw.1 t with rfl|t
  .grind
  .exact o v t) zSp _)
 refine⟨Vz (exam c s (inn||decide (n.op=15)) a),?_,fun _ q h=>?_⟩
 case refine_2 =>
  rw[U,i]at h;simp only[yh]at h;split at h
  .cases h
  .cases h
  .rename_i k hk
   split at h
   .rename_i j
    split at h
    .cases h
    .cases h
     rw[hk];exact if_pos j
   .cases h
 rw[U];generalize Vz (exam c s (inn||decide (n.op=15)) a)=S at *
 generalize dgOf (yh c s (inn||decide (n.op=15)) n.name n.pos n.sD)=D at *
 refine qSQ call92 func92 rfl { mt:=[3] } ?_;have C:=Jj n.op;have cp:=Jk c J n.name;have h47:¬n.op=47:=zOm;have hT:yy n.op=false:=by grind [yy]
 rw[hT]at C;have wn:=wkE c inn (envS s) n;rcases l with h|h|h
 all_goals
  rw[h]at C;cases inn
 all_goals
  simp[go_sem,h]
  try (refine tK C (wk1I _) ?_)
  try simp[go_sem,h]
  refine tK cb wn ?_;simp[go_sem,qv];rw[if_pos (zf _)];generalize hP:putCells _ 0 (aI S.1 :: hB S.2)=P;have I:P=aI S.1 :: hB S.2:=by rw[<-hP];exact pc (aI 0) _ (fun _=>false) _
  subst I;clear hP;simp[go_sem,qv,QE.tk];exact .hf _ (vA S D)
def seqL(X:Nd->Res):List Nd->Except Dg (List (Option Kd))
 | [] => .ok []
 |k :: ks=>match X k with
  | .error e => .error e
  | .ok a=>match seqL X ks with
   | .error e => .error e
   | .ok l => .ok (a :: l)
theorem qeA(c s B):∀ ks,zd c s B ks=seqL (exam c s B) ks
 | []=>by simp only[zd,seqL]
 |k :: ks=>by simp only[zd,seqL];rw[qeA c s B ks];cases exam c s B k with
  |error e=>rfl
  |ok a=>cases seqL (exam c s B) ks<;>rfl
theorem kQ{I:Type}{l}{a b c:I}(g:l[0]?=some a)(i:l[1]?=some b)(j:l[2]?=some c):∃ r,l=a :: b :: c :: r:=by
 match l,g,i,j with
 |_ :: _ :: _ :: r,g,i,j =>
  grind
theorem qrT{n}(j:WfN n)(h:(n.op=5\/n.op=11\/n.op=12\/n.op=13)\/(n.op=6\/n.op=14\/n.op=7\/n.op=8\/n.op=32\/n.op=33\/n.op=9\/n.op=10)):∀ x,x∈n.sD->kd x.op=101:=by
 have g:=j.shape;intro x l;have i:kd x.op∈n.sD.map fun k=>kd k.op:=qm.2 ⟨x,l,rfl⟩
 rcases h with h|h
 .unfold shp at g
  rw[zIn,if_pos zOm]at g
  grind
 .unfold shp at g
  rw[zIn,zIn,if_pos zOm]at g;simp only[qu]at g;rw[<-g]at i;simpa using i
set_option maxHeartbeats 2000000 in
theorem ex_t(c)(hc:okCk c)(s n inn B X S D)(h1:¬n.op=1)(h47:¬n.op=47)(hb:¬(n.op=15\/n.op=45\/n.op=46))(hw:WfN n)(au:n.sD.length<=401)(hT:inn=true->yy n.op=false)(a5:n.op=12->B=true)(a6:n.op=13->B=true)(af:¬n.op=12->¬n.op=13->B=inn)
  (ag:∀ k,k∈n.sD->∃ S,qh qb 92 [eVw c B,lVr (envS s),eNd k] (.tup [eRS S,eDg (dgOf (X k))])/\(kd k.op=101->∀ q,X k = .ok (some q)->S=qs q))
  (a7:∀ k a,k∈n.sD->X k = .ok a->kd k.op=101->∃ q,a=some q/\okKd c.ts.sS.length q)
  (a1:∀ k e,X k = .error e->40<=e.1)
  (ah:∀ e,seqL X n.sD = .error e->S=zR/\D=e)
  (ai:∀ l,seqL X n.sD = .ok l->∃ S' b,(∀ L,((n.op=5\/n.op=11\/n.op=12\/n.op=13)\/(n.op=6\/n.op=14\/n.op=7\/n.op=8\/n.op=32\/n.op=33\/n.op=9\/n.op=10)->L=l.map setO)->prC c.ts n L S' b)/\(b=true->S=S'/\D=(0,0))/\(b=false->S=zR/\D=(42,n.pos))) :
  qh qb 92 [eVw c inn,lVr (envS s),eNd n] (.tup [eRS S,eDg D]):=by
 simp only[not_or]at hb;obtain⟨b1,b2,b3⟩:=hb;refine qSQ call92 func92 rfl { mt:=[3] } ?_;have ct:=Jj n.op;have cp:=Jk c hc n.name;cases inn
 all_goals first
  | (rw[hT rfl]at ct;simp[go_sem];refine tK ct (wk1I _) ?_)
  |skip
 all_goals simp[go_sem,h1,h47,b1,b2,b3]
 all_goals rcases (show n.op=12\/(¬n.op=12/\n.op=13)\/(¬n.op=12/\¬n.op=13) by omega) with p|⟨p,T⟩|⟨p,T⟩
 all_goals first|simp[go_sem,p,T] | simp[go_sem,p]
 all_goals first|have a2:=a5 p|have a2:=a6 T|have a2:=af p T
 all_goals
  refine aK n.sD.length (fun k U=>∃(j:List (Option Kd)) (L:List RS),j.length=k/\L.length=k/\U.tm 1=lVr (envS s)/\U.tm 3 = .ptr 0 0/\U.tm 5 = .ip (cNd n)/\U.tm 6 = .ptr 1 0/\U.tm 7 = .ptr 2 0/\U.tm 9=aI k/\U.mu[0]?=some (.arr (cVw c B))/\U.mu[1]?=some (.arr (aI 0 :: hB fun _=>false))/\U.mu[2]?=some (.arr [aI 0,aI 0])/\OwnF 3 U.mu 65 (U.tm 8) (L.map cRS)/\(∀(i:Nat) x,n.sD[i]?=some x->i<k->kd x.op=101->∃ q,j[i]?=some (some q)/\L[i]?=some (qs q))/\seqL X n.sD=(match seqL X (n.sD.drop k) with | .error e => .error e | .ok l => .ok (j++l))) ?_ ?_
  .refine ⟨[],[],rfl,rfl,zSi,zSi,zSi,zSi,zSi,zSi,by rw[a2];simp[go_sem],by simp[go_sem];rfl,zSi,by simp_all[go_sem,OwnF.nil],fun i x _ h=>absurd h zOm,?_⟩
   grind
  rintro k U hk ⟨j,L,a8,a9,e1,e3,e5,e6,e7,e9,m0,m1,m2,ho,a0,r⟩;generalize h8:U.tm 8=t at *
  by_cases o:k<n.sD.length
  .have w1:=zWk k
   obtain⟨Sk,ck,aj⟩:=ag n.sD[k] (qp o);rw[zp o]at r;simp only[seqL]at r;simp[go_sem,e5,e9,o];refine fD [0,1,2,3,4,5,6,7,8,9,10,11,12,13,14] [(0,0,[]),(1,0,[]),(2,0,[]),(3,0,[]),(4,0,[]),(5,0,[]),(6,0,[]),(7,1,[]),(8,0,[]),(9,0,[]),(10,0,[]),(11,2,[0,3,6]),(12,2,[0,3,6]),(13,1,[]),(14,1,[])] zKr zKr zSi ?_;have aa:2<U.mu.length:=(qj.1 m2).1;have g:∀(l:List Cell)(i:Nat),i<U.mu.length->(U.mu++l)[i]?=U.mu[i]?:=fun l i C=>qM C
   have p0:=fun l=>(g l 0 zOm).trans m0
   have p1:=fun l=>(g l 1 zOm).trans m1
   have p2:=fun l=>(g l 2 zOm).trans m2
   have g0:=(qj.1 m0).2;have g1:=(qj.1 m1).2;have g2:=(qj.1 m2).2;have a3:0<U.mu.length:=zOm;have ak:1<U.mu.length:=zOm;simp[go_sem,e1,e3,e5,e9,o,m0];refine tK ck (wkE c _ _ _) ?_;cases hx:X n.sD[k] with
   |error e =>
    have he:=a1 _ _ hx;have al:¬e.1=0:=zOm;rw[hx]at r;have r:seqL X n.sD = .error e:=r;obtain⟨an,ao⟩:=ah e r;rw[an,ao];simp[go_sem,e3,g0,a3,qv,dgOf];rw[if_pos (zf _)];generalize hP:putCells _ 0 (cRS Sk)=P;have I:P=cRS Sk:=by rw[<-hP];exact pc (aI 0) _ (fun _=>false) _
    subst I;clear hP;simp[go_sem,al];refine fD [0,1,2,3] [(0,0,[]),(1,0,[]),(2,1,[1]),(3,1,[])] zKr zKr zSi ?_;simp[go_sem,e6,e7,a3,qv,g1,g2,ak,aa];exact .hf _ (vA zR e)
   |ok a =>
    rw[hx]at r;simp only at r;simp[go_sem,e3,g0,a3,qv,dgOf];rw[if_pos (zf _)];generalize hP:putCells _ 0 (cRS Sk)=P;have I:P=cRS Sk:=by rw[<-hP];exact pc (aI 0) _ (fun _=>false) _
    subst I;clear hP;simp[go_sem,h8,qv,QE.tk];rw[if_pos (zf _)];simp[go_sem];refine appRS (lo:=3) (xs:=L) (ys:=[Sk]) ⟨by simpa using J2 (J2 ho.1 _) _,ho.2.1,by grind⟩ (by simp[qD]) zSo fun aw m' aq a4=>?_
    simp[go_sem,e9,o,w1];refine aA ⟨j++[a],L++[Sk],zP1 a8,zP1 a9,zS1 e1,zS1 e3,zS1 e5,zS1 e6,zS1 e7,zSi,?_,?_,?_,zVs aq,fun i x C ax R=>?_,?_⟩
    .simp only[qB];exact(a4 0 zOm).trans (p0 _)
    .simp only[qB];exact(a4 1 zOm).trans (p1 _)
    .simp only[qB];exact(a4 2 zOm).trans (p2 _)
    .by_cases ab:i=k
     .subst ab
      rw[qz o]at C;cases C;obtain⟨q,rfl,_⟩:=a7 _ a (qp o) hx R;refine⟨q,?_,?_⟩
      .rw [zG zOm,a8];simp
      .rw [zG zOm,a9];simp[aj R q hx]
     .obtain ⟨q,q1,q2⟩:=a0 i x C zOm R
      exact⟨q,by rw[zGa];exact q1,by rw[zGa];exact q2⟩
    grind
  .have ad:k=n.sD.length:=by omega
   subst ad;rw[zW]at r;have r:seqL X n.sD = .ok j:=by rw[r];simp only[seqL,zJ]
   obtain⟨S',b,q1,q2,q3⟩:=ai j r;have hL:((n.op=5\/n.op=11\/n.op=12\/n.op=13)\/(n.op=6\/n.op=14\/n.op=7\/n.op=8\/n.op=32\/n.op=33\/n.op=9\/n.op=10))->L=j.map setO:=fun h=>by
    have R:∀ x,x∈n.sD->kd x.op=101:=fun x hx=>qrT hw h x hx
    refine List.ext_getElem? fun i=>?_
    by_cases C:i<n.sD.length
    .obtain ⟨q,e1,e2⟩:=a0 i n.sD[i] (zP1 C) C (R _ (qp C))
     rw[e2,List.getElem?_map,e1];rfl
    .rw [uw zOm,uw zSo]
   have hp:=q1 L hL;unfold prC at hp;have aa:2<U.mu.length:=(qj.1 m2).1;have g:∀(l:List Cell)(i:Nat),i<U.mu.length->(U.mu++l)[i]?=U.mu[i]?:=fun l i C=>qM C
   obtain⟨rr,ae⟩:=kQ m0 m1 m2;simp[go_sem,e3,e5,e9,h8,m0];refine fX (args':=[eTS c.ts,eNd n,lRS L]) hp ⟨.hf _ (zm _),.hf _ (qK n),rdRS ho,trivial⟩ (fl_sb S' b) ?_;have ay:U.mu.length=rr.length+3:=by rw[ae];rfl
   clear m0 m1 m2 g ho;simp[go_sem,ae,qv];rw[if_pos (zf _)];generalize hP:putCells _ 0 (cRS S')=P;have I:P=cRS S':=by rw[<-hP];exact pc (aI 0) _ (fun _=>false) _
   subst I;clear hP;cases b with
   |true =>
    obtain⟨rfl,rfl⟩:=q2 rfl;simp[go_sem,e6,qv,QE.tk,pc];rw[if_pos (zf _)];simp[go_sem,e6,e7,qv,QE.tk];exact .hf _ (vA S (0,0))
   |false =>
    obtain⟨rfl,rfl⟩:=q3 rfl;simp[go_sem];refine fD [0,1,2,3,4,5] [(0,0,[]),(1,0,[]),(2,0,[]),(3,0,[]),(4,1,[2]),(5,1,[])] zKr zKr zSi ?_;simp[go_sem,e5,e6,e7,qv];exact .hf _ (vA zR (42,n.pos))
theorem qrU(c)(p:okCk c)(s)(hs:ScOk c.ts.sS.length s)(inn n)(r:WfN n)(h1:¬n.op=1)(h47:¬n.op=47)(hb:¬(n.op=15\/n.op=45\/n.op=46))(ht:(inn&&zY c n.op n.name)=false)(ih:∀ k,k∈n.sD->∀ inn,ExR c s inn k):ExR c s inn n:=by
 have hx:exam c s inn n=match zd c s (inn||decide (n.op=12)||decide (n.op=13)) n.sD with | .error e => .error e | .ok l=>yf c.ts.sS.length n.op n.n n.pos l:=by
  rw[je,ht,if_neg zSp,if_neg h1,if_neg h47,if_neg hb]
  grind
 have t:n.op=12\/n.op=13->(inn||decide (n.op=12)||decide (n.op=13))=true:=fun h=>by grind
 have a0:¬n.op=12->¬n.op=13->(inn||decide (n.op=12)||decide (n.op=13))=inn:=fun h h'=>by simp[h,h']
 generalize (inn||decide (n.op=12)||decide (n.op=13))=B at *
 obtain⟨S,D,C,hq,I,J⟩:∃ S D,dgOf (exam c s inn n)=D/\(kd n.op=101->∀ q,exam c s inn n = .ok (some q)->S=qs q)/\(∀ e,zd c s B n.sD = .error e->S=zR/\D=e) /\
   (∀ l,zd c s B n.sD = .ok l->∃ P b,(∀ L:List RS,((n.op=5\/n.op=11\/n.op=12\/n.op=13)\/(n.op=6\/n.op=14\/n.op=7\/n.op=8\/n.op=32\/n.op=33\/n.op=9\/n.op=10)->L=l.map setO)->prC c.ts n L P b)/\(b=true->S=P/\D=(0,0))/\(b=false->S=zR/\D=(42,n.pos))):=by
  rw[hx];cases hE:zd c s B n.sD with
  |error e=>exact⟨zR,e,rfl,(fun _ q h=>by cases h),(fun e' h=>by grind),(fun l h=>by cases h)⟩
  |ok l =>
   obtain⟨a1,a2⟩:=J6 hE;have a3:=(Ko p.ts.ns r a1 (fun i k' a hi ha g=>uj p (szN k') k' s B a (qr _) (r.kid (List.mem_of_getElem? hi)) hs (a2 i k' a hi ha) g)).2;obtain⟨P,b,p1,o⟩:=qrM c.ts p.ts n l h1 (fun h=>hb (.inl h)) (fun h=>by
    grind) a3.2.2
   simp only;cases hA:yf c.ts.sS.length n.op n.n n.pos l with
   |error e =>
    rw[hA]at o;have o:b=false:=o;refine⟨zR,e,rfl,(fun _ q h=>by cases h),(fun e' h=>by cases h),(fun l' h=>by cases h;exact⟨P,b,p1,(fun h=>by grind),(fun _=>⟨rfl,qrO hA⟩)⟩)⟩
   |ok ko =>
    rw[hA]at o;obtain⟨o,p3⟩:=o;refine⟨P,(0,0),rfl,(fun U q h=>?_),(fun e' h=>by cases h),(fun l' h=>by simp_all)⟩
    grind
 refine⟨S,?_,hq⟩;rw[C];clear C hx hq;obtain⟨X,R⟩:∃ X:Nd->Res,X=exam c s B:=⟨_,rfl⟩;have a4:∀ k,k∈n.sD->∃ S,qh qb 92 [eVw c B,lVr (envS s),eNd k] (.tup [eRS S,eDg (dgOf (X k))])/\(kd k.op=101->∀ q,X k = .ok (some q)->S=qs q):=fun k U=>by rw[R];exact ih k U B
 have T:∀ k a,k∈n.sD->X k = .ok a->kd k.op=101->∃ q,a=some q/\okKd c.ts.sS.length q:=fun k a U h g=>by rw[R]at h;exact uj p (szN k) k s B a (qr _) (r.kid U) hs h g
 have j:∀ k e,X k = .error e->40<=e.1:=fun k e h=>by rw[R]at h;exact Vn c (szN k) k s B e (qr _) h
 rw[qeA,<-R]at I J;clear R ih;have a5:=r.len;exact ex_t c p s n inn B X S D h1 h47 hb r a5 (fun hi=>by
  simp_all[Bool.true_and,Wj,Bool.or_eq_false_iff]) (fun h=>t (.inl h)) (fun h=>t (.inr h)) a0 a4 T j I J
theorem qeB(c)(l:okCk c):∀(m:Nat)(n),depN n<=m->WfN n->∀ s,ScOk c.ts.sS.length s->s.length+m<=80000->∀ inn,ExR c s inn n
 | 0,n,i,_,_,_,_,_=>zW1 (qc8 n)
 |m+1,n,i,o,s,r,p,inn=>by
  have t:∀ k,k∈n.sD->∀ s',ScOk c.ts.sS.length s'->s'.length<=s.length+1->∀ inn,ExR c s' inn k:=fun k j s' g C inn=>qeB c l m k (by have:=qc7 j;rw[Zs]at i;omega) (o.kid j) s' g zOm inn
  cases I:inn&&zY c n.op n.name with
  |true =>
   simp_all[qE,qrP]
  |false =>
   grind [qrQ,qrR,qrS,qrU]
end QS
namespace QT
open YF Y9 Y10 Y1 Y2 Y14 Y15 Y16 YZ P1 P2 PA Q5 QD QE QI QJ QL QM QO QS
section
variable {ts:TS}
def ckR(ts:TS)(i:Nat):Ck:=⟨ts,i,tmsL ts ts.sT.length⟩
theorem Wk(h:okTS ts){i}(g:i<=ts.sT.length):okCk (ckR ts i):=⟨h,g,by show i<=(tmsL ts ts.sT.length).length;rw[ZX ts _ (qr _)];exact g⟩
theorem qeC{c c'}(g:c'.ts=c.ts)(l:∀ nm,zu c' nm=zu c nm)(o:∀ op nm,zY c' op nm=zY c op nm):∀ m n s inn,szN n<=m->exam c s inn n=exam c' s inn n
 | 0,n,_,_,t=>by obtain⟨op,nm,i,ks,p⟩:=n;simp[szN]at t
 |m+1,n,s,inn,t=>by
  have r:∀ k,k∈n.sD->∀(s:Scp)(inn:Bool),exam c s inn k=exam c' s inn k:=fun k r s inn=>qeC g l o m k s inn (zW1 (yr r))
  refine qb4 rfl rfl rfl rfl (o _ _) (fun _=>?_) (by rw[g]) (l _) (by rw[g]) rfl (fun _ I=>qb7 fun k j=>r k j s true) (fun _ inn=>?_) (fun _ _ _ inn=>UY fun k j=>r k j s inn)
  .grind [Z2]
  .cases C:n.sD with
   |nil=>rfl
   |cons k ks =>
    grind [ks,yh,zj,zd,UY,za]
theorem qrV(h:okTS ts){i}(l:i<=ts.sT.length)(n s inn):exam (ckR ts i) s inn n=exam (mkCk ts i) s inn n:=by
 refine(qeC (c:=mkCk ts i) (c':=ckR ts i) rfl (fun o=>rfl) (fun op o=>?_) (szN n) n s inn (qr _)).symm;unfold zY;have e:zu (ckR ts i) o=zu (mkCk ts i) o:=rfl;rw[e];cases r:zu (mkCk ts i) o with
 |none=>rfl
 |some p =>
  obtain⟨j,g⟩:=Zl (uP h l) r;have j:p<i:=j;have g:p<ts.sT.length:=g;simp only;have t:=PC.Wa ts p ts.sT.length g (qr _) g;have C:=PC.Wa ts p i j l g;show (yy op||(decide (op=47)&&(tmsL ts ts.sT.length).getD p false))=(yy op||(decide (op=47)&&(tmsL ts i).getD p false));rw[t,C]
theorem qrW(h:okTS ts){i}(g:i<=ts.sT.length)(env n):jI (mkCk ts i) env n=if 30<=n.op then dgOf (exam (ckR ts i) (yi env) false n) else (43,n.pos):=by
 grind [jI,qrV]
theorem qeD(ts)(h:okTS ts)(J:∀ p,p∈ts.sT->WfN p.body)(i)(o:i<=ts.sT.length)(env)(t:YN ts.sS.length env)(j:env.length<=1000)(n)(R:WfN n)(T:depN n<=24) :
  qh qb 51 [eTS ts,aI i,lPm env,eNd n] (eDg (jI (mkCk ts i) env n)):=by
 rw[qrW h o];have U:=h.ns;have hs:=Kr t;have a0:(yi env).length=env.length:=by
  have:=congrArg List.length (qd3 env)
  grind [Wi,envV]
 obtain⟨S,ce,_⟩:=qeB (ckR ts i) (Wk h o) 24 n T R (yi env) hs zOm false;have C:=envU env j (fun p hp=>zW1 (t.r p hp));rw[qd3]at C;have c1:=qrB n;have c2:=qq8 ts h J;refine qSU call51 func51 rfl ?_;refine tK c1 (.zk (qK n) .nil) ?_;by_cases g:30<=n.op
 .rw [if_pos g]
  generalize dgOf (exam (ckR ts i) (yi env) false n)=D at *
  simp[go_sem,g];refine fD [0,1,3,5,7,2,4,6,8,9,10,11,12,13,14,15] [(0,0,[]),(1,0,[]),(3,0,[]),(5,0,[]),(7,0,[]),(2,1,[0,7]),(4,0,[]),(6,1,[0,7]),(8,1,[]),(9,0,[]),(10,0,[]),(11,0,[]),(12,2,[0,1,7]),(13,2,[0,1,7]),(14,1,[]),(15,1,[])] zKr zKr zSi ?_;simp[go_sem];refine fR c2 (.zk (zm ts) .nil) ?_;refine fR C (.zk (uh env) .nil) ?_;refine tK ce (wkE (ckR ts i) false _ n) ?_;simp[go_sem,qv];rw[if_pos (zf _)];generalize I:putCells _ 0 (cRS S)=P;have l:P=cRS S:=by rw[<-I];exact pc (aI 0) _ (fun _=>false) _
  subst l;clear I;simp[go_sem];exact .hf _ (wJ D)
 .rw [if_neg g]
  simp[go_sem,g];exact .hf _ (wJ (43,n.pos))
theorem kR(ts)(h:okTS ts)(i:∀ p,p∈ts.sT->WfN p.body)(env)(j:YN ts.sS.length env)(g:env.length<=1000)(n)(l:WfN n)(o:depN n<=24) :
  qh qb 25 [eTS ts,lPm env,eNd n] (eDg (yj ts env n)):=by
 have c1:=qeD ts h i ts.sT.length (qr _) env j g n l o;have e:jI (mkCk ts ts.sT.length) env n=yj ts env n:=rfl;rw[e]at c1;generalize yj ts env n=D at *
 refine qSU call25 func25 rfl ?_;refine fR c1 (.zk (zm ts) (.zs (.zk (uh env) (.zk (qK n) .nil)))) ?_;exact .hf _ (wJ D)
theorem Jl(a b):dups (a++b)=dups a++dups b:=by simp[dups]
theorem wK(b):dups [b]=if b=true then [(41,0)] else []:=by cases b<;>rfl
theorem Qo(l):(dups l).length<=l.length:=by
 grind [dups,zA,List.length_filter_le]
theorem kS{I}(g)(l:List I)(k h):(repL g l).take (k+1)=(repL g l).take k++[(l.take k).any fun y=>g l[k] y]:=by
 grind [repL,Qm,vJ,qaB,qz,Option.some.inj]
theorem Wl{I:Type}(p)(l:List I)(k h):(l.take (k+1)).any p=((l.take k).any p||p l[k]):=by
 rw[vJ h,List.any_append];simp only[List.any_cons,List.any_nil,Bool.or_false]
abbrev eS:tM×Bool->tM×Bool->Bool:=fun x y=>decide (x.1=y.1)
abbrev eF:Fld->Fld->Bool:=fun x y=>decide (x.name=y.name)&&decide (x.sS=y.sS)
abbrev eP:Pd->Pd->Bool:=fun x y=>decide (x.name=y.name)
abbrev eM:tM×Int->tM×Int->Bool:=fun x y=>decide (x.1=y.1)
abbrev eA:tM×Nd->tM×Nd->Bool:=fun x y=>decide (x.1=y.1)
theorem Qu{mu lo s x}{xs ys:List Dg}{K}(o:OwnF lo mu 2 s (xs.map cDg))(p:qD mu x=some (ys.map cDg))(C:xs.length+ys.length<=100000)(I:∀ av mu',OwnF lo mu' 2 av ((xs++ys).map cDg)->(∀ i,i<lo->mu'[i]?=mu[i]?)->K av mu') :
  qy qb mu #[76,76] s x K:=by
 have j:∀ l:List Dg,zl 2 (l.map cDg):=fun l r t=>by
  obtain⟨n,_,rfl⟩:=qm.1 t;exact⟨rfl,rfl⟩
 refine qy.ownF (lo:=lo) (e:=71) (sz:=2) (bt:=16) (zv := .agg [aI 0,aI 0]) (xs:=xs.map cDg) (ys:=ys.map cDg) zSi zSi zSi rfl rfl zOm zOm o p (j xs) (j ys) zSo ?_
 grind
theorem qrX(ts)(h:okTS ts)(mu):qC qb 49 [eTS ts] mu fun e m=>∃ av,e = .ret av/\OwnF mu.length m 2 av ((dups (repL eS ts.sS)++dups (repL eF ts.sA)).map cDg)/\∀ i,i<mu.length->m[i]?=mu[i]?:=by
 refine qSW call49 func49 rfl {} ?_;have a6:=h.ns;have ab:=h.nf;simp[go_sem];refine aK ts.sS.length (fun i U=>U.tm 1 = .ip (cTS ts)/\U.tm 4=aI i/\OwnF mu.length U.mu 2 (U.tm 3) ((dups ((repL eS ts.sS).take i)).map cDg)/\∀ i,i<mu.length->U.mu[i]?=mu[i]?) ?_ ?_
 .simp_all [go_sem,dups,OwnF.nil,qr]
 rintro i U J ⟨P,e4,C,R⟩;have a0:(dups ((repL eS ts.sS).take i)).length<=i:=zL (Qo _) (List.length_take_le ..);generalize h3:U.tm 3=av at *
 by_cases l:i<ts.sS.length
 .have o:=kS eS ts.sS i l
  have wi:=zWk i;simp[go_sem,P,e4,l];refine aK i (fun k st2=>st2.tm 1 = .ip (cTS ts)/\st2.tm 4=aI i/\st2.tm 3=av/\st2.tm 6=aI k/\st2.tm 5=aB ((ts.sS.take k).any fun y=>eS ts.sS[i] y)/\st2.mu=U.mu) ?_ ?_
  .simp [go_sem, *]
  rintro k st2 hk ⟨f1,f4,f3,f6,f5,t⟩;generalize hT:(ts.sS.take k).any (fun y=>eS ts.sS[i] y)=T at *
  by_cases p:k<i
  .have r:k<ts.sS.length:=by omega
   have wk:=zWk k;have g:=Wl (fun y=>eS ts.sS[i] y) ts.sS k r;rw[hT]at g;simp[go_sem,f4,f6,p];refine cL zKr ?_;cases T with
   |true =>
    simp_all[go_sem,Bool.true_or,aA]
   |false =>
    rw[Bool.false_or]at g;by_cases hq:ts.sS[k].1=ts.sS[i].1
    .simp_all [go_sem,eS,decide_eq_true,aA]
    .have j:(ts.sS.take (k+1)).any (fun y=>eS ts.sS[i] y)=false:=by rw[g];exact decide_eq_false fun e=>hq e.symm
     simp_all[go_sem,jU,aA]
  .have a1:k=i:=by omega
   subst a1;rw[hT]at o;cases T with
   |true =>
    simp[go_sem,f4,f3,f6,f5,t];refine Qu (ys:=[(41,0)]) C (by simp[qD]) zSo fun a7 m' a2 a3=>?_
    simp[go_sem,f4,wi];exact⟨l,aA ⟨zS1 f1,zSi,by rw[o,Jl,wK,if_pos rfl];simpa[go_sem] using a2,by simp only[qB];exact fun i J=>(a3 i J).trans (R i J)⟩⟩
   |false =>
    simp[go_sem,f4,f6,f5,t,wi];exact⟨l,aA ⟨zS1 f1,zSi,by rw[o,Jl,wK,if_neg zSp,zJ];simpa[go_sem,f3,t] using C,by simp only[qB];exact R⟩⟩
 .have a4:i=ts.sS.length:=by omega
  subst a4;rw[zQ (by rw[Qm];exact qr _)]at C;simp[go_sem,P,e4];generalize a8:dups (repL eS ts.sS)=a5 at *
  have ad:a5.length<=4:=by rw[<-a8];exact zL (Qo _) (by rw[Qm];exact a6)
  refine aK ts.sA.length (fun i U=>U.tm 1 = .ip (cTS ts)/\U.tm 7=aI i/\OwnF mu.length U.mu 2 (U.tm 3) ((a5++dups ((repL eF ts.sA).take i)).map cDg)/\∀ i,i<mu.length->U.mu[i]?=mu[i]?) ?_ ?_
  .exact ⟨zS1 P,zSi,by simpa[go_sem,dups,h3] using C,zVs R⟩
  clear a0 C R P e4 h3 l J U;rintro i U J ⟨P,e4,C,R⟩;have a0:(dups ((repL eF ts.sA).take i)).length<=i:=zL (Qo _) (List.length_take_le ..);generalize h3:U.tm 3=a9 at *
  by_cases l:i<ts.sA.length
  .have o:=kS eF ts.sA i l
   have wi:=zWk i;simp[go_sem,P,e4,l];refine aK i (fun k st2=>st2.tm 1 = .ip (cTS ts)/\st2.tm 7=aI i/\st2.tm 3=a9/\st2.tm 9=aI k/\st2.tm 8=aB ((ts.sA.take k).any fun y=>eF ts.sA[i] y)/\st2.mu=U.mu) ?_ ?_
   .exact ⟨zS1 P,zS1 e4,zS1 h3,zSi,zSi,zSi⟩
   rintro k st2 hk ⟨f1,f4,f3,f6,f5,t⟩;generalize hT:(ts.sA.take k).any (fun y=>eF ts.sA[i] y)=T at *
   by_cases p:k<i
   .have r:k<ts.sA.length:=by omega
    have wk:=zWk k;have g:=Wl (fun y=>eF ts.sA[i] y) ts.sA k r;rw[hT]at g;have ae:=h.fl _ (qp r);have aa:=qmF ts.sA[k].sS ts.sA[i].sS zOm;simp[go_sem,f4,f6,p];refine cL zKr ?_;cases T with
    |true =>
     rw[Bool.true_or]at g;simp[go_sem,f6,f5,p,wk];exact aA ⟨zS1 f1,zS1 f4,zS1 f3,zSi,by rw[g];simp[go_sem],zS1 t⟩
    |false =>
     rw[Bool.false_or]at g;by_cases hq:ts.sA[k].name=ts.sA[i].name
     .simp [go_sem,f1,f4,f6,f5,r,l,hq]
      refine tK aa (.zk (zg _) (.zk (zg _) .nil)) ?_;by_cases I:ts.sA[k].sS=ts.sA[i].sS
      .have j:(ts.sA.take (k+1)).any (fun y=>eF ts.sA[i] y)=true:=by rw[g];simp[eF,hq.symm,I.symm]
       simp[go_sem,f6,p,wk,I];exact aA ⟨zS1 f1,zS1 f4,zS1 f3,zSi,by rw[j];simp[go_sem],zS1 t⟩
      .have j:(ts.sA.take (k+1)).any (fun y=>eF ts.sA[i] y)=false:=by rw[g];simp[eF,hq.symm];exact fun e=>I e.symm
       simp[go_sem,f6,p,wk,I];exact aA ⟨zS1 f1,zS1 f4,zS1 f3,zSi,by rw[j];simp[go_sem],zS1 t⟩
     .have j:(ts.sA.take (k+1)).any (fun y=>eF ts.sA[i] y)=false:=by rw[g];simp[eF];exact fun e=>absurd e.symm hq
      simp[go_sem,f1,f4,f6,f5,p,r,l,wk,jU hq];exact aA ⟨zS1 f1,zS1 f4,zS1 f3,zSi,by rw[j];simp[go_sem],zS1 t⟩
   .have a1:k=i:=by omega
    subst a1;rw[hT]at o;cases T with
    |true =>
     simp[go_sem,f4,f3,f6,f5,t];refine Qu (ys:=[(41,0)]) C (by simp[qD]) zSo fun a7 m' a2 a3=>?_
     simp[go_sem,f4,wi];exact⟨l,aA ⟨zS1 f1,zSi,by rw[o,Jl,wK,if_pos rfl,<-zt];simpa[go_sem] using a2,by simp only[qB];exact fun i J=>(a3 i J).trans (R i J)⟩⟩
    |false =>
     simp[go_sem,f4,f6,f5,t,wi];exact⟨l,aA ⟨zS1 f1,zSi,by rw[o,Jl,wK,if_neg zSp,zJ];simpa[go_sem,f3,t] using C,by simp only[qB];exact R⟩⟩
  .have a4:i=ts.sA.length:=by omega
   subst a4;rw[zQ (by rw[Qm];exact qr _)]at C;simp[go_sem,P,e4,h3];exact⟨zUs C,R⟩
end
end QT
namespace QU
open YF Y9 Y10 Y1 Y2 Y15 Y16 YZ P1 P2 PA QD QI QK QT
theorem qrY{ts i}(l):(∃ p,zu (ckR ts i) ts.sT[i].name=some p/\(ts.sT.take i).any (fun y=>eP ts.sT[i] y)=true)\/(zu (ckR ts i) ts.sT[i].name=none/\(ts.sT.take i).any (fun y=>eP ts.sT[i] y)=false):=by
 cases h:zu (ckR ts i) ts.sT[i].name with
 |some p =>
  left;refine⟨p,rfl,?_⟩;unfold zu at h;rw[List.findIdx?_eq_some_iff_getElem]at h;obtain⟨g,o,_⟩:=h;refine List.any_eq_true.2 ⟨_,qp g,?_⟩
  grind
 |none =>
  right;refine⟨rfl,?_⟩;unfold zu at h;rw[List.findIdx?_eq_none_iff]at h;rw[List.any_eq_false];intro x j;have:=h x j
  grind
theorem rdDg{lo mu av xs}(h:OwnF lo mu 2 av (xs.map cDg)):Rd mu av (lDg xs):=by
 refine h.1.rd (zl.ok fun r g=>?_) fun r g c i=>?_
 .obtain ⟨n,_,rfl⟩:=qm.1 g
  exact⟨rfl,rfl⟩
 .obtain ⟨n,_,rfl⟩:=qm.1 g
  rcases qw.1 i with rfl|i
  .exact HF.sc _
  grind [qT,HF.sc]
theorem Jm{lo sz mu av xs}(h:OwnF lo mu sz av xs)(c):OwnF lo (mu++[c]) sz av xs:=⟨J2 h.1 c,h.2.1,by have:=h.2.2;simp;omega⟩
theorem qrZ(ts)(h:okTS ts)(wp:∀ p,p∈ts.sT->WfN p.body)(i)(R:i<ts.sT.length)(hd:depN ts.sT[i].body<=24):qh qb 50 [eTS ts,aI i] (lDg (vX ts i)):=by
 have a6:=h.pl _ (qp R);have ag:=h.np;have c1:=qeD ts h wp i zOm ts.sT[i].params ⟨zOm,a6.2⟩ zOm ts.sT[i].body (wp _ (qp R)) hd;have c2:=Vw (ckR ts i) (Wk h zOm) ts.sT[i].name;have a7:=qrY R;have hp:vX ts i=dups [(ts.sT.take i).any (fun y=>eP ts.sT[i] y)]++(dups (repL eM ts.sT[i].params)++rp (jI (mkCk ts i) ts.sT[i].params ts.sT[i].body)):=by
  grind [vX,qz,qb9]
 rw[hp];generalize hD:jI (mkCk ts i) ts.sT[i].params ts.sT[i].body=D at *
 generalize hb:(ts.sT.take i).any (fun y=>eP ts.sT[i] y)=b at *
 have ah:(dups [b]).length<=1:=by grind [dups]
 refine qSU call50 func50 rfl ?_;refine cL zKr ?_;simp[go_sem,R];refine tK c2 (.zk (zm _) (.zs (.zs .nil))) ?_;have wk:WKs [eTS ts,aI i,lPm ts.sT[i].params,eNd ts.sT[i].body] [eTS ts,aI i,lPm ts.sT[i].params,eNd ts.sT[i].body] := .zk (zm _) (.zs (.zk (uh _) (.zk (qK _) .nil)));have af:=Zk;have fin:∀ U:St,True:=fun _=>trivial
 rcases a7 with ⟨p,hc,a0⟩|⟨hc,a0⟩
 case' inl =>
  subst a0;rw[hc];have a8:(0:Int)<=(p:Int):=zOm;simp[go_sem,idxO,a8];refine Qu (lo:=0) (xs:=[]) (ys:=[(41,0)]) (OwnF.nil zSp) (by simp[qD]) zSp fun ai m0 aj _=>?_
  simp[go_sem,R]
 case' inr =>
  subst a0;rw[hc];simp[go_sem,idxO,R]
 all_goals
  generalize a9:ts.sT[i]=g at *
 case' inl =>
  refine aK g.params.length (fun k U=>U.tm 2 = .ip (cTS ts)/\U.tm 1=aI i/\U.tm 6=lPm g.params/\U.tm 7=aI k/\OwnF 0 U.mu 2 (U.tm 5) ((dups [true]++dups ((repL eM g.params).take k)).map cDg)) ?_ ?_
  .simp_all [go_sem,dups]
 case' inr =>
  refine aK g.params.length (fun k U=>U.tm 2 = .ip (cTS ts)/\U.tm 1=aI i/\U.tm 6=lPm g.params/\U.tm 7=aI k/\OwnF 0 U.mu 2 (U.tm 5) ((dups [false]++dups ((repL eM g.params).take k)).map cDg)) ?_ ?_
  .simp_all [go_sem,dups,OwnF.nil]
 all_goals
  rintro k U hk ⟨e2,e1,e6,e7,ho⟩;have a5:(dups ((repL eM g.params).take k)).length<=k:=zL (Y16.Qo _) (List.length_take_le ..);generalize h5:U.tm 5=t at *
  by_cases r:k<g.params.length
  .have a1:=kS eM g.params k r
   have wi:=zWk k;simp[go_sem,e6,e7,r];refine aK k (fun j st2=>st2.tm 2 = .ip (cTS ts)/\st2.tm 1=aI i/\st2.tm 6=lPm g.params/\st2.tm 7=aI k/\st2.tm 5=t/\st2.tm 9=aI j/\st2.tm 8=aB ((g.params.take j).any fun y=>eM g.params[k] y)/\st2.mu=U.mu) ?_ ?_
   .simp [go_sem, *]
   rintro j st2 hj ⟨f2,f1,f6,f7,f5,f9,f8,fm⟩;generalize hT:(g.params.take j).any (fun y=>eM g.params[k] y)=T at *
   by_cases a2:j<k
   .have a3:j<g.params.length:=by omega
    have wj:=zWk j;have o:=Wl (fun y=>eM g.params[k] y) g.params j a3;rw[hT]at o;simp[go_sem,f7,f9,a2];refine cL zKr ?_;cases T with
    |true =>
     simp_all[go_sem,Bool.true_or,aA]
    |false =>
     rw[Bool.false_or]at o;by_cases hq:g.params[j].1=g.params[k].1
     .have l:(g.params.take (j+1)).any (fun y=>eM g.params[k] y)=true:=by rw[o];exact decide_eq_true hq.symm
      simp[go_sem,f6,f7,f9,f8,a2,a3,r,wj,hq];exact aA ⟨zS1 f2,zS1 f1,zS1 f6,zS1 f7,zS1 f5,zSi,by rw[l];simp[go_sem],zS1 fm⟩
     .have l:(g.params.take (j+1)).any (fun y=>eM g.params[k] y)=false:=by rw[o];exact decide_eq_false fun e=>hq e.symm
      simp[go_sem,f6,f7,f9,f8,a2,a3,r,wj,jU hq];exact aA ⟨zS1 f2,zS1 f1,zS1 f6,zS1 f7,zS1 f5,zSi,by rw[l];simp[go_sem],zS1 fm⟩
   .have aa:j=k:=by omega
    subst aa;rw[hT]at a1;cases T with
    |true =>
     simp[go_sem,f7,f5,f9,f8,fm];refine Qu (ys:=[(41,0)]) ho (by simp[qD]) zSo fun ab m' C ad=>?_
     simp[go_sem,f7,wi];exact⟨r,aA ⟨zS1 f2,zS1 f1,zS1 f6,zSi,by rw[a1,Jl,<-zt];simpa[go_sem,wK] using C⟩⟩
    |false =>
     simp[go_sem,f7,f9,f8,fm,wi];exact⟨r,aA ⟨zS1 f2,zS1 f1,zS1 f6,zSi,by rw[a1,Jl];simpa[go_sem,wK,f5,fm] using ho⟩⟩
  .have ae:k=g.params.length:=by omega
   subst ae;rw[zQ (by rw[Qm];exact qr _)]at ho a5;simp[go_sem,e6,e7];refine cL zKr ?_;simp[go_sem,e2,e1,e6,R,a9];refine tK c1 wk ?_;by_cases I:D.1=0
   .have a4:rp D=[]:=if_pos I
    rw[a4];simp[go_sem,h5,I];exact rdDg (Jm ho _)
   .have a4:rp D=[D]:=if_neg I
    rw[a4];simp[go_sem,h5,I];refine Qu (ys:=[D]) (Jm ho _) (by simp[qD]) (by simp only[q8,List.length_singleton];omega) fun ab m' C ad=>?_
    simp[go_sem];rw[zt]at C;exact rdDg C
theorem JZ(f:Nat->List Dg)(n):(qt (n+1)).flatMap f=(qt n).flatMap f++f n:=by
 rw[List.range_succ,List.flatMap_append];simp only[wR,List.flatMap_nil,zJ]
theorem qr0(ts)(h:okTS ts)(wp:∀ p,p∈ts.sT->WfN p.body)(wf:∀ f,f∈ts.sP->WfN f.2)(dp:∀ p,p∈ts.sT->depN p.body<=24)(df:∀ f,f∈ts.sP->depN f.2<=24):qh qb 24 [eTS ts] (lDg (jq ts)):=by
 have aj:=h.np;have ak:=h.nfa;have hD:(dups (repL eS ts.sS)++dups (repL eF ts.sA)).length<=10:=by
  have a1:=Y16.Qo (repL eS ts.sS);have a2:=Y16.Qo (repL eF ts.sA);rw[Qm]at a1 a2;have:=h.ns;have:=h.nf;rw[q8];omega
 have hC:jq ts=(dups (repL eS ts.sS)++dups (repL eF ts.sA))++((qt ts.sT.length).flatMap (vX ts)++(qt ts.sP.length).flatMap (Qn ts ts.sP)):=by
  unfold jq;rw[zt]
 rw[hC];have a8:=qrX ts h [];generalize dups (repL eS ts.sS)++dups (repL eF ts.sA)=D0 at *
 refine qSU call24 func24 rfl ?_;refine fQ a8 (fun r m hr=>?_) (fun r m hr=>?_)
 case refine_2 =>
  grind
 obtain⟨al,e,an,_⟩:=hr;cases e;simp[go_sem];refine aK ts.sT.length (fun i U=>U.tm 1 = .ip (cTS ts)/\U.tm 4=aI i/\OwnF 0 U.mu 2 (U.tm 3) ((D0++(qt i).flatMap (vX ts)).map cDg)) ?_ ?_
 .simp_all [go_sem]
 rintro i U hi ⟨e1,e4,P⟩;have ai:=Y16.Ks (vX ts) (Y16.qaE h) i;generalize h3:U.tm 3=t at *
 by_cases g:i<ts.sT.length
 .have j:=JZ (vX ts) i
  have ao:=Y16.qaE h i;have a9:=qrZ ts h wp i g (dp _ (qp g));have wi:=zWk i;generalize vX ts i=PD at *
  simp[go_sem,e1,e4,h3,g];refine fR a9 (.zk (zm ts) (.zs .nil)) ?_;refine Qu (ys:=PD) P (by simp[qD]) (by simp only[q8];omega) fun aa m' a0 ab=>?_
  simp_all[go_sem,aA,zt]
 .have a3:i=ts.sT.length:=by omega
  subst a3;simp[go_sem,e1,e4];generalize (qt ts.sT.length).flatMap (vX ts)=P0 at *
  refine aK ts.sP.length (fun i U=>U.tm 1 = .ip (cTS ts)/\U.tm 5=aI i/\OwnF 0 U.mu 2 (U.tm 3) (((D0++P0)++(qt i).flatMap (Qn ts ts.sP)).map cDg)) ?_ ?_
  .exact ⟨zS1 e1,zSi,by simpa[go_sem,h3] using P⟩
  clear P e1 e4 h3 g hi U;rintro i U hi ⟨e1,e4,P⟩;have ad:=Y16.Ks (Qn ts ts.sP) (Y16.ql4 ts ts.sP) i;generalize h3:U.tm 3=ae at *
  by_cases g:i<ts.sP.length
  .have j:=JZ (Qn ts ts.sP) i
   have af:Qn ts ts.sP i=dups [(ts.sP.take i).any (fun y=>eA ts.sP[i] y)]++rp (yj ts [] ts.sP[i].2):=by
    unfold Qn;rw[qz g];simp only;rw[qb9,qz g]
   rw[af]at j;have cf:=kR ts h wp [] ⟨zSp,zSp⟩ zSp ts.sP[i].2 (wf _ (qp g)) (df _ (qp g));have wi:=zWk i;generalize yj ts [] ts.sP[i].2=D at *
   simp[go_sem,e1,e4,g];refine aK i (fun k st2=>st2.tm 1 = .ip (cTS ts)/\st2.tm 5=aI i/\st2.tm 3=ae/\st2.tm 7=aI k/\st2.tm 6=aB ((ts.sP.take k).any fun y=>eA ts.sP[i] y)/\st2.mu=U.mu) ?_ ?_
   .exact ⟨zS1 e1,zS1 e4,zS1 h3,zSi,zSi,zSi⟩
   rintro k st2 hk ⟨f1,f4,f3,f6,f5,fm⟩;generalize hT:(ts.sP.take k).any (fun y=>eA ts.sP[i] y)=T at *
   by_cases R:k<i
   .have a4:k<ts.sP.length:=by omega
    have wk:=zWk k;have l:=Wl (fun y=>eA ts.sP[i] y) ts.sP k a4;rw[hT]at l;simp[go_sem,f4,f6,R];refine cL zKr ?_;cases T with
    |true =>
     rw[Bool.true_or]at l;simp[go_sem,f6,f5,R,wk];exact aA ⟨zS1 f1,zS1 f4,zS1 f3,zSi,by rw[l];simp[go_sem],zS1 fm⟩
    |false =>
     rw[Bool.false_or]at l;by_cases hq:ts.sP[k].1=ts.sP[i].1
     .have C:(ts.sP.take (k+1)).any (fun y=>eA ts.sP[i] y)=true:=by rw[l];exact decide_eq_true hq.symm
      simp[go_sem,f1,f4,f6,f5,R,a4,g,wk,hq];exact aA ⟨zS1 f1,zS1 f4,zS1 f3,zSi,by rw[C];simp[go_sem],zS1 fm⟩
     .have C:(ts.sP.take (k+1)).any (fun y=>eA ts.sP[i] y)=false:=by rw[l];exact decide_eq_false fun e=>hq e.symm
      simp[go_sem,f1,f4,f6,f5,R,a4,g,wk,jU hq];exact aA ⟨zS1 f1,zS1 f4,zS1 f3,zSi,by rw[C];simp[go_sem],zS1 fm⟩
   .have ag:k=i:=by omega
    subst ag;rw[hT]at j;have a5:WKs [eTS ts,.lst true [],eNd ts.sP[k].2] [eTS ts,lPm [],eNd ts.sP[k].2] := .zk (zm ts) (.cons (WK.lst fun r hr=>absurd hr qH) (.zk (qK _) .nil));have aq:=nM;cases T with
    |true =>
     simp[go_sem,f4,f3,f6,f5,fm];refine Qu (ys:=[(41,0)]) P (by simp[qD]) (by simp only[q8,List.length_singleton];omega) fun aa m' a0 ab=>?_
     simp[go_sem];refine cL zKr ?_;simp[go_sem,f1,f4,g];refine tK cf a5 ?_;by_cases o:D.1=0
     .have I:rp D=[]:=if_pos o
      rw[I,zJ]at j;simp[go_sem,f4,wi,o];exact⟨g,aA ⟨zS1 f1,zSi,by rw[j,<-zt];simpa[go_sem,wK] using Jm a0 (.arr [aI 0,aI D.2])⟩⟩
     .have I:rp D=[D]:=if_neg o
      rw[I]at j;simp[go_sem,o];refine Qu (ys:=[D]) (Jm a0 _) (by simp[qD]) (by simp only[q8,List.length_singleton];omega) fun a6 ah J a7=>?_
      simp[go_sem,f4,wi];exact⟨g,aA ⟨zS1 f1,zSi,by rw[j,<-zt];simpa[go_sem,wK,zt] using J⟩⟩
    |false =>
     simp[go_sem,f4,f6,f5,fm];refine cL zKr ?_;simp[go_sem,f1,f4,g];refine tK cf a5 ?_;by_cases o:D.1=0
     .have I:rp D=[]:=if_pos o
      rw[I,zJ]at j;simp[go_sem,f4,wi,o];exact⟨g,aA ⟨zS1 f1,zSi,by rw[j,<-zt];simpa[go_sem,wK,f3] using Jm P (.arr [aI 0,aI D.2])⟩⟩
     .have I:rp D=[D]:=if_neg o
      rw[I]at j;simp[go_sem,f3,o];refine Qu (ys:=[D]) (Jm P _) (by simp[qD]) (by simp only[q8,List.length_singleton];omega) fun a6 ah J a7=>?_
      simp[go_sem,f4,wi];exact⟨g,aA ⟨zS1 f1,zSi,by rw[j,<-zt];simpa[go_sem,wK,zt] using J⟩⟩
  .have a3:i=ts.sP.length:=by omega
   subst a3;simp[go_sem,e1,e4,h3];rw[zt]at P;exact rdDg P
end QU
namespace QP
end QP
namespace QV
end QV
namespace QW
open YS YF Y9 Y10 Y1 Y2 YZ YA P1 P2
section
variable {nm:tM}{l:List tM}
abbrev rNm(b:tM):List AV:=[aS b]
abbrev lNm(l:List tM):AV := .lst false (l.map rNm)
def namL(n:Nd):List tM:=((preN n).filter fun x=>decide (x.name≠⟨#[]⟩)).map Nd.name
def vB(l:List Nd):List tM:=((zx l).filter fun x=>decide (x.name≠⟨#[]⟩)).map Nd.name
theorem qr1(n):namL n=(if n.name=⟨#[]⟩ then [] else [n.name])++vB n.sD:=by
 unfold namL vB;rw[wE,List.filter_cons];by_cases h:n.name=⟨#[]⟩
 .simp [h]
 .simp [h]
theorem Jb:∀ a b,zx (a++b)=zx a++zx b
 | [],b=>rfl
 |x :: a,b=>by rw[List.cons_append];simp only[zx];rw[Jb a b,zt]
theorem qr2(a k):vB (a++[k])=vB a++namL k:=by
 grind [vB,namL,Jb,zx]
theorem qr3(l):(vB l).length<=(zx l).length:=by
 grind [vB,zA,List.length_filter_le]
theorem Wm(n):(namL n).length<=(preN n).length:=by
 grind [namL,zA,List.length_filter_le]
theorem kT(l:List tM):zl 1 (l.map rNm):=fun r g=>by
 obtain⟨x,_,rfl⟩:=qm.1 g;exact⟨rfl,rfl⟩
theorem qeE(l):HF (lNm l):=HF.lst fun r g c i=>by
 obtain⟨x,_,rfl⟩:=qm.1 g
 grind [qT,HF.sc]
theorem rdNm{lo mu av}(h:OwnF lo mu 1 av (l.map rNm)):Rd mu av (lNm l):=
 h.1.rd (kT l).ok fun r g c i=>by
  obtain⟨x,_,rfl⟩:=qm.1 g
  grind [qT,HF.sc]
theorem appNm{mu lo s x}{xs ys:List tM}{K}(j:OwnF lo mu 1 s (xs.map rNm))(l:qD mu x=some (ys.map rNm))(o:xs.length+ys.length<=1000000)(p:∀ av mu',OwnF lo mu' 1 av ((xs++ys).map rNm)->(∀ i,i<lo->mu'[i]?=mu[i]?)->K av mu') :
  qy qb mu #[173,173] s x K:=by
 refine qy.ownF (lo:=lo) (e:=9) (sz:=1) (bt:=16) (zv:=aS ⟨#[]⟩) (xs:=xs.map rNm) (ys:=ys.map rNm) zSi zSi zSi rfl rfl zOm zOm j l (kT xs) (kT ys) zSo ?_
 grind
theorem qr4(l k):(zx (l.take k)).length<=(zx l).length:=by
 grind [zx,Jb,List.take_append_drop,q8]
theorem kU:∀ m n,szN n<=m->Small n->∀ lo mu av xs,OwnF lo mu 1 av (xs.map rNm)->xs.length+(preN n).length<=500000 ->
  qC qb 154 [av,eNd n] mu fun e t=>∃ g,e = .ret g/\OwnF lo t 1 g ((xs++namL n).map rNm)/\∀ i,i<lo->t[i]?=mu[i]?
 | 0,n,I,_=>by obtain⟨op,nm,i,ks,p⟩:=n;simp[szN]at I
 |m+1,n,I,hs=>by
  intro lo mu av xs C hl;have ih:∀ k,k∈n.sD->∀(lo:Nat)(mu:Mu)(av:AV)(xs:List tM),OwnF lo mu 1 av (xs.map rNm)->xs.length+(preN k).length<=500000->qC qb 154 [av,eNd k] mu fun e t=>∃ g,e = .ret g/\OwnF lo t 1 g ((xs++namL k).map rNm)/\∀ i,i<lo->t[i]?=mu[i]?:=fun k P =>
   kU m k (zW1 (yr P)) (hs.kid P)
  have a2:=hs.len;have l:=qr1 n;have a3:(preN n).length=1+(zx n.sD).length:=by rw[wE,zz];omega
  refine qSW call154 func154 rfl {} ?_;by_cases J:n.name=⟨#[]⟩
  case' pos =>
   rw[if_pos J,vE]at l;simp[go_sem,J];refine aK n.sD.length (fun k U=>U.tm 3 = .ip (cNd n)/\U.tm 5=aI k/\OwnF lo U.mu 1 (U.tm 0) ((xs++vB (n.sD.take k)).map rNm)/\∀ i,i<lo->U.mu[i]?=mu[i]?) ?_ ?_
   .simp_all [go_sem,vB,zx]
   generalize hX:xs=X at *
   have R:X.length+(zx n.sD).length<=500000:=zOm;have j:X++vB n.sD=X++namL n:=by rw[l]
  case' neg =>
   rw[if_neg J]at l;have T:n.name.toList.isEmpty=false:=by simpa using jU J
   simp[go_sem,T];refine appNm (ys:=[n.name]) C (by simp[qD]) (by grind) fun g t a4 a5=>?_
   simp[go_sem];refine aK n.sD.length (fun k U=>U.tm 3 = .ip (cNd n)/\U.tm 5=aI k/\OwnF lo U.mu 1 (U.tm 0) (((xs++[n.name])++vB (n.sD.take k)).map rNm)/\∀ i,i<lo->U.mu[i]?=mu[i]?) ?_ ?_
   .simp_all [go_sem,vB,zx]
   generalize hX:xs++[n.name]=X at *
   have R:X.length+(zx n.sD).length<=500000:=by grind
   have j:X++vB n.sD=xs++namL n:=by grind
  all_goals
   rintro k U P ⟨e3,e5,C,I⟩;generalize h0:U.tm 0=a0 at *
   by_cases o:k<n.sD.length
   .have w1:=zWk k
    have a6:vB (n.sD.take (k+1))=vB (n.sD.take k)++namL n.sD[k]:=by rw[vJ o,qr2]
    have a7:(zx (n.sD.take (k+1))).length=(zx (n.sD.take k)).length+(preN n.sD[k]).length:=by grind [vJ,Jb,zx]
    have h1:=qr4 n.sD (k+1);have h2:=qr3 (n.sD.take k);simp[go_sem,e3,e5,h0,o,ze];refine fQ (ih n.sD[k] (qp o) lo U.mu a0 _ C (by rw[q8];omega)) (fun r m2 hr=>?_) (fun r m2 hr=>?_)
    .simp_all [go_sem,aA,zt,qB,trans]
    grind
   .have a1:k=n.sD.length:=by omega
    subst a1;rw[qO,j]at C;simp[go_sem,e3,e5,h0];exact⟨zUs C,I⟩
def takL(ts:TS)(n:Nd):List tM:=namL n++ts.sT.flatMap fun p=>namL p.body
theorem qr5(ts)(h:okTS ts)(wp:∀ p,p∈ts.sT->WfN p.body)(n)(hw:WfN n)(hl:(preN n).length<=400)(hp:∀ p,p∈ts.sT->(preN p.body).length<=400):qh qb 97 [eTS ts,eNd n] (lNm (takL ts n)):=by
 have a3:=h.np;have hk:∀ i (o:i<ts.sT.length),ts.sT.take (i+1)=ts.sT.take i++[ts.sT[i]]:=fun i o=>vJ o
 have I:∀ i,((ts.sT.take i).flatMap fun p=>namL p.body).length<=400*i:=by
  intro i;induction i with
  |zero=>simp
  |succ i ih =>
   by_cases o:i<ts.sT.length
   .rw [hk i o,List.flatMap_append,q8]
    have h1:=Wm ts.sT[i].body;have h2:=hp _ (qp o);simp only[wR,List.flatMap_nil,zJ];omega
   .have e1:ts.sT.take (i+1)=ts.sT:=zQ zOm
    have l:ts.sT.take i=ts.sT:=zQ zOm;rw[e1];rw[l]at ih;omega
 have hn:=Wm n;refine qSU call97 func97 rfl ?_;refine fQ (kU (szN n) n (qr _) hw.small 0 [] (.lst true []) [] (OwnF.nil zSp) zSo) (fun r J j=>?_) (fun r J j=>?_)
 case refine_2 =>
  obtain⟨t,e,_⟩:=j;cases e
 obtain⟨a4,e,C,_⟩:=j;cases e;rw[vE]at C;simp[go_sem];refine aK ts.sT.length (fun k U=>U.tm 2 = .ip (cTS ts)/\U.tm 6=aI k/\OwnF 0 U.mu 1 (U.tm 5) ((namL n++(ts.sT.take k).flatMap fun p=>namL p.body).map rNm)) ?_ ?_
 .exact ⟨zSi,zSi,zVs C⟩
 rintro k U a5 ⟨l,P,R⟩;generalize h5:U.tm 5=T at *
 by_cases g:k<ts.sT.length
 .have w1:=zWk k
  have a0:(ts.sT.take (k+1)).flatMap (fun p=>namL p.body)=(ts.sT.take k).flatMap (fun p=>namL p.body)++namL ts.sT[k].body:=by
   rw[hk k g,List.flatMap_append];simp only[wR,List.flatMap_nil,zJ]
  have h1:=I k;have h2:=hp _ (qp g);simp[go_sem,l,P,h5,g,Zk];refine fQ (kU (szN ts.sT[k].body) ts.sT[k].body (qr _) (wp _ (qp g)).small 0 U.mu T _ R (by rw[q8];omega)) (fun r J j=>?_) (fun r J j=>?_)
  .obtain ⟨t,e,a1,_⟩:=j
   cases e;simp[go_sem,l,P,w1];exact⟨g,aA ⟨zS1 l,zSi,by rw[a0,<-zt];simpa[go_sem] using a1⟩⟩
  .obtain ⟨t,e,_⟩:=j
   cases e
 .have a2:k=ts.sT.length:=by omega
  subst a2;rw[qO]at R;simp[go_sem,l,P,h5];exact rdNm R
def inL(nm:tM)(l:List tM):Bool:=l.any fun x=>decide (x=nm)
theorem kV:inL nm l=true↔nm∈l:=by
 unfold inL;simp
theorem qeF(h:¬nm∈l):inL nm l=false:=by
 grind [inL,absurd,kV]
theorem hasU(l nm)(P:l.length<=1000000):qh qb 200 [lNm l,aS nm] (aB (inL nm l)):=by
 refine qSU call200 func200 rfl ?_;refine aK l.length (fun k U=>U.tm 0=lNm l/\U.tm 1=aS nm/\U.tm 5=aI k/\∀ x,x∈l.take k->x≠nm) ?_ ?_
 .simp [go_sem, *]
 rintro k U R ⟨i,j,r,t⟩;by_cases g:k<l.length
 .have J:=zWk k
  by_cases o:l[k]=nm
  .have C:inL nm l=true:=kV.2 (o ▸ qp g)
   rw[C];simp[go_sem,i,j,r,g,o];exact .zsc _
  .simp [go_sem,i,j,r,g,jU o,J]
   refine aA ⟨zS1 i,zS1 j,zSi,fun x p=>?_⟩;rw[vJ g,qJ,qT]at p;rcases p with p|rfl
   .exact t x p
   .exact o
 .have I:k=l.length:=by omega
  subst I;rw[qO]at t;have C:inL nm l=false:=qeF fun h=>t nm h rfl
  rw[C];simp[go_sem,i,j,r];exact .zsc _
theorem qr6(u:Nat)(h:u<10):ByteArray.empty.push (UInt8.ofNat ((48:Int)+(u:Int)).toNat)=jx u:=by
 unfold jx;rw[Lib.itoa_nonneg,Lib.decDigits_one h,show ((48:Int)+(u:Int)).toNat=48+u by omega];rfl
theorem qr7(u)(h:¬u<10):jx ((u / 10:Nat):Int)++ByteArray.empty.push (UInt8.ofNat ((48:Int)+((u % 10:Nat):Int)).toNat)=jx u:=by
 unfold jx;rw[Lib.itoa_nonneg,Lib.itoa_nonneg,Lib.decDigits.eq_1 u,dif_neg h,show ((48:Int)+((u % 10:Nat):Int)).toNat=48+u % 10 by omega];apply ByteArray.ext;simp
theorem digU:∀(m u:Nat),u<=m->u<=1000000000->qh qb 199 [aI u] (aS (jx u))
 |m,u,J,P=>by
  have r:qo.wrap (48+(u:Int))=48+(u:Int):=zWr;refine qSV call199 func199 rfl ?_;by_cases h:u<10
  .have i:(u:Int)<10:=by omega
   have t:IntKind.u8.wrap (48+(u:Int))=48+(u:Int):=IntWalk.u8_in _ ⟨zOm,zOm⟩;have g:=qr6 u h;simp[go_sem,i,r,t,g];exact .zsc _
  .have i:¬(u:Int)<10:=by omega
   have C:=digU (u / 10) (u / 10) (qr _) zOm;have g:=qr7 u h;simp[go_sem,i];refine cL zKr ?_;have I:qo.wrap ((u:Int) / 10)=((u / 10:Nat):Int):=by rw[show ((u:Int) / 10)=((u / 10:Nat):Int) from rfl];grind [zT]
   have t3:(u:Int).tmod 10=((u % 10:Nat):Int):=rfl;have o:qo.wrap (48+((u % 10:Nat):Int))=48+((u % 10:Nat):Int):=zWr;have p:IntKind.u8.wrap (48+((u % 10:Nat):Int))=48+((u % 10:Nat):Int):=IntWalk.u8_in _ ⟨zOm,zOm⟩;have j:=KT ((u / 10:Nat):Int) zOm zOm;simp[go_sem,I];refine tK C (.zs .nil) ?_;have c1:((u / 10:Nat):Int)=(u:Int) / 10:=rfl;have c2:((u % 10:Nat):Int)=(u:Int) % 10:=rfl;rw[c1]at j g;rw[c2]at o p g;have l:(jx ((u:Int) / 10)).size<=9223372036854775806:=zOm;simp[go_sem,t3,o,p,l,g];exact .zsc _
end
end QW
namespace QX
open YS YF Y9 Y1 Y2 YX YZ YA YB P1 QD QK QW
abbrev cWk(ts:TS)(l:List tM)(s:ISt):List AV:=cTS ts++[lNm l,aI s.last,aI s.sM]
abbrev eWk(ts:TS)(l:List tM)(s:ISt):AV := .agg (cWk ts l s)
theorem qr8(ts l s):∀ c,c∈cWk ts l s->HF c:=fun c g=>by
 rcases qJ.1 g with g|g
 .exact JR ts c g
 .simp only[qw,qH,or_false]at g
  rcases g with rfl|rfl|rfl
  .exact qeE l
  .exact HF.sc _
  .exact HF.sc _
theorem wL(ts l s):HF (eWk ts l s):=HF.agg (qr8 ts l s)
structure Tn (l:List tM) (es:List (tM×Bool)):Prop where
 mem:∀ nm:tM,nm≠⟨#[]⟩->(nm∈l↔getK nm es=some true)
 len:es.length<=l.length+1
theorem vN_ne(k):vN k≠⟨#[]⟩:=fun e=>by
 have:=congrArg ByteArray.size e;unfold vN at this;rw[ByteArray.size_append]at this;have g:(⟨#[118]⟩:tM).size=1:=rfl;have i:(⟨#[]⟩:tM).size=0:=rfl;omega
theorem qr9{ts l es}(t:Tn l es)(k):yG ts es (vN k)=(decide ((means ts (vN k)).length=0)&&!inL (vN k) l):=by
 unfold yG;have i:=t.mem (vN k) (vN_ne k);have g:decide (means ts (vN k)=[])=decide ((means ts (vN k)).length=0):=by
  simp[List.length_eq_zero_iff]
 rw[g,Bool.and_comm];congr 1;by_cases j:vN k∈l
 .grind [kV]
 simp_all[qeF,Bool.not_false,decide_eq_true_eq]
theorem two{I:Type}{l}{a b:I}(g:l[0]?=some a)(i:l[1]?=some b):∃ r,l=a :: b :: r:=by
 match l,g,i with
 |_ :: _ :: r,g,i =>
  grind
abbrev zWc:List AV:=[.lst true [],.lst true [],.lst true [],.lst true [],.lst true [],aI 0,aI 0]
theorem qsA(ts)(h:okTS ts)(l es)(t:Tn l es)(hl:l.length<=400000)(s:ISt)(hs:0<=s.last/\s.last+(qq ts es:Nat)<=1000000000)(a4:∃ j,1<=j/\j<=qq ts es/\yG ts es (vN (s.last+j))=true) :
  qh qb 153 [eWk ts l s] (.tup [eWk ts l ⟨zy ts es (qq ts es) s.last,s.sM⟩,aS (vN (zy ts es (qq ts es) s.last))]):=by
 have a8:=h.ns;have a9:=h.nf;have hF:qq ts es<=l.length+40:=by have:=t.len;unfold qq;omega
 have a5:okNm ts:=⟨h.sl,zOm,zOm,fun f hf=>zW1 (h.fl f hf)⟩;generalize aa:qq ts es=F at *
 generalize hR:zy ts es F s.last=R;refine qSQ call153 func153 rfl { mt:=[1] } ?_;simp[go_sem];refine tA (fun m U=>∃(i:Nat) (k:Int),i+m=F/\0<=k/\k+m<=1000000000/\U.tm 1 = .ptr 0 0/\U.tm 2 = .ptr 1 0/\U.tm 4=aI i/\U.mu[0]?=some (.arr (cWk ts l ⟨k,s.sM⟩))/\U.mu[1]?=some (.arr zWc)/\zy ts es m k=R/\∃ j:Nat,1<=j/\j<=m/\yG ts es (vN (k+j))=true) F ?_ ?_
 .exact ⟨0,s.last,zOm,hs.1,zOm,zSi,zSi,zSi,zSi,zSi,hR,a4⟩
 rintro m U ⟨i,k,ab,ad,ae,I,J,e4,m0,m1,hI,j,af,ag,ah⟩;obtain⟨m,rfl⟩:∃ m',m=m'+1:=⟨m-1,zOm⟩;obtain⟨rr,o⟩:=two m0 m1;have w1:qo.wrap (k+1)=k+1:=zWr;have w2:qo.wrap ((l.length:Int)+40)=(l.length:Int)+40:=zWr;have w3:=zWk i;have g:(i:Int)<=(l.length:Int)+40:=zOm;obtain⟨u,hu⟩:∃ u:Nat,k+1=(u:Int):=⟨(k+1).toNat,zOm⟩;have cd:=digU u u (qr _) zOm;have ai:=KT (u:Int) zOm zOm;have a2:1+(jx (u:Int)).size<=9223372036854775807:=zOm;have hv:(⟨#[118]⟩:tM)++jx (u:Int)=vN (k+1):=by rw[hu];rfl
 have p:=qr9 (ts:=ts) t (k+1);have cn:=kB ts a5 (vN (k+1));have T:=kA ts (vN (k+1));have hk:(named ts (vN (k+1))).2=(means ts (vN (k+1))).length:=by rw[kO h]
 rw[hk]at cn;generalize (named ts (vN (k+1))).1=C at *
 have ch:=hasU l (vN (k+1)) zOm;clear m0 m1;simp[go_sem,I,J,e4,o,w1,w2,g];refine tK cd (.cons (by rw[hu];exact .hf (HF.sc _)) .nil) ?_;simp[go_sem,I,J,e4,o,w1,w2,g,a2,hv];refine tK cn (.zk (zm ts) (.zs .nil)) ?_;simp[go_sem,I,J,e4,o,w1,w2,g,T.len];rw[if_pos T.one];generalize putCells _ 0 C=PC;have next:yG ts es (vN (k+1))=false->∃ k':Int,k'=k+1/\zy ts es m k'=R/\∃ j:Nat,1<=j/\j<=m/\yG ts es (vN (k'+j))=true:=fun hn=>by
  refine⟨k+1,rfl,?_,j-1,?_,zOm,?_⟩
  .simp_all [zy,if_neg]
  .have:j≠1:=fun e=>by grind
   omega
  grind
 by_cases P:means ts (vN (k+1))=[]
 .rw [P]at p
  simp[go_sem,I,J,e4,o,w1,w2,g,P];refine tK ch (.zk (qeE l) (.zs .nil)) ?_;cases a3:inL (vN (k+1)) l with
  |true =>
   rw[a3]at p;obtain⟨k',r,a0,a1⟩:=next p;simp[go_sem,I,J,e4,o,w1,w2,w3,g];exact⟨m,zOm,aA ⟨i+1,k+1,zOm,zOm,zOm,zS1 I,zS1 J,zSi,zSi,zSi,by rw[<-r];exact a0,by rw[<-r];exact a1⟩⟩
  |false =>
   rw[a3]at p;have a6:R=k+1:=by rw[<-hI];simp only[zy];rw[if_pos (by rw[p];rfl)]
   simp[go_sem,I,J,e4,o,w1,w2,g];rw[a6];exact .hf _ (HF.tup fun x hx=>by
    simp only[qw,qH,or_false]at hx;rcases hx with rfl|rfl
    .exact wL ts l ⟨k+1,s.sM⟩
    .exact HF.sc _)
 .have a7:¬(means ts (vN (k+1))).length=0:=fun e=>P (List.length_eq_zero_iff.1 e)
  rw[decide_eq_false a7]at p;obtain⟨k',r,a0,a1⟩:=next p;simp[go_sem,I,J,e4,o,w1,w2,w3,g,P];exact⟨m,zOm,aA ⟨i+1,k+1,zOm,zOm,zOm,zS1 I,zS1 J,zSi,zSi,zSi,by rw[<-r];exact a0,by rw[<-r];exact a1⟩⟩
abbrev Sb:=tM×IV
def cAr:Option Nd->List AV
 |some a=>cNd a
 |none=>[aI 0,aS ⟨#[]⟩,aI 0,.lst true [],aI 0]
@[go_sem] theorem cAr_some(a):cAr (some a)=cNd a:=rfl
@[go_sem] theorem cAr_none:cAr none=[aI 0,aS ⟨#[]⟩,aI 0,.lst true [],aI 0]:=rfl
@[go_sem] theorem qsB(o):(cAr o).length=5:=by cases o<;>simp[go_sem,yC]
theorem qsC(o):∀ c,c∈cAr o->HF c:=by
 cases o with
 |some a=>exact vG a
 |none =>
  intro c g;simp only[cAr,qw,qH,or_false]at g;rcases g with rfl|rfl|rfl|rfl|rfl
  .exact HF.sc _
  .exact HF.sc _
  .exact HF.sc _
  .exact HF.lst fun r i=>absurd i qH
  .exact HF.sc _
abbrev cSb(x:Sb):List AV:=[aS x.1,aS x.2.name,aB x.2.arg.isSome]++cAr x.2.arg++[aI x.2.size]
abbrev lSb(l:List Sb):AV := .lst false (l.map cSb)
def uW(nm:tM)(l:List Sb):Option IV:=l.foldl (fun r e=>if e.1=nm then some e.2 else r) none
theorem Wn(nm l e):uW nm (l++[e])=if e.1=nm then some e.2 else uW nm l:=by
 unfold uW;rw[List.foldl_append];rfl
theorem kW{mu}(ts l s n z):Rd mu (.tup [eWk ts l s,eNd n,aI z]) (.tup [eWk ts l s,eNd n,aI z]) := .hf _ (HF.tup fun x g=>by
 simp only[qw,qH,or_false]at g;rcases g with rfl|rfl|rfl
 .exact wL ts l s
 .exact qK n
 .exact HF.sc _)
def Qv(sc:List Sb)(n:Nd)(s:ISt):(Nd×Int)×ISt:=match uW n.name sc with
 |none=>((n,1),s)
 |some v=>match v.arg with
  |none=>((.mk n.op v.name n.n n.sD n.pos,1),s)
  |some a=>((a,v.size),payS v.size s)
theorem leafU(ts l sc)(hl:sc.length<=1000000)(n s)(hs:0<=s.sM/\s.sM<=1000000)(hz:∀ e,e∈sc->0<=e.2.size/\e.2.size<=1000000) :
  qh qb 150 [eWk ts l s,lSb sc,eNd n] (.tup [eWk ts l (Qv sc n s).2,eNd (Qv sc n s).1.1,aI (Qv sc n s).1.2]):=by
 unfold Qv;generalize hR:uW n.name sc=R;have wl:qo.wrap ((sc.length:Int)-1)=(sc.length:Int)-1:=zWr;refine qSQ call150 func150 rfl { mt:=[3,5] } ?_;simp[go_sem,wl,ze];refine tA (fun m U=>m<=sc.length/\U.tm 1=lSb sc/\U.tm 3 = .ptr 0 0/\U.tm 5 = .ptr 1 0/\U.tm 6 = .ptr 2 0/\U.tm 7 = .ptr 3 0/\U.tm 9=aI ((m:Int)-1)/\U.mu=[.arr (cWk ts l s),.arr (cNd n),.arr zWc,.arr [aI 0,aS ⟨#[]⟩,aI 0,.lst true [],aI 0]]/\uW n.name (sc.take m)=R) sc.length ?_ ?_
 .simp [go_sem, *]
 rintro m U ⟨a2,j,o,p,r,t,C,I,P⟩;cases m with
 |zero =>
  have a1:R=none:=by rw[<-P];rfl
  subst a1;simp[go_sem,j,o,p,r,t,C,I,ze];refine fD [0,1,4,2,3] [(0,0,[]),(1,0,[]),(4,0,[]),(2,1,[1]),(3,1,[])] zKr zKr zSi ?_;simp[go_sem,j,o,p,r,t,C,I,ze]
  grind [kW]
 |succ m =>
  have g:m<sc.length:=zOm;have a3:(0:Int)<=((m+1:Nat):Int)-1:=zOm;have T:((m+1:Nat):Int)-1=(m:Int):=zOm;rw[T]at C;rw[vJ g,Wn]at P;have w1:qo.wrap ((m:Int)-1)=(m:Int)-1:=zWr;have a4:=hz _ (qp g);generalize i:sc[m]=e at *
  by_cases J:e.1=n.name
  .rw [if_pos J]at P
   subst P;have w2:qo.wrap (s.sM+e.2.size)=s.sM+e.2.size:=zWr;simp[go_sem,j,o,p,r,t,C,I,ze,g];refine cL zKr ?_;simp[go_sem,j,o,p,r,t,C,I,ze,g,i,J];cases ha:e.2.arg with
   |none =>
    simp[go_sem,j,o,p,r,t,C,I,ze,g,i,J,ha];refine fD [0,1,4,2,3] [(0,0,[]),(1,0,[]),(4,0,[]),(2,1,[1]),(3,1,[])] zKr zKr zSi ?_;have a0:(cNd n).set 1 (AV.sc (.string e.2.name))=cNd (.mk n.op e.2.name n.n n.sD n.pos):=by rw[yC n,yC];rfl
    rw[a0];simp[go_sem,j,o,p,r,t,C,I,ze]
    grind [kW]
   |some a =>
    simp[go_sem,j,o,p,r,t,C,I,ze,g,i,J,ha];refine fD [0,1,2,3,4,5,6,7,8,9] [(0,0,[]),(1,0,[]),(2,0,[]),(3,0,[]),(4,0,[]),(5,0,[]),(6,0,[]),(7,0,[]),(8,0,[]),(9,1,[])] zKr zKr zSi ?_;simp[go_sem,j,o,p,r,t,C,I,ze,g,i,J,ha,w2];refine fD [0,1,2,3,4,5,6,7,8,9,10,13,11,12] [(0,0,[]),(1,0,[]),(2,0,[]),(3,0,[]),(4,0,[]),(5,0,[]),(6,0,[]),(7,0,[]),(8,0,[]),(9,0,[]),(10,0,[]),(13,0,[]),(11,1,[5,10]),(12,1,[10])] zKr zKr zSi ?_;simp[go_sem,j,o,p,r,t,C,I,ze,g,i,J,ha,w2]
    grind [kW,payS]
  .rw [if_neg J]at P
   simp[go_sem,j,o,p,r,t,C,I,ze,g];refine cL zKr ?_;simp[go_sem,j,o,p,r,t,C,I,ze,g,i,jU J,w1];exact⟨m,zOm,aA ⟨zOm,zS1 j,zS1 o,zS1 p,zS1 r,zS1 t,zSi,zS1 I,P⟩⟩
theorem kX:∀ m n,szN n<=m->Small n->depN n<=1000000->qh qb 98 [eNd n] (aI (depN n))
 | 0,n,J,_,_=>by obtain⟨op,nm,i,ks,p⟩:=n;simp[szN]at J
 |m+1,n,J,P,R=>by
  have ih:∀ k,k∈n.sD->qh qb 98 [eNd k] (aI (depN k)):=fun k j =>
   kX m k (zW1 (yr j)) (P.kid j) (by rw[Zs]at R;have:=qbY j;omega)
  rw[Zs]at R⊢;have T:=P.len;have a0:=UX n.sD;generalize hD:yw n.sD=D at *
  refine qSU call98 func98 rfl ?_;refine aK n.sD.length (fun k U=>∃ d,U.tm 3=aI d/\U.tm 1 = .ip (cNd n)/\U.tm 4=aI k/\0<=d/\max d (yw (n.sD.drop k))=D) ?_ ?_
  .exact ⟨0,zSi,zSi,zSi,zOm,by grind⟩
  .rintro k U j ⟨d,r,l,t,a1,o⟩
   by_cases C:k=n.sD.length
   .subst C
    rw[zW]at o;simp only[yw]at o;have I:d=D:=zOm;subst I;have w:qo.wrap (d+1)=d+1:=zWr;simp[go_sem,r,l,t,w];exact .zsc _
   .have g:k<n.sD.length:=by omega
    have w1:=zWk k;rw[zp g]at o;simp only[yw]at o;simp[go_sem,r,l,t,g,ze];refine tK (ih n.sD[k] (qp g)) (.zk (qK _) .nil) ?_;simp[go_sem,r,l,t,w1];refine⟨g,aA ?_⟩;refine⟨if d<depN n.sD[k] then depN n.sD[k] else d,zSi,zS1 l,zSi,?_,?_⟩
    .omega
    omega
end QX
namespace QY
open Y1 YX YA YB YC P1 P2 PA QE QX
section
variable {es:List (tM×Bool)}
structure ScOf (ts:TS) (body:Bool) (sc:List Sb) (env:IEnv):Prop where
 look:∀ nm,uW nm sc=getK nm env
 own:body=false->∀ nm v,getK nm env=some v->means ts nm≠[]
 sz:∀ e,e∈sc->0<=e.2.size/\e.2.size<=4000
def OutR(r:XR (Nd×Int))(s':ISt)(n':Nd)(z:Int):Prop:=match r with
 | .ok ((m,y),t)=>n'=m/\z=y/\s'=t
 | .error _=>4000<s'.sM/\s'.sM<=9000/\0<=z/\z<=4000
def renR(ts:TS)(es:List (tM×Bool))(sc:List Sb)(nm:tM)(body:Bool)(s:ISt):(List Sb×tM)×ISt:=
 if body=true\/means ts nm≠[] then
  ((sc++[(nm,⟨none,0,vN (zy ts es (qq ts es) s.last)⟩)],vN (zy ts es (qq ts es) s.last)),⟨zy ts es (qq ts es) s.last,s.sM⟩)
 else ((sc,nm),s)
abbrev XO:=ISt×Nd×Int
def ua(E:Nd->ISt->XO):List (tM×Int)->List Nd->List Sb->ISt->Except ISt (List Sb×ISt)
 |p :: g,k :: ks,own,s=>if 4000<(E k s).1.sM then .error (E k s).1 else ua E g ks (own++[(p.1,⟨some (E k s).2.1,(E k s).2.2,⟨#[]⟩⟩)]) (E k s).1
 |_,_,own,s => .ok (own,s)
def ur(E:List Sb->Nd->ISt->XO)(R:List Sb->tM->ISt->(List Sb×tM)×ISt)(bin:Bool):Nat->List Sb->tM->List Nd->ISt->Except ISt ((tM×List Nd×Int)×ISt)
 |_,_,o,[],s => .ok ((o,[],0),s)
 |i,sc,o,k :: ks,s =>
  let r:=if bin=true/\i=1 then R sc o s else ((sc,o),s)
  let q:=E r.1.1 k r.2
  if 4000<q.1.sM then .error q.1 else match ur E R bin (i+1) r.1.1 r.1.2 ks q.1 with
   | .error e => .error e
   | .ok ((g,j,p),l) => .ok ((g,q.2.1 :: j,q.2.2+p),l)
def expR(ts:TS)(es:List (tM×Bool)):Nat->List Sb->Nd->Bool->ISt->XO
 | 0,_,n,_,s=>(s,n,0)
 |f+1,sc,n,g,s =>
  if s.sM+1<=4000 then
   if n.op=1 then ((Qv sc n (payS 1 s)).2,(Qv sc n (payS 1 s)).1.1,(Qv sc n (payS 1 s)).1.2)
   else if n.op=47 then match ts.sT.find? fun p=>decide (p.name=n.name) with
    |none=>(payS 1 s,n,1)
    |some p=>match ua (fun k s=>expR ts es f sc k g s) p.params n.sD [] (payS 1 s) with
     | .error i=>(i,nd0,0)
     | .ok (own,i)=>expR ts es f own p.body true i
   else match ur (fun sc k s=>expR ts es f sc k g s) (fun sc o s=>renR ts es sc o g s) (binB n.op) 0 sc n.name n.sD (payS 1 s) with
    | .error i=>(i,nd0,0)
    | .ok ((o,ks,m),i)=>(i,.mk n.op o n.n ks n.pos,1+m)
  else (payS 1 s,nd0,0)
theorem Wo{F s s' z}(g:Gos F s s' z)(h:StOk F s):StOk F s'/\s.sM<=s'.sM/\z<=4000:=⟨g.ok h,zW2 g.cz g.z0,by have:=g.cz;have:=g.c1;have:=h.c0;omega⟩
theorem qeG{F f:Nat}{E E'}:∀ ps ks own i s,
  (∀ k,k∈ks->∀ s,StOk F s->4000<s.sM+(f:Int)->OutR (E k s) (E' k s).1 (E' k s).2.1 (E' k s).2.2)->(∀ k n' z s s',k∈ks->StOk F s->E k s = .ok ((n',z),s')->Gos F s s' z) ->
  StOk F s->4000<s.sM+(f:Int)->zw own->(∀ nm,uW nm i=getK nm own)->(∀ e,e∈i->0<=e.2.size/\e.2.size<=4000) ->
  match ju E ps ks own s with
  | .error _=>∃ t,ua E' ps ks i s = .error t/\4000<t.sM/\t.sM<=9000
  | .ok (l,s')=>∃ j,ua E' ps ks i s = .ok (j,s')/\zw l/\(∀ nm,uW nm j=getK nm l)/\(∀ e,e∈j->0<=e.2.size/\e.2.size<=4000)/\StOk F s'/\s.sM<=s'.sM
 | [],ks,own,i,s,_,_,o,_,J,P,R=>by simp only[ju,ua];exact⟨i,rfl,J,P,R,o,vM _⟩
 |p :: ps,[],own,i,s,_,_,o,_,J,P,R=>by simp only[ju,ua];exact⟨i,rfl,J,P,R,o,vM _⟩
 |p :: ps,k :: ks,own,i,s,hE,hG,o,hf,J,P,R=>by
  simp only[ju,ua];have C:=hE k (zj ..) s o hf;have h2:=fun n' z s'=>hG k n' z s s' (zj ..) o
  generalize E' k s=Q at *
  cases T:E k s with
  |error d =>
   rw[T]at C;simp only;rw[if_pos C.1];exact⟨_,rfl,C.1,C.2.1⟩
  |ok r =>
   obtain⟨⟨m,y⟩,t⟩:=r;rw[T]at C;obtain⟨e1,e2,e3⟩:=C;have g:=h2 m y t T;obtain⟨g1,g2,g3⟩:=Wo g o;have hc:=g.c1;simp only;rw[if_neg (by rw[e3];omega),e1,e2,e3];have ih:=qeG (F:=F) (f:=f) ps ks (setK p.1 ⟨some m,y,⟨#[]⟩⟩ own) (i++[(p.1,⟨some m,y,⟨#[]⟩⟩)]) t (fun k U=>hE k (za _ U)) (fun k n' z s s' U=>hG k n' z s s' (za _ U)) g1 zOm (J.set ⟨g.z0,g3⟩) (fun nm=>by
    rw[Wn,vq,P];by_cases e:p.1=nm
    .grind
    .rw [if_neg e,if_neg fun x=>e x.symm]) (fun e I=>by
    rcases qJ.1 I with I|I
    .exact R e I
    .rw [qT]at I;subst I;exact⟨g.z0,g3⟩)
   grind
theorem qeH{ts env sc nm body s}(j:zw env)(h:ScOf ts body sc env) :
  ScOf ts body (renR ts es sc nm body s).1.1 (renI ts es env nm body s).1.1/\(renR ts es sc nm body s).1.2=(renI ts es env nm body s).1.2/\(renR ts es sc nm body s).2=(renI ts es env nm body s).2:=by
 unfold renR renI;by_cases l:body=true\/means ts nm≠[]
 .rw [if_pos l,if_pos l]
  refine⟨⟨fun x=>?_,fun i x v g=>?_,fun e o=>?_⟩,rfl,rfl⟩
  .simp only
   rw[Wn,vq,Zf j.nd,h.look];by_cases e:nm=x
   .grind
   .rw [if_neg e,if_neg fun y=>e y.symm,if_neg fun y=>e y.symm]
  .simp only at g
   rw[vq,Zf j.nd]at g;by_cases e:x=nm
   .grind
   .rw [if_neg e,if_neg e]at g
    exact h.own i x v g
  .rcases qJ.1 o with o|o
   .exact h.sz e o
   grind
 .rw [if_neg l,if_neg l]
  refine⟨⟨fun x=>?_,fun i x v g=>?_,h.sz⟩,rfl,rfl⟩
  .simp only
   rw[Zf j.nd,h.look];by_cases e:x=nm
   .rw [if_pos e]
    cases p:getK x env with
    |none=>rfl
    |some v =>
     have i:body=false:=by grind
     exact absurd (h.own i x v p) (by grind)
   .rw [if_neg e]
  .simp only at g
   rw[Zf j.nd]at g;split at g
   .cases g
   .exact h.own i x v g
theorem qeI{ts es}(C:Free ts es){f:Nat}{body E E' bin}:∀ ks i env sc nm s,
  (∀ k,k∈ks->∀ env sc s,StOk (qq ts es) s->4000<s.sM+(f:Int)->zw env->ScOf ts body sc env->OutR (E env k s) (E' sc k s).1 (E' sc k s).2.1 (E' sc k s).2.2) ->
  (∀ env k n' z s s',k∈ks->StOk (qq ts es) s->zw env->E env k s = .ok ((n',z),s')->Gos (qq ts es) s s' z) ->
  0<=s.last->0<=s.sM->s.sM<=4000->dueN (qq ts es) bin i<=pot (qq ts es) s->4000<s.sM+(f:Int)->zw env->ScOf ts body sc env ->
  match yN E (fun env nm s=>renI ts es env nm body s) bin i env nm ks s with
  | .error _=>∃ t,ur E' (fun sc nm s=>renR ts es sc nm body s) bin i sc nm ks s = .error t/\4000<t.sM/\t.sM<=9000
  | .ok r=>ur E' (fun sc nm s=>renR ts es sc nm body s) bin i sc nm ks s = .ok r
 | [],i,env,sc,nm,s,_,_,_,_,_,_,_,_,_=>by simp only[yN,ur]
 |k :: ks,i,env,sc,nm,s,hE,hG,l0,c0,c1,hp,hf,R,I=>by
  simp only[yN,ur];obtain⟨r,J⟩:∃ r,(if bin=true/\i=1 then renI ts es env nm body s else ((env,nm),s))=r:=⟨_,rfl⟩;obtain⟨l,j⟩:∃ l,(if bin=true/\i=1 then renR ts es sc nm body s else ((sc,nm),s))=l:=⟨_,rfl⟩;have hR:ScOf ts body l.1.1 r.1.1/\l.1.2=r.1.2/\l.2=r.2/\zw r.1.1/\StOk (qq ts es) r.2/\r.2.sM=s.sM/\dueN (qq ts es) bin (i+1)<=pot (qq ts es) r.2:=by
   by_cases hb:bin=true/\i=1
   .rw [if_pos hb]at J j
    subst J;subst j;obtain⟨a1,a2,a3⟩:=qeH (es:=es) (nm:=nm) (s:=s) R I;have a4:=Vi (ts:=ts) (es:=es) (nm:=nm) (body:=body) (s:=s) R;obtain⟨b1,b2,T⟩:=Vj (body:=body) (nm:=nm) (env:=env) C l0;have hd:dueN (qq ts es) bin i=(qq ts es:Int):=by simp_all[dueN,if_pos]
    have a0:dueN (qq ts es) bin (i+1)=0:=by simp_all[dueN,if_neg]
    rw[hd]at hp;have P:0<=pot (qq ts es) (renI ts es env nm body s).2:=by
     grind [pot]
    exact⟨a1,a2,a3,a4,⟨b1,by rw[T];exact c0,by rw[T];exact c1,P⟩,T,zOm⟩
   .rw [if_neg hb]at J j
    subst J;subst j;have hd:dueN (qq ts es) bin (i+1)<=dueN (qq ts es) bin i:=by
     unfold dueN;split
     .grind
     omega
    have a5:0<=dueN (qq ts es) bin i:=by grind [dueN]
    exact⟨I,rfl,rfl,R,⟨l0,c0,c1,by grind⟩,rfl,by grind⟩
  rw[J,j];obtain⟨q1,q2,q3,U,q5,q6,q7⟩:=hR;rw[q2,q3];have o:=hE k (zj ..) r.1.1 l.1.1 r.2 q5 zOm U q1;have h2:=fun n' z s'=>hG r.1.1 k n' z r.2 s' (zj ..) q5 U
  generalize E' l.1.1 k r.2=Q at *
  cases hq:E r.1.1 k r.2 with
  |error d =>
   rw[hq]at o;simp only;rw[if_pos o.1];exact⟨_,rfl,o.1,o.2.1⟩
  |ok x =>
   obtain⟨⟨m,y⟩,t⟩:=x;rw[hq]at o;obtain⟨e1,e2,e3⟩:=o;have g:=h2 m y t hq;obtain⟨g1,g2,g3⟩:=Wo g q5;have hc:=g.c1;have a6:=g.p;simp only;rw[if_neg (by rw[e3];omega),e1,e2,e3];have ih:=qeI C (f:=f) (body:=body) (E:=E) (E':=E') (bin:=bin) ks (i+1) r.1.1 l.1.1 r.1.2 t (fun k hk=>hE k (za _ hk)) (fun env k n' z s s' hk=>hG env k n' z s s' (za _ hk)) g1.l0 g1.c0 g1.c1 zOm zOm U q1;cases hx:yN E (fun env nm s=>renI ts es env nm body s) bin (i+1) r.1.1 r.1.2 ks t with
   |error d =>
    rw[hx]at ih;obtain⟨t',a1,a2,a3⟩:=ih
    grind
   |ok x =>
    grind
theorem Jn(ts es)(i:Free ts es)(hb:∀ p,p∈ts.sT->WfN p.body/\yO ts p.body):∀(f:Nat)(env sc n body s),
  4000<s.sM+(f:Int)->StOk (qq ts es) s->zw env->WfN n->yO ts n->ScOf ts body sc env->OutR (expI ts es f env n body s) (expR ts es f sc n body s).1 (expR ts es f sc n body s).2.1 (expR ts es f sc n body s).2.2
 | 0,env,sc,n,body,s,hf,g,_,_,_,_=>zW1 g.c1
 |f+1,env,sc,n,body,s,hf,g,r,hw,I,l=>by
  have a8:=g.c0;have a9:=g.c1;have p1:(payS 1 s).sM=s.sM+1:=rfl;simp only[expI,expR];by_cases J:s.sM+1<=4000
  case neg =>
   rw[if_neg J,if_neg J];exact⟨by rw[p1];omega,by rw[p1];omega,zSp,zSp⟩
  rw[if_pos J,if_pos J];have C:=(Qr g (n:=1) zOm J).ok g;by_cases h1:n.op=1
  .rw [if_pos h1,if_pos h1]
   unfold Qv vY;rw[l.look];cases hg:getK n.name env with
   |none=>exact⟨rfl,rfl,rfl⟩
   |some v =>
    have hv:=r.sz _ ((Ze r.nd).1 hg);have hv:0<=v.size/\v.size<=4000:=hv;simp only;cases P:v.arg with
    |none=>exact⟨rfl,rfl,rfl⟩
    |some a =>
     simp only;have e2:(payS v.size (payS 1 s)).sM=(payS 1 s).sM+v.size:=rfl;by_cases R:(payS 1 s).sM+v.size<=4000
     .rw [if_pos R];exact⟨rfl,rfl,rfl⟩
     .rw [if_neg R]
      exact⟨by rw[e2];omega,by rw[e2];omega,hv.1,hv.2⟩
  rw[if_neg h1,if_neg h1];by_cases h47:n.op=47
  .rw [if_pos h47,if_pos h47]
   obtain⟨p,T,a7⟩:=I n (uq n) h47;have a0:=List.mem_of_find?_eq_some T;rw[T];simp only;have P:=qeG (F:=qq ts es) (f:=f) (E:=fun k s=>expI ts es f env k body s) (E':=fun k s=>expR ts es f sc k body s) p.params n.sD [] [] (payS 1 s)
    (fun k j s g hf=>Jn ts es i hb f env sc k body s hf g r (hw.kid j) (I.kid j) l)
    (fun k n' z s s' j g e=>jV ts i f g r e) C (by rw[p1];omega) .nil (fun o=>rfl) (fun e hm=>absurd hm qH)
   cases U:ju (fun k s=>expI ts es f env k body s) p.params n.sD [] (payS 1 s) with
   |error d =>
    rw[U]at P;obtain⟨t,a1,a2,a3⟩:=P;rw[a1];exact⟨a2,a3,zSp,zSp⟩
   |ok x =>
    obtain⟨own,s'⟩:=x;rw[U]at P;obtain⟨L,a1,a2,a3,a4,a5,a6⟩:=P;rw[a1];obtain⟨b1,b2⟩:=hb p a0;exact Jn ts es i hb f own L p.body true s' zOm a5 a2 b1 b2 ⟨a3,fun h=>absurd h zSp,a4⟩
  .rw [if_neg h47,if_neg h47]
   have j:=qeI i (f:=f) (body:=body) (E:=fun env k s=>expI ts es f env k body s) (E':=fun sc k s=>expR ts es f sc k body s) (bin:=binB n.op) n.sD 0 env sc n.name (payS 1 s)
    (fun k j env sc s g hf r l=>Jn ts es i hb f env sc k body s hf g r (hw.kid j) (I.kid j) l)
    (fun env k n' z s s' j g r e=>jV ts i f g r e) C.l0 C.c0 C.c1 (by
     rw[Z3];have:=g.p
     grind [dueN]) (by rw[p1];omega) r l
   cases U:yN (fun env k s=>expI ts es f env k body s) (fun env o s=>renI ts es env o body s) (binB n.op) 0 env n.name n.sD (payS 1 s) with
   |error d =>
    rw[U]at j;obtain⟨t,a1,a2,a3⟩:=j;rw[a1];exact⟨a2,a3,zSp,zSp⟩
   |ok x =>
    obtain⟨⟨o,ks,m⟩,s'⟩:=x;rw[U]at j;rw[j];exact⟨rfl,rfl,rfl⟩
end
end QY
namespace QZ
open YF Y9 Y10 Y1 YX YB YC P1 P2 PA QE QI QS QT QX QY
section
variable {mu:Mu}
abbrev eXO(ts:TS)(l:List tM)(q:XO):AV := .tup [eWk ts l q.1,eNd q.2.1,aI q.2.2]
theorem Wp(x):∀ c,c∈cSb x->HF c:=fun c g=>by
 rcases qJ.1 g with g|g
 .rcases qJ.1 g with g|g
  .simp only[qw,qH,or_false]at g
   rcases g with rfl|rfl|rfl<;>exact HF.sc _
  grind [qsC]
 grind [qT,HF.sc]
theorem qsD(x):(cSb x).length=9:=by simp[qsB]
theorem Jo(l:List Sb):zl 9 (l.map cSb):=fun r g=>by
 obtain⟨x,_,rfl⟩:=qm.1 g;refine⟨qsD x,?_⟩;obtain⟨o,⟨a,z,w⟩⟩:=x;cases a<;>simp[yC,go_sem]
theorem qeJ(l):HF (lSb l):=HF.lst fun r g c i=>by
 obtain⟨x,_,rfl⟩:=qm.1 g;exact Wp x c i
theorem wkX(ts l s sc n b):WKs [eWk ts l s,lSb sc,eNd n,aB b] [eWk ts l s,lSb sc,eNd n,aB b] := .zk (wL ts l s) (.zk (qeJ sc) (.zk (qK n) (.zs .nil)))
theorem kY(ts l q):HF (eXO ts l q):=HF.tup fun x g=>by
 simp only[qw,qH,or_false]at g;rcases g with rfl|rfl|rfl
 .exact wL ts l _
 .exact qK _
 .exact HF.sc _
structure Pre (ts:TS) (es:List (tM×Bool)) (f:Nat) (env:IEnv) (sc:List Sb) (n:Nd) (body:Bool) (s:ISt):Prop where
 fu:4000<s.sM+(f:Int)
 st:StOk (qq ts es) s
 en:zw env
 wf:WfN n
 cl:yO ts n
 so:ScOf ts body sc env
 le:(sc.length:Int)<=s.sM+8
theorem rd0:Rd mu (.agg [aI 0,aS ⟨#[]⟩,aI 0,.lst true [],aI 0]) (eNd nd0) := .agg _ _ rfl fun k x y g i=>by
 match k,g,i with
 | 0,g,i=>cases g;cases i;exact .zsc _
 | 1,g,i=>cases g;cases i;exact .zsc _
 | 2,g,i=>cases g;cases i;exact .zsc _
 | 3,g,i=>cases g;cases i;exact .wk _ true _ (.hf _ (HF.lst fun r j=>absurd j qH))
 | 4,g,i=>cases g;cases i;exact .zsc _
 |k+5,g,i=>cases g
theorem rdZ(ts l s):Rd mu (.tup [eWk ts l s,.agg [aI 0,aS ⟨#[]⟩,aI 0,.lst true [],aI 0],aI 0]) (eXO ts l (s,nd0,0)) := .tup _ _ rfl fun k x y g i=>by
 match k,g,i with
 | 0,g,i=>cases g;cases i;exact .hf _ (wL ts l s)
 | 1,g,i=>grind [rd0]
 | 2,g,i=>cases g;cases i;exact .zsc _
 |k+3,g,i=>cases g
theorem qeK{lo s xs y K}(j:OwnF lo mu 9 s (xs.map cSb))(l:xs.length<=100000)(o:∀ av mu',OwnF lo mu' 9 av ((xs++[y]).map cSb)->(∀ i,i<lo->mu'[i]?=mu[i]?)->K av mu') :
  qy qb mu #[239,239] s (.lst true [cSb y]) K:=by
 refine qy.ownF (lo:=lo) (e:=246) (sz:=9) (bt:=112) (zv := .agg [aS ⟨#[]⟩,aS ⟨#[]⟩,aB false,aI 0,aS ⟨#[]⟩,aI 0,.lst true [],aI 0,aI 0]) (xs:=xs.map cSb) (ys:=[cSb y]) zSi zSi zSi rfl rfl zOm zOm j (by simp[qD]) (Jo xs) (Jo [y]) zSo ?_
 grind
abbrev ExpW(ts:TS)(l:List tM)(es:List (tM×Bool))(f:Nat)(sc:List Sb)(n:Nd)(body:Bool)(s:ISt):Prop:=
 qh qb 96 [eWk ts l s,lSb sc,eNd n,aB body] (eXO ts l (expR ts es f sc n body s))
theorem expN(ts l es f env sc n body s)(p:Pre ts es (f+1) env sc n body s)(j:s.sM+1<=4000)(i:n.op=1):ExpW ts l es (f+1) sc n body s:=by
 have o:=p.st.c0;have I:=p.le;have r:=leafU ts l sc zOm n (payS 1 s) ⟨by show 0<=s.sM+1;omega,by show s.sM+1<=_;omega⟩ (fun e t=>zW1 (p.so.sz e t));unfold ExpW;simp only[expR];rw[if_pos j,if_pos i];have C:qo.wrap (s.sM+1)=s.sM+1:=zWr;have g:¬ 4000<s.sM+1:=zOm;generalize Qv sc n (payS 1 s)=Q at *
 refine qSQ call96 func96 rfl { mt:=[4] } ?_;simp[go_sem,C,g,i,ze];refine tK r (.zk (wL ts l (payS 1 s)) (.zk (qeJ sc) (.zk (qK n) .nil))) ?_;simp[go_sem,ze];exact .hf _ (kY ts l (Q.2,Q.1.1,Q.1.2))
theorem expZ(ts l es f env sc n body s)(p:Pre ts es (f+1) env sc n body s)(i:¬s.sM+1<=4000):ExpW ts l es (f+1) sc n body s:=by
 have j:=p.st.c0;have o:=p.st.c1;unfold ExpW;simp only[expR];rw[if_neg i];have r:qo.wrap (s.sM+1)=s.sM+1:=zWr;have g:4000<s.sM+1:=zOm;refine qSQ call96 func96 rfl { mt:=[4] } ?_;simp[go_sem,r,g,ze]
 grind [rdZ,payS]
def repR(ts : TS)(es : List (tM × Bool))(f : Nat)(sc : List Sb)(n : Nd)(body : Bool)(s : ISt)(p : Pd) : XO := match ua (fun k s => expR ts es f sc k body s) p.params n.sD [] s with
          | .error g=>(g,nd0,0)
          | .ok (own,g)=>expR ts es f own p.body true g
theorem expC(ts l es f env sc n body s)(p:Pre ts es (f+1) env sc n body s)(j:s.sM+1<=4000)(h47:n.op=47)(g)(o:(ts.sT.find? fun p=>decide (p.name=n.name))=some g)
  (r:qh qb 151 [eWk ts l (payS 1 s),lSb sc,eNd n,aB body] (eXO ts l (repR ts es f sc n body (payS 1 s) g))):ExpW ts l es (f+1) sc n body s:=by
 have t:=p.st.c0;unfold ExpW;simp only[expR];rw[if_pos j,zIn,if_pos h47,o];simp only;have C:qo.wrap (s.sM+1)=s.sM+1:=zWr;have i:¬ 4000<s.sM+1:=zOm;show qh qb 96 [eWk ts l s,lSb sc,eNd n,aB body] (eXO ts l (repR ts es f sc n body (payS 1 s) g));generalize repR ts es f sc n body (payS 1 s) g=Q at *
 refine qSQ call96 func96 rfl { mt:=[4] } ?_;simp[go_sem,C,i,h47,ze];refine tK r (wkX ts l (payS 1 s) sc n body) ?_;simp[go_sem,ze];exact .hf _ (kY ts l Q)
theorem replW(ts)(h:okTS ts)(l es)(ai:Free ts es)(hb:∀ p,p∈ts.sT->WfN p.body/\yO ts p.body)(f)(ih:∀ env sc n body s,Pre ts es f env sc n body s->ExpW ts l es f sc n body s)(env sc n body s)(p:Pre ts es f env sc n body s)(h47:n.op=47)
  (pd) (hp:(ts.sT.find? fun p=>decide (p.name=n.name))=some pd) (az:pd.params.length=n.sD.length):qh qb 151 [eWk ts l s,lSb sc,eNd n,aB body] (eXO ts l (repR ts es f sc n body s pd)):=by
 have a9:=List.mem_of_find?_eq_some hp;have b1:=(h.pl pd a9).1;have b2:=h.np;obtain⟨i,hi,a3,aj⟩:∃ i,∃ hi:i<ts.sT.length,ts.sT[i]=pd/\zu (ckR ts ts.sT.length) n.name=some i:=by
  cases hc:zu (ckR ts ts.sT.length) n.name with
  |none =>
   unfold zu at hc;rw[List.findIdx?_eq_none_iff]at hc;have:=hc pd (by show pd∈ts.sT.take ts.sT.length;rw[qO];exact a9);have h2:=List.find?_some hp;rw[h2]at this;cases this
  |some i =>
   obtain⟨h1,h2⟩:=Zl (Wk h (qr _)) hc;have h2:i<ts.sT.length:=h2;have h3:=PF.qdF hc h2;have h3:(ts.sT.find? fun p=>decide (p.name=n.name))=some ts.sT[i]:=h3;rw[hp]at h3;exact⟨i,h2,(Option.some.inj h3).symm,rfl⟩
 have cp:=Vw (ckR ts ts.sT.length) (Wk h (qr _)) n.name;rw[aj]at cp;have I:=Zk;have aa:¬(i:Int)<0:=zOm;obtain⟨E',hE⟩:∃ E':Nd->ISt->XO,E'=fun k s=>expR ts es f sc k body s:=⟨_,rfl⟩
 obtain⟨a7,a8⟩:∃ a7,a7=repR ts es f sc n body s pd:=⟨_,rfl⟩;have an:∀ k,k∈n.sD->∀ C,StOk (qq ts es) C->s.sM<=C.sM->qh qb 96 [eWk ts l C,lSb sc,eNd k,aB body] (eXO ts l (E' k C)):=fun k hk C R aa=>by
  rw[hE];exact ih env sc k body C ⟨zW1 p.fu,R,p.en,p.wf.kid hk,p.cl.kid hk,p.so,zW1 p.le⟩
 have ao:∀ k,k∈n.sD->∀ C,StOk (qq ts es) C->s.sM<=C.sM->4000<(E' k C).1.sM\/(¬ 4000<(E' k C).1.sM/\Gos (qq ts es) C (E' k C).1 (E' k C).2.2):=fun k hk C R aa=>by
  have ho:=Jn ts es ai hb f env sc k body C (zW1 p.fu) R p.en (p.wf.kid hk) (p.cl.kid hk) p.so;have aq:E' k C=expR ts es f sc k body C:=by rw[hE]
  rw[aq];cases hx:expI ts es f env k body C with
  |error d=>rw[hx]at ho;exact .inl ho.1
  |ok r =>
   obtain⟨⟨m,y⟩,t⟩:=r;rw[hx]at ho;obtain⟨e1,e2,e3⟩:=ho;have g:=jV ts ai f R p.en hx;rw[e2,e3];exact .inr ⟨zW1 g.c1,g⟩
 have ar:∀ t,ua E' pd.params n.sD [] s = .error t->a7=(t,nd0,0):=fun t ht=>by
  rw[a8];unfold repR;rw[<-hE,ht]
 have au:∀ own t O,ua E' pd.params n.sD [] s = .ok (own,t)->StOk (qq ts es) t->s.sM<=t.sM->zw O->(∀ o,uW o own=getK o O)->(∀ e,e∈own->0<=e.2.size/\e.2.size<=4000)->own.length<=8->qh qb 96 [eWk ts l t,lSb own,eNd pd.body,aB true] (eXO ts l a7):=fun own t O ht R aa hO ab ad h8=>by
  have e:a7=expR ts es f own pd.body true t:=by rw[a8];unfold repR;rw[<-hE,ht]
  rw[e];have b3:=R.c0;exact ih O own pd.body true t ⟨zW1 p.fu,R,hO,(hb pd a9).1,(hb pd a9).2,⟨ab,fun h=>absurd h zSp,ad⟩,zOm⟩
 rw[<-a8];have ak:=p.st;clear a8 hE ih;refine qSQ call151 func151 rfl { mt:=[4] } ?_;simp[go_sem,ze];refine tK cp (.zk (zm ts) (.zs (.zs .nil))) ?_;simp[go_sem,ze,idxO,aa];refine aK n.sD.length (fun k U=>∃(C:ISt) (L:List Sb) (O:IEnv),U.tm 1=lSb sc/\U.tm 3=aB body/\U.tm 4 = .ptr 0 0/\U.tm 6 = .ip (cNd n)/\U.tm 8 = .ptr 1 0/\U.tm 9 = .ptr 2 0/\U.tm 12=aI i/\U.tm 14=aI k/\U.mu[0]?=some (.arr (cWk ts l C))/\U.mu[1]?=some (.arr zWc)/\U.mu[2]?=some (.arr [aI 0,aS ⟨#[]⟩,aI 0,.lst true [],aI 0])/\OwnF 3 U.mu 9 (U.tm 13) (L.map cSb)/\ua E' pd.params n.sD [] s=ua E' (pd.params.drop k) (n.sD.drop k) L C/\StOk (qq ts es) C/\s.sM<=C.sM/\zw O/\(∀ o,uW o L=getK o O)/\(∀ e,e∈L->0<=e.2.size/\e.2.size<=4000)/\L.length=k) ?_ ?_
 .exact ⟨s,[],[],zSi,zSi,zSi,zSi,zSi,zSi,zSi,zSi,zSi,zSi,zSi,by simp[go_sem];exact OwnF.nil zSp,rfl,ak,vM _,.nil,fun o=>rfl,fun e he=>absurd he qH,rfl⟩
 rintro k U hk ⟨C,L,O,e1,e3,e4,e6,e8,e9,a2,a4,m0,m1,m2,ho,hI,R,ae,hO,ab,ad,aw⟩;generalize a5:U.tm 13=av at *
 obtain⟨rr,a0⟩:=kQ m0 m1 m2;have b4:U.mu.length=rr.length+3:=by rw[a0];rfl
 have b0:n.sD.length<=8:=zOm;by_cases T:k<n.sD.length
 .have a6:k<pd.params.length:=by omega
  have w1:=zWk k;rw[zp T,zp a6]at hI;simp only[ua]at hI;have x1:=an n.sD[k] (qp T) C R ae;have x2:=ao n.sD[k] (qp T) C R ae;generalize E' n.sD[k] C=q at *
  clear m0 m1 m2;simp[go_sem,e1,e3,e4,e6,e8,e9,a2,a4,a5,a0,T,a6,hi,a3,I,ze];refine fD [0,1,2,3,4,5,6,7,8,9,10,11,12,17,13,14,15,16] [(0,0,[]),(1,0,[]),(2,0,[]),(3,0,[]),(4,0,[]),(5,0,[]),(6,0,[]),(7,0,[]),(8,1,[]),(9,0,[]),(10,0,[]),(11,0,[]),(12,0,[]),(17,0,[]),(13,2,[0,3,6]),(14,2,[0,3,6]),(15,1,[]),(16,1,[])] zKr zKr zSi ?_;simp[go_sem,e1,e3,e4,e6,e8,e9,a2,a4,a5,a0,T,a6,hi,a3,I,ze];refine tK x1 (wkX ts l C sc n.sD[k] body) ?_;simp[go_sem,e1,e3,e4,e6,e8,e9,a2,a4,a5,a0,T,a6,hi,a3,I,ze];by_cases a1:4000<q.1.sM
  .have ax:a7=(q.1,nd0,0):=ar _ (by rw[hI,if_pos a1])
   simp[go_sem,e1,e3,e4,e6,e8,e9,a2,a4,a5,a0,T,a6,hi,a3,I,ze,a1];rw[ax];exact rdZ ts l q.1
  .rcases x2 with x2|⟨_,g⟩
   .exact absurd x2 a1
   rw[if_neg a1]at hI;simp[go_sem,e1,e3,e4,e6,e8,e9,a2,a4,a5,a0,T,a6,hi,a3,I,ze,a1];refine cL zKr ?_;simp[go_sem,e1,e3,e4,e6,e8,e9,a2,a4,a5,a0,T,a6,hi,a3,I,ze,a1];obtain⟨g1,g2,g3⟩:=Wo g R;have gz:=g.z0;have hy:(AV.sc (.string pd.params[k].1) :: AV.sc (.string ⟨#[]⟩) :: AV.sc (.bool true) :: (cNd q.2.1++[AV.sc (.int .i64 q.2.2)]))=cSb (pd.params[k].1,⟨some q.2.1,q.2.2,⟨#[]⟩⟩):=zSi;rw[hy];generalize af:(pd.params[k].1,(⟨some q.2.1,q.2.2,⟨#[]⟩⟩:IV))=en at *
   refine qeK (lo:=3) (xs:=L) (y:=en) ?_ zOm ?_
   .have h1:OwnF 3 (U.mu++[Cell.arr (cWk ts l q.1),Cell.arr (cNd q.2.1)]) 9 av (L.map cSb):=YD.Zv ho zSo fun i _ hi=>qM hi
    rw[a0]at h1;have h2:=OwnF.set (i:=0) (c:=Cell.arr (cWk ts l q.1)) h1 zOm;simpa using h2
   intro b5 b6 ag ah;have n0:=ah 0 zOm;have n1:=ah 1 zOm;have n2:=ah 2 zOm;simp at n0 n1 n2;obtain⟨r2,al⟩:=kQ n0 n1 n2;simp[go_sem,e1,e3,e4,e6,e8,e9,a2,a4,a5,al,T,a6,hi,a3,I,ze,a1,w1];refine aA ⟨q.1,L++[en],setK en.1 en.2 O,zS1 e1,zS1 e3,zS1 e4,zS1 e6,zS1 e8,zS1 e9,zS1 a2,zSi,zSi,zSi,zSi,?_,?_,g1,?_,?_,?_,?_,?_⟩
   .have h2:=OwnF.set (i:=0) (c:=Cell.arr (cWk ts l q.1)) ag zOm
    simp[go_sem];rw[al]at ag;simpa using ag
   .rw [hI,<-af]
   .omega
   .rw [<-af];exact hO.set ⟨gz,g3⟩
   .intro o
    rw[Wn,vq,ab];by_cases e:en.1=o
    .rw [if_pos e,if_pos e.symm]
    .rw [if_neg e,if_neg fun x=>e x.symm]
   .intro e he
    rcases qJ.1 he with he|he
    .exact ad e he
    .rw [qT]at he;subst he;rw[<-af];exact⟨gz,g3⟩
   .simp [aw]
 .simp [go_sem,e1,e3,e4,e6,e8,e9,a2,a4,a5,a0,T,hi,a3,I,ze]
  refine fD [0,1,2,3,4,5,6,7,8,9,10,11,12,15,13,14] [(0,0,[]),(1,0,[]),(2,0,[]),(3,0,[]),(4,0,[]),(5,0,[]),(6,0,[]),(7,0,[]),(8,0,[]),(9,1,[]),(10,0,[]),(11,0,[]),(12,0,[]),(15,0,[]),(13,1,[]),(14,1,[])] zKr zKr zSi ?_;simp[go_sem,e1,e3,e4,e6,e8,e9,a2,a4,a5,a0,T,hi,a3,I,ze];refine fQ (qC.freeze (args1:=[eWk ts l C,lSb L,eNd pd.body,aB true]) (fun j=>decide (3<=j)) ⟨.inl rfl,.inr ?_,.inl rfl,.inl rfl,trivial⟩ (qh.toSound _ (au L C O ?_ R ae hO ab ad zOm) (wkX ts l C L pd.body true))) ?_ ?_
  .have h1:=Y13.Kq ho (Jo L).ok fun r hr c hc=>by
    obtain⟨x,_,rfl⟩:=qm.1 hr;exact Wp x c hc
   rw[a0]at h1;exact h1
  .rw [hI,Wx zOm,Wx zOm];rfl
  .rintro r m ⟨hv,rfl⟩
   cases hv;simp[go_sem,cutM,ze,e1,e3,e4,e6,e8,e9];exact .hf _ (kY ts l a7)
  .rintro r m ⟨hv,rfl⟩
   cases hv
end
end QZ
end Go.Proofs.YtipbakanneogpaaGreatDoor
set_option maxHeartbeats 1000000
namespace Go.Ev
theorem awp.cut{P pl l j g C i Q st}(J)
  (h:awp P pl l (seqQ (awp P pl j (seqQ (Keep J .mk) (vT i (seqQ (awp P pl C Q) Q)))) Q) st)
  (o:∀ st,J st->awp P pl g (vT i (seqQ (awp P pl C Q) Q)) st):awp P pl (.seq l (.seq (.block i (.seq j g)) C)) Q st:=by
 refine awp.mono l (Q:=seqQ (awp P pl j (seqQ (Keep J .mk) (vT i (seqQ (awp P pl C Q) Q)))) Q) h (fun e st h=>?_);cases e with
 |normal =>
  refine awp.mono j (Q:=seqQ (Keep J .mk) (vT i (seqQ (awp P pl C Q) Q))) h (fun e st h=>?_);cases e with
  |normal=>exact o st h
  |exit i=>exact h
  |ret=>exact h
  |pan v=>exact h
 |exit i=>exact h
 |ret=>exact h
 |pan v=>exact h
theorem qsE{K:St->Prop}(J){st}(h:FzQ (fun _=>J) (.exit 0) st)(k:∀ st2,J st2->K st2):FzQ (fun _ st=>K st) (.exit 0) st:=by
 obtain⟨g,f,q,j⟩:=h;exact⟨g,f,q,k _ j⟩
end Go.Ev
namespace Go.Proofs.YtipbakanneogpaaGreatDoor
open Go Go.Ev Go.Proofs Tryz
namespace RA
open YF Y9 Y10 Y1 YX YA YB YC P1 P2 PA QD QE QK QX QY QZ
section
variable {av:AV}{es:List (tM×Bool)}{l:List tM}
theorem four{I:Type}{l}{a b c d:I}(g:l[0]?=some a)(i:l[1]?=some b)(j:l[2]?=some c)(o:l[3]?=some d):∃ r,l=a :: b :: c :: d :: r:=by
 match l,g,i,j,o with
 |_ :: _ :: _ :: _ :: r,g,i,j,o =>
  grind
def resK(n:Nd)(acc:List Nd)(z:Int):Except ISt ((tM×List Nd×Int)×ISt)->XO
 | .error s=>(s,nd0,0)
 | .ok ((o,ks,m),s)=>(s,.mk n.op o n.n (acc++ks) n.pos,z+m)
structure AtK (ts:TS) (l:List tM) (es:List (tM×Bool)) (n:Nd) (body:Bool) (s:ISt) (k:Nat) (sc2:List Sb) (env2:IEnv) (nm2:tM) (s3:ISt) (acc:List Nd) (av:AV) (z:Int) (st:St):Prop where
 e3:st.tm 3=aB body
 e4:st.tm 4 = .ptr 0 0
 e6:st.tm 6 = .ip (cNd n)
 e8:st.tm 8 = .ptr 1 0
 e9:st.tm 9 = .ptr 2 0
 e11:st.tm 11 = .ptr 3 0
 e12:st.tm 12=aI z
 e13:st.tm 13=aI k
 m0:st.mu[0]?=some (.arr (cWk ts l s3))
 m1:st.mu[1]?=some (.arr zWc)
 m2:st.mu[2]?=some (.arr [aI 0,aS ⟨#[]⟩,aI 0,.lst true [],aI 0])
 m3:st.mu[3]?=some (.arr [aI n.op,aS nm2,aI n.n,av,aI n.pos])
 ho:OwnF 4 st.mu 5 av (acc.map cNd)
 so:ScOf ts body sc2 env2
 en:zw env2
 al:acc.length=k
 l0:0<=s3.last
 c0:s.sM+1<=s3.sM
 c1:s3.sM<=4000
 z1:0<=z
 z2:z<=1+4000*(k:Int)
theorem AtK.same{ts n body s k j i o C acc z st g}(A:AtK ts l es n body s k j i o C acc av z st)
  (I:g.tm 3=aB body) (J:g.tm 4 = .ptr 0 0) (P:g.tm 6 = .ip (cNd n)) (R:g.tm 8 = .ptr 1 0) (T:g.tm 9 = .ptr 2 0) (p:g.tm 11 = .ptr 3 0) (r:g.tm 12=aI z) (t:g.tm 13=aI k) (em:g.mu=st.mu):AtK ts l es n body s k j i o C acc av z g:=
 ⟨I,J,P,R,T,p,r,t,by rw[em];exact A.m0,by rw[em];exact A.m1,by rw[em];exact A.m2,by rw[em];exact A.m3,by rw[em];exact A.ho,A.so,A.en,A.al,A.l0,A.c0,A.c1,A.z1,A.z2⟩
theorem qeL{g lo sz mu mu' xs}(h:OwnF g mu sz av xs)(i:∀ b s o q,av = .sl b s o q->b<lo)(p:g<=mu'.length)(r:∀ j,g<=j->j<lo->mu'[j]?=mu[j]?):OwnF g mu' sz av xs:=by
 obtain⟨t,l,_⟩:=h;refine⟨?_,l,p⟩;rcases t with rfl|⟨b,rfl,C⟩
 .exact .inl rfl
 .exact .inr ⟨b,rfl,by rw[r b (l b _ _ _ rfl) (i b _ _ _ rfl)];exact C⟩
theorem AtK.keep{ts n body s k p i r R acc z st g}(A:AtK ts l es n body s k p i r R acc av z st)
  (T:g.tm 3=aB body) (U:g.tm 4 = .ptr 0 0) (e6:g.tm 6 = .ip (cNd n)) (e8:g.tm 8 = .ptr 1 0) (e9:g.tm 9 = .ptr 2 0) (C:g.tm 11 = .ptr 3 0) (I:g.tm 12=aI z) (J:g.tm 13=aI k) (lo) (h4:4<=lo) (P:∀ b s o q,av = .sl b s o q->b<lo) (hl:4<=g.mu.length) (t:∀ j,j<lo->g.mu[j]?=st.mu[j]?):AtK ts l es n body s k p i r R acc av z g:=
 ⟨T,U,e6,e8,e9,C,I,J,by rw[t 0 zOm];exact A.m0,by rw[t 1 zOm];exact A.m1,by rw[t 2 zOm];exact A.m2,by rw[t 3 zOm];exact A.m3,qeL A.ho P hl (fun j _=>t j),A.so,A.en,A.al,A.l0,A.c0,A.c1,A.z1,A.z2⟩
theorem qsF{mu lo s x}{xs ys:List Sb}{K}(j:OwnF lo mu 9 s (xs.map cSb))(l:qD mu x=some (ys.map cSb))(r:xs.length+ys.length<=100000)(o:∀ av mu',OwnF lo mu' 9 av ((xs++ys).map cSb)->(∀ i,i<lo->mu'[i]?=mu[i]?)->K av mu') :
  qy qb mu #[239,239] s x K:=by
 refine qy.ownF (lo:=lo) (e:=246) (sz:=9) (bt:=112) (zv := .agg [aS ⟨#[]⟩,aS ⟨#[]⟩,aB false,aI 0,aS ⟨#[]⟩,aI 0,.lst true [],aI 0,aI 0]) (xs:=xs.map cSb) (ys:=ys.map cSb) zSi zSi zSi rfl rfl zOm zOm j l (Jo xs) (Jo ys) zSo ?_;intro av mu' h p;exact o av mu' (by rw[zb];exact h) p
theorem expK(ts)(h:okTS ts)(l es)(t:Tn l es)(hl:l.length<=400000)(hF:qq ts es<=200000)(b6:Free ts es)(hb:∀ p,p∈ts.sT->WfN p.body/\yO ts p.body)(f)(ih:∀ env sc n body s,Pre ts es f env sc n body s->ExpW ts l es f sc n body s)
  (env) (sc) (n) (body) (s) (p:Pre ts es (f+1) env sc n body s) (hc:s.sM+1<=4000) (h1:¬n.op=1) (h47:¬n.op=47):ExpW ts l es (f+1) sc n body s:=by
 have dk:=p.st.c0;have dm:=p.st.c1;have dn:=p.wf.len;obtain⟨E',hE⟩:∃ E':List Sb->Nd->ISt->XO,E'=fun sc k s=>expR ts es f sc k body s:=⟨_,rfl⟩
 obtain⟨R',bi⟩:∃ R':List Sb->tM->ISt->(List Sb×tM)×ISt,R'=fun sc nm s=>renR ts es sc nm body s:=⟨_,rfl⟩
 have bj:∀ k,k∈n.sD->∀ a0 I sk,StOk (qq ts es) sk->s.sM+1<=sk.sM->zw a0->ScOf ts body I a0->(I.length:Int)<=sk.sM+8->qh qb 96 [eWk ts l sk,lSb I,eNd k,aB body] (eXO ts l (E' I k sk)):=fun k hk a0 I sk b7 cm b8 bk bm=>by
  rw[hE];exact ih a0 I k body sk ⟨zW1 p.fu,b7,b8,p.wf.kid hk,p.cl.kid hk,bk,bm⟩
 have bn:∀ k,k∈n.sD->∀ a0 I sk,StOk (qq ts es) sk->s.sM+1<=sk.sM->zw a0->ScOf ts body I a0->4000<(E' I k sk).1.sM\/(¬ 4000<(E' I k sk).1.sM/\Gos (qq ts es) sk (E' I k sk).1 (E' I k sk).2.2):=fun k hk a0 I sk b7 cm b8 bk=>by
  have ho:=Jn ts es b6 hb f a0 I k body sk (zW1 p.fu) b7 b8 (p.wf.kid hk) (p.cl.kid hk) bk;have cp:E' I k sk=expR ts es f I k body sk:=by rw[hE]
  rw[cp];cases hx:expI ts es f a0 k body sk with
  |error d=>rw[hx]at ho;exact .inl ho.1
  |ok r =>
   obtain⟨⟨m,y⟩,t⟩:=r;rw[hx]at ho;obtain⟨e1,e2,e3⟩:=ho;have g:=jV ts b6 f b7 b8 hx;rw[e2,e3];exact .inr ⟨zW1 g.c1,g⟩
 obtain⟨az,bc⟩:∃ az,az=resK n [] 1 (ur E' R' (binB n.op) 0 sc n.name n.sD (payS 1 s)):=⟨_,rfl⟩;have be:expR ts es (f+1) sc n body s=az:=by
  simp only[expR];rw[if_pos hc,if_neg h1,if_neg h47,bc,hE,bi];cases ur (fun sc k s=>expR ts es f sc k body s) (fun sc nm s=>renR ts es sc nm body s) (binB n.op) 0 sc n.name n.sD (payS 1 s) with
  |error e=>rfl
  |ok r=>rfl
 unfold ExpW;rw[be];clear hE be ih;have bg:StOk (qq ts es) (payS 1 s):=(Qr p.st zOm hc).ok p.st;have w1:qo.wrap (s.sM+1)=s.sM+1:=zWr;have bm:¬ 4000<s.sM+1:=zOm;have cq:=yC n;refine qSQ call96 func96 rfl { mt:=[4] } ?_;simp[go_sem,w1,bm,h1,h47,cq];refine aK n.sD.length (fun k U=>∃(full:Bool) (I:List Sb) (a0:IEnv) (ab:tM) (s2:ISt) (af:List Nd) (av:AV) (z:Int),U.tm 1 = .lst full (I.map cSb)/\AtK ts l es n body s k I a0 ab s2 af av z U/\(I.length:Int)+(if k<=1 then 1 else 0)<=s2.sM+8/\dueN (qq ts es) (binB n.op) k<=pot (qq ts es) s2/\(k<=1->ab=n.name)/\resK n af z (ur E' R' (binB n.op) k I ab (n.sD.drop k) s2)=az) ?_ ?_
 .refine ⟨false,sc,env,n.name,payS 1 s,[],.lst true [],1,zSi,⟨zSi,zSi,by simp[go_sem,yC n],zSi,zSi,zSi,zSi,zSi,by simp[go_sem];exact⟨rfl,rfl⟩,zSi,zSi,zSi,by simp[go_sem];exact OwnF.nil zSp,p.so,p.en,rfl,bg.l0,by show _<=s.sM+1;omega,bg.c1,zOm,zOm⟩,by show _<=s.sM+1+8;have:=p.le;simp;omega,?_,fun _=>rfl,bc.symm⟩
  rw[Z3];have:=p.st.p;unfold dueN;split<;>omega
 .rintro k U hk ⟨full,I,a0,ab,s2,af,av,z,T,A,ah,aq,b9,hI⟩
  obtain⟨rr,a5⟩:=four A.m0 A.m1 A.m2 A.m3;have e3:=A.e3;have e4:=A.e4;have e6:=A.e6;have e8:=A.e8;have e9:=A.e9;have a6:=A.e11;have a7:=A.e12;have a8:=A.e13;have ak:=A.ho.one;have an:=A.ho.cells;by_cases a9:k<n.sD.length
  .have w2:=zWk k
   rw[zp a9]at hI;simp only[ur]at hI;refine awp.cut (fun U=>∃(full:Bool) (P:Nat) (sl:AV) (ae:List Sb) (ai:IEnv) (aw:tM) (s3:ISt) (av:AV),(if binB n.op=true/\k=1 then R' I ab s2 else ((I,ab),s2))=((ae,aw),s3)/\U.tm 1=sl/\(sl = .lst full (ae.map cSb)\/(OwnF P U.mu 9 sl (ae.map cSb)/\(∀ b s o q,av = .sl b s o q->b<P)/\4<=P))/\AtK ts l es n body s k ae ai aw s3 af av z U/\(ae.length:Int)+(if k+1<=1 then 1 else 0)<=s3.sM+8/\dueN (qq ts es) (binB n.op) (k+1)<=pot (qq ts es) s3/\(k+1<=1->aw=n.name)) ?_ ?_
   .clear bj bn
    by_cases au:k=1
    .subst au
     have bh:=b9 (qr _);have di:U.mu.length=rr.length+4:=by rw[a5];rfl
     have b4:∀ b s o q,av = .sl b s o q->b<rr.length+4:=fun b s o q e=>by
      rcases A.ho.1 with h|⟨c,h,hc⟩
      .rw [h]at e;cases e
      .rw [h]at e;cases e;have:=(qj.1 hc).1;omega
     have ad:(1:Int)<n.sD.length:=zOm;have cr:=A.c0;have bb:=A.l0;have cs:=A.c1;by_cases ao:binB n.op=true
     .have aa:n.op=15\/n.op=45\/n.op=46:=by simpa[binB,or_assoc] using ao
      have dp:=h.ns;have dq:=h.nf;have dr:qq ts es<=l.length+40:=by have:=t.len;unfold qq;omega
      have ct:okNm ts:=⟨h.sl,zOm,zOm,fun f hf=>zW1 (h.fl f hf)⟩;have cn:=kB ts ct n.name;have ay:=kA ts n.name;have cu:(named ts n.name).2=(means ts n.name).length:=by rw[kO h]
      rw[cu]at cn;generalize (named ts n.name).1=C at *
      have bw:StOk (qq ts es) s2:=⟨bb,zOm,cs,zW1 (Z4 (qq ts es) (binB n.op) 1)⟩;have cv:=bw.last;have cf:=qsA ts h l es t hl s2 ⟨bb,zOm⟩ (b6 s2.last bb);by_cases ag:body=true\/means ts n.name≠[]
      .have hq:(if binB n.op=true/\1=1 then R' I ab s2 else ((I,ab),s2))=((I++[(n.name,⟨none,0,vN (zy ts es (qq ts es) s2.last)⟩)],vN (zy ts es (qq ts es) s2.last)),⟨zy ts es (qq ts es) s2.last,s2.sM⟩):=by
        rw[if_pos ⟨ao,rfl⟩,bi,bh];show renR ts es I n.name body s2=_;unfold renR;rw[if_pos ag]
       have cw:body=true\/(body=false/\0<(means ts n.name).length):=by
        cases body with
        |true=>exact .inl rfl
        |false=>exact .inr ⟨rfl,List.length_pos_iff.2 (ag.resolve_left zSp)⟩
       clear hI;have ca:renR ts es I n.name body s2=((I++[(n.name,⟨none,0,vN (zy ts es (qq ts es) s2.last)⟩)],vN (zy ts es (qq ts es) s2.last)),⟨zy ts es (qq ts es) s2.last,s2.sM⟩):=by
        unfold renR;rw[if_pos ag]
       obtain⟨a1,a2,a3⟩:=qeH (es:=es) (nm:=n.name) (s:=s2) A.en A.so;have a4:=Vi (ts:=ts) (es:=es) (nm:=n.name) (body:=body) (s:=s2) A.en;obtain⟨b1,b2,b3⟩:=Vj (body:=body) (nm:=n.name) (env:=a0) b6 bb;rw[ca]at a1 a3;rw[<-a3]at b1 b2;simp only at b1 b2 a1;have bo:dueN (qq ts es) (binB n.op) 1=(qq ts es:Int):=by unfold dueN;rw[if_pos ⟨ao,zOm⟩]
       have bq:dueN (qq ts es) (binB n.op) 2=0:=by unfold dueN;rw[zIn]
       rw[bo]at aq;unfold pot at aq;generalize (renI ts es a0 n.name body s2).1.1=ai at *
       clear a2 a3 b3;generalize ds:zy ts es (qq ts es) s2.last=R at *
       rcases aa with aa|aa|aa<;>rcases cw with ax|⟨ax,cx⟩
       all_goals
        simp[go_sem,e3,e4,e6,e8,e9,a6,a7,a8,T,a5,a9,ad,aa,ze];refine tK cn (.zk (zm ts) (.zs .nil)) ?_;simp[go_sem,e3,e4,e6,e8,e9,a6,a7,a8,T,a5,a9,ad,aa,ze,ay.len];rw[if_pos ay.one];generalize putCells _ 0 C=PC
        first
        |simp[go_sem,e3,e4,e6,e8,e9,a6,a7,a8,T,a5,a9,ad,aa,ze,ax,cx]
        |simp[go_sem,e3,e4,e6,e8,e9,a6,a7,a8,T,a5,a9,ad,aa,ze,ax]
        refine tK cf (.zk (wL ts l s2) .nil) ?_;simp[go_sem,e3,e4,e6,e8,e9,a6,a7,a8,T,a5,a9,ad,aa,ze,ax];refine qi.move 2 2 zKr zKr ?_ ?_
        all_goals
         simp[go_sem,e3,e4,e6,e8,e9,a6,a7,a8,T,a5,a9,ad,aa,ze,ax];refine qsF (lo:=rr.length+6) (xs:=[]) (ys:=I) (OwnF.nil zSp) (by simp[qD]) (by simp at ah⊢;omega) ?_;intro dt du cy au;simp[go_sem,e3,e4,e6,e8,e9,a6,a7,a8,T,a5,a9,ad,aa,ze,ax];refine qeK (y:=(n.name,⟨none,0,vN R⟩)) cy (by simp at ah⊢;omega) ?_;intro da dv b0 aj;have n0:=(aj 0 zOm).trans (au 0 zOm);have n1:=(aj 1 zOm).trans (au 1 zOm);have n2:=(aj 2 zOm).trans (au 2 zOm);have n3:=(aj 3 zOm).trans (au 3 zOm);simp at n0 n1 n2 n3;simp[go_sem,e3,e4,e6,e8,e9,a6,a7,a8,T,a9,ad,aa,ze,ax];refine aA ⟨false,rr.length+6,da,I++[(n.name,⟨none,0,vN R⟩)],ai,vN R,⟨R,s2.sM⟩,av,hq,zSi,.inr ⟨zVs b0,?_,zOm⟩,⟨zS2 e3 ax,zS1 e4,zS1 e6,zS1 e8,zS1 e9,zS1 a6,zS1 a7,zS1 a8,zS1 n0,zS1 n1,zS1 n2,zS2 n3 aa,?_,a1,a4,A.al,b1,A.c0,A.c1,A.z1,A.z2⟩,?_,?_,fun h=>zOm⟩
         .intro b s o q e;have:=b4 b s o q e;omega
         .simp only[qB]
          refine qeL A.ho b4 (zW1 b0.2.2) fun j h4 hj=>?_
          obtain⟨i,rfl⟩:∃ i,j=i+4:=⟨j-4,zOm⟩;rw[aj _ zOm,au _ zOm,a5];simp only[vK];rw[zGa]
         .simp at ah⊢;omega
         .rw [bq];unfold pot;simp only;omega
      .have cb:body=false:=by cases body with
        |true=>exact absurd (.inl rfl) ag
        |false=>rfl
       have db:means ts n.name=[]:=uY fun x=>ag (.inr x)
       have hq:(if binB n.op=true/\1=1 then R' I ab s2 else ((I,ab),s2))=((I,ab),s2):=by
        rw[if_pos ⟨ao,rfl⟩,bi,bh];show renR ts es I n.name body s2=_;unfold renR;rw[if_neg ag]
       rcases aa with aa|aa|aa
       all_goals
        simp[go_sem,e3,e4,e6,e8,e9,a6,a7,a8,T,a5,a9,ad,aa,ze];refine tK cn (.zk (zm ts) (.zs .nil)) ?_;simp[go_sem,e3,e4,e6,e8,e9,a6,a7,a8,T,a5,a9,ad,aa,ze,ay.len];rw[if_pos ay.one];generalize putCells _ 0 C=PC;simp[go_sem,e3,e4,e6,e8,e9,a6,a7,a8,T,a5,a9,ad,aa,ze,cb,db];refine aA ⟨full,rr.length+5,.lst full (I.map cSb),I,a0,ab,s2,av,hq,zS1 T,.inl rfl,A.keep (zS2 e3 cb) (zS1 e4) (zS1 e6) (zS1 e8) (zS1 e9) (zS1 a6) (zS1 a7) (zS1 a8) (rr.length+4) zOm ?_ zSi (fun j hj=>?_),?_,?_,fun h=>zOm⟩
        .exact b4
        .simp only[qB]
         rw[a5]
         match j,hj with
         | 0,_=>rfl
         | 1,_=>rfl
         | 2,_=>rfl
         | 3,_=>simp[aa]
         |i+4,hj =>
          simp only[vK];rw[zGa]
        .simp at ah⊢;omega
        .have bo:dueN (qq ts es) (binB n.op) 1=(qq ts es:Int):=by unfold dueN;rw[if_pos ⟨ao,zOm⟩]
         have bq:dueN (qq ts es) (binB n.op) 2=0:=by unfold dueN;rw[zIn]
         rw[bo]at aq;rw[bq];omega
     .have cc:¬n.op=15:=fun e=>ao (by simp[binB,e])
      have cd:¬n.op=45:=fun e=>ao (by simp[binB,e])
      have cg:¬n.op=46:=fun e=>ao (by simp[binB,e])
      simp[go_sem,e3,e4,e6,e8,e9,a6,a7,a8,T,a5,a9,ad,cc,cd,cg,ze];refine aA ⟨full,4,.lst full (I.map cSb),I,a0,ab,s2,av,by rw[if_neg (fun x=>ao x.1)],zS1 T,.inl rfl,A.same (zS1 e3) (zS1 e4) (zS1 e6) (zS1 e8) (zS1 e9) (zS1 a6) (zS1 a7) (zS1 a8) (zS1 a5),?_,?_,fun h=>zOm⟩
      .simp at ah⊢;omega
      .rw [<-UZ (fun x=>ao x.1)];exact aq
    .have ch:¬(k:Int)=1:=by omega
     simp[go_sem,e3,e4,e6,e8,e9,a6,a7,a8,T,a5,a9,ch,ze];refine aA ⟨full,4,.lst full (I.map cSb),I,a0,ab,s2,av,by rw[if_neg (fun x=>au x.2)],zS1 T,.inl rfl,A.same (zS1 e3) (zS1 e4) (zS1 e6) (zS1 e8) (zS1 e9) (zS1 a6) (zS1 a7) (zS1 a8) (zS1 a5),?_,?_,fun h=>b9 zOm⟩
     .split at ah<;>split<;>omega
     .rw [<-UZ (fun x=>au x.2)];exact aq
   .rintro U ⟨full,P,sl,ae,ai,aw,s3,av,hq,T,br,A,ah,aq,b9⟩
    rw[hq]at hI;simp only at hI;have b5:StOk (qq ts es) s3:=⟨A.l0,zW1 A.c0,A.c1,zW1 (Z4 (qq ts es) (binB n.op) (k+1))⟩;have bs:(ae.length:Int)<=s3.sM+8:=by split at ah<;>omega
    have x1:=bj n.sD[k] (qp a9) ai ae s3 b5 A.c0 A.en A.so bs;have x2:=bn n.sD[k] (qp a9) ai ae s3 b5 A.c0 A.en A.so;generalize E' ae n.sD[k] s3=q at *
    clear bj bn;rw[qiU,qiV];refine qi.fz (qsE (fun U=>∃ full,U.tm 1 = .lst full (ae.map cSb)/\AtK ts l es n body s k ae ai aw s3 af av z U) ?_ ?_)
    .rcases br with br|⟨dc,b4,h4⟩
     .exact FzQ.skip ⟨full,by rw[T,br],A⟩
     .refine FzQ.own (d:=1) T dc (Jo ae) (fun r hr c hc=>by obtain⟨x,_,rfl⟩:=qm.1 hr;exact Wp x c hc) ?_
      intro dd bt dw aj;refine⟨bt,zSi,A.keep (by simp[go_sem,A.e3]) (by simp[go_sem,A.e4]) (by simp[go_sem,A.e6]) (by simp[go_sem,A.e8]) (by simp[go_sem,A.e9]) (by simp[go_sem,A.e11]) (by simp[go_sem,A.e12]) (by simp[go_sem,A.e13]) P h4 b4 ?_ ?_⟩
      .have:=A.ho.2.2;simp only[qB];omega
      .intro j hj;simp only[qB];exact aj j hj
    rintro U ⟨full,T,A⟩;obtain⟨rr,a5⟩:=four A.m0 A.m1 A.m2 A.m3;have e3:=A.e3;have e4:=A.e4;have e6:=A.e6;have e8:=A.e8;have e9:=A.e9;have a6:=A.e11;have a7:=A.e12;have a8:=A.e13;have ak:=A.ho.one;have an:=A.ho.cells;refine fD [0,1,2,3,4,5,6,7,8,9,10,11,12,17,13,14,15,16] [(0,0,[]),(1,0,[]),(2,0,[]),(3,0,[]),(4,0,[]),(5,0,[]),(6,0,[]),(7,0,[]),(8,1,[]),(9,0,[]),(10,0,[]),(11,0,[]),(12,0,[]),(17,0,[]),(13,2,[0,3,6]),(14,2,[0,3,6]),(15,1,[]),(16,1,[])] zKr zKr zSi ?_;simp[go_sem,e3,e4,e6,e8,e9,a6,a7,a8,T,a5,a9,ze,ak,an];refine tK x1 (.zk (wL ts l s3) (.cons (WK.lst fun r hr c hc=>by
     obtain⟨x,_,rfl⟩:=qm.1 hr;exact Wp x c hc) (.zk (qK _) (.zs .nil)))) ?_
    simp[go_sem,e3,e4,e6,e8,e9,a6,a7,a8,T,a5,a9,ze,ak,an];by_cases ar:4000<q.1.sM
    .rw [if_pos ar]at hI
     have hI:az=(q.1,nd0,0):=hI.symm;simp[go_sem,e3,e4,e6,e8,e9,a6,a7,a8,T,a5,a9,ze,ak,an,ar];rw[hI];exact rdZ ts l q.1
    .rcases x2 with x2|⟨_,g⟩
     .exact absurd x2 ar
     rw[if_neg ar]at hI;simp[go_sem,e3,e4,e6,e8,e9,a6,a7,a8,T,a5,a9,ze,ak,an,ar];obtain⟨g1,g2,g3⟩:=Wo g b5;have gz:=g.z0;have dx:=g.cz;have de:=g.c1;have gp:=g.p;have dy:=A.z1;have dz:=A.z2;have cr:=A.c0;have df:=A.al;have dj:=A.ho.2.2;refine YD.U1 (lo:=4) (xs:=af) ?_ zOm ?_
     .have h1:OwnF 4 (U.mu++[Cell.arr (cWk ts l q.1),Cell.arr (cNd q.2.1)]) 5 av (af.map cNd):=YD.Zv A.ho zSo fun i _ hi=>qM hi
      rw[a5]at h1;have h2:=OwnF.set (i:=0) (c:=Cell.arr (cWk ts l q.1)) h1 zOm;simpa using h2
     intro cj dd b0 aj;have n0:=aj 0 zOm;have n1:=aj 1 zOm;have n2:=aj 2 zOm;have n3:=aj 3 zOm;simp at n0 n1 n2 n3;obtain⟨r2,ck⟩:=four n0 n1 n2 n3;have bu:=b0.one;have bv:=b0.cells;have w3:qo.wrap (z+q.2.2)=z+q.2.2:=zWr;simp[go_sem,e3,e4,e6,e8,e9,a6,a7,a8,T,ck,a9,ze,bu,bv,ar,w2,w3];refine aA ⟨full,ae,ai,aw,q.1,af++[q.2.1],cj,z+q.2.2,zS1 T,⟨zS1 e3,zS1 e4,zS1 e6,zS1 e8,zS1 e9,zS1 a6,zSi,zSi,zSi,zSi,zSi,zSi,?_,A.so,A.en,zP1 df,g1.l0,zOm,de,zOm,zOm⟩,zOm,zOm,b9,?_⟩
     .have h2:=OwnF.set (i:=3) (c:=Cell.arr [aI n.op,aS aw,aI n.n,cj,aI n.pos]) b0 zOm
      rw[ck]at h2;simpa[go_sem] using h2
     .rw [<-hI]
      generalize ur E' R' (binB n.op) (k+1) ae aw (List.drop (k+1) n.sD) q.1=X;cases X with
      |error e=>rfl
      |ok r =>
       obtain⟨⟨a,b,c⟩,d⟩:=r;simp[resK];omega
  .simp [go_sem,e3,e4,e6,e8,e9,a6,a7,a8,T,a5,a9,ze,ak,an]
   refine fD [0,1,2,5,3,4] [(0,0,[]),(1,0,[]),(2,0,[]),(5,0,[]),(3,1,[1]),(4,1,[])] zKr zKr zSi ?_;simp[go_sem,e3,e4,e6,e8,e9,a6,a7,a8,T,a5,a9,ze,ak,an];rw[Wx zOm]at hI;have hI:az=(s2,.mk n.op ab n.n af n.pos,z):=by rw[<-hI];simp[ur,resK]
   rw[hI];refine .tup _ _ rfl fun k x y hx hy=>?_
   match k,hx,hy with
   | 0,hx,hy=>cases hx;cases hy;exact .hf _ (wL ts l s2)
   | 1,hx,hy =>
    cases hx;cases hy;have dh:eNd (.mk n.op ab n.n af n.pos) = .agg [aI n.op,aS ab,aI n.n,.lst false (af.map cNd),aI n.pos]:=by
     show AV.agg (cNd _)=_;rw[yC];rfl
    show Rd _ _ (eNd (.mk n.op ab n.n af n.pos));rw[dh];refine .agg _ _ rfl fun k x y hx hy=>?_
    match k,hx,hy with
    | 0,hx,hy=>cases hx;cases hy;exact .zsc _
    | 1,hx,hy=>cases hx;cases hy;exact .zsc _
    | 2,hx,hy=>cases hx;cases hy;exact .zsc _
    | 3,hx,hy =>
     cases hx;cases hy;have h1:=OwnF.set (i:=1) (c:=Cell.arr (cWk ts l s2)) A.ho zOm;have h2:=OwnF.set (i:=2) (c:=Cell.arr [aI n.op,aS ab,aI n.n,av,aI n.pos]) h1 zOm;rw[a5]at h2;exact h2.1.rd (YD.U0 af).ok fun r hr c hc=>by
      obtain⟨x,_,rfl⟩:=qm.1 hr;exact vG x c hc
    | 4,hx,hy=>cases hx;cases hy;exact .zsc _
    |k+5,hx,hy=>cases hx
   | 2,hx,hy=>cases hx;cases hy;exact .zsc _
   |k+3,hx,hy=>cases hx
end
end RA
namespace RB
open YF Y9 Y1 YX YZ YB YC YE YG YH P1 P2 Q4 Q6 PF QE QT QW QX QY QZ RA
theorem qeM(l):∀ es nm,getK nm (putN es l)=some true↔(getK nm es=some true\/∃ x,x∈l/\x.name=nm):=by
 induction l with
 |nil=>intro es nm;exact⟨fun h => .inl h,fun h=>h.elim id fun⟨x,g,_⟩=>absurd g qH⟩
 |cons a l i =>
  intro es nm;have e:putN es (a :: l)=putN (setK a.name true es) l:=rfl;rw[e,i,vq];by_cases e:nm=a.name
  .grind
  .rw [if_neg e]
   constructor
   .grind
   .rintro (h|⟨x,g,j⟩)
    .exact .inl h
    .rcases qw.1 g with rfl|g
     .grind
     grind
theorem qsG(l:List Pd):∀ es nm,getK nm (l.foldl (fun es p=>putN es (preN p.body)) es)=some true↔(getK nm es=some true\/∃ p,p∈l/\∃ x,x∈preN p.body/\x.name=nm):=by
 induction l with
 |nil=>simp
 |cons a l i =>
  intro es nm;rw[List.foldl_cons,i,qeM];constructor
  .grind
  .rintro (h|⟨p,g,h⟩)
   .grind
   .rcases qw.1 g with rfl|g
    .grind
    grind
structure Ti (es:List (tM×Bool)):Prop where
 nd:(es.map Prod.fst).Nodup
 tr:∀ e,e∈es->e.2=true
theorem Ti.put(l):∀{es},Ti es->Ti (putN es l):=by
 induction l with
 |nil=>intro es h;exact h
 |cons a l i =>
  intro es h;refine i (es:=setK a.name true es) ⟨wh h.nd,fun e g=>?_⟩;rcases U3 g with rfl|g
  .rfl
  .exact h.tr e g
theorem cV(l:List Pd):∀{es},Ti es->Ti (l.foldl (fun es p=>putN es (preN p.body)) es):=by
 induction l with
 |nil=>grind
 |cons a l g=>intro es h;exact g (h.put _)
theorem kZ{nm}(n)(i:nm≠⟨#[]⟩):nm∈namL n↔∃ x,x∈preN n/\x.name=nm:=by
 unfold namL;rw[qm];constructor
 .rintro ⟨x,g,e⟩
  exact⟨x,(y7.1 g).1,e⟩
 .rintro ⟨x,g,e⟩
  exact⟨x,y7.2 ⟨g,by rw[e];simpa using i⟩,e⟩
theorem takTn(ts n):Tn (takL ts n) (yT ts n):=by
 have i:∀ o:tM,o≠⟨#[]⟩->(o∈takL ts n↔getK o (yT ts n)=some true):=fun o r=>by
  unfold takL yT;rw[qsG,qeM,qJ,kZ n r,List.mem_flatMap];constructor
  .grind [kZ]
  .rintro ((h|h)|⟨p,P,h⟩)
   .cases h
   .exact .inl h
   grind [kZ]
 refine⟨i,?_⟩;have g:Ti (yT ts n):=cV _ (Ti.put _ ⟨.nil,fun e t=>absurd t qH⟩);have:=jN (l₂:=⟨#[]⟩ :: takL ts n) g.nd fun x C=>by
  by_cases e:x=⟨#[]⟩
  .grind
  .refine za _ ((i x e).2 ?_)
   obtain⟨q,l,rfl⟩:=qm.1 C;have I:=g.tr q l;have J:=(Ze g.nd (k:=q.1) (v:=q.2)).2 l;rw[J,I]
 grind
theorem qeN(ts)(h:okTS ts)(l es)(t:Tn l es)(I:l.length<=400000)(J:qq ts es<=200000)(g:Free ts es)(j:∀ p,p∈ts.sT->WfN p.body/\yO ts p.body):∀ f env sc n body s,Pre ts es f env sc n body s->ExpW ts l es f sc n body s
 | 0,env,sc,n,body,s,p=>zW2 p.fu p.st.c1
 |f+1,env,sc,n,body,s,p=>by
  have P:=qeN ts h l es t I J g j f;by_cases o:s.sM+1<=4000
  case neg=>grind [expZ]
  by_cases R:n.op=1
  .grind [expN]
  by_cases h47:n.op=47
  .obtain ⟨r,C,i⟩:=p.cl n (uq n) h47
   have T:(payS 1 s).sM=s.sM+1:=rfl;exact expC ts l es f env sc n body s p o h47 r C (replW ts h l es g j f P env sc n body (payS 1 s) ⟨zW1 p.fu,(Qr p.st zOm o).ok p.st,p.en,p.wf,p.cl,p.so,zW1 p.le⟩ h47 r C i)
  grind [expK]
theorem inlRU(ts)(h:okTS ts)(hv:∀ p,p∈ts.sT->zc p.body=true)(hb:∀ p,p∈ts.sT->WfN p.body/\yO ts p.body)(n)(hn:zc n=true)(a7:(yj ts [] n).1=0->yO ts n):qh qb 52 [eTS ts,eNd n] (.tup [eNd (yn ts n).1,aI (yn ts n).2]):=by
 have hw:=ul hn;have a8:=wI.1 hn;have J:∀ p,p∈ts.sT->WfN p.body:=fun p hp=>(hb p hp).1
 have a9:∀ p,p∈ts.sT->(preN p.body).length<=400:=fun p hp=>by grind [wI,Vo]
 have aa:(preN n).length<=400:=by grind [Vo]
 have hF:=ky h hv hn;have hT:=takTn ts n;have af:=h.np;have ab:(takL ts n).length<=400000:=by
  have h1:∀ L:List Pd,(∀ p,p∈L->(preN p.body).length<=400)->(L.flatMap fun p=>namL p.body).length<=400*L.length:=by
   intro L;induction L with
   |nil=>intro _;simp
   |cons a L ih =>
    intro hL;have a1:=ih fun p hp=>hL p (za _ hp)
    have a2:=Wm a.body;have a3:=hL a (zj ..);rw[wR,q8,zz];omega
  grind [Wm,takL,q8]
 have P:=K5 ts (yT ts n);have T:StOk (qq ts (yT ts n)) ⟨0,0⟩:=⟨zSp,zSp,zSp,by simp[pot]⟩;have cf:=kR ts h J [] ⟨zSp,zSp⟩ zSp n hw a8.2.2.2;have l:=qaO (szN n) n (qr _) hw.small;have ct:=qr5 ts h J n hw aa a9;have U:WKs [eTS ts,.lst true [],eNd n] [eTS ts,lPm [],eNd n] := .zk (zm ts) (.cons (WK.lst fun r hr=>absurd hr qH) (.zk (qK n) .nil));have ad:WKs [eTS ts,eNd n] [eTS ts,eNd n] := .zk (zm ts) (.zk (qK n) .nil);generalize i:yn ts n=R;unfold yn at i;by_cases j:(yj ts [] n).1=0
 case neg =>
  rw[if_pos j]at i;subst i;refine qSU call52 func52 rfl ?_;refine tK cf U ?_;simp[go_sem,j];refine fD [0,1,2,4,3] [(0,0,[]),(1,0,[]),(2,0,[]),(4,0,[]),(3,1,[2])] zKr zKr zSi ?_;simp_all[go_sem,Je]
 rw[if_neg (zUs j)]at i;cases ha:anyN (fun n=>decide (n.op=47)) n with
 |false =>
  rw[ha]at i l;rw[if_pos rfl]at i;subst i;refine qSU call52 func52 rfl ?_;refine tK cf U ?_;simp[go_sem,j];refine tK l (.zk (qK n) .nil) ?_;simp[go_sem,j];exact .hf _ (HF.tup fun x hx=>by
   simp only[qw,qH,or_false]at hx;rcases hx with rfl|rfl
   .exact qK n
   .exact HF.sc _)
 |true =>
  rw[ha]at i l;rw[if_neg zSp]at i;have a0:=a7 j;have cx:=qeN ts h (takL ts n) (yT ts n) hT ab hF P hb 4001 [] [] n false ⟨0,0⟩ ⟨zSp,T,.nil,hw,a0,⟨fun o=>rfl,fun _ o v hv=>(by cases hv),fun e he=>absurd he qH⟩,zSp⟩;have ho:=Jn ts (yT ts n) P hb 4001 [] [] n false ⟨0,0⟩ zSp T .nil hw a0 ⟨fun o=>rfl,fun _ o v hv=>(by cases hv),fun e he=>absurd he qH⟩;have a4:=fun {n' z s'}=>Jd ts J (yT ts n) 4001 (env:=[]) (n:=n) (n':=n') (body:=false) (s:=⟨0,0⟩) (s':=s') (z:=z) (fun e he=>absurd he qH) hw
  have a5:=fun {n' z s'}=>jV ts P 4001 (env:=[]) (n:=n) (n':=n') (body:=false) (s':=s') (z:=z) T .nil
  have a6:=fun {d}=>Vk ts (yT ts n) 4001 (env:=[]) (n:=n) (body:=false) (s:=⟨0,0⟩) (d:=d)
  unfold outI at i;unfold ExpW at cx;generalize expR ts (yT ts n) 4001 [] n false ⟨0,0⟩=q at *
  generalize expI ts (yT ts n) 4001 [] n false ⟨0,0⟩=E at *
  have ae:(4000<q.1.sM/\R=(nd0,2))\/(¬ 4000<q.1.sM/\Small q.2.1/\depN q.2.1<=1000000/\((400<q.2.2/\R=(nd0,2))\/(¬ 400<q.2.2/\24<depN q.2.1/\R=(nd0,2))\/(¬ 400<q.2.2/\¬ 24<depN q.2.1/\R=(q.2.1,0)))):=by
   cases E with
   |error d =>
    have:=a6 rfl;subst this;exact .inl ⟨ho.1,i.symm⟩
   |ok r =>
    obtain⟨⟨m,y⟩,t⟩:=r;obtain⟨o1,o2,o3⟩:=ho;obtain⟨s1,s2⟩:=a4 rfl;have g:=a5 rfl;have gc:=g.c1;have gz:=g.cz;have dl:=K3 m;rw[o1,o2,o3];have gz:0+y<=t.sM:=gz;refine .inr ⟨zOm,s2,zOm,?_⟩;simp only at i;by_cases z1:y<=400
    .by_cases z2:depN m<=24
     .grind
     grind
    .rw [if_neg (fun x=>z1 x.1)]at i
     grind
  clear i ho a4 a5 a6;refine qSU call52 func52 rfl ?_;refine tK cf U ?_;simp[go_sem,j];refine tK l (.zk (qK n) .nil) ?_;simp[go_sem,j];refine fD [0,1,2,5,3,4,6,7,8,9,10,15,11,12,13,14] [(0,0,[]),(1,0,[]),(2,0,[]),(5,0,[]),(3,1,[0,5]),(4,0,[]),(6,1,[]),(7,0,[]),(8,0,[]),(9,0,[]),(10,0,[]),(15,0,[]),(11,2,[0,1,2,5]),(12,2,[0,1,2,5]),(13,1,[]),(14,1,[])] zKr zKr zSi ?_;simp[go_sem,j];refine tK ct ad ?_;simp[go_sem,j];refine tK cx ?_ ?_
  .exact .zk (wL ts (takL ts n) ⟨0,0⟩) (.cons (WK.lst fun r hr=>absurd hr qH) (.zk (qK n) (.zs .nil)))
  simp[go_sem,j];have ag:∀ C:Mu,Rd C (.tup [eNd q.2.1,aI 0]) (.tup [eNd q.2.1,aI 0]):=fun C => .hf _ (HF.tup fun x hx=>by
   simp only[qw,qH,or_false]at hx;rcases hx with rfl|rfl
   .exact qK _
   .exact HF.sc _)
  rcases ae with ⟨g1,g2⟩|⟨g1,gs,gd,⟨g2,g3⟩|⟨g2,g3,g4⟩|⟨g2,g3,g4⟩⟩
  .simp_all [go_sem,g1,Je]
  .rw [g3]
   simp[go_sem,j,g1,g2];exact Je _ _
  .rw [g4]
   simp[go_sem,j,g1,g2];refine tK (kX (szN q.2.1) q.2.1 (qr _) gs gd) (.zk (qK _) .nil) ?_;simp_all[go_sem,g1,Je]
  .rw [g4]
   simp[go_sem,j,g1,g2];refine tK (kX (szN q.2.1) q.2.1 (qr _) gs gd) (.zk (qK _) .nil) ?_;simp[go_sem, *]
end RB
namespace FE
open Y1 Y9
def yg(op a s:Int)(i:Nat)(k:Int):Int:=if op=48\/op=49\/op=51 then k*s else if i=1/\(op=45\/op=46\/op=15) then k*a else k
def minW(v:Int):Int:=if 1000000<v then 1000000 else v
mutual
def wkN(a s:Int):Nd->Int
 | .mk op _ _ ks _=>wkNs a s op 0 ks 1
def wkNs(a s op:Int):Nat->List Nd->Int->Int
 |_,[],sum=>sum
 |i,k :: ks,sum=>wkNs a s op (i+1) ks (minW (sum+yg op a s i (wkN a s k)))
end
theorem qsH(a s n):wkN a s n=wkNs a s n.op 0 n.sD 1:=by
 obtain⟨op,o,i,ks,q⟩:=n;rw[wkN];rfl
theorem qeO{op a s i k}(j:0<=a/\a<=100)(l:0<=s/\s<=100)(g:0<=k/\k<=1000000):0<=yg op a s i k/\yg op a s i k<=100000000:=by
 unfold yg;have o:=Int.mul_nonneg g.1 j.1;have p:=Int.mul_nonneg g.1 l.1;have r:k*a<=1000000*100:=jD g.2 j.2 j.1 zOm;have t:k*s<=1000000*100:=jD g.2 l.2 l.1 zOm;split
 .omega
 omega
theorem qeP{v}(h:0<=v):0<=minW v/\minW v<=1000000:=by unfold minW;split<;>omega
mutual
theorem qeQ(a s:Int)(g:0<=a/\a<=100)(i:0<=s/\s<=100):∀ n:Nd,0<=wkN a s n/\wkN a s n<=1000000
 | .mk op _ _ ks _=>by rw[wkN];exact qeR a s g i op ks 0 1 zOm
theorem qeR(a s:Int)(g:0<=a/\a<=100)(j:0<=s/\s<=100)(op:Int):∀(ks:List Nd)(i:Nat)(sum:Int),0<=sum/\sum<=1000000->0<=wkNs a s op i ks sum/\wkNs a s op i ks sum<=1000000
 | [],_,sum,h=>by rw[wkNs];exact h
 |k :: ks,i,sum,h=>by
  rw[wkNs];have l:=qeQ a s g j k;have o:=qeO (op:=op) (i:=i) g j l;exact qeR a s g j op ks (i+1) _ (qeP zOm)
end
theorem qeS(a s)(ha:0<=a/\a<=100)(hs:0<=s/\s<=100):∀ m n,szN n<=m->Small n->qh qb 53 [eNd n,aI a,aI s] (aI (wkN a s n))
 | 0,n,hm,_=>by obtain⟨op,nm,i,ks,p⟩:=n;simp[szN]at hm
 |m+1,n,hm,a7=>by
  have ih:∀ k,k∈n.sD->qh qb 53 [eNd k,aI a,aI s] (aI (wkN a s k)):=fun k hk=>qeS a s ha hs m k (zW1 (yr hk)) (a7.kid hk)
  rw[qsH];have a9:=a7.len;generalize hR:wkNs a s n.op 0 n.sD 1=R;refine qSU call53 func53 rfl ?_;refine aK n.sD.length (fun k U=>∃ sum:Int,U.tm 1=aI a/\U.tm 2=aI s/\U.tm 3 = .ip (cNd n)/\U.tm 7=aI sum/\U.tm 8=aI k/\(0<=sum/\sum<=1000000)/\wkNs a s n.op k (n.sD.drop k) sum=R) ?_ ?_
  .simp [go_sem, *]
  .rintro k U hk ⟨sum,r,t,C,e7,e8,aa,o⟩
   by_cases a8:k=n.sD.length
   .subst a8
    rw[zW,wkNs]at o;subst o;simp[go_sem,r,t,C,e7,e8];exact .zsc _
   .have l:k<n.sD.length:=by omega
    rw[zp l,wkNs]at o;have w1:=zWk k;have a3:=qeQ a s ha hs n.sD[k];have ab:=qeO (op:=n.op) (i:=k) ha hs a3;have j:=qeP (v:=sum+yg n.op a s k (wkN a s n.sD[k])) zOm;have m1:=Int.mul_nonneg a3.1 ha.1;have m2:=Int.mul_nonneg a3.1 hs.1;have m3:wkN a s n.sD[k] * a<=1000000*100:=jD a3.2 ha.2 ha.1 zOm;have m4:wkN a s n.sD[k] * s<=1000000*100:=jD a3.2 hs.2 hs.1 zOm;simp[go_sem,r,t,C,e7,e8,l,ze];refine tK (ih n.sD[k] (qp l)) (.zk (qK _) (.zs (.zs .nil))) ?_;generalize wkN a s n.sD[k]=K at *
    by_cases I:k=1
    .have g:(k:Int)=1:=by omega
     by_cases a0:n.op=48
     .have J:yg n.op a s k K=K*s:=by simp[yg,a0,I,g]
      rw[J]at o j;have P:qo.wrap (K*s)=K*s:=zWr;have T:qo.wrap (sum+K*s)=sum+K*s:=zWr;simp[go_sem,r,t,C,e7,e8,w1,P,T,l,a0,eq_true I,eq_true g];simp_all[go_sem,aA,minW]
     by_cases a1:n.op=49
     .have J:yg n.op a s k K=K*s:=by simp[yg,a1,I,g]
      rw[J]at o j;have P:qo.wrap (K*s)=K*s:=zWr;have T:qo.wrap (sum+K*s)=sum+K*s:=zWr;simp[go_sem,r,t,C,e7,e8,w1,P,T,l,a1,eq_true I,eq_true g];exact aA ⟨_,zS1 r,zS1 t,zS1 C,by simp[go_sem,minW],zSi,j,o⟩
     by_cases a2:n.op=51
     .have J:yg n.op a s k K=K*s:=by simp[yg,a2,I,g]
      rw[J]at o j;have P:qo.wrap (K*s)=K*s:=zWr;have T:qo.wrap (sum+K*s)=sum+K*s:=zWr;simp[go_sem,r,t,C,e7,e8,w1,P,T,l,a2,eq_true I,eq_true g];exact aA ⟨_,zS1 r,zS1 t,zS1 C,by simp[go_sem,minW],zSi,j,o⟩
     by_cases a4:n.op=45
     .have J:yg n.op a s k K=K*a:=by simp[yg,a4,I,g]
      rw[J]at o j;have P:qo.wrap (K*a)=K*a:=zWr;have T:qo.wrap (sum+K*a)=sum+K*a:=zWr;simp[go_sem,r,t,C,e7,e8,w1,P,T,l,a4,eq_true I,eq_true g];exact aA ⟨_,zS1 r,zS1 t,zS1 C,by simp[go_sem,minW],zSi,j,o⟩
     by_cases a5:n.op=46
     .have J:yg n.op a s k K=K*a:=by simp[yg,a5,I,g]
      rw[J]at o j;have P:qo.wrap (K*a)=K*a:=zWr;have T:qo.wrap (sum+K*a)=sum+K*a:=zWr;simp[go_sem,r,t,C,e7,e8,w1,P,T,l,a5,eq_true I,eq_true g];exact aA ⟨_,zS1 r,zS1 t,zS1 C,by simp[go_sem,minW],zSi,j,o⟩
     by_cases a6:n.op=15
     .have J:yg n.op a s k K=K*a:=by simp[yg,a6,I,g]
      rw[J]at o j;have P:qo.wrap (K*a)=K*a:=zWr;have T:qo.wrap (sum+K*a)=sum+K*a:=zWr;simp[go_sem,r,t,C,e7,e8,w1,P,T,l,a6,eq_true I,eq_true g];exact aA ⟨_,zS1 r,zS1 t,zS1 C,by simp[go_sem,minW],zSi,j,o⟩
     have J:yg n.op a s k K=K:=by simp[yg,a0,a1,a2,a4,a5,a6,I,g]
     rw[J]at o j;have P:=w1;have T:qo.wrap (sum+K)=sum+K:=zWr;simp[go_sem,r,t,C,e7,e8,w1,P,T,l,a0,a1,a2,a4,a5,a6,eq_true I,eq_true g];simp_all[go_sem,aA,minW]
    .have g:¬(k:Int)=1:=by omega
     by_cases a0:n.op=48
     .have J:yg n.op a s k K=K*s:=by simp[yg,a0,I,g]
      rw[J]at o j;have P:qo.wrap (K*s)=K*s:=zWr;have T:qo.wrap (sum+K*s)=sum+K*s:=zWr;simp[go_sem,r,t,C,e7,e8,w1,P,T,l,a0,I,g];exact aA ⟨_,zS1 r,zS1 t,zS1 C,by simp[go_sem,minW],zSi,j,o⟩
     by_cases a1:n.op=49
     .have J:yg n.op a s k K=K*s:=by simp[yg,a1,I,g]
      rw[J]at o j;have P:qo.wrap (K*s)=K*s:=zWr;have T:qo.wrap (sum+K*s)=sum+K*s:=zWr;simp[go_sem,r,t,C,e7,e8,w1,P,T,l,a1,I,g];exact aA ⟨_,zS1 r,zS1 t,zS1 C,by simp[go_sem,minW],zSi,j,o⟩
     by_cases a2:n.op=51
     .have J:yg n.op a s k K=K*s:=by simp[yg,a2,I,g]
      rw[J]at o j;have P:qo.wrap (K*s)=K*s:=zWr;have T:qo.wrap (sum+K*s)=sum+K*s:=zWr;simp[go_sem,r,t,C,e7,e8,w1,P,T,l,a2,I,g];exact aA ⟨_,zS1 r,zS1 t,zS1 C,by simp[go_sem,minW],zSi,j,o⟩
     have J:yg n.op a s k K=K:=by simp[yg,a0,a1,a2,I,g]
     rw[J]at o j;have P:=w1;have T:qo.wrap (sum+K)=sum+K:=zWr;simp[go_sem,r,t,C,e7,e8,w1,P,T,l,a0,a1,a2,I,g];exact aA ⟨_,zS1 r,zS1 t,zS1 C,by simp[go_sem,minW],zSi,j,o⟩
end FE
namespace FF
end FF
end Go.Proofs.YtipbakanneogpaaGreatDoor
