/-
  Own library, part 5: an abstract reading of values and a calculus over it; contracts of functions; plain lemmas.
-/
import Derived.Lib.ItoaLen
import Derived.Test.YtlnbdknjkmmgbaaGreatDoorMd
set_option linter.unusedVariables false
set_option linter.unusedSimpArgs false
set_option maxRecDepth 100000
open Go renaming Program->qb,TypeId->qd,Oper->wg,undef->uk,FuncId->zZ
open Go.Proofs.Tryz renaming prog->qc
open List renaming getElem?_eq_some_iff->qh,mem_map->qn,range->qs,getElem_mem->qt,mem_cons->qy,getElem?_set_self->qz,getElem?_eq_getElem->qB,getElem?_append_left->qG,mem_cons_of_mem->qN,mem_append->qO,mem_of_getElem?->qQ,mem_singleton->qS,mem_cons_self->qZ,map_cons->za,drop_eq_getElem_cons->zg,length_append->zh,take_length->zi,getElem?_map->zB,append_assoc->zG,getElem?_set_ne->zH,getD_eq_getElem?_getD->zT,drop_length->zU,take_of_length_le->zY,getElem?_append_right->yd,mem_range->ye,length_cons->yh,cons_append->yL,mem_filter->y5,nil_append->jk,ext_getElem?->jZ,mem_flatMap->vZ,mem_of_mem_take->uo,getElem?_eq_none->wH
open Nat renaming le_refl->qj,le_trans->zS,zero_add->yM
open Go.IntKind renaming i64->ql
open Option.some renaming injEq->qo
open Bool renaming and_eq_true->qD,or_eq_true->Zp
open Option renaming map_some->zd,map_eq_some_iff->um
open Int renaming mul_le_mul->jl,le_refl->vq
open List.Nodup renaming length_le_of_subset->jm
open Except.ok renaming injEq->jN
open List.cons renaming injEq->uc
namespace Go.Proofs.YtlnbdknjkmmgbaaGreatDoor
open Go Go.Ev Go.Proofs Tryz
namespace Q2
open P2 Y1 Q1
def fitB(op:Int)(ks:List Nd):Bool:=decide (shp op ks.length=some (ks.map fun k=>kd k.op))
theorem qlR(l)(g:∀ x,x∈l->0<=x/\x<256)(i h)(j:i<(bys l).data.size):(((bys l).data[i]).toNat:Int)=l[i]:=by
 have o:=g l[i] (qt h);simp only[bys,List.getElem_toArray,List.getElem_map,UInt8.toNat_ofNat'];omega
theorem qlS{op nk l}(h:shp op nk=some l):∀ x,x∈l->0<=x/\x<256:=by
 unfold shp at h
 repeat' split at h
 all_goals first
  | (cases h;done)
  | (cases h;intro x g;cases g;done)
  | (cases h;intro x g;rw[List.mem_replicate]at g;omega)
  | (cases h;intro x g;simp at g;omega)
theorem J3(op ks)(hk:ks.length<=1000):qg qc 195 [aI op,lNd ks] (aB (fitB op ks)):=by
 have I:=qlQ op ks.length zOm;unfold shpV at I;cases o:shp op ks.length with
 |none =>
  simp only[o]at I;have hf:fitB op ks=false:=by simp[fitB,o]
  rw[hf];refine qSU call195 func195 rfl ?_;refine fR I (.zs (.zs .nil)) ?_;exact .zsc _
 |some l =>
  simp only[o]at I;have i:=qaR l;have J:=qlR l (qlS o);generalize bys l=B at *
  refine qSU call195 func195 rfl ?_;refine tU I (.zs (.zs .nil)) ?_;by_cases C:l.length=ks.length
  .simp [go_sem,i,C]
   refine aA ks.length (fun k U=>U.tm 1=lNd ks/\U.tm 5=aS B/\U.tm 7=aI k/\∀ j,j<k->(ks[j]?).map (fun k=>kd k.op)=l[j]?) ?_ ?_
   .exact ⟨zSi,zSi,zSi,fun j P=>absurd P zOm⟩
   .rintro k U hk ⟨R,e5,e7,hI⟩
    by_cases a0:k=ks.length
    .subst a0
     have hf:fitB op ks=true:=by
      rw[fitB,o,decide_eq_true];congr 1;apply jZ;intro j;by_cases P:j<ks.length
      .rw [zB,hI j P]
      .rw [wH zOm,wH zSo]
     rw[hf];simp[go_sem,R,e7];exact .zsc _
    .have g:k<ks.length:=by omega
     have w1:=zWk k;simp[go_sem,R,e7,g];refine tR zKr ?_;simp[go_sem,R,e7,g];refine tU (kindU ks[k].op) (.zs .nil) ?_;have p:k<l.length:=zOm;have a1:k<B.data.size:=by have:B.data.size=l.length:=i;omega
     have hg:=J k p a1;by_cases T:kd ks[k].op=l[k]
     .have t:kd ks[k].op=((B.data[k]).toNat:Int):=by rw[hg];exact T
      simp[go_sem,e5,e7,g,i,C,t,w1];refine aC ?_;refine⟨zS1 R,zS1 e5,zSi,fun j P=>?_⟩;by_cases a2:j=k
      .subst a2
       rw[qB g,qB p,zd,T]
      .exact hI j zOm
     .have t:¬kd ks[k].op=((B.data[k]).toNat:Int):=by rw[hg];exact T
      have hf:fitB op ks=false:=by
       rw[fitB,o,decide_eq_false];intro e;injection e with e;apply T;have:l[k]?=some (kd ks[k].op):=by rw[e,zB,qB g,zd]
       rw[qB p]at this;simpa using this.symm
      rw[hf];simp[go_sem,e5,e7,g,i,C,t];exact .zsc _
  .have hf:fitB op ks=false:=by
    rw[fitB,o,decide_eq_false];intro e;injection e with e;rw[e]at C;simp at C
   rw[hf];simp[go_sem,i,C];exact .zsc _
end Q2
namespace Q3
open Y1 Q1
def letC(c:Int):Bool:=(decide (97<=c)&&decide (c<=122))||(decide (65<=c)&&decide (c<=90))
def chB(i:Nat)(c:Int):Bool:=letC c||(!decide (i=0)&&(decide (c=95)||(decide (48<=c)&&decide (c<=57))))
def zr(s:tZ):Bool:=decide (1<=s.size)&&decide (s.size<=16)&&!kwB s&&(qs s.size).all fun i=>match s.data[i]? with|some c=>chB i c.toNat|none=>true
theorem qlT(s):qg qc 243 [aS s] (aB (zr s)):=by
 refine qSV call243 func243 rfl ?_;by_cases h0:s.size=0
 .have t:zr s=false:=by simp[zr,h0]
  rw[t];simp[go_sem,h0];exact .zsc _
 by_cases ad:16<s.size
 .have t:zr s=false:=by
   have:¬s.size<=16:=zOm;simp[zr,this]
  rw[t];have l:(16:Int)<s.size:=zOm;simp[go_sem,h0,l];exact .zsc _
 have l:¬(16:Int)<s.size:=zOm;simp[go_sem,h0,l];refine tU (qlN s) (.zs .nil) ?_;cases hk:kwB s with
 |true =>
  have t:zr s=false:=by simp[zr,hk]
  rw[t];simp[go_sem];exact .zsc _
 |false =>
  simp[go_sem];refine aA s.size (fun k U=>U.tm 0=aS s/\U.tm 3=aI k/\∀ j c,j<k->s.data[j]?=some c->chB j c.toNat=true) ?_ ?_
  .exact ⟨zSi,zSi,fun j c hj=>absurd hj zOm⟩
  .rintro k U ae ⟨e0,e2,hI⟩
   by_cases aa:k=s.size
   .have t:zr s=true:=by
     simp only[zr,hk,Bool.not_false,Bool.and_true,qD,decide_eq_true_eq,List.all_eq_true,ye];refine⟨⟨zOm,zOm⟩,fun i hi=>?_⟩;cases hc:s.data[i]? with
     |none=>rfl
     |some c=>exact hI i c zOm hc
    rw[t];simp[go_sem,e0,e2,aa];exact .zsc _
   .have o:k<s.size:=by omega
    have a0:k<s.data.size:=o;have w1:=zWk k;have z1:ql.wrap 1=1:=rfl;have a9:s.data[k]?=some s.data[k]:=Array.getElem?_eq_getElem a0;simp[go_sem,e0,e2,o];generalize hc:((s.data[k]).toNat:Int)=c at *
    cases g:chB k c with
    |false =>
     have t:zr s=false:=by
      rw[zr,Bool.and_eq_false_iff];refine .inr (List.all_eq_false.2 ⟨k,ye.2 o,?_⟩);simp only[a9,hc,g];simp
     rw[t];by_cases I:97<=c<;>by_cases J:c<=122<;>by_cases P:65<=c<;>by_cases R:c<=90<;>by_cases T:c=95<;>by_cases a6:c<48<;>by_cases a7:57<c<;>by_cases C:k=0<;>first|omega | (exfalso;simp[chB,letC,I,J,P,R,T,a6,a7,C]at g;done) | (exfalso;simp[chB,letC,I,J,P,R,T,a6,a7,C]at g;omega)|skip
     all_goals
      simp[go_sem,e2,I,J,P,R,T,a6,a7,C];exact .zsc _
    |true =>
     have p:∀ j d,j<k+1->s.data[j]?=some d->chB j d.toNat=true:=fun j d hj hd=>by
      by_cases ab:j=k
      .subst ab
       rw[a9]at hd;cases hd;rw[hc];exact g
      .exact hI j d zOm hd
     by_cases I:97<=c<;>by_cases J:c<=122<;>by_cases P:65<=c<;>by_cases R:c<=90<;>by_cases T:c=95<;>by_cases a6:c<48<;>by_cases a7:57<c<;>by_cases C:k=0<;>first|omega | (exfalso;simp[chB,letC,I,J,P,R,T,C]at g;done) | (exfalso;simp[chB,letC,I,J,P,R,T,C]at g;omega)|skip
     all_goals
      simp[go_sem,e2,I,J,P,R,T,a6,a7,C,w1,z1]
      first
       |exact⟨o,aC ⟨zS1 e0,zSi,p⟩⟩
       | (subst C;exact⟨o,aC ⟨zS1 e0,zSi,fun j d hj hd=>p j d zOm hd⟩⟩)
end Q3
namespace Q4
open P2 Y1 Y2 Y9 Q2 Q3
def wt(op:Int):Bool:=decide (op=1)||decide (op=15)||decide (op=45)||decide (op=46)||decide (op=47)
def numB(op n:Int):Bool:=if op=2 then decide (1<=n)&&decide (n<=3) else if op=20 then decide (-64<=n)&&decide (n<=64) else decide (n=0)
def ownB(n:Nd):Bool:=if wt n.op=zr n.name/\(wt n.op=true\/n.name=⟨#[]⟩) then numB n.op n.n else false
theorem ownU(n):qg qc 194 [eNd n] (aB (ownB n)):=by
 refine qSV call194 func194 rfl ?_;have j:=qlT n.name;generalize P:zr n.name=N at *
 by_cases p:n.op=1\/n.op=15\/n.op=45\/n.op=46\/n.op=47
 .have l:wt n.op=true:=by grind [wt]
  have t:¬n.op=2:=zOm;have i:¬n.op=20:=zOm;rcases p with h|h|h|h|h
  all_goals
   simp[go_sem,h];refine tU j (.zs .nil) ?_;cases N with
   |true =>
    have g:ownB n=decide (n.n=0):=by grind [ownB,numB]
    rw[g];simp[go_sem,h];exact .zsc _
   |false =>
    have g:ownB n=false:=by grind [ownB]
    rw[g];simp[go_sem];exact .zsc _
 .simp only[not_or]at p
  obtain⟨d1,d2,d3,d4,d5⟩:=p;have l:wt n.op=false:=by grind [wt]
  simp[go_sem,d1,d2,d3,d4,d5];refine tU j (.zs .nil) ?_;cases N with
  |true =>
   have g:ownB n=false:=by grind [ownB]
   rw[g];simp[go_sem];exact .zsc _
  |false =>
   by_cases o:n.name=⟨#[]⟩
   .have g:ownB n=numB n.op n.n:=by
     simp_all[ownB,if_pos]
    rw[g];unfold numB;by_cases t:n.op=2
    .by_cases C:1<=n.n<;>by_cases I:n.n<=3<;>(simp[go_sem,t,o,C,I];exact .zsc _)
    .by_cases i:n.op=20
     .by_cases C : -64<=n.n<;>by_cases I:n.n<=64<;>(simp[go_sem,i,o,C,I];exact .zsc _)
     .simp [go_sem,t,i,o]
      exact .zsc _
   .have g:ownB n=false:=by simp[ownB,l,o]
    rw[g];have J:n.name.toList.isEmpty=false:=by simpa using jG o
    simp[go_sem,J];exact .zsc _
mutual
def cntN:Nd->Int->Int
 | .mk _ _ _ ks _,left=>yy ks left 1
def yy:List Nd->Int->Int->Int
 | [],_,sum=>sum
 |k :: ks,left,sum=>if sum<=left then yy ks left (sum+cntN k (left-sum)) else sum
end
theorem X8(n left):cntN n left=yy n.sD left 1:=by
 obtain⟨op,nm,i,ks,p⟩:=n;simp[cntN,Nd.sD]
mutual
theorem UG:∀(n:Nd)(left:Int),1<=cntN n left/\(cntN n left<=left+1\/cntN n left=1)
 | .mk _ _ _ ks _,left=>by
  simp only[cntN];have:=X9 ks left 1;omega
theorem X9:∀(ks:List Nd)(left sum:Int),sum<=yy ks left sum/\(yy ks left sum<=left+1\/yy ks left sum=sum)
 | [],left,sum=>by simp[yy]
 |k :: ks,left,sum=>by
  simp only[yy];split
  .have g:=UG k (left-sum)
   have i:=X9 ks left (sum+cntN k (left-sum));omega
  .omega
end
theorem qaS:∀ m n,szN n<=m->∀ left,-1000000<=left/\left<=1000000->qg qc 127 [eNd n,aI left] (aI (cntN n left))
 | 0,n,P,_,_=>by obtain⟨op,nm,i,ks,p⟩:=n;simp[szN]at P
 |m+1,n,P,left,hl=>by
  have ih:∀ k,k∈n.sD->∀ left:Int,-1000000<=left/\left<=1000000->qg qc 127 [eNd k,aI left] (aI (cntN k left)):=fun k T =>
   qaS m k (zW1 (zf T))
  rw[X8];generalize hR:yy n.sD left 1=R;refine qSU call127 func127 rfl ?_;refine aA n.sD.length (fun k U=>∃ sum:Int,U.tm 1=aI left/\U.tm 2 = .ip (cNd n)/\U.tm 5=aI sum/\U.tm 6=aI k/\(k:Int)+1<=sum/\(sum<=left+1\/sum=1)/\yy (n.sD.drop k) left sum=R) ?_ ?_
  .simp [go_sem, *]
  .rintro k U T ⟨sum,C,l,I,o,a0,a1,j⟩
   by_cases J:k=n.sD.length
   .subst J
    rw[zU]at j;simp only[yy]at j;subst j;simp[go_sem,l,I,o];exact .zsc _
   .have g:k<n.sD.length:=by omega
    rw[zg g]at j;simp only[yy]at j;by_cases t:sum<=left
    .rw [if_pos t]at j
     have w1:=zWk k;have w2:ql.wrap (left-sum)=left-sum:=zWr;have a2:=UG n.sD[k] (left-sum);have w3:ql.wrap (sum+cntN n.sD[k] (left-sum))=sum+cntN n.sD[k] (left-sum):=zWr;simp[go_sem,C,l,I,o,g,t,w2];refine tU (ih n.sD[k] (qt g) (left-sum) ⟨zOm,zOm⟩) (.zk (qE _) (.zs .nil)) ?_;simp[go_sem,o,w1,w3];refine⟨g,aC ?_⟩;exact⟨sum+cntN n.sD[k] (left-sum),zS1 C,zS1 l,zSi,zSi,zOm,zOm,j⟩
    .rw [if_neg t]at j
     subst j;simp[go_sem,C,l,I,o,g,t];exact .zsc _
mutual
def forN:Nd->Int->Bool
 | .mk op nm i ks p,g=>if g<1 then false else ownB (.mk op nm i ks p)&&(fitB op ks&&uF ks (g-1))
def uF:List Nd->Int->Bool
 | [],_=>true
 |k :: ks,g=>forN k g&&uF ks g
end
theorem UH(n g):forN n g=if g<1 then false else ownB n&&(fitB n.op n.sD&&uF n.sD (g-1)):=by
 obtain⟨op,nm,i,ks,p⟩:=n;simp[forN,Nd.sD,Nd.op]
theorem qaT:∀ m n,szN n<=m->Small n->∀ g,-1000000<=g/\g<=1000000->qg qc 128 [eNd n,aI g] (aB (forN n g))
 | 0,n,T,_,_,_=>by obtain⟨op,nm,i,ks,p⟩:=n;simp[szN]at T
 |m+1,n,T,hs,g,hl=>by
  have ih:∀ k,k∈n.sD->∀ g:Int,-1000000<=g/\g<=1000000->qg qc 128 [eNd k,aI g] (aB (forN k g)):=fun k J =>
   qaT m k (zW1 (zf J)) (hs.kid J)
  have I:=hs.len;rw[UH];have l:=ownU n;have o:=J3 n.op n.sD I;by_cases j:g<1
  .rw [if_pos j]
   refine qSV call128 func128 rfl ?_;simp[go_sem,j];exact .zsc _
  rw[if_neg j];cases ho:ownB n with
  |false =>
   rw[ho]at l;refine qSV call128 func128 rfl ?_;simp[go_sem,j];refine fR l (.zk (qE _) .nil) ?_;exact .zsc _
  |true =>
   rw[ho]at l;cases hf:fitB n.op n.sD with
   |false =>
    rw[hf]at o;refine qSV call128 func128 rfl ?_;simp[go_sem,j];refine fR l (.zk (qE _) .nil) ?_;refine fR o (.zs (.zk (JH _) .nil)) ?_;exact .zsc _
   |true =>
    rw[hf]at o;have wl:ql.wrap (g-1)=g-1:=zWr;generalize hR:uF n.sD (g-1)=R;simp only[Bool.true_and];refine qSV call128 func128 rfl ?_;simp[go_sem,j];refine fR l (.zk (qE _) .nil) ?_;refine fR o (.zs (.zk (JH _) .nil)) ?_;refine aA n.sD.length (fun k U=>U.tm 1=aI g/\U.tm 2 = .ip (cNd n)/\U.tm 5=aI k/\uF (n.sD.drop k) (g-1)=R) ?_ ?_
    .simp [go_sem, *]
    .rintro k U J ⟨e1,e2,e5,t⟩
     by_cases P:k=n.sD.length
     .subst P
      rw[zU]at t;simp only[uF]at t;subst t;simp[go_sem,e2,e5];exact .zsc _
     .have C:k<n.sD.length:=by omega
      have w1:=zWk k;rw[zg C]at t;simp only[uF]at t;have hi:=ih n.sD[k] (qt C) (g-1) ⟨zOm,zOm⟩;simp[go_sem,e1,e2,e5,C,wl];refine tU hi (.zk (qE _) (.zs .nil)) ?_;cases hq:forN n.sD[k] (g-1) with
      |true =>
       simp_all[go_sem,Bool.true_and,aC]
      |false =>
       rw[hq,Bool.false_and]at t;subst t;simp[go_sem];exact .zsc _
theorem qaU:∀ ks left sum,0<=sum->yy ks left sum<=left->sum+ks.length<=yy ks left sum/\∀ k,k∈ks->∃ l',l'<=left/\cntN k l'<=l'
 | [],left,sum,_,h=>by simp[yy]
 |k :: ks,left,sum,l,h=>by
  simp only[yy]at h⊢;split at h
  .rename_i i
   rw[if_pos i];have o:=UG k (left-sum);have j:=qaU ks left (sum+cntN k (left-sum)) zOm h;have p:=j.1;refine⟨by grind,fun q g=>?_⟩;rcases qy.1 g with rfl|g
   .grind
   grind
  .omega
theorem qaV:∀ m n left,szN n<=m->left<=1000->cntN n left<=left->Small n
 | 0,n,_,g,_,_=>by obtain⟨op,nm,i,ks,p⟩:=n;simp[szN]at g
 |m+1,n,left,g,I,h=>by
  rw[X8]at h;obtain⟨J,l⟩:=qaU n.sD left 1 zOm h;refine .mk n zOm fun k j=>?_
  obtain⟨o,t,C⟩:=l k j;exact qaV m k o (zW1 (zf j)) zOm C
def qT(n:Nd):Bool:=decide (cntN n 400<=400)&&forN n 24
theorem qlU(n):qg qc 61 [eNd n] (aB (qT n)):=by
 have i:=qaS (szN n) n (qj _) 400 zOm;by_cases h:cntN n 400<=400
 .have j:=qaV (szN n) n 400 (qj _) zOm h
  have hf:=qaT (szN n) n (qj _) j 24 zOm;have g:qT n=forN n 24:=by simp[qT,h]
  rw[g];refine qSU call61 func61 rfl ?_;refine tU i (.zk (qE _) (.zs .nil)) ?_;simp[go_sem,h];refine fR hf (.zk (qE _) (.zs .nil)) ?_;exact .zsc _
 .have g:qT n=false:=by simp[qT,h]
  rw[g];refine qSU call61 func61 rfl ?_;refine tU i (.zk (qE _) (.zs .nil)) ?_;simp[go_sem,h];exact .zsc _
theorem qaW{ks i}(h:uF ks i=true):∀ k,k∈ks->forN k i=true:=by
 induction ks with
 |nil=>grind
 |cons a l j =>
  simp only[uF,qD]at h;intro k g;rcases qy.1 g with rfl|g
  .exact h.1
  .exact j h.2 k g
theorem qaX:∀ m n g,szN n<=m->forN n g=true->WfN n
 | 0,n,_,j,_=>by obtain⟨op,nm,i,ks,p⟩:=n;simp[szN]at j
 |m+1,n,g,j,h=>by
  rw[UH]at h;split at h
  .grind
  .simp only[qD]at h
   obtain⟨t,C,o⟩:=h;refine .mk n ?_ (fun I=>?_) fun k l=>qaX m k (g-1) (zW1 (zf l)) (qaW o k l)
   .grind [fitB]
   simp_all[ownB,numB,if_pos,absurd]
theorem jr{n}(h:qT n=true):WfN n:=by
 simp only[qT,qD]at h;exact qaX (szN n) n 24 (qj _) h.2
end Q4
namespace Q5
theorem qlV(a b)(ha:a.length<=1000000):qg qc 129 [lI a,lI b] (aB (decide (a=b))):=by
 refine qSV call129 func129 rfl ?_;by_cases j:a.length=b.length
 case neg =>
  rw[decide_eq_false (by rintro rfl;exact j rfl)];simp[go_sem,j];exact .zsc _
 simp[go_sem,j];refine aA a.length (fun k U=>U.tm 0=lI a/\U.tm 1=lI b/\U.tm 5=aI k/\∀(i:Nat)(h:i<a.length)(o:i<b.length),i<k->a[i]=b[i]) ?_ ?_
 .exact ⟨zSi,zSi,zSi,fun i h o R=>absurd R zOm⟩
 .rintro k U hk ⟨l,I,p,T⟩
  by_cases a0:k=a.length
  .rw [decide_eq_true (List.ext_getElem j fun i h o=>T i h o zOm)]
   have J:k=b.length:=zOm;simp[go_sem,l,p,J,j];exact .zsc _
  .have a1:k<a.length:=by omega
   have t:k<b.length:=zOm;have w1:=zWk k;have g:(k:Int)<(b.length:Int):=zOm;by_cases C:a[k]=b[k]
   .simp [go_sem,l,p,j,g]
    try refine tR zKr ?_
    simp[go_sem,l,I,p,t,j,g,C,w1]
    try refine⟨zOm,aC ?_⟩
    try refine aC ?_
    refine⟨zS1 l,zS1 I,zSi,fun i h o R=>?_⟩;by_cases P:i=k
    .subst P;exact C
    .exact T i h o zOm
   .rw [decide_eq_false (fun e=>C (zP1 e))]
    simp[go_sem,l,p,j,g]
    try refine tR zKr ?_
    simp[go_sem,l,I,p,t,j,g,C];exact .zsc _
end Q5
namespace Q6
open Y1 Y9
mutual
def anyN(p:Nd->Bool):Nd->Bool
 | .mk op nm i ks q=>p (.mk op nm i ks q)||vw p ks
def vw(p:Nd->Bool):List Nd->Bool
 | []=>false
 |k :: ks=>anyN p k||vw p ks
end
theorem J4(p n):anyN p n=(p n||vw p n.sD):=by
 obtain⟨op,nm,i,ks,q⟩:=n;simp[anyN,Nd.sD]
theorem qaY:∀ m n,szN n<=m->Small n->qg qc 43 [eNd n] (aB (anyN (fun n=>decide (n.op=47)) n))
 | 0,n,J,_=>by obtain⟨op,nm,i,ks,p⟩:=n;simp[szN]at J
 |m+1,n,J,P=>by
  have ih:∀ k,k∈n.sD->qg qc 43 [eNd k] (aB (anyN (fun n=>decide (n.op=47)) k)):=fun k t =>
   qaY m k (zW1 (zf t)) (P.kid t)
  have T:=P.len;rw[J4];generalize hR:vw (fun n=>decide (n.op=47)) n.sD=R;refine qSV call43 func43 rfl ?_;by_cases C:n.op=47
  .simp [go_sem,C]
   exact .zsc _
  .rw [decide_eq_false C,Bool.false_or]
   simp[go_sem,C];refine aA n.sD.length (fun k U=>U.tm 1 = .ip (cNd n)/\U.tm 3=aI k/\vw (fun n=>decide (n.op=47)) (n.sD.drop k)=R) ?_ ?_
   .exact ⟨zSi,zSi,zUs hR⟩
   .rintro k U t ⟨l,o,j⟩
    by_cases I:k=n.sD.length
    .subst I
     rw[zU]at j;simp only[vw]at j;subst j;simp[go_sem,l,o];exact .zsc _
    .have g:k<n.sD.length:=by omega
     have w1:=zWk k;rw[zg g]at j;simp only[vw]at j;have hi:=ih n.sD[k] (qt g);simp[go_sem,l,o,g,q9]
     try refine tR zKr ?_
     try simp[go_sem,l,o,g,q9]
     refine tU hi (.zk (qE _) .nil) ?_;cases hq:anyN (fun n=>decide (n.op=47)) n.sD[k] with
     |true =>
      rw[hq,Bool.true_or]at j;subst j;simp[go_sem,l,o];exact .zsc _
     |false =>
      rw[hq,Bool.false_or]at j;simp[go_sem,l,o,w1]
      try refine⟨g,aC ?_⟩
      try refine aC ?_
      exact⟨zS1 l,zSi,j⟩
end Q6
namespace Q7
end Q7
namespace Q8
def fldB(ns:Nat)(f:Fld):Bool:=decide (1<=f.sS.length)&&decide (f.sS.length<=3)&&f.sS.all fun x=>decide (0<=x)&&decide (x<ns)
end Q8
namespace FD
end FD
namespace GF
open E1 E4 F4
abbrev rP(p:Int×Int):List AV:=[aI p.1,aI p.2]
abbrev lP(ps:List (Int×Int)):AV := .lst false (ps.map rP)
theorem Ka(xs:List (Int×Int)):qW 2 (xs.map rP):=fun r g=>by
 obtain⟨n,_,rfl⟩:=qn.1 g;exact⟨rfl,rfl⟩
abbrev eBd(b:Bd):AV := .agg (cBd b)
theorem UI(b):∀ c,c∈cBd b->HF c:=by
 intro c g;simp at g;rcases g with rfl|rfl|rfl|rfl
 .exact HF.sc _
 .exact zC _
 .exact HF.sc _
 .exact zC _
theorem z8(b):HF (eBd b):=HF.agg (UI b)
def Kb(x:Bd):List Int:=x.up.ts.filter fun t=>!decide (t∈x.lo.ts)
def Yt(k:Nat)(x:Bd):List (Int×Int):=(Kb x).map fun t=>((k:Int),t)
def zt:List Bd->Nat->List (Int×Int)
 | [],_=>[]
 |x :: l,k=>Yt k x++zt l (k+1)
theorem qaZ:∀ l m k,zt (l++m) k=zt l k++zt m (k+l.length)
 | [],m,k=>by simp[zt]
 |x :: l,m,k=>by
  rw[yL,zt,zt,qaZ l m (k+1),zG];have:k+1+l.length=k+(x :: l).length:=zSo;rw[this]
theorem qlW(l:List Bd)(k h):zt (l.take (k+1)) 0=zt (l.take k) 0++Yt k l[k]:=by
 rw[List.take_add_one,qB h];show zt (l.take k++[l[k]]) 0=_;rw[qaZ];have:(l.take k).length=k:=zSo;rw[this,yM];simp[zt]
structure qa0 (x:Bd):Prop where
 up:x.up.ts.length<=1000000
 lo:x.lo.ts.length<=1000000
 zq:x.lo.ts.Pairwise (·<=·)
theorem Kc:∀ l k,(∀ x,x∈l->qa0 x)->(zt l k).length<=l.length*1000000
 | [],k,_=>by simp[zt]
 |x :: l,k,h=>by
  have i:=Kc l (k+1) (fun y g=>h y (zP1 g));have j:(Yt k x).length<=1000000:=by
   rw[Yt,List.length_map];exact zS (List.length_filter_le _ _) (h x zSp).up
  simp only[zt,zh,yh];omega
theorem cC{mu av xs}(h:Own mu 2 av (xs.map rP)):Rd mu av (lP xs):=
 h.rd (Ka xs).ok fun r i c g=>by
  obtain⟨n,_,rfl⟩:=qn.1 i;simp at g;rcases g with rfl|rfl<;>exact HF.sc _
end GF
namespace KA
open Y1 P1 E1 E3
def vf(p:Int)(k:Nd):Nd:=if k.op=48 then k else .mk 48 ⟨#[]⟩ 0 [k] p
mutual
def conj:Nd->List Nd
 | .mk op nm i ks p=>if op=41 then (uG ks).getD 0 []++(uG ks).getD 1 [] else if op=48 then ((uG ks).getD 0 []).map (vf p) else [.mk op nm i ks p]
def uG:List Nd->List (List Nd)
 | []=>[]
 |k :: ks=>conj k :: uG ks
end
structure Ns where
 ts:TS
 sc:Sc
 bs:List Bd
abbrev Ns.n(σ:Ns):Int:=sumI σ.sc.sC
abbrev rl0:Rl:=⟨0,[]⟩
abbrev bd0:Bd:=⟨rl0,rl0⟩
abbrev exR(r:Rl):Bd:=⟨r,r⟩
def allN(n k:Int):Rl:=⟨k,(qs (n ^ k.toNat).toNat).map fun i:Nat=>(i:Int)⟩
def Yu(sc:Sc)(i:Nat):List Int:=(qs (gI sc.sC i).toNat).map fun k:Nat=>sumI (sc.sC.take i)+k
def ZN(sc:Sc)(i:Nat):List Int:=(qs ((gI sc.sC i).toNat-1)).map fun k:Nat=>(sumI (sc.sC.take i)+k)*sumI sc.sC+(sumI (sc.sC.take i)+k+1)
def Qa(nm:tZ)(env:List (tZ×Bd)):Option Bd:=env.foldl (fun r e=>if e.1=nm then some e.2 else r) none
def yQ(nm:tZ):List Fld->List Bd->Option Bd
 |f :: g,b :: j=>if f.name=nm then some b else yQ nm g j
 |_,_=>none
def Zd(sc:Sc)(nm:tZ):Nat->List (tZ×Bool)->Bd
 |_,[]=>bd0
 |i,s :: g=>if s.1=nm then exR ⟨1,Yu sc i⟩ else if s.2=true/\s.1++jT=nm then exR ⟨1,[sumI (sc.sC.take i)]⟩ else if s.2=true/\s.1++vr=nm then exR ⟨2,ZN sc i⟩ else Zd sc nm (i+1) g
def zr(σ:Ns)(env:List (tZ×Bd))(nm:tZ):Bd:=match Qa nm env with
 |some b=>b
 |none=>match yQ nm σ.ts.sA σ.bs with
  |some b=>b
  |none=>Zd σ.sc nm 0 σ.ts.sS
def vy(n:Int)(a b:Rl):Rl:=⟨a.ar,a.ts.filter fun t=>decide (∀ u,u∈b.ts->u / powI n (b.ar-1)≠t / powI n (a.ar-1))⟩
def vE(q:XE Rl):Rl:=match q with
 | .ok r=>r
 | .error _=>rl0
def map2(f:Rl->Rl->Rl)(x y:Bd):Bd:=⟨f x.lo y.lo,f x.up y.up⟩
def opI(σ:Ns)(env:List (tZ×Bd))(op:Int)(nm:tZ)(i:Int)(l:List Bd):Bd:=
 let x:=l.getD 0 bd0
 let y:=l.getD 1 bd0
 if op=1 then zr σ env nm
 else if op=2 then exR ⟨i,[]⟩
 else if op=3 then exR (allN σ.n 1)
 else if op=4 then exR (idR σ.n)
 else if op=5 then x
 else if op=11 then ⟨trR σ.n x.lo,trR σ.n x.up⟩
 else if op=12 then ⟨clR σ.n 200 x.lo,clR σ.n 200 x.up⟩
 else if op=13 then ⟨unR (clR σ.n 200 x.lo) (idR σ.n),unR (clR σ.n 200 x.up) (idR σ.n)⟩
 else if op=15 then ⟨⟨1,[]⟩,x.up⟩
 else if op=6 then map2 unR x y
 else if op=7 then map2 inR x y
 else if op=8 then ⟨diR x.lo y.up,diR x.up y.lo⟩
 else if op=9 then map2 (fun a b=>vE (uf σ.n a b)) x y
 else if op=10 then map2 (fun a b=>vE (wh σ.n a b)) x y
 else ⟨unR y.lo (vy σ.n x.lo y.up),unR y.up (vy σ.n x.up y.lo)⟩
mutual
def ivl(σ:Ns)(env:List (tZ×Bd)):Nd->Bd
 | .mk op nm i ks p=>opI σ env op nm i (ivls σ env ks)
def ivls(σ:Ns)(env:List (tZ×Bd)):List Nd->List Bd
 | []=>[]
 |k :: ks=>ivl σ env k :: ivls σ env ks
end
theorem Ke(σ env):∀ ks,ivls σ env ks=ks.map (ivl σ env)
 | []=>rfl
 |k :: ks=>by rw[ivls,Ke σ env ks];rfl
theorem zj(σ env n):ivl σ env n=opI σ env n.op n.name n.n (n.sD.map (ivl σ env)):=by
 obtain⟨op,nm,i,ks,p⟩:=n;rw[ivl,Ke];rfl
abbrev Br:=Option (List Bd×Bool)
def sub1(a b:Rl):Bool:=decide ((diR a b).ts=[])
def wu(i:Nat)(p q:Rl)(bs:List Bd)(c:Bool):Br:=
 let b:=bs.getD i bd0
 let x:Bd:=⟨unR b.lo p,inR b.up q⟩
 if sub1 x.lo x.up=true then (if x.lo=b.lo/\x.up=b.up then some (bs,c) else some (bs.set i x,true)) else none
def idxF(fs:List Fld)(nm:tZ):Option Nat:=fs.findIdx? fun f=>decide (f.name=nm)
mutual
def narN(ts:TS)(sc:Sc)(g:Bool):Nd->Rl->Rl->List Bd->Bool->Br
 | .mk op nm i ks o,p,q,j,c =>
  let l:Ns:=⟨ts,sc,j⟩
  let x:=ivl l [] (.mk op nm i ks o)
  let all:=allN l.n x.lo.ar
  if (sub1 p x.up&&sub1 x.lo q)=true then
   if op=1 then (match idxF ts.sA nm with
    |some i=>if (g||!((ts.sA.map fun f=>f.var).getD i false))=true then wu i p q j c else some (j,c)
    |none=>some (j,c))
   else if op=6 then narU ts sc g ks ⟨p.ar,(diR p ((ivls l [] ks).getD 1 bd0).up).ts⟩ ⟨p.ar,(diR p ((ivls l [] ks).getD 0 bd0).up).ts⟩ q j c
   else if op=7 then narU ts sc g ks p p all j c
   else if op=8 then narD ts sc g ks p all ⟨all.ar,[]⟩ (diR all p) j c
   else if op=11 then narT ts sc g ks (trR l.n p) (trR l.n q) j c
   else some (j,c)
  else none
def narU(ts:TS)(sc:Sc)(g:Bool):List Nd->Rl->Rl->Rl->List Bd->Bool->Br
 | [],_,_,_,j,c=>some (j,c)
 |k :: ks,p,l,q,j,c=>match narN ts sc g k p q j c with
  |none=>none
  |some (i,o)=>narU ts sc g ks l l q i o
def narD(ts:TS)(sc:Sc)(g:Bool):List Nd->Rl->Rl->Rl->Rl->List Bd->Bool->Br
 | [],_,_,_,_,j,c=>some (j,c)
 |k :: ks,p,q,l,o,j,c=>match narN ts sc g k p q j c with
  |none=>none
  |some (i,t)=>narD ts sc g ks l o l o i t
def narT(ts:TS)(sc:Sc)(g:Bool):List Nd->Rl->Rl->List Bd->Bool->Br
 | [],_,_,j,c=>some (j,c)
 |k :: _,p,q,j,c=>narN ts sc g k p q j c
end
def brB(r:Br)(f:List Bd->Bool->Br):Br:=match r with
 |none=>none
 |some (j,c)=>f j c
def jh(ts:TS)(sc:Sc)(g:Bool)(n:Nd)(bs:List Bd)(c:Bool):Br:=
 let x:=ivl ⟨ts,sc,bs⟩ [] n
 if x.up.ts.length=0 then none else if x.up.ts.length=1 then narN ts sc g n x.up (allN (sumI sc.sC) x.up.ar) bs c else some (bs,c)
def ji(ts:TS)(sc:Sc)(g:Bool)(n:Nd)(bs:List Bd)(c:Bool):Br:=
 let x:=ivl ⟨ts,sc,bs⟩ [] n
 if 1<x.lo.ts.length then none else if x.lo.ts.length=1 then narN ts sc g n ⟨x.lo.ar,[]⟩ x.lo bs c else some (bs,c)
def noN(ts:TS)(sc:Sc)(g:Bool)(n:Nd)(bs:List Bd)(c:Bool):Br:=
 let e:Rl:=⟨(ivl ⟨ts,sc,bs⟩ [] n).lo.ar,[]⟩
 narN ts sc g n e e bs c
def kidN(n:Nd)(i:Nat):Nd:=n.sD.getD i (.mk 0 ⟨#[]⟩ 0 [] 0)
def vg(ts:TS)(sc:Sc)(g:Bool)(n:Nd)(bs:List Bd)(c:Bool):Br:=
 let no:=decide (n.op=40)
 let m:=if n.op=40 then kidN n 0 else n
 let k:=kidN m 0
 if (no=true/\m.op=34)\/(no=false/\m.op=35) then noN ts sc g k bs c
 else if (no=true/\m.op=35)\/(no=false/\m.op=34) then jh ts sc g k bs c
 else if no=true then some (bs,c)
 else if m.op=31 then none
 else if m.op=36 then brB (jh ts sc g k bs c) fun bs c=>ji ts sc g k bs c
 else if m.op=37 then ji ts sc g k bs c
 else if m.op=32\/m.op=33 then
  let x:=ivl ⟨ts,sc,bs⟩ [] k
  let y:=ivl ⟨ts,sc,bs⟩ [] (kidN m 1)
  let all:=allN (sumI sc.sC) x.lo.ar
  let i:=if m.op=32 then all else x.up
  let yl:=if m.op=32 then ⟨all.ar,[]⟩ else y.lo
  brB (narN ts sc g k yl y.up bs c) fun bs c=>narN ts sc g (kidN m 1) x.lo i bs c
 else some (bs,c)
abbrev ndZ:Nd := .mk 0 ⟨#[]⟩ 0 [] 0
mutual
def ya:Nd->Bool->Nd×Bool
 | .mk op nm i ks p,g=>if op=48 then Yv ks else (.mk op nm i ks p,g)
def Yv:List Nd->Nd×Bool
 | []=>(ndZ,true)
 |k :: _=>ya k true
end
def yp(ts:TS)(sc:Sc):List Nd->List Bd->Bool->Br
 | [],j,c=>some (j,c)
 |n :: l,j,c=>brB (vg ts sc (ya n (decide (sc.sN=1))).2 (ya n (decide (sc.sN=1))).1 j c) fun j c=>yp ts sc l j c
def fixN(ts:TS)(sc:Sc)(l:List Nd):Nat->List Bd->Option (List Bd)
 | 0,j=>some j
 |f+1,j=>match yp ts sc l j false with
  |none=>none
  |some (g,true)=>fixN ts sc l f g
  |some (g,false)=>some g
end KA
namespace KB
open Y1 Y2 Y9 P1 P2 E1 E2 E3 KA
section
variable {c:Ck}{l:List (Option Kd)}{s:Scp}
inductive ArN (A:tZ->Option Int):Nd->Int->Prop where
 |name {n:Nd} {a:Int} (ho:n.op=1) (h:A n.name=some a):ArN A n a
 |none {n:Nd} (ho:n.op=2) (h:1<=n.n/\n.n<=3):ArN A n n.n
 |univ {n:Nd} (ho:n.op=3):ArN A n 1
 |iden {n:Nd} (ho:n.op=4):ArN A n 2
 |prime {n x:Nd} {a:Int} (ho:n.op=5) (hk:n.sD=[x]) (h:ArN A x a):ArN A n a
 |bin {n x:Nd} (ho:11<=n.op/\n.op<=13) (hk:n.sD=[x]) (h:ArN A x 2):ArN A n 2
 |alike {n x y:Nd} {a:Int} (ho:n.op=6\/n.op=7\/n.op=8\/n.op=14) (hk:n.sD=[x,y]) (hx:ArN A x a) (hy:ArN A y a):ArN A n a
 |join {n x y:Nd} {a b:Int} (ho:n.op=9) (hk:n.sD=[x,y]) (hx:ArN A x a) (hy:ArN A y b) (h:1<=a+b-2/\a+b-2<=3):ArN A n (a+b-2)
 |prod {n x y:Nd} {a b:Int} (ho:n.op=10) (hk:n.sD=[x,y]) (hx:ArN A x a) (hy:ArN A y b) (h:a+b<=3):ArN A n (a+b)
 |compr {n x f:Nd} (ho:n.op=15) (hk:n.sD=[x,f]) (hx:ArN A x 1):ArN A n 1
def arS(c:Ck)(s:Scp)(nm:tZ):Option Int:=match yH c s nm 0 with
 | .ok (some k)=>some k.ar
 |_=>none
theorem qlX{nm p k}(h:yH c s nm p = .ok (some k)):arS c s nm=some k.ar:=by
 unfold arS;unfold yH at h⊢;split at h
 .simp_all
 .split at h
  .cases h
  .simp_all
  .cases h
theorem UJ{n a b}(i:WfN n)(e:shp n.op n.sD.length=some [a,b]):∃ x y,n.sD=[x,y]/\kd x.op=a/\kd y.op=b:=by
 have g:=i.shape;rw[e]at g;simp only[qo]at g
 match j:n.sD,g with
 | [x,y],g=>simp at g;exact⟨x,y,rfl,g.1.symm,g.2.symm⟩
 | [],g=>simp at g
 | [_],g=>simp at g
 |_ :: _ :: _ :: _,g=>simp at g
theorem J5{n a}(i:WfN n)(e:shp n.op n.sD.length=some [a]):∃ x,n.sD=[x]/\kd x.op=a:=by
 have g:=i.shape;rw[e]at g;simp only[qo]at g
 match j:n.sD,g with
 | [x],g=>simp at g;exact⟨x,rfl,g.symm⟩
 | [],g=>simp at g
 |_ :: _ :: _,g=>simp at g
theorem exL1{b x}(h:qL c s b [x] = .ok l):∃ a,l=[a]/\exam c s b x = .ok a:=by
 obtain⟨g,i⟩:=ZK h
 match l,g with
 | [a],_=>exact⟨a,rfl,i 0 x a rfl rfl⟩
theorem exL2{b x y}(h:qL c s b [x,y] = .ok l):∃ a g,l=[a,g]/\exam c s b x = .ok a/\exam c s b y = .ok g:=by
 obtain⟨j,i⟩:=ZK h
 match l,j with
 | [a,g],_=>exact⟨a,g,rfl,i 0 x a rfl rfl,i 1 y g rfl rfl⟩
theorem UK(hc:okCk c):∀ m n s inn k,szN n<=m->WfN n->ScOk c.ts.sS.length s->exam c s inn n = .ok (some k)->kd n.op=101->ArN (arS c s) n k.ar
 | 0,n,_,_,_,hm,_,_,_,_=>by obtain⟨op,nm,i,ks,p⟩:=n;simp[szN]at hm
 |m+1,n,s,inn,k,hm,I,hs,h,a0=>by
  have ho:=JV a0;have j:∀ x,x∈n.sD->szN x<=m:=fun x C=>zW1 (zf C)
  have U:∀ x b q,x∈n.sD->kd x.op=101->exam c s b x = .ok q->∃ k,q=some k/\ArN (arS c s) x k.ar:=fun x b q C g o=>by
   obtain⟨k,rfl,_⟩:=jA hc m x s b q (j x C) (I.kid C) hs o g;exact⟨k,rfl,UK hc m x s b k (j x C) (I.kid C) hs o g⟩
  rw[yI]at h;split at h
  .cases h
  split at h
  .rename_i h1;exact .name h1 (qlX h)
  split at h
  .omega
  split at h
  .rename_i J
   obtain⟨x,f,g,P,_⟩:=UJ (a:=101) (b:=102) I (by unfold shp;rw[zIn,zIn,zIn,if_pos zOm]);rw[g]at h;simp only[z7]at h;cases o:exam c s (inn||decide (n.op=15)) x with
   |error e=>rw[o]at h;cases h
   |ok q =>
    obtain⟨a,rfl,t⟩:=U x _ q (by rw[g];simp) P o;rw[o]at h;simp only at h;split at h
    .rename_i h1
     split at h
     .cases h
     .simp only[jN,qo]at h
      subst h;rw[h1]at t⊢;exact .compr zOm g t
    .cases h
  .rename_i n1 a4 nb
   cases R:qL c s (inn||decide (n.op=12)||decide (n.op=13)) n.sD with
   |error e=>rw[R]at h;cases h
   |ok l =>
    rw[R]at h;simp only at h;by_cases T:n.op=2
    .simp [zy,T]at h;subst h;exact .none T (I.num T)
    by_cases o3:n.op=3
    .simp [zy,o3]at h;subst h;exact .univ o3
    by_cases o4:n.op=4
    .simp [zy,o4]at h;subst h;exact .iden o4
    by_cases u:n.op=5\/n.op=11\/n.op=12\/n.op=13
    .obtain ⟨x,g,P⟩:=J5 (a:=101) I (by unfold shp;rw[zIn,if_pos zOm])
     rw[g]at R;obtain⟨q,rfl,o⟩:=exL1 R;obtain⟨a,rfl,t⟩:=U x _ q (by rw[g];simp) P o;by_cases o5:n.op=5
     .simp [zy,o5]at h;subst h;exact .prime o5 g t
     have J:n.op=11\/n.op=12\/n.op=13:=zOm;simp only[zy,if_neg T,if_neg o3,if_neg o4,if_neg o5,if_pos J]at h;split at h
     .rename_i a2
      simp only[jN,qo]at h;subst h;have:(binK c.ts.sS.length n.op a).ar=2:=by
       have C:=jA hc m x s _ _ (j x (by rw[g];simp)) (I.kid (by rw[g];simp)) hs o P;obtain⟨a',e,ok⟩:=C;cases e;have:=JU ok a2;unfold binK;split
       .exact this.2
       split
       .exact this.2
       .rfl
      rw[a2]at t;rw[this];exact .bin zOm g t
     .cases h
    .obtain ⟨x,y,g,P,ky⟩:=UJ (a:=101) (b:=101) I (by unfold shp;rw[zIn,zIn,if_pos zOm])
     rw[g]at R;obtain⟨q,q',rfl,o,a1⟩:=exL2 R;obtain⟨a,rfl,t⟩:=U x _ q (by rw[g];simp) P o;obtain⟨b,rfl,J⟩:=U y _ q' (by rw[g];simp) ky a1;simp only[zy,if_neg T,if_neg o3,if_neg o4]at h;split at h
     .rename_i al
      split at h
      .rename_i e
       simp only[jN,qo]at h;subst h;have:(vt n.op a b).ar=a.ar:=by simp only[vt,kSum,ZE];grind
       rw[this];rw[<-e]at J;exact .alike zOm g t J
      .cases h
     split at h
     .split at h
      .simp only[jN,qo]at h
       subst h;rename_i h9 hr;exact .join h9 g t J hr
      .cases h
     split at h
     .split at h
      .simp only[jN,qo]at h
       subst h;rename_i a3 hr;exact .prod a3 g t J hr
      .cases h
     .omega
structure okI (n a:Int) (b:Bd):Prop where
 lo:GR n b.lo
 up:GR n b.up
 la:b.lo.ar=a
 ua:b.up.ar=a
theorem GR.all{n k}(j:0<=n)(l:1<=k)(g:k<=3):GR n (allN n k):=by
 refine⟨l,g,fun t o=>?_,?_⟩
 .obtain ⟨i,p,rfl⟩:=qn.1 o
  rw[ye]at p;have e:(allN n k).ar=k:=rfl;rw[e,wd zOm g];have:0<=n ^ k.toNat:=Int.pow_nonneg j;omega
 .show ((qs _).map _).Pairwise _
  rw[List.pairwise_map];exact List.pairwise_lt_range.imp fun h=>zOm
theorem cN{n a b}(g:GR n a):GR n (vy n a b):=g.filter _
theorem Yw{n r}(h:GR n r):okI n r.ar (exR r):=⟨h,h,rfl,rfl⟩
theorem Ze{σ env A}(C:0<=σ.n)(hA:∀ nm a,A nm=some a->okI σ.n a (zr σ env nm)){n a}(h:ArN A n a):okI σ.n a (ivl σ env n):=by
 induction h with
 |name j h=>rw[zj];simp only[opI,if_pos j];exact hA _ _ h
 | @none n j h=>rw[zj];simp[opI,j];exact Yw (GR.nil h.1 h.2)
 |univ j=>rw[zj];simp[opI,j];exact Yw (GR.all C zOm zOm)
 |iden j=>rw[zj];simp[opI,j];exact Yw (GR.iden C)
 |prime j I h U=>rw[zj];simp[opI,j,I];exact U
 | @bin n x j I h U =>
  rw[zj,I];obtain⟨l,u,t,p⟩:=U;have cl:=aD C 200 l t;have cu:=aD C 200 u p;rcases (show n.op=11\/n.op=12\/n.op=13 by omega) with o|o|o<;>simp[opI,o]
  .exact ⟨GR.trans C l t,GR.trans C u p,rfl,rfl⟩
  .exact ⟨cl.1,cu.1,cl.2,cu.2⟩
  .exact ⟨aM cl.1 (GR.iden C) cl.2,aM cu.1 (GR.iden C) cu.2,cl.2,cu.2⟩
 |alike j I hx hy J P =>
  rw[zj,I];obtain⟨l,u,t,p⟩:=J;obtain⟨R,T,g,i⟩:=P;rcases j with o|o|o|o<;>simp[opI,o,map2]
  .exact ⟨aM l R (by rw[t,g]),aM u T (by rw[p,i]),t,p⟩
  .exact ⟨l.filter _,u.filter _,t,p⟩
  .exact ⟨l.filter _,u.filter _,t,p⟩
  .exact ⟨aM R (cN l) (by rw[g];exact t.symm),aM T (cN u) (by rw[i];exact p.symm),g,i⟩
 | @join n x y a b j I hx hy h J P =>
  rw[zj,I];obtain⟨l,u,t,p⟩:=J;obtain⟨R,T,g,i⟩:=P;simp[opI,j,map2,uf,t,p,g,i,h,vE];exact⟨GR.join C l R zOm zOm,GR.join C u T zOm zOm,by simp[joR,t,g],by simp[joR,p,i]⟩
 |prod j I hx hy h J P =>
  rw[zj,I];obtain⟨l,u,t,p⟩:=J;obtain⟨R,T,g,i⟩:=P;simp[opI,j,map2,wh,t,p,g,i,h,vE];exact⟨GR.prod C l R zOm,GR.prod C u T zOm,by simp[prR,t,g],by simp[prR,p,i]⟩
 |compr j I hx U =>
  rw[zj,I];obtain⟨l,u,t,p⟩:=U;simp[opI,j];exact⟨GR.nil zOm zOm,u,rfl,p⟩
end
end KB
namespace G5
open E4 E9 EO EQ
theorem Kf(sc)(g:GSc sc)(n:Nat)(P:n<=1000000):qg qc 132 [eSc sc,aI n] (aI (sumI (sc.sC.take n))):=by
 have R:=g.1;refine qSU call132 func132 rfl ?_;refine qk.up (min n sc.sC.length) (fun k U=>U.tm 1=aI n/\U.tm 2 = .ip [lI sc.sC,aI sc.sN]/\U.tm 5=aI (sumI (sc.sC.take k))/\U.tm 6=aI k) ?_ ?_
 .simp [go_sem,sumI]
 rintro k U T ⟨l,I,o,p⟩;by_cases j:k<n
 .by_cases i:k<sc.sC.length
  .have J:=Qr sc.sC k i
   have t:=g.sum (k+1);rw[J]at t;simp[go_sem,l,I,o,p,j,i]
   grind [yi]
  .have e:sc.sC.take n=sc.sC.take k:=by rw[zY zOm,zY zOm]
   rw[e];simp[go_sem,l,I,o,p,j,i];exact .zsc _
 .have C:k=n:=by omega
  subst C;simp[go_sem,l,o,p];exact .zsc _
theorem Kg(sc)(g:GSc sc):qg qc 65 [eSc sc] (aI (sumI sc.sC)):=by
 have i:=g.1;have h:=Kf sc g sc.sC.length zOm;rw[zi]at h;refine qSU call65 func65 rfl ?_;refine fR h (.zk (zD _) (.zs .nil)) ?_;exact .zsc _
theorem Qb(n:Int)(g:0<=n)(i:n<=20):∀ k,k<=3->0<=n ^ k/\n ^ k<=8000
 | 0,_=>zSp
 | 1,_=>by rw[show n ^ 1=n by rw[Int.pow_succ,Int.pow_zero,Int.one_mul]];omega
 | 2,_=>by
  have:n*n<=20*20:=jl i i g zOm;have j:=Int.mul_nonneg g g;rw[show n ^ 2=n*n by grind];omega
 | 3,_=>by
  have j:n*n<=20*20:=jl i i g zOm;have l:=Int.mul_nonneg g g;have o:n*n*n<=400*20:=jl j i g zOm;simp_all[Int.mul_nonneg,Int.pow_succ,Int.pow_zero,Int.one_mul]
 |k+4,h=>zOm
theorem qa1(sc)(g:GSc sc)(n:Nat)(P:n<=3):qg qc 134 [eSc sc,aI n] (aI (sumI sc.sC ^ n)):=by
 have j:=g.sum sc.sC.length;rw[zi]at j;refine qSU call134 func134 rfl ?_;refine qk.up n (fun k U=>U.tm 1=aI n/\U.tm 2 = .ip [lI sc.sC,aI sc.sN]/\U.tm 5=aI (sumI sc.sC ^ k)/\U.tm 6=aI k) ?_ ?_
 .simp [go_sem]
 rintro k U R ⟨l,t,C,o⟩;by_cases i:k<n
 .have I:=Qb (sumI sc.sC) j.1 j.2 (k+1) zOm
  have e:sumI sc.sC ^ (k+1)=sumI sc.sC ^ k*sumI sc.sC:=Int.pow_succ ..;rw[e]at I;have J:(k:Int)<3:=zOm;simp[go_sem,l,t,C,o,i,J];refine tU (Kg sc g) (.zk (zD _) .nil) ?_;simp[go_sem,l,t,o,i]
  grind [yi]
 .have p:k=n:=by omega
  subst p;simp[go_sem,l,C,o];exact .zsc _
theorem qa2(l x)(g:∀ a,a∈l->0<=a):∀ k i,k<=l.length->sumI (l.take k)<=x->vP l x i=vP (l.drop k) (x-sumI (l.take k)) (i+k):=by
 intro k;induction k with
 |zero=>grind [sumI]
 |succ k j =>
  intro i p t;have o:=Qr l k zOm;have C:=g _ (qt (show k<l.length by omega));rw[j i zOm zOm,qaE l k _ _ zOm,zIn,o]
  grind
theorem qlY(sc)(g:GSc sc)(x:Nat)(hx:x<=1000):qg qc 197 [eSc sc,aI x] (aI (vQ sc x)):=by
 have hl:=g.1;have l:∀ a,a∈sc.sC->0<=a:=fun a T=>(g.2 a T).1
 refine qSU call197 func197 rfl ?_;refine qk.up sc.sC.length (fun k U=>U.tm 1=aI x/\U.tm 2 = .ip [lI sc.sC,aI sc.sN]/\U.tm 5=aI k/\sumI (sc.sC.take k)<=x) ?_ ?_
 .simp [go_sem,sumI]
 rintro k U J ⟨t,p,o,C⟩;by_cases j:k<sc.sC.length
 .have hs:=Qr sc.sC k j
  have i:=qa2 sc.sC x l k 0 J C;rw[qaE sc.sC k _ _ j]at i;have P:ql.wrap ((k:Int)+1)=((k+1:Nat):Int):=by grind [yi]
  simp[go_sem,t,p,o,j];refine tU (Kf sc g k zOm) (.zk (zD _) (.zs .nil)) ?_;simp[go_sem,t,p,o,C,P];refine tU (Kf sc g (k+1) zOm) (.zk (zD _) (.zs .nil)) ?_;by_cases R:(x:Int)<sumI (sc.sC.take (k+1))
  .have e:vQ sc x=k:=by
    unfold vQ;rw[i,if_pos zOm];omega
   rw[e];simp[go_sem,o,R];exact .zsc _
  .simp [go_sem,t,p,o,j,R,P]
   omega
 .have I:k=sc.sC.length:=by omega
  subst I;have e:vQ sc x = -1:=by
   unfold vQ;rw[qa2 sc.sC x l sc.sC.length 0 J C,zU];rfl
  rw[e];simp[go_sem,p,o];exact .zsc _
def digs(n:Int):Nat->Int->List Int
 | 0,_=>[]
 |k+1,r=>digs n k (r / n)++[r % n]
theorem Yx(n):∀ k r,(digs n k r).length=k
 | 0,_=>rfl
 |k+1,r=>by rw[digs,zh,Yx n k];rfl
theorem qa3(n):∀ j x,divN n (x / n) j=divN n x (j+1)
 | 0,x=>rfl
 |j+1,x=>by rw[divN,qa3 n j x];rfl
theorem qa4(n):∀ j r,digs n (j+1) r=(divN n r j % n) :: digs n j r
 | 0,r=>by simp[digs,divN]
 |j+1,r=>by
  rw[digs,qa4 n j (r / n),qa3,yL];rfl
theorem Kh(n r)(i:0<n)(g:0<=r):∀ j,0<=divN n r j/\divN n r j<=r
 | 0=>⟨g,by simp[divN]⟩
 |j+1=>by
  have:=Kh n r i g j;rw[divN];have l:=Int.ediv_le_self n this.1;exact⟨Int.ediv_nonneg this.1 zOm,zOm⟩
theorem qlZ{mu b cells ds}(o:mu[b]?=some (.arr cells))(h:∀ i (I:i<ds.length),cells[i]?=some (aI ds[i])):Rd mu (.sl b 1 0 ds.length) (lI ds):=by
 refine .sl b 1 0 ds.length cells (ds.map rI) o ?_ zSp (fun r p=>by obtain⟨x,_,rfl⟩:=qn.1 p;rfl) fun k x y g l=>?_
 .grind
 .rw [yM]at g
  rw[GD.u9,zB,um]at l;obtain⟨z,t,rfl⟩:=l;have C:=(qh.1 t);obtain⟨j,rfl⟩:=C;rw[h k j]at g;cases g;exact .zsc _
theorem ql0(sc)(g:GSc sc)(hp:0<sumI sc.sC)(k:Nat)(hk:k<=3)(r:Nat)(hr:(r:Int)<sumI sc.sC ^ k):qg qc 135 [eSc sc,aI k,aI r] (lI (digs (sumI sc.sC) k r)):=by
 have hs:=g.sum sc.sC.length;rw[zi]at hs;have a7:=Qb (sumI sc.sC) hs.1 hs.2 k hk;refine qSV call135 func135 rfl ?_;have a0:¬(3:Int)<k:=zOm;have a1:¬(k:Int)<0:=zOm;have a2:¬(r:Int)<0:=zOm;simp[go_sem,a0,a1,a2];refine tU (qa1 sc g k hk) (.zk (zD _) (.zs .nil)) ?_;have a3:¬sumI sc.sC ^ k<=(r:Int):=zOm;simp[go_sem,a3];refine tU (Kg sc g) (.zk (zD _) .nil) ?_;generalize hN:sumI sc.sC=N at *
 have w0:ql.wrap ((k:Int)-1)=(k:Int)-1:=zWr;simp[go_sem,w0];refine tV (fun m U=>∃ j:Nat,m=k-j/\j<=k/\U.tm 1=aI k/\U.tm 7 = .sl 0 1 0 3/\U.tm 8=aI N/\U.tm 9=aI (divN N r j)/\U.tm 10=aI ((k:Int)-1-j)/\∃ c0 c1 c2,U.mu=[.arr [aI c0,aI c1,aI c2]]/\∀ i (J:i<j),[c0,c1,c2][k-j+i]?=some ((digs N j r)[i]'(by rw[Yx];exact J))) k ?_ ?_
 .exact ⟨0,zOm,zOm,zSi,zSi,zSi,by simp[go_sem,divN],zSi,0,0,0,zSi,fun i J=>zOm⟩
 rintro m U ⟨j,rfl,hj,T,e7,P,e9,o,c0,c1,c2,hm,hc⟩;by_cases a8:j<k
 .obtain ⟨d,rfl⟩:∃ d:Nat,k=j+1+d:=⟨k-(j+1),zOm⟩
  have p:d=0\/d=1\/d=2:=zOm;have ex:(((j+1+d:Nat):Int)-1-j)=(d:Int):=zOm;rw[ex]at o;have R:=Kh N r hp zOm j;have a9:(r:Int)<=8000:=zOm;have hq:(divN N r j).tdiv N=divN N r (j+1):=by rw[divN,Int.tdiv_eq_ediv_of_nonneg R.1]
  have t:(divN N r j).tmod N=divN N r j % N:=Int.tmod_eq_emod_of_nonneg R.1;have a6:=Kh N r hp zOm (j+1);have w1:ql.wrap (divN N r (j+1))=divN N r (j+1):=zWr;have C:¬N=0:=zOm;have aa:(digs N (j+1) r)=(divN N r j % N) :: digs N j r:=qa4 N j r;have a4:=Yx N j r;rcases p with p|p|p
  .have l:U.tm 10=aI 0:=by rw[o,p];rfl
   have w2:ql.wrap (-1) = -1:=zWr;simp[go_sem,e7,P,e9,l,hm,C,hq,t,w1,w2];refine Keep.loop (j+1+d-(j+1)) zOm ⟨j+1,rfl,zOm,zS1 T,by simp[go_sem,e7],zS1 P,zSi,by simp[go_sem];omega,divN N r j % N,c1,c2,zSi,fun i J=>?_⟩
   grind
  .have l:U.tm 10=aI 1:=by rw[o,p];rfl
   have w2:ql.wrap (0)=0:=zWr;simp[go_sem,e7,P,e9,l,hm,C,hq,t,w1,w2];refine Keep.loop (j+1+d-(j+1)) zOm ⟨j+1,rfl,zOm,zS1 T,by simp[go_sem,e7],zS1 P,zSi,by simp[go_sem];omega,c0,divN N r j % N,c2,zSi,fun i J=>?_⟩
   grind
  .have l:U.tm 10=aI 2:=by rw[o,p];rfl
   have w2:ql.wrap (1)=1:=zWr;simp[go_sem,e7,P,e9,l,hm,C,hq,t,w1,w2];refine Keep.loop (j+1+d-(j+1)) zOm ⟨j+1,rfl,zOm,zS1 T,by simp[go_sem,e7],zS1 P,zSi,by simp[go_sem];omega,c0,c1,divN N r j % N,zSi,fun i J=>?_⟩
   grind
 .have a5:j=k:=by omega
  subst a5;have hn:¬(j:Int)<=(j:Int)-1:=zOm;have h3:(j:Int)<=3:=zOm;simp[go_sem,T,e7,o,hm,hn,h3];have a4:=Yx N j r;have:=qlZ (mu:=[.arr [aI c0,aI c1,aI c2]]) (b:=0) (cells:=[aI c0,aI c1,aI c2]) (ds:=digs N j r) rfl fun i J=>by
   have:=hc i zOm;rw[Nat.sub_self,yM]at this;rw[show [aI c0,aI c1,aI c2]=[c0,c1,c2].map aI from rfl,zB,this];rfl
  grind
def fitB(sc:Sc)(ds g:List Int):Bool:=allN (fun i=>decide (vQ sc (gI ds i)=gI g i)) g.length
theorem ql1(sc)(g:GSc sc)(ds j)(hl:ds.length=j.length)(a0:j.length<=3)(hd:∀ d,d∈ds->0<=d/\d<=1000):qg qc 136 [eSc sc,lI ds,lI j] (aB (fitB sc ds j)):=by
 refine qSU call136 func136 rfl ?_;refine qk.up j.length (fun k U=>U.tm 1=lI ds/\U.tm 2=lI j/\U.tm 3 = .ip [lI sc.sC,aI sc.sN]/\U.tm 7=aI k/\∀ i,i<k->vQ sc (gI ds i)=gI j i) ?_ ?_
 .simp [go_sem]
 rintro k U hk ⟨J,p,P,e7,hi⟩;by_cases l:k<j.length
 .have o:k<ds.length:=by omega
  have t:=hd ds[k] (qt o);obtain⟨d,C⟩:=Int.eq_ofNat_of_zero_le t.1;simp[go_sem,p,e7,l];refine tR zKr ?_;simp[go_sem,J,P,e7,o];have R:=qlY sc g d zOm;rw[<-C]at R;refine tU R (.zk (zD _) (.zs .nil)) ?_;have g1:gI ds k=ds[k]:=j9 o;have g2:gI j k=j[k]:=j9 l;by_cases T:vQ sc ds[k]=j[k]
  .simp [go_sem,J,p,P,e7,l,T]
   refine⟨zWr,fun i a1=>?_⟩;by_cases h:i=k
   .grind
   grind
  .have hf:fitB sc ds j=false:=qiT l (by grind)
   rw[hf];simp[go_sem,p,e7,l,T];exact .zsc _
 .have I:k=j.length:=by omega
  subst I;have hf:fitB sc ds j=true:=Uc.2 fun i h=>by grind
  rw[hf];simp[go_sem,p,e7];exact .zsc _
theorem Ki(n)(i:0<n)(g:n<=20):∀ k r,∀ d,d∈digs n k r->0<=d/\d<=1000
 | 0,_,d,h=>by simp[digs]at h
 |k+1,r,d,h=>by
  rw[digs,qO]at h;rcases h with h|h
  .exact Ki n i g k _ d h
  .rw [qS]at h;subst h
   have j:=Int.emod_nonneg r (show n≠0 by omega);have l:=Int.emod_lt_of_pos r i;omega
def jW(sc:Sc)(g:List Int)(r:Nat):List Int:=((qs r).filter fun k:Nat=>fitB sc (digs (sumI sc.sC) g.length k) g).map fun k:Nat=>(k:Int)
theorem ql2(sc g r):jW sc g (r+1)=jW sc g r++(if fitB sc (digs (sumI sc.sC) g.length r) g then [(r:Int)] else []):=by
 unfold jW;rw[List.range_succ,List.filter_append,List.map_append];by_cases h:fitB sc (digs (sumI sc.sC) g.length r) g=true<;>simp[h]
theorem qa5(sc g r):(jW sc g r).length<=r:=by
 grind [List.length_filter_le,fitB,digs,sumI,qs,List.length_range,jW]
theorem qa6(sc g r):(jW sc g r).Pairwise (·<·):=by
 unfold jW;rw[List.pairwise_map];exact(List.pairwise_lt_range.filter _).imp fun h=>zOm
theorem ql3(sc g r):∀ x,x∈jW sc g r->0<=x/\x<r:=fun x i=>by
 obtain⟨k,j,rfl⟩:=qn.1 i;have:=ye.1 (y5.1 j).1;omega
def yJ(sc:Sc)(g:List Int):List Int:=jW sc g (sumI sc.sC ^ g.length).toNat
theorem ql4(sc)(g:GSc sc)(hp:0<sumI sc.sC)(i:List Int)(h1:1<=i.length)(h3:i.length<=3)(hs:∀ s,s∈i->0<=s/\s<sc.sC.length):qg qc 67 [eSc sc,lI i] (eRel ⟨i.length,yJ sc i⟩):=by
 have P:=g.sum sc.sC.length;rw[zi]at P;have a3:=Qb (sumI sc.sC) P.1 P.2 i.length h3;obtain⟨R,hR⟩:=Int.eq_ofNat_of_zero_le a3.1;have a4:yJ sc i=jW sc i R:=by rw[yJ,hR];rfl
 refine qSV call67 func67 rfl ?_;have n1:¬(i.length:Int)<1:=zOm;have n3:¬(3:Int)<(i.length:Int):=zOm;simp[go_sem,n1,n3];refine qk.up i.length (fun k U=>U.tm 1=lI i/\U.tm 2 = .ip [lI sc.sC,aI sc.sN]/\U.tm 4 = .ptr 0 0/\U.tm 5=aI i.length/\U.tm 6=aI k/\U.mu=[.arr [aI 0,.lst true []]]) ?_ ?_
 .simp [go_sem]
 rintro k U hk ⟨e1,I,e4,C,e6,hm⟩;by_cases o:k<i.length
 .have a6:=hs i[k] (qt o)
  have m1:¬i[k]<0:=zOm;have m2:¬(sc.sC.length:Int)<=i[k]:=zOm;simp[go_sem,C,e6,hm,o];refine tR zKr ?_;simp[go_sem,e1,I,e4,C,e6,o,m1,m2]
  grind [yi]
 have T:k=i.length:=zOm;subst T;simp[go_sem,C,e6,hm];refine tV (fun m U=>∃ k t j,m=R-k/\k<=R/\U.tm 1=lI i/\U.tm 2 = .ip [lI sc.sC,aI sc.sN]/\U.tm 4 = .ptr 0 0/\U.tm 5=aI i.length/\U.tm 7 = .ptr 1 0/\U.tm 8=aI (k:Nat) /\
  U.mu=[.arr [aI 0,.lst true []],.arr [aI i.length,t]]++j/\OwnF 2 ([.dead,.dead]++j) 1 t ((jW sc i k).map rI)) R ?_ ?_
 .exact ⟨0,.lst true [],[],zOm,zOm,zS1 e1,zS1 I,zS1 e4,zS1 C,zSi,zSi,zSi,by grind [jW,OwnF.nil]⟩
 rintro m U ⟨k,t,j,rfl,hk,e1,I,e4,C,e7,e8,hm,ho⟩;have ho:=ho.low (low:=[.dead,.dead]) (low':=[.arr [aI 0,.lst true []],.arr [aI i.length,t]]) rfl;simp[go_sem,I,C,e8,hm];refine tU (qa1 sc g i.length h3) (.zk (zD _) (.zs .nil)) ?_;rw[hR];by_cases o:k<R
 .simp [go_sem,I,C,e8,o]
  refine tU (ql0 sc g hp i.length h3 k zOm) (.zk (zD _) (.zs (.zs .nil))) ?_;simp[go_sem,e1,I];refine tU (ql1 sc g _ i (Yx _ _ _) h3 (Ki _ hp zOm _ _)) (.zk (zD _) (.zk (zC _) (.zk (zC _) .nil))) ?_;have a0:=ql2 sc i k;have a7:=qa5 sc i k;cases hb:fitB sc (digs (sumI sc.sC) i.length k) i with
  |false =>
   rw[hb]at a0;simp[go_sem,e8];refine Keep.loop (R-(k+1)) zOm ⟨k+1,t,j,rfl,zOm,zS1 e1,zS1 I,zS1 e4,zS1 C,by simp[go_sem,e7],?_,zSi,?_⟩
   .simp [go_sem];grind [yi]
   grind
  |true =>
   rw[hb]at a0;simp[go_sem,e7,e8];refine fU (low:=[.arr [aI 0,.lst true []],.arr [aI i.length,t]]) (e:=3) (bt:=8) (z:=0) (xs:=jW sc i k) (ys:=[(k:Int)]) zSi zSi zSi zOm ho (by simp[qA]) zSo ?_;intro a5 a1 a2;simp[go_sem,e7,e8,a2.cells,a2.one];refine Keep.loop (R-(k+1)) zOm ⟨k+1,a5,a1,rfl,zOm,zS1 e1,zS1 I,zS1 e4,zS1 C,by simp[go_sem,e7],?_,zSi,?_⟩
   .simp [go_sem];grind [yi]
   .rw [a0]
    simpa[go_sem] using a2.low (low':=[.dead,.dead]) rfl
 .have T:k=R:=by omega
  subst T;simp[go_sem,e4,e7,ho.one];rw[a4];exact Rd.rel (r:=⟨i.length,jW sc i k⟩) (ho.low (low:=[.arr [aI 0,.lst true []],.arr [aI i.length,t]]) (low':=[.arr [aI i.length,t],.arr [aI i.length,t]]) rfl).rdI
end G5
namespace GM
end GM
namespace GP
open P1 G5
def defB(ts:TS)(sc:Sc):List Bd:=ts.sA.map fun f=>⟨⟨f.sS.length,[]⟩,⟨f.sS.length,yJ sc f.sS⟩⟩
end GP
namespace GQ
def UL(sc:Sc):Bool:=decide (sc.sC.length<=4)&&(decide (1<=sc.sN)&&(decide (sc.sN<=4)&&(sc.sC.all (fun a=>decide (1<=a)&&decide (a<=5))&&decide (sumI sc.sC<=12))))
end GQ
namespace GR
open P1 E4 EO EQ F4 G5
section
variable {xs:List (List AV)}{mu:Mu}
theorem jB.ownB{P}{t g e sz bt:Nat}{s x ys zv K}(T:qH P t=some (e,sz,bt))(j:(qH P g).isSome=true)(U:qC P e=some zv)
  (l:zv.cells.length=sz) (o:zv.cells.all AV.one=true) (p:sz≠0) (hb:bt<=16384) (ho:Own mu sz s xs) (hx:qA mu x=some ys) (J:qW sz xs) (wy:qW sz ys) (R:xs.length+ys.length<=4294967296)
  (k:∀ av mu',Own mu' sz av (xs++ys)->(∀ i,i<mu.length->qu s≠some i->mu'[i]?=mu[i]?)->(∀ b,qu av=some b->b=mu.length)->mu.length<=mu'.length->(ys≠[]->∃ b,qu av=some b)->K av mu'):jB P mu #[t,g] s x K:=by
 refine⟨t,g,e,sz,bt,ys,rfl,T,j,⟨zv,U,l,o⟩,p,hb,hx,wy,?_⟩;rcases ho with rfl|⟨b,rfl,hc⟩
 .refine .inl ⟨xs,rfl,J,R,fun h=>?_,fun h=>?_⟩
  .subst h
   exact k _ _ (.inl zSp) (fun _ _ _=>rfl) (fun b h=>by cases h) (qj _) (fun h=>absurd rfl h)
  .refine k _ _ (.inr ⟨mu.length,zSp,zSp⟩) (fun i C _=>?_) (fun b h=>by cases h;rfl) zSp (fun _=>⟨_,rfl⟩)
   rw[qG C]
 .have a0:=ym J.ok
  refine .inr ⟨b,xs.length,xs.flatten,rfl,hc,zOm,R,?_⟩;have a1:xs.flatten.take (xs.length*sz)=xs.flatten:=zY zOm;refine k _ _ (.inr ⟨mu.length,zSp,?_⟩) (fun i C I=>?_) (fun b h=>by cases h;rfl) zSp (fun _=>⟨_,rfl⟩)
  .grind
  .rw [qG (zUs C)]
   rw[zH (fun e=>I (by rw[e];rfl))]
theorem cM{P}{t t' e sz bt:Nat}{s y}(j){zv full K}(R)(hs:qH P t=some (e,sz,bt))(o:(qH P t').isSome=true)(hz:qC P e=some zv)
  (p:zv.cells.length=sz) (C:zv.cells.all AV.one=true) (I:sz≠0) (l:bt<=16384) (ho:Own mu sz s xs) (J:∀ b,qu s=some b->b<R) (T:Rds (cutM (fun i=>decide (R<=i)) mu 0) y j) (wx:qW sz xs) (wy:qW sz [j]) (hl:xs.length+1<=4294967296)
  (k:∀ av mu',Own mu' sz av (xs++[j])->(∀ i,i<mu.length->i<R->qu s≠some i->mu'[i]?=mu[i]?)->(∀ b,qu av=some b->b=mu.length)->mu.length<=mu'.length->(∃ b,qu av=some b)->K av mu'):qw P mu #[t,t'] s (.lst full [y]) K:=by
 have cg:∀ i,i<R->(cutM (fun i=>!decide (R<=i)) mu 0)[i]?=mu[i]?:=fun i hi=>by
  simp_all[j5,yM,decide_eq_false,Bool.not_false,if_true]
 have g:Rd (cutM (fun i=>decide (R<=i)) mu 0) (.lst full [y]) (.lst full [j]):=by
  obtain⟨h1,h2⟩:=T.get;refine .lst full _ _ rfl (fun k a b ha l=>?_) (fun k a b ha l=>?_)
  .grind
  grind
 have U:Own (cutM (fun i=>!decide (R<=i)) mu 0) sz s xs:=by
  rcases ho with h|⟨b,h,hc⟩
  .exact .inl h
  .exact .inr ⟨b,h,by rw[cg b (J b (by rw[h];rfl))];exact hc⟩
 refine .inr (.inl ⟨_,_,g,jB.ownB hs o hz p C I l U rfl wx wy hl fun av mu' h1 h2 h3 h4 h5=>k av mu' h1 (fun i hi hR a0=>?_) (fun b l=>?_) ?_ (h5 zSp)⟩)
 .grind
 .grind [jC]
 grind [jC]
theorem Kj{J:Type}{f g}:∀{l:List J},(∀ a,a∈l->Rds mu (f a) (g a))->∀(k:Nat) x y,(l.map f).flatten[k]?=some x->(l.map g).flatten[k]?=some y->Rd mu x y
 | [],_,k,x,y,i,_=>by simp at i
 |a :: l,h,k,x,y,i,j=>by
  obtain⟨o,p⟩:=(h a (qZ ..)).get;simp only[za,List.flatten_cons]at i j;by_cases t:k<(f a).length
  .rw [qG t]at i
   rw[zGa]at j;exact p k x y i j
  .rw [yd zOm]at i
   rw[yd zOm,o]at j;exact Kj (fun b C=>h b (qN _ C)) _ x y i j
theorem cD{J:Type}{sz av f g}{l:List J}(h:Own mu sz av (l.map f))(wf:ja sz (l.map f))(j:ja sz (l.map g))(p:∀ a,a∈l->Rds mu (f a) (g a)):Rd mu av (.lst false (l.map g)):=by
 rcases h with rfl|⟨b,rfl,t⟩
 .refine .wk _ true _ (.lst true _ _ zSp (fun k x y i o=>?_) (Kj p))
  rw[wf x (qQ i),j y (qQ o)]
 .refine .sl b sz 0 _ _ _ t (zW1 (ym wf)) zSp j (fun k x y i o=>?_)
  rw[yM]at i
  grind [Kj]
theorem Kk:∀{l},l≠[]->(∀ a,a∈l->1<=a)->1<=sumI l
 | [],h,_=>absurd rfl h
 | [a],_,h=>by simp_all[sumI]
 |a :: b :: l,_,h=>by
  have j:=h a zSp;have g:=Kk (l:=b :: l) zSp fun x i=>h x (qN _ i)
  simp only[sumI,List.foldr_cons]at g⊢;omega
structure Fit9 (ts:TS) (sc:Sc):Prop where
 g:GSc sc
 p:0<sumI sc.sC
 nf:ts.sA.length<=6
 ns:ts.sS.length=sc.sC.length
 s1:1<=sc.sN
 s4:sc.sN<=4
 f1:∀ f,f∈ts.sA->1<=f.sS.length/\f.sS.length<=3
 fs:∀ f,f∈ts.sA->∀ s,s∈f.sS->0<=s/\s<sc.sC.length
def rowD(sc:Sc)(f:Fld):List AV:=[aI f.sS.length,.lst true [],aI f.sS.length,lI (yJ sc f.sS)]
theorem Kl(sc)(l:List Fld):qW 4 (l.map (rowD sc)):=fun r g=>by
 obtain⟨n,_,rfl⟩:=qn.1 g;exact⟨rfl,rfl⟩
theorem qa7{R sz av}(h:Own mu sz av xs)(g:∀ b,qu av=some b->R<=b):Own (cutM (fun i=>decide (R<=i)) mu 0) sz av xs:=by
 rcases h with h|⟨b,h,j⟩
 .exact .inl h
 .refine .inr ⟨b,h,?_⟩
  rw[j5,j];simp[g b (by rw[h];rfl)]
end
end GR
namespace GS
open P1 GB
def fixS(g:List Bool)(i l:List Rl)(j:Nat):List Rl:=l.mapIdx fun f r=>if f<j/\g.getD f true=false then i.getD f noR else r
theorem ql5(i j g):fixS i j g 0=g:=by
 refine jZ fun f=>?_
 simp[fixS]
theorem ql6(i l g j):(fixS i l g j).length=g.length:=by simp[fixS]
theorem ql7(i o g j)(h:j<g.length):fixS i o g (j+1)=if i.getD j true=false then (fixS i o g j).set j (o.getD j noR) else fixS i o g j:=by
 refine jZ fun f=>?_
 by_cases l:i.getD j true=false
 .rw [if_pos l,List.getElem?_set]
  simp only[fixS,List.getElem?_mapIdx,List.length_mapIdx];by_cases hf:j=f
  .subst hf
   rw[if_pos rfl,if_pos h,qB h];simp only[zd,Nat.lt_succ_self,l,and_self,if_true]
  .rw [if_neg hf]
   cases g[f]? with
   |none=>rfl
   |some r=>simp only[zd];congr 1;by_cases p:f<j<;>simp[p,show (f<j+1)=(f<j) by simp;omega]
 .rw [if_neg l]
  simp only[fixS,List.getElem?_mapIdx];cases g[f]? with
  |none=>rfl
  |some r =>
   simp only[zd];congr 1;by_cases hf:f=j
   .subst hf;rw[if_neg (fun h=>l h.2),if_neg (fun h=>l h.2)]
   .by_cases p:f<j<;>simp[p,show (f<j+1)=(f<j) by simp;omega]
abbrev vsT(ts:TS):List Bool:=ts.sA.map fun f=>f.var
end GS
namespace GG
@[go_sem ↓] theorem qvW(P pl l Q o k r T st i op ty pos after j g) :
  segO P pl l Q o k r T st (some ⟨i,op,ty,pos,after,some (j,g)⟩)=JD ((l[j]?).bind (·.dst)) st g (fun st=>segO P pl l Q o k r T st (some ⟨i,op,ty,pos,after,none⟩)) (fun st=>awpT P pl l.toArray Q o T (st.put i (.sc uk) st.mu)):=by
 simp only[segO,yB,JD,List.getElem?_toArray]
 grind [brK,BrS,OptK,Br]
end GG
namespace GH
end GH
namespace GU
abbrev Ch:=Int×Int×Int
def selT(g:List Ch)(s f:Nat):List Int:=(g.filter fun c:Ch=>decide (c.1=(s:Int))&&decide (c.2.1=(f:Int))).map fun c=>c.2.2
end GU
namespace GN
open E3
instance:DecidableEq Sc:=fun a b=>decidable_of_iff (a.sC=b.sC/\a.sN=b.sN) (by
 obtain⟨a1,a2⟩:=a;obtain⟨b1,b2⟩:=b;simp)
instance:DecidableEq Md:=fun a b=>decidable_of_iff (a.sc=b.sc/\a.sK=b.sK/\a.loop=b.loop) (by
 obtain⟨a1,a2,a3⟩:=a;obtain⟨b1,b2,b3⟩:=b;simp)
end GN
namespace GV
end GV
namespace GW
open YF P1 E1 E4 E9 EL EO ER EW GA GF G5 GR
theorem qa8:∀ l x i,0<=x->vP l x i = -1\/∃(j:Nat) (h:j<l.length),vP l x i=i+j/\0<=x-sumI (l.take j)/\x-sumI (l.take j)<l[j]
 | [],x,i,_ => .inl rfl
 |a :: l,x,i,h=>by
  rw[vP];by_cases g:x<a
  .grind [sumI]
  .rw [if_neg g]
   rcases qa8 l (x-a) (i+1) zOm with e|⟨j,o,p,t,C⟩
   .exact .inl e
   .refine .inr ⟨j+1,zUs o,by rw[p];push_cast;omega,?_,?_⟩
    .simp only[List.take_succ_cons,sumI,List.foldr_cons]at t⊢;omega
    .simp only[List.take_succ_cons,sumI,List.foldr_cons,List.getElem_cons_succ]at C⊢;omega
def yR(n:Int)(ds:List Int)(p:Int):Int:=ds.foldl (fun p d=>p*n+d) p
theorem qa9(n)(i:0<n):∀ k r,0<=r->r<n ^ k->yR n (digs n k r) 0=r
 | 0,r,j,g=>by
  have:r=0:=by rw[Int.pow_zero]at g;omega
  subst this;rfl
 |k+1,r,j,g=>by
  have l:r / n<n ^ k:=Int.ediv_lt_of_lt_mul i (by rw[<-Int.pow_succ];exact g);rw[digs,yR,List.foldl_append];show yR n (digs n k (r / n)) 0*n+r % n=r;rw[qa9 n i k (r / n) (Int.ediv_nonneg j zOm) l,Int.mul_comm];exact Int.mul_ediv_add_emod r n
theorem qbA(sc)(P:∀ a,a∈sc.sC->0<=a):∀(l ds:List Int)(p),ds.length=l.length->(∀ s,s∈l->0<=s)->(∀(i h)(h2:i<l.length),0<=ds[i]/\vQ sc ds[i]=l[i])->yR (sumI sc.sC) ds p∈tupR sc l p
 | [],[],p,_,_,_=>by simp[tupR,yR]
 |s :: l,d :: ds,p,o,J,h=>by
  rw[tupR,vZ];obtain⟨t,g⟩:=h 0 zSp zSp;simp only[List.getElem_cons_zero]at t g;have R:=J s zSp;rcases qa8 sc.sC d 0 t with e|⟨j,T,U,e2,e3⟩
  .rw [vQ,e]at g;omega
  .rw [vQ,U]at g
   have C:s.toNat=j:=zOm;have hg:gI sc.sC s.toNat=sc.sC[j]:=by rw[C];exact j9 T
   refine⟨(d-sumI (sc.sC.take j)).toNat,ye.2 (by rw[hg];omega),?_⟩;have:=qbA sc P l ds (p*sumI sc.sC+d) (zUs o) (fun s hs=>J s (zP1 hs)) (fun i hi I=>h (i+1) (zUs hi) (zUs I));rw[C,show sumI (sc.sC.take j)+((d-sumI (sc.sC.take j)).toNat:Int)=d by omega];exact this
 | [],_ :: _,_,o,_,_=>by simp at o
 |_ :: _,[],_,o,_,_=>by simp at o
theorem qbB(sc)(g:GSc sc)(C:0<sumI sc.sC)(l:List Int)(J:l.length<=3)(P:∀ s,s∈l->0<=s/\s<sc.sC.length):∀ x,x∈yJ sc l->x∈tupR sc l 0:=fun x I=>by
 have j:=g.sum sc.sC.length;rw[zi]at j;have R:=Qb (sumI sc.sC) j.1 j.2 l.length J;unfold yJ jW at I;obtain⟨r,T,rfl⟩:=qn.1 I;obtain⟨U,h2⟩:=y5.1 T;rw[ye]at U;have o:(r:Int)<sumI sc.sC ^ l.length:=zOm;have hf:=qa9 (sumI sc.sC) C l.length r zOm o;have hm:=qbA sc (fun a ha=>(g.2 a ha).1) l (digs (sumI sc.sC) l.length r) 0 (Yx _ _ _) (fun s p=>(P s p).1) (fun i hi t=>?_)
 .grind
 .have hd:=Ki (sumI sc.sC) C j.2 l.length r _ (qt hi)
  refine⟨hd.1,?_⟩;have:=Uc.1 h2 i t
  grind [j9]
theorem ql8(n)(r:Rl)(T:0<=n)(a0:n<=12)(k:Nat)(hk:r.ar=k)(k1:1<=k)(k3:k<=3)(hl:r.ts.length<=1000000000)(hs:r.ts.Pairwise (·<·))(ht:∀ t,t∈r.ts->0<=t/\t<n ^ k):qg qc 54 [aI n,eRel r] (aB true):=by
 have C:=mG n T zOm k k3;refine qSV call54 func54 rfl ?_;have n1:¬n<0:=zOm;have n2:¬ 12<n:=zOm;have n3:¬r.ar<1:=zOm;have n4:¬ 3<r.ar:=zOm;simp[go_sem,n1,n2,n3,n4];refine aA r.ts.length (fun j U=>U.tm 0=aI n/\U.tm 3 = .ip [aI r.ar,lI r.ts]/\U.tm 25=lI r.ts/\U.tm 26=aI r.ts.length/\U.tm 27=aI j/\∃ last:Int,U.tm 5=aI last/\∀(i:Nat)(h:i<r.ts.length),j<=i->last<r.ts[i]) ?_ ?_
 .exact ⟨zSi,zSi,zSi,zSi,zSi,-1,zSi,fun i h _=>by grind [qt]⟩
 rintro j U hj ⟨P,R,p,l,o,last,e5,I⟩;by_cases g:j<r.ts.length
 .have w1:=zWk j
  have a1:=I j g (qj _);have a2:=ht _ (qt g);have m1:¬r.ts[j]<=last:=zOm;have m2:¬n ^ k<=r.ts[j]:=zOm;simp[go_sem,P,R,p,l,o,e5,g,m1];refine tU C (by rw[hk];exact .zs (.zs .nil)) ?_;simp[go_sem,o,g,m2,w1]
  try refine⟨g,aC ?_⟩
  try refine aC ?_
  exact⟨zS1 P,zS1 R,zS1 p,zS1 l,zSi,r.ts[j],zSi,fun i h hi=>List.pairwise_iff_getElem.1 hs j i g h zOm⟩
 .have J:j=r.ts.length:=by omega
  simp[go_sem,l,o,J];exact .zsc _
structure BndV (ts:TS) (sc:Sc) (bs:List Bd):Prop where
 len:bs.length=ts.sA.length
 lo:∀(i:Nat)(h:i<bs.length)(h2:i<ts.sA.length),bs[i].lo.ar=ts.sA[i].sS.length/\bs[i].up.ar=ts.sA[i].sS.length
 so:∀ b,b∈bs->b.lo.ts.Pairwise (·<·)/\b.up.ts.Pairwise (·<·)
 sub:∀ b,b∈bs->∀ t,t∈b.lo.ts->t∈b.up.ts
 full:∀(i:Nat)(h:i<bs.length)(h2:i<ts.sA.length),∀ t,t∈bs[i].up.ts->t∈yJ sc ts.sA[i].sS
theorem qbC{a b}(h:∀ t,t∈a.ts->t∈b.ts):(diR a b).ts=[]:=by
 grind [diR,List.filter_eq_nil_iff]
theorem qbD(sc l):∀ t,t∈yJ sc l->0<=t/\t<(sumI sc.sC ^ l.length).toNat:=fun t g=>ql3 _ _ _ t g
theorem qbE(sc)(g:GSc sc)(l)(j:l.length<=3):(yJ sc l).length<=8000:=by
 have i:=g.sum sc.sC.length;rw[zi]at i;have o:=Qb (sumI sc.sC) i.1 i.2 l.length j;refine zS (qa5 _ _ _) ?_;omega
theorem UM{a b:List Int}(g:a.Pairwise (·<·))(h:∀ t,t∈a->t∈b):a.length<=b.length:=jm (qj9 g) h
theorem relT(ts sc)(F:Fit9 ts sc)(l:sumI sc.sC<=12)(f)(hf:f∈ts.sA)(r:Rl)(o:r.ar=f.sS.length)(C:r.ts.Pairwise (·<·))(i:∀ t,t∈r.ts->t∈yJ sc f.sS):qg qc 54 [aI (sumI sc.sC),eRel r] (aB true)/\r.ts.length<=8000:=by
 have R:=UM C i;have I:=qbE sc F.g f.sS (F.f1 f hf).2;have T:=F.p;have j:=F.g.sum sc.sC.length;rw[zi]at j;have J:=Qb (sumI sc.sC) j.1 j.2 f.sS.length (F.f1 f hf).2;exact⟨ql8 _ r zOm l f.sS.length o (F.f1 f hf).1 (F.f1 f hf).2 zOm C fun t P=>zW1 (qbD sc f.sS t (i t P)),zOm⟩
theorem ql9(ts sc)(F:Fit9 ts sc)(f)(hf:f∈ts.sA)(r)(J:r.ts.length<=8000)(i:∀ t,t∈r.ts->t∈yJ sc f.sS):qg qc 55 [eRel r,eRel ⟨f.sS.length,tupR sc f.sS 0⟩] (aB true):=by
 have j:=X2 sc F.g (fun a l=>(F.g.2 a l).1) f.sS (F.fs f hf) 0;have o:=(F.f1 f hf).2;have C:(20:Nat) ^ f.sS.length<=8000:=by
  rcases (show f.sS.length=0\/f.sS.length=1\/f.sS.length=2\/f.sS.length=3 by omega) with e|e|e|e<;>rw[e]<;>decide
 have h:=inU r ⟨f.sS.length,tupR sc f.sS 0⟩ zOm (by grind)
 rwa[qbC fun t I=>qbB sc F.g F.p f.sS o (F.fs f hf) t (i t I),decide_eq_true rfl]at h
theorem qbF(fs:List Fld)(bs)(J:bs.length=fs.length)(hn:fs.length<=1000000)(p g caps)(t:p = .fn (.func g) [] caps)(P:HF p)
  (h:∀(i h1)(h2:i<bs.length),∃ args',WKs ([Xq fs[i],eBd bs[i]]++caps) args'/\qg qc g args' (aB true)) :
  qg qc 52 [.lst false (fs.map jo),lBd bs,p] (aB true):=by
 subst t;refine qSV call52 func52 rfl ?_;simp[go_sem,J];refine aA fs.length (fun k U=>U.tm 0 = .lst false (fs.map jo)/\U.tm 1=lBd bs/\U.tm 2 = .fn (.func g) [] caps/\U.tm 14=aI fs.length/\U.tm 15=aI k) ?_ ?_
 .simp [go_sem, *]
 rintro k U hk ⟨R,T,e2,l,o⟩;by_cases j:k<fs.length
 .have w1:=zWk k
  obtain⟨args',hw,hc⟩:=h k j zOm;have C:k<bs.length:=zOm;simp[go_sem,l,o,j];refine tR zKr ?_;simp[go_sem,R,T,e2,j,C];refine qe.clo hc (zUs hw) ?_;simp_all[go_sem,aC]
 .have I:k=fs.length:=by omega
  simp[go_sem,l,o,I];exact .zsc _
theorem qmA(ts sc bs)(F:Fit9 ts sc)(a0:sumI sc.sC<=12)(B:BndV ts sc bs):qg qc 19 [eTS ts,eSc sc,lBd bs] (aB true):=by
 have a8:=F.nf;have a4:∀(i:Nat)(R:i<ts.sA.length)(T:i<bs.length),qg qc 53 [Xq ts.sA[i],eBd bs[i],.ip [aI (sumI sc.sC)],.ip [lI sc.sC,aI sc.sN]] (aB true):=fun i R T=>by
  obtain⟨a1,U⟩:=B.lo i T R;have l:=qt R;have I:=qt T;obtain⟨s1,s2⟩:=B.so _ I;have J:=B.full i T R;have a5:∀ t,t∈bs[i].lo.ts->t∈yJ sc ts.sA[i].sS:=fun t ht=>J t (B.sub _ I t ht)
  obtain⟨v1,l1⟩:=relT ts sc F a0 _ l bs[i].lo a1 s1 a5;obtain⟨v2,l2⟩:=relT ts sc F a0 _ l bs[i].up U s2 J;have i1:=inU bs[i].lo bs[i].up zOm zOm;rw[qbC (B.sub _ I),decide_eq_true rfl]at i1;have i2:=ql9 ts sc F _ l bs[i].up l2 J;have a6:=EW.X3 sc F.g (fun a ha=>(F.g.2 a ha).1) ts.sA[i].sS (F.fs _ l) (F.f1 _ l).1 (F.f1 _ l).2;have w2:∀ r:Rl,WKs [aI (sumI sc.sC),eRel r] [aI (sumI sc.sC),eRel r]:=fun r => .zs (.zk (qx _) .nil)
  have wr:∀(r:Rl)(x:Int),r.ar=x->WK (.agg [aI x,lI r.ts]) (eRel r):=fun r x e=>by subst e;exact .hf (qx r)
  have wa:=wr bs[i].lo _ a1;have wb:=wr bs[i].up _ U;refine qSV call53 func53 rfl ?_;simp[go_sem,a1,U];refine tU v1 (.zs (.cons wa .nil)) ?_;simp[go_sem,U];refine fR v2 (.zs (.cons wb .nil)) ?_;refine tR zKr ?_;simp[go_sem,a1,U];refine tU i1 (.cons wa (.cons wb .nil)) ?_;simp[go_sem,U];refine fR a6 (.zk (zD _) (.zk (zC _) .nil)) ?_;refine fR i2 (.cons wb (.zk (qx _) .nil)) ?_;exact .zsc _
 have j:HF (.ip [lI sc.sC,aI sc.sN]):=HF.ip fun c p=>by simp at p;rcases p with rfl|rfl;exact zC _;exact HF.sc _
 have C:HF (.ip [aI (sumI sc.sC)]):=HF.ip fun c p=>by grind [HF.sc]
 have a3:HF (.fn (.func 53) [] [.ip [aI (sumI sc.sC)],.ip [lI sc.sC,aI sc.sN]]):=HF.fn (fun c p=>by simp at p) (fun c p=>by simp at p;rcases p with rfl|rfl;exact C;exact j);have o:=qbF ts.sA bs B.len zOm _ _ _ rfl a3 fun i R T=>⟨_,by simpa using WKs.zk (nF _) (.zk (z8 _) (.zk C (.zk j .nil))),a4 i R T⟩
 refine qSU call19 func19 rfl ?_;refine fR (ZL sc F.g) (.zk (zD sc) .nil) ?_;refine fZ (qv.freeze (args1:=[.lst false (ts.sA.map jo),lBd bs,.fn (.func 53) [] [.ip [aI (sumI sc.sC)],.ip [lI sc.sC,aI sc.sN]]]) (fun _=>true) ⟨.inl rfl,.inl rfl,.inr ?_,trivial⟩ (qg.toSound _ o (.zk (ZH ts.sA) (.zk (jd _) (.zk a3 .nil))))) ?_ ?_
 .refine .fn _ _ _ _ _ rfl rfl (fun k x y P hy=>by simp at P) (fun k x y P hy=>?_)
  match k with
  | 0=>simp at P hy;subst P;subst hy;exact ER.Rd.ip1 (x:=aI (sumI sc.sC)) (by simp[cutM]) (.hf _ (HF.sc _))
  | 1=>simp at P hy;subst P;subst hy;exact .hf _ j
  |k+2=>simp at P
 .rintro r m ⟨h,rfl⟩
  cases h;simp[go_sem];exact .zsc _
 grind
end GW
namespace LA
open E9 EW G5 GW
theorem J6(a l):sumI (a :: l)=a+sumI l:=rfl
theorem Yy:∀ m,(∀ a,a∈m->0<=a)->0<=sumI m
 | [],_=>vq _
 |a :: m,h=>by have:=Yy m fun b g=>h b (zP1 g);have:=h a zSp;rw[J6];omega
theorem Km:∀ m j i,(∀ a,a∈m->0<=a)->sumI (m.take j)+m[j]<=sumI m
 |a :: m,0,_,h=>by have:=Yy m fun b g=>h b (zP1 g);show (0:Int)+a<=_;rw[J6];omega
 |a :: m,j+1,i,h=>by have:=Km m j (zUs i) fun b g=>h b (zP1 g);rw[List.take_succ_cons,J6,J6,List.getElem_cons_succ];omega
theorem qbG:∀ l j k i t,(∀ a,a∈l->0<=a)->0<=k->k<l[j]->vP l (sumI (l.take j)+k) i=i+j
 |a :: l,0,k,i,_,_,C,g=>by
  have:sumI ([]:List Int)=0:=rfl;simp only[List.getElem_cons_zero]at g;rw[vP,List.take_zero,this,if_pos zOm];simp
 |a :: l,j+1,k,i,t,o,C,g=>by
  have I:=o a zSp;have J:=Yy (l.take j) fun b p=>o b (by simp[uo p])
  rw[vP,List.take_succ_cons,J6,zIn];have:=qbG l j k (i+1) (zUs t) (fun b p=>o b (zP1 p)) C (zUs g);rw[show a+sumI (l.take j)+k-a=sumI (l.take j)+k by omega,this]
  push_cast;omega
def OkL(sc:Sc)(l:List Int):Prop:=∀ s,s∈l->0<=s/\s<sc.sC.length
theorem UN(sc)(g:∀ a,a∈sc.sC->0<=a):∀ l,OkL sc l->∀ p x,x∈tupR sc l p->∃ ds,ds.length=l.length/\x=yR (sumI sc.sC) ds p/\(∀ d,d∈ds->0<=d/\d<sumI sc.sC)/\∀(i h)(t:i<l.length),vQ sc ds[i]=l[i]
 | [],_,p,x,h=>by
  simp[tupR]at h;exact⟨[],rfl,by simp[yR,h],zSp,zSp⟩
 |s :: l,C,p,x,h=>by
  rw[tupR,vZ]at h;obtain⟨k,I,h⟩:=h;rw[ye]at I;obtain⟨h0,h1⟩:=C s zSp;have j:s.toNat<sc.sC.length:=zOm;rw[j9 j]at I;obtain⟨ds,P,R,T,U⟩:=UN sc g l (fun s hs=>C s (zP1 hs)) _ x h;have J:=Km _ _ j g;have a0:=Yy (sc.sC.take s.toNat) fun b hb=>g b (uo hb)
  refine⟨(sumI (sc.sC.take s.toNat)+k) :: ds,zP1 P,by rw[R];rfl,fun d o=>?_,fun i h t=>?_⟩
  .rcases qy.1 o with rfl|o
   .omega
   .exact T d o
  .cases i with
   |zero =>
    have:=qbG sc.sC s.toNat k 0 j g zOm zOm;simp only[List.getElem_cons_zero,vQ];rw[this];omega
   |succ i=>simpa using U i (zUs h) (zUs t)
theorem qmB(n ds d p):yR n (ds++[d]) p=yR n ds p*n+d:=by simp[yR]
theorem qbH(n)(g:0<n):∀ k ds,ds.length=k->(∀ d,d∈ds->0<=d/\d<n)->(0<=yR n ds 0/\yR n ds 0<n ^ k)/\digs n k (yR n ds 0)=ds
 | 0,ds,h,_=>by
  obtain rfl:=List.eq_nil_of_length_eq_zero h;simp[yR,digs]
 |k+1,ds,h,j=>by
  obtain⟨C,d,rfl⟩:∃ C d,ds=C++[d]:=⟨ds.dropLast,ds.getLast (by intro e;simp[e]at h),(List.dropLast_concat_getLast _).symm⟩;obtain⟨⟨l,I⟩,o⟩:=qbH n g k C (zUs h) fun d i=>j d (zP1 i)
  obtain⟨d1,d2⟩:=j d zSp;rw[qmB];have p:(yR n C 0*n+d) / n=yR n C 0:=by
   rw[Int.add_comm,Int.add_mul_ediv_right _ _ zOm,Int.ediv_eq_zero_of_lt d1 d2];omega
  have t:(yR n C 0*n+d) % n=d:=by
   rw[Int.add_comm,Int.add_mul_emod_self_right,Int.emod_eq_of_lt d1 d2]
  refine⟨⟨?_,?_⟩,?_⟩
  .have:=Int.mul_nonneg l (Int.le_of_lt g);omega
  .have:=Int.mul_le_mul_of_nonneg_right (show yR n C 0+1<=n ^ k by omega) (Int.le_of_lt g)
   rw[Int.pow_succ];rw[Int.add_mul]at this;omega
  .rw [digs,p,t,o]
theorem Kn(n)(g:0<n):∀ ds p,(∀ d,d∈ds->0<=d/\d<n)->p*n ^ ds.length<=yR n ds p/\yR n ds p<(p+1)*n ^ ds.length
 | [],p,_=>by simp[yR];omega
 |d :: ds,p,h=>by
  obtain⟨d1,d2⟩:=h d zSp;obtain⟨a,b⟩:=Kn n g ds (p*n+d) fun e j=>h e (zP1 j)
  have i:0<n ^ ds.length:=Int.pow_pos g;have e:n ^ (d :: ds).length=n ^ ds.length*n:=Int.pow_succ ..;have l:yR n (d :: ds) p=yR n ds (p*n+d):=rfl;rw[l,e];have c1:p*(n ^ ds.length*n)<=(p*n+d)*n ^ ds.length:=by
   rw[Int.add_mul,show p*(n ^ ds.length*n)=p*n*n ^ ds.length by rw[Int.mul_comm (n ^ ds.length),Int.mul_assoc]];have:=Int.mul_nonneg d1 (Int.le_of_lt i);omega
  have c2:(p*n+d+1)*n ^ ds.length<=(p+1)*(n ^ ds.length*n):=by
   rw[show (p+1)*(n ^ ds.length*n)=((p+1)*n)*n ^ ds.length by rw[Int.mul_comm (n ^ ds.length),Int.mul_assoc]];refine Int.mul_le_mul_of_nonneg_right ?_ (Int.le_of_lt i);rw[Int.add_mul];omega
  omega
theorem qbI(sc)(i:0<sumI sc.sC)(o:∀ a,a∈sc.sC->0<=a):∀ l,OkL sc l->∀ p,(tupR sc l p).Pairwise (·<·)
 | [],_,p=>by simp[tupR]
 |s :: l,I,p=>by
  have g:OkL sc l:=fun s J=>I s (zP1 J)
  rw[tupR];have:∀ m:Nat,((qs m).flatMap fun k:Nat=>tupR sc l (p*sumI sc.sC+(sumI (sc.sC.take s.toNat)+k))).Pairwise (·<·):=fun m=>by
   induction m with
   |zero=>simp
   |succ m P =>
    rw[List.range_succ,List.flatMap_append,List.pairwise_append];refine⟨P,by simpa using qbI sc i o l g _,fun x j y t=>?_⟩;rw[vZ]at j;obtain⟨k,R,j⟩:=j;rw[ye]at R;simp only[List.flatMap_cons,List.flatMap_nil,List.append_nil]at t;obtain⟨T,U,a2,a3,_⟩:=UN sc o l g _ x j;obtain⟨C,b1,b2,b3,_⟩:=UN sc o l g _ y t;have h1:=(Kn _ i T (p*sumI sc.sC+(sumI (sc.sC.take s.toNat)+k)) a3).2;have h2:=(Kn _ i C (p*sumI sc.sC+(sumI (sc.sC.take s.toNat)+m)) b3).1;rw[<-a2,U]at h1;rw[<-b2,b1]at h2;have:=Int.mul_le_mul_of_nonneg_right (show p*sumI sc.sC+(sumI (sc.sC.take s.toNat)+k)+1<=p*sumI sc.sC+(sumI (sc.sC.take s.toNat)+m) by omega) (Int.le_of_lt (Int.pow_pos i:0<sumI sc.sC ^ l.length));omega
  exact this _
theorem qmC(sc)(g:GSc sc)(o:0<sumI sc.sC)(l)(I:l.length<=3)(p:OkL sc l):tupR sc l 0=yJ sc l:=by
 have t:∀ a,a∈sc.sC->0<=a:=fun a J=>(g.2 a J).1
 have s1:=qbI sc o t l p 0;have P:(yJ sc l).Pairwise (·<·):=qa6 _ _ _;have j:∀ x,x∈tupR sc l 0->x∈yJ sc l:=fun x R=>by
  obtain⟨T,U,a2,a3,a4⟩:=UN sc t l p 0 x R;obtain⟨⟨b1,b2⟩,C⟩:=qbH _ o l.length T U a3;rw[<-a2]at b1 b2 C;unfold yJ jW;refine qn.2 ⟨x.toNat,y5.2 ⟨ye.2 zOm,?_⟩,zOm⟩;rw[show ((x.toNat:Nat):Int)=x by omega,C];exact Uc.2 fun i hi=>by
   have:=a4 i zOm zOm
   grind [j9]
 exact GA.mF s1 P fun x=>⟨j x,qbB sc g o l I p x⟩
end LA
namespace KC
open Y2 P1 E1 E2 KA KB LA
section
variable {ts:TS}
structure ScN (ts:TS) (sc:Sc):Prop where
 g:GSc sc
 ns:ts.sS.length=sc.sC.length
 a1:∀ a,a∈sc.sC->1<=a
theorem ScN.n0{sc}(h:ScN ts sc):0<=sumI sc.sC:=Yy _ fun a g=>by have:=h.a1 a g;omega
theorem ScN.le{sc}(h:ScN ts sc){i}(j:i<sc.sC.length):1<=sc.sC[i]/\0<=sumI (sc.sC.take i)/\sumI (sc.sC.take i)+sc.sC[i]<=sumI sc.sC:=
 ⟨h.a1 _ (qt j),Yy _ fun a g=>zW1 (h.a1 a (uo g)),Km _ _ j fun a g=>zW1 (h.a1 a g)⟩
def BdN(ts:TS)(n:Int)(bs:List Bd):Prop:=bs.length=ts.sA.length/\∀(i:Nat)(h:i<bs.length)(g:i<ts.sA.length),okI n ts.sA[i].sS.length bs[i]
theorem qbJ{nm}:∀{fs bs},bs.length=fs.length->(yQ nm fs bs=none/\z6 fs nm=[])\/∃(i:Nat) (h:i<bs.length) (j:i<fs.length),yQ nm fs bs=some bs[i]/\fs[i].name=nm/\∃ r,z6 fs nm=kOf fs[i].sS :: r
 | [],[],_ => .inl ⟨rfl,rfl⟩
 |f :: fs,b :: bs,h=>by
  by_cases g:f.name=nm
  .exact .inr ⟨0,zSp,zSp,by simp[yQ,g],g,z6 fs nm,by simp[z6,g]⟩
  .have l:yQ nm (f :: fs) (b :: bs)=yQ nm fs bs:=by simp[yQ,g]
   have o:z6 (f :: fs) nm=z6 fs nm:=by simp[z6,g]
   rw[l,o];rcases qbJ (nm:=nm) (fs:=fs) (bs:=bs) (zUs h) with ⟨a,b⟩|⟨i,p,j,a,b,r,c⟩
   .exact .inl ⟨a,b⟩
   .exact .inr ⟨i+1,zSo,zSo,zUs a,zUs b,r,zUs c⟩
theorem qmD{sc}(h:ScN ts sc){i}(g:i<sc.sC.length):GR (sumI sc.sC) ⟨1,Yu sc i⟩:=by
 obtain⟨l,j,o⟩:=h.le g;unfold Yu;rw[j9 g];exact GR.run _ j zOm
theorem qmE{sc}(h:ScN ts sc){i}(g:i<sc.sC.length):GR (sumI sc.sC) ⟨2,ZN sc i⟩:=by
 obtain⟨o,j,p⟩:=h.le g;unfold ZN;rw[j9 g];by_cases l:(sc.sC[i].toNat-1)=0
 .rw [l];exact GR.nil zOm zOm
 .exact GR.sN h.n0 _ j zOm
theorem qbK{sc}(h:ScN ts sc)(nm):∀ so i,i+so.length<=ts.sS.length->∀ k r,yo i so nm=k :: r->okI (sumI sc.sC) k.ar (Zd sc nm i so)
 | [],i,_,k,r,g=>by simp[yo]at g
 |s :: so,i,l,k,r,g=>by
  simp only[yh]at l;have j:i<sc.sC.length:=zW1 h.ns;obtain⟨p,o,t⟩:=h.le j;rw[yo,vM]at g;rw[Zd];by_cases c1:s.1=nm
  .rw [if_pos c1]at g⊢
   simp only[yL,jk,uc]at g;rw[<-g.1];exact Yw (qmD h j)
  rw[if_neg c1]at g⊢;by_cases c2:s.2=true/\s.1++jT=nm
  .rw [if_pos c2]at g⊢
   simp only[yL,jk,uc]at g;rw[<-g.1];exact Yw (GR.one o zOm)
  rw[if_neg c2]at g⊢;by_cases c3:s.2=true/\s.1++vr=nm
  .rw [if_pos c3]at g⊢
   simp only[yL,jk,uc]at g;rw[<-g.1];exact Yw (qmE h j)
  rw[if_neg c3]at g⊢;exact qbK h nm so (i+1) zOm k r g
theorem qmF{sc}(h:ScN ts sc){bs}(j:BdN ts (sumI sc.sC) bs){c:Ck}(t:c.ts=ts){env nm}(l:Qa nm env=none){k r}(g:means ts nm=k :: r):okI (sumI sc.sC) k.ar (zr ⟨ts,sc,bs⟩ env nm):=by
 unfold zr;rw[l];simp only;unfold means at g;rcases qbJ (nm:=nm) j.1 with ⟨a,b⟩|⟨i,o,p,a,b,C,e⟩
 .rw [a]
  rw[b,jk]at g;exact qbK h nm ts.sS 0 zOm k r g
 .rw [a]
  rw[e,yL]at g;simp only[uc]at g;rw[<-g.1];exact j.2 i o p
theorem qmG{sc}(h:ScN ts sc){bs}(j:BdN ts (sumI sc.sC) bs){c}(l:c.ts=ts):∀ nm a,arS c [] nm=some a->okI (sumI sc.sC) a (zr ⟨ts,sc,bs⟩ [] nm):=fun nm a g=>by
 unfold arS yH at g;have hf:y9 nm ([]:Scp)=[]:=rfl;rw[hf]at g;simp only at g;subst l;cases i:means c.ts nm with
 |nil=>rw[i]at g;simp at g
 |cons k r =>
  rw[i]at g;cases r with
  |nil =>
   simp at g;rw[<-g];exact qmF h j rfl rfl i
  |cons=>simp at g
end
end KC
namespace KD
open Y1 P1 E1 E2 E3 EC KA KB
section
variable {a b b' g:Rl}
def le(a b:Rl):Prop:=∀ t,t∈a.ts->t∈b.ts
theorem le.rfl'(a):le a a:=fun _ h=>h
theorem le.trans{c}(h:le a b)(k:le b c):le a c:=fun t g=>k t (h t g)
theorem UO:sub1 a b=true↔le a b:=by
 simp[sub1,diR,le,List.filter_eq_nil_iff]
theorem Zf(h:le a g)(k:le b b'):le (unR a b) (unR g b'):=fun t i=>by
 rw[ZM]at i⊢;exact i.imp (h t) (k t)
theorem qbL(a b t):t∈(inR a b).ts↔t∈a.ts/\t∈b.ts:=by simp[inR]
theorem qmH(a b t):t∈(diR a b).ts↔t∈a.ts/\¬t∈b.ts:=by simp[diR]
theorem UP(h:le a g)(k:le b b'):le (inR a b) (inR g b'):=fun t i=>by
 rw[qbL]at i⊢;exact i.imp (h t) (k t)
theorem J7{i}(h:le a i)(k:le b' b):le (diR a b) (diR i b'):=fun t g=>by
 rw[qmH]at g⊢;exact⟨h t g.1,fun q=>g.2 (k t q)⟩
theorem qbM{n}(h:le a g)(k:le b b')(e:b.ar=b'.ar):le (prR n a b) (prR n g b'):=fun t i=>by
 simp only[prR,prL,vZ,qn,e]at i⊢;obtain⟨s,j,u,l,rfl⟩:=i;exact⟨s,h s j,u,k u l,rfl⟩
theorem qbN{n}(h:le a g)(k:le b b')(e:b.ar=b'.ar):le (joR n a b) (joR n g b'):=fun t i=>by
 simp only[joR,(vO _).2,joL,vZ,qn,y5,e]at i⊢;obtain⟨s,j,u,⟨l,o⟩,rfl⟩:=i;exact⟨s,h s j,u,⟨k u l,o⟩,rfl⟩
theorem Yz{n}(h:le a g):le (trR n a) (trR n g):=fun t i=>by
 simp only[trR,(vO _).2,qn]at i⊢;obtain⟨s,j,rfl⟩:=i;exact⟨s,h s j,rfl⟩
theorem cG{A B}(h:∀ u v,A u v->B u v){u v}(t:Tc A u v):Tc B u v:=by
 induction t with
 |base j=>exact .base (h _ _ j)
 |trans _ _ g i=>exact .trans g i
theorem qbO{n}(l:0<=n)(i:n<=12){a b}(o:GR n a)(I:GR n b)(p:a.ar=2)(J:b.ar=2)(h:le a b):le (clR n 200 a) (clR n 200 b):=fun t C=>by
 obtain⟨g,P⟩:=aD l 200 o p;obtain⟨U,u,v,R,T,v0,v1,rfl⟩:=aJ l g P C;have:=(qaA l i o p u v).1 ⟨R,T,v0,v1,C⟩;have:=(qaA l i I J u v).2 (cG (fun u v j=>⟨j.1,j.2.1,j.2.2.1,j.2.2.2.1,h _ j.2.2.2.2⟩) this);exact this.2.2.2.2
theorem qbP{n}(h:le a g)(k:le b' b)(e:b.ar=b'.ar)(j:a.ar=g.ar):le (vy n a b) (vy n g b'):=fun t i=>by
 simp only[vy,y5,decide_eq_true_eq,e,j]at i⊢;exact⟨h t i.1,fun u l=>i.2 u (k u l)⟩
structure Tg (x y:Bd):Prop where
 lo:le y.lo x.lo
 up:le x.up y.up
 la:x.lo.ar=y.lo.ar
 ua:x.up.ar=y.up.ar
theorem Tg.rfl'(x):Tg x x:=⟨le.rfl' _,le.rfl' _,rfl,rfl⟩
theorem Tg.trans{x y z}(h:Tg x y)(k:Tg y z):Tg x z:=⟨k.lo.trans h.lo,h.up.trans k.up,h.la.trans k.la,h.ua.trans k.ua⟩
def TgL(a b:List Bd):Prop:=a.length=b.length/\∀(i:Nat)(h:i<a.length)(g:i<b.length),Tg a[i] b[i]
theorem TgL.rfl'(a):TgL a a:=⟨rfl,fun _ _ _=>Tg.rfl' _⟩
theorem TgL.trans{a b c}(h:TgL a b)(k:TgL b c):TgL a c:=⟨h.1.trans k.1,fun i g j=>(h.2 i g (zW1 h.1)).trans (k.2 i _ j)⟩
theorem qbQ{nm}:∀{fs a b},TgL a b->(yQ nm fs a=none/\yQ nm fs b=none)\/∃ x y,yQ nm fs a=some x/\yQ nm fs b=some y/\Tg x y
 | [],a,b,h => .inl ⟨by cases a<;>rfl,by cases b<;>rfl⟩
 |f :: fs,[],[],h => .inl ⟨rfl,rfl⟩
 |f :: fs,x :: a,y :: b,h=>by
  have j:Tg x y:=h.2 0 zSp zSp;by_cases g:f.name=nm
  .exact .inr ⟨x,y,by simp[yQ,g],by simp[yQ,g],j⟩
  .have l:TgL a b:=⟨by have:=h.1;simpa using this,fun i o p=>h.2 (i+1) zSo zSo⟩
   simpa[yQ,g] using qbQ l
 |f :: fs,[],y :: b,h=>by have:=h.1;simp at this
 |f :: fs,x :: a,[],h=>by have:=h.1;simp at this
theorem qmI{ts sc a b}(h:TgL a b)(env nm):Tg (zr ⟨ts,sc,a⟩ env nm) (zr ⟨ts,sc,b⟩ env nm):=by
 unfold zr;cases Qa nm env with
 |some b=>exact Tg.rfl' _
 |none =>
  simp only;rcases qbQ (nm:=nm) (fs:=ts.sA) h with ⟨g,i⟩|⟨x,y,g,i,h⟩
  .rw [g,i];exact Tg.rfl' _
  .rw [g,i];exact h
theorem qmJ{ts sc a b env A}(p:0<=sumI sc.sC)(a0:sumI sc.sC<=12)(hT:TgL a b)(ha:∀ nm k,A nm=some k->okI (sumI sc.sC) k (zr ⟨ts,sc,a⟩ env nm))(hb:∀ nm k,A nm=some k->okI (sumI sc.sC) k (zr ⟨ts,sc,b⟩ env nm))
  {n} {k} (h:ArN A n k):Tg (ivl ⟨ts,sc,a⟩ env n) (ivl ⟨ts,sc,b⟩ env n):=by
 induction h with
 |name g h=>rw[zj,zj];simp only[opI,if_pos g];exact qmI hT env _
 |none g h=>rw[zj,zj];simp[opI,g];exact Tg.rfl' _
 |univ g=>rw[zj,zj];simp[opI,g];exact Tg.rfl' _
 |iden g=>rw[zj,zj];simp[opI,g];exact Tg.rfl' _
 |prime g t h ih=>rw[zj,zj];simp[opI,g,t];exact ih
 | @bin n x g t h ih =>
  obtain⟨l,u,T,U⟩:=Ze (σ:=⟨ts,sc,a⟩) p ha h;obtain⟨l',u',i,j⟩:=Ze (σ:=⟨ts,sc,b⟩) p hb h;rw[zj,zj,t];obtain⟨t1,t2,t3,t4⟩:=ih;have c1:=qbO p a0 l' l i T t1;have c2:=qbO p a0 u u' U j t2;have e1:=(aD p 200 l T).2;have e2:=(aD p 200 u U).2;have e3:=(aD p 200 l' i).2;have e4:=(aD p 200 u' j).2;rcases (show n.op=11\/n.op=12\/n.op=13 by omega) with o|o|o<;>simp[opI,o]
  .exact ⟨Yz t1,Yz t2,rfl,rfl⟩
  .exact ⟨c1,c2,e1.trans e3.symm,e2.trans e4.symm⟩
  .exact ⟨Zf c1 (le.rfl' _),Zf c2 (le.rfl' _),e1.trans e3.symm,e2.trans e4.symm⟩
 |alike g t hx hy C I =>
  rw[zj,zj,t];obtain⟨t1,t2,t3,t4⟩:=C;obtain⟨s1,R,J,P⟩:=I;rcases g with o|o|o|o<;>simp[opI,o,map2]
  .exact ⟨Zf t1 s1,Zf t2 R,t3,t4⟩
  .exact ⟨UP t1 s1,UP t2 R,t3,t4⟩
  .exact ⟨J7 t1 R,J7 t2 s1,t3,t4⟩
  .exact ⟨Zf s1 (qbP t1 R P.symm t3.symm),Zf R (qbP t2 s1 J t4),J,P⟩
 | @join n x y c d g t hx hy h C I =>
  obtain⟨l,u,T,U⟩:=Ze (σ:=⟨ts,sc,a⟩) p ha hx;obtain⟨l',u',i,j⟩:=Ze (σ:=⟨ts,sc,a⟩) p ha hy;rw[zj,zj,t];obtain⟨t1,t2,t3,t4⟩:=C;obtain⟨s1,R,J,P⟩:=I;simp[opI,g,map2,uf,<-t3,<-t4,<-J,<-P,T,U,i,j,h,vE];exact⟨qbN t1 s1 J.symm,qbN t2 R P,by simp[joR,t3,J],by simp[joR,t4,P]⟩
 |prod g t hx hy h C I =>
  obtain⟨l,u,T,U⟩:=Ze (σ:=⟨ts,sc,a⟩) p ha hx;obtain⟨l',u',i,j⟩:=Ze (σ:=⟨ts,sc,a⟩) p ha hy;rw[zj,zj,t];obtain⟨t1,t2,t3,t4⟩:=C;obtain⟨s1,R,J,P⟩:=I;simp[opI,g,map2,wh,<-t3,<-t4,<-J,<-P,T,U,i,j,h,vE];exact⟨qbM t1 s1 J.symm,qbM t2 R P,by simp[prR,t3,J],by simp[prR,t4,P]⟩
 |compr g t hx ih =>
  rw[zj,zj,t];obtain⟨t1,t2,t3,t4⟩:=ih;simp[opI,g];exact⟨le.rfl' _,t2,rfl,t4⟩
end
end KD
namespace KE
open Y1 P1 E1 E2 EC KA KB KC KD
section
variable {c c':Bool}{a:Int}{bs g:List Bd}{ts:TS}
structure BdS (ts:TS) (n:Int) (bs:List Bd):Prop where
 b:BdN ts n bs
 s:∀ x,x∈bs->le x.lo x.up
theorem J8{n a b}(g:GR n a)(h:le a b):a.ts.length<=b.ts.length:=jm (Q0 g.srt) h
def gapB(b:Bd):Nat:=b.up.ts.length-b.lo.ts.length
def gapL(bs:List Bd):Nat:=(bs.map gapB).sum
theorem qbR{a b}(g:zq a)(i:zq b)(h:∀ t,t∈a->t∈b)(e:b.length<=a.length):a=b:=by
 refine Us g i fun x=>⟨h x,fun j=>?_⟩
 exact m8 g i h (Nat.le_antisymm e (jm (Q0 g) h)) x j
theorem qmK{n x y}(j:okI n a x)(l:okI n a y)(h:Tg x y)(t:le x.lo x.up):gapB x<=gapB y/\(gapB x=gapB y->x=y):=by
 have C:=J8 l.lo h.lo;have I:=J8 j.up h.up;have J:=J8 j.lo t;unfold gapB;refine⟨zOm,fun e=>?_⟩;have o:=qbR l.lo.srt j.lo.srt h.lo zOm;have p:=qbR j.up.srt l.up.srt h.up zOm;obtain⟨⟨P,R⟩,⟨T,U⟩⟩:=x;obtain⟨⟨b1,b2⟩,⟨b3,b4⟩⟩:=y;have g:=h.la;have i:=h.ua;simp only at o p g i;subst o;subst p;subst g;subst i;rfl
theorem qbS:∀{fs:List Fld}{n a b},a.length=fs.length->TgL a b->(∀(i h)(g:i<fs.length),okI n fs[i].sS.length a[i])->(∀(i h)(g:i<fs.length),okI n fs[i].sS.length b[i])->(∀ x,x∈a->le x.lo x.up)->gapL a<=gapL b/\(gapL a=gapL b->a=b)
 |fs,n,[],[],_,_,_,_,_=>⟨qj _,fun _=>rfl⟩
 | [],n,x :: a,b,j,_,_,_,_=>by simp at j
 |fs,n,[],y :: b,_,h,_,_,_=>by have:=h.1;simp at this
 |fs,n,x :: a,[],_,h,_,_,_=>by have:=h.1;simp at this
 |f :: fs,n,x :: a,y :: b,j,h,l,o,p=>by
  have t:=qbS (fs:=fs) (n:=n) (a:=a) (b:=b) (zUs j) ⟨by have:=h.1;simpa using this,fun i C g=>h.2 (i+1) zSo zSo⟩
   (fun i C g=>l (i+1) zSo zSo) (fun i C g=>o (i+1) zSo zSo) fun x J=>p x (zP1 J)
  have I:=qmK (l 0 zSp zSp) (o 0 zSp zSp) (h.2 0 zSp zSp) (p x zSp);simp only[List.getElem_cons_zero]at I;simp only[gapL,za,List.sum_cons]at t⊢;refine⟨zOm,fun e=>?_⟩;rw[I.2 zOm,t.2 zOm]
structure NwS (ts:TS) (sc:Sc):Prop where
 s:ScN ts sc
 h12:sumI sc.sC<=12
abbrev arT(ts:TS):tZ->Option Int:=arS (mkCk ts ts.sT.length) []
theorem NwS.nm{sc}(W:NwS ts sc){bs}(h:BdS ts (sumI sc.sC) bs):∀ nm a,arT ts nm=some a->okI (sumI sc.sC) a (zr ⟨ts,sc,bs⟩ [] nm):=qmG W.s h.b (c:=mkCk ts ts.sT.length) rfl
theorem NwS.ok{sc}(W:NwS ts sc){bs}(h:BdS ts (sumI sc.sC) bs){n a}(g:ArN (arT ts) n a):okI (sumI sc.sC) a (ivl ⟨ts,sc,bs⟩ [] n):=Ze (σ:=⟨ts,sc,bs⟩) W.s.n0 (W.nm h) g
theorem NwS.mono{sc}(W:NwS ts sc){bs bt}(h:BdS ts (sumI sc.sC) bs)(k:BdS ts (sumI sc.sC) bt)(g:TgL bs bt){n a}(i:ArN (arT ts) n a):Tg (ivl ⟨ts,sc,bs⟩ [] n) (ivl ⟨ts,sc,bt⟩ [] n):=qmJ W.s.n0 W.h12 g (W.nm h) (W.nm k) i
theorem qbT{nm}:∀{fs bs},bs.length=fs.length->yQ nm fs bs=(idxF fs nm).bind fun i=>bs[i]?
 | [],[],_=>rfl
 |f :: fs,b :: bs,h=>by
  have g:=qbT (nm:=nm) (fs:=fs) (bs:=bs) (zUs h);unfold idxF at g⊢;by_cases j:f.name=nm
  .simp [yQ,j,List.findIdx?_cons]
  .simp only[yQ,j,if_false,List.findIdx?_cons,decide_false,Bool.false_eq_true,g]
   cases List.findIdx? (fun f:Fld=>decide (f.name=nm)) fs<;>simp
theorem UQ{sc}(W:NwS ts sc){bs}(h:BdS ts (sumI sc.sC) bs){nm a}(t:arT ts nm=some a){i}(g:idxF ts.sA nm=some i):∃ j,okI (sumI sc.sC) a bs[i]/\∃ p,(ts.sA[i].sS.length:Int)=a:=by
 have l:i<ts.sA.length:=by
  unfold idxF at g;rw[List.findIdx?_eq_some_iff_getElem]at g;exact g.1
 have o:i<bs.length:=by rw[h.b.1];exact l
 have e:zr ⟨ts,sc,bs⟩ [] nm=bs[i]:=by
  unfold zr;have:Qa nm ([]:List (tZ×Bd))=none:=rfl;rw[this];simp only;rw[qbT h.b.1,g];simp[qB o]
 have j:=W.nm h nm a t;rw[e]at j;have p:=h.b.2 i o l;exact⟨o,j,l,by rw[<-p.la,j.la]⟩
structure vA (ts:TS) (n:Int) (bs bs':List Bd) (k k':Bool):Prop where
 t:TgL bs' bs
 v:BdS ts n bs'
 c:k'=false->bs'=bs/\k=false
 d:k'=true->k=true\/gapL bs'<gapL bs
 gl:gapL bs'<=gapL bs
theorem vA.id{n}(h:BdS ts n bs):vA ts n bs bs c c:=⟨TgL.rfl' _,h,fun e=>⟨rfl,e⟩,fun e => .inl e,qj _⟩
theorem vA.trans{n a b d c1 c2 c3}(h:vA ts n a b c1 c2)(k:vA ts n b d c2 c3):vA ts n a d c1 c3:=⟨k.t.trans h.t,k.v,fun e=>by
 obtain⟨g,i⟩:=k.c e;obtain⟨j,l⟩:=h.c i;exact⟨g.trans j,l⟩,fun e=>by
 have o:=h.gl;have p:=k.gl;rcases k.d e with q|q
 .rcases h.d q with q|q
  .exact .inl q
  .exact .inr zOm
 .exact .inr zOm,zS k.gl h.gl⟩
theorem qbU{i p q}(t)(h:wu i p q bs c=some (g,c')):le (unR bs[i].lo p) (inR bs[i].up q)/\g=bs.set i ⟨unR bs[i].lo p,inR bs[i].up q⟩/\(c'=false->g=bs/\c=false)/\(c'=true->c=true\/¬g=bs):=by
 have e:bs.getD i bd0=bs[i]:=by simp[zT,qB t]
 unfold wu at h;simp only[e]at h;split at h
 .rename_i j
  have j:=UO.1 j;split at h
  .rename_i o
   cases h;refine⟨j,?_,fun e=>⟨rfl,e⟩,fun e => .inl e⟩;rw[o.1,o.2];exact(List.set_getElem_self t).symm
  .rename_i o
   cases h;refine⟨j,rfl,(fun e=>by cases e),fun _ => .inr fun e=>o ?_⟩;have:=congrArg (fun l=>l[i]?) e;simp[t]at this;exact⟨congrArg Bd.lo this,congrArg Bd.up this⟩
 .cases h
theorem qmL{i p q}(c g)(h:le (unR bs[i].lo p) (inR bs[i].up q)):∃ c',wu i p q bs c=some (bs.set i ⟨unR bs[i].lo p,inR bs[i].up q⟩,c'):=by
 have e:bs.getD i bd0=bs[i]:=by simp[zT,qB g]
 unfold wu;simp only[e,UO.2 h,if_true];split
 .rename_i j
  refine⟨c,?_⟩;rw[j.1,j.2];exact congrArg some (Prod.ext (List.set_getElem_self g).symm rfl)
 .exact ⟨true,rfl⟩
theorem qmM{n}(h:BdS ts n bs){i}(R:i<bs.length)(h2)(e:(ts.sA[i].sS.length:Int)=a){p q}(hp:GR n p)(pa:p.ar=a)(hs:wu i p q bs c=some (g,c')):vA ts n bs g c c':=by
 obtain⟨s1,T,s3,s4⟩:=qbU R hs;have o:=h.b.2 i R h2;have o':okI n ts.sA[i].sS.length (⟨unR bs[i].lo p,inR bs[i].up q⟩:Bd):=⟨aM o.lo hp (by rw[o.la,pa,e]),o.up.filter _,o.la,o.ua⟩;have l:TgL g bs:=by
  subst T;refine⟨zSp,fun j U j2=>?_⟩;rw[List.getElem_set];split
  .rename_i I;subst I
   exact⟨fun t l=>(ZM _ _ t).2 (.inl l),fun t l=>((qbL _ _ t).1 l).1,rfl,rfl⟩
  .exact Tg.rfl' _
 have C:BdS ts n g:=by
  subst T;refine⟨⟨by simp[h.b.1],fun j U j2=>?_⟩,fun x J=>?_⟩
  .rw [List.getElem_set]
   split
   .rename_i I;subst I;exact o'
   .exact h.b.2 j (zUs U) j2
  .rcases List.mem_or_eq_of_mem_set J with J|rfl
   .exact h.s x J
   .exact s1
 have P:=qbS C.b.1 l C.b.2 h.b.2 C.s;refine⟨l,C,s3,fun e=>(s4 e).imp id fun ne=>?_,P.1⟩;have:=P.2;rcases Nat.lt_or_eq_of_le P.1 with q|q
 .exact q
 .exact absurd (this q) ne
theorem qmN{a b}(h:TgL a b){i x y}(g:Tg x y):TgL (a.set i x) (b.set i y):=⟨by simp[h.1],fun j l o=>by
 rw[List.getElem_set,List.getElem_set];split
 .exact g
 .exact h.2 j (zUs l) (zUs o)⟩
theorem Qc{n}(g:0<=n)(i:1<=a)(j:a<=3):GR n (allN n a)/\(allN n a).ar=a:=⟨GR.all g i j,rfl⟩
theorem cY{n a b}(h:GR n a):GR n (diR a b):=h.filter _
variable {ts:TS} {sc:Sc}
theorem YI(g x y p p' q bs c):narU ts sc g [x,y] p p' q bs c=brB (narN ts sc g x p q bs c) fun bs c=>narN ts sc g y p' q bs c:=by
 rw[narU];cases narN ts sc g x p q bs c with
 |none=>rfl
 |some r =>
  obtain⟨i,j⟩:=r;simp only[brB,narU];cases narN ts sc g y p' q i j with
  |none=>rfl
  |some r=>rfl
theorem Ko(g x y p q p' i bs c):narD ts sc g [x,y] p q p' i bs c=brB (narN ts sc g x p q bs c) fun bs c=>narN ts sc g y p' i bs c:=by
 rw[narD];cases narN ts sc g x p q bs c with
 |none=>rfl
 |some r =>
  obtain⟨j,l⟩:=r;simp only[brB,narD];cases narN ts sc g y p' i j l with
  |none=>rfl
  |some r=>rfl
theorem vS{r f}(h:brB r f=some (g,c')):∃ bs c,r=some (bs,c)/\f bs c=some (g,c'):=by
 match r,h with
 |some (bs,c),h=>exact⟨bs,c,rfl,h⟩
theorem vB(g n p q bs c):narN ts sc g n p q bs c =
  if (sub1 p (ivl ⟨ts,sc,bs⟩ [] n).up&&sub1 (ivl ⟨ts,sc,bs⟩ [] n).lo q)=true then
   if n.op=1 then (match idxF ts.sA n.name with
    |some i=>if (g||!((ts.sA.map fun f=>f.var).getD i false))=true then wu i p q bs c else some (bs,c)
    |none=>some (bs,c))
   else if n.op=6 then narU ts sc g n.sD ⟨p.ar,(diR p ((n.sD.map (ivl ⟨ts,sc,bs⟩ [])).getD 1 bd0).up).ts⟩ ⟨p.ar,(diR p ((n.sD.map (ivl ⟨ts,sc,bs⟩ [])).getD 0 bd0).up).ts⟩ q bs c
   else if n.op=7 then narU ts sc g n.sD p p (allN (sumI sc.sC) (ivl ⟨ts,sc,bs⟩ [] n).lo.ar) bs c
   else if n.op=8 then narD ts sc g n.sD p (allN (sumI sc.sC) (ivl ⟨ts,sc,bs⟩ [] n).lo.ar) ⟨(ivl ⟨ts,sc,bs⟩ [] n).lo.ar,[]⟩ (diR (allN (sumI sc.sC) (ivl ⟨ts,sc,bs⟩ [] n).lo.ar) p) bs c
   else if n.op=11 then narT ts sc g n.sD (trR (sumI sc.sC) p) (trR (sumI sc.sC) q) bs c
   else some (bs,c)
  else none:=by
 obtain⟨op,nm,i,ks,j⟩:=n;rw[narN,Ke];rfl
theorem ifn{p}[Decidable p]{J:Type}{x}{r:J}(h:(if p then x else none)=some r):p/\x=some r:=by
 split at h
 .rename_i g;exact⟨g,h⟩
 .cases h
theorem jj(g){n}(j:n.op≠1)(l:n.op≠6)(o:n.op≠7)(t:n.op≠8)(i:n.op≠11){p q bs c}:narN ts sc g n p q bs c=if (sub1 p (ivl ⟨ts,sc,bs⟩ [] n).up&&sub1 (ivl ⟨ts,sc,bs⟩ [] n).lo q)=true then some (bs,c) else none:=by
 rw[vB,if_neg j,if_neg l,if_neg o,if_neg t,if_neg i]
theorem yZ(W:NwS ts sc){n a}(hn:ArN (arT ts) n a):∀ g p q bs j c c',BdS ts (sumI sc.sC) bs->GR (sumI sc.sC) p->p.ar=a->GR (sumI sc.sC) q->q.ar=a->narN ts sc g n p q bs c=some (j,c')->vA ts (sumI sc.sC) bs j c c':=by
 have h0:=W.s.n0;have t:∀{n:Nd},n.op≠1->n.op≠6->n.op≠7->n.op≠8->n.op≠11->∀(g:Bool)(p q:Rl)(bs j:List Bd)(c c':Bool),BdS ts (sumI sc.sC) bs->narN ts sc g n p q bs c=some (j,c')->vA ts (sumI sc.sC) bs j c c':=fun {n} h1 h6 h7 h8 a0 g p q bs j c c' l h=>by
  rw[jj g h1 h6 h7 h8 a0]at h;obtain⟨_,h⟩:=ifn h;cases h;exact .id l
 induction hn with
 | @name n a C ha =>
  intro g p q bs j c c' l J P hq qa h;rw[vB]at h;obtain⟨_,h⟩:=ifn h;rw[if_pos C]at h;cases hi:idxF ts.sA n.name with
  |none=>rw[hi]at h;cases h;exact .id l
  |some i =>
   rw[hi]at h;simp only at h;split at h
   .obtain ⟨h1,_,h2,e⟩:=UQ W l ha hi
    exact qmM l h1 h2 e J P h
   .cases h;exact .id l
 |none C _=>exact fun g p q bs j c c' l _ _ _ _ h=>t zOm zOm zOm zOm zOm g p q bs j c c' l h
 |univ C=>exact fun g p q bs j c c' l _ _ _ _ h=>t zOm zOm zOm zOm zOm g p q bs j c c' l h
 |iden C=>exact fun g p q bs j c c' l _ _ _ _ h=>t zOm zOm zOm zOm zOm g p q bs j c c' l h
 |prime C _ _ _=>exact fun g p q bs j c c' l _ _ _ _ h=>t zOm zOm zOm zOm zOm g p q bs j c c' l h
 |join C _ _ _ _ _ _=>exact fun g p q bs j c c' l _ _ _ _ h=>t zOm zOm zOm zOm zOm g p q bs j c c' l h
 |prod C _ _ _ _ _ _=>exact fun g p q bs j c c' l _ _ _ _ h=>t zOm zOm zOm zOm zOm g p q bs j c c' l h
 |compr C _ _ _=>exact fun g p q bs j c c' l _ _ _ _ h=>t zOm zOm zOm zOm zOm g p q bs j c c' l h
 | @bin n x C hk hx ih =>
  intro g p q bs j c c' l J P hq qa h;by_cases o:n.op=11
  .rw [vB]at h
   obtain⟨_,h⟩:=ifn h;rw[zIn,zIn,zIn,zIn,if_pos o,hk,narT]at h;exact ih g _ _ bs j c c' l (GR.trans h0 J P) rfl (GR.trans h0 hq qa) rfl h
  .exact t zOm zOm zOm zOm o g p q bs j c c' l h
 | @alike n x y a C hk hx hy T U =>
  intro g p q bs j c c' l J P hq qa h;have hI:=W.ok l (ArN.alike C hk hx hy);have I:=Qc (a:=a) h0 (by rw[<-hI.la];exact hI.lo.ar1) (by rw[<-hI.la];exact hI.lo.ar3);have hZ:GR (sumI sc.sC) (⟨a,[]⟩:Rl):=GR.nil I.1.ar1 I.1.ar3;rcases (show n.op=14\/n.op=6\/n.op=7\/n.op=8 by omega) with o|o
  .exact t zOm zOm zOm zOm zOm g p q bs j c c' l h
  rw[vB]at h;obtain⟨_,h⟩:=ifn h;rw[hI.la,hk]at h;rcases o with o|o|o
  .rw [zIn,if_pos o,YI]at h
   obtain⟨R,c1,e1,e2⟩:=vS h;have s1:=T g _ q bs R c c1 l (cY J) P hq qa e1;exact s1.trans (U g _ q R j c1 c' s1.v (cY J) P hq qa e2)
  .rw [zIn,zIn,if_pos o,YI]at h
   obtain⟨R,c1,e1,e2⟩:=vS h;have s1:=T g _ _ bs R c c1 l J P I.1 I.2 e1;exact s1.trans (U g _ _ R j c1 c' s1.v J P I.1 I.2 e2)
  .rw [zIn,zIn,zIn,if_pos o,Ko]at h
   obtain⟨R,c1,e1,e2⟩:=vS h;have s1:=T g _ _ bs R c c1 l J P I.1 I.2 e1;exact s1.trans (U g _ _ R j c1 c' s1.v hZ rfl (cY I.1) I.2 e2)
theorem ZO(W:NwS ts sc){n a}(hn:ArN (arT ts) n a):∀ g p q R q1 bs C l c c1 t,BdS ts (sumI sc.sC) bs->BdS ts (sumI sc.sC) C->TgL C bs ->
  (GR (sumI sc.sC) p/\p.ar=a)->(GR (sumI sc.sC) q/\q.ar=a)->(GR (sumI sc.sC) R/\R.ar=a)->(GR (sumI sc.sC) q1/\q1.ar=a)->le p R->le q1 q ->
  narN ts sc g n R q1 C c1=some (l,t)->∃ a2 c',narN ts sc g n p q bs c=some (a2,c')/\TgL l a2:=by
 have h0:=W.s.n0;have chk:∀{n:Nd}{a:Int},ArN (arT ts) n a->∀{p q R q1:Rl}{bs C:List Bd},BdS ts (sumI sc.sC) bs->BdS ts (sumI sc.sC) C->TgL C bs->le p R->le q1 q->(sub1 R (ivl ⟨ts,sc,C⟩ [] n).up&&sub1 (ivl ⟨ts,sc,C⟩ [] n).lo q1)=true->(sub1 p (ivl ⟨ts,sc,bs⟩ [] n).up&&sub1 (ivl ⟨ts,sc,bs⟩ [] n).lo q)=true:=fun {n a} hn {p q R q1 bs C} I j J hp hq h=>by
  rw[qD,UO,UO]at h⊢;have m:=W.mono j I J hn;exact⟨(hp.trans h.1).trans m.up,(m.lo.trans h.2).trans hq⟩
 have a0:∀{n:Nd}{a:Int},ArN (arT ts) n a->n.op≠1->n.op≠6->n.op≠7->n.op≠8->n.op≠11->∀(g:Bool)(p q R q1:Rl)(bs C l:List Bd)(c c1 t:Bool),BdS ts (sumI sc.sC) bs->BdS ts (sumI sc.sC) C->TgL C bs->le p R->le q1 q->narN ts sc g n R q1 C c1=some (l,t)->∃ a2 c',narN ts sc g n p q bs c=some (a2,c')/\TgL l a2:=fun {n a} hn h1 h6 h7 h8 a5 g p q R q1 bs C l c c1 t I j J hp hq h=>by
  rw[jj g h1 h6 h7 h8 a5]at h⊢;obtain⟨hc,h⟩:=ifn h;cases h;exact⟨bs,c,if_pos (chk hn I j J hp hq hc),J⟩
 induction hn with
 | @name n a ho ha =>
  intro g p q R q1 bs C l c c1 t I j J hp hq P a1 T U h;rw[vB]at h⊢;obtain⟨hc,h⟩:=ifn h;rw[if_pos (chk (.name ho ha) I j J T U hc),if_pos ho];rw[if_pos ho]at h;cases hi:idxF ts.sA n.name with
  |none=>rw[hi]at h;cases h;exact⟨bs,c,rfl,J⟩
  |some i =>
   rw[hi]at h;simp only at h⊢;split at h
   .rename_i hg
    rw[if_pos hg];obtain⟨i1,_,i2,e⟩:=UQ W I ha hi;obtain⟨j1,_,_⟩:=UQ W j ha hi;obtain⟨s1,rfl,_,_⟩:=qbU j1 h;have m:=J.2 i j1 i1;have hl:le (unR bs[i].lo p) (inR bs[i].up q):=(Zf m.lo T).trans (s1.trans (UP m.up U));obtain⟨c',a6⟩:=qmL c i1 hl;exact⟨_,c',a6,qmN J ⟨Zf m.lo T,UP m.up U,m.la,m.ua⟩⟩
   .rename_i hg
    rw[if_neg hg];cases h;exact⟨bs,c,rfl,J⟩
 |none ho h=>exact fun g p q R q1 bs C l c c1 t I j J _ _ _ _ T U h'=>a0 (.none ho h) zOm zOm zOm zOm zOm g p q R q1 bs C l c c1 t I j J T U h'
 |univ ho=>exact fun g p q R q1 bs C l c c1 t I j J _ _ _ _ T U h'=>a0 (.univ ho) zOm zOm zOm zOm zOm g p q R q1 bs C l c c1 t I j J T U h'
 |iden ho=>exact fun g p q R q1 bs C l c c1 t I j J _ _ _ _ T U h'=>a0 (.iden ho) zOm zOm zOm zOm zOm g p q R q1 bs C l c c1 t I j J T U h'
 |prime ho hk hx _=>exact fun g p q R q1 bs C l c c1 t I j J _ _ _ _ T U h'=>a0 (.prime ho hk hx) zOm zOm zOm zOm zOm g p q R q1 bs C l c c1 t I j J T U h'
 |join ho hk hx hy h _ _=>exact fun g p q R q1 bs C l c c1 t I j J _ _ _ _ T U h'=>a0 (.join ho hk hx hy h) zOm zOm zOm zOm zOm g p q R q1 bs C l c c1 t I j J T U h'
 |prod ho hk hx hy h _ _=>exact fun g p q R q1 bs C l c c1 t I j J _ _ _ _ T U h'=>a0 (.prod ho hk hx hy h) zOm zOm zOm zOm zOm g p q R q1 bs C l c c1 t I j J T U h'
 |compr ho hk hx _=>exact fun g p q R q1 bs C l c c1 t I j J _ _ _ _ T U h'=>a0 (.compr ho hk hx) zOm zOm zOm zOm zOm g p q R q1 bs C l c c1 t I j J T U h'
 | @bin n x ho hk hx ih =>
  intro g p q R q1 bs C l c c1 t I j J hp hq P a1 T U h;by_cases o:n.op=11
  .rw [vB]at h⊢
   obtain⟨hc,h⟩:=ifn h;rw[if_pos (chk (.bin ho hk hx) I j J T U hc)];rw[zIn,zIn,zIn,zIn,if_pos o,hk,narT]at h⊢;exact ih g _ _ _ _ bs C l c c1 t I j J ⟨GR.trans h0 hp.1 hp.2,rfl⟩ ⟨GR.trans h0 hq.1 hq.2,rfl⟩ ⟨GR.trans h0 P.1 P.2,rfl⟩ ⟨GR.trans h0 a1.1 a1.2,rfl⟩ (Yz T) (Yz U) h
  .exact a0 (.bin ho hk hx) zOm zOm zOm zOm o g p q R q1 bs C l c c1 t I j J T U h
 | @alike n x y a ho hk hx hy a3 a4 =>
  intro g p q R q1 bs C l c c1 t I j J hp hq P a1 T U h;have hI:=W.ok I (ArN.alike ho hk hx hy);have a7:=W.ok j (ArN.alike ho hk hx hy);have hA:=Qc (a:=a) h0 (by rw[<-hI.la];exact hI.lo.ar1) (by rw[<-hI.la];exact hI.lo.ar3);have hZ:GR (sumI sc.sC) (⟨a,[]⟩:Rl):=GR.nil hA.1.ar1 hA.1.ar3;have mx:=W.mono j I J hx;have my:=W.mono j I J hy;rcases (show n.op=14\/n.op=6\/n.op=7\/n.op=8 by omega) with o|o
  .exact a0 (.alike ho hk hx hy) zOm zOm zOm zOm zOm g p q R q1 bs C l c c1 t I j J T U h
  rw[vB]at h⊢;obtain⟨hc,h⟩:=ifn h;rw[if_pos (chk (.alike ho hk hx hy) I j J T U hc),hI.la,hk];rw[a7.la,hk]at h;rcases o with o|o|o
  .rw [zIn,if_pos o,YI]at h⊢
   obtain⟨d1,e1,k1,k2⟩:=vS h;have s1:=yZ W hx g _ q1 C d1 c1 e1 j (cY P.1) P.2 a1.1 a1.2 k1;obtain⟨d,e,k,hd⟩:=a3 g ⟨p.ar,(diR p ((List.map (ivl ⟨ts,sc,bs⟩ []) [x,y]).getD 1 bd0).up).ts⟩ q _ q1 bs C d1 c c1 e1 I j J ⟨cY hp.1,hp.2⟩ hq ⟨cY P.1,P.2⟩ a1 (J7 T my.up) U k1;have s:=yZ W hx g _ q bs d c e I (cY hp.1) hp.2 hq.1 hq.2 k;rw[k];exact a4 g ⟨p.ar,(diR p ((List.map (ivl ⟨ts,sc,bs⟩ []) [x,y]).getD 0 bd0).up).ts⟩ q _ q1 d d1 l e e1 t s.v s1.v hd ⟨cY hp.1,hp.2⟩ hq ⟨cY P.1,P.2⟩ a1 (J7 T mx.up) U k2
  .rw [zIn,zIn,if_pos o,YI]at h⊢
   obtain⟨d1,e1,k1,k2⟩:=vS h;have s1:=yZ W hx g _ _ C d1 c1 e1 j P.1 P.2 hA.1 hA.2 k1;obtain⟨d,e,k,hd⟩:=a3 g p _ _ _ bs C d1 c c1 e1 I j J hp hA P hA T (le.rfl' _) k1;have s:=yZ W hx g _ _ bs d c e I hp.1 hp.2 hA.1 hA.2 k;rw[k];exact a4 g p _ _ _ d d1 l e e1 t s.v s1.v hd hp hA P hA T (le.rfl' _) k2
  .rw [zIn,zIn,zIn,if_pos o,Ko]at h⊢
   obtain⟨d1,e1,k1,k2⟩:=vS h;have s1:=yZ W hx g _ _ C d1 c1 e1 j P.1 P.2 hA.1 hA.2 k1;obtain⟨d,e,k,hd⟩:=a3 g p _ _ _ bs C d1 c c1 e1 I j J hp hA P hA T (le.rfl' _) k1;have s:=yZ W hx g _ _ bs d c e I hp.1 hp.2 hA.1 hA.2 k;rw[k];exact a4 g ⟨a,[]⟩ _ _ _ d d1 l e e1 t s.v s1.v hd ⟨hZ,rfl⟩ ⟨cY hA.1,hA.2⟩ ⟨hZ,rfl⟩ ⟨cY hA.1,hA.2⟩ (le.rfl' _) (J7 (le.rfl' _) T) k2
end
end KE
namespace KF
open Y1 P1 E1 E2 EC KA KB KD KE
def TyK(A:tZ->Option Int)(m:Nd):Prop:=
 (m.op=34\/m.op=35\/m.op=36\/m.op=37->∃ k a,m.sD=[k]/\ArN A k a)/\(m.op=32\/m.op=33->∃ k g a,m.sD=[k,g]/\ArN A k a/\ArN A g a)
def TyC(A:tZ->Option Int)(n:Nd):Prop:=TyK A n/\(n.op=40->∃ m,n.sD=[m]/\TyK A m)
variable {ts:TS} {sc:Sc}
theorem qbV{n a b}(C:GR n a)(I:GR n b)(h:le a b)(j:a.ts.length=1)(l:b.ts.length=1):le b a:=fun t g=>by
 match o:a.ts,j with
 | [x],_ =>
  match p:b.ts,l with
  | [y],_ =>
   have i:=h x (by rw[o];simp);rw[p]at i g;simp at i g;subst i;subst g;simp
theorem z_ok{n a}(g:1<=a)(i:a<=3):GR n (⟨a,[]⟩:Rl)/\(⟨a,[]⟩:Rl).ar=a:=⟨GR.nil g i,rfl⟩
theorem YJ(W:NwS ts sc){n a}(l:ArN (arT ts) n a)(g bs i c c')(j:BdS ts (sumI sc.sC) bs)(h:jh ts sc g n bs c=some (i,c')):vA ts (sumI sc.sC) bs i c c':=by
 have I:=W.ok j l;unfold jh at h;simp only at h;split at h
 .cases h
 split at h
 .rw [I.ua]at h
  have o:=Qc (a:=a) W.s.n0 (by rw[<-I.la];exact I.lo.ar1) (by rw[<-I.la];exact I.lo.ar3);exact yZ W l g _ _ bs i c c' j I.up I.ua o.1 o.2 h
 .cases h;exact .id j
theorem qbW(W:NwS ts sc){n a}(p:ArN (arT ts) n a)(g bs o i c c1 l)(J:BdS ts (sumI sc.sC) bs)(j:BdS ts (sumI sc.sC) o)(P:TgL o bs)(h:jh ts sc g n o c1=some (i,l)):∃ C c',jh ts sc g n bs c=some (C,c')/\TgL i C:=by
 have I:=W.ok J p;have I1:=W.ok j p;have m:=W.mono j J P p;have T:=Qc (a:=a) W.s.n0 (by rw[<-I.la];exact I.lo.ar1) (by rw[<-I.la];exact I.lo.ar3);have U:=YJ W p g o i c1 l j h;have hl:=J8 I1.up m.up;unfold jh at h⊢;simp only at h⊢;rw[I.ua];rw[I1.ua]at h;split at h
 .cases h
 rename_i n0;rw[zIn];by_cases R:(ivl ⟨ts,sc,bs⟩ [] n).up.ts.length=1
 .rw [if_pos R]
  have h2:(ivl ⟨ts,sc,o⟩ [] n).up.ts.length=1:=zOm;rw[if_pos h2]at h;exact ZO W p g _ _ _ _ bs o i c c1 l J j P ⟨I.up,I.ua⟩ T ⟨I1.up,I1.ua⟩ T (qbV I1.up I.up m.up h2 R) (le.rfl' _) h
 .rw [if_neg R]
  exact⟨bs,c,rfl,U.t.trans P⟩
theorem Kq(W:NwS ts sc){n a}(l:ArN (arT ts) n a)(g bs i c c')(j:BdS ts (sumI sc.sC) bs)(h:ji ts sc g n bs c=some (i,c')):vA ts (sumI sc.sC) bs i c c':=by
 have I:=W.ok j l;unfold ji at h;simp only at h;split at h
 .cases h
 split at h
 .rw [I.la]at h
  have o:=z_ok (n:=sumI sc.sC) (a:=a) (by rw[<-I.la];exact I.lo.ar1) (by rw[<-I.la];exact I.lo.ar3);exact yZ W l g _ _ bs i c c' j o.1 o.2 I.lo I.la h
 .cases h;exact .id j
theorem qbX(W:NwS ts sc){n a}(p:ArN (arT ts) n a)(g bs o i c c1 l)(J:BdS ts (sumI sc.sC) bs)(j:BdS ts (sumI sc.sC) o)(P:TgL o bs)(h:ji ts sc g n o c1=some (i,l)):∃ C c',ji ts sc g n bs c=some (C,c')/\TgL i C:=by
 have I:=W.ok J p;have I1:=W.ok j p;have m:=W.mono j J P p;have T:=z_ok (n:=sumI sc.sC) (a:=a) (by rw[<-I.la];exact I.lo.ar1) (by rw[<-I.la];exact I.lo.ar3);have U:=Kq W p g o i c1 l j h;have hl:=J8 I.lo m.lo;unfold ji at h⊢;simp only at h⊢;rw[I.la];rw[I1.la]at h;split at h
 .cases h
 rename_i n0;rw[zIn];by_cases R:(ivl ⟨ts,sc,bs⟩ [] n).lo.ts.length=1
 .rw [if_pos R]
  have h2:(ivl ⟨ts,sc,o⟩ [] n).lo.ts.length=1:=zOm;rw[if_pos h2]at h;exact ZO W p g _ _ _ _ bs o i c c1 l J j P T ⟨I.lo,I.la⟩ T ⟨I1.lo,I1.la⟩ (le.rfl' _) (qbV I.lo I1.lo m.lo R h2) h
 .rw [if_neg R]
  exact⟨bs,c,rfl,U.t.trans P⟩
theorem qmO(W:NwS ts sc){n a}(l:ArN (arT ts) n a)(g bs i c c')(o:BdS ts (sumI sc.sC) bs)(h:noN ts sc g n bs c=some (i,c')):vA ts (sumI sc.sC) bs i c c':=by
 have I:=W.ok o l;unfold noN at h;simp only at h;rw[I.la]at h;have j:=z_ok (n:=sumI sc.sC) (a:=a) (by rw[<-I.la];exact I.lo.ar1) (by rw[<-I.la];exact I.lo.ar3);exact yZ W l g _ _ bs i c c' o j.1 j.2 j.1 j.2 h
theorem qmP(W:NwS ts sc){n a}(C:ArN (arT ts) n a)(g bs p i c c1 j)(J:BdS ts (sumI sc.sC) bs)(l:BdS ts (sumI sc.sC) p)(P:TgL p bs)(h:noN ts sc g n p c1=some (i,j)):∃ o c',noN ts sc g n bs c=some (o,c')/\TgL i o:=by
 have I:=W.ok J C;have I1:=W.ok l C;have t:=z_ok (n:=sumI sc.sC) (a:=a) (by rw[<-I.la];exact I.lo.ar1) (by rw[<-I.la];exact I.lo.ar3);unfold noN at h⊢;simp only at h⊢;rw[I.la];rw[I1.la]at h;exact ZO W C g _ _ _ _ bs p i c c1 j J l P t t t t (le.rfl' _) (le.rfl' _) h
inductive Cst where
 |skip
 |bad
 |no (k:Nd)
 |some (k:Nd)
 |lone (k:Nd)
 |one (k:Nd)
 |sub (e:Bool) (k k':Nd)
def cstN(n:Nd):Cst:=
 let no:=decide (n.op=40)
 let m:=if n.op=40 then kidN n 0 else n
 let k:=kidN m 0
 if (no=true/\m.op=34)\/(no=false/\m.op=35) then .no k
 else if (no=true/\m.op=35)\/(no=false/\m.op=34) then .some k
 else if no=true then .skip
 else if m.op=31 then .bad
 else if m.op=36 then .one k
 else if m.op=37 then .lone k
 else if m.op=32\/m.op=33 then .sub (decide (m.op=33)) k (kidN m 1)
 else .skip
def runC(ts:TS)(sc:Sc)(g:Bool)(q:Cst)(bs:List Bd)(c:Bool):Br:=match q with
 | .skip=>Option.some (bs,c)
 | .bad=>Option.none
 | .no k=>noN ts sc g k bs c
 | .some k=>jh ts sc g k bs c
 | .lone k=>ji ts sc g k bs c
 | .one k=>brB (jh ts sc g k bs c) fun bs c=>ji ts sc g k bs c
 | .sub e k i =>
  let x:=ivl ⟨ts,sc,bs⟩ [] k
  let y:=ivl ⟨ts,sc,bs⟩ [] i
  let all:=allN (sumI sc.sC) x.lo.ar
  brB (narN ts sc g k (if e then y.lo else ⟨all.ar,[]⟩) y.up bs c) fun bs c=>narN ts sc g i x.lo (if e then x.up else all) bs c
theorem Kr(g n bs c):vg ts sc g n bs c=runC ts sc g (cstN n) bs c:=by
 unfold vg cstN;simp only
 repeat' split
 all_goals first
  |rfl
  | (simp only[runC];grind)
  |omega
  |grind [runC]
def TyQ(A:tZ->Option Int):Cst->Prop
 | .skip=>True
 | .bad=>True
 | .no k=>∃ a,ArN A k a
 | .some k=>∃ a,ArN A k a
 | .lone k=>∃ a,ArN A k a
 | .one k=>∃ a,ArN A k a
 | .sub _ k g=>∃ a,ArN A k a/\ArN A g a
theorem Ks{A n}(h:TyC A n):TyQ A (cstN n):=by
 obtain⟨⟨p,t⟩,C⟩:=h;unfold cstN;simp only;by_cases j:n.op=40
 .obtain ⟨m,I,l,P⟩:=C j
  have e:kidN n 0=m:=by simp[kidN,I]
  simp only[j,if_true,e,decide_true,true_and,Bool.true_eq_false,false_and,or_false];split
  .rename_i o
   obtain⟨k,a,g,i⟩:=l zOm;exact⟨a,by simpa[kidN,g] using i⟩
  split
  .rename_i o
   obtain⟨k,a,g,i⟩:=l zOm;exact⟨a,by simpa[kidN,g] using i⟩
  trivial
 .simp only[j,if_false,decide_false,Bool.false_eq_true,false_and,false_or,true_and]
  have one:(n.op=34\/n.op=35\/n.op=36\/n.op=37)->∃ a,ArN A (kidN n 0) a:=fun o=>by
   obtain⟨k,a,g,i⟩:=p o;exact⟨a,by simpa[kidN,g] using i⟩
  split
  .exact one zOm
  split
  .exact one zOm
  split
  .trivial
  split
  .exact one zOm
  split
  .exact one zOm
  split
  .rename_i o
   obtain⟨k,R,a,g,i,J⟩:=t o;exact⟨a,by simpa[kidN,g] using i,by simpa[kidN,g] using J⟩
  trivial
theorem UR(W:NwS ts sc){q}(p:TyQ (arT ts) q)(g bs i c c')(l:BdS ts (sumI sc.sC) bs)(h:runC ts sc g q bs c=some (i,c')):vA ts (sumI sc.sC) bs i c c':=by
 cases q with
 |skip=>cases h;exact .id l
 |bad=>cases h
 |no k=>obtain⟨a,j⟩:=p;exact qmO W j g bs i c c' l h
 |some k=>obtain⟨a,j⟩:=p;exact YJ W j g bs i c c' l h
 |lone k=>obtain⟨a,j⟩:=p;exact Kq W j g bs i c c' l h
 |one k =>
  obtain⟨a,j⟩:=p;obtain⟨d,e,t,C⟩:=vS h;have s:=YJ W j g bs d c e l t;exact s.trans (Kq W j g d i e c' s.v C)
 |sub eq k T =>
  obtain⟨a,j,o⟩:=p;obtain⟨d,e,t,C⟩:=vS h;have I:=W.ok l j;have J:=W.ok l o;have P:=Qc (a:=a) W.s.n0 (by rw[<-I.la];exact I.lo.ar1) (by rw[<-I.la];exact I.lo.ar3);have R:=z_ok (n:=sumI sc.sC) (a:=a) P.1.ar1 P.1.ar3;rw[I.la]at t C;cases eq with
  |true =>
   have s:=yZ W j g _ _ bs d c e l J.lo J.la J.up J.ua t;exact s.trans (yZ W o g _ _ d i e c' s.v I.lo I.la I.up I.ua C)
  |false =>
   have s:=yZ W j g _ _ bs d c e l R.1 R.2 J.up J.ua t;exact s.trans (yZ W o g _ _ d i e c' s.v I.lo I.la P.1 P.2 C)
theorem qmQ(W:NwS ts sc){q}(hq:TyQ (arT ts) q)(g bs t l c c1 o)(p:BdS ts (sumI sc.sC) bs)(i:BdS ts (sumI sc.sC) t)(T:TgL t bs)(h:runC ts sc g q t c1=some (l,o)):∃ a0 c',runC ts sc g q bs c=some (a0,c')/\TgL l a0:=by
 cases q with
 |skip=>cases h;exact⟨bs,c,rfl,T⟩
 |bad=>cases h
 |no k=>obtain⟨a,j⟩:=hq;exact qmP W j g bs t l c c1 o p i T h
 |some k=>obtain⟨a,j⟩:=hq;exact qbW W j g bs t l c c1 o p i T h
 |lone k=>obtain⟨a,j⟩:=hq;exact qbX W j g bs t l c c1 o p i T h
 |one k =>
  obtain⟨a,j⟩:=hq;obtain⟨d1,R,U,h2⟩:=vS h;obtain⟨d,e,k1,hd⟩:=qbW W j g bs t d1 c c1 R p i T U;have s:=YJ W j g bs d c e p k1;have s1:=YJ W j g t d1 c1 R i U;simp only[runC];rw[k1];exact qbX W j g d d1 l e R o s.v s1.v hd h2
 |sub eq k k' =>
  obtain⟨a,j,P⟩:=hq;obtain⟨d1,R,U,h2⟩:=vS h;have I:=W.ok p j;have J:=W.ok p P;have I1:=W.ok i j;have C:=W.ok i P;have m:=W.mono i p T j;have m':=W.mono i p T P;have hA:=Qc (a:=a) W.s.n0 (by rw[<-I.la];exact I.lo.ar1) (by rw[<-I.la];exact I.lo.ar3);have hZ:=z_ok (n:=sumI sc.sC) (a:=a) hA.1.ar1 hA.1.ar3;simp only[runC];rw[I.la];rw[I1.la]at U h2;cases eq with
  |true =>
   obtain⟨d,e,k1,hd⟩:=ZO W j g _ _ _ _ bs t d1 c c1 R p i T ⟨J.lo,J.la⟩ ⟨J.up,J.ua⟩ ⟨C.lo,C.la⟩ ⟨C.up,C.ua⟩ m'.lo m'.up U;have s:=yZ W j g _ _ bs d c e p J.lo J.la J.up J.ua k1;have s1:=yZ W j g _ _ t d1 c1 R i C.lo C.la C.up C.ua U;simp only[if_true];rw[k1];exact ZO W P g _ _ _ _ d d1 l e R o s.v s1.v hd ⟨I.lo,I.la⟩ ⟨I.up,I.ua⟩ ⟨I1.lo,I1.la⟩ ⟨I1.up,I1.ua⟩ m.lo m.up h2
  |false =>
   obtain⟨d,e,k1,hd⟩:=ZO W j g _ _ _ _ bs t d1 c c1 R p i T hZ ⟨J.up,J.ua⟩ hZ ⟨C.up,C.ua⟩ (le.rfl' _) m'.up U;have s:=yZ W j g _ _ bs d c e p hZ.1 hZ.2 J.up J.ua k1;have s1:=yZ W j g _ _ t d1 c1 R i hZ.1 hZ.2 C.up C.ua U;simp only[Bool.false_eq_true,if_false];have a1:narN ts sc g k ⟨(allN (sumI sc.sC) a).ar,[]⟩ (ivl ⟨ts,sc,bs⟩ [] k').up bs c=some (d,e):=k1;rw[a1];exact ZO W P g _ _ _ _ d d1 l e R o s.v s1.v hd ⟨I.lo,I.la⟩ hA ⟨I1.lo,I1.la⟩ hA m.lo (le.rfl' _) h2
def TyL(A:tZ->Option Int)(l:List Nd):Prop:=∀ n,n∈l->∀ g,TyC A (ya n g).1
theorem ZP(W:NwS ts sc):∀ l,TyL (arT ts) l->∀ bs g c c',BdS ts (sumI sc.sC) bs->yp ts sc l bs c=some (g,c')->vA ts (sumI sc.sC) bs g c c'
 | [],_,bs,g,c,c',i,h=>by cases h;exact .id i
 |n :: l,j,bs,g,c,c',i,h=>by
  rw[yp]at h;obtain⟨d,e,o,p⟩:=vS h;rw[Kr]at o;have s:=UR W (Ks (j n zSp _)) _ bs d c e i o;exact s.trans (ZP W l (fun x t=>j x (zP1 t)) d g e c' s.v p)
theorem qbY(W:NwS ts sc):∀ l,TyL (arT ts) l->∀ bs j g c c1 i,BdS ts (sumI sc.sC) bs->BdS ts (sumI sc.sC) j->TgL j bs->yp ts sc l j c1=some (g,i)->∃ p c',yp ts sc l bs c=some (p,c')/\TgL g p
 | [],_,bs,j,g,c,c1,i,t,o,C,h=>by cases h;exact⟨bs,c,rfl,C⟩
 |n :: l,R,bs,j,g,c,c1,i,t,o,C,h=>by
  rw[yp]at h⊢;obtain⟨d1,I,J,U⟩:=vS h;rw[Kr]at J⊢;have P:=Ks (R n zSp (decide (sc.sN=1)));obtain⟨d,e,T,hd⟩:=qmQ W P _ bs j d1 c c1 I t o C J;have s:=UR W P _ bs d c e t T;have s1:=UR W P _ j d1 c1 I o J;rw[T];exact qbY W l (fun x hx=>R x (zP1 hx)) d d1 g e I i s.v s1.v hd U
theorem qmR(W:NwS ts sc){l k}(i:TyL (arT ts) (l++k)){bs}(o:BdS ts (sumI sc.sC) bs)(h:yp ts sc (l++k) bs false=some (bs,false)):yp ts sc l bs false=some (bs,false):=by
 have app:∀(l k:List Nd)(bs:List Bd)(c:Bool),yp ts sc (l++k) bs c=brB (yp ts sc l bs c) fun bs c=>yp ts sc k bs c:=fun l=>by
  induction l with
  |nil=>intro k bs c;rfl
  |cons n l p =>
   intro k bs c;rw[yL,yp,yp];cases vg ts sc (ya n (decide (sc.sN=1))).2 (ya n (decide (sc.sN=1))).1 bs c with
   |none=>rfl
   |some r=>obtain⟨b,c⟩:=r;simp only[brB,p]
 rw[app]at h;obtain⟨d,e,j,t⟩:=vS h;have s1:=ZP W l (fun x g=>i x (zP1 g)) bs d false e o j;have C:=ZP W k (fun x g=>i x (zP1 g)) d bs e false s1.v t;obtain⟨I,J⟩:=C.c rfl;rw[j,<-I,J]
theorem US(W:NwS ts sc){l}(j:TyL (arT ts) l):∀ f bs x,BdS ts (sumI sc.sC) bs->fixN ts sc l f bs=some x->BdS ts (sumI sc.sC) x/\TgL x bs
 | 0,bs,x,g,h=>by cases h;exact⟨g,TgL.rfl' _⟩
 |f+1,bs,x,g,h=>by
  rw[fixN]at h;cases i:yp ts sc l bs false with
  |none=>rw[i]at h;cases h
  |some r =>
   obtain⟨b',c⟩:=r;rw[i]at h;have s:=ZP W l j bs b' false c g i;cases c with
   |true =>
    obtain⟨o,p⟩:=US W j f b' x s.v h;exact⟨o,p.trans s.t⟩
   |false=>cases h;exact⟨s.v,s.t⟩
theorem UT(W:NwS ts sc){l}(i:TyL (arT ts) l):∀ f bs x,BdS ts (sumI sc.sC) bs->gapL bs<f->fixN ts sc l f bs=some x->yp ts sc l x false=some (x,false)
 | 0,bs,x,j,o,h=>zOm
 |f+1,bs,x,j,o,h=>by
  rw[fixN]at h;cases g:yp ts sc l bs false with
  |none=>rw[g]at h;cases h
  |some r =>
   obtain⟨b',c⟩:=r;rw[g]at h;have s:=ZP W l i bs b' false c j g;cases c with
   |true =>
    have:=s.d rfl;exact UT W i f b' x s.v (by
     rcases this with h|h
     .cases h
     .omega) h
   |false =>
    cases h;obtain⟨e,_⟩:=s.c rfl;rw[e]at g⊢;exact g
theorem Kt(W:NwS ts sc){l}(g:TyL (arT ts) l){y}(o:BdS ts (sumI sc.sC) y)(hf:yp ts sc l y false=some (y,false)):∀ f bs,BdS ts (sumI sc.sC) bs->TgL y bs->∃ x,fixN ts sc l f bs=some x/\TgL y x
 | 0,bs,i,j=>⟨bs,rfl,j⟩
 |f+1,bs,i,j=>by
  obtain⟨b',c,p,t⟩:=qbY W l g bs y y false false false i o j hf;have s:=ZP W l g bs b' false c i p;rw[fixN,p];cases c with
  |true=>exact Kt W g o hf f b' s.v t
  |false=>exact⟨b',rfl,t⟩
end KF
namespace YZ
open YM P1 Y1 Y9 YX
mutual
def depN:Nd->Int
 | .mk _ _ _ ks _=>yq ks+1
def yq:List Nd->Int
 | []=>0
 |k :: ks=>max (depN k) (yq ks)
end
mutual
theorem qmS:∀ n:Nd,0<=depN n
 | .mk _ _ _ ks _=>by simp only[depN];have:=UU ks;omega
theorem UU:∀ ks:List Nd,0<=yq ks
 | []=>by simp[yq]
 |k :: ks=>by simp only[yq];have:=UU ks;omega
end
theorem Zg(n):depN n=yq n.sD+1:=by
 obtain⟨op,nm,i,ks,p⟩:=n;simp[depN,Nd.sD]
theorem qbZ{ks k}(h:k∈ks):depN k<=yq ks:=by
 induction ks with
 |nil=>simp at h
 |cons a l g =>
  simp only[yq];rcases qy.1 h with rfl|h
  .omega
  .have:=g h;omega
theorem qb0:∀ m n,szN n<=m->Small n->depN n<=1000000->qg qc 118 [eNd n] (aI (depN n))
 | 0,n,J,_,_=>by obtain⟨op,nm,i,ks,p⟩:=n;simp[szN]at J
 |m+1,n,J,P,R=>by
  have ih:∀ k,k∈n.sD->qg qc 118 [eNd k] (aI (depN k)):=fun k j =>
   qb0 m k (zW1 (zf j)) (P.kid j) (by rw[Zg]at R;have:=qbZ j;omega)
  rw[Zg]at R⊢;have T:=P.len;have a0:=UU n.sD;generalize hD:yq n.sD=D at *
  refine qSU call118 func118 rfl ?_;refine aA n.sD.length (fun k U=>∃ d,U.tm 3=aI d/\U.tm 7=lNd n.sD/\U.tm 8=aI n.sD.length/\U.tm 9=aI k/\0<=d/\max d (yq (n.sD.drop k))=D) ?_ ?_
  .exact ⟨0,zSi,zSi,zSi,zSi,zOm,by simp only[List.drop_zero,hD];omega⟩
  .rintro k U j ⟨d,e3,e7,o,t,a1,l⟩
   by_cases C:k=n.sD.length
   .subst C
    rw[zU]at l;simp only[yq]at l;have I:d=D:=zOm;subst I;have w:ql.wrap (d+1)=d+1:=zWr;simp[go_sem,e3,o,t,w];exact .zsc _
   .have g:k<n.sD.length:=by omega
    have w1:=zWk k;rw[zg g]at l;simp only[yq]at l;simp[go_sem,e3,e7,o,t,g];refine tU (ih n.sD[k] (qt g)) (.zk (qE _) .nil) ?_;simp[go_sem,t,w1];refine⟨g,aC ?_⟩;refine⟨if d<depN n.sD[k] then depN n.sD[k] else d,zSi,by simp[go_sem,e7],zS1 o,zSi,?_,?_⟩
    .have:=qmS n.sD[k]
     split<;>omega
    .split<;>omega
mutual
def preN:Nd->List Nd
 | .mk op nm n ks p => .mk op nm n ks p :: zo ks
def zo:List Nd->List Nd
 | []=>[]
 |k :: ks=>preN k++zo ks
end
theorem wv(n):preN n=n :: zo n.sD:=by
 obtain⟨op,nm,i,ks,p⟩:=n;simp[preN,Nd.sD]
theorem YK(a b):zo (a++b)=zo a++zo b:=by
 induction a with
 |nil=>rfl
 |cons x a g=>simp[zo,g]
theorem Ku{f caps}(I:List Nd->Mu->Prop)(hp:∀ v mu l,I v mu->I v (mu++l))(hf:∀ v k mu,I v mu->qv qc f (eNd k :: caps) mu fun e m=>e = .ret (.tup [])/\I (v++[k]) m) :
  ∀ m n,szN n<=m->Small n->∀ v mu,I v mu->qv qc 112 [eNd n,.fn (.func f) [] caps] mu fun e m=>e = .ret (.tup [])/\I (v++preN n) m
 | 0,n,hm,_,_,_,_=>by obtain⟨op,nm,i,ks,p⟩:=n;simp[szN]at hm
 |m+1,n,hm,hs,v,mu,J=>by
  have ih:∀ k,k∈n.sD->∀ v mu,I v mu->qv qc 112 [eNd k,.fn (.func f) [] caps] mu fun e m=>e = .ret (.tup [])/\I (v++preN k) m:=fun k P v mu J =>
   Ku I hp hf m k (zW1 (zf P)) (hs.kid P) v mu J
  have a1:=hs.len;rw[wv];refine qSW call112 func112 rfl {} ?_;simp[go_sem];refine fY (hf v n mu J) ?_ (by rintro r m ⟨e,_⟩;cases e);rintro r m ⟨e,R⟩;cases e;simp[go_sem];refine aA n.sD.length (fun k U=>U.tm 1 = .fn (.func f) [] caps/\U.tm 10=lNd n.sD/\U.tm 11=aI n.sD.length/\U.tm 12=aI k/\I (v++[n]++zo (n.sD.take k)) U.mu) ?_ ?_
  .exact ⟨zSi,zSi,zSi,zSi,by simpa[go_sem,zo] using R⟩
  .rintro k U P ⟨e1,C,j,o,t⟩
   by_cases T:k=n.sD.length
   .subst T
    rw[zi]at t;simp[go_sem,j,o];simpa using t
   .have g:k<n.sD.length:=by omega
    have w1:=zWk k;simp[go_sem,e1,C,j,o,g];refine fZ (ih n.sD[k] (qt g) _ _ (hp _ _ _ t)) ?_ (by rintro r m ⟨e,_⟩;cases e);rintro r m ⟨e,a0⟩;cases e;simp[go_sem,o,w1];refine⟨g,aC ?_⟩;refine⟨zS1 e1,zS1 C,zS1 j,zSi,?_⟩;have e:zo (n.sD.take (k+1))=zo (n.sD.take k)++preN n.sD[k]:=by
     rw[List.take_add_one,qB g,YK];simp[zo]
    rw[e,<-zG];simpa[go_sem] using a0
def setN(l:List tZ)(b:tZ):List (tZ×Bool)->List (tZ×Bool):=fun C=>setK b true C
abbrev eSet(es:List (tZ×Bool)):List (AV×AV):=encK aS aB es
theorem updS{mu b es}(i:mu[b]?=some (.mp (eSet es)))(nm) :
  ju qc mu 172 (.mp b) (aS nm) (aB true)=some (mu.set b (.mp (eSet (setK nm true es)))):=
 keyS.update (et:=4) (t:=172) zSi (mu:=mu) (b:=b) (venc:=aB) (es:=es) i (k:=nm) (v:=true) trivial (fun _ _=>trivial)
theorem qmT(ts s tb c es n){mu p g xb}(t:mu[p]?=some (.arr [.ptr xb 0]))(C:mu[xb]?=some (.arr (cIn ts tb s)))(l:mu[g]?=some (.arr [aB c]))(j:mu[tb]?=some (.mp (eSet es))) :
  qv qc 113 [eNd n,.ptr p 0,.ptr g 0] mu fun e m=>e = .ret (.tup [])/\m=(mu.set tb (.mp (eSet (setK n.name true es)))).set g (.arr [aB (c||decide (n.op=47))]):=by
 refine qSW call113 func113 rfl {} ?_;have I:g<mu.length:=(qh.1 l).1;have J:tb<mu.length:=(qh.1 j).1;simp[go_sem];refine tR zKr ?_;have P:=updS j n.name;simp[go_sem,t,C];refine tH _ P ?_;have o:tb≠g:=fun e=>by rw[e,l]at j;cases j
 generalize R:Cell.mp (eSet (setK n.name true es))=N at *
 have i:(mu.set tb N)[g]?=some (.arr [aB c]):=by rw[zH o];exact l
 cases c
 .simp [go_sem,i]
  try rfl
 .simp [go_sem,i]
  try rfl
theorem qmU(ts s tb es n){mu g xb}(j:mu[g]?=some (.arr [.ptr xb 0]))(l:mu[xb]?=some (.arr (cIn ts tb s)))(i:mu[tb]?=some (.mp (eSet es))) :
  qv qc 114 [eNd n,.ptr g 0] mu fun e m=>e = .ret (.tup [])/\m=mu.set tb (.mp (eSet (setK n.name true es))):=by
 refine qSW call114 func114 rfl {} ?_;have o:tb<mu.length:=(qh.1 i).1;simp[go_sem];refine tR zKr ?_;have p:=updS i n.name;simp[go_sem,j,l];refine tH _ p ?_;simp[go_sem]
end YZ
namespace YA
open YM YS YF P1 Y1 Y9 Y10 YX YZ
def vN(k:Int):tZ:=⟨#[118]⟩++jq k
theorem Kv(k)(g : -9223372036854775808<=k)(i:k<=9223372036854775807):(jq k).size<=21:=by
 have:=Lib.itoa_length_le k g i;unfold jq;simpa[ByteArray.size] using this
def yD(ts:TS)(es:List (tZ×Bool))(nm:tZ):Bool:=decide (getK nm es≠some true)&&decide (means ts nm=[])
def zp(ts:TS)(es:List (tZ×Bool)):Nat->Int->Int
 | 0,k=>k+1
 |f+1,k=>if yD ts es (vN (k+1))=true then k+1 else zp ts es f (k+1)
theorem qmV{mu tb es}(i:mu[tb]?=some (.mp (eSet es)))(nm):yj qc mu 172 (.mp tb) (aS nm) false=some (aB (decide (getK nm es=some true))):=by
 have:=keyS.look (et:=4) (t:=172) zSi (mu:=mu) (m := .mp tb) (venc:=aB) (es:=es) (by simp only[jD,i]) (k:=nm) trivial (fun _ _=>trivial) (z:=aB false) zSi false;refine Eq.trans ?_ (this.trans ?_)
 .rfl
 .cases getK nm es with
  |none=>rfl
  |some b=>cases b<;>rfl
theorem qmW{mu:Mu}{b c}(h:mu[b]?=some c):mu.set b c=mu:=by
 apply jZ;intro i;by_cases e:b=i
 .subst e
  rw[qz (qh.1 h).1,h]
 .rw [zH e]
theorem qb1(ts)(h:okTS ts)(s:ISt)(F:Nat)(hs:0<=s.last/\s.last+F<=1000000000)(tb es)(T:∃ j,1<=j/\j<=F/\yD ts es (vN (s.last+j))=true){mu xb}(hx:mu[xb]?=some (.arr (cIn ts tb s)))(ht:mu[tb]?=some (.mp (eSet es))) :
  qv qc 239 [.ptr xb 0] mu fun e m=>e = .ret (aS (vN (zp ts es F s.last)))/\m=mu.set xb (.arr (cIn ts tb ⟨zp ts es F s.last,s.sM⟩)):=by
 refine qSW call239 func239 rfl {} ?_;have a0:xb<mu.length:=(qh.1 hx).1;have a3:tb≠xb:=fun e=>by rw[e,hx]at ht;cases ht
 simp[go_sem];generalize hR:zp ts es F s.last=R;refine tV (fun m U=>∃ l:Int,0<=l/\l+m<=1000000000/\U.tm 0 = .ptr xb 0/\U.mu=mu.set xb (.arr (cIn ts tb ⟨l,s.sM⟩))/\zp ts es m l=R/\∃ j:Nat,1<=j/\j<=m/\yD ts es (vN (l+j))=true) F ?_ ?_
 .refine ⟨s.last,hs.1,hs.2,zSi,?_,hR,T⟩
  simp only[go_sem,qI,st0];rw[show cIn ts tb ⟨s.last,s.sM⟩=cIn ts tb s from rfl];exact(qmW hx).symm
 .rintro m U ⟨l,a7,a8,C,hm,hI,j,a9,aa,p⟩
  obtain⟨m,rfl⟩:∃ m',m=m'+1:=⟨m-1,zOm⟩;have w1:ql.wrap (l+1)=l+1:=zWr;have t:∀ c,(mu.set xb c)[xb]?=some c:=fun c=>qz a0
  have a4:∀ c d,(mu.set xb c).set xb d=mu.set xb d:=fun c d=>List.set_set ..
  have a5:∀ c,(mu.set xb c)[tb]?=some (.mp (eSet es)):=fun c=>by rw[zH (fun e=>a3 e.symm)];exact ht
  have ab:=Kv (l+1) zOm zOm;have I:1+(jq (l+1)).size<=9223372036854775807:=zOm;simp[go_sem,C,hm,t,a4,w1];refine tU (itoaU (l+1) zOm zOm) (.zs .nil) ?_;simp[go_sem,C,t,I];rw[show (⟨#[118]⟩:tZ)++jq (l+1)=vN (l+1) from rfl];generalize i:vN (l+1)=nm;have J:=fun c=>qmV (a5 c) nm
  simp[go_sem]at J;refine tH _ (J _) ?_;have g:yD ts es nm=false->zp ts es m (l+1)=R/\∃ j:Nat,1<=j/\j<=m/\yD ts es (vN (l+1+j))=true:=fun hn=>by
   simp only[zp,i,hn]at hI;refine⟨zUs hI,j-1,?_,zOm,?_⟩
   .have:j≠1:=fun e=>by rw[e,show l+((1:Nat):Int)=l+1 by omega,i,hn]at p;cases p
    omega
   .rw [show l+1+((j-1:Nat):Int)=l+j by omega];exact p
  by_cases P:getK nm es=some true
  case pos =>
   obtain⟨a1,a2⟩:=g (by simp[yD,P]);simp[go_sem,P];refine Keep.loop m zOm ⟨l+1,zOm,zOm,zS1 C,zSi,a1,a2⟩
  case neg =>
   simp[go_sem,C,t,P];refine tU (XP ts h nm) (.zk (zw ts) (.zs .nil)) ?_;by_cases o:means ts nm=[]
   .have a6:R=l+1:=by
     rw[<-hI];simp[zp,i,yD,P,o]
    subst a6;simp[go_sem,o];rw[i]
    try rfl
   .obtain ⟨a1,a2⟩:=g (by simp[yD,o])
    simp[go_sem,o];refine Keep.loop m zOm ⟨l+1,zOm,zOm,zS1 C,zSi,a1,a2⟩
end YA
namespace YB
open YM YF P1 Y1 Y6 Y9 Y10 YX YZ YA
section
variable {es:IEnv}{mu:Mu}{b xb:Nat}
def qm(ts:TS)(es:List (tZ×Bool)):Nat:=es.length+ts.sA.length+3*ts.sS.length+1
def renI(ts:TS)(es:List (tZ×Bool))(env:IEnv)(nm:tZ)(body:Bool)(s:ISt):(IEnv×tZ)×ISt:=
 if body=true\/means ts nm≠[] then
  ((setK nm ⟨none,0,vN (zp ts es (qm ts es) s.last)⟩ (delK nm env),vN (zp ts es (qm ts es) s.last)),⟨zp ts es (qm ts es) s.last,s.sM⟩)
 else ((delK nm env,nm),s)
theorem Zh{g J}[DecidableEq g]{k v}:∀{es},(es.map Prod.fst).Nodup->∀{x:g×J},x∈setK k v es↔x=(k,v)\/(x∈es/\x.1≠k)
 | [],_,x=>by simp[setK]
 |e :: es,h,x=>by
  rw[za,List.nodup_cons]at h;unfold setK;by_cases i:k=e.1
  .rw [if_pos i,qy,qy]
   constructor
   .grind
   grind
  .rw [if_neg i,qy,qy,Zh h.2]
   constructor
   .grind
   grind
theorem vT{g m i}(h:g i=true):(cutM g m 0)[i]?=m[i]?:=by
 simp_all[j5,yM,if_true]
theorem qmX{x}:x∈encK aS eIV es↔∃ y,y∈es/\(aS y.1,eIV y.2)=x:=qn
theorem Kw(h:(es.map Prod.fst).Nodup):((encK aS eIV es).map Prod.fst).Nodup:=by
 have e:(encK aS eIV es).map Prod.fst=(es.map Prod.fst).map aS:=by simp[encK]
 grind
theorem qmY{fs}(g:mu[b]?=some (.md (encK aS eIV es)))(i:(es.map Prod.fst).Nodup)(j:(fs.map Prod.fst).Nodup)(o:∀ x,x∈es↔x∈fs):Rd mu (.mp b) (eEnv fs):=by
 refine Rd.mds g (Kw i) (Kw j) (fun x=>?_) (fun x l=>?_)
 .grind
 .obtain ⟨y,_,rfl⟩:=qmX.1 l
  grind [HF.sc,qlL]
theorem updE(i:mu[b]?=some (.mp (encK aS eIV es)))(nm v) :
  ju qc mu 179 (.mp b) (aS nm) (eIV v)=some (mu.set b (.mp (encK aS eIV (setK nm v es)))):=
 keyS.update (et:=248) (t:=179) zSi (mu:=mu) (b:=b) (venc:=eIV) (es:=es) i (k:=nm) (v:=v) trivial (fun _ _=>trivial)
theorem qb2(i:mu[b]?=some (.md (encK aS eIV es)))(nm v) :
  ju qc mu 179 (.mp b) (aS nm) (eIV v)=some (mu.set b (.md (encK aS eIV (setK nm v es)))):=
 keyS.updateD (et:=248) (t:=179) zSi (mu:=mu) (b:=b) (venc:=eIV) (es:=es) i (k:=nm) (v:=v) trivial (fun _ _=>trivial)
structure But (xb:Nat) (mu m:Mu):Prop where
 len:mu.length<=m.length
 same:∀ i,i<mu.length->i≠xb->m[i]?=mu[i]?
theorem But.trans{a b c}(h:But xb a b)(k:But xb b c):But xb a c:=⟨zS h.len k.len,fun i g j=>(k.same i (Nat.lt_of_lt_of_le g h.len) j).trans (h.same i g j)⟩
theorem But.app(xb mu l):But xb mu (mu++l):=⟨zSp,fun i g _=>qG g⟩
theorem cH(xb mu c):But xb mu (mu.set xb c):=⟨zSp,fun i j g=>zH (fun e=>g e.symm)⟩
theorem But.setN{m}(h:But xb mu m){j}(o:mu.length<=j)(c):But xb mu (m.set j c):=⟨by simpa using h.len,fun i g l=>by rw[zGl];exact h.same i g l⟩
theorem But.cut{m}(h:But xb mu m){g}(l:∀ i,i<mu.length->g i=true):But xb mu (cutM g m 0):=⟨by rw[jC];exact h.len,fun i j o=>by rw[vT (l i j)];exact h.same i j o⟩
theorem qmZ(a):(aArg a).one=true:=by cases a<;>rfl
theorem qm0(ts)(h:okTS ts)(s:ISt)(es)(hs:0<=s.last/\s.last+(qm ts es:Nat)<=1000000000)(tb)(aa:∃ j,1<=j/\j<=qm ts es/\yD ts es (vN (s.last+j))=true)(env)(hk:(env.map Prod.fst).Nodup)(nm body)
  {mu} {xb} (hx:mu[xb]?=some (.arr (cIn ts tb s))) (ht:mu[tb]?=some (.mp (eSet es))) :
  qv qc 187 [.ptr xb 0,eEnv env,aS nm,aB body] mu fun e m=>e = .ret (.tup [eEnv (renI ts es env nm body s).1.1,aS (renI ts es env nm body s).1.2])/\But xb mu m/\m[xb]?=some (.arr (cIn ts tb (renI ts es env nm body s).2)):=by
 refine fH ?_;refine qSW call187 func187 rfl {} ?_;have az:xb<mu.length:=(qh.1 hx).1;have ah:tb<mu.length:=(qh.1 ht).1;have ai:tb≠xb:=fun e=>by grind
 simp[go_sem];obtain⟨B,hB⟩:∃ B,B=encK aS eIV env:=⟨_,rfl⟩;have b0:B.length=env.length:=by rw[hB];simp
 rw[<-hB];refine qk.seen env.length (fun seen U=>U.tm 0 = .ptr xb 0/\U.tm 2=aS nm/\U.tm 3=aB body/\U.tm 10 = .mp mu.length/\U.tm 16 = .ptr (mu.length+1) 0/\But xb mu U.mu/\mu.length+1<U.mu.length/\U.mu[xb]?=mu[xb]?/\U.mu[mu.length+1]?=some (.it B seen) /\
  ∃ o:IEnv,U.mu[mu.length]?=some (.mp (encK aS eIV o))/\(o.map Prod.fst).Nodup/\∀ x,x∈o↔∃ i,i∈seen/\env[i]?=some x) ?_ ?_
 .simp_all [go_sem,But.app,qG]
 .rintro seen U b1 b2 ⟨e0,e2,e3,p,a5,R,hl,aj,ak,o,ab,C,I⟩
  simp[go_sem,a5];refine⟨mu.length+1,B,seen,rfl,ak,fun i e hi al=>?_,fun ax=>?_⟩
  .have J:∃ y,env[i]?=some y/\e=(aS y.1,eIV y.2):=by
    rw[hB,zB,um]at hi;obtain⟨y,J,rfl⟩:=hi
    grind
   obtain⟨⟨k,va,vz,vn⟩,J,rfl⟩:=J;have an:i<env.length:=(qh.1 J).1;have a6:∀(c:Cell)(l:List Cell),(U.mu.set (mu.length+1) c++l)[mu.length]?=some (.mp (encK aS eIV o)):=fun c l=>by
    grind
   have hu:=fun c l=>updE (a6 c l) k ⟨va,vz,vn⟩
   simp[go_sem,p,a5,hi,hl,qmZ];refine tH _ (hu _ _) ?_;generalize hM:List.set (U.mu.set (mu.length+1) (Cell.it B (seen++[i]))++[Cell.arr [aArg va,aI vz,aS vn]]) mu.length (.mp (encK aS eIV (setK k ⟨va,vz,vn⟩ o)))=M;have b3:M.length=U.mu.length+1:=by rw[<-hM];simp
   have ao:∀ j,j<U.mu.length->j≠mu.length->j≠mu.length+1->M[j]?=U.mu[j]?:=fun j h1 h2 h3=>by
    grind
   have aq:M[mu.length]?=some (.mp (encK aS eIV (setK k ⟨va,vz,vn⟩ o))):=by
    grind
   have b4:M[mu.length+1]?=some (.it B (seen++[i])):=by
    grind
   have a7:∀ v,(k,v)∈o->False:=fun v hm=>by
    obtain⟨j,P,he⟩:=(I _).1 hm;have h1:(env.map Prod.fst)[j]?=some k:=by rw[zB,he];rfl
    have h2:(env.map Prod.fst)[i]?=some k:=by rw[zB,J];rfl
    have b5:j<(env.map Prod.fst).length:=(qh.1 h1).1
    grind [List.getElem?_inj]
   simp[go_sem];refine⟨i,an,al,aC ?_⟩;refine⟨zS1 e0,zS1 e2,zS1 e3,zS1 p,zS1 a5,?_,by grind [qI],?_,by simp[go_sem, *],_,zVs aq,u6 C,fun x v=>?_⟩
   .simp only[go_sem,qI]
    exact⟨zOm,fun j P hn=>by rw[ao j zOm zOm zOm];exact R.same j P hn⟩
   .grind [qI]
   .rw [Zh C,I]
    constructor
    .rintro (e|⟨⟨j,P,he⟩,_⟩)
     .exact ⟨i,zSp,by rw[J,e]⟩
     .exact ⟨j,zP1 P,he⟩
    .rintro ⟨j,P,he⟩
     rcases qO.1 P with P|P
     .refine .inr ⟨⟨j,P,he⟩,fun e=>?_⟩
      simp only at e;subst e;exact a7 v ((I _).2 ⟨j,P,he⟩)
     .rw [qS]at P
      subst P;rw[J]at he;exact .inl (Option.some.inj he).symm
  .simp [go_sem,e2,p]
   have ar:∀ x,x∈o↔x∈env:=fun x=>by
    grind [qQ,List.mem_iff_getElem?,qh]
   refine keyS.delete (et:=248) (t:=179) zSi ab trivial (fun _ _=>trivial) ?_;have T:=ZF (k:=nm) C;have a8:∀ x,x∈delK nm o↔x∈delK nm env:=fun x=>by grind [Xx]
   have ad:mu.length<U.mu.length:=zOm;have au:∀ c,(U.mu.set mu.length c)[xb]?=some (.arr (cIn ts tb s)):=fun c=>by rw[zGl,aj];exact hx
   have av:∀ c,(U.mu.set mu.length c)[tb]?=some (.mp (eSet es)):=fun c=>by rw[zGl,R.same tb ah ai];exact ht
   have aw:∀ c,But xb mu (U.mu.set mu.length c):=fun c=>R.setN (qj _) c
   have hD:∀ c,(U.mu.set mu.length c)[mu.length]?=some c:=fun c=>qz ad
   generalize hM:U.mu.set mu.length (.md (encK aS eIV (delK nm o)))=M;have a0:M[xb]?=some (.arr (cIn ts tb s)):=by rw[<-hM];exact au _
   have ae:M[tb]?=some (.mp (eSet es)):=by rw[<-hM];exact av _
   have a9:But xb mu M:=by grind
   have a1:M[mu.length]?=some (.md (encK aS eIV (delK nm o))):=by grind
   have af:mu.length<M.length:=(qh.1 a1).1;have fin:∀(m:Mu)(a2 fs:IEnv)(a3:tZ)(s1:ISt),But xb mu m->m[mu.length]?=some (.md (encK aS eIV a2))->(a2.map Prod.fst).Nodup->(fs.map Prod.fst).Nodup->(∀ x,x∈a2↔x∈fs)->m[xb]?=some (.arr (cIn ts tb s1))->((fs,a3),s1)=renI ts es env nm body s ->
     ∃(g:Nat->Bool) (x:AV),Gv m g (.tup [.mp mu.length,aS a3]) x/\x = .tup [eEnv (renI ts es env nm body s).1.1,aS (renI ts es env nm body s).1.2]/\But xb mu (cutM (fun i=>!g i) m 0)/\(cutM (fun i=>!g i) m 0)[xb]?=some (.arr (cIn ts tb (renI ts es env nm body s).2)):=by
    intro m a2 fs a3 s1 hb hd n1 n2 hm b6 e;rw[<-e];refine⟨fun i=>i == mu.length,.tup [eEnv fs,aS a3],.rd _ _ (.tup _ _ rfl fun k x y hx J=>?_),rfl,hb.cut fun i hi=>zSo,?_⟩
    .match k with
     | 0 =>
      simp at hx J;subst hx;subst J;exact qmY (by rw[vT zSp];exact hd) n1 n2 hm
     | 1 =>
      simp at hx J;subst hx;subst J;exact .zsc _
     |k+2=>simp at hx
    grind [vT]
   have ay:∀(b7:St)(K:qX->St->Prop),True:=fun _ _=>trivial
   by_cases hb:body=true
   .subst hb
    simp[go_sem,e0,e3];refine fZ (qb1 ts h s (qm ts es) hs tb es aa a0 ae) ?_ (by rintro r m ⟨e,_⟩;cases e);rintro r m ⟨e,rfl⟩;cases e;have hu:=qb2 (mu:=M.set xb (.arr (cIn ts tb ⟨zp ts es (qm ts es) s.last,s.sM⟩))) (b:=mu.length) (by rw[zGl];exact a1) nm ⟨none,0,vN (zp ts es (qm ts es) s.last)⟩;simp[go_sem,e2,p];refine tH _ hu ?_;simp[go_sem,p];refine(fin _ _ _ _ ⟨zp ts es (qm ts es) s.last,s.sM⟩ ((a9.trans (cH xb M _)).setN (qj _) _) (qz (zUs af)) (u6 T) (u6 (ZF hk)) (fun x=>by rw[Zh T,Zh (ZF hk),a8]) (by rw[zGl,qz zOm];rfl) ?_);simp[renI]
   .have hb:body=false:=by simpa using hb
    subst hb;simp[go_sem,e0,e2,e3,a0];refine tU (XP ts h nm) (.zk (zw ts) (.zs .nil)) ?_;by_cases a4:means ts nm=[]
    .simp [go_sem,e2,p,a0,a4]
     refine(fin M _ _ _ _ a9 a1 T (ZF hk) a8 a0 ?_);simp[renI,a4]
    .have ag:0<(means ts nm).length:=List.length_pos_iff.2 a4
     simp[go_sem,e0,ag];refine fZ (qb1 ts h s (qm ts es) hs tb es aa a0 ae) ?_ (by rintro r m ⟨e,_⟩;cases e);rintro r m ⟨e,rfl⟩;cases e;have hu:=qb2 (mu:=M.set xb (.arr (cIn ts tb ⟨zp ts es (qm ts es) s.last,s.sM⟩))) (b:=mu.length) (by rw[zGl];exact a1) nm ⟨none,0,vN (zp ts es (qm ts es) s.last)⟩;simp[go_sem,e2,p];refine tH _ hu ?_;simp[go_sem,p];refine(fin _ _ _ _ ⟨zp ts es (qm ts es) s.last,s.sM⟩ ((a9.trans (cH xb M _)).setN (qj _) _) (qz (zUs af)) (u6 T) (u6 (ZF hk)) (fun x=>by rw[Zh T,Zh (ZF hk),a8]) (by rw[zGl,qz zOm];rfl) ?_);simp[renI,a4]
end
end YB
namespace Q9
open Y1
def ndOp(op:Int)(ks:List Nd):Nd := .mk op ⟨#[]⟩ 0 ks 0
def qb3(nm:tZ)(p:Int):Nd := .mk 1 nm 0 [] p
end Q9
namespace PA
open P1 P2 Y1 Y2 Y9 Y15 Y16 YW Q6 Q9
section
variable {inn:Bool}{c c':Ck}{s s':Scp}
def wA(nm:tZ)(n:Nd):Prop:=anyN (fun n=>decide (n.name=nm)) n=true
theorem qb4{p}:∀{ks},vw p ks=true↔∃ k,k∈ks/\anyN p k=true
 | []=>by simp[vw]
 |k :: ks=>by
  simp only[vw,Zp,qb4 (ks:=ks),qy];constructor
  .rintro (h|⟨x,g,h⟩)
   .exact ⟨k,.inl rfl,h⟩
   .exact ⟨x,.inr g,h⟩
  .rintro ⟨x,rfl|g,h⟩
   .exact .inl h
   .exact .inr ⟨x,g,h⟩
theorem qm1(n):wA n.name n:=by
 unfold wA;rw[J4];simp
theorem qm2{n k nm}(g:k∈n.sD)(h:wA nm k):wA nm n:=by
 unfold wA at h⊢;rw[J4,Zp]
 grind [qb4]
def lookS(nm:tZ)(s:Scp):Option Kd:=(y9 nm s).head?.map Prod.snd
theorem qm3(nm):lookS nm []=none:=rfl
theorem Zi(nm v)(s:Scp):lookS nm (v :: s)=if v.1=nm then some v.2 else lookS nm s:=by
 grind [lookS,y9]
theorem ZQ(c s nm pos):yH c s nm pos=match lookS nm s with
  |some k => .ok (some k)
  |none=>match means c.ts nm with
   | [] => .error (40,pos)
   | [k] => .ok (some k)
   |_ => .error (44,pos):=by
 grind [yH,lookS,y9]
theorem qb5{n n'}(j:n'.op=n.op)(l:n'.name=n.name)(t:n'.n=n.n)(C:n'.pos=n.pos)
  (I:zX c' n.op n.name=zX c n.op n.name) (P:n.op=1->yH c s n.name n.pos=yH c' s' n.name n.pos) (o:c'.ts.sT=c.ts.sT) (g:zl c' n.name=zl c n.name)
  (p:c'.ts.sS.length=c.ts.sS.length) (i:n'.sD.length=n.sD.length)
  (R:n.op=47->∀ ps,zO c s n.pos ps n.sD=zO c' s' n.pos ps n'.sD)
  (hB:(n.op=15\/n.op=45\/n.op=46)->∀ inn,z7 c s inn n.name n.pos n.sD=z7 c' s' inn n.name n.pos n'.sD)
  (J:¬n.op=1->¬n.op=47->¬(n.op=15\/n.op=45\/n.op=46)->∀ inn,qL c s inn n.sD=qL c' s' inn n'.sD):exam c s inn n=exam c' s' inn n':=by
 rw[yI,yI,j,l,t,C,I,o,g,p,i];by_cases a:(inn&&zX c n.op n.name)=true
 .rw [if_pos a,if_pos a]
 rw[if_neg a,if_neg a];by_cases b:n.op=1
 .grind
 rw[if_neg b,if_neg b];by_cases d:n.op=47
 .simp_all
 rw[if_neg d,if_neg d];by_cases e:n.op=15\/n.op=45\/n.op=46
 .rw [if_pos e,if_pos e];exact hB e _
 rw[if_neg e,if_neg e,J b d e]
theorem qb6(f):∀{ks},(∀ k,k∈ks->exam c s inn k=exam c' s' inn (f k))->qL c s inn ks=qL c' s' inn (ks.map f)
 | [],_=>rfl
 |k :: ks,h=>by
  simp only[za,qL];rw[h k (qZ ..),qb6 f fun g i=>h g (qN _ i)]
theorem qb7{pos}(f):∀{ks ps},(∀ k,k∈ks->exam c s true k=exam c' s' true (f k))->zO c s pos ps ks=zO c' s' pos ps (ks.map f)
 | [],ps,_=>by cases ps<;>rfl
 |k :: ks,[],_=>rfl
 |k :: ks,p :: ps,h=>by
  simp only[za,zO];rw[h k (qZ ..),qb7 f (ps:=ps) fun g i=>h g (qN _ i)]
theorem UV{ks}(h:∀ k,k∈ks->exam c s inn k=exam c' s' inn k):qL c s inn ks=qL c' s' inn ks:=by
 have:=qb6 (c:=c) (c':=c') (s:=s) (s':=s') (inn:=inn) id (ks:=ks) h
 rwa[List.map_id]at this
theorem qb8{pos ks ps}(h:∀ k,k∈ks->exam c s true k=exam c' s' true k):zO c s pos ps ks=zO c' s' pos ps ks:=by
 have:=qb7 (c:=c) (c':=c') (s:=s) (s':=s') (pos:=pos) id (ks:=ks) (ps:=ps) h
 rwa[List.map_id]at this
structure wB (c c':Ck):Prop where
 sT:c'.ts.sT=c.ts.sT
 sS:c'.ts.sS=c.ts.sS
 sA:c'.ts.sA=c.ts.sA
 calls:c'.calls=c.calls
 timed:c'.timed=c.timed
theorem wB.refl(c):wB c c:=⟨rfl,rfl,rfl,rfl,rfl⟩
theorem wB.callee(h:wB c c')(nm):zl c' nm=zl c nm:=by
 unfold zl;rw[h.sT,h.calls]
theorem wB.time(h:wB c c')(op nm):zX c' op nm=zX c op nm:=by
 unfold zX;rw[h.callee,h.timed]
theorem wB.means(h:wB c c')(nm):means c'.ts nm=means c.ts nm:=by
 unfold P1.means;rw[h.sA,h.sS]
theorem qb9(j:wB c c'):∀ m n s s' inn,szN n<=m->(∀ nm,wA nm n->lookS nm s=lookS nm s')->exam c s inn n=exam c' s' inn n
 | 0,n,_,_,_,o,_=>by obtain⟨op,nm,i,ks,p⟩:=n;simp[szN]at o
 |m+1,n,s,s',inn,o,h=>by
  have l:∀ k,k∈n.sD->∀(s s':Scp)(inn:Bool),(∀ nm,wA nm k->lookS nm s=lookS nm s')->exam c s inn k=exam c' s' inn k:=fun k l s s' inn C =>
   qb9 j m k s s' inn (zW1 (zf l)) C
  have t:∀ k,k∈n.sD->∀ nm,wA nm k->lookS nm s=lookS nm s':=fun k l nm I=>h nm (qm2 l I)
  refine qb5 rfl rfl rfl rfl (j.time _ _) (fun _=>?_) j.sT (j.callee _) (by rw[j.sS]) rfl (fun _ P=>qb8 fun k g=>l k g s s' true (t k g)) (fun _ inn=>?_) (fun _ _ _ inn=>UV fun k g=>l k g s s' inn (t k g))
  .rw [ZQ,ZQ,h _ (qm1 n),j.means]
  .cases J:n.sD with
   |nil=>rfl
   |cons k ks =>
    grind [ks,z7,qZ,qL,UV,qN,Zi]
def wf(ts:TS)(g:List (tZ×Nd)):TS:=⟨ts.sS,ts.sA,ts.sT,g⟩
theorem qm4{J}(g)(l:List J)(i):(repL g l)[i]?=(l[i]?).map fun x=>(l.take i).any fun y=>g x y:=by
 grind [qaF,qB,wH,wY]
theorem qcA{J}(g)(l:List J)(i):repB g l i=match l[i]? with|some x=>[(l.take i).any fun y=>g x y] | none=>[]:=by
 unfold repB;rw[List.take_add_one,qm4,List.drop_append];by_cases h:i<l.length
 .rw [qB h,List.length_take,wY,Nat.min_eq_left zOm,List.drop_of_length_le zSo]
  simp
 grind
def binB(op:Int):Bool:=decide (op=15)||decide (op=45)||decide (op=46)
theorem qm5(c s op ks)(t:op=34\/(40<=op/\op<=44)):exam c s false (ndOp op ks)=match qL c s false ks with | .error e => .error e | .ok _ => .ok none:=by
 have o:¬op=1:=zOm;have g:¬op=47:=zOm;have p:¬(op=15\/op=45\/op=46):=zOm;have i:decide (op=12)=false:=decide_eq_false zOm;have j:decide (op=13)=false:=decide_eq_false zOm;simp only[ndOp,exam,Bool.false_and,Bool.false_eq_true,if_false,Bool.false_or,o,g,p,i,j];cases qL c s false ks with
 |error e=>rfl
 |ok l =>
  simp only[zy];rw[zIn,zIn,zIn]
  grind
theorem qm6(ts env op)(j:41<=op/\op<=44)(a b)(g:30<=a.op)(i:30<=b.op) :
  zQ ts env (ndOp op [a,b])=if (zQ ts env a).1≠0 then zQ ts env a else zQ ts env b:=by
 unfold zQ jp;rw[if_pos (by grind [ndOp,Nd.op]),if_pos g,if_pos i,qm5 _ _ op _ zOm];simp only[qL];cases h:exam (mkCk ts ts.sT.length) (zz env) false a with
 |error e =>
  have:=w7 _ (szN a) a _ _ e (qj _) h;simp[dgOf,this]
 |ok k =>
  grind [exam,mkCk,zz,dgOf]
end
end PA
namespace YC
open P1 Y1 YX YZ YA YB PA
section
variable {env:IEnv}{s:ISt}{es:List (tZ×Bool)}{F:Nat}{ts:TS}
abbrev XR(J:Type):=Except Dg (J×ISt)
def yE(E:Nd->ISt->XR (Nd×Int)):List (tZ×Int)->List Nd->IEnv->ISt->XR IEnv
 |p :: g,k :: ks,own,s=>match E k s with
  | .error e => .error e
  | .ok ((i,m),j)=>yE E g ks (setK p.1 ⟨some i,m,⟨#[]⟩⟩ own) j
 |_,_,own,s => .ok (own,s)
def zE(E:IEnv->Nd->ISt->XR (Nd×Int))(R:IEnv->tZ->ISt->(IEnv×tZ)×ISt)(bin:Bool):Nat->IEnv->tZ->List Nd->ISt->XR (tZ×List Nd×Int)
 |_,_,nm,[],s => .ok ((nm,[],0),s)
 |i,env,nm,k :: ks,s =>
  let r:=if bin=true/\i=1 then R env nm s else ((env,nm),s)
  match E r.1.1 k r.2 with
  | .error e => .error e
  | .ok ((o,m),p)=>match zE E R bin (i+1) r.1.1 r.1.2 ks p with
   | .error e => .error e
   | .ok ((g,j,t),l) => .ok ((g,o :: j,m+t),l)
def vU{J i:Type}(q:XR J)(g:J->ISt->XR i):XR i:=
 match q with
 | .error e => .error e
 | .ok (a,s)=>g a s
theorem uh{J i q}{g:J->ISt->XR i}{r}(h:vU q g = .ok r):∃ a s,q = .ok (a,s)/\g a s = .ok r:=by
 unfold vU at h;split at h
 .cases h
 .exact ⟨_,_,rfl,h⟩
def expI(ts:TS)(es:List (tZ×Bool)):Nat->IEnv->Nd->Bool->ISt->XR (Nd×Int)
 | 0,_,_,_,_ => .error (2,0)
 |f+1,env,n,g,s =>
  if s.sM+1<=4000 then
   if n.op=1 then ve env n (payS 1 s)
   else if n.op=47 then match ts.sT.find? fun p=>decide (p.name=n.name) with
    |none => .error (2,0)
    |some p=>vU (yE (fun k s=>expI ts es f env k g s) p.params n.sD [] (payS 1 s)) fun own i=>expI ts es f own p.body true i
   else vU (zE (fun env k s=>expI ts es f env k g s) (fun env nm s=>renI ts es env nm g s) (binB n.op) 0 env n.name n.sD (payS 1 s)) fun r i => .ok ((.mk n.op r.1 n.n r.2.1 n.pos,1+r.2.2),i)
  else .error (2,0)
def yK(ts:TS)(n:Nd):Prop:=∀ x,x∈preN n->x.op=47->∃ p,(ts.sT.find? fun p=>decide (p.name=x.name))=some p/\p.params.length=x.sD.length
theorem qm7{ks k x}(g:k∈ks)(i:x∈preN k):x∈zo ks:=by
 induction ks with
 |nil=>simp at g
 |cons a l j =>
  simp only[zo,qO];rcases qy.1 g with rfl|g
  .exact .inl i
  grind
theorem YL{n k x}(g:k∈n.sD)(i:x∈preN k):x∈preN n:=by
 grind [wv,qN,qm7]
theorem vV(n):n∈preN n:=by rw[wv];exact qZ ..
theorem yK.kid{n k}(h:yK ts n)(g:k∈n.sD):yK ts k:=fun x i=>h x (YL g i)
def pot(F:Nat)(s:ISt):Int:=s.sM*F-s.last
structure StOk (F:Nat) (s:ISt):Prop where
 l0:0<=s.last
 c0:0<=s.sM
 c1:s.sM<=4000
 p:0<=pot F s
theorem StOk.last(h:StOk F s):s.last<=4000*F:=by
 have g:s.sM*F<=4000*F:=Int.mul_le_mul_of_nonneg_right h.c1 zOm;have:=h.p
 grind [pot]
structure zm (env:IEnv):Prop where
 nd:(env.map Prod.fst).Nodup
 sz:∀ e,e∈env->0<=e.2.size/\e.2.size<=4000
theorem zm.nil:zm []:=⟨zSp,fun e g=>by simp at g⟩
theorem zm.set(h:zm env){k v}(i:0<=v.size/\v.size<=4000):zm (setK k v env):=
 ⟨u6 h.nd,fun e g=>by
  rcases (Zh h.nd).1 g with rfl|⟨g,_⟩
  .exact i
  .exact h.sz e g⟩
theorem zm.del(h:zm env){k}:zm (delK k env):=⟨ZF h.nd,fun e g=>h.sz e ((Xx h.nd).1 g).1⟩
theorem J9{nm body}(h:zm env):zm (renI ts es env nm body s).1.1:=by
 unfold renI;split
 .exact h.del.set ⟨zSp,zSp⟩
 .exact h.del
theorem Kx(ts es):∀ f k,k<zp ts es f k/\zp ts es f k<=k+f+1
 | 0,k=>by grind [zp]
 |f+1,k=>by
  simp only[zp];have:=Kx ts es f (k+1);omega
theorem Ky{ts es}:∀{f k},(∃ j:Nat,1<=j/\j<=f/\yD ts es (vN (k+j))=true)->zp ts es f k<=k+f
 | 0,k,⟨j,g,i,_⟩=>zOm
 |f+1,k,⟨j,g,i,l⟩=>by
  simp only[zp];split
  .omega
  .rename_i o
   have p:j≠1:=fun e=>by grind
   have:=Ky (ts:=ts) (es:=es) (f:=f) (k:=k+1) ⟨j-1,zOm,zOm,by grind⟩;omega
def Free(ts:TS)(es:List (tZ×Bool)):Prop:=∀ l:Int,0<=l->∃ j:Nat,1<=j/\j<=qm ts es/\yD ts es (vN (l+j))=true
theorem Va(g:Free ts es){env nm body s}(i:0<=s.last):0<=(renI ts es env nm body s).2.last/\(renI ts es env nm body s).2.last<=s.last+(qm ts es:Nat)/\(renI ts es env nm body s).2.sM=s.sM:=by
 unfold renI;split
 .have l:=Kx ts es (qm ts es) s.last
  have j:=Ky (g s.last i);refine⟨?_,j,rfl⟩
  grind
 .exact ⟨i,by grind,rfl⟩
structure Gos (F:Nat) (s s':ISt) (z:Int):Prop where
 l0:0<=s'.last
 c1:s'.sM<=4000
 z0:0<=z
 cz:s.sM+z<=s'.sM
 p:pot F s<=pot F s'
theorem Gos.ok{s' z}(g:Gos F s s' z)(h:StOk F s):StOk F s':=⟨g.l0,by have:=g.cz;have:=g.z0;have:=h.c0;omega,g.c1,zW2 g.p h.p⟩
theorem ZR(F s n):pot F (payS n s)=pot F s+n*F:=by
 grind [pot,payS,Int.add_mul]
theorem Qd(h:StOk F s){n}(g:0<=n)(i:s.sM+n<=4000):Gos F s (payS n s) n:=
 ⟨h.l0,i,g,vq _,by rw[ZR];have:0<=n*(F:Int):=Int.mul_nonneg g zOm;omega⟩
theorem qm8{n n' s' z}(h:StOk F s)(l:zm env)(C:s.sM+1<=4000)(e:ve env n (payS 1 s) = .ok ((n',z),s')):Gos F s s' z:=by
 have j:=Qd h (n:=1) zOm C;unfold ve at e;cases o:getK n.name env with
 |none=>grind
 |some v =>
  rw[o]at e;have I:=l.sz _ ((Qs l.nd).1 o);obtain⟨J,t,R⟩:=v;cases J with
  |none=>cases e;exact j
  |some a =>
   simp only at e;split at e
   .rename_i P
    have i:0<=t/\t<=4000:=I;cases e;have g:=Qd (j.ok h) i.1 P;exact⟨g.l0,g.c1,i.1,zW2 g.cz j.cz,zW2 g.p j.p⟩
   .cases e
theorem Kz{E}:∀{ks ps own i s s'},(∀ k n' z s s',k∈ks->StOk F s->E k s = .ok ((n',z),s')->Gos F s s' z)->StOk F s->zm own ->
  yE E ps ks own s = .ok (i,s')->zm i/\Gos F s s' 0
 | [],ps,own,i,s,s',_,h,j,e=>by
  have e:Except.ok (own,s)=(Except.ok (i,s'):XR IEnv):=by cases ps<;>exact e
  cases e;exact⟨j,h.l0,h.c1,zOm,zOm,vq _⟩
 |k :: ks,[],own,i,s,s',_,h,j,e=>by
  cases e;exact⟨j,h.l0,h.c1,zOm,zOm,vq _⟩
 |k :: ks,p :: ps,own,i,s,s',o,h,j,e=>by
  simp only[yE]at e;split at e
  .cases e
  .rename_i t m s1 C
   have g:=o k t m s s1 (qZ ..) h C;have I:m<=4000:=by have:=g.cz;have:=g.c1;have:=h.c0;omega
   obtain⟨J,l⟩:=Kz (fun k n' z s s' P=>o k n' z s s' (qN _ P)) (g.ok h) (j.set (v:=⟨some t,m,⟨#[]⟩⟩) ⟨g.z0,I⟩) e;exact⟨J,l.l0,l.c1,zOm,by have:=g.cz;have:=g.z0;have:=l.cz;omega,zW2 g.p l.p⟩
def dueN(F:Nat)(bin:Bool)(i:Nat):Int:=if bin=true/\i<=1 then F else 0
theorem ZS(F bin i):0<=dueN F bin i:=by unfold dueN;split<;>omega
theorem UW{bin i}(h:¬(bin=true/\i=1)):dueN F bin i=dueN F bin (i+1):=by
 unfold dueN;by_cases g:bin=true
 .by_cases l:i=1
  .grind
  .by_cases j:i<=1
   .rw [if_pos ⟨g,j⟩,if_pos ⟨g,zOm⟩]
   omega
 grind
theorem qcB{E R bin}(P:∀ env nm s,0<=s.last->zm env->zm (R env nm s).1.1/\0<=(R env nm s).2.last/\(R env nm s).2.last<=s.last+(F:Int)/\(R env nm s).2.sM=s.sM) :
  ∀{ks i env nm j s s' l m},(∀ env k n' z s s',k∈ks->StOk F s->zm env->E env k s = .ok ((n',z),s')->Gos F s s' z)->0<=s.last->0<=s.sM->s.sM<=4000->dueN F bin i<=pot F s->zm env ->
  zE E R bin i env nm ks s = .ok ((j,l,m),s')->0<=s'.last/\s'.sM<=4000/\0<=m/\s.sM+m<=s'.sM/\pot F s-dueN F bin i<=pot F s'
 | [],i,env,nm,j,s,s',l,m,_,T,c0,c1,hp,U,e=>by
  cases e;have:=ZS F bin i;omega
 |k :: ks,i,env,nm,j,s,s',l,m,hE,T,c0,c1,hp,U,e=>by
  simp only[zE]at e;obtain⟨r,t⟩:∃ r,r=if bin=true/\i=1 then R env nm s else ((env,nm),s):=⟨_,rfl⟩
  rw[<-t]at e;have I:zm r.1.1/\0<=r.2.last/\r.2.sM=s.sM/\dueN F bin (i+1)<=pot F r.2/\pot F s-dueN F bin i<=pot F r.2-dueN F bin (i+1):=by
   by_cases C:bin=true/\i=1
   .rw [if_pos C]at t
    obtain⟨a1,a2,a3,a4⟩:=P env nm s T U;have d1:dueN F bin i=F:=if_pos ⟨C.1,zOm⟩;have d2:dueN F bin (i+1)=0:=zIn
    grind [pot]
   .rw [if_neg C]at t
    subst t;have d':dueN F bin i=dueN F bin (i+1)\/(bin=true/\i=1):=by
     unfold dueN;by_cases o:bin=true
     .by_cases h1:i=1
      .grind
      .left
       by_cases h0:i<=1
       .rw [if_pos ⟨o,h0⟩,if_pos ⟨o,zOm⟩]
       omega
     grind
    have a0:dueN F bin i=dueN F bin (i+1):=d'.elim id fun h=>absurd h C
    grind
  obtain⟨b1,b2,b3,b4,b5⟩:=I;split at e
  .cases e
  .rename_i k' m1 s1 h1
   have J:StOk F r.2:=⟨b2,zOm,zOm,zW1 (ZS F bin (i+1))⟩;have g:=hE r.1.1 k k' m1 r.2 s1 (qZ ..) J b1 h1;split at e
   .cases e
   .rename_i a5 a6 m2 s2 h2
    have:=qcB P (fun env k n' z s s' hk=>hE env k n' z s s' (qN _ hk)) g.l0 (zW2 g.cz g.z0) g.c1 (zW1 g.p) b1 h2;obtain⟨q1,q2,q3,q4,q5⟩:=this;cases e;have:=g.cz;have:=g.z0;have:=g.p;omega
theorem jJ(ts){es}(g:Free ts es):∀(f){env n n' body s s' z},StOk (qm ts es) s->zm env->expI ts es f env n body s = .ok ((n',z),s')->Gos (qm ts es) s s' z
 | 0,_,_,_,_,_,_,_,_,_,e=>by cases e
 |f+1,env,n,n',body,s,s',z,h,P,e=>by
  simp only[expI]at e;split at e
  .rename_i R
   have i:=Qd h (n:=1) zOm R;split at e
   .grind [qm8]
   .split at e
    .split at e
     .cases e
     .rename_i p _
      .obtain ⟨own,s1,t,e⟩:=uh e
       obtain⟨T,g1⟩:=Kz (F:=qm ts es) (fun k n' z s s' _ C I=>jJ ts g f C P I) (i.ok h) .nil t;have j:=jJ ts g f (g1.ok (i.ok h)) T e;exact⟨j.l0,j.c1,j.z0,by have:=j.cz;have:=g1.cz;have:=i.cz;omega,by have:=j.p;have:=g1.p;have:=i.p;omega⟩
    ·.obtain ⟨⟨l,o,m⟩,s1,t,e⟩:=uh e
      cases e;have U:dueN (qm ts es) (binB n.op) 0<=pot (qm ts es) (payS 1 s):=by
       rw[ZR];have:=h.p;grind [dueN]
      have:=qcB (F:=qm ts es) (fun env nm s hl J=>⟨J9 J,Va g hl⟩) (fun env k n' z s s' _ C J I=>jJ ts g f C J I) i.l0 (by have:=(i.ok h).c0;exact this) i.c1 U P t;obtain⟨q1,q2,q3,q4,q5⟩:=this;have a0:dueN (qm ts es) (binB n.op) 0<=(qm ts es:Nat):=by grind [dueN]
      rw[ZR]at q5;have a1:0<=(l,o,m).snd.snd:=q3;have a2:(payS 1 s).sM+(l,o,m).snd.snd<=s'.sM:=q4;exact⟨q1,q2,zOm,zW1 i.cz,zOm⟩
  .cases e
end
end YC
end Go.Proofs.YtlnbdknjkmmgbaaGreatDoor
