/-
  Own library, part 5: an abstract reading of values and a calculus over it; contracts of functions; plain lemmas.
-/
import Derived.Test.YtfednihcpihlgaaGreatDoorMd
set_option linter.unusedVariables false
set_option linter.unusedSimpArgs false
set_option maxRecDepth 100000
open Go renaming Program->qf,TypeId->j1,Oper->xc,undef->wg
open Go.Proofs.Tryz renaming prog->qb
open List renaming getElem?_eq_some_iff->qg,mem_map->qi,getElem_mem->qn,range->qq,mem_cons->qt,getElem?_eq_getElem->qw,not_mem_nil->qF,getElem?_append_left->qG,mem_append->qH,getElem?_set_self->qI,take_length->qO,replicate->qS,mem_singleton->qT,mem_of_getElem?->qU,mem_cons_of_mem->qW,length_append->qX,map_append->q9,all_eq_true->zb,mem_cons_self->zd,getElem?_map->zf,drop_eq_getElem_cons->zm,append_assoc->zy,length_cons->zz,getD_eq_getElem?_getD->zC,getElem?_append_right->zE,append_nil->zF,length_map->zK,take_of_length_le->zO,map_cons->zT,mem_range->zW,drop_length->yh,getElem?_set_ne->yu,cons_append->yw,ext_getElem?->jy,getElem?_cons_succ->vw,foldl_append->vy,take_append_drop->vS,mem_of_mem_take->ui,getD_cons_zero->uj,getElem?_eq_none->uJ,getElem?_range->uL,getElem?_toArray->uO
open Go.IntKind renaming i64->qm
open Nat renaming le_refl->qo,le_trans->zt,zero_add->z7
open Option.some renaming injEq->qr
open Bool renaming and_eq_true->qD,eq_iff_iff->jX
open Option renaming map_some->zg,map_eq_some_iff->jK
open Int renaming mul_le_mul->jq
namespace Go.Proofs.YtfednihcpihlgaaGreatDoor
open Go Go.Ev Go.Proofs Tryz
namespace Q1
open P2 Y1 Y2 Y6
abbrev aU(x:Int):AV := .sc (.int .u8 x)
theorem kindU(op):qd qb 115 [aI op] (aU (kd op)):=by
 refine qSU call115 func115 rfl ?_;unfold kd;by_cases g:1<=op<;>by_cases i:op<=15<;>by_cases j:20<=op<;>by_cases l:op<=23<;>by_cases o:30<=op<;>by_cases p:op<=51<;>first|omega | (simp[go_sem,g,i,j,l,o,p];exact .zsc _)
def kwL:List tG:=[⟨#[115,111,114,116]⟩,⟨#[111,114,100,101,114,101,100]⟩,⟨#[118,97,114]⟩,⟨#[102,105,101,108,100]⟩,⟨#[112,114,101,100]⟩,⟨#[102,97,99,116]⟩,⟨#[97,108,108]⟩,⟨#[115,111,109,101]⟩,⟨#[110,111]⟩,⟨#[111,110,101]⟩,⟨#[108,111,110,101]⟩,⟨#[97,108,119,97,121,115]⟩,⟨#[101,118,101,110,116,117,97,108,108,121]⟩,⟨#[97,102,116,101,114]⟩,⟨#[117,110,116,105,108]⟩,⟨#[110,111,110,101]⟩,⟨#[117,110,105,118]⟩,⟨#[105,100,101,110]⟩,⟨#[105,110]⟩,⟨#[110,111,116]⟩,⟨#[116,114,117,101]⟩,⟨#[102,97,108,115,101]⟩]
def kwB(s:tG):Bool:=kwL.any fun x=>decide (x=s)
theorem qkZ(s):qd qb 162 [aS s] (aB (kwB s)):=by
 refine qSU call162 func162 rfl ?_;have g:kwL.length=22:=rfl;refine kT 22 (fun k U=>U.tm 0=aS s/\U.tm 3 = .lst true (kwL.map fun s=>[aS s])/\U.tm 4=aI k/\U.mu=[]/\∀ j x,j<k->kwL[j]?=some x->x≠s) ?_ ?_
 .refine ⟨zSi,?_,zSi,zSi,fun j x r=>absurd r zOm⟩
  simp[go_sem,kwL]
 .rintro k U hk ⟨I,C,J,P,hI⟩
  unfold kwB;generalize hK:kwL=K at *
  by_cases R:k=22
  .subst R
   have T:(K.any fun x=>decide (x=s))=false:=by
    rw[List.any_eq_false];intro x p;obtain⟨j,r⟩:=List.mem_iff_getElem?.1 p;simpa using hI j x (by have:=(qg.1 r).1;omega) r
   rw[T];simp[go_sem,C,J,P,g];exact .zsc _
  .have t:k<K.length:=by omega
   have i:k<22:=zOm;have l:(k:Int)<22:=zOm;have w1:=zWk k;by_cases p:K[k]=s
   .have a0:(K.any fun x=>decide (x=s))=true:=List.any_eq_true.2 ⟨K[k],qn t,zUs p⟩
    rw[a0];simp[go_sem,I,C,J,P,g,i,l,p];exact .zsc _
   .simp [go_sem,I,C,J,P,g,i,l,jF p,w1]
    try refine⟨i,aK ?_⟩
    try refine aK ?_
    refine⟨zS1 I,zS1 C,zSi,zSi,fun j x r o=>?_⟩;by_cases a1:j=k
    .subst a1
     rw[qw t]at o;cases o;exact p
    .exact hI j x zOm o
def bys(l:List Int):tG:=⟨(l.map fun x=>UInt8.ofNat x.toNat).toArray⟩
theorem qk0(l x):bys (l++[x])=bys l++⟨#[UInt8.ofNat x.toNat]⟩:=by
 apply ByteArray.ext;simp[bys]
theorem mB(l):(bys l).size=l.length:=by simp[bys,ByteArray.size]
def shpV(op:Int)(nk:Nat):AV:=match shp op nk with
 |some l => .tup [aS (bys l),aB true]
 |none => .tup [aS ⟨#[]⟩,aB false]
theorem UA(mu a b):Rd mu (.tup [aS a,aB b]) (.tup [aS a,aB b]) := .hf _ (HF.tup fun c g=>by simp at g;rcases g with rfl|rfl<;>exact HF.sc _)
theorem qk1(nk:Nat)(J:nk<=100000):qd qb 114 [aI 47,aI nk] (shpV 47 nk):=by
 refine qSU call114 func114 rfl ?_;refine kT (min nk 401) (fun k U=>U.tm 1=aI nk/\U.tm 6=aS (bys (qS k 101))/\U.tm 7=aI k) ?_ ?_
 .exact ⟨zSi,by simp[go_sem,bys],zSi⟩
 .rintro k U hk ⟨i,j,l⟩
  by_cases o:k=min nk 401
  .have P:shpV 47 nk = .tup [aS (bys (qS k 101)),aB true]:=by
    rw[o];rfl
   rw[P];by_cases h1:nk<=k
   .have p:¬k<nk:=by omega
    simp[go_sem,i,j,l,p];exact UA _ _ _
   .have R:k=401:=by omega
    subst R;have h3:401<nk:=zOm;have T:(401:Int)<nk:=zOm;simp[go_sem,i,j,l,T];exact UA _ _ _
  .have r:k<nk:=by omega
   have I:k<401:=zOm;have g:(k:Int)<401:=zOm;have w1:=zWk k;have t:(bys (qS k 101)).size+1<=9223372036854775807:=by rw[mB,List.length_replicate];omega
   have C:bys (qS k 101)++⟨#[101]⟩=bys (qS (k+1) 101):=by
    rw[List.replicate_succ',qk0];rfl
   generalize bys (qS k 101)=B at *
   simp[go_sem,i,j,l,r,g,t,w1];refine⟨zOm,aK ?_⟩;exact⟨zS1 i,zS1 C,zSi⟩
theorem qk2(op)(nk:Nat)(g:nk<=100000):qd qb 114 [aI op,aI nk] (shpV op nk):=by
 by_cases h47:op=47
 .subst h47;exact qk1 nk g
 by_cases o:1<=op/\op<=51
 .have j:op=1\/op=2\/op=3\/op=4\/op=5\/op=6\/op=7\/op=8\/op=9\/op=10\/op=11\/op=12\/op=13\/op=14\/op=15\/op=16\/op=17\/op=18\/op=19\/op=20\/op=21\/op=22\/op=23\/op=24\/op=25\/op=26\/op=27\/op=28\/op=29\/op=30\/op=31\/op=32\/op=33\/op=34\/op=35\/op=36\/op=37\/op=38\/op=39\/op=40\/op=41\/op=42\/op=43\/op=44\/op=45\/op=46\/op=48\/op=49\/op=50\/op=51:=by omega
  rcases j with rfl|rfl|rfl|rfl|rfl|rfl|rfl|rfl|rfl|rfl|rfl|rfl|rfl|rfl|rfl|rfl|rfl|rfl|rfl|rfl|rfl|rfl|rfl|rfl|rfl|rfl|rfl|rfl|rfl|rfl|rfl|rfl|rfl|rfl|rfl|rfl|rfl|rfl|rfl|rfl|rfl|rfl|rfl|rfl|rfl|rfl|rfl|rfl|rfl|rfl
  all_goals
   refine qSV call114 func114 rfl ?_;simp[go_sem,shpV,shp];exact UA _ _ _
 .have i:∀ c:Int,1<=c->c<=51->(op=c)=False:=fun c p r=>eq_false zOm
  have l:shp op nk=none:=by
   unfold shp
   repeat rw[zIn]
  rw[shpV,l];refine qSV call114 func114 rfl ?_;simp[go_sem,i];exact UA _ _ _
end Q1
namespace Q2
open P2 Y1 Q1
def fitB(op:Int)(ks:List Nd):Bool:=decide (shp op ks.length=some (ks.map fun k=>kd k.op))
theorem qk3(l)(g:∀ x,x∈l->0<=x/\x<256)(i h)(j:i<(bys l).data.size):(((bys l).data[i]).toNat:Int)=l[i]:=by
 have o:=g l[i] (qn h);simp only[bys,List.getElem_toArray,List.getElem_map,UInt8.toNat_ofNat'];omega
theorem qk4{op nk l}(h:shp op nk=some l):∀ x,x∈l->0<=x/\x<256:=by
 unfold shp at h
 repeat' split at h
 all_goals first
  | (cases h;done)
  | (cases h;intro x g;cases g;done)
  | (cases h;intro x g;rw[List.mem_replicate]at g;omega)
  | (cases h;intro x g;simp at g;omega)
theorem fitsU(op ks)(hk:ks.length<=1000):qd qb 63 [aI op,lNd ks] (aB (fitB op ks)):=by
 have C:=qk2 op ks.length zOm;unfold shpV at C;cases o:shp op ks.length with
 |none =>
  simp only[o]at C;have hf:fitB op ks=false:=by simp[fitB,o]
  rw[hf];refine qSU call63 func63 rfl ?_;refine fR C (.zs (.zs .nil)) ?_;exact .zsc _
 |some l =>
  simp only[o]at C;have i:=mB l;have I:=qk3 l (qk4 o);generalize bys l=B at *
  refine qSU call63 func63 rfl ?_;refine tC C (.zs (.zs .nil)) ?_;by_cases t:l.length=ks.length
  .simp [go_sem,i,t]
   refine kT ks.length (fun k U=>U.tm 1=lNd ks/\U.tm 5=aS B/\U.tm 7=aI k/\∀ j,j<k->(ks[j]?).map (fun k=>kd k.op)=l[j]?) ?_ ?_
   .exact ⟨zSi,zSi,zSi,fun j P=>absurd P zOm⟩
   .rintro k U hk ⟨R,e5,J,hI⟩
    by_cases a0:k=ks.length
    .subst a0
     have hf:fitB op ks=true:=by
      rw[fitB,o,decide_eq_true];congr 1;apply jy;intro j;by_cases P:j<ks.length
      .rw [zf,hI j P]
      .rw [uJ zOm,uJ zSo]
     rw[hf];simp[go_sem,R,J];exact .zsc _
    .have g:k<ks.length:=by omega
     have w1:=zWk k;simp[go_sem,R,J,g];refine cZ zKr ?_;simp[go_sem,R,J,g];refine tC (kindU ks[k].op) (.zs .nil) ?_;have p:k<l.length:=zOm;have a1:k<B.data.size:=by have:B.data.size=l.length:=i;omega
     have hg:=I k p a1;by_cases T:kd ks[k].op=l[k]
     .have r:kd ks[k].op=((B.data[k]).toNat:Int):=by rw[hg];exact T
      simp[go_sem,e5,J,g,i,t,r,w1];refine aK ?_;refine⟨zS1 R,zS1 e5,zSi,fun j P=>?_⟩;by_cases a2:j=k
      .subst a2
       rw[qw g,qw p,zg,T]
      .exact hI j zOm
     .have r:¬kd ks[k].op=((B.data[k]).toNat:Int):=by rw[hg];exact T
      have hf:fitB op ks=false:=by
       rw[fitB,o,decide_eq_false];intro e;injection e with e;apply T;have:l[k]?=some (kd ks[k].op):=by rw[e,zf,qw g,zg]
       rw[qw p]at this;simpa using this.symm
      rw[hf];simp[go_sem,e5,J,g,i,t,r];exact .zsc _
  .have hf:fitB op ks=false:=by
    rw[fitB,o,decide_eq_false];intro e;injection e with e;rw[e]at t;simp at t
   rw[hf];simp[go_sem,i,t];exact .zsc _
end Q2
namespace Q3
open Y1 Q1
def letC(c:Int):Bool:=(decide (97<=c)&&decide (c<=122))||(decide (65<=c)&&decide (c<=90))
def chB(i:Nat)(c:Int):Bool:=letC c||(!decide (i=0)&&(decide (c=95)||(decide (48<=c)&&decide (c<=57))))
def y9(s:tG):Bool:=decide (1<=s.size)&&decide (s.size<=16)&&!kwB s&&(qq s.size).all fun i=>match s.data[i]? with|some c=>chB i c.toNat|none=>true
theorem qk5(s):qd qb 113 [aS s] (aB (y9 s)):=by
 refine qSV call113 func113 rfl ?_;by_cases h0:s.size=0
 .have r:y9 s=false:=by simp[y9,h0]
  rw[r];simp[go_sem,h0];exact .zsc _
 by_cases ab:16<s.size
 .have r:y9 s=false:=by
   have:¬s.size<=16:=zOm;simp[y9,this]
  rw[r];have l:(16:Int)<s.size:=zOm;simp[go_sem,h0,l];exact .zsc _
 have l:¬(16:Int)<s.size:=zOm;simp[go_sem,h0,l];refine tC (qkZ s) (.zs .nil) ?_;cases hk:kwB s with
 |true =>
  have r:y9 s=false:=by simp[y9,hk]
  rw[r];simp[go_sem];exact .zsc _
 |false =>
  simp[go_sem];refine kT s.size (fun k U=>U.tm 0=aS s/\U.tm 3=aI k/\∀ j c,j<k->s.data[j]?=some c->chB j c.toNat=true) ?_ ?_
  .exact ⟨zSi,zSi,fun j c hj=>absurd hj zOm⟩
  .rintro k U ad ⟨e0,e2,hI⟩
   by_cases a9:k=s.size
   .have r:y9 s=true:=by
     simp only[y9,hk,Bool.not_false,Bool.and_true,qD,decide_eq_true_eq,zb,zW];refine⟨⟨zOm,zOm⟩,fun i hi=>?_⟩;cases hc:s.data[i]? with
     |none=>rfl
     |some c=>exact hI i c zOm hc
    rw[r];simp[go_sem,e0,e2,a9];exact .zsc _
   .have o:k<s.size:=by omega
    have T:k<s.data.size:=o;have w1:=zWk k;have z1:qm.wrap 1=1:=rfl;have a0:s.data[k]?=some s.data[k]:=Array.getElem?_eq_getElem T;simp[go_sem,e0,e2,o];generalize hc:((s.data[k]).toNat:Int)=c at *
    cases g:chB k c with
    |false =>
     have r:y9 s=false:=by
      rw[y9,Bool.and_eq_false_iff];refine .inr (List.all_eq_false.2 ⟨k,zW.2 o,?_⟩);simp only[a0,hc,g];simp
     rw[r];by_cases C:97<=c<;>by_cases I:c<=122<;>by_cases J:65<=c<;>by_cases P:c<=90<;>by_cases R:c=95<;>by_cases a6:c<48<;>by_cases a7:57<c<;>by_cases t:k=0<;>first|omega | (exfalso;simp[chB,letC,C,I,J,P,R,a6,a7,t]at g;done) | (exfalso;simp[chB,letC,C,I,J,P,R,a6,a7,t]at g;omega)|skip
     all_goals
      simp[go_sem,e2,C,I,J,P,R,a6,a7,t];exact .zsc _
    |true =>
     have p:∀ j d,j<k+1->s.data[j]?=some d->chB j d.toNat=true:=fun j d hj hd=>by
      by_cases aa:j=k
      .subst aa
       rw[a0]at hd;cases hd;rw[hc];exact g
      .exact hI j d zOm hd
     by_cases C:97<=c<;>by_cases I:c<=122<;>by_cases J:65<=c<;>by_cases P:c<=90<;>by_cases R:c=95<;>by_cases a6:c<48<;>by_cases a7:57<c<;>by_cases t:k=0<;>first|omega | (exfalso;simp[chB,letC,C,I,J,P,R,t]at g;done) | (exfalso;simp[chB,letC,C,I,J,P,R,t]at g;omega)|skip
     all_goals
      simp[go_sem,e2,C,I,J,P,R,a6,a7,t,w1,z1]
      first
       |exact⟨o,aK ⟨zS1 e0,zSi,p⟩⟩
       | (subst t;exact⟨o,aK ⟨zS1 e0,zSi,fun j d hj hd=>p j d zOm hd⟩⟩)
end Q3
namespace Q4
open P2 Y1 Y2 Y9 Q2 Q3
def u6(op:Int):Bool:=decide (op=1)||decide (op=15)||decide (op=45)||decide (op=46)||decide (op=47)
def numB(op n:Int):Bool:=if op=2 then decide (1<=n)&&decide (n<=3) else if op=20 then decide (-64<=n)&&decide (n<=64) else decide (n=0)
def ownB(n:Nd):Bool:=if u6 n.op=y9 n.name/\(u6 n.op=true\/n.name=⟨#[]⟩) then numB n.op n.n else false
theorem ownU(n):qd qb 62 [eNd n] (aB (ownB n)):=by
 refine qSV call62 func62 rfl ?_;have j:=qk5 n.name;generalize J:y9 n.name=N at *
 by_cases p:n.op=1\/n.op=15\/n.op=45\/n.op=46\/n.op=47
 .have l:u6 n.op=true:=by grind [u6]
  have r:¬n.op=2:=zOm;have i:¬n.op=20:=zOm;rcases p with h|h|h|h|h
  all_goals
   simp[go_sem,h];refine tC j (.zs .nil) ?_;cases N with
   |true =>
    have g:ownB n=decide (n.n=0):=by grind [ownB,numB]
    rw[g];simp[go_sem,h];exact .zsc _
   |false =>
    have g:ownB n=false:=by grind [ownB]
    rw[g];simp[go_sem];exact .zsc _
 .simp only[not_or]at p
  obtain⟨d1,d2,d3,d4,d5⟩:=p;have l:u6 n.op=false:=by grind [u6]
  simp[go_sem,d1,d2,d3,d4,d5];refine tC j (.zs .nil) ?_;cases N with
  |true =>
   have g:ownB n=false:=by grind [ownB]
   rw[g];simp[go_sem];exact .zsc _
  |false =>
   by_cases o:n.name=⟨#[]⟩
   .have g:ownB n=numB n.op n.n:=by
     simp_all[ownB,if_pos]
    rw[g];unfold numB;by_cases r:n.op=2
    .by_cases t:1<=n.n<;>by_cases C:n.n<=3<;>(simp[go_sem,r,o,t,C];exact .zsc _)
    .by_cases i:n.op=20
     .by_cases t : -64<=n.n<;>by_cases C:n.n<=64<;>(simp[go_sem,i,o,t,C];exact .zsc _)
     .simp [go_sem,r,i,o]
      exact .zsc _
   .have g:ownB n=false:=by simp[ownB,l,o]
    rw[g];have I:n.name.toList.isEmpty=false:=by simpa using jF o
    simp[go_sem,I];exact .zsc _
mutual
def cntN:Nd->Int->Int
 | .mk _ _ _ ks _,left=>yV ks left 1
def yV:List Nd->Int->Int->Int
 | [],_,sum=>sum
 |k :: ks,left,sum=>if sum<=left then yV ks left (sum+cntN k (left-sum)) else sum
end
theorem mC(n left):cntN n left=yV n.sD left 1:=by
 obtain⟨op,o,i,ks,p⟩:=n;simp[cntN,Nd.sD]
mutual
theorem X3:∀(n:Nd)(left:Int),1<=cntN n left/\(cntN n left<=left+1\/cntN n left=1)
 | .mk _ _ _ ks _,left=>by
  simp only[cntN];have:=X4 ks left 1;omega
theorem X4:∀(ks:List Nd)(left sum:Int),sum<=yV ks left sum/\(yV ks left sum<=left+1\/yV ks left sum=sum)
 | [],left,sum=>by simp[yV]
 |k :: ks,left,sum=>by
  simp only[yV];split
  .have g:=X3 k (left-sum)
   have i:=X4 ks left (sum+cntN k (left-sum));omega
  .omega
end
theorem mD:∀ m n,szN n<=m->∀ left,-1000000<=left/\left<=1000000->qd qb 29 [eNd n,aI left] (aI (cntN n left))
 | 0,n,J,_,_=>by obtain⟨op,nm,i,ks,p⟩:=n;simp[szN]at J
 |m+1,n,J,left,hl=>by
  have T:∀ k,k∈n.sD->∀ left:Int,-1000000<=left/\left<=1000000->qd qb 29 [eNd k,aI left] (aI (cntN k left)):=fun k P =>
   mD m k (zW1 (ym P))
  rw[mC];generalize hR:yV n.sD left 1=R;refine qSU call29 func29 rfl ?_;refine kT n.sD.length (fun k U=>∃ sum:Int,U.tm 1=aI left/\U.tm 2 = .ip (cNd n)/\U.tm 5=aI sum/\U.tm 6=aI k/\(k:Int)+1<=sum/\(sum<=left+1\/sum=1)/\yV (n.sD.drop k) left sum=R) ?_ ?_
  .simp [go_sem, *]
  .rintro k U P ⟨sum,t,l,C,o,a0,a1,j⟩
   by_cases I:k=n.sD.length
   .subst I
    rw[yh]at j;simp only[yV]at j;subst j;simp[go_sem,l,C,o];exact .zsc _
   .have g:k<n.sD.length:=by omega
    rw[zm g]at j;simp only[yV]at j;by_cases r:sum<=left
    .rw [if_pos r]at j
     have w1:=zWk k;have w2:qm.wrap (left-sum)=left-sum:=zWr;have a2:=X3 n.sD[k] (left-sum);have w3:qm.wrap (sum+cntN n.sD[k] (left-sum))=sum+cntN n.sD[k] (left-sum):=zWr;simp[go_sem,t,l,C,o,g,r,w2];refine tC (T n.sD[k] (qn g) (left-sum) ⟨zOm,zOm⟩) (.zk (qJ _) (.zs .nil)) ?_;simp[go_sem,o,w1,w3];refine⟨g,aK ?_⟩;exact⟨sum+cntN n.sD[k] (left-sum),zS1 t,zS1 l,zSi,zSi,zOm,zOm,j⟩
    .rw [if_neg r]at j
     subst j;simp[go_sem,t,l,C,o,g,r];exact .zsc _
mutual
def forN:Nd->Int->Bool
 | .mk op o i ks p,g=>if g<1 then false else ownB (.mk op o i ks p)&&(fitB op ks&&uF ks (g-1))
def uF:List Nd->Int->Bool
 | [],_=>true
 |k :: ks,g=>forN k g&&uF ks g
end
theorem JY(n g):forN n g=if g<1 then false else ownB n&&(fitB n.op n.sD&&uF n.sD (g-1)):=by
 obtain⟨op,o,i,ks,p⟩:=n;simp[forN,Nd.sD,Nd.op]
theorem mE:∀ m n,szN n<=m->Small n->∀ g,-1000000<=g/\g<=1000000->qd qb 30 [eNd n,aI g] (aB (forN n g))
 | 0,n,P,_,_,_=>by obtain⟨op,nm,i,ks,p⟩:=n;simp[szN]at P
 |m+1,n,P,T,g,hl=>by
  have ih:∀ k,k∈n.sD->∀ g:Int,-1000000<=g/\g<=1000000->qd qb 30 [eNd k,aI g] (aB (forN k g)):=fun k I =>
   mE m k (zW1 (ym I)) (T.kid I)
  have C:=T.len;rw[JY];have l:=ownU n;have o:=fitsU n.op n.sD C;by_cases j:g<1
  .rw [if_pos j]
   refine qSV call30 func30 rfl ?_;simp[go_sem,j];exact .zsc _
  rw[if_neg j];cases ho:ownB n with
  |false =>
   rw[ho]at l;refine qSV call30 func30 rfl ?_;simp[go_sem,j];refine fR l (.zk (qJ _) .nil) ?_;exact .zsc _
  |true =>
   rw[ho]at l;cases hf:fitB n.op n.sD with
   |false =>
    rw[hf]at o;refine qSV call30 func30 rfl ?_;simp[go_sem,j];refine fR l (.zk (qJ _) .nil) ?_;refine fR o (.zs (.zk (V9 _) .nil)) ?_;exact .zsc _
   |true =>
    rw[hf]at o;have wl:qm.wrap (g-1)=g-1:=zWr;generalize hR:uF n.sD (g-1)=R;simp only[Bool.true_and];refine qSV call30 func30 rfl ?_;simp[go_sem,j];refine fR l (.zk (qJ _) .nil) ?_;refine fR o (.zs (.zk (V9 _) .nil)) ?_;refine kT n.sD.length (fun k U=>U.tm 1=aI g/\U.tm 2 = .ip (cNd n)/\U.tm 5=aI k/\uF (n.sD.drop k) (g-1)=R) ?_ ?_
    .simp [go_sem, *]
    .rintro k U I ⟨e1,e2,e5,r⟩
     by_cases J:k=n.sD.length
     .subst J
      rw[yh]at r;simp only[uF]at r;subst r;simp[go_sem,e2,e5];exact .zsc _
     .have t:k<n.sD.length:=by omega
      have w1:=zWk k;rw[zm t]at r;simp only[uF]at r;have hi:=ih n.sD[k] (qn t) (g-1) ⟨zOm,zOm⟩;simp[go_sem,e1,e2,e5,t,wl];refine tC hi (.zk (qJ _) (.zs .nil)) ?_;cases hq:forN n.sD[k] (g-1) with
      |true =>
       simp_all[go_sem,Bool.true_and,aK]
      |false =>
       rw[hq,Bool.false_and]at r;subst r;simp[go_sem];exact .zsc _
theorem mF:∀ ks left sum,0<=sum->yV ks left sum<=left->sum+ks.length<=yV ks left sum/\∀ k,k∈ks->∃ l',l'<=left/\cntN k l'<=l'
 | [],left,sum,_,h=>by simp[yV]
 |k :: ks,left,sum,l,h=>by
  simp only[yV]at h⊢;split at h
  .rename_i i
   rw[if_pos i];have o:=X3 k (left-sum);have j:=mF ks left (sum+cntN k (left-sum)) zOm h;have p:=j.1;refine⟨by grind,fun q g=>?_⟩;rcases qt.1 g with rfl|g
   .grind
   grind
  .omega
theorem mG:∀ m n left,szN n<=m->left<=1000->cntN n left<=left->Small n
 | 0,n,_,g,_,_=>by obtain⟨op,nm,i,ks,p⟩:=n;simp[szN]at g
 |m+1,n,left,g,C,h=>by
  rw[mC]at h;obtain⟨I,l⟩:=mF n.sD left 1 zOm h;refine .mk n zOm fun k j=>?_
  obtain⟨o,r,t⟩:=l k j;exact mG m k o (zW1 (ym j)) zOm t
def ze(n:Nd):Bool:=decide (cntN n 400<=400)&&forN n 24
theorem X5(n):qd qb 8 [eNd n] (aB (ze n)):=by
 have i:=mD (szN n) n (qo _) 400 zOm;by_cases h:cntN n 400<=400
 .have j:=mG (szN n) n 400 (qo _) zOm h
  have hf:=mE (szN n) n (qo _) j 24 zOm;have g:ze n=forN n 24:=by simp[ze,h]
  rw[g];refine qSU call8 func8 rfl ?_;refine tC i (.zk (qJ _) (.zs .nil)) ?_;simp[go_sem,h];refine fR hf (.zk (qJ _) (.zs .nil)) ?_;exact .zsc _
 .have g:ze n=false:=by simp[ze,h]
  rw[g];refine qSU call8 func8 rfl ?_;refine tC i (.zk (qJ _) (.zs .nil)) ?_;simp[go_sem,h];exact .zsc _
theorem X6{ks i}(h:uF ks i=true):∀ k,k∈ks->forN k i=true:=by
 induction ks with
 |nil=>grind
 |cons a l j =>
  simp only[uF,qD]at h;intro k g;rcases qt.1 g with rfl|g
  .exact h.1
  .exact j h.2 k g
theorem mH:∀ m n g,szN n<=m->forN n g=true->WfN n
 | 0,n,_,j,_=>by obtain⟨op,nm,i,ks,p⟩:=n;simp[szN]at j
 |m+1,n,g,j,h=>by
  rw[JY]at h;split at h
  .grind
  .simp only[qD]at h
   obtain⟨r,t,o⟩:=h;refine .mk n ?_ (fun C=>?_) fun k l=>mH m k (g-1) (zW1 (ym l)) (X6 o k l)
   .grind [fitB]
   simp_all[ownB,numB,if_pos,absurd]
theorem v8{n}(h:ze n=true):WfN n:=by
 simp only[ze,qD]at h;exact mH (szN n) n 24 (qo _) h.2
end Q4
namespace Q5
theorem qk6(a b)(ha:a.length<=1000000):qd qb 101 [lI a,lI b] (aB (decide (a=b))):=by
 refine qSV call101 func101 rfl ?_;by_cases j:a.length=b.length
 case neg =>
  rw[decide_eq_false (by rintro rfl;exact j rfl)];simp[go_sem,j];exact .zsc _
 simp[go_sem,j];refine kT a.length (fun k U=>U.tm 0=lI a/\U.tm 1=lI b/\U.tm 5=aI k/\∀(i:Nat)(h:i<a.length)(o:i<b.length),i<k->a[i]=b[i]) ?_ ?_
 .exact ⟨zSi,zSi,zSi,fun i h o P=>absurd P zOm⟩
 .rintro k U hk ⟨l,C,p,R⟩
  by_cases T:k=a.length
  .rw [decide_eq_true (List.ext_getElem j fun i h o=>R i h o zOm)]
   have I:k=b.length:=zOm;simp[go_sem,l,p,I,j];exact .zsc _
  .have a0:k<a.length:=by omega
   have r:k<b.length:=zOm;have w1:=zWk k;have g:(k:Int)<(b.length:Int):=zOm;by_cases t:a[k]=b[k]
   .simp [go_sem,l,p,j,g]
    try refine cZ zKr ?_
    simp[go_sem,l,C,p,r,j,g,t,w1]
    try refine⟨zOm,aK ?_⟩
    try refine aK ?_
    refine⟨zS1 l,zS1 C,zSi,fun i h o P=>?_⟩;by_cases J:i=k
    .subst J;exact t
    .exact R i h o zOm
   .rw [decide_eq_false (fun e=>t (zP1 e))]
    simp[go_sem,l,p,j,g]
    try refine cZ zKr ?_
    simp[go_sem,l,C,p,r,j,g,t];exact .zsc _
end Q5
namespace Q6
open Y1 Y9
mutual
def anyN(p:Nd->Bool):Nd->Bool
 | .mk op o i ks q=>p (.mk op o i ks q)||ua p ks
def ua(p:Nd->Bool):List Nd->Bool
 | []=>false
 |k :: ks=>anyN p k||ua p ks
end
theorem UB(p n):anyN p n=(p n||ua p n.sD):=by
 obtain⟨op,o,i,ks,q⟩:=n;simp[anyN,Nd.sD]
theorem mI:∀ m n,szN n<=m->Small n->qd qb 107 [eNd n] (aB (anyN (fun n=>decide (n.op=47)) n))
 | 0,n,I,_=>by obtain⟨op,nm,i,ks,p⟩:=n;simp[szN]at I
 |m+1,n,I,J=>by
  have ih:∀ k,k∈n.sD->qd qb 107 [eNd k] (aB (anyN (fun n=>decide (n.op=47)) k)):=fun k r =>
   mI m k (zW1 (ym r)) (J.kid r)
  have P:=J.len;rw[UB];generalize hR:ua (fun n=>decide (n.op=47)) n.sD=R;refine qSV call107 func107 rfl ?_;by_cases t:n.op=47
  .simp [go_sem,t]
   exact .zsc _
  .rw [decide_eq_false t,Bool.false_or]
   simp[go_sem,t];refine kT n.sD.length (fun k U=>U.tm 1 = .ip (cNd n)/\U.tm 3=aI k/\ua (fun n=>decide (n.op=47)) (n.sD.drop k)=R) ?_ ?_
   .exact ⟨zSi,zSi,zUs hR⟩
   .rintro k U r ⟨l,o,j⟩
    by_cases C:k=n.sD.length
    .subst C
     rw[yh]at j;simp only[ua]at j;subst j;simp[go_sem,l,o];exact .zsc _
    .have g:k<n.sD.length:=by omega
     have w1:=zWk k;rw[zm g]at j;simp only[ua]at j;have hi:=ih n.sD[k] (qn g);simp[go_sem,l,o,g,qZ]
     try refine cZ zKr ?_
     try simp[go_sem,l,o,g,qZ]
     refine tC hi (.zk (qJ _) .nil) ?_;cases T:anyN (fun n=>decide (n.op=47)) n.sD[k] with
     |true =>
      rw[T,Bool.true_or]at j;subst j;simp[go_sem,l,o];exact .zsc _
     |false =>
      rw[T,Bool.false_or]at j;simp[go_sem,l,o,w1]
      try refine⟨g,aK ?_⟩
      try refine aK ?_
      exact⟨zS1 l,zSi,j⟩
end Q6
namespace Q7
open YF P1
def parB(ns:Nat)(l:List (tG×Int)):Bool:=decide (l.length<=8)&&l.all fun p=>decide (0<=p.2)&&decide (p.2<ns)
theorem qk7(ts l):qd qb 53 [eTS ts,lPm l] (aB (parB ts.sS.length l)):=by
 refine qSV call53 func53 rfl ?_;by_cases h8:l.length<=8
 case neg =>
  have i:parB ts.sS.length l=false:=by simp[parB,h8]
  have r:(8:Int)<l.length:=zOm;rw[i];simp[go_sem,r];exact .zsc _
 have r:¬(8:Int)<l.length:=zOm;simp[go_sem,r];refine kT l.length (fun k U=>U.tm 1=lPm l/\U.tm 2 = .ip (cTS ts)/\U.tm 5=aI k/\∀ j p,j<k->l[j]?=some p->0<=p.2/\p.2<ts.sS.length) ?_ ?_
 .exact ⟨zSi,zSi,zSi,fun j p C=>absurd C zOm⟩
 .rintro k U hk ⟨o,J,t,hI⟩
  by_cases P:k=l.length
  .have i:parB ts.sS.length l=true:=by
    simp only[parB,qD,decide_eq_true_eq,zb];refine⟨h8,fun p i=>?_⟩;obtain⟨j,C⟩:=List.mem_iff_getElem?.1 i;exact hI j p (by have:=(qg.1 C).1;omega) C
   rw[i];simp[go_sem,o,t,P];exact .zsc _
  .have g:k<l.length:=by omega
   have w1:=zWk k;have hg:l[k]?=some l[k]:=qw g;by_cases hq:0<=l[k].2/\l[k].2<ts.sS.length
   .have I:¬l[k].2<0:=by omega
    have R:¬(ts.sS.length:Int)<=l[k].2:=zOm;simp[go_sem,o,t,g];refine cZ zKr ?_;simp[go_sem,o,J,t,g,I,R,w1]
    try refine⟨g,aK ?_⟩
    try refine aK ?_
    refine⟨zS1 o,zS1 J,zSi,fun j p C i=>?_⟩;by_cases T:j=k
    .subst T;rw[hg]at i;cases i;exact hq
    .exact hI j p zOm i
   .have i:parB ts.sS.length l=false:=by
     rw[parB,Bool.and_eq_false_iff];refine .inr (List.all_eq_false.2 ⟨l[k],qn g,?_⟩);simp only[qD,decide_eq_true_eq];exact hq
    rw[i];by_cases I:l[k].2<0
    .simp [go_sem,o,t,g]
     refine cZ zKr ?_;simp[go_sem,o,t,g,I];exact .zsc _
    .have R:(ts.sS.length:Int)<=l[k].2:=by omega
     simp[go_sem,o,t,g];refine cZ zKr ?_;simp[go_sem,o,J,t,g,I,R];exact .zsc _
theorem qk8{ns l}(h:parB ns l=true):l.length<=8/\∀ p,p∈l->0<=p.2/\p.2<ns:=by
 simp only[parB,qD,decide_eq_true_eq,zb]at h;exact⟨h.1,fun p g=>h.2 p g⟩
end Q7
namespace Q8
open YF P1 P2 Y1 Y9 Q4 Q7
def limB(ts:TS):Bool:=decide (ts.sS.length<=4)&&decide (ts.sA.length<=6)&&decide (ts.sT.length<=8)&&decide (ts.sP.length<=16)
def fldB(ns:Nat)(f:Fld):Bool:=decide (1<=f.sS.length)&&decide (f.sS.length<=3)&&f.sS.all fun x=>decide (0<=x)&&decide (x<ns)
def yM(ts:TS):Bool:=limB ts&&(ts.sA.all (fldB ts.sS.length)&&(ts.sT.all (fun p=>parB ts.sS.length p.params&&ze p.body)&&ts.sP.all fun f=>ze f.2))
theorem qk9(ts):qd qb 21 [eTS ts] (aB (yM ts)):=by
 refine qSV call21 func21 rfl ?_;by_cases h1:ts.sS.length<=4
 case neg =>
  have hf:yM ts=false:=by simp[yM,limB,h1]
  have J:(4:Int)<ts.sS.length:=zOm;rw[hf];simp[go_sem,J];exact .zsc _
 have J:¬(4:Int)<ts.sS.length:=zOm;by_cases h2:ts.sA.length<=6
 case neg =>
  have hf:yM ts=false:=by simp[yM,limB,h2]
  have P:(6:Int)<ts.sA.length:=zOm;rw[hf];simp[go_sem,J,P];exact .zsc _
 have P:¬(6:Int)<ts.sA.length:=zOm;by_cases h3:ts.sT.length<=8
 case neg =>
  have hf:yM ts=false:=by simp[yM,limB,h3]
  have T:(8:Int)<ts.sT.length:=zOm;rw[hf];simp[go_sem,J,P,T];exact .zsc _
 have T:¬(8:Int)<ts.sT.length:=zOm;by_cases h4:ts.sP.length<=16
 case neg =>
  have hf:yM ts=false:=by simp[yM,limB,h4]
  have a3:(16:Int)<ts.sP.length:=zOm;rw[hf];simp[go_sem,J,P,T,a3];exact .zsc _
 have a3:¬(16:Int)<ts.sP.length:=zOm;simp[go_sem,J,P,T,a3];have af:limB ts=true:=by grind [limB]
 generalize a0:ts.sS.length=r at *
 refine kT ts.sA.length (fun k U=>U.tm 1 = .ip (cTS ts)/\U.tm 3=aI k/\∀ j f,j<k->ts.sA[j]?=some f->fldB r f=true) ?_ ?_
 .simp [go_sem, *]
 .rintro k U hk ⟨C,e3,hI⟩
  by_cases I:k=ts.sA.length
  .have ah:ts.sA.all (fldB r)=true:=by
    grind [zb,List.mem_iff_getElem?,qg]
   simp[go_sem,C,e3,I];refine kT ts.sT.length (fun k U=>U.tm 1 = .ip (cTS ts)/\U.tm 6=aI k/\∀ j p,j<k->ts.sT[j]?=some p->(parB r p.params&&ze p.body)=true) ?_ ?_
   .simp [go_sem, *]
   .clear C e3 hI I hk k U
    rintro k U hk ⟨C,e6,hI⟩;by_cases I:k=ts.sT.length
    .have ai:(ts.sT.all fun p=>parB r p.params&&ze p.body)=true:=by
      grind [zb,List.mem_iff_getElem?,qg]
     simp[go_sem,C,e6,I];refine kT ts.sP.length (fun k U=>U.tm 1 = .ip (cTS ts)/\U.tm 7=aI k/\∀ j f,j<k->ts.sP[j]?=some f->ze f.2=true) ?_ ?_
     .simp [go_sem, *]
     .clear C e6 hI I hk k U
      rintro k U hk ⟨C,e7,hI⟩;by_cases I:k=ts.sP.length
      .have ag:(ts.sP.all fun f=>ze f.2)=true:=by
        grind [zb,List.mem_iff_getElem?,qg]
       have a6:yM ts=true:=by
        grind [yM]
       rw[a6];simp[go_sem,C,e7,I];exact .zsc _
      .have g:k<ts.sP.length:=by omega
       have w1:=zWk k;have hg:ts.sP[k]?=some ts.sP[k]:=qw g;have R:=X5 ts.sP[k].2;simp[go_sem,C,e7,g]
       try refine cZ zKr ?_
       try simp[go_sem,C,e7,g]
       refine tC R (.zk (qJ _) .nil) ?_;cases a7:ze ts.sP[k].2 with
       |false =>
        have hb:yM ts=false:=by
         grind [ze,List.all_eq_false,qn,yM]
        rw[hb];simp[go_sem];exact .zsc _
       |true =>
        simp[go_sem,e7,g,w1]
        try refine⟨g,aK ?_⟩
        try refine aK ?_
        refine⟨zS1 C,zSi,fun i f hi hf=>?_⟩
        grind
    .have g:k<ts.sT.length:=by omega
     have w1:=zWk k;have hg:ts.sT[k]?=some ts.sT[k]:=qw g;have o:(parB r ts.sT[k].params&&ze ts.sT[k].body)=false->yM ts=false:=fun hb=>by
      grind [parB,ze,List.all_eq_false,qn,yM]
     have a2:=qk7 ts ts.sT[k].params;rw[a0]at a2;have R:=X5 ts.sT[k].body;have a8:WKs [eTS ts,lPm ts.sT[k].params] [eTS ts,lPm ts.sT[k].params] := .zk (zl ts) (.zk (vZ _) .nil);simp[go_sem,C,e6,g];refine cZ zKr ?_;simp[go_sem,C,e6,g];refine tC a2 a8 ?_;cases a9:parB r ts.sT[k].params with
     |false =>
      rw[o (by rw[a9];rfl)];simp[go_sem];exact .zsc _
     |true =>
      simp[go_sem,C,e6,g];refine tC R (.zk (qJ _) .nil) ?_;cases a7:ze ts.sT[k].body with
      |false =>
       rw[o (by grind)];simp[go_sem];exact .zsc _
      |true =>
       simp[go_sem,e6,g,w1]
       try refine⟨g,aK ?_⟩
       try refine aK ?_
       refine⟨zS1 C,zSi,fun i f hi hf=>?_⟩
       grind
  .have g:k<ts.sA.length:=by omega
   have hg:ts.sA[k]?=some ts.sA[k]:=qw g;have o:fldB r ts.sA[k]=false->yM ts=false:=fun hb=>by
    have:ts.sA.all (fldB r)=false:=List.all_eq_false.2 ⟨_,qn g,zP1 hb⟩;simp[yM,a0,this]
   by_cases c1:1<=ts.sA[k].sS.length
   case neg =>
    rw[o (by simp[fldB,c1])];have a1:(ts.sA[k].sS.length:Int)<1:=zOm;simp[go_sem,C,e3,g,a1];exact .zsc _
   have a1:¬(ts.sA[k].sS.length:Int)<1:=zOm;by_cases c3:ts.sA[k].sS.length<=3
   case neg =>
    rw[o (by simp[fldB,c3])];have a4:(3:Int)<ts.sA[k].sS.length:=zOm;simp[go_sem,C,e3,g,a1,a4];exact .zsc _
   have a4:¬(3:Int)<ts.sA[k].sS.length:=zOm;simp[go_sem,C,e3,g,a1,a4];refine kT ts.sA[k].sS.length (fun j s=>s.tm 1 = .ip (cTS ts)/\s.tm 3=aI k/\s.tm 4=lI ts.sA[k].sS/\s.tm 5=aI j/\∀ i x,i<j->ts.sA[k].sS[i]?=some x->0<=x/\x<r) ?_ ?_
   .exact ⟨zS1 C,zS1 e3,zSi,zSi,fun i x hi=>absurd hi zOm⟩
   .rintro j s hj ⟨f1,f3,f4,f5,hJ⟩
    generalize hl:ts.sA[k].sS=l at *
    by_cases aa:j=l.length
    .have w1:=zWk k
     have a5:fldB r ts.sA[k]=true:=by
      simp only[fldB,hl,qD,decide_eq_true_eq,zb];refine⟨⟨c1,c3⟩,fun x hx=>?_⟩;obtain⟨i,hi⟩:=List.mem_iff_getElem?.1 hx;exact hJ i x (by have:=(qg.1 hi).1;omega) hi
     simp[go_sem,f3,f4,f5,aa,w1]
     try refine⟨g,aK ?_⟩
     try refine aK ?_
     refine⟨zS1 f1,zSi,fun i f hi hf=>?_⟩;by_cases ab:i=k
     .subst ab;rw[hg]at hf;cases hf;exact a5
     .exact hI i f zOm hf
    .have t:j<l.length:=by omega
     have w1:=zWk j;have ad:l[j]?=some l[j]:=qw t;by_cases hq:0<=l[j]/\l[j]<r
     .have q1:¬l[j]<0:=by omega
      have q2:¬(r:Int)<=l[j]:=zOm;simp[go_sem,f4,f5,t];refine cZ zKr ?_;simp[go_sem,f1,f4,f5,t,q1,q2,w1,a0]
      try refine⟨t,aK ?_⟩
      try refine aK ?_
      refine⟨zS1 f1,zS1 f3,zS1 f4,zSi,fun i x hi hx=>?_⟩;by_cases ae:i=j
      .subst ae;rw[ad]at hx;cases hx;exact hq
      .exact hJ i x zOm hx
     .rw [o (by
       rw[fldB,hl,Bool.and_eq_false_iff];refine .inr (List.all_eq_false.2 ⟨l[j],qn t,?_⟩);simp only[qD,decide_eq_true_eq];exact hq)]
      by_cases q1:l[j]<0
      .simp [go_sem,f4,f5,t]
       refine cZ zKr ?_;simp[go_sem,f4,f5,t,q1];exact .zsc _
      .have q2:(r:Int)<=l[j]:=by omega
       simp[go_sem,f4,f5,t];refine cZ zKr ?_;simp[go_sem,f1,f4,f5,t,q1,q2,a0];exact .zsc _
theorem qlA{ts}(h:yM ts=true)(i:∀ x,x∈ts.sS->x.1.size<=4611686018427387904):okTS ts/\(∀ p,p∈ts.sT->WfN p.body)/\∀ f,f∈ts.sP->WfN f.2:=by
 simp only[yM,limB,fldB,qD,decide_eq_true_eq,zb]at h;obtain⟨⟨⟨⟨j,l⟩,o⟩,r⟩,hf,t,C⟩:=h;refine⟨⟨j,l,o,r,i,fun f g=>?_,fun p g=>?_⟩,fun p g=>v8 (t p g).2,fun f g=>v8 (C f g)⟩
 .grind
 grind [qk8]
end Q8
namespace GQ
open YF P1 E9 Q8
def yW(sc:Sc):Bool:=decide (sc.sC.length<=4)&&(decide (1<=sc.sN)&&(decide (sc.sN<=4)&&(sc.sC.all (fun a=>decide (1<=a)&&decide (a<=5))&&decide (sumI sc.sC<=12))))
theorem qlB{sc}(h:yW sc=true):GSc sc:=by
 simp only[yW,qD,decide_eq_true_eq,zb]at h;exact⟨h.1,fun a g=>by grind⟩
theorem qlC(sc):qd qb 100 [eSc sc] (aB (yW sc)):=by
 refine qSV call100 func100 rfl ?_;by_cases o:(4:Int)<sc.sC.length
 case pos =>
  simp[go_sem,o,yW,show ¬sc.sC.length<=4 by omega];exact .zsc _
 by_cases I:sc.sN<1
 case pos =>
  simp[go_sem,o,I,yW,show ¬ 1<=sc.sN by omega];exact .zsc _
 by_cases T:4<sc.sN
 case pos =>
  simp[go_sem,o,I,T,yW,show ¬sc.sN<=4 by omega];exact .zsc _
 simp[go_sem,o,I,T];refine qh.up sc.sC.length (fun k U=>U.tm 1 = .ip [lI sc.sC,aI sc.sN]/\U.tm 3=aI (sumI (sc.sC.take k))/\U.tm 4=aI k/\U.mu=[]/\0<=sumI (sc.sC.take k)/\sumI (sc.sC.take k)<=5*k/\∀(i:Nat)(h:i<sc.sC.length),i<k->1<=sc.sC[i]/\sc.sC[i]<=5) ?_ ?_
 .simp [go_sem,sumI]
 rintro k U hk ⟨p,J,r,t,s0,s1,he⟩;by_cases g:k<sc.sC.length
 .by_cases hb:sc.sC[k]<1\/5<sc.sC[k]
  .have:sc.sC.all (fun a=>decide (1<=a)&&decide (a<=5))=false:=Uv g zSo
   have:yW sc=false:=by simp only[yW,this,Bool.and_false,Bool.false_and]
   rw[this];by_cases j:sc.sC[k]<1
   .simp [go_sem,p,r,t,g,j]
    exact .zsc _
   .simp [go_sem,p,r,t,g,j,show 5<sc.sC[k] by omega]
    exact .zsc _
  .have hs:=uw sc.sC k g
   generalize hS:sumI (sc.sC.take k)=S at *
   simp[go_sem,p,J,r,t,g,hs,show ¬sc.sC[k]<1 by omega,show ¬ 5<sc.sC[k] by omega];refine⟨zWr,zWr,zOm,zOm,fun i h C=>?_⟩;rcases Nat.lt_succ_iff_lt_or_eq.1 C with P|P
   .exact he i h P
   .subst P;exact⟨zOm,zOm⟩
 .have R:k=sc.sC.length:=by omega
  subst R;rw[qO]at J;have l:sc.sC.all (fun a=>decide (1<=a)&&decide (a<=5))=true:=by
   rw[Uu];intro i C;have:=he i C C;simp;omega
  simp[go_sem,p,J,r,t];simp only[yW,l,show sc.sC.length<=4 by omega,show 1<=sc.sN by omega,show sc.sN<=4 by omega];simp;exact .zsc _
theorem qlD(ts sc):qd qb 54 [eTS ts,eSc sc] (aB (decide (ts.sS.length=sc.sC.length)&&yW sc)):=by
 refine qSV call54 func54 rfl ?_;by_cases h:ts.sS.length=sc.sC.length
 .simp [go_sem,h]
  refine fR (qlC sc) (.zk (zA sc) .nil) ?_;exact .zsc _
 .simp [go_sem,h]
  exact .zsc _
def jp(ts:TS)(sc:Sc):Bool:=decide (1<=ts.sS.length)&&(decide (ts.sS.length<=4)&&(decide (ts.sA.length<=6)&&(decide (sc.sC.length<=4)&&(ts.sA.all (fldB ts.sS.length)&&(decide (ts.sS.length=sc.sC.length)&&yW sc)))))
theorem qlE(ts sc):qd qb 22 [eTS ts,eSc sc] (aB (jp ts sc)):=by
 refine qSV call22 func22 rfl ?_;by_cases I:ts.sS.length=0
 case pos =>
  have hf:jp ts sc=false:=by grind [jp]
  rw[hf];simp[go_sem,I];exact .zsc _
 by_cases T:(4:Int)<ts.sS.length
 case pos =>
  have hf:jp ts sc=false:=by grind [jp]
  rw[hf];simp[go_sem,I,T];exact .zsc _
 by_cases h2:(6:Int)<ts.sA.length
 case pos =>
  have hf:jp ts sc=false:=by grind [jp]
  rw[hf];simp[go_sem,I,T,h2];exact .zsc _
 by_cases h3:(4:Int)<sc.sC.length
 case pos =>
  have hf:jp ts sc=false:=by grind [jp]
  rw[hf];simp[go_sem,I,T,h2,h3];exact .zsc _
 simp[go_sem,I,T,h2,h3];refine kT ts.sA.length (fun k U=>U.tm 2 = .ip (cTS ts)/\U.tm 3 = .ip [lI sc.sC,aI sc.sN]/\U.tm 5=aI k/\∀(j:Nat)(h:j<ts.sA.length),j<k->fldB ts.sS.length ts.sA[j]=true) ?_ ?_
 .simp [go_sem, *]
 rintro k U hk ⟨p,J,r,hI⟩;by_cases o:k<ts.sA.length
 .have w1:=zWk k
  have l:fldB ts.sS.length ts.sA[k]=false->jp ts sc=false:=fun hb=>by
   simp only[jp,Uv o hb,Bool.and_false,Bool.false_and]
  by_cases l1:(ts.sA[k].sS.length:Int)<1
  .rw [l (by grind [fldB])]
   simp[go_sem,p,r,o,l1];exact .zsc _
  by_cases l3:(3:Int)<ts.sA[k].sS.length
  .rw [l (by grind [fldB])]
   simp[go_sem,p,r,o,l1,l3];exact .zsc _
  simp[go_sem,p,r,o,l1,l3];refine kT ts.sA[k].sS.length (fun j U=>U.tm 2 = .ip (cTS ts)/\U.tm 3 = .ip [lI sc.sC,aI sc.sN]/\U.tm 5=aI k/\U.tm 6=lI ts.sA[k].sS/\U.tm 7=aI j/\∀(i:Nat)(h:i<ts.sA[k].sS.length),i<j->0<=ts.sA[k].sS[i]/\ts.sA[k].sS[i]<ts.sS.length) ?_ ?_
  .simp [go_sem, *]
  clear p J r U;rintro j U hj ⟨p,J,r,C,P,hJ⟩;by_cases g:j<ts.sA[k].sS.length
  .have w2:=zWk j
   simp[go_sem,C,P,g];refine cZ zKr ?_;by_cases q1:ts.sA[k].sS[j]<0
   .rw [l (by rw[fldB,Uv g zSo,Bool.and_false])]
    simp[go_sem,C,P,g,q1];exact .zsc _
   by_cases q2:(ts.sS.length:Int)<=ts.sA[k].sS[j]
   .rw [l (by rw[fldB,Uv g zSo,Bool.and_false])]
    simp[go_sem,p,C,P,g,q1,q2];exact .zsc _
   simp[go_sem,p,C,P,g,q1,q2,w2]
   try refine⟨g,aK ?_⟩
   try refine aK ?_
   refine⟨zS1 p,zS1 J,zS1 r,zS1 C,zSi,fun i h hi=>?_⟩
   grind
  .have t:j=ts.sA[k].sS.length:=by omega
   simp[go_sem,r,C,P,t,w1]
   try refine⟨o,aK ?_⟩
   try refine aK ?_
   refine⟨zS1 p,zS1 J,zSi,fun i h hi=>?_⟩;by_cases a0:i=k
   .subst a0
    have:ts.sA[i].sS.all (fun x=>decide (0<=x)&&decide (x<ts.sS.length))=true:=Uu.2 fun a ha=>by
     grind
    simp only[fldB,this,Bool.and_true,qD,decide_eq_true_eq];omega
   grind
 .have t:k=ts.sA.length:=by omega
  have R:ts.sA.all (fldB ts.sS.length)=true:=Uu.2 fun i h=>hI i h zOm
  simp[go_sem,p,J,r,t];refine fR (qlD ts sc) (.zk (zl ts) (.zk (zA sc) .nil)) ?_;have hf:jp ts sc=(decide (ts.sS.length=sc.sC.length)&&yW sc):=by
   simp only[jp,R,show 1<=ts.sS.length by omega,show ts.sS.length<=4 by omega,show ts.sA.length<=6 by omega,show sc.sC.length<=4 by omega];simp
  rw[hf];exact .zsc _
end GQ
namespace EZ
open E1 E2 EO EP EQ ER ET EY
theorem mJ(m)(j:0<m)(x)(g:0<=x/\x<=1000000):qd qb 243 [aI x,.ip [aI m]] (aI (x / m)):=by
 refine qSV call243 func243 rfl ?_;have d1:x.tdiv m=x / m:=Int.tdiv_eq_ediv_of_nonneg g.1;have l:0<=x / m:=Int.ediv_nonneg g.1 zOm;have o:x / m<=x:=Int.ediv_le_self _ g.1;have i:qm.wrap (x / m)=x / m:=zWr;simp[go_sem,show ¬m=0 by omega,d1,i];exact .zsc _
abbrev ovF(m:Int):AV := .fn (.func 243) [] [.ip [aI m]]
theorem Yp(m):HF (ovF m):=HF.fn zSp (by simp;exact yU (HF.sc _))
theorem aV(m)(g:0<m)(ok)(h:∀ x,ok x->0<=x/\x<=1000000):FnOk qb (ovF m) (fun x:Int=>aI x) ok (fun x=>aI (x / m)):=
 ⟨Yp m,_,[],_,rfl,fun x i=>⟨_,.zs (.zk (yU (HF.sc _)) .nil),mJ m g x (h x i)⟩⟩
theorem qlF(m)(g:0<m)(ts x)(i:0<=x/\x<=1000000):qd qb 244 [aI x,.ip [imC (cntK (fun t=>t / m) ts)],.ip [ovF m]] (aB (decide ((getK (x / m) (cntK (fun t=>t / m) ts)).getD 0=0))):=by
 refine qSV call244 func244 rfl ?_;have j:=fun C=>XC C (fun t=>t / m) ts (x / m)
 have l:(imC (cntK (fun t=>t / m) ts)).cells=[imC (cntK (fun t=>t / m) ts)]:=rfl;have o:(imC (cntK (fun t=>t / m) ts)).one=true:=rfl;generalize imC (cntK (fun t=>t / m) ts)=B at *
 simp[go_sem];refine fM ?_;refine fW (mJ m g x i) (.zs (.zk (yU (HF.sc _)) .nil)) ?_;simp[go_sem,j];exact .zsc _
theorem qlG(m ts x):(getK (x / m) (cntK (fun t=>t / m) ts)).getD 0=0↔∀ u,u∈ts->u / m≠x / m:=by
 obtain⟨l,i⟩:=nH (fun t=>t / m) ts (x / m);constructor
 .intro h u g e
  have:=i.2 ⟨u,g,e⟩;omega
 .intro h
  have:¬ 0<(getK (x / m) (cntK (fun t=>t / m) ts)).getD 0:=fun j=>by
   obtain⟨u,g,e⟩:=i.1 j;exact h u g e
  omega
theorem overU(n)(p:0<=n)(a8:n<=12)(a b)(P:GR n a)(C:GR n b)(e:a.ar=b.ar):qd qb 209 [aI n,eRel a,eRel b] (eRel (ovR n a b)):=by
 refine qSV call209 func209 rfl ?_;have b1:=C.ar1;have b3:=C.ar3;have la:=P.len p zOm;have lb:=C.len p zOm;by_cases J:n=0
 .have hr:ovR n a b=⟨a.ar,[]⟩:=by
   unfold ovR unR;rw[GR.none J P,GR.none J C,e];rfl
  rw[hr];simp[go_sem,J];exact Yk
 have w2:qm.wrap (b.ar-1)=b.ar-1:=zWr;have hp:0<powI n (b.ar-1):=Int.pow_pos zOm;obtain⟨p0,p1⟩:=wU (k:=b.ar-1) p (by omega:n<=20);obtain⟨q0,q1⟩:=wU (k:=b.ar) p (by omega:n<=20);obtain⟨r0,r1⟩:=wU (k:=a.ar) p (by omega:n<=20);have R:∀ t,t∈a.ts->0<=t/\t<=1000000:=fun t T=>zW1 (P.val t T)
 have U:∀ t,t∈b.ts->0<=t/\t<=1000000:=fun t T=>zW1 (C.val t T)
 have a0:=XD n p zOm (b.ar-1) zOm zOm;unfold ovR;generalize powI n (b.ar-1)=m at *
 have a1:=setU b (ovF m) (fun t=>t / m) (aV m hp (·∈b.ts) U) zOm;have g:=ZG (cntK (fun t=>t / m) b.ts);have hk:=XB a.ts (.fn (.func 244) [] [.ip [imC (cntK (fun t=>t / m) b.ts)],.ip [ovF m]]) (fun t=>decide (∀ u,u∈b.ts->u / m≠t / m)) ⟨HF.fn zSp (by simp;exact⟨yU g,yU (Yp m)⟩),_,[],_,rfl,fun x l=>⟨_,.zs (.zk (yU g) (.zk (yU (Yp m)) .nil)),by have:=qlF m hp b.ts x (R x l);simp only[qlG m b.ts x]at this;exact this⟩⟩ zOm;have a2:(imC (cntK (fun t=>t / m) b.ts)).cells=[imC (cntK (fun t=>t / m) b.ts)]:=rfl;have a3:(imC (cntK (fun t=>t / m) b.ts)).one=true:=rfl;generalize imC (cntK (fun t=>t / m) b.ts)=B at *
 have a4:WKs [lI a.ts,.fn (.func 244) [] [.ip [B],.ip [ovF m]]] [lI a.ts,.fn (.func 244) [] [.ip [B],.ip [ovF m]]] := .zk (zh _) (.cons (.hf (HF.fn zSp (by simp;exact⟨yU g,yU (Yp m)⟩))) .nil);have a5:=List.length_filter_le (fun t=>decide (∀ u,u∈b.ts->u / m≠t / m)) a.ts;have hu:=jT b ⟨a.ar,a.ts.filter fun t=>decide (∀ u,u∈b.ts->u / m≠t / m)⟩ zOm (zt a5 zOm);have a6:=wkR2 b ⟨a.ar,a.ts.filter fun t=>decide (∀ u,u∈b.ts->u / m≠t / m)⟩;generalize a.ts.filter (fun t=>decide (∀ u,u∈b.ts->u / m≠t / m))=K at *
 simp[go_sem,J];rw[w2];refine fR a0 (.zs (.zs .nil)) ?_;refine fQ (qy.freezeM (args1:=[eRel b,ovF m]) (mu':=[.arr [aI 0,.lst true []],.dead,.arr [ovF m]]) (fun i=>i == 1) ?_ ?_ (a1.toSound _ (.zk (qK b) (.zk (Yp m) .nil)))) ?_ ?_
 .exact ⟨.same _,.fn _ _ _ _ _ rfl rfl zSp (fun k x y l I=>by
   match k with
   | 0=>simp at l I;subst l;subst I;exact .rd _ _ (Rd.ip1 rfl (.hf _ (HF.sc _)))
   |k+1=>simp at l),trivial⟩
 .refine ⟨rfl,fun i c' o h2=>?_⟩
  match i with
  | 0=>simp at o;subst o;exact⟨rfl,_,rfl,zSp,.inl rfl⟩
  | 1=>simp at o;exact absurd o.symm h2
  | 2 =>
   simp at o;subst o;exact⟨rfl,_,rfl,zSp,.inr ⟨_,_,rfl,rfl,⟨.fn _ _ _ _ _ rfl rfl zSp (fun k x y l I=>by
    match k with
    | 0=>simp at l I;subst l;subst I;exact .rd _ _ (Rd.ip1 rfl (.hf _ (HF.sc _)))
    |k+1=>simp at l),trivial⟩,rfl⟩⟩
  |i+3=>simp at o
 .rintro r j ⟨h,rfl⟩
  cases h;simp[go_sem,a2,a3];refine qe.fz (FzQ.one (d:=8) (b:=2) (x := .ip [ovF m]) (Rd.ip1 rfl (.hf _ (Yp m))) ?_);refine qe.fz (FzQ.one (d:=9) (b:=3) (x := .ip [B]) ?_ ?_)
  .simp [go_sem,cutM]
   exact Rd.ip1 rfl (.hf _ g)
  simp[go_sem,cutM];refine fM ?_;refine fR hk a4 ?_;refine fR hu a6 ?_;exact .hf _ (qK _)
 .rintro r j ⟨h,rfl⟩
  cases h
end EZ
namespace EA
open Y1 Y9 P2 E1 E2 E3 E7
section
variable {nm:tG}{ds:List Den}{x:Mo}{N:Nat}{p:Pl}
structure OkM (x:Mo) (N:Nat):Prop extends OkX x N where
 n0:0<=x.n
 n12:x.n<=12
 st:∀ s,s<N->(x.m.sK.getD s []).length=x.ts.sA.length/\∀ r,r∈x.m.sK.getD s []->GR x.n r
 at0:∀ i,i<x.ts.sS.length->0<=gI x.m.sc.sC i/\0<=sumI (x.m.sc.sC.take i)/\sumI (x.m.sc.sC.take i)+gI x.m.sc.sC i<=x.n
structure OkP (x:Mo) (N:Nat) (p:Pl):Prop where
 st:p.st<N
 env:∀ e,e∈p.env->0<=e.2/\e.2<x.n
theorem OkP.nx(h:OkM x N)(k:OkP x N p):OkP x N ⟨x.nx p.st,p.env⟩:=⟨h.nx _ k.st,k.env⟩
theorem OkP.bind(k:OkP x N p){nm a}(i:0<=a/\a<x.n):OkP x N ⟨p.st,p.env++[(nm,a)]⟩:=⟨k.st,fun e g=>by
 rcases qH.1 g with g|g
 .exact k.env e g
 grind⟩
theorem ja{J i q}{g:J->XE i}{r}(h:bX q g = .ok r):∃ a,q = .ok a/\g a = .ok r:=by
 cases q with
 |error e=>cases h
 |ok a=>exact⟨a,rfl,h⟩
theorem mK{a}:∀{env:List (tG×Int)}{r},env.foldl (fun r e=>if e.1=nm then some e.2 else r) r=some a->r=some a\/∃ e,e∈env/\e.2=a
 | [],r,h => .inl h
 |e :: env,r,h=>by
  rw[List.foldl_cons]at h;rcases mK h with h|⟨g,i,j⟩
  .split at h
   .grind
   grind
  grind
theorem qlH{fs i r}(h:r∈vI fs i nm):r∈i:=by
 unfold vI at h;obtain⟨e,j,g⟩:=List.mem_filterMap.1 h;split at g
 .cases g;exact(List.of_mem_zip (a:=e.1) (b:=e.2) j).2
 .cases g
theorem mL(h:OkM x N)(nm):∀ so i,i+so.length<=x.ts.sS.length->∀ r,r∈y7 x nm i so->GR x.n r
 | [],i,_,r,g=>by cases g
 |s :: so,i,l,r,g=>by
  simp only[zz]at l;obtain⟨C,o,I⟩:=h.at0 i zOm;rw[y7]at g;simp only[qH]at g;have j:GR x.n ⟨1,zx x i⟩:=GR.run _ o zOm;rcases g with g|g|g|g
  .grind
  .split at g
   .rw [qT]at g;subst g
    exact⟨j.ar1,j.ar3,fun t p=>j.val t (ui p),List.Pairwise.sublist (List.take_sublist _ _) j.srt⟩
   .cases g
  .grind [qT,gI,wW,GR.nil,GR.sN]
  .exact mL h nm so (i+1) zOm r g
theorem qlI{l r}(h:JH l = .ok r):r∈l:=by
 match l,h with
 | [q],h=>cases h;exact zd ..
theorem qlJ(h:OkM x N){p}(k:OkP x N p){nm r}(e:Yg x p nm = .ok r):GR x.n r:=by
 unfold Yg at e;cases i:ZF nm p.env with
 |some a =>
  rw[i]at e;cases e;rcases mK i with g|⟨b,j,rfl⟩
  .cases g
  .exact GR.one (k.env b j).1 (k.env b j).2
 |none =>
  rw[i]at e;rcases qH.1 (qlI e) with g|g
  .exact (h.st _ k.st).2 r (qlH g)
  .exact mL h nm _ 0 zOm r g
theorem X7{J}{g:Int->XE J}:∀{ts l},mapX (fun a=>bX (g a) fun b => .ok (a,b)) ts = .ok l->l.map Prod.fst=ts
 | [],l,h=>by cases h;rfl
 |t :: ts,l,h=>by
  rw[mapX]at h;obtain⟨b,i,j⟩:=ja h;obtain⟨c,I,o⟩:=ja i;cases o;obtain⟨r,p,C⟩:=ja j;cases C;rw[zT,X7 p]
theorem mM{l}(h:j8 ds nm p = .ok l):∃ d,(kD ds 0).E p = .ok d/\d.ar=1/\l.map Prod.fst=d.ts:=by
 unfold j8 at h;obtain⟨d,i,g⟩:=ja h;split at g
 .rename_i j;exact⟨d,i,j,X7 g⟩
 .cases g
theorem u7{q}(h:yz ds p = .ok q):(kD ds 0).E p = .ok q.1/\(kD ds 1).E p = .ok q.2/\q.1.ar=q.2.ar:=by
 unfold yz at h;obtain⟨a,i,g⟩:=ja h;obtain⟨b,j,l⟩:=ja g
 grind
theorem Yq{a}(h:binE ds p = .ok a):(kD ds 0).E p = .ok a/\a.ar=2:=by
 unfold binE at h;obtain⟨b,i,g⟩:=ja h;split at g
 .grind
 .cases g
theorem qlK(h:OkM x N){op nm i ds}(hi:op=2->1<=i/\i<=3)(I:∀ j p r,OkP x N p->(kD ds j).E p = .ok r->GR x.n r){p}(k:OkP x N p){r}(e:opE x op nm i ds p = .ok r):GR x.n r:=by
 have n0:=h.n0;unfold opE at e;by_cases o1:op=1
 .rw [if_pos o1]at e
  exact qlJ h k e
 rw[if_neg o1]at e;by_cases o2:op=2
 .rw [if_pos o2]at e
  grind [GR.nil]
 rw[if_neg o2]at e;by_cases o3:op=3
 .rw [if_pos o3]at e
  cases e;have:=GR.run (n:=x.n) (a:=0) x.n.toNat zOm zOm
  grind
 rw[if_neg o3]at e;by_cases o4:op=4
 .rw [if_pos o4]at e
  cases e;exact aX n0
 rw[if_neg o4]at e;by_cases o5:op=5
 .rw [if_pos o5]at e
  exact I 0 _ r (k.nx h) e
 rw[if_neg o5]at e;by_cases o6:op=6
 .rw [if_pos o6]at e
  obtain⟨q,g,o⟩:=ja e;obtain⟨g1,C,J⟩:=u7 g
  grind [aC]
 rw[if_neg o6]at e;by_cases o7:op=7
 .rw [if_pos o7]at e
  obtain⟨q,g,o⟩:=ja e;obtain⟨g1,C,J⟩:=u7 g;cases o;exact GR.filter (I 0 p _ k g1) _
 rw[if_neg o7]at e;by_cases o8:op=8
 .rw [if_pos o8]at e
  obtain⟨q,g,o⟩:=ja e;obtain⟨g1,C,J⟩:=u7 g;cases o;exact GR.filter (I 0 p _ k g1) _
 rw[if_neg o8]at e;by_cases o9:op=9
 .rw [if_pos o9]at e
  obtain⟨a,g,o⟩:=ja e;obtain⟨b,h3,h4⟩:=ja o
  grind [uY,GR.join]
 rw[if_neg o9]at e;by_cases P:op=10
 .rw [if_pos P]at e
  obtain⟨a,g,o⟩:=ja e;obtain⟨b,h3,h4⟩:=ja o
  grind [Qz,aG]
 rw[if_neg P]at e;by_cases R:op=11
 .rw [if_pos R]at e
  obtain⟨a,g,o⟩:=ja e;obtain⟨g1,C⟩:=Yq g
  grind [GR.trans]
 rw[if_neg R]at e;by_cases T:op=12
 .rw [if_pos T]at e
  obtain⟨a,g,o⟩:=ja e;obtain⟨g1,C⟩:=Yq g
  grind [aR]
 rw[if_neg T]at e;by_cases U:op=13
 .rw [if_pos U]at e
  obtain⟨a,g,o⟩:=ja e;obtain⟨g1,C⟩:=Yq g;obtain⟨c1,c2⟩:=aR n0 200 (I 0 p _ k g1) C;cases o;exact aC c1 (aX n0) c2
 rw[if_neg U]at e;by_cases a0:op=14
 .rw [if_pos a0]at e
  obtain⟨q,g,o⟩:=ja e;obtain⟨g1,C,J⟩:=u7 g
  grind [aW]
 rw[if_neg a0]at e;by_cases a1:op=15
 .rw [if_pos a1]at e
  obtain⟨l,g,o⟩:=ja e;obtain⟨d,g1,C,J⟩:=mM g;cases o;have gd:=I 0 p d k g1;have hs:List.Sublist ((l.filter fun e=>e.2).map fun e=>e.1) d.ts:=by rw[<-J];exact List.Sublist.map _ List.filter_sublist
  refine⟨by grind,by grind,fun t ht=>?_,List.Pairwise.sublist hs gd.srt⟩;have:=gd.val t (hs.subset ht)
  grind
 rw[if_neg a1]at e;cases e
theorem mN(h:OkM x N):∀ m n,szN n<=m->WfN n->∀ p r,OkP x N p->(den x n).E p = .ok r->GR x.n r
 | 0,n,o,_,_,_,_,_=>by obtain⟨op,nm,i,ks,p⟩:=n;simp[szN]at o
 |m+1,n,o,t,p,r,k,e=>by
  rw[Um]at e;refine qlK h t.num (fun j p r k e=>?_) k e;unfold kD at e;by_cases g:j<n.sD.length
  .have l:(n.sD.map (den x)).getD j noD=den x n.sD[j]:=by simp[List.getD,g]
   rw[l]at e;exact mN h m n.sD[j] (zW1 (ym (qn g))) (t.kid (qn g)) p r k e
  .have l:(n.sD.map (den x)).getD j noD=noD:=by simp[List.getD,g]
   rw[l]at e;cases e
end
end EA
namespace F2
open Y1 Y9 E1 E2 E3 EA EQ ER EY EZ F1
structure Ev3 (x:Mo) (p:Pl) (n:Nd):Prop where
 E:qR qb 131 [eMa x,ePl p,eNd n] (endE ((den x n).E p))
 N:qR qb 132 [eMa x,ePl p,eNd n] (endN ((den x n).N p))
 F:qR qb 84 [eMa x,ePl p,eNd n] (endB ((den x n).F p))
 G:∀ r,(den x n).E p = .ok r->GR x.n r
structure OkMa (x:Mo) (N:Nat):Prop extends OkM x N where
 gsc:GSc x.m.sc
 pos:∀ a,a∈x.m.sc.sC->0<=a
 al:x.m.sc.sC.length=x.ts.sS.length
 loop:0<=x.m.loop
 N1:N<=1000
 ts:okTS x.ts
mutual
def dN:Nd->Nat
 | .mk _ _ _ ks _=>dNs ks+1
def dNs:List Nd->Nat
 | []=>0
 |k :: ks=>max (dN k) (dNs ks)
end
theorem mO(n):dN n=dNs n.sD+1:=by
 obtain⟨op,o,i,ks,p⟩:=n;rfl
theorem qlL{ks k}(h:k∈ks):dN k<=dNs ks:=by
 induction ks with
 |nil=>simp at h
 |cons a l g =>
  simp only[dNs];rcases qt.1 h with rfl|h
  .omega
  .have:=g h;omega
theorem qlM{n k}(h:k∈n.sD):dN k<dN n:=by
 have:=qlL h;rw[mO n];omega
abbrev IH(x:Mo)(N:Nat)(n:Nd):Prop:=∀ k,k∈n.sD->∀ p:Pl,OkP x N p->p.env.length+dN n<=1000001->Ev3 x p k
abbrev bd(p:Pl)(n:Nd):Prop:=p.env.length+dN n<=1000000
theorem qlN{mu r s x y}(h:Rd mu x (eRel r))(j:Rd mu y (eRel s)):Rd mu (.tup [x,y]) (.tup [eRel r,eRel s]):=by
 refine .tup _ _ rfl fun k u v g i=>?_
 match k with
 | 0=>simp at g i;subst g;subst i;exact h
 | 1=>simp at g i;subst g;subst i;exact j
 |k+2=>simp at g
theorem Yr(x N n a b)(i:n.sD=[a,b])(t:IH x N n)(p)(C:OkP x N p)(U:bd p n) :
  qR qb 129 [eMa x,ePl p,eNd n] (end2 (yz [den x a,den x b] p)):=by
 refine za.of_sound ?_;refine qSW call129 func129 rfl {} ?_;have j:=(t a (by rw[i];simp) p C zOm).E;have l:=(t b (by rw[i];simp) p C zOm).E;have I:=wk3 x p a;have J:=wk3 x p b;have hM:=zN x;generalize g:yz [den x a,den x b] p=E;unfold yz at g;simp only[kD,uj,List.getD_cons_succ]at g;generalize eMa x=M at *
 simp[go_sem];refine fD [0,1,2,3,4,5,7,8,9,10,11,12,6,13,14,15,16,17] [(0,0,[]),(1,0,[]),(2,0,[]),(3,0,[]),(4,0,[]),(5,0,[]),(7,0,[]),(8,0,[]),(9,0,[]),(10,0,[]),(11,0,[]),(12,0,[]),(6,1,[8,10,12]),(13,1,[]),(14,2,[1,3,5,8,10,12]),(15,2,[1,3,5,8,10,12]),(16,1,[]),(17,1,[])] zKr zKr zSi ?_;simp[go_sem,i];cases P:(den x a).E p with
 |error e =>
  rw[P]at j g;subst g;refine fZ j I ?_;simp[go_sem];exact .hf _ (qL _)
 |ok r =>
  rw[P]at j g;rw[zw]at g;refine tC j.toP I ?_;simp[go_sem,i];cases R:(den x b).E p with
  |error e =>
   rw[R]at l g;subst g;refine fZ l J ?_;simp[go_sem];exact .hf _ (qL _)
  |ok s =>
   rw[R]at l g;rw[zw]at g;refine tC l.toP J ?_;by_cases o:r.ar=s.ar
   .rw [if_pos o]at g
    subst g;have T:(r.ar=s.ar)=True:=eq_true o;simp[go_sem,i,T];refine fD [0,1,2,3] [(0,0,[]),(1,0,[]),(2,1,[1]),(3,1,[])] zKr zKr zSi ?_;simp[go_sem];exact qlN (.hf _ (qK r)) (.hf _ (qK s))
   .rw [if_neg o]at g
    subst g;simp[go_sem,i,o];refine fZ (uZ 42) (wkI 42) ?_;simp[go_sem];exact .hf _ (qL _)
theorem qlO(x N n a b)(i:OkMa x N)(j:n.sD=[a,b])(l:IH x N n)(p)(o:OkP x N p)(P:bd p n) :
  qR qb 172 [eMa x,ePl p,eNd n] (endE (bX (yz [den x a,den x b] p) fun q => .ok (unR q.1 q.2))):=by
 refine za.of_sound ?_;refine qSW call172 func172 rfl {} ?_;have g:=Yr x N n a b j l p o P;have C:=wk3 x p n;have R:=zN x;cases t:yz [den x a,den x b] p with
 |error e =>
  rw[t]at g;rw[zB];simp[go_sem];refine fZ g C ?_;simp[go_sem];exact .hf _ (qL _)
 |ok q =>
  obtain⟨r,s⟩:=q;obtain⟨I,J,h3⟩:=u7 t;simp only[kD,uj,List.getD_cons_succ]at I J;have T:=(l a (by rw[j];simp) p o zOm).G _ I;have U:=(l b (by rw[j];simp) p o zOm).G _ J;have lr:=T.len i.n0 (zW1 i.n12);have ls:=U.len i.n0 (zW1 i.n12);rw[t]at g;rw[zw];simp[go_sem];refine fR g.toP C ?_;refine fR (jT r s zOm zOm) (wkR2 r s) ?_;exact .hf _ (qK _)
theorem qlP(x N n a b)(i:OkMa x N)(j:n.sD=[a,b])(l:IH x N n)(p)(o:OkP x N p)(P:bd p n) :
  qR qb 173 [eMa x,ePl p,eNd n] (endE (bX (yz [den x a,den x b] p) fun q => .ok (inR q.1 q.2))):=by
 refine za.of_sound ?_;refine qSW call173 func173 rfl {} ?_;have g:=Yr x N n a b j l p o P;have C:=wk3 x p n;have R:=zN x;cases t:yz [den x a,den x b] p with
 |error e =>
  rw[t]at g;rw[zB];simp[go_sem];refine fZ g C ?_;simp[go_sem];exact .hf _ (qL _)
 |ok q =>
  obtain⟨r,s⟩:=q;obtain⟨I,J,h3⟩:=u7 t;simp only[kD,uj,List.getD_cons_succ]at I J;have T:=(l a (by rw[j];simp) p o zOm).G _ I;have U:=(l b (by rw[j];simp) p o zOm).G _ J;have lr:=T.len i.n0 (zW1 i.n12);have ls:=U.len i.n0 (zW1 i.n12);rw[t]at g;rw[zw];simp[go_sem];refine fR g.toP C ?_;refine fR (JN r s zOm zOm) (wkR2 r s) ?_;exact .hf _ (qK _)
theorem diffX(x N n a b)(i:OkMa x N)(j:n.sD=[a,b])(l:IH x N n)(p)(o:OkP x N p)(P:bd p n) :
  qR qb 174 [eMa x,ePl p,eNd n] (endE (bX (yz [den x a,den x b] p) fun q => .ok (diR q.1 q.2))):=by
 refine za.of_sound ?_;refine qSW call174 func174 rfl {} ?_;have g:=Yr x N n a b j l p o P;have C:=wk3 x p n;have R:=zN x;cases t:yz [den x a,den x b] p with
 |error e =>
  rw[t]at g;rw[zB];simp[go_sem];refine fZ g C ?_;simp[go_sem];exact .hf _ (qL _)
 |ok q =>
  obtain⟨r,s⟩:=q;obtain⟨I,J,h3⟩:=u7 t;simp only[kD,uj,List.getD_cons_succ]at I J;have T:=(l a (by rw[j];simp) p o zOm).G _ I;have U:=(l b (by rw[j];simp) p o zOm).G _ J;have lr:=T.len i.n0 (zW1 i.n12);have ls:=U.len i.n0 (zW1 i.n12);rw[t]at g;rw[zw];simp[go_sem];refine fR g.toP C ?_;refine fR (nN r s zOm zOm) (wkR2 r s) ?_;exact .hf _ (qK _)
theorem overX(x N n a b)(i:OkMa x N)(j:n.sD=[a,b])(l:IH x N n)(p)(o:OkP x N p)(T:bd p n) :
  qR qb 175 [eMa x,ePl p,eNd n] (endE (bX (yz [den x a,den x b] p) fun q => .ok (ovR x.n q.1 q.2))):=by
 refine za.of_sound ?_;refine qSW call175 func175 rfl {} ?_;have g:=Yr x N n a b j l p o T;have C:=wk3 x p n;have U:=zN x;cases t:yz [den x a,den x b] p with
 |error e =>
  rw[t]at g;rw[zB];simp[go_sem];refine fZ g C ?_;simp[go_sem];exact .hf _ (qL _)
 |ok q =>
  obtain⟨r,s⟩:=q;obtain⟨I,J,h3⟩:=u7 t;simp only[kD,uj,List.getD_cons_succ]at I J;have P:=(l a (by rw[j];simp) p o zOm).G _ I;have R:=(l b (by rw[j];simp) p o zOm).G _ J;have lr:=P.len i.n0 (zW1 i.n12);have ls:=R.len i.n0 (zW1 i.n12);rw[t]at g;rw[zw];simp[go_sem];refine fR g.toP C ?_;refine fM ?_;refine fR (overU x.n i.n0 i.n12 r s P R h3) (wkJ x.n r s) ?_;exact .hf _ (qK _)
end F2
namespace F3
open Y1 E1 E2 E3 EA EL EQ ET EY F1 F2
theorem aJ{x N}(h:OkMa x N):x.n<=20:=by have:=h.n12;omega
theorem aL{n}(p:0<=n)(l:n<=12){a b}(C:GR n a)(I:GR n b)(h:a.ar+b.ar<=5):a.ts.length*b.ts.length<=1000000:=by
 have key:∀{c:Rl},GR n c->(c.ar=1->c.ts.length<=12)/\(c.ar=2->c.ts.length<=144)/\c.ts.length<=1728:=fun {c} g=>by
  have U:n*n<=12*12:=jq l l p zOm;have a0:0<=n*n:=Int.mul_nonneg p p;have e3:n*n*n<=12*12*12:=jq U l p zOm;have J:powI n 1=n:=uB n;have P:powI n 2=n*n:=EC.nS n;have p3:powI n 3=n*n*n:=by
   have:=u3 (n:=n) (i:=2) (j:=1) zOm zOm zOm;rw[J,P]at this;exact this
  have c1:=g.ar1;have c3:=g.ar3;refine⟨fun e=>JD g.srt fun t o=>?_,fun e=>JD g.srt fun t o=>?_,JD g.srt fun t o=>?_⟩
  .have:=g.val t o;rw[e,J]at this;omega
  .have:=g.val t o;rw[e,P]at this;omega
  .have hv:=g.val t o
   have:c.ar=1\/c.ar=2\/c.ar=3:=zOm;rcases this with e|e|e
   .grind
   .grind
   grind
 obtain⟨a1,a2,R⟩:=key C;obtain⟨b1,b2,T⟩:=key I;have:=C.ar1;have:=I.ar1;by_cases ea:a.ar=1
 .exact zt (Nat.mul_le_mul (a1 ea) T) zOm
 .by_cases eb:b.ar=1
  .exact zt (Nat.mul_le_mul R (b1 eb)) zOm
  .by_cases r:a.ar=2
   .exact zt (Nat.mul_le_mul (a2 r) T) zOm
   .exact zt (Nat.mul_le_mul R (b2 zOm)) zOm
theorem mP(x N n a i)(j:n.sD=a :: i)(I:IH x N n)(p)(J:OkP x N p)(R:bd p n) :
  qR qb 214 [eMa x,ePl p,eNd n] (endE (binE [den x a] p)):=by
 refine za.of_sound ?_;refine qSW call214 func214 rfl {} ?_;have l:=(I a (by rw[j];simp) p J zOm).E;have t:=wk3 x p a;generalize g:binE [den x a] p=E;unfold binE at g;simp only[kD,uj]at g;generalize eMa x=M at *
 simp[go_sem];refine fD [0,1,2,3,4,5,6,7,8] [(0,0,[]),(1,0,[]),(2,0,[]),(3,0,[]),(4,0,[]),(5,0,[]),(6,1,[]),(7,2,[1,3,5]),(8,1,[])] zKr zKr zSi ?_;simp[go_sem,j];cases C:(den x a).E p with
 |error e =>
  rw[C]at l g;subst g;refine fZ l t ?_;simp[go_sem,zB];exact .hf _ (qL _)
 |ok r =>
  rw[C]at l g;rw[zw]at g;refine tC l.toP t ?_;by_cases o:r.ar=2
  .rw [if_pos o]at g
   subst g;have P:(r.ar=2)=True:=eq_true o;simp[go_sem,j,P];exact .hf _ (qK r)
  .rw [if_neg o]at g
   subst g;simp[go_sem,j,o];refine fZ (uZ 42) (wkI 42) ?_;simp[go_sem];exact .hf _ (qL _)
theorem joinX(x N n a b)(T:OkMa x N)(i:n.sD=[a,b])(U:IH x N n)(p)(hp:OkP x N p)(hq:bd p n) :
  qR qb 176 [eMa x,ePl p,eNd n] (endE (bX ((den x a).E p) fun r=>bX ((den x b).E p) fun s=>uY x.n r s)):=by
 refine za.of_sound ?_;refine qSW call176 func176 rfl {} ?_;have ia:=U a (by rw[i];simp) p hp zOm;have ib:=U b (by rw[i];simp) p hp zOm;have l:=ia.E;have o:=ib.E;have wa:=wk3 x p a;have wb:=wk3 x p b;have t:=T.n0;have g1:=T.n12;generalize g:(bX ((den x a).E p) fun r=>bX ((den x b).E p) fun s=>uY x.n r s)=E;simp[go_sem];refine fD [0,1,2,3,4,5,7,8,9,10,11,12,6,13,14,15,16,17] [(0,0,[]),(1,0,[]),(2,0,[]),(3,0,[]),(4,0,[]),(5,0,[]),(7,0,[]),(8,0,[]),(9,0,[]),(10,0,[]),(11,0,[]),(12,0,[]),(6,1,[8,10,12]),(13,1,[]),(14,2,[1,3,5,8,10,12]),(15,2,[1,3,5,8,10,12]),(16,1,[]),(17,1,[])] zKr zKr zSi ?_;simp[go_sem,i];cases I:(den x a).E p with
 |error e =>
  rw[I]at l g;subst g;refine fZ l wa ?_;simp[go_sem,zB];exact .hf _ (qL _)
 |ok r =>
  rw[I]at l g;rw[zw]at g;refine tC l.toP wa ?_;simp[go_sem,i];cases J:(den x b).E p with
  |error e =>
   rw[J]at o g;subst g;refine fZ o wb ?_;simp[go_sem,zB];exact .hf _ (qL _)
  |ok s =>
   rw[J]at o g;rw[zw]at g;refine tC o.toP wb ?_;have P:=ia.G _ I;have R:=ib.G _ J;have lr:=P.len t zOm;have ls:=R.len t zOm;simp[go_sem,i];refine fD [0,1,2,3,4,5,6,7,8,9,10] [(0,0,[]),(1,0,[]),(2,0,[]),(3,0,[]),(4,0,[]),(5,0,[]),(6,1,[]),(7,0,[]),(8,0,[]),(9,1,[]),(10,1,[])] zKr zKr zSi ?_;simp[go_sem];have C:=uX x.n t g1 r s P R (aL t g1 P R);cases ej:uY x.n r s with
   |error e =>
    rw[ej]at C g;subst g;have he:e≠0:=by
     grind [uY]
    have j:=Uq ⟨0,[]⟩ e;rw[if_neg he]at j;refine fR C (wkJ x.n r s) ?_;refine fZ j (.zk (qK _) (.zs .nil)) ?_;simp[go_sem];exact .hf _ (qL _)
   |ok u =>
    rw[ej]at C g;subst g;have j:=Uq u 0;rw[if_pos rfl]at j;refine fR C (wkJ x.n r s) ?_;refine fR j.toP (.zk (qK _) (.zs .nil)) ?_;exact .hf _ (qK u)
theorem qlQ(x N n a b)(P:OkMa x N)(i:n.sD=[a,b])(R:IH x N n)(p)(T:OkP x N p)(hq:bd p n) :
  qR qb 177 [eMa x,ePl p,eNd n] (endE (bX ((den x a).E p) fun r=>bX ((den x b).E p) fun s=>Qz x.n r s)):=by
 refine za.of_sound ?_;refine qSW call177 func177 rfl {} ?_;have U:=R a (by rw[i];simp) p T zOm;have ib:=R b (by rw[i];simp) p T zOm;have l:=U.E;have o:=ib.E;have wa:=wk3 x p a;have wb:=wk3 x p b;have C:=P.n0;have g1:=P.n12;generalize g:(bX ((den x a).E p) fun r=>bX ((den x b).E p) fun s=>Qz x.n r s)=E;simp[go_sem];refine fD [0,1,2,3,4,5,7,8,9,10,11,12,6,13,14,15,16,17] [(0,0,[]),(1,0,[]),(2,0,[]),(3,0,[]),(4,0,[]),(5,0,[]),(7,0,[]),(8,0,[]),(9,0,[]),(10,0,[]),(11,0,[]),(12,0,[]),(6,1,[8,10,12]),(13,1,[]),(14,2,[1,3,5,8,10,12]),(15,2,[1,3,5,8,10,12]),(16,1,[]),(17,1,[])] zKr zKr zSi ?_;simp[go_sem,i];cases I:(den x a).E p with
 |error e =>
  rw[I]at l g;subst g;refine fZ l wa ?_;simp[go_sem,zB];exact .hf _ (qL _)
 |ok r =>
  rw[I]at l g;rw[zw]at g;refine tC l.toP wa ?_;simp[go_sem,i];cases J:(den x b).E p with
  |error e =>
   rw[J]at o g;subst g;refine fZ o wb ?_;simp[go_sem,zB];exact .hf _ (qL _)
  |ok s =>
   rw[J]at o g;rw[zw]at g;refine tC o.toP wb ?_;have gr:=U.G _ I;have gs:=ib.G _ J;have lr:=gr.len C zOm;have ls:=gs.len C zOm;simp[go_sem,i];refine fD [0,1,2,3,4,5,6,7,8,9,10] [(0,0,[]),(1,0,[]),(2,0,[]),(3,0,[]),(4,0,[]),(5,0,[]),(6,1,[]),(7,0,[]),(8,0,[]),(9,1,[]),(10,1,[])] zKr zKr zSi ?_;simp[go_sem];have t:=Xk x.n C g1 r s gr gs;cases ej:Qz x.n r s with
   |error e =>
    rw[ej]at t g;subst g;have he:e≠0:=by
     grind [Qz]
    have j:=Uq ⟨0,[]⟩ e;rw[if_neg he]at j;refine fR t (wkJ x.n r s) ?_;refine fZ j (.zk (qK _) (.zs .nil)) ?_;simp[go_sem];exact .hf _ (qL _)
   |ok u =>
    rw[ej]at t g;subst g;have j:=Uq u 0;rw[if_pos rfl]at j;refine fR t (wkJ x.n r s) ?_;refine fR j.toP (.zk (qK _) (.zs .nil)) ?_;exact .hf _ (qK u)
theorem qlR(x N n a)(g:OkMa x N)(j:n.sD=[a])(J:IH x N n)(p)(t:OkP x N p)(P:bd p n) :
  qR qb 181 [eMa x,ePl p,eNd n] (endE ((den x a).E ⟨x.nx p.st,p.env⟩)):=by
 refine za.of_sound ?_;refine qSW call181 func181 rfl {} ?_;have i:=(J a (by rw[j];simp) _ (OkP.nx g.toOkM t) (by grind)).E;have C:=wk3 x ⟨x.nx p.st,p.env⟩ a;have R:=g.N1;have T:=g.len;have l:=Xv x g.loop zOm p.st (zW1 t.st);have o:WKs [eMd x.m,aI p.st] [eMd x.m,aI p.st] := .zk (zr x.m) (.zs .nil);simp[go_sem];refine fD [0,1,2,3,4,5,6,8,9,11,12,13,14,7,10,15,16] [(0,0,[]),(1,0,[]),(2,0,[]),(3,0,[]),(4,0,[]),(5,0,[]),(6,0,[]),(8,0,[]),(9,0,[]),(11,0,[]),(12,0,[]),(13,0,[]),(14,0,[]),(7,1,[9,12,14]),(10,0,[]),(15,1,[]),(16,1,[])] zKr zKr zSi ?_;simp[go_sem,j];refine tC l o ?_;simp[go_sem,j];cases I:(den x a).E ⟨x.nx p.st,p.env⟩ with
 |error e =>
  rw[I]at i;refine fZ i C ?_;simp[go_sem];exact .hf _ (qL _)
 |ok r =>
  rw[I]at i;refine fR i.toP C ?_;exact .hf _ (qK r)
theorem wkT(n a):WKs [aI n,eRel a] [aI n,eRel a] := .zs (.zk (qK a) .nil)
theorem qlS(x N n a)(j:OkMa x N)(l:n.sD=[a])(o:IH x N n)(p)(t:OkP x N p)(J:bd p n) :
  qR qb 178 [eMa x,ePl p,eNd n] (endE (bX (binE [den x a] p) fun a => .ok (trR x.n a))):=by
 refine za.of_sound ?_;refine qSW call178 func178 rfl {} ?_;have g:=mP x N n a [] l o p t J;have C:=wk3 x p n;have P:=zN x;have R:=j.n0;have g1:=j.n12;simp[go_sem];refine fD [0,1,2,3,4,5,6,7,8,9] [(0,0,[]),(1,0,[]),(2,0,[]),(3,0,[]),(4,0,[]),(5,0,[]),(6,0,[]),(7,1,[3]),(8,1,[]),(9,1,[])] zKr zKr zSi ?_;simp[go_sem];cases i:binE [den x a] p with
 |error e =>
  rw[i]at g;refine fZ g C ?_;simp[go_sem,zB];exact .hf _ (qL _)
 |ok r =>
  rw[i]at g;obtain⟨I,T⟩:=Yq i;simp only[kD,uj]at I;have U:=(o a (by rw[l];simp) p t zOm).G _ I;refine tC g.toP C ?_;simp[go_sem,zw];refine fR (qjO x.n R g1 r U T) (wkT x.n r) ?_;exact .hf _ (qK _)
theorem mQ(x N n a)(j:OkMa x N)(l:n.sD=[a])(o:IH x N n)(p)(t:OkP x N p)(J:bd p n) :
  qR qb 179 [eMa x,ePl p,eNd n] (endE (bX (binE [den x a] p) fun a => .ok (clR x.n 200 a))):=by
 refine za.of_sound ?_;refine qSW call179 func179 rfl {} ?_;have g:=mP x N n a [] l o p t J;have C:=wk3 x p n;have P:=zN x;have R:=j.n0;have g1:=j.n12;simp[go_sem];refine fD [0,1,2,3,4,5,6,7,8,9] [(0,0,[]),(1,0,[]),(2,0,[]),(3,0,[]),(4,0,[]),(5,0,[]),(6,0,[]),(7,1,[3]),(8,1,[]),(9,1,[])] zKr zKr zSi ?_;simp[go_sem];cases i:binE [den x a] p with
 |error e =>
  rw[i]at g;refine fZ g C ?_;simp[go_sem,zB];exact .hf _ (qL _)
 |ok r =>
  rw[i]at g;obtain⟨I,T⟩:=Yq i;simp only[kD,uj]at I;have U:=(o a (by rw[l];simp) p t zOm).G _ I;refine tC g.toP C ?_;simp[go_sem,zw];refine fR (closU x.n R g1 r U T) (wkT x.n r) ?_;exact .hf _ (qK _)
theorem mR(n)(g:0<=n)(i:n<=12):qd qb 184 [aI n] (eRel (idR n)):=by
 have:=idenU n.toNat zOm;rw[show ((n.toNat:Nat):Int)=n by omega]at this;exact this
theorem qlT(x N n a)(j:OkMa x N)(o:n.sD=[a])(t:IH x N n)(p)(C:OkP x N p)(P:bd p n) :
  qR qb 180 [eMa x,ePl p,eNd n] (endE (bX (binE [den x a] p) fun a => .ok (unR (clR x.n 200 a) (idR x.n)))):=by
 refine za.of_sound ?_;refine qSW call180 func180 rfl {} ?_;have g:=mQ x N n a j o t p C P;have I:=wk3 x p n;have R:=zN x;have i:=j.n0;have g1:=j.n12;simp[go_sem];refine fD [0,1,2,4,5,6,7,3,8,9,10] [(0,0,[]),(1,0,[]),(2,0,[]),(4,0,[]),(5,0,[]),(6,0,[]),(7,0,[]),(3,1,[7]),(8,1,[]),(9,1,[]),(10,1,[])] zKr zKr zSi ?_;simp[go_sem];cases l:binE [den x a] p with
 |error e =>
  rw[l]at g;refine fZ g I ?_;simp[go_sem,zB];exact .hf _ (qL _)
 |ok r =>
  rw[l]at g;obtain⟨J,T⟩:=Yq l;simp only[kD,uj]at J;have U:=(t a (by rw[o];simp) p C zOm).G _ J;obtain⟨gc,c2⟩:=aR i 200 U T;have gi:=aX i;have l1:=gc.len i zOm;have l2:=gi.len i zOm;rw[zw]at g;refine tC g.toP I ?_;simp[go_sem,zw];refine fR (mR x.n i g1) (.zs .nil) ?_;refine fR (jT _ _ zOm zOm) (wkR2 _ _) ?_;exact .hf _ (qK _)
end F3
namespace F4
open Y1 P2 E3 EA EL EO EP EQ ER F1 F2 F3
section
variable {av:AV}{xs:List (List AV)}{mu:Mu}{sz:Nat}
theorem Own.one(h:Own mu sz av xs):av.one=true:=by
 rcases h with rfl|⟨b,rfl,_⟩<;>rfl
theorem Own.cells(h:Own mu sz av xs):av.cells=[av]:=by
 rcases h with rfl|⟨b,rfl,_⟩<;>rfl
theorem Own.push(h:Own mu sz av xs)(c:List Cell):Own (mu++c) sz av xs:=by
 rcases h with rfl|⟨b,rfl,g⟩
 .exact .inl rfl
 .exact .inr ⟨b,rfl,by grind⟩
theorem Own.set(h:Own mu sz av xs){i}(c)(g:qj av≠some i):Own (mu.set i c) sz av xs:=by
 rcases h with rfl|⟨b,rfl,j⟩
 .exact .inl rfl
 .exact .inr ⟨b,rfl,by rw[yu (fun e=>g (by rw[e];rfl))];exact j⟩
theorem Own.lt(h:Own mu sz av xs){b}(g:qj av=some b):b<mu.length:=by
 rcases h with rfl|⟨j,rfl,i⟩
 .cases g
 .cases g;exact(qg.1 i).1
theorem qu.ownB{P}{t g e bt:Nat}{s x ys zv K}(R:qE P t=some (e,sz,bt))(j:(qE P g).isSome=true)(T:qx P e=some zv)
  (l:zv.cells.length=sz) (o:zv.cells.all AV.one=true) (p:sz≠0) (U:bt<=16384) (ho:Own mu sz s xs) (hx:qz mu x=some ys) (I:zc sz xs) (wy:zc sz ys) (J:xs.length+ys.length<=4294967296)
  (k:∀ av mu',Own mu' sz av (xs++ys)->(∀ i,i<mu.length->qj s≠some i->mu'[i]?=mu[i]?)->(∀ b,qj av=some b->b=mu.length)->mu.length<=mu'.length->K av mu'):qu P mu #[t,g] s x K:=by
 refine .inl ?_;refine⟨t,g,e,sz,bt,ys,rfl,R,j,⟨zv,T,l,o⟩,p,U,hx,wy,?_⟩;rcases ho with rfl|⟨b,rfl,hc⟩
 .refine .inl ⟨xs,rfl,I,J,fun h=>?_,fun h=>?_⟩
  .subst h
   exact k _ _ (.inl zSp) (fun _ _ _=>rfl) (fun b h=>by cases h) (qo _)
  .refine k _ _ (.inr ⟨mu.length,zSp,zSp⟩) (fun i r _=>?_) (fun b h=>by cases h;rfl) zSp
   rw[qG r]
 .have a0:=yD I.ok
  refine .inr ⟨b,xs.length,xs.flatten,rfl,hc,zOm,J,?_⟩;have a1:xs.flatten.take (xs.length*sz)=xs.flatten:=zO zOm;refine k _ _ (.inr ⟨mu.length,zSp,?_⟩) (fun i r C=>?_) (fun b h=>by cases h;rfl) zSp
  .grind
  .rw [qG (zUs r)]
   rw[yu (fun e=>C (by rw[e];rfl))]
theorem FzQ.ownB{Q i d st}(l:st.tm d=av)(p:Own st.mu sz av xs)(wf:zc sz xs)(hf:∀ r,r∈xs->∀ c,c∈r->HF c)
  (k:∀ mu' full,mu'.length=st.mu.length->(∀ j,qj av≠some j->mu'[j]?=st.mu[j]?)->Q (.exit i) (st.put (some d) (.lst full xs) mu')):FzQ Q (.exit i) st:=by
 rcases p with h|⟨b,h,t⟩
 .refine FzQ.one (b:=st.mu.length) (d:=d) (x := .lst true xs) ?_ (k _ _ (jz _ _ _) fun j o=>?_)
  .rw [l,h]
   exact .hf _ (HF.lst hf)
  .by_cases g:j=st.mu.length
   .simp_all [uJ,jz,qo]
   .exact V5 g _
 .refine FzQ.one (b:=b) (d:=d) (x := .lst false xs) ?_ (k _ _ (jz _ _ _) fun j o=>V5 (fun e=>o (by rw[h,e];rfl)) _)
  rw[l];exact Own.rd (.inr ⟨b,h,by rw[W9];exact t⟩) wf.ok hf
abbrev lN(l:List Nat):AV:=lI (l.map fun k:Nat=>(k:Int))
theorem qlU(k:Nat)(l:List Nat):decide ((k:Int)∈l.map fun k:Nat=>(k:Int))=decide (k∈l):=by
 rw[jX,decide_eq_true_iff,decide_eq_true_iff,qi];exact⟨fun⟨a,h,e⟩=>by grind,fun h=>⟨k,h,rfl⟩⟩
theorem X8(x N)(r:OkMa x N)(s)(hs:s<N):qd qb 136 [eMa x,aI s] (lN (x.path s)):=by
 refine qSV call136 func136 rfl ?_;have hN:=r.N1;have hl:=r.len;have a1:=zN x;simp[go_sem];refine tP (fun f U=>∃(cur:Nat) (i:List Nat),wV x f cur i=x.path s/\i.Nodup/\(∀ t,t∈i->t<N)/\cur<N/\N+1<=f+i.length/\U.tm 0=eMa x/\U.tm 6=aI (cur:Nat)/\OwnI U.mu (U.tm 5) (i.map fun k:Nat=>(k:Int))) (N+1) ?_ ?_
 .refine ⟨s,[],by grind [Mo.path],zSp,zSp,hs,zSp,zSi,zSi,.inl ⟨zSi,rfl⟩⟩
 rintro f U ⟨cur,i,p,I,J,hc,hf,e0,P,R⟩;have a2:i.length<=N:=Xh N i I J;obtain⟨f,rfl⟩:∃ g,f=g+1:=⟨f-1,zOm⟩;have o:=qi8 (i.map fun k:Nat=>(k:Int)) cur zSo;rw[qlU]at o;simp only[wV]at p;simp[go_sem,P];refine fX o ⟨R.v.rd,.hf _ (HF.sc _),trivial⟩ (FL.sc _) ?_;by_cases C:cur∈i
 .rw [if_pos C]at p
  simp[go_sem,C];rw[<-p];exact R.v.rd
 .rw [if_neg C]at p
  simp[go_sem,P,C];refine aN (e:=3) (bt:=8) (z:=0) (l:=i.map fun k:Nat=>(k:Int)) zSi zSi zSi zOm R.v zSo ?_;intro a3 j a4 _ _ _;have T:=Xv x r.loop zOm cur zOm;have a0:WKs [eMd x.m,aI cur] [eMd x.m,aI cur] := .zk (zr x.m) (.zs .nil);simp[go_sem,e0,P];refine fR T a0 ?_;refine Keep.loop f zOm ⟨x.nx cur,i++[cur],p,?_,fun t ht=>?_,r.nx _ hc,zSo,zS1 e0,zSi,?_⟩
  .grind
  .grind
  simp[go_sem, *]
abbrev rB(b:Bool):List AV:=[aB b]
theorem wX(xs:List Bool):zc 1 (xs.map rB):=fun r g=>by
 obtain⟨n,_,rfl⟩:=qi.1 g;exact⟨rfl,rfl⟩
theorem Own.rdB{xs}(h:Own mu 1 av (xs.map rB)):Rd mu av (lB xs):=
 h.rd (wX xs).ok fun r g c i=>by
  obtain⟨n,_,rfl⟩:=qi.1 g
  grind [HF.sc]
def endL:XE (List Bool)->AEnd
 | .ok l => .ret (lB l)
 | .error e => .pan (errV e)
@[go_sem] theorem endL_ok(l):endL (.ok l) = .ret (lB l):=rfl
@[go_sem] theorem endL_err(e):endL (.error e) = .pan (errV e):=rfl
theorem ZJ{J j g}:∀{i l2:List J}{r:List j},mapX g i = .ok r->mapX g (i++l2)=bX (mapX g l2) fun s => .ok (r++s)
 | [],l2,r,h=>by cases h;rw[List.nil_append];cases mapX g l2<;>rfl
 |a :: i,l2,r,h=>by
  rw[mapX]at h;obtain⟨b,l,o⟩:=ja h;obtain⟨C,p,t⟩:=ja o;cases t;rw[yw,mapX,l,zw,ZJ p];cases mapX g l2<;>rfl
theorem mS(x l)(hl:l.length<=1000000)(p n)(ih:∀ s,s∈l->Ev3 x ⟨s,p.env⟩ n) :
  qR qb 135 [eMa x,lN l,ePl p,eNd n] (endL (mapX (fun s=>(den x n).F ⟨s,p.env⟩) l)):=by
 refine za.of_sound ?_;refine qSW call135 func135 rfl {} ?_;have a1:=zN x;generalize hE:mapX (fun s=>(den x n).F ⟨s,p.env⟩) l=E;simp[go_sem];refine kT l.length (fun k U=>∃ o:List Bool,mapX (fun s=>(den x n).F ⟨s,p.env⟩) (l.take k) = .ok o/\o.length=k/\U.tm 0=eMa x/\U.tm 6 = .ip (cPl p)/\U.tm 7 = .ip (cNd n)/\U.tm 12=lN l/\U.tm 13=aI l.length/\U.tm 14=aI k/\Own U.mu 1 (U.tm 9) (o.map rB)) ?_ ?_
 .exact ⟨[],rfl,rfl,zSi,zSi,zSi,zSi,zSi,zSi,.inl zSi⟩
 rintro k U hk ⟨o,P,T,e0,e6,e7,J,C,I,ho⟩;by_cases r:k<l.length
 .have w1:=zWk k
  have R:=(ih l[k] (qn r)).F;have hw:=wk3 x ⟨l[k],p.env⟩ n;have t:=ZJ (l2:=l.drop k) P;rw[vS,zm r,mapX]at t;rw[hE]at t;simp[go_sem,e0,e6,e7,J,C,I,r];cases ef:(den x n).F ⟨l[k],p.env⟩ with
  |error e =>
   rw[ef]at R t;subst t;refine fZ R hw ?_;simp[go_sem,zB];exact .hf _ (qL _)
  |ok b =>
   rw[ef]at R;refine fR R.toP hw ?_;refine qu.ownB (e:=4) (sz:=1) (bt:=1) (zv:=aB false) (xs:=o.map rB) (ys:=[rB b]) zSi zSi zSi rfl rfl zOm zOm ho (by simp[qz]) (wX o) (wX [b]) zSo ?_;intro a2 j a3 _ _ _;simp[go_sem,I,w1];refine⟨r,aK ⟨o++[b],?_,zP1 T,zS1 e0,zS1 e6,zS1 e7,zS1 J,zS1 C,zSi,?_⟩⟩
   .rw [yb r,ZJ P,mapX,ef];rfl
   simp[go_sem, *]
 .have a0:k=l.length:=by omega
  subst a0;rw[qO,hE]at P;subst P;simp[go_sem,C,I];exact Own.rdB ho
theorem mT(x y)(g:x.length<=1000000000):qd qb 134 [lB x,aB y] (aB (decide (y∈x))):=qjA x y g
theorem qlV(x N n a b)(hM:OkMa x N)(hk:n.sD=[a,b])(p)(hp:OkP x N p)(ih:∀ s,s∈x.path p.st->Ev3 x ⟨s,p.env⟩ a/\Ev3 x ⟨s,p.env⟩ b)(hl:(x.path p.st).length<=1000000) :
  qR qb 138 [eMa x,ePl p,eNd n] (endB (untX (fun s=>(den x a).F ⟨s,p.env⟩) (fun s=>(den x b).F ⟨s,p.env⟩) (x.path p.st) false false)):=by
 refine za.of_sound ?_;refine qSW call138 func138 rfl {} ?_;have P:=zN x;have R:=X8 x N hM p.st hp.st;generalize hE:untX (fun s=>(den x a).F ⟨s,p.env⟩) (fun s=>(den x b).F ⟨s,p.env⟩) (x.path p.st) false false=E;generalize x.path p.st=i at *
 simp[go_sem];refine fR R (.zk P (.zs .nil)) ?_;refine kT i.length (fun k U=>∃ d q:Bool,untX (fun s=>(den x a).F ⟨s,p.env⟩) (fun s=>(den x b).F ⟨s,p.env⟩) (i.drop k) d q=E/\U.tm 0=eMa x/\U.tm 4 = .ip (cPl p)/\U.tm 5 = .ip (cNd n)/\U.tm 7=aB d/\U.tm 8=aB q/\U.tm 17=lN i/\U.tm 18=aI i.length/\U.tm 19=aI k) ?_ ?_
 .simp [go_sem, *]
 rintro k U a2 ⟨d,q,g,e0,e4,e5,e7,e8,C,r,t⟩;by_cases j:k<i.length
 .have w1:=zWk k
  obtain⟨T,a0⟩:=ih i[k] (qn j);have l:=T.F;have o:=a0.F;have I:=wk3 x ⟨i[k],p.env⟩ a;have J:=wk3 x ⟨i[k],p.env⟩ b;rw[zm j,untX]at g;simp[go_sem,e4,C,r,t,j];refine fD [0,1,2,3,4,5,7,8,9,10,11,12,6,14,13,15] [(0,0,[]),(1,0,[]),(2,0,[]),(3,0,[]),(4,0,[]),(5,0,[]),(7,0,[]),(8,0,[]),(9,0,[]),(10,0,[]),(11,0,[]),(12,0,[]),(6,1,[8,10,12]),(14,0,[]),(13,1,[]),(15,0,[])] zKr zKr zSi ?_;simp[go_sem,e0,e5,hk];cases ea:(den x a).F ⟨i[k],p.env⟩ with
  |error e =>
   rw[ea]at l g;subst g;refine fZ l I ?_;simp[go_sem,zB];exact .hf _ (qL _)
  |ok u =>
   rw[ea]at l g;rw[zw]at g;refine tC l.toP I ?_;simp[go_sem,hk];cases eb:(den x b).F ⟨i[k],p.env⟩ with
   |error e =>
    rw[eb]at o g;subst g;refine fZ o J ?_;simp[go_sem,zB];exact .hf _ (qL _)
   |ok v =>
    rw[eb]at o g;rw[zw]at g;refine tC o.toP J ?_;cases d<;>cases q<;>cases u<;>cases v<;>simp[go_sem,e7,e8,t,w1]<;>refine⟨j,aK ⟨_,_,g,zS1 e0,zS1 e4,zS1 e5,zSi,zSi,zS1 C,zS1 r,zSi⟩⟩
 .have a1:k=i.length:=by omega
  subst a1;rw[yh,untX]at g;subst g;simp[go_sem,e7,r,t];exact .zsc _
theorem vL{n}(i:WfN n)(h:n.op=5\/n.op=11\/n.op=12\/n.op=13\/n.op=21\/n.op=34\/n.op=35\/n.op=36\/n.op=37\/n.op=40\/n.op=48\/n.op=49\/n.op=50):∃ a,n.sD=[a]:=by
 have g:=i.shape;have j:n.sD.length=1:=by
  unfold shp at g;rw[zIn]at g;split at g
  .simpa using congrArg List.length (Option.some.inj g).symm
  .rw [zIn,zIn,zIn,if_pos zOm]at g
   simpa using congrArg List.length (Option.some.inj g).symm
 match n.sD,j with
 | [a],_=>exact⟨a,rfl⟩
theorem jh{n}(i:WfN n)(h:(6<=n.op/\n.op<=10)\/n.op=14\/n.op=15\/n.op=22\/n.op=23\/n.op=32\/n.op=33\/n.op=38\/n.op=39\/(41<=n.op/\n.op<=46)\/n.op=51):∃ a b,n.sD=[a,b]:=by
 have g:=i.shape;have j:n.sD.length=2:=by
  unfold shp at g;rw[zIn,zIn]at g;split at g
  .simpa using congrArg List.length (Option.some.inj g).symm
  .split at g
   .simpa using congrArg List.length (Option.some.inj g).symm
   .split at g
    .simpa using congrArg List.length (Option.some.inj g).symm
    .rw [zIn,if_pos zOm]at g
     simpa using congrArg List.length (Option.some.inj g).symm
 match n.sD,j with
 | [a,b],_=>exact⟨a,b,rfl⟩
theorem qlW(x N n)(hw:WfN n)(hM:OkMa x N)(P:IH x N n)(p)(R:OkP x N p)(hq:bd p n) :
  qR qb 132 [eMa x,ePl p,eNd n] (endN ((den x n).N p)):=by
 refine za.of_sound ?_;refine qSW call132 func132 rfl {} ?_;have a0:=zN x;rw[Um];simp only[opD];unfold opN;by_cases j:n.op=20
 .rw [if_pos j]
  simp[go_sem,j];exact .zsc _
 rw[if_neg j];by_cases l:n.op=21
 .rw [if_pos l]
  obtain⟨a,g⟩:=vL hw zOm;have i:=(P a (by rw[g];simp) p R zOm).E;have I:=wk3 x p a;simp[go_sem,l,g,kD];refine fD [0,1,2,3,4,5,6,7,8,9] [(0,0,[]),(1,0,[]),(2,0,[]),(3,0,[]),(4,0,[]),(5,0,[]),(6,1,[]),(7,0,[]),(8,0,[]),(9,0,[])] zKr zKr zSi ?_;simp[go_sem,g];cases J:(den x a).E p with
  |error e =>
   rw[J]at i;refine fZ i I ?_;simp[go_sem,zB];exact .hf _ (qL _)
  |ok r =>
   rw[J]at i;refine tC i.toP I ?_;simp[go_sem,zw];exact .zsc _
 rw[if_neg l];by_cases o:n.op=22
 .rw [if_pos o]
  obtain⟨a,b,g⟩:=jh hw zOm;have i:=(P a (by rw[g];simp) p R zOm).N;have t:=(P b (by rw[g];simp) p R zOm).N;have I:=wk3 x p a;have T:=wk3 x p b;simp[go_sem,o,g,kD];refine fD [0,1,2,3,4,5,7,8,9,10,11,12,6,13,14,15] [(0,0,[]),(1,0,[]),(2,0,[]),(3,0,[]),(4,0,[]),(5,0,[]),(7,0,[]),(8,0,[]),(9,0,[]),(10,0,[]),(11,0,[]),(12,0,[]),(6,1,[8,10,12]),(13,1,[]),(14,0,[]),(15,0,[])] zKr zKr zSi ?_;simp[go_sem,g];cases J:(den x a).N p with
  |error e =>
   rw[J]at i;refine fZ i I ?_;simp[go_sem,zB];exact .hf _ (qL _)
  |ok r =>
   rw[J]at i;refine tC i.toP I ?_;simp[go_sem,zw,g];cases U:(den x b).N p with
   |error e =>
    rw[U]at t;refine fZ t T ?_;simp[go_sem,zB];exact .hf _ (qL _)
   |ok s =>
    rw[U]at t;refine tC t.toP T ?_;simp[go_sem,zw];exact .zsc _
 rw[if_neg o];by_cases C:n.op=23
 .rw [if_pos C]
  obtain⟨a,b,g⟩:=jh hw zOm;have i:=(P a (by rw[g];simp) p R zOm).N;have t:=(P b (by rw[g];simp) p R zOm).N;have I:=wk3 x p a;have T:=wk3 x p b;simp[go_sem,C,g,kD];refine fD [0,1,2,3,4,5,7,8,9,10,11,12,6,13,14,15] [(0,0,[]),(1,0,[]),(2,0,[]),(3,0,[]),(4,0,[]),(5,0,[]),(7,0,[]),(8,0,[]),(9,0,[]),(10,0,[]),(11,0,[]),(12,0,[]),(6,1,[8,10,12]),(13,1,[]),(14,0,[]),(15,0,[])] zKr zKr zSi ?_;simp[go_sem,g];cases J:(den x a).N p with
  |error e =>
   rw[J]at i;refine fZ i I ?_;simp[go_sem,zB];exact .hf _ (qL _)
  |ok r =>
   rw[J]at i;refine tC i.toP I ?_;simp[go_sem,zw,g];cases U:(den x b).N p with
   |error e =>
    rw[U]at t;refine fZ t T ?_;simp[go_sem,zB];exact .hf _ (qL _)
   |ok s =>
    rw[U]at t;refine tC t.toP T ?_;simp[go_sem,zw];exact .zsc _
 rw[if_neg C];simp[go_sem,j,l,o,C];refine fZ (uZ 43) (wkI 43) ?_;simp[go_sem];exact .hf _ (qL _)
end
end F4
namespace GR
open YF P1 E1 E4 EO EP EQ F4 Q8 G5 GP GQ
section
variable {xs:List (List AV)}{mu:Mu}{sz:Nat}
theorem jM.ownB{P}{t g e bt:Nat}{s x ys zv K}(R:qE P t=some (e,sz,bt))(j:(qE P g).isSome=true)(T:qx P e=some zv)
  (l:zv.cells.length=sz) (o:zv.cells.all AV.one=true) (p:sz≠0) (U:bt<=16384) (ho:Own mu sz s xs) (hx:qz mu x=some ys) (I:zc sz xs) (wy:zc sz ys) (J:xs.length+ys.length<=4294967296)
  (k:∀ av mu',Own mu' sz av (xs++ys)->(∀ i,i<mu.length->qj s≠some i->mu'[i]?=mu[i]?)->(∀ b,qj av=some b->b=mu.length)->mu.length<=mu'.length->(ys≠[]->∃ b,qj av=some b)->K av mu'):jM P mu #[t,g] s x K:=by
 refine⟨t,g,e,sz,bt,ys,rfl,R,j,⟨zv,T,l,o⟩,p,U,hx,wy,?_⟩;rcases ho with rfl|⟨b,rfl,hc⟩
 .refine .inl ⟨xs,rfl,I,J,fun h=>?_,fun h=>?_⟩
  .subst h
   exact k _ _ (.inl zSp) (fun _ _ _=>rfl) (fun b h=>by cases h) (qo _) (fun h=>absurd rfl h)
  .refine k _ _ (.inr ⟨mu.length,zSp,zSp⟩) (fun i r _=>?_) (fun b h=>by cases h;rfl) zSp (fun _=>⟨_,rfl⟩)
   rw[qG r]
 .have a0:=yD I.ok
  refine .inr ⟨b,xs.length,xs.flatten,rfl,hc,zOm,J,?_⟩;have a1:xs.flatten.take (xs.length*sz)=xs.flatten:=zO zOm;refine k _ _ (.inr ⟨mu.length,zSp,?_⟩) (fun i r C=>?_) (fun b h=>by cases h;rfl) zSp (fun _=>⟨_,rfl⟩)
  .grind
  .rw [qG (zUs r)]
   rw[yu (fun e=>C (by rw[e];rfl))]
theorem aQ{P}{t U e bt:Nat}{s y}(j){zv full K}(R)(hs:qE P t=some (e,sz,bt))(o:(qE P U).isSome=true)(hz:qx P e=some zv)
  (p:zv.cells.length=sz) (r:zv.cells.all AV.one=true) (C:sz≠0) (l:bt<=16384) (ho:Own mu sz s xs) (I:∀ b,qj s=some b->b<R) (J:Rds (cutM (fun i=>decide (R<=i)) mu 0) y j) (wx:zc sz xs) (wy:zc sz [j]) (hl:xs.length+1<=4294967296)
  (k:∀ av mu',Own mu' sz av (xs++[j])->(∀ i,i<mu.length->i<R->qj s≠some i->mu'[i]?=mu[i]?)->(∀ b,qj av=some b->b=mu.length)->mu.length<=mu'.length->(∃ b,qj av=some b)->K av mu'):qu P mu #[t,U] s (.lst full [y]) K:=by
 have cg:∀ i,i<R->(cutM (fun i=>!decide (R<=i)) mu 0)[i]?=mu[i]?:=fun i hi=>by
  simp_all[js,z7,decide_eq_false,Bool.not_false,if_true]
 have g:Rd (cutM (fun i=>decide (R<=i)) mu 0) (.lst full [y]) (.lst full [j]):=by
  obtain⟨h1,h2⟩:=J.get;refine .lst full _ _ rfl (fun k a b ha l=>?_) (fun k a b ha l=>?_)
  .grind
  grind
 have T:Own (cutM (fun i=>!decide (R<=i)) mu 0) sz s xs:=by
  rcases ho with h|⟨b,h,hc⟩
  .exact .inl h
  .exact .inr ⟨b,h,by rw[cg b (I b (by rw[h];rfl))];exact hc⟩
 refine .inr (.inl ⟨_,_,g,jM.ownB hs o hz p r C l T rfl wx wy hl fun av mu' h1 h2 h3 h4 h5=>k av mu' h1 (fun i hi hR a0=>?_) (fun b l=>?_) ?_ (h5 zSp)⟩)
 .grind
 .grind [jz]
 grind [jz]
theorem X9{J:Type}{f g}:∀{l:List J},(∀ a,a∈l->Rds mu (f a) (g a))->∀(k:Nat) x y,(l.map f).flatten[k]?=some x->(l.map g).flatten[k]?=some y->Rd mu x y
 | [],_,k,x,y,i,_=>by simp at i
 |a :: l,h,k,x,y,i,j=>by
  obtain⟨o,p⟩:=(h a (zd ..)).get;simp only[zT,List.flatten_cons]at i j;by_cases r:k<(f a).length
  .rw [qG r]at i
   rw[zGa]at j;exact p k x y i j
  .rw [zE zOm]at i
   rw[zE zOm,o]at j;exact X9 (fun b t=>h b (qW _ t)) _ x y i j
theorem aZ{J:Type}{av f g}{l:List J}(h:Own mu sz av (l.map f))(wf:yE sz (l.map f))(j:yE sz (l.map g))(p:∀ a,a∈l->Rds mu (f a) (g a)):Rd mu av (.lst false (l.map g)):=by
 rcases h with rfl|⟨b,rfl,r⟩
 .refine .wk _ true _ (.lst true _ _ zSp (fun k x y i o=>?_) (X9 p))
  rw[wf x (qU i),j y (qU o)]
 .refine .sl b sz 0 _ _ _ r (zW1 (yD wf)) zSp j (fun k x y i o=>?_)
  rw[z7]at i
  grind [X9]
theorem mU:∀{l},l≠[]->(∀ a,a∈l->1<=a)->1<=sumI l
 | [],h,_=>absurd rfl h
 | [a],_,h=>by simp_all[sumI]
 |a :: b :: l,_,h=>by
  have j:=h a zSp;have g:=mU (l:=b :: l) zSp fun x i=>h x (qW _ i)
  simp only[sumI,List.foldr_cons]at g⊢;omega
structure Fit9 (ts:TS) (sc:Sc):Prop where
 g:GSc sc
 p:0<sumI sc.sC
 nf:ts.sA.length<=6
 ns:ts.sS.length=sc.sC.length
 s1:1<=sc.sN
 s4:sc.sN<=4
 f1:∀ f,f∈ts.sA->1<=f.sS.length/\f.sS.length<=3
 fs:∀ f,f∈ts.sA->∀ s,s∈f.sS->0<=s/\s<sc.sC.length
theorem ZK{ts sc}(h:jp ts sc=true):Fit9 ts sc:=by
 simp only[jp,qD,decide_eq_true_eq,zb,fldB]at h;obtain⟨t,C,j,I,o,p,i⟩:=h;have g:=qlB i;simp only[yW,qD,decide_eq_true_eq,zb]at i;refine⟨g,?_,j,p,i.2.1,i.2.2.1,fun f hf=>(o f hf).1,fun f hf s J=>?_⟩
 .have:=mU (l:=sc.sC) (fun e=>by grind) fun a r=>(i.2.2.2.1 a r).1
  omega
 grind
def rowD(sc:Sc)(f:Fld):List AV:=[aI f.sS.length,.lst true [],aI f.sS.length,lI (yA sc f.sS)]
theorem JZ(sc)(l:List Fld):zc 4 (l.map (rowD sc)):=fun r g=>by
 obtain⟨n,_,rfl⟩:=qi.1 g;exact⟨rfl,rfl⟩
theorem Ka(ts sc)(F:Fit9 ts sc):qd qb 18 [eTS ts,eSc sc] (lBd (defB ts sc)):=by
 have a0:=F.nf;refine qSU call18 func18 rfl ?_;refine kT ts.sA.length (fun k U=>U.tm 2 = .ip (cTS ts)/\U.tm 3 = .ip [lI sc.sC,aI sc.sN]/\U.tm 6=aI k/\Own U.mu 4 (U.tm 5) ((ts.sA.take k).map (rowD sc))) ?_ ?_
 .exact ⟨zSi,zSi,zSi,.inl zSi⟩
 rintro k U hk ⟨C,e3,I,J⟩;by_cases l:k<ts.sA.length
 .have w1:=zWk k
  have o:=qn l;have t:=n7 sc F.g F.p ts.sA[k].sS (F.f1 _ o).1 (F.f1 _ o).2 (F.fs _ o);simp[go_sem,C,I,l];refine cZ zKr ?_;simp[go_sem,C,e3,I,l];refine fR t (.zk (zA _) (.zk (zh _) .nil)) ?_;refine qu.ownB (e:=102) (sz:=4) (bt:=64) (zv := .agg [aI 0,.lst true [],aI 0,.lst true []]) (xs:=(ts.sA.take k).map (rowD sc)) (ys:=[rowD sc ts.sA[k]]) zSi zSi zSi rfl rfl zOm zOm J (by simp[qz,rowD]) (JZ sc _) (JZ sc [_]) zSo ?_;intro a1 j P _ _ _;simp[go_sem,I,l,w1];refine aK ⟨zS1 C,zS1 e3,zSi,?_⟩;rw[yb l,q9];simpa[go_sem] using P
 .have R:k=ts.sA.length:=by omega
  subst R;rw[qO]at J;simp[go_sem,C,I];have:=aZ (g:=fun f=>cBd ⟨⟨f.sS.length,[]⟩,⟨f.sS.length,yA sc f.sS⟩⟩) J (JZ sc _).ok (fun r T=>by
   obtain⟨n,_,rfl⟩:=qi.1 T;rfl) fun f _=>⟨.hf _ (HF.sc _),.wk _ true _ (.hf _ (HF.lst fun r T=>by simp at T)),.hf _ (HF.sc _),.hf _ (zh _),trivial⟩
  show Rd _ _ (.lst false ((defB ts sc).map cBd));rw[defB,List.map_map];exact this
structure Kb (b:Bd):Prop where
 u:b.up.ts.length<=100000
 l:b.lo.ts.length<=100000
 s:sorted b.lo.ts
theorem qlX(g t lo):inOk ⟨g,[t]⟩ lo=decide (t∈lo.ts):=by simp[inOk]
theorem Ys{R av}(h:Own mu sz av xs)(g:∀ b,qj av=some b->R<=b):Own (cutM (fun i=>decide (R<=i)) mu 0) sz av xs:=by
 rcases h with h|⟨b,h,j⟩
 .exact .inl h
 .refine .inr ⟨b,h,?_⟩
  rw[js,j];simp[g b (by rw[h];rfl)]
theorem qlY(fl l C mu)(hl:l.length<=1000)(hb:∀ b,b∈l->Kb b) :
  qy qb 61 [lBd l,.lst fl (C.map rB)] mu (fun e m=>∃ av,e = .ret av/\Own m 2 av ((vp l C).map cRel)/\(∀ i,i<mu.length->m[i]?=mu[i]?)/\(∀ b,qj av=some b->mu.length<=b)/\mu.length<=m.length/\(0<l.length->∃ b,qj av=some b)):=by
 refine qSW call61 func61 rfl {} ?_;simp[go_sem];refine kT l.length (fun k U=>U.tm 0=lBd l/\U.tm 1 = .lst fl (C.map rB)/\U.tm 6=aI (vo (l.take k) C).2/\U.tm 7=aI k/\Own U.mu 2 (U.tm 5) ((vo (l.take k) C).1.map cRel)/\(∀ i,i<mu.length->U.mu[i]?=mu[i]?)/\(∀ b,qj (U.tm 5)=some b->mu.length<=b)/\mu.length<=U.mu.length/\(0<k->∃ b,qj (U.tm 5)=some b)) ?_ ?_
 .exact ⟨zSi,zSi,by simp[go_sem,vo],zSi,.inl (by simp[go_sem,vo]),zSi,by simp[go_sem,qj],zSi,fun h=>absurd h zOm⟩
 rintro k U hk ⟨T,e1,e6,e7,ho,hs,af,ah,ai⟩;by_cases t:k<l.length
 .have w1:=zWk k
  obtain⟨bu,bl,aj⟩:=hb _ (qn t);have b3:=n8 C 100000 (l.take k) ([],0) fun x hx=>(hb x (ui hx)).u
  have aw:(vo (l.take k) C).2<=100000000:=by
   grind [List.length_take_le,Nat.mul_le_mul_right,vo]
  have a4:=qj7 l C k t;generalize hq:vo (l.take k) C=q at *
  generalize ak:U.tm 5=s at *
  have ag:∀ b,qj s=some b->b<U.mu.length:=fun b h=>Own.lt ho h
  generalize hR:U.mu.length=R at *
  simp[go_sem,T,e7,t];refine kT l[k].up.ts.length (fun j st2=>st2.tm 0=lBd l/\st2.tm 1 = .lst fl (C.map rB)/\st2.tm 5=s/\st2.tm 7=aI k/\st2.tm 8 = .ptr R 0/\st2.tm 9=aI j/\st2.tm 6=aI (insF C l[k].lo (l[k].up.ts.take j) q.2).2 /\
   ∃ av,st2.mu[R]?=some (.arr [aI l[k].up.ar,av])/\Own st2.mu 1 av ((insF C l[k].lo (l[k].up.ts.take j) q.2).1.map rI)/\(∀ b,qj av=some b->R<b)/\(∀ i,i<R->st2.mu[i]?=U.mu[i]?)) ?_ ?_
  .exact ⟨zS1 T,zS1 e1,zS1 ak,zS1 e7,zS1 hR,zSi,by simp[go_sem,e6,insF],.lst true [],zS1 hR,.inl (by simp[insF]),by simp[qj],fun i hi=>by simp[go_sem, *]⟩
  clear T e1 e6 e7;rintro j st2 hj ⟨T,e1,e5,e7,e8,e9,e6,av,a0,a1,ad,a7⟩;by_cases I:j<l[k].up.ts.length
  .have w2:=zWk j
   have b4:=XN C l[k].lo (l[k].up.ts.take j) ([],q.2);have ax:(insF C l[k].lo (l[k].up.ts.take j) q.2).2<=100100000:=by
    grind [List.length_take_le,insF]
   have ay:=(XM C l[k].lo (l[k].up.ts.take j) ([],q.2) [] (List.Sublist.refl _)).length_le;have az:(insF C l[k].lo (l[k].up.ts.take j) q.2).1.length<=100000:=by
    grind [List.length_take_le,insF]
   have a8:=qj6 C l[k].lo l[k].up.ts q.2 j I;generalize hp:insF C l[k].lo (l[k].up.ts.take j) q.2=p at *
   have w3:qm.wrap ((p.2:Int)+1)=(p.2:Int)+1:=zWr;have al:R<st2.mu.length:=(qg.1 a0).1;have b0:qj av≠some st2.mu.length:=fun h=>zW1 (Own.lt a1 h)
   have b1:qj av≠some R:=fun h=>by grind
   have a3:∀ c,(st2.mu++[c])[R]?=some (.arr [aI l[k].up.ar,av]):=fun c=>by grind
   have a5:=in06 ⟨l[k].up.ar,[l[k].up.ts[j]]⟩ l[k].lo zSp zOm aj;rw[qlX]at a5;have a9:WKs [.agg [aI l[k].up.ar,.lst true [[aI l[k].up.ts[j]]]],eRel l[k].lo] [eRel ⟨l[k].up.ar,[l[k].up.ts[j]]⟩,eRel l[k].lo] := .cons (WK.aggs (.zs (.cons (WK.ints [l[k].up.ts[j]]) .nil))) (.zk (qK _) .nil);have ab:∀(K:AV->Mu->Prop),(∀ P a2,Own a2 1 P ((p.1++[l[k].up.ts[j]]).map rI)->a2[R]?=some (.arr [aI l[k].up.ar,av])->(∀ b,qj P=some b->R<b)->(∀ i,i<R->a2[i]?=U.mu[i]?)->K P a2)->qu qb (st2.mu++[.arr [aI l[k].up.ar,.lst true [[aI l[k].up.ts[j]]]]]) #[28,28] av (.lst true [[aI l[k].up.ts[j]]]) K:=fun K hK=>by
    refine qu.ownB (e:=3) (sz:=1) (bt:=8) (zv:=aI 0) (xs:=p.1.map rI) (ys:=[rI l[k].up.ts[j]]) zSi zSi zSi rfl rfl zOm zOm (Own.push a1 _) (by simp[qz]) (yk _) (yk [_]) zSo ?_
    grind
   by_cases J:l[k].up.ts[j]∈l[k].lo.ts
   .have o:insF C l[k].lo (l[k].up.ts.take (j+1)) q.2=(p.1++[l[k].up.ts[j]],p.2):=by rw[a8,v6,if_pos J]
    simp[go_sem,T,e7,e8,e9,t,I,a0];refine cZ zKr ?_;simp[go_sem,T,e7,t];refine tC a5 a9 ?_;simp[go_sem,e8,a3,J];refine ab _ fun P a2 h1 h2 h3 h4=>?_
    simp[go_sem,e8,e9,I,h2,w2,Own.one h1,Own.cells h1]
    try refine⟨I,aK ?_⟩
    try refine aK ?_
    refine⟨zS1 T,zS1 e1,zS1 e5,zS1 e7,zS1 e8,zSi,zS2 e6 o,P,by simp[go_sem,(qg.1 h2).1],?_,h3,fun i hi=>?_⟩
    .rw [o]
     simpa[go_sem] using Own.set h1 (.arr [aI l[k].up.ar,P]) (fun h=>by grind)
    .simp [go_sem]
     grind
   .by_cases a6:p.2<C.length
    .cases aa:C[p.2] with
     |true =>
      have o:insF C l[k].lo (l[k].up.ts.take (j+1)) q.2=(p.1++[l[k].up.ts[j]],p.2+1):=by rw[a8,v6,if_neg J,zC,qw a6,aa];rfl
      simp[go_sem,T,e7,e8,e9,t,I,a0];refine cZ zKr ?_;simp[go_sem,T,e7,t];refine tC a5 a9 ?_;simp[go_sem,e1,e8,e6,a3,J,a6,aa];refine ab _ fun P a2 h1 h2 h3 h4=>?_
      simp[go_sem,e8,e9,e6,I,h2,w2,w3,Own.one h1,Own.cells h1]
      try refine⟨I,aK ?_⟩
      try refine aK ?_
      refine⟨zS1 T,zS1 e1,zS1 e5,zS1 e7,zS1 e8,zSi,zS1 o,P,by simp[go_sem,(qg.1 h2).1],?_,h3,fun i hi=>?_⟩
      .rw [o]
       simpa[go_sem] using Own.set h1 (.arr [aI l[k].up.ar,P]) (fun h=>zW1 (h3 R h))
      .simp [go_sem]
       rw[zGl];exact h4 i hi
     |false =>
      have o:insF C l[k].lo (l[k].up.ts.take (j+1)) q.2=(p.1,p.2+1):=by rw[a8,v6,if_neg J,zC,qw a6,aa];simp
      simp[go_sem,T,e7,e8,e9,t,I,a0];refine cZ zKr ?_;simp[go_sem,T,e7,t];refine tC a5 a9 ?_;simp[go_sem,e1,e9,e6,I,J,a6,aa,w2,w3]
      try refine⟨I,aK ?_⟩
      try refine aK ?_
      refine⟨zS1 T,zS1 e1,zS1 e5,zS1 e7,zS1 e8,zSi,zS1 o,av,zS1 a3,?_,ad,fun i hi=>?_⟩
      .rw [o];simpa[go_sem] using Own.push a1 _
      .simp [go_sem];rw[zGa];exact a7 i hi
    .have o:insF C l[k].lo (l[k].up.ts.take (j+1)) q.2=(p.1,p.2+1):=by rw[a8,v6,if_neg J,zC,uJ zOm];simp
     simp[go_sem,T,e7,e8,e9,t,I,a0];refine cZ zKr ?_;simp[go_sem,T,e7,t];refine tC a5 a9 ?_;simp[go_sem,e1,e9,e6,I,J,a6,w2,w3]
     try refine⟨I,aK ?_⟩
     try refine aK ?_
     refine⟨zS1 T,zS1 e1,zS1 e5,zS1 e7,zS1 e8,zSi,zS1 o,av,zS1 a3,?_,ad,fun i hi=>?_⟩
     .rw [o];simpa[go_sem] using Own.push a1 _
     .simp [go_sem];rw[zGa];exact a7 i hi
  .have ae:j=l[k].up.ts.length:=by omega
   subst ae;rw[qO]at e6 a1;have b2:=XM C l[k].lo l[k].up.ts ([],q.2) [] (List.Sublist.refl _);have b5:q.1.length=k:=by
    rw[<-hq];have:=congrArg List.length (XP C (l.take k) ([],0));simp at this;show (vo (l.take k) C).1.length=k;rw[vo,this];omega
   simp[go_sem,T,e5,e7,e8,e9,t,a0,Own.one a1];refine aQ (e:=100) (sz:=2) (bt:=32) (zv := .agg [aI 0,.lst true []]) (xs:=q.1.map cRel) (cRel ⟨l[k].up.ar,(insF C l[k].lo l[k].up.ts q.2).1⟩) R zSi zSi zSi rfl rfl zOm zOm ?_ ag ?_ (vh _) (vh [_]) zSo ?_
   .rcases ho with h|⟨b,h,hc⟩
    .exact .inl h
    .refine .inr ⟨b,h,?_⟩
     rw[a7 b (ag b (by rw[h];rfl))];exact hc
   .refine ⟨.hf _ (HF.sc _),?_,trivial⟩
    exact Own.rd (Ys a1 fun b h=>zW1 (ad b h)) (yk _).ok fun r hr c hc=>by
     obtain⟨n,_,rfl⟩:=qi.1 hr;simp at hc;subst hc;exact HF.sc _
   intro P a2 an ao aq b6 au;have al:R<st2.mu.length:=(qg.1 a0).1;simp[go_sem,e7,t,w1]
   try refine⟨t,aK ?_⟩
   try refine aK ?_
   refine⟨zS1 T,zS1 e1,by simp[go_sem,e6,a4,insB],zSi,?_,fun i hi=>?_,fun b h=>?_,by simp[go_sem];omega,fun _=>by simp[go_sem];exact au⟩
   .rw [a4,insB,q9]
    simpa[go_sem] using an
   .simp [go_sem]
    rw[ao i zOm zOm (fun h=>zW1 (af i h)),a7 i zOm];exact hs i hi
   .simp [go_sem]at h
    have:=aq b h;omega
 .have ae:k=l.length:=by omega
  subst ae;rw[qO]at ho e6;simp[go_sem,T,e7];exact⟨ho,hs,af,ah,ai⟩
end
end GR
namespace GS
open P1 E1 EO F4 GB G5 GP GR
abbrev rBs(l:List Bool):List AV:=[lB l]
abbrev lBB(l:List (List Bool)):AV := .lst false (l.map rBs)
theorem JL(l):HF (lB l):=HF.lst fun r i c g=>by
 obtain⟨n,_,rfl⟩:=qi.1 i;simp at g;subst g;exact HF.sc _
theorem mV(l):HF (lBB l):=HF.lst fun r i c g=>by
 obtain⟨n,_,rfl⟩:=qi.1 i;simp at g;subst g;exact JL n
theorem mW{ts sc}(F:Fit9 ts sc)(j:sumI sc.sC<=5):∀ b,b∈defB ts sc->b.up.ts.length<=1000/\b.up.ts.Pairwise (·<·)/\Kb b:=fun b g=>by
 obtain⟨f,hf,rfl⟩:=qi.1 g;have l:=(F.f1 f hf).2;have o:=F.p;have i:(yA sc f.sS).length<=1000:=by
  refine zt (XL _ _ _) ?_;have:sumI sc.sC ^ f.sS.length<=125:=by
   rcases (show f.sS.length=0\/f.sS.length=1\/f.sS.length=2\/f.sS.length=3 by omega) with e|e|e|e<;>rw[e]<;>rcases (show sumI sc.sC=1\/sumI sc.sC=2\/sumI sc.sC=3\/sumI sc.sC=4\/sumI sc.sC=5 by omega) with d|d|d|d|d<;>rw[d]<;>decide
  omega
 exact⟨i,JQ _ _ _,zSo,zSp,by simp[sorted]⟩
def fixS(g:List Bool)(i l:List Rl)(j:Nat):List Rl:=l.mapIdx fun f r=>if f<j/\g.getD f true=false then i.getD f noR else r
theorem qlZ(i j g):fixS i j g 0=g:=by
 refine jy fun f=>?_
 simp[fixS]
theorem ql0(i l g j):(fixS i l g j).length=g.length:=by simp[fixS]
theorem ql1(i o g j)(h:j<g.length):fixS i o g (j+1)=if i.getD j true=false then (fixS i o g j).set j (o.getD j noR) else fixS i o g j:=by
 refine jy fun f=>?_
 by_cases l:i.getD j true=false
 .rw [if_pos l,List.getElem?_set]
  simp only[fixS,List.getElem?_mapIdx,List.length_mapIdx];by_cases hf:j=f
  .subst hf
   rw[if_pos rfl,if_pos h,qw h];simp only[zg,Nat.lt_succ_self,l,and_self,if_true]
  .rw [if_neg hf]
   cases g[f]? with
   |none=>rfl
   |some r=>simp only[zg];congr 1;by_cases p:f<j<;>simp[p,show (f<j+1)=(f<j) by simp;omega]
 .rw [if_neg l]
  simp only[fixS,List.getElem?_mapIdx];cases g[f]? with
  |none=>rfl
  |some r =>
   simp only[zg];congr 1;by_cases hf:f=j
   .subst hf;rw[if_neg (fun h=>l h.2),if_neg (fun h=>l h.2)]
   .by_cases p:f<j<;>simp[p,show (f<j+1)=(f<j) by simp;omega]
theorem ql2(j i g k)(h:k≠0):anyS j i g k=fixS j (vp i (g.getD 0 [])) (vp i (g.getD k [])) i.length:=by
 rw[anyS,if_neg h];refine jy fun f=>?_
 simp only[fixS,List.getElem?_mapIdx];cases o:(vp i (g.getD k []))[f]? with
 |none=>rfl
 |some r =>
  have l:=(qg.1 o).1;rw[XQ]at l;simp only[zg];congr 1;cases j.getD f true<;>simp[l]
theorem Own.put{sz}{mu:Mu}{av xs b}(h:av = .sl b sz 0 xs.length)(g:mu[b]?=some (.arr xs.flatten))(w:yE sz xs){i r}(j:r.length=sz)(l:i<xs.length):Own (mu.set b (.arr (putCells xs.flatten (i*sz) r))) sz av (xs.set i r):=by
 refine .inr ⟨b,by rw[List.length_set];exact h,?_⟩;rw[qI (qg.1 g).1,Je xs i r w j l]
abbrev vsT(ts:TS):List Bool:=ts.sA.map fun f=>f.var
end GS
namespace GG
open ER
@[go_sem ↓] theorem qvN(P pl l Q o k r T st i op ty pos after j g) :
  segO P pl l Q o k r T st (some ⟨i,op,ty,pos,after,some (j,g)⟩)=Zx ((l[j]?).bind (·.dst)) st g (fun st=>segO P pl l Q o k r T st (some ⟨i,op,ty,pos,after,none⟩)) (fun st=>awpT P pl l.toArray Q o T (st.put i (.sc wg) st.mu)):=by
 simp only[segO,yo,Zx,uO]
 grind [brK,BrS,OptK,Br]
@[go_sem ↓] theorem qvO(P pl l st d op ty pos after j g) :
  V3 P pl l st (some ⟨some d,op,ty,pos,after,some (j,g)⟩)=Zx ((l[j]?).bind (·.dst)) st g (fun st=>qC P pl true (some d) op st.ev st.mu (Zv st d st.mu) noK) (fun _=>True):=by
 simp only[V3,yo,Zx,uO];congr 1
def subL:List (List AV)->List (List AV)->List (List (List AV))
 |c,[]=>[c]
 |c,x :: r=>subL c r++subL (c++[x]) r
def w7(l:List (List AV)):Prop:=∀ r,r∈l->r.length=3/\(r.all AV.one=true/\∀ x,x∈r->HF x)
theorem clipU(c)(i:w7 c)(l:c.length<=1000000):qd qb 72 [.lst false c] (.lst true c):=by
 refine qSU call72 func72 rfl ?_;refine⟨⟨_,_,⟨rfl,rfl⟩,fun r g=>(i r g).1⟩,.hf _ (HF.lst fun r g x j=>(i r g).2.2 x j)⟩
abbrev extV(i b:Nat):AV := .fn (.func 71) [] [.ip [.yl i],.ptr b 0]
def ExtR(i b:Nat)(I:Nat->Mu->Prop)(g:Mu->Prop)(k:Nat)(e:AEnd)(m:Mu):Prop:=m[b]?=some (.arr [extV i b])/\((e = .ret (aB true)/\I k (m.set b .dead))\/(e = .ret (aB false)/\g (m.set b .dead)))
theorem extU{i b rows I Ix}(hS:∀ k mu,I k mu->I k (mu++[.dead]))(hX:∀ mu,Ix mu->Ix (mu++[.dead]))(hY:Yld qb i rows I Ix) :
  ∀ r c k mu,w7 r->w7 c->c.length+r.length<=1000->(∀(j) x,(subL c r)[j]?=some x->rows[k+j]?=some [.lst false x])->mu[b]?=some (.arr [extV i b])->I k (mu.set b .dead) ->
   qy qb 71 ([.lst false c,.lst false r]++[.ip [.yl i],.ptr b 0]) mu (ExtR i b I Ix (k+(subL c r).length))
 | [],c,k,mu,hr,hc,hl,P,hb,h0=>by
  refine qSW call71 func71 rfl {} ?_;simp[go_sem];have h1:=P 0 c rfl;refine qc.yield (Qm.hid hb zSp (hY k _ _ h1 h0)) ?_;rintro bb m ⟨C,hm,hd,rfl⟩;have T:b<C.length:=(qg.1 hd).1;have a1:(C.set b (Cell.arr [extV i b])).set b .dead=C:=by
   rw[List.set_set];apply jy
   grind
  simp[go_sem];refine⟨by rw[qI T],?_⟩;rw[a1];rcases hm with ⟨rfl,hI⟩|⟨rfl,hI⟩
  .exact .inl ⟨rfl,hI⟩
  grind
 |x :: r,c,k,mu,hr,hc,hl,P,hb,h0=>by
  have hx:=hr x zSp;obtain⟨l,o,p,rfl⟩:∃ l o p,x=[l,o,p]:=by
   match x,hx.1 with
   | [a,b,c],_=>simp
  refine qSW call71 func71 rfl {} ?_;have a9:¬(r.length:Int)+1=0:=zOm;simp[go_sem,a9];refine fD [0,1,2,3,4,5,6,7,9,10,11,12,14,15,8,13,16,17,18] [(0,0,[]),(1,0,[]),(2,0,[]),(3,0,[]),(4,1,[]),(5,0,[]),(6,0,[]),(7,0,[]),(9,0,[]),(10,0,[]),(11,0,[]),(12,0,[]),(14,0,[]),(15,0,[]),(8,1,[6,11]),(13,1,[6]),(16,1,[]),(17,0,[]),(18,0,[])] zKr zKr zSi ?_;have a2:(1:Int)<=(r.length:Int)+1:=zOm;have a3:∃ e g,(136=e/\3=g)/\yE g ([l,o,p] :: r):=⟨_,_,⟨rfl,rfl⟩,fun y J=>(hr y J).1⟩;simp[go_sem,hb,a2];refine⟨a3,?_⟩;have a4:w7 r:=fun y J=>hr y (zP1 J)
  have U:subL c ([l,o,p] :: r)=subL c r++subL (c++[[l,o,p]]) r:=rfl;have aa:=extU hS hX hY r c k mu a4 hc (by simp at hl;omega) (fun j y hj=>P j y (by grind)) hb h0;refine fY (caps:=[.ip [.yl i],.ptr b 0]) aa ?_ (by rintro q m ⟨_,h|h⟩<;>exact absurd h.1 zSp);rintro q C ⟨R,⟨hq,hI⟩|⟨hq,hI⟩⟩
  .cases hq
   have a6:l.one=true/\o.one=true/\p.one=true:=by grind
   have ab:∀ y,y∈c->∀ z,z∈y->HF z:=fun y J=>(hc y J).2.2
   simp[go_sem,R,a2,a6];refine⟨a3,?_⟩;refine tC (clipU c hc (by simp at hl;omega)) (.zk (HF.lst ab) .nil) ?_;simp[go_sem,R];refine .inl ⟨86,86,136,3,24,[[l,o,p]],rfl,zSi,zSi,⟨.agg [aI 0,aI 0,aI 0],zSi,rfl,rfl⟩,zOm,zOm,by simp[qz],fun y J=>by grind,.inl ⟨c,rfl,fun y J=>⟨(hc y J).1,(hc y J).2.1⟩,by grind,fun h=>absurd h zSp,fun _=>?_⟩⟩;have T:b<C.length:=(qg.1 R).1;have al:(c++[[l,o,p]]).flatten=c.flatten++[l,o,p]:=zSp;generalize hM:C++[Cell.arr (c.flatten++[[l,o,p]].flatten)]=m2;have ad:C++[Cell.arr (c.flatten++[l,o,p])]=m2:=by rw[<-hM];simp
   have an:m2[b]?=some (.arr [extV i b]):=by grind
   have ae:m2[C.length]?=some (.arr (c++[[l,o,p]]).flatten):=by grind
   have a7:(C++[Cell.arr (c.flatten++[l,o,p])])[b]?=some (.arr [extV i b]):=by grind
   simp[go_sem,a7];rw[ad];have a8:cutM (fun j=>!(j == C.length)) m2 0=C++[.dead]:=by
    apply jy
    grind [js,qG,qw,zE]
   have a0:w7 (c++[[l,o,p]]):=fun y J=>by
    rcases qH.1 J with h|h
    .exact hc y h
    .rw [qT]at h;subst h;exact hx
   have af:=extU hS hX hY r (c++[[l,o,p]]) (k+(subL c r).length) (C++[.dead]) a4 a0 (by simp at hl⊢;omega) (fun j y hj=>by
    have:=P ((subL c r).length+j) y (by rw[U,zE zOm];simpa using hj);rw[<-this];congr 1;omega) (by rw[qG T];exact R) (by
    rw[List.set_append_left _ _ T];exact hS _ _ hI)
   have ag:Rd (cutM (fun j=>j == C.length) m2 0) (.sl C.length 3 0 (c.length+1)) (.lst false (c++[[l,o,p]])):=by
    have ah:(cutM (fun j=>j == C.length) m2 0)[C.length]?=some (.arr (c++[[l,o,p]]).flatten):=by rw[W9];exact ae
    have:=Own.rd (mu:=cutM (fun j=>j == C.length) m2 0) (sz:=3) (av := .sl C.length 3 0 (c++[[l,o,p]]).length) (.inr ⟨_,rfl,ah⟩) (fun y J=>(a0 y J).1) (fun y J=>(a0 y J).2.2);simpa using this
   have ai:qy qb 71 ([.sl C.length 3 0 (c.length+1),.lst false r]++[.ip [.yl i],.ptr b 0]) m2 (ExtR i b I Ix (k+(subL c r).length+(subL (c++[[l,o,p]]) r).length)):=
    qy.freeze (args:=[.sl C.length 3 0 (c.length+1),.lst false r,.ip [.yl i],.ptr b 0]) (args1:=[.lst false (c++[[l,o,p]]),.lst false r,.ip [.yl i],.ptr b 0]) (fun j=>j == C.length) ⟨.inr ag,.inl rfl,.inl rfl,.inl rfl,trivial⟩ (by rw[a8];exact af)
   refine fY (caps:=[.ip [.yl i],.ptr b 0]) ai ?_ (by rintro q m ⟨_,h|h⟩<;>exact absurd h.1 zSp);have ak:k+(subL c r).length+(subL (c++[[l,o,p]]) r).length=k+(subL c ([l,o,p] :: r)).length:=by rw[U,qX];omega
   simp[go_sem, *]
  .cases hq
   simp[go_sem];exact⟨R,.inr ⟨rfl,hI⟩⟩
theorem ql3(l)(P:w7 l)(R:l.length<=1000):y5 qb 70 [.ip [.lst false l]] ((subL [] l).map fun c=>[.lst false c]):=by
 refine y5.of call70 fun i I t T U hY C h0=>?_
 refine fH ?_;refine qSW call70 func70 rfl {} ?_;simp[go_sem];have hx:=extU (i:=i) (b:=C.length) T U hY l [] 0 (C++[.arr [extV i C.length]]) P (fun r o=>by simp at o) (zUs R) (fun j x hj=>by rw[z7,zf,hj];rfl) zSp (by grind);have hf:qy qb 71 ([.lst true [],.lst false l]++[.ip [.yl i],.ptr C.length 0]) (C++[.arr [extV i C.length]]) (ExtR i C.length I t (0+(subL [] l).length)):=
  qy.freeze (args:=[.lst true [],.lst false l,.ip [.yl i],.ptr C.length 0]) (args1:=[.lst false [],.lst false l,.ip [.yl i],.ptr C.length 0]) (fun _=>false) ⟨.inr (.wk _ true _ (.hf _ (HF.lst fun r o=>by simp at o))),.inl rfl,.inl rfl,.inl rfl,trivial⟩ (by rw[gF];exact hx)
 refine fY (caps:=[.ip [.yl i],.ptr C.length 0]) hf ?_ (by rintro q m ⟨_,h|h⟩<;>exact absurd h.1 zSp);rintro q m ⟨hb,h⟩;have g:cutM (fun j=>!(j == C.length)) m 0=m.set C.length .dead:=by
  apply jy
  grind [js,qI,qg,yu]
 simp[go_sem];refine .inr ⟨fun j=>j == C.length,⟨_,.same _⟩,?_⟩;show I _ (cutM (fun j=>!(j == C.length)) m 0)\/t (cutM (fun j=>!(j == C.length)) m 0);rw[g];rw[z7]at h;rcases h with ⟨_,h⟩|⟨_,h⟩
 .exact .inl h
 grind
theorem ql4(l)(i:w7 l):qd qb 34 [.lst false l] (.fn (.func 70) [] [.ip [.lst false l]]):=by
 refine qSU call34 func34 rfl ?_;refine .hf _ (HF.fn (fun c g=>by simp at g) (fun c g=>?_));simp at g;subst g;exact yU (HF.lst fun r j x o=>(i r j).2.2 x o)
end GG
namespace F5
open Y1 YF E2 E3 EA EO EP EQ ER ET EW F1 F2 F3 F4
theorem clipE(l):qd qb 185 [lPm l] (.lst true (l.map cPm)):=by
 refine qSV call185 func185 rfl ?_;have g:List.take l.length (l.map cPm)=l.map cPm:=zO zSp;simp[go_sem,g];exact⟨⟨_,_,⟨rfl,rfl⟩,fun r i=>by obtain⟨q,_,rfl⟩:=qi.1 i;rfl⟩,.hf _ (HF.lst fun r i c j=>by obtain⟨q,_,rfl⟩:=qi.1 i;exact Ug q c j)⟩
theorem clipI(l):qd qb 217 [lI l] (lI l):=by
 refine qSV call217 func217 rfl ?_;have g:List.take l.length (l.map rI)=l.map rI:=zO zSp;simp[go_sem,g];exact⟨⟨_,_,⟨rfl,rfl⟩,(yk l).ok⟩,.wk _ true _ (.hf _ (HF.lst fun r i c j=>by obtain⟨q,_,rfl⟩:=qi.1 i;grind [HF.sc]))⟩
theorem Kc(xs:List (tG×Int)):zc 2 (xs.map cPm):=fun r g=>by
 obtain⟨n,_,rfl⟩:=qi.1 g;exact⟨rfl,rfl⟩
abbrev insC(g:Int)(ts:List Int)(i:List Bool):List AV:=[.ip [aI g,lI ts],.ip [lB i]]
def ZL(ts:List Int)(g:List Bool):List (List AV):=(ts.zip g).map fun e=>[aI e.1,aB e.2]
theorem Ke(r ts g)(t:ts.length=g.length)(hb:ts.length<=1000000):y5 qb 186 (insC r ts g) (ZL ts g):=by
 refine y5.of call186 fun i I Ix hS hX J C h0=>?_
 refine qSW call186 func186 rfl {} ?_;have P:(ZL ts g).length=ts.length:=by simp[ZL,t]
 simp[go_sem];refine kT ts.length (fun k U=>U.tm 0 = .yl i/\U.tm 2 = .ip [lB g]/\U.tm 7=lI ts/\U.tm 8=aI ts.length/\U.tm 9=aI k/\I k U.mu) ?_ ?_
 .simp [go_sem, *]
 rintro k U hk ⟨R,T,e7,e8,e9,hI⟩;by_cases l:k<ts.length
 .have w1:=zWk k
  have p:k<g.length:=zOm;have o:(ZL ts g)[k]?=some [aI ts[k],aB g[k]]:=by
   rw[ZL,zf,List.getElem?_zip_eq_some (z:=(ts[k],g[k])) |>.2 ⟨qw l,qw p⟩];rfl
  simp[go_sem,R,T,e7,e8,e9,l,p];refine qc.yield (J _ _ _ o hI) ?_;rintro b j (⟨rfl,a0⟩|⟨rfl,a1⟩)
  .simp_all [go_sem,aK]
  simp[go_sem, *]
 .have a2:k=ts.length:=by omega
  simp_all[go_sem]
def endI(l:XE (List (Int×Bool))):AEnd:=match l with
 | .ok l => .ret (.fn (.func 186) [] (insC 1 (l.map Prod.fst) (l.map Prod.snd)))
 | .error e => .pan (errV e)
theorem UC(l):endI (.ok l) = .ret (.fn (.func 186) [] (insC 1 (l.map Prod.fst) (l.map Prod.snd))):=rfl
theorem Kf(e):endI (.error e) = .pan (errV e):=rfl
theorem Kg(x N n a b)(hM:OkMa x N)(hk:n.sD=[a,b])(ih:IH x N n)(p)(hp:OkP x N p)(hq:bd p n) :
  qR qb 133 [eMa x,ePl p,eNd n] (endI (j8 [den x a,den x b] n.name p)):=by
 refine za.of_sound ?_;refine qSW call133 func133 rfl {} ?_;have ia:=ih a (by rw[hk];simp) p hp zOm;have ha:=ia.E;have wa:=wk3 x p a;have ai:=zN x;have aj:=fun p' h1 h2=>(ih b (by rw[hk];simp) p' h1 h2).F
 generalize C:j8 [den x a,den x b] n.name p=E;unfold j8 at C;simp only[kD,uj,List.getD_cons_succ]at C;simp[go_sem];refine fD [0,1,2,3,4,5,6,7,8] [(0,0,[]),(1,0,[]),(2,0,[]),(3,0,[]),(4,0,[]),(5,0,[]),(6,1,[]),(7,2,[1,3,5]),(8,1,[])] zKr zKr zSi ?_;simp[go_sem,hk];cases ea:(den x a).E p with
 |error e =>
  rw[ea]at ha C;subst C;refine fZ ha wa ?_;simp[go_sem,zB,Kf];exact .hf _ (qL _)
 |ok d =>
  rw[ea]at ha C;rw[zw]at C;refine tC ha.toP wa ?_;by_cases he:d.ar=1
  case neg =>
   rw[if_neg he]at C;subst C;simp[go_sem,hk,he];refine fZ (uZ 42) (wkI 42) ?_;simp[go_sem,Kf];exact .hf _ (qL _)
  rw[if_pos he]at C;have hd:(d.ar=1)=True:=eq_true he;have gd:=ia.G _ ea;have ld:=gd.len hM.n0 (aJ hM);generalize hg:(fun a=>bX ((den x b).F ⟨p.st,p.env++[(n.name,a)]⟩) fun b=>(Except.ok (a,b):XE (Int×Bool)))=g at C;simp[go_sem,hk,hd];refine kT d.ts.length (fun k U=>∃(o:List (Int×Bool)) (t:AV),mapX g (d.ts.take k) = .ok o/\o.length=k/\U.tm 0=eMa x/\U.tm 4 = .ip (cPl p)/\U.tm 5 = .ip (cNd n)/\U.tm 7 = .ptr 0 0/\U.tm 8 = .ptr 1 0/\U.tm 24=lI d.ts/\U.tm 25=aI d.ts.length/\U.tm 26=aI k /\
   U.mu[0]?=some (.arr (cRel d))/\U.mu[1]?=some (.arr [t])/\Own U.mu 1 t ((o.map Prod.snd).map rB)/\qj t≠some 0/\qj t≠some 1) ?_ ?_
  .exact ⟨[],.lst true [],rfl,rfl,zSi,zSi,zSi,zSi,zSi,zSi,zSi,zSi,zSi,zSi,.inl rfl,by simp[qj],by simp[qj]⟩
  rintro k U ax ⟨o,t,J,ak,e0,e4,e5,e7,e8,aa,a4,a5,g0,g1,ho,n0,n1⟩;by_cases I:k<d.ts.length
  .have w1:=zWk k
   have hv:=gd.val _ (qn I);rw[he,uB]at hv;have hF:=aj ⟨p.st,p.env++[(n.name,d.ts[k])]⟩ (hp.bind hv) zSo;have hw:=wk3 x ⟨p.st,p.env++[(n.name,d.ts[k])]⟩ b;have P:=ZJ (l2:=d.ts.drop k) J;rw[vS,zm I,mapX]at P;rw[C]at P;have T:g d.ts[k]=bX ((den x b).F ⟨p.st,p.env++[(n.name,d.ts[k])]⟩) fun b => .ok (d.ts[k],b):=by rw[<-hg]
   simp[go_sem,aa,a4,a5,I];refine fD [0,1,3,4,5,6,7,2,8,9] [(0,0,[]),(1,0,[]),(3,0,[]),(4,0,[]),(5,0,[]),(6,0,[]),(7,0,[]),(2,1,[4]),(8,1,[]),(9,0,[])] zKr zKr zSi ?_;simp[go_sem,e4,e5];refine fR (clipE p.env) (.zk (vZ _) .nil) ?_;refine qu.ownB (e:=273) (sz:=2) (bt:=24) (zv := .agg [aS ⟨#[]⟩,aI 0]) (xs:=p.env.map cPm) (ys:=[cPm (n.name,d.ts[k])]) zSi zSi zSi rfl rfl zOm zOm (.inl rfl) (by simp[qz]) (Kc p.env) (Kc [(n.name,d.ts[k])]) zSo ?_;intro ev ab ad al ay az;have l1:1<U.mu.length:=(qg.1 g1).1;have a2:p.env.map cPm++[cPm (n.name,d.ts[k])]=(p.env++[(n.name,d.ts[k])]).map cPm:=by rw[q9];rfl
   rw[a2]at ad;have ae:∀ i,i<U.mu.length->ab[i]?=U.mu[i]?:=fun i hi=>al i hi (by simp[qj])
   simp[go_sem];refine qe.fz (FzQ.ownB (d:=11) (sz:=2) (av:=ev) (xs:=(p.env++[(n.name,d.ts[k])]).map cPm) zSi ad (Kc _) (fun r hr c hc=>by obtain⟨q,_,rfl⟩:=qi.1 hr;exact Ug q c hc) fun a0 full an ao=>?_);have a6:∀ i,i<U.mu.length->a0[i]?=U.mu[i]?:=fun i hi=>(ao i (fun e=>by grind)).trans (ae i hi)
   simp[go_sem];refine fD [0,1,2,3,4,5,6,7,8,9,10,11,12,13] [(0,0,[]),(1,0,[]),(2,0,[]),(3,0,[]),(4,0,[]),(5,0,[]),(6,0,[]),(7,0,[]),(8,0,[]),(9,0,[]),(10,1,[0]),(11,0,[]),(12,1,[]),(13,1,[])] zKr zKr zSi ?_;have aq:=(a6 0 zOm).trans g0;have a7:=(a6 1 l1).trans g1;have a1:∀ f,WKs [eMa x,.agg [aI p.st,.lst f ((p.env++[(n.name,d.ts[k])]).map cPm)],eNd b] [eMa x,ePl ⟨p.st,p.env++[(n.name,d.ts[k])]⟩,eNd b]:=fun f =>
    .zk ai (.cons (WK.aggs (.zs (.cons (WK.lst fun r hr c hc=>by obtain⟨q,_,rfl⟩:=qi.1 hr;exact Ug q c hc) .nil))) (.zk (qJ b) .nil))
   have au:Own a0 1 t ((o.map Prod.snd).map rB):=by
    rcases ho with h|⟨bb,h,hc⟩
    .exact .inl h
    .exact .inr ⟨bb,h,by rw[a6 bb (qg.1 hc).1];exact hc⟩
   have a1:WKs [eMa x,.agg [aI p.st,.lst full (p.env.map cPm++[cPm (n.name,d.ts[k])])],.agg (cNd b)] [eMa x,ePl ⟨p.st,p.env++[(n.name,d.ts[k])]⟩,eNd b]:=by rw[a2];exact a1 full
   simp[go_sem,e0,e4,e5,e8,hk,a7];cases ef:(den x b).F ⟨p.st,p.env++[(n.name,d.ts[k])]⟩ with
   |error e =>
    rw[ef]at hF T;rw[T]at P;subst P;refine fZ hF a1 ?_;simp[go_sem,zB,Kf];exact .hf _ (qL _)
   |ok v =>
    rw[ef]at hF T;refine tC hF.toP a1 ?_;simp[go_sem,e8,a7];refine qu.ownB (e:=4) (sz:=1) (bt:=1) (zv:=aB false) (xs:=(o.map Prod.snd).map rB) (ys:=[rB v]) zSi zSi zSi rfl rfl zOm zOm au (by simp[qz]) (wX _) (wX [v]) zSo ?_;intro a8 j a9 af ag b0;have b1:U.mu.length<=a0.length:=by
     have:a0.length=ab.length:=an;omega
    have k0:j[0]?=some (.arr (cRel d)):=(af 0 zOm n0).trans aq;have k1:j[1]?=some (.arr [t]):=(af 1 zOm n1).trans a7;have m0:qj a8≠some 0:=fun e=>zW1 (ag 0 e)
    have m1:qj a8≠some 1:=fun e=>zW1 (ag 1 e)
    simp[go_sem,e8,a5,k1,Own.one a9,Own.cells a9,w1];refine⟨I,aK ⟨o++[(d.ts[k],v)],a8,?_,zP1 ak,zS1 e0,zS1 e4,zS1 e5,zS1 e7,zS1 e8,zS1 aa,zS1 a4,zSi,?_,?_,?_,m0,m1⟩⟩
    .rw [yb I,ZJ J,mapX,T];rfl
    .simp only[qA];rw[zGl];exact k0
    .simp only[qA];rw[qI zOm]
    .simp only[qA]
     rw[q9,q9];exact Own.set a9 _ m1
  .have aw:k=d.ts.length:=by omega
   subst aw;rw[qO,C]at J;subst J;have ah:=X7 (g:=fun a=>(den x b).F ⟨p.st,p.env++[(n.name,a)]⟩) (ts:=d.ts) (l:=o) (by rw[hg];exact C);have a3:=UC o;rw[ah]at a3;generalize o.map Prod.snd=vs at *
   simp[go_sem,e7,e8,a4,a5,a3];refine .fn _ _ _ _ _ rfl rfl (fun k x y hx=>by simp at hx) (fun k x y hx hy=>?_)
   match k with
   | 0 =>
    simp at hx hy;subst hx;subst hy;rw[<-he];refine .ptr 0 0 _ _ g0 zSp fun k u v hu hv=>?_
    rw[z7]at hu;rw[hu]at hv;cases hv;exact .hf _ (Zy d _ (qU hu))
   | 1=>simp at hx hy;subst hx;subst hy;exact Rd.ip1 g1 (Own.rdB ho)
   |k+2=>simp at hx
theorem RelM.push{mu g l}(h:RelM mu g l):RelM (mu++[.dead]) g l:=by
 obtain⟨t,r,g1,i,j,o⟩:=h;exact⟨t,by grind,by grind,i.same fun b p=>by rw[qG (i.v.lt p)],j,o⟩
abbrev onL(l:List (Int×Bool)):List Int:=(l.filter fun e=>e.2).map fun e=>e.1
theorem Kh(l:List (Int×Bool)):ZL (l.map Prod.fst) (l.map Prod.snd)=l.map fun e=>[aI e.1,aB e.2]:=by
 rw[ZL,List.zip_map'];simp
theorem ql5(l:List (Int×Bool))(k h):onL (l.take (k+1))=onL (l.take k)++(if l[k].2=true then [l[k].1] else []):=by
 rw[yb h,onL,List.filter_append,q9]
 grind
theorem Ki{ds nm p l}(h:j8 ds nm p = .ok l)(B)(hB:∀ d,(kD ds 0).E p = .ok d->d.ts.length<=B):l.length<=B:=by
 obtain⟨d,i,_,g⟩:=mM h;have:=congrArg List.length g
 grind
theorem ql6(x N n a b)(U:OkMa x N)(hk:n.sD=[a,b])(ih:IH x N n)(p)(hp:OkP x N p)(hq:bd p n) :
  qR qb 182 [eMa x,ePl p,eNd n] (endE (bX (j8 [den x a,den x b] n.name p) fun l => .ok ⟨1,(l.filter fun e=>e.2).map fun e=>e.1⟩)):=by
 refine za.of_sound ?_;refine qSW call182 func182 rfl {} ?_;have r:=Kg x N n a b U hk ih p hp hq;have wx:=wk3 x p n;simp[go_sem];cases hE:j8 [den x a,den x b] n.name p with
 |error e =>
  rw[hE]at r;refine fZ r wx ?_;simp[go_sem,zB];exact .hf _ (qL _)
 |ok l =>
  rw[hE]at r;have hl:l.length<=8000:=Ki hE 8000 fun d h=>((ih a (by rw[hk];simp) p hp zOm).G d h).len U.n0 (aJ U)
  have I:=Ke 1 (l.map Prod.fst) (l.map Prod.snd) zSp zSo;rw[Kh]at I;rw[UC]at r;refine tC r.toP wx ?_;generalize insC 1 (l.map Prod.fst) (l.map Prod.snd)=C at *
  simp[go_sem,zw];refine tD I (fun j M=>RelM M 1 (onL (l.take j))) (fun _ _=>False) ?_ ?_ ?_ ?_ ?_ ?_
  .exact ⟨.lst true [],zSi,zSi,.inl ⟨rfl,rfl⟩,by simp[qj],by simp[qj]⟩
  .grind [RelM.push]
  .grind
  .rintro j y M hj ⟨av,J,g1,o,R,n1⟩
   rw[zf,jK]at hj;obtain⟨t,ht,rfl⟩:=hj;obtain⟨a0,a1⟩:=qg.1 ht;have g:=ql5 l j a0;rw[a1]at g;refine⟨rfl,?_⟩;cases T:t.2 with
   |true =>
    rw[if_pos T]at g;have a5:(onL (l.take j)).length<=8000:=by
     rw[onL,zK];exact zt (List.length_filter_le _ _) zSo
    simp[go_sem,g1];refine aN (e:=3) (bt:=8) (z:=0) zSi zSi zSi zOm o.v zOm ?_;intro a6 a7 i a2 a3 a4;obtain⟨k1,k2⟩:=RelM.step J g1 R n1 i a2 a3 a4;simp[go_sem,k1,i.v.one,i.v.cells]
    grind [tM]
   |false =>
    rw[if_neg (by rw[T];simp),zF]at g;simp[go_sem];refine tM ?_;rw[g];exact⟨av,J,g1,o,R,n1⟩
  .rintro M ⟨av,J,g1,o,R,n1⟩
   rw[zK,qO]at o;have P:∀ c,(M.set 0 c)[0]?=some c:=fun c=>qI (qg.1 J).1
   simp[go_sem,J,g1,P,o.v.one];refine aD (o.v.same fun b T=>?_);rw[yu (fun e=>R (by rw[e];exact T))]
  grind
end F5
namespace F6
open Y1 Y10 P1 YF E3 EA EO EP EQ ER EW F1 F2 F3 F4 F5
section
variable {nm:tG}{env:List (tG×Int)}{st:St}{Q:qQ->St->Prop}
theorem backU(l):qd qb 216 [lPm l] (.fn (.func 247) [] [.ip [lPm l]]):=by
 refine qSU call216 func216 rfl ?_;exact .hf _ (HF.fn zSp (by simp;exact yU (vZ _)))
def Q0(l:List (tG×Int)):List (List AV):=(qq l.length).map fun k:Nat=>[aI ((l.length-1-k:Nat):Int),.agg (cPm (l.getD (l.length-1-k) (⟨#[]⟩,0)))]
theorem ql7(l)(hl:l.length<=1000000000):y5 qb 247 [.ip [lPm l]] (Q0 l):=by
 refine y5.of call247 fun i I Ix hS hX hY C h0=>?_
 refine qSW call247 func247 rfl {} ?_;have a0:(Q0 l).length=l.length:=by simp[Q0]
 have w0:qm.wrap ((l.length:Int)-1)=(l.length:Int)-1:=zWr;simp[go_sem,w0];refine kT l.length (fun k U=>U.tm 0 = .yl i/\U.tm 1 = .ip [lPm l]/\U.tm 3=aI ((l.length:Int)-1-k)/\I k U.mu) ?_ ?_
 .simp [go_sem, *]
 rintro k U hk ⟨T,e1,t,hI⟩;by_cases g:k<l.length
 .have hj:((l.length:Int)-1-k)=((l.length-1-k:Nat):Int):=by omega
  have o:l.length-1-k<l.length:=zOm;have hw:qm.wrap (((l.length-1-k:Nat):Int)-1)=(l.length:Int)-1-((k+1:Nat):Int):=by grind [zL]
  have p:(0:Int)<=((l.length-1-k:Nat):Int):=zOm;have r:(Q0 l)[k]?=some [aI ((l.length-1-k:Nat):Int),.agg (cPm l[l.length-1-k])]:=by
   rw[Q0,zf,uL g];simp[zC,qw o]
  rw[hj]at t;generalize l.length-1-k=j at *
  simp[go_sem,T,e1,t,p,o];refine qc.yield (hY _ _ _ r hI) ?_;rintro b a1 (⟨rfl,J⟩|⟨rfl,P⟩)
  .simp [go_sem,t,hw]
   exact⟨g,aK ⟨zS1 T,zS1 e1,zSi,zVs J⟩⟩
  .simp [go_sem]
   exact .inr P
 .have R:k=l.length:=by omega
  subst R;rw[show (l.length:Int)-1-l.length = -1 by omega]at t;simp[go_sem, *]
theorem Kj(nm):∀(l:List (tG×Int))(r),(∀ e,e∈l->e.1≠nm)->l.foldl (fun r e=>if e.1=nm then some e.2 else r) r=r
 | [],r,_=>rfl
 |e :: l,r,h=>by rw[List.foldl_cons,if_neg (h e zSp)];exact Kj nm l r fun x g=>h x (zP1 g)
theorem ql8(h:∀ e,e∈env->e.1≠nm):ZF nm env=none:=Kj nm env none h
theorem ql9{j}(g)(i:env[j].1=nm)(h:∀ e,e∈env.drop (j+1)->e.1≠nm):ZF nm env=some env[j].2:=by
 have e:env=env.take j++env[j] :: env.drop (j+1):=by rw[<-zm g,vS]
 unfold ZF
 conv=>lhs;rw[e]
 rw[vy,List.foldl_cons,if_pos i];exact Kj nm _ _ h
theorem qmA(fs:List Fld)(g:List Rl)(nm k h)(i:k<g.length):vI (fs.take (k+1)) (g.take (k+1)) nm=vI (fs.take k) (g.take k) nm++(if fs[k].name=nm then [g[k]] else []):=by
 unfold vI;rw[yb h,yb i,List.zip_append zSo,List.filterMap_append];congr 1;by_cases e:fs[k].name=nm<;>simp[e]
theorem mX(fs g nm):(vI fs g nm).length<=fs.length:=by
 grind [vI,zt,List.length_filterMap_le,List.length_zip]
def Za(x:Mo)(nm:tG)(i:Nat)(s:tG×Bool):List Rl:=(if s.1=nm then [⟨1,zx x i⟩] else [])++((if s.2=true/\s.1++y6=nm then [⟨1,(zx x i).take 1⟩] else [])++(if s.2=true/\s.1++jR=nm then [⟨2,wW x i⟩] else []))
theorem mY(x nm):∀ a b i,y7 x nm i (a++b)=y7 x nm i a++y7 x nm (i+a.length) b
 | [],b,i=>rfl
 |s :: a,b,i=>by
  rw[yw,y7,y7,mY x nm a b (i+1),zz,show i+1+a.length=i+(a.length+1) by omega];simp only[zy]
theorem mZ(x nm)(so:List (tG×Bool))(k h):y7 x nm 0 (so.take (k+1))=y7 x nm 0 (so.take k)++Za x nm k so[k]:=by
 rw[yb h,mY,List.length_take,Nat.min_eq_left zOm,z7,y7];simp[Za,y7]
theorem qmB(x nm i s):(Za x nm i s).length<=3:=by
 grind [Za,qX]
theorem m5(x nm)(so:List (tG×Bool)):∀ k,k<=so.length->(y7 x nm 0 (so.take k)).length<=3*k
 | 0,_=>by simp[y7]
 |k+1,h=>by
  rw[mZ x nm so k zOm,qX];have:=m5 x nm so k zOm;have:=qmB x nm k so[k];omega
theorem qmC(sc)(i:Nat):tupR sc [(i:Int)] 0=(qq (gI sc.sC i).toNat).map fun k:Nat=>sumI (sc.sC.take i)+k:=by
 rw[tupR];simp only[tupR,Int.zero_mul,Int.zero_add,show (i:Int).toNat=i by omega];exact List.map_eq_flatMap.symm
theorem cK{i d L x}(g:Rd (cutM (fun j=>decide (L<=j)) st.mu 0) (st.tm d) x)(k:Q (.exit i) (st.put (some d) x (cutM (fun j=>!decide (L<=j)) st.mu 0))):FzQ Q (.exit i) st:=by
 refine⟨_,⟨fun j=>decide (L<=j),rfl,fun j=>?_⟩,trivial,k⟩;simp only[St.put];split
 .rename_i h;subst h;exact .rd _ _ g
 .exact .same _
def bR:Nat->Int
 | 0=>0
 |k+1=>bR k*20+20
theorem bR_ok:∀ k,k<=3->bR k<=100000
 | 0,_=>zDe
 | 1,_=>zDe
 | 2,_=>zDe
 | 3,_=>zDe
def ub(n:Int)(tuple:List Int):Int:=tuple.foldl (fun o t=>o*n+t) 0
theorem qmD(n)(tuple:List Int)(k h):ub n (tuple.take (k+1))=ub n (tuple.take k)*n+tuple[k]:=by
 rw[List.take_add_one,qw h,ub,ub,vy];rfl
theorem rankU(sc)(g:GSc sc)(tuple)(ht:tuple.length<=3)(hd:∀ d,d∈tuple->0<=d/\d<sumI sc.sC):qd qb 218 [eSc sc,lI tuple] (aI (ub (sumI sc.sC) tuple)):=by
 refine qSV call218 func218 rfl ?_;simp[go_sem,show ¬(3:Int)<tuple.length by omega];refine tC (Yh sc g) (.zk (zA sc) .nil) ?_;have o:=g.sum sc.sC.length;rw[qO]at o;generalize sumI sc.sC=n at *
 simp[go_sem];refine qh.up tuple.length (fun k U=>U.tm 5=aI n/\U.tm 14=lI tuple/\U.tm 15=aI tuple.length/\U.tm 6=aI (ub n (tuple.take k))/\U.tm 16=aI k/\U.mu=[]/\0<=ub n (tuple.take k)/\ub n (tuple.take k)<=bR k) ?_ ?_
 .simp [go_sem,ub,bR]
 rintro k U hk ⟨P,p,j,R,l,T,t,C⟩;by_cases i:k<tuple.length
 .have I:=hd _ (qn i)
  have hs:=qmD n tuple k i;have hb:=bR_ok k zOm;have a0:bR (k+1)=bR k*20+20:=rfl;generalize a1:ub n (tuple.take k)=r at *
  have m0:0<=r*n:=Int.mul_nonneg t zOm;have m1:r*n<=bR k*20:=jq C zOm zOm zOm;have hw:qm.wrap (n-1)=n-1:=zWr;simp[go_sem,P,p,j,l,T,i,hw];refine tC (Yl tuple[k] 0 (n-1)) (.zs (.zs (.zs .nil))) ?_;simp[go_sem,P,p,j,R,l,i,I.1,show tuple[k]<=n-1 by omega];rw[hs,zL (n:=r*n) zOm zOm,zL (n:=r*n+tuple[k]) zOm zOm,zL (n:=(k:Int)+1) zOm zOm];omega
 .have J:k=tuple.length:=by omega
  subst J;simp[go_sem,j,R,l,T];exact .zsc _
theorem BrS.join{P pl b A B K}(J)(j:b=true->awp P pl A (seqQ (fun st=>Keep J .mk st) Q) st)(l:b=false->awp P pl B (seqQ (fun st=>Keep J .mk st) Q) st)(o:∀ st,J st->K st) :
  BrS b (awp P pl A (seqQ K Q)) (awp P pl B (seqQ K Q)) st:=by
 refine tK (fun h=>awp.mono A (j h) fun e st g=>?_) (fun h=>awp.mono B (l h) fun e st g=>?_)
 all_goals cases e with
  |normal=>exact o st g
  |exit i=>exact g
  |ret=>exact g
  |pan v=>exact g
theorem cA{b p q}(J:St->Prop)(h:J st)(k:∀ st,J st->BrS b p q st):BrS b p q st:=k st h
def FndM(mu:Mu)(s:AV)(F:List Rl):Prop:=mu[0]?=some (.arr [aI 0,.lst true []])/\Own mu 2 s (F.map cRel)/\qj s≠some 0
theorem cP{full}(l):WK (.lst full (l.map rI)) (lI l):=WK.lst fun r g c i=>by
 obtain⟨n,_,rfl⟩:=qi.1 g
 grind [HF.sc]
structure SInv (x:Mo) (nm sn:tG) (sb:Bool) (k c d:Nat) (F:List Rl) (st:St):Prop where
 e0:st.tm 0=eMa x
 e5:st.tm 5 = .ip [aS nm]
 e6:st.tm 6 = .ptr 0 0
 e13:st.tm 13 = .ptr c 0
 e14:st.tm 14 = .ptr d 0
 e65:st.tm 65=lSo x.ts.sS
 e66:st.tm 66=aI x.ts.sS.length
 e67:st.tm 67=aI k
 g0:st.mu[0]?=some (.arr [aI 0,.lst true []])
 gc:st.mu[c]?=some (.arr [aS sn,aB sb])
 gd:st.mu[d]?=some (.arr [aI 1,lI (zx x k)])
 ho:Own st.mu 2 (st.tm 9) (F.map cRel)
 n0:qj (st.tm 9)≠some 0
 nc:qj (st.tm 9)≠some c
 nd:qj (st.tm 9)≠some d
structure SNew (c d:Nat) (F:List Rl) (av:AV) (mu:Mu):Prop where
 g0:mu[0]?=some (.arr [aI 0,.lst true []])
 ho:Own mu 2 av (F.map cRel)
 n0:qj av≠some 0
 nc:qj av≠some c
 nd:qj av≠some d
theorem SInv.app{t o}(P:qE qb t=some (100,2,32))(j:(qE qb o).isSome=true){x nm C I k c d F st}(h:SInv x nm C I k c d F st)(hl:F.length<=100)(r){J}(R:qz st.mu J=some [cRel r]){K}
  (T:∀ av mu',SNew c d (F++[r]) av mu'->mu'[c]?=some (.arr [aS C,aB I])->mu'[d]?=some (.arr [aI 1,lI (zx x k)])->K av mu'):qu qb st.mu #[t,o] (st.tm 9) J K:=by
 have U:=(qg.1 h.gc).1;have ld:=(qg.1 h.gd).1;have l0:=(qg.1 h.g0).1;refine qu.ownB (e:=100) (sz:=2) (bt:=32) (zv := .agg [aI 0,.lst true []]) (xs:=F.map cRel) (ys:=[cRel r]) P j zSi rfl rfl zOm zOm h.ho R (vh _) (vh [r]) zSo ?_;intro l mu' a0 j a1 a2;refine T l mu' ⟨by rw[j 0 l0 h.n0];exact h.g0,by grind,fun e=>by grind,fun e=>by grind,fun e=>by grind⟩ (by rw[j c U h.nc];exact h.gc) (by rw[j d ld h.nd];exact h.gd)
theorem appR{t o}(I:qE qb t=some (100,2,32))(j:(qE qb o).isSome=true){mu s F}(h:FndM mu s F)(hl:F.length<=100)(r){C}(J:qz mu C=some [cRel r]){K}
  (P:∀ av mu',FndM mu' av (F++[r])->K av mu'):qu qb mu #[t,o] s C K:=by
 have R:=(qg.1 h.1).1;refine qu.ownB (e:=100) (sz:=2) (bt:=32) (zv := .agg [aI 0,.lst true []]) (xs:=F.map cRel) (ys:=[cRel r]) I j zSi rfl rfl zOm zOm h.2.1 J (vh _) (vh [r]) zSo ?_;intro l mu' T j U a0;exact P l mu' ⟨by rw[j 0 R h.2.2];exact h.1,by grind,fun e=>by grind⟩
theorem qmE(x N)(hM:OkMa x N)(nm p)(hp:OkP x N p)(hq:p.env.length<=1000000) :
  qR qb 183 [eMa x,ePl p,aS nm] (endE (Yg x p nm)):=by
 refine za.of_sound ?_;refine qSW call183 func183 rfl {} ?_;have dt:=zN x;generalize hE:Yg x p nm=E;unfold Yg at hE;simp[go_sem];refine fR (backU p.env) (.zk (vZ _) .nil) ?_;refine tD (ql7 p.env zOm) (fun k M=>(∃ o,M = .arr [aI 0,.lst true []] :: o)/\∀ e,e∈p.env.drop (p.env.length-k)->e.1≠nm) (fun e M=>e = .ret/\∃ a o,ZF nm p.env=some a/\M = .arr [aI 1,.lst true [[aI a]]] :: o) ?_ ?_ ?_ ?_ ?_ ?_
 .simp_all [qA,yw]
 .simp
 .grind
 .rintro k y M hk ⟨⟨o,rfl⟩,h⟩
  have bs:k<p.env.length:=by
   grind [qg,Q0]
  have a8:p.env.length-1-k<p.env.length:=zOm;rw[Q0,zf,uL bs]at hk;simp only[zg,qr,zC,qw a8,Option.getD_some]at hk;subst hk;have bu:p.env.length-k=p.env.length-1-k+1:=zOm;rw[bu]at h;have b7:=fun he=>ql9 a8 he h
  have C:p.env.drop (p.env.length-(k+1))=p.env[p.env.length-1-k] :: p.env.drop (p.env.length-1-k+1):=by
   grind [zm]
  generalize hb:p.env[p.env.length-1-k]=b at *
  refine⟨rfl,?_⟩;by_cases he:b.1=nm
  .simp [go_sem,he]
   exact tM ⟨rfl,b.2,_,b7 he,rfl⟩
  .simp [go_sem,u5,he]
   refine tM ⟨⟨_,rfl⟩,fun e hm=>?_⟩;rw[C]at hm;rcases qt.1 hm with rfl|hm
   .exact he
   grind
 .rintro M ⟨⟨o,rfl⟩,h⟩
  have bv:ZF nm p.env=none:=ql8 fun e hm=>h e (by simpa[Q0] using hm)
  rw[bv]at hE;simp only at hE;obtain⟨bw,ca⟩:=hM.st p.st hp.st;have ao:p.st<x.m.sK.length:=zW2 hM.len hp.st;have cb:x.m.sK.getD p.st []=x.m.sK[p.st]:=by rw[zC,qw ao];rfl
  have du:=hM.ts.nf;have dv:=hM.ts.ns;have b8:=mX x.ts.sA (x.m.sK.getD p.st []) nm;rw[cb]at hE bw ca b8;generalize cc:x.m.sK[p.st]=rs at *
  simp[go_sem];refine kT x.ts.sA.length (fun k U=>U.tm 0=eMa x/\U.tm 4 = .ip (cPl p)/\U.tm 5 = .ip [aS nm]/\U.tm 6 = .ptr 0 0/\U.tm 34=lFl x.ts.sA/\U.tm 35=aI x.ts.sA.length/\U.tm 36=aI k/\FndM U.mu (U.tm 9) (vI (x.ts.sA.take k) (rs.take k) nm)) ?_ ?_
  .exact ⟨zSi,zSi,zSi,zSi,zSi,zSi,zSi,zSi,.inl (by simp[go_sem,vI]),by simp[go_sem,qj]⟩
  rintro k U hk ⟨e0,e4,e5,e6,af,a9,ag,g0,ho,hn⟩;by_cases J:k<x.ts.sA.length
  .have aa:k<rs.length:=by omega
   have w1:=zWk k;have hs:=qmA x.ts.sA rs nm k J aa;have dw:(vI (x.ts.sA.take k) (rs.take k) nm).length<=6:=zt (mX _ _ _) zSo;have l0:0<U.mu.length:=(qg.1 g0).1;by_cases he:x.ts.sA[k].name=nm
   .rw [if_pos he]at hs
    simp[go_sem,e5,af,a9,ag,J,he];refine cZ zKr ?_;simp[go_sem,e0,e4,ao,cc,aa];refine qu.ownB (e:=100) (sz:=2) (bt:=32) (zv := .agg [aI 0,.lst true []]) (xs:=(vI (x.ts.sA.take k) (rs.take k) nm).map cRel) (ys:=[cRel rs[k]]) zSi zSi zSi rfl rfl zOm zOm (Own.push ho _) (by simp[qz]) (vh _) (vh [rs[k]]) zSo ?_;intro ah a3 ab ax b9 cd;have k0:a3[0]?=some (.arr [aI 0,.lst true []]):=by
     grind
    have m0:qj ah≠some 0:=fun e=>by grind
    simp[go_sem,ag,J,w1];refine aK ⟨zS1 e0,zS1 e4,zS1 e5,zS1 e6,zS1 af,zS1 a9,zSi,zVs k0,?_,zVs m0⟩;simp[go_sem, *]
   .rw [if_neg he,zF]at hs
    simp[go_sem,u5,e5,af,a9,ag,J,he,w1];refine aK ⟨zS1 e0,zS1 e4,zS1 e5,zS1 e6,zS1 af,zS1 a9,zSi,?_,?_,zVs hn⟩
    .grind [qA,qG]
    simp_all[go_sem,Own.push]
  .have ai:k=x.ts.sA.length:=by omega
   rw[zO zOm,zO zOm]at ho;generalize vI x.ts.sA rs nm=F at *
   simp[go_sem,e0,a9,ag,ai];refine fB x.ts.sS.length (fun k=>Keep (fun U=>U.tm 0=eMa x/\U.tm 5 = .ip [aS nm]/\U.tm 6 = .ptr 0 0/\U.tm 65=lSo x.ts.sS/\U.tm 66=aI x.ts.sS.length/\U.tm 67=aI k/\FndM U.mu (U.tm 9) (F++y7 x nm 0 (x.ts.sS.take k))) .mk) ?_ ?_
   .exact aK ⟨zS1 e0,zS1 e5,zS1 e6,zSi,zSi,zSi,zVs g0,by simpa[go_sem,y7] using ho,zVs hn⟩
   rintro k U hk ⟨e0,e5,e6,bb,ay,az,g0,ho,hn⟩;have dx:=m5 x nm x.ts.sS k hk;by_cases J:k<x.ts.sS.length
   .have w1:=zWk k
    have hs:=mZ x nm x.ts.sS k J;have bc:=hM.ts.sl _ (qn J);have be:k<x.m.sc.sC.length:=zW1 hM.al;have a5:=nR x.m.sc hM.gsc hM.pos [(k:Int)] (fun s hs=>by rw[qT]at hs;omega) zSp zSp;rw[qmC]at a5;have cf:zx x k=(qq (gI x.m.sc.sC k).toNat).map fun j:Nat=>sumI (x.m.sc.sC.take k)+j:=rfl
    rw[<-cf]at a5;have cg:WKs [eSc x.m.sc,.lst true [rI k]] [eSc x.m.sc,lI [(k:Int)]] := .zk (zA _) (.cons (cP [(k:Int)]) .nil);generalize ch:x.ts.sS[k]=so at *
    obtain⟨T,sb⟩:=so;have cj:T.size<=9223372036854775801:=by simp at bc;omega
    have ck:T.size<=9223372036854775802:=by simp at bc;omega
    generalize hF:F++y7 x nm 0 (x.ts.sS.take k)=F0 at *
    have aq:F++y7 x nm 0 (x.ts.sS.take (k+1))=F0++Za x nm k (T,sb):=by rw[hs,<-hF,zy]
    have dy:F0.length<=18:=by rw[<-hF,qX];omega
    have l0:0<U.mu.length:=(qg.1 g0).1;simp[go_sem,e0,bb,ay,az,J,ch];refine tC a5 cg ?_;simp[go_sem,u5,e5];generalize hL:U.mu.length=L at *
    have ar:∀ b,qj (U.tm 9)=some b->b<L:=fun b hb=>zW1 (Own.lt ho hb)
    have b0:∀ c,Own (U.mu++c) 2 (U.tm 9) (F0.map cRel):=fun c=>Own.push ho c
    have aj:U.mu[0]'(qg.1 g0).1 = .arr [aI 0,.lst true []]:=(qg.1 g0).2;have dz:∀ c:List Cell,(U.mu++c)[0]?=some (.arr [aI 0,.lst true []]):=fun c=>by rw[zGa];exact g0
    have cl:∀ A B:Cell,(U.mu++[A,B])[L]?=some A:=fun A B=>by rw[zE zOm,hL];simp
    have cm:∀ A B:Cell,(U.mu++[A,B])[L+1]?=some B:=fun A B=>by rw[zE zOm,hL];simp
    refine cA (SInv x nm T sb k L (L+1) F0) ⟨zS1 e0,zS1 e5,zS1 e6,zSi,zSi,zS1 bb,zS1 ay,zS1 az,by simp[go_sem,List.getElem_append_left,hL,l0,aj],zS1 cl,zS1 cm,by simp[go_sem,b0],zS1 hn,fun e=>?_,fun e=>?_⟩ fun st0 h0=>?_
    .have:=ar L (zVs e);omega
    .have:=ar (L+1) (zVs e);omega
    refine BrS.join (SInv x nm T sb k L (L+1) (F0++if T=nm then [⟨1,zx x k⟩] else [])) ?_ ?_ ?_
    .intro C
     have C:=of_decide_eq_true C;rw[if_pos C];simp[go_sem,h0.e14,h0.gd];refine h0.app zSi zSi zOm ⟨1,zx x k⟩ (by simp[qz]) fun t a3 P b1 b2=>?_
     simp[go_sem];refine aK ?_;exact⟨by simp[go_sem,h0.e0],by simp[go_sem,h0.e5],by simp[go_sem,h0.e6],by simp[go_sem,h0.e13],by simp[go_sem,h0.e14],by simp[go_sem,h0.e65],by simp[go_sem,h0.e66],by simp[go_sem,h0.e67],P.g0,b1,b2,P.ho,P.n0,P.nc,P.nd⟩
    .intro C
     have C:=of_decide_eq_false C;rw[if_neg C,zF];simp[go_sem];exact aK h0
    intro st1 I;have e1:(F0++if T=nm then [(⟨1,zx x k⟩:Rl)] else []).length<=19:=by rw[qX];split<;>simp only[zz,List.length_nil]<;>omega
    cases sb with
    |false =>
     have cn:F0++Za x nm k (T,false)=F0++if T=nm then [⟨1,zx x k⟩] else []:=by simp[Za]
     rw[<-cn,<-aq]at I;simp[go_sem,I.e13,I.e67,I.gc,w1,J];exact aK ⟨by simp[go_sem,I.e0],by simp[go_sem,I.e5],by simp[go_sem,I.e6],by simp[go_sem,I.e65],by simp[go_sem,I.e66],zSi,by simpa[go_sem] using I.g0,by simpa[go_sem] using I.ho,by simpa[go_sem] using I.n0⟩
    |true =>
    generalize bg:(F0++if T=nm then [⟨1,zx x k⟩] else [])=F1 at *
    have ds:(zx x k).length<=100:=by
     obtain⟨u0,u1⟩:=hM.gsc.sum (k+1);obtain⟨v0,v1⟩:=hM.gsc.sum k;rw[uw _ _ be]at u1;unfold zx;rw[zK,List.length_range,uu be];omega
    simp[go_sem,u5,I.e5,I.e13,I.gc,cj];refine cA (SInv x nm T true k L (L+1) F1) ⟨by simp[go_sem,I.e0],by simp[go_sem,I.e5],by simp[go_sem,I.e6],by simp[go_sem,I.e13],by simp[go_sem,I.e14],by simp[go_sem,I.e65],by simp[go_sem,I.e66],by simp[go_sem,I.e67],I.g0,I.gc,I.gd,I.ho,I.n0,I.nc,I.nd⟩ fun st2 h2=>?_
    refine BrS.join (SInv x nm T true k L (L+1) (F1++if T++y6=nm then [⟨1,(zx x k).take 1⟩] else [])) ?_ ?_ ?_
    .intro C
     have C:=of_decide_eq_true C;have C:T++y6=nm:=by rw[C];rfl
     rw[if_pos C];obtain⟨m,cp,cq,cr⟩:∃ m:Nat,(if ((zx x k).length:Int)<1 then ((zx x k).length:Int) else 1)=m/\m<=(zx x k).length/\(zx x k).take m=(zx x k).take 1:=by
      by_cases hz:(zx x k).length=0
      .exact ⟨0,by rw[if_pos zOm,hz],zOm,by rw[List.length_eq_zero_iff.1 hz];rfl⟩
      .exact ⟨1,zIn,zOm,rfl⟩
     have cs:WKs [.lst false (((zx x k).map rI).take m)] [lI ((zx x k).take 1)] := .cons (by rw[<-List.map_take,cr];exact .hf (zh _)) .nil;simp[go_sem,h2.e14,h2.gd,cp,cq];refine⟨⟨_,_,⟨rfl,rfl⟩,(yk _).ok⟩,?_⟩;refine tC (clipI ((zx x k).take 1)) cs ?_;generalize (zx x k).take 1=T1 at *
     simp[go_sem];refine h2.app zSi zSi zOm ⟨1,T1⟩ (by simp[qz]) fun t a3 P b1 b2=>?_
     simp[go_sem];refine aK ?_;exact⟨by simp[go_sem,h2.e0],by simp[go_sem,h2.e5],by simp[go_sem,h2.e6],by simp[go_sem,h2.e13],by simp[go_sem,h2.e14],by simp[go_sem,h2.e65],by simp[go_sem,h2.e66],by simp[go_sem,h2.e67],P.g0,b1,b2,P.ho,P.n0,P.nc,P.nd⟩
    .intro C
     have C:=of_decide_eq_false C;have C:¬T++y6=nm:=fun e=>C (by rw[<-e];rfl)
     rw[if_neg C,zF];simp[go_sem];exact aK h2
    intro st3 h3;have e2:(F1++if T++y6=nm then [(⟨1,(zx x k).take 1⟩:Rl)] else []).length<=20:=by rw[qX];split<;>simp only[zz,List.length_nil]<;>omega
    have a4:F++y7 x nm 0 (x.ts.sS.take (k+1))=(F1++if T++y6=nm then [⟨1,(zx x k).take 1⟩] else [])++(if T++jR=nm then [⟨2,wW x k⟩] else []):=by
     rw[aq,<-bg];simp[Za]
    generalize (F1++if T++y6=nm then [⟨1,(zx x k).take 1⟩] else [])=F2 at *
    simp[go_sem,u5,h3.e5,h3.e13,h3.gc,ck];refine cA (SInv x nm T true k L (L+1) F2) ⟨by simp[go_sem,h3.e0],by simp[go_sem,h3.e5],by simp[go_sem,h3.e6],by simp[go_sem,h3.e13],by simp[go_sem,h3.e14],by simp[go_sem,h3.e65],by simp[go_sem,h3.e66],by simp[go_sem,h3.e67],h3.g0,h3.gc,h3.gd,h3.ho,h3.n0,h3.nc,h3.nd⟩ fun a6 R=>?_
    refine tK ?_ ?_
    .intro C
     have C:=of_decide_eq_true C;have C:T++jR=nm:=by rw[C];rfl
     rw[if_pos C]at a4;have gl:=(qg.1 R.gd).1;have hA:∀(z:List Cell)(i:Nat),i<a6.mu.length->(a6.mu++z)[i]?=a6.mu[i]?:=fun z i hi=>qG hi
     obtain⟨A,a7⟩:∃ A,A=a6.mu:=⟨_,rfl⟩;rw[<-a7]at hA gl;have b3:∀ z:List Cell,(A++z)[L+1]?=some (.arr [aI 1,lI (zx x k)]):=fun z=>by rw[hA z _ gl,a7];exact R.gd
     have ct:∀(c:Cell)(z:List Cell),(A++c :: z)[A.length]?=some c:=fun c z=>by rw[zE (qo _)];simp
     have cu:∀(c d:Cell)(z:List Cell),(A++c :: z).set A.length d=A++d :: z:=fun c d z=>by rw[List.set_append_right _ _ (qo _)];simp
     have cv:∀ b,qj (a6.tm 9)=some b->b<A.length:=fun b hb=>by rw[a7];exact Own.lt R.ho hb
     have bh:∀ j,j<(zx x k).length-1->∃ u v:Int,(zx x k)[j]?=some u/\(zx x k)[j+1]?=some v/\(0<=u/\u<x.n)/\(0<=v/\v<x.n)/\(wW x k)[j]?=some (u*x.n+v):=by
      intro j hj;obtain⟨a0,a1,a2⟩:=hM.at0 k J;have e3:(zx x k).length=(gI x.m.sc.sC k).toNat:=by simp[zx]
      refine⟨sumI (x.m.sc.sC.take k)+j,sumI (x.m.sc.sC.take k)+((j+1:Nat):Int),?_,?_,⟨zOm,zOm⟩,⟨zOm,zOm⟩,?_⟩
      .rw [zx,zf,uL zOm];rfl
      .rw [zx,zf,uL zOm];rfl
      .rw [wW,zf,uL zOm]
       simp only[zg,qr];congr 1;omega
     have e7:(wW x k).length=(zx x k).length-1:=by simp[wW,zx]
     generalize e8:zx x k=al at *
     generalize e9:wW x k=nx at *
     simp[go_sem,<-a7];refine fB (al.length-1) (fun j=>Keep (fun U=>∃ t o,U.mu=A++(.arr [aI 2,t] :: o)/\OwnI U.mu t (nx.take j)/\(∀ b,qj t=some b->A.length<b)/\U.tm 0=eMa x/\U.tm 5 = .ip [aS nm]/\U.tm 6 = .ptr 0 0/\U.tm 9=a6.tm 9/\U.tm 14 = .ptr (L+1) 0/\U.tm 15 = .ptr A.length 0/\U.tm 16=aI ((j:Int)+1)/\U.tm 65=lSo x.ts.sS/\U.tm 66=aI x.ts.sS.length/\U.tm 67=aI k) .mk) ?_ ?_
     .exact aK ⟨.lst true [],[],zSi,.inl ⟨rfl,zSp⟩,by simp[qj],by simp[go_sem,R.e0],by simp[go_sem,R.e5],by simp[go_sem,R.e6],zSi,by simp[go_sem,R.e14],zSi,zSi,by simp[go_sem,R.e65],by simp[go_sem,R.e66],by simp[go_sem,R.e67]⟩
     rintro j ea hj ⟨t,o,ak,ad,b4,i0,i5,i6,i9,an,b5,i16,bi,bj,bk⟩;by_cases a8:j<al.length-1
     .have hc:(j:Int)+1<al.length:=by omega
      obtain⟨u,v,hu,hv,cw,cx,cy⟩:=bh j a8;obtain⟨cz,da⟩:=qg.1 hu;obtain⟨db,dc⟩:=qg.1 hv;obtain⟨dd,de⟩:=qg.1 cy;have wj:qm.wrap (j:Int)=j:=zWr;have df:qm.wrap ((j:Int)+1+1)=(j:Int)+1+1:=zWr;have aa:=rankU x.m.sc hM.gsc [u,v] zSp (fun d C=>by
       rcases qt.1 C with rfl|C
       .exact cw
       .rw [qT]at C;subst C;exact cx)
      have dh:ub (sumI x.m.sc.sC) [u,v]=u*x.n+v:=by simp[ub,Mo.n]
      rw[dh]at aa;have di:WKs [eSc x.m.sc,.lst true [[aI u],[aI v]]] [eSc x.m.sc,lI [u,v]] := .zk (zA _) (.cons (cP [u,v]) .nil);simp[go_sem,an,i16,ak,b3,hc];refine fD [0,1,2,3,4,5,6,7,8,9,10,11,12,13,14,15,16,17,18,22,19,20,21,23] [(0,0,[]),(1,0,[]),(2,0,[]),(3,0,[]),(4,0,[]),(5,0,[]),(6,0,[]),(7,0,[]),(8,0,[]),(9,0,[]),(10,0,[]),(11,0,[]),(12,0,[]),(13,0,[]),(14,0,[]),(15,0,[]),(16,0,[]),(17,0,[]),(18,0,[]),(22,0,[]),(19,1,[1]),(20,0,[]),(21,1,[]),(23,1,[])] zKr zKr zSi ?_;simp[go_sem,i0,an,b5,i16,b3,hc,wj,cz,da,db,dc,show (0:Int)<=(j:Int)+1 by omega];refine fR aa di ?_;rw[ak]at ad;refine aN (e:=3) (bt:=8) (z:=0) (l:=nx.take j) zSi zSi zSi zOm ad.v zSo ?_;intro ah a3 ab ax cd b9;have bm:A.length<(A++(.arr [aI 2,t] :: o)).length:=zSp;have dj:a3=A++(.arr [aI 2,t] :: a3.drop (A.length+1)):=by
       apply jy;intro i;by_cases hi:i<A.length
       .rw [qG hi,ax i zOm (fun e=>zW1 (b4 i e)),qG hi]
       .rw [zE zOm]
        by_cases dk:i=A.length
        .subst dk
         rw[ax _ bm (fun e=>zW1 (b4 _ e)),zE (qo _)];simp
        .obtain ⟨q,hq⟩:∃ q,i-A.length=q+1:=⟨i-A.length-1,zOm⟩
         rw[hq,vw,List.getElem?_drop];congr 1;omega
      have au:∀ b,qj ah=some b->A.length<b:=fun b hb=>zW1 (b9 b hb)
      rw[dj]at ab ⊢;generalize a3.drop (A.length+1)=b6 at *
      simp[go_sem,i16,cu,ab.v.one,ab.v.cells,df];refine⟨a8,aK ⟨ah,b6,zSi,?_,au,zS1 i0,zS1 i5,zS1 i6,zS1 i9,zS1 an,zS1 b5,zSi,zS1 bi,zS1 bj,zS1 bk⟩⟩;simp only[qA];rw[yb dd,de];refine ab.same fun b hb=>?_
      have:=au b hb;rw[zE zOm,zE zOm];obtain⟨q,hq⟩:∃ q,b-A.length=q+1:=⟨b-A.length-1,zOm⟩;rw[hq,vw,vw]
     .have ai:j=al.length-1:=by omega
      have hc:¬(j:Int)+1<al.length:=zOm;rw[zO zOm]at ad;simp[go_sem,an,i16,ak,b3,hc];have dm:(A++(.arr [aI 2,t] :: o))[A.length]?=some (.arr [aI 2,t]):=ct _ _;rw[ak]at ad;generalize dn:A++(.arr [aI 2,t] :: o)=MM at *
      have ae:∀ i,A.length<=i->(cutM (fun j=>decide (A.length<=j)) MM 0)[i]?=MM[i]?:=fun i hi=>by
       rw[js,z7];cases MM[i]?<;>simp[hi]
      have aw:∀ i,i<A.length->(cutM (fun j=>!decide (A.length<=j)) MM 0)[i]?=A[i]?:=fun i hi=>by
       rw[js,z7,<-dn,qG hi];cases A[i]?<;>simp<;>omega
      have dp:0<A.length:=zOm;have bn:FndM (cutM (fun j=>!decide (A.length<=j)) MM 0) (a6.tm 9) F2:=by
       refine⟨by rw[aw 0 dp,a7];exact R.g0,?_,R.n0⟩;rcases R.ho with h|⟨b,h,dq⟩
       .exact .inl h
       .refine .inr ⟨b,h,?_⟩
        rw[aw b (cv b (by rw[h];rfl)),a7];exact dq
      refine cK (d:=15) (L:=A.length) (x := .ip (cRel ⟨2,nx⟩)) ?_ ?_
      .simp only[qA,gC,b5]
       refine .ptr A.length 0 [aI 2,t] _ (by rw[ae _ (qo _)];exact dm) zSp fun k u v hu hv=>?_
       match k with
       | 0=>simp at hu hv;subst hu;subst hv;exact .zsc _
       | 1 =>
        simp at hu hv;subst hu;subst hv;exact(ad.v.same fun b hb=>ae b (zW1 (b4 b hb))).rd
       |k+2=>simp at hv
      .simp [go_sem,i9]
       refine appR (F:=F2) zSi zSi bn zOm ⟨2,nx⟩ (by simp[qz]) fun eb ec bo=>?_
       rw[<-a4]at bo;obtain⟨z0,z1,z2⟩:=bo;simp[go_sem,bk,w1,J];exact aK ⟨zS1 i0,zS1 i5,zS1 i6,zS1 bi,zS1 bj,zSi,z0,z1,z2⟩
    .intro C
     have C:=of_decide_eq_false C;have C:¬T++jR=nm:=fun e=>C (by rw[<-e];rfl)
     rw[if_neg C,zF]at a4;rw[<-a4]at R;simp[go_sem,R.e67,w1,J];exact aK ⟨by simp[go_sem,R.e0],by simp[go_sem,R.e5],by simp[go_sem,R.e6],by simp[go_sem,R.e65],by simp[go_sem,R.e66],zSi,by simpa[go_sem] using R.g0,by simpa[go_sem] using R.ho,by simpa[go_sem] using R.n0⟩
   .have ai:k=x.ts.sS.length:=by omega
    subst ai;rw[qO]at ho;generalize F++y7 x nm 0 x.ts.sS=F0 at *
    simp[go_sem,ay,az];refine FzQ.ownB (d:=9) (sz:=2) (av:=U.tm 9) (xs:=F0.map cRel) zSi ho (vh _) (fun r hr c hc=>by obtain⟨q,_,rfl⟩:=qi.1 hr;exact Zy q c hc) fun a3 full hl hs=>?_
    have aj:a3[0]?=some (.arr [aI 0,.lst true []]):=(hs 0 hn).trans g0;have bq:∀ c,(a3.set 0 c)[0]?=some c:=fun c=>qI (qg.1 aj).1
    match F0,hE with
    | [],hE =>
     simp only[JH]at hE;subst hE;simp[go_sem];refine fZ (uZ 40) (wkI 40) ?_;simp[go_sem];exact .hf _ (qL _)
    | [r],hE =>
     simp only[JH]at hE;subst hE;simp[go_sem,e6,aj,bq];exact .hf _ (qK r)
    |r :: s :: F1,hE =>
     have dr:¬(F1.length:Int)+1+1=0:=zOm;have br:¬(F1.length:Int)+1+1=1:=zOm;simp only[JH]at hE;subst hE;simp[go_sem,dr,br];refine fZ (uZ 44) (wkI 44) ?_;simp[go_sem];exact .hf _ (qL _)
 .rintro e M ⟨rfl,a,o,h2,rfl⟩
  rw[h2]at hE;simp only at hE;subst hE;simp[go_sem];refine .agg _ _ rfl fun k u v hu hv=>?_
  match k with
  | 0=>simp at hu hv;subst hu;subst hv;exact .zsc _
  | 1=>simp at hu hv;subst hu;subst hv;exact .wk _ true _ (.hf _ (HF.lst fun r hr c hc=>by simp at hr;subst hr;simp at hc;subst hc;exact HF.sc _))
  |k+2=>simp at hu
end
end F6
namespace F7
open Y1 P2 E1 E3 EA EO EP EQ ET F1 F2 F3 F4 F5 F6
theorem yf(a b v es i):zj qb 3 (.sc (.int .i64 a)) ((.sc (.int .i64 b),v) :: es) i=if a=b then some (some i) else zj qb 3 (.sc (.int .i64 a)) es (i+1):=by
 have h:jA qb 3 (.sc (.int .i64 a)) (.sc (.int .i64 b))=some (decide (a=b)):=keyI.eq a b trivial trivial
 grind [zj]
def RelN(mu:Mu)(g:Int)(l:List Int):Prop:=∃ t,mu[0]?=some (.arr [aI 0,.lst true []])/\mu[2]?=some (.arr [aI g,t])/\OwnI mu t l/\qj t≠some 0/\qj t≠some 2
theorem RelN.step{mu mu':Mu}{j av g l}(I:mu[0]?=some (.arr [aI 0,.lst true []]))(o:mu[2]?=some (.arr [aI j,av]))(J:qj av≠some 0)(P:qj av≠some 2)(p:OwnI mu' g l)
  (R:∀ i,i<mu.length->qj av≠some i->mu'[i]?=mu[i]?) (T:mu.length<=mu'.length) (U:∀ b,qj g=some b->b=mu.length):mu'[2]?=some (.arr [aI j,av])/\RelN (mu'.set 2 (.arr [aI j,g])) j l:=by
 have l1:2<mu.length:=(qg.1 o).1;have r:qj g≠some 0:=fun e=>by grind
 have t:qj g≠some 2:=fun e=>by grind
 refine⟨by grind,g,by grind,by grind,p.same fun b C=>?_,r,t⟩
 grind
theorem uc{f:Nat}{l A E}(h:qR qb f l (endE A))(e:A=E):qR qb f l (endE E):=e ▸ h
theorem exprX(x N n)(J:WfN n)(C:OkMa x N)(P:IH x N n)(p)(I:OkP x N p)(R:bd p n) :
  qR qb 131 [eMa x,ePl p,eNd n] (endE ((den x n).E p)):=by
 refine za.of_sound ?_;refine qSW call131 func131 rfl {} ?_;have ab:=zN x;have o:=wk3 x p n;rw[Um];simp only[opD];generalize i:opE x n.op n.name n.n (n.sD.map (den x)) p=E;unfold opE at i;by_cases o6:n.op=6
 .obtain ⟨a,b,l⟩:=jh J zOm
  have g:=qlO x N n a b C l P p I R;rw[o6,l]at i;replace g:=uc g i;cases E with
  |error e =>
   simp[go_sem,o6,yf];refine fZ g o ?_;simp[go_sem];exact .hf _ (qL _)
  |ok r =>
   simp[go_sem,o6,yf];refine fR g.toP o ?_;exact .hf _ (qK _)
 by_cases o7:n.op=7
 .obtain ⟨a,b,l⟩:=jh J zOm
  have g:=qlP x N n a b C l P p I R;rw[o7,l]at i;replace g:=uc g i;cases E with
  |error e =>
   simp[go_sem,o7,yf];refine fZ g o ?_;simp[go_sem];exact .hf _ (qL _)
  |ok r =>
   simp[go_sem,o7,yf];refine fR g.toP o ?_;exact .hf _ (qK _)
 by_cases o8:n.op=8
 .obtain ⟨a,b,l⟩:=jh J zOm
  have g:=diffX x N n a b C l P p I R;rw[o8,l]at i;replace g:=uc g i;cases E with
  |error e =>
   simp[go_sem,o8,yf];refine fZ g o ?_;simp[go_sem];exact .hf _ (qL _)
  |ok r =>
   simp[go_sem,o8,yf];refine fR g.toP o ?_;exact .hf _ (qK _)
 by_cases T:n.op=14
 .obtain ⟨a,b,l⟩:=jh J zOm
  have g:=overX x N n a b C l P p I R;rw[T,l]at i;replace g:=uc g i;cases E with
  |error e =>
   simp[go_sem,T,yf];refine fZ g o ?_;simp[go_sem];exact .hf _ (qL _)
  |ok r =>
   simp[go_sem,T,yf];refine fR g.toP o ?_;exact .hf _ (qK _)
 by_cases o9:n.op=9
 .obtain ⟨a,b,l⟩:=jh J zOm
  have g:=joinX x N n a b C l P p I R;rw[o9,l]at i;replace g:=uc g i;cases E with
  |error e =>
   simp[go_sem,o9,yf];refine fZ g o ?_;simp[go_sem];exact .hf _ (qL _)
  |ok r =>
   simp[go_sem,o9,yf];refine fR g.toP o ?_;exact .hf _ (qK _)
 by_cases a0:n.op=10
 .obtain ⟨a,b,l⟩:=jh J zOm
  have g:=qlQ x N n a b C l P p I R;rw[a0,l]at i;replace g:=uc g i;cases E with
  |error e =>
   simp[go_sem,a0,yf];refine fZ g o ?_;simp[go_sem];exact .hf _ (qL _)
  |ok r =>
   simp[go_sem,a0,yf];refine fR g.toP o ?_;exact .hf _ (qK _)
 by_cases a1:n.op=11
 .obtain ⟨a,l⟩:=vL J zOm
  have g:=qlS x N n a C l P p I R;rw[a1,l]at i;replace g:=uc g i;cases E with
  |error e =>
   simp[go_sem,a1,yf];refine fZ g o ?_;simp[go_sem];exact .hf _ (qL _)
  |ok r =>
   simp[go_sem,a1,yf];refine fR g.toP o ?_;exact .hf _ (qK _)
 by_cases a2:n.op=12
 .obtain ⟨a,l⟩:=vL J zOm
  have g:=mQ x N n a C l P p I R;rw[a2,l]at i;replace g:=uc g i;cases E with
  |error e =>
   simp[go_sem,a2,yf];refine fZ g o ?_;simp[go_sem];exact .hf _ (qL _)
  |ok r =>
   simp[go_sem,a2,yf];refine fR g.toP o ?_;exact .hf _ (qK _)
 by_cases a3:n.op=13
 .obtain ⟨a,l⟩:=vL J zOm
  have g:=qlT x N n a C l P p I R;rw[a3,l]at i;replace g:=uc g i;cases E with
  |error e =>
   simp[go_sem,a3,yf];refine fZ g o ?_;simp[go_sem];exact .hf _ (qL _)
  |ok r =>
   simp[go_sem,a3,yf];refine fR g.toP o ?_;exact .hf _ (qK _)
 by_cases o5:n.op=5
 .obtain ⟨a,l⟩:=vL J zOm
  have g:=qlR x N n a C l P p I R;rw[o5,l]at i;replace g:=uc g i;cases E with
  |error e =>
   simp[go_sem,o5,yf];refine fZ g o ?_;simp[go_sem];exact .hf _ (qL _)
  |ok r =>
   simp[go_sem,o5,yf];refine fR g.toP o ?_;exact .hf _ (qK _)
 by_cases a4:n.op=15
 .obtain ⟨a,b,l⟩:=jh J zOm
  have g:=ql6 x N n a b C l P p I R;rw[a4,l]at i;replace g:=uc g i;cases E with
  |error e =>
   simp[go_sem,a4,yf];refine fZ g o ?_;simp[go_sem];exact .hf _ (qL _)
  |ok r =>
   simp[go_sem,a4,yf];refine fR g.toP o ?_;exact .hf _ (qK _)
 by_cases o1:n.op=1
 .have g:=qmE x N C n.name p I zOm
  have wn:WKs [eMa x,ePl p,aS n.name] [eMa x,ePl p,aS n.name] := .zk ab (.zk (Up p) (.zs .nil));rw[o1]at i;replace g:=uc g i;cases E with
  |error e =>
   simp[go_sem,o1,yf];refine fZ g wn ?_;simp[go_sem];exact .hf _ (qL _)
  |ok r =>
   simp[go_sem,o1,yf];refine fR g.toP wn ?_;exact .hf _ (qK _)
 by_cases o2:n.op=2
 .rw [o2]at i
  replace i:Except.ok ⟨n.n,[]⟩=E:=i;subst i;simp[go_sem,o2,yf];exact Yk
 by_cases o3:n.op=3
 .rw [o3]at i
  replace i:Except.ok ⟨1,(qq x.n.toNat).map fun k:Nat=>(k:Int)⟩=E:=i;subst i;have h0:=C.n0;have ad:=C.n12;obtain⟨m,hm⟩:=Int.eq_ofNat_of_zero_le h0;simp[go_sem,o3,yf];rw[hm]at ad;refine kT m (fun k U=>U.tm 6 = .ptr 0 0/\U.tm 10 = .ptr 2 0/\U.tm 47=aI m/\U.tm 48=aI k/\RelN U.mu 1 ((qq k).map fun k:Nat=>(k:Int))) ?_ ?_
  .exact ⟨zSi,zSi,zS1 hm,zSi,.lst true [],zSi,zSi,.inl ⟨rfl,rfl⟩,by simp[qj],by simp[qj]⟩
  rintro k U l ⟨e6,a5,a6,a7,t,g0,g2,ho,n0,n2⟩;by_cases a9:k<m
  .have w1:=zWk k
   simp[go_sem,a5,a6,a7,a9,g2];refine aN (e:=3) (bt:=8) (z:=0) zSi zSi zSi zOm ho.v zSo ?_;intro ai j a8 ae af ag;obtain⟨k1,k2⟩:=RelN.step g0 g2 n0 n2 a8 ae af ag;simp[go_sem,a5,a7,a9,k1,a8.v.one,a8.v.cells,w1];refine aK ⟨zS1 e6,zS1 a5,zS1 a6,zSi,?_⟩;rw[List.range_succ,q9];exact k2
  .have ah:k=m:=by omega
   subst ah;have aa:∀ c,(U.mu.set 0 c)[0]?=some c:=fun c=>qI (qg.1 g0).1
   rw[hm];simp[go_sem,e6,a5,a6,a7,g0,g2,aa,ho.v.one];refine aD (ho.v.same fun b hb=>?_);rw[yu (fun e=>n0 (by rw[e];exact hb))]
 by_cases o4:n.op=4
 .rw [o4]at i
  replace i:Except.ok (idR x.n)=E:=i;subst i;simp[go_sem,o4,yf];refine fR (mR x.n C.n0 C.n12) (.zs .nil) ?_;exact .hf _ (qK _)
 have i:Except.error 43=E:=by
  rw[<-i];rw[if_neg o1,if_neg o2,if_neg o3,if_neg o4,if_neg o5,if_neg o6,if_neg o7,if_neg o8,if_neg o9,if_neg a0,if_neg a1,if_neg a2,if_neg a3,if_neg T,if_neg a4]
 subst i;simp[go_sem,o1,o2,o3,o4,o5,o6,o7,o8,o9,a0,a1,a2,a3,T,a4,yf];refine fZ (uZ 43) (wkI 43) ?_;simp[go_sem];exact .hf _ (qL _)
end F7
namespace F8
open Y1 P2 E1 E3 EA ER EY F1 F2 F3
theorem f30(x N n)(j:WfN n)(l:OkMa x N)(o:IH x N n)(p)(r:OkP x N p)(t:bd p n)(g:n.op=30):qR qb 84 [eMa x,ePl p,eNd n] (endB (Except.ok true)):=by
 refine za.of_sound ?_;refine qSW call84 func84 rfl {} ?_;have i:=zN x;simp[go_sem,g];exact .zsc _
theorem f31(x N n)(j:WfN n)(l:OkMa x N)(o:IH x N n)(p)(r:OkP x N p)(t:bd p n)(g:n.op=31):qR qb 84 [eMa x,ePl p,eNd n] (endB (Except.ok false)):=by
 refine za.of_sound ?_;refine qSW call84 func84 rfl {} ?_;have i:=zN x;simp[go_sem,g];exact .zsc _
theorem f32(x N n a b)(i:OkMa x N)(l:n.sD=[a,b])(o:IH x N n)(p)(t:OkP x N p)(T:bd p n)(C:n.op=32):qR qb 84 [eMa x,ePl p,eNd n] (endB ((bX (yz [den x a,den x b] p) fun q => .ok (decide ((diR q.1 q.2).ts=[]))))):=by
 refine za.of_sound ?_;refine qSW call84 func84 rfl {} ?_;have U:=zN x;have J:=wk3 x p n;generalize g:(bX (yz [den x a,den x b] p) fun q => .ok (decide ((diR q.1 q.2).ts=[])))=E;have j:=Yr x N n a b l o p t T;simp[go_sem,C];cases I:yz [den x a,den x b] p with
 |error e =>
  rw[I]at j g;subst g;refine fZ j J ?_;simp[go_sem,zB];exact .hf _ (qL _)
 |ok q =>
  obtain⟨r,s⟩:=q;obtain⟨P,R,h3⟩:=u7 I;simp only[kD,uj,List.getD_cons_succ]at P R;have gr:=(o a (by rw[l];simp) p t zOm).G _ P;have gs:=(o b (by rw[l];simp) p t zOm).G _ R;have lr:=gr.len i.n0 (aJ i);have ls:=gs.len i.n0 (aJ i);rw[I]at j g;rw[zw]at g;subst g;refine fR j.toP J ?_;refine fR (inU r s zOm zOm) (wkR2 r s) ?_;exact .zsc _
theorem f33(x N n a b)(i:OkMa x N)(l:n.sD=[a,b])(o:IH x N n)(p)(t:OkP x N p)(T:bd p n)(C:n.op=33):qR qb 84 [eMa x,ePl p,eNd n] (endB ((bX (yz [den x a,den x b] p) fun q => .ok (decide (q.1=q.2))))):=by
 refine za.of_sound ?_;refine qSW call84 func84 rfl {} ?_;have U:=zN x;have J:=wk3 x p n;generalize g:(bX (yz [den x a,den x b] p) fun q => .ok (decide (q.1=q.2)))=E;have j:=Yr x N n a b l o p t T;simp[go_sem,C];cases I:yz [den x a,den x b] p with
 |error e =>
  rw[I]at j g;subst g;refine fZ j J ?_;simp[go_sem,zB];exact .hf _ (qL _)
 |ok q =>
  obtain⟨r,s⟩:=q;obtain⟨P,R,h3⟩:=u7 I;simp only[kD,uj,List.getD_cons_succ]at P R;have gr:=(o a (by rw[l];simp) p t zOm).G _ P;have gs:=(o b (by rw[l];simp) p t zOm).G _ R;have lr:=gr.len i.n0 (aJ i);have ls:=gs.len i.n0 (aJ i);rw[I]at j g;rw[zw]at g;subst g;refine fR j.toP J ?_;refine fR (E4.qi4 r s zOm) (wkR2 r s) ?_;exact .zsc _
theorem f34(x N n a)(hM:OkMa x N)(t:n.sD=[a])(J:IH x N n)(p)(P:OkP x N p)(hq:bd p n)(g)(T:n.op=34/\g=(fun k=>decide (0<k))\/n.op=35/\g=(fun k=>decide (k=0))\/n.op=36/\g=(fun k=>decide (k=1))\/n.op=37/\g=fun k=>decide (k<=1)):qR qb 84 [eMa x,ePl p,eNd n] (endB ((bX ((den x a).E p) fun a => .ok (g a.ts.length)))):=by
 rcases T with ⟨o,rfl⟩|⟨o,rfl⟩|⟨o,rfl⟩|⟨o,rfl⟩
 all_goals
  refine za.of_sound ?_;refine qSW call84 func84 rfl {} ?_;have U:=zN x;have wx:=wk3 x p n;generalize i:bX ((den x a).E p) _=E;have j:=(J a (by rw[t];simp) p P zOm).E;have C:=wk3 x p a;simp[go_sem,o];refine fD [0,1,2,3,4,5,6,7,8,9] [(0,0,[]),(1,0,[]),(2,0,[]),(3,0,[]),(4,0,[]),(5,0,[]),(6,1,[]),(7,0,[]),(8,0,[]),(9,0,[])] zKr zKr zSi ?_;simp[go_sem,t];cases I:(den x a).E p with
  |error e =>
   rw[I]at j i;subst i;refine fZ j C ?_;simp[go_sem,zB];exact .hf _ (qL _)
  |ok r =>
   rw[I]at j i;rw[zw]at i;subst i;refine tC j.toP C ?_;obtain⟨ar,R⟩:=r;rcases R with _|⟨y,_|⟨z,l⟩⟩
   .simp [go_sem,o]
    exact .zsc _
   .simp [go_sem,o]
    exact .zsc _
   .have h1:(0:Int)<l.length+1+1:=by omega
    have h2:¬(l.length:Int)+1+1=1:=zOm;have h3:¬(l.length:Int)+1+1<=1:=zOm;have h4:¬(l.length:Int)+1+1=0:=zOm;simp[go_sem,o,h1,h2,h3,h4];exact .zsc _
theorem f38(x N n a b)(hM:OkMa x N)(j:n.sD=[a,b])(C:IH x N n)(p)(I:OkP x N p)(hq:bd p n)(g)(U:n.op=38/\g=(fun a b=>decide (a=b))\/n.op=39/\g=fun a b=>decide (a<b)):qR qb 84 [eMa x,ePl p,eNd n] (endB ((bX ((den x a).N p) fun a=>bX ((den x b).N p) fun b => .ok (g a b)))):=by
 rcases U with ⟨o,rfl⟩|⟨o,rfl⟩
 all_goals
  refine za.of_sound ?_;refine qSW call84 func84 rfl {} ?_;have a0:=zN x;have wx:=wk3 x p n;generalize i:bX ((den x a).N p) _=E;have l:=(C a (by rw[j];simp) p I zOm).N;have t:=(C b (by rw[j];simp) p I zOm).N;have J:=wk3 x p a;have P:=wk3 x p b;simp[go_sem,o];refine fD [0,1,2,3,4,5,7,8,9,10,11,12,6,13,14,15] [(0,0,[]),(1,0,[]),(2,0,[]),(3,0,[]),(4,0,[]),(5,0,[]),(7,0,[]),(8,0,[]),(9,0,[]),(10,0,[]),(11,0,[]),(12,0,[]),(6,1,[8,10,12]),(13,1,[]),(14,0,[]),(15,0,[])] zKr zKr zSi ?_;simp[go_sem,j];cases R:(den x a).N p with
  |error e =>
   rw[R]at l i;subst i;refine fZ l J ?_;simp[go_sem,zB];exact .hf _ (qL _)
  |ok r =>
   rw[R]at l i;rw[zw]at i;refine tC l.toP J ?_;simp[go_sem,j];cases T:(den x b).N p with
   |error e =>
    rw[T]at t i;subst i;refine fZ t P ?_;simp[go_sem,zB];exact .hf _ (qL _)
   |ok s =>
    rw[T]at t i;rw[zw]at i;subst i;refine fR t.toP P ?_;exact .zsc _
theorem f40(x N n a)(P:OkMa x N)(l:n.sD=[a])(C:IH x N n)(p)(I:OkP x N p)(R:bd p n)(j:n.op=40):qR qb 84 [eMa x,ePl p,eNd n] (endB ((bX ((den x a).F p) fun a => .ok (!a)))):=by
 refine za.of_sound ?_;refine qSW call84 func84 rfl {} ?_;have J:=zN x;have T:=wk3 x p n;generalize g:(bX ((den x a).F p) fun a => .ok (!a))=E;have i:=(C a (by rw[l];simp) p I zOm).F;have o:=wk3 x p a;simp[go_sem,j];refine fD [0,1,2,3,4,5,6,7,8] [(0,0,[]),(1,0,[]),(2,0,[]),(3,0,[]),(4,0,[]),(5,0,[]),(6,1,[]),(7,0,[]),(8,0,[])] zKr zKr zSi ?_;simp[go_sem,l];cases t:(den x a).F p with
 |error e =>
  rw[t]at i g;subst g;refine fZ i o ?_;simp[go_sem,zB];exact .hf _ (qL _)
 |ok r =>
  rw[t]at i g;rw[zw]at g;subst g;refine fR i.toP o ?_;exact .zsc _
theorem f41(x N n a b)(hM:OkMa x N)(j:n.sD=[a,b])(C:IH x N n)(p)(I:OkP x N p)(hq:bd p n)(g)(U:n.op=41/\g=(fun a b=>a&&b)\/n.op=42/\g=(fun a b=>a||b)\/n.op=43/\g=(fun a b=>!a||b)\/n.op=44/\g=fun a b=>decide (a=b)):qR qb 84 [eMa x,ePl p,eNd n] (endB ((bX ((den x a).F p) fun a=>bX ((den x b).F p) fun b => .ok (g a b)))):=by
 rcases U with ⟨o,rfl⟩|⟨o,rfl⟩|⟨o,rfl⟩|⟨o,rfl⟩
 all_goals
  refine za.of_sound ?_;refine qSW call84 func84 rfl {} ?_;have a0:=zN x;have wx:=wk3 x p n;generalize i:bX ((den x a).F p) _=E;have l:=(C a (by rw[j];simp) p I zOm).F;have t:=(C b (by rw[j];simp) p I zOm).F;have J:=wk3 x p a;have P:=wk3 x p b;simp[go_sem,o];refine fD [0,1,2,3,4,5,7,8,9,10,11,12,6,14,13,15] [(0,0,[]),(1,0,[]),(2,0,[]),(3,0,[]),(4,0,[]),(5,0,[]),(7,0,[]),(8,0,[]),(9,0,[]),(10,0,[]),(11,0,[]),(12,0,[]),(6,1,[8,10,12]),(14,0,[]),(13,1,[]),(15,0,[])] zKr zKr zSi ?_;simp[go_sem,j];cases R:(den x a).F p with
  |error e =>
   rw[R]at l i;subst i;refine fZ l J ?_;simp[go_sem,zB];exact .hf _ (qL _)
  |ok r =>
   rw[R]at l i;rw[zw]at i;refine tC l.toP J ?_;simp[go_sem,j];cases T:(den x b).F p with
   |error e =>
    rw[T]at t i;subst i;refine fZ t P ?_;simp[go_sem,zB];exact .hf _ (qL _)
   |ok s =>
    rw[T]at t i;rw[zw]at i;subst i;refine tC t.toP P ?_;cases r<;>cases s<;>simp[go_sem,o]<;>exact .zsc _
end F8
namespace E8
open E3 E7
theorem qmF{x N}(h:OkX x N){s}(i:s<N){t}(g:t∈x.path s):∃ k,it x k s=t:=by
 obtain⟨r,e,l⟩:=qiV h i;rw[e]at g;obtain⟨j,_,e⟩:=qi.1 g;exact⟨j,e⟩
end E8
namespace EB
end EB
namespace EK
open E3
theorem Kk{J j g}:∀{l:List J}{r:List j},mapX g l = .ok r->r.length=l.length
 | [],r,h=>by cases h;rfl
 |a :: l,r,h=>by
  rw[mapX]at h;cases o:g a with
  |error e=>rw[o]at h;cases h
  |ok b =>
   rw[o,zw]at h;cases i:mapX g l with
   |error e=>rw[i]at h;cases h
   |ok s =>
    rw[i,zw]at h;cases h;rw[zz,zz,Kk i]
end EK
namespace F9
open Y1 E3 E7 EA EL EO EP EW F1 F2 F3 F4 F5 F6
theorem f45(x N n a b)(I:OkMa x N)(U:n.sD=[a,b])(ih:IH x N n)(p)(hp:OkP x N p)(hq:bd p n)(i:n.op=45):qR qb 84 [eMa x,ePl p,eNd n] (endB (bX (j8 [den x a,den x b] n.name p) fun l => .ok (l.all fun e=>e.2))):=by
 refine za.of_sound ?_;refine qSW call84 func84 rfl {} ?_;have a0:=zN x;have o:=Kg x N n a b I U ih p hp hq;have wx:=wk3 x p n;simp[go_sem,i];cases J:j8 [den x a,den x b] n.name p with
 |error e =>
  rw[J]at o;refine fZ o wx ?_;simp[go_sem,zB];exact .hf _ (qL _)
 |ok l =>
  rw[J]at o;have hl:l.length<=8000:=Ki J 8000 fun d h=>((ih a (by rw[U];simp) p hp zOm).G d h).len I.n0 (aJ I)
  have r:=Ke 1 (l.map Prod.fst) (l.map Prod.snd) zSp zSo;rw[Kh]at r;rw[UC]at o;refine tC o.toP wx ?_;generalize insC 1 (l.map Prod.fst) (l.map Prod.snd)=C at *
  simp[go_sem,zw];refine tD r (fun j M=>∃ g,M = .arr [aB ((l.take j).any fun e=>e.2)] :: .arr [aB ((l.take j).all fun e=>e.2)] :: g) (fun _ _=>False) ?_ ?_ ?_ ?_ ?_ ?_
  .simp_all [qA,yw]
  .simp
  .grind
  .rintro j y M hj ⟨g,rfl⟩
   rw[zf,jK]at hj;obtain⟨t,ht,rfl⟩:=hj;obtain⟨P,R⟩:=qg.1 ht;have T:=yb P;rw[R]at T;refine⟨rfl,?_⟩;have ha:((l.take (j+1)).any fun e=>e.2)=((l.take j).any (fun e=>e.2)||t.2):=by rw[T,List.any_append];simp
   have hb:((l.take (j+1)).all fun e=>e.2)=((l.take j).all (fun e=>e.2)&&t.2):=by rw[T,List.all_append];simp
   generalize (l.take j).any (fun e=>e.2)=A at *
   generalize (l.take j).all (fun e=>e.2)=B at *
   cases A<;>cases B<;>cases t2:t.2
   all_goals simp[go_sem]
   all_goals refine tM ?_
   all_goals rw[ha,hb,t2]
   all_goals exact⟨_,rfl⟩
  .rintro M ⟨g,rfl⟩
   rw[zK,qO];generalize (l.any fun e=>e.2)=A at *
   generalize (l.all fun e=>e.2)=B at *
   cases A<;>cases B
   all_goals simp[go_sem,i]
   all_goals exact .zsc _
  grind
theorem f46(x N n a b)(I:OkMa x N)(U:n.sD=[a,b])(ih:IH x N n)(p)(hp:OkP x N p)(hq:bd p n)(i:n.op=46):qR qb 84 [eMa x,ePl p,eNd n] (endB (bX (j8 [den x a,den x b] n.name p) fun l => .ok (l.any fun e=>e.2))):=by
 refine za.of_sound ?_;refine qSW call84 func84 rfl {} ?_;have a0:=zN x;have o:=Kg x N n a b I U ih p hp hq;have wx:=wk3 x p n;simp[go_sem,i];cases J:j8 [den x a,den x b] n.name p with
 |error e =>
  rw[J]at o;refine fZ o wx ?_;simp[go_sem,zB];exact .hf _ (qL _)
 |ok l =>
  rw[J]at o;have hl:l.length<=8000:=Ki J 8000 fun d h=>((ih a (by rw[U];simp) p hp zOm).G d h).len I.n0 (aJ I)
  have r:=Ke 1 (l.map Prod.fst) (l.map Prod.snd) zSp zSo;rw[Kh]at r;rw[UC]at o;refine tC o.toP wx ?_;generalize insC 1 (l.map Prod.fst) (l.map Prod.snd)=C at *
  simp[go_sem,zw];refine tD r (fun j M=>∃ g,M = .arr [aB ((l.take j).any fun e=>e.2)] :: .arr [aB ((l.take j).all fun e=>e.2)] :: g) (fun _ _=>False) ?_ ?_ ?_ ?_ ?_ ?_
  .simp_all [qA,yw]
  .simp
  .grind
  .rintro j y M hj ⟨g,rfl⟩
   rw[zf,jK]at hj;obtain⟨t,ht,rfl⟩:=hj;obtain⟨P,R⟩:=qg.1 ht;have T:=yb P;rw[R]at T;refine⟨rfl,?_⟩;have ha:((l.take (j+1)).any fun e=>e.2)=((l.take j).any (fun e=>e.2)||t.2):=by rw[T,List.any_append];simp
   have hb:((l.take (j+1)).all fun e=>e.2)=((l.take j).all (fun e=>e.2)&&t.2):=by rw[T,List.all_append];simp
   generalize (l.take j).any (fun e=>e.2)=A at *
   generalize (l.take j).all (fun e=>e.2)=B at *
   cases A<;>cases B<;>cases t2:t.2
   all_goals simp[go_sem]
   all_goals refine tM ?_
   all_goals rw[ha,hb,t2]
   all_goals exact⟨_,rfl⟩
  .rintro M ⟨g,rfl⟩
   rw[zK,qO];generalize (l.any fun e=>e.2)=A at *
   generalize (l.all fun e=>e.2)=B at *
   cases A<;>cases B
   all_goals simp[go_sem,i]
   all_goals exact .zsc _
  grind
theorem m6(x):∀ f s acc,(wV x f s acc).length<=acc.length+f
 | 0,s,acc=>by simp[wV]
 |f+1,s,acc=>by
  simp only[wV];split
  .omega
  .have:=m6 x f (x.nx s) (acc++[s])
   rw[qX,List.length_singleton]at this;omega
theorem Kl(x:Mo)(s):(x.path s).length<=x.m.sK.length+1:=by
 grind [m6,Mo.path]
theorem UD{x N}(i:OkMa x N){p}(g:OkP x N p):∀ s,s∈x.path p.st->OkP x N ⟨s,p.env⟩:=fun s j=>by
 obtain⟨k,rfl⟩:=E8.qmF i.toOkX g.st j;exact⟨Xu i.toOkX g.st k,g.env⟩
theorem Km(l:List Bool):l.all id=!decide (false∈l):=by
 rw[jX];simp
theorem qmG(l:List Bool):l.any id=decide (true∈l):=by
 rw[jX];simp
theorem f48(x N n a)(o:OkMa x N)(r:n.sD=[a])(P:IH x N n)(p)(J:OkP x N p)(hq:bd p n)(t:n.op=48):qR qb 84 [eMa x,ePl p,eNd n] (endB (bX (mapX (fun s=>(den x a).F ⟨s,p.env⟩) (x.path p.st)) fun l => .ok (l.all id))):=by
 refine za.of_sound ?_;refine qSW call84 func84 rfl {} ?_;have i:=zN x;have hN:=o.N1;have hl:=o.len;have C:=X8 x N o p.st J.st;have R:=Kl x p.st;have I:WKs [eMa x,aI p.st] [eMa x,aI p.st] := .zk i (.zs .nil);have g:=mS x (x.path p.st) zOm p a fun s T=>P a (by rw[r];simp) _ (UD o J s T) (by grind)
 have j:WKs [eMa x,lN (x.path p.st),ePl p,eNd a] [eMa x,lN (x.path p.st),ePl p,eNd a] := .zk i (.cons (cP _) (.zk (Up p) (.zk (qJ a) .nil)));simp[go_sem,t];refine fD [0,1,2,3,5,6,7,8,9,4,10,11,12,13] [(0,0,[]),(1,0,[]),(2,0,[]),(3,0,[]),(5,0,[]),(6,0,[]),(7,0,[]),(8,0,[]),(9,0,[]),(4,1,[5,7,9]),(10,1,[]),(11,1,[]),(12,0,[]),(13,0,[])] zKr zKr zSi ?_;simp[go_sem,r];refine tC C I ?_;simp[go_sem,r];cases em:mapX (fun s=>(den x a).F ⟨s,p.env⟩) (x.path p.st) with
 |error e =>
  rw[em]at g;refine fZ g j ?_;simp[go_sem,zB];exact .hf _ (qL _)
 |ok l =>
  rw[em]at g;have U:l.length=(x.path p.st).length:=EK.Kk em;refine fR g.toP j ?_;refine tC (mT l false zOm) (.zk (JL l) (.zs .nil)) ?_;have hb:(l.all id)=!decide (false∈l):=Km l;generalize decide (false∈l)=B at *
  simp[go_sem,zw,hb];exact .zsc _
theorem f49(x N n a)(o:OkMa x N)(r:n.sD=[a])(P:IH x N n)(p)(J:OkP x N p)(hq:bd p n)(t:n.op=49):qR qb 84 [eMa x,ePl p,eNd n] (endB (bX (mapX (fun s=>(den x a).F ⟨s,p.env⟩) (x.path p.st)) fun l => .ok (l.any id))):=by
 refine za.of_sound ?_;refine qSW call84 func84 rfl {} ?_;have i:=zN x;have hN:=o.N1;have hl:=o.len;have C:=X8 x N o p.st J.st;have R:=Kl x p.st;have I:WKs [eMa x,aI p.st] [eMa x,aI p.st] := .zk i (.zs .nil);have g:=mS x (x.path p.st) zOm p a fun s T=>P a (by rw[r];simp) _ (UD o J s T) (by grind)
 have j:WKs [eMa x,lN (x.path p.st),ePl p,eNd a] [eMa x,lN (x.path p.st),ePl p,eNd a] := .zk i (.cons (cP _) (.zk (Up p) (.zk (qJ a) .nil)));simp[go_sem,t];refine fD [0,1,2,3,5,6,7,8,9,4,10,11,12] [(0,0,[]),(1,0,[]),(2,0,[]),(3,0,[]),(5,0,[]),(6,0,[]),(7,0,[]),(8,0,[]),(9,0,[]),(4,1,[5,7,9]),(10,1,[]),(11,1,[]),(12,0,[])] zKr zKr zSi ?_;simp[go_sem,r];refine tC C I ?_;simp[go_sem,r];cases em:mapX (fun s=>(den x a).F ⟨s,p.env⟩) (x.path p.st) with
 |error e =>
  rw[em]at g;refine fZ g j ?_;simp[go_sem,zB];exact .hf _ (qL _)
 |ok l =>
  rw[em]at g;have U:l.length=(x.path p.st).length:=EK.Kk em;refine fR g.toP j ?_;refine tC (mT l true zOm) (.zk (JL l) (.zs .nil)) ?_;have hb:(l.any id)=decide (true∈l):=qmG l;generalize decide (true∈l)=B at *
  simp[go_sem,zw,hb];exact .zsc _
theorem f50(x N n a)(g:OkMa x N)(j:n.sD=[a])(P:IH x N n)(p)(C:OkP x N p)(T:bd p n)(l:n.op=50):qR qb 84 [eMa x,ePl p,eNd n] (endB ((den x a).F ⟨x.nx p.st,p.env⟩)):=by
 refine za.of_sound ?_;refine qSW call84 func84 rfl {} ?_;have R:=zN x;have i:=(P a (by rw[j];simp) _ (OkP.nx g.toOkM C) (by grind)).F;have I:=wk3 x ⟨x.nx p.st,p.env⟩ a;have U:=g.N1;have hl:=g.len;have o:=Xv x g.loop zOm p.st (zW1 C.st);have t:WKs [eMd x.m,aI p.st] [eMd x.m,aI p.st] := .zk (zr x.m) (.zs .nil);simp[go_sem,l];refine fD [0,1,2,3,4,5,6,8,9,11,12,13,14,7,10,15,16] [(0,0,[]),(1,0,[]),(2,0,[]),(3,0,[]),(4,0,[]),(5,0,[]),(6,0,[]),(8,0,[]),(9,0,[]),(11,0,[]),(12,0,[]),(13,0,[]),(14,0,[]),(7,1,[9,12,14]),(10,0,[]),(15,1,[]),(16,0,[])] zKr zKr zSi ?_;simp[go_sem,j];refine tC o t ?_;simp[go_sem,j];cases J:(den x a).F ⟨x.nx p.st,p.env⟩ with
 |error e =>
  rw[J]at i;refine fZ i I ?_;simp[go_sem];exact .hf _ (qL _)
 |ok r =>
  rw[J]at i;refine fR i.toP I ?_;exact .zsc _
theorem f51(x N n a b)(g:OkMa x N)(i:n.sD=[a,b])(o:IH x N n)(p)(j:OkP x N p)(R:bd p n)(l:n.op=51):qR qb 84 [eMa x,ePl p,eNd n] (endB (untX (fun s=>(den x a).F ⟨s,p.env⟩) (fun s=>(den x b).F ⟨s,p.env⟩) (x.path p.st) false false)):=by
 refine za.of_sound ?_;refine qSW call84 func84 rfl {} ?_;have J:=zN x;have T:=g.N1;have U:=g.len;have P:=Kl x p.st;have t:=qlV x N n a b g i p j (fun s C=>⟨o a (by rw[i];simp) _ (UD g j s C) (by grind),o b (by rw[i];simp) _ (UD g j s C) (by grind)⟩) zOm;have I:=wk3 x p n;generalize untX (fun s=>(den x a).F ⟨s,p.env⟩) (fun s=>(den x b).F ⟨s,p.env⟩) (x.path p.st) false false=E at *
 simp[go_sem,l];cases E with
 |error e =>
  refine fZ t I ?_;simp[go_sem];exact .hf _ (qL _)
 |ok r =>
  refine fR t.toP I ?_;exact .zsc _
theorem f47(x N n)(hM:OkMa x N)(a0:n.sD.length<=1000000)(ih:IH x N n)(p)(hp:OkP x N p)(hq:bd p n)(J:n.op=47):qR qb 84 [eMa x,ePl p,eNd n] (endB (bX (mapX (fun d:Den=>d.E p) (n.sD.map (den x))) fun _ => .error 45)):=by
 refine za.of_sound ?_;refine qSW call84 func84 rfl {} ?_;have a1:=zN x;generalize T:mapX (fun d:Den=>d.E p) (n.sD.map (den x))=E;simp[go_sem,J];refine kT n.sD.length (fun k U=>∃ t,mapX (fun d:Den=>d.E p) ((n.sD.take k).map (den x)) = .ok t/\U.tm 0=eMa x/\U.tm 4 = .ip (cPl p)/\U.tm 282=lNd n.sD/\U.tm 283=aI n.sD.length/\U.tm 284=aI k) ?_ ?_
 .exact ⟨[],rfl,zSi,zSi,zSi,zSi,zSi⟩
 rintro k U hk ⟨t,C,e0,e4,o,g,i⟩;by_cases j:k<n.sD.length
 .have w1:=zWk k
  have I:=(ih n.sD[k] (qn j) p hp zOm).E;have hw:=wk3 x p n.sD[k];have l:=ZJ (l2:=(n.sD.drop k).map (den x)) C;rw[<-q9,vS,zm j,zT,mapX,T]at l;simp[go_sem,e0,e4,o,g,i,j];cases P:(den x n.sD[k]).E p with
  |error e =>
   rw[P]at I l;rw[zB,zB]at l;subst l;refine fZ I hw ?_;simp[go_sem,zB];exact .hf _ (qL _)
  |ok r =>
   rw[P]at I;refine tC I.toP hw ?_;simp[go_sem,i,w1];refine⟨j,aK ⟨t++[r],?_,zS1 e0,zS1 e4,by simp[go_sem,o],by simp[go_sem,g],zSi⟩⟩;rw[yb j,q9,ZJ C,zT,List.map_nil,mapX,P];rfl
 .have R:k=n.sD.length:=by omega
  subst R;rw[qO,T]at C;subst C;rw[zw];simp[go_sem,g,i];refine fZ (uZ 45) (wkI 45) ?_;simp[go_sem];exact .hf _ (qL _)
theorem fNo(x n p)(h:∀ k,(30<=k/\k<=51)->n.op≠k):qR qb 84 [eMa x,ePl p,eNd n] (endB (.error 43)):=by
 refine za.of_sound ?_;refine qSW call84 func84 rfl {} ?_;have a8:=zN x;have g:=h 30 zDe;have i:=h 31 zDe;have j:=h 32 zDe;have l:=h 33 zDe;have o:=h 34 zDe;have r:=h 35 zDe;have t:=h 36 zDe;have C:=h 37 zDe;have I:=h 38 zDe;have J:=h 39 zDe;have P:=h 40 zDe;have R:=h 41 zDe;have T:=h 42 zDe;have U:=h 43 zDe;have a0:=h 44 zDe;have a1:=h 45 zDe;have a2:=h 46 zDe;have a3:=h 47 zDe;have a4:=h 48 zDe;have a5:=h 49 zDe;have a6:=h 50 zDe;have a7:=h 51 zDe;simp[go_sem,g,i,j,l,o,r,t,C,I,J,P,R,T,U,a0,a1,a2,a3,a4,a5,a6,a7];refine fZ (uZ 43) (wkI 43) ?_;simp[go_sem];exact .hf _ (qL _)
end F9
namespace FA
open Y1 Y9 P2 E3 EA F1 F2 F3 F4 F7 F8 F9
theorem yN{f:Nat}{l A E}(h:qR qb f l (endB A))(e:A=E):qR qb f l (endB E):=e ▸ h
theorem qmH(x N n)(i:WfN n)(j:OkMa x N)(l:IH x N n)(p)(o:OkP x N p)(r:bd p n) :
  qR qb 84 [eMa x,ePl p,eNd n] (endB ((den x n).F p)):=by
 rw[Um];show qR _ _ _ (endB (opF x n.op n.name (n.sD.map (den x)) p));by_cases t:n.op=30
 .exact yN (f30 x N n i j l p o r t) (by rw[t];rfl)
 by_cases C:n.op=31
 .exact yN (f31 x N n i j l p o r C) (by rw[C];rfl)
 by_cases I:n.op=32
 .obtain ⟨a,b,g⟩:=jh i zOm
  exact yN (f32 x N n a b j g l p o r I) (by rw[I,g];rfl)
 by_cases J:n.op=33
 .obtain ⟨a,b,g⟩:=jh i zOm
  exact yN (f33 x N n a b j g l p o r J) (by rw[J,g];rfl)
 by_cases P:n.op=34
 .obtain ⟨a,g⟩:=vL i zOm
  exact yN (f34 x N n a j g l p o r _ (.inl ⟨P,rfl⟩)) (by rw[P,g];rfl)
 by_cases R:n.op=35
 .obtain ⟨a,g⟩:=vL i zOm
  exact yN (f34 x N n a j g l p o r _ (.inr (.inl ⟨R,rfl⟩))) (by rw[R,g];rfl)
 by_cases T:n.op=36
 .obtain ⟨a,g⟩:=vL i zOm
  exact yN (f34 x N n a j g l p o r _ (.inr (.inr (.inl ⟨T,rfl⟩)))) (by rw[T,g];rfl)
 by_cases U:n.op=37
 .obtain ⟨a,g⟩:=vL i zOm
  exact yN (f34 x N n a j g l p o r _ (.inr (.inr (.inr ⟨U,rfl⟩)))) (by rw[U,g];rfl)
 by_cases a0:n.op=38
 .obtain ⟨a,b,g⟩:=jh i zOm
  exact yN (f38 x N n a b j g l p o r _ (.inl ⟨a0,rfl⟩)) (by rw[a0,g];rfl)
 by_cases a1:n.op=39
 .obtain ⟨a,b,g⟩:=jh i zOm
  exact yN (f38 x N n a b j g l p o r _ (.inr ⟨a1,rfl⟩)) (by rw[a1,g];rfl)
 by_cases a2:n.op=40
 .obtain ⟨a,g⟩:=vL i zOm
  exact yN (f40 x N n a j g l p o r a2) (by rw[a2,g];rfl)
 by_cases a3:n.op=41
 .obtain ⟨a,b,g⟩:=jh i zOm
  exact yN (f41 x N n a b j g l p o r _ (.inl ⟨a3,rfl⟩)) (by rw[a3,g];rfl)
 by_cases a4:n.op=42
 .obtain ⟨a,b,g⟩:=jh i zOm
  exact yN (f41 x N n a b j g l p o r _ (.inr (.inl ⟨a4,rfl⟩))) (by rw[a4,g];rfl)
 by_cases a5:n.op=43
 .obtain ⟨a,b,g⟩:=jh i zOm
  exact yN (f41 x N n a b j g l p o r _ (.inr (.inr (.inl ⟨a5,rfl⟩)))) (by rw[a5,g];rfl)
 by_cases a6:n.op=44
 .obtain ⟨a,b,g⟩:=jh i zOm
  exact yN (f41 x N n a b j g l p o r _ (.inr (.inr (.inr ⟨a6,rfl⟩)))) (by rw[a6,g];rfl)
 by_cases a7:n.op=45
 .obtain ⟨a,b,g⟩:=jh i zOm
  exact yN (f45 x N n a b j g l p o r a7) (by rw[a7,g];rfl)
 by_cases a8:n.op=46
 .obtain ⟨a,b,g⟩:=jh i zOm
  exact yN (f46 x N n a b j g l p o r a8) (by rw[a8,g];rfl)
 by_cases a9:n.op=47
 .exact yN (f47 x N n j (zW1 i.small.len) l p o r a9) (by rw[a9];rfl)
 by_cases aa:n.op=48
 .obtain ⟨a,g⟩:=vL i zOm
  exact yN (f48 x N n a j g l p o r aa) (by rw[aa,g];rfl)
 by_cases ab:n.op=49
 .obtain ⟨a,g⟩:=vL i zOm
  exact yN (f49 x N n a j g l p o r ab) (by rw[ab,g];rfl)
 by_cases ad:n.op=50
 .obtain ⟨a,g⟩:=vL i zOm
  exact yN (f50 x N n a j g l p o r ad) (by rw[ad,g];rfl)
 by_cases ae:n.op=51
 .obtain ⟨a,b,g⟩:=jh i zOm
  exact yN (f51 x N n a b j g l p o r ae) (by rw[ae,g];rfl)
 refine yN (fNo x n p fun k g e=>?_) ?_
 .omega
 simp_all[opF,if_neg]
theorem evX(x N)(j:OkMa x N):∀ m n,szN n<=m->WfN n->∀ p,OkP x N p->bd p n->Ev3 x p n
 | 0,n,I,_,_,_,_=>by
  obtain⟨op,nm,i,ks,q⟩:=n;simp only[szN,Nd.mk.sizeOf_spec]at I;omega
 |m+1,n,I,l,p,g,o=>by
  have t:IH x N n:=fun k C p g o=>evX x N j m k (zW1 (ym C)) (l.kid C) p g (by have:=qlM C;show _+_<=_;omega)
  exact⟨exprX x N n l j t p g o,qlW x N n l j t p g o,qmH x N n l j t p g o,fun r h=>mN j.toOkM _ n (qo _) l p r g h⟩
end FA
namespace FB
open Y1 Y9 P2 YF E3 EA F1 F2 F3 FA
def outB:XE Bool->AV
 | .ok r => .tup [aB r,aI 0]
 | .error e => .tup [aB false,aI e]
theorem wkM(x:Mo):WKs [eTS x.ts,eMd x.m] [eTS x.ts,eMd x.m] := .zk (zl x.ts) (.zk (zr x.m) .nil)
theorem qmI(x N n)(o:WfN n)(i:OkMa x N)(p)(t:OkP x N p)(C:bd p n) :
  qd qb 37 [eTS x.ts,eMd x.m,aI p.st,lPm p.env,eNd n] (outB ((den x n).F p)):=by
 have hf:=(evX x N i (szN n) n (qo _) o p t C).F;have j:=wk3 x p n;generalize (den x n).F p=E at *
 refine qR.toP ?_;refine za.of_sound ?_;refine fL call37 func37 rfl (Nat.le_of_ble_eq_true zKr) zKr (pl:={}) ?_;simp[go_sem];refine tN (g:=82) (first:=[]) (caps:=[]) zSi call82 ?_;simp[go_sem];refine qe.tail 7 zKr ?_;simp[go_sem];refine fR (qjB x i.gsc) (wkM x) ?_;cases E with
 |error e =>
  refine fZ hf j ?_;simp[go_sem];refine yS.mono (qjD [.arr [aI 0]] 0 0 e rfl) ?_;rintro _ rfl;simp[go_sem];exact .hf _ (HF.tup (by simp only[qt,qF,or_false,forall_eq_or_imp,forall_eq];exact⟨HF.sc _,HF.sc _⟩))
 |ok r =>
  refine fR hf.toP j ?_;refine yS.mono (qjC [.arr [aI 0]] 0 0 rfl) ?_;rintro _ rfl;simp[go_sem];exact .hf _ (HF.tup (by simp only[qt,qF,or_false,forall_eq_or_imp,forall_eq];exact⟨HF.sc _,HF.sc _⟩))
end FB
namespace FC
open Y1 P2 YF E3 EO EP F1 F2 F3 F4 F6 F8 FB
def fmV:XE Bool->Bool×Int
 | .ok v=>(v,0)
 | .error e=>(false,e)
theorem qmJ(q):outB q = .tup [aB (fmV q).1,aI (fmV q).2]:=by cases q<;>rfl
def Zb(I:Nd->Nd×Int)(x:Mo):List Nd->Bool->Bool×Int
 | [],a=>(a,0)
 |b :: l,a=>if (I b).2≠0 then (false,(I b).2) else if (fmV ((den x (I b).1).F ⟨0,[]⟩)).2≠0 then (false,(fmV ((den x (I b).1).F ⟨0,[]⟩)).2) else Zb I x l (a&&(fmV ((den x (I b).1).F ⟨0,[]⟩)).1)
theorem J0(xs:List Nd):zc 5 (xs.map cNd):=fun r g=>by
 obtain⟨n,_,rfl⟩:=qi.1 g;exact⟨by cases n;rfl,Yb n⟩
theorem put6(a n):putCells [aS ⟨#[]⟩,aI 0,aS ⟨#[]⟩,aI 0,.lst true [],aI 0] 0 (aS a :: cNd n)=aS a :: cNd n:=by cases n;rfl
theorem qmK(x N)(hM:OkMa x N)(hN:0<N)(I n)(hl:x.ts.sP.length<=1000)(hI:∀ b,b∈x.ts.sP.map Prod.snd++[n]->qd qb 36 [eTS x.ts,eNd b] (.tup [eNd (I b).1,aI (I b).2])/\((I b).2=0->WfN (I b).1/\dN (I b).1<=999999)) :
  qd qb 11 [eTS x.ts,eMd x.m,eNd n] (.tup [aB (Zb I x (x.ts.sP.map Prod.snd++[n]) true).1,aI (Zb I x (x.ts.sP.map Prod.snd++[n]) true).2]):=by
 generalize hR:Zb I x (x.ts.sP.map Prod.snd++[n]) true=R;refine qSU call11 func11 rfl ?_;refine kT x.ts.sP.length (fun k U=>U.tm 3 = .ip (cTS x.ts)/\U.tm 4 = .ip (cMd x.m)/\U.tm 5 = .ip (cNd n)/\U.tm 8=aB true/\U.tm 18=lFa x.ts.sP/\U.tm 19=aI x.ts.sP.length/\U.tm 20=aI k/\Own U.mu 5 (U.tm 9) (((x.ts.sP.take k).map Prod.snd).map cNd)) ?_ ?_
 .exact ⟨zSi,zSi,zSi,zSi,zSi,zSi,zSi,.inl zSi⟩
 rintro k U hk ⟨e3,e4,e5,e8,T,o,t,ho⟩;by_cases l:k<x.ts.sP.length
 .have w1:=zWk k
  simp[go_sem,T,o,t,l,put6];refine qu.ownB (e:=35) (sz:=5) (bt:=64) (zv := .agg [aI 0,aS ⟨#[]⟩,aI 0,.lst true [],aI 0]) (xs:=((x.ts.sP.take k).map Prod.snd).map cNd) (ys:=[cNd x.ts.sP[k].2]) zSi zSi zSi rfl rfl zOm zOm (Own.push ho _) (by simp[qz]) (J0 _) (J0 [_]) zSo ?_;intro a0 j C _ _ _;simp[go_sem,t,l,w1];refine aK ⟨zS1 e3,zS1 e4,zS1 e5,zS1 e8,zS1 T,zS1 o,zSi,?_⟩;rw[yb l,q9,q9];simpa[go_sem] using C
 .have J:k=x.ts.sP.length:=by omega
  subst J;rw[qO]at ho;simp[go_sem,e5,o,t];refine qu.ownB (e:=35) (sz:=5) (bt:=64) (zv := .agg [aI 0,aS ⟨#[]⟩,aI 0,.lst true [],aI 0]) (xs:=(x.ts.sP.map Prod.snd).map cNd) (ys:=[cNd n]) zSi zSi zSi rfl rfl zOm zOm ho (by simp[qz]) (J0 _) (J0 [_]) zSo ?_;intro a0 j C _ _ _;have a1:Own j 5 a0 ((x.ts.sP.map Prod.snd++[n]).map cNd):=by rw[q9];exact C
  have a5:(x.ts.sP.map Prod.snd++[n]).length<=1001:=zSo;generalize x.ts.sP.map Prod.snd++[n]=L at *
  simp[go_sem];refine tA (aI L.length) (by rcases a1 with h|⟨b,h,_⟩<;>rw[h]<;>simp) ?_;simp[go_sem];refine qh.fz ?_;refine FzQ.ownB (d:=33) zSi a1 (J0 L) (fun r hr c hc=>?_) fun a6 full _ _=>?_
  .obtain ⟨b,_,rfl⟩:=qi.1 hr
   exact vj b c hc
  refine kT L.length (fun k U=>∃ a,U.tm 3 = .ip (cTS x.ts)/\U.tm 4 = .ip (cMd x.m)/\U.tm 8=aB a/\U.tm 33 = .lst full (L.map cNd)/\U.tm 34=aI L.length/\U.tm 35=aI k/\Zb I x (L.drop k) a=R) ?_ ?_
  .exact ⟨true,zS1 e3,zS1 e4,zS1 e8,zSi,zSi,zSi,hR⟩
  rintro k U hk ⟨a,f3,f4,f8,f33,f34,f35,hV⟩;by_cases l:k<L.length
  .have w1:=zWk k
   obtain⟨hi,a3⟩:=hI L[k] (qn l);rw[zm l,Zb]at hV;have wi:WKs [eTS x.ts,eNd L[k]] [eTS x.ts,eNd L[k]] := .zk (zl _) (.zk (qJ _) .nil);simp[go_sem,f3,f33,f34,f35,l];refine tC hi wi ?_;generalize a7:I L[k]=ib at *
   obtain⟨b',e'⟩:=ib;by_cases he:e'=0
   .subst he
    obtain⟨a4,a2⟩:=a3 rfl;replace a2:dN b'<=999999:=a2;rw[if_neg zSp]at hV;have hf:=qmI x N b' a4 hM ⟨0,[]⟩ ⟨hN,zSp⟩ (by show 0+_<=_;omega);have wf:WKs [eTS x.ts,eMd x.m,aI (0:Nat),.lst true [],eNd b'] [eTS x.ts,eMd x.m,aI (0:Nat),lPm [],eNd b'] := .zk (zl _) (.zk (zr _) (.zs (.cons (WK.lst fun r hr=>absurd hr qF) (.zk (qJ _) .nil))));rw[qmJ]at hf;simp only at hV;generalize fmV ((den x b').F ⟨0,[]⟩)=q at *
    obtain⟨v,e2⟩:=q;simp[go_sem,f3,f4];refine tC hf wf ?_;by_cases P:e2=0
    .subst P
     rw[if_neg zSp]at hV;cases a<;>cases v
     all_goals simp[go_sem,f8,f35,l,w1]
     all_goals exact aK ⟨_,zS1 f3,zS1 f4,zSi,by simp[go_sem,f33],by simp[go_sem,f34],zSi,hV⟩
    .rw [if_pos P]at hV
     subst hV;simp[go_sem,P];exact .hf _ (HF.tup (by simp only[qt,qF,or_false,forall_eq_or_imp,forall_eq];exact⟨HF.sc _,HF.sc _⟩))
   .rw [if_pos he]at hV
    subst hV;simp[go_sem,he];exact .hf _ (HF.tup (by simp only[qt,qF,or_false,forall_eq_or_imp,forall_eq];exact⟨HF.sc _,HF.sc _⟩))
  .have J:k=L.length:=by omega
   subst J;rw[yh,Zb]at hV;subst hV;simp[go_sem,f8,f34,f35];exact .hf _ (HF.tup (by simp only[qt,qF,or_false,forall_eq_or_imp,forall_eq];exact⟨HF.sc _,HF.sc _⟩))
end FC
end Go.Proofs.YtfednihcpihlgaaGreatDoor
