/-
  Own library, part 5: an abstract reading of values and a calculus over it; contracts of functions; plain lemmas.
-/
import Derived.Lib.ItoaLen
import Derived.Handed
import Derived.WideKeyArgs
import Derived.ProofKit
import Derived.OpenShut
import Derived.JoinedCond
import Derived.Test.YtlnbdknjkmmgbaaGreatDoorMd
set_option linter.unusedVariables false
set_option linter.unusedSimpArgs false
set_option maxRecDepth 100000
open Go renaming Program->qf,TypeId->j1,Oper->xe,undef->xc,FuncId->xa,World->uk,Value->us
open Go.Proofs.Tryz renaming prog->qb
open List renaming getElem?_eq_some_iff->qg,mem_map->qn,range->qp,getElem_mem->qq,mem_cons->qs,getElem?_set_self->qv,getElem?_append_left->qB,getElem?_eq_getElem->qC,not_mem_nil->qG,mem_append->qL,mem_of_getElem?->qN,mem_singleton->qO,mem_cons_of_mem->qP,mem_cons_self->qX,drop_eq_getElem_cons->qY,length_append->qZ,map_cons->zc,take_length->zi,getElem?_set_ne->zA,getElem?_map->zB,drop_length->zF,mem_range->zO,getElem?_append_right->zY,length_cons->yh,take_of_length_le->yr,length_map->yB,getD_eq_getElem?_getD->yI,mem_append_left->yQ,cons_append->yW,nil_append->jo,mem_filter->jC,flatMap_cons->uj,foldl_append->ul,eq_nil_of_length_eq_zero->un,mem_flatMap->uV,mem_of_mem_take->uX
open Nat renaming le_refl->qh,le_trans->zM,zero_add->yJ,le_of_ble_eq_true->vq
open Go.IntKind renaming i64->qj
open Option.some renaming injEq->qm
open Bool renaming and_eq_true->qx,or_eq_true->Qq
open Array renaming getD_eq_getD_getElem?->qQ
open Int renaming mul_le_mul->yX,le_refl->jO
open List.Nodup renaming length_le_of_subset->yY
open Except.ok renaming injEq->jp
open Option renaming map_eq_some_iff->vH
open List.cons renaming injEq->vK
namespace Go.Proofs.YtlnbdknjkmmgbaaGreatDoor
open Go Go.Ev Go.Proofs Tryz
namespace Q4
open P2 Y1 Y2 Y9 Q2 Q3
def uL(op:Int):Bool:=decide (op=1)||decide (op=15)||decide (op=45)||decide (op=46)||decide (op=47)
def numB(op n:Int):Bool:=if op=2 then decide (1<=n)&&decide (n<=3) else if op=20 then decide (-64<=n)&&decide (n<=64) else decide (n=0)
def ownB(n:Nd):Bool:=if uL n.op=zt n.name/\(uL n.op=true\/n.name=⟨#[]⟩) then numB n.op n.n else false
theorem ownU(n):qd qb 194 [eNd n] (aB (ownB n)):=by
 refine qSV call194 func194 rfl ?_;have j:=qi2 n.name;generalize P:zt n.name=N at *
 by_cases p:n.op=1\/n.op=15\/n.op=45\/n.op=46\/n.op=47
 .have l:uL n.op=true:=by grind [uL]
  have t:¬n.op=2:=zOm;have i:¬n.op=20:=zOm;rcases p with h|h|h|h|h
  all_goals
   simp[go_sem,h];refine tR j (.zs .nil) ?_;cases N with
   |true =>
    have g:ownB n=decide (n.n=0):=by grind [ownB,numB]
    rw[g];simp[go_sem,h];exact .zsc _
   |false =>
    have g:ownB n=false:=by grind [ownB]
    rw[g];simp[go_sem];exact .zsc _
 .simp only[not_or]at p
  obtain⟨d1,d2,d3,d4,d5⟩:=p;have l:uL n.op=false:=by grind [uL]
  simp[go_sem,d1,d2,d3,d4,d5];refine tR j (.zs .nil) ?_;cases N with
  |true =>
   have g:ownB n=false:=by grind [ownB]
   rw[g];simp[go_sem];exact .zsc _
  |false =>
   by_cases o:n.name=⟨#[]⟩
   .have g:ownB n=numB n.op n.n:=by
     simp_all[ownB,if_pos]
    rw[g];unfold numB;by_cases t:n.op=2
    .by_cases C:1<=n.n<;>by_cases I:n.n<=3<;>(simp[go_sem,t,o,C,I];exact .zsc _)
    .by_cases i:n.op=20
     .by_cases C : -64<=n.n<;>by_cases I:n.n<=64<;>(simp[go_sem,i,o,C,I];exact .zsc _)
     .simp [go_sem,t,i,o]
      exact .zsc _
   .have g:ownB n=false:=by simp[ownB,l,o]
    rw[g];have J:n.name.toList.isEmpty=false:=by simpa using ji o
    simp[go_sem,J];exact .zsc _
mutual
def cntN:Nd->Int->Int
 | .mk _ _ _ ks _,left=>ya ks left 1
def ya:List Nd->Int->Int->Int
 | [],_,sum=>sum
 |k :: ks,left,sum=>if sum<=left then ya ks left (sum+cntN k (left-sum)) else sum
end
theorem W8(n left):cntN n left=ya n.sD left 1:=by
 obtain⟨op,nm,i,ks,p⟩:=n;simp[cntN,Nd.sD]
mutual
theorem VV:∀(n:Nd)(left:Int),1<=cntN n left/\(cntN n left<=left+1\/cntN n left=1)
 | .mk _ _ _ ks _,left=>by
  simp only[cntN];have:=W9 ks left 1;omega
theorem W9:∀(ks:List Nd)(left sum:Int),sum<=ya ks left sum/\(ya ks left sum<=left+1\/ya ks left sum=sum)
 | [],left,sum=>by simp[ya]
 |k :: ks,left,sum=>by
  simp only[ya];split
  .have g:=VV k (left-sum)
   have i:=W9 ks left (sum+cntN k (left-sum));omega
  .omega
end
theorem ny:∀ m n,szN n<=m->∀ left,-1000000<=left/\left<=1000000->qd qb 127 [eNd n,aI left] (aI (cntN n left))
 | 0,n,P,_,_=>by obtain⟨op,nm,i,ks,p⟩:=n;simp[szN]at P
 |m+1,n,P,left,hl=>by
  have ih:∀ k,k∈n.sD->∀ left:Int,-1000000<=left/\left<=1000000->qd qb 127 [eNd k,aI left] (aI (cntN k left)):=fun k T =>
   ny m k (zW1 (q9 T))
  rw[W8];generalize hR:ya n.sD left 1=R;refine qSU call127 func127 rfl ?_;refine fZ n.sD.length (fun k U=>∃ sum:Int,U.tm 1=aI left/\U.tm 2 = .ip (cNd n)/\U.tm 5=aI sum/\U.tm 6=aI k/\(k:Int)+1<=sum/\(sum<=left+1\/sum=1)/\ya (n.sD.drop k) left sum=R) ?_ ?_
  .simp [go_sem, *]
  .rintro k U T ⟨sum,C,l,I,o,a0,a1,j⟩
   by_cases J:k=n.sD.length
   .subst J
    rw[zF]at j;simp only[ya]at j;subst j;simp[go_sem,l,I,o];exact .zsc _
   .have g:k<n.sD.length:=by omega
    rw[qY g]at j;simp only[ya]at j;by_cases t:sum<=left
    .rw [if_pos t]at j
     have w1:=zWk k;have w2:qj.wrap (left-sum)=left-sum:=zWr;have a2:=VV n.sD[k] (left-sum);have w3:qj.wrap (sum+cntN n.sD[k] (left-sum))=sum+cntN n.sD[k] (left-sum):=zWr;simp[go_sem,C,l,I,o,g,t,w2];refine tR (ih n.sD[k] (qq g) (left-sum) ⟨zOm,zOm⟩) (.zk (qz _) (.zs .nil)) ?_;simp[go_sem,o,w1,w3];refine⟨g,aK ?_⟩;exact⟨sum+cntN n.sD[k] (left-sum),zS1 C,zS1 l,zSi,zSi,zOm,zOm,j⟩
    .rw [if_neg t]at j
     subst j;simp[go_sem,C,l,I,o,g,t];exact .zsc _
mutual
def forN:Nd->Int->Bool
 | .mk op nm i ks p,g=>if g<1 then false else ownB (.mk op nm i ks p)&&(fitB op ks&&vX ks (g-1))
def vX:List Nd->Int->Bool
 | [],_=>true
 |k :: ks,g=>forN k g&&vX ks g
end
theorem VW(n g):forN n g=if g<1 then false else ownB n&&(fitB n.op n.sD&&vX n.sD (g-1)):=by
 obtain⟨op,nm,i,ks,p⟩:=n;simp[forN,Nd.sD,Nd.op]
theorem nz:∀ m n,szN n<=m->Small n->∀ g,-1000000<=g/\g<=1000000->qd qb 128 [eNd n,aI g] (aB (forN n g))
 | 0,n,T,_,_,_=>by obtain⟨op,nm,i,ks,p⟩:=n;simp[szN]at T
 |m+1,n,T,hs,g,hl=>by
  have ih:∀ k,k∈n.sD->∀ g:Int,-1000000<=g/\g<=1000000->qd qb 128 [eNd k,aI g] (aB (forN k g)):=fun k J =>
   nz m k (zW1 (q9 J)) (hs.kid J)
  have I:=hs.len;rw[VW];have l:=ownU n;have o:=W7 n.op n.sD I;by_cases j:g<1
  .rw [if_pos j]
   refine qSV call128 func128 rfl ?_;simp[go_sem,j];exact .zsc _
  rw[if_neg j];cases ho:ownB n with
  |false =>
   rw[ho]at l;refine qSV call128 func128 rfl ?_;simp[go_sem,j];refine fB l (.zk (qz _) .nil) ?_;exact .zsc _
  |true =>
   rw[ho]at l;cases hf:fitB n.op n.sD with
   |false =>
    rw[hf]at o;refine qSV call128 func128 rfl ?_;simp[go_sem,j];refine fB l (.zk (qz _) .nil) ?_;refine fB o (.zs (.zk (YK _) .nil)) ?_;exact .zsc _
   |true =>
    rw[hf]at o;have wl:qj.wrap (g-1)=g-1:=zWr;generalize hR:vX n.sD (g-1)=R;simp only[Bool.true_and];refine qSV call128 func128 rfl ?_;simp[go_sem,j];refine fB l (.zk (qz _) .nil) ?_;refine fB o (.zs (.zk (YK _) .nil)) ?_;refine fZ n.sD.length (fun k U=>U.tm 1=aI g/\U.tm 2 = .ip (cNd n)/\U.tm 5=aI k/\vX (n.sD.drop k) (g-1)=R) ?_ ?_
    .simp [go_sem, *]
    .rintro k U J ⟨e1,e2,e5,t⟩
     by_cases P:k=n.sD.length
     .subst P
      rw[zF]at t;simp only[vX]at t;subst t;simp[go_sem,e2,e5];exact .zsc _
     .have C:k<n.sD.length:=by omega
      have w1:=zWk k;rw[qY C]at t;simp only[vX]at t;have hi:=ih n.sD[k] (qq C) (g-1) ⟨zOm,zOm⟩;simp[go_sem,e1,e2,e5,C,wl];refine tR hi (.zk (qz _) (.zs .nil)) ?_;cases hq:forN n.sD[k] (g-1) with
      |true =>
       simp_all[go_sem,Bool.true_and,aK]
      |false =>
       rw[hq,Bool.false_and]at t;subst t;simp[go_sem];exact .zsc _
theorem nA:∀ ks left sum,0<=sum->ya ks left sum<=left->sum+ks.length<=ya ks left sum/\∀ k,k∈ks->∃ l',l'<=left/\cntN k l'<=l'
 | [],left,sum,_,h=>by simp[ya]
 |k :: ks,left,sum,l,h=>by
  simp only[ya]at h⊢;split at h
  .rename_i i
   rw[if_pos i];have o:=VV k (left-sum);have j:=nA ks left (sum+cntN k (left-sum)) zOm h;have p:=j.1;refine⟨by grind,fun q g=>?_⟩;rcases qs.1 g with rfl|g
   .grind
   grind
  .omega
theorem nB:∀ m n left,szN n<=m->left<=1000->cntN n left<=left->Small n
 | 0,n,_,g,_,_=>by obtain⟨op,nm,i,ks,p⟩:=n;simp[szN]at g
 |m+1,n,left,g,I,h=>by
  rw[W8]at h;obtain⟨J,l⟩:=nA n.sD left 1 zOm h;refine .mk n zOm fun k j=>?_
  obtain⟨o,t,C⟩:=l k j;exact nB m k o (zW1 (q9 j)) zOm C
def qV(n:Nd):Bool:=decide (cntN n 400<=400)&&forN n 24
theorem qi3(n):qd qb 61 [eNd n] (aB (qV n)):=by
 have i:=ny (szN n) n (qh _) 400 zOm;by_cases h:cntN n 400<=400
 .have j:=nB (szN n) n 400 (qh _) zOm h
  have hf:=nz (szN n) n (qh _) j 24 zOm;have g:qV n=forN n 24:=by simp[qV,h]
  rw[g];refine qSU call61 func61 rfl ?_;refine tR i (.zk (qz _) (.zs .nil)) ?_;simp[go_sem,h];refine fB hf (.zk (qz _) (.zs .nil)) ?_;exact .zsc _
 .have g:qV n=false:=by simp[qV,h]
  rw[g];refine qSU call61 func61 rfl ?_;refine tR i (.zk (qz _) (.zs .nil)) ?_;simp[go_sem,h];exact .zsc _
theorem nD{ks i}(h:vX ks i=true):∀ k,k∈ks->forN k i=true:=by
 induction ks with
 |nil=>grind
 |cons a l j =>
  simp only[vX,qx]at h;intro k g;rcases qs.1 g with rfl|g
  .exact h.1
  .exact j h.2 k g
theorem nE:∀ m n g,szN n<=m->forN n g=true->WfN n
 | 0,n,_,j,_=>by obtain⟨op,nm,i,ks,p⟩:=n;simp[szN]at j
 |m+1,n,g,j,h=>by
  rw[VW]at h;split at h
  .grind
  .simp only[qx]at h
   obtain⟨t,C,o⟩:=h;refine .mk n ?_ (fun I=>?_) fun k l=>nE m k (g-1) (zW1 (q9 l)) (nD o k l)
   .grind [fitB]
   simp_all[ownB,numB,if_pos,absurd]
theorem jd{n}(h:qV n=true):WfN n:=by
 simp only[qV,qx]at h;exact nE (szN n) n 24 (qh _) h.2
end Q4
namespace Q5
theorem qi4(a b)(ha:a.length<=1000000):qd qb 129 [lI a,lI b] (aB (decide (a=b))):=by
 refine qSV call129 func129 rfl ?_;by_cases j:a.length=b.length
 case neg =>
  rw[decide_eq_false (by rintro rfl;exact j rfl)];simp[go_sem,j];exact .zsc _
 simp[go_sem,j];refine fZ a.length (fun k U=>U.tm 0=lI a/\U.tm 1=lI b/\U.tm 5=aI k/\∀(i:Nat)(h:i<a.length)(o:i<b.length),i<k->a[i]=b[i]) ?_ ?_
 .exact ⟨zSi,zSi,zSi,fun i h o R=>absurd R zOm⟩
 .rintro k U hk ⟨l,I,p,T⟩
  by_cases a0:k=a.length
  .rw [decide_eq_true (List.ext_getElem j fun i h o=>T i h o zOm)]
   have J:k=b.length:=zOm;simp[go_sem,l,p,J,j];exact .zsc _
  .have a1:k<a.length:=by omega
   have t:k<b.length:=zOm;have w1:=zWk k;have g:(k:Int)<(b.length:Int):=zOm;by_cases C:a[k]=b[k]
   .simp [go_sem,l,p,j,g]
    try refine tN zKr ?_
    simp[go_sem,l,I,p,t,j,g,C,w1]
    try refine⟨zOm,aK ?_⟩
    try refine aK ?_
    refine⟨zS1 l,zS1 I,zSi,fun i h o R=>?_⟩;by_cases P:i=k
    .subst P;exact C
    .exact T i h o zOm
   .rw [decide_eq_false (fun e=>C (zP1 e))]
    simp[go_sem,l,p,j,g]
    try refine tN zKr ?_
    simp[go_sem,l,I,p,t,j,g,C];exact .zsc _
end Q5
namespace Q6
open Y1 Y9
mutual
def anyN(p:Nd->Bool):Nd->Bool
 | .mk op nm i ks q=>p (.mk op nm i ks q)||jT p ks
def jT(p:Nd->Bool):List Nd->Bool
 | []=>false
 |k :: ks=>anyN p k||jT p ks
end
theorem Jl(p n):anyN p n=(p n||jT p n.sD):=by
 obtain⟨op,nm,i,ks,q⟩:=n;simp[anyN,Nd.sD]
theorem nF:∀ m n,szN n<=m->Small n->qd qb 43 [eNd n] (aB (anyN (fun n=>decide (n.op=47)) n))
 | 0,n,J,_=>by obtain⟨op,nm,i,ks,p⟩:=n;simp[szN]at J
 |m+1,n,J,P=>by
  have ih:∀ k,k∈n.sD->qd qb 43 [eNd k] (aB (anyN (fun n=>decide (n.op=47)) k)):=fun k t =>
   nF m k (zW1 (q9 t)) (P.kid t)
  have T:=P.len;rw[Jl];generalize hR:jT (fun n=>decide (n.op=47)) n.sD=R;refine qSV call43 func43 rfl ?_;by_cases C:n.op=47
  .simp [go_sem,C]
   exact .zsc _
  .rw [decide_eq_false C,Bool.false_or]
   simp[go_sem,C];refine fZ n.sD.length (fun k U=>U.tm 1 = .ip (cNd n)/\U.tm 3=aI k/\jT (fun n=>decide (n.op=47)) (n.sD.drop k)=R) ?_ ?_
   .exact ⟨zSi,zSi,zUs hR⟩
   .rintro k U t ⟨l,o,j⟩
    by_cases I:k=n.sD.length
    .subst I
     rw[zF]at j;simp only[jT]at j;subst j;simp[go_sem,l,o];exact .zsc _
    .have g:k<n.sD.length:=by omega
     have w1:=zWk k;rw[qY g]at j;simp only[jT]at j;have hi:=ih n.sD[k] (qq g);simp[go_sem,l,o,g,qS]
     try refine tN zKr ?_
     try simp[go_sem,l,o,g,qS]
     refine tR hi (.zk (qz _) .nil) ?_;cases hq:anyN (fun n=>decide (n.op=47)) n.sD[k] with
     |true =>
      rw[hq,Bool.true_or]at j;subst j;simp[go_sem,l,o];exact .zsc _
     |false =>
      rw[hq,Bool.false_or]at j;simp[go_sem,l,o,w1]
      try refine⟨g,aK ?_⟩
      try refine aK ?_
      exact⟨zS1 l,zSi,j⟩
end Q6
namespace Q7
end Q7
namespace Q8
def fldB(ns:Nat)(f:Fld):Bool:=decide (1<=f.sS.length)&&decide (f.sS.length<=3)&&f.sS.all fun x=>decide (0<=x)&&decide (x<ns)
end Q8
namespace FD
end FD
namespace GF
abbrev eBd(b:Bd):AV := .agg (cBd b)
theorem nG(b):∀ c,c∈cBd b->HF c:=by
 intro c g;simp at g;rcases g with rfl|rfl|rfl|rfl
 .exact HF.sc _
 .exact zy _
 .exact HF.sc _
 .exact zy _
theorem zJ(b):HF (eBd b):=HF.agg (nG b)
end GF
namespace KA
open Y1 P1 E1 E3
def vB(p:Int)(k:Nd):Nd:=if k.op=48 then k else .mk 48 ⟨#[]⟩ 0 [k] p
mutual
def conj:Nd->List Nd
 | .mk op nm i ks p=>if op=41 then (vY ks).getD 0 []++(vY ks).getD 1 [] else if op=48 then ((vY ks).getD 0 []).map (vB p) else [.mk op nm i ks p]
def vY:List Nd->List (List Nd)
 | []=>[]
 |k :: ks=>conj k :: vY ks
end
structure Ns where
 ts:TS
 sc:Sc
 bs:List Bd
abbrev Ns.n(σ:Ns):Int:=sumI σ.sc.sC
abbrev rl0:Rl:=⟨0,[]⟩
abbrev bd0:Bd:=⟨rl0,rl0⟩
abbrev exR(r:Rl):Bd:=⟨r,r⟩
def allN(n k:Int):Rl:=⟨k,(qp (n ^ k.toNat).toNat).map fun i:Nat=>(i:Int)⟩
def ZY(sc:Sc)(i:Nat):List Int:=(qp (gI sc.sC i).toNat).map fun k:Nat=>sumI (sc.sC.take i)+k
def Zl(sc:Sc)(i:Nat):List Int:=(qp ((gI sc.sC i).toNat-1)).map fun k:Nat=>(sumI (sc.sC.take i)+k)*sumI sc.sC+(sumI (sc.sC.take i)+k+1)
def Qc(nm:tV)(env:List (tV×Bd)):Option Bd:=env.foldl (fun r e=>if e.1=nm then some e.2 else r) none
def jA(nm:tV):List Fld->List Bd->Option Bd
 |f :: g,b :: t=>if f.name=nm then some b else jA nm g t
 |_,_=>none
def Qd(sc:Sc)(nm:tV):Nat->List (tV×Bool)->Bd
 |_,[]=>bd0
 |i,s :: g=>if s.1=nm then exR ⟨1,ZY sc i⟩ else if s.2=true/\s.1++jv=nm then exR ⟨1,[sumI (sc.sC.take i)]⟩ else if s.2=true/\s.1++jQ=nm then exR ⟨2,Zl sc i⟩ else Qd sc nm (i+1) g
def zt(σ:Ns)(env:List (tV×Bd))(nm:tV):Bd:=match Qc nm env with
 |some b=>b
 |none=>match jA nm σ.ts.sA σ.bs with
  |some b=>b
  |none=>Qd σ.sc nm 0 σ.ts.sS
def vZ(n:Int)(a b:Rl):Rl:=⟨a.ar,a.ts.filter fun t=>decide (∀ u,u∈b.ts->u / powI n (b.ar-1)≠t / powI n (a.ar-1))⟩
def vE(q:XE Rl):Rl:=match q with
 | .ok r=>r
 | .error _=>rl0
def map2(f:Rl->Rl->Rl)(x y:Bd):Bd:=⟨f x.lo y.lo,f x.up y.up⟩
def opI(σ:Ns)(env:List (tV×Bd))(op:Int)(nm:tV)(i:Int)(l:List Bd):Bd:=
 let x:=l.getD 0 bd0
 let y:=l.getD 1 bd0
 if op=1 then zt σ env nm
 else if op=2 then exR ⟨i,[]⟩
 else if op=3 then exR (allN σ.n 1)
 else if op=4 then exR (idR σ.n)
 else if op=5 then x
 else if op=11 then ⟨trR σ.n x.lo,trR σ.n x.up⟩
 else if op=12 then ⟨clR σ.n 200 x.lo,clR σ.n 200 x.up⟩
 else if op=13 then ⟨unR (clR σ.n 200 x.lo) (idR σ.n),unR (clR σ.n 200 x.up) (idR σ.n)⟩
 else if op=15 then ⟨⟨1,[]⟩,x.up⟩
 else if op=6 then map2 unR x y
 else if op=7 then map2 inR x y
 else if op=8 then ⟨diR x.lo y.up,diR x.up y.lo⟩
 else if op=9 then map2 (fun a b=>vE (vV σ.n a b)) x y
 else if op=10 then map2 (fun a b=>vE (wB σ.n a b)) x y
 else ⟨unR y.lo (vZ σ.n x.lo y.up),unR y.up (vZ σ.n x.up y.lo)⟩
mutual
def ivl(σ:Ns)(env:List (tV×Bd)):Nd->Bd
 | .mk op nm i ks p=>opI σ env op nm i (ivls σ env ks)
def ivls(σ:Ns)(env:List (tV×Bd)):List Nd->List Bd
 | []=>[]
 |k :: ks=>ivl σ env k :: ivls σ env ks
end
theorem Xa(σ env):∀ ks,ivls σ env ks=ks.map (ivl σ env)
 | []=>rfl
 |k :: ks=>by rw[ivls,Xa σ env ks];rfl
theorem jU(σ env n):ivl σ env n=opI σ env n.op n.name n.n (n.sD.map (ivl σ env)):=by
 obtain⟨op,nm,i,ks,p⟩:=n;rw[ivl,Xa];rfl
abbrev Br:=Option (List Bd×Bool)
def sub1(a b:Rl):Bool:=decide ((diR a b).ts=[])
def Qe(i:Nat)(p q:Rl)(bs:List Bd)(c:Bool):Br:=
 let b:=bs.getD i bd0
 let x:Bd:=⟨unR b.lo p,inR b.up q⟩
 if sub1 x.lo x.up=true then (if x.lo=b.lo/\x.up=b.up then some (bs,c) else some (bs.set i x,true)) else none
def idxF(fs:List Fld)(nm:tV):Option Nat:=fs.findIdx? fun f=>decide (f.name=nm)
mutual
def narN(ts:TS)(sc:Sc)(g:Bool):Nd->Rl->Rl->List Bd->Bool->Br
 | .mk op nm i ks l,p,q,t,c =>
  let j:Ns:=⟨ts,sc,t⟩
  let x:=ivl j [] (.mk op nm i ks l)
  let all:=allN j.n x.lo.ar
  if (sub1 p x.up&&sub1 x.lo q)=true then
   if op=1 then (match idxF ts.sA nm with
    |some i=>if (g||!((ts.sA.map fun f=>f.var).getD i false))=true then Qe i p q t c else some (t,c)
    |none=>some (t,c))
   else if op=6 then narU ts sc g ks ⟨p.ar,(diR p ((ivls j [] ks).getD 1 bd0).up).ts⟩ ⟨p.ar,(diR p ((ivls j [] ks).getD 0 bd0).up).ts⟩ q t c
   else if op=7 then narU ts sc g ks p p all t c
   else if op=8 then narD ts sc g ks p all ⟨all.ar,[]⟩ (diR all p) t c
   else if op=11 then narT ts sc g ks (trR j.n p) (trR j.n q) t c
   else some (t,c)
  else none
def narU(ts:TS)(sc:Sc)(g:Bool):List Nd->Rl->Rl->Rl->List Bd->Bool->Br
 | [],_,_,_,t,c=>some (t,c)
 |k :: ks,p,j,q,t,c=>match narN ts sc g k p q t c with
  |none=>none
  |some (i,l)=>narU ts sc g ks j j q i l
def narD(ts:TS)(sc:Sc)(g:Bool):List Nd->Rl->Rl->Rl->Rl->List Bd->Bool->Br
 | [],_,_,_,_,t,c=>some (t,c)
 |k :: ks,p,q,j,l,t,c=>match narN ts sc g k p q t c with
  |none=>none
  |some (i,o)=>narD ts sc g ks j l j l i o
def narT(ts:TS)(sc:Sc)(g:Bool):List Nd->Rl->Rl->List Bd->Bool->Br
 | [],_,_,t,c=>some (t,c)
 |k :: _,p,q,t,c=>narN ts sc g k p q t c
end
def brB(r:Br)(f:List Bd->Bool->Br):Br:=match r with
 |none=>none
 |some (t,c)=>f t c
def uM(ts:TS)(sc:Sc)(g:Bool)(n:Nd)(bs:List Bd)(c:Bool):Br:=
 let x:=ivl ⟨ts,sc,bs⟩ [] n
 if x.up.ts.length=0 then none else if x.up.ts.length=1 then narN ts sc g n x.up (allN (sumI sc.sC) x.up.ar) bs c else some (bs,c)
def uN(ts:TS)(sc:Sc)(g:Bool)(n:Nd)(bs:List Bd)(c:Bool):Br:=
 let x:=ivl ⟨ts,sc,bs⟩ [] n
 if 1<x.lo.ts.length then none else if x.lo.ts.length=1 then narN ts sc g n ⟨x.lo.ar,[]⟩ x.lo bs c else some (bs,c)
def noN(ts:TS)(sc:Sc)(g:Bool)(n:Nd)(bs:List Bd)(c:Bool):Br:=
 let e:Rl:=⟨(ivl ⟨ts,sc,bs⟩ [] n).lo.ar,[]⟩
 narN ts sc g n e e bs c
def kidN(n:Nd)(i:Nat):Nd:=n.sD.getD i (.mk 0 ⟨#[]⟩ 0 [] 0)
def ub(ts:TS)(sc:Sc)(g:Bool)(n:Nd)(bs:List Bd)(c:Bool):Br:=
 let no:=decide (n.op=40)
 let m:=if n.op=40 then kidN n 0 else n
 let k:=kidN m 0
 if (no=true/\m.op=34)\/(no=false/\m.op=35) then noN ts sc g k bs c
 else if (no=true/\m.op=35)\/(no=false/\m.op=34) then uM ts sc g k bs c
 else if no=true then some (bs,c)
 else if m.op=31 then none
 else if m.op=36 then brB (uM ts sc g k bs c) fun bs c=>uN ts sc g k bs c
 else if m.op=37 then uN ts sc g k bs c
 else if m.op=32\/m.op=33 then
  let x:=ivl ⟨ts,sc,bs⟩ [] k
  let y:=ivl ⟨ts,sc,bs⟩ [] (kidN m 1)
  let all:=allN (sumI sc.sC) x.lo.ar
  let i:=if m.op=32 then all else x.up
  let yl:=if m.op=32 then ⟨all.ar,[]⟩ else y.lo
  brB (narN ts sc g k yl y.up bs c) fun bs c=>narN ts sc g (kidN m 1) x.lo i bs c
 else some (bs,c)
abbrev ndZ:Nd := .mk 0 ⟨#[]⟩ 0 [] 0
mutual
def yH:Nd->Bool->Nd×Bool
 | .mk op nm i ks p,g=>if op=48 then VX ks else (.mk op nm i ks p,g)
def VX:List Nd->Nd×Bool
 | []=>(ndZ,true)
 |k :: _=>yH k true
end
def uc(ts:TS)(sc:Sc):List Nd->List Bd->Bool->Br
 | [],t,c=>some (t,c)
 |n :: l,t,c=>brB (ub ts sc (yH n (decide (sc.sN=1))).2 (yH n (decide (sc.sN=1))).1 t c) fun t c=>uc ts sc l t c
def fixN(ts:TS)(sc:Sc)(l:List Nd):Nat->List Bd->Option (List Bd)
 | 0,t=>some t
 |f+1,t=>match uc ts sc l t false with
  |none=>none
  |some (g,true)=>fixN ts sc l f g
  |some (g,false)=>some g
end KA
namespace KB
open Y1 Y2 Y9 P1 P2 E1 E2 E3 KA
section
variable {c:Ck}{l:List (Option Kd)}{s:Scp}
inductive ArN (A:tV->Option Int):Nd->Int->Prop where
 |name {n:Nd} {a:Int} (ho:n.op=1) (h:A n.name=some a):ArN A n a
 |none {n:Nd} (ho:n.op=2) (h:1<=n.n/\n.n<=3):ArN A n n.n
 |univ {n:Nd} (ho:n.op=3):ArN A n 1
 |iden {n:Nd} (ho:n.op=4):ArN A n 2
 |prime {n x:Nd} {a:Int} (ho:n.op=5) (hk:n.sD=[x]) (h:ArN A x a):ArN A n a
 |bin {n x:Nd} (ho:11<=n.op/\n.op<=13) (hk:n.sD=[x]) (h:ArN A x 2):ArN A n 2
 |alike {n x y:Nd} {a:Int} (ho:n.op=6\/n.op=7\/n.op=8\/n.op=14) (hk:n.sD=[x,y]) (hx:ArN A x a) (hy:ArN A y a):ArN A n a
 |join {n x y:Nd} {a b:Int} (ho:n.op=9) (hk:n.sD=[x,y]) (hx:ArN A x a) (hy:ArN A y b) (h:1<=a+b-2/\a+b-2<=3):ArN A n (a+b-2)
 |prod {n x y:Nd} {a b:Int} (ho:n.op=10) (hk:n.sD=[x,y]) (hx:ArN A x a) (hy:ArN A y b) (h:a+b<=3):ArN A n (a+b)
 |compr {n x f:Nd} (ho:n.op=15) (hk:n.sD=[x,f]) (hx:ArN A x 1):ArN A n 1
def arS(c:Ck)(s:Scp)(nm:tV):Option Int:=match yk c s nm 0 with
 | .ok (some k)=>some k.ar
 |_=>none
theorem qi5{nm p k}(h:yk c s nm p = .ok (some k)):arS c s nm=some k.ar:=by
 unfold arS;unfold yk at h⊢;split at h
 .simp_all
 .split at h
  .cases h
  .simp_all
  .cases h
theorem VY{n a b}(i:WfN n)(e:shp n.op n.sD.length=some [a,b]):∃ x y,n.sD=[x,y]/\kd x.op=a/\kd y.op=b:=by
 have g:=i.shape;rw[e]at g;simp only[qm]at g
 match j:n.sD,g with
 | [x,y],g=>simp at g;exact⟨x,y,rfl,g.1.symm,g.2.symm⟩
 | [],g=>simp at g
 | [_],g=>simp at g
 |_ :: _ :: _ :: _,g=>simp at g
theorem Jm{n a}(i:WfN n)(e:shp n.op n.sD.length=some [a]):∃ x,n.sD=[x]/\kd x.op=a:=by
 have g:=i.shape;rw[e]at g;simp only[qm]at g
 match j:n.sD,g with
 | [x],g=>simp at g;exact⟨x,rfl,g.symm⟩
 | [],g=>simp at g
 |_ :: _ :: _,g=>simp at g
theorem exL1{b x}(h:qK c s b [x] = .ok l):∃ a,l=[a]/\exam c s b x = .ok a:=by
 obtain⟨g,i⟩:=Zj h
 match l,g with
 | [a],_=>exact⟨a,rfl,i 0 x a rfl rfl⟩
theorem exL2{b x y}(h:qK c s b [x,y] = .ok l):∃ a g,l=[a,g]/\exam c s b x = .ok a/\exam c s b y = .ok g:=by
 obtain⟨j,i⟩:=Zj h
 match l,j with
 | [a,g],_=>exact⟨a,g,rfl,i 0 x a rfl rfl,i 1 y g rfl rfl⟩
theorem VZ(hc:okCk c):∀ m n s inn k,szN n<=m->WfN n->ScOk c.ts.sS.length s->exam c s inn n = .ok (some k)->kd n.op=101->ArN (arS c s) n k.ar
 | 0,n,_,_,_,hm,_,_,_,_=>by obtain⟨op,nm,i,ks,p⟩:=n;simp[szN]at hm
 |m+1,n,s,inn,k,hm,I,hs,h,a0=>by
  have ho:=Jf a0;have j:∀ x,x∈n.sD->szN x<=m:=fun x C=>zW1 (q9 C)
  have U:∀ x b q,x∈n.sD->kd x.op=101->exam c s b x = .ok q->∃ k,q=some k/\ArN (arS c s) x k.ar:=fun x b q C g o=>by
   obtain⟨k,rfl,_⟩:=jc hc m x s b q (j x C) (I.kid C) hs o g;exact⟨k,rfl,VZ hc m x s b k (j x C) (I.kid C) hs o g⟩
  rw[yn]at h;split at h
  .cases h
  split at h
  .rename_i h1;exact .name h1 (qi5 h)
  split at h
  .omega
  split at h
  .rename_i J
   obtain⟨x,f,g,P,_⟩:=VY (a:=101) (b:=102) I (by unfold shp;rw[zIn,zIn,zIn,if_pos zOm]);rw[g]at h;simp only[zH]at h;cases o:exam c s (inn||decide (n.op=15)) x with
   |error e=>rw[o]at h;cases h
   |ok q =>
    obtain⟨a,rfl,t⟩:=U x _ q (by rw[g];simp) P o;rw[o]at h;simp only at h;split at h
    .rename_i h1
     split at h
     .cases h
     .simp only[jp,qm]at h
      subst h;rw[h1]at t⊢;exact .compr zOm g t
    .cases h
  .rename_i n1 a4 nb
   cases R:qK c s (inn||decide (n.op=12)||decide (n.op=13)) n.sD with
   |error e=>rw[R]at h;cases h
   |ok l =>
    rw[R]at h;simp only at h;by_cases T:n.op=2
    .simp [zn,T]at h;subst h;exact .none T (I.num T)
    by_cases o3:n.op=3
    .simp [zn,o3]at h;subst h;exact .univ o3
    by_cases o4:n.op=4
    .simp [zn,o4]at h;subst h;exact .iden o4
    by_cases u:n.op=5\/n.op=11\/n.op=12\/n.op=13
    .obtain ⟨x,g,P⟩:=Jm (a:=101) I (by unfold shp;rw[zIn,if_pos zOm])
     rw[g]at R;obtain⟨q,rfl,o⟩:=exL1 R;obtain⟨a,rfl,t⟩:=U x _ q (by rw[g];simp) P o;by_cases o5:n.op=5
     .simp [zn,o5]at h;subst h;exact .prime o5 g t
     have J:n.op=11\/n.op=12\/n.op=13:=zOm;simp only[zn,if_neg T,if_neg o3,if_neg o4,if_neg o5,if_pos J]at h;split at h
     .rename_i a2
      simp only[jp,qm]at h;subst h;have:(binK c.ts.sS.length n.op a).ar=2:=by
       have C:=jc hc m x s _ _ (j x (by rw[g];simp)) (I.kid (by rw[g];simp)) hs o P;obtain⟨a',e,ok⟩:=C;cases e;have:=Je ok a2;unfold binK;split
       .exact this.2
       split
       .exact this.2
       .rfl
      rw[a2]at t;rw[this];exact .bin zOm g t
     .cases h
    .obtain ⟨x,y,g,P,ky⟩:=VY (a:=101) (b:=101) I (by unfold shp;rw[zIn,zIn,if_pos zOm])
     rw[g]at R;obtain⟨q,q',rfl,o,a1⟩:=exL2 R;obtain⟨a,rfl,t⟩:=U x _ q (by rw[g];simp) P o;obtain⟨b,rfl,J⟩:=U y _ q' (by rw[g];simp) ky a1;simp only[zn,if_neg T,if_neg o3,if_neg o4]at h;split at h
     .rename_i al
      split at h
      .rename_i e
       simp only[jp,qm]at h;subst h;have:(jR n.op a b).ar=a.ar:=by simp only[jR,kSum,Zc];grind
       rw[this];rw[<-e]at J;exact .alike zOm g t J
      .cases h
     split at h
     .split at h
      .simp only[jp,qm]at h
       subst h;rename_i h9 hr;exact .join h9 g t J hr
      .cases h
     split at h
     .split at h
      .simp only[jp,qm]at h
       subst h;rename_i a3 hr;exact .prod a3 g t J hr
      .cases h
     .omega
structure okI (n a:Int) (b:Bd):Prop where
 lo:GR n b.lo
 up:GR n b.up
 la:b.lo.ar=a
 ua:b.up.ar=a
theorem GR.all{n k}(j:0<=n)(l:1<=k)(g:k<=3):GR n (allN n k):=by
 refine⟨l,g,fun t o=>?_,?_⟩
 .obtain ⟨i,p,rfl⟩:=qn.1 o
  rw[zO]at p;have e:(allN n k).ar=k:=rfl;rw[e,uG zOm g];have:0<=n ^ k.toNat:=Int.pow_nonneg j;omega
 .show ((qp _).map _).Pairwise _
  rw[List.pairwise_map];exact List.pairwise_lt_range.imp fun h=>zOm
theorem aQ{n a b}(g:GR n a):GR n (vZ n a b):=g.filter _
theorem ZZ{n r}(h:GR n r):okI n r.ar (exR r):=⟨h,h,rfl,rfl⟩
theorem nH{σ env A}(C:0<=σ.n)(hA:∀ nm a,A nm=some a->okI σ.n a (zt σ env nm)){n a}(h:ArN A n a):okI σ.n a (ivl σ env n):=by
 induction h with
 |name j h=>rw[jU];simp only[opI,if_pos j];exact hA _ _ h
 | @none n j h=>rw[jU];simp[opI,j];exact ZZ (GR.nil h.1 h.2)
 |univ j=>rw[jU];simp[opI,j];exact ZZ (GR.all C zOm zOm)
 |iden j=>rw[jU];simp[opI,j];exact ZZ (GR.iden C)
 |prime j I h U=>rw[jU];simp[opI,j,I];exact U
 | @bin n x j I h U =>
  rw[jU,I];obtain⟨l,u,t,p⟩:=U;have cl:=aP C 200 l t;have cu:=aP C 200 u p;rcases (show n.op=11\/n.op=12\/n.op=13 by omega) with o|o|o<;>simp[opI,o]
  .exact ⟨GR.trans C l t,GR.trans C u p,rfl,rfl⟩
  .exact ⟨cl.1,cu.1,cl.2,cu.2⟩
  .exact ⟨aC cl.1 (GR.iden C) cl.2,aC cu.1 (GR.iden C) cu.2,cl.2,cu.2⟩
 |alike j I hx hy J P =>
  rw[jU,I];obtain⟨l,u,t,p⟩:=J;obtain⟨R,T,g,i⟩:=P;rcases j with o|o|o|o<;>simp[opI,o,map2]
  .exact ⟨aC l R (by rw[t,g]),aC u T (by rw[p,i]),t,p⟩
  .exact ⟨l.filter _,u.filter _,t,p⟩
  .exact ⟨l.filter _,u.filter _,t,p⟩
  .exact ⟨aC R (aQ l) (by rw[g];exact t.symm),aC T (aQ u) (by rw[i];exact p.symm),g,i⟩
 | @join n x y a b j I hx hy h J P =>
  rw[jU,I];obtain⟨l,u,t,p⟩:=J;obtain⟨R,T,g,i⟩:=P;simp[opI,j,map2,vV,t,p,g,i,h,vE];exact⟨GR.join C l R zOm zOm,GR.join C u T zOm zOm,by simp[joR,t,g],by simp[joR,p,i]⟩
 |prod j I hx hy h J P =>
  rw[jU,I];obtain⟨l,u,t,p⟩:=J;obtain⟨R,T,g,i⟩:=P;simp[opI,j,map2,wB,t,p,g,i,h,vE];exact⟨GR.prod C l R zOm,GR.prod C u T zOm,by simp[prR,t,g],by simp[prR,p,i]⟩
 |compr j I hx U =>
  rw[jU,I];obtain⟨l,u,t,p⟩:=U;simp[opI,j];exact⟨GR.nil zOm zOm,u,rfl,p⟩
end
end KB
namespace G5
open E9 EO EQ
theorem Xb(sc)(g:GSc sc)(n:Nat)(P:n<=1000000):qd qb 132 [eSc sc,aI n] (aI (sumI (sc.sC.take n))):=by
 have R:=g.1;refine qSU call132 func132 rfl ?_;refine qi.up (min n sc.sC.length) (fun k U=>U.tm 1=aI n/\U.tm 2 = .ip [lI sc.sC,aI sc.sN]/\U.tm 5=aI (sumI (sc.sC.take k))/\U.tm 6=aI k) ?_ ?_
 .simp [go_sem,sumI]
 rintro k U T ⟨l,I,o,p⟩;by_cases j:k<n
 .by_cases i:k<sc.sC.length
  .have J:=wR sc.sC k i
   have t:=g.sum (k+1);rw[J]at t;simp[go_sem,l,I,o,p,j,i]
   grind [zS]
  .have e:sc.sC.take n=sc.sC.take k:=by rw[yr zOm,yr zOm]
   rw[e];simp[go_sem,l,I,o,p,j,i];exact .zsc _
 .have C:k=n:=by omega
  subst C;simp[go_sem,l,o,p];exact .zsc _
theorem Xc(sc)(g:GSc sc):qd qb 65 [eSc sc] (aI (sumI sc.sC)):=by
 have i:=g.1;have h:=Xb sc g sc.sC.length zOm;rw[zi]at h;refine qSU call65 func65 rfl ?_;refine fB h (.zk (zp _) (.zs .nil)) ?_;exact .zsc _
theorem wF(n:Int)(g:0<=n)(i:n<=20):∀ k,k<=3->0<=n ^ k/\n ^ k<=8000
 | 0,_=>zSp
 | 1,_=>by rw[show n ^ 1=n by rw[Int.pow_succ,Int.pow_zero,Int.one_mul]];omega
 | 2,_=>by
  have:n*n<=20*20:=yX i i g zOm;have j:=Int.mul_nonneg g g;rw[show n ^ 2=n*n by grind];omega
 | 3,_=>by
  have j:n*n<=20*20:=yX i i g zOm;have l:=Int.mul_nonneg g g;have o:n*n*n<=400*20:=yX j i g zOm;simp_all[Int.mul_nonneg,Int.pow_succ,Int.pow_zero,Int.one_mul]
 |k+4,h=>zOm
theorem nI(sc)(g:GSc sc)(n:Nat)(P:n<=3):qd qb 134 [eSc sc,aI n] (aI (sumI sc.sC ^ n)):=by
 have j:=g.sum sc.sC.length;rw[zi]at j;refine qSU call134 func134 rfl ?_;refine qi.up n (fun k U=>U.tm 1=aI n/\U.tm 2 = .ip [lI sc.sC,aI sc.sN]/\U.tm 5=aI (sumI sc.sC ^ k)/\U.tm 6=aI k) ?_ ?_
 .simp [go_sem]
 rintro k U R ⟨l,t,C,o⟩;by_cases i:k<n
 .have I:=wF (sumI sc.sC) j.1 j.2 (k+1) zOm
  have e:sumI sc.sC ^ (k+1)=sumI sc.sC ^ k*sumI sc.sC:=Int.pow_succ ..;rw[e]at I;have J:(k:Int)<3:=zOm;simp[go_sem,l,t,C,o,i,J];refine tR (Xc sc g) (.zk (zp _) .nil) ?_;simp[go_sem,l,t,o,i]
  grind [zS]
 .have p:k=n:=by omega
  subst p;simp[go_sem,l,C,o];exact .zsc _
theorem nJ(l x)(g:∀ a,a∈l->0<=a):∀ k i,k<=l.length->sumI (l.take k)<=x->vd l x i=vd (l.drop k) (x-sumI (l.take k)) (i+k):=by
 intro k;induction k with
 |zero=>grind [sumI]
 |succ k j =>
  intro i p t;have o:=wR l k zOm;have C:=g _ (qq (show k<l.length by omega));rw[j i zOm zOm,gX l k _ _ zOm,zIn,o]
  grind
theorem qi6(sc)(g:GSc sc)(x:Nat)(hx:x<=1000):qd qb 197 [eSc sc,aI x] (aI (ve sc x)):=by
 have hl:=g.1;have l:∀ a,a∈sc.sC->0<=a:=fun a T=>(g.2 a T).1
 refine qSU call197 func197 rfl ?_;refine qi.up sc.sC.length (fun k U=>U.tm 1=aI x/\U.tm 2 = .ip [lI sc.sC,aI sc.sN]/\U.tm 5=aI k/\sumI (sc.sC.take k)<=x) ?_ ?_
 .simp [go_sem,sumI]
 rintro k U J ⟨t,p,o,C⟩;by_cases j:k<sc.sC.length
 .have hs:=wR sc.sC k j
  have i:=nJ sc.sC x l k 0 J C;rw[gX sc.sC k _ _ j]at i;have P:qj.wrap ((k:Int)+1)=((k+1:Nat):Int):=by grind [zS]
  simp[go_sem,t,p,o,j];refine tR (Xb sc g k zOm) (.zk (zp _) (.zs .nil)) ?_;simp[go_sem,t,p,o,C,P];refine tR (Xb sc g (k+1) zOm) (.zk (zp _) (.zs .nil)) ?_;by_cases R:(x:Int)<sumI (sc.sC.take (k+1))
  .have e:ve sc x=k:=by
    unfold ve;rw[i,if_pos zOm];omega
   rw[e];simp[go_sem,o,R];exact .zsc _
  .simp [go_sem,t,p,o,j,R,P]
   omega
 .have I:k=sc.sC.length:=by omega
  subst I;have e:ve sc x = -1:=by
   unfold ve;rw[nJ sc.sC x l sc.sC.length 0 J C,zF];rfl
  rw[e];simp[go_sem,p,o];exact .zsc _
def digs(n:Int):Nat->Int->List Int
 | 0,_=>[]
 |k+1,r=>digs n k (r / n)++[r % n]
theorem Z0(n):∀ k r,(digs n k r).length=k
 | 0,_=>rfl
 |k+1,r=>by rw[digs,qZ,Z0 n k];rfl
theorem nK(n):∀ j x,divN n (x / n) j=divN n x (j+1)
 | 0,x=>rfl
 |j+1,x=>by rw[divN,nK n j x];rfl
theorem nL(n):∀ j r,digs n (j+1) r=(divN n r j % n) :: digs n j r
 | 0,r=>by simp[digs,divN]
 |j+1,r=>by
  rw[digs,nL n j (r / n),nK,yW];rfl
theorem Xd(n r)(i:0<n)(g:0<=r):∀ j,0<=divN n r j/\divN n r j<=r
 | 0=>⟨g,by simp[divN]⟩
 |j+1=>by
  have:=Xd n r i g j;rw[divN];have l:=Int.ediv_le_self n this.1;exact⟨Int.ediv_nonneg this.1 zOm,zOm⟩
theorem qi7{mu b cells ds}(o:mu[b]?=some (.arr cells))(h:∀ i (I:i<ds.length),cells[i]?=some (aI ds[i])):Rd mu (.sl b 1 0 ds.length) (lI ds):=by
 refine .sl b 1 0 ds.length cells (ds.map rI) o ?_ zSp (fun r p=>by obtain⟨x,_,rfl⟩:=qn.1 p;rfl) fun k x y g l=>?_
 .grind
 .rw [yJ]at g
  rw[GD.uE,zB,vH]at l;obtain⟨z,t,rfl⟩:=l;have C:=(qg.1 t);obtain⟨j,rfl⟩:=C;rw[h k j]at g;cases g;exact .zsc _
theorem qi8(sc)(g:GSc sc)(hp:0<sumI sc.sC)(k:Nat)(hk:k<=3)(r:Nat)(hr:(r:Int)<sumI sc.sC ^ k):qd qb 135 [eSc sc,aI k,aI r] (lI (digs (sumI sc.sC) k r)):=by
 have hs:=g.sum sc.sC.length;rw[zi]at hs;have a7:=wF (sumI sc.sC) hs.1 hs.2 k hk;refine qSV call135 func135 rfl ?_;have a0:¬(3:Int)<k:=zOm;have a1:¬(k:Int)<0:=zOm;have a2:¬(r:Int)<0:=zOm;simp[go_sem,a0,a1,a2];refine tR (nI sc g k hk) (.zk (zp _) (.zs .nil)) ?_;have a3:¬sumI sc.sC ^ k<=(r:Int):=zOm;simp[go_sem,a3];refine tR (Xc sc g) (.zk (zp _) .nil) ?_;generalize hN:sumI sc.sC=N at *
 have w0:qj.wrap ((k:Int)-1)=(k:Int)-1:=zWr;simp[go_sem,w0];refine tW (fun m U=>∃ j:Nat,m=k-j/\j<=k/\U.tm 1=aI k/\U.tm 7 = .sl 0 1 0 3/\U.tm 8=aI N/\U.tm 9=aI (divN N r j)/\U.tm 10=aI ((k:Int)-1-j)/\∃ c0 c1 c2,U.mu=[.arr [aI c0,aI c1,aI c2]]/\∀ i (J:i<j),[c0,c1,c2][k-j+i]?=some ((digs N j r)[i]'(by rw[Z0];exact J))) k ?_ ?_
 .exact ⟨0,zOm,zOm,zSi,zSi,zSi,by simp[go_sem,divN],zSi,0,0,0,zSi,fun i J=>zOm⟩
 rintro m U ⟨j,rfl,hj,T,e7,P,e9,o,c0,c1,c2,hm,hc⟩;by_cases a8:j<k
 .obtain ⟨d,rfl⟩:∃ d:Nat,k=j+1+d:=⟨k-(j+1),zOm⟩
  have p:d=0\/d=1\/d=2:=zOm;have ex:(((j+1+d:Nat):Int)-1-j)=(d:Int):=zOm;rw[ex]at o;have R:=Xd N r hp zOm j;have a9:(r:Int)<=8000:=zOm;have hq:(divN N r j).tdiv N=divN N r (j+1):=by rw[divN,Int.tdiv_eq_ediv_of_nonneg R.1]
  have t:(divN N r j).tmod N=divN N r j % N:=Int.tmod_eq_emod_of_nonneg R.1;have a6:=Xd N r hp zOm (j+1);have w1:qj.wrap (divN N r (j+1))=divN N r (j+1):=zWr;have C:¬N=0:=zOm;have aa:(digs N (j+1) r)=(divN N r j % N) :: digs N j r:=nL N j r;have a4:=Z0 N j r;rcases p with p|p|p
  .have l:U.tm 10=aI 0:=by rw[o,p];rfl
   have w2:qj.wrap (-1) = -1:=zWr;simp[go_sem,e7,P,e9,l,hm,C,hq,t,w1,w2];refine Keep.loop (j+1+d-(j+1)) zOm ⟨j+1,rfl,zOm,zS1 T,by simp[go_sem,e7],zS1 P,zSi,by simp[go_sem];omega,divN N r j % N,c1,c2,zSi,fun i J=>?_⟩
   grind
  .have l:U.tm 10=aI 1:=by rw[o,p];rfl
   have w2:qj.wrap (0)=0:=zWr;simp[go_sem,e7,P,e9,l,hm,C,hq,t,w1,w2];refine Keep.loop (j+1+d-(j+1)) zOm ⟨j+1,rfl,zOm,zS1 T,by simp[go_sem,e7],zS1 P,zSi,by simp[go_sem];omega,c0,divN N r j % N,c2,zSi,fun i J=>?_⟩
   grind
  .have l:U.tm 10=aI 2:=by rw[o,p];rfl
   have w2:qj.wrap (1)=1:=zWr;simp[go_sem,e7,P,e9,l,hm,C,hq,t,w1,w2];refine Keep.loop (j+1+d-(j+1)) zOm ⟨j+1,rfl,zOm,zS1 T,by simp[go_sem,e7],zS1 P,zSi,by simp[go_sem];omega,c0,c1,divN N r j % N,zSi,fun i J=>?_⟩
   grind
 .have a5:j=k:=by omega
  subst a5;have hn:¬(j:Int)<=(j:Int)-1:=zOm;have h3:(j:Int)<=3:=zOm;simp[go_sem,T,e7,o,hm,hn,h3];have a4:=Z0 N j r;have:=qi7 (mu:=[.arr [aI c0,aI c1,aI c2]]) (b:=0) (cells:=[aI c0,aI c1,aI c2]) (ds:=digs N j r) rfl fun i J=>by
   have:=hc i zOm;rw[Nat.sub_self,yJ]at this;rw[show [aI c0,aI c1,aI c2]=[c0,c1,c2].map aI from rfl,zB,this];rfl
  grind
def fitB(sc:Sc)(ds g:List Int):Bool:=allN (fun i=>decide (ve sc (gI ds i)=gI g i)) g.length
theorem qi9(sc)(g:GSc sc)(ds j)(hl:ds.length=j.length)(a0:j.length<=3)(hd:∀ d,d∈ds->0<=d/\d<=1000):qd qb 136 [eSc sc,lI ds,lI j] (aB (fitB sc ds j)):=by
 refine qSU call136 func136 rfl ?_;refine qi.up j.length (fun k U=>U.tm 1=lI ds/\U.tm 2=lI j/\U.tm 3 = .ip [lI sc.sC,aI sc.sN]/\U.tm 7=aI k/\∀ i,i<k->ve sc (gI ds i)=gI j i) ?_ ?_
 .simp [go_sem]
 rintro k U hk ⟨J,p,P,e7,hi⟩;by_cases l:k<j.length
 .have o:k<ds.length:=by omega
  have t:=hd ds[k] (qq o);obtain⟨d,C⟩:=Int.eq_ofNat_of_zero_le t.1;simp[go_sem,p,e7,l];refine tN zKr ?_;simp[go_sem,J,P,e7,o];have R:=qi6 sc g d zOm;rw[<-C]at R;refine tR R (.zk (zp _) (.zs .nil)) ?_;have g1:gI ds k=ds[k]:=jP o;have g2:gI j k=j[k]:=jP l;by_cases T:ve sc ds[k]=j[k]
  .simp [go_sem,J,p,P,e7,l,T]
   refine⟨zWr,fun i a1=>?_⟩;by_cases h:i=k
   .grind
   grind
  .have hf:fitB sc ds j=false:=qf2 l (by grind)
   rw[hf];simp[go_sem,p,e7,l,T];exact .zsc _
 .have I:k=j.length:=by omega
  subst I;have hf:fitB sc ds j=true:=Vt.2 fun i h=>by grind
  rw[hf];simp[go_sem,p,e7];exact .zsc _
theorem Xe(n)(i:0<n)(g:n<=20):∀ k r,∀ d,d∈digs n k r->0<=d/\d<=1000
 | 0,_,d,h=>by simp[digs]at h
 |k+1,r,d,h=>by
  rw[digs,qL]at h;rcases h with h|h
  .exact Xe n i g k _ d h
  .rw [qO]at h;subst h
   have j:=Int.emod_nonneg r (show n≠0 by omega);have l:=Int.emod_lt_of_pos r i;omega
def jB(sc:Sc)(g:List Int)(r:Nat):List Int:=((qp r).filter fun k:Nat=>fitB sc (digs (sumI sc.sC) g.length k) g).map fun k:Nat=>(k:Int)
theorem qjA(sc g r):jB sc g (r+1)=jB sc g r++(if fitB sc (digs (sumI sc.sC) g.length r) g then [(r:Int)] else []):=by
 unfold jB;rw[List.range_succ,List.filter_append,List.map_append];by_cases h:fitB sc (digs (sumI sc.sC) g.length r) g=true<;>simp[h]
theorem nM(sc g r):(jB sc g r).length<=r:=by
 grind [List.length_filter_le,fitB,digs,sumI,qp,List.length_range,jB]
theorem nN(sc g r):(jB sc g r).Pairwise (·<·):=by
 unfold jB;rw[List.pairwise_map];exact(List.pairwise_lt_range.filter _).imp fun h=>zOm
theorem qjB(sc g r):∀ x,x∈jB sc g r->0<=x/\x<r:=fun x i=>by
 obtain⟨k,j,rfl⟩:=qn.1 i;have:=zO.1 (jC.1 j).1;omega
def yo(sc:Sc)(g:List Int):List Int:=jB sc g (sumI sc.sC ^ g.length).toNat
theorem qjC(sc)(g:GSc sc)(hp:0<sumI sc.sC)(l:List Int)(h1:1<=l.length)(h3:l.length<=3)(hs:∀ s,s∈l->0<=s/\s<sc.sC.length):qd qb 67 [eSc sc,lI l] (eRel ⟨l.length,yo sc l⟩):=by
 have P:=g.sum sc.sC.length;rw[zi]at P;have a3:=wF (sumI sc.sC) P.1 P.2 l.length h3;obtain⟨R,hR⟩:=Int.eq_ofNat_of_zero_le a3.1;have a4:yo sc l=jB sc l R:=by rw[yo,hR];rfl
 refine qSV call67 func67 rfl ?_;have n1:¬(l.length:Int)<1:=zOm;have n3:¬(3:Int)<(l.length:Int):=zOm;simp[go_sem,n1,n3];refine qi.up l.length (fun k U=>U.tm 1=lI l/\U.tm 2 = .ip [lI sc.sC,aI sc.sN]/\U.tm 4 = .ptr 0 0/\U.tm 5=aI l.length/\U.tm 6=aI k/\U.mu=[.arr [aI 0,.lst true []]]) ?_ ?_
 .simp [go_sem]
 rintro k U hk ⟨e1,I,e4,C,e6,hm⟩;by_cases t:k<l.length
 .have a6:=hs l[k] (qq t)
  have m1:¬l[k]<0:=zOm;have m2:¬(sc.sC.length:Int)<=l[k]:=zOm;simp[go_sem,C,e6,hm,t];refine tN zKr ?_;simp[go_sem,e1,I,e4,C,e6,t,m1,m2]
  grind [zS]
 have T:k=l.length:=zOm;subst T;simp[go_sem,C,e6,hm];refine tW (fun m U=>∃ k i o,m=R-k/\k<=R/\U.tm 1=lI l/\U.tm 2 = .ip [lI sc.sC,aI sc.sN]/\U.tm 4 = .ptr 0 0/\U.tm 5=aI l.length/\U.tm 7 = .ptr 1 0/\U.tm 8=aI (k:Nat) /\
  U.mu=[.arr [aI 0,.lst true []],.arr [aI l.length,i]]++o/\OwnF 2 ([.dead,.dead]++o) 1 i ((jB sc l k).map rI)) R ?_ ?_
 .exact ⟨0,.lst true [],[],zOm,zOm,zS1 e1,zS1 I,zS1 e4,zS1 C,zSi,zSi,zSi,by grind [jB,OwnF.nil]⟩
 rintro m U ⟨k,i,o,rfl,hk,e1,I,e4,C,e7,e8,hm,ho⟩;have ho:=ho.low (low:=[.dead,.dead]) (low':=[.arr [aI 0,.lst true []],.arr [aI l.length,i]]) rfl;simp[go_sem,I,C,e8,hm];refine tR (nI sc g l.length h3) (.zk (zp _) (.zs .nil)) ?_;rw[hR];by_cases t:k<R
 .simp [go_sem,I,C,e8,t]
  refine tR (qi8 sc g hp l.length h3 k zOm) (.zk (zp _) (.zs (.zs .nil))) ?_;simp[go_sem,e1,I];refine tR (qi9 sc g _ l (Z0 _ _ _) h3 (Xe _ hp zOm _ _)) (.zk (zp _) (.zk (zy _) (.zk (zy _) .nil))) ?_;have a0:=qjA sc l k;have a7:=nM sc l k;cases hb:fitB sc (digs (sumI sc.sC) l.length k) l with
  |false =>
   rw[hb]at a0;simp[go_sem,e8];refine Keep.loop (R-(k+1)) zOm ⟨k+1,i,o,rfl,zOm,zS1 e1,zS1 I,zS1 e4,zS1 C,by simp[go_sem,e7],?_,zSi,?_⟩
   .simp [go_sem];grind [zS]
   grind
  |true =>
   rw[hb]at a0;simp[go_sem,e7,e8];refine fH (low:=[.arr [aI 0,.lst true []],.arr [aI l.length,i]]) (e:=3) (bt:=8) (z:=0) (xs:=jB sc l k) (ys:=[(k:Int)]) zSi zSi zSi zOm ho (by simp[qE]) zSo ?_;intro a5 a1 a2;simp[go_sem,e7,e8,a2.cells,a2.one];refine Keep.loop (R-(k+1)) zOm ⟨k+1,a5,a1,rfl,zOm,zS1 e1,zS1 I,zS1 e4,zS1 C,by simp[go_sem,e7],?_,zSi,?_⟩
   .simp [go_sem];grind [zS]
   .rw [a0]
    simpa[go_sem] using a2.low (low':=[.dead,.dead]) rfl
 .have T:k=R:=by omega
  subst T;simp[go_sem,e4,e7,ho.one];rw[a4];exact Rd.rel (r:=⟨l.length,jB sc l k⟩) (ho.low (low:=[.arr [aI 0,.lst true []],.arr [aI l.length,i]]) (low':=[.arr [aI l.length,i],.arr [aI l.length,i]]) rfl).rdI
end G5
namespace GM
end GM
namespace GP
open P1 G5
def defB(ts:TS)(sc:Sc):List Bd:=ts.sA.map fun f=>⟨⟨f.sS.length,[]⟩,⟨f.sS.length,yo sc f.sS⟩⟩
end GP
namespace GQ
def nO(sc:Sc):Bool:=decide (sc.sC.length<=4)&&(decide (1<=sc.sN)&&(decide (sc.sN<=4)&&(sc.sC.all (fun a=>decide (1<=a)&&decide (a<=5))&&decide (sumI sc.sC<=12))))
end GQ
namespace GR
open P1 F4 G5
theorem Xf{J:Type}{mu f g}:∀{l:List J},(∀ a,a∈l->Rds mu (f a) (g a))->∀(k:Nat) x y,(l.map f).flatten[k]?=some x->(l.map g).flatten[k]?=some y->Rd mu x y
 | [],_,k,x,y,i,_=>by simp at i
 |a :: l,h,k,x,y,i,j=>by
  obtain⟨o,p⟩:=(h a (qX ..)).get;simp only[zc,List.flatten_cons]at i j;by_cases t:k<(f a).length
  .rw [qB t]at i
   rw[zGa]at j;exact p k x y i j
  .rw [zY zOm]at i
   rw[zY zOm,o]at j;exact Xf (fun b C=>h b (qP _ C)) _ x y i j
theorem aZ{J:Type}{mu sz av f g}{l:List J}(h:Own mu sz av (l.map f))(wf:yR sz (l.map f))(j:yR sz (l.map g))(p:∀ a,a∈l->Rds mu (f a) (g a)):Rd mu av (.lst false (l.map g)):=by
 rcases h with rfl|⟨b,rfl,t⟩
 .refine .wk _ true _ (.lst true _ _ zSp (fun k x y i o=>?_) (Xf p))
  rw[wf x (qN i),j y (qN o)]
 .refine .sl b sz 0 _ _ _ t (zW1 (yD wf)) zSp j (fun k x y i o=>?_)
  rw[yJ]at i
  grind [Xf]
theorem Xg:∀{l},l≠[]->(∀ a,a∈l->1<=a)->1<=sumI l
 | [],h,_=>absurd rfl h
 | [a],_,h=>by simp_all[sumI]
 |a :: b :: l,_,h=>by
  have j:=h a zSp;have g:=Xg (l:=b :: l) zSp fun x i=>h x (qP _ i)
  simp only[sumI,List.foldr_cons]at g⊢;omega
structure Fit9 (ts:TS) (sc:Sc):Prop where
 g:GSc sc
 p:0<sumI sc.sC
 nf:ts.sA.length<=6
 ns:ts.sS.length=sc.sC.length
 s1:1<=sc.sN
 s4:sc.sN<=4
 f1:∀ f,f∈ts.sA->1<=f.sS.length/\f.sS.length<=3
 fs:∀ f,f∈ts.sA->∀ s,s∈f.sS->0<=s/\s<sc.sC.length
def rowD(sc:Sc)(f:Fld):List AV:=[aI f.sS.length,.lst true [],aI f.sS.length,lI (yo sc f.sS)]
theorem Xh(sc)(l:List Fld):qW 4 (l.map (rowD sc)):=fun r g=>by
 obtain⟨n,_,rfl⟩:=qn.1 g;exact⟨rfl,rfl⟩
end GR
namespace GS
end GS
namespace GG
@[go_sem ↓] theorem qsD(P pl l Q o k r T st i op ty pos after j g) :
  segO P pl l Q o k r T st (some ⟨i,op,ty,pos,after,some (j,g)⟩)=Yy ((l[j]?).bind (·.dst)) st g (fun st=>segO P pl l Q o k r T st (some ⟨i,op,ty,pos,after,none⟩)) (fun st=>awpT P pl l.toArray Q o T (st.put i (.sc xc) st.mu)):=by
 simp only[segO,yd,Yy,List.getElem?_toArray]
 grind [brK,BrS,OptK,Br]
end GG
namespace GH
end GH
namespace GU
end GU
namespace GN
open E3
instance:DecidableEq Sc:=fun a b=>decidable_of_iff (a.sC=b.sC/\a.sN=b.sN) (by
 obtain⟨a1,a2⟩:=a;obtain⟨b1,b2⟩:=b;simp)
instance:DecidableEq Md:=fun a b=>decidable_of_iff (a.sc=b.sc/\a.sK=b.sK/\a.loop=b.loop) (by
 obtain⟨a1,a2,a3⟩:=a;obtain⟨b1,b2,b3⟩:=b;simp)
end GN
namespace GV
end GV
namespace GW
open YF P1 E1 E4 E9 EL EO ER EW GA GF G5 GR
theorem nP:∀ l x i,0<=x->vd l x i = -1\/∃(j:Nat) (h:j<l.length),vd l x i=i+j/\0<=x-sumI (l.take j)/\x-sumI (l.take j)<l[j]
 | [],x,i,_ => .inl rfl
 |a :: l,x,i,h=>by
  rw[vd];by_cases g:x<a
  .grind [sumI]
  .rw [if_neg g]
   rcases nP l (x-a) (i+1) zOm with e|⟨j,o,p,t,C⟩
   .exact .inl e
   .refine .inr ⟨j+1,zUs o,by rw[p];push_cast;omega,?_,?_⟩
    .simp only[List.take_succ_cons,sumI,List.foldr_cons]at t⊢;omega
    .simp only[List.take_succ_cons,sumI,List.foldr_cons,List.getElem_cons_succ]at C⊢;omega
def yx(n:Int)(ds:List Int)(p:Int):Int:=ds.foldl (fun p d=>p*n+d) p
theorem nQ(n)(i:0<n):∀ k r,0<=r->r<n ^ k->yx n (digs n k r) 0=r
 | 0,r,j,g=>by
  have:r=0:=by rw[Int.pow_zero]at g;omega
  subst this;rfl
 |k+1,r,j,g=>by
  have l:r / n<n ^ k:=Int.ediv_lt_of_lt_mul i (by rw[<-Int.pow_succ];exact g);rw[digs,yx,ul];show yx n (digs n k (r / n)) 0*n+r % n=r;rw[nQ n i k (r / n) (Int.ediv_nonneg j zOm) l,Int.mul_comm];exact Int.mul_ediv_add_emod r n
theorem nR(sc)(P:∀ a,a∈sc.sC->0<=a):∀(l ds:List Int)(p),ds.length=l.length->(∀ s,s∈l->0<=s)->(∀(i h)(h2:i<l.length),0<=ds[i]/\ve sc ds[i]=l[i])->yx (sumI sc.sC) ds p∈tupR sc l p
 | [],[],p,_,_,_=>by simp[tupR,yx]
 |s :: l,d :: ds,p,o,J,h=>by
  rw[tupR,uV];obtain⟨t,g⟩:=h 0 zSp zSp;simp only[List.getElem_cons_zero]at t g;have R:=J s zSp;rcases nP sc.sC d 0 t with e|⟨j,T,U,e2,e3⟩
  .rw [ve,e]at g;omega
  .rw [ve,U]at g
   have C:s.toNat=j:=zOm;have hg:gI sc.sC s.toNat=sc.sC[j]:=by rw[C];exact jP T
   refine⟨(d-sumI (sc.sC.take j)).toNat,zO.2 (by rw[hg];omega),?_⟩;have:=nR sc P l ds (p*sumI sc.sC+d) (zUs o) (fun s hs=>J s (zP1 hs)) (fun i hi I=>h (i+1) (zUs hi) (zUs I));rw[C,show sumI (sc.sC.take j)+((d-sumI (sc.sC.take j)).toNat:Int)=d by omega];exact this
 | [],_ :: _,_,o,_,_=>by simp at o
 |_ :: _,[],_,o,_,_=>by simp at o
theorem nS(sc)(g:GSc sc)(C:0<sumI sc.sC)(l:List Int)(J:l.length<=3)(P:∀ s,s∈l->0<=s/\s<sc.sC.length):∀ x,x∈yo sc l->x∈tupR sc l 0:=fun x I=>by
 have j:=g.sum sc.sC.length;rw[zi]at j;have R:=wF (sumI sc.sC) j.1 j.2 l.length J;unfold yo jB at I;obtain⟨r,T,rfl⟩:=qn.1 I;obtain⟨U,h2⟩:=jC.1 T;rw[zO]at U;have o:(r:Int)<sumI sc.sC ^ l.length:=zOm;have hf:=nQ (sumI sc.sC) C l.length r zOm o;have hm:=nR sc (fun a ha=>(g.2 a ha).1) l (digs (sumI sc.sC) l.length r) 0 (Z0 _ _ _) (fun s p=>(P s p).1) (fun i hi t=>?_)
 .grind
 .have hd:=Xe (sumI sc.sC) C j.2 l.length r _ (qq hi)
  refine⟨hd.1,?_⟩;have:=Vt.1 h2 i t
  grind [jP]
theorem qjD(n)(r:Rl)(T:0<=n)(a0:n<=12)(k:Nat)(hk:r.ar=k)(k1:1<=k)(k3:k<=3)(hl:r.ts.length<=1000000000)(hs:r.ts.Pairwise (·<·))(ht:∀ t,t∈r.ts->0<=t/\t<n ^ k):qd qb 54 [aI n,eRel r] (aB true):=by
 have C:=gw n T zOm k k3;refine qSV call54 func54 rfl ?_;have n1:¬n<0:=zOm;have n2:¬ 12<n:=zOm;have n3:¬r.ar<1:=zOm;have n4:¬ 3<r.ar:=zOm;simp[go_sem,n1,n2,n3,n4];refine fZ r.ts.length (fun j U=>U.tm 0=aI n/\U.tm 3 = .ip [aI r.ar,lI r.ts]/\U.tm 25=lI r.ts/\U.tm 26=aI r.ts.length/\U.tm 27=aI j/\∃ last:Int,U.tm 5=aI last/\∀(i:Nat)(h:i<r.ts.length),j<=i->last<r.ts[i]) ?_ ?_
 .exact ⟨zSi,zSi,zSi,zSi,zSi,-1,zSi,fun i h _=>by grind [qq]⟩
 rintro j U hj ⟨P,R,p,l,o,last,e5,I⟩;by_cases g:j<r.ts.length
 .have w1:=zWk j
  have a1:=I j g (qh _);have a2:=ht _ (qq g);have m1:¬r.ts[j]<=last:=zOm;have m2:¬n ^ k<=r.ts[j]:=zOm;simp[go_sem,P,R,p,l,o,e5,g,m1];refine tR C (by rw[hk];exact .zs (.zs .nil)) ?_;simp[go_sem,o,g,m2,w1]
  try refine⟨g,aK ?_⟩
  try refine aK ?_
  exact⟨zS1 P,zS1 R,zS1 p,zS1 l,zSi,r.ts[j],zSi,fun i h hi=>List.pairwise_iff_getElem.1 hs j i g h zOm⟩
 .have J:j=r.ts.length:=by omega
  simp[go_sem,l,o,J];exact .zsc _
structure BndV (ts:TS) (sc:Sc) (bs:List Bd):Prop where
 len:bs.length=ts.sA.length
 lo:∀(i:Nat)(h:i<bs.length)(h2:i<ts.sA.length),bs[i].lo.ar=ts.sA[i].sS.length/\bs[i].up.ar=ts.sA[i].sS.length
 so:∀ b,b∈bs->b.lo.ts.Pairwise (·<·)/\b.up.ts.Pairwise (·<·)
 sub:∀ b,b∈bs->∀ t,t∈b.lo.ts->t∈b.up.ts
 full:∀(i:Nat)(h:i<bs.length)(h2:i<ts.sA.length),∀ t,t∈bs[i].up.ts->t∈yo sc ts.sA[i].sS
theorem nT{a b}(h:∀ t,t∈a.ts->t∈b.ts):(diR a b).ts=[]:=by
 grind [diR,List.filter_eq_nil_iff]
theorem nU(sc l):∀ t,t∈yo sc l->0<=t/\t<(sumI sc.sC ^ l.length).toNat:=fun t g=>qjB _ _ _ t g
theorem nV(sc)(g:GSc sc)(l)(j:l.length<=3):(yo sc l).length<=8000:=by
 have i:=g.sum sc.sC.length;rw[zi]at i;have o:=wF (sumI sc.sC) i.1 i.2 l.length j;refine zM (nM _ _ _) ?_;omega
theorem qjE{a b:List Int}(g:a.Pairwise (·<·))(h:∀ t,t∈a->t∈b):a.length<=b.length:=yY (qhI g) h
theorem relT(ts sc)(F:Fit9 ts sc)(l:sumI sc.sC<=12)(f)(hf:f∈ts.sA)(r:Rl)(o:r.ar=f.sS.length)(C:r.ts.Pairwise (·<·))(i:∀ t,t∈r.ts->t∈yo sc f.sS):qd qb 54 [aI (sumI sc.sC),eRel r] (aB true)/\r.ts.length<=8000:=by
 have R:=qjE C i;have I:=nV sc F.g f.sS (F.f1 f hf).2;have T:=F.p;have j:=F.g.sum sc.sC.length;rw[zi]at j;have J:=wF (sumI sc.sC) j.1 j.2 f.sS.length (F.f1 f hf).2;exact⟨qjD _ r zOm l f.sS.length o (F.f1 f hf).1 (F.f1 f hf).2 zOm C fun t P=>zW1 (nU sc f.sS t (i t P)),zOm⟩
theorem qjF(ts sc)(F:Fit9 ts sc)(f)(hf:f∈ts.sA)(r)(J:r.ts.length<=8000)(i:∀ t,t∈r.ts->t∈yo sc f.sS):qd qb 55 [eRel r,eRel ⟨f.sS.length,tupR sc f.sS 0⟩] (aB true):=by
 have j:=WZ sc F.g (fun a l=>(F.g.2 a l).1) f.sS (F.fs f hf) 0;have o:=(F.f1 f hf).2;have C:(20:Nat) ^ f.sS.length<=8000:=by
  rcases (show f.sS.length=0\/f.sS.length=1\/f.sS.length=2\/f.sS.length=3 by omega) with e|e|e|e<;>rw[e]<;>decide
 have h:=inU r ⟨f.sS.length,tupR sc f.sS 0⟩ zOm (by grind)
 rwa[nT fun t I=>nS sc F.g F.p f.sS o (F.fs f hf) t (i t I),decide_eq_true rfl]at h
theorem nW(fs:List Fld)(bs)(J:bs.length=fs.length)(hn:fs.length<=1000000)(p g caps)(t:p = .fn (.func g) [] caps)(P:HF p)
  (h:∀(i h1)(h2:i<bs.length),∃ args',WKs ([Wq fs[i],eBd bs[i]]++caps) args'/\qd qb g args' (aB true)) :
  qd qb 52 [.lst false (fs.map yT),lBd bs,p] (aB true):=by
 subst t;refine qSV call52 func52 rfl ?_;simp[go_sem,J];refine fZ fs.length (fun k U=>U.tm 0 = .lst false (fs.map yT)/\U.tm 1=lBd bs/\U.tm 2 = .fn (.func g) [] caps/\U.tm 14=aI fs.length/\U.tm 15=aI k) ?_ ?_
 .simp [go_sem, *]
 rintro k U hk ⟨R,T,e2,l,o⟩;by_cases j:k<fs.length
 .have w1:=zWk k
  obtain⟨args',hw,hc⟩:=h k j zOm;have C:k<bs.length:=zOm;simp[go_sem,l,o,j];refine tN zKr ?_;simp[go_sem,R,T,e2,j,C];refine qc.clo hc (zUs hw) ?_;simp_all[go_sem,aK]
 .have I:k=fs.length:=by omega
  simp[go_sem,l,o,I];exact .zsc _
theorem qjG(ts sc bs)(F:Fit9 ts sc)(a0:sumI sc.sC<=12)(B:BndV ts sc bs):qd qb 19 [eTS ts,eSc sc,lBd bs] (aB true):=by
 have a8:=F.nf;have a4:∀(i:Nat)(R:i<ts.sA.length)(T:i<bs.length),qd qb 53 [Wq ts.sA[i],eBd bs[i],.ip [aI (sumI sc.sC)],.ip [lI sc.sC,aI sc.sN]] (aB true):=fun i R T=>by
  obtain⟨a1,U⟩:=B.lo i T R;have l:=qq R;have I:=qq T;obtain⟨s1,s2⟩:=B.so _ I;have J:=B.full i T R;have a5:∀ t,t∈bs[i].lo.ts->t∈yo sc ts.sA[i].sS:=fun t ht=>J t (B.sub _ I t ht)
  obtain⟨v1,l1⟩:=relT ts sc F a0 _ l bs[i].lo a1 s1 a5;obtain⟨v2,l2⟩:=relT ts sc F a0 _ l bs[i].up U s2 J;have i1:=inU bs[i].lo bs[i].up zOm zOm;rw[nT (B.sub _ I),decide_eq_true rfl]at i1;have i2:=qjF ts sc F _ l bs[i].up l2 J;have a6:=EW.W0 sc F.g (fun a ha=>(F.g.2 a ha).1) ts.sA[i].sS (F.fs _ l) (F.f1 _ l).1 (F.f1 _ l).2;have w2:∀ r:Rl,WKs [aI (sumI sc.sC),eRel r] [aI (sumI sc.sC),eRel r]:=fun r => .zs (.zk (qt _) .nil)
  have wr:∀(r:Rl)(x:Int),r.ar=x->WK (.agg [aI x,lI r.ts]) (eRel r):=fun r x e=>by subst e;exact .hf (qt r)
  have wa:=wr bs[i].lo _ a1;have wb:=wr bs[i].up _ U;refine qSV call53 func53 rfl ?_;simp[go_sem,a1,U];refine tR v1 (.zs (.cons wa .nil)) ?_;simp[go_sem,U];refine fB v2 (.zs (.cons wb .nil)) ?_;refine tN zKr ?_;simp[go_sem,a1,U];refine tR i1 (.cons wa (.cons wb .nil)) ?_;simp[go_sem,U];refine fB a6 (.zk (zp _) (.zk (zy _) .nil)) ?_;refine fB i2 (.cons wb (.zk (qt _) .nil)) ?_;exact .zsc _
 have j:HF (.ip [lI sc.sC,aI sc.sN]):=HF.ip fun c p=>by simp at p;rcases p with rfl|rfl;exact zy _;exact HF.sc _
 have C:HF (.ip [aI (sumI sc.sC)]):=HF.ip fun c p=>by grind [HF.sc]
 have a3:HF (.fn (.func 53) [] [.ip [aI (sumI sc.sC)],.ip [lI sc.sC,aI sc.sN]]):=HF.fn (fun c p=>by simp at p) (fun c p=>by simp at p;rcases p with rfl|rfl;exact C;exact j);have o:=nW ts.sA bs B.len zOm _ _ _ rfl a3 fun i R T=>⟨_,by simpa using WKs.zk (pz _) (.zk (zJ _) (.zk C (.zk j .nil))),a4 i R T⟩
 refine qSU call19 func19 rfl ?_;refine fB (Zk sc F.g) (.zk (zp sc) .nil) ?_;refine fL (qr.freeze (args1:=[.lst false (ts.sA.map yT),lBd bs,.fn (.func 53) [] [.ip [aI (sumI sc.sC)],.ip [lI sc.sC,aI sc.sN]]]) (fun _=>true) ⟨.inl rfl,.inl rfl,.inr ?_,trivial⟩ (qd.toSound _ o (.zk (Zf ts.sA) (.zk (jJ _) (.zk a3 .nil))))) ?_ ?_
 .refine .fn _ _ _ _ _ rfl rfl (fun k x y P hy=>by simp at P) (fun k x y P hy=>?_)
  match k with
  | 0=>simp at P hy;subst P;subst hy;exact ER.Rd.ip1 (x:=aI (sumI sc.sC)) (by simp[cutM]) (.hf _ (HF.sc _))
  | 1=>simp at P hy;subst P;subst hy;exact .hf _ j
  |k+2=>simp at P
 .rintro r m ⟨h,rfl⟩
  cases h;simp[go_sem];exact .zsc _
 grind
end GW
namespace LA
open E9 EW G5 GW
theorem Jn(a l):sumI (a :: l)=a+sumI l:=rfl
theorem Z1:∀ m,(∀ a,a∈m->0<=a)->0<=sumI m
 | [],_=>jO _
 |a :: m,h=>by have:=Z1 m fun b g=>h b (zP1 g);have:=h a zSp;rw[Jn];omega
theorem Xi:∀ m j i,(∀ a,a∈m->0<=a)->sumI (m.take j)+m[j]<=sumI m
 |a :: m,0,_,h=>by have:=Z1 m fun b g=>h b (zP1 g);show (0:Int)+a<=_;rw[Jn];omega
 |a :: m,j+1,i,h=>by have:=Xi m j (zUs i) fun b g=>h b (zP1 g);rw[List.take_succ_cons,Jn,Jn,List.getElem_cons_succ];omega
theorem nX:∀ l j k i t,(∀ a,a∈l->0<=a)->0<=k->k<l[j]->vd l (sumI (l.take j)+k) i=i+j
 |a :: l,0,k,i,_,_,C,g=>by
  have:sumI ([]:List Int)=0:=rfl;simp only[List.getElem_cons_zero]at g;rw[vd,List.take_zero,this,if_pos zOm];simp
 |a :: l,j+1,k,i,t,o,C,g=>by
  have I:=o a zSp;have J:=Z1 (l.take j) fun b p=>o b (by simp[uX p])
  rw[vd,List.take_succ_cons,Jn,zIn];have:=nX l j k (i+1) (zUs t) (fun b p=>o b (zP1 p)) C (zUs g);rw[show a+sumI (l.take j)+k-a=sumI (l.take j)+k by omega,this]
  push_cast;omega
def OkL(sc:Sc)(l:List Int):Prop:=∀ s,s∈l->0<=s/\s<sc.sC.length
theorem V0(sc)(g:∀ a,a∈sc.sC->0<=a):∀ l,OkL sc l->∀ p x,x∈tupR sc l p->∃ ds,ds.length=l.length/\x=yx (sumI sc.sC) ds p/\(∀ d,d∈ds->0<=d/\d<sumI sc.sC)/\∀(i h)(t:i<l.length),ve sc ds[i]=l[i]
 | [],_,p,x,h=>by
  simp[tupR]at h;exact⟨[],rfl,by simp[yx,h],zSp,zSp⟩
 |s :: l,C,p,x,h=>by
  rw[tupR,uV]at h;obtain⟨k,I,h⟩:=h;rw[zO]at I;obtain⟨h0,h1⟩:=C s zSp;have j:s.toNat<sc.sC.length:=zOm;rw[jP j]at I;obtain⟨ds,P,R,T,U⟩:=V0 sc g l (fun s hs=>C s (zP1 hs)) _ x h;have J:=Xi _ _ j g;have a0:=Z1 (sc.sC.take s.toNat) fun b hb=>g b (uX hb)
  refine⟨(sumI (sc.sC.take s.toNat)+k) :: ds,zP1 P,by rw[R];rfl,fun d o=>?_,fun i h t=>?_⟩
  .rcases qs.1 o with rfl|o
   .omega
   .exact T d o
  .cases i with
   |zero =>
    have:=nX sc.sC s.toNat k 0 j g zOm zOm;simp only[List.getElem_cons_zero,ve];rw[this];omega
   |succ i=>simpa using U i (zUs h) (zUs t)
theorem qjH(n ds d p):yx n (ds++[d]) p=yx n ds p*n+d:=by simp[yx]
theorem nY(n)(g:0<n):∀ k ds,ds.length=k->(∀ d,d∈ds->0<=d/\d<n)->(0<=yx n ds 0/\yx n ds 0<n ^ k)/\digs n k (yx n ds 0)=ds
 | 0,ds,h,_=>by
  obtain rfl:=un h;simp[yx,digs]
 |k+1,ds,h,j=>by
  obtain⟨C,d,rfl⟩:∃ C d,ds=C++[d]:=⟨ds.dropLast,ds.getLast (by intro e;simp[e]at h),(List.dropLast_concat_getLast _).symm⟩;obtain⟨⟨l,I⟩,o⟩:=nY n g k C (zUs h) fun d i=>j d (zP1 i)
  obtain⟨d1,d2⟩:=j d zSp;rw[qjH];have p:(yx n C 0*n+d) / n=yx n C 0:=by
   rw[Int.add_comm,Int.add_mul_ediv_right _ _ zOm,Int.ediv_eq_zero_of_lt d1 d2];omega
  have t:(yx n C 0*n+d) % n=d:=by
   rw[Int.add_comm,Int.add_mul_emod_self_right,Int.emod_eq_of_lt d1 d2]
  refine⟨⟨?_,?_⟩,?_⟩
  .have:=Int.mul_nonneg l (Int.le_of_lt g);omega
  .have:=Int.mul_le_mul_of_nonneg_right (show yx n C 0+1<=n ^ k by omega) (Int.le_of_lt g)
   rw[Int.pow_succ];rw[Int.add_mul]at this;omega
  .rw [digs,p,t,o]
theorem Xj(n)(g:0<n):∀ ds p,(∀ d,d∈ds->0<=d/\d<n)->p*n ^ ds.length<=yx n ds p/\yx n ds p<(p+1)*n ^ ds.length
 | [],p,_=>by simp[yx];omega
 |d :: ds,p,h=>by
  obtain⟨d1,d2⟩:=h d zSp;obtain⟨a,b⟩:=Xj n g ds (p*n+d) fun e j=>h e (zP1 j)
  have i:0<n ^ ds.length:=Int.pow_pos g;have e:n ^ (d :: ds).length=n ^ ds.length*n:=Int.pow_succ ..;have l:yx n (d :: ds) p=yx n ds (p*n+d):=rfl;rw[l,e];have c1:p*(n ^ ds.length*n)<=(p*n+d)*n ^ ds.length:=by
   rw[Int.add_mul,show p*(n ^ ds.length*n)=p*n*n ^ ds.length by rw[Int.mul_comm (n ^ ds.length),Int.mul_assoc]];have:=Int.mul_nonneg d1 (Int.le_of_lt i);omega
  have c2:(p*n+d+1)*n ^ ds.length<=(p+1)*(n ^ ds.length*n):=by
   rw[show (p+1)*(n ^ ds.length*n)=((p+1)*n)*n ^ ds.length by rw[Int.mul_comm (n ^ ds.length),Int.mul_assoc]];refine Int.mul_le_mul_of_nonneg_right ?_ (Int.le_of_lt i);rw[Int.add_mul];omega
  omega
theorem nZ(sc)(i:0<sumI sc.sC)(o:∀ a,a∈sc.sC->0<=a):∀ l,OkL sc l->∀ p,(tupR sc l p).Pairwise (·<·)
 | [],_,p=>by simp[tupR]
 |s :: l,I,p=>by
  have g:OkL sc l:=fun s J=>I s (zP1 J)
  rw[tupR];have:∀ m:Nat,((qp m).flatMap fun k:Nat=>tupR sc l (p*sumI sc.sC+(sumI (sc.sC.take s.toNat)+k))).Pairwise (·<·):=fun m=>by
   induction m with
   |zero=>simp
   |succ m P =>
    rw[List.range_succ,List.flatMap_append,List.pairwise_append];refine⟨P,by simpa using nZ sc i o l g _,fun x j y t=>?_⟩;rw[uV]at j;obtain⟨k,R,j⟩:=j;rw[zO]at R;simp only[uj,List.flatMap_nil,List.append_nil]at t;obtain⟨T,U,a2,a3,_⟩:=V0 sc o l g _ x j;obtain⟨C,b1,b2,b3,_⟩:=V0 sc o l g _ y t;have h1:=(Xj _ i T (p*sumI sc.sC+(sumI (sc.sC.take s.toNat)+k)) a3).2;have h2:=(Xj _ i C (p*sumI sc.sC+(sumI (sc.sC.take s.toNat)+m)) b3).1;rw[<-a2,U]at h1;rw[<-b2,b1]at h2;have:=Int.mul_le_mul_of_nonneg_right (show p*sumI sc.sC+(sumI (sc.sC.take s.toNat)+k)+1<=p*sumI sc.sC+(sumI (sc.sC.take s.toNat)+m) by omega) (Int.le_of_lt (Int.pow_pos i:0<sumI sc.sC ^ l.length));omega
  exact this _
theorem qjI(sc)(g:GSc sc)(o:0<sumI sc.sC)(l)(I:l.length<=3)(p:OkL sc l):tupR sc l 0=yo sc l:=by
 have t:∀ a,a∈sc.sC->0<=a:=fun a J=>(g.2 a J).1
 have s1:=nZ sc o t l p 0;have P:(yo sc l).Pairwise (·<·):=nN _ _ _;have j:∀ x,x∈tupR sc l 0->x∈yo sc l:=fun x R=>by
  obtain⟨T,U,a2,a3,a4⟩:=V0 sc t l p 0 x R;obtain⟨⟨b1,b2⟩,C⟩:=nY _ o l.length T U a3;rw[<-a2]at b1 b2 C;unfold yo jB;refine qn.2 ⟨x.toNat,jC.2 ⟨zO.2 zOm,?_⟩,zOm⟩;rw[show ((x.toNat:Nat):Int)=x by omega,C];exact Vt.2 fun i hi=>by
   have:=a4 i zOm zOm
   grind [jP]
 exact GA.gq s1 P fun x=>⟨j x,nS sc g o l I p x⟩
end LA
namespace KC
open Y2 P1 E1 E2 KA KB LA
section
variable {ts:TS}
structure ScN (ts:TS) (sc:Sc):Prop where
 g:GSc sc
 ns:ts.sS.length=sc.sC.length
 a1:∀ a,a∈sc.sC->1<=a
theorem ScN.n0{sc}(h:ScN ts sc):0<=sumI sc.sC:=Z1 _ fun a g=>by have:=h.a1 a g;omega
theorem ScN.le{sc}(h:ScN ts sc){i}(j:i<sc.sC.length):1<=sc.sC[i]/\0<=sumI (sc.sC.take i)/\sumI (sc.sC.take i)+sc.sC[i]<=sumI sc.sC:=
 ⟨h.a1 _ (qq j),Z1 _ fun a g=>zW1 (h.a1 a (uX g)),Xi _ _ j fun a g=>zW1 (h.a1 a g)⟩
def BdN(ts:TS)(n:Int)(bs:List Bd):Prop:=bs.length=ts.sA.length/\∀(i:Nat)(h:i<bs.length)(g:i<ts.sA.length),okI n ts.sA[i].sS.length bs[i]
theorem n6{nm}:∀{fs bs},bs.length=fs.length->(jA nm fs bs=none/\zG fs nm=[])\/∃(i:Nat) (h:i<bs.length) (j:i<fs.length),jA nm fs bs=some bs[i]/\fs[i].name=nm/\∃ r,zG fs nm=kOf fs[i].sS :: r
 | [],[],_ => .inl ⟨rfl,rfl⟩
 |f :: fs,b :: bs,h=>by
  by_cases g:f.name=nm
  .exact .inr ⟨0,zSp,zSp,by simp[jA,g],g,zG fs nm,by simp[zG,g]⟩
  .have l:jA nm (f :: fs) (b :: bs)=jA nm fs bs:=by simp[jA,g]
   have o:zG (f :: fs) nm=zG fs nm:=by simp[zG,g]
   rw[l,o];rcases n6 (nm:=nm) (fs:=fs) (bs:=bs) (zUs h) with ⟨a,b⟩|⟨i,p,j,a,b,r,c⟩
   .exact .inl ⟨a,b⟩
   .exact .inr ⟨i+1,zSo,zSo,zUs a,zUs b,r,zUs c⟩
theorem qjJ{sc}(h:ScN ts sc){i}(g:i<sc.sC.length):GR (sumI sc.sC) ⟨1,ZY sc i⟩:=by
 obtain⟨l,j,o⟩:=h.le g;unfold ZY;rw[jP g];exact GR.run _ j zOm
theorem qjK{sc}(h:ScN ts sc){i}(g:i<sc.sC.length):GR (sumI sc.sC) ⟨2,Zl sc i⟩:=by
 obtain⟨o,j,p⟩:=h.le g;unfold Zl;rw[jP g];by_cases l:(sc.sC[i].toNat-1)=0
 .rw [l];exact GR.nil zOm zOm
 .exact GR.sN h.n0 _ j zOm
theorem n7{sc}(h:ScN ts sc)(nm):∀ so i,i+so.length<=ts.sS.length->∀ k r,zV i so nm=k :: r->okI (sumI sc.sC) k.ar (Qd sc nm i so)
 | [],i,_,k,r,g=>by simp[zV]at g
 |s :: so,i,l,k,r,g=>by
  simp only[yh]at l;have j:i<sc.sC.length:=zW1 h.ns;obtain⟨p,o,t⟩:=h.le j;rw[zV,j9]at g;rw[Qd];by_cases c1:s.1=nm
  .rw [if_pos c1]at g⊢
   simp only[yW,jo,vK]at g;rw[<-g.1];exact ZZ (qjJ h j)
  rw[if_neg c1]at g⊢;by_cases c2:s.2=true/\s.1++jv=nm
  .rw [if_pos c2]at g⊢
   simp only[yW,jo,vK]at g;rw[<-g.1];exact ZZ (GR.one o zOm)
  rw[if_neg c2]at g⊢;by_cases c3:s.2=true/\s.1++jQ=nm
  .rw [if_pos c3]at g⊢
   simp only[yW,jo,vK]at g;rw[<-g.1];exact ZZ (qjK h j)
  rw[if_neg c3]at g⊢;exact n7 h nm so (i+1) zOm k r g
theorem qjL{sc}(h:ScN ts sc){bs}(j:BdN ts (sumI sc.sC) bs){c:Ck}(t:c.ts=ts){env nm}(l:Qc nm env=none){k r}(g:means ts nm=k :: r):okI (sumI sc.sC) k.ar (zt ⟨ts,sc,bs⟩ env nm):=by
 unfold zt;rw[l];simp only;unfold means at g;rcases n6 (nm:=nm) j.1 with ⟨a,b⟩|⟨i,o,p,a,b,C,e⟩
 .rw [a]
  rw[b,jo]at g;exact n7 h nm ts.sS 0 zOm k r g
 .rw [a]
  rw[e,yW]at g;simp only[vK]at g;rw[<-g.1];exact j.2 i o p
theorem qjM{sc}(h:ScN ts sc){bs}(j:BdN ts (sumI sc.sC) bs){c}(l:c.ts=ts):∀ nm a,arS c [] nm=some a->okI (sumI sc.sC) a (zt ⟨ts,sc,bs⟩ [] nm):=fun nm a g=>by
 unfold arS yk at g;have hf:yL nm ([]:Scp)=[]:=rfl;rw[hf]at g;simp only at g;subst l;cases i:means c.ts nm with
 |nil=>rw[i]at g;simp at g
 |cons k r =>
  rw[i]at g;cases r with
  |nil =>
   simp at g;rw[<-g];exact qjL h j rfl rfl i
  |cons=>simp at g
end
end KC
namespace KD
open E1 KA
def le(a b:Rl):Prop:=∀ t,t∈a.ts->t∈b.ts
theorem le.rfl'(a):le a a:=fun _ h=>h
theorem le.trans{a b c}(h:le a b)(k:le b c):le a c:=fun t g=>k t (h t g)
theorem qjN{a b}:sub1 a b=true↔le a b:=by
 simp[sub1,diR,le,List.filter_eq_nil_iff]
theorem qjO(a b t):t∈(inR a b).ts↔t∈a.ts/\t∈b.ts:=by simp[inR]
structure Tg (x y:Bd):Prop where
 lo:le y.lo x.lo
 up:le x.up y.up
 la:x.lo.ar=y.lo.ar
 ua:x.up.ar=y.up.ar
theorem Tg.rfl'(x):Tg x x:=⟨le.rfl' _,le.rfl' _,rfl,rfl⟩
theorem Tg.trans{x y z}(h:Tg x y)(k:Tg y z):Tg x z:=⟨k.lo.trans h.lo,h.up.trans k.up,h.la.trans k.la,h.ua.trans k.ua⟩
def TgL(a b:List Bd):Prop:=a.length=b.length/\∀(i:Nat)(h:i<a.length)(g:i<b.length),Tg a[i] b[i]
theorem TgL.rfl'(a):TgL a a:=⟨rfl,fun _ _ _=>Tg.rfl' _⟩
theorem TgL.trans{a b c}(h:TgL a b)(k:TgL b c):TgL a c:=⟨h.1.trans k.1,fun i g j=>(h.2 i g (zW1 h.1)).trans (k.2 i _ j)⟩
end KD
namespace KE
open Y1 P1 E1 E2 EC KA KB KC KD
section
variable {c c':Bool}{a:Int}{bs g:List Bd}{ts:TS}
structure BdS (ts:TS) (n:Int) (bs:List Bd):Prop where
 b:BdN ts n bs
 s:∀ x,x∈bs->le x.lo x.up
theorem Xk{n a b}(g:GR n a)(h:le a b):a.ts.length<=b.ts.length:=yY (Zg g.srt) h
def gapB(b:Bd):Nat:=b.up.ts.length-b.lo.ts.length
def gapL(bs:List Bd):Nat:=(bs.map gapB).sum
theorem n8{a b}(g:zr a)(i:zr b)(h:∀ t,t∈a->t∈b)(e:b.length<=a.length):a=b:=by
 refine VJ g i fun x=>⟨h x,fun j=>?_⟩
 exact qiA g i h (Nat.le_antisymm e (yY (Zg g) h)) x j
theorem qjP{n x y}(j:okI n a x)(l:okI n a y)(h:Tg x y)(t:le x.lo x.up):gapB x<=gapB y/\(gapB x=gapB y->x=y):=by
 have C:=Xk l.lo h.lo;have I:=Xk j.up h.up;have J:=Xk j.lo t;unfold gapB;refine⟨zOm,fun e=>?_⟩;have o:=n8 l.lo.srt j.lo.srt h.lo zOm;have p:=n8 j.up.srt l.up.srt h.up zOm;obtain⟨⟨P,R⟩,⟨T,U⟩⟩:=x;obtain⟨⟨b1,b2⟩,⟨b3,b4⟩⟩:=y;have g:=h.la;have i:=h.ua;simp only at o p g i;subst o;subst p;subst g;subst i;rfl
theorem n9:∀{fs:List Fld}{n a b},a.length=fs.length->TgL a b->(∀(i h)(g:i<fs.length),okI n fs[i].sS.length a[i])->(∀(i h)(g:i<fs.length),okI n fs[i].sS.length b[i])->(∀ x,x∈a->le x.lo x.up)->gapL a<=gapL b/\(gapL a=gapL b->a=b)
 |fs,n,[],[],_,_,_,_,_=>⟨qh _,fun _=>rfl⟩
 | [],n,x :: a,b,j,_,_,_,_=>by simp at j
 |fs,n,[],y :: b,_,h,_,_,_=>by have:=h.1;simp at this
 |fs,n,x :: a,[],_,h,_,_,_=>by have:=h.1;simp at this
 |f :: fs,n,x :: a,y :: b,j,h,l,o,p=>by
  have t:=n9 (fs:=fs) (n:=n) (a:=a) (b:=b) (zUs j) ⟨by have:=h.1;simpa using this,fun i C g=>h.2 (i+1) zSo zSo⟩
   (fun i C g=>l (i+1) zSo zSo) (fun i C g=>o (i+1) zSo zSo) fun x J=>p x (zP1 J)
  have I:=qjP (l 0 zSp zSp) (o 0 zSp zSp) (h.2 0 zSp zSp) (p x zSp);simp only[List.getElem_cons_zero]at I;simp only[gapL,zc,List.sum_cons]at t⊢;refine⟨zOm,fun e=>?_⟩;rw[I.2 zOm,t.2 zOm]
structure NwS (ts:TS) (sc:Sc):Prop where
 s:ScN ts sc
 h12:sumI sc.sC<=12
abbrev arT(ts:TS):tV->Option Int:=arS (mkCk ts ts.sT.length) []
theorem NwS.nm{sc}(W:NwS ts sc){bs}(h:BdS ts (sumI sc.sC) bs):∀ nm a,arT ts nm=some a->okI (sumI sc.sC) a (zt ⟨ts,sc,bs⟩ [] nm):=qjM W.s h.b (c:=mkCk ts ts.sT.length) rfl
theorem NwS.ok{sc}(W:NwS ts sc){bs}(h:BdS ts (sumI sc.sC) bs){n a}(g:ArN (arT ts) n a):okI (sumI sc.sC) a (ivl ⟨ts,sc,bs⟩ [] n):=nH (σ:=⟨ts,sc,bs⟩) W.s.n0 (W.nm h) g
theorem me{nm}:∀{fs bs},bs.length=fs.length->jA nm fs bs=(idxF fs nm).bind fun i=>bs[i]?
 | [],[],_=>rfl
 |f :: fs,b :: bs,h=>by
  have g:=me (nm:=nm) (fs:=fs) (bs:=bs) (zUs h);unfold idxF at g⊢;by_cases j:f.name=nm
  .simp [jA,j,List.findIdx?_cons]
  .simp only[jA,j,if_false,List.findIdx?_cons,decide_false,Bool.false_eq_true,g]
   cases List.findIdx? (fun f:Fld=>decide (f.name=nm)) fs<;>simp
theorem mh{sc}(W:NwS ts sc){bs}(h:BdS ts (sumI sc.sC) bs){nm a}(t:arT ts nm=some a){i}(g:idxF ts.sA nm=some i):∃ j,okI (sumI sc.sC) a bs[i]/\∃ p,(ts.sA[i].sS.length:Int)=a:=by
 have l:i<ts.sA.length:=by
  unfold idxF at g;rw[List.findIdx?_eq_some_iff_getElem]at g;exact g.1
 have o:i<bs.length:=by rw[h.b.1];exact l
 have e:zt ⟨ts,sc,bs⟩ [] nm=bs[i]:=by
  unfold zt;have:Qc nm ([]:List (tV×Bd))=none:=rfl;rw[this];simp only;rw[me h.b.1,g];simp[qC o]
 have j:=W.nm h nm a t;rw[e]at j;have p:=h.b.2 i o l;exact⟨o,j,l,by rw[<-p.la,j.la]⟩
structure jV (ts:TS) (n:Int) (bs bs':List Bd) (k k':Bool):Prop where
 t:TgL bs' bs
 v:BdS ts n bs'
 c:k'=false->bs'=bs/\k=false
 d:k'=true->k=true\/gapL bs'<gapL bs
 gl:gapL bs'<=gapL bs
theorem jV.id{n}(h:BdS ts n bs):jV ts n bs bs c c:=⟨TgL.rfl' _,h,fun e=>⟨rfl,e⟩,fun e => .inl e,qh _⟩
theorem jV.trans{n a b d c1 c2 c3}(h:jV ts n a b c1 c2)(k:jV ts n b d c2 c3):jV ts n a d c1 c3:=⟨k.t.trans h.t,k.v,fun e=>by
 obtain⟨g,i⟩:=k.c e;obtain⟨j,l⟩:=h.c i;exact⟨g.trans j,l⟩,fun e=>by
 have o:=h.gl;have p:=k.gl;rcases k.d e with q|q
 .rcases h.d q with q|q
  .exact .inl q
  .exact .inr zOm
 .exact .inr zOm,zM k.gl h.gl⟩
theorem qjQ{i p q}(t)(h:Qe i p q bs c=some (g,c')):le (unR bs[i].lo p) (inR bs[i].up q)/\g=bs.set i ⟨unR bs[i].lo p,inR bs[i].up q⟩/\(c'=false->g=bs/\c=false)/\(c'=true->c=true\/¬g=bs):=by
 have e:bs.getD i bd0=bs[i]:=by simp[yI,qC t]
 unfold Qe at h;simp only[e]at h;split at h
 .rename_i j
  have j:=qjN.1 j;split at h
  .rename_i o
   cases h;refine⟨j,?_,fun e=>⟨rfl,e⟩,fun e => .inl e⟩;rw[o.1,o.2];exact(List.set_getElem_self t).symm
  .rename_i o
   cases h;refine⟨j,rfl,(fun e=>by cases e),fun _ => .inr fun e=>o ?_⟩;have:=congrArg (fun l=>l[i]?) e;simp[t]at this;exact⟨congrArg Bd.lo this,congrArg Bd.up this⟩
 .cases h
theorem qjR{n}(h:BdS ts n bs){i}(R:i<bs.length)(h2)(e:(ts.sA[i].sS.length:Int)=a){p q}(hp:GR n p)(pa:p.ar=a)(hs:Qe i p q bs c=some (g,c')):jV ts n bs g c c':=by
 obtain⟨s1,T,s3,s4⟩:=qjQ R hs;have o:=h.b.2 i R h2;have o':okI n ts.sA[i].sS.length (⟨unR bs[i].lo p,inR bs[i].up q⟩:Bd):=⟨aC o.lo hp (by rw[o.la,pa,e]),o.up.filter _,o.la,o.ua⟩;have l:TgL g bs:=by
  subst T;refine⟨zSp,fun j U j2=>?_⟩;rw[List.getElem_set];split
  .rename_i I;subst I
   exact⟨fun t l=>(qh9 _ _ t).2 (.inl l),fun t l=>((qjO _ _ t).1 l).1,rfl,rfl⟩
  .exact Tg.rfl' _
 have C:BdS ts n g:=by
  subst T;refine⟨⟨by simp[h.b.1],fun j U j2=>?_⟩,fun x J=>?_⟩
  .rw [List.getElem_set]
   split
   .rename_i I;subst I;exact o'
   .exact h.b.2 j (zUs U) j2
  .rcases List.mem_or_eq_of_mem_set J with J|rfl
   .exact h.s x J
   .exact s1
 have P:=n9 C.b.1 l C.b.2 h.b.2 C.s;refine⟨l,C,s3,fun e=>(s4 e).imp id fun ne=>?_,P.1⟩;have:=P.2;rcases Nat.lt_or_eq_of_le P.1 with q|q
 .exact q
 .exact absurd (this q) ne
theorem Z2{n}(g:0<=n)(i:1<=a)(j:a<=3):GR n (allN n a)/\(allN n a).ar=a:=⟨GR.all g i j,rfl⟩
theorem cS{n a b}(h:GR n a):GR n (diR a b):=h.filter _
variable {ts:TS} {sc:Sc}
theorem V1(g x y p p' q bs c):narU ts sc g [x,y] p p' q bs c=brB (narN ts sc g x p q bs c) fun bs c=>narN ts sc g y p' q bs c:=by
 rw[narU];cases narN ts sc g x p q bs c with
 |none=>rfl
 |some r =>
  obtain⟨i,j⟩:=r;simp only[brB,narU];cases narN ts sc g y p' q i j with
  |none=>rfl
  |some r=>rfl
theorem mj(g x y p q p' i bs c):narD ts sc g [x,y] p q p' i bs c=brB (narN ts sc g x p q bs c) fun bs c=>narN ts sc g y p' i bs c:=by
 rw[narD];cases narN ts sc g x p q bs c with
 |none=>rfl
 |some r =>
  obtain⟨j,l⟩:=r;simp only[brB,narD];cases narN ts sc g y p' i j l with
  |none=>rfl
  |some r=>rfl
theorem Z3{r f}(h:brB r f=some (g,c')):∃ bs c,r=some (bs,c)/\f bs c=some (g,c'):=by
 match r,h with
 |some (bs,c),h=>exact⟨bs,c,rfl,h⟩
theorem Jo(g n p q bs c):narN ts sc g n p q bs c =
  if (sub1 p (ivl ⟨ts,sc,bs⟩ [] n).up&&sub1 (ivl ⟨ts,sc,bs⟩ [] n).lo q)=true then
   if n.op=1 then (match idxF ts.sA n.name with
    |some i=>if (g||!((ts.sA.map fun f=>f.var).getD i false))=true then Qe i p q bs c else some (bs,c)
    |none=>some (bs,c))
   else if n.op=6 then narU ts sc g n.sD ⟨p.ar,(diR p ((n.sD.map (ivl ⟨ts,sc,bs⟩ [])).getD 1 bd0).up).ts⟩ ⟨p.ar,(diR p ((n.sD.map (ivl ⟨ts,sc,bs⟩ [])).getD 0 bd0).up).ts⟩ q bs c
   else if n.op=7 then narU ts sc g n.sD p p (allN (sumI sc.sC) (ivl ⟨ts,sc,bs⟩ [] n).lo.ar) bs c
   else if n.op=8 then narD ts sc g n.sD p (allN (sumI sc.sC) (ivl ⟨ts,sc,bs⟩ [] n).lo.ar) ⟨(ivl ⟨ts,sc,bs⟩ [] n).lo.ar,[]⟩ (diR (allN (sumI sc.sC) (ivl ⟨ts,sc,bs⟩ [] n).lo.ar) p) bs c
   else if n.op=11 then narT ts sc g n.sD (trR (sumI sc.sC) p) (trR (sumI sc.sC) q) bs c
   else some (bs,c)
  else none:=by
 obtain⟨op,nm,i,ks,j⟩:=n;rw[narN,Xa];rfl
theorem ifn{p}[Decidable p]{J:Type}{x}{r:J}(h:(if p then x else none)=some r):p/\x=some r:=by
 split at h
 .rename_i g;exact⟨g,h⟩
 .cases h
theorem qjS(g){n}(j:n.op≠1)(l:n.op≠6)(o:n.op≠7)(t:n.op≠8)(i:n.op≠11){p q bs c}:narN ts sc g n p q bs c=if (sub1 p (ivl ⟨ts,sc,bs⟩ [] n).up&&sub1 (ivl ⟨ts,sc,bs⟩ [] n).lo q)=true then some (bs,c) else none:=by
 rw[Jo,if_neg j,if_neg l,if_neg o,if_neg t,if_neg i]
theorem vC(W:NwS ts sc){n a}(hn:ArN (arT ts) n a):∀ g p q bs j c c',BdS ts (sumI sc.sC) bs->GR (sumI sc.sC) p->p.ar=a->GR (sumI sc.sC) q->q.ar=a->narN ts sc g n p q bs c=some (j,c')->jV ts (sumI sc.sC) bs j c c':=by
 have h0:=W.s.n0;have t:∀{n:Nd},n.op≠1->n.op≠6->n.op≠7->n.op≠8->n.op≠11->∀(g:Bool)(p q:Rl)(bs j:List Bd)(c c':Bool),BdS ts (sumI sc.sC) bs->narN ts sc g n p q bs c=some (j,c')->jV ts (sumI sc.sC) bs j c c':=fun {n} h1 h6 h7 h8 a0 g p q bs j c c' l h=>by
  rw[qjS g h1 h6 h7 h8 a0]at h;obtain⟨_,h⟩:=ifn h;cases h;exact .id l
 induction hn with
 | @name n a C ha =>
  intro g p q bs j c c' l J P hq qa h;rw[Jo]at h;obtain⟨_,h⟩:=ifn h;rw[if_pos C]at h;cases hi:idxF ts.sA n.name with
  |none=>rw[hi]at h;cases h;exact .id l
  |some i =>
   rw[hi]at h;simp only at h;split at h
   .obtain ⟨h1,_,h2,e⟩:=mh W l ha hi
    exact qjR l h1 h2 e J P h
   .cases h;exact .id l
 |none C _=>exact fun g p q bs j c c' l _ _ _ _ h=>t zOm zOm zOm zOm zOm g p q bs j c c' l h
 |univ C=>exact fun g p q bs j c c' l _ _ _ _ h=>t zOm zOm zOm zOm zOm g p q bs j c c' l h
 |iden C=>exact fun g p q bs j c c' l _ _ _ _ h=>t zOm zOm zOm zOm zOm g p q bs j c c' l h
 |prime C _ _ _=>exact fun g p q bs j c c' l _ _ _ _ h=>t zOm zOm zOm zOm zOm g p q bs j c c' l h
 |join C _ _ _ _ _ _=>exact fun g p q bs j c c' l _ _ _ _ h=>t zOm zOm zOm zOm zOm g p q bs j c c' l h
 |prod C _ _ _ _ _ _=>exact fun g p q bs j c c' l _ _ _ _ h=>t zOm zOm zOm zOm zOm g p q bs j c c' l h
 |compr C _ _ _=>exact fun g p q bs j c c' l _ _ _ _ h=>t zOm zOm zOm zOm zOm g p q bs j c c' l h
 | @bin n x C hk hx ih =>
  intro g p q bs j c c' l J P hq qa h;by_cases o:n.op=11
  .rw [Jo]at h
   obtain⟨_,h⟩:=ifn h;rw[zIn,zIn,zIn,zIn,if_pos o,hk,narT]at h;exact ih g _ _ bs j c c' l (GR.trans h0 J P) rfl (GR.trans h0 hq qa) rfl h
  .exact t zOm zOm zOm zOm o g p q bs j c c' l h
 | @alike n x y a C hk hx hy T U =>
  intro g p q bs j c c' l J P hq qa h;have hI:=W.ok l (ArN.alike C hk hx hy);have I:=Z2 (a:=a) h0 (by rw[<-hI.la];exact hI.lo.ar1) (by rw[<-hI.la];exact hI.lo.ar3);have hZ:GR (sumI sc.sC) (⟨a,[]⟩:Rl):=GR.nil I.1.ar1 I.1.ar3;rcases (show n.op=14\/n.op=6\/n.op=7\/n.op=8 by omega) with o|o
  .exact t zOm zOm zOm zOm zOm g p q bs j c c' l h
  rw[Jo]at h;obtain⟨_,h⟩:=ifn h;rw[hI.la,hk]at h;rcases o with o|o|o
  .rw [zIn,if_pos o,V1]at h
   obtain⟨R,c1,e1,e2⟩:=Z3 h;have s1:=T g _ q bs R c c1 l (cS J) P hq qa e1;exact s1.trans (U g _ q R j c1 c' s1.v (cS J) P hq qa e2)
  .rw [zIn,zIn,if_pos o,V1]at h
   obtain⟨R,c1,e1,e2⟩:=Z3 h;have s1:=T g _ _ bs R c c1 l J P I.1 I.2 e1;exact s1.trans (U g _ _ R j c1 c' s1.v J P I.1 I.2 e2)
  .rw [zIn,zIn,zIn,if_pos o,mj]at h
   obtain⟨R,c1,e1,e2⟩:=Z3 h;have s1:=T g _ _ bs R c c1 l J P I.1 I.2 e1;exact s1.trans (U g _ _ R j c1 c' s1.v hZ rfl (cS I.1) I.2 e2)
end
end KE
namespace YZ
open YM P1 Y1 Y9 YX
mutual
def depN:Nd->Int
 | .mk _ _ _ ks _=>zW ks+1
def zW:List Nd->Int
 | []=>0
 |k :: ks=>max (depN k) (zW ks)
end
mutual
theorem qjT:∀ n:Nd,0<=depN n
 | .mk _ _ _ ks _=>by simp only[depN];have:=V2 ks;omega
theorem V2:∀ ks:List Nd,0<=zW ks
 | []=>by simp[zW]
 |k :: ks=>by simp only[zW];have:=V2 ks;omega
end
theorem Qf(n):depN n=zW n.sD+1:=by
 obtain⟨op,nm,i,ks,p⟩:=n;simp[depN,Nd.sD]
theorem ml{ks k}(h:k∈ks):depN k<=zW ks:=by
 induction ks with
 |nil=>simp at h
 |cons a l g =>
  simp only[zW];rcases qs.1 h with rfl|h
  .omega
  .have:=g h;omega
theorem mn:∀ m n,szN n<=m->Small n->depN n<=1000000->qd qb 118 [eNd n] (aI (depN n))
 | 0,n,J,_,_=>by obtain⟨op,nm,i,ks,p⟩:=n;simp[szN]at J
 |m+1,n,J,P,R=>by
  have ih:∀ k,k∈n.sD->qd qb 118 [eNd k] (aI (depN k)):=fun k j =>
   mn m k (zW1 (q9 j)) (P.kid j) (by rw[Qf]at R;have:=ml j;omega)
  rw[Qf]at R⊢;have T:=P.len;have a0:=V2 n.sD;generalize hD:zW n.sD=D at *
  refine qSU call118 func118 rfl ?_;refine fZ n.sD.length (fun k U=>∃ d,U.tm 3=aI d/\U.tm 7=lNd n.sD/\U.tm 8=aI n.sD.length/\U.tm 9=aI k/\0<=d/\max d (zW (n.sD.drop k))=D) ?_ ?_
  .exact ⟨0,zSi,zSi,zSi,zSi,zOm,by simp only[List.drop_zero,hD];omega⟩
  .rintro k U j ⟨d,e3,e7,o,t,a1,l⟩
   by_cases C:k=n.sD.length
   .subst C
    rw[zF]at l;simp only[zW]at l;have I:d=D:=zOm;subst I;have w:qj.wrap (d+1)=d+1:=zWr;simp[go_sem,e3,o,t,w];exact .zsc _
   .have g:k<n.sD.length:=by omega
    have w1:=zWk k;rw[qY g]at l;simp only[zW]at l;simp[go_sem,e3,e7,o,t,g];refine tR (ih n.sD[k] (qq g)) (.zk (qz _) .nil) ?_;simp[go_sem,t,w1];refine⟨g,aK ?_⟩;refine⟨if d<depN n.sD[k] then depN n.sD[k] else d,zSi,by simp[go_sem,e7],zS1 o,zSi,?_,?_⟩
    .have:=qjT n.sD[k]
     split<;>omega
    .split<;>omega
mutual
def preN:Nd->List Nd
 | .mk op nm n ks p => .mk op nm n ks p :: zg ks
def zg:List Nd->List Nd
 | []=>[]
 |k :: ks=>preN k++zg ks
end
theorem uO(n):preN n=n :: zg n.sD:=by
 obtain⟨op,nm,i,ks,p⟩:=n;simp[preN,Nd.sD]
theorem Z4(a b):zg (a++b)=zg a++zg b:=by
 induction a with
 |nil=>rfl
 |cons x a g=>simp[zg,g]
theorem Xl{f caps}(I:List Nd->Mu->Prop)(hp:∀ v mu l,I v mu->I v (mu++l))(hf:∀ v k mu,I v mu->qr qb f (eNd k :: caps) mu fun e m=>e = .ret (.tup [])/\I (v++[k]) m) :
  ∀ m n,szN n<=m->Small n->∀ v mu,I v mu->qr qb 112 [eNd n,.fn (.func f) [] caps] mu fun e m=>e = .ret (.tup [])/\I (v++preN n) m
 | 0,n,hm,_,_,_,_=>by obtain⟨op,nm,i,ks,p⟩:=n;simp[szN]at hm
 |m+1,n,hm,hs,v,mu,J=>by
  have ih:∀ k,k∈n.sD->∀ v mu,I v mu->qr qb 112 [eNd k,.fn (.func f) [] caps] mu fun e m=>e = .ret (.tup [])/\I (v++preN k) m:=fun k P v mu J =>
   Xl I hp hf m k (zW1 (q9 P)) (hs.kid P) v mu J
  have a1:=hs.len;rw[uO];refine qSW call112 func112 rfl {} ?_;simp[go_sem];refine fX (hf v n mu J) ?_ (by rintro r m ⟨e,_⟩;cases e);rintro r m ⟨e,R⟩;cases e;simp[go_sem];refine fZ n.sD.length (fun k U=>U.tm 1 = .fn (.func f) [] caps/\U.tm 10=lNd n.sD/\U.tm 11=aI n.sD.length/\U.tm 12=aI k/\I (v++[n]++zg (n.sD.take k)) U.mu) ?_ ?_
  .exact ⟨zSi,zSi,zSi,zSi,by simpa[go_sem,zg] using R⟩
  .rintro k U P ⟨e1,C,j,o,t⟩
   by_cases T:k=n.sD.length
   .subst T
    rw[zi]at t;simp[go_sem,j,o];simpa using t
   .have g:k<n.sD.length:=by omega
    have w1:=zWk k;simp[go_sem,e1,C,j,o,g];refine fL (ih n.sD[k] (qq g) _ _ (hp _ _ _ t)) ?_ (by rintro r m ⟨e,_⟩;cases e);rintro r m ⟨e,a0⟩;cases e;simp[go_sem,o,w1];refine⟨g,aK ?_⟩;refine⟨zS1 e1,zS1 C,zS1 j,zSi,?_⟩;have e:zg (n.sD.take (k+1))=zg (n.sD.take k)++preN n.sD[k]:=by
     rw[List.take_add_one,qC g,Z4];simp[zg]
    rw[e,<-List.append_assoc];simpa[go_sem] using a0
def setN(l:List tV)(b:tV):List (tV×Bool)->List (tV×Bool):=fun C=>setK b true C
abbrev eSet(es:List (tV×Bool)):List (AV×AV):=encK aS aB es
theorem updS{mu b es}(i:mu[b]?=some (.mp (eSet es)))(nm) :
  y6 qb mu 172 (.mp b) (aS nm) (aB true)=some (mu.set b (.mp (eSet (setK nm true es)))):=
 keyS.update (et:=4) (t:=172) zSi (mu:=mu) (b:=b) (venc:=aB) (es:=es) i (k:=nm) (v:=true) trivial (fun _ _=>trivial)
theorem qjU(ts s tb c es n){mu p g xb}(t:mu[p]?=some (.arr [.ptr xb 0]))(C:mu[xb]?=some (.arr (cIn ts tb s)))(l:mu[g]?=some (.arr [aB c]))(j:mu[tb]?=some (.mp (eSet es))) :
  qr qb 113 [eNd n,.ptr p 0,.ptr g 0] mu fun e m=>e = .ret (.tup [])/\m=(mu.set tb (.mp (eSet (setK n.name true es)))).set g (.arr [aB (c||decide (n.op=47))]):=by
 refine qSW call113 func113 rfl {} ?_;have I:g<mu.length:=(qg.1 l).1;have J:tb<mu.length:=(qg.1 j).1;simp[go_sem];refine tN zKr ?_;have P:=updS j n.name;simp[go_sem,t,C];refine tB _ P ?_;have o:tb≠g:=fun e=>by rw[e,l]at j;cases j
 generalize R:Cell.mp (eSet (setK n.name true es))=N at *
 have i:(mu.set tb N)[g]?=some (.arr [aB c]):=by rw[zA o];exact l
 cases c
 .simp [go_sem,i]
  try rfl
 .simp [go_sem,i]
  try rfl
theorem qjV(ts s tb es n){mu g xb}(j:mu[g]?=some (.arr [.ptr xb 0]))(l:mu[xb]?=some (.arr (cIn ts tb s)))(i:mu[tb]?=some (.mp (eSet es))) :
  qr qb 114 [eNd n,.ptr g 0] mu fun e m=>e = .ret (.tup [])/\m=mu.set tb (.mp (eSet (setK n.name true es))):=by
 refine qSW call114 func114 rfl {} ?_;have o:tb<mu.length:=(qg.1 i).1;simp[go_sem];refine tN zKr ?_;have p:=updS i n.name;simp[go_sem,j,l];refine tB _ p ?_;simp[go_sem]
end YZ
namespace YA
open YM YS YF P1 Y1 Y9 Y10 YX YZ
def vN(k:Int):tV:=⟨#[118]⟩++yU k
theorem Xm(k)(g : -9223372036854775808<=k)(i:k<=9223372036854775807):(yU k).size<=21:=by
 have:=Lib.itoa_length_le k g i;unfold yU;simpa[ByteArray.size] using this
def yf(ts:TS)(es:List (tV×Bool))(nm:tV):Bool:=decide (getK nm es≠some true)&&decide (means ts nm=[])
def zh(ts:TS)(es:List (tV×Bool)):Nat->Int->Int
 | 0,k=>k+1
 |f+1,k=>if yf ts es (vN (k+1))=true then k+1 else zh ts es f (k+1)
theorem qjW{mu tb es}(i:mu[tb]?=some (.mp (eSet es)))(nm):zT qb mu 172 (.mp tb) (aS nm) false=some (aB (decide (getK nm es=some true))):=by
 have:=keyS.look (et:=4) (t:=172) zSi (mu:=mu) (m := .mp tb) (venc:=aB) (es:=es) (by simp only[jf,i]) (k:=nm) trivial (fun _ _=>trivial) (z:=aB false) zSi false;refine Eq.trans ?_ (this.trans ?_)
 .rfl
 .cases getK nm es with
  |none=>rfl
  |some b=>cases b<;>rfl
theorem qjX{mu:Mu}{b c}(h:mu[b]?=some c):mu.set b c=mu:=by
 apply List.ext_getElem?;intro i;by_cases e:b=i
 .subst e
  rw[qv (qg.1 h).1,h]
 .rw [zA e]
theorem mq(ts)(h:okTS ts)(s:ISt)(F:Nat)(hs:0<=s.last/\s.last+F<=1000000000)(tb es)(T:∃ j,1<=j/\j<=F/\yf ts es (vN (s.last+j))=true){mu xb}(hx:mu[xb]?=some (.arr (cIn ts tb s)))(ht:mu[tb]?=some (.mp (eSet es))) :
  qr qb 239 [.ptr xb 0] mu fun e m=>e = .ret (aS (vN (zh ts es F s.last)))/\m=mu.set xb (.arr (cIn ts tb ⟨zh ts es F s.last,s.sM⟩)):=by
 refine qSW call239 func239 rfl {} ?_;have a0:xb<mu.length:=(qg.1 hx).1;have a3:tb≠xb:=fun e=>by rw[e,hx]at ht;cases ht
 simp[go_sem];generalize hR:zh ts es F s.last=R;refine tW (fun m U=>∃ l:Int,0<=l/\l+m<=1000000000/\U.tm 0 = .ptr xb 0/\U.mu=mu.set xb (.arr (cIn ts tb ⟨l,s.sM⟩))/\zh ts es m l=R/\∃ j:Nat,1<=j/\j<=m/\yf ts es (vN (l+j))=true) F ?_ ?_
 .refine ⟨s.last,hs.1,hs.2,zSi,?_,hR,T⟩
  simp only[go_sem,qH,st0];rw[show cIn ts tb ⟨s.last,s.sM⟩=cIn ts tb s from rfl];exact(qjX hx).symm
 .rintro m U ⟨l,a7,a8,C,hm,hI,j,a9,aa,p⟩
  obtain⟨m,rfl⟩:∃ m',m=m'+1:=⟨m-1,zOm⟩;have w1:qj.wrap (l+1)=l+1:=zWr;have t:∀ c,(mu.set xb c)[xb]?=some c:=fun c=>qv a0
  have a4:∀ c d,(mu.set xb c).set xb d=mu.set xb d:=fun c d=>List.set_set ..
  have a5:∀ c,(mu.set xb c)[tb]?=some (.mp (eSet es)):=fun c=>by rw[zA (fun e=>a3 e.symm)];exact ht
  have ab:=Xm (l+1) zOm zOm;have I:1+(yU (l+1)).size<=9223372036854775807:=zOm;simp[go_sem,C,hm,t,a4,w1];refine tR (itoaU (l+1) zOm zOm) (.zs .nil) ?_;simp[go_sem,C,t,I];rw[show (⟨#[118]⟩:tV)++yU (l+1)=vN (l+1) from rfl];generalize i:vN (l+1)=nm;have J:=fun c=>qjW (a5 c) nm
  simp[go_sem]at J;refine tB _ (J _) ?_;have g:yf ts es nm=false->zh ts es m (l+1)=R/\∃ j:Nat,1<=j/\j<=m/\yf ts es (vN (l+1+j))=true:=fun hn=>by
   simp only[zh,i,hn]at hI;refine⟨zUs hI,j-1,?_,zOm,?_⟩
   .have:j≠1:=fun e=>by rw[e,show l+((1:Nat):Int)=l+1 by omega,i,hn]at p;cases p
    omega
   .rw [show l+1+((j-1:Nat):Int)=l+j by omega];exact p
  by_cases P:getK nm es=some true
  case pos =>
   obtain⟨a1,a2⟩:=g (by simp[yf,P]);simp[go_sem,P];refine Keep.loop m zOm ⟨l+1,zOm,zOm,zS1 C,zSi,a1,a2⟩
  case neg =>
   simp[go_sem,C,t,P];refine tR (WN ts h nm) (.zk (zl ts) (.zs .nil)) ?_;by_cases o:means ts nm=[]
   .have a6:R=l+1:=by
     rw[<-hI];simp[zh,i,yf,P,o]
    subst a6;simp[go_sem,o];rw[i]
    try rfl
   .obtain ⟨a1,a2⟩:=g (by simp[yf,o])
    simp[go_sem,o];refine Keep.loop m zOm ⟨l+1,zOm,zOm,zS1 C,zSi,a1,a2⟩
end YA
namespace YB
open YM YF P1 Y1 Y6 Y9 Y10 YX YZ YA
section
variable {es:IEnv}{mu:Mu}{b xb:Nat}
def qk(ts:TS)(es:List (tV×Bool)):Nat:=es.length+ts.sA.length+3*ts.sS.length+1
def renI(ts:TS)(es:List (tV×Bool))(env:IEnv)(nm:tV)(body:Bool)(s:ISt):(IEnv×tV)×ISt:=
 if body=true\/means ts nm≠[] then
  ((setK nm ⟨none,0,vN (zh ts es (qk ts es) s.last)⟩ (delK nm env),vN (zh ts es (qk ts es) s.last)),⟨zh ts es (qk ts es) s.last,s.sM⟩)
 else ((delK nm env,nm),s)
theorem Qg{g J}[DecidableEq g]{k v}:∀{es},(es.map Prod.fst).Nodup->∀{x:g×J},x∈setK k v es↔x=(k,v)\/(x∈es/\x.1≠k)
 | [],_,x=>by simp[setK]
 |e :: es,h,x=>by
  rw[zc,List.nodup_cons]at h;unfold setK;by_cases i:k=e.1
  .rw [if_pos i,qs,qs]
   constructor
   .grind
   grind
  .rw [if_neg i,qs,qs,Qg h.2]
   constructor
   .grind
   grind
theorem vh{g m i}(h:g i=true):(cutM g m 0)[i]?=m[i]?:=by
 simp_all[vw,yJ,if_true]
theorem qjY{x}:x∈encK aS eIV es↔∃ y,y∈es/\(aS y.1,eIV y.2)=x:=qn
theorem Xn(h:(es.map Prod.fst).Nodup):((encK aS eIV es).map Prod.fst).Nodup:=by
 have e:(encK aS eIV es).map Prod.fst=(es.map Prod.fst).map aS:=by simp[encK]
 grind
theorem qjZ{fs}(g:mu[b]?=some (.md (encK aS eIV es)))(i:(es.map Prod.fst).Nodup)(j:(fs.map Prod.fst).Nodup)(o:∀ x,x∈es↔x∈fs):Rd mu (.mp b) (eEnv fs):=by
 refine Rd.mds g (Xn i) (Xn j) (fun x=>?_) (fun x l=>?_)
 .grind
 .obtain ⟨y,_,rfl⟩:=qjY.1 l
  grind [HF.sc,qiU]
theorem updE(i:mu[b]?=some (.mp (encK aS eIV es)))(nm v) :
  y6 qb mu 179 (.mp b) (aS nm) (eIV v)=some (mu.set b (.mp (encK aS eIV (setK nm v es)))):=
 keyS.update (et:=248) (t:=179) zSi (mu:=mu) (b:=b) (venc:=eIV) (es:=es) i (k:=nm) (v:=v) trivial (fun _ _=>trivial)
theorem mr(i:mu[b]?=some (.md (encK aS eIV es)))(nm v) :
  y6 qb mu 179 (.mp b) (aS nm) (eIV v)=some (mu.set b (.md (encK aS eIV (setK nm v es)))):=
 keyS.updateD (et:=248) (t:=179) zSi (mu:=mu) (b:=b) (venc:=eIV) (es:=es) i (k:=nm) (v:=v) trivial (fun _ _=>trivial)
structure But (xb:Nat) (mu m:Mu):Prop where
 len:mu.length<=m.length
 same:∀ i,i<mu.length->i≠xb->m[i]?=mu[i]?
theorem But.trans{a b c}(h:But xb a b)(k:But xb b c):But xb a c:=⟨zM h.len k.len,fun i g j=>(k.same i (Nat.lt_of_lt_of_le g h.len) j).trans (h.same i g j)⟩
theorem But.app(xb mu l):But xb mu (mu++l):=⟨zSp,fun i g _=>qB g⟩
theorem cC(xb mu c):But xb mu (mu.set xb c):=⟨zSp,fun i j g=>zA (fun e=>g e.symm)⟩
theorem But.setN{m}(h:But xb mu m){j}(o:mu.length<=j)(c):But xb mu (m.set j c):=⟨by simpa using h.len,fun i g l=>by rw[zGl];exact h.same i g l⟩
theorem But.cut{m}(h:But xb mu m){g}(l:∀ i,i<mu.length->g i=true):But xb mu (cutM g m 0):=⟨by rw[vy];exact h.len,fun i j o=>by rw[vh (l i j)];exact h.same i j o⟩
theorem qj0(a):(aArg a).one=true:=by cases a<;>rfl
theorem qj1(ts)(h:okTS ts)(s:ISt)(es)(hs:0<=s.last/\s.last+(qk ts es:Nat)<=1000000000)(tb)(aa:∃ j,1<=j/\j<=qk ts es/\yf ts es (vN (s.last+j))=true)(env)(hk:(env.map Prod.fst).Nodup)(nm body)
  {mu} {xb} (hx:mu[xb]?=some (.arr (cIn ts tb s))) (ht:mu[tb]?=some (.mp (eSet es))) :
  qr qb 187 [.ptr xb 0,eEnv env,aS nm,aB body] mu fun e m=>e = .ret (.tup [eEnv (renI ts es env nm body s).1.1,aS (renI ts es env nm body s).1.2])/\But xb mu m/\m[xb]?=some (.arr (cIn ts tb (renI ts es env nm body s).2)):=by
 refine fY ?_;refine qSW call187 func187 rfl {} ?_;have az:xb<mu.length:=(qg.1 hx).1;have ah:tb<mu.length:=(qg.1 ht).1;have ai:tb≠xb:=fun e=>by grind
 simp[go_sem];obtain⟨B,hB⟩:∃ B,B=encK aS eIV env:=⟨_,rfl⟩;have b0:B.length=env.length:=by rw[hB];simp
 rw[<-hB];refine qi.seen env.length (fun seen U=>U.tm 0 = .ptr xb 0/\U.tm 2=aS nm/\U.tm 3=aB body/\U.tm 10 = .mp mu.length/\U.tm 16 = .ptr (mu.length+1) 0/\But xb mu U.mu/\mu.length+1<U.mu.length/\U.mu[xb]?=mu[xb]?/\U.mu[mu.length+1]?=some (.it B seen) /\
  ∃ o:IEnv,U.mu[mu.length]?=some (.mp (encK aS eIV o))/\(o.map Prod.fst).Nodup/\∀ x,x∈o↔∃ i,i∈seen/\env[i]?=some x) ?_ ?_
 .simp_all [go_sem,But.app,qB]
 .rintro seen U b1 b2 ⟨e0,e2,e3,p,a5,R,hl,aj,ak,o,ab,C,I⟩
  simp[go_sem,a5];refine⟨mu.length+1,B,seen,rfl,ak,fun i e hi al=>?_,fun ax=>?_⟩
  .have J:∃ y,env[i]?=some y/\e=(aS y.1,eIV y.2):=by
    rw[hB,zB,vH]at hi;obtain⟨y,J,rfl⟩:=hi
    grind
   obtain⟨⟨k,va,vz,vn⟩,J,rfl⟩:=J;have an:i<env.length:=(qg.1 J).1;have a6:∀(c:Cell)(l:List Cell),(U.mu.set (mu.length+1) c++l)[mu.length]?=some (.mp (encK aS eIV o)):=fun c l=>by
    grind
   have hu:=fun c l=>updE (a6 c l) k ⟨va,vz,vn⟩
   simp[go_sem,p,a5,hi,hl,qj0];refine tB _ (hu _ _) ?_;generalize hM:List.set (U.mu.set (mu.length+1) (Cell.it B (seen++[i]))++[Cell.arr [aArg va,aI vz,aS vn]]) mu.length (.mp (encK aS eIV (setK k ⟨va,vz,vn⟩ o)))=M;have b3:M.length=U.mu.length+1:=by rw[<-hM];simp
   have ao:∀ j,j<U.mu.length->j≠mu.length->j≠mu.length+1->M[j]?=U.mu[j]?:=fun j h1 h2 h3=>by
    grind
   have aq:M[mu.length]?=some (.mp (encK aS eIV (setK k ⟨va,vz,vn⟩ o))):=by
    grind
   have b4:M[mu.length+1]?=some (.it B (seen++[i])):=by
    grind
   have a7:∀ v,(k,v)∈o->False:=fun v hm=>by
    obtain⟨j,P,he⟩:=(I _).1 hm;have h1:(env.map Prod.fst)[j]?=some k:=by rw[zB,he];rfl
    have h2:(env.map Prod.fst)[i]?=some k:=by rw[zB,J];rfl
    have b5:j<(env.map Prod.fst).length:=(qg.1 h1).1
    grind [List.getElem?_inj]
   simp[go_sem];refine⟨i,an,al,aK ?_⟩;refine⟨zS1 e0,zS1 e2,zS1 e3,zS1 p,zS1 a5,?_,by grind [qH],?_,by simp[go_sem, *],_,zVs aq,uC C,fun x v=>?_⟩
   .simp only[go_sem,qH]
    exact⟨zOm,fun j P hn=>by rw[ao j zOm zOm zOm];exact R.same j P hn⟩
   .grind [qH]
   .rw [Qg C,I]
    constructor
    .rintro (e|⟨⟨j,P,he⟩,_⟩)
     .exact ⟨i,zSp,by rw[J,e]⟩
     .exact ⟨j,zP1 P,he⟩
    .rintro ⟨j,P,he⟩
     rcases qL.1 P with P|P
     .refine .inr ⟨⟨j,P,he⟩,fun e=>?_⟩
      simp only at e;subst e;exact a7 v ((I _).2 ⟨j,P,he⟩)
     .rw [qO]at P
      subst P;rw[J]at he;exact .inl (Option.some.inj he).symm
  .simp [go_sem,e2,p]
   have ar:∀ x,x∈o↔x∈env:=fun x=>by
    grind [qN,List.mem_iff_getElem?,qg]
   refine keyS.delete (et:=248) (t:=179) zSi ab trivial (fun _ _=>trivial) ?_;have T:=Zd (k:=nm) C;have a8:∀ x,x∈delK nm o↔x∈delK nm env:=fun x=>by grind [Wx]
   have ad:mu.length<U.mu.length:=zOm;have au:∀ c,(U.mu.set mu.length c)[xb]?=some (.arr (cIn ts tb s)):=fun c=>by rw[zGl,aj];exact hx
   have av:∀ c,(U.mu.set mu.length c)[tb]?=some (.mp (eSet es)):=fun c=>by rw[zGl,R.same tb ah ai];exact ht
   have aw:∀ c,But xb mu (U.mu.set mu.length c):=fun c=>R.setN (qh _) c
   have hD:∀ c,(U.mu.set mu.length c)[mu.length]?=some c:=fun c=>qv ad
   generalize hM:U.mu.set mu.length (.md (encK aS eIV (delK nm o)))=M;have a0:M[xb]?=some (.arr (cIn ts tb s)):=by rw[<-hM];exact au _
   have ae:M[tb]?=some (.mp (eSet es)):=by rw[<-hM];exact av _
   have a9:But xb mu M:=by grind
   have a1:M[mu.length]?=some (.md (encK aS eIV (delK nm o))):=by grind
   have af:mu.length<M.length:=(qg.1 a1).1;have fin:∀(m:Mu)(a2 fs:IEnv)(a3:tV)(s1:ISt),But xb mu m->m[mu.length]?=some (.md (encK aS eIV a2))->(a2.map Prod.fst).Nodup->(fs.map Prod.fst).Nodup->(∀ x,x∈a2↔x∈fs)->m[xb]?=some (.arr (cIn ts tb s1))->((fs,a3),s1)=renI ts es env nm body s ->
     ∃(g:Nat->Bool) (x:AV),Gv m g (.tup [.mp mu.length,aS a3]) x/\x = .tup [eEnv (renI ts es env nm body s).1.1,aS (renI ts es env nm body s).1.2]/\But xb mu (cutM (fun i=>!g i) m 0)/\(cutM (fun i=>!g i) m 0)[xb]?=some (.arr (cIn ts tb (renI ts es env nm body s).2)):=by
    intro m a2 fs a3 s1 hb hd n1 n2 hm b6 e;rw[<-e];refine⟨fun i=>i == mu.length,.tup [eEnv fs,aS a3],.rd _ _ (.tup _ _ rfl fun k x y hx J=>?_),rfl,hb.cut fun i hi=>zSo,?_⟩
    .match k with
     | 0 =>
      simp at hx J;subst hx;subst J;exact qjZ (by rw[vh zSp];exact hd) n1 n2 hm
     | 1 =>
      simp at hx J;subst hx;subst J;exact .zsc _
     |k+2=>simp at hx
    grind [vh]
   have ay:∀(b7:St)(K:qT->St->Prop),True:=fun _ _=>trivial
   by_cases hb:body=true
   .subst hb
    simp[go_sem,e0,e3];refine fL (mq ts h s (qk ts es) hs tb es aa a0 ae) ?_ (by rintro r m ⟨e,_⟩;cases e);rintro r m ⟨e,rfl⟩;cases e;have hu:=mr (mu:=M.set xb (.arr (cIn ts tb ⟨zh ts es (qk ts es) s.last,s.sM⟩))) (b:=mu.length) (by rw[zGl];exact a1) nm ⟨none,0,vN (zh ts es (qk ts es) s.last)⟩;simp[go_sem,e2,p];refine tB _ hu ?_;simp[go_sem,p];refine(fin _ _ _ _ ⟨zh ts es (qk ts es) s.last,s.sM⟩ ((a9.trans (cC xb M _)).setN (qh _) _) (qv (zUs af)) (uC T) (uC (Zd hk)) (fun x=>by rw[Qg T,Qg (Zd hk),a8]) (by rw[zGl,qv zOm];rfl) ?_);simp[renI]
   .have hb:body=false:=by simpa using hb
    subst hb;simp[go_sem,e0,e2,e3,a0];refine tR (WN ts h nm) (.zk (zl ts) (.zs .nil)) ?_;by_cases a4:means ts nm=[]
    .simp [go_sem,e2,p,a0,a4]
     refine(fin M _ _ _ _ a9 a1 T (Zd hk) a8 a0 ?_);simp[renI,a4]
    .have ag:0<(means ts nm).length:=List.length_pos_iff.2 a4
     simp[go_sem,e0,ag];refine fL (mq ts h s (qk ts es) hs tb es aa a0 ae) ?_ (by rintro r m ⟨e,_⟩;cases e);rintro r m ⟨e,rfl⟩;cases e;have hu:=mr (mu:=M.set xb (.arr (cIn ts tb ⟨zh ts es (qk ts es) s.last,s.sM⟩))) (b:=mu.length) (by rw[zGl];exact a1) nm ⟨none,0,vN (zh ts es (qk ts es) s.last)⟩;simp[go_sem,e2,p];refine tB _ hu ?_;simp[go_sem,p];refine(fin _ _ _ _ ⟨zh ts es (qk ts es) s.last,s.sM⟩ ((a9.trans (cC xb M _)).setN (qh _) _) (qv (zUs af)) (uC T) (uC (Zd hk)) (fun x=>by rw[Qg T,Qg (Zd hk),a8]) (by rw[zGl,qv zOm];rfl) ?_);simp[renI,a4]
end
end YB
namespace Q9
open Y1
def mv(nm:tV)(p:Int):Nd := .mk 1 nm 0 [] p
end Q9
namespace PA
open P1 P2 Y1 Y2 Y9 Y15 Y16 Q6
section
variable {inn:Bool}{c c':Ck}{s s':Scp}
def uP(nm:tV)(n:Nd):Prop:=anyN (fun n=>decide (n.name=nm)) n=true
theorem mw{p}:∀{ks},jT p ks=true↔∃ k,k∈ks/\anyN p k=true
 | []=>by simp[jT]
 |k :: ks=>by
  simp only[jT,Qq,mw (ks:=ks),qs];constructor
  .rintro (h|⟨x,g,h⟩)
   .exact ⟨k,.inl rfl,h⟩
   .exact ⟨x,.inr g,h⟩
  .rintro ⟨x,rfl|g,h⟩
   .exact .inl h
   .exact .inr ⟨x,g,h⟩
theorem qj2(n):uP n.name n:=by
 unfold uP;rw[Jl];simp
theorem qj3{n k nm}(g:k∈n.sD)(h:uP nm k):uP nm n:=by
 unfold uP at h⊢;rw[Jl,Qq]
 grind [mw]
def lookS(nm:tV)(s:Scp):Option Kd:=(yL nm s).head?.map Prod.snd
theorem qj4(nm):lookS nm []=none:=rfl
theorem Qh(nm v)(s:Scp):lookS nm (v :: s)=if v.1=nm then some v.2 else lookS nm s:=by
 grind [lookS,yL]
theorem Zm(c s nm pos):yk c s nm pos=match lookS nm s with
  |some k => .ok (some k)
  |none=>match means c.ts nm with
   | [] => .error (40,pos)
   | [k] => .ok (some k)
   |_ => .error (44,pos):=by
 grind [yk,lookS,yL]
theorem my{n n'}(j:n'.op=n.op)(l:n'.name=n.name)(t:n'.n=n.n)(C:n'.pos=n.pos)
  (I:zE c' n.op n.name=zE c n.op n.name) (P:n.op=1->yk c s n.name n.pos=yk c' s' n.name n.pos) (o:c'.ts.sT=c.ts.sT) (g:zd c' n.name=zd c n.name)
  (p:c'.ts.sS.length=c.ts.sS.length) (i:n'.sD.length=n.sD.length)
  (R:n.op=47->∀ ps,zz c s n.pos ps n.sD=zz c' s' n.pos ps n'.sD)
  (hB:(n.op=15\/n.op=45\/n.op=46)->∀ inn,zH c s inn n.name n.pos n.sD=zH c' s' inn n.name n.pos n'.sD)
  (J:¬n.op=1->¬n.op=47->¬(n.op=15\/n.op=45\/n.op=46)->∀ inn,qK c s inn n.sD=qK c' s' inn n'.sD):exam c s inn n=exam c' s' inn n':=by
 rw[yn,yn,j,l,t,C,I,o,g,p,i];by_cases a:(inn&&zE c n.op n.name)=true
 .rw [if_pos a,if_pos a]
 rw[if_neg a,if_neg a];by_cases b:n.op=1
 .grind
 rw[if_neg b,if_neg b];by_cases d:n.op=47
 .simp_all
 rw[if_neg d,if_neg d];by_cases e:n.op=15\/n.op=45\/n.op=46
 .rw [if_pos e,if_pos e];exact hB e _
 rw[if_neg e,if_neg e,J b d e]
theorem mz(f):∀{ks},(∀ k,k∈ks->exam c s inn k=exam c' s' inn (f k))->qK c s inn ks=qK c' s' inn (ks.map f)
 | [],_=>rfl
 |k :: ks,h=>by
  simp only[zc,qK];rw[h k (qX ..),mz f fun g i=>h g (qP _ i)]
theorem mA{pos}(f):∀{ks ps},(∀ k,k∈ks->exam c s true k=exam c' s' true (f k))->zz c s pos ps ks=zz c' s' pos ps (ks.map f)
 | [],ps,_=>by cases ps<;>rfl
 |k :: ks,[],_=>rfl
 |k :: ks,p :: ps,h=>by
  simp only[zc,zz];rw[h k (qX ..),mA f (ps:=ps) fun g i=>h g (qP _ i)]
theorem V3{ks}(h:∀ k,k∈ks->exam c s inn k=exam c' s' inn k):qK c s inn ks=qK c' s' inn ks:=by
 have:=mz (c:=c) (c':=c') (s:=s) (s':=s') (inn:=inn) id (ks:=ks) h
 rwa[List.map_id]at this
theorem mB{pos ks ps}(h:∀ k,k∈ks->exam c s true k=exam c' s' true k):zz c s pos ps ks=zz c' s' pos ps ks:=by
 have:=mA (c:=c) (c':=c') (s:=s) (s':=s') (pos:=pos) id (ks:=ks) (ps:=ps) h
 rwa[List.map_id]at this
structure uQ (c c':Ck):Prop where
 sT:c'.ts.sT=c.ts.sT
 sS:c'.ts.sS=c.ts.sS
 sA:c'.ts.sA=c.ts.sA
 calls:c'.calls=c.calls
 timed:c'.timed=c.timed
theorem uQ.refl(c):uQ c c:=⟨rfl,rfl,rfl,rfl,rfl⟩
theorem uQ.callee(h:uQ c c')(nm):zd c' nm=zd c nm:=by
 unfold zd;rw[h.sT,h.calls]
theorem uQ.time(h:uQ c c')(op nm):zE c' op nm=zE c op nm:=by
 unfold zE;rw[h.callee,h.timed]
theorem uQ.means(h:uQ c c')(nm):means c'.ts nm=means c.ts nm:=by
 unfold P1.means;rw[h.sA,h.sS]
theorem mC(j:uQ c c'):∀ m n s s' inn,szN n<=m->(∀ nm,uP nm n->lookS nm s=lookS nm s')->exam c s inn n=exam c' s' inn n
 | 0,n,_,_,_,o,_=>by obtain⟨op,nm,i,ks,p⟩:=n;simp[szN]at o
 |m+1,n,s,s',inn,o,h=>by
  have l:∀ k,k∈n.sD->∀(s s':Scp)(inn:Bool),(∀ nm,uP nm k->lookS nm s=lookS nm s')->exam c s inn k=exam c' s' inn k:=fun k l s s' inn C =>
   mC j m k s s' inn (zW1 (q9 l)) C
  have t:∀ k,k∈n.sD->∀ nm,uP nm k->lookS nm s=lookS nm s':=fun k l nm I=>h nm (qj3 l I)
  refine my rfl rfl rfl rfl (j.time _ _) (fun _=>?_) j.sT (j.callee _) (by rw[j.sS]) rfl (fun _ P=>mB fun k g=>l k g s s' true (t k g)) (fun _ inn=>?_) (fun _ _ _ inn=>V3 fun k g=>l k g s s' inn (t k g))
  .rw [Zm,Zm,h _ (qj2 n),j.means]
  .cases J:n.sD with
   |nil=>rfl
   |cons k ks =>
    grind [ks,zH,qX,qK,V3,qP,Qh]
def wf(ts:TS)(g:List (tV×Nd)):TS:=⟨ts.sS,ts.sA,ts.sT,g⟩
theorem qj5{J}(g)(l:List J)(i):(repL g l)[i]?=(l[i]?).map fun x=>(l.take i).any fun y=>g x y:=by
 grind [gY,qC,List.getElem?_eq_none,wC]
theorem mD{J}(g)(l:List J)(i):repB g l i=match l[i]? with|some x=>[(l.take i).any fun y=>g x y] | none=>[]:=by
 unfold repB;rw[List.take_add_one,qj5,List.drop_append];by_cases h:i<l.length
 .rw [qC h,List.length_take,wC,Nat.min_eq_left zOm,List.drop_of_length_le zSo]
  simp
 grind
def binB(op:Int):Bool:=decide (op=15)||decide (op=45)||decide (op=46)
end
end PA
namespace YC
open P1 Y1 YX YZ YA YB PA
section
variable {env:IEnv}{s:ISt}{es:List (tV×Bool)}{F:Nat}{ts:TS}
abbrev XR(J:Type):=Except Dg (J×ISt)
def yP(E:Nd->ISt->XR (Nd×Int)):List (tV×Int)->List Nd->IEnv->ISt->XR IEnv
 |p :: g,k :: ks,own,s=>match E k s with
  | .error e => .error e
  | .ok ((i,m),j)=>yP E g ks (setK p.1 ⟨some i,m,⟨#[]⟩⟩ own) j
 |_,_,own,s => .ok (own,s)
def yp(E:IEnv->Nd->ISt->XR (Nd×Int))(R:IEnv->tV->ISt->(IEnv×tV)×ISt)(bin:Bool):Nat->IEnv->tV->List Nd->ISt->XR (tV×List Nd×Int)
 |_,_,nm,[],s => .ok ((nm,[],0),s)
 |i,env,nm,k :: ks,s =>
  let r:=if bin=true/\i=1 then R env nm s else ((env,nm),s)
  match E r.1.1 k r.2 with
  | .error e => .error e
  | .ok ((o,m),p)=>match yp E R bin (i+1) r.1.1 r.1.2 ks p with
   | .error e => .error e
   | .ok ((g,j,t),l) => .ok ((g,o :: j,m+t),l)
def vj{J i:Type}(q:XR J)(g:J->ISt->XR i):XR i:=
 match q with
 | .error e => .error e
 | .ok (a,s)=>g a s
theorem Z5{J i q}{g:J->ISt->XR i}{r}(h:vj q g = .ok r):∃ a s,q = .ok (a,s)/\g a s = .ok r:=by
 unfold vj at h;split at h
 .cases h
 .exact ⟨_,_,rfl,h⟩
def expI(ts:TS)(es:List (tV×Bool)):Nat->IEnv->Nd->Bool->ISt->XR (Nd×Int)
 | 0,_,_,_,_ => .error (2,0)
 |f+1,env,n,g,s =>
  if s.sM+1<=4000 then
   if n.op=1 then vg env n (payS 1 s)
   else if n.op=47 then match ts.sT.find? fun p=>decide (p.name=n.name) with
    |none => .error (2,0)
    |some p=>vj (yP (fun k s=>expI ts es f env k g s) p.params n.sD [] (payS 1 s)) fun own i=>expI ts es f own p.body true i
   else vj (yp (fun env k s=>expI ts es f env k g s) (fun env nm s=>renI ts es env nm g s) (binB n.op) 0 env n.name n.sD (payS 1 s)) fun r i => .ok ((.mk n.op r.1 n.n r.2.1 n.pos,1+r.2.2),i)
  else .error (2,0)
def yq(ts:TS)(n:Nd):Prop:=∀ x,x∈preN n->x.op=47->∃ p,(ts.sT.find? fun p=>decide (p.name=x.name))=some p/\p.params.length=x.sD.length
theorem qj6{ks k x}(g:k∈ks)(i:x∈preN k):x∈zg ks:=by
 induction ks with
 |nil=>simp at g
 |cons a l j =>
  simp only[zg,qL];rcases qs.1 g with rfl|g
  .exact .inl i
  grind
theorem Xo{n k x}(g:k∈n.sD)(i:x∈preN k):x∈preN n:=by
 grind [uO,qP,qj6]
theorem vD(n):n∈preN n:=by rw[uO];exact qX ..
theorem yq.kid{n k}(h:yq ts n)(g:k∈n.sD):yq ts k:=fun x i=>h x (Xo g i)
def pot(F:Nat)(s:ISt):Int:=s.sM*F-s.last
structure StOk (F:Nat) (s:ISt):Prop where
 l0:0<=s.last
 c0:0<=s.sM
 c1:s.sM<=4000
 p:0<=pot F s
theorem StOk.last(h:StOk F s):s.last<=4000*F:=by
 have g:s.sM*F<=4000*F:=Int.mul_le_mul_of_nonneg_right h.c1 zOm;have:=h.p
 grind [pot]
structure ze (env:IEnv):Prop where
 nd:(env.map Prod.fst).Nodup
 sz:∀ e,e∈env->0<=e.2.size/\e.2.size<=4000
theorem ze.nil:ze []:=⟨zSp,fun e g=>by simp at g⟩
theorem ze.set(h:ze env){k v}(i:0<=v.size/\v.size<=4000):ze (setK k v env):=
 ⟨uC h.nd,fun e g=>by
  rcases (Qg h.nd).1 g with rfl|⟨g,_⟩
  .exact i
  .exact h.sz e g⟩
theorem ze.del(h:ze env){k}:ze (delK k env):=⟨Zd h.nd,fun e g=>h.sz e ((Wx h.nd).1 g).1⟩
theorem Jp{nm body}(h:ze env):ze (renI ts es env nm body s).1.1:=by
 unfold renI;split
 .exact h.del.set ⟨zSp,zSp⟩
 .exact h.del
theorem Xp(ts es):∀ f k,k<zh ts es f k/\zh ts es f k<=k+f+1
 | 0,k=>by grind [zh]
 |f+1,k=>by
  simp only[zh];have:=Xp ts es f (k+1);omega
theorem Xq{ts es}:∀{f k},(∃ j:Nat,1<=j/\j<=f/\yf ts es (vN (k+j))=true)->zh ts es f k<=k+f
 | 0,k,⟨j,g,i,_⟩=>zOm
 |f+1,k,⟨j,g,i,l⟩=>by
  simp only[zh];split
  .omega
  .rename_i o
   have p:j≠1:=fun e=>by grind
   have:=Xq (ts:=ts) (es:=es) (f:=f) (k:=k+1) ⟨j-1,zOm,zOm,by grind⟩;omega
def Free(ts:TS)(es:List (tV×Bool)):Prop:=∀ l:Int,0<=l->∃ j:Nat,1<=j/\j<=qk ts es/\yf ts es (vN (l+j))=true
theorem Jq(g:Free ts es){env nm body s}(i:0<=s.last):0<=(renI ts es env nm body s).2.last/\(renI ts es env nm body s).2.last<=s.last+(qk ts es:Nat)/\(renI ts es env nm body s).2.sM=s.sM:=by
 unfold renI;split
 .have l:=Xp ts es (qk ts es) s.last
  have j:=Xq (g s.last i);refine⟨?_,j,rfl⟩
  grind
 .exact ⟨i,by grind,rfl⟩
structure Gos (F:Nat) (s s':ISt) (z:Int):Prop where
 l0:0<=s'.last
 c1:s'.sM<=4000
 z0:0<=z
 cz:s.sM+z<=s'.sM
 p:pot F s<=pot F s'
theorem Gos.ok{s' z}(g:Gos F s s' z)(h:StOk F s):StOk F s':=⟨g.l0,by have:=g.cz;have:=g.z0;have:=h.c0;omega,g.c1,zW2 g.p h.p⟩
theorem Zn(F s n):pot F (payS n s)=pot F s+n*F:=by
 grind [pot,payS,Int.add_mul]
theorem wG(h:StOk F s){n}(g:0<=n)(i:s.sM+n<=4000):Gos F s (payS n s) n:=
 ⟨h.l0,i,g,jO _,by rw[Zn];have:0<=n*(F:Int):=Int.mul_nonneg g zOm;omega⟩
theorem qj7{n n' s' z}(h:StOk F s)(l:ze env)(C:s.sM+1<=4000)(e:vg env n (payS 1 s) = .ok ((n',z),s')):Gos F s s' z:=by
 have j:=wG h (n:=1) zOm C;unfold vg at e;cases o:getK n.name env with
 |none=>grind
 |some v =>
  rw[o]at e;have I:=l.sz _ ((wS l.nd).1 o);obtain⟨J,t,R⟩:=v;cases J with
  |none=>cases e;exact j
  |some a =>
   simp only at e;split at e
   .rename_i P
    have i:0<=t/\t<=4000:=I;cases e;have g:=wG (j.ok h) i.1 P;exact⟨g.l0,g.c1,i.1,zW2 g.cz j.cz,zW2 g.p j.p⟩
   .cases e
theorem Xr{E}:∀{ks ps own i s s'},(∀ k n' z s s',k∈ks->StOk F s->E k s = .ok ((n',z),s')->Gos F s s' z)->StOk F s->ze own ->
  yP E ps ks own s = .ok (i,s')->ze i/\Gos F s s' 0
 | [],ps,own,i,s,s',_,h,j,e=>by
  have e:Except.ok (own,s)=(Except.ok (i,s'):XR IEnv):=by cases ps<;>exact e
  cases e;exact⟨j,h.l0,h.c1,zOm,zOm,jO _⟩
 |k :: ks,[],own,i,s,s',_,h,j,e=>by
  cases e;exact⟨j,h.l0,h.c1,zOm,zOm,jO _⟩
 |k :: ks,p :: ps,own,i,s,s',o,h,j,e=>by
  simp only[yP]at e;split at e
  .cases e
  .rename_i t m s1 C
   have g:=o k t m s s1 (qX ..) h C;have I:m<=4000:=by have:=g.cz;have:=g.c1;have:=h.c0;omega
   obtain⟨J,l⟩:=Xr (fun k n' z s s' P=>o k n' z s s' (qP _ P)) (g.ok h) (j.set (v:=⟨some t,m,⟨#[]⟩⟩) ⟨g.z0,I⟩) e;exact⟨J,l.l0,l.c1,zOm,by have:=g.cz;have:=g.z0;have:=l.cz;omega,zW2 g.p l.p⟩
def dueN(F:Nat)(bin:Bool)(i:Nat):Int:=if bin=true/\i<=1 then F else 0
theorem Zo(F bin i):0<=dueN F bin i:=by unfold dueN;split<;>omega
theorem V4{bin i}(h:¬(bin=true/\i=1)):dueN F bin i=dueN F bin (i+1):=by
 unfold dueN;by_cases g:bin=true
 .by_cases l:i=1
  .grind
  .by_cases j:i<=1
   .rw [if_pos ⟨g,j⟩,if_pos ⟨g,zOm⟩]
   omega
 grind
theorem mE{E R bin}(P:∀ env nm s,0<=s.last->ze env->ze (R env nm s).1.1/\0<=(R env nm s).2.last/\(R env nm s).2.last<=s.last+(F:Int)/\(R env nm s).2.sM=s.sM) :
  ∀{ks i env nm j s s' l m},(∀ env k n' z s s',k∈ks->StOk F s->ze env->E env k s = .ok ((n',z),s')->Gos F s s' z)->0<=s.last->0<=s.sM->s.sM<=4000->dueN F bin i<=pot F s->ze env ->
  yp E R bin i env nm ks s = .ok ((j,l,m),s')->0<=s'.last/\s'.sM<=4000/\0<=m/\s.sM+m<=s'.sM/\pot F s-dueN F bin i<=pot F s'
 | [],i,env,nm,j,s,s',l,m,_,T,c0,c1,hp,U,e=>by
  cases e;have:=Zo F bin i;omega
 |k :: ks,i,env,nm,j,s,s',l,m,hE,T,c0,c1,hp,U,e=>by
  simp only[yp]at e;obtain⟨r,t⟩:∃ r,r=if bin=true/\i=1 then R env nm s else ((env,nm),s):=⟨_,rfl⟩
  rw[<-t]at e;have I:ze r.1.1/\0<=r.2.last/\r.2.sM=s.sM/\dueN F bin (i+1)<=pot F r.2/\pot F s-dueN F bin i<=pot F r.2-dueN F bin (i+1):=by
   by_cases C:bin=true/\i=1
   .rw [if_pos C]at t
    obtain⟨a1,a2,a3,a4⟩:=P env nm s T U;have d1:dueN F bin i=F:=if_pos ⟨C.1,zOm⟩;have d2:dueN F bin (i+1)=0:=zIn
    grind [pot]
   .rw [if_neg C]at t
    subst t;have d':dueN F bin i=dueN F bin (i+1)\/(bin=true/\i=1):=by
     unfold dueN;by_cases o:bin=true
     .by_cases h1:i=1
      .grind
      .left
       by_cases h0:i<=1
       .rw [if_pos ⟨o,h0⟩,if_pos ⟨o,zOm⟩]
       omega
     grind
    have a0:dueN F bin i=dueN F bin (i+1):=d'.elim id fun h=>absurd h C
    grind
  obtain⟨b1,b2,b3,b4,b5⟩:=I;split at e
  .cases e
  .rename_i k' m1 s1 h1
   have J:StOk F r.2:=⟨b2,zOm,zOm,zW1 (Zo F bin (i+1))⟩;have g:=hE r.1.1 k k' m1 r.2 s1 (qX ..) J b1 h1;split at e
   .cases e
   .rename_i a5 a6 m2 s2 h2
    have:=mE P (fun env k n' z s s' hk=>hE env k n' z s s' (qP _ hk)) g.l0 (zW2 g.cz g.z0) g.c1 (zW1 g.p) b1 h2;obtain⟨q1,q2,q3,q4,q5⟩:=this;cases e;have:=g.cz;have:=g.z0;have:=g.p;omega
theorem jl(ts){es}(g:Free ts es):∀(f){env n n' body s s' z},StOk (qk ts es) s->ze env->expI ts es f env n body s = .ok ((n',z),s')->Gos (qk ts es) s s' z
 | 0,_,_,_,_,_,_,_,_,_,e=>by cases e
 |f+1,env,n,n',body,s,s',z,h,P,e=>by
  simp only[expI]at e;split at e
  .rename_i R
   have i:=wG h (n:=1) zOm R;split at e
   .grind [qj7]
   .split at e
    .split at e
     .cases e
     .rename_i p _
      .obtain ⟨own,s1,t,e⟩:=Z5 e
       obtain⟨T,g1⟩:=Xr (F:=qk ts es) (fun k n' z s s' _ C I=>jl ts g f C P I) (i.ok h) .nil t;have j:=jl ts g f (g1.ok (i.ok h)) T e;exact⟨j.l0,j.c1,j.z0,by have:=j.cz;have:=g1.cz;have:=i.cz;omega,by have:=j.p;have:=g1.p;have:=i.p;omega⟩
    ·.obtain ⟨⟨l,o,m⟩,s1,t,e⟩:=Z5 e
      cases e;have U:dueN (qk ts es) (binB n.op) 0<=pot (qk ts es) (payS 1 s):=by
       rw[Zn];have:=h.p;grind [dueN]
      have:=mE (F:=qk ts es) (fun env nm s hl J=>⟨Jp J,Jq g hl⟩) (fun env k n' z s s' _ C J I=>jl ts g f C J I) i.l0 (by have:=(i.ok h).c0;exact this) i.c1 U P t;obtain⟨q1,q2,q3,q4,q5⟩:=this;have a0:dueN (qk ts es) (binB n.op) 0<=(qk ts es:Nat):=by grind [dueN]
      rw[Zn]at q5;have a1:0<=(l,o,m).snd.snd:=q3;have a2:(payS 1 s).sM+(l,o,m).snd.snd<=s'.sM:=q4;exact⟨q1,q2,zOm,zW1 i.cz,zOm⟩
  .cases e
end
end YC
namespace YD
open YM YF P1 P2 Y1 Y2 Y6 Y7 Y9 Y10 Y13 YX YZ YB PA YC
section
variable {mu:Mu}{b:Nat}
theorem qj8(p n):qd qb 185 [.agg (cPd p),.ip (cNd n)] (aB (decide (p.name=n.name))):=by
 refine qSV call185 func185 rfl ?_;by_cases h:p.name=n.name
 .simp [go_sem,h]
  exact .zsc _
 .simp [go_sem,h,ji h]
  exact .zsc _
def endE(ts:TS)(tb:Nat)(mu:Mu)(xb:Nat)(r:XR (Nd×Int))(e:AEnd)(m:Mu):Prop:=
 match r with
 | .ok ((n,k),s)=>e = .ret (.tup [eNd n,aI k])/\m[xb]?=some (.arr (cIn ts tb s))/\But xb mu m
 | .error d=>e = .pan (y9 d.1 d.2)/\But xb mu m
def IHE(ts : TS)(es : List (tV × Bool))(tb f : Nat) : Prop := ∀(env : IEnv)(n : Nd)(g : Bool)(s : ISt)(I : Mu)(i : Nat), 4000 < s.sM + f->StOk (qk ts es) s->ze env->WfN n->yq ts n->I[i]? = some (.arr (cIn ts tb s))->I[tb]? = some (.mp (eSet es)) ->
      qr qb 116 [.ptr i 0,eEnv env,eNd n,aB g] I (endE ts tb I i (expI ts es f env n g s))
structure M0 (ts:TS) (es:List (tV×Bool)) (tb:Nat) (mu:Mu) (xb:Nat) (n:Nd) (s:ISt) (M:Mu):Prop where
 len:M.length=mu.length+2
 x:M[xb]?=some (.arr (cIn ts tb s))
 t:M[tb]?=some (.mp (eSet es))
 n:M[mu.length]?=some (.arr (cNd n))
 r:M[mu.length+1]?=some (.arr [aI 0,aS ⟨#[]⟩,aI 0,.lst true [],aI 0])
 but:But xb mu M
theorem M0.of{ts es tb xb n s s'}(g:mu[xb]?=some (.arr (cIn ts tb s)))(i:mu[tb]?=some (.mp (eSet es))) :
  M0 ts es tb mu xb n s' ((mu++[Cell.arr (cNd n),Cell.arr [aI 0,aS ⟨#[]⟩,aI 0,.lst true [],aI 0]]).set xb (.arr (cIn ts tb s'))):=by
 have j:xb<mu.length:=(qg.1 g).1;have l:tb<mu.length:=(qg.1 i).1;have o:tb≠xb:=fun e=>by grind
 refine⟨zSp,qv zSo,?_,?_,?_,(But.app xb mu _).trans (cC xb _ _)⟩
 .grind
 .grind
 grind
theorem qj9(ts es tb env n body s mu xb)(J:StOk (qk ts es) s)(P:ze env)(R:mu[xb]?=some (.arr (cIn ts tb s)))(T:mu[tb]?=some (.mp (eSet es)))(t:n.op=1) :
  qr qb 116 [.ptr xb 0,eEnv env,eNd n,aB body] mu (endE ts tb mu xb (if s.sM+1<=4000 then vg env n (payS 1 s) else .error (2,0))):=by
 have U:=J.c0;have a0:=J.c1;refine qSW call116 func116 rfl { mt:=[6] } ?_;have a1:xb<mu.length:=(qg.1 R).1;simp[go_sem];refine fL (payU ts tb s 1 ⟨zOm,zOm⟩ ⟨zOm,zOm⟩ (by grind)) ?_ ?_
 .rintro r m ⟨rfl,e⟩
  by_cases C:s.sM+1<=4000
  .rw [if_pos C]at e⊢
   cases e;have l:=M0.of (s':=payS 1 s) (n:=n) R T;generalize a2:(mu++[Cell.arr (cNd n),.arr [aI 0,aS ⟨#[]⟩,aI 0,.lst true [],aI 0]]).set xb (.arr (cIn ts tb (payS 1 s)))=M at *
   simp[go_sem,l.n,t];have g:=qiV ts tb (payS 1 s) ⟨by show _<=s.sM+1;omega,by show s.sM+1<=_;omega⟩ env P.nd (fun e hm=>zW1 (P.sz e hm)) n l.x;generalize vg env n (payS 1 s)=Q at *
   have a3:=l.len;cases Q with
   |error d =>
    refine fL g (by rintro r m ⟨e,_⟩;cases e) ?_;rintro r m ⟨e,i,j⟩;cases e;simp[go_sem];exact⟨rfl,l.but.trans ⟨j,i⟩⟩
   |ok q =>
    obtain⟨⟨n',k'⟩,s'⟩:=q;refine fL g ?_ (by rintro r m ⟨e,_⟩;cases e);rintro r m ⟨e,a4,i,j⟩;cases e;have I:m[mu.length+1]?=some (.arr [aI 0,aS ⟨#[]⟩,aI 0,.lst true [],aI 0]):=by grind
    have o:mu.length+1<m.length:=zOm;have p:∀ c,(m.set (mu.length+1) c)[mu.length+1]?=some c:=fun c=>qv o
    simp[go_sem,I,p];exact⟨rfl,by grind,(l.but.trans ⟨j,i⟩).setN zOm _⟩
  grind
 .rintro r m ⟨rfl,e⟩
  by_cases C:s.sM+1<=4000
  .grind
  .rw [if_neg C]at e⊢
   cases e;simp[go_sem];exact⟨rfl,(But.app xb mu _).trans (cC xb _ _)⟩
theorem mF{cs}(j:mu[b]?=some (.arr cs))(h:∀ c,c∈cs->HF c):Rd mu (.ptr b 0) (.ip cs):=
 .ptr b 0 cs cs j zSp fun k x y g i=>by
  rw[yJ]at g;rw[g]at i;cases i;exact .hf _ (h _ (qN g))
abbrev AP:=Nat×Int×Nd
abbrev eAP(a:AP):AV := .agg [.ptr a.1 0,aI a.2.1,aS ⟨#[]⟩]
abbrev ivA(a:AP):IV:=⟨some a.2.2,a.2.1,⟨#[]⟩⟩
abbrev ownA(acc:List (tV×AP)):IEnv:=acc.map fun e=>(e.1,ivA e.2)
theorem Xs{i J j}[DecidableEq i](g:J->j)(k v):∀ es:List (i×J),(setK k v es).map (fun e=>(e.1,g e.2))=setK k (g v) (es.map fun e=>(e.1,g e.2))
 | []=>rfl
 |e :: es=>by
  simp only[setK,zc];split
  .rfl
  .rw [zc,Xs g k v es]
theorem updAP{es}(i:mu[b]?=some (.mp (encK aS eAP es)))(nm v) :
  y6 qb mu 179 (.mp b) (aS nm) (eAP v)=some (mu.set b (.mp (encK aS eAP (setK nm v es)))):=
 keyS.update (et:=248) (t:=179) zSi (mu:=mu) (b:=b) (venc:=eAP) (es:=es) i (k:=nm) (v:=v) trivial (fun _ _=>trivial)
theorem mG{acc}(o:mu[b]?=some (.mp (encK aS eAP acc)))(t:(acc.map Prod.fst).Nodup)(p:∀ e,e∈acc->mu[e.2.1]?=some (.arr (cNd e.2.2.2))):Rd mu (.mp b) (eEnv (ownA acc)):=by
 have j:((ownA acc).map Prod.fst).Nodup:=by
  grind
 have get:∀(k:Nat)(x y:AV×AV),(encK aS eAP acc)[k]?=some x->(encK aS eIV (ownA acc))[k]?=some y->∃ e,e∈acc/\x=(aS e.1,eAP e.2)/\y=(aS e.1,eIV (ivA e.2)):=fun k x y g i=>by
  grind
 refine .ims _ _ _ id id (PIx.refl _) (Xn j) (.mp b _ _ o zSp (fun k x y g i=>?_) (fun k x y g i=>?_))
 .obtain ⟨e,l,rfl,rfl⟩:=get k x y g i
  exact .zsc _
 .obtain ⟨e,l,rfl,rfl⟩:=get k x y g i
  refine .agg _ _ rfl fun k x y g i=>?_
  match k with
  | 0 =>
   simp at g i;subst g;subst i;exact mF (p e l) (yK _)
  | 1=>simp at g i;subst g;subst i;exact .zsc _
  | 2=>simp at g i;subst g;subst i;exact .zsc _
  |k+3=>simp at g
theorem qkA{ps:List Pd}{g p}(h:ps.find? g=some p):∃ i,∃ j:i<ps.length,ps[i]=p/\idxI ps g=i:=by
 grind [List.find?_eq_some_iff_getElem,VG]
theorem qkB(ts)(h:okTS ts)(hb:∀ p,p∈ts.sT->WfN p.body/\yq ts p.body)(es)(hF:qk ts es<=200000)(b0:Free ts es)(tb f)(ih:IHE ts es tb f)(env n body)(s:ISt)(mu xb)
  (hc:4000<s.sM+(f+1:Nat)) (hs:StOk (qk ts es) s) (he:ze env) (hw:WfN n) (aj:yq ts n) (hx:mu[xb]?=some (.arr (cIn ts tb s))) (ht:mu[tb]?=some (.mp (eSet es))) (ab:n.op=47) :
  qr qb 116 [.ptr xb 0,eEnv env,eNd n,aB body] mu (endE ts tb mu xb (expI ts es (f+1) env n body s)):=by
 have bo:=hs.c0;have bq:=hs.c1;generalize J:expI ts es (f+1) env n body s=R;simp only[expI,ab]at J;obtain⟨p,hp,b1⟩:=aj n (vD n) ab;rw[hp]at J;refine qSW call116 func116 rfl { mt:=[6] } ?_;have br:xb<mu.length:=(qg.1 hx).1;have b2:tb<mu.length:=(qg.1 ht).1;simp[go_sem];refine fL (payU ts tb s 1 ⟨zOm,zOm⟩ ⟨zOm,zOm⟩ (by grind)) ?_ ?_
 .rintro r m ⟨rfl,e⟩
  by_cases T:s.sM+1<=4000
  .rw [if_pos T]at e J
   cases e;have hM:=M0.of (s':=payS 1 s) (n:=n) hx ht;generalize bs:(mu++[Cell.arr (cNd n),.arr [aI 0,aS ⟨#[]⟩,aI 0,.lst true [],aI 0]]).set xb (.arr (cIn ts tb (payS 1 s)))=M at *
   have bt:=hM.len;simp[go_sem,hM.n,ab];refine qe.fz (FzQ.one (b:=mu.length) (d:=6) (x := .ip (cNd n)) ?_ ?_)
   .simp [go_sem]
    grind [mF,vh,yK]
   have ak:(cutM (fun j=>!(j == mu.length)) M 0)[xb]?=some (.arr (cIn ts tb (payS 1 s))):=by grind [vh]
   have bm:(cutM (fun j=>!(j == mu.length)) M 0)[tb]?=some (.mp (eSet es)):=by grind [vh]
   have bn:(cutM (fun j=>!(j == mu.length)) M 0)[mu.length+1]?=some (.arr [aI 0,aS ⟨#[]⟩,aI 0,.lst true [],aI 0]):=by grind [vh]
   have al:But xb mu (cutM (fun j=>!(j == mu.length)) M 0):=hM.but.cut fun i hi=>zSo
   have a8:(cutM (fun j=>!(j == mu.length)) M 0).length=mu.length+2:=by grind [vy]
   simp only[qH];generalize cutM (fun j=>!(j == mu.length)) M 0=M1 at *
   refine tN zKr ?_;simp[go_sem,ak];obtain⟨i,hi,b3,an⟩:=qkA hp;have b4:ZR qb (.fn (.func 185) [] [.ip (cNd n)]) ts.sT (fun x => .agg (cPd x)) (fun p=>decide (p.name=n.name)):=⟨_,_,_,rfl,fun p hp=>⟨_,qj8 p n,.zk (HF.agg (VD p)) (.zk (Jj n) .nil)⟩⟩;refine tR (WJ false ts.sT _ (fun p=>decide (p.name=n.name)) b4 (zW1 h.np)) (.zk (wA _) (.zk (HF.fn zSp (fun x hx=>by grind [Jj])) .nil)) ?_;rw[an];have b5:p∈ts.sT:=List.mem_of_find?_eq_some hp;obtain⟨b6,b7⟩:=hb p b5;have ao:=hw.len;have a5:=wY p;simp[go_sem,hi,b3,a5];have aq:StOk (qk ts es) (payS 1 s):=(wG hs zOm T).ok hs;have J:vj (yP (fun k s=>expI ts es f env k body s) p.params n.sD [] (payS 1 s)) (fun own s'=>expI ts es f own p.body true s')=R:=zUs J;generalize hQ:yP (fun k s=>expI ts es f env k body s) p.params n.sD [] (payS 1 s)=Q at *
   refine fZ n.sD.length (fun k U=>∃(o:List (tV×AP)) (P:ISt),U.tm 0 = .ptr xb 0/\U.tm 1=eEnv env/\U.tm 3=aB body/\U.tm 8 = .ptr (mu.length+1) 0/\U.tm 10 = .ptr (mu.length+2) 0/\U.tm 11 = .mp (mu.length+3)/\U.tm 52=lNd n.sD/\U.tm 53=aI n.sD.length/\U.tm 54=aI k /\
    But xb mu U.mu/\mu.length+3<U.mu.length/\U.mu[xb]?=some (.arr (cIn ts tb P))/\U.mu[mu.length+1]?=some (.arr [aI 0,aS ⟨#[]⟩,aI 0,.lst true [],aI 0])/\U.mu[mu.length+2]?=some (.arr (cPd p))/\U.mu[mu.length+3]?=some (.mp (encK aS eAP o)) /\
    (∀ e,e∈o->mu.length+3<e.2.1/\e.2.1<U.mu.length/\U.mu[e.2.1]?=some (.arr (cNd e.2.2.2)))/\ze (ownA o)/\(o.map Prod.fst).Nodup/\StOk (qk ts es) P/\s.sM+1<=P.sM/\yP (fun k s=>expI ts es f env k body s) (p.params.drop k) (n.sD.drop k) (ownA o) P=Q) ?_ ?_
   .refine ⟨[],payS 1 s,zSi,zSi,zSi,zSi,by simp[go_sem,a8],by simp[go_sem,a8],zSi,zSi,zSi,?_,?_,?_,?_,?_,?_,zSp,.nil,zSp,aq,by show _<=s.sM+1;omega,zUs hQ⟩
    all_goals simp only[qH]
    .exact al.trans (But.app xb M1 _)
    .simp;omega
    .grind
    .grind
    .grind
    grind
   .rintro k U hk ⟨o,P,e0,e1,e3,e8,ad,ae,ar,af,ag,C,hl,gx,gr,gp,gm,au,a9,ah,a6,b8,hI⟩
    have b9:U.mu[tb]?=some (.mp (eSet es)):=by rw[C.same tb b2 (fun e=>by grind)];exact ht
    by_cases ao:k=n.sD.length
    .subst ao
     simp[go_sem,e0,ad,ae,af,ag,gp];rw[zF,List.drop_of_length_le zOm]at hI;have hI:Q = .ok (ownA o,P):=hI.symm;rw[hI]at J;have J:expI ts es f (ownA o) p.body true P=R:=J;have av:∀ i,i<mu.length+3->(cutM (fun i=>!decide (mu.length+3<=i)) U.mu 0)[i]?=U.mu[i]?:=fun i hi=>vh zSo
     have g:=ih (ownA o) p.body true P (cutM (fun i=>!decide (mu.length+3<=i)) U.mu 0) xb zOm a6 a9 b6 b7 (by grind) (by grind);rw[J]at g;have g:=qr.freeze (mu:=U.mu) (args:=[.ptr xb 0,.mp (mu.length+3),eNd p.body,aB true]) (args1:=[.ptr xb 0,eEnv (ownA o),eNd p.body,aB true]) (fun i=>decide (mu.length+3<=i)) ⟨.inl rfl,.inr (mG (by grind [vh]) ah (fun e he=>by
      grind [vh])),.inl rfl,.inl rfl,trivial⟩ g
     cases R with
     |error d =>
      refine fL g (by rintro r m ⟨e,_⟩;cases e) ?_;rintro r m ⟨e,t⟩;cases e;simp[go_sem];exact⟨rfl,(C.cut fun i hi=>zSo).trans t⟩
     |ok q =>
      obtain⟨⟨n',k'⟩,s'⟩:=q;refine fL g ?_ (by rintro r m ⟨e,_⟩;cases e);rintro r m ⟨e,aw,t⟩;cases e;have ai:=t.len;rw[vy]at ai;have ax:mu.length+1<m.length:=zOm;have bc:m[mu.length+1]?=some (.arr [aI 0,aS ⟨#[]⟩,aI 0,.lst true [],aI 0]):=by rw[t.same _ (by rw[vy];omega) zOm,av _ zOm];exact gr
      have ay:∀ c,(m.set (mu.length+1) c)[mu.length+1]?=some c:=fun c=>qv ax
      simp[go_sem,e8,bc,ay];refine⟨rfl,by grind,?_⟩;exact((C.cut fun i hi=>zSo).trans t).setN zOm _
    .have a7:k<n.sD.length:=by omega
     have w1:=zWk k;have aa:k<p.params.length:=zOm;rw[qY a7,qY aa]at hI;simp only[yP]at hI;simp[go_sem,e0,e1,e3,ar,af,ag,a7];have a0:∀ i,i<U.mu.length->(U.mu++[Cell.arr (cNd n.sD[k])])[i]?=U.mu[i]?:=fun i hi=>qB hi
     have az:n.sD[k]∈n.sD:=qq a7;have g:=ih env n.sD[k] body P (U.mu++[Cell.arr (cNd n.sD[k])]) xb zOm a6 he (hw.kid az) (aj.kid az) (by grind) (by rw[a0 _ zOm];exact b9);have be:∀{n' z s'},expI ts es f env n.sD[k] body P = .ok ((n',z),s')->Gos (qk ts es) P s' z:=fun e=>jl ts b0 f a6 he e
     generalize hE:expI ts es f env n.sD[k] body P=E at *
     cases E with
     |error d =>
      have hI:Q = .error d:=hI.symm;rw[hI]at J;have J:R = .error d:=J.symm;subst J;refine fL g (by rintro r m ⟨e,_⟩;cases e) ?_;rintro r m ⟨e,t⟩;cases e;simp[go_sem];exact⟨rfl,C.trans ((But.app xb U.mu _).trans t)⟩
     |ok q =>
      obtain⟨⟨n',k'⟩,s'⟩:=q;have hg:=be rfl;simp only at hI;refine fL g ?_ (by rintro r m ⟨e,_⟩;cases e);rintro r m ⟨e,aw,t⟩;cases e;have ai:=t.len;simp only[qZ,yh,List.length_nil]at ai;have I:∀ i,i<U.mu.length->i≠xb->m[i]?=U.mu[i]?:=fun i hi bg=>by rw[t.same i zSo bg,a0 i hi]
      have bh:∀ l,(m++l)[mu.length+2]?=some (.arr (cPd p)):=fun l=>by rw[zGa,I _ zOm zOm];exact gp
      have bi:∀ l,(m++l)[mu.length+3]?=some (.mp (encK aS eAP o)):=fun l=>by grind
      have hu:=fun l=>updAP (bi l) p.params[k].1 (m.length,k',n')
      simp[go_sem,ad,ae,bh,aa];refine tB _ (hu _) ?_;generalize hN:(m++[Cell.arr (cNd n')]).set (mu.length+3) (.mp (encK aS eAP (setK p.params[k].1 (m.length,k',n') o)))=N;have bu:N.length=m.length+1:=by rw[<-hN];simp
      have a4:∀ i,i<m.length->i≠mu.length+3->N[i]?=m[i]?:=fun i h1 h2=>by rw[<-hN,zGl,qB h1]
      have bj:N[mu.length+3]?=some (.mp (encK aS eAP (setK p.params[k].1 (m.length,k',n') o))):=by rw[<-hN,qv zSo]
      have bk:N[m.length]?=some (.arr (cNd n')):=by rw[<-hN,zGl,zY (qh _)];simp
      simp[go_sem,ag,w1];refine⟨a7,aK ?_⟩;have bl:k'<=4000:=zW2 hg.cz hg.c1;refine⟨setK p.params[k].1 (m.length,k',n') o,s',zS1 e0,zS1 e1,zS1 e3,zS1 e8,zS1 ad,zS1 ae,zS1 ar,zS1 af,zSi,?_,?_,?_,?_,?_,?_,?_,?_,uC ah,hg.ok a6,zW2 hg.cz hg.z0,?_⟩
      all_goals try simp only[qH]
      .refine ⟨zW1 C.len,fun i h1 h2=>?_⟩
       rw[a4 i zOm zOm,I i zOm h2];exact C.same i h1 h2
      .omega
      .rw [a4 _ zOm zOm];exact aw
      .rw [a4 _ zOm zOm,I _ zOm zOm];exact gr
      .rw [a4 _ zOm zOm,I _ zOm zOm];exact gp
      .exact bj
      .intro e he
       rcases (Qg ah).1 he with rfl|⟨he,_⟩
       .exact ⟨by show _<m.length;omega,by show m.length<_;omega,bk⟩
       .obtain ⟨a1,a2,a3⟩:=au e he
        exact⟨a1,zOm,by rw[a4 _ zOm zOm,I _ zOm zOm];exact a3⟩
      .unfold ownA
       rw[Xs (fun a:AP=>ivA a)];exact a9.set ⟨hg.z0,bl⟩
      .unfold ownA
       rw[Xs (fun a:AP=>ivA a)];exact hI
  grind
 .rintro r m ⟨rfl,e⟩
  by_cases T:s.sM+1<=4000
  .rw [if_pos T]at e;cases e
  .rw [if_neg T]at e J
   cases e;subst J;simp[go_sem];exact⟨rfl,(But.app xb mu _).trans (cC xb _ _)⟩
theorem mH(op):decide (op=15\/op=45\/op=46)=binB op:=by
 grind [binB]
theorem Qi{lo sz mu' av xs}(h:OwnF lo mu sz av xs)(l:lo<=mu'.length)(o:∀ i,lo<=i->i<mu.length->mu'[i]?=mu[i]?):OwnF lo mu' sz av xs:=by
 obtain⟨p,g,_⟩:=h;refine⟨?_,g,l⟩;rcases p with rfl|⟨b,rfl,j⟩
 .exact .inl rfl
 .exact .inr ⟨b,rfl,by rw[o b (g b _ _ _ rfl) (qg.1 j).1];exact j⟩
theorem V5(l:List Nd):qW 5 (l.map cNd):=fun r g=>by
 obtain⟨n,_,rfl⟩:=qn.1 g
 grind [ZN,YJ]
theorem V6{lo s xs k K}(g:OwnF lo mu 5 s (xs.map cNd))(l:xs.length<=100000)(o:∀ av mu',OwnF lo mu' 5 av ((xs++[k]).map cNd)->(∀ i,i<lo->mu'[i]?=mu[i]?)->K av mu') :
  qu qb mu #[32,32] s (.lst true [cNd k]) K:=by
 refine qu.ownF (lo:=lo) (e:=34) (sz:=5) (bt:=64) (zv := .agg [aI 0,aS ⟨#[]⟩,aI 0,.lst true [],aI 0]) (xs:=xs.map cNd) (ys:=[cNd k]) zSi zSi zSi rfl rfl zOm zOm g (by simp[qE]) (V5 xs) (V5 [k]) zSo ?_
 grind
theorem qkC(ts)(h:okTS ts)(es)(hF:qk ts es<=200000)(au:Free ts es)(tb f)(ih:IHE ts es tb f)(env n body)(s:ISt)(mu xb)
  (hc:4000<s.sM+(f+1:Nat)) (hs:StOk (qk ts es) s) (he:ze env) (hw:WfN n) (bl:yq ts n) (hx:mu[xb]?=some (.arr (cIn ts tb s))) (ht:mu[tb]?=some (.mp (eSet es))) (h1:¬n.op=1) (h47:¬n.op=47) :
  qr qb 116 [.ptr xb 0,eEnv env,eNd n,aB body] mu (endE ts tb mu xb (expI ts es (f+1) env n body s)):=by
 have cu:=hs.c0;have cv:=hs.c1;have cw:xb<mu.length:=(qg.1 hx).1;have cf:tb<mu.length:=(qg.1 ht).1;have bq:tb≠xb:=fun e=>by grind
 generalize hR:expI ts es (f+1) env n body s=R;simp only[expI,h1,h47,if_false]at hR;refine fY ?_;refine qSW call116 func116 rfl { mt:=[6] } ?_;simp[go_sem];refine fL (payU ts tb s 1 ⟨zOm,zOm⟩ ⟨zOm,zOm⟩ (by grind)) ?_ ?_
 .rintro r m ⟨rfl,e⟩
  by_cases a6:s.sM+1<=4000
  .rw [if_pos a6]at e hR
   cases e;have hM:=M0.of (s':=payS 1 s) (n:=n) hx ht;generalize cx:(mu++[Cell.arr (cNd n),.arr [aI 0,aS ⟨#[]⟩,aI 0,.lst true [],aI 0]]).set xb (.arr (cIn ts tb (payS 1 s)))=M at *
   have cy:=hM.len;have br:=hw.len;have aw:StOk (qk ts es) (payS 1 s):=(wG hs zOm a6).ok hs;have bs:∀ c,(M.set mu.length c)[mu.length]?=some c:=fun c=>qv zOm
   have cg:=yw n;simp[go_sem,hM.n,h1,h47,cg];refine fZ n.sD.length (fun k U=>∃(C:List Nd) (j:IEnv) (t:tV) (s2:ISt) (av:AV) (z:Int),U.tm 0 = .ptr xb 0/\U.tm 1=eEnv j/\U.tm 3=aB body/\U.tm 6 = .ptr mu.length 0/\U.tm 8 = .ptr (mu.length+1) 0/\U.tm 17=aI z/\U.tm 87=lNd n.sD/\U.tm 88=aI n.sD.length/\U.tm 89=aI k /\
    But xb mu U.mu/\U.mu[xb]?=some (.arr (cIn ts tb s2))/\U.mu[mu.length+1]?=some (.arr [aI 0,aS ⟨#[]⟩,aI 0,.lst true [],aI 0])/\U.mu[mu.length]?=some (.arr [aI n.op,aS t,aI n.n,av,aI n.pos])/\OwnF (mu.length+2) U.mu 5 av (C.map cNd)/\ze j/\C.length=k /\
    0<=s2.last/\0<=s2.sM/\s2.sM<=4000/\dueN (qk ts es) (binB n.op) k<=pot (qk ts es) s2/\s.sM+1<=s2.sM/\1<=z/\z<=s2.sM-s.sM /\
    vj (yp (fun env k s=>expI ts es f env k body s) (fun env nm s=>renI ts es env nm body s) (binB n.op) k j t (n.sD.drop k) s2) (fun r s' => .ok ((.mk n.op r.1 n.n (C++r.2.1) n.pos,z+r.2.2),s'))=R) ?_ ?_
   .refine ⟨[],env,n.name,payS 1 s,.lst true [],1,zSi,zSi,zSi,zSi,zSi,zSi,zSi,zSi,zSi,?_,?_,?_,?_,?_,he,rfl,aw.l0,aw.c0,aw.c1,?_,by show _<=s.sM+1;omega,zOm,by show _<=s.sM+1-_;omega,zUs hR⟩
    all_goals try simp only[qH]
    .exact hM.but.setN (qh _) _
    .grind
    .grind
    .exact bs _
    .grind [OwnF.nil]
    .rw [Zn];have:=hs.p;grind [dueN]
   .rintro k U hk ⟨C,j,t,s2,av,z,e0,e1,e3,e6,e8,bb,an,af,ag,a7,gx,gr,gn,go,bc,da,ao,be,bg,bi,ah,db,bm,hI⟩
    have gt:U.mu[tb]?=some (.mp (eSet es)):=by rw[a7.same tb cf bq];exact ht
    have ct:mu.length+2<=U.mu.length:=go.2.2;by_cases br:k=n.sD.length
    .subst br
     have bt:=go.cells;have bj:=go.one;have bn:∀ c,(U.mu.set (mu.length+1) c)[mu.length+1]?=some c:=fun c=>qv zOm
     rw[zF]at hI;have hI:R = .ok ((.mk n.op t n.n C n.pos,z),s2):=by grind [yp,vj]
     simp[go_sem,e6,e8,bb,af,ag,gn,gr,bj,bn];rw[hI];have bo:(U.mu.set (mu.length+1) (.arr [aI n.op,aS t,aI n.n,av,aI n.pos])).length=U.mu.length:=zSp;refine .inr ⟨fun i=>decide (mu.length+2<=i),.tup [eNd (.mk n.op t n.n C n.pos),aI z],.rd _ _ (.tup _ _ rfl fun k x y hx hy=>?_),rfl,?_,?_⟩
     .match k with
      | 0 =>
       simp at hx hy;subst hx;subst hy;have ch:eNd (.mk n.op t n.n C n.pos) = .agg [aI n.op,aS t,aI n.n,.lst false (C.map cNd),aI n.pos]:=by
        show AV.agg (cNd _)=_;rw[yw];rfl
       rw[ch];refine .agg _ _ rfl fun k x y hx hy=>?_
       match k with
       | 0=>simp at hx hy;subst hx;subst hy;exact .zsc _
       | 1=>simp at hx hy;subst hx;subst hy;exact .zsc _
       | 2=>simp at hx hy;subst hx;subst hy;exact .zsc _
       | 3 =>
        simp at hx hy;subst hx;subst hy;exact VS (go.set zOm) (V5 C).ok fun r hr c hc=>by
         obtain⟨x,_,rfl⟩:=qn.1 hr;exact yK x c hc
       | 4=>simp at hx hy;subst hx;subst hy;exact .zsc _
       |k+5=>simp at hx
      | 1=>simp at hx hy;subst hx;subst hy;exact .zsc _
      |k+2=>simp at hx
     .rw [vh zSo,zGl];exact gx
     .exact (a7.setN zOm _).cut fun i hi=>zSo
    .have a3:k<n.sD.length:=by omega
     have w1:=zWk k;have w2:qj.wrap 2=2:=rfl;rw[qY a3]at hI;simp only[yp]at hI;have g:∀(l:List Cell)(i:Nat),i<U.mu.length->(U.mu++l)[i]?=U.mu[i]?:=fun l i hi=>qB hi
     have aq:∀ l,(U.mu++l)[mu.length]?=some (.arr [aI n.op,aS t,aI n.n,av,aI n.pos]):=fun l=>by rw[g l _ zOm];exact gn
     have bt:=go.cells;have bj:=go.one;by_cases hb:binB n.op=true/\k=1
     .obtain ⟨ax,rfl⟩:=hb
      rw[if_pos ⟨ax,rfl⟩]at hI;have ay:(1:Int)<n.sD.length:=zOm;simp[go_sem,ay,e6,an,af,ag,a3,aq];have az:=YX.nr n.op;rw[mH,ax]at az;refine tR az (.zs .nil) ?_;have cj:=StOk.last (F:=qk ts es) ⟨ao,be,bg,zW1 (Zo (qk ts es) (binB n.op) 1)⟩;have bu:=qj1 ts h s2 es ⟨ao,zOm⟩ tb (au _ ao) j bc.nd t body (mu:=U.mu++[Cell.arr (cNd n.sD[1])]) (xb:=xb) (by rw[g _ _ zOm];exact gx) (by rw[g _ _ zOm];exact gt);have ai:=Jq (env:=j) (nm:=t) (body:=body) au ao;have bv:=Jp (ts:=ts) (es:=es) (nm:=t) (body:=body) (s:=s2) bc;generalize renI ts es j t body s2=r at *
      obtain⟨⟨a4,ar⟩,s3⟩:=r;simp only at ai bv hI;simp[go_sem,e0,e1,e3,e6,aq];refine fL bu ?_ (by rintro r m ⟨e,_⟩;cases e);rintro r m1 ⟨e,a5,ck⟩;cases e;have bw:=a5.len;simp only[qZ,yh,List.length_nil]at bw;have cl:m1[mu.length]?=some (.arr [aI n.op,aS t,aI n.n,av,aI n.pos]):=by rw[a5.same _ zSo zOm];exact aq _
      have cm:m1[mu.length+1]?=some (.arr [aI 0,aS ⟨#[]⟩,aI 0,.lst true [],aI 0]):=by rw[a5.same _ zSo zOm,g _ _ zOm];exact gr
      have cn:m1[U.mu.length]?=some (.arr (cNd n.sD[1])):=by rw[a5.same _ zSp zOm,zY (qh _)];simp
      have cp:m1[tb]?=some (.mp (eSet es)):=by rw[a5.same _ zSo bq,g _ _ zOm];exact gt
      have cq:OwnF (mu.length+2) m1 5 av (C.map cNd):=Qi go zOm fun i q1 q2=>by rw[a5.same i zSo zOm,g _ _ q2]
      have ak:∀ c i,i≠mu.length->(m1.set mu.length c)[i]?=m1[i]?:=fun c i hi=>zA (fun e=>hi e.symm)
      have cr:∀ c,(m1.set mu.length c)[U.mu.length]?=some (.arr (cNd n.sD[1])):=fun c=>by rw[ak _ _ zOm];exact cn
      simp[go_sem,e0,e3,e6,cl,cr];generalize aj:m1.set mu.length (.arr [aI n.op,aS ar,aI n.n,av,aI n.pos])=M2;have bk:U.mu.length+1<=M2.length:=by rw[<-aj];simp;omega
      have b0:M2[xb]?=some (.arr (cIn ts tb s3)):=by rw[<-aj,ak _ _ zOm];exact ck
      have b1:M2[tb]?=some (.mp (eSet es)):=by rw[<-aj,ak _ _ zOm];exact cp
      have b2:M2[mu.length]?=some (.arr [aI n.op,aS ar,aI n.n,av,aI n.pos]):=by rw[<-aj];exact qv zOm
      have b3:M2[mu.length+1]?=some (.arr [aI 0,aS ⟨#[]⟩,aI 0,.lst true [],aI 0]):=by rw[<-aj,ak _ _ zOm];exact cm
      have a2:OwnF (mu.length+2) M2 5 av (C.map cNd):=by rw[<-aj];exact cq.set zOm
      have a8:But xb mu M2:=by
       rw[<-aj];exact(a7.trans ((But.app xb U.mu _).trans a5)).setN (qh _) _
      have dc:dueN (qk ts es) (binB n.op) 1=(qk ts es:Nat):=if_pos ⟨ax,zOm⟩;have dd:dueN (qk ts es) (binB n.op) (1+1)=0:=zIn;have de:pot (qk ts es) s2-(qk ts es:Nat)<=pot (qk ts es) s3:=by unfold pot;rw[ai.2.2];omega
      have a1:StOk (qk ts es) s3:=⟨ai.1,by rw[ai.2.2];exact be,by rw[ai.2.2];exact bg,zOm⟩;have b4:dueN (qk ts es) (binB n.op) (1+1)<=pot (qk ts es) s3:=zOm;have al:s.sM+1<=s3.sM:=by rw[ai.2.2];exact ah
      have ca:z<=s3.sM-s.sM:=by rw[ai.2.2];exact bm
      have J:ze a4:=bv;have bh:True:=trivial;have a9:n.sD[1]∈n.sD:=qq a3;have P:=ih a4 n.sD[1] body s3 M2 xb zOm a1 J (hw.kid a9) (bl.kid a9) b0 b1;have b5:∀{n' z s'},expI ts es f a4 n.sD[1] body s3 = .ok ((n',z),s')->Gos (qk ts es) s3 s' z:=fun e=>jl ts au f a1 J e
      generalize hE:expI ts es f a4 n.sD[1] body s3=E at *
      cases E with
      |error d =>
       have hI:R = .error d:=hI.symm;subst hI;refine fL P (by rintro r m ⟨e,_⟩;cases e) ?_;rintro r m ⟨e,o⟩;cases e;simp[go_sem];exact⟨rfl,a8.trans o⟩
      |ok q =>
       obtain⟨⟨n',k'⟩,s'⟩:=q;have I:=b5 rfl;simp only at hI;refine fL P ?_ (by rintro r m ⟨e,_⟩;cases e);rintro r m ⟨e,b6,o⟩;cases e;have bo:=o.len;have aa:∀ l,(m++l)[mu.length]?=some (.arr [aI n.op,aS ar,aI n.n,av,aI n.pos]):=fun l=>by rw[zGa,o.same _ zOm zOm];exact b2
       have a6:=a2.cells;have cb:=a2.one;have b7:qj.wrap (z+k')=z+k':=zS (zW1 I.z0) (zW2 I.cz I.c1);have b8:OwnF (mu.length+2) (m++[Cell.arr (cNd n')]) 5 av (C.map cNd):=Qi a2 zSo fun i h1 h2=>by rw[zGa,o.same i zOm zOm]
       simp[go_sem,e6,aa];refine V6 b8 zOm fun b9 m' T a0=>?_
       have cc:=T.2.2;have ab:m'[mu.length]?=some (.arr [aI n.op,aS ar,aI n.n,av,aI n.pos]):=by rw[a0 _ zOm];exact aa _
       have ad:=T.cells;have ae:=T.one;simp[go_sem,e6,bb,ag,ab,ad,ae,b7,w2];refine⟨a3,aK ?_⟩;refine⟨C++[n'],a4,ar,s',b9,z+k',zS1 e0,zSi,zS1 e3,zS1 e6,zS1 e8,zSi,zS1 an,zS1 af,zSi,?_,?_,?_,?_,?_,J,zSo,I.l0,zW2 I.cz I.z0,I.c1,Int.le_trans b4 I.p,zW2 I.cz I.z0,zW1 I.z0,zW1 I.cz,?_⟩
       all_goals try simp only[qH]
       .refine ⟨zSo,fun i h1 h2=>?_⟩
        rw[zGl,a0 i zOm,zGa,o.same i zOm h2];exact a8.same i h1 h2
       .rw [zGl,a0 _ zOm,zGa];exact b6
       .rw [zGl,a0 _ zOm,zGa,o.same _ zOm zOm];exact b3
       .exact qv zOm
       .exact T.set zOm
       .rw [<-hI]
        generalize yp (fun env k s=>expI ts es f env k body s) (fun env nm s=>renI ts es env nm body s) (binB n.op) (1+1) a4 ar (n.sD.drop (1+1)) s'=W;cases W with
        |error e=>rfl
        |ok q=>simp[vj,Int.add_assoc]
     .rw [if_neg hb]at hI
      by_cases cs:k=1
      .subst cs
       have a5:binB n.op=false:=zUs hb;have ay:(1:Int)<n.sD.length:=zOm;simp[go_sem,ay,e6,an,af,ag,a3,aq];have az:=YX.nr n.op;rw[mH,a5]at az;refine tR az (.zs .nil) ?_;simp[go_sem,e0,e1,e3];have bk:U.mu.length+1<=(U.mu++[Cell.arr (cNd n.sD[1])]).length:=zSp;have b0:(U.mu++[Cell.arr (cNd n.sD[1])])[xb]?=some (.arr (cIn ts tb s2)):=by rw[g _ _ zOm];exact gx
       have b1:(U.mu++[Cell.arr (cNd n.sD[1])])[tb]?=some (.mp (eSet es)):=by rw[g _ _ zOm];exact gt
       have b2:=aq [Cell.arr (cNd n.sD[1])];have b3:(U.mu++[Cell.arr (cNd n.sD[1])])[mu.length+1]?=some (.arr [aI 0,aS ⟨#[]⟩,aI 0,.lst true [],aI 0]):=by rw[g _ _ zOm];exact gr
       have a2:OwnF (mu.length+2) (U.mu++[Cell.arr (cNd n.sD[1])]) 5 av (C.map cNd):=Qi go zOm fun i q1 q2=>g _ _ q2
       have a8:But xb mu (U.mu++[Cell.arr (cNd n.sD[1])]):=a7.trans (But.app xb U.mu _);have a1:StOk (qk ts es) s2:=⟨ao,be,bg,zW1 (Zo (qk ts es) (binB n.op) 1)⟩;have b4:dueN (qk ts es) (binB n.op) (1+1)<=pot (qk ts es) s2:=by rw[<-V4 hb];exact bi
       have al:=ah;have ca:=bm;have J:=bc;have bh:=e1;generalize U.mu++[Cell.arr (cNd n.sD[1])]=M2 at *
       have a9:n.sD[1]∈n.sD:=qq a3;have P:=ih j n.sD[1] body s2 M2 xb zOm a1 J (hw.kid a9) (bl.kid a9) b0 b1;have b5:∀{n' z s'},expI ts es f j n.sD[1] body s2 = .ok ((n',z),s')->Gos (qk ts es) s2 s' z:=fun e=>jl ts au f a1 J e
       generalize hE:expI ts es f j n.sD[1] body s2=E at *
       cases E with
       |error d =>
        have hI:R = .error d:=hI.symm;subst hI;refine fL P (by rintro r m ⟨e,_⟩;cases e) ?_;rintro r m ⟨e,o⟩;cases e;simp[go_sem];exact⟨rfl,a8.trans o⟩
       |ok q =>
        obtain⟨⟨n',k'⟩,s'⟩:=q;have I:=b5 rfl;simp only at hI;refine fL P ?_ (by rintro r m ⟨e,_⟩;cases e);rintro r m ⟨e,b6,o⟩;cases e;have bo:=o.len;have aa:∀ l,(m++l)[mu.length]?=some (.arr [aI n.op,aS t,aI n.n,av,aI n.pos]):=fun l=>by rw[zGa,o.same _ zOm zOm];exact b2
        have a6:=a2.cells;have cb:=a2.one;have b7:qj.wrap (z+k')=z+k':=zS (zW1 I.z0) (zW2 I.cz I.c1);have b8:OwnF (mu.length+2) (m++[Cell.arr (cNd n')]) 5 av (C.map cNd):=Qi a2 zSo fun i h1 h2=>by rw[zGa,o.same i zOm zOm]
        simp[go_sem,e6,aa];refine V6 b8 zOm fun b9 m' T a0=>?_
        have cc:=T.2.2;have ab:m'[mu.length]?=some (.arr [aI n.op,aS t,aI n.n,av,aI n.pos]):=by rw[a0 _ zOm];exact aa _
        have ad:=T.cells;have ae:=T.one;simp[go_sem,e6,bb,ag,ab,ad,ae,b7,w2];refine⟨a3,aK ?_⟩;refine⟨C++[n'],j,t,s',b9,z+k',zS1 e0,zS1 bh,zS1 e3,zS1 e6,zS1 e8,zSi,zS1 an,zS1 af,zSi,?_,?_,?_,?_,?_,J,zSo,I.l0,zW2 I.cz I.z0,I.c1,Int.le_trans b4 I.p,zW2 I.cz I.z0,zW1 I.z0,zW1 I.cz,?_⟩
        all_goals try simp only[qH]
        .refine ⟨zSo,fun i h1 h2=>?_⟩
         rw[zGl,a0 i zOm,zGa,o.same i zOm h2];exact a8.same i h1 h2
        .rw [zGl,a0 _ zOm,zGa];exact b6
        .rw [zGl,a0 _ zOm,zGa,o.same _ zOm zOm];exact b3
        .exact qv zOm
        .exact T.set zOm
        .rw [<-hI]
         generalize yp (fun env k s=>expI ts es f env k body s) (fun env nm s=>renI ts es env nm body s) (binB n.op) (1+1) j t (n.sD.drop (1+1)) s'=W;cases W with
         |error e=>rfl
         |ok q=>simp[vj,Int.add_assoc]
      .have cd:¬(k:Int)=1:=by omega
       simp[go_sem,e0,e1,e3,an,af,ag,a3,cd];have bk:U.mu.length+1<=(U.mu++[Cell.arr (cNd n.sD[k])]).length:=zSp;have b0:(U.mu++[Cell.arr (cNd n.sD[k])])[xb]?=some (.arr (cIn ts tb s2)):=by rw[g _ _ zOm];exact gx
       have b1:(U.mu++[Cell.arr (cNd n.sD[k])])[tb]?=some (.mp (eSet es)):=by rw[g _ _ zOm];exact gt
       have b2:=aq [Cell.arr (cNd n.sD[k])];have b3:(U.mu++[Cell.arr (cNd n.sD[k])])[mu.length+1]?=some (.arr [aI 0,aS ⟨#[]⟩,aI 0,.lst true [],aI 0]):=by rw[g _ _ zOm];exact gr
       have a2:OwnF (mu.length+2) (U.mu++[Cell.arr (cNd n.sD[k])]) 5 av (C.map cNd):=Qi go zOm fun i q1 q2=>g _ _ q2
       have a8:But xb mu (U.mu++[Cell.arr (cNd n.sD[k])]):=a7.trans (But.app xb U.mu _);have a1:StOk (qk ts es) s2:=⟨ao,be,bg,zW1 (Zo (qk ts es) (binB n.op) k)⟩;have b4:dueN (qk ts es) (binB n.op) (k+1)<=pot (qk ts es) s2:=by rw[<-V4 hb];exact bi
       have al:=ah;have ca:=bm;have J:=bc;have bh:=e1;generalize U.mu++[Cell.arr (cNd n.sD[k])]=M2 at *
       have a9:n.sD[k]∈n.sD:=qq a3;have P:=ih j n.sD[k] body s2 M2 xb zOm a1 J (hw.kid a9) (bl.kid a9) b0 b1;have b5:∀{n' z s'},expI ts es f j n.sD[k] body s2 = .ok ((n',z),s')->Gos (qk ts es) s2 s' z:=fun e=>jl ts au f a1 J e
       generalize hE:expI ts es f j n.sD[k] body s2=E at *
       cases E with
       |error d =>
        have hI:R = .error d:=hI.symm;subst hI;refine fL P (by rintro r m ⟨e,_⟩;cases e) ?_;rintro r m ⟨e,o⟩;cases e;simp[go_sem];exact⟨rfl,a8.trans o⟩
       |ok q =>
        obtain⟨⟨n',k'⟩,s'⟩:=q;have I:=b5 rfl;simp only at hI;refine fL P ?_ (by rintro r m ⟨e,_⟩;cases e);rintro r m ⟨e,b6,o⟩;cases e;have bo:=o.len;have aa:∀ l,(m++l)[mu.length]?=some (.arr [aI n.op,aS t,aI n.n,av,aI n.pos]):=fun l=>by rw[zGa,o.same _ zOm zOm];exact b2
        have a6:=a2.cells;have cb:=a2.one;have b7:qj.wrap (z+k')=z+k':=zS (zW1 I.z0) (zW2 I.cz I.c1);have b8:OwnF (mu.length+2) (m++[Cell.arr (cNd n')]) 5 av (C.map cNd):=Qi a2 zSo fun i h1 h2=>by rw[zGa,o.same i zOm zOm]
        simp[go_sem,e6,aa];refine V6 b8 zOm fun b9 m' T a0=>?_
        have cc:=T.2.2;have ab:m'[mu.length]?=some (.arr [aI n.op,aS t,aI n.n,av,aI n.pos]):=by rw[a0 _ zOm];exact aa _
        have ad:=T.cells;have ae:=T.one;simp[go_sem,e6,bb,ag,ab,ad,ae,b7,w1];refine⟨a3,aK ?_⟩;refine⟨C++[n'],j,t,s',b9,z+k',zS1 e0,zS1 bh,zS1 e3,zS1 e6,zS1 e8,zSi,zS1 an,zS1 af,zSi,?_,?_,?_,?_,?_,J,zSo,I.l0,zW2 I.cz I.z0,I.c1,Int.le_trans b4 I.p,zW2 I.cz I.z0,zW1 I.z0,zW1 I.cz,?_⟩
        all_goals try simp only[qH]
        .refine ⟨zSo,fun i h1 h2=>?_⟩
         rw[zGl,a0 i zOm,zGa,o.same i zOm h2];exact a8.same i h1 h2
        .rw [zGl,a0 _ zOm,zGa];exact b6
        .rw [zGl,a0 _ zOm,zGa,o.same _ zOm zOm];exact b3
        .exact qv zOm
        .exact T.set zOm
        .rw [<-hI]
         generalize yp (fun env k s=>expI ts es f env k body s) (fun env nm s=>renI ts es env nm body s) (binB n.op) (k+1) j t (n.sD.drop (k+1)) s'=W;cases W with
         |error e=>rfl
         |ok q=>simp[vj,Int.add_assoc]
  grind
 .rintro r m ⟨rfl,e⟩
  by_cases a6:s.sM+1<=4000
  .rw [if_pos a6]at e;cases e
  .rw [if_neg a6]at e hR
   cases e;subst hR;simp[go_sem];exact⟨rfl,(But.app xb mu _).trans (cC xb _ _)⟩
theorem Xt(ts)(h:okTS ts)(I:∀ p,p∈ts.sT->WfN p.body/\yq ts p.body)(es)(l:qk ts es<=200000)(g:Free ts es)(tb):∀ f,IHE ts es tb f
 | 0=>fun env n body s mu xb J j o P i t C=>zW1 j.c1
 |f+1=>fun env n body s mu xb J j o P i t C=>by
  by_cases R:n.op=1
  .have:=qj9 ts es tb env n body s mu xb j o t C R
   simp_all[expI,vg,payS,if_true]
  .by_cases h47:n.op=47
   .exact qkB ts h I es l g tb f (Xt ts h I es l g tb f) env n body s mu xb J j o P i t C h47
   .exact qkC ts h es l g tb f (Xt ts h I es l g tb f) env n body s mu xb J j o P i t C R h47
end
end YD
namespace YE
open P1 P2 Y1 Y9 YX YZ YB YC YD
mutual
def cntT:Nd->Int
 | .mk _ _ _ ks _=>1+yy ks
def yy:List Nd->Int
 | []=>0
 |k :: ks=>cntT k+yy ks
end
theorem Jr(n):cntT n=1+yy n.sD:=by
 obtain⟨op,nm,i,ks,p⟩:=n;simp[cntT,Nd.sD]
mutual
theorem V7:∀ n:Nd,1<=cntT n
 | .mk _ _ _ ks _=>by simp only[cntT];have:=V8 ks;omega
theorem V8:∀ ks:List Nd,0<=yy ks
 | []=>by simp[yy]
 |k :: ks=>by simp only[yy];have:=V7 k;have:=V8 ks;omega
end
mutual
theorem Xu:∀ n:Nd,depN n<=cntT n
 | .mk _ _ _ ks _=>by simp only[cntT,depN];have:=mI ks;omega
theorem mI:∀ ks:List Nd,zW ks<=yy ks
 | []=>by simp[zW,yy]
 |k :: ks=>by
  simp only[yy,zW];have:=Xu k;have:=mI ks;have:=V7 k;have:=V8 ks;omega
end
section
variable {J:Type}{R:IEnv->tV->ISt->(IEnv×tV)×ISt}{es:List (tV×Bool)}{E:Nd->ISt->XR (Nd×Int)}
def ud(env:IEnv):Prop:=∀ e,e∈env->∀ a,e.2.arg=some a->e.2.size=cntT a/\Small a
theorem Xv{g}[DecidableEq g]{k v}:∀{es:List (g×J)},getK k es=some v->(k,v)∈es
 | [],h=>by simp[getK]at h
 |e :: es,h=>by
  unfold getK at h;split at h
  .rename_i i;cases h;subst i;exact qX ..
  .exact qP _ (Xv h)
theorem V9{g}[DecidableEq g]{k v}:∀{es}{x:g×J},x∈setK k v es->x=(k,v)\/x∈es
 | [],x,h=>by grind [setK]
 |e :: es,x,h=>by
  unfold setK at h;split at h
  .rcases qs.1 h with h|h
   .exact .inl h
   .exact .inr (qP _ h)
  .rcases qs.1 h with h|h
   .exact .inr (by rw[h];exact qX ..)
   .exact (V9 h).imp id (qP _)
theorem qkD{ts env nm body s}(h:ud env):ud (renI ts es env nm body s).1.1:=by
 have i:ud (delK nm env):=fun e g=>h e (Wy.subset g)
 unfold renI;split
 .intro e g a j
  rcases V9 g with rfl|g
  .cases j
  .exact i e g a j
 .exact i
theorem mJ:∀{ks ps own g s s'},(∀ k n' z s s',k∈ks->E k s = .ok ((n',z),s')->z=cntT n'/\Small n')->ud own->yP E ps ks own s = .ok (g,s')->ud g
 | [],ps,own,g,s,s',_,i,e=>by
  have e:Except.ok (own,s)=(Except.ok (g,s'):XR IEnv):=by cases ps<;>exact e
  cases e;exact i
 |k :: ks,[],own,g,s,s',_,i,e=>by cases e;exact i
 |k :: ks,p :: ps,own,g,s,s',l,i,e=>by
  simp only[yP]at e;split at e
  .cases e
  .rename_i C m s1 I
   refine mJ (fun k n' z s s' o=>l k n' z s s' (qP _ o)) (fun e j a t=>?_) e;rcases V9 j with rfl|j
   .grind
   .exact i e j a t
theorem mK{E bin}(C:∀ env nm s,ud env->ud (R env nm s).1.1) :
  ∀{ks i env nm l s s' j m},(∀ env k n' z s s',k∈ks->ud env->E env k s = .ok ((n',z),s')->z=cntT n'/\Small n')->ud env ->
  yp E R bin i env nm ks s = .ok ((l,j,m),s')->m=yy j/\j.length=ks.length/\∀ k,k∈j->Small k
 | [],i,env,nm,l,s,s',j,m,_,_,e=>by
  cases e;exact⟨rfl,rfl,fun k p=>absurd p qG⟩
 |k :: ks,i,env,nm,l,s,s',j,m,I,J,e=>by
  simp only[yp]at e;obtain⟨r,P⟩:∃ r,r=if bin=true/\i=1 then R env nm s else ((env,nm),s):=⟨_,rfl⟩
  rw[<-P]at e;have o:ud r.1.1:=by
   rw[P];split
   .exact C _ _ _ J
   .exact J
  split at e
  .cases e
  .rename_i T U s1 h1
   have g:=I r.1.1 k T U r.2 s1 (qX ..) o h1;split at e
   .cases e
   .rename_i a0 a1 m2 s2 h2
    obtain⟨q1,q2,q3⟩:=mK C (fun env k n' z s s' p=>I env k n' z s s' (qP _ p)) o h2;cases e;refine⟨by simp only[yy];rw[g.1,q1],by simp[q2],fun x t=>?_⟩;rcases qs.1 t with rfl|t
    .exact g.2
    .exact q3 x t
theorem Z6(ts)(o:∀ p,p∈ts.sT->WfN p.body)(es):∀(f){env n n' body s s' z},ud env->WfN n->expI ts es f env n body s = .ok ((n',z),s')->z=cntT n'/\Small n'
 | 0,_,_,_,_,_,_,_,_,_,e=>by cases e
 |f+1,env,n,n',body,s,s',z,j,l,e=>by
  simp only[expI]at e;split at e
  .split at e
   .rename_i P
    have g:n.sD=[]:=by
     have hs:=l.shape;simp_all[shp,if_pos,qm,List.map_eq_nil_iff]
    unfold vg at e;split at e
    .cases e
     exact⟨by rw[Jr,g];rfl,l.small⟩
    .rename_i v t
     split at e
     .cases e
      refine⟨by rw[Jr];show 1=1+yy n.sD;rw[g];rfl,.mk _ (by show n.sD.length<=1000;rw[g];simp) fun k i=>?_⟩;have i:k∈n.sD:=i
      grind
     .rename_i a R
      split at e
      .cases e
       exact j _ (Xv t) _ R
      .cases e
   .split at e
    .split at e
     .cases e
     .rename_i p T
      obtain⟨own,s1,C,e⟩:=Z5 e;have U:=mJ (fun k n' z s s' i I=>Z6 ts o es f j (l.kid i) I) (fun e j=>absurd j qG) C;exact Z6 ts o es f U (o p (List.mem_of_find?_eq_some T)) e
    .obtain ⟨⟨a0,J,m⟩,s1,C,e⟩:=Z5 e
     cases e;obtain⟨q1,q2,q3⟩:=mK (fun env nm s h=>qkD h) (fun env k n' z s s' i t I=>Z6 ts o es f t (l.kid i) I) j C;refine⟨by rw[Jr];show 1+m=_;rw[q1];rfl,.mk _ ?_ q3⟩;show J.length<=1000;have:=l.len;omega
  .cases e
theorem mL:∀{ks ps own s d},(∀ k s d,E k s = .error d->d=(2,0))->yP E ps ks own s = .error d->d=(2,0)
 | [],ps,own,s,d,_,e=>by
  have e:Except.ok (own,s)=(Except.error d:XR IEnv):=by cases ps<;>exact e
  cases e
 |k :: ks,[],own,s,d,_,e=>by cases e
 |k :: ks,p :: ps,own,s,d,g,e=>by
  simp only[yP]at e;split at e
  .rename_i j i
   cases e;exact g _ _ _ i
  .exact mL g e
theorem mM{E:IEnv->Nd->ISt->XR (Nd×Int)}{bin}:∀{ks i env nm s d},(∀ env k s d,E env k s = .error d->d=(2,0))->yp E R bin i env nm ks s = .error d->d=(2,0)
 | [],i,env,nm,s,d,_,e=>by cases e
 |k :: ks,i,env,nm,s,d,g,e=>by
  simp only[yp]at e;split at e
  .rename_i j l
   cases e;exact g _ _ _ _ l
  .split at e
   .rename_i j o
    cases e;exact mM g o
   .cases e
theorem mN{i q}{g:J->ISt->XR i}{d}(h:vj q g = .error d):q = .error d\/∃ a s,q = .ok (a,s)/\g a s = .error d:=by
 unfold vj at h;split at h
 .grind
 .exact .inr ⟨_,_,rfl,h⟩
theorem Js(ts es):∀(f){env n body s d},expI ts es f env n body s = .error d->d=(2,0)
 | 0,_,_,_,_,_,e=>by cases e;rfl
 |f+1,env,n,body,s,d,e=>by
  simp only[expI]at e;split at e
  .split at e
   .unfold vg at e
    split at e
    .cases e
    .split at e
     .cases e
     .split at e
      .cases e
      .cases e;rfl
   .split at e
    .split at e
     .cases e;rfl
     .rcases mN e with e|⟨own,g,i,e⟩
      .exact mL (fun k s d h=>Js ts es f h) e
      .exact Js ts es f e
    .rcases mN e with e|⟨own,g,i,e⟩
     .exact mM (fun env k s d h=>Js ts es f h) e
     .cases e
  .cases e;rfl
def outI(ts:TS)(es:List (tV×Bool))(n:Nd):Except Dg Nd:=
 match expI ts es 4001 [] n false ⟨0,0⟩ with
 | .error d => .error d
 | .ok ((g,z),_)=>if z<=400/\depN g<=24 then .ok g else .error (2,n.pos)
theorem mO{ts n d}(h:outI ts es n = .error d):d.1=2:=by
 grind [outI,Js]
theorem qkE(ts)(h:okTS ts)(hb:∀ p,p∈ts.sT->WfN p.body/\yq ts p.body)(es)(hF:qk ts es<=200000)(R:Free ts es)(n)(hw:WfN n)(a4:yq ts n){mu xp ob xb tb}
  (h1:mu[xp]?=some (.arr [.ptr xb 0])) (T:mu[xb]?=some (.arr (cIn ts tb ⟨0,0⟩))) (ht:mu[tb]?=some (.mp (eSet es))) (U:mu[ob]?=some (.arr [aI 0,aS ⟨#[]⟩,aI 0,.lst true [],aI 0])) :
  qr qb 115 [.ptr xp 0,.ip (cNd n),.ptr ob 0] mu fun e m=>match outI ts es n with
   | .error d=>e = .pan (y9 d.1 d.2)/\mu.length<=m.length/\∀ i,i<mu.length->i≠xb->i≠ob->m[i]?=mu[i]?
   | .ok n'=>e = .ret (.tup [])/\m[ob]?=some (.arr (cNd n'))/\mu.length<=m.length/\∀ i,i<mu.length->i≠xb->i≠ob->m[i]?=mu[i]?:=by
 refine qSW call115 func115 rfl {} ?_;have ab:xp<mu.length:=(qg.1 h1).1;have ad:xb<mu.length:=(qg.1 T).1;have ae:tb<mu.length:=(qg.1 ht).1;have a5:ob<mu.length:=(qg.1 U).1;have a0:ob≠xb:=fun e=>by grind
 simp[go_sem,h1];have j:∀ i,i<mu.length->(cutM (fun i=>!decide (mu.length<=i)) (mu++[Cell.mp []]) 0)[i]?=mu[i]?:=fun i hi=>by grind [vh,qB]
 have a1:StOk (qk ts es) ⟨0,0⟩:=⟨zSp,zSp,zSp,by simp[pot]⟩;have g:=Xt ts h hb es hF R tb 4001 [] n false ⟨0,0⟩ (cutM (fun i=>!decide (mu.length<=i)) (mu++[Cell.mp []]) 0) xb zSp a1 .nil hw a4 (by grind) (by grind);have g:=qr.freeze (mu:=mu++[Cell.mp []]) (args:=[.ptr xb 0,.mp mu.length,eNd n,aB false]) (args1:=[.ptr xb 0,eEnv [],eNd n,aB false]) (fun i=>decide (mu.length<=i)) ⟨.inl rfl,.inr (mG (acc:=[]) (by grind [vh]) zSp (fun e he=>absurd he qG)),.inl rfl,.inl rfl,trivial⟩ g;have a7:=fun {n' z P}=>Z6 ts (fun p hp=>(hb p hp).1) es 4001 (env:=[]) (n:=n) (n':=n') (body:=false) (s:=⟨0,0⟩) (s':=P) (z:=z) (fun e he=>absurd he qG) hw
 have a8:=fun {n' z P}=>jl ts R 4001 (env:=[]) (n:=n) (n':=n') (body:=false) (s':=P) (z:=z) a1 .nil
 unfold outI;generalize expI ts es 4001 [] n false ⟨0,0⟩=E at *
 cases E with
 |error d =>
  refine fL g (by rintro r m ⟨e,_⟩;cases e) ?_;rintro r m ⟨e,l⟩;cases e;have o:=l.len;rw[vy]at o;simp only[qZ,yh,List.length_nil]at o;simp[go_sem];exact⟨zOm,fun i hi T U=>by rw[l.same i (by grind) T,j i hi]⟩
 |ok q =>
  obtain⟨⟨n',z⟩,P⟩:=q;obtain⟨hz,a9⟩:=a7 rfl;have hg:=a8 rfl;have ag:z<=4000:=by have:=hg.cz;have:=hg.c1;grind
  have ah:=Xu n';refine fL g ?_ (by rintro r m ⟨e,_⟩;cases e);rintro r m ⟨e,ai,l⟩;cases e;have o:=l.len;rw[vy]at o;simp only[qZ,yh,List.length_nil]at o;have aa:m[ob]?=some (.arr [aI 0,aS ⟨#[]⟩,aI 0,.lst true [],aI 0]):=by rw[l.same _ (by grind) a0,j _ a5];exact U
  have t:∀ c,(m.set ob c)[ob]?=some c:=fun c=>qv zOm
  simp[go_sem,aa];have C:∀ c,mu.length<=(m.set ob c).length/\∀ i,i<mu.length->i≠xb->i≠ob->(m.set ob c)[i]?=mu[i]?:=fun c=>⟨zSo,fun i hi T U=>by
   rw[zA (fun e=>U e.symm),l.same i (by grind) T,j i hi]⟩
  have wz:∀ b c,WKs [aB b,aI c,eNd n] [aB b,aI c,eNd n]:=fun b c => .zs (.zs (.zk (qz n) .nil))
  by_cases J:z<=400
  .have I:=mn (szN n') n' (qh _) a9 zOm
   by_cases a3:depN n'<=24
   .refine tN zKr ?_
    simp[go_sem,J,t];refine tR I (.zk (qz n') .nil) ?_;simp[go_sem,a3];refine tR (zu true 2 n).toP (wz true 2) ?_;simp[go_sem,t]
    grind
   .refine qe.tail 8 zKr ?_
    simp[go_sem,J,t];refine tR I (.zk (qz n') .nil) ?_;simp[go_sem,a3];refine fQ (zu false 2 n) (wz false 2) ?_;simp[go_sem];simpa using C _
  .refine qe.tail 8 zKr ?_
   simp[go_sem,J];refine fQ (zu false 2 n) (wz false 2) ?_;simp[go_sem];simpa using C _
end
end YE
namespace YG
open YS P1 Y1 Y9 YX YZ YA YB YC YE Q6
def valD(l:List UInt8):Nat:=l.foldl (fun a b=>10*a+(b.toNat-48)) 0
theorem qkF(u):valD (Lib.decDigits u)=u:=by
 induction u using Nat.strongRecOn with
 |_ u g =>
  rw[Lib.decDigits];split
  .rename_i h
   simp only[valD,List.foldl_cons,List.foldl_nil];rw[UInt8.toNat_ofNat_of_lt' (by simp[UInt8.size];omega)];omega
  .rename_i h
   have:=g (u / 10) zOm;unfold valD at this⊢;rw[ul,this];simp only[List.foldl_cons,List.foldl_nil];rw[UInt8.toNat_ofNat_of_lt' (by simp[UInt8.size];omega)];omega
theorem qkG{a b:Nat}(h:yU (a:Int)=yU (b:Int)):a=b:=by
 have g:Lib.decDigits a=Lib.decDigits b:=by
  unfold yU Lib.itoa at h;rw[zIn,zIn]at h;simp only[Int.toNat_natCast]at h;have h:=congrArg (fun x:tV=>x.data.toList) h;simpa using h
 grind [qkF]
theorem qkH{p a b:tV}(h:p++a=p++b):a=b:=by
 simp_all
theorem mP{a b:Nat}(h:vN (a:Int)=vN (b:Int)):a=b:=qkG (qkH h)
def badL(ts:TS)(es:List (tV×Bool)):List tV:=es.map Prod.fst++(ts.sA.map (fun f=>f.name)++ts.sS.flatMap fun s=>[s.1,s.1++jv,s.1++jQ])
theorem qkI(ts es):(badL ts es).length+1=qk ts es:=by
 have:∀ l:List (tV×Bool),(l.flatMap fun s=>[s.1,s.1++jv,s.1++jQ]).length=3*l.length:=by
  intro l;induction l with
  |nil=>rfl
  |cons a l g=>grind
 grind [badL,qk,qZ,yB]
theorem qkJ{ts es nm}(h:yf ts es nm=false):nm∈badL ts es:=by
 unfold yf at h;unfold badL;rw[Bool.and_eq_false_iff]at h;rcases h with h|h
 .have h:getK nm es=some true:=by simpa using h
  exact yQ _ (qn.2 ⟨_,Xv h,rfl⟩)
 .refine List.mem_append_right _ ?_
  have h:means ts nm≠[]:=zUs h;unfold means at h;by_cases hf:zG ts.sA nm=[]
  .rw [hf,jo]at h
   refine List.mem_append_right _ ?_;have:∀(g:List (tV×Bool))(i:Nat),zV i g nm≠[]->nm∈g.flatMap fun s=>[s.1,s.1++jv,s.1++jQ]:=by
    intro g;induction g with
    |nil=>intro i h;exact absurd rfl h
    |cons s g C =>
     intro i h;rw[uj,qL];by_cases j:j9 i s nm=[]
     .refine .inr (C (i+1) ?_)
      simpa[zV,j] using h
     .left
      unfold j9 at j;by_cases l:s.1=nm
      .simp [l]
      by_cases o:s.2=true/\s.1++jv=nm
      .simp [o.2]
      by_cases p:s.2=true/\s.1++jQ=nm
      .simp [p.2]
      exact absurd (by simp[l,o,p]) j
   exact this ts.sS 0 h
  .refine yQ _ ?_
   obtain⟨k,t⟩:=List.exists_mem_of_ne_nil _ hf;unfold zG at t;obtain⟨f,hf,e⟩:=List.mem_filterMap.1 t;split at e
   .rename_i I
    exact qn.2 ⟨f,hf,I⟩
   .cases e
theorem Xw(ts es):Free ts es:=by
 intro l P;by_cases g:∃ j:Nat,1<=j/\j<=qk ts es/\yf ts es (vN (l+j))=true
 .exact g
 exfalso;obtain⟨L,rfl⟩:∃ L:Nat,l=L:=⟨l.toNat,zOm⟩;have o:∀ x,x∈(qp (qk ts es)).map (fun i=>vN ((L+(i+1):Nat):Int))->x∈badL ts es:=fun x C=>by
  obtain⟨i,I,rfl⟩:=qn.1 C;rw[zO]at I;refine qkJ ?_;cases J:yf ts es (vN ((L+(i+1):Nat):Int)) with
  |false=>rfl
  |true=>exact absurd ⟨i+1,zOm,zOm,by rw[show (L:Int)+((i+1:Nat):Int)=((L+(i+1):Nat):Int) by omega];exact J⟩ g
 have p:((qp (qk ts es)).map (fun i=>vN ((L+(i+1):Nat):Int))).Nodup:=by
  refine List.pairwise_map.2 (List.nodup_range.imp fun t e=>t ?_);have:=mP e;omega
 have:=yY p o;rw[yB,List.length_range]at this;have:=qkI ts es;omega
def putN(es:List (tV×Bool))(l:List Nd):List (tV×Bool):=l.foldl (fun es n=>setK n.name true es) es
def yz(ts:TS)(n:Nd):List (tV×Bool):=ts.sT.foldl (fun C p=>putN C (preN p.body)) (putN [] (preN n))
def za(ts:TS)(n:Nd):Nd×Int:=
 if (ym ts [] n).1≠0 then (nd0,(ym ts [] n).1)
 else if anyN (fun n=>decide (n.op=47)) n=false then (n,0)
 else match outI ts (yz ts n) n with
  | .error d=>(nd0,d.1)
  | .ok g=>(g,0)
theorem Jt(p):∀ m n,szN n<=m->anyN p n=(preN n).any p
 | 0,n,g=>by obtain⟨op,nm,i,ks,q⟩:=n;simp[szN]at g
 |m+1,n,g=>by
  rw[Jl,uO,List.any_cons];congr 1;have:∀ l:List Nd,(∀ k,k∈l->k∈n.sD)->jT p l=(zg l).any p:=by
   intro l;induction l with
   |nil=>intro _;rfl
   |cons k l o =>
    intro j;simp only[jT,zg,List.any_append];rw[o fun x t=>j x (qP _ t),Jt p m k (zW1 (q9 (j k (qX ..))))]
  exact this n.sD fun k C=>C
end YG
namespace YH
open YF P1 P2 Y1 Y6 Y9 Y14 YX YZ YB YC YE YG Q6
section
variable {b:Bool}{es:List (tV×Bool)}{mu:Mu}{ts:TS}
structure InM (ts:TS) (es:List (tV×Bool)) (b:Bool) (mu:Mu):Prop where
 r:mu[0]?=some (.arr [aI 0,aS ⟨#[]⟩,aI 0,.lst true [],aI 0])
 t:mu[2]?=some (.mp (eSet es))
 x:mu[3]?=some (.arr (cIn ts 2 ⟨0,0⟩))
 p:mu[4]?=some (.arr [.ptr 3 0])
 c:mu[5]?=some (.arr [aB b])
theorem InM.len(h:InM ts es b mu):5<mu.length:=(qg.1 h.c).1
theorem InM.push(h:InM ts es b mu)(l):InM ts es b (mu++l):=by
 have g:=h.len;exact⟨by rw[zGa];exact h.r,by rw[zGa];exact h.t,by rw[zGa];exact h.x,by rw[zGa];exact h.p,by rw[zGa];exact h.c⟩
theorem InM.setT{g}(h:InM ts es b mu):InM ts g b (mu.set 2 (.mp (eSet g))):=by
 have i:=h.len;exact⟨by rw[zGl];exact h.r,qv zOm,by rw[zGl];exact h.x,by rw[zGl];exact h.p,by rw[zGl];exact h.c⟩
theorem InM.setC{b'}(h:InM ts es b mu):InM ts es b' (mu.set 5 (.arr [aB b'])):=by
 have g:=h.len;exact⟨by rw[zGl];exact h.r,by rw[zGl];exact h.t,by rw[zGl];exact h.x,by rw[zGl];exact h.p,qv zOm⟩
theorem qkK(mu):Rd mu eN0 (eNd nd0) := .agg _ _ rfl fun k x y g i=>by
 match k with
 | 0=>simp[nd0,cNd]at g i;subst g;subst i;exact .zsc _
 | 1=>simp[nd0,cNd]at g i;subst g;subst i;exact .zsc _
 | 2=>simp[nd0,cNd]at g i;subst g;subst i;exact .zsc _
 | 3=>simp[nd0,cNd,cNds]at g i;subst g;subst i;exact .wk _ true [] (.hf _ (HF.lst fun r j=>absurd j qG))
 | 4=>simp[nd0,cNd]at g i;subst g;subst i;exact .zsc _
 |k+5=>simp at g
theorem Z7(mu d):Rd mu (.tup [eN0,aI d]) (.tup [eNd nd0,aI d]) := .tup _ _ rfl fun k x y g i=>by
 match k with
 | 0=>grind [qkK]
 | 1=>simp at g i;subst g;subst i;exact .zsc _
 |k+2=>simp at g
theorem qkL(ts)(h:okTS ts)(hb:∀ p,p∈ts.sT->WfN p.body/\yq ts p.body)(n)(hw:WfN n)(ai:(ym ts [] n).1=0->yq ts n)(hF:qk ts (yz ts n)<=200000):qd qb 47 [eTS ts,eNd n] (.tup [eNd (za ts n).1,aI (za ts n).2]):=by
 generalize j:za ts n=R;unfold za at j;refine qSQ call47 func47 rfl { mt:=[25] } ?_;simp[go_sem];have a6:∀ p,p∈ts.sT->WfN p.body:=fun p hp=>(hb p hp).1
 refine fB (qiL ts h a6 n hw [] ⟨zSp,zSp⟩) (.zk (zl ts) (.cons (WK.lst fun r hr=>absurd hr qG) (.zk (qz n) .nil))) ?_;by_cases o:(ym ts [] n).1=0
 case neg =>
  rw[if_pos o]at j;subst j;simp[go_sem,o];refine fG [0,1,2,4,3] [(0,0,[]),(1,0,[]),(2,0,[]),(4,0,[]),(3,1,[2])] zKr zKr zSi ?_;simp_all[go_sem,Z7]
 case pos =>
  rw[if_neg (zUs o)]at j;simp[go_sem,o];have aj:∀(v:List Nd)(k:Nd)(I:Mu),InM ts (putN [] v) (v.any fun n=>decide (n.op=47)) I->qr qb 113 (eNd k :: [.ptr 4 0,.ptr 5 0]) I fun e m=>e = .ret (.tup [])/\InM ts (putN [] (v++[k])) ((v++[k]).any fun n=>decide (n.op=47)) m:=fun v k I g=>by
   refine(qjU ts ⟨0,0⟩ 2 _ _ k g.p g.x g.c g.t).monoR ?_;rintro e m ⟨rfl,rfl⟩;refine⟨rfl,?_⟩;rw[List.any_append];simp only[putN,ul,List.foldl_cons,List.foldl_nil,List.any_cons,List.any_nil,Bool.or_false];exact g.setT.setC
  refine fL (Xl (caps:=[.ptr 4 0,.ptr 5 0]) (fun v I=>InM ts (putN [] v) (v.any fun n=>decide (n.op=47)) I) (fun v I l h=>h.push l) aj (szN n) n (qh _) hw.small [] _ ⟨rfl,rfl,rfl,rfl,rfl⟩) ?_ (by grind);rintro r m ⟨e,g⟩;cases e;rw[jo,<-Jt _ (szN n) n (qh _)]at g;have au:=g.len;have a8:∀ c,(m.set 0 c)[0]?=some c:=fun c=>qv zOm
  cases J:anyN (fun n=>decide (n.op=47)) n with
  |false =>
   rw[J]at g j;rw[if_pos rfl]at j;subst j;simp[go_sem,g.c,g.r,a8];exact .hf _ (HF.tup fun c o=>by simp at o;rcases o with rfl|rfl;exact qz n;exact HF.sc _)
  |true =>
   rw[J]at g j;rw[if_neg zSp]at j;have av:=h.np;simp[go_sem,g.c];refine fZ ts.sT.length (fun k U=>U.tm 3 = .ip (cNd n)/\U.tm 4 = .ptr 0 0/\U.tm 7 = .ptr 4 0/\U.tm 33=lPd ts.sT/\U.tm 34=aI ts.sT.length/\U.tm 35=aI k/\InM ts ((ts.sT.take k).foldl (fun C p=>putN C (preN p.body)) (putN [] (preN n))) true U.mu) ?_ ?_
   .simp [go_sem, *]
   .rintro k U hk ⟨e3,e4,e7,a9,a2,a3,hM⟩
    by_cases ak:k=ts.sT.length
    .subst ak
     simp[go_sem,e3,e7,a2,a3];rw[zi]at hM;have hM:InM ts (yz ts n) true U.mu:=hM;have aw:=hM.len;have a0:InM ts (yz ts n) true (U.mu++[Cell.arr [aI 0,aS ⟨#[]⟩,aI 0,.lst true [],aI 0]]++[.dead]):=(hM.push _).push _;have aa:=qkE ts h hb (yz ts n) hF (Xw ts _) n hw (ai o) (mu:=U.mu++[Cell.arr [aI 0,aS ⟨#[]⟩,aI 0,.lst true [],aI 0]]++[.dead]) (ob:=U.mu.length) a0.p a0.x a0.t zSp;have al:=j;clear j;generalize hQ:outI ts (yz ts n) n=Q at *
     refine fL (Wu aa ?_) ?_ ?_
     .grind
     .rintro r m ⟨P,c,⟨l,rfl⟩,a4⟩
      have ab:U.mu.length+2<=P.length/\∀ i,i<U.mu.length+2->i≠3->i≠U.mu.length->P[i]?=(U.mu++[Cell.arr [aI 0,aS ⟨#[]⟩,aI 0,.lst true [],aI 0]]++[.dead])[i]?:=by
       grind
      have ad:∀(c:Cell)(l:List Cell),(P.set (U.mu.length+1) c++l)[0]?=some (.arr [aI 0,aS ⟨#[]⟩,aI 0,.lst true [],aI 0]):=fun c l=>by
       rw[qB zSo,zGl,ab.2 0 zOm zOm zOm];exact a0.r
      have T:∀(c c2:Cell)(l:List Cell),((P.set (U.mu.length+1) c++l).set 0 c2)[0]?=some c2:=fun c c2 l=>qv zSo
      have ae:∀(c c':Cell)(l:List Cell),(P.set (U.mu.length+1) c++(l++[c']))[P.length+l.length]?=some c':=fun c c' l=>by
       simp
      have a5:∀(c c' c2:Cell)(l:List Cell),((P.set (U.mu.length+1) c++(l++[c'])).set 0 c2)[P.length+l.length]?=some c':=fun c c' c2 l=>by
       grind
      rcases a4 with ⟨r',j,e⟩|⟨er,p,j,e⟩
      .cases Q with
       |error d=>grind
       |ok n' =>
        cases e;have an:∀(c:Cell)(l:List Cell),(P.set (U.mu.length+1) c++l)[U.mu.length]?=some (.arr (cNd n')):=fun c l=>by
         grind
        simp[go_sem,e4,an,ad,T];subst al;exact .hf _ (HF.tup fun c o=>by simp at o;rcases o with rfl|rfl;exact qz _;exact HF.sc _)
      .cases Q with
       |ok n'=>grind
       |error d =>
        have af:=mO hQ;have e1:er=d.1:=by grind
        subst e1;cases e;simp[go_sem,af];have n0:=ad c (l++[Cell.arr [aI d.1,aI p]]);have n1:=ae c (Cell.arr [aI d.1,aI p]) l;have n2:=fun c2=>a5 c (Cell.arr [aI d.1,aI p]) c2 l
        have n3:=fun c2=>T c c2 (l++[Cell.arr [aI d.1,aI p]])
        rw[af]at n0 n1 n2 n3;generalize P.set (U.mu.length+1) c++(l++[Cell.arr [aI 2,aI p]])=N at *
        generalize P.length+l.length=b at *
        refine fG [0,1,2,4,3] [(0,0,[]),(1,0,[]),(2,0,[]),(4,0,[]),(3,1,[2])] zKr zKr zSi ?_
        all_goals
         simp[go_sem,e4,n0,n1,n2,n3]
         grind [Z7]
     simp
    .have a1:k<ts.sT.length:=by omega
     have w1:=zWk k;have ag:=wY ts.sT[k];simp[go_sem,e7,a9,a2,a3,a1,ag];have ao:ts.sT[k]∈ts.sT:=qq a1;generalize aq:(ts.sT.take k).foldl (fun C p=>putN C (preN p.body)) (putN [] (preN n))=E0 at *
     have ah:∀(v:List Nd)(x:Nd)(I:Mu),InM ts (putN E0 v) true I->qr qb 114 (eNd x :: [.ptr 4 0]) I fun e m=>e = .ret (.tup [])/\InM ts (putN E0 (v++[x])) true m:=fun v x I g=>by
      refine(qjV ts ⟨0,0⟩ 2 _ x g.p g.x g.t).monoR ?_;rintro e m ⟨rfl,rfl⟩;refine⟨rfl,?_⟩;simp only[putN,ul,List.foldl_cons,List.foldl_nil];exact g.setT
     refine fL (Xl (caps:=[.ptr 4 0]) (fun v I=>InM ts (putN E0 v) true I) (fun v I l h=>h.push l) ah (szN ts.sT[k].body) ts.sT[k].body (qh _) (a6 _ ao).small [] _ (hM.push _)) ?_ (by rintro r m ⟨e,_⟩;cases e);rintro r m ⟨e,ar⟩;cases e;simp[go_sem,a3,w1];refine⟨a1,aK ?_⟩;refine⟨zS1 e3,zS1 e4,by simp[go_sem,e7],zS1 a9,zS1 a2,zSi,?_⟩;rw[List.take_add_one,qC a1,ul,aq];simpa[go_sem] using ar
end
end YH
end Go.Proofs.YtlnbdknjkmmgbaaGreatDoor
namespace Go.EvW
open Go Go.Ev Go.RowKit Go.ChangeShapes Go.WideShapes
section
variable {H J:Type}{c:J->List AV}{fs:List (j1×Nat)}{cs:List us}{N:Nat}{P:qf}{e t:j1}{w:uk}
def CR(w:uk)(xs:List AV)(cs:List us):Prop:=
 cs.length=xs.length/\∀(k:Nat) x,xs[k]?=some x->VRel ⟨(·<w.heap.size),[]⟩ w.heap x (cs.getD k xc)
theorem CR.nil(w):CR w [] []:=⟨rfl,zSp⟩
theorem CR.one{x v}(h:VRel ⟨(·<w.heap.size),[]⟩ w.heap x v):CR w [x] [v]:=⟨rfl,fun k y g=>by
 grind⟩
theorem CR.app{xs ys ds}(h:CR w xs cs)(k:CR w ys ds):CR w (xs++ys) (cs++ds):=by
 refine⟨by simp[h.1,k.1],fun i x g=>?_⟩;by_cases j:i<xs.length
 .rw [qB j]at g
  have:=h.2 i x g;rw[yI]at this⊢;rw[qB (by rw[h.1];exact j)];exact this
 .rw [zY zOm]at g
  have:=k.2 _ x g;rw[yI]at this⊢;rw[zY (by rw[h.1];omega),h.1];exact this
def jm(P:qf)(t:j1)(d:DataW H):Prop:=(d.weights P t).all (·<=reachBytes)=true
theorem jm.all:∀{ds:List (DataW H)},(DataW.weightsAll P e ds).all (·<=reachBytes)=true->∀(i:Nat) d,ds[i]?=some d->jm P e d
 | [],_,i,d,g=>by simp at g
 |x :: r,h,i,d,g=>by
  simp only[DataW.weightsAll,List.all_append,qx]at h;cases i with
  |zero=>simp at g;subst g;exact h.1
  |succ i=>exact jm.all h.2 i d (zUs g)
theorem cN:∀{ts}{ds:List (DataW H)},(DataW.weightsEach P ts ds).all (·<=reachBytes)=true->∀(i:Nat) t d,ts[i]?=some t->ds[i]?=some d->jm P t d
 | [],ds,_,i,t,d,g,_=>by simp at g
 |t0 :: ts,[],_,i,t,d,_,j=>by simp at j
 |t0 :: ts,x :: r,h,i,t,d,g,j=>by
  simp only[DataW.weightsEach,List.all_append,qx]at h;cases i with
  |zero=>simp at g j;subst g;subst j;exact h.1
  |succ i=>exact cN h.2 i t d (zUs g) (zUs j)
def ShT(P:qf)(n:Nat)(t:j1){J:Type}(c:J->List AV)(ok:J->Prop):Prop:=
 ∀(H:Type)(g:j1×us->H)(w:uk)(i:List us)(x:DataW H×List MemPlace),
  DataW.trod g P w 0 (fun _=>true) true n t i=some x->jm P t x.1->∃ a,ok a/\CR w (c a) i
def ShU(P:qf)(N:Nat)(t:j1){J:Type}(c:J->List AV)(ok:J->Prop):Prop:=∀ n,n<N->ShT P n t c ok
theorem ShU.le{M ok}(h:ShU P N t c ok)(g:M<=N):ShU P M t c ok:=fun n i=>h n zOm
theorem ShU.map{i ok c' g}(h:ShU P N t c ok)(f:J->i)(I:∀ a,c' (f a)=c a)(R:∀ a,ok a->g (f a)):ShU P N t c' g:=by
 intro n l H j w o x p C;obtain⟨a,T,U⟩:=h n l H j w o x p C
 grind
theorem ShU.int{k}(g:P.underlying t=some (.int k))(N):ShU P N t (fun n:Int=>[.sc (.int k n)]) (fun n=>(Lit.int k n).wf=true):=by
 intro n o H j w p x h _;obtain⟨i,rfl,_,l⟩:=DataW.trod_int g h;exact⟨i,l,.one (.sc _ rfl)⟩
theorem ShU.bool(g:P.underlying t=some .bool)(N):ShU P N t (fun b:Bool=>[.sc (.bool b)]) (fun _=>True):=by
 intro n l H j w o x h _;obtain⟨i,rfl,_⟩:=DataW.trod_bool g h;exact⟨i,trivial,.one (.sc _ rfl)⟩
theorem ShU.string(j:P.underlying t=some .string)(N):ShU P N t (fun s:tV=>[.sc (.string s)]) (fun s=>s.size<=140737488351232):=by
 intro n p H l w C x h g;obtain⟨i,rfl,rfl,I⟩:=DataW.trod_string j h;refine⟨i,?_,.one (.sc _ rfl)⟩;unfold jm at g;simp only[DataW.weights,List.all_cons,List.all_nil,Bool.and_true,decide_eq_true_eq]at g;have e:i.data.toList.length=i.size:=Array.length_toList;have o:i.size<=reachBytes:=by rw[<-e];exact g
 exact zM o (vq rfl)
theorem mQ{a n}(h:w.cells? 0 a n=some cs):cs.length=n/\∀ i,i<n->w.cell? (a.add i)=some (cs.getD i xc):=by
 unfold World.cells? at h;rw[if_pos (Nat.zero_le _)]at h;have g:=mapM_some_length h;refine⟨zUs g,fun i j=>?_⟩;have:=mapM_some_get h i i (zP1 j)
 grind
theorem mR{a v}(h:w.cell? a=some v):∃ arr e g,w.heap[a.block]?=some (.cells arr e g)/\a.spot=none/\arr[a.off]?=some v:=by
 unfold World.cell? at h;split at h
 .simp_all
 .cases h
theorem qkM[Inhabited J]{p:Nat->J->Prop}(n)(h:∀ i,i<n->∃ a,p i a):∃ l:List J,l.length=n/\∀(i) a,l[i]?=some a->p i a:=by
 induction n with
 |zero=>simp
 |succ n g =>
  obtain⟨l,j,o⟩:=g (fun i t=>h i zOm);obtain⟨a,C⟩:=h n zOm;refine⟨l++[a],zP1 j,fun i b I=>?_⟩
  grind
theorem ShU.slice[Inhabited J]{c ok}(ht:P.underlying t=some (.slice e))(he:ShU P N e c ok)(ak:∀ a,ok a->(c a).length=P.cellsOf e)(p:0<P.cellsOf e)(a5:Nat.blt 0 (P.bytesOf e)=true) :
  ShU P (N+1) t (fun l:List J=>[.lst false (l.map c)]) (fun l=>l.length<=140737488351232/\∀ a,a∈l->ok a):=by
 intro n hn H a6 w cs x h hw;rcases DataW.trod_slice ht h with ⟨rfl,_⟩|⟨a,len,cap,g,C,m,rfl,rfl,rfl,_,hl,hc,al,T,_,_⟩
 .exact ⟨[],⟨zSp,zSp⟩,.one (.nil _)⟩
 .have a7:(DataW.weightsAll P e (g.map (·.1))).all (·<=reachBytes)=true:=by
   simp_all[jm,DataW.weights,List.all_cons,List.all_append,qx]
  have an:len<=140737488351232:=by
   unfold jm at hw;simp only[DataW.weights,ht,List.all_cons,List.all_append,qx,decide_eq_true_eq]at hw;have I:=hw.1;have a8:1<=P.bytesOf e:=vq a5;have h2:((g.map (·.1)).length+(C.map (·.1)).length)*1<=((g.map (·.1)).length+(C.map (·.1)).length)*P.bytesOf e:=Nat.mul_le_mul_left _ a8;simp only[yB]at I h2;have h3:reachBytes<=140737488351232:=vq rfl;omega
  have key:∀ i,i<len->∃ b,ok b/\∃ o,w.cells? 0 (a.add (i*P.cellsOf e)) (P.cellsOf e)=some o/\CR w (c b) o:=by
   intro i hi;have I:=T i hi;have U:i<g.length:=zOm;rw[qC U]at I;obtain⟨o,h2,h3⟩:=Option.bind_eq_some_iff.1 I;obtain⟨b,h4,h5⟩:=he m zOm H a6 w o _ h3 (jm.all a7 i _ (by rw[zB,qC U];rfl))
   grind
  obtain⟨l,a9,a0⟩:=qkM len key;refine⟨l,⟨zOm,fun b hb=>?_⟩,.one ?_⟩
  .grind [List.mem_iff_getElem?]
  .have aa:(l.map c).length=len:=by simp[a9]
   rw[<-aa];cases Nat.eq_zero_or_pos len with
   |inl h0 =>
    have:l=[]:=un zOm;subst this;exact .emp _ a cap zSp
   |inr hp =>
    have ab:0<l.length:=zOm;obtain⟨_,ao,I,_⟩:=a0 0 l[0] (qC ab);obtain⟨ad,R⟩:=mQ I;have ae:=R 0 p;obtain⟨arr,el,fr,hb,hs,_⟩:=mR ae;have ai:∀ k:Nat,a.spot=none->(a.add k).spot=none/\(a.add k).off=a.off+k:=by
     grind [Addr.add]
    have a1:∀(b:Addr)(j:Nat),(b.add j).block=b.block:=by
     grind [Addr.add]
    have e0:((a.add (0*P.cellsOf e)).add 0).block=a.block/\((a.add (0*P.cellsOf e)).add 0).spot=a.spot:=by
     grind [Addr.add]
    rw[e0.1]at hb;rw[e0.2]at hs;have hz:yR (P.cellsOf e) (l.map c):=fun r hr=>by
     obtain⟨b,aq,rfl⟩:=qn.1 hr
     grind [List.mem_iff_getElem?]
    have ar:=yD hz;refine .lst false (l.map c) (P.cellsOf e) a cap arr el fr (fun k=>arr.getD (a.off+k) xc) hb hs zOm zSp (Array.getElem?_eq_some_iff.1 hb).1 hz ?_ ?_
    all_goals
     intro k x hk;have au:k<(l.map c).length*P.cellsOf e:=by grind
     have hq:k / P.cellsOf e<l.length:=by
      simp_all[yB,Nat.div_lt_of_lt_mul,Nat.mul_comm]
     have hr:k % P.cellsOf e<P.cellsOf e:=Nat.mod_lt _ p;have av:k / P.cellsOf e*P.cellsOf e+k % P.cellsOf e=k:=by
      grind [Nat.div_add_mod,Nat.mul_comm]
     obtain⟨_,o,I,h2⟩:=a0 (k / P.cellsOf e) _ (qC hq);obtain⟨ad,R⟩:=mQ I;have af:=R _ hr;have a2:(l.map c)[k / P.cellsOf e]?=some (c l[k / P.cellsOf e]):=by rw[zB,qC hq];rfl
     have hx:(c l[k / P.cellsOf e])[k % P.cellsOf e]?=some x:=by
      have ag:k % P.cellsOf e<(c l[k / P.cellsOf e]).length:=by grind
      have:=UH hz a2 (qC ag)
      grind
     obtain⟨aj,aw,ax,a3,ay,a4⟩:=mR af;have e1:((a.add (k / P.cellsOf e*P.cellsOf e)).add (k % P.cellsOf e)).block=a.block:=by rw[a1,a1]
     have e2:((a.add (k / P.cellsOf e*P.cellsOf e)).add (k % P.cellsOf e)).off=a.off+k:=by
      grind [Addr.add]
     rw[e1,hb]at a3;cases a3;rw[e2]at a4;have ah:arr.getD (a.off+k) xc=o.getD (k % P.cellsOf e) xc:=by
      rw[qQ,a4];rfl
    .grind
    .show VRel _ _ x (arr.getD (a.off+k) xc)
     rw[ah];exact h2.2 _ x hx
def Ua(P:qf)(t:j1):Option (List (j1×Nat)):=match P.underlying t with|some (.struct g)=>some (g.toList.map fun f=>(f.type,f.offset))|_=>none
inductive ShF (P:qf) (N:Nat):Nat->List (j1×Nat)->{α:Type}->(α->List AV)->(α->Prop)->Prop where
 |nil (o:Nat):ShF P N o [] (fun _:Unit=>[]) (fun _=>True)
 |cons {o:Nat} {t:j1} {fs:List (j1×Nat)} {α β:Type} {c:α->List AV} {ok:α->Prop} {c':β->List AV} {ok':β->Prop} (h:ShU P N t c ok) (k:ShF P N (o+P.cellsOf t) fs c' ok') :
   ShF P N o ((t,o) :: fs) (fun x:α×β=>c x.1++c' x.2) (fun x=>ok x.1/\ok' x.2)
def Ju(P:qf)(fs:List (j1×Nat)):Nat:=(fs.map fun f=>P.cellsOf f.1).foldr (·+·) 0
theorem ShF.read{n o ok}(h:ShF P N o fs c ok)(I:n<N){H}{enc:j1×us->H}{w}(cs:List us)
  (p:cs.length=o+Ju P fs) (C:∀(i:Nat) f,fs[i]?=some f->∃ x,DataW.trod enc P w 0 (fun _=>true) true n f.1 ((cs.drop f.2).take (P.cellsOf f.1))=some x/\jm P f.1 x.1) :
  ∃ a,ok a/\CR w (c a) (cs.drop o):=by
 induction h with
 |nil o =>
  refine⟨(),trivial,?_⟩;rw[List.drop_of_length_le (by grind [Ju])];exact .nil w
 | @cons o t fs J β c ok c' R h k T =>
  obtain⟨x,j,l⟩:=C 0 _ rfl;obtain⟨a,U,hr⟩:=h n I H enc w _ x j l;have a0:Ju P ((t,o) :: fs)=P.cellsOf t+Ju P fs:=rfl;obtain⟨b,hb,hs⟩:=T zOm (fun i g hg=>C (i+1) g hg);refine⟨(a,b),⟨U,hb⟩,?_⟩;have e:cs.drop o=(cs.drop o).take (P.cellsOf t)++cs.drop (o+P.cellsOf t):=by
   rw[<-List.drop_drop,List.take_append_drop]
  rw[e];exact hr.app hs
theorem ShU.struct{ok}(j:Ua P t=some fs)(hf:ShF P N 0 fs c ok)(U:P.cellsOf t=Ju P fs):ShU P (N+1) t c ok:=by
 intro n hn H l w cs x h hw;unfold Ua at j;split at j
 .rename_i gs hu
  simp only[qm]at j;subst j;obtain⟨p,m,rfl,rfl,hl,a0,hg⟩:=DataW.trod_struct hu h;have I:(DataW.weightsEach P (gs.toList.map (·.type)) (p.map (·.1))).all (·<=reachBytes)=true:=by
   grind [jm,DataW.weights]
  obtain⟨a,ha,hr⟩:=hf.read (n:=m) zOm (w:=w) (enc:=l) cs zOm (fun i f R=>by
   simp only[zB,vH]at R;obtain⟨g,o,rfl⟩:=R;have T:=hg i g (zUs o);have C:i<p.length:=by
    grind
   rw[qC C]at T;exact⟨_,T,cN I i _ _ (by rw[zB,o];rfl) (by rw[zB,qC C];rfl)⟩)
  grind
 .cases j
theorem cM{c:J->AV}{ok}(h:∀ N,ShU P N t (fun a=>[c a]) ok)(g:∀ w r b v,Value.okWide P w r b t v->v.cells=#[v])
  {H} {enc} {w} {r} {b} {v} {d:DataW H} {ps} (i:Value.okWide P w r b t v) (l:DataW.Trod enc P w 0 (fun _=>true) true t v d ps) (o:jm P t d) :
  ∃ a,ok a/\VRel ⟨(·<w.heap.size),[]⟩ w.heap (c a) v:=by
 obtain⟨n,p⟩:=l;obtain⟨a,C,j⟩:=h (n+1) n zOm H enc w _ _ p o;rw[g w r b v i]at j;have:=j.2 0 (c a) rfl
 grind
theorem cD{ok fs}(h:∀ N,ShU P N t c ok)(j:P.underlying t=some (.struct fs))
  {H} {enc} {w} {r} {b} {v} {d:DataW H} {ps} (g:Value.okWide P w r b t v) (l:DataW.Trod enc P w 0 (fun _=>true) true t v d ps) (o:jm P t d) :
  ∃ a,ok a/\VRel ⟨(·<w.heap.size),[]⟩ w.heap (.agg (c a)) v:=by
 obtain⟨n,p⟩:=l;obtain⟨a,C,i⟩:=h (n+1) n zOm H enc w _ _ p o;unfold Value.okWide at g;rw[j]at g;obtain⟨R,rfl,_,_⟩:=g;refine⟨a,C,.agg _ _ (by simpa[Value.cells] using i.1) (fun k x I=>?_)⟩;have:=i.2 k x I
 grind [Value.cells,qQ]
theorem qkN(g:P.underlying t=some (.slice e))(w r b v)(h:Value.okWide P w r b t v):v.cells=#[v]:=by
 unfold Value.okWide at h;rw[g]at h;simp only[Cell.okWide,g]at h;cases v<;>simp_all[Value.cells,Cell.ok]
end
end Go.EvW
