/-
  Own library, part 4: an abstract reading of values and a calculus over it; contracts of functions; plain lemmas.
-/
import Derived.Test.YtipbakanneogpaaGreatDoorMc
set_option linter.unusedVariables false
set_option linter.unusedSimpArgs false
set_option maxRecDepth 100000
open Go renaming Program->qb,TypeId->qc,Operand->qg,FuncId->qx,Value->qf,World->qd
open Go.Proofs.Tryz renaming prog->qe
open List renaming getElem?_eq_some_iff->qk,mem_map->qn,getElem_mem->qs,range->qu,getElem?_eq_getElem->qA,not_mem_nil->qH,mem_append->qK,getElem?_set_self->qM,getElem?_append_left->qN,replicate->qO,take_length->qP,mem_singleton->qV,mem_of_getElem?->q8,length_append->za,map_append->zb,mem_cons_of_mem->zc,getElem?_map->zj,mem_cons_self->zl,drop_eq_getElem_cons->zp,append_assoc->zt,length_cons->zu,all_eq_true->zA,length_map->zF,getD_eq_getElem?_getD->zG,getElem?_append_right->zJ,append_nil->zO,take_of_length_le->zV,drop_length->zZ,mem_range->yb,getElem?_set_ne->yF,mem_append_left->jn,mem_of_mem_take->jD,mem_filter->jM,getElem?_take->vj,nil_append->vo,take_succ_eq_append_getElem->vO,foldl_append->vQ,length_take->vR,getElem_of_mem->uf,getElem?_drop->ug,flatMap_cons->wP,mem_flatMap->wQ,getElem?_range->wR,nodup_append->Zw
open Go.IntKind renaming i64->qp
open Nat renaming le_refl->qr,le_trans->zL,zero_add->yf,le_of_ble_eq_true->ue
open Option.some renaming injEq->qv
open Bool renaming and_eq_true->qI,eq_iff_iff->j0
open Option renaming map_some->zo,map_eq_some_iff->jN
open Int renaming mul_le_mul->jE,tmod_eq_emod_of_nonneg->u3
open Except.ok renaming injEq->uC
open List.cons renaming injEq->Zy
namespace Go.Ev
open Go Go.RowKit
@[go_sem ↓] theorem qv7(P pl det i ev mu K j l g):qG P pl det i (.call ⟨.builtin .clear,l.toArray,g⟩) ev mu K j=uE P mu .clear g (evs ev l) K:=eqS rfl
theorem qj0{P mu K t e sz bt b off len cells zv}(o:qJ P t=some (e,sz,bt))(p:qB P e=some zv)(g:zv.cells.length=sz)(j:zv.cells.all AV.one=true)(l:sz≠0)
  (r:mu[b]?=some (.arr cells)) (C:off+len*sz<=cells.length) (I:0<len) (k:K (.tup []) (mu.set b (.arr (putCells cells off ((qu (len*sz)).map fun i=>zv.cells.getD (i % sz) .any))))):uE P mu .clear #[t] [.sl b sz off len] K:=
 ⟨_,_,.clear o p g j l r C I,k⟩
end Go.Ev
namespace Go.Proofs.YtipbakanneogpaaGreatDoor
open Go Go.Ev Go.Proofs Tryz
namespace EN
open EJ
theorem XM{mu:Mu}{b c}(h:mu[b]?=some c):mu.set b c=mu:=by
 obtain⟨i,g⟩:=qk.1 h;rw[<-g];simp
theorem Ut(l:List Int)(i h):List.take 1 (List.drop i (l.map aI))=[aI l[i]]:=by
 grind [zp]
theorem qj1(mu b g)(hl:g.length<=1000000)(hb:mu[b]?=some (.arr (g.map aI))) :
  qE qe 203 [.sl b 1 0 g.length] mu fun e m=>∃ cells,e = .ret (.sl b 1 0 (cmpc eqI g).length)/\m=mu.set b (.arr cells)/\cells.length=g.length/\cells.take (cmpc eqI g).length=(cmpc eqI g).map aI:=by
 refine qSW call203 func203 rfl {} ?_;simp[go_sem];by_cases h2:g.length<2
 .have hc:cmpc eqI g=g:=by
   match g,h2 with
   | [],_=>rfl
   | [x],_=>rfl
   |_ :: _ :: _,h=>grind
  simp[go_sem,show (g.length:Int)<2 by omega];rw[hc];exact⟨rfl,g.map aI,(XM hb).symm,zSp,by rw[zV zSp]⟩
 simp[go_sem,show ¬(g.length:Int)<2 by omega];refine cZ (fun m U=>∃ k,m=g.length-k/\1<=k/\k<=g.length/\U.tm 0 = .sl b 1 0 g.length/\U.tm 3=aI (k:Nat)/\U.mu=mu/\cmpc eqI (g.take k)=g.take k) (g.length-1) ?_ ?_
 .refine ⟨1,zOm,zOm,zOm,zSi,zSi,zSi,?_⟩
  match g,h2 with
  | [],h=>simp at h
  |x :: l,_=>simp[cmpc,ve]
 rintro m U ⟨k,rfl,a5,hk,e0,e3,hm,hi⟩;by_cases p:k<g.length
 .have hw:qp.wrap ((k:Int)-1)=((k-1:Nat):Int):=by grind [zW]
  have t:k-1<g.length:=zOm;have r1:=Ut g k p;have r2:=Ut g (k-1) t;have g1:k+1<=g.length:=p;have g2:k-1+1<=g.length:=t;have o:=n8 eqI g k a5 p;rw[hi]at o;simp[go_sem,e0,e3,hm,p];refine cH zKr ?_;by_cases hp:g[k]=g[k-1]
  .simp [go_sem,e0,e3,p,hb,hw,t,hp,r1,r2,g1,g2]
   rw[if_pos (zUs hp),zO]at o;simp[go_sem,hk];refine cZ (fun m2 st2=>∃(j i:Nat) (cur:List Int),m2=g.length-(k+j)/\1<=j/\k+j<=g.length/\st2.tm 0 = .sl b 1 0 g.length/\st2.tm 3=aI (i:Nat)/\st2.tm 4 = .sl b 1 k (g.length-k)/\st2.tm 5=aI (j:Nat)/\cur.length=g.length/\st2.mu=mu.set b (.arr (cur.map aI))/\i=(cmpc eqI (g.take (k+j))).length/\i<=k+j-1/\cur.take i=cmpc eqI (g.take (k+j))/\cur.drop (k+j-1)=g.drop (k+j-1)) (g.length-(k+1)) ?_ ?_
   .refine ⟨1,k,g,zOm,zOm,zOm,zS1 e0,zS1 e3,zSi,zSi,rfl,?_,?_,zOm,?_,rfl⟩
    .simp_all [go_sem,XM]
    .grind
    grind
   rintro m2 st2 ⟨j,i,cur,rfl,af,hj,f0,f3,f4,f5,a0,a1,C,ag,I,R⟩;have T:b<mu.length:=(qk.1 hb).1;by_cases J:j<g.length-k
   .have a6:k+j<g.length:=by omega
    have c1:cur[k+j]' zOm=g[k+j]:=by
     have:=congrArg (fun l=>l[1]?) R
     grind
    have c2:cur[k+j-1]' zOm=g[k+j-1]:=by
     have:=congrArg (fun l=>l[0]?) R;simp only[ug,Nat.add_zero]at this
     grind
    have r1:=Ut cur (k+j) zOm;have r2:List.take 1 (List.drop (k+(j-1)) (cur.map aI))=[aI (g[k+j-1]' zOm)]:=by rw[show k+(j-1)=k+j-1 by omega,Ut cur (k+j-1) zOm,c2]
    rw[c1]at r1;have a2:qp.wrap ((j:Int)-1)=((j-1:Nat):Int):=by rw[zWr];omega
    have a3:qp.wrap ((j:Int)+1)=((j+1:Nat):Int):=by rw[zWr];omega
    have g3:j-1<g.length-k:=zOm;have g4:k+j+1<=cur.length:=zOm;have g5:k+(j-1)+1<=cur.length:=zOm;have r:=n8 eqI g (k+j) zOm a6;have a4:cur.drop (k+j)=g.drop (k+j):=by
     have:=congrArg (List.drop 1) R;rw[List.drop_drop,List.drop_drop,show k+j-1+1=k+j by omega]at this;exact this
    simp[go_sem,f4,f5,a1,J];refine cH zKr ?_;by_cases P:g[k+j]=g[k+j-1]
    .rw [if_pos (zUs P),zO]at r
     simp[go_sem,f4,f5,J,T,r1,r2,a2,a3,g3,g4,g5,P];refine Keep.loop (g.length-(k+(j+1))) zOm ⟨j+1,i,cur,rfl,zOm,zOm,zS1 f0,zS1 f3,zS1 f4,zSi,a0,zSi,?_,zOm,?_,?_⟩
     .rw [show k+(j+1)=k+j+1 by omega,r];exact C
     .rw [show k+(j+1)=k+j+1 by omega,r];exact I
     .rw [show k+(j+1)-1=k+j by omega];exact a4
    .rw [if_neg (zUs P)]at r
     have a7:i<g.length:=zOm;have a8:i+1<=cur.length:=zOm;have ae:i<cur.length:=zOm;have a9:qp.wrap ((i:Int)+1)=((i+1:Nat):Int):=by rw[zWr];omega
     simp[go_sem,f0,f3,f4,f5,J,T,r1,r2,a2,a3,a9,g3,g4,g5,P,a7,a8];refine Keep.loop (g.length-(k+(j+1))) zOm ⟨j+1,i+1,cur.set i g[k+j],rfl,zOm,zOm,zS1 f0,zSi,zS1 f4,zSi,zP1 a0,?_,?_,zOm,?_,?_⟩
     .simp [go_sem,List.map_set]
     .rw [show k+(j+1)=k+j+1 by omega,r,za];simp;omega
     .rw [show k+(j+1)=k+j+1 by omega,r,<-I,List.take_add_one,qM zOm,List.take_set_of_le zOm];rfl
     .rw [show k+(j+1)-1=k+j by omega,List.drop_set_of_lt zOm];exact a4
   .have aa:k+j=g.length:=by omega
    rw[aa,qP]at C I;simp[go_sem,f0,f3,f4,f5,a1,J,show i<g.length by omega,show i<=g.length by omega];refine qj0 (e:=3) (bt:=8) (zv:=aI 0) (cells:=cur.map aI) zSi zSi rfl rfl zOm (zP1 T) zSo zOm ?_;have hZ:∀ zs:List AV,zs.length=g.length-i->(putCells (cur.map aI) i zs).length=g.length/\(putCells (cur.map aI) i zs).take i=(cur.map aI).take i:=by
     intro zs hz;rw[jb _ _ _ zSo];refine⟨zSo,?_⟩;rw[zt,List.take_append,vR,Nat.min_eq_left zSo,Nat.sub_self,List.take_zero,zO,List.take_take,Nat.min_self]
    have hz:=hZ ((qu ((g.length-i)*1)).map fun j=>(aI 0).cells.getD (j % 1) .any) zSp;generalize putCells (cur.map aI) i _=Z at hz⊢;simp[go_sem,f0,f3,show i<=g.length by omega];refine⟨C,Z,rfl,hz.1,?_⟩;rw[<-C,hz.2,<-List.map_take,I]
  .rw [if_neg (zUs hp)]at o
   have ab:g.take (k+1)=g.take k++[g[k]]:=by rw[List.take_add_one,qA p];rfl
   simp[go_sem,e0,e3,p,hb,hw,t,hp,r1,r2,g1,g2];refine Keep.loop (g.length-(k+1)) zOm ⟨k+1,rfl,zOm,zOm,zS1 e0,?_,zSi,by rw[o,ab]⟩;simp[go_sem];exact zWr
 .have ad:k=g.length:=by omega
  subst ad;rw[qP]at hi;simp[go_sem,e0,e3,hm];rw[hi];exact⟨rfl,g.map aI,(XM hb).symm,zSp,by rw[zV zSp]⟩
end EN
namespace E4
open E1
theorem has06(r x)(hl:r.ts.length<=1000000000)(hs:sorted r.ts):qi qe 188 [eRel r,aI x] (aB (decide (x∈r.ts))):=by
 refine qSU call188 func188 rfl ?_;refine cZ (fun n U=>∃ P g:Nat,n=g-P/\U.tm 1=aI x/\U.tm 2 = .ip [aI r.ar,lI r.ts]/\U.tm 5=aI P/\U.tm 6=aI g/\U.mu=[]/\P<=g/\g<=r.ts.length/\(∀(i:Nat)(h:i<r.ts.length),i<P->r.ts[i]<x)/\(∀(i:Nat)(h:i<r.ts.length),g<=i->x<=r.ts[i])) r.ts.length ?_ ?_
 .exact ⟨0,r.ts.length,zOm,zSi,zSi,zSi,zSi,zSi,zOm,zOm,fun i h h'=>zOm,fun i h h'=>zOm⟩
 rintro n U ⟨P,g,hn,I,t,J,R,T,a4,a5,C,a0⟩;by_cases a1:P<g
 .have hw:qp.wrap (qp.wrap ((P:Int)+g) / 2)=(((P+g) / 2:Nat):Int):=by
   rw[zW (n:=(P:Int)+g) zOm zOm,zWr];omega
  have a2:(qp.wrap ((P:Int)+g)).tdiv 2=qp.wrap ((P:Int)+g) / 2:=Int.tdiv_eq_ediv_of_nonneg (by rw[zWr];omega);have j:(P+g) / 2<r.ts.length:=zOm;generalize a6:(P+g) / 2=mid at *
  by_cases hb:r.ts[mid]<x
  .simp [go_sem,I,t,J,R,T,a1,a2,hw,j,hb]
   refine Keep.loop (g-(mid+1)) zOm ⟨mid+1,g,rfl,zS1 I,zS1 t,?_,zS1 R,zSi,zOm,zOm,fun i h h'=>?_,a0⟩
   .simp [go_sem]
    exact zWr
   .rcases Nat.lt_or_ge i mid with p|p
    .exact Int.lt_trans (XH hs p j) hb
    .have:i=mid:=by omega
     subst this;exact hb
  .simp [go_sem,I,t,J,R,T,a1,a2,hw,j,hb]
   refine Keep.loop (mid-P) zOm ⟨P,mid,rfl,zS1 I,zS1 t,zS1 J,zSi,zSi,zOm,zOm,C,fun i h h'=>?_⟩;rcases Nat.lt_or_ge mid i with p|p
   .have:=XH hs p h;omega
   .have:i=mid:=by omega
    subst this;omega
 .have a3:g=P:=by omega
  subst a3;by_cases l:g<r.ts.length
  .by_cases he:r.ts[g]=x
   .simp [go_sem,I,t,J,R,T,l,he]
    have:x∈r.ts:=he ▸ qs l;simp[this];exact .zsc _
   .simp [go_sem,I,t,J,R,T,l,he]
    have:¬x∈r.ts:=fun h=>by
     obtain⟨i,o,rfl⟩:=uf h;rcases Nat.lt_or_ge i g with p|p
     .have:=C i o p;omega
     .rcases Nat.lt_or_ge g i with h4|h4
      .have:=XH hs h4 o
       have:=a0 g l zOm;omega
      .have:i=g:=by omega
       subst this;exact he rfl
    simp[this];exact .zsc _
  .simp [go_sem,t,J,R,T,l]
   have:¬x∈r.ts:=fun h=>by
    obtain⟨i,o,rfl⟩:=uf h;have:=C i o zOm;omega
   simp[this];exact .zsc _
theorem qj2(a b)(hl:a.ts.length<=1000000000)(a1:b.ts.length<=1000000000)(hs:sorted b.ts):qi qe 134 [eRel a,eRel b] (eRel ⟨a.ar,a.ts.filter (fun t=>decide (¬t∈b.ts))⟩):=by
 refine qSU call134 func134 rfl ?_;refine cZ (fun m U=>∃ k l g,m=a.ts.length-k/\k<=a.ts.length/\U.tm 2 = .ip [aI a.ar,lI a.ts]/\U.tm 3 = .ip [aI b.ar,lI b.ts]/\U.tm 4 = .ptr 0 0/\U.tm 5 = .ptr 1 0/\U.tm 6=aI (k:Nat) /\
  U.mu=[.arr [aI 0,.lst true []],.arr [aI a.ar,l]]++g/\OwnF 2 ([.dead,.dead]++g) 1 l (((a.ts.take k).filter (fun t=>decide (¬t∈b.ts))).map rI)) a.ts.length ?_ ?_
 .exact ⟨0,.lst true [],[],zOm,zOm,zSi,zSi,zSi,zSi,zSi,zSi,by simpa using OwnF.nil zSp⟩
 rintro m U ⟨k,l,g,rfl,hk,J,e3,e4,R,P,hm,p⟩;have p:=p.low (low:=[.dead,.dead]) (low':=[.arr [aI 0,.lst true []],.arr [aI a.ar,l]]) rfl;by_cases o:k<a.ts.length
 .simp [go_sem,J,P,o]
  refine cH zKr ?_;simp[go_sem,J,e3,P,o];refine cQ (has06 b a.ts[k] a1 hs) (.zk (qY b) (.zs .nil)) ?_;have a0:a.ts.take (k+1)=a.ts.take k++[a.ts[k]]:=by rw[List.take_add_one,qA o];rfl
  by_cases hb:a.ts[k]∈b.ts
  .simp [go_sem,P,hb]
   refine Keep.loop (a.ts.length-(k+1)) zOm ⟨k+1,l,g,rfl,zOm,zS1 J,zS1 e3,zS1 e4,zS1 R,?_,zS1 hm,?_⟩
   .simp [go_sem];exact zWr
   .rw [a0,List.filter_append];simpa[go_sem,hb] using p.low (low':=[.dead,.dead]) rfl
  .simp [go_sem,hb]
   refine cH zKr ?_;simp[go_sem,J,R,P,o,hm];refine fU (low:=[.arr [aI 0,.lst true []],.arr [aI a.ar,l]]) (e:=3) (bt:=8) (z:=0) (xs:=(a.ts.take k).filter (fun t=>decide (¬t∈b.ts))) (ys:=[a.ts[k]]) zSi zSi zSi zOm p (by simp[qD]) ?_ ?_
   .have:=List.length_filter_le (fun t=>decide (¬t∈b.ts)) (a.ts.take k)
    have:=List.length_take_le k a.ts;have h3:[a.ts[k]].length=1:=rfl;omega
   intro a2 C I;simp[go_sem,R,P,I.cells,I.one];refine Keep.loop (a.ts.length-(k+1)) zOm ⟨k+1,a2,C,rfl,zOm,zS1 J,zS1 e3,zS1 e4,zS1 R,?_,zSi,?_⟩
   .simp [go_sem];exact zWr
   .rw [a0,List.filter_append]
    simpa[go_sem,hb] using I.low (low':=[.dead,.dead]) rfl
 .have a3:k=a.ts.length:=by omega
  subst a3;simp[go_sem,J,e4,R,P,hm,p.one];rw[qP]at p;simp at p;exact Rd.rel (r:=⟨a.ar,a.ts.filter (fun t=>!decide (t∈b.ts))⟩) (p.low (low:=[.arr [aI 0,.lst true []],.arr [aI a.ar,l]]) (low':=[.arr [aI a.ar,l],.arr [aI a.ar,l]]) rfl).rdI
theorem in06(a b)(i:a.ts.length<=1000000000)(g:b.ts.length<=1000000000)(j:sorted b.ts):qi qe 79 [eRel a,eRel b] (aB (inOk a b)):=by
 refine qSU call79 func79 rfl ?_;refine fR (qj2 a b i g j) (.zk (qY a) (.zk (qY b) .nil)) ?_;have e:inOk a b=decide (∀ t,t∈a.ts->t∈b.ts):=by
  rw[j0];simp[inOk]
 rw[e];exact .zsc _
theorem XN(a b)(ha:a.length<=9223372036854775807):qi qe 37 [lI a,lI b] (aB (decide (a=b))):=by
 refine qSV call37 func37 rfl ?_;by_cases p:a.length=b.length
 case neg =>
  simp[go_sem,p];rw[decide_eq_false (by rintro rfl;exact p rfl)];exact .zsc _
 simp[go_sem,p];refine qm.up a.length (fun k U=>U.tm 0=lI a/\U.tm 1=lI b/\U.tm 12=aI a.length/\U.tm 13=aI k/\U.mu=[]/\∀(i:Nat)(h:i<a.length)(r:i<b.length),i<k->a[i]=b[i]) ?_ ?_
 .simp [go_sem,p]
 rintro k U hk ⟨J,P,j,l,R,T⟩;by_cases o:k<a.length
 .have g:k<b.length:=by omega
  simp[go_sem,j,l,R,o]
  try refine cH zKr ?_
  by_cases t:a[k]=b[k]
  .simp [go_sem,J,P,j,l,o,g,t]
   refine⟨zWr,fun i h r hi=>?_⟩;rcases Nat.lt_succ_iff_lt_or_eq.1 hi with C|C
   .exact T i h r C
   .subst C;exact t
  .simp [go_sem,J,P,o,g,t]
   rw[decide_eq_false (by rintro rfl;simp at t)];exact .zsc _
 .have I:k=a.length:=by omega
  subst I;simp[go_sem,j,l,R];rw[decide_eq_true (List.ext_getElem p fun i h r=>T i h r h)];exact .zsc _
theorem XP(a b)(j:a.ts.length<=9223372036854775807):qi qe 61 [eRel a,eRel b] (aB (decide (a=b))):=by
 have g:(a=b)=(a.ar=b.ar/\a.ts=b.ts):=by cases a;cases b;simp
 refine qSV call61 func61 rfl ?_;by_cases i:a.ar=b.ar
 case neg =>
  simp[go_sem,i,g];exact .zsc _
 simp[go_sem,i];refine cQ (XN a.ts b.ts j) (.zk (zh _) (.zk (zh _) .nil)) ?_;simp[go_sem,i,g];exact .zsc _
theorem WK.ints{full}(l):WK (.lst full (l.map rI)) (lI l):=WK.lst fun r i c g=>by
 obtain⟨n,_,rfl⟩:=qn.1 i;simp at g;subst g;exact HF.sc _
end E4
namespace EO
open YS
section
variable {J:Type}{s:AV}{K:AV->Mu->Prop}{l:List Int}{mu:Mu}{P:qb}
def FnOk(P:qb)(o:AV){J:Type}(enc:J->AV)(ok:J->Prop)(g:J->AV):Prop:=
 HF o/\∃ l first j,o = .fn (.func l) first j/\∀ x,ok x->∃ i,WKs (first++[enc x]++j) i/\qi P l i (g x)
theorem FnOk.call{o enc ok g}(h:FnOk P o enc ok g){x:J}(p:ok x){det mu K r}(k:K (g x) mu):qh P det mu o [enc x] K r:=by
 obtain⟨_,l,first,j,rfl,h⟩:=h;obtain⟨i,t,C⟩:=h x p;exact .inl ⟨g x,.inl ⟨l,first,j,i,rfl,C,.inl t⟩,k⟩
def qo:AV->Option Nat
 | .sl b _ _ _=>some b
 |_=>none
def OwnI(mu:Mu)(s:AV)(l:List Int):Prop:=(s = .lst true []/\l=[])\/∃ b,s = .sl b 1 0 l.length/\mu[b]?=some (.arr (l.map aI))
def OwnV(mu:Mu)(s:AV)(l:List Int):Prop:=(s = .lst true []/\l=[])\/∃ b cells,s = .sl b 1 0 l.length/\mu[b]?=some (.arr cells)/\l.length<=cells.length/\cells.take l.length=l.map aI
theorem OwnI.v(h:OwnI mu s l):OwnV mu s l:=by
 rcases h with h|⟨b,g,i⟩
 .exact .inl h
 .exact .inr ⟨b,_,g,i,zSp,by rw[zV zSp]⟩
theorem OwnV.one(h:OwnV mu s l):s.one=true:=by
 rcases h with ⟨rfl,_⟩|⟨b,c,rfl,_⟩<;>rfl
theorem OwnV.cells(h:OwnV mu s l):s.cells=[s]:=by
 rcases h with ⟨rfl,_⟩|⟨b,c,rfl,_⟩<;>rfl
theorem OwnV.same{mu'}(h:OwnV mu s l)(g:∀ b,qo s=some b->mu'[b]?=mu[b]?):OwnV mu' s l:=by
 rcases h with h|⟨b,c,rfl,i,j,o⟩
 .exact .inl h
 .exact .inr ⟨b,c,rfl,by rw[g b rfl];exact i,j,o⟩
theorem OwnI.same{mu'}(h:OwnI mu s l)(g:∀ b,qo s=some b->mu'[b]?=mu[b]?):OwnI mu' s l:=by
 rcases h with h|⟨b,rfl,i⟩
 .exact .inl h
 .exact .inr ⟨b,rfl,by rw[g b rfl];exact i⟩
theorem OwnV.lt(h:OwnV mu s l){b}(g:qo s=some b):b<mu.length:=by
 rcases h with ⟨rfl,_⟩|⟨j,c,rfl,i,_⟩
 .cases g
 .cases g;exact(qk.1 i).1
theorem OwnV.rd(h:OwnV mu s l):Rd mu s (lI l):=by
 rcases h with ⟨rfl,rfl⟩|⟨b,cells,rfl,p,t,o⟩
 .exact .wk _ true _ (.hf _ (HF.lst fun r C=>by simp at C))
 .refine .sl b 1 0 _ cells _ p (zUs t) zSp (fun x g=>by
   obtain⟨l,_,rfl⟩:=qn.1 g;rfl) (fun k x y g j=>?_)
  rw[yf]at g;rw[ZQ,<-o,vj]at j;split at j
  .rw [g]at j;cases j
   have:x∈cells.take l.length:=by
    refine q8 (i:=k) ?_;rw[vj,if_pos (by assumption)];exact g
   rw[o]at this;obtain⟨z,_,rfl⟩:=qn.1 this;exact .zsc _
  grind
theorem aP{t g e bt:Nat}{x ys z}(I:qJ P t=some (e,1,bt))(j:(qJ P g).isSome=true)(J:qB P e=some (aI z))
  (R:bt<=16384) (T:OwnV mu s l) (U:qD mu x=some (ys.map rI)) (C:l.length+ys.length<=4294967296)
  (k:∀ av mu',OwnI mu' av (l++ys)->(∀ i,i<mu.length->qo s≠some i->mu'[i]?=mu[i]?)->mu.length<=mu'.length->(∀ b,qo av=some b->b=mu.length)->K av mu'):qz P mu #[t,g] s x K:=by
 refine .inl ⟨t,g,e,1,bt,ys.map rI,rfl,I,j,⟨_,J,rfl,rfl⟩,zOm,R,U,yv ys,?_⟩;rcases T with ⟨rfl,rfl⟩|⟨b,cells,rfl,hc,h1,h2⟩
 .refine .inl ⟨[],rfl,fun r hr=>by simp at hr,zUs C,fun h=>?_,fun h=>?_⟩
  .have:ys=[]:=by simpa using h
   subst this;exact k _ _ (.inl ⟨rfl,rfl⟩) (fun _ _ _=>rfl) (qr _) (fun _ h=>by cases h)
  .refine k _ _ (.inr ⟨mu.length,zSp,by simp[ZQ]⟩) (fun i o _=>?_) zSp (fun b h=>by cases h;rfl)
   rw[qN o]
 .refine .inr ⟨b,l.length,cells,rfl,hc,zUs h1,zUs C,?_⟩
  have e1:cells.take (l.length*1)++(ys.map rI).flatten=(l++ys).map aI:=by rw[Nat.mul_one,h2,zb,ZQ]
  have e2:l.length+(ys.map rI).length=(l++ys).length:=zSp;rw[e1,e2];refine k _ _ (.inr ⟨mu.length,rfl,?_⟩) (fun i o p=>?_) zSp (fun b h=>by cases h;rfl)
  .simp
  .rw [qN (zUs o),yF (fun h=>p (by rw[h];rfl))]
theorem aN{t j e bt:Nat}{x z}(o:qJ P t=some (e,1,bt))(g:(qJ P j).isSome=true)(p:qB P e=some (aI z))
  (r:bt<=16384) (C:OwnV mu s l) (I:l.length+1<=4294967296)
  (k:∀ av mu',OwnI mu' av (l++[x])->(∀ i,i<mu.length->qo s≠some i->mu'[i]?=mu[i]?)->mu.length<=mu'.length->(∀ b,qo av=some b->b=mu.length)->K av mu'):qz P mu #[t,j] s (.lst true [[aI x]]) K:=
 aP (ys:=[x]) o g p r C rfl I k
theorem sumG(l)(P:l.length<=1000000)(C:∀ k,0<=sumI (l.take k)/\sumI (l.take k)<=1000000):qi qe 101 [lI l] (aI (sumI l)):=by
 refine qSU call101 func101 rfl ?_;refine qm.up l.length (fun k U=>U.tm 6=lI l/\U.tm 7=aI l.length/\U.tm 3=aI (sumI (l.take k))/\U.tm 8=aI k/\U.mu=[]) ?_ ?_
 .simp [go_sem,sumI]
 rintro k U R ⟨I,o,p,r,t⟩;by_cases g:k<l.length
 .have J:=uJ l k g
  have i:=C (k+1);rw[J]at i;simp[go_sem,I,o,p,r,t,g]
  grind [zW]
 .have j:k=l.length:=by omega
  subst j;simp[go_sem,o,p,r,t];exact .zsc _
theorem Yu(sc)(g:GSc sc):qi qe 56 [eSc sc] (aI (sumI sc.sC)):=by
 refine qSU call56 func56 rfl ?_;refine fR (sumG _ (zL g.1 zOm) fun k=>zW1 (g.sum k)) (.zk (zh _) .nil) ?_;exact .zsc _
theorem qj3(sc)(g:GSc sc)(s)(i:s<=sc.sC.length):qi qe 161 [eSc sc,aI s] (aI (sumI (sc.sC.take s))):=by
 refine qSV call161 func161 rfl ?_;have j:WKs [.lst false ((sc.sC.map rI).take s)] [lI (sc.sC.take s)] := .cons (by rw[<-List.map_take];exact .hf (zh _)) .nil;simp[go_sem,i];refine⟨⟨_,_,⟨rfl,rfl⟩,(yv sc.sC).ok⟩,?_⟩;refine fR (sumG (sc.sC.take s) (by simp;have:=g.1;omega) fun k=>by rw[List.take_take];have:=g.sum (min k s);omega) j ?_;exact .zsc _
def jK(p:J->Bool):List J->Int->Int
 | [],_ => -1
 |x :: l,i=>if p x=true then i else jK p l (i+1)
theorem XQ(p)(l:List J)(k i h):jK p (l.drop k) i=if p l[k]=true then i else jK p (l.drop (k+1)) (i+1):=by
 rw[zp h,jK]
theorem Uu(p):∀(l:List J)(i),0<=i->decide (0<=jK p l i)=l.any p
 | [],i,h=>by simp[jK]
 |x :: l,i,h=>by
  rw[jK,List.any_cons];cases g:p x with
  |true=>simp[h]
  |false=>simpa using Uu p l (i+1) zOm
theorem qj4(xs y)(J:xs.length<=1000000000):qi qe 223 [lI xs,aI y] (aI (jK (fun x=>decide (x=y)) xs 0)):=by
 refine qSU call223 func223 rfl ?_;refine qm.up xs.length (fun k U=>U.tm 0=lI xs/\U.tm 1=aI y/\U.tm 7=aI xs.length/\U.tm 8=aI k/\U.mu=[]/\jK (fun x=>decide (x=y)) (xs.drop k) k=jK (fun x=>decide (x=y)) xs 0) ?_ ?_
 .simp [go_sem]
 rintro k U P ⟨C,I,l,o,p,i⟩;by_cases g:k<xs.length
 .rw [XQ _ _ _ _ g]at i
  by_cases j:xs[k]=y
  .rw [if_pos (zUs j)]at i
   subst j;simp[go_sem,C,I,l,o,p,g];rw[<-i];exact .zsc _
  .rw [if_neg (zUs j)]at i
   have r:¬y=xs[k]:=fun h=>j h.symm
   simp[go_sem,C,I,l,o,p,g,r]
   grind [zW]
 .have t:k=xs.length:=by omega
  subst t;rw[zZ]at i;simp[go_sem,l,o,p];rw[<-i];exact .zsc _
theorem qj5(xs y)(g:xs.length<=1000000000):qi qe 187 [lI xs,aI y] (aB (decide (y∈xs))):=by
 refine qSU call187 func187 rfl ?_;refine cQ (qj4 xs y g) (.zk (zh _) (.zs .nil)) ?_;have e:decide (y∈xs)=decide (0<=jK (fun x=>decide (x=y)) xs 0):=by
  rw[Uu _ _ _ zOm,j0,List.any_eq_true];simp
 rw[e];simp[go_sem];exact .zsc _
abbrev lB(xs:List Bool):AV := .lst false (xs.map fun b=>[aB b])
theorem JW(xs):HF (lB xs):=HF.lst fun r g c i=>by
 obtain⟨n,_,rfl⟩:=qn.1 g
 grind [HF.sc]
theorem qj6(xs y)(J:xs.length<=1000000000):qi qe 186 [lB xs,aB y] (aI (jK (fun x=>decide (x=y)) xs 0)):=by
 refine qSU call186 func186 rfl ?_;refine qm.up xs.length (fun k U=>U.tm 0=lB xs/\U.tm 1=aB y/\U.tm 7=aI xs.length/\U.tm 8=aI k/\U.mu=[]/\jK (fun x=>decide (x=y)) (xs.drop k) k=jK (fun x=>decide (x=y)) xs 0) ?_ ?_
 .simp [go_sem]
 rintro k U P ⟨C,I,j,l,o,i⟩;by_cases g:k<xs.length
 .rw [XQ _ _ _ _ g]at i
  by_cases p:xs[k]=y
  .rw [if_pos (zUs p)]at i
   subst p;simp[go_sem,C,I,j,l,o,g];rw[<-i];exact .zsc _
  .rw [if_neg (zUs p)]at i
   have r:(y == xs[k])=false:=by grind
   simp[go_sem,C,I,j,l,o,g,r]
   grind [zW]
 .have t:k=xs.length:=by omega
  subst t;rw[zZ]at i;simp[go_sem,j,l,o];rw[<-i];exact .zsc _
theorem qj7(xs y)(g:xs.length<=1000000000):qi qe 128 [lB xs,aB y] (aB (decide (y∈xs))):=by
 refine qSU call128 func128 rfl ?_;refine cQ (qj6 xs y g) (.zk (JW _) (.zs .nil)) ?_;have e:decide (y∈xs)=decide (0<=jK (fun x=>decide (x=y)) xs 0):=by
  rw[Uu _ _ _ zOm,j0,List.any_eq_true];simp
 rw[e];simp[go_sem];exact .zsc _
end
end EO
namespace F1
open Y1 YF E3 EO
abbrev cMa(x:Mo):List AV:=cMd x.m++(cTS x.ts++[aI x.n])
abbrev eMa(x:Mo):AV := .ip (cMa x)
abbrev cPl(p:Pl):List AV:=[aI p.st,lPm p.env]
abbrev ePl(p:Pl):AV := .agg (cPl p)
theorem ZT(l):HF (lSt l):=HF.lst fun r i c g=>by
 obtain⟨n,_,rfl⟩:=qn.1 i;simp at g;subst g;exact Qc _
theorem n9(m):∀ c,c∈cMd m->HF c:=by
 intro c g;simp at g;rcases g with rfl|rfl|rfl|rfl
 .exact zh _
 .exact HF.sc _
 .exact ZT _
 .exact HF.sc _
theorem yx(m):HF (eMd m):=HF.agg (n9 m)
theorem zY(x):HF (eMa x):=HF.ip fun c g=>by
 rcases qK.1 g with g|g
 .exact n9 _ c g
 .rcases qK.1 g with g|g
  .exact JR _ c g
  .rw [qV]at g;subst g;exact HF.sc _
theorem Uv(p):HF (ePl p):=HF.agg fun c g=>by
 simp at g;rcases g with rfl|rfl
 .exact HF.sc _
 .exact um _
theorem wk3(x p n):WKs [eMa x,ePl p,eNd n] [eMa x,ePl p,eNd n] := .zk (zY x) (.zk (Uv p) (.zk (qL n) .nil))
abbrev errV(e:Int):AV := .ifc 46 (aI e)
theorem qR(e):HF (errV e):=HF.ifc (HF.sc _)
def endE:XE Rl->AEnd
 | .ok r => .ret (eRel r)
 | .error e => .pan (errV e)
def endN:XE Int->AEnd
 | .ok r => .ret (aI r)
 | .error e => .pan (errV e)
def endB:XE Bool->AEnd
 | .ok r => .ret (aB r)
 | .error e => .pan (errV e)
def end2:XE (Rl×Rl)->AEnd
 | .ok r => .ret (.tup [eRel r.1,eRel r.2])
 | .error e => .pan (errV e)
@[go_sem] theorem endE_ok(r):endE (.ok r) = .ret (eRel r):=rfl
@[go_sem] theorem endE_err(e):endE (.error e) = .pan (errV e):=rfl
@[go_sem] theorem endN_ok(r):endN (.ok r) = .ret (aI r):=rfl
@[go_sem] theorem endN_err(e):endN (.error e) = .pan (errV e):=rfl
@[go_sem] theorem endB_ok(r):endB (.ok r) = .ret (aB r):=rfl
@[go_sem] theorem endB_err(e):endB (.error e) = .pan (errV e):=rfl
@[go_sem] theorem end2_ok(r):end2 (.ok r) = .ret (.tup [eRel r.1,eRel r.2]):=rfl
@[go_sem] theorem end2_err(e):end2 (.error e) = .pan (errV e):=rfl
theorem wq(e):qZ qe 133 [aI e] (.pan (errV e)):=by
 refine zi.of_sound ?_;refine qSW call133 func133 rfl {} ?_;simp[go_sem];exact⟨_,_,⟨rfl,rfl⟩,.hf _ (qR _)⟩
theorem wkI(e):WKs [aI e] [aI e] := .zs .nil
theorem Uw(r e):qZ qe 214 [eRel r,aI e] (if e=0 then .ret (eRel r) else .pan (errV e)):=by
 refine zi.of_sound ?_;refine qSW call214 func214 rfl {} ?_;by_cases h:e=0
 .simp [go_sem,h]
  exact .hf _ (qY r)
 .simp [go_sem,h]
  refine fZ (wq e) (wkI e) ?_;simp[go_sem];exact .hf _ (qR _)
theorem qj8(x)(g:GSc x.m.sc):qi qe 77 [eTS x.ts,eMd x.m] (eMa x):=by
 refine qSU call77 func77 rfl ?_;refine fM ?_;refine fR (Yu x.m.sc g) (.zk (zr _) .nil) ?_;exact .hf _ (zY x)
theorem qj9(mu b e)(g:mu[b]?=some (.arr [aI e])):y6 qe 76 [.ptr b 0] mu none fun mu'=>mu'=mu:=by
 refine y6.of_awp call76 func76 rfl ⟨_,_,_,_,rfl⟩ (ue zKr) zKr zKr (pl:={}) ?_;simp[go_sem]
theorem qkA(mu b y e)(g:mu[b]?=some (.arr [aI y])):y6 qe 76 [.ptr b 0] mu (some (errV e)) fun mu'=>mu'=mu.set b (.arr [aI e]):=by
 refine y6.of_awp call76 func76 rfl ⟨_,_,_,_,rfl⟩ (ue zKr) zKr zKr (pl:={}) ?_;simp[go_sem,g]
end F1
namespace EP
open E1 EO
section
variable {J:Type}{cs:List (Int×AV)}{g:List (Int×List Int)}{mu:Mu}{b:Nat}
theorem keyI:KeyT qe 3 (fun n:Int=>aI n) (fun _=>True):=by
 refine⟨fun a b _ _=>?_,fun a _=>zSi⟩;simp[go_sem]
theorem yj{l:List J}{n}(h):l.take (n+1)=l.take n++[l[n]]:=by rw[List.take_add_one,qA h];rfl
def cntK(f:Int->Int)(ts:List Int):List (Int×Int):=ts.foldl (fun m t=>setK (f t) ((getK (f t) m).getD 0+1) m) []
theorem mc(f ts t):cntK f (ts++[t])=setK (f t) ((getK (f t) (cntK f ts)).getD 0+1) (cntK f ts):=by simp[cntK,vQ]
theorem Ux(f)(ts:List Int):∀ n,n<=ts.length->∀ k,0<=(getK k (cntK f (ts.take n))).getD 0/\(getK k (cntK f (ts.take n))).getD 0<=n/\(0<(getK k (cntK f (ts.take n))).getD 0↔∃ t,t∈ts.take n/\f t=k)
 | 0,_,k=>by simp[cntK,getK]
 |n+1,h,k=>by
  obtain⟨l,p,o⟩:=Ux f ts n zOm k;have i:n<ts.length:=zOm;obtain⟨g1,r,_⟩:=Ux f ts n zOm (f ts[n]);rw[yj i,mc,vw];by_cases j:k=f ts[n]
  .rw [if_pos j]
   simp only[Option.getD_some];exact⟨zOm,zOm,fun _=>⟨ts[n],List.mem_append_right _ (qV.2 rfl),j.symm⟩,fun _=>zOm⟩
  .rw [if_neg j]
   refine⟨l,zOm,o.trans ⟨fun⟨t,g,e⟩=>⟨t,jn _ g,e⟩,fun⟨t,g,e⟩=>?_⟩⟩;rcases qK.1 g with g|g
   .grind
   grind
theorem me(f ts k):0<=(getK k (cntK f ts)).getD 0/\(0<(getK k (cntK f ts)).getD 0↔∃ t,t∈ts/\f t=k):=by
 have:=Ux f ts ts.length (qr _) k
 grind
def grpK(m:Int)(ys:List Int):List (Int×List Int):=ys.foldl (fun g y=>setK (y / m) ((getK (y / m) g).getD []++[y % m]) g) []
theorem mf(m ys y):grpK m (ys++[y])=setK (y / m) ((getK (y / m) (grpK m ys)).getD []++[y % m]) (grpK m ys):=by simp[grpK,vQ]
theorem Uy(m)(ys:List Int):∀ n,n<=ys.length->∀ k,(getK k (grpK m (ys.take n))).getD []=((ys.take n).filter fun y=>decide (y / m=k)).map fun y=>y % m
 | 0,_,k=>by simp[grpK,getK]
 |n+1,h,k=>by
  have j:=Uy m ys n zOm;have i:n<ys.length:=zOm;rw[yj i,mf,vw,List.filter_append,zb];by_cases g:k=ys[n] / m
  .rw [if_pos g,Option.getD_some,<-g,j k]
   simp[g]
  .rw [if_neg g,j k]
   have:¬ys[n] / m=k:=fun e=>g e.symm
   simp[this]
theorem mi{i}(q:Int->Int)(v:List (Int×i)->Int->i):∀(l:List Int)(g),(g.map Prod.fst).Nodup->((l.foldl (fun g y=>setK (q y) (v g y) g) g).map Prod.fst).Nodup
 | [],g,h=>h
 |y :: l,g,h=>mi q v l _ (wh h)
theorem qkB(m ys):((grpK m ys).map Prod.fst).Nodup:=mi (fun y=>y / m) (fun g y=>(getK (y / m) g).getD []++[y % m]) ys [] zSp
theorem mj{g}(k v w):∀{es:List (Int×J)}{fs:List (Int×g)},es.map Prod.fst=fs.map Prod.fst->(setK k v es).map Prod.fst=(setK k w fs).map Prod.fst
 | [],[],_=>rfl
 |e :: es,f :: fs,h=>by
  simp only[List.map_cons,Zy]at h;unfold setK;rw[<-h.1];split
  .simp [h.2]
  .simp [h.1,mj k v w h.2]
 | [],_ :: _,h=>by simp at h
 |_ :: _,[],h=>by simp at h
theorem mn{g}(k):∀{es:List (Int×J)}{fs:List (Int×g)},es.map Prod.fst=fs.map Prod.fst->(getK k es=none↔getK k fs=none)
 | [],[],_=>by simp[getK]
 |e :: es,f :: fs,h=>by
  simp only[List.map_cons,Zy]at h;unfold getK;rw[<-h.1];split
  .simp
  .exact mn k h.2
 | [],_ :: _,h=>by simp at h
 |_ :: _,[],h=>by simp at h
structure GrpM (mu:Mu) (b:Nat) (g:List (Int×List Int)) (cs:List (Int×AV)):Prop where
 at0:mu[b]?=some (.mp (encK (fun n:Int=>aI n) id cs))
 keys:cs.map Prod.fst=g.map Prod.fst
 own:∀ k v,getK k cs=some v->∃ l,getK k g=some l/\OwnI mu v l
 inj:∀ k k' v v' x,getK k cs=some v->getK k' cs=some v'->qo v=some x->qo v'=some x->k=k'
 ne:∀ k v,getK k cs=some v->qo v≠some b
theorem GrpM.cur(h:GrpM mu b g cs)(k):OwnI mu ((getK k cs).getD (.lst true [])) ((getK k g).getD []):=by
 cases i:getK k cs with
 |none=>rw[(mn k h.keys).1 i];exact .inl ⟨rfl,rfl⟩
 |some v=>obtain⟨l,j,o⟩:=h.own k v i;rw[j];exact o
theorem GrpM.step{mu'}(h:GrpM mu b g cs){k av l}(ho:OwnI mu' av l)(hs:∀ i,i<mu.length->qo ((getK k cs).getD (.lst true []))≠some i->mu'[i]?=mu[i]?)(hb:∀ x,qo av=some x->x=mu.length) :
  mu'[b]?=some (.mp (encK (fun n:Int=>aI n) id cs))/\GrpM (mu'.set b (.mp (encK (fun n:Int=>aI n) id (setK k av cs)))) b (setK k l g) (setK k av cs):=by
 have R:b<mu.length:=(qk.1 h.at0).1;have T:qo ((getK k cs).getD (.lst true []))≠some b:=by
  cases j:getK k cs with
  |none=>simp[qo]
  |some v=>exact h.ne k v j
 have U:=hs b R T;have C:b<mu'.length:=by
  grind
 have a3:qo av≠some b:=fun e=>by grind
 have keep:∀{v:AV}{l:List Int},OwnI mu' v l->qo v≠some b->OwnI (mu'.set b (.mp (encK (fun n:Int=>aI n) id (setK k av cs)))) v l:=fun o hn=>o.same fun x I=>by
  grind
 have a0:∀{p:Int}{v:AV}{l:List Int},p≠k->getK p cs=some v->OwnI mu v l->OwnI mu' v l:=fun a1 j o=>o.same fun x I=>by
  have a2:=o.v.lt I;refine hs x a2 fun e=>?_
  cases hc:getK k cs with
  |none=>grind [qo]
  |some w=>rw[hc]at e;exact a1 (h.inj _ _ _ _ x j hc I e)
 refine⟨by rw[U];exact h.at0,by rw[qM C],mj k _ _ h.keys,fun p v j=>?_,fun k1 k2 v1 v2 x r t h1 h2=>?_,fun p v j=>?_⟩
 .rw [vw]at j⊢
  by_cases e:p=k
  .grind
  .rw [if_neg e]at j⊢
   obtain⟨l',h1,h2⟩:=h.own p v j;exact⟨l',h1,keep (a0 e j h2) (h.ne p v j)⟩
 .rw [vw]at r t
  have lt:∀{p v},getK p cs=some v->qo v=some x->x<mu.length:=fun j I=>by
   obtain⟨l',_,o⟩:=h.own _ _ j;exact o.v.lt I
  by_cases P:k1=k
  .by_cases J:k2=k
   .rw [P,J]
   .rw [if_pos P]at r;rw[if_neg J]at t;grind
  .by_cases J:k2=k
   .rw [if_neg P]at r;rw[if_pos J]at t;grind
   .rw [if_neg P]at r;rw[if_neg J]at t
    exact h.inj _ _ _ _ x r t h1 h2
 .rw [vw]at j
  by_cases e:p=k
  .grind
  .rw [if_neg e]at j;exact h.ne p v j
theorem GrpM.nil(h:mu[b]?=some (.mp [])):GrpM mu b [] []:=⟨h,rfl,fun k v g=>by simp[getK]at g,fun k i v j x g=>by simp[getK]at g,fun k v g=>by simp[getK]at g⟩
theorem GrpM.rd(h:GrpM mu b g cs)(C:(g.map Prod.fst).Nodup):Rd mu (.mp b) (.im (encK (fun n:Int=>aI n) lI g)):=by
 have r:cs.length=g.length:=by have:=congrArg List.length h.keys;grind
 have t:(cs.map Prod.fst).Nodup:=by rw[h.keys];exact C
 refine .mp b _ _ h.at0 (by simp[encK,r]) (fun k x y i j=>?_) (fun k x y i j=>?_)
 .have e:=congrArg (fun l=>l[k]?) h.keys
  simp only[zj]at e i j;cases o:cs[k]? with
  |none=>grind
  |some c =>
   cases p:g[k]? with
   |none=>grind
   |some d =>
    rw[o]at i;rw[p]at j;rw[o,p]at e;cases i;cases j;simp only[zo,qv]at e;simp only[e];exact .zsc _
 .have e:=congrArg (fun l=>l[k]?) h.keys
  simp only[zj]at e i j;cases o:cs[k]? with
  |none=>grind
  |some c =>
   cases p:g[k]? with
   |none=>grind
   |some d =>
    rw[o]at i;rw[p]at j;rw[o,p]at e;cases i;cases j;simp only[zo,qv]at e;obtain⟨l,I,J⟩:=h.own c.1 c.2 ((Zb t).2 (q8 o));rw[e]at I;have:=(Zb C).2 (q8 p:(d.1,d.2)∈g);rw[I]at this;cases this;exact J.v.rd
theorem qkC(n m x y):(x.flatMap fun s=>((getK (s % n) (grpK m y)).getD []).map fun t=>s / n*m+t)=joL n m x y:=by
 unfold joL;congr 1;funext s;have:=Uy m y y.length (qr _) (s % n);simp_all
end
end EP
namespace EQ
open E1 EJ EM EN EO
theorem aM{P mu}{t g e bt n:Nat}{z K}(i:qJ P t=some (e,1,bt))(j:P.underlying g=some (.int .i64))(l:qB P e=some (aI z))(o:bt<=16384)(p:0<n)(C:n<=4294967296)
  (k:∀ c,K (.sl mu.length 1 0 n) (mu++[.arr c])):qz P mu #[t,g] (.lst true []) (aI n) K:=
 .inr (.inr ⟨t,g,e,1,bt,_,n,[],rfl,i,j,l,rfl,rfl,zOm,o,rfl,p,rfl,fun r I=>by simp at I,zUs C,by simpa using k _⟩)
theorem growE(mu)(n:Nat)(I:n<=1000000):qE qe 204 [.lst true [],aI n] mu fun e m=>∃ av,e = .ret av/\OwnV m av []/\(∀ i,i<mu.length->m[i]?=mu[i]?)/\mu.length<=m.length/\∀ b,qo av=some b->mu.length<=b:=by
 refine qSW call204 func204 rfl {} ?_;have j:qp.wrap 0=0:=zWr;have o:qp.wrap (n:Int)=n:=zWr;have g:¬(n:Int)<0:=zOm;by_cases p:n=0
 .subst p
  simp[go_sem,j];exact⟨.inl ⟨rfl,rfl⟩,by simp[qo]⟩
 .have l:0<n:=by omega
  simp[go_sem,j,o,g,l];refine⟨⟨_,_,⟨rfl,rfl⟩,fun r t=>by simp at t⟩,?_⟩;refine aM (e:=3) (bt:=8) (z:=0) zSi zSi zSi zOm l zOm ?_;intro c;simp[go_sem];refine⟨.inr ⟨mu.length,c,rfl,zSp,zSp,zSp⟩,fun i C=>by rw[qN C],by simp[qo]⟩
theorem qkD(mu a b)(ha:a.length<=100000)(hb:b.length<=100000):qE qe 164 [.lst true [[lI a],[lI b]]] mu fun e m=>∃ av,e = .ret av/\OwnI m av (a++b)/\(∀ i,i<mu.length->m[i]?=mu[i]?)/\mu.length<=m.length/\∀ x,qo av=some x->mu.length<=x:=by
 refine qSW call164 func164 rfl {} ?_;have v1:qp.wrap 1=1:=zWr;have v2:qp.wrap 2=2:=zWr;simp[go_sem];have n0:¬((a.length:Int)+b.length)<0:=zOm;refine qm.up 2 (fun k U=>U.tm 0 = .lst true [[lI a],[lI b]]/\U.tm 3=aI ((if 0<k then (a.length:Int) else 0)+(if 1<k then (b.length:Int) else 0))/\U.tm 9 = .lst true [[lI a],[lI b]]/\U.tm 10=aI 2/\U.tm 11=aI k/\U.mu=mu) ?_ ?_
 .simp [go_sem]
 rintro k U hk ⟨e0,e3,e9,t,C,hm⟩;by_cases I:k<2
 .have:k=0\/k=1:=by omega
  rcases this with rfl|rfl
  .have w1:qp.wrap (a.length:Int)=a.length:=zWr
   have n1:¬(a.length:Int)<0:=zOm;simp[go_sem, *]
  .have w1:qp.wrap ((a.length:Int)+b.length)=a.length+b.length:=zWr
   simp[go_sem, *]
 .have:k=2:=by omega
  subst this;have g:=growE mu (a.length+b.length) zOm;simp[go_sem,e3,t,C,hm];refine fQ (zUs g) ?_ ?_
  .rintro r m ⟨av,h,p,hs,hl,J⟩
   cases h;simp[go_sem,e0];refine qm.up 2 (fun k U=>U.tm 25 = .lst true [[lI a],[lI b]]/\U.tm 26=aI 2/\U.tm 27=aI k/\(if k=0 then OwnV U.mu (U.tm 6) [] else OwnI U.mu (U.tm 6) (if k=1 then a else a++b))/\(∀ i,i<mu.length->U.mu[i]?=mu[i]?)/\mu.length<=U.mu.length/\∀ x,qo (U.tm 6)=some x->mu.length<=x) ?_ ?_
   .simp_all [go_sem]
   rintro k a1 hk ⟨f25,f26,f27,p,hs,hl,J⟩;by_cases I:k<2
   .have:k=0\/k=1:=by omega
    rcases this with rfl|rfl
    .rw [if_pos rfl]at p
     simp[go_sem,f25,f26,f27];refine aP (e:=3) (bt:=8) (z:=0) (l:=[]) (ys:=a) zSi zSi zSi zOm p (by simp[qD]) zSo ?_;intro P j o R T a0;simp at o;simp[go_sem,f25,f26,f27,v1];refine⟨o,fun i hi=>?_,zOm,fun x hx=>?_⟩
     .grind
     grind
    .rw [zIn,if_pos rfl]at p
     simp[go_sem,f25,f26,f27];refine aP (e:=3) (bt:=8) (z:=0) (l:=a) (ys:=b) zSi zSi zSi zOm p.v (by simp[qD]) zOm ?_;intro P j o R T a0;simp[go_sem,f25,f26,f27,v2];refine⟨o,fun i hi=>?_,zOm,fun x hx=>?_⟩
     .grind
     grind
   .have:k=2:=by omega
    simp_all[go_sem]
  grind
theorem qkE(mu):qE qe 202 [.lst true []] mu fun e m=>e = .ret (.tup [])/\m=mu:=by
 refine⟨call202,fun G w o s g=>?_⟩;obtain⟨v,rfl,i⟩:=g.one_inv;obtain⟨p,cap,rfl⟩:∃ p cap,v = .slice p 0 cap:=by cases i<;>exact⟨_,_,rfl⟩
 refine(Tryz.slices_Sort_int_none p cap w).mono fun e r ⟨j,l⟩=>?_
 subst l;exact⟨G,mu,.refl s,.inl ⟨_,_,⟨rfl,rfl⟩,j,.tup [] #[] rfl zSp⟩⟩
theorem sortA(mu av l)(r:l.length<=1000000)(j:OwnI mu av l):qE qe 202 [av] mu fun e m=>e = .ret (.tup [])/\OwnI m av (srtI l)/\(∀ i,qo av≠some i->m[i]?=mu[i]?)/\m.length=mu.length:=by
 rcases j with ⟨rfl,rfl⟩|⟨b,rfl,g⟩
 .refine (qkE mu).monoR ?_
  rintro e m ⟨rfl,rfl⟩;exact⟨rfl,.inl ⟨rfl,by simp[srtI]⟩,fun _ _=>rfl,rfl⟩
 .refine (sortE g zOm).monoR ?_
  rintro e m ⟨rfl,rfl⟩;have o:b<mu.length:=(qk.1 g).1;exact⟨rfl,.inr ⟨b,by rw[JO],by rw[qM o]⟩,fun i p=>by rw[yF (fun e=>p (by rw[e];rfl))],zSp⟩
theorem qkF(mu av l)(o:l.length<=1000000)(p:OwnI mu av l):qE qe 203 [av] mu fun e m=>∃ x,e = .ret x/\OwnV m x (cmpc eqI l)/\(∀ i,qo av≠some i->m[i]?=mu[i]?)/\m.length=mu.length/\∀ b,qo x=some b->qo av=some b:=by
 rcases p with ⟨rfl,rfl⟩|⟨b,rfl,g⟩
 .refine qSW call203 func203 rfl {} ?_
  simp[go_sem];exact .inl ⟨rfl,rfl⟩
 .refine (qj1 mu b l o g).monoR ?_
  rintro e m ⟨cells,rfl,rfl,I,j⟩;have r:b<mu.length:=(qk.1 g).1;refine⟨_,rfl,.inr ⟨b,cells,rfl,by rw[qM r],?_,j⟩,fun i t=>by rw[yF (fun e=>t (by rw[e];rfl))],zSp,fun x C=>C⟩;have:=congrArg List.length j;simp at this;omega
theorem XS(mu P av l)(R:l.length<=1000000)(p:OwnI mu av l):qE qe 163 [aI P,av] mu fun e m=>∃ x,e = .ret (.agg [aI P,x])/\OwnV m x (ofL l)/\(∀ i,i<mu.length->qo av≠some i->m[i]?=mu[i]?)/\mu.length<=m.length/\∀ b,qo x=some b->qo av=some b:=by
 refine qSW call163 func163 rfl {} ?_;have t:OwnI (mu++[.arr [aI 0,.lst true []]]) av l:=p.same fun b T=>by rw[qN (p.v.lt T)]
 have C:qo av≠some mu.length:=fun h=>zW1 (p.v.lt h)
 simp[go_sem];refine fQ (sortA _ av l R t) ?_ ?_
 .rintro r m ⟨h,I,a0,J⟩
  cases h;have a1:m.length=mu.length+1:=zUs J;simp[go_sem];refine fQ (qkF _ av _ (by rw[JO];exact R) I) ?_ ?_
  .rintro r U ⟨x,h,g,a2,a3,j⟩
   cases h;rw[qjZ]at g;have hc:U[mu.length]?=some (.arr [aI 0,.lst true []]):=by grind
   have o:∀ c,(U.set mu.length c)[mu.length]?=some c:=fun c=>qM zOm
   have hx:qo r≠some mu.length:=fun h=>C (j _ h)
   simp[go_sem,hc,o,g.one,g.cells];refine⟨?_,fun i hi hn=>?_,zOm,j⟩
   .exact g.same fun b T=>by grind
   grind
  grind
 grind
theorem aD{mu j av l}(h:OwnV mu av l):Rd mu (.agg [aI j,av]) (eRel ⟨j,l⟩):=by
 refine .agg _ _ rfl fun k u v g i=>?_
 match k with
 | 0=>simp at g i;subst g;subst i;exact .zsc _
 | 1=>simp at g i;subst g;subst i;exact h.rd
 |k+2=>simp at g
theorem vB(a b)(J:a.ts.length<=100000)(l:b.ts.length<=100000):qi qe 113 [eRel a,eRel b] (eRel (unR a b)):=by
 refine qSU call113 func113 rfl ?_;refine fD [0,1,2,3,4,5,6,7,8,9] [(0,0,[]),(1,0,[]),(2,0,[]),(3,0,[]),(4,0,[]),(5,0,[]),(6,0,[]),(7,1,[1]),(8,1,[]),(9,1,[])] zKr zKr zSi ?_;simp[go_sem];refine fQ (qkD _ a.ts b.ts J l) ?_ ?_
 .rintro r m ⟨t,h,P,R,hl,T⟩
  cases h;have o:=R 0 zSp;simp at o;have g:qo r≠some 0:=fun h=>by grind
  simp[go_sem];refine fQ (XS m a.ar r _ zSo P) ?_ ?_
  .rintro r U ⟨x,h,i,p,a0,C⟩
   cases h;have I:=p 0 (qk.1 o).1 g;rw[o]at I;have j:∀ c,(U.set 0 c)[0]?=some c:=fun c=>qM (qk.1 I).1
   have hx:qo x≠some 0:=fun h=>g (C _ h)
   simp[go_sem,I,j,i.one];refine aD ?_;exact i.same fun b l=>by rw[yF (fun e=>hx (by rw[e];exact l))]
  grind
 grind
end EQ
namespace ER
open E1 EO EP EQ
theorem XT(l C p)(hf:FnOk qe C (fun x:Int=>aI x) (·∈l) (fun x=>aB (p x)))(hl:l.length<=1000000):qi qe 158 [lI l,C] (lI (l.filter p)):=by
 refine qSU call158 func158 rfl ?_;refine cZ (fun m U=>∃ k,m=l.length-k/\k<=l.length/\U.tm 1=C/\U.tm 8=lI l/\U.tm 9=aI l.length/\U.tm 10=aI (k:Nat)/\OwnI U.mu (U.tm 5) ((l.take k).filter p)) l.length ?_ ?_
 .exact ⟨0,zOm,zOm,zSi,zSi,zSi,zSi,.inl ⟨zSi,rfl⟩⟩
 rintro m U ⟨k,rfl,hk,I,J,o,g,r⟩;by_cases i:k<l.length
 .have w1:=zWk k
  have a0:((l.take k).filter p).length<=k:=zL (List.length_filter_le _ _) zSo;simp[go_sem,I,J,o,g,i];refine FnOk.call (enc:=fun x:Int=>aI x) hf (qs i) ?_;cases hp:p l[k] with
  |true =>
   have P:(l.take (k+1)).filter p=(l.take k).filter p++[l[k]]:=by rw[yj i,List.filter_append];simp[hp]
   simp[go_sem];refine aN (e:=3) (bt:=8) (z:=0) (l:=(l.take k).filter p) zSi zSi zSi zOm r.v zOm ?_;intro t j R _ _ _;simp[go_sem,g,w1];refine Keep.loop (l.length-(k+1)) zOm ⟨k+1,rfl,zOm,zS1 I,zS1 J,zS1 o,zSi,?_⟩;rw[P];simpa[go_sem] using R
  |false =>
   have P:(l.take (k+1)).filter p=(l.take k).filter p:=by rw[yj i,List.filter_append];simp[hp]
   simp[go_sem,g,w1];refine Keep.loop (l.length-(k+1)) zOm ⟨k+1,rfl,zOm,zS1 I,zS1 J,zS1 o,zSi,?_⟩;rw[P];simpa[go_sem] using r
 .have T:k=l.length:=by omega
  subst T;rw[qP]at r;simp[go_sem,o,g];exact r.v.rd
theorem XU(x):qi qe 157 [aI x] (aI x):=by
 refine qSU call157 func157 rfl ?_;exact .zsc _
abbrev imC(l:List (Int×Int)):AV := .im (encK (fun n:Int=>aI n) (fun n:Int=>aI n) l)
theorem ZU(l):HF (imC l):=HF.im fun p g=>by
 obtain⟨q,_,rfl⟩:=qn.1 g;exact⟨HF.sc _,HF.sc _⟩
theorem setU(r fv f)(hf:FnOk qe fv (fun x:Int=>aI x) (·∈r.ts) (fun x=>aI (f x)))(hl:r.ts.length<=1000000):qi qe 156 [eRel r,fv] (imC (cntK f r.ts)):=by
 refine qSU call156 func156 rfl ?_;obtain⟨B,hB⟩:∃ B,B=AV.mp 0:=⟨_,rfl⟩;refine qm.up r.ts.length (fun k U=>U.tm 1=fv/\U.tm 5=B/\U.tm 10=lI r.ts/\U.tm 11=aI r.ts.length/\U.tm 12=aI k/\U.mu[0]?=some (.mp (encK (fun n:Int=>aI n) (fun n:Int=>aI n) (cntK f (r.ts.take k))))) ?_ ?_
 .simp [go_sem,cntK,encK,hB]
 rintro k U hk ⟨e1,e5,p,j,l,J⟩;by_cases g:k<r.ts.length
 .have w1:=zWk k
  obtain⟨c1,c2,_⟩:=Ux f r.ts k zOm (f r.ts[k]);have hs:=mc f (r.ts.take k) r.ts[k];rw[<-yj g]at hs;have a0:=keyI.look (et:=3) (t:=249) zSi (mu:=U.mu) (m := .mp 0) (venc:=fun n:Int=>aI n) (es:=cntK f (r.ts.take k)) (by simp only[j7,J]) (k:=f r.ts[k]) trivial (fun _ _=>trivial) (z:=aI 0) zSi false;have o:yu qe U.mu 249 B (aI (f r.ts[k])) false=some (aI ((getK (f r.ts[k]) (cntK f (r.ts.take k))).getD 0)):=by
   rw[hB];refine Eq.trans a0 ?_;cases getK (f r.ts[k]) (cntK f (r.ts.take k))<;>rfl
  have i:jR qe U.mu 249 (.mp 0) (aI (f r.ts[k])) (aI ((getK (f r.ts[k]) (cntK f (r.ts.take k))).getD 0+1))=_:=keyI.update (et:=3) (t:=249) zSi (mu:=U.mu) (b:=0) (venc:=fun n:Int=>aI n) (es:=cntK f (r.ts.take k)) J (k:=f r.ts[k]) (v:=(getK (f r.ts[k]) (cntK f (r.ts.take k))).getD 0+1) trivial (fun _ _=>trivial);rw[<-hs,<-hB]at i;have R:0<U.mu.length:=(qk.1 J).1;generalize (getK (f r.ts[k]) (cntK f (r.ts.take k))).getD 0=c at *
  have w2:qp.wrap (c+1)=c+1:=zWr;simp[go_sem,e1,e5,p,j,l,g];refine FnOk.call (enc:=fun x:Int=>aI x) hf (qs g) ?_;simp[go_sem,o,w2];subst hB;refine cL _ i ?_;simp[go_sem,e1,e5,p,j,l,g,w1,R]
 .have a1:k=r.ts.length:=by omega
  subst a1;rw[qP]at J;simp[go_sem,e5,j,l];rw[hB];exact .mp 0 _ _ J rfl (fun k x y T hy=>by rw[T]at hy;cases hy;obtain⟨q,_,e⟩:=qn.1 (q8 T);rw[<-e];exact .zsc _) (fun k x y T hy=>by rw[T]at hy;cases hy;obtain⟨q,_,e⟩:=qn.1 (q8 T);rw[<-e];exact .zsc _)
theorem FnOk.same(ok):FnOk qe (.fn (.func 157) [] []) (fun x:Int=>aI x) ok (fun x=>aI x):=
 ⟨HF.fn zSp zSp,_,[],[],rfl,fun x _=>⟨_,.zs .nil,XU x⟩⟩
theorem XV(mu f ts k):yu qe mu 249 (imC (cntK f ts)) (aI k) false=some (aI ((getK k (cntK f ts)).getD 0)):=by
 have:=keyI.look (et:=3) (t:=249) zSi (mu:=mu) (m:=imC (cntK f ts)) (venc:=fun n:Int=>aI n) (es:=cntK f ts) rfl (k:=k) trivial (fun _ _=>trivial) (z:=aI 0) zSi false;simp only[yu];refine Eq.trans this ?_;cases getK k (cntK f ts)<;>rfl
theorem qkG(f ts x):qi qe 239 [aI x,.ip [imC (cntK f ts)]] (aB (decide (0<(getK x (cntK f ts)).getD 0))):=by
 refine qSV call239 func239 rfl ?_;have g:=fun C=>XV C f ts x
 generalize imC (cntK f ts)=B at *
 simp[go_sem,g];exact .zsc _
theorem qkH(f ts x):qi qe 159 [aI x,.ip [imC (cntK f ts)]] (aB (decide ((getK x (cntK f ts)).getD 0=0))):=by
 refine qSV call159 func159 rfl ?_;have g:=fun C=>XV C f ts x
 generalize imC (cntK f ts)=B at *
 simp[go_sem,g];exact .zsc _
theorem jg{x}(h:HF x):HF (.ip [x]):=HF.ip fun c g=>by simp at g;subst g;exact h
theorem mq(ts x):(0<(getK x (cntK (fun x=>x) ts)).getD 0↔x∈ts)/\((getK x (cntK (fun x=>x) ts)).getD 0=0↔¬x∈ts):=by
 obtain⟨l,g⟩:=me (fun x=>x) ts x;have i:(∃ t,t∈ts/\t=x)↔x∈ts:=⟨fun⟨t,j,e⟩=>e ▸ j,fun h=>⟨x,h,rfl⟩⟩;rw[i]at g;exact⟨g,by rw[<-g];omega⟩
theorem Rd.ip1{mu b x y}(j:mu[b]?=some (.arr [x]))(h:Rd mu x y):Rd mu (.ptr b 0) (.ip [y]):=by
 refine .ptr b 0 [x] [y] j zSp fun k u v i g=>?_
 match k with
 | 0=>simp at i g;subst i;subst g;exact h
 |k+1=>simp at g
theorem Uz(a b)(o:a.ts.length<=1000000)(p:b.ts.length<=1000000):qi qe 212 [eRel a,eRel b] (eRel (inR a b)):=by
 refine qSV call212 func212 rfl ?_;have r:=setU b _ _ (FnOk.same (·∈b.ts)) p;have C:=XT a.ts (.fn (.func 239) [] [.ip [imC (cntK (fun x=>x) b.ts)]]) (fun t=>decide (t∈b.ts)) ⟨HF.fn zSp (by simp;exact jg (ZU _)),_,[],_,rfl,fun x _=>⟨_,.zs (.zk (jg (ZU _)) .nil),by have:=qkG (fun x=>x) b.ts x;simp only[(mq b.ts x).1]at this;exact this⟩⟩ o;have I:WKs [eRel b,.fn (.func 157) [] []] [eRel b,.fn (.func 157) [] []] := .zk (qY b) (.zk (HF.fn zSp zSp) .nil);have g:=ZU (cntK (fun x=>x) b.ts);have i:(imC (cntK (fun x=>x) b.ts)).cells=[imC (cntK (fun x=>x) b.ts)]:=rfl;have j:(imC (cntK (fun x=>x) b.ts)).one=true:=rfl;generalize imC (cntK (fun x=>x) b.ts)=B at *
 have l:WKs [lI a.ts,.fn (.func 239) [] [.ip [B]]] [lI a.ts,.fn (.func 239) [] [.ip [B]]] := .zk (zh _) (.zk (HF.fn zSp (by simp;exact jg g)) .nil);simp[go_sem];refine cQ r I ?_;simp[go_sem,i,j];refine qj.fz (FzQ.one (d:=5) (b:=1) (x := .ip [B]) (Rd.ip1 rfl (.hf _ g)) ?_);simp[go_sem,cutM];refine fM ?_;refine fR C l ?_;exact .hf _ (qY (inR a b))
theorem mr(a b)(o:a.ts.length<=1000000)(p:b.ts.length<=1000000):qi qe 105 [eRel a,eRel b] (eRel (diR a b)):=by
 refine qSV call105 func105 rfl ?_;have r:=setU b _ _ (FnOk.same (·∈b.ts)) p;have C:=XT a.ts (.fn (.func 159) [] [.ip [imC (cntK (fun x=>x) b.ts)]]) (fun t=>decide (¬t∈b.ts)) ⟨HF.fn zSp (by simp;exact jg (ZU _)),_,[],_,rfl,fun x _=>⟨_,.zs (.zk (jg (ZU _)) .nil),by have:=qkH (fun x=>x) b.ts x;simp only[(mq b.ts x).2]at this;exact this⟩⟩ o;have I:WKs [eRel b,.fn (.func 157) [] []] [eRel b,.fn (.func 157) [] []] := .zk (qY b) (.zk (HF.fn zSp zSp) .nil);have g:=ZU (cntK (fun x=>x) b.ts);have i:(imC (cntK (fun x=>x) b.ts)).cells=[imC (cntK (fun x=>x) b.ts)]:=rfl;have j:(imC (cntK (fun x=>x) b.ts)).one=true:=rfl;generalize imC (cntK (fun x=>x) b.ts)=B at *
 have l:WKs [lI a.ts,.fn (.func 159) [] [.ip [B]]] [lI a.ts,.fn (.func 159) [] [.ip [B]]] := .zk (zh _) (.zk (HF.fn zSp (by simp;exact jg g)) .nil);simp[go_sem];refine cQ r I ?_;simp[go_sem,i,j];refine qj.fz (FzQ.one (d:=5) (b:=1) (x := .ip [B]) (Rd.ip1 rfl (.hf _ g)) ?_);simp[go_sem,cutM];refine fM ?_;refine fR C l ?_;have e:diR a b=⟨a.ar,a.ts.filter fun t=>!decide (t∈b.ts)⟩:=by simp[diR]
 have h:=qY (diR a b);rw[e]at h⊢;exact .hf _ h
theorem inU(a b)(g:a.ts.length<=1000000)(i:b.ts.length<=1000000):qi qe 59 [eRel a,eRel b] (aB (decide ((diR a b).ts=[]))):=by
 refine qSU call59 func59 rfl ?_;refine fR (mr a b g i) (.zk (qY a) (.zk (qY b) .nil)) ?_;exact .zsc _
end ER
namespace E2
open E1
section
variable {a:Int}
theorem Yv{n k}(g:0<=k)(i:k<=3):powI n k=n ^ k.toNat:=by
 grind [powI,powN]
theorem wt{n i j}(g:0<=i)(l:0<=j)(h:i+j<=3):powI n (i+j)=powI n i*powI n j:=by
 rw[Yv zOm h,Yv g zOm,Yv l zOm,<-Int.pow_add];congr 1;omega
theorem uO(n):powI n 1=n:=by rw[Yv zOm zOm];exact Int.pow_succ n 0 ▸ by simp
theorem qkI{n}(h:0<=n)(k):0<=powI n k:=Int.pow_nonneg h
theorem JY{u v m}(g:0<=u)(j:u<a)(l:0<=v)(o:v<m):0<=u*m+v/\u*m+v<a*m:=by
 have p:0<=u*m:=Int.mul_nonneg g zOm;have i:(u+1)*m<=a*m:=Int.mul_le_mul_of_nonneg_right zOm zOm;rw[Int.add_mul,Int.one_mul]at i;omega
theorem aG{n}(p:0<=n){a b}(i:GR n a)(g:GR n b)(h:a.ar+b.ar<=3):GR n (prR n a b):=by
 have T:=i.ar1;have U:=g.ar1;refine⟨by show 1<=a.ar+b.ar;omega,h,fun t o=>?_,?_⟩
 .obtain ⟨s,j,o⟩:=wQ.1 o
  obtain⟨u,l,rfl⟩:=qn.1 o;show 0<=s*powI n b.ar+u/\s*powI n b.ar+u<powI n (a.ar+b.ar);rw[wt zOm zOm h];exact JY (i.val s j).1 (i.val s j).2 (g.val u l).1 (g.val u l).2
 .unfold sorted
  show (a.ts.flatMap fun s=>b.ts.map fun t=>s*powI n b.ar+t).Pairwise (·<·);rw[List.pairwise_flatMap];refine⟨fun s j=>?_,?_⟩
  .rw [List.pairwise_map]
   exact List.Pairwise.imp (fun h=>zOm) g.srt
  .refine List.Pairwise.imp_of_mem (fun {s r} j C h x I y J=>?_) i.srt
   obtain⟨u,l,rfl⟩:=qn.1 I;obtain⟨v,P,rfl⟩:=qn.1 J;have e1:=g.val u l;have e2:=g.val v P;have R:(s+1)*powI n b.ar<=r * powI n b.ar:=Int.mul_le_mul_of_nonneg_right zOm (qkI p _);rw[Int.add_mul,Int.one_mul]at R;omega
theorem GR.ofL{n g l}(i:1<=g)(j:g<=3)(h:∀ t,t∈l->0<=t/\t<powI n g):GR n ⟨g,ofL l⟩:=by
 obtain⟨s1,o⟩:=ZR l;exact⟨i,j,fun t p=>h t ((o t).1 p),s1⟩
theorem GR.join{n}(I:0<=n){a b}(g:GR n a)(l:GR n b)(J:1<=a.ar+b.ar-2)(P:a.ar+b.ar-2<=3):GR n (joR n a b):=by
 have a1:=g.ar1;have b1:=l.ar1;have a3:=g.ar3;have b3:=l.ar3;refine GR.ofL J P fun t o=>?_
 obtain⟨s,R,o⟩:=wQ.1 o;obtain⟨u,p,rfl⟩:=qn.1 o;have p:=(jM.1 p).1;obtain⟨T,s1⟩:=g.val s R;obtain⟨u0,u1⟩:=l.val u p;have r:powI n a.ar=powI n (a.ar-1)*n:=by
  have:=wt (n:=n) (i:=a.ar-1) (j:=1) zOm zOm zOm
  grind [uO]
 have eb:powI n b.ar=powI n (b.ar-1)*n:=by
  have:=wt (n:=n) (i:=b.ar-1) (j:=1) zOm zOm zOm
  grind [uO]
 have C:0<n:=by
  rcases Int.lt_or_eq_of_le I with h|h
  .exact h
  .exfalso;rw[<-h]at r;rw[Int.mul_zero]at r;grind
 have U:0<powI n (b.ar-1):=Int.pow_pos C;have hd:s / n<powI n (a.ar-1):=Int.ediv_lt_of_lt_mul C zOm;rw[show a.ar+b.ar-2=(a.ar-1)+(b.ar-1) by omega,wt zOm zOm zOm];exact JY (Int.ediv_nonneg T zOm) hd (Int.emod_nonneg _ zOm) (Int.emod_lt_of_pos _ U)
theorem GR.trans{n}(o:0<=n){a}(p:GR n a)(h:a.ar=2):GR n (trR n a):=by
 have g:powI n 2=n*n:=by
  have:=wt (n:=n) (i:=1) (j:=1) zOm zOm zOm;rw[uO]at this;exact this
 refine GR.ofL zOm zOm fun t r=>?_
 obtain⟨s,C,rfl⟩:=qn.1 r;obtain⟨I,s1⟩:=p.val s C;rw[h,g]at s1;have l:0<n:=by
  rcases Int.lt_or_eq_of_le o with h|h
  .exact h
  .exfalso;rw[<-h,Int.mul_zero]at s1;omega
 rw[g];exact JY (Int.emod_nonneg _ zOm) (Int.emod_lt_of_pos _ l) (Int.ediv_nonneg I zOm) (Int.ediv_lt_of_lt_mul l s1)
theorem aR{n}(i:0<=n):∀(f){c},GR n c->c.ar=2->GR n (clR n f c)/\(clR n f c).ar=2
 | 0,c,g,h=>⟨g,h⟩
 |f+1,c,g,h=>by
  rw[clR];split
  .exact ⟨g,h⟩
  .have j:=GR.join i g g zOm zOm
   have l:=aC g j (by show c.ar=c.ar+c.ar-2;omega);exact aR i f l h
theorem aW{n a b}(g:GR n a)(i:GR n b)(e:a.ar=b.ar):GR n (ovR n a b):=aC i (g.filter _) (by grind)
theorem aX{n}(g:0<=n):GR n (idR n):=by
 have l:powI n 2=n*n:=by
  have:=wt (n:=n) (i:=1) (j:=1) zOm zOm zOm;rw[uO]at this;exact this
 refine⟨by show (1:Int)<=2;omega,by show (2:Int)<=3;omega,fun t o=>?_,?_⟩
 .obtain ⟨k,p,rfl⟩:=qn.1 o
  rw[yb]at p;show _/\_<powI n 2;rw[l];exact JY zOm zOm zOm zOm
 .show ((qu n.toNat).map fun x:Nat=>(x:Int)*n+x).Pairwise (·<·)
  rw[List.pairwise_map];refine List.Pairwise.imp (fun {x y} h=>?_) List.pairwise_lt_range;have:=Int.mul_le_mul_of_nonneg_right (a:=(x:Int)) (b:=y) (c:=n) zOm g;omega
theorem GR.nil{n g}(i:1<=g)(j:g<=3):GR n ⟨g,[]⟩:=⟨i,j,fun t l=>absurd l qH,qjS⟩
theorem GR.one{n}(g:0<=a)(i:a<n):GR n ⟨1,[a]⟩:=
 ⟨by grind,by grind,fun t j=>by grind [qV,powI,uO],List.pairwise_singleton _ _⟩
theorem GR.run{n}(m:Nat)(j:0<=a)(l:a+m<=n):GR n ⟨1,(qu m).map fun k:Nat=>a+k⟩:=by
 refine⟨by grind,by grind,fun t g=>?_,?_⟩
 .obtain ⟨k,i,rfl⟩:=qn.1 g
  rw[yb]at i;show _/\_<powI n 1;rw[uO];omega
 .show ((qu m).map fun k:Nat=>a+k).Pairwise (·<·)
  rw[List.pairwise_map];exact List.Pairwise.imp (fun {x y} h=>zOm) List.pairwise_lt_range
theorem GR.sN{n}(g:0<=n)(m:Nat)(r:0<=a)(C:a+m+1<=n):GR n ⟨2,(qu m).map fun k:Nat=>(a+k)*n+(a+k+1)⟩:=by
 have l:powI n 2=n*n:=by
  have:=wt (n:=n) (i:=1) (j:=1) zOm zOm zOm;rw[uO]at this;exact this
 refine⟨by grind,by grind,fun t o=>?_,?_⟩
 .obtain ⟨k,p,rfl⟩:=qn.1 o
  rw[yb]at p;show _/\_<powI n 2;rw[l];exact JY zOm zOm zOm zOm
 .show ((qu m).map fun k:Nat=>(a+k)*n+(a+k+1)).Pairwise (·<·)
  rw[List.pairwise_map];refine List.Pairwise.imp (fun {x y} h=>?_) List.pairwise_lt_range;have:=Int.mul_le_mul_of_nonneg_right (a:=a+(x:Int)) (b:=a+y) (c:=n) zOm g;omega
end
end E2
namespace ET
open E1 E2 E3 EL EO EP EQ ER
section
variable {mu:Mu}
theorem XW(n)(g:0<=n)(i:n<=20)(k)(j:0<=k)(l:k<=3):qi qe 104 [aI n,aI k] (aI (powI n k)):=by
 grind [n6,Yv]
def RelM(mu:Mu)(g:Int)(l:List Int):Prop:=∃ t,mu[0]?=some (.arr [aI 0,.lst true []])/\mu[1]?=some (.arr [aI g,t])/\OwnI mu t l/\qo t≠some 0/\qo t≠some 1
theorem RelM.step{mu' j av g l}(I:mu[0]?=some (.arr [aI 0,.lst true []]))(o:mu[1]?=some (.arr [aI j,av]))(J:qo av≠some 0)(P:qo av≠some 1)(p:OwnI mu' g l)
  (R:∀ i,i<mu.length->qo av≠some i->mu'[i]?=mu[i]?) (T:mu.length<=mu'.length) (U:∀ b,qo g=some b->b=mu.length):mu'[1]?=some (.arr [aI j,av])/\RelM (mu'.set 1 (.arr [aI j,g])) j l:=by
 have l1:1<mu.length:=(qk.1 o).1;have r:qo g≠some 0:=fun e=>by grind
 have t:qo g≠some 1:=fun e=>by grind
 refine⟨by grind,g,by grind,by grind,p.same fun b C=>?_,r,t⟩
 grind
theorem qkJ(m x y s):prL m (x++[s]) y=prL m x y++y.map fun t=>s*m+t:=by simp[prL]
theorem XX{a m x y:Int}(i:0<=a)(j:a<=x)(g:0<=m)(l:m<=y)(o:0<=x):0<=a*m/\a*m<=x*y:=⟨Int.mul_nonneg i g,jE j l g o⟩
theorem Yw{r e x}(h:Rd mu x (eRel r)):Rd mu (.tup [x,aI e]) (.tup [eRel r,aI e]):=by
 refine .tup _ _ rfl fun k u v g i=>?_
 match k with
 | 0=>grind
 | 1=>simp at g i;subst g;subst i;exact .zsc _
 |k+2=>simp at g
theorem Yx{g}:Rd mu (.agg [aI g,.lst true []]) (eRel ⟨g,[]⟩):=aD (.inl ⟨rfl,rfl⟩)
theorem qkK(m x y):(prL m x y).length=x.length*y.length:=by
 induction x with
 |nil=>simp[prL]
 |cons s x g=>simp only[prL,wP,za,zF,zu]at g⊢;rw[g,Nat.add_mul];omega
theorem Xz(n)(T:0<=n)(a8:n<=12)(a b)(ha:GR n a)(R:GR n b):qi qe 216 [aI n,eRel a,eRel b] (match Zj n a b with | .ok r => .tup [eRel r,aI 0] | .error e => .tup [eRel ⟨0,[]⟩,aI e]):=by
 refine qSV call216 func216 rfl ?_;have a1:=ha.ar1;have a3:=ha.ar3;have b1:=R.ar1;have b3:=R.ar3;have la:=ha.len T zOm;have lb:=R.len T zOm;have w0:qp.wrap (a.ar+b.ar)=a.ar+b.ar:=zWr;unfold Zj;by_cases hc:a.ar+b.ar<=3
 .have hn:¬(3:Int)<a.ar+b.ar:=by omega
  obtain⟨p0,p1⟩:=Qg (k:=b.ar) T (by omega:n<=20);rw[if_pos hc];simp[go_sem,w0,hn];refine fR (XW n T zOm b.ar zOm b3) (.zs (.zs .nil)) ?_;generalize hM:powI n b.ar=M at *
  have g:∀ i j,i<a.ts.length->j<=b.ts.length->(prL M (a.ts.take i) b.ts++(b.ts.take j).map fun t=>a.ts.getD i 0*M+t).length<=64000000:=fun i j hi hj=>by
   rw[za,qkK,zF,vR,vR];have:(min i a.ts.length)*b.ts.length<=7999*8000:=Nat.mul_le_mul zOm lb;omega
  refine kL a.ts.length (fun i U=>U.tm 5 = .ip (cRel b)/\U.tm 6 = .ptr 0 0/\U.tm 8 = .ptr 1 0/\U.tm 9=aI M/\U.tm 32=lI a.ts/\U.tm 33=aI a.ts.length/\U.tm 34=aI i/\RelM U.mu (a.ar+b.ar) (prL M (a.ts.take i) b.ts)) ?_ ?_
  .refine ⟨zSi,zSi,zSi,zSi,zSi,zSi,zSi,.lst true [],zSi,zSi,.inl ⟨rfl,by simp[prL]⟩,by simp[qo],by simp[qo]⟩
  rintro i U hi ⟨e5,e6,e8,e9,a0,p,C,hr⟩;by_cases o:i<a.ts.length
  .have w1:=zWk i
   obtain⟨v0,v1⟩:=ha.val _ (qs o);obtain⟨q0,q1⟩:=Qg (k:=a.ar) T (by omega:n<=20);obtain⟨m0,m1⟩:=XX (x:=8000) (y:=8000) v0 zOm p0 p1 zOm;have a4:a.ts.getD i 0=a.ts[i]:=by rw[zG,qA o];rfl
   have g:=g i;rw[a4]at g;simp[go_sem,e5,a0,p,C,o];refine kL b.ts.length (fun j U=>U.tm 5 = .ip (cRel b)/\U.tm 6 = .ptr 0 0/\U.tm 8 = .ptr 1 0/\U.tm 9=aI M/\U.tm 11=aI a.ts[i]/\U.tm 32=lI a.ts/\U.tm 33=aI a.ts.length/\U.tm 34=aI i/\U.tm 39=lI b.ts/\U.tm 40=aI b.ts.length/\U.tm 41=aI j/\RelM U.mu (a.ar+b.ar) (prL M (a.ts.take i) b.ts++(b.ts.take j).map fun t=>a.ts[i] * M+t)) ?_ ?_
   .refine ⟨zS1 e5,zS1 e6,zS1 e8,zS1 e9,zSi,zS1 a0,zS1 p,zS1 C,zSi,zSi,zSi,zVs hr⟩
   rintro j U hj ⟨f5,f6,f8,f9,f11,f32,f33,f34,f39,f40,f41,av,g0,g1,I,n0,n1⟩;by_cases l:j<b.ts.length
   .have w2:=zWk j
    obtain⟨u0,u1⟩:=R.val _ (qs l);rw[hM]at u1;have w3:qp.wrap (a.ts[i] * M)=a.ts[i] * M:=zWr;have w4:qp.wrap (a.ts[i] * M+b.ts[j])=a.ts[i] * M+b.ts[j]:=zWr;simp[go_sem,f8,f9,f11,f39,f40,f41,l,g1,w3,w4];refine aN (e:=3) (bt:=8) (z:=0) zSi zSi zSi zOm I.v (by have:=g j o (by omega);omega) ?_;intro a9 aa J a5 a6 a7;obtain⟨k1,k2⟩:=RelM.step g0 g1 n0 n1 J a5 a6 a7;simp[go_sem,f8,f41,k1,J.v.one,J.v.cells,w2];refine⟨l,aK ⟨zS1 f5,zS1 f6,zS1 f8,zS1 f9,zS1 f11,by simp[go_sem,f32],by simp[go_sem,f33],by simp[go_sem,f34],zS1 f39,by simp[go_sem,f40],zSi,?_⟩⟩;rw[yj l,zb,<-zt];exact k2
   .have P:j=b.ts.length:=by omega
    subst P;simp[go_sem,f34,f40,f41,w1];refine⟨o,aK ⟨zS1 f5,zS1 f6,zS1 f8,zS1 f9,by simp[go_sem,f32],by simp[go_sem,f33],zSi,?_⟩⟩;rw[yj o,qkJ];rw[qP]at I;exact⟨av,g0,g1,I,n0,n1⟩
  .have P:i=a.ts.length:=by omega
   subst P;obtain⟨av,g0,g1,I,n0,n1⟩:=hr;rw[qP]at I;have a2:∀ c,(U.mu.set 0 c)[0]?=some c:=fun c=>qM (qk.1 g0).1
   simp[go_sem,e6,e8,p,C,g0,g1,a2,I.v.one];refine Yw (r:=prR n a b) ?_;unfold prR;rw[hM];refine aD (I.v.same fun b R=>?_);rw[yF (fun e=>n0 (by rw[e];exact R))]
 simp_all[go_sem,if_neg,Yw,Yx]
theorem qkL(n)(J:0<=n)(o:n<=12)(a)(ha:GR n a)(h2:a.ar=2):qi qe 217 [aI n,eRel a] (eRel (trR n a)):=by
 refine qSV call217 func217 rfl ?_;have hl:=ha.len J zOm;have e2:powI n 2=n*n:=by
  have:=wt (n:=n) (i:=1) (j:=1) zOm zOm zOm;rw[uO]at this;exact this
 have a8:n*n<=12*12:=jE o o J zOm;simp[go_sem,show (a.ts.length:Int)<=4294967296 by omega];refine kL a.ts.length (fun k U=>U.tm 0=aI n/\U.tm 4 = .ptr 0 0/\U.tm 5 = .sl 1 1 0 a.ts.length/\U.tm 13=lI a.ts/\U.tm 14=aI a.ts.length/\U.tm 15=aI k/\U.mu=[.arr [aI 0,.lst true []],.arr ((((a.ts.take k).map fun t=>t % n*n+t / n)++qO (a.ts.length-k) 0).map aI)]) ?_ ?_
 .simp [go_sem]
 rintro k U hk ⟨e0,e4,T,P,p,I,hm⟩;by_cases l:k<a.ts.length
 .have w1:=zWk k
  obtain⟨v0,v1⟩:=ha.val _ (qs l);rw[h2,e2]at v1;have hn:0<n:=by
   rcases Int.lt_or_eq_of_le J with h|h
   .exact h
   .exfalso;rw[<-h,Int.mul_zero]at v1;omega
  have a9:0<=a.ts[k] / n:=Int.ediv_nonneg v0 J;have aa:a.ts[k] / n<n:=Int.ediv_lt_of_lt_mul hn v1;have a0:0<=a.ts[k] % n:=Int.emod_nonneg _ zOm;have ab:a.ts[k] % n<n:=Int.emod_lt_of_pos _ hn;obtain⟨m0,m1⟩:=XX (x:=12) (y:=12) a0 zOm J o zOm;have d1:a.ts[k].tdiv n=a.ts[k] / n:=Int.tdiv_eq_ediv_of_nonneg v0;have d2:a.ts[k].tmod n=a.ts[k] % n:=u3 v0;have w2:qp.wrap (a.ts[k] / n)=a.ts[k] / n:=zWr;have w3:qp.wrap (a.ts[k] % n*n)=a.ts[k] % n*n:=zWr;have w4:qp.wrap (a.ts[k] % n*n+a.ts[k] / n)=a.ts[k] % n*n+a.ts[k] / n:=zWr;have a1:¬n=0:=zOm;have a6:qO (a.ts.length-k) (0:Int)=0 :: qO (a.ts.length-(k+1)) 0:=by
   rw[<-List.replicate_succ];congr 1;omega
  have g:∀ v:Int,((((a.ts.take k).map fun t=>t % n*n+t / n)++qO (a.ts.length-k) 0).map aI).set k (aI v)=(((a.ts.take k).map fun t=>t % n*n+t / n)++v :: qO (a.ts.length-(k+1)) 0).map aI:=fun v=>by
   simp_all
  have R:((((a.ts.take k).map fun t=>t % n*n+t / n)++qO (a.ts.length-k) 0).map aI).length=a.ts.length:=zSo;generalize hC:(((a.ts.take k).map fun t=>t % n*n+t / n)++qO (a.ts.length-k) 0).map aI=C at *
  simp[go_sem,P,p,I,hm,l];refine cH zKr ?_;simp[go_sem,e0,T,I,l,a1,d1,d2,w2,w3,w4,g,R,show k+1<=a.ts.length by omega,w1];refine aK ⟨zS1 e0,zS1 e4,zS1 T,zS1 P,zS1 p,zSi,?_⟩;simp only[qC];have e:(((a.ts.take (k+1)).map fun t=>t % n*n+t / n)++qO (a.ts.length-(k+1)) 0).map aI=(((a.ts.take k).map fun t=>t % n*n+t / n)++(a.ts[k] % n*n+a.ts[k] / n) :: qO (a.ts.length-(k+1)) 0).map aI:=by
   rw[yj l,zb (l₂:=[a.ts[k]]),zt];rfl
  rw[e];simp
 .have a2:k=a.ts.length:=by omega
  subst a2;rw[qP,Nat.sub_self,List.replicate_zero,zO]at hm;generalize hL:a.ts.map (fun t=>t % n*n+t / n)=L at *
  have a3:L.length=a.ts.length:=by rw[<-hL];simp
  simp only[p,I,hm,go_sem];have hs:=XS [.arr [aI 0,.lst true []],.arr (L.map aI)] 2 (.sl 1 1 0 a.ts.length) L zOm (.inr ⟨1,by rw[a3],rfl⟩);simp[go_sem,T];refine fQ hs ?_ ?_
  .rintro r m ⟨x,h,ho,a4,ad,a5⟩
   cases h;have g0:=a4 0 zSp (by simp[qo]);have g:∀ c,(m.set 0 c)[0]?=some c:=fun c=>qM (qk.1 g0).1
   simp at g0;have hx:qo x≠some 0:=fun h=>by have:=a5 _ h;simp[qo]at this
   simp[go_sem,e4,g0,g,ho.one];unfold trR;rw[hL];refine aD (ho.same fun b hb=>?_);rw[yF (fun e=>hx (by rw[e];exact hb))]
  .rintro r m ⟨x,h,_⟩
   cases h
end
end ET
namespace EW
open EO EP EQ ER ET
inductive TagM (p:Mu->Prop):Type where
 |mk:TagM p
def vf(p:Mu->Prop)(_:TagM p)(mu:Mu):Prop:=p mu
theorem tT{p mu}(h:p mu):vf p .mk mu:=h
theorem tK{P pl l caps ps g body Q st rows}(j:jd P l caps rows)(I:Nat->Mu->Prop)(i:qX->Mu->Prop)
  (o:I 0 (st.mu++[.dead])) (p:∀ k mu,I k mu->I k (mu++[.dead])) (r:∀ e mu,i e mu->i e (mu++[.dead]))
  (t:∀ k x mu,rows[k]?=some x->I k mu->x.length=ps.size/\awp P pl g (asQ (fun st=>awp P pl body (rndQ (fun k=>vf (I k) .mk) (fun e=>vf (i e) .mk) k) st)) ⟨uH st.tm ps.toList x,mu⟩)
  (C:∀ mu,I rows.length mu->Q .normal ⟨st.tm,mu⟩) (J:∀ e mu,i e mu->Q e ⟨st.tm,mu⟩):vu P pl (.fn (.func l) [] caps) ps g body Q st:=
 cV j I i o p r t C J
abbrev tupCl(sc:Sc)(p:Int)(l:List Int):AV := .fn (.func 160) [] [.ip [lI l],.ip [aI p],.ip [lI sc.sC,aI sc.sN]]
theorem mv(sc p l):qi qe 106 [eSc sc,aI p,lI l] (tupCl sc p l):=by
 refine qSU call106 func106 rfl ?_;refine .hf _ (HF.fn (fun c g=>by simp at g) (fun c g=>?_));simp at g;rcases g with rfl|rfl|rfl
 .exact jg (zh _)
 .exact jg (HF.sc _)
 .exact HF.ip fun c g=>by simp at g;rcases g with rfl|rfl<;>first|exact zh _|exact HF.sc _
def tupR(sc:Sc):List Int->Int->List Int
 | [],p=>[p]
 |s :: l,p=>(qu (gI sc.sC s.toNat).toNat).flatMap fun k:Nat=>tupR sc l (p*sumI sc.sC+(sumI (sc.sC.take s.toNat)+k))
@[go_sem] theorem yl_cells(i):(AV.yl i).cells=[.yl i]:=rfl
@[go_sem] theorem yl_one(i):(AV.yl i).one=true:=rfl
theorem qkM(sc:Sc)(p):jd qe 160 [.ip [lI []],.ip [aI p],.ip [lI sc.sC,aI sc.sN]] [[aI p]]:=by
 refine jd.of call160 fun i I l o r g C j=>?_
 refine qSW call160 func160 rfl {} ?_;simp[go_sem];refine qh.yield (g 0 [aI p] C rfl j) ?_;simp_all[go_sem]
theorem qkN{i r}(h:i<r):∃ l,qu r=qu i++i :: l:=by
 refine⟨(qu r).drop (i+1),?_⟩;apply List.ext_getElem?;intro j;by_cases g:j<i
 .rw [qN (zUs g),wR g,wR zOm]
 .rw [zJ zSo,List.length_range]
  by_cases e:j=i
  .subst e;simp[h]
  .obtain ⟨d,o⟩:∃ d,j-i=d+1:=⟨j-i-1,zOm⟩
   rw[o,List.getElem?_cons_succ,ug];congr 1;omega
theorem qkO{J:Type}(f){N k j}{x:J}(g:k<N)(h:(f k)[j]?=some x):((qu N).flatMap f)[((qu k).flatMap f).length+j]?=some x:=by
 obtain⟨l,e⟩:=qkN g;rw[e,List.flatMap_append,zJ zOm,Nat.add_sub_cancel_left,wP,qN (qk.1 h).1];exact h
theorem JZ{J:Type}(f:Nat->List J)(k):(qu (k+1)).flatMap f=(qu k).flatMap f++f k:=by
 rw[List.range_succ,List.flatMap_append];simp
theorem qkP(sc)(g:GSc sc)(hA:∀ a,a∈sc.sC->0<=a)(s)(J:s<sc.sC.length)(l)(hl:l.length<=10)(p)(hp:0<=p/\p<=1000000)
  (ih:∀ k,k<(gI sc.sC s).toNat->jd qe 160 [.ip [lI l],.ip [aI (p*sumI sc.sC+(sumI (sc.sC.take s)+k))],.ip [lI sc.sC,aI sc.sN]] ((tupR sc l (p*sumI sc.sC+(sumI (sc.sC.take s)+k))).map fun t=>[aI t])) :
  jd qe 160 [.ip [lI (s :: l)],.ip [aI p],.ip [lI sc.sC,aI sc.sN]] ((tupR sc (s :: l) p).map fun t=>[aI t]):=by
 refine jd.of call160 fun i I Ix hS hX hY C h0=>?_
 refine qSW call160 func160 rfl {} ?_;have hz:¬(l.length:Int)+1=0:=zOm;have a0:=qj3 sc g s zOm;have a1:WKs [eSc sc,aI s] [eSc sc,aI s] := .zk (zr sc) (.zs .nil);obtain⟨s0,s1⟩:=g.sum s;obtain⟨t0,t1⟩:=g.sum sc.sC.length;rw[qP]at t0 t1;have a2:gI sc.sC s=sc.sC[s]:=uI J;have af:=hA _ (qs J);obtain⟨u0,u1⟩:=g.sum (s+1);rw[uJ _ _ J]at u1;have a3:=Yu sc g;have a4:WKs [eSc sc] [eSc sc] := .zk (zr sc) .nil;have o:tupR sc (s :: l) p=(qu (sc.sC[s]).toNat).flatMap fun k:Nat=>tupR sc l (p*sumI sc.sC+(sumI (sc.sC.take s)+k)):=by
  simp_all[tupR]
 rw[a2]at ih;obtain⟨m0,m1⟩:0<=p*sumI sc.sC/\p*sumI sc.sC<=1000000*20:=⟨Int.mul_nonneg hp.1 t0,jE hp.2 t1 t0 zOm⟩;have w2:qp.wrap (p*sumI sc.sC)=p*sumI sc.sC:=zWr;have w3:qp.wrap (sumI (sc.sC.take s)+sc.sC[s])=sumI (sc.sC.take s)+sc.sC[s]:=zWr;generalize hF:(fun k:Nat=>tupR sc l (p*sumI sc.sC+(sumI (sc.sC.take s)+k)))=F at *
 have a5:∀ k:Nat,tupR sc l (p*sumI sc.sC+(sumI (sc.sC.take s)+k))=F k:=fun k=>by rw[<-hF]
 simp only[a5]at ih;simp[go_sem,hz];refine fM ?_;refine cQ a0 a1 ?_;generalize hn:sumI sc.sC=n at *
 generalize hf:sumI (sc.sC.take s)=f at *
 simp[go_sem];refine cZ (fun m U=>∃ k,m=(sc.sC[s]).toNat-k/\k<=(sc.sC[s]).toNat/\U.tm 1 = .ip [lI (s :: l)]/\U.tm 2 = .ip [aI p]/\U.tm 3 = .ip [lI sc.sC,aI sc.sN]/\U.tm 4 = .ip [.yl i]/\U.tm 5=aI f/\U.tm 6=aI (f+(k:Nat))/\I ((qu k).flatMap F).length U.mu) (sc.sC[s]).toNat ?_ ?_
 .exact ⟨0,zOm,zOm,zSi,zSi,zSi,zSi,zSi,zSi,zVs h0⟩
 rintro m U ⟨k,rfl,hk,T,e2,e3,e4,e5,e6,hI⟩;simp[go_sem];refine cH zKr ?_;by_cases P:k<(sc.sC[s]).toNat
 .have hb:f+(k:Int)<f+sc.sC[s]:=by omega
  have w4:qp.wrap (p*n+(f+k))=p*n+(f+k):=zWr;have w5:qp.wrap (f+(k:Int)+1)=f+((k+1:Nat):Int):=by rw[zWr];omega
  have R:WKs [eSc sc,aI (p*n+(f+k)),.lst false (l.map rI)] [eSc sc,aI (p*n+(f+k)),lI l] := .zk (zr sc) (.zs (.zk (zh l) .nil));have a6:=mv sc (p*n+(f+k)) l;simp[go_sem,T,e3,e5,e6,J,w3,hb];refine cH zKr ?_;simp[go_sem,e2,e3];refine cQ a3 a4 ?_;have a7:(1:Int)<=l.length+1:=zOm;have a8:List.take l.length (l.map rI)=l.map rI:=zV zSp;simp[go_sem,T,e6,w2,w4,a7,a8];refine⟨⟨_,_,⟨rfl,rfl⟩,(yv (s :: l)).ok⟩,?_⟩;refine fR a6 R ?_;refine tK (ih k P) (fun j M=>I (((qu k).flatMap F).length+j) M) (fun e M=>e = .ret/\Ix M) ?_ ?_ ?_ ?_ ?_ ?_
  .simpa [go_sem] using hS _ _ hI
  .intro j M h;exact hS _ _ h
  .rintro e M ⟨h1,h2⟩;exact⟨h1,hX _ h2⟩
  .rintro j x M hj a9
   rw[zj,jN]at hj;obtain⟨t,ht,rfl⟩:=hj;have r:(((qu (sc.sC[s]).toNat).flatMap F).map fun t=>[aI t])[((qu k).flatMap F).length+j]?=some [aI t]:=by
    rw[zj,qkO F P ht];rfl
   rw[<-o]at r;refine⟨rfl,?_⟩;simp[go_sem,e4];refine qh.yield (hY _ _ _ r a9) ?_;rintro b ag (⟨rfl,aa⟩|⟨rfl,ab⟩)
   .simp [go_sem]
    exact tT aa
   .simp [go_sem]
    exact tT ⟨rfl,ab⟩
  .rintro M ad
   simp[go_sem,e6,w5];refine Keep.loop ((sc.sC[s]).toNat-(k+1)) zOm ⟨k+1,rfl,zOm,zS1 T,zS1 e2,zS1 e3,zS1 e4,zS1 e5,zSi,?_⟩;rw[JZ,za];simpa[go_sem] using ad
  .rintro e M ⟨rfl,h2⟩
   simp[go_sem];exact .inr h2
 .have ae:k=(sc.sC[s]).toNat:=by omega
  have hb:¬f+(k:Int)<f+sc.sC[s]:=zOm;simp[go_sem,T,e3,e5,e6,J,w3,hb];rw[o,<-ae];exact .inl hI
def bdT:Nat->Int
 | 0=>1000000000
 | 1=>1000000
 | 2=>40000
 |_=>1000
theorem mw(d)(i:d<3){p q n}(j:0<=p)(l:p<=bdT (d+1))(g:0<=n)(o:n<=20)(r:0<=q)(t:q<=20):0<=p*n+q/\p*n+q<=bdT d/\p<=1000000:=by
 have a:0<=p*n:=Int.mul_nonneg j g;have b:p*n<=bdT (d+1)*20:=jE l o g zOm
 match d,i with
 | 0,_=>grind [bdT]
 | 1,_=>grind [bdT]
 | 2,_=>grind [bdT]
def OkS(sc:Sc)(l:List Int):Prop:=∀ s,s∈l->0<=s/\s<sc.sC.length
theorem my(sc)(g:GSc sc)(C:∀ a,a∈sc.sC->0<=a):∀ l,OkS sc l->l.length<=3->∀ p,0<=p->p<=bdT l.length->jd qe 160 [.ip [lI l],.ip [aI p],.ip [lI sc.sC,aI sc.sN]] ((tupR sc l p).map fun t=>[aI t])
 | [],_,_,p,_,_=>qkM sc p
 |s :: l,i,I,p,j,o=>by
  obtain⟨n,rfl⟩:∃ n:Nat,s=n:=⟨s.toNat,zW1 ((i s zSp).1)⟩;have r:n<sc.sC.length:=zW1 ((i n zSp).2);simp only[zu]at I o;obtain⟨t0,t1⟩:=g.sum sc.sC.length;rw[qP]at t0 t1;refine qkP sc g C n r l zOm p ⟨j,(mw l.length zOm j o t0 t1 (q:=0) zOm zOm).2.2⟩ fun k J=>?_
  obtain⟨u0,P⟩:=g.sum (n+1);rw[uJ _ _ r]at P;rw[uI r]at J;obtain⟨s0,s1⟩:=g.sum n;obtain⟨R,T,_⟩:=mw l.length zOm j o t0 t1 (q:=sumI (sc.sC.take n)+k) zOm zOm;exact my sc g C l (fun x U=>i x (zP1 U)) zOm _ R T
theorem XY(sc)(g:GSc sc)(o:∀ a,a∈sc.sC->0<=a):∀ l,OkS sc l->∀ p,(tupR sc l p).length<=20 ^ l.length
 | [],_,p=>by simp[tupR]
 |s :: l,i,p=>by
  obtain⟨n,rfl⟩:∃ n:Nat,s=n:=⟨s.toNat,zW1 ((i s zSp).1)⟩;have j:n<sc.sC.length:=zW1 ((i n zSp).2);obtain⟨J,r⟩:=g.sum (n+1);obtain⟨P,s1⟩:=g.sum n;rw[uJ _ _ j]at r;have t:=XY sc g o l (fun x C=>i x (zP1 C));rw[tupR,show (n:Int).toNat=n by omega,uI j];have key:∀ m:Nat,((qu m).flatMap fun k:Nat=>tupR sc l (p*sumI sc.sC+(sumI (sc.sC.take n)+k))).length<=m*20 ^ l.length:=by
   intro m;induction m with
   |zero=>simp
   |succ m I =>
    rw[JZ,za,Nat.succ_mul];have:=t (p*sumI sc.sC+(sumI (sc.sC.take n)+m));omega
  refine zL (key _) ?_;rw[zu,Nat.pow_succ,Nat.mul_comm];exact Nat.mul_le_mul_left _ zOm
theorem UA(n a b):qi qe 100 [aI n,aI a,aI b] (aB (decide (a<=n)&&decide (n<=b))):=by
 refine qSV call100 func100 rfl ?_;by_cases g:a<=n
 .simp [go_sem,g]
  exact .zsc _
 .simp [go_sem,g]
  exact .zsc _
theorem wk3I(a b c):WKs [aI a,aI b,aI c] [aI a,aI b,aI c] := .zs (.zs (.zs .nil))
theorem XZ(sc)(g:GSc sc)(hA:∀ a,a∈sc.sC->0<=a)(l)(T:OkS sc l)(h1:1<=l.length)(h3:l.length<=3):qi qe 60 [eSc sc,lI l] (eRel ⟨l.length,tupR sc l 0⟩):=by
 refine qSV call60 func60 rfl ?_;have b1:(1:Int)<=l.length:=zOm;have b3:(l.length:Int)<=3:=zOm;have hg:=g.1;have w1:=UA l.length 1 3;rw[decide_eq_true b1,decide_eq_true b3]at w1;simp[go_sem];refine fR w1 (wk3I _ _ _) ?_;refine kL l.length (fun k U=>U.tm 1=lI l/\U.tm 2 = .ip [lI sc.sC,aI sc.sN]/\U.tm 4 = .ptr 0 0/\U.tm 14=lI l/\U.tm 15=aI l.length/\U.tm 16=aI k/\U.mu=[.arr [aI 0,.lst true []]]) ?_ ?_
 .simp [go_sem]
 rintro k U hk ⟨e1,e2,e4,a0,p,r,hm⟩;by_cases C:k<l.length
 .have wk:=zWk k
  have wl:qp.wrap ((sc.sC.length:Int)-1)=(sc.sC.length:Int)-1:=zWr;obtain⟨q0,q1⟩:=T _ (qs C);have w2:=UA l[k] 0 ((sc.sC.length:Int)-1);rw[decide_eq_true q0,decide_eq_true (by omega:l[k]<=(sc.sC.length:Int)-1)]at w2;simp[go_sem,e2,a0,p,r,hm,C,wl];refine cQ w2 (wk3I _ _ _) ?_;simp_all[go_sem,aK]
 .have a1:k=l.length:=by omega
  subst a1;have a6:=XY sc g hA l T 0;have hp:20 ^ l.length<=8000:=by
   have:l.length=1\/l.length=2\/l.length=3:=zOm
   grind
  have a2:(0:Int)<=bdT l.length:=by
   have:l.length=1\/l.length=2\/l.length=3:=zOm
   grind [bdT]
  simp[go_sem,e1,e2,p,r,hm];refine fR (mv sc 0 l) (.zk (zr sc) (.zs (.zk (zh l) .nil))) ?_;refine tK (my sc g hA l T h3 0 zOm a2) (fun j M=>RelM M l.length ((tupR sc l 0).take j)) (fun _ _=>False) ?_ ?_ ?_ ?_ ?_ ?_
  .exact ⟨.lst true [],zSi,zSi,.inl ⟨rfl,rfl⟩,by simp[qo],by simp[qo]⟩
  .rintro j M ⟨av,I,g1,i,J,R⟩
   exact⟨av,by grind,by grind,i.same fun b hb=>by rw[qN (i.v.lt hb)],J,R⟩
  .grind
  .rintro j x M hj ⟨av,I,g1,i,J,R⟩
   rw[zj,jN]at hj;obtain⟨t,ht,rfl⟩:=hj;obtain⟨a7,a8⟩:=qk.1 ht;refine⟨rfl,?_⟩;simp[go_sem,g1];refine aN (e:=3) (bt:=8) (z:=0) zSi zSi zSi zOm i.v zSo ?_;intro a9 aa o a3 a4 a5;obtain⟨k1,k2⟩:=RelM.step I g1 J R o a3 a4 a5;simp[go_sem,k1,o.v.one,o.v.cells]
   grind [tT,yj]
  .rintro M ⟨av,I,g1,i,J,R⟩
   rw[zF,qP]at i;have P:∀ c,(M.set 0 c)[0]?=some c:=fun c=>qM (qk.1 I).1
   simp[go_sem,e4,I,g1,P,i.v.one];refine aD (i.v.same fun b hb=>?_);rw[yF (fun e=>J (by rw[e];exact hb))]
  grind
end EW
namespace EU
open E1 EO EP EQ ER ET
abbrev imG(g:List (Int×List Int)):AV := .im (encK (fun n:Int=>aI n) lI g)
abbrev matC(n m:Int)(a b:Rl):List AV:=[.ip (cRel a),.ip [imG (grpK m b.ts)],.ip [aI n],.ip [aI m]]
theorem qkQ(n m)(hm:0<m)(ad:m<=8000)(a b)(hb:∀ t,t∈b.ts->0<=t/\t<=1000000)(hl:b.ts.length<=1000000):qi qe 242 [aI n,aI m,eRel a,eRel b] (.fn (.func 264) [] (matC n m a b)):=by
 refine qSV call242 func242 rfl ?_;obtain⟨B,hB⟩:∃ B,B=AV.mp 0:=⟨_,rfl⟩;have ae:B.cells=[B]:=by rw[hB];rfl
 have af:B.one=true:=by rw[hB];rfl
 simp[go_sem];refine kL b.ts.length (fun k U=>U.tm 4 = .ip [aI n]/\U.tm 5 = .ip [aI m]/\U.tm 6 = .ip (cRel a)/\U.tm 9 = .ptr 1 0/\U.tm 14=lI b.ts/\U.tm 15=aI b.ts.length/\U.tm 16=aI k/\U.mu[1]?=some (.arr [B])/\∃ i,GrpM U.mu 0 (grpK m (b.ts.take k)) i/\∀ q v,getK q i=some v->∀ x,qo v=some x->2<=x) ?_ ?_
 .refine ⟨zSi,zSi,zSi,zSi,zSi,zSi,zSi,by simp[go_sem,hB],[],GrpM.nil zSi,fun q v h=>by simp[getK]at h⟩
 rintro k U hk ⟨e4,e5,e6,e9,a0,r,J,g1,i,hG,h2⟩;by_cases o:k<b.ts.length
 .have w1:=zWk k
  obtain⟨v0,v1⟩:=hb _ (qs o);have d1:b.ts[k].tdiv m=b.ts[k] / m:=Int.tdiv_eq_ediv_of_nonneg v0;have d2:b.ts[k].tmod m=b.ts[k] % m:=u3 v0;have q0:0<=b.ts[k] / m:=Int.ediv_nonneg v0 zOm;have q1:b.ts[k] / m<=b.ts[k]:=Int.ediv_le_self _ v0;have w2:qp.wrap (b.ts[k] / m)=b.ts[k] / m:=zWr;have a7:¬m=0:=zOm;have hs:=mf m (b.ts.take k) b.ts[k];rw[<-yj o]at hs;have a1:=hG.cur (b.ts[k] / m);have a8:=keyI.look (et:=28) (t:=337) zSi (mu:=U.mu) (m := .mp 0) (venc:=id) (es:=i) (by simp only[j7,hG.at0]) (k:=b.ts[k] / m) trivial (fun _ _=>trivial) (z := .lst true []) zSi false;have P:yu qe U.mu 337 B (aI (b.ts[k] / m)) false=some ((getK (b.ts[k] / m) i).getD (.lst true [])):=by
   rw[hB];refine Eq.trans a8 ?_;cases getK (b.ts[k] / m) i<;>rfl
  have R:=fun (j:Mu) (av:AV) (l:List Int)=>GrpM.step (mu':=j) (av:=av) (l:=l) (k:=b.ts[k] / m) hG
  have a9:∀ x,qo ((getK (b.ts[k] / m) i).getD (.lst true []))=some x->2<=x:=by
   intro x g;cases hc:getK (b.ts[k] / m) i with
   |none=>rw[hc]at g;simp[qo]at g
   |some v=>rw[hc]at g;exact h2 _ _ hc x g
  have ag:((getK (b.ts[k] / m) (grpK m (b.ts.take k))).getD []).length<=k:=by
   rw[Uy m b.ts k zOm,zF];exact zL (List.length_filter_le _ _) zSo
  simp[go_sem,a0,r,J,o];refine fD [0,1,2,3,4,5,6,7,8,9,10,11,12,13,14] [(0,0,[]),(1,0,[]),(2,0,[]),(3,0,[]),(4,0,[]),(5,0,[]),(6,0,[]),(7,0,[]),(8,0,[]),(9,0,[]),(10,0,[]),(11,0,[]),(12,0,[]),(13,1,[0,2]),(14,1,[])] zKr zKr zSi ?_;simp[go_sem,e5,e9,g1,a7,d1,d2,w2,P];refine aN (e:=3) (bt:=8) (z:=0) (l:=(getK (b.ts[k] / m) (grpK m (b.ts.take k))).getD []) zSi zSi zSi zOm a1.v zOm ?_;intro T j aa a3 ah a4;obtain⟨k1,k2⟩:=R j T _ aa a3 a4;rw[<-hs]at k2;have a5:jR qe j 337 (.mp 0) (aI (b.ts[k] / m)) T=_:=keyI.update (et:=28) (t:=337) zSi (mu:=j) (b:=0) (venc:=id) (es:=i) k1 (k:=b.ts[k] / m) (v:=T) trivial (fun _ _=>trivial);have l1:1<U.mu.length:=(qk.1 g1).1;have a6:j[1]?=some (.arr [B]):=by rw[a3 1 l1 (fun e=>zW1 (a9 1 e))];exact g1
  simp[go_sem,e5,e9,a6];subst hB;refine cL _ a5 ?_;simp[go_sem,J,o,w1];refine aK ⟨zS1 e4,zS1 e5,zS1 e6,zS1 e9,zS1 a0,zS1 r,zSi,?_,_,zVs k2,fun q v hq x g=>?_⟩
  .simp only[qC]
   rw[zGl];exact a6
  .rw [vw]at hq
   split at hq
   .cases hq;have:=a4 x g;omega
   .exact h2 q v hq x g
 .have ab:k=b.ts.length:=by omega
  subst ab;rw[qP]at hG;simp[go_sem,e4,e5,e6,e9,r,J];refine .fn _ _ _ _ _ rfl rfl (fun k x y g=>by simp at g) (fun k x y g p=>?_)
  match k with
  | 0=>simp at g p;subst g;subst p;exact .hf _ (HF.ip (ZK a))
  | 1=>simp at g p;subst g;subst p;rw[hB]at g1;exact Rd.ip1 g1 (hG.rd (qkB m b.ts))
  | 2=>simp at g p;subst g;subst p;exact .hf _ (jg (HF.sc _))
  | 3=>simp at g p;subst g;subst p;exact .hf _ (jg (HF.sc _))
  |k+4=>simp at g
theorem lookG(mu m ys k):∃ f,yu qe mu 337 (imG (grpK m ys)) (aI k) false=some (.lst f (((getK k (grpK m ys)).getD []).map rI)):=by
 have:=keyI.look (et:=28) (t:=337) zSi (mu:=mu) (m:=imG (grpK m ys)) (venc:=lI) (es:=grpK m ys) rfl (k:=k) trivial (fun _ _=>trivial) (z := .lst true []) zSi false;simp only[yu];cases h:getK k (grpK m ys) with
 |none=>rw[h]at this;exact⟨true,this⟩
 |some l=>rw[h]at this;exact⟨false,this⟩
theorem qkR{J g:Type}(f){l:List J}{k j}{x:g}(i)(h:(f l[k])[j]?=some x):(l.flatMap f)[((l.take k).flatMap f).length+j]?=some x:=by
 have e:l=l.take k++l[k] :: l.drop (k+1):=by rw[<-zp i,List.take_append_drop]
 have o:l.flatMap f=(l.take k).flatMap f++(f l[k]++(l.drop (k+1)).flatMap f):=by
  conv=>lhs;rw[e]
  rw[List.flatMap_append,wP]
 rw[o,zJ zOm,Nat.add_sub_cancel_left,qN (qk.1 h).1];exact h
theorem qkS(n m)(hn:0<n)(a9:n<=20)(hm:0<m)(a3:m<=8000)(a b)(ha:∀ t,t∈a.ts->0<=t/\t<=1000000)(aa:a.ts.length<=1000000)(a4:b.ts.length<=1000000) :
  jd qe 264 (matC n m a b) ((joL n m a.ts b.ts).map fun t=>[aI t]):=by
 refine jd.of call264 fun i I Ix hS hX hY C h0=>?_
 refine qSW call264 func264 rfl {} ?_;have R:=fun C=>lookG C m b.ts
 obtain⟨B,hB⟩:∃ B,B=imG (grpK m b.ts):=⟨_,rfl⟩;have ab:B.cells=[B]:=by rw[hB];rfl
 have ad:B.one=true:=by rw[hB];rfl
 simp only[<-hB]at R⊢;rw[<-qkC]at hY⊢;generalize hF:(fun s=>((getK (s % n) (grpK m b.ts)).getD []).map fun t=>s / n*m+t)=F at *
 have a5:∀ s,F s=((getK (s % n) (grpK m b.ts)).getD []).map fun t=>s / n*m+t:=fun s=>by rw[<-hF]
 simp[go_sem];refine kL a.ts.length (fun k U=>U.tm 0 = .yl i/\U.tm 2 = .ip [B]/\U.tm 3 = .ip [aI n]/\U.tm 4 = .ip [aI m]/\U.tm 11=lI a.ts/\U.tm 12=aI a.ts.length/\U.tm 13=aI k/\I ((a.ts.take k).flatMap F).length U.mu) ?_ ?_
 .exact ⟨zSi,by simp[go_sem,hB],zSi,zSi,zSi,zSi,zSi,zVs h0⟩
 rintro k U hk ⟨e0,e2,e3,e4,T,o,p,P⟩;by_cases l:k<a.ts.length
 .have w1:=zWk k
  obtain⟨v0,v1⟩:=ha _ (qs l);have d1:a.ts[k].tdiv n=a.ts[k] / n:=Int.tdiv_eq_ediv_of_nonneg v0;have d2:a.ts[k].tmod n=a.ts[k] % n:=u3 v0;have q0:0<=a.ts[k] / n:=Int.ediv_nonneg v0 zOm;have q1:a.ts[k] / n<=a.ts[k]:=Int.ediv_le_self _ v0;have w2:qp.wrap (a.ts[k] / n)=a.ts[k] / n:=zWr;have a0:¬n=0:=zOm;obtain⟨f,r⟩:=R U.mu (a.ts[k] % n);have a6:((getK (a.ts[k] % n) (grpK m b.ts)).getD []).length<=1000000/\∀ t,t∈(getK (a.ts[k] % n) (grpK m b.ts)).getD []->0<=t/\t<m:=by
   have:=Uy m b.ts b.ts.length (qr _) (a.ts[k] % n);rw[qP]at this;rw[this];refine⟨by rw[zF];exact zL (List.length_filter_le _ _) a4,fun t ht=>?_⟩;obtain⟨u,_,rfl⟩:=qn.1 ht;exact⟨Int.emod_nonneg _ zOm,Int.emod_lt_of_pos _ hm⟩
  have a1:=a5 a.ts[k];generalize (getK (a.ts[k] % n) (grpK m b.ts)).getD []=L at *
  obtain⟨m0,m1⟩:=XX (x:=1000000) (y:=8000) q0 zOm (by omega:0<=m) a3 zOm;have w3:qp.wrap (a.ts[k] / n*m)=a.ts[k] / n*m:=zWr;simp[go_sem,T,o,p,l];refine cH zKr ?_;simp[go_sem,e2,e3,a0,d2,r];refine kL L.length (fun j U=>U.tm 0 = .yl i/\U.tm 2 = .ip [B]/\U.tm 3 = .ip [aI n]/\U.tm 4 = .ip [aI m]/\U.tm 7=aI a.ts[k]/\U.tm 11=lI a.ts/\U.tm 12=aI a.ts.length/\U.tm 13=aI k/\U.tm 21 = .lst f (L.map rI)/\U.tm 22=aI L.length/\U.tm 23=aI j/\I (((a.ts.take k).flatMap F).length+j) U.mu) ?_ ?_
  .exact ⟨zS1 e0,zS1 e2,zS1 e3,zS1 e4,zSi,zS1 T,zS1 o,zS1 p,zSi,zSi,zSi,zVs P⟩
  rintro j U hj ⟨f0,f2,f3,f4,f7,f11,f12,f13,f21,f22,f23,P⟩;by_cases g:j<L.length
  .have w4:=zWk j
   obtain⟨u0,u1⟩:=a6.2 _ (qs g);have w5:qp.wrap (a.ts[k] / n*m+L[j])=a.ts[k] / n*m+L[j]:=zWr;have a2:((a.ts.flatMap F).map fun t=>[aI t])[((a.ts.take k).flatMap F).length+j]?=some [aI (a.ts[k] / n*m+L[j])]:=by
    rw[zj,qkR F l (x:=a.ts[k] / n*m+L[j]) (by rw[a1,zj,qA g];rfl)];rfl
   simp[go_sem,f21,f22,f23,g];refine qj.tail 8 zKr ?_;simp[go_sem,f0,f3,f4,f7,a0,d1,w2,w3,w5];refine qh.yield (hY _ _ _ a2 P) ?_;rintro b ae (⟨rfl,a7⟩|⟨rfl,a8⟩)
   .simp [go_sem,f23,g,w4]
    exact aK ⟨zS1 f0,zS1 f2,zS1 f3,zS1 f4,zS1 f7,zS1 f11,zS1 f12,zS1 f13,zS1 f21,zS1 f22,zSi,a7⟩
   .simp [go_sem]
    exact .inr a8
  .have J:j=L.length:=by omega
   subst J;simp[go_sem,f13,f22,f23,w1];refine⟨l,aK ⟨zS1 f0,zS1 f2,zS1 f3,zS1 f4,zS1 f11,zS1 f12,zSi,?_⟩⟩;rw[yj l,List.flatMap_append,za];simpa[go_sem,a1] using P
 .have J:k=a.ts.length:=by omega
  subst J;rw[qP]at P;simp[go_sem,o,p];exact .inl (by simpa[List.length_flatMap] using P)
end EU
namespace EC
open E1 E2
theorem mz(n):powI n 2=n*n:=by
 have:=wt (n:=n) (i:=1) (j:=1) zOm zOm zOm;rw[uO]at this;exact this
end EC
namespace EY
open E1 E2 E3 EO EP EQ ET EW EU EC
def GatM(mu:Mu)(l:List Int):Prop:=∃ t,mu[0]?=some (.arr [aI 0,.lst true []])/\mu[1]?=some (.arr [t])/\OwnI mu t l/\qo t≠some 0/\qo t≠some 1
theorem GatM.step{mu mu':Mu}{av g l}(C:mu[0]?=some (.arr [aI 0,.lst true []]))(j:mu[1]?=some (.arr [av]))(I:qo av≠some 0)(J:qo av≠some 1)(o:OwnI mu' g l)
  (P:∀ i,i<mu.length->qo av≠some i->mu'[i]?=mu[i]?) (R:mu.length<=mu'.length) (T:∀ b,qo g=some b->b=mu.length):mu'[1]?=some (.arr [av])/\GatM (mu'.set 1 (.arr [g])) l:=by
 have U:1<mu.length:=(qk.1 j).1;have p:qo g≠some 0:=fun e=>by grind
 have r:qo g≠some 1:=fun e=>by grind
 refine⟨by grind,g,by grind,by grind,o.same fun b t=>?_,p,r⟩
 grind
theorem GatM.push{mu l}(h:GatM mu l):GatM (mu++[.dead]) l:=by
 obtain⟨t,p,g1,g,i,j⟩:=h;exact⟨t,by grind,by grind,g.same fun b o=>by rw[qN (g.v.lt o)],i,j⟩
theorem GR.none{n}(h:n=0){a}(g:GR n a):a.ts=[]:=by
 cases i:a.ts with
 |nil=>rfl
 |cons t l =>
  exfalso;obtain⟨v0,v1⟩:=g.val t (by rw[i];simp);have o:=g.ar1;rw[Yv zOm g.ar3,h]at v1;have:(0:Int) ^ a.ar.toNat=0:=by
   obtain⟨k,j⟩:∃ k,a.ar.toNat=k+1:=⟨a.ar.toNat-1,zOm⟩;rw[j,Int.pow_succ,Int.mul_zero]
  omega
theorem qkT(n m x y):(joL n m x y).length<=x.length*y.length:=by
 induction x with
 |nil=>simp[joL]
 |cons s x g =>
  simp only[joL,wP,za,zF,zu]at g⊢;have:=List.length_filter_le (fun t=>decide (t / m=s % n)) y;rw[Nat.add_mul];omega
theorem wm(n)(l:0<=n)(ah:n<=12)(a b)(p:GR n a)(o:GR n b)(hs:a.ar+b.ar<=5->a.ts.length*b.ts.length<=1000000):qi qe 215 [aI n,eRel a,eRel b] (match wo n a b with | .ok r => .tup [eRel r,aI 0] | .error e => .tup [eRel ⟨0,[]⟩,aI e]):=by
 refine qSV call215 func215 rfl ?_;have a1:=p.ar1;have a3:=p.ar3;have b1:=o.ar1;have b3:=o.ar3;have la:=p.len l zOm;have lb:=o.len l zOm;have w0:qp.wrap (a.ar+b.ar)=a.ar+b.ar:=zWr;have w1:qp.wrap (a.ar+b.ar-2)=a.ar+b.ar-2:=zWr;unfold wo;by_cases a0:1<=a.ar+b.ar-2
 case neg =>
  have C:a.ar+b.ar-2<1:=zOm;rw[zIn];simp_all[go_sem,Yw,Yx]
 by_cases a2:a.ar+b.ar-2<=3
 case neg =>
  have C:¬a.ar+b.ar-2<1:=zOm;have g:3<a.ar+b.ar-2:=zOm;rw[zIn];simp[go_sem,w0,w1,C,g];exact Yw Yx
 have C:¬a.ar+b.ar-2<1:=zOm;have g:¬ 3<a.ar+b.ar-2:=zOm;rw[if_pos ⟨a0,a2⟩];by_cases hz:n=0
 .have e:joR n a b=⟨a.ar+b.ar-2,[]⟩:=by
   unfold joR;rw[GR.none hz p];rfl
  simp[go_sem,w0,w1,C,g,hz]
  grind [Yw,Yx]
 have ai:1<=n:=zOm;have w2:qp.wrap (b.ar-1)=b.ar-1:=zWr;have hp:0<powI n (b.ar-1):=Int.pow_pos zOm;obtain⟨p0,p1⟩:=Qg (k:=b.ar-1) l (by omega:n<=20);obtain⟨q0,q1⟩:=Qg (k:=b.ar) l (by omega:n<=20);obtain⟨r0,r1⟩:=Qg (k:=a.ar) l (by omega:n<=20);have a4:∀ t,t∈a.ts->0<=t/\t<=1000000:=fun t I=>zW1 (p.val t I)
 have a5:∀ t,t∈b.ts->0<=t/\t<=1000000:=fun t I=>zW1 (o.val t I)
 have a6:=XW n l zOm (b.ar-1) zOm zOm;have hJ:joR n a b=⟨a.ar+b.ar-2,ofL (joL n (powI n (b.ar-1)) a.ts b.ts)⟩:=rfl;have aj:=qkT n (powI n (b.ar-1)) a.ts b.ts;have hs:=hs zOm;have a7:=qkQ n (powI n (b.ar-1)) hp p1 a b a5 zOm;have a8:=qkS n (powI n (b.ar-1)) zOm zOm hp p1 a b a4 zOm zOm;have a9:WKs [aI n,aI (powI n (b.ar-1)),eRel a,eRel b] [aI n,aI (powI n (b.ar-1)),eRel a,eRel b] := .zs (.zs (.zk (qY a) (.zk (qY b) .nil)));simp only[hJ];generalize powI n (b.ar-1)=m at *
 generalize joL n m a.ts b.ts=J at *
 simp[go_sem,w0,w1,C,g,hz];refine cH zKr ?_;simp[go_sem,w2];refine fR a6 (.zs (.zs .nil)) ?_;refine fR a7 a9 ?_;refine tK a8 (fun j M=>GatM M (J.take j)) (fun _ _=>False) ?_ ?_ ?_ ?_ ?_ ?_
 .exact ⟨.lst true [],zSi,zSi,.inl ⟨rfl,rfl⟩,by simp[qo],by simp[qo]⟩
 .exact fun j M h=>h.push
 .grind
 .rintro j x M hj ⟨av,T,g1,U,n0,n1⟩
  rw[zj,jN]at hj;obtain⟨t,I,rfl⟩:=hj;obtain⟨ag,ak⟩:=qk.1 I;refine⟨rfl,?_⟩;simp[go_sem,g1];refine aN (e:=3) (bt:=8) (z:=0) zSi zSi zSi zOm U.v zSo ?_;intro al an i aa ab ad;obtain⟨k1,k2⟩:=GatM.step T g1 n0 n1 i aa ab ad;simp[go_sem,k1,i.v.one,i.v.cells]
  grind [tT,yj]
 .rintro M ⟨av,T,g1,U,n0,n1⟩
  rw[zF,qP]at U;simp[go_sem,g1];refine fQ (XS M _ av J zOm U) ?_ ?_
  .rintro r m' ⟨x,h,P,ae,ao,af⟩
   cases h;have h1:=ae 0 (qk.1 T).1 n0;rw[T]at h1;have R:∀ c,(m'.set 0 c)[0]?=some c:=fun c=>qM (qk.1 h1).1
   have hx:qo x≠some 0:=fun h=>n0 (af _ h)
   simp[go_sem,h1,R,P.one];refine Yw (r:=⟨a.ar+b.ar-2,ofL J⟩) (aD (P.same fun b o=>?_));rw[yF (fun e=>hx (by rw[e];exact o))]
  grind
 grind
theorem qkU(p)(I:p.length<=1000000000):qi qe 243 [lI p] (lI p):=by
 refine qSV call243 func243 rfl ?_;cases p with
 |nil =>
  simp[go_sem,lI];refine⟨.wk _ true _ (.hf _ (HF.lst (full:=true) (xs:=[]) fun r o=>by simp at o)),?_⟩;refine aP (e:=3) (bt:=8) (z:=0) (l:=[]) (ys:=[]) zSi zSi zSi zOm (.inl ⟨rfl,rfl⟩) (by simp[qD]) zSp ?_;intro t j g _ _ _;simp[go_sem];exact g.v.rd
 |cons x l =>
  simp[go_sem,lI];refine aP (e:=3) (bt:=8) (z:=0) (l:=[]) (ys:=x :: l) zSi zSi zSi zOm (.inl ⟨rfl,rfl⟩) (by simp[qD]) (by grind) ?_;intro t j g _ _ _;simp[go_sem];exact g.v.rd
theorem UB{n}(j:0<=n)(i:n<=12){a}(g:GR n a)(l:a.ar=2):a.ts.length<=144:=by
 have e:=mz n;have p:n*n<=12*12:=jE i i j zOm;exact JT g.srt fun t o=>by have:=g.val t o;rw[l,e]at this;omega
theorem qkV{a b}(g:sorted a.ts):a.ts.length<=(unR a b).ts.length:=by
 refine List.Nodup.length_le_of_subset (Ur g) fun x i=>?_
 exact(ZR (a.ts++b.ts)).2 x |>.2 (jn _ i)
theorem wkJ(n a b):WKs [aI n,eRel a,eRel b] [aI n,eRel a,eRel b] := .zs (.zk (qY a) (.zk (qY b) .nil))
theorem wkR2(a b):WKs [eRel a,eRel b] [eRel a,eRel b] := .zk (qY a) (.zk (qY b) .nil)
theorem closU(n)(l:0<=n)(g:n<=12)(a)(T:GR n a)(I:a.ar=2):qi qe 219 [aI n,eRel a] (eRel (clR n 200 a)):=by
 refine qSV call219 func219 rfl ?_;have a0:=UB l g T I;simp[go_sem];refine fR (qkU a.ts zOm) (.zk (zh _) .nil) ?_;refine cZ (fun m o=>∃ c,m=145-c.ts.length/\GR n c/\c.ar=2/\(∃ f,145<=f+c.ts.length/\clR n f c=clR n 200 a)/\o.tm 0=aI n/\o.tm 4 = .ptr 0 0/\o.tm 5 = .ptr 1 0/\∃ i,o.mu = .arr [aI 0,.lst true []] :: .arr (cRel c) :: i) (145-a.ts.length) ?_ ?_
 .exact ⟨a,rfl,T,I,⟨200,zOm,rfl⟩,zSi,zSi,zSi,[],zS1 I⟩
 rintro m o ⟨c,rfl,gc,c2,⟨f,hf,j⟩,e0,e4,p,i,hm⟩;have r:=UB l g gc c2;have gj:=GR.join l gc gc zOm zOm;have gu:=aC gc gj (by show c.ar=c.ar+c.ar-2;omega);have a1:=UB l g gu c2;have a2:=qkV (b:=joR n c c) gc.srt;have hj:=wm n l g c c gc gc fun _=>zL (Nat.mul_le_mul r r) zOm
 have J:wo n c c = .ok (joR n c c):=by simp_all[wo,if_pos]
 rw[J]at hj;have a3:=UB l g gj (by show c.ar+c.ar-2=2;omega);have hu:=vB c (joR n c c) zOm zOm;simp[go_sem,e0,p,hm];refine cQ hj (wkJ n c c) ?_;simp[go_sem,p];refine cQ hu (wkR2 c (joR n c c)) ?_;generalize P:unR c (joR n c c)=U at *
 by_cases C:U.ts.length=c.ts.length
 .have hr:clR n 200 a=c:=by
   rw[<-j];cases f with
   |zero=>omega
   |succ f=>rw[clR,P,if_pos C]
  rw[hr];simp[go_sem,e4,p,C];exact .hf _ (qY c)
 .have t:∃ f,145<=f+U.ts.length/\clR n f U=clR n 200 a:=by
   cases f with
   |zero=>omega
   |succ f =>
    rw[clR,P,if_neg C]at j;exact⟨f,zOm,j⟩
  have R:U.ar=2:=by rw[<-P];exact c2
  simp[go_sem,p,C];exact Keep.loop (145-U.ts.length) zOm ⟨U,rfl,gu,R,t,zS1 e0,zS1 e4,zS1 p,_,by simp[go_sem];rfl⟩
end EY
namespace GD
open E3 E4 F1 GA GB
section
variable {J:Type}{p:J->J->Bool}
theorem ZQ(xs:List Int):(xs.map rI).flatten=xs.map aI:=by
 induction xs with
 |nil=>rfl
 |cons x xs g=>simp[g]
theorem qkW{G h xs v}(r:VRel G h (lI xs) v):xs=[]/\(∃ a c,v = .slice a 0 c)\/xs≠[]/\∃ b off c arr e p,v = .slice (some ⟨b,off,none⟩) xs.length c/\h[b]?=some (.cells arr e p)/\∀ j,j<xs.length->arr[off+j]?=some (.int .i64 (xs.getD j 0)):=by
 by_cases R:xs=[]
 .subst R
  refine .inl ⟨rfl,?_⟩;change VRel G h (.lst false []) v at r;cases r with
  |nil=>exact⟨_,_,rfl⟩
  |emp _ a cap t=>exact⟨_,_,rfl⟩
  |lst _ _ g a cap T e p rd C I hl t hi hz J U=>exact⟨_,_,rfl⟩
 .refine .inr ⟨R,?_⟩
  change VRel G h (.lst false (xs.map rI)) v at r;generalize P:xs.map rI=l at r;have i:l.length=xs.length:=by grind
  cases r with
  |nil=>grind
  |emp _ a cap t=>grind
  |lst _ _ g a cap T e p rd C I hl t hi hz J U =>
   obtain⟨b,off,a0⟩:=a;simp only at I C J;subst I;refine⟨b,off,cap,T,e,p,by rw[i],C,fun j hj=>?_⟩;have o:l.flatten[j]?=some (aI (xs.getD j 0)):=by
    rw[<-P];have:(xs.map rI).flatten=xs.map aI:=ZQ xs
    grind
   have h1:=J j _ o;have h2:=U j _ o;generalize rd j=u at h1 h2;cases h2;exact h1
def X0(xs:List Int)(x:Int):Nat:=xs.countP (fun y=>decide (y<x))
theorem binU(xs x)(hl:xs.length<=1000000000)(J:xs.Pairwise (·<=·)):qi qe 81 [lI xs,aI x] (.tup [aI (X0 xs x),aB (decide (x∈xs))]):=by
 refine⟨call81,fun i w vs I P=>?_⟩;obtain⟨u,v,rfl,R,T⟩:=P.two_inv;cases T;have g:∀ t:qd,VRel ⟨i,[]⟩ t.heap (.tup [aI (X0 xs x),aB (decide (x∈xs))]) (.tuple #[.int .i64 (X0 xs x:Nat),.bool (decide (x∈xs))]):=by
  intro t;refine .tup _ _ rfl (fun k y p=>?_);cases k with
  |zero=>simp at p;subst p;exact .sc _ rfl
  |succ k=>cases k with
   |zero=>simp at p;subst p;exact .sc _ rfl
   |succ k=>simp at p
 rcases qkW R with ⟨rfl,a,c,rfl⟩|⟨U,b,off,c,arr,e,fr,rfl,o,hc⟩
 .refine (Tryz.slices_BinarySearch_int_empty a c x w).mono fun e t ⟨r,C⟩=>?_
  subst C;refine⟨i,_,r,fun _ h=>h,fun b o=>⟨I.imm b o,.inl o⟩,⟨RowKit.Below.refl _ _,qr _⟩,?_⟩;exact g _
 .have l:∀ j,j<xs.length->w.cell? ⟨b,off+j,none⟩=some (.int .i64 (xs.getD j 0)):=by
   simp_all[World.cell?,Option.isSome_none,Bool.false_eq_true,if_false]
  refine(Tryz.slices_BinarySearch_int b off xs.length c xs x w (qr _) zOm l (by rw[qP];exact J)).mono fun e t ⟨r,q,C⟩=>?_
  subst C;rw[qP]at r;have e2:xs.contains x=decide (x∈xs):=by
   rw[j0];simp
  rw[e2]at r;refine⟨i,_,r,fun _ h=>h,fun b o=>⟨I.imm b o,.inl o⟩,⟨⟨rfl,rfl,rfl,qr _,fun _ _=>rfl⟩,Nat.le_add_right _ _⟩,?_⟩;exact g _
def Yy(P:qb)(l:AV){J:Type}(enc:J->AV)(ok:J->J->Prop)(p:J->J->Bool):Prop:=
 HF l/\∃ j i,l = .fn (.func j) [] i/\∀ x y,ok x y->∃ g,WKs ([enc x,enc y]++i) g/\qi P j g (aB (p x y))
theorem Yy.call{P l enc ok}(h:Yy P l enc ok p){x y}(o:ok x y){det mu K r}(k:K (aB (p x y)) mu):qh P det mu l [enc x,enc y] K r:=by
 obtain⟨_,j,i,rfl,h⟩:=h;obtain⟨g,t,C⟩:=h x y o;exact .inl ⟨_,.inl ⟨j,[],i,g,rfl,C,.inl (zUs t)⟩,k⟩
def y8(p:J->J->Bool):List J->List J->Bool
 |x :: T,y :: i=>p x y&&y8 p T i
 | [],[]=>true
 |_,_=>false
theorem X1(p):∀(xs ys:List J),xs.length≠ys.length->y8 p xs ys=false
 | [],[],h=>absurd rfl h
 | [],_ :: _,_=>rfl
 |_ :: _,[],_=>rfl
 |x :: xs,y :: ys,h=>by
  simp_all[y8,X1,Bool.and_false]
theorem mA(p)(xs ys:List J)(k g)(i:k<ys.length):y8 p (xs.drop k) (ys.drop k)=(p xs[k] ys[k]&&y8 p (xs.drop (k+1)) (ys.drop (k+1))):=by
 grind [zp,y8]
theorem Yz(f):HF (.fn (.func f) [] []):=HF.fn (fun c g=>by simp at g) (fun c g=>by simp at g)
theorem mB(xs ys C p)(hf:Yy qe C lRel (fun x y=>x∈xs/\y∈ys) p)(hl:xs.length<=1000000000) :
  qi qe 38 [lSt xs,lSt ys,C] (aB (y8 p xs ys)):=by
 refine qSU call38 func38 rfl ?_;by_cases g:xs.length=ys.length
 rotate_left
 .simp [go_sem,g,X1 p xs ys g]
  exact .zsc _
 simp[go_sem,g];refine qm.up xs.length (fun k U=>U.tm 1=lSt ys/\U.tm 2=C/\U.tm 15=lSt xs/\U.tm 16=aI xs.length/\U.tm 17=aI k/\y8 p (xs.drop k) (ys.drop k)=y8 p xs ys) ?_ ?_
 .simp [go_sem,g]
 rintro k U hk ⟨J,P,t,l,o,r⟩;by_cases j:k<xs.length
 .have i:k<ys.length:=by omega
  rw[mA p xs ys k j i]at r;simp[go_sem,J,P,t,l,o,j,i];refine Yy.call (enc:=lRel) hf ⟨qs j,qs i⟩ ?_;cases R:p xs[k] ys[k] with
  |true =>
   rw[R,Bool.true_and]at r;simp[go_sem,J,P,t,l,o,j];exact⟨zWr,r⟩
  |false =>
   rw[R,Bool.false_and]at r;simp[go_sem];rw[<-r];exact .zsc _
 .have I:k=xs.length:=by omega
  subst I;rw[zZ,g,zZ]at r;simp[go_sem,l,o];rw[<-r];exact .zsc _
theorem xorU(a b)(ha:a.length<=1000000)(hb:b.length<=1000000)(R:b.Pairwise (·<·)):qi qe 41 [lI a,lI b] (aI (xorN a b)):=by
 refine qSV call41 func41 rfl ?_;have T:qp.wrap ((a.length:Int)+b.length)=(a.length:Int)+b.length:=zWr;simp[go_sem,T];refine qm.up a.length (fun k U=>U.tm 1=lI b/\U.tm 5=aI ((a.length:Int)+b.length-2*(vy (a.take k) b).length)/\U.tm 15=lI a/\U.tm 16=aI a.length/\U.tm 17=aI k) ?_ ?_
 .simp [go_sem,vy]
 rintro k U hk ⟨C,r,l,g,i⟩;by_cases j:k<a.length
 .have o:=binU b a[k] zOm (R.imp fun h=>zOm)
  have p:a.take (k+1)=a.take k++[a[k]]:=by rw[List.take_add_one,qA j];rfl
  have a0:(vy (a.take k) b).length<=k:=by
   have:=List.length_filter_le (fun x=>decide (x∈b)) (a.take k);rw[vR]at this;show (List.filter _ _).length<=k;omega
  simp[go_sem,C,l,g,i,j];refine cQ o (.zk (zh _) (.zs .nil)) ?_;have P:qp.wrap ((k:Int)+1)=((k+1:Nat):Int):=by rw[zWr];omega
  by_cases t:a[k]∈b
  .have I:vy (a.take (k+1)) b=vy (a.take k) b++[a[k]]:=by
    unfold vy;rw[p,List.filter_append,List.filter_cons];generalize List.filter (fun x=>decide (x∈b)) (a.take k)=l0;simp[t]
   have w3:qp.wrap ((a.length:Int)+b.length-2*(vy (a.take k) b).length-2)=(a.length:Int)+b.length-2*(vy (a.take k) b).length-2:=zWr;simp[go_sem,C,r,l,g,i,j,t,P,w3];rw[I,za];simp;omega
  .have I:vy (a.take (k+1)) b=vy (a.take k) b:=by
    unfold vy;rw[p,List.filter_append,List.filter_cons];generalize List.filter (fun x=>decide (x∈b)) (a.take k)=l0;simp[t]
   simp[go_sem,C,r,l,g,i,j,t,P];rw[I]
 .have J:k=a.length:=by omega
  subst J;rw[qP]at r;simp[go_sem,r,g,i];exact .zsc _
theorem mC(a b)(g:a.sC.length<=1000000):qi qe 30 [eSc a,eSc b] (aB (decide (a.sN=b.sN)&&decide (a.sC=b.sC))):=by
 refine qSU call30 func30 rfl ?_;by_cases h:a.sN=b.sN
 .simp [go_sem,h]
  refine fR (XN a.sC b.sC zOm) (.zk (zh _) (.zk (zh _) .nil)) ?_;exact .zsc _
 .simp [go_sem,h]
  exact .zsc _
theorem qkX(x y):qi qe 40 [lRel x,lRel y] (aB (decide (x.length=y.length))):=by
 refine qSU call40 func40 rfl ?_;exact .zsc _
theorem X2(f):∀(xs ys:List J)(k g)(i:k<ys.length),sumZ f (xs.take (k+1)) (ys.take (k+1))=sumZ f (xs.take k) (ys.take k)+f xs[k] ys[k]
 |x :: xs,y :: ys,0,_,_=>by simp[sumZ]
 |x :: xs,y :: ys,k+1,g,i=>by
  simp only[List.take_succ_cons,sumZ,List.getElem_cons_succ];rw[X2 f xs ys k (zUs g) (zUs i)];omega
 | [],_,_,g,_=>by simp at g
 |_ :: _,[],_,_,i=>by simp at i
theorem UC{f M}(g:0<=M):∀(xs ys:List J),(∀ x y,x∈xs->y∈ys->-M<=f x y/\f x y<=M)->-(xs.length*M)<=sumZ f xs ys/\sumZ f xs ys<=xs.length*M
 | [],_,_=>by simp[sumZ]
 |_ :: xs,[],_=>by
  have:0<=((xs.length:Int)+1)*M:=Int.mul_nonneg zOm g;simp[sumZ];omega
 |x :: xs,y :: ys,h=>by
  have l:=h x y zSp zSp;have o:=UC g xs ys fun a b i j=>h a b (zP1 i) (zP1 j)
  have e:((xs.length+1:Nat):Int)*M=xs.length*M+M:=by rw[Int.natCast_add,Int.add_mul];omega
  grind [sumZ,zu]
def xorR(r q:Rl):Int:=xorN r.ts q.ts
def xorT(s t:List Rl):Int:=sumZ xorR s t
def xorS(S T:Sts):Int:=sumZ xorT S T
theorem mD{a b}(g:a.length<=1000)(i:b.length<=1000) : -2000<=xorN a b/\xorN a b<=2000:=by
 grind [List.length_filter_le,decide,xorN,vy]
structure SmS (S:Sts):Prop where
 n:S.length<=1000
 f:∀ s,s∈S->s.length<=1000
 t:∀ s,s∈S->∀ r,r∈s->r.ts.length<=1000/\r.ts.Pairwise (·<·)
theorem X3{s t}(o:s.length<=1000)(g:∀ r,r∈s->r.ts.length<=1000)(i:∀ r,r∈t->r.ts.length<=1000) : -2000000<=xorT s t/\xorT s t<=2000000:=by
 have:=UC (f:=xorR) (M:=2000) zOm s t fun x y j l=>mD (g x j) (i y l)
 have p:(s.length:Int)*2000<=2000000:=zOm;unfold xorT;omega
def yo(a b:Md):Int:=if decide (a.sc.sN=b.sc.sN)&&(decide (a.sc.sC=b.sc.sC)&&y8 (fun x y=>decide (x.length=y.length)) a.sK b.sK) then xorS a.sK b.sK+(if a.loop=b.loop then 0 else 1) else -1
theorem mE:∀{xs ys},y8 p xs ys=true->xs.length=ys.length/\∀(k g)(i:k<ys.length),p xs[k] ys[k]=true
 | [],[],_=>⟨rfl,fun k g=>by simp at g⟩
 |x :: xs,y :: ys,h=>by
  rw[y8,qI]at h;obtain⟨g,i⟩:=mE h.2;refine⟨zP1 g,fun k j l=>?_⟩;cases k with
  |zero=>exact h.1
  |succ k=>exact i k (zUs j) (zUs l)
 | [],_ :: _,h=>by simp[y8]at h
 |_ :: _,[],h=>by simp[y8]at h
theorem X4(a b)(ga:SmS a.sK)(gb:SmS b.sK)(a7:a.sc.sC.length<=1000000):qi qe 13 [eMd a,eMd b] (aI (yo a b)):=by
 generalize I:yo a b=R;unfold yo at I;refine qSU call13 func13 rfl ?_;refine cQ (mC a.sc b.sc a7) (.zk (zr _) (.zk (zr _) .nil)) ?_;by_cases h1:a.sc.sN=b.sc.sN
 case neg =>
  simp[h1]at I;subst I;simp[go_sem,h1];exact .zsc _
 by_cases h2:a.sc.sC=b.sc.sC
 case neg =>
  simp[h2]at I;subst I;simp[go_sem,h1,h2];exact .zsc _
 simp[go_sem,h1,h2];refine cQ (mB a.sK b.sK _ (fun x y=>decide (x.length=y.length)) ⟨Yz _,_,_,rfl,fun x y aa=>⟨[lRel x,lRel y],by simpa using WKs.zk (Qc x) (.zk (Qc y) .nil),qkX x y⟩⟩ (zW1 ga.n)) (.zk (ZT _) (.zk (ZT _) (.zk (Yz _) .nil))) ?_;cases h3:y8 (fun x y=>decide (x.length=y.length)) a.sK b.sK with
 |false =>
  simp[h3]at I;subst I;simp[go_sem];exact .zsc _
 |true =>
  simp[h1,h2,h3]at I;obtain⟨a9,a5⟩:=mE h3;have hn:=ga.n;simp[go_sem];refine qm.up a.sK.length (fun k U=>U.tm 2 = .ip (cMd a)/\U.tm 3 = .ip (cMd b)/\U.tm 6=aI (xorS (a.sK.take k) (b.sK.take k))/\U.tm 27=lSt a.sK/\U.tm 28=aI a.sK.length/\U.tm 29=aI k) ?_ ?_
  .simp [go_sem,xorS,sumZ]
  rintro k U hk ⟨e2,e3,e6,J,o,p⟩;by_cases C:k<a.sK.length
  .have i:k<b.sK.length:=by omega
   have hl:=of_decide_eq_true (a5 k C i);have ab:=ga.f _ (qs C);have a1:=ga.t _ (qs C);have a0:=gb.t _ (qs i);have hD : -(2000000000:Int)<=xorS (a.sK.take k) (b.sK.take k)/\xorS (a.sK.take k) (b.sK.take k)<=2000000000:=by
    have:=UC (f:=xorT) (M:=2000000) zOm (a.sK.take k) (b.sK.take k) fun x y hx hy=>X3 (ga.f x (jD hx)) (fun r P=>(ga.t x (jD hx) r P).1) (fun r P=>(gb.t y (jD hy) r P).1)
    rw[vR]at this;have h5:((min k a.sK.length:Nat):Int)*2000000<=2000000000:=zOm;unfold xorS;omega
   generalize a8:xorS (a.sK.take k) (b.sK.take k)=D at *
   simp[go_sem,J,o,p,C];refine qm.up a.sK[k].length (fun j U=>U.tm 2 = .ip (cMd a)/\U.tm 3 = .ip (cMd b)/\U.tm 6=aI (D+xorT (a.sK[k].take j) (b.sK[k].take j))/\U.tm 7=aI k/\U.tm 27=lSt a.sK/\U.tm 28=aI a.sK.length/\U.tm 29=aI k/\U.tm 34=lRel a.sK[k]/\U.tm 35=aI a.sK[k].length/\U.tm 36=aI j) ?_ ?_
   .simp [go_sem,e2,e3,e6,J,o,p,xorT,sumZ]
   rintro j U hj ⟨e2,e3,e6,e7,J,o,p,a6,a2,a3⟩;by_cases T:j<a.sK[k].length
   .have g:j<b.sK[k].length:=by omega
    have hx:=xorU a.sK[k][j].ts b.sK[k][j].ts (zW1 ((a1 _ (qs T)).1)) (zW1 ((a0 _ (qs g)).1)) (a0 _ (qs g)).2;simp[go_sem,a6,a2,a3,T];refine cH zKr ?_;simp[go_sem,e3,e6,e7,g,i];refine cQ hx (.zk (zh _) (.zk (zh _) .nil)) ?_;simp[go_sem,e2,e3,e7,J,o,p,a6,a2,a3,T];have hs:=X2 xorR a.sK[k] b.sK[k] j T g;have ad:=X3 (s:=a.sK[k].take j) (t:=b.sK[k].take j) (by rw[vR];omega) (fun r P=>(a1 r (jD P)).1) (fun r P=>(a0 r (jD P)).1);have ae:=mD (a1 _ (qs T)).1 (a0 _ (qs g)).1;refine⟨?_,zWr⟩;rw[zWr];unfold xorT at *
    rw[hs];unfold xorR;omega
   .have a4:j=a.sK[k].length:=by omega
    subst a4;simp[go_sem,e2,e3,e6,J,o,p,a2,a3];have hs:=X2 xorT a.sK b.sK k C i;refine⟨C,?_,zWr⟩;unfold xorS at *
    rw[hs,a8,zV (l:=b.sK[k]) zOm]
  .have a4:k=a.sK.length:=by omega
   subst a4;rw[zV (l:=a.sK) (qr _),zV (l:=b.sK) zOm]at e6;have hD : -(2000000000:Int)<=xorS a.sK b.sK/\xorS a.sK b.sK<=2000000000:=by
    have:=UC (f:=xorT) (M:=2000000) zOm a.sK b.sK fun x y hx hy=>X3 (ga.f x hx) (fun r P=>(ga.t x hx r P).1) (fun r P=>(gb.t y hy r P).1)
    have h5:(a.sK.length:Int)*2000000<=2000000000:=zOm;unfold xorS;omega
   simp[go_sem,e2,e3,o,p];by_cases h6:a.loop=b.loop
   .rw [if_pos h6]at I
    simp[go_sem,e6,h6];rw[<-I,Int.add_zero];exact .zsc _
   .rw [if_neg h6]at I
    have w1:qp.wrap (xorS a.sK b.sK+1)=xorS a.sK b.sK+1:=zWr;simp[go_sem,e6,h6,w1];rw[<-I];exact .zsc _
end
end GD
namespace E9
theorem mF(sc)(g:GSc sc):qi qe 23 [eSc sc] (aI (sumI sc.sC)):=by
 refine qSU call23 func23 rfl ?_;refine qm.up sc.sC.length (fun k U=>U.tm 1 = .ip [lI sc.sC,aI sc.sN]/\U.tm 3=aI (sumI (sc.sC.take k))/\U.tm 4=aI k/\U.mu=[]) ?_ ?_
 .simp [go_sem,sumI]
 rintro k U I ⟨o,p,r,t⟩;have J:=g.1;simp[go_sem,o,r,t];refine cJ (fun i=>?_) (fun j=>?_)
 .have i:k<sc.sC.length:=by simpa using i
  have C:=uJ sc.sC k i;have l:=g.sum (k+1);rw[C]at l;simp[go_sem,o,p,r,i]
  grind [zW]
 .have j:k=sc.sC.length:=by simp at j;omega
  subst j;simp[go_sem,p];exact .zsc _
def wu:List Int->Int->Int->Int
 | [],_,_ => -1
 |a :: l,x,i=>if x<a then i else wu l (x-a) (i+1)
def uP(sc:Sc)(x:Int):Int:=wu sc.sC x 0
theorem mG(l:List Int)(k x i h):wu (l.drop k) x i=if x<l[k] then i else wu (l.drop (k+1)) (x-l[k]) (i+1):=by
 rw[zp h,wu]
def divN(n x:Int):Nat->Int
 | 0=>x
 |j+1=>divN n x j / n
theorem UD{J:Type}{l:List J}{p}:l.all p=true↔∀(i)(h:i<l.length),p l[i]=true:=by
 rw[zA];refine⟨fun h i g=>h _ (qs g),fun h a j=>?_⟩;obtain⟨i,g,rfl⟩:=uf j;exact h i g
theorem UE{J:Type}{l:List J}{p i}(h:i<l.length)(g:p l[i]=false):l.all p=false:=by
 rw[<-Bool.not_eq_true,UD]
 grind
end E9
namespace G5
open E9 EO EQ
theorem X5(sc)(g:GSc sc)(n:Nat)(J:n<=1000000):qi qe 190 [eSc sc,aI n] (aI (sumI (sc.sC.take n))):=by
 have P:=g.1;refine qSU call190 func190 rfl ?_;refine qm.up (min n sc.sC.length) (fun k U=>U.tm 1=aI n/\U.tm 2 = .ip [lI sc.sC,aI sc.sN]/\U.tm 5=aI (sumI (sc.sC.take k))/\U.tm 6=aI k) ?_ ?_
 .simp [go_sem,sumI]
 rintro k U R ⟨l,C,o,p⟩;by_cases j:k<n
 .by_cases i:k<sc.sC.length
  .have I:=uJ sc.sC k i
   have r:=g.sum (k+1);rw[I]at r;simp[go_sem,l,C,o,p,j,i]
   grind [zW]
  .have e:sc.sC.take n=sc.sC.take k:=by rw[zV zOm,zV zOm]
   rw[e];simp[go_sem,l,C,o,p,j,i];exact .zsc _
 .have t:k=n:=by omega
  subst t;simp[go_sem,l,o,p];exact .zsc _
theorem mH(sc)(g:GSc sc):qi qe 137 [eSc sc] (aI (sumI sc.sC)):=by
 have i:=g.1;have h:=X5 sc g sc.sC.length zOm;rw[qP]at h;refine qSU call137 func137 rfl ?_;refine fR h (.zk (zr _) (.zs .nil)) ?_;exact .zsc _
theorem YI(n:Int)(g:0<=n)(i:n<=20):∀ k,k<=3->0<=n ^ k/\n ^ k<=8000
 | 0,_=>zSp
 | 1,_=>by rw[show n ^ 1=n by rw[Int.pow_succ,Int.pow_zero,Int.one_mul]];omega
 | 2,_=>by
  have:n*n<=20*20:=jE i i g zOm;have j:=Int.mul_nonneg g g;rw[show n ^ 2=n*n by grind];omega
 | 3,_=>by
  have j:n*n<=20*20:=jE i i g zOm;have l:=Int.mul_nonneg g g;have o:n*n*n<=400*20:=jE j i g zOm;simp_all[Int.mul_nonneg,Int.pow_succ,Int.pow_zero,Int.one_mul]
 |k+4,h=>zOm
theorem mI(sc)(g:GSc sc)(n:Nat)(J:n<=3):qi qe 83 [eSc sc,aI n] (aI (sumI sc.sC ^ n)):=by
 have j:=g.sum sc.sC.length;rw[qP]at j;refine qSU call83 func83 rfl ?_;refine qm.up n (fun k U=>U.tm 1=aI n/\U.tm 2 = .ip [lI sc.sC,aI sc.sN]/\U.tm 5=aI (sumI sc.sC ^ k)/\U.tm 6=aI k) ?_ ?_
 .simp [go_sem]
 rintro k U P ⟨l,r,t,o⟩;by_cases i:k<n
 .have C:=YI (sumI sc.sC) j.1 j.2 (k+1) zOm
  have e:sumI sc.sC ^ (k+1)=sumI sc.sC ^ k*sumI sc.sC:=Int.pow_succ ..;rw[e]at C;have I:(k:Int)<3:=zOm;simp[go_sem,l,r,t,o,i,I];refine cQ (mH sc g) (.zk (zr _) .nil) ?_;simp[go_sem,l,r,o,i]
  grind [zW]
 .have p:k=n:=by omega
  subst p;simp[go_sem,l,t,o];exact .zsc _
theorem mJ(l x)(g:∀ a,a∈l->0<=a):∀ k i,k<=l.length->sumI (l.take k)<=x->wu l x i=wu (l.drop k) (x-sumI (l.take k)) (i+k):=by
 intro k;induction k with
 |zero=>grind [sumI]
 |succ k j =>
  intro i p r;have o:=uJ l k zOm;have t:=g _ (qs (show k<l.length by omega));rw[j i zOm zOm,mG l k _ _ zOm,zIn,o]
  grind
theorem qkY(sc)(g:GSc sc)(x:Nat)(T:x<=1000):qi qe 138 [eSc sc,aI x] (aI (uP sc x)):=by
 have hl:=g.1;have l:∀ a,a∈sc.sC->0<=a:=fun a R=>(g.2 a R).1
 refine qSU call138 func138 rfl ?_;refine qm.up sc.sC.length (fun k U=>U.tm 1=aI x/\U.tm 2 = .ip [lI sc.sC,aI sc.sN]/\U.tm 5=aI k/\sumI (sc.sC.take k)<=x) ?_ ?_
 .simp [go_sem,sumI]
 rintro k U I ⟨r,p,o,t⟩;by_cases j:k<sc.sC.length
 .have hs:=uJ sc.sC k j
  have i:=mJ sc.sC x l k 0 I t;rw[mG sc.sC k _ _ j]at i;have J:qp.wrap ((k:Int)+1)=((k+1:Nat):Int):=by grind [zW]
  simp[go_sem,r,p,o,j];refine cQ (X5 sc g k zOm) (.zk (zr _) (.zs .nil)) ?_;simp[go_sem,r,p,o,t,J];refine cQ (X5 sc g (k+1) zOm) (.zk (zr _) (.zs .nil)) ?_;by_cases P:(x:Int)<sumI (sc.sC.take (k+1))
  .have e:uP sc x=k:=by
    unfold uP;rw[i,if_pos zOm];omega
   rw[e];simp[go_sem,o,P];exact .zsc _
  .simp [go_sem,r,p,o,j,P,J]
   omega
 .have C:k=sc.sC.length:=by omega
  subst C;have e:uP sc x = -1:=by
   unfold uP;rw[mJ sc.sC x l sc.sC.length 0 I t,zZ];rfl
  rw[e];simp[go_sem,p,o];exact .zsc _
def digs(n:Int):Nat->Int->List Int
 | 0,_=>[]
 |k+1,r=>digs n k (r / n)++[r % n]
theorem YJ(n):∀ k r,(digs n k r).length=k
 | 0,_=>rfl
 |k+1,r=>by rw[digs,za,YJ n k];rfl
theorem mK(n):∀ j x,divN n (x / n) j=divN n x (j+1)
 | 0,x=>rfl
 |j+1,x=>by rw[divN,mK n j x];rfl
theorem mL(n):∀ j r,digs n (j+1) r=(divN n r j % n) :: digs n j r
 | 0,r=>by simp[digs,divN]
 |j+1,r=>by
  rw[digs,mL n j (r / n),mK,List.cons_append];rfl
theorem X6(n r)(i:0<n)(g:0<=r):∀ j,0<=divN n r j/\divN n r j<=r
 | 0=>⟨g,by simp[divN]⟩
 |j+1=>by
  have:=X6 n r i g j;rw[divN];have l:=Int.ediv_le_self n this.1;exact⟨Int.ediv_nonneg this.1 zOm,zOm⟩
theorem qkZ{mu b cells ds}(o:mu[b]?=some (.arr cells))(h:∀ i (I:i<ds.length),cells[i]?=some (aI ds[i])):Rd mu (.sl b 1 0 ds.length) (lI ds):=by
 refine .sl b 1 0 ds.length cells (ds.map rI) o ?_ zSp (fun r p=>by obtain⟨x,_,rfl⟩:=qn.1 p;rfl) fun k x y g l=>?_
 .grind
 .rw [yf]at g
  rw[GD.ZQ,zj,jN]at l;obtain⟨z,t,rfl⟩:=l;have C:=(qk.1 t);obtain⟨j,rfl⟩:=C;rw[h k j]at g;cases g;exact .zsc _
theorem qk0(sc)(g:GSc sc)(hp:0<sumI sc.sC)(k:Nat)(hk:k<=3)(r:Nat)(hr:(r:Int)<sumI sc.sC ^ k):qi qe 84 [eSc sc,aI k,aI r] (lI (digs (sumI sc.sC) k r)):=by
 have hs:=g.sum sc.sC.length;rw[qP]at hs;have a7:=YI (sumI sc.sC) hs.1 hs.2 k hk;refine qSV call84 func84 rfl ?_;have a0:¬(3:Int)<k:=zOm;have a1:¬(k:Int)<0:=zOm;have a2:¬(r:Int)<0:=zOm;simp[go_sem,a0,a1,a2];refine cQ (mI sc g k hk) (.zk (zr _) (.zs .nil)) ?_;have a3:¬sumI sc.sC ^ k<=(r:Int):=zOm;simp[go_sem,a3];refine cQ (mH sc g) (.zk (zr _) .nil) ?_;generalize hN:sumI sc.sC=N at *
 have w0:qp.wrap ((k:Int)-1)=(k:Int)-1:=zWr;simp[go_sem,w0];refine cZ (fun m U=>∃ j:Nat,m=k-j/\j<=k/\U.tm 1=aI k/\U.tm 7 = .sl 0 1 0 3/\U.tm 8=aI N/\U.tm 9=aI (divN N r j)/\U.tm 10=aI ((k:Int)-1-j)/\∃ c0 c1 c2,U.mu=[.arr [aI c0,aI c1,aI c2]]/\∀ i (P:i<j),[c0,c1,c2][k-j+i]?=some ((digs N j r)[i]'(by rw[YJ];exact P))) k ?_ ?_
 .exact ⟨0,zOm,zOm,zSi,zSi,zSi,by simp[go_sem,divN],zSi,0,0,0,zSi,fun i P=>zOm⟩
 rintro m U ⟨j,rfl,hj,e1,p,R,e9,o,c0,c1,c2,hm,hc⟩;by_cases a8:j<k
 .obtain ⟨d,rfl⟩:∃ d:Nat,k=j+1+d:=⟨k-(j+1),zOm⟩
  have t:d=0\/d=1\/d=2:=zOm;have ex:(((j+1+d:Nat):Int)-1-j)=(d:Int):=zOm;rw[ex]at o;have T:=X6 N r hp zOm j;have a9:(r:Int)<=8000:=zOm;have hq:(divN N r j).tdiv N=divN N r (j+1):=by rw[divN,Int.tdiv_eq_ediv_of_nonneg T.1]
  have I:(divN N r j).tmod N=divN N r j % N:=u3 T.1;have a6:=X6 N r hp zOm (j+1);have w1:qp.wrap (divN N r (j+1))=divN N r (j+1):=zWr;have J:¬N=0:=zOm;have aa:(digs N (j+1) r)=(divN N r j % N) :: digs N j r:=mL N j r;have a4:=YJ N j r;rcases t with t|t|t
  .have l:U.tm 10=aI 0:=by rw[o,t];rfl
   have w2:qp.wrap (-1) = -1:=zWr;simp[go_sem,p,R,e9,l,hm,J,hq,I,w1,w2];refine Keep.loop (j+1+d-(j+1)) zOm ⟨j+1,rfl,zOm,zS1 e1,zS1 p,zS1 R,zSi,by simp[go_sem];omega,divN N r j % N,c1,c2,zSi,fun i P=>?_⟩
   grind
  .have l:U.tm 10=aI 1:=by rw[o,t];rfl
   have w2:qp.wrap (0)=0:=zWr;simp[go_sem,p,R,e9,l,hm,J,hq,I,w1,w2];refine Keep.loop (j+1+d-(j+1)) zOm ⟨j+1,rfl,zOm,zS1 e1,zS1 p,zS1 R,zSi,by simp[go_sem];omega,c0,divN N r j % N,c2,zSi,fun i P=>?_⟩
   grind
  .have l:U.tm 10=aI 2:=by rw[o,t];rfl
   have w2:qp.wrap (1)=1:=zWr;simp[go_sem,p,R,e9,l,hm,J,hq,I,w1,w2];refine Keep.loop (j+1+d-(j+1)) zOm ⟨j+1,rfl,zOm,zS1 e1,zS1 p,zS1 R,zSi,by simp[go_sem];omega,c0,c1,divN N r j % N,zSi,fun i P=>?_⟩
   grind
 .have a5:j=k:=by omega
  subst a5;have hn:¬(j:Int)<=(j:Int)-1:=zOm;have h3:(j:Int)<=3:=zOm;simp[go_sem,e1,p,o,hm,hn,h3];have a4:=YJ N j r;have:=qkZ (mu:=[.arr [aI c0,aI c1,aI c2]]) (b:=0) (cells:=[aI c0,aI c1,aI c2]) (ds:=digs N j r) rfl fun i P=>by
   have:=hc i zOm;rw[Nat.sub_self,yf]at this;rw[show [aI c0,aI c1,aI c2]=[c0,c1,c2].map aI from rfl,zj,this];rfl
  grind
def fitB(sc:Sc)(ds g:List Int):Bool:=allN (fun i=>decide (uP sc (gI ds i)=gI g i)) g.length
theorem qk1(sc)(g:GSc sc)(ds j)(hl:ds.length=j.length)(a0:j.length<=3)(hd:∀ d,d∈ds->0<=d/\d<=1000):qi qe 85 [eSc sc,lI ds,lI j] (aB (fitB sc ds j)):=by
 refine qSU call85 func85 rfl ?_;refine qm.up j.length (fun k U=>U.tm 1=lI ds/\U.tm 2=lI j/\U.tm 3 = .ip [lI sc.sC,aI sc.sN]/\U.tm 7=aI k/\∀ i,i<k->uP sc (gI ds i)=gI j i) ?_ ?_
 .simp [go_sem]
 rintro k U hk ⟨J,r,P,p,hi⟩;by_cases l:k<j.length
 .have o:k<ds.length:=by omega
  have t:=hd ds[k] (qs o);obtain⟨d,C⟩:=Int.eq_ofNat_of_zero_le t.1;simp[go_sem,r,p,l];refine cH zKr ?_;simp[go_sem,J,P,p,o];have R:=qkY sc g d zOm;rw[<-C]at R;refine cQ R (.zk (zr _) (.zs .nil)) ?_;have g1:gI ds k=ds[k]:=uI o;have g2:gI j k=j[k]:=uI l;by_cases T:uP sc ds[k]=j[k]
  .simp [go_sem,J,r,P,p,l,T]
   refine⟨zWr,fun i a1=>?_⟩;by_cases h:i=k
   .grind
   grind
  .have hf:fitB sc ds j=false:=qiX l (by grind)
   rw[hf];simp[go_sem,r,p,l,T];exact .zsc _
 .have I:k=j.length:=by omega
  subst I;have hf:fitB sc ds j=true:=Xp.2 fun i h=>by grind
  rw[hf];simp[go_sem,r,p];exact .zsc _
theorem X7(n)(i:0<n)(g:n<=20):∀ k r,∀ d,d∈digs n k r->0<=d/\d<=1000
 | 0,_,d,h=>by simp[digs]at h
 |k+1,r,d,h=>by
  rw[digs,qK]at h;rcases h with h|h
  .exact X7 n i g k _ d h
  .rw [qV]at h;subst h
   have j:=Int.emod_nonneg r (show n≠0 by omega);have l:=Int.emod_lt_of_pos r i;omega
def vC(sc:Sc)(g:List Int)(r:Nat):List Int:=((qu r).filter fun k:Nat=>fitB sc (digs (sumI sc.sC) g.length k) g).map fun k:Nat=>(k:Int)
theorem qk2(sc g r):vC sc g (r+1)=vC sc g r++(if fitB sc (digs (sumI sc.sC) g.length r) g then [(r:Int)] else []):=by
 unfold vC;rw[List.range_succ,List.filter_append,zb];by_cases h:fitB sc (digs (sumI sc.sC) g.length r) g=true<;>simp[h]
theorem UF(sc g r):(vC sc g r).length<=r:=by
 grind [List.length_filter_le,fitB,digs,sumI,qu,List.length_range,vC]
theorem J0(sc g r):(vC sc g r).Pairwise (·<·):=by
 unfold vC;rw[List.pairwise_map];exact(List.pairwise_lt_range.filter _).imp fun h=>zOm
theorem qk3(sc g r):∀ x,x∈vC sc g r->0<=x/\x<r:=fun x i=>by
 obtain⟨k,j,rfl⟩:=qn.1 i;have:=yb.1 (jM.1 j).1;omega
def yE(sc:Sc)(g:List Int):List Int:=vC sc g (sumI sc.sC ^ g.length).toNat
theorem mM(sc)(g:GSc sc)(hp:0<sumI sc.sC)(j:List Int)(h1:1<=j.length)(h3:j.length<=3)(hs:∀ s,s∈j->0<=s/\s<sc.sC.length):qi qe 44 [eSc sc,lI j] (eRel ⟨j.length,yE sc j⟩):=by
 have J:=g.sum sc.sC.length;rw[qP]at J;have a3:=YI (sumI sc.sC) J.1 J.2 j.length h3;obtain⟨R,hR⟩:=Int.eq_ofNat_of_zero_le a3.1;have a4:yE sc j=vC sc j R:=by rw[yE,hR];rfl
 refine qSV call44 func44 rfl ?_;have n1:¬(j.length:Int)<1:=zOm;have n3:¬(3:Int)<(j.length:Int):=zOm;simp[go_sem,n1,n3];refine qm.up j.length (fun k U=>U.tm 1=lI j/\U.tm 2 = .ip [lI sc.sC,aI sc.sN]/\U.tm 4 = .ptr 0 0/\U.tm 5=aI j.length/\U.tm 6=aI k/\U.mu=[.arr [aI 0,.lst true []]]) ?_ ?_
 .simp [go_sem]
 rintro k U hk ⟨e1,C,e4,p,e6,hm⟩;by_cases o:k<j.length
 .have a6:=hs j[k] (qs o)
  have m1:¬j[k]<0:=zOm;have m2:¬(sc.sC.length:Int)<=j[k]:=zOm;simp[go_sem,p,e6,hm,o];refine cH zKr ?_;simp[go_sem,e1,C,e4,p,e6,o,m1,m2]
  grind [zW]
 have P:k=j.length:=zOm;subst P;simp[go_sem,p,e6,hm];refine cZ (fun m U=>∃ k t l,m=R-k/\k<=R/\U.tm 1=lI j/\U.tm 2 = .ip [lI sc.sC,aI sc.sN]/\U.tm 4 = .ptr 0 0/\U.tm 5=aI j.length/\U.tm 7 = .ptr 1 0/\U.tm 8=aI (k:Nat) /\
  U.mu=[.arr [aI 0,.lst true []],.arr [aI j.length,t]]++l/\OwnF 2 ([.dead,.dead]++l) 1 t ((vC sc j k).map rI)) R ?_ ?_
 .exact ⟨0,.lst true [],[],zOm,zOm,zS1 e1,zS1 C,zS1 e4,zS1 p,zSi,zSi,zSi,by grind [vC,OwnF.nil]⟩
 rintro m U ⟨k,t,l,rfl,hk,e1,C,e4,p,e7,e8,hm,ho⟩;have ho:=ho.low (low:=[.dead,.dead]) (low':=[.arr [aI 0,.lst true []],.arr [aI j.length,t]]) rfl;simp[go_sem,C,p,e8,hm];refine cQ (mI sc g j.length h3) (.zk (zr _) (.zs .nil)) ?_;rw[hR];by_cases o:k<R
 .simp [go_sem,C,p,e8,o]
  refine cQ (qk0 sc g hp j.length h3 k zOm) (.zk (zr _) (.zs (.zs .nil))) ?_;simp[go_sem,e1,C];refine cQ (qk1 sc g _ j (YJ _ _ _) h3 (X7 _ hp zOm _ _)) (.zk (zr _) (.zk (zh _) (.zk (zh _) .nil))) ?_;have a0:=qk2 sc j k;have a7:=UF sc j k;cases hb:fitB sc (digs (sumI sc.sC) j.length k) j with
  |false =>
   rw[hb]at a0;simp[go_sem,e8];refine Keep.loop (R-(k+1)) zOm ⟨k+1,t,l,rfl,zOm,zS1 e1,zS1 C,zS1 e4,zS1 p,zS1 e7,?_,zSi,?_⟩
   .simp [go_sem];grind [zW]
   grind
  |true =>
   rw[hb]at a0;simp[go_sem,e7,e8];refine fU (low:=[.arr [aI 0,.lst true []],.arr [aI j.length,t]]) (e:=3) (bt:=8) (z:=0) (xs:=vC sc j k) (ys:=[(k:Int)]) zSi zSi zSi zOm ho (by simp[qD]) zSo ?_;intro a5 a1 a2;simp[go_sem,e7,e8,a2.cells,a2.one];refine Keep.loop (R-(k+1)) zOm ⟨k+1,a5,a1,rfl,zOm,zS1 e1,zS1 C,zS1 e4,zS1 p,zS1 e7,?_,zSi,?_⟩
   .simp [go_sem];grind [zW]
   .rw [a0]
    simpa[go_sem] using a2.low (low':=[.dead,.dead]) rfl
 .have P:k=R:=by omega
  subst P;simp[go_sem,e4,e7,ho.one];rw[a4];exact Rd.rel (r:=⟨j.length,vC sc j k⟩) (ho.low (low:=[.arr [aI 0,.lst true []],.arr [aI j.length,t]]) (low':=[.arr [aI j.length,t],.arr [aI j.length,t]]) rfl).rdI
end G5
namespace GM
open E3 GD
structure Shd (sc:Sc) (ars:List Int) (n:Nat) (m:Md):Prop where
 sc:m.sc=sc
 n:m.sK.length=n
 ar:∀ s,s∈m.sK->s.map Rl.ar=ars
 so:∀ s,s∈m.sK->∀ r,r∈s->r.ts.Pairwise (·<·)
theorem mN{J p}:∀{xs ys:List J},xs.length=ys.length->(∀ x y,x∈xs->y∈ys->p x y=true)->y8 p xs ys=true
 | [],[],_,_=>rfl
 |x :: xs,y :: ys,g,h=>by
  rw[y8,h x y zSp zSp,Bool.true_and];exact mN (zUs g) fun a b i j=>h a b (zP1 i) (zP1 j)
 | [],_ :: _,g,_=>by simp at g
 |_ :: _,[],g,_=>by simp at g
theorem Shd.len{sc g n a}(h:Shd sc g n a){s}(i:s∈a.sK):s.length=g.length:=by rw[<-h.ar s i,zF]
theorem Shd.dist{sc g n a b}(i:Shd sc g n a)(j:Shd sc g n b):yo a b=xorS a.sK b.sK+(if a.loop=b.loop then 0 else 1):=by
 unfold yo;rw[i.sc,j.sc,mN (by rw[i.n,j.n]) (fun x y l o=>by rw[decide_eq_true_eq,i.len l,j.len o])];simp
end GM
namespace GP
open P1 E3 GB GD G5
def y9(g:List Bool)(lo:Rl)(q:List Int×Nat)(t:Int):List Int×Nat:=
 if t∈lo.ts then (q.1++[t],q.2) else (q.1++(if g.getD q.2 false=true then [t] else []),q.2+1)
def insF(g:List Bool)(lo:Rl)(ts:List Int)(n:Nat):List Int×Nat:=ts.foldl (y9 g lo) ([],n)
theorem qk4(g lo)(ts:List Int)(n k h):insF g lo (ts.take (k+1)) n=y9 g lo (insF g lo (ts.take k) n) ts[k]:=by
 rw[vO h,insF,vQ];rfl
theorem J1(g lo):∀(ts:List Int)(q w),q.1.Sublist w->(ts.foldl (y9 g lo) q).1.Sublist (w++ts)
 | [],q,w,h=>zUs h
 |t :: ts,q,w,h=>by
  rw[List.foldl_cons,show w++t :: ts=(w++[t])++ts by simp];refine J1 g lo ts _ _ ?_;unfold y9;split
  .exact h.append (List.Sublist.refl _)
  .split
   .exact h.append (List.Sublist.refl _)
   .exact h.append (List.nil_sublist _)
theorem X8(g lo):∀(ts:List Int)(q),(ts.foldl (y9 g lo) q).2<=q.2+ts.length
 | [],q=>zSp
 |t :: ts,q=>by
  rw[List.foldl_cons];have:=X8 g lo ts (y9 g lo q t);have i:(y9 g lo q t).2<=q.2+1:=by unfold y9;split<;>simp
  simp only[zu];omega
def insB(g:List Bool)(q:List Rl×Nat)(b:Bd):List Rl×Nat:=(q.1++[⟨b.up.ar,(insF g b.lo b.up.ts q.2).1⟩],(insF g b.lo b.up.ts q.2).2)
def jt(g:List Bd)(i:List Bool):List Rl×Nat:=g.foldl (insB i) ([],0)
def yy(g:List Bd)(i:List Bool):List Rl:=(jt g i).1
theorem mO(g:List Bd)(i k h):jt (g.take (k+1)) i=insB i (jt (g.take k) i) g[k]:=by
 rw[vO h,jt,vQ];rfl
theorem mP(g M):∀(i:List Bd)(q),(∀ b,b∈i->b.up.ts.length<=M)->(i.foldl (insB g) q).2<=q.2+i.length*M
 | [],q,_=>zSp
 |b :: i,q,h=>by
  rw[List.foldl_cons];have:=mP g M i (insB g q b) fun x j=>h x (zc _ j)
  have l:(insB g q b).2<=q.2+M:=zL (X8 g b.lo b.up.ts _) (by grind);rw[zu,Nat.add_mul];omega
theorem X9(i):∀(g:List Bd)(q),(g.foldl (insB i) q).1.map Rl.ar=q.1.map Rl.ar++g.map fun b=>b.up.ar
 | [],q=>zSp
 |b :: g,q=>by rw[List.foldl_cons,X9 i g];simp[insB]
theorem qk5(g i):(yy g i).map Rl.ar=g.map fun b=>b.up.ar:=by
 rw[yy,jt,X9];simp
theorem Zk(g i):(yy g i).length=g.length:=by
 rw[<-zF (f:=Rl.ar),qk5,zF]
theorem mQ(i):∀(g:List Bd)(q),∀ r,r∈(g.foldl (insB i) q).1->r∈q.1\/∃ b,b∈g/\r.ts.Sublist b.up.ts
 | [],q,r,h => .inl h
 |b :: g,q,r,h=>by
  rw[List.foldl_cons]at h;rcases mQ i g _ r h with h|⟨x,j,l⟩
  .simp only[insB,qK,qV]at h
   rcases h with h|rfl
   .exact .inl h
   .exact .inr ⟨b,zl ..,by have:=J1 i b.lo b.up.ts ([],q.2) [] (List.Sublist.refl _);grind [insF]⟩
  grind
theorem Ka(g i):∀ r,r∈yy g i->∃ b,b∈g/\r.ts.Sublist b.up.ts:=fun r j=>by
 rcases mQ i g ([],0) r j with h|h
 .cases h
 .exact h
def anyS(j:List Bool)(i:List Bd)(g:List (List Bool))(s:Nat):List Rl:=
 if s=0 then yy i (g.getD 0 []) else (yy i (g.getD s [])).mapIdx fun f r=>if j.getD f true=true then r else (yy i (g.getD 0 [])).getD f noR
def anyM(sc:Sc)(i:List Bool)(j:List Bd)(g:List (List Bool))(loop:Int):Md:=⟨sc,(qu sc.sN.toNat).map (anyS i j g),loop⟩
theorem Kb(j i g s):(anyS j i g s).length=i.length:=by
 grind [anyS,Zk,List.length_mapIdx]
theorem qk6(t l g s):∀ r,r∈anyS t l g s->∃ b,b∈l/\r.ts.Sublist b.up.ts:=fun r j=>by
 unfold anyS at j;split at j
 .exact Ka _ _ r j
 .obtain ⟨f,hf⟩:=List.mem_iff_getElem?.1 j
  rw[List.getElem?_mapIdx,jN]at hf;obtain⟨q,o,rfl⟩:=hf;split
  .exact Ka _ _ q (q8 o)
  .have p:=(qk.1 o).1
   rw[Zk]at p;have i:f<(yy l (g.getD 0 [])).length:=by rw[Zk];exact p
   rw[zG,qA i];exact Ka _ _ _ (qs i)
theorem qk7(sc l i j loop)(g:sc.sN<=1000)(o:i.length<=1000)(p:∀ b,b∈i->b.up.ts.length<=1000/\b.up.ts.Pairwise (·<·)):SmS (anyM sc l i j loop).sK:=by
 refine⟨by simp[anyM];omega,fun s g=>?_,fun s g r t=>?_⟩
 .obtain ⟨k,_,rfl⟩:=qn.1 g
  rw[Kb];exact o
 .obtain ⟨k,_,rfl⟩:=qn.1 g
  grind [qk6,zL]
def defB(ts:TS)(sc:Sc):List Bd:=ts.sA.map fun f=>⟨⟨f.sS.length,[]⟩,⟨f.sS.length,yE sc f.sS⟩⟩
end GP
namespace Y10
open Y1 Y2 Y3 P1 Y6 Y7 YF Y9
section
variable {s:AV}{K:AV->Mu->Prop}{xs:List (List AV)}{mu:Mu}{sz:Nat}
abbrev rB(b:Bool):List AV:=[aB b]
theorem un(l:List Bool):zm 1 (l.map rB):=fun r g=>by
 obtain⟨n,_,rfl⟩:=qn.1 g;exact⟨rfl,rfl⟩
theorem OwnF.rdB{lo av}{xs:List Bool}(h:OwnF lo mu 1 av (xs.map rB)):Rd mu av (.lst false (xs.map rB)):=
 h.1.rd (un xs).ok fun r g c i=>by
  obtain⟨n,_,rfl⟩:=qn.1 g
  grind [HF.sc]
theorem Kc{lo mu' av}(h:OwnF lo mu sz av xs)(i:MuLe mu mu'):OwnF lo mu' sz av xs:=by
 obtain⟨j,l,o⟩:=h;have g:mu.length<=mu'.length:=by
  rcases Nat.eq_zero_or_pos mu.length with p|p
  .omega
  .have:=i (mu.length-1) mu[mu.length-1] (qA zOm)
   have:=(qk.1 this).1;omega
 refine⟨?_,l,zL o g⟩;rcases j with rfl|⟨b,rfl,r⟩
 .exact .inl rfl
 .exact .inr ⟨b,rfl,i _ _ r⟩
theorem ZV(ts):∀ k,k<=ts.sT.length->(tmsL ts k).length=k
 | 0,_=>rfl
 |k+1,h=>by
  have g:k<ts.sT.length:=zOm;simp[tmsL,ZV ts k zOm,qA g]
theorem uQ{ts}(h:okTS ts){k}(g:k<=ts.sT.length):okCk (mkCk ts k):=⟨h,g,Nat.le_of_eq (ZV ts k g).symm⟩
theorem qk8(ts)(h:okTS ts)(hs:∀ p,p∈ts.sT->Small p.body)(n)(hn:n<=ts.sT.length):qi qe 114 [eTS ts,aI n] (eCk (mkCk ts n)):=by
 refine qSQ call114 func114 rfl { mt:=[9] } ?_;have a8:=h.np;simp[go_sem];refine kL n (fun k U=>∃ t r,U.tm 1=aI n/\U.tm 2 = .ip (cTS ts)/\U.tm 5 = .ptr 0 0/\U.mu=[.arr [lSo ts.sS,lFl ts.sA,lPd ts.sT,lFa ts.sP,aI k,t]]++r/\OwnF 1 U.mu 1 t ((tmsL ts k).map rB)) ?_ ?_
 .refine ⟨.lst true [],[],zSi,zSi,zSi,zSi,?_⟩
  exact OwnF.nil zSi
 .rintro k U hk ⟨t,r,e1,e2,e5,hm,ho⟩
  have a3:Rd U.mu (.ptr 0 0) (eCk (mkCk ts k)):=by
   rw[hm];refine .ptr 0 0 _ _ rfl zSp (fun j x y l o=>?_);rw[<-hm]
   match j with
   | 0=>simp at l o;subst l;subst o;exact .hf _ (Up _)
   | 1=>simp at l o;subst l;subst o;exact .hf _ (JQ _)
   | 2=>simp at l o;subst l;subst o;exact .hf _ (Zg _)
   | 3=>simp at l o;subst l;subst o;exact .hf _ (Uo _)
   | 4=>simp at l o;subst l;subst o;exact .zsc _
   | 5=>simp at l o;subst l;subst o;exact OwnF.rdB ho
   |j+6=>simp at l
  by_cases a0:k<n
  .have I:k<ts.sT.length:=by omega
   simp[go_sem,e1,e5,hm,a0];refine cH zKr ?_;have a1:OwnF 1 (U.mu++[.arr (cNd ts.sT[k].body)]) 1 t ((tmsL ts k).map rB):=Kc ho (MuLe.push _ _);have C:=Rd.le (MuLe.push U.mu (.arr (cNd ts.sT[k].body))) a3;have a4:=nR (mkCk ts k) (uQ h zOm) _ ts.sT[k].body (qr _) (hs _ (qs I));have a5:tmsL ts (k+1)=tmsL ts k++[yD (mkCk ts k) ts.sT[k].body]:=by
    simp only[tmsL,qA I];rfl
   have hl:=ZV ts k zOm;rw[hm]at a1 C;simp[go_sem,e2,e5,I];refine cH zKr ?_;simp[go_sem,e5,qi2];refine fX a4 ⟨zUs C,.hf _ (qL _),trivial⟩ (FL.sc _) ?_;simp[go_sem];refine qz.ownF (lo:=1) (e:=4) (sz:=1) (bt:=1) (zv:=aB false) (xs:=(tmsL ts k).map rB) (ys:=[rB (yD (mkCk ts k) ts.sT[k].body)]) zSi zSi zSi rfl rfl zOm zOm (zUs a1) (by simp[qD]) (un _) (un [_]) zSo ?_;intro a2 a9 J a6;obtain⟨R,rfl⟩:=qi8 (a6 0 zOm);have w1:=zWk k;simp[go_sem,e5,a0,w1,OwnF.cells J,OwnF.one J];refine aK ?_;refine⟨a2,R,zS1 e1,zS1 e2,zS1 e5,zSi,?_⟩;have e3:(tmsL ts k).map rB++[rB (yD (mkCk ts k) ts.sT[k].body)]=(tmsL ts (k+1)).map rB:=by rw[a5,zb];rfl
   rw[<-e3];exact OwnF.low (low:=[.arr [lSo ts.sS,lFl ts.sA,lPd ts.sT,lFa ts.sP,aI k,t]]) (low':=[.arr [lSo ts.sS,lFl ts.sA,lPd ts.sT,lFa ts.sP,aI (k+1),a2]]) J rfl
  .obtain rfl:k=n:=by omega
   simp_all[go_sem]
theorem ofU'(full l)(j:l.length<=3)(o:∀ x,x∈l->0<=x/\x<128):qi qe 210 [.lst full (l.map rI)] (eKd (kOf l)):=by
 have:=ofU l j o;refine⟨this.1,fun g w p r t=>this.2 g w p r ?_⟩;obtain⟨v,rfl,C⟩:=t.one_inv;exact⟨rfl,fun k x i=>by
  cases k with
  |zero=>simp at i;subst i;simpa using C.ro
  |succ k=>simp at i⟩
theorem bindU(ns:Nat)(I:ns<=4)(env:List (tA×Int))(T:env.length<=1000000)(J:∀ p,p∈env->0<=p.2/\p.2<ns):qi qe 168 [lPm env] (aSc (yn env)):=by
 refine qSU call168 func168 rfl ?_;refine qm.up env.length (fun k U=>U.tm 3=aSc (yn (env.take k))/\U.tm 6=lPm env/\U.tm 7=aI env.length/\U.tm 8=aI k) ?_ ?_
 .simp [go_sem]
  rfl
 .rintro k U hk ⟨t,C,i,j⟩
  by_cases l:k=env.length
  .subst l
   simp[go_sem,t,i,j];exact .hf _ (Qd _)
  .have g:k<env.length:=by omega
   have P:yn (env.take (k+1))=(env[k].1,kOf [env[k].2]) :: yn (env.take k):=by
    unfold yn;rw[List.take_add_one,qA g,vQ];rfl
   have o:=ofU' true [env[k].2] zSp (fun x hx=>by grind);have R:=zWk k;simp[go_sem,C,i,j,g];refine fM ?_;refine cQ o (.zk (HF.lst fun r J c hc=>by grind [HF.sc]) .nil) ?_;simp[go_sem,t,C,i,j,g,R];rw[P];rfl
theorem wv(a b:tA):(a.toList == b.toList)=decide (a=b):=by
 grind [jV,decide_eq_false]
theorem appK{xs k}(j:OwnF 0 mu 2 s (xs.map cKd))(l:xs.length<=100000)(o:∀ av mu',OwnF 0 mu' 2 av ((xs++[k]).map cKd)->K av mu') :
  qz qe mu #[265,265] s (.lst true [cKd k]) K:=by
 refine qz.ownF (lo:=0) (e:=260) (sz:=2) (bt:=16) (zv := .agg [aI 0,.sc (.map none)]) (xs:=xs.map cKd) (ys:=[cKd k]) zSi zSi zSi rfl rfl zOm zOm j (by simp[qD]) (Zf _) (Zf [k]) zSo ?_
 grind
theorem mR{xs k b c}(j:Own mu 2 s (xs.map cKd))(l:mu[b]?=some c)(o:∀ off len,s ≠ .sl b 2 off len)(I:xs.length<=100000)
  (g:∀ av mu',Own mu' 2 av ((xs++[k]).map cKd)->mu'[b]?=some c->(∀ off len,av ≠ .sl b 2 off len)->K av mu') :
  qz qe mu #[265,265] s (.lst true [cKd k]) K:=by
 have p:b<mu.length:=(qk.1 l).1;have r:=yL (Zf xs).ok;refine .inl ⟨_,_,260,2,16,[cKd k],rfl,zSi,zSi,⟨.agg [aI 0,.sc (.map none)],zSi,rfl,rfl⟩,zOm,zOm,by simp[qD],Zf [k],?_⟩;rcases j with rfl|⟨i,rfl,t⟩
 .refine .inl ⟨xs.map cKd,rfl,Zf xs,zSo,fun h=>by simp at h,fun _=>?_⟩
  refine g _ _ (.inr ⟨mu.length,zSp,zSp⟩) (by grind) (fun off len e=>?_)
  grind
 .refine .inr ⟨i,xs.length,_,zSp,t,by grind,zSo,?_⟩
  have C:i≠b:=fun e=>o 0 _ (by rw[e])
  refine g _ _ (.inr ⟨mu.length,zSp,?_⟩) (by grind) (fun off len e=>?_)
  .grind
  grind
theorem J2(h:Own mu sz s xs)(c):Own (mu++[c]) sz s xs:=by
 rcases h with rfl|⟨b,rfl,g⟩
 .exact .inl rfl
 .exact .inr ⟨b,rfl,by grind⟩
theorem qk9(h:Own mu sz s xs):∀ off len,s ≠ .sl mu.length sz off len:=by
 intro off len e;rcases h with rfl|⟨b,rfl,g⟩
 .cases e
 grind
theorem qlA{fs:List Fld}{k}(g nm):yN (fs.take (k+1)) nm=yN (fs.take k) nm++(if fs[k].name=nm then [kOf fs[k].sS] else []):=by
 unfold yN;rw[List.take_add_one,qA g,List.filterMap_append];congr 1;simp only[Option.toList_some,List.filterMap_cons,List.filterMap_nil];split<;>rename_i h<;>split at h<;>simp_all
theorem mS(fs nm):(yN fs nm).length<=fs.length:=List.length_filterMap_le ..
theorem mT:∀{so:List (tA×Bool)}{i k}(g nm),yO i (so.take (k+1)) nm=yO i (so.take k) nm++uj (i+k) so[k] nm
 | [],_,_,h,_=>by simp at h
 |s :: so,i,0,_,nm=>by simp[yO]
 |s :: so,i,k+1,h,nm=>by
  have:=mT (so:=so) (i:=i+1) (k:=k) (zUs h) nm;simp only[List.take_succ_cons,yO,List.getElem_cons_succ]at this⊢;rw[this,zt,show i+1+k=i+(k+1) by omega]
theorem qlB(i s nm):(uj i s nm).length<=3:=by
 grind [uj,za,kOf,je,vd]
theorem mU:∀ so i nm,(yO i so nm).length<=3*so.length
 | [],_,_=>by simp[yO]
 |s :: so,i,nm=>by
  have:=mU so (i+1) nm;have:=qlB i s nm;simp only[yO,za,zu];omega
theorem Ke(ts)(h:okTS ts)(nm):qi qe 169 [eTS ts,aS nm] (.lst false ((means ts nm).map cKd)):=by
  refine qSV call169 func169 rfl ?_;have ar:=h.nf;have au:=h.ns;simp[go_sem];refine kL ts.sA.length (fun k U=>U.tm 1=aS nm/\U.tm 2 = .ip (cTS ts)/\U.tm 11=lFl ts.sA/\U.tm 12=aI ts.sA.length/\U.tm 13=aI k/\OwnF 0 U.mu 2 (U.tm 5) ((yN (ts.sA.take k) nm).map cKd)) ?_ ?_
  · exact⟨zSi,zSi,zSi,zSi,zSi,by simp[go_sem];exact OwnF.nil (Nat.zero_le _)⟩
  · rintro k U hk ⟨I,e2,J,p,P,R⟩
    by_cases he:k=ts.sA.length
    · subst he
      rw[qP]at R;simp[go_sem,e2,p,P];have a5:=mS ts.sA nm;refine kL ts.sS.length (fun k U=>U.tm 1=aS nm/\U.tm 29=lSo ts.sS/\U.tm 30=aI ts.sS.length/\U.tm 31=aI k/\Own U.mu 2 (U.tm 5) ((yN ts.sA nm++yO 0 (ts.sS.take k) nm).map cKd)) ?_ ?_
      · exact⟨zS1 I,zSi,zSi,zSi,by simp[go_sem,yO];simpa using R.1⟩
      · rintro k U hk ⟨I,a6,a2,a0,R⟩
        by_cases he:k=ts.sS.length
        · subst he
          rw[qP]at R;simp[go_sem,a2,a0];exact R.rd (Zf _).ok (fun r hr c hc=>by
            obtain⟨x,_,rfl⟩:=qn.1 hr;simp at hc;rcases hc with rfl|rfl
            · exact HF.sc _
            · exact JG _)
        · have g:k<ts.sS.length:=by omega
          have w1:=zWk k;have aw:=mU (ts.sS.take k) 0 nm;have ax:(ts.sS.take k).length<=4:=zSo;have a7:=ofU' true [(k:Int)] zSp (fun x hx=>by grind);have a8:=ofU' true [(k:Int),(k:Int)] zSp (fun x hx=>by grind);have ag:HF (.lst true [rI k]):=HF.lst fun r hr c hc=>by grind [HF.sc]
          have ah:HF (.lst true [rI k,rI k]):=HF.lst fun r hr c hc=>by grind [HF.sc]
          have a1:=mT (i:=0) g nm;rw[yf]at a1;have ay:=h.sl _ (qs g);generalize ai:ts.sS[k]=so at *
          obtain⟨o,sb⟩:=so;have az:(yN ts.sA nm++yO 0 (ts.sS.take k) nm).length<=18:=by grind
          have b0:∀ x:Kd,((yN ts.sA nm++yO 0 (ts.sS.take k) nm)++[x]).length<=19:=fun x=>by grind
          have b1:∀ x y:Kd,(((yN ts.sA nm++yO 0 (ts.sS.take k) nm)++[x])++[y]).length<=20:=fun x y=>by grind
          generalize hX:yN ts.sA nm++yO 0 (ts.sS.take k) nm=X at *
          have l:∀(s:AV)(C:Mu)(Y:List Kd),Y=X++uj k (o,sb) nm->Own C 2 s (Y.map cKd)->Own C 2 s ((yN ts.sA nm++yO 0 (ts.sS.take (k+1)) nm).map cKd):=by
            grind
          have b2:∀ b:tA,o++je=b->(o++je).toList == b.toList:=fun b h=>by rw[h];simp
          have a3:=fun c=>J2 R c
          have aq:=qk9 R;have aj:(o++je=nm)=(o++(⟨#[95,102,105,114,115,116]⟩:tA)=nm):=rfl;have ak:(o++vd=nm)=(o++(⟨#[95,110,101,120,116]⟩:tA)=nm):=rfl;simp only[uj,aj,ak]at l;have a9:o.size<=9223372036854775801:=by grind
          have aa:o.size<=9223372036854775802:=zOm;simp only[zb]at l;obtain⟨d1,al⟩:∃ d,decide (o=nm)=d:=⟨_,rfl⟩;obtain⟨d2,ab⟩:∃ d,decide (o++(⟨#[95,102,105,114,115,116]⟩:tA)=nm)=d:=⟨_,rfl⟩;obtain⟨d3,ad⟩:∃ d,decide (o++(⟨#[95,110,101,120,116]⟩:tA)=nm)=d:=⟨_,rfl⟩;have p1:(o=nm)=(d1=true):=by grind
          have p2:(o++(⟨#[95,102,105,114,115,116]⟩:tA)=nm)=(d2=true):=by grind
          have p3:(o++(⟨#[95,110,101,120,116]⟩:tA)=nm)=(d3=true):=by grind
          simp only[p1,p2,p3]at l;cases d1<;>cases d2<;>cases d3<;>cases sb
          all_goals simp only[if_true,if_false,zO,vo,and_false,and_true,reduceCtorEq]at l
          all_goals simp[go_sem,wv,I,a6,a2,a0,g,ai,al,ab,ad,w1,a9,aa]
          all_goals repeat' (first
            | (refine cQ a7 (.zk ag .nil) ?_
               simp[go_sem];refine mR (b:=U.mu.length) (by first|exact a3 _|assumption) (by first|assumption|exact List.getElem?_concat_length) (by assumption) (by first | (simp only[za,List.length_singleton];omega)|omega) ?_;rintro t j a4 ae an;simp[go_sem,wv,I,a0,g,ab,ad,w1,a9,aa,ae])
            | (refine cQ a8 (.zk ah .nil) ?_
               simp[go_sem];refine mR (b:=U.mu.length) (by first|exact a3 _|assumption) (by first|assumption|exact List.getElem?_concat_length) (by assumption) (by first | (simp only[za,List.length_singleton];omega)|omega) ?_;rintro t j a4 ae an;simp[go_sem,a0,g,w1]))
          all_goals
            refine aK ?_;refine⟨zS1 I,zS1 a6,zS1 a2,zSi,?_⟩;simp only[gZ,qC];simp;refine l _ _ _ ?_ (by first|assumption|exact a3 _);simp
    · have g:k<ts.sA.length:=by omega
      have af:=h.fl _ (qs g);have w1:=zWk k;have ao:=ofU' false ts.sA[k].sS af.2.1 (fun x hx=>zW1 (af.2.2 x hx));have a1:=qlA g nm;have a5:=mS (ts.sA.take k) nm;by_cases hn:ts.sA[k].name=nm
      · simp[go_sem,I,J,p,P,g,hn]
        refine fR ao (.zk (zh _) .nil) ?_;refine appK (xs:=yN (ts.sA.take k) nm) (Kc R (MuLe.push _ _)) (by simp at a5⊢;omega) ?_;intro t j a4;simp[go_sem,P,g,w1];refine aK ?_;refine⟨zS1 I,zS1 e2,zS1 J,zS1 p,zSi,?_⟩;rw[a1,if_pos hn];simpa[go_sem] using a4
      · simp[go_sem,I,J,p,P,g,jV hn,w1]
        refine aK ?_;refine⟨zS1 I,zS1 e2,zS1 J,zS1 p,zSi,?_⟩;rw[a1,if_neg hn,zO];simpa[go_sem] using Kc R (MuLe.push _ _)
end
end Y10
namespace Y11
open Y1 Y2 Y3 P1 Y7 YS YF Y9 Y10
def cKo:Option Kd->List AV
 |some k=>cKd k
 |none=>[aI 0,.sc (.map none)]
@[go_sem] theorem cKo_some(k):cKo (some k)=cKd k:=rfl
@[go_sem] theorem cKo_none:cKo none=[aI 0,.sc (.map none)]:=rfl
theorem mV(k):∀ c,c∈cKo k->HF c:=by
 intro c g;cases k with
 |none=>simp[cKo]at g;rcases g with rfl|rfl<;>exact HF.sc _
 |some k=>simp[cKo]at g;rcases g with rfl|rfl;exact HF.sc _;exact JG _
theorem qlC(k):HF (.agg (cKo k)):=HF.agg (mV k)
theorem Kf(k):(cKo k).length=2/\(cKo k).all AV.one=true:=by cases k<;>exact⟨rfl,rfl⟩
def endK:Res->AEnd
 | .ok k => .ret (.agg (cKo k))
 | .error e => .pan (jU e.1 e.2)
@[go_sem] theorem endK_ok(k):endK (.ok k) = .ret (.agg (cKo k)):=rfl
@[go_sem] theorem qv8(e):endK (.error e) = .pan (jU e.1 e.2):=rfl
theorem Kg(c)(g:okCk c)(s:Scp)(n):qZ qe 207 [eCk c,aSc s,eNd n] (endK (jz c s n.name n.pos)):=by
 refine zi.of_sound ?_;refine qSW call207 func207 rfl {} ?_;simp[go_sem];refine cQ (findU s n.name) (.zk (Qd s) (.zs .nil)) ?_;unfold jz;cases hf:js n.name s with
 |cons v r =>
  simp[go_sem,aSc];exact .hf _ (z6 v.2)
 |nil =>
  simp[go_sem,aSc];refine fM ?_;refine cQ (Ke c.ts g.ts n.name) (.zk (zn c.ts) (.zs .nil)) ?_;have i:=zS;cases j:means c.ts n.name with
  |nil =>
   simp[go_sem];refine fZ (zS false 40 n) (.zs (.zs (.zk (qL n) .nil))) ?_;simp[go_sem];exact .hf _ (yH _ _)
  |cons k ks =>
   simp[go_sem];refine cQ (zS true 40 n).toP (.zs (.zs (.zk (qL n) .nil))) ?_;cases ks with
   |nil =>
    simp[go_sem];refine fR (zS true 44 n).toP (.zs (.zs (.zk (qL n) .nil))) ?_;exact .hf _ (z6 k)
   |cons l ks =>
    simp[go_sem];refine fZ (zS false 44 n) (.zs (.zs (.zk (qL n) .nil))) ?_;simp[go_sem];exact .hf _ (yH _ _)
theorem qlD(k g)(C:1<=g)(T:g<=3):kSum (zB k g) (kOf (qO g (k:Int)))=zB (k+1) g:=by
 have o:∀ k,((qu k).map fun (i:Nat)=>pad (qO g (i:Int))).Nodup:=by
  intro k;refine List.pairwise_map.2 ((List.pairwise_iff_getElem.2 fun i j U hj I=>?_));simp only[List.getElem_range];obtain⟨a,rfl⟩:∃ a,g=a+1:=⟨g-1,zOm⟩;intro e;simp[pad,List.replicate_succ]at e;omega
 have J:∀ l:List Tp,l.Nodup->uni [] l=l:=by
  intro l P;have:∀(b a:List Tp),(a++b).Nodup->uni a b=a++b:=by
   intro b;induction b with
   |nil=>intro a _;simp[uni]
   |cons x b R =>
    intro a h;have p:x ∉ a:=fun r=>(Zw.1 h).2.2 x r x zSp rfl
    show uni (ins a x) b=_;rw[show ins a x=a++[x] by unfold ins;rw[if_neg p],R (a++[x]) (zUs h)];simp
  simpa using this l [] (zUs P)
 unfold kSum zB kOf;simp only;rw[J _ (o k)];have t:=o (k+1);rw[List.range_succ,zb,List.map_singleton]at t⊢;have p:pad (qO g (k:Int)) ∉ (qu k).map fun (i:Nat)=>pad (qO g (i:Int)):=fun r=>(Zw.1 t).2.2 _ r _ zSp rfl
 congr 1;show ins _ _=_;unfold ins;rw[if_neg p]
theorem Kh(c)(I:okCk c)(g:Nat)(h1:1<=g)(h3:g<=3):qi qe 233 [eCk c,aI g] (eKd (zB c.ts.sS.length g)):=by
 refine qSV call233 func233 rfl ?_;have a0:=I.ts.ns;simp[go_sem];refine fR (nv g) (.zs .nil) ?_;refine qm.up c.ts.sS.length (fun k U=>U.tm 1=aI g/\U.tm 4 = .ptr 0 0/\U.tm 5 = .ptr 1 0/\U.tm 13=lSo c.ts.sS/\U.tm 14=aI c.ts.sS.length/\U.tm 15=aI k/\U.mu=[.arr [aI 0,.sc (.map none)],.arr (cKd (zB k g))]) ?_ ?_
 .simp [go_sem,zB]
 .rintro k U hk ⟨e1,e4,P,R,l,o,hm⟩
  by_cases he:k=c.ts.sS.length
  .subst he
   simp[go_sem,e4,P,l,o,hm];exact .hf _ (z6 _)
  .have p:k<c.ts.sS.length:=by omega
   have w1:=zWk k;have J:=qjM k g zOm;have T:=ofU' false (qO g (k:Int)) (zUs h3) (fun x hx=>by rw[List.eq_of_mem_replicate hx];omega);have C:=sumU true (zB k g) (kOf (qO g (k:Int))) (fun t j=>by
    have j:t∈(qu k).map fun (i:Nat)=>pad (qO g (i:Int)):=j
    obtain⟨i,_,rfl⟩:=qn.1 j;rfl) (fun t j=>by
    have j:t∈[pad (qO g (k:Int))]:=j;simp at j;subst j;rfl)
   rw[qlD k g h1 h3]at C;simp[go_sem,l,o,hm,p];refine cH zKr ?_;simp[go_sem,e1,P];refine fR J (.cons (WK.lst fun r J c I=>by simp at J;subst J;simp at I;subst I;exact HF.sc _) (.zs .nil)) ?_;refine fR T (.zk (zh _) .nil) ?_;refine cQ C (.zk (z6 _) (.zk (JL _ [_]) .nil)) ?_;simp[go_sem,e1,e4,P,R,l,o,p,w1]
end Y11
namespace Y12
open Y1 Y2 Y3 P1 YM Y5 Y6 Y7 Y8 Y9 Y11
def trF(t:Tp):Tp:=[t.getD 1 0,t.getD 0 0,0]
theorem UG{a:List Tp}{t}:t∈uni [] (a.map fun t=>[t.getD 1 0,t.getD 0 0,0])↔∃ x,x∈a/\trF x=t:=by
 rw[vY];simp[trF]
theorem qlE(ns)(h:ns<=4):ok2 (zB ns 2):=by
 have g:((qu ns).map fun (i:Nat)=>pad (qO 2 (i:Int))).Nodup:=by
  refine List.pairwise_map.2 (List.pairwise_iff_getElem.2 fun i j o r p=>?_);simp only[List.getElem_range];intro e;simp[pad,List.replicate_succ]at e;omega
 refine⟨rfl,g,fun t l=>?_⟩;have l:t∈(qu ns).map fun (i:Nat)=>pad (qO 2 (i:Int)):=l
 obtain⟨i,o,rfl⟩:=qn.1 l;rw[yb]at o;exact⟨i,i,rfl,zOm,zOm,zOm,zOm⟩
theorem qlF{a}(h:ok2 a):ok2 (kClo a):=by
 have:∀(f n:Nat)(a:Kd),ok2 a->ok2 (cloN f n a):=by
  intro f;induction f with
  |zero=>intro n a h;exact h
  |succ f g =>
   intro n a h;unfold cloN;split
   .exact g _ _ (h.sum h.join)
   .exact h
 exact this 70 0 a h
theorem qlG(c)(hc:okCk c)(op a)(R:ok2 a)(a0:op=11\/op=12\/op=13):qi qe 237 [eCk c,aI op,eKd a] (eKd (binK c.ts.sS.length op a)):=by
 refine qSV call237 func237 rfl ?_;have C:=hc.ts.ns;unfold binK;rcases a0 with rfl|rfl|rfl
 .simp [go_sem]
  refine fQ (JH _ _) ?_ (by rintro r m ⟨e,_⟩;cases e);rintro r m ⟨e,c,rfl⟩;cases e;simp[go_sem];refine qm.seen a.ts.length (fun seen U=>U.tm 5 = .ip (cKd a)/\U.tm 6 = .ptr 0 0/\U.tm 7 = .ptr 3 0/\U.tm 25 = .ptr 4 0 /\
   ColS 2 (.arr [aI 0,.sc (.map none)]) c (.it (eT a.ts) seen) (fun t=>∃ x,(∃ i,i∈seen/\a.ts[i]?=some x)/\trF x=t) U.mu) ?_ ?_
  .exact ⟨zSi,zSi,zSi,zSi,[],rfl,rfl,rfl,rfl,rfl,zSp,zSp,zSp⟩
  .rintro seen U a5 a6 ⟨e5,e6,e7,I,l,k0,k1,k2,k3,k4,h1,h2,h3⟩
   simp[go_sem,I];refine⟨4,eT a.ts,seen,rfl,k4,fun i e hi C=>?_,fun p=>?_⟩
   .obtain ⟨x,hx,rfl⟩:=ZO hi
    have a1:okT x:=R.okK.len x (q8 hx);have a2:i<a.ts.length:=(qk.1 hx).1;have a3:x.length=3:=a1;have o:4<U.mu.length:=(qk.1 k4).1;have g:∀(c:Cell)(l:List Cell)(j:Nat),j<4->((U.mu.set 4 c)++l)[j]?=U.mu[j]?:=fun c l j hj=>by
     rw[qN zSo,zGl]
    have q2:=fun c l=>(g c l 2 zOm).trans k2
    have q3:=fun c l=>(g c l 3 zOm).trans k3
    obtain⟨J,P,T,rfl⟩:∃ J P T,x=[J,P,T]:=by
     match x,a3 with
     | [J,P,T],_=>exact⟨_,_,_,rfl⟩
    simp[go_sem,e7,I,hi,o,q3];refine cL _ (updT (t:=[P,J,0]) (q2 _ _) rfl h2) ?_;simp[go_sem];refine⟨i,a2,C,zS1 e5,zS1 e6,zS1 e7,zS1 I,ins l [P,J,0],?_,?_,?_,?_,?_,Yq h1,fun t ht=>?_,fun t=>?_⟩
    .simp only[qC]
     rw[zGl,g _ _ 0 zOm,k0]
    .simp only[qC]
     rw[zGl,g _ _ 1 zOm,k1]
    .simp only[qC]
     rw[qM zSo]
    .simp only[qC]
     rw[zGl,g _ _ 3 zOm,k3]
    .simp only[qC]
     rw[zGl,qN (zUs o),qM o]
    .rcases uK.1 ht with h|rfl
     .exact h2 t h
     .rfl
    .simp only[uK,h3,XA hx]
     constructor
     .rintro (⟨y,h,e⟩|rfl)
      .exact ⟨y,.inl h,e⟩
      .exact ⟨[J,P,T],.inr rfl,rfl⟩
     .rintro ⟨y,h|rfl,e⟩
      .exact .inl ⟨y,h,e⟩
      .exact .inr e.symm
   .obtain ⟨a4,hm⟩:=four k0 k1 k2 k3
    simp[go_sem,e6,e7,hm];refine Rd.aggs ⟨.hf _ (HF.sc _),Rd.setT (k:=(kTr a).ts) rfl h1 (we zSp) (fun t=>?_),trivial⟩;refine(h3 t).trans (Iff.trans ?_ UG.symm);constructor
    .rintro ⟨y,h,e⟩;exact⟨y,(XB (zUs p)).1 h,e⟩
    .rintro ⟨y,h,e⟩;exact⟨y,(XB (zUs p)).2 h,e⟩
 .simp [go_sem]
  refine fR (Ul a R) (.zk (z6 _) .nil) ?_;exact .hf _ (z6 _)
 .simp [go_sem]
  refine fR (Ul a R) (.zk (z6 _) .nil) ?_;refine fR (Kh c hc 2 zOm zOm) (.zk (jB _) (.zs .nil)) ?_;refine fR (sumU true (kClo a) (zB c.ts.sS.length 2) (qlF R).okK.len (qlE _ C).okK.len) (.zk (z6 _) (.zk (JL _ [_]) .nil)) ?_;exact .hf _ (z6 _)
theorem hfK2(n)(ts:List Tp):HF (.agg [aI n,mKd ts]):=z6 ⟨n,ts⟩
theorem hfKn:HF (.agg [aI 0,.sc (.map none)]):=qlC none
theorem wkR(n b e):WKs [aB b,aI e,eNd n] [aB b,aI e,eNd n] := .zs (.zs (.zk (qL n) .nil))
structure ApOk (op:Int) (l:List (Option Kd)):Prop where
 one:op=5->∃ a,l=[a]
 bin:op=11\/op=12\/op=13->∃ a,l=[some a]/\okK a/\(a.ar=2->ok2 a)
 two:op=6\/op=14\/op=7\/op=8\/op=32\/op=33\/op=9\/op=10->∃ a b,l=[some a,some b]/\okK a/\okK b
theorem UH{ns op n pos l}(i:op≠2)(j:op≠3)(o:op≠4)(p:op≠5)(r:op≠11)(t:op≠12)(C:op≠13)(t1:op≠6)(t2:op≠14)(t3:op≠7)(t4:op≠8)(t5:op≠32)(t6:op≠33)(I:op≠9)(g:op≠10):yh ns op n pos l = .ok none:=by
 unfold yh;rw[if_neg i,if_neg j,if_neg o];split
 .simp only[p,r,t,C,or_self,if_false]
  split<;>rfl
 .simp only[t1,t2,t3,t4,t5,t6,I,g,or_self,if_false]
 .rfl
theorem qlH(c)(hc:okCk c)(full n l)(P:ApOk n.op l):qZ qe 209 [eCk c,eNd n,.lst full (l.map cKo)] (endK (yh c.ts.sS.length n.op n.n n.pos l)):=by
 refine zi.of_sound ?_;refine qSW call209 func209 rfl {} ?_;by_cases ho:n.op=2\/n.op=3\/n.op=4\/n.op=5\/n.op=11\/n.op=12\/n.op=13\/n.op=6\/n.op=14\/n.op=7\/n.op=8\/n.op=32\/n.op=33\/n.op=9\/n.op=10
 case neg =>
  simp only[not_or]at ho;obtain⟨T,U,h4,C,b1,b2,b3,t1,t2,t3,t4,t5,t6,h9,p⟩:=ho;rw[UH T U h4 C b1 b2 b3 t1 t2 t3 t4 t5 t6 h9 p];simp[go_sem,T,U,h4,C,b1,b2,b3,t1,t2,t3,t4,t5,t6,h9,p];exact .hf _ hfKn
 unfold yh;by_cases T:n.op=2
 .simp [go_sem,T]
  refine fR (nv n.n) (.zs .nil) ?_;exact .hf _ (hfK2 _ _)
 by_cases U:n.op=3
 .simp [go_sem,U]
  refine fR (Kh c hc 1 zOm zOm) (.zk (jB _) (.zs .nil)) ?_;exact .hf _ (z6 _)
 by_cases h4:n.op=4
 .simp [go_sem,h4]
  refine fR (Kh c hc 2 zOm zOm) (.zk (jB _) (.zs .nil)) ?_;exact .hf _ (z6 _)
 by_cases C:n.op=5
 .obtain ⟨a,rfl⟩:=P.one C
  cases a with
  |none=>simp[go_sem,C];exact .hf _ hfKn
  |some a=>simp[go_sem,C];exact .hf _ (hfK2 _ _)
 by_cases I:n.op=11\/n.op=12\/n.op=13
 .obtain ⟨a,rfl,o,a0⟩:=P.bin I
  have r:=fun h=>qlG c hc n.op a (a0 h) I
  by_cases i:a.ar=2
  .have r:=r i
   rcases I with h|h|h<;>rw[h]at r
   all_goals
    simp[go_sem,h,i];refine cH zKr ?_;simp[go_sem,i];refine fR (zS true 42 n).toP (wkR n true 42) ?_;refine cH zKr ?_;simp[go_sem,h];refine fR r (.zk (jB _) (.zs (.zk (z6 _) .nil))) ?_;exact .hf _ (z6 _)
  .rcases I with h|h|h
   all_goals
    simp[go_sem,h,i];refine qj.tail 6 zKr ?_;simp[go_sem,i];refine fZ (zS false 42 n) (wkR n false 42) ?_;simp[go_sem];exact .hf _ (yH _ _)
 by_cases ht:n.op=6\/n.op=14\/n.op=7\/n.op=8\/n.op=32\/n.op=33
 .obtain ⟨a,b,rfl,o,g⟩:=P.two zOm
  have R:=qjF n.op a b o g;simp only[not_or]at I;by_cases i:a.ar=b.ar
  .rcases ht with h|h|h|h|h|h<;>rw[h]at R
   all_goals
    simp[go_sem,h,i];refine cH zKr ?_;simp[go_sem,i];refine fR (zS true 42 n).toP (wkR n true 42) ?_;refine cH zKr ?_;simp[go_sem,h];refine fR R (.zs (.zk (z6 _) (.zk (z6 _) .nil))) ?_;exact .hf _ (z6 _)
  .rcases ht with h|h|h|h|h|h
   all_goals
    simp[go_sem,h,i];refine qj.tail 10 zKr ?_;simp[go_sem,i];refine fZ (zS false 42 n) (wkR n false 42) ?_;simp[go_sem];exact .hf _ (yH _ _)
 simp only[not_or]at I ht;by_cases h9:n.op=9
 .obtain ⟨a,b,rfl,o,g⟩:=P.two zOm
  have hj:=wm a b o g;have J:qp.wrap (a.ar+b.ar)=a.ar+b.ar:=zW (zW2 o.ar g.ar) (zW2 o.ar g.ar);have w2:qp.wrap (a.ar+b.ar-2)=a.ar+b.ar-2:=zW (zW2 o.ar g.ar) (zW2 o.ar g.ar);simp[go_sem,h9];refine cH zKr ?_;by_cases t:1<=a.ar+b.ar-2
  .by_cases j:a.ar+b.ar-2<=3
   .simp [go_sem,J,w2,t,j]
    refine fR (zS true 42 n).toP (wkR n true 42) ?_;refine fM ?_;refine fR hj (.zk (z6 _) (.zk (z6 _) .nil)) ?_;exact .hf _ (z6 _)
   .simp [go_sem,J,w2,t,j]
    refine fZ (zS false 42 n) (wkR n false 42) ?_;simp[go_sem];exact .hf _ (yH _ _)
  .simp [go_sem,J,w2,t]
   refine fZ (zS false 42 n) (wkR n false 42) ?_;simp[go_sem];exact .hf _ (yH _ _)
 by_cases p:n.op=10
 .obtain ⟨a,b,rfl,o,g⟩:=P.two zOm
  have J:qp.wrap (a.ar+b.ar)=a.ar+b.ar:=zW (zW2 o.ar g.ar) (zW2 o.ar g.ar);by_cases j:a.ar+b.ar<=3
  .have hj:=Xz a b o g j
   simp[go_sem,p];refine cH zKr ?_;simp[go_sem,J,j];refine fR (zS true 42 n).toP (wkR n true 42) ?_;refine fM ?_;refine fR hj (.zk (z6 _) (.zk (z6 _) .nil)) ?_;exact .hf _ (z6 _)
  .simp [go_sem,p]
   refine qj.tail 11 zKr ?_;simp[go_sem,J,j];refine fZ (zS false 42 n) (wkR n false 42) ?_;simp[go_sem];exact .hf _ (yH _ _)
 exact absurd ho zOm
end Y12
namespace P2
open Y1 Y2 Y3 P1 Y6 Y8 Y9 Y12
section
variable {a b k:Kd}{l:List Int}{ns:Nat}
def kd(op:Int):Int:=if 1<=op/\op<=15 then 101 else if 20<=op/\op<=23 then 105 else if 30<=op/\op<=51 then 102 else 0
def shp(op:Int)(nk:Nat):Option (List Int):=
 if op=1\/op=2\/op=3\/op=4\/op=20\/op=30\/op=31 then some []
 else if op=5\/op=11\/op=12\/op=13\/op=21\/op=34\/op=35\/op=36\/op=37 then some [101]
 else if op=6\/op=7\/op=8\/op=9\/op=10\/op=14\/op=32\/op=33 then some [101,101]
 else if op=15\/op=45\/op=46 then some [101,102]
 else if op=22\/op=23\/op=38\/op=39 then some [105,105]
 else if op=40\/op=48\/op=49\/op=50 then some [102]
 else if op=41\/op=42\/op=43\/op=44\/op=51 then some [102,102]
 else if op=47 then some (qO (min nk 401) 101)
 else none
inductive WfN:Nd->Prop where
 |mk (n:Nd) (h:shp n.op n.sD.length=some (n.sD.map fun k=>kd k.op)) (hn:n.op=2->1<=n.n/\n.n<=3) (hk:∀ k,k∈n.sD->WfN k):WfN n
theorem WfN.shape{n}(h:WfN n):shp n.op n.sD.length=some (n.sD.map fun k=>kd k.op):=by cases h;assumption
theorem WfN.num{n}(h:WfN n):n.op=2->1<=n.n/\n.n<=3:=by cases h;assumption
theorem WfN.kid{n k}(h:WfN n)(g:k∈n.sD):WfN k:=by
 cases h with
 |mk _ _ _ h=>exact h k g
theorem mW{op nk}(h:shp op nk=some l):l.length<=401:=by
 grind [shp]
theorem WfN.len{n}(h:WfN n):n.sD.length<=401:=by
 have:=mW h.shape;simpa using this
theorem WfN.small{n}(h:WfN n):Small n:=by
 induction h with
 |mk n g j l i=>exact .mk n (by have:=mW g;simp at this;omega) i
structure okKd (ns:Nat) (k:Kd):Prop where
 ar:1<=k.ar/\k.ar<=3
 nd:k.ts.Nodup
 ts:∀ t,t∈k.ts->∃ l,t=pad l/\(l.length:Int)=k.ar/\∀ x,x∈l->0<=x/\x<ns
theorem okKd.okK(h:okKd ns k):okK k:=⟨h.ar,fun t g=>by obtain⟨l,rfl,_⟩:=h.ts t g;rfl,h.nd⟩
theorem okKd.ok2(h:okKd ns k)(o:ns<=4)(g:k.ar=2):ok2 k:=⟨g,h.nd,fun t p=>by
 obtain⟨l,rfl,i,j⟩:=h.ts t p;rw[g]at i
 match l,i with
 | [x,y],_ =>
  have r:=j x zSp;have g:=j y zSp;exact⟨x,y,rfl,zOm,zOm,zOm,zOm⟩⟩
theorem aY(i:k.ar=2)(g:k.ts.Nodup)(h:∀ t,t∈k.ts->∃ x y,t=[x,y,0]/\0<=x/\x<ns/\0<=y/\y<ns):okKd ns k:=⟨zOm,g,fun t j=>by
 obtain⟨x,y,rfl,o,p,r,C⟩:=h t j;exact⟨[x,y],rfl,by rw[i];rfl,fun z l=>by simp at l;omega⟩⟩
theorem okKd.pairs(h:okKd ns k)(g:k.ar=2):∀ t,t∈k.ts->∃ x y,t=[x,y,0]/\0<=x/\x<ns/\0<=y/\y<ns:=fun t p=>by
 obtain⟨l,rfl,i,j⟩:=h.ts t p;rw[g]at i
 match l,i with
 | [x,y],_ =>
  have o:=j x zSp;have g:=j y zSp;exact⟨x,y,rfl,o.1,o.2,g.1,g.2⟩
theorem Ki(j:1<=l.length)(o:l.length<=3)(i:∀ x,x∈l->0<=x/\x<ns):okKd ns (kOf l):=
 ⟨by grind [kOf],by simp[kOf],fun t g=>by
  have g:t∈[pad l]:=g;rw[qV]at g;exact⟨l,g,rfl,i⟩⟩
theorem qlI{n}(h:1<=n/\n<=3):okKd ns ⟨n,[]⟩:=⟨h,zSp,fun t g=>by simp at g⟩
theorem Kj(ns g)(C:1<=g)(I:g<=3):okKd ns (zB ns g):=by
 refine⟨by grind [zB],?_,fun t l=>?_⟩
 .refine List.pairwise_map.2 ((List.pairwise_iff_getElem.2 fun i j o J p=>?_))
  simp only[List.getElem_range];obtain⟨a,rfl⟩:∃ a,g=a+1:=⟨g-1,zOm⟩
  grind [pad]
 .have l:t∈(qu ns).map fun (i:Nat)=>pad (qO g (i:Int)):=l
  obtain⟨i,o,rfl⟩:=qn.1 l;rw[yb]at o;exact⟨_,rfl,by simp[zB],fun x r=>by rw[List.eq_of_mem_replicate r];omega⟩
theorem J3(i:okKd ns a)(j:okKd ns b)(h:a.ar=b.ar):okKd ns (kSum a b):=by
 refine⟨i.ar,we (we zSp),fun t g=>?_⟩;have g:t∈uni (uni [] a.ts) b.ts:=g;simp only[vY,qH,false_or]at g;rcases g with g|g
 .exact i.ts t g
 .obtain ⟨l,e,o,p⟩:=j.ts t g
  exact⟨l,e,by rw[o,<-h];rfl,p⟩
theorem qlJ(g:okKd ns a):okKd ns (Ys a b):=
 ⟨g.ar,g.nd.filter _,fun t i=>g.ts t (jM.1 i).1⟩
theorem qlK{op}(g:okKd ns a)(i:okKd ns b)(h:a.ar=b.ar):okKd ns (ul op a b):=by
 grind [ul,J3,qlJ]
theorem ZW(h:l.length<=3)(k)(g:k<=l.length):(pad l).take k=l.take k:=by
 match l,h with
 | [],_=>grind
 | [a],_=>match k,g with
  | 0,_=>rfl
  | 1,_=>rfl
 | [a,b],_=>match k,g with
  | 0,_=>rfl
  | 1,_=>rfl
  | 2,_=>rfl
 | [a,b,c],_=>match k,g with
  | 0,_=>rfl
  | 1,_=>rfl
  | 2,_=>rfl
  | 3,_=>rfl
theorem J4{g i}(j:g.length<=3)(l:i.length<=3)(s):conc (pad g) g.length (pad i) i.length s=pad (g.take (g.length-s)++i.drop s):=by
 simp_all[conc,ZW,qr,qP]
theorem J5(i:okKd ns a)(j:okKd ns b)(o:1<=a.ar+b.ar-2)(p:a.ar+b.ar-2<=3):okKd ns (zT a b):=by
 refine⟨⟨o,p⟩,Xy,fun t r=>?_⟩;obtain⟨x,y,⟨C,I⟩,hf⟩:=Ze.1 r;obtain⟨g,rfl,J,P⟩:=i.ts x C;obtain⟨l,rfl,R,T⟩:=j.ts y I;have U:=i.ar;have a0:=j.ar;unfold ZP at hf;split at hf
 .simp only[qv]at hf
  rw[show a.ar.toNat=g.length by omega,show b.ar.toNat=l.length by omega,J4 zOm zOm]at hf;refine⟨_,hf.symm,?_,fun z hz=>?_⟩
  .show ((g.take (g.length-1)++l.drop 1).length:Int)=a.ar+b.ar-2
   simp only[za,vR,List.length_drop];omega
  grind
 grind
theorem qlL(i:okKd ns a)(j:okKd ns b)(o:a.ar+b.ar<=3):okKd ns (uM a b):=by
 have p:=i.ar;have r:=j.ar;refine⟨⟨by grind [uM],o⟩,nH,fun t C=>?_⟩;obtain⟨x,y,⟨I,J⟩,hf⟩:=JI.1 C;obtain⟨g,rfl,P,R⟩:=i.ts x I;obtain⟨l,rfl,T,U⟩:=j.ts y J;unfold Qf at hf;simp only[qv]at hf;rw[show a.ar.toNat=g.length by omega,show b.ar.toNat=l.length by omega,J4 zOm zOm]at hf;refine⟨_,hf.symm,?_,fun z hz=>?_⟩
 .show ((g.take (g.length-0)++l.drop 0).length:Int)=a.ar+b.ar
  simp only[za,vR,List.length_drop];omega
 grind
theorem qlM(g:okKd ns a)(i:a.ar=2):okKd ns (kTr a):=by
 refine aY rfl (we zSp) (fun t j=>?_);obtain⟨x,l,rfl⟩:=UG.1 j;obtain⟨p,q,rfl,o,r,C,I⟩:=g.pairs i x l;exact⟨q,p,rfl,C,I,o,r⟩
theorem UI(i:okKd ns a)(g:a.ar=2):okKd ns (kClo a)/\(kClo a).ar=2:=by
 have:∀(f n:Nat)(a:Kd),okKd ns a->a.ar=2->okKd ns (cloN f n a)/\(cloN f n a).ar=2:=by
  intro f;induction f with
  |zero=>intro n a h g;exact⟨h,g⟩
  |succ f j =>
   intro n a h g;unfold cloN;split
   .exact j _ _ (J3 h (J5 h h zOm zOm) (by grind [zT])) g
   grind
 exact this 70 0 a i g
theorem qlN{op}(g:okKd ns a)(i:a.ar=2):okKd ns (binK ns op a):=by
 unfold binK;split
 .grind [UI]
 .split
  .exact J3 (UI g i).1 (Kj ns 2 zOm zOm) (by rw[(UI g i).2];rfl)
  .exact qlM g i
def ScOk(ns:Nat)(s:Scp):Prop:=∀ v,v∈s->okKd ns v.2/\v.2.ar=1
theorem mX{nm}:∀{s:Scp}{v}{r:Scp},js nm s=v :: r->v∈s
 | [],v,r,h=>by simp[js]at h
 |w :: s,v,r,h=>by
  unfold js at h;split at h
  .cases h;exact zl
  .exact zc _ (mX h)
theorem qlO{ts}(h:okTS ts){nm k}(g:k∈means ts nm):okKd ts.sS.length k:=by
 unfold means at g;rcases qK.1 g with g|g
 .unfold yN at g
  obtain⟨f,hf,e⟩:=List.mem_filterMap.1 g;split at e
  .cases e
   have:=h.fl f hf
   grind [Ki]
  grind
 .have:∀(j:List (tA×Bool))(i:Nat),i+j.length<=ts.sS.length->∀ k,k∈yO i j nm->okKd ts.sS.length k:=by
   intro j;induction j with
   |nil=>grind [yO]
   |cons s j l =>
    grind [zu,kOf,Ki,yO,uj]
  grind
theorem jh(c s inn n):exam c s inn n =
  if (inn&&z7 c n.op n.name)=true then .error (46,n.pos)
  else if n.op=1 then jz c s n.name n.pos
  else if n.op=47 then
   if (c.ts.sT.any fun p=>decide (p.name=n.name))=true then
    match zw c n.name with
    |none => .error (45,n.pos)
    |some p=>match c.ts.sT[p]? with
     |none => .error (45,n.pos)
     |some g=>if g.params.length=n.sD.length then ye c s n.pos g.params n.sD else .error (45,n.pos)
   else .error (40,n.pos)
  else if n.op=15\/n.op=45\/n.op=46 then ym c s (inn||decide (n.op=15)) n.name n.pos n.sD
  else match ze c s (inn||decide (n.op=12)||decide (n.op=13)) n.sD with
   | .error e => .error e
   | .ok l=>yh c.ts.sS.length n.op n.n n.pos l:=by
 obtain⟨op,o,k,ks,pos⟩:=n;simp only[exam,Nd.op,Nd.name,Nd.n,Nd.sD,Nd.pos];rfl
theorem J6{c s inn}:∀{ks l},ze c s inn ks = .ok l->l.length=ks.length/\∀(i:Nat) k a,ks[i]?=some k->l[i]?=some a->exam c s inn k = .ok a
 | [],l,h=>by grind [ze,uC]
 |k :: ks,l,h=>by
  simp only[ze]at h;cases g:exam c s inn k with
  |error e=>rw[g]at h;exact absurd h zSp
  |ok a =>
   rw[g]at h;simp only at h;cases j:ze c s inn ks with
   |error e=>rw[j]at h;exact absurd h zSp
   |ok r =>
    rw[j]at h;simp only[uC]at h;subst h;obtain⟨t,C⟩:=J6 j;refine⟨zP1 t,fun i I J o p=>?_⟩;cases i with
    |zero=>simp at o p;subst o;subst p;exact g
    |succ i=>exact C i I J (zUs o) (zUs p)
theorem UJ{op}(h:kd op=101):1<=op/\op<=15:=by
 grind [kd,absurd]
theorem Kk(C:ns<=4){n}(R:WfN n){l}(p:l.length=n.sD.length)(h:∀(i:Nat) k a,n.sD[i]?=some k->l[i]?=some a->kd k.op=101->∃ q,a=some q/\okKd ns q) :
  ApOk n.op l/\(n.op=5->∃ a,l=[some a]/\okKd ns a)/\(n.op=11\/n.op=12\/n.op=13->∃ a,l=[some a]/\okKd ns a)/\(n.op=6\/n.op=14\/n.op=7\/n.op=8\/n.op=32\/n.op=33\/n.op=9\/n.op=10->∃ a b,l=[some a,some b]/\okKd ns a/\okKd ns b):=by
 have g:=R.shape;have r:n.op=5\/n.op=11\/n.op=12\/n.op=13->∃ a,l=[some a]/\okKd ns a:=by
  intro j;have e:shp n.op n.sD.length=some [101]:=by
   unfold shp;rw[zIn,if_pos zOm]
  rw[e]at g;simp only[qv]at g
  match o:n.sD,g with
  | [k],g =>
   simp at g;rw[o]at p
   match l,p with
   | [a],_ =>
    obtain⟨q,rfl,J⟩:=h 0 k a (by rw[o];rfl) rfl g.symm
    grind
  | [],g=>simp at g
  |_ :: _ :: _,g=>simp at g
 have P:n.op=6\/n.op=14\/n.op=7\/n.op=8\/n.op=32\/n.op=33\/n.op=9\/n.op=10->∃ a b,l=[some a,some b]/\okKd ns a/\okKd ns b:=by
  intro j;have e:shp n.op n.sD.length=some [101,101]:=by
   unfold shp;rw[zIn,zIn,if_pos zOm]
  rw[e]at g;simp only[qv]at g
  match o:n.sD,g with
  | [k,T],g =>
   simp at g;rw[o]at p
   match l,p with
   | [a,b],_ =>
    obtain⟨q,rfl,J⟩:=h 0 k a (by rw[o];rfl) rfl g.1.symm;obtain⟨U,rfl,I⟩:=h 1 T b (by rw[o];rfl) rfl g.2.symm;exact⟨q,U,rfl,J,I⟩
  | [],g=>simp at g
  | [_],g=>simp at g
  |_ :: _ :: _ :: _,g=>simp at g
 refine⟨⟨fun j=>?_,fun j=>?_,fun j=>?_⟩,fun j=>r (.inl j),fun j=>r (.inr j),P⟩
 .obtain ⟨a,rfl,_⟩:=r (.inl j);exact⟨_,rfl⟩
 .obtain ⟨a,rfl,t⟩:=r (.inr j);exact⟨a,rfl,t.okK,t.ok2 C⟩
 .obtain ⟨a,b,rfl,t,hb⟩:=P j;exact⟨a,b,rfl,t.okK,hb.okK⟩
theorem uo{c}(I:okCk c):∀ m n s inn P,szN n<=m->WfN n->ScOk c.ts.sS.length s->exam c s inn n = .ok P->kd n.op=101->∃ k,P=some k/\okKd c.ts.sS.length k
 | 0,n,_,_,_,hm,_,_,_,_=>by obtain⟨op,nm,i,ks,p⟩:=n;simp[szN]at hm
 |m+1,n,s,inn,P,hm,o,R,h,T=>by
  have ho:=UJ T;have U:=I.ts.ns;rw[jh]at h;split at h
  .grind
  split at h
  .unfold jz at h
   split at h
   .rename_i v r hf
    simp only[uC]at h;exact⟨v.2,h.symm,(R v (mX hf)).1⟩
   .split at h
    .grind
    .rename_i k t
     simp only[uC]at h;exact⟨k,h.symm,qlO I.ts (by rw[t];simp)⟩
    grind
  split at h
  .omega
  split at h
  .rename_i hb
   have g:=o.shape;have e:shp n.op n.sD.length=some [101,102]:=by
    unfold shp;rw[zIn,zIn,zIn,if_pos zOm]
   rw[e]at g;simp only[qv]at g
   match t:n.sD,g with
   | [a,f],g =>
    simp at g;rw[t]at h;simp only[ym]at h;cases hq:exam c s (inn||decide (n.op=15)) a with
    |error e=>grind
    |ok q =>
     obtain⟨k,rfl,a4⟩:=uo I m a s _ q (by have:=yw (n:=n) (k:=a) (by rw[t];simp);omega) (o.kid (by rw[t];simp)) R hq g.1.symm
     grind
   | [],g=>simp at g
   | [_],g=>simp at g
   |_ :: _ :: _ :: _,g=>simp at g
  .rename_i n1 a6 nb
   cases hl:ze c s (inn||decide (n.op=12)||decide (n.op=13)) n.sD with
   |error e=>grind
   |ok l =>
    rw[hl]at h;simp only at h;obtain⟨C,a0⟩:=J6 hl;obtain⟨_,a5,a1,a2⟩:=Kk (ns:=c.ts.sS.length) U o C (fun i k a hi J a3=>uo I m k s _ a (zW1 (yw (n:=n) (q8 hi))) (o.kid (q8 hi)) R (a0 i k a hi J) a3);unfold yh at h;split at h
    .rename_i h2
     simp only[uC]at h;exact⟨_,h.symm,qlI (o.num h2)⟩
    split at h
    .grind [uC,Kj]
    split at h
    .grind [uC,Kj]
    have j:n.op=5\/(n.op=11\/n.op=12\/n.op=13)\/(n.op=6\/n.op=14\/n.op=7\/n.op=8\/n.op=32\/n.op=33\/n.op=9\/n.op=10):=zOm;rcases j with h5|h1|h2
    .obtain ⟨a,rfl,J⟩:=a5 h5
     simp only[if_pos h5,uC]at h
     grind
    .obtain ⟨a,rfl,J⟩:=a1 h1
     have n5:n.op≠5:=zOm;simp only[if_neg n5,if_pos h1]at h
     grind [uC,qlN,absurd]
    .obtain ⟨a,b,rfl,J,hb⟩:=a2 h2
     simp only at h;split at h
     .grind [uC,qlK,absurd]
     grind [uC,J5,absurd,qlL]
end
end P2
namespace Y13
open Y1 Y2 Y3 P1 YM Y5 Y6 Y7 YF Y9 Y10 Y11 Y12 P2
theorem qlP(p n):qi qe 230 [.agg (cPd p),.ip (cNd n)] (aB (decide (p.name=n.name))):=by
 refine qSV call230 func230 rfl ?_;simp[go_sem,wv];exact .zsc _
def uR(c:Ck)(s:Scp)(n:Nd):Res:=
 if (c.ts.sT.any fun p=>decide (p.name=n.name))=true then
  match zw c n.name with
  |none => .error (45,n.pos)
  |some p=>match c.ts.sT[p]? with
   |none => .error (45,n.pos)
   |some g=>if g.params.length=n.sD.length then ye c s n.pos g.params n.sD else .error (45,n.pos)
 else .error (40,n.pos)
def endC:Res->AEnd
 | .ok _ => .ret (.tup [])
 | .error e => .pan (jU e.1 e.2)
@[go_sem] theorem endC_ok(k):endC (.ok k) = .ret (.tup []):=rfl
@[go_sem] theorem qv9(e):endC (.error e) = .pan (jU e.1 e.2):=rfl
theorem J7(n):HF (.ip (cNd n)):=HF.ip (vJ n)
theorem hf_t0:HF (.tup []):=HF.tup zSp
theorem callU(c)(hc:okCk c)(s)(hs:ScOk c.ts.sS.length s)(n)(hw:WfN n)(ay:n.op=47)
  (ih:∀ k,k∈n.sD->qZ qe 167 [eCk c,aSc s,eNd k,aB true] (endK (exam c s true k))) :
  qZ qe 208 [eCk c,aSc s,eNd n] (endC (uR c s n)):=by
 refine zi.of_sound ?_;refine qSW call208 func208 rfl {} ?_;have az:=hc.ts.np;have b0:=hw.len;have I:=hasPd false c.ts.sT (.fn (.func 230) [] [.ip (cNd n)]) (fun p=>decide (p.name=n.name)) ⟨_,_,_,rfl,fun p hp=>⟨_,qlP p n,.zk (HF.agg (Un p)) (.zk (J7 n) .nil)⟩⟩ (HF.fn zSp (fun x hx=>by grind [J7])) (Zg _) zOm;have a6:WKs [lPd c.ts.sT,.fn (.func 230) [] [.ip (cNd n)]] [lPd c.ts.sT,.fn (.func 230) [] [.ip (cNd n)]] := .zk (Zg _) (.zk (HF.fn zSp (fun x hx=>by grind [J7])) .nil);generalize J:uR c s n=R;unfold uR at J;simp[go_sem];cases hA:c.ts.sT.any (fun p=>decide (p.name=n.name)) with
 |false =>
  rw[hA]at I J;subst J;refine qj.tail 8 zKr ?_;simp[go_sem];refine fR I a6 ?_;refine fZ (zS false 40 n) (wkR n false 40) ?_;simp[go_sem];exact .hf _ (yH _ _)
 |true =>
  rw[hA]at I J;rw[if_pos rfl]at J;refine fM ?_;refine fR I a6 ?_;refine fR (zS true 40 n).toP (wkR n true 40) ?_;refine cQ (nO c hc n.name) (.zk (jB c) (.zs .nil)) ?_;cases P:zw c n.name with
  |none =>
   rw[P]at J;subst J;simp[go_sem];refine qj.tail 19 zKr ?_;simp[go_sem];refine fZ (zS false 45 n) (wkR n false 45) ?_;simp[go_sem];exact .hf _ (yH _ _)
  |some p =>
   obtain⟨b1,T⟩:=Zi hc P;have b2:=hc.ts.pl _ (qs T);rw[P]at J;simp only[qA T]at J;simp[go_sem];generalize a4:c.ts.sT[p]=j at *
   by_cases r:j.params.length=n.sD.length
   .rw [if_pos r]at J
    refine cH zKr ?_;simp[go_sem,T,a4,r];refine cQ (zS true 45 n).toP (wkR n true 45) ?_;simp[go_sem,T,a4,r];have a7:=hw.shape;have ag:∀(k:Nat)(h:k<n.sD.length),kd n.sD[k].op=101:=by
     have e:shp n.op n.sD.length=some (qO (min n.sD.length 401) 101):=by
      simp_all[shp,if_neg,if_pos]
     rw[e]at a7;simp only[qv]at a7;intro k h;have h2:(n.sD.map fun k=>kd k.op)[k]?=some (kd n.sD[k].op):=by rw[zj,qA h];rfl
     grind
    refine kL j.params.length (fun k U=>U.tm 0=eCk c/\U.tm 1=aSc s/\U.tm 5 = .ip (cNd n)/\U.tm 54=lPm j.params/\U.tm 55=aI n.sD.length/\U.tm 56=aI k/\ye c s n.pos (j.params.drop k) (n.sD.drop k)=R) ?_ ?_
    .simp [go_sem, *]
    .rintro k U hk ⟨e0,e1,e5,ah,a8,a9,C⟩
     by_cases aa:k=j.params.length
     .subst aa
      rw[zZ,r,zZ]at C;simp only[ye]at C;subst C;simp[go_sem,a8,a9,r];exact .hf _ hf_t0
     .have ab:k<j.params.length:=by omega
      have o:k<n.sD.length:=zOm;have w1:=zWk k;have hi:=ih n.sD[k] (qs o);rw[zp ab,zp o]at C;simp only[ye]at C;have ai:=uo hc (szN n.sD[k]) n.sD[k] s true;have aj:=ag k o;have ad:=hw.kid (qs o);simp[go_sem,e0,e1,e5,ah,a8,a9,ab,o];cases hx:exam c s true n.sD[k] with
      |error e =>
       rw[hx]at hi C;subst C;refine fZ hi (.zk (jB c) (.zk (Qd s) (.zk (qL _) (.zs .nil)))) ?_;simp[go_sem];exact .hf _ (yH _ _)
      |ok ko =>
       obtain⟨kk,rfl,a1⟩:=ai ko (qr _) ad hs hx aj;rw[hx]at hi C;simp only at C;refine cQ hi.toP (.zk (jB c) (.zk (Qd s) (.zk (qL _) (.zs .nil)))) ?_;by_cases a0:kk.ar=1
       .rw [if_pos a0]at C
        simp[go_sem,e5,a0];refine fR (zS true 42 n).toP (wkR n true 42) ?_;refine qm.seen kk.ts.length (fun seen g=>g.tm 0=eCk c/\g.tm 1=aSc s/\g.tm 5 = .ip (cNd n)/\g.tm 54=lPm j.params/\g.tm 55=aI n.sD.length/\g.tm 56=aI k/\g.tm 9 = .ptr U.mu.length 0/\g.tm 76 = .ptr (U.mu.length+2) 0 /\
         g.mu[U.mu.length]?=some (.arr [aS j.params[k].1,aI j.params[k].2])/\g.mu[U.mu.length+2]?=some (.it (eT kk.ts) seen)/\∀ i t,i∈seen->kk.ts[i]?=some t->t.getD 0 0=j.params[k].2) ?_ ?_
        .simp [go_sem, *]
        .rintro seen g b3 aw ⟨f0,f1,f5,f54,f55,f56,f9,f76,g0,g2,ax⟩
         simp[go_sem,f76];refine⟨U.mu.length+2,eT kk.ts,seen,rfl,g2,fun i e hi ak=>?_,fun al=>?_⟩
         .obtain ⟨x,a5,rfl⟩:=ZO hi
          have an:okT x:=a1.okK.len x (q8 a5);have ao:i<kk.ts.length:=(qk.1 a5).1;have aq:x.length=3:=an;have au:x∈kk.ts:=q8 a5;have a2:U.mu.length+2<g.mu.length:=(qk.1 g2).1;have a3:∀(c:Cell)(l:List Cell),((g.mu.set (U.mu.length+2) c)++l)[U.mu.length]?=some (.arr [aS j.params[k].1,aI j.params[k].2]):=fun c l=>by
           grind
          obtain⟨x0,x1,x2,rfl⟩:∃ x0 x1 x2,x=[x0,x1,x2]:=by
           match x,aq with
           | [x0,x1,x2],_=>simp
          have af:0<=x0/\x0<128:=by
           obtain⟨l,el,hl,hr⟩:=a1.ts _ au;rw[a0]at hl
           match l,hl with
           | [y],_ =>
            have:=hr y zSp;simp[pad]at el;have:=hc.ts.ns;omega
          have w8:qp.wrap x0=x0:=zWr;by_cases hq:x0=j.params[k].2
          .have w9:qp.wrap j.params[k].2=j.params[k].2:=by grind
           simp[go_sem,f5,f9,f76,hi,a2,a3,w9,hq];refine fR (zS true 43 n).toP (wkR n true 43) ?_;refine⟨i,ao,ak,zS1 f0,zS1 f1,zS1 f5,zS1 f54,zS1 f55,zS1 f56,zS1 f9,zS1 f76,?_,?_,?_⟩
           .grind [qC]
           .grind [qC,qN,qM]
           grind
          .have ae:uN j.params[k].2 kk=false:=by
            unfold uN;rw[<-Bool.not_eq_true,zA]
            grind
           rw[ae]at C;simp only[Bool.false_eq_true,if_false]at C;subst C;simp[go_sem,f5,f9,f76,hi,a2,a3,w8,hq];refine fZ (zS false 43 n) (wkR n false 43) ?_;simp[go_sem];exact .hf _ (yH _ _)
         .have av:uN j.params[k].2 kk=true:=by
           grind [uN,zA,List.mem_iff_getElem?,qk]
          simp_all[go_sem,if_pos,aK]
       .rw [if_neg a0]at C
        subst C;simp[go_sem,e5,a0];refine fZ (zS false 42 n) (wkR n false 42) ?_;simp[go_sem];exact .hf _ (yH _ _)
   .rw [if_neg r]at J
    subst J;refine qj.tail 19 zKr ?_;simp[go_sem,T,a4,r];refine fZ (zS false 45 n) (wkR n false 45) ?_;simp[go_sem];exact .hf _ (yH _ _)
theorem Kl{lo sz mu av xs}(h:OwnF lo mu sz av xs)(w:yM sz xs)(hf:∀ r,r∈xs->∀ c,c∈r->HF c):Rd (cutM (fun i=>decide (lo<=i)) mu 0) av (.lst false xs):=by
 obtain⟨g,j,o⟩:=h;refine Own.rd (sz:=sz) ?_ w hf;rcases g with rfl|⟨b,rfl,l⟩
 .exact .inl rfl
 .refine .inr ⟨b,rfl,?_⟩
  rw[jG,l];simp[j b _ _ _ rfl]
theorem qlQ{c s n g}(h:uR c s n = .ok g):g=none:=by
 have j:∀(ks:List Nd)(i:List (tA×Int))(g:Option Kd),ye c s n.pos i ks = .ok g->g=none:=by
  intro ks;induction ks with
  |nil=>grind [ye]
  |cons k ks l =>
   intro i g h;cases i with
   |nil=>grind [ye]
   |cons p i =>
    grind [ye,absurd]
 unfold uR at h;split at h
 .grind
 grind
theorem appKo{mu lo s xs k K}(o:OwnF lo mu 2 s (xs.map cKo))(t:xs.length<=100000)(C:∀ av mu',OwnF lo mu' 2 av ((xs++[k]).map cKo)->(∀ i,i<lo->mu'[i]?=mu[i]?)->K av mu') :
  qz qe mu #[265,265] s (.lst true [cKo k]) K:=by
 have j:∀ l:List (Option Kd),zm 2 (l.map cKo):=fun l r p=>by
  obtain⟨n,_,rfl⟩:=qn.1 p;exact Kf n
 refine qz.ownF (lo:=lo) (e:=260) (sz:=2) (bt:=16) (zv := .agg [aI 0,.sc (.map none)]) (xs:=xs.map cKo) (ys:=[cKo k]) zSi zSi zSi rfl rfl zOm zOm o (by simp[qD]) (j xs) (j [k]) zSo ?_
 grind
theorem mY(c)(hc:okCk c):∀ m n,szN n<=m->WfN n->∀ s,ScOk c.ts.sS.length s->∀ inn,qZ qe 167 [eCk c,aSc s,eNd n,aB inn] (endK (exam c s inn n))
 | 0,n,hm,_,_,_,_=>by obtain⟨op,nm,i,ks,p⟩:=n;simp[szN]at hm
 |m+1,n,hm,hw,s,hs,inn=>by
  have ih:∀ k,k∈n.sD->∀ J,ScOk c.ts.sS.length J->∀ a0,qZ qe 167 [eCk c,aSc J,eNd k,aB a0] (endK (exam c J a0 k)):=fun k hk J af a0 =>
   mY c hc m k (zW1 (yw hk)) (hw.kid hk) J af a0
  refine zi.of_sound ?_;refine qSW call167 func167 rfl {} ?_;generalize g:exam c s inn n=E;rw[jh]at g;have a7:=nP c hc n;simp[go_sem];by_cases hT:(inn&&z7 c n.op n.name)=true
  .rw [if_pos hT]at g
   subst g;rw[qI]at hT;obtain⟨rfl,hT⟩:=hT;rw[hT]at a7;refine qj.tail 9 zKr ?_;simp[go_sem];refine fR a7 (.zk (jB c) (.zk (qL n) .nil)) ?_;refine fZ (zS false 46 n) (wkR n false 46) ?_;simp[go_sem];exact .hf _ (yH _ _)
  rw[if_neg hT]at g;have ag:=Kg c hc s n;have a4:=fun h=>callU c hc s hs n hw h (fun k hk=>ih k hk s hs true)
  have a8:WKs [eCk c,aSc s,eNd n] [eCk c,aSc s,eNd n] := .zk (jB c) (.zk (Qd s) (.zk (qL n) .nil));have a1:∀(J:Scp)(k:Nd)(b:Bool),WKs [eCk c,aSc J,eNd k,aB b] [eCk c,aSc J,eNd k,aB b]:=fun J k b => .zk (jB c) (.zk (Qd J) (.zk (qL k) (.zs .nil)))
  have a5:n.op=15\/n.op=45\/n.op=46->∃ a f,n.sD=[a,f]/\kd a.op=101:=fun ho=>by
   have I:=hw.shape;have e:shp n.op n.sD.length=some [101,102]:=by
    unfold shp;rw[zIn,zIn,zIn,if_pos zOm]
   rw[e]at I;simp only[qv]at I
   match hk:n.sD,I with
   | [a,f],I=>grind
   | [],I=>simp at I
   | [_],I=>simp at I
   |_ :: _ :: _ :: _,I=>simp at I
  cases inn
  case' false =>
   refine fM ?_;refine fR (zS true 46 n).toP (wkR n true 46) ?_
  case' true =>
   have az:z7 c n.op n.name=false:=zUs hT;rw[az]at a7;refine fM ?_;refine fR a7 (.zk (jB c) (.zk (qL n) .nil)) ?_;refine fR (zS true 46 n).toP (wkR n true 46) ?_
  all_goals
   by_cases h1:n.op=1
   .rw [if_pos h1]at g
    rw[g]at ag;simp[go_sem,h1];cases E with
    |error e =>
     refine fZ ag a8 ?_;simp[go_sem];exact .hf _ (yH _ _)
    |ok ko =>
     refine cQ ag.toP a8 ?_;cases ko with
     |none=>simp[go_sem];exact .hf _ hfKn
     |some k=>simp[go_sem];exact .hf _ (hfK2 _ _)
   rw[if_neg h1]at g;by_cases h47:n.op=47
   .rw [if_pos h47]at g
    have g:uR c s n=E:=g;have a4:=a4 h47;rw[g]at a4;simp[go_sem,h47];cases E with
    |error e =>
     refine fZ a4 a8 ?_;simp[go_sem];exact .hf _ (yH _ _)
    |ok ko =>
     obtain rfl:=qlQ g;refine fR a4.toP a8 ?_;exact .hf _ hfKn
   rw[if_neg h47]at g;by_cases hb:n.op=15\/n.op=45\/n.op=46
   .rw [if_pos hb]at g
    obtain⟨a,f,a2,ha⟩:=a5 hb;rw[a2]at g;have ao:∀ b r,exam c s b a=r->qZ qe 167 [eCk c,aSc s,eNd a,aB b] (endK r):=fun b r h=>h ▸ ih a (by rw[a2];simp) s hs b
    have b0:∀ J,ScOk c.ts.sS.length J->∀ b r,exam c J b f=r->qZ qe 167 [eCk c,aSc J,eNd f,aB b] (endK r):=fun J af b r h=>h ▸ ih f (by rw[a2];simp) J af b
    have ab:=uo hc (szN a) a s;have aq:=hw.kid (k:=a) (by rw[a2];simp);rcases hb with h|h|h
    all_goals
     simp[go_sem,h,a2];simp only[h,ym,ze]at g;simp at g;split at g
     .rename_i e hx
      have hi:=ao _ _ hx;subst g;refine fZ hi (a1 _ _ _) ?_;simp[go_sem];exact .hf _ (yH _ _)
     .rename_i hx
      obtain⟨q,hq,_⟩:=ab _ _ (qr _) aq hs hx ha;exact absurd hq zSp
     .rename_i k hx
      have hi:=ao _ _ hx;obtain⟨q,hq,b4⟩:=ab _ _ (qr _) aq hs hx ha;simp only[qv]at hq;subst hq;refine cQ hi.toP (a1 _ _ _) ?_;by_cases a9:k.ar=1
      .rw [if_pos a9]at g
       obtain⟨ka,kt⟩:=k;obtain rfl:ka=1:=a9;simp[go_sem];refine fR (zS true 42 n).toP (wkR n true 42) ?_;have b5:ScOk c.ts.sS.length ((n.name,⟨1,kt⟩) :: s):=fun v R=>by
        rcases List.mem_cons.1 R with rfl|R
        .exact ⟨b4,rfl⟩
        .exact hs v R
       have au:=b0 _ b5;refine qj.tail 12 zKr ?_;simp[go_sem,a2];split at g
       .rename_i e a3
        split at a3
        .rename_i e' ah
         simp only[Except.error.injEq]at a3;subst a3;subst g;have ai:=au _ _ ah;refine fZ ai (a1 ((n.name,⟨1,kt⟩) :: s) _ _) ?_;simp[go_sem];exact .hf _ (yH _ _)
        grind
       .rename_i l a3
        split at a3
        .exact absurd a3 zSp
        .rename_i a' ah
         have ai:=au _ _ ah;subst g;refine fR ai.toP (a1 ((n.name,⟨1,kt⟩) :: s) _ _) ?_;exact .hf _ (hfK2 _ _)
      .rw [if_neg a9]at g
       subst g;simp[go_sem,a9];refine fZ (zS false 42 n) (wkR n false 42) ?_;simp[go_sem];exact .hf _ (yH _ _)
   .rw [if_neg hb]at g
    simp only[not_or]at hb;obtain⟨b1,b2,b3⟩:=hb;simp[go_sem,h1,h47,b1,b2,b3];have b6:=hw.len;generalize hB:(_||decide (n.op=12)||decide (n.op=13))=B at g;by_cases aj:n.op=12
    case' pos=>simp[go_sem,aj]
    case' neg =>
     by_cases ak:n.op=13
     case' pos=>simp[go_sem,ak]
     case' neg=>simp[go_sem,aj,ak]
    all_goals
     refine kL n.sD.length (fun k U=>∃ C:List (Option Kd),C.length=k/\U.tm 0=eCk c/\U.tm 1=aSc s/\U.tm 3=aB B/\U.tm 6 = .ip (cNd n)/\U.tm 8 = .ptr 0 0/\U.tm 79=lNd n.sD/\U.tm 80=aI n.sD.length/\U.tm 81=aI k/\U.mu[0]?=some (.arr [aI 0,.sc (.map none)])/\OwnF 1 U.mu 2 (U.tm 10) (C.map cKo) /\
      ze c s B n.sD=(match ze c s B (n.sD.drop k) with | .error e => .error e | .ok l => .ok (C++l))) ?_ ?_
     .refine ⟨[],rfl,zSi,zSi,?_,zSi,zSi,zSi,zSi,zSi,zSi,?_,?_⟩
      .rw [<-hB];simp[go_sem,aj];try simp[ak]
      .simp [go_sem];exact OwnF.nil zSp
      .simp only[List.drop_zero,vo]
       cases ze c s B n.sD<;>rfl
     .rintro k U hk ⟨C,hl,e0,e1,e3,e6,e8,aw,al,an,m0,ho,o⟩
      by_cases a6:k=n.sD.length
      .rw [a6,zZ]at o
       simp only[ze,zO]at o;rw[o]at g;simp only at g;simp[go_sem,e0,e6,al,an,a6];have b7:ApOk n.op C:=(Kk hc.ts.ns hw (by rw[hl,a6]) (fun i k' a hi ha b8=>uo hc (szN k') k' s B a (qr _) (hw.kid (q8 hi)) hs ((J6 o).2 i k' a hi ha) b8)).1;have ad:=qlH c hc false n C b7;rw[g]at ad;have ax:∀ r,r∈C.map cKo->∀ c,c∈r->HF c:=fun r hr c b9=>by
        obtain⟨q,_,rfl⟩:=qn.1 hr;exact mV q c b9
       have bb:yM 2 (C.map cKo):=fun r hr=>by
        obtain⟨q,_,rfl⟩:=qn.1 hr;exact(Kf q).1
       have g0:(cutM (fun i=>!decide (1<=i)) U.mu 0)[0]?=some (.arr [aI 0,.sc (.map none)]):=by rw[jG,m0];simp
       refine fQ (qE.freeze (args1:=[eCk c,eNd n,.lst false (C.map cKo)]) (fun j=>decide (1<=j)) ⟨.inl rfl,.inl rfl,.inr (Kl ho bb ax),trivial⟩ (ad.toSound _ (.zk (jB c) (.zk (qL n) (.zk (HF.lst ax) .nil))))) ?_ ?_
       .rintro r m ⟨R,rfl⟩
        have R:AEnd.ret r=endK E:=R;cases E with
        |error e=>exact absurd R zSi
        |ok q =>
         simp[go_sem]at R;subst R;generalize cutM (fun i=>!decide (1<=i)) U.mu 0=M at g0;have be:0<M.length:=(qk.1 g0).1;have ae:∀ c,(M.set 0 c)[0]?=some c:=fun c=>qM be
         cases q with
         |none=>simp[go_sem,e8,g0,ae];exact .hf _ hfKn
         |some k=>simp[go_sem,e8,g0,ae];exact .hf _ (hfK2 _ _)
       .rintro r m ⟨R,rfl⟩
        have R:AEnd.pan r=endK E:=R;cases E with
        |ok q=>exact absurd R zSi
        |error e =>
         simp[go_sem]at R;subst R;simp[go_sem];exact .hf _ (yH _ _)
      .have aa:k<n.sD.length:=by omega
       have w1:=zWk k;rw[zp aa]at o;simp only[ze]at o;have hi:=ih n.sD[k] (qs aa) s hs B;simp[go_sem,e0,e1,e3,aw,al,an,aa];cases hx:exam c s B n.sD[k] with
       |error e =>
        rw[hx]at hi o;simp only at o;rw[o]at g;simp only at g;subst g;refine fZ hi (a1 s n.sD[k] B) ?_;simp[go_sem];exact .hf _ (yH _ _)
       |ok ko =>
        rw[hx]at hi o;simp only at o;refine cQ hi.toP (a1 s n.sD[k] B) ?_;have ay:=Kf ko;rw[zA]at ay;simp[go_sem];rw[if_pos ay];simp[go_sem];refine appKo (xs:=C) (k:=ko) (lo:=1) ⟨J2 ho.1 _,ho.2.1,by have:=ho.2.2;simp⟩ zOm fun t bi bg bh=>?_
        simp[go_sem,an,w1];refine⟨aa,aK ?_⟩;refine⟨C++[ko],zP1 hl,zS1 e0,zS1 e1,zS1 e3,zS1 e6,zS1 e8,zS1 aw,zS1 al,zSi,?_,zVs bg,?_⟩
        .simp only[qC]
         rw[bh 0 zOm,qN (zW1 ho.2.2)];exact m0
        .rw [o]
         cases ze c s B (n.sD.drop (k+1)) with
         |error e=>rfl
         |ok l=>simp
end Y13
end Go.Proofs.YtipbakanneogpaaGreatDoor
