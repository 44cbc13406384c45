/-
  Own library, part 4: an abstract reading of values and a calculus over it; contracts of functions; plain lemmas.
-/
import Derived.Test.YtipbakanneogpaaGreatDoorMc
set_option linter.unusedVariables false
set_option linter.unusedSimpArgs false
set_option maxRecDepth 100000
open Go renaming Program->qb,TypeId->qc,Operand->qg,FuncId->qx,Value->qf,World->qd
open Go.Proofs.Tryz renaming prog->qe
open List renaming getElem?_eq_some_iff->qk,mem_map->qn,getElem_mem->qs,range->qu,getElem?_eq_getElem->qA,not_mem_nil->qG,getElem?_set_self->qL,mem_append->qM,getElem?_append_left->qN,take_length->qO,mem_singleton->qV,mem_cons_of_mem->q8,replicate->q9,mem_of_getElem?->zb,length_append->zd,map_append->ze,mem_cons_self->zg,getElem?_map->zn,drop_eq_getElem_cons->zu,append_assoc->zB,all_eq_true->zF,length_cons->zG,getElem?_append_right->zM,append_nil->zO,getD_eq_getElem?_getD->zS,length_map->zT,take_of_length_le->z6,drop_length->yd,mem_range->yi,getElem?_set_ne->yJ,mem_append_left->jt,mem_filter->jH,mem_of_mem_take->jI,getElem?_take->vu,nil_append->vw,foldl_append->vM,take_succ_eq_append_getElem->vZ,length_take->v8,getElem?_drop->uu,flatMap_cons->w7,mem_flatMap->Qa,getElem_of_mem->Qb,getElem?_range->Qc,nodup_append->ZL
open Go.IntKind renaming i64->qq
open Nat renaming le_refl->qr,le_trans->zQ,zero_add->yj,le_of_ble_eq_true->ur
open Option.some renaming injEq->qv
open Bool renaming and_eq_true->qH,eq_iff_iff->j9
open Option renaming map_some->zq,map_eq_some_iff->jR
open Int renaming mul_le_mul->jJ,tmod_eq_emod_of_nonneg->wq
open Except.ok renaming injEq->uN
open List.cons renaming injEq->ZN
namespace Go.Ev
open Go Go.RowKit
@[go_sem ↓] theorem qw8(P pl det i ev mu K j l g):qI P pl det i (.call ⟨.builtin .clear,l.toArray,g⟩) ev mu K j=uP P mu .clear g (evs ev l) K:=eqS rfl
theorem qkK{P mu K t e sz bt b off len cells zv}(o:qJ P t=some (e,sz,bt))(p:qB P e=some zv)(g:zv.cells.length=sz)(j:zv.cells.all AV.one=true)(l:sz≠0)
  (r:mu[b]?=some (.arr cells)) (C:off+len*sz<=cells.length) (I:0<len) (k:K (.tup []) (mu.set b (.arr (putCells cells off ((qu (len*sz)).map fun i=>zv.cells.getD (i % sz) .any))))):uP P mu .clear #[t] [.sl b sz off len] K:=
 ⟨_,_,.clear o p g j l r C I,k⟩
end Go.Ev
namespace Go.Proofs.YtipbakanneogpaaGreatDoor
open Go Go.Ev Go.Proofs Tryz
namespace EN
open EJ
theorem X8{mu:Mu}{b c}(h:mu[b]?=some c):mu.set b c=mu:=by
 obtain⟨i,g⟩:=qk.1 h;rw[<-g];simp
theorem UM(l:List Int)(i h):List.take 1 (List.drop i (l.map aI))=[aI l[i]]:=by
 grind [zu]
theorem qkL(mu b g)(hl:g.length<=1000000)(hb:mu[b]?=some (.arr (g.map aI))) :
  qD qe 203 [.sl b 1 0 g.length] mu fun e m=>∃ cells,e = .ret (.sl b 1 0 (cmpc eqI g).length)/\m=mu.set b (.arr cells)/\cells.length=g.length/\cells.take (cmpc eqI g).length=(cmpc eqI g).map aI:=by
 refine qSW call203 func203 rfl {} ?_;simp[go_sem];by_cases h2:g.length<2
 .have hc:cmpc eqI g=g:=by
   match g,h2 with
   | [],_=>rfl
   | [x],_=>rfl
   |_ :: _ :: _,h=>grind
  simp[go_sem,show (g.length:Int)<2 by omega];rw[hc];exact⟨rfl,g.map aI,(X8 hb).symm,zSp,by rw[z6 zSp]⟩
 simp[go_sem,show ¬(g.length:Int)<2 by omega];refine tT (fun m T=>∃ k,m=g.length-k/\1<=k/\k<=g.length/\T.tm 0 = .sl b 1 0 g.length/\T.tm 3=aI (k:Nat)/\T.mu=mu/\cmpc eqI (g.take k)=g.take k) (g.length-1) ?_ ?_
 .refine ⟨1,zOm,zOm,zOm,zSi,zSi,zSi,?_⟩
  match g,h2 with
  | [],h=>simp at h
  |x :: l,_=>simp[cmpc,vo]
 rintro m T ⟨k,rfl,a5,hk,e0,e3,hm,hi⟩;by_cases p:k<g.length
 .have hw:qq.wrap ((k:Int)-1)=((k-1:Nat):Int):=by grind [z8]
  have t:k-1<g.length:=zOm;have r1:=UM g k p;have r2:=UM g (k-1) t;have g1:k+1<=g.length:=p;have g2:k-1+1<=g.length:=t;have o:=mN eqI g k a5 p;rw[hi]at o;simp[go_sem,e0,e3,hm,p];refine cJ zKr ?_;by_cases hp:g[k]=g[k-1]
  .simp [go_sem,e0,e3,p,hb,hw,t,hp,r1,r2,g1,g2]
   rw[if_pos (zUs hp),zO]at o;simp[go_sem,hk];refine tT (fun m2 st2=>∃(j i:Nat) (cur:List Int),m2=g.length-(k+j)/\1<=j/\k+j<=g.length/\st2.tm 0 = .sl b 1 0 g.length/\st2.tm 3=aI (i:Nat)/\st2.tm 4 = .sl b 1 k (g.length-k)/\st2.tm 5=aI (j:Nat)/\cur.length=g.length/\st2.mu=mu.set b (.arr (cur.map aI))/\i=(cmpc eqI (g.take (k+j))).length/\i<=k+j-1/\cur.take i=cmpc eqI (g.take (k+j))/\cur.drop (k+j-1)=g.drop (k+j-1)) (g.length-(k+1)) ?_ ?_
   .refine ⟨1,k,g,zOm,zOm,zOm,zS1 e0,zS1 e3,zSi,zSi,rfl,?_,?_,zOm,?_,rfl⟩
    .simp_all [go_sem,X8]
    .grind
    grind
   rintro m2 st2 ⟨j,i,cur,rfl,af,hj,f0,f3,f4,f5,a0,a1,C,ag,I,R⟩;have U:b<mu.length:=(qk.1 hb).1;by_cases J:j<g.length-k
   .have a6:k+j<g.length:=by omega
    have c1:cur[k+j]' zOm=g[k+j]:=by
     have:=congrArg (fun l=>l[1]?) R
     grind
    have c2:cur[k+j-1]' zOm=g[k+j-1]:=by
     have:=congrArg (fun l=>l[0]?) R;simp only[uu,Nat.add_zero]at this
     grind
    have r1:=UM cur (k+j) zOm;have r2:List.take 1 (List.drop (k+(j-1)) (cur.map aI))=[aI (g[k+j-1]' zOm)]:=by rw[show k+(j-1)=k+j-1 by omega,UM cur (k+j-1) zOm,c2]
    rw[c1]at r1;have a2:qq.wrap ((j:Int)-1)=((j-1:Nat):Int):=by rw[zWr];omega
    have a3:qq.wrap ((j:Int)+1)=((j+1:Nat):Int):=by rw[zWr];omega
    have g3:j-1<g.length-k:=zOm;have g4:k+j+1<=cur.length:=zOm;have g5:k+(j-1)+1<=cur.length:=zOm;have r:=mN eqI g (k+j) zOm a6;have a4:cur.drop (k+j)=g.drop (k+j):=by
     have:=congrArg (List.drop 1) R;rw[List.drop_drop,List.drop_drop,show k+j-1+1=k+j by omega]at this;exact this
    simp[go_sem,f4,f5,a1,J];refine cJ zKr ?_;by_cases P:g[k+j]=g[k+j-1]
    .rw [if_pos (zUs P),zO]at r
     simp[go_sem,f4,f5,J,U,r1,r2,a2,a3,g3,g4,g5,P];refine Keep.loop (g.length-(k+(j+1))) zOm ⟨j+1,i,cur,rfl,zOm,zOm,zS1 f0,zS1 f3,zS1 f4,zSi,a0,zSi,?_,zOm,?_,?_⟩
     .rw [show k+(j+1)=k+j+1 by omega,r];exact C
     .rw [show k+(j+1)=k+j+1 by omega,r];exact I
     .rw [show k+(j+1)-1=k+j by omega];exact a4
    .rw [if_neg (zUs P)]at r
     have a7:i<g.length:=zOm;have a8:i+1<=cur.length:=zOm;have ae:i<cur.length:=zOm;have a9:qq.wrap ((i:Int)+1)=((i+1:Nat):Int):=by rw[zWr];omega
     simp[go_sem,f0,f3,f4,f5,J,U,r1,r2,a2,a3,a9,g3,g4,g5,P,a7,a8];refine Keep.loop (g.length-(k+(j+1))) zOm ⟨j+1,i+1,cur.set i g[k+j],rfl,zOm,zOm,zS1 f0,zSi,zS1 f4,zSi,zP1 a0,?_,?_,zOm,?_,?_⟩
     .simp [go_sem,List.map_set]
     .rw [show k+(j+1)=k+j+1 by omega,r,zd];simp;omega
     .rw [show k+(j+1)=k+j+1 by omega,r,<-I,List.take_add_one,qL zOm,List.take_set_of_le zOm];rfl
     .rw [show k+(j+1)-1=k+j by omega,List.drop_set_of_lt zOm];exact a4
   .have aa:k+j=g.length:=by omega
    rw[aa,qO]at C I;simp[go_sem,f0,f3,f4,f5,a1,J,show i<g.length by omega,show i<=g.length by omega];refine qkK (e:=3) (bt:=8) (zv:=aI 0) (cells:=cur.map aI) zSi zSi rfl rfl zOm (zP1 U) zSo zOm ?_;have hZ:∀ zs:List AV,zs.length=g.length-i->(putCells (cur.map aI) i zs).length=g.length/\(putCells (cur.map aI) i zs).take i=(cur.map aI).take i:=by
     intro zs hz;rw[jg _ _ _ zSo];refine⟨zSo,?_⟩;rw[zB,List.take_append,v8,Nat.min_eq_left zSo,Nat.sub_self,List.take_zero,zO,List.take_take,Nat.min_self]
    have hz:=hZ ((qu ((g.length-i)*1)).map fun j=>(aI 0).cells.getD (j % 1) .any) zSp;generalize putCells (cur.map aI) i _=Z at hz⊢;simp[go_sem,f0,f3,show i<=g.length by omega];refine⟨C,Z,rfl,hz.1,?_⟩;rw[<-C,hz.2,<-List.map_take,I]
  .rw [if_neg (zUs hp)]at o
   have ab:g.take (k+1)=g.take k++[g[k]]:=by rw[List.take_add_one,qA p];rfl
   simp[go_sem,e0,e3,p,hb,hw,t,hp,r1,r2,g1,g2];refine Keep.loop (g.length-(k+1)) zOm ⟨k+1,rfl,zOm,zOm,zS1 e0,?_,zSi,by rw[o,ab]⟩;simp[go_sem];exact zWr
 .have ad:k=g.length:=by omega
  subst ad;rw[qO]at hi;simp[go_sem,e0,e3,hm];rw[hi];exact⟨rfl,g.map aI,(X8 hb).symm,zSp,by rw[z6 zSp]⟩
end EN
namespace E4
open E1
theorem has06(r x)(hl:r.ts.length<=1000000000)(hs:sorted r.ts):qi qe 188 [eRel r,aI x] (aB (decide (x∈r.ts))):=by
 refine qSU call188 func188 rfl ?_;refine tT (fun n T=>∃ P g:Nat,n=g-P/\T.tm 1=aI x/\T.tm 2 = .ip [aI r.ar,lI r.ts]/\T.tm 5=aI P/\T.tm 6=aI g/\T.mu=[]/\P<=g/\g<=r.ts.length/\(∀(i:Nat)(h:i<r.ts.length),i<P->r.ts[i]<x)/\(∀(i:Nat)(h:i<r.ts.length),g<=i->x<=r.ts[i])) r.ts.length ?_ ?_
 .exact ⟨0,r.ts.length,zOm,zSi,zSi,zSi,zSi,zSi,zOm,zOm,fun i h h'=>zOm,fun i h h'=>zOm⟩
 rintro n T ⟨P,g,hn,I,t,J,R,U,a4,a5,C,a0⟩;by_cases a1:P<g
 .have hw:qq.wrap (qq.wrap ((P:Int)+g) / 2)=(((P+g) / 2:Nat):Int):=by
   rw[z8 (n:=(P:Int)+g) zOm zOm,zWr];omega
  have a2:(qq.wrap ((P:Int)+g)).tdiv 2=qq.wrap ((P:Int)+g) / 2:=Int.tdiv_eq_ediv_of_nonneg (by rw[zWr];omega);have j:(P+g) / 2<r.ts.length:=zOm;generalize a6:(P+g) / 2=mid at *
  by_cases hb:r.ts[mid]<x
  .simp [go_sem,I,t,J,R,U,a1,a2,hw,j,hb]
   refine Keep.loop (g-(mid+1)) zOm ⟨mid+1,g,rfl,zS1 I,zS1 t,?_,zS1 R,zSi,zOm,zOm,fun i h h'=>?_,a0⟩
   .simp [go_sem]
    exact zWr
   .rcases Nat.lt_or_ge i mid with p|p
    .exact Int.lt_trans (X3 hs p j) hb
    .have:i=mid:=by omega
     subst this;exact hb
  .simp [go_sem,I,t,J,R,U,a1,a2,hw,j,hb]
   refine Keep.loop (mid-P) zOm ⟨P,mid,rfl,zS1 I,zS1 t,zS1 J,zSi,zSi,zOm,zOm,C,fun i h h'=>?_⟩;rcases Nat.lt_or_ge mid i with p|p
   .have:=X3 hs p h;omega
   .have:i=mid:=by omega
    subst this;omega
 .have a3:g=P:=by omega
  subst a3;by_cases l:g<r.ts.length
  .by_cases he:r.ts[g]=x
   .simp [go_sem,I,t,J,R,U,l,he]
    have:x∈r.ts:=he ▸ qs l;simp[this];exact .zsc _
   .simp [go_sem,I,t,J,R,U,l,he]
    have:¬x∈r.ts:=fun h=>by
     obtain⟨i,o,rfl⟩:=Qb h;rcases Nat.lt_or_ge i g with p|p
     .have:=C i o p;omega
     .rcases Nat.lt_or_ge g i with h4|h4
      .have:=X3 hs h4 o
       have:=a0 g l zOm;omega
      .have:i=g:=by omega
       subst this;exact he rfl
    simp[this];exact .zsc _
  .simp [go_sem,t,J,R,U,l]
   have:¬x∈r.ts:=fun h=>by
    obtain⟨i,o,rfl⟩:=Qb h;have:=C i o zOm;omega
   simp[this];exact .zsc _
theorem qkM(a b)(hl:a.ts.length<=1000000000)(a1:b.ts.length<=1000000000)(hs:sorted b.ts):qi qe 134 [eRel a,eRel b] (eRel ⟨a.ar,a.ts.filter (fun t=>decide (¬t∈b.ts))⟩):=by
 refine qSU call134 func134 rfl ?_;refine tT (fun m T=>∃ k l g,m=a.ts.length-k/\k<=a.ts.length/\T.tm 2 = .ip [aI a.ar,lI a.ts]/\T.tm 3 = .ip [aI b.ar,lI b.ts]/\T.tm 4 = .ptr 0 0/\T.tm 5 = .ptr 1 0/\T.tm 6=aI (k:Nat) /\
  T.mu=[.arr [aI 0,.lst true []],.arr [aI a.ar,l]]++g/\OwnF 2 ([.dead,.dead]++g) 1 l (((a.ts.take k).filter (fun t=>decide (¬t∈b.ts))).map rI)) a.ts.length ?_ ?_
 .exact ⟨0,.lst true [],[],zOm,zOm,zSi,zSi,zSi,zSi,zSi,zSi,by simpa using OwnF.nil zSp⟩
 rintro m T ⟨k,l,g,rfl,hk,P,e3,e4,U,R,hm,p⟩;have p:=p.low (low:=[.dead,.dead]) (low':=[.arr [aI 0,.lst true []],.arr [aI a.ar,l]]) rfl;by_cases o:k<a.ts.length
 .simp [go_sem,P,R,o]
  refine cJ zKr ?_;simp[go_sem,P,e3,R,o];refine tS (has06 b a.ts[k] a1 hs) (.zk (qY b) (.zs .nil)) ?_;have a0:a.ts.take (k+1)=a.ts.take k++[a.ts[k]]:=by rw[List.take_add_one,qA o];rfl
  by_cases hb:a.ts[k]∈b.ts
  .simp [go_sem,R,hb]
   refine Keep.loop (a.ts.length-(k+1)) zOm ⟨k+1,l,g,rfl,zOm,zS1 P,zS1 e3,zS1 e4,zS1 U,?_,zS1 hm,?_⟩
   .simp [go_sem];exact zWr
   .rw [a0,List.filter_append];simpa[go_sem,hb] using p.low (low':=[.dead,.dead]) rfl
  .simp [go_sem,hb]
   refine cJ zKr ?_;simp[go_sem,P,U,R,o,hm];refine fV (low:=[.arr [aI 0,.lst true []],.arr [aI a.ar,l]]) (e:=3) (bt:=8) (z:=0) (xs:=(a.ts.take k).filter (fun t=>decide (¬t∈b.ts))) (ys:=[a.ts[k]]) zSi zSi zSi zOm p (by simp[qE]) ?_ ?_
   .have:=List.length_filter_le (fun t=>decide (¬t∈b.ts)) (a.ts.take k)
    have:=List.length_take_le k a.ts;have h3:[a.ts[k]].length=1:=rfl;omega
   intro a2 C I;simp[go_sem,U,R,I.cells,I.one];refine Keep.loop (a.ts.length-(k+1)) zOm ⟨k+1,a2,C,rfl,zOm,zS1 P,zS1 e3,zS1 e4,zS1 U,?_,zSi,?_⟩
   .simp [go_sem];exact zWr
   .rw [a0,List.filter_append]
    simpa[go_sem,hb] using I.low (low':=[.dead,.dead]) rfl
 .have a3:k=a.ts.length:=by omega
  subst a3;simp[go_sem,P,e4,U,R,hm,p.one];rw[qO]at p;simp at p;exact Rd.rel (r:=⟨a.ar,a.ts.filter (fun t=>!decide (t∈b.ts))⟩) (p.low (low:=[.arr [aI 0,.lst true []],.arr [aI a.ar,l]]) (low':=[.arr [aI a.ar,l],.arr [aI a.ar,l]]) rfl).rdI
theorem in06(a b)(i:a.ts.length<=1000000000)(g:b.ts.length<=1000000000)(j:sorted b.ts):qi qe 79 [eRel a,eRel b] (aB (inOk a b)):=by
 refine qSU call79 func79 rfl ?_;refine fR (qkM a b i g j) (.zk (qY a) (.zk (qY b) .nil)) ?_;have e:inOk a b=decide (∀ t,t∈a.ts->t∈b.ts):=by
  rw[j9];simp[inOk]
 rw[e];exact .zsc _
theorem X9(a b)(ha:a.length<=9223372036854775807):qi qe 37 [lI a,lI b] (aB (decide (a=b))):=by
 refine qSV call37 func37 rfl ?_;by_cases p:a.length=b.length
 case neg =>
  simp[go_sem,p];rw[decide_eq_false (by rintro rfl;exact p rfl)];exact .zsc _
 simp[go_sem,p];refine qm.up a.length (fun k T=>T.tm 0=lI a/\T.tm 1=lI b/\T.tm 12=aI a.length/\T.tm 13=aI k/\T.mu=[]/\∀(i:Nat)(h:i<a.length)(r:i<b.length),i<k->a[i]=b[i]) ?_ ?_
 .simp [go_sem,p]
 rintro k T hk ⟨J,P,j,l,R,U⟩;by_cases o:k<a.length
 .have g:k<b.length:=by omega
  simp[go_sem,j,l,R,o]
  try refine cJ zKr ?_
  by_cases t:a[k]=b[k]
  .simp [go_sem,J,P,j,l,o,g,t]
   refine⟨zWr,fun i h r hi=>?_⟩;rcases Nat.lt_succ_iff_lt_or_eq.1 hi with C|C
   .exact U i h r C
   .subst C;exact t
  .simp [go_sem,J,P,o,g,t]
   rw[decide_eq_false (by rintro rfl;simp at t)];exact .zsc _
 .have I:k=a.length:=by omega
  subst I;simp[go_sem,j,l,R];rw[decide_eq_true (List.ext_getElem p fun i h r=>U i h r h)];exact .zsc _
theorem Ka(a b)(j:a.ts.length<=9223372036854775807):qi qe 61 [eRel a,eRel b] (aB (decide (a=b))):=by
 have g:(a=b)=(a.ar=b.ar/\a.ts=b.ts):=by cases a;cases b;simp
 refine qSV call61 func61 rfl ?_;by_cases i:a.ar=b.ar
 case neg =>
  simp[go_sem,i,g];exact .zsc _
 simp[go_sem,i];refine tS (X9 a.ts b.ts j) (.zk (zh _) (.zk (zh _) .nil)) ?_;simp[go_sem,i,g];exact .zsc _
theorem WK.ints{full}(l):WK (.lst full (l.map rI)) (lI l):=WK.lst fun r i c g=>by
 obtain⟨n,_,rfl⟩:=qn.1 i;simp at g;subst g;exact HF.sc _
end E4
namespace EO
open YS
section
variable {I:Type}{s:AV}{K:AV->Mu->Prop}{l:List Int}{mu:Mu}{P:qb}
def FnOk(P:qb)(o:AV){I:Type}(enc:I->AV)(ok:I->Prop)(g:I->AV):Prop:=
 HF o/\∃ l first j,o = .fn (.func l) first j/\∀ x,ok x->∃ i,WKs (first++[enc x]++j) i/\qi P l i (g x)
theorem FnOk.call{o enc ok g}(h:FnOk P o enc ok g){x:I}(p:ok x){det mu K r}(k:K (g x) mu):qh P det mu o [enc x] K r:=by
 obtain⟨_,l,first,j,rfl,h⟩:=h;obtain⟨i,t,C⟩:=h x p;exact .inl ⟨g x,.inl ⟨l,first,j,i,rfl,C,.inl t⟩,k⟩
def qp:AV->Option Nat
 | .sl b _ _ _=>some b
 |_=>none
def OwnI(mu:Mu)(s:AV)(l:List Int):Prop:=(s = .lst true []/\l=[])\/∃ b,s = .sl b 1 0 l.length/\mu[b]?=some (.arr (l.map aI))
def OwnV(mu:Mu)(s:AV)(l:List Int):Prop:=(s = .lst true []/\l=[])\/∃ b cells,s = .sl b 1 0 l.length/\mu[b]?=some (.arr cells)/\l.length<=cells.length/\cells.take l.length=l.map aI
theorem OwnI.v(h:OwnI mu s l):OwnV mu s l:=by
 rcases h with h|⟨b,g,i⟩
 .exact .inl h
 .exact .inr ⟨b,_,g,i,zSp,by rw[z6 zSp]⟩
theorem OwnV.one(h:OwnV mu s l):s.one=true:=by
 rcases h with ⟨rfl,_⟩|⟨b,c,rfl,_⟩<;>rfl
theorem OwnV.cells(h:OwnV mu s l):s.cells=[s]:=by
 rcases h with ⟨rfl,_⟩|⟨b,c,rfl,_⟩<;>rfl
theorem OwnV.same{mu'}(h:OwnV mu s l)(g:∀ b,qp s=some b->mu'[b]?=mu[b]?):OwnV mu' s l:=by
 rcases h with h|⟨b,c,rfl,i,j,o⟩
 .exact .inl h
 .exact .inr ⟨b,c,rfl,by rw[g b rfl];exact i,j,o⟩
theorem OwnI.same{mu'}(h:OwnI mu s l)(g:∀ b,qp s=some b->mu'[b]?=mu[b]?):OwnI mu' s l:=by
 rcases h with h|⟨b,rfl,i⟩
 .exact .inl h
 .exact .inr ⟨b,rfl,by rw[g b rfl];exact i⟩
theorem OwnV.lt(h:OwnV mu s l){b}(g:qp s=some b):b<mu.length:=by
 rcases h with ⟨rfl,_⟩|⟨j,c,rfl,i,_⟩
 .cases g
 .cases g;exact(qk.1 i).1
theorem OwnV.rd(h:OwnV mu s l):Rd mu s (lI l):=by
 rcases h with ⟨rfl,rfl⟩|⟨b,cells,rfl,p,t,o⟩
 .exact .wk _ true _ (.hf _ (HF.lst fun r C=>by simp at C))
 .refine .sl b 1 0 _ cells _ p (zUs t) zSp (fun x g=>by
   obtain⟨l,_,rfl⟩:=qn.1 g;rfl) (fun k x y g j=>?_)
  rw[yj]at g;rw[Z5,<-o,vu]at j;split at j
  .rw [g]at j;cases j
   have:x∈cells.take l.length:=by
    refine zb (i:=k) ?_;rw[vu,if_pos (by assumption)];exact g
   rw[o]at this;obtain⟨z,_,rfl⟩:=qn.1 this;exact .zsc _
  grind
theorem aN{t g e bt:Nat}{x ys z}(I:qJ P t=some (e,1,bt))(j:(qJ P g).isSome=true)(J:qB P e=some (aI z))
  (R:bt<=16384) (T:OwnV mu s l) (U:qE mu x=some (ys.map rI)) (C:l.length+ys.length<=4294967296)
  (k:∀ av mu',OwnI mu' av (l++ys)->(∀ i,i<mu.length->qp s≠some i->mu'[i]?=mu[i]?)->mu.length<=mu'.length->(∀ b,qp av=some b->b=mu.length)->K av mu'):qz P mu #[t,g] s x K:=by
 refine .inl ⟨t,g,e,1,bt,ys.map rI,rfl,I,j,⟨_,J,rfl,rfl⟩,zOm,R,U,yC ys,?_⟩;rcases T with ⟨rfl,rfl⟩|⟨b,cells,rfl,hc,h1,h2⟩
 .refine .inl ⟨[],rfl,fun r hr=>by simp at hr,zUs C,fun h=>?_,fun h=>?_⟩
  .have:ys=[]:=by simpa using h
   subst this;exact k _ _ (.inl ⟨rfl,rfl⟩) (fun _ _ _=>rfl) (qr _) (fun _ h=>by cases h)
  .refine k _ _ (.inr ⟨mu.length,zSp,by simp[Z5]⟩) (fun i o _=>?_) zSp (fun b h=>by cases h;rfl)
   rw[qN o]
 .refine .inr ⟨b,l.length,cells,rfl,hc,zUs h1,zUs C,?_⟩
  have e1:cells.take (l.length*1)++(ys.map rI).flatten=(l++ys).map aI:=by rw[Nat.mul_one,h2,ze,Z5]
  have e2:l.length+(ys.map rI).length=(l++ys).length:=zSp;rw[e1,e2];refine k _ _ (.inr ⟨mu.length,rfl,?_⟩) (fun i o p=>?_) zSp (fun b h=>by cases h;rfl)
  .simp
  .rw [qN (zUs o),yJ (fun h=>p (by rw[h];rfl))]
theorem aM{t j e bt:Nat}{x z}(o:qJ P t=some (e,1,bt))(g:(qJ P j).isSome=true)(p:qB P e=some (aI z))
  (r:bt<=16384) (C:OwnV mu s l) (I:l.length+1<=4294967296)
  (k:∀ av mu',OwnI mu' av (l++[x])->(∀ i,i<mu.length->qp s≠some i->mu'[i]?=mu[i]?)->mu.length<=mu'.length->(∀ b,qp av=some b->b=mu.length)->K av mu'):qz P mu #[t,j] s (.lst true [[aI x]]) K:=
 aN (ys:=[x]) o g p r C rfl I k
theorem sumG(l)(P:l.length<=1000000)(C:∀ k,0<=sumI (l.take k)/\sumI (l.take k)<=1000000):qi qe 101 [lI l] (aI (sumI l)):=by
 refine qSU call101 func101 rfl ?_;refine qm.up l.length (fun k T=>T.tm 6=lI l/\T.tm 7=aI l.length/\T.tm 3=aI (sumI (l.take k))/\T.tm 8=aI k/\T.mu=[]) ?_ ?_
 .simp [go_sem,sumI]
 rintro k T R ⟨I,o,p,r,t⟩;by_cases g:k<l.length
 .have J:=uV l k g
  have i:=C (k+1);rw[J]at i;simp[go_sem,I,o,p,r,t,g]
  grind [z8]
 .have j:k=l.length:=by omega
  subst j;simp[go_sem,o,p,r,t];exact .zsc _
theorem YP(sc)(g:GSc sc):qi qe 56 [eSc sc] (aI (sumI sc.sC)):=by
 refine qSU call56 func56 rfl ?_;refine fR (sumG _ (zQ g.1 zOm) fun k=>zW1 (g.sum k)) (.zk (zh _) .nil) ?_;exact .zsc _
theorem qkN(sc)(g:GSc sc)(s)(i:s<=sc.sC.length):qi qe 161 [eSc sc,aI s] (aI (sumI (sc.sC.take s))):=by
 refine qSV call161 func161 rfl ?_;have j:WKs [.lst false ((sc.sC.map rI).take s)] [lI (sc.sC.take s)] := .cons (by rw[<-List.map_take];exact .hf (zh _)) .nil;simp[go_sem,i];refine⟨⟨_,_,⟨rfl,rfl⟩,(yC sc.sC).ok⟩,?_⟩;refine fR (sumG (sc.sC.take s) (by simp;have:=g.1;omega) fun k=>by rw[List.take_take];have:=g.sum (min k s);omega) j ?_;exact .zsc _
def jP(p:I->Bool):List I->Int->Int
 | [],_ => -1
 |x :: l,i=>if p x=true then i else jP p l (i+1)
theorem Kb(p)(l:List I)(k i h):jP p (l.drop k) i=if p l[k]=true then i else jP p (l.drop (k+1)) (i+1):=by
 rw[zu h,jP]
theorem UN(p):∀(l:List I)(i),0<=i->decide (0<=jP p l i)=l.any p
 | [],i,h=>by simp[jP]
 |x :: l,i,h=>by
  rw[jP,List.any_cons];cases g:p x with
  |true=>simp[h]
  |false=>simpa using UN p l (i+1) zOm
theorem qkO(xs y)(J:xs.length<=1000000000):qi qe 223 [lI xs,aI y] (aI (jP (fun x=>decide (x=y)) xs 0)):=by
 refine qSU call223 func223 rfl ?_;refine qm.up xs.length (fun k T=>T.tm 0=lI xs/\T.tm 1=aI y/\T.tm 7=aI xs.length/\T.tm 8=aI k/\T.mu=[]/\jP (fun x=>decide (x=y)) (xs.drop k) k=jP (fun x=>decide (x=y)) xs 0) ?_ ?_
 .simp [go_sem]
 rintro k T P ⟨C,I,l,o,p,i⟩;by_cases g:k<xs.length
 .rw [Kb _ _ _ _ g]at i
  by_cases j:xs[k]=y
  .rw [if_pos (zUs j)]at i
   subst j;simp[go_sem,C,I,l,o,p,g];rw[<-i];exact .zsc _
  .rw [if_neg (zUs j)]at i
   have r:¬y=xs[k]:=fun h=>j h.symm
   simp[go_sem,C,I,l,o,p,g,r]
   grind [z8]
 .have t:k=xs.length:=by omega
  subst t;rw[yd]at i;simp[go_sem,l,o,p];rw[<-i];exact .zsc _
theorem qkP(xs y)(g:xs.length<=1000000000):qi qe 187 [lI xs,aI y] (aB (decide (y∈xs))):=by
 refine qSU call187 func187 rfl ?_;refine tS (qkO xs y g) (.zk (zh _) (.zs .nil)) ?_;have e:decide (y∈xs)=decide (0<=jP (fun x=>decide (x=y)) xs 0):=by
  rw[UN _ _ _ zOm,j9,List.any_eq_true];simp
 rw[e];simp[go_sem];exact .zsc _
abbrev lB(xs:List Bool):AV := .lst false (xs.map fun b=>[aB b])
theorem J9(xs):HF (lB xs):=HF.lst fun r g c i=>by
 obtain⟨n,_,rfl⟩:=qn.1 g
 grind [HF.sc]
theorem qkQ(xs y)(J:xs.length<=1000000000):qi qe 186 [lB xs,aB y] (aI (jP (fun x=>decide (x=y)) xs 0)):=by
 refine qSU call186 func186 rfl ?_;refine qm.up xs.length (fun k T=>T.tm 0=lB xs/\T.tm 1=aB y/\T.tm 7=aI xs.length/\T.tm 8=aI k/\T.mu=[]/\jP (fun x=>decide (x=y)) (xs.drop k) k=jP (fun x=>decide (x=y)) xs 0) ?_ ?_
 .simp [go_sem]
 rintro k T P ⟨C,I,j,l,o,i⟩;by_cases g:k<xs.length
 .rw [Kb _ _ _ _ g]at i
  by_cases p:xs[k]=y
  .rw [if_pos (zUs p)]at i
   subst p;simp[go_sem,C,I,j,l,o,g];rw[<-i];exact .zsc _
  .rw [if_neg (zUs p)]at i
   have r:(y == xs[k])=false:=by grind
   simp[go_sem,C,I,j,l,o,g,r]
   grind [z8]
 .have t:k=xs.length:=by omega
  subst t;rw[yd]at i;simp[go_sem,j,l,o];rw[<-i];exact .zsc _
theorem qkR(xs y)(g:xs.length<=1000000000):qi qe 128 [lB xs,aB y] (aB (decide (y∈xs))):=by
 refine qSU call128 func128 rfl ?_;refine tS (qkQ xs y g) (.zk (J9 _) (.zs .nil)) ?_;have e:decide (y∈xs)=decide (0<=jP (fun x=>decide (x=y)) xs 0):=by
  rw[UN _ _ _ zOm,j9,List.any_eq_true];simp
 rw[e];simp[go_sem];exact .zsc _
end
end EO
namespace F1
open Y1 YF E3 EO
abbrev cMa(x:Mo):List AV:=cMd x.m++(cTS x.ts++[aI x.n])
abbrev eMa(x:Mo):AV := .ip (cMa x)
abbrev cPl(p:Pl):List AV:=[aI p.st,lPm p.env]
abbrev ePl(p:Pl):AV := .agg (cPl p)
theorem Z8(l):HF (lSt l):=HF.lst fun r i c g=>by
 obtain⟨n,_,rfl⟩:=qn.1 i;simp at g;subst g;exact Qq _
theorem mO(m):∀ c,c∈cMd m->HF c:=by
 intro c g;simp at g;rcases g with rfl|rfl|rfl|rfl
 .exact zh _
 .exact HF.sc _
 .exact Z8 _
 .exact HF.sc _
theorem yM(m):HF (eMd m):=HF.agg (mO m)
theorem yc(x):HF (eMa x):=HF.ip fun c g=>by
 rcases qM.1 g with g|g
 .exact mO _ c g
 .rcases qM.1 g with g|g
  .exact YO _ c g
  .rw [qV]at g;subst g;exact HF.sc _
theorem UO(p):HF (ePl p):=HF.agg fun c g=>by
 simp at g;rcases g with rfl|rfl
 .exact HF.sc _
 .exact uB _
theorem wk3(x p n):WKs [eMa x,ePl p,eNd n] [eMa x,ePl p,eNd n] := .zk (yc x) (.zk (UO p) (.zk (qK n) .nil))
abbrev errV(e:Int):AV := .ifc 46 (aI e)
theorem qQ(e):HF (errV e):=HF.ifc (HF.sc _)
def endE:XE Rl->AEnd
 | .ok r => .ret (eRel r)
 | .error e => .pan (errV e)
def endN:XE Int->AEnd
 | .ok r => .ret (aI r)
 | .error e => .pan (errV e)
def endB:XE Bool->AEnd
 | .ok r => .ret (aB r)
 | .error e => .pan (errV e)
def end2:XE (Rl×Rl)->AEnd
 | .ok r => .ret (.tup [eRel r.1,eRel r.2])
 | .error e => .pan (errV e)
@[go_sem] theorem endE_ok(r):endE (.ok r) = .ret (eRel r):=rfl
@[go_sem] theorem endE_err(e):endE (.error e) = .pan (errV e):=rfl
@[go_sem] theorem endN_ok(r):endN (.ok r) = .ret (aI r):=rfl
@[go_sem] theorem endN_err(e):endN (.error e) = .pan (errV e):=rfl
@[go_sem] theorem endB_ok(r):endB (.ok r) = .ret (aB r):=rfl
@[go_sem] theorem endB_err(e):endB (.error e) = .pan (errV e):=rfl
@[go_sem] theorem end2_ok(r):end2 (.ok r) = .ret (.tup [eRel r.1,eRel r.2]):=rfl
@[go_sem] theorem end2_err(e):end2 (.error e) = .pan (errV e):=rfl
theorem wI(e):qZ qe 133 [aI e] (.pan (errV e)):=by
 refine zl.of_sound ?_;refine qSW call133 func133 rfl {} ?_;simp[go_sem];exact⟨_,_,⟨rfl,rfl⟩,.hf _ (qQ _)⟩
theorem wkI(e):WKs [aI e] [aI e] := .zs .nil
theorem UP(r e):qZ qe 214 [eRel r,aI e] (if e=0 then .ret (eRel r) else .pan (errV e)):=by
 refine zl.of_sound ?_;refine qSW call214 func214 rfl {} ?_;by_cases h:e=0
 .simp [go_sem,h]
  exact .hf _ (qY r)
 .simp [go_sem,h]
  refine kL (wI e) (wkI e) ?_;simp[go_sem];exact .hf _ (qQ _)
theorem qkS(x)(g:GSc x.m.sc):qi qe 77 [eTS x.ts,eMd x.m] (eMa x):=by
 refine qSU call77 func77 rfl ?_;refine fM ?_;refine fR (YP x.m.sc g) (.zk (zA _) .nil) ?_;exact .hf _ (yc x)
theorem qkT(mu b e)(g:mu[b]?=some (.arr [aI e])):jb qe 76 [.ptr b 0] mu none fun mu'=>mu'=mu:=by
 refine jb.of_awp call76 func76 rfl ⟨_,_,_,_,rfl⟩ (ur zKr) zKr zKr (pl:={}) ?_;simp[go_sem]
theorem qkU(mu b y e)(g:mu[b]?=some (.arr [aI y])):jb qe 76 [.ptr b 0] mu (some (errV e)) fun mu'=>mu'=mu.set b (.arr [aI e]):=by
 refine jb.of_awp call76 func76 rfl ⟨_,_,_,_,rfl⟩ (ur zKr) zKr zKr (pl:={}) ?_;simp[go_sem,g]
end F1
namespace EP
open E1 EO
section
variable {I:Type}{cs:List (Int×AV)}{g:List (Int×List Int)}{mu:Mu}{b:Nat}
theorem keyI:KeyT qe 3 (fun n:Int=>aI n) (fun _=>True):=by
 refine⟨fun a b _ _=>?_,fun a _=>zSi⟩;simp[go_sem]
theorem yv{l:List I}{n}(h):l.take (n+1)=l.take n++[l[n]]:=by rw[List.take_add_one,qA h];rfl
def cntK(f:Int->Int)(ts:List Int):List (Int×Int):=ts.foldl (fun m t=>setK (f t) ((getK (f t) m).getD 0+1) m) []
theorem mP(f ts t):cntK f (ts++[t])=setK (f t) ((getK (f t) (cntK f ts)).getD 0+1) (cntK f ts):=by simp[cntK,vM]
theorem UQ(f)(ts:List Int):∀ n,n<=ts.length->∀ k,0<=(getK k (cntK f (ts.take n))).getD 0/\(getK k (cntK f (ts.take n))).getD 0<=n/\(0<(getK k (cntK f (ts.take n))).getD 0↔∃ t,t∈ts.take n/\f t=k)
 | 0,_,k=>by simp[cntK,getK]
 |n+1,h,k=>by
  obtain⟨l,p,o⟩:=UQ f ts n zOm k;have i:n<ts.length:=zOm;obtain⟨g1,r,_⟩:=UQ f ts n zOm (f ts[n]);rw[yv i,mP,j5];by_cases j:k=f ts[n]
  .rw [if_pos j]
   simp only[Option.getD_some];exact⟨zOm,zOm,fun _=>⟨ts[n],List.mem_append_right _ (qV.2 rfl),j.symm⟩,fun _=>zOm⟩
  .rw [if_neg j]
   refine⟨l,zOm,o.trans ⟨fun⟨t,g,e⟩=>⟨t,jt _ g,e⟩,fun⟨t,g,e⟩=>?_⟩⟩;rcases qM.1 g with g|g
   .grind
   grind
theorem mQ(f ts k):0<=(getK k (cntK f ts)).getD 0/\(0<(getK k (cntK f ts)).getD 0↔∃ t,t∈ts/\f t=k):=by
 have:=UQ f ts ts.length (qr _) k
 grind
def grpK(m:Int)(ys:List Int):List (Int×List Int):=ys.foldl (fun g y=>setK (y / m) ((getK (y / m) g).getD []++[y % m]) g) []
theorem mR(m ys y):grpK m (ys++[y])=setK (y / m) ((getK (y / m) (grpK m ys)).getD []++[y % m]) (grpK m ys):=by simp[grpK,vM]
theorem UR(m)(ys:List Int):∀ n,n<=ys.length->∀ k,(getK k (grpK m (ys.take n))).getD []=((ys.take n).filter fun y=>decide (y / m=k)).map fun y=>y % m
 | 0,_,k=>by simp[grpK,getK]
 |n+1,h,k=>by
  have j:=UR m ys n zOm;have i:n<ys.length:=zOm;rw[yv i,mR,j5,List.filter_append,ze];by_cases g:k=ys[n] / m
  .rw [if_pos g,Option.getD_some,<-g,j k]
   simp[g]
  .rw [if_neg g,j k]
   have:¬ys[n] / m=k:=fun e=>g e.symm
   simp[this]
theorem mS{i}(q:Int->Int)(v:List (Int×i)->Int->i):∀(l:List Int)(g),(g.map Prod.fst).Nodup->((l.foldl (fun g y=>setK (q y) (v g y) g) g).map Prod.fst).Nodup
 | [],g,h=>h
 |y :: l,g,h=>mS q v l _ (wE h)
theorem qkV(m ys):((grpK m ys).map Prod.fst).Nodup:=mS (fun y=>y / m) (fun g y=>(getK (y / m) g).getD []++[y % m]) ys [] zSp
theorem mT{g}(k v w):∀{es:List (Int×I)}{fs:List (Int×g)},es.map Prod.fst=fs.map Prod.fst->(setK k v es).map Prod.fst=(setK k w fs).map Prod.fst
 | [],[],_=>rfl
 |e :: es,f :: fs,h=>by
  simp only[List.map_cons,ZN]at h;unfold setK;rw[<-h.1];split
  .simp [h.2]
  .simp [h.1,mT k v w h.2]
 | [],_ :: _,h=>by simp at h
 |_ :: _,[],h=>by simp at h
theorem mU{g}(k):∀{es:List (Int×I)}{fs:List (Int×g)},es.map Prod.fst=fs.map Prod.fst->(getK k es=none↔getK k fs=none)
 | [],[],_=>by simp[getK]
 |e :: es,f :: fs,h=>by
  simp only[List.map_cons,ZN]at h;unfold getK;rw[<-h.1];split
  .simp
  .exact mU k h.2
 | [],_ :: _,h=>by simp at h
 |_ :: _,[],h=>by simp at h
structure GrpM (mu:Mu) (b:Nat) (g:List (Int×List Int)) (cs:List (Int×AV)):Prop where
 at0:mu[b]?=some (.mp (encK (fun n:Int=>aI n) id cs))
 keys:cs.map Prod.fst=g.map Prod.fst
 own:∀ k v,getK k cs=some v->∃ l,getK k g=some l/\OwnI mu v l
 inj:∀ k k' v v' x,getK k cs=some v->getK k' cs=some v'->qp v=some x->qp v'=some x->k=k'
 ne:∀ k v,getK k cs=some v->qp v≠some b
theorem GrpM.cur(h:GrpM mu b g cs)(k):OwnI mu ((getK k cs).getD (.lst true [])) ((getK k g).getD []):=by
 cases i:getK k cs with
 |none=>rw[(mU k h.keys).1 i];exact .inl ⟨rfl,rfl⟩
 |some v=>obtain⟨l,j,o⟩:=h.own k v i;rw[j];exact o
theorem GrpM.step{mu'}(h:GrpM mu b g cs){k av l}(ho:OwnI mu' av l)(hs:∀ i,i<mu.length->qp ((getK k cs).getD (.lst true []))≠some i->mu'[i]?=mu[i]?)(hb:∀ x,qp av=some x->x=mu.length) :
  mu'[b]?=some (.mp (encK (fun n:Int=>aI n) id cs))/\GrpM (mu'.set b (.mp (encK (fun n:Int=>aI n) id (setK k av cs)))) b (setK k l g) (setK k av cs):=by
 have R:b<mu.length:=(qk.1 h.at0).1;have T:qp ((getK k cs).getD (.lst true []))≠some b:=by
  cases j:getK k cs with
  |none=>simp[qp]
  |some v=>exact h.ne k v j
 have U:=hs b R T;have C:b<mu'.length:=by
  grind
 have a3:qp av≠some b:=fun e=>by grind
 have keep:∀{v:AV}{l:List Int},OwnI mu' v l->qp v≠some b->OwnI (mu'.set b (.mp (encK (fun n:Int=>aI n) id (setK k av cs)))) v l:=fun o hn=>o.same fun x I=>by
  grind
 have a0:∀{p:Int}{v:AV}{l:List Int},p≠k->getK p cs=some v->OwnI mu v l->OwnI mu' v l:=fun a1 j o=>o.same fun x I=>by
  have a2:=o.v.lt I;refine hs x a2 fun e=>?_
  cases hc:getK k cs with
  |none=>grind [qp]
  |some w=>rw[hc]at e;exact a1 (h.inj _ _ _ _ x j hc I e)
 refine⟨by rw[U];exact h.at0,by rw[qL C],mT k _ _ h.keys,fun p v j=>?_,fun k1 k2 v1 v2 x r t h1 h2=>?_,fun p v j=>?_⟩
 .rw [j5]at j⊢
  by_cases e:p=k
  .grind
  .rw [if_neg e]at j⊢
   obtain⟨l',h1,h2⟩:=h.own p v j;exact⟨l',h1,keep (a0 e j h2) (h.ne p v j)⟩
 .rw [j5]at r t
  have lt:∀{p v},getK p cs=some v->qp v=some x->x<mu.length:=fun j I=>by
   obtain⟨l',_,o⟩:=h.own _ _ j;exact o.v.lt I
  by_cases P:k1=k
  .by_cases J:k2=k
   .rw [P,J]
   .rw [if_pos P]at r;rw[if_neg J]at t;grind
  .by_cases J:k2=k
   .rw [if_neg P]at r;rw[if_pos J]at t;grind
   .rw [if_neg P]at r;rw[if_neg J]at t
    exact h.inj _ _ _ _ x r t h1 h2
 .rw [j5]at j
  by_cases e:p=k
  .grind
  .rw [if_neg e]at j;exact h.ne p v j
theorem GrpM.nil(h:mu[b]?=some (.mp [])):GrpM mu b [] []:=⟨h,rfl,fun k v g=>by simp[getK]at g,fun k i v j x g=>by simp[getK]at g,fun k v g=>by simp[getK]at g⟩
theorem GrpM.rd(h:GrpM mu b g cs)(C:(g.map Prod.fst).Nodup):Rd mu (.mp b) (.im (encK (fun n:Int=>aI n) lI g)):=by
 have r:cs.length=g.length:=by have:=congrArg List.length h.keys;grind
 have t:(cs.map Prod.fst).Nodup:=by rw[h.keys];exact C
 refine .mp b _ _ h.at0 (by simp[encK,r]) (fun k x y i j=>?_) (fun k x y i j=>?_)
 .have e:=congrArg (fun l=>l[k]?) h.keys
  simp only[zn]at e i j;cases o:cs[k]? with
  |none=>grind
  |some c =>
   cases p:g[k]? with
   |none=>grind
   |some d =>
    rw[o]at i;rw[p]at j;rw[o,p]at e;cases i;cases j;simp only[zq,qv]at e;simp only[e];exact .zsc _
 .have e:=congrArg (fun l=>l[k]?) h.keys
  simp only[zn]at e i j;cases o:cs[k]? with
  |none=>grind
  |some c =>
   cases p:g[k]? with
   |none=>grind
   |some d =>
    rw[o]at i;rw[p]at j;rw[o,p]at e;cases i;cases j;simp only[zq,qv]at e;obtain⟨l,I,J⟩:=h.own c.1 c.2 ((Zq t).2 (zb o));rw[e]at I;have:=(Zq C).2 (zb p:(d.1,d.2)∈g);rw[I]at this;cases this;exact J.v.rd
theorem qkW(n m x y):(x.flatMap fun s=>((getK (s % n) (grpK m y)).getD []).map fun t=>s / n*m+t)=joL n m x y:=by
 unfold joL;congr 1;funext s;have:=UR m y y.length (qr _) (s % n);simp_all
end
end EP
namespace EQ
open E1 EJ EM EN EO
theorem aD{P mu}{t g e bt n:Nat}{z K}(i:qJ P t=some (e,1,bt))(j:P.underlying g=some (.int .i64))(l:qB P e=some (aI z))(o:bt<=16384)(p:0<n)(C:n<=4294967296)
  (k:∀ c,K (.sl mu.length 1 0 n) (mu++[.arr c])):qz P mu #[t,g] (.lst true []) (aI n) K:=
 .inr (.inr ⟨t,g,e,1,bt,_,n,[],rfl,i,j,l,rfl,rfl,zOm,o,rfl,p,rfl,fun r I=>by simp at I,zUs C,by simpa using k _⟩)
theorem growE(mu)(n:Nat)(I:n<=1000000):qD qe 204 [.lst true [],aI n] mu fun e m=>∃ av,e = .ret av/\OwnV m av []/\(∀ i,i<mu.length->m[i]?=mu[i]?)/\mu.length<=m.length/\∀ b,qp av=some b->mu.length<=b:=by
 refine qSW call204 func204 rfl {} ?_;have j:qq.wrap 0=0:=zWr;have o:qq.wrap (n:Int)=n:=zWr;have g:¬(n:Int)<0:=zOm;by_cases p:n=0
 .subst p
  simp[go_sem,j];exact⟨.inl ⟨rfl,rfl⟩,by simp[qp]⟩
 .have l:0<n:=by omega
  simp[go_sem,j,o,g,l];refine⟨⟨_,_,⟨rfl,rfl⟩,fun r t=>by simp at t⟩,?_⟩;refine aD (e:=3) (bt:=8) (z:=0) zSi zSi zSi zOm l zOm ?_;intro c;simp[go_sem];refine⟨.inr ⟨mu.length,c,rfl,zSp,zSp,zSp⟩,fun i C=>by rw[qN C],by simp[qp]⟩
theorem qkX(mu a b)(ha:a.length<=100000)(hb:b.length<=100000):qD qe 164 [.lst true [[lI a],[lI b]]] mu fun e m=>∃ av,e = .ret av/\OwnI m av (a++b)/\(∀ i,i<mu.length->m[i]?=mu[i]?)/\mu.length<=m.length/\∀ x,qp av=some x->mu.length<=x:=by
 refine qSW call164 func164 rfl {} ?_;have v1:qq.wrap 1=1:=zWr;have v2:qq.wrap 2=2:=zWr;simp[go_sem];have n0:¬((a.length:Int)+b.length)<0:=zOm;refine qm.up 2 (fun k T=>T.tm 0 = .lst true [[lI a],[lI b]]/\T.tm 3=aI ((if 0<k then (a.length:Int) else 0)+(if 1<k then (b.length:Int) else 0))/\T.tm 9 = .lst true [[lI a],[lI b]]/\T.tm 10=aI 2/\T.tm 11=aI k/\T.mu=mu) ?_ ?_
 .simp [go_sem]
 rintro k T hk ⟨e0,e3,e9,t,C,hm⟩;by_cases I:k<2
 .have:k=0\/k=1:=by omega
  rcases this with rfl|rfl
  .have w1:qq.wrap (a.length:Int)=a.length:=zWr
   have n1:¬(a.length:Int)<0:=zOm;simp[go_sem, *]
  .have w1:qq.wrap ((a.length:Int)+b.length)=a.length+b.length:=zWr
   simp[go_sem, *]
 .have:k=2:=by omega
  subst this;have g:=growE mu (a.length+b.length) zOm;simp[go_sem,e3,t,C,hm];refine fZ (zUs g) ?_ ?_
  .rintro r m ⟨av,h,p,hs,hl,J⟩
   cases h;simp[go_sem,e0];refine qm.up 2 (fun k T=>T.tm 25 = .lst true [[lI a],[lI b]]/\T.tm 26=aI 2/\T.tm 27=aI k/\(if k=0 then OwnV T.mu (T.tm 6) [] else OwnI T.mu (T.tm 6) (if k=1 then a else a++b))/\(∀ i,i<mu.length->T.mu[i]?=mu[i]?)/\mu.length<=T.mu.length/\∀ x,qp (T.tm 6)=some x->mu.length<=x) ?_ ?_
   .simp_all [go_sem]
   rintro k a1 hk ⟨f25,f26,f27,p,hs,hl,J⟩;by_cases I:k<2
   .have:k=0\/k=1:=by omega
    rcases this with rfl|rfl
    .rw [if_pos rfl]at p
     simp[go_sem,f25,f26,f27];refine aN (e:=3) (bt:=8) (z:=0) (l:=[]) (ys:=a) zSi zSi zSi zOm p (by simp[qE]) zSo ?_;intro P j o R U a0;simp at o;simp[go_sem,f25,f26,f27,v1];refine⟨o,fun i hi=>?_,zOm,fun x hx=>?_⟩
     .grind
     grind
    .rw [zIn,if_pos rfl]at p
     simp[go_sem,f25,f26,f27];refine aN (e:=3) (bt:=8) (z:=0) (l:=a) (ys:=b) zSi zSi zSi zOm p.v (by simp[qE]) zOm ?_;intro P j o R U a0;simp[go_sem,f25,f26,f27,v2];refine⟨o,fun i hi=>?_,zOm,fun x hx=>?_⟩
     .grind
     grind
   .have:k=2:=by omega
    simp_all[go_sem]
  grind
theorem qkY(mu):qD qe 202 [.lst true []] mu fun e m=>e = .ret (.tup [])/\m=mu:=by
 refine⟨call202,fun G w o s g=>?_⟩;obtain⟨v,rfl,i⟩:=g.one_inv;obtain⟨p,cap,rfl⟩:∃ p cap,v = .slice p 0 cap:=by cases i<;>exact⟨_,_,rfl⟩
 refine(Tryz.slices_Sort_int_none p cap w).mono fun e r ⟨j,l⟩=>?_
 subst l;exact⟨G,mu,.refl s,.inl ⟨_,_,⟨rfl,rfl⟩,j,.tup [] #[] rfl zSp⟩⟩
theorem sortA(mu av l)(r:l.length<=1000000)(j:OwnI mu av l):qD qe 202 [av] mu fun e m=>e = .ret (.tup [])/\OwnI m av (srtI l)/\(∀ i,qp av≠some i->m[i]?=mu[i]?)/\m.length=mu.length:=by
 rcases j with ⟨rfl,rfl⟩|⟨b,rfl,g⟩
 .refine (qkY mu).monoR ?_
  rintro e m ⟨rfl,rfl⟩;exact⟨rfl,.inl ⟨rfl,by simp[srtI]⟩,fun _ _=>rfl,rfl⟩
 .refine (sortE g zOm).monoR ?_
  rintro e m ⟨rfl,rfl⟩;have o:b<mu.length:=(qk.1 g).1;exact⟨rfl,.inr ⟨b,by rw[J4],by rw[qL o]⟩,fun i p=>by rw[yJ (fun e=>p (by rw[e];rfl))],zSp⟩
theorem qkZ(mu av l)(o:l.length<=1000000)(p:OwnI mu av l):qD qe 203 [av] mu fun e m=>∃ x,e = .ret x/\OwnV m x (cmpc eqI l)/\(∀ i,qp av≠some i->m[i]?=mu[i]?)/\m.length=mu.length/\∀ b,qp x=some b->qp av=some b:=by
 rcases p with ⟨rfl,rfl⟩|⟨b,rfl,g⟩
 .refine qSW call203 func203 rfl {} ?_
  simp[go_sem];exact .inl ⟨rfl,rfl⟩
 .refine (qkL mu b l o g).monoR ?_
  rintro e m ⟨cells,rfl,rfl,I,j⟩;have r:b<mu.length:=(qk.1 g).1;refine⟨_,rfl,.inr ⟨b,cells,rfl,by rw[qL r],?_,j⟩,fun i t=>by rw[yJ (fun e=>t (by rw[e];rfl))],zSp,fun x C=>C⟩;have:=congrArg List.length j;simp at this;omega
theorem Kc(mu P av l)(R:l.length<=1000000)(p:OwnI mu av l):qD qe 163 [aI P,av] mu fun e m=>∃ x,e = .ret (.agg [aI P,x])/\OwnV m x (ofL l)/\(∀ i,i<mu.length->qp av≠some i->m[i]?=mu[i]?)/\mu.length<=m.length/\∀ b,qp x=some b->qp av=some b:=by
 refine qSW call163 func163 rfl {} ?_;have t:OwnI (mu++[.arr [aI 0,.lst true []]]) av l:=p.same fun b T=>by rw[qN (p.v.lt T)]
 have C:qp av≠some mu.length:=fun h=>zW1 (p.v.lt h)
 simp[go_sem];refine fZ (sortA _ av l R t) ?_ ?_
 .rintro r m ⟨h,I,a0,J⟩
  cases h;have a1:m.length=mu.length+1:=zUs J;simp[go_sem];refine fZ (qkZ _ av _ (by rw[J4];exact R) I) ?_ ?_
  .rintro r U ⟨x,h,g,a2,a3,j⟩
   cases h;rw[qkJ]at g;have hc:U[mu.length]?=some (.arr [aI 0,.lst true []]):=by grind
   have o:∀ c,(U.set mu.length c)[mu.length]?=some c:=fun c=>qL zOm
   have hx:qp r≠some mu.length:=fun h=>C (j _ h)
   simp[go_sem,hc,o,g.one,g.cells];refine⟨?_,fun i hi hn=>?_,zOm,j⟩
   .exact g.same fun b T=>by grind
   grind
  grind
 grind
theorem aG{mu j av l}(h:OwnV mu av l):Rd mu (.agg [aI j,av]) (eRel ⟨j,l⟩):=by
 refine .agg _ _ rfl fun k u v g i=>?_
 match k with
 | 0=>simp at g i;subst g;subst i;exact .zsc _
 | 1=>simp at g i;subst g;subst i;exact h.rd
 |k+2=>simp at g
theorem vF(a b)(J:a.ts.length<=100000)(l:b.ts.length<=100000):qi qe 113 [eRel a,eRel b] (eRel (unR a b)):=by
 refine qSU call113 func113 rfl ?_;refine fD [0,1,2,3,4,5,6,7,8,9] [(0,0,[]),(1,0,[]),(2,0,[]),(3,0,[]),(4,0,[]),(5,0,[]),(6,0,[]),(7,1,[1]),(8,1,[]),(9,1,[])] zKr zKr zSi ?_;simp[go_sem];refine fZ (qkX _ a.ts b.ts J l) ?_ ?_
 .rintro r m ⟨t,h,P,R,hl,T⟩
  cases h;have o:=R 0 zSp;simp at o;have g:qp r≠some 0:=fun h=>by grind
  simp[go_sem];refine fZ (Kc m a.ar r _ zSo P) ?_ ?_
  .rintro r U ⟨x,h,i,p,a0,C⟩
   cases h;have I:=p 0 (qk.1 o).1 g;rw[o]at I;have j:∀ c,(U.set 0 c)[0]?=some c:=fun c=>qL (qk.1 I).1
   have hx:qp x≠some 0:=fun h=>g (C _ h)
   simp[go_sem,I,j,i.one];refine aG ?_;exact i.same fun b l=>by rw[yJ (fun e=>hx (by rw[e];exact l))]
  grind
 grind
end EQ
namespace ER
open E1 EO EP EQ
theorem Ke(l C p)(hf:FnOk qe C (fun x:Int=>aI x) (·∈l) (fun x=>aB (p x)))(hl:l.length<=1000000):qi qe 158 [lI l,C] (lI (l.filter p)):=by
 refine qSU call158 func158 rfl ?_;refine tT (fun m T=>∃ k,m=l.length-k/\k<=l.length/\T.tm 1=C/\T.tm 8=lI l/\T.tm 9=aI l.length/\T.tm 10=aI (k:Nat)/\OwnI T.mu (T.tm 5) ((l.take k).filter p)) l.length ?_ ?_
 .exact ⟨0,zOm,zOm,zSi,zSi,zSi,zSi,.inl ⟨zSi,rfl⟩⟩
 rintro m T ⟨k,rfl,hk,I,J,o,g,r⟩;by_cases i:k<l.length
 .have w1:=zWk k
  have a0:((l.take k).filter p).length<=k:=zQ (List.length_filter_le _ _) zSo;simp[go_sem,I,J,o,g,i];refine FnOk.call (enc:=fun x:Int=>aI x) hf (qs i) ?_;cases hp:p l[k] with
  |true =>
   have P:(l.take (k+1)).filter p=(l.take k).filter p++[l[k]]:=by rw[yv i,List.filter_append];simp[hp]
   simp[go_sem];refine aM (e:=3) (bt:=8) (z:=0) (l:=(l.take k).filter p) zSi zSi zSi zOm r.v zOm ?_;intro t j R _ _ _;simp[go_sem,g,w1];refine Keep.loop (l.length-(k+1)) zOm ⟨k+1,rfl,zOm,zS1 I,zS1 J,zS1 o,zSi,?_⟩;rw[P];simpa[go_sem] using R
  |false =>
   have P:(l.take (k+1)).filter p=(l.take k).filter p:=by rw[yv i,List.filter_append];simp[hp]
   simp[go_sem,g,w1];refine Keep.loop (l.length-(k+1)) zOm ⟨k+1,rfl,zOm,zS1 I,zS1 J,zS1 o,zSi,?_⟩;rw[P];simpa[go_sem] using r
 .have U:k=l.length:=by omega
  subst U;rw[qO]at r;simp[go_sem,o,g];exact r.v.rd
theorem Kf(x):qi qe 157 [aI x] (aI x):=by
 refine qSU call157 func157 rfl ?_;exact .zsc _
abbrev imC(l:List (Int×Int)):AV := .im (encK (fun n:Int=>aI n) (fun n:Int=>aI n) l)
theorem Z9(l):HF (imC l):=HF.im fun p g=>by
 obtain⟨q,_,rfl⟩:=qn.1 g;exact⟨HF.sc _,HF.sc _⟩
theorem setU(r fv f)(hf:FnOk qe fv (fun x:Int=>aI x) (·∈r.ts) (fun x=>aI (f x)))(hl:r.ts.length<=1000000):qi qe 156 [eRel r,fv] (imC (cntK f r.ts)):=by
 refine qSU call156 func156 rfl ?_;obtain⟨B,hB⟩:∃ B,B=AV.mp 0:=⟨_,rfl⟩;refine qm.up r.ts.length (fun k T=>T.tm 1=fv/\T.tm 5=B/\T.tm 10=lI r.ts/\T.tm 11=aI r.ts.length/\T.tm 12=aI k/\T.mu[0]?=some (.mp (encK (fun n:Int=>aI n) (fun n:Int=>aI n) (cntK f (r.ts.take k))))) ?_ ?_
 .simp [go_sem,cntK,encK,hB]
 rintro k T hk ⟨e1,e5,p,j,l,I⟩;by_cases g:k<r.ts.length
 .have w1:=zWk k
  obtain⟨c1,c2,_⟩:=UQ f r.ts k zOm (f r.ts[k]);have hs:=mP f (r.ts.take k) r.ts[k];rw[<-yv g]at hs;have a0:=keyI.look (et:=3) (t:=249) zSi (mu:=T.mu) (m := .mp 0) (venc:=fun n:Int=>aI n) (es:=cntK f (r.ts.take k)) (by simp only[ve,I]) (k:=f r.ts[k]) trivial (fun _ _=>trivial) (z:=aI 0) zSi false;have o:yB qe T.mu 249 B (aI (f r.ts[k])) false=some (aI ((getK (f r.ts[k]) (cntK f (r.ts.take k))).getD 0)):=by
   rw[hB];refine Eq.trans a0 ?_;cases getK (f r.ts[k]) (cntK f (r.ts.take k))<;>rfl
  have i:jV qe T.mu 249 (.mp 0) (aI (f r.ts[k])) (aI ((getK (f r.ts[k]) (cntK f (r.ts.take k))).getD 0+1))=_:=keyI.update (et:=3) (t:=249) zSi (mu:=T.mu) (b:=0) (venc:=fun n:Int=>aI n) (es:=cntK f (r.ts.take k)) I (k:=f r.ts[k]) (v:=(getK (f r.ts[k]) (cntK f (r.ts.take k))).getD 0+1) trivial (fun _ _=>trivial);rw[<-hs,<-hB]at i;have P:0<T.mu.length:=(qk.1 I).1;generalize (getK (f r.ts[k]) (cntK f (r.ts.take k))).getD 0=c at *
  have w2:qq.wrap (c+1)=c+1:=zWr;simp[go_sem,e1,e5,p,j,l,g];refine FnOk.call (enc:=fun x:Int=>aI x) hf (qs g) ?_;simp[go_sem,o,w2];subst hB;refine pN _ i ?_;simp[go_sem,e1,e5,p,j,l,g,w1,P]
 .have a1:k=r.ts.length:=by omega
  subst a1;rw[qO]at I;simp[go_sem,e5,j,l];rw[hB];exact .mp 0 _ _ I rfl (fun k x y R hy=>by rw[R]at hy;cases hy;obtain⟨q,_,e⟩:=qn.1 (zb R);rw[<-e];exact .zsc _) (fun k x y R hy=>by rw[R]at hy;cases hy;obtain⟨q,_,e⟩:=qn.1 (zb R);rw[<-e];exact .zsc _)
theorem FnOk.same(ok):FnOk qe (.fn (.func 157) [] []) (fun x:Int=>aI x) ok (fun x=>aI x):=
 ⟨HF.fn zSp zSp,_,[],[],rfl,fun x _=>⟨_,.zs .nil,Kf x⟩⟩
theorem Kg(mu f ts k):yB qe mu 249 (imC (cntK f ts)) (aI k) false=some (aI ((getK k (cntK f ts)).getD 0)):=by
 have:=keyI.look (et:=3) (t:=249) zSi (mu:=mu) (m:=imC (cntK f ts)) (venc:=fun n:Int=>aI n) (es:=cntK f ts) rfl (k:=k) trivial (fun _ _=>trivial) (z:=aI 0) zSi false;simp only[yB];refine Eq.trans this ?_;cases getK k (cntK f ts)<;>rfl
theorem qk0(f ts x):qi qe 239 [aI x,.ip [imC (cntK f ts)]] (aB (decide (0<(getK x (cntK f ts)).getD 0))):=by
 refine qSV call239 func239 rfl ?_;have g:=fun C=>Kg C f ts x
 generalize imC (cntK f ts)=B at *
 simp[go_sem,g];exact .zsc _
theorem qk1(f ts x):qi qe 159 [aI x,.ip [imC (cntK f ts)]] (aB (decide ((getK x (cntK f ts)).getD 0=0))):=by
 refine qSV call159 func159 rfl ?_;have g:=fun C=>Kg C f ts x
 generalize imC (cntK f ts)=B at *
 simp[go_sem,g];exact .zsc _
theorem jl{x}(h:HF x):HF (.ip [x]):=HF.ip fun c g=>by simp at g;subst g;exact h
theorem mV(ts x):(0<(getK x (cntK (fun x=>x) ts)).getD 0↔x∈ts)/\((getK x (cntK (fun x=>x) ts)).getD 0=0↔¬x∈ts):=by
 obtain⟨l,g⟩:=mQ (fun x=>x) ts x;have i:(∃ t,t∈ts/\t=x)↔x∈ts:=⟨fun⟨t,j,e⟩=>e ▸ j,fun h=>⟨x,h,rfl⟩⟩;rw[i]at g;exact⟨g,by rw[<-g];omega⟩
theorem Rd.ip1{mu b x y}(j:mu[b]?=some (.arr [x]))(h:Rd mu x y):Rd mu (.ptr b 0) (.ip [y]):=by
 refine .ptr b 0 [x] [y] j zSp fun k u v i g=>?_
 match k with
 | 0=>simp at i g;subst i;subst g;exact h
 |k+1=>simp at g
theorem US(a b)(o:a.ts.length<=1000000)(p:b.ts.length<=1000000):qi qe 212 [eRel a,eRel b] (eRel (inR a b)):=by
 refine qSV call212 func212 rfl ?_;have r:=setU b _ _ (FnOk.same (·∈b.ts)) p;have C:=Ke a.ts (.fn (.func 239) [] [.ip [imC (cntK (fun x=>x) b.ts)]]) (fun t=>decide (t∈b.ts)) ⟨HF.fn zSp (by simp;exact jl (Z9 _)),_,[],_,rfl,fun x _=>⟨_,.zs (.zk (jl (Z9 _)) .nil),by have:=qk0 (fun x=>x) b.ts x;simp only[(mV b.ts x).1]at this;exact this⟩⟩ o;have I:WKs [eRel b,.fn (.func 157) [] []] [eRel b,.fn (.func 157) [] []] := .zk (qY b) (.zk (HF.fn zSp zSp) .nil);have g:=Z9 (cntK (fun x=>x) b.ts);have i:(imC (cntK (fun x=>x) b.ts)).cells=[imC (cntK (fun x=>x) b.ts)]:=rfl;have j:(imC (cntK (fun x=>x) b.ts)).one=true:=rfl;generalize imC (cntK (fun x=>x) b.ts)=B at *
 have l:WKs [lI a.ts,.fn (.func 239) [] [.ip [B]]] [lI a.ts,.fn (.func 239) [] [.ip [B]]] := .zk (zh _) (.zk (HF.fn zSp (by simp;exact jl g)) .nil);simp[go_sem];refine tS r I ?_;simp[go_sem,i,j];refine qj.fz (FzQ.one (d:=5) (b:=1) (x := .ip [B]) (Rd.ip1 rfl (.hf _ g)) ?_);simp[go_sem,cutM];refine fM ?_;refine fR C l ?_;exact .hf _ (qY (inR a b))
theorem mW(a b)(o:a.ts.length<=1000000)(p:b.ts.length<=1000000):qi qe 105 [eRel a,eRel b] (eRel (diR a b)):=by
 refine qSV call105 func105 rfl ?_;have r:=setU b _ _ (FnOk.same (·∈b.ts)) p;have C:=Ke a.ts (.fn (.func 159) [] [.ip [imC (cntK (fun x=>x) b.ts)]]) (fun t=>decide (¬t∈b.ts)) ⟨HF.fn zSp (by simp;exact jl (Z9 _)),_,[],_,rfl,fun x _=>⟨_,.zs (.zk (jl (Z9 _)) .nil),by have:=qk1 (fun x=>x) b.ts x;simp only[(mV b.ts x).2]at this;exact this⟩⟩ o;have I:WKs [eRel b,.fn (.func 157) [] []] [eRel b,.fn (.func 157) [] []] := .zk (qY b) (.zk (HF.fn zSp zSp) .nil);have g:=Z9 (cntK (fun x=>x) b.ts);have i:(imC (cntK (fun x=>x) b.ts)).cells=[imC (cntK (fun x=>x) b.ts)]:=rfl;have j:(imC (cntK (fun x=>x) b.ts)).one=true:=rfl;generalize imC (cntK (fun x=>x) b.ts)=B at *
 have l:WKs [lI a.ts,.fn (.func 159) [] [.ip [B]]] [lI a.ts,.fn (.func 159) [] [.ip [B]]] := .zk (zh _) (.zk (HF.fn zSp (by simp;exact jl g)) .nil);simp[go_sem];refine tS r I ?_;simp[go_sem,i,j];refine qj.fz (FzQ.one (d:=5) (b:=1) (x := .ip [B]) (Rd.ip1 rfl (.hf _ g)) ?_);simp[go_sem,cutM];refine fM ?_;refine fR C l ?_;have e:diR a b=⟨a.ar,a.ts.filter fun t=>!decide (t∈b.ts)⟩:=by simp[diR]
 have h:=qY (diR a b);rw[e]at h⊢;exact .hf _ h
theorem inU(a b)(g:a.ts.length<=1000000)(i:b.ts.length<=1000000):qi qe 59 [eRel a,eRel b] (aB (decide ((diR a b).ts=[]))):=by
 refine qSU call59 func59 rfl ?_;refine fR (mW a b g i) (.zk (qY a) (.zk (qY b) .nil)) ?_;exact .zsc _
end ER
namespace E2
open E1
section
variable {a:Int}
theorem YQ{n k}(g:0<=k)(i:k<=3):powI n k=n ^ k.toNat:=by
 grind [powI,powN]
theorem wJ{n i j}(g:0<=i)(l:0<=j)(h:i+j<=3):powI n (i+j)=powI n i*powI n j:=by
 rw[YQ zOm h,YQ g zOm,YQ l zOm,<-Int.pow_add];congr 1;omega
theorem uZ(n):powI n 1=n:=by rw[YQ zOm zOm];exact Int.pow_succ n 0 ▸ by simp
theorem qk2{n}(h:0<=n)(k):0<=powI n k:=Int.pow_nonneg h
theorem Va{u v m}(g:0<=u)(j:u<a)(l:0<=v)(o:v<m):0<=u*m+v/\u*m+v<a*m:=by
 have p:0<=u*m:=Int.mul_nonneg g zOm;have i:(u+1)*m<=a*m:=Int.mul_le_mul_of_nonneg_right zOm zOm;rw[Int.add_mul,Int.one_mul]at i;omega
theorem aR{n}(p:0<=n){a b}(i:GR n a)(g:GR n b)(h:a.ar+b.ar<=3):GR n (prR n a b):=by
 have T:=i.ar1;have U:=g.ar1;refine⟨by show 1<=a.ar+b.ar;omega,h,fun t o=>?_,?_⟩
 .obtain ⟨s,j,o⟩:=Qa.1 o
  obtain⟨u,l,rfl⟩:=qn.1 o;show 0<=s*powI n b.ar+u/\s*powI n b.ar+u<powI n (a.ar+b.ar);rw[wJ zOm zOm h];exact Va (i.val s j).1 (i.val s j).2 (g.val u l).1 (g.val u l).2
 .unfold sorted
  show (a.ts.flatMap fun s=>b.ts.map fun t=>s*powI n b.ar+t).Pairwise (·<·);rw[List.pairwise_flatMap];refine⟨fun s j=>?_,?_⟩
  .rw [List.pairwise_map]
   exact List.Pairwise.imp (fun h=>zOm) g.srt
  .refine List.Pairwise.imp_of_mem (fun {s r} j C h x I y J=>?_) i.srt
   obtain⟨u,l,rfl⟩:=qn.1 I;obtain⟨v,P,rfl⟩:=qn.1 J;have e1:=g.val u l;have e2:=g.val v P;have R:(s+1)*powI n b.ar<=r * powI n b.ar:=Int.mul_le_mul_of_nonneg_right zOm (qk2 p _);rw[Int.add_mul,Int.one_mul]at R;omega
theorem GR.ofL{n g l}(i:1<=g)(j:g<=3)(h:∀ t,t∈l->0<=t/\t<powI n g):GR n ⟨g,ofL l⟩:=by
 obtain⟨s1,o⟩:=Z6 l;exact⟨i,j,fun t p=>h t ((o t).1 p),s1⟩
theorem GR.join{n}(I:0<=n){a b}(g:GR n a)(l:GR n b)(J:1<=a.ar+b.ar-2)(P:a.ar+b.ar-2<=3):GR n (joR n a b):=by
 have a1:=g.ar1;have b1:=l.ar1;have a3:=g.ar3;have b3:=l.ar3;refine GR.ofL J P fun t o=>?_
 obtain⟨s,R,o⟩:=Qa.1 o;obtain⟨u,p,rfl⟩:=qn.1 o;have p:=(jH.1 p).1;obtain⟨T,s1⟩:=g.val s R;obtain⟨u0,u1⟩:=l.val u p;have r:powI n a.ar=powI n (a.ar-1)*n:=by
  have:=wJ (n:=n) (i:=a.ar-1) (j:=1) zOm zOm zOm
  grind [uZ]
 have eb:powI n b.ar=powI n (b.ar-1)*n:=by
  have:=wJ (n:=n) (i:=b.ar-1) (j:=1) zOm zOm zOm
  grind [uZ]
 have C:0<n:=by
  rcases Int.lt_or_eq_of_le I with h|h
  .exact h
  .exfalso;rw[<-h]at r;rw[Int.mul_zero]at r;grind
 have U:0<powI n (b.ar-1):=Int.pow_pos C;have hd:s / n<powI n (a.ar-1):=Int.ediv_lt_of_lt_mul C zOm;rw[show a.ar+b.ar-2=(a.ar-1)+(b.ar-1) by omega,wJ zOm zOm zOm];exact Va (Int.ediv_nonneg T zOm) hd (Int.emod_nonneg _ zOm) (Int.emod_lt_of_pos _ U)
theorem GR.trans{n}(o:0<=n){a}(p:GR n a)(h:a.ar=2):GR n (trR n a):=by
 have g:powI n 2=n*n:=by
  have:=wJ (n:=n) (i:=1) (j:=1) zOm zOm zOm;rw[uZ]at this;exact this
 refine GR.ofL zOm zOm fun t r=>?_
 obtain⟨s,C,rfl⟩:=qn.1 r;obtain⟨I,s1⟩:=p.val s C;rw[h,g]at s1;have l:0<n:=by
  rcases Int.lt_or_eq_of_le o with h|h
  .exact h
  .exfalso;rw[<-h,Int.mul_zero]at s1;omega
 rw[g];exact Va (Int.emod_nonneg _ zOm) (Int.emod_lt_of_pos _ l) (Int.ediv_nonneg I zOm) (Int.ediv_lt_of_lt_mul l s1)
theorem aW{n}(i:0<=n):∀(f){c},GR n c->c.ar=2->GR n (clR n f c)/\(clR n f c).ar=2
 | 0,c,g,h=>⟨g,h⟩
 |f+1,c,g,h=>by
  rw[clR];split
  .exact ⟨g,h⟩
  .have j:=GR.join i g g zOm zOm
   have l:=aP g j (by show c.ar=c.ar+c.ar-2;omega);exact aW i f l h
theorem aX{n a b}(g:GR n a)(i:GR n b)(e:a.ar=b.ar):GR n (ovR n a b):=aP i (g.filter _) (by grind)
theorem aY{n}(g:0<=n):GR n (idR n):=by
 have l:powI n 2=n*n:=by
  have:=wJ (n:=n) (i:=1) (j:=1) zOm zOm zOm;rw[uZ]at this;exact this
 refine⟨by show (1:Int)<=2;omega,by show (2:Int)<=3;omega,fun t o=>?_,?_⟩
 .obtain ⟨k,p,rfl⟩:=qn.1 o
  rw[yi]at p;show _/\_<powI n 2;rw[l];exact Va zOm zOm zOm zOm
 .show ((qu n.toNat).map fun x:Nat=>(x:Int)*n+x).Pairwise (·<·)
  rw[List.pairwise_map];refine List.Pairwise.imp (fun {x y} h=>?_) List.pairwise_lt_range;have:=Int.mul_le_mul_of_nonneg_right (a:=(x:Int)) (b:=y) (c:=n) zOm g;omega
theorem GR.nil{n g}(i:1<=g)(j:g<=3):GR n ⟨g,[]⟩:=⟨i,j,fun t l=>absurd l qG,qkB⟩
theorem GR.one{n}(g:0<=a)(i:a<n):GR n ⟨1,[a]⟩:=
 ⟨by grind,by grind,fun t j=>by grind [qV,powI,uZ],List.pairwise_singleton _ _⟩
theorem GR.run{n}(m:Nat)(j:0<=a)(l:a+m<=n):GR n ⟨1,(qu m).map fun k:Nat=>a+k⟩:=by
 refine⟨by grind,by grind,fun t g=>?_,?_⟩
 .obtain ⟨k,i,rfl⟩:=qn.1 g
  rw[yi]at i;show _/\_<powI n 1;rw[uZ];omega
 .show ((qu m).map fun k:Nat=>a+k).Pairwise (·<·)
  rw[List.pairwise_map];exact List.Pairwise.imp (fun {x y} h=>zOm) List.pairwise_lt_range
theorem GR.sN{n}(g:0<=n)(m:Nat)(r:0<=a)(C:a+m+1<=n):GR n ⟨2,(qu m).map fun k:Nat=>(a+k)*n+(a+k+1)⟩:=by
 have l:powI n 2=n*n:=by
  have:=wJ (n:=n) (i:=1) (j:=1) zOm zOm zOm;rw[uZ]at this;exact this
 refine⟨by grind,by grind,fun t o=>?_,?_⟩
 .obtain ⟨k,p,rfl⟩:=qn.1 o
  rw[yi]at p;show _/\_<powI n 2;rw[l];exact Va zOm zOm zOm zOm
 .show ((qu m).map fun k:Nat=>(a+k)*n+(a+k+1)).Pairwise (·<·)
  rw[List.pairwise_map];refine List.Pairwise.imp (fun {x y} h=>?_) List.pairwise_lt_range;have:=Int.mul_le_mul_of_nonneg_right (a:=a+(x:Int)) (b:=a+y) (c:=n) zOm g;omega
end
end E2
namespace ET
open E1 E2 E3 EL EO EP EQ ER
section
variable {mu:Mu}
theorem Kh(n)(g:0<=n)(i:n<=20)(k)(j:0<=k)(l:k<=3):qi qe 104 [aI n,aI k] (aI (powI n k)):=by
 grind [mL,YQ]
def RelM(mu:Mu)(g:Int)(l:List Int):Prop:=∃ t,mu[0]?=some (.arr [aI 0,.lst true []])/\mu[1]?=some (.arr [aI g,t])/\OwnI mu t l/\qp t≠some 0/\qp t≠some 1
theorem RelM.step{mu' j av g l}(I:mu[0]?=some (.arr [aI 0,.lst true []]))(o:mu[1]?=some (.arr [aI j,av]))(J:qp av≠some 0)(P:qp av≠some 1)(p:OwnI mu' g l)
  (R:∀ i,i<mu.length->qp av≠some i->mu'[i]?=mu[i]?) (T:mu.length<=mu'.length) (U:∀ b,qp g=some b->b=mu.length):mu'[1]?=some (.arr [aI j,av])/\RelM (mu'.set 1 (.arr [aI j,g])) j l:=by
 have l1:1<mu.length:=(qk.1 o).1;have r:qp g≠some 0:=fun e=>by grind
 have t:qp g≠some 1:=fun e=>by grind
 refine⟨by grind,g,by grind,by grind,p.same fun b C=>?_,r,t⟩
 grind
theorem qk3(m x y s):prL m (x++[s]) y=prL m x y++y.map fun t=>s*m+t:=by simp[prL]
theorem Ki{a m x y:Int}(i:0<=a)(j:a<=x)(g:0<=m)(l:m<=y)(o:0<=x):0<=a*m/\a*m<=x*y:=⟨Int.mul_nonneg i g,jJ j l g o⟩
theorem YR{r e x}(h:Rd mu x (eRel r)):Rd mu (.tup [x,aI e]) (.tup [eRel r,aI e]):=by
 refine .tup _ _ rfl fun k u v g i=>?_
 match k with
 | 0=>grind
 | 1=>simp at g i;subst g;subst i;exact .zsc _
 |k+2=>simp at g
theorem YT{g}:Rd mu (.agg [aI g,.lst true []]) (eRel ⟨g,[]⟩):=aG (.inl ⟨rfl,rfl⟩)
theorem qk4(m x y):(prL m x y).length=x.length*y.length:=by
 induction x with
 |nil=>simp[prL]
 |cons s x g=>simp only[prL,w7,zd,zT,zG]at g⊢;rw[g,Nat.add_mul];omega
theorem XW(n)(U:0<=n)(a8:n<=12)(a b)(ha:GR n a)(R:GR n b):qi qe 216 [aI n,eRel a,eRel b] (match Zw n a b with | .ok r => .tup [eRel r,aI 0] | .error e => .tup [eRel ⟨0,[]⟩,aI e]):=by
 refine qSV call216 func216 rfl ?_;have a1:=ha.ar1;have a3:=ha.ar3;have b1:=R.ar1;have b3:=R.ar3;have la:=ha.len U zOm;have lb:=R.len U zOm;have w0:qq.wrap (a.ar+b.ar)=a.ar+b.ar:=zWr;unfold Zw;by_cases hc:a.ar+b.ar<=3
 .have hn:¬(3:Int)<a.ar+b.ar:=by omega
  obtain⟨p0,p1⟩:=Qv (k:=b.ar) U (by omega:n<=20);rw[if_pos hc];simp[go_sem,w0,hn];refine fR (Kh n U zOm b.ar zOm b3) (.zs (.zs .nil)) ?_;generalize hM:powI n b.ar=M at *
  have g:∀ i j,i<a.ts.length->j<=b.ts.length->(prL M (a.ts.take i) b.ts++(b.ts.take j).map fun t=>a.ts.getD i 0*M+t).length<=64000000:=fun i j hi hj=>by
   rw[zd,qk4,zT,v8,v8];have:(min i a.ts.length)*b.ts.length<=7999*8000:=Nat.mul_le_mul zOm lb;omega
  refine aK a.ts.length (fun i T=>T.tm 5 = .ip (cRel b)/\T.tm 6 = .ptr 0 0/\T.tm 8 = .ptr 1 0/\T.tm 9=aI M/\T.tm 32=lI a.ts/\T.tm 33=aI a.ts.length/\T.tm 34=aI i/\RelM T.mu (a.ar+b.ar) (prL M (a.ts.take i) b.ts)) ?_ ?_
  .refine ⟨zSi,zSi,zSi,zSi,zSi,zSi,zSi,.lst true [],zSi,zSi,.inl ⟨rfl,by simp[prL]⟩,by simp[qp],by simp[qp]⟩
  rintro i T hi ⟨e5,e6,e8,e9,a0,p,C,hr⟩;by_cases o:i<a.ts.length
  .have w1:=zWk i
   obtain⟨v0,v1⟩:=ha.val _ (qs o);obtain⟨q0,q1⟩:=Qv (k:=a.ar) U (by omega:n<=20);obtain⟨m0,m1⟩:=Ki (x:=8000) (y:=8000) v0 zOm p0 p1 zOm;have a4:a.ts.getD i 0=a.ts[i]:=by rw[zS,qA o];rfl
   have g:=g i;rw[a4]at g;simp[go_sem,e5,a0,p,C,o];refine aK b.ts.length (fun j T=>T.tm 5 = .ip (cRel b)/\T.tm 6 = .ptr 0 0/\T.tm 8 = .ptr 1 0/\T.tm 9=aI M/\T.tm 11=aI a.ts[i]/\T.tm 32=lI a.ts/\T.tm 33=aI a.ts.length/\T.tm 34=aI i/\T.tm 39=lI b.ts/\T.tm 40=aI b.ts.length/\T.tm 41=aI j/\RelM T.mu (a.ar+b.ar) (prL M (a.ts.take i) b.ts++(b.ts.take j).map fun t=>a.ts[i] * M+t)) ?_ ?_
   .refine ⟨zS1 e5,zS1 e6,zS1 e8,zS1 e9,zSi,zS1 a0,zS1 p,zS1 C,zSi,zSi,zSi,zVs hr⟩
   rintro j T hj ⟨f5,f6,f8,f9,f11,f32,f33,f34,f39,f40,f41,av,g0,g1,I,n0,n1⟩;by_cases l:j<b.ts.length
   .have w2:=zWk j
    obtain⟨u0,u1⟩:=R.val _ (qs l);rw[hM]at u1;have w3:qq.wrap (a.ts[i] * M)=a.ts[i] * M:=zWr;have w4:qq.wrap (a.ts[i] * M+b.ts[j])=a.ts[i] * M+b.ts[j]:=zWr;simp[go_sem,f8,f9,f11,f39,f40,f41,l,g1,w3,w4];refine aM (e:=3) (bt:=8) (z:=0) zSi zSi zSi zOm I.v (by have:=g j o (by omega);omega) ?_;intro a9 aa J a5 a6 a7;obtain⟨k1,k2⟩:=RelM.step g0 g1 n0 n1 J a5 a6 a7;simp[go_sem,f8,f41,k1,J.v.one,J.v.cells,w2];refine⟨l,aA ⟨zS1 f5,zS1 f6,zS1 f8,zS1 f9,zS1 f11,by simp[go_sem,f32],by simp[go_sem,f33],by simp[go_sem,f34],zS1 f39,by simp[go_sem,f40],zSi,?_⟩⟩;rw[yv l,ze,<-zB];exact k2
   .have P:j=b.ts.length:=by omega
    subst P;simp[go_sem,f34,f40,f41,w1];refine⟨o,aA ⟨zS1 f5,zS1 f6,zS1 f8,zS1 f9,by simp[go_sem,f32],by simp[go_sem,f33],zSi,?_⟩⟩;rw[yv o,qk3];rw[qO]at I;exact⟨av,g0,g1,I,n0,n1⟩
  .have P:i=a.ts.length:=by omega
   subst P;obtain⟨av,g0,g1,I,n0,n1⟩:=hr;rw[qO]at I;have a2:∀ c,(T.mu.set 0 c)[0]?=some c:=fun c=>qL (qk.1 g0).1
   simp[go_sem,e6,e8,p,C,g0,g1,a2,I.v.one];refine YR (r:=prR n a b) ?_;unfold prR;rw[hM];refine aG (I.v.same fun b R=>?_);rw[yJ (fun e=>n0 (by rw[e];exact R))]
 simp_all[go_sem,if_neg,YR,YT]
theorem qk5(n)(J:0<=n)(o:n<=12)(a)(ha:GR n a)(h2:a.ar=2):qi qe 217 [aI n,eRel a] (eRel (trR n a)):=by
 refine qSV call217 func217 rfl ?_;have hl:=ha.len J zOm;have e2:powI n 2=n*n:=by
  have:=wJ (n:=n) (i:=1) (j:=1) zOm zOm zOm;rw[uZ]at this;exact this
 have a8:n*n<=12*12:=jJ o o J zOm;simp[go_sem,show (a.ts.length:Int)<=4294967296 by omega];refine aK a.ts.length (fun k T=>T.tm 0=aI n/\T.tm 4 = .ptr 0 0/\T.tm 5 = .sl 1 1 0 a.ts.length/\T.tm 13=lI a.ts/\T.tm 14=aI a.ts.length/\T.tm 15=aI k/\T.mu=[.arr [aI 0,.lst true []],.arr ((((a.ts.take k).map fun t=>t % n*n+t / n)++q9 (a.ts.length-k) 0).map aI)]) ?_ ?_
 .simp [go_sem]
 rintro k T hk ⟨e0,e4,U,P,p,I,hm⟩;by_cases l:k<a.ts.length
 .have w1:=zWk k
  obtain⟨v0,v1⟩:=ha.val _ (qs l);rw[h2,e2]at v1;have hn:0<n:=by
   rcases Int.lt_or_eq_of_le J with h|h
   .exact h
   .exfalso;rw[<-h,Int.mul_zero]at v1;omega
  have a9:0<=a.ts[k] / n:=Int.ediv_nonneg v0 J;have aa:a.ts[k] / n<n:=Int.ediv_lt_of_lt_mul hn v1;have a0:0<=a.ts[k] % n:=Int.emod_nonneg _ zOm;have ab:a.ts[k] % n<n:=Int.emod_lt_of_pos _ hn;obtain⟨m0,m1⟩:=Ki (x:=12) (y:=12) a0 zOm J o zOm;have d1:a.ts[k].tdiv n=a.ts[k] / n:=Int.tdiv_eq_ediv_of_nonneg v0;have d2:a.ts[k].tmod n=a.ts[k] % n:=wq v0;have w2:qq.wrap (a.ts[k] / n)=a.ts[k] / n:=zWr;have w3:qq.wrap (a.ts[k] % n*n)=a.ts[k] % n*n:=zWr;have w4:qq.wrap (a.ts[k] % n*n+a.ts[k] / n)=a.ts[k] % n*n+a.ts[k] / n:=zWr;have a1:¬n=0:=zOm;have a6:q9 (a.ts.length-k) (0:Int)=0 :: q9 (a.ts.length-(k+1)) 0:=by
   rw[<-List.replicate_succ];congr 1;omega
  have g:∀ v:Int,((((a.ts.take k).map fun t=>t % n*n+t / n)++q9 (a.ts.length-k) 0).map aI).set k (aI v)=(((a.ts.take k).map fun t=>t % n*n+t / n)++v :: q9 (a.ts.length-(k+1)) 0).map aI:=fun v=>by
   simp_all
  have R:((((a.ts.take k).map fun t=>t % n*n+t / n)++q9 (a.ts.length-k) 0).map aI).length=a.ts.length:=zSo;generalize hC:(((a.ts.take k).map fun t=>t % n*n+t / n)++q9 (a.ts.length-k) 0).map aI=C at *
  simp[go_sem,P,p,I,hm,l];refine cJ zKr ?_;simp[go_sem,e0,U,I,l,a1,d1,d2,w2,w3,w4,g,R,show k+1<=a.ts.length by omega,w1];refine aA ⟨zS1 e0,zS1 e4,zS1 U,zS1 P,zS1 p,zSi,?_⟩;simp only[qC];have e:(((a.ts.take (k+1)).map fun t=>t % n*n+t / n)++q9 (a.ts.length-(k+1)) 0).map aI=(((a.ts.take k).map fun t=>t % n*n+t / n)++(a.ts[k] % n*n+a.ts[k] / n) :: q9 (a.ts.length-(k+1)) 0).map aI:=by
   rw[yv l,ze (l₂:=[a.ts[k]]),zB];rfl
  rw[e];simp
 .have a2:k=a.ts.length:=by omega
  subst a2;rw[qO,Nat.sub_self,List.replicate_zero,zO]at hm;generalize hL:a.ts.map (fun t=>t % n*n+t / n)=L at *
  have a3:L.length=a.ts.length:=by rw[<-hL];simp
  simp only[p,I,hm,go_sem];have hs:=Kc [.arr [aI 0,.lst true []],.arr (L.map aI)] 2 (.sl 1 1 0 a.ts.length) L zOm (.inr ⟨1,by rw[a3],rfl⟩);simp[go_sem,U];refine fZ hs ?_ ?_
  .rintro r m ⟨x,h,ho,a4,ad,a5⟩
   cases h;have g0:=a4 0 zSp (by simp[qp]);have g:∀ c,(m.set 0 c)[0]?=some c:=fun c=>qL (qk.1 g0).1
   simp at g0;have hx:qp x≠some 0:=fun h=>by have:=a5 _ h;simp[qp]at this
   simp[go_sem,e4,g0,g,ho.one];unfold trR;rw[hL];refine aG (ho.same fun b hb=>?_);rw[yJ (fun e=>hx (by rw[e];exact hb))]
  .rintro r m ⟨x,h,_⟩
   cases h
end
end ET
namespace EW
open EO EP EQ ER ET
inductive TagM (p:Mu->Prop):Type where
 |mk:TagM p
def vp(p:Mu->Prop)(_:TagM p)(mu:Mu):Prop:=p mu
theorem tA{p mu}(h:p mu):vp p .mk mu:=h
theorem tC{P pl l caps ps g body Q st rows}(j:ji P l caps rows)(I:Nat->Mu->Prop)(i:qX->Mu->Prop)
  (o:I 0 (st.mu++[.dead])) (p:∀ k mu,I k mu->I k (mu++[.dead])) (r:∀ e mu,i e mu->i e (mu++[.dead]))
  (t:∀ k x mu,rows[k]?=some x->I k mu->x.length=ps.size/\awp P pl g (asQ (fun st=>awp P pl body (rndQ (fun k=>vp (I k) .mk) (fun e=>vp (i e) .mk) k) st)) ⟨uS st.tm ps.toList x,mu⟩)
  (C:∀ mu,I rows.length mu->Q .normal ⟨st.tm,mu⟩) (J:∀ e mu,i e mu->Q e ⟨st.tm,mu⟩):vD P pl (.fn (.func l) [] caps) ps g body Q st:=
 cQ j I i o p r t C J
abbrev tupCl(sc:Sc)(p:Int)(l:List Int):AV := .fn (.func 160) [] [.ip [lI l],.ip [aI p],.ip [lI sc.sC,aI sc.sN]]
theorem mX(sc p l):qi qe 106 [eSc sc,aI p,lI l] (tupCl sc p l):=by
 refine qSU call106 func106 rfl ?_;refine .hf _ (HF.fn (fun c g=>by simp at g) (fun c g=>?_));simp at g;rcases g with rfl|rfl|rfl
 .exact jl (zh _)
 .exact jl (HF.sc _)
 .exact HF.ip fun c g=>by simp at g;rcases g with rfl|rfl<;>first|exact zh _|exact HF.sc _
def tupR(sc:Sc):List Int->Int->List Int
 | [],p=>[p]
 |s :: l,p=>(qu (gI sc.sC s.toNat).toNat).flatMap fun k:Nat=>tupR sc l (p*sumI sc.sC+(sumI (sc.sC.take s.toNat)+k))
@[go_sem] theorem yl_cells(i):(AV.yl i).cells=[.yl i]:=rfl
@[go_sem] theorem yl_one(i):(AV.yl i).one=true:=rfl
theorem qk6(sc:Sc)(p):ji qe 160 [.ip [lI []],.ip [aI p],.ip [lI sc.sC,aI sc.sN]] [[aI p]]:=by
 refine ji.of call160 fun i I l o r g C j=>?_
 refine qSW call160 func160 rfl {} ?_;simp[go_sem];refine qh.yield (g 0 [aI p] C rfl j) ?_;simp_all[go_sem]
theorem qk7{i r}(h:i<r):∃ l,qu r=qu i++i :: l:=by
 refine⟨(qu r).drop (i+1),?_⟩;apply List.ext_getElem?;intro j;by_cases g:j<i
 .rw [qN (zUs g),Qc g,Qc zOm]
 .rw [zM zSo,List.length_range]
  by_cases e:j=i
  .subst e;simp[h]
  .obtain ⟨d,o⟩:∃ d,j-i=d+1:=⟨j-i-1,zOm⟩
   rw[o,List.getElem?_cons_succ,uu];congr 1;omega
theorem qk8{I:Type}(f){N k j}{x:I}(g:k<N)(h:(f k)[j]?=some x):((qu N).flatMap f)[((qu k).flatMap f).length+j]?=some x:=by
 obtain⟨l,e⟩:=qk7 g;rw[e,List.flatMap_append,zM zOm,Nat.add_sub_cancel_left,w7,qN (qk.1 h).1];exact h
theorem Vb{I:Type}(f:Nat->List I)(k):(qu (k+1)).flatMap f=(qu k).flatMap f++f k:=by
 rw[List.range_succ,List.flatMap_append];simp
theorem qk9(sc)(g:GSc sc)(hA:∀ a,a∈sc.sC->0<=a)(s)(J:s<sc.sC.length)(l)(hl:l.length<=10)(p)(hp:0<=p/\p<=1000000)
  (ih:∀ k,k<(gI sc.sC s).toNat->ji qe 160 [.ip [lI l],.ip [aI (p*sumI sc.sC+(sumI (sc.sC.take s)+k))],.ip [lI sc.sC,aI sc.sN]] ((tupR sc l (p*sumI sc.sC+(sumI (sc.sC.take s)+k))).map fun t=>[aI t])) :
  ji qe 160 [.ip [lI (s :: l)],.ip [aI p],.ip [lI sc.sC,aI sc.sN]] ((tupR sc (s :: l) p).map fun t=>[aI t]):=by
 refine ji.of call160 fun i I Ix hS hX hY C h0=>?_
 refine qSW call160 func160 rfl {} ?_;have hz:¬(l.length:Int)+1=0:=zOm;have a0:=qkN sc g s zOm;have a1:WKs [eSc sc,aI s] [eSc sc,aI s] := .zk (zA sc) (.zs .nil);obtain⟨s0,s1⟩:=g.sum s;obtain⟨t0,t1⟩:=g.sum sc.sC.length;rw[qO]at t0 t1;have a2:gI sc.sC s=sc.sC[s]:=uU J;have af:=hA _ (qs J);obtain⟨u0,u1⟩:=g.sum (s+1);rw[uV _ _ J]at u1;have a3:=YP sc g;have a4:WKs [eSc sc] [eSc sc] := .zk (zA sc) .nil;have o:tupR sc (s :: l) p=(qu (sc.sC[s]).toNat).flatMap fun k:Nat=>tupR sc l (p*sumI sc.sC+(sumI (sc.sC.take s)+k)):=by
  simp_all[tupR]
 rw[a2]at ih;obtain⟨m0,m1⟩:0<=p*sumI sc.sC/\p*sumI sc.sC<=1000000*20:=⟨Int.mul_nonneg hp.1 t0,jJ hp.2 t1 t0 zOm⟩;have w2:qq.wrap (p*sumI sc.sC)=p*sumI sc.sC:=zWr;have w3:qq.wrap (sumI (sc.sC.take s)+sc.sC[s])=sumI (sc.sC.take s)+sc.sC[s]:=zWr;generalize hF:(fun k:Nat=>tupR sc l (p*sumI sc.sC+(sumI (sc.sC.take s)+k)))=F at *
 have a5:∀ k:Nat,tupR sc l (p*sumI sc.sC+(sumI (sc.sC.take s)+k))=F k:=fun k=>by rw[<-hF]
 simp only[a5]at ih;simp[go_sem,hz];refine fM ?_;refine tS a0 a1 ?_;generalize hn:sumI sc.sC=n at *
 generalize hf:sumI (sc.sC.take s)=f at *
 simp[go_sem];refine tT (fun m T=>∃ k,m=(sc.sC[s]).toNat-k/\k<=(sc.sC[s]).toNat/\T.tm 1 = .ip [lI (s :: l)]/\T.tm 2 = .ip [aI p]/\T.tm 3 = .ip [lI sc.sC,aI sc.sN]/\T.tm 4 = .ip [.yl i]/\T.tm 5=aI f/\T.tm 6=aI (f+(k:Nat))/\I ((qu k).flatMap F).length T.mu) (sc.sC[s]).toNat ?_ ?_
 .exact ⟨0,zOm,zOm,zSi,zSi,zSi,zSi,zSi,zSi,zVs h0⟩
 rintro m T ⟨k,rfl,hk,U,e2,e3,e4,e5,e6,hI⟩;simp[go_sem];refine cJ zKr ?_;by_cases P:k<(sc.sC[s]).toNat
 .have hb:f+(k:Int)<f+sc.sC[s]:=by omega
  have w4:qq.wrap (p*n+(f+k))=p*n+(f+k):=zWr;have w5:qq.wrap (f+(k:Int)+1)=f+((k+1:Nat):Int):=by rw[zWr];omega
  have R:WKs [eSc sc,aI (p*n+(f+k)),.lst false (l.map rI)] [eSc sc,aI (p*n+(f+k)),lI l] := .zk (zA sc) (.zs (.zk (zh l) .nil));have a6:=mX sc (p*n+(f+k)) l;simp[go_sem,U,e3,e5,e6,J,w3,hb];refine cJ zKr ?_;simp[go_sem,e2,e3];refine tS a3 a4 ?_;have a7:(1:Int)<=l.length+1:=zOm;have a8:List.take l.length (l.map rI)=l.map rI:=z6 zSp;simp[go_sem,U,e6,w2,w4,a7,a8];refine⟨⟨_,_,⟨rfl,rfl⟩,(yC (s :: l)).ok⟩,?_⟩;refine fR a6 R ?_;refine tC (ih k P) (fun j M=>I (((qu k).flatMap F).length+j) M) (fun e M=>e = .ret/\Ix M) ?_ ?_ ?_ ?_ ?_ ?_
  .simpa [go_sem] using hS _ _ hI
  .intro j M h;exact hS _ _ h
  .rintro e M ⟨h1,h2⟩;exact⟨h1,hX _ h2⟩
  .rintro j x M hj a9
   rw[zn,jR]at hj;obtain⟨t,ht,rfl⟩:=hj;have r:(((qu (sc.sC[s]).toNat).flatMap F).map fun t=>[aI t])[((qu k).flatMap F).length+j]?=some [aI t]:=by
    rw[zn,qk8 F P ht];rfl
   rw[<-o]at r;refine⟨rfl,?_⟩;simp[go_sem,e4];refine qh.yield (hY _ _ _ r a9) ?_;rintro b ag (⟨rfl,aa⟩|⟨rfl,ab⟩)
   .simp [go_sem]
    exact tA aa
   .simp [go_sem]
    exact tA ⟨rfl,ab⟩
  .rintro M ad
   simp[go_sem,e6,w5];refine Keep.loop ((sc.sC[s]).toNat-(k+1)) zOm ⟨k+1,rfl,zOm,zS1 U,zS1 e2,zS1 e3,zS1 e4,zS1 e5,zSi,?_⟩;rw[Vb,zd];simpa[go_sem] using ad
  .rintro e M ⟨rfl,h2⟩
   simp[go_sem];exact .inr h2
 .have ae:k=(sc.sC[s]).toNat:=by omega
  have hb:¬f+(k:Int)<f+sc.sC[s]:=zOm;simp[go_sem,U,e3,e5,e6,J,w3,hb];rw[o,<-ae];exact .inl hI
def bdT:Nat->Int
 | 0=>1000000000
 | 1=>1000000
 | 2=>40000
 |_=>1000
theorem mY(d)(i:d<3){p q n}(j:0<=p)(l:p<=bdT (d+1))(g:0<=n)(o:n<=20)(r:0<=q)(t:q<=20):0<=p*n+q/\p*n+q<=bdT d/\p<=1000000:=by
 have a:0<=p*n:=Int.mul_nonneg j g;have b:p*n<=bdT (d+1)*20:=jJ l o g zOm
 match d,i with
 | 0,_=>grind [bdT]
 | 1,_=>grind [bdT]
 | 2,_=>grind [bdT]
def OkS(sc:Sc)(l:List Int):Prop:=∀ s,s∈l->0<=s/\s<sc.sC.length
theorem mZ(sc)(g:GSc sc)(C:∀ a,a∈sc.sC->0<=a):∀ l,OkS sc l->l.length<=3->∀ p,0<=p->p<=bdT l.length->ji qe 160 [.ip [lI l],.ip [aI p],.ip [lI sc.sC,aI sc.sN]] ((tupR sc l p).map fun t=>[aI t])
 | [],_,_,p,_,_=>qk6 sc p
 |s :: l,i,I,p,j,o=>by
  obtain⟨n,rfl⟩:∃ n:Nat,s=n:=⟨s.toNat,zW1 ((i s zSp).1)⟩;have r:n<sc.sC.length:=zW1 ((i n zSp).2);simp only[zG]at I o;obtain⟨t0,t1⟩:=g.sum sc.sC.length;rw[qO]at t0 t1;refine qk9 sc g C n r l zOm p ⟨j,(mY l.length zOm j o t0 t1 (q:=0) zOm zOm).2.2⟩ fun k J=>?_
  obtain⟨u0,P⟩:=g.sum (n+1);rw[uV _ _ r]at P;rw[uU r]at J;obtain⟨s0,s1⟩:=g.sum n;obtain⟨R,T,_⟩:=mY l.length zOm j o t0 t1 (q:=sumI (sc.sC.take n)+k) zOm zOm;exact mZ sc g C l (fun x U=>i x (zP1 U)) zOm _ R T
theorem Kj(sc)(g:GSc sc)(o:∀ a,a∈sc.sC->0<=a):∀ l,OkS sc l->∀ p,(tupR sc l p).length<=20 ^ l.length
 | [],_,p=>by simp[tupR]
 |s :: l,i,p=>by
  obtain⟨n,rfl⟩:∃ n:Nat,s=n:=⟨s.toNat,zW1 ((i s zSp).1)⟩;have j:n<sc.sC.length:=zW1 ((i n zSp).2);obtain⟨J,r⟩:=g.sum (n+1);obtain⟨P,s1⟩:=g.sum n;rw[uV _ _ j]at r;have t:=Kj sc g o l (fun x C=>i x (zP1 C));rw[tupR,show (n:Int).toNat=n by omega,uU j];have key:∀ m:Nat,((qu m).flatMap fun k:Nat=>tupR sc l (p*sumI sc.sC+(sumI (sc.sC.take n)+k))).length<=m*20 ^ l.length:=by
   intro m;induction m with
   |zero=>simp
   |succ m I =>
    rw[Vb,zd,Nat.succ_mul];have:=t (p*sumI sc.sC+(sumI (sc.sC.take n)+m));omega
  refine zQ (key _) ?_;rw[zG,Nat.pow_succ,Nat.mul_comm];exact Nat.mul_le_mul_left _ zOm
theorem UT(n a b):qi qe 100 [aI n,aI a,aI b] (aB (decide (a<=n)&&decide (n<=b))):=by
 refine qSV call100 func100 rfl ?_;by_cases g:a<=n
 .simp [go_sem,g]
  exact .zsc _
 .simp [go_sem,g]
  exact .zsc _
theorem wk3I(a b c):WKs [aI a,aI b,aI c] [aI a,aI b,aI c] := .zs (.zs (.zs .nil))
theorem Kk(sc)(g:GSc sc)(hA:∀ a,a∈sc.sC->0<=a)(l)(U:OkS sc l)(h1:1<=l.length)(h3:l.length<=3):qi qe 60 [eSc sc,lI l] (eRel ⟨l.length,tupR sc l 0⟩):=by
 refine qSV call60 func60 rfl ?_;have b1:(1:Int)<=l.length:=zOm;have b3:(l.length:Int)<=3:=zOm;have hg:=g.1;have w1:=UT l.length 1 3;rw[decide_eq_true b1,decide_eq_true b3]at w1;simp[go_sem];refine fR w1 (wk3I _ _ _) ?_;refine aK l.length (fun k T=>T.tm 1=lI l/\T.tm 2 = .ip [lI sc.sC,aI sc.sN]/\T.tm 4 = .ptr 0 0/\T.tm 14=lI l/\T.tm 15=aI l.length/\T.tm 16=aI k/\T.mu=[.arr [aI 0,.lst true []]]) ?_ ?_
 .simp [go_sem]
 rintro k T hk ⟨e1,e2,e4,a0,p,r,hm⟩;by_cases C:k<l.length
 .have wk:=zWk k
  have wl:qq.wrap ((sc.sC.length:Int)-1)=(sc.sC.length:Int)-1:=zWr;obtain⟨q0,q1⟩:=U _ (qs C);have w2:=UT l[k] 0 ((sc.sC.length:Int)-1);rw[decide_eq_true q0,decide_eq_true (by omega:l[k]<=(sc.sC.length:Int)-1)]at w2;simp[go_sem,e2,a0,p,r,hm,C,wl];refine tS w2 (wk3I _ _ _) ?_;simp_all[go_sem,aA]
 .have a1:k=l.length:=by omega
  subst a1;have a6:=Kj sc g hA l U 0;have hp:20 ^ l.length<=8000:=by
   have:l.length=1\/l.length=2\/l.length=3:=zOm
   grind
  have a2:(0:Int)<=bdT l.length:=by
   have:l.length=1\/l.length=2\/l.length=3:=zOm
   grind [bdT]
  simp[go_sem,e1,e2,p,r,hm];refine fR (mX sc 0 l) (.zk (zA sc) (.zs (.zk (zh l) .nil))) ?_;refine tC (mZ sc g hA l U h3 0 zOm a2) (fun j M=>RelM M l.length ((tupR sc l 0).take j)) (fun _ _=>False) ?_ ?_ ?_ ?_ ?_ ?_
  .exact ⟨.lst true [],zSi,zSi,.inl ⟨rfl,rfl⟩,by simp[qp],by simp[qp]⟩
  .rintro j M ⟨av,I,g1,i,J,R⟩
   exact⟨av,by grind,by grind,i.same fun b hb=>by rw[qN (i.v.lt hb)],J,R⟩
  .grind
  .rintro j x M hj ⟨av,I,g1,i,J,R⟩
   rw[zn,jR]at hj;obtain⟨t,ht,rfl⟩:=hj;obtain⟨a7,a8⟩:=qk.1 ht;refine⟨rfl,?_⟩;simp[go_sem,g1];refine aM (e:=3) (bt:=8) (z:=0) zSi zSi zSi zOm i.v zSo ?_;intro a9 aa o a3 a4 a5;obtain⟨k1,k2⟩:=RelM.step I g1 J R o a3 a4 a5;simp[go_sem,k1,o.v.one,o.v.cells]
   grind [tA,yv]
  .rintro M ⟨av,I,g1,i,J,R⟩
   rw[zT,qO]at i;have P:∀ c,(M.set 0 c)[0]?=some c:=fun c=>qL (qk.1 I).1
   simp[go_sem,e4,I,g1,P,i.v.one];refine aG (i.v.same fun b hb=>?_);rw[yJ (fun e=>J (by rw[e];exact hb))]
  grind
end EW
namespace EU
open E1 EO EP EQ ER ET
abbrev imG(g:List (Int×List Int)):AV := .im (encK (fun n:Int=>aI n) lI g)
abbrev matC(n m:Int)(a b:Rl):List AV:=[.ip (cRel a),.ip [imG (grpK m b.ts)],.ip [aI n],.ip [aI m]]
theorem qlA(n m)(hm:0<m)(ad:m<=8000)(a b)(hb:∀ t,t∈b.ts->0<=t/\t<=1000000)(hl:b.ts.length<=1000000):qi qe 242 [aI n,aI m,eRel a,eRel b] (.fn (.func 264) [] (matC n m a b)):=by
 refine qSV call242 func242 rfl ?_;obtain⟨B,hB⟩:∃ B,B=AV.mp 0:=⟨_,rfl⟩;have ae:B.cells=[B]:=by rw[hB];rfl
 have af:B.one=true:=by rw[hB];rfl
 simp[go_sem];refine aK b.ts.length (fun k T=>T.tm 4 = .ip [aI n]/\T.tm 5 = .ip [aI m]/\T.tm 6 = .ip (cRel a)/\T.tm 9 = .ptr 1 0/\T.tm 14=lI b.ts/\T.tm 15=aI b.ts.length/\T.tm 16=aI k/\T.mu[1]?=some (.arr [B])/\∃ i,GrpM T.mu 0 (grpK m (b.ts.take k)) i/\∀ q v,getK q i=some v->∀ x,qp v=some x->2<=x) ?_ ?_
 .refine ⟨zSi,zSi,zSi,zSi,zSi,zSi,zSi,by simp[go_sem,hB],[],GrpM.nil zSi,fun q v h=>by simp[getK]at h⟩
 rintro k T hk ⟨e4,e5,e6,e9,a0,r,I,g1,i,hG,h2⟩;by_cases o:k<b.ts.length
 .have w1:=zWk k
  obtain⟨v0,v1⟩:=hb _ (qs o);have d1:b.ts[k].tdiv m=b.ts[k] / m:=Int.tdiv_eq_ediv_of_nonneg v0;have d2:b.ts[k].tmod m=b.ts[k] % m:=wq v0;have q0:0<=b.ts[k] / m:=Int.ediv_nonneg v0 zOm;have q1:b.ts[k] / m<=b.ts[k]:=Int.ediv_le_self _ v0;have w2:qq.wrap (b.ts[k] / m)=b.ts[k] / m:=zWr;have a7:¬m=0:=zOm;have hs:=mR m (b.ts.take k) b.ts[k];rw[<-yv o]at hs;have a1:=hG.cur (b.ts[k] / m);have a8:=keyI.look (et:=28) (t:=337) zSi (mu:=T.mu) (m := .mp 0) (venc:=id) (es:=i) (by simp only[ve,hG.at0]) (k:=b.ts[k] / m) trivial (fun _ _=>trivial) (z := .lst true []) zSi false;have J:yB qe T.mu 337 B (aI (b.ts[k] / m)) false=some ((getK (b.ts[k] / m) i).getD (.lst true [])):=by
   rw[hB];refine Eq.trans a8 ?_;cases getK (b.ts[k] / m) i<;>rfl
  have P:=fun (j:Mu) (av:AV) (l:List Int)=>GrpM.step (mu':=j) (av:=av) (l:=l) (k:=b.ts[k] / m) hG
  have a9:∀ x,qp ((getK (b.ts[k] / m) i).getD (.lst true []))=some x->2<=x:=by
   intro x g;cases hc:getK (b.ts[k] / m) i with
   |none=>rw[hc]at g;simp[qp]at g
   |some v=>rw[hc]at g;exact h2 _ _ hc x g
  have ag:((getK (b.ts[k] / m) (grpK m (b.ts.take k))).getD []).length<=k:=by
   rw[UR m b.ts k zOm,zT];exact zQ (List.length_filter_le _ _) zSo
  simp[go_sem,a0,r,I,o];refine fD [0,1,2,3,4,5,6,7,8,9,10,11,12,13,14] [(0,0,[]),(1,0,[]),(2,0,[]),(3,0,[]),(4,0,[]),(5,0,[]),(6,0,[]),(7,0,[]),(8,0,[]),(9,0,[]),(10,0,[]),(11,0,[]),(12,0,[]),(13,1,[0,2]),(14,1,[])] zKr zKr zSi ?_;simp[go_sem,e5,e9,g1,a7,d1,d2,w2,J];refine aM (e:=3) (bt:=8) (z:=0) (l:=(getK (b.ts[k] / m) (grpK m (b.ts.take k))).getD []) zSi zSi zSi zOm a1.v zOm ?_;intro R j aa a3 ah a4;obtain⟨k1,k2⟩:=P j R _ aa a3 a4;rw[<-hs]at k2;have a5:jV qe j 337 (.mp 0) (aI (b.ts[k] / m)) R=_:=keyI.update (et:=28) (t:=337) zSi (mu:=j) (b:=0) (venc:=id) (es:=i) k1 (k:=b.ts[k] / m) (v:=R) trivial (fun _ _=>trivial);have l1:1<T.mu.length:=(qk.1 g1).1;have a6:j[1]?=some (.arr [B]):=by rw[a3 1 l1 (fun e=>zW1 (a9 1 e))];exact g1
  simp[go_sem,e5,e9,a6];subst hB;refine pN _ a5 ?_;simp[go_sem,I,o,w1];refine aA ⟨zS1 e4,zS1 e5,zS1 e6,zS1 e9,zS1 a0,zS1 r,zSi,?_,_,zVs k2,fun q v hq x g=>?_⟩
  .simp only[qC]
   rw[zGl];exact a6
  .rw [j5]at hq
   split at hq
   .cases hq;have:=a4 x g;omega
   .exact h2 q v hq x g
 .have ab:k=b.ts.length:=by omega
  subst ab;rw[qO]at hG;simp[go_sem,e4,e5,e6,e9,r,I];refine .fn _ _ _ _ _ rfl rfl (fun k x y g=>by simp at g) (fun k x y g p=>?_)
  match k with
  | 0=>simp at g p;subst g;subst p;exact .hf _ (HF.ip (ZZ a))
  | 1=>simp at g p;subst g;subst p;rw[hB]at g1;exact Rd.ip1 g1 (hG.rd (qkV m b.ts))
  | 2=>simp at g p;subst g;subst p;exact .hf _ (jl (HF.sc _))
  | 3=>simp at g p;subst g;subst p;exact .hf _ (jl (HF.sc _))
  |k+4=>simp at g
theorem lookG(mu m ys k):∃ f,yB qe mu 337 (imG (grpK m ys)) (aI k) false=some (.lst f (((getK k (grpK m ys)).getD []).map rI)):=by
 have:=keyI.look (et:=28) (t:=337) zSi (mu:=mu) (m:=imG (grpK m ys)) (venc:=lI) (es:=grpK m ys) rfl (k:=k) trivial (fun _ _=>trivial) (z := .lst true []) zSi false;simp only[yB];cases h:getK k (grpK m ys) with
 |none=>rw[h]at this;exact⟨true,this⟩
 |some l=>rw[h]at this;exact⟨false,this⟩
theorem qlB{I g:Type}(f){l:List I}{k j}{x:g}(i)(h:(f l[k])[j]?=some x):(l.flatMap f)[((l.take k).flatMap f).length+j]?=some x:=by
 have e:l=l.take k++l[k] :: l.drop (k+1):=by rw[<-zu i,List.take_append_drop]
 have o:l.flatMap f=(l.take k).flatMap f++(f l[k]++(l.drop (k+1)).flatMap f):=by
  conv=>lhs;rw[e]
  rw[List.flatMap_append,w7]
 rw[o,zM zOm,Nat.add_sub_cancel_left,qN (qk.1 h).1];exact h
theorem qlC(n m)(hn:0<n)(a9:n<=20)(hm:0<m)(a3:m<=8000)(a b)(ha:∀ t,t∈a.ts->0<=t/\t<=1000000)(aa:a.ts.length<=1000000)(a4:b.ts.length<=1000000) :
  ji qe 264 (matC n m a b) ((joL n m a.ts b.ts).map fun t=>[aI t]):=by
 refine ji.of call264 fun i I Ix hS hX hY C h0=>?_
 refine qSW call264 func264 rfl {} ?_;have R:=fun C=>lookG C m b.ts
 obtain⟨B,hB⟩:∃ B,B=imG (grpK m b.ts):=⟨_,rfl⟩;have ab:B.cells=[B]:=by rw[hB];rfl
 have ad:B.one=true:=by rw[hB];rfl
 simp only[<-hB]at R⊢;rw[<-qkW]at hY⊢;generalize hF:(fun s=>((getK (s % n) (grpK m b.ts)).getD []).map fun t=>s / n*m+t)=F at *
 have a5:∀ s,F s=((getK (s % n) (grpK m b.ts)).getD []).map fun t=>s / n*m+t:=fun s=>by rw[<-hF]
 simp[go_sem];refine aK a.ts.length (fun k T=>T.tm 0 = .yl i/\T.tm 2 = .ip [B]/\T.tm 3 = .ip [aI n]/\T.tm 4 = .ip [aI m]/\T.tm 11=lI a.ts/\T.tm 12=aI a.ts.length/\T.tm 13=aI k/\I ((a.ts.take k).flatMap F).length T.mu) ?_ ?_
 .exact ⟨zSi,by simp[go_sem,hB],zSi,zSi,zSi,zSi,zSi,zVs h0⟩
 rintro k T hk ⟨e0,e2,e3,e4,U,o,p,P⟩;by_cases l:k<a.ts.length
 .have w1:=zWk k
  obtain⟨v0,v1⟩:=ha _ (qs l);have d1:a.ts[k].tdiv n=a.ts[k] / n:=Int.tdiv_eq_ediv_of_nonneg v0;have d2:a.ts[k].tmod n=a.ts[k] % n:=wq v0;have q0:0<=a.ts[k] / n:=Int.ediv_nonneg v0 zOm;have q1:a.ts[k] / n<=a.ts[k]:=Int.ediv_le_self _ v0;have w2:qq.wrap (a.ts[k] / n)=a.ts[k] / n:=zWr;have a0:¬n=0:=zOm;obtain⟨f,r⟩:=R T.mu (a.ts[k] % n);have a6:((getK (a.ts[k] % n) (grpK m b.ts)).getD []).length<=1000000/\∀ t,t∈(getK (a.ts[k] % n) (grpK m b.ts)).getD []->0<=t/\t<m:=by
   have:=UR m b.ts b.ts.length (qr _) (a.ts[k] % n);rw[qO]at this;rw[this];refine⟨by rw[zT];exact zQ (List.length_filter_le _ _) a4,fun t ht=>?_⟩;obtain⟨u,_,rfl⟩:=qn.1 ht;exact⟨Int.emod_nonneg _ zOm,Int.emod_lt_of_pos _ hm⟩
  have a1:=a5 a.ts[k];generalize (getK (a.ts[k] % n) (grpK m b.ts)).getD []=L at *
  obtain⟨m0,m1⟩:=Ki (x:=1000000) (y:=8000) q0 zOm (by omega:0<=m) a3 zOm;have w3:qq.wrap (a.ts[k] / n*m)=a.ts[k] / n*m:=zWr;simp[go_sem,U,o,p,l];refine cJ zKr ?_;simp[go_sem,e2,e3,a0,d2,r];refine aK L.length (fun j T=>T.tm 0 = .yl i/\T.tm 2 = .ip [B]/\T.tm 3 = .ip [aI n]/\T.tm 4 = .ip [aI m]/\T.tm 7=aI a.ts[k]/\T.tm 11=lI a.ts/\T.tm 12=aI a.ts.length/\T.tm 13=aI k/\T.tm 21 = .lst f (L.map rI)/\T.tm 22=aI L.length/\T.tm 23=aI j/\I (((a.ts.take k).flatMap F).length+j) T.mu) ?_ ?_
  .exact ⟨zS1 e0,zS1 e2,zS1 e3,zS1 e4,zSi,zS1 U,zS1 o,zS1 p,zSi,zSi,zSi,zVs P⟩
  rintro j T hj ⟨f0,f2,f3,f4,f7,f11,f12,f13,f21,f22,f23,P⟩;by_cases g:j<L.length
  .have w4:=zWk j
   obtain⟨u0,u1⟩:=a6.2 _ (qs g);have w5:qq.wrap (a.ts[k] / n*m+L[j])=a.ts[k] / n*m+L[j]:=zWr;have a2:((a.ts.flatMap F).map fun t=>[aI t])[((a.ts.take k).flatMap F).length+j]?=some [aI (a.ts[k] / n*m+L[j])]:=by
    rw[zn,qlB F l (x:=a.ts[k] / n*m+L[j]) (by rw[a1,zn,qA g];rfl)];rfl
   simp[go_sem,f21,f22,f23,g];refine qj.tail 8 zKr ?_;simp[go_sem,f0,f3,f4,f7,a0,d1,w2,w3,w5];refine qh.yield (hY _ _ _ a2 P) ?_;rintro b ae (⟨rfl,a7⟩|⟨rfl,a8⟩)
   .simp [go_sem,f23,g,w4]
    exact aA ⟨zS1 f0,zS1 f2,zS1 f3,zS1 f4,zS1 f7,zS1 f11,zS1 f12,zS1 f13,zS1 f21,zS1 f22,zSi,a7⟩
   .simp [go_sem]
    exact .inr a8
  .have J:j=L.length:=by omega
   subst J;simp[go_sem,f13,f22,f23,w1];refine⟨l,aA ⟨zS1 f0,zS1 f2,zS1 f3,zS1 f4,zS1 f11,zS1 f12,zSi,?_⟩⟩;rw[yv l,List.flatMap_append,zd];simpa[go_sem,a1] using P
 .have J:k=a.ts.length:=by omega
  subst J;rw[qO]at P;simp[go_sem,o,p];exact .inl (by simpa[List.length_flatMap] using P)
end EU
namespace EC
open E1 E2
theorem m5(n):powI n 2=n*n:=by
 have:=wJ (n:=n) (i:=1) (j:=1) zOm zOm zOm;rw[uZ]at this;exact this
end EC
namespace EY
open E1 E2 E3 EO EP EQ ET EW EU EC
def GatM(mu:Mu)(l:List Int):Prop:=∃ t,mu[0]?=some (.arr [aI 0,.lst true []])/\mu[1]?=some (.arr [t])/\OwnI mu t l/\qp t≠some 0/\qp t≠some 1
theorem GatM.step{mu mu':Mu}{av g l}(C:mu[0]?=some (.arr [aI 0,.lst true []]))(j:mu[1]?=some (.arr [av]))(I:qp av≠some 0)(J:qp av≠some 1)(o:OwnI mu' g l)
  (P:∀ i,i<mu.length->qp av≠some i->mu'[i]?=mu[i]?) (R:mu.length<=mu'.length) (T:∀ b,qp g=some b->b=mu.length):mu'[1]?=some (.arr [av])/\GatM (mu'.set 1 (.arr [g])) l:=by
 have U:1<mu.length:=(qk.1 j).1;have p:qp g≠some 0:=fun e=>by grind
 have r:qp g≠some 1:=fun e=>by grind
 refine⟨by grind,g,by grind,by grind,o.same fun b t=>?_,p,r⟩
 grind
theorem GatM.push{mu l}(h:GatM mu l):GatM (mu++[.dead]) l:=by
 obtain⟨t,p,g1,g,i,j⟩:=h;exact⟨t,by grind,by grind,g.same fun b o=>by rw[qN (g.v.lt o)],i,j⟩
theorem GR.none{n}(h:n=0){a}(g:GR n a):a.ts=[]:=by
 cases i:a.ts with
 |nil=>rfl
 |cons t l =>
  exfalso;obtain⟨v0,v1⟩:=g.val t (by rw[i];simp);have o:=g.ar1;rw[YQ zOm g.ar3,h]at v1;have:(0:Int) ^ a.ar.toNat=0:=by
   obtain⟨k,j⟩:∃ k,a.ar.toNat=k+1:=⟨a.ar.toNat-1,zOm⟩;rw[j,Int.pow_succ,Int.mul_zero]
  omega
theorem qlD(n m x y):(joL n m x y).length<=x.length*y.length:=by
 induction x with
 |nil=>simp[joL]
 |cons s x g =>
  simp only[joL,w7,zd,zT,zG]at g⊢;have:=List.length_filter_le (fun t=>decide (t / m=s % n)) y;rw[Nat.add_mul];omega
theorem wG(n)(l:0<=n)(ah:n<=12)(a b)(p:GR n a)(o:GR n b)(hs:a.ar+b.ar<=5->a.ts.length*b.ts.length<=1000000):qi qe 215 [aI n,eRel a,eRel b] (match wH n a b with | .ok r => .tup [eRel r,aI 0] | .error e => .tup [eRel ⟨0,[]⟩,aI e]):=by
 refine qSV call215 func215 rfl ?_;have a1:=p.ar1;have a3:=p.ar3;have b1:=o.ar1;have b3:=o.ar3;have la:=p.len l zOm;have lb:=o.len l zOm;have w0:qq.wrap (a.ar+b.ar)=a.ar+b.ar:=zWr;have w1:qq.wrap (a.ar+b.ar-2)=a.ar+b.ar-2:=zWr;unfold wH;by_cases a0:1<=a.ar+b.ar-2
 case neg =>
  have C:a.ar+b.ar-2<1:=zOm;rw[zIn];simp_all[go_sem,YR,YT]
 by_cases a2:a.ar+b.ar-2<=3
 case neg =>
  have C:¬a.ar+b.ar-2<1:=zOm;have g:3<a.ar+b.ar-2:=zOm;rw[zIn];simp[go_sem,w0,w1,C,g];exact YR YT
 have C:¬a.ar+b.ar-2<1:=zOm;have g:¬ 3<a.ar+b.ar-2:=zOm;rw[if_pos ⟨a0,a2⟩];by_cases hz:n=0
 .have e:joR n a b=⟨a.ar+b.ar-2,[]⟩:=by
   unfold joR;rw[GR.none hz p];rfl
  simp[go_sem,w0,w1,C,g,hz]
  grind [YR,YT]
 have ai:1<=n:=zOm;have w2:qq.wrap (b.ar-1)=b.ar-1:=zWr;have hp:0<powI n (b.ar-1):=Int.pow_pos zOm;obtain⟨p0,p1⟩:=Qv (k:=b.ar-1) l (by omega:n<=20);obtain⟨q0,q1⟩:=Qv (k:=b.ar) l (by omega:n<=20);obtain⟨r0,r1⟩:=Qv (k:=a.ar) l (by omega:n<=20);have a4:∀ t,t∈a.ts->0<=t/\t<=1000000:=fun t I=>zW1 (p.val t I)
 have a5:∀ t,t∈b.ts->0<=t/\t<=1000000:=fun t I=>zW1 (o.val t I)
 have a6:=Kh n l zOm (b.ar-1) zOm zOm;have hJ:joR n a b=⟨a.ar+b.ar-2,ofL (joL n (powI n (b.ar-1)) a.ts b.ts)⟩:=rfl;have aj:=qlD n (powI n (b.ar-1)) a.ts b.ts;have hs:=hs zOm;have a7:=qlA n (powI n (b.ar-1)) hp p1 a b a5 zOm;have a8:=qlC n (powI n (b.ar-1)) zOm zOm hp p1 a b a4 zOm zOm;have a9:WKs [aI n,aI (powI n (b.ar-1)),eRel a,eRel b] [aI n,aI (powI n (b.ar-1)),eRel a,eRel b] := .zs (.zs (.zk (qY a) (.zk (qY b) .nil)));simp only[hJ];generalize powI n (b.ar-1)=m at *
 generalize joL n m a.ts b.ts=J at *
 simp[go_sem,w0,w1,C,g,hz];refine cJ zKr ?_;simp[go_sem,w2];refine fR a6 (.zs (.zs .nil)) ?_;refine fR a7 a9 ?_;refine tC a8 (fun j M=>GatM M (J.take j)) (fun _ _=>False) ?_ ?_ ?_ ?_ ?_ ?_
 .exact ⟨.lst true [],zSi,zSi,.inl ⟨rfl,rfl⟩,by simp[qp],by simp[qp]⟩
 .exact fun j M h=>h.push
 .grind
 .rintro j x M hj ⟨av,T,g1,U,n0,n1⟩
  rw[zn,jR]at hj;obtain⟨t,I,rfl⟩:=hj;obtain⟨ag,ak⟩:=qk.1 I;refine⟨rfl,?_⟩;simp[go_sem,g1];refine aM (e:=3) (bt:=8) (z:=0) zSi zSi zSi zOm U.v zSo ?_;intro al an i aa ab ad;obtain⟨k1,k2⟩:=GatM.step T g1 n0 n1 i aa ab ad;simp[go_sem,k1,i.v.one,i.v.cells]
  grind [tA,yv]
 .rintro M ⟨av,T,g1,U,n0,n1⟩
  rw[zT,qO]at U;simp[go_sem,g1];refine fZ (Kc M _ av J zOm U) ?_ ?_
  .rintro r m' ⟨x,h,P,ae,ao,af⟩
   cases h;have h1:=ae 0 (qk.1 T).1 n0;rw[T]at h1;have R:∀ c,(m'.set 0 c)[0]?=some c:=fun c=>qL (qk.1 h1).1
   have hx:qp x≠some 0:=fun h=>n0 (af _ h)
   simp[go_sem,h1,R,P.one];refine YR (r:=⟨a.ar+b.ar-2,ofL J⟩) (aG (P.same fun b o=>?_));rw[yJ (fun e=>hx (by rw[e];exact o))]
  grind
 grind
theorem qlE(p)(I:p.length<=1000000000):qi qe 243 [lI p] (lI p):=by
 refine qSV call243 func243 rfl ?_;cases p with
 |nil =>
  simp[go_sem,lI];refine⟨.wk _ true _ (.hf _ (HF.lst (full:=true) (xs:=[]) fun r o=>by simp at o)),?_⟩;refine aN (e:=3) (bt:=8) (z:=0) (l:=[]) (ys:=[]) zSi zSi zSi zOm (.inl ⟨rfl,rfl⟩) (by simp[qE]) zSp ?_;intro t j g _ _ _;simp[go_sem];exact g.v.rd
 |cons x l =>
  simp[go_sem,lI];refine aN (e:=3) (bt:=8) (z:=0) (l:=[]) (ys:=x :: l) zSi zSi zSi zOm (.inl ⟨rfl,rfl⟩) (by simp[qE]) (by grind) ?_;intro t j g _ _ _;simp[go_sem];exact g.v.rd
theorem UU{n}(j:0<=n)(i:n<=12){a}(g:GR n a)(l:a.ar=2):a.ts.length<=144:=by
 have e:=m5 n;have p:n*n<=12*12:=jJ i i j zOm;exact J7 g.srt fun t o=>by have:=g.val t o;rw[l,e]at this;omega
theorem qlF{a b}(g:sorted a.ts):a.ts.length<=(unR a b).ts.length:=by
 refine List.Nodup.length_le_of_subset (UL g) fun x i=>?_
 exact(Z6 (a.ts++b.ts)).2 x |>.2 (jt _ i)
theorem wkJ(n a b):WKs [aI n,eRel a,eRel b] [aI n,eRel a,eRel b] := .zs (.zk (qY a) (.zk (qY b) .nil))
theorem wkR2(a b):WKs [eRel a,eRel b] [eRel a,eRel b] := .zk (qY a) (.zk (qY b) .nil)
theorem closU(n)(l:0<=n)(g:n<=12)(a)(R:GR n a)(C:a.ar=2):qi qe 219 [aI n,eRel a] (eRel (clR n 200 a)):=by
 refine qSV call219 func219 rfl ?_;have a0:=UU l g R C;simp[go_sem];refine fR (qlE a.ts zOm) (.zk (zh _) .nil) ?_;refine tT (fun m T=>∃ c,m=145-c.ts.length/\GR n c/\c.ar=2/\(∃ f,145<=f+c.ts.length/\clR n f c=clR n 200 a)/\T.tm 0=aI n/\T.tm 4 = .ptr 0 0/\T.tm 5 = .ptr 1 0/\∃ i,T.mu = .arr [aI 0,.lst true []] :: .arr (cRel c) :: i) (145-a.ts.length) ?_ ?_
 .exact ⟨a,rfl,R,C,⟨200,zOm,rfl⟩,zSi,zSi,zSi,[],zS1 C⟩
 rintro m T ⟨c,rfl,gc,c2,⟨f,hf,j⟩,e0,e4,o,i,hm⟩;have p:=UU l g gc c2;have gj:=GR.join l gc gc zOm zOm;have gu:=aP gc gj (by show c.ar=c.ar+c.ar-2;omega);have a1:=UU l g gu c2;have a2:=qlF (b:=joR n c c) gc.srt;have hj:=wG n l g c c gc gc fun _=>zQ (Nat.mul_le_mul p p) zOm
 have I:wH n c c = .ok (joR n c c):=by simp_all[wH,if_pos]
 rw[I]at hj;have a3:=UU l g gj (by show c.ar+c.ar-2=2;omega);have hu:=vF c (joR n c c) zOm zOm;simp[go_sem,e0,o,hm];refine tS hj (wkJ n c c) ?_;simp[go_sem,o];refine tS hu (wkR2 c (joR n c c)) ?_;generalize J:unR c (joR n c c)=U at *
 by_cases t:U.ts.length=c.ts.length
 .have hr:clR n 200 a=c:=by
   rw[<-j];cases f with
   |zero=>omega
   |succ f=>rw[clR,J,if_pos t]
  rw[hr];simp[go_sem,e4,o,t];exact .hf _ (qY c)
 .have r:∃ f,145<=f+U.ts.length/\clR n f U=clR n 200 a:=by
   cases f with
   |zero=>omega
   |succ f =>
    rw[clR,J,if_neg t]at j;exact⟨f,zOm,j⟩
  have P:U.ar=2:=by rw[<-J];exact c2
  simp[go_sem,o,t];exact Keep.loop (145-U.ts.length) zOm ⟨U,rfl,gu,P,r,zS1 e0,zS1 e4,zS1 o,_,by simp[go_sem];rfl⟩
end EY
namespace GD
open E3 E4 F1 GA GB
section
variable {I:Type}{p:I->I->Bool}
theorem Z5(xs:List Int):(xs.map rI).flatten=xs.map aI:=by
 induction xs with
 |nil=>rfl
 |cons x xs g=>simp[g]
theorem qlG{G h xs v}(r:VRel G h (lI xs) v):xs=[]/\(∃ a c,v = .slice a 0 c)\/xs≠[]/\∃ b off c arr e p,v = .slice (some ⟨b,off,none⟩) xs.length c/\h[b]?=some (.cells arr e p)/\∀ j,j<xs.length->arr[off+j]?=some (.int .i64 (xs.getD j 0)):=by
 by_cases R:xs=[]
 .subst R
  refine .inl ⟨rfl,?_⟩;change VRel G h (.lst false []) v at r;cases r with
  |nil=>exact⟨_,_,rfl⟩
  |emp _ a cap t=>exact⟨_,_,rfl⟩
  |lst _ _ g a cap T e p rd C I hl t hi hz J U=>exact⟨_,_,rfl⟩
 .refine .inr ⟨R,?_⟩
  change VRel G h (.lst false (xs.map rI)) v at r;generalize P:xs.map rI=l at r;have i:l.length=xs.length:=by grind
  cases r with
  |nil=>grind
  |emp _ a cap t=>grind
  |lst _ _ g a cap T e p rd C I hl t hi hz J U =>
   obtain⟨b,off,a0⟩:=a;simp only at I C J;subst I;refine⟨b,off,cap,T,e,p,by rw[i],C,fun j hj=>?_⟩;have o:l.flatten[j]?=some (aI (xs.getD j 0)):=by
    rw[<-P];have:(xs.map rI).flatten=xs.map aI:=Z5 xs
    grind
   have h1:=J j _ o;have h2:=U j _ o;generalize rd j=u at h1 h2;cases h2;exact h1
def Kl(xs:List Int)(x:Int):Nat:=xs.countP (fun y=>decide (y<x))
theorem binU(xs x)(hl:xs.length<=1000000000)(J:xs.Pairwise (·<=·)):qi qe 81 [lI xs,aI x] (.tup [aI (Kl xs x),aB (decide (x∈xs))]):=by
 refine⟨call81,fun i w vs I P=>?_⟩;obtain⟨u,v,rfl,R,T⟩:=P.two_inv;cases T;have g:∀ t:qd,VRel ⟨i,[]⟩ t.heap (.tup [aI (Kl xs x),aB (decide (x∈xs))]) (.tuple #[.int .i64 (Kl xs x:Nat),.bool (decide (x∈xs))]):=by
  intro t;refine .tup _ _ rfl (fun k y p=>?_);cases k with
  |zero=>simp at p;subst p;exact .sc _ rfl
  |succ k=>cases k with
   |zero=>simp at p;subst p;exact .sc _ rfl
   |succ k=>simp at p
 rcases qlG R with ⟨rfl,a,c,rfl⟩|⟨U,b,off,c,arr,e,fr,rfl,o,hc⟩
 .refine (Tryz.slices_BinarySearch_int_empty a c x w).mono fun e t ⟨r,C⟩=>?_
  subst C;refine⟨i,_,r,fun _ h=>h,fun b o=>⟨I.imm b o,.inl o⟩,⟨RowKit.Below.refl _ _,qr _⟩,?_⟩;exact g _
 .have l:∀ j,j<xs.length->w.cell? ⟨b,off+j,none⟩=some (.int .i64 (xs.getD j 0)):=by
   simp_all[World.cell?,Option.isSome_none,Bool.false_eq_true,if_false]
  refine(Tryz.slices_BinarySearch_int b off xs.length c xs x w (qr _) zOm l (by rw[qO];exact J)).mono fun e t ⟨r,q,C⟩=>?_
  subst C;rw[qO]at r;have e2:xs.contains x=decide (x∈xs):=by
   rw[j9];simp
  rw[e2]at r;refine⟨i,_,r,fun _ h=>h,fun b o=>⟨I.imm b o,.inl o⟩,⟨⟨rfl,rfl,rfl,qr _,fun _ _=>rfl⟩,Nat.le_add_right _ _⟩,?_⟩;exact g _
def YY(P:qb)(l:AV){I:Type}(enc:I->AV)(ok:I->I->Prop)(p:I->I->Bool):Prop:=
 HF l/\∃ j i,l = .fn (.func j) [] i/\∀ x y,ok x y->∃ g,WKs ([enc x,enc y]++i) g/\qi P j g (aB (p x y))
theorem YY.call{P l enc ok}(h:YY P l enc ok p){x y}(o:ok x y){det mu K r}(k:K (aB (p x y)) mu):qh P det mu l [enc x,enc y] K r:=by
 obtain⟨_,j,i,rfl,h⟩:=h;obtain⟨g,t,C⟩:=h x y o;exact .inl ⟨_,.inl ⟨j,[],i,g,rfl,C,.inl (zUs t)⟩,k⟩
def jy(p:I->I->Bool):List I->List I->Bool
 |x :: J,y :: i=>p x y&&jy p J i
 | [],[]=>true
 |_,_=>false
theorem Km(p):∀(xs ys:List I),xs.length≠ys.length->jy p xs ys=false
 | [],[],h=>absurd rfl h
 | [],_ :: _,_=>rfl
 |_ :: _,[],_=>rfl
 |x :: xs,y :: ys,h=>by
  simp_all[jy,Km,Bool.and_false]
theorem m6(p)(xs ys:List I)(k g)(i:k<ys.length):jy p (xs.drop k) (ys.drop k)=(p xs[k] ys[k]&&jy p (xs.drop (k+1)) (ys.drop (k+1))):=by
 grind [zu,jy]
theorem Y0(f):HF (.fn (.func f) [] []):=HF.fn (fun c g=>by simp at g) (fun c g=>by simp at g)
theorem m7(xs ys C p)(hf:YY qe C lRel (fun x y=>x∈xs/\y∈ys) p)(hl:xs.length<=1000000000) :
  qi qe 38 [lSt xs,lSt ys,C] (aB (jy p xs ys)):=by
 refine qSU call38 func38 rfl ?_;by_cases g:xs.length=ys.length
 rotate_left
 .simp [go_sem,g,Km p xs ys g]
  exact .zsc _
 simp[go_sem,g];refine qm.up xs.length (fun k T=>T.tm 1=lSt ys/\T.tm 2=C/\T.tm 15=lSt xs/\T.tm 16=aI xs.length/\T.tm 17=aI k/\jy p (xs.drop k) (ys.drop k)=jy p xs ys) ?_ ?_
 .simp [go_sem,g]
 rintro k T hk ⟨J,P,t,l,o,r⟩;by_cases j:k<xs.length
 .have i:k<ys.length:=by omega
  rw[m6 p xs ys k j i]at r;simp[go_sem,J,P,t,l,o,j,i];refine YY.call (enc:=lRel) hf ⟨qs j,qs i⟩ ?_;cases R:p xs[k] ys[k] with
  |true =>
   rw[R,Bool.true_and]at r;simp[go_sem,J,P,t,l,o,j];exact⟨zWr,r⟩
  |false =>
   rw[R,Bool.false_and]at r;simp[go_sem];rw[<-r];exact .zsc _
 .have I:k=xs.length:=by omega
  subst I;rw[yd,g,yd]at r;simp[go_sem,l,o];rw[<-r];exact .zsc _
theorem xorU(a b)(ha:a.length<=1000000)(hb:b.length<=1000000)(R:b.Pairwise (·<·)):qi qe 41 [lI a,lI b] (aI (xorN a b)):=by
 refine qSV call41 func41 rfl ?_;have U:qq.wrap ((a.length:Int)+b.length)=(a.length:Int)+b.length:=zWr;simp[go_sem,U];refine qm.up a.length (fun k T=>T.tm 1=lI b/\T.tm 5=aI ((a.length:Int)+b.length-2*(uh (a.take k) b).length)/\T.tm 15=lI a/\T.tm 16=aI a.length/\T.tm 17=aI k) ?_ ?_
 .simp [go_sem,uh]
 rintro k T hk ⟨C,r,l,g,i⟩;by_cases j:k<a.length
 .have o:=binU b a[k] zOm (R.imp fun h=>zOm)
  have p:a.take (k+1)=a.take k++[a[k]]:=by rw[List.take_add_one,qA j];rfl
  have a0:(uh (a.take k) b).length<=k:=by
   have:=List.length_filter_le (fun x=>decide (x∈b)) (a.take k);rw[v8]at this;show (List.filter _ _).length<=k;omega
  simp[go_sem,C,l,g,i,j];refine tS o (.zk (zh _) (.zs .nil)) ?_;have P:qq.wrap ((k:Int)+1)=((k+1:Nat):Int):=by rw[zWr];omega
  by_cases t:a[k]∈b
  .have I:uh (a.take (k+1)) b=uh (a.take k) b++[a[k]]:=by
    unfold uh;rw[p,List.filter_append,List.filter_cons];generalize List.filter (fun x=>decide (x∈b)) (a.take k)=l0;simp[t]
   have w3:qq.wrap ((a.length:Int)+b.length-2*(uh (a.take k) b).length-2)=(a.length:Int)+b.length-2*(uh (a.take k) b).length-2:=zWr;simp[go_sem,C,r,l,g,i,j,t,P,w3];rw[I,zd];simp;omega
  .have I:uh (a.take (k+1)) b=uh (a.take k) b:=by
    unfold uh;rw[p,List.filter_append,List.filter_cons];generalize List.filter (fun x=>decide (x∈b)) (a.take k)=l0;simp[t]
   simp[go_sem,C,r,l,g,i,j,t,P];rw[I]
 .have J:k=a.length:=by omega
  subst J;rw[qO]at r;simp[go_sem,r,g,i];exact .zsc _
theorem m8(a b)(g:a.sC.length<=1000000):qi qe 30 [eSc a,eSc b] (aB (decide (a.sN=b.sN)&&decide (a.sC=b.sC))):=by
 refine qSU call30 func30 rfl ?_;by_cases h:a.sN=b.sN
 .simp [go_sem,h]
  refine fR (X9 a.sC b.sC zOm) (.zk (zh _) (.zk (zh _) .nil)) ?_;exact .zsc _
 .simp [go_sem,h]
  exact .zsc _
theorem qlH(x y):qi qe 40 [lRel x,lRel y] (aB (decide (x.length=y.length))):=by
 refine qSU call40 func40 rfl ?_;exact .zsc _
theorem Kn(f):∀(xs ys:List I)(k g)(i:k<ys.length),sumZ f (xs.take (k+1)) (ys.take (k+1))=sumZ f (xs.take k) (ys.take k)+f xs[k] ys[k]
 |x :: xs,y :: ys,0,_,_=>by simp[sumZ]
 |x :: xs,y :: ys,k+1,g,i=>by
  simp only[List.take_succ_cons,sumZ,List.getElem_cons_succ];rw[Kn f xs ys k (zUs g) (zUs i)];omega
 | [],_,_,g,_=>by simp at g
 |_ :: _,[],_,_,i=>by simp at i
theorem UV{f M}(g:0<=M):∀(xs ys:List I),(∀ x y,x∈xs->y∈ys->-M<=f x y/\f x y<=M)->-(xs.length*M)<=sumZ f xs ys/\sumZ f xs ys<=xs.length*M
 | [],_,_=>by simp[sumZ]
 |_ :: xs,[],_=>by
  have:0<=((xs.length:Int)+1)*M:=Int.mul_nonneg zOm g;simp[sumZ];omega
 |x :: xs,y :: ys,h=>by
  have l:=h x y zSp zSp;have o:=UV g xs ys fun a b i j=>h a b (zP1 i) (zP1 j)
  have e:((xs.length+1:Nat):Int)*M=xs.length*M+M:=by rw[Int.natCast_add,Int.add_mul];omega
  grind [sumZ,zG]
def xorR(r q:Rl):Int:=xorN r.ts q.ts
def xorT(s t:List Rl):Int:=sumZ xorR s t
def xorS(S T:Sts):Int:=sumZ xorT S T
theorem m9{a b}(g:a.length<=1000)(i:b.length<=1000) : -2000<=xorN a b/\xorN a b<=2000:=by
 grind [List.length_filter_le,decide,xorN,uh]
structure SmS (S:Sts):Prop where
 n:S.length<=1000
 f:∀ s,s∈S->s.length<=1000
 t:∀ s,s∈S->∀ r,r∈s->r.ts.length<=1000/\r.ts.Pairwise (·<·)
theorem Ko{s t}(o:s.length<=1000)(g:∀ r,r∈s->r.ts.length<=1000)(i:∀ r,r∈t->r.ts.length<=1000) : -2000000<=xorT s t/\xorT s t<=2000000:=by
 have:=UV (f:=xorR) (M:=2000) zOm s t fun x y j l=>m9 (g x j) (i y l)
 have p:(s.length:Int)*2000<=2000000:=zOm;unfold xorT;omega
def ui(a b:Md):Int:=if decide (a.sc.sN=b.sc.sN)&&(decide (a.sc.sC=b.sc.sC)&&jy (fun x y=>decide (x.length=y.length)) a.sK b.sK) then xorS a.sK b.sK+(if a.loop=b.loop then 0 else 1) else -1
theorem qaA:∀{xs ys},jy p xs ys=true->xs.length=ys.length/\∀(k g)(i:k<ys.length),p xs[k] ys[k]=true
 | [],[],_=>⟨rfl,fun k g=>by simp at g⟩
 |x :: xs,y :: ys,h=>by
  rw[jy,qH]at h;obtain⟨g,i⟩:=qaA h.2;refine⟨zP1 g,fun k j l=>?_⟩;cases k with
  |zero=>exact h.1
  |succ k=>exact i k (zUs j) (zUs l)
 | [],_ :: _,h=>by simp[jy]at h
 |_ :: _,[],h=>by simp[jy]at h
theorem Kq(a b)(ga:SmS a.sK)(gb:SmS b.sK)(a7:a.sc.sC.length<=1000000):qi qe 13 [eMd a,eMd b] (aI (ui a b)):=by
 generalize I:ui a b=R;unfold ui at I;refine qSU call13 func13 rfl ?_;refine tS (m8 a.sc b.sc a7) (.zk (zA _) (.zk (zA _) .nil)) ?_;by_cases h1:a.sc.sN=b.sc.sN
 case neg =>
  simp[h1]at I;subst I;simp[go_sem,h1];exact .zsc _
 by_cases h2:a.sc.sC=b.sc.sC
 case neg =>
  simp[h2]at I;subst I;simp[go_sem,h1,h2];exact .zsc _
 simp[go_sem,h1,h2];refine tS (m7 a.sK b.sK _ (fun x y=>decide (x.length=y.length)) ⟨Y0 _,_,_,rfl,fun x y aa=>⟨[lRel x,lRel y],by simpa using WKs.zk (Qq x) (.zk (Qq y) .nil),qlH x y⟩⟩ (zW1 ga.n)) (.zk (Z8 _) (.zk (Z8 _) (.zk (Y0 _) .nil))) ?_;cases h3:jy (fun x y=>decide (x.length=y.length)) a.sK b.sK with
 |false =>
  simp[h3]at I;subst I;simp[go_sem];exact .zsc _
 |true =>
  simp[h1,h2,h3]at I;obtain⟨a9,a5⟩:=qaA h3;have hn:=ga.n;simp[go_sem];refine qm.up a.sK.length (fun k T=>T.tm 2 = .ip (cMd a)/\T.tm 3 = .ip (cMd b)/\T.tm 6=aI (xorS (a.sK.take k) (b.sK.take k))/\T.tm 27=lSt a.sK/\T.tm 28=aI a.sK.length/\T.tm 29=aI k) ?_ ?_
  .simp [go_sem,xorS,sumZ]
  rintro k T hk ⟨e2,e3,e6,J,o,p⟩;by_cases C:k<a.sK.length
  .have i:k<b.sK.length:=by omega
   have hl:=of_decide_eq_true (a5 k C i);have ab:=ga.f _ (qs C);have a1:=ga.t _ (qs C);have a0:=gb.t _ (qs i);have hD : -(2000000000:Int)<=xorS (a.sK.take k) (b.sK.take k)/\xorS (a.sK.take k) (b.sK.take k)<=2000000000:=by
    have:=UV (f:=xorT) (M:=2000000) zOm (a.sK.take k) (b.sK.take k) fun x y hx hy=>Ko (ga.f x (jI hx)) (fun r P=>(ga.t x (jI hx) r P).1) (fun r P=>(gb.t y (jI hy) r P).1)
    rw[v8]at this;have h5:((min k a.sK.length:Nat):Int)*2000000<=2000000000:=zOm;unfold xorS;omega
   generalize a8:xorS (a.sK.take k) (b.sK.take k)=D at *
   simp[go_sem,J,o,p,C];refine qm.up a.sK[k].length (fun j T=>T.tm 2 = .ip (cMd a)/\T.tm 3 = .ip (cMd b)/\T.tm 6=aI (D+xorT (a.sK[k].take j) (b.sK[k].take j))/\T.tm 7=aI k/\T.tm 27=lSt a.sK/\T.tm 28=aI a.sK.length/\T.tm 29=aI k/\T.tm 34=lRel a.sK[k]/\T.tm 35=aI a.sK[k].length/\T.tm 36=aI j) ?_ ?_
   .simp [go_sem,e2,e3,e6,J,o,p,xorT,sumZ]
   rintro j T hj ⟨e2,e3,e6,e7,J,o,p,a6,a2,a3⟩;by_cases U:j<a.sK[k].length
   .have g:j<b.sK[k].length:=by omega
    have hx:=xorU a.sK[k][j].ts b.sK[k][j].ts (zW1 ((a1 _ (qs U)).1)) (zW1 ((a0 _ (qs g)).1)) (a0 _ (qs g)).2;simp[go_sem,a6,a2,a3,U];refine cJ zKr ?_;simp[go_sem,e3,e6,e7,g,i];refine tS hx (.zk (zh _) (.zk (zh _) .nil)) ?_;simp[go_sem,e2,e3,e7,J,o,p,a6,a2,a3,U];have hs:=Kn xorR a.sK[k] b.sK[k] j U g;have ad:=Ko (s:=a.sK[k].take j) (t:=b.sK[k].take j) (by rw[v8];omega) (fun r P=>(a1 r (jI P)).1) (fun r P=>(a0 r (jI P)).1);have ae:=m9 (a1 _ (qs U)).1 (a0 _ (qs g)).1;refine⟨?_,zWr⟩;rw[zWr];unfold xorT at *
    rw[hs];unfold xorR;omega
   .have a4:j=a.sK[k].length:=by omega
    subst a4;simp[go_sem,e2,e3,e6,J,o,p,a2,a3];have hs:=Kn xorT a.sK b.sK k C i;refine⟨C,?_,zWr⟩;unfold xorS at *
    rw[hs,a8,z6 (l:=b.sK[k]) zOm]
  .have a4:k=a.sK.length:=by omega
   subst a4;rw[z6 (l:=a.sK) (qr _),z6 (l:=b.sK) zOm]at e6;have hD : -(2000000000:Int)<=xorS a.sK b.sK/\xorS a.sK b.sK<=2000000000:=by
    have:=UV (f:=xorT) (M:=2000000) zOm a.sK b.sK fun x y hx hy=>Ko (ga.f x hx) (fun r P=>(ga.t x hx r P).1) (fun r P=>(gb.t y hy r P).1)
    have h5:(a.sK.length:Int)*2000000<=2000000000:=zOm;unfold xorS;omega
   simp[go_sem,e2,e3,o,p];by_cases h6:a.loop=b.loop
   .rw [if_pos h6]at I
    simp[go_sem,e6,h6];rw[<-I,Int.add_zero];exact .zsc _
   .rw [if_neg h6]at I
    have w1:qq.wrap (xorS a.sK b.sK+1)=xorS a.sK b.sK+1:=zWr;simp[go_sem,e6,h6,w1];rw[<-I];exact .zsc _
end
end GD
namespace E9
theorem qaB(sc)(g:GSc sc):qi qe 23 [eSc sc] (aI (sumI sc.sC)):=by
 refine qSU call23 func23 rfl ?_;refine qm.up sc.sC.length (fun k T=>T.tm 1 = .ip [lI sc.sC,aI sc.sN]/\T.tm 3=aI (sumI (sc.sC.take k))/\T.tm 4=aI k/\T.mu=[]) ?_ ?_
 .simp [go_sem,sumI]
 rintro k T I ⟨o,p,r,t⟩;have J:=g.1;simp[go_sem,o,r,t];refine cZ (fun i=>?_) (fun j=>?_)
 .have i:k<sc.sC.length:=by simpa using i
  have C:=uV sc.sC k i;have l:=g.sum (k+1);rw[C]at l;simp[go_sem,o,p,r,i]
  grind [z8]
 .have j:k=sc.sC.length:=by simp at j;omega
  subst j;simp[go_sem,p];exact .zsc _
def wK:List Int->Int->Int->Int
 | [],_,_ => -1
 |a :: l,x,i=>if x<a then i else wK l (x-a) (i+1)
def u3(sc:Sc)(x:Int):Int:=wK sc.sC x 0
theorem qaC(l:List Int)(k x i h):wK (l.drop k) x i=if x<l[k] then i else wK (l.drop (k+1)) (x-l[k]) (i+1):=by
 rw[zu h,wK]
def divN(n x:Int):Nat->Int
 | 0=>x
 |j+1=>divN n x j / n
theorem UW{I:Type}{l:List I}{p}:l.all p=true↔∀(i)(h:i<l.length),p l[i]=true:=by
 rw[zF];refine⟨fun h i g=>h _ (qs g),fun h a j=>?_⟩;obtain⟨i,g,rfl⟩:=Qb j;exact h i g
theorem UX{I:Type}{l:List I}{p i}(h:i<l.length)(g:p l[i]=false):l.all p=false:=by
 rw[<-Bool.not_eq_true,UW]
 grind
end E9
namespace G5
open E9 EO EQ
theorem Kr(sc)(g:GSc sc)(n:Nat)(J:n<=1000000):qi qe 190 [eSc sc,aI n] (aI (sumI (sc.sC.take n))):=by
 have P:=g.1;refine qSU call190 func190 rfl ?_;refine qm.up (min n sc.sC.length) (fun k T=>T.tm 1=aI n/\T.tm 2 = .ip [lI sc.sC,aI sc.sN]/\T.tm 5=aI (sumI (sc.sC.take k))/\T.tm 6=aI k) ?_ ?_
 .simp [go_sem,sumI]
 rintro k T R ⟨l,C,o,p⟩;by_cases j:k<n
 .by_cases i:k<sc.sC.length
  .have I:=uV sc.sC k i
   have r:=g.sum (k+1);rw[I]at r;simp[go_sem,l,C,o,p,j,i]
   grind [z8]
  .have e:sc.sC.take n=sc.sC.take k:=by rw[z6 zOm,z6 zOm]
   rw[e];simp[go_sem,l,C,o,p,j,i];exact .zsc _
 .have t:k=n:=by omega
  subst t;simp[go_sem,l,o,p];exact .zsc _
theorem qaD(sc)(g:GSc sc):qi qe 137 [eSc sc] (aI (sumI sc.sC)):=by
 have i:=g.1;have h:=Kr sc g sc.sC.length zOm;rw[qO]at h;refine qSU call137 func137 rfl ?_;refine fR h (.zk (zA _) (.zs .nil)) ?_;exact .zsc _
theorem Ja(n:Int)(g:0<=n)(i:n<=20):∀ k,k<=3->0<=n ^ k/\n ^ k<=8000
 | 0,_=>zSp
 | 1,_=>by rw[show n ^ 1=n by rw[Int.pow_succ,Int.pow_zero,Int.one_mul]];omega
 | 2,_=>by
  have:n*n<=20*20:=jJ i i g zOm;have j:=Int.mul_nonneg g g;rw[show n ^ 2=n*n by grind];omega
 | 3,_=>by
  have j:n*n<=20*20:=jJ i i g zOm;have l:=Int.mul_nonneg g g;have o:n*n*n<=400*20:=jJ j i g zOm;simp_all[Int.mul_nonneg,Int.pow_succ,Int.pow_zero,Int.one_mul]
 |k+4,h=>zOm
theorem qaE(sc)(g:GSc sc)(n:Nat)(J:n<=3):qi qe 83 [eSc sc,aI n] (aI (sumI sc.sC ^ n)):=by
 have j:=g.sum sc.sC.length;rw[qO]at j;refine qSU call83 func83 rfl ?_;refine qm.up n (fun k T=>T.tm 1=aI n/\T.tm 2 = .ip [lI sc.sC,aI sc.sN]/\T.tm 5=aI (sumI sc.sC ^ k)/\T.tm 6=aI k) ?_ ?_
 .simp [go_sem]
 rintro k T P ⟨l,r,t,o⟩;by_cases i:k<n
 .have C:=Ja (sumI sc.sC) j.1 j.2 (k+1) zOm
  have e:sumI sc.sC ^ (k+1)=sumI sc.sC ^ k*sumI sc.sC:=Int.pow_succ ..;rw[e]at C;have I:(k:Int)<3:=zOm;simp[go_sem,l,r,t,o,i,I];refine tS (qaD sc g) (.zk (zA _) .nil) ?_;simp[go_sem,l,r,o,i]
  grind [z8]
 .have p:k=n:=by omega
  subst p;simp[go_sem,l,t,o];exact .zsc _
theorem qaF(l x)(g:∀ a,a∈l->0<=a):∀ k i,k<=l.length->sumI (l.take k)<=x->wK l x i=wK (l.drop k) (x-sumI (l.take k)) (i+k):=by
 intro k;induction k with
 |zero=>grind [sumI]
 |succ k j =>
  intro i p r;have o:=uV l k zOm;have t:=g _ (qs (show k<l.length by omega));rw[j i zOm zOm,qaC l k _ _ zOm,zIn,o]
  grind
theorem qlI(sc)(g:GSc sc)(x:Nat)(U:x<=1000):qi qe 138 [eSc sc,aI x] (aI (u3 sc x)):=by
 have hl:=g.1;have l:∀ a,a∈sc.sC->0<=a:=fun a R=>(g.2 a R).1
 refine qSU call138 func138 rfl ?_;refine qm.up sc.sC.length (fun k T=>T.tm 1=aI x/\T.tm 2 = .ip [lI sc.sC,aI sc.sN]/\T.tm 5=aI k/\sumI (sc.sC.take k)<=x) ?_ ?_
 .simp [go_sem,sumI]
 rintro k T I ⟨r,p,o,t⟩;by_cases j:k<sc.sC.length
 .have hs:=uV sc.sC k j
  have i:=qaF sc.sC x l k 0 I t;rw[qaC sc.sC k _ _ j]at i;have J:qq.wrap ((k:Int)+1)=((k+1:Nat):Int):=by grind [z8]
  simp[go_sem,r,p,o,j];refine tS (Kr sc g k zOm) (.zk (zA _) (.zs .nil)) ?_;simp[go_sem,r,p,o,t,J];refine tS (Kr sc g (k+1) zOm) (.zk (zA _) (.zs .nil)) ?_;by_cases P:(x:Int)<sumI (sc.sC.take (k+1))
  .have e:u3 sc x=k:=by
    unfold u3;rw[i,if_pos zOm];omega
   rw[e];simp[go_sem,o,P];exact .zsc _
  .simp [go_sem,r,p,o,j,P,J]
   omega
 .have C:k=sc.sC.length:=by omega
  subst C;have e:u3 sc x = -1:=by
   unfold u3;rw[qaF sc.sC x l sc.sC.length 0 I t,yd];rfl
  rw[e];simp[go_sem,p,o];exact .zsc _
def digs(n:Int):Nat->Int->List Int
 | 0,_=>[]
 |k+1,r=>digs n k (r / n)++[r % n]
theorem Jb(n):∀ k r,(digs n k r).length=k
 | 0,_=>rfl
 |k+1,r=>by rw[digs,zd,Jb n k];rfl
theorem qaG(n):∀ j x,divN n (x / n) j=divN n x (j+1)
 | 0,x=>rfl
 |j+1,x=>by rw[divN,qaG n j x];rfl
theorem qaH(n):∀ j r,digs n (j+1) r=(divN n r j % n) :: digs n j r
 | 0,r=>by simp[digs,divN]
 |j+1,r=>by
  rw[digs,qaH n j (r / n),qaG,List.cons_append];rfl
theorem Ks(n r)(i:0<n)(g:0<=r):∀ j,0<=divN n r j/\divN n r j<=r
 | 0=>⟨g,by simp[divN]⟩
 |j+1=>by
  have:=Ks n r i g j;rw[divN];have l:=Int.ediv_le_self n this.1;exact⟨Int.ediv_nonneg this.1 zOm,zOm⟩
theorem qlJ{mu b cells ds}(o:mu[b]?=some (.arr cells))(h:∀ i (I:i<ds.length),cells[i]?=some (aI ds[i])):Rd mu (.sl b 1 0 ds.length) (lI ds):=by
 refine .sl b 1 0 ds.length cells (ds.map rI) o ?_ zSp (fun r p=>by obtain⟨x,_,rfl⟩:=qn.1 p;rfl) fun k x y g l=>?_
 .grind
 .rw [yj]at g
  rw[GD.Z5,zn,jR]at l;obtain⟨z,t,rfl⟩:=l;have C:=(qk.1 t);obtain⟨j,rfl⟩:=C;rw[h k j]at g;cases g;exact .zsc _
theorem qlK(sc)(g:GSc sc)(hp:0<sumI sc.sC)(k:Nat)(hk:k<=3)(r:Nat)(hr:(r:Int)<sumI sc.sC ^ k):qi qe 84 [eSc sc,aI k,aI r] (lI (digs (sumI sc.sC) k r)):=by
 have hs:=g.sum sc.sC.length;rw[qO]at hs;have a7:=Ja (sumI sc.sC) hs.1 hs.2 k hk;refine qSV call84 func84 rfl ?_;have a0:¬(3:Int)<k:=zOm;have a1:¬(k:Int)<0:=zOm;have a2:¬(r:Int)<0:=zOm;simp[go_sem,a0,a1,a2];refine tS (qaE sc g k hk) (.zk (zA _) (.zs .nil)) ?_;have a3:¬sumI sc.sC ^ k<=(r:Int):=zOm;simp[go_sem,a3];refine tS (qaD sc g) (.zk (zA _) .nil) ?_;generalize hN:sumI sc.sC=N at *
 have w0:qq.wrap ((k:Int)-1)=(k:Int)-1:=zWr;simp[go_sem,w0];refine tT (fun m T=>∃ j:Nat,m=k-j/\j<=k/\T.tm 1=aI k/\T.tm 7 = .sl 0 1 0 3/\T.tm 8=aI N/\T.tm 9=aI (divN N r j)/\T.tm 10=aI ((k:Int)-1-j)/\∃ c0 c1 c2,T.mu=[.arr [aI c0,aI c1,aI c2]]/\∀ i (P:i<j),[c0,c1,c2][k-j+i]?=some ((digs N j r)[i]'(by rw[Jb];exact P))) k ?_ ?_
 .exact ⟨0,zOm,zOm,zSi,zSi,zSi,by simp[go_sem,divN],zSi,0,0,0,zSi,fun i P=>zOm⟩
 rintro m T ⟨j,rfl,hj,e1,p,R,e9,o,c0,c1,c2,hm,hc⟩;by_cases a8:j<k
 .obtain ⟨d,rfl⟩:∃ d:Nat,k=j+1+d:=⟨k-(j+1),zOm⟩
  have t:d=0\/d=1\/d=2:=zOm;have ex:(((j+1+d:Nat):Int)-1-j)=(d:Int):=zOm;rw[ex]at o;have U:=Ks N r hp zOm j;have a9:(r:Int)<=8000:=zOm;have hq:(divN N r j).tdiv N=divN N r (j+1):=by rw[divN,Int.tdiv_eq_ediv_of_nonneg U.1]
  have I:(divN N r j).tmod N=divN N r j % N:=wq U.1;have a6:=Ks N r hp zOm (j+1);have w1:qq.wrap (divN N r (j+1))=divN N r (j+1):=zWr;have J:¬N=0:=zOm;have aa:(digs N (j+1) r)=(divN N r j % N) :: digs N j r:=qaH N j r;have a4:=Jb N j r;rcases t with t|t|t
  .have l:T.tm 10=aI 0:=by rw[o,t];rfl
   have w2:qq.wrap (-1) = -1:=zWr;simp[go_sem,p,R,e9,l,hm,J,hq,I,w1,w2];refine Keep.loop (j+1+d-(j+1)) zOm ⟨j+1,rfl,zOm,zS1 e1,zS1 p,zS1 R,zSi,by simp[go_sem];omega,divN N r j % N,c1,c2,zSi,fun i P=>?_⟩
   grind
  .have l:T.tm 10=aI 1:=by rw[o,t];rfl
   have w2:qq.wrap (0)=0:=zWr;simp[go_sem,p,R,e9,l,hm,J,hq,I,w1,w2];refine Keep.loop (j+1+d-(j+1)) zOm ⟨j+1,rfl,zOm,zS1 e1,zS1 p,zS1 R,zSi,by simp[go_sem];omega,c0,divN N r j % N,c2,zSi,fun i P=>?_⟩
   grind
  .have l:T.tm 10=aI 2:=by rw[o,t];rfl
   have w2:qq.wrap (1)=1:=zWr;simp[go_sem,p,R,e9,l,hm,J,hq,I,w1,w2];refine Keep.loop (j+1+d-(j+1)) zOm ⟨j+1,rfl,zOm,zS1 e1,zS1 p,zS1 R,zSi,by simp[go_sem];omega,c0,c1,divN N r j % N,zSi,fun i P=>?_⟩
   grind
 .have a5:j=k:=by omega
  subst a5;have hn:¬(j:Int)<=(j:Int)-1:=zOm;have h3:(j:Int)<=3:=zOm;simp[go_sem,e1,p,o,hm,hn,h3];have a4:=Jb N j r;have:=qlJ (mu:=[.arr [aI c0,aI c1,aI c2]]) (b:=0) (cells:=[aI c0,aI c1,aI c2]) (ds:=digs N j r) rfl fun i P=>by
   have:=hc i zOm;rw[Nat.sub_self,yj]at this;rw[show [aI c0,aI c1,aI c2]=[c0,c1,c2].map aI from rfl,zn,this];rfl
  grind
def fitB(sc:Sc)(ds g:List Int):Bool:=allN (fun i=>decide (u3 sc (gI ds i)=gI g i)) g.length
theorem qlL(sc)(g:GSc sc)(ds j)(hl:ds.length=j.length)(a0:j.length<=3)(hd:∀ d,d∈ds->0<=d/\d<=1000):qi qe 85 [eSc sc,lI ds,lI j] (aB (fitB sc ds j)):=by
 refine qSU call85 func85 rfl ?_;refine qm.up j.length (fun k T=>T.tm 1=lI ds/\T.tm 2=lI j/\T.tm 3 = .ip [lI sc.sC,aI sc.sN]/\T.tm 7=aI k/\∀ i,i<k->u3 sc (gI ds i)=gI j i) ?_ ?_
 .simp [go_sem]
 rintro k T hk ⟨J,r,P,p,hi⟩;by_cases l:k<j.length
 .have o:k<ds.length:=by omega
  have t:=hd ds[k] (qs o);obtain⟨d,C⟩:=Int.eq_ofNat_of_zero_le t.1;simp[go_sem,r,p,l];refine cJ zKr ?_;simp[go_sem,J,P,p,o];have R:=qlI sc g d zOm;rw[<-C]at R;refine tS R (.zk (zA _) (.zs .nil)) ?_;have g1:gI ds k=ds[k]:=uU o;have g2:gI j k=j[k]:=uU l;by_cases U:u3 sc ds[k]=j[k]
  .simp [go_sem,J,r,P,p,l,U]
   refine⟨zWr,fun i a1=>?_⟩;by_cases h:i=k
   .grind
   grind
  .have hf:fitB sc ds j=false:=qjG l (by grind)
   rw[hf];simp[go_sem,r,p,l,U];exact .zsc _
 .have I:k=j.length:=by omega
  subst I;have hf:fitB sc ds j=true:=XK.2 fun i h=>by grind
  rw[hf];simp[go_sem,r,p];exact .zsc _
theorem Kt(n)(i:0<n)(g:n<=20):∀ k r,∀ d,d∈digs n k r->0<=d/\d<=1000
 | 0,_,d,h=>by simp[digs]at h
 |k+1,r,d,h=>by
  rw[digs,qM]at h;rcases h with h|h
  .exact Kt n i g k _ d h
  .rw [qV]at h;subst h
   have j:=Int.emod_nonneg r (show n≠0 by omega);have l:=Int.emod_lt_of_pos r i;omega
def vG(sc:Sc)(g:List Int)(r:Nat):List Int:=((qu r).filter fun k:Nat=>fitB sc (digs (sumI sc.sC) g.length k) g).map fun k:Nat=>(k:Int)
theorem qlM(sc g r):vG sc g (r+1)=vG sc g r++(if fitB sc (digs (sumI sc.sC) g.length r) g then [(r:Int)] else []):=by
 unfold vG;rw[List.range_succ,List.filter_append,ze];by_cases h:fitB sc (digs (sumI sc.sC) g.length r) g=true<;>simp[h]
theorem Ku(sc g r):(vG sc g r).length<=r:=by
 grind [List.length_filter_le,fitB,digs,sumI,qu,List.length_range,vG]
theorem Vc(sc g r):(vG sc g r).Pairwise (·<·):=by
 unfold vG;rw[List.pairwise_map];exact(List.pairwise_lt_range.filter _).imp fun h=>zOm
theorem qlN(sc g r):∀ x,x∈vG sc g r->0<=x/\x<r:=fun x i=>by
 obtain⟨k,j,rfl⟩:=qn.1 i;have:=yi.1 (jH.1 j).1;omega
def yN(sc:Sc)(g:List Int):List Int:=vG sc g (sumI sc.sC ^ g.length).toNat
theorem qaI(sc)(g:GSc sc)(hp:0<sumI sc.sC)(j:List Int)(h1:1<=j.length)(h3:j.length<=3)(hs:∀ s,s∈j->0<=s/\s<sc.sC.length):qi qe 44 [eSc sc,lI j] (eRel ⟨j.length,yN sc j⟩):=by
 have P:=g.sum sc.sC.length;rw[qO]at P;have a3:=Ja (sumI sc.sC) P.1 P.2 j.length h3;obtain⟨R,hR⟩:=Int.eq_ofNat_of_zero_le a3.1;have a4:yN sc j=vG sc j R:=by rw[yN,hR];rfl
 refine qSV call44 func44 rfl ?_;have n1:¬(j.length:Int)<1:=zOm;have n3:¬(3:Int)<(j.length:Int):=zOm;simp[go_sem,n1,n3];refine qm.up j.length (fun k T=>T.tm 1=lI j/\T.tm 2 = .ip [lI sc.sC,aI sc.sN]/\T.tm 4 = .ptr 0 0/\T.tm 5=aI j.length/\T.tm 6=aI k/\T.mu=[.arr [aI 0,.lst true []]]) ?_ ?_
 .simp [go_sem]
 rintro k T hk ⟨e1,C,e4,p,e6,hm⟩;by_cases o:k<j.length
 .have a6:=hs j[k] (qs o)
  have m1:¬j[k]<0:=zOm;have m2:¬(sc.sC.length:Int)<=j[k]:=zOm;simp[go_sem,p,e6,hm,o];refine cJ zKr ?_;simp[go_sem,e1,C,e4,p,e6,o,m1,m2]
  grind [z8]
 have U:k=j.length:=zOm;subst U;simp[go_sem,p,e6,hm];refine tT (fun m T=>∃ k t l,m=R-k/\k<=R/\T.tm 1=lI j/\T.tm 2 = .ip [lI sc.sC,aI sc.sN]/\T.tm 4 = .ptr 0 0/\T.tm 5=aI j.length/\T.tm 7 = .ptr 1 0/\T.tm 8=aI (k:Nat) /\
  T.mu=[.arr [aI 0,.lst true []],.arr [aI j.length,t]]++l/\OwnF 2 ([.dead,.dead]++l) 1 t ((vG sc j k).map rI)) R ?_ ?_
 .exact ⟨0,.lst true [],[],zOm,zOm,zS1 e1,zS1 C,zS1 e4,zS1 p,zSi,zSi,zSi,by grind [vG,OwnF.nil]⟩
 rintro m T ⟨k,t,l,rfl,hk,e1,C,e4,p,e7,e8,hm,ho⟩;have ho:=ho.low (low:=[.dead,.dead]) (low':=[.arr [aI 0,.lst true []],.arr [aI j.length,t]]) rfl;simp[go_sem,C,p,e8,hm];refine tS (qaE sc g j.length h3) (.zk (zA _) (.zs .nil)) ?_;rw[hR];by_cases o:k<R
 .simp [go_sem,C,p,e8,o]
  refine tS (qlK sc g hp j.length h3 k zOm) (.zk (zA _) (.zs (.zs .nil))) ?_;simp[go_sem,e1,C];refine tS (qlL sc g _ j (Jb _ _ _) h3 (Kt _ hp zOm _ _)) (.zk (zA _) (.zk (zh _) (.zk (zh _) .nil))) ?_;have a0:=qlM sc j k;have a7:=Ku sc j k;cases hb:fitB sc (digs (sumI sc.sC) j.length k) j with
  |false =>
   rw[hb]at a0;simp[go_sem,e8];refine Keep.loop (R-(k+1)) zOm ⟨k+1,t,l,rfl,zOm,zS1 e1,zS1 C,zS1 e4,zS1 p,zS1 e7,?_,zSi,?_⟩
   .simp [go_sem];grind [z8]
   grind
  |true =>
   rw[hb]at a0;simp[go_sem,e7,e8];refine fV (low:=[.arr [aI 0,.lst true []],.arr [aI j.length,t]]) (e:=3) (bt:=8) (z:=0) (xs:=vG sc j k) (ys:=[(k:Int)]) zSi zSi zSi zOm ho (by simp[qE]) zSo ?_;intro a5 a1 a2;simp[go_sem,e7,e8,a2.cells,a2.one];refine Keep.loop (R-(k+1)) zOm ⟨k+1,a5,a1,rfl,zOm,zS1 e1,zS1 C,zS1 e4,zS1 p,zS1 e7,?_,zSi,?_⟩
   .simp [go_sem];grind [z8]
   .rw [a0]
    simpa[go_sem] using a2.low (low':=[.dead,.dead]) rfl
 .have U:k=R:=by omega
  subst U;simp[go_sem,e4,e7,ho.one];rw[a4];exact Rd.rel (r:=⟨j.length,vG sc j k⟩) (ho.low (low:=[.arr [aI 0,.lst true []],.arr [aI j.length,t]]) (low':=[.arr [aI j.length,t],.arr [aI j.length,t]]) rfl).rdI
end G5
namespace GM
end GM
namespace GP
open P1 E3 GB GD G5
def vH(g:List Bool)(lo:Rl)(q:List Int×Nat)(t:Int):List Int×Nat:=
 if t∈lo.ts then (q.1++[t],q.2) else (q.1++(if g.getD q.2 false=true then [t] else []),q.2+1)
def insF(g:List Bool)(lo:Rl)(ts:List Int)(n:Nat):List Int×Nat:=ts.foldl (vH g lo) ([],n)
theorem qlO(g lo)(ts:List Int)(n k h):insF g lo (ts.take (k+1)) n=vH g lo (insF g lo (ts.take k) n) ts[k]:=by
 rw[vZ h,insF,vM];rfl
theorem Vd(g lo):∀(ts:List Int)(q w),q.1.Sublist w->(ts.foldl (vH g lo) q).1.Sublist (w++ts)
 | [],q,w,h=>zUs h
 |t :: ts,q,w,h=>by
  rw[List.foldl_cons,show w++t :: ts=(w++[t])++ts by simp];refine Vd g lo ts _ _ ?_;unfold vH;split
  .exact h.append (List.Sublist.refl _)
  .split
   .exact h.append (List.Sublist.refl _)
   .exact h.append (List.nil_sublist _)
theorem Kv(g lo):∀(ts:List Int)(q),(ts.foldl (vH g lo) q).2<=q.2+ts.length
 | [],q=>zSp
 |t :: ts,q=>by
  rw[List.foldl_cons];have:=Kv g lo ts (vH g lo q t);have i:(vH g lo q t).2<=q.2+1:=by unfold vH;split<;>simp
  simp only[zG];omega
def insB(g:List Bool)(q:List Rl×Nat)(b:Bd):List Rl×Nat:=(q.1++[⟨b.up.ar,(insF g b.lo b.up.ts q.2).1⟩],(insF g b.lo b.up.ts q.2).2)
def jz(g:List Bd)(i:List Bool):List Rl×Nat:=g.foldl (insB i) ([],0)
def yE(g:List Bd)(i:List Bool):List Rl:=(jz g i).1
theorem qaJ(g:List Bd)(i k h):jz (g.take (k+1)) i=insB i (jz (g.take k) i) g[k]:=by
 rw[vZ h,jz,vM];rfl
theorem qaK(g M):∀(i:List Bd)(q),(∀ b,b∈i->b.up.ts.length<=M)->(i.foldl (insB g) q).2<=q.2+i.length*M
 | [],q,_=>zSp
 |b :: i,q,h=>by
  rw[List.foldl_cons];have:=qaK g M i (insB g q b) fun x j=>h x (q8 _ j)
  have l:(insB g q b).2<=q.2+M:=zQ (Kv g b.lo b.up.ts _) (by grind);rw[zG,Nat.add_mul];omega
theorem Kw(i):∀(g:List Bd)(q),(g.foldl (insB i) q).1.map Rl.ar=q.1.map Rl.ar++g.map fun b=>b.up.ar
 | [],q=>zSp
 |b :: g,q=>by rw[List.foldl_cons,Kw i g];simp[insB]
theorem qlP(g i):(yE g i).map Rl.ar=g.map fun b=>b.up.ar:=by
 rw[yE,jz,Kw];simp
theorem Zx(g i):(yE g i).length=g.length:=by
 rw[<-zT (f:=Rl.ar),qlP,zT]
theorem qaL(i):∀(g:List Bd)(q),∀ r,r∈(g.foldl (insB i) q).1->r∈q.1\/∃ b,b∈g/\r.ts.Sublist b.up.ts
 | [],q,r,h => .inl h
 |b :: g,q,r,h=>by
  rw[List.foldl_cons]at h;rcases qaL i g _ r h with h|⟨x,j,l⟩
  .simp only[insB,qM,qV]at h
   rcases h with h|rfl
   .exact .inl h
   .exact .inr ⟨b,zg ..,by have:=Vd i b.lo b.up.ts ([],q.2) [] (List.Sublist.refl _);grind [insF]⟩
  grind
theorem Kx(g i):∀ r,r∈yE g i->∃ b,b∈g/\r.ts.Sublist b.up.ts:=fun r j=>by
 rcases qaL i g ([],0) r j with h|h
 .cases h
 .exact h
def anyS(j:List Bool)(i:List Bd)(g:List (List Bool))(s:Nat):List Rl:=
 if s=0 then yE i (g.getD 0 []) else (yE i (g.getD s [])).mapIdx fun f r=>if j.getD f true=true then r else (yE i (g.getD 0 [])).getD f noR
def anyM(sc:Sc)(i:List Bool)(j:List Bd)(g:List (List Bool))(loop:Int):Md:=⟨sc,(qu sc.sN.toNat).map (anyS i j g),loop⟩
theorem Ky(j i g s):(anyS j i g s).length=i.length:=by
 grind [anyS,Zx,List.length_mapIdx]
theorem qlQ(t l g s):∀ r,r∈anyS t l g s->∃ b,b∈l/\r.ts.Sublist b.up.ts:=fun r j=>by
 unfold anyS at j;split at j
 .exact Kx _ _ r j
 .obtain ⟨f,hf⟩:=List.mem_iff_getElem?.1 j
  rw[List.getElem?_mapIdx,jR]at hf;obtain⟨q,o,rfl⟩:=hf;split
  .exact Kx _ _ q (zb o)
  .have p:=(qk.1 o).1
   rw[Zx]at p;have i:f<(yE l (g.getD 0 [])).length:=by rw[Zx];exact p
   rw[zS,qA i];exact Kx _ _ _ (qs i)
theorem qlR(sc l i j loop)(g:sc.sN<=1000)(o:i.length<=1000)(p:∀ b,b∈i->b.up.ts.length<=1000/\b.up.ts.Pairwise (·<·)):SmS (anyM sc l i j loop).sK:=by
 refine⟨by simp[anyM];omega,fun s g=>?_,fun s g r t=>?_⟩
 .obtain ⟨k,_,rfl⟩:=qn.1 g
  rw[Ky];exact o
 .obtain ⟨k,_,rfl⟩:=qn.1 g
  grind [qlQ,zQ]
def defB(ts:TS)(sc:Sc):List Bd:=ts.sA.map fun f=>⟨⟨f.sS.length,[]⟩,⟨f.sS.length,yN sc f.sS⟩⟩
end GP
namespace Y10
open Y1 Y2 Y3 P1 Y6 Y7 YF Y9
section
variable {s:AV}{K:AV->Mu->Prop}{xs:List (List AV)}{mu:Mu}{sz:Nat}
abbrev rB(b:Bool):List AV:=[aB b]
theorem Qy(l:List Bool):zo 1 (l.map rB):=fun r g=>by
 obtain⟨n,_,rfl⟩:=qn.1 g;exact⟨rfl,rfl⟩
theorem OwnF.rdB{lo av}{xs:List Bool}(h:OwnF lo mu 1 av (xs.map rB)):Rd mu av (.lst false (xs.map rB)):=
 h.1.rd (Qy xs).ok fun r g c i=>by
  obtain⟨n,_,rfl⟩:=qn.1 g
  grind [HF.sc]
theorem Kz{lo mu' av}(h:OwnF lo mu sz av xs)(i:MuLe mu mu'):OwnF lo mu' sz av xs:=by
 obtain⟨j,l,o⟩:=h;have g:mu.length<=mu'.length:=by
  rcases Nat.eq_zero_or_pos mu.length with p|p
  .omega
  .have:=i (mu.length-1) mu[mu.length-1] (qA zOm)
   have:=(qk.1 this).1;omega
 refine⟨?_,l,zQ o g⟩;rcases j with rfl|⟨b,rfl,r⟩
 .exact .inl rfl
 .exact .inr ⟨b,rfl,i _ _ r⟩
theorem Ya(ts):∀ k,k<=ts.sT.length->(tmsL ts k).length=k
 | 0,_=>rfl
 |k+1,h=>by
  have g:k<ts.sT.length:=zOm;simp[tmsL,Ya ts k zOm,qA g]
theorem uj{ts}(h:okTS ts){k}(g:k<=ts.sT.length):okCk (mkCk ts k):=⟨h,g,Nat.le_of_eq (Ya ts k g).symm⟩
theorem qlS(ts)(h:okTS ts)(hs:∀ p,p∈ts.sT->Small p.body)(n)(hn:n<=ts.sT.length):qi qe 114 [eTS ts,aI n] (eCk (mkCk ts n)):=by
 refine qSQ call114 func114 rfl { mt:=[9] } ?_;have a8:=h.np;simp[go_sem];refine aK n (fun k T=>∃ t r,T.tm 1=aI n/\T.tm 2 = .ip (cTS ts)/\T.tm 5 = .ptr 0 0/\T.mu=[.arr [lSo ts.sS,lFl ts.sA,lPd ts.sT,lFa ts.sP,aI k,t]]++r/\OwnF 1 T.mu 1 t ((tmsL ts k).map rB)) ?_ ?_
 .refine ⟨.lst true [],[],zSi,zSi,zSi,zSi,?_⟩
  exact OwnF.nil zSi
 .rintro k T hk ⟨t,r,e1,e2,e5,hm,ho⟩
  have a3:Rd T.mu (.ptr 0 0) (eCk (mkCk ts k)):=by
   rw[hm];refine .ptr 0 0 _ _ rfl zSp (fun j x y l o=>?_);rw[<-hm]
   match j with
   | 0=>simp at l o;subst l;subst o;exact .hf _ (UJ _)
   | 1=>simp at l o;subst l;subst o;exact .hf _ (J5 _)
   | 2=>simp at l o;subst l;subst o;exact .hf _ (Zu _)
   | 3=>simp at l o;subst l;subst o;exact .hf _ (UI _)
   | 4=>simp at l o;subst l;subst o;exact .zsc _
   | 5=>simp at l o;subst l;subst o;exact OwnF.rdB ho
   |j+6=>simp at l
  by_cases a0:k<n
  .have I:k<ts.sT.length:=by omega
   simp[go_sem,e1,e5,hm,a0];refine cJ zKr ?_;have a1:OwnF 1 (T.mu++[.arr (cNd ts.sT[k].body)]) 1 t ((tmsL ts k).map rB):=Kz ho (MuLe.push _ _);have C:=Rd.le (MuLe.push T.mu (.arr (cNd ts.sT[k].body))) a3;have a4:=mC (mkCk ts k) (uj h zOm) _ ts.sT[k].body (qr _) (hs _ (qs I));have a5:tmsL ts (k+1)=tmsL ts k++[yH (mkCk ts k) ts.sT[k].body]:=by
    simp only[tmsL,qA I];rfl
   have hl:=Ya ts k zOm;rw[hm]at a1 C;simp[go_sem,e2,e5,I];refine cJ zKr ?_;simp[go_sem,e5,qjL];refine fY a4 ⟨zUs C,.hf _ (qK _),trivial⟩ (FL.sc _) ?_;simp[go_sem];refine qz.ownF (lo:=1) (e:=4) (sz:=1) (bt:=1) (zv:=aB false) (xs:=(tmsL ts k).map rB) (ys:=[rB (yH (mkCk ts k) ts.sT[k].body)]) zSi zSi zSi rfl rfl zOm zOm (zUs a1) (by simp[qE]) (Qy _) (Qy [_]) zSo ?_;intro a2 a9 R a6;obtain⟨U,rfl⟩:=qjR (a6 0 zOm);have w1:=zWk k;simp[go_sem,e5,a0,w1,OwnF.cells R,OwnF.one R];refine aA ?_;refine⟨a2,U,zS1 e1,zS1 e2,zS1 e5,zSi,?_⟩;have e3:(tmsL ts k).map rB++[rB (yH (mkCk ts k) ts.sT[k].body)]=(tmsL ts (k+1)).map rB:=by rw[a5,ze];rfl
   rw[<-e3];exact OwnF.low (low:=[.arr [lSo ts.sS,lFl ts.sA,lPd ts.sT,lFa ts.sP,aI k,t]]) (low':=[.arr [lSo ts.sS,lFl ts.sA,lPd ts.sT,lFa ts.sP,aI (k+1),a2]]) R rfl
  .obtain rfl:k=n:=by omega
   simp_all[go_sem]
theorem ofU'(full l)(j:l.length<=3)(o:∀ x,x∈l->0<=x/\x<128):qi qe 210 [.lst full (l.map rI)] (eKd (kOf l)):=by
 have:=ofU l j o;refine⟨this.1,fun g w p r t=>this.2 g w p r ?_⟩;obtain⟨v,rfl,C⟩:=t.one_inv;exact⟨rfl,fun k x i=>by
  cases k with
  |zero=>simp at i;subst i;simpa using C.ro
  |succ k=>simp at i⟩
theorem bindU(ns:Nat)(I:ns<=4)(env:List (tP×Int))(U:env.length<=1000000)(J:∀ p,p∈env->0<=p.2/\p.2<ns):qi qe 168 [lPm env] (aSc (zW env)):=by
 refine qSU call168 func168 rfl ?_;refine qm.up env.length (fun k T=>T.tm 3=aSc (zW (env.take k))/\T.tm 6=lPm env/\T.tm 7=aI env.length/\T.tm 8=aI k) ?_ ?_
 .simp [go_sem]
  rfl
 .rintro k T hk ⟨t,C,i,j⟩
  by_cases l:k=env.length
  .subst l
   simp[go_sem,t,i,j];exact .hf _ (Qr _)
  .have g:k<env.length:=by omega
   have P:zW (env.take (k+1))=(env[k].1,kOf [env[k].2]) :: zW (env.take k):=by
    unfold zW;rw[List.take_add_one,qA g,vM];rfl
   have o:=ofU' true [env[k].2] zSp (fun x hx=>by grind);have R:=zWk k;simp[go_sem,C,i,j,g];refine fM ?_;refine tS o (.zk (HF.lst fun r J c hc=>by grind [HF.sc]) .nil) ?_;simp[go_sem,t,C,i,j,g,R];rw[P];rfl
theorem wL(a b:tP):(a.toList == b.toList)=decide (a=b):=by
 grind [j0,decide_eq_false]
theorem appK{xs k}(j:OwnF 0 mu 2 s (xs.map cKd))(l:xs.length<=100000)(o:∀ av mu',OwnF 0 mu' 2 av ((xs++[k]).map cKd)->K av mu') :
  qz qe mu #[265,265] s (.lst true [cKd k]) K:=by
 refine qz.ownF (lo:=0) (e:=260) (sz:=2) (bt:=16) (zv := .agg [aI 0,.sc (.map none)]) (xs:=xs.map cKd) (ys:=[cKd k]) zSi zSi zSi rfl rfl zOm zOm j (by simp[qE]) (Zt _) (Zt [k]) zSo ?_
 grind
theorem qaM{xs k b c}(j:Own mu 2 s (xs.map cKd))(l:mu[b]?=some c)(o:∀ off len,s ≠ .sl b 2 off len)(I:xs.length<=100000)
  (g:∀ av mu',Own mu' 2 av ((xs++[k]).map cKd)->mu'[b]?=some c->(∀ off len,av ≠ .sl b 2 off len)->K av mu') :
  qz qe mu #[265,265] s (.lst true [cKd k]) K:=by
 have p:b<mu.length:=(qk.1 l).1;have r:=yQ (Zt xs).ok;refine .inl ⟨_,_,260,2,16,[cKd k],rfl,zSi,zSi,⟨.agg [aI 0,.sc (.map none)],zSi,rfl,rfl⟩,zOm,zOm,by simp[qE],Zt [k],?_⟩;rcases j with rfl|⟨i,rfl,t⟩
 .refine .inl ⟨xs.map cKd,rfl,Zt xs,zSo,fun h=>by simp at h,fun _=>?_⟩
  refine g _ _ (.inr ⟨mu.length,zSp,zSp⟩) (by grind) (fun off len e=>?_)
  grind
 .refine .inr ⟨i,xs.length,_,zSp,t,by grind,zSo,?_⟩
  have C:i≠b:=fun e=>o 0 _ (by rw[e])
  refine g _ _ (.inr ⟨mu.length,zSp,?_⟩) (by grind) (fun off len e=>?_)
  .grind
  grind
theorem Ve(h:Own mu sz s xs)(c):Own (mu++[c]) sz s xs:=by
 rcases h with rfl|⟨b,rfl,g⟩
 .exact .inl rfl
 .exact .inr ⟨b,rfl,by grind⟩
theorem qlT(h:Own mu sz s xs):∀ off len,s ≠ .sl mu.length sz off len:=by
 intro off len e;rcases h with rfl|⟨b,rfl,g⟩
 .cases e
 grind
theorem qlU{fs:List Fld}{k}(g nm):yS (fs.take (k+1)) nm=yS (fs.take k) nm++(if fs[k].name=nm then [kOf fs[k].sS] else []):=by
 unfold yS;rw[List.take_add_one,qA g,List.filterMap_append];congr 1;simp only[Option.toList_some,List.filterMap_cons,List.filterMap_nil];split<;>rename_i h<;>split at h<;>simp_all
theorem qaN(fs nm):(yS fs nm).length<=fs.length:=List.length_filterMap_le ..
theorem qaO:∀{so:List (tP×Bool)}{i k}(g nm),yT i (so.take (k+1)) nm=yT i (so.take k) nm++uy (i+k) so[k] nm
 | [],_,_,h,_=>by simp at h
 |s :: so,i,0,_,nm=>by simp[yT]
 |s :: so,i,k+1,h,nm=>by
  have:=qaO (so:=so) (i:=i+1) (k:=k) (zUs h) nm;simp only[List.take_succ_cons,yT,List.getElem_cons_succ]at this⊢;rw[this,zB,show i+1+k=i+(k+1) by omega]
theorem qlV(i s nm):(uy i s nm).length<=3:=by
 grind [uy,zd,kOf,jj,vj]
theorem qaP:∀ so i nm,(yT i so nm).length<=3*so.length
 | [],_,_=>by simp[yT]
 |s :: so,i,nm=>by
  have:=qaP so (i+1) nm;have:=qlV i s nm;simp only[yT,zd,zG];omega
theorem KA(ts)(h:okTS ts)(nm):qi qe 169 [eTS ts,aS nm] (.lst false ((means ts nm).map cKd)):=by
  refine qSV call169 func169 rfl ?_;have ar:=h.nf;have au:=h.ns;simp[go_sem];refine aK ts.sA.length (fun k T=>T.tm 1=aS nm/\T.tm 2 = .ip (cTS ts)/\T.tm 11=lFl ts.sA/\T.tm 12=aI ts.sA.length/\T.tm 13=aI k/\OwnF 0 T.mu 2 (T.tm 5) ((yS (ts.sA.take k) nm).map cKd)) ?_ ?_
  · exact⟨zSi,zSi,zSi,zSi,zSi,by simp[go_sem];exact OwnF.nil (Nat.zero_le _)⟩
  · rintro k T hk ⟨I,e2,P,p,R,U⟩
    by_cases he:k=ts.sA.length
    · subst he
      rw[qO]at U;simp[go_sem,e2,p,R];have a5:=qaN ts.sA nm;refine aK ts.sS.length (fun k T=>T.tm 1=aS nm/\T.tm 29=lSo ts.sS/\T.tm 30=aI ts.sS.length/\T.tm 31=aI k/\Own T.mu 2 (T.tm 5) ((yS ts.sA nm++yT 0 (ts.sS.take k) nm).map cKd)) ?_ ?_
      · exact⟨zS1 I,zSi,zSi,zSi,by simp[go_sem,yT];simpa using U.1⟩
      · rintro k T hk ⟨I,a6,a2,a0,U⟩
        by_cases he:k=ts.sS.length
        · subst he
          rw[qO]at U;simp[go_sem,a2,a0];exact U.rd (Zt _).ok (fun r hr c hc=>by
            obtain⟨x,_,rfl⟩:=qn.1 hr;simp at hc;rcases hc with rfl|rfl
            · exact HF.sc _
            · exact J0 _)
        · have g:k<ts.sS.length:=by omega
          have w1:=zWk k;have aw:=qaP (ts.sS.take k) 0 nm;have ax:(ts.sS.take k).length<=4:=zSo;have a7:=ofU' true [(k:Int)] zSp (fun x hx=>by grind);have a8:=ofU' true [(k:Int),(k:Int)] zSp (fun x hx=>by grind);have ag:HF (.lst true [rI k]):=HF.lst fun r hr c hc=>by grind [HF.sc]
          have ah:HF (.lst true [rI k,rI k]):=HF.lst fun r hr c hc=>by grind [HF.sc]
          have a1:=qaO (i:=0) g nm;rw[yj]at a1;have ay:=h.sl _ (qs g);generalize ai:ts.sS[k]=so at *
          obtain⟨o,sb⟩:=so;have az:(yS ts.sA nm++yT 0 (ts.sS.take k) nm).length<=18:=by grind
          have b0:∀ x:Kd,((yS ts.sA nm++yT 0 (ts.sS.take k) nm)++[x]).length<=19:=fun x=>by grind
          have b1:∀ x y:Kd,(((yS ts.sA nm++yT 0 (ts.sS.take k) nm)++[x])++[y]).length<=20:=fun x y=>by grind
          generalize hX:yS ts.sA nm++yT 0 (ts.sS.take k) nm=X at *
          have l:∀(s:AV)(C:Mu)(Y:List Kd),Y=X++uy k (o,sb) nm->Own C 2 s (Y.map cKd)->Own C 2 s ((yS ts.sA nm++yT 0 (ts.sS.take (k+1)) nm).map cKd):=by
            grind
          have b2:∀ b:tP,o++jj=b->(o++jj).toList == b.toList:=fun b h=>by rw[h];simp
          have a3:=fun c=>Ve U c
          have aq:=qlT U;have aj:(o++jj=nm)=(o++(⟨#[95,102,105,114,115,116]⟩:tP)=nm):=rfl;have ak:(o++vj=nm)=(o++(⟨#[95,110,101,120,116]⟩:tP)=nm):=rfl;simp only[uy,aj,ak]at l;have a9:o.size<=9223372036854775801:=by grind
          have aa:o.size<=9223372036854775802:=zOm;simp only[ze]at l;obtain⟨d1,al⟩:∃ d,decide (o=nm)=d:=⟨_,rfl⟩;obtain⟨d2,ab⟩:∃ d,decide (o++(⟨#[95,102,105,114,115,116]⟩:tP)=nm)=d:=⟨_,rfl⟩;obtain⟨d3,ad⟩:∃ d,decide (o++(⟨#[95,110,101,120,116]⟩:tP)=nm)=d:=⟨_,rfl⟩;have p1:(o=nm)=(d1=true):=by grind
          have p2:(o++(⟨#[95,102,105,114,115,116]⟩:tP)=nm)=(d2=true):=by grind
          have p3:(o++(⟨#[95,110,101,120,116]⟩:tP)=nm)=(d3=true):=by grind
          simp only[p1,p2,p3]at l;cases d1<;>cases d2<;>cases d3<;>cases sb
          all_goals simp only[if_true,if_false,zO,vw,and_false,and_true,reduceCtorEq]at l
          all_goals simp[go_sem,wL,I,a6,a2,a0,g,ai,al,ab,ad,w1,a9,aa]
          all_goals repeat' (first
            | (refine tS a7 (.zk ag .nil) ?_
               simp[go_sem];refine qaM (b:=T.mu.length) (by first|exact a3 _|assumption) (by first|assumption|exact List.getElem?_concat_length) (by assumption) (by first | (simp only[zd,List.length_singleton];omega)|omega) ?_;rintro t j a4 ae an;simp[go_sem,wL,I,a0,g,ab,ad,w1,a9,aa,ae])
            | (refine tS a8 (.zk ah .nil) ?_
               simp[go_sem];refine qaM (b:=T.mu.length) (by first|exact a3 _|assumption) (by first|assumption|exact List.getElem?_concat_length) (by assumption) (by first | (simp only[zd,List.length_singleton];omega)|omega) ?_;rintro t j a4 ae an;simp[go_sem,a0,g,w1]))
          all_goals
            refine aA ?_;refine⟨zS1 I,zS1 a6,zS1 a2,zSi,?_⟩;simp only[nQ,qC];simp;refine l _ _ _ ?_ (by first|assumption|exact a3 _);simp
    · have g:k<ts.sA.length:=by omega
      have af:=h.fl _ (qs g);have w1:=zWk k;have ao:=ofU' false ts.sA[k].sS af.2.1 (fun x hx=>zW1 (af.2.2 x hx));have a1:=qlU g nm;have a5:=qaN (ts.sA.take k) nm;by_cases hn:ts.sA[k].name=nm
      · simp[go_sem,I,P,p,R,g,hn]
        refine fR ao (.zk (zh _) .nil) ?_;refine appK (xs:=yS (ts.sA.take k) nm) (Kz U (MuLe.push _ _)) (by simp at a5⊢;omega) ?_;intro t j a4;simp[go_sem,R,g,w1];refine aA ?_;refine⟨zS1 I,zS1 e2,zS1 P,zS1 p,zSi,?_⟩;rw[a1,if_pos hn];simpa[go_sem] using a4
      · simp[go_sem,I,P,p,R,g,j0 hn,w1]
        refine aA ?_;refine⟨zS1 I,zS1 e2,zS1 P,zS1 p,zSi,?_⟩;rw[a1,if_neg hn,zO];simpa[go_sem] using Kz U (MuLe.push _ _)
end
end Y10
namespace Y11
open Y1 Y2 Y3 P1 Y7 YS YF Y9 Y10
def cKo:Option Kd->List AV
 |some k=>cKd k
 |none=>[aI 0,.sc (.map none)]
@[go_sem] theorem cKo_some(k):cKo (some k)=cKd k:=rfl
@[go_sem] theorem cKo_none:cKo none=[aI 0,.sc (.map none)]:=rfl
theorem qaQ(k):∀ c,c∈cKo k->HF c:=by
 intro c g;cases k with
 |none=>simp[cKo]at g;rcases g with rfl|rfl<;>exact HF.sc _
 |some k=>simp[cKo]at g;rcases g with rfl|rfl;exact HF.sc _;exact J0 _
theorem qlW(k):HF (.agg (cKo k)):=HF.agg (qaQ k)
theorem KB(k):(cKo k).length=2/\(cKo k).all AV.one=true:=by cases k<;>exact⟨rfl,rfl⟩
def endK:Res->AEnd
 | .ok k => .ret (.agg (cKo k))
 | .error e => .pan (jZ e.1 e.2)
@[go_sem] theorem endK_ok(k):endK (.ok k) = .ret (.agg (cKo k)):=rfl
@[go_sem] theorem qw9(e):endK (.error e) = .pan (jZ e.1 e.2):=rfl
theorem KC(c)(g:okCk c)(s:Scp)(n):qZ qe 207 [eCk c,aSc s,eNd n] (endK (jD c s n.name n.pos)):=by
 refine zl.of_sound ?_;refine qSW call207 func207 rfl {} ?_;simp[go_sem];refine tS (findU s n.name) (.zk (Qr s) (.zs .nil)) ?_;unfold jD;cases hf:jx n.name s with
 |cons v r =>
  simp[go_sem,aSc];exact .hf _ (ye v.2)
 |nil =>
  simp[go_sem,aSc];refine fM ?_;refine tS (KA c.ts g.ts n.name) (.zk (zp c.ts) (.zs .nil)) ?_;have i:=zU;cases j:means c.ts n.name with
  |nil =>
   simp[go_sem];refine kL (zU false 40 n) (.zs (.zs (.zk (qK n) .nil))) ?_;simp[go_sem];exact .hf _ (yL _ _)
  |cons k ks =>
   simp[go_sem];refine tS (zU true 40 n).toP (.zs (.zs (.zk (qK n) .nil))) ?_;cases ks with
   |nil =>
    simp[go_sem];refine fR (zU true 44 n).toP (.zs (.zs (.zk (qK n) .nil))) ?_;exact .hf _ (ye k)
   |cons l ks =>
    simp[go_sem];refine kL (zU false 44 n) (.zs (.zs (.zk (qK n) .nil))) ?_;simp[go_sem];exact .hf _ (yL _ _)
theorem qlX(k g)(C:1<=g)(T:g<=3):kSum (zH k g) (kOf (q9 g (k:Int)))=zH (k+1) g:=by
 have o:∀ k,((qu k).map fun (i:Nat)=>pad (q9 g (i:Int))).Nodup:=by
  intro k;refine List.pairwise_map.2 ((List.pairwise_iff_getElem.2 fun i j U hj I=>?_));simp only[List.getElem_range];obtain⟨a,rfl⟩:∃ a,g=a+1:=⟨g-1,zOm⟩;intro e;simp[pad,List.replicate_succ]at e;omega
 have J:∀ l:List Tp,l.Nodup->uni [] l=l:=by
  intro l P;have:∀(b a:List Tp),(a++b).Nodup->uni a b=a++b:=by
   intro b;induction b with
   |nil=>intro a _;simp[uni]
   |cons x b R =>
    intro a h;have p:x ∉ a:=fun r=>(ZL.1 h).2.2 x r x zSp rfl
    show uni (ins a x) b=_;rw[show ins a x=a++[x] by unfold ins;rw[if_neg p],R (a++[x]) (zUs h)];simp
  simpa using this l [] (zUs P)
 unfold kSum zH kOf;simp only;rw[J _ (o k)];have t:=o (k+1);rw[List.range_succ,ze,List.map_singleton]at t⊢;have p:pad (q9 g (k:Int)) ∉ (qu k).map fun (i:Nat)=>pad (q9 g (i:Int)):=fun r=>(ZL.1 t).2.2 _ r _ zSp rfl
 congr 1;show ins _ _=_;unfold ins;rw[if_neg p]
theorem KD(c)(I:okCk c)(g:Nat)(h1:1<=g)(h3:g<=3):qi qe 233 [eCk c,aI g] (eKd (zH c.ts.sS.length g)):=by
 refine qSV call233 func233 rfl ?_;have a0:=I.ts.ns;simp[go_sem];refine fR (nZ g) (.zs .nil) ?_;refine qm.up c.ts.sS.length (fun k T=>T.tm 1=aI g/\T.tm 4 = .ptr 0 0/\T.tm 5 = .ptr 1 0/\T.tm 13=lSo c.ts.sS/\T.tm 14=aI c.ts.sS.length/\T.tm 15=aI k/\T.mu=[.arr [aI 0,.sc (.map none)],.arr (cKd (zH k g))]) ?_ ?_
 .simp [go_sem,zH]
 .rintro k T hk ⟨e1,e4,P,R,l,o,hm⟩
  by_cases he:k=c.ts.sS.length
  .subst he
   simp[go_sem,e4,P,l,o,hm];exact .hf _ (ye _)
  .have p:k<c.ts.sS.length:=by omega
   have w1:=zWk k;have J:=qj5 k g zOm;have U:=ofU' false (q9 g (k:Int)) (zUs h3) (fun x hx=>by rw[List.eq_of_mem_replicate hx];omega);have C:=sumU true (zH k g) (kOf (q9 g (k:Int))) (fun t j=>by
    have j:t∈(qu k).map fun (i:Nat)=>pad (q9 g (i:Int)):=j
    obtain⟨i,_,rfl⟩:=qn.1 j;rfl) (fun t j=>by
    have j:t∈[pad (q9 g (k:Int))]:=j;simp at j;subst j;rfl)
   rw[qlX k g h1 h3]at C;simp[go_sem,l,o,hm,p];refine cJ zKr ?_;simp[go_sem,e1,P];refine fR J (.cons (WK.lst fun r J c I=>by simp at J;subst J;simp at I;subst I;exact HF.sc _) (.zs .nil)) ?_;refine fR U (.zk (zh _) .nil) ?_;refine tS C (.zk (ye _) (.zk (J3 _ [_]) .nil)) ?_;simp[go_sem,e1,e4,P,R,l,o,p,w1]
end Y11
namespace Y12
open Y1 Y2 Y3 P1 YM Y5 Y6 Y7 Y8 Y9 Y11
def trF(t:Tp):Tp:=[t.getD 1 0,t.getD 0 0,0]
theorem UY{a:List Tp}{t}:t∈uni [] (a.map fun t=>[t.getD 1 0,t.getD 0 0,0])↔∃ x,x∈a/\trF x=t:=by
 rw[ug];simp[trF]
theorem qlY(ns)(h:ns<=4):ok2 (zH ns 2):=by
 have g:((qu ns).map fun (i:Nat)=>pad (q9 2 (i:Int))).Nodup:=by
  refine List.pairwise_map.2 (List.pairwise_iff_getElem.2 fun i j o r p=>?_);simp only[List.getElem_range];intro e;simp[pad,List.replicate_succ]at e;omega
 refine⟨rfl,g,fun t l=>?_⟩;have l:t∈(qu ns).map fun (i:Nat)=>pad (q9 2 (i:Int)):=l
 obtain⟨i,o,rfl⟩:=qn.1 l;rw[yi]at o;exact⟨i,i,rfl,zOm,zOm,zOm,zOm⟩
theorem qlZ{a}(h:ok2 a):ok2 (kClo a):=by
 have:∀(f n:Nat)(a:Kd),ok2 a->ok2 (cloN f n a):=by
  intro f;induction f with
  |zero=>intro n a h;exact h
  |succ f g =>
   intro n a h;unfold cloN;split
   .exact g _ _ (h.sum h.join)
   .exact h
 exact this 70 0 a h
theorem ql0(c)(hc:okCk c)(op a)(R:ok2 a)(a0:op=11\/op=12\/op=13):qi qe 237 [eCk c,aI op,eKd a] (eKd (binK c.ts.sS.length op a)):=by
 refine qSV call237 func237 rfl ?_;have C:=hc.ts.ns;unfold binK;rcases a0 with rfl|rfl|rfl
 .simp [go_sem]
  refine fZ (J1 _ _) ?_ (by rintro r m ⟨e,_⟩;cases e);rintro r m ⟨e,c,rfl⟩;cases e;simp[go_sem];refine qm.seen a.ts.length (fun seen T=>T.tm 5 = .ip (cKd a)/\T.tm 6 = .ptr 0 0/\T.tm 7 = .ptr 3 0/\T.tm 25 = .ptr 4 0 /\
   ColS 2 (.arr [aI 0,.sc (.map none)]) c (.it (eT a.ts) seen) (fun t=>∃ x,(∃ i,i∈seen/\a.ts[i]?=some x)/\trF x=t) T.mu) ?_ ?_
  .exact ⟨zSi,zSi,zSi,zSi,[],rfl,rfl,rfl,rfl,rfl,zSp,zSp,zSp⟩
  .rintro seen T a5 a6 ⟨e5,e6,e7,I,l,k0,k1,k2,k3,k4,h1,h2,h3⟩
   simp[go_sem,I];refine⟨4,eT a.ts,seen,rfl,k4,fun i e hi C=>?_,fun p=>?_⟩
   .obtain ⟨x,hx,rfl⟩:=Z3 hi
    have a1:okT x:=R.okK.len x (zb hx);have a2:i<a.ts.length:=(qk.1 hx).1;have a3:x.length=3:=a1;have o:4<T.mu.length:=(qk.1 k4).1;have g:∀(c:Cell)(l:List Cell)(j:Nat),j<4->((T.mu.set 4 c)++l)[j]?=T.mu[j]?:=fun c l j hj=>by
     rw[qN zSo,zGl]
    have q2:=fun c l=>(g c l 2 zOm).trans k2
    have q3:=fun c l=>(g c l 3 zOm).trans k3
    obtain⟨J,P,U,rfl⟩:∃ J P U,x=[J,P,U]:=by
     match x,a3 with
     | [J,P,U],_=>exact⟨_,_,_,rfl⟩
    simp[go_sem,e7,I,hi,o,q3];refine pN _ (updT (t:=[P,J,0]) (q2 _ _) rfl h2) ?_;simp[go_sem];refine⟨i,a2,C,zS1 e5,zS1 e6,zS1 e7,zS1 I,ins l [P,J,0],?_,?_,?_,?_,?_,YK h1,fun t ht=>?_,fun t=>?_⟩
    .simp only[qC]
     rw[zGl,g _ _ 0 zOm,k0]
    .simp only[qC]
     rw[zGl,g _ _ 1 zOm,k1]
    .simp only[qC]
     rw[qL zSo]
    .simp only[qC]
     rw[zGl,g _ _ 3 zOm,k3]
    .simp only[qC]
     rw[zGl,qN (zUs o),qL o]
    .rcases uW.1 ht with h|rfl
     .exact h2 t h
     .rfl
    .simp only[uW,h3,XX hx]
     constructor
     .rintro (⟨y,h,e⟩|rfl)
      .exact ⟨y,.inl h,e⟩
      .exact ⟨[J,P,U],.inr rfl,rfl⟩
     .rintro ⟨y,h|rfl,e⟩
      .exact .inl ⟨y,h,e⟩
      .exact .inr e.symm
   .obtain ⟨a4,hm⟩:=four k0 k1 k2 k3
    simp[go_sem,e6,e7,hm];refine Rd.aggs ⟨.hf _ (HF.sc _),Rd.setT (k:=(kTr a).ts) rfl h1 (wD zSp) (fun t=>?_),trivial⟩;refine(h3 t).trans (Iff.trans ?_ UY.symm);constructor
    .rintro ⟨y,h,e⟩;exact⟨y,(XY (zUs p)).1 h,e⟩
    .rintro ⟨y,h,e⟩;exact⟨y,(XY (zUs p)).2 h,e⟩
 .simp [go_sem]
  refine fR (UF a R) (.zk (ye _) .nil) ?_;exact .hf _ (ye _)
 .simp [go_sem]
  refine fR (UF a R) (.zk (ye _) .nil) ?_;refine fR (KD c hc 2 zOm zOm) (.zk (jF _) (.zs .nil)) ?_;refine fR (sumU true (kClo a) (zH c.ts.sS.length 2) (qlZ R).okK.len (qlY _ C).okK.len) (.zk (ye _) (.zk (J3 _ [_]) .nil)) ?_;exact .hf _ (ye _)
theorem hfK2(n)(ts:List Tp):HF (.agg [aI n,mKd ts]):=ye ⟨n,ts⟩
theorem hfKn:HF (.agg [aI 0,.sc (.map none)]):=qlW none
theorem wkR(n b e):WKs [aB b,aI e,eNd n] [aB b,aI e,eNd n] := .zs (.zs (.zk (qK n) .nil))
structure ApOk (op:Int) (l:List (Option Kd)):Prop where
 one:op=5->∃ a,l=[a]
 bin:op=11\/op=12\/op=13->∃ a,l=[some a]/\okK a/\(a.ar=2->ok2 a)
 two:op=6\/op=14\/op=7\/op=8\/op=32\/op=33\/op=9\/op=10->∃ a b,l=[some a,some b]/\okK a/\okK b
theorem UZ{ns op n pos l}(i:op≠2)(j:op≠3)(o:op≠4)(p:op≠5)(r:op≠11)(t:op≠12)(C:op≠13)(t1:op≠6)(t2:op≠14)(t3:op≠7)(t4:op≠8)(t5:op≠32)(t6:op≠33)(I:op≠9)(g:op≠10):yq ns op n pos l = .ok none:=by
 unfold yq;rw[if_neg i,if_neg j,if_neg o];split
 .simp only[p,r,t,C,or_self,if_false]
  split<;>rfl
 .simp only[t1,t2,t3,t4,t5,t6,I,g,or_self,if_false]
 .rfl
theorem ql1(c)(hc:okCk c)(full n l)(P:ApOk n.op l):qZ qe 209 [eCk c,eNd n,.lst full (l.map cKo)] (endK (yq c.ts.sS.length n.op n.n n.pos l)):=by
 refine zl.of_sound ?_;refine qSW call209 func209 rfl {} ?_;by_cases ho:n.op=2\/n.op=3\/n.op=4\/n.op=5\/n.op=11\/n.op=12\/n.op=13\/n.op=6\/n.op=14\/n.op=7\/n.op=8\/n.op=32\/n.op=33\/n.op=9\/n.op=10
 case neg =>
  simp only[not_or]at ho;obtain⟨T,U,h4,C,b1,b2,b3,t1,t2,t3,t4,t5,t6,h9,p⟩:=ho;rw[UZ T U h4 C b1 b2 b3 t1 t2 t3 t4 t5 t6 h9 p];simp[go_sem,T,U,h4,C,b1,b2,b3,t1,t2,t3,t4,t5,t6,h9,p];exact .hf _ hfKn
 unfold yq;by_cases T:n.op=2
 .simp [go_sem,T]
  refine fR (nZ n.n) (.zs .nil) ?_;exact .hf _ (hfK2 _ _)
 by_cases U:n.op=3
 .simp [go_sem,U]
  refine fR (KD c hc 1 zOm zOm) (.zk (jF _) (.zs .nil)) ?_;exact .hf _ (ye _)
 by_cases h4:n.op=4
 .simp [go_sem,h4]
  refine fR (KD c hc 2 zOm zOm) (.zk (jF _) (.zs .nil)) ?_;exact .hf _ (ye _)
 by_cases C:n.op=5
 .obtain ⟨a,rfl⟩:=P.one C
  cases a with
  |none=>simp[go_sem,C];exact .hf _ hfKn
  |some a=>simp[go_sem,C];exact .hf _ (hfK2 _ _)
 by_cases I:n.op=11\/n.op=12\/n.op=13
 .obtain ⟨a,rfl,o,a0⟩:=P.bin I
  have r:=fun h=>ql0 c hc n.op a (a0 h) I
  by_cases i:a.ar=2
  .have r:=r i
   rcases I with h|h|h<;>rw[h]at r
   all_goals
    simp[go_sem,h,i];refine cJ zKr ?_;simp[go_sem,i];refine fR (zU true 42 n).toP (wkR n true 42) ?_;refine cJ zKr ?_;simp[go_sem,h];refine fR r (.zk (jF _) (.zs (.zk (ye _) .nil))) ?_;exact .hf _ (ye _)
  .rcases I with h|h|h
   all_goals
    simp[go_sem,h,i];refine qj.tail 6 zKr ?_;simp[go_sem,i];refine kL (zU false 42 n) (wkR n false 42) ?_;simp[go_sem];exact .hf _ (yL _ _)
 by_cases ht:n.op=6\/n.op=14\/n.op=7\/n.op=8\/n.op=32\/n.op=33
 .obtain ⟨a,b,rfl,o,g⟩:=P.two zOm
  have R:=qjY n.op a b o g;simp only[not_or]at I;by_cases i:a.ar=b.ar
  .rcases ht with h|h|h|h|h|h<;>rw[h]at R
   all_goals
    simp[go_sem,h,i];refine cJ zKr ?_;simp[go_sem,i];refine fR (zU true 42 n).toP (wkR n true 42) ?_;refine cJ zKr ?_;simp[go_sem,h];refine fR R (.zs (.zk (ye _) (.zk (ye _) .nil))) ?_;exact .hf _ (ye _)
  .rcases ht with h|h|h|h|h|h
   all_goals
    simp[go_sem,h,i];refine qj.tail 10 zKr ?_;simp[go_sem,i];refine kL (zU false 42 n) (wkR n false 42) ?_;simp[go_sem];exact .hf _ (yL _ _)
 simp only[not_or]at I ht;by_cases h9:n.op=9
 .obtain ⟨a,b,rfl,o,g⟩:=P.two zOm
  have hj:=wG a b o g;have J:qq.wrap (a.ar+b.ar)=a.ar+b.ar:=z8 (zW2 o.ar g.ar) (zW2 o.ar g.ar);have w2:qq.wrap (a.ar+b.ar-2)=a.ar+b.ar-2:=z8 (zW2 o.ar g.ar) (zW2 o.ar g.ar);simp[go_sem,h9];refine cJ zKr ?_;by_cases t:1<=a.ar+b.ar-2
  .by_cases j:a.ar+b.ar-2<=3
   .simp [go_sem,J,w2,t,j]
    refine fR (zU true 42 n).toP (wkR n true 42) ?_;refine fM ?_;refine fR hj (.zk (ye _) (.zk (ye _) .nil)) ?_;exact .hf _ (ye _)
   .simp [go_sem,J,w2,t,j]
    refine kL (zU false 42 n) (wkR n false 42) ?_;simp[go_sem];exact .hf _ (yL _ _)
  .simp [go_sem,J,w2,t]
   refine kL (zU false 42 n) (wkR n false 42) ?_;simp[go_sem];exact .hf _ (yL _ _)
 by_cases p:n.op=10
 .obtain ⟨a,b,rfl,o,g⟩:=P.two zOm
  have J:qq.wrap (a.ar+b.ar)=a.ar+b.ar:=z8 (zW2 o.ar g.ar) (zW2 o.ar g.ar);by_cases j:a.ar+b.ar<=3
  .have hj:=XW a b o g j
   simp[go_sem,p];refine cJ zKr ?_;simp[go_sem,J,j];refine fR (zU true 42 n).toP (wkR n true 42) ?_;refine fM ?_;refine fR hj (.zk (ye _) (.zk (ye _) .nil)) ?_;exact .hf _ (ye _)
  .simp [go_sem,p]
   refine qj.tail 11 zKr ?_;simp[go_sem,J,j];refine kL (zU false 42 n) (wkR n false 42) ?_;simp[go_sem];exact .hf _ (yL _ _)
 exact absurd ho zOm
end Y12
namespace P2
open Y1 Y2 Y3 P1 Y6 Y8 Y9 Y12
section
variable {a b k:Kd}{l:List Int}{ns:Nat}
def kd(op:Int):Int:=if 1<=op/\op<=15 then 101 else if 20<=op/\op<=23 then 105 else if 30<=op/\op<=51 then 102 else 0
def shp(op:Int)(nk:Nat):Option (List Int):=
 if op=1\/op=2\/op=3\/op=4\/op=20\/op=30\/op=31 then some []
 else if op=5\/op=11\/op=12\/op=13\/op=21\/op=34\/op=35\/op=36\/op=37 then some [101]
 else if op=6\/op=7\/op=8\/op=9\/op=10\/op=14\/op=32\/op=33 then some [101,101]
 else if op=15\/op=45\/op=46 then some [101,102]
 else if op=22\/op=23\/op=38\/op=39 then some [105,105]
 else if op=40\/op=48\/op=49\/op=50 then some [102]
 else if op=41\/op=42\/op=43\/op=44\/op=51 then some [102,102]
 else if op=47 then some (q9 (min nk 401) 101)
 else none
inductive WfN:Nd->Prop where
 |mk (n:Nd) (h:shp n.op n.sD.length=some (n.sD.map fun k=>kd k.op)) (hn:n.op=2->1<=n.n/\n.n<=3) (hk:∀ k,k∈n.sD->WfN k):WfN n
theorem WfN.shape{n}(h:WfN n):shp n.op n.sD.length=some (n.sD.map fun k=>kd k.op):=by cases h;assumption
theorem WfN.num{n}(h:WfN n):n.op=2->1<=n.n/\n.n<=3:=by cases h;assumption
theorem WfN.kid{n k}(h:WfN n)(g:k∈n.sD):WfN k:=by
 cases h with
 |mk _ _ _ h=>exact h k g
theorem qaR{op nk}(h:shp op nk=some l):l.length<=401:=by
 grind [shp]
theorem WfN.len{n}(h:WfN n):n.sD.length<=401:=by
 have:=qaR h.shape;simpa using this
theorem WfN.small{n}(h:WfN n):Small n:=by
 induction h with
 |mk n g j l i=>exact .mk n (by have:=qaR g;simp at this;omega) i
structure okKd (ns:Nat) (k:Kd):Prop where
 ar:1<=k.ar/\k.ar<=3
 nd:k.ts.Nodup
 ts:∀ t,t∈k.ts->∃ l,t=pad l/\(l.length:Int)=k.ar/\∀ x,x∈l->0<=x/\x<ns
theorem okKd.okK(h:okKd ns k):okK k:=⟨h.ar,fun t g=>by obtain⟨l,rfl,_⟩:=h.ts t g;rfl,h.nd⟩
theorem okKd.ok2(h:okKd ns k)(o:ns<=4)(g:k.ar=2):ok2 k:=⟨g,h.nd,fun t p=>by
 obtain⟨l,rfl,i,j⟩:=h.ts t p;rw[g]at i
 match l,i with
 | [x,y],_ =>
  have r:=j x zSp;have g:=j y zSp;exact⟨x,y,rfl,zOm,zOm,zOm,zOm⟩⟩
theorem aH(i:k.ar=2)(g:k.ts.Nodup)(h:∀ t,t∈k.ts->∃ x y,t=[x,y,0]/\0<=x/\x<ns/\0<=y/\y<ns):okKd ns k:=⟨zOm,g,fun t j=>by
 obtain⟨x,y,rfl,o,p,r,C⟩:=h t j;exact⟨[x,y],rfl,by rw[i];rfl,fun z l=>by simp at l;omega⟩⟩
theorem okKd.pairs(h:okKd ns k)(g:k.ar=2):∀ t,t∈k.ts->∃ x y,t=[x,y,0]/\0<=x/\x<ns/\0<=y/\y<ns:=fun t p=>by
 obtain⟨l,rfl,i,j⟩:=h.ts t p;rw[g]at i
 match l,i with
 | [x,y],_ =>
  have o:=j x zSp;have g:=j y zSp;exact⟨x,y,rfl,o.1,o.2,g.1,g.2⟩
theorem KE(j:1<=l.length)(o:l.length<=3)(i:∀ x,x∈l->0<=x/\x<ns):okKd ns (kOf l):=
 ⟨by grind [kOf],by simp[kOf],fun t g=>by
  have g:t∈[pad l]:=g;rw[qV]at g;exact⟨l,g,rfl,i⟩⟩
theorem ql2{n}(h:1<=n/\n<=3):okKd ns ⟨n,[]⟩:=⟨h,zSp,fun t g=>by simp at g⟩
theorem KF(ns g)(C:1<=g)(I:g<=3):okKd ns (zH ns g):=by
 refine⟨by grind [zH],?_,fun t l=>?_⟩
 .refine List.pairwise_map.2 ((List.pairwise_iff_getElem.2 fun i j o J p=>?_))
  simp only[List.getElem_range];obtain⟨a,rfl⟩:∃ a,g=a+1:=⟨g-1,zOm⟩
  grind [pad]
 .have l:t∈(qu ns).map fun (i:Nat)=>pad (q9 g (i:Int)):=l
  obtain⟨i,o,rfl⟩:=qn.1 l;rw[yi]at o;exact⟨_,rfl,by simp[zH],fun x r=>by rw[List.eq_of_mem_replicate r];omega⟩
theorem Vf(i:okKd ns a)(j:okKd ns b)(h:a.ar=b.ar):okKd ns (kSum a b):=by
 refine⟨i.ar,wD (wD zSp),fun t g=>?_⟩;have g:t∈uni (uni [] a.ts) b.ts:=g;simp only[ug,qG,false_or]at g;rcases g with g|g
 .exact i.ts t g
 .obtain ⟨l,e,o,p⟩:=j.ts t g
  exact⟨l,e,by rw[o,<-h];rfl,p⟩
theorem ql3(g:okKd ns a):okKd ns (YN a b):=
 ⟨g.ar,g.nd.filter _,fun t i=>g.ts t (jH.1 i).1⟩
theorem ql4{op}(g:okKd ns a)(i:okKd ns b)(h:a.ar=b.ar):okKd ns (uz op a b):=by
 grind [uz,Vf,ql3]
theorem Yb(h:l.length<=3)(k)(g:k<=l.length):(pad l).take k=l.take k:=by
 match l,h with
 | [],_=>grind
 | [a],_=>match k,g with
  | 0,_=>rfl
  | 1,_=>rfl
 | [a,b],_=>match k,g with
  | 0,_=>rfl
  | 1,_=>rfl
  | 2,_=>rfl
 | [a,b,c],_=>match k,g with
  | 0,_=>rfl
  | 1,_=>rfl
  | 2,_=>rfl
  | 3,_=>rfl
theorem Vg{g i}(j:g.length<=3)(l:i.length<=3)(s):conc (pad g) g.length (pad i) i.length s=pad (g.take (g.length-s)++i.drop s):=by
 simp_all[conc,Yb,qr,qO]
theorem Vh(i:okKd ns a)(j:okKd ns b)(o:1<=a.ar+b.ar-2)(p:a.ar+b.ar-2<=3):okKd ns (zV a b):=by
 refine⟨⟨o,p⟩,XV,fun t r=>?_⟩;obtain⟨x,y,⟨C,I⟩,hf⟩:=Zs.1 r;obtain⟨g,rfl,J,P⟩:=i.ts x C;obtain⟨l,rfl,R,T⟩:=j.ts y I;have U:=i.ar;have a0:=j.ar;unfold Z4 at hf;split at hf
 .simp only[qv]at hf
  rw[show a.ar.toNat=g.length by omega,show b.ar.toNat=l.length by omega,Vg zOm zOm]at hf;refine⟨_,hf.symm,?_,fun z hz=>?_⟩
  .show ((g.take (g.length-1)++l.drop 1).length:Int)=a.ar+b.ar-2
   simp only[zd,v8,List.length_drop];omega
  grind
 grind
theorem ql5(i:okKd ns a)(j:okKd ns b)(o:a.ar+b.ar<=3):okKd ns (uY a b):=by
 have p:=i.ar;have r:=j.ar;refine⟨⟨by grind [uY],o⟩,mj,fun t C=>?_⟩;obtain⟨x,y,⟨I,J⟩,hf⟩:=J2.1 C;obtain⟨g,rfl,P,R⟩:=i.ts x I;obtain⟨l,rfl,T,U⟩:=j.ts y J;unfold Qt at hf;simp only[qv]at hf;rw[show a.ar.toNat=g.length by omega,show b.ar.toNat=l.length by omega,Vg zOm zOm]at hf;refine⟨_,hf.symm,?_,fun z hz=>?_⟩
 .show ((g.take (g.length-0)++l.drop 0).length:Int)=a.ar+b.ar
  simp only[zd,v8,List.length_drop];omega
 grind
theorem ql6(g:okKd ns a)(i:a.ar=2):okKd ns (kTr a):=by
 refine aH rfl (wD zSp) (fun t j=>?_);obtain⟨x,l,rfl⟩:=UY.1 j;obtain⟨p,q,rfl,o,r,C,I⟩:=g.pairs i x l;exact⟨q,p,rfl,C,I,o,r⟩
theorem U0(i:okKd ns a)(g:a.ar=2):okKd ns (kClo a)/\(kClo a).ar=2:=by
 have:∀(f n:Nat)(a:Kd),okKd ns a->a.ar=2->okKd ns (cloN f n a)/\(cloN f n a).ar=2:=by
  intro f;induction f with
  |zero=>intro n a h g;exact⟨h,g⟩
  |succ f j =>
   intro n a h g;unfold cloN;split
   .exact j _ _ (Vf h (Vh h h zOm zOm) (by grind [zV])) g
   grind
 exact this 70 0 a i g
theorem ql7{op}(g:okKd ns a)(i:a.ar=2):okKd ns (binK ns op a):=by
 unfold binK;split
 .grind [U0]
 .split
  .exact Vf (U0 g i).1 (KF ns 2 zOm zOm) (by rw[(U0 g i).2];rfl)
  .exact ql6 g i
def ScOk(ns:Nat)(s:Scp):Prop:=∀ v,v∈s->okKd ns v.2/\v.2.ar=1
theorem qaS{nm}:∀{s:Scp}{v}{r:Scp},jx nm s=v :: r->v∈s
 | [],v,r,h=>by simp[jx]at h
 |w :: s,v,r,h=>by
  unfold jx at h;split at h
  .cases h;exact zg
  .exact q8 _ (qaS h)
theorem ql8{ts}(h:okTS ts){nm k}(g:k∈means ts nm):okKd ts.sS.length k:=by
 unfold means at g;rcases qM.1 g with g|g
 .unfold yS at g
  obtain⟨f,hf,e⟩:=List.mem_filterMap.1 g;split at e
  .cases e
   have:=h.fl f hf
   grind [KE]
  grind
 .have:∀(j:List (tP×Bool))(i:Nat),i+j.length<=ts.sS.length->∀ k,k∈yT i j nm->okKd ts.sS.length k:=by
   intro j;induction j with
   |nil=>grind [yT]
   |cons s j l =>
    grind [zG,kOf,KE,yT,uy]
  grind
theorem yU(c s inn n):exam c s inn n =
  if (inn&&zY c n.op n.name)=true then .error (46,n.pos)
  else if n.op=1 then jD c s n.name n.pos
  else if n.op=47 then
   if (c.ts.sT.any fun p=>decide (p.name=n.name))=true then
    match zx c n.name with
    |none => .error (45,n.pos)
    |some p=>match c.ts.sT[p]? with
     |none => .error (45,n.pos)
     |some g=>if g.params.length=n.sD.length then yb c s n.pos g.params n.sD else .error (45,n.pos)
   else .error (40,n.pos)
  else if n.op=15\/n.op=45\/n.op=46 then yr c s (inn||decide (n.op=15)) n.name n.pos n.sD
  else match za c s (inn||decide (n.op=12)||decide (n.op=13)) n.sD with
   | .error e => .error e
   | .ok l=>yq c.ts.sS.length n.op n.n n.pos l:=by
 obtain⟨op,o,k,ks,pos⟩:=n;simp only[exam,Nd.op,Nd.name,Nd.n,Nd.sD,Nd.pos];rfl
theorem Vi{c s inn}:∀{ks l},za c s inn ks = .ok l->l.length=ks.length/\∀(i:Nat) k a,ks[i]?=some k->l[i]?=some a->exam c s inn k = .ok a
 | [],l,h=>by grind [za,uN]
 |k :: ks,l,h=>by
  simp only[za]at h;cases g:exam c s inn k with
  |error e=>rw[g]at h;exact absurd h zSp
  |ok a =>
   rw[g]at h;simp only at h;cases j:za c s inn ks with
   |error e=>rw[j]at h;exact absurd h zSp
   |ok r =>
    rw[j]at h;simp only[uN]at h;subst h;obtain⟨t,C⟩:=Vi j;refine⟨zP1 t,fun i I J o p=>?_⟩;cases i with
    |zero=>simp at o p;subst o;subst p;exact g
    |succ i=>exact C i I J (zUs o) (zUs p)
theorem U1{op}(h:kd op=101):1<=op/\op<=15:=by
 grind [kd,absurd]
theorem KG(C:ns<=4){n}(R:WfN n){l}(p:l.length=n.sD.length)(h:∀(i:Nat) k a,n.sD[i]?=some k->l[i]?=some a->kd k.op=101->∃ q,a=some q/\okKd ns q) :
  ApOk n.op l/\(n.op=5->∃ a,l=[some a]/\okKd ns a)/\(n.op=11\/n.op=12\/n.op=13->∃ a,l=[some a]/\okKd ns a)/\(n.op=6\/n.op=14\/n.op=7\/n.op=8\/n.op=32\/n.op=33\/n.op=9\/n.op=10->∃ a b,l=[some a,some b]/\okKd ns a/\okKd ns b):=by
 have g:=R.shape;have r:n.op=5\/n.op=11\/n.op=12\/n.op=13->∃ a,l=[some a]/\okKd ns a:=by
  intro j;have e:shp n.op n.sD.length=some [101]:=by
   unfold shp;rw[zIn,if_pos zOm]
  rw[e]at g;simp only[qv]at g
  match o:n.sD,g with
  | [k],g =>
   simp at g;rw[o]at p
   match l,p with
   | [a],_ =>
    obtain⟨q,rfl,J⟩:=h 0 k a (by rw[o];rfl) rfl g.symm
    grind
  | [],g=>simp at g
  |_ :: _ :: _,g=>simp at g
 have P:n.op=6\/n.op=14\/n.op=7\/n.op=8\/n.op=32\/n.op=33\/n.op=9\/n.op=10->∃ a b,l=[some a,some b]/\okKd ns a/\okKd ns b:=by
  intro j;have e:shp n.op n.sD.length=some [101,101]:=by
   unfold shp;rw[zIn,zIn,if_pos zOm]
  rw[e]at g;simp only[qv]at g
  match o:n.sD,g with
  | [k,T],g =>
   simp at g;rw[o]at p
   match l,p with
   | [a,b],_ =>
    obtain⟨q,rfl,J⟩:=h 0 k a (by rw[o];rfl) rfl g.1.symm;obtain⟨U,rfl,I⟩:=h 1 T b (by rw[o];rfl) rfl g.2.symm;exact⟨q,U,rfl,J,I⟩
  | [],g=>simp at g
  | [_],g=>simp at g
  |_ :: _ :: _ :: _,g=>simp at g
 refine⟨⟨fun j=>?_,fun j=>?_,fun j=>?_⟩,fun j=>r (.inl j),fun j=>r (.inr j),P⟩
 .obtain ⟨a,rfl,_⟩:=r (.inl j);exact⟨_,rfl⟩
 .obtain ⟨a,rfl,t⟩:=r (.inr j);exact⟨a,rfl,t.okK,t.ok2 C⟩
 .obtain ⟨a,b,rfl,t,hb⟩:=P j;exact⟨a,b,rfl,t.okK,hb.okK⟩
theorem vU{c}(I:okCk c):∀ m n s inn P,szN n<=m->WfN n->ScOk c.ts.sS.length s->exam c s inn n = .ok P->kd n.op=101->∃ k,P=some k/\okKd c.ts.sS.length k
 | 0,n,_,_,_,hm,_,_,_,_=>by obtain⟨op,nm,i,ks,p⟩:=n;simp[szN]at hm
 |m+1,n,s,inn,P,hm,o,R,h,T=>by
  have ho:=U1 T;have U:=I.ts.ns;rw[yU]at h;split at h
  .grind
  split at h
  .unfold jD at h
   split at h
   .rename_i v r hf
    simp only[uN]at h;exact⟨v.2,h.symm,(R v (qaS hf)).1⟩
   .split at h
    .grind
    .rename_i k t
     simp only[uN]at h;exact⟨k,h.symm,ql8 I.ts (by rw[t];simp)⟩
    grind
  split at h
  .omega
  split at h
  .rename_i hb
   have g:=o.shape;have e:shp n.op n.sD.length=some [101,102]:=by
    unfold shp;rw[zIn,zIn,zIn,if_pos zOm]
   rw[e]at g;simp only[qv]at g
   match t:n.sD,g with
   | [a,f],g =>
    simp at g;rw[t]at h;simp only[yr]at h;cases hq:exam c s (inn||decide (n.op=15)) a with
    |error e=>grind
    |ok q =>
     obtain⟨k,rfl,a4⟩:=vU I m a s _ q (by have:=yu (n:=n) (k:=a) (by rw[t];simp);omega) (o.kid (by rw[t];simp)) R hq g.1.symm
     grind
   | [],g=>simp at g
   | [_],g=>simp at g
   |_ :: _ :: _ :: _,g=>simp at g
  .rename_i n1 a6 nb
   cases hl:za c s (inn||decide (n.op=12)||decide (n.op=13)) n.sD with
   |error e=>grind
   |ok l =>
    rw[hl]at h;simp only at h;obtain⟨C,a0⟩:=Vi hl;obtain⟨_,a5,a1,a2⟩:=KG (ns:=c.ts.sS.length) U o C (fun i k a hi J a3=>vU I m k s _ a (zW1 (yu (n:=n) (zb hi))) (o.kid (zb hi)) R (a0 i k a hi J) a3);unfold yq at h;split at h
    .rename_i h2
     simp only[uN]at h;exact⟨_,h.symm,ql2 (o.num h2)⟩
    split at h
    .grind [uN,KF]
    split at h
    .grind [uN,KF]
    have j:n.op=5\/(n.op=11\/n.op=12\/n.op=13)\/(n.op=6\/n.op=14\/n.op=7\/n.op=8\/n.op=32\/n.op=33\/n.op=9\/n.op=10):=zOm;rcases j with h5|h1|h2
    .obtain ⟨a,rfl,J⟩:=a5 h5
     simp only[if_pos h5,uN]at h
     grind
    .obtain ⟨a,rfl,J⟩:=a1 h1
     have n5:n.op≠5:=zOm;simp only[if_neg n5,if_pos h1]at h
     grind [uN,ql7,absurd]
    .obtain ⟨a,b,rfl,J,hb⟩:=a2 h2
     simp only at h;split at h
     .grind [uN,ql4,absurd]
     grind [uN,Vh,absurd,ql5]
end
end P2
namespace Y13
open Y1 Y2 Y3 P1 YM Y5 Y6 Y7 YF Y9 Y10 Y11 Y12 P2
theorem ql9(p n):qi qe 230 [.agg (cPd p),.ip (cNd n)] (aB (decide (p.name=n.name))):=by
 refine qSV call230 func230 rfl ?_;simp[go_sem,wL];exact .zsc _
def u4(c:Ck)(s:Scp)(n:Nd):Res:=
 if (c.ts.sT.any fun p=>decide (p.name=n.name))=true then
  match zx c n.name with
  |none => .error (45,n.pos)
  |some p=>match c.ts.sT[p]? with
   |none => .error (45,n.pos)
   |some g=>if g.params.length=n.sD.length then yb c s n.pos g.params n.sD else .error (45,n.pos)
 else .error (40,n.pos)
def endC:Res->AEnd
 | .ok _ => .ret (.tup [])
 | .error e => .pan (jZ e.1 e.2)
@[go_sem] theorem endC_ok(k):endC (.ok k) = .ret (.tup []):=rfl
@[go_sem] theorem qxA(e):endC (.error e) = .pan (jZ e.1 e.2):=rfl
theorem Vj(n):HF (.ip (cNd n)):=HF.ip (vE n)
theorem hf_t0:HF (.tup []):=HF.tup zSp
theorem callU(c)(hc:okCk c)(s)(hs:ScOk c.ts.sS.length s)(n)(hw:WfN n)(ay:n.op=47)
  (ih:∀ k,k∈n.sD->qZ qe 167 [eCk c,aSc s,eNd k,aB true] (endK (exam c s true k))) :
  qZ qe 208 [eCk c,aSc s,eNd n] (endC (u4 c s n)):=by
 refine zl.of_sound ?_;refine qSW call208 func208 rfl {} ?_;have az:=hc.ts.np;have b0:=hw.len;have I:=hasPd false c.ts.sT (.fn (.func 230) [] [.ip (cNd n)]) (fun p=>decide (p.name=n.name)) ⟨_,_,_,rfl,fun p hp=>⟨_,ql9 p n,.zk (HF.agg (UH p)) (.zk (Vj n) .nil)⟩⟩ (HF.fn zSp (fun x hx=>by grind [Vj])) (Zu _) zOm;have a6:WKs [lPd c.ts.sT,.fn (.func 230) [] [.ip (cNd n)]] [lPd c.ts.sT,.fn (.func 230) [] [.ip (cNd n)]] := .zk (Zu _) (.zk (HF.fn zSp (fun x hx=>by grind [Vj])) .nil);generalize J:u4 c s n=R;unfold u4 at J;simp[go_sem];cases hA:c.ts.sT.any (fun p=>decide (p.name=n.name)) with
 |false =>
  rw[hA]at I J;subst J;refine qj.tail 8 zKr ?_;simp[go_sem];refine fR I a6 ?_;refine kL (zU false 40 n) (wkR n false 40) ?_;simp[go_sem];exact .hf _ (yL _ _)
 |true =>
  rw[hA]at I J;rw[if_pos rfl]at J;refine fM ?_;refine fR I a6 ?_;refine fR (zU true 40 n).toP (wkR n true 40) ?_;refine tS (mz c hc n.name) (.zk (jF c) (.zs .nil)) ?_;cases P:zx c n.name with
  |none =>
   rw[P]at J;subst J;simp[go_sem];refine qj.tail 19 zKr ?_;simp[go_sem];refine kL (zU false 45 n) (wkR n false 45) ?_;simp[go_sem];exact .hf _ (yL _ _)
  |some p =>
   obtain⟨b1,U⟩:=Qu hc P;have b2:=hc.ts.pl _ (qs U);rw[P]at J;simp only[qA U]at J;simp[go_sem];generalize a4:c.ts.sT[p]=j at *
   by_cases r:j.params.length=n.sD.length
   .rw [if_pos r]at J
    refine cJ zKr ?_;simp[go_sem,U,a4,r];refine tS (zU true 45 n).toP (wkR n true 45) ?_;simp[go_sem,U,a4,r];have a7:=hw.shape;have ag:∀(k:Nat)(h:k<n.sD.length),kd n.sD[k].op=101:=by
     have e:shp n.op n.sD.length=some (q9 (min n.sD.length 401) 101):=by
      simp_all[shp,if_neg,if_pos]
     rw[e]at a7;simp only[qv]at a7;intro k h;have h2:(n.sD.map fun k=>kd k.op)[k]?=some (kd n.sD[k].op):=by rw[zn,qA h];rfl
     grind
    refine aK j.params.length (fun k T=>T.tm 0=eCk c/\T.tm 1=aSc s/\T.tm 5 = .ip (cNd n)/\T.tm 54=lPm j.params/\T.tm 55=aI n.sD.length/\T.tm 56=aI k/\yb c s n.pos (j.params.drop k) (n.sD.drop k)=R) ?_ ?_
    .simp [go_sem, *]
    .rintro k T hk ⟨e0,e1,e5,ah,a8,a9,C⟩
     by_cases aa:k=j.params.length
     .subst aa
      rw[yd,r,yd]at C;simp only[yb]at C;subst C;simp[go_sem,a8,a9,r];exact .hf _ hf_t0
     .have ab:k<j.params.length:=by omega
      have o:k<n.sD.length:=zOm;have w1:=zWk k;have hi:=ih n.sD[k] (qs o);rw[zu ab,zu o]at C;simp only[yb]at C;have ai:=vU hc (szN n.sD[k]) n.sD[k] s true;have aj:=ag k o;have ad:=hw.kid (qs o);simp[go_sem,e0,e1,e5,ah,a8,a9,ab,o];cases hx:exam c s true n.sD[k] with
      |error e =>
       rw[hx]at hi C;subst C;refine kL hi (.zk (jF c) (.zk (Qr s) (.zk (qK _) (.zs .nil)))) ?_;simp[go_sem];exact .hf _ (yL _ _)
      |ok ko =>
       obtain⟨kk,rfl,a1⟩:=ai ko (qr _) ad hs hx aj;rw[hx]at hi C;simp only at C;refine tS hi.toP (.zk (jF c) (.zk (Qr s) (.zk (qK _) (.zs .nil)))) ?_;by_cases a0:kk.ar=1
       .rw [if_pos a0]at C
        simp[go_sem,e5,a0];refine fR (zU true 42 n).toP (wkR n true 42) ?_;refine qm.seen kk.ts.length (fun seen g=>g.tm 0=eCk c/\g.tm 1=aSc s/\g.tm 5 = .ip (cNd n)/\g.tm 54=lPm j.params/\g.tm 55=aI n.sD.length/\g.tm 56=aI k/\g.tm 9 = .ptr T.mu.length 0/\g.tm 76 = .ptr (T.mu.length+2) 0 /\
         g.mu[T.mu.length]?=some (.arr [aS j.params[k].1,aI j.params[k].2])/\g.mu[T.mu.length+2]?=some (.it (eT kk.ts) seen)/\∀ i t,i∈seen->kk.ts[i]?=some t->t.getD 0 0=j.params[k].2) ?_ ?_
        .simp [go_sem, *]
        .rintro seen g b3 aw ⟨f0,f1,f5,f54,f55,f56,f9,f76,g0,g2,ax⟩
         simp[go_sem,f76];refine⟨T.mu.length+2,eT kk.ts,seen,rfl,g2,fun i e hi ak=>?_,fun al=>?_⟩
         .obtain ⟨x,a5,rfl⟩:=Z3 hi
          have an:okT x:=a1.okK.len x (zb a5);have ao:i<kk.ts.length:=(qk.1 a5).1;have aq:x.length=3:=an;have au:x∈kk.ts:=zb a5;have a2:T.mu.length+2<g.mu.length:=(qk.1 g2).1;have a3:∀(c:Cell)(l:List Cell),((g.mu.set (T.mu.length+2) c)++l)[T.mu.length]?=some (.arr [aS j.params[k].1,aI j.params[k].2]):=fun c l=>by
           grind
          obtain⟨x0,x1,x2,rfl⟩:∃ x0 x1 x2,x=[x0,x1,x2]:=by
           match x,aq with
           | [x0,x1,x2],_=>simp
          have af:0<=x0/\x0<128:=by
           obtain⟨l,el,hl,hr⟩:=a1.ts _ au;rw[a0]at hl
           match l,hl with
           | [y],_ =>
            have:=hr y zSp;simp[pad]at el;have:=hc.ts.ns;omega
          have w8:qq.wrap x0=x0:=zWr;by_cases hq:x0=j.params[k].2
          .have w9:qq.wrap j.params[k].2=j.params[k].2:=by grind
           simp[go_sem,f5,f9,f76,hi,a2,a3,w9,hq];refine fR (zU true 43 n).toP (wkR n true 43) ?_;refine⟨i,ao,ak,zS1 f0,zS1 f1,zS1 f5,zS1 f54,zS1 f55,zS1 f56,zS1 f9,zS1 f76,?_,?_,?_⟩
           .grind [qC]
           .grind [qC,qN,qL]
           grind
          .have ae:uA j.params[k].2 kk=false:=by
            unfold uA;rw[<-Bool.not_eq_true,zF]
            grind
           rw[ae]at C;simp only[Bool.false_eq_true,if_false]at C;subst C;simp[go_sem,f5,f9,f76,hi,a2,a3,w8,hq];refine kL (zU false 43 n) (wkR n false 43) ?_;simp[go_sem];exact .hf _ (yL _ _)
         .have av:uA j.params[k].2 kk=true:=by
           grind [uA,zF,List.mem_iff_getElem?,qk]
          simp_all[go_sem,if_pos,aA]
       .rw [if_neg a0]at C
        subst C;simp[go_sem,e5,a0];refine kL (zU false 42 n) (wkR n false 42) ?_;simp[go_sem];exact .hf _ (yL _ _)
   .rw [if_neg r]at J
    subst J;refine qj.tail 19 zKr ?_;simp[go_sem,U,a4,r];refine kL (zU false 45 n) (wkR n false 45) ?_;simp[go_sem];exact .hf _ (yL _ _)
theorem KH{lo sz mu av xs}(h:OwnF lo mu sz av xs)(w:yR sz xs)(hf:∀ r,r∈xs->∀ c,c∈r->HF c):Rd (cutM (fun i=>decide (lo<=i)) mu 0) av (.lst false xs):=by
 obtain⟨g,j,o⟩:=h;refine Own.rd (sz:=sz) ?_ w hf;rcases g with rfl|⟨b,rfl,l⟩
 .exact .inl rfl
 .refine .inr ⟨b,rfl,?_⟩
  rw[jL,l];simp[j b _ _ _ rfl]
theorem qmA{c s n g}(h:u4 c s n = .ok g):g=none:=by
 have j:∀(ks:List Nd)(i:List (tP×Int))(g:Option Kd),yb c s n.pos i ks = .ok g->g=none:=by
  intro ks;induction ks with
  |nil=>grind [yb]
  |cons k ks l =>
   intro i g h;cases i with
   |nil=>grind [yb]
   |cons p i =>
    grind [yb,absurd]
 unfold u4 at h;split at h
 .grind
 grind
theorem appKo{mu lo s xs k K}(o:OwnF lo mu 2 s (xs.map cKo))(t:xs.length<=100000)(C:∀ av mu',OwnF lo mu' 2 av ((xs++[k]).map cKo)->(∀ i,i<lo->mu'[i]?=mu[i]?)->K av mu') :
  qz qe mu #[265,265] s (.lst true [cKo k]) K:=by
 have j:∀ l:List (Option Kd),zo 2 (l.map cKo):=fun l r p=>by
  obtain⟨n,_,rfl⟩:=qn.1 p;exact KB n
 refine qz.ownF (lo:=lo) (e:=260) (sz:=2) (bt:=16) (zv := .agg [aI 0,.sc (.map none)]) (xs:=xs.map cKo) (ys:=[cKo k]) zSi zSi zSi rfl rfl zOm zOm o (by simp[qE]) (j xs) (j [k]) zSo ?_
 grind
theorem qaT(c)(hc:okCk c):∀ m n,szN n<=m->WfN n->∀ s,ScOk c.ts.sS.length s->∀ inn,qZ qe 167 [eCk c,aSc s,eNd n,aB inn] (endK (exam c s inn n))
 | 0,n,hm,_,_,_,_=>by obtain⟨op,nm,i,ks,p⟩:=n;simp[szN]at hm
 |m+1,n,hm,hw,s,hs,inn=>by
  have ih:∀ k,k∈n.sD->∀ R,ScOk c.ts.sS.length R->∀ a0,qZ qe 167 [eCk c,aSc R,eNd k,aB a0] (endK (exam c R a0 k)):=fun k hk R af a0 =>
   qaT c hc m k (zW1 (yu hk)) (hw.kid hk) R af a0
  refine zl.of_sound ?_;refine qSW call167 func167 rfl {} ?_;generalize g:exam c s inn n=E;rw[yU]at g;have a7:=mA c hc n;simp[go_sem];by_cases hT:(inn&&zY c n.op n.name)=true
  .rw [if_pos hT]at g
   subst g;rw[qH]at hT;obtain⟨rfl,hT⟩:=hT;rw[hT]at a7;refine qj.tail 9 zKr ?_;simp[go_sem];refine fR a7 (.zk (jF c) (.zk (qK n) .nil)) ?_;refine kL (zU false 46 n) (wkR n false 46) ?_;simp[go_sem];exact .hf _ (yL _ _)
  rw[if_neg hT]at g;have ag:=KC c hc s n;have a4:=fun h=>callU c hc s hs n hw h (fun k hk=>ih k hk s hs true)
  have a8:WKs [eCk c,aSc s,eNd n] [eCk c,aSc s,eNd n] := .zk (jF c) (.zk (Qr s) (.zk (qK n) .nil));have a1:∀(R:Scp)(k:Nd)(b:Bool),WKs [eCk c,aSc R,eNd k,aB b] [eCk c,aSc R,eNd k,aB b]:=fun R k b => .zk (jF c) (.zk (Qr R) (.zk (qK k) (.zs .nil)))
  have a5:n.op=15\/n.op=45\/n.op=46->∃ a f,n.sD=[a,f]/\kd a.op=101:=fun ho=>by
   have I:=hw.shape;have e:shp n.op n.sD.length=some [101,102]:=by
    unfold shp;rw[zIn,zIn,zIn,if_pos zOm]
   rw[e]at I;simp only[qv]at I
   match hk:n.sD,I with
   | [a,f],I=>grind
   | [],I=>simp at I
   | [_],I=>simp at I
   |_ :: _ :: _ :: _,I=>simp at I
  cases inn
  case' false =>
   refine fM ?_;refine fR (zU true 46 n).toP (wkR n true 46) ?_
  case' true =>
   have az:zY c n.op n.name=false:=zUs hT;rw[az]at a7;refine fM ?_;refine fR a7 (.zk (jF c) (.zk (qK n) .nil)) ?_;refine fR (zU true 46 n).toP (wkR n true 46) ?_
  all_goals
   by_cases h1:n.op=1
   .rw [if_pos h1]at g
    rw[g]at ag;simp[go_sem,h1];cases E with
    |error e =>
     refine kL ag a8 ?_;simp[go_sem];exact .hf _ (yL _ _)
    |ok ko =>
     refine tS ag.toP a8 ?_;cases ko with
     |none=>simp[go_sem];exact .hf _ hfKn
     |some k=>simp[go_sem];exact .hf _ (hfK2 _ _)
   rw[if_neg h1]at g;by_cases h47:n.op=47
   .rw [if_pos h47]at g
    have g:u4 c s n=E:=g;have a4:=a4 h47;rw[g]at a4;simp[go_sem,h47];cases E with
    |error e =>
     refine kL a4 a8 ?_;simp[go_sem];exact .hf _ (yL _ _)
    |ok ko =>
     obtain rfl:=qmA g;refine fR a4.toP a8 ?_;exact .hf _ hfKn
   rw[if_neg h47]at g;by_cases hb:n.op=15\/n.op=45\/n.op=46
   .rw [if_pos hb]at g
    obtain⟨a,f,a2,ha⟩:=a5 hb;rw[a2]at g;have ao:∀ b r,exam c s b a=r->qZ qe 167 [eCk c,aSc s,eNd a,aB b] (endK r):=fun b r h=>h ▸ ih a (by rw[a2];simp) s hs b
    have b0:∀ R,ScOk c.ts.sS.length R->∀ b r,exam c R b f=r->qZ qe 167 [eCk c,aSc R,eNd f,aB b] (endK r):=fun R af b r h=>h ▸ ih f (by rw[a2];simp) R af b
    have ab:=vU hc (szN a) a s;have aq:=hw.kid (k:=a) (by rw[a2];simp);rcases hb with h|h|h
    all_goals
     simp[go_sem,h,a2];simp only[h,yr,za]at g;simp at g;split at g
     .rename_i e hx
      have hi:=ao _ _ hx;subst g;refine kL hi (a1 _ _ _) ?_;simp[go_sem];exact .hf _ (yL _ _)
     .rename_i hx
      obtain⟨q,hq,_⟩:=ab _ _ (qr _) aq hs hx ha;exact absurd hq zSp
     .rename_i k hx
      have hi:=ao _ _ hx;obtain⟨q,hq,b4⟩:=ab _ _ (qr _) aq hs hx ha;simp only[qv]at hq;subst hq;refine tS hi.toP (a1 _ _ _) ?_;by_cases a9:k.ar=1
      .rw [if_pos a9]at g
       obtain⟨ka,kt⟩:=k;obtain rfl:ka=1:=a9;simp[go_sem];refine fR (zU true 42 n).toP (wkR n true 42) ?_;have b5:ScOk c.ts.sS.length ((n.name,⟨1,kt⟩) :: s):=fun v U=>by
        rcases List.mem_cons.1 U with rfl|U
        .exact ⟨b4,rfl⟩
        .exact hs v U
       have au:=b0 _ b5;refine qj.tail 12 zKr ?_;simp[go_sem,a2];split at g
       .rename_i e a3
        split at a3
        .rename_i e' ah
         simp only[Except.error.injEq]at a3;subst a3;subst g;have ai:=au _ _ ah;refine kL ai (a1 ((n.name,⟨1,kt⟩) :: s) _ _) ?_;simp[go_sem];exact .hf _ (yL _ _)
        grind
       .rename_i l a3
        split at a3
        .exact absurd a3 zSp
        .rename_i a' ah
         have ai:=au _ _ ah;subst g;refine fR ai.toP (a1 ((n.name,⟨1,kt⟩) :: s) _ _) ?_;exact .hf _ (hfK2 _ _)
      .rw [if_neg a9]at g
       subst g;simp[go_sem,a9];refine kL (zU false 42 n) (wkR n false 42) ?_;simp[go_sem];exact .hf _ (yL _ _)
   .rw [if_neg hb]at g
    simp only[not_or]at hb;obtain⟨b1,b2,b3⟩:=hb;simp[go_sem,h1,h47,b1,b2,b3];have b6:=hw.len;generalize hB:(_||decide (n.op=12)||decide (n.op=13))=B at g;by_cases aj:n.op=12
    case' pos=>simp[go_sem,aj]
    case' neg =>
     by_cases ak:n.op=13
     case' pos=>simp[go_sem,ak]
     case' neg=>simp[go_sem,aj,ak]
    all_goals
     refine aK n.sD.length (fun k T=>∃ C:List (Option Kd),C.length=k/\T.tm 0=eCk c/\T.tm 1=aSc s/\T.tm 3=aB B/\T.tm 6 = .ip (cNd n)/\T.tm 8 = .ptr 0 0/\T.tm 79=lNd n.sD/\T.tm 80=aI n.sD.length/\T.tm 81=aI k/\T.mu[0]?=some (.arr [aI 0,.sc (.map none)])/\OwnF 1 T.mu 2 (T.tm 10) (C.map cKo) /\
      za c s B n.sD=(match za c s B (n.sD.drop k) with | .error e => .error e | .ok l => .ok (C++l))) ?_ ?_
     .refine ⟨[],rfl,zSi,zSi,?_,zSi,zSi,zSi,zSi,zSi,zSi,?_,?_⟩
      .rw [<-hB];simp[go_sem,aj];try simp[ak]
      .simp [go_sem];exact OwnF.nil zSp
      .simp only[List.drop_zero,vw]
       cases za c s B n.sD<;>rfl
     .rintro k T hk ⟨C,hl,e0,e1,e3,e6,e8,aw,al,an,m0,ho,o⟩
      by_cases a6:k=n.sD.length
      .rw [a6,yd]at o
       simp only[za,zO]at o;rw[o]at g;simp only at g;simp[go_sem,e0,e6,al,an,a6];have b7:ApOk n.op C:=(KG hc.ts.ns hw (by rw[hl,a6]) (fun i k' a hi ha b8=>vU hc (szN k') k' s B a (qr _) (hw.kid (zb hi)) hs ((Vi o).2 i k' a hi ha) b8)).1;have ad:=ql1 c hc false n C b7;rw[g]at ad;have ax:∀ r,r∈C.map cKo->∀ c,c∈r->HF c:=fun r hr c b9=>by
        obtain⟨q,_,rfl⟩:=qn.1 hr;exact qaQ q c b9
       have bb:yR 2 (C.map cKo):=fun r hr=>by
        obtain⟨q,_,rfl⟩:=qn.1 hr;exact(KB q).1
       have g0:(cutM (fun i=>!decide (1<=i)) T.mu 0)[0]?=some (.arr [aI 0,.sc (.map none)]):=by rw[jL,m0];simp
       refine fZ (qD.freeze (args1:=[eCk c,eNd n,.lst false (C.map cKo)]) (fun j=>decide (1<=j)) ⟨.inl rfl,.inl rfl,.inr (KH ho bb ax),trivial⟩ (ad.toSound _ (.zk (jF c) (.zk (qK n) (.zk (HF.lst ax) .nil))))) ?_ ?_
       .rintro r m ⟨U,rfl⟩
        have U:AEnd.ret r=endK E:=U;cases E with
        |error e=>exact absurd U zSi
        |ok q =>
         simp[go_sem]at U;subst U;generalize cutM (fun i=>!decide (1<=i)) T.mu 0=M at g0;have be:0<M.length:=(qk.1 g0).1;have ae:∀ c,(M.set 0 c)[0]?=some c:=fun c=>qL be
         cases q with
         |none=>simp[go_sem,e8,g0,ae];exact .hf _ hfKn
         |some k=>simp[go_sem,e8,g0,ae];exact .hf _ (hfK2 _ _)
       .rintro r m ⟨U,rfl⟩
        have U:AEnd.pan r=endK E:=U;cases E with
        |ok q=>exact absurd U zSi
        |error e =>
         simp[go_sem]at U;subst U;simp[go_sem];exact .hf _ (yL _ _)
      .have aa:k<n.sD.length:=by omega
       have w1:=zWk k;rw[zu aa]at o;simp only[za]at o;have hi:=ih n.sD[k] (qs aa) s hs B;simp[go_sem,e0,e1,e3,aw,al,an,aa];cases hx:exam c s B n.sD[k] with
       |error e =>
        rw[hx]at hi o;simp only at o;rw[o]at g;simp only at g;subst g;refine kL hi (a1 s n.sD[k] B) ?_;simp[go_sem];exact .hf _ (yL _ _)
       |ok ko =>
        rw[hx]at hi o;simp only at o;refine tS hi.toP (a1 s n.sD[k] B) ?_;have ay:=KB ko;rw[zF]at ay;simp[go_sem];rw[if_pos ay];simp[go_sem];refine appKo (xs:=C) (k:=ko) (lo:=1) ⟨Ve ho.1 _,ho.2.1,by have:=ho.2.2;simp⟩ zOm fun t bi bg bh=>?_
        simp[go_sem,an,w1];refine⟨aa,aA ?_⟩;refine⟨C++[ko],zP1 hl,zS1 e0,zS1 e1,zS1 e3,zS1 e6,zS1 e8,zS1 aw,zS1 al,zSi,?_,zVs bg,?_⟩
        .simp only[qC]
         rw[bh 0 zOm,qN (zW1 ho.2.2)];exact m0
        .rw [o]
         cases za c s B (n.sD.drop (k+1)) with
         |error e=>rfl
         |ok l=>simp
end Y13
namespace Y14
open YF P1 P2 Y1 Y2 Y9 Y10 Y12 Y13
structure Jc (ns:Nat) (env:List (tP×Int)):Prop where
 len:env.length<=1000000
 r:∀ p,p∈env->0<=p.2/\p.2<ns
theorem U2{ns env}(h:Jc ns env):ScOk ns (zW env):=by
 have:∀(l:List (tP×Int))(s:Scp),(∀ p,p∈l->0<=p.2/\p.2<(ns:Int))->ScOk ns s->ScOk ns (l.foldl (fun s p=>(p.1,kOf [p.2]) :: s) s):=by
  intro l;induction l with
  |nil=>intro s _ i;exact i
  |cons a l t =>
   intro s j i;refine t _ (fun p C=>j p (q8 _ C)) fun v g=>?_
   rcases List.mem_cons.1 g with rfl|g
   .exact ⟨KE zSp zSp (fun x o=>by rw[qV]at o;subst o;exact j a (zg ..)),rfl⟩
   .exact i v g
 exact this env [] h.r fun v g=>absurd g qG
theorem qmB(c)(l:okCk c)(n)(p:WfN n)(env)(j:Jc c.ts.sS.length env) :
  qZ qe 166 [.ip (cNd n),.ip [eCk c],.ip [lPm env]] (if 30<=n.op then (match exam c (zW env) false n with | .ok _ => .ret (.tup []) | .error e => .pan (jZ e.1 e.2)) else .pan (jZ 43 n.pos)):=by
 refine zl.of_sound ?_;refine qSW call166 func166 rfl {} ?_;have i:=qaT c l (szN n) n (qr _) p (zW env) (U2 j) false;have g:WKs [eCk c,aSc (zW env),eNd n,aB false] [eCk c,aSc (zW env),eNd n,aB false] := .zk (jF c) (.zk (Qr _) (.zk (qK n) (.zs .nil)));by_cases h:30<=n.op
 .rw [if_pos h]
  simp[go_sem,h];refine fR (zU true 43 n).toP (wkR n true 43) ?_;refine qj.tail 4 zKr ?_;simp[go_sem];refine fR (bindU _ l.ts.ns env j.len j.r) (.zk (uB env) .nil) ?_;cases o:exam c (zW env) false n with
  |error e =>
   rw[o]at i;refine kL i g ?_;simp[go_sem];exact .hf _ (yL _ _)
  |ok k =>
   rw[o]at i;refine fR i.toP g ?_;exact .hf _ (HF.tup zSp)
 .rw [if_neg h]
  simp[go_sem,h];refine kL (zU false 43 n) (wkR n false 43) ?_;simp[go_sem];exact .hf _ (yL _ _)
theorem qmC(c)(i:okCk c)(n)(P:WfN n)(env)(R:Jc c.ts.sS.length env):qi qe 115 [eCk c,lPm env,eNd n] (.agg [aI (jO c env n).1,aI (jO c env n).2]):=by
 refine qZ.toP ?_;refine zl.of_sound ?_;refine qSW call115 func115 rfl {} ?_;simp[go_sem];have o:WKs [.ip (cNd n),.ip [eCk c],.ip [lPm env]] [.ip (cNd n),.ip [eCk c],.ip [lPm env]] := .zk (HF.ip (vE n)) (.zk (HF.ip (by simp;exact jF c)) (.zk (HF.ip (by simp;exact uB env)) .nil));have T:=(qmB c i n P env R).toSound ([.arr [aI 0,aI 0]]++[.dead]) o;refine fZ (nY (mu:=[.arr [aI 0,aI 0]]) T ?_) ?_ ?_
 .rintro v m ⟨g,_⟩
  have g:AEnd.pan v=_:=g;split at g
  .split at g
   .exact absurd g zSp
   .cases g;exact⟨_,_,rfl⟩
  .cases g;exact⟨_,_,rfl⟩
 .rintro r m ⟨U,x,⟨l,rfl⟩,⟨J,⟨g,rfl⟩,j⟩|⟨t,p,⟨g,rfl⟩,j⟩⟩
  .have g:AEnd.ret J=_:=g
   cases j;have hf:jO c env n=(0,0):=by
    unfold jO dgOf;split at g
    .rename_i h
     rw[if_pos h];split at g
     .rename_i I;first | (rw[I];done)|rfl
     .cases g
    .cases g
   rw[hf];simp[go_sem];exact .hf _ (HF.agg fun c i=>by simp at i;rcases i with rfl|rfl<;>exact HF.sc _)
  .have g:AEnd.pan (jZ t p)=_:=g
   cases j;have hf:jO c env n=(t,p):=by
    unfold jO dgOf;split at g
    .rename_i h
     rw[if_pos h];split at g
     .cases g
     .rename_i e I;(try rw[I]);cases g;rfl
    .rename_i h
     rw[if_neg h];cases g;rfl
   rw[hf];simp[go_sem];exact .hf _ (HF.agg fun c i=>by simp at i;rcases i with rfl|rfl<;>exact HF.sc _)
 .rintro r m ⟨U,x,⟨l,rfl⟩,⟨J,⟨g,rfl⟩,j⟩|⟨t,p,⟨g,rfl⟩,j⟩⟩<;>cases j
theorem qmD(ts)(h:okTS ts)(i:∀ p,p∈ts.sT->WfN p.body)(n)(j:WfN n)(env)(l:Jc ts.sS.length env):qi qe 67 [eTS ts,lPm env,eNd n] (.agg [aI (yf ts env n).1,aI (yf ts env n).2]):=by
 refine qSU call67 func67 rfl ?_;refine fM ?_;refine fR (qlS ts h (fun p o=>(i p o).small) _ (qr _)) (.zk (zp ts) (.zs .nil)) ?_;refine fR (qmC _ (uj h (qr _)) n j env l) (.zk (jF _) (.zk (uB env) (.zk (qK n) .nil))) ?_;exact .hf _ (HF.agg fun c g=>by simp at g;rcases g with rfl|rfl<;>exact HF.sc _)
end Y14
end Go.Proofs.YtipbakanneogpaaGreatDoor
