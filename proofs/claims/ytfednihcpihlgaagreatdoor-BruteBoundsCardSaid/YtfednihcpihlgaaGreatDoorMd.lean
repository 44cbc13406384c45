/-
  Own library, part 4: an abstract reading of values and a calculus over it; contracts of functions; plain lemmas.
-/
import Derived.Test.YtfednihcpihlgaaGreatDoorMc
set_option linter.unusedVariables false
set_option linter.unusedSimpArgs false
set_option maxRecDepth 100000
open Go renaming Program->qf,TypeId->j1,Operand->uk,FuncId->us,Value->j3,World->j2
open Go.Proofs.Tryz renaming prog->qb
open List renaming getElem?_eq_some_iff->qg,mem_map->qi,getElem_mem->qn,range->qq,mem_cons->qt,getElem?_eq_getElem->qw,not_mem_nil->qF,getElem?_append_left->qG,mem_append->qH,getElem?_set_self->qI,take_length->qO,replicate->qS,mem_singleton->qT,mem_of_getElem?->qU,mem_cons_of_mem->qW,length_append->qX,map_append->q9,all_eq_true->zb,mem_cons_self->zd,getElem?_map->zf,drop_eq_getElem_cons->zm,append_assoc->zy,length_cons->zz,getElem?_append_right->zE,append_nil->zF,length_map->zK,take_of_length_le->zO,mem_range->zW,drop_length->yh,getElem?_set_ne->yu,mem_filter->yX,mem_append_left->jj,getElem?_take->jW,nil_append->vg,take_succ_eq_append_getElem->vu,foldl_append->vy,getElem?_drop->vT,mem_flatMap->uK,getElem?_range->uL,length_take->uP,flatMap_cons->wB,getElem_of_mem->wC,nodup_append->wF
open Go.IntKind renaming i64->qm
open Nat renaming le_refl->qo,le_trans->zt,zero_add->z7,le_of_ble_eq_true->vR,lt_succ_iff_lt_or_eq->Vv
open Option.some renaming injEq->qr
open Option renaming map_some->zg,map_eq_some_iff->jK
open Int renaming mul_le_mul->jq,tmod_eq_emod_of_nonneg->uN
open List.Nodup renaming length_le_of_subset->jL
open Bool renaming eq_iff_iff->jX
open Except.ok renaming injEq->ul
open List.cons renaming injEq->Jb
namespace Go.Ev
open Go Go.RowKit
@[go_sem ↓] theorem qvK(P pl det i ev mu K j l g):qC P pl det i (.call ⟨.builtin .clear,l.toArray,g⟩) ev mu K j=un P mu .clear g (evs ev l) K:=eqS rfl
theorem qi0{P mu K t e sz bt b off len cells zv}(o:qE P t=some (e,sz,bt))(p:qx P e=some zv)(g:zv.cells.length=sz)(j:zv.cells.all AV.one=true)(l:sz≠0)
  (r:mu[b]?=some (.arr cells)) (C:off+len*sz<=cells.length) (I:0<len) (k:K (.tup []) (mu.set b (.arr (putCells cells off ((qq (len*sz)).map fun i=>zv.cells.getD (i % sz) .any))))):un P mu .clear #[t] [.sl b sz off len] K:=
 ⟨_,_,.clear o p g j l r C I,k⟩
end Go.Ev
namespace Go.Proofs.YtfednihcpihlgaaGreatDoor
open Go Go.Ev Go.Proofs Tryz
namespace EN
open EJ
theorem Xx{mu:Mu}{b c}(h:mu[b]?=some c):mu.set b c=mu:=by
 obtain⟨i,g⟩:=qg.1 h;rw[<-g];simp
theorem Un(l:List Int)(i h):List.take 1 (List.drop i (l.map aI))=[aI l[i]]:=by
 grind [zm]
theorem qi1(mu b g)(hl:g.length<=1000000)(hb:mu[b]?=some (.arr (g.map aI))) :
  qy qb 141 [.sl b 1 0 g.length] mu fun e m=>∃ cells,e = .ret (.sl b 1 0 (cmpc eqI g).length)/\m=mu.set b (.arr cells)/\cells.length=g.length/\cells.take (cmpc eqI g).length=(cmpc eqI g).map aI:=by
 refine qSW call141 func141 rfl {} ?_;simp[go_sem];by_cases h2:g.length<2
 .have hc:cmpc eqI g=g:=by
   match g,h2 with
   | [],_=>rfl
   | [x],_=>rfl
   |_ :: _ :: _,h=>grind
  simp[go_sem,show (g.length:Int)<2 by omega];rw[hc];exact⟨rfl,g.map aI,(Xx hb).symm,zSp,by rw[zO zSp]⟩
 simp[go_sem,show ¬(g.length:Int)<2 by omega];refine tP (fun m U=>∃ k,m=g.length-k/\1<=k/\k<=g.length/\U.tm 0 = .sl b 1 0 g.length/\U.tm 3=aI (k:Nat)/\U.mu=mu/\cmpc eqI (g.take k)=g.take k) (g.length-1) ?_ ?_
 .refine ⟨1,zOm,zOm,zOm,zSi,zSi,zSi,?_⟩
  match g,h2 with
  | [],h=>simp at h
  |x :: l,_=>simp[cmpc,jS]
 rintro m U ⟨k,rfl,a5,hk,e0,e3,hm,hi⟩;by_cases p:k<g.length
 .have hw:qm.wrap ((k:Int)-1)=((k-1:Nat):Int):=by grind [zL]
  have t:k-1<g.length:=zOm;have r1:=Un g k p;have r2:=Un g (k-1) t;have g1:k+1<=g.length:=p;have g2:k-1+1<=g.length:=t;have o:=nF eqI g k a5 p;rw[hi]at o;simp[go_sem,e0,e3,hm,p];refine cZ zKr ?_;by_cases hp:g[k]=g[k-1]
  .simp [go_sem,e0,e3,p,hb,hw,t,hp,r1,r2,g1,g2]
   rw[if_pos (zUs hp),zF]at o;simp[go_sem,hk];refine tP (fun m2 st2=>∃(j i:Nat) (cur:List Int),m2=g.length-(k+j)/\1<=j/\k+j<=g.length/\st2.tm 0 = .sl b 1 0 g.length/\st2.tm 3=aI (i:Nat)/\st2.tm 4 = .sl b 1 k (g.length-k)/\st2.tm 5=aI (j:Nat)/\cur.length=g.length/\st2.mu=mu.set b (.arr (cur.map aI))/\i=(cmpc eqI (g.take (k+j))).length/\i<=k+j-1/\cur.take i=cmpc eqI (g.take (k+j))/\cur.drop (k+j-1)=g.drop (k+j-1)) (g.length-(k+1)) ?_ ?_
   .refine ⟨1,k,g,zOm,zOm,zOm,zS1 e0,zS1 e3,zSi,zSi,rfl,?_,?_,zOm,?_,rfl⟩
    .simp_all [go_sem,Xx]
    .grind
    grind
   rintro m2 st2 ⟨j,i,cur,rfl,af,hj,f0,f3,f4,f5,a0,a1,C,ag,I,R⟩;have T:b<mu.length:=(qg.1 hb).1;by_cases J:j<g.length-k
   .have a6:k+j<g.length:=by omega
    have c1:cur[k+j]' zOm=g[k+j]:=by
     have:=congrArg (fun l=>l[1]?) R
     grind
    have c2:cur[k+j-1]' zOm=g[k+j-1]:=by
     have:=congrArg (fun l=>l[0]?) R;simp only[vT,Nat.add_zero]at this
     grind
    have r1:=Un cur (k+j) zOm;have r2:List.take 1 (List.drop (k+(j-1)) (cur.map aI))=[aI (g[k+j-1]' zOm)]:=by rw[show k+(j-1)=k+j-1 by omega,Un cur (k+j-1) zOm,c2]
    rw[c1]at r1;have a2:qm.wrap ((j:Int)-1)=((j-1:Nat):Int):=by rw[zWr];omega
    have a3:qm.wrap ((j:Int)+1)=((j+1:Nat):Int):=by rw[zWr];omega
    have g3:j-1<g.length-k:=zOm;have g4:k+j+1<=cur.length:=zOm;have g5:k+(j-1)+1<=cur.length:=zOm;have r:=nF eqI g (k+j) zOm a6;have a4:cur.drop (k+j)=g.drop (k+j):=by
     have:=congrArg (List.drop 1) R;rw[List.drop_drop,List.drop_drop,show k+j-1+1=k+j by omega]at this;exact this
    simp[go_sem,f4,f5,a1,J];refine cZ zKr ?_;by_cases P:g[k+j]=g[k+j-1]
    .rw [if_pos (zUs P),zF]at r
     simp[go_sem,f4,f5,J,T,r1,r2,a2,a3,g3,g4,g5,P];refine Keep.loop (g.length-(k+(j+1))) zOm ⟨j+1,i,cur,rfl,zOm,zOm,zS1 f0,zS1 f3,zS1 f4,zSi,a0,zSi,?_,zOm,?_,?_⟩
     .rw [show k+(j+1)=k+j+1 by omega,r];exact C
     .rw [show k+(j+1)=k+j+1 by omega,r];exact I
     .rw [show k+(j+1)-1=k+j by omega];exact a4
    .rw [if_neg (zUs P)]at r
     have a7:i<g.length:=zOm;have a8:i+1<=cur.length:=zOm;have ae:i<cur.length:=zOm;have a9:qm.wrap ((i:Int)+1)=((i+1:Nat):Int):=by rw[zWr];omega
     simp[go_sem,f0,f3,f4,f5,J,T,r1,r2,a2,a3,a9,g3,g4,g5,P,a7,a8];refine Keep.loop (g.length-(k+(j+1))) zOm ⟨j+1,i+1,cur.set i g[k+j],rfl,zOm,zOm,zS1 f0,zSi,zS1 f4,zSi,zP1 a0,?_,?_,zOm,?_,?_⟩
     .simp [go_sem,List.map_set]
     .rw [show k+(j+1)=k+j+1 by omega,r,qX];simp;omega
     .rw [show k+(j+1)=k+j+1 by omega,r,<-I,List.take_add_one,qI zOm,List.take_set_of_le zOm];rfl
     .rw [show k+(j+1)-1=k+j by omega,List.drop_set_of_lt zOm];exact a4
   .have aa:k+j=g.length:=by omega
    rw[aa,qO]at C I;simp[go_sem,f0,f3,f4,f5,a1,J,show i<g.length by omega,show i<=g.length by omega];refine qi0 (e:=3) (bt:=8) (zv:=aI 0) (cells:=cur.map aI) zSi zSi rfl rfl zOm (zP1 T) zSo zOm ?_;have hZ:∀ zs:List AV,zs.length=g.length-i->(putCells (cur.map aI) i zs).length=g.length/\(putCells (cur.map aI) i zs).take i=(cur.map aI).take i:=by
     intro zs hz;rw[yY _ _ _ zSo];refine⟨zSo,?_⟩;rw[zy,List.take_append,uP,Nat.min_eq_left zSo,Nat.sub_self,List.take_zero,zF,List.take_take,Nat.min_self]
    have hz:=hZ ((qq ((g.length-i)*1)).map fun j=>(aI 0).cells.getD (j % 1) .any) zSp;generalize putCells (cur.map aI) i _=Z at hz⊢;simp[go_sem,f0,f3,show i<=g.length by omega];refine⟨C,Z,rfl,hz.1,?_⟩;rw[<-C,hz.2,<-List.map_take,I]
  .rw [if_neg (zUs hp)]at o
   have ab:g.take (k+1)=g.take k++[g[k]]:=by rw[List.take_add_one,qw p];rfl
   simp[go_sem,e0,e3,p,hb,hw,t,hp,r1,r2,g1,g2];refine Keep.loop (g.length-(k+1)) zOm ⟨k+1,rfl,zOm,zOm,zS1 e0,?_,zSi,by rw[o,ab]⟩;simp[go_sem];exact zWr
 .have ad:k=g.length:=by omega
  subst ad;rw[qO]at hi;simp[go_sem,e0,e3,hm];rw[hi];exact⟨rfl,g.map aI,(Xx hb).symm,zSp,by rw[zO zSp]⟩
end EN
namespace E4
open E1
theorem has06(r x)(hl:r.ts.length<=1000000000)(hs:sorted r.ts):qd qb 201 [eRel r,aI x] (aB (decide (x∈r.ts))):=by
 refine qSU call201 func201 rfl ?_;refine tP (fun n U=>∃ P g:Nat,n=g-P/\U.tm 1=aI x/\U.tm 2 = .ip [aI r.ar,lI r.ts]/\U.tm 5=aI P/\U.tm 6=aI g/\U.mu=[]/\P<=g/\g<=r.ts.length/\(∀(i:Nat)(h:i<r.ts.length),i<P->r.ts[i]<x)/\(∀(i:Nat)(h:i<r.ts.length),g<=i->x<=r.ts[i])) r.ts.length ?_ ?_
 .exact ⟨0,r.ts.length,zOm,zSi,zSi,zSi,zSi,zSi,zOm,zOm,fun i h h'=>zOm,fun i h h'=>zOm⟩
 rintro n U ⟨P,g,hn,I,t,J,R,T,a4,a5,C,a0⟩;by_cases a1:P<g
 .have hw:qm.wrap (qm.wrap ((P:Int)+g) / 2)=(((P+g) / 2:Nat):Int):=by
   rw[zL (n:=(P:Int)+g) zOm zOm,zWr];omega
  have a2:(qm.wrap ((P:Int)+g)).tdiv 2=qm.wrap ((P:Int)+g) / 2:=Int.tdiv_eq_ediv_of_nonneg (by rw[zWr];omega);have j:(P+g) / 2<r.ts.length:=zOm;generalize a6:(P+g) / 2=mid at *
  by_cases hb:r.ts[mid]<x
  .simp [go_sem,I,t,J,R,T,a1,a2,hw,j,hb]
   refine Keep.loop (g-(mid+1)) zOm ⟨mid+1,g,rfl,zS1 I,zS1 t,?_,zS1 R,zSi,zOm,zOm,fun i h h'=>?_,a0⟩
   .simp [go_sem]
    exact zWr
   .rcases Nat.lt_or_ge i mid with p|p
    .exact Int.lt_trans (Xr hs p j) hb
    .have:i=mid:=by omega
     subst this;exact hb
  .simp [go_sem,I,t,J,R,T,a1,a2,hw,j,hb]
   refine Keep.loop (mid-P) zOm ⟨P,mid,rfl,zS1 I,zS1 t,zS1 J,zSi,zSi,zOm,zOm,C,fun i h h'=>?_⟩;rcases Nat.lt_or_ge mid i with p|p
   .have:=Xr hs p h;omega
   .have:i=mid:=by omega
    subst this;omega
 .have a3:g=P:=by omega
  subst a3;by_cases l:g<r.ts.length
  .by_cases he:r.ts[g]=x
   .simp [go_sem,I,t,J,R,T,l,he]
    have:x∈r.ts:=he ▸ qn l;simp[this];exact .zsc _
   .simp [go_sem,I,t,J,R,T,l,he]
    have:¬x∈r.ts:=fun h=>by
     obtain⟨i,o,rfl⟩:=wC h;rcases Nat.lt_or_ge i g with p|p
     .have:=C i o p;omega
     .rcases Nat.lt_or_ge g i with h4|h4
      .have:=Xr hs h4 o
       have:=a0 g l zOm;omega
      .have:i=g:=by omega
       subst this;exact he rfl
    simp[this];exact .zsc _
  .simp [go_sem,t,J,R,T,l]
   have:¬x∈r.ts:=fun h=>by
    obtain⟨i,o,rfl⟩:=wC h;have:=C i o zOm;omega
   simp[this];exact .zsc _
theorem qi2(a b)(hl:a.ts.length<=1000000000)(a1:b.ts.length<=1000000000)(hs:sorted b.ts):qd qb 161 [eRel a,eRel b] (eRel ⟨a.ar,a.ts.filter (fun t=>decide (¬t∈b.ts))⟩):=by
 refine qSU call161 func161 rfl ?_;refine tP (fun m U=>∃ k l g,m=a.ts.length-k/\k<=a.ts.length/\U.tm 2 = .ip [aI a.ar,lI a.ts]/\U.tm 3 = .ip [aI b.ar,lI b.ts]/\U.tm 4 = .ptr 0 0/\U.tm 5 = .ptr 1 0/\U.tm 6=aI (k:Nat) /\
  U.mu=[.arr [aI 0,.lst true []],.arr [aI a.ar,l]]++g/\OwnF 2 ([.dead,.dead]++g) 1 l (((a.ts.take k).filter (fun t=>decide (¬t∈b.ts))).map rI)) a.ts.length ?_ ?_
 .exact ⟨0,.lst true [],[],zOm,zOm,zSi,zSi,zSi,zSi,zSi,zSi,by simpa using OwnF.nil zSp⟩
 rintro m U ⟨k,l,g,rfl,hk,P,e3,e4,T,R,hm,C⟩;have C:=C.low (low:=[.dead,.dead]) (low':=[.arr [aI 0,.lst true []],.arr [aI a.ar,l]]) rfl;by_cases o:k<a.ts.length
 .simp [go_sem,P,R,o]
  refine cZ zKr ?_;simp[go_sem,P,e3,R,o];refine tC (has06 b a.ts[k] a1 hs) (.zk (qK b) (.zs .nil)) ?_;have a0:a.ts.take (k+1)=a.ts.take k++[a.ts[k]]:=by rw[List.take_add_one,qw o];rfl
  by_cases hb:a.ts[k]∈b.ts
  .simp [go_sem,R,hb]
   refine Keep.loop (a.ts.length-(k+1)) zOm ⟨k+1,l,g,rfl,zOm,zS1 P,zS1 e3,zS1 e4,zS1 T,?_,zS1 hm,?_⟩
   .simp [go_sem];exact zWr
   .rw [a0,List.filter_append];simpa[go_sem,hb] using C.low (low':=[.dead,.dead]) rfl
  .simp [go_sem,hb]
   refine cZ zKr ?_;simp[go_sem,P,T,R,o,hm];refine fU (low:=[.arr [aI 0,.lst true []],.arr [aI a.ar,l]]) (e:=3) (bt:=8) (z:=0) (xs:=(a.ts.take k).filter (fun t=>decide (¬t∈b.ts))) (ys:=[a.ts[k]]) zSi zSi zSi zOm C (by simp[qz]) ?_ ?_
   .have:=List.length_filter_le (fun t=>decide (¬t∈b.ts)) (a.ts.take k)
    have:=List.length_take_le k a.ts;have h3:[a.ts[k]].length=1:=rfl;omega
   intro a2 I J;simp[go_sem,T,R,J.cells,J.one];refine Keep.loop (a.ts.length-(k+1)) zOm ⟨k+1,a2,I,rfl,zOm,zS1 P,zS1 e3,zS1 e4,zS1 T,?_,zSi,?_⟩
   .simp [go_sem];exact zWr
   .rw [a0,List.filter_append]
    simpa[go_sem,hb] using J.low (low':=[.dead,.dead]) rfl
 .have a3:k=a.ts.length:=by omega
  subst a3;simp[go_sem,P,e4,T,R,hm,C.one];rw[qO]at C;simp at C;exact Rd.rel (r:=⟨a.ar,a.ts.filter (fun t=>!decide (t∈b.ts))⟩) (C.low (low:=[.arr [aI 0,.lst true []],.arr [aI a.ar,l]]) (low':=[.arr [aI a.ar,l],.arr [aI a.ar,l]]) rfl).rdI
theorem in06(a b)(i:a.ts.length<=1000000000)(g:b.ts.length<=1000000000)(j:sorted b.ts):qd qb 112 [eRel a,eRel b] (aB (inOk a b)):=by
 refine qSU call112 func112 rfl ?_;refine fR (qi2 a b i g j) (.zk (qK a) (.zk (qK b) .nil)) ?_;have e:inOk a b=decide (∀ t,t∈a.ts->t∈b.ts):=by
  rw[jX];simp[inOk]
 rw[e];exact .zsc _
theorem qi3(a b)(ha:a.length<=9223372036854775807):qd qb 171 [lI a,lI b] (aB (decide (a=b))):=by
 refine qSV call171 func171 rfl ?_;by_cases p:a.length=b.length
 case neg =>
  simp[go_sem,p];rw[decide_eq_false (by rintro rfl;exact p rfl)];exact .zsc _
 simp[go_sem,p];refine qh.up a.length (fun k U=>U.tm 0=lI a/\U.tm 1=lI b/\U.tm 12=aI a.length/\U.tm 13=aI k/\U.mu=[]/\∀(i:Nat)(h:i<a.length)(r:i<b.length),i<k->a[i]=b[i]) ?_ ?_
 .simp [go_sem,p]
 rintro k U hk ⟨J,P,j,l,R,T⟩;by_cases o:k<a.length
 .have g:k<b.length:=by omega
  simp[go_sem,j,l,R,o]
  try refine cZ zKr ?_
  by_cases t:a[k]=b[k]
  .simp [go_sem,J,P,j,l,o,g,t]
   refine⟨zWr,fun i h r hi=>?_⟩;rcases Vv.1 hi with C|C
   .exact T i h r C
   .subst C;exact t
  .simp [go_sem,J,P,o,g,t]
   rw[decide_eq_false (by rintro rfl;simp at t)];exact .zsc _
 .have I:k=a.length:=by omega
  subst I;simp[go_sem,j,l,R];rw[decide_eq_true (List.ext_getElem p fun i h r=>T i h r h)];exact .zsc _
theorem qi4(a b)(j:a.ts.length<=9223372036854775807):qd qb 130 [eRel a,eRel b] (aB (decide (a=b))):=by
 have g:(a=b)=(a.ar=b.ar/\a.ts=b.ts):=by cases a;cases b;simp
 refine qSV call130 func130 rfl ?_;by_cases i:a.ar=b.ar
 case neg =>
  simp[go_sem,i,g];exact .zsc _
 simp[go_sem,i];refine tC (qi3 a.ts b.ts j) (.zk (zh _) (.zk (zh _) .nil)) ?_;simp[go_sem,i,g];exact .zsc _
theorem WK.ints{full}(l):WK (.lst full (l.map rI)) (lI l):=WK.lst fun r i c g=>by
 obtain⟨n,_,rfl⟩:=qi.1 i;simp at g;subst g;exact HF.sc _
theorem qi5(a b)(hl:a.ts.length<=4611686018427387904):qd qb 85 [eRel a,eRel b] (aB (decide (a=b))):=by
 have o:(a=b)=(a.ar=b.ar/\a.ts=b.ts):=by cases a;cases b;simp
 refine qSV call85 func85 rfl ?_;by_cases p:a.ar=b.ar
 case neg =>
  simp[go_sem,p,o];exact .zsc _
 by_cases j:a.ts.length=b.ts.length
 case neg =>
  simp[go_sem,p,j];rw[decide_eq_false (by rintro rfl;exact j rfl)];exact .zsc _
 simp[go_sem,p,j];refine qh.up a.ts.length (fun k U=>U.tm 2 = .ip [aI a.ar,lI a.ts]/\U.tm 3 = .ip [aI b.ar,lI b.ts]/\U.tm 5=aI k/\U.mu=[]/\∀(i:Nat)(h:i<a.ts.length)(C:i<b.ts.length),i<k->a.ts[i]=b.ts[i]) ?_ ?_
 .simp [go_sem,p]
 rintro k U hk ⟨r,R,t,J,T⟩;by_cases g:k<a.ts.length
 .have l:k<b.ts.length:=by omega
  by_cases I:a.ts[k]=b.ts[k]
  .simp [go_sem,r,t,J,g]
   refine cZ zKr ?_;simp[go_sem,r,R,t,g,l,I];refine⟨zWr,fun i h C hi=>?_⟩;rcases Vv.1 hi with j|j
   .exact T i h C j
   .subst j;exact I
  .simp [go_sem,r,t,J,g]
   refine cZ zKr ?_;simp[go_sem,r,R,t,g,l,I];rw[decide_eq_false (by rintro rfl;exact I rfl)];exact .zsc _
 .have P:k=a.ts.length:=by omega
  subst P;simp[go_sem,r,t,J];rw[decide_eq_true (o ▸ ⟨p,List.ext_getElem j fun i h C=>T i h C h⟩)];exact .zsc _
end E4
namespace EO
open YS
section
variable {J:Type}{s:AV}{K:AV->Mu->Prop}{l:List Int}{mu:Mu}{P:qf}
def FnOk(P:qf)(o:AV){J:Type}(enc:J->AV)(ok:J->Prop)(g:J->AV):Prop:=
 HF o/\∃ l first j,o = .fn (.func l) first j/\∀ x,ok x->∃ i,WKs (first++[enc x]++j) i/\qd P l i (g x)
theorem FnOk.call{o enc ok g}(h:FnOk P o enc ok g){x:J}(p:ok x){det mu K r}(k:K (g x) mu):qc P det mu o [enc x] K r:=by
 obtain⟨_,l,first,j,rfl,h⟩:=h;obtain⟨i,t,C⟩:=h x p;exact .inl ⟨g x,.inl ⟨l,first,j,i,rfl,C,.inl t⟩,k⟩
def qj:AV->Option Nat
 | .sl b _ _ _=>some b
 |_=>none
def OwnI(mu:Mu)(s:AV)(l:List Int):Prop:=(s = .lst true []/\l=[])\/∃ b,s = .sl b 1 0 l.length/\mu[b]?=some (.arr (l.map aI))
def OwnV(mu:Mu)(s:AV)(l:List Int):Prop:=(s = .lst true []/\l=[])\/∃ b cells,s = .sl b 1 0 l.length/\mu[b]?=some (.arr cells)/\l.length<=cells.length/\cells.take l.length=l.map aI
theorem OwnI.v(h:OwnI mu s l):OwnV mu s l:=by
 rcases h with h|⟨b,g,i⟩
 .exact .inl h
 .exact .inr ⟨b,_,g,i,zSp,by rw[zO zSp]⟩
theorem OwnV.one(h:OwnV mu s l):s.one=true:=by
 rcases h with ⟨rfl,_⟩|⟨b,c,rfl,_⟩<;>rfl
theorem OwnV.cells(h:OwnV mu s l):s.cells=[s]:=by
 rcases h with ⟨rfl,_⟩|⟨b,c,rfl,_⟩<;>rfl
theorem OwnV.same{mu'}(h:OwnV mu s l)(g:∀ b,qj s=some b->mu'[b]?=mu[b]?):OwnV mu' s l:=by
 rcases h with h|⟨b,c,rfl,i,j,o⟩
 .exact .inl h
 .exact .inr ⟨b,c,rfl,by rw[g b rfl];exact i,j,o⟩
theorem OwnI.same{mu'}(h:OwnI mu s l)(g:∀ b,qj s=some b->mu'[b]?=mu[b]?):OwnI mu' s l:=by
 rcases h with h|⟨b,rfl,i⟩
 .exact .inl h
 .exact .inr ⟨b,rfl,by rw[g b rfl];exact i⟩
theorem OwnV.lt(h:OwnV mu s l){b}(g:qj s=some b):b<mu.length:=by
 rcases h with ⟨rfl,_⟩|⟨j,c,rfl,i,_⟩
 .cases g
 .cases g;exact(qg.1 i).1
theorem OwnV.rd(h:OwnV mu s l):Rd mu s (lI l):=by
 rcases h with ⟨rfl,rfl⟩|⟨b,cells,rfl,p,t,o⟩
 .exact .wk _ true _ (.hf _ (HF.lst fun r C=>by simp at C))
 .refine .sl b 1 0 _ cells _ p (zUs t) zSp (fun x g=>by
   obtain⟨l,_,rfl⟩:=qi.1 g;rfl) (fun k x y g j=>?_)
  rw[z7]at g;rw[ZE,<-o,jW]at j;split at j
  .rw [g]at j;cases j
   have:x∈cells.take l.length:=by
    refine qU (i:=k) ?_;rw[jW,if_pos (by assumption)];exact g
   rw[o]at this;obtain⟨z,_,rfl⟩:=qi.1 this;exact .zsc _
  grind
theorem aP{t g e bt:Nat}{x ys z}(I:qE P t=some (e,1,bt))(j:(qE P g).isSome=true)(J:qx P e=some (aI z))
  (R:bt<=16384) (T:OwnV mu s l) (U:qz mu x=some (ys.map rI)) (C:l.length+ys.length<=4294967296)
  (k:∀ av mu',OwnI mu' av (l++ys)->(∀ i,i<mu.length->qj s≠some i->mu'[i]?=mu[i]?)->mu.length<=mu'.length->(∀ b,qj av=some b->b=mu.length)->K av mu'):qu P mu #[t,g] s x K:=by
 refine .inl ⟨t,g,e,1,bt,ys.map rI,rfl,I,j,⟨_,J,rfl,rfl⟩,zOm,R,U,yk ys,?_⟩;rcases T with ⟨rfl,rfl⟩|⟨b,cells,rfl,hc,h1,h2⟩
 .refine .inl ⟨[],rfl,fun r hr=>by simp at hr,zUs C,fun h=>?_,fun h=>?_⟩
  .have:ys=[]:=by simpa using h
   subst this;exact k _ _ (.inl ⟨rfl,rfl⟩) (fun _ _ _=>rfl) (qo _) (fun _ h=>by cases h)
  .refine k _ _ (.inr ⟨mu.length,zSp,by simp[ZE]⟩) (fun i o _=>?_) zSp (fun b h=>by cases h;rfl)
   rw[qG o]
 .refine .inr ⟨b,l.length,cells,rfl,hc,zUs h1,zUs C,?_⟩
  have e1:cells.take (l.length*1)++(ys.map rI).flatten=(l++ys).map aI:=by rw[Nat.mul_one,h2,q9,ZE]
  have e2:l.length+(ys.map rI).length=(l++ys).length:=zSp;rw[e1,e2];refine k _ _ (.inr ⟨mu.length,rfl,?_⟩) (fun i o p=>?_) zSp (fun b h=>by cases h;rfl)
  .simp
  .rw [qG (zUs o),yu (fun h=>p (by rw[h];rfl))]
theorem aN{t j e bt:Nat}{x z}(o:qE P t=some (e,1,bt))(g:(qE P j).isSome=true)(p:qx P e=some (aI z))
  (r:bt<=16384) (C:OwnV mu s l) (I:l.length+1<=4294967296)
  (k:∀ av mu',OwnI mu' av (l++[x])->(∀ i,i<mu.length->qj s≠some i->mu'[i]?=mu[i]?)->mu.length<=mu'.length->(∀ b,qj av=some b->b=mu.length)->K av mu'):qu P mu #[t,j] s (.lst true [[aI x]]) K:=
 aP (ys:=[x]) o g p r C rfl I k
theorem sumG(l)(P:l.length<=1000000)(C:∀ k,0<=sumI (l.take k)/\sumI (l.take k)<=1000000):qd qb 116 [lI l] (aI (sumI l)):=by
 refine qSU call116 func116 rfl ?_;refine qh.up l.length (fun k U=>U.tm 6=lI l/\U.tm 7=aI l.length/\U.tm 3=aI (sumI (l.take k))/\U.tm 8=aI k/\U.mu=[]) ?_ ?_
 .simp [go_sem,sumI]
 rintro k U R ⟨I,o,p,r,t⟩;by_cases g:k<l.length
 .have J:=uw l k g
  have i:=C (k+1);rw[J]at i;simp[go_sem,I,o,p,r,t,g]
  grind [zL]
 .have j:k=l.length:=by omega
  subst j;simp[go_sem,o,p,r,t];exact .zsc _
theorem Yh(sc)(g:GSc sc):qd qb 65 [eSc sc] (aI (sumI sc.sC)):=by
 refine qSU call65 func65 rfl ?_;refine fR (sumG _ (zt g.1 zOm) fun k=>zW1 (g.sum k)) (.zk (zh _) .nil) ?_;exact .zsc _
theorem qi6(sc)(g:GSc sc)(s)(i:s<=sc.sC.length):qd qb 164 [eSc sc,aI s] (aI (sumI (sc.sC.take s))):=by
 refine qSV call164 func164 rfl ?_;have j:WKs [.lst false ((sc.sC.map rI).take s)] [lI (sc.sC.take s)] := .cons (by rw[<-List.map_take];exact .hf (zh _)) .nil;simp[go_sem,i];refine⟨⟨_,_,⟨rfl,rfl⟩,(yk sc.sC).ok⟩,?_⟩;refine fR (sumG (sc.sC.take s) (by simp;have:=g.1;omega) fun k=>by rw[List.take_take];have:=g.sum (min k s);omega) j ?_;exact .zsc _
def jw(p:J->Bool):List J->Int->Int
 | [],_ => -1
 |x :: l,i=>if p x=true then i else jw p l (i+1)
theorem Xy(p)(l:List J)(k i h):jw p (l.drop k) i=if p l[k]=true then i else jw p (l.drop (k+1)) (i+1):=by
 rw[zm h,jw]
theorem Uo(p):∀(l:List J)(i),0<=i->decide (0<=jw p l i)=l.any p
 | [],i,h=>by simp[jw]
 |x :: l,i,h=>by
  rw[jw,List.any_cons];cases g:p x with
  |true=>simp[h]
  |false=>simpa using Uo p l (i+1) zOm
theorem qi7(xs y)(J:xs.length<=1000000000):qd qb 219 [lI xs,aI y] (aI (jw (fun x=>decide (x=y)) xs 0)):=by
 refine qSU call219 func219 rfl ?_;refine qh.up xs.length (fun k U=>U.tm 0=lI xs/\U.tm 1=aI y/\U.tm 7=aI xs.length/\U.tm 8=aI k/\U.mu=[]/\jw (fun x=>decide (x=y)) (xs.drop k) k=jw (fun x=>decide (x=y)) xs 0) ?_ ?_
 .simp [go_sem]
 rintro k U P ⟨C,I,l,o,p,i⟩;by_cases g:k<xs.length
 .rw [Xy _ _ _ _ g]at i
  by_cases j:xs[k]=y
  .rw [if_pos (zUs j)]at i
   subst j;simp[go_sem,C,I,l,o,p,g];rw[<-i];exact .zsc _
  .rw [if_neg (zUs j)]at i
   have r:¬y=xs[k]:=fun h=>j h.symm
   simp[go_sem,C,I,l,o,p,g,r]
   grind [zL]
 .have t:k=xs.length:=by omega
  subst t;rw[yh]at i;simp[go_sem,l,o,p];rw[<-i];exact .zsc _
theorem qi8(xs y)(g:xs.length<=1000000000):qd qb 188 [lI xs,aI y] (aB (decide (y∈xs))):=by
 refine qSU call188 func188 rfl ?_;refine tC (qi7 xs y g) (.zk (zh _) (.zs .nil)) ?_;have e:decide (y∈xs)=decide (0<=jw (fun x=>decide (x=y)) xs 0):=by
  rw[Uo _ _ _ zOm,jX,List.any_eq_true];simp
 rw[e];simp[go_sem];exact .zsc _
abbrev lB(xs:List Bool):AV := .lst false (xs.map fun b=>[aB b])
theorem JL(xs):HF (lB xs):=HF.lst fun r g c i=>by
 obtain⟨n,_,rfl⟩:=qi.1 g
 grind [HF.sc]
theorem qi9(xs y)(J:xs.length<=1000000000):qd qb 187 [lB xs,aB y] (aI (jw (fun x=>decide (x=y)) xs 0)):=by
 refine qSU call187 func187 rfl ?_;refine qh.up xs.length (fun k U=>U.tm 0=lB xs/\U.tm 1=aB y/\U.tm 7=aI xs.length/\U.tm 8=aI k/\U.mu=[]/\jw (fun x=>decide (x=y)) (xs.drop k) k=jw (fun x=>decide (x=y)) xs 0) ?_ ?_
 .simp [go_sem]
 rintro k U P ⟨C,I,j,l,o,i⟩;by_cases g:k<xs.length
 .rw [Xy _ _ _ _ g]at i
  by_cases p:xs[k]=y
  .rw [if_pos (zUs p)]at i
   subst p;simp[go_sem,C,I,j,l,o,g];rw[<-i];exact .zsc _
  .rw [if_neg (zUs p)]at i
   have r:(y == xs[k])=false:=by grind
   simp[go_sem,C,I,j,l,o,g,r]
   grind [zL]
 .have t:k=xs.length:=by omega
  subst t;rw[yh]at i;simp[go_sem,j,l,o];rw[<-i];exact .zsc _
theorem qjA(xs y)(g:xs.length<=1000000000):qd qb 134 [lB xs,aB y] (aB (decide (y∈xs))):=by
 refine qSU call134 func134 rfl ?_;refine tC (qi9 xs y g) (.zk (JL _) (.zs .nil)) ?_;have e:decide (y∈xs)=decide (0<=jw (fun x=>decide (x=y)) xs 0):=by
  rw[Uo _ _ _ zOm,jX,List.any_eq_true];simp
 rw[e];simp[go_sem];exact .zsc _
end
end EO
namespace F1
open Y1 YF E3 EO
abbrev cMa(x:Mo):List AV:=cMd x.m++(cTS x.ts++[aI x.n])
abbrev eMa(x:Mo):AV := .ip (cMa x)
abbrev cPl(p:Pl):List AV:=[aI p.st,lPm p.env]
abbrev ePl(p:Pl):AV := .agg (cPl p)
theorem JM(l):HF (lSt l):=HF.lst fun r i c g=>by
 obtain⟨n,_,rfl⟩:=qi.1 i;simp at g;subst g;exact Jt _
theorem Xz(m):∀ c,c∈cMd m->HF c:=by
 intro c g;simp at g;rcases g with rfl|rfl|rfl|rfl
 .exact zh _
 .exact HF.sc _
 .exact JM _
 .exact HF.sc _
theorem zr(m):HF (eMd m):=HF.agg (Xz m)
theorem zN(x):HF (eMa x):=HF.ip fun c g=>by
 rcases qH.1 g with g|g
 .exact Xz _ c g
 .rcases qH.1 g with g|g
  .exact Uk _ c g
  .rw [qT]at g;subst g;exact HF.sc _
theorem Up(p):HF (ePl p):=HF.agg fun c g=>by
 simp at g;rcases g with rfl|rfl
 .exact HF.sc _
 .exact vZ _
theorem wk3(x p n):WKs [eMa x,ePl p,eNd n] [eMa x,ePl p,eNd n] := .zk (zN x) (.zk (Up p) (.zk (qJ n) .nil))
abbrev errV(e:Int):AV := .ifc 48 (aI e)
theorem qL(e):HF (errV e):=HF.ifc (HF.sc _)
def endE:XE Rl->AEnd
 | .ok r => .ret (eRel r)
 | .error e => .pan (errV e)
def endN:XE Int->AEnd
 | .ok r => .ret (aI r)
 | .error e => .pan (errV e)
def endB:XE Bool->AEnd
 | .ok r => .ret (aB r)
 | .error e => .pan (errV e)
def end2:XE (Rl×Rl)->AEnd
 | .ok r => .ret (.tup [eRel r.1,eRel r.2])
 | .error e => .pan (errV e)
@[go_sem] theorem endE_ok(r):endE (.ok r) = .ret (eRel r):=rfl
@[go_sem] theorem endE_err(e):endE (.error e) = .pan (errV e):=rfl
@[go_sem] theorem endN_ok(r):endN (.ok r) = .ret (aI r):=rfl
@[go_sem] theorem endN_err(e):endN (.error e) = .pan (errV e):=rfl
@[go_sem] theorem endB_ok(r):endB (.ok r) = .ret (aB r):=rfl
@[go_sem] theorem endB_err(e):endB (.error e) = .pan (errV e):=rfl
@[go_sem] theorem end2_ok(r):end2 (.ok r) = .ret (.tup [eRel r.1,eRel r.2]):=rfl
@[go_sem] theorem end2_err(e):end2 (.error e) = .pan (errV e):=rfl
theorem uZ(e):qR qb 139 [aI e] (.pan (errV e)):=by
 refine za.of_sound ?_;refine qSW call139 func139 rfl {} ?_;simp[go_sem];exact⟨_,_,⟨rfl,rfl⟩,.hf _ (qL _)⟩
theorem wkI(e):WKs [aI e] [aI e] := .zs .nil
theorem Uq(r e):qR qb 210 [eRel r,aI e] (if e=0 then .ret (eRel r) else .pan (errV e)):=by
 refine za.of_sound ?_;refine qSW call210 func210 rfl {} ?_;by_cases h:e=0
 .simp [go_sem,h]
  exact .hf _ (qK r)
 .simp [go_sem,h]
  refine fZ (uZ e) (wkI e) ?_;simp[go_sem];exact .hf _ (qL _)
theorem qjB(x)(g:GSc x.m.sc):qd qb 83 [eTS x.ts,eMd x.m] (eMa x):=by
 refine qSU call83 func83 rfl ?_;refine fM ?_;refine fR (Yh x.m.sc g) (.zk (zA _) .nil) ?_;exact .hf _ (zN x)
theorem qjC(mu b e)(g:mu[b]?=some (.arr [aI e])):yS qb 82 [.ptr b 0] mu none fun mu'=>mu'=mu:=by
 refine yS.of_awp call82 func82 rfl ⟨_,_,_,_,rfl⟩ (vR zKr) zKr zKr (pl:={}) ?_;simp[go_sem]
theorem qjD(mu b y e)(g:mu[b]?=some (.arr [aI y])):yS qb 82 [.ptr b 0] mu (some (errV e)) fun mu'=>mu'=mu.set b (.arr [aI e]):=by
 refine yS.of_awp call82 func82 rfl ⟨_,_,_,_,rfl⟩ (vR zKr) zKr zKr (pl:={}) ?_;simp[go_sem,g]
end F1
namespace EP
open E1 EO
section
variable {J:Type}{cs:List (Int×AV)}{g:List (Int×List Int)}{mu:Mu}{b:Nat}
theorem keyI:KeyT qb 3 (fun n:Int=>aI n) (fun _=>True):=by
 refine⟨fun a b _ _=>?_,fun a _=>zSi⟩;simp[go_sem]
theorem yb{l:List J}{n}(h):l.take (n+1)=l.take n++[l[n]]:=by rw[List.take_add_one,qw h];rfl
def cntK(f:Int->Int)(ts:List Int):List (Int×Int):=ts.foldl (fun m t=>setK (f t) ((getK (f t) m).getD 0+1) m) []
theorem nG(f ts t):cntK f (ts++[t])=setK (f t) ((getK (f t) (cntK f ts)).getD 0+1) (cntK f ts):=by simp[cntK,vy]
theorem Ur(f)(ts:List Int):∀ n,n<=ts.length->∀ k,0<=(getK k (cntK f (ts.take n))).getD 0/\(getK k (cntK f (ts.take n))).getD 0<=n/\(0<(getK k (cntK f (ts.take n))).getD 0↔∃ t,t∈ts.take n/\f t=k)
 | 0,_,k=>by simp[cntK,getK]
 |n+1,h,k=>by
  obtain⟨l,p,o⟩:=Ur f ts n zOm k;have i:n<ts.length:=zOm;obtain⟨g1,r,_⟩:=Ur f ts n zOm (f ts[n]);rw[yb i,nG,j7];by_cases j:k=f ts[n]
  .rw [if_pos j]
   simp only[Option.getD_some];exact⟨zOm,zOm,fun _=>⟨ts[n],List.mem_append_right _ (qT.2 rfl),j.symm⟩,fun _=>zOm⟩
  .rw [if_neg j]
   refine⟨l,zOm,o.trans ⟨fun⟨t,g,e⟩=>⟨t,jj _ g,e⟩,fun⟨t,g,e⟩=>?_⟩⟩;rcases qH.1 g with g|g
   .grind
   grind
theorem nH(f ts k):0<=(getK k (cntK f ts)).getD 0/\(0<(getK k (cntK f ts)).getD 0↔∃ t,t∈ts/\f t=k):=by
 have:=Ur f ts ts.length (qo _) k
 grind
def grpK(m:Int)(ys:List Int):List (Int×List Int):=ys.foldl (fun g y=>setK (y / m) ((getK (y / m) g).getD []++[y % m]) g) []
theorem nI(m ys y):grpK m (ys++[y])=setK (y / m) ((getK (y / m) (grpK m ys)).getD []++[y % m]) (grpK m ys):=by simp[grpK,vy]
theorem Us(m)(ys:List Int):∀ n,n<=ys.length->∀ k,(getK k (grpK m (ys.take n))).getD []=((ys.take n).filter fun y=>decide (y / m=k)).map fun y=>y % m
 | 0,_,k=>by simp[grpK,getK]
 |n+1,h,k=>by
  have j:=Us m ys n zOm;have i:n<ys.length:=zOm;rw[yb i,nI,j7,List.filter_append,q9];by_cases g:k=ys[n] / m
  .rw [if_pos g,Option.getD_some,<-g,j k]
   simp[g]
  .rw [if_neg g,j k]
   have:¬ys[n] / m=k:=fun e=>g e.symm
   simp[this]
theorem nJ{i}(q:Int->Int)(v:List (Int×i)->Int->i):∀(l:List Int)(g),(g.map Prod.fst).Nodup->((l.foldl (fun g y=>setK (q y) (v g y) g) g).map Prod.fst).Nodup
 | [],g,h=>h
 |y :: l,g,h=>nJ q v l _ (uW h)
theorem qjE(m ys):((grpK m ys).map Prod.fst).Nodup:=nJ (fun y=>y / m) (fun g y=>(getK (y / m) g).getD []++[y % m]) ys [] zSp
theorem nK{g}(k v w):∀{es:List (Int×J)}{fs:List (Int×g)},es.map Prod.fst=fs.map Prod.fst->(setK k v es).map Prod.fst=(setK k w fs).map Prod.fst
 | [],[],_=>rfl
 |e :: es,f :: fs,h=>by
  simp only[List.map_cons,Jb]at h;unfold setK;rw[<-h.1];split
  .simp [h.2]
  .simp [h.1,nK k v w h.2]
 | [],_ :: _,h=>by simp at h
 |_ :: _,[],h=>by simp at h
theorem nL{g}(k):∀{es:List (Int×J)}{fs:List (Int×g)},es.map Prod.fst=fs.map Prod.fst->(getK k es=none↔getK k fs=none)
 | [],[],_=>by simp[getK]
 |e :: es,f :: fs,h=>by
  simp only[List.map_cons,Jb]at h;unfold getK;rw[<-h.1];split
  .simp
  .exact nL k h.2
 | [],_ :: _,h=>by simp at h
 |_ :: _,[],h=>by simp at h
structure GrpM (mu:Mu) (b:Nat) (g:List (Int×List Int)) (cs:List (Int×AV)):Prop where
 at0:mu[b]?=some (.mp (encK (fun n:Int=>aI n) id cs))
 keys:cs.map Prod.fst=g.map Prod.fst
 own:∀ k v,getK k cs=some v->∃ l,getK k g=some l/\OwnI mu v l
 inj:∀ k k' v v' x,getK k cs=some v->getK k' cs=some v'->qj v=some x->qj v'=some x->k=k'
 ne:∀ k v,getK k cs=some v->qj v≠some b
theorem GrpM.cur(h:GrpM mu b g cs)(k):OwnI mu ((getK k cs).getD (.lst true [])) ((getK k g).getD []):=by
 cases i:getK k cs with
 |none=>rw[(nL k h.keys).1 i];exact .inl ⟨rfl,rfl⟩
 |some v=>obtain⟨l,j,o⟩:=h.own k v i;rw[j];exact o
theorem GrpM.step{mu'}(h:GrpM mu b g cs){k av l}(ho:OwnI mu' av l)(hs:∀ i,i<mu.length->qj ((getK k cs).getD (.lst true []))≠some i->mu'[i]?=mu[i]?)(hb:∀ x,qj av=some x->x=mu.length) :
  mu'[b]?=some (.mp (encK (fun n:Int=>aI n) id cs))/\GrpM (mu'.set b (.mp (encK (fun n:Int=>aI n) id (setK k av cs)))) b (setK k l g) (setK k av cs):=by
 have R:b<mu.length:=(qg.1 h.at0).1;have T:qj ((getK k cs).getD (.lst true []))≠some b:=by
  cases j:getK k cs with
  |none=>simp[qj]
  |some v=>exact h.ne k v j
 have U:=hs b R T;have C:b<mu'.length:=by
  grind
 have a3:qj av≠some b:=fun e=>by grind
 have keep:∀{v:AV}{l:List Int},OwnI mu' v l->qj v≠some b->OwnI (mu'.set b (.mp (encK (fun n:Int=>aI n) id (setK k av cs)))) v l:=fun o hn=>o.same fun x I=>by
  grind
 have a0:∀{p:Int}{v:AV}{l:List Int},p≠k->getK p cs=some v->OwnI mu v l->OwnI mu' v l:=fun a1 j o=>o.same fun x I=>by
  have a2:=o.v.lt I;refine hs x a2 fun e=>?_
  cases hc:getK k cs with
  |none=>grind [qj]
  |some w=>rw[hc]at e;exact a1 (h.inj _ _ _ _ x j hc I e)
 refine⟨by rw[U];exact h.at0,by rw[qI C],nK k _ _ h.keys,fun p v j=>?_,fun k1 k2 v1 v2 x r t h1 h2=>?_,fun p v j=>?_⟩
 .rw [j7]at j⊢
  by_cases e:p=k
  .grind
  .rw [if_neg e]at j⊢
   obtain⟨l',h1,h2⟩:=h.own p v j;exact⟨l',h1,keep (a0 e j h2) (h.ne p v j)⟩
 .rw [j7]at r t
  have lt:∀{p v},getK p cs=some v->qj v=some x->x<mu.length:=fun j I=>by
   obtain⟨l',_,o⟩:=h.own _ _ j;exact o.v.lt I
  by_cases P:k1=k
  .by_cases J:k2=k
   .rw [P,J]
   .rw [if_pos P]at r;rw[if_neg J]at t;grind
  .by_cases J:k2=k
   .rw [if_neg P]at r;rw[if_pos J]at t;grind
   .rw [if_neg P]at r;rw[if_neg J]at t
    exact h.inj _ _ _ _ x r t h1 h2
 .rw [j7]at j
  by_cases e:p=k
  .grind
  .rw [if_neg e]at j;exact h.ne p v j
theorem GrpM.nil(h:mu[b]?=some (.mp [])):GrpM mu b [] []:=⟨h,rfl,fun k v g=>by simp[getK]at g,fun k i v j x g=>by simp[getK]at g,fun k v g=>by simp[getK]at g⟩
theorem GrpM.rd(h:GrpM mu b g cs)(C:(g.map Prod.fst).Nodup):Rd mu (.mp b) (.im (encK (fun n:Int=>aI n) lI g)):=by
 have r:cs.length=g.length:=by have:=congrArg List.length h.keys;grind
 have t:(cs.map Prod.fst).Nodup:=by rw[h.keys];exact C
 refine .mp b _ _ h.at0 (by simp[encK,r]) (fun k x y i j=>?_) (fun k x y i j=>?_)
 .have e:=congrArg (fun l=>l[k]?) h.keys
  simp only[zf]at e i j;cases o:cs[k]? with
  |none=>grind
  |some c =>
   cases p:g[k]? with
   |none=>grind
   |some d =>
    rw[o]at i;rw[p]at j;rw[o,p]at e;cases i;cases j;simp only[zg,qr]at e;simp only[e];exact .zsc _
 .have e:=congrArg (fun l=>l[k]?) h.keys
  simp only[zf]at e i j;cases o:cs[k]? with
  |none=>grind
  |some c =>
   cases p:g[k]? with
   |none=>grind
   |some d =>
    rw[o]at i;rw[p]at j;rw[o,p]at e;cases i;cases j;simp only[zg,qr]at e;obtain⟨l,I,J⟩:=h.own c.1 c.2 ((Qq t).2 (qU o));rw[e]at I;have:=(Qq C).2 (qU p:(d.1,d.2)∈g);rw[I]at this;cases this;exact J.v.rd
theorem qjF(n m x y):(x.flatMap fun s=>((getK (s % n) (grpK m y)).getD []).map fun t=>s / n*m+t)=joL n m x y:=by
 unfold joL;congr 1;funext s;have:=Us m y y.length (qo _) (s % n);simp_all
end
end EP
namespace EQ
open E1 EJ EM EN EO
theorem aM{P mu}{t g e bt n:Nat}{z K}(i:qE P t=some (e,1,bt))(j:P.underlying g=some (.int .i64))(l:qx P e=some (aI z))(o:bt<=16384)(p:0<n)(C:n<=4294967296)
  (k:∀ c,K (.sl mu.length 1 0 n) (mu++[.arr c])):qu P mu #[t,g] (.lst true []) (aI n) K:=
 .inr (.inr ⟨t,g,e,1,bt,_,n,[],rfl,i,j,l,rfl,rfl,zOm,o,rfl,p,rfl,fun r I=>by simp at I,zUs C,by simpa using k _⟩)
theorem growE(mu)(n:Nat)(I:n<=1000000):qy qb 142 [.lst true [],aI n] mu fun e m=>∃ av,e = .ret av/\OwnV m av []/\(∀ i,i<mu.length->m[i]?=mu[i]?)/\mu.length<=m.length/\∀ b,qj av=some b->mu.length<=b:=by
 refine qSW call142 func142 rfl {} ?_;have j:qm.wrap 0=0:=zWr;have o:qm.wrap (n:Int)=n:=zWr;have g:¬(n:Int)<0:=zOm;by_cases p:n=0
 .subst p
  simp[go_sem,j];exact⟨.inl ⟨rfl,rfl⟩,by simp[qj]⟩
 .have l:0<n:=by omega
  simp[go_sem,j,o,g,l];refine⟨⟨_,_,⟨rfl,rfl⟩,fun r t=>by simp at t⟩,?_⟩;refine aM (e:=3) (bt:=8) (z:=0) zSi zSi zSi zOm l zOm ?_;intro c;simp[go_sem];refine⟨.inr ⟨mu.length,c,rfl,zSp,zSp,zSp⟩,fun i C=>by rw[qG C],by simp[qj]⟩
theorem qjG(mu a b)(ha:a.length<=100000)(hb:b.length<=100000):qy qb 88 [.lst true [[lI a],[lI b]]] mu fun e m=>∃ av,e = .ret av/\OwnI m av (a++b)/\(∀ i,i<mu.length->m[i]?=mu[i]?)/\mu.length<=m.length/\∀ x,qj av=some x->mu.length<=x:=by
 refine qSW call88 func88 rfl {} ?_;have v1:qm.wrap 1=1:=zWr;have v2:qm.wrap 2=2:=zWr;simp[go_sem];have n0:¬((a.length:Int)+b.length)<0:=zOm;refine qh.up 2 (fun k U=>U.tm 0 = .lst true [[lI a],[lI b]]/\U.tm 3=aI ((if 0<k then (a.length:Int) else 0)+(if 1<k then (b.length:Int) else 0))/\U.tm 9 = .lst true [[lI a],[lI b]]/\U.tm 10=aI 2/\U.tm 11=aI k/\U.mu=mu) ?_ ?_
 .simp [go_sem]
 rintro k U hk ⟨e0,e3,e9,t,C,hm⟩;by_cases I:k<2
 .have:k=0\/k=1:=by omega
  rcases this with rfl|rfl
  .have w1:qm.wrap (a.length:Int)=a.length:=zWr
   have n1:¬(a.length:Int)<0:=zOm;simp[go_sem, *]
  .have w1:qm.wrap ((a.length:Int)+b.length)=a.length+b.length:=zWr
   simp[go_sem, *]
 .have:k=2:=by omega
  subst this;have g:=growE mu (a.length+b.length) zOm;simp[go_sem,e3,t,C,hm];refine fQ (zUs g) ?_ ?_
  .rintro r m ⟨av,h,p,hs,hl,J⟩
   cases h;simp[go_sem,e0];refine qh.up 2 (fun k U=>U.tm 25 = .lst true [[lI a],[lI b]]/\U.tm 26=aI 2/\U.tm 27=aI k/\(if k=0 then OwnV U.mu (U.tm 6) [] else OwnI U.mu (U.tm 6) (if k=1 then a else a++b))/\(∀ i,i<mu.length->U.mu[i]?=mu[i]?)/\mu.length<=U.mu.length/\∀ x,qj (U.tm 6)=some x->mu.length<=x) ?_ ?_
   .simp_all [go_sem]
   rintro k a1 hk ⟨f25,f26,f27,p,hs,hl,J⟩;by_cases I:k<2
   .have:k=0\/k=1:=by omega
    rcases this with rfl|rfl
    .rw [if_pos rfl]at p
     simp[go_sem,f25,f26,f27];refine aP (e:=3) (bt:=8) (z:=0) (l:=[]) (ys:=a) zSi zSi zSi zOm p (by simp[qz]) zSo ?_;intro P j o R T a0;simp at o;simp[go_sem,f25,f26,f27,v1];refine⟨o,fun i hi=>?_,zOm,fun x hx=>?_⟩
     .grind
     grind
    .rw [zIn,if_pos rfl]at p
     simp[go_sem,f25,f26,f27];refine aP (e:=3) (bt:=8) (z:=0) (l:=a) (ys:=b) zSi zSi zSi zOm p.v (by simp[qz]) zOm ?_;intro P j o R T a0;simp[go_sem,f25,f26,f27,v2];refine⟨o,fun i hi=>?_,zOm,fun x hx=>?_⟩
     .grind
     grind
   .have:k=2:=by omega
    simp_all[go_sem]
  grind
theorem qjH(mu):qy qb 140 [.lst true []] mu fun e m=>e = .ret (.tup [])/\m=mu:=by
 refine⟨call140,fun G w o s g=>?_⟩;obtain⟨v,rfl,i⟩:=g.one_inv;obtain⟨p,cap,rfl⟩:∃ p cap,v = .slice p 0 cap:=by cases i<;>exact⟨_,_,rfl⟩
 refine(Tryz.slices_Sort_int_none p cap w).mono fun e r ⟨j,l⟩=>?_
 subst l;exact⟨G,mu,.refl s,.inl ⟨_,_,⟨rfl,rfl⟩,j,.tup [] #[] rfl zSp⟩⟩
theorem sortA(mu av l)(r:l.length<=1000000)(j:OwnI mu av l):qy qb 140 [av] mu fun e m=>e = .ret (.tup [])/\OwnI m av (srtI l)/\(∀ i,qj av≠some i->m[i]?=mu[i]?)/\m.length=mu.length:=by
 rcases j with ⟨rfl,rfl⟩|⟨b,rfl,g⟩
 .refine (qjH mu).monoR ?_
  rintro e m ⟨rfl,rfl⟩;exact⟨rfl,.inl ⟨rfl,by simp[srtI]⟩,fun _ _=>rfl,rfl⟩
 .refine (sortE g zOm).monoR ?_
  rintro e m ⟨rfl,rfl⟩;have o:b<mu.length:=(qg.1 g).1;exact⟨rfl,.inr ⟨b,by rw[Jy],by rw[qI o]⟩,fun i p=>by rw[yu (fun e=>p (by rw[e];rfl))],zSp⟩
theorem qjI(mu av l)(o:l.length<=1000000)(p:OwnI mu av l):qy qb 141 [av] mu fun e m=>∃ x,e = .ret x/\OwnV m x (cmpc eqI l)/\(∀ i,qj av≠some i->m[i]?=mu[i]?)/\m.length=mu.length/\∀ b,qj x=some b->qj av=some b:=by
 rcases p with ⟨rfl,rfl⟩|⟨b,rfl,g⟩
 .refine qSW call141 func141 rfl {} ?_
  simp[go_sem];exact .inl ⟨rfl,rfl⟩
 .refine (qi1 mu b l o g).monoR ?_
  rintro e m ⟨cells,rfl,rfl,I,j⟩;have r:b<mu.length:=(qg.1 g).1;refine⟨_,rfl,.inr ⟨b,cells,rfl,by rw[qI r],?_,j⟩,fun i t=>by rw[yu (fun e=>t (by rw[e];rfl))],zSp,fun x C=>C⟩;have:=congrArg List.length j;simp at this;omega
theorem XA(mu P av l)(R:l.length<=1000000)(p:OwnI mu av l):qy qb 87 [aI P,av] mu fun e m=>∃ x,e = .ret (.agg [aI P,x])/\OwnV m x (ofL l)/\(∀ i,i<mu.length->qj av≠some i->m[i]?=mu[i]?)/\mu.length<=m.length/\∀ b,qj x=some b->qj av=some b:=by
 refine qSW call87 func87 rfl {} ?_;have t:OwnI (mu++[.arr [aI 0,.lst true []]]) av l:=p.same fun b T=>by rw[qG (p.v.lt T)]
 have C:qj av≠some mu.length:=fun h=>zW1 (p.v.lt h)
 simp[go_sem];refine fQ (sortA _ av l R t) ?_ ?_
 .rintro r m ⟨h,I,a0,J⟩
  cases h;have a1:m.length=mu.length+1:=zUs J;simp[go_sem];refine fQ (qjI _ av _ (by rw[Jy];exact R) I) ?_ ?_
  .rintro r U ⟨x,h,g,a2,a3,j⟩
   cases h;rw[qiZ]at g;have hc:U[mu.length]?=some (.arr [aI 0,.lst true []]):=by grind
   have o:∀ c,(U.set mu.length c)[mu.length]?=some c:=fun c=>qI zOm
   have hx:qj r≠some mu.length:=fun h=>C (j _ h)
   simp[go_sem,hc,o,g.one,g.cells];refine⟨?_,fun i hi hn=>?_,zOm,j⟩
   .exact g.same fun b T=>by grind
   grind
  grind
 grind
theorem aD{mu j av l}(h:OwnV mu av l):Rd mu (.agg [aI j,av]) (eRel ⟨j,l⟩):=by
 refine .agg _ _ rfl fun k u v g i=>?_
 match k with
 | 0=>simp at g i;subst g;subst i;exact .zsc _
 | 1=>simp at g i;subst g;subst i;exact h.rd
 |k+2=>simp at g
theorem jT(a b)(J:a.ts.length<=100000)(l:b.ts.length<=100000):qd qb 46 [eRel a,eRel b] (eRel (unR a b)):=by
 refine qSU call46 func46 rfl ?_;refine fD [0,1,2,3,4,5,6,7,8,9] [(0,0,[]),(1,0,[]),(2,0,[]),(3,0,[]),(4,0,[]),(5,0,[]),(6,0,[]),(7,1,[1]),(8,1,[]),(9,1,[])] zKr zKr zSi ?_;simp[go_sem];refine fQ (qjG _ a.ts b.ts J l) ?_ ?_
 .rintro r m ⟨t,h,P,R,hl,T⟩
  cases h;have o:=R 0 zSp;simp at o;have g:qj r≠some 0:=fun h=>by grind
  simp[go_sem];refine fQ (XA m a.ar r _ zSo P) ?_ ?_
  .rintro r U ⟨x,h,i,p,a0,C⟩
   cases h;have I:=p 0 (qg.1 o).1 g;rw[o]at I;have j:∀ c,(U.set 0 c)[0]?=some c:=fun c=>qI (qg.1 I).1
   have hx:qj x≠some 0:=fun h=>g (C _ h)
   simp[go_sem,I,j,i.one];refine aD ?_;exact i.same fun b l=>by rw[yu (fun e=>hx (by rw[e];exact l))]
  grind
 grind
end EQ
namespace ER
open E1 EO EP EQ
theorem XB(l C p)(hf:FnOk qb C (fun x:Int=>aI x) (·∈l) (fun x=>aB (p x)))(hl:l.length<=1000000):qd qb 91 [lI l,C] (lI (l.filter p)):=by
 refine qSU call91 func91 rfl ?_;refine tP (fun m U=>∃ k,m=l.length-k/\k<=l.length/\U.tm 1=C/\U.tm 8=lI l/\U.tm 9=aI l.length/\U.tm 10=aI (k:Nat)/\OwnI U.mu (U.tm 5) ((l.take k).filter p)) l.length ?_ ?_
 .exact ⟨0,zOm,zOm,zSi,zSi,zSi,zSi,.inl ⟨zSi,rfl⟩⟩
 rintro m U ⟨k,rfl,hk,I,J,o,g,r⟩;by_cases i:k<l.length
 .have w1:=zWk k
  have a0:((l.take k).filter p).length<=k:=zt (List.length_filter_le _ _) zSo;simp[go_sem,I,J,o,g,i];refine FnOk.call (enc:=fun x:Int=>aI x) hf (qn i) ?_;cases hp:p l[k] with
  |true =>
   have P:(l.take (k+1)).filter p=(l.take k).filter p++[l[k]]:=by rw[yb i,List.filter_append];simp[hp]
   simp[go_sem];refine aN (e:=3) (bt:=8) (z:=0) (l:=(l.take k).filter p) zSi zSi zSi zOm r.v zOm ?_;intro t j R _ _ _;simp[go_sem,g,w1];refine Keep.loop (l.length-(k+1)) zOm ⟨k+1,rfl,zOm,zS1 I,zS1 J,zS1 o,zSi,?_⟩;rw[P];simpa[go_sem] using R
  |false =>
   have P:(l.take (k+1)).filter p=(l.take k).filter p:=by rw[yb i,List.filter_append];simp[hp]
   simp[go_sem,g,w1];refine Keep.loop (l.length-(k+1)) zOm ⟨k+1,rfl,zOm,zS1 I,zS1 J,zS1 o,zSi,?_⟩;rw[P];simpa[go_sem] using r
 .have T:k=l.length:=by omega
  subst T;rw[qO]at r;simp[go_sem,o,g];exact r.v.rd
theorem sameU(x):qd qb 90 [aI x] (aI x):=by
 refine qSU call90 func90 rfl ?_;exact .zsc _
abbrev imC(l:List (Int×Int)):AV := .im (encK (fun n:Int=>aI n) (fun n:Int=>aI n) l)
theorem ZG(l):HF (imC l):=HF.im fun p g=>by
 obtain⟨q,_,rfl⟩:=qi.1 g;exact⟨HF.sc _,HF.sc _⟩
theorem setU(r fv f)(hf:FnOk qb fv (fun x:Int=>aI x) (·∈r.ts) (fun x=>aI (f x)))(hl:r.ts.length<=1000000):qd qb 89 [eRel r,fv] (imC (cntK f r.ts)):=by
 refine qSU call89 func89 rfl ?_;obtain⟨B,hB⟩:∃ B,B=AV.mp 0:=⟨_,rfl⟩;refine qh.up r.ts.length (fun k U=>U.tm 1=fv/\U.tm 5=B/\U.tm 10=lI r.ts/\U.tm 11=aI r.ts.length/\U.tm 12=aI k/\U.mu[0]?=some (.mp (encK (fun n:Int=>aI n) (fun n:Int=>aI n) (cntK f (r.ts.take k))))) ?_ ?_
 .simp [go_sem,cntK,encK,hB]
 rintro k U hk ⟨e1,e5,p,j,l,J⟩;by_cases g:k<r.ts.length
 .have w1:=zWk k
  obtain⟨c1,c2,_⟩:=Ur f r.ts k zOm (f r.ts[k]);have hs:=nG f (r.ts.take k) r.ts[k];rw[<-yb g]at hs;have a0:=keyI.look (et:=3) (t:=163) zSi (mu:=U.mu) (m := .mp 0) (venc:=fun n:Int=>aI n) (es:=cntK f (r.ts.take k)) (by simp only[jN,J]) (k:=f r.ts[k]) trivial (fun _ _=>trivial) (z:=aI 0) zSi false;have o:yj qb U.mu 163 B (aI (f r.ts[k])) false=some (aI ((getK (f r.ts[k]) (cntK f (r.ts.take k))).getD 0)):=by
   rw[hB];refine Eq.trans a0 ?_;cases getK (f r.ts[k]) (cntK f (r.ts.take k))<;>rfl
  have i:jB qb U.mu 163 (.mp 0) (aI (f r.ts[k])) (aI ((getK (f r.ts[k]) (cntK f (r.ts.take k))).getD 0+1))=_:=keyI.update (et:=3) (t:=163) zSi (mu:=U.mu) (b:=0) (venc:=fun n:Int=>aI n) (es:=cntK f (r.ts.take k)) J (k:=f r.ts[k]) (v:=(getK (f r.ts[k]) (cntK f (r.ts.take k))).getD 0+1) trivial (fun _ _=>trivial);rw[<-hs,<-hB]at i;have R:0<U.mu.length:=(qg.1 J).1;generalize (getK (f r.ts[k]) (cntK f (r.ts.take k))).getD 0=c at *
  have w2:qm.wrap (c+1)=c+1:=zWr;simp[go_sem,e1,e5,p,j,l,g];refine FnOk.call (enc:=fun x:Int=>aI x) hf (qn g) ?_;simp[go_sem,o,w2];subst hB;refine tA _ i ?_;simp[go_sem,e1,e5,p,j,l,g,w1,R]
 .have a1:k=r.ts.length:=by omega
  subst a1;rw[qO]at J;simp[go_sem,e5,j,l];rw[hB];exact .mp 0 _ _ J rfl (fun k x y T hy=>by rw[T]at hy;cases hy;obtain⟨q,_,e⟩:=qi.1 (qU T);rw[<-e];exact .zsc _) (fun k x y T hy=>by rw[T]at hy;cases hy;obtain⟨q,_,e⟩:=qi.1 (qU T);rw[<-e];exact .zsc _)
theorem FnOk.same(ok):FnOk qb (.fn (.func 90) [] []) (fun x:Int=>aI x) ok (fun x=>aI x):=
 ⟨HF.fn zSp zSp,_,[],[],rfl,fun x _=>⟨_,.zs .nil,sameU x⟩⟩
theorem XC(mu f ts k):yj qb mu 163 (imC (cntK f ts)) (aI k) false=some (aI ((getK k (cntK f ts)).getD 0)):=by
 have:=keyI.look (et:=3) (t:=163) zSi (mu:=mu) (m:=imC (cntK f ts)) (venc:=fun n:Int=>aI n) (es:=cntK f ts) rfl (k:=k) trivial (fun _ _=>trivial) (z:=aI 0) zSi false;simp only[yj];refine Eq.trans this ?_;cases getK k (cntK f ts)<;>rfl
theorem qjJ(f ts x):qd qb 92 [aI x,.ip [imC (cntK f ts)]] (aB (decide (0<(getK x (cntK f ts)).getD 0))):=by
 refine qSV call92 func92 rfl ?_;have g:=fun C=>XC C f ts x
 generalize imC (cntK f ts)=B at *
 simp[go_sem,g];exact .zsc _
theorem qjK(f ts x):qd qb 143 [aI x,.ip [imC (cntK f ts)]] (aB (decide ((getK x (cntK f ts)).getD 0=0))):=by
 refine qSV call143 func143 rfl ?_;have g:=fun C=>XC C f ts x
 generalize imC (cntK f ts)=B at *
 simp[go_sem,g];exact .zsc _
theorem yU{x}(h:HF x):HF (.ip [x]):=HF.ip fun c g=>by simp at g;subst g;exact h
theorem nM(ts x):(0<(getK x (cntK (fun x=>x) ts)).getD 0↔x∈ts)/\((getK x (cntK (fun x=>x) ts)).getD 0=0↔¬x∈ts):=by
 obtain⟨l,g⟩:=nH (fun x=>x) ts x;have i:(∃ t,t∈ts/\t=x)↔x∈ts:=⟨fun⟨t,j,e⟩=>e ▸ j,fun h=>⟨x,h,rfl⟩⟩;rw[i]at g;exact⟨g,by rw[<-g];omega⟩
theorem Rd.ip1{mu b x y}(j:mu[b]?=some (.arr [x]))(h:Rd mu x y):Rd mu (.ptr b 0) (.ip [y]):=by
 refine .ptr b 0 [x] [y] j zSp fun k u v i g=>?_
 match k with
 | 0=>simp at i g;subst i;subst g;exact h
 |k+1=>simp at g
theorem JN(a b)(o:a.ts.length<=1000000)(p:b.ts.length<=1000000):qd qb 47 [eRel a,eRel b] (eRel (inR a b)):=by
 refine qSV call47 func47 rfl ?_;have r:=setU b _ _ (FnOk.same (·∈b.ts)) p;have C:=XB a.ts (.fn (.func 92) [] [.ip [imC (cntK (fun x=>x) b.ts)]]) (fun t=>decide (t∈b.ts)) ⟨HF.fn zSp (by simp;exact yU (ZG _)),_,[],_,rfl,fun x _=>⟨_,.zs (.zk (yU (ZG _)) .nil),by have:=qjJ (fun x=>x) b.ts x;simp only[(nM b.ts x).1]at this;exact this⟩⟩ o;have I:WKs [eRel b,.fn (.func 90) [] []] [eRel b,.fn (.func 90) [] []] := .zk (qK b) (.zk (HF.fn zSp zSp) .nil);have g:=ZG (cntK (fun x=>x) b.ts);have i:(imC (cntK (fun x=>x) b.ts)).cells=[imC (cntK (fun x=>x) b.ts)]:=rfl;have j:(imC (cntK (fun x=>x) b.ts)).one=true:=rfl;generalize imC (cntK (fun x=>x) b.ts)=B at *
 have l:WKs [lI a.ts,.fn (.func 92) [] [.ip [B]]] [lI a.ts,.fn (.func 92) [] [.ip [B]]] := .zk (zh _) (.zk (HF.fn zSp (by simp;exact yU g)) .nil);simp[go_sem];refine tC r I ?_;simp[go_sem,i,j];refine qe.fz (FzQ.one (d:=5) (b:=1) (x := .ip [B]) (Rd.ip1 rfl (.hf _ g)) ?_);simp[go_sem,cutM];refine fM ?_;refine fR C l ?_;exact .hf _ (qK (inR a b))
theorem nN(a b)(o:a.ts.length<=1000000)(p:b.ts.length<=1000000):qd qb 93 [eRel a,eRel b] (eRel (diR a b)):=by
 refine qSV call93 func93 rfl ?_;have r:=setU b _ _ (FnOk.same (·∈b.ts)) p;have C:=XB a.ts (.fn (.func 143) [] [.ip [imC (cntK (fun x=>x) b.ts)]]) (fun t=>decide (¬t∈b.ts)) ⟨HF.fn zSp (by simp;exact yU (ZG _)),_,[],_,rfl,fun x _=>⟨_,.zs (.zk (yU (ZG _)) .nil),by have:=qjK (fun x=>x) b.ts x;simp only[(nM b.ts x).2]at this;exact this⟩⟩ o;have I:WKs [eRel b,.fn (.func 90) [] []] [eRel b,.fn (.func 90) [] []] := .zk (qK b) (.zk (HF.fn zSp zSp) .nil);have g:=ZG (cntK (fun x=>x) b.ts);have i:(imC (cntK (fun x=>x) b.ts)).cells=[imC (cntK (fun x=>x) b.ts)]:=rfl;have j:(imC (cntK (fun x=>x) b.ts)).one=true:=rfl;generalize imC (cntK (fun x=>x) b.ts)=B at *
 have l:WKs [lI a.ts,.fn (.func 143) [] [.ip [B]]] [lI a.ts,.fn (.func 143) [] [.ip [B]]] := .zk (zh _) (.zk (HF.fn zSp (by simp;exact yU g)) .nil);simp[go_sem];refine tC r I ?_;simp[go_sem,i,j];refine qe.fz (FzQ.one (d:=5) (b:=1) (x := .ip [B]) (Rd.ip1 rfl (.hf _ g)) ?_);simp[go_sem,cutM];refine fM ?_;refine fR C l ?_;have e:diR a b=⟨a.ar,a.ts.filter fun t=>!decide (t∈b.ts)⟩:=by simp[diR]
 have h:=qK (diR a b);rw[e]at h⊢;exact .hf _ h
theorem inU(a b)(g:a.ts.length<=1000000)(i:b.ts.length<=1000000):qd qb 48 [eRel a,eRel b] (aB (decide ((diR a b).ts=[]))):=by
 refine qSU call48 func48 rfl ?_;refine fR (nN a b g i) (.zk (qK a) (.zk (qK b) .nil)) ?_;exact .zsc _
end ER
namespace E2
open E1
section
variable {a:Int}
theorem Yi{n k}(g:0<=k)(i:k<=3):powI n k=n ^ k.toNat:=by
 grind [powI,powN]
theorem u3{n i j}(g:0<=i)(l:0<=j)(h:i+j<=3):powI n (i+j)=powI n i*powI n j:=by
 rw[Yi zOm h,Yi g zOm,Yi l zOm,<-Int.pow_add];congr 1;omega
theorem uB(n):powI n 1=n:=by rw[Yi zOm zOm];exact Int.pow_succ n 0 ▸ by simp
theorem qjL{n}(h:0<=n)(k):0<=powI n k:=Int.pow_nonneg h
theorem JO{u v m}(g:0<=u)(j:u<a)(l:0<=v)(o:v<m):0<=u*m+v/\u*m+v<a*m:=by
 have p:0<=u*m:=Int.mul_nonneg g zOm;have i:(u+1)*m<=a*m:=Int.mul_le_mul_of_nonneg_right zOm zOm;rw[Int.add_mul,Int.one_mul]at i;omega
theorem aG{n}(p:0<=n){a b}(i:GR n a)(g:GR n b)(h:a.ar+b.ar<=3):GR n (prR n a b):=by
 have T:=i.ar1;have U:=g.ar1;refine⟨by show 1<=a.ar+b.ar;omega,h,fun t o=>?_,?_⟩
 .obtain ⟨s,j,o⟩:=uK.1 o
  obtain⟨u,l,rfl⟩:=qi.1 o;show 0<=s*powI n b.ar+u/\s*powI n b.ar+u<powI n (a.ar+b.ar);rw[u3 zOm zOm h];exact JO (i.val s j).1 (i.val s j).2 (g.val u l).1 (g.val u l).2
 .unfold sorted
  show (a.ts.flatMap fun s=>b.ts.map fun t=>s*powI n b.ar+t).Pairwise (·<·);rw[List.pairwise_flatMap];refine⟨fun s j=>?_,?_⟩
  .rw [List.pairwise_map]
   exact List.Pairwise.imp (fun h=>zOm) g.srt
  .refine List.Pairwise.imp_of_mem (fun {s r} j C h x I y J=>?_) i.srt
   obtain⟨u,l,rfl⟩:=qi.1 I;obtain⟨v,P,rfl⟩:=qi.1 J;have e1:=g.val u l;have e2:=g.val v P;have R:(s+1)*powI n b.ar<=r * powI n b.ar:=Int.mul_le_mul_of_nonneg_right zOm (qjL p _);rw[Int.add_mul,Int.one_mul]at R;omega
theorem GR.ofL{n g l}(i:1<=g)(j:g<=3)(h:∀ t,t∈l->0<=t/\t<powI n g):GR n ⟨g,ofL l⟩:=by
 obtain⟨s1,o⟩:=Qy l;exact⟨i,j,fun t p=>h t ((o t).1 p),s1⟩
theorem GR.join{n}(I:0<=n){a b}(g:GR n a)(l:GR n b)(J:1<=a.ar+b.ar-2)(P:a.ar+b.ar-2<=3):GR n (joR n a b):=by
 have a1:=g.ar1;have b1:=l.ar1;have a3:=g.ar3;have b3:=l.ar3;refine GR.ofL J P fun t o=>?_
 obtain⟨s,R,o⟩:=uK.1 o;obtain⟨u,p,rfl⟩:=qi.1 o;have p:=(yX.1 p).1;obtain⟨T,s1⟩:=g.val s R;obtain⟨u0,u1⟩:=l.val u p;have r:powI n a.ar=powI n (a.ar-1)*n:=by
  have:=u3 (n:=n) (i:=a.ar-1) (j:=1) zOm zOm zOm
  grind [uB]
 have eb:powI n b.ar=powI n (b.ar-1)*n:=by
  have:=u3 (n:=n) (i:=b.ar-1) (j:=1) zOm zOm zOm
  grind [uB]
 have C:0<n:=by
  rcases Int.lt_or_eq_of_le I with h|h
  .exact h
  .exfalso;rw[<-h]at r;rw[Int.mul_zero]at r;grind
 have U:0<powI n (b.ar-1):=Int.pow_pos C;have hd:s / n<powI n (a.ar-1):=Int.ediv_lt_of_lt_mul C zOm;rw[show a.ar+b.ar-2=(a.ar-1)+(b.ar-1) by omega,u3 zOm zOm zOm];exact JO (Int.ediv_nonneg T zOm) hd (Int.emod_nonneg _ zOm) (Int.emod_lt_of_pos _ U)
theorem GR.trans{n}(o:0<=n){a}(p:GR n a)(h:a.ar=2):GR n (trR n a):=by
 have g:powI n 2=n*n:=by
  have:=u3 (n:=n) (i:=1) (j:=1) zOm zOm zOm;rw[uB]at this;exact this
 refine GR.ofL zOm zOm fun t r=>?_
 obtain⟨s,C,rfl⟩:=qi.1 r;obtain⟨I,s1⟩:=p.val s C;rw[h,g]at s1;have l:0<n:=by
  rcases Int.lt_or_eq_of_le o with h|h
  .exact h
  .exfalso;rw[<-h,Int.mul_zero]at s1;omega
 rw[g];exact JO (Int.emod_nonneg _ zOm) (Int.emod_lt_of_pos _ l) (Int.ediv_nonneg I zOm) (Int.ediv_lt_of_lt_mul l s1)
theorem aR{n}(i:0<=n):∀(f){c},GR n c->c.ar=2->GR n (clR n f c)/\(clR n f c).ar=2
 | 0,c,g,h=>⟨g,h⟩
 |f+1,c,g,h=>by
  rw[clR];split
  .exact ⟨g,h⟩
  .have j:=GR.join i g g zOm zOm
   have l:=aC g j (by show c.ar=c.ar+c.ar-2;omega);exact aR i f l h
theorem aW{n a b}(g:GR n a)(i:GR n b)(e:a.ar=b.ar):GR n (ovR n a b):=aC i (g.filter _) (by grind)
theorem aX{n}(g:0<=n):GR n (idR n):=by
 have l:powI n 2=n*n:=by
  have:=u3 (n:=n) (i:=1) (j:=1) zOm zOm zOm;rw[uB]at this;exact this
 refine⟨by show (1:Int)<=2;omega,by show (2:Int)<=3;omega,fun t o=>?_,?_⟩
 .obtain ⟨k,p,rfl⟩:=qi.1 o
  rw[zW]at p;show _/\_<powI n 2;rw[l];exact JO zOm zOm zOm zOm
 .show ((qq n.toNat).map fun x:Nat=>(x:Int)*n+x).Pairwise (·<·)
  rw[List.pairwise_map];refine List.Pairwise.imp (fun {x y} h=>?_) List.pairwise_lt_range;have:=Int.mul_le_mul_of_nonneg_right (a:=(x:Int)) (b:=y) (c:=n) zOm g;omega
theorem GR.nil{n g}(i:1<=g)(j:g<=3):GR n ⟨g,[]⟩:=⟨i,j,fun t l=>absurd l qF,qiT⟩
theorem GR.one{n}(g:0<=a)(i:a<n):GR n ⟨1,[a]⟩:=
 ⟨by grind,by grind,fun t j=>by grind [qT,powI,uB],List.pairwise_singleton _ _⟩
theorem GR.run{n}(m:Nat)(j:0<=a)(l:a+m<=n):GR n ⟨1,(qq m).map fun k:Nat=>a+k⟩:=by
 refine⟨by grind,by grind,fun t g=>?_,?_⟩
 .obtain ⟨k,i,rfl⟩:=qi.1 g
  rw[zW]at i;show _/\_<powI n 1;rw[uB];omega
 .show ((qq m).map fun k:Nat=>a+k).Pairwise (·<·)
  rw[List.pairwise_map];exact List.Pairwise.imp (fun {x y} h=>zOm) List.pairwise_lt_range
theorem GR.sN{n}(g:0<=n)(m:Nat)(r:0<=a)(C:a+m+1<=n):GR n ⟨2,(qq m).map fun k:Nat=>(a+k)*n+(a+k+1)⟩:=by
 have l:powI n 2=n*n:=by
  have:=u3 (n:=n) (i:=1) (j:=1) zOm zOm zOm;rw[uB]at this;exact this
 refine⟨by grind,by grind,fun t o=>?_,?_⟩
 .obtain ⟨k,p,rfl⟩:=qi.1 o
  rw[zW]at p;show _/\_<powI n 2;rw[l];exact JO zOm zOm zOm zOm
 .show ((qq m).map fun k:Nat=>(a+k)*n+(a+k+1)).Pairwise (·<·)
  rw[List.pairwise_map];refine List.Pairwise.imp (fun {x y} h=>?_) List.pairwise_lt_range;have:=Int.mul_le_mul_of_nonneg_right (a:=a+(x:Int)) (b:=a+y) (c:=n) zOm g;omega
end
end E2
namespace ET
open E1 E2 E3 EL EO EP EQ ER
section
variable {mu:Mu}
theorem XD(n)(g:0<=n)(i:n<=20)(k)(j:0<=k)(l:k<=3):qd qb 117 [aI n,aI k] (aI (powI n k)):=by
 grind [nD,Yi]
def RelM(mu:Mu)(g:Int)(l:List Int):Prop:=∃ t,mu[0]?=some (.arr [aI 0,.lst true []])/\mu[1]?=some (.arr [aI g,t])/\OwnI mu t l/\qj t≠some 0/\qj t≠some 1
theorem RelM.step{mu' j av g l}(I:mu[0]?=some (.arr [aI 0,.lst true []]))(o:mu[1]?=some (.arr [aI j,av]))(J:qj av≠some 0)(P:qj av≠some 1)(p:OwnI mu' g l)
  (R:∀ i,i<mu.length->qj av≠some i->mu'[i]?=mu[i]?) (T:mu.length<=mu'.length) (U:∀ b,qj g=some b->b=mu.length):mu'[1]?=some (.arr [aI j,av])/\RelM (mu'.set 1 (.arr [aI j,g])) j l:=by
 have l1:1<mu.length:=(qg.1 o).1;have r:qj g≠some 0:=fun e=>by grind
 have t:qj g≠some 1:=fun e=>by grind
 refine⟨by grind,g,by grind,by grind,p.same fun b C=>?_,r,t⟩
 grind
theorem qjM(m x y s):prL m (x++[s]) y=prL m x y++y.map fun t=>s*m+t:=by simp[prL]
theorem XF{a m x y:Int}(i:0<=a)(j:a<=x)(g:0<=m)(l:m<=y)(o:0<=x):0<=a*m/\a*m<=x*y:=⟨Int.mul_nonneg i g,jq j l g o⟩
theorem Yj{r e x}(h:Rd mu x (eRel r)):Rd mu (.tup [x,aI e]) (.tup [eRel r,aI e]):=by
 refine .tup _ _ rfl fun k u v g i=>?_
 match k with
 | 0=>grind
 | 1=>simp at g i;subst g;subst i;exact .zsc _
 |k+2=>simp at g
theorem Yk{g}:Rd mu (.agg [aI g,.lst true []]) (eRel ⟨g,[]⟩):=aD (.inl ⟨rfl,rfl⟩)
theorem qjN(m x y):(prL m x y).length=x.length*y.length:=by
 induction x with
 |nil=>simp[prL]
 |cons s x g=>simp only[prL,wB,qX,zK,zz]at g⊢;rw[g,Nat.add_mul];omega
theorem Xk(n)(T:0<=n)(a8:n<=12)(a b)(ha:GR n a)(R:GR n b):qd qb 212 [aI n,eRel a,eRel b] (match Qz n a b with | .ok r => .tup [eRel r,aI 0] | .error e => .tup [eRel ⟨0,[]⟩,aI e]):=by
 refine qSV call212 func212 rfl ?_;have a1:=ha.ar1;have a3:=ha.ar3;have b1:=R.ar1;have b3:=R.ar3;have la:=ha.len T zOm;have lb:=R.len T zOm;have w0:qm.wrap (a.ar+b.ar)=a.ar+b.ar:=zWr;unfold Qz;by_cases hc:a.ar+b.ar<=3
 .have hn:¬(3:Int)<a.ar+b.ar:=by omega
  obtain⟨p0,p1⟩:=wU (k:=b.ar) T (by omega:n<=20);rw[if_pos hc];simp[go_sem,w0,hn];refine fR (XD n T zOm b.ar zOm b3) (.zs (.zs .nil)) ?_;generalize hM:powI n b.ar=M at *
  have g:∀ i j,i<a.ts.length->j<=b.ts.length->(prL M (a.ts.take i) b.ts++(b.ts.take j).map fun t=>a.ts.getD i 0*M+t).length<=64000000:=fun i j hi hj=>by
   rw[qX,qjN,zK,uP,uP];have:(min i a.ts.length)*b.ts.length<=7999*8000:=Nat.mul_le_mul zOm lb;omega
  refine kT a.ts.length (fun i U=>U.tm 5 = .ip (cRel b)/\U.tm 6 = .ptr 0 0/\U.tm 8 = .ptr 1 0/\U.tm 9=aI M/\U.tm 32=lI a.ts/\U.tm 33=aI a.ts.length/\U.tm 34=aI i/\RelM U.mu (a.ar+b.ar) (prL M (a.ts.take i) b.ts)) ?_ ?_
  .refine ⟨zSi,zSi,zSi,zSi,zSi,zSi,zSi,.lst true [],zSi,zSi,.inl ⟨rfl,by simp[prL]⟩,by simp[qj],by simp[qj]⟩
  rintro i U hi ⟨e5,e6,e8,e9,a0,p,C,hr⟩;by_cases o:i<a.ts.length
  .have w1:=zWk i
   obtain⟨v0,v1⟩:=ha.val _ (qn o);obtain⟨q0,q1⟩:=wU (k:=a.ar) T (by omega:n<=20);obtain⟨m0,m1⟩:=XF (x:=8000) (y:=8000) v0 zOm p0 p1 zOm;have a4:a.ts.getD i 0=a.ts[i]:=by rw[List.getD_eq_getElem?_getD,qw o];rfl
   have g:=g i;rw[a4]at g;simp[go_sem,e5,a0,p,C,o];refine kT b.ts.length (fun j U=>U.tm 5 = .ip (cRel b)/\U.tm 6 = .ptr 0 0/\U.tm 8 = .ptr 1 0/\U.tm 9=aI M/\U.tm 11=aI a.ts[i]/\U.tm 32=lI a.ts/\U.tm 33=aI a.ts.length/\U.tm 34=aI i/\U.tm 39=lI b.ts/\U.tm 40=aI b.ts.length/\U.tm 41=aI j/\RelM U.mu (a.ar+b.ar) (prL M (a.ts.take i) b.ts++(b.ts.take j).map fun t=>a.ts[i] * M+t)) ?_ ?_
   .refine ⟨zS1 e5,zS1 e6,zS1 e8,zS1 e9,zSi,zS1 a0,zS1 p,zS1 C,zSi,zSi,zSi,zVs hr⟩
   rintro j U hj ⟨f5,f6,f8,f9,f11,f32,f33,f34,f39,f40,f41,av,g0,g1,I,n0,n1⟩;by_cases l:j<b.ts.length
   .have w2:=zWk j
    obtain⟨u0,u1⟩:=R.val _ (qn l);rw[hM]at u1;have w3:qm.wrap (a.ts[i] * M)=a.ts[i] * M:=zWr;have w4:qm.wrap (a.ts[i] * M+b.ts[j])=a.ts[i] * M+b.ts[j]:=zWr;simp[go_sem,f8,f9,f11,f39,f40,f41,l,g1,w3,w4];refine aN (e:=3) (bt:=8) (z:=0) zSi zSi zSi zOm I.v (by have:=g j o (by omega);omega) ?_;intro a9 aa J a5 a6 a7;obtain⟨k1,k2⟩:=RelM.step g0 g1 n0 n1 J a5 a6 a7;simp[go_sem,f8,f41,k1,J.v.one,J.v.cells,w2];refine⟨l,aK ⟨zS1 f5,zS1 f6,zS1 f8,zS1 f9,zS1 f11,by simp[go_sem,f32],by simp[go_sem,f33],by simp[go_sem,f34],zS1 f39,by simp[go_sem,f40],zSi,?_⟩⟩;rw[yb l,q9,<-zy];exact k2
   .have P:j=b.ts.length:=by omega
    subst P;simp[go_sem,f34,f40,f41,w1];refine⟨o,aK ⟨zS1 f5,zS1 f6,zS1 f8,zS1 f9,by simp[go_sem,f32],by simp[go_sem,f33],zSi,?_⟩⟩;rw[yb o,qjM];rw[qO]at I;exact⟨av,g0,g1,I,n0,n1⟩
  .have P:i=a.ts.length:=by omega
   subst P;obtain⟨av,g0,g1,I,n0,n1⟩:=hr;rw[qO]at I;have a2:∀ c,(U.mu.set 0 c)[0]?=some c:=fun c=>qI (qg.1 g0).1
   simp[go_sem,e6,e8,p,C,g0,g1,a2,I.v.one];refine Yj (r:=prR n a b) ?_;unfold prR;rw[hM];refine aD (I.v.same fun b R=>?_);rw[yu (fun e=>n0 (by rw[e];exact R))]
 simp_all[go_sem,if_neg,Yj,Yk]
theorem qjO(n)(J:0<=n)(o:n<=12)(a)(ha:GR n a)(h2:a.ar=2):qd qb 213 [aI n,eRel a] (eRel (trR n a)):=by
 refine qSV call213 func213 rfl ?_;have hl:=ha.len J zOm;have e2:powI n 2=n*n:=by
  have:=u3 (n:=n) (i:=1) (j:=1) zOm zOm zOm;rw[uB]at this;exact this
 have a8:n*n<=12*12:=jq o o J zOm;simp[go_sem,show (a.ts.length:Int)<=4294967296 by omega];refine kT a.ts.length (fun k U=>U.tm 0=aI n/\U.tm 4 = .ptr 0 0/\U.tm 5 = .sl 1 1 0 a.ts.length/\U.tm 13=lI a.ts/\U.tm 14=aI a.ts.length/\U.tm 15=aI k/\U.mu=[.arr [aI 0,.lst true []],.arr ((((a.ts.take k).map fun t=>t % n*n+t / n)++qS (a.ts.length-k) 0).map aI)]) ?_ ?_
 .simp [go_sem]
 rintro k U hk ⟨e0,e4,T,P,p,I,hm⟩;by_cases l:k<a.ts.length
 .have w1:=zWk k
  obtain⟨v0,v1⟩:=ha.val _ (qn l);rw[h2,e2]at v1;have hn:0<n:=by
   rcases Int.lt_or_eq_of_le J with h|h
   .exact h
   .exfalso;rw[<-h,Int.mul_zero]at v1;omega
  have a9:0<=a.ts[k] / n:=Int.ediv_nonneg v0 J;have aa:a.ts[k] / n<n:=Int.ediv_lt_of_lt_mul hn v1;have a0:0<=a.ts[k] % n:=Int.emod_nonneg _ zOm;have ab:a.ts[k] % n<n:=Int.emod_lt_of_pos _ hn;obtain⟨m0,m1⟩:=XF (x:=12) (y:=12) a0 zOm J o zOm;have d1:a.ts[k].tdiv n=a.ts[k] / n:=Int.tdiv_eq_ediv_of_nonneg v0;have d2:a.ts[k].tmod n=a.ts[k] % n:=uN v0;have w2:qm.wrap (a.ts[k] / n)=a.ts[k] / n:=zWr;have w3:qm.wrap (a.ts[k] % n*n)=a.ts[k] % n*n:=zWr;have w4:qm.wrap (a.ts[k] % n*n+a.ts[k] / n)=a.ts[k] % n*n+a.ts[k] / n:=zWr;have a1:¬n=0:=zOm;have a6:qS (a.ts.length-k) (0:Int)=0 :: qS (a.ts.length-(k+1)) 0:=by
   rw[<-List.replicate_succ];congr 1;omega
  have g:∀ v:Int,((((a.ts.take k).map fun t=>t % n*n+t / n)++qS (a.ts.length-k) 0).map aI).set k (aI v)=(((a.ts.take k).map fun t=>t % n*n+t / n)++v :: qS (a.ts.length-(k+1)) 0).map aI:=fun v=>by
   simp_all
  have R:((((a.ts.take k).map fun t=>t % n*n+t / n)++qS (a.ts.length-k) 0).map aI).length=a.ts.length:=zSo;generalize hC:(((a.ts.take k).map fun t=>t % n*n+t / n)++qS (a.ts.length-k) 0).map aI=C at *
  simp[go_sem,P,p,I,hm,l];refine cZ zKr ?_;simp[go_sem,e0,T,I,l,a1,d1,d2,w2,w3,w4,g,R,show k+1<=a.ts.length by omega,w1];refine aK ⟨zS1 e0,zS1 e4,zS1 T,zS1 P,zS1 p,zSi,?_⟩;simp only[qA];have e:(((a.ts.take (k+1)).map fun t=>t % n*n+t / n)++qS (a.ts.length-(k+1)) 0).map aI=(((a.ts.take k).map fun t=>t % n*n+t / n)++(a.ts[k] % n*n+a.ts[k] / n) :: qS (a.ts.length-(k+1)) 0).map aI:=by
   rw[yb l,q9 (l₂:=[a.ts[k]]),zy];rfl
  rw[e];simp
 .have a2:k=a.ts.length:=by omega
  subst a2;rw[qO,Nat.sub_self,List.replicate_zero,zF]at hm;generalize hL:a.ts.map (fun t=>t % n*n+t / n)=L at *
  have a3:L.length=a.ts.length:=by rw[<-hL];simp
  simp only[p,I,hm,go_sem];have hs:=XA [.arr [aI 0,.lst true []],.arr (L.map aI)] 2 (.sl 1 1 0 a.ts.length) L zOm (.inr ⟨1,by rw[a3],rfl⟩);simp[go_sem,T];refine fQ hs ?_ ?_
  .rintro r m ⟨x,h,ho,a4,ad,a5⟩
   cases h;have g0:=a4 0 zSp (by simp[qj]);have g:∀ c,(m.set 0 c)[0]?=some c:=fun c=>qI (qg.1 g0).1
   simp at g0;have hx:qj x≠some 0:=fun h=>by have:=a5 _ h;simp[qj]at this
   simp[go_sem,e4,g0,g,ho.one];unfold trR;rw[hL];refine aD (ho.same fun b hb=>?_);rw[yu (fun e=>hx (by rw[e];exact hb))]
  .rintro r m ⟨x,h,_⟩
   cases h
end
end ET
namespace EW
open EO EP EQ ER ET
inductive TagM (p:Mu->Prop):Type where
 |mk:TagM p
def jU(p:Mu->Prop)(_:TagM p)(mu:Mu):Prop:=p mu
theorem tM{p mu}(h:p mu):jU p .mk mu:=h
theorem tD{P pl l caps ps g body Q st rows}(j:y5 P l caps rows)(I:Nat->Mu->Prop)(i:qQ->Mu->Prop)
  (o:I 0 (st.mu++[.dead])) (p:∀ k mu,I k mu->I k (mu++[.dead])) (r:∀ e mu,i e mu->i e (mu++[.dead]))
  (t:∀ k x mu,rows[k]?=some x->I k mu->x.length=ps.size/\awp P pl g (asQ (fun st=>awp P pl body (rndQ (fun k=>jU (I k) .mk) (fun e=>jU (i e) .mk) k) st)) ⟨ur st.tm ps.toList x,mu⟩)
  (C:∀ mu,I rows.length mu->Q .normal ⟨st.tm,mu⟩) (J:∀ e mu,i e mu->Q e ⟨st.tm,mu⟩):j6 P pl (.fn (.func l) [] caps) ps g body Q st:=
 tT j I i o p r t C J
abbrev tupCl(sc:Sc)(p:Int)(l:List Int):AV := .fn (.func 163) [] [.ip [lI l],.ip [aI p],.ip [lI sc.sC,aI sc.sN]]
theorem nO(sc p l):qd qb 118 [eSc sc,aI p,lI l] (tupCl sc p l):=by
 refine qSU call118 func118 rfl ?_;refine .hf _ (HF.fn (fun c g=>by simp at g) (fun c g=>?_));simp at g;rcases g with rfl|rfl|rfl
 .exact yU (zh _)
 .exact yU (HF.sc _)
 .exact HF.ip fun c g=>by simp at g;rcases g with rfl|rfl<;>first|exact zh _|exact HF.sc _
def tupR(sc:Sc):List Int->Int->List Int
 | [],p=>[p]
 |s :: l,p=>(qq (gI sc.sC s.toNat).toNat).flatMap fun k:Nat=>tupR sc l (p*sumI sc.sC+(sumI (sc.sC.take s.toNat)+k))
@[go_sem] theorem yl_cells(i):(AV.yl i).cells=[.yl i]:=rfl
@[go_sem] theorem yl_one(i):(AV.yl i).one=true:=rfl
theorem qjP(sc:Sc)(p):y5 qb 163 [.ip [lI []],.ip [aI p],.ip [lI sc.sC,aI sc.sN]] [[aI p]]:=by
 refine y5.of call163 fun i I l o r g C j=>?_
 refine qSW call163 func163 rfl {} ?_;simp[go_sem];refine qc.yield (g 0 [aI p] C rfl j) ?_;simp_all[go_sem]
theorem qjQ{i r}(h:i<r):∃ l,qq r=qq i++i :: l:=by
 refine⟨(qq r).drop (i+1),?_⟩;apply List.ext_getElem?;intro j;by_cases g:j<i
 .rw [qG (zUs g),uL g,uL zOm]
 .rw [zE zSo,List.length_range]
  by_cases e:j=i
  .subst e;simp[h]
  .obtain ⟨d,o⟩:∃ d,j-i=d+1:=⟨j-i-1,zOm⟩
   rw[o,List.getElem?_cons_succ,vT];congr 1;omega
theorem qjR{J:Type}(f){N k j}{x:J}(g:k<N)(h:(f k)[j]?=some x):((qq N).flatMap f)[((qq k).flatMap f).length+j]?=some x:=by
 obtain⟨l,e⟩:=qjQ g;rw[e,List.flatMap_append,zE zOm,Nat.add_sub_cancel_left,wB,qG (qg.1 h).1];exact h
theorem JP{J:Type}(f:Nat->List J)(k):(qq (k+1)).flatMap f=(qq k).flatMap f++f k:=by
 rw[List.range_succ,List.flatMap_append];simp
theorem qjS(sc)(g:GSc sc)(hA:∀ a,a∈sc.sC->0<=a)(s)(J:s<sc.sC.length)(l)(hl:l.length<=10)(p)(hp:0<=p/\p<=1000000)
  (ih:∀ k,k<(gI sc.sC s).toNat->y5 qb 163 [.ip [lI l],.ip [aI (p*sumI sc.sC+(sumI (sc.sC.take s)+k))],.ip [lI sc.sC,aI sc.sN]] ((tupR sc l (p*sumI sc.sC+(sumI (sc.sC.take s)+k))).map fun t=>[aI t])) :
  y5 qb 163 [.ip [lI (s :: l)],.ip [aI p],.ip [lI sc.sC,aI sc.sN]] ((tupR sc (s :: l) p).map fun t=>[aI t]):=by
 refine y5.of call163 fun i I Ix hS hX hY C h0=>?_
 refine qSW call163 func163 rfl {} ?_;have hz:¬(l.length:Int)+1=0:=zOm;have a0:=qi6 sc g s zOm;have a1:WKs [eSc sc,aI s] [eSc sc,aI s] := .zk (zA sc) (.zs .nil);obtain⟨s0,s1⟩:=g.sum s;obtain⟨t0,t1⟩:=g.sum sc.sC.length;rw[qO]at t0 t1;have a2:gI sc.sC s=sc.sC[s]:=uu J;have af:=hA _ (qn J);obtain⟨u0,u1⟩:=g.sum (s+1);rw[uw _ _ J]at u1;have a3:=Yh sc g;have a4:WKs [eSc sc] [eSc sc] := .zk (zA sc) .nil;have o:tupR sc (s :: l) p=(qq (sc.sC[s]).toNat).flatMap fun k:Nat=>tupR sc l (p*sumI sc.sC+(sumI (sc.sC.take s)+k)):=by
  simp_all[tupR]
 rw[a2]at ih;obtain⟨m0,m1⟩:0<=p*sumI sc.sC/\p*sumI sc.sC<=1000000*20:=⟨Int.mul_nonneg hp.1 t0,jq hp.2 t1 t0 zOm⟩;have w2:qm.wrap (p*sumI sc.sC)=p*sumI sc.sC:=zWr;have w3:qm.wrap (sumI (sc.sC.take s)+sc.sC[s])=sumI (sc.sC.take s)+sc.sC[s]:=zWr;generalize hF:(fun k:Nat=>tupR sc l (p*sumI sc.sC+(sumI (sc.sC.take s)+k)))=F at *
 have a5:∀ k:Nat,tupR sc l (p*sumI sc.sC+(sumI (sc.sC.take s)+k))=F k:=fun k=>by rw[<-hF]
 simp only[a5]at ih;simp[go_sem,hz];refine fM ?_;refine tC a0 a1 ?_;generalize hn:sumI sc.sC=n at *
 generalize hf:sumI (sc.sC.take s)=f at *
 simp[go_sem];refine tP (fun m U=>∃ k,m=(sc.sC[s]).toNat-k/\k<=(sc.sC[s]).toNat/\U.tm 1 = .ip [lI (s :: l)]/\U.tm 2 = .ip [aI p]/\U.tm 3 = .ip [lI sc.sC,aI sc.sN]/\U.tm 4 = .ip [.yl i]/\U.tm 5=aI f/\U.tm 6=aI (f+(k:Nat))/\I ((qq k).flatMap F).length U.mu) (sc.sC[s]).toNat ?_ ?_
 .exact ⟨0,zOm,zOm,zSi,zSi,zSi,zSi,zSi,zSi,zVs h0⟩
 rintro m U ⟨k,rfl,hk,T,e2,e3,e4,e5,e6,hI⟩;simp[go_sem];refine cZ zKr ?_;by_cases P:k<(sc.sC[s]).toNat
 .have hb:f+(k:Int)<f+sc.sC[s]:=by omega
  have w4:qm.wrap (p*n+(f+k))=p*n+(f+k):=zWr;have w5:qm.wrap (f+(k:Int)+1)=f+((k+1:Nat):Int):=by rw[zWr];omega
  have R:WKs [eSc sc,aI (p*n+(f+k)),.lst false (l.map rI)] [eSc sc,aI (p*n+(f+k)),lI l] := .zk (zA sc) (.zs (.zk (zh l) .nil));have a6:=nO sc (p*n+(f+k)) l;simp[go_sem,T,e3,e5,e6,J,w3,hb];refine cZ zKr ?_;simp[go_sem,e2,e3];refine tC a3 a4 ?_;have a7:(1:Int)<=l.length+1:=zOm;have a8:List.take l.length (l.map rI)=l.map rI:=zO zSp;simp[go_sem,T,e6,w2,w4,a7,a8];refine⟨⟨_,_,⟨rfl,rfl⟩,(yk (s :: l)).ok⟩,?_⟩;refine fR a6 R ?_;refine tD (ih k P) (fun j M=>I (((qq k).flatMap F).length+j) M) (fun e M=>e = .ret/\Ix M) ?_ ?_ ?_ ?_ ?_ ?_
  .simpa [go_sem] using hS _ _ hI
  .intro j M h;exact hS _ _ h
  .rintro e M ⟨h1,h2⟩;exact⟨h1,hX _ h2⟩
  .rintro j x M hj a9
   rw[zf,jK]at hj;obtain⟨t,ht,rfl⟩:=hj;have r:(((qq (sc.sC[s]).toNat).flatMap F).map fun t=>[aI t])[((qq k).flatMap F).length+j]?=some [aI t]:=by
    rw[zf,qjR F P ht];rfl
   rw[<-o]at r;refine⟨rfl,?_⟩;simp[go_sem,e4];refine qc.yield (hY _ _ _ r a9) ?_;rintro b ag (⟨rfl,aa⟩|⟨rfl,ab⟩)
   .simp [go_sem]
    exact tM aa
   .simp [go_sem]
    exact tM ⟨rfl,ab⟩
  .rintro M ad
   simp[go_sem,e6,w5];refine Keep.loop ((sc.sC[s]).toNat-(k+1)) zOm ⟨k+1,rfl,zOm,zS1 T,zS1 e2,zS1 e3,zS1 e4,zS1 e5,zSi,?_⟩;rw[JP,qX];simpa[go_sem] using ad
  .rintro e M ⟨rfl,h2⟩
   simp[go_sem];exact .inr h2
 .have ae:k=(sc.sC[s]).toNat:=by omega
  have hb:¬f+(k:Int)<f+sc.sC[s]:=zOm;simp[go_sem,T,e3,e5,e6,J,w3,hb];rw[o,<-ae];exact .inl hI
def bdT:Nat->Int
 | 0=>1000000000
 | 1=>1000000
 | 2=>40000
 |_=>1000
theorem nP(d)(i:d<3){p q n}(j:0<=p)(l:p<=bdT (d+1))(g:0<=n)(o:n<=20)(r:0<=q)(t:q<=20):0<=p*n+q/\p*n+q<=bdT d/\p<=1000000:=by
 have a:0<=p*n:=Int.mul_nonneg j g;have b:p*n<=bdT (d+1)*20:=jq l o g zOm
 match d,i with
 | 0,_=>grind [bdT]
 | 1,_=>grind [bdT]
 | 2,_=>grind [bdT]
def OkS(sc:Sc)(l:List Int):Prop:=∀ s,s∈l->0<=s/\s<sc.sC.length
theorem nQ(sc)(g:GSc sc)(C:∀ a,a∈sc.sC->0<=a):∀ l,OkS sc l->l.length<=3->∀ p,0<=p->p<=bdT l.length->y5 qb 163 [.ip [lI l],.ip [aI p],.ip [lI sc.sC,aI sc.sN]] ((tupR sc l p).map fun t=>[aI t])
 | [],_,_,p,_,_=>qjP sc p
 |s :: l,i,I,p,j,o=>by
  obtain⟨n,rfl⟩:∃ n:Nat,s=n:=⟨s.toNat,zW1 ((i s zSp).1)⟩;have r:n<sc.sC.length:=zW1 ((i n zSp).2);simp only[zz]at I o;obtain⟨t0,t1⟩:=g.sum sc.sC.length;rw[qO]at t0 t1;refine qjS sc g C n r l zOm p ⟨j,(nP l.length zOm j o t0 t1 (q:=0) zOm zOm).2.2⟩ fun k J=>?_
  obtain⟨u0,P⟩:=g.sum (n+1);rw[uw _ _ r]at P;rw[uu r]at J;obtain⟨s0,s1⟩:=g.sum n;obtain⟨R,T,_⟩:=nP l.length zOm j o t0 t1 (q:=sumI (sc.sC.take n)+k) zOm zOm;exact nQ sc g C l (fun x U=>i x (zP1 U)) zOm _ R T
theorem XG(sc)(g:GSc sc)(o:∀ a,a∈sc.sC->0<=a):∀ l,OkS sc l->∀ p,(tupR sc l p).length<=20 ^ l.length
 | [],_,p=>by simp[tupR]
 |s :: l,i,p=>by
  obtain⟨n,rfl⟩:∃ n:Nat,s=n:=⟨s.toNat,zW1 ((i s zSp).1)⟩;have j:n<sc.sC.length:=zW1 ((i n zSp).2);obtain⟨J,r⟩:=g.sum (n+1);obtain⟨P,s1⟩:=g.sum n;rw[uw _ _ j]at r;have t:=XG sc g o l (fun x C=>i x (zP1 C));rw[tupR,show (n:Int).toNat=n by omega,uu j];have key:∀ m:Nat,((qq m).flatMap fun k:Nat=>tupR sc l (p*sumI sc.sC+(sumI (sc.sC.take n)+k))).length<=m*20 ^ l.length:=by
   intro m;induction m with
   |zero=>simp
   |succ m I =>
    rw[JP,qX,Nat.succ_mul];have:=t (p*sumI sc.sC+(sumI (sc.sC.take n)+m));omega
  refine zt (key _) ?_;rw[zz,Nat.pow_succ,Nat.mul_comm];exact Nat.mul_le_mul_left _ zOm
theorem Yl(n a b):qd qb 64 [aI n,aI a,aI b] (aB (decide (a<=n)&&decide (n<=b))):=by
 refine qSV call64 func64 rfl ?_;by_cases g:a<=n
 .simp [go_sem,g]
  exact .zsc _
 .simp [go_sem,g]
  exact .zsc _
theorem wk3I(a b c):WKs [aI a,aI b,aI c] [aI a,aI b,aI c] := .zs (.zs (.zs .nil))
theorem nR(sc)(g:GSc sc)(hA:∀ a,a∈sc.sC->0<=a)(l)(T:OkS sc l)(h1:1<=l.length)(h3:l.length<=3):qd qb 69 [eSc sc,lI l] (eRel ⟨l.length,tupR sc l 0⟩):=by
 refine qSV call69 func69 rfl ?_;have b1:(1:Int)<=l.length:=zOm;have b3:(l.length:Int)<=3:=zOm;have hg:=g.1;have w1:=Yl l.length 1 3;rw[decide_eq_true b1,decide_eq_true b3]at w1;simp[go_sem];refine fR w1 (wk3I _ _ _) ?_;refine kT l.length (fun k U=>U.tm 1=lI l/\U.tm 2 = .ip [lI sc.sC,aI sc.sN]/\U.tm 4 = .ptr 0 0/\U.tm 14=lI l/\U.tm 15=aI l.length/\U.tm 16=aI k/\U.mu=[.arr [aI 0,.lst true []]]) ?_ ?_
 .simp [go_sem]
 rintro k U hk ⟨e1,e2,e4,a0,p,r,hm⟩;by_cases C:k<l.length
 .have wk:=zWk k
  have wl:qm.wrap ((sc.sC.length:Int)-1)=(sc.sC.length:Int)-1:=zWr;obtain⟨q0,q1⟩:=T _ (qn C);have w2:=Yl l[k] 0 ((sc.sC.length:Int)-1);rw[decide_eq_true q0,decide_eq_true (by omega:l[k]<=(sc.sC.length:Int)-1)]at w2;simp[go_sem,e2,a0,p,r,hm,C,wl];refine tC w2 (wk3I _ _ _) ?_;simp_all[go_sem,aK]
 .have a1:k=l.length:=by omega
  subst a1;have a6:=XG sc g hA l T 0;have hp:20 ^ l.length<=8000:=by
   have:l.length=1\/l.length=2\/l.length=3:=zOm
   grind
  have a2:(0:Int)<=bdT l.length:=by
   have:l.length=1\/l.length=2\/l.length=3:=zOm
   grind [bdT]
  simp[go_sem,e1,e2,p,r,hm];refine fR (nO sc 0 l) (.zk (zA sc) (.zs (.zk (zh l) .nil))) ?_;refine tD (nQ sc g hA l T h3 0 zOm a2) (fun j M=>RelM M l.length ((tupR sc l 0).take j)) (fun _ _=>False) ?_ ?_ ?_ ?_ ?_ ?_
  .exact ⟨.lst true [],zSi,zSi,.inl ⟨rfl,rfl⟩,by simp[qj],by simp[qj]⟩
  .rintro j M ⟨av,I,g1,i,J,R⟩
   exact⟨av,by grind,by grind,i.same fun b hb=>by rw[qG (i.v.lt hb)],J,R⟩
  .grind
  .rintro j x M hj ⟨av,I,g1,i,J,R⟩
   rw[zf,jK]at hj;obtain⟨t,ht,rfl⟩:=hj;obtain⟨a7,a8⟩:=qg.1 ht;refine⟨rfl,?_⟩;simp[go_sem,g1];refine aN (e:=3) (bt:=8) (z:=0) zSi zSi zSi zOm i.v zSo ?_;intro a9 aa o a3 a4 a5;obtain⟨k1,k2⟩:=RelM.step I g1 J R o a3 a4 a5;simp[go_sem,k1,o.v.one,o.v.cells]
   grind [tM,yb]
  .rintro M ⟨av,I,g1,i,J,R⟩
   rw[zK,qO]at i;have P:∀ c,(M.set 0 c)[0]?=some c:=fun c=>qI (qg.1 I).1
   simp[go_sem,e4,I,g1,P,i.v.one];refine aD (i.v.same fun b hb=>?_);rw[yu (fun e=>J (by rw[e];exact hb))]
  grind
end EW
namespace EU
open E1 EO EP EQ ER ET
abbrev imG(g:List (Int×List Int)):AV := .im (encK (fun n:Int=>aI n) lI g)
abbrev matC(n m:Int)(a b:Rl):List AV:=[.ip (cRel a),.ip [imG (grpK m b.ts)],.ip [aI n],.ip [aI m]]
theorem qjT(n m)(hm:0<m)(ad:m<=8000)(a b)(hb:∀ t,t∈b.ts->0<=t/\t<=1000000)(hl:b.ts.length<=1000000):qd qb 245 [aI n,aI m,eRel a,eRel b] (.fn (.func 262) [] (matC n m a b)):=by
 refine qSV call245 func245 rfl ?_;obtain⟨B,hB⟩:∃ B,B=AV.mp 0:=⟨_,rfl⟩;have ae:B.cells=[B]:=by rw[hB];rfl
 have af:B.one=true:=by rw[hB];rfl
 simp[go_sem];refine kT b.ts.length (fun k U=>U.tm 4 = .ip [aI n]/\U.tm 5 = .ip [aI m]/\U.tm 6 = .ip (cRel a)/\U.tm 9 = .ptr 1 0/\U.tm 14=lI b.ts/\U.tm 15=aI b.ts.length/\U.tm 16=aI k/\U.mu[1]?=some (.arr [B])/\∃ i,GrpM U.mu 0 (grpK m (b.ts.take k)) i/\∀ q v,getK q i=some v->∀ x,qj v=some x->2<=x) ?_ ?_
 .refine ⟨zSi,zSi,zSi,zSi,zSi,zSi,zSi,by simp[go_sem,hB],[],GrpM.nil zSi,fun q v h=>by simp[getK]at h⟩
 rintro k U hk ⟨e4,e5,e6,e9,a0,r,J,g1,i,hG,h2⟩;by_cases o:k<b.ts.length
 .have w1:=zWk k
  obtain⟨v0,v1⟩:=hb _ (qn o);have d1:b.ts[k].tdiv m=b.ts[k] / m:=Int.tdiv_eq_ediv_of_nonneg v0;have d2:b.ts[k].tmod m=b.ts[k] % m:=uN v0;have q0:0<=b.ts[k] / m:=Int.ediv_nonneg v0 zOm;have q1:b.ts[k] / m<=b.ts[k]:=Int.ediv_le_self _ v0;have w2:qm.wrap (b.ts[k] / m)=b.ts[k] / m:=zWr;have a7:¬m=0:=zOm;have hs:=nI m (b.ts.take k) b.ts[k];rw[<-yb o]at hs;have a1:=hG.cur (b.ts[k] / m);have a8:=keyI.look (et:=28) (t:=337) zSi (mu:=U.mu) (m := .mp 0) (venc:=id) (es:=i) (by simp only[jN,hG.at0]) (k:=b.ts[k] / m) trivial (fun _ _=>trivial) (z := .lst true []) zSi false;have P:yj qb U.mu 337 B (aI (b.ts[k] / m)) false=some ((getK (b.ts[k] / m) i).getD (.lst true [])):=by
   rw[hB];refine Eq.trans a8 ?_;cases getK (b.ts[k] / m) i<;>rfl
  have R:=fun (j:Mu) (av:AV) (l:List Int)=>GrpM.step (mu':=j) (av:=av) (l:=l) (k:=b.ts[k] / m) hG
  have a9:∀ x,qj ((getK (b.ts[k] / m) i).getD (.lst true []))=some x->2<=x:=by
   intro x g;cases hc:getK (b.ts[k] / m) i with
   |none=>rw[hc]at g;simp[qj]at g
   |some v=>rw[hc]at g;exact h2 _ _ hc x g
  have ag:((getK (b.ts[k] / m) (grpK m (b.ts.take k))).getD []).length<=k:=by
   rw[Us m b.ts k zOm,zK];exact zt (List.length_filter_le _ _) zSo
  simp[go_sem,a0,r,J,o];refine fD [0,1,2,3,4,5,6,7,8,9,10,11,12,13,14] [(0,0,[]),(1,0,[]),(2,0,[]),(3,0,[]),(4,0,[]),(5,0,[]),(6,0,[]),(7,0,[]),(8,0,[]),(9,0,[]),(10,0,[]),(11,0,[]),(12,0,[]),(13,1,[0,2]),(14,1,[])] zKr zKr zSi ?_;simp[go_sem,e5,e9,g1,a7,d1,d2,w2,P];refine aN (e:=3) (bt:=8) (z:=0) (l:=(getK (b.ts[k] / m) (grpK m (b.ts.take k))).getD []) zSi zSi zSi zOm a1.v zOm ?_;intro T j aa a3 ah a4;obtain⟨k1,k2⟩:=R j T _ aa a3 a4;rw[<-hs]at k2;have a5:jB qb j 337 (.mp 0) (aI (b.ts[k] / m)) T=_:=keyI.update (et:=28) (t:=337) zSi (mu:=j) (b:=0) (venc:=id) (es:=i) k1 (k:=b.ts[k] / m) (v:=T) trivial (fun _ _=>trivial);have l1:1<U.mu.length:=(qg.1 g1).1;have a6:j[1]?=some (.arr [B]):=by rw[a3 1 l1 (fun e=>zW1 (a9 1 e))];exact g1
  simp[go_sem,e5,e9,a6];subst hB;refine tA _ a5 ?_;simp[go_sem,J,o,w1];refine aK ⟨zS1 e4,zS1 e5,zS1 e6,zS1 e9,zS1 a0,zS1 r,zSi,?_,_,zVs k2,fun q v hq x g=>?_⟩
  .simp only[qA]
   rw[zGl];exact a6
  .rw [j7]at hq
   split at hq
   .cases hq;have:=a4 x g;omega
   .exact h2 q v hq x g
 .have ab:k=b.ts.length:=by omega
  subst ab;rw[qO]at hG;simp[go_sem,e4,e5,e6,e9,r,J];refine .fn _ _ _ _ _ rfl rfl (fun k x y g=>by simp at g) (fun k x y g p=>?_)
  match k with
  | 0=>simp at g p;subst g;subst p;exact .hf _ (HF.ip (Zy a))
  | 1=>simp at g p;subst g;subst p;rw[hB]at g1;exact Rd.ip1 g1 (hG.rd (qjE m b.ts))
  | 2=>simp at g p;subst g;subst p;exact .hf _ (yU (HF.sc _))
  | 3=>simp at g p;subst g;subst p;exact .hf _ (yU (HF.sc _))
  |k+4=>simp at g
theorem lookG(mu m ys k):∃ f,yj qb mu 337 (imG (grpK m ys)) (aI k) false=some (.lst f (((getK k (grpK m ys)).getD []).map rI)):=by
 have:=keyI.look (et:=28) (t:=337) zSi (mu:=mu) (m:=imG (grpK m ys)) (venc:=lI) (es:=grpK m ys) rfl (k:=k) trivial (fun _ _=>trivial) (z := .lst true []) zSi false;simp only[yj];cases h:getK k (grpK m ys) with
 |none=>rw[h]at this;exact⟨true,this⟩
 |some l=>rw[h]at this;exact⟨false,this⟩
theorem qjU{J g:Type}(f){l:List J}{k j}{x:g}(i)(h:(f l[k])[j]?=some x):(l.flatMap f)[((l.take k).flatMap f).length+j]?=some x:=by
 have e:l=l.take k++l[k] :: l.drop (k+1):=by rw[<-zm i,List.take_append_drop]
 have o:l.flatMap f=(l.take k).flatMap f++(f l[k]++(l.drop (k+1)).flatMap f):=by
  conv=>lhs;rw[e]
  rw[List.flatMap_append,wB]
 rw[o,zE zOm,Nat.add_sub_cancel_left,qG (qg.1 h).1];exact h
theorem qjV(n m)(hn:0<n)(a9:n<=20)(hm:0<m)(a3:m<=8000)(a b)(ha:∀ t,t∈a.ts->0<=t/\t<=1000000)(aa:a.ts.length<=1000000)(a4:b.ts.length<=1000000) :
  y5 qb 262 (matC n m a b) ((joL n m a.ts b.ts).map fun t=>[aI t]):=by
 refine y5.of call262 fun i I Ix hS hX hY C h0=>?_
 refine qSW call262 func262 rfl {} ?_;have R:=fun C=>lookG C m b.ts
 obtain⟨B,hB⟩:∃ B,B=imG (grpK m b.ts):=⟨_,rfl⟩;have ab:B.cells=[B]:=by rw[hB];rfl
 have ad:B.one=true:=by rw[hB];rfl
 simp only[<-hB]at R⊢;rw[<-qjF]at hY⊢;generalize hF:(fun s=>((getK (s % n) (grpK m b.ts)).getD []).map fun t=>s / n*m+t)=F at *
 have a5:∀ s,F s=((getK (s % n) (grpK m b.ts)).getD []).map fun t=>s / n*m+t:=fun s=>by rw[<-hF]
 simp[go_sem];refine kT a.ts.length (fun k U=>U.tm 0 = .yl i/\U.tm 2 = .ip [B]/\U.tm 3 = .ip [aI n]/\U.tm 4 = .ip [aI m]/\U.tm 11=lI a.ts/\U.tm 12=aI a.ts.length/\U.tm 13=aI k/\I ((a.ts.take k).flatMap F).length U.mu) ?_ ?_
 .exact ⟨zSi,by simp[go_sem,hB],zSi,zSi,zSi,zSi,zSi,zVs h0⟩
 rintro k U hk ⟨e0,e2,e3,e4,T,o,p,P⟩;by_cases l:k<a.ts.length
 .have w1:=zWk k
  obtain⟨v0,v1⟩:=ha _ (qn l);have d1:a.ts[k].tdiv n=a.ts[k] / n:=Int.tdiv_eq_ediv_of_nonneg v0;have d2:a.ts[k].tmod n=a.ts[k] % n:=uN v0;have q0:0<=a.ts[k] / n:=Int.ediv_nonneg v0 zOm;have q1:a.ts[k] / n<=a.ts[k]:=Int.ediv_le_self _ v0;have w2:qm.wrap (a.ts[k] / n)=a.ts[k] / n:=zWr;have a0:¬n=0:=zOm;obtain⟨f,r⟩:=R U.mu (a.ts[k] % n);have a6:((getK (a.ts[k] % n) (grpK m b.ts)).getD []).length<=1000000/\∀ t,t∈(getK (a.ts[k] % n) (grpK m b.ts)).getD []->0<=t/\t<m:=by
   have:=Us m b.ts b.ts.length (qo _) (a.ts[k] % n);rw[qO]at this;rw[this];refine⟨by rw[zK];exact zt (List.length_filter_le _ _) a4,fun t ht=>?_⟩;obtain⟨u,_,rfl⟩:=qi.1 ht;exact⟨Int.emod_nonneg _ zOm,Int.emod_lt_of_pos _ hm⟩
  have a1:=a5 a.ts[k];generalize (getK (a.ts[k] % n) (grpK m b.ts)).getD []=L at *
  obtain⟨m0,m1⟩:=XF (x:=1000000) (y:=8000) q0 zOm (by omega:0<=m) a3 zOm;have w3:qm.wrap (a.ts[k] / n*m)=a.ts[k] / n*m:=zWr;simp[go_sem,T,o,p,l];refine cZ zKr ?_;simp[go_sem,e2,e3,a0,d2,r];refine kT L.length (fun j U=>U.tm 0 = .yl i/\U.tm 2 = .ip [B]/\U.tm 3 = .ip [aI n]/\U.tm 4 = .ip [aI m]/\U.tm 7=aI a.ts[k]/\U.tm 11=lI a.ts/\U.tm 12=aI a.ts.length/\U.tm 13=aI k/\U.tm 21 = .lst f (L.map rI)/\U.tm 22=aI L.length/\U.tm 23=aI j/\I (((a.ts.take k).flatMap F).length+j) U.mu) ?_ ?_
  .exact ⟨zS1 e0,zS1 e2,zS1 e3,zS1 e4,zSi,zS1 T,zS1 o,zS1 p,zSi,zSi,zSi,zVs P⟩
  rintro j U hj ⟨f0,f2,f3,f4,f7,f11,f12,f13,f21,f22,f23,P⟩;by_cases g:j<L.length
  .have w4:=zWk j
   obtain⟨u0,u1⟩:=a6.2 _ (qn g);have w5:qm.wrap (a.ts[k] / n*m+L[j])=a.ts[k] / n*m+L[j]:=zWr;have a2:((a.ts.flatMap F).map fun t=>[aI t])[((a.ts.take k).flatMap F).length+j]?=some [aI (a.ts[k] / n*m+L[j])]:=by
    rw[zf,qjU F l (x:=a.ts[k] / n*m+L[j]) (by rw[a1,zf,qw g];rfl)];rfl
   simp[go_sem,f21,f22,f23,g];refine qe.tail 8 zKr ?_;simp[go_sem,f0,f3,f4,f7,a0,d1,w2,w3,w5];refine qc.yield (hY _ _ _ a2 P) ?_;rintro b ae (⟨rfl,a7⟩|⟨rfl,a8⟩)
   .simp [go_sem,f23,g,w4]
    exact aK ⟨zS1 f0,zS1 f2,zS1 f3,zS1 f4,zS1 f7,zS1 f11,zS1 f12,zS1 f13,zS1 f21,zS1 f22,zSi,a7⟩
   .simp [go_sem]
    exact .inr a8
  .have J:j=L.length:=by omega
   subst J;simp[go_sem,f13,f22,f23,w1];refine⟨l,aK ⟨zS1 f0,zS1 f2,zS1 f3,zS1 f4,zS1 f11,zS1 f12,zSi,?_⟩⟩;rw[yb l,List.flatMap_append,qX];simpa[go_sem,a1] using P
 .have J:k=a.ts.length:=by omega
  subst J;rw[qO]at P;simp[go_sem,o,p];exact .inl (by simpa[List.length_flatMap] using P)
end EU
namespace EC
open E1 E2
theorem nS(n):powI n 2=n*n:=by
 have:=u3 (n:=n) (i:=1) (j:=1) zOm zOm zOm;rw[uB]at this;exact this
end EC
namespace EY
open E1 E2 E3 EO EP EQ ET EW EU EC
def GatM(mu:Mu)(l:List Int):Prop:=∃ t,mu[0]?=some (.arr [aI 0,.lst true []])/\mu[1]?=some (.arr [t])/\OwnI mu t l/\qj t≠some 0/\qj t≠some 1
theorem GatM.step{mu mu':Mu}{av g l}(C:mu[0]?=some (.arr [aI 0,.lst true []]))(j:mu[1]?=some (.arr [av]))(I:qj av≠some 0)(J:qj av≠some 1)(o:OwnI mu' g l)
  (P:∀ i,i<mu.length->qj av≠some i->mu'[i]?=mu[i]?) (R:mu.length<=mu'.length) (T:∀ b,qj g=some b->b=mu.length):mu'[1]?=some (.arr [av])/\GatM (mu'.set 1 (.arr [g])) l:=by
 have U:1<mu.length:=(qg.1 j).1;have p:qj g≠some 0:=fun e=>by grind
 have r:qj g≠some 1:=fun e=>by grind
 refine⟨by grind,g,by grind,by grind,o.same fun b t=>?_,p,r⟩
 grind
theorem GatM.push{mu l}(h:GatM mu l):GatM (mu++[.dead]) l:=by
 obtain⟨t,p,g1,g,i,j⟩:=h;exact⟨t,by grind,by grind,g.same fun b o=>by rw[qG (g.v.lt o)],i,j⟩
theorem GR.none{n}(h:n=0){a}(g:GR n a):a.ts=[]:=by
 cases i:a.ts with
 |nil=>rfl
 |cons t l =>
  exfalso;obtain⟨v0,v1⟩:=g.val t (by rw[i];simp);have o:=g.ar1;rw[Yi zOm g.ar3,h]at v1;have:(0:Int) ^ a.ar.toNat=0:=by
   obtain⟨k,j⟩:∃ k,a.ar.toNat=k+1:=⟨a.ar.toNat-1,zOm⟩;rw[j,Int.pow_succ,Int.mul_zero]
  omega
theorem qjW(n m x y):(joL n m x y).length<=x.length*y.length:=by
 induction x with
 |nil=>simp[joL]
 |cons s x g =>
  simp only[joL,wB,qX,zK,zz]at g⊢;have:=List.length_filter_le (fun t=>decide (t / m=s % n)) y;rw[Nat.add_mul];omega
theorem uX(n)(l:0<=n)(ah:n<=12)(a b)(p:GR n a)(o:GR n b)(hs:a.ar+b.ar<=5->a.ts.length*b.ts.length<=1000000):qd qb 211 [aI n,eRel a,eRel b] (match uY n a b with | .ok r => .tup [eRel r,aI 0] | .error e => .tup [eRel ⟨0,[]⟩,aI e]):=by
 refine qSV call211 func211 rfl ?_;have a1:=p.ar1;have a3:=p.ar3;have b1:=o.ar1;have b3:=o.ar3;have la:=p.len l zOm;have lb:=o.len l zOm;have w0:qm.wrap (a.ar+b.ar)=a.ar+b.ar:=zWr;have w1:qm.wrap (a.ar+b.ar-2)=a.ar+b.ar-2:=zWr;unfold uY;by_cases a0:1<=a.ar+b.ar-2
 case neg =>
  have C:a.ar+b.ar-2<1:=zOm;rw[zIn];simp_all[go_sem,Yj,Yk]
 by_cases a2:a.ar+b.ar-2<=3
 case neg =>
  have C:¬a.ar+b.ar-2<1:=zOm;have g:3<a.ar+b.ar-2:=zOm;rw[zIn];simp[go_sem,w0,w1,C,g];exact Yj Yk
 have C:¬a.ar+b.ar-2<1:=zOm;have g:¬ 3<a.ar+b.ar-2:=zOm;rw[if_pos ⟨a0,a2⟩];by_cases hz:n=0
 .have e:joR n a b=⟨a.ar+b.ar-2,[]⟩:=by
   unfold joR;rw[GR.none hz p];rfl
  simp[go_sem,w0,w1,C,g,hz]
  grind [Yj,Yk]
 have ai:1<=n:=zOm;have w2:qm.wrap (b.ar-1)=b.ar-1:=zWr;have hp:0<powI n (b.ar-1):=Int.pow_pos zOm;obtain⟨p0,p1⟩:=wU (k:=b.ar-1) l (by omega:n<=20);obtain⟨q0,q1⟩:=wU (k:=b.ar) l (by omega:n<=20);obtain⟨r0,r1⟩:=wU (k:=a.ar) l (by omega:n<=20);have a4:∀ t,t∈a.ts->0<=t/\t<=1000000:=fun t I=>zW1 (p.val t I)
 have a5:∀ t,t∈b.ts->0<=t/\t<=1000000:=fun t I=>zW1 (o.val t I)
 have a6:=XD n l zOm (b.ar-1) zOm zOm;have hJ:joR n a b=⟨a.ar+b.ar-2,ofL (joL n (powI n (b.ar-1)) a.ts b.ts)⟩:=rfl;have aj:=qjW n (powI n (b.ar-1)) a.ts b.ts;have hs:=hs zOm;have a7:=qjT n (powI n (b.ar-1)) hp p1 a b a5 zOm;have a8:=qjV n (powI n (b.ar-1)) zOm zOm hp p1 a b a4 zOm zOm;have a9:WKs [aI n,aI (powI n (b.ar-1)),eRel a,eRel b] [aI n,aI (powI n (b.ar-1)),eRel a,eRel b] := .zs (.zs (.zk (qK a) (.zk (qK b) .nil)));simp only[hJ];generalize powI n (b.ar-1)=m at *
 generalize joL n m a.ts b.ts=J at *
 simp[go_sem,w0,w1,C,g,hz];refine cZ zKr ?_;simp[go_sem,w2];refine fR a6 (.zs (.zs .nil)) ?_;refine fR a7 a9 ?_;refine tD a8 (fun j M=>GatM M (J.take j)) (fun _ _=>False) ?_ ?_ ?_ ?_ ?_ ?_
 .exact ⟨.lst true [],zSi,zSi,.inl ⟨rfl,rfl⟩,by simp[qj],by simp[qj]⟩
 .exact fun j M h=>h.push
 .grind
 .rintro j x M hj ⟨av,T,g1,U,n0,n1⟩
  rw[zf,jK]at hj;obtain⟨t,I,rfl⟩:=hj;obtain⟨ag,ak⟩:=qg.1 I;refine⟨rfl,?_⟩;simp[go_sem,g1];refine aN (e:=3) (bt:=8) (z:=0) zSi zSi zSi zOm U.v zSo ?_;intro al an i aa ab ad;obtain⟨k1,k2⟩:=GatM.step T g1 n0 n1 i aa ab ad;simp[go_sem,k1,i.v.one,i.v.cells]
  grind [tM,yb]
 .rintro M ⟨av,T,g1,U,n0,n1⟩
  rw[zK,qO]at U;simp[go_sem,g1];refine fQ (XA M _ av J zOm U) ?_ ?_
  .rintro r m' ⟨x,h,P,ae,ao,af⟩
   cases h;have h1:=ae 0 (qg.1 T).1 n0;rw[T]at h1;have R:∀ c,(m'.set 0 c)[0]?=some c:=fun c=>qI (qg.1 h1).1
   have hx:qj x≠some 0:=fun h=>n0 (af _ h)
   simp[go_sem,h1,R,P.one];refine Yj (r:=⟨a.ar+b.ar-2,ofL J⟩) (aD (P.same fun b o=>?_));rw[yu (fun e=>hx (by rw[e];exact o))]
  grind
 grind
theorem qjX(p)(I:p.length<=1000000000):qd qb 246 [lI p] (lI p):=by
 refine qSV call246 func246 rfl ?_;cases p with
 |nil =>
  simp[go_sem,lI];refine⟨.wk _ true _ (.hf _ (HF.lst (full:=true) (xs:=[]) fun r o=>by simp at o)),?_⟩;refine aP (e:=3) (bt:=8) (z:=0) (l:=[]) (ys:=[]) zSi zSi zSi zOm (.inl ⟨rfl,rfl⟩) (by simp[qz]) zSp ?_;intro t j g _ _ _;simp[go_sem];exact g.v.rd
 |cons x l =>
  simp[go_sem,lI];refine aP (e:=3) (bt:=8) (z:=0) (l:=[]) (ys:=x :: l) zSi zSi zSi zOm (.inl ⟨rfl,rfl⟩) (by simp[qz]) (by grind) ?_;intro t j g _ _ _;simp[go_sem];exact g.v.rd
theorem Ut{n}(j:0<=n)(i:n<=12){a}(g:GR n a)(l:a.ar=2):a.ts.length<=144:=by
 have e:=nS n;have p:n*n<=12*12:=jq i i j zOm;exact JD g.srt fun t o=>by have:=g.val t o;rw[l,e]at this;omega
theorem qjY{a b}(g:sorted a.ts):a.ts.length<=(unR a b).ts.length:=by
 refine jL (JA g) fun x i=>?_
 exact(Qy (a.ts++b.ts)).2 x |>.2 (jj _ i)
theorem wkJ(n a b):WKs [aI n,eRel a,eRel b] [aI n,eRel a,eRel b] := .zs (.zk (qK a) (.zk (qK b) .nil))
theorem wkR2(a b):WKs [eRel a,eRel b] [eRel a,eRel b] := .zk (qK a) (.zk (qK b) .nil)
theorem closU(n)(l:0<=n)(g:n<=12)(a)(T:GR n a)(I:a.ar=2):qd qb 215 [aI n,eRel a] (eRel (clR n 200 a)):=by
 refine qSV call215 func215 rfl ?_;have a0:=Ut l g T I;simp[go_sem];refine fR (qjX a.ts zOm) (.zk (zh _) .nil) ?_;refine tP (fun m o=>∃ c,m=145-c.ts.length/\GR n c/\c.ar=2/\(∃ f,145<=f+c.ts.length/\clR n f c=clR n 200 a)/\o.tm 0=aI n/\o.tm 4 = .ptr 0 0/\o.tm 5 = .ptr 1 0/\∃ i,o.mu = .arr [aI 0,.lst true []] :: .arr (cRel c) :: i) (145-a.ts.length) ?_ ?_
 .exact ⟨a,rfl,T,I,⟨200,zOm,rfl⟩,zSi,zSi,zSi,[],zS1 I⟩
 rintro m o ⟨c,rfl,gc,c2,⟨f,hf,j⟩,e0,e4,p,i,hm⟩;have r:=Ut l g gc c2;have gj:=GR.join l gc gc zOm zOm;have gu:=aC gc gj (by show c.ar=c.ar+c.ar-2;omega);have a1:=Ut l g gu c2;have a2:=qjY (b:=joR n c c) gc.srt;have hj:=uX n l g c c gc gc fun _=>zt (Nat.mul_le_mul r r) zOm
 have J:uY n c c = .ok (joR n c c):=by simp_all[uY,if_pos]
 rw[J]at hj;have a3:=Ut l g gj (by show c.ar+c.ar-2=2;omega);have hu:=jT c (joR n c c) zOm zOm;simp[go_sem,e0,p,hm];refine tC hj (wkJ n c c) ?_;simp[go_sem,p];refine tC hu (wkR2 c (joR n c c)) ?_;generalize P:unR c (joR n c c)=U at *
 by_cases C:U.ts.length=c.ts.length
 .have hr:clR n 200 a=c:=by
   rw[<-j];cases f with
   |zero=>omega
   |succ f=>rw[clR,P,if_pos C]
  rw[hr];simp[go_sem,e4,p,C];exact .hf _ (qK c)
 .have t:∃ f,145<=f+U.ts.length/\clR n f U=clR n 200 a:=by
   cases f with
   |zero=>omega
   |succ f =>
    rw[clR,P,if_neg C]at j;exact⟨f,zOm,j⟩
  have R:U.ar=2:=by rw[<-P];exact c2
  simp[go_sem,p,C];exact Keep.loop (145-U.ts.length) zOm ⟨U,rfl,gu,R,t,zS1 e0,zS1 e4,zS1 p,_,by simp[go_sem];rfl⟩
end EY
namespace GD
open GB
theorem ZE(xs:List Int):(xs.map rI).flatten=xs.map aI:=by
 induction xs with
 |nil=>rfl
 |cons x xs g=>simp[g]
theorem qjZ{G h xs v}(r:VRel G h (lI xs) v):xs=[]/\(∃ a c,v = .slice a 0 c)\/xs≠[]/\∃ b off c arr e p,v = .slice (some ⟨b,off,none⟩) xs.length c/\h[b]?=some (.cells arr e p)/\∀ j,j<xs.length->arr[off+j]?=some (.int .i64 (xs.getD j 0)):=by
 by_cases R:xs=[]
 .subst R
  refine .inl ⟨rfl,?_⟩;change VRel G h (.lst false []) v at r;cases r with
  |nil=>exact⟨_,_,rfl⟩
  |emp _ a cap t=>exact⟨_,_,rfl⟩
  |lst _ _ g a cap T e p rd C I hl t hi hz J U=>exact⟨_,_,rfl⟩
 .refine .inr ⟨R,?_⟩
  change VRel G h (.lst false (xs.map rI)) v at r;generalize P:xs.map rI=l at r;have i:l.length=xs.length:=by grind
  cases r with
  |nil=>grind
  |emp _ a cap t=>grind
  |lst _ _ g a cap T e p rd C I hl t hi hz J U =>
   obtain⟨b,off,a0⟩:=a;simp only at I C J;subst I;refine⟨b,off,cap,T,e,p,by rw[i],C,fun j hj=>?_⟩;have o:l.flatten[j]?=some (aI (xs.getD j 0)):=by
    rw[<-P];have:(xs.map rI).flatten=xs.map aI:=ZE xs
    grind
   have h1:=J j _ o;have h2:=U j _ o;generalize rd j=u at h1 h2;cases h2;exact h1
def XH(xs:List Int)(x:Int):Nat:=xs.countP (fun y=>decide (y<x))
theorem binU(xs x)(hl:xs.length<=1000000000)(J:xs.Pairwise (·<=·)):qd qb 51 [lI xs,aI x] (.tup [aI (XH xs x),aB (decide (x∈xs))]):=by
 refine⟨call51,fun i w vs I P=>?_⟩;obtain⟨u,v,rfl,R,T⟩:=P.two_inv;cases T;have g:∀ t:j2,VRel ⟨i,[]⟩ t.heap (.tup [aI (XH xs x),aB (decide (x∈xs))]) (.tuple #[.int .i64 (XH xs x:Nat),.bool (decide (x∈xs))]):=by
  intro t;refine .tup _ _ rfl (fun k y p=>?_);cases k with
  |zero=>simp at p;subst p;exact .sc _ rfl
  |succ k=>cases k with
   |zero=>simp at p;subst p;exact .sc _ rfl
   |succ k=>simp at p
 rcases qjZ R with ⟨rfl,a,c,rfl⟩|⟨U,b,off,c,arr,e,fr,rfl,o,hc⟩
 .refine (Tryz.slices_BinarySearch_int_empty a c x w).mono fun e t ⟨r,C⟩=>?_
  subst C;refine⟨i,_,r,fun _ h=>h,fun b o=>⟨I.imm b o,.inl o⟩,⟨RowKit.Below.refl _ _,qo _⟩,?_⟩;exact g _
 .have l:∀ j,j<xs.length->w.cell? ⟨b,off+j,none⟩=some (.int .i64 (xs.getD j 0)):=by
   simp_all[World.cell?,Option.isSome_none,Bool.false_eq_true,if_false]
  refine(Tryz.slices_BinarySearch_int b off xs.length c xs x w (qo _) zOm l (by rw[qO];exact J)).mono fun e t ⟨r,q,C⟩=>?_
  subst C;rw[qO]at r;have e2:xs.contains x=decide (x∈xs):=by
   rw[jX];simp
  rw[e2]at r;refine⟨i,_,r,fun _ h=>h,fun b o=>⟨I.imm b o,.inl o⟩,⟨⟨rfl,rfl,rfl,qo _,fun _ _=>rfl⟩,Nat.le_add_right _ _⟩,?_⟩;exact g _
theorem nT(f):HF (.fn (.func f) [] []):=HF.fn (fun c g=>by simp at g) (fun c g=>by simp at g)
structure SmS (S:Sts):Prop where
 n:S.length<=1000
 f:∀ s,s∈S->s.length<=1000
 t:∀ s,s∈S->∀ r,r∈s->r.ts.length<=1000/\r.ts.Pairwise (·<·)
end GD
namespace E9
theorem nU(sc)(g:GSc sc):qd qb 23 [eSc sc] (aI (sumI sc.sC)):=by
 refine qSU call23 func23 rfl ?_;refine qh.up sc.sC.length (fun k U=>U.tm 1 = .ip [lI sc.sC,aI sc.sN]/\U.tm 3=aI (sumI (sc.sC.take k))/\U.tm 4=aI k/\U.mu=[]) ?_ ?_
 .simp [go_sem,sumI]
 rintro k U I ⟨o,p,r,t⟩;have J:=g.1;simp[go_sem,o,r,t];refine tK (fun i=>?_) (fun j=>?_)
 .have i:k<sc.sC.length:=by simpa using i
  have C:=uw sc.sC k i;have l:=g.sum (k+1);rw[C]at l;simp[go_sem,o,p,r,i]
  grind [zL]
 .have j:k=sc.sC.length:=by simp at j;omega
  subst j;simp[go_sem,p];exact .zsc _
def u4:List Int->Int->Int->Int
 | [],_,_ => -1
 |a :: l,x,i=>if x<a then i else u4 l (x-a) (i+1)
def uC(sc:Sc)(x:Int):Int:=u4 sc.sC x 0
theorem nV(l:List Int)(k x i h):u4 (l.drop k) x i=if x<l[k] then i else u4 (l.drop (k+1)) (x-l[k]) (i+1):=by
 rw[zm h,u4]
def divN(n x:Int):Nat->Int
 | 0=>x
 |j+1=>divN n x j / n
theorem Uu{J:Type}{l:List J}{p}:l.all p=true↔∀(i)(h:i<l.length),p l[i]=true:=by
 rw[zb];refine⟨fun h i g=>h _ (qn g),fun h a j=>?_⟩;obtain⟨i,g,rfl⟩:=wC j;exact h i g
theorem Uv{J:Type}{l:List J}{p i}(h:i<l.length)(g:p l[i]=false):l.all p=false:=by
 rw[<-Bool.not_eq_true,Uu]
 grind
end E9
namespace G5
open E9 EO EQ
theorem XI(sc)(g:GSc sc)(n:Nat)(J:n<=1000000):qd qb 191 [eSc sc,aI n] (aI (sumI (sc.sC.take n))):=by
 have P:=g.1;refine qSU call191 func191 rfl ?_;refine qh.up (min n sc.sC.length) (fun k U=>U.tm 1=aI n/\U.tm 2 = .ip [lI sc.sC,aI sc.sN]/\U.tm 5=aI (sumI (sc.sC.take k))/\U.tm 6=aI k) ?_ ?_
 .simp [go_sem,sumI]
 rintro k U R ⟨l,C,o,p⟩;by_cases j:k<n
 .by_cases i:k<sc.sC.length
  .have I:=uw sc.sC k i
   have r:=g.sum (k+1);rw[I]at r;simp[go_sem,l,C,o,p,j,i]
   grind [zL]
  .have e:sc.sC.take n=sc.sC.take k:=by rw[zO zOm,zO zOm]
   rw[e];simp[go_sem,l,C,o,p,j,i];exact .zsc _
 .have t:k=n:=by omega
  subst t;simp[go_sem,l,o,p];exact .zsc _
theorem nW(sc)(g:GSc sc):qd qb 144 [eSc sc] (aI (sumI sc.sC)):=by
 have i:=g.1;have h:=XI sc g sc.sC.length zOm;rw[qO]at h;refine qSU call144 func144 rfl ?_;refine fR h (.zk (zA _) (.zs .nil)) ?_;exact .zsc _
theorem Ym(n:Int)(g:0<=n)(i:n<=20):∀ k,k<=3->0<=n ^ k/\n ^ k<=8000
 | 0,_=>zSp
 | 1,_=>by rw[show n ^ 1=n by rw[Int.pow_succ,Int.pow_zero,Int.one_mul]];omega
 | 2,_=>by
  have:n*n<=20*20:=jq i i g zOm;have j:=Int.mul_nonneg g g;rw[show n ^ 2=n*n by grind];omega
 | 3,_=>by
  have j:n*n<=20*20:=jq i i g zOm;have l:=Int.mul_nonneg g g;have o:n*n*n<=400*20:=jq j i g zOm;simp_all[Int.mul_nonneg,Int.pow_succ,Int.pow_zero,Int.one_mul]
 |k+4,h=>zOm
theorem nX(sc)(g:GSc sc)(n:Nat)(J:n<=3):qd qb 94 [eSc sc,aI n] (aI (sumI sc.sC ^ n)):=by
 have j:=g.sum sc.sC.length;rw[qO]at j;refine qSU call94 func94 rfl ?_;refine qh.up n (fun k U=>U.tm 1=aI n/\U.tm 2 = .ip [lI sc.sC,aI sc.sN]/\U.tm 5=aI (sumI sc.sC ^ k)/\U.tm 6=aI k) ?_ ?_
 .simp [go_sem]
 rintro k U P ⟨l,r,t,o⟩;by_cases i:k<n
 .have C:=Ym (sumI sc.sC) j.1 j.2 (k+1) zOm
  have e:sumI sc.sC ^ (k+1)=sumI sc.sC ^ k*sumI sc.sC:=Int.pow_succ ..;rw[e]at C;have I:(k:Int)<3:=zOm;simp[go_sem,l,r,t,o,i,I];refine tC (nW sc g) (.zk (zA _) .nil) ?_;simp[go_sem,l,r,o,i]
  grind [zL]
 .have p:k=n:=by omega
  subst p;simp[go_sem,l,t,o];exact .zsc _
theorem nY(l x)(g:∀ a,a∈l->0<=a):∀ k i,k<=l.length->sumI (l.take k)<=x->u4 l x i=u4 (l.drop k) (x-sumI (l.take k)) (i+k):=by
 intro k;induction k with
 |zero=>grind [sumI]
 |succ k j =>
  intro i p r;have o:=uw l k zOm;have t:=g _ (qn (show k<l.length by omega));rw[j i zOm zOm,nV l k _ _ zOm,zIn,o]
  grind
theorem qj0(sc)(g:GSc sc)(x:Nat)(T:x<=1000):qd qb 145 [eSc sc,aI x] (aI (uC sc x)):=by
 have hl:=g.1;have l:∀ a,a∈sc.sC->0<=a:=fun a R=>(g.2 a R).1
 refine qSU call145 func145 rfl ?_;refine qh.up sc.sC.length (fun k U=>U.tm 1=aI x/\U.tm 2 = .ip [lI sc.sC,aI sc.sN]/\U.tm 5=aI k/\sumI (sc.sC.take k)<=x) ?_ ?_
 .simp [go_sem,sumI]
 rintro k U I ⟨r,p,o,t⟩;by_cases j:k<sc.sC.length
 .have hs:=uw sc.sC k j
  have i:=nY sc.sC x l k 0 I t;rw[nV sc.sC k _ _ j]at i;have J:qm.wrap ((k:Int)+1)=((k+1:Nat):Int):=by grind [zL]
  simp[go_sem,r,p,o,j];refine tC (XI sc g k zOm) (.zk (zA _) (.zs .nil)) ?_;simp[go_sem,r,p,o,t,J];refine tC (XI sc g (k+1) zOm) (.zk (zA _) (.zs .nil)) ?_;by_cases P:(x:Int)<sumI (sc.sC.take (k+1))
  .have e:uC sc x=k:=by
    unfold uC;rw[i,if_pos zOm];omega
   rw[e];simp[go_sem,o,P];exact .zsc _
  .simp [go_sem,r,p,o,j,P,J]
   omega
 .have C:k=sc.sC.length:=by omega
  subst C;have e:uC sc x = -1:=by
   unfold uC;rw[nY sc.sC x l sc.sC.length 0 I t,yh];rfl
  rw[e];simp[go_sem,p,o];exact .zsc _
def digs(n:Int):Nat->Int->List Int
 | 0,_=>[]
 |k+1,r=>digs n k (r / n)++[r % n]
theorem Yn(n):∀ k r,(digs n k r).length=k
 | 0,_=>rfl
 |k+1,r=>by rw[digs,qX,Yn n k];rfl
theorem nZ(n):∀ j x,divN n (x / n) j=divN n x (j+1)
 | 0,x=>rfl
 |j+1,x=>by rw[divN,nZ n j x];rfl
theorem n6(n):∀ j r,digs n (j+1) r=(divN n r j % n) :: digs n j r
 | 0,r=>by simp[digs,divN]
 |j+1,r=>by
  rw[digs,n6 n j (r / n),nZ,List.cons_append];rfl
theorem XJ(n r)(i:0<n)(g:0<=r):∀ j,0<=divN n r j/\divN n r j<=r
 | 0=>⟨g,by simp[divN]⟩
 |j+1=>by
  have:=XJ n r i g j;rw[divN];have l:=Int.ediv_le_self n this.1;exact⟨Int.ediv_nonneg this.1 zOm,zOm⟩
theorem qj1{mu b cells ds}(o:mu[b]?=some (.arr cells))(h:∀ i (I:i<ds.length),cells[i]?=some (aI ds[i])):Rd mu (.sl b 1 0 ds.length) (lI ds):=by
 refine .sl b 1 0 ds.length cells (ds.map rI) o ?_ zSp (fun r p=>by obtain⟨x,_,rfl⟩:=qi.1 p;rfl) fun k x y g l=>?_
 .grind
 .rw [z7]at g
  rw[GD.ZE,zf,jK]at l;obtain⟨z,t,rfl⟩:=l;have C:=(qg.1 t);obtain⟨j,rfl⟩:=C;rw[h k j]at g;cases g;exact .zsc _
theorem qj2(sc)(g:GSc sc)(hp:0<sumI sc.sC)(k:Nat)(hk:k<=3)(r:Nat)(hr:(r:Int)<sumI sc.sC ^ k):qd qb 95 [eSc sc,aI k,aI r] (lI (digs (sumI sc.sC) k r)):=by
 have hs:=g.sum sc.sC.length;rw[qO]at hs;have a7:=Ym (sumI sc.sC) hs.1 hs.2 k hk;refine qSV call95 func95 rfl ?_;have a0:¬(3:Int)<k:=zOm;have a1:¬(k:Int)<0:=zOm;have a2:¬(r:Int)<0:=zOm;simp[go_sem,a0,a1,a2];refine tC (nX sc g k hk) (.zk (zA _) (.zs .nil)) ?_;have a3:¬sumI sc.sC ^ k<=(r:Int):=zOm;simp[go_sem,a3];refine tC (nW sc g) (.zk (zA _) .nil) ?_;generalize hN:sumI sc.sC=N at *
 have w0:qm.wrap ((k:Int)-1)=(k:Int)-1:=zWr;simp[go_sem,w0];refine tP (fun m U=>∃ j:Nat,m=k-j/\j<=k/\U.tm 1=aI k/\U.tm 7 = .sl 0 1 0 3/\U.tm 8=aI N/\U.tm 9=aI (divN N r j)/\U.tm 10=aI ((k:Int)-1-j)/\∃ c0 c1 c2,U.mu=[.arr [aI c0,aI c1,aI c2]]/\∀ i (P:i<j),[c0,c1,c2][k-j+i]?=some ((digs N j r)[i]'(by rw[Yn];exact P))) k ?_ ?_
 .exact ⟨0,zOm,zOm,zSi,zSi,zSi,by simp[go_sem,divN],zSi,0,0,0,zSi,fun i P=>zOm⟩
 rintro m U ⟨j,rfl,hj,e1,p,R,e9,o,c0,c1,c2,hm,hc⟩;by_cases a8:j<k
 .obtain ⟨d,rfl⟩:∃ d:Nat,k=j+1+d:=⟨k-(j+1),zOm⟩
  have t:d=0\/d=1\/d=2:=zOm;have ex:(((j+1+d:Nat):Int)-1-j)=(d:Int):=zOm;rw[ex]at o;have T:=XJ N r hp zOm j;have a9:(r:Int)<=8000:=zOm;have hq:(divN N r j).tdiv N=divN N r (j+1):=by rw[divN,Int.tdiv_eq_ediv_of_nonneg T.1]
  have I:(divN N r j).tmod N=divN N r j % N:=uN T.1;have a6:=XJ N r hp zOm (j+1);have w1:qm.wrap (divN N r (j+1))=divN N r (j+1):=zWr;have J:¬N=0:=zOm;have aa:(digs N (j+1) r)=(divN N r j % N) :: digs N j r:=n6 N j r;have a4:=Yn N j r;rcases t with t|t|t
  .have l:U.tm 10=aI 0:=by rw[o,t];rfl
   have w2:qm.wrap (-1) = -1:=zWr;simp[go_sem,p,R,e9,l,hm,J,hq,I,w1,w2];refine Keep.loop (j+1+d-(j+1)) zOm ⟨j+1,rfl,zOm,zS1 e1,zS1 p,zS1 R,zSi,by simp[go_sem];omega,divN N r j % N,c1,c2,zSi,fun i P=>?_⟩
   grind
  .have l:U.tm 10=aI 1:=by rw[o,t];rfl
   have w2:qm.wrap (0)=0:=zWr;simp[go_sem,p,R,e9,l,hm,J,hq,I,w1,w2];refine Keep.loop (j+1+d-(j+1)) zOm ⟨j+1,rfl,zOm,zS1 e1,zS1 p,zS1 R,zSi,by simp[go_sem];omega,c0,divN N r j % N,c2,zSi,fun i P=>?_⟩
   grind
  .have l:U.tm 10=aI 2:=by rw[o,t];rfl
   have w2:qm.wrap (1)=1:=zWr;simp[go_sem,p,R,e9,l,hm,J,hq,I,w1,w2];refine Keep.loop (j+1+d-(j+1)) zOm ⟨j+1,rfl,zOm,zS1 e1,zS1 p,zS1 R,zSi,by simp[go_sem];omega,c0,c1,divN N r j % N,zSi,fun i P=>?_⟩
   grind
 .have a5:j=k:=by omega
  subst a5;have hn:¬(j:Int)<=(j:Int)-1:=zOm;have h3:(j:Int)<=3:=zOm;simp[go_sem,e1,p,o,hm,hn,h3];have a4:=Yn N j r;have:=qj1 (mu:=[.arr [aI c0,aI c1,aI c2]]) (b:=0) (cells:=[aI c0,aI c1,aI c2]) (ds:=digs N j r) rfl fun i P=>by
   have:=hc i zOm;rw[Nat.sub_self,z7]at this;rw[show [aI c0,aI c1,aI c2]=[c0,c1,c2].map aI from rfl,zf,this];rfl
  grind
def fitB(sc:Sc)(ds g:List Int):Bool:=allN (fun i=>decide (uC sc (gI ds i)=gI g i)) g.length
theorem qj3(sc)(g:GSc sc)(ds j)(hl:ds.length=j.length)(a0:j.length<=3)(hd:∀ d,d∈ds->0<=d/\d<=1000):qd qb 96 [eSc sc,lI ds,lI j] (aB (fitB sc ds j)):=by
 refine qSU call96 func96 rfl ?_;refine qh.up j.length (fun k U=>U.tm 1=lI ds/\U.tm 2=lI j/\U.tm 3 = .ip [lI sc.sC,aI sc.sN]/\U.tm 7=aI k/\∀ i,i<k->uC sc (gI ds i)=gI j i) ?_ ?_
 .simp [go_sem]
 rintro k U hk ⟨J,r,P,p,hi⟩;by_cases l:k<j.length
 .have o:k<ds.length:=by omega
  have t:=hd ds[k] (qn o);obtain⟨d,C⟩:=Int.eq_ofNat_of_zero_le t.1;simp[go_sem,r,p,l];refine cZ zKr ?_;simp[go_sem,J,P,p,o];have R:=qj0 sc g d zOm;rw[<-C]at R;refine tC R (.zk (zA _) (.zs .nil)) ?_;have g1:gI ds k=ds[k]:=uu o;have g2:gI j k=j[k]:=uu l;by_cases T:uC sc ds[k]=j[k]
  .simp [go_sem,J,r,P,p,l,T]
   refine⟨zWr,fun i a1=>?_⟩;by_cases h:i=k
   .grind
   grind
  .have hf:fitB sc ds j=false:=qhV l (by grind)
   rw[hf];simp[go_sem,r,p,l,T];exact .zsc _
 .have I:k=j.length:=by omega
  subst I;have hf:fitB sc ds j=true:=Xa.2 fun i h=>by grind
  rw[hf];simp[go_sem,r,p];exact .zsc _
theorem XK(n)(i:0<n)(g:n<=20):∀ k r,∀ d,d∈digs n k r->0<=d/\d<=1000
 | 0,_,d,h=>by simp[digs]at h
 |k+1,r,d,h=>by
  rw[digs,qH]at h;rcases h with h|h
  .exact XK n i g k _ d h
  .rw [qT]at h;subst h
   have j:=Int.emod_nonneg r (show n≠0 by omega);have l:=Int.emod_lt_of_pos r i;omega
def j9(sc:Sc)(g:List Int)(r:Nat):List Int:=((qq r).filter fun k:Nat=>fitB sc (digs (sumI sc.sC) g.length k) g).map fun k:Nat=>(k:Int)
theorem qj4(sc g r):j9 sc g (r+1)=j9 sc g r++(if fitB sc (digs (sumI sc.sC) g.length r) g then [(r:Int)] else []):=by
 unfold j9;rw[List.range_succ,List.filter_append,q9];by_cases h:fitB sc (digs (sumI sc.sC) g.length r) g=true<;>simp[h]
theorem XL(sc g r):(j9 sc g r).length<=r:=by
 grind [List.length_filter_le,fitB,digs,sumI,qq,List.length_range,j9]
theorem JQ(sc g r):(j9 sc g r).Pairwise (·<·):=by
 unfold j9;rw[List.pairwise_map];exact(List.pairwise_lt_range.filter _).imp fun h=>zOm
theorem qj5(sc g r):∀ x,x∈j9 sc g r->0<=x/\x<r:=fun x i=>by
 obtain⟨k,j,rfl⟩:=qi.1 i;have:=zW.1 (yX.1 j).1;omega
def yA(sc:Sc)(g:List Int):List Int:=j9 sc g (sumI sc.sC ^ g.length).toNat
theorem n7(sc)(g:GSc sc)(hp:0<sumI sc.sC)(j:List Int)(h1:1<=j.length)(h3:j.length<=3)(hs:∀ s,s∈j->0<=s/\s<sc.sC.length):qd qb 49 [eSc sc,lI j] (eRel ⟨j.length,yA sc j⟩):=by
 have P:=g.sum sc.sC.length;rw[qO]at P;have a3:=Ym (sumI sc.sC) P.1 P.2 j.length h3;obtain⟨R,hR⟩:=Int.eq_ofNat_of_zero_le a3.1;have a4:yA sc j=j9 sc j R:=by rw[yA,hR];rfl
 refine qSV call49 func49 rfl ?_;have n1:¬(j.length:Int)<1:=zOm;have n3:¬(3:Int)<(j.length:Int):=zOm;simp[go_sem,n1,n3];refine qh.up j.length (fun k U=>U.tm 1=lI j/\U.tm 2 = .ip [lI sc.sC,aI sc.sN]/\U.tm 4 = .ptr 0 0/\U.tm 5=aI j.length/\U.tm 6=aI k/\U.mu=[.arr [aI 0,.lst true []]]) ?_ ?_
 .simp [go_sem]
 rintro k U hk ⟨e1,I,e4,C,e6,hm⟩;by_cases o:k<j.length
 .have a6:=hs j[k] (qn o)
  have m1:¬j[k]<0:=zOm;have m2:¬(sc.sC.length:Int)<=j[k]:=zOm;simp[go_sem,C,e6,hm,o];refine cZ zKr ?_;simp[go_sem,e1,I,e4,C,e6,o,m1,m2]
  grind [zL]
 have T:k=j.length:=zOm;subst T;simp[go_sem,C,e6,hm];refine tP (fun m U=>∃ k t l,m=R-k/\k<=R/\U.tm 1=lI j/\U.tm 2 = .ip [lI sc.sC,aI sc.sN]/\U.tm 4 = .ptr 0 0/\U.tm 5=aI j.length/\U.tm 7 = .ptr 1 0/\U.tm 8=aI (k:Nat) /\
  U.mu=[.arr [aI 0,.lst true []],.arr [aI j.length,t]]++l/\OwnF 2 ([.dead,.dead]++l) 1 t ((j9 sc j k).map rI)) R ?_ ?_
 .exact ⟨0,.lst true [],[],zOm,zOm,zS1 e1,zS1 I,zS1 e4,zS1 C,zSi,zSi,zSi,by grind [j9,OwnF.nil]⟩
 rintro m U ⟨k,t,l,rfl,hk,e1,I,e4,C,e7,e8,hm,ho⟩;have ho:=ho.low (low:=[.dead,.dead]) (low':=[.arr [aI 0,.lst true []],.arr [aI j.length,t]]) rfl;simp[go_sem,I,C,e8,hm];refine tC (nX sc g j.length h3) (.zk (zA _) (.zs .nil)) ?_;rw[hR];by_cases o:k<R
 .simp [go_sem,I,C,e8,o]
  refine tC (qj2 sc g hp j.length h3 k zOm) (.zk (zA _) (.zs (.zs .nil))) ?_;simp[go_sem,e1,I];refine tC (qj3 sc g _ j (Yn _ _ _) h3 (XK _ hp zOm _ _)) (.zk (zA _) (.zk (zh _) (.zk (zh _) .nil))) ?_;have a0:=qj4 sc j k;have a7:=XL sc j k;cases hb:fitB sc (digs (sumI sc.sC) j.length k) j with
  |false =>
   rw[hb]at a0;simp[go_sem,e8];refine Keep.loop (R-(k+1)) zOm ⟨k+1,t,l,rfl,zOm,zS1 e1,zS1 I,zS1 e4,zS1 C,zS1 e7,?_,zSi,?_⟩
   .simp [go_sem];grind [zL]
   grind
  |true =>
   rw[hb]at a0;simp[go_sem,e7,e8];refine fU (low:=[.arr [aI 0,.lst true []],.arr [aI j.length,t]]) (e:=3) (bt:=8) (z:=0) (xs:=j9 sc j k) (ys:=[(k:Int)]) zSi zSi zSi zOm ho (by simp[qz]) zSo ?_;intro a5 a1 a2;simp[go_sem,e7,e8,a2.cells,a2.one];refine Keep.loop (R-(k+1)) zOm ⟨k+1,a5,a1,rfl,zOm,zS1 e1,zS1 I,zS1 e4,zS1 C,zS1 e7,?_,zSi,?_⟩
   .simp [go_sem];grind [zL]
   .rw [a0]
    simpa[go_sem] using a2.low (low':=[.dead,.dead]) rfl
 .have T:k=R:=by omega
  subst T;simp[go_sem,e4,e7,ho.one];rw[a4];exact Rd.rel (r:=⟨j.length,j9 sc j k⟩) (ho.low (low:=[.arr [aI 0,.lst true []],.arr [aI j.length,t]]) (low':=[.arr [aI j.length,t],.arr [aI j.length,t]]) rfl).rdI
end G5
namespace GM
end GM
namespace GP
open P1 E3 GB G5
def v6(g:List Bool)(lo:Rl)(q:List Int×Nat)(t:Int):List Int×Nat:=
 if t∈lo.ts then (q.1++[t],q.2) else (q.1++(if g.getD q.2 false=true then [t] else []),q.2+1)
def insF(g:List Bool)(lo:Rl)(ts:List Int)(n:Nat):List Int×Nat:=ts.foldl (v6 g lo) ([],n)
theorem qj6(g lo)(ts:List Int)(n k h):insF g lo (ts.take (k+1)) n=v6 g lo (insF g lo (ts.take k) n) ts[k]:=by
 rw[vu h,insF,vy];rfl
theorem XM(g lo):∀(ts:List Int)(q w),q.1.Sublist w->(ts.foldl (v6 g lo) q).1.Sublist (w++ts)
 | [],q,w,h=>zUs h
 |t :: ts,q,w,h=>by
  rw[List.foldl_cons,show w++t :: ts=(w++[t])++ts by simp];refine XM g lo ts _ _ ?_;unfold v6;split
  .exact h.append (List.Sublist.refl _)
  .split
   .exact h.append (List.Sublist.refl _)
   .exact h.append (List.nil_sublist _)
theorem XN(g lo):∀(ts:List Int)(q),(ts.foldl (v6 g lo) q).2<=q.2+ts.length
 | [],q=>zSp
 |t :: ts,q=>by
  rw[List.foldl_cons];have:=XN g lo ts (v6 g lo q t);have i:(v6 g lo q t).2<=q.2+1:=by unfold v6;split<;>simp
  simp only[zz];omega
def insB(g:List Bool)(q:List Rl×Nat)(b:Bd):List Rl×Nat:=(q.1++[⟨b.up.ar,(insF g b.lo b.up.ts q.2).1⟩],(insF g b.lo b.up.ts q.2).2)
def vo(g:List Bd)(i:List Bool):List Rl×Nat:=g.foldl (insB i) ([],0)
def vp(g:List Bd)(i:List Bool):List Rl:=(vo g i).1
theorem qj7(g:List Bd)(i k h):vo (g.take (k+1)) i=insB i (vo (g.take k) i) g[k]:=by
 rw[vu h,vo,vy];rfl
theorem n8(g M):∀(i:List Bd)(q),(∀ b,b∈i->b.up.ts.length<=M)->(i.foldl (insB g) q).2<=q.2+i.length*M
 | [],q,_=>zSp
 |b :: i,q,h=>by
  rw[List.foldl_cons];have:=n8 g M i (insB g q b) fun x j=>h x (qW _ j)
  have l:(insB g q b).2<=q.2+M:=zt (XN g b.lo b.up.ts _) (by grind);rw[zz,Nat.add_mul];omega
theorem XP(i):∀(g:List Bd)(q),(g.foldl (insB i) q).1.map Rl.ar=q.1.map Rl.ar++g.map fun b=>b.up.ar
 | [],q=>zSp
 |b :: g,q=>by rw[List.foldl_cons,XP i g];simp[insB]
theorem qj8(g i):(vp g i).map Rl.ar=g.map fun b=>b.up.ar:=by
 rw[vp,vo,XP];simp
theorem XQ(g i):(vp g i).length=g.length:=by
 rw[<-zK (f:=Rl.ar),qj8,zK]
def anyS(j:List Bool)(i:List Bd)(g:List (List Bool))(s:Nat):List Rl:=
 if s=0 then vp i (g.getD 0 []) else (vp i (g.getD s [])).mapIdx fun f r=>if j.getD f true=true then r else (vp i (g.getD 0 [])).getD f noR
def anyM(sc:Sc)(i:List Bool)(j:List Bd)(g:List (List Bool))(loop:Int):Md:=⟨sc,(qq sc.sN.toNat).map (anyS i j g),loop⟩
def defB(ts:TS)(sc:Sc):List Bd:=ts.sA.map fun f=>⟨⟨f.sS.length,[]⟩,⟨f.sS.length,yA sc f.sS⟩⟩
end GP
namespace Y10
open Y1 Y2 Y3 P1 Y6 Y7 YF Y9
section
variable {s:AV}{K:AV->Mu->Prop}{xs:List (List AV)}{mu:Mu}{sz:Nat}
abbrev rB(b:Bool):List AV:=[aB b]
theorem wX(l:List Bool):zc 1 (l.map rB):=fun r g=>by
 obtain⟨n,_,rfl⟩:=qi.1 g;exact⟨rfl,rfl⟩
theorem OwnF.rdB{lo av}{xs:List Bool}(h:OwnF lo mu 1 av (xs.map rB)):Rd mu av (.lst false (xs.map rB)):=
 h.1.rd (wX xs).ok fun r g c i=>by
  obtain⟨n,_,rfl⟩:=qi.1 g
  grind [HF.sc]
theorem XS{lo mu' av}(h:OwnF lo mu sz av xs)(i:MuLe mu mu'):OwnF lo mu' sz av xs:=by
 obtain⟨j,l,o⟩:=h;have g:mu.length<=mu'.length:=by
  rcases Nat.eq_zero_or_pos mu.length with p|p
  .omega
  .have:=i (mu.length-1) mu[mu.length-1] (qw zOm)
   have:=(qg.1 this).1;omega
 refine⟨?_,l,zt o g⟩;rcases j with rfl|⟨b,rfl,r⟩
 .exact .inl rfl
 .exact .inr ⟨b,rfl,i _ _ r⟩
theorem ZH(ts):∀ k,k<=ts.sT.length->(tmsL ts k).length=k
 | 0,_=>rfl
 |k+1,h=>by
  have g:k<ts.sT.length:=zOm;simp[tmsL,ZH ts k zOm,qw g]
theorem uD{ts}(h:okTS ts){k}(g:k<=ts.sT.length):okCk (mkCk ts k):=⟨h,g,Nat.le_of_eq (ZH ts k g).symm⟩
theorem qj9(ts)(h:okTS ts)(hs:∀ p,p∈ts.sT->Small p.body)(n)(hn:n<=ts.sT.length):qd qb 119 [eTS ts,aI n] (eCk (mkCk ts n)):=by
 refine qSQ call119 func119 rfl { mt:=[9] } ?_;have a8:=h.np;simp[go_sem];refine kT n (fun k U=>∃ t r,U.tm 1=aI n/\U.tm 2 = .ip (cTS ts)/\U.tm 5 = .ptr 0 0/\U.mu=[.arr [lSo ts.sS,lFl ts.sA,lPd ts.sT,lFa ts.sP,aI k,t]]++r/\OwnF 1 U.mu 1 t ((tmsL ts k).map rB)) ?_ ?_
 .refine ⟨.lst true [],[],zSi,zSi,zSi,zSi,?_⟩
  exact OwnF.nil zSi
 .rintro k U hk ⟨t,r,e1,e2,T,hm,ho⟩
  have a3:Rd U.mu (.ptr 0 0) (eCk (mkCk ts k)):=by
   rw[hm];refine .ptr 0 0 _ _ rfl zSp (fun j x y l o=>?_);rw[<-hm]
   match j with
   | 0=>simp at l o;subst l;subst o;exact .hf _ (Uj _)
   | 1=>simp at l o;subst l;subst o;exact .hf _ (Yf _)
   | 2=>simp at l o;subst l;subst o;exact .hf _ (Qv _)
   | 3=>simp at l o;subst l;subst o;exact .hf _ (Ui _)
   | 4=>simp at l o;subst l;subst o;exact .zsc _
   | 5=>simp at l o;subst l;subst o;exact OwnF.rdB ho
   |j+6=>simp at l
  by_cases a0:k<n
  .have I:k<ts.sT.length:=by omega
   simp[go_sem,e1,T,hm,a0];refine cZ zKr ?_;have a1:OwnF 1 (U.mu++[.arr (cNd ts.sT[k].body)]) 1 t ((tmsL ts k).map rB):=XS ho (MuLe.push _ _);have C:=Rd.le (MuLe.push U.mu (.arr (cNd ts.sT[k].body))) a3;have a4:=nj (mkCk ts k) (uD h zOm) _ ts.sT[k].body (qo _) (hs _ (qn I));have a5:tmsL ts (k+1)=tmsL ts k++[yq (mkCk ts k) ts.sT[k].body]:=by
    simp only[tmsL,qw I];rfl
   have hl:=ZH ts k zOm;rw[hm]at a1 C;simp[go_sem,e2,T,I];refine cZ zKr ?_;simp[go_sem,T,qh0];refine fX a4 ⟨zUs C,.hf _ (qJ _),trivial⟩ (FL.sc _) ?_;simp[go_sem];refine qu.ownF (lo:=1) (e:=4) (sz:=1) (bt:=1) (zv:=aB false) (xs:=(tmsL ts k).map rB) (ys:=[rB (yq (mkCk ts k) ts.sT[k].body)]) zSi zSi zSi rfl rfl zOm zOm (zUs a1) (by simp[qz]) (wX _) (wX [_]) zSo ?_;intro a2 a9 J a6;obtain⟨R,rfl⟩:=qh6 (a6 0 zOm);have w1:=zWk k;simp[go_sem,T,a0,w1,OwnF.cells J,OwnF.one J];refine aK ?_;refine⟨a2,R,zS1 e1,zS1 e2,zS1 T,zSi,?_⟩;have e3:(tmsL ts k).map rB++[rB (yq (mkCk ts k) ts.sT[k].body)]=(tmsL ts (k+1)).map rB:=by rw[a5,q9];rfl
   rw[<-e3];exact OwnF.low (low:=[.arr [lSo ts.sS,lFl ts.sA,lPd ts.sT,lFa ts.sP,aI k,t]]) (low':=[.arr [lSo ts.sS,lFl ts.sA,lPd ts.sT,lFa ts.sP,aI (k+1),a2]]) J rfl
  .obtain rfl:k=n:=by omega
   simp_all[go_sem]
theorem ofU'(full l)(j:l.length<=3)(o:∀ x,x∈l->0<=x/\x<128):qd qb 207 [.lst full (l.map rI)] (eKd (kOf l)):=by
 have:=ofU l j o;refine⟨this.1,fun g w p r t=>this.2 g w p r ?_⟩;obtain⟨v,rfl,C⟩:=t.one_inv;exact⟨rfl,fun k x i=>by
  cases k with
  |zero=>simp at i;subst i;simpa using C.ro
  |succ k=>simp at i⟩
theorem bindU(ns:Nat)(I:ns<=4)(env:List (tG×Int))(T:env.length<=1000000)(J:∀ p,p∈env->0<=p.2/\p.2<ns):qd qb 168 [lPm env] (aSc (ye env)):=by
 refine qSU call168 func168 rfl ?_;refine qh.up env.length (fun k U=>U.tm 3=aSc (ye (env.take k))/\U.tm 6=lPm env/\U.tm 7=aI env.length/\U.tm 8=aI k) ?_ ?_
 .simp [go_sem]
  rfl
 .rintro k U hk ⟨t,C,i,j⟩
  by_cases l:k=env.length
  .subst l
   simp[go_sem,t,i,j];exact .hf _ (wQ _)
  .have g:k<env.length:=by omega
   have P:ye (env.take (k+1))=(env[k].1,kOf [env[k].2]) :: ye (env.take k):=by
    unfold ye;rw[List.take_add_one,qw g,vy];rfl
   have o:=ofU' true [env[k].2] zSp (fun x hx=>by grind);have R:=zWk k;simp[go_sem,C,i,j,g];refine fM ?_;refine tC o (.zk (HF.lst fun r J c hc=>by grind [HF.sc]) .nil) ?_;simp[go_sem,t,C,i,j,g,R];rw[P];rfl
theorem u5(a b:tG):(a.toList == b.toList)=decide (a=b):=by
 grind [jF,decide_eq_false]
theorem appK{xs k}(j:OwnF 0 mu 2 s (xs.map cKd))(l:xs.length<=100000)(o:∀ av mu',OwnF 0 mu' 2 av ((xs++[k]).map cKd)->K av mu') :
  qu qb mu #[263,263] s (.lst true [cKd k]) K:=by
 refine qu.ownF (lo:=0) (e:=258) (sz:=2) (bt:=16) (zv := .agg [aI 0,.sc (.map none)]) (xs:=xs.map cKd) (ys:=[cKd k]) zSi zSi zSi rfl rfl zOm zOm j (by simp[qz]) (Qu _) (Qu [k]) zSo ?_
 grind
theorem n9{xs k b c}(j:Own mu 2 s (xs.map cKd))(l:mu[b]?=some c)(o:∀ off len,s ≠ .sl b 2 off len)(I:xs.length<=100000)
  (g:∀ av mu',Own mu' 2 av ((xs++[k]).map cKd)->mu'[b]?=some c->(∀ off len,av ≠ .sl b 2 off len)->K av mu') :
  qu qb mu #[263,263] s (.lst true [cKd k]) K:=by
 have p:b<mu.length:=(qg.1 l).1;have r:=yD (Qu xs).ok;refine .inl ⟨_,_,258,2,16,[cKd k],rfl,zSi,zSi,⟨.agg [aI 0,.sc (.map none)],zSi,rfl,rfl⟩,zOm,zOm,by simp[qz],Qu [k],?_⟩;rcases j with rfl|⟨i,rfl,t⟩
 .refine .inl ⟨xs.map cKd,rfl,Qu xs,zSo,fun h=>by simp at h,fun _=>?_⟩
  refine g _ _ (.inr ⟨mu.length,zSp,zSp⟩) (by grind) (fun off len e=>?_)
  grind
 .refine .inr ⟨i,xs.length,_,zSp,t,by grind,zSo,?_⟩
  have C:i≠b:=fun e=>o 0 _ (by rw[e])
  refine g _ _ (.inr ⟨mu.length,zSp,?_⟩) (by grind) (fun off len e=>?_)
  .grind
  grind
theorem JR(h:Own mu sz s xs)(c):Own (mu++[c]) sz s xs:=by
 rcases h with rfl|⟨b,rfl,g⟩
 .exact .inl rfl
 .exact .inr ⟨b,rfl,by grind⟩
theorem qkA(h:Own mu sz s xs):∀ off len,s ≠ .sl mu.length sz off len:=by
 intro off len e;rcases h with rfl|⟨b,rfl,g⟩
 .cases e
 grind
theorem qkB{fs:List Fld}{k}(g nm):yF (fs.take (k+1)) nm=yF (fs.take k) nm++(if fs[k].name=nm then [kOf fs[k].sS] else []):=by
 unfold yF;rw[List.take_add_one,qw g,List.filterMap_append];congr 1;simp only[Option.toList_some,List.filterMap_cons,List.filterMap_nil];split<;>rename_i h<;>split at h<;>simp_all
theorem mc(fs nm):(yF fs nm).length<=fs.length:=List.length_filterMap_le ..
theorem me:∀{so:List (tG×Bool)}{i k}(g nm),yG i (so.take (k+1)) nm=yG i (so.take k) nm++vX (i+k) so[k] nm
 | [],_,_,h,_=>by simp at h
 |s :: so,i,0,_,nm=>by simp[yG]
 |s :: so,i,k+1,h,nm=>by
  have:=me (so:=so) (i:=i+1) (k:=k) (zUs h) nm;simp only[List.take_succ_cons,yG,List.getElem_cons_succ]at this⊢;rw[this,zy,show i+1+k=i+(k+1) by omega]
theorem qkC(i s nm):(vX i s nm).length<=3:=by
 grind [vX,qX,kOf,y6,jR]
theorem mf:∀ so i nm,(yG i so nm).length<=3*so.length
 | [],_,_=>by simp[yG]
 |s :: so,i,nm=>by
  have:=mf so (i+1) nm;have:=qkC i s nm;simp only[yG,qX,zz];omega
theorem XT(ts)(h:okTS ts)(nm):qd qb 169 [eTS ts,aS nm] (.lst false ((means ts nm).map cKd)):=by
  refine qSV call169 func169 rfl ?_;have ar:=h.nf;have au:=h.ns;simp[go_sem];refine kT ts.sA.length (fun k U=>U.tm 1=aS nm/\U.tm 2 = .ip (cTS ts)/\U.tm 11=lFl ts.sA/\U.tm 12=aI ts.sA.length/\U.tm 13=aI k/\OwnF 0 U.mu 2 (U.tm 5) ((yF (ts.sA.take k) nm).map cKd)) ?_ ?_
  · exact⟨zSi,zSi,zSi,zSi,zSi,by simp[go_sem];exact OwnF.nil (Nat.zero_le _)⟩
  · rintro k U hk ⟨J,e2,P,I,R,T⟩
    by_cases he:k=ts.sA.length
    · subst he
      rw[qO]at T;simp[go_sem,e2,I,R];have a5:=mc ts.sA nm;refine kT ts.sS.length (fun k U=>U.tm 1=aS nm/\U.tm 29=lSo ts.sS/\U.tm 30=aI ts.sS.length/\U.tm 31=aI k/\Own U.mu 2 (U.tm 5) ((yF ts.sA nm++yG 0 (ts.sS.take k) nm).map cKd)) ?_ ?_
      · exact⟨zS1 J,zSi,zSi,zSi,by simp[go_sem,yG];simpa using T.1⟩
      · rintro k U hk ⟨J,a6,a2,a0,T⟩
        by_cases he:k=ts.sS.length
        · subst he
          rw[qO]at T;simp[go_sem,a2,a0];exact T.rd (Qu _).ok (fun r hr c hc=>by
            obtain⟨x,_,rfl⟩:=qi.1 hr;simp at hc;rcases hc with rfl|rfl
            · exact HF.sc _
            · exact Ju _)
        · have g:k<ts.sS.length:=by omega
          have w1:=zWk k;have aw:=mf (ts.sS.take k) 0 nm;have ax:(ts.sS.take k).length<=4:=zSo;have a7:=ofU' true [(k:Int)] zSp (fun x hx=>by grind);have a8:=ofU' true [(k:Int),(k:Int)] zSp (fun x hx=>by grind);have ag:HF (.lst true [rI k]):=HF.lst fun r hr c hc=>by grind [HF.sc]
          have ah:HF (.lst true [rI k,rI k]):=HF.lst fun r hr c hc=>by grind [HF.sc]
          have a1:=me (i:=0) g nm;rw[z7]at a1;have ay:=h.sl _ (qn g);generalize ai:ts.sS[k]=so at *
          obtain⟨o,sb⟩:=so;have az:(yF ts.sA nm++yG 0 (ts.sS.take k) nm).length<=18:=by grind
          have b0:∀ x:Kd,((yF ts.sA nm++yG 0 (ts.sS.take k) nm)++[x]).length<=19:=fun x=>by grind
          have b1:∀ x y:Kd,(((yF ts.sA nm++yG 0 (ts.sS.take k) nm)++[x])++[y]).length<=20:=fun x y=>by grind
          generalize hX:yF ts.sA nm++yG 0 (ts.sS.take k) nm=X at *
          have l:∀(s:AV)(C:Mu)(Y:List Kd),Y=X++vX k (o,sb) nm->Own C 2 s (Y.map cKd)->Own C 2 s ((yF ts.sA nm++yG 0 (ts.sS.take (k+1)) nm).map cKd):=by
            grind
          have b2:∀ b:tG,o++y6=b->(o++y6).toList == b.toList:=fun b h=>by rw[h];simp
          have a3:=fun c=>JR T c
          have aq:=qkA T;have aj:(o++y6=nm)=(o++(⟨#[95,102,105,114,115,116]⟩:tG)=nm):=rfl;have ak:(o++jR=nm)=(o++(⟨#[95,110,101,120,116]⟩:tG)=nm):=rfl;simp only[vX,aj,ak]at l;have a9:o.size<=9223372036854775801:=by grind
          have aa:o.size<=9223372036854775802:=zOm;simp only[q9]at l;obtain⟨d1,al⟩:∃ d,decide (o=nm)=d:=⟨_,rfl⟩;obtain⟨d2,ab⟩:∃ d,decide (o++(⟨#[95,102,105,114,115,116]⟩:tG)=nm)=d:=⟨_,rfl⟩;obtain⟨d3,ad⟩:∃ d,decide (o++(⟨#[95,110,101,120,116]⟩:tG)=nm)=d:=⟨_,rfl⟩;have p1:(o=nm)=(d1=true):=by grind
          have p2:(o++(⟨#[95,102,105,114,115,116]⟩:tG)=nm)=(d2=true):=by grind
          have p3:(o++(⟨#[95,110,101,120,116]⟩:tG)=nm)=(d3=true):=by grind
          simp only[p1,p2,p3]at l;cases d1<;>cases d2<;>cases d3<;>cases sb
          all_goals simp only[if_true,if_false,zF,vg,and_false,and_true,reduceCtorEq]at l
          all_goals simp[go_sem,u5,J,a6,a2,a0,g,ai,al,ab,ad,w1,a9,aa]
          all_goals repeat' (first
            | (refine tC a7 (.zk ag .nil) ?_
               simp[go_sem];refine n9 (b:=U.mu.length) (by first|exact a3 _|assumption) (by first|assumption|exact List.getElem?_concat_length) (by assumption) (by first | (simp only[qX,List.length_singleton];omega)|omega) ?_;rintro t j a4 ae an;simp[go_sem,u5,J,a0,g,ab,ad,w1,a9,aa,ae])
            | (refine tC a8 (.zk ah .nil) ?_
               simp[go_sem];refine n9 (b:=U.mu.length) (by first|exact a3 _|assumption) (by first|assumption|exact List.getElem?_concat_length) (by assumption) (by first | (simp only[qX,List.length_singleton];omega)|omega) ?_;rintro t j a4 ae an;simp[go_sem,a0,g,w1]))
          all_goals
            refine aK ?_;refine⟨zS1 J,zS1 a6,zS1 a2,zSi,?_⟩;simp only[gC,qA];simp;refine l _ _ _ ?_ (by first|assumption|exact a3 _);simp
    · have g:k<ts.sA.length:=by omega
      have af:=h.fl _ (qn g);have w1:=zWk k;have ao:=ofU' false ts.sA[k].sS af.2.1 (fun x hx=>zW1 (af.2.2 x hx));have a1:=qkB g nm;have a5:=mc (ts.sA.take k) nm;by_cases hn:ts.sA[k].name=nm
      · simp[go_sem,J,P,I,R,g,hn]
        refine fR ao (.zk (zh _) .nil) ?_;refine appK (xs:=yF (ts.sA.take k) nm) (XS T (MuLe.push _ _)) (by simp at a5⊢;omega) ?_;intro t j a4;simp[go_sem,R,g,w1];refine aK ?_;refine⟨zS1 J,zS1 e2,zS1 P,zS1 I,zSi,?_⟩;rw[a1,if_pos hn];simpa[go_sem] using a4
      · simp[go_sem,J,P,I,R,g,jF hn,w1]
        refine aK ?_;refine⟨zS1 J,zS1 e2,zS1 P,zS1 I,zSi,?_⟩;rw[a1,if_neg hn,zF];simpa[go_sem] using XS T (MuLe.push _ _)
end
end Y10
namespace Y11
open Y1 Y2 Y3 P1 Y7 YS YF Y9 Y10
def cKo:Option Kd->List AV
 |some k=>cKd k
 |none=>[aI 0,.sc (.map none)]
@[go_sem] theorem cKo_some(k):cKo (some k)=cKd k:=rfl
@[go_sem] theorem cKo_none:cKo none=[aI 0,.sc (.map none)]:=rfl
theorem mi(k):∀ c,c∈cKo k->HF c:=by
 intro c g;cases k with
 |none=>simp[cKo]at g;rcases g with rfl|rfl<;>exact HF.sc _
 |some k=>simp[cKo]at g;rcases g with rfl|rfl;exact HF.sc _;exact Ju _
theorem qkD(k):HF (.agg (cKo k)):=HF.agg (mi k)
theorem XU(k):(cKo k).length=2/\(cKo k).all AV.one=true:=by cases k<;>exact⟨rfl,rfl⟩
def endK:Res->AEnd
 | .ok k => .ret (.agg (cKo k))
 | .error e => .pan (jE e.1 e.2)
@[go_sem] theorem endK_ok(k):endK (.ok k) = .ret (.agg (cKo k)):=rfl
@[go_sem] theorem qvL(e):endK (.error e) = .pan (jE e.1 e.2):=rfl
theorem XV(c)(g:okCk c)(s:Scp)(n):qR qb 204 [eCk c,aSc s,eNd n] (endK (jl c s n.name n.pos)):=by
 refine za.of_sound ?_;refine qSW call204 func204 rfl {} ?_;simp[go_sem];refine tC (findU s n.name) (.zk (wQ s) (.zs .nil)) ?_;unfold jl;cases hf:jg n.name s with
 |cons v r =>
  simp[go_sem,aSc];exact .hf _ (zQ v.2)
 |nil =>
  simp[go_sem,aSc];refine fM ?_;refine tC (XT c.ts g.ts n.name) (.zk (zl c.ts) (.zs .nil)) ?_;have i:=zG;cases j:means c.ts n.name with
  |nil =>
   simp[go_sem];refine fZ (zG false 40 n) (.zs (.zs (.zk (qJ n) .nil))) ?_;simp[go_sem];exact .hf _ (yy _ _)
  |cons k ks =>
   simp[go_sem];refine tC (zG true 40 n).toP (.zs (.zs (.zk (qJ n) .nil))) ?_;cases ks with
   |nil =>
    simp[go_sem];refine fR (zG true 44 n).toP (.zs (.zs (.zk (qJ n) .nil))) ?_;exact .hf _ (zQ k)
   |cons l ks =>
    simp[go_sem];refine fZ (zG false 44 n) (.zs (.zs (.zk (qJ n) .nil))) ?_;simp[go_sem];exact .hf _ (yy _ _)
theorem qkE(k g)(C:1<=g)(T:g<=3):kSum (zu k g) (kOf (qS g (k:Int)))=zu (k+1) g:=by
 have o:∀ k,((qq k).map fun (i:Nat)=>pad (qS g (i:Int))).Nodup:=by
  intro k;refine List.pairwise_map.2 ((List.pairwise_iff_getElem.2 fun i j U hj I=>?_));simp only[List.getElem_range];obtain⟨a,rfl⟩:∃ a,g=a+1:=⟨g-1,zOm⟩;intro e;simp[pad,List.replicate_succ]at e;omega
 have J:∀ l:List Tp,l.Nodup->uni [] l=l:=by
  intro l P;have:∀(b a:List Tp),(a++b).Nodup->uni a b=a++b:=by
   intro b;induction b with
   |nil=>intro a _;simp[uni]
   |cons x b R =>
    intro a h;have p:x ∉ a:=fun r=>(wF.1 h).2.2 x r x zSp rfl
    show uni (ins a x) b=_;rw[show ins a x=a++[x] by unfold ins;rw[if_neg p],R (a++[x]) (zUs h)];simp
  simpa using this l [] (zUs P)
 unfold kSum zu kOf;simp only;rw[J _ (o k)];have t:=o (k+1);rw[List.range_succ,q9,List.map_singleton]at t⊢;have p:pad (qS g (k:Int)) ∉ (qq k).map fun (i:Nat)=>pad (qS g (i:Int)):=fun r=>(wF.1 t).2.2 _ r _ zSp rfl
 congr 1;show ins _ _=_;unfold ins;rw[if_neg p]
theorem XW(c)(I:okCk c)(g:Nat)(h1:1<=g)(h3:g<=3):qd qb 237 [eCk c,aI g] (eKd (zu c.ts.sS.length g)):=by
 refine qSV call237 func237 rfl ?_;have a0:=I.ts.ns;simp[go_sem];refine fR (gL g) (.zs .nil) ?_;refine qh.up c.ts.sS.length (fun k U=>U.tm 1=aI g/\U.tm 4 = .ptr 0 0/\U.tm 5 = .ptr 1 0/\U.tm 13=lSo c.ts.sS/\U.tm 14=aI c.ts.sS.length/\U.tm 15=aI k/\U.mu=[.arr [aI 0,.sc (.map none)],.arr (cKd (zu k g))]) ?_ ?_
 .simp [go_sem,zu]
 .rintro k U hk ⟨e1,e4,P,R,l,o,hm⟩
  by_cases he:k=c.ts.sS.length
  .subst he
   simp[go_sem,e4,P,l,o,hm];exact .hf _ (zQ _)
  .have p:k<c.ts.sS.length:=by omega
   have w1:=zWk k;have J:=qiK k g zOm;have T:=ofU' false (qS g (k:Int)) (zUs h3) (fun x hx=>by rw[List.eq_of_mem_replicate hx];omega);have C:=sumU true (zu k g) (kOf (qS g (k:Int))) (fun t j=>by
    have j:t∈(qq k).map fun (i:Nat)=>pad (qS g (i:Int)):=j
    obtain⟨i,_,rfl⟩:=qi.1 j;rfl) (fun t j=>by
    have j:t∈[pad (qS g (k:Int))]:=j;simp at j;subst j;rfl)
   rw[qkE k g h1 h3]at C;simp[go_sem,l,o,hm,p];refine cZ zKr ?_;simp[go_sem,e1,P];refine fR J (.cons (WK.lst fun r J c I=>by simp at J;subst J;simp at I;subst I;exact HF.sc _) (.zs .nil)) ?_;refine fR T (.zk (zh _) .nil) ?_;refine tC C (.zk (zQ _) (.zk (Jx _ [_]) .nil)) ?_;simp[go_sem,e1,e4,P,R,l,o,p,w1]
end Y11
namespace Y12
open Y1 Y2 Y3 P1 YM Y5 Y6 Y7 Y8 Y9 Y11
def trF(t:Tp):Tp:=[t.getD 1 0,t.getD 0 0,0]
theorem Uw{a:List Tp}{t}:t∈uni [] (a.map fun t=>[t.getD 1 0,t.getD 0 0,0])↔∃ x,x∈a/\trF x=t:=by
 rw[vH];simp[trF]
theorem qkF(ns)(h:ns<=4):ok2 (zu ns 2):=by
 have g:((qq ns).map fun (i:Nat)=>pad (qS 2 (i:Int))).Nodup:=by
  refine List.pairwise_map.2 (List.pairwise_iff_getElem.2 fun i j o r p=>?_);simp only[List.getElem_range];intro e;simp[pad,List.replicate_succ]at e;omega
 refine⟨rfl,g,fun t l=>?_⟩;have l:t∈(qq ns).map fun (i:Nat)=>pad (qS 2 (i:Int)):=l
 obtain⟨i,o,rfl⟩:=qi.1 l;rw[zW]at o;exact⟨i,i,rfl,zOm,zOm,zOm,zOm⟩
theorem qkG{a}(h:ok2 a):ok2 (kClo a):=by
 have:∀(f n:Nat)(a:Kd),ok2 a->ok2 (cloN f n a):=by
  intro f;induction f with
  |zero=>intro n a h;exact h
  |succ f g =>
   intro n a h;unfold cloN;split
   .exact g _ _ (h.sum h.join)
   .exact h
 exact this 70 0 a h
theorem qkH(c)(hc:okCk c)(op a)(R:ok2 a)(a0:op=11\/op=12\/op=13):qd qb 241 [eCk c,aI op,eKd a] (eKd (binK c.ts.sS.length op a)):=by
 refine qSV call241 func241 rfl ?_;have C:=hc.ts.ns;unfold binK;rcases a0 with rfl|rfl|rfl
 .simp [go_sem]
  refine fQ (Jv _ _) ?_ (by rintro r m ⟨e,_⟩;cases e);rintro r m ⟨e,c,rfl⟩;cases e;simp[go_sem];refine qh.seen a.ts.length (fun seen U=>U.tm 5 = .ip (cKd a)/\U.tm 6 = .ptr 0 0/\U.tm 7 = .ptr 3 0/\U.tm 25 = .ptr 4 0 /\
   ColS 2 (.arr [aI 0,.sc (.map none)]) c (.it (eT a.ts) seen) (fun t=>∃ x,(∃ i,i∈seen/\a.ts[i]?=some x)/\trF x=t) U.mu) ?_ ?_
  .exact ⟨zSi,zSi,zSi,zSi,[],rfl,rfl,rfl,rfl,rfl,zSp,zSp,zSp⟩
  .rintro seen U a5 a6 ⟨e5,e6,e7,I,l,k0,k1,k2,k3,k4,h1,h2,h3⟩
   simp[go_sem,I];refine⟨4,eT a.ts,seen,rfl,k4,fun i e hi C=>?_,fun p=>?_⟩
   .obtain ⟨x,hx,rfl⟩:=ZC hi
    have a1:okT x:=R.okK.len x (qU hx);have a2:i<a.ts.length:=(qg.1 hx).1;have a3:x.length=3:=a1;have o:4<U.mu.length:=(qg.1 k4).1;have g:∀(c:Cell)(l:List Cell)(j:Nat),j<4->((U.mu.set 4 c)++l)[j]?=U.mu[j]?:=fun c l j hj=>by
     rw[qG zSo,zGl]
    have q2:=fun c l=>(g c l 2 zOm).trans k2
    have q3:=fun c l=>(g c l 3 zOm).trans k3
    obtain⟨J,P,T,rfl⟩:∃ J P T,x=[J,P,T]:=by
     match x,a3 with
     | [J,P,T],_=>exact⟨_,_,_,rfl⟩
    simp[go_sem,e7,I,hi,o,q3];refine tA _ (updT (t:=[P,J,0]) (q2 _ _) rfl h2) ?_;simp[go_sem];refine⟨i,a2,C,zS1 e5,zS1 e6,zS1 e7,zS1 I,ins l [P,J,0],?_,?_,?_,?_,?_,Yc h1,fun t ht=>?_,fun t=>?_⟩
    .simp only[qA]
     rw[zGl,g _ _ 0 zOm,k0]
    .simp only[qA]
     rw[zGl,g _ _ 1 zOm,k1]
    .simp only[qA]
     rw[qI zSo]
    .simp only[qA]
     rw[zGl,g _ _ 3 zOm,k3]
    .simp only[qA]
     rw[zGl,qG (zUs o),qI o]
    .rcases ux.1 ht with h|rfl
     .exact h2 t h
     .rfl
    .simp only[ux,h3,Xl hx]
     constructor
     .rintro (⟨y,h,e⟩|rfl)
      .exact ⟨y,.inl h,e⟩
      .exact ⟨[J,P,T],.inr rfl,rfl⟩
     .rintro ⟨y,h|rfl,e⟩
      .exact .inl ⟨y,h,e⟩
      .exact .inr e.symm
   .obtain ⟨a4,hm⟩:=four k0 k1 k2 k3
    simp[go_sem,e6,e7,hm];refine Rd.aggs ⟨.hf _ (HF.sc _),Rd.setT (k:=(kTr a).ts) rfl h1 (uV zSp) (fun t=>?_),trivial⟩;refine(h3 t).trans (Iff.trans ?_ Uw.symm);constructor
    .rintro ⟨y,h,e⟩;exact⟨y,(Xm (zUs p)).1 h,e⟩
    .rintro ⟨y,h,e⟩;exact⟨y,(Xm (zUs p)).2 h,e⟩
 .simp [go_sem]
  refine fR (Uf a R) (.zk (zQ _) .nil) ?_;exact .hf _ (zQ _)
 .simp [go_sem]
  refine fR (Uf a R) (.zk (zQ _) .nil) ?_;refine fR (XW c hc 2 zOm zOm) (.zk (jn _) (.zs .nil)) ?_;refine fR (sumU true (kClo a) (zu c.ts.sS.length 2) (qkG R).okK.len (qkF _ C).okK.len) (.zk (zQ _) (.zk (Jx _ [_]) .nil)) ?_;exact .hf _ (zQ _)
theorem hfK2(n)(ts:List Tp):HF (.agg [aI n,mKd ts]):=zQ ⟨n,ts⟩
theorem hfKn:HF (.agg [aI 0,.sc (.map none)]):=qkD none
theorem wkR(n b e):WKs [aB b,aI e,eNd n] [aB b,aI e,eNd n] := .zs (.zs (.zk (qJ n) .nil))
structure ApOk (op:Int) (l:List (Option Kd)):Prop where
 one:op=5->∃ a,l=[a]
 bin:op=11\/op=12\/op=13->∃ a,l=[some a]/\okK a/\(a.ar=2->ok2 a)
 two:op=6\/op=14\/op=7\/op=8\/op=32\/op=33\/op=9\/op=10->∃ a b,l=[some a,some b]/\okK a/\okK b
theorem Ux{ns op n pos l}(i:op≠2)(j:op≠3)(o:op≠4)(p:op≠5)(r:op≠11)(t:op≠12)(C:op≠13)(t1:op≠6)(t2:op≠14)(t3:op≠7)(t4:op≠8)(t5:op≠32)(t6:op≠33)(I:op≠9)(g:op≠10):ya ns op n pos l = .ok none:=by
 unfold ya;rw[if_neg i,if_neg j,if_neg o];split
 .simp only[p,r,t,C,or_self,if_false]
  split<;>rfl
 .simp only[t1,t2,t3,t4,t5,t6,I,g,or_self,if_false]
 .rfl
theorem qkI(c)(hc:okCk c)(full n l)(P:ApOk n.op l):qR qb 206 [eCk c,eNd n,.lst full (l.map cKo)] (endK (ya c.ts.sS.length n.op n.n n.pos l)):=by
 refine za.of_sound ?_;refine qSW call206 func206 rfl {} ?_;by_cases ho:n.op=2\/n.op=3\/n.op=4\/n.op=5\/n.op=11\/n.op=12\/n.op=13\/n.op=6\/n.op=14\/n.op=7\/n.op=8\/n.op=32\/n.op=33\/n.op=9\/n.op=10
 case neg =>
  simp only[not_or]at ho;obtain⟨T,U,h4,C,b1,b2,b3,t1,t2,t3,t4,t5,t6,h9,p⟩:=ho;rw[Ux T U h4 C b1 b2 b3 t1 t2 t3 t4 t5 t6 h9 p];simp[go_sem,T,U,h4,C,b1,b2,b3,t1,t2,t3,t4,t5,t6,h9,p];exact .hf _ hfKn
 unfold ya;by_cases T:n.op=2
 .simp [go_sem,T]
  refine fR (gL n.n) (.zs .nil) ?_;exact .hf _ (hfK2 _ _)
 by_cases U:n.op=3
 .simp [go_sem,U]
  refine fR (XW c hc 1 zOm zOm) (.zk (jn _) (.zs .nil)) ?_;exact .hf _ (zQ _)
 by_cases h4:n.op=4
 .simp [go_sem,h4]
  refine fR (XW c hc 2 zOm zOm) (.zk (jn _) (.zs .nil)) ?_;exact .hf _ (zQ _)
 by_cases C:n.op=5
 .obtain ⟨a,rfl⟩:=P.one C
  cases a with
  |none=>simp[go_sem,C];exact .hf _ hfKn
  |some a=>simp[go_sem,C];exact .hf _ (hfK2 _ _)
 by_cases I:n.op=11\/n.op=12\/n.op=13
 .obtain ⟨a,rfl,o,a0⟩:=P.bin I
  have r:=fun h=>qkH c hc n.op a (a0 h) I
  by_cases i:a.ar=2
  .have r:=r i
   rcases I with h|h|h<;>rw[h]at r
   all_goals
    simp[go_sem,h,i];refine cZ zKr ?_;simp[go_sem,i];refine fR (zG true 42 n).toP (wkR n true 42) ?_;refine cZ zKr ?_;simp[go_sem,h];refine fR r (.zk (jn _) (.zs (.zk (zQ _) .nil))) ?_;exact .hf _ (zQ _)
  .rcases I with h|h|h
   all_goals
    simp[go_sem,h,i];refine qe.tail 6 zKr ?_;simp[go_sem,i];refine fZ (zG false 42 n) (wkR n false 42) ?_;simp[go_sem];exact .hf _ (yy _ _)
 by_cases ht:n.op=6\/n.op=14\/n.op=7\/n.op=8\/n.op=32\/n.op=33
 .obtain ⟨a,b,rfl,o,g⟩:=P.two zOm
  have R:=qiD n.op a b o g;simp only[not_or]at I;by_cases i:a.ar=b.ar
  .rcases ht with h|h|h|h|h|h<;>rw[h]at R
   all_goals
    simp[go_sem,h,i];refine cZ zKr ?_;simp[go_sem,i];refine fR (zG true 42 n).toP (wkR n true 42) ?_;refine cZ zKr ?_;simp[go_sem,h];refine fR R (.zs (.zk (zQ _) (.zk (zQ _) .nil))) ?_;exact .hf _ (zQ _)
  .rcases ht with h|h|h|h|h|h
   all_goals
    simp[go_sem,h,i];refine qe.tail 10 zKr ?_;simp[go_sem,i];refine fZ (zG false 42 n) (wkR n false 42) ?_;simp[go_sem];exact .hf _ (yy _ _)
 simp only[not_or]at I ht;by_cases h9:n.op=9
 .obtain ⟨a,b,rfl,o,g⟩:=P.two zOm
  have hj:=uX a b o g;have J:qm.wrap (a.ar+b.ar)=a.ar+b.ar:=zL (zW2 o.ar g.ar) (zW2 o.ar g.ar);have w2:qm.wrap (a.ar+b.ar-2)=a.ar+b.ar-2:=zL (zW2 o.ar g.ar) (zW2 o.ar g.ar);simp[go_sem,h9];refine cZ zKr ?_;by_cases t:1<=a.ar+b.ar-2
  .by_cases j:a.ar+b.ar-2<=3
   .simp [go_sem,J,w2,t,j]
    refine fR (zG true 42 n).toP (wkR n true 42) ?_;refine fM ?_;refine fR hj (.zk (zQ _) (.zk (zQ _) .nil)) ?_;exact .hf _ (zQ _)
   .simp [go_sem,J,w2,t,j]
    refine fZ (zG false 42 n) (wkR n false 42) ?_;simp[go_sem];exact .hf _ (yy _ _)
  .simp [go_sem,J,w2,t]
   refine fZ (zG false 42 n) (wkR n false 42) ?_;simp[go_sem];exact .hf _ (yy _ _)
 by_cases p:n.op=10
 .obtain ⟨a,b,rfl,o,g⟩:=P.two zOm
  have J:qm.wrap (a.ar+b.ar)=a.ar+b.ar:=zL (zW2 o.ar g.ar) (zW2 o.ar g.ar);by_cases j:a.ar+b.ar<=3
  .have hj:=Xk a b o g j
   simp[go_sem,p];refine cZ zKr ?_;simp[go_sem,J,j];refine fR (zG true 42 n).toP (wkR n true 42) ?_;refine fM ?_;refine fR hj (.zk (zQ _) (.zk (zQ _) .nil)) ?_;exact .hf _ (zQ _)
  .simp [go_sem,p]
   refine qe.tail 11 zKr ?_;simp[go_sem,J,j];refine fZ (zG false 42 n) (wkR n false 42) ?_;simp[go_sem];exact .hf _ (yy _ _)
 exact absurd ho zOm
end Y12
namespace P2
open Y1 Y2 Y3 P1 Y6 Y8 Y9 Y12
section
variable {a b k:Kd}{l:List Int}{ns:Nat}
def kd(op:Int):Int:=if 1<=op/\op<=15 then 101 else if 20<=op/\op<=23 then 105 else if 30<=op/\op<=51 then 102 else 0
def shp(op:Int)(nk:Nat):Option (List Int):=
 if op=1\/op=2\/op=3\/op=4\/op=20\/op=30\/op=31 then some []
 else if op=5\/op=11\/op=12\/op=13\/op=21\/op=34\/op=35\/op=36\/op=37 then some [101]
 else if op=6\/op=7\/op=8\/op=9\/op=10\/op=14\/op=32\/op=33 then some [101,101]
 else if op=15\/op=45\/op=46 then some [101,102]
 else if op=22\/op=23\/op=38\/op=39 then some [105,105]
 else if op=40\/op=48\/op=49\/op=50 then some [102]
 else if op=41\/op=42\/op=43\/op=44\/op=51 then some [102,102]
 else if op=47 then some (qS (min nk 401) 101)
 else none
inductive WfN:Nd->Prop where
 |mk (n:Nd) (h:shp n.op n.sD.length=some (n.sD.map fun k=>kd k.op)) (hn:n.op=2->1<=n.n/\n.n<=3) (hk:∀ k,k∈n.sD->WfN k):WfN n
theorem WfN.shape{n}(h:WfN n):shp n.op n.sD.length=some (n.sD.map fun k=>kd k.op):=by cases h;assumption
theorem WfN.num{n}(h:WfN n):n.op=2->1<=n.n/\n.n<=3:=by cases h;assumption
theorem WfN.kid{n k}(h:WfN n)(g:k∈n.sD):WfN k:=by
 cases h with
 |mk _ _ _ h=>exact h k g
theorem mj{op nk}(h:shp op nk=some l):l.length<=401:=by
 grind [shp]
theorem WfN.len{n}(h:WfN n):n.sD.length<=401:=by
 have:=mj h.shape;simpa using this
theorem WfN.small{n}(h:WfN n):Small n:=by
 induction h with
 |mk n g j l i=>exact .mk n (by have:=mj g;simp at this;omega) i
structure okKd (ns:Nat) (k:Kd):Prop where
 ar:1<=k.ar/\k.ar<=3
 nd:k.ts.Nodup
 ts:∀ t,t∈k.ts->∃ l,t=pad l/\(l.length:Int)=k.ar/\∀ x,x∈l->0<=x/\x<ns
theorem okKd.okK(h:okKd ns k):okK k:=⟨h.ar,fun t g=>by obtain⟨l,rfl,_⟩:=h.ts t g;rfl,h.nd⟩
theorem okKd.ok2(h:okKd ns k)(o:ns<=4)(g:k.ar=2):ok2 k:=⟨g,h.nd,fun t p=>by
 obtain⟨l,rfl,i,j⟩:=h.ts t p;rw[g]at i
 match l,i with
 | [x,y],_ =>
  have r:=j x zSp;have g:=j y zSp;exact⟨x,y,rfl,zOm,zOm,zOm,zOm⟩⟩
theorem aY(i:k.ar=2)(g:k.ts.Nodup)(h:∀ t,t∈k.ts->∃ x y,t=[x,y,0]/\0<=x/\x<ns/\0<=y/\y<ns):okKd ns k:=⟨zOm,g,fun t j=>by
 obtain⟨x,y,rfl,o,p,r,C⟩:=h t j;exact⟨[x,y],rfl,by rw[i];rfl,fun z l=>by simp at l;omega⟩⟩
theorem okKd.pairs(h:okKd ns k)(g:k.ar=2):∀ t,t∈k.ts->∃ x y,t=[x,y,0]/\0<=x/\x<ns/\0<=y/\y<ns:=fun t p=>by
 obtain⟨l,rfl,i,j⟩:=h.ts t p;rw[g]at i
 match l,i with
 | [x,y],_ =>
  have o:=j x zSp;have g:=j y zSp;exact⟨x,y,rfl,o.1,o.2,g.1,g.2⟩
theorem XX(j:1<=l.length)(o:l.length<=3)(i:∀ x,x∈l->0<=x/\x<ns):okKd ns (kOf l):=
 ⟨by grind [kOf],by simp[kOf],fun t g=>by
  have g:t∈[pad l]:=g;rw[qT]at g;exact⟨l,g,rfl,i⟩⟩
theorem qkJ{n}(h:1<=n/\n<=3):okKd ns ⟨n,[]⟩:=⟨h,zSp,fun t g=>by simp at g⟩
theorem XY(ns g)(C:1<=g)(I:g<=3):okKd ns (zu ns g):=by
 refine⟨by grind [zu],?_,fun t l=>?_⟩
 .refine List.pairwise_map.2 ((List.pairwise_iff_getElem.2 fun i j o J p=>?_))
  simp only[List.getElem_range];obtain⟨a,rfl⟩:∃ a,g=a+1:=⟨g-1,zOm⟩
  grind [pad]
 .have l:t∈(qq ns).map fun (i:Nat)=>pad (qS g (i:Int)):=l
  obtain⟨i,o,rfl⟩:=qi.1 l;rw[zW]at o;exact⟨_,rfl,by simp[zu],fun x r=>by rw[List.eq_of_mem_replicate r];omega⟩
theorem JS(i:okKd ns a)(j:okKd ns b)(h:a.ar=b.ar):okKd ns (kSum a b):=by
 refine⟨i.ar,uV (uV zSp),fun t g=>?_⟩;have g:t∈uni (uni [] a.ts) b.ts:=g;simp only[vH,qF,false_or]at g;rcases g with g|g
 .exact i.ts t g
 .obtain ⟨l,e,o,p⟩:=j.ts t g
  exact⟨l,e,by rw[o,<-h];rfl,p⟩
theorem qkK(g:okKd ns a):okKd ns (Ye a b):=
 ⟨g.ar,g.nd.filter _,fun t i=>g.ts t (yX.1 i).1⟩
theorem qkL{op}(g:okKd ns a)(i:okKd ns b)(h:a.ar=b.ar):okKd ns (vY op a b):=by
 grind [vY,JS,qkK]
theorem ZI(h:l.length<=3)(k)(g:k<=l.length):(pad l).take k=l.take k:=by
 match l,h with
 | [],_=>grind
 | [a],_=>match k,g with
  | 0,_=>rfl
  | 1,_=>rfl
 | [a,b],_=>match k,g with
  | 0,_=>rfl
  | 1,_=>rfl
  | 2,_=>rfl
 | [a,b,c],_=>match k,g with
  | 0,_=>rfl
  | 1,_=>rfl
  | 2,_=>rfl
  | 3,_=>rfl
theorem JT{g i}(j:g.length<=3)(l:i.length<=3)(s):conc (pad g) g.length (pad i) i.length s=pad (g.take (g.length-s)++i.drop s):=by
 simp_all[conc,ZI,qo,qO]
theorem JU(i:okKd ns a)(j:okKd ns b)(o:1<=a.ar+b.ar-2)(p:a.ar+b.ar-2<=3):okKd ns (zH a b):=by
 refine⟨⟨o,p⟩,Xj,fun t r=>?_⟩;obtain⟨x,y,⟨C,I⟩,hf⟩:=Qt.1 r;obtain⟨g,rfl,J,P⟩:=i.ts x C;obtain⟨l,rfl,R,T⟩:=j.ts y I;have U:=i.ar;have a0:=j.ar;unfold ZD at hf;split at hf
 .simp only[qr]at hf
  rw[show a.ar.toNat=g.length by omega,show b.ar.toNat=l.length by omega,JT zOm zOm]at hf;refine⟨_,hf.symm,?_,fun z hz=>?_⟩
  .show ((g.take (g.length-1)++l.drop 1).length:Int)=a.ar+b.ar-2
   simp only[qX,uP,List.length_drop];omega
  grind
 grind
theorem qkM(i:okKd ns a)(j:okKd ns b)(o:a.ar+b.ar<=3):okKd ns (uz a b):=by
 have p:=i.ar;have r:=j.ar;refine⟨⟨by grind [uz],o⟩,gU,fun t C=>?_⟩;obtain⟨x,y,⟨I,J⟩,hf⟩:=Jw.1 C;obtain⟨g,rfl,P,R⟩:=i.ts x I;obtain⟨l,rfl,T,U⟩:=j.ts y J;unfold wT at hf;simp only[qr]at hf;rw[show a.ar.toNat=g.length by omega,show b.ar.toNat=l.length by omega,JT zOm zOm]at hf;refine⟨_,hf.symm,?_,fun z hz=>?_⟩
 .show ((g.take (g.length-0)++l.drop 0).length:Int)=a.ar+b.ar
  simp only[qX,uP,List.length_drop];omega
 grind
theorem qkN(g:okKd ns a)(i:a.ar=2):okKd ns (kTr a):=by
 refine aY rfl (uV zSp) (fun t j=>?_);obtain⟨x,l,rfl⟩:=Uw.1 j;obtain⟨p,q,rfl,o,r,C,I⟩:=g.pairs i x l;exact⟨q,p,rfl,C,I,o,r⟩
theorem Uy(i:okKd ns a)(g:a.ar=2):okKd ns (kClo a)/\(kClo a).ar=2:=by
 have:∀(f n:Nat)(a:Kd),okKd ns a->a.ar=2->okKd ns (cloN f n a)/\(cloN f n a).ar=2:=by
  intro f;induction f with
  |zero=>intro n a h g;exact⟨h,g⟩
  |succ f j =>
   intro n a h g;unfold cloN;split
   .exact j _ _ (JS h (JU h h zOm zOm) (by grind [zH])) g
   grind
 exact this 70 0 a i g
theorem qkO{op}(g:okKd ns a)(i:a.ar=2):okKd ns (binK ns op a):=by
 unfold binK;split
 .grind [Uy]
 .split
  .exact JS (Uy g i).1 (XY ns 2 zOm zOm) (by rw[(Uy g i).2];rfl)
  .exact qkN g i
def ScOk(ns:Nat)(s:Scp):Prop:=∀ v,v∈s->okKd ns v.2/\v.2.ar=1
theorem mn{nm}:∀{s:Scp}{v}{r:Scp},jg nm s=v :: r->v∈s
 | [],v,r,h=>by simp[jg]at h
 |w :: s,v,r,h=>by
  unfold jg at h;split at h
  .cases h;exact zd
  .exact qW _ (mn h)
theorem qkP{ts}(h:okTS ts){nm k}(g:k∈means ts nm):okKd ts.sS.length k:=by
 unfold means at g;rcases qH.1 g with g|g
 .unfold yF at g
  obtain⟨f,hf,e⟩:=List.mem_filterMap.1 g;split at e
  .cases e
   have:=h.fl f hf
   grind [XX]
  grind
 .have:∀(j:List (tG×Bool))(i:Nat),i+j.length<=ts.sS.length->∀ k,k∈yG i j nm->okKd ts.sS.length k:=by
   intro j;induction j with
   |nil=>grind [yG]
   |cons s j l =>
    grind [zz,kOf,XX,yG,vX]
  grind
theorem y8(c s inn n):exam c s inn n =
  if (inn&&zS c n.op n.name)=true then .error (46,n.pos)
  else if n.op=1 then jl c s n.name n.pos
  else if n.op=47 then
   if (c.ts.sT.any fun p=>decide (p.name=n.name))=true then
    match zn c n.name with
    |none => .error (45,n.pos)
    |some p=>match c.ts.sT[p]? with
     |none => .error (45,n.pos)
     |some g=>if g.params.length=n.sD.length then z6 c s n.pos g.params n.sD else .error (45,n.pos)
   else .error (40,n.pos)
  else if n.op=15\/n.op=45\/n.op=46 then yd c s (inn||decide (n.op=15)) n.name n.pos n.sD
  else match qY c s (inn||decide (n.op=12)||decide (n.op=13)) n.sD with
   | .error e => .error e
   | .ok l=>ya c.ts.sS.length n.op n.n n.pos l:=by
 obtain⟨op,o,k,ks,pos⟩:=n;simp only[exam,Nd.op,Nd.name,Nd.n,Nd.sD,Nd.pos];rfl
theorem JV{c s inn}:∀{ks l},qY c s inn ks = .ok l->l.length=ks.length/\∀(i:Nat) k a,ks[i]?=some k->l[i]?=some a->exam c s inn k = .ok a
 | [],l,h=>by grind [qY,ul]
 |k :: ks,l,h=>by
  simp only[qY]at h;cases g:exam c s inn k with
  |error e=>rw[g]at h;exact absurd h zSp
  |ok a =>
   rw[g]at h;simp only at h;cases j:qY c s inn ks with
   |error e=>rw[j]at h;exact absurd h zSp
   |ok r =>
    rw[j]at h;simp only[ul]at h;subst h;obtain⟨t,C⟩:=JV j;refine⟨zP1 t,fun i I J o p=>?_⟩;cases i with
    |zero=>simp at o p;subst o;subst p;exact g
    |succ i=>exact C i I J (zUs o) (zUs p)
theorem Uz{op}(h:kd op=101):1<=op/\op<=15:=by
 grind [kd,absurd]
theorem XZ(C:ns<=4){n}(R:WfN n){l}(p:l.length=n.sD.length)(h:∀(i:Nat) k a,n.sD[i]?=some k->l[i]?=some a->kd k.op=101->∃ q,a=some q/\okKd ns q) :
  ApOk n.op l/\(n.op=5->∃ a,l=[some a]/\okKd ns a)/\(n.op=11\/n.op=12\/n.op=13->∃ a,l=[some a]/\okKd ns a)/\(n.op=6\/n.op=14\/n.op=7\/n.op=8\/n.op=32\/n.op=33\/n.op=9\/n.op=10->∃ a b,l=[some a,some b]/\okKd ns a/\okKd ns b):=by
 have g:=R.shape;have r:n.op=5\/n.op=11\/n.op=12\/n.op=13->∃ a,l=[some a]/\okKd ns a:=by
  intro j;have e:shp n.op n.sD.length=some [101]:=by
   unfold shp;rw[zIn,if_pos zOm]
  rw[e]at g;simp only[qr]at g
  match o:n.sD,g with
  | [k],g =>
   simp at g;rw[o]at p
   match l,p with
   | [a],_ =>
    obtain⟨q,rfl,J⟩:=h 0 k a (by rw[o];rfl) rfl g.symm
    grind
  | [],g=>simp at g
  |_ :: _ :: _,g=>simp at g
 have P:n.op=6\/n.op=14\/n.op=7\/n.op=8\/n.op=32\/n.op=33\/n.op=9\/n.op=10->∃ a b,l=[some a,some b]/\okKd ns a/\okKd ns b:=by
  intro j;have e:shp n.op n.sD.length=some [101,101]:=by
   unfold shp;rw[zIn,zIn,if_pos zOm]
  rw[e]at g;simp only[qr]at g
  match o:n.sD,g with
  | [k,T],g =>
   simp at g;rw[o]at p
   match l,p with
   | [a,b],_ =>
    obtain⟨q,rfl,J⟩:=h 0 k a (by rw[o];rfl) rfl g.1.symm;obtain⟨U,rfl,I⟩:=h 1 T b (by rw[o];rfl) rfl g.2.symm;exact⟨q,U,rfl,J,I⟩
  | [],g=>simp at g
  | [_],g=>simp at g
  |_ :: _ :: _ :: _,g=>simp at g
 refine⟨⟨fun j=>?_,fun j=>?_,fun j=>?_⟩,fun j=>r (.inl j),fun j=>r (.inr j),P⟩
 .obtain ⟨a,rfl,_⟩:=r (.inl j);exact⟨_,rfl⟩
 .obtain ⟨a,rfl,t⟩:=r (.inr j);exact⟨a,rfl,t.okK,t.ok2 C⟩
 .obtain ⟨a,b,rfl,t,hb⟩:=P j;exact⟨a,b,rfl,t.okK,hb.okK⟩
theorem v7{c}(I:okCk c):∀ m n s inn P,szN n<=m->WfN n->ScOk c.ts.sS.length s->exam c s inn n = .ok P->kd n.op=101->∃ k,P=some k/\okKd c.ts.sS.length k
 | 0,n,_,_,_,hm,_,_,_,_=>by obtain⟨op,nm,i,ks,p⟩:=n;simp[szN]at hm
 |m+1,n,s,inn,P,hm,o,R,h,T=>by
  have ho:=Uz T;have U:=I.ts.ns;rw[y8]at h;split at h
  .grind
  split at h
  .unfold jl at h
   split at h
   .rename_i v r hf
    simp only[ul]at h;exact⟨v.2,h.symm,(R v (mn hf)).1⟩
   .split at h
    .grind
    .rename_i k t
     simp only[ul]at h;exact⟨k,h.symm,qkP I.ts (by rw[t];simp)⟩
    grind
  split at h
  .omega
  split at h
  .rename_i hb
   have g:=o.shape;have e:shp n.op n.sD.length=some [101,102]:=by
    unfold shp;rw[zIn,zIn,zIn,if_pos zOm]
   rw[e]at g;simp only[qr]at g
   match t:n.sD,g with
   | [a,f],g =>
    simp at g;rw[t]at h;simp only[yd]at h;cases hq:exam c s (inn||decide (n.op=15)) a with
    |error e=>grind
    |ok q =>
     obtain⟨k,rfl,a4⟩:=v7 I m a s _ q (by have:=ym (n:=n) (k:=a) (by rw[t];simp);omega) (o.kid (by rw[t];simp)) R hq g.1.symm
     grind
   | [],g=>simp at g
   | [_],g=>simp at g
   |_ :: _ :: _ :: _,g=>simp at g
  .rename_i n1 a6 nb
   cases hl:qY c s (inn||decide (n.op=12)||decide (n.op=13)) n.sD with
   |error e=>grind
   |ok l =>
    rw[hl]at h;simp only at h;obtain⟨C,a0⟩:=JV hl;obtain⟨_,a5,a1,a2⟩:=XZ (ns:=c.ts.sS.length) U o C (fun i k a hi J a3=>v7 I m k s _ a (zW1 (ym (n:=n) (qU hi))) (o.kid (qU hi)) R (a0 i k a hi J) a3);unfold ya at h;split at h
    .rename_i h2
     simp only[ul]at h;exact⟨_,h.symm,qkJ (o.num h2)⟩
    split at h
    .grind [ul,XY]
    split at h
    .grind [ul,XY]
    have j:n.op=5\/(n.op=11\/n.op=12\/n.op=13)\/(n.op=6\/n.op=14\/n.op=7\/n.op=8\/n.op=32\/n.op=33\/n.op=9\/n.op=10):=zOm;rcases j with h5|h1|h2
    .obtain ⟨a,rfl,J⟩:=a5 h5
     simp only[if_pos h5,ul]at h
     grind
    .obtain ⟨a,rfl,J⟩:=a1 h1
     have n5:n.op≠5:=zOm;simp only[if_neg n5,if_pos h1]at h
     grind [ul,qkO,absurd]
    .obtain ⟨a,b,rfl,J,hb⟩:=a2 h2
     simp only at h;split at h
     .grind [ul,qkL,absurd]
     grind [ul,JU,absurd,qkM]
end
end P2
namespace Y13
open Y1 Y2 Y3 P1 YM Y5 Y6 Y7 YF Y9 Y10 Y11 Y12 P2
theorem qkQ(p n):qd qb 234 [.agg (cPd p),.ip (cNd n)] (aB (decide (p.name=n.name))):=by
 refine qSV call234 func234 rfl ?_;simp[go_sem,u5];exact .zsc _
def uE(c:Ck)(s:Scp)(n:Nd):Res:=
 if (c.ts.sT.any fun p=>decide (p.name=n.name))=true then
  match zn c n.name with
  |none => .error (45,n.pos)
  |some p=>match c.ts.sT[p]? with
   |none => .error (45,n.pos)
   |some g=>if g.params.length=n.sD.length then z6 c s n.pos g.params n.sD else .error (45,n.pos)
 else .error (40,n.pos)
def endC:Res->AEnd
 | .ok _ => .ret (.tup [])
 | .error e => .pan (jE e.1 e.2)
@[go_sem] theorem endC_ok(k):endC (.ok k) = .ret (.tup []):=rfl
@[go_sem] theorem qvM(e):endC (.error e) = .pan (jE e.1 e.2):=rfl
theorem JW(n):HF (.ip (cNd n)):=HF.ip (vj n)
theorem hf_t0:HF (.tup []):=HF.tup zSp
theorem callU(c)(hc:okCk c)(s)(hs:ScOk c.ts.sS.length s)(n)(hw:WfN n)(ay:n.op=47)
  (ih:∀ k,k∈n.sD->qR qb 167 [eCk c,aSc s,eNd k,aB true] (endK (exam c s true k))) :
  qR qb 205 [eCk c,aSc s,eNd n] (endC (uE c s n)):=by
 refine za.of_sound ?_;refine qSW call205 func205 rfl {} ?_;have az:=hc.ts.np;have b0:=hw.len;have I:=hasPd false c.ts.sT (.fn (.func 234) [] [.ip (cNd n)]) (fun p=>decide (p.name=n.name)) ⟨_,_,_,rfl,fun p hp=>⟨_,qkQ p n,.zk (HF.agg (Uh p)) (.zk (JW n) .nil)⟩⟩ (HF.fn zSp (fun x hx=>by grind [JW])) (Qv _) zOm;have a6:WKs [lPd c.ts.sT,.fn (.func 234) [] [.ip (cNd n)]] [lPd c.ts.sT,.fn (.func 234) [] [.ip (cNd n)]] := .zk (Qv _) (.zk (HF.fn zSp (fun x hx=>by grind [JW])) .nil);generalize J:uE c s n=R;unfold uE at J;simp[go_sem];cases hA:c.ts.sT.any (fun p=>decide (p.name=n.name)) with
 |false =>
  rw[hA]at I J;subst J;refine qe.tail 8 zKr ?_;simp[go_sem];refine fR I a6 ?_;refine fZ (zG false 40 n) (wkR n false 40) ?_;simp[go_sem];exact .hf _ (yy _ _)
 |true =>
  rw[hA]at I J;rw[if_pos rfl]at J;refine fM ?_;refine fR I a6 ?_;refine fR (zG true 40 n).toP (wkR n true 40) ?_;refine tC (g8 c hc n.name) (.zk (jn c) (.zs .nil)) ?_;cases P:zn c n.name with
  |none =>
   rw[P]at J;subst J;simp[go_sem];refine qe.tail 19 zKr ?_;simp[go_sem];refine fZ (zG false 45 n) (wkR n false 45) ?_;simp[go_sem];exact .hf _ (yy _ _)
  |some p =>
   obtain⟨b1,T⟩:=Qx hc P;have b2:=hc.ts.pl _ (qn T);rw[P]at J;simp only[qw T]at J;simp[go_sem];generalize a4:c.ts.sT[p]=j at *
   by_cases r:j.params.length=n.sD.length
   .rw [if_pos r]at J
    refine cZ zKr ?_;simp[go_sem,T,a4,r];refine tC (zG true 45 n).toP (wkR n true 45) ?_;simp[go_sem,T,a4,r];have a7:=hw.shape;have ag:∀(k:Nat)(h:k<n.sD.length),kd n.sD[k].op=101:=by
     have e:shp n.op n.sD.length=some (qS (min n.sD.length 401) 101):=by
      simp_all[shp,if_neg,if_pos]
     rw[e]at a7;simp only[qr]at a7;intro k h;have h2:(n.sD.map fun k=>kd k.op)[k]?=some (kd n.sD[k].op):=by rw[zf,qw h];rfl
     grind
    refine kT j.params.length (fun k U=>U.tm 0=eCk c/\U.tm 1=aSc s/\U.tm 5 = .ip (cNd n)/\U.tm 54=lPm j.params/\U.tm 55=aI n.sD.length/\U.tm 56=aI k/\z6 c s n.pos (j.params.drop k) (n.sD.drop k)=R) ?_ ?_
    .simp [go_sem, *]
    .rintro k U hk ⟨e0,e1,e5,ah,a8,a9,C⟩
     by_cases aa:k=j.params.length
     .subst aa
      rw[yh,r,yh]at C;simp only[z6]at C;subst C;simp[go_sem,a8,a9,r];exact .hf _ hf_t0
     .have ab:k<j.params.length:=by omega
      have o:k<n.sD.length:=zOm;have w1:=zWk k;have hi:=ih n.sD[k] (qn o);rw[zm ab,zm o]at C;simp only[z6]at C;have ai:=v7 hc (szN n.sD[k]) n.sD[k] s true;have aj:=ag k o;have ad:=hw.kid (qn o);simp[go_sem,e0,e1,e5,ah,a8,a9,ab,o];cases hx:exam c s true n.sD[k] with
      |error e =>
       rw[hx]at hi C;subst C;refine fZ hi (.zk (jn c) (.zk (wQ s) (.zk (qJ _) (.zs .nil)))) ?_;simp[go_sem];exact .hf _ (yy _ _)
      |ok ko =>
       obtain⟨kk,rfl,a1⟩:=ai ko (qo _) ad hs hx aj;rw[hx]at hi C;simp only at C;refine tC hi.toP (.zk (jn c) (.zk (wQ s) (.zk (qJ _) (.zs .nil)))) ?_;by_cases a0:kk.ar=1
       .rw [if_pos a0]at C
        simp[go_sem,e5,a0];refine fR (zG true 42 n).toP (wkR n true 42) ?_;refine qh.seen kk.ts.length (fun seen g=>g.tm 0=eCk c/\g.tm 1=aSc s/\g.tm 5 = .ip (cNd n)/\g.tm 54=lPm j.params/\g.tm 55=aI n.sD.length/\g.tm 56=aI k/\g.tm 9 = .ptr U.mu.length 0/\g.tm 76 = .ptr (U.mu.length+2) 0 /\
         g.mu[U.mu.length]?=some (.arr [aS j.params[k].1,aI j.params[k].2])/\g.mu[U.mu.length+2]?=some (.it (eT kk.ts) seen)/\∀ i t,i∈seen->kk.ts[i]?=some t->t.getD 0 0=j.params[k].2) ?_ ?_
        .simp [go_sem, *]
        .rintro seen g b3 aw ⟨f0,f1,f5,f54,f55,f56,f9,f76,g0,g2,ax⟩
         simp[go_sem,f76];refine⟨U.mu.length+2,eT kk.ts,seen,rfl,g2,fun i e hi ak=>?_,fun al=>?_⟩
         .obtain ⟨x,a5,rfl⟩:=ZC hi
          have an:okT x:=a1.okK.len x (qU a5);have ao:i<kk.ts.length:=(qg.1 a5).1;have aq:x.length=3:=an;have au:x∈kk.ts:=qU a5;have a2:U.mu.length+2<g.mu.length:=(qg.1 g2).1;have a3:∀(c:Cell)(l:List Cell),((g.mu.set (U.mu.length+2) c)++l)[U.mu.length]?=some (.arr [aS j.params[k].1,aI j.params[k].2]):=fun c l=>by
           grind
          obtain⟨x0,x1,x2,rfl⟩:∃ x0 x1 x2,x=[x0,x1,x2]:=by
           match x,aq with
           | [x0,x1,x2],_=>simp
          have af:0<=x0/\x0<128:=by
           obtain⟨l,el,hl,hr⟩:=a1.ts _ au;rw[a0]at hl
           match l,hl with
           | [y],_ =>
            have:=hr y zSp;simp[pad]at el;have:=hc.ts.ns;omega
          have w8:qm.wrap x0=x0:=zWr;by_cases hq:x0=j.params[k].2
          .have w9:qm.wrap j.params[k].2=j.params[k].2:=by grind
           simp[go_sem,f5,f9,f76,hi,a2,a3,w9,hq];refine fR (zG true 43 n).toP (wkR n true 43) ?_;refine⟨i,ao,ak,zS1 f0,zS1 f1,zS1 f5,zS1 f54,zS1 f55,zS1 f56,zS1 f9,zS1 f76,?_,?_,?_⟩
           .grind [qA]
           .grind [qA,qG,qI]
           grind
          .have ae:uA j.params[k].2 kk=false:=by
            unfold uA;rw[<-Bool.not_eq_true,zb]
            grind
           rw[ae]at C;simp only[Bool.false_eq_true,if_false]at C;subst C;simp[go_sem,f5,f9,f76,hi,a2,a3,w8,hq];refine fZ (zG false 43 n) (wkR n false 43) ?_;simp[go_sem];exact .hf _ (yy _ _)
         .have av:uA j.params[k].2 kk=true:=by
           grind [uA,zb,List.mem_iff_getElem?,qg]
          simp_all[go_sem,if_pos,aK]
       .rw [if_neg a0]at C
        subst C;simp[go_sem,e5,a0];refine fZ (zG false 42 n) (wkR n false 42) ?_;simp[go_sem];exact .hf _ (yy _ _)
   .rw [if_neg r]at J
    subst J;refine qe.tail 19 zKr ?_;simp[go_sem,T,a4,r];refine fZ (zG false 45 n) (wkR n false 45) ?_;simp[go_sem];exact .hf _ (yy _ _)
theorem X0{lo sz mu av xs}(h:OwnF lo mu sz av xs)(w:yE sz xs)(hf:∀ r,r∈xs->∀ c,c∈r->HF c):Rd (cutM (fun i=>decide (lo<=i)) mu 0) av (.lst false xs):=by
 obtain⟨g,j,o⟩:=h;refine Own.rd (sz:=sz) ?_ w hf;rcases g with rfl|⟨b,rfl,l⟩
 .exact .inl rfl
 .refine .inr ⟨b,rfl,?_⟩
  rw[js,l];simp[j b _ _ _ rfl]
theorem qkR{c s n g}(h:uE c s n = .ok g):g=none:=by
 have j:∀(ks:List Nd)(i:List (tG×Int))(g:Option Kd),z6 c s n.pos i ks = .ok g->g=none:=by
  intro ks;induction ks with
  |nil=>grind [z6]
  |cons k ks l =>
   intro i g h;cases i with
   |nil=>grind [z6]
   |cons p i =>
    grind [z6,absurd]
 unfold uE at h;split at h
 .grind
 grind
theorem appKo{mu lo s xs k K}(o:OwnF lo mu 2 s (xs.map cKo))(t:xs.length<=100000)(C:∀ av mu',OwnF lo mu' 2 av ((xs++[k]).map cKo)->(∀ i,i<lo->mu'[i]?=mu[i]?)->K av mu') :
  qu qb mu #[263,263] s (.lst true [cKo k]) K:=by
 have j:∀ l:List (Option Kd),zc 2 (l.map cKo):=fun l r p=>by
  obtain⟨n,_,rfl⟩:=qi.1 p;exact XU n
 refine qu.ownF (lo:=lo) (e:=258) (sz:=2) (bt:=16) (zv := .agg [aI 0,.sc (.map none)]) (xs:=xs.map cKo) (ys:=[cKo k]) zSi zSi zSi rfl rfl zOm zOm o (by simp[qz]) (j xs) (j [k]) zSo ?_
 grind
theorem mq(c)(hc:okCk c):∀ m n,szN n<=m->WfN n->∀ s,ScOk c.ts.sS.length s->∀ inn,qR qb 167 [eCk c,aSc s,eNd n,aB inn] (endK (exam c s inn n))
 | 0,n,hm,_,_,_,_=>by obtain⟨op,nm,i,ks,p⟩:=n;simp[szN]at hm
 |m+1,n,hm,hw,s,hs,inn=>by
  have ih:∀ k,k∈n.sD->∀ J,ScOk c.ts.sS.length J->∀ T,qR qb 167 [eCk c,aSc J,eNd k,aB T] (endK (exam c J T k)):=fun k hk J ae T =>
   mq c hc m k (zW1 (ym hk)) (hw.kid hk) J ae T
  refine za.of_sound ?_;refine qSW call167 func167 rfl {} ?_;generalize g:exam c s inn n=E;rw[y8]at g;have a6:=ng c hc n;simp[go_sem];by_cases hT:(inn&&zS c n.op n.name)=true
  .rw [if_pos hT]at g
   subst g;rw[Bool.and_eq_true]at hT;obtain⟨rfl,hT⟩:=hT;rw[hT]at a6;refine qe.tail 9 zKr ?_;simp[go_sem];refine fR a6 (.zk (jn c) (.zk (qJ n) .nil)) ?_;refine fZ (zG false 46 n) (wkR n false 46) ?_;simp[go_sem];exact .hf _ (yy _ _)
  rw[if_neg hT]at g;have af:=XV c hc s n;have a3:=fun h=>callU c hc s hs n hw h (fun k hk=>ih k hk s hs true)
  have a7:WKs [eCk c,aSc s,eNd n] [eCk c,aSc s,eNd n] := .zk (jn c) (.zk (wQ s) (.zk (qJ n) .nil));have a0:∀(J:Scp)(k:Nd)(b:Bool),WKs [eCk c,aSc J,eNd k,aB b] [eCk c,aSc J,eNd k,aB b]:=fun J k b => .zk (jn c) (.zk (wQ J) (.zk (qJ k) (.zs .nil)))
  have a4:n.op=15\/n.op=45\/n.op=46->∃ a f,n.sD=[a,f]/\kd a.op=101:=fun ho=>by
   have I:=hw.shape;have e:shp n.op n.sD.length=some [101,102]:=by
    unfold shp;rw[zIn,zIn,zIn,if_pos zOm]
   rw[e]at I;simp only[qr]at I
   match hk:n.sD,I with
   | [a,f],I=>grind
   | [],I=>simp at I
   | [_],I=>simp at I
   |_ :: _ :: _ :: _,I=>simp at I
  cases inn
  case' false =>
   refine fM ?_;refine fR (zG true 46 n).toP (wkR n true 46) ?_
  case' true =>
   have ay:zS c n.op n.name=false:=zUs hT;rw[ay]at a6;refine fM ?_;refine fR a6 (.zk (jn c) (.zk (qJ n) .nil)) ?_;refine fR (zG true 46 n).toP (wkR n true 46) ?_
  all_goals
   by_cases h1:n.op=1
   .rw [if_pos h1]at g
    rw[g]at af;simp[go_sem,h1];cases E with
    |error e =>
     refine fZ af a7 ?_;simp[go_sem];exact .hf _ (yy _ _)
    |ok ko =>
     refine tC af.toP a7 ?_;cases ko with
     |none=>simp[go_sem];exact .hf _ hfKn
     |some k=>simp[go_sem];exact .hf _ (hfK2 _ _)
   rw[if_neg h1]at g;by_cases h47:n.op=47
   .rw [if_pos h47]at g
    have g:uE c s n=E:=g;have a3:=a3 h47;rw[g]at a3;simp[go_sem,h47];cases E with
    |error e =>
     refine fZ a3 a7 ?_;simp[go_sem];exact .hf _ (yy _ _)
    |ok ko =>
     obtain rfl:=qkR g;refine fR a3.toP a7 ?_;exact .hf _ hfKn
   rw[if_neg h47]at g;by_cases hb:n.op=15\/n.op=45\/n.op=46
   .rw [if_pos hb]at g
    obtain⟨a,f,a1,ha⟩:=a4 hb;rw[a1]at g;have an:∀ b r,exam c s b a=r->qR qb 167 [eCk c,aSc s,eNd a,aB b] (endK r):=fun b r h=>h ▸ ih a (by rw[a1];simp) s hs b
    have az:∀ J,ScOk c.ts.sS.length J->∀ b r,exam c J b f=r->qR qb 167 [eCk c,aSc J,eNd f,aB b] (endK r):=fun J ae b r h=>h ▸ ih f (by rw[a1];simp) J ae b
    have aa:=v7 hc (szN a) a s;have ao:=hw.kid (k:=a) (by rw[a1];simp);rcases hb with h|h|h
    all_goals
     simp[go_sem,h,a1];simp only[h,yd,qY]at g;simp at g;split at g
     .rename_i e hx
      have hi:=an _ _ hx;subst g;refine fZ hi (a0 _ _ _) ?_;simp[go_sem];exact .hf _ (yy _ _)
     .rename_i hx
      obtain⟨q,hq,_⟩:=aa _ _ (qo _) ao hs hx ha;exact absurd hq zSp
     .rename_i k hx
      have hi:=an _ _ hx;obtain⟨q,hq,b0⟩:=aa _ _ (qo _) ao hs hx ha;simp only[qr]at hq;subst hq;refine tC hi.toP (a0 _ _ _) ?_;by_cases a8:k.ar=1
      .rw [if_pos a8]at g
       obtain⟨ka,kt⟩:=k;obtain rfl:ka=1:=a8;simp[go_sem];refine fR (zG true 42 n).toP (wkR n true 42) ?_;have b4:ScOk c.ts.sS.length ((n.name,⟨1,kt⟩) :: s):=fun v R=>by
        rcases qt.1 R with rfl|R
        .exact ⟨b0,rfl⟩
        .exact hs v R
       have aq:=az _ b4;refine qe.tail 12 zKr ?_;simp[go_sem,a1];split at g
       .rename_i e a2
        split at a2
        .rename_i e' ag
         simp only[Except.error.injEq]at a2;subst a2;subst g;have ah:=aq _ _ ag;refine fZ ah (a0 ((n.name,⟨1,kt⟩) :: s) _ _) ?_;simp[go_sem];exact .hf _ (yy _ _)
        grind
       .rename_i l a2
        split at a2
        .exact absurd a2 zSp
        .rename_i a' ag
         have ah:=aq _ _ ag;subst g;refine fR ah.toP (a0 ((n.name,⟨1,kt⟩) :: s) _ _) ?_;exact .hf _ (hfK2 _ _)
      .rw [if_neg a8]at g
       subst g;simp[go_sem,a8];refine fZ (zG false 42 n) (wkR n false 42) ?_;simp[go_sem];exact .hf _ (yy _ _)
   .rw [if_neg hb]at g
    simp only[not_or]at hb;obtain⟨b1,b2,b3⟩:=hb;simp[go_sem,h1,h47,b1,b2,b3];have b5:=hw.len;generalize hB:(_||decide (n.op=12)||decide (n.op=13))=B at g;by_cases ai:n.op=12
    case' pos=>simp[go_sem,ai]
    case' neg =>
     by_cases aj:n.op=13
     case' pos=>simp[go_sem,aj]
     case' neg=>simp[go_sem,ai,aj]
    all_goals
     refine kT n.sD.length (fun k U=>∃ C:List (Option Kd),C.length=k/\U.tm 0=eCk c/\U.tm 1=aSc s/\U.tm 3=aB B/\U.tm 6 = .ip (cNd n)/\U.tm 8 = .ptr 0 0/\U.tm 79=lNd n.sD/\U.tm 80=aI n.sD.length/\U.tm 81=aI k/\U.mu[0]?=some (.arr [aI 0,.sc (.map none)])/\OwnF 1 U.mu 2 (U.tm 10) (C.map cKo) /\
      qY c s B n.sD=(match qY c s B (n.sD.drop k) with | .error e => .error e | .ok l => .ok (C++l))) ?_ ?_
     .refine ⟨[],rfl,zSi,zSi,?_,zSi,zSi,zSi,zSi,zSi,zSi,?_,?_⟩
      .rw [<-hB];simp[go_sem,ai];try simp[aj]
      .simp [go_sem];exact OwnF.nil zSp
      .simp only[List.drop_zero,vg]
       cases qY c s B n.sD<;>rfl
     .rintro k U hk ⟨C,hl,e0,e1,e3,e6,e8,au,ak,al,m0,ho,o⟩
      by_cases a5:k=n.sD.length
      .rw [a5,yh]at o
       simp only[qY,zF]at o;rw[o]at g;simp only at g;simp[go_sem,e0,e6,ak,al,a5];have b6:ApOk n.op C:=(XZ hc.ts.ns hw (by rw[hl,a5]) (fun i k' a hi ha b7=>v7 hc (szN k') k' s B a (qo _) (hw.kid (qU hi)) hs ((JV o).2 i k' a hi ha) b7)).1;have ab:=qkI c hc false n C b6;rw[g]at ab;have aw:∀ r,r∈C.map cKo->∀ c,c∈r->HF c:=fun r hr c b8=>by
        obtain⟨q,_,rfl⟩:=qi.1 hr;exact mi q c b8
       have b9:yE 2 (C.map cKo):=fun r hr=>by
        obtain⟨q,_,rfl⟩:=qi.1 hr;exact(XU q).1
       have g0:(cutM (fun i=>!decide (1<=i)) U.mu 0)[0]?=some (.arr [aI 0,.sc (.map none)]):=by rw[js,m0];simp
       refine fQ (qy.freeze (args1:=[eCk c,eNd n,.lst false (C.map cKo)]) (fun j=>decide (1<=j)) ⟨.inl rfl,.inl rfl,.inr (X0 ho b9 aw),trivial⟩ (ab.toSound _ (.zk (jn c) (.zk (qJ n) (.zk (HF.lst aw) .nil))))) ?_ ?_
       .rintro r m ⟨R,rfl⟩
        have R:AEnd.ret r=endK E:=R;cases E with
        |error e=>exact absurd R zSi
        |ok q =>
         simp[go_sem]at R;subst R;generalize cutM (fun i=>!decide (1<=i)) U.mu 0=M at g0;have bc:0<M.length:=(qg.1 g0).1;have ad:∀ c,(M.set 0 c)[0]?=some c:=fun c=>qI bc
         cases q with
         |none=>simp[go_sem,e8,g0,ad];exact .hf _ hfKn
         |some k=>simp[go_sem,e8,g0,ad];exact .hf _ (hfK2 _ _)
       .rintro r m ⟨R,rfl⟩
        have R:AEnd.pan r=endK E:=R;cases E with
        |ok q=>exact absurd R zSi
        |error e =>
         simp[go_sem]at R;subst R;simp[go_sem];exact .hf _ (yy _ _)
      .have a9:k<n.sD.length:=by omega
       have w1:=zWk k;rw[zm a9]at o;simp only[qY]at o;have hi:=ih n.sD[k] (qn a9) s hs B;simp[go_sem,e0,e1,e3,au,ak,al,a9];cases hx:exam c s B n.sD[k] with
       |error e =>
        rw[hx]at hi o;simp only at o;rw[o]at g;simp only at g;subst g;refine fZ hi (a0 s n.sD[k] B) ?_;simp[go_sem];exact .hf _ (yy _ _)
       |ok ko =>
        rw[hx]at hi o;simp only at o;refine tC hi.toP (a0 s n.sD[k] B) ?_;have ax:=XU ko;rw[zb]at ax;simp[go_sem];rw[if_pos ax];simp[go_sem];refine appKo (xs:=C) (k:=ko) (lo:=1) ⟨JR ho.1 _,ho.2.1,by have:=ho.2.2;simp⟩ zOm fun t bh be bg=>?_
        simp[go_sem,al,w1];refine⟨a9,aK ?_⟩;refine⟨C++[ko],zP1 hl,zS1 e0,zS1 e1,zS1 e3,zS1 e6,zS1 e8,zS1 au,zS1 ak,zSi,?_,zVs be,?_⟩
        .simp only[qA]
         rw[bg 0 zOm,qG (zW1 ho.2.2)];exact m0
        .rw [o]
         cases qY c s B (n.sD.drop (k+1)) with
         |error e=>rfl
         |ok l=>simp
end Y13
namespace Y14
open YF P1 P2 Y1 Y2 Y9 Y10 Y12 Y13
structure Yo (ns:Nat) (env:List (tG×Int)):Prop where
 len:env.length<=1000000
 r:∀ p,p∈env->0<=p.2/\p.2<ns
theorem X1{ns env}(h:Yo ns env):ScOk ns (ye env):=by
 have:∀(l:List (tG×Int))(s:Scp),(∀ p,p∈l->0<=p.2/\p.2<(ns:Int))->ScOk ns s->ScOk ns (l.foldl (fun s p=>(p.1,kOf [p.2]) :: s) s):=by
  intro l;induction l with
  |nil=>intro s _ i;exact i
  |cons a l t =>
   intro s j i;refine t _ (fun p C=>j p (qW _ C)) fun v g=>?_
   rcases qt.1 g with rfl|g
   .exact ⟨XX zSp zSp (fun x o=>by rw[qT]at o;subst o;exact j a (zd ..)),rfl⟩
   .exact i v g
 exact this env [] h.r fun v g=>absurd g qF
theorem qkS(c)(l:okCk c)(n)(p:WfN n)(env)(j:Yo c.ts.sS.length env) :
  qR qb 166 [.ip (cNd n),.ip [eCk c],.ip [lPm env]] (if 30<=n.op then (match exam c (ye env) false n with | .ok _ => .ret (.tup []) | .error e => .pan (jE e.1 e.2)) else .pan (jE 43 n.pos)):=by
 refine za.of_sound ?_;refine qSW call166 func166 rfl {} ?_;have i:=mq c l (szN n) n (qo _) p (ye env) (X1 j) false;have g:WKs [eCk c,aSc (ye env),eNd n,aB false] [eCk c,aSc (ye env),eNd n,aB false] := .zk (jn c) (.zk (wQ _) (.zk (qJ n) (.zs .nil)));by_cases h:30<=n.op
 .rw [if_pos h]
  simp[go_sem,h];refine fR (zG true 43 n).toP (wkR n true 43) ?_;refine qe.tail 4 zKr ?_;simp[go_sem];refine fR (bindU _ l.ts.ns env j.len j.r) (.zk (vZ env) .nil) ?_;cases o:exam c (ye env) false n with
  |error e =>
   rw[o]at i;refine fZ i g ?_;simp[go_sem];exact .hf _ (yy _ _)
  |ok k =>
   rw[o]at i;refine fR i.toP g ?_;exact .hf _ (HF.tup zSp)
 .rw [if_neg h]
  simp[go_sem,h];refine fZ (zG false 43 n) (wkR n false 43) ?_;simp[go_sem];exact .hf _ (yy _ _)
theorem qkT(c)(i:okCk c)(n)(P:WfN n)(env)(R:Yo c.ts.sS.length env):qd qb 120 [eCk c,lPm env,eNd n] (.agg [aI (jv c env n).1,aI (jv c env n).2]):=by
 refine qR.toP ?_;refine za.of_sound ?_;refine qSW call120 func120 rfl {} ?_;simp[go_sem];have o:WKs [.ip (cNd n),.ip [eCk c],.ip [lPm env]] [.ip (cNd n),.ip [eCk c],.ip [lPm env]] := .zk (HF.ip (vj n)) (.zk (HF.ip (by simp;exact jn c)) (.zk (HF.ip (by simp;exact vZ env)) .nil));have T:=(qkS c i n P env R).toSound ([.arr [aI 0,aI 0]]++[.dead]) o;refine fQ (gK (mu:=[.arr [aI 0,aI 0]]) T ?_) ?_ ?_
 .rintro v m ⟨g,_⟩
  have g:AEnd.pan v=_:=g;split at g
  .split at g
   .exact absurd g zSp
   .cases g;exact⟨_,_,rfl⟩
  .cases g;exact⟨_,_,rfl⟩
 .rintro r m ⟨U,x,⟨l,rfl⟩,⟨J,⟨g,rfl⟩,j⟩|⟨t,p,⟨g,rfl⟩,j⟩⟩
  .have g:AEnd.ret J=_:=g
   cases j;have hf:jv c env n=(0,0):=by
    unfold jv dgOf;split at g
    .rename_i h
     rw[if_pos h];split at g
     .rename_i I;first | (rw[I];done)|rfl
     .cases g
    .cases g
   rw[hf];simp[go_sem];exact .hf _ (HF.agg fun c i=>by simp at i;rcases i with rfl|rfl<;>exact HF.sc _)
  .have g:AEnd.pan (jE t p)=_:=g
   cases j;have hf:jv c env n=(t,p):=by
    unfold jv dgOf;split at g
    .rename_i h
     rw[if_pos h];split at g
     .cases g
     .rename_i e I;(try rw[I]);cases g;rfl
    .rename_i h
     rw[if_neg h];cases g;rfl
   rw[hf];simp[go_sem];exact .hf _ (HF.agg fun c i=>by simp at i;rcases i with rfl|rfl<;>exact HF.sc _)
 .rintro r m ⟨U,x,⟨l,rfl⟩,⟨J,⟨g,rfl⟩,j⟩|⟨t,p,⟨g,rfl⟩,j⟩⟩<;>cases j
theorem qkU(ts)(h:okTS ts)(i:∀ p,p∈ts.sT->WfN p.body)(n)(j:WfN n)(env)(l:Yo ts.sS.length env):qd qb 73 [eTS ts,lPm env,eNd n] (.agg [aI (yr ts env n).1,aI (yr ts env n).2]):=by
 refine qSU call73 func73 rfl ?_;refine fM ?_;refine fR (qj9 ts h (fun p o=>(i p o).small) _ (qo _)) (.zk (zl ts) (.zs .nil)) ?_;refine fR (qkT _ (uD h (qo _)) n j env l) (.zk (jn _) (.zk (vZ env) (.zk (qJ n) .nil))) ?_;exact .hf _ (HF.agg fun c g=>by simp at g;rcases g with rfl|rfl<;>exact HF.sc _)
end Y14
namespace Y15
section
variable {J:Type}
def repL(g:J->J->Bool)(l:List J):List Bool:=(qq l.length).map fun i=>match l[i]? with|some x=>(l.take i).any fun y=>g x y|none=>false
theorem wY(g)(l:List J):(repL g l).length=l.length:=by simp[repL]
theorem mr(g)(l:List J){i}(h):(repL g l)[i]?=some ((l.take i).any fun y=>g l[i] y):=by
 simp[repL,h]
end
end Y15
namespace Y16
open P1 Y1 Y9 Y15
abbrev cDg(d:Dg):List AV:=[aI d.1,aI d.2]
def dups(l:List Bool):List Dg:=(l.filter id).map fun _=>(41,0)
def repB{J:Type}(g:J->J->Bool)(l:List J)(i:Nat):List Bool:=((repL g l).take (i+1)).drop i
def rp(d:Dg):List Dg:=if d.1=0 then [] else [d]
def vJ(ts:TS)(i:Nat):List Dg:=match ts.sT[i]? with
 |some p=>dups (repB (fun x y:Pd=>decide (x.name=y.name)) ts.sT i)++(dups (repL (fun x y:tG×Int=>decide (x.1=y.1)) p.params)++rp (jv (mkCk ts i) p.params p.body))
 |none=>[]
def wZ(ts:TS)(g:List (tG×Nd))(i:Nat):List Dg:=match g[i]? with
 |some f=>dups (repB (fun x y:tG×Nd=>decide (x.1=y.1)) g i)++rp (yr ts [] f.2)
 |none=>[]
def jo(ts:TS):List Dg:=
 dups (repL (fun x y:tG×Bool=>decide (x.1=y.1)) ts.sS)++(dups (repL (fun x y:Fld=>decide (x.name=y.name)&&decide (x.sS=y.sS)) ts.sA) ++
  ((qq ts.sT.length).flatMap (vJ ts)++(qq ts.sP.length).flatMap (wZ ts ts.sP)))
abbrev lDg(l:List Dg):AV := .lst false (l.map cDg)
theorem w6(l):(dups l).length<=l.length:=by
 grind [dups,zK,List.length_filter_le]
theorem mv(d):(rp d).length<=1:=by unfold rp;split<;>simp
theorem X2(f:Nat->List Dg)(hf:∀ i,(f i).length<=10):∀ k,((qq k).flatMap f).length<=10*k
 | 0=>zSp
 |k+1=>by
  rw[List.range_succ,List.flatMap_append,qX];have:=X2 f hf k;have:=hf k;simp only[wB,List.flatMap_nil,zF];omega
theorem mw{J}(g)(l:List J)(i):(repB g l i).length<=1:=by
 grind [repB,List.length_drop,uP]
theorem my{ts}(h:okTS ts)(i):(vJ ts i).length<=10:=by
 unfold vJ;split
 .rename_i p g
  have j:=(h.pl p (qU g)).1
  grind [w6,repB,decide,mw,repL,wY,mv]
 .simp
theorem qkV(ts g i):(wZ ts g i).length<=10:=by
 grind [wZ,w6,repB,decide,mw,mv,yr]
end Y16
namespace YU
open Go.RowKit
end YU
namespace YV
end YV
namespace YW
open P2 Y2 Y3
theorem aH{ns k}(h:okKd ns k)(C:ns<=4):k.ts.length<=64:=by
 have o:∀ t,t∈k.ts->t∈([0,1,2,3]:List Int).flatMap fun a=>([0,1,2,3]:List Int).flatMap fun b=>([0,1,2,3]:List Int).map fun c=>[a,b,c]:=fun t I=>by
  obtain⟨l,rfl,j,i⟩:=h.ts t I;have J:=h.ar.2;have g:∀ x:Int,0<=x->x<ns->x∈([0,1,2,3]:List Int):=fun x p r=>zSo
  match l,j,i with
  | [],j,i=>simp[pad]
  | [a],j,i =>
   have:=g a (i a zSp).1 (i a zSp).2;simp only[uK,qi];exact⟨a,this,0,zSp,0,zSp,by simp[pad]⟩
  | [a,b],j,i =>
   have p:=g a (i a zSp).1 (i a zSp).2;have r:=g b (i b zSp).1 (i b zSp).2;simp only[uK,qi];exact⟨a,p,b,r,0,zSp,by simp[pad]⟩
  | [a,b,c],j,i =>
   have p:=g a (i a zSp).1 (i a zSp).2;have r:=g b (i b zSp).1 (i b zSp).2;have P:=g c (i c zSp).1 (i c zSp).2;simp only[uK,qi];exact⟨a,p,b,r,c,P,by simp[pad]⟩
  |_ :: _ :: _ :: _ :: _,j,i=>simp at j;omega
 have:=jL h.nd o;simp_all
end YW
namespace YX
open YM YF P1 Y1
structure IV where
 arg:Option Nd
 size:Int
 name:tG
abbrev IEnv:=List (tG×IV)
def aArg:Option Nd->AV
 |some n => .ip (cNd n)
 |none => .sc (.pointer none)
abbrev cIV(v:IV):List AV:=[aArg v.arg,aI v.size,aS v.name]
abbrev eIV(v:IV):AV := .agg (cIV v)
abbrev eEnv(env:IEnv):AV := .ims (encK aS eIV env)
structure ISt where
 last:Int
 sM:Int
abbrev cIn(ts:TS)(tb:Nat)(s:ISt):List AV:=cTS ts++[.mp tb,aI s.last,aI s.sM]
theorem qkW(a):HF (aArg a):=by
 cases a with
 |none=>exact HF.sc _
 |some n=>exact HF.ip (vj n)
theorem qkX(v):HF (eIV v):=HF.agg fun c g=>by
 simp only[cIV,qt,qF,or_false]at g;rcases g with rfl|rfl|rfl
 .exact qkW _
 .exact HF.sc _
 .exact HF.sc _
theorem mz(op):qd qb 126 [aI op] (aB (decide (op=15\/op=45\/op=46))):=by
 refine qSV call126 func126 rfl ?_;by_cases g:op=15
 .simp [go_sem,g];exact .zsc _
 by_cases i:op=45
 .simp [go_sem,i];exact .zsc _
 by_cases j:op=46
 .simp [go_sem,j];exact .zsc _
 simp[go_sem,g,i,j];exact .zsc _
def nd0:Nd := .mk 0 ⟨#[]⟩ 0 [] 0
abbrev eN0:AV := .agg [aI 0,aS ⟨#[]⟩,aI 0,.lst true [],aI 0]
theorem mA:WK eN0 (eNd nd0):=WK.aggs (.zs (.zs (.zs (.cons (WK.lst fun r g=>absurd g qF) (.zs .nil)))))
def payS(n:Int)(s:ISt):ISt:=⟨s.last,s.sM+n⟩
theorem payU(ts tb s n)(p : -1000000<=s.sM/\s.sM<=1000000)(r:0<=n/\n<=1000000){mu xb}(j:mu[xb]?=some (.arr (cIn ts tb s))) :
  qy qb 122 [.ptr xb 0,aI n] mu fun e m=>m=mu.set xb (.arr (cIn ts tb (payS n s)))/\e=if s.sM+n<=4000 then .ret (.tup []) else .pan (jE 2 0):=by
 refine qSW call122 func122 rfl {} ?_;have o:qm.wrap (s.sM+n)=s.sM+n:=zWr;have g:xb<mu.length:=(qg.1 j).1;have i:∀ c,(mu.set xb c)[xb]?=some c:=fun c=>qI g
 simp[go_sem,j,i,o];by_cases l:s.sM+n<=4000
 .simp [go_sem,l]
  refine fR (zG true 2 nd0).toP (.zs (.zs (.cons mA .nil))) ?_;rfl
 .simp [go_sem,l]
  refine fZ (zG false 2 nd0) (.zs (.zs (.cons mA .nil))) ?_;simp[go_sem];exact⟨rfl,rfl⟩
theorem lookE{mu}(env nm):yj qb mu 149 (eEnv env) (aS nm) true=some (match getK nm env with|some v => .tup [eIV v,aB true] | none => .tup [eIV ⟨none,0,⟨#[]⟩⟩,aB false]):=by
 have:=keyS.lookS (et:=215) (t:=149) zSi (mu:=mu) (venc:=eIV) (es:=env) (k:=nm) trivial (fun _ _=>trivial) (z:=eIV ⟨none,0,⟨#[]⟩⟩) (by simp[go_sem,aArg]) true;rw[this];cases getK nm env<;>rfl
def vK(env:IEnv)(n:Nd)(s:ISt):Except Dg ((Nd×Int)×ISt):=
 match getK n.name env with
 |none => .ok ((n,1),s)
 |some v=>match v.arg with
  |none => .ok ((.mk n.op v.name n.n n.sD n.pos,1),s)
  |some a=>if s.sM+v.size<=4000 then .ok ((a,v.size),payS v.size s) else .error (2,0)
def endI(ts:TS)(tb:Nat)(mu:Mu)(xb:Nat)(r:Except Dg ((Nd×Int)×ISt))(e:AEnd)(m:Mu):Prop:=
 match r with
 | .ok ((n,k),s)=>e = .ret (.tup [eNd n,aI k])/\m[xb]?=some (.arr (cIn ts tb s))/\(∀ i,i<mu.length->i≠xb->m[i]?=mu[i]?)/\mu.length<=m.length
 | .error d=>e = .pan (jE d.1 d.2)/\(∀ i,i<mu.length->i≠xb->m[i]?=mu[i]?)/\mu.length<=m.length
theorem qkY(ts tb s)(hs : -1000000<=s.sM/\s.sM<=500000)(env)(hk:(env.map Prod.fst).Nodup)(hz:∀ e,e∈env->0<=e.2.size/\e.2.size<=500000)(n){mu xb}(J:mu[xb]?=some (.arr (cIn ts tb s))) :
  qy qb 123 [.ptr xb 0,eEnv env,eNd n] mu (endI ts tb mu xb (vK env n s)):=by
 refine qSW call123 func123 rfl { mt:=[5] } ?_;have t:=fun mu=>lookE (mu:=mu) env n.name
 have g:xb<mu.length:=(qg.1 J).1;obtain⟨B,hB⟩:∃ B,B=eEnv env:=⟨_,rfl⟩;rw[<-hB];simp only[<-hB]at t;unfold vK;cases P:getK n.name env with
 |none =>
  simp only[P]at t;simp[go_sem];refine tA _ (t _) ?_;simp[go_sem,aArg];exact⟨rfl,by rw[qG g];exact J,fun i j _=>qG j,zSp⟩
 |some v =>
  simp only[P]at t;have R:=hz (n.name,v) ((Qq hk).1 P);obtain⟨va,C,T⟩:=v;cases va with
  |none =>
   simp[go_sem];refine tA _ (t _) ?_;have I:(cNd n).set 1 (AV.sc (Value.string T))=cNd (.mk n.op T n.n n.sD n.pos):=by
    obtain⟨op,o,nn,ks,pos⟩:=n;simp[yx,Nd.op,Nd.name,Nd.n,Nd.sD,Nd.pos]
   simp[go_sem,aArg,I];exact⟨rfl,by rw[qG g];exact J,fun i j _=>qG j,zSp⟩
  |some a =>
   simp[go_sem];refine tA _ (t _) ?_;simp[go_sem,aArg];have U:0<=C/\C<=500000:=R;refine fQ (payU ts tb s C ⟨zOm,zOm⟩ ⟨zOm,zOm⟩ (by rw[qG g];exact J)) ?_ ?_
   .rintro r m ⟨rfl,e⟩
    by_cases l:s.sM+C<=4000
    .rw [if_pos l]at e
     cases e;rw[List.set_append_left _ _ g];simp[go_sem,l];refine fD [0,1,2,3,4,5,7,6] [(0,0,[]),(1,0,[]),(2,0,[]),(3,0,[]),(4,0,[]),(5,0,[]),(7,0,[]),(6,1,[5])] zKr zKr zSi ?_
     all_goals
      simp[go_sem];refine⟨rfl,?_,fun i j p=>?_,zSp⟩
      .rw [qG (zUs g),qI g];rfl
      .rw [qG (zUs j),yu (fun e=>p e.symm)]
    .rw [if_neg l]at e;cases e
   .rintro r m ⟨rfl,e⟩
    by_cases l:s.sM+C<=4000
    .rw [if_pos l]at e;cases e
    .rw [if_neg l]at e
     cases e;simp[go_sem,l];refine⟨rfl,fun i j p=>?_,zSp⟩;rw[yu (fun e=>p e.symm),qG j]
end YX
end Go.Proofs.YtfednihcpihlgaaGreatDoor
