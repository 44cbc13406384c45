/-
  Own library, part 7: an abstract reading of values and a calculus over it; contracts of functions; plain lemmas.
-/
import Derived.Test.YtlnbdknjkmmgbaaGreatDoorMf
set_option linter.unusedVariables false
set_option linter.unusedSimpArgs false
set_option maxRecDepth 100000
open Go renaming Program->qf,FuncId->xa,undef->xc
open Go.Proofs.Tryz renaming prog->qb
open List renaming getElem?_eq_some_iff->qg,mem_map->qn,range->qp,getElem_mem->qq,mem_cons->qs,getElem?_set_self->qv,getElem?_append_left->qB,getElem?_eq_getElem->qC,not_mem_nil->qG,replicate->qI,mem_append->qL,mem_of_getElem?->qN,mem_singleton->qO,mem_cons_of_mem->qP,all_eq_true->qR,mem_cons_self->qX,drop_eq_getElem_cons->qY,length_append->qZ,take_length->zi,getElem?_set_ne->zA,drop_length->zF,append_assoc->zL,getElem?_append_right->zY,append_nil->zZ,map_append->z6,length_cons->yh,take_of_length_le->yr,length_map->yB,cons_append->yW,nil_append->jo,mem_filter->jC,getElem?_cons_succ->vG,take_succ_eq_append_getElem->uh,flatMap_cons->uj,getElem?_eq_none->Qn,drop_eq_nil_of_le->UF
open Nat renaming le_refl->qh,le_trans->zM
open Go.IntKind renaming i64->qj
open Bool renaming and_eq_true->qx
open Int renaming mul_le_mul->yX,le_refl->jO
open List.cons renaming injEq->vK
namespace Go.Proofs.YtlnbdknjkmmgbaaGreatDoor
open Go Go.Ev Go.Proofs Tryz
namespace QS
open YZ YF Y9 Y10 Y1 Y2 Y13 P1 P2 QE QF QI QJ QL QN PG QO QR
theorem Uo(c op nm):zE c op nm=(z7 op||(decide (op=47)&&tpB c nm)):=rfl
theorem qm0{ns op n pos l e}(h:zn ns op n pos l = .error e):e=(42,pos):=by
 unfold zn at h
 repeat' split at h
 all_goals grind
theorem wkTP(c:Ck)(nm):WKs [eTS c.ts,lBo c.timed,aI c.calls,aS nm] [eTS c.ts,lBo c.timed,aI c.calls,aS nm] := .zk (zl _) (.zk (JE _) (.zs (.zs .nil)))
theorem wk1I(k):WKs [aI k] [aI k] := .zs .nil
theorem fl_sb(s b):FL (.tup [eRS s,aB b]):=FL.tup fun x i=>by
 rcases qs.1 i with rfl|i
 .exact FL.agg fun c g=>by
   rcases qs.1 g with rfl|g
   .exact FL.sc _
   .obtain ⟨j,_,rfl⟩:=qn.1 g
    exact FL.sc _
 grind [qO,FL.sc]
theorem qm1(c)(i:okCk c)(s n)(g:zE c n.op n.name=true):ExR c s true n:=by
 refine⟨zR,?_,fun _ q h=>?_⟩
 case refine_2=>simp_all[yn,if_pos]
 have j:exam c s true n = .error (46,n.pos):=by simp_all[yn,if_pos]
 rw[j];rw[Uo]at g;refine qSQ call100 func100 rfl { mt:=[3] } ?_;have l:=Yc n.op;have o:=Yd c i n.name;simp[go_sem];refine tR l (wk1I _) ?_;cases p:z7 n.op with
 |true =>
  simp[go_sem];refine fG [0,1,2,3,4,5] [(0,0,[]),(1,0,[]),(2,0,[]),(3,0,[]),(4,1,[2]),(5,1,[])] zKr zKr zSi ?_;simp[go_sem,dgOf];exact .hf _ (jL zR (46,n.pos))
 |false =>
  rw[p,Bool.false_or,qx]at g;obtain⟨h47,hB⟩:=g;have h47:n.op=47:=by simpa using h47
  simp[go_sem,h47];refine tR o (wkTP c n.name) ?_;rw[hB];simp[go_sem];refine fG [0,1,2,3,4,5] [(0,0,[]),(1,0,[]),(2,0,[]),(3,0,[]),(4,1,[2]),(5,1,[])] zKr zKr zSi ?_;simp[go_sem,dgOf];exact .hf _ (jL zR (46,n.pos))
theorem qm2(c)(l:okCk c)(s)(g:s.length<=100000)(inn n)(i:n.op=1):ExR c s inn n:=by
 have o:exam c s inn n=yk c s n.name n.pos:=by
  rw[yn,Uo,i,show z7 1=false from rfl];simp
 refine⟨resS (yk c s n.name n.pos),?_,fun _ q h=>by rw[o]at h;rw[h];rfl⟩;rw[o];have p:=uJ c l inn s n g;rw[qmZ]at p;generalize resS (yk c s n.name n.pos)=S at *
 generalize dgOf (yk c s n.name n.pos)=D at *
 refine qSQ call100 func100 rfl { mt:=[3] } ?_;have t:=Yc n.op;have R:=Yd c l n.name;have I:z7 n.op=false:=by rw[i];rfl
 rw[I]at t;have J:=wkE c inn (envS s) n;cases inn
 case' true =>
  simp[go_sem];refine tR t (wk1I _) ?_
 all_goals
  simp[go_sem,i];refine tR p J ?_;simp[go_sem,qo];rw[if_pos (qU _)];generalize C:putCells _ 0 (aI S.1 :: hB S.2)=P;have j:P=aI S.1 :: hB S.2:=by rw[<-C];exact pc (aI 0) _ (fun _=>false) _
  subst j;clear C;simp[go_sem,qo,QE.tk];exact .hf _ (jL S D)
theorem qm3(c)(i:okCk c)(s)(t:ScOk c.ts.sS.length s)(inn n)(C:WfN n)(h47:n.op=47)(g:(inn&&zE c n.op n.name)=false)(I:∀ k,k∈n.sD->ExR c s true k):ExR c s inn n:=by
 have J:exam c s inn n=vW c s n:=by
  rw[yn,g,if_neg zSp,zIn,if_pos h47];rfl
 have P:=qmV c i s t n C h47 I inn;refine⟨zR,?_,fun j=>by rw[h47]at j;exact absurd j zDe⟩;rw[J];generalize dgOf (vW c s n)=D at *
 refine qSQ call100 func100 rfl { mt:=[3] } ?_;have l:=Yc n.op;have o:=Yd c i n.name;have p:z7 n.op=false:=by rw[h47];rfl
 rw[p]at l;have R:=wkE c inn (envS s) n;cases inn
 case' true =>
  rw[Bool.true_and,Uo,p,h47]at g;have hB:tpB c n.name=false:=zUs g;rw[hB]at o;simp[go_sem];refine tR l (wk1I _) ?_;simp[go_sem,h47];refine tR o (wkTP c n.name) ?_
 all_goals
  simp[go_sem,h47];refine fB P R ?_;exact .hf _ (jL zR D)
theorem qm4(c)(R:okCk c)(s)(o:ScOk c.ts.sS.length s)(p:s.length<=90000)(inn n)(T:WfN n)(l:n.op=15\/n.op=45\/n.op=46)(ht:(inn&&zE c n.op n.name)=false)(U:∀ k,k∈n.sD->∀ s',ScOk c.ts.sS.length s'->s'.length<=s.length+1->∀ inn,ExR c s' inn k):ExR c s inn n:=by
 have hx:exam c s inn n=zH c s (inn||decide (n.op=15)) n.name n.pos n.sD:=by
  rw[yn,ht,if_neg zSp,zIn,zIn,if_pos l]
 obtain⟨a,g,i,t⟩:=Ui T l;have cb:=qmX c R s o p n a g T l i t inn (U a (by rw[i];simp) s o zOm _) (fun k hk j=>U g (by rw[i];simp) _ (fun v C=>by
  rcases qs.1 C with rfl|C
  .grind
  .exact o v C) zSp _)
 refine⟨JG (exam c s (inn||decide (n.op=15)) a),?_,fun _ q h=>?_⟩
 case refine_2 =>
  rw[hx,i]at h;simp only[zH]at h;split at h
  .cases h
  .cases h
  .rename_i k hk
   split at h
   .rename_i j
    split at h
    .cases h
    .cases h
     rw[hk];exact if_pos j
   .cases h
 rw[hx];generalize JG (exam c s (inn||decide (n.op=15)) a)=S at *
 generalize dgOf (zH c s (inn||decide (n.op=15)) n.name n.pos n.sD)=D at *
 refine qSQ call100 func100 rfl { mt:=[3] } ?_;have I:=Yc n.op;have cp:=Yd c R n.name;have h47:¬n.op=47:=zOm;have hT:z7 n.op=false:=by grind [z7]
 rw[hT]at I;have wn:=wkE c inn (envS s) n;rcases l with h|h|h
 all_goals
  rw[h]at I;cases inn
 all_goals
  simp[go_sem,h]
  try (refine tR I (wk1I _) ?_)
  try simp[go_sem,h]
  refine tR cb wn ?_;simp[go_sem,qo];rw[if_pos (qU _)];generalize hP:putCells _ 0 (aI S.1 :: hB S.2)=P;have J:P=aI S.1 :: hB S.2:=by rw[<-hP];exact pc (aI 0) _ (fun _=>false) _
  subst J;clear hP;simp[go_sem,qo,QE.tk];exact .hf _ (jL S D)
def seqL(X:Nd->Res):List Nd->Except Dg (List (Option Kd))
 | [] => .ok []
 |k :: ks=>match X k with
  | .error e => .error e
  | .ok a=>match seqL X ks with
   | .error e => .error e
   | .ok l => .ok (a :: l)
theorem qbJ(c s B):∀ ks,qK c s B ks=seqL (exam c s B) ks
 | []=>by simp only[qK,seqL]
 |k :: ks=>by simp only[qK,seqL];rw[qbJ c s B ks];cases exam c s B k with
  |error e=>rfl
  |ok a=>cases seqL (exam c s B) ks<;>rfl
theorem X6{J:Type}{l}{a b c:J}(g:l[0]?=some a)(i:l[1]?=some b)(j:l[2]?=some c):∃ r,l=a :: b :: c :: r:=by
 match l,g,i,j with
 |_ :: _ :: _ :: r,g,i,j =>
  grind
theorem qm5{n}(j:WfN n)(h:(n.op=5\/n.op=11\/n.op=12\/n.op=13)\/(n.op=6\/n.op=14\/n.op=7\/n.op=8\/n.op=32\/n.op=33\/n.op=9\/n.op=10)):∀ x,x∈n.sD->kd x.op=101:=by
 have g:=j.shape;intro x l;have i:kd x.op∈n.sD.map fun k=>kd k.op:=qn.2 ⟨x,l,rfl⟩
 rcases h with h|h
 .unfold shp at g
  rw[zIn,if_pos zOm]at g
  grind
 .unfold shp at g
  rw[zIn,zIn,if_pos zOm]at g;simp only[Option.some.injEq]at g;rw[<-g]at i;simpa using i
set_option maxHeartbeats 2000000 in
theorem ex_t(c)(hc:okCk c)(s n inn B X S D)(h1:¬n.op=1)(h47:¬n.op=47)(hb:¬(n.op=15\/n.op=45\/n.op=46))(hw:WfN n)(aw:n.sD.length<=401)(hT:inn=true->z7 n.op=false)(a6:n.op=12->B=true)(a7:n.op=13->B=true)(ag:¬n.op=12->¬n.op=13->B=inn)
  (ah:∀ k,k∈n.sD->∃ S,qd qb 100 [eVw c B,lVr (envS s),eNd k] (.tup [eRS S,eDg (dgOf (X k))])/\(kd k.op=101->∀ q,X k = .ok (some q)->S=ql q))
  (a8:∀ k a,k∈n.sD->X k = .ok a->kd k.op=101->∃ q,a=some q/\okKd c.ts.sS.length q)
  (a2:∀ k e,X k = .error e->40<=e.1)
  (ai:∀ e,seqL X n.sD = .error e->S=zR/\D=e)
  (aj:∀ l,seqL X n.sD = .ok l->∃ S' b,(∀ L,((n.op=5\/n.op=11\/n.op=12\/n.op=13)\/(n.op=6\/n.op=14\/n.op=7\/n.op=8\/n.op=32\/n.op=33\/n.op=9\/n.op=10)->L=l.map setO)->prC c.ts n L S' b)/\(b=true->S=S'/\D=(0,0))/\(b=false->S=zR/\D=(42,n.pos))) :
  qd qb 100 [eVw c inn,lVr (envS s),eNd n] (.tup [eRS S,eDg D]):=by
 simp only[not_or]at hb;obtain⟨b1,b2,b3⟩:=hb;refine qSQ call100 func100 rfl { mt:=[3] } ?_;have ct:=Yc n.op;have cp:=Yd c hc n.name;cases inn
 all_goals first
  | (rw[hT rfl]at ct;simp[go_sem];refine tR ct (wk1I _) ?_)
  |skip
 all_goals simp[go_sem,h1,h47,b1,b2,b3]
 all_goals rcases (show n.op=12\/(¬n.op=12/\n.op=13)\/(¬n.op=12/\¬n.op=13) by omega) with C|⟨C,a0⟩|⟨C,a0⟩
 all_goals first|simp[go_sem,C,a0] | simp[go_sem,C]
 all_goals first|have a3:=a6 C|have a3:=a7 a0|have a3:=ag C a0
 all_goals
  refine fZ n.sD.length (fun k U=>∃(o:List (Option Kd)) (L:List RS),o.length=k/\L.length=k/\U.tm 1=lVr (envS s)/\U.tm 3 = .ptr 0 0/\U.tm 5 = .ip (cNd n)/\U.tm 6 = .ptr 1 0/\U.tm 7 = .ptr 2 0/\U.tm 9=aI k/\U.mu[0]?=some (.arr (cVw c B))/\U.mu[1]?=some (.arr (aI 0 :: hB fun _=>false))/\U.mu[2]?=some (.arr [aI 0,aI 0])/\OwnF 3 U.mu 65 (U.tm 8) (L.map cRS)/\(∀(i:Nat) x,n.sD[i]?=some x->i<k->kd x.op=101->∃ q,o[i]?=some (some q)/\L[i]?=some (ql q))/\seqL X n.sD=(match seqL X (n.sD.drop k) with | .error e => .error e | .ok l => .ok (o++l))) ?_ ?_
  .refine ⟨[],[],rfl,rfl,zSi,zSi,zSi,zSi,zSi,zSi,by rw[a3];simp[go_sem],by simp[go_sem];rfl,zSi,by simp_all[go_sem,OwnF.nil],fun i x _ h=>absurd h zOm,?_⟩
   grind
  rintro k U hk ⟨o,L,a9,aa,e1,e3,e5,e6,e7,e9,m0,m1,m2,ho,a1,I⟩;generalize h8:U.tm 8=av at *
  by_cases t:k<n.sD.length
  .have w1:=zWk k
   obtain⟨Sk,ck,ak⟩:=ah n.sD[k] (qq t);rw[qY t]at I;simp only[seqL]at I;simp[go_sem,e5,e9,t];refine fG [0,1,2,3,4,5,6,7,8,9,10,11,12,13,14] [(0,0,[]),(1,0,[]),(2,0,[]),(3,0,[]),(4,0,[]),(5,0,[]),(6,0,[]),(7,1,[]),(8,0,[]),(9,0,[]),(10,0,[]),(11,2,[0,3,6]),(12,2,[0,3,6]),(13,1,[]),(14,1,[])] zKr zKr zSi ?_;have ab:2<U.mu.length:=(qg.1 m2).1;have g:∀(l:List Cell)(i:Nat),i<U.mu.length->(U.mu++l)[i]?=U.mu[i]?:=fun l i J=>qB J
   have p0:=fun l=>(g l 0 zOm).trans m0
   have p1:=fun l=>(g l 1 zOm).trans m1
   have p2:=fun l=>(g l 2 zOm).trans m2
   have g0:=(qg.1 m0).2;have g1:=(qg.1 m1).2;have g2:=(qg.1 m2).2;have a4:0<U.mu.length:=zOm;have al:1<U.mu.length:=zOm;simp[go_sem,e1,e3,e5,e9,t,m0];refine tR ck (wkE c _ _ _) ?_;cases hx:X n.sD[k] with
   |error e =>
    have he:=a2 _ _ hx;have an:¬e.1=0:=zOm;rw[hx]at I;have I:seqL X n.sD = .error e:=I;obtain⟨ao,aq⟩:=ai e I;rw[ao,aq];simp[go_sem,e3,g0,a4,qo,dgOf];rw[if_pos (qU _)];generalize hP:putCells _ 0 (cRS Sk)=P;have R:P=cRS Sk:=by rw[<-hP];exact pc (aI 0) _ (fun _=>false) _
    subst R;clear hP;simp[go_sem,an];refine fG [0,1,2,3] [(0,0,[]),(1,0,[]),(2,1,[1]),(3,1,[])] zKr zKr zSi ?_;simp[go_sem,e6,e7,a4,qo,g1,g2,al,ab];exact .hf _ (jL zR e)
   |ok a =>
    rw[hx]at I;simp only at I;simp[go_sem,e3,g0,a4,qo,dgOf];rw[if_pos (qU _)];generalize hP:putCells _ 0 (cRS Sk)=P;have R:P=cRS Sk:=by rw[<-hP];exact pc (aI 0) _ (fun _=>false) _
    subst R;clear hP;simp[go_sem,h8,qo,QE.tk];rw[if_pos (qU _)];simp[go_sem];refine appRS (lo:=3) (xs:=L) (ys:=[Sk]) ⟨by simpa using Ja (Ja ho.1 _) _,ho.2.1,by grind⟩ (by simp[qE]) zSo fun ax m' ar a5=>?_
    simp[go_sem,e9,t,w1];refine aK ⟨o++[a],L++[Sk],zP1 a9,zP1 aa,zS1 e1,zS1 e3,zS1 e5,zS1 e6,by simp[go_sem,e7],zSi,?_,?_,?_,zVs ar,fun i x J ay T=>?_,?_⟩
    .simp only[qH];exact(a5 0 zOm).trans (p0 _)
    .simp only[qH];exact(a5 1 zOm).trans (p1 _)
    .simp only[qH];exact(a5 2 zOm).trans (p2 _)
    .by_cases ad:i=k
     .subst ad
      rw[qC t]at J;cases J;obtain⟨q,rfl,_⟩:=a8 _ a (qq t) hx T;refine⟨q,?_,?_⟩
      .rw [zY zOm,a9];simp
      .rw [zY zOm,aa];simp[ak T q hx]
     .obtain ⟨q,q1,q2⟩:=a1 i x J zOm T
      exact⟨q,by rw[zGa];exact q1,by rw[zGa];exact q2⟩
    grind
  .have ae:k=n.sD.length:=by omega
   subst ae;rw[zF]at I;have I:seqL X n.sD = .ok o:=by rw[I];simp only[seqL,zZ]
   obtain⟨S',b,q1,q2,q3⟩:=aj o I;have hL:((n.op=5\/n.op=11\/n.op=12\/n.op=13)\/(n.op=6\/n.op=14\/n.op=7\/n.op=8\/n.op=32\/n.op=33\/n.op=9\/n.op=10))->L=o.map setO:=fun h=>by
    have T:∀ x,x∈n.sD->kd x.op=101:=fun x hx=>qm5 hw h x hx
    refine List.ext_getElem? fun i=>?_
    by_cases J:i<n.sD.length
    .obtain ⟨q,e1,e2⟩:=a1 i n.sD[i] (zP1 J) J (T _ (qq J))
     rw[e2,List.getElem?_map,e1];rfl
    .rw [Qn zOm,Qn zSo]
   have hp:=q1 L hL;unfold prC at hp;have ab:2<U.mu.length:=(qg.1 m2).1;have g:∀(l:List Cell)(i:Nat),i<U.mu.length->(U.mu++l)[i]?=U.mu[i]?:=fun l i J=>qB J
   obtain⟨rr,af⟩:=X6 m0 m1 m2;simp[go_sem,e3,e5,e9,h8,m0];refine fR (args':=[eTS c.ts,eNd n,lRS L]) hp ⟨.hf _ (zl _),.hf _ (qz n),rdRS ho,trivial⟩ (fl_sb S' b) ?_;have az:U.mu.length=rr.length+3:=by rw[af];rfl
   clear m0 m1 m2 g ho;simp[go_sem,af,qo];rw[if_pos (qU _)];generalize hP:putCells _ 0 (cRS S')=P;have R:P=cRS S':=by rw[<-hP];exact pc (aI 0) _ (fun _=>false) _
   subst R;clear hP;cases b with
   |true =>
    obtain⟨rfl,rfl⟩:=q2 rfl;simp[go_sem,e6,qo,QE.tk,pc];rw[if_pos (qU _)];simp[go_sem,e6,e7,qo,QE.tk];exact .hf _ (jL S (0,0))
   |false =>
    obtain⟨rfl,rfl⟩:=q3 rfl;simp[go_sem];refine fG [0,1,2,3,4,5] [(0,0,[]),(1,0,[]),(2,0,[]),(3,0,[]),(4,1,[2]),(5,1,[])] zKr zKr zSi ?_;simp[go_sem,e5,e6,e7,qo];exact .hf _ (jL zR (42,n.pos))
theorem qm6(c)(p:okCk c)(s)(hs:ScOk c.ts.sS.length s)(inn n)(t:WfN n)(h1:¬n.op=1)(h47:¬n.op=47)(hb:¬(n.op=15\/n.op=45\/n.op=46))(ht:(inn&&zE c n.op n.name)=false)(ih:∀ k,k∈n.sD->∀ inn,ExR c s inn k):ExR c s inn n:=by
 have hx:exam c s inn n=match qK c s (inn||decide (n.op=12)||decide (n.op=13)) n.sD with | .error e => .error e | .ok l=>zn c.ts.sS.length n.op n.n n.pos l:=by
  rw[yn,ht,if_neg zSp,if_neg h1,if_neg h47,if_neg hb]
  grind
 have C:n.op=12\/n.op=13->(inn||decide (n.op=12)||decide (n.op=13))=true:=fun h=>by grind
 have a0:¬n.op=12->¬n.op=13->(inn||decide (n.op=12)||decide (n.op=13))=inn:=fun h h'=>by simp[h,h']
 generalize (inn||decide (n.op=12)||decide (n.op=13))=B at *
 obtain⟨S,D,I,hq,J,P⟩:∃ S D,dgOf (exam c s inn n)=D/\(kd n.op=101->∀ q,exam c s inn n = .ok (some q)->S=ql q)/\(∀ e,qK c s B n.sD = .error e->S=zR/\D=e) /\
   (∀ l,qK c s B n.sD = .ok l->∃ R b,(∀ L:List RS,((n.op=5\/n.op=11\/n.op=12\/n.op=13)\/(n.op=6\/n.op=14\/n.op=7\/n.op=8\/n.op=32\/n.op=33\/n.op=9\/n.op=10)->L=l.map setO)->prC c.ts n L R b)/\(b=true->S=R/\D=(0,0))/\(b=false->S=zR/\D=(42,n.pos))):=by
  rw[hx];cases hE:qK c s B n.sD with
  |error e=>exact⟨zR,e,rfl,(fun _ q h=>by cases h),(fun e' h=>by grind),(fun l h=>by cases h)⟩
  |ok l =>
   obtain⟨a1,a2⟩:=Zj hE;have a3:=(WS p.ts.ns t a1 (fun i k' a hi ha g=>jc p (szN k') k' s B a (qh _) (t.kid (qN hi)) hs (a2 i k' a hi ha) g)).2;obtain⟨R,b,p1,o⟩:=qmY c.ts p.ts n l h1 (fun h=>hb (.inl h)) (fun h=>by
    grind) a3.2.2
   simp only;cases hA:zn c.ts.sS.length n.op n.n n.pos l with
   |error e =>
    rw[hA]at o;have o:b=false:=o;refine⟨zR,e,rfl,(fun _ q h=>by cases h),(fun e' h=>by cases h),(fun l' h=>by cases h;exact⟨R,b,p1,(fun h=>by grind),(fun _=>⟨rfl,qm0 hA⟩)⟩)⟩
   |ok ko =>
    rw[hA]at o;obtain⟨o,p3⟩:=o;refine⟨R,(0,0),rfl,(fun hk q h=>?_),(fun e' h=>by cases h),(fun l' h=>by simp_all)⟩
    grind
 refine⟨S,?_,hq⟩;rw[I];clear I hx hq;obtain⟨X,T⟩:∃ X:Nd->Res,X=exam c s B:=⟨_,rfl⟩;have a4:∀ k,k∈n.sD->∃ S,qd qb 100 [eVw c B,lVr (envS s),eNd k] (.tup [eRS S,eDg (dgOf (X k))])/\(kd k.op=101->∀ q,X k = .ok (some q)->S=ql q):=fun k hk=>by rw[T];exact ih k hk B
 have U:∀ k a,k∈n.sD->X k = .ok a->kd k.op=101->∃ q,a=some q/\okKd c.ts.sS.length q:=fun k a hk h g=>by rw[T]at h;exact jc p (szN k) k s B a (qh _) (t.kid hk) hs h g
 have j:∀ k e,X k = .error e->40<=e.1:=fun k e h=>by rw[T]at h;exact Qa c (szN k) k s B e (qh _) h
 rw[qbJ,<-T]at J P;clear T ih;have a5:=t.len;exact ex_t c p s n inn B X S D h1 h47 hb t a5 (fun hi=>by
  simp_all[Bool.true_and,Uo,Bool.or_eq_false_iff]) (fun h=>C (.inl h)) (fun h=>C (.inr h)) a0 a4 U j J P
theorem qbK(c)(l:okCk c):∀(m:Nat)(n),depN n<=m->WfN n->∀ s,ScOk c.ts.sS.length s->s.length+m<=80000->∀ inn,ExR c s inn n
 | 0,n,i,_,_,_,_,_=>zW1 (qaH n)
 |m+1,n,i,o,s,t,p,inn=>by
  have C:∀ k,k∈n.sD->∀ s',ScOk c.ts.sS.length s'->s'.length<=s.length+1->∀ inn,ExR c s' inn k:=fun k j s' g I inn=>qbK c l m k (by have:=qaG j;rw[Qf]at i;omega) (o.kid j) s' g zOm inn
  cases J:inn&&zE c n.op n.name with
  |true =>
   simp_all[qx,qm1]
  |false =>
   grind [qm2,qm3,qm4,qm6]
end QS
namespace QT
open YF Y9 Y10 Y1 Y2 Y14 Y15 Y16 YZ P1 P2 PA Q5 QD QE QI QJ QL QM QO QS
section
variable {ts:TS}
def ckR(ts:TS)(i:Nat):Ck:=⟨ts,i,tmsL ts ts.sT.length⟩
theorem Up(h:okTS ts){i}(g:i<=ts.sT.length):okCk (ckR ts i):=⟨h,g,by show i<=(tmsL ts ts.sT.length).length;rw[Zh ts _ (qh _)];exact g⟩
theorem qbL{c c'}(g:c'.ts=c.ts)(l:∀ nm,zd c' nm=zd c nm)(o:∀ op nm,zE c' op nm=zE c op nm):∀ m n s inn,szN n<=m->exam c s inn n=exam c' s inn n
 | 0,n,_,_,C=>by obtain⟨op,nm,i,ks,p⟩:=n;simp[szN]at C
 |m+1,n,s,inn,C=>by
  have t:∀ k,k∈n.sD->∀(s:Scp)(inn:Bool),exam c s inn k=exam c' s inn k:=fun k t s inn=>qbL g l o m k s inn (zW1 (q9 t))
  refine my rfl rfl rfl rfl (o _ _) (fun _=>?_) (by rw[g]) (l _) (by rw[g]) rfl (fun _ J=>mB fun k j=>t k j s true) (fun _ inn=>?_) (fun _ _ _ inn=>V3 fun k j=>t k j s inn)
  .grind [Zm]
  .cases I:n.sD with
   |nil=>rfl
   |cons k ks =>
    grind [ks,zH,qX,qK,V3,qP]
theorem qm7(h:okTS ts){i}(l:i<=ts.sT.length)(n s inn):exam (ckR ts i) s inn n=exam (mkCk ts i) s inn n:=by
 refine(qbL (c:=mkCk ts i) (c':=ckR ts i) rfl (fun nm=>rfl) (fun op nm=>?_) (szN n) n s inn (qh _)).symm;unfold zE;have e:zd (ckR ts i) nm=zd (mkCk ts i) nm:=rfl;rw[e];cases o:zd (mkCk ts i) nm with
 |none=>rfl
 |some p =>
  obtain⟨j,g⟩:=wZ (jS h l) o;have j:p<i:=j;have g:p<ts.sT.length:=g;simp only;have t:=PC.Ue ts p ts.sT.length g (qh _) g;have C:=PC.Ue ts p i j l g;show (z7 op||(decide (op=47)&&(tmsL ts ts.sT.length).getD p false))=(z7 op||(decide (op=47)&&(tmsL ts i).getD p false));rw[t,C]
theorem qm8(h:okTS ts){i}(g:i<=ts.sT.length)(env n):ja (mkCk ts i) env n=if 30<=n.op then dgOf (exam (ckR ts i) (zq env) false n) else (43,n.pos):=by
 grind [ja,qm7]
theorem qbM(ts)(h:okTS ts)(J:∀ p,p∈ts.sT->WfN p.body)(i)(o:i<=ts.sT.length)(env)(t:w7 ts.sS.length env)(j:env.length<=1000)(n)(R:WfN n)(T:depN n<=24) :
  qd qb 131 [eTS ts,aI i,lPm env,eNd n] (eDg (ja (mkCk ts i) env n)):=by
 rw[qm8 h o];have U:=h.ns;have hs:=Jk t;have a0:(zq env).length=env.length:=by
  have:=congrArg List.length (qbC env)
  grind [Un,envV]
 obtain⟨S,ce,_⟩:=qbK (ckR ts i) (Up h o) 24 n T R (zq env) hs zOm false;have C:=envU env j (fun p hp=>zW1 (t.r p hp));rw[qbC]at C;have c1:=qmN n;have c2:=qmK ts h J;refine qSU call131 func131 rfl ?_;refine tR c1 (.zk (qz n) .nil) ?_;by_cases g:30<=n.op
 .rw [if_pos g]
  generalize dgOf (exam (ckR ts i) (zq env) false n)=D at *
  simp[go_sem,g];refine fG [0,1,3,5,7,2,4,6,8,9,10,11,12,13,14,15] [(0,0,[]),(1,0,[]),(3,0,[]),(5,0,[]),(7,0,[]),(2,1,[0,7]),(4,0,[]),(6,1,[0,7]),(8,1,[]),(9,0,[]),(10,0,[]),(11,0,[]),(12,2,[0,1,7]),(13,2,[0,1,7]),(14,1,[]),(15,1,[])] zKr zKr zSi ?_;simp[go_sem];refine fB c2 (.zk (zl ts) .nil) ?_;refine fB C (.zk (uF env) .nil) ?_;refine tR ce (wkE (ckR ts i) false _ n) ?_;simp[go_sem,qo];rw[if_pos (qU _)];generalize I:putCells _ 0 (cRS S)=P;have l:P=cRS S:=by rw[<-I];exact pc (aI 0) _ (fun _=>false) _
  subst l;clear I;simp[go_sem];exact .hf _ (uR D)
 .rw [if_neg g]
  simp[go_sem,g];exact .hf _ (uR (43,n.pos))
theorem qbN(ts)(h:okTS ts)(i:∀ p,p∈ts.sT->WfN p.body)(env)(j:w7 ts.sS.length env)(g:env.length<=1000)(n)(l:WfN n)(o:depN n<=24) :
  qd qb 64 [eTS ts,lPm env,eNd n] (eDg (ym ts env n)):=by
 have c1:=qbM ts h i ts.sT.length (qh _) env j g n l o;have e:ja (mkCk ts ts.sT.length) env n=ym ts env n:=rfl;rw[e]at c1;generalize ym ts env n=D at *
 refine qSU call64 func64 rfl ?_;refine fB c1 (.zk (zl ts) (.zs (.zk (uF env) (.zk (qz n) .nil)))) ?_;exact .hf _ (uR D)
theorem Ye(a b):dups (a++b)=dups a++dups b:=by simp[dups]
theorem uS(b):dups [b]=if b=true then [(41,0)] else []:=by cases b<;>rfl
theorem wE(l):(dups l).length<=l.length:=by
 grind [dups,yB,List.length_filter_le]
theorem X7{J}(g)(l:List J)(k h):(repL g l).take (k+1)=(repL g l).take k++[(l.take k).any fun y=>g l[k] y]:=by
 grind [repL,wC,uh,gY,qC,Option.some.inj]
theorem Uq{J:Type}(p)(l:List J)(k h):(l.take (k+1)).any p=((l.take k).any p||p l[k]):=by
 rw[uh h,List.any_append];simp only[List.any_cons,List.any_nil,Bool.or_false]
abbrev eS:tV×Bool->tV×Bool->Bool:=fun x y=>decide (x.1=y.1)
abbrev eF:Fld->Fld->Bool:=fun x y=>decide (x.name=y.name)&&decide (x.sS=y.sS)
abbrev eP:Pd->Pd->Bool:=fun x y=>decide (x.name=y.name)
abbrev eM:tV×Int->tV×Int->Bool:=fun x y=>decide (x.1=y.1)
abbrev eA:tV×Nd->tV×Nd->Bool:=fun x y=>decide (x.1=y.1)
theorem wI{mu lo s x}{xs ys:List Dg}{K}(j:OwnF lo mu 2 s (xs.map cDg))(o:qE mu x=some (ys.map cDg))(t:xs.length+ys.length<=100000)(C:∀ av mu',OwnF lo mu' 2 av ((xs++ys).map cDg)->(∀ i,i<lo->mu'[i]?=mu[i]?)->K av mu') :
  qu qb mu #[77,77] s x K:=by
 have g:∀ l:List Dg,qW 2 (l.map cDg):=fun l r p=>by
  obtain⟨n,_,rfl⟩:=qn.1 p;exact⟨rfl,rfl⟩
 refine qu.ownF (lo:=lo) (e:=121) (sz:=2) (bt:=16) (zv := .agg [aI 0,aI 0]) (xs:=xs.map cDg) (ys:=ys.map cDg) zSi zSi zSi rfl rfl zOm zOm j o (g xs) (g ys) zSo ?_
 grind
theorem qm9(ts)(h:okTS ts)(mu):qr qb 62 [eTS ts] mu fun e m=>∃ av,e = .ret av/\OwnF mu.length m 2 av ((dups (repL eS ts.sS)++dups (repL eF ts.sA)).map cDg)/\∀ i,i<mu.length->m[i]?=mu[i]?:=by
 refine qSW call62 func62 rfl {} ?_;have a6:=h.ns;have ab:=h.nf;simp[go_sem];refine fZ ts.sS.length (fun i U=>U.tm 1 = .ip (cTS ts)/\U.tm 4=aI i/\OwnF mu.length U.mu 2 (U.tm 3) ((dups ((repL eS ts.sS).take i)).map cDg)/\∀ i,i<mu.length->U.mu[i]?=mu[i]?) ?_ ?_
 .simp_all [go_sem,dups,OwnF.nil,qh]
 rintro i U R ⟨e1,e4,J,hm⟩;have a0:(dups ((repL eS ts.sS).take i)).length<=i:=zM (wE _) (List.length_take_le ..);generalize h3:U.tm 3=av at *
 by_cases o:i<ts.sS.length
 .have p:=X7 eS ts.sS i o
  have wi:=zWk i;simp[go_sem,e1,e4,o];refine fZ i (fun k st2=>st2.tm 1 = .ip (cTS ts)/\st2.tm 4=aI i/\st2.tm 3=av/\st2.tm 6=aI k/\st2.tm 5=aB ((ts.sS.take k).any fun y=>eS ts.sS[i] y)/\st2.mu=U.mu) ?_ ?_
  .simp [go_sem, *]
  rintro k st2 hk ⟨f1,f4,f3,f6,f5,I⟩;generalize hT:(ts.sS.take k).any (fun y=>eS ts.sS[i] y)=T at *
  by_cases t:k<i
  .have C:k<ts.sS.length:=by omega
   have wk:=zWk k;have g:=Uq (fun y=>eS ts.sS[i] y) ts.sS k C;rw[hT]at g;simp[go_sem,f4,f6,t];refine tN zKr ?_;cases T with
   |true =>
    simp_all[go_sem,Bool.true_or,aK]
   |false =>
    rw[Bool.false_or]at g;by_cases hq:ts.sS[k].1=ts.sS[i].1
    .simp_all [go_sem,eS,decide_eq_true,aK]
    .have l:(ts.sS.take (k+1)).any (fun y=>eS ts.sS[i] y)=false:=by rw[g];exact decide_eq_false fun e=>hq e.symm
     simp_all[go_sem,ji,aK]
  .have a1:k=i:=by omega
   subst a1;rw[hT]at p;cases T with
   |true =>
    simp[go_sem,f4,f3,f6,f5,I];refine wI (ys:=[(41,0)]) J (by simp[qE]) zSo fun a7 m' a2 a3=>?_
    simp[go_sem,f4,wi];exact⟨o,aK ⟨zS1 f1,zSi,by rw[p,Ye,uS,if_pos rfl];simpa[go_sem] using a2,by simp only[qH];exact fun i R=>(a3 i R).trans (hm i R)⟩⟩
   |false =>
    simp[go_sem,f4,f6,f5,I,wi];exact⟨o,aK ⟨zS1 f1,zSi,by rw[p,Ye,uS,if_neg zSp,zZ];simpa[go_sem,f3,I] using J,by simp only[qH];exact hm⟩⟩
 .have a4:i=ts.sS.length:=by omega
  subst a4;rw[yr (by rw[wC];exact qh _)]at J;simp[go_sem,e1,e4];generalize a8:dups (repL eS ts.sS)=a5 at *
  have ad:a5.length<=4:=by rw[<-a8];exact zM (wE _) (by rw[wC];exact a6)
  refine fZ ts.sA.length (fun i U=>U.tm 1 = .ip (cTS ts)/\U.tm 7=aI i/\OwnF mu.length U.mu 2 (U.tm 3) ((a5++dups ((repL eF ts.sA).take i)).map cDg)/\∀ i,i<mu.length->U.mu[i]?=mu[i]?) ?_ ?_
  .exact ⟨zS1 e1,zSi,by simpa[go_sem,dups,h3] using J,zVs hm⟩
  clear a0 J hm e1 e4 h3 o R U;rintro i U R ⟨e1,e4,J,hm⟩;have a0:(dups ((repL eF ts.sA).take i)).length<=i:=zM (wE _) (List.length_take_le ..);generalize h3:U.tm 3=a9 at *
  by_cases o:i<ts.sA.length
  .have p:=X7 eF ts.sA i o
   have wi:=zWk i;simp[go_sem,e1,e4,o];refine fZ i (fun k st2=>st2.tm 1 = .ip (cTS ts)/\st2.tm 7=aI i/\st2.tm 3=a9/\st2.tm 9=aI k/\st2.tm 8=aB ((ts.sA.take k).any fun y=>eF ts.sA[i] y)/\st2.mu=U.mu) ?_ ?_
   .exact ⟨zS1 e1,zS1 e4,zS1 h3,zSi,zSi,zSi⟩
   rintro k st2 hk ⟨f1,f4,f3,f6,f5,I⟩;generalize hT:(ts.sA.take k).any (fun y=>eF ts.sA[i] y)=T at *
   by_cases t:k<i
   .have C:k<ts.sA.length:=by omega
    have wk:=zWk k;have g:=Uq (fun y=>eF ts.sA[i] y) ts.sA k C;rw[hT]at g;have ae:=h.fl _ (qq C);have aa:=qi4 ts.sA[k].sS ts.sA[i].sS zOm;simp[go_sem,f4,f6,t];refine tN zKr ?_;cases T with
    |true =>
     rw[Bool.true_or]at g;simp[go_sem,f6,f5,t,wk];exact aK ⟨zS1 f1,zS1 f4,zS1 f3,zSi,by rw[g];simp[go_sem],zS1 I⟩
    |false =>
     rw[Bool.false_or]at g;by_cases hq:ts.sA[k].name=ts.sA[i].name
     .simp [go_sem,f1,f4,f6,f5,C,o,hq]
      refine tR aa (.zk (zy _) (.zk (zy _) .nil)) ?_;by_cases P:ts.sA[k].sS=ts.sA[i].sS
      .have l:(ts.sA.take (k+1)).any (fun y=>eF ts.sA[i] y)=true:=by rw[g];simp[eF,hq.symm,P.symm]
       simp[go_sem,f6,t,wk,P];exact aK ⟨zS1 f1,zS1 f4,zS1 f3,zSi,by rw[l];simp[go_sem],zS1 I⟩
      .have l:(ts.sA.take (k+1)).any (fun y=>eF ts.sA[i] y)=false:=by rw[g];simp[eF,hq.symm];exact fun e=>P e.symm
       simp[go_sem,f6,t,wk,P];exact aK ⟨zS1 f1,zS1 f4,zS1 f3,zSi,by rw[l];simp[go_sem],zS1 I⟩
     .have l:(ts.sA.take (k+1)).any (fun y=>eF ts.sA[i] y)=false:=by rw[g];simp[eF];exact fun e=>absurd e.symm hq
      simp[go_sem,f1,f4,f6,f5,t,C,o,wk,ji hq];exact aK ⟨zS1 f1,zS1 f4,zS1 f3,zSi,by rw[l];simp[go_sem],zS1 I⟩
   .have a1:k=i:=by omega
    subst a1;rw[hT]at p;cases T with
    |true =>
     simp[go_sem,f4,f3,f6,f5,I];refine wI (ys:=[(41,0)]) J (by simp[qE]) zSo fun a7 m' a2 a3=>?_
     simp[go_sem,f4,wi];exact⟨o,aK ⟨zS1 f1,zSi,by rw[p,Ye,uS,if_pos rfl,<-zL];simpa[go_sem] using a2,by simp only[qH];exact fun i R=>(a3 i R).trans (hm i R)⟩⟩
    |false =>
     simp[go_sem,f4,f6,f5,I,wi];exact⟨o,aK ⟨zS1 f1,zSi,by rw[p,Ye,uS,if_neg zSp,zZ];simpa[go_sem,f3,I] using J,by simp only[qH];exact hm⟩⟩
  .have a4:i=ts.sA.length:=by omega
   subst a4;rw[yr (by rw[wC];exact qh _)]at J;simp[go_sem,e1,e4,h3];exact⟨zUs J,hm⟩
end
end QT
namespace QU
open YF Y9 Y10 Y1 Y2 Y15 Y16 YZ P1 P2 PA QD QI QK QT
theorem qnA{ts i}(l):(∃ p,zd (ckR ts i) ts.sT[i].name=some p/\(ts.sT.take i).any (fun y=>eP ts.sT[i] y)=true)\/(zd (ckR ts i) ts.sT[i].name=none/\(ts.sT.take i).any (fun y=>eP ts.sT[i] y)=false):=by
 cases h:zd (ckR ts i) ts.sT[i].name with
 |some p =>
  left;refine⟨p,rfl,?_⟩;unfold zd at h;rw[List.findIdx?_eq_some_iff_getElem]at h;obtain⟨g,o,_⟩:=h;refine List.any_eq_true.2 ⟨_,qq g,?_⟩
  grind
 |none =>
  right;refine⟨rfl,?_⟩;unfold zd at h;rw[List.findIdx?_eq_none_iff]at h;rw[List.any_eq_false];intro x j;have:=h x j
  grind
theorem rdDg{lo mu av xs}(h:OwnF lo mu 2 av (xs.map cDg)):Rd mu av (lDg xs):=by
 refine h.1.rd (qW.ok fun r g=>?_) fun r g c i=>?_
 .obtain ⟨n,_,rfl⟩:=qn.1 g
  exact⟨rfl,rfl⟩
 .obtain ⟨n,_,rfl⟩:=qn.1 g
  rcases qs.1 i with rfl|i
  .exact HF.sc _
  grind [qO,HF.sc]
theorem Yf{lo sz mu av xs}(h:OwnF lo mu sz av xs)(c):OwnF lo (mu++[c]) sz av xs:=⟨Ja h.1 c,h.2.1,by have:=h.2.2;simp;omega⟩
theorem qnB(ts)(h:okTS ts)(wp:∀ p,p∈ts.sT->WfN p.body)(i)(P:i<ts.sT.length)(hd:depN ts.sT[i].body<=24):qd qb 63 [eTS ts,aI i] (lDg (vf ts i)):=by
 have a5:=h.pl _ (qq P);have af:=h.np;have c1:=qbM ts h wp i zOm ts.sT[i].params ⟨zOm,a5.2⟩ zOm ts.sT[i].body (wp _ (qq P)) hd;have c2:=JD (ckR ts i) (Up h zOm) ts.sT[i].name;have a6:=qnA P;have hp:vf ts i=dups [(ts.sT.take i).any (fun y=>eP ts.sT[i] y)]++(dups (repL eM ts.sT[i].params)++rp (ja (mkCk ts i) ts.sT[i].params ts.sT[i].body)):=by
  grind [vf,qC,mD]
 rw[hp];generalize hD:ja (mkCk ts i) ts.sT[i].params ts.sT[i].body=D at *
 generalize hb:(ts.sT.take i).any (fun y=>eP ts.sT[i] y)=b at *
 have ag:(dups [b]).length<=1:=by grind [dups]
 refine qSU call63 func63 rfl ?_;refine tN zKr ?_;simp[go_sem,P];refine tR c2 (.zk (zl _) (.zs (.zs .nil))) ?_;have wk:WKs [eTS ts,aI i,lPm ts.sT[i].params,eNd ts.sT[i].body] [eTS ts,aI i,lPm ts.sT[i].params,eNd ts.sT[i].body] := .zk (zl _) (.zs (.zk (uF _) (.zk (qz _) .nil)));have ae:=wY;have fin:∀ U:St,True:=fun _=>trivial
 rcases a6 with ⟨p,hc,R⟩|⟨hc,R⟩
 case' inl =>
  subst R;rw[hc];have a7:(0:Int)<=(p:Int):=zOm;simp[go_sem,idxO,a7];refine wI (lo:=0) (xs:=[]) (ys:=[(41,0)]) (OwnF.nil zSp) (by simp[qE]) zSp fun ah m0 ai _=>?_
  simp[go_sem,P]
 case' inr =>
  subst R;rw[hc];simp[go_sem,idxO,P]
 all_goals
  generalize a8:ts.sT[i]=g at *
 case' inl =>
  refine fZ g.params.length (fun k U=>U.tm 2 = .ip (cTS ts)/\U.tm 1=aI i/\U.tm 6=lPm g.params/\U.tm 7=aI k/\OwnF 0 U.mu 2 (U.tm 5) ((dups [true]++dups ((repL eM g.params).take k)).map cDg)) ?_ ?_
  .simp_all [go_sem,dups]
 case' inr =>
  refine fZ g.params.length (fun k U=>U.tm 2 = .ip (cTS ts)/\U.tm 1=aI i/\U.tm 6=lPm g.params/\U.tm 7=aI k/\OwnF 0 U.mu 2 (U.tm 5) ((dups [false]++dups ((repL eM g.params).take k)).map cDg)) ?_ ?_
  .simp_all [go_sem,dups,OwnF.nil]
 all_goals
  rintro k U hk ⟨e2,e1,e6,e7,ho⟩;have a4:(dups ((repL eM g.params).take k)).length<=k:=zM (Y16.wE _) (List.length_take_le ..);generalize h5:U.tm 5=av at *
  by_cases C:k<g.params.length
  .have a0:=X7 eM g.params k C
   have wi:=zWk k;simp[go_sem,e6,e7,C];refine fZ k (fun j st2=>st2.tm 2 = .ip (cTS ts)/\st2.tm 1=aI i/\st2.tm 6=lPm g.params/\st2.tm 7=aI k/\st2.tm 5=av/\st2.tm 9=aI j/\st2.tm 8=aB ((g.params.take j).any fun y=>eM g.params[k] y)/\st2.mu=U.mu) ?_ ?_
   .simp [go_sem, *]
   rintro j st2 hj ⟨f2,f1,f6,f7,f5,f9,f8,fm⟩;generalize hT:(g.params.take j).any (fun y=>eM g.params[k] y)=T at *
   by_cases a1:j<k
   .have a2:j<g.params.length:=by omega
    have wj:=zWk j;have t:=Uq (fun y=>eM g.params[k] y) g.params j a2;rw[hT]at t;simp[go_sem,f7,f9,a1];refine tN zKr ?_;cases T with
    |true =>
     simp_all[go_sem,Bool.true_or,aK]
    |false =>
     rw[Bool.false_or]at t;by_cases hq:g.params[j].1=g.params[k].1
     .have o:(g.params.take (j+1)).any (fun y=>eM g.params[k] y)=true:=by rw[t];exact decide_eq_true hq.symm
      simp[go_sem,f6,f7,f9,f8,a1,a2,C,wj,hq];exact aK ⟨zS1 f2,zS1 f1,zS1 f6,zS1 f7,zS1 f5,zSi,by rw[o];simp[go_sem],zS1 fm⟩
     .have o:(g.params.take (j+1)).any (fun y=>eM g.params[k] y)=false:=by rw[t];exact decide_eq_false fun e=>hq e.symm
      simp[go_sem,f6,f7,f9,f8,a1,a2,C,wj,ji hq];exact aK ⟨zS1 f2,zS1 f1,zS1 f6,zS1 f7,zS1 f5,zSi,by rw[o];simp[go_sem],zS1 fm⟩
   .have a9:j=k:=by omega
    subst a9;rw[hT]at a0;cases T with
    |true =>
     simp[go_sem,f7,f5,f9,f8,fm];refine wI (ys:=[(41,0)]) ho (by simp[qE]) zSo fun aa m' I ab=>?_
     simp[go_sem,f7,wi];exact⟨C,aK ⟨zS1 f2,zS1 f1,zS1 f6,zSi,by rw[a0,Ye,<-zL];simpa[go_sem,uS] using I⟩⟩
    |false =>
     simp[go_sem,f7,f9,f8,fm,wi];exact⟨C,aK ⟨zS1 f2,zS1 f1,zS1 f6,zSi,by rw[a0,Ye];simpa[go_sem,uS,f5,fm] using ho⟩⟩
  .have ad:k=g.params.length:=by omega
   subst ad;rw[yr (by rw[wC];exact qh _)]at ho a4;simp[go_sem,e6,e7];refine tN zKr ?_;simp[go_sem,e2,e1,e6,P,a8];refine tR c1 wk ?_;by_cases J:D.1=0
   .have a3:rp D=[]:=if_pos J
    rw[a3];simp[go_sem,h5,J];exact rdDg (Yf ho _)
   .have a3:rp D=[D]:=if_neg J
    rw[a3];simp[go_sem,h5,J];refine wI (ys:=[D]) (Yf ho _) (by simp[qE]) (by simp only[qZ,List.length_singleton];omega) fun aa m' I ab=>?_
    simp[go_sem];rw[zL]at I;exact rdDg I
theorem Jh(f:Nat->List Dg)(n):(qp (n+1)).flatMap f=(qp n).flatMap f++f n:=by
 rw[List.range_succ,List.flatMap_append];simp only[uj,List.flatMap_nil,zZ]
theorem qnC(ts)(h:okTS ts)(wp:∀ p,p∈ts.sT->WfN p.body)(wf:∀ f,f∈ts.sP->WfN f.2)(dp:∀ p,p∈ts.sT->depN p.body<=24)(df:∀ f,f∈ts.sP->depN f.2<=24):qd qb 30 [eTS ts] (lDg (yG ts)):=by
 have aj:=h.np;have ak:=h.nfa;have hD:(dups (repL eS ts.sS)++dups (repL eF ts.sA)).length<=10:=by
  have a1:=Y16.wE (repL eS ts.sS);have a2:=Y16.wE (repL eF ts.sA);rw[wC]at a1 a2;have:=h.ns;have:=h.nf;rw[qZ];omega
 have hC:yG ts=(dups (repL eS ts.sS)++dups (repL eF ts.sA))++((qp ts.sT.length).flatMap (vf ts)++(qp ts.sP.length).flatMap (wD ts ts.sP)):=by
  unfold yG;rw[zL]
 rw[hC];have a8:=qm9 ts h [];generalize dups (repL eS ts.sS)++dups (repL eF ts.sA)=D0 at *
 refine qSU call30 func30 rfl ?_;refine fL a8 (fun r m hr=>?_) (fun r m hr=>?_)
 case refine_2 =>
  grind
 obtain⟨al,e,an,_⟩:=hr;cases e;simp[go_sem];refine fZ ts.sT.length (fun i U=>U.tm 1 = .ip (cTS ts)/\U.tm 4=aI i/\OwnF 0 U.mu 2 (U.tm 3) ((D0++(qp i).flatMap (vf ts)).map cDg)) ?_ ?_
 .simp_all [go_sem]
 rintro i U hi ⟨e1,e4,P⟩;have ai:=Y16.W4 (vf ts) (Y16.g8 h) i;generalize h3:U.tm 3=av at *
 by_cases g:i<ts.sT.length
 .have l:=Jh (vf ts) i
  have ao:=Y16.g8 h i;have a9:=qnB ts h wp i g (dp _ (qq g));have wi:=zWk i;generalize vf ts i=PD at *
  simp[go_sem,e1,e4,h3,g];refine fB a9 (.zk (zl ts) (.zs .nil)) ?_;refine wI (ys:=PD) P (by simp[qE]) (by simp only[qZ];omega) fun aa m' a0 ab=>?_
  simp_all[go_sem,aK,zL]
 .have a3:i=ts.sT.length:=by omega
  subst a3;simp[go_sem,e1,e4];generalize (qp ts.sT.length).flatMap (vf ts)=P0 at *
  refine fZ ts.sP.length (fun i U=>U.tm 1 = .ip (cTS ts)/\U.tm 5=aI i/\OwnF 0 U.mu 2 (U.tm 3) (((D0++P0)++(qp i).flatMap (wD ts ts.sP)).map cDg)) ?_ ?_
  .exact ⟨zS1 e1,zSi,by simpa[go_sem,h3] using P⟩
  clear P e1 e4 h3 g hi U;rintro i U hi ⟨e1,e4,P⟩;have ad:=Y16.W4 (wD ts ts.sP) (Y16.qiM ts ts.sP) i;generalize h3:U.tm 3=ae at *
  by_cases g:i<ts.sP.length
  .have l:=Jh (wD ts ts.sP) i
   have af:wD ts ts.sP i=dups [(ts.sP.take i).any (fun y=>eA ts.sP[i] y)]++rp (ym ts [] ts.sP[i].2):=by
    unfold wD;rw[qC g];simp only;rw[mD,qC g]
   rw[af]at l;have cf:=qbN ts h wp [] ⟨zSp,zSp⟩ zSp ts.sP[i].2 (wf _ (qq g)) (df _ (qq g));have wi:=zWk i;generalize ym ts [] ts.sP[i].2=D at *
   simp[go_sem,e1,e4,g];refine fZ i (fun k st2=>st2.tm 1 = .ip (cTS ts)/\st2.tm 5=aI i/\st2.tm 3=ae/\st2.tm 7=aI k/\st2.tm 6=aB ((ts.sP.take k).any fun y=>eA ts.sP[i] y)/\st2.mu=U.mu) ?_ ?_
   .exact ⟨zS1 e1,zS1 e4,zS1 h3,zSi,zSi,zSi⟩
   rintro k st2 hk ⟨f1,f4,f3,f6,f5,fm⟩;generalize hT:(ts.sP.take k).any (fun y=>eA ts.sP[i] y)=T at *
   by_cases R:k<i
   .have a4:k<ts.sP.length:=by omega
    have wk:=zWk k;have o:=Uq (fun y=>eA ts.sP[i] y) ts.sP k a4;rw[hT]at o;simp[go_sem,f4,f6,R];refine tN zKr ?_;cases T with
    |true =>
     rw[Bool.true_or]at o;simp[go_sem,f6,f5,R,wk];exact aK ⟨zS1 f1,zS1 f4,zS1 f3,zSi,by rw[o];simp[go_sem],zS1 fm⟩
    |false =>
     rw[Bool.false_or]at o;by_cases hq:ts.sP[k].1=ts.sP[i].1
     .have C:(ts.sP.take (k+1)).any (fun y=>eA ts.sP[i] y)=true:=by rw[o];exact decide_eq_true hq.symm
      simp[go_sem,f1,f4,f6,f5,R,a4,g,wk,hq];exact aK ⟨zS1 f1,zS1 f4,zS1 f3,zSi,by rw[C];simp[go_sem],zS1 fm⟩
     .have C:(ts.sP.take (k+1)).any (fun y=>eA ts.sP[i] y)=false:=by rw[o];exact decide_eq_false fun e=>hq e.symm
      simp[go_sem,f1,f4,f6,f5,R,a4,g,wk,ji hq];exact aK ⟨zS1 f1,zS1 f4,zS1 f3,zSi,by rw[C];simp[go_sem],zS1 fm⟩
   .have ag:k=i:=by omega
    subst ag;rw[hT]at l;have a5:WKs [eTS ts,.lst true [],eNd ts.sP[k].2] [eTS ts,lPm [],eNd ts.sP[k].2] := .zk (zl ts) (.cons (WK.lst fun r hr=>absurd hr qG) (.zk (qz _) .nil));have aq:=pR;cases T with
    |true =>
     simp[go_sem,f4,f3,f6,f5,fm];refine wI (ys:=[(41,0)]) P (by simp[qE]) (by simp only[qZ,List.length_singleton];omega) fun aa m' a0 ab=>?_
     simp[go_sem];refine tN zKr ?_;simp[go_sem,f1,f4,g];refine tR cf a5 ?_;by_cases t:D.1=0
     .have I:rp D=[]:=if_pos t
      rw[I,zZ]at l;simp[go_sem,f4,wi,t];exact⟨g,aK ⟨zS1 f1,zSi,by rw[l,<-zL];simpa[go_sem,uS] using Yf a0 (.arr [aI 0,aI D.2])⟩⟩
     .have I:rp D=[D]:=if_neg t
      rw[I]at l;simp[go_sem,t];refine wI (ys:=[D]) (Yf a0 _) (by simp[qE]) (by simp only[qZ,List.length_singleton];omega) fun a6 ah J a7=>?_
      simp[go_sem,f4,wi];exact⟨g,aK ⟨zS1 f1,zSi,by rw[l,<-zL];simpa[go_sem,uS,zL] using J⟩⟩
    |false =>
     simp[go_sem,f4,f6,f5,fm];refine tN zKr ?_;simp[go_sem,f1,f4,g];refine tR cf a5 ?_;by_cases t:D.1=0
     .have I:rp D=[]:=if_pos t
      rw[I,zZ]at l;simp[go_sem,f4,wi,t];exact⟨g,aK ⟨zS1 f1,zSi,by rw[l,<-zL];simpa[go_sem,uS,f3] using Yf P (.arr [aI 0,aI D.2])⟩⟩
     .have I:rp D=[D]:=if_neg t
      rw[I]at l;simp[go_sem,f3,t];refine wI (ys:=[D]) (Yf P _) (by simp[qE]) (by simp only[qZ,List.length_singleton];omega) fun a6 ah J a7=>?_
      simp[go_sem,f4,wi];exact⟨g,aK ⟨zS1 f1,zSi,by rw[l,<-zL];simpa[go_sem,uS,zL] using J⟩⟩
  .have a3:i=ts.sP.length:=by omega
   subst a3;simp[go_sem,e1,e4,h3];rw[zL]at P;exact rdDg P
end QU
namespace QP
end QP
namespace QV
end QV
namespace QW
open YS YF Y9 Y10 Y1 Y2 YZ YA P1 P2
section
variable {l:List tV}
abbrev rNm(b:tV):List AV:=[aS b]
abbrev lNm(l:List tV):AV := .lst false (l.map rNm)
def namL(n:Nd):List tV:=((preN n).filter fun x=>decide (x.name≠⟨#[]⟩)).map Nd.name
def jM(l:List Nd):List tV:=((zg l).filter fun x=>decide (x.name≠⟨#[]⟩)).map Nd.name
theorem qnD(n):namL n=(if n.name=⟨#[]⟩ then [] else [n.name])++jM n.sD:=by
 unfold namL jM;rw[uO,List.filter_cons];by_cases h:n.name=⟨#[]⟩
 .simp [h]
 .simp [h]
theorem Z4:∀ a b,zg (a++b)=zg a++zg b
 | [],b=>rfl
 |x :: a,b=>by rw[yW];simp only[zg];rw[Z4 a b,zL]
theorem qnE(a k):jM (a++[k])=jM a++namL k:=by
 grind [jM,namL,Z4,zg]
theorem qnF(l):(jM l).length<=(zg l).length:=by
 grind [jM,yB,List.length_filter_le]
theorem Ur(n):(namL n).length<=(preN n).length:=by
 grind [namL,yB,List.length_filter_le]
theorem X8(l:List tV):qW 1 (l.map rNm):=fun r g=>by
 obtain⟨x,_,rfl⟩:=qn.1 g;exact⟨rfl,rfl⟩
theorem qbO(l):HF (lNm l):=HF.lst fun r g c i=>by
 obtain⟨x,_,rfl⟩:=qn.1 g
 grind [qO,HF.sc]
theorem rdNm{lo mu av}(h:OwnF lo mu 1 av (l.map rNm)):Rd mu av (lNm l):=
 h.1.rd (X8 l).ok fun r g c i=>by
  obtain⟨x,_,rfl⟩:=qn.1 g
  grind [qO,HF.sc]
theorem appNm{mu lo s x}{xs ys:List tV}{K}(g:OwnF lo mu 1 s (xs.map rNm))(j:qE mu x=some (ys.map rNm))(l:xs.length+ys.length<=1000000)(o:∀ av mu',OwnF lo mu' 1 av ((xs++ys).map rNm)->(∀ i,i<lo->mu'[i]?=mu[i]?)->K av mu') :
  qu qb mu #[197,197] s x K:=by
 refine qu.ownF (lo:=lo) (e:=9) (sz:=1) (bt:=16) (zv:=aS ⟨#[]⟩) (xs:=xs.map rNm) (ys:=ys.map rNm) zSi zSi zSi rfl rfl zOm zOm g j (X8 xs) (X8 ys) zSo ?_
 grind
theorem qnG(l k):(zg (l.take k)).length<=(zg l).length:=by
 grind [zg,Z4,List.take_append_drop,qZ]
theorem X9:∀ m n,szN n<=m->Small n->∀ lo mu av xs,OwnF lo mu 1 av (xs.map rNm)->xs.length+(preN n).length<=500000 ->
  qr qb 202 [av,eNd n] mu fun e C=>∃ g,e = .ret g/\OwnF lo C 1 g ((xs++namL n).map rNm)/\∀ i,i<lo->C[i]?=mu[i]?
 | 0,n,J,_=>by obtain⟨op,nm,i,ks,p⟩:=n;simp[szN]at J
 |m+1,n,J,hs=>by
  intro lo mu av xs I hl;have ih:∀ k,k∈n.sD->∀(lo:Nat)(mu:Mu)(av:AV)(xs:List tV),OwnF lo mu 1 av (xs.map rNm)->xs.length+(preN k).length<=500000->qr qb 202 [av,eNd k] mu fun e C=>∃ g,e = .ret g/\OwnF lo C 1 g ((xs++namL k).map rNm)/\∀ i,i<lo->C[i]?=mu[i]?:=fun k R =>
   X9 m k (zW1 (q9 R)) (hs.kid R)
  have a3:=hs.len;have o:=qnD n;have a4:(preN n).length=1+(zg n.sD).length:=by rw[uO,yh];omega
  refine qSW call202 func202 rfl {} ?_;by_cases P:n.name=⟨#[]⟩
  case' pos =>
   rw[if_pos P,jo]at o;simp[go_sem,P];refine fZ n.sD.length (fun k U=>U.tm 3 = .ip (cNd n)/\U.tm 5=aI k/\OwnF lo U.mu 1 (U.tm 0) ((xs++jM (n.sD.take k)).map rNm)/\∀ i,i<lo->U.mu[i]?=mu[i]?) ?_ ?_
   .simp_all [go_sem,jM,zg]
   generalize hX:xs=X at *
   have T:X.length+(zg n.sD).length<=500000:=zOm;have l:X++jM n.sD=X++namL n:=by rw[o]
  case' neg =>
   rw[if_neg P]at o;have a0:n.name.toList.isEmpty=false:=by simpa using ji P
   simp[go_sem,a0];refine appNm (ys:=[n.name]) I (by simp[qE]) (by grind) fun g C a5 a6=>?_
   simp[go_sem];refine fZ n.sD.length (fun k U=>U.tm 3 = .ip (cNd n)/\U.tm 5=aI k/\OwnF lo U.mu 1 (U.tm 0) (((xs++[n.name])++jM (n.sD.take k)).map rNm)/\∀ i,i<lo->U.mu[i]?=mu[i]?) ?_ ?_
   .simp_all [go_sem,jM,zg]
   generalize hX:xs++[n.name]=X at *
   have T:X.length+(zg n.sD).length<=500000:=by grind
   have l:X++jM n.sD=xs++namL n:=by grind
  all_goals
   rintro k U R ⟨e3,e5,I,J⟩;generalize h0:U.tm 0=a1 at *
   by_cases t:k<n.sD.length
   .have w1:=zWk k
    have a7:jM (n.sD.take (k+1))=jM (n.sD.take k)++namL n.sD[k]:=by rw[uh t,qnE]
    have a8:(zg (n.sD.take (k+1))).length=(zg (n.sD.take k)).length+(preN n.sD[k]).length:=by grind [uh,Z4,zg]
    have h1:=qnG n.sD (k+1);have h2:=qnF (n.sD.take k);simp[go_sem,e3,e5,h0,t,qS];refine fL (ih n.sD[k] (qq t) lo U.mu a1 _ I (by rw[qZ];omega)) (fun r m2 hr=>?_) (fun r m2 hr=>?_)
    .simp_all [go_sem,aK,zL,qH,trans]
    grind
   .have a2:k=n.sD.length:=by omega
    subst a2;rw[zi,l]at I;simp[go_sem,e3,e5,h0];exact⟨zUs I,J⟩
def takL(ts:TS)(n:Nd):List tV:=namL n++ts.sT.flatMap fun p=>namL p.body
theorem qnH(ts)(h:okTS ts)(wp:∀ p,p∈ts.sT->WfN p.body)(n)(hw:WfN n)(hl:(preN n).length<=400)(hp:∀ p,p∈ts.sT->(preN p.body).length<=400):qd qb 138 [eTS ts,eNd n] (lNm (takL ts n)):=by
 have a3:=h.np;have hk:∀ i (o:i<ts.sT.length),ts.sT.take (i+1)=ts.sT.take i++[ts.sT[i]]:=fun i o=>uh o
 have I:∀ i,((ts.sT.take i).flatMap fun p=>namL p.body).length<=400*i:=by
  intro i;induction i with
  |zero=>simp
  |succ i ih =>
   by_cases o:i<ts.sT.length
   .rw [hk i o,List.flatMap_append,qZ]
    have h1:=Ur ts.sT[i].body;have h2:=hp _ (qq o);simp only[uj,List.flatMap_nil,zZ];omega
   .have e1:ts.sT.take (i+1)=ts.sT:=yr zOm
    have l:ts.sT.take i=ts.sT:=yr zOm;rw[e1];rw[l]at ih;omega
 have hn:=Ur n;refine qSU call138 func138 rfl ?_;refine fL (X9 (szN n) n (qh _) hw.small 0 [] (.lst true []) [] (OwnF.nil zSp) zSo) (fun r J j=>?_) (fun r J j=>?_)
 case refine_2 =>
  obtain⟨t,e,_⟩:=j;cases e
 obtain⟨a4,e,C,_⟩:=j;cases e;rw[jo]at C;simp[go_sem];refine fZ ts.sT.length (fun k U=>U.tm 2 = .ip (cTS ts)/\U.tm 6=aI k/\OwnF 0 U.mu 1 (U.tm 5) ((namL n++(ts.sT.take k).flatMap fun p=>namL p.body).map rNm)) ?_ ?_
 .exact ⟨zSi,zSi,zVs C⟩
 rintro k U a5 ⟨l,P,R⟩;generalize h5:U.tm 5=T at *
 by_cases g:k<ts.sT.length
 .have w1:=zWk k
  have a0:(ts.sT.take (k+1)).flatMap (fun p=>namL p.body)=(ts.sT.take k).flatMap (fun p=>namL p.body)++namL ts.sT[k].body:=by
   rw[hk k g,List.flatMap_append];simp only[uj,List.flatMap_nil,zZ]
  have h1:=I k;have h2:=hp _ (qq g);simp[go_sem,l,P,h5,g,wY];refine fL (X9 (szN ts.sT[k].body) ts.sT[k].body (qh _) (wp _ (qq g)).small 0 U.mu T _ R (by rw[qZ];omega)) (fun r J j=>?_) (fun r J j=>?_)
  .obtain ⟨t,e,a1,_⟩:=j
   cases e;simp[go_sem,l,P,w1];exact⟨g,aK ⟨zS1 l,zSi,by rw[a0,<-zL];simpa[go_sem] using a1⟩⟩
  .obtain ⟨t,e,_⟩:=j
   cases e
 .have a2:k=ts.sT.length:=by omega
  subst a2;rw[zi]at R;simp[go_sem,l,P,h5];exact rdNm R
def inL(nm:tV)(l:List tV):Bool:=l.any fun x=>decide (x=nm)
theorem Ka{nm}:inL nm l=true↔nm∈l:=by
 unfold inL;simp
theorem qbP{nm}(h:¬nm∈l):inL nm l=false:=by
 grind [inL,absurd,Ka]
theorem hasU(l nm)(R:l.length<=1000000):qd qb 246 [lNm l,aS nm] (aB (inL nm l)):=by
 refine qSU call246 func246 rfl ?_;refine fZ l.length (fun k U=>U.tm 0=lNm l/\U.tm 1=aS nm/\U.tm 5=aI k/\∀ x,x∈l.take k->x≠nm) ?_ ?_
 .simp [go_sem, *]
 rintro k U T ⟨i,j,t,C⟩;by_cases g:k<l.length
 .have P:=zWk k
  by_cases o:l[k]=nm
  .have I:inL nm l=true:=Ka.2 (o ▸ qq g)
   rw[I];simp[go_sem,i,j,t,g,o];exact .zsc _
  .simp [go_sem,i,j,t,g,ji o,P]
   refine aK ⟨zS1 i,zS1 j,zSi,fun x p=>?_⟩;rw[uh g,qL,qO]at p;rcases p with p|rfl
   .exact C x p
   .exact o
 .have J:k=l.length:=by omega
  subst J;rw[zi]at C;have I:inL nm l=false:=qbP fun h=>C nm h rfl
  rw[I];simp[go_sem,i,j,t];exact .zsc _
theorem qnI(u:Nat)(h:u<10):ByteArray.empty.push (UInt8.ofNat ((48:Int)+(u:Int)).toNat)=yU u:=by
 unfold yU;rw[Lib.itoa_nonneg,Lib.decDigits_one h,show ((48:Int)+(u:Int)).toNat=48+u by omega];rfl
theorem qnJ(u)(h:¬u<10):yU ((u / 10:Nat):Int)++ByteArray.empty.push (UInt8.ofNat ((48:Int)+((u % 10:Nat):Int)).toNat)=yU u:=by
 unfold yU;rw[Lib.itoa_nonneg,Lib.itoa_nonneg,Lib.decDigits.eq_1 u,dif_neg h,show ((48:Int)+((u % 10:Nat):Int)).toNat=48+u % 10 by omega];apply ByteArray.ext;simp
theorem digU:∀(m u:Nat),u<=m->u<=1000000000->qd qb 245 [aI u] (aS (yU u))
 |m,u,C,I=>by
  have o:qj.wrap (48+(u:Int))=48+(u:Int):=zWr;refine qSV call245 func245 rfl ?_;by_cases h:u<10
  .have i:(u:Int)<10:=by omega
   have w2:IntKind.u8.wrap (48+(u:Int))=48+(u:Int):=IntWalk.u8_in _ ⟨zOm,zOm⟩;have g:=qnI u h;simp[go_sem,i,o,w2,g];exact .zsc _
  .have i:¬(u:Int)<10:=by omega
   have p:=digU (u / 10) (u / 10) (qh _) zOm;have g:=qnJ u h;simp[go_sem,i];refine tN zKr ?_;have t:qj.wrap ((u:Int) / 10)=((u / 10:Nat):Int):=by rw[show ((u:Int) / 10)=((u / 10:Nat):Int) from rfl];grind [zS]
   have t3:(u:Int).tmod 10=((u % 10:Nat):Int):=rfl;have w4:qj.wrap (48+((u % 10:Nat):Int))=48+((u % 10:Nat):Int):=zWr;have w5:IntKind.u8.wrap (48+((u % 10:Nat):Int))=48+((u % 10:Nat):Int):=IntWalk.u8_in _ ⟨zOm,zOm⟩;have j:=Xm ((u / 10:Nat):Int) zOm zOm;simp[go_sem,t];refine tR p (.zs .nil) ?_;have c1:((u / 10:Nat):Int)=(u:Int) / 10:=rfl;have c2:((u % 10:Nat):Int)=(u:Int) % 10:=rfl;rw[c1]at j g;rw[c2]at w4 w5 g;have l:(yU ((u:Int) / 10)).size<=9223372036854775806:=zOm;simp[go_sem,t3,w4,w5,l,g];exact .zsc _
end
end QW
namespace QX
open YS YF Y9 Y1 Y2 YX YZ YA YB P1 QD QK QW
abbrev cWk(ts:TS)(l:List tV)(s:ISt):List AV:=cTS ts++[lNm l,aI s.last,aI s.sM]
abbrev eWk(ts:TS)(l:List tV)(s:ISt):AV := .agg (cWk ts l s)
theorem qnK(ts l s):∀ c,c∈cWk ts l s->HF c:=fun c g=>by
 rcases qL.1 g with g|g
 .exact VF ts c g
 .simp only[qs,qG,or_false]at g
  rcases g with rfl|rfl|rfl
  .exact qbO l
  .exact HF.sc _
  .exact HF.sc _
theorem uT(ts l s):HF (eWk ts l s):=HF.agg (qnK ts l s)
structure Tn (l:List tV) (es:List (tV×Bool)):Prop where
 mem:∀ nm:tV,nm≠⟨#[]⟩->(nm∈l↔getK nm es=some true)
 len:es.length<=l.length+1
theorem vN_ne(k):vN k≠⟨#[]⟩:=fun e=>by
 have:=congrArg ByteArray.size e;unfold vN at this;rw[ByteArray.size_append]at this;have g:(⟨#[118]⟩:tV).size=1:=rfl;have i:(⟨#[]⟩:tV).size=0:=rfl;omega
theorem qnL{ts l es}(t:Tn l es)(k):yf ts es (vN k)=(decide ((means ts (vN k)).length=0)&&!inL (vN k) l):=by
 unfold yf;have i:=t.mem (vN k) (vN_ne k);have g:decide (means ts (vN k)=[])=decide ((means ts (vN k)).length=0):=by
  simp[List.length_eq_zero_iff]
 rw[g,Bool.and_comm];congr 1;by_cases j:vN k∈l
 .grind [Ka]
 simp_all[qbP,Bool.not_false,decide_eq_true_eq]
theorem two{J:Type}{l}{a b:J}(g:l[0]?=some a)(i:l[1]?=some b):∃ r,l=a :: b :: r:=by
 match l,g,i with
 |_ :: _ :: r,g,i =>
  grind
abbrev zWc:List AV:=[.lst true [],.lst true [],.lst true [],.lst true [],.lst true [],aI 0,aI 0]
theorem qnM(ts)(h:okTS ts)(l es)(t:Tn l es)(hl:l.length<=400000)(s:ISt)(hs:0<=s.last/\s.last+(qk ts es:Nat)<=1000000000)(a5:∃ j,1<=j/\j<=qk ts es/\yf ts es (vN (s.last+j))=true) :
  qd qb 201 [eWk ts l s] (.tup [eWk ts l ⟨zh ts es (qk ts es) s.last,s.sM⟩,aS (vN (zh ts es (qk ts es) s.last))]):=by
 have a9:=h.ns;have aa:=h.nf;have hF:qk ts es<=l.length+40:=by have:=t.len;unfold qk;omega
 have a6:okNm ts:=⟨h.sl,zOm,zOm,fun f hf=>zW1 (h.fl f hf)⟩;generalize ab:qk ts es=F at *
 generalize hR:zh ts es F s.last=R;refine qSQ call201 func201 rfl { mt:=[1] } ?_;simp[go_sem];refine tW (fun m U=>∃(i:Nat) (k:Int),i+m=F/\0<=k/\k+m<=1000000000/\U.tm 1 = .ptr 0 0/\U.tm 2 = .ptr 1 0/\U.tm 4=aI i/\U.mu[0]?=some (.arr (cWk ts l ⟨k,s.sM⟩))/\U.mu[1]?=some (.arr zWc)/\zh ts es m k=R/\∃ j:Nat,1<=j/\j<=m/\yf ts es (vN (k+j))=true) F ?_ ?_
 .exact ⟨0,s.last,zOm,hs.1,zOm,zSi,zSi,zSi,zSi,zSi,hR,a5⟩
 rintro m U ⟨i,k,ad,ae,af,J,P,e4,m0,m1,hI,j,ag,ah,ai⟩;obtain⟨m,rfl⟩:∃ m',m=m'+1:=⟨m-1,zOm⟩;obtain⟨rr,o⟩:=two m0 m1;have w1:qj.wrap (k+1)=k+1:=zWr;have w2:qj.wrap ((l.length:Int)+40)=(l.length:Int)+40:=zWr;have w3:=zWk i;have g:(i:Int)<=(l.length:Int)+40:=zOm;obtain⟨u,hu⟩:∃ u:Nat,k+1=(u:Int):=⟨(k+1).toNat,zOm⟩;have cd:=digU u u (qh _) zOm;have aj:=Xm (u:Int) zOm zOm;have a3:1+(yU (u:Int)).size<=9223372036854775807:=zOm;have hv:(⟨#[118]⟩:tV)++yU (u:Int)=vN (k+1):=by rw[hu];rfl
 have p:=qnL (ts:=ts) t (k+1);have cn:=XS ts a6 (vN (k+1));have a0:=XQ ts (vN (k+1));have hk:(named ts (vN (k+1))).2=(means ts (vN (k+1))).length:=by rw[X4 h]
 rw[hk]at cn;generalize (named ts (vN (k+1))).1=C at *
 have ch:=hasU l (vN (k+1)) zOm;clear m0 m1;simp[go_sem,J,P,e4,o,w1,w2,g];refine tR cd (.cons (by rw[hu];exact .hf (HF.sc _)) .nil) ?_;simp[go_sem,J,P,e4,o,w1,w2,g,a3,hv];refine tR cn (.zk (zl ts) (.zs .nil)) ?_;simp[go_sem,J,P,e4,o,w1,w2,g,a0.len];rw[if_pos a0.one];generalize putCells _ 0 C=PC;have next:yf ts es (vN (k+1))=false->∃ k':Int,k'=k+1/\zh ts es m k'=R/\∃ j:Nat,1<=j/\j<=m/\yf ts es (vN (k'+j))=true:=fun hn=>by
  refine⟨k+1,rfl,?_,j-1,?_,zOm,?_⟩
  .simp_all [zh,if_neg]
  .have:j≠1:=fun e=>by grind
   omega
  grind
 by_cases T:means ts (vN (k+1))=[]
 .rw [T]at p
  simp[go_sem,J,P,e4,o,w1,w2,g,T];refine tR ch (.zk (qbO l) (.zs .nil)) ?_;cases a4:inL (vN (k+1)) l with
  |true =>
   rw[a4]at p;obtain⟨k',I,a1,a2⟩:=next p;simp[go_sem,J,P,e4,o,w1,w2,w3,g];exact⟨m,zOm,aK ⟨i+1,k+1,zOm,zOm,zOm,zS1 J,zS1 P,zSi,zSi,zSi,by rw[<-I];exact a1,by rw[<-I];exact a2⟩⟩
  |false =>
   rw[a4]at p;have a7:R=k+1:=by rw[<-hI];simp only[zh];rw[if_pos (by rw[p];rfl)]
   simp[go_sem,J,P,e4,o,w1,w2,g];rw[a7];exact .hf _ (HF.tup fun x hx=>by
    simp only[qs,qG,or_false]at hx;rcases hx with rfl|rfl
    .exact uT ts l ⟨k+1,s.sM⟩
    .exact HF.sc _)
 .have a8:¬(means ts (vN (k+1))).length=0:=fun e=>T (List.length_eq_zero_iff.1 e)
  rw[decide_eq_false a8]at p;obtain⟨k',I,a1,a2⟩:=next p;simp[go_sem,J,P,e4,o,w1,w2,w3,g,T];exact⟨m,zOm,aK ⟨i+1,k+1,zOm,zOm,zOm,zS1 J,zS1 P,zSi,zSi,zSi,by rw[<-I];exact a1,by rw[<-I];exact a2⟩⟩
abbrev Sb:=tV×IV
def cAr:Option Nd->List AV
 |some a=>cNd a
 |none=>[aI 0,aS ⟨#[]⟩,aI 0,.lst true [],aI 0]
@[go_sem] theorem cAr_some(a):cAr (some a)=cNd a:=rfl
@[go_sem] theorem cAr_none:cAr none=[aI 0,aS ⟨#[]⟩,aI 0,.lst true [],aI 0]:=rfl
@[go_sem] theorem qnN(o):(cAr o).length=5:=by cases o<;>simp[go_sem,yw]
theorem qnO(o):∀ c,c∈cAr o->HF c:=by
 cases o with
 |some a=>exact yK a
 |none =>
  intro c g;simp only[cAr,qs,qG,or_false]at g;rcases g with rfl|rfl|rfl|rfl|rfl
  .exact HF.sc _
  .exact HF.sc _
  .exact HF.sc _
  .exact HF.lst fun r i=>absurd i qG
  .exact HF.sc _
abbrev cSb(x:Sb):List AV:=[aS x.1,aS x.2.name,aB x.2.arg.isSome]++cAr x.2.arg++[aI x.2.size]
abbrev lSb(l:List Sb):AV := .lst false (l.map cSb)
def ug(nm:tV)(l:List Sb):Option IV:=l.foldl (fun r e=>if e.1=nm then some e.2 else r) none
theorem Us(nm l e):ug nm (l++[e])=if e.1=nm then some e.2 else ug nm l:=by
 unfold ug;rw[List.foldl_append];rfl
theorem Kb{mu}(ts l s n z):Rd mu (.tup [eWk ts l s,eNd n,aI z]) (.tup [eWk ts l s,eNd n,aI z]) := .hf _ (HF.tup fun x g=>by
 simp only[qs,qG,or_false]at g;rcases g with rfl|rfl|rfl
 .exact uT ts l s
 .exact qz n
 .exact HF.sc _)
def wJ(sc:List Sb)(n:Nd)(s:ISt):(Nd×Int)×ISt:=match ug n.name sc with
 |none=>((n,1),s)
 |some v=>match v.arg with
  |none=>((.mk n.op v.name n.n n.sD n.pos,1),s)
  |some a=>((a,v.size),payS v.size s)
theorem leafU(ts l sc)(hl:sc.length<=1000000)(n s)(hs:0<=s.sM/\s.sM<=1000000)(hz:∀ e,e∈sc->0<=e.2.size/\e.2.size<=1000000) :
  qd qb 198 [eWk ts l s,lSb sc,eNd n] (.tup [eWk ts l (wJ sc n s).2,eNd (wJ sc n s).1.1,aI (wJ sc n s).1.2]):=by
 unfold wJ;generalize hR:ug n.name sc=R;have wl:qj.wrap ((sc.length:Int)-1)=(sc.length:Int)-1:=zWr;refine qSQ call198 func198 rfl { mt:=[3,5] } ?_;simp[go_sem,wl,qS];refine tW (fun m U=>m<=sc.length/\U.tm 1=lSb sc/\U.tm 3 = .ptr 0 0/\U.tm 5 = .ptr 1 0/\U.tm 6 = .ptr 2 0/\U.tm 7 = .ptr 3 0/\U.tm 9=aI ((m:Int)-1)/\U.mu=[.arr (cWk ts l s),.arr (cNd n),.arr zWc,.arr [aI 0,aS ⟨#[]⟩,aI 0,.lst true [],aI 0]]/\ug n.name (sc.take m)=R) sc.length ?_ ?_
 .simp [go_sem, *]
 rintro m U ⟨a2,j,o,p,t,e7,C,I,P⟩;cases m with
 |zero =>
  have a1:R=none:=by rw[<-P];rfl
  subst a1;simp[go_sem,j,o,p,t,e7,C,I,qS];refine fG [0,1,4,2,3] [(0,0,[]),(1,0,[]),(4,0,[]),(2,1,[1]),(3,1,[])] zKr zKr zSi ?_;simp[go_sem,j,o,p,t,e7,C,I,qS]
  grind [Kb]
 |succ m =>
  have g:m<sc.length:=zOm;have a3:(0:Int)<=((m+1:Nat):Int)-1:=zOm;have T:((m+1:Nat):Int)-1=(m:Int):=zOm;rw[T]at C;rw[uh g,Us]at P;have w1:qj.wrap ((m:Int)-1)=(m:Int)-1:=zWr;have a4:=hz _ (qq g);generalize i:sc[m]=e at *
  by_cases J:e.1=n.name
  .rw [if_pos J]at P
   subst P;have w2:qj.wrap (s.sM+e.2.size)=s.sM+e.2.size:=zWr;simp[go_sem,j,o,p,t,e7,C,I,qS,g];refine tN zKr ?_;simp[go_sem,j,o,p,t,e7,C,I,qS,g,i,J];cases ha:e.2.arg with
   |none =>
    simp[go_sem,j,o,p,t,e7,C,I,qS,g,i,J,ha];refine fG [0,1,4,2,3] [(0,0,[]),(1,0,[]),(4,0,[]),(2,1,[1]),(3,1,[])] zKr zKr zSi ?_;have a0:(cNd n).set 1 (AV.sc (.string e.2.name))=cNd (.mk n.op e.2.name n.n n.sD n.pos):=by rw[yw n,yw];rfl
    rw[a0];simp[go_sem,j,o,p,t,e7,C,I,qS]
    grind [Kb]
   |some a =>
    simp[go_sem,j,o,p,t,e7,C,I,qS,g,i,J,ha];refine fG [0,1,2,3,4,5,6,7,8,9] [(0,0,[]),(1,0,[]),(2,0,[]),(3,0,[]),(4,0,[]),(5,0,[]),(6,0,[]),(7,0,[]),(8,0,[]),(9,1,[])] zKr zKr zSi ?_;simp[go_sem,j,o,p,t,e7,C,I,qS,g,i,J,ha,w2];refine fG [0,1,2,3,4,5,6,7,8,9,10,13,11,12] [(0,0,[]),(1,0,[]),(2,0,[]),(3,0,[]),(4,0,[]),(5,0,[]),(6,0,[]),(7,0,[]),(8,0,[]),(9,0,[]),(10,0,[]),(13,0,[]),(11,1,[5,10]),(12,1,[10])] zKr zKr zSi ?_;simp[go_sem,j,o,p,t,e7,C,I,qS,g,i,J,ha,w2]
    grind [Kb,payS]
  .rw [if_neg J]at P
   simp[go_sem,j,o,p,t,e7,C,I,qS,g];refine tN zKr ?_;simp[go_sem,j,o,p,t,e7,C,I,qS,g,i,ji J,w1];exact⟨m,zOm,aK ⟨zOm,zS1 j,zS1 o,zS1 p,zS1 t,by simp[go_sem,e7],zSi,zS1 I,P⟩⟩
theorem Kc:∀ m n,szN n<=m->Small n->depN n<=1000000->qd qb 139 [eNd n] (aI (depN n))
 | 0,n,P,_,_=>by obtain⟨op,nm,i,ks,p⟩:=n;simp[szN]at P
 |m+1,n,P,R,T=>by
  have ih:∀ k,k∈n.sD->qd qb 139 [eNd k] (aI (depN k)):=fun k j =>
   Kc m k (zW1 (q9 j)) (R.kid j) (by rw[Qf]at T;have:=ml j;omega)
  rw[Qf]at T⊢;have a0:=R.len;have a1:=V2 n.sD;generalize hD:zW n.sD=D at *
  refine qSU call139 func139 rfl ?_;refine fZ n.sD.length (fun k U=>∃ d,U.tm 3=aI d/\U.tm 1 = .ip (cNd n)/\U.tm 4=aI k/\0<=d/\max d (zW (n.sD.drop k))=D) ?_ ?_
  .exact ⟨0,zSi,zSi,zSi,zOm,by grind⟩
  .rintro k U j ⟨d,t,l,C,a2,o⟩
   by_cases I:k=n.sD.length
   .subst I
    rw[zF]at o;simp only[zW]at o;have J:d=D:=zOm;subst J;have w:qj.wrap (d+1)=d+1:=zWr;simp[go_sem,t,l,C,w];exact .zsc _
   .have g:k<n.sD.length:=by omega
    have w1:=zWk k;rw[qY g]at o;simp only[zW]at o;simp[go_sem,t,l,C,g,qS];refine tR (ih n.sD[k] (qq g)) (.zk (qz _) .nil) ?_;simp[go_sem,t,l,C,w1];refine⟨g,aK ?_⟩;refine⟨if d<depN n.sD[k] then depN n.sD[k] else d,zSi,zS1 l,zSi,?_,?_⟩
    .omega
    omega
end QX
namespace FE
open Y1 Y9
def zQ(op a s:Int)(i:Nat)(k:Int):Int:=if op=48\/op=49\/op=51 then k*s else if i=1/\(op=45\/op=46\/op=15) then k*a else k
def minW(v:Int):Int:=if 1000000<v then 1000000 else v
mutual
def wkN(a s:Int):Nd->Int
 | .mk op _ _ ks _=>wkNs a s op 0 ks 1
def wkNs(a s op:Int):Nat->List Nd->Int->Int
 |_,[],sum=>sum
 |i,k :: ks,sum=>wkNs a s op (i+1) ks (minW (sum+zQ op a s i (wkN a s k)))
end
theorem qnP(a s n):wkN a s n=wkNs a s n.op 0 n.sD 1:=by
 obtain⟨op,nm,i,ks,q⟩:=n;rw[wkN];rfl
theorem qbQ{op a s i k}(j:0<=a/\a<=100)(l:0<=s/\s<=100)(g:0<=k/\k<=1000000):0<=zQ op a s i k/\zQ op a s i k<=100000000:=by
 unfold zQ;have o:=Int.mul_nonneg g.1 j.1;have p:=Int.mul_nonneg g.1 l.1;have t:k*a<=1000000*100:=yX g.2 j.2 j.1 zOm;have C:k*s<=1000000*100:=yX g.2 l.2 l.1 zOm;split
 .omega
 omega
theorem qbR{v}(h:0<=v):0<=minW v/\minW v<=1000000:=by unfold minW;split<;>omega
mutual
theorem qbS(a s:Int)(g:0<=a/\a<=100)(i:0<=s/\s<=100):∀ n:Nd,0<=wkN a s n/\wkN a s n<=1000000
 | .mk op _ _ ks _=>by rw[wkN];exact qbT a s g i op ks 0 1 zOm
theorem qbT(a s:Int)(g:0<=a/\a<=100)(j:0<=s/\s<=100)(op:Int):∀(ks:List Nd)(i:Nat)(sum:Int),0<=sum/\sum<=1000000->0<=wkNs a s op i ks sum/\wkNs a s op i ks sum<=1000000
 | [],_,sum,h=>by rw[wkNs];exact h
 |k :: ks,i,sum,h=>by
  rw[wkNs];have l:=qbS a s g j k;have o:=qbQ (op:=op) (i:=i) g j l;exact qbT a s g j op ks (i+1) _ (qbR zOm)
end
theorem Ke(a s)(ha:0<=a/\a<=100)(hs:0<=s/\s<=100):∀ m n,szN n<=m->Small n->qd qb 35 [eNd n,aI a,aI s] (aI (wkN a s n))
 | 0,n,hm,_=>by obtain⟨op,nm,i,ks,p⟩:=n;simp[szN]at hm
 |m+1,n,hm,a7=>by
  have ih:∀ k,k∈n.sD->qd qb 35 [eNd k,aI a,aI s] (aI (wkN a s k)):=fun k hk=>Ke a s ha hs m k (zW1 (q9 hk)) (a7.kid hk)
  rw[qnP];have a9:=a7.len;generalize hR:wkNs a s n.op 0 n.sD 1=R;refine qSU call35 func35 rfl ?_;refine fZ n.sD.length (fun k U=>∃ sum:Int,U.tm 1=aI a/\U.tm 2=aI s/\U.tm 3 = .ip (cNd n)/\U.tm 7=aI sum/\U.tm 8=aI k/\(0<=sum/\sum<=1000000)/\wkNs a s n.op k (n.sD.drop k) sum=R) ?_ ?_
  .simp [go_sem, *]
  .rintro k U hk ⟨sum,t,C,I,e7,e8,aa,o⟩
   by_cases a8:k=n.sD.length
   .subst a8
    rw[zF,wkNs]at o;subst o;simp[go_sem,t,C,I,e7,e8];exact .zsc _
   .have l:k<n.sD.length:=by omega
    rw[qY l,wkNs]at o;have w1:=zWk k;have a3:=qbS a s ha hs n.sD[k];have ab:=qbQ (op:=n.op) (i:=k) ha hs a3;have j:=qbR (v:=sum+zQ n.op a s k (wkN a s n.sD[k])) zOm;have m1:=Int.mul_nonneg a3.1 ha.1;have m2:=Int.mul_nonneg a3.1 hs.1;have m3:wkN a s n.sD[k] * a<=1000000*100:=yX a3.2 ha.2 ha.1 zOm;have m4:wkN a s n.sD[k] * s<=1000000*100:=yX a3.2 hs.2 hs.1 zOm;simp[go_sem,t,C,I,e7,e8,l,qS];refine tR (ih n.sD[k] (qq l)) (.zk (qz _) (.zs (.zs .nil))) ?_;generalize wkN a s n.sD[k]=K at *
    by_cases J:k=1
    .have g:(k:Int)=1:=by omega
     by_cases a0:n.op=48
     .have P:zQ n.op a s k K=K*s:=by simp[zQ,a0,J,g]
      rw[P]at o j;have w2:qj.wrap (K*s)=K*s:=zWr;have T:qj.wrap (sum+K*s)=sum+K*s:=zWr;simp[go_sem,t,C,I,e7,e8,w1,w2,T,l,a0,eq_true J,eq_true g];simp_all[go_sem,aK,minW]
     by_cases a1:n.op=49
     .have P:zQ n.op a s k K=K*s:=by simp[zQ,a1,J,g]
      rw[P]at o j;have w2:qj.wrap (K*s)=K*s:=zWr;have T:qj.wrap (sum+K*s)=sum+K*s:=zWr;simp[go_sem,t,C,I,e7,e8,w1,w2,T,l,a1,eq_true J,eq_true g];exact aK ⟨_,zS1 t,zS1 C,zS1 I,by simp[go_sem,minW],zSi,j,o⟩
     by_cases a2:n.op=51
     .have P:zQ n.op a s k K=K*s:=by simp[zQ,a2,J,g]
      rw[P]at o j;have w2:qj.wrap (K*s)=K*s:=zWr;have T:qj.wrap (sum+K*s)=sum+K*s:=zWr;simp[go_sem,t,C,I,e7,e8,w1,w2,T,l,a2,eq_true J,eq_true g];exact aK ⟨_,zS1 t,zS1 C,zS1 I,by simp[go_sem,minW],zSi,j,o⟩
     by_cases a4:n.op=45
     .have P:zQ n.op a s k K=K*a:=by simp[zQ,a4,J,g]
      rw[P]at o j;have w2:qj.wrap (K*a)=K*a:=zWr;have T:qj.wrap (sum+K*a)=sum+K*a:=zWr;simp[go_sem,t,C,I,e7,e8,w1,w2,T,l,a4,eq_true J,eq_true g];exact aK ⟨_,zS1 t,zS1 C,zS1 I,by simp[go_sem,minW],zSi,j,o⟩
     by_cases a5:n.op=46
     .have P:zQ n.op a s k K=K*a:=by simp[zQ,a5,J,g]
      rw[P]at o j;have w2:qj.wrap (K*a)=K*a:=zWr;have T:qj.wrap (sum+K*a)=sum+K*a:=zWr;simp[go_sem,t,C,I,e7,e8,w1,w2,T,l,a5,eq_true J,eq_true g];exact aK ⟨_,zS1 t,zS1 C,zS1 I,by simp[go_sem,minW],zSi,j,o⟩
     by_cases a6:n.op=15
     .have P:zQ n.op a s k K=K*a:=by simp[zQ,a6,J,g]
      rw[P]at o j;have w2:qj.wrap (K*a)=K*a:=zWr;have T:qj.wrap (sum+K*a)=sum+K*a:=zWr;simp[go_sem,t,C,I,e7,e8,w1,w2,T,l,a6,eq_true J,eq_true g];exact aK ⟨_,zS1 t,zS1 C,zS1 I,by simp[go_sem,minW],zSi,j,o⟩
     have P:zQ n.op a s k K=K:=by simp[zQ,a0,a1,a2,a4,a5,a6,J,g]
     rw[P]at o j;have w2:=w1;have T:qj.wrap (sum+K)=sum+K:=zWr;simp[go_sem,t,C,I,e7,e8,w1,w2,T,l,a0,a1,a2,a4,a5,a6,eq_true J,eq_true g];simp_all[go_sem,aK,minW]
    .have g:¬(k:Int)=1:=by omega
     by_cases a0:n.op=48
     .have P:zQ n.op a s k K=K*s:=by simp[zQ,a0,J,g]
      rw[P]at o j;have w2:qj.wrap (K*s)=K*s:=zWr;have T:qj.wrap (sum+K*s)=sum+K*s:=zWr;simp[go_sem,t,C,I,e7,e8,w1,w2,T,l,a0,J,g];exact aK ⟨_,zS1 t,zS1 C,zS1 I,by simp[go_sem,minW],zSi,j,o⟩
     by_cases a1:n.op=49
     .have P:zQ n.op a s k K=K*s:=by simp[zQ,a1,J,g]
      rw[P]at o j;have w2:qj.wrap (K*s)=K*s:=zWr;have T:qj.wrap (sum+K*s)=sum+K*s:=zWr;simp[go_sem,t,C,I,e7,e8,w1,w2,T,l,a1,J,g];exact aK ⟨_,zS1 t,zS1 C,zS1 I,by simp[go_sem,minW],zSi,j,o⟩
     by_cases a2:n.op=51
     .have P:zQ n.op a s k K=K*s:=by simp[zQ,a2,J,g]
      rw[P]at o j;have w2:qj.wrap (K*s)=K*s:=zWr;have T:qj.wrap (sum+K*s)=sum+K*s:=zWr;simp[go_sem,t,C,I,e7,e8,w1,w2,T,l,a2,J,g];exact aK ⟨_,zS1 t,zS1 C,zS1 I,by simp[go_sem,minW],zSi,j,o⟩
     have P:zQ n.op a s k K=K:=by simp[zQ,a0,a1,a2,J,g]
     rw[P]at o j;have w2:=w1;have T:qj.wrap (sum+K)=sum+K:=zWr;simp[go_sem,t,C,I,e7,e8,w1,w2,T,l,a0,a1,a2,J,g];exact aK ⟨_,zS1 t,zS1 C,zS1 I,by simp[go_sem,minW],zSi,j,o⟩
end FE
set_option maxHeartbeats 1000000
namespace OI
open Y1 Y9 E1 E4 GF Q4
def RlOk(r:Rl):Prop:=r.ts.length<=1000000/\zr r.ts
def BdOk(b:Bd):Prop:=RlOk b.lo/\RlOk b.up
def insB(a b:Bd):Bool:=decide (a.lo.ar=b.lo.ar)&&(inOk b.lo a.lo&&inOk a.up b.up)
theorem qbU(a b)(i:BdOk a)(j:BdOk b):qd qb 27 [eBd a,eBd b] (aB (insB a b)):=by
 obtain⟨⟨t,l⟩,C,I⟩:=i;obtain⟨⟨J,P⟩,R,o⟩:=j;have c1:=in06 b.lo a.lo zOm zOm l;have c2:=in06 a.up b.up zOm zOm o;refine qSV call27 func27 rfl ?_;unfold insB;by_cases h:a.lo.ar=b.lo.ar
 .obtain ⟨⟨p,g⟩,T⟩:=a
  simp only at h c1 c2⊢;subst h;simp[go_sem];refine tR c1 (.zk (qt _) (.zk (qt ⟨b.lo.ar,g⟩) .nil)) ?_;cases inOk b.lo ⟨b.lo.ar,g⟩ with
  |true =>
   simp[go_sem];refine fB c2 (.zk (qt _) (.zk (qt _) .nil)) ?_;exact .zsc _
  |false =>
   simp[go_sem];exact .zsc _
 .simp [go_sem,h]
  exact .zsc _
def tigB(a b:List Bd):Bool:=decide (a.length=b.length)&&((a.zip b).all fun p=>insB p.1 p.2)
theorem qnQ(a b)(hl:a.length<=1000000)(T:∀ x,x∈a->BdOk x)(hb:∀ x,x∈b->BdOk x):qd qb 20 [lBd a,lBd b] (aB (tigB a b)):=by
 refine qSV call20 func20 rfl ?_;by_cases h:a.length=b.length
 .have C:tigB a b=((a.zip b).all fun p=>insB p.1 p.2):=by unfold tigB;simp[h]
  rw[C];generalize I:((a.zip b).all fun p=>insB p.1 p.2)=R;simp[go_sem,h];refine fZ a.length (fun k U=>U.tm 0=lBd a/\U.tm 1=lBd b/\U.tm 5=aI k/\(((a.drop k).zip (b.drop k)).all fun p=>insB p.1 p.2)=R) ?_ ?_
  .exact ⟨zSi,zSi,zSi,zUs I⟩
  rintro k U hk ⟨l,o,t,i⟩;by_cases j:k<a.length
  .have g:k<b.length:=by omega
   have w1:=zWk k;rw[qY j,qY g]at i;simp only[List.zip_cons_cons,List.all_cons]at i;have c:=qbU a[k] b[k] (T _ (qq j)) (hb _ (qq g));simp[go_sem,l,o,t,h,g];refine fG [0,1,2,3,4,5,6,7,8,9] [(0,0,[]),(1,0,[]),(2,0,[]),(3,0,[]),(4,0,[]),(5,0,[]),(6,0,[]),(7,0,[]),(8,1,[]),(9,0,[])] zKr zKr zSi ?_;simp[go_sem,l,o,t,j,g];refine tR c (.zk (zJ _) (.zk (zJ _) .nil)) ?_;cases P:insB a[k] b[k] with
   |true =>
    rw[P,Bool.true_and]at i;simp[go_sem,l,o,t,w1];refine⟨g,aK ?_⟩;exact⟨zS1 l,zS1 o,zSi,i⟩
   |false =>
    rw[P,Bool.false_and]at i;subst i;simp[go_sem];exact .zsc _
  .have J:k=a.length:=by omega
   subst J;rw[zF]at i;simp at i;subst i;simp[go_sem,l,t,h];exact .zsc _
 .have C:tigB a b=false:=by unfold tigB;simp[h]
  rw[C];simp[go_sem,h];exact .zsc _
theorem qbV(a b)(hl:a.length<=1000000)(P:∀ x,x∈a->x.lo.ts.length<=1000000/\x.up.ts.length<=1000000):qd qb 18 [lBd a,lBd b] (aB (decide (a=b))):=by
 refine qSV call18 func18 rfl ?_;by_cases h:a.length=b.length
 .generalize I:decide (a=b)=R
  simp[go_sem,h];refine fZ a.length (fun k U=>U.tm 0=lBd a/\U.tm 1=lBd b/\U.tm 5=aI k/\decide (a.drop k=b.drop k)=R) ?_ ?_
  .exact ⟨zSi,zSi,zSi,zUs I⟩
  rintro k U hk ⟨l,o,p,j⟩;by_cases i:k<a.length
  .have g:k<b.length:=by omega
   have T:=zWk k;have hA:=P _ (qq i);rw[qY i,qY g]at j;have c1:=gE a[k].lo b[k].lo zOm;have c2:=gE a[k].up b[k].up zOm;simp[go_sem,l,o,p,h,g];refine fG [0,1,2,3,4,5,6,7,8,9,10,11,12,13,14,15,16,17,18,19,20,21,22,23,24,25] [(0,0,[]),(1,0,[]),(2,0,[]),(3,0,[]),(4,0,[]),(5,0,[]),(6,0,[]),(7,0,[]),(8,0,[]),(9,0,[]),(10,1,[]),(11,0,[]),(12,0,[]),(13,0,[]),(14,0,[]),(15,0,[]),(16,0,[]),(17,0,[]),(18,0,[]),(19,0,[]),(20,0,[]),(21,0,[]),(22,0,[]),(23,1,[]),(24,0,[]),(25,0,[])] zKr zKr zSi ?_;simp[go_sem,l,o,p,i,g];refine tR c1 (.zk (qt _) (.zk (qt _) .nil)) ?_;by_cases g1:a[k].lo=b[k].lo
   .simp [go_sem,l,o,p,i,g,g1]
    refine tR c2 (.zk (qt _) (.zk (qt _) .nil)) ?_;by_cases t:a[k].up=b[k].up
    .have g3:a[k]=b[k]:=by
      generalize a[k]=x at *
      generalize b[k]=y at *
      cases x;cases y;simp only at g1 t;rw[g1,t]
     rw[g3]at j;simp[go_sem,l,o,p,T,t];refine⟨g,aK ?_⟩;exact⟨zS1 l,zS1 o,zSi,by rw[<-j];exact decide_eq_decide.2 ⟨fun e=>by rw[e],fun e=>(List.cons.inj e).2⟩⟩
    .have C:R=false:=by
      rw[<-j,decide_eq_false_iff_not];intro e;rw[vK]at e;exact t (by rw[e.1])
     subst C;simp[go_sem,t];exact .zsc _
   .have C:R=false:=by
     rw[<-j,decide_eq_false_iff_not];intro e;rw[vK]at e;exact g1 (by rw[e.1])
    simp[go_sem,l,o,p,i,g,g1];rw[C];exact .zsc _
  .have J:k=a.length:=by omega
   subst J;rw[zF,List.drop_of_length_le zOm]at j;simp at j;subst j;simp[go_sem,l,p,h];exact .zsc _
 .have C:decide (a=b)=false:=by
   rw[decide_eq_false_iff_not];intro e;exact h (by rw[e])
  rw[C];simp[go_sem,h];exact .zsc _
theorem qbW:∀ m n,szN n<=m->∀ left,-1000000<=left/\left<=1000000->qd qb 126 [eNd n,aI left] (aI (cntN n left))
 | 0,n,P,_,_=>by obtain⟨op,nm,i,ks,p⟩:=n;simp[szN]at P
 |m+1,n,P,left,hl=>by
  have ih:∀ k,k∈n.sD->∀ left:Int,-1000000<=left/\left<=1000000->qd qb 126 [eNd k,aI left] (aI (cntN k left)):=fun k T =>
   qbW m k (zW1 (q9 T))
  rw[W8];generalize hR:ya n.sD left 1=R;refine qSU call126 func126 rfl ?_;refine fZ n.sD.length (fun k U=>∃ sum:Int,U.tm 1=aI left/\U.tm 2 = .ip (cNd n)/\U.tm 5=aI sum/\U.tm 6=aI k/\(k:Int)+1<=sum/\(sum<=left+1\/sum=1)/\ya (n.sD.drop k) left sum=R) ?_ ?_
  .exact ⟨1,zSi,zSi,zSi,zSi,zOm,zOm,zUs hR⟩
  .rintro k U T ⟨sum,l,o,t,C,a0,a1,j⟩
   by_cases J:k=n.sD.length
   .subst J
    rw[zF]at j;simp only[ya]at j;subst j;simp[go_sem,l,o,t,C];exact .zsc _
   .have g:k<n.sD.length:=by omega
    rw[qY g]at j;simp only[ya]at j;by_cases I:sum<=left
    .rw [if_pos I]at j
     have w1:=zWk k;have w2:qj.wrap (left-sum)=left-sum:=zWr;have a2:=VV n.sD[k] (left-sum);have w3:qj.wrap (sum+cntN n.sD[k] (left-sum))=sum+cntN n.sD[k] (left-sum):=zWr;simp[go_sem,l,o,t,C,g,I,w2,qS];refine tR (ih n.sD[k] (qq g) (left-sum) ⟨zOm,zOm⟩) (.zk (qz _) (.zs .nil)) ?_;simp[go_sem,l,o,t,C,w1,w3];refine⟨g,aK ?_⟩;exact⟨sum+cntN n.sD[k] (left-sum),zS1 l,zS1 o,zSi,zSi,zOm,zOm,j⟩
    .rw [if_neg I]at j
     subst j;simp[go_sem,l,o,t,C,g,I];exact .zsc _
theorem qnR(n left)(g : -1000000<=left/\left<=1000000):qd qb 60 [eNd n,aI left] (aB (decide (cntN n left<=left))):=by
 refine qSU call60 func60 rfl ?_;refine fB (qbW _ n (qh _) left g) (.zk (qz _) (.zs .nil)) ?_;exact .zsc _
end OI
namespace E6
end E6
namespace ED
end ED
namespace EG
end EG
namespace EH
end EH
namespace FJ
end FJ
namespace IA
end IA
namespace QY
open Y1 YX YA YB YC P1 P2 PA QE QX
section
variable {es:List (tV×Bool)}
structure ScOf (ts:TS) (body:Bool) (sc:List Sb) (env:IEnv):Prop where
 look:∀ nm,ug nm sc=getK nm env
 own:body=false->∀ nm v,getK nm env=some v->means ts nm≠[]
 sz:∀ e,e∈sc->0<=e.2.size/\e.2.size<=4000
def OutR(r:XR (Nd×Int))(s':ISt)(n':Nd)(z:Int):Prop:=match r with
 | .ok ((m,y),t)=>n'=m/\z=y/\s'=t
 | .error _=>4000<s'.sM/\s'.sM<=9000/\0<=z/\z<=4000
def renR(ts:TS)(es:List (tV×Bool))(sc:List Sb)(nm:tV)(body:Bool)(s:ISt):(List Sb×tV)×ISt:=
 if body=true\/means ts nm≠[] then
  ((sc++[(nm,⟨none,0,vN (zh ts es (qk ts es) s.last)⟩)],vN (zh ts es (qk ts es) s.last)),⟨zh ts es (qk ts es) s.last,s.sM⟩)
 else ((sc,nm),s)
abbrev XO:=ISt×Nd×Int
def vp(E:Nd->ISt->XO):List (tV×Int)->List Nd->List Sb->ISt->Except ISt (List Sb×ISt)
 |p :: g,k :: ks,own,s=>if 4000<(E k s).1.sM then .error (E k s).1 else vp E g ks (own++[(p.1,⟨some (E k s).2.1,(E k s).2.2,⟨#[]⟩⟩)]) (E k s).1
 |_,_,own,s => .ok (own,s)
def vF(E:List Sb->Nd->ISt->XO)(R:List Sb->tV->ISt->(List Sb×tV)×ISt)(bin:Bool):Nat->List Sb->tV->List Nd->ISt->Except ISt ((tV×List Nd×Int)×ISt)
 |_,_,nm,[],s => .ok ((nm,[],0),s)
 |i,sc,nm,k :: ks,s =>
  let r:=if bin=true/\i=1 then R sc nm s else ((sc,nm),s)
  let q:=E r.1.1 k r.2
  if 4000<q.1.sM then .error q.1 else match vF E R bin (i+1) r.1.1 r.1.2 ks q.1 with
   | .error e => .error e
   | .ok ((g,j,o),l) => .ok ((g,q.2.1 :: j,q.2.2+o),l)
def expR(ts:TS)(es:List (tV×Bool)):Nat->List Sb->Nd->Bool->ISt->XO
 | 0,_,n,_,s=>(s,n,0)
 |f+1,sc,n,g,s =>
  if s.sM+1<=4000 then
   if n.op=1 then ((wJ sc n (payS 1 s)).2,(wJ sc n (payS 1 s)).1.1,(wJ sc n (payS 1 s)).1.2)
   else if n.op=47 then match ts.sT.find? fun p=>decide (p.name=n.name) with
    |none=>(payS 1 s,n,1)
    |some p=>match vp (fun k s=>expR ts es f sc k g s) p.params n.sD [] (payS 1 s) with
     | .error i=>(i,nd0,0)
     | .ok (own,i)=>expR ts es f own p.body true i
   else match vF (fun sc k s=>expR ts es f sc k g s) (fun sc nm s=>renR ts es sc nm g s) (binB n.op) 0 sc n.name n.sD (payS 1 s) with
    | .error i=>(i,nd0,0)
    | .ok ((nm,ks,m),i)=>(i,.mk n.op nm n.n ks n.pos,1+m)
  else (payS 1 s,nd0,0)
theorem Ut{F s s' z}(g:Gos F s s' z)(h:StOk F s):StOk F s'/\s.sM<=s'.sM/\z<=4000:=⟨g.ok h,zW2 g.cz g.z0,by have:=g.cz;have:=g.c1;have:=h.c0;omega⟩
theorem qbX{F f:Nat}{E E'}:∀ ps ks own i s,
  (∀ k,k∈ks->∀ s,StOk F s->4000<s.sM+(f:Int)->OutR (E k s) (E' k s).1 (E' k s).2.1 (E' k s).2.2)->(∀ k n' z s s',k∈ks->StOk F s->E k s = .ok ((n',z),s')->Gos F s s' z) ->
  StOk F s->4000<s.sM+(f:Int)->ze own->(∀ nm,ug nm i=getK nm own)->(∀ e,e∈i->0<=e.2.size/\e.2.size<=4000) ->
  match yP E ps ks own s with
  | .error _=>∃ t,vp E' ps ks i s = .error t/\4000<t.sM/\t.sM<=9000
  | .ok (l,s')=>∃ j,vp E' ps ks i s = .ok (j,s')/\ze l/\(∀ nm,ug nm j=getK nm l)/\(∀ e,e∈j->0<=e.2.size/\e.2.size<=4000)/\StOk F s'/\s.sM<=s'.sM
 | [],ks,own,i,s,_,_,o,_,J,P,R=>by simp only[yP,vp];exact⟨i,rfl,J,P,R,o,jO _⟩
 |p :: ps,[],own,i,s,_,_,o,_,J,P,R=>by simp only[yP,vp];exact⟨i,rfl,J,P,R,o,jO _⟩
 |p :: ps,k :: ks,own,i,s,hE,hG,o,hf,J,P,R=>by
  simp only[yP,vp];have C:=hE k (qX ..) s o hf;have h2:=fun n' z s'=>hG k n' z s s' (qX ..) o
  generalize E' k s=Q at *
  cases T:E k s with
  |error d =>
   rw[T]at C;simp only;rw[if_pos C.1];exact⟨_,rfl,C.1,C.2.1⟩
  |ok r =>
   obtain⟨⟨m,y⟩,t⟩:=r;rw[T]at C;obtain⟨e1,e2,e3⟩:=C;have g:=h2 m y t T;obtain⟨g1,g2,g3⟩:=Ut g o;have hc:=g.c1;simp only;rw[if_neg (by rw[e3];omega),e1,e2,e3];have ih:=qbX (F:=F) (f:=f) ps ks (setK p.1 ⟨some m,y,⟨#[]⟩⟩ own) (i++[(p.1,⟨some m,y,⟨#[]⟩⟩)]) t (fun k U=>hE k (qP _ U)) (fun k n' z s s' U=>hG k n' z s s' (qP _ U)) g1 zOm (J.set ⟨g.z0,g3⟩) (fun nm=>by
    rw[Us,jw,P];by_cases e:p.1=nm
    .grind
    .rw [if_neg e,if_neg fun x=>e x.symm]) (fun e I=>by
    rcases qL.1 I with I|I
    .exact R e I
    .rw [qO]at I;subst I;exact⟨g.z0,g3⟩)
   grind
theorem qbY{ts env sc nm body s}(j:ze env)(h:ScOf ts body sc env) :
  ScOf ts body (renR ts es sc nm body s).1.1 (renI ts es env nm body s).1.1/\(renR ts es sc nm body s).1.2=(renI ts es env nm body s).1.2/\(renR ts es sc nm body s).2=(renI ts es env nm body s).2:=by
 unfold renR renI;by_cases l:body=true\/means ts nm≠[]
 .rw [if_pos l,if_pos l]
  refine⟨⟨fun x=>?_,fun i x v g=>?_,fun e o=>?_⟩,rfl,rfl⟩
  .simp only
   rw[Us,jw,wT j.nd,h.look];by_cases e:nm=x
   .grind
   .rw [if_neg e,if_neg fun y=>e y.symm,if_neg fun y=>e y.symm]
  .simp only at g
   rw[jw,wT j.nd]at g;by_cases e:x=nm
   .grind
   .rw [if_neg e,if_neg e]at g
    exact h.own i x v g
  .rcases qL.1 o with o|o
   .exact h.sz e o
   grind
 .rw [if_neg l,if_neg l]
  refine⟨⟨fun x=>?_,fun i x v g=>?_,h.sz⟩,rfl,rfl⟩
  .simp only
   rw[wT j.nd,h.look];by_cases e:x=nm
   .rw [if_pos e]
    cases p:getK x env with
    |none=>rfl
    |some v =>
     have i:body=false:=by grind
     exact absurd (h.own i x v p) (by grind)
   .rw [if_neg e]
  .simp only at g
   rw[wT j.nd]at g;split at g
   .cases g
   .exact h.own i x v g
theorem qbZ{ts es}(C:Free ts es){f:Nat}{body E E' bin}:∀ ks i env sc nm s,
  (∀ k,k∈ks->∀ env sc s,StOk (qk ts es) s->4000<s.sM+(f:Int)->ze env->ScOf ts body sc env->OutR (E env k s) (E' sc k s).1 (E' sc k s).2.1 (E' sc k s).2.2) ->
  (∀ env k n' z s s',k∈ks->StOk (qk ts es) s->ze env->E env k s = .ok ((n',z),s')->Gos (qk ts es) s s' z) ->
  0<=s.last->0<=s.sM->s.sM<=4000->dueN (qk ts es) bin i<=pot (qk ts es) s->4000<s.sM+(f:Int)->ze env->ScOf ts body sc env ->
  match yp E (fun env nm s=>renI ts es env nm body s) bin i env nm ks s with
  | .error _=>∃ t,vF E' (fun sc nm s=>renR ts es sc nm body s) bin i sc nm ks s = .error t/\4000<t.sM/\t.sM<=9000
  | .ok r=>vF E' (fun sc nm s=>renR ts es sc nm body s) bin i sc nm ks s = .ok r
 | [],i,env,sc,nm,s,_,_,_,_,_,_,_,_,_=>by simp only[yp,vF]
 |k :: ks,i,env,sc,nm,s,hE,hG,l0,c0,c1,hp,hf,R,I=>by
  simp only[yp,vF];obtain⟨r,J⟩:∃ r,(if bin=true/\i=1 then renI ts es env nm body s else ((env,nm),s))=r:=⟨_,rfl⟩;obtain⟨l,j⟩:∃ l,(if bin=true/\i=1 then renR ts es sc nm body s else ((sc,nm),s))=l:=⟨_,rfl⟩;have hR:ScOf ts body l.1.1 r.1.1/\l.1.2=r.1.2/\l.2=r.2/\ze r.1.1/\StOk (qk ts es) r.2/\r.2.sM=s.sM/\dueN (qk ts es) bin (i+1)<=pot (qk ts es) r.2:=by
   by_cases hb:bin=true/\i=1
   .rw [if_pos hb]at J j
    subst J;subst j;obtain⟨a1,a2,a3⟩:=qbY (es:=es) (nm:=nm) (s:=s) R I;have a4:=Jp (ts:=ts) (es:=es) (nm:=nm) (body:=body) (s:=s) R;obtain⟨b1,b2,T⟩:=Jq (body:=body) (nm:=nm) (env:=env) C l0;have hd:dueN (qk ts es) bin i=(qk ts es:Int):=by simp_all[dueN,if_pos]
    have a0:dueN (qk ts es) bin (i+1)=0:=by simp_all[dueN,if_neg]
    rw[hd]at hp;have P:0<=pot (qk ts es) (renI ts es env nm body s).2:=by
     grind [pot]
    exact⟨a1,a2,a3,a4,⟨b1,by rw[T];exact c0,by rw[T];exact c1,P⟩,T,zOm⟩
   .rw [if_neg hb]at J j
    subst J;subst j;have hd:dueN (qk ts es) bin (i+1)<=dueN (qk ts es) bin i:=by
     unfold dueN;split
     .grind
     omega
    have a5:0<=dueN (qk ts es) bin i:=by grind [dueN]
    exact⟨I,rfl,rfl,R,⟨l0,c0,c1,by grind⟩,rfl,by grind⟩
  rw[J,j];obtain⟨q1,q2,q3,q4,q5,q6,q7⟩:=hR;rw[q2,q3];have o:=hE k (qX ..) r.1.1 l.1.1 r.2 q5 zOm q4 q1;have h2:=fun n' z s'=>hG r.1.1 k n' z r.2 s' (qX ..) q5 q4
  generalize E' l.1.1 k r.2=Q at *
  cases U:E r.1.1 k r.2 with
  |error d =>
   rw[U]at o;simp only;rw[if_pos o.1];exact⟨_,rfl,o.1,o.2.1⟩
  |ok x =>
   obtain⟨⟨m,y⟩,t⟩:=x;rw[U]at o;obtain⟨e1,e2,e3⟩:=o;have g:=h2 m y t U;obtain⟨g1,g2,g3⟩:=Ut g q5;have hc:=g.c1;have a6:=g.p;simp only;rw[if_neg (by rw[e3];omega),e1,e2,e3];have ih:=qbZ C (f:=f) (body:=body) (E:=E) (E':=E') (bin:=bin) ks (i+1) r.1.1 l.1.1 r.1.2 t (fun k hk=>hE k (qP _ hk)) (fun env k n' z s s' hk=>hG env k n' z s s' (qP _ hk)) g1.l0 g1.c0 g1.c1 zOm zOm q4 q1;cases hx:yp E (fun env nm s=>renI ts es env nm body s) bin (i+1) r.1.1 r.1.2 ks t with
   |error d =>
    rw[hx]at ih;obtain⟨t',a1,a2,a3⟩:=ih
    grind
   |ok x =>
    grind
theorem Yg(ts es)(i:Free ts es)(hb:∀ p,p∈ts.sT->WfN p.body/\yq ts p.body):∀(f:Nat)(env sc n body s),
  4000<s.sM+(f:Int)->StOk (qk ts es) s->ze env->WfN n->yq ts n->ScOf ts body sc env->OutR (expI ts es f env n body s) (expR ts es f sc n body s).1 (expR ts es f sc n body s).2.1 (expR ts es f sc n body s).2.2
 | 0,env,sc,n,body,s,hf,g,_,_,_,_=>zW1 g.c1
 |f+1,env,sc,n,body,s,hf,g,o,hw,I,l=>by
  have a8:=g.c0;have a9:=g.c1;have p1:(payS 1 s).sM=s.sM+1:=rfl;simp only[expI,expR];by_cases J:s.sM+1<=4000
  case neg =>
   rw[if_neg J,if_neg J];exact⟨by rw[p1];omega,by rw[p1];omega,zSp,zSp⟩
  rw[if_pos J,if_pos J];have C:=(wG g (n:=1) zOm J).ok g;by_cases h1:n.op=1
  .rw [if_pos h1,if_pos h1]
   unfold wJ vg;rw[l.look];cases hg:getK n.name env with
   |none=>exact⟨rfl,rfl,rfl⟩
   |some v =>
    have hv:=o.sz _ ((wS o.nd).1 hg);have hv:0<=v.size/\v.size<=4000:=hv;simp only;cases P:v.arg with
    |none=>exact⟨rfl,rfl,rfl⟩
    |some a =>
     simp only;have e2:(payS v.size (payS 1 s)).sM=(payS 1 s).sM+v.size:=rfl;by_cases R:(payS 1 s).sM+v.size<=4000
     .rw [if_pos R];exact⟨rfl,rfl,rfl⟩
     .rw [if_neg R]
      exact⟨by rw[e2];omega,by rw[e2];omega,hv.1,hv.2⟩
  rw[if_neg h1,if_neg h1];by_cases h47:n.op=47
  .rw [if_pos h47,if_pos h47]
   obtain⟨p,T,a7⟩:=I n (vD n) h47;have a0:=List.mem_of_find?_eq_some T;rw[T];simp only;have P:=qbX (F:=qk ts es) (f:=f) (E:=fun k s=>expI ts es f env k body s) (E':=fun k s=>expR ts es f sc k body s) p.params n.sD [] [] (payS 1 s)
    (fun k j s g hf=>Yg ts es i hb f env sc k body s hf g o (hw.kid j) (I.kid j) l)
    (fun k n' z s s' j g e=>jl ts i f g o e) C (by rw[p1];omega) .nil (fun nm=>rfl) (fun e hm=>absurd hm qG)
   cases U:yP (fun k s=>expI ts es f env k body s) p.params n.sD [] (payS 1 s) with
   |error d =>
    rw[U]at P;obtain⟨t,a1,a2,a3⟩:=P;rw[a1];exact⟨a2,a3,zSp,zSp⟩
   |ok x =>
    obtain⟨own,s'⟩:=x;rw[U]at P;obtain⟨L,a1,a2,a3,a4,a5,a6⟩:=P;rw[a1];obtain⟨b1,b2⟩:=hb p a0;exact Yg ts es i hb f own L p.body true s' zOm a5 a2 b1 b2 ⟨a3,fun h=>absurd h zSp,a4⟩
  .rw [if_neg h47,if_neg h47]
   have j:=qbZ i (f:=f) (body:=body) (E:=fun env k s=>expI ts es f env k body s) (E':=fun sc k s=>expR ts es f sc k body s) (bin:=binB n.op) n.sD 0 env sc n.name (payS 1 s)
    (fun k j env sc s g hf o l=>Yg ts es i hb f env sc k body s hf g o (hw.kid j) (I.kid j) l)
    (fun env k n' z s s' j g o e=>jl ts i f g o e) C.l0 C.c0 C.c1 (by
     rw[Zn];have:=g.p
     grind [dueN]) (by rw[p1];omega) o l
   cases U:yp (fun env k s=>expI ts es f env k body s) (fun env nm s=>renI ts es env nm body s) (binB n.op) 0 env n.name n.sD (payS 1 s) with
   |error d =>
    rw[U]at j;obtain⟨t,a1,a2,a3⟩:=j;rw[a1];exact⟨a2,a3,zSp,zSp⟩
   |ok x =>
    obtain⟨⟨nm,ks,m⟩,s'⟩:=x;rw[U]at j;rw[j];exact⟨rfl,rfl,rfl⟩
end
end QY
namespace QZ
open YF Y9 Y10 Y1 YX YB YC P1 P2 PA QE QI QS QT QX QY
section
variable {mu:Mu}
abbrev eXO(ts:TS)(l:List tV)(q:XO):AV := .tup [eWk ts l q.1,eNd q.2.1,aI q.2.2]
theorem Uu(x):∀ c,c∈cSb x->HF c:=fun c g=>by
 rcases qL.1 g with g|g
 .rcases qL.1 g with g|g
  .simp only[qs,qG,or_false]at g
   rcases g with rfl|rfl|rfl<;>exact HF.sc _
  grind [qnO]
 grind [qO,HF.sc]
theorem qnS(x):(cSb x).length=9:=by simp[qnN]
theorem Yh(l:List Sb):qW 9 (l.map cSb):=fun r g=>by
 obtain⟨x,_,rfl⟩:=qn.1 g;refine⟨qnS x,?_⟩;obtain⟨nm,⟨a,z,w⟩⟩:=x;cases a<;>simp[yw,go_sem]
theorem qb0(l):HF (lSb l):=HF.lst fun r g c i=>by
 obtain⟨x,_,rfl⟩:=qn.1 g;exact Uu x c i
theorem wkX(ts l s sc n b):WKs [eWk ts l s,lSb sc,eNd n,aB b] [eWk ts l s,lSb sc,eNd n,aB b] := .zk (uT ts l s) (.zk (qb0 sc) (.zk (qz n) (.zs .nil)))
theorem Kf(ts l q):HF (eXO ts l q):=HF.tup fun x g=>by
 simp only[qs,qG,or_false]at g;rcases g with rfl|rfl|rfl
 .exact uT ts l _
 .exact qz _
 .exact HF.sc _
structure Pre (ts:TS) (es:List (tV×Bool)) (f:Nat) (env:IEnv) (sc:List Sb) (n:Nd) (body:Bool) (s:ISt):Prop where
 fu:4000<s.sM+(f:Int)
 st:StOk (qk ts es) s
 en:ze env
 wf:WfN n
 cl:yq ts n
 so:ScOf ts body sc env
 le:(sc.length:Int)<=s.sM+8
theorem rd0:Rd mu (.agg [aI 0,aS ⟨#[]⟩,aI 0,.lst true [],aI 0]) (eNd nd0) := .agg _ _ rfl fun k x y g i=>by
 match k,g,i with
 | 0,g,i=>cases g;cases i;exact .zsc _
 | 1,g,i=>cases g;cases i;exact .zsc _
 | 2,g,i=>cases g;cases i;exact .zsc _
 | 3,g,i=>cases g;cases i;exact .wk _ true _ (.hf _ (HF.lst fun r j=>absurd j qG))
 | 4,g,i=>cases g;cases i;exact .zsc _
 |k+5,g,i=>cases g
theorem rdZ(ts l s):Rd mu (.tup [eWk ts l s,.agg [aI 0,aS ⟨#[]⟩,aI 0,.lst true [],aI 0],aI 0]) (eXO ts l (s,nd0,0)) := .tup _ _ rfl fun k x y g i=>by
 match k,g,i with
 | 0,g,i=>cases g;cases i;exact .hf _ (uT ts l s)
 | 1,g,i=>grind [rd0]
 | 2,g,i=>cases g;cases i;exact .zsc _
 |k+3,g,i=>cases g
theorem qb1{lo s xs y K}(g:OwnF lo mu 9 s (xs.map cSb))(l:xs.length<=100000)(o:∀ av mu',OwnF lo mu' 9 av ((xs++[y]).map cSb)->(∀ i,i<lo->mu'[i]?=mu[i]?)->K av mu') :
  qu qb mu #[254,254] s (.lst true [cSb y]) K:=by
 refine qu.ownF (lo:=lo) (e:=261) (sz:=9) (bt:=112) (zv := .agg [aS ⟨#[]⟩,aS ⟨#[]⟩,aB false,aI 0,aS ⟨#[]⟩,aI 0,.lst true [],aI 0,aI 0]) (xs:=xs.map cSb) (ys:=[cSb y]) zSi zSi zSi rfl rfl zOm zOm g (by simp[qE]) (Yh xs) (Yh [y]) zSo ?_
 grind
abbrev ExpW(ts:TS)(l:List tV)(es:List (tV×Bool))(f:Nat)(sc:List Sb)(n:Nd)(body:Bool)(s:ISt):Prop:=
 qd qb 137 [eWk ts l s,lSb sc,eNd n,aB body] (eXO ts l (expR ts es f sc n body s))
theorem expN(ts l es f env sc n body s)(p:Pre ts es (f+1) env sc n body s)(j:s.sM+1<=4000)(i:n.op=1):ExpW ts l es (f+1) sc n body s:=by
 have o:=p.st.c0;have J:=p.le;have t:=leafU ts l sc zOm n (payS 1 s) ⟨by show 0<=s.sM+1;omega,by show s.sM+1<=_;omega⟩ (fun e C=>zW1 (p.so.sz e C));unfold ExpW;simp only[expR];rw[if_pos j,if_pos i];have I:qj.wrap (s.sM+1)=s.sM+1:=zWr;have g:¬ 4000<s.sM+1:=zOm;generalize wJ sc n (payS 1 s)=Q at *
 refine qSQ call137 func137 rfl { mt:=[4] } ?_;simp[go_sem,I,g,i,qS];refine tR t (.zk (uT ts l (payS 1 s)) (.zk (qb0 sc) (.zk (qz n) .nil))) ?_;simp[go_sem,qS];exact .hf _ (Kf ts l (Q.2,Q.1.1,Q.1.2))
theorem expZ(ts l es f env sc n body s)(p:Pre ts es (f+1) env sc n body s)(i:¬s.sM+1<=4000):ExpW ts l es (f+1) sc n body s:=by
 have j:=p.st.c0;have o:=p.st.c1;unfold ExpW;simp only[expR];rw[if_neg i];have t:qj.wrap (s.sM+1)=s.sM+1:=zWr;have g:4000<s.sM+1:=zOm;refine qSQ call137 func137 rfl { mt:=[4] } ?_;simp[go_sem,t,g,qS]
 grind [rdZ,payS]
def repR(ts : TS)(es : List (tV × Bool))(f : Nat)(sc : List Sb)(n : Nd)(body : Bool)(s : ISt)(p : Pd) : XO := match vp (fun k s => expR ts es f sc k body s) p.params n.sD [] s with
          | .error g=>(g,nd0,0)
          | .ok (own,g)=>expR ts es f own p.body true g
theorem expC(ts l es f env sc n body s)(p:Pre ts es (f+1) env sc n body s)(j:s.sM+1<=4000)(h47:n.op=47)(g)(o:(ts.sT.find? fun p=>decide (p.name=n.name))=some g)
  (t:qd qb 199 [eWk ts l (payS 1 s),lSb sc,eNd n,aB body] (eXO ts l (repR ts es f sc n body (payS 1 s) g))):ExpW ts l es (f+1) sc n body s:=by
 have C:=p.st.c0;unfold ExpW;simp only[expR];rw[if_pos j,zIn,if_pos h47,o];simp only;have I:qj.wrap (s.sM+1)=s.sM+1:=zWr;have i:¬ 4000<s.sM+1:=zOm;show qd qb 137 [eWk ts l s,lSb sc,eNd n,aB body] (eXO ts l (repR ts es f sc n body (payS 1 s) g));generalize repR ts es f sc n body (payS 1 s) g=Q at *
 refine qSQ call137 func137 rfl { mt:=[4] } ?_;simp[go_sem,I,i,h47,qS];refine tR t (wkX ts l (payS 1 s) sc n body) ?_;simp[go_sem,qS];exact .hf _ (Kf ts l Q)
theorem replW(ts)(h:okTS ts)(l es)(ah:Free ts es)(hb:∀ p,p∈ts.sT->WfN p.body/\yq ts p.body)(f)(ih:∀ env sc n body s,Pre ts es f env sc n body s->ExpW ts l es f sc n body s)(env sc n body s)(p:Pre ts es f env sc n body s)(h47:n.op=47)
  (R) (hp:(ts.sT.find? fun p=>decide (p.name=n.name))=some R) (ay:R.params.length=n.sD.length):qd qb 199 [eWk ts l s,lSb sc,eNd n,aB body] (eXO ts l (repR ts es f sc n body s R)):=by
 have a8:=List.mem_of_find?_eq_some hp;have b0:=(h.pl R a8).1;have b1:=h.np;obtain⟨i,hi,a2,ai⟩:∃ i,∃ hi:i<ts.sT.length,ts.sT[i]=R/\zd (ckR ts ts.sT.length) n.name=some i:=by
  cases hc:zd (ckR ts ts.sT.length) n.name with
  |none =>
   unfold zd at hc;rw[List.findIdx?_eq_none_iff]at hc;have:=hc R (by show R∈ts.sT.take ts.sT.length;rw[zi];exact a8);have h2:=List.find?_some hp;rw[h2]at this;cases this
  |some i =>
   obtain⟨h1,h2⟩:=wZ (Up h (qh _)) hc;have h2:i<ts.sT.length:=h2;have h3:=PF.qaN hc h2;have h3:(ts.sT.find? fun p=>decide (p.name=n.name))=some ts.sT[i]:=h3;rw[hp]at h3;exact⟨i,h2,(Option.some.inj h3).symm,rfl⟩
 have cp:=JD (ckR ts ts.sT.length) (Up h (qh _)) n.name;rw[ai]at cp;have I:=wY;have a9:¬(i:Int)<0:=zOm;obtain⟨E',hE⟩:∃ E':Nd->ISt->XO,E'=fun k s=>expR ts es f sc k body s:=⟨_,rfl⟩
 obtain⟨a6,a7⟩:∃ a6,a6=repR ts es f sc n body s R:=⟨_,rfl⟩;have al:∀ k,k∈n.sD->∀ C,StOk (qk ts es) C->s.sM<=C.sM->qd qb 137 [eWk ts l C,lSb sc,eNd k,aB body] (eXO ts l (E' k C)):=fun k hk C J a9=>by
  rw[hE];exact ih env sc k body C ⟨zW1 p.fu,J,p.en,p.wf.kid hk,p.cl.kid hk,p.so,zW1 p.le⟩
 have an:∀ k,k∈n.sD->∀ C,StOk (qk ts es) C->s.sM<=C.sM->4000<(E' k C).1.sM\/(¬ 4000<(E' k C).1.sM/\Gos (qk ts es) C (E' k C).1 (E' k C).2.2):=fun k hk C J a9=>by
  have ho:=Yg ts es ah hb f env sc k body C (zW1 p.fu) J p.en (p.wf.kid hk) (p.cl.kid hk) p.so;have ao:E' k C=expR ts es f sc k body C:=by rw[hE]
  rw[ao];cases hx:expI ts es f env k body C with
  |error d=>rw[hx]at ho;exact .inl ho.1
  |ok r =>
   obtain⟨⟨m,y⟩,t⟩:=r;rw[hx]at ho;obtain⟨e1,e2,e3⟩:=ho;have g:=jl ts ah f J p.en hx;rw[e2,e3];exact .inr ⟨zW1 g.c1,g⟩
 have aq:∀ t,vp E' R.params n.sD [] s = .error t->a6=(t,nd0,0):=fun t ht=>by
  rw[a7];unfold repR;rw[<-hE,ht]
 have ar:∀ own t O,vp E' R.params n.sD [] s = .ok (own,t)->StOk (qk ts es) t->s.sM<=t.sM->ze O->(∀ nm,ug nm own=getK nm O)->(∀ e,e∈own->0<=e.2.size/\e.2.size<=4000)->own.length<=8->qd qb 137 [eWk ts l t,lSb own,eNd R.body,aB true] (eXO ts l a6):=fun own t O ht J a9 hO aa ab h8=>by
  have e:a6=expR ts es f own R.body true t:=by rw[a7];unfold repR;rw[<-hE,ht]
  rw[e];have b2:=J.c0;exact ih O own R.body true t ⟨zW1 p.fu,J,hO,(hb R a8).1,(hb R a8).2,⟨aa,fun h=>absurd h zSp,ab⟩,zOm⟩
 rw[<-a7];have aj:=p.st;clear a7 hE ih;refine qSQ call199 func199 rfl { mt:=[4] } ?_;simp[go_sem,qS];refine tR cp (.zk (zl ts) (.zs (.zs .nil))) ?_;simp[go_sem,qS,idxO,a9];refine fZ n.sD.length (fun k U=>∃(C:ISt) (L:List Sb) (O:IEnv),U.tm 1=lSb sc/\U.tm 3=aB body/\U.tm 4 = .ptr 0 0/\U.tm 6 = .ip (cNd n)/\U.tm 8 = .ptr 1 0/\U.tm 9 = .ptr 2 0/\U.tm 12=aI i/\U.tm 14=aI k/\U.mu[0]?=some (.arr (cWk ts l C))/\U.mu[1]?=some (.arr zWc)/\U.mu[2]?=some (.arr [aI 0,aS ⟨#[]⟩,aI 0,.lst true [],aI 0])/\OwnF 3 U.mu 9 (U.tm 13) (L.map cSb)/\vp E' R.params n.sD [] s=vp E' (R.params.drop k) (n.sD.drop k) L C/\StOk (qk ts es) C/\s.sM<=C.sM/\ze O/\(∀ nm,ug nm L=getK nm O)/\(∀ e,e∈L->0<=e.2.size/\e.2.size<=4000)/\L.length=k) ?_ ?_
 .exact ⟨s,[],[],zSi,zSi,zSi,zSi,zSi,zSi,zSi,zSi,zSi,zSi,zSi,by simp[go_sem];exact OwnF.nil zSp,rfl,aj,jO _,.nil,fun nm=>rfl,fun e he=>absurd he qG,rfl⟩
 rintro k U hk ⟨C,L,O,e1,e3,e4,e6,e8,e9,a1,a3,m0,m1,m2,ho,hI,J,ad,hO,aa,ab,au⟩;generalize a4:U.tm 13=av at *
 obtain⟨rr,T⟩:=X6 m0 m1 m2;have b3:U.mu.length=rr.length+3:=by rw[T];rfl
 have az:n.sD.length<=8:=zOm;by_cases P:k<n.sD.length
 .have a5:k<R.params.length:=by omega
  have w1:=zWk k;rw[qY P,qY a5]at hI;simp only[vp]at hI;have x1:=al n.sD[k] (qq P) C J ad;have x2:=an n.sD[k] (qq P) C J ad;generalize E' n.sD[k] C=q at *
  clear m0 m1 m2;simp[go_sem,e1,e3,e4,e6,e8,e9,a1,a3,a4,T,P,a5,hi,a2,I,qS];refine fG [0,1,2,3,4,5,6,7,8,9,10,11,12,17,13,14,15,16] [(0,0,[]),(1,0,[]),(2,0,[]),(3,0,[]),(4,0,[]),(5,0,[]),(6,0,[]),(7,0,[]),(8,1,[]),(9,0,[]),(10,0,[]),(11,0,[]),(12,0,[]),(17,0,[]),(13,2,[0,3,6]),(14,2,[0,3,6]),(15,1,[]),(16,1,[])] zKr zKr zSi ?_;simp[go_sem,e1,e3,e4,e6,e8,e9,a1,a3,a4,T,P,a5,hi,a2,I,qS];refine tR x1 (wkX ts l C sc n.sD[k] body) ?_;simp[go_sem,e1,e3,e4,e6,e8,e9,a1,a3,a4,T,P,a5,hi,a2,I,qS];by_cases a0:4000<q.1.sM
  .have aw:a6=(q.1,nd0,0):=aq _ (by rw[hI,if_pos a0])
   simp[go_sem,e1,e3,e4,e6,e8,e9,a1,a3,a4,T,P,a5,hi,a2,I,qS,a0];rw[aw];exact rdZ ts l q.1
  .rcases x2 with x2|⟨_,g⟩
   .exact absurd x2 a0
   rw[if_neg a0]at hI;simp[go_sem,e1,e3,e4,e6,e8,e9,a1,a3,a4,T,P,a5,hi,a2,I,qS,a0];refine tN zKr ?_;simp[go_sem,e1,e3,e4,e6,e8,e9,a1,a3,a4,T,P,a5,hi,a2,I,qS,a0];obtain⟨g1,g2,g3⟩:=Ut g J;have gz:=g.z0;have hy:(AV.sc (.string R.params[k].1) :: AV.sc (.string ⟨#[]⟩) :: AV.sc (.bool true) :: (cNd q.2.1++[AV.sc (.int .i64 q.2.2)]))=cSb (R.params[k].1,⟨some q.2.1,q.2.2,⟨#[]⟩⟩):=zSi;rw[hy];generalize ae:(R.params[k].1,(⟨some q.2.1,q.2.2,⟨#[]⟩⟩:IV))=en at *
   refine qb1 (lo:=3) (xs:=L) (y:=en) ?_ zOm ?_
   .have h1:OwnF 3 (U.mu++[Cell.arr (cWk ts l q.1),Cell.arr (cNd q.2.1)]) 9 av (L.map cSb):=YD.Qi ho zSo fun i _ hi=>qB hi
    rw[T]at h1;have h2:=OwnF.set (i:=0) (c:=Cell.arr (cWk ts l q.1)) h1 zOm;simpa using h2
   intro b4 o af ag;have n0:=ag 0 zOm;have n1:=ag 1 zOm;have n2:=ag 2 zOm;simp at n0 n1 n2;obtain⟨r2,ak⟩:=X6 n0 n1 n2;simp[go_sem,e1,e3,e4,e6,e8,e9,a1,a3,a4,ak,P,a5,hi,a2,I,qS,a0,w1];refine aK ⟨q.1,L++[en],setK en.1 en.2 O,zS1 e1,zS1 e3,zS1 e4,zS1 e6,zS1 e8,zS1 e9,zS1 a1,zSi,zSi,zSi,zSi,?_,?_,g1,?_,?_,?_,?_,?_⟩
   .have h2:=OwnF.set (i:=0) (c:=Cell.arr (cWk ts l q.1)) af zOm
    simp[go_sem];rw[ak]at af;simpa using af
   .rw [hI,<-ae]
   .omega
   .rw [<-ae];exact hO.set ⟨gz,g3⟩
   .intro nm
    rw[Us,jw,aa];by_cases e:en.1=nm
    .rw [if_pos e,if_pos e.symm]
    .rw [if_neg e,if_neg fun x=>e x.symm]
   .intro e he
    rcases qL.1 he with he|he
    .exact ab e he
    .rw [qO]at he;subst he;rw[<-ae];exact⟨gz,g3⟩
   .simp [au]
 .simp [go_sem,e1,e3,e4,e6,e8,e9,a1,a3,a4,T,P,hi,a2,I,qS]
  refine fG [0,1,2,3,4,5,6,7,8,9,10,11,12,15,13,14] [(0,0,[]),(1,0,[]),(2,0,[]),(3,0,[]),(4,0,[]),(5,0,[]),(6,0,[]),(7,0,[]),(8,0,[]),(9,1,[]),(10,0,[]),(11,0,[]),(12,0,[]),(15,0,[]),(13,1,[]),(14,1,[])] zKr zKr zSi ?_;simp[go_sem,e1,e3,e4,e6,e8,e9,a1,a3,a4,T,P,hi,a2,I,qS];refine fL (qr.freeze (args1:=[eWk ts l C,lSb L,eNd R.body,aB true]) (fun j=>decide (3<=j)) ⟨.inl rfl,.inr ?_,.inl rfl,.inl rfl,trivial⟩ (qd.toSound _ (ar L C O ?_ J ad hO aa ab zOm) (wkX ts l C L R.body true))) ?_ ?_
  .have h1:=Y13.VS ho (Yh L).ok fun r hr c hc=>by
    obtain⟨x,_,rfl⟩:=qn.1 hr;exact Uu x c hc
   rw[T]at h1;exact h1
  .rw [hI,UF zOm,UF zOm];rfl
  .rintro r m ⟨hv,rfl⟩
   cases hv;simp[go_sem,cutM,qS,e1,e3,e4,e6,e8,e9];exact .hf _ (Kf ts l a6)
  .rintro r m ⟨hv,rfl⟩
   cases hv
end
end QZ
end Go.Proofs.YtlnbdknjkmmgbaaGreatDoor
set_option maxHeartbeats 1000000
namespace Go.Ev
theorem awp.cut{P pl l j g C i Q st}(J)
  (h:awp P pl l (seqQ (awp P pl j (seqQ (Keep J .mk) (j5 i (seqQ (awp P pl C Q) Q)))) Q) st)
  (o:∀ st,J st->awp P pl g (j5 i (seqQ (awp P pl C Q) Q)) st):awp P pl (.seq l (.seq (.block i (.seq j g)) C)) Q st:=by
 refine awp.mono l (Q:=seqQ (awp P pl j (seqQ (Keep J .mk) (j5 i (seqQ (awp P pl C Q) Q)))) Q) h (fun e st h=>?_);cases e with
 |normal =>
  refine awp.mono j (Q:=seqQ (Keep J .mk) (j5 i (seqQ (awp P pl C Q) Q))) h (fun e st h=>?_);cases e with
  |normal=>exact o st h
  |exit i=>exact h
  |ret=>exact h
  |pan v=>exact h
 |exit i=>exact h
 |ret=>exact h
 |pan v=>exact h
theorem qnT{K:St->Prop}(J){st}(h:FzQ (fun _=>J) (.exit 0) st)(k:∀ st2,J st2->K st2):FzQ (fun _ st=>K st) (.exit 0) st:=by
 obtain⟨g,f,q,j⟩:=h;exact⟨g,f,q,k _ j⟩
end Go.Ev
namespace Go.Proofs.YtlnbdknjkmmgbaaGreatDoor
open Go Go.Ev Go.Proofs Tryz
namespace RA
open YF Y9 Y10 Y1 YX YA YB YC P1 P2 PA QD QE QK QX QY QZ
section
variable {av:AV}{es:List (tV×Bool)}{l:List tV}
theorem four{J:Type}{l}{a b c d:J}(g:l[0]?=some a)(i:l[1]?=some b)(j:l[2]?=some c)(o:l[3]?=some d):∃ r,l=a :: b :: c :: d :: r:=by
 match l,g,i,j,o with
 |_ :: _ :: _ :: _ :: r,g,i,j,o =>
  grind
def resK(n:Nd)(acc:List Nd)(z:Int):Except ISt ((tV×List Nd×Int)×ISt)->XO
 | .error s=>(s,nd0,0)
 | .ok ((nm,ks,m),s)=>(s,.mk n.op nm n.n (acc++ks) n.pos,z+m)
structure AtK (ts:TS) (l:List tV) (es:List (tV×Bool)) (n:Nd) (body:Bool) (s:ISt) (k:Nat) (sc2:List Sb) (env2:IEnv) (nm2:tV) (s3:ISt) (acc:List Nd) (av:AV) (z:Int) (st:St):Prop where
 e3:st.tm 3=aB body
 e4:st.tm 4 = .ptr 0 0
 e6:st.tm 6 = .ip (cNd n)
 e8:st.tm 8 = .ptr 1 0
 e9:st.tm 9 = .ptr 2 0
 e11:st.tm 11 = .ptr 3 0
 e12:st.tm 12=aI z
 e13:st.tm 13=aI k
 m0:st.mu[0]?=some (.arr (cWk ts l s3))
 m1:st.mu[1]?=some (.arr zWc)
 m2:st.mu[2]?=some (.arr [aI 0,aS ⟨#[]⟩,aI 0,.lst true [],aI 0])
 m3:st.mu[3]?=some (.arr [aI n.op,aS nm2,aI n.n,av,aI n.pos])
 ho:OwnF 4 st.mu 5 av (acc.map cNd)
 so:ScOf ts body sc2 env2
 en:ze env2
 al:acc.length=k
 l0:0<=s3.last
 c0:s.sM+1<=s3.sM
 c1:s3.sM<=4000
 z1:0<=z
 z2:z<=1+4000*(k:Int)
theorem AtK.same{ts n body s k j i o I acc z st g}(A:AtK ts l es n body s k j i o I acc av z st)
  (J:g.tm 3=aB body) (P:g.tm 4 = .ptr 0 0) (R:g.tm 6 = .ip (cNd n)) (T:g.tm 8 = .ptr 1 0) (U:g.tm 9 = .ptr 2 0) (p:g.tm 11 = .ptr 3 0) (t:g.tm 12=aI z) (C:g.tm 13=aI k) (em:g.mu=st.mu):AtK ts l es n body s k j i o I acc av z g:=
 ⟨J,P,R,T,U,p,t,C,by rw[em];exact A.m0,by rw[em];exact A.m1,by rw[em];exact A.m2,by rw[em];exact A.m3,by rw[em];exact A.ho,A.so,A.en,A.al,A.l0,A.c0,A.c1,A.z1,A.z2⟩
theorem qb2{g lo sz mu mu' xs}(h:OwnF g mu sz av xs)(i:∀ b s o q,av = .sl b s o q->b<lo)(p:g<=mu'.length)(t:∀ j,g<=j->j<lo->mu'[j]?=mu[j]?):OwnF g mu' sz av xs:=by
 obtain⟨C,l,_⟩:=h;refine⟨?_,l,p⟩;rcases C with rfl|⟨b,rfl,I⟩
 .exact .inl rfl
 .exact .inr ⟨b,rfl,by rw[t b (l b _ _ _ rfl) (i b _ _ _ rfl)];exact I⟩
theorem AtK.keep{ts n body s k p i t T acc z st g}(A:AtK ts l es n body s k p i t T acc av z st)
  (U:g.tm 3=aB body) (e4:g.tm 4 = .ptr 0 0) (e6:g.tm 6 = .ip (cNd n)) (e8:g.tm 8 = .ptr 1 0) (e9:g.tm 9 = .ptr 2 0) (I:g.tm 11 = .ptr 3 0) (J:g.tm 12=aI z) (P:g.tm 13=aI k) (lo) (h4:4<=lo) (R:∀ b s o q,av = .sl b s o q->b<lo) (hl:4<=g.mu.length) (C:∀ j,j<lo->g.mu[j]?=st.mu[j]?):AtK ts l es n body s k p i t T acc av z g:=
 ⟨U,e4,e6,e8,e9,I,J,P,by rw[C 0 zOm];exact A.m0,by rw[C 1 zOm];exact A.m1,by rw[C 2 zOm];exact A.m2,by rw[C 3 zOm];exact A.m3,qb2 A.ho R hl (fun j _=>C j),A.so,A.en,A.al,A.l0,A.c0,A.c1,A.z1,A.z2⟩
theorem qnU{mu lo s x}{xs ys:List Sb}{K}(g:OwnF lo mu 9 s (xs.map cSb))(j:qE mu x=some (ys.map cSb))(p:xs.length+ys.length<=100000)(l:∀ av mu',OwnF lo mu' 9 av ((xs++ys).map cSb)->(∀ i,i<lo->mu'[i]?=mu[i]?)->K av mu') :
  qu qb mu #[254,254] s x K:=by
 refine qu.ownF (lo:=lo) (e:=261) (sz:=9) (bt:=112) (zv := .agg [aS ⟨#[]⟩,aS ⟨#[]⟩,aB false,aI 0,aS ⟨#[]⟩,aI 0,.lst true [],aI 0,aI 0]) (xs:=xs.map cSb) (ys:=ys.map cSb) zSi zSi zSi rfl rfl zOm zOm g j (Yh xs) (Yh ys) zSo ?_;intro av mu' h o;exact l av mu' (by rw[z6];exact h) o
theorem expK(ts)(h:okTS ts)(l es)(t:Tn l es)(hl:l.length<=400000)(hF:qk ts es<=200000)(b4:Free ts es)(hb:∀ p,p∈ts.sT->WfN p.body/\yq ts p.body)(f)(ih:∀ env sc n body s,Pre ts es f env sc n body s->ExpW ts l es f sc n body s)
  (env) (sc) (n) (body) (s) (p:Pre ts es (f+1) env sc n body s) (hc:s.sM+1<=4000) (h1:¬n.op=1) (h47:¬n.op=47):ExpW ts l es (f+1) sc n body s:=by
 have dh:=p.st.c0;have di:=p.st.c1;have dj:=p.wf.len;obtain⟨E',hE⟩:∃ E':List Sb->Nd->ISt->XO,E'=fun sc k s=>expR ts es f sc k body s:=⟨_,rfl⟩
 obtain⟨R',bg⟩:∃ R':List Sb->tV->ISt->(List Sb×tV)×ISt,R'=fun sc nm s=>renR ts es sc nm body s:=⟨_,rfl⟩
 have bh:∀ k,k∈n.sD->∀ P I sk,StOk (qk ts es) sk->s.sM+1<=sk.sM->ze P->ScOf ts body I P->(I.length:Int)<=sk.sM+8->qd qb 137 [eWk ts l sk,lSb I,eNd k,aB body] (eXO ts l (E' I k sk)):=fun k hk P I sk b5 ch b6 bi bj=>by
  rw[hE];exact ih P I k body sk ⟨zW1 p.fu,b5,b6,p.wf.kid hk,p.cl.kid hk,bi,bj⟩
 have bk:∀ k,k∈n.sD->∀ P I sk,StOk (qk ts es) sk->s.sM+1<=sk.sM->ze P->ScOf ts body I P->4000<(E' I k sk).1.sM\/(¬ 4000<(E' I k sk).1.sM/\Gos (qk ts es) sk (E' I k sk).1 (E' I k sk).2.2):=fun k hk P I sk b5 ch b6 bi=>by
  have ho:=Yg ts es b4 hb f P I k body sk (zW1 p.fu) b5 b6 (p.wf.kid hk) (p.cl.kid hk) bi;have cj:E' I k sk=expR ts es f I k body sk:=by rw[hE]
  rw[cj];cases hx:expI ts es f P k body sk with
  |error d=>rw[hx]at ho;exact .inl ho.1
  |ok r =>
   obtain⟨⟨m,y⟩,t⟩:=r;rw[hx]at ho;obtain⟨e1,e2,e3⟩:=ho;have g:=jl ts b4 f b5 b6 hx;rw[e2,e3];exact .inr ⟨zW1 g.c1,g⟩
 obtain⟨ax,b9⟩:∃ ax,ax=resK n [] 1 (vF E' R' (binB n.op) 0 sc n.name n.sD (payS 1 s)):=⟨_,rfl⟩;have bb:expR ts es (f+1) sc n body s=ax:=by
  simp only[expR];rw[if_pos hc,if_neg h1,if_neg h47,b9,hE,bg];cases vF (fun sc k s=>expR ts es f sc k body s) (fun sc nm s=>renR ts es sc nm body s) (binB n.op) 0 sc n.name n.sD (payS 1 s) with
  |error e=>rfl
  |ok r=>rfl
 unfold ExpW;rw[bb];clear hE bb ih;have bc:StOk (qk ts es) (payS 1 s):=(wG p.st zOm hc).ok p.st;have w1:qj.wrap (s.sM+1)=s.sM+1:=zWr;have bj:¬ 4000<s.sM+1:=zOm;have ck:=yw n;refine qSQ call137 func137 rfl { mt:=[4] } ?_;simp[go_sem,w1,bj,h1,h47,ck];refine fZ n.sD.length (fun k U=>∃(full:Bool) (I:List Sb) (P:IEnv) (a9:tV) (s2:ISt) (ad:List Nd) (av:AV) (z:Int),U.tm 1 = .lst full (I.map cSb)/\AtK ts l es n body s k I P a9 s2 ad av z U/\(I.length:Int)+(if k<=1 then 1 else 0)<=s2.sM+8/\dueN (qk ts es) (binB n.op) k<=pot (qk ts es) s2/\(k<=1->a9=n.name)/\resK n ad z (vF E' R' (binB n.op) k I a9 (n.sD.drop k) s2)=ax) ?_ ?_
 .refine ⟨false,sc,env,n.name,payS 1 s,[],.lst true [],1,zSi,⟨zSi,zSi,by simp[go_sem,yw n],zSi,zSi,zSi,zSi,zSi,by simp[go_sem];exact⟨rfl,rfl⟩,zSi,zSi,zSi,by simp[go_sem];exact OwnF.nil zSp,p.so,p.en,rfl,bc.l0,by show _<=s.sM+1;omega,bc.c1,zOm,zOm⟩,by show _<=s.sM+1+8;have:=p.le;simp;omega,?_,fun _=>rfl,b9.symm⟩
  rw[Zn];have:=p.st.p;unfold dueN;split<;>omega
 .rintro k U hk ⟨full,I,P,a9,s2,ad,av,z,J,A,af,an,b7,hI⟩
  obtain⟨rr,T⟩:=four A.m0 A.m1 A.m2 A.m3;have e3:=A.e3;have e4:=A.e4;have e6:=A.e6;have e8:=A.e8;have e9:=A.e9;have a0:=A.e11;have a5:=A.e12;have a6:=A.e13;have ai:=A.ho.one;have aj:=A.ho.cells;by_cases a7:k<n.sD.length
  .have w2:=zWk k
   rw[qY a7]at hI;simp only[vF]at hI;refine awp.cut (fun U=>∃(full:Bool) (lo:Nat) (sl:AV) (ab:List Sb) (ag:IEnv) (ar:tV) (s3:ISt) (av:AV),(if binB n.op=true/\k=1 then R' I a9 s2 else ((I,a9),s2))=((ab,ar),s3)/\U.tm 1=sl/\(sl = .lst full (ab.map cSb)\/(OwnF lo U.mu 9 sl (ab.map cSb)/\(∀ b s o q,av = .sl b s o q->b<lo)/\4<=lo))/\AtK ts l es n body s k ab ag ar s3 ad av z U/\(ab.length:Int)+(if k+1<=1 then 1 else 0)<=s3.sM+8/\dueN (qk ts es) (binB n.op) (k+1)<=pot (qk ts es) s3/\(k+1<=1->ar=n.name)) ?_ ?_
   .clear bh bk
    by_cases aq:k=1
    .subst aq
     have be:=b7 (qh _);have de:U.mu.length=rr.length+4:=by rw[T];rfl
     have az:∀ b s o q,av = .sl b s o q->b<rr.length+4:=fun b s o q e=>by
      rcases A.ho.1 with h|⟨c,h,hc⟩
      .rw [h]at e;cases e
      .rw [h]at e;cases e;have:=(qg.1 hc).1;omega
     have aa:(1:Int)<n.sD.length:=zOm;have cm:=A.c0;have b8:=A.l0;have cp:=A.c1;by_cases ak:binB n.op=true
     .have a8:n.op=15\/n.op=45\/n.op=46:=by simpa[binB,or_assoc] using ak
      have dk:=h.ns;have dm:=h.nf;have dn:qk ts es<=l.length+40:=by have:=t.len;unfold qk;omega
      have cq:okNm ts:=⟨h.sl,zOm,zOm,fun f hf=>zW1 (h.fl f hf)⟩;have cn:=XS ts cq n.name;have aw:=XQ ts n.name;have cr:(named ts n.name).2=(means ts n.name).length:=by rw[X4 h]
      rw[cr]at cn;generalize (named ts n.name).1=C at *
      have bt:StOk (qk ts es) s2:=⟨b8,zOm,cp,zW1 (Zo (qk ts es) (binB n.op) 1)⟩;have cs:=bt.last;have cf:=qnM ts h l es t hl s2 ⟨b8,zOm⟩ (b4 s2.last b8);by_cases ae:body=true\/means ts n.name≠[]
      .have hq:(if binB n.op=true/\1=1 then R' I a9 s2 else ((I,a9),s2))=((I++[(n.name,⟨none,0,vN (zh ts es (qk ts es) s2.last)⟩)],vN (zh ts es (qk ts es) s2.last)),⟨zh ts es (qk ts es) s2.last,s2.sM⟩):=by
        rw[if_pos ⟨ak,rfl⟩,bg,be];show renR ts es I n.name body s2=_;unfold renR;rw[if_pos ae]
       have ct:body=true\/(body=false/\0<(means ts n.name).length):=by
        cases body with
        |true=>exact .inl rfl
        |false=>exact .inr ⟨rfl,List.length_pos_iff.2 (ae.resolve_left zSp)⟩
       clear hI;have bu:renR ts es I n.name body s2=((I++[(n.name,⟨none,0,vN (zh ts es (qk ts es) s2.last)⟩)],vN (zh ts es (qk ts es) s2.last)),⟨zh ts es (qk ts es) s2.last,s2.sM⟩):=by
        unfold renR;rw[if_pos ae]
       obtain⟨a1,a2,a3⟩:=qbY (es:=es) (nm:=n.name) (s:=s2) A.en A.so;have a4:=Jp (ts:=ts) (es:=es) (nm:=n.name) (body:=body) (s:=s2) A.en;obtain⟨b1,b2,b3⟩:=Jq (body:=body) (nm:=n.name) (env:=P) b4 b8;rw[bu]at a1 a3;rw[<-a3]at b1 b2;simp only at b1 b2 a1;have bl:dueN (qk ts es) (binB n.op) 1=(qk ts es:Int):=by unfold dueN;rw[if_pos ⟨ak,zOm⟩]
       have bm:dueN (qk ts es) (binB n.op) 2=0:=by unfold dueN;rw[zIn]
       rw[bl]at an;unfold pot at an;generalize (renI ts es P n.name body s2).1.1=ag at *
       clear a2 a3 b3;generalize dp:zh ts es (qk ts es) s2.last=R at *
       rcases a8 with a8|a8|a8<;>rcases ct with au|⟨au,cu⟩
       all_goals
        simp[go_sem,e3,e4,e6,e8,e9,a0,a5,a6,J,T,a7,aa,a8,qS];refine tR cn (.zk (zl ts) (.zs .nil)) ?_;simp[go_sem,e3,e4,e6,e8,e9,a0,a5,a6,J,T,a7,aa,a8,qS,aw.len];rw[if_pos aw.one];generalize putCells _ 0 C=PC
        first
        |simp[go_sem,e3,e4,e6,e8,e9,a0,a5,a6,J,T,a7,aa,a8,qS,au,cu]
        |simp[go_sem,e3,e4,e6,e8,e9,a0,a5,a6,J,T,a7,aa,a8,qS,au]
        refine tR cf (.zk (uT ts l s2) .nil) ?_;simp[go_sem,e3,e4,e6,e8,e9,a0,a5,a6,J,T,a7,aa,a8,qS,au];refine qe.move 2 2 zKr zKr ?_ ?_
        all_goals
         simp[go_sem,e3,e4,e6,e8,e9,a0,a5,a6,J,T,a7,aa,a8,qS,au];refine qnU (lo:=rr.length+6) (xs:=[]) (ys:=I) (OwnF.nil zSp) (by simp[qE]) (by simp at af⊢;omega) ?_;intro dq dr cv aq;simp[go_sem,e3,e4,e6,e8,e9,a0,a5,a6,J,T,a7,aa,a8,qS,au];refine qb1 (y:=(n.name,⟨none,0,vN R⟩)) cv (by simp at af⊢;omega) ?_;intro cw ds ay ah;have n0:=(ah 0 zOm).trans (aq 0 zOm);have n1:=(ah 1 zOm).trans (aq 1 zOm);have n2:=(ah 2 zOm).trans (aq 2 zOm);have n3:=(ah 3 zOm).trans (aq 3 zOm);simp at n0 n1 n2 n3;simp[go_sem,e3,e4,e6,e8,e9,a0,a5,a6,J,a7,aa,a8,qS,au];refine aK ⟨false,rr.length+6,cw,I++[(n.name,⟨none,0,vN R⟩)],ag,vN R,⟨R,s2.sM⟩,av,hq,zSi,.inr ⟨zVs ay,?_,zOm⟩,⟨zS2 e3 au,zS1 e4,zS1 e6,zS1 e8,zS1 e9,zS1 a0,zS1 a5,zS1 a6,by simp[go_sem,n0],zS1 n1,zS1 n2,zS2 n3 a8,?_,a1,a4,A.al,b1,A.c0,A.c1,A.z1,A.z2⟩,?_,?_,fun h=>zOm⟩
         .intro b s o q e;have:=az b s o q e;omega
         .simp only[qH]
          refine qb2 A.ho az (zW1 ay.2.2) fun j h4 hj=>?_
          obtain⟨i,rfl⟩:∃ i,j=i+4:=⟨j-4,zOm⟩;rw[ah _ zOm,aq _ zOm,T];simp only[vG];rw[zGa]
         .simp at af⊢;omega
         .rw [bm];unfold pot;simp only;omega
      .have bv:body=false:=by cases body with
        |true=>exact absurd (.inl rfl) ae
        |false=>rfl
       have cx:means ts n.name=[]:=Classical.byContradiction fun x=>ae (.inr x)
       have hq:(if binB n.op=true/\1=1 then R' I a9 s2 else ((I,a9),s2))=((I,a9),s2):=by
        rw[if_pos ⟨ak,rfl⟩,bg,be];show renR ts es I n.name body s2=_;unfold renR;rw[if_neg ae]
       rcases a8 with a8|a8|a8
       all_goals
        simp[go_sem,e3,e4,e6,e8,e9,a0,a5,a6,J,T,a7,aa,a8,qS];refine tR cn (.zk (zl ts) (.zs .nil)) ?_;simp[go_sem,e3,e4,e6,e8,e9,a0,a5,a6,J,T,a7,aa,a8,qS,aw.len];rw[if_pos aw.one];generalize putCells _ 0 C=PC;simp[go_sem,e3,e4,e6,e8,e9,a0,a5,a6,J,T,a7,aa,a8,qS,bv,cx];refine aK ⟨full,rr.length+5,.lst full (I.map cSb),I,P,a9,s2,av,hq,zS1 J,.inl rfl,A.keep (zS2 e3 bv) (zS1 e4) (zS1 e6) (zS1 e8) (zS1 e9) (zS1 a0) (zS1 a5) (zS1 a6) (rr.length+4) zOm ?_ zSi (fun j hj=>?_),?_,?_,fun h=>zOm⟩
        .exact az
        .simp only[qH]
         rw[T]
         match j,hj with
         | 0,_=>rfl
         | 1,_=>rfl
         | 2,_=>rfl
         | 3,_=>simp[a8]
         |i+4,hj =>
          simp only[vG];rw[zGa]
        .simp at af⊢;omega
        .have bl:dueN (qk ts es) (binB n.op) 1=(qk ts es:Int):=by unfold dueN;rw[if_pos ⟨ak,zOm⟩]
         have bm:dueN (qk ts es) (binB n.op) 2=0:=by unfold dueN;rw[zIn]
         rw[bl]at an;rw[bm];omega
     .have bw:¬n.op=15:=fun e=>ak (by simp[binB,e])
      have ca:¬n.op=45:=fun e=>ak (by simp[binB,e])
      have cb:¬n.op=46:=fun e=>ak (by simp[binB,e])
      simp[go_sem,e3,e4,e6,e8,e9,a0,a5,a6,J,T,a7,aa,bw,ca,cb,qS];refine aK ⟨full,4,.lst full (I.map cSb),I,P,a9,s2,av,by rw[if_neg (fun x=>ak x.1)],zS1 J,.inl rfl,A.same (zS1 e3) (zS1 e4) (zS1 e6) (zS1 e8) (zS1 e9) (zS1 a0) (zS1 a5) (zS1 a6) (zS1 T),?_,?_,fun h=>zOm⟩
      .simp at af⊢;omega
      .rw [<-V4 (fun x=>ak x.1)];exact an
    .have cc:¬(k:Int)=1:=by omega
     simp[go_sem,e3,e4,e6,e8,e9,a0,a5,a6,J,T,a7,cc,qS];refine aK ⟨full,4,.lst full (I.map cSb),I,P,a9,s2,av,by rw[if_neg (fun x=>aq x.2)],zS1 J,.inl rfl,A.same (zS1 e3) (zS1 e4) (zS1 e6) (zS1 e8) (zS1 e9) (zS1 a0) (zS1 a5) (zS1 a6) (zS1 T),?_,?_,fun h=>b7 zOm⟩
     .split at af<;>split<;>omega
     .rw [<-V4 (fun x=>aq x.2)];exact an
   .rintro U ⟨full,lo,sl,ab,ag,ar,s3,av,hq,J,bn,A,af,an,b7⟩
    rw[hq]at hI;simp only at hI;have b0:StOk (qk ts es) s3:=⟨A.l0,zW1 A.c0,A.c1,zW1 (Zo (qk ts es) (binB n.op) (k+1))⟩;have bo:(ab.length:Int)<=s3.sM+8:=by split at af<;>omega
    have x1:=bh n.sD[k] (qq a7) ag ab s3 b0 A.c0 A.en A.so bo;have x2:=bk n.sD[k] (qq a7) ag ab s3 b0 A.c0 A.en A.so;generalize E' ab n.sD[k] s3=q at *
    clear bh bk;rw[qfU,qfV];refine qe.fz (qnT (fun U=>∃ full,U.tm 1 = .lst full (ab.map cSb)/\AtK ts l es n body s k ab ag ar s3 ad av z U) ?_ ?_)
    .rcases bn with bn|⟨cy,az,h4⟩
     .exact FzQ.skip ⟨full,by rw[J,bn],A⟩
     .refine FzQ.own (d:=1) J cy (Yh ab) (fun r hr c hc=>by obtain⟨x,_,rfl⟩:=qn.1 hr;exact Uu x c hc) ?_
      intro da bq dt ah;refine⟨bq,zSi,A.keep (by simp[go_sem,A.e3]) (by simp[go_sem,A.e4]) (by simp[go_sem,A.e6]) (by simp[go_sem,A.e8]) (by simp[go_sem,A.e9]) (by simp[go_sem,A.e11]) (by simp[go_sem,A.e12]) (by simp[go_sem,A.e13]) lo h4 az ?_ ?_⟩
      .have:=A.ho.2.2;simp only[qH];omega
      .intro j hj;simp only[qH];exact ah j hj
    rintro U ⟨full,J,A⟩;obtain⟨rr,T⟩:=four A.m0 A.m1 A.m2 A.m3;have e3:=A.e3;have e4:=A.e4;have e6:=A.e6;have e8:=A.e8;have e9:=A.e9;have a0:=A.e11;have a5:=A.e12;have a6:=A.e13;have ai:=A.ho.one;have aj:=A.ho.cells;refine fG [0,1,2,3,4,5,6,7,8,9,10,11,12,17,13,14,15,16] [(0,0,[]),(1,0,[]),(2,0,[]),(3,0,[]),(4,0,[]),(5,0,[]),(6,0,[]),(7,0,[]),(8,1,[]),(9,0,[]),(10,0,[]),(11,0,[]),(12,0,[]),(17,0,[]),(13,2,[0,3,6]),(14,2,[0,3,6]),(15,1,[]),(16,1,[])] zKr zKr zSi ?_;simp[go_sem,e3,e4,e6,e8,e9,a0,a5,a6,J,T,a7,qS,ai,aj];refine tR x1 (.zk (uT ts l s3) (.cons (WK.lst fun r hr c hc=>by
     obtain⟨x,_,rfl⟩:=qn.1 hr;exact Uu x c hc) (.zk (qz _) (.zs .nil)))) ?_
    simp[go_sem,e3,e4,e6,e8,e9,a0,a5,a6,J,T,a7,qS,ai,aj];by_cases ao:4000<q.1.sM
    .rw [if_pos ao]at hI
     have hI:ax=(q.1,nd0,0):=hI.symm;simp[go_sem,e3,e4,e6,e8,e9,a0,a5,a6,J,T,a7,qS,ai,aj,ao];rw[hI];exact rdZ ts l q.1
    .rcases x2 with x2|⟨_,g⟩
     .exact absurd x2 ao
     rw[if_neg ao]at hI;simp[go_sem,e3,e4,e6,e8,e9,a0,a5,a6,J,T,a7,qS,ai,aj,ao];obtain⟨g1,g2,g3⟩:=Ut g b0;have gz:=g.z0;have du:=g.cz;have db:=g.c1;have gp:=g.p;have dv:=A.z1;have dw:=A.z2;have cm:=A.c0;have dc:=A.al;have df:=A.ho.2.2;refine YD.V6 (lo:=4) (xs:=ad) ?_ zOm ?_
     .have h1:OwnF 4 (U.mu++[Cell.arr (cWk ts l q.1),Cell.arr (cNd q.2.1)]) 5 av (ad.map cNd):=YD.Qi A.ho zSo fun i _ hi=>qB hi
      rw[T]at h1;have h2:=OwnF.set (i:=0) (c:=Cell.arr (cWk ts l q.1)) h1 zOm;simpa using h2
     intro cd da ay ah;have n0:=ah 0 zOm;have n1:=ah 1 zOm;have n2:=ah 2 zOm;have n3:=ah 3 zOm;simp at n0 n1 n2 n3;obtain⟨r2,cg⟩:=four n0 n1 n2 n3;have br:=ay.one;have bs:=ay.cells;have w3:qj.wrap (z+q.2.2)=z+q.2.2:=zWr;simp[go_sem,e3,e4,e6,e8,e9,a0,a5,a6,J,cg,a7,qS,br,bs,ao,w2,w3];refine aK ⟨full,ab,ag,ar,q.1,ad++[q.2.1],cd,z+q.2.2,zS1 J,⟨zS1 e3,zS1 e4,zS1 e6,zS1 e8,zS1 e9,zS1 a0,zSi,zSi,zSi,zSi,zSi,zSi,?_,A.so,A.en,zP1 dc,g1.l0,zOm,db,zOm,zOm⟩,zOm,zOm,b7,?_⟩
     .have h2:=OwnF.set (i:=3) (c:=Cell.arr [aI n.op,aS ar,aI n.n,cd,aI n.pos]) ay zOm
      rw[cg]at h2;simpa[go_sem] using h2
     .rw [<-hI]
      generalize vF E' R' (binB n.op) (k+1) ab ar (List.drop (k+1) n.sD) q.1=X;cases X with
      |error e=>rfl
      |ok r =>
       obtain⟨⟨a,b,c⟩,d⟩:=r;simp[resK];omega
  .simp [go_sem,e3,e4,e6,e8,e9,a0,a5,a6,J,T,a7,qS,ai,aj]
   refine fG [0,1,2,5,3,4] [(0,0,[]),(1,0,[]),(2,0,[]),(5,0,[]),(3,1,[1]),(4,1,[])] zKr zKr zSi ?_;simp[go_sem,e3,e4,e6,e8,e9,a0,a5,a6,J,T,a7,qS,ai,aj];rw[UF zOm]at hI;have hI:ax=(s2,.mk n.op a9 n.n ad n.pos,z):=by rw[<-hI];simp[vF,resK]
   rw[hI];refine .tup _ _ rfl fun k x y hx hy=>?_
   match k,hx,hy with
   | 0,hx,hy=>cases hx;cases hy;exact .hf _ (uT ts l s2)
   | 1,hx,hy =>
    cases hx;cases hy;have dd:eNd (.mk n.op a9 n.n ad n.pos) = .agg [aI n.op,aS a9,aI n.n,.lst false (ad.map cNd),aI n.pos]:=by
     show AV.agg (cNd _)=_;rw[yw];rfl
    show Rd _ _ (eNd (.mk n.op a9 n.n ad n.pos));rw[dd];refine .agg _ _ rfl fun k x y hx hy=>?_
    match k,hx,hy with
    | 0,hx,hy=>cases hx;cases hy;exact .zsc _
    | 1,hx,hy=>cases hx;cases hy;exact .zsc _
    | 2,hx,hy=>cases hx;cases hy;exact .zsc _
    | 3,hx,hy =>
     cases hx;cases hy;have h1:=OwnF.set (i:=1) (c:=Cell.arr (cWk ts l s2)) A.ho zOm;have h2:=OwnF.set (i:=2) (c:=Cell.arr [aI n.op,aS a9,aI n.n,av,aI n.pos]) h1 zOm;rw[T]at h2;exact h2.1.rd (YD.V5 ad).ok fun r hr c hc=>by
      obtain⟨x,_,rfl⟩:=qn.1 hr;exact yK x c hc
    | 4,hx,hy=>cases hx;cases hy;exact .zsc _
    |k+5,hx,hy=>cases hx
   | 2,hx,hy=>cases hx;cases hy;exact .zsc _
   |k+3,hx,hy=>cases hx
end
end RA
namespace RB
open YF Y9 Y1 YX YZ YB YC YE YG YH P1 P2 Q4 Q6 PF QE QT QW QX QY QZ RA
theorem qb3(l):∀ es nm,getK nm (putN es l)=some true↔(getK nm es=some true\/∃ x,x∈l/\x.name=nm):=by
 induction l with
 |nil=>intro es nm;exact⟨fun h => .inl h,fun h=>h.elim id fun⟨x,g,_⟩=>absurd g qG⟩
 |cons a l i =>
  intro es nm;have e:putN es (a :: l)=putN (setK a.name true es) l:=rfl;rw[e,i,jw];by_cases e:nm=a.name
  .grind
  .rw [if_neg e]
   constructor
   .grind
   .rintro (h|⟨x,g,j⟩)
    .exact .inl h
    .rcases qs.1 g with rfl|g
     .grind
     grind
theorem qnV(l:List Pd):∀ es nm,getK nm (l.foldl (fun es p=>putN es (preN p.body)) es)=some true↔(getK nm es=some true\/∃ p,p∈l/\∃ x,x∈preN p.body/\x.name=nm):=by
 induction l with
 |nil=>simp
 |cons a l i =>
  intro es nm;rw[List.foldl_cons,i,qb3];constructor
  .grind
  .rintro (h|⟨p,g,h⟩)
   .grind
   .rcases qs.1 g with rfl|g
    .grind
    grind
structure Ti (es:List (tV×Bool)):Prop where
 nd:(es.map Prod.fst).Nodup
 tr:∀ e,e∈es->e.2=true
theorem Ti.put(l):∀{es},Ti es->Ti (putN es l):=by
 induction l with
 |nil=>intro es h;exact h
 |cons a l i =>
  intro es h;refine i (es:=setK a.name true es) ⟨uC h.nd,fun e g=>?_⟩;rcases V9 g with rfl|g
  .rfl
  .exact h.tr e g
theorem cU(l:List Pd):∀{es},Ti es->Ti (l.foldl (fun es p=>putN es (preN p.body)) es):=by
 induction l with
 |nil=>grind
 |cons a l g=>intro es h;exact g (h.put _)
theorem Kg{nm}(n)(i:nm≠⟨#[]⟩):nm∈namL n↔∃ x,x∈preN n/\x.name=nm:=by
 unfold namL;rw[qn];constructor
 .rintro ⟨x,g,e⟩
  exact⟨x,(jC.1 g).1,e⟩
 .rintro ⟨x,g,e⟩
  exact⟨x,jC.2 ⟨g,by rw[e];simpa using i⟩,e⟩
theorem takTn(ts n):Tn (takL ts n) (yz ts n):=by
 have i:∀ nm:tV,nm≠⟨#[]⟩->(nm∈takL ts n↔getK nm (yz ts n)=some true):=fun nm o=>by
  unfold takL yz;rw[qnV,qb3,qL,Kg n o,List.mem_flatMap];constructor
  .grind [Kg]
  .rintro ((h|h)|⟨p,P,h⟩)
   .cases h
   .exact .inl h
   grind [Kg]
 refine⟨i,?_⟩;have g:Ti (yz ts n):=cU _ (Ti.put _ ⟨.nil,fun e t=>absurd t qG⟩);have:=List.Nodup.length_le_of_subset (l₂:=⟨#[]⟩ :: takL ts n) g.nd fun x C=>by
  by_cases e:x=⟨#[]⟩
  .grind
  .refine qP _ ((i x e).2 ?_)
   obtain⟨q,l,rfl⟩:=qn.1 C;have I:=g.tr q l;have J:=(wS g.nd (k:=q.1) (v:=q.2)).2 l;rw[J,I]
 grind
theorem qb4(ts)(h:okTS ts)(l es)(t:Tn l es)(J:l.length<=400000)(P:qk ts es<=200000)(g:Free ts es)(j:∀ p,p∈ts.sT->WfN p.body/\yq ts p.body):∀ f env sc n body s,Pre ts es f env sc n body s->ExpW ts l es f sc n body s
 | 0,env,sc,n,body,s,p=>zW2 p.fu p.st.c1
 |f+1,env,sc,n,body,s,p=>by
  have R:=qb4 ts h l es t J P g j f;by_cases o:s.sM+1<=4000
  case neg=>grind [expZ]
  by_cases T:n.op=1
  .grind [expN]
  by_cases h47:n.op=47
  .obtain ⟨C,I,i⟩:=p.cl n (vD n) h47
   have U:(payS 1 s).sM=s.sM+1:=rfl;exact expC ts l es f env sc n body s p o h47 C I (replW ts h l es g j f R env sc n body (payS 1 s) ⟨zW1 p.fu,(wG p.st zOm o).ok p.st,p.en,p.wf,p.cl,p.so,zW1 p.le⟩ h47 C I i)
  grind [expK]
theorem inlRU(ts)(h:okTS ts)(hv:∀ p,p∈ts.sT->qV p.body=true)(hb:∀ p,p∈ts.sT->WfN p.body/\yq ts p.body)(n)(hn:qV n=true)(a7:(ym ts [] n).1=0->yq ts n):qd qb 68 [eTS ts,eNd n] (.tup [eNd (za ts n).1,aI (za ts n).2]):=by
 have U:=jd hn;have a8:=ue.1 hn;have C:∀ p,p∈ts.sT->WfN p.body:=fun p hp=>(hb p hp).1
 have a9:∀ p,p∈ts.sT->(preN p.body).length<=400:=fun p hp=>by grind [ue,Jw]
 have aa:(preN n).length<=400:=by grind [Jw]
 have hF:=XP h hv hn;have hT:=takTn ts n;have af:=h.np;have ab:(takL ts n).length<=400000:=by
  have h1:∀ L:List Pd,(∀ p,p∈L->(preN p.body).length<=400)->(L.flatMap fun p=>namL p.body).length<=400*L.length:=by
   intro L;induction L with
   |nil=>intro _;simp
   |cons a L ih =>
    intro hL;have a1:=ih fun p hp=>hL p (qP _ hp)
    have a2:=Ur a.body;have a3:=hL a (qX ..);rw[uj,qZ,yh];omega
  grind [Ur,takL,qZ]
 have J:=Xw ts (yz ts n);have P:StOk (qk ts (yz ts n)) ⟨0,0⟩:=⟨zSp,zSp,zSp,by simp[pot]⟩;have cf:=qbN ts h C [] ⟨zSp,zSp⟩ zSp n U a8.2.2.2;have l:=nF (szN n) n (qh _) U.small;have ct:=qnH ts h C n U aa a9;have T:WKs [eTS ts,.lst true [],eNd n] [eTS ts,lPm [],eNd n] := .zk (zl ts) (.cons (WK.lst fun r hr=>absurd hr qG) (.zk (qz n) .nil));have ad:WKs [eTS ts,eNd n] [eTS ts,eNd n] := .zk (zl ts) (.zk (qz n) .nil);generalize i:za ts n=R;unfold za at i;by_cases j:(ym ts [] n).1=0
 case neg =>
  rw[if_pos j]at i;subst i;refine qSU call68 func68 rfl ?_;refine tR cf T ?_;simp[go_sem,j];refine fG [0,1,2,4,3] [(0,0,[]),(1,0,[]),(2,0,[]),(4,0,[]),(3,1,[2])] zKr zKr zSi ?_;simp_all[go_sem,Z7]
 rw[if_neg (zUs j)]at i;cases ha:anyN (fun n=>decide (n.op=47)) n with
 |false =>
  rw[ha]at i l;rw[if_pos rfl]at i;subst i;refine qSU call68 func68 rfl ?_;refine tR cf T ?_;simp[go_sem,j];refine tR l (.zk (qz n) .nil) ?_;simp[go_sem,j];exact .hf _ (HF.tup fun x hx=>by
   simp only[qs,qG,or_false]at hx;rcases hx with rfl|rfl
   .exact qz n
   .exact HF.sc _)
 |true =>
  rw[ha]at i l;rw[if_neg zSp]at i;have a0:=a7 j;have cx:=qb4 ts h (takL ts n) (yz ts n) hT ab hF J hb 4001 [] [] n false ⟨0,0⟩ ⟨zSp,P,.nil,U,a0,⟨fun nm=>rfl,fun _ nm v hv=>(by cases hv),fun e he=>absurd he qG⟩,zSp⟩;have ho:=Yg ts (yz ts n) J hb 4001 [] [] n false ⟨0,0⟩ zSp P .nil U a0 ⟨fun nm=>rfl,fun _ nm v hv=>(by cases hv),fun e he=>absurd he qG⟩;have a4:=fun {n' z s'}=>Z6 ts C (yz ts n) 4001 (env:=[]) (n:=n) (n':=n') (body:=false) (s:=⟨0,0⟩) (s':=s') (z:=z) (fun e he=>absurd he qG) U
  have a5:=fun {n' z s'}=>jl ts J 4001 (env:=[]) (n:=n) (n':=n') (body:=false) (s':=s') (z:=z) P .nil
  have a6:=fun {d}=>Js ts (yz ts n) 4001 (env:=[]) (n:=n) (body:=false) (s:=⟨0,0⟩) (d:=d)
  unfold outI at i;unfold ExpW at cx;generalize expR ts (yz ts n) 4001 [] n false ⟨0,0⟩=q at *
  generalize expI ts (yz ts n) 4001 [] n false ⟨0,0⟩=E at *
  have ae:(4000<q.1.sM/\R=(nd0,2))\/(¬ 4000<q.1.sM/\Small q.2.1/\depN q.2.1<=1000000/\((400<q.2.2/\R=(nd0,2))\/(¬ 400<q.2.2/\24<depN q.2.1/\R=(nd0,2))\/(¬ 400<q.2.2/\¬ 24<depN q.2.1/\R=(q.2.1,0)))):=by
   cases E with
   |error d =>
    have:=a6 rfl;subst this;exact .inl ⟨ho.1,i.symm⟩
   |ok r =>
    obtain⟨⟨m,y⟩,t⟩:=r;obtain⟨o1,o2,o3⟩:=ho;obtain⟨s1,s2⟩:=a4 rfl;have g:=a5 rfl;have gc:=g.c1;have gz:=g.cz;have dl:=Xu m;rw[o1,o2,o3];have gz:0+y<=t.sM:=gz;refine .inr ⟨zOm,s2,zOm,?_⟩;simp only at i;by_cases z1:y<=400
    .by_cases z2:depN m<=24
     .grind
     grind
    .rw [if_neg (fun x=>z1 x.1)]at i
     grind
  clear i ho a4 a5 a6;refine qSU call68 func68 rfl ?_;refine tR cf T ?_;simp[go_sem,j];refine tR l (.zk (qz n) .nil) ?_;simp[go_sem,j];refine fG [0,1,2,5,3,4,6,7,8,9,10,15,11,12,13,14] [(0,0,[]),(1,0,[]),(2,0,[]),(5,0,[]),(3,1,[0,5]),(4,0,[]),(6,1,[]),(7,0,[]),(8,0,[]),(9,0,[]),(10,0,[]),(15,0,[]),(11,2,[0,1,2,5]),(12,2,[0,1,2,5]),(13,1,[]),(14,1,[])] zKr zKr zSi ?_;simp[go_sem,j];refine tR ct ad ?_;simp[go_sem,j];refine tR cx ?_ ?_
  .exact .zk (uT ts (takL ts n) ⟨0,0⟩) (.cons (WK.lst fun r hr=>absurd hr qG) (.zk (qz n) (.zs .nil)))
  simp[go_sem,j];have ag:∀ I:Mu,Rd I (.tup [eNd q.2.1,aI 0]) (.tup [eNd q.2.1,aI 0]):=fun I => .hf _ (HF.tup fun x hx=>by
   simp only[qs,qG,or_false]at hx;rcases hx with rfl|rfl
   .exact qz _
   .exact HF.sc _)
  rcases ae with ⟨g1,g2⟩|⟨g1,gs,gd,⟨g2,g3⟩|⟨g2,g3,g4⟩|⟨g2,g3,g4⟩⟩
  .simp_all [go_sem,g1,Z7]
  .rw [g3]
   simp[go_sem,j,g1,g2];exact Z7 _ _
  .rw [g4]
   simp[go_sem,j,g1,g2];refine tR (Kc (szN q.2.1) q.2.1 (qh _) gs gd) (.zk (qz _) .nil) ?_;simp_all[go_sem,g1,Z7]
  .rw [g4]
   simp[go_sem,j,g1,g2];refine tR (Kc (szN q.2.1) q.2.1 (qh _) gs gd) (.zk (qz _) .nil) ?_;simp[go_sem, *]
end RB
namespace FF
end FF
namespace IB
open QU P1 P2 Y1 YF Y9 Y10 Y16 PA YC YG YH Q4 Q6 PF RB FE
section
variable {ts:TS}
structure SpD (ts:TS):Prop where
 h:okTS ts
 wp:∀ p,p∈ts.sT->WfN p.body
 wf:∀ f,f∈ts.sP->WfN f.2
 hv:∀ p,p∈ts.sT->qV p.body=true
 hf:∀ f,f∈ts.sP->qV f.2=true
theorem SpD.chk(S:SpD ts):qd qb 30 [eTS ts] (lDg (yG ts)):=
 qnC ts S.h S.wp S.wf (fun p g=>(ue.1 (S.hv p g)).2.2.2) (fun f hf=>(ue.1 (S.hf f hf)).2.2.2)
theorem qb5(S:SpD ts)(j:yG ts=[]):∀ p,p∈ts.sT->WfN p.body/\yq ts p.body:=fun p g=>⟨S.wp p g,by
 obtain⟨i,l,rfl⟩:=List.mem_iff_getElem.1 g;obtain⟨_,t,o⟩:=Jv (qaP j i l);exact XM (jS S.h zOm) (szN ts.sT[i].body) _ _ _ _ (qh _) o (S.wp _ g)⟩
theorem qb6(S:SpD ts){n}(g:qV n=true)(i:(ym ts [] n).1=0):yq ts n:=by
 obtain⟨_,l,j⟩:=Jv i;exact XM (jS S.h (qh _)) (szN n) _ _ _ _ (qh _) j (jd g)
theorem inlC(S:SpD ts)(i:yG ts=[]){n}(g:qV n=true):qd qb 47 [eTS ts,eNd n] (.tup [eNd (za ts n).1,aI (za ts n).2]):=
 qkL ts S.h (qb5 S i) n (jd g) (qb6 S g) (XP S.h S.hv g)
theorem inlR(S:SpD ts)(i:yG ts=[]){n}(g:qV n=true):qd qb 68 [eTS ts,eNd n] (.tup [eNd (za ts n).1,aI (za ts n).2]):=
 inlRU ts S.h S.hv (qb5 S i) n g (qb6 S g)
theorem Kh(S:SpD ts)(o:yG ts=[]){n}(j:qV n=true)(g:(za ts n).2=0):qV (za ts n).1=true:=by
 by_cases i:(ym ts [] n).1=0
 .cases l:anyN (fun n=>decide (n.op=47)) n with
  |false =>
   have:za ts n=(n,0):=by unfold za;rw[if_neg (zUs i),if_pos l]
   rw[this];exact j
  |true=>exact(qaS S.h S.hv o j i l (Prod.ext rfl g)).1
 .unfold za at g
  rw[if_pos i]at g;exact absurd g i
def qnW(ts:TS)(a s:Int)(l:List Nd):Bool:=l.all fun b=>!(decide ((za ts b).2=0)&&decide (3000<wkN a s (za ts b).1))
def qb7(ts:TS)(a s:Int)(n:Nd):Bool:=qnW ts a s (ts.sP.map Prod.snd++[n])
theorem qnX(S:SpD ts)(g:yG ts=[]){n}(i:qV n=true)(j:(za ts n).2=0):Small (za ts n).1:=(jd (Kh S g i j)).small
end
end IB
namespace IN
open Y1 P1 YF
def Ql(I:Nd->Nd×Int)(W:Nd->Int)(l:List Nd):Bool:=l.all fun b=>!(decide ((I b).2=0)&&decide (3000<W (I b).1))
theorem qnY(ts I W)(a3:ts.sP.length<=1000)(a s n)(step:∀ b,b∈ts.sP.map Prod.snd++[n]->qd qb 68 [eTS ts,eNd b] (.tup [eNd (I b).1,aI (I b).2]))(zQ:∀ b,b∈ts.sP.map Prod.snd++[n]->(I b).2=0->qd qb 35 [eNd (I b).1,aI a,aI s] (aI (W (I b).1))):qd qb 36 [eTS ts,aI a,aI s,eNd n] (aB (Ql I W (ts.sP.map Prod.snd++[n]))):=by
 have a4:(ts.sP.map Prod.snd++[n]).length=ts.sP.length+1:=zSp;have C:∀(k:Nat)(h:k<ts.sP.length)(h2:k<(ts.sP.map Prod.snd++[n]).length),(ts.sP.map Prod.snd++[n])[k]=ts.sP[k].2:=fun k h h2=>by grind
 have J:∀(h2:ts.sP.length<(ts.sP.map Prod.snd++[n]).length),(ts.sP.map Prod.snd++[n])[ts.sP.length]=n:=fun h2=>zSp
 generalize ts.sP.map Prod.snd++[n]=L at *
 generalize hR:Ql I W L=R;refine qSU call36 func36 rfl ?_;refine fZ (ts.sP.length+1) (fun k U=>U.tm 1=aI a/\U.tm 2=aI s/\U.tm 4 = .ip (cTS ts)/\U.tm 7 = .ip (cNd n)/\U.tm 9=aI k/\Ql I W (L.drop k)=R) ?_ ?_
 .simp [go_sem, *]
 rintro k U a5 ⟨P,T,p,e7,t,g⟩;have wi:∀ b:Nd,WKs [eTS ts,eNd b] [eTS ts,eNd b]:=fun b => .zk (zl ts) (.zk (qz b) .nil)
 have ww:∀ b:Nd,WKs [eNd b,aI a,aI s] [eNd b,aI a,aI s]:=fun b => .zk (qz b) (.zs (.zs .nil))
 have w1:=zWk k;by_cases l:k<ts.sP.length+1
 .have i:k<L.length:=by omega
  have a1:k<=ts.sP.length:=zOm;have a0:(k:Int)<=ts.sP.length:=zOm;have c1:=step _ (qq i);have c2:=zQ _ (qq i);rw[qY i,Ql,List.all_cons]at g;by_cases hf:k<ts.sP.length
  .rw [C k hf i]at g c1 c2
   generalize I ts.sP[k].2=ib at *
   obtain⟨b',e'⟩:=ib;simp only at g c1 c2;simp[go_sem,p,e7,t,hf,a1,a0];refine fB c1 (wi _) ?_;by_cases he:e'=0
   .subst he
    have c3:=c2 rfl;simp[go_sem,P,T];refine tR c3 (ww b') ?_;generalize W b'=w at *
    by_cases j:3000<w
    .simp [j]at g
     subst g;simp[go_sem,j];exact .zsc _
    .simp [j]at g
     simp[go_sem,j,t,w1,l];exact aK ⟨zS1 P,zS1 T,zS1 p,by simp[go_sem,e7],zSi,by simpa[Ql] using g⟩
   simp_all[go_sem,aK,Ql]
  .have o:k=ts.sP.length:=by omega
   subst o;rw[J i]at g c1 c2;generalize I n=ib at *
   obtain⟨b',e'⟩:=ib;simp only at g c1 c2;simp[go_sem,p,e7,t];refine fB c1 (wi _) ?_;by_cases he:e'=0
   .subst he
    have c3:=c2 rfl;simp[go_sem,P,T];refine tR c3 (ww b') ?_;generalize W b'=w at *
    by_cases j:3000<w
    .simp [j]at g
     subst g;simp[go_sem,j];exact .zsc _
    .simp [j]at g
     simp[go_sem,j,t,w1,l];exact aK ⟨zS1 P,zS1 T,zS1 p,by simp[go_sem,e7],zSi,by simpa[Ql] using g⟩
   .simp [he]at g
    simp[go_sem,he,t,w1,l];exact aK ⟨zS1 P,zS1 T,zS1 p,by simp[go_sem,e7],zSi,by simpa[Ql] using g⟩
 .have o:k=ts.sP.length+1:=by omega
  subst o;rw[UF zOm]at g;have a2:R=true:=by rw[<-g];rfl
  subst a2;simp[go_sem,p,t,show ¬((ts.sP.length:Int)+1<=ts.sP.length) by omega];exact .zsc _
end IN
namespace IF
open P1 Y1 YF Y16 YG Q4 FE IB IN
theorem qnZ{ts}(S:SpD ts)(i:yG ts=[])(a s)(l:0<=a/\a<=100)(o:0<=s/\s<=100){n}(p:qV n=true):qd qb 36 [eTS ts,aI a,aI s,eNd n] (aB (qb7 ts a s n)):=by
 have j:∀ b,b∈ts.sP.map Prod.snd++[n]->qV b=true:=fun b g=>by
  rcases qL.1 g with h|h
  .obtain ⟨f,hf,rfl⟩:=qn.1 h
   exact S.hf f hf
  .rw [qO]at h;subst h;exact p
 exact qnY ts (za ts) (wkN a s) (zW1 S.h.nfa) a s n (fun b g=>inlR S i (j b g)) (fun b g t=>Ke a s l o _ _ (qh _) (qnX S i (j b g) t))
end IF
set_option maxHeartbeats 1000000
namespace OJ
open Y1 P1 YF Y16 Q4 Q8 OI
def jN(n:Nd):Bool:=decide (cntN n 40<=40)&&qV n
theorem Ki(n):qd qb 28 [eNd n] (aB (jN n)):=by
 refine qSV call28 func28 rfl ?_;unfold jN;simp[go_sem];refine tR (qnR n 40 zOm) (.zk (qz n) (.zs .nil)) ?_;by_cases h:cntN n 40<=40
 .simp [go_sem,h]
  refine fB (qi3 n) (.zk (qz n) .nil) ?_;exact .zsc _
 .simp [go_sem,h]
  exact .zsc _
def sz1(b:Bd):Bool:=decide (b.lo.ts.length<=200)&&decide (b.up.ts.length<=200)
theorem qn0(bs)(hl:bs.length<=1000000):qd qb 33 [lBd bs] (aB (bs.all sz1)):=by
 refine qSV call33 func33 rfl ?_;generalize C:bs.all sz1=R;simp[go_sem];refine fZ bs.length (fun k U=>U.tm 0=lBd bs/\U.tm 3=aI k/\(bs.drop k).all sz1=R) ?_ ?_
 .exact ⟨zSi,zSi,zUs C⟩
 rintro k U hk ⟨o,t,g⟩;by_cases i:k<bs.length
 .have w1:=zWk k
  rw[qY i,List.all_cons]at g;generalize I:bs[k]=b at *
  by_cases P:b.lo.ts.length<=200
  .have j:¬(200:Int)<b.lo.ts.length:=by omega
   by_cases T:b.up.ts.length<=200
   .have l:¬(200:Int)<b.up.ts.length:=by omega
    have p:sz1 b=true:=by unfold sz1;simp[P,T]
    rw[p,Bool.true_and]at g;simp[go_sem,o,t,i,I,j,l,w1]
    try refine⟨i,aK ?_⟩
    exact⟨zS1 o,zSi,g⟩
   .have l:(200:Int)<b.up.ts.length:=by omega
    have p:sz1 b=false:=by unfold sz1;simp[T]
    rw[p,Bool.false_and]at g;subst g;simp[go_sem,o,t,i,I,j,l];exact .zsc _
  .have j:(200:Int)<b.lo.ts.length:=by omega
   have p:sz1 b=false:=by unfold sz1;simp[P]
   rw[p,Bool.false_and]at g;subst g;simp[go_sem,o,t,i,I,j];exact .zsc _
 .have J:k=bs.length:=by omega
  subst J;rw[zF]at g;replace g:true=R:=g;subst g;simp[go_sem,o,t];exact .zsc _
def srt1(ns:Nat)(x:Int):Bool:=decide (0<=x)&&decide (x<ns)
def prB(ns:Nat)(p:Pd):Bool:=p.params.all fun q=>srt1 ns q.2
def shpB(ts:TS):Bool:=ts.sA.all (fldB ts.sS.length)&&ts.sT.all (prB ts.sS.length)
theorem qn1(ts)(hf:ts.sA.length<=1000000)(hp:ts.sT.length<=1000000)(hq:∀ p,p∈ts.sT->p.params.length<=1000000)(hs:ts.sS.length<=1000000):qd qb 29 [eTS ts] (aB (shpB ts)):=by
 refine qSV call29 func29 rfl ?_;generalize a2:shpB ts=R;simp[go_sem];refine fZ ts.sA.length (fun k U=>U.tm 1 = .ip (cTS ts)/\U.tm 3=aI k/\((ts.sA.drop k).all (fldB ts.sS.length)&&ts.sT.all (prB ts.sS.length))=R) ?_ ?_
 .exact ⟨zSi,zSi,by simpa[shpB] using a2⟩
 rintro k U hk ⟨l,T,g⟩;by_cases i:k<ts.sA.length
 .have w1:=zWk k
  rw[qY i,List.all_cons]at g;generalize I:ts.sA[k]=f at *
  by_cases h1:1<=f.sS.length
  .have a0:¬(f.sS.length:Int)<1:=by omega
   by_cases h3:f.sS.length<=3
   .have a1:¬(3:Int)<f.sS.length:=by omega
    have hF:fldB ts.sS.length f=f.sS.all (srt1 ts.sS.length):=by unfold fldB;simp[h1,h3];rfl
    rw[hF]at g;simp[go_sem,l,T,i,I,a0,a1];rw[Bool.and_assoc]at g;refine fZ f.sS.length (fun j U=>U.tm 1 = .ip (cTS ts)/\U.tm 3=aI k/\U.tm 4=aI j/\((f.sS.drop j).all (srt1 ts.sS.length)&&((ts.sA.drop (k+1)).all (fldB ts.sS.length)&&ts.sT.all (prB ts.sS.length)))=R) ?_ ?_
    .exact ⟨zS1 l,zS1 T,zSi,zUs g⟩
    clear l T g;rintro j U hj ⟨l,T,e4,g⟩;by_cases o:j<f.sS.length
    .have w2:=zWk j
     rw[qY o,List.all_cons,Bool.and_assoc]at g;generalize hx:f.sS[j]=x at *
     simp[go_sem,l,T,e4,i,I,o];refine fG [0,1,2,3,4,5,6,7,8,9,10,11,12,13,14,15,16,17,18,19,20,21,22,23,24] [(0,0,[]),(1,0,[]),(2,0,[]),(3,0,[]),(4,0,[]),(5,0,[]),(6,0,[]),(7,0,[]),(8,0,[]),(9,0,[]),(10,0,[]),(11,0,[]),(12,0,[]),(13,0,[]),(14,0,[]),(15,0,[]),(16,0,[]),(17,0,[]),(18,0,[]),(19,0,[]),(20,0,[]),(21,0,[]),(22,0,[]),(23,0,[]),(24,0,[])] zKr zKr zSi ?_;by_cases x0:0<=x
     .have C:¬x<0:=by omega
      by_cases xl:x<ts.sS.length
      .have J:¬(ts.sS.length:Int)<=x:=by omega
       have t:srt1 ts.sS.length x=true:=by unfold srt1;simp[x0,xl]
       rw[t,Bool.true_and]at g;simp[go_sem,l,T,e4,i,I,o,hx,C,J,w2]
       try refine⟨o,aK ?_⟩
       exact⟨zS1 l,zS1 T,zSi,g⟩
      .have J:(ts.sS.length:Int)<=x:=by omega
       have t:srt1 ts.sS.length x=false:=by unfold srt1;simp[xl]
       rw[t,Bool.false_and]at g;subst g;simp[go_sem,l,T,e4,i,I,o,hx,C,J];exact .zsc _
     .have C:x<0:=by omega
      have t:srt1 ts.sS.length x=false:=by unfold srt1;simp[x0]
      rw[t,Bool.false_and]at g;subst g;simp[go_sem,l,T,e4,i,I,o,hx,C];exact .zsc _
    .have P:j=f.sS.length:=by omega
     subst P;rw[zF]at g;replace g:(true&&((ts.sA.drop (k+1)).all (fldB ts.sS.length)&&ts.sT.all (prB ts.sS.length)))=R:=g;rw[Bool.true_and]at g;simp[go_sem,l,T,e4,i,I,w1]
     try refine⟨i,aK ?_⟩
     exact⟨zS1 l,zSi,g⟩
   .have a1:(3:Int)<f.sS.length:=by omega
    have hF:fldB ts.sS.length f=false:=by unfold fldB;simp[h3]
    rw[hF,Bool.false_and,Bool.false_and]at g;subst g;simp[go_sem,l,T,i,I,a0,a1];exact .zsc _
  .have a0:(f.sS.length:Int)<1:=by omega
   have hF:fldB ts.sS.length f=false:=by unfold fldB;simp[h1]
   rw[hF,Bool.false_and,Bool.false_and]at g;subst g;simp[go_sem,l,T,i,I,a0];exact .zsc _
 .have P:k=ts.sA.length:=by omega
  subst P;rw[zF]at g;replace g:(true&&ts.sT.all (prB ts.sS.length))=R:=g;rw[Bool.true_and]at g;simp[go_sem,l,T];refine fZ ts.sT.length (fun k U=>U.tm 1 = .ip (cTS ts)/\U.tm 5=aI k/\(ts.sT.drop k).all (prB ts.sS.length)=R) ?_ ?_
  .exact ⟨zS1 l,zSi,zUs g⟩
  clear l T g;rintro k U hk ⟨l,e5,g⟩;by_cases i:k<ts.sT.length
  .have w1:=zWk k
   rw[qY i,List.all_cons]at g;have a3:=hq _ (qq i);generalize I:ts.sT[k]=f at *
   unfold prB at g;simp[go_sem,l,e5,i,I];refine fZ f.params.length (fun j U=>U.tm 1 = .ip (cTS ts)/\U.tm 5=aI k/\U.tm 6=aI j/\((f.params.drop j).all (fun q=>srt1 ts.sS.length q.2)&&(ts.sT.drop (k+1)).all (prB ts.sS.length))=R) ?_ ?_
   .exact ⟨zS1 l,zS1 e5,zSi,g⟩
   clear l e5 g;rintro j U hj ⟨l,e5,e6,g⟩;by_cases o:j<f.params.length
   .have w2:=zWk j
    rw[qY o,List.all_cons,Bool.and_assoc]at g;generalize hx:f.params[j]=x at *
    obtain⟨xn,xs⟩:=x;simp only at g;simp[go_sem,l,e5,e6,i,I,o];refine fG [0,1,2,3,4,5,6,7,8,9,10,11,12,13,14,15,16,17,18,19,20,21,22,23,24,25,26] [(0,0,[]),(1,0,[]),(2,0,[]),(3,0,[]),(4,0,[]),(5,0,[]),(6,0,[]),(7,0,[]),(8,0,[]),(9,0,[]),(10,0,[]),(11,0,[]),(12,0,[]),(13,0,[]),(14,0,[]),(15,0,[]),(16,0,[]),(17,0,[]),(18,0,[]),(19,0,[]),(20,0,[]),(21,0,[]),(22,0,[]),(23,0,[]),(24,0,[]),(25,0,[]),(26,0,[])] zKr zKr zSi ?_;by_cases x0:0<=xs
    .have C:¬xs<0:=by omega
     by_cases xl:xs<ts.sS.length
     .have J:¬(ts.sS.length:Int)<=xs:=by omega
      have t:srt1 ts.sS.length xs=true:=by unfold srt1;simp[x0,xl]
      rw[t,Bool.true_and]at g;simp[go_sem,l,e5,e6,i,I,o,hx,C,J,w2]
      try refine⟨o,aK ?_⟩
      exact⟨zS1 l,zS1 e5,zSi,g⟩
     .have J:(ts.sS.length:Int)<=xs:=by omega
      have t:srt1 ts.sS.length xs=false:=by unfold srt1;simp[xl]
      rw[t,Bool.false_and]at g;subst g;simp[go_sem,l,e5,e6,i,I,o,hx,C,J];exact .zsc _
    .have C:xs<0:=by omega
     have t:srt1 ts.sS.length xs=false:=by unfold srt1;simp[x0]
     rw[t,Bool.false_and]at g;subst g;simp[go_sem,l,e5,e6,i,I,o,hx,C];exact .zsc _
   .have P:j=f.params.length:=by omega
    subst P;rw[zF]at g;replace g:(true&&(ts.sT.drop (k+1)).all (prB ts.sS.length))=R:=g;rw[Bool.true_and]at g;simp[go_sem,l,e5,e6,i,I,w1]
    try refine⟨i,aK ?_⟩
    exact⟨zS1 l,zSi,g⟩
  .have P:k=ts.sT.length:=by omega
   subst P;rw[zF]at g;replace g:true=R:=g;subst g;simp[go_sem,l,e5];exact .zsc _
def prT(p:Pd):Bool:=jN p.body&&decide (p.params.length<=4)
structure uU (ts:TS) (sc:Sc) (bs:List Bd) (n:Nd):Prop where
 so:ts.sS.length<=4
 fl:ts.sA.length<=4
 pr:ts.sT.length<=4
 fa:ts.sP.length<=4
 at4:sc.sC.length<=4
 bl:bs.length<=4
 tn:jN n=true
 tp:∀ p,p∈ts.sT->prT p=true
 tf:∀ f,f∈ts.sP->jN f.2=true
 sh:shpB ts=true
def JH(ts:TS)(sc:Sc)(bs:List Bd)(n:Nd)(D:List Dg)(g v:Bool)(wk:Int)(lt:Bool):Bool:=
 decide (ts.sS.length<=4)&&(decide (ts.sA.length<=4)&&(decide (ts.sT.length<=4)&&(decide (ts.sP.length<=4)&&(decide (sc.sC.length<=4)&&(decide (bs.length<=4)&&(jN n&&(ts.sT.all prT&&((ts.sP.all fun f=>jN f.2)&&(shpB ts&&(decide (D.length=0)&&(g&&(decide (sumI sc.sC<=5)&&(bs.all sz1&&(v&&(decide (wk<=2000)&&lt)))))))))))))))
theorem qn2(ts sc bs n D o v wk lt)
  (hD:uU ts sc bs n->qd qb 30 [eTS ts] (lDg D))
  (hS:uU ts sc bs n->qd qb 31 [eTS ts,eSc sc] (aB o))
  (hA:o=true->qd qb 32 [eSc sc] (aI (sumI sc.sC)))
  (hV:uU ts sc bs n->D=[]->o=true->sumI sc.sC<=5->bs.all sz1=true->qd qb 34 [eTS ts,eSc sc,lBd bs] (aB v))
  (hW:uU ts sc bs n->qd qb 35 [eNd n,aI 5,aI 4] (aI wk))
  (hL:uU ts sc bs n->D=[]->qd qb 36 [eTS ts,aI 5,aI 4,eNd n] (aB lt)) :
  qd qb 7 [eTS ts,eSc sc,lBd bs,eNd n] (aB (JH ts sc bs n D o v wk lt)):=by
 generalize g:JH ts sc bs n D o v wk lt=R;unfold JH at g;refine qSV call7 func7 rfl ?_;by_cases ms:ts.sS.length<=4
 case neg =>
  have ls:(4:Int)<ts.sS.length:=zOm;rw[decide_eq_false ms]at g;simp at g;subst g;simp[go_sem,ls];exact .zsc _
 have ls:¬(4:Int)<ts.sS.length:=zOm;rw[decide_eq_true ms]at g;by_cases mf:ts.sA.length<=4
 case neg =>
  have lf:(4:Int)<ts.sA.length:=zOm;rw[decide_eq_false mf]at g;simp at g;subst g;simp[go_sem,ls,lf];exact .zsc _
 have lf:¬(4:Int)<ts.sA.length:=zOm;rw[decide_eq_true mf]at g;by_cases mp:ts.sT.length<=4
 case neg =>
  have lp:(4:Int)<ts.sT.length:=zOm;rw[decide_eq_false mp]at g;simp at g;subst g;simp[go_sem,ls,lf,lp];exact .zsc _
 have lp:¬(4:Int)<ts.sT.length:=zOm;rw[decide_eq_true mp]at g;by_cases ma:ts.sP.length<=4
 case neg =>
  have la:(4:Int)<ts.sP.length:=zOm;rw[decide_eq_false ma]at g;simp at g;subst g;simp[go_sem,ls,lf,lp,la];exact .zsc _
 have la:¬(4:Int)<ts.sP.length:=zOm;rw[decide_eq_true ma]at g;by_cases mc:sc.sC.length<=4
 case neg =>
  have lc:(4:Int)<sc.sC.length:=zOm;rw[decide_eq_false mc]at g;simp at g;subst g;simp[go_sem,ls,lf,lp,la,lc];exact .zsc _
 have lc:¬(4:Int)<sc.sC.length:=zOm;rw[decide_eq_true mc]at g;by_cases mb:bs.length<=4
 case neg =>
  have lb:(4:Int)<bs.length:=zOm;rw[decide_eq_false mb]at g;simp at g;subst g;simp[go_sem,ls,lf,lp,la,lc,lb];exact .zsc _
 have lb:¬(4:Int)<bs.length:=zOm;rw[decide_eq_true mb]at g;simp only[Bool.true_and]at g;simp[go_sem,ls,lf,lp,la,lc,lb];refine tR (Ki n) (.zk (qz n) .nil) ?_;cases ht:jN n with
 |false =>
  rw[ht]at g;replace g:false=R:=g;subst g;simp[go_sem];exact .zsc _
 |true =>
 rw[ht,Bool.true_and]at g;simp[go_sem];refine fZ ts.sT.length (fun k U=>U.tm 2=lBd bs/\U.tm 4 = .ip (cTS ts)/\U.tm 5 = .ip [lI sc.sC,aI sc.sN]/\U.tm 7 = .ip (cNd n)/\U.tm 9=aI k/\(∀ p,p∈ts.sT.take k->prT p=true)) ?_ ?_
 .exact ⟨zSi,zSi,zSi,zSi,zSi,zSp⟩
 rintro k U hk ⟨e2,l,e5,e7,e9,j⟩;by_cases i:k<ts.sT.length
 .have w1:=zWk k
  have a0:ts.sT.take (k+1)=ts.sT.take k++[ts.sT[k]]:=uh i;have C:=qq i;generalize hp:ts.sT[k]=I at *
  have t:prT I=false->R=false:=fun h=>by
   rw[<-g];have:ts.sT.all prT=false:=List.all_eq_false.2 ⟨I,C,zP1 h⟩;rw[this];rfl
  simp[go_sem,l,e9,i,hp];refine tR (Ki I.body) (.zk (qz I.body) .nil) ?_;cases hb:jN I.body with
  |false =>
   rw[t (by unfold prT;rw[hb];rfl)];simp[go_sem];exact .zsc _
  |true =>
   by_cases c:I.params.length<=4
   .have c':¬(4:Int)<I.params.length:=by omega
    have hy:prT I=true:=by unfold prT;rw[hb,decide_eq_true c];rfl
    simp[go_sem,l,e9,i,hp,c',w1]
    try refine⟨i,aK ?_⟩
    refine⟨zS1 e2,zS1 l,zS1 e5,by simp[go_sem,e7],zSi,fun p J=>?_⟩;rw[a0]at J;rcases qL.1 J with h|h
    .exact j p h
    .rw [qO]at h;subst h;exact hy
   .have c':(4:Int)<I.params.length:=by omega
    rw[t (by unfold prT;rw[decide_eq_false c];simp)];simp[go_sem,l,e9,i,hp,c'];exact .zsc _
 have a1:k=ts.sT.length:=zOm;subst a1;rw[zi]at j;rw[qR.2 j,Bool.true_and]at g;simp[go_sem,l,e9];refine fZ ts.sP.length (fun k U=>U.tm 2=lBd bs/\U.tm 4 = .ip (cTS ts)/\U.tm 5 = .ip [lI sc.sC,aI sc.sN]/\U.tm 7 = .ip (cNd n)/\U.tm 10=aI k/\(∀ p,p∈ts.sP.take k->jN p.2=true)) ?_ ?_
 .exact ⟨zS1 e2,zS1 l,zS1 e5,by simp[go_sem,e7],zSi,zSp⟩
 clear e2 l e5 e7 e9;rintro k U hk ⟨e2,l,e5,e7,a2,T⟩;by_cases i:k<ts.sP.length
 .have w1:=zWk k
  have a0:ts.sP.take (k+1)=ts.sP.take k++[ts.sP[k]]:=uh i;have C:=qq i;generalize hp:ts.sP[k]=I at *
  obtain⟨fn,fb⟩:=I;simp[go_sem,l,a2,i,hp];refine tR (Ki fb) (.zk (qz fb) .nil) ?_;cases hb:jN fb with
  |false =>
   have t:R=false:=by
    rw[<-g];have:(ts.sP.all fun f=>jN f.2)=false:=List.all_eq_false.2 ⟨(fn,fb),C,zP1 hb⟩;rw[this];rfl
   rw[t];simp[go_sem];exact .zsc _
  |true =>
   simp[go_sem,l,a2,w1]
   try refine⟨i,aK ?_⟩
   refine⟨zS1 e2,zS1 l,zS1 e5,by simp[go_sem,e7],zSi,fun p J=>?_⟩;rw[a0]at J;rcases qL.1 J with h|h
   .exact T p h
   .rw [qO]at h;subst h;exact hb
 have a1:k=ts.sP.length:=zOm;subst a1;rw[zi]at T;rw[qR.2 T,Bool.true_and]at g;simp[go_sem,l,a2];refine tR (qn1 ts zOm zOm (fun p hp=>by have:=j p hp;unfold prT at this;simp at this;omega) zOm) (.zk (zl ts) .nil) ?_;cases a3:shpB ts with
 |false =>
  rw[a3]at g;replace g:false=R:=g;subst g;simp[go_sem];exact .zsc _
 |true =>
 rw[a3,Bool.true_and]at g;have P:uU ts sc bs n:=⟨ms,mf,mp,ma,mc,mb,ht,j,T,a3⟩;simp[go_sem,l];refine tR (hD P) (.zk (zl ts) .nil) ?_;cases D with
 |cons d D' =>
  have t:R=false:=by
   rw[<-g];rfl
  have a4:¬(D'.length:Int)+1=0:=zOm;rw[t];simp[go_sem,a4];exact .zsc _
 |nil =>
 replace g:(o&&(decide (sumI sc.sC<=5)&&(bs.all sz1&&(v&&(decide (wk<=2000)&&lt)))))=R:=g;simp[go_sem,l,e5];refine tR (hS P) (.zk (zl ts) (.zk (zp _) .nil)) ?_;cases o with
 |false =>
  replace g:false=R:=g;subst g;simp[go_sem];exact .zsc _
 |true =>
 rw[Bool.true_and]at g;simp[go_sem,e5];refine tR (hA rfl) (.zk (zp _) .nil) ?_;by_cases c5:sumI sc.sC<=5
 case neg =>
  rw[decide_eq_false c5]at g;replace g:false=R:=g;subst g;simp[go_sem,c5];exact .zsc _
 rw[decide_eq_true c5,Bool.true_and]at g;simp[go_sem,c5,e2];refine tR (qn0 bs zOm) (.zk (jJ _) .nil) ?_;cases hz:bs.all sz1 with
 |false =>
  rw[hz]at g;replace g:false=R:=g;subst g;simp[go_sem];exact .zsc _
 |true =>
 rw[hz,Bool.true_and]at g;simp[go_sem,e2,l,e5];refine tR (hV P rfl rfl c5 hz) (.zk (zl ts) (.zk (zp _) (.zk (jJ _) .nil))) ?_;cases v with
 |false =>
  replace g:false=R:=g;subst g;simp[go_sem];exact .zsc _
 |true =>
 rw[Bool.true_and]at g;simp[go_sem,e7];refine tR (hW P) (.zk (qz n) (.zs (.zs .nil))) ?_;by_cases cw:wk<=2000
 case neg =>
  rw[decide_eq_false cw]at g;replace g:false=R:=g;subst g;simp[go_sem,cw];exact .zsc _
 rw[decide_eq_true cw,Bool.true_and]at g;subst g;simp[go_sem,cw,l,e7];refine fB (hL P rfl) (.zk (zl ts) (.zs (.zs (.zk (qz n) .nil)))) ?_;exact .zsc _
end OJ
namespace O8
open Y1 EO F4
theorem cV{P mu}{t g e sz bt b:Nat}{x cells ys zv K}(I:qF P t=some (e,sz,bt))(j:(qF P g).isSome=true)(J:qy P e=some zv)
  (l:zv.cells.length=sz) (o:zv.cells.all AV.one=true) (p:sz≠0) (R:bt<=16384) (T:mu[b]?=some (.arr cells)) (U:qE mu x=some ys) (wy:qW sz ys) (hl:ys.length<=4294967296)
  (k:∀ av mu',Own mu' sz av ys->(∀ i,i<mu.length->i≠b->mu'[i]?=mu[i]?)->(∀ b,qw av=some b->b=mu.length)->mu.length<=mu'.length->K av mu'):qu P mu #[t,g] (.sl b sz 0 0) x K:=by
 refine .inl ?_;refine⟨t,g,e,sz,bt,ys,rfl,I,j,⟨zv,J,l,o⟩,p,R,U,wy,?_⟩;refine .inr ⟨b,0,cells,rfl,T,zOm,zOm,?_⟩;refine k _ _ (.inr ⟨mu.length,zSp,?_⟩) (fun i hi C=>?_) (fun b h=>by cases h;rfl) zSp
 .rw [zY zSp];simp
 .rw [qB (zUs hi)]
  rw[zA (fun e=>C (by rw[e]))]
def OwnZ(mu:Mu)(sz:Nat)(av:AV):Prop:=av = .lst true []\/∃ b c,av = .sl b sz 0 0/\mu[b]?=some (.arr c)
theorem growN(mu)(n:Nat)(I:n<=1000000):qr qb 110 [.lst true [],aI n] mu fun e m=>∃ av,e = .ret av/\OwnZ m 5 av/\(∀ i,i<mu.length->m[i]?=mu[i]?)/\mu.length<=m.length/\∀ b,qw av=some b->mu.length<=b:=by
 refine qSW call110 func110 rfl {} ?_;have l:qj.wrap 0=0:=zWr;have p:qj.wrap (n:Int)=n:=zWr;have g:¬(n:Int)<0:=zOm;by_cases t:n=0
 .subst t
  simp[go_sem,l];exact⟨.inl rfl,by simp[qw]⟩
 .have o:0<n:=by omega
  simp[go_sem,l,p,g,o];refine⟨⟨_,_,⟨rfl,rfl⟩,fun r j=>by simp at j⟩,?_⟩;refine .inr (.inr ⟨_,_,34,5,64,.agg [aI 0,aS ⟨#[]⟩,aI 0,.lst true [],aI 0],n,[],rfl,zSi,zSi,zSi,rfl,rfl,zOm,zOm,rfl,o,rfl,fun r j=>by simp at j,zSo,?_⟩);simp[go_sem];refine⟨.inr ⟨mu.length,_,rfl,by simp;rfl⟩,fun i C=>by rw[qB C],by simp[qw]⟩
theorem qn3(mu a b)(ha:a.length<=100000)(hb:b.length<=100000):qr qb 45 [.lst true [[lNd a],[lNd b]]] mu fun e m=>∃ av,e = .ret av/\Own m 5 av ((a++b).map cNd):=by
 refine qSW call45 func45 rfl {} ?_;have v1:qj.wrap 1=1:=zWr;have v2:qj.wrap 2=2:=zWr;have J:=ZO a;have wb:=ZO b;simp[go_sem];have n0:¬((a.length:Int)+b.length)<0:=zOm;refine qi.up 2 (fun k U=>U.tm 0 = .lst true [[lNd a],[lNd b]]/\U.tm 3=aI ((if 0<k then (a.length:Int) else 0)+(if 1<k then (b.length:Int) else 0))/\U.tm 9 = .lst true [[lNd a],[lNd b]]/\U.tm 10=aI 2/\U.tm 11=aI k/\U.mu=mu) ?_ ?_
 .simp [go_sem]
 rintro k U hk ⟨e0,e3,e9,P,R,hm⟩;by_cases T:k<2
 .have:k=0\/k=1:=by omega
  rcases this with rfl|rfl
  .have w1:qj.wrap (a.length:Int)=a.length:=zWr
   have n1:¬(a.length:Int)<0:=zOm;simp[go_sem, *]
  .have w1:qj.wrap ((a.length:Int)+b.length)=a.length+b.length:=zWr
   simp[go_sem, *]
 .have:k=2:=by omega
  subst this;have g:=growN mu (a.length+b.length) zOm;simp[go_sem,e3,P,R,hm];refine fL (zUs g) ?_ ?_
  .rintro r m ⟨av,h,l,hs,hl,a1⟩
   cases h;simp[go_sem,e0];refine qi.up 2 (fun k U=>U.tm 25 = .lst true [[lNd a],[lNd b]]/\U.tm 26=aI 2/\U.tm 27=aI k/\(if k=0 then OwnZ U.mu 5 (U.tm 6) else Own U.mu 5 (U.tm 6) ((if k=1 then a else a++b).map cNd))) ?_ ?_
   .simp_all [go_sem]
   rintro k a2 hk ⟨f25,f26,f27,l⟩;by_cases T:k<2
   .have:k=0\/k=1:=by omega
    rcases this with rfl|rfl
    .rw [if_pos rfl]at l
     rcases l with h6|⟨b6,c6,h6,a0⟩
     .simp [go_sem,f25,f26,f27,h6]
      refine qu.own (sz:=5) (e:=34) (bt:=64) (zv := .agg [aI 0,aS ⟨#[]⟩,aI 0,.lst true [],aI 0]) (xs:=[]) (ys:=a.map cNd) zSi zSi zSi rfl rfl zOm zOm (.inl rfl) (by simp[qE]) (fun r hr=>by simp at hr) J zSo ?_;intro t o i C I;simp at i;simp[go_sem,f25,f26,f27,v1];exact i
     .simp [go_sem,f25,f26,f27,h6]
      refine cV (e:=34) (bt:=64) (zv := .agg [aI 0,aS ⟨#[]⟩,aI 0,.lst true [],aI 0]) (ys:=a.map cNd) zSi zSi zSi rfl rfl zOm zOm a0 (by simp[qE]) J zSo ?_;intro t o i C I a3;simp[go_sem,f25,f26,f27,v1];exact i
    .rw [zIn,if_pos rfl]at l
     simp[go_sem,f25,f26,f27];refine qu.own (sz:=5) (e:=34) (bt:=64) (zv := .agg [aI 0,aS ⟨#[]⟩,aI 0,.lst true [],aI 0]) (xs:=a.map cNd) (ys:=b.map cNd) zSi zSi zSi rfl rfl zOm zOm l (by simp[qE]) J wb zSo ?_;intro t o i C I;simp[go_sem,f25,f26,f27,v2];exact i
   .have:k=2:=by omega
    simp_all[go_sem]
  grind
end O8
set_option maxHeartbeats 1000000
namespace OD
open Y1 Y9 P2 EO F4 GR KA O8
theorem Kj{n a b}(g:n.op=41)(j:n.sD=[a,b]):conj n=conj a++conj b:=by
 obtain⟨op,nm,i,ks,p⟩:=n;cases j;rw[conj,vY,vY,vY];exact if_pos g
theorem Kk{n a}(g:n.op=48)(j:n.sD=[a]):conj n=(conj a).map (vB n.pos):=by
 obtain⟨op,nm,i,ks,p⟩:=n;cases j;have h:¬op=41:=by intro h;rw[h]at g;cases g
 rw[conj,vY,vY];rw[if_neg h];exact if_pos g
theorem Kl{n}(g:¬n.op=41)(j:¬n.op=48):conj n=[n]:=by
 obtain⟨op,nm,i,ks,p⟩:=n;rw[conj];exact(if_neg g).trans (if_neg j)
theorem shp2{n}(h:WfN n)(j:n.op=41):∃ a b,n.sD=[a,b]:=by
 have g:(n.sD.map fun k=>kd k.op)=[102,102]:=by
  have g:=h.shape;unfold shp at g
  grind
 have i:=congrArg List.length g
 match l:n.sD,i with
 | [a,b],_=>exact⟨a,b,rfl⟩
theorem shp1{n}(h:WfN n)(j:n.op=48):∃ a,n.sD=[a]:=by
 have g:(n.sD.map fun k=>kd k.op)=[102]:=by
  have g:=h.shape;unfold shp at g
  grind
 have i:=congrArg List.length g
 match l:n.sD,i with
 | [a],_=>exact⟨a,rfl⟩
def cW(pos:Int)(k:Nd):List AV:=if k.op=48 then cNd k else [aI 48,aS ⟨#[]⟩,aI 0,.lst true [cNd k],aI pos]
theorem qb8{mu}:∀{l},(∀ c,c∈l->HF c)->Rds mu l l
 | [],_=>trivial
 |c :: l,h=>⟨.hf _ (h c zSp),qb8 fun x g=>h x (zP1 g)⟩
theorem cW_rd(mu pos k):Rds mu (cW pos k) (cNd (vB pos k)):=by
 unfold cW vB;split
 .rename_i h
  exact qb8 (yK k)
 .exact ⟨.hf _ (HF.sc _),.hf _ (HF.sc _),.hf _ (HF.sc _),.wk _ true _ (.hf _ (HF.lst fun r g=>by rw[qO]at g;subst g;exact yK k)),.hf _ (HF.sc _),trivial⟩
theorem Uv(pos)(xs:List Nd):qW 5 (xs.map (cW pos)):=fun r g=>by
 obtain⟨n,_,rfl⟩:=qn.1 g;unfold cW;split
 .cases n;exact⟨rfl,rfl⟩
 .exact ⟨rfl,rfl⟩
theorem qn4(pos)(xs:List Nd):qW 5 (xs.map fun x=>cNd (vB pos x)):=fun r g=>by
 obtain⟨n,_,rfl⟩:=qn.1 g;cases vB pos n;exact⟨rfl,rfl⟩
theorem JI:∀ m n,szN n<=m->WfN n->(conj n).length<=100000->qd qb 13 [eNd n] (lNd (conj n))
 | 0,n,hm,_,_=>by obtain⟨op,nm,i,ks,q⟩:=n;simp[szN]at hm
 |m+1,n,hm,hw,hl=>by
  refine qSV call13 func13 rfl ?_;by_cases o1:n.op=41
  .obtain ⟨a,b,l⟩:=shp2 hw o1
   rw[Kj o1 l]at hl⊢;have ha:=q9 (n:=n) (k:=a) (by rw[l];simp);have hb:=q9 (n:=n) (k:=b) (by rw[l];simp);rw[qZ]at hl;have ca:=JI m a zOm (hw.kid (by rw[l];simp)) zOm;have cb:=JI m b zOm (hw.kid (by rw[l];simp)) zOm;simp[go_sem,o1,l];refine fG [0,1,2,3,5,6,7,8,4,9,10,11,12] [(0,0,[]),(1,0,[]),(2,0,[]),(3,0,[]),(5,0,[]),(6,0,[]),(7,0,[]),(8,0,[]),(4,1,[6,8]),(9,1,[]),(10,0,[]),(11,1,[]),(12,0,[])] zKr zKr zSi ?_;simp[go_sem,l];refine tR ca (.zk (qz a) .nil) ?_;simp[go_sem,l];refine fB cb (.zk (qz b) .nil) ?_;refine fL (qn3 _ (conj a) (conj b) zOm zOm) ?_ ?_
   .rintro r m' ⟨av,h,ho⟩
    cases h;simp[go_sem];exact Own.rd ho (ZO _).ok fun r hr c hc=>by
     obtain⟨x,_,rfl⟩:=qn.1 hr;exact yK x c hc
   .rintro r m' ⟨av,h,ho⟩
    cases h
  by_cases o2:n.op=48
  .obtain ⟨a,l⟩:=shp1 hw o2
   rw[Kk o2 l]at hl⊢;have ha:=q9 (n:=n) (k:=a) (by rw[l];simp);rw[yB]at hl;have ca:=JI m a zOm (hw.kid (by rw[l];simp)) hl;simp[go_sem,o1,o2,l];refine fB ca (.zk (qz a) .nil) ?_;refine qi.up (conj a).length (fun k U=>U.tm 1 = .ip (cNd n)/\U.tm 28=lNd (conj a)/\U.tm 29=aI (conj a).length/\U.tm 30=aI k/\Own U.mu 5 (U.tm 3) (((conj a).take k).map (cW n.pos))) ?_ ?_
   .simp [go_sem]
    exact .inl rfl
   rintro k U a5 ⟨e1,t,C,I,ho⟩;by_cases J:k<(conj a).length
   .have w1:=zWk k
    generalize hx:(conj a)[k]=x;have a0:(conj a).take (k+1)=(conj a).take k++[x]:=by rw[uh J,hx]
    have wf:qW 5 (((conj a).take k).map (cW n.pos)):=Uv _ _;have a1:∀ c,Own (U.mu++[c]) 5 (U.tm 3) (((conj a).take k).map (cW n.pos)):=fun c=>by
     rcases ho with h|⟨b,h1,h2⟩
     .exact .inl h
     .exact .inr ⟨b,h1,by rw[qB (qg.1 h2).1];exact h2⟩
    have a6:(((conj a).take k).map (cW n.pos)).length<=100000:=zSo;by_cases ox:x.op=48
    .have T:cW n.pos x=cNd x:=by unfold cW;rw[if_pos ox]
     have P:=Uv n.pos [x];simp[go_sem,e1,t,C,I,J,hx,ox];refine qu.own (sz:=5) (e:=34) (bt:=64) (zv := .agg [aI 0,aS ⟨#[]⟩,aI 0,.lst true [],aI 0]) (xs:=((conj a).take k).map (cW n.pos)) (ys:=[x].map (cW n.pos)) zSi zSi zSi rfl rfl zOm zOm (a1 _) (by simp[qE,T]) wf P zSo ?_;intro a2 o R a3 a4;rw[<-z6,<-a0]at R;simp[go_sem,e1,t,C,I,w1];exact⟨J,by simpa[List.map_take] using R⟩
    .have T:cW n.pos x=[aI 48,aS ⟨#[]⟩,aI 0,.lst true [cNd x],aI n.pos]:=by unfold cW;rw[if_neg ox]
     have P:=Uv n.pos [x];simp[go_sem,e1,t,C,I,J,hx,ox];refine qu.own (sz:=5) (e:=34) (bt:=64) (zv := .agg [aI 0,aS ⟨#[]⟩,aI 0,.lst true [],aI 0]) (xs:=((conj a).take k).map (cW n.pos)) (ys:=[x].map (cW n.pos)) zSi zSi zSi rfl rfl zOm zOm (a1 _) (by simp[qE,T]) wf P zSo ?_;intro a2 o R a3 a4;rw[<-z6,<-a0]at R;simp[go_sem,e1,t,C,I,w1];exact⟨J,by simpa[List.map_take] using R⟩
   .have:k=(conj a).length:=by omega
    subst this;rw[zi]at ho;simp[go_sem,e1,t,C,I];have hm:=aZ (g:=fun x=>cNd (vB n.pos x)) ho (Uv n.pos (conj a)).ok (qn4 n.pos (conj a)).ok (fun x _=>cW_rd U.mu n.pos x);rw[show (conj a).map (fun x=>cNd (vB n.pos x))=((conj a).map (vB n.pos)).map cNd by rw[List.map_map];rfl]at hm;exact hm
  .rw [Kl o1 o2]at hl⊢
   simp[go_sem,o1,o2];exact .wk _ true _ (.hf _ (HF.lst fun r hr=>by rw[qO]at hr;subst hr;exact yK n))
end OD
namespace O0
open P1 YF GF
section
variable {bv:AV}{args:List AV}{bs:List Bd}{mu mu':Mu}{p:Nat}{P:qf}
def zX(P:qf)(f:xa)(args:List AV)(mu:Mu)(r:AV):Prop:=qr P f args mu fun e o=>e = .ret r/\MuLe mu o
theorem qn5{lo}(h:MuLe mu mu')(j:mu.length<=lo):MuLe mu (cutM (fun i=>!decide (lo<=i)) mu' 0):=by
 intro b c g;have l:b<mu.length:=(qg.1 g).1;rw[vw,h b c g];simp;omega
theorem zX.of{f r}(h:qr P f args mu fun e mu'=>∃ x,e = .ret x/\MuLe mu mu'/\Rd (cutM (fun i=>decide (mu.length<=i)) mu' 0) x r):zX P f args mu r:=by
 refine⟨h.1,fun G w o s p=>(h.2 G w o s p).mono fun e J ⟨R,mu',U,t⟩=>?_⟩;rcases t with ⟨x,v,⟨C,g,j,l⟩,rfl,I⟩|⟨x,v,⟨C,g,_⟩,_⟩
 .cases g
  exact⟨_,_,U.trans s (u7 U.sim _),.inl ⟨r,v,⟨rfl,qn5 j (qh _)⟩,rfl,J6 U.sim _ l I⟩⟩
 .exact absurd g zSp
theorem qc.mem{g caps r K i}(j:zX P g (args++caps) mu r)(k:∀ mu',MuLe mu mu'->K r mu'):qc P false mu (.fn (.func g) [] caps) args K i:=
 fX j (fun r m h=>by obtain⟨e,h⟩:=h;cases e;exact k m h) (fun r m h=>absurd h.1 zSp)
theorem cL{f args' v}(mu)(h:qd P f args' v)(p:WKs args args'):zX P f args mu v:=by
 have i:=qd.toSound mu h p;refine⟨i.1,fun G w t s C=>(i.2 G w t s C).mono fun e R ⟨I,o,U,J⟩=>⟨I,o,U,?_⟩⟩;rcases J with ⟨x,u,⟨g,j⟩,l⟩|⟨x,u,⟨g,j⟩,l⟩
 .exact .inl ⟨x,u,⟨g,by rw[j];exact MuLe.refl _⟩,l⟩
 .exact absurd g zSp
theorem MuLe.app(h:MuLe mu mu')(c:List Cell):MuLe mu (mu'++c):=fun b x g=>by
 have:=h b x g;rw[qB (qg.1 this).1];exact this
theorem MuLe.len(h:MuLe mu mu'):mu.length<=mu'.length:=by
 cases i:mu.length with
 |zero=>omega
 |succ n =>
  have g:mu[n]?=some mu[n]:=qC zOm;have:=(qg.1 (h n _ g)).1;omega
def Qm(P:qf)(mu:Mu)(l:AV){J:Type}(enc:J->AV)(ok:J->Prop)(g:J->AV):Prop:=
 ∃ j i,l = .fn (.func j) [] i/\∀ x,ok x->∀ o,MuLe mu o->zX P j ([enc x]++i) o (g x)
theorem Qm.call{i J enc ok g}(h:Qm P mu i enc ok g){x:J}(l:ok x)(o:MuLe mu mu'){K p}(k:∀ m,MuLe mu' m->K (g x) m):qc P false mu' i [enc x] K p:=by
 obtain⟨t,j,rfl,h⟩:=h;exact qc.mem (h x l mu' o) k
def wK(P:qf)(mu:Mu)(l:AV){J:Type}(enc:J->AV)(ok:J->J->Prop)(g:J->J->AV):Prop:=
 ∃ j i,l = .fn (.func j) [] i/\∀ x y,ok x y->∀ o,MuLe mu o->zX P j ([enc x,enc y]++i) o (g x y)
theorem wK.call{i J enc ok g}(h:wK P mu i enc ok g){x y:J}(l:ok x y)(o:MuLe mu mu'){K p}(k:∀ m,MuLe mu' m->K (g x y) m):qc P false mu' i [enc x,enc y] K p:=by
 obtain⟨t,j,rfl,h⟩:=h;exact qc.mem (h x y l mu' o) k
theorem MuLe.setN(h:MuLe mu mu'){i}(l:mu.length<=i)(c):MuLe mu (mu'.set i c):=fun b x g=>by
 have j:=(qg.1 g).1;rw[zGl];exact h b x g
abbrev cNs(ts:TS)(sc:Sc)(bv:AV)(n:Int)(g:Bool):List AV:=cTS ts++[lI sc.sC,aI sc.sN,bv,aI n,aB g]
def BvR(mu:Mu)(bv:AV)(bs:List Bd):Prop:=bv=lBd bs\/Own mu 4 bv (bs.map cBd)
theorem BvR.le(h:BvR mu bv bs)(g:MuLe mu mu'):BvR mu' bv bs:=by
 rcases h with rfl|rfl|⟨b,rfl,i⟩
 .exact .inl rfl
 .exact .inr (.inl rfl)
 .exact .inr (.inr ⟨b,rfl,g _ _ i⟩)
structure NsR (mu:Mu) (p:Nat) (ts:TS) (sc:Sc) (bs:List Bd) (ch:Bool) (bv:AV):Prop where
 st:mu[p]?=some (.arr (cNs ts sc bv (sumI sc.sC) ch))
 bv:BvR mu bv bs
theorem NsR.le{ts sc g}(h:NsR mu p ts sc bs g bv)(i:MuLe mu mu'):NsR mu' p ts sc bs g bv:=⟨i _ _ h.st,h.bv.le i⟩
theorem zm{c}(h:mu[p]?=some c)(l:List Cell):(mu++l)[p]?=some c:=by
 rw[qB (qg.1 h).1];exact h
theorem JK(xs:List Bd):qW 4 (xs.map cBd):=fun r g=>by
 obtain⟨n,_,rfl⟩:=qn.1 g;exact⟨rfl,rfl⟩
theorem BvR.rd(h:BvR mu bv bs):Rd mu bv (lBd bs):=by
 rcases h with rfl|h
 .exact .hf _ (jJ bs)
 .exact Own.rd h (JK bs).ok fun r g c i=>by
   obtain⟨b,_,rfl⟩:=qn.1 g;exact nG b c i
theorem NsR.rd{ts sc l}(h:NsR mu p ts sc bs l bv):Rd mu (.ptr p 0) (.ip (cNs ts sc (lBd bs) (sumI sc.sC) l)):=by
 refine .ptr p 0 _ _ h.st zSp fun k x y g i=>?_
 have j:=VF ts
 match k with
 | 0=>simp at g i;subst g;subst i;exact .hf _ (j _ (by simp[cTS]))
 | 1=>simp at g i;subst g;subst i;exact .hf _ (j _ (by simp[cTS]))
 | 2=>simp at g i;subst g;subst i;exact .hf _ (j _ (by simp[cTS]))
 | 3=>simp at g i;subst g;subst i;exact .hf _ (j _ (by simp[cTS]))
 | 4=>simp at g i;subst g;subst i;exact .hf _ (zy _)
 | 5=>simp at g i;subst g;subst i;exact .zsc _
 | 6=>simp at g i;subst g;subst i;exact h.bv.rd
 | 7=>simp at g i;subst g;subst i;exact .zsc _
 | 8=>simp at g i;subst g;subst i;exact .zsc _
 |k+9=>simp at g
end
end O0
namespace O1
open E1 EO EW
def divN(n x:Int):Nat->Int
 | 0=>x
 |j+1=>divN n x j / n
theorem Km{n x m}(o:1<=n)(i:0<=x)(l:x<=m):∀ j,0<=divN n x j/\divN n x j<=m
 | 0=>⟨i,l⟩
 |j+1=>by
  have g:=Km o i l j;have d0:0<=divN n x j / n:=Int.ediv_nonneg g.1 zOm;have d1:divN n x j / n<=divN n x j:=Int.ediv_le_self n g.1;exact⟨d0,Int.le_trans d1 g.2⟩
def digN(n r:Int):Nat->List Int
 | 0=>[]
 |k+1=>divN n r k % n :: digN n r k
theorem Kn(n r):∀ k,(digN n r k).length=k
 | 0=>rfl
 |k+1=>by simp[digN,Kn n r k]
theorem uE(xs:List Int):(xs.map rI).flatten=xs.map aI:=by
 induction xs with
 |nil=>rfl
 |cons x xs g=>simp[g]
theorem Ko(n r)(g:1<=n):∀ k,divN n r k=r / n ^ k
 | 0=>by simp[divN]
 |k+1=>by
  rw[divN,Ko n r g k,Int.pow_succ,Int.ediv_ediv_of_nonneg];exact Int.pow_nonneg zOm
theorem qn6{n r}(g:1<=n){k}(i:0<=r)(h:r<n ^ k):divN n r k=0:=by
 rw[Ko n r g,Int.ediv_eq_zero_of_lt i h]
theorem cZ{lo b n mu}{xs:List Int}(j:lo<=b)(g:mu[b]?=some (.arr (xs.map aI)))(i:xs.length=n):OwnF lo mu 1 (.sl b 1 0 n) (xs.map rI):=by
 have p:b<mu.length:=(qg.1 g).1;refine⟨.inr ⟨b,zP1 i,by rw[g,uE]⟩,fun t s o l e=>?_,zOm⟩;injection e;omega
theorem qn7(m z v)(l:List AV):(qI (m+1) z++l).set m v=qI m z++v :: l:=by
 induction m with
 |zero=>rfl
 |succ m g =>
  rw[List.replicate_succ,yW,List.set_cons_succ,g];rfl
theorem qn8(sc)(g:GSc sc)(J:1<=sumI sc.sC)(i:Nat)(P:i<=3)(r)(R:0<=r)(hr:r<sumI sc.sC ^ i):qd qb 163 [eSc sc,aI i,aI r] (lI (digN (sumI sc.sC) r i)):=by
 refine qSU call163 func163 rfl ?_;refine tR (VQ i 0 3) (.zs (.zs (.zs .nil))) ?_;simp[go_sem,show (0:Int)<=i by omega,show (i:Int)<=3 by omega,show ¬r<0 by omega];refine tR (Zk sc g) (.zk (zp sc) .nil) ?_;have C:=g.sum sc.sC.length;rw[zi]at C;generalize hn:sumI sc.sC=n at *
 have a8:=ZS (n:=n) zOm zOm i P;have T:n≠0:=zOm;simp[go_sem,show (0:Int)<=i by omega,show (i:Int)<=4294967296 by omega];refine qi.up i (fun j U=>U.tm 7=aI n/\U.tm 8 = .sl 0 1 0 i/\U.tm 2=aI (divN n r j)/\U.tm 9=aI (i-1-j)/\U.mu=[.arr (qI (i-j) (aI 0)++(digN n r j).map aI)]) ?_ ?_
 .simp [go_sem,divN,digN]
  exact zWr
 rintro j U hj ⟨e7,e8,e2,e9,hm⟩;have hd:=Km (n:=n) (m:=8000) J R zOm j;by_cases a0:j<i
 .have a9:=Km (n:=n) (m:=8000) J R zOm (j+1)
  have hq:(divN n r j).tdiv n=divN n r (j+1):=by rw[divN,Int.tdiv_eq_ediv_of_nonneg hd.1]
  have a1:(divN n r j).tmod n=divN n r j % n:=Int.tmod_eq_emod_of_nonneg hd.1;have I:qI (i-j) (aI 0)=qI ((i-(j+1))+1) (aI 0):=by congr 1;omega
  have o:=qn7 (i-(j+1)) (aI 0) (aI (divN n r j % n)) ((digN n r j).map aI);rw[<-I]at o;have a7:(qI (i-j) (aI 0)++(digN n r j).map aI).length=i:=by simp[Kn];omega
  have a2:qj.wrap ((i:Int)-1-j-1)=(i:Int)-1-(j+1:Nat):=by rw[zWr];omega
  have a3:qj.wrap (divN n r (j+1))=divN n r (j+1):=zWr;generalize aa:qI (i-j) (aI 0)++(digN n r j).map aI=cells at *
  have t:0<=(i:Int)-1-j:=zOm;have a4:(i:Int)-1-j<i:=zOm;have a5:((i:Int)-1-j).toNat=i-(j+1):=zOm;generalize (i:Int)-1-j=c at *
  simp[go_sem,e7,e8,e2,e9,hm,t,a4,a5,T,a1,hq,a3,show i-(j+1)+1<=cells.length by omega,o];refine⟨a0,?_,?_⟩
  .rw [a2];omega
  .rw [digN];rfl
 .have a6:j=i:=by omega
  subst a6;have hz:=qn6 J R hr;have t:¬(0:Int)<=(j:Int)-1-j:=zOm;generalize (j:Int)-1-j=c at *
  rw[hz]at e2;simp[go_sem,e7,e8,e2,e9,hm,t];refine(cZ (lo:=0) (xs:=digN n r j) (Nat.zero_le _) ?_ (Kn n r j)).rdI;simp
end O1
namespace O2
open P1 E1 EO F4 GF KA O0 ET EQ
theorem Yi(r):qd qb 81 [eRel r] (eBd (exR r)):=by
 refine qSU call81 func81 rfl ?_;exact .hf _ (zJ (exR r))
theorem Uw(r e):qd qb 95 [eRel r,aI e] (eRel r):=by
 refine qSU call95 func95 rfl ?_;exact .hf _ (qt r)
theorem OwnV.rdN{mu av l}(h:OwnV mu av l):RdN mu av (lI l):=by
 rcases h with ⟨rfl,rfl⟩|⟨b,cells,rfl,j,t,o⟩
 .exact RdN.nil (.inr rfl)
 .refine RdN.sl j zOm zSp (wt l).ok (fun k y g=>?_) (fun k u y i g=>?_)
  .rw [O1.uE]at g
   obtain⟨z,_,rfl⟩:=qn.1 (qN g);exact FL.sc _
  .rw [O1.uE]at g
   rw[Nat.zero_add]at i;have p:k<l.length:=by have:=(qg.1 g).1;simpa using this
   rw[<-o,List.getElem?_take_of_lt p,i]at g;cases g;rfl
theorem tS{mu i av l}(h:OwnV mu av l):RdN mu (.agg [aI i,av]) (eRel ⟨i,l⟩):=by
 intro G p v s r;cases r with
 |agg _ j t o =>
  refine .agg _ j (zUs t) fun k x g=>?_
  match k with
  | 0 =>
   simp at g;subst g;have:=o 0 (aI i) rfl;generalize j.getD 0 xc=u at *
   cases this with
   |sc _ h=>exact .sc _ h
  | 1 =>
   simp at g;subst g;exact OwnV.rdN h G p _ s (o 1 av rfl)
  |k+2=>simp at g
theorem wF{n:Int}(g:0<=n)(l:n<=12){j}(i:j<=3):0<=n ^ j/\n ^ j<=8000:=ZS g zOm j i
theorem allF(ts sc bs ch n)(h0:0<=n)(h1:n<=12)(k)(hk:0<=k)(h3:k<=3) :
  ur qb 82 [.ip (cNs ts sc (lBd bs) n ch),aI k] (eRel (KA.allN n k)):=by
 obtain⟨K,rfl⟩:=Int.eq_ofNat_of_zero_le hk;refine ur.of_sound ?_;refine qSW call82 func82 rfl {} ?_;simp[go_sem];refine fZ K (fun j U=>U.tm 0 = .ip (cNs ts sc (lBd bs) n ch)/\U.tm 4 = .ptr 0 0/\U.tm 5 = .ptr 1 0/\U.tm 6=aI (n ^ j)/\U.tm 10=aI K/\U.tm 11=aI j/\U.mu=[.arr [aI 0,.lst true []],.arr [aI K,.lst true []]]) ?_ ?_
 .exact ⟨zSi,zSi,zSi,zSi,zSi,zSi,zSi⟩
 rintro j U hj ⟨e0,R,p,e6,l,t,hm⟩;by_cases g:j<K
 .have w1:=zWk j
  have hp:=wF h0 h1 (j:=j+1) zOm;have w2:qj.wrap (n ^ j*n)=n ^ (j+1):=by rw[show n ^ j*n=n ^ (j+1) from (Int.pow_succ n j).symm];exact zWr
  simp[go_sem,e0,e6,l,t,g,w1,w2]
  try refine⟨g,aK ?_⟩
  try refine aK ?_
  exact⟨zS1 e0,zS1 R,zS1 p,zSi,zS1 l,zSi,zS1 hm⟩
 have C:j=K:=zOm;subst C;have hp:=wF h0 h1 (j:=j) zOm;obtain⟨T,hT⟩:=Int.eq_ofNat_of_zero_le hp.1;rw[hT]at e6 hp;simp[go_sem,e6,l,t];refine fZ T (fun i U=>U.tm 4 = .ptr 0 0/\U.tm 5 = .ptr 1 0/\U.tm 20=aI T/\U.tm 21=aI i/\RelM U.mu j ((qp i).map fun i:Nat=>(i:Int))) ?_ ?_
 .exact ⟨zS1 R,zS1 p,zSi,zSi,.lst true [],zS1 hm,zS1 hm,.inl ⟨rfl,rfl⟩,by simp[qw],by simp[qw]⟩
 clear e0 R p e6 l t hm;rintro i U hi ⟨R,p,I,J,av,g0,g1,ho,n0,n1⟩;by_cases g:i<T
 .have w1:=zWk i
  simp[go_sem,p,I,J,g,g1];refine aR (e:=3) (bt:=8) (z:=0) zSi zSi zSi zOm ho.v zSo ?_;intro a4 o P a1 a2 a3;obtain⟨k1,k2⟩:=RelM.step g0 g1 n0 n1 P a1 a2 a3;simp[go_sem,p,J,k1,P.v.one,P.v.cells,w1];refine⟨g,aK ⟨zS1 R,zS1 p,zS1 I,zSi,?_⟩⟩;rw[List.range_succ,z6];simpa[go_sem] using k2
 .have C:i=T:=by omega
  subst C;have a0:∀ c,(U.mu.set 0 c)[0]?=some c:=fun c=>qv (qg.1 g0).1
  simp[go_sem,R,p,I,J,g0,g1,a0,ho.v.one];have e:KA.allN n (j:Int)=⟨(j:Int),(qp i).map fun i:Nat=>(i:Int)⟩:=by
   unfold KA.allN;rw[Int.toNat_natCast,hT,Int.toNat_natCast]
  rw[e];refine tS (ho.v.same fun b hb=>?_);rw[zA (fun e=>n0 (by rw[e];exact hb))]
end O2
namespace O3
open P1 E1 E2 E4 EO EP EQ ET F4 F6 KA KC O0 O1 O2
theorem qn9(ts sc)(S:ScN ts sc)(a7:sumI sc.sC<=12)(bs ch n i)(t:i<sc.sC.length) :
  ur qb 153 [.ip (cNs ts sc (lBd bs) n ch),aI i] (eRel ⟨2,Zl sc i⟩):=by
 obtain⟨a1,a2,a3⟩:=S.le t;have hg:gI sc.sC i=sc.sC[i]:=jP t;refine ur.of_sound ?_;refine qSW call153 func153 rfl {} ?_;have cF:=WV sc S.g i zOm;simp[go_sem];refine tR cF (.zk (zp sc) (.zs .nil)) ?_;unfold Zl;rw[hg];generalize hF:sumI (sc.sC.take i)=F at *
 generalize hA:sc.sC[i]=A at *
 obtain⟨M,rfl⟩:=Int.eq_ofNat_of_zero_le (show 0<=A by omega);simp[go_sem];refine fZ (M-1) (fun k U=>U.tm 0 = .ip (cNs ts sc (lBd bs) n ch)/\U.tm 1=aI i/\U.tm 4 = .ptr 0 0/\U.tm 5 = .ptr 1 0/\U.tm 6=aI F/\U.tm 7=aI ((k:Int)+1)/\RelM U.mu 2 ((qp k).map fun k:Nat=>(F+k)*sumI sc.sC+(F+k+1))) ?_ ?_
 .exact ⟨zSi,zSi,zSi,zSi,zSi,zSi,.lst true [],zSi,zSi,.inl ⟨rfl,rfl⟩,by simp[qw],by simp[qw]⟩
 rintro k U hk ⟨C,J,e4,I,e6,e7,av,P,g1,R,n0,n1⟩;by_cases T:k<M-1
 .have j:(k:Int)+1<M:=by omega
  have cR:=rankU sc S.g [F+k,F+k+1] zSp (fun d hd=>by simp at hd;rcases hd with rfl|rfl<;>omega);have hr:vA (sumI sc.sC) [F+k,F+k+1]=(F+k)*sumI sc.sC+(F+k+1):=by simp[vA]
  rw[hr]at cR;have w1:qj.wrap ((k:Int)+1+1)=(k:Int)+1+1:=zWr;have w2:qj.wrap (F+((k:Int)+1))=F+k+1:=by rw[zWr];omega
  have w3:qj.wrap (F+(k:Int))=F+k:=zWr;simp[go_sem,C,J,e7,t,hA,j];refine tN zKr ?_;simp[go_sem,C,I,e6,e7,g1,w2,w3];refine fB cR (.zk (zp sc) (.cons (WK.ints [F+k,F+k+1]) .nil)) ?_;refine aR (e:=3) (bt:=8) (z:=0) zSi zSi zSi zOm R.v zSo ?_;intro a8 o l a0 a4 a5;obtain⟨k1,k2⟩:=RelM.step P g1 n0 n1 l a0 a4 a5;simp[go_sem,I,e7,k1,l.v.one,l.v.cells,w1];refine⟨T,aK ⟨zS1 C,zS1 J,zS1 e4,zS1 I,zS1 e6,zSi,?_⟩⟩;rw[List.range_succ,z6];simpa[go_sem] using k2
 .have a6:k=M-1:=by omega
  subst a6;have j:¬((M-1:Nat):Int)+1<M:=zOm;have p:∀ c,(U.mu.set 0 c)[0]?=some c:=fun c=>qv (qg.1 P).1
  simp[go_sem,C,J,e4,I,e7,t,hA,j,P,g1,p,R.v.one];refine tS (R.v.same fun b hb=>?_);rw[zA (fun e=>n0 (by rw[e];exact hb))]
def hdT(n g t:Int):Int:=t / powI n (g-1)
def hdK(f:Int->Int)(l:List Int):List (Int×Bool):=l.foldl (fun C u=>setK (f u) true C) []
theorem qoA(f l u):hdK f (l++[u])=setK (f u) true (hdK f l):=by simp[hdK]
theorem qb9(f:Int->Int)(x):∀(l:List Int)(es),getK x (l.foldl (fun es u=>setK (f u) true es) es)=if (∃ u,u∈l/\f u=x) then some true else getK x es
 | [],es=>zSp
 |u :: l,es=>by
  rw[List.foldl_cons,qb9 f x l,jw];by_cases h:∃ v,v∈l/\f v=x
  .obtain ⟨v,g,e⟩:=h
   rw[if_pos ⟨v,g,e⟩,if_pos ⟨v,qP _ g,e⟩]
  .rw [if_neg h]
   by_cases e:x=f u
   .rw [if_pos e,if_pos ⟨u,qX ..,e.symm⟩]
   .rw [if_neg e,if_neg]
    rintro⟨v,g,i⟩;rcases qs.1 g with rfl|g
    .exact e i.symm
    .exact h ⟨v,g,i⟩
theorem qoB(f x l):getK x (hdK f l)=if (∃ u,u∈l/\f u=x) then some true else none:=by
 rw[hdK,qb9];rfl
theorem qoC{n}(i:1<=n){A}(o:1<=A)(p:A<=3){r}(j:0<=r)(g:r<n ^ A):(digN n r A)[0]?=some (hdT n A r):=by
 obtain⟨k,rfl⟩:∃ k,A=k+1:=⟨A-1,zOm⟩;rw[digN,List.getElem?_cons_zero,Ko n r i k];congr 1;have e:((k+1:Nat):Int)-1=k:=zOm;unfold hdT;rw[e,uG zOm zOm];have l:0<n ^ k:=Int.pow_pos zOm;rw[Int.toNat_natCast];rw[Int.pow_succ]at g;exact Int.emod_eq_of_lt (Int.ediv_nonneg j zOm) (Int.ediv_lt_of_lt_mul l (by rw[Int.mul_comm];exact g))
theorem qoD(n a b):vZ n a b=⟨a.ar,a.ts.filter fun t=>decide (¬ ∃ u,u∈b.ts/\hdT n b.ar u=hdT n a.ar t)⟩:=by
 unfold vZ hdT;congr 1;refine List.filter_congr fun t _=>?_
 rw[decide_eq_decide];exact⟨fun h ⟨u,g,e⟩=>h u g e,fun h u g e=>h ⟨u,g,e⟩⟩
theorem qcA(ts sc)(g:GSc sc)(h0:0<=sumI sc.sC)(ah:sumI sc.sC<=12)(bs ch n a b)(ha:GR (sumI sc.sC) a)(hb:GR (sumI sc.sC) b) :
  ur qb 99 [.ip (cNs ts sc (lBd bs) n ch),eRel a,eRel b] (eRel (vZ (sumI sc.sC) a b)):=by
 have cT:∀ r:Rl,GR (sumI sc.sC) r->∀ t,t∈r.ts->∃ l,qd qb 163 [eSc sc,aI r.ar,aI t] (lI (hdT (sumI sc.sC) r.ar t :: l)):=fun r hr t ht=>by
  obtain⟨v0,v1⟩:=hr.val t ht;have r1:=hr.ar1;have r3:=hr.ar3;obtain⟨A,hA⟩:=Int.eq_ofNat_of_zero_le (show 0<=r.ar by omega);rw[uG zOm zOm,hA,Int.toNat_natCast]at v1;have hn:1<=sumI sc.sC:=by
   rcases Int.lt_or_eq_of_le h0 with h|h
   .omega
   .exfalso
    rw[<-h,Int.zero_pow zOm]at v1;omega
  have h1:=qn8 sc g hn A zOm t v0 v1;have h2:=qoC hn (A:=A) zOm zOm v0 v1;rw[hA];cases hd:digN (sumI sc.sC) t A with
  |nil=>rw[hd]at h2;cases h2
  |cons x l=>rw[hd]at h1 h2;cases h2;exact⟨l,h1⟩
 have la:=ha.len h0 zOm;have lb:=hb.len h0 zOm;have hR:=qoD (sumI sc.sC) a b;generalize vZ (sumI sc.sC) a b=R at *
 refine ur.of_sound ?_;refine qSW call99 func99 rfl {} ?_;simp[go_sem];obtain⟨B,hB⟩:∃ B,B=AV.mp 2:=⟨_,rfl⟩;have ai:B.cells=[B]:=by rw[hB];rfl
 refine fZ b.ts.length (fun k U=>U.tm 0 = .ip (cNs ts sc (lBd bs) n ch)/\U.tm 4 = .ip (cRel a)/\U.tm 5 = .ip (cRel b)/\U.tm 6 = .ptr 0 0/\U.tm 7 = .ptr 1 0/\U.tm 8=B/\U.tm 18=lI b.ts/\U.tm 19=aI b.ts.length/\U.tm 20=aI k/\U.mu=[.arr [aI 0,.lst true []],.arr [aI a.ar,.lst true []],.mp (encK (fun n:Int=>aI n) (fun v:Bool=>aB v) (hdK (hdT (sumI sc.sC) b.ar) (b.ts.take k)))]) ?_ ?_
 .exact ⟨zSi,zSi,zSi,zSi,zSi,by simp[go_sem,hB],zSi,zSi,zSi,by simp[go_sem,hdK,encK]⟩
 rintro k U hk ⟨e0,e4,e5,e6,e7,e8,a3,P,T,hm⟩;by_cases j:k<b.ts.length
 .have w1:=zWk k
  obtain⟨l,cK⟩:=cT b hb _ (qq j);have hs:=qoA (hdT (sumI sc.sC) b.ar) (b.ts.take k) b.ts[k];rw[<-jy j]at hs;have ad:U.mu[2]?=some (.mp (encK (fun n:Int=>aI n) (fun v:Bool=>aB v) (hdK (hdT (sumI sc.sC) b.ar) (b.ts.take k)))):=by rw[hm];rfl
  have a2:y6 qb U.mu 226 (.mp 2) (aI (hdT (sumI sc.sC) b.ar b.ts[k])) (aB true)=_:=keyI.update (et:=4) (t:=226) zSi (mu:=U.mu) (b:=2) (venc:=fun v:Bool=>aB v) (es:=hdK (hdT (sumI sc.sC) b.ar) (b.ts.take k)) ad (k:=hdT (sumI sc.sC) b.ar b.ts[k]) (v:=true) trivial (fun _ _=>trivial);rw[<-hs,<-hB]at a2;simp[go_sem,a3,P,T,j];refine tN zKr ?_;simp[go_sem,e0,e5,e8];refine fB cK (.zk (zp sc) (.zs (.zs .nil))) ?_;refine tB _ a2 ?_;simp[go_sem,T,w1];refine⟨j,aK ⟨zS1 e0,zS1 e4,zS1 e5,zS1 e6,by simp[go_sem,e7],zS1 e8,zS1 a3,zS1 P,zSi,zS1 hm⟩⟩
 have J:k=b.ts.length:=zOm;rw[J,zi]at hm;simp[go_sem,e4,P,T,J];have ae:∀(I:Mu)(x:Int),I[2]?=some (.mp (encK (fun n:Int=>aI n) (fun v:Bool=>aB v) (hdK (hdT (sumI sc.sC) b.ar) b.ts)))->zT qb I 226 B (aI x) false=some (aB (decide (∃ u,u∈b.ts/\hdT (sumI sc.sC) b.ar u=x))):=fun I x h=>by
  rw[hB];have:=keyI.look (et:=4) (t:=226) zSi (mu:=I) (m := .mp 2) (venc:=fun v:Bool=>aB v) (es:=hdK (hdT (sumI sc.sC) b.ar) b.ts) (by simp only[jf,h]) (k:=x) trivial (fun _ _=>trivial) (z:=aB false) zSi false;refine Eq.trans this ?_;rw[qoB];by_cases hx:∃ u,u∈b.ts/\hdT (sumI sc.sC) b.ar u=x
  .rw [if_pos hx,decide_eq_true hx];rfl
  .rw [if_neg hx,decide_eq_false hx];rfl
 generalize hE:encK (fun n:Int=>aI n) (fun v:Bool=>aB v) (hdK (hdT (sumI sc.sC) b.ar) b.ts)=E at *
 generalize hP:(fun t=>decide (¬ ∃ u,u∈b.ts/\hdT (sumI sc.sC) b.ar u=hdT (sumI sc.sC) a.ar t))=p at *
 have hp:∀ t,p t=!decide (∃ u,u∈b.ts/\hdT (sumI sc.sC) b.ar u=hdT (sumI sc.sC) a.ar t):=fun t=>by rw[<-hP];exact decide_not ..
 refine fZ a.ts.length (fun k U=>U.tm 0 = .ip (cNs ts sc (lBd bs) n ch)/\U.tm 4 = .ip (cRel a)/\U.tm 6 = .ptr 0 0/\U.tm 7 = .ptr 1 0/\U.tm 8=B/\U.tm 37=lI a.ts/\U.tm 38=aI a.ts.length/\U.tm 39=aI k/\∃ i,U.mu[0]?=some (.arr [aI 0,.lst true []])/\U.mu[1]?=some (.arr [aI a.ar,i])/\U.mu[2]?=some (.mp E)/\OwnI U.mu i ((a.ts.take k).filter p)/\∀ b,qw i=some b->3<=b) ?_ ?_
 .exact ⟨zS1 e0,zS1 e4,zS1 e6,by simp[go_sem,e7],zS1 e8,zSi,zSi,zSi,.lst true [],zS1 hm,zS1 hm,zS1 hm,.inl ⟨rfl,zSp⟩,by simp[qw]⟩
 clear e0 e4 e5 e6 e7 e8 a3 P T hm j hk;rintro k U hk ⟨e0,e4,e6,e7,e8,a4,a0,a1,i,g0,g1,g2,ho,n3⟩;by_cases j:k<a.ts.length
 .have w1:=zWk k
  obtain⟨l,cK⟩:=cT a ha _ (qq j);have af:=ae U.mu (hdT (sumI sc.sC) a.ar a.ts[k]) g2;have a8:=jy j;simp[go_sem,a4,a0,a1,j];refine tN zKr ?_;simp[go_sem,e0,e4,e8];refine tR cK (.zk (zp sc) (.zs (.zs .nil))) ?_;simp[go_sem,af];have a9:=hp a.ts[k];generalize hq:decide (∃ u,u∈b.ts/\hdT (sumI sc.sC) b.ar u=hdT (sumI sc.sC) a.ar a.ts[k])=q at *
  cases q with
  |true =>
   simp[go_sem,a1,w1];refine⟨j,aK ⟨zS1 e0,zS1 e4,zS1 e6,by simp[go_sem,e7],zS1 e8,zS1 a4,zS1 a0,zSi,i,zVs g0,by simpa[go_sem] using g1,zVs g2,?_,n3⟩⟩;rw[a8,List.filter_append];simpa[go_sem,a9] using ho
  |false =>
   simp[go_sem,e7,g1];refine aR (e:=3) (bt:=8) (z:=0) zSi zSi zSi zOm ho.v (zW2 (List.length_filter_le p (a.ts.take k)) (List.length_take_le' k a.ts)) ?_;intro ag o a5 a6 aj aa;have l2:=(qg.1 g2).1;have k0:o[0]?=some (.arr [aI 0,.lst true []]):=by rw[a6 0 zOm (fun e=>zW1 (n3 0 e))];exact g0
   have k1:o[1]?=some (.arr [aI a.ar,i]):=by rw[a6 1 zOm (fun e=>zW1 (n3 1 e))];exact g1
   have k2:o[2]?=some (.mp E):=by rw[a6 2 zOm (fun e=>zW1 (n3 2 e))];exact g2
   simp[go_sem,e7,a1,k1,a5.v.one,a5.v.cells,w1];refine⟨j,aK ⟨zS1 e0,zS1 e4,zS1 e6,by simp[go_sem,e7],zS1 e8,zS1 a4,zS1 a0,zSi,ag,?_,?_,?_,?_,fun b hb=>zW1 (aa b hb)⟩⟩
   .simp only[qH];rw[zGl];exact k0
   .simp only[qH];rw[qv zOm]
   .simp only[qH];rw[zGl];exact k2
   .rw [a8,List.filter_append]
    simp only[qH,List.filter_cons,a9,List.filter_nil,Bool.not_false,if_true];exact a5.same fun b hb=>by rw[zA (fun e=>zW1 (aa b hb))]
 .have J:k=a.ts.length:=by omega
  rw[J,zi]at ho;have ab:∀ c,(U.mu.set 0 c)[0]?=some c:=fun c=>qv (qg.1 g0).1
  simp[go_sem,e6,e7,a0,a1,J,g0,g1,ab,ho.v.one];rw[hR];refine tS (ho.v.same fun b hb=>?_);rw[zA (fun e=>zW1 (n3 b hb))]
end O3
end Go.Proofs.YtlnbdknjkmmgbaaGreatDoor
