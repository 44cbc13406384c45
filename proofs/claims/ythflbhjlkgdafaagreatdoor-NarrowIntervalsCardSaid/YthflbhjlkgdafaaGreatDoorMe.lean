/-
  Own library, part 5: an abstract reading of values and a calculus over it; contracts of functions; plain lemmas.
-/
import Derived.Shelf.SlSortCmp.NoneTotal
import Derived.Test.YthflbhjlkgdafaaGreatDoorMd
set_option linter.unusedVariables false
set_option linter.unusedSimpArgs false
set_option maxRecDepth 100000
open Go renaming Program->qc,TypeId->qd,World->qe,FuncId->zV,Value->qf,undef->z6
open Go.Proofs.Tryz renaming prog->qg
open List renaming getElem?_eq_some_iff->ql,mem_map->qp,range->qu,getElem_mem->qv,getElem?_eq_getElem->qy,mem_cons->qz,getElem?_set_self->qJ,getElem?_append_left->qL,replicate->qM,not_mem_nil->qO,mem_singleton->qX,all_eq_true->qY,mem_of_getElem?->q8,mem_cons_of_mem->q9,take_length->za,drop_eq_getElem_cons->ze,map_append->zi,length_append->zj,mem_cons_self->zo,getElem?_map->zz,getD_eq_getElem?_getD->zH,append_assoc->zL,length_map->zT,take_of_length_le->zU,mem_range->zW,getElem?_append_right->zZ,append_nil->ye,drop_length->yf,cons_append->yq,length_cons->yy,getElem?_set_ne->yH,nil_append->y8,ext_getElem?->vg,getD_cons_zero->vh,getElem?_cons_succ->vW,mem_flatMap->vY,length_take->ub,foldl_append->uI,take_append_drop->uJ,getElem?_eq_none->w6,pairwise_cons->w7,getElem?_range->Qa,getElem_map->Yd
open Nat renaming le_refl->qn,le_trans->zQ,zero_add->yJ
open Go.IntKind renaming i64->qo
open Option.some renaming injEq->qs
open Bool renaming and_eq_true->qD,eq_iff_iff->uc
open Array renaming getD_eq_getD_getElem?->qU,getElem?_eq_getElem->Qc
open Option renaming map_some->zh,map_eq_some_iff->vX
namespace Go.Proofs.YthflbhjlkgdafaaGreatDoor
open Go Go.Ev Go.Proofs Tryz
namespace F4
open Y1 P2 E3 EA EL EO EP EQ ER F1 F2 F3
section
variable {av:AV}{xs:List (List AV)}{mu:Mu}
theorem Own.one{sz}(h:Own mu sz av xs):av.one=true:=by
 rcases h with rfl|⟨b,rfl,_⟩<;>rfl
theorem Own.cells{sz}(h:Own mu sz av xs):av.cells=[av]:=by
 rcases h with rfl|⟨b,rfl,_⟩<;>rfl
theorem Own.push{sz}(h:Own mu sz av xs)(c:List Cell):Own (mu++c) sz av xs:=by
 rcases h with rfl|⟨b,rfl,g⟩
 .exact .inl rfl
 .exact .inr ⟨b,rfl,by grind⟩
theorem Own.set{sz}(h:Own mu sz av xs){i}(c)(g:qq av≠some i):Own (mu.set i c) sz av xs:=by
 rcases h with rfl|⟨b,rfl,j⟩
 .exact .inl rfl
 .exact .inr ⟨b,rfl,by rw[yH (fun e=>g (by rw[e];rfl))];exact j⟩
theorem Own.lt{sz}(h:Own mu sz av xs){b}(g:qq av=some b):b<mu.length:=by
 rcases h with rfl|⟨j,rfl,i⟩
 .cases g
 .cases g;exact(ql.1 i).1
theorem qx.ownB{P}{t g e sz bt:Nat}{s x ys zv K}(T:qF P t=some (e,sz,bt))(j:(qF P g).isSome=true)(U:qB P e=some zv)
  (l:zv.cells.length=sz) (o:zv.cells.all AV.one=true) (p:sz≠0) (hb:bt<=16384) (ho:Own mu sz s xs) (hx:qA mu x=some ys) (J:qV sz xs) (wy:qV sz ys) (R:xs.length+ys.length<=4294967296)
  (k:∀ av mu',Own mu' sz av (xs++ys)->(∀ i,i<mu.length->qq s≠some i->mu'[i]?=mu[i]?)->(∀ b,qq av=some b->b=mu.length)->mu.length<=mu'.length->K av mu'):qx P mu #[t,g] s x K:=by
 refine .inl ?_;refine⟨t,g,e,sz,bt,ys,rfl,T,j,⟨zv,U,l,o⟩,p,hb,hx,wy,?_⟩;rcases ho with rfl|⟨b,rfl,hc⟩
 .refine .inl ⟨xs,rfl,J,R,fun h=>?_,fun h=>?_⟩
  .subst h
   exact k _ _ (.inl zSp) (fun _ _ _=>rfl) (fun b h=>by cases h) (qn _)
  .refine k _ _ (.inr ⟨mu.length,zSp,zSp⟩) (fun i C _=>?_) (fun b h=>by cases h;rfl) zSp
   rw[qL C]
 .have a0:=yK J.ok
  refine .inr ⟨b,xs.length,xs.flatten,rfl,hc,zOm,R,?_⟩;have a1:xs.flatten.take (xs.length*sz)=xs.flatten:=zU zOm;refine k _ _ (.inr ⟨mu.length,zSp,?_⟩) (fun i C I=>?_) (fun b h=>by cases h;rfl) zSp
  .grind
  .rw [qL (zUs C)]
   rw[yH (fun e=>I (by rw[e];rfl))]
theorem FzQ.ownB{Q i d sz st}(l:st.tm d=av)(p:Own st.mu sz av xs)(wf:qV sz xs)(hf:∀ r,r∈xs->∀ c,c∈r->HF c)
  (k:∀ mu' full,mu'.length=st.mu.length->(∀ j,qq av≠some j->mu'[j]?=st.mu[j]?)->Q (.exit i) (st.put (some d) (.lst full xs) mu')):FzQ Q (.exit i) st:=by
 rcases p with h|⟨b,h,t⟩
 .refine FzQ.one (b:=st.mu.length) (d:=d) (x := .lst true xs) ?_ (k _ _ (uN _ _ _) fun j o=>?_)
  .rw [l,h]
   exact .hf _ (HF.lst hf)
  .by_cases g:j=st.mu.length
   .simp_all [w6,uN,qn]
   .exact Un g _
 .refine FzQ.one (b:=b) (d:=d) (x := .lst false xs) ?_ (k _ _ (uN _ _ _) fun j o=>Un (fun e=>o (by rw[h,e];rfl)) _)
  rw[l];exact Own.rd (.inr ⟨b,h,by rw[ny];exact t⟩) wf.ok hf
abbrev lN(l:List Nat):AV:=lI (l.map fun k:Nat=>(k:Int))
theorem ql1(k:Nat)(l:List Nat):decide ((k:Int)∈l.map fun k:Nat=>(k:Int))=decide (k∈l):=by
 rw[uc,decide_eq_true_iff,decide_eq_true_iff,qp];exact⟨fun⟨a,h,e⟩=>by grind,fun h=>⟨k,h,rfl⟩⟩
theorem X2(x N)(p:OkMa x N)(s)(hs:s<N):qj qg 128 [eMa x,aI s] (lN (x.path s)):=by
 refine qSV call128 func128 rfl ?_;have hN:=p.N1;have hl:=p.len;have a2:=z8 x;simp[go_sem];refine dS (fun f U=>∃(cur:Nat) (i:List Nat),Qn x f cur i=x.path s/\i.Nodup/\(∀ t,t∈i->t<N)/\cur<N/\N+1<=f+i.length/\U.tm 0=eMa x/\U.tm 6=aI (cur:Nat)/\OwnI U.mu (U.tm 5) (i.map fun k:Nat=>(k:Int))) (N+1) ?_ ?_
 .refine ⟨s,[],by grind [Mo.path],zSp,zSp,hs,zSp,zSi,zSi,.inl ⟨zSi,rfl⟩⟩
 rintro f U ⟨cur,i,o,I,J,hc,hf,e0,P,T⟩;have a3:i.length<=N:=Uu N i I J;obtain⟨f,rfl⟩:∃ g,f=g+1:=⟨f-1,zOm⟩;have j:=qkZ (i.map fun k:Nat=>(k:Int)) cur zSo;rw[ql1]at j;simp only[Qn]at o;simp[go_sem,P];refine fX j ⟨T.v.rd,.hf _ (HF.sc _),trivial⟩ (FL.sc _) ?_;by_cases C:cur∈i
 .rw [if_pos C]at o
  simp[go_sem,C];rw[<-o];exact T.v.rd
 .rw [if_neg C]at o
  simp[go_sem,P,C];refine aV (e:=3) (bt:=8) (z:=0) (l:=i.map fun k:Nat=>(k:Int)) zSi zSi zSi zOm T.v zSo ?_;intro a4 R a5 _ _ _;have a0:=XP x p.loop zOm cur zOm;have a1:WKs [eMd x.m,aI cur] [eMd x.m,aI cur] := .zk (Vf x.m) (.zs .nil);simp[go_sem,e0,P];refine fW a0 a1 ?_;refine Keep.loop f zOm ⟨x.nx cur,i++[cur],o,?_,fun t ht=>?_,p.nx _ hc,zSo,zS1 e0,zSi,?_⟩
  .grind
  .grind
  simp[go_sem, *]
abbrev rB(b:Bool):List AV:=[aB b]
theorem Qq(xs:List Bool):qV 1 (xs.map rB):=fun r g=>by
 obtain⟨n,_,rfl⟩:=qp.1 g;exact⟨rfl,rfl⟩
theorem Own.rdB{xs}(h:Own mu 1 av (xs.map rB)):Rd mu av (lB xs):=
 h.rd (Qq xs).ok fun r g c i=>by
  obtain⟨n,_,rfl⟩:=qp.1 g
  grind [HF.sc]
def endL:XE (List Bool)->AEnd
 | .ok l => .ret (lB l)
 | .error e => .pan (errV e)
@[go_sem] theorem endL_ok(l):endL (.ok l) = .ret (lB l):=rfl
@[go_sem] theorem endL_err(e):endL (.error e) = .pan (errV e):=rfl
theorem Z4{C j g}:∀{i l2:List C}{r:List j},mapX g i = .ok r->mapX g (i++l2)=bX (mapX g l2) fun s => .ok (r++s)
 | [],l2,r,h=>by cases h;rw[y8];cases mapX g l2<;>rfl
 |a :: i,l2,r,h=>by
  rw[mapX]at h;obtain⟨b,l,o⟩:=yz h;obtain⟨I,p,t⟩:=yz o;cases t;rw[yq,mapX,l,zr,Z4 p];cases mapX g l2<;>rfl
theorem qaD(x g)(hl:g.length<=1000000)(p n)(ih:∀ s,s∈g->Ev3 x ⟨s,p.env⟩ n) :
  qR qg 127 [eMa x,lN g,ePl p,eNd n] (endL (mapX (fun s=>(den x n).F ⟨s,p.env⟩) g)):=by
 refine zd.of_sound ?_;refine qSW call127 func127 rfl {} ?_;have a1:=z8 x;generalize hE:mapX (fun s=>(den x n).F ⟨s,p.env⟩) g=E;simp[go_sem];refine aP g.length (fun k U=>∃ i:List Bool,mapX (fun s=>(den x n).F ⟨s,p.env⟩) (g.take k) = .ok i/\i.length=k/\U.tm 0=eMa x/\U.tm 6 = .ip (cPl p)/\U.tm 7 = .ip (cNd n)/\U.tm 12=lN g/\U.tm 13=aI g.length/\U.tm 14=aI k/\Own U.mu 1 (U.tm 9) (i.map rB)) ?_ ?_
 .exact ⟨[],rfl,rfl,zSi,zSi,zSi,zSi,zSi,zSi,.inl zSi⟩
 rintro k U hk ⟨i,J,T,e0,e6,e7,I,t,C,ho⟩;by_cases l:k<g.length
 .have w1:=zWk k
  have P:=(ih g[k] (qv l)).F;have hw:=wk3 x ⟨g[k],p.env⟩ n;have o:=Z4 (l2:=g.drop k) J;rw[uJ,ze l,mapX]at o;rw[hE]at o;simp[go_sem,e0,e6,e7,I,t,C,l];cases ef:(den x n).F ⟨g[k],p.env⟩ with
  |error e =>
   rw[ef]at P o;subst o;refine aC P hw ?_;simp[go_sem,zF];exact .hf _ (qN _)
  |ok b =>
   rw[ef]at P;refine fW P.toP hw ?_;refine qx.ownB (e:=4) (sz:=1) (bt:=1) (zv:=aB false) (xs:=i.map rB) (ys:=[rB b]) zSi zSi zSi rfl rfl zOm zOm ho (by simp[qA]) (Qq i) (Qq [b]) zSo ?_;intro a2 R a3 _ _ _;simp[go_sem,C,w1];refine⟨l,aM ⟨i++[b],?_,zP1 T,zS1 e0,zS1 e6,by simp[go_sem,e7],zS1 I,zS1 t,zSi,?_⟩⟩
   .rw [ya l,Z4 J,mapX,ef];rfl
   simp[go_sem, *]
 .have a0:k=g.length:=by omega
  subst a0;rw[za,hE]at J;subst J;simp[go_sem,t,C];exact Own.rdB ho
theorem qaE(x y)(g:x.length<=1000000000):qj qg 126 [lB x,aB y] (aB (decide (y∈x))):=qk1 x y g
theorem ql2(x N n a b)(hM:OkMa x N)(hk:n.sD=[a,b])(p)(hp:OkP x N p)(ih:∀ s,s∈x.path p.st->Ev3 x ⟨s,p.env⟩ a/\Ev3 x ⟨s,p.env⟩ b)(hl:(x.path p.st).length<=1000000) :
  qR qg 130 [eMa x,ePl p,eNd n] (endB (untX (fun s=>(den x a).F ⟨s,p.env⟩) (fun s=>(den x b).F ⟨s,p.env⟩) (x.path p.st) false false)):=by
 refine zd.of_sound ?_;refine qSW call130 func130 rfl {} ?_;have R:=z8 x;have T:=X2 x N hM p.st hp.st;generalize hE:untX (fun s=>(den x a).F ⟨s,p.env⟩) (fun s=>(den x b).F ⟨s,p.env⟩) (x.path p.st) false false=E;generalize x.path p.st=i at *
 simp[go_sem];refine fW T (.zk R (.zs .nil)) ?_;refine aP i.length (fun k U=>∃ d q:Bool,untX (fun s=>(den x a).F ⟨s,p.env⟩) (fun s=>(den x b).F ⟨s,p.env⟩) (i.drop k) d q=E/\U.tm 0=eMa x/\U.tm 4 = .ip (cPl p)/\U.tm 5 = .ip (cNd n)/\U.tm 7=aB d/\U.tm 8=aB q/\U.tm 17=lN i/\U.tm 18=aI i.length/\U.tm 19=aI k) ?_ ?_
 .simp [go_sem, *]
 rintro k U a3 ⟨d,q,g,e0,e4,e5,e7,e8,I,t,C⟩;by_cases j:k<i.length
 .have w1:=zWk k
  obtain⟨a0,a1⟩:=ih i[k] (qv j);have l:=a0.F;have o:=a1.F;have J:=wk3 x ⟨i[k],p.env⟩ a;have P:=wk3 x ⟨i[k],p.env⟩ b;rw[ze j,untX]at g;simp[go_sem,e4,I,t,C,j];refine fG [0,1,2,3,4,5,7,8,9,10,11,12,6,14,13,15] [(6,1,[8,10,12]),(13,1,[])] zKr zKr zSi ?_;simp[go_sem,e0,e5,hk];cases ea:(den x a).F ⟨i[k],p.env⟩ with
  |error e =>
   rw[ea]at l g;subst g;refine aC l J ?_;simp[go_sem,zF];exact .hf _ (qN _)
  |ok u =>
   rw[ea]at l g;rw[zr]at g;refine t8 l.toP J ?_;simp[go_sem,hk];cases eb:(den x b).F ⟨i[k],p.env⟩ with
   |error e =>
    rw[eb]at o g;subst g;refine aC o P ?_;simp[go_sem,zF];exact .hf _ (qN _)
   |ok v =>
    rw[eb]at o g;rw[zr]at g;refine t8 o.toP P ?_;cases d<;>cases q<;>cases u<;>cases v<;>simp[go_sem,e7,e8,C,w1]<;>refine⟨j,aM ⟨_,_,g,zS1 e0,zS1 e4,zS1 e5,zSi,zSi,zS1 I,zS1 t,zSi⟩⟩
 .have a2:k=i.length:=by omega
  subst a2;rw[yf,untX]at g;subst g;simp[go_sem,e7,t,C];exact .zsc _
theorem uq{n}(i:WfN n)(h:n.op=5\/n.op=11\/n.op=12\/n.op=13\/n.op=21\/n.op=34\/n.op=35\/n.op=36\/n.op=37\/n.op=40\/n.op=48\/n.op=49\/n.op=50):∃ a,n.sD=[a]:=by
 have g:=i.shape;have j:n.sD.length=1:=by
  unfold shp at g;rw[zIn]at g;split at g
  .simpa using congrArg List.length (Option.some.inj g).symm
  .rw [zIn,zIn,zIn,if_pos zOm]at g
   simpa using congrArg List.length (Option.some.inj g).symm
 match n.sD,j with
 | [a],_=>exact⟨a,rfl⟩
theorem ju{n}(i:WfN n)(h:(6<=n.op/\n.op<=10)\/n.op=14\/n.op=15\/n.op=22\/n.op=23\/n.op=32\/n.op=33\/n.op=38\/n.op=39\/(41<=n.op/\n.op<=46)\/n.op=51):∃ a b,n.sD=[a,b]:=by
 have g:=i.shape;have j:n.sD.length=2:=by
  unfold shp at g;rw[zIn,zIn]at g;split at g
  .simpa using congrArg List.length (Option.some.inj g).symm
  .split at g
   .simpa using congrArg List.length (Option.some.inj g).symm
   .split at g
    .simpa using congrArg List.length (Option.some.inj g).symm
    .rw [zIn,if_pos zOm]at g
     simpa using congrArg List.length (Option.some.inj g).symm
 match n.sD,j with
 | [a,b],_=>exact⟨a,b,rfl⟩
theorem ql3(x N n)(U:WfN n)(hM:OkMa x N)(J:IH x N n)(p)(P:OkP x N p)(hq:bd p n) :
  qR qg 124 [eMa x,ePl p,eNd n] (endN ((den x n).N p)):=by
 refine zd.of_sound ?_;refine qSW call124 func124 rfl {} ?_;have a0:=z8 x;rw[vw];simp only[opD];unfold opN;by_cases j:n.op=20
 .rw [if_pos j]
  simp[go_sem,j];exact .zsc _
 rw[if_neg j];by_cases l:n.op=21
 .rw [if_pos l]
  obtain⟨a,g⟩:=uq U zOm;have i:=(J a (by rw[g];simp) p P zOm).E;have I:=wk3 x p a;simp[go_sem,l,g,kD];refine fG [0,1,2,3,4,5,6,7,8,9] [(6,1,[])] zKr zKr zSi ?_;simp[go_sem,g];cases ea:(den x a).E p with
  |error e =>
   rw[ea]at i;refine aC i I ?_;simp[go_sem,zF];exact .hf _ (qN _)
  |ok r =>
   rw[ea]at i;refine t8 i.toP I ?_;simp[go_sem,zr];exact .zsc _
 rw[if_neg l];by_cases o:n.op=22
 .rw [if_pos o]
  obtain⟨a,b,g⟩:=ju U zOm;have i:=(J a (by rw[g];simp) p P zOm).N;have t:=(J b (by rw[g];simp) p P zOm).N;have I:=wk3 x p a;have R:=wk3 x p b;simp[go_sem,o,g,kD];refine fG [0,1,2,3,4,5,7,8,9,10,11,12,6,13,14,15] [(6,1,[8,10,12]),(13,1,[])] zKr zKr zSi ?_;simp[go_sem,g];cases ea:(den x a).N p with
  |error e =>
   rw[ea]at i;refine aC i I ?_;simp[go_sem,zF];exact .hf _ (qN _)
  |ok r =>
   rw[ea]at i;refine t8 i.toP I ?_;simp[go_sem,zr,g];cases T:(den x b).N p with
   |error e =>
    rw[T]at t;refine aC t R ?_;simp[go_sem,zF];exact .hf _ (qN _)
   |ok s =>
    rw[T]at t;refine t8 t.toP R ?_;simp[go_sem,zr];exact .zsc _
 rw[if_neg o];by_cases C:n.op=23
 .rw [if_pos C]
  obtain⟨a,b,g⟩:=ju U zOm;have i:=(J a (by rw[g];simp) p P zOm).N;have t:=(J b (by rw[g];simp) p P zOm).N;have I:=wk3 x p a;have R:=wk3 x p b;simp[go_sem,C,g,kD];refine fG [0,1,2,3,4,5,7,8,9,10,11,12,6,13,14,15] [(6,1,[8,10,12]),(13,1,[])] zKr zKr zSi ?_;simp[go_sem,g];cases ea:(den x a).N p with
  |error e =>
   rw[ea]at i;refine aC i I ?_;simp[go_sem,zF];exact .hf _ (qN _)
  |ok r =>
   rw[ea]at i;refine t8 i.toP I ?_;simp[go_sem,zr,g];cases T:(den x b).N p with
   |error e =>
    rw[T]at t;refine aC t R ?_;simp[go_sem,zF];exact .hf _ (qN _)
   |ok s =>
    rw[T]at t;refine t8 t.toP R ?_;simp[go_sem,zr];exact .zsc _
 rw[if_neg C];simp[go_sem,j,l,o,C];refine aC (wP 43) (wkI 43) ?_;simp[go_sem];exact .hf _ (qN _)
end
end F4
namespace F5
open Y1 YF E2 E3 EA EO EP EQ ER ET EW F1 F2 F3 F4
theorem clipE(l):qj qg 190 [lPm l] (.lst true (l.map cPm)):=by
 refine qSV call190 func190 rfl ?_;have g:List.take l.length (l.map cPm)=l.map cPm:=zU zSp;simp[go_sem,g];exact⟨⟨_,_,⟨rfl,rfl⟩,fun r i=>by obtain⟨q,_,rfl⟩:=qp.1 i;rfl⟩,.hf _ (HF.lst fun r i c j=>by obtain⟨q,_,rfl⟩:=qp.1 i;exact ZV q c j)⟩
theorem clipI(l):qj qg 187 [lI l] (lI l):=by
 refine qSV call187 func187 rfl ?_;have g:List.take l.length (l.map rI)=l.map rI:=zU zSp;simp[go_sem,g];exact⟨⟨_,_,⟨rfl,rfl⟩,(jD l).ok⟩,.wk _ true _ (.hf _ (HF.lst fun r i c j=>by obtain⟨q,_,rfl⟩:=qp.1 i;grind [HF.sc]))⟩
theorem Qr(xs:List (dC×Int)):qV 2 (xs.map cPm):=fun r g=>by
 obtain⟨n,_,rfl⟩:=qp.1 g;exact⟨rfl,rfl⟩
abbrev insC(g:Int)(ts:List Int)(i:List Bool):List AV:=[.ip [aI g,lI ts],.ip [lB i]]
def Z5(ts:List Int)(g:List Bool):List (List AV):=(ts.zip g).map fun e=>[aI e.1,aB e.2]
theorem X3(p ts g)(t:ts.length=g.length)(hb:ts.length<=1000000):jO qg 191 (insC p ts g) (Z5 ts g):=by
 refine jO.of call191 fun i I Ix hS hX C mu h0=>?_
 refine qSW call191 func191 rfl {} ?_;have J:(Z5 ts g).length=ts.length:=by simp[Z5,t]
 simp[go_sem];refine aP ts.length (fun k U=>U.tm 0 = .yl i/\U.tm 2 = .ip [lB g]/\U.tm 7=lI ts/\U.tm 8=aI ts.length/\U.tm 9=aI k/\I k U.mu) ?_ ?_
 .simp [go_sem, *]
 rintro k U hk ⟨P,T,e7,e8,e9,hI⟩;by_cases j:k<ts.length
 .have w1:=zWk k
  have o:k<g.length:=zOm;have l:(Z5 ts g)[k]?=some [aI ts[k],aB g[k]]:=by
   rw[Z5,zz,List.getElem?_zip_eq_some (z:=(ts[k],g[k])) |>.2 ⟨qy j,qy o⟩];rfl
  simp[go_sem,P,T,e7,e8,e9,j,o];refine qi.yield (C _ _ _ l hI) ?_;rintro b R (⟨rfl,a0⟩|⟨rfl,a1⟩)
  .simp_all [go_sem,aM]
  simp[go_sem, *]
 .have a2:k=ts.length:=by omega
  simp_all[go_sem]
def endI(l:XE (List (Int×Bool))):AEnd:=match l with
 | .ok l => .ret (.fn (.func 191) [] (insC 1 (l.map Prod.fst) (l.map Prod.snd)))
 | .error e => .pan (errV e)
theorem UP(l):endI (.ok l) = .ret (.fn (.func 191) [] (insC 1 (l.map Prod.fst) (l.map Prod.snd))):=rfl
theorem X4(e):endI (.error e) = .pan (errV e):=rfl
theorem X5(x N n a b)(hM:OkMa x N)(hk:n.sD=[a,b])(ih:IH x N n)(p)(hp:OkP x N p)(hq:bd p n) :
  qR qg 125 [eMa x,ePl p,eNd n] (endI (jS [den x a,den x b] n.name p)):=by
 refine zd.of_sound ?_;refine qSW call125 func125 rfl {} ?_;have ia:=ih a (by rw[hk];simp) p hp zOm;have ha:=ia.E;have wa:=wk3 x p a;have aj:=z8 x;have ak:=fun p' h1 h2=>(ih b (by rw[hk];simp) p' h1 h2).F
 generalize C:jS [den x a,den x b] n.name p=E;unfold jS at C;simp only[kD,vh,List.getD_cons_succ]at C;simp[go_sem];refine fG [0,1,2,3,4,5,6,7,8] [(6,1,[]),(7,2,[1,3,5]),(8,1,[])] zKr zKr zSi ?_;simp[go_sem,hk];cases ea:(den x a).E p with
 |error e =>
  rw[ea]at ha C;subst C;refine aC ha wa ?_;simp[go_sem,zF,X4];exact .hf _ (qN _)
 |ok d =>
  rw[ea]at ha C;rw[zr]at C;refine t8 ha.toP wa ?_;by_cases he:d.ar=1
  case neg =>
   rw[if_neg he]at C;subst C;simp[go_sem,hk,he];refine aC (wP 42) (wkI 42) ?_;simp[go_sem,X4];exact .hf _ (qN _)
  rw[if_pos he]at C;have hd:(d.ar=1)=True:=eq_true he;have gd:=ia.G _ ea;have ld:=gd.len hM.n0 (cC hM);generalize hg:(fun a=>bX ((den x b).F ⟨p.st,p.env++[(n.name,a)]⟩) fun b=>(Except.ok (a,b):XE (Int×Bool)))=g at C;simp[go_sem,hk,hd];refine aP d.ts.length (fun k U=>∃(o:List (Int×Bool)) (t:AV),mapX g (d.ts.take k) = .ok o/\o.length=k/\U.tm 0=eMa x/\U.tm 4 = .ip (cPl p)/\U.tm 5 = .ip (cNd n)/\U.tm 7 = .ptr 0 0/\U.tm 8 = .ptr 1 0/\U.tm 24=lI d.ts/\U.tm 25=aI d.ts.length/\U.tm 26=aI k /\
   U.mu[0]?=some (.arr (cRel d))/\U.mu[1]?=some (.arr [t])/\Own U.mu 1 t ((o.map Prod.snd).map rB)/\qq t≠some 0/\qq t≠some 1) ?_ ?_
  .exact ⟨[],.lst true [],rfl,rfl,zSi,zSi,zSi,zSi,zSi,zSi,zSi,zSi,zSi,zSi,.inl rfl,by simp[qq],by simp[qq]⟩
  rintro k U ay ⟨o,t,J,al,e0,e4,e5,e7,e8,ab,a5,a6,g0,g1,ho,n0,n1⟩;by_cases I:k<d.ts.length
  .have w1:=zWk k
   have hv:=gd.val _ (qv I);rw[he,vP]at hv;have hF:=ak ⟨p.st,p.env++[(n.name,d.ts[k])]⟩ (hp.bind hv) zSo;have hw:=wk3 x ⟨p.st,p.env++[(n.name,d.ts[k])]⟩ b;have P:=Z4 (l2:=d.ts.drop k) J;rw[uJ,ze I,mapX]at P;rw[C]at P;have a0:g d.ts[k]=bX ((den x b).F ⟨p.st,p.env++[(n.name,d.ts[k])]⟩) fun b => .ok (d.ts[k],b):=by rw[<-hg]
   simp[go_sem,ab,a5,a6,I];refine fG [0,1,3,4,5,6,7,2,8,9] [(2,1,[4]),(8,1,[])] zKr zKr zSi ?_;simp[go_sem,e4,e5];refine fW (clipE p.env) (.zk (j5 _) .nil) ?_;refine qx.ownB (e:=56) (sz:=2) (bt:=24) (zv := .agg [aS ⟨#[]⟩,aI 0]) (xs:=p.env.map cPm) (ys:=[cPm (n.name,d.ts[k])]) zSi zSi zSi rfl rfl zOm zOm (.inl rfl) (by simp[qA]) (Qr p.env) (Qr [(n.name,d.ts[k])]) zSo ?_;intro ev ad ae an az b0;have l1:1<U.mu.length:=(ql.1 g1).1;have a3:p.env.map cPm++[cPm (n.name,d.ts[k])]=(p.env++[(n.name,d.ts[k])]).map cPm:=by rw[zi];rfl
   rw[a3]at ae;have af:∀ i,i<U.mu.length->ad[i]?=U.mu[i]?:=fun i hi=>an i hi (by simp[qq])
   simp[go_sem];refine qk.fz (FzQ.ownB (d:=11) (sz:=2) (av:=ev) (xs:=(p.env++[(n.name,d.ts[k])]).map cPm) zSi ae (Qr _) (fun r hr c hc=>by obtain⟨q,_,rfl⟩:=qp.1 hr;exact ZV q c hc) fun a1 full ao aq=>?_);have a7:∀ i,i<U.mu.length->a1[i]?=U.mu[i]?:=fun i hi=>(aq i (fun e=>by grind)).trans (af i hi)
   simp[go_sem];refine fG [0,1,2,3,4,5,6,7,8,9,10,11,12,13] [(10,1,[0]),(12,1,[]),(13,1,[])] zKr zKr zSi ?_;have au:=(a7 0 zOm).trans g0;have a8:=(a7 1 l1).trans g1;have a2:∀ f,WKs [eMa x,.agg [aI p.st,.lst f ((p.env++[(n.name,d.ts[k])]).map cPm)],eNd b] [eMa x,ePl ⟨p.st,p.env++[(n.name,d.ts[k])]⟩,eNd b]:=fun f =>
    .zk aj (.cons (WK.aggs (.zs (.cons (WK.lst fun r hr c hc=>by obtain⟨q,_,rfl⟩:=qp.1 hr;exact ZV q c hc) .nil))) (.zk (qE b) .nil))
   have aw:Own a1 1 t ((o.map Prod.snd).map rB):=by
    rcases ho with h|⟨bb,h,hc⟩
    .exact .inl h
    .exact .inr ⟨bb,h,by rw[a7 bb (ql.1 hc).1];exact hc⟩
   have a2:WKs [eMa x,.agg [aI p.st,.lst full (p.env.map cPm++[cPm (n.name,d.ts[k])])],.agg (cNd b)] [eMa x,ePl ⟨p.st,p.env++[(n.name,d.ts[k])]⟩,eNd b]:=by rw[a3];exact a2 full
   simp[go_sem,e0,e4,e5,e8,hk,a8];cases ef:(den x b).F ⟨p.st,p.env++[(n.name,d.ts[k])]⟩ with
   |error e =>
    rw[ef]at hF a0;rw[a0]at P;subst P;refine aC hF a2 ?_;simp[go_sem,zF,X4];exact .hf _ (qN _)
   |ok v =>
    rw[ef]at hF a0;refine t8 hF.toP a2 ?_;simp[go_sem,e8,a8];refine qx.ownB (e:=4) (sz:=1) (bt:=1) (zv:=aB false) (xs:=(o.map Prod.snd).map rB) (ys:=[rB v]) zSi zSi zSi rfl rfl zOm zOm aw (by simp[qA]) (Qq _) (Qq [v]) zSo ?_;intro a9 R aa ag ah b1;have b2:U.mu.length<=a1.length:=by
     have:a1.length=ad.length:=ao;omega
    have k0:R[0]?=some (.arr (cRel d)):=(ag 0 zOm n0).trans au;have k1:R[1]?=some (.arr [t]):=(ag 1 zOm n1).trans a8;have m0:qq a9≠some 0:=fun e=>zW1 (ah 0 e)
    have m1:qq a9≠some 1:=fun e=>zW1 (ah 1 e)
    simp[go_sem,e8,a6,k1,Own.one aa,Own.cells aa,w1];refine⟨I,aM ⟨o++[(d.ts[k],v)],a9,?_,zP1 al,zS1 e0,zS1 e4,zS1 e5,by simp[go_sem,e7],zS1 e8,zS1 ab,zS1 a5,zSi,?_,?_,?_,m0,m1⟩⟩
    .rw [ya I,Z4 J,mapX,a0];rfl
    .simp only[qK];rw[zGl];exact k0
    .simp only[qK];rw[qJ zOm]
    .simp only[qK]
     rw[zi,zi];exact Own.set aa _ m1
  .have ax:k=d.ts.length:=by omega
   subst ax;rw[za,C]at J;subst J;have ai:=XM (g:=fun a=>(den x b).F ⟨p.st,p.env++[(n.name,a)]⟩) (ts:=d.ts) (l:=o) (by rw[hg];exact C);have a4:=UP o;rw[ai]at a4;generalize o.map Prod.snd=vs at *
   simp[go_sem,e7,e8,a5,a6,a4];refine .fn _ _ _ _ _ rfl rfl (fun k x y hx=>by simp at hx) (fun k x y hx hy=>?_)
   match k with
   | 0 =>
    simp at hx hy;subst hx;subst hy;rw[<-he];refine .ptr 0 0 _ _ g0 zSp fun k u v hu hv=>?_
    rw[yJ]at hu;rw[hu]at hv;cases hv;exact .hf _ (Yt d _ (q8 hu))
   | 1=>simp at hx hy;subst hx;subst hy;exact aQ g1 (Own.rdB ho)
   |k+2=>simp at hx
theorem RelM.push{mu g l}(h:RelM mu g l):RelM (mu++[.dead]) g l:=by
 obtain⟨t,p,g1,i,n0,j⟩:=h;exact⟨t,by grind,by grind,i.same fun b o=>by rw[qL (i.v.lt o)],n0,j⟩
abbrev onL(l:List (Int×Bool)):List Int:=(l.filter fun e=>e.2).map fun e=>e.1
theorem X6(l:List (Int×Bool)):Z5 (l.map Prod.fst) (l.map Prod.snd)=l.map fun e=>[aI e.1,aB e.2]:=by
 rw[Z5,List.zip_map'];simp
theorem ql4(l:List (Int×Bool))(k h):onL (l.take (k+1))=onL (l.take k)++(if l[k].2=true then [l[k].1] else []):=by
 rw[ya h,onL,List.filter_append,zi]
 grind
theorem X7{ds nm p l}(h:jS ds nm p = .ok l)(B)(hB:∀ d,(kD ds 0).E p = .ok d->d.ts.length<=B):l.length<=B:=by
 obtain⟨d,i,_,g⟩:=XN h;have:=congrArg List.length g
 grind
theorem ql5(x N n a b)(hM:OkMa x N)(hk:n.sD=[a,b])(ih:IH x N n)(p)(hp:OkP x N p)(hq:bd p n) :
  qR qg 116 [eMa x,ePl p,eNd n] (endE (bX (jS [den x a,den x b] n.name p) fun l => .ok ⟨1,(l.filter fun e=>e.2).map fun e=>e.1⟩)):=by
 refine zd.of_sound ?_;refine qSW call116 func116 rfl {} ?_;have I:=X5 x N n a b hM hk ih p hp hq;have wx:=wk3 x p n;simp[go_sem];cases hE:jS [den x a,den x b] n.name p with
 |error e =>
  rw[hE]at I;refine aC I wx ?_;simp[go_sem,zF];exact .hf _ (qN _)
 |ok l =>
  rw[hE]at I;have hl:l.length<=8000:=X7 hE 8000 fun d h=>((ih a (by rw[hk];simp) p hp zOm).G d h).len hM.n0 (cC hM)
  have J:=X3 1 (l.map Prod.fst) (l.map Prod.snd) zSp zSo;rw[X6]at J;rw[UP]at I;refine t8 I.toP wx ?_;generalize insC 1 (l.map Prod.fst) (l.map Prod.snd)=C at *
  simp[go_sem,zr];refine dA J (fun j M=>RelM M 1 (onL (l.take j))) (fun _ _=>False) ?_ ?_ ?_ ?_ ?_ ?_
  .exact ⟨.lst true [],zSi,zSi,.inl ⟨rfl,rfl⟩,by simp[qq],by simp[qq]⟩
  .grind [RelM.push]
  .grind
  .rintro j y M hj ⟨av,P,g1,o,n0,n1⟩
   rw[zz,vX]at hj;obtain⟨t,ht,rfl⟩:=hj;obtain⟨a0,a1⟩:=ql.1 ht;have g:=ql4 l j a0;rw[a1]at g;refine⟨rfl,?_⟩;cases U:t.2 with
   |true =>
    rw[if_pos U]at g;have a5:(onL (l.take j)).length<=8000:=by
     rw[onL,zT];exact zQ (List.length_filter_le _ _) zSo
    simp[go_sem,g1];refine aV (e:=3) (bt:=8) (z:=0) zSi zSi zSi zOm o.v zOm ?_;intro a6 R i a2 a3 a4;obtain⟨k1,k2⟩:=RelM.step P g1 n0 n1 i a2 a3 a4;simp[go_sem,k1,i.v.one,i.v.cells]
    grind [dK]
   |false =>
    rw[if_neg (by rw[U];simp),ye]at g;simp[go_sem];refine dK ?_;rw[g];exact⟨av,P,g1,o,n0,n1⟩
  .rintro M ⟨av,P,g1,o,n0,n1⟩
   rw[zT,za]at o;have T:∀ c,(M.set 0 c)[0]?=some c:=fun c=>qJ (ql.1 P).1
   simp[go_sem,P,g1,T,o.v.one];refine aL (o.v.same fun b U=>?_);rw[yH (fun e=>n0 (by rw[e];exact U))]
  grind
end F5
namespace F6
open Y1 Y10 P1 YF E3 EA EO EP EQ ER EW F1 F2 F3 F4 F5
section
variable {env:List (dC×Int)}{st:St}{Q:qW->St->Prop}
theorem backU(l):qj qg 186 [lPm l] (.fn (.func 246) [] [.ip [lPm l]]):=by
 refine qSU call186 func186 rfl ?_;exact .hf _ (HF.fn zSp (by simp;exact jt (j5 _)))
def Zr(l:List (dC×Int)):List (List AV):=(qu l.length).map fun k:Nat=>[aI ((l.length-1-k:Nat):Int),.agg (cPm (l.getD (l.length-1-k) (⟨#[]⟩,0)))]
theorem ql6(l)(hl:l.length<=1000000000):jO qg 246 [.ip [lPm l]] (Zr l):=by
 refine jO.of call246 fun i I Ix hS hX hY mu h0=>?_
 refine qSW call246 func246 rfl {} ?_;have a0:(Zr l).length=l.length:=by simp[Zr]
 have w0:qo.wrap ((l.length:Int)-1)=(l.length:Int)-1:=zWr;simp[go_sem,w0];refine aP l.length (fun k U=>U.tm 0 = .yl i/\U.tm 1 = .ip [lPm l]/\U.tm 3=aI ((l.length:Int)-1-k)/\I k U.mu) ?_ ?_
 .simp [go_sem, *]
 rintro k U hk ⟨e0,e1,C,hI⟩;by_cases g:k<l.length
 .have hj:((l.length:Int)-1-k)=((l.length-1-k:Nat):Int):=by omega
  have o:l.length-1-k<l.length:=zOm;have hw:qo.wrap (((l.length-1-k:Nat):Int)-1)=(l.length:Int)-1-((k+1:Nat):Int):=by grind [yh]
  have p:(0:Int)<=((l.length-1-k:Nat):Int):=zOm;have t:(Zr l)[k]?=some [aI ((l.length-1-k:Nat):Int),.agg (cPm l[l.length-1-k])]:=by
   rw[Zr,zz,Qa g];simp[zH,qy o]
  rw[hj]at C;generalize l.length-1-k=j at *
  simp[go_sem,e0,e1,C,p,o];refine qi.yield (hY _ _ _ t hI) ?_;rintro b R (⟨rfl,J⟩|⟨rfl,P⟩)
  .simp [go_sem,C,hw]
   exact⟨g,aM ⟨zS1 e0,zS1 e1,zSi,zVs J⟩⟩
  .simp [go_sem]
   exact .inr P
 .have T:k=l.length:=by omega
  subst T;rw[show (l.length:Int)-1-l.length = -1 by omega]at C;simp[go_sem, *]
theorem X8(nm):∀(l:List (dC×Int))(r),(∀ e,e∈l->e.1≠nm)->l.foldl (fun r e=>if e.1=nm then some e.2 else r) r=r
 | [],r,_=>rfl
 |e :: l,r,h=>by rw[List.foldl_cons,if_neg (h e zSp)];exact X8 nm l r fun x g=>h x (zP1 g)
theorem ql7{nm}(h:∀ e,e∈env->e.1≠nm):vQ nm env=none:=X8 nm env none h
theorem ql8{nm j}(g)(i:env[j].1=nm)(h:∀ e,e∈env.drop (j+1)->e.1≠nm):vQ nm env=some env[j].2:=by
 have e:env=env.take j++env[j] :: env.drop (j+1):=by rw[<-ze g,uJ]
 unfold vQ
 conv=>lhs;rw[e]
 rw[uI,List.foldl_cons,if_pos i];exact X8 nm _ _ h
theorem ql9(fs:List Fld)(rs:List Rl)(nm k h)(g:k<rs.length):yU (fs.take (k+1)) (rs.take (k+1)) nm=yU (fs.take k) (rs.take k) nm++(if fs[k].name=nm then [rs[k]] else []):=by
 unfold yU;rw[ya h,ya g,List.zip_append zSo,List.filterMap_append];congr 1;by_cases e:fs[k].name=nm<;>simp[e]
theorem qaF(fs rs nm):(yU fs rs nm).length<=fs.length:=by
 grind [yU,zQ,List.length_filterMap_le,List.length_zip]
def Zs(x:Mo)(nm:dC)(i:Nat)(s:dC×Bool):List Rl:=(if s.1=nm then [⟨1,zt x i⟩] else [])++((if s.2=true/\s.1++yP=nm then [⟨1,(zt x i).take 1⟩] else [])++(if s.2=true/\s.1++jq=nm then [⟨2,Qo x i⟩] else []))
theorem qaG(x nm):∀ a b i,yu x nm i (a++b)=yu x nm i a++yu x nm (i+a.length) b
 | [],b,i=>rfl
 |s :: a,b,i=>by
  rw[yq,yu,yu,qaG x nm a b (i+1),yy,show i+1+a.length=i+(a.length+1) by omega];simp only[zL]
theorem qaH(x nm)(so:List (dC×Bool))(k h):yu x nm 0 (so.take (k+1))=yu x nm 0 (so.take k)++Zs x nm k so[k]:=by
 rw[ya h,qaG,ub,Nat.min_eq_left zOm,yJ,yu];simp[Zs,yu]
theorem qmA(x nm i s):(Zs x nm i s).length<=3:=by
 grind [Zs,zj]
theorem qaI(x nm)(so:List (dC×Bool)):∀ k,k<=so.length->(yu x nm 0 (so.take k)).length<=3*k
 | 0,_=>by simp[yu]
 |k+1,h=>by
  rw[qaH x nm so k zOm,zj];have:=qaI x nm so k zOm;have:=qmA x nm k so[k];omega
theorem qaJ(sc)(i:Nat):tupR sc [(i:Int)] 0=(qu (gI sc.sC i).toNat).map fun k:Nat=>sumI (sc.sC.take i)+k:=by
 rw[tupR];simp only[tupR,Int.zero_mul,Int.zero_add,show (i:Int).toNat=i by omega];exact List.map_eq_flatMap.symm
theorem cM{i d L x}(g:Rd (cutM (fun j=>decide (L<=j)) st.mu 0) (st.tm d) x)(k:Q (.exit i) (st.put (some d) x (cutM (fun j=>!decide (L<=j)) st.mu 0))):FzQ Q (.exit i) st:=by
 refine⟨_,⟨fun j=>decide (L<=j),rfl,fun j=>?_⟩,trivial,k⟩;simp only[St.put];split
 .rename_i h;subst h;exact .rd _ _ g
 .exact .same _
def bR:Nat->Int
 | 0=>0
 |k+1=>bR k*20+20
theorem bR_ok:∀ k,k<=3->bR k<=100000
 | 0,_=>zDe
 | 1,_=>zDe
 | 2,_=>zDe
 | 3,_=>zDe
def vS(n:Int)(tuple:List Int):Int:=tuple.foldl (fun o t=>o*n+t) 0
theorem qmB(n)(tuple:List Int)(k h):vS n (tuple.take (k+1))=vS n (tuple.take k)*n+tuple[k]:=by
 rw[List.take_add_one,qy h,vS,vS,uI];rfl
theorem qaK(sc)(g:GSc sc)(tuple)(ht:tuple.length<=3)(hd:∀ d,d∈tuple->0<=d/\d<sumI sc.sC):qj qg 188 [eSc sc,lI tuple] (aI (vS (sumI sc.sC) tuple)):=by
 refine qSV call188 func188 rfl ?_;simp[go_sem,show ¬(3:Int)<tuple.length by omega];refine t8 (YP sc g) (.zk (zD sc) .nil) ?_;have o:=g.sum sc.sC.length;rw[za]at o;generalize sumI sc.sC=n at *
 simp[go_sem];refine qm.up tuple.length (fun k U=>U.tm 5=aI n/\U.tm 14=lI tuple/\U.tm 15=aI tuple.length/\U.tm 6=aI (vS n (tuple.take k))/\U.tm 16=aI k/\U.mu=[]/\0<=vS n (tuple.take k)/\vS n (tuple.take k)<=bR k) ?_ ?_
 .simp [go_sem,vS,bR]
 rintro k U hk ⟨P,p,j,R,l,T,t,C⟩;by_cases i:k<tuple.length
 .have I:=hd _ (qv i)
  have hs:=qmB n tuple k i;have hb:=bR_ok k zOm;have a0:bR (k+1)=bR k*20+20:=rfl;generalize a1:vS n (tuple.take k)=r at *
  have m0:0<=r*n:=Int.mul_nonneg t zOm;have m1:r*n<=bR k*20:=Int.mul_le_mul C zOm zOm zOm;have hw:qo.wrap (n-1)=n-1:=zWr;simp[go_sem,P,p,j,l,T,i,hw];refine t8 (UK tuple[k] 0 (n-1)) (.zs (.zs (.zs .nil))) ?_;simp[go_sem,P,p,j,R,l,i,I.1,show tuple[k]<=n-1 by omega];rw[hs,yh (n:=r*n) zOm zOm,yh (n:=r*n+tuple[k]) zOm zOm,yh (n:=(k:Int)+1) zOm zOm];omega
 .have J:k=tuple.length:=by omega
  subst J;simp[go_sem,j,R,l,T];exact .zsc _
theorem BrS.join{P pl b A B K}(J)(j:b=true->awp P pl A (seqQ (fun st=>Keep J .mk st) Q) st)(l:b=false->awp P pl B (seqQ (fun st=>Keep J .mk st) Q) st)(o:∀ st,J st->K st) :
  BrS b (awp P pl A (seqQ K Q)) (awp P pl B (seqQ K Q)) st:=by
 refine tZ (fun h=>awp.mono A (j h) fun e st g=>?_) (fun h=>awp.mono B (l h) fun e st g=>?_)
 all_goals cases e with
  |normal=>exact o st g
  |exit i=>exact g
  |ret=>exact g
  |pan v=>exact g
theorem cD{b p q}(J:St->Prop)(h:J st)(k:∀ st,J st->BrS b p q st):BrS b p q st:=k st h
def FndM(mu:Mu)(s:AV)(F:List Rl):Prop:=mu[0]?=some (.arr [aI 0,.lst true []])/\Own mu 2 s (F.map cRel)/\qq s≠some 0
theorem cG{full}(l):WK (.lst full (l.map rI)) (lI l):=WK.lst fun r g c i=>by
 obtain⟨n,_,rfl⟩:=qp.1 g
 grind [HF.sc]
structure SInv (x:Mo) (nm sn:dC) (sb:Bool) (k c d:Nat) (F:List Rl) (st:St):Prop where
 e0:st.tm 0=eMa x
 e5:st.tm 5 = .ip [aS nm]
 e6:st.tm 6 = .ptr 0 0
 e13:st.tm 13 = .ptr c 0
 e14:st.tm 14 = .ptr d 0
 e65:st.tm 65=lSo x.ts.sS
 e66:st.tm 66=aI x.ts.sS.length
 e67:st.tm 67=aI k
 g0:st.mu[0]?=some (.arr [aI 0,.lst true []])
 gc:st.mu[c]?=some (.arr [aS sn,aB sb])
 gd:st.mu[d]?=some (.arr [aI 1,lI (zt x k)])
 ho:Own st.mu 2 (st.tm 9) (F.map cRel)
 n0:qq (st.tm 9)≠some 0
 nc:qq (st.tm 9)≠some c
 nd:qq (st.tm 9)≠some d
structure SNew (c d:Nat) (F:List Rl) (av:AV) (mu:Mu):Prop where
 g0:mu[0]?=some (.arr [aI 0,.lst true []])
 ho:Own mu 2 av (F.map cRel)
 n0:qq av≠some 0
 nc:qq av≠some c
 nd:qq av≠some d
theorem SInv.app{t l}(J:qF qg t=some (42,2,32))(g:(qF qg l).isSome=true){x nm o C k c d F st}(h:SInv x nm o C k c d F st)(hl:F.length<=100)(r){I}(P:qA st.mu I=some [cRel r]){K}
  (R:∀ av mu',SNew c d (F++[r]) av mu'->mu'[c]?=some (.arr [aS o,aB C])->mu'[d]?=some (.arr [aI 1,lI (zt x k)])->K av mu'):qx qg st.mu #[t,l] (st.tm 9) I K:=by
 have T:=(ql.1 h.gc).1;have U:=(ql.1 h.gd).1;have l0:=(ql.1 h.g0).1;refine qx.ownB (e:=42) (sz:=2) (bt:=32) (zv := .agg [aI 0,.lst true []]) (xs:=F.map cRel) (ys:=[cRel r]) J g zSi rfl rfl zOm zOm h.ho P (jP _) (jP [r]) zSo ?_;intro i mu' a0 g a1 a2;refine R i mu' ⟨by rw[g 0 l0 h.n0];exact h.g0,by grind,fun e=>by grind,fun e=>by grind,fun e=>by grind⟩ (by rw[g c T h.nc];exact h.gc) (by rw[g d U h.nd];exact h.gd)
theorem appR{t l}(C:qF qg t=some (42,2,32))(g:(qF qg l).isSome=true){mu s F}(h:FndM mu s F)(hl:F.length<=100)(r){o}(I:qA mu o=some [cRel r]){K}
  (J:∀ av mu',FndM mu' av (F++[r])->K av mu'):qx qg mu #[t,l] s o K:=by
 have P:=(ql.1 h.1).1;refine qx.ownB (e:=42) (sz:=2) (bt:=32) (zv := .agg [aI 0,.lst true []]) (xs:=F.map cRel) (ys:=[cRel r]) C g zSi rfl rfl zOm zOm h.2.1 I (jP _) (jP [r]) zSo ?_;intro i mu' R g T U;exact J i mu' ⟨by rw[g 0 P h.2.2];exact h.1,by grind,fun e=>by grind⟩
theorem qmC(x N)(hM:OkMa x N)(nm p)(hp:OkP x N p)(hq:p.env.length<=1000000) :
  qR qg 117 [eMa x,ePl p,aS nm] (endE (wN x p nm)):=by
 refine zd.of_sound ?_;refine qSW call117 func117 rfl {} ?_;have dr:=z8 x;generalize hE:wN x p nm=E;unfold wN at hE;simp[go_sem];refine fW (backU p.env) (.zk (j5 _) .nil) ?_;refine dA (ql6 p.env zOm) (fun k M=>(∃ g,M = .arr [aI 0,.lst true []] :: g)/\∀ e,e∈p.env.drop (p.env.length-k)->e.1≠nm) (fun e M=>e = .ret/\∃ a g,vQ nm p.env=some a/\M = .arr [aI 1,.lst true [[aI a]]] :: g) ?_ ?_ ?_ ?_ ?_ ?_
 .simp_all [qK,yq]
 .simp
 .grind
 .rintro k y M hk ⟨⟨g,rfl⟩,h⟩
  have bq:k<p.env.length:=by
   grind [ql,Zr]
  have a7:p.env.length-1-k<p.env.length:=zOm;rw[Zr,zz,Qa bq]at hk;simp only[zh,qs,zH,qy a7,Option.getD_some]at hk;subst hk;have br:p.env.length-k=p.env.length-1-k+1:=zOm;rw[br]at h;have b6:=fun he=>ql8 a7 he h
  have o:p.env.drop (p.env.length-(k+1))=p.env[p.env.length-1-k] :: p.env.drop (p.env.length-1-k+1):=by
   grind [ze]
  generalize hb:p.env[p.env.length-1-k]=b at *
  refine⟨rfl,?_⟩;by_cases he:b.1=nm
  .simp [go_sem,he]
   exact dK ⟨rfl,b.2,_,b6 he,rfl⟩
  .simp [go_sem,jd,he]
   refine dK ⟨⟨_,rfl⟩,fun e hm=>?_⟩;rw[o]at hm;rcases qz.1 hm with rfl|hm
   .exact he
   grind
 .rintro M ⟨⟨g,rfl⟩,h⟩
  have bs:vQ nm p.env=none:=ql7 fun e hm=>h e (by simpa[Zr] using hm)
  rw[bs]at hE;simp only at hE;obtain⟨bu,bv⟩:=hM.st p.st hp.st;have an:p.st<x.m.sK.length:=zW2 hM.len hp.st;have bw:x.m.sK.getD p.st []=x.m.sK[p.st]:=by rw[zH,qy an];rfl
  have ds:=hM.ts.nf;have dt:=hM.ts.ns;have b7:=qaF x.ts.sA (x.m.sK.getD p.st []) nm;rw[bw]at hE bu bv b7;generalize ca:x.m.sK[p.st]=rs at *
  simp[go_sem];refine aP x.ts.sA.length (fun k U=>U.tm 0=eMa x/\U.tm 4 = .ip (cPl p)/\U.tm 5 = .ip [aS nm]/\U.tm 6 = .ptr 0 0/\U.tm 34=lFl x.ts.sA/\U.tm 35=aI x.ts.sA.length/\U.tm 36=aI k/\FndM U.mu (U.tm 9) (yU (x.ts.sA.take k) (rs.take k) nm)) ?_ ?_
  .exact ⟨zSi,zSi,zSi,zSi,zSi,zSi,zSi,zSi,.inl (by simp[go_sem,yU]),by simp[go_sem,qq]⟩
  rintro k U hk ⟨e0,e4,e5,e6,ae,a8,af,g0,ho,hn⟩;by_cases I:k<x.ts.sA.length
  .have a9:k<rs.length:=by omega
   have w1:=zWk k;have hs:=ql9 x.ts.sA rs nm k I a9;have du:(yU (x.ts.sA.take k) (rs.take k) nm).length<=6:=zQ (qaF _ _ _) zSo;have l0:0<U.mu.length:=(ql.1 g0).1;by_cases he:x.ts.sA[k].name=nm
   .rw [if_pos he]at hs
    simp[go_sem,e5,ae,a8,af,I,he];refine tJ zKr ?_;simp[go_sem,e0,e4,an,ca,a9];refine qx.ownB (e:=42) (sz:=2) (bt:=32) (zv := .agg [aI 0,.lst true []]) (xs:=(yU (x.ts.sA.take k) (rs.take k) nm).map cRel) (ys:=[cRel rs[k]]) zSi zSi zSi rfl rfl zOm zOm (Own.push ho _) (by simp[qA]) (jP _) (jP [rs[k]]) zSo ?_;intro ag R aa aw b8 cb;have k0:R[0]?=some (.arr [aI 0,.lst true []]):=by
     grind
    have m0:qq ag≠some 0:=fun e=>by grind
    simp[go_sem,af,I,w1];refine aM ⟨zS1 e0,zS1 e4,zS1 e5,zS1 e6,zS1 ae,zS1 a8,zSi,zVs k0,?_,zVs m0⟩;simp[go_sem, *]
   .rw [if_neg he,ye]at hs
    simp[go_sem,jd,e5,ae,a8,af,I,he,w1];refine aM ⟨zS1 e0,zS1 e4,zS1 e5,zS1 e6,zS1 ae,zS1 a8,zSi,?_,?_,zVs hn⟩
    .grind [qK,qL]
    simp_all[go_sem,Own.push]
  .have ah:k=x.ts.sA.length:=by omega
   rw[zU zOm,zU zOm]at ho;generalize yU x.ts.sA rs nm=F at *
   simp[go_sem,e0,a8,af,ah];refine fR x.ts.sS.length (fun k=>Keep (fun U=>U.tm 0=eMa x/\U.tm 5 = .ip [aS nm]/\U.tm 6 = .ptr 0 0/\U.tm 65=lSo x.ts.sS/\U.tm 66=aI x.ts.sS.length/\U.tm 67=aI k/\FndM U.mu (U.tm 9) (F++yu x nm 0 (x.ts.sS.take k))) .mk) ?_ ?_
   .exact aM ⟨zS1 e0,zS1 e5,zS1 e6,zSi,zSi,zSi,zVs g0,by simpa[go_sem,yu] using ho,zVs hn⟩
   rintro k U hk ⟨e0,e5,e6,b9,ax,ay,g0,ho,hn⟩;have dv:=qaI x nm x.ts.sS k hk;by_cases I:k<x.ts.sS.length
   .have w1:=zWk k
    have hs:=qaH x nm x.ts.sS k I;have bb:=hM.ts.sl _ (qv I);have bc:k<x.m.sc.sC.length:=zW1 hM.al;have a4:=UL x.m.sc hM.gsc hM.pos [(k:Int)] (fun s hs=>by rw[qX]at hs;omega) zSp zSp;rw[qaJ]at a4;have cc:zt x k=(qu (gI x.m.sc.sC k).toNat).map fun j:Nat=>sumI (x.m.sc.sC.take k)+j:=rfl
    rw[<-cc]at a4;have cd:WKs [eSc x.m.sc,.lst true [rI k]] [eSc x.m.sc,lI [(k:Int)]] := .zk (zD _) (.cons (cG [(k:Int)]) .nil);generalize cf:x.ts.sS[k]=so at *
    obtain⟨T,sb⟩:=so;have cg:T.size<=9223372036854775801:=by simp at bb;omega
    have ch:T.size<=9223372036854775802:=by simp at bb;omega
    generalize hF:F++yu x nm 0 (x.ts.sS.take k)=F0 at *
    have ao:F++yu x nm 0 (x.ts.sS.take (k+1))=F0++Zs x nm k (T,sb):=by rw[hs,<-hF,zL]
    have dw:F0.length<=18:=by rw[<-hF,zj];omega
    have l0:0<U.mu.length:=(ql.1 g0).1;simp[go_sem,e0,b9,ax,ay,I,cf];refine t8 a4 cd ?_;simp[go_sem,jd,e5];generalize hL:U.mu.length=L at *
    have aq:∀ b,qq (U.tm 9)=some b->b<L:=fun b hb=>zW1 (Own.lt ho hb)
    have az:∀ c,Own (U.mu++c) 2 (U.tm 9) (F0.map cRel):=fun c=>Own.push ho c
    have ai:U.mu[0]'(ql.1 g0).1 = .arr [aI 0,.lst true []]:=(ql.1 g0).2;have dx:∀ c:List Cell,(U.mu++c)[0]?=some (.arr [aI 0,.lst true []]):=fun c=>by rw[zGa];exact g0
    have cj:∀ A B:Cell,(U.mu++[A,B])[L]?=some A:=fun A B=>by rw[zZ zOm,hL];simp
    have ck:∀ A B:Cell,(U.mu++[A,B])[L+1]?=some B:=fun A B=>by rw[zZ zOm,hL];simp
    refine cD (SInv x nm T sb k L (L+1) F0) ⟨zS1 e0,zS1 e5,zS1 e6,zSi,zSi,zS1 b9,zS1 ax,zS1 ay,by simp[go_sem,List.getElem_append_left,hL,l0,ai],zS1 cj,zS1 ck,by simp[go_sem,az],zS1 hn,fun e=>?_,fun e=>?_⟩ fun st0 h0=>?_
    .have:=aq L (zVs e);omega
    .have:=aq (L+1) (zVs e);omega
    refine BrS.join (SInv x nm T sb k L (L+1) (F0++if T=nm then [⟨1,zt x k⟩] else [])) ?_ ?_ ?_
    .intro o
     have o:=of_decide_eq_true o;rw[if_pos o];simp[go_sem,h0.e14,h0.gd];refine h0.app zSi zSi zOm ⟨1,zt x k⟩ (by simp[qA]) fun t R J b0 b1=>?_
     simp[go_sem];refine aM ?_;exact⟨by simp[go_sem,h0.e0],by simp[go_sem,h0.e5],by simp[go_sem,h0.e6],by simp[go_sem,h0.e13],by simp[go_sem,h0.e14],by simp[go_sem,h0.e65],by simp[go_sem,h0.e66],by simp[go_sem,h0.e67],J.g0,b0,b1,J.ho,J.n0,J.nc,J.nd⟩
    .intro o
     have o:=of_decide_eq_false o;rw[if_neg o,ye];simp[go_sem];exact aM h0
    intro st1 C;have dy:(F0++if T=nm then [(⟨1,zt x k⟩:Rl)] else []).length<=19:=by rw[zj];split<;>simp only[yy,List.length_nil]<;>omega
    cases sb with
    |false =>
     have cl:F0++Zs x nm k (T,false)=F0++if T=nm then [⟨1,zt x k⟩] else []:=by simp[Zs]
     rw[<-cl,<-ao]at C;simp[go_sem,C.e13,C.e67,C.gc,w1,I];exact aM ⟨by simp[go_sem,C.e0],by simp[go_sem,C.e5],by simp[go_sem,C.e6],by simp[go_sem,C.e65],by simp[go_sem,C.e66],zSi,by simpa[go_sem] using C.g0,by simpa[go_sem] using C.ho,by simpa[go_sem] using C.n0⟩
    |true =>
    generalize be:(F0++if T=nm then [⟨1,zt x k⟩] else [])=F1 at *
    have dq:(zt x k).length<=100:=by
     obtain⟨u0,u1⟩:=hM.gsc.sum (k+1);obtain⟨v0,v1⟩:=hM.gsc.sum k;rw[wH _ _ bc]at u1;unfold zt;rw[zT,List.length_range,ji bc];omega
    simp[go_sem,jd,C.e5,C.e13,C.gc,cg];refine cD (SInv x nm T true k L (L+1) F1) ⟨by simp[go_sem,C.e0],by simp[go_sem,C.e5],by simp[go_sem,C.e6],by simp[go_sem,C.e13],by simp[go_sem,C.e14],by simp[go_sem,C.e65],by simp[go_sem,C.e66],by simp[go_sem,C.e67],C.g0,C.gc,C.gd,C.ho,C.n0,C.nc,C.nd⟩ fun st2 h2=>?_
    refine BrS.join (SInv x nm T true k L (L+1) (F1++if T++yP=nm then [⟨1,(zt x k).take 1⟩] else [])) ?_ ?_ ?_
    .intro o
     have o:=of_decide_eq_true o;have o:T++yP=nm:=by rw[o];rfl
     rw[if_pos o];obtain⟨m,cm,cn,cp⟩:∃ m:Nat,(if ((zt x k).length:Int)<1 then ((zt x k).length:Int) else 1)=m/\m<=(zt x k).length/\(zt x k).take m=(zt x k).take 1:=by
      by_cases hz:(zt x k).length=0
      .exact ⟨0,by rw[if_pos zOm,hz],zOm,by rw[List.length_eq_zero_iff.1 hz];rfl⟩
      .exact ⟨1,zIn,zOm,rfl⟩
     have cq:WKs [.lst false (((zt x k).map rI).take m)] [lI ((zt x k).take 1)] := .cons (by rw[<-List.map_take,cp];exact .hf (zy _)) .nil;simp[go_sem,h2.e14,h2.gd,cm,cn];refine⟨⟨_,_,⟨rfl,rfl⟩,(jD _).ok⟩,?_⟩;refine t8 (clipI ((zt x k).take 1)) cq ?_;generalize (zt x k).take 1=T1 at *
     simp[go_sem];refine h2.app zSi zSi zOm ⟨1,T1⟩ (by simp[qA]) fun t R J b0 b1=>?_
     simp[go_sem];refine aM ?_;exact⟨by simp[go_sem,h2.e0],by simp[go_sem,h2.e5],by simp[go_sem,h2.e6],by simp[go_sem,h2.e13],by simp[go_sem,h2.e14],by simp[go_sem,h2.e65],by simp[go_sem,h2.e66],by simp[go_sem,h2.e67],J.g0,b0,b1,J.ho,J.n0,J.nc,J.nd⟩
    .intro o
     have o:=of_decide_eq_false o;have o:¬T++yP=nm:=fun e=>o (by rw[<-e];rfl)
     rw[if_neg o,ye];simp[go_sem];exact aM h2
    intro st3 h3;have dz:(F1++if T++yP=nm then [(⟨1,(zt x k).take 1⟩:Rl)] else []).length<=20:=by rw[zj];split<;>simp only[yy,List.length_nil]<;>omega
    have a3:F++yu x nm 0 (x.ts.sS.take (k+1))=(F1++if T++yP=nm then [⟨1,(zt x k).take 1⟩] else [])++(if T++jq=nm then [⟨2,Qo x k⟩] else []):=by
     rw[ao,<-be];simp[Zs]
    generalize (F1++if T++yP=nm then [⟨1,(zt x k).take 1⟩] else [])=F2 at *
    simp[go_sem,jd,h3.e5,h3.e13,h3.gc,ch];refine cD (SInv x nm T true k L (L+1) F2) ⟨by simp[go_sem,h3.e0],by simp[go_sem,h3.e5],by simp[go_sem,h3.e6],by simp[go_sem,h3.e13],by simp[go_sem,h3.e14],by simp[go_sem,h3.e65],by simp[go_sem,h3.e66],by simp[go_sem,h3.e67],h3.g0,h3.gc,h3.gd,h3.ho,h3.n0,h3.nc,h3.nd⟩ fun a5 P=>?_
    refine tZ ?_ ?_
    .intro o
     have o:=of_decide_eq_true o;have o:T++jq=nm:=by rw[o];rfl
     rw[if_pos o]at a3;have gl:=(ql.1 P.gd).1;have hA:∀(z:List Cell)(i:Nat),i<a5.mu.length->(a5.mu++z)[i]?=a5.mu[i]?:=fun z i hi=>qL hi
     obtain⟨A,a6⟩:∃ A,A=a5.mu:=⟨_,rfl⟩;rw[<-a6]at hA gl;have b2:∀ z:List Cell,(A++z)[L+1]?=some (.arr [aI 1,lI (zt x k)]):=fun z=>by rw[hA z _ gl,a6];exact P.gd
     have cr:∀(c:Cell)(z:List Cell),(A++c :: z)[A.length]?=some c:=fun c z=>by rw[zZ (qn _)];simp
     have cs:∀(c d:Cell)(z:List Cell),(A++c :: z).set A.length d=A++d :: z:=fun c d z=>by rw[List.set_append_right _ _ (qn _)];simp
     have ct:∀ b,qq (a5.tm 9)=some b->b<A.length:=fun b hb=>by rw[a6];exact Own.lt P.ho hb
     have bg:∀ j,j<(zt x k).length-1->∃ u v:Int,(zt x k)[j]?=some u/\(zt x k)[j+1]?=some v/\(0<=u/\u<x.n)/\(0<=v/\v<x.n)/\(Qo x k)[j]?=some (u*x.n+v):=by
      intro j hj;obtain⟨a0,a1,a2⟩:=hM.at0 k I;have e1:(zt x k).length=(gI x.m.sc.sC k).toNat:=by simp[zt]
      refine⟨sumI (x.m.sc.sC.take k)+j,sumI (x.m.sc.sC.take k)+((j+1:Nat):Int),?_,?_,⟨zOm,zOm⟩,⟨zOm,zOm⟩,?_⟩
      .rw [zt,zz,Qa zOm];rfl
      .rw [zt,zz,Qa zOm];rfl
      .rw [Qo,zz,Qa zOm]
       simp only[zh,qs];congr 1;omega
     have e2:(Qo x k).length=(zt x k).length-1:=by simp[Qo,zt]
     generalize e3:zt x k=al at *
     generalize e8:Qo x k=nx at *
     simp[go_sem,<-a6];refine fR (al.length-1) (fun j=>Keep (fun U=>∃ t g,U.mu=A++(.arr [aI 2,t] :: g)/\OwnI U.mu t (nx.take j)/\(∀ b,qq t=some b->A.length<b)/\U.tm 0=eMa x/\U.tm 5 = .ip [aS nm]/\U.tm 6 = .ptr 0 0/\U.tm 9=a5.tm 9/\U.tm 14 = .ptr (L+1) 0/\U.tm 15 = .ptr A.length 0/\U.tm 16=aI ((j:Int)+1)/\U.tm 65=lSo x.ts.sS/\U.tm 66=aI x.ts.sS.length/\U.tm 67=aI k) .mk) ?_ ?_
     .exact aM ⟨.lst true [],[],zSi,.inl ⟨rfl,zSp⟩,by simp[qq],by simp[go_sem,P.e0],by simp[go_sem,P.e5],by simp[go_sem,P.e6],zSi,by simp[go_sem,P.e14],zSi,zSi,by simp[go_sem,P.e65],by simp[go_sem,P.e66],by simp[go_sem,P.e67]⟩
     rintro j e9 hj ⟨t,g,aj,ab,b3,i0,i5,i6,i9,ak,b4,i16,bh,bi,bj⟩;by_cases a7:j<al.length-1
     .have hc:(j:Int)+1<al.length:=by omega
      obtain⟨u,v,hu,hv,cu,cv,cw⟩:=bg j a7;obtain⟨cx,cy⟩:=ql.1 hu;obtain⟨cz,da⟩:=ql.1 hv;obtain⟨db,dc⟩:=ql.1 cw;have wj:qo.wrap (j:Int)=j:=zWr;have dd:qo.wrap ((j:Int)+1+1)=(j:Int)+1+1:=zWr;have a9:=qaK x.m.sc hM.gsc [u,v] zSp (fun d o=>by
       rcases qz.1 o with rfl|o
       .exact cu
       .rw [qX]at o;subst o;exact cv)
      have de:vS (sumI x.m.sc.sC) [u,v]=u*x.n+v:=by simp[vS,Mo.n]
      rw[de]at a9;have df:WKs [eSc x.m.sc,.lst true [[aI u],[aI v]]] [eSc x.m.sc,lI [u,v]] := .zk (zD _) (.cons (cG [u,v]) .nil);simp[go_sem,ak,i16,aj,b2,hc];refine fG [0,1,2,3,4,5,6,7,8,9,10,11,12,13,14,15,16,17,18,22,19,20,21,23] [(19,1,[1]),(21,1,[]),(23,1,[])] zKr zKr zSi ?_;simp[go_sem,i0,ak,b4,i16,b2,hc,wj,cx,cy,cz,da,show (0:Int)<=(j:Int)+1 by omega];refine fW a9 df ?_;rw[aj]at ab;refine aV (e:=3) (bt:=8) (z:=0) (l:=nx.take j) zSi zSi zSi zOm ab.v zSo ?_;intro ag R aa aw cb b8;have bk:A.length<(A++(.arr [aI 2,t] :: g)).length:=zSp;have dh:R=A++(.arr [aI 2,t] :: R.drop (A.length+1)):=by
       apply vg;intro i;by_cases hi:i<A.length
       .rw [qL hi,aw i zOm (fun e=>zW1 (b3 i e)),qL hi]
       .rw [zZ zOm]
        by_cases di:i=A.length
        .subst di
         rw[aw _ bk (fun e=>zW1 (b3 _ e)),zZ (qn _)];simp
        .obtain ⟨q,hq⟩:∃ q,i-A.length=q+1:=⟨i-A.length-1,zOm⟩
         rw[hq,vW,List.getElem?_drop];congr 1;omega
      have ar:∀ b,qq ag=some b->A.length<b:=fun b hb=>zW1 (b8 b hb)
      rw[dh]at aa ⊢;generalize R.drop (A.length+1)=b5 at *
      simp[go_sem,i16,cs,aa.v.one,aa.v.cells,dd];refine⟨a7,aM ⟨ag,b5,zSi,?_,ar,zS1 i0,zS1 i5,zS1 i6,zS1 i9,zS1 ak,zS1 b4,zSi,zS1 bh,zS1 bi,zS1 bj⟩⟩;simp only[qK];rw[ya db,dc];refine aa.same fun b hb=>?_
      have:=ar b hb;rw[zZ zOm,zZ zOm];obtain⟨q,hq⟩:∃ q,b-A.length=q+1:=⟨b-A.length-1,zOm⟩;rw[hq,vW,vW]
     .have ah:j=al.length-1:=by omega
      have hc:¬(j:Int)+1<al.length:=zOm;rw[zU zOm]at ab;simp[go_sem,ak,i16,aj,b2,hc];have dj:(A++(.arr [aI 2,t] :: g))[A.length]?=some (.arr [aI 2,t]):=cr _ _;rw[aj]at ab;generalize dk:A++(.arr [aI 2,t] :: g)=MM at *
      have ad:∀ i,A.length<=i->(cutM (fun j=>decide (A.length<=j)) MM 0)[i]?=MM[i]?:=fun i hi=>by
       rw[jA,yJ];cases MM[i]?<;>simp[hi]
      have au:∀ i,i<A.length->(cutM (fun j=>!decide (A.length<=j)) MM 0)[i]?=A[i]?:=fun i hi=>by
       rw[jA,yJ,<-dk,qL hi];cases A[i]?<;>simp<;>omega
      have dm:0<A.length:=zOm;have bl:FndM (cutM (fun j=>!decide (A.length<=j)) MM 0) (a5.tm 9) F2:=by
       refine⟨by rw[au 0 dm,a6];exact P.g0,?_,P.n0⟩;rcases P.ho with h|⟨b,h,dn⟩
       .exact .inl h
       .refine .inr ⟨b,h,?_⟩
        rw[au b (ct b (by rw[h];rfl)),a6];exact dn
      refine cM (d:=15) (L:=A.length) (x := .ip (cRel ⟨2,nx⟩)) ?_ ?_
      .simp only[qK,nq,b4]
       refine .ptr A.length 0 [aI 2,t] _ (by rw[ad _ (qn _)];exact dj) zSp fun k u v hu hv=>?_
       match k with
       | 0=>simp at hu hv;subst hu;subst hv;exact .zsc _
       | 1 =>
        simp at hu hv;subst hu;subst hv;exact(ab.v.same fun b hb=>ad b (zW1 (b3 b hb))).rd
       |k+2=>simp at hv
      .simp [go_sem,i9]
       refine appR (F:=F2) zSi zSi bl zOm ⟨2,nx⟩ (by simp[qA]) fun eb ec bm=>?_
       rw[<-a3]at bm;obtain⟨z0,z1,z2⟩:=bm;simp[go_sem,bj,w1,I];exact aM ⟨zS1 i0,zS1 i5,zS1 i6,zS1 bh,zS1 bi,zSi,z0,z1,z2⟩
    .intro o
     have o:=of_decide_eq_false o;have o:¬T++jq=nm:=fun e=>o (by rw[<-e];rfl)
     rw[if_neg o,ye]at a3;rw[<-a3]at P;simp[go_sem,P.e67,w1,I];exact aM ⟨by simp[go_sem,P.e0],by simp[go_sem,P.e5],by simp[go_sem,P.e6],by simp[go_sem,P.e65],by simp[go_sem,P.e66],zSi,by simpa[go_sem] using P.g0,by simpa[go_sem] using P.ho,by simpa[go_sem] using P.n0⟩
   .have ah:k=x.ts.sS.length:=by omega
    subst ah;rw[za]at ho;generalize F++yu x nm 0 x.ts.sS=F0 at *
    simp[go_sem,ax,ay];refine FzQ.ownB (d:=9) (sz:=2) (av:=U.tm 9) (xs:=F0.map cRel) zSi ho (jP _) (fun r hr c hc=>by obtain⟨q,_,rfl⟩:=qp.1 hr;exact Yt q c hc) fun R full hl hs=>?_
    have ai:R[0]?=some (.arr [aI 0,.lst true []]):=(hs 0 hn).trans g0;have bn:∀ c,(R.set 0 c)[0]?=some c:=fun c=>qJ (ql.1 ai).1
    match F0,hE with
    | [],hE =>
     simp only[J8]at hE;subst hE;simp[go_sem];refine aC (wP 40) (wkI 40) ?_;simp[go_sem];exact .hf _ (qN _)
    | [r],hE =>
     simp only[J8]at hE;subst hE;simp[go_sem,e6,ai,bn];exact .hf _ (qr r)
    |r :: s :: F1,hE =>
     have dp:¬(F1.length:Int)+1+1=0:=zOm;have bo:¬(F1.length:Int)+1+1=1:=zOm;simp only[J8]at hE;subst hE;simp[go_sem,dp,bo];refine aC (wP 44) (wkI 44) ?_;simp[go_sem];exact .hf _ (qN _)
 .rintro e M ⟨rfl,a,g,h2,rfl⟩
  rw[h2]at hE;simp only at hE;subst hE;simp[go_sem];refine .agg _ _ rfl fun k u v hu hv=>?_
  match k with
  | 0=>simp at hu hv;subst hu;subst hv;exact .zsc _
  | 1=>simp at hu hv;subst hu;subst hv;exact .wk _ true _ (.hf _ (HF.lst fun r hr c hc=>by simp at hr;subst hr;simp at hc;subst hc;exact HF.sc _))
  |k+2=>simp at hu
end
end F6
namespace F7
open Y1 P2 E1 E3 EA EO EP EQ ET F1 F2 F3 F4 F5 F6
theorem yA(a b v es i):zn qg 3 (.sc (.int .i64 a)) ((.sc (.int .i64 b),v) :: es) i=if a=b then some (some i) else zn qg 3 (.sc (.int .i64 a)) es (i+1):=by
 have h:jL qg 3 (.sc (.int .i64 a)) (.sc (.int .i64 b))=some (decide (a=b)):=keyI.eq a b trivial trivial
 grind [zn]
def RelN(mu:Mu)(g:Int)(l:List Int):Prop:=∃ t,mu[0]?=some (.arr [aI 0,.lst true []])/\mu[2]?=some (.arr [aI g,t])/\OwnI mu t l/\qq t≠some 0/\qq t≠some 2
theorem RelN.step{mu mu':Mu}{j av g l}(J:mu[0]?=some (.arr [aI 0,.lst true []]))(o:mu[2]?=some (.arr [aI j,av]))(n0:qq av≠some 0)(P:qq av≠some 2)(p:OwnI mu' g l)
  (R:∀ i,i<mu.length->qq av≠some i->mu'[i]?=mu[i]?) (T:mu.length<=mu'.length) (U:∀ b,qq g=some b->b=mu.length):mu'[2]?=some (.arr [aI j,av])/\RelN (mu'.set 2 (.arr [aI j,g])) j l:=by
 have l1:2<mu.length:=(ql.1 o).1;have t:qq g≠some 0:=fun e=>by grind
 have C:qq g≠some 2:=fun e=>by grind
 refine⟨by grind,g,by grind,by grind,p.same fun b I=>?_,t,C⟩
 grind
theorem uE{f:Nat}{l A E}(h:qR qg f l (endE A))(e:A=E):qR qg f l (endE E):=e ▸ h
theorem exprX(x N n)(I:WfN n)(o:OkMa x N)(J:IH x N n)(p)(C:OkP x N p)(P:bd p n) :
  qR qg 45 [eMa x,ePl p,eNd n] (endE ((den x n).E p)):=by
 refine zd.of_sound ?_;refine qSW call45 func45 rfl {} ?_;have ab:=z8 x;have l:=wk3 x p n;rw[vw];simp only[opD];generalize i:opE x n.op n.name n.n (n.sD.map (den x)) p=E;unfold opE at i;by_cases o6:n.op=6
 .obtain ⟨a,b,j⟩:=ju I zOm
  have g:=qlV x N n a b o j J p C P;rw[o6,j]at i;replace g:=uE g i;cases E with
  |error e =>
   simp[go_sem,o6,yA];refine aC g l ?_;simp[go_sem];exact .hf _ (qN _)
  |ok r =>
   simp[go_sem,o6,yA];refine fW g.toP l ?_;exact .hf _ (qr _)
 by_cases o7:n.op=7
 .obtain ⟨a,b,j⟩:=ju I zOm
  have g:=qlW x N n a b o j J p C P;rw[o7,j]at i;replace g:=uE g i;cases E with
  |error e =>
   simp[go_sem,o7,yA];refine aC g l ?_;simp[go_sem];exact .hf _ (qN _)
  |ok r =>
   simp[go_sem,o7,yA];refine fW g.toP l ?_;exact .hf _ (qr _)
 by_cases o8:n.op=8
 .obtain ⟨a,b,j⟩:=ju I zOm
  have g:=diffX x N n a b o j J p C P;rw[o8,j]at i;replace g:=uE g i;cases E with
  |error e =>
   simp[go_sem,o8,yA];refine aC g l ?_;simp[go_sem];exact .hf _ (qN _)
  |ok r =>
   simp[go_sem,o8,yA];refine fW g.toP l ?_;exact .hf _ (qr _)
 by_cases T:n.op=14
 .obtain ⟨a,b,j⟩:=ju I zOm
  have g:=overX x N n a b o j J p C P;rw[T,j]at i;replace g:=uE g i;cases E with
  |error e =>
   simp[go_sem,T,yA];refine aC g l ?_;simp[go_sem];exact .hf _ (qN _)
  |ok r =>
   simp[go_sem,T,yA];refine fW g.toP l ?_;exact .hf _ (qr _)
 by_cases o9:n.op=9
 .obtain ⟨a,b,j⟩:=ju I zOm
  have g:=joinX x N n a b o j J p C P;rw[o9,j]at i;replace g:=uE g i;cases E with
  |error e =>
   simp[go_sem,o9,yA];refine aC g l ?_;simp[go_sem];exact .hf _ (qN _)
  |ok r =>
   simp[go_sem,o9,yA];refine fW g.toP l ?_;exact .hf _ (qr _)
 by_cases a0:n.op=10
 .obtain ⟨a,b,j⟩:=ju I zOm
  have g:=qlX x N n a b o j J p C P;rw[a0,j]at i;replace g:=uE g i;cases E with
  |error e =>
   simp[go_sem,a0,yA];refine aC g l ?_;simp[go_sem];exact .hf _ (qN _)
  |ok r =>
   simp[go_sem,a0,yA];refine fW g.toP l ?_;exact .hf _ (qr _)
 by_cases a1:n.op=11
 .obtain ⟨a,j⟩:=uq I zOm
  have g:=qlZ x N n a o j J p C P;rw[a1,j]at i;replace g:=uE g i;cases E with
  |error e =>
   simp[go_sem,a1,yA];refine aC g l ?_;simp[go_sem];exact .hf _ (qN _)
  |ok r =>
   simp[go_sem,a1,yA];refine fW g.toP l ?_;exact .hf _ (qr _)
 by_cases a2:n.op=12
 .obtain ⟨a,j⟩:=uq I zOm
  have g:=qaC x N n a o j J p C P;rw[a2,j]at i;replace g:=uE g i;cases E with
  |error e =>
   simp[go_sem,a2,yA];refine aC g l ?_;simp[go_sem];exact .hf _ (qN _)
  |ok r =>
   simp[go_sem,a2,yA];refine fW g.toP l ?_;exact .hf _ (qr _)
 by_cases a3:n.op=13
 .obtain ⟨a,j⟩:=uq I zOm
  have g:=ql0 x N n a o j J p C P;rw[a3,j]at i;replace g:=uE g i;cases E with
  |error e =>
   simp[go_sem,a3,yA];refine aC g l ?_;simp[go_sem];exact .hf _ (qN _)
  |ok r =>
   simp[go_sem,a3,yA];refine fW g.toP l ?_;exact .hf _ (qr _)
 by_cases o5:n.op=5
 .obtain ⟨a,j⟩:=uq I zOm
  have g:=qlY x N n a o j J p C P;rw[o5,j]at i;replace g:=uE g i;cases E with
  |error e =>
   simp[go_sem,o5,yA];refine aC g l ?_;simp[go_sem];exact .hf _ (qN _)
  |ok r =>
   simp[go_sem,o5,yA];refine fW g.toP l ?_;exact .hf _ (qr _)
 by_cases a4:n.op=15
 .obtain ⟨a,b,j⟩:=ju I zOm
  have g:=ql5 x N n a b o j J p C P;rw[a4,j]at i;replace g:=uE g i;cases E with
  |error e =>
   simp[go_sem,a4,yA];refine aC g l ?_;simp[go_sem];exact .hf _ (qN _)
  |ok r =>
   simp[go_sem,a4,yA];refine fW g.toP l ?_;exact .hf _ (qr _)
 by_cases o1:n.op=1
 .have g:=qmC x N o n.name p C zOm
  have wn:WKs [eMa x,ePl p,aS n.name] [eMa x,ePl p,aS n.name] := .zk ab (.zk (UF p) (.zs .nil));rw[o1]at i;replace g:=uE g i;cases E with
  |error e =>
   simp[go_sem,o1,yA];refine aC g wn ?_;simp[go_sem];exact .hf _ (qN _)
  |ok r =>
   simp[go_sem,o1,yA];refine fW g.toP wn ?_;exact .hf _ (qr _)
 by_cases o2:n.op=2
 .rw [o2]at i
  replace i:Except.ok ⟨n.n,[]⟩=E:=i;subst i;simp[go_sem,o2,yA];exact Z2
 by_cases o3:n.op=3
 .rw [o3]at i
  replace i:Except.ok ⟨1,(qu x.n.toNat).map fun k:Nat=>(k:Int)⟩=E:=i;subst i;have h0:=o.n0;have ad:=o.n12;obtain⟨m,hm⟩:=Int.eq_ofNat_of_zero_le h0;simp[go_sem,o3,yA];rw[hm]at ad;refine aP m (fun k U=>U.tm 6 = .ptr 0 0/\U.tm 10 = .ptr 2 0/\U.tm 47=aI m/\U.tm 48=aI k/\RelN U.mu 1 ((qu k).map fun k:Nat=>(k:Int))) ?_ ?_
  .exact ⟨zSi,zSi,zS1 hm,zSi,.lst true [],zSi,zSi,.inl ⟨rfl,rfl⟩,by simp[qq],by simp[qq]⟩
  rintro k U j ⟨e6,a5,a6,a7,t,g0,g2,ho,n0,n2⟩;by_cases a9:k<m
  .have w1:=zWk k
   simp[go_sem,a5,a6,a7,a9,g2];refine aV (e:=3) (bt:=8) (z:=0) zSi zSi zSi zOm ho.v zSo ?_;intro ai R a8 ae af ag;obtain⟨k1,k2⟩:=RelN.step g0 g2 n0 n2 a8 ae af ag;simp[go_sem,a5,a7,a9,k1,a8.v.one,a8.v.cells,w1];refine aM ⟨zS1 e6,zS1 a5,zS1 a6,zSi,?_⟩;rw[List.range_succ,zi];exact k2
  .have ah:k=m:=by omega
   subst ah;have aa:∀ c,(U.mu.set 0 c)[0]?=some c:=fun c=>qJ (ql.1 g0).1
   rw[hm];simp[go_sem,e6,a5,a6,a7,g0,g2,aa,ho.v.one];refine aL (ho.v.same fun b hb=>?_);rw[yH (fun e=>n0 (by rw[e];exact hb))]
 by_cases o4:n.op=4
 .rw [o4]at i
  replace i:Except.ok (idR x.n)=E:=i;subst i;simp[go_sem,o4,yA];refine fW (UO x.n o.n0 o.n12) (.zs .nil) ?_;exact .hf _ (qr _)
 have i:Except.error 43=E:=by
  rw[<-i];rw[if_neg o1,if_neg o2,if_neg o3,if_neg o4,if_neg o5,if_neg o6,if_neg o7,if_neg o8,if_neg o9,if_neg a0,if_neg a1,if_neg a2,if_neg a3,if_neg T,if_neg a4]
 subst i;simp[go_sem,o1,o2,o3,o4,o5,o6,o7,o8,o9,a0,a1,a2,a3,T,a4,yA];refine aC (wP 43) (wkI 43) ?_;simp[go_sem];exact .hf _ (qN _)
end F7
namespace F8
open Y1 P2 E1 E3 EA ER EY F1 F2 F3
theorem f30(x N n)(j:WfN n)(l:OkMa x N)(o:IH x N n)(p)(t:OkP x N p)(C:bd p n)(g:n.op=30):qR qg 49 [eMa x,ePl p,eNd n] (endB (Except.ok true)):=by
 refine zd.of_sound ?_;refine qSW call49 func49 rfl {} ?_;have i:=z8 x;simp[go_sem,g];exact .zsc _
theorem f31(x N n)(j:WfN n)(l:OkMa x N)(o:IH x N n)(p)(t:OkP x N p)(C:bd p n)(g:n.op=31):qR qg 49 [eMa x,ePl p,eNd n] (endB (Except.ok false)):=by
 refine zd.of_sound ?_;refine qSW call49 func49 rfl {} ?_;have i:=z8 x;simp[go_sem,g];exact .zsc _
theorem f32(x N n a b)(i:OkMa x N)(l:n.sD=[a,b])(o:IH x N n)(p)(t:OkP x N p)(R:bd p n)(C:n.op=32):qR qg 49 [eMa x,ePl p,eNd n] (endB ((bX (yv [den x a,den x b] p) fun q => .ok (decide ((diR q.1 q.2).ts=[]))))):=by
 refine zd.of_sound ?_;refine qSW call49 func49 rfl {} ?_;have T:=z8 x;have I:=wk3 x p n;generalize g:(bX (yv [den x a,den x b] p) fun q => .ok (decide ((diR q.1 q.2).ts=[])))=E;have j:=YY x N n a b l o p t R;simp[go_sem,C];cases ea:yv [den x a,den x b] p with
 |error e =>
  rw[ea]at j g;subst g;refine aC j I ?_;simp[go_sem,zF];exact .hf _ (qN _)
 |ok q =>
  obtain⟨r,s⟩:=q;obtain⟨J,P,h3⟩:=uW ea;simp only[kD,vh,List.getD_cons_succ]at J P;have U:=(o a (by rw[l];simp) p t zOm).G _ J;have gs:=(o b (by rw[l];simp) p t zOm).G _ P;have lr:=U.len i.n0 (cC i);have ls:=gs.len i.n0 (cC i);rw[ea]at j g;rw[zr]at g;subst g;refine fW j.toP I ?_;refine fW (inU r s zOm zOm) (wkR2 r s) ?_;exact .zsc _
theorem f33(x N n a b)(i:OkMa x N)(l:n.sD=[a,b])(o:IH x N n)(p)(t:OkP x N p)(R:bd p n)(C:n.op=33):qR qg 49 [eMa x,ePl p,eNd n] (endB ((bX (yv [den x a,den x b] p) fun q => .ok (decide (q.1=q.2))))):=by
 refine zd.of_sound ?_;refine qSW call49 func49 rfl {} ?_;have T:=z8 x;have I:=wk3 x p n;generalize g:(bX (yv [den x a,den x b] p) fun q => .ok (decide (q.1=q.2)))=E;have j:=YY x N n a b l o p t R;simp[go_sem,C];cases ea:yv [den x a,den x b] p with
 |error e =>
  rw[ea]at j g;subst g;refine aC j I ?_;simp[go_sem,zF];exact .hf _ (qN _)
 |ok q =>
  obtain⟨r,s⟩:=q;obtain⟨J,P,h3⟩:=uW ea;simp only[kD,vh,List.getD_cons_succ]at J P;have U:=(o a (by rw[l];simp) p t zOm).G _ J;have gs:=(o b (by rw[l];simp) p t zOm).G _ P;have lr:=U.len i.n0 (cC i);have ls:=gs.len i.n0 (cC i);rw[ea]at j g;rw[zr]at g;subst g;refine fW j.toP I ?_;refine fW (E4.XT r s zOm) (wkR2 r s) ?_;exact .zsc _
theorem f34(x N n a)(hM:OkMa x N)(t:n.sD=[a])(I:IH x N n)(p)(J:OkP x N p)(hq:bd p n)(g)(P:n.op=34/\g=(fun k=>decide (0<k))\/n.op=35/\g=(fun k=>decide (k=0))\/n.op=36/\g=(fun k=>decide (k=1))\/n.op=37/\g=fun k=>decide (k<=1)):qR qg 49 [eMa x,ePl p,eNd n] (endB ((bX ((den x a).E p) fun a => .ok (g a.ts.length)))):=by
 rcases P with ⟨o,rfl⟩|⟨o,rfl⟩|⟨o,rfl⟩|⟨o,rfl⟩
 all_goals
  refine zd.of_sound ?_;refine qSW call49 func49 rfl {} ?_;have R:=z8 x;have wx:=wk3 x p n;generalize i:bX ((den x a).E p) _=E;have j:=(I a (by rw[t];simp) p J zOm).E;have C:=wk3 x p a;simp[go_sem,o];refine fG [0,1,2,3,4,5,6,7,8,9] [(6,1,[])] zKr zKr zSi ?_;simp[go_sem,t];cases ea:(den x a).E p with
  |error e =>
   rw[ea]at j i;subst i;refine aC j C ?_;simp[go_sem,zF];exact .hf _ (qN _)
  |ok r =>
   rw[ea]at j i;rw[zr]at i;subst i;refine t8 j.toP C ?_;obtain⟨ar,T⟩:=r;rcases T with _|⟨y,_|⟨z,l⟩⟩
   .simp [go_sem,o]
    exact .zsc _
   .simp [go_sem,o]
    exact .zsc _
   .have U:(0:Int)<l.length+1+1:=by omega
    have h2:¬(l.length:Int)+1+1=1:=zOm;have h3:¬(l.length:Int)+1+1<=1:=zOm;have h4:¬(l.length:Int)+1+1=0:=zOm;simp[go_sem,o,U,h2,h3,h4];exact .zsc _
theorem f38(x N n a b)(hM:OkMa x N)(j:n.sD=[a,b])(C:IH x N n)(p)(I:OkP x N p)(hq:bd p n)(g)(T:n.op=38/\g=(fun a b=>decide (a=b))\/n.op=39/\g=fun a b=>decide (a<b)):qR qg 49 [eMa x,ePl p,eNd n] (endB ((bX ((den x a).N p) fun a=>bX ((den x b).N p) fun b => .ok (g a b)))):=by
 rcases T with ⟨o,rfl⟩|⟨o,rfl⟩
 all_goals
  refine zd.of_sound ?_;refine qSW call49 func49 rfl {} ?_;have U:=z8 x;have wx:=wk3 x p n;generalize i:bX ((den x a).N p) _=E;have l:=(C a (by rw[j];simp) p I zOm).N;have t:=(C b (by rw[j];simp) p I zOm).N;have J:=wk3 x p a;have P:=wk3 x p b;simp[go_sem,o];refine fG [0,1,2,3,4,5,7,8,9,10,11,12,6,13,14,15] [(6,1,[8,10,12]),(13,1,[])] zKr zKr zSi ?_;simp[go_sem,j];cases ea:(den x a).N p with
  |error e =>
   rw[ea]at l i;subst i;refine aC l J ?_;simp[go_sem,zF];exact .hf _ (qN _)
  |ok r =>
   rw[ea]at l i;rw[zr]at i;refine t8 l.toP J ?_;simp[go_sem,j];cases R:(den x b).N p with
   |error e =>
    rw[R]at t i;subst i;refine aC t P ?_;simp[go_sem,zF];exact .hf _ (qN _)
   |ok s =>
    rw[R]at t i;rw[zr]at i;subst i;refine fW t.toP P ?_;exact .zsc _
theorem f40(x N n a)(J:OkMa x N)(l:n.sD=[a])(t:IH x N n)(p)(C:OkP x N p)(P:bd p n)(j:n.op=40):qR qg 49 [eMa x,ePl p,eNd n] (endB ((bX ((den x a).F p) fun a => .ok (!a)))):=by
 refine zd.of_sound ?_;refine qSW call49 func49 rfl {} ?_;have I:=z8 x;have R:=wk3 x p n;generalize g:(bX ((den x a).F p) fun a => .ok (!a))=E;have i:=(t a (by rw[l];simp) p C zOm).F;have o:=wk3 x p a;simp[go_sem,j];refine fG [0,1,2,3,4,5,6,7,8] [(6,1,[])] zKr zKr zSi ?_;simp[go_sem,l];cases ea:(den x a).F p with
 |error e =>
  rw[ea]at i g;subst g;refine aC i o ?_;simp[go_sem,zF];exact .hf _ (qN _)
 |ok r =>
  rw[ea]at i g;rw[zr]at g;subst g;refine fW i.toP o ?_;exact .zsc _
theorem f41(x N n a b)(hM:OkMa x N)(j:n.sD=[a,b])(C:IH x N n)(p)(I:OkP x N p)(hq:bd p n)(g)(T:n.op=41/\g=(fun a b=>a&&b)\/n.op=42/\g=(fun a b=>a||b)\/n.op=43/\g=(fun a b=>!a||b)\/n.op=44/\g=fun a b=>decide (a=b)):qR qg 49 [eMa x,ePl p,eNd n] (endB ((bX ((den x a).F p) fun a=>bX ((den x b).F p) fun b => .ok (g a b)))):=by
 rcases T with ⟨o,rfl⟩|⟨o,rfl⟩|⟨o,rfl⟩|⟨o,rfl⟩
 all_goals
  refine zd.of_sound ?_;refine qSW call49 func49 rfl {} ?_;have U:=z8 x;have wx:=wk3 x p n;generalize i:bX ((den x a).F p) _=E;have l:=(C a (by rw[j];simp) p I zOm).F;have t:=(C b (by rw[j];simp) p I zOm).F;have J:=wk3 x p a;have P:=wk3 x p b;simp[go_sem,o];refine fG [0,1,2,3,4,5,7,8,9,10,11,12,6,14,13,15] [(6,1,[8,10,12]),(13,1,[])] zKr zKr zSi ?_;simp[go_sem,j];cases ea:(den x a).F p with
  |error e =>
   rw[ea]at l i;subst i;refine aC l J ?_;simp[go_sem,zF];exact .hf _ (qN _)
  |ok r =>
   rw[ea]at l i;rw[zr]at i;refine t8 l.toP J ?_;simp[go_sem,j];cases R:(den x b).F p with
   |error e =>
    rw[R]at t i;subst i;refine aC t P ?_;simp[go_sem,zF];exact .hf _ (qN _)
   |ok s =>
    rw[R]at t i;rw[zr]at i;subst i;refine t8 t.toP P ?_;cases r<;>cases s<;>simp[go_sem,o]<;>exact .zsc _
end F8
namespace E8
open E3 E7
theorem X9{x N}(h:OkX x N){s}(i:s<N){t}(g:t∈x.path s):∃ k,it x k s=t:=by
 obtain⟨r,e,l⟩:=qj0 h i;rw[e]at g;obtain⟨j,_,e⟩:=qp.1 g;exact⟨j,e⟩
end E8
namespace EB
end EB
namespace EK
open E3
theorem Ka{C j g}:∀{l:List C}{r:List j},mapX g l = .ok r->r.length=l.length
 | [],r,h=>by cases h;rfl
 |a :: l,r,h=>by
  rw[mapX]at h;cases o:g a with
  |error e=>rw[o]at h;cases h
  |ok b =>
   rw[o,zr]at h;cases i:mapX g l with
   |error e=>rw[i]at h;cases h
   |ok s =>
    rw[i,zr]at h;cases h;rw[yy,yy,Ka i]
end EK
namespace F9
open Y1 E3 E7 EA EL EO EP EW F1 F2 F3 F4 F5 F6
theorem f45(x N n a b)(J:OkMa x N)(hk:n.sD=[a,b])(ih:IH x N n)(p)(hp:OkP x N p)(hq:bd p n)(i:n.op=45):qR qg 49 [eMa x,ePl p,eNd n] (endB (bX (jS [den x a,den x b] n.name p) fun l => .ok (l.all fun e=>e.2))):=by
 refine zd.of_sound ?_;refine qSW call49 func49 rfl {} ?_;have a0:=z8 x;have o:=X5 x N n a b J hk ih p hp hq;have wx:=wk3 x p n;simp[go_sem,i];cases P:jS [den x a,den x b] n.name p with
 |error e =>
  rw[P]at o;refine aC o wx ?_;simp[go_sem,zF];exact .hf _ (qN _)
 |ok l =>
  rw[P]at o;have hl:l.length<=8000:=X7 P 8000 fun d h=>((ih a (by rw[hk];simp) p hp zOm).G d h).len J.n0 (cC J)
  have I:=X3 1 (l.map Prod.fst) (l.map Prod.snd) zSp zSo;rw[X6]at I;rw[UP]at o;refine t8 o.toP wx ?_;generalize insC 1 (l.map Prod.fst) (l.map Prod.snd)=C at *
  simp[go_sem,zr];refine dA I (fun j M=>∃ g,M = .arr [aB ((l.take j).any fun e=>e.2)] :: .arr [aB ((l.take j).all fun e=>e.2)] :: g) (fun _ _=>False) ?_ ?_ ?_ ?_ ?_ ?_
  .simp_all [qK,yq]
  .simp
  .grind
  .rintro j y M hj ⟨g,rfl⟩
   rw[zz,vX]at hj;obtain⟨t,ht,rfl⟩:=hj;obtain⟨R,T⟩:=ql.1 ht;have U:=ya R;rw[T]at U;refine⟨rfl,?_⟩;have ha:((l.take (j+1)).any fun e=>e.2)=((l.take j).any (fun e=>e.2)||t.2):=by rw[U,List.any_append];simp
   have hb:((l.take (j+1)).all fun e=>e.2)=((l.take j).all (fun e=>e.2)&&t.2):=by rw[U,List.all_append];simp
   generalize (l.take j).any (fun e=>e.2)=A at *
   generalize (l.take j).all (fun e=>e.2)=B at *
   cases A<;>cases B<;>cases t2:t.2
   all_goals simp[go_sem]
   all_goals refine dK ?_
   all_goals rw[ha,hb,t2]
   all_goals exact⟨_,rfl⟩
  .rintro M ⟨g,rfl⟩
   rw[zT,za];generalize (l.any fun e=>e.2)=A at *
   generalize (l.all fun e=>e.2)=B at *
   cases A<;>cases B
   all_goals simp[go_sem,i]
   all_goals exact .zsc _
  grind
theorem f46(x N n a b)(J:OkMa x N)(hk:n.sD=[a,b])(ih:IH x N n)(p)(hp:OkP x N p)(hq:bd p n)(i:n.op=46):qR qg 49 [eMa x,ePl p,eNd n] (endB (bX (jS [den x a,den x b] n.name p) fun l => .ok (l.any fun e=>e.2))):=by
 refine zd.of_sound ?_;refine qSW call49 func49 rfl {} ?_;have a0:=z8 x;have o:=X5 x N n a b J hk ih p hp hq;have wx:=wk3 x p n;simp[go_sem,i];cases P:jS [den x a,den x b] n.name p with
 |error e =>
  rw[P]at o;refine aC o wx ?_;simp[go_sem,zF];exact .hf _ (qN _)
 |ok l =>
  rw[P]at o;have hl:l.length<=8000:=X7 P 8000 fun d h=>((ih a (by rw[hk];simp) p hp zOm).G d h).len J.n0 (cC J)
  have I:=X3 1 (l.map Prod.fst) (l.map Prod.snd) zSp zSo;rw[X6]at I;rw[UP]at o;refine t8 o.toP wx ?_;generalize insC 1 (l.map Prod.fst) (l.map Prod.snd)=C at *
  simp[go_sem,zr];refine dA I (fun j M=>∃ g,M = .arr [aB ((l.take j).any fun e=>e.2)] :: .arr [aB ((l.take j).all fun e=>e.2)] :: g) (fun _ _=>False) ?_ ?_ ?_ ?_ ?_ ?_
  .simp_all [qK,yq]
  .simp
  .grind
  .rintro j y M hj ⟨g,rfl⟩
   rw[zz,vX]at hj;obtain⟨t,ht,rfl⟩:=hj;obtain⟨R,T⟩:=ql.1 ht;have U:=ya R;rw[T]at U;refine⟨rfl,?_⟩;have ha:((l.take (j+1)).any fun e=>e.2)=((l.take j).any (fun e=>e.2)||t.2):=by rw[U,List.any_append];simp
   have hb:((l.take (j+1)).all fun e=>e.2)=((l.take j).all (fun e=>e.2)&&t.2):=by rw[U,List.all_append];simp
   generalize (l.take j).any (fun e=>e.2)=A at *
   generalize (l.take j).all (fun e=>e.2)=B at *
   cases A<;>cases B<;>cases t2:t.2
   all_goals simp[go_sem]
   all_goals refine dK ?_
   all_goals rw[ha,hb,t2]
   all_goals exact⟨_,rfl⟩
  .rintro M ⟨g,rfl⟩
   rw[zT,za];generalize (l.any fun e=>e.2)=A at *
   generalize (l.all fun e=>e.2)=B at *
   cases A<;>cases B
   all_goals simp[go_sem,i]
   all_goals exact .zsc _
  grind
theorem qaL(x):∀ f s g,(Qn x f s g).length<=g.length+f
 | 0,s,g=>by simp[Qn]
 |f+1,s,g=>by
  simp only[Qn];split
  .omega
  .have:=qaL x f (x.nx s) (g++[s])
   rw[zj,List.length_singleton]at this;omega
theorem Kb(x:Mo)(s):(x.path s).length<=x.m.sK.length+1:=by
 grind [qaL,Mo.path]
theorem UQ{x N}(i:OkMa x N){p}(g:OkP x N p):∀ s,s∈x.path p.st->OkP x N ⟨s,p.env⟩:=fun s j=>by
 obtain⟨k,rfl⟩:=E8.X9 i.toOkX g.st j;exact⟨Va i.toOkX g.st k,g.env⟩
theorem Kc(l:List Bool):l.all id=!decide (false∈l):=by
 rw[uc];simp
theorem qmD(l:List Bool):l.any id=decide (true∈l):=by
 rw[uc];simp
theorem f48(x N n a)(o:OkMa x N)(t:n.sD=[a])(R:IH x N n)(p)(P:OkP x N p)(hq:bd p n)(C:n.op=48):qR qg 49 [eMa x,ePl p,eNd n] (endB (bX (mapX (fun s=>(den x a).F ⟨s,p.env⟩) (x.path p.st)) fun l => .ok (l.all id))):=by
 refine zd.of_sound ?_;refine qSW call49 func49 rfl {} ?_;have i:=z8 x;have hN:=o.N1;have hl:=o.len;have I:=X2 x N o p.st P.st;have T:=Kb x p.st;have J:WKs [eMa x,aI p.st] [eMa x,aI p.st] := .zk i (.zs .nil);have g:=qaD x (x.path p.st) zOm p a fun s U=>R a (by rw[t];simp) _ (UQ o P s U) (by grind)
 have j:WKs [eMa x,lN (x.path p.st),ePl p,eNd a] [eMa x,lN (x.path p.st),ePl p,eNd a] := .zk i (.cons (cG _) (.zk (UF p) (.zk (qE a) .nil)));simp[go_sem,C];refine fG [0,1,2,3,5,6,7,8,9,4,10,11,12,13] [(4,1,[5,7,9]),(10,1,[]),(11,1,[])] zKr zKr zSi ?_;simp[go_sem,t];refine t8 I J ?_;simp[go_sem,t];cases em:mapX (fun s=>(den x a).F ⟨s,p.env⟩) (x.path p.st) with
 |error e =>
  rw[em]at g;refine aC g j ?_;simp[go_sem,zF];exact .hf _ (qN _)
 |ok l =>
  rw[em]at g;have a0:l.length=(x.path p.st).length:=EK.Ka em;refine fW g.toP j ?_;refine t8 (qaE l false zOm) (.zk (UE l) (.zs .nil)) ?_;have hb:(l.all id)=!decide (false∈l):=Kc l;generalize decide (false∈l)=B at *
  simp[go_sem,zr,hb];exact .zsc _
theorem f49(x N n a)(o:OkMa x N)(t:n.sD=[a])(R:IH x N n)(p)(P:OkP x N p)(hq:bd p n)(C:n.op=49):qR qg 49 [eMa x,ePl p,eNd n] (endB (bX (mapX (fun s=>(den x a).F ⟨s,p.env⟩) (x.path p.st)) fun l => .ok (l.any id))):=by
 refine zd.of_sound ?_;refine qSW call49 func49 rfl {} ?_;have i:=z8 x;have hN:=o.N1;have hl:=o.len;have I:=X2 x N o p.st P.st;have T:=Kb x p.st;have J:WKs [eMa x,aI p.st] [eMa x,aI p.st] := .zk i (.zs .nil);have g:=qaD x (x.path p.st) zOm p a fun s U=>R a (by rw[t];simp) _ (UQ o P s U) (by grind)
 have j:WKs [eMa x,lN (x.path p.st),ePl p,eNd a] [eMa x,lN (x.path p.st),ePl p,eNd a] := .zk i (.cons (cG _) (.zk (UF p) (.zk (qE a) .nil)));simp[go_sem,C];refine fG [0,1,2,3,5,6,7,8,9,4,10,11,12] [(4,1,[5,7,9]),(10,1,[]),(11,1,[])] zKr zKr zSi ?_;simp[go_sem,t];refine t8 I J ?_;simp[go_sem,t];cases em:mapX (fun s=>(den x a).F ⟨s,p.env⟩) (x.path p.st) with
 |error e =>
  rw[em]at g;refine aC g j ?_;simp[go_sem,zF];exact .hf _ (qN _)
 |ok l =>
  rw[em]at g;have a0:l.length=(x.path p.st).length:=EK.Ka em;refine fW g.toP j ?_;refine t8 (qaE l true zOm) (.zk (UE l) (.zs .nil)) ?_;have hb:(l.any id)=decide (true∈l):=qmD l;generalize decide (true∈l)=B at *
  simp[go_sem,zr,hb];exact .zsc _
theorem f50(x N n a)(g:OkMa x N)(j:n.sD=[a])(J:IH x N n)(p)(C:OkP x N p)(R:bd p n)(l:n.op=50):qR qg 49 [eMa x,ePl p,eNd n] (endB ((den x a).F ⟨x.nx p.st,p.env⟩)):=by
 refine zd.of_sound ?_;refine qSW call49 func49 rfl {} ?_;have P:=z8 x;have i:=(J a (by rw[j];simp) _ (OkP.nx g.toOkM C) (by grind)).F;have I:=wk3 x ⟨x.nx p.st,p.env⟩ a;have T:=g.N1;have U:=g.len;have o:=XP x g.loop zOm p.st (zW1 C.st);have t:WKs [eMd x.m,aI p.st] [eMd x.m,aI p.st] := .zk (Vf x.m) (.zs .nil);simp[go_sem,l];refine fG [0,1,2,3,4,5,6,8,9,11,12,13,14,7,10,15,16] [(7,1,[9,12,14]),(15,1,[])] zKr zKr zSi ?_;simp[go_sem,j];refine t8 o t ?_;simp[go_sem,j];cases ea:(den x a).F ⟨x.nx p.st,p.env⟩ with
 |error e =>
  rw[ea]at i;refine aC i I ?_;simp[go_sem];exact .hf _ (qN _)
 |ok r =>
  rw[ea]at i;refine fW i.toP I ?_;exact .zsc _
theorem f51(x N n a b)(g:OkMa x N)(i:n.sD=[a,b])(o:IH x N n)(p)(j:OkP x N p)(R:bd p n)(l:n.op=51):qR qg 49 [eMa x,ePl p,eNd n] (endB (untX (fun s=>(den x a).F ⟨s,p.env⟩) (fun s=>(den x b).F ⟨s,p.env⟩) (x.path p.st) false false)):=by
 refine zd.of_sound ?_;refine qSW call49 func49 rfl {} ?_;have J:=z8 x;have T:=g.N1;have U:=g.len;have P:=Kb x p.st;have t:=ql2 x N n a b g i p j (fun s C=>⟨o a (by rw[i];simp) _ (UQ g j s C) (by grind),o b (by rw[i];simp) _ (UQ g j s C) (by grind)⟩) zOm;have I:=wk3 x p n;generalize untX (fun s=>(den x a).F ⟨s,p.env⟩) (fun s=>(den x b).F ⟨s,p.env⟩) (x.path p.st) false false=E at *
 simp[go_sem,l];cases E with
 |error e =>
  refine aC t I ?_;simp[go_sem];exact .hf _ (qN _)
 |ok r =>
  refine fW t.toP I ?_;exact .zsc _
theorem f47(x N n)(hM:OkMa x N)(a0:n.sD.length<=1000000)(ih:IH x N n)(p)(hp:OkP x N p)(hq:bd p n)(J:n.op=47):qR qg 49 [eMa x,ePl p,eNd n] (endB (bX (mapX (fun d:Den=>d.E p) (n.sD.map (den x))) fun _ => .error 45)):=by
 refine zd.of_sound ?_;refine qSW call49 func49 rfl {} ?_;have a1:=z8 x;generalize T:mapX (fun d:Den=>d.E p) (n.sD.map (den x))=E;simp[go_sem,J];refine aP n.sD.length (fun k U=>∃ t,mapX (fun d:Den=>d.E p) ((n.sD.take k).map (den x)) = .ok t/\U.tm 0=eMa x/\U.tm 4 = .ip (cPl p)/\U.tm 282=lNd n.sD/\U.tm 283=aI n.sD.length/\U.tm 284=aI k) ?_ ?_
 .exact ⟨[],rfl,zSi,zSi,zSi,zSi,zSi⟩
 rintro k U hk ⟨t,C,e0,e4,o,g,i⟩;by_cases j:k<n.sD.length
 .have w1:=zWk k
  have I:=(ih n.sD[k] (qv j) p hp zOm).E;have hw:=wk3 x p n.sD[k];have l:=Z4 (l2:=(n.sD.drop k).map (den x)) C;rw[<-zi,uJ,ze j,List.map_cons,mapX,T]at l;simp[go_sem,e0,e4,o,g,i,j];cases P:(den x n.sD[k]).E p with
  |error e =>
   rw[P]at I l;rw[zF,zF]at l;subst l;refine aC I hw ?_;simp[go_sem,zF];exact .hf _ (qN _)
  |ok r =>
   rw[P]at I;refine t8 I.toP hw ?_;simp[go_sem,i,w1];refine⟨j,aM ⟨t++[r],?_,zS1 e0,zS1 e4,by simp[go_sem,o],by simp[go_sem,g],zSi⟩⟩;rw[ya j,zi,Z4 C,List.map_cons,List.map_nil,mapX,P];rfl
 .have R:k=n.sD.length:=by omega
  subst R;rw[za,T]at C;subst C;rw[zr];simp[go_sem,g,i];refine aC (wP 45) (wkI 45) ?_;simp[go_sem];exact .hf _ (qN _)
theorem fNo(x n p)(h:∀ k,(30<=k/\k<=51)->n.op≠k):qR qg 49 [eMa x,ePl p,eNd n] (endB (.error 43)):=by
 refine zd.of_sound ?_;refine qSW call49 func49 rfl {} ?_;have a9:=z8 x;have g:=h 30 zDe;have i:=h 31 zDe;have j:=h 32 zDe;have l:=h 33 zDe;have o:=h 34 zDe;have t:=h 35 zDe;have C:=h 36 zDe;have I:=h 37 zDe;have J:=h 38 zDe;have P:=h 39 zDe;have R:=h 40 zDe;have T:=h 41 zDe;have U:=h 42 zDe;have a0:=h 43 zDe;have a1:=h 44 zDe;have a2:=h 45 zDe;have a3:=h 46 zDe;have a4:=h 47 zDe;have a5:=h 48 zDe;have a6:=h 49 zDe;have a7:=h 50 zDe;have a8:=h 51 zDe;simp[go_sem,g,i,j,l,o,t,C,I,J,P,R,T,U,a0,a1,a2,a3,a4,a5,a6,a7,a8];refine aC (wP 43) (wkI 43) ?_;simp[go_sem];exact .hf _ (qN _)
end F9
namespace FA
open Y1 Y9 P2 E3 EA F1 F2 F3 F4 F7 F8 F9
theorem yZ{f:Nat}{l A E}(h:qR qg f l (endB A))(e:A=E):qR qg f l (endB E):=e ▸ h
theorem qmE(x N n)(i:WfN n)(j:OkMa x N)(l:IH x N n)(p)(o:OkP x N p)(t:bd p n) :
  qR qg 49 [eMa x,ePl p,eNd n] (endB ((den x n).F p)):=by
 rw[vw];show qR _ _ _ (endB (opF x n.op n.name (n.sD.map (den x)) p));by_cases C:n.op=30
 .exact yZ (f30 x N n i j l p o t C) (by rw[C];rfl)
 by_cases I:n.op=31
 .exact yZ (f31 x N n i j l p o t I) (by rw[I];rfl)
 by_cases J:n.op=32
 .obtain ⟨a,b,g⟩:=ju i zOm
  exact yZ (f32 x N n a b j g l p o t J) (by rw[J,g];rfl)
 by_cases P:n.op=33
 .obtain ⟨a,b,g⟩:=ju i zOm
  exact yZ (f33 x N n a b j g l p o t P) (by rw[P,g];rfl)
 by_cases R:n.op=34
 .obtain ⟨a,g⟩:=uq i zOm
  exact yZ (f34 x N n a j g l p o t _ (.inl ⟨R,rfl⟩)) (by rw[R,g];rfl)
 by_cases T:n.op=35
 .obtain ⟨a,g⟩:=uq i zOm
  exact yZ (f34 x N n a j g l p o t _ (.inr (.inl ⟨T,rfl⟩))) (by rw[T,g];rfl)
 by_cases U:n.op=36
 .obtain ⟨a,g⟩:=uq i zOm
  exact yZ (f34 x N n a j g l p o t _ (.inr (.inr (.inl ⟨U,rfl⟩)))) (by rw[U,g];rfl)
 by_cases a0:n.op=37
 .obtain ⟨a,g⟩:=uq i zOm
  exact yZ (f34 x N n a j g l p o t _ (.inr (.inr (.inr ⟨a0,rfl⟩)))) (by rw[a0,g];rfl)
 by_cases a1:n.op=38
 .obtain ⟨a,b,g⟩:=ju i zOm
  exact yZ (f38 x N n a b j g l p o t _ (.inl ⟨a1,rfl⟩)) (by rw[a1,g];rfl)
 by_cases a2:n.op=39
 .obtain ⟨a,b,g⟩:=ju i zOm
  exact yZ (f38 x N n a b j g l p o t _ (.inr ⟨a2,rfl⟩)) (by rw[a2,g];rfl)
 by_cases a3:n.op=40
 .obtain ⟨a,g⟩:=uq i zOm
  exact yZ (f40 x N n a j g l p o t a3) (by rw[a3,g];rfl)
 by_cases a4:n.op=41
 .obtain ⟨a,b,g⟩:=ju i zOm
  exact yZ (f41 x N n a b j g l p o t _ (.inl ⟨a4,rfl⟩)) (by rw[a4,g];rfl)
 by_cases a5:n.op=42
 .obtain ⟨a,b,g⟩:=ju i zOm
  exact yZ (f41 x N n a b j g l p o t _ (.inr (.inl ⟨a5,rfl⟩))) (by rw[a5,g];rfl)
 by_cases a6:n.op=43
 .obtain ⟨a,b,g⟩:=ju i zOm
  exact yZ (f41 x N n a b j g l p o t _ (.inr (.inr (.inl ⟨a6,rfl⟩)))) (by rw[a6,g];rfl)
 by_cases a7:n.op=44
 .obtain ⟨a,b,g⟩:=ju i zOm
  exact yZ (f41 x N n a b j g l p o t _ (.inr (.inr (.inr ⟨a7,rfl⟩)))) (by rw[a7,g];rfl)
 by_cases a8:n.op=45
 .obtain ⟨a,b,g⟩:=ju i zOm
  exact yZ (f45 x N n a b j g l p o t a8) (by rw[a8,g];rfl)
 by_cases a9:n.op=46
 .obtain ⟨a,b,g⟩:=ju i zOm
  exact yZ (f46 x N n a b j g l p o t a9) (by rw[a9,g];rfl)
 by_cases aa:n.op=47
 .exact yZ (f47 x N n j (zW1 i.small.len) l p o t aa) (by rw[aa];rfl)
 by_cases ab:n.op=48
 .obtain ⟨a,g⟩:=uq i zOm
  exact yZ (f48 x N n a j g l p o t ab) (by rw[ab,g];rfl)
 by_cases ad:n.op=49
 .obtain ⟨a,g⟩:=uq i zOm
  exact yZ (f49 x N n a j g l p o t ad) (by rw[ad,g];rfl)
 by_cases ae:n.op=50
 .obtain ⟨a,g⟩:=uq i zOm
  exact yZ (f50 x N n a j g l p o t ae) (by rw[ae,g];rfl)
 by_cases af:n.op=51
 .obtain ⟨a,b,g⟩:=ju i zOm
  exact yZ (f51 x N n a b j g l p o t af) (by rw[af,g];rfl)
 refine yZ (fNo x n p fun k g e=>?_) ?_
 .omega
 simp_all[opF,if_neg]
theorem evX(x N)(j:OkMa x N):∀ m n,szN n<=m->WfN n->∀ p,OkP x N p->bd p n->Ev3 x p n
 | 0,n,I,_,_,_,_=>by
  obtain⟨op,nm,i,ks,q⟩:=n;simp only[szN,Nd.mk.sizeOf_spec]at I;omega
 |m+1,n,I,l,p,g,o=>by
  have t:IH x N n:=fun k C p g o=>evX x N j m k (zW1 (zl C)) (l.kid C) p g (by have:=qlT C;show _+_<=_;omega)
  exact⟨exprX x N n l j t p g o,ql3 x N n l j t p g o,qmE x N n l j t p g o,fun r h=>YO j.toOkM _ n (qn _) l p r g h⟩
end FA
namespace FB
open Y1 Y9 P2 YF E3 EA ET F1 F2 F3 FA
def outE:XE Rl->AV
 | .ok r => .tup [eRel r,aI 0]
 | .error e => .tup [eRel ⟨0,[]⟩,aI e]
theorem wkM(x:Mo):WKs [eTS x.ts,eMd x.m] [eTS x.ts,eMd x.m] := .zk (zB x.ts) (.zk (Vf x.m) .nil)
theorem exprP(x N n)(o:WfN n)(i:OkMa x N)(p)(t:OkP x N p)(C:bd p n) :
  qj qg 12 [eTS x.ts,eMd x.m,aI p.st,lPm p.env,eNd n] (outE ((den x n).E p)):=by
 have hf:=(evX x N i (szN n) n (qn _) o p t C).E;have j:=wk3 x p n;generalize (den x n).E p=E at *
 refine qR.toP ?_;refine zd.of_sound ?_;refine fZ call12 func12 rfl (Nat.le_of_ble_eq_true zKr) zKr (pl:={}) ?_;simp[go_sem];refine dT (g:=43) (first:=[]) (caps:=[]) zSi call43 ?_;simp[go_sem];refine qk.tail 7 zKr ?_;simp[go_sem];refine fW (qk3 x i.gsc) (wkM x) ?_;cases E with
 |error e =>
  refine aC hf j ?_;simp[go_sem];refine yo.mono (qk5 [.arr [aI 0,.lst true []],.arr [aI 0]] 1 0 e rfl) ?_;rintro _ rfl;simp[go_sem];exact Zq Z2
 |ok r =>
  refine fW hf.toP j ?_;refine yo.mono (qk4 [.arr [aI r.ar,lI r.ts],.arr [aI 0]] 1 0 rfl) ?_;rintro _ rfl;simp[go_sem];exact Zq (.hf _ (qr r))
end FB
namespace FC
end FC
namespace E9
open P1 YF E1
theorem qaM(sc)(g:GSc sc):qj qg 31 [eSc sc] (aI (sumI sc.sC)):=by
 refine qSU call31 func31 rfl ?_;refine qm.up sc.sC.length (fun k U=>U.tm 1 = .ip [lI sc.sC,aI sc.sN]/\U.tm 3=aI (sumI (sc.sC.take k))/\U.tm 4=aI k/\U.mu=[]) ?_ ?_
 .simp [go_sem,sumI]
 rintro k U J ⟨o,p,t,C⟩;have P:=g.1;simp[go_sem,o,t,C];refine tZ (fun i=>?_) (fun j=>?_)
 .have i:k<sc.sC.length:=by simpa using i
  have I:=wH sc.sC k i;have l:=g.sum (k+1);rw[I]at l;simp[go_sem,o,p,t,i]
  grind [yh]
 .have j:k=sc.sC.length:=by simp at j;omega
  subst j;simp[go_sem,p];exact .zsc _
def ur:List Int->Int->Int->Int
 | [],_,_ => -1
 |a :: l,x,i=>if x<a then i else ur l (x-a) (i+1)
def uu(sc:Sc)(x:Int):Int:=ur sc.sC x 0
theorem qaN(l:List Int)(k x i h):ur (l.drop k) x i=if x<l[k] then i else ur (l.drop (k+1)) (x-l[k]) (i+1):=by
 rw[ze h,ur]
def jI(g:Sp)(sc:Sc):Bool:=decide (sc.sC.length=g.sS.length)&&decide (g.sS.length<=4)&&decide (1<=sc.sN)&&decide (sc.sN<=4)&&sc.sC.all (fun a=>decide (1<=a)&&decide (a<=5))&&decide (sumI sc.sC<=12)
theorem qmF(p sc)(I:sc.sC.length<=9223372036854775807):qj qg 30 [eSp p,eSc sc] (aB (jI p sc)):=by
 refine qSV call30 func30 rfl ?_;by_cases t:sc.sC.length=p.sS.length
 case neg =>
  simp[go_sem,t,jI];exact .zsc _
 by_cases o:(4:Int)<p.sS.length
 case pos =>
  simp[go_sem,t,o,jI,show ¬p.sS.length<=4 by omega];exact .zsc _
 by_cases h3:sc.sN<1
 case pos =>
  simp[go_sem,t,o,h3,jI,show ¬ 1<=sc.sN by omega];exact .zsc _
 by_cases h4:4<sc.sN
 case pos =>
  simp[go_sem,t,o,h3,h4,jI,show ¬sc.sN<=4 by omega];exact .zsc _
 simp[go_sem,t,o,h3,h4];refine qm.up sc.sC.length (fun k U=>U.tm 3 = .ip [lI sc.sC,aI sc.sN]/\U.tm 5=aI k/\U.mu=[]/\∀(i:Nat)(h:i<sc.sC.length),i<k->1<=sc.sC[i]/\sc.sC[i]<=5) ?_ ?_
 .simp [go_sem]
 rintro k U hk ⟨J,P,R,he⟩;by_cases l:k<sc.sC.length
 .by_cases hb:sc.sC[k]<1\/5<sc.sC[k]
  .have:sc.sC.all (fun a=>decide (1<=a)&&decide (a<=5))=false:=by
    rw[<-Bool.not_eq_true,qY];intro j;have:=j _ (qv l);simp at this;omega
   have:jI p sc=false:=by simp only[jI,this,Bool.and_false,Bool.false_and]
   rw[this];by_cases C:sc.sC[k]<1
   .simp [go_sem,J,P,R,l,C]
    exact .zsc _
   .simp [go_sem,J,P,R,l,C,show 5<sc.sC[k] by omega]
    exact .zsc _
  .simp [go_sem,J,P,R,l,show ¬sc.sC[k]<1 by omega,show ¬ 5<sc.sC[k] by omega]
   refine⟨zWr,fun i h T=>?_⟩;rcases Nat.lt_succ_iff_lt_or_eq.1 T with o|o
   .exact he i h o
   .subst o;exact⟨zOm,zOm⟩
 .have a0:k=sc.sC.length:=by omega
  subst a0;have j:sc.sC.all (fun a=>decide (1<=a)&&decide (a<=5))=true:=by
   rw[qY];intro a I;obtain⟨i,T,rfl⟩:=List.getElem_of_mem I;have:=he i T T;simp;omega
  have g:GSc sc:=⟨zOm,fun a I=>by
   have:=qY.1 j a I;simp at this;omega⟩
  simp[go_sem,J,P,R];refine fW (qaM sc g) (.zk (zD sc) .nil) ?_;simp only[jI,t,j,show p.sS.length<=4 by omega,show 1<=sc.sN by omega,show sc.sN<=4 by omega];simp;exact .zsc _
def divN(n x:Int):Nat->Int
 | 0=>x
 |j+1=>divN n x j / n
theorem qwC{n r}(h:jF n r=true):∀ t,t∈r.ts->0<=t/\t<=1000000:=by
 intro t g;simp only[jF,qD,decide_eq_true_eq,qY]at h;obtain⟨⟨⟨⟨⟨i,o⟩,p⟩,C⟩,j⟩,_⟩:=h;have l:=j t g;have I:=YI i zOm (powN r.ar) (by unfold powN;omega);unfold powI at l;omega
theorem UR{g sc}(h:jI g sc=true):GSc sc:=by
 simp only[jI,qD,decide_eq_true_eq,qY]at h;obtain⟨⟨⟨⟨⟨i,j⟩,l⟩,o⟩,p⟩,_⟩:=h;exact⟨zOm,fun a t=>by grind⟩
def spOf(ts:TS):Sp:=⟨ts.sS,ts.sA,ts.sT.map cPd,ts.sP.map cFa,Zo ts.sT,J3 ts.sP⟩
end E9
namespace Y13
open Y1 Y2 Y3 P1 YM Y5 Y6 Y7 YF Y9 Y10 Y11 Y12 P2
theorem qmG(p n):qj qg 221 [.agg (cPd p),.ip (cNd n)] (aB (decide (p.name=n.name))):=by
 refine qSV call221 func221 rfl ?_;simp[go_sem,jd];exact .zsc _
def uX(c:Ck)(s:Scp)(n:Nd):Res:=
 if (c.ts.sT.any fun p=>decide (p.name=n.name))=true then
  match zC c n.name with
  |none => .error (45,n.pos)
  |some p=>match c.ts.sT[p]? with
   |none => .error (45,n.pos)
   |some g=>if g.params.length=n.sD.length then yC c s n.pos g.params n.sD else .error (45,n.pos)
 else .error (40,n.pos)
def endC:Res->AEnd
 | .ok _ => .ret (.tup [])
 | .error e => .pan (vM e.1 e.2)
@[go_sem] theorem endC_ok(k):endC (.ok k) = .ret (.tup []):=rfl
@[go_sem] theorem qwD(e):endC (.error e) = .pan (vM e.1 e.2):=rfl
theorem Ke(n):HF (.ip (cNd n)):=HF.ip (jQ n)
theorem hf_t0:HF (.tup []):=HF.tup zSp
theorem callU(c)(hc:okCk c)(s)(hs:ScOk c.ts.sS.length s)(n)(hw:WfN n)(az:n.op=47)
  (ih:∀ k,k∈n.sD->qR qg 76 [eCk c,aSc s,eNd k,aB true] (endK (exam c s true k))) :
  qR qg 162 [eCk c,aSc s,eNd n] (endC (uX c s n)):=by
 refine zd.of_sound ?_;refine qSW call162 func162 rfl {} ?_;have b0:=hc.ts.np;have b1:=hw.len;have J:=hasPd false c.ts.sT (.fn (.func 221) [] [.ip (cNd n)]) (fun p=>decide (p.name=n.name)) ⟨_,_,_,rfl,fun p hp=>⟨_,qmG p n,.zk (HF.agg (Xy p)) (.zk (Ke n) .nil)⟩⟩ (HF.fn zSp (fun x hx=>by grind [Ke])) (Zo _) zOm;have a7:WKs [lPd c.ts.sT,.fn (.func 221) [] [.ip (cNd n)]] [lPd c.ts.sT,.fn (.func 221) [] [.ip (cNd n)]] := .zk (Zo _) (.zk (HF.fn zSp (fun x hx=>by grind [Ke])) .nil);generalize P:uX c s n=R;unfold uX at P;simp[go_sem];cases hA:c.ts.sT.any (fun p=>decide (p.name=n.name)) with
 |false =>
  rw[hA]at J P;subst P;refine qk.tail 8 zKr ?_;simp[go_sem];refine fW J a7 ?_;refine aC (yp false 40 n) (wkR n false 40) ?_;simp[go_sem];exact .hf _ (yO _ _)
 |true =>
  rw[hA]at J P;rw[if_pos rfl]at P;refine fD ?_;refine fW J a7 ?_;refine fW (yp true 40 n).toP (wkR n true 40) ?_;refine t8 (nV c hc n.name) (.zk (jr c) (.zs .nil)) ?_;cases T:zC c n.name with
  |none =>
   rw[T]at P;subst P;simp[go_sem];refine qk.tail 19 zKr ?_;simp[go_sem];refine aC (yp false 45 n) (wkR n false 45) ?_;simp[go_sem];exact .hf _ (yO _ _)
  |some p =>
   obtain⟨b2,a0⟩:=ZW hc T;have b3:=hc.ts.pl _ (qv a0);rw[T]at P;simp only[qy a0]at P;simp[go_sem];generalize a5:c.ts.sT[p]=j at *
   by_cases C:j.params.length=n.sD.length
   .rw [if_pos C]at P
    refine tJ zKr ?_;simp[go_sem,a0,a5,C];refine t8 (yp true 45 n).toP (wkR n true 45) ?_;simp[go_sem,a0,a5,C];have a8:=hw.shape;have ah:∀(k:Nat)(h:k<n.sD.length),kd n.sD[k].op=101:=by
     have e:shp n.op n.sD.length=some (qM (min n.sD.length 401) 101):=by
      simp_all[shp,if_neg,if_pos]
     rw[e]at a8;simp only[qs]at a8;intro k h;have h2:(n.sD.map fun k=>kd k.op)[k]?=some (kd n.sD[k].op):=by rw[zz,qy h];rfl
     grind
    refine aP j.params.length (fun k U=>U.tm 0=eCk c/\U.tm 1=aSc s/\U.tm 5 = .ip (cNd n)/\U.tm 54=lPm j.params/\U.tm 55=aI n.sD.length/\U.tm 56=aI k/\yC c s n.pos (j.params.drop k) (n.sD.drop k)=R) ?_ ?_
    .simp [go_sem, *]
    .rintro k U hk ⟨e0,e1,e5,ai,a9,aa,I⟩
     by_cases ab:k=j.params.length
     .subst ab
      rw[yf,C,yf]at I;simp only[yC]at I;subst I;simp[go_sem,a9,aa,C];exact .hf _ hf_t0
     .have ad:k<j.params.length:=by omega
      have o:k<n.sD.length:=zOm;have w1:=zWk k;have hi:=ih n.sD[k] (qv o);rw[ze ad,ze o]at I;simp only[yC]at I;have aj:=jH hc (szN n.sD[k]) n.sD[k] s true;have ak:=ah k o;have ae:=hw.kid (qv o);simp[go_sem,e0,e1,e5,ai,a9,aa,ad,o];cases hx:exam c s true n.sD[k] with
      |error e =>
       rw[hx]at hi I;subst I;refine aC hi (.zk (jr c) (.zk (wI s) (.zk (qE _) (.zs .nil)))) ?_;simp[go_sem];exact .hf _ (yO _ _)
      |ok ko =>
       obtain⟨kk,rfl,a2⟩:=aj ko (qn _) ae hs hx ak;rw[hx]at hi I;simp only at I;refine t8 hi.toP (.zk (jr c) (.zk (wI s) (.zk (qE _) (.zs .nil)))) ?_;by_cases a1:kk.ar=1
       .rw [if_pos a1]at I
        simp[go_sem,e5,a1];refine fW (yp true 42 n).toP (wkR n true 42) ?_;refine qm.seen kk.ts.length (fun seen g=>g.tm 0=eCk c/\g.tm 1=aSc s/\g.tm 5 = .ip (cNd n)/\g.tm 54=lPm j.params/\g.tm 55=aI n.sD.length/\g.tm 56=aI k/\g.tm 9 = .ptr U.mu.length 0/\g.tm 76 = .ptr (U.mu.length+2) 0 /\
         g.mu[U.mu.length]?=some (.arr [aS j.params[k].1,aI j.params[k].2])/\g.mu[U.mu.length+2]?=some (.it (eT kk.ts) seen)/\∀ i t,i∈seen->kk.ts[i]?=some t->t.getD 0 0=j.params[k].2) ?_ ?_
        .simp [go_sem, *]
        .rintro seen g b4 ax ⟨f0,f1,f5,f54,f55,f56,f9,f76,g0,g2,ay⟩
         simp[go_sem,f76];refine⟨U.mu.length+2,eT kk.ts,seen,rfl,g2,fun i e hi al=>?_,fun an=>?_⟩
         .obtain ⟨x,a6,rfl⟩:=Zj hi
          have ao:okT x:=a2.okK.len x (q8 a6);have aq:i<kk.ts.length:=(ql.1 a6).1;have au:x.length=3:=ao;have av:x∈kk.ts:=q8 a6;have a3:U.mu.length+2<g.mu.length:=(ql.1 g2).1;have a4:∀(c:Cell)(l:List Cell),((g.mu.set (U.mu.length+2) c)++l)[U.mu.length]?=some (.arr [aS j.params[k].1,aI j.params[k].2]):=fun c l=>by
           grind
          obtain⟨x0,x1,x2,rfl⟩:∃ x0 x1 x2,x=[x0,x1,x2]:=by
           match x,au with
           | [x0,x1,x2],_=>simp
          have ag:0<=x0/\x0<128:=by
           obtain⟨l,el,hl,hr⟩:=a2.ts _ av;rw[a1]at hl
           match l,hl with
           | [y],_ =>
            have:=hr y zSp;simp[pad]at el;have:=hc.ts.ns;omega
          have w8:qo.wrap x0=x0:=zWr;by_cases hq:x0=j.params[k].2
          .have w9:qo.wrap j.params[k].2=j.params[k].2:=by grind
           simp[go_sem,f5,f9,f76,hi,a3,a4,w9,hq];refine fW (yp true 43 n).toP (wkR n true 43) ?_;refine⟨i,aq,al,zS1 f0,zS1 f1,zS1 f5,zS1 f54,zS1 f55,zS1 f56,zS1 f9,zS1 f76,?_,?_,?_⟩
           .grind [qK]
           .grind [qK,qL,qJ]
           grind
          .have af:Qk j.params[k].2 kk=false:=by
            unfold Qk;rw[<-Bool.not_eq_true,qY]
            grind
           rw[af]at I;simp only[Bool.false_eq_true,if_false]at I;subst I;simp[go_sem,f5,f9,f76,hi,a3,a4,w8,hq];refine aC (yp false 43 n) (wkR n false 43) ?_;simp[go_sem];exact .hf _ (yO _ _)
         .have aw:Qk j.params[k].2 kk=true:=by
           grind [Qk,qY,List.mem_iff_getElem?,ql]
          simp_all[go_sem,if_pos,aM]
       .rw [if_neg a1]at I
        subst I;simp[go_sem,e5,a1];refine aC (yp false 42 n) (wkR n false 42) ?_;simp[go_sem];exact .hf _ (yO _ _)
   .rw [if_neg C]at P
    subst P;refine qk.tail 19 zKr ?_;simp[go_sem,a0,a5,C];refine aC (yp false 45 n) (wkR n false 45) ?_;simp[go_sem];exact .hf _ (yO _ _)
theorem Kf{lo sz mu av xs}(h:OwnF lo mu sz av xs)(w:jn sz xs)(hf:∀ r,r∈xs->∀ c,c∈r->HF c):Rd (cutM (fun i=>decide (lo<=i)) mu 0) av (.lst false xs):=by
 obtain⟨g,j,o⟩:=h;refine Own.rd (sz:=sz) ?_ w hf;rcases g with rfl|⟨b,rfl,l⟩
 .exact .inl rfl
 .refine .inr ⟨b,rfl,?_⟩
  rw[jA,l];simp[j b _ _ _ rfl]
theorem qmH{c s n g}(h:uX c s n = .ok g):g=none:=by
 have j:∀(ks:List Nd)(i:List (dC×Int))(g:Option Kd),yC c s n.pos i ks = .ok g->g=none:=by
  intro ks;induction ks with
  |nil=>grind [yC]
  |cons k ks l =>
   intro i g h;cases i with
   |nil=>grind [yC]
   |cons p i =>
    grind [yC,absurd]
 unfold uX at h;split at h
 .grind
 grind
theorem appKo{mu lo s xs k K}(o:OwnF lo mu 2 s (xs.map cKo))(t:xs.length<=100000)(C:∀ av mu',OwnF lo mu' 2 av ((xs++[k]).map cKo)->(∀ i,i<lo->mu'[i]?=mu[i]?)->K av mu') :
  qx qg mu #[226,226] s (.lst true [cKo k]) K:=by
 have g:∀ l:List (Option Kd),qV 2 (l.map cKo):=fun l r p=>by
  obtain⟨n,_,rfl⟩:=qp.1 p;exact XG n
 refine qx.ownF (lo:=lo) (e:=139) (sz:=2) (bt:=16) (zv := .agg [aI 0,.sc (.map none)]) (xs:=xs.map cKo) (ys:=[cKo k]) zSi zSi zSi rfl rfl zOm zOm o (by simp[qA]) (g xs) (g [k]) zSo ?_
 grind
theorem Kg(c)(hc:okCk c):∀ m n,szN n<=m->WfN n->∀ s,ScOk c.ts.sS.length s->∀ inn,qR qg 76 [eCk c,aSc s,eNd n,aB inn] (endK (exam c s inn n))
 | 0,n,hm,_,_,_,_=>by obtain⟨op,nm,i,ks,p⟩:=n;simp[szN]at hm
 |m+1,n,hm,hw,s,hs,inn=>by
  have ih:∀ k,k∈n.sD->∀ J,ScOk c.ts.sS.length J->∀ T,qR qg 76 [eCk c,aSc J,eNd k,aB T] (endK (exam c J T k)):=fun k hk J ae T =>
   Kg c hc m k (zW1 (zl hk)) (hw.kid hk) J ae T
  refine zd.of_sound ?_;refine qSW call76 func76 rfl {} ?_;generalize g:exam c s inn n=E;rw[vy]at g;have a6:=nW c hc n;simp[go_sem];by_cases hT:(inn&&jc c n.op n.name)=true
  .rw [if_pos hT]at g
   subst g;rw[qD]at hT;obtain⟨rfl,hT⟩:=hT;rw[hT]at a6;refine qk.tail 9 zKr ?_;simp[go_sem];refine fW a6 (.zk (jr c) (.zk (qE n) .nil)) ?_;refine aC (yp false 46 n) (wkR n false 46) ?_;simp[go_sem];exact .hf _ (yO _ _)
  rw[if_neg hT]at g;have af:=wO c hc s n;have a3:=fun h=>callU c hc s hs n hw h (fun k hk=>ih k hk s hs true)
  have a7:WKs [eCk c,aSc s,eNd n] [eCk c,aSc s,eNd n] := .zk (jr c) (.zk (wI s) (.zk (qE n) .nil));have a0:∀(J:Scp)(k:Nd)(b:Bool),WKs [eCk c,aSc J,eNd k,aB b] [eCk c,aSc J,eNd k,aB b]:=fun J k b => .zk (jr c) (.zk (wI J) (.zk (qE k) (.zs .nil)))
  have a4:n.op=15\/n.op=45\/n.op=46->∃ a f,n.sD=[a,f]/\kd a.op=101:=fun ho=>by
   have I:=hw.shape;have e:shp n.op n.sD.length=some [101,102]:=by
    unfold shp;rw[zIn,zIn,zIn,if_pos zOm]
   rw[e]at I;simp only[qs]at I
   match hk:n.sD,I with
   | [a,f],I=>grind
   | [],I=>simp at I
   | [_],I=>simp at I
   |_ :: _ :: _ :: _,I=>simp at I
  cases inn
  case' false =>
   refine fD ?_;refine fW (yp true 46 n).toP (wkR n true 46) ?_
  case' true =>
   have ay:jc c n.op n.name=false:=zUs hT;rw[ay]at a6;refine fD ?_;refine fW a6 (.zk (jr c) (.zk (qE n) .nil)) ?_;refine fW (yp true 46 n).toP (wkR n true 46) ?_
  all_goals
   by_cases h1:n.op=1
   .rw [if_pos h1]at g
    rw[g]at af;simp[go_sem,h1];cases E with
    |error e =>
     refine aC af a7 ?_;simp[go_sem];exact .hf _ (yO _ _)
    |ok ko =>
     refine t8 af.toP a7 ?_;cases ko with
     |none=>simp[go_sem];exact .hf _ hfKn
     |some k=>simp[go_sem];exact .hf _ (hfK2 _ _)
   rw[if_neg h1]at g;by_cases h47:n.op=47
   .rw [if_pos h47]at g
    have g:uX c s n=E:=g;have a3:=a3 h47;rw[g]at a3;simp[go_sem,h47];cases E with
    |error e =>
     refine aC a3 a7 ?_;simp[go_sem];exact .hf _ (yO _ _)
    |ok ko =>
     obtain rfl:=qmH g;refine fW a3.toP a7 ?_;exact .hf _ hfKn
   rw[if_neg h47]at g;by_cases hb:n.op=15\/n.op=45\/n.op=46
   .rw [if_pos hb]at g
    obtain⟨a,f,a1,ha⟩:=a4 hb;rw[a1]at g;have an:∀ b r,exam c s b a=r->qR qg 76 [eCk c,aSc s,eNd a,aB b] (endK r):=fun b r h=>h ▸ ih a (by rw[a1];simp) s hs b
    have az:∀ J,ScOk c.ts.sS.length J->∀ b r,exam c J b f=r->qR qg 76 [eCk c,aSc J,eNd f,aB b] (endK r):=fun J ae b r h=>h ▸ ih f (by rw[a1];simp) J ae b
    have aa:=jH hc (szN a) a s;have ao:=hw.kid (k:=a) (by rw[a1];simp);rcases hb with h|h|h
    all_goals
     simp[go_sem,h,a1];simp only[h,jj,zq]at g;simp at g;split at g
     .rename_i e hx
      have hi:=an _ _ hx;subst g;refine aC hi (a0 _ _ _) ?_;simp[go_sem];exact .hf _ (yO _ _)
     .rename_i hx
      obtain⟨q,hq,_⟩:=aa _ _ (qn _) ao hs hx ha;exact absurd hq zSp
     .rename_i k hx
      have hi:=an _ _ hx;obtain⟨q,hq,b0⟩:=aa _ _ (qn _) ao hs hx ha;simp only[qs]at hq;subst hq;refine t8 hi.toP (a0 _ _ _) ?_;by_cases a8:k.ar=1
      .rw [if_pos a8]at g
       obtain⟨ka,kt⟩:=k;obtain rfl:ka=1:=a8;simp[go_sem];refine fW (yp true 42 n).toP (wkR n true 42) ?_;have b4:ScOk c.ts.sS.length ((n.name,⟨1,kt⟩) :: s):=fun v P=>by
        rcases qz.1 P with rfl|P
        .exact ⟨b0,rfl⟩
        .exact hs v P
       have aq:=az _ b4;refine qk.tail 12 zKr ?_;simp[go_sem,a1];split at g
       .rename_i e a2
        split at a2
        .rename_i e' ag
         simp only[Except.error.injEq]at a2;subst a2;subst g;have ah:=aq _ _ ag;refine aC ah (a0 ((n.name,⟨1,kt⟩) :: s) _ _) ?_;simp[go_sem];exact .hf _ (yO _ _)
        grind
       .rename_i l a2
        split at a2
        .exact absurd a2 zSp
        .rename_i a' ag
         have ah:=aq _ _ ag;subst g;refine fW ah.toP (a0 ((n.name,⟨1,kt⟩) :: s) _ _) ?_;exact .hf _ (hfK2 _ _)
      .rw [if_neg a8]at g
       subst g;simp[go_sem,a8];refine aC (yp false 42 n) (wkR n false 42) ?_;simp[go_sem];exact .hf _ (yO _ _)
   .rw [if_neg hb]at g
    simp only[not_or]at hb;obtain⟨b1,b2,b3⟩:=hb;simp[go_sem,h1,h47,b1,b2,b3];have b5:=hw.len;generalize hB:(_||decide (n.op=12)||decide (n.op=13))=B at g;by_cases ai:n.op=12
    case' pos=>simp[go_sem,ai]
    case' neg =>
     by_cases aj:n.op=13
     case' pos=>simp[go_sem,aj]
     case' neg=>simp[go_sem,ai,aj]
    all_goals
     refine aP n.sD.length (fun k U=>∃ C:List (Option Kd),C.length=k/\U.tm 0=eCk c/\U.tm 1=aSc s/\U.tm 3=aB B/\U.tm 6 = .ip (cNd n)/\U.tm 8 = .ptr 0 0/\U.tm 79=lNd n.sD/\U.tm 80=aI n.sD.length/\U.tm 81=aI k/\U.mu[0]?=some (.arr [aI 0,.sc (.map none)])/\OwnF 1 U.mu 2 (U.tm 10) (C.map cKo) /\
      zq c s B n.sD=(match zq c s B (n.sD.drop k) with | .error e => .error e | .ok l => .ok (C++l))) ?_ ?_
     .refine ⟨[],rfl,zSi,zSi,?_,zSi,zSi,zSi,zSi,zSi,zSi,?_,?_⟩
      .rw [<-hB];simp[go_sem,ai];try simp[aj]
      .simp [go_sem];exact OwnF.nil zSp
      .simp only[List.drop_zero,y8]
       cases zq c s B n.sD<;>rfl
     .rintro k U hk ⟨C,hl,e0,e1,e3,e6,e8,au,ak,al,m0,ho,o⟩
      by_cases a5:k=n.sD.length
      .rw [a5,yf]at o
       simp only[zq,ye]at o;rw[o]at g;simp only at g;simp[go_sem,e0,e6,ak,al,a5];have b6:ApOk n.op C:=(XL hc.ts.ns hw (by rw[hl,a5]) (fun i k' a hi ha b7=>jH hc (szN k') k' s B a (qn _) (hw.kid (q8 hi)) hs ((YL o).2 i k' a hi ha) b7)).1;have ab:=qkA c hc false n C b6;rw[g]at ab;have aw:∀ r,r∈C.map cKo->∀ c,c∈r->HF c:=fun r hr c b8=>by
        obtain⟨q,_,rfl⟩:=qp.1 hr;exact mA q c b8
       have b9:jn 2 (C.map cKo):=fun r hr=>by
        obtain⟨q,_,rfl⟩:=qp.1 hr;exact(XG q).1
       have g0:(cutM (fun i=>!decide (1<=i)) U.mu 0)[0]?=some (.arr [aI 0,.sc (.map none)]):=by rw[jA,m0];simp
       refine aA (fU (args1:=[eCk c,eNd n,.lst false (C.map cKo)]) (fun j=>decide (1<=j)) ⟨.inl rfl,.inl rfl,.inr (Kf ho b9 aw),trivial⟩ (ab.toSound _ (.zk (jr c) (.zk (qE n) (.zk (HF.lst aw) .nil))))) ?_ ?_
       .rintro r m ⟨P,rfl⟩
        have P:AEnd.ret r=endK E:=P;cases E with
        |error e=>exact absurd P zSi
        |ok q =>
         simp[go_sem]at P;subst P;generalize cutM (fun i=>!decide (1<=i)) U.mu 0=M at g0;have bc:0<M.length:=(ql.1 g0).1;have ad:∀ c,(M.set 0 c)[0]?=some c:=fun c=>qJ bc
         cases q with
         |none=>simp[go_sem,e8,g0,ad];exact .hf _ hfKn
         |some k=>simp[go_sem,e8,g0,ad];exact .hf _ (hfK2 _ _)
       .rintro r m ⟨P,rfl⟩
        have P:AEnd.pan r=endK E:=P;cases E with
        |ok q=>exact absurd P zSi
        |error e =>
         simp[go_sem]at P;subst P;simp[go_sem];exact .hf _ (yO _ _)
      .have a9:k<n.sD.length:=by omega
       have w1:=zWk k;rw[ze a9]at o;simp only[zq]at o;have hi:=ih n.sD[k] (qv a9) s hs B;simp[go_sem,e0,e1,e3,au,ak,al,a9];cases hx:exam c s B n.sD[k] with
       |error e =>
        rw[hx]at hi o;simp only at o;rw[o]at g;simp only at g;subst g;refine aC hi (a0 s n.sD[k] B) ?_;simp[go_sem];exact .hf _ (yO _ _)
       |ok ko =>
        rw[hx]at hi o;simp only at o;refine t8 hi.toP (a0 s n.sD[k] B) ?_;have ax:=XG ko;rw[qY]at ax;simp[go_sem];rw[if_pos ax];simp[go_sem];refine appKo (xs:=C) (k:=ko) (lo:=1) ⟨Vb ho.1 _,ho.2.1,by have:=ho.2.2;simp⟩ zOm fun t R be bg=>?_
        simp[go_sem,al,w1];refine⟨a9,aM ?_⟩;refine⟨C++[ko],zP1 hl,zS1 e0,zS1 e1,zS1 e3,zS1 e6,zS1 e8,zS1 au,zS1 ak,zSi,?_,zVs be,?_⟩
        .simp only[qK]
         rw[bg 0 zOm,qL (zW1 ho.2.2)];exact m0
        .rw [o]
         cases zq c s B (n.sD.drop (k+1)) with
         |error e=>rfl
         |ok l=>simp
end Y13
namespace Y14
open YF P1 P2 Y1 Y2 Y9 Y10 Y12 Y13
structure Qs (ns:Nat) (env:List (dC×Int)):Prop where
 len:env.length<=1000000
 r:∀ p,p∈env->0<=p.2/\p.2<ns
theorem Vh{ns env}(h:Qs ns env):ScOk ns (zO env):=by
 have:∀(l:List (dC×Int))(s:Scp),(∀ p,p∈l->0<=p.2/\p.2<(ns:Int))->ScOk ns s->ScOk ns (l.foldl (fun s p=>(p.1,kOf [p.2]) :: s) s):=by
  intro l;induction l with
  |nil=>intro s _ i;exact i
  |cons a l t =>
   intro s j i;refine t _ (fun p C=>j p (q9 _ C)) fun v g=>?_
   rcases qz.1 g with rfl|g
   .exact ⟨XJ zSp zSp (fun x o=>by rw[qX]at o;subst o;exact j a (zo ..)),rfl⟩
   .exact i v g
 exact this env [] h.r fun v g=>absurd g qO
theorem qmI(c)(l:okCk c)(n)(p:WfN n)(env)(j:Qs c.ts.sS.length env) :
  qR qg 121 [.ip (cNd n),.ip [eCk c],.ip [lPm env]] (if 30<=n.op then (match exam c (zO env) false n with | .ok _ => .ret (.tup []) | .error e => .pan (vM e.1 e.2)) else .pan (vM 43 n.pos)):=by
 refine zd.of_sound ?_;refine qSW call121 func121 rfl {} ?_;have i:=Kg c l (szN n) n (qn _) p (zO env) (Vh j) false;have g:WKs [eCk c,aSc (zO env),eNd n,aB false] [eCk c,aSc (zO env),eNd n,aB false] := .zk (jr c) (.zk (wI _) (.zk (qE n) (.zs .nil)));by_cases h:30<=n.op
 .rw [if_pos h]
  simp[go_sem,h];refine fW (yp true 43 n).toP (wkR n true 43) ?_;refine qk.tail 4 zKr ?_;simp[go_sem];refine fW (mr _ l.ts.ns env j.len j.r) (.zk (j5 env) .nil) ?_;cases o:exam c (zO env) false n with
  |error e =>
   rw[o]at i;refine aC i g ?_;simp[go_sem];exact .hf _ (yO _ _)
  |ok k =>
   rw[o]at i;refine fW i.toP g ?_;exact .hf _ (HF.tup zSp)
 .rw [if_neg h]
  simp[go_sem,h];refine aC (yp false 43 n) (wkR n false 43) ?_;simp[go_sem];exact .hf _ (yO _ _)
theorem qmJ(c)(i:okCk c)(n)(P:WfN n)(env)(R:Qs c.ts.sS.length env):qj qg 48 [eCk c,lPm env,eNd n] (.agg [aI (jR c env n).1,aI (jR c env n).2]):=by
 refine qR.toP ?_;refine zd.of_sound ?_;refine qSW call48 func48 rfl {} ?_;simp[go_sem];have o:WKs [.ip (cNd n),.ip [eCk c],.ip [lPm env]] [.ip (cNd n),.ip [eCk c],.ip [lPm env]] := .zk (HF.ip (jQ n)) (.zk (HF.ip (by simp;exact jr c)) (.zk (HF.ip (by simp;exact j5 env)) .nil));have T:=(qmI c i n P env R).toSound ([.arr [aI 0,aI 0]]++[.dead]) o;refine aA (nC (mu:=[.arr [aI 0,aI 0]]) T ?_) ?_ ?_
 .rintro v m ⟨g,_⟩
  have g:AEnd.pan v=_:=g;split at g
  .split at g
   .exact absurd g zSp
   .cases g;exact⟨_,_,rfl⟩
  .cases g;exact⟨_,_,rfl⟩
 .rintro r m ⟨U,x,⟨l,rfl⟩,⟨J,⟨g,rfl⟩,j⟩|⟨t,p,⟨g,rfl⟩,j⟩⟩
  .have g:AEnd.ret J=_:=g
   cases j;have hf:jR c env n=(0,0):=by
    unfold jR dgOf;split at g
    .rename_i h
     rw[if_pos h];split at g
     .rename_i C;first | (rw[C];done)|rfl
     .cases g
    .cases g
   rw[hf];simp[go_sem];exact .hf _ (HF.agg fun c i=>by simp at i;rcases i with rfl|rfl<;>exact HF.sc _)
  .have g:AEnd.pan (vM t p)=_:=g
   cases j;have hf:jR c env n=(t,p):=by
    unfold jR dgOf;split at g
    .rename_i h
     rw[if_pos h];split at g
     .cases g
     .rename_i e C;(try rw[C]);cases g;rfl
    .rename_i h
     rw[if_neg h];cases g;rfl
   rw[hf];simp[go_sem];exact .hf _ (HF.agg fun c i=>by simp at i;rcases i with rfl|rfl<;>exact HF.sc _)
 .rintro r m ⟨U,x,⟨l,rfl⟩,⟨J,⟨g,rfl⟩,j⟩|⟨t,p,⟨g,rfl⟩,j⟩⟩<;>cases j
theorem qmK(ts)(h:okTS ts)(i:∀ p,p∈ts.sT->WfN p.body)(n)(j:WfN n)(env)(l:Qs ts.sS.length env):qj qg 15 [eTS ts,lPm env,eNd n] (.agg [aI (jE ts env n).1,aI (jE ts env n).2]):=by
 refine qSU call15 func15 rfl ?_;refine fD ?_;refine fW (mq ts h (fun p o=>(i p o).small) _ (qn _)) (.zk (zB ts) (.zs .nil)) ?_;refine fW (qmJ _ (uD h (qn _)) n j env l) (.zk (jr _) (.zk (j5 env) (.zk (qE n) .nil))) ?_;exact .hf _ (HF.agg fun c g=>by simp at g;rcases g with rfl|rfl<;>exact HF.sc _)
end Y14
namespace Y15
open Y1
section
variable {C:Type}
def repL(g:C->C->Bool)(l:List C):List Bool:=(qu l.length).map fun i=>match l[i]? with|some x=>(l.take i).any fun y=>g x y|none=>false
theorem Qt(g)(l:List C):(repL g l).length=l.length:=by simp[repL]
theorem qaO(g)(l:List C){i}(h):(repL g l)[i]?=some ((l.take i).any fun y=>g l[i] y):=by
 simp[repL,h]
@[go_sem] theorem put_cFa(a b c d e f s n):putCells [a,b,c,d,e,f] 0 (s :: cNd n)=s :: cNd n:=by
 rw[jp];simp[putCells]
end
end Y15
namespace Y16
open P1 Y1 Y9 Y15
abbrev cDg(d:Dg):List AV:=[aI d.1,aI d.2]
def dups(l:List Bool):List Dg:=(l.filter id).map fun _=>(41,0)
def repB{C:Type}(g:C->C->Bool)(l:List C)(i:Nat):List Bool:=((repL g l).take (i+1)).drop i
def rp(d:Dg):List Dg:=if d.1=0 then [] else [d]
def uw(ts:TS)(i:Nat):List Dg:=match ts.sT[i]? with
 |some p=>dups (repB (fun x y:Pd=>decide (x.name=y.name)) ts.sT i)++(dups (repL (fun x y:dC×Int=>decide (x.1=y.1)) p.params)++rp (jR (mkCk ts i) p.params p.body))
 |none=>[]
def Qu(ts:TS)(g:List (dC×Nd))(i:Nat):List Dg:=match g[i]? with
 |some f=>dups (repB (fun x y:dC×Nd=>decide (x.1=y.1)) g i)++rp (jE ts [] f.2)
 |none=>[]
def vT(ts:TS):List Dg:=
 dups (repL (fun x y:dC×Bool=>decide (x.1=y.1)) ts.sS)++(dups (repL (fun x y:Fld=>decide (x.name=y.name)&&decide (x.sS=y.sS)) ts.sA) ++
  ((qu ts.sT.length).flatMap (uw ts)++(qu ts.sP.length).flatMap (Qu ts ts.sP)))
abbrev lDg(l:List Dg):AV := .lst false (l.map cDg)
theorem Qv(l):(dups l).length<=l.length:=by
 grind [dups,zT,List.length_filter_le]
theorem qaP(d):(rp d).length<=1:=by unfold rp;split<;>simp
theorem Kh(f:Nat->List Dg)(hf:∀ i,(f i).length<=10):∀ k,((qu k).flatMap f).length<=10*k
 | 0=>zSp
 |k+1=>by
  rw[List.range_succ,List.flatMap_append,zj];have:=Kh f hf k;have:=hf k;simp only[List.flatMap_cons,List.flatMap_nil,ye];omega
theorem qaQ{C}(g)(l:List C)(i):(repB g l i).length<=1:=by
 grind [repB,List.length_drop,ub]
theorem qaR{ts}(h:okTS ts)(i):(uw ts i).length<=10:=by
 unfold uw;split
 .rename_i p g
  have j:=(h.pl p (q8 g)).1
  grind [Qv,repB,decide,qaQ,repL,Qt,qaP]
 .simp
theorem qmL(ts g i):(Qu ts g i).length<=10:=by
 grind [Qu,Qv,repB,decide,qaQ,qaP,jE]
end Y16
namespace YU
open Go.RowKit
theorem qmM{w w'}(h:ZL w.heap.size w w'):∃ q os,w'=Sort.grow (w.drewN q) os:=by
 refine⟨w'.drawn-w.drawn,w'.heap.extract w.heap.size w'.heap.size,?_⟩;have P:=h.drawn;have o:w'.heap=w.heap++w'.heap.extract w.heap.size w'.heap.size:=by
  apply Array.ext_getElem?;intro i;by_cases p:i<w.heap.size
  .rw [Array.getElem?_append_left p,h.block i p]
  .rw [Array.getElem?_append_right zOm,Array.getElem?_extract]
   have U:=h.size;have e:w.heap.size+(i-w.heap.size)=i:=zOm;rw[e];by_cases R:i<w'.heap.size
   .rw [if_pos zOm]
   .rw [zIn,Array.getElem?_eq_none zOm]
 obtain⟨j,l,g,T,t⟩:=w';obtain⟨heap,tape,drawn,os,out⟩:=w;have C:=h.os;have I:=h.tape;have J:=h.output;simp only at C I J P o;subst C;subst I;subst J;simp only[Sort.grow,World.drewN,World.mk.injEq,and_true,true_and];exact⟨o,zOm⟩
theorem qmN{P f g}(aj:yT P f){β:Type}(c)(a7:∀ x,(c x).one=true)(I:β->β->Int)(hf:∀ x,HF (c x))
  (m) (o) (hm:o.length=m+1) (ak:m+1<4611686018427387904)
  (al:∀ x y,x∈o->y∈o->qj P g [c x,c y] (.sc (.int .i64 (I x y))))
  (an:∀ x,x∈o->¬I x x<0) (b2:∀ x y z,x∈o->y∈o->z∈o->I x y<0->I y z<0->I x z<0) (b3:∀ x y z,x∈o->y∈o->z∈o->¬I x y<0->¬I y z<0->¬I x z<0)
  (aa:∀ enc,(∀ x,(enc x).oneCell'=true)->∀ cf,Sort.SWO (Proofs.ltOf cf)->∀(cb l off cap)(d:Array (Fin (m+1)))(w),
   Proofs.CmpLays1 P g cb enc cf l off d.size w->Sort.Holds enc w l off d->l<w.heap.size->d.size<4611686018427387904 ->
   Calls P f #[.slice (some ⟨l,off,none⟩) d.size cap,.func (.func g) #[] cb] w fun e w' =>
    e = .returned (.tuple #[])/\∃ d' n os,Sort.PermIn 0 d.size d d'/\Sort.SortedIn (Proofs.ltOf cf) 0 d.size d'/\w'=Proofs.sortWorld enc w l off n d' os)
  {mu} {b} (hc:mu[b]?=some (.arr (o.map c))) :
  qC P f [.sl b 1 0 o.length,.fn (.func g) [] []] mu fun e mu'=>e = .ret (.tup [])/\∃ J:List β,J.Perm o/\J.Pairwise (fun x y=>¬I y x<0)/\mu'=mu.set b (.arr (J.map c)):=by
 refine⟨aj,fun G w vs s ra=>?_⟩;obtain⟨u,fv,rfl,ru,rf⟩:=ra.two_inv;cases ru with
 |sl _ _ _ _ l a6 cap hb ht bs =>
 cases rf with
 |fn _ _ _ b4 b5 b6 b7 bt bu =>
 have e0:b4=#[]:=Array.eq_empty_of_size_eq_zero (zUs b6);have e1:b5=#[]:=Array.eq_empty_of_size_eq_zero (zUs b7);subst e0;subst e1;obtain⟨arr,el,h1,h2,h3,h4⟩:=s.arr b _ l a6 hc hb;have ao:l<w.heap.size:=(Array.getElem?_eq_some_iff.1 h1).1;have ab:∀(i:Nat)(hi:i<o.length),VRel G w.heap (c o[i]) (arr.getD i z6):=by
  intro i hi;have:=h4 i (c o[i]) (zP1 hi);exact this.2
 have b8:Live G mu l:=⟨b,_,a6,hc,zSp,hb⟩;have b9:¬G.imm l:=s.live b _ l a6 hc zSp hb;generalize aq:(fun i:Fin (m+1)=>arr.getD i.val z6)=enc;have R:∀ i:Fin (m+1),enc i=arr.getD i.val z6:=fun i=>by rw[<-aq]
 have p:∀ i:Fin (m+1),i.val<o.length:=fun i=>zW1 i.isLt
 have ad:∀ x,(enc x).oneCell'=true:=by
  intro x;rw[R];exact(ab x.val (p x)).one (a7 _)
 generalize bb:(fun x y:Fin (m+1)=>I (o[x.val]'(p x)) (o[y.val]'(p y)))=cf;have T:∀ x y:Fin (m+1),cf x y=I (o[x.val]'(p x)) (o[y.val]'(p y)):=fun x y=>by rw[<-bb]
 have C:∀ x:Fin (m+1),o[x.val]'(p x)∈o:=fun x=>qv _
 have ar:Sort.SWO (Proofs.ltOf cf):=by
  refine⟨fun x=>?_,fun x y z g1 g2=>?_,fun x y z g1 g2=>?_⟩
  .simp only[Proofs.ltOf,T,decide_eq_false_iff_not];exact an _ (C x)
  .simp only[Proofs.ltOf,T,decide_eq_true_eq]at *;exact b2 _ _ _ (C x) (C y) (C z) g1 g2
  .simp only[Proofs.ltOf,T,decide_eq_false_iff_not]at *;exact b3 _ _ _ (C x) (C y) (C z) g1 g2
 have ae:Proofs.CmpLays1 P g #[] enc cf l 0 (m+1) w:=by
  intro m' os dk bv x y;generalize hW:Proofs.sortWorld enc w l 0 m' dk os=W;have au:W.heap=w.heap.modify l (Sort.onCells (Sort.putCells enc 0 dk))++os:=by rw[<-hW];rfl
  have a8:w.heap.size<=W.heap.size:=by rw[au];simp
  have af:∀ b',b'≠l->b'<w.heap.size->W.heap[b']?=w.heap[b']?:=by
   intro b' bc be;rw[au,Array.getElem?_append_left (zUs be),Array.getElem?_modify,if_neg (fun e=>bc e.symm)]
  have av:Ext ⟨G.imm,[]⟩ w.heap W.heap:=⟨a8,fun b' a2=>af b' (fun e=>b9 (e ▸ a2)) (s.imm b' a2)⟩;have agg:∀ z:Fin (m+1),VRel ⟨G.imm,[]⟩ W.heap (c (o[z.val]'(p z))) (enc z):=by
   intro z;rw[R];exact(hf _ G w.heap _ (ab z.val (p z))).ext av
  have ag:zX ⟨G.imm,[]⟩ W.heap [c (o[x.val]'(p x)),c (o[y.val]'(p y))] (#[enc x,enc y]++#[]):=by
   refine⟨zSp,fun j q hq=>?_⟩
   match j,hq with
   | 0,hq=>simp at hq;subst hq;exact agg x
   | 1,hq=>simp at hq;subst hq;exact agg y
   |j+2,hq=>simp at hq
  refine((al _ _ (C x) (C y)).2 G.imm W _ (Sim.empty (fun b' a2=>Nat.lt_of_lt_of_le (s.imm b' a2) a8) (s.tab.mono (fun _ h=>h) fun b' a2=>av.keep b' a2)) ag).mono ?_;rintro e w' ⟨br,v,rfl,_,_,aw,hv⟩;rw[T];obtain⟨q,bg,ah⟩:=qmM aw;refine⟨?_,q,bg,ah⟩;cases hv;rfl
 generalize hd:(List.finRange (m+1)).toArray=d;have U:d.size=m+1:=by rw[<-hd];simp
 have bh:∀ t (ht:t<m+1),d[t]! = ⟨t,ht⟩:=fun t ht=>by rw[<-hd];simp[ht]
 have bw:m+1<=arr.size:=by simp at h3;omega
 have hH:Sort.Holds enc w l 0 d:=by
  intro t ht;rw[U]at ht;refine⟨?_,?_⟩
  .rw [bh _ ht,R]
   simp only[World.cell?,h1,Option.isSome_none,Bool.false_eq_true,if_false,yJ];rw[qU,Qc zOm];rfl
  .simp only[World.frozen?,h1]
   simp
 have a9:=aa enc ad cf ar #[] l 0 cap d w (by rw[U];exact ae) hH ao (by rw[U];exact ak);rw[U]at a9;rw[hm];refine a9.mono ?_;rintro e w' ⟨rfl,d',n,os,⟨bi,ca,ax⟩,ay,ah⟩;have a3:d'.size=m+1:=by rw[bi,U]
 rw[Array.extract_eq_self_of_le zOm,Array.extract_eq_self_of_le zOm]at ax;generalize a4:(d'.toList.map fun z:Fin (m+1)=>o[z.val]'(p z))=J;have a5:J.length=m+1:=by rw[<-a4];simp[a3]
 have a1:∀(i:Nat)(hi:i<m+1),J[i]' zOm=o[(d'[i]' zOm).val]'(p _):=by
  intro i hi;simp only[<-a4,Yd,Array.getElem_toList]
 have ai:J.Perm o:=by
  rw[<-a4];have h1:=ax.map fun z:Fin (m+1)=>o[z.val]'(p z)
  have h2:(d.toList.map fun z:Fin (m+1)=>o[z.val]'(p z))=o:=by
   rw[<-hd];apply List.ext_getElem
   .simp [hm]
   .intro i hi cc
    simp
  rw[h2]at h1;exact h1
 have bj:J.Pairwise (fun x y=>¬I y x<0):=by
  rw[List.pairwise_iff_getElem];intro i j hi hj bk;have:=ay i j (Nat.zero_le _) bk zOm;rw[getElem!_pos d' j zOm,getElem!_pos d' i zOm]at this;simp only[Proofs.ltOf,T,decide_eq_false_iff_not]at this;rw[a1 i zOm,a1 j zOm];exact this
 have bl:∃ w1,w1=Sort.putRow enc (Sort.ahead w n) l 0 d':=⟨_,rfl⟩;obtain⟨w1,a0⟩:=bl;have az:w1.heap[l]?=some (.cells (Sort.putCells enc 0 d' arr) el (0,0)):=by
  rw[a0];show (w.heap.modify l (Sort.onCells _))[l]?=_;rw[Array.getElem?_modify,if_pos rfl,h1];rfl
 have b0:∀ j,j≠l->w1.heap[j]?=w.heap[j]?:=by
  intro j hj;rw[a0];show (w.heap.modify l (Sort.onCells _))[j]?=_;rw[Array.getElem?_modify,if_neg (fun e=>hj e.symm)]
 have b1:w1.heap.size=w.heap.size:=by
  rw[a0];show (w.heap.modify l (Sort.onCells _)).size=_;simp
 have st1:Stp G mu w G (mu.set b (.arr (J.map c))) w1:=by
  refine sW (hdr:=by rw[a0];exact Nat.le_add_right _ _) s b (.arr (o.map c)) _ l a6 _ hc zSp zSp hb b1 az b0 (by rw[a0];rfl) (by rw[a0];rfl) (by rw[a0];rfl) ?_;refine⟨_,el,rfl,by simp[Sort.putCells,h2],by rw[zT,a5];simp at h3;omega,fun t y hy=>?_⟩;have ht:t<m+1:=by
   have:=(ql.1 hy).1;rw[zT,a5]at this;exact this
  have bm:c o[(d'[t]' zOm).val]=y:=by
   rw[zz,qy zOm,a1 _ ht]at hy;simpa using hy
  subst bm;have bn:(Sort.putCells enc 0 d' arr).getD t z6=arr.getD (d'[t]' zOm).val z6:=by
   have bo:t<arr.size:=zOm;rw[qU,Sort.putCells,Array.getElem?_mapIdx,Qc bo];simp only[zh,Option.getD_some,yJ,Nat.sub_zero,Nat.zero_le,true_and];rw[if_pos (by rw[a3];exact ht),getElem!_pos d' t zOm,R]
  rw[bn];exact⟨a7 _,ab _ (p _)⟩
 have st2:=st1.trans s (Stp.grow st1.sim os);have bq:w'=Sort.grow w1 os:=by rw[ah,a0];rfl
 rw[<-bq]at st2;exact⟨G,_,st2,.inl ⟨_,_,⟨rfl,J,ai,bj,rfl⟩,rfl,.tup [] #[] rfl zSp⟩⟩
end YU
namespace YV
theorem qaS(x):qj qg 239 [aI x] (aB false):=by
 refine qSU call239 func239 rfl ?_;exact .zsc _
def cmpI(x y:Int):Int:=if x<y then -1 else if y<x then 1 else 0
theorem qmO(x y):qj qg 167 [aI x,aI y] (aI (cmpI x y)):=by
 refine qSU call167 func167 rfl ?_;refine fW (qaS x) (.zs .nil) ?_;refine fW (qaS y) (.zs .nil) ?_;unfold cmpI;by_cases g:x<y
 .simp [go_sem,g]
  exact .zsc _
 .by_cases i:y<x
  .simp [go_sem,g,i]
   exact .zsc _
  .simp [go_sem,g,i]
   exact .zsc _
def cmpL:List Int->List Int->Int
 | [],[]=>0
 | [],_ :: _ => -1
 |_ :: _,[]=>1
 |x :: a,y :: b=>if cmpI x y=0 then cmpL a b else cmpI x y
theorem US:∀ a b,cmpL a b<0↔a<b
 | [],[]=>by simp[cmpL]
 | [],_ :: _=>by simp[cmpL]
 |_ :: _,[]=>by simp[cmpL]
 |x :: a,y :: b=>by
  rw[List.cons_lt_cons_iff,<-US a b];simp only[cmpL,cmpI];by_cases g:x<y
  .simp [g]
  .by_cases i:y<x
   .have:x≠y:=by omega
    simp[g,i,this]
   .have:x=y:=by omega
    simp[this]
theorem qmP(a):cmpL a a=0:=by
 induction a with
 |nil=>rfl
 |cons x a g=>simp[cmpL,cmpI,g]
theorem qmQ(a b)(ha:a.length<=1000)(hb:b.length<=1000):qj qg 79 [lI a,lI b] (aI (cmpL a b)):=by
 refine qSU call79 func79 rfl ?_;generalize hC:cmpL a b=C;refine aP a.length (fun k U=>U.tm 0=lI a/\U.tm 1=lI b/\U.tm 9=lI a/\U.tm 10=aI a.length/\U.tm 11=aI k/\k<=b.length/\cmpL (a.drop k) (b.drop k)=C) ?_ ?_
 .exact ⟨zSi,zSi,zSi,zSi,zSi,zOm,zUs hC⟩
 .rintro k U hk ⟨o,p,t,j,l,a0,g⟩
  by_cases R:k=a.length
  .subst R
   rw[yf]at g;by_cases i:a.length<b.length
   .rw [ze i]at g
    simp only[cmpL]at g;subst g;simp[go_sem,o,p,t,j,l,i];exact .zsc _
   .rw [List.drop_of_length_le zOm]at g
    simp only[cmpL]at g;subst g;simp[go_sem,o,p,t,j,l,i];exact .zsc _
  .have i:k<a.length:=by omega
   have T:=zWk k;rw[ze i]at g;by_cases I:b.length<=k
   .rw [List.drop_of_length_le I]at g
    simp only[cmpL]at g;subst g;simp[go_sem,o,p,t,j,l,i,I];exact .zsc _
   .have J:k<b.length:=by omega
    rw[ze J]at g;simp only[cmpL]at g;simp[go_sem,o,p,t,j,l,i,I,J];refine t8 (qmO a[k] b[k]) (.zs (.zs .nil)) ?_;by_cases P:cmpI a[k] b[k]=0
    .rw [if_pos P]at g
     simp[go_sem,o,p,t,j,l,P,T];refine⟨i,aM ?_⟩;exact⟨zS1 o,zS1 p,zS1 t,zS1 j,zSi,zOm,g⟩
    .rw [if_neg P]at g
     subst g;simp[go_sem,o,p,t,j,l,P,T];exact .zsc _
def insL(x:List Int):List (List Int)->List (List Int)
 | []=>[x]
 |y :: l=>if y<x then y :: insL x l else x :: y :: l
def srt(l:List (List Int)):List (List Int):=l.foldr insL []
theorem Ki(x):∀ l,(insL x l).Perm (x :: l)
 | [] => .refl _
 |y :: l=>by
  simp only[insL];split
  .exact ((Ki x l).cons y).trans (.swap x y l)
  .exact .refl _
theorem qaT:∀ l,(srt l).Perm l
 | [] => .refl _
 |x :: l=>(Ki x (srt l)).trans ((qaT l).cons x)
theorem qaU(x):∀ l,l.Pairwise (·<=·)->(insL x l).Pairwise (·<=·)
 | [],_=>by simp[insL]
 |y :: l,h=>by
  rw[w7]at h;simp only[insL];split
  .rename_i g
   rw[w7];refine⟨fun z i=>?_,qaU x l h.2⟩;rcases qz.1 ((Ki x l).mem_iff.1 i) with rfl|i
   .exact List.le_of_lt g
   .exact h.1 z i
  .rename_i g
   have j:x<=y:=List.not_lt.1 g;rw[w7,w7];refine⟨fun z i=>?_,h⟩;rcases qz.1 i with rfl|i
   .exact j
   .exact List.le_trans j (h.1 z i)
theorem qaV:∀ l,(srt l).Pairwise (·<=·)
 | [] => .nil
 |x :: l=>qaU x (srt l) (qaV l)
theorem UB{l g}(i:g.Perm l)(j:g.Pairwise fun x y=>¬cmpL y x<0):g=srt l:=by
 refine List.Perm.eq_of_pairwise (le:=(·<=·)) (fun a b _ _ o p=>List.le_antisymm o p) (j.imp fun h=>?_) (qaV l) (i.trans (qaT l).symm);rw[US]at h;exact List.not_lt.1 h
end YV
namespace PG
open Y1 Y2 P1 P2 Y9
theorem qmR{ns op n pos l e}(h:zE ns op n pos l = .error e):40<=e.1:=by
 unfold zE at h
 repeat' split at h
 all_goals first
  | (cases h;done)
  | (cases h;simp)
theorem qmS{c s nm pos e}(h:yQ c s nm pos = .error e):40<=e.1:=by
 unfold yQ at h
 repeat' split at h
 all_goals first
  | (cases h;done)
  | (cases h;simp)
section
variable {c:Ck}
theorem Kj{inn}:∀{ks s e},(∀ k,k∈ks->∀ s e,exam c s inn k = .error e->40<=e.1)->zq c s inn ks = .error e->40<=e.1
 | [],s,e,_,h=>by simp only[zq]at h;cases h
 |k :: ks,s,e,i,h=>by
  simp only[zq]at h;split at h
  .rename_i j g
   cases h;exact i k (zo ..) s _ g
  .split at h
   .rename_i j g
    cases h;exact Kj (fun k l=>i k (q9 _ l)) g
   .cases h
theorem qaW{pos}:∀{ks ps s e},(∀ k,k∈ks->∀ s e,exam c s true k = .error e->40<=e.1)->yC c s pos ps ks = .error e->40<=e.1
 | [],ps,s,e,_,h=>by cases ps<;>(simp only[yC]at h;cases h)
 |k :: ks,[],s,e,_,h=>by simp only[yC]at h;cases h
 |k :: ks,p :: ps,s,e,g,h=>by
  simp only[yC]at h;split at h
  .rename_i l i
   cases h;exact g k (zo ..) s _ i
  .cases h;simp
  .split at h
   .split at h
    .exact qaW (fun k j=>g k (q9 _ j)) h
    .cases h;simp
   .cases h;simp
theorem qmT{inn nm pos}:∀{ks s e},(∀ k,k∈ks->∀ s e,exam c s inn k = .error e->40<=e.1)->jj c s inn nm pos ks = .error e->40<=e.1
 | [],s,e,_,h=>by simp only[jj]at h;cases h
 |k :: ks,s,e,i,h=>by
  simp only[jj]at h;split at h
  .rename_i j g
   cases h;exact i k (zo ..) s _ g
  .cases h;simp
  .split at h
   .split at h
    .rename_i j g
     cases h;exact Kj (fun k l=>i k (q9 _ l)) g
    .cases h
   .cases h;simp
theorem Qw(c):∀ m n s inn e,szN n<=m->exam c s inn n = .error e->40<=e.1
 | 0,n,_,_,_,j,_=>by obtain⟨op,nm,i,ks,p⟩:=n;simp[szN]at j
 |m+1,n,s,inn,e,j,h=>by
  have g:∀ inn k,k∈n.sD->∀ s e,exam c s inn k = .error e->40<=e.1:=fun inn k l s e h=>Qw c m k s inn e (zW1 (zl l)) h
  rw[vy]at h;split at h
  .cases h;simp
  split at h
  .exact qmS h
  split at h
  .split at h
   .split at h
    .cases h;simp
    .split at h
     .cases h;simp
     .split at h
      .exact qaW (g true) h
      .cases h;simp
   .cases h;simp
  split at h
  .exact qmT (g _) h
  .split at h
   .rename_i t o
    cases h;exact Kj (g _) o
   .exact qmR h
end
end PG
namespace YW
open YM YF P1 P2 Y1 Y2 Y3 Y5 Y6 Y7 Y9 Y10 Y11 Y13 Y14 YU YV
section
variable {av:AV}{mu:Mu}
theorem cY{ns k}(h:okKd ns k)(I:ns<=4):k.ts.length<=64:=by
 have o:∀ t,t∈k.ts->t∈([0,1,2,3]:List Int).flatMap fun a=>([0,1,2,3]:List Int).flatMap fun b=>([0,1,2,3]:List Int).map fun c=>[a,b,c]:=fun t J=>by
  obtain⟨l,rfl,j,i⟩:=h.ts t J;have P:=h.ar.2;have g:∀ x:Int,0<=x->x<ns->x∈([0,1,2,3]:List Int):=fun x p C=>zSo
  match l,j,i with
  | [],j,i=>simp[pad]
  | [a],j,i =>
   have:=g a (i a zSp).1 (i a zSp).2;simp only[vY,qp];exact⟨a,this,0,zSp,0,zSp,by simp[pad]⟩
  | [a,b],j,i =>
   have p:=g a (i a zSp).1 (i a zSp).2;have C:=g b (i b zSp).1 (i b zSp).2;simp only[vY,qp];exact⟨a,p,b,C,0,zSp,by simp[pad]⟩
  | [a,b,c],j,i =>
   have p:=g a (i a zSp).1 (i a zSp).2;have C:=g b (i b zSp).1 (i b zSp).2;have R:=g c (i c zSp).1 (i c zSp).2;simp only[vY,qp];exact⟨a,p,b,C,c,R,by simp[pad]⟩
  |_ :: _ :: _ :: _ :: _,j,i=>simp at j;omega
 have:=List.Nodup.length_le_of_subset h.nd o;simpa using this
theorem cH{ns k}(h:okKd ns k)(o:ns<=4){t:Tp}(p:t∈k.ts):∀ x,x∈t->0<=x/\x<128:=fun x j=>by
 obtain⟨l,rfl,i,g⟩:=h.ts t p;have C:=h.ar.2
 match l,i,g with
 | [],i,g=>simp[pad]at j;omega
 | [a],i,g =>
  have:=g a zSp;simp[pad]at j;omega
 | [a,b],i,g =>
  have:=g a zSp;have:=g b zSp;simp[pad]at j;omega
 | [a,b,c],i,g =>
  have:=g a zSp;have:=g b zSp;have:=g c zSp;simp[pad]at j;omega
 |_ :: _ :: _ :: _ :: _,i,g=>simp at i;omega
theorem qmU{n}(i:WfN n)(h:¬ 20<=n.op):kd n.op=101:=by
 have g:=i.shape;refine qkI ?_;unfold shp at g
 repeat' split at g
 all_goals first|omega|exact absurd g zSp
theorem Qw(c):∀ m n s inn e,szN n<=m->exam c s inn n = .error e->e.1≠0:=fun m n s inn e g i=>by
 have:=PG.Qw c m n s inn e g i;omega
theorem qmV(ts)(h:okTS ts)(I:∀ p,p∈ts.sT->WfN p.body)(n)(J:WfN n)(env)(i:Qs ts.sS.length env){mu b}(C:mu[b]?=some (.arr (cKo none))) :
  qC qg 75 [.ip (cTS ts),.ip [lPm env],.ip (cNd n),.ptr b 0] mu fun e m=>match exam (mkCk ts ts.sT.length) (zO env) false n with
   | .ok j=>e = .ret (.tup [])/\m=mu.set b (.arr (cKo j))
   | .error d=>e = .pan (vM d.1 d.2)/\m=mu:=by
 refine qSW call75 func75 rfl {} ?_;have l:=uD h (qn ts.sT.length);have o:=Kg (mkCk ts ts.sT.length) l (szN n) n (qn _) J (zO env) (Vh i) false;generalize T:exam (mkCk ts ts.sT.length) (zO env) false n=E at o;have P:b<mu.length:=(ql.1 C).1;simp[go_sem];refine qk.tail 8 zKr ?_;simp[go_sem];refine fW (mq ts h (fun p R=>(I p R).small) _ (qn _)) (.zk (zB ts) (.zs .nil)) ?_;refine fW (mr _ h.ns env i.len i.r) (.zk (j5 env) .nil) ?_;have g:WKs [eCk (mkCk ts ts.sT.length),aSc (zO env),eNd n,aB false] [eCk (mkCk ts ts.sT.length),aSc (zO env),eNd n,aB false] := .zk (jr _) (.zk (wI _) (.zk (qE n) (.zs .nil)));cases E with
 |error d =>
  refine aC o g ?_;simp[go_sem]
 |ok j =>
  refine t8 o.toP g ?_;have t:mu[b]?=some (.arr [aI 0,.sc (.map none)]):=C;cases j<;>simp[go_sem,t,cKo]
def rowT(k:Kd)(t:Tp):List Int:=t.take k.ar.toNat
def Kk(k:Kd):List (List Int):=srt (k.ts.map (rowT k))
def uY(ts:TS)(env:List (dC×Int))(n:Nd):List (List Int)×Int:=
 if 20<=n.op then ([],43) else
 match exam (mkCk ts ts.sT.length) (zO env) false n with
 | .error d=>([],d.1)
 | .ok (some k)=>(Kk k,0)
 | .ok none=>([],0)
theorem qaX(mu e):Rd mu (.tup [.lst true [],aI e]) (.tup [lL [],aI e]) := .tup _ _ rfl fun k x y g i=>by
 match k,g,i with
 | 0,g,i=>simp at g i;subst g;subst i;exact .wk _ true _ (.hf _ (HF.lst fun r j=>absurd j qO))
 | 1,g,i=>simp at g i;subst g;subst i;exact .zsc _
 |k+2,g,i=>simp at g
theorem qmW{P x'}(g){lo mu}{t j e sz bt:Nat}{s x xs ys zv K}(hs:qF P t=some (e,sz,bt))(p:(qF P j).isSome=true)(hz:qB P e=some zv)
  (C:zv.cells.length=sz) (I:zv.cells.all AV.one=true) (J:sz≠0) (hb:bt<=16384) (R:Rd (cutM g mu 0) x x') (T:OwnF lo (cutM (fun i=>!g i) mu 0) sz s xs) (hx:qA (cutM (fun i=>!g i) mu 0) x'=some ys) (wx:qV sz xs) (wy:qV sz ys) (hl:xs.length+ys.length<=4294967296) (U:ys≠[])
  (k:∀ b mu',OwnF lo mu' sz (.sl b sz 0 (xs++ys).length) (xs++ys)->(∀ i,i<lo->mu'[i]?=(cutM (fun i=>!g i) mu 0)[i]?)->K (.sl b sz 0 (xs++ys).length) mu'):qx P mu #[t,j] s x K:=by
 refine .inr (.inl ⟨g,x',R,?_⟩);generalize cutM (fun i=>!g i) mu 0=mu at *
 obtain⟨T,a0,a2⟩:=T;refine⟨t,j,e,sz,bt,ys,rfl,hs,p,⟨zv,hz,C,I⟩,J,hb,hx,wy,?_⟩;rcases T with rfl|⟨b,rfl,hc⟩
 .refine .inl ⟨xs,rfl,wx,hl,fun h=>absurd h U,fun h=>?_⟩
  rw[<-zj];refine k _ _ ⟨.inr ⟨mu.length,rfl,zSp⟩,fun b s o l e=>?_,zSo⟩ (fun i hi=>?_)
  .injection e;omega
  .rw [zGa]
 .have a3:=yK wx.ok
  have a4:=a0 _ _ _ _ rfl;refine .inr ⟨b,xs.length,xs.flatten,rfl,hc,zOm,hl,?_⟩;have a1:xs.flatten.take (xs.length*sz)=xs.flatten:=zU zOm;rw[<-zj];refine k _ _ ⟨.inr ⟨mu.length,rfl,?_⟩,fun b s o l e=>?_,zSo⟩ (fun i hi=>?_)
  .rw [a1,zZ zSp];simp
  .injection e;omega
  .rw [qL zSo]
   rw[zGl]
theorem qmX{x y}(h:Rd mu x y):Rd mu (.lst true [[x]]) (.lst true [[y]]):=by
 refine .lst true _ _ rfl (fun k a b g i=>?_) (fun k a b g i=>?_)
 .cases k with
  |zero=>simp at g i;subst g;subst i;rfl
  |succ k=>simp at g
 .cases k with
  |zero=>simp at g i;subst g;subst i;exact h
  |succ k=>simp at g
theorem qaY(f:Nat->List Int)(l:List Nat):qV 1 (l.map fun i=>rL (f i)):=fun r g=>by
 obtain⟨i,_,rfl⟩:=qp.1 g;exact⟨rfl,rfl⟩
theorem qmY{x}(h:Rd mu av x)(e):Rd mu (.tup [av,aI e]) (.tup [x,aI e]) := .tup _ _ rfl fun k x y g i=>by
 match k,g,i with
 | 0,g,i=>simp at g i;subst g;subst i;exact h
 | 1,g,i=>simp at g i;subst g;subst i;exact .zsc _
 |k+2,g,i=>simp at g
theorem qmZ{C t:Type}{l:List C}{d}(f:C->t){seen:List Nat}(j:seen.Nodup)(o:∀ i,i∈seen->i<l.length)(g:∀ i,i<l.length->i∈seen):(seen.map fun i=>f (l.getD i d)).Perm (l.map f):=by
 have I:seen.Perm (qu l.length):=by
  rw[List.perm_ext_iff_of_nodup j List.nodup_range];exact fun i=>⟨fun h=>zW.2 (o i h),fun h=>g i (zW.1 h)⟩
 have J:=I.map fun i=>f (l.getD i d)
 have P:((qu l.length).map fun i=>f (l.getD i d))=l.map f:=by
  apply vg;intro i;by_cases p:i<l.length
  .simp [p]
  .simp [p]
 rwa[P]at J
theorem qm0{g}(h:∀ G (i) v,VRel G i av v->∃ p cap,v = .slice p 0 cap):qC qg 78 [av,g] mu fun e mu'=>e = .ret (.tup [])/\mu'=mu:=by
 refine⟨call78,fun G w t s j=>?_⟩;obtain⟨u,l,rfl,o,C⟩:=j.two_inv;obtain⟨p,cap,rfl⟩:=h _ _ _ o;refine(AnyF.slices_SortFunc_none (P:=qg) (ρ:=Tryz.laysSF1_ren) { Tryz.laysSF1 with } p cap l w).mono ?_;rintro e J ⟨rfl,rfl⟩;exact⟨G,mu,Stp.ahead s 0,.inl ⟨_,_,⟨rfl,rfl⟩,rfl,.tup [] #[] rfl zSp⟩⟩
theorem qm1{L}(o:Own mu 1 av (L.map rL))(hn:∀ zs,av = .lst true zs->zs=[])(hl:L.length<=64)(R:∀ x,x∈L->x.length<=3) :
  qC qg 78 [av,.fn (.func 79) [] []] mu fun e mu'=>e = .ret (.tup [])/\∃ t,t.Perm L/\t.Pairwise (fun x y=>¬cmpL y x<0)/\Rd mu' av (lL t):=by
 have C:∀{mu:Mu}{b:Nat}{l:List (List Int)},mu[b]?=some (.arr (l.map lI))->Rd mu (.sl b 1 0 l.length) (lL l):=fun {mu b l} h=>by
  have o:Own mu 1 (.sl b 1 0 l.length) (l.map rL) := .inr ⟨b,zSp,by
   rw[h];congr 2;clear h;induction l with
   |nil=>rfl
   |cons a l T=>simp[T]⟩
  exact o.rd (qi0 _).ok fun r P c i=>by
   obtain⟨q,_,rfl⟩:=qp.1 P;rw[qX]at i;subst i;exact zy q
 by_cases j:L=[]
 .subst j
  refine qC.monoR (qm0 (mu:=mu) (av:=av) ?_) ?_
  .intro G U v r
   rcases o with rfl|⟨b,rfl,i⟩
   .cases r with
    |nil=>exact⟨_,_,rfl⟩
    |emp _ a cap i=>exact⟨_,_,rfl⟩
    |lst _ _ sz a cap cs e fr rd hb hs hl i hi hz P hv=>exact⟨_,_,rfl⟩
   .cases r with
    |sl _ _ _ _ I a2 cap hb ht a3=>exact⟨_,_,rfl⟩
  .rintro e m ⟨rfl,rfl⟩
   refine⟨rfl,[],.refl _,.nil,?_⟩;rcases o with rfl|⟨b,rfl,i⟩
   .exact .wk _ true _ (.hf _ (HF.lst fun r P=>absurd P qO))
   .exact C (l:=[]) i
 rcases o with o|⟨b,rfl,i⟩
 .have hz:=hn _ o
  exact absurd (zUs hz) j
 .have a0:(L.map rL).flatten=L.map lI:=by
   clear i hn hl R j;induction L with
   |nil=>rfl
   |cons a l T=>simp[T]
  rw[a0]at i;rw[zT];obtain⟨m,hm⟩:∃ m,L.length=m+1:=⟨L.length-1,by
   have:L.length≠0:=fun h=>j (List.eq_nil_of_length_eq_zero h)
   omega⟩
  refine qC.monoR (qmN (g:=79) call78 lI (fun _=>rfl) cmpL zy m L hm zOm (fun x y p J=>qmQ x y (zW1 (R x p)) (zW1 (R y J))) (fun x _=>by rw[qmP];omega) (fun x y z _ _ _ p J=>?_) (fun x y z _ _ _ p J=>?_) ?_ i) ?_
  .rw [US]at *;exact List.lt_trans p J
  .rw [US]at *;exact List.not_lt.2 (List.le_trans (List.not_lt.1 J) (List.not_lt.1 p))
  .intro a1 p cf hO cb I off cap d w h3 h4 h5 h6
   exact Any.slices_SortFunc Tryz.laysSF1 a1 p cf hO 79 cb I off cap d w call79 h3 h4 h5 h6
  .rintro e m' ⟨rfl,t,U,hs,rfl⟩
   refine⟨rfl,t,U,hs,?_⟩;rw[<-U.length_eq];exact C (qJ (ql.1 i).1)
theorem qaZ(ts)(h:okTS ts)(hp:∀ p,p∈ts.sT->WfN p.body)(n)(hw:WfN n)(env)(he:Qs ts.sS.length env):qj qg 36 [eTS ts,lPm env,eNd n] (.tup [lL (uY ts env n).1,aI (uY ts env n).2]):=by
 refine qSV call36 func36 rfl ?_;by_cases a0:20<=n.op
 .simp [go_sem,a0,uY]
  exact qaX [] 43
 .simp [go_sem,a0]
  have b1:WKs [.ip (cTS ts),.ip [lPm env],.ip (cNd n)] [.ip (cTS ts),.ip [lPm env],.ip (cNd n)] := .zk (HF.ip (J5 ts)) (.zk (HF.ip (by simp;exact j5 env)) (.zk (HF.ip (jQ n)) .nil));have h1:=qmV ts h hp n hw env he (mu:=[.arr (cKo none)]++[.dead]) (b:=0) rfl;have ae:=jH (uD h (qn ts.sT.length)) (szN n) n (zO env) false;refine aA (nC (mu:=[.arr (cKo none)]) h1 ?_) ?_ ?_
  .intro v m C
   split at C
   .exact absurd C.1 zSp
   .cases C.1;exact⟨_,_,rfl⟩
  .rintro r m ⟨m',x,⟨l,rfl⟩,⟨r',C,hr⟩|⟨er,p,C,hr⟩⟩
   .cases hr
    split at C
    .rename_i ko hE
     obtain⟨_,rfl⟩:=C;have af:kd n.op=101:=qmU hw a0;obtain⟨k,rfl,hk⟩:=ae ko (qn _) hw (Vh he) hE af;have a2:uY ts env n=(Kk k,0):=by
      unfold uY;rw[if_neg a0,hE]
     rw[a2];simp[go_sem];refine qm.seen k.ts.length (fun seen U=>U.tm 8 = .ptr 0 0/\U.tm 27 = .ptr (l.length+3) 0/\U.mu[0]?=some (.arr (cKd k))/\U.mu[l.length+3]?=some (.it (eT k.ts) seen) /\
      OwnF (l.length+4) U.mu 1 (U.tm 10) (seen.map fun i=>rL (rowT k (k.ts.getD i [])))/\∀ zs,U.tm 10 = .lst true zs->zs=[]) ?_ ?_
     .refine ⟨zSi,zSi,zSi,zSi,?_,fun zs e=>?_⟩
      .simp [go_sem]
       exact OwnF.nil zSp
      .simp [go_sem]at e
       exact e
     .rintro seen U a7 g ⟨e8,a1,m0,mi,ho,ag⟩
      have a3:l.length+3<U.mu.length:=(ql.1 mi).1;have b2:seen.length<=k.ts.length:=Uu _ _ a7 g;have b3:=cY hk h.ns;simp[go_sem,e8,a1];refine⟨l.length+3,eT k.ts,seen,rfl,mi,fun i e I a8=>?_,fun a4=>?_⟩
      .obtain ⟨t,ht,rfl⟩:=Zj I
       have ah:=hk.okK.len t (q8 ht);have ai:i<k.ts.length:=(ql.1 ht).1;have a9:∀(c:Cell)(lc:List Cell),((U.mu.set (l.length+3) c)++lc)[0]?=some (.arr (cKd k)):=fun c lc=>by
        rw[qL zSo,zGl];exact m0
       obtain⟨J,x1,x2,rfl⟩:∃ J x1 x2,t=[J,x1,x2]:=by
        match t,ah with
        | [J,x1,x2],_=>exact⟨_,_,_,rfl⟩
       have hq:∀(c c2:Cell),((U.mu.set (l.length+3) c)++[c2])[U.mu.length]?=some c2:=fun c c2=>by
        rw[zZ zSp];simp
       simp[go_sem,-getElem?_pos,hq,List.getElem?_cons_zero,vW,e8,a1,I,a3,a8,mi,a9];have b4:=hk.ar;obtain⟨a,ha⟩:∃ a:Nat,k.ar=a:=⟨k.ar.toNat,zOm⟩;have b5:a<=3:=zOm;rw[ha,if_pos zOm];simp[go_sem];generalize hM:U.mu.set (l.length+3) (Cell.it (eT k.ts) (seen++[i]))++[Cell.arr [AV.sc (Value.int IntKind.i8 J),AV.sc (Value.int IntKind.i8 x1),AV.sc (Value.int IntKind.i8 x2)]]=M at *
       have b6:M.length=U.mu.length+1:=by rw[<-hM];simp
       have aj:M[U.mu.length]?=some (.arr [AV.sc (Value.int IntKind.i8 J),AV.sc (Value.int IntKind.i8 x1),AV.sc (Value.int IntKind.i8 x2)]):=by rw[<-hM];exact hq _ _
       refine aP a (fun j s=>s.tm 8 = .ptr 0 0/\s.tm 27 = .ptr (l.length+3) 0/\s.tm 10=U.tm 10/\s.tm 34 = .sl U.mu.length 0 0 a/\s.tm 35=aI a/\s.tm 36=aI j/\(∀ i,i<M.length->s.mu[i]?=M[i]?)/\OwnF M.length s.mu 1 (s.tm 12) (([J,x1,x2].take j).map rI)) ?_ ?_
       .refine ⟨zS1 e8,zS1 a1,zSi,zSi,zSi,zSi,zSi,?_⟩
        simp[go_sem];exact OwnF.nil (qn _)
       .rintro j s hj ⟨f8,f27,f10,f34,f35,f36,fm,fo⟩
        have fq:s.mu[U.mu.length]?=some (.arr [AV.sc (Value.int IntKind.i8 J),AV.sc (Value.int IntKind.i8 x1),AV.sc (Value.int IntKind.i8 x2)]):=by rw[fm _ zOm];exact aj
        by_cases ak:j=a
        .subst ak
         have g1:=fo.cells;have g2:=fo.one;simp[go_sem,f8,f27,f10,f34,f35,f36,g1,g2];have aa:(([J,x1,x2]:List Int).take j)=rowT k (k.ts.getD i []):=by
          rw[zH,ht];simp[rowT,ha]
         rw[aa]at fo;have P:∀ i,i<M.length->(cutM (fun i=>!decide (M.length<=i)) s.mu 0)[i]?=M[i]?:=fun i I=>by
          rw[jA,<-fm i I];simp only[yJ,show ¬M.length<=i by omega,decide_false,Bool.not_false,if_true];cases s.mu[i]?<;>rfl
         have al:OwnF (l.length+4) (cutM (fun i=>!decide (M.length<=i)) s.mu 0) 1 (U.tm 10) (seen.map fun i=>rL (rowT k (k.ts.getD i []))):=by
          obtain⟨o1,o2,o3⟩:=ho;refine⟨?_,o2,by rw[uN];have:=fo.2.2;omega⟩;rcases o1 with o1|⟨b,o1,hc⟩
          .exact .inl o1
          .have b7:=o2 _ _ _ _ o1
           have an:=(ql.1 hc).1;refine .inr ⟨b,o1,?_⟩;rw[P b zOm,<-hM,qL (zUs an),zGl];exact hc
         have ao:Rd (cutM (fun i=>decide (M.length<=i)) s.mu 0) (s.tm 12) (lI (rowT k (k.ts.getD i []))):=Kf fo (jD _).ok fun r hr c hc=>by
          obtain⟨q,_,rfl⟩:=qp.1 hr;rw[qX]at hc;subst hc;exact HF.sc _
         refine qmW (x' := .lst true [[lI (rowT k (k.ts.getD i []))]]) (fun i=>decide (M.length<=i)) (lo:=l.length+4) (e:=28) (sz:=1) (bt:=24) (zv := .lst true []) (xs:=seen.map fun i=>rL (rowT k (k.ts.getD i []))) (ys:=[rL (rowT k (k.ts.getD i []))]) zSi zSi zSi rfl rfl zOm zOm (qmX ao) al (by simp[qA]) (qaY _ _) (qaY (fun i=>rowT k (k.ts.getD i [])) [i]) zSo zSp ?_;intro av R T o;simp[go_sem,f8,f27,f10,f34,f35,f36];refine⟨i,ai,a8,aM ?_⟩;refine⟨zS1 f8,zS1 f27,?_,?_,?_,fun zs e=>by simp[go_sem]at e⟩
         .simp only[qK]
          rw[o 0 zOm,P 0 zOm,<-hM];exact a9 _ _
         .simp only[qK]
          rw[o _ zOm,P _ zOm,<-hM,qL (zUs a3),qJ a3]
         .rw [zi]
          simpa[go_sem] using T
        .have g:j<a:=by omega
         have w1:=zWk j;have aq:j=0\/j=1\/j=2:=zOm;have z1:qo.wrap 1=1:=rfl;have z2:qo.wrap 2=2:=rfl;have z3:qo.wrap 3=3:=rfl;have a5:∀ x,x∈[J,x1,x2]->0<=x/\x<128:=cH hk h.ns (q8 ht);have v0:=a5 J zSp;have v1:=a5 x1 zSp;have v2:=a5 x2 zSp;have u0:qo.wrap J=J:=zWr;have u1:qo.wrap x1=x1:=zWr;have u2:qo.wrap x2=x2:=zWr;rcases aq with rfl|rfl|rfl
         .have c:(0:Int)<a:=by omega
          simp[go_sem,f8,f27,f10,f34,f35,f36,g,fq,w1,u0,u1,u2,c];refine qx.ints (lo:=M.length) (e:=3) (bt:=8) (z:=0) (xs:=[]) (ys:=[J]) zSi zSi zSi zOm (zUs fo) (by simp[qA]) zSp ?_;intro av R T o;simp[go_sem,f8,f27,f10,f34,f35,f36,z1,z2,z3];refine⟨g,aM ?_⟩;exact⟨zS1 f8,zS1 f27,by simp[go_sem,f10],by simp[go_sem,f34],zS1 f35,zSi,fun i I=>by simp only[qK];rw[o i I];exact fm i I,zVs T⟩
         .have c:(1:Int)<a:=by omega
          simp[go_sem,f8,f27,f10,f34,f35,f36,g,fq,w1,u0,u1,u2,c];refine qx.ints (lo:=M.length) (e:=3) (bt:=8) (z:=0) (xs:=[J]) (ys:=[x1]) zSi zSi zSi zOm (zUs fo) (by simp[qA]) zSp ?_;intro av R T o;simp[go_sem,f8,f27,f10,f34,f35,f36,z1,z2,z3];refine⟨g,aM ?_⟩;exact⟨zS1 f8,zS1 f27,by simp[go_sem,f10],by simp[go_sem,f34],zS1 f35,zSi,fun i I=>by simp only[qK];rw[o i I];exact fm i I,zVs T⟩
         .have c:(2:Int)<a:=by omega
          simp[go_sem,f8,f27,f10,f34,f35,f36,g,fq,w1,u0,u1,u2,c];refine qx.ints (lo:=M.length) (e:=3) (bt:=8) (z:=0) (xs:=[J,x1]) (ys:=[x2]) zSi zSi zSi zOm (zUs fo) (by simp[qA]) zSp ?_;intro av R T o;simp[go_sem,f8,f27,f10,f34,f35,f36,z1,z2,z3];refine⟨g,aM ?_⟩;exact⟨zS1 f8,zS1 f27,by simp[go_sem,f10],by simp[go_sem,f34],zS1 f35,zSi,fun i I=>by simp only[qK];rw[o i I];exact fm i I,zVs T⟩
      .simp [go_sem,e8,a1]
       have a6:(seen.map fun i=>rowT k (k.ts.getD i [])).Perm (k.ts.map (rowT k)):=qmZ (rowT k) a7 g fun i I=>a4 i (zUs I)
       have ab:∀ x,x∈(seen.map fun i=>rowT k (k.ts.getD i []))->x.length<=3:=fun x hx=>by
        obtain⟨i,_,rfl⟩:=qp.1 hx;have:=hk.ar;simp only[rowT,ub];omega
       generalize hL:(seen.map fun i=>rowT k (k.ts.getD i []))=L at *
       have au:OwnF (l.length+4) U.mu 1 (U.tm 10) (L.map rL):=by
        rw[<-hL,List.map_map];exact ho
       have aw:L.length<=64:=by rw[<-hL,zT];omega
       refine aA (qm1 au.1 ag aw ab) ?_ ?_
       .rintro r m ⟨e,L',ax,ay,ad⟩
        cases e;have az:L'=Kk k:=UB (ax.trans a6) ay;rw[az]at ad;simp[go_sem];exact qmY ad 0
       .rintro r m ⟨e,_⟩;cases e
    .exact absurd C.1 zSp
   .cases hr
    split at C
    .exact absurd C.1 zSp
    .rename_i d hE
     obtain⟨C,rfl⟩:=C;cases C;have b0:d.1≠0:=Qw _ (szN n) n _ _ _ (qn _) hE;have a2:uY ts env n=([],d.1):=by
      unfold uY;rw[if_neg a0,hE]
     rw[a2];simp[go_sem,b0];refine fD ?_;exact qaX _ _
  .rintro r m ⟨m',x,⟨l,rfl⟩,⟨r',C,hr⟩|⟨er,p,C,hr⟩⟩<;>cases hr
end
end YW
namespace YX
open YF P1 Y1
structure IV where
 arg:Option Nd
 size:Int
 name:dC
abbrev IEnv:=List (dC×IV)
structure ISt where
 last:Int
 sM:Int
abbrev cIn(ts:TS)(tb:Nat)(s:ISt):List AV:=cTS ts++[.mp tb,aI s.last,aI s.sM]
def nd0:Nd := .mk 0 ⟨#[]⟩ 0 [] 0
abbrev eN0:AV := .agg [aI 0,aS ⟨#[]⟩,aI 0,.lst true [],aI 0]
def payS(n:Int)(s:ISt):ISt:=⟨s.last,s.sM+n⟩
def Z6(env:IEnv)(n:Nd)(s:ISt):Except Dg ((Nd×Int)×ISt):=
 match getK n.name env with
 |none => .ok ((n,1),s)
 |some v=>match v.arg with
  |none => .ok ((.mk n.op v.name n.n n.sD n.pos,1),s)
  |some a=>if s.sM+v.size<=4000 then .ok ((a,v.size),payS v.size s) else .error (2,0)
end YX
namespace Q1
open P2 Y1 Y2 Y6
abbrev aU(x:Int):AV := .sc (.int .u8 x)
theorem qa0(op):qj qg 8 [aI op] (aU (kd op)):=by
 refine qSU call8 func8 rfl ?_;unfold kd;by_cases g:1<=op<;>by_cases i:op<=15<;>by_cases j:20<=op<;>by_cases l:op<=23<;>by_cases o:30<=op<;>by_cases p:op<=51<;>first|omega | (simp[go_sem,g,i,j,l,o,p];exact .zsc _)
def kwL:List dC:=[⟨#[115,111,114,116]⟩,⟨#[111,114,100,101,114,101,100]⟩,⟨#[118,97,114]⟩,⟨#[102,105,101,108,100]⟩,⟨#[112,114,101,100]⟩,⟨#[102,97,99,116]⟩,⟨#[97,108,108]⟩,⟨#[115,111,109,101]⟩,⟨#[110,111]⟩,⟨#[111,110,101]⟩,⟨#[108,111,110,101]⟩,⟨#[97,108,119,97,121,115]⟩,⟨#[101,118,101,110,116,117,97,108,108,121]⟩,⟨#[97,102,116,101,114]⟩,⟨#[117,110,116,105,108]⟩,⟨#[110,111,110,101]⟩,⟨#[117,110,105,118]⟩,⟨#[105,100,101,110]⟩,⟨#[105,110]⟩,⟨#[110,111,116]⟩,⟨#[116,114,117,101]⟩,⟨#[102,97,108,115,101]⟩]
def kwB(s:dC):Bool:=kwL.any fun x=>decide (x=s)
theorem qm2(s):qj qg 279 [aS s] (aB (kwB s)):=by
 refine qSU call279 func279 rfl ?_;have g:kwL.length=22:=rfl;refine aP 22 (fun k U=>U.tm 0=aS s/\U.tm 3 = .lst true (kwL.map fun s=>[aS s])/\U.tm 4=aI k/\U.mu=[]/\∀ j x,j<k->kwL[j]?=some x->x≠s) ?_ ?_
 .refine ⟨zSi,?_,zSi,zSi,fun j x t=>absurd t zOm⟩
  simp[go_sem,kwL]
 .rintro k U hk ⟨J,I,P,R,hI⟩
  unfold kwB;generalize hK:kwL=K at *
  by_cases T:k=22
  .subst T
   have a0:(K.any fun x=>decide (x=s))=false:=by
    rw[List.any_eq_false];intro x p;obtain⟨j,t⟩:=List.mem_iff_getElem?.1 p;simpa using hI j x (by have:=(ql.1 t).1;omega) t
   rw[a0];simp[go_sem,I,P,R,g];exact .zsc _
  .have C:k<K.length:=by omega
   have i:k<22:=zOm;have l:(k:Int)<22:=zOm;have w1:=zWk k;by_cases p:K[k]=s
   .have a1:(K.any fun x=>decide (x=s))=true:=List.any_eq_true.2 ⟨K[k],qv C,zUs p⟩
    rw[a1];simp[go_sem,J,I,P,R,g,i,l,p];exact .zsc _
   .simp [go_sem,J,I,P,R,g,i,l,j0 p,w1]
    try refine⟨i,aM ?_⟩
    try refine aM ?_
    refine⟨zS1 J,zS1 I,zSi,zSi,fun j x t o=>?_⟩;by_cases a2:j=k
    .subst a2
     rw[qy C]at o;cases o;exact p
    .exact hI j x zOm o
def bys(l:List Int):dC:=⟨(l.map fun x=>UInt8.ofNat x.toNat).toArray⟩
theorem qm3(l x):bys (l++[x])=bys l++⟨#[UInt8.ofNat x.toNat]⟩:=by
 apply ByteArray.ext;simp[bys]
theorem qa1(l):(bys l).size=l.length:=by simp[bys,ByteArray.size]
def shpV(op:Int)(nk:Nat):AV:=match shp op nk with
 |some l => .tup [aS (bys l),aB true]
 |none => .tup [aS ⟨#[]⟩,aB false]
theorem UT(mu a b):Rd mu (.tup [aS a,aB b]) (.tup [aS a,aB b]) := .hf _ (HF.tup fun c g=>by simp at g;rcases g with rfl|rfl<;>exact HF.sc _)
theorem qm4(nk:Nat)(J:nk<=100000):qj qg 253 [aI 47,aI nk] (shpV 47 nk):=by
 refine qSU call253 func253 rfl ?_;refine aP (min nk 401) (fun k U=>U.tm 1=aI nk/\U.tm 6=aS (bys (qM k 101))/\U.tm 7=aI k) ?_ ?_
 .exact ⟨zSi,by simp[go_sem,bys],zSi⟩
 .rintro k U hk ⟨i,j,e7⟩
  by_cases l:k=min nk 401
  .have P:shpV 47 nk = .tup [aS (bys (qM k 101)),aB true]:=by
    rw[l];rfl
   rw[P];by_cases h1:nk<=k
   .have o:¬k<nk:=by omega
    simp[go_sem,i,j,e7,o];exact UT _ _ _
   .have R:k=401:=by omega
    subst R;have h3:401<nk:=zOm;have T:(401:Int)<nk:=zOm;simp[go_sem,i,j,e7,T];exact UT _ _ _
  .have p:k<nk:=by omega
   have I:k<401:=zOm;have g:(k:Int)<401:=zOm;have w1:=zWk k;have t:(bys (qM k 101)).size+1<=9223372036854775807:=by rw[qa1,List.length_replicate];omega
   have C:bys (qM k 101)++⟨#[101]⟩=bys (qM (k+1) 101):=by
    rw[List.replicate_succ',qm3];rfl
   generalize bys (qM k 101)=B at *
   simp[go_sem,i,j,e7,p,g,t,w1];refine⟨zOm,aM ?_⟩;exact⟨zS1 i,zS1 C,zSi⟩
theorem qm5(op)(nk:Nat)(g:nk<=100000):qj qg 253 [aI op,aI nk] (shpV op nk):=by
 by_cases h47:op=47
 .subst h47;exact qm4 nk g
 by_cases o:1<=op/\op<=51
 .have j:op=1\/op=2\/op=3\/op=4\/op=5\/op=6\/op=7\/op=8\/op=9\/op=10\/op=11\/op=12\/op=13\/op=14\/op=15\/op=16\/op=17\/op=18\/op=19\/op=20\/op=21\/op=22\/op=23\/op=24\/op=25\/op=26\/op=27\/op=28\/op=29\/op=30\/op=31\/op=32\/op=33\/op=34\/op=35\/op=36\/op=37\/op=38\/op=39\/op=40\/op=41\/op=42\/op=43\/op=44\/op=45\/op=46\/op=48\/op=49\/op=50\/op=51:=by omega
  rcases j with rfl|rfl|rfl|rfl|rfl|rfl|rfl|rfl|rfl|rfl|rfl|rfl|rfl|rfl|rfl|rfl|rfl|rfl|rfl|rfl|rfl|rfl|rfl|rfl|rfl|rfl|rfl|rfl|rfl|rfl|rfl|rfl|rfl|rfl|rfl|rfl|rfl|rfl|rfl|rfl|rfl|rfl|rfl|rfl|rfl|rfl|rfl|rfl|rfl|rfl
  all_goals
   refine qSV call253 func253 rfl ?_;simp[go_sem,shpV,shp];exact UT _ _ _
 .have i:∀ c:Int,1<=c->c<=51->(op=c)=False:=fun c p t=>eq_false zOm
  have l:shp op nk=none:=by
   unfold shp
   repeat rw[zIn]
  rw[shpV,l];refine qSV call253 func253 rfl ?_;simp[go_sem,i];exact UT _ _ _
end Q1
namespace Q2
open P2 Y1 Q1
def fitB(op:Int)(ks:List Nd):Bool:=decide (shp op ks.length=some (ks.map fun k=>kd k.op))
theorem qm6(l)(g:∀ x,x∈l->0<=x/\x<256)(i h)(j:i<(bys l).data.size):(((bys l).data[i]).toNat:Int)=l[i]:=by
 have o:=g l[i] (qv h);simp only[bys,List.getElem_toArray,Yd,UInt8.toNat_ofNat'];omega
theorem qm7{op nk l}(h:shp op nk=some l):∀ x,x∈l->0<=x/\x<256:=by
 unfold shp at h
 repeat' split at h
 all_goals first
  | (cases h;done)
  | (cases h;intro x g;cases g;done)
  | (cases h;intro x g;rw[List.mem_replicate]at g;omega)
  | (cases h;intro x g;simp at g;omega)
theorem Kl(op ks)(hk:ks.length<=1000):qj qg 207 [aI op,lNd ks] (aB (fitB op ks)):=by
 have I:=qm5 op ks.length zOm;unfold shpV at I;cases o:shp op ks.length with
 |none =>
  simp only[o]at I;have hf:fitB op ks=false:=by simp[fitB,o]
  rw[hf];refine qSU call207 func207 rfl ?_;refine fW I (.zs (.zs .nil)) ?_;exact .zsc _
 |some l =>
  simp only[o]at I;have i:=qa1 l;have J:=qm6 l (qm7 o);generalize bys l=B at *
  refine qSU call207 func207 rfl ?_;refine t8 I (.zs (.zs .nil)) ?_;by_cases C:l.length=ks.length
  .simp [go_sem,i,C]
   refine aP ks.length (fun k U=>U.tm 1=lNd ks/\U.tm 5=aS B/\U.tm 7=aI k/\∀ j,j<k->(ks[j]?).map (fun k=>kd k.op)=l[j]?) ?_ ?_
   .exact ⟨zSi,zSi,zSi,fun j P=>absurd P zOm⟩
   .rintro k U hk ⟨R,e5,e7,hI⟩
    by_cases a0:k=ks.length
    .subst a0
     have hf:fitB op ks=true:=by
      rw[fitB,o,decide_eq_true];congr 1;apply vg;intro j;by_cases P:j<ks.length
      .rw [zz,hI j P]
      .rw [w6 zOm,w6 zSo]
     rw[hf];simp[go_sem,R,e7];exact .zsc _
    .have g:k<ks.length:=by omega
     have w1:=zWk k;simp[go_sem,R,e7,g];refine tJ zKr ?_;simp[go_sem,R,e7,g];refine t8 (qa0 ks[k].op) (.zs .nil) ?_;have p:k<l.length:=zOm;have a1:k<B.data.size:=by have:B.data.size=l.length:=i;omega
     have hg:=J k p a1;by_cases T:kd ks[k].op=l[k]
     .have t:kd ks[k].op=((B.data[k]).toNat:Int):=by rw[hg];exact T
      simp[go_sem,e5,e7,g,i,C,t,w1];refine aM ?_;refine⟨zS1 R,zS1 e5,zSi,fun j P=>?_⟩;by_cases a2:j=k
      .subst a2
       rw[qy g,qy p,zh,T]
      .exact hI j zOm
     .have t:¬kd ks[k].op=((B.data[k]).toNat:Int):=by rw[hg];exact T
      have hf:fitB op ks=false:=by
       rw[fitB,o,decide_eq_false];intro e;injection e with e;apply T;have:l[k]?=some (kd ks[k].op):=by rw[e,zz,qy g,zh]
       rw[qy p]at this;simpa using this.symm
      rw[hf];simp[go_sem,e5,e7,g,i,C,t];exact .zsc _
  .have hf:fitB op ks=false:=by
    rw[fitB,o,decide_eq_false];intro e;injection e with e;rw[e]at C;simp at C
   rw[hf];simp[go_sem,i,C];exact .zsc _
end Q2
namespace Q3
open Y1 Q1
def letC(c:Int):Bool:=(decide (97<=c)&&decide (c<=122))||(decide (65<=c)&&decide (c<=90))
def chB(i:Nat)(c:Int):Bool:=letC c||(!decide (i=0)&&(decide (c=95)||(decide (48<=c)&&decide (c<=57))))
def zG(s:dC):Bool:=decide (1<=s.size)&&decide (s.size<=16)&&!kwB s&&(qu s.size).all fun i=>match s.data[i]? with|some c=>chB i c.toNat|none=>true
theorem qm8(s):qj qg 252 [aS s] (aB (zG s)):=by
 refine qSV call252 func252 rfl ?_;by_cases h0:s.size=0
 .have t:zG s=false:=by simp[zG,h0]
  rw[t];simp[go_sem,h0];exact .zsc _
 by_cases ad:16<s.size
 .have t:zG s=false:=by
   have:¬s.size<=16:=zOm;simp[zG,this]
  rw[t];have l:(16:Int)<s.size:=zOm;simp[go_sem,h0,l];exact .zsc _
 have l:¬(16:Int)<s.size:=zOm;simp[go_sem,h0,l];refine t8 (qm2 s) (.zs .nil) ?_;cases hk:kwB s with
 |true =>
  have t:zG s=false:=by simp[zG,hk]
  rw[t];simp[go_sem];exact .zsc _
 |false =>
  simp[go_sem];refine aP s.size (fun k U=>U.tm 0=aS s/\U.tm 3=aI k/\∀ j c,j<k->s.data[j]?=some c->chB j c.toNat=true) ?_ ?_
  .exact ⟨zSi,zSi,fun j c hj=>absurd hj zOm⟩
  .rintro k U ae ⟨e0,e2,hI⟩
   by_cases aa:k=s.size
   .have t:zG s=true:=by
     simp only[zG,hk,Bool.not_false,Bool.and_true,qD,decide_eq_true_eq,qY,zW];refine⟨⟨zOm,zOm⟩,fun i hi=>?_⟩;cases hc:s.data[i]? with
     |none=>rfl
     |some c=>exact hI i c zOm hc
    rw[t];simp[go_sem,e0,e2,aa];exact .zsc _
   .have o:k<s.size:=by omega
    have a0:k<s.data.size:=o;have w1:=zWk k;have z1:qo.wrap 1=1:=rfl;have a9:s.data[k]?=some s.data[k]:=Qc a0;simp[go_sem,e0,e2,o];generalize hc:((s.data[k]).toNat:Int)=c at *
    cases g:chB k c with
    |false =>
     have t:zG s=false:=by
      rw[zG,Bool.and_eq_false_iff];refine .inr (List.all_eq_false.2 ⟨k,zW.2 o,?_⟩);simp only[a9,hc,g];simp
     rw[t];by_cases I:97<=c<;>by_cases J:c<=122<;>by_cases P:65<=c<;>by_cases R:c<=90<;>by_cases T:c=95<;>by_cases a6:c<48<;>by_cases a7:57<c<;>by_cases C:k=0<;>first|omega | (exfalso;simp[chB,letC,I,J,P,R,T,a6,a7,C]at g;done) | (exfalso;simp[chB,letC,I,J,P,R,T,a6,a7,C]at g;omega)|skip
     all_goals
      simp[go_sem,e2,I,J,P,R,T,a6,a7,C];exact .zsc _
    |true =>
     have p:∀ j d,j<k+1->s.data[j]?=some d->chB j d.toNat=true:=fun j d hj hd=>by
      by_cases ab:j=k
      .subst ab
       rw[a9]at hd;cases hd;rw[hc];exact g
      .exact hI j d zOm hd
     by_cases I:97<=c<;>by_cases J:c<=122<;>by_cases P:65<=c<;>by_cases R:c<=90<;>by_cases T:c=95<;>by_cases a6:c<48<;>by_cases a7:57<c<;>by_cases C:k=0<;>first|omega | (exfalso;simp[chB,letC,I,J,P,R,T,C]at g;done) | (exfalso;simp[chB,letC,I,J,P,R,T,C]at g;omega)|skip
     all_goals
      simp[go_sem,e2,I,J,P,R,T,a6,a7,C,w1,z1]
      first
       |exact⟨o,aM ⟨zS1 e0,zSi,p⟩⟩
       | (subst C;exact⟨o,aM ⟨zS1 e0,zSi,fun j d hj hd=>p j d zOm hd⟩⟩)
end Q3
namespace Q4
open P2 Y1 Y2 Y9 Q2 Q3
def Y0(op:Int):Bool:=decide (op=1)||decide (op=15)||decide (op=45)||decide (op=46)||decide (op=47)
def numB(op n:Int):Bool:=if op=2 then decide (1<=n)&&decide (n<=3) else if op=20 then decide (-64<=n)&&decide (n<=64) else decide (n=0)
def ownB(n:Nd):Bool:=if Y0 n.op=zG n.name/\(Y0 n.op=true\/n.name=⟨#[]⟩) then numB n.op n.n else false
theorem ownU(n):qj qg 206 [eNd n] (aB (ownB n)):=by
 refine qSV call206 func206 rfl ?_;have j:=qm8 n.name;generalize P:zG n.name=N at *
 by_cases p:n.op=1\/n.op=15\/n.op=45\/n.op=46\/n.op=47
 .have l:Y0 n.op=true:=by grind [Y0]
  have t:¬n.op=2:=zOm;have i:¬n.op=20:=zOm;rcases p with h|h|h|h|h
  all_goals
   simp[go_sem,h];refine t8 j (.zs .nil) ?_;cases N with
   |true =>
    have g:ownB n=decide (n.n=0):=by grind [ownB,numB]
    rw[g];simp[go_sem,h];exact .zsc _
   |false =>
    have g:ownB n=false:=by grind [ownB]
    rw[g];simp[go_sem];exact .zsc _
 .simp only[not_or]at p
  obtain⟨d1,d2,d3,d4,d5⟩:=p;have l:Y0 n.op=false:=by grind [Y0]
  simp[go_sem,d1,d2,d3,d4,d5];refine t8 j (.zs .nil) ?_;cases N with
  |true =>
   have g:ownB n=false:=by grind [ownB]
   rw[g];simp[go_sem];exact .zsc _
  |false =>
   by_cases o:n.name=⟨#[]⟩
   .have g:ownB n=numB n.op n.n:=by
     simp_all[ownB,if_pos]
    rw[g];unfold numB;by_cases t:n.op=2
    .by_cases C:1<=n.n<;>by_cases I:n.n<=3<;>(simp[go_sem,t,o,C,I];exact .zsc _)
    .by_cases i:n.op=20
     .by_cases C : -64<=n.n<;>by_cases I:n.n<=64<;>(simp[go_sem,i,o,C,I];exact .zsc _)
     .simp [go_sem,t,i,o]
      exact .zsc _
   .have g:ownB n=false:=by simp[ownB,l,o]
    rw[g];have J:n.name.toList.isEmpty=false:=by simpa using j0 o
    simp[go_sem,J];exact .zsc _
mutual
def cntN:Nd->Int->Int
 | .mk _ _ _ ks _,left=>yM ks left 1
def yM:List Nd->Int->Int->Int
 | [],_,sum=>sum
 |k :: ks,left,sum=>if sum<=left then yM ks left (sum+cntN k (left-sum)) else sum
end
theorem Km(n left):cntN n left=yM n.sD left 1:=by
 obtain⟨op,nm,i,ks,p⟩:=n;simp[cntN,Nd.sD]
mutual
theorem UU:∀(n:Nd)(left:Int),1<=cntN n left/\(cntN n left<=left+1\/cntN n left=1)
 | .mk _ _ _ ks _,left=>by
  simp only[cntN];have:=Kn ks left 1;omega
theorem Kn:∀(ks:List Nd)(left sum:Int),sum<=yM ks left sum/\(yM ks left sum<=left+1\/yM ks left sum=sum)
 | [],left,sum=>by simp[yM]
 |k :: ks,left,sum=>by
  simp only[yM];split
  .have g:=UU k (left-sum)
   have i:=Kn ks left (sum+cntN k (left-sum));omega
  .omega
end
theorem qa2:∀ m n,szN n<=m->∀ left,-1000000<=left/\left<=1000000->qj qg 146 [eNd n,aI left] (aI (cntN n left))
 | 0,n,P,_,_=>by obtain⟨op,nm,i,ks,p⟩:=n;simp[szN]at P
 |m+1,n,P,left,hl=>by
  have ih:∀ k,k∈n.sD->∀ left:Int,-1000000<=left/\left<=1000000->qj qg 146 [eNd k,aI left] (aI (cntN k left)):=fun k T =>
   qa2 m k (zW1 (zl T))
  rw[Km];generalize hR:yM n.sD left 1=R;refine qSU call146 func146 rfl ?_;refine aP n.sD.length (fun k U=>∃ sum:Int,U.tm 1=aI left/\U.tm 2 = .ip (cNd n)/\U.tm 5=aI sum/\U.tm 6=aI k/\(k:Int)+1<=sum/\(sum<=left+1\/sum=1)/\yM (n.sD.drop k) left sum=R) ?_ ?_
  .simp [go_sem, *]
  .rintro k U T ⟨sum,C,l,I,o,a0,a1,j⟩
   by_cases J:k=n.sD.length
   .subst J
    rw[yf]at j;simp only[yM]at j;subst j;simp[go_sem,l,I,o];exact .zsc _
   .have g:k<n.sD.length:=by omega
    rw[ze g]at j;simp only[yM]at j;by_cases t:sum<=left
    .rw [if_pos t]at j
     have w1:=zWk k;have w2:qo.wrap (left-sum)=left-sum:=zWr;have a2:=UU n.sD[k] (left-sum);have w3:qo.wrap (sum+cntN n.sD[k] (left-sum))=sum+cntN n.sD[k] (left-sum):=zWr;simp[go_sem,C,l,I,o,g,t,w2];refine t8 (ih n.sD[k] (qv g) (left-sum) ⟨zOm,zOm⟩) (.zk (qE _) (.zs .nil)) ?_;simp[go_sem,o,w1,w3];refine⟨g,aM ?_⟩;exact⟨sum+cntN n.sD[k] (left-sum),zS1 C,zS1 l,zSi,zSi,zOm,zOm,j⟩
    .rw [if_neg t]at j
     subst j;simp[go_sem,C,l,I,o,g,t];exact .zsc _
mutual
def forN:Nd->Int->Bool
 | .mk op nm i ks p,g=>if g<1 then false else ownB (.mk op nm i ks p)&&(fitB op ks&&uZ ks (g-1))
def uZ:List Nd->Int->Bool
 | [],_=>true
 |k :: ks,g=>forN k g&&uZ ks g
end
theorem Vi(n g):forN n g=if g<1 then false else ownB n&&(fitB n.op n.sD&&uZ n.sD (g-1)):=by
 obtain⟨op,nm,i,ks,p⟩:=n;simp[forN,Nd.sD,Nd.op]
theorem qa3:∀ m n,szN n<=m->Small n->∀ g,-1000000<=g/\g<=1000000->qj qg 147 [eNd n,aI g] (aB (forN n g))
 | 0,n,T,_,_,_=>by obtain⟨op,nm,i,ks,p⟩:=n;simp[szN]at T
 |m+1,n,T,hs,g,hl=>by
  have ih:∀ k,k∈n.sD->∀ g:Int,-1000000<=g/\g<=1000000->qj qg 147 [eNd k,aI g] (aB (forN k g)):=fun k J =>
   qa3 m k (zW1 (zl J)) (hs.kid J)
  have I:=hs.len;rw[Vi];have l:=ownU n;have o:=Kl n.op n.sD I;by_cases j:g<1
  .rw [if_pos j]
   refine qSV call147 func147 rfl ?_;simp[go_sem,j];exact .zsc _
  rw[if_neg j];cases ho:ownB n with
  |false =>
   rw[ho]at l;refine qSV call147 func147 rfl ?_;simp[go_sem,j];refine fW l (.zk (qE _) .nil) ?_;exact .zsc _
  |true =>
   rw[ho]at l;cases hf:fitB n.op n.sD with
   |false =>
    rw[hf]at o;refine qSV call147 func147 rfl ?_;simp[go_sem,j];refine fW l (.zk (qE _) .nil) ?_;refine fW o (.zs (.zk (JV _) .nil)) ?_;exact .zsc _
   |true =>
    rw[hf]at o;have wl:qo.wrap (g-1)=g-1:=zWr;generalize hR:uZ n.sD (g-1)=R;simp only[Bool.true_and];refine qSV call147 func147 rfl ?_;simp[go_sem,j];refine fW l (.zk (qE _) .nil) ?_;refine fW o (.zs (.zk (JV _) .nil)) ?_;refine aP n.sD.length (fun k U=>U.tm 1=aI g/\U.tm 2 = .ip (cNd n)/\U.tm 5=aI k/\uZ (n.sD.drop k) (g-1)=R) ?_ ?_
    .simp [go_sem, *]
    .rintro k U J ⟨e1,e2,e5,t⟩
     by_cases P:k=n.sD.length
     .subst P
      rw[yf]at t;simp only[uZ]at t;subst t;simp[go_sem,e2,e5];exact .zsc _
     .have C:k<n.sD.length:=by omega
      have w1:=zWk k;rw[ze C]at t;simp only[uZ]at t;have hi:=ih n.sD[k] (qv C) (g-1) ⟨zOm,zOm⟩;simp[go_sem,e1,e2,e5,C,wl];refine t8 hi (.zk (qE _) (.zs .nil)) ?_;cases hq:forN n.sD[k] (g-1) with
      |true =>
       simp_all[go_sem,Bool.true_and,aM]
      |false =>
       rw[hq,Bool.false_and]at t;subst t;simp[go_sem];exact .zsc _
theorem qa4:∀ ks left sum,0<=sum->yM ks left sum<=left->sum+ks.length<=yM ks left sum/\∀ k,k∈ks->∃ g,g<=left/\cntN k g<=g
 | [],left,sum,_,h=>by simp[yM]
 |k :: ks,left,sum,o,h=>by
  simp only[yM]at h⊢;split at h
  .rename_i j
   rw[if_pos j];have p:=UU k (left-sum);have l:=qa4 ks left (sum+cntN k (left-sum)) zOm h;have t:=l.1;refine⟨by grind,fun q i=>?_⟩;rcases qz.1 i with rfl|i
   .grind
   grind
  .omega
theorem qa5:∀ m n left,szN n<=m->left<=1000->cntN n left<=left->Small n
 | 0,n,_,g,_,_=>by obtain⟨op,nm,i,ks,p⟩:=n;simp[szN]at g
 |m+1,n,left,g,I,h=>by
  rw[Km]at h;obtain⟨J,l⟩:=qa4 n.sD left 1 zOm h;refine .mk n zOm fun k j=>?_
  obtain⟨o,t,C⟩:=l k j;exact qa5 m k o (zW1 (zl j)) zOm C
def yb(n:Nd):Bool:=decide (cntN n 400<=400)&&forN n 24
theorem qm9(n):qj qg 66 [eNd n] (aB (yb n)):=by
 have i:=qa2 (szN n) n (qn _) 400 zOm;by_cases h:cntN n 400<=400
 .have j:=qa5 (szN n) n 400 (qn _) zOm h
  have hf:=qa3 (szN n) n (qn _) j 24 zOm;have g:yb n=forN n 24:=by simp[yb,h]
  rw[g];refine qSU call66 func66 rfl ?_;refine t8 i (.zk (qE _) (.zs .nil)) ?_;simp[go_sem,h];refine fW hf (.zk (qE _) (.zs .nil)) ?_;exact .zsc _
 .have g:yb n=false:=by simp[yb,h]
  rw[g];refine qSU call66 func66 rfl ?_;refine t8 i (.zk (qE _) (.zs .nil)) ?_;simp[go_sem,h];exact .zsc _
theorem Ko{ks i}(h:uZ ks i=true):∀ k,k∈ks->forN k i=true:=by
 induction ks with
 |nil=>grind
 |cons a l j =>
  simp only[uZ,qD]at h;intro k g;rcases qz.1 g with rfl|g
  .exact h.1
  .exact j h.2 k g
theorem qa6:∀ m n g,szN n<=m->forN n g=true->WfN n
 | 0,n,_,j,_=>by obtain⟨op,nm,i,ks,p⟩:=n;simp[szN]at j
 |m+1,n,g,j,h=>by
  rw[Vi]at h;split at h
  .grind
  .simp only[qD]at h
   obtain⟨t,C,o⟩:=h;refine .mk n ?_ (fun I=>?_) fun k l=>qa6 m k (g-1) (zW1 (zl l)) (Ko o k l)
   .grind [fitB]
   simp_all[ownB,numB,if_pos,absurd]
theorem ux{n}(h:yb n=true):WfN n:=by
 simp only[yb,qD]at h;exact qa6 (szN n) n 24 (qn _) h.2
end Q4
namespace Q5
theorem qnA(a b)(ha:a.length<=1000000):qj qg 148 [lI a,lI b] (aB (decide (a=b))):=by
 refine qSV call148 func148 rfl ?_;by_cases j:a.length=b.length
 case neg =>
  rw[decide_eq_false (by rintro rfl;exact j rfl)];simp[go_sem,j];exact .zsc _
 simp[go_sem,j];refine aP a.length (fun k U=>U.tm 0=lI a/\U.tm 1=lI b/\U.tm 5=aI k/\∀(i:Nat)(h:i<a.length)(o:i<b.length),i<k->a[i]=b[i]) ?_ ?_
 .exact ⟨zSi,zSi,zSi,fun i h o R=>absurd R zOm⟩
 .rintro k U hk ⟨l,I,p,T⟩
  by_cases a0:k=a.length
  .rw [decide_eq_true (List.ext_getElem j fun i h o=>T i h o zOm)]
   have J:k=b.length:=zOm;simp[go_sem,l,p,J,j];exact .zsc _
  .have a1:k<a.length:=by omega
   have t:k<b.length:=zOm;have w1:=zWk k;have g:(k:Int)<(b.length:Int):=zOm;by_cases C:a[k]=b[k]
   .simp [go_sem,l,p,j,g]
    try refine tJ zKr ?_
    simp[go_sem,l,I,p,t,j,g,C,w1]
    try refine⟨zOm,aM ?_⟩
    try refine aM ?_
    refine⟨zS1 l,zS1 I,zSi,fun i h o R=>?_⟩;by_cases P:i=k
    .subst P;exact C
    .exact T i h o zOm
   .rw [decide_eq_false (fun e=>C (zP1 e))]
    simp[go_sem,l,p,j,g]
    try refine tJ zKr ?_
    simp[go_sem,l,I,p,t,j,g,C];exact .zsc _
end Q5
namespace Q6
open Y1 Y9
mutual
def anyN(p:Nd->Bool):Nd->Bool
 | .mk op nm i ks q=>p (.mk op nm i ks q)||vB p ks
def vB(p:Nd->Bool):List Nd->Bool
 | []=>false
 |k :: ks=>anyN p k||vB p ks
end
theorem Kq(p n):anyN p n=(p n||vB p n.sD):=by
 obtain⟨op,nm,i,ks,q⟩:=n;simp[anyN,Nd.sD]
theorem qa7:∀ m n,szN n<=m->Small n->qj qg 14 [eNd n] (aB (anyN (fun n=>decide (n.op=47)) n))
 | 0,n,J,_=>by obtain⟨op,nm,i,ks,p⟩:=n;simp[szN]at J
 |m+1,n,J,P=>by
  have ih:∀ k,k∈n.sD->qj qg 14 [eNd k] (aB (anyN (fun n=>decide (n.op=47)) k)):=fun k t =>
   qa7 m k (zW1 (zl t)) (P.kid t)
  have T:=P.len;rw[Kq];generalize hR:vB (fun n=>decide (n.op=47)) n.sD=R;refine qSV call14 func14 rfl ?_;by_cases C:n.op=47
  .simp [go_sem,C]
   exact .zsc _
  .rw [decide_eq_false C,Bool.false_or]
   simp[go_sem,C];refine aP n.sD.length (fun k U=>U.tm 1 = .ip (cNd n)/\U.tm 3=aI k/\vB (fun n=>decide (n.op=47)) (n.sD.drop k)=R) ?_ ?_
   .exact ⟨zSi,zSi,zUs hR⟩
   .rintro k U t ⟨l,o,j⟩
    by_cases I:k=n.sD.length
    .subst I
     rw[yf]at j;simp only[vB]at j;subst j;simp[go_sem,l,o];exact .zsc _
    .have g:k<n.sD.length:=by omega
     have w1:=zWk k;rw[ze g]at j;simp only[vB]at j;have hi:=ih n.sD[k] (qv g);simp[go_sem,l,o,g,qZ]
     try refine tJ zKr ?_
     try simp[go_sem,l,o,g,qZ]
     refine t8 hi (.zk (qE _) .nil) ?_;cases hq:anyN (fun n=>decide (n.op=47)) n.sD[k] with
     |true =>
      rw[hq,Bool.true_or]at j;subst j;simp[go_sem,l,o];exact .zsc _
     |false =>
      rw[hq,Bool.false_or]at j;simp[go_sem,l,o,w1]
      try refine⟨g,aM ?_⟩
      try refine aM ?_
      exact⟨zS1 l,zSi,j⟩
end Q6
namespace Q7
end Q7
namespace Q8
def fldB(ns:Nat)(f:Fld):Bool:=decide (1<=f.sS.length)&&decide (f.sS.length<=3)&&f.sS.all fun x=>decide (0<=x)&&decide (x<ns)
end Q8
namespace FD
open Y1 Y9 Q4 F2
theorem qnB{ks m}(h:∀ k,k∈ks->dN k<=m):dNs ks<=m:=by
 induction ks with
 |nil=>simp[dNs]
 |cons a l g =>
  simp only[dNs];have:=h a zSp;have:=g fun k i=>h k (zP1 i)
  omega
theorem qa8:∀ m n g,szN n<=m->forN n g=true->(dN n:Int)<=g
 | 0,n,g,l,_=>by
  obtain⟨op,nm,i,ks,q⟩:=n;simp only[szN,Nd.mk.sizeOf_spec]at l;omega
 |m+1,n,g,l,h=>by
  rw[Vi]at h;split at h
  .cases h
  .simp only[qD]at h
   have o:=Ko h.2.2;have:dNs n.sD<=(g-1).toNat:=qnB fun k j=>by
    have:=qa8 m k (g-1) (zW1 (zl j)) (o k j);omega
   rw[qaA];omega
theorem qa9{n}(h:yb n=true):dN n<=24:=by
 simp only[yb,qD]at h;have:=qa8 (szN n) n 24 (qn _) h.2;omega
theorem qbA:∀ x,(∀ a,a∈x->0<=a)->0<=sumI x:=fun x g=>by
 induction x with
 |nil=>simp[sumI]
 |cons a x i =>
  have o:=g a zSp;have j:=i fun b l=>g b (zP1 l)
  simp only[sumI,List.foldr_cons]at j⊢;omega
theorem qnC:∀ l i,(∀ a,a∈l->0<=a)->i<l.length->0<=gI l i/\0<=sumI (l.take i)/\sumI (l.take i)+gI l i<=sumI l:=fun l i h g=>by
 have e:sumI l=sumI (l.take (i+1))+sumI (l.drop (i+1)):=by rw[<-Xm,uJ]
 rw[wH l i g]at e;rw[ji g];have p:=qbA (l.drop (i+1)) fun a j=>h a (List.mem_of_mem_drop j)
 have o:=qbA (l.take i) fun a j=>h a (List.mem_of_mem_take j)
 exact⟨h _ (qv g),o,zOm⟩
end FD
namespace GF
open E1 E4 F4
abbrev rP(p:Int×Int):List AV:=[aI p.1,aI p.2]
abbrev lP(ps:List (Int×Int)):AV := .lst false (ps.map rP)
theorem Kr(xs:List (Int×Int)):qV 2 (xs.map rP):=fun r g=>by
 obtain⟨n,_,rfl⟩:=qp.1 g;exact⟨rfl,rfl⟩
abbrev eBd(b:Bd):AV := .agg (cBd b)
theorem qbB(b):∀ c,c∈cBd b->HF c:=by
 intro c g;simp at g;rcases g with rfl|rfl|rfl|rfl
 .exact HF.sc _
 .exact zy _
 .exact HF.sc _
 .exact zy _
theorem yD(b):HF (eBd b):=HF.agg (qbB b)
def Ks(x:Bd):List Int:=x.up.ts.filter fun t=>!decide (t∈x.lo.ts)
def Ja(k:Nat)(x:Bd):List (Int×Int):=(Ks x).map fun t=>((k:Int),t)
def zu:List Bd->Nat->List (Int×Int)
 | [],_=>[]
 |x :: l,k=>Ja k x++zu l (k+1)
theorem qbC:∀ l m k,zu (l++m) k=zu l k++zu m (k+l.length)
 | [],m,k=>by simp[zu]
 |x :: l,m,k=>by
  rw[yq,zu,zu,qbC l m (k+1),zL];have:k+1+l.length=k+(x :: l).length:=zSo;rw[this]
theorem qnD(l:List Bd)(k h):zu (l.take (k+1)) 0=zu (l.take k) 0++Ja k l[k]:=by
 rw[List.take_add_one,qy h];show zu (l.take k++[l[k]]) 0=_;rw[qbC];have:(l.take k).length=k:=zSo;rw[this,yJ];simp[zu]
structure qbD (x:Bd):Prop where
 up:x.up.ts.length<=1000000
 lo:x.lo.ts.length<=1000000
 zp:x.lo.ts.Pairwise (·<=·)
theorem Kt:∀ l k,(∀ x,x∈l->qbD x)->(zu l k).length<=l.length*1000000
 | [],k,_=>by simp[zu]
 |x :: l,k,h=>by
  have i:=Kt l (k+1) (fun y g=>h y (zP1 g));have j:(Ja k x).length<=1000000:=by
   rw[Ja,zT];exact zQ (List.length_filter_le _ _) (h x zSp).up
  simp only[zu,zj,yy];omega
theorem cU{mu av xs}(h:Own mu 2 av (xs.map rP)):Rd mu av (lP xs):=
 h.rd (Kr xs).ok fun r i c g=>by
  obtain⟨n,_,rfl⟩:=qp.1 i;simp at g;rcases g with rfl|rfl<;>exact HF.sc _
end GF
namespace KA
open Y1 P1 E1 E3
def uF(p:Int)(k:Nd):Nd:=if k.op=48 then k else .mk 48 ⟨#[]⟩ 0 [k] p
mutual
def conj:Nd->List Nd
 | .mk op nm i ks p=>if op=41 then (u3 ks).getD 0 []++(u3 ks).getD 1 [] else if op=48 then ((u3 ks).getD 0 []).map (uF p) else [.mk op nm i ks p]
def u3:List Nd->List (List Nd)
 | []=>[]
 |k :: ks=>conj k :: u3 ks
end
structure Ns where
 ts:TS
 sc:Sc
 bs:List Bd
abbrev Ns.n(σ:Ns):Int:=sumI σ.sc.sC
abbrev rl0:Rl:=⟨0,[]⟩
abbrev bd0:Bd:=⟨rl0,rl0⟩
abbrev exR(r:Rl):Bd:=⟨r,r⟩
def allN(n k:Int):Rl:=⟨k,(qu (n ^ k.toNat).toNat).map fun i:Nat=>(i:Int)⟩
def Jb(sc:Sc)(i:Nat):List Int:=(qu (gI sc.sC i).toNat).map fun k:Nat=>sumI (sc.sC.take i)+k
def Z7(sc:Sc)(i:Nat):List Int:=(qu ((gI sc.sC i).toNat-1)).map fun k:Nat=>(sumI (sc.sC.take i)+k)*sumI sc.sC+(sumI (sc.sC.take i)+k+1)
def jJ(nm:dC)(env:List (dC×Bd)):Option Bd:=env.foldl (fun r e=>if e.1=nm then some e.2 else r) none
def je(nm:dC):List Fld->List Bd->Option Bd
 |f :: g,b :: o=>if f.name=nm then some b else je nm g o
 |_,_=>none
def wQ(sc:Sc)(nm:dC):Nat->List (dC×Bool)->Bd
 |_,[]=>bd0
 |i,s :: g=>if s.1=nm then exR ⟨1,Jb sc i⟩ else if s.2=true/\s.1++yP=nm then exR ⟨1,[sumI (sc.sC.take i)]⟩ else if s.2=true/\s.1++jq=nm then exR ⟨2,Z7 sc i⟩ else wQ sc nm (i+1) g
def zG(σ:Ns)(env:List (dC×Bd))(nm:dC):Bd:=match jJ nm env with
 |some b=>b
 |none=>match je nm σ.ts.sA σ.bs with
  |some b=>b
  |none=>wQ σ.sc nm 0 σ.ts.sS
def j7(n:Int)(a b:Rl):Rl:=⟨a.ar,a.ts.filter fun t=>decide (∀ u,u∈b.ts->u / powI n (b.ar-1)≠t / powI n (a.ar-1))⟩
def vE(q:XE Rl):Rl:=match q with
 | .ok r=>r
 | .error _=>rl0
def map2(f:Rl->Rl->Rl)(x y:Bd):Bd:=⟨f x.lo y.lo,f x.up y.up⟩
def opI(σ:Ns)(env:List (dC×Bd))(op:Int)(nm:dC)(i:Int)(l:List Bd):Bd:=
 let x:=l.getD 0 bd0
 let y:=l.getD 1 bd0
 if op=1 then zG σ env nm
 else if op=2 then exR ⟨i,[]⟩
 else if op=3 then exR (allN σ.n 1)
 else if op=4 then exR (idR σ.n)
 else if op=5 then x
 else if op=11 then ⟨trR σ.n x.lo,trR σ.n x.up⟩
 else if op=12 then ⟨clR σ.n 200 x.lo,clR σ.n 200 x.up⟩
 else if op=13 then ⟨unR (clR σ.n 200 x.lo) (idR σ.n),unR (clR σ.n 200 x.up) (idR σ.n)⟩
 else if op=15 then ⟨⟨1,[]⟩,x.up⟩
 else if op=6 then map2 unR x y
 else if op=7 then map2 inR x y
 else if op=8 then ⟨diR x.lo y.up,diR x.up y.lo⟩
 else if op=9 then map2 (fun a b=>vE (js σ.n a b)) x y
 else if op=10 then map2 (fun a b=>vE (jG σ.n a b)) x y
 else ⟨unR y.lo (j7 σ.n x.lo y.up),unR y.up (j7 σ.n x.up y.lo)⟩
mutual
def ivl(σ:Ns)(env:List (dC×Bd)):Nd->Bd
 | .mk op nm i ks p=>opI σ env op nm i (ivls σ env ks)
def ivls(σ:Ns)(env:List (dC×Bd)):List Nd->List Bd
 | []=>[]
 |k :: ks=>ivl σ env k :: ivls σ env ks
end
theorem Ku(σ env):∀ ks,ivls σ env ks=ks.map (ivl σ env)
 | []=>rfl
 |k :: ks=>by rw[ivls,Ku σ env ks];rfl
theorem yV(σ env n):ivl σ env n=opI σ env n.op n.name n.n (n.sD.map (ivl σ env)):=by
 obtain⟨op,nm,i,ks,p⟩:=n;rw[ivl,Ku];rfl
abbrev Br:=Option (List Bd×Bool)
def sub1(a b:Rl):Bool:=decide ((diR a b).ts=[])
def Zt(i:Nat)(p q:Rl)(bs:List Bd)(c:Bool):Br:=
 let b:=bs.getD i bd0
 let x:Bd:=⟨unR b.lo p,inR b.up q⟩
 if sub1 x.lo x.up=true then (if x.lo=b.lo/\x.up=b.up then some (bs,c) else some (bs.set i x,true)) else none
def idxF(fs:List Fld)(nm:dC):Option Nat:=fs.findIdx? fun f=>decide (f.name=nm)
mutual
def narN(ts:TS)(sc:Sc)(g:Bool):Nd->Rl->Rl->List Bd->Bool->Br
 | .mk op nm i ks l,p,q,o,c =>
  let j:Ns:=⟨ts,sc,o⟩
  let x:=ivl j [] (.mk op nm i ks l)
  let all:=allN j.n x.lo.ar
  if (sub1 p x.up&&sub1 x.lo q)=true then
   if op=1 then (match idxF ts.sA nm with
    |some i=>if (g||!((ts.sA.map fun f=>f.var).getD i false))=true then Zt i p q o c else some (o,c)
    |none=>some (o,c))
   else if op=6 then narU ts sc g ks ⟨p.ar,(diR p ((ivls j [] ks).getD 1 bd0).up).ts⟩ ⟨p.ar,(diR p ((ivls j [] ks).getD 0 bd0).up).ts⟩ q o c
   else if op=7 then narU ts sc g ks p p all o c
   else if op=8 then narD ts sc g ks p all ⟨all.ar,[]⟩ (diR all p) o c
   else if op=11 then narT ts sc g ks (trR j.n p) (trR j.n q) o c
   else some (o,c)
  else none
def narU(ts:TS)(sc:Sc)(g:Bool):List Nd->Rl->Rl->Rl->List Bd->Bool->Br
 | [],_,_,_,o,c=>some (o,c)
 |k :: ks,p,j,q,o,c=>match narN ts sc g k p q o c with
  |none=>none
  |some (i,l)=>narU ts sc g ks j j q i l
def narD(ts:TS)(sc:Sc)(g:Bool):List Nd->Rl->Rl->Rl->Rl->List Bd->Bool->Br
 | [],_,_,_,_,o,c=>some (o,c)
 |k :: ks,p,q,j,l,o,c=>match narN ts sc g k p q o c with
  |none=>none
  |some (i,t)=>narD ts sc g ks j l j l i t
def narT(ts:TS)(sc:Sc)(g:Bool):List Nd->Rl->Rl->List Bd->Bool->Br
 | [],_,_,o,c=>some (o,c)
 |k :: _,p,q,o,c=>narN ts sc g k p q o c
end
def brB(r:Br)(f:List Bd->Bool->Br):Br:=match r with
 |none=>none
 |some (o,c)=>f o c
def wR(ts:TS)(sc:Sc)(g:Bool)(n:Nd)(bs:List Bd)(c:Bool):Br:=
 let x:=ivl ⟨ts,sc,bs⟩ [] n
 if x.up.ts.length=0 then none else if x.up.ts.length=1 then narN ts sc g n x.up (allN (sumI sc.sC) x.up.ar) bs c else some (bs,c)
def wS(ts:TS)(sc:Sc)(g:Bool)(n:Nd)(bs:List Bd)(c:Bool):Br:=
 let x:=ivl ⟨ts,sc,bs⟩ [] n
 if 1<x.lo.ts.length then none else if x.lo.ts.length=1 then narN ts sc g n ⟨x.lo.ar,[]⟩ x.lo bs c else some (bs,c)
def noN(ts:TS)(sc:Sc)(g:Bool)(n:Nd)(bs:List Bd)(c:Bool):Br:=
 let e:Rl:=⟨(ivl ⟨ts,sc,bs⟩ [] n).lo.ar,[]⟩
 narN ts sc g n e e bs c
def kidN(n:Nd)(i:Nat):Nd:=n.sD.getD i (.mk 0 ⟨#[]⟩ 0 [] 0)
def u4(ts:TS)(sc:Sc)(g:Bool)(n:Nd)(bs:List Bd)(c:Bool):Br:=
 let no:=decide (n.op=40)
 let m:=if n.op=40 then kidN n 0 else n
 let k:=kidN m 0
 if (no=true/\m.op=34)\/(no=false/\m.op=35) then noN ts sc g k bs c
 else if (no=true/\m.op=35)\/(no=false/\m.op=34) then wR ts sc g k bs c
 else if no=true then some (bs,c)
 else if m.op=31 then none
 else if m.op=36 then brB (wR ts sc g k bs c) fun bs c=>wS ts sc g k bs c
 else if m.op=37 then wS ts sc g k bs c
 else if m.op=32\/m.op=33 then
  let x:=ivl ⟨ts,sc,bs⟩ [] k
  let y:=ivl ⟨ts,sc,bs⟩ [] (kidN m 1)
  let all:=allN (sumI sc.sC) x.lo.ar
  let i:=if m.op=32 then all else x.up
  let yl:=if m.op=32 then ⟨all.ar,[]⟩ else y.lo
  brB (narN ts sc g k yl y.up bs c) fun bs c=>narN ts sc g (kidN m 1) x.lo i bs c
 else some (bs,c)
abbrev ndZ:Nd := .mk 0 ⟨#[]⟩ 0 [] 0
mutual
def jf:Nd->Bool->Nd×Bool
 | .mk op nm i ks p,g=>if op=48 then UV ks else (.mk op nm i ks p,g)
def UV:List Nd->Nd×Bool
 | []=>(ndZ,true)
 |k :: _=>jf k true
end
def Zu(ts:TS)(sc:Sc):List Nd->List Bd->Bool->Br
 | [],o,c=>some (o,c)
 |n :: l,o,c=>brB (u4 ts sc (jf n (decide (sc.sN=1))).2 (jf n (decide (sc.sN=1))).1 o c) fun o c=>Zu ts sc l o c
def fixN(ts:TS)(sc:Sc)(l:List Nd):Nat->List Bd->Option (List Bd)
 | 0,o=>some o
 |f+1,o=>match Zu ts sc l o false with
  |none=>none
  |some (g,true)=>fixN ts sc l f g
  |some (g,false)=>some g
end KA
end Go.Proofs.YthflbhjlkgdafaaGreatDoor
