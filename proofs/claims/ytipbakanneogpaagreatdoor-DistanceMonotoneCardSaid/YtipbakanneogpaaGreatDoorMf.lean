/-
  Own library, part 6: an abstract reading of values and a calculus over it; contracts of functions; plain lemmas.
-/
import Derived.Lib.ItoaLen
import Derived.Test.YtipbakanneogpaaGreatDoorMe
set_option linter.unusedVariables false
set_option linter.unusedSimpArgs false
set_option maxRecDepth 100000
open Go renaming FuncId->qx
open Go.Proofs.Tryz renaming prog->qe
open List renaming getElem?_eq_some_iff->qk,mem_map->qn,getElem_mem->qs,range->qu,mem_cons->qy,getElem?_eq_getElem->qA,not_mem_nil->qG,getElem?_set_self->qL,mem_append->qM,getElem?_append_left->qN,take_length->qO,mem_singleton->qV,mem_cons_of_mem->q8,replicate->q9,mem_of_getElem?->zb,length_append->zd,map_append->ze,mem_cons_self->zg,getElem?_map->zn,drop_eq_getElem_cons->zu,append_assoc->zB,length_cons->zG,getElem?_append_right->zM,append_nil->zO,length_map->zT,take_of_length_le->z6,map_cons->z7,drop_length->yd,mem_range->yi,getElem?_set_ne->yJ,cons_append->yP,mem_append_left->jt,mem_of_mem_take->jI,nil_append->vw,foldl_append->vM,take_append_drop->vO,take_succ_eq_append_getElem->vZ,mem_flatMap->Qa
open Go.IntKind renaming i64->qq
open Nat renaming le_refl->qr,le_trans->zQ,zero_add->yj
open Bool renaming and_eq_true->qH,eq_iff_iff->j9,or_eq_true->Zj
open Option renaming map_eq_some_iff->jR
open List.Nodup renaming length_le_of_subset->vb
open Int renaming le_refl->v7
namespace Go.Proofs.YtipbakanneogpaaGreatDoor
open Go Go.Ev Go.Proofs Tryz
namespace F9
open Y1 E3 E7 EA EL EO EP EW F1 F2 F3 F4 F5 F6
theorem f45(x N n a b)(I:OkMa x N)(U:n.sD=[a,b])(ih:IH x N n)(p)(hp:OkP x N p)(hq:bd p n)(i:n.op=45):qZ qe 78 [eMa x,ePl p,eNd n] (endB (bX (jk [den x a,den x b] n.name p) fun l => .ok (l.all fun e=>e.2))):=by
 refine zl.of_sound ?_;refine qSW call78 func78 rfl {} ?_;have a0:=yc x;have o:=KW x N n a b I U ih p hp hq;have wx:=wk3 x p n;simp[go_sem,i];cases J:jk [den x a,den x b] n.name p with
 |error e =>
  rw[J]at o;refine kL o wx ?_;simp[go_sem,zL];exact .hf _ (qQ _)
 |ok l =>
  rw[J]at o;have hl:l.length<=8000:=KY J 8000 fun d h=>((ih a (by rw[U];simp) p hp zOm).G d h).len I.n0 (aL I)
  have r:=KU 1 (l.map Prod.fst) (l.map Prod.snd) zSp zSo;rw[KX]at r;rw[U5]at o;refine tS o.toP wx ?_;generalize insC 1 (l.map Prod.fst) (l.map Prod.snd)=C at *
  simp[go_sem,zr];refine tC r (fun j M=>∃ g,M = .arr [aB ((l.take j).any fun e=>e.2)] :: .arr [aB ((l.take j).all fun e=>e.2)] :: g) (fun _ _=>False) ?_ ?_ ?_ ?_ ?_ ?_
  .simp_all [qC,yP]
  .simp
  .grind
  .rintro j y M hj ⟨g,rfl⟩
   rw[zn,jR]at hj;obtain⟨t,ht,rfl⟩:=hj;obtain⟨P,R⟩:=qk.1 ht;have T:=yv P;rw[R]at T;refine⟨rfl,?_⟩;have ha:((l.take (j+1)).any fun e=>e.2)=((l.take j).any (fun e=>e.2)||t.2):=by rw[T,List.any_append];simp
   have hb:((l.take (j+1)).all fun e=>e.2)=((l.take j).all (fun e=>e.2)&&t.2):=by rw[T,List.all_append];simp
   generalize (l.take j).any (fun e=>e.2)=A at *
   generalize (l.take j).all (fun e=>e.2)=B at *
   cases A<;>cases B<;>cases t2:t.2
   all_goals simp[go_sem]
   all_goals refine tA ?_
   all_goals rw[ha,hb,t2]
   all_goals exact⟨_,rfl⟩
  .rintro M ⟨g,rfl⟩
   rw[zT,qO];generalize (l.any fun e=>e.2)=A at *
   generalize (l.all fun e=>e.2)=B at *
   cases A<;>cases B
   all_goals simp[go_sem,i]
   all_goals exact .zsc _
  grind
theorem f46(x N n a b)(I:OkMa x N)(U:n.sD=[a,b])(ih:IH x N n)(p)(hp:OkP x N p)(hq:bd p n)(i:n.op=46):qZ qe 78 [eMa x,ePl p,eNd n] (endB (bX (jk [den x a,den x b] n.name p) fun l => .ok (l.any fun e=>e.2))):=by
 refine zl.of_sound ?_;refine qSW call78 func78 rfl {} ?_;have a0:=yc x;have o:=KW x N n a b I U ih p hp hq;have wx:=wk3 x p n;simp[go_sem,i];cases J:jk [den x a,den x b] n.name p with
 |error e =>
  rw[J]at o;refine kL o wx ?_;simp[go_sem,zL];exact .hf _ (qQ _)
 |ok l =>
  rw[J]at o;have hl:l.length<=8000:=KY J 8000 fun d h=>((ih a (by rw[U];simp) p hp zOm).G d h).len I.n0 (aL I)
  have r:=KU 1 (l.map Prod.fst) (l.map Prod.snd) zSp zSo;rw[KX]at r;rw[U5]at o;refine tS o.toP wx ?_;generalize insC 1 (l.map Prod.fst) (l.map Prod.snd)=C at *
  simp[go_sem,zr];refine tC r (fun j M=>∃ g,M = .arr [aB ((l.take j).any fun e=>e.2)] :: .arr [aB ((l.take j).all fun e=>e.2)] :: g) (fun _ _=>False) ?_ ?_ ?_ ?_ ?_ ?_
  .simp_all [qC,yP]
  .simp
  .grind
  .rintro j y M hj ⟨g,rfl⟩
   rw[zn,jR]at hj;obtain⟨t,ht,rfl⟩:=hj;obtain⟨P,R⟩:=qk.1 ht;have T:=yv P;rw[R]at T;refine⟨rfl,?_⟩;have ha:((l.take (j+1)).any fun e=>e.2)=((l.take j).any (fun e=>e.2)||t.2):=by rw[T,List.any_append];simp
   have hb:((l.take (j+1)).all fun e=>e.2)=((l.take j).all (fun e=>e.2)&&t.2):=by rw[T,List.all_append];simp
   generalize (l.take j).any (fun e=>e.2)=A at *
   generalize (l.take j).all (fun e=>e.2)=B at *
   cases A<;>cases B<;>cases t2:t.2
   all_goals simp[go_sem]
   all_goals refine tA ?_
   all_goals rw[ha,hb,t2]
   all_goals exact⟨_,rfl⟩
  .rintro M ⟨g,rfl⟩
   rw[zT,qO];generalize (l.any fun e=>e.2)=A at *
   generalize (l.all fun e=>e.2)=B at *
   cases A<;>cases B
   all_goals simp[go_sem,i]
   all_goals exact .zsc _
  grind
theorem qbQ(x):∀ f s acc,(Qw x f s acc).length<=acc.length+f
 | 0,s,acc=>by simp[Qw]
 |f+1,s,acc=>by
  simp only[Qw];split
  .omega
  .have:=qbQ x f (x.nx s) (acc++[s])
   rw[zd,List.length_singleton]at this;omega
theorem K1(x:Mo)(s):(x.path s).length<=x.m.sK.length+1:=by
 grind [qbQ,Mo.path]
theorem U6{x N}(i:OkMa x N){p}(g:OkP x N p):∀ s,s∈x.path p.st->OkP x N ⟨s,p.env⟩:=fun s j=>by
 obtain⟨k,rfl⟩:=E8.qnY i.toOkX g.st j;exact⟨X5 i.toOkX g.st k,g.env⟩
theorem qnZ(l:List Bool):l.all id=!decide (false∈l):=by
 rw[j9];simp
theorem qn0(l:List Bool):l.any id=decide (true∈l):=by
 rw[j9];simp
theorem f48(x N n a)(o:OkMa x N)(r:n.sD=[a])(P:IH x N n)(p)(J:OkP x N p)(hq:bd p n)(t:n.op=48):qZ qe 78 [eMa x,ePl p,eNd n] (endB (bX (mapX (fun s=>(den x a).F ⟨s,p.env⟩) (x.path p.st)) fun l => .ok (l.all id))):=by
 refine zl.of_sound ?_;refine qSW call78 func78 rfl {} ?_;have i:=yc x;have hN:=o.N1;have hl:=o.len;have C:=KP x N o p.st J.st;have R:=K1 x p.st;have I:WKs [eMa x,aI p.st] [eMa x,aI p.st] := .zk i (.zs .nil);have g:=qbH x (x.path p.st) zOm p a fun s T=>P a (by rw[r];simp) _ (U6 o J s T) (by grind)
 have j:WKs [eMa x,lN (x.path p.st),ePl p,eNd a] [eMa x,lN (x.path p.st),ePl p,eNd a] := .zk i (.cons (cP _) (.zk (UO p) (.zk (qK a) .nil)));simp[go_sem,t];refine fD [0,1,2,3,5,6,7,8,9,4,10,11,12,13] [(0,0,[]),(1,0,[]),(2,0,[]),(3,0,[]),(5,0,[]),(6,0,[]),(7,0,[]),(8,0,[]),(9,0,[]),(4,1,[5,7,9]),(10,1,[]),(11,1,[]),(12,0,[]),(13,0,[])] zKr zKr zSi ?_;simp[go_sem,r];refine tS C I ?_;simp[go_sem,r];cases em:mapX (fun s=>(den x a).F ⟨s,p.env⟩) (x.path p.st) with
 |error e =>
  rw[em]at g;refine kL g j ?_;simp[go_sem,zL];exact .hf _ (qQ _)
 |ok l =>
  rw[em]at g;have U:l.length=(x.path p.st).length:=EK.K0 em;refine fR g.toP j ?_;refine tS (qbI l false zOm) (.zk (J9 l) (.zs .nil)) ?_;have hb:(l.all id)=!decide (false∈l):=qnZ l;generalize decide (false∈l)=B at *
  simp[go_sem,zr,hb];exact .zsc _
theorem f49(x N n a)(o:OkMa x N)(r:n.sD=[a])(P:IH x N n)(p)(J:OkP x N p)(hq:bd p n)(t:n.op=49):qZ qe 78 [eMa x,ePl p,eNd n] (endB (bX (mapX (fun s=>(den x a).F ⟨s,p.env⟩) (x.path p.st)) fun l => .ok (l.any id))):=by
 refine zl.of_sound ?_;refine qSW call78 func78 rfl {} ?_;have i:=yc x;have hN:=o.N1;have hl:=o.len;have C:=KP x N o p.st J.st;have R:=K1 x p.st;have I:WKs [eMa x,aI p.st] [eMa x,aI p.st] := .zk i (.zs .nil);have g:=qbH x (x.path p.st) zOm p a fun s T=>P a (by rw[r];simp) _ (U6 o J s T) (by grind)
 have j:WKs [eMa x,lN (x.path p.st),ePl p,eNd a] [eMa x,lN (x.path p.st),ePl p,eNd a] := .zk i (.cons (cP _) (.zk (UO p) (.zk (qK a) .nil)));simp[go_sem,t];refine fD [0,1,2,3,5,6,7,8,9,4,10,11,12] [(0,0,[]),(1,0,[]),(2,0,[]),(3,0,[]),(5,0,[]),(6,0,[]),(7,0,[]),(8,0,[]),(9,0,[]),(4,1,[5,7,9]),(10,1,[]),(11,1,[]),(12,0,[])] zKr zKr zSi ?_;simp[go_sem,r];refine tS C I ?_;simp[go_sem,r];cases em:mapX (fun s=>(den x a).F ⟨s,p.env⟩) (x.path p.st) with
 |error e =>
  rw[em]at g;refine kL g j ?_;simp[go_sem,zL];exact .hf _ (qQ _)
 |ok l =>
  rw[em]at g;have U:l.length=(x.path p.st).length:=EK.K0 em;refine fR g.toP j ?_;refine tS (qbI l true zOm) (.zk (J9 l) (.zs .nil)) ?_;have hb:(l.any id)=decide (true∈l):=qn0 l;generalize decide (true∈l)=B at *
  simp[go_sem,zr,hb];exact .zsc _
theorem f50(x N n a)(g:OkMa x N)(j:n.sD=[a])(P:IH x N n)(p)(C:OkP x N p)(T:bd p n)(l:n.op=50):qZ qe 78 [eMa x,ePl p,eNd n] (endB ((den x a).F ⟨x.nx p.st,p.env⟩)):=by
 refine zl.of_sound ?_;refine qSW call78 func78 rfl {} ?_;have R:=yc x;have i:=(P a (by rw[j];simp) _ (OkP.nx g.toOkM C) (by grind)).F;have I:=wk3 x ⟨x.nx p.st,p.env⟩ a;have U:=g.N1;have hl:=g.len;have o:=X6 x g.loop zOm p.st (zW1 C.st);have t:WKs [eMd x.m,aI p.st] [eMd x.m,aI p.st] := .zk (yM x.m) (.zs .nil);simp[go_sem,l];refine fD [0,1,2,3,4,5,6,8,9,11,12,13,14,7,10,15,16] [(0,0,[]),(1,0,[]),(2,0,[]),(3,0,[]),(4,0,[]),(5,0,[]),(6,0,[]),(8,0,[]),(9,0,[]),(11,0,[]),(12,0,[]),(13,0,[]),(14,0,[]),(7,1,[9,12,14]),(10,0,[]),(15,1,[]),(16,0,[])] zKr zKr zSi ?_;simp[go_sem,j];refine tS o t ?_;simp[go_sem,j];cases J:(den x a).F ⟨x.nx p.st,p.env⟩ with
 |error e =>
  rw[J]at i;refine kL i I ?_;simp[go_sem];exact .hf _ (qQ _)
 |ok r =>
  rw[J]at i;refine fR i.toP I ?_;exact .zsc _
theorem f51(x N n a b)(g:OkMa x N)(i:n.sD=[a,b])(o:IH x N n)(p)(j:OkP x N p)(R:bd p n)(l:n.op=51):qZ qe 78 [eMa x,ePl p,eNd n] (endB (untX (fun s=>(den x a).F ⟨s,p.env⟩) (fun s=>(den x b).F ⟨s,p.env⟩) (x.path p.st) false false)):=by
 refine zl.of_sound ?_;refine qSW call78 func78 rfl {} ?_;have J:=yc x;have T:=g.N1;have U:=g.len;have P:=K1 x p.st;have t:=qnE x N n a b g i p j (fun s C=>⟨o a (by rw[i];simp) _ (U6 g j s C) (by grind),o b (by rw[i];simp) _ (U6 g j s C) (by grind)⟩) zOm;have I:=wk3 x p n;generalize untX (fun s=>(den x a).F ⟨s,p.env⟩) (fun s=>(den x b).F ⟨s,p.env⟩) (x.path p.st) false false=E at *
 simp[go_sem,l];cases E with
 |error e =>
  refine kL t I ?_;simp[go_sem];exact .hf _ (qQ _)
 |ok r =>
  refine fR t.toP I ?_;exact .zsc _
theorem f47(x N n)(hM:OkMa x N)(a0:n.sD.length<=1000000)(ih:IH x N n)(p)(hp:OkP x N p)(hq:bd p n)(J:n.op=47):qZ qe 78 [eMa x,ePl p,eNd n] (endB (bX (mapX (fun d:Den=>d.E p) (n.sD.map (den x))) fun _ => .error 45)):=by
 refine zl.of_sound ?_;refine qSW call78 func78 rfl {} ?_;have a1:=yc x;generalize U:mapX (fun d:Den=>d.E p) (n.sD.map (den x))=E;simp[go_sem,J];refine aK n.sD.length (fun k T=>∃ t,mapX (fun d:Den=>d.E p) ((n.sD.take k).map (den x)) = .ok t/\T.tm 0=eMa x/\T.tm 4 = .ip (cPl p)/\T.tm 282=lNd n.sD/\T.tm 283=aI n.sD.length/\T.tm 284=aI k) ?_ ?_
 .exact ⟨[],rfl,zSi,zSi,zSi,zSi,zSi⟩
 rintro k T hk ⟨t,C,e0,e4,o,g,i⟩;by_cases j:k<n.sD.length
 .have w1:=zWk k
  have I:=(ih n.sD[k] (qs j) p hp zOm).E;have hw:=wk3 x p n.sD[k];have l:=Yc (l2:=(n.sD.drop k).map (den x)) C;rw[<-ze,vO,zu j,z7,mapX,U]at l;simp[go_sem,e0,e4,o,g,i,j];cases P:(den x n.sD[k]).E p with
  |error e =>
   rw[P]at I l;rw[zL,zL]at l;subst l;refine kL I hw ?_;simp[go_sem,zL];exact .hf _ (qQ _)
  |ok r =>
   rw[P]at I;refine tS I.toP hw ?_;simp[go_sem,i,w1];refine⟨j,aA ⟨t++[r],?_,zS1 e0,zS1 e4,by simp[go_sem,o],by simp[go_sem,g],zSi⟩⟩;rw[yv j,ze,Yc C,z7,List.map_nil,mapX,P];rfl
 .have R:k=n.sD.length:=by omega
  subst R;rw[qO,U]at C;subst C;rw[zr];simp[go_sem,g,i];refine kL (wI 45) (wkI 45) ?_;simp[go_sem];exact .hf _ (qQ _)
theorem fNo(x n p)(h:∀ k,(30<=k/\k<=51)->n.op≠k):qZ qe 78 [eMa x,ePl p,eNd n] (endB (.error 43)):=by
 refine zl.of_sound ?_;refine qSW call78 func78 rfl {} ?_;have a8:=yc x;have g:=h 30 zDe;have i:=h 31 zDe;have j:=h 32 zDe;have l:=h 33 zDe;have o:=h 34 zDe;have r:=h 35 zDe;have t:=h 36 zDe;have C:=h 37 zDe;have I:=h 38 zDe;have J:=h 39 zDe;have P:=h 40 zDe;have R:=h 41 zDe;have T:=h 42 zDe;have U:=h 43 zDe;have a0:=h 44 zDe;have a1:=h 45 zDe;have a2:=h 46 zDe;have a3:=h 47 zDe;have a4:=h 48 zDe;have a5:=h 49 zDe;have a6:=h 50 zDe;have a7:=h 51 zDe;simp[go_sem,g,i,j,l,o,r,t,C,I,J,P,R,T,U,a0,a1,a2,a3,a4,a5,a6,a7];refine kL (wI 43) (wkI 43) ?_;simp[go_sem];exact .hf _ (qQ _)
end F9
namespace FA
open Y1 Y9 P2 E3 EA F1 F2 F3 F4 F7 F8 F9
theorem y6{f:Nat}{l A E}(h:qZ qe f l (endB A))(e:A=E):qZ qe f l (endB E):=e ▸ h
theorem qn1(x N n)(i:WfN n)(j:OkMa x N)(l:IH x N n)(p)(o:OkP x N p)(r:bd p n) :
  qZ qe 78 [eMa x,ePl p,eNd n] (endB ((den x n).F p)):=by
 rw[vT];show qZ _ _ _ (endB (opF x n.op n.name (n.sD.map (den x)) p));by_cases t:n.op=30
 .exact y6 (f30 x N n i j l p o r t) (by rw[t];rfl)
 by_cases C:n.op=31
 .exact y6 (f31 x N n i j l p o r C) (by rw[C];rfl)
 by_cases I:n.op=32
 .obtain ⟨a,b,g⟩:=jB i zOm
  exact y6 (f32 x N n a b j g l p o r I) (by rw[I,g];rfl)
 by_cases J:n.op=33
 .obtain ⟨a,b,g⟩:=jB i zOm
  exact y6 (f33 x N n a b j g l p o r J) (by rw[J,g];rfl)
 by_cases P:n.op=34
 .obtain ⟨a,g⟩:=um i zOm
  exact y6 (f34 x N n a j g l p o r _ (.inl ⟨P,rfl⟩)) (by rw[P,g];rfl)
 by_cases R:n.op=35
 .obtain ⟨a,g⟩:=um i zOm
  exact y6 (f34 x N n a j g l p o r _ (.inr (.inl ⟨R,rfl⟩))) (by rw[R,g];rfl)
 by_cases T:n.op=36
 .obtain ⟨a,g⟩:=um i zOm
  exact y6 (f34 x N n a j g l p o r _ (.inr (.inr (.inl ⟨T,rfl⟩)))) (by rw[T,g];rfl)
 by_cases U:n.op=37
 .obtain ⟨a,g⟩:=um i zOm
  exact y6 (f34 x N n a j g l p o r _ (.inr (.inr (.inr ⟨U,rfl⟩)))) (by rw[U,g];rfl)
 by_cases a0:n.op=38
 .obtain ⟨a,b,g⟩:=jB i zOm
  exact y6 (f38 x N n a b j g l p o r _ (.inl ⟨a0,rfl⟩)) (by rw[a0,g];rfl)
 by_cases a1:n.op=39
 .obtain ⟨a,b,g⟩:=jB i zOm
  exact y6 (f38 x N n a b j g l p o r _ (.inr ⟨a1,rfl⟩)) (by rw[a1,g];rfl)
 by_cases a2:n.op=40
 .obtain ⟨a,g⟩:=um i zOm
  exact y6 (f40 x N n a j g l p o r a2) (by rw[a2,g];rfl)
 by_cases a3:n.op=41
 .obtain ⟨a,b,g⟩:=jB i zOm
  exact y6 (f41 x N n a b j g l p o r _ (.inl ⟨a3,rfl⟩)) (by rw[a3,g];rfl)
 by_cases a4:n.op=42
 .obtain ⟨a,b,g⟩:=jB i zOm
  exact y6 (f41 x N n a b j g l p o r _ (.inr (.inl ⟨a4,rfl⟩))) (by rw[a4,g];rfl)
 by_cases a5:n.op=43
 .obtain ⟨a,b,g⟩:=jB i zOm
  exact y6 (f41 x N n a b j g l p o r _ (.inr (.inr (.inl ⟨a5,rfl⟩)))) (by rw[a5,g];rfl)
 by_cases a6:n.op=44
 .obtain ⟨a,b,g⟩:=jB i zOm
  exact y6 (f41 x N n a b j g l p o r _ (.inr (.inr (.inr ⟨a6,rfl⟩)))) (by rw[a6,g];rfl)
 by_cases a7:n.op=45
 .obtain ⟨a,b,g⟩:=jB i zOm
  exact y6 (f45 x N n a b j g l p o r a7) (by rw[a7,g];rfl)
 by_cases a8:n.op=46
 .obtain ⟨a,b,g⟩:=jB i zOm
  exact y6 (f46 x N n a b j g l p o r a8) (by rw[a8,g];rfl)
 by_cases a9:n.op=47
 .exact y6 (f47 x N n j (zW1 i.small.len) l p o r a9) (by rw[a9];rfl)
 by_cases aa:n.op=48
 .obtain ⟨a,g⟩:=um i zOm
  exact y6 (f48 x N n a j g l p o r aa) (by rw[aa,g];rfl)
 by_cases ab:n.op=49
 .obtain ⟨a,g⟩:=um i zOm
  exact y6 (f49 x N n a j g l p o r ab) (by rw[ab,g];rfl)
 by_cases ad:n.op=50
 .obtain ⟨a,g⟩:=um i zOm
  exact y6 (f50 x N n a j g l p o r ad) (by rw[ad,g];rfl)
 by_cases ae:n.op=51
 .obtain ⟨a,b,g⟩:=jB i zOm
  exact y6 (f51 x N n a b j g l p o r ae) (by rw[ae,g];rfl)
 refine y6 (fNo x n p fun k g e=>?_) ?_
 .omega
 simp_all[opF,if_neg]
theorem evX(x N)(j:OkMa x N):∀ m n,szN n<=m->WfN n->∀ p,OkP x N p->bd p n->Ev3 x p n
 | 0,n,I,_,_,_,_=>by
  obtain⟨op,nm,i,ks,q⟩:=n;simp only[szN,Nd.mk.sizeOf_spec]at I;omega
 |m+1,n,I,l,p,g,o=>by
  have t:IH x N n:=fun k C p g o=>evX x N j m k (zW1 (yu C)) (l.kid C) p g (by have:=qm5 C;show _+_<=_;omega)
  exact⟨exprX x N n l j t p g o,qnF x N n l j t p g o,qn1 x N n l j t p g o,fun r h=>qbC j.toOkM _ n (qr _) l p r g h⟩
end FA
namespace FB
open Y1 Y9 P2 YF E3 EA F1 F2 F3 FA
def outB:XE Bool->AV
 | .ok r => .tup [aB r,aI 0]
 | .error e => .tup [aB false,aI e]
theorem wkM(x:Mo):WKs [eTS x.ts,eMd x.m] [eTS x.ts,eMd x.m] := .zk (zp x.ts) (.zk (yM x.m) .nil)
theorem qn2(x N n)(o:WfN n)(i:OkMa x N)(p)(t:OkP x N p)(C:bd p n) :
  qi qe 35 [eTS x.ts,eMd x.m,aI p.st,lPm p.env,eNd n] (outB ((den x n).F p)):=by
 have hf:=(evX x N i (szN n) n (qr _) o p t C).F;have j:=wk3 x p n;generalize (den x n).F p=E at *
 refine qZ.toP ?_;refine zl.of_sound ?_;refine fQ call35 func35 rfl (Nat.le_of_ble_eq_true zKr) zKr (pl:={}) ?_;simp[go_sem];refine tK (g:=76) (first:=[]) (caps:=[]) zSi call76 ?_;simp[go_sem];refine qj.tail 7 zKr ?_;simp[go_sem];refine fR (qkS x i.gsc) (wkM x) ?_;cases E with
 |error e =>
  refine kL hf j ?_;simp[go_sem];refine jb.mono (qkU [.arr [aI 0]] 0 0 e rfl) ?_;rintro _ rfl;simp[go_sem];exact .hf _ (HF.tup (by simp only[qy,qG,or_false,forall_eq_or_imp,forall_eq];exact⟨HF.sc _,HF.sc _⟩))
 |ok r =>
  refine fR hf.toP j ?_;refine jb.mono (qkT [.arr [aI 0]] 0 0 rfl) ?_;rintro _ rfl;simp[go_sem];exact .hf _ (HF.tup (by simp only[qy,qG,or_false,forall_eq_or_imp,forall_eq];exact⟨HF.sc _,HF.sc _⟩))
end FB
namespace FC
open Y1 P2 YF E3 EO EP F1 F2 F3 F4 F6 F8 FB
def fmV:XE Bool->Bool×Int
 | .ok v=>(v,0)
 | .error e=>(false,e)
theorem qn3(q):outB q = .tup [aB (fmV q).1,aI (fmV q).2]:=by cases q<;>rfl
def u6(I:Nd->Nd×Int)(x:Mo):List Nd->Bool->Bool×Int
 | [],a=>(a,0)
 |b :: l,a=>if (I b).2≠0 then (false,(I b).2) else if (fmV ((den x (I b).1).F ⟨0,[]⟩)).2≠0 then (false,(fmV ((den x (I b).1).F ⟨0,[]⟩)).2) else u6 I x l (a&&(fmV ((den x (I b).1).F ⟨0,[]⟩)).1)
theorem Vn(xs:List Nd):zo 5 (xs.map cNd):=fun r g=>by
 obtain⟨n,_,rfl⟩:=qn.1 g;exact⟨by cases n;rfl,YJ n⟩
theorem put6(a n):putCells [aS ⟨#[]⟩,aI 0,aS ⟨#[]⟩,aI 0,.lst true [],aI 0] 0 (aS a :: cNd n)=aS a :: cNd n:=by cases n;rfl
theorem qn4(x N)(hM:OkMa x N)(hN:0<N)(I n)(hl:x.ts.sP.length<=1000)(hI:∀ b,b∈x.ts.sP.map Prod.snd++[n]->qi qe 34 [eTS x.ts,eNd b] (.tup [eNd (I b).1,aI (I b).2])/\((I b).2=0->WfN (I b).1/\dN (I b).1<=999999)) :
  qi qe 10 [eTS x.ts,eMd x.m,eNd n] (.tup [aB (u6 I x (x.ts.sP.map Prod.snd++[n]) true).1,aI (u6 I x (x.ts.sP.map Prod.snd++[n]) true).2]):=by
 generalize hR:u6 I x (x.ts.sP.map Prod.snd++[n]) true=R;refine qSU call10 func10 rfl ?_;refine aK x.ts.sP.length (fun k T=>T.tm 3 = .ip (cTS x.ts)/\T.tm 4 = .ip (cMd x.m)/\T.tm 5 = .ip (cNd n)/\T.tm 8=aB true/\T.tm 18=lFa x.ts.sP/\T.tm 19=aI x.ts.sP.length/\T.tm 20=aI k/\Own T.mu 5 (T.tm 9) (((x.ts.sP.take k).map Prod.snd).map cNd)) ?_ ?_
 .exact ⟨zSi,zSi,zSi,zSi,zSi,zSi,zSi,.inl zSi⟩
 rintro k T hk ⟨e3,e4,e5,e8,U,o,p,ho⟩;by_cases l:k<x.ts.sP.length
 .have w1:=zWk k
  simp[go_sem,U,o,p,l,put6];refine qz.ownB (e:=35) (sz:=5) (bt:=64) (zv := .agg [aI 0,aS ⟨#[]⟩,aI 0,.lst true [],aI 0]) (xs:=((x.ts.sP.take k).map Prod.snd).map cNd) (ys:=[cNd x.ts.sP[k].2]) zSi zSi zSi rfl rfl zOm zOm (Own.push ho _) (by simp[qE]) (Vn _) (Vn [_]) zSo ?_;intro a0 j t _ _ _;simp[go_sem,p,l,w1];refine aA ⟨zS1 e3,zS1 e4,zS1 e5,zS1 e8,zS1 U,zS1 o,zSi,?_⟩;rw[yv l,ze,ze];simpa[go_sem] using t
 .have C:k=x.ts.sP.length:=by omega
  subst C;rw[qO]at ho;simp[go_sem,e5,o,p];refine qz.ownB (e:=35) (sz:=5) (bt:=64) (zv := .agg [aI 0,aS ⟨#[]⟩,aI 0,.lst true [],aI 0]) (xs:=(x.ts.sP.map Prod.snd).map cNd) (ys:=[cNd n]) zSi zSi zSi rfl rfl zOm zOm ho (by simp[qE]) (Vn _) (Vn [_]) zSo ?_;intro a0 j t _ _ _;have a1:Own j 5 a0 ((x.ts.sP.map Prod.snd++[n]).map cNd):=by rw[ze];exact t
  have a5:(x.ts.sP.map Prod.snd++[n]).length<=1001:=zSo;generalize x.ts.sP.map Prod.snd++[n]=L at *
  simp[go_sem];refine pN (aI L.length) (by rcases a1 with h|⟨b,h,_⟩<;>rw[h]<;>simp) ?_;simp[go_sem];refine qm.fz ?_;refine FzQ.ownB (d:=33) zSi a1 (Vn L) (fun r hr c hc=>?_) fun a6 full _ _=>?_
  .obtain ⟨b,_,rfl⟩:=qn.1 hr
   exact vE b c hc
  refine aK L.length (fun k T=>∃ a,T.tm 3 = .ip (cTS x.ts)/\T.tm 4 = .ip (cMd x.m)/\T.tm 8=aB a/\T.tm 33 = .lst full (L.map cNd)/\T.tm 34=aI L.length/\T.tm 35=aI k/\u6 I x (L.drop k) a=R) ?_ ?_
  .exact ⟨true,zS1 e3,zS1 e4,zS1 e8,zSi,zSi,zSi,hR⟩
  rintro k T hk ⟨a,f3,f4,f8,f33,f34,f35,hV⟩;by_cases l:k<L.length
  .have w1:=zWk k
   obtain⟨hi,a3⟩:=hI L[k] (qs l);rw[zu l,u6]at hV;have wi:WKs [eTS x.ts,eNd L[k]] [eTS x.ts,eNd L[k]] := .zk (zp _) (.zk (qK _) .nil);simp[go_sem,f3,f33,f34,f35,l];refine tS hi wi ?_;generalize a7:I L[k]=ib at *
   obtain⟨b',e'⟩:=ib;by_cases he:e'=0
   .subst he
    obtain⟨a4,a2⟩:=a3 rfl;replace a2:dN b'<=999999:=a2;rw[if_neg zSp]at hV;have hf:=qn2 x N b' a4 hM ⟨0,[]⟩ ⟨hN,zSp⟩ (by show 0+_<=_;omega);have wf:WKs [eTS x.ts,eMd x.m,aI (0:Nat),.lst true [],eNd b'] [eTS x.ts,eMd x.m,aI (0:Nat),lPm [],eNd b'] := .zk (zp _) (.zk (yM _) (.zs (.cons (WK.lst fun r hr=>absurd hr qG) (.zk (qK _) .nil))));rw[qn3]at hf;simp only at hV;generalize fmV ((den x b').F ⟨0,[]⟩)=q at *
    obtain⟨v,e2⟩:=q;simp[go_sem,f3,f4];refine tS hf wf ?_;by_cases P:e2=0
    .subst P
     rw[if_neg zSp]at hV;cases a<;>cases v
     all_goals simp[go_sem,f8,f35,l,w1]
     all_goals exact aA ⟨_,zS1 f3,zS1 f4,zSi,by simp[go_sem,f33],by simp[go_sem,f34],zSi,hV⟩
    .rw [if_pos P]at hV
     subst hV;simp[go_sem,P];exact .hf _ (HF.tup (by simp only[qy,qG,or_false,forall_eq_or_imp,forall_eq];exact⟨HF.sc _,HF.sc _⟩))
   .rw [if_pos he]at hV
    subst hV;simp[go_sem,he];exact .hf _ (HF.tup (by simp only[qy,qG,or_false,forall_eq_or_imp,forall_eq];exact⟨HF.sc _,HF.sc _⟩))
  .have C:k=L.length:=by omega
   subst C;rw[yd,u6]at hV;subst hV;simp[go_sem,f8,f34,f35];exact .hf _ (HF.tup (by simp only[qy,qG,or_false,forall_eq_or_imp,forall_eq];exact⟨HF.sc _,HF.sc _⟩))
end FC
namespace FD
open Y1 Y9 Q4 F2
theorem qn5{ks m}(h:∀ k,k∈ks->dN k<=m):dNs ks<=m:=by
 induction ks with
 |nil=>simp[dNs]
 |cons a l g =>
  simp only[dNs];have:=h a zSp;have:=g fun k i=>h k (zP1 i)
  omega
theorem qbR:∀ m n g,szN n<=m->forN n g=true->(dN n:Int)<=g
 | 0,n,g,l,_=>by
  obtain⟨op,nm,i,ks,q⟩:=n;simp only[szN,Nd.mk.sizeOf_spec]at l;omega
 |m+1,n,g,l,h=>by
  rw[Vk]at h;split at h
  .cases h
  .simp only[qH]at h
   have o:=KN h.2.2;have:dNs n.sD<=(g-1).toNat:=qn5 fun k j=>by
    have:=qbR m k (g-1) (zW1 (yu j)) (o k j);omega
   rw[qbD];omega
theorem qn6{n}(h:qT n=true):dN n<=24:=by
 simp only[qT,qH]at h;have:=qbR (szN n) n 24 (qr _) h.2;omega
theorem qbS:∀ x,(∀ a,a∈x->0<=a)->0<=sumI x:=fun x g=>by
 induction x with
 |nil=>simp[sumI]
 |cons a x i =>
  have o:=g a zSp;have j:=i fun b l=>g b (zP1 l)
  simp only[sumI,List.foldr_cons]at j⊢;omega
theorem qn7:∀ l i,(∀ a,a∈l->0<=a)->i<l.length->0<=gI l i/\0<=sumI (l.take i)/\sumI (l.take i)+gI l i<=sumI l:=fun l i h g=>by
 have e:sumI l=sumI (l.take (i+1))+sumI (l.drop (i+1)):=by rw[<-nW,vO]
 rw[uV l i g]at e;rw[uU g];have p:=qbS (l.drop (i+1)) fun a j=>h a (List.mem_of_mem_drop j)
 have o:=qbS (l.take i) fun a j=>h a (jI j)
 exact⟨h _ (qs g),o,zOm⟩
end FD
namespace GF
open E1 EO EQ EW F4 GD
abbrev rP(p:Int×Int):List AV:=[aI p.1,aI p.2]
abbrev lP(ps:List (Int×Int)):AV := .lst false (ps.map rP)
theorem Vo(xs:List (Int×Int)):zo 2 (xs.map rP):=fun r g=>by
 obtain⟨n,_,rfl⟩:=qn.1 g;exact⟨rfl,rfl⟩
abbrev eBd(b:Bd):AV := .agg (cBd b)
theorem K2(b):∀ c,c∈cBd b->HF c:=by
 intro c g;simp at g;rcases g with rfl|rfl|rfl|rfl
 .exact HF.sc _
 .exact zh _
 .exact HF.sc _
 .exact zh _
theorem qbT(b):HF (eBd b):=HF.agg (K2 b)
theorem qn8(x):qi qe 162 [eBd x] (.fn (.func 201) [] [.ip (cBd x)]):=by
 refine qSU call162 func162 rfl ?_;refine .hf _ (HF.fn (fun c g=>by simp at g) (fun c g=>?_))
 grind [HF.ip,K2]
def u7(x:Bd):List Int:=x.up.ts.filter fun t=>!decide (t∈x.lo.ts)
theorem qn9{I:Type}(p)(l:List I)(k h)(g:p l[k]=true):(l.filter p)[((l.take k).filter p).length]?=some l[k]:=by
 have e:l=l.take k++l[k] :: l.drop (k+1):=by
  rw[<-zu h,vO]
 have i:l.filter p=(l.take k).filter p++l[k] :: (l.drop (k+1)).filter p:=by
  conv=>lhs;rw[e]
  rw[List.filter_append,List.filter_cons,if_pos g]
 rw[i,zM (qr _)];simp
theorem qoA{I:Type}(p)(l:List I)(k h):((l.take (k+1)).filter p).length=((l.take k).filter p).length+(if p l[k]=true then 1 else 0):=by
 rw[List.take_add_one,qA h,List.filter_append];cases g:p l[k]<;>simp[g]
theorem qoB(x)(hl:x.up.ts.length<=1000000000)(R:x.lo.ts.length<=1000000000)(hs:x.lo.ts.Pairwise (·<=·)):ji qe 201 [.ip (cBd x)] ((u7 x).map fun t=>[aI t]):=by
 refine ji.of call201 fun i I Ix hS hX hY C h0=>?_
 refine qSW call201 func201 rfl {} ?_;simp[go_sem];refine tT (fun m T=>∃ k,m=x.up.ts.length-k/\k<=x.up.ts.length/\T.tm 0 = .yl i/\T.tm 1 = .ip (cBd x)/\T.tm 9=lI x.up.ts/\T.tm 10=aI x.up.ts.length/\T.tm 11=aI (k:Nat)/\I ((x.up.ts.take k).filter fun t=>!decide (t∈x.lo.ts)).length T.mu) x.up.ts.length ?_ ?_
 .exact ⟨0,zOm,zOm,zSi,zSi,zSi,zSi,zSi,zVs h0⟩
 rintro m T ⟨k,rfl,hk,U,e1,e9,o,p,P⟩;by_cases r:k<x.up.ts.length
 .simp [go_sem,e1,e9,o,p,r]
  refine tS (binU x.lo.ts x.up.ts[k] R hs) (.zk (zh _) (.zs .nil)) ?_;have g:=qoA (fun t=>!decide (t∈x.lo.ts)) x.up.ts k r;by_cases l:x.up.ts[k]∈x.lo.ts
  .simp [go_sem,p,l]
   rw[if_neg (zUs l),Nat.add_zero]at g;refine Keep.loop (x.up.ts.length-(k+1)) zOm ⟨k+1,rfl,zOm,zS1 U,zS1 e1,zS1 e9,zS1 o,?_,?_⟩
   .simp [go_sem];exact zWr
   .rw [g];simpa[go_sem] using P
  .simp [go_sem,U,l]
   rw[if_pos (zUs l)]at g;have J:((u7 x).map fun t=>[aI t])[((x.up.ts.take k).filter fun t=>!decide (t∈x.lo.ts)).length]?=some [aI x.up.ts[k]]:=by
    rw[zn,u7,qn9 _ _ k r (zUs l)];rfl
   refine qh.yield (hY _ _ _ J P) ?_;rintro b j (⟨rfl,a0⟩|⟨rfl,a1⟩)
   .simp [go_sem,p]
    refine Keep.loop (x.up.ts.length-(k+1)) zOm ⟨k+1,rfl,zOm,zS1 U,zS1 e1,zS1 e9,zS1 o,?_,?_⟩
    .simp [go_sem];exact zWr
    .rw [g];simpa[go_sem] using a0
   .simp [go_sem]
    exact .inr a1
 .have a2:k=x.up.ts.length:=by omega
  subst a2;rw[qO]at P;simp[go_sem,o,p];exact .inl P
def jo(k:Nat)(x:Bd):List (Int×Int):=(u7 x).map fun t=>((k:Int),t)
def qP:List Bd->Nat->List (Int×Int)
 | [],_=>[]
 |x :: l,k=>jo k x++qP l (k+1)
theorem qbU:∀ l m k,qP (l++m) k=qP l k++qP m (k+l.length)
 | [],m,k=>by simp[qP]
 |x :: l,m,k=>by
  rw[yP,qP,qP,qbU l m (k+1),zB];have:k+1+l.length=k+(x :: l).length:=zSo;rw[this]
theorem qbV(l:List Bd)(k h):qP (l.take (k+1)) 0=qP (l.take k) 0++jo k l[k]:=by
 rw[List.take_add_one,qA h];show qP (l.take k++[l[k]]) 0=_;rw[qbU];have:(l.take k).length=k:=zSo;rw[this,yj];simp[qP]
structure ZA (x:Bd):Prop where
 up:x.up.ts.length<=1000000
 lo:x.lo.ts.length<=1000000
 sorted:x.lo.ts.Pairwise (·<=·)
theorem U7:∀ l k,(∀ x,x∈l->ZA x)->(qP l k).length<=l.length*1000000
 | [],k,_=>by simp[qP]
 |x :: l,k,h=>by
  have i:=U7 l (k+1) (fun y g=>h y (zP1 g));have j:(jo k x).length<=1000000:=by
   rw[jo,zT];exact zQ (List.length_filter_le _ _) (h x zSp).up
  simp only[qP,zd,zG];omega
theorem cN{mu av xs}(h:Own mu 2 av (xs.map rP)):Rd mu av (lP xs):=
 h.rd (Vo xs).ok fun r i c g=>by
  obtain⟨n,_,rfl⟩:=qn.1 i;simp at g;rcases g with rfl|rfl<;>exact HF.sc _
theorem freeU(l)(hl:l.length<=1000)(hb:∀ x,x∈l->ZA x):qi qe 109 [lBd l] (lP (qP l 0)):=by
 refine qSU call109 func109 rfl ?_;refine tT (fun m T=>∃ k C p,m=l.length-k/\k<=l.length/\T.tm 3 = .ptr 0 0/\T.tm 7=lBd l/\T.tm 8=aI l.length/\T.tm 9=aI (k:Nat)/\T.mu = .arr [C] :: p/\Own T.mu 2 C ((qP (l.take k) 0).map rP)/\qp C≠some 0) l.length ?_ ?_
 .refine ⟨0,.lst true [],[],zOm,zOm,zSi,zSi,zSi,zSi,zSi,?_,by simp[qp]⟩
  simp[go_sem,qP];exact .inl rfl
 rintro m T ⟨k,C,p,rfl,hk,e3,e7,e8,e9,hm,ho,aa⟩;by_cases U:k<l.length
 .have hx:=hb _ (qs U)
  have af:(qP (l.take (k+1)) 0).length<=1000000000:=by
   grind [U7,jI,Nat.mul_le_mul_right]
  have a0:=qbV l k U;rw[hm]at ho;have ab:qp C≠some (p.length+1):=fun h=>by have:=Own.lt ho h;simp at this
  simp[go_sem,e7,e8,e9,hm,U];refine fR (qn8 l[k]) (.zk (qbT _) .nil) ?_;refine tC (qoB l[k] (zW1 hx.up) (zW1 hx.lo) hx.sorted) (fun j M=>∃ C o,M = .arr [C] :: o/\M[p.length+1]?=some (.arr [aI k])/\Own M 2 C ((qP (l.take k) 0++(jo k l[k]).take j).map rP)/\qp C≠some 0/\qp C≠some (p.length+1)) (fun _ _=>False) ?_ ?_ ?_ ?_ ?_ ?_
  .refine ⟨C,_,by simp only[qC,yP];rfl,zSi,?_,aa,ab⟩
   have:=Own.push ho [Cell.arr [aI k],Cell.arr (cBd l[k]),.dead];simp_all[go_sem]
  .rintro j M ⟨C,o,rfl,h1,h2,h3,h4⟩
   exact⟨C,o++[.dead],rfl,by grind,Own.push h2 _,h3,h4⟩
  .grind
  .rintro j x M hj ⟨C,o,rfl,h1,h2,h3,h4⟩
   rw[zn,jR]at hj;obtain⟨t,ht,rfl⟩:=hj;have ag:j<(u7 l[k]).length:=(qk.1 ht).1;have ah:(jo k l[k]).take (j+1)=(jo k l[k]).take j++[((k:Int),t)]:=by
    rw[List.take_add_one];have:(jo k l[k])[j]?=some ((k:Int),t):=by rw[jo,zn,ht];rfl
    rw[this];rfl
   have ai:(qP (l.take k) 0++(jo k l[k]).take j).length<=1000000000:=by
    grind
   refine⟨rfl,?_⟩;have ad:=(qk.1 h1).1;have a3:=h1;simp at a3;simp[go_sem,e3,a3];refine qz.ownB (e:=120) (sz:=2) (bt:=16) (zv := .agg [aI 0,aI 0]) (xs:=(qP (l.take k) 0++(jo k l[k]).take j).map rP) (ys:=[rP ((k:Int),t)]) zSi zSi zSi rfl rfl zOm zOm h2 (by simp[qE]) (Vo _) (Vo [((k:Int),t)]) (by grind) ?_;intro P a4 a1 a5 aj ak;have ae:=a5 0 zSp h3;have a6:=a5 (p.length+1) ad h4;rw[h1]at a6;obtain⟨I,rfl⟩:∃ I,a4 = .arr [C] :: I:=by
    cases a4 with
    |nil=>simp at ae
    |cons c r=>grind
   have R:qp P≠some 0:=fun h=>by grind
   have a7:qp P≠some (p.length+1):=fun h=>by grind
   have a8:=Own.set a1 (i:=0) (.arr [P]) R;have a9:(qP (l.take k) 0++(jo k l[k]).take j).map rP++[rP ((k:Int),t)]=(qP (l.take k) 0++(jo k l[k]).take (j+1)).map rP:=by
    grind
   rw[a9]at a8;simp[go_sem,e3,Own.one a1,Own.cells a1];exact tA ⟨P,I,rfl,zUs a6,zUs a8,R,a7⟩
  .rintro M ⟨C,o,rfl,h1,h2,h3,h4⟩
   have a2:(jo k l[k]).take ((u7 l[k]).map fun t=>[aI t]).length=jo k l[k]:=by
    simp_all[zT,z6,jo,qr]
   rw[a2,<-a0]at h2;simp[go_sem,e9];refine Keep.loop (l.length-(k+1)) zOm ⟨k+1,C,o,rfl,zOm,zS1 e3,zS1 e7,zS1 e8,?_,zSi,zVs h2,h3⟩;simp[go_sem];grind [z8]
  grind
 .have al:k=l.length:=by omega
  simp_all[go_sem,qO,cN]
end GF
namespace GH
open P1 YF E3 EO EQ ER EW F1 F4 GF GG
abbrev lMd(l:List Md):AV := .lst false (l.map cMd)
theorem Jh(xs:List Md):zo 4 (xs.map cMd):=fun r g=>by
 obtain⟨n,_,rfl⟩:=qn.1 g;exact⟨rfl,rfl⟩
theorem K3:∀ r c x,x∈subL c r->∀ y,y∈x->y∈c\/y∈r
 | [],c,x,h,y,g=>by grind [subL,qV]
 |z :: r,c,x,h,y,g=>by
  rw[subL,qM]at h;rcases h with h|h
  .rcases K3 r c x h y g with h|h
   .exact .inl h
   .exact .inr (zP1 h)
  .rcases K3 r _ x h y g with h|h
   .rcases qM.1 h with h|h
    .exact .inl h
    .rw [qV]at h;subst h;exact .inr zSp
   .exact .inr (zP1 h)
def vW(inst:Nat->List (List AV)->Md)(cs:List (List AV))(k:Nat):List Md:=(qu k).flatMap fun s=>(subL [] cs).map (inst s)
theorem qbW(inst cs k):vW inst cs (k+1)=vW inst cs k++(subL [] cs).map (inst k):=by
 unfold vW;rw[List.range_succ,List.flatMap_append];simp
theorem K4(inst cs):∀ k,(vW inst cs k).length=k*(subL [] cs).length
 | 0=>by simp[vW]
 |k+1=>by rw[qbW,zd,K4 inst cs k,zT,Nat.succ_mul]
theorem cG{mu av xs}(h:Own mu 4 av (xs.map cMd)):Rd mu av (lMd xs):=
 h.rd (Jh xs).ok fun r i c g=>by
  obtain⟨n,_,rfl⟩:=qn.1 i;simp at g;rcases g with rfl|rfl|rfl|rfl<;>first|exact HF.sc _|exact zh _|exact Z8 _
theorem qoC(ts)(sc:Sc)(bs cs inst)(S:Nat)(hS:sc.sN=S)(ax:S<=4)(hr:Zb cs)(hl:cs.length<=14)(aq:S*(subL [] cs).length<=1000000)
  (ay:S*2 ^ cs.length<=16384)
  (U:qi qe 55 [eTS ts,eSc sc] (aB true)) (P:qi qe 63 [eTS ts,eSc sc,lBd bs] (aB true)) (h3:qi qe 64 [eTS ts,eSc sc,lBd bs] (.lst false cs))
  (hi:∀ k,k<S->∀ c,c∈subL [] cs->qi qe 66 [eTS ts,eSc sc,lBd bs,aI (k:Nat),.lst false c] (eMd (inst k c))):qi qe 33 [eTS ts,eSc sc,lBd bs] (.tup [lMd (vW inst cs S),aI 0]):=by
 refine qSU call33 func33 rfl ?_;refine fR U (.zk (zp _) (.zk (zA _) .nil)) ?_;refine fR P (.zk (zp _) (.zk (zA _) (.zk (jw _) .nil))) ?_;refine tS h3 (.zk (zp _) (.zk (zA _) (.zk (jw _) .nil))) ?_;have ag:¬(14:Int)<cs.length:=zOm;have n0:¬(cs.length:Int)<0:=zOm;have o:min cs.length 64=cs.length:=zOm;have ar:(S:Int)*2 ^ cs.length<=16384:=by grind
 have au:(0:Int)<=(S:Int)*2 ^ cs.length:=by exact_mod_cast Nat.zero_le _
 have ah:qq.wrap ((S:Int)*2 ^ cs.length)=(S:Int)*2 ^ cs.length:=zWr;have ai:¬(16384:Int)<(S:Int)*2 ^ cs.length:=zOm;simp[go_sem,ag,hS,n0,o,ah,ai];refine tT (fun m T=>∃ k t p,m=S-k/\k<=S/\T.tm 3 = .ip (cTS ts)/\T.tm 4 = .ip [lI sc.sC,aI sc.sN]/\T.tm 5 = .ip [lBd bs]/\T.tm 8 = .lst false cs/\T.tm 9 = .ptr 0 0/\T.tm 39=aI S/\T.tm 40=aI (k:Nat)/\T.mu = .arr [t] :: p/\Own T.mu 4 t ((vW inst cs k).map cMd)/\qp t≠some 0) S ?_ ?_
 .refine ⟨0,.lst true [],[],zOm,zOm,zSi,zS1 hS,zSi,zSi,zSi,zSi,zSi,zSi,?_,by simp[qp]⟩
  simp[go_sem,vW];exact .inl rfl
 rintro m T ⟨k,t,p,rfl,hk,e3,e4,e5,e8,e9,a0,a1,hm,ho,aj⟩;by_cases a6:k<S
 .have az:=K4 inst cs (k+1)
  have aw:=Nat.mul_le_mul_right (subL [] cs).length (show k+1<=S by omega);have a2:=qbW inst cs k;rw[hm]at ho;have ak:qp t≠some (p.length+1):=fun h=>by have:=Own.lt ho h;simp at this
  simp[go_sem,e8,a0,a1,hm,a6];refine fR (qnN cs hr) (.zk (HF.lst fun r a3 x hx=>(hr r a3).2.2 x hx) .nil) ?_;refine tC (qnM cs hr zOm) (fun j M=>∃ t l,M = .arr [t] :: l/\M[p.length+1]?=some (.arr [aI k])/\Own M 4 t ((vW inst cs k++((subL [] cs).map (inst k)).take j).map cMd)/\qp t≠some 0/\qp t≠some (p.length+1)) (fun _ _=>False) ?_ ?_ ?_ ?_ ?_ ?_
  .refine ⟨t,_,by simp only[qC,yP];rfl,zSi,?_,aj,ak⟩
   have:=Own.push ho [Cell.arr [aI k],.dead];simp_all[go_sem]
  .rintro j M ⟨t,l,rfl,U,P,h3,h4⟩
   exact⟨t,l++[.dead],rfl,by grind,Own.push P _,h3,h4⟩
  .grind
  .rintro j x M hj ⟨t,l,rfl,U,P,h3,h4⟩
   rw[zn,jR]at hj;obtain⟨c,hc,rfl⟩:=hj;have b0:j<(subL [] cs).length:=(qk.1 hc).1;have a7:c∈subL [] cs:=zb hc;have b1:((subL [] cs).map (inst k)).take (j+1)=((subL [] cs).map (inst k)).take j++[inst k c]:=by
    rw[List.take_add_one];have:((subL [] cs).map (inst k))[j]?=some (inst k c):=by rw[zn,hc];rfl
    rw[this];rfl
   refine⟨rfl,?_⟩;have al:=(qk.1 U).1;have a8:=U;simp at a8;simp[go_sem];refine cJ zKr ?_;simp[go_sem,e3,e4,e5,e9,a8];refine tS (hi k a6 c a7) (.zk (zp _) (.zk (zA _) (.zk (jw _) (.zs (.zk (HF.lst ?_) .nil))))) ?_
   .exact fun r a3 x hx=>(hr r (by rcases K3 cs [] c a7 r a3 with h|h;exact absurd h zSp;exact h)).2.2 x hx
   simp[go_sem];refine qz.ownB (e:=43) (sz:=4) (bt:=64) (zv := .agg [.lst true [],aI 0,.lst true [],aI 0]) (xs:=vW inst cs k++((subL [] cs).map (inst k)).take j |>.map cMd) (ys:=[cMd (inst k c)]) zSi zSi zSi rfl rfl zOm zOm P (by simp[qE]) (Jh _) (Jh [inst k c]) ?_ ?_
   .grind
   intro I a9 a4 aa b2 b3;have an:=aa 0 zSp h3;have ab:=aa (p.length+1) al h4;rw[U]at ab;obtain⟨C,rfl⟩:∃ C,a9 = .arr [t] :: C:=by
    cases a9 with
    |nil=>simp at an
    |cons c r=>grind
   have R:qp I≠some 0:=fun h=>by grind
   have ad:qp I≠some (p.length+1):=fun h=>by grind
   have ae:=Own.set a4 (i:=0) (.arr [I]) R;have af:(vW inst cs k++((subL [] cs).map (inst k)).take j).map cMd++[cMd (inst k c)]=(vW inst cs k++((subL [] cs).map (inst k)).take (j+1)).map cMd:=by
    grind
   rw[af]at ae;simp[go_sem,e9,Own.one a4,Own.cells a4];exact tA ⟨I,C,rfl,zUs ab,zUs ae,R,ad⟩
  .rintro M ⟨t,l,rfl,U,P,h3,h4⟩
   have a5:((subL [] cs).map (inst k)).take ((subL [] cs).map fun c=>[AV.lst false c]).length=(subL [] cs).map (inst k):=by
    rw[zT,z6 zSp]
   rw[a5,<-a2]at P;simp[go_sem,a1];refine Keep.loop (S-(k+1)) zOm ⟨k+1,t,l,rfl,zOm,zS1 e3,zS1 e4,zS1 e5,zS1 e8,zS1 e9,zS1 a0,?_,zSi,zVs P,h3⟩;simp[go_sem];grind [z8]
  grind
 .have ao:k=S:=by omega
  subst ao;rw[hm]at ho;simp[go_sem,e9,a0,a1,hm];refine .tup _ _ rfl fun j x y hx hy=>?_
  match j with
  | 0=>grind [cG]
  | 1=>simp at hx hy;subst hx;subst hy;exact .zsc _
  |j+2=>simp at hx
end GH
namespace GU
open YF P1 E1 E3 EO EQ F4 GF GH GR GS
abbrev Ch:=Int×Int×Int
abbrev rC(c:Ch):List AV:=[aI c.1,aI c.2.1,aI c.2.2]
theorem u9(l:List Ch):zo 3 (l.map rC):=fun r g=>by
 obtain⟨n,_,rfl⟩:=qn.1 g;exact⟨rfl,rfl⟩
abbrev lCh(l:List Ch):AV := .lst false (l.map rC)
def chA(g:List Bool)(s:Nat)(i:List (Int×Int)):List Ch:=(i.filter fun p=>decide (s=0)||g.getD p.1.toNat true).map fun p=>((s:Int),p.1,p.2)
def chs(g:List Bool)(i:List (Int×Int))(k:Nat):List Ch:=(qu k).flatMap fun s=>chA g s i
theorem U8(g i k):chs g i (k+1)=chs g i k++chA g k i:=by
 rw[chs,List.range_succ,List.flatMap_append];simp[chs]
theorem K5(i s)(g:List (Int×Int))(j h):chA i s (g.take (j+1))=chA i s (g.take j)++(if (decide (s=0)||i.getD g[j].1.toNat true)=true then [((s:Int),g[j].1,g[j].2)] else []):=by
 rw[vZ h,chA,List.filter_append,ze];by_cases l:(decide (s=0)||i.getD g[j].1.toNat true)=true
 .rw [if_pos l,show [g[j]].filter (fun p=>decide (s=0)||i.getD p.1.toNat true)=[g[j]] from List.filter_cons_of_pos (p:=fun p:Int×Int=>decide (s=0)||i.getD p.1.toNat true) l];rfl
 .rw [if_neg l,show [g[j]].filter (fun p=>decide (s=0)||i.getD p.1.toNat true)=[] from List.filter_cons_of_neg (p:=fun p:Int×Int=>decide (s=0)||i.getD p.1.toNat true) l];rfl
theorem U9(i s g):(chA i s g).length<=g.length:=by
 rw[chA,zT];grind
theorem Wa(i g):∀ k,(chs i g k).length<=k*g.length
 | 0=>by simp[chs]
 |k+1=>by
  rw[U8,zd,Nat.succ_mul];have:=Wa i g k;have:=U9 i k g;omega
theorem K6:∀ g k,∀ p,p∈qP g k->(k:Int)<=p.1/\p.1<(k+g.length:Nat)
 | [],k,p,h=>by simp[qP]at h
 |b :: g,k,p,h=>by
  simp only[qP,qM]at h;rcases h with h|h
  .simp only[jo,qn]at h
   obtain⟨t,_,rfl⟩:=h;simp;omega
  .have:=K6 g (k+1) p h
   simp only[zG];omega
theorem qoD(ts)(sc:Sc)(p)(N:Nat)(hS:sc.sN=N)(hN:N<=4)(hl:p.length<=1000)(hb:∀ x,x∈p->ZA x)(ag:p.length<=ts.sA.length)(a9:(qP p 0).length<=100000) :
  qi qe 64 [eTS ts,eSc sc,lBd p] (lCh (chs (vsT ts) (qP p 0) N)):=by
 have R:=freeU p hl hb;have ah:=U7 p 0 hb;have a1:=K6 p 0;generalize hF:qP p 0=F at *
 refine qSV call64 func64 rfl ?_;simp[go_sem,hS];refine aK N (fun k T=>T.tm 2=lBd p/\T.tm 3 = .ip (cTS ts)/\T.tm 12=aI N/\T.tm 13=aI k/\Own T.mu 3 (T.tm 7) ((chs (vsT ts) F k).map rC)) ?_ ?_
 .exact ⟨zSi,zSi,zSi,zSi,.inl (by simp[go_sem,chs])⟩
 rintro k T hk ⟨e2,e3,l,o,ho⟩;by_cases a2:k<N
 .have w1:=zWk k
  have ai:=Wa (vsT ts) F k;have ae:k*F.length<=4*100000:=Nat.mul_le_mul zOm a9;simp[go_sem,e2,l,o,a2];refine fR R (.zk (jw _) .nil) ?_;refine aK F.length (fun j st2=>st2.tm 2=lBd p/\st2.tm 3 = .ip (cTS ts)/\st2.tm 12=aI N/\st2.tm 13=aI k/\st2.tm 8=aI k/\st2.tm 17=lP F/\st2.tm 18=aI F.length/\st2.tm 19=aI j/\Own st2.mu 3 (st2.tm 7) ((chs (vsT ts) F k++chA (vsT ts) k (F.take j)).map rC)) ?_ ?_
  .simp_all [go_sem,chA]
  clear e2 e3 l o;rintro j st2 hj ⟨e2,e3,l,o,e8,a3,U,a4,t⟩;by_cases C:j<F.length
  .have w2:=zWk j
   have hm:=a1 _ (qs C);obtain⟨f,hf⟩:=Int.eq_ofNat_of_zero_le (show 0<=F[j].1 by omega);have a5:f<ts.sA.length:=zOm;have aa:0<=F[j].1:=zOm;have ab:F[j].1.toNat=f:=zOm;have a6:F[j].1<ts.sA.length:=zOm;have ad:(vsT ts).getD F[j].1.toNat true=ts.sA[f].var:=by grind
   have aj:=U9 (vsT ts) k (F.take j);have ak:=List.length_take_le j F;have hs:=K5 (vsT ts) k F j C;rw[ad]at hs;have af:∀(K:AV->Mu->Prop)(c:Cell),(∀ a7 a8,Own a8 3 a7 ((chs (vsT ts) F k++(chA (vsT ts) k (F.take j)++[((k:Int),F[j].1,F[j].2)])).map rC)->K a7 a8)->qz qe (st2.mu++[c]) #[127,127] (st2.tm 7) (.lst true [[aI k,aI F[j].1,aI F[j].2]]) K:=fun K c hK=>by
    refine qz.ownB (e:=192) (sz:=3) (bt:=24) (zv := .agg [aI 0,aI 0,aI 0]) (xs:=(chs (vsT ts) F k++chA (vsT ts) k (F.take j)).map rC) (ys:=[rC ((k:Int),F[j].1,F[j].2)]) zSi zSi zSi rfl rfl zOm zOm (Own.push t _) (by simp[qE]) (u9 _) (u9 [_]) zSo ?_
    grind
   by_cases P:(decide (k=0)||ts.sA[f].var)=true
   .rw [if_pos P]at hs
    by_cases I:k=0
    .simp_all [go_sem,aA]
    .have hv:ts.sA[f].var=true:=by simpa[I] using P
     simp_all[go_sem,aA]
   .rw [if_neg P,zO]at hs
    have I:¬k=0:=fun h=>P (zP1 h)
    have hv:ts.sA[f].var=false:=by simpa[I] using P
    simp[go_sem,e3,e8,a3,U,a4,C,I,aa,ab,a6,a5,hv,w2]
    try refine⟨C,aA ?_⟩
    try refine aA ?_
    refine⟨zS1 e2,zS1 e3,zS1 l,zS1 o,zS1 e8,zS1 a3,zS1 U,zSi,?_⟩;rw[hs];simpa[go_sem] using Own.push t _
  .have a0:j=F.length:=by omega
   subst a0;rw[qO]at t;simp[go_sem,o,U,a4,w1]
   try refine⟨a2,aA ?_⟩
   try refine aA ?_
   refine⟨zS1 e2,zS1 e3,zS1 l,zSi,?_⟩;rw[U8];simpa[go_sem] using t
 .have a0:k=N:=by omega
  subst a0;simp[go_sem,l,o];exact Own.rd ho (u9 _).ok fun r hr c P=>by
   obtain⟨n,_,rfl⟩:=qn.1 hr;simp at P;rcases P with rfl|rfl|rfl<;>exact HF.sc _
def selT(g:List Ch)(s f:Nat):List Int:=(g.filter fun c:Ch=>decide (c.1=(s:Int))&&decide (c.2.1=(f:Int))).map fun c=>c.2.2
def wd(g:List Ch)(s f:Nat)(b:Bd):Rl:=unR b.lo ⟨b.lo.ar,selT g s f⟩
def vq(i:List Bool)(j:List Bd)(g:List Ch)(s:Nat):List Rl:=j.mapIdx fun f b=>if s≠0/\i.getD f true=false then wd g 0 f b else wd g s f b
theorem Ji(i g j s):(vq i g j s).length=g.length:=by simp[vq]
theorem Vp(j g i s f h l):(vq j g i s)[f]=if s≠0/\j.getD f true=false then wd i 0 f g[f] else wd i s f g[f]:=by simp[vq]
theorem qoE(g:List Ch)(s f i h):selT (g.take (i+1)) s f=selT (g.take i) s f++(if g[i].1=s/\g[i].2.1=f then [g[i].2.2] else []):=by
 rw[vZ h,selT,List.filter_append,ze];by_cases j:g[i].1=s/\g[i].2.1=f
 .rw [if_pos j,show [g[i]].filter (fun c:Ch=>decide (c.1=(s:Int))&&decide (c.2.1=(f:Int)))=[g[i]] from List.filter_cons_of_pos (p:=fun c:Ch=>decide (c.1=(s:Int))&&decide (c.2.1=(f:Int))) (zUs j)];rfl
 .rw [if_neg j,show [g[i]].filter (fun c:Ch=>decide (c.1=(s:Int))&&decide (c.2.1=(f:Int)))=[] from List.filter_cons_of_neg (p:=fun c:Ch=>decide (c.1=(s:Int))&&decide (c.2.1=(f:Int))) (zUs j)];rfl
theorem qbX(g s f):(selT g s f).length<=g.length:=by rw[selT,zT];exact List.length_filter_le ..
abbrev zR:List AV:=[aI 0,.lst true []]
def jp(L:List Rl)(n j:Nat):List (List AV):=(L.take j).map cRel++q9 (n-j) zR
theorem qbY(L n j)(g:L.length=n)(h:j<=n):(jp L n j).length=n:=by grind [jp]
theorem qbZ(L n j):yR 2 (jp L n j):=fun r g=>by
 simp only[jp,qM,qn,List.mem_replicate]at g;rcases g with ⟨q,_,rfl⟩|⟨_,rfl⟩<;>rfl
theorem qoF(L n j)(i:L.length=n)(h:j<n):(jp L n j).set j (cRel (L[j]' zOm))=jp L n (j+1):=by
 unfold jp;have g:((L.take j).map cRel).length=j:=zSo;rw[List.set_append_right _ _ zOm,g,Nat.sub_self,show n-j=n-(j+1)+1 by omega,List.replicate_succ,List.set_cons_zero,vZ (show j<L.length by omega),ze,zB];rfl
theorem qoG(L n)(g:L.length=n):jp L n n=L.map cRel:=by
 unfold jp;rw[<-g,qO,Nat.sub_self];simp
structure qb0 (b:Bd):Prop where
 l:b.lo.ts.length<=50000
def jQ(sc:Sc)(g:List Bool)(i:List Bd)(j:List Ch)(N:Nat)(loop:Int):Md:=⟨sc,(qu N).map (vq g i j),loop⟩
theorem qoH(ts)(sc:Sc)(o p loop)(N:Nat)(hS:sc.sN=N)(hN:N<=4)(hl:o.length<=1000)(hb:∀ x,x∈o->qb0 x)(dc:o.length<=ts.sA.length)(dd:p.length<=50000) :
  qi qe 66 [eTS ts,eSc sc,lBd o,aI loop,lCh p] (eMd (jQ sc (vsT ts) o p N loop)):=by
 have bj:eMd (jQ sc (vsT ts) o p N loop) = .agg [lI sc.sC,aI N,lSt ((qu N).map (vq (vsT ts) o p)),aI loop]:=by rw[<-hS];rfl
 rw[bj];have a0:=Ji (vsT ts) o p;have bk:=Vp (vsT ts) o p;clear bj;generalize hA:vq (vsT ts) o p=A at a0 bk⊢;refine qSV call66 func66 rfl ?_;simp[go_sem,hS];refine aK N (fun k T=>T.tm 2=lBd o/\T.tm 4=lCh p/\T.tm 5 = .ip (cTS ts)/\T.tm 10 = .ptr 0 0/\T.tm 11 = .ptr 1 0/\T.tm 23=aI N/\T.tm 24=aI k /\
  ∃ s,T.mu[0]?=some (.arr [.lst true [],aI 0,.lst true [],aI 0])/\T.mu[1]?=some (.arr [lI sc.sC,aI N,s,aI loop])/\Own T.mu 1 s (((qu k).map A).map fun r=>[lRel r])/\∀ b,qp s=some b->2<=b) ?_ ?_
 .exact ⟨zSi,zSi,zSi,zSi,zSi,zSi,zSi,.lst true [],zSi,zSi,.inl zSp,by simp[qp]⟩
 rintro k T hk ⟨e2,e4,e5,ck,cl,bm,bn,s,h0,h1,ho,bb⟩;have cm:=(qk.1 h0).1;have de:=(qk.1 h1).1;by_cases bo:k<N
 .have w1:=zWk k
  have cn:(o.length:Int)<=4294967296:=zOm;simp[go_sem,e2,bm,bn,bo,cn];have bq:∀ b,qp s=some b->b<T.mu.length:=fun b h=>Own.lt ho h
  have df:2<=T.mu.length:=zOm;have dh:(q9 o.length [AV.sc (Value.int qq 0),AV.lst true []]).flatten=(jp (A k) o.length 0).flatten:=by simp[jp]
  generalize hR:T.mu.length=R at *
  refine aK o.length (fun j st2=>st2.tm 2=lBd o/\st2.tm 4=lCh p/\st2.tm 5 = .ip (cTS ts)/\st2.tm 10 = .ptr 0 0/\st2.tm 11 = .ptr 1 0/\st2.tm 23=aI N/\st2.tm 24=aI k/\st2.tm 12=aI k/\st2.tm 13 = .sl R 2 0 o.length/\st2.tm 30=lBd o/\st2.tm 31=aI o.length/\st2.tm 32=aI j /\
   st2.mu[R]?=some (.arr (jp (A k) o.length j).flatten)/\∀ i,i<R->st2.mu[i]?=T.mu[i]?) ?_ ?_
  .simp_all [go_sem]
  rintro j st2 hj ⟨f2,f4,f5,f10,f11,f23,f24,f12,f13,f30,f31,f32,an,P⟩;have cp:R<st2.mu.length:=(qk.1 an).1;have b7:st2.mu[1]?=some (.arr [lI sc.sC,aI N,s,aI loop]):=by grind
  by_cases C:j<o.length
  .have w2:=zWk j
   have bc:j<ts.sA.length:=zOm;have cq:(vsT ts).getD j true=ts.sA[j].var:=by rw[List.getD_eq_getElem?_getD,zn,qA bc];rfl
   have ao:(jp (A k) o.length j).flatten.length=o.length*2:=by rw[yQ (qbZ _ _ _),qbY _ _ _ (a0 k) zOm]
   have a3:∀ s,j<(A s).length:=fun s=>by grind
   have a9:(jp (A k) o.length j).flatten.take (j*2)++aI ((A k)[j]'(a3 k)).ar :: lI ((A k)[j]'(a3 k)).ts :: (jp (A k) o.length j).flatten.drop (j*2+2)=(jp (A k) o.length (j+1)).flatten:=by
    rw[<-qoF (A k) o.length j (a0 k) C,JF _ j _ (qbZ _ _ _) rfl (by grind [qbY]),jg _ _ _ (by rw[ao];simp only[cRel,zG,List.length_nil];omega)];simp
   have b8:∀ c,(st2.mu++[c])[R]?=some (.arr (jp (A k) o.length j).flatten):=fun c=>by grind
   simp[go_sem,f12,f30,f31,f32,C];by_cases be:k≠0/\ts.sA[j].var=false
   .obtain ⟨bg,hv⟩:=be
    have a2:0<k:=zOm;have aa:(A k)[j]'(a3 k)=(A 0)[j]'(a3 0):=by
     grind
    rw[aa]at a9;have bh:∀ c,(st2.mu++[c])[1]?=some (.arr [lI sc.sC,aI N,s,aI loop]):=fun c=>by grind
    have da:=a3 0;have cr:(((qu k).map A).map fun r=>[lRel r]).flatten[0]?=some (lRel (A 0)):=by
     obtain⟨k',rfl⟩:∃ k',k=k'+1:=⟨k-1,zOm⟩;rw[List.range_succ_eq_map];simp
    have cs:(((qu k).map A).map fun r=>[lRel r]).length=k:=zSp;generalize ab:(((qu k).map A).map fun r=>[lRel r])=rows at *
    have di:rows[0]?=some [lRel (A 0)]:=by
     rw[<-ab];obtain⟨k',rfl⟩:∃ k',k=k'+1:=⟨k-1,zOm⟩;simp
    have br:(rows.map List.length).sum=k:=by
     have:=yQ (sz:=1) (xs:=rows) (by rw[<-ab];intro r hr;obtain⟨n,_,rfl⟩:=qn.1 hr;rfl);rw[List.length_flatten]at this;omega
    have bu:rows.flatten.take 1=[lRel (A 0)]:=by
     cases dj:rows.flatten with
     |nil=>grind
     |cons x l=>grind
    simp[go_sem,f5,f11,f13,a2,bc,hv,bh];rcases ho with rfl|⟨c,rfl,bv⟩
    .refine pN (.ip [lRel (A 0)]) (by grind) ?_
     simp[go_sem,C,b8,a0,ao];refine pN ((st2.mu++[Cell.arr (cBd o[j])]).set R (.arr (jp (A k) o.length (j+1)).flatten)) (by rw[if_pos zOm,a9]) ?_;simp[go_sem,f32,C,w2]
     try refine⟨C,aA ?_⟩
     try refine aA ?_
     refine⟨zS1 f2,zS1 f4,zS1 f5,zS1 f10,zS1 f11,zS1 f23,zS1 f24,zS1 f12,zS1 f13,by simp[go_sem,f30],by simp[go_sem,f31],zSi,?_,fun i hi=>?_⟩
     .simp only[qC];rw[qL zSo]
     grind [qC,yJ,qN]
    .have dk:=(qk.1 bv).1
     have bw:∀ x,(st2.mu++[x])[c]?=some (.arr rows.flatten):=fun x=>by rw[zGa,P c zOm];exact bv
     simp[go_sem,a2,bw,cs];refine pN (lRel (A 0)) (by rw[br,if_pos zOm,bu];rfl) ?_;simp[go_sem,C,b8,a0,ao];refine pN ((st2.mu++[Cell.arr (cBd o[j])]).set R (.arr (jp (A k) o.length (j+1)).flatten)) (by rw[if_pos zOm,a9]) ?_;simp[go_sem,f32,C,w2]
     try refine⟨C,aA ?_⟩
     try refine aA ?_
     refine⟨zS1 f2,zS1 f4,zS1 f5,zS1 f10,zS1 f11,zS1 f23,zS1 f24,zS1 f12,zS1 f13,by simp[go_sem,f30],by simp[go_sem,f31],zSi,?_,fun i hi=>?_⟩
     .simp only[qC];rw[qL zSo]
     .simp only[qC];rw[zGl,zGa];exact P i hi
   .have aa:(A k)[j]'(a3 k)=wd p k j o[j]:=by
     rw[bk k j C,cq];by_cases bg:k=0
     .rw [if_neg (fun h=>h.1 bg)]
     .rw [if_neg (fun h=>be h)]
    rw[aa]at a9;have ct:0<k->ts.sA[j].var=true:=fun bg=>by
     cases hv:ts.sA[j].var with
     |true=>rfl
     |false=>exact absurd ⟨zOm,hv⟩ be
    generalize hX:st2.mu.length=X at *
    by_cases a2:0<k
    all_goals simp[go_sem,f4,f5,a2,bc,ct,hX]
    all_goals
     refine aK p.length (fun i st3=>st3.tm 2=lBd o/\st3.tm 4=lCh p/\st3.tm 5 = .ip (cTS ts)/\st3.tm 10 = .ptr 0 0/\st3.tm 11 = .ptr 1 0/\st3.tm 23=aI N/\st3.tm 24=aI k/\st3.tm 12=aI k/\st3.tm 13 = .sl R 2 0 o.length/\st3.tm 30=lBd o/\st3.tm 31=aI o.length/\st3.tm 32=aI j /\
      st3.tm 14=aI j/\st3.tm 15 = .ptr X 0/\st3.tm 16 = .ptr (X+1) 0/\st3.tm 62=lCh p/\st3.tm 63=aI p.length/\st3.tm 64=aI i/\st3.mu[X]?=some (.arr (cBd o[j]))/\(∀ i,i<X->st3.mu[i]?=st2.mu[i]?) /\
      ∃ t,st3.mu[X+1]?=some (.arr [aI o[j].lo.ar,t])/\Own st3.mu 1 t ((selT (p.take i) k j).map rI)/\∀ b,qp t=some b->X+1<b) ?_ ?_
     .refine ⟨zS1 f2,zS1 f4,zS1 f5,zS1 f10,zS1 f11,zS1 f23,zS1 f24,zS1 f12,zS1 f13,by simp[go_sem,f30],by simp[go_sem,f31],by simp[go_sem,f32],zSi,zSi,zSi,zSi,zSi,zSi,zS1 hX,fun i hi=>by simp[go_sem];rw[zGa],.lst true [],zS1 hX,.inl (by simp[selT]),by simp[qp]⟩
     rintro i st3 hi ⟨g2,g4,g5,aq,au,aw,ax,ad,ae,ay,az,b0,a4,b1,a5,b2,af,ag,ca,I,t,b3,ah,a6⟩;by_cases U:i<p.length
     .have w3:=zWk i
      have a7:=qoE p k j i U;have cb:=qbX (p.take i) k j;have db:=List.length_take_le i p;have cc:=(qk.1 b3).1;have bi:∀ c,(st3.mu++[c])[X]?=some (.arr (cBd o[j])):=fun c=>by rw[zGa];exact ca
      have b4:∀ c,(st3.mu++[c])[X+1]?=some (.arr [aI o[j].lo.ar,t]):=fun c=>by rw[qN cc];exact b3
      have cd:qp t≠some (X+1):=fun h=>zW1 (a6 _ h)
      simp[go_sem,ad,b2,af,ag,U];by_cases ai:p[i].1=(k:Int)
      .by_cases b5:p[i].2.1=(j:Int)
       .rw [if_pos ⟨ai,b5⟩]at a7
        simp[go_sem,a4,a5,b4,ai,b5];refine qz.ownB (e:=3) (sz:=1) (bt:=8) (zv:=aI 0) (xs:=(selT (p.take i) k j).map rI) (ys:=[rI p[i].2.2]) zSi zSi zSi rfl rfl zOm zOm (Own.push ah _) (by simp[qE]) (yC _) (yC [_]) zSo ?_;intro aj ak a1 a8 b6 cu;have q1:ak[X+1]?=some (.arr [aI o[j].lo.ar,t]):=by rw[a8 _ zSo cd];exact b4 _
        have q0:ak[X]?=some (.arr (cBd o[j])):=by rw[a8 _ zSo (fun h=>zW1 (a6 _ h))];exact bi _
        have ql:=(qk.1 q1).1;have cf:∀ b,qp aj=some b->X+1<b:=fun b h=>by have:=b6 b h;simp at this;omega
        simp[go_sem,a5,ag,U,q1,w3,Own.one a1,Own.cells a1]
        try refine⟨U,aA ?_⟩
        try refine aA ?_
        refine⟨zS1 g2,zS1 g4,zS1 g5,zS1 aq,zS1 au,zS1 aw,zS1 ax,zS1 ad,zS1 ae,zS1 ay,zS1 az,zS1 b0,zS1 a4,zS1 b1,zS1 a5,zS1 b2,zS1 af,zSi,?_,fun i hi=>?_,aj,?_,?_,cf⟩
        .simp only[qC];rw[zGl];exact q0
        .simp only[qC];rw[zGl,a8 i zSo (fun h=>zW1 (a6 _ h)),zGa];exact I i hi
        .simp only[qC];exact qL ql
        .simp only[qC];rw[a7,ze];exact Own.set a1 _ (fun h=>zW1 (cf _ h))
       .rw [if_neg (fun h=>b5 h.2),zO]at a7
        simp[go_sem,a4,ag,U,ai,b5,w3]
        try refine⟨U,aA ?_⟩
        try refine aA ?_
        refine⟨zS1 g2,zS1 g4,zS1 g5,zS1 aq,zS1 au,zS1 aw,zS1 ax,zS1 ad,zS1 ae,zS1 ay,zS1 az,zS1 b0,zS1 a4,zS1 b1,zS1 a5,zS1 b2,zS1 af,zSi,?_,fun i hi=>?_,t,?_,?_,a6⟩
        .simp only[qC];exact bi _
        .simp only[qC];rw[zGa];exact I i hi
        .simp only[qC];exact b4 _
        .simp only[qC];rw[a7];exact Own.push ah _
      .rw [if_neg (fun h=>ai h.1),zO]at a7
       simp[go_sem,ag,U,ai,w3]
       try refine⟨U,aA ?_⟩
       try refine aA ?_
       refine⟨zS1 g2,zS1 g4,zS1 g5,zS1 aq,zS1 au,zS1 aw,zS1 ax,zS1 ad,zS1 ae,zS1 ay,zS1 az,zS1 b0,zS1 a4,zS1 b1,zS1 a5,zS1 b2,zS1 af,zSi,?_,fun i hi=>?_,t,?_,?_,a6⟩
       .simp only[qC];exact bi _
       .simp only[qC];rw[zGa];exact I i hi
       .simp only[qC];exact b4 _
       .simp only[qC];rw[a7];exact Own.push ah _
     .have al:i=p.length:=by omega
      subst al;rw[qO]at ah;simp[go_sem,ae,a4,b1,a5,af,ag,ca,b3];have cb:=qbX p k j;have cv:=vF o[j].lo ⟨o[j].lo.ar,selT p k j⟩ (zW1 ((hb _ (qs C)).l)) (by show (selT p k j).length<=_;omega);have b9:∀ i,i<X->(cutM (fun i=>!decide (X<=i)) st3.mu 0)[i]?=st2.mu[i]?:=fun i hi=>by
       rw[jL,I i hi];simp only[yj,decide_eq_false (show ¬X<=i by omega),Bool.not_false,if_true];cases st2.mu[i]?<;>rfl
      refine fZ (qD.freeze (args1:=[eRel o[j].lo,eRel ⟨o[j].lo.ar,selT p k j⟩]) (fun i=>decide (X<=i)) ⟨.inl rfl,.inr ?_,trivial⟩ (qi.toSound _ cv (.zk (qY _) (.zk (qY _) .nil)))) ?_ ?_
      .exact Rd.aggs ⟨.hf _ (HF.sc _),Own.rd (Jg ah fun b h=>zW1 (a6 b h)) (yC _).ok fun r hr c hc=>by
        obtain⟨n,_,rfl⟩:=qn.1 hr;simp at hc;subst hc;exact HF.sc _,trivial⟩
      .rintro r m ⟨h,rfl⟩
       cases h;have cg:(cutM (fun i=>!decide (X<=i)) st3.mu 0)[R]?=some (.arr (jp (A k) o.length j).flatten):=by rw[b9 R cp];exact an
       simp[go_sem,cg,C,ao];have dm:(cutM (fun i=>!decide (X<=i)) st3.mu 0).length=st3.mu.length:=jT _ _ _;have cc:=(qk.1 b3).1;refine pN ((cutM (fun i=>!decide (X<=i)) st3.mu 0).set R (.arr (jp (A k) o.length (j+1)).flatten)) (by rw[if_pos zOm];exact congrArg (fun l=>some ((cutM (fun i=>!decide (X<=i)) st3.mu 0).set R (Cell.arr l))) a9) ?_;simp[go_sem,b0,C,w2]
       try refine⟨C,aA ?_⟩
       try refine aA ?_
       refine⟨zS1 g2,zS1 g4,zS1 g5,zS1 aq,zS1 au,zS1 aw,zS1 ax,zS1 ad,zS1 ae,zS1 ay,zS1 az,zSi,?_,fun i hi=>?_⟩
       .simp only[qC];rw[qL zOm]
       .simp only[qC];rw[zGl,b9 i zOm];exact P i hi
      .rintro r m ⟨h,_⟩
       cases h
  .have al:j=o.length:=by omega
   subst al;rw[qoG _ _ (a0 k)]at an;have cx:Own st2.mu 2 (.sl R 2 0 o.length) ((A k).map cRel) := .inr ⟨R,zP1 a0,an⟩;simp[go_sem,f11,f13,f31,f32,b7];refine aZ (e:=93) (sz:=1) (bt:=24) (zv := .lst true []) (xs:=((qu k).map A).map fun r=>[lRel r]) [lRel (A k)] R zSi zSi zSi rfl rfl zOm zOm ?_ bq ?_ ?_ ?_ zSo ?_
   .rcases ho with h|⟨b,h,hc⟩
    .exact .inl h
    .exact .inr ⟨b,h,by rw[P b (bq b (by rw[h];rfl))];exact hc⟩
   .exact ⟨Own.rd (Jg cx fun b h=>by cases h;exact qr _) (vQ _).ok fun r hr c hc=>by
     obtain⟨n,_,rfl⟩:=qn.1 hr;exact ZZ n c hc,trivial⟩
   .intro r hr
    obtain⟨n,_,rfl⟩:=qn.1 hr;exact⟨rfl,rfl⟩
   .intro r hr
    simp at hr;subst hr;exact⟨rfl,rfl⟩
   intro aj ak a1 a8 b6 cu dn;have g1:ak[1]?=some (.arr [lI sc.sC,aI N,s,aI loop]):=by rw[a8 1 zOm zOm (fun h=>zW1 (bb 1 h))];exact b7
   have g0:ak[0]?=some (.arr [.lst true [],aI 0,.lst true [],aI 0]):=by rw[a8 0 zOm zOm (fun h=>zW1 (bb 0 h)),P 0 zOm];exact h0
   have l1:=(qk.1 g1).1;simp[go_sem,f11,f24,g1,w1,Own.one a1,Own.cells a1]
   try refine⟨bo,aA ?_⟩
   try refine aA ?_
   refine⟨zS1 f2,zS1 f4,zS1 f5,zS1 f10,zS1 f11,zS1 f23,zSi,aj,zS1 g0,zS1 l1,?_,fun b h=>zW1 (b6 b h)⟩;rw[List.range_succ,ze,ze];simpa[go_sem] using Own.set a1 (.arr [lI sc.sC,aI N,aj,aI loop]) (fun h=>zW1 (b6 1 h))
 .have al:k=N:=by omega
  subst al;have cy:s.one=true:=Own.one ho;have dp:s.cells=[s]:=Own.cells ho;have cj:∀ c,(T.mu.set 0 c)[0]?=some c:=fun c=>qL cm
  simp[go_sem,ck,cl,bm,bn,h0,h1,cy,cj];have cz:=Own.set ho (i:=0) (.arr [lI sc.sC,aI k,s,aI loop]) (fun h=>zW1 (bb 0 h));refine Rd.aggs ⟨.hf _ (zh _),.hf _ (HF.sc _),?_,.hf _ (HF.sc _),trivial⟩;exact Own.rd cz (fun r hr=>by
   obtain⟨n,_,rfl⟩:=qn.1 hr;rfl) fun r hr c hc=>by
   obtain⟨n,_,rfl⟩:=qn.1 hr;simp at hc;subst hc;exact Qq n
end GU
namespace GY
open YF P1 E3 GF GG GH GS GU
section
variable {I:Type}
def subs:List I->List I->List (List I)
 |c,[]=>[c]
 |c,a :: r=>subs c r++subs (c++[a]) r
theorem Wb:∀(r c:List I),(subs c r).length=2 ^ r.length
 | [],c=>rfl
 |a :: r,c=>by rw[subs,zd,Wb r,Wb r,zG,Nat.pow_succ];omega
theorem Vq:∀(r c x:List I),x∈subs c r↔∃ y,y.Sublist r/\x=c++y
 | [],c,x=>by simp[subs]
 |a :: r,c,x=>by
  rw[subs,qM,Vq r,Vq r];constructor
  .rintro (⟨y,h,rfl⟩|⟨y,h,rfl⟩)
   .grind
   simp_all
  .rintro ⟨y,h,rfl⟩
   cases h with
   |cons _ h=>grind
   |cons_cons _ h=>grind
theorem Jj:∀ r c,subL (c.map rC) (r.map rC)=(subs c r).map (List.map rC)
 | [],c=>rfl
 |a :: r,c=>by
  rw[z7,subL,subs,ze,Jj r c,show c.map rC++[rC a]=(c++[a]).map rC by simp,Jj r]
def deI:AV->Int
 | .sc (.int _ n)=>n
 |_=>0
def deC:List AV->Ch
 | [a,b,c]=>(deI a,deI b,deI c)
 |_=>(0,0,0)
theorem qb1(c:List Ch):(c.map rC).map deC=c:=by
 rw[List.map_map];exact(List.map_congr_left fun x _=>rfl).trans (List.map_id c)
def Zc(sc:Sc)(g:List Bool)(i:List Bd)(j:List Ch)(N:Nat):List Md:=(qu N).flatMap fun k:Nat=>(subs [] j).map fun c=>jQ sc g i c N (k:Int)
theorem qb2(sc g i j N):vW (fun k c=>jQ sc g i (c.map deC) N (k:Int)) (j.map rC) N=Zc sc g i j N:=by
 unfold vW Zc;congr 1;funext s;rw[show ([]:List (List AV))=([]:List Ch).map rC from rfl,Jj,List.map_map];exact List.map_congr_left fun c _=>by simp only[Function.comp_apply,qb1]
theorem qoI(sc i j g N):(Zc sc i j g N).length=N*2 ^ g.length:=by
 rw[<-qb2,K4,show ([]:List (List AV))=([]:List Ch).map rC from rfl,Jj,zT,Wb]
theorem Wc{sc j l o N m}:m∈Zc sc j l o N↔∃(k:Nat) (c:List Ch),k<N/\c.Sublist o/\m=jQ sc j l c N k:=by
 simp only[Zc,Qa,yi,qn];constructor
 .rintro ⟨k,g,c,i,rfl⟩
  obtain⟨y,p,rfl⟩:=(Vq _ _ _).1 i;exact⟨k,_,g,p,rfl⟩
 .rintro ⟨k,c,g,i,rfl⟩
  exact⟨k,g,c,(Vq _ _ _).2 ⟨c,i,rfl⟩,rfl⟩
theorem qoJ(l:List Ch):Zb (l.map rC):=fun r i=>by
 obtain⟨n,_,rfl⟩:=qn.1 i;exact⟨rfl,rfl,fun c g=>by simp at g;rcases g with rfl|rfl|rfl<;>exact HF.sc _⟩
theorem qoK(ts)(sc:Sc)(g)(N:Nat)(I:sc.sN=N)(J:N<=4)(T:g.length<=1000)(U:∀ x,x∈g->ZA x)(hi:∀ x,x∈g->qb0 x)(j:g.length<=ts.sA.length)(l:(qP g 0).length<=100000)
  (o:(chs (vsT ts) (qP g 0) N).length<=14) (p:N*2 ^ (chs (vsT ts) (qP g 0) N).length<=16384)
  (h1:qi qe 55 [eTS ts,eSc sc] (aB true)) (h2:qi qe 63 [eTS ts,eSc sc,lBd g] (aB true)) :
  qi qe 33 [eTS ts,eSc sc,lBd g] (.tup [lMd (Zc sc (vsT ts) g (chs (vsT ts) (qP g 0) N) N),aI 0]):=by
 rw[<-qb2];generalize r:chs (vsT ts) (qP g 0) N=i at *
 have P:=qoD ts sc g N I J T U j l;rw[r]at P;have t:(subL [] (i.map rC)).length=2 ^ i.length:=by
  rw[show ([]:List (List AV))=([]:List Ch).map rC from rfl,Jj,zT,Wb]
 refine qoC ts sc g (i.map rC) _ N I J (qoJ i) (zUs o) (by rw[t];omega) (zUs p) h1 h2 P fun k hk c R=>?_
 rw[show ([]:List (List AV))=([]:List Ch).map rC from rfl,Jj]at R;obtain⟨c',C,rfl⟩:=qn.1 R;obtain⟨y,hy,rfl⟩:=(Vq _ _ _).1 C;rw[qb1]
 grind [qoH]
end
end GY
namespace GN
open E3 E4 F1 GD
theorem qoL(xs ys C p)(hf:YY qe C eRel (fun x y=>x∈xs/\y∈ys) p)(hl:xs.length<=1000000000) :
  qi qe 80 [lRel xs,lRel ys,C] (aB (jy p xs ys)):=by
 refine qSU call80 func80 rfl ?_;by_cases g:xs.length=ys.length
 rotate_left
 .simp [go_sem,g,Km p xs ys g]
  exact .zsc _
 simp[go_sem,g];refine qm.up xs.length (fun k T=>T.tm 1=lRel ys/\T.tm 2=C/\T.tm 15=lRel xs/\T.tm 16=aI xs.length/\T.tm 17=aI k/\jy p (xs.drop k) (ys.drop k)=jy p xs ys) ?_ ?_
 .simp [go_sem,g]
 rintro k T hk ⟨J,P,t,l,o,r⟩;by_cases j:k<xs.length
 .have i:k<ys.length:=by omega
  rw[m6 p xs ys k j i]at r;simp[go_sem,J,P,t,l,o,j,i];refine YY.call (enc:=eRel) hf ⟨qs j,qs i⟩ ?_;cases R:p xs[k] ys[k] with
  |true =>
   rw[R,Bool.true_and]at r;simp[go_sem,J,P,t,l,o,j];exact⟨zWr,r⟩
  |false =>
   rw[R,Bool.false_and]at r;simp[go_sem];rw[<-r];exact .zsc _
 .have I:k=xs.length:=by omega
  subst I;rw[yd,g,yd]at r;simp[go_sem,l,o];rw[<-r];exact .zsc _
theorem K7{I}[DecidableEq I]:∀(xs ys:List I),jy (fun x y=>decide (x=y)) xs ys=decide (xs=ys)
 | [],[]=>rfl
 | [],_ :: _=>rfl
 |_ :: _,[]=>rfl
 |x :: xs,y :: ys=>by
  rw[jy,K7 xs ys,j9];simp
theorem Kf(xs ys)(i:xs.length<=1000000000)(j:∀ r,r∈xs->r.ts.length<=1000000000):qi qe 39 [lRel xs,lRel ys] (aB (decide (xs=ys))):=by
 refine qSU call39 func39 rfl ?_;refine tS (qoL xs ys _ (fun x y=>decide (x=y)) ⟨Y0 _,_,_,rfl,fun x y g=>⟨[eRel x,eRel y],by simpa using WKs.zk (qY x) (.zk (qY y) .nil),Ka x y (zW1 (j x g.1))⟩⟩ i) (.zk (Qq _) (.zk (Qq _) (.zk (Y0 _) .nil))) ?_;rw[K7];simp[go_sem];exact .zsc _
structure smMd (m:Md):Prop where
 na:m.sc.sC.length<=1000000000
 ns:m.sK.length<=1000000000
 nf:∀ s,s∈m.sK->s.length<=1000000000
 nt:∀ s,s∈m.sK->∀ r,r∈s->r.ts.length<=1000000000
instance:DecidableEq Sc:=fun a b=>decidable_of_iff (a.sC=b.sC/\a.sN=b.sN) (by
 obtain⟨a1,a2⟩:=a;obtain⟨b1,b2⟩:=b;simp)
instance:DecidableEq Md:=fun a b=>decidable_of_iff (a.sc=b.sc/\a.sK=b.sK/\a.loop=b.loop) (by
 obtain⟨a1,a2,a3⟩:=a;obtain⟨b1,b2,b3⟩:=b;simp)
theorem qoM(a b:Md):decide (a=b)=(decide (a.sc.sC=b.sc.sC)&&decide (a.sc.sN=b.sc.sN)&&decide (a.loop=b.loop)&&decide (a.sK=b.sK)):=by
 obtain⟨⟨o,p⟩,r,t⟩:=a;obtain⟨⟨C,I⟩,J,P⟩:=b;rw[j9];simp;constructor
 .rintro ⟨⟨g,i⟩,j,l⟩;exact⟨⟨⟨g,i⟩,l⟩,j⟩
 .rintro ⟨⟨⟨g,i⟩,l⟩,j⟩;exact⟨⟨g,i⟩,j,l⟩
theorem qoN(a b)(i:smMd a):qi qe 12 [eMd a,eMd b] (aB (decide (a=b))):=by
 refine qSV call12 func12 rfl ?_;rw[qoM];simp[go_sem];refine tS (X9 _ _ (zW1 i.na)) (.zk (zh _) (.zk (zh _) .nil)) ?_;by_cases j:a.sc.sC=b.sc.sC
 .by_cases l:a.sc.sN=b.sc.sN
  .by_cases o:a.loop=b.loop
   .simp [go_sem,j,l,o]
    refine tS (m7 a.sK b.sK _ (fun x y=>decide (x=y)) ⟨Y0 _,_,_,rfl,fun x y g=>⟨[lRel x,lRel y],by simpa using WKs.zk (Qq x) (.zk (Qq y) .nil),Kf x y (i.nf x g.1) (i.nt x g.1)⟩⟩ i.ns) (.zk (Z8 _) (.zk (Z8 _) (.zk (Y0 _) .nil))) ?_;rw[K7];simp[go_sem];exact .zsc _
   .simp [go_sem,j,l,o]
    exact .zsc _
  .simp [go_sem,j,l]
   exact .zsc _
 .simp [go_sem,j]
  exact .zsc _
end GN
namespace GV
open Y1 YF P1 E3 E4 EO EQ F1 F4 GD GF GH GR GS
def modG(i:Md->Bool×Int):List Md->List Md->List Md×Int
 |g,[]=>(g,0)
 |g,m :: l=>if (i m).2≠0 then ([],(i m).2) else modG i (if (i m).1=true then g++[m] else g) l
def modV(i:Md->Bool×Int)(L:List Md)(g:Int):List Md×Int:=if g≠0 then ([],g) else modG i [] L
theorem qb3(l):HF (lMd l):=HF.lst fun r i c g=>by
 obtain⟨n,_,rfl⟩:=qn.1 i;simp at g;rcases g with rfl|rfl|rfl|rfl<;>first|exact HF.sc _|exact zh _|exact Z8 _
theorem qoO(ts sc bs n L e0 I)(hl:L.length<=1000000)
  (hI:qi qe 33 [eTS ts,eSc sc,lBd bs] (.tup [lMd L,aI e0]))
  (hH:∀ m,m∈L->qi qe 10 [eTS ts,eMd m,eNd n] (.tup [aB (I m).1,aI (I m).2])) :
  qi qe 9 [eTS ts,eSc sc,lBd bs,eNd n] (.tup [lMd (modV I L e0).1,aI (modV I L e0).2]):=by
 refine qSU call9 func9 rfl ?_;refine tS hI (.zk (zp _) (.zk (zA _) (.zk (jw _) .nil))) ?_;have a8:∀(l:List Md)(e:Int),HF (.tup [lMd l,aI e]):=fun l e=>HF.tup (by simp only[qy,qG,or_false,forall_eq_or_imp,forall_eq];exact⟨qb3 _,HF.sc _⟩)
 have a2:∀(C:Mu)(e:Int),Rd C (.tup [.lst true [],aI e]) (.tup [lMd [],aI e]):=fun C e=>by
  refine .tup _ _ rfl fun j x y t U=>?_
  match j with
  | 0=>simp at t U;subst t;subst U;exact .wk _ true _ (.hf _ (HF.lst fun r hr=>by simp at hr))
  | 1=>simp at t U;subst t;subst U;exact .zsc _
  |j+2=>simp at t
 by_cases a4:e0=0
 case neg =>
  simp[go_sem,a4,modV];exact a2 _ _
 subst a4;have a5:modV I L 0=modG I [] L:=by simp[modV]
 rw[a5];generalize hR:modG I [] L=R;simp[go_sem];refine aK L.length (fun k T=>T.tm 4 = .ip (cTS ts)/\T.tm 5 = .ip [lI sc.sC,aI sc.sN]/\T.tm 7 = .ip (cNd n)/\T.tm 27=lMd L/\T.tm 28=aI L.length/\T.tm 29=aI k/\∃ o,modG I o (L.drop k)=R/\o.length<=k/\Own T.mu 4 (T.tm 12) (o.map cMd)) ?_ ?_
 .exact ⟨zSi,zSi,zSi,zSi,zSi,zSi,[],zUs hR,zSp,.inl zSi⟩
 rintro k T hk ⟨e4,e5,e7,a3,a0,a1,o,P,a9,ho⟩;by_cases p:k<L.length
 .have w1:=zWk k
  have hh:=hH _ (qs p);rw[zu p,modG]at P;simp[go_sem,e4,e7,a3,a0,a1,p];refine tS hh (.zk (zp _) (.zk (yM _) (.zk (qK _) .nil))) ?_;by_cases he:(I L[k]).2=0
  case neg =>
   rw[if_pos he]at P;subst P;simp[go_sem,he];exact a2 _ _
  rw[if_neg (fun h=>h he)]at P;cases hb:(I L[k]).1 with
  |false =>
   rw[hb]at P;simp[go_sem,a1,p,he,w1]
   try refine⟨p,aA ?_⟩
   try refine aA ?_
   exact⟨zS1 e4,zS1 e5,zS1 e7,zS1 a3,zS1 a0,zSi,o,zUs P,zOm,by simpa[go_sem] using Own.push ho _⟩
  |true =>
   rw[hb,if_pos rfl]at P;simp[go_sem,he];refine qz.ownB (e:=43) (sz:=4) (bt:=64) (zv := .agg [.lst true [],aI 0,.lst true [],aI 0]) (xs:=o.map cMd) (ys:=[cMd L[k]]) zSi zSi zSi rfl rfl zOm zOm (Own.push ho _) (by simp[qE]) (Jh _) (Jh [_]) zSo ?_;intro aa ab a6 _ _ _;simp[go_sem,a1,p,w1]
   try refine⟨p,aA ?_⟩
   try refine aA ?_
   exact⟨zS1 e4,zS1 e5,zS1 e7,zS1 a3,zS1 a0,zSi,o++[L[k]],P,zSo,by rw[ze];simpa[go_sem] using a6⟩
 .have a7:k=L.length:=by omega
  subst a7;rw[yd,modG]at P;subst P;simp[go_sem,a0,a1];refine .tup _ _ rfl fun j x y t U=>?_
  match j with
  | 0=>simp at t U;subst t;subst U;exact cG ho
  | 1=>simp at t U;subst t;subst U;exact .zsc _
  |j+2=>simp at t
def yw(g:Md->Int):Md->List Md->Md
 |m,[]=>m
 |m,x :: l=>yw g (if g x<g m then x else m) l
theorem bestU(p l fv g)(hl:l.length<=1000000)(hf:EO.FnOk qe fv eMd (fun m=>m∈p :: l) (fun m=>aI (g m))) :
  qi qe 62 [lMd (p :: l),fv] (.tup [eMd (yw g p l),aI (g (yw g p l))]):=by
 refine qSV call62 func62 rfl ?_;generalize hR:yw g p l=R;simp[go_sem];refine fM ?_;refine FnOk.call (enc:=eMd) hf (zg ..) ?_;simp[go_sem];have a1:(l.map cMd).take l.length=l.map cMd:=z6 zSp;refine⟨⟨_,_,⟨rfl,rfl⟩,(Jh (p :: l)).ok⟩,pN (lMd l) (by rw[if_pos zOm,a1]) ?_⟩;simp[go_sem];refine aK l.length (fun k T=>T.tm 1=fv/\T.tm 4 = .ptr 0 0/\T.tm 6 = .ptr 1 0/\T.tm 20=lMd l/\T.tm 21=aI l.length/\T.tm 22=aI k/\∃ b,b∈p :: l/\yw g b (l.drop k)=R/\T.tm 7=aI (g b)/\T.mu[0]?=some (.arr [.lst true [],aI 0,.lst true [],aI 0])/\T.mu[1]?=some (.arr (cMd b))) ?_ ?_
 .exact ⟨zSi,zSi,zSi,zSi,zSi,zSi,p,zg ..,zUs hR,zSi,zSi,zSi⟩
 rintro k T hk ⟨e1,e4,J,r,j,o,b,a2,hB,P,h0,h1⟩;have a4:=(qk.1 h1).1;by_cases i:k<l.length
 .have w1:=zWk k
  rw[zu i,yw]at hB;simp[go_sem,e1,r,j,o,i];refine FnOk.call (enc:=eMd) hf (q8 _ (qs i)) ?_;have t:∀ c,(T.mu++[c])[0]?=some (.arr [.lst true [],aI 0,.lst true [],aI 0]):=fun c=>by rw[zGa];exact h0
  have C:∀ c,(T.mu++[c])[1]?=some (.arr (cMd b)):=fun c=>by rw[zGa];exact h1
  by_cases U:g l[k]<g b
  .rw [if_pos U]at hB
   simp[go_sem,J,o,P,i,U,C,w1]
   try refine⟨i,aA ?_⟩
   try refine aA ?_
   refine⟨zS1 e1,zS1 e4,zS1 J,zS1 r,zS1 j,zSi,l[k],q8 _ (qs i),hB,zSi,?_,?_⟩
   .simp only[qC];rw[zGl];exact t _
   .simp only[qC];rw[qL zSo]
  .rw [if_neg U]at hB
   simp[go_sem,o,P,i,U,w1]
   try refine⟨i,aA ?_⟩
   try refine aA ?_
   exact⟨zS1 e1,zS1 e4,zS1 J,zS1 r,zS1 j,zSi,b,a2,hB,zS1 P,by simp only[qC];exact t _,by simp only[qC];exact C _⟩
 .have a3:k=l.length:=by omega
  subst a3;rw[yd,yw]at hB;subst hB;have I:∀ c,(T.mu.set 0 c)[0]?=some c:=fun c=>qL zOm
  simp[go_sem,e4,J,j,o,P,h0,h1,I];exact .hf _ (HF.tup (by simp only[qy,qG,or_false,forall_eq_or_imp,forall_eq];exact⟨yM _,HF.sc _⟩))
def mdZ:Md:=⟨⟨[],0⟩,[],0⟩
def jf(g:Md->Int)(L:List Md)(i:Int):Md×Int×Int:=if i≠0 then (mdZ,0,i) else match L with
 | []=>(mdZ,0,270)
 |j :: l=>(yw g j l,g (yw g j l),0)
abbrev tup3(r:Md×Int×Int):AV := .tup [eMd r.1,aI r.2.1,aI r.2.2]
theorem qb4(r):HF (tup3 r):=HF.tup (by simp only[qy,qG,or_false,forall_eq_or_imp,forall_eq];exact⟨yM _,HF.sc _,HF.sc _⟩)
theorem qb5(mu):Rd mu (.agg [.lst true [],aI 0,.lst true [],aI 0]) (eMd mdZ):=
 Rd.aggs ⟨.wk _ true _ (.hf _ (HF.lst fun r g=>by simp at g)),.hf _ (HF.sc _),.wk _ true _ (.hf _ (HF.lst fun r g=>by simp at g)),.hf _ (HF.sc _),trivial⟩
theorem Vs(mu x e):Rd mu (.tup [.agg [.lst true [],aI 0,.lst true [],aI 0],aI x,aI e]) (tup3 (mdZ,x,e)):=by
 refine .tup _ _ rfl fun j u v g i=>?_
 match j with
 | 0=>simp at g i;subst g;subst i;exact qb5 mu
 | 1=>simp at g i;subst g;subst i;exact .zsc _
 | 2=>simp at g i;subst g;subst i;exact .zsc _
 |j+3=>simp at g
theorem qb6(ts sc t n i)(j:HF i)(L o g)(I:L.length<=1000000)
  (J:qi qe 9 [eTS ts,eSc sc,lBd t,eNd n] (.tup [lMd L,aI o]))
  (hf:EO.FnOk qe i eMd (fun m=>m∈L) (fun m=>aI (g m))) :
  qi qe 31 [eTS ts,eSc sc,lBd t,eNd n,i] (tup3 (jf g L o)):=by
 refine qSU call31 func31 rfl ?_;refine tS J (.zk (zp _) (.zk (zA _) (.zk (jw _) (.zk (qK _) .nil)))) ?_;by_cases C:o=0
 .subst C
  cases L with
  |nil =>
   simp[go_sem,jf];exact Vs _ _ _
  |cons p l =>
   have r:¬(l.length:Int)+1=0:=zOm;have P:=bestU p l i g (by simp at I;omega) hf;simp[go_sem,jf,r];refine fR P (.zk (qb3 _) (.zk j .nil)) ?_;exact .hf _ (qb4 (yw g p l,g (yw g p l),0))
 .simp [go_sem,jf,C]
  exact Vs _ _ _
theorem fromU(t m)(i:SmS t.sK)(j:SmS m.sK)(g:m.sc.sC.length<=1000000):qi qe 32 [eMd t,eMd m] (aI (ui m t)):=by
 refine qSU call32 func32 rfl ?_;refine fR (Kq m t j i g) (.zk (yM _) (.zk (yM _) .nil)) ?_;exact .zsc _
def un(g:Bool)(sc:Sc)(L:List Md)(i:Int)(m:Md):Md×Int×Int:=if g=true/\m.sc.sN=sc.sN/\m.sc.sC=sc.sC then jf (fun x=>ui x m) L i else (mdZ,0,1)
theorem qb7(ts sc p n m r L g)(P:L.length<=1000000)(T:SmS m.sK)(I:∀ x,x∈L->SmS x.sK/\x.sc.sC.length<=1000000)(t:m.sc.sC.length<=1000000)
  (hV:qi qe 29 [eTS ts,eMd m] (aB r))
  (U:qi qe 9 [eTS ts,eSc sc,lBd p,eNd n] (.tup [lMd L,aI g])) :
  qi qe 8 [eTS ts,eSc sc,lBd p,eNd n,eMd m] (tup3 (un r sc L g m)):=by
 have hs:=m8 m.sc sc t;have hf:EO.FnOk qe (.fn (.func 32) [eMd m] []) eMd (fun x=>x∈L) (fun x=>aI (ui x m)):=
  ⟨HF.fn (fun c o=>by simp at o;subst o;exact yM m) (fun c o=>by simp at o),_,_,_,rfl,fun x J=>⟨[eMd m,eMd x],by simpa using WKs.zk (yM m) (.zk (yM x) .nil),fromU m x T (I x J).1 (I x J).2⟩⟩
 have C:=qb6 ts sc p n _ hf.1 L g (fun x=>ui x m) P U hf;refine qSU call8 func8 rfl ?_;refine tS hV (.zk (zp _) (.zk (yM _) .nil)) ?_;cases r with
 |false =>
  simp[go_sem,un];exact Vs _ _ _
 |true =>
  simp[go_sem];refine tS hs (.zk (zA _) (.zk (zA _) .nil)) ?_;by_cases i:m.sc.sN=sc.sN
  .by_cases j:m.sc.sC=sc.sC
   .have l:un true sc L g m=jf (fun x=>ui x m) L g:=by rw[un,if_pos ⟨rfl,i,j⟩]
    rw[l];generalize jf (fun x=>ui x m) L g=R at *
    simp[go_sem,i,j];have wf:WK (.fn (.func 32) [.agg [lI sc.sC,aI sc.sN,lSt m.sK,aI m.loop]] []) (.fn (.func 32) [eMd m] []):=by rw[<-i,<-j];exact WK.hf hf.1
    refine fR C (.zk (zp _) (.zk (zA _) (.zk (jw _) (.zk (qK _) (.cons wf .nil))))) ?_;exact .hf _ (qb4 R)
   .have l:un true sc L g m=(mdZ,0,1):=by rw[un,if_neg (fun h=>j h.2.2)]
    rw[l];simp[go_sem,i,j];exact Vs _ _ _
  .have l:un true sc L g m=(mdZ,0,1):=by rw[un,if_neg (fun h=>i h.2.1)]
   rw[l];simp[go_sem,i];exact Vs _ _ _
end GV
namespace GW
open YF P1 E1 E4 E9 EL EO ER EW GA GF G5 GQ GR
theorem qb8:∀ l x i,0<=x->wK l x i = -1\/∃(j:Nat) (h:j<l.length),wK l x i=i+j/\0<=x-sumI (l.take j)/\x-sumI (l.take j)<l[j]
 | [],x,i,_ => .inl rfl
 |a :: l,x,i,h=>by
  rw[wK];by_cases g:x<a
  .grind [sumI]
  .rw [if_neg g]
   rcases qb8 l (x-a) (i+1) zOm with e|⟨j,o,p,r,t⟩
   .exact .inl e
   .refine .inr ⟨j+1,zUs o,by rw[p];push_cast;omega,?_,?_⟩
    .simp only[List.take_succ_cons,sumI,List.foldr_cons]at r⊢;omega
    .simp only[List.take_succ_cons,sumI,List.foldr_cons,List.getElem_cons_succ]at t⊢;omega
def Vt(n:Int)(ds:List Int)(p:Int):Int:=ds.foldl (fun p d=>p*n+d) p
theorem qb9(n)(i:0<n):∀ k r,0<=r->r<n ^ k->Vt n (digs n k r) 0=r
 | 0,r,j,g=>by
  have:r=0:=by rw[Int.pow_zero]at g;omega
  subst this;rfl
 |k+1,r,j,g=>by
  have l:r / n<n ^ k:=Int.ediv_lt_of_lt_mul i (by rw[<-Int.pow_succ];exact g);rw[digs,Vt,vM];show Vt n (digs n k (r / n)) 0*n+r % n=r;rw[qb9 n i k (r / n) (Int.ediv_nonneg j zOm) l,Int.mul_comm];exact Int.mul_ediv_add_emod r n
theorem qcA(sc)(J:∀ a,a∈sc.sC->0<=a):∀(l ds:List Int)(p),ds.length=l.length->(∀ s,s∈l->0<=s)->(∀(i h)(h2:i<l.length),0<=ds[i]/\u3 sc ds[i]=l[i])->Vt (sumI sc.sC) ds p∈tupR sc l p
 | [],[],p,_,_,_=>by simp[tupR,Vt]
 |s :: l,d :: ds,p,o,I,h=>by
  rw[tupR,Qa];obtain⟨r,g⟩:=h 0 zSp zSp;simp only[List.getElem_cons_zero]at r g;have P:=I s zSp;rcases qb8 sc.sC d 0 r with e|⟨j,R,T,e2,e3⟩
  .rw [u3,e]at g;omega
  .rw [u3,T]at g
   have t:s.toNat=j:=zOm;have U:gI sc.sC s.toNat=sc.sC[j]:=by rw[t];exact uU R
   refine⟨(d-sumI (sc.sC.take j)).toNat,yi.2 (by rw[U];omega),?_⟩;have:=qcA sc J l ds (p*sumI sc.sC+d) (zUs o) (fun s hs=>I s (zP1 hs)) (fun i hi C=>h (i+1) (zUs hi) (zUs C));rw[t,show sumI (sc.sC.take j)+((d-sumI (sc.sC.take j)).toNat:Int)=d by omega];exact this
 | [],_ :: _,_,o,_,_=>by simp at o
 |_ :: _,[],_,o,_,_=>by simp at o
theorem qoP(sc)(g:GSc sc)(C:0<sumI sc.sC)(l:List Int)(J:l.length<=3)(P:∀ s,s∈l->0<=s/\s<sc.sC.length):∀ x,x∈yN sc l->x∈tupR sc l 0:=fun x I=>by
 have j:=g.sum sc.sC.length;rw[qO]at j;have R:=Ja (sumI sc.sC) j.1 j.2 l.length J;unfold yN vG at I;obtain⟨r,T,rfl⟩:=qn.1 I;obtain⟨U,h2⟩:=List.mem_filter.1 T;rw[yi]at U;have o:(r:Int)<sumI sc.sC ^ l.length:=zOm;have hf:=qb9 (sumI sc.sC) C l.length r zOm o;have hm:=qcA sc (fun a ha=>(g.2 a ha).1) l (digs (sumI sc.sC) l.length r) 0 (Jb _ _ _) (fun s p=>(P s p).1) (fun i hi t=>?_)
 .grind
 .have hd:=Kt (sumI sc.sC) C j.2 l.length r _ (qs hi)
  refine⟨hd.1,?_⟩;have:=XK.1 h2 i t
  grind [uU]
theorem qcB(ts sc)(F:Fit9 ts sc)(t:y5 sc=true):qi qe 55 [eTS ts,eSc sc] (aB true):=by
 have I:=F.g;simp only[y5,qH,decide_eq_true_eq,List.all_eq_true]at t;obtain⟨h1,J,P,R,U⟩:=t;have o:=F.ns;refine qSV call55 func55 rfl ?_;have n1:¬(4:Int)<sc.sC.length:=zOm;simp[go_sem,n1,o];have C:=fun a b c:Int=>UT a b c
 refine tS (C sc.sN 1 4) (wk3I _ _ _) ?_;simp[go_sem,J,P];refine aK sc.sC.length (fun k T=>T.tm 2 = .ip (cTS ts)/\T.tm 3 = .ip [lI sc.sC,aI sc.sN]/\T.tm 27=lI sc.sC/\T.tm 28=aI sc.sC.length/\T.tm 29=aI k) ?_ ?_
 .simp [go_sem, *]
 rintro k T hk ⟨e2,e3,p,i,j⟩;by_cases l:k<sc.sC.length
 .have w1:=zWk k
  have ha:=R _ (qs l);simp[go_sem,p,i,j,l];refine tS (C sc.sC[k] 1 5) (wk3I _ _ _) ?_;simp_all[go_sem,aA]
 .have r:k=sc.sC.length:=by omega
  simp[go_sem,e3,i,j,r];refine tS (YP sc I) (.zk (zA sc) .nil) ?_;simp[go_sem,U];exact .zsc _
theorem qoQ(n)(r:Rl)(U:0<=n)(a0:n<=12)(k:Nat)(hk:r.ar=k)(k1:1<=k)(k3:k<=3)(hl:r.ts.length<=1000000000)(hs:r.ts.Pairwise (·<·))(ht:∀ t,t∈r.ts->0<=t/\t<n ^ k):qi qe 58 [aI n,eRel r] (aB true):=by
 have C:=mL n U zOm k k3;refine qSV call58 func58 rfl ?_;have n1:¬n<0:=zOm;have n2:¬ 12<n:=zOm;have n3:¬r.ar<1:=zOm;have n4:¬ 3<r.ar:=zOm;simp[go_sem,n1,n2,n3,n4];refine aK r.ts.length (fun j T=>T.tm 0=aI n/\T.tm 3 = .ip [aI r.ar,lI r.ts]/\T.tm 25=lI r.ts/\T.tm 26=aI r.ts.length/\T.tm 27=aI j/\∃ last:Int,T.tm 5=aI last/\∀(i:Nat)(h:i<r.ts.length),j<=i->last<r.ts[i]) ?_ ?_
 .exact ⟨zSi,zSi,zSi,zSi,zSi,-1,zSi,fun i h _=>by grind [qs]⟩
 rintro j T hj ⟨P,R,p,l,o,last,e5,I⟩;by_cases g:j<r.ts.length
 .have w1:=zWk j
  have a1:=I j g (qr _);have a2:=ht _ (qs g);have m1:¬r.ts[j]<=last:=zOm;have m2:¬n ^ k<=r.ts[j]:=zOm;simp[go_sem,P,R,p,l,o,e5,g,m1];refine tS C (by rw[hk];exact .zs (.zs .nil)) ?_;simp[go_sem,o,g,m2,w1]
  try refine⟨g,aA ?_⟩
  try refine aA ?_
  exact⟨zS1 P,zS1 R,zS1 p,zS1 l,zSi,r.ts[j],zSi,fun i h hi=>List.pairwise_iff_getElem.1 hs j i g h zOm⟩
 .have J:j=r.ts.length:=by omega
  simp[go_sem,l,o,J];exact .zsc _
structure BndV (ts:TS) (sc:Sc) (bs:List Bd):Prop where
 len:bs.length=ts.sA.length
 lo:∀(i:Nat)(h:i<bs.length)(h2:i<ts.sA.length),bs[i].lo.ar=ts.sA[i].sS.length/\bs[i].up.ar=ts.sA[i].sS.length
 so:∀ b,b∈bs->b.lo.ts.Pairwise (·<·)/\b.up.ts.Pairwise (·<·)
 sub:∀ b,b∈bs->∀ t,t∈b.lo.ts->t∈b.up.ts
 full:∀(i:Nat)(h:i<bs.length)(h2:i<ts.sA.length),∀ t,t∈bs[i].up.ts->t∈yN sc ts.sA[i].sS
theorem qcC{a b}(h:∀ t,t∈a.ts->t∈b.ts):(diR a b).ts=[]:=by
 grind [diR,List.filter_eq_nil_iff]
theorem qcD(sc l):∀ t,t∈yN sc l->0<=t/\t<(sumI sc.sC ^ l.length).toNat:=fun t g=>qlN _ _ _ t g
theorem qcE(sc)(g:GSc sc)(l)(j:l.length<=3):(yN sc l).length<=8000:=by
 have i:=g.sum sc.sC.length;rw[qO]at i;have o:=Ja (sumI sc.sC) i.1 i.2 l.length j;refine zQ (Ku _ _ _) ?_;omega
theorem Jk{a b:List Int}(g:a.Pairwise (·<·))(h:∀ t,t∈a->t∈b):a.length<=b.length:=vb (qkD g) h
theorem relT(ts sc)(F:Fit9 ts sc)(l:sumI sc.sC<=12)(f)(hf:f∈ts.sA)(r:Rl)(o:r.ar=f.sS.length)(C:r.ts.Pairwise (·<·))(i:∀ t,t∈r.ts->t∈yN sc f.sS):qi qe 58 [aI (sumI sc.sC),eRel r] (aB true)/\r.ts.length<=8000:=by
 have R:=Jk C i;have I:=qcE sc F.g f.sS (F.f1 f hf).2;have T:=F.p;have j:=F.g.sum sc.sC.length;rw[qO]at j;have J:=Ja (sumI sc.sC) j.1 j.2 f.sS.length (F.f1 f hf).2;exact⟨qoQ _ r zOm l f.sS.length o (F.f1 f hf).1 (F.f1 f hf).2 zOm C fun t P=>zW1 (qcD sc f.sS t (i t P)),zOm⟩
theorem qcF(ts sc)(F:Fit9 ts sc)(f)(hf:f∈ts.sA)(r)(J:r.ts.length<=8000)(i:∀ t,t∈r.ts->t∈yN sc f.sS):qi qe 59 [eRel r,eRel ⟨f.sS.length,tupR sc f.sS 0⟩] (aB true):=by
 have j:=Kj sc F.g (fun a l=>(F.g.2 a l).1) f.sS (F.fs f hf) 0;have o:=(F.f1 f hf).2;have C:(20:Nat) ^ f.sS.length<=8000:=by
  rcases (show f.sS.length=0\/f.sS.length=1\/f.sS.length=2\/f.sS.length=3 by omega) with e|e|e|e<;>rw[e]<;>decide
 have h:=inU r ⟨f.sS.length,tupR sc f.sS 0⟩ zOm (by grind)
 rwa[qcC fun t I=>qoP sc F.g F.p f.sS o (F.fs f hf) t (i t I),decide_eq_true rfl]at h
theorem qoR(fs:List Fld)(l)(J:l.length=fs.length)(hn:fs.length<=1000000)(r g caps)(t:r = .fn (.func g) [] caps)(P:HF r)
  (h:∀(i h1)(h2:i<l.length),∃ args',WKs ([Uu fs[i],eBd l[i]]++caps) args'/\qi qe g args' (aB true)) :
  qi qe 107 [.lst false (fs.map jY),lBd l,r] (aB true):=by
 subst t;refine qSV call107 func107 rfl ?_;simp[go_sem,J];refine aK fs.length (fun k T=>T.tm 0 = .lst false (fs.map jY)/\T.tm 1=lBd l/\T.tm 2 = .fn (.func g) [] caps/\T.tm 14=aI fs.length/\T.tm 15=aI k) ?_ ?_
 .simp [go_sem, *]
 rintro k T hk ⟨R,U,e2,o,p⟩;by_cases j:k<fs.length
 .have w1:=zWk k
  obtain⟨args',hw,hc⟩:=h k j zOm;have C:k<l.length:=zOm;simp[go_sem,o,p,j];refine cJ zKr ?_;simp[go_sem,R,U,e2,j,C];refine fW hc (zUs hw) ?_;simp_all[go_sem,aA]
 .have I:k=fs.length:=by omega
  simp[go_sem,o,p,I];exact .zsc _
theorem qoS(ts sc l)(F:Fit9 ts sc)(a0:sumI sc.sC<=12)(B:BndV ts sc l):qi qe 63 [eTS ts,eSc sc,lBd l] (aB true):=by
 have a8:=F.nf;have a4:∀(i:Nat)(T:i<ts.sA.length)(U:i<l.length),qi qe 108 [Uu ts.sA[i],eBd l[i],.ip [aI (sumI sc.sC)],.ip [lI sc.sC,aI sc.sN]] (aB true):=fun i T U=>by
  obtain⟨a1,a2⟩:=B.lo i U T;have o:=qs T;have J:=qs U;obtain⟨s1,s2⟩:=B.so _ J;have P:=B.full i U T;have a5:∀ t,t∈l[i].lo.ts->t∈yN sc ts.sA[i].sS:=fun t ht=>P t (B.sub _ J t ht)
  obtain⟨v1,l1⟩:=relT ts sc F a0 _ o l[i].lo a1 s1 a5;obtain⟨v2,l2⟩:=relT ts sc F a0 _ o l[i].up a2 s2 P;have i1:=inU l[i].lo l[i].up zOm zOm;rw[qcC (B.sub _ J),decide_eq_true rfl]at i1;have i2:=qcF ts sc F _ o l[i].up l2 P;have a6:=EW.Kk sc F.g (fun a ha=>(F.g.2 a ha).1) ts.sA[i].sS (F.fs _ o) (F.f1 _ o).1 (F.f1 _ o).2;have w2:∀ r:Rl,WKs [aI (sumI sc.sC),eRel r] [aI (sumI sc.sC),eRel r]:=fun r => .zs (.zk (qY _) .nil)
  have wr:∀(r:Rl)(x:Int),r.ar=x->WK (.agg [aI x,lI r.ts]) (eRel r):=fun r x e=>by subst e;exact .hf (qY r)
  have wa:=wr l[i].lo _ a1;have wb:=wr l[i].up _ a2;refine qSV call108 func108 rfl ?_;simp[go_sem,a1,a2];refine tS v1 (.zs (.cons wa .nil)) ?_;simp[go_sem,a2];refine fR v2 (.zs (.cons wb .nil)) ?_;refine cJ zKr ?_;simp[go_sem,a1,a2];refine tS i1 (.cons wa (.cons wb .nil)) ?_;simp[go_sem,a2];refine fR a6 (.zk (zA _) (.zk (zh _) .nil)) ?_;refine fR i2 (.cons wb (.zk (qY _) .nil)) ?_;exact .zsc _
 have j:HF (.ip [lI sc.sC,aI sc.sN]):=HF.ip fun c C=>by simp at C;rcases C with rfl|rfl;exact zh _;exact HF.sc _
 have I:HF (.ip [aI (sumI sc.sC)]):=HF.ip fun c C=>by grind [HF.sc]
 have a3:HF (.fn (.func 108) [] [.ip [aI (sumI sc.sC)],.ip [lI sc.sC,aI sc.sN]]):=HF.fn (fun c C=>by simp at C) (fun c C=>by simp at C;rcases C with rfl|rfl;exact I;exact j);have p:=qoR ts.sA l B.len zOm _ _ _ rfl a3 fun i T U=>⟨_,by simpa using WKs.zk (nV _) (.zk (qbT _) (.zk I (.zk j .nil))),a4 i T U⟩
 refine qSU call63 func63 rfl ?_;refine fR (YP sc F.g) (.zk (zA sc) .nil) ?_;refine fZ (qD.freeze (args1:=[.lst false (ts.sA.map jY),lBd l,.fn (.func 108) [] [.ip [aI (sumI sc.sC)],.ip [lI sc.sC,aI sc.sN]]]) (fun _=>true) ⟨.inl rfl,.inl rfl,.inr ?_,trivial⟩ (qi.toSound _ p (.zk (J5 ts.sA) (.zk (jw _) (.zk a3 .nil))))) ?_ ?_
 .refine .fn _ _ _ _ _ rfl rfl (fun k x y R hy=>by simp at R) (fun k x y R hy=>?_)
  match k with
  | 0=>simp at R hy;subst R;subst hy;exact ER.Rd.ip1 (x:=aI (sumI sc.sC)) (by simp[cutM]) (.hf _ (HF.sc _))
  | 1=>simp at R hy;subst R;subst hy;exact .hf _ j
  |k+2=>simp at R
 .rintro r m ⟨h,rfl⟩
  cases h;simp[go_sem];exact .zsc _
 grind
end GW
namespace IT
end IT
namespace YZ
open YM P1 Y1 Y9 YX
mutual
def depN:Nd->Int
 | .mk _ _ _ ks _=>yF ks+1
def yF:List Nd->Int
 | []=>0
 |k :: ks=>max (depN k) (yF ks)
end
mutual
theorem qoT:∀ n:Nd,0<=depN n
 | .mk _ _ _ ks _=>by simp only[depN];have:=Vu ks;omega
theorem Vu:∀ ks:List Nd,0<=yF ks
 | []=>by simp[yF]
 |k :: ks=>by simp only[yF];have:=Vu ks;omega
end
theorem wQ(n):depN n=yF n.sD+1:=by
 obtain⟨op,o,i,ks,p⟩:=n;simp[depN,Nd.sD]
theorem K8{ks k}(h:k∈ks):depN k<=yF ks:=by
 induction ks with
 |nil=>simp at h
 |cons a l g =>
  simp only[yF];rcases qy.1 h with rfl|h
  .omega
  .have:=g h;omega
theorem qcG:∀ m n,szN n<=m->Small n->depN n<=1000000->qi qe 75 [eNd n] (aI (depN n))
 | 0,n,I,_,_=>by obtain⟨op,nm,i,ks,p⟩:=n;simp[szN]at I
 |m+1,n,I,J,P=>by
  have ih:∀ k,k∈n.sD->qi qe 75 [eNd k] (aI (depN k)):=fun k j =>
   qcG m k (zW1 (yu j)) (J.kid j) (by rw[wQ]at P;have:=K8 j;omega)
  rw[wQ]at P⊢;have R:=J.len;have a0:=Vu n.sD;generalize hD:yF n.sD=D at *
  refine qSU call75 func75 rfl ?_;refine aK n.sD.length (fun k T=>∃ d,T.tm 3=aI d/\T.tm 7=lNd n.sD/\T.tm 8=aI n.sD.length/\T.tm 9=aI k/\0<=d/\max d (yF (n.sD.drop k))=D) ?_ ?_
  .exact ⟨0,zSi,zSi,zSi,zSi,zOm,by simp only[List.drop_zero,hD];omega⟩
  .rintro k T j ⟨d,U,e7,o,r,a1,l⟩
   by_cases t:k=n.sD.length
   .subst t
    rw[yd]at l;simp only[yF]at l;have C:d=D:=zOm;subst C;have w:qq.wrap (d+1)=d+1:=zWr;simp[go_sem,U,o,r,w];exact .zsc _
   .have g:k<n.sD.length:=by omega
    have w1:=zWk k;rw[zu g]at l;simp only[yF]at l;simp[go_sem,U,e7,o,r,g];refine tS (ih n.sD[k] (qs g)) (.zk (qK _) .nil) ?_;simp[go_sem,r,w1];refine⟨g,aA ?_⟩;refine⟨if d<depN n.sD[k] then depN n.sD[k] else d,zSi,zS1 e7,zS1 o,zSi,?_,?_⟩
    .have:=qoT n.sD[k]
     split<;>omega
    .split<;>omega
mutual
def preN:Nd->List Nd
 | .mk op o n ks p => .mk op o n ks p :: zD ks
def zD:List Nd->List Nd
 | []=>[]
 |k :: ks=>preN k++zD ks
end
theorem uG(n):preN n=n :: zD n.sD:=by
 obtain⟨op,o,i,ks,p⟩:=n;simp[preN,Nd.sD]
theorem Jl(a b):zD (a++b)=zD a++zD b:=by
 induction a with
 |nil=>rfl
 |cons x a g=>simp[zD,g]
theorem K9{f caps}(I:List Nd->Mu->Prop)(hp:∀ v mu l,I v mu->I v (mu++l))(hf:∀ v k mu,I v mu->qD qe f (eNd k :: caps) mu fun e m=>e = .ret (.tup [])/\I (v++[k]) m) :
  ∀ m n,szN n<=m->Small n->∀ v mu,I v mu->qD qe 68 [eNd n,.fn (.func f) [] caps] mu fun e m=>e = .ret (.tup [])/\I (v++preN n) m
 | 0,n,hm,_,_,_,_=>by obtain⟨op,nm,i,ks,p⟩:=n;simp[szN]at hm
 |m+1,n,hm,hs,v,mu,J=>by
  have ih:∀ k,k∈n.sD->∀ v mu,I v mu->qD qe 68 [eNd k,.fn (.func f) [] caps] mu fun e m=>e = .ret (.tup [])/\I (v++preN k) m:=fun k P v mu J =>
   K9 I hp hf m k (zW1 (yu P)) (hs.kid P) v mu J
  have a1:=hs.len;rw[uG];refine qSW call68 func68 rfl {} ?_;simp[go_sem];refine fH (hf v n mu J) ?_ (by rintro r m ⟨e,_⟩;cases e);rintro r m ⟨e,R⟩;cases e;simp[go_sem];refine aK n.sD.length (fun k T=>T.tm 1 = .fn (.func f) [] caps/\T.tm 10=lNd n.sD/\T.tm 11=aI n.sD.length/\T.tm 12=aI k/\I (v++[n]++zD (n.sD.take k)) T.mu) ?_ ?_
  .exact ⟨zSi,zSi,zSi,zSi,by simpa[go_sem,zD] using R⟩
  .rintro k T P ⟨e1,C,j,o,t⟩
   by_cases U:k=n.sD.length
   .subst U
    rw[qO]at t;simp[go_sem,j,o];simpa using t
   .have g:k<n.sD.length:=by omega
    have w1:=zWk k;simp[go_sem,e1,C,j,o,g];refine fZ (ih n.sD[k] (qs g) _ _ (hp _ _ _ t)) ?_ (by rintro r m ⟨e,_⟩;cases e);rintro r m ⟨e,a0⟩;cases e;simp[go_sem,o,w1];refine⟨g,aA ?_⟩;refine⟨zS1 e1,zS1 C,zS1 j,zSi,?_⟩;have e:zD (n.sD.take (k+1))=zD (n.sD.take k)++preN n.sD[k]:=by
     rw[List.take_add_one,qA g,Jl];simp[zD]
    rw[e,<-zB];simpa[go_sem] using a0
def setN(l:List tP)(b:tP):List (tP×Bool)->List (tP×Bool):=fun U=>setK b true U
abbrev eSet(es:List (tP×Bool)):List (AV×AV):=encK aS aB es
theorem updS{mu b es}(i:mu[b]?=some (.mp (eSet es)))(nm) :
  jV qe mu 133 (.mp b) (aS nm) (aB true)=some (mu.set b (.mp (eSet (setK nm true es)))):=
 keyS.update (et:=4) (t:=133) zSi (mu:=mu) (b:=b) (venc:=aB) (es:=es) i (k:=nm) (v:=true) trivial (fun _ _=>trivial)
theorem qoU(ts s tb c es n){mu p g xb}(r:mu[p]?=some (.arr [.ptr xb 0]))(t:mu[xb]?=some (.arr (cIn ts tb s)))(l:mu[g]?=some (.arr [aB c]))(j:mu[tb]?=some (.mp (eSet es))) :
  qD qe 69 [eNd n,.ptr p 0,.ptr g 0] mu fun e m=>e = .ret (.tup [])/\m=(mu.set tb (.mp (eSet (setK n.name true es)))).set g (.arr [aB (c||decide (n.op=47))]):=by
 refine qSW call69 func69 rfl {} ?_;have C:g<mu.length:=(qk.1 l).1;have I:tb<mu.length:=(qk.1 j).1;simp[go_sem];refine cJ zKr ?_;have J:=updS j n.name;simp[go_sem,r,t];refine pN _ J ?_;have o:tb≠g:=fun e=>by rw[e,l]at j;cases j
 generalize P:Cell.mp (eSet (setK n.name true es))=N at *
 have i:(mu.set tb N)[g]?=some (.arr [aB c]):=by rw[yJ o];exact l
 cases c
 .simp [go_sem,i]
  try rfl
 .simp [go_sem,i]
  try rfl
theorem qoV(ts s tb es n){mu g xb}(j:mu[g]?=some (.arr [.ptr xb 0]))(l:mu[xb]?=some (.arr (cIn ts tb s)))(i:mu[tb]?=some (.mp (eSet es))) :
  qD qe 70 [eNd n,.ptr g 0] mu fun e m=>e = .ret (.tup [])/\m=mu.set tb (.mp (eSet (setK n.name true es))):=by
 refine qSW call70 func70 rfl {} ?_;have o:tb<mu.length:=(qk.1 i).1;simp[go_sem];refine cJ zKr ?_;have p:=updS i n.name;simp[go_sem,j,l];refine pN _ p ?_;simp[go_sem]
end YZ
namespace YA
open YM YS YF P1 Y1 Y9 Y10 YX YZ
def vN(k:Int):tP:=⟨#[118]⟩++jE k
theorem kc(k)(g : -9223372036854775808<=k)(i:k<=9223372036854775807):(jE k).size<=21:=by
 have:=Lib.itoa_length_le k g i;unfold jE;simpa[ByteArray.size] using this
def yI(ts:TS)(es:List (tP×Bool))(nm:tP):Bool:=decide (getK nm es≠some true)&&decide (means ts nm=[])
def zC(ts:TS)(es:List (tP×Bool)):Nat->Int->Int
 | 0,k=>k+1
 |f+1,k=>if yI ts es (vN (k+1))=true then k+1 else zC ts es f (k+1)
theorem qoW{mu tb es}(i:mu[tb]?=some (.mp (eSet es)))(nm):yB qe mu 133 (.mp tb) (aS nm) false=some (aB (decide (getK nm es=some true))):=by
 have:=keyS.look (et:=4) (t:=133) zSi (mu:=mu) (m := .mp tb) (venc:=aB) (es:=es) (by simp only[ve,i]) (k:=nm) trivial (fun _ _=>trivial) (z:=aB false) zSi false;refine Eq.trans ?_ (this.trans ?_)
 .rfl
 .cases getK nm es with
  |none=>rfl
  |some b=>cases b<;>rfl
theorem qoX{mu:Mu}{b c}(h:mu[b]?=some c):mu.set b c=mu:=by
 apply List.ext_getElem?;intro i;by_cases e:b=i
 .subst e
  rw[qL (qk.1 h).1,h]
 .rw [yJ e]
theorem qcH(ts)(h:okTS ts)(s:ISt)(F:Nat)(hs:0<=s.last/\s.last+F<=1000000000)(tb es)(U:∃ j,1<=j/\j<=F/\yI ts es (vN (s.last+j))=true){mu xb}(hx:mu[xb]?=some (.arr (cIn ts tb s)))(ht:mu[tb]?=some (.mp (eSet es))) :
  qD qe 170 [.ptr xb 0] mu fun e m=>e = .ret (aS (vN (zC ts es F s.last)))/\m=mu.set xb (.arr (cIn ts tb ⟨zC ts es F s.last,s.sM⟩)):=by
 refine qSW call170 func170 rfl {} ?_;have a0:xb<mu.length:=(qk.1 hx).1;have a3:tb≠xb:=fun e=>by rw[e,hx]at ht;cases ht
 simp[go_sem];generalize hR:zC ts es F s.last=R;refine tT (fun m T=>∃ l:Int,0<=l/\l+m<=1000000000/\T.tm 0 = .ptr xb 0/\T.mu=mu.set xb (.arr (cIn ts tb ⟨l,s.sM⟩))/\zC ts es m l=R/\∃ j:Nat,1<=j/\j<=m/\yI ts es (vN (l+j))=true) F ?_ ?_
 .refine ⟨s.last,hs.1,hs.2,zSi,?_,hR,U⟩
  simp only[go_sem,qC,st0];rw[show cIn ts tb ⟨s.last,s.sM⟩=cIn ts tb s from rfl];exact(qoX hx).symm
 .rintro m T ⟨l,a7,a8,C,hm,hI,j,a9,aa,r⟩
  obtain⟨m,rfl⟩:∃ m',m=m'+1:=⟨m-1,zOm⟩;have w1:qq.wrap (l+1)=l+1:=zWr;have t:∀ c,(mu.set xb c)[xb]?=some c:=fun c=>qL a0
  have a4:∀ c d,(mu.set xb c).set xb d=mu.set xb d:=fun c d=>List.set_set ..
  have a5:∀ c,(mu.set xb c)[tb]?=some (.mp (eSet es)):=fun c=>by rw[yJ (fun e=>a3 e.symm)];exact ht
  have ab:=kc (l+1) zOm zOm;have I:1+(jE (l+1)).size<=9223372036854775807:=zOm;simp[go_sem,C,hm,t,a4,w1];refine tS (itoaU (l+1) zOm zOm) (.zs .nil) ?_;simp[go_sem,C,t,I];rw[show (⟨#[118]⟩:tP)++jE (l+1)=vN (l+1) from rfl];generalize i:vN (l+1)=o;have J:=fun c=>qoW (a5 c) o
  simp[go_sem]at J;refine pN _ (J _) ?_;have g:yI ts es o=false->zC ts es m (l+1)=R/\∃ j:Nat,1<=j/\j<=m/\yI ts es (vN (l+1+j))=true:=fun hn=>by
   simp only[zC,i,hn]at hI;refine⟨zUs hI,j-1,?_,zOm,?_⟩
   .have:j≠1:=fun e=>by rw[e,show l+((1:Nat):Int)=l+1 by omega,i,hn]at r;cases r
    omega
   .rw [show l+1+((j-1:Nat):Int)=l+j by omega];exact r
  by_cases P:getK o es=some true
  case pos =>
   obtain⟨a1,a2⟩:=g (by simp[yI,P]);simp[go_sem,P];refine Keep.loop m zOm ⟨l+1,zOm,zOm,zS1 C,zSi,a1,a2⟩
  case neg =>
   simp[go_sem,C,t,P];refine tS (KA ts h o) (.zk (zp ts) (.zs .nil)) ?_;by_cases p:means ts o=[]
   .have a6:R=l+1:=by
     rw[<-hI];simp[zC,i,yI,P,p]
    subst a6;simp[go_sem,p];rw[i]
    try rfl
   .obtain ⟨a1,a2⟩:=g (by simp[yI,p])
    simp[go_sem,p];refine Keep.loop m zOm ⟨l+1,zOm,zOm,zS1 C,zSi,a1,a2⟩
end YA
namespace YB
open YM YF P1 Y1 Y6 Y9 Y10 YX YZ YA
section
variable {es:IEnv}{mu:Mu}{b xb:Nat}
def qo(ts:TS)(es:List (tP×Bool)):Nat:=es.length+ts.sA.length+3*ts.sS.length+1
def renI(ts:TS)(es:List (tP×Bool))(env:IEnv)(nm:tP)(body:Bool)(s:ISt):(IEnv×tP)×ISt:=
 if body=true\/means ts nm≠[] then
  ((setK nm ⟨none,0,vN (zC ts es (qo ts es) s.last)⟩ (delK nm env),vN (zC ts es (qo ts es) s.last)),⟨zC ts es (qo ts es) s.last,s.sM⟩)
 else ((delK nm env,nm),s)
theorem ZB{g I}[DecidableEq g]{k v}:∀{es},(es.map Prod.fst).Nodup->∀{x:g×I},x∈setK k v es↔x=(k,v)\/(x∈es/\x.1≠k)
 | [],_,x=>by simp[setK]
 |e :: es,h,x=>by
  rw[z7,List.nodup_cons]at h;unfold setK;by_cases i:k=e.1
  .rw [if_pos i,qy,qy]
   constructor
   .grind
   grind
  .rw [if_neg i,qy,qy,ZB h.2]
   constructor
   .grind
   grind
theorem uo{g m i}(h:g i=true):(cutM g m 0)[i]?=m[i]?:=by
 simp_all[jL,yj,if_true]
theorem qoY{x}:x∈encK aS eIV es↔∃ y,y∈es/\(aS y.1,eIV y.2)=x:=qn
theorem kf(h:(es.map Prod.fst).Nodup):((encK aS eIV es).map Prod.fst).Nodup:=by
 have e:(encK aS eIV es).map Prod.fst=(es.map Prod.fst).map aS:=by simp[encK]
 grind
theorem qoZ{fs}(g:mu[b]?=some (.md (encK aS eIV es)))(i:(es.map Prod.fst).Nodup)(j:(fs.map Prod.fst).Nodup)(o:∀ x,x∈es↔x∈fs):Rd mu (.mp b) (eEnv fs):=by
 refine Rd.mds g (kf i) (kf j) (fun x=>?_) (fun x l=>?_)
 .grind
 .obtain ⟨y,_,rfl⟩:=qoY.1 l
  grind [HF.sc,qmG]
theorem updE(i:mu[b]?=some (.mp (encK aS eIV es)))(nm v) :
  jV qe mu 141 (.mp b) (aS nm) (eIV v)=some (mu.set b (.mp (encK aS eIV (setK nm v es)))):=
 keyS.update (et:=207) (t:=141) zSi (mu:=mu) (b:=b) (venc:=eIV) (es:=es) i (k:=nm) (v:=v) trivial (fun _ _=>trivial)
theorem qcI(i:mu[b]?=some (.md (encK aS eIV es)))(nm v) :
  jV qe mu 141 (.mp b) (aS nm) (eIV v)=some (mu.set b (.md (encK aS eIV (setK nm v es)))):=
 keyS.updateD (et:=207) (t:=141) zSi (mu:=mu) (b:=b) (venc:=eIV) (es:=es) i (k:=nm) (v:=v) trivial (fun _ _=>trivial)
structure But (xb:Nat) (mu m:Mu):Prop where
 len:mu.length<=m.length
 same:∀ i,i<mu.length->i≠xb->m[i]?=mu[i]?
theorem But.trans{a b c}(h:But xb a b)(k:But xb b c):But xb a c:=⟨zQ h.len k.len,fun i g j=>(k.same i (Nat.lt_of_lt_of_le g h.len) j).trans (h.same i g j)⟩
theorem But.app(xb mu l):But xb mu (mu++l):=⟨zSp,fun i g _=>qN g⟩
theorem cB(xb mu c):But xb mu (mu.set xb c):=⟨zSp,fun i j g=>yJ (fun e=>g e.symm)⟩
theorem But.setN{m}(h:But xb mu m){j}(o:mu.length<=j)(c):But xb mu (m.set j c):=⟨by simpa using h.len,fun i g l=>by rw[zGl];exact h.same i g l⟩
theorem But.cut{m}(h:But xb mu m){g}(l:∀ i,i<mu.length->g i=true):But xb mu (cutM g m 0):=⟨by rw[jT];exact h.len,fun i j o=>by rw[uo (l i j)];exact h.same i j o⟩
theorem qo0(a):(aArg a).one=true:=by cases a<;>rfl
theorem qo1(ts)(h:okTS ts)(s:ISt)(es)(hs:0<=s.last/\s.last+(qo ts es:Nat)<=1000000000)(tb)(aa:∃ j,1<=j/\j<=qo ts es/\yI ts es (vN (s.last+j))=true)(env)(hk:(env.map Prod.fst).Nodup)(nm body)
  {mu} {xb} (hx:mu[xb]?=some (.arr (cIn ts tb s))) (ht:mu[tb]?=some (.mp (eSet es))) :
  qD qe 122 [.ptr xb 0,eEnv env,aS nm,aB body] mu fun e m=>e = .ret (.tup [eEnv (renI ts es env nm body s).1.1,aS (renI ts es env nm body s).1.2])/\But xb mu m/\m[xb]?=some (.arr (cIn ts tb (renI ts es env nm body s).2)):=by
 refine fU ?_;refine qSW call122 func122 rfl {} ?_;have az:xb<mu.length:=(qk.1 hx).1;have ah:tb<mu.length:=(qk.1 ht).1;have ai:tb≠xb:=fun e=>by grind
 simp[go_sem];obtain⟨B,hB⟩:∃ B,B=encK aS eIV env:=⟨_,rfl⟩;have b0:B.length=env.length:=by rw[hB];simp
 rw[<-hB];refine qm.seen env.length (fun seen T=>T.tm 0 = .ptr xb 0/\T.tm 2=aS nm/\T.tm 3=aB body/\T.tm 10 = .mp mu.length/\T.tm 16 = .ptr (mu.length+1) 0/\But xb mu T.mu/\mu.length+1<T.mu.length/\T.mu[xb]?=mu[xb]?/\T.mu[mu.length+1]?=some (.it B seen) /\
  ∃ o:IEnv,T.mu[mu.length]?=some (.mp (encK aS eIV o))/\(o.map Prod.fst).Nodup/\∀ x,x∈o↔∃ i,i∈seen/\env[i]?=some x) ?_ ?_
 .simp_all [go_sem,But.app,qN]
 .rintro seen T b1 b2 ⟨e0,e2,e3,p,a5,R,hl,aj,ak,o,ab,C,I⟩
  simp[go_sem,a5];refine⟨mu.length+1,B,seen,rfl,ak,fun i e hi al=>?_,fun ax=>?_⟩
  .have J:∃ y,env[i]?=some y/\e=(aS y.1,eIV y.2):=by
    rw[hB,zn,jR]at hi;obtain⟨y,J,rfl⟩:=hi
    grind
   obtain⟨⟨k,va,vz,vn⟩,J,rfl⟩:=J;have an:i<env.length:=(qk.1 J).1;have a6:∀(c:Cell)(l:List Cell),(T.mu.set (mu.length+1) c++l)[mu.length]?=some (.mp (encK aS eIV o)):=fun c l=>by
    grind
   have hu:=fun c l=>updE (a6 c l) k ⟨va,vz,vn⟩
   simp[go_sem,p,a5,hi,hl,qo0];refine pN _ (hu _ _) ?_;generalize hM:List.set (T.mu.set (mu.length+1) (Cell.it B (seen++[i]))++[Cell.arr [aArg va,aI vz,aS vn]]) mu.length (.mp (encK aS eIV (setK k ⟨va,vz,vn⟩ o)))=M;have b3:M.length=T.mu.length+1:=by rw[<-hM];simp
   have ao:∀ j,j<T.mu.length->j≠mu.length->j≠mu.length+1->M[j]?=T.mu[j]?:=fun j h1 h2 h3=>by
    grind
   have aq:M[mu.length]?=some (.mp (encK aS eIV (setK k ⟨va,vz,vn⟩ o))):=by
    grind
   have b4:M[mu.length+1]?=some (.it B (seen++[i])):=by
    grind
   have a7:∀ v,(k,v)∈o->False:=fun v hm=>by
    obtain⟨j,P,he⟩:=(I _).1 hm;have h1:(env.map Prod.fst)[j]?=some k:=by rw[zn,he];rfl
    have h2:(env.map Prod.fst)[i]?=some k:=by rw[zn,J];rfl
    have b5:j<(env.map Prod.fst).length:=(qk.1 h1).1
    grind [List.getElem?_inj]
   simp[go_sem];refine⟨i,an,al,aA ?_⟩;refine⟨zS1 e0,zS1 e2,zS1 e3,zS1 p,zS1 a5,?_,by grind [qC],?_,by simp[go_sem, *],_,zVs aq,wE C,fun x v=>?_⟩
   .simp only[go_sem,qC]
    exact⟨zOm,fun j P hn=>by rw[ao j zOm zOm zOm];exact R.same j P hn⟩
   .grind [qC]
   .rw [ZB C,I]
    constructor
    .rintro (e|⟨⟨j,P,he⟩,_⟩)
     .exact ⟨i,zSp,by rw[J,e]⟩
     .exact ⟨j,zP1 P,he⟩
    .rintro ⟨j,P,he⟩
     rcases qM.1 P with P|P
     .refine .inr ⟨⟨j,P,he⟩,fun e=>?_⟩
      simp only at e;subst e;exact a7 v ((I _).2 ⟨j,P,he⟩)
     .rw [qV]at P
      subst P;rw[J]at he;exact .inl (Option.some.inj he).symm
  .simp [go_sem,e2,p]
   have ar:∀ x,x∈o↔x∈env:=fun x=>by
    grind [zb,List.mem_iff_getElem?,qk]
   refine keyS.delete (et:=207) (t:=141) zSi ab trivial (fun _ _=>trivial) ?_;have U:=Z2 (k:=nm) C;have a8:∀ x,x∈delK nm o↔x∈delK nm env:=fun x=>by grind [XQ]
   have ad:mu.length<T.mu.length:=zOm;have au:∀ c,(T.mu.set mu.length c)[xb]?=some (.arr (cIn ts tb s)):=fun c=>by rw[zGl,aj];exact hx
   have av:∀ c,(T.mu.set mu.length c)[tb]?=some (.mp (eSet es)):=fun c=>by rw[zGl,R.same tb ah ai];exact ht
   have aw:∀ c,But xb mu (T.mu.set mu.length c):=fun c=>R.setN (qr _) c
   have hD:∀ c,(T.mu.set mu.length c)[mu.length]?=some c:=fun c=>qL ad
   generalize hM:T.mu.set mu.length (.md (encK aS eIV (delK nm o)))=M;have a0:M[xb]?=some (.arr (cIn ts tb s)):=by rw[<-hM];exact au _
   have ae:M[tb]?=some (.mp (eSet es)):=by rw[<-hM];exact av _
   have a9:But xb mu M:=by grind
   have a1:M[mu.length]?=some (.md (encK aS eIV (delK nm o))):=by grind
   have af:mu.length<M.length:=(qk.1 a1).1;have fin:∀(m:Mu)(a2 fs:IEnv)(a3:tP)(s1:ISt),But xb mu m->m[mu.length]?=some (.md (encK aS eIV a2))->(a2.map Prod.fst).Nodup->(fs.map Prod.fst).Nodup->(∀ x,x∈a2↔x∈fs)->m[xb]?=some (.arr (cIn ts tb s1))->((fs,a3),s1)=renI ts es env nm body s ->
     ∃(g:Nat->Bool) (x:AV),Gv m g (.tup [.mp mu.length,aS a3]) x/\x = .tup [eEnv (renI ts es env nm body s).1.1,aS (renI ts es env nm body s).1.2]/\But xb mu (cutM (fun i=>!g i) m 0)/\(cutM (fun i=>!g i) m 0)[xb]?=some (.arr (cIn ts tb (renI ts es env nm body s).2)):=by
    intro m a2 fs a3 s1 hb hd n1 n2 hm b6 e;rw[<-e];refine⟨fun i=>i == mu.length,.tup [eEnv fs,aS a3],.rd _ _ (.tup _ _ rfl fun k x y hx J=>?_),rfl,hb.cut fun i hi=>zSo,?_⟩
    .match k with
     | 0 =>
      simp at hx J;subst hx;subst J;exact qoZ (by rw[uo zSp];exact hd) n1 n2 hm
     | 1 =>
      simp at hx J;subst hx;subst J;exact .zsc _
     |k+2=>simp at hx
    grind [uo]
   have ay:∀(b7:St)(K:qX->St->Prop),True:=fun _ _=>trivial
   by_cases hb:body=true
   .subst hb
    simp[go_sem,e0,e3];refine fZ (qcH ts h s (qo ts es) hs tb es aa a0 ae) ?_ (by rintro r m ⟨e,_⟩;cases e);rintro r m ⟨e,rfl⟩;cases e;have hu:=qcI (mu:=M.set xb (.arr (cIn ts tb ⟨zC ts es (qo ts es) s.last,s.sM⟩))) (b:=mu.length) (by rw[zGl];exact a1) nm ⟨none,0,vN (zC ts es (qo ts es) s.last)⟩;simp[go_sem,e2,p];refine pN _ hu ?_;simp[go_sem,p];refine(fin _ _ _ _ ⟨zC ts es (qo ts es) s.last,s.sM⟩ ((a9.trans (cB xb M _)).setN (qr _) _) (qL (zUs af)) (wE U) (wE (Z2 hk)) (fun x=>by rw[ZB U,ZB (Z2 hk),a8]) (by rw[zGl,qL zOm];rfl) ?_);simp[renI]
   .have hb:body=false:=by simpa using hb
    subst hb;simp[go_sem,e0,e2,e3,a0];refine tS (KA ts h nm) (.zk (zp ts) (.zs .nil)) ?_;by_cases a4:means ts nm=[]
    .simp [go_sem,e2,p,a0,a4]
     refine(fin M _ _ _ _ a9 a1 U (Z2 hk) a8 a0 ?_);simp[renI,a4]
    .have ag:0<(means ts nm).length:=List.length_pos_iff.2 a4
     simp[go_sem,e0,ag];refine fZ (qcH ts h s (qo ts es) hs tb es aa a0 ae) ?_ (by rintro r m ⟨e,_⟩;cases e);rintro r m ⟨e,rfl⟩;cases e;have hu:=qcI (mu:=M.set xb (.arr (cIn ts tb ⟨zC ts es (qo ts es) s.last,s.sM⟩))) (b:=mu.length) (by rw[zGl];exact a1) nm ⟨none,0,vN (zC ts es (qo ts es) s.last)⟩;simp[go_sem,e2,p];refine pN _ hu ?_;simp[go_sem,p];refine(fin _ _ _ _ ⟨zC ts es (qo ts es) s.last,s.sM⟩ ((a9.trans (cB xb M _)).setN (qr _) _) (qL (zUs af)) (wE U) (wE (Z2 hk)) (fun x=>by rw[ZB U,ZB (Z2 hk),a8]) (by rw[zGl,qL zOm];rfl) ?_);simp[renI,a4]
end
end YB
namespace Q9
open Y1
def qcJ(nm:tP)(p:Int):Nd := .mk 1 nm 0 [] p
end Q9
namespace PA
open P1 P2 Y1 Y2 Y9 Y15 Y16 Q6
section
variable {inn:Bool}{c c':Ck}{s s':Scp}
def wR(nm:tP)(n:Nd):Prop:=anyN (fun n=>decide (n.name=nm)) n=true
theorem qcK{p}:∀{ks},uC p ks=true↔∃ k,k∈ks/\anyN p k=true
 | []=>by simp[uC]
 |k :: ks=>by
  simp only[uC,Zj,qcK (ks:=ks),qy];constructor
  .rintro (h|⟨x,g,h⟩)
   .exact ⟨k,.inl rfl,h⟩
   .exact ⟨x,.inr g,h⟩
  .rintro ⟨x,rfl|g,h⟩
   .exact .inl h
   .exact .inr ⟨x,g,h⟩
theorem qo2(n):wR n.name n:=by
 unfold wR;rw[U4];simp
theorem qo3{n k nm}(g:k∈n.sD)(h:wR nm k):wR nm n:=by
 unfold wR at h⊢;rw[U4,Zj]
 grind [qcK]
def lookS(nm:tP)(s:Scp):Option Kd:=(jx nm s).head?.map Prod.snd
theorem qo4(nm):lookS nm []=none:=rfl
theorem uH(nm v)(s:Scp):lookS nm (v :: s)=if v.1=nm then some v.2 else lookS nm s:=by
 grind [lookS,jx]
theorem ZC(c s nm pos):jD c s nm pos=match lookS nm s with
  |some k => .ok (some k)
  |none=>match means c.ts nm with
   | [] => .error (40,pos)
   | [k] => .ok (some k)
   |_ => .error (44,pos):=by
 grind [jD,lookS,jx]
theorem qcL{n n'}(j:n'.op=n.op)(l:n'.name=n.name)(r:n'.n=n.n)(t:n'.pos=n.pos)
  (C:zY c' n.op n.name=zY c n.op n.name) (J:n.op=1->jD c s n.name n.pos=jD c' s' n.name n.pos) (o:c'.ts.sT=c.ts.sT) (g:zx c' n.name=zx c n.name)
  (p:c'.ts.sS.length=c.ts.sS.length) (i:n'.sD.length=n.sD.length)
  (P:n.op=47->∀ ps,yb c s n.pos ps n.sD=yb c' s' n.pos ps n'.sD)
  (hB:(n.op=15\/n.op=45\/n.op=46)->∀ inn,yr c s inn n.name n.pos n.sD=yr c' s' inn n.name n.pos n'.sD)
  (I:¬n.op=1->¬n.op=47->¬(n.op=15\/n.op=45\/n.op=46)->∀ inn,za c s inn n.sD=za c' s' inn n'.sD):exam c s inn n=exam c' s' inn n':=by
 rw[yU,yU,j,l,r,t,C,o,g,p,i];by_cases a:(inn&&zY c n.op n.name)=true
 .rw [if_pos a,if_pos a]
 rw[if_neg a,if_neg a];by_cases b:n.op=1
 .grind
 rw[if_neg b,if_neg b];by_cases d:n.op=47
 .simp_all
 rw[if_neg d,if_neg d];by_cases e:n.op=15\/n.op=45\/n.op=46
 .rw [if_pos e,if_pos e];exact hB e _
 rw[if_neg e,if_neg e,I b d e]
theorem qcM(f):∀{ks},(∀ k,k∈ks->exam c s inn k=exam c' s' inn (f k))->za c s inn ks=za c' s' inn (ks.map f)
 | [],_=>rfl
 |k :: ks,h=>by
  simp only[z7,za];rw[h k (zg ..),qcM f fun g i=>h g (q8 _ i)]
theorem qcN{pos}(f):∀{ks ps},(∀ k,k∈ks->exam c s true k=exam c' s' true (f k))->yb c s pos ps ks=yb c' s' pos ps (ks.map f)
 | [],ps,_=>by cases ps<;>rfl
 |k :: ks,[],_=>rfl
 |k :: ks,p :: ps,h=>by
  simp only[z7,yb];rw[h k (zg ..),qcN f (ps:=ps) fun g i=>h g (q8 _ i)]
theorem Wd{ks}(h:∀ k,k∈ks->exam c s inn k=exam c' s' inn k):za c s inn ks=za c' s' inn ks:=by
 have:=qcM (c:=c) (c':=c') (s:=s) (s':=s') (inn:=inn) id (ks:=ks) h
 rwa[List.map_id]at this
theorem qcO{pos ks ps}(h:∀ k,k∈ks->exam c s true k=exam c' s' true k):yb c s pos ps ks=yb c' s' pos ps ks:=by
 have:=qcN (c:=c) (c':=c') (s:=s) (s':=s') (pos:=pos) id (ks:=ks) (ps:=ps) h
 rwa[List.map_id]at this
structure wS (c c':Ck):Prop where
 sT:c'.ts.sT=c.ts.sT
 sS:c'.ts.sS=c.ts.sS
 sA:c'.ts.sA=c.ts.sA
 calls:c'.calls=c.calls
 timed:c'.timed=c.timed
theorem wS.refl(c):wS c c:=⟨rfl,rfl,rfl,rfl,rfl⟩
theorem wS.callee(h:wS c c')(nm):zx c' nm=zx c nm:=by
 unfold zx;rw[h.sT,h.calls]
theorem wS.time(h:wS c c')(op nm):zY c' op nm=zY c op nm:=by
 unfold zY;rw[h.callee,h.timed]
theorem wS.means(h:wS c c')(nm):means c'.ts nm=means c.ts nm:=by
 unfold P1.means;rw[h.sA,h.sS]
theorem qcP(j:wS c c'):∀ m n s s' inn,szN n<=m->(∀ nm,wR nm n->lookS nm s=lookS nm s')->exam c s inn n=exam c' s' inn n
 | 0,n,_,_,_,o,_=>by obtain⟨op,nm,i,ks,p⟩:=n;simp[szN]at o
 |m+1,n,s,s',inn,o,h=>by
  have l:∀ k,k∈n.sD->∀(s s':Scp)(inn:Bool),(∀ nm,wR nm k->lookS nm s=lookS nm s')->exam c s inn k=exam c' s' inn k:=fun k l s s' inn t =>
   qcP j m k s s' inn (zW1 (yu l)) t
  have r:∀ k,k∈n.sD->∀ nm,wR nm k->lookS nm s=lookS nm s':=fun k l nm C=>h nm (qo3 l C)
  refine qcL rfl rfl rfl rfl (j.time _ _) (fun _=>?_) j.sT (j.callee _) (by rw[j.sS]) rfl (fun _ J=>qcO fun k g=>l k g s s' true (r k g)) (fun _ inn=>?_) (fun _ _ _ inn=>Wd fun k g=>l k g s s' inn (r k g))
  .rw [ZC,ZC,h _ (qo2 n),j.means]
  .cases I:n.sD with
   |nil=>rfl
   |cons k ks =>
    grind [ks,yr,zg,za,Wd,q8,uH]
def wf(ts:TS)(g:List (tP×Nd)):TS:=⟨ts.sS,ts.sA,ts.sT,g⟩
theorem qo5{I}(g)(l:List I)(i):(repL g l)[i]?=(l[i]?).map fun x=>(l.take i).any fun y=>g x y:=by
 grind [qaU,qA,List.getElem?_eq_none,Qz]
theorem qcQ{I}(g)(l:List I)(i):repB g l i=match l[i]? with|some x=>[(l.take i).any fun y=>g x y] | none=>[]:=by
 unfold repB;rw[List.take_add_one,qo5,List.drop_append];by_cases h:i<l.length
 .rw [qA h,List.length_take,Qz,Nat.min_eq_left zOm,List.drop_of_length_le zSo]
  simp
 grind
def binB(op:Int):Bool:=decide (op=15)||decide (op=45)||decide (op=46)
end
end PA
namespace YC
open P1 Y1 YX YZ YA YB PA
section
variable {env:IEnv}{s:ISt}{es:List (tP×Bool)}{F:Nat}{ts:TS}
abbrev XR(I:Type):=Except Dg (I×ISt)
def y7(E:Nd->ISt->XR (Nd×Int)):List (tP×Int)->List Nd->IEnv->ISt->XR IEnv
 |p :: g,k :: ks,own,s=>match E k s with
  | .error e => .error e
  | .ok ((i,m),j)=>y7 E g ks (setK p.1 ⟨some i,m,⟨#[]⟩⟩ own) j
 |_,_,own,s => .ok (own,s)
def yx(E:IEnv->Nd->ISt->XR (Nd×Int))(R:IEnv->tP->ISt->(IEnv×tP)×ISt)(bin:Bool):Nat->IEnv->tP->List Nd->ISt->XR (tP×List Nd×Int)
 |_,_,o,[],s => .ok ((o,[],0),s)
 |i,env,o,k :: ks,s =>
  let r:=if bin=true/\i=1 then R env o s else ((env,o),s)
  match E r.1.1 k r.2 with
  | .error e => .error e
  | .ok ((p,m),t)=>match yx E R bin (i+1) r.1.1 r.1.2 ks t with
   | .error e => .error e
   | .ok ((g,j,C),l) => .ok ((g,p :: j,m+C),l)
def vX{I i:Type}(q:XR I)(g:I->ISt->XR i):XR i:=
 match q with
 | .error e => .error e
 | .ok (a,s)=>g a s
theorem ZD{I i q}{g:I->ISt->XR i}{r}(h:vX q g = .ok r):∃ a s,q = .ok (a,s)/\g a s = .ok r:=by
 unfold vX at h;split at h
 .cases h
 .exact ⟨_,_,rfl,h⟩
def expI(ts:TS)(es:List (tP×Bool)):Nat->IEnv->Nd->Bool->ISt->XR (Nd×Int)
 | 0,_,_,_,_ => .error (2,0)
 |f+1,env,n,g,s =>
  if s.sM+1<=4000 then
   if n.op=1 then vI env n (payS 1 s)
   else if n.op=47 then match ts.sT.find? fun p=>decide (p.name=n.name) with
    |none => .error (2,0)
    |some p=>vX (y7 (fun k s=>expI ts es f env k g s) p.params n.sD [] (payS 1 s)) fun own i=>expI ts es f own p.body true i
   else vX (yx (fun env k s=>expI ts es f env k g s) (fun env o s=>renI ts es env o g s) (binB n.op) 0 env n.name n.sD (payS 1 s)) fun r i => .ok ((.mk n.op r.1 n.n r.2.1 n.pos,1+r.2.2),i)
  else .error (2,0)
def yW(ts:TS)(n:Nd):Prop:=∀ x,x∈preN n->x.op=47->∃ p,(ts.sT.find? fun p=>decide (p.name=x.name))=some p/\p.params.length=x.sD.length
theorem qcR{ks k x}(g:k∈ks)(i:x∈preN k):x∈zD ks:=by
 induction ks with
 |nil=>simp at g
 |cons a l j =>
  simp only[zD,qM];rcases qy.1 g with rfl|g
  .exact .inl i
  grind
theorem We{n k x}(g:k∈n.sD)(i:x∈preN k):x∈preN n:=by
 grind [uG,q8,qcR]
theorem vr(n):n∈preN n:=by rw[uG];exact zg ..
theorem yW.kid{n k}(h:yW ts n)(g:k∈n.sD):yW ts k:=fun x i=>h x (We g i)
def pot(F:Nat)(s:ISt):Int:=s.sM*F-s.last
structure StOk (F:Nat) (s:ISt):Prop where
 l0:0<=s.last
 c0:0<=s.sM
 c1:s.sM<=4000
 p:0<=pot F s
theorem StOk.last(h:StOk F s):s.last<=4000*F:=by
 have g:s.sM*F<=4000*F:=Int.mul_le_mul_of_nonneg_right h.c1 zOm;have:=h.p
 grind [pot]
structure zt (env:IEnv):Prop where
 nd:(env.map Prod.fst).Nodup
 sz:∀ e,e∈env->0<=e.2.size/\e.2.size<=4000
theorem zt.nil:zt []:=⟨zSp,fun e g=>by simp at g⟩
theorem zt.set(h:zt env){k v}(i:0<=v.size/\v.size<=4000):zt (setK k v env):=
 ⟨wE h.nd,fun e g=>by
  rcases (ZB h.nd).1 g with rfl|⟨g,_⟩
  .exact i
  .exact h.sz e g⟩
theorem zt.del(h:zt env){k}:zt (delK k env):=⟨Z2 h.nd,fun e g=>h.sz e ((XQ h.nd).1 g).1⟩
theorem Jm{nm body}(h:zt env):zt (renI ts es env nm body s).1.1:=by
 unfold renI;split
 .exact h.del.set ⟨zSp,zSp⟩
 .exact h.del
theorem Wf(ts es):∀ f k,k<zC ts es f k/\zC ts es f k<=k+f+1
 | 0,k=>by grind [zC]
 |f+1,k=>by
  simp only[zC];have:=Wf ts es f (k+1);omega
theorem kh{ts es}:∀{f k},(∃ j:Nat,1<=j/\j<=f/\yI ts es (vN (k+j))=true)->zC ts es f k<=k+f
 | 0,k,⟨j,g,i,_⟩=>zOm
 |f+1,k,⟨j,g,i,l⟩=>by
  simp only[zC];split
  .omega
  .rename_i o
   have p:j≠1:=fun e=>by grind
   have:=kh (ts:=ts) (es:=es) (f:=f) (k:=k+1) ⟨j-1,zOm,zOm,by grind⟩;omega
def Free(ts:TS)(es:List (tP×Bool)):Prop:=∀ l:Int,0<=l->∃ j:Nat,1<=j/\j<=qo ts es/\yI ts es (vN (l+j))=true
theorem Jn(g:Free ts es){env nm body s}(i:0<=s.last):0<=(renI ts es env nm body s).2.last/\(renI ts es env nm body s).2.last<=s.last+(qo ts es:Nat)/\(renI ts es env nm body s).2.sM=s.sM:=by
 unfold renI;split
 .have l:=Wf ts es (qo ts es) s.last
  have j:=kh (g s.last i);refine⟨?_,j,rfl⟩
  grind
 .exact ⟨i,by grind,rfl⟩
structure Gos (F:Nat) (s s':ISt) (z:Int):Prop where
 l0:0<=s'.last
 c1:s'.sM<=4000
 z0:0<=z
 cz:s.sM+z<=s'.sM
 p:pot F s<=pot F s'
theorem Gos.ok{s' z}(g:Gos F s s' z)(h:StOk F s):StOk F s':=⟨g.l0,by have:=g.cz;have:=g.z0;have:=h.c0;omega,g.c1,zW2 g.p h.p⟩
theorem ZE(F s n):pot F (payS n s)=pot F s+n*F:=by
 grind [pot,payS,Int.add_mul]
theorem wT(h:StOk F s){n}(g:0<=n)(i:s.sM+n<=4000):Gos F s (payS n s) n:=
 ⟨h.l0,i,g,v7 _,by rw[ZE];have:0<=n*(F:Int):=Int.mul_nonneg g zOm;omega⟩
theorem qo6{n n' s' z}(h:StOk F s)(l:zt env)(t:s.sM+1<=4000)(e:vI env n (payS 1 s) = .ok ((n',z),s')):Gos F s s' z:=by
 have j:=wT h (n:=1) zOm t;unfold vI at e;cases o:getK n.name env with
 |none=>grind
 |some v =>
  rw[o]at e;have C:=l.sz _ ((Zq l.nd).1 o);obtain⟨I,r,P⟩:=v;cases I with
  |none=>cases e;exact j
  |some a =>
   simp only at e;split at e
   .rename_i J
    have i:0<=r/\r<=4000:=C;cases e;have g:=wT (j.ok h) i.1 J;exact⟨g.l0,g.c1,i.1,zW2 g.cz j.cz,zW2 g.p j.p⟩
   .cases e
theorem Wg{E}:∀{ks ps own i s s'},(∀ k n' z s s',k∈ks->StOk F s->E k s = .ok ((n',z),s')->Gos F s s' z)->StOk F s->zt own ->
  y7 E ps ks own s = .ok (i,s')->zt i/\Gos F s s' 0
 | [],ps,own,i,s,s',_,h,j,e=>by
  have e:Except.ok (own,s)=(Except.ok (i,s'):XR IEnv):=by cases ps<;>exact e
  cases e;exact⟨j,h.l0,h.c1,zOm,zOm,v7 _⟩
 |k :: ks,[],own,i,s,s',_,h,j,e=>by
  cases e;exact⟨j,h.l0,h.c1,zOm,zOm,v7 _⟩
 |k :: ks,p :: ps,own,i,s,s',o,h,j,e=>by
  simp only[y7]at e;split at e
  .cases e
  .rename_i r m s1 t
   have g:=o k r m s s1 (zg ..) h t;have C:m<=4000:=by have:=g.cz;have:=g.c1;have:=h.c0;omega
   obtain⟨I,l⟩:=Wg (fun k n' z s s' J=>o k n' z s s' (q8 _ J)) (g.ok h) (j.set (v:=⟨some r,m,⟨#[]⟩⟩) ⟨g.z0,C⟩) e;exact⟨I,l.l0,l.c1,zOm,by have:=g.cz;have:=g.z0;have:=l.cz;omega,zW2 g.p l.p⟩
def dueN(F:Nat)(bin:Bool)(i:Nat):Int:=if bin=true/\i<=1 then F else 0
theorem Ye(F bin i):0<=dueN F bin i:=by unfold dueN;split<;>omega
theorem Wh{bin i}(h:¬(bin=true/\i=1)):dueN F bin i=dueN F bin (i+1):=by
 unfold dueN;by_cases g:bin=true
 .by_cases l:i=1
  .grind
  .by_cases j:i<=1
   .rw [if_pos ⟨g,j⟩,if_pos ⟨g,zOm⟩]
   omega
 grind
theorem qcS{E R bin}(J:∀ env nm s,0<=s.last->zt env->zt (R env nm s).1.1/\0<=(R env nm s).2.last/\(R env nm s).2.last<=s.last+(F:Int)/\(R env nm s).2.sM=s.sM) :
  ∀{ks i env nm nm' s s' j m},(∀ env k n' z s s',k∈ks->StOk F s->zt env->E env k s = .ok ((n',z),s')->Gos F s s' z)->0<=s.last->0<=s.sM->s.sM<=4000->dueN F bin i<=pot F s->zt env ->
  yx E R bin i env nm ks s = .ok ((nm',j,m),s')->0<=s'.last/\s'.sM<=4000/\0<=m/\s.sM+m<=s'.sM/\pot F s-dueN F bin i<=pot F s'
 | [],i,env,nm,nm',s,s',j,m,_,P,c0,c1,hp,T,e=>by
  cases e;have:=Ye F bin i;omega
 |k :: ks,i,env,nm,nm',s,s',j,m,U,P,c0,c1,hp,T,e=>by
  simp only[yx]at e;obtain⟨r,o⟩:∃ r,r=if bin=true/\i=1 then R env nm s else ((env,nm),s):=⟨_,rfl⟩
  rw[<-o]at e;have C:zt r.1.1/\0<=r.2.last/\r.2.sM=s.sM/\dueN F bin (i+1)<=pot F r.2/\pot F s-dueN F bin i<=pot F r.2-dueN F bin (i+1):=by
   by_cases t:bin=true/\i=1
   .rw [if_pos t]at o
    obtain⟨a1,a2,a3,a4⟩:=J env nm s P T;have d1:dueN F bin i=F:=if_pos ⟨t.1,zOm⟩;have d2:dueN F bin (i+1)=0:=zIn
    grind [pot]
   .rw [if_neg t]at o
    subst o;have d':dueN F bin i=dueN F bin (i+1)\/(bin=true/\i=1):=by
     unfold dueN;by_cases l:bin=true
     .by_cases h1:i=1
      .grind
      .left
       by_cases h0:i<=1
       .rw [if_pos ⟨l,h0⟩,if_pos ⟨l,zOm⟩]
       omega
     grind
    have a0:dueN F bin i=dueN F bin (i+1):=d'.elim id fun h=>absurd h t
    grind
  obtain⟨b1,b2,b3,b4,b5⟩:=C;split at e
  .cases e
  .rename_i k' m1 s1 h1
   have I:StOk F r.2:=⟨b2,zOm,zOm,zW1 (Ye F bin (i+1))⟩;have g:=U r.1.1 k k' m1 r.2 s1 (zg ..) I b1 h1;split at e
   .cases e
   .rename_i a5 a6 m2 s2 h2
    have:=qcS J (fun env k n' z s s' hk=>U env k n' z s s' (q8 _ hk)) g.l0 (zW2 g.cz g.z0) g.c1 (zW1 g.p) b1 h2;obtain⟨q1,q2,q3,q4,q5⟩:=this;cases e;have:=g.cz;have:=g.z0;have:=g.p;omega
theorem jq(ts){es}(g:Free ts es):∀(f){env n n' body s s' z},StOk (qo ts es) s->zt env->expI ts es f env n body s = .ok ((n',z),s')->Gos (qo ts es) s s' z
 | 0,_,_,_,_,_,_,_,_,_,e=>by cases e
 |f+1,env,n,n',body,s,s',z,h,P,e=>by
  simp only[expI]at e;split at e
  .rename_i R
   have i:=wT h (n:=1) zOm R;split at e
   .grind [qo6]
   .split at e
    .split at e
     .cases e
     .rename_i p _
      .obtain ⟨own,s1,t,e⟩:=ZD e
       obtain⟨T,g1⟩:=Wg (F:=qo ts es) (fun k n' z s s' _ C I=>jq ts g f C P I) (i.ok h) .nil t;have j:=jq ts g f (g1.ok (i.ok h)) T e;exact⟨j.l0,j.c1,j.z0,by have:=j.cz;have:=g1.cz;have:=i.cz;omega,by have:=j.p;have:=g1.p;have:=i.p;omega⟩
    ·.obtain ⟨⟨l,r,m⟩,s1,t,e⟩:=ZD e
      cases e;have U:dueN (qo ts es) (binB n.op) 0<=pot (qo ts es) (payS 1 s):=by
       rw[ZE];have:=h.p;grind [dueN]
      have:=qcS (F:=qo ts es) (fun env o s hl J=>⟨Jm J,Jn g hl⟩) (fun env k n' z s s' _ C J I=>jq ts g f C J I) i.l0 (by have:=(i.ok h).c0;exact this) i.c1 U P t;obtain⟨q1,q2,q3,q4,q5⟩:=this;have a0:dueN (qo ts es) (binB n.op) 0<=(qo ts es:Nat):=by grind [dueN]
      rw[ZE]at q5;have a1:0<=(l,r,m).snd.snd:=q3;have a2:(payS 1 s).sM+(l,r,m).snd.snd<=s'.sM:=q4;exact⟨q1,q2,zOm,zW1 i.cz,zOm⟩
  .cases e
end
end YC
namespace E6
open Y1 Y9 Y1 Y9 YZ YC E3
structure Wi (d:Den) (p q:Pl):Prop where
 E:d.E p=d.E q
 N:d.N p=d.N q
 F:d.F p=d.F q
theorem qo7{x op nm i ds env g}(C:op=1->zZ nm env=zZ nm g)
  (l:∀ j s,Wi (kD ds j) ⟨s,env⟩ ⟨s,g⟩) (p:∀ s a,(kD ds 1).F ⟨s,env++[(nm,a)]⟩=(kD ds 1).F ⟨s,g++[(nm,a)]⟩) (I:∀ s,mapX (fun d:Den=>d.E ⟨s,env⟩) ds=mapX (fun d:Den=>d.E ⟨s,g⟩) ds) (s):Wi (opD x op nm i ds) ⟨s,env⟩ ⟨s,g⟩:=by
 have o:=fun j s=>(l j s).E
 have r:=fun j s=>(l j s).N
 have J:=fun j s=>(l j s).F
 refine⟨?_,?_,?_⟩
 .show opE x op nm i ds ⟨s,env⟩=opE x op nm i ds ⟨s,g⟩
  by_cases t:op=1
  .subst t
   simp only[opE,if_true,vS,C rfl]
  .simp only[opE,if_neg t,yn,binE,jk,o,p]
 .show opN op i ds ⟨s,env⟩=opN op i ds ⟨s,g⟩
  simp only[opN,o,r]
 .show opF x op nm ds ⟨s,env⟩=opF x op nm ds ⟨s,g⟩
  simp only[opF,yn,jk,o,r,J,p,I]
theorem wU(nm env e):zZ nm (env++[e])=if e.1=nm then some e.2 else zZ nm env:=by
 unfold zZ;rw[vM];rfl
theorem qcT(x)(R:tP->Prop):∀ m n,szN n<=m->(∀ y,y∈preN n->R y.name)->∀ env g,(∀ nm,R nm->zZ nm env=zZ nm g)->∀ s,Wi (den x n) ⟨s,env⟩ ⟨s,g⟩
 | 0,n,T,_=>by obtain⟨op,nm,i,ks,p⟩:=n;simp[szN]at T
 |m+1,n,T,U=>by
  intro env g t s;rw[vT];have C:∀ k,k∈n.sD->∀(env g:List (tP×Int)),(∀ nm,R nm->zZ nm env=zZ nm g)->∀ s,Wi (den x k) ⟨s,env⟩ ⟨s,g⟩:=fun k o =>
   qcT x R m k (zW1 (yu o)) fun y I=>U y (by rw[uG];exact q8 _ (qcR o I))
  have r:∀ j,kD (n.sD.map (den x)) j=noD\/∃ k,k∈n.sD/\kD (n.sD.map (den x)) j=den x k:=fun j=>by
   unfold kD;by_cases J:j<n.sD.length
   .exact .inr ⟨n.sD[j],qs J,by simp[List.getD,J]⟩
   .exact .inl (by simp[List.getD,J])
  refine qo7 (fun _=>t _ (U n (by rw[uG];exact zg ..))) (fun j s=>?_) (fun s a=>?_) (fun s=>?_) s
  .rcases r j with h|⟨k,o,h⟩
   .rw [h];exact⟨rfl,rfl,rfl⟩
   .rw [h];exact C k o env g t s
  .rcases r 1 with h|⟨k,o,h⟩
   .rw [h];rfl
   .rw [h]
    exact(C k o _ _ (fun nm hr=>by rw[wU,wU,t nm hr]) s).F
  .have:∀ l:List Nd,(∀ k,k∈l->k∈n.sD)->mapX (fun d:Den=>d.E ⟨s,env⟩) (l.map (den x))=mapX (fun d:Den=>d.E ⟨s,g⟩) (l.map (den x)):=by
    intro l;induction l with
    |nil=>intro _;rfl
    |cons k l P =>
     intro hl;simp only[z7,mapX];rw[(C k (hl k (zg ..)) env g t s).E,P fun y I=>hl y (q8 _ I)]
   exact this n.sD fun k o=>o
end E6
namespace YD
open YM YF P1 P2 Y1 Y2 Y6 Y7 Y9 Y10 Y13 YX YZ YB PA YC
section
variable {mu:Mu}{b:Nat}
theorem qo8(p n):qi qe 120 [.agg (cPd p),.ip (cNd n)] (aB (decide (p.name=n.name))):=by
 refine qSV call120 func120 rfl ?_;by_cases h:p.name=n.name
 .simp [go_sem,h]
  exact .zsc _
 .simp [go_sem,h,j0 h]
  exact .zsc _
def endE(ts:TS)(tb:Nat)(mu:Mu)(xb:Nat)(r:XR (Nd×Int))(e:AEnd)(m:Mu):Prop:=
 match r with
 | .ok ((n,k),s)=>e = .ret (.tup [eNd n,aI k])/\m[xb]?=some (.arr (cIn ts tb s))/\But xb mu m
 | .error d=>e = .pan (jZ d.1 d.2)/\But xb mu m
def IHE(ts : TS)(es : List (tP × Bool))(tb f : Nat) : Prop := ∀(env : IEnv)(n : Nd)(g : Bool)(s : ISt)(C : Mu)(i : Nat), 4000 < s.sM + f->StOk (qo ts es) s->zt env->WfN n->yW ts n->C[i]? = some (.arr (cIn ts tb s))->C[tb]? = some (.mp (eSet es)) ->
      qD qe 73 [.ptr i 0,eEnv env,eNd n,aB g] C (endE ts tb C i (expI ts es f env n g s))
structure M0 (ts:TS) (es:List (tP×Bool)) (tb:Nat) (mu:Mu) (xb:Nat) (n:Nd) (s:ISt) (M:Mu):Prop where
 len:M.length=mu.length+2
 x:M[xb]?=some (.arr (cIn ts tb s))
 t:M[tb]?=some (.mp (eSet es))
 n:M[mu.length]?=some (.arr (cNd n))
 r:M[mu.length+1]?=some (.arr [aI 0,aS ⟨#[]⟩,aI 0,.lst true [],aI 0])
 but:But xb mu M
theorem M0.of{ts es tb xb n s s'}(g:mu[xb]?=some (.arr (cIn ts tb s)))(i:mu[tb]?=some (.mp (eSet es))) :
  M0 ts es tb mu xb n s' ((mu++[Cell.arr (cNd n),Cell.arr [aI 0,aS ⟨#[]⟩,aI 0,.lst true [],aI 0]]).set xb (.arr (cIn ts tb s'))):=by
 have j:xb<mu.length:=(qk.1 g).1;have l:tb<mu.length:=(qk.1 i).1;have o:tb≠xb:=fun e=>by grind
 refine⟨zSp,qL zSo,?_,?_,?_,(But.app xb mu _).trans (cB xb _ _)⟩
 .grind
 .grind
 grind
theorem qo9(ts es tb env n body s mu xb)(J:StOk (qo ts es) s)(P:zt env)(R:mu[xb]?=some (.arr (cIn ts tb s)))(T:mu[tb]?=some (.mp (eSet es)))(t:n.op=1) :
  qD qe 73 [.ptr xb 0,eEnv env,eNd n,aB body] mu (endE ts tb mu xb (if s.sM+1<=4000 then vI env n (payS 1 s) else .error (2,0))):=by
 have U:=J.c0;have a0:=J.c1;refine qSW call73 func73 rfl { mt:=[6] } ?_;have a1:xb<mu.length:=(qk.1 R).1;simp[go_sem];refine fZ (payU ts tb s 1 ⟨zOm,zOm⟩ ⟨zOm,zOm⟩ (by grind)) ?_ ?_
 .rintro r m ⟨rfl,e⟩
  by_cases C:s.sM+1<=4000
  .rw [if_pos C]at e⊢
   cases e;have l:=M0.of (s':=payS 1 s) (n:=n) R T;generalize a2:(mu++[Cell.arr (cNd n),.arr [aI 0,aS ⟨#[]⟩,aI 0,.lst true [],aI 0]]).set xb (.arr (cIn ts tb (payS 1 s)))=M at *
   simp[go_sem,l.n,t];have g:=qmH ts tb (payS 1 s) ⟨by show _<=s.sM+1;omega,by show s.sM+1<=_;omega⟩ env P.nd (fun e hm=>zW1 (P.sz e hm)) n l.x;generalize vI env n (payS 1 s)=Q at *
   have a3:=l.len;cases Q with
   |error d =>
    refine fZ g (by rintro r m ⟨e,_⟩;cases e) ?_;rintro r m ⟨e,i,j⟩;cases e;simp[go_sem];exact⟨rfl,l.but.trans ⟨j,i⟩⟩
   |ok q =>
    obtain⟨⟨n',k'⟩,s'⟩:=q;refine fZ g ?_ (by rintro r m ⟨e,_⟩;cases e);rintro r m ⟨e,a4,i,j⟩;cases e;have I:m[mu.length+1]?=some (.arr [aI 0,aS ⟨#[]⟩,aI 0,.lst true [],aI 0]):=by grind
    have o:mu.length+1<m.length:=zOm;have p:∀ c,(m.set (mu.length+1) c)[mu.length+1]?=some c:=fun c=>qL o
    simp[go_sem,I,p];exact⟨rfl,by grind,(l.but.trans ⟨j,i⟩).setN zOm _⟩
  grind
 .rintro r m ⟨rfl,e⟩
  by_cases C:s.sM+1<=4000
  .grind
  .rw [if_neg C]at e⊢
   cases e;simp[go_sem];exact⟨rfl,(But.app xb mu _).trans (cB xb _ _)⟩
theorem qcU{cs}(j:mu[b]?=some (.arr cs))(h:∀ c,c∈cs->HF c):Rd mu (.ptr b 0) (.ip cs):=
 .ptr b 0 cs cs j zSp fun k x y g i=>by
  rw[yj]at g;rw[g]at i;cases i;exact .hf _ (h _ (zb g))
abbrev AP:=Nat×Int×Nd
abbrev eAP(a:AP):AV := .agg [.ptr a.1 0,aI a.2.1,aS ⟨#[]⟩]
abbrev ivA(a:AP):IV:=⟨some a.2.2,a.2.1,⟨#[]⟩⟩
abbrev ownA(acc:List (tP×AP)):IEnv:=acc.map fun e=>(e.1,ivA e.2)
theorem ki{i I j}[DecidableEq i](g:I->j)(k v):∀ es:List (i×I),(setK k v es).map (fun e=>(e.1,g e.2))=setK k (g v) (es.map fun e=>(e.1,g e.2))
 | []=>rfl
 |e :: es=>by
  simp only[setK,z7];split
  .rfl
  .rw [z7,ki g k v es]
theorem updAP{es}(i:mu[b]?=some (.mp (encK aS eAP es)))(nm v) :
  jV qe mu 141 (.mp b) (aS nm) (eAP v)=some (mu.set b (.mp (encK aS eAP (setK nm v es)))):=
 keyS.update (et:=207) (t:=141) zSi (mu:=mu) (b:=b) (venc:=eAP) (es:=es) i (k:=nm) (v:=v) trivial (fun _ _=>trivial)
theorem qcV{acc}(o:mu[b]?=some (.mp (encK aS eAP acc)))(r:(acc.map Prod.fst).Nodup)(p:∀ e,e∈acc->mu[e.2.1]?=some (.arr (cNd e.2.2.2))):Rd mu (.mp b) (eEnv (ownA acc)):=by
 have j:((ownA acc).map Prod.fst).Nodup:=by
  grind
 have get:∀(k:Nat)(x y:AV×AV),(encK aS eAP acc)[k]?=some x->(encK aS eIV (ownA acc))[k]?=some y->∃ e,e∈acc/\x=(aS e.1,eAP e.2)/\y=(aS e.1,eIV (ivA e.2)):=fun k x y g i=>by
  grind
 refine .ims _ _ _ id id (PIx.refl _) (kf j) (.mp b _ _ o zSp (fun k x y g i=>?_) (fun k x y g i=>?_))
 .obtain ⟨e,l,rfl,rfl⟩:=get k x y g i
  exact .zsc _
 .obtain ⟨e,l,rfl,rfl⟩:=get k x y g i
  refine .agg _ _ rfl fun k x y g i=>?_
  match k with
  | 0 =>
   simp at g i;subst g;subst i;exact qcU (p e l) (vE _)
  | 1=>simp at g i;subst g;subst i;exact .zsc _
  | 2=>simp at g i;subst g;subst i;exact .zsc _
  |k+3=>simp at g
theorem qpA{ps:List Pd}{g p}(h:ps.find? g=some p):∃ i,∃ j:i<ps.length,ps[i]=p/\idxI ps g=i:=by
 grind [List.find?_eq_some_iff_getElem,X1]
theorem qpB(ts)(h:okTS ts)(hb:∀ p,p∈ts.sT->WfN p.body/\yW ts p.body)(es)(hF:qo ts es<=200000)(b0:Free ts es)(tb f)(ih:IHE ts es tb f)(env n body)(s:ISt)(mu xb)
  (hc:4000<s.sM+(f+1:Nat)) (hs:StOk (qo ts es) s) (he:zt env) (hw:WfN n) (aj:yW ts n) (hx:mu[xb]?=some (.arr (cIn ts tb s))) (ht:mu[tb]?=some (.mp (eSet es))) (ab:n.op=47) :
  qD qe 73 [.ptr xb 0,eEnv env,eNd n,aB body] mu (endE ts tb mu xb (expI ts es (f+1) env n body s)):=by
 have bq:=hs.c0;have br:=hs.c1;generalize J:expI ts es (f+1) env n body s=R;simp only[expI,ab]at J;obtain⟨p,hp,b1⟩:=aj n (vr n) ab;rw[hp]at J;refine qSW call73 func73 rfl { mt:=[6] } ?_;have bs:xb<mu.length:=(qk.1 hx).1;have b2:tb<mu.length:=(qk.1 ht).1;simp[go_sem];refine fZ (payU ts tb s 1 ⟨zOm,zOm⟩ ⟨zOm,zOm⟩ (by grind)) ?_ ?_
 .rintro r m ⟨rfl,e⟩
  by_cases U:s.sM+1<=4000
  .rw [if_pos U]at e J
   cases e;have hM:=M0.of (s':=payS 1 s) (n:=n) hx ht;generalize bt:(mu++[Cell.arr (cNd n),.arr [aI 0,aS ⟨#[]⟩,aI 0,.lst true [],aI 0]]).set xb (.arr (cIn ts tb (payS 1 s)))=M at *
   have bu:=hM.len;simp[go_sem,hM.n,ab];refine qj.fz (FzQ.one (b:=mu.length) (d:=6) (x := .ip (cNd n)) ?_ ?_)
   .simp [go_sem]
    grind [qcU,uo,vE]
   have ak:(cutM (fun j=>!(j == mu.length)) M 0)[xb]?=some (.arr (cIn ts tb (payS 1 s))):=by grind [uo]
   have bn:(cutM (fun j=>!(j == mu.length)) M 0)[tb]?=some (.mp (eSet es)):=by grind [uo]
   have bo:(cutM (fun j=>!(j == mu.length)) M 0)[mu.length+1]?=some (.arr [aI 0,aS ⟨#[]⟩,aI 0,.lst true [],aI 0]):=by grind [uo]
   have al:But xb mu (cutM (fun j=>!(j == mu.length)) M 0):=hM.but.cut fun i hi=>zSo
   have a8:(cutM (fun j=>!(j == mu.length)) M 0).length=mu.length+2:=by grind [jT]
   simp only[qC];generalize cutM (fun j=>!(j == mu.length)) M 0=M1 at *
   refine cJ zKr ?_;simp[go_sem,ak];obtain⟨i,hi,b3,an⟩:=qpA hp;have b4:J6 qe (.fn (.func 120) [] [.ip (cNd n)]) ts.sT (fun x => .agg (cPd x)) (fun p=>decide (p.name=n.name)):=⟨_,_,_,rfl,fun p hp=>⟨_,qo8 p n,.zk (HF.agg (UH p)) (.zk (Vj n) .nil)⟩⟩;refine tS (X2 false ts.sT _ (fun p=>decide (p.name=n.name)) b4 (zW1 h.np)) (.zk (Zu _) (.zk (HF.fn zSp (fun x hx=>by grind [Vj])) .nil)) ?_;rw[an];have b5:p∈ts.sT:=List.mem_of_find?_eq_some hp;obtain⟨b6,b7⟩:=hb p b5;have ao:=hw.len;have a5:=Zv p;simp[go_sem,hi,b3,a5];have aq:StOk (qo ts es) (payS 1 s):=(wT hs zOm U).ok hs;have J:vX (y7 (fun k s=>expI ts es f env k body s) p.params n.sD [] (payS 1 s)) (fun own s'=>expI ts es f own p.body true s')=R:=zUs J;generalize hQ:y7 (fun k s=>expI ts es f env k body s) p.params n.sD [] (payS 1 s)=Q at *
   refine aK n.sD.length (fun k T=>∃(o:List (tP×AP)) (P:ISt),T.tm 0 = .ptr xb 0/\T.tm 1=eEnv env/\T.tm 3=aB body/\T.tm 8 = .ptr (mu.length+1) 0/\T.tm 10 = .ptr (mu.length+2) 0/\T.tm 11 = .mp (mu.length+3)/\T.tm 52=lNd n.sD/\T.tm 53=aI n.sD.length/\T.tm 54=aI k /\
    But xb mu T.mu/\mu.length+3<T.mu.length/\T.mu[xb]?=some (.arr (cIn ts tb P))/\T.mu[mu.length+1]?=some (.arr [aI 0,aS ⟨#[]⟩,aI 0,.lst true [],aI 0])/\T.mu[mu.length+2]?=some (.arr (cPd p))/\T.mu[mu.length+3]?=some (.mp (encK aS eAP o)) /\
    (∀ e,e∈o->mu.length+3<e.2.1/\e.2.1<T.mu.length/\T.mu[e.2.1]?=some (.arr (cNd e.2.2.2)))/\zt (ownA o)/\(o.map Prod.fst).Nodup/\StOk (qo ts es) P/\s.sM+1<=P.sM/\y7 (fun k s=>expI ts es f env k body s) (p.params.drop k) (n.sD.drop k) (ownA o) P=Q) ?_ ?_
   .refine ⟨[],payS 1 s,zSi,zSi,zSi,zSi,by simp[go_sem,a8],by simp[go_sem,a8],zSi,zSi,zSi,?_,?_,?_,?_,?_,?_,zSp,.nil,zSp,aq,by show _<=s.sM+1;omega,zUs hQ⟩
    all_goals simp only[qC]
    .exact al.trans (But.app xb M1 _)
    .simp;omega
    .grind
    .grind
    .grind
    grind
   .rintro k T hk ⟨o,P,e0,e1,e3,e8,ad,ae,ar,af,ag,C,hl,gx,gr,gp,gm,au,a9,ah,a6,b8,hI⟩
    have b9:T.mu[tb]?=some (.mp (eSet es)):=by rw[C.same tb b2 (fun e=>by grind)];exact ht
    by_cases ao:k=n.sD.length
    .subst ao
     simp[go_sem,e0,ad,ae,af,ag,gp];rw[yd,List.drop_of_length_le zOm]at hI;have hI:Q = .ok (ownA o,P):=hI.symm;rw[hI]at J;have J:expI ts es f (ownA o) p.body true P=R:=J;have av:∀ i,i<mu.length+3->(cutM (fun i=>!decide (mu.length+3<=i)) T.mu 0)[i]?=T.mu[i]?:=fun i hi=>uo zSo
     have g:=ih (ownA o) p.body true P (cutM (fun i=>!decide (mu.length+3<=i)) T.mu 0) xb zOm a6 a9 b6 b7 (by grind) (by grind);rw[J]at g;have g:=qD.freeze (mu:=T.mu) (args:=[.ptr xb 0,.mp (mu.length+3),eNd p.body,aB true]) (args1:=[.ptr xb 0,eEnv (ownA o),eNd p.body,aB true]) (fun i=>decide (mu.length+3<=i)) ⟨.inl rfl,.inr (qcV (by grind [uo]) ah (fun e he=>by
      grind [uo])),.inl rfl,.inl rfl,trivial⟩ g
     cases R with
     |error d =>
      refine fZ g (by rintro r m ⟨e,_⟩;cases e) ?_;rintro r m ⟨e,t⟩;cases e;simp[go_sem];exact⟨rfl,(C.cut fun i hi=>zSo).trans t⟩
     |ok q =>
      obtain⟨⟨n',k'⟩,s'⟩:=q;refine fZ g ?_ (by rintro r m ⟨e,_⟩;cases e);rintro r m ⟨e,aw,t⟩;cases e;have ai:=t.len;rw[jT]at ai;have ax:mu.length+1<m.length:=zOm;have bc:m[mu.length+1]?=some (.arr [aI 0,aS ⟨#[]⟩,aI 0,.lst true [],aI 0]):=by rw[t.same _ (by rw[jT];omega) zOm,av _ zOm];exact gr
      have ay:∀ c,(m.set (mu.length+1) c)[mu.length+1]?=some c:=fun c=>qL ax
      simp[go_sem,e8,bc,ay];refine⟨rfl,by grind,?_⟩;exact((C.cut fun i hi=>zSo).trans t).setN zOm _
    .have a7:k<n.sD.length:=by omega
     have w1:=zWk k;have aa:k<p.params.length:=zOm;rw[zu a7,zu aa]at hI;simp only[y7]at hI;simp[go_sem,e0,e1,e3,ar,af,ag,a7];have a0:∀ i,i<T.mu.length->(T.mu++[Cell.arr (cNd n.sD[k])])[i]?=T.mu[i]?:=fun i hi=>qN hi
     have az:n.sD[k]∈n.sD:=qs a7;have g:=ih env n.sD[k] body P (T.mu++[Cell.arr (cNd n.sD[k])]) xb zOm a6 he (hw.kid az) (aj.kid az) (by grind) (by rw[a0 _ zOm];exact b9);have be:∀{n' z s'},expI ts es f env n.sD[k] body P = .ok ((n',z),s')->Gos (qo ts es) P s' z:=fun e=>jq ts b0 f a6 he e
     generalize hE:expI ts es f env n.sD[k] body P=E at *
     cases E with
     |error d =>
      have hI:Q = .error d:=hI.symm;rw[hI]at J;have J:R = .error d:=J.symm;subst J;refine fZ g (by rintro r m ⟨e,_⟩;cases e) ?_;rintro r m ⟨e,t⟩;cases e;simp[go_sem];exact⟨rfl,C.trans ((But.app xb T.mu _).trans t)⟩
     |ok q =>
      obtain⟨⟨n',k'⟩,s'⟩:=q;have hg:=be rfl;simp only at hI;refine fZ g ?_ (by rintro r m ⟨e,_⟩;cases e);rintro r m ⟨e,aw,t⟩;cases e;have ai:=t.len;simp only[zd,zG,List.length_nil]at ai;have I:∀ i,i<T.mu.length->i≠xb->m[i]?=T.mu[i]?:=fun i hi bg=>by rw[t.same i zSo bg,a0 i hi]
      have bh:∀ l,(m++l)[mu.length+2]?=some (.arr (cPd p)):=fun l=>by rw[zGa,I _ zOm zOm];exact gp
      have bi:∀ l,(m++l)[mu.length+3]?=some (.mp (encK aS eAP o)):=fun l=>by grind
      have hu:=fun l=>updAP (bi l) p.params[k].1 (m.length,k',n')
      simp[go_sem,ad,ae,bh,aa];refine pN _ (hu _) ?_;generalize hN:(m++[Cell.arr (cNd n')]).set (mu.length+3) (.mp (encK aS eAP (setK p.params[k].1 (m.length,k',n') o)))=N;have bv:N.length=m.length+1:=by rw[<-hN];simp
      have a4:∀ i,i<m.length->i≠mu.length+3->N[i]?=m[i]?:=fun i h1 h2=>by rw[<-hN,zGl,qN h1]
      have bj:N[mu.length+3]?=some (.mp (encK aS eAP (setK p.params[k].1 (m.length,k',n') o))):=by rw[<-hN,qL zSo]
      have bk:N[m.length]?=some (.arr (cNd n')):=by rw[<-hN,zGl,zM (qr _)];simp
      simp[go_sem,ag,w1];refine⟨a7,aA ?_⟩;have bm:k'<=4000:=zW2 hg.cz hg.c1;refine⟨setK p.params[k].1 (m.length,k',n') o,s',zS1 e0,zS1 e1,zS1 e3,zS1 e8,zS1 ad,zS1 ae,zS1 ar,zS1 af,zSi,?_,?_,?_,?_,?_,?_,?_,?_,wE ah,hg.ok a6,zW2 hg.cz hg.z0,?_⟩
      all_goals try simp only[qC]
      .refine ⟨zW1 C.len,fun i h1 h2=>?_⟩
       rw[a4 i zOm zOm,I i zOm h2];exact C.same i h1 h2
      .omega
      .rw [a4 _ zOm zOm];exact aw
      .rw [a4 _ zOm zOm,I _ zOm zOm];exact gr
      .rw [a4 _ zOm zOm,I _ zOm zOm];exact gp
      .exact bj
      .intro e he
       rcases (ZB ah).1 he with rfl|⟨he,_⟩
       .exact ⟨by show _<m.length;omega,by show m.length<_;omega,bk⟩
       .obtain ⟨a1,a2,a3⟩:=au e he
        exact⟨a1,zOm,by rw[a4 _ zOm zOm,I _ zOm zOm];exact a3⟩
      .unfold ownA
       rw[ki (fun a:AP=>ivA a)];exact a9.set ⟨hg.z0,bm⟩
      .unfold ownA
       rw[ki (fun a:AP=>ivA a)];exact hI
  grind
 .rintro r m ⟨rfl,e⟩
  by_cases U:s.sM+1<=4000
  .rw [if_pos U]at e;cases e
  .rw [if_neg U]at e J
   cases e;subst J;simp[go_sem];exact⟨rfl,(But.app xb mu _).trans (cB xb _ _)⟩
theorem qcW(op):decide (op=15\/op=45\/op=46)=binB op:=by
 grind [binB]
theorem ZF{lo sz mu' av xs}(h:OwnF lo mu sz av xs)(l:lo<=mu'.length)(o:∀ i,lo<=i->i<mu.length->mu'[i]?=mu[i]?):OwnF lo mu' sz av xs:=by
 obtain⟨p,g,_⟩:=h;refine⟨?_,g,l⟩;rcases p with rfl|⟨b,rfl,j⟩
 .exact .inl rfl
 .exact .inr ⟨b,rfl,by rw[o b (g b _ _ _ rfl) (qk.1 j).1];exact j⟩
theorem Wj(l:List Nd):zo 5 (l.map cNd):=fun r g=>by
 obtain⟨n,_,rfl⟩:=qn.1 g
 grind [YI,YJ]
theorem Wk{lo s xs k K}(j:OwnF lo mu 5 s (xs.map cNd))(l:xs.length<=100000)(o:∀ av mu',OwnF lo mu' 5 av ((xs++[k]).map cNd)->(∀ i,i<lo->mu'[i]?=mu[i]?)->K av mu') :
  qz qe mu #[33,33] s (.lst true [cNd k]) K:=by
 refine qz.ownF (lo:=lo) (e:=35) (sz:=5) (bt:=64) (zv := .agg [aI 0,aS ⟨#[]⟩,aI 0,.lst true [],aI 0]) (xs:=xs.map cNd) (ys:=[cNd k]) zSi zSi zSi rfl rfl zOm zOm j (by simp[qE]) (Wj xs) (Wj [k]) zSo ?_
 grind
theorem qpC(ts)(h:okTS ts)(es)(hF:qo ts es<=200000)(ax:Free ts es)(tb f)(ih:IHE ts es tb f)(env n body)(s:ISt)(mu xb)
  (hc:4000<s.sM+(f+1:Nat)) (hs:StOk (qo ts es) s) (he:zt env) (hw:WfN n) (bo:yW ts n) (hx:mu[xb]?=some (.arr (cIn ts tb s))) (ht:mu[tb]?=some (.mp (eSet es))) (h1:¬n.op=1) (h47:¬n.op=47) :
  qD qe 73 [.ptr xb 0,eEnv env,eNd n,aB body] mu (endE ts tb mu xb (expI ts es (f+1) env n body s)):=by
 have cx:=hs.c0;have cy:=hs.c1;have da:xb<mu.length:=(qk.1 hx).1;have cj:tb<mu.length:=(qk.1 ht).1;have bt:tb≠xb:=fun e=>by grind
 generalize hR:expI ts es (f+1) env n body s=R;simp only[expI,h1,h47,if_false]at hR;refine fU ?_;refine qSW call73 func73 rfl { mt:=[6] } ?_;simp[go_sem];refine fZ (payU ts tb s 1 ⟨zOm,zOm⟩ ⟨zOm,zOm⟩ (by grind)) ?_ ?_
 .rintro r m ⟨rfl,e⟩
  by_cases a8:s.sM+1<=4000
  .rw [if_pos a8]at e hR
   cases e;have hM:=M0.of (s':=payS 1 s) (n:=n) hx ht;generalize db:(mu++[Cell.arr (cNd n),.arr [aI 0,aS ⟨#[]⟩,aI 0,.lst true [],aI 0]]).set xb (.arr (cIn ts tb (payS 1 s)))=M at *
   have dc:=hM.len;have bu:=hw.len;have ay:StOk (qo ts es) (payS 1 s):=(wT hs zOm a8).ok hs;have bv:∀ c,(M.set mu.length c)[mu.length]?=some c:=fun c=>qL zOm
   have ck:=yp n;simp[go_sem,hM.n,h1,h47,ck];refine aK n.sD.length (fun k T=>∃(J:List Nd) (j:IEnv) (I:tP) (s2:ISt) (t:AV) (z:Int),T.tm 0 = .ptr xb 0/\T.tm 1=eEnv j/\T.tm 3=aB body/\T.tm 6 = .ptr mu.length 0/\T.tm 8 = .ptr (mu.length+1) 0/\T.tm 17=aI z/\T.tm 87=lNd n.sD/\T.tm 88=aI n.sD.length/\T.tm 89=aI k /\
    But xb mu T.mu/\T.mu[xb]?=some (.arr (cIn ts tb s2))/\T.mu[mu.length+1]?=some (.arr [aI 0,aS ⟨#[]⟩,aI 0,.lst true [],aI 0])/\T.mu[mu.length]?=some (.arr [aI n.op,aS I,aI n.n,t,aI n.pos])/\OwnF (mu.length+2) T.mu 5 t (J.map cNd)/\zt j/\J.length=k /\
    0<=s2.last/\0<=s2.sM/\s2.sM<=4000/\dueN (qo ts es) (binB n.op) k<=pot (qo ts es) s2/\s.sM+1<=s2.sM/\1<=z/\z<=s2.sM-s.sM /\
    vX (yx (fun env k s=>expI ts es f env k body s) (fun env o s=>renI ts es env o body s) (binB n.op) k j I (n.sD.drop k) s2) (fun r s' => .ok ((.mk n.op r.1 n.n (J++r.2.1) n.pos,z+r.2.2),s'))=R) ?_ ?_
   .refine ⟨[],env,n.name,payS 1 s,.lst true [],1,zSi,zSi,zSi,zSi,zSi,zSi,zSi,zSi,zSi,?_,?_,?_,?_,?_,he,rfl,ay.l0,ay.c0,ay.c1,?_,by show _<=s.sM+1;omega,zOm,by show _<=s.sM+1-_;omega,zUs hR⟩
    all_goals try simp only[qC]
    .exact hM.but.setN (qr _) _
    .grind
    .grind
    .exact bv _
    .grind [OwnF.nil]
    .rw [ZE];have:=hs.p;grind [dueN]
   .rintro k T hk ⟨J,j,I,s2,t,z,e0,e1,e3,e6,e8,be,aq,ah,ai,a9,gx,gr,gn,go,bg,dd,ar,bh,bi,bk,aj,de,bq,hI⟩
    have gt:T.mu[tb]?=some (.mp (eSet es)):=by rw[a9.same tb cj bt];exact ht
    have cw:mu.length+2<=T.mu.length:=go.2.2;by_cases bu:k=n.sD.length
    .subst bu
     have bw:=go.cells;have bm:=go.one;have br:∀ c,(T.mu.set (mu.length+1) c)[mu.length+1]?=some c:=fun c=>qL zOm
     rw[yd]at hI;have hI:R = .ok ((.mk n.op I n.n J n.pos,z),s2):=by grind [yx,vX]
     simp[go_sem,e6,e8,be,ah,ai,gn,gr,bm,br];rw[hI];have bs:(T.mu.set (mu.length+1) (.arr [aI n.op,aS I,aI n.n,t,aI n.pos])).length=T.mu.length:=zSp;refine .inr ⟨fun i=>decide (mu.length+2<=i),.tup [eNd (.mk n.op I n.n J n.pos),aI z],.rd _ _ (.tup _ _ rfl fun k x y hx hy=>?_),rfl,?_,?_⟩
     .match k with
      | 0 =>
       simp at hx hy;subst hx;subst hy;have cl:eNd (.mk n.op I n.n J n.pos) = .agg [aI n.op,aS I,aI n.n,.lst false (J.map cNd),aI n.pos]:=by
        show AV.agg (cNd _)=_;rw[yp];rfl
       rw[cl];refine .agg _ _ rfl fun k x y hx hy=>?_
       match k with
       | 0=>simp at hx hy;subst hx;subst hy;exact .zsc _
       | 1=>simp at hx hy;subst hx;subst hy;exact .zsc _
       | 2=>simp at hx hy;subst hx;subst hy;exact .zsc _
       | 3 =>
        simp at hx hy;subst hx;subst hy;exact KH (go.set zOm) (Wj J).ok fun r hr c hc=>by
         obtain⟨x,_,rfl⟩:=qn.1 hr;exact vE x c hc
       | 4=>simp at hx hy;subst hx;subst hy;exact .zsc _
       |k+5=>simp at hx
      | 1=>simp at hx hy;subst hx;subst hy;exact .zsc _
      |k+2=>simp at hx
     .rw [uo zSo,zGl];exact gx
     .exact (a9.setN zOm _).cut fun i hi=>zSo
    .have a5:k<n.sD.length:=by omega
     have w1:=zWk k;have w2:qq.wrap 2=2:=rfl;rw[zu a5]at hI;simp only[yx]at hI;have g:∀(l:List Cell)(i:Nat),i<T.mu.length->(T.mu++l)[i]?=T.mu[i]?:=fun l i hi=>qN hi
     have au:∀ l,(T.mu++l)[mu.length]?=some (.arr [aI n.op,aS I,aI n.n,t,aI n.pos]):=fun l=>by rw[g l _ zOm];exact gn
     have bw:=go.cells;have bm:=go.one;by_cases hb:binB n.op=true/\k=1
     .obtain ⟨az,rfl⟩:=hb
      rw[if_pos ⟨az,rfl⟩]at hI;have b0:(1:Int)<n.sD.length:=zOm;simp[go_sem,b0,e6,aq,ah,ai,a5,au];have b1:=YX.qaY n.op;rw[qcW,az]at b1;refine tS b1 (.zs .nil) ?_;have cm:=StOk.last (F:=qo ts es) ⟨ar,bh,bi,zW1 (Ye (qo ts es) (binB n.op) 1)⟩;have ca:=qo1 ts h s2 es ⟨ar,zOm⟩ tb (ax _ ar) j bg.nd I body (mu:=T.mu++[Cell.arr (cNd n.sD[1])]) (xb:=xb) (by rw[g _ _ zOm];exact gx) (by rw[g _ _ zOm];exact gt);have ak:=Jn (env:=j) (nm:=I) (body:=body) ax ar;have cb:=Jm (ts:=ts) (es:=es) (nm:=I) (body:=body) (s:=s2) bg;generalize renI ts es j I body s2=r at *
      obtain⟨⟨a6,aw⟩,s3⟩:=r;simp only at ak cb hI;simp[go_sem,e0,e1,e3,e6,au];refine fZ ca ?_ (by rintro r m ⟨e,_⟩;cases e);rintro r m1 ⟨e,a7,cn⟩;cases e;have cc:=a7.len;simp only[zd,zG,List.length_nil]at cc;have cp:m1[mu.length]?=some (.arr [aI n.op,aS I,aI n.n,t,aI n.pos]):=by rw[a7.same _ zSo zOm];exact au _
      have cq:m1[mu.length+1]?=some (.arr [aI 0,aS ⟨#[]⟩,aI 0,.lst true [],aI 0]):=by rw[a7.same _ zSo zOm,g _ _ zOm];exact gr
      have cr:m1[T.mu.length]?=some (.arr (cNd n.sD[1])):=by rw[a7.same _ zSp zOm,zM (qr _)];simp
      have cs:m1[tb]?=some (.mp (eSet es)):=by rw[a7.same _ zSo bt,g _ _ zOm];exact gt
      have ct:OwnF (mu.length+2) m1 5 t (J.map cNd):=ZF go zOm fun i q1 q2=>by rw[a7.same i zSo zOm,g _ _ q2]
      have an:∀ c i,i≠mu.length->(m1.set mu.length c)[i]?=m1[i]?:=fun c i hi=>yJ (fun e=>hi e.symm)
      have cu:∀ c,(m1.set mu.length c)[T.mu.length]?=some (.arr (cNd n.sD[1])):=fun c=>by rw[an _ _ zOm];exact cr
      simp[go_sem,e0,e3,e6,cp,cu];generalize al:m1.set mu.length (.arr [aI n.op,aS aw,aI n.n,t,aI n.pos])=M2;have bn:T.mu.length+1<=M2.length:=by rw[<-al];simp;omega
      have b2:M2[xb]?=some (.arr (cIn ts tb s3)):=by rw[<-al,an _ _ zOm];exact cn
      have b3:M2[tb]?=some (.mp (eSet es)):=by rw[<-al,an _ _ zOm];exact cs
      have b4:M2[mu.length]?=some (.arr [aI n.op,aS aw,aI n.n,t,aI n.pos]):=by rw[<-al];exact qL zOm
      have b5:M2[mu.length+1]?=some (.arr [aI 0,aS ⟨#[]⟩,aI 0,.lst true [],aI 0]):=by rw[<-al,an _ _ zOm];exact cq
      have a4:OwnF (mu.length+2) M2 5 t (J.map cNd):=by rw[<-al];exact ct.set zOm
      have aa:But xb mu M2:=by
       rw[<-al];exact(a9.trans ((But.app xb T.mu _).trans a7)).setN (qr _) _
      have df:dueN (qo ts es) (binB n.op) 1=(qo ts es:Nat):=if_pos ⟨az,zOm⟩;have dh:dueN (qo ts es) (binB n.op) (1+1)=0:=zIn;have di:pot (qo ts es) s2-(qo ts es:Nat)<=pot (qo ts es) s3:=by unfold pot;rw[ak.2.2];omega
      have a3:StOk (qo ts es) s3:=⟨ak.1,by rw[ak.2.2];exact bh,by rw[ak.2.2];exact bi,zOm⟩;have b6:dueN (qo ts es) (binB n.op) (1+1)<=pot (qo ts es) s3:=zOm;have ao:s.sM+1<=s3.sM:=by rw[ak.2.2];exact aj
      have cd:z<=s3.sM-s.sM:=by rw[ak.2.2];exact bq
      have U:zt a6:=cb;have bj:True:=trivial;have ab:n.sD[1]∈n.sD:=qs a5;have a0:=ih a6 n.sD[1] body s3 M2 xb zOm a3 U (hw.kid ab) (bo.kid ab) b2 b3;have b7:∀{n' z s'},expI ts es f a6 n.sD[1] body s3 = .ok ((n',z),s')->Gos (qo ts es) s3 s' z:=fun e=>jq ts ax f a3 U e
      generalize hE:expI ts es f a6 n.sD[1] body s3=E at *
      cases E with
      |error d =>
       have hI:R = .error d:=hI.symm;subst hI;refine fZ a0 (by rintro r m ⟨e,_⟩;cases e) ?_;rintro r m ⟨e,C⟩;cases e;simp[go_sem];exact⟨rfl,aa.trans C⟩
      |ok q =>
       obtain⟨⟨n',k'⟩,s'⟩:=q;have P:=b7 rfl;simp only at hI;refine fZ a0 ?_ (by rintro r m ⟨e,_⟩;cases e);rintro r m ⟨e,b8,C⟩;cases e;have bs:=C.len;have ad:∀ l,(m++l)[mu.length]?=some (.arr [aI n.op,aS aw,aI n.n,t,aI n.pos]):=fun l=>by rw[zGa,C.same _ zOm zOm];exact b4
       have a8:=a4.cells;have cf:=a4.one;have b9:qq.wrap (z+k')=z+k':=z8 (zW1 P.z0) (zW2 P.cz P.c1);have bb:OwnF (mu.length+2) (m++[Cell.arr (cNd n')]) 5 t (J.map cNd):=ZF a4 zSo fun i h1 h2=>by rw[zGa,C.same i zOm zOm]
       simp[go_sem,e6,ad];refine Wk bb zOm fun bc m' a1 a2=>?_
       have cg:=a1.2.2;have ae:m'[mu.length]?=some (.arr [aI n.op,aS aw,aI n.n,t,aI n.pos]):=by rw[a2 _ zOm];exact ad _
       have af:=a1.cells;have ag:=a1.one;simp[go_sem,e6,be,ai,ae,af,ag,b9,w2];refine⟨a5,aA ?_⟩;refine⟨J++[n'],a6,aw,s',bc,z+k',zS1 e0,zSi,zS1 e3,zS1 e6,zS1 e8,zSi,zS1 aq,zS1 ah,zSi,?_,?_,?_,?_,?_,U,zSo,P.l0,zW2 P.cz P.z0,P.c1,Int.le_trans b6 P.p,zW2 P.cz P.z0,zW1 P.z0,zW1 P.cz,?_⟩
       all_goals try simp only[qC]
       .refine ⟨zSo,fun i h1 h2=>?_⟩
        rw[zGl,a2 i zOm,zGa,C.same i zOm h2];exact aa.same i h1 h2
       .rw [zGl,a2 _ zOm,zGa];exact b8
       .rw [zGl,a2 _ zOm,zGa,C.same _ zOm zOm];exact b5
       .exact qL zOm
       .exact a1.set zOm
       .rw [<-hI]
        generalize yx (fun env k s=>expI ts es f env k body s) (fun env o s=>renI ts es env o body s) (binB n.op) (1+1) a6 aw (n.sD.drop (1+1)) s'=W;cases W with
        |error e=>rfl
        |ok q=>simp[vX,Int.add_assoc]
     .rw [if_neg hb]at hI
      by_cases cv:k=1
      .subst cv
       have a7:binB n.op=false:=zUs hb;have b0:(1:Int)<n.sD.length:=zOm;simp[go_sem,b0,e6,aq,ah,ai,a5,au];have b1:=YX.qaY n.op;rw[qcW,a7]at b1;refine tS b1 (.zs .nil) ?_;simp[go_sem,e0,e1,e3];have bn:T.mu.length+1<=(T.mu++[Cell.arr (cNd n.sD[1])]).length:=zSp;have b2:(T.mu++[Cell.arr (cNd n.sD[1])])[xb]?=some (.arr (cIn ts tb s2)):=by rw[g _ _ zOm];exact gx
       have b3:(T.mu++[Cell.arr (cNd n.sD[1])])[tb]?=some (.mp (eSet es)):=by rw[g _ _ zOm];exact gt
       have b4:=au [Cell.arr (cNd n.sD[1])];have b5:(T.mu++[Cell.arr (cNd n.sD[1])])[mu.length+1]?=some (.arr [aI 0,aS ⟨#[]⟩,aI 0,.lst true [],aI 0]):=by rw[g _ _ zOm];exact gr
       have a4:OwnF (mu.length+2) (T.mu++[Cell.arr (cNd n.sD[1])]) 5 t (J.map cNd):=ZF go zOm fun i q1 q2=>g _ _ q2
       have aa:But xb mu (T.mu++[Cell.arr (cNd n.sD[1])]):=a9.trans (But.app xb T.mu _);have a3:StOk (qo ts es) s2:=⟨ar,bh,bi,zW1 (Ye (qo ts es) (binB n.op) 1)⟩;have b6:dueN (qo ts es) (binB n.op) (1+1)<=pot (qo ts es) s2:=by rw[<-Wh hb];exact bk
       have ao:=aj;have cd:=bq;have U:=bg;have bj:=e1;generalize T.mu++[Cell.arr (cNd n.sD[1])]=M2 at *
       have ab:n.sD[1]∈n.sD:=qs a5;have a0:=ih j n.sD[1] body s2 M2 xb zOm a3 U (hw.kid ab) (bo.kid ab) b2 b3;have b7:∀{n' z s'},expI ts es f j n.sD[1] body s2 = .ok ((n',z),s')->Gos (qo ts es) s2 s' z:=fun e=>jq ts ax f a3 U e
       generalize hE:expI ts es f j n.sD[1] body s2=E at *
       cases E with
       |error d =>
        have hI:R = .error d:=hI.symm;subst hI;refine fZ a0 (by rintro r m ⟨e,_⟩;cases e) ?_;rintro r m ⟨e,C⟩;cases e;simp[go_sem];exact⟨rfl,aa.trans C⟩
       |ok q =>
        obtain⟨⟨n',k'⟩,s'⟩:=q;have P:=b7 rfl;simp only at hI;refine fZ a0 ?_ (by rintro r m ⟨e,_⟩;cases e);rintro r m ⟨e,b8,C⟩;cases e;have bs:=C.len;have ad:∀ l,(m++l)[mu.length]?=some (.arr [aI n.op,aS I,aI n.n,t,aI n.pos]):=fun l=>by rw[zGa,C.same _ zOm zOm];exact b4
        have a8:=a4.cells;have cf:=a4.one;have b9:qq.wrap (z+k')=z+k':=z8 (zW1 P.z0) (zW2 P.cz P.c1);have bb:OwnF (mu.length+2) (m++[Cell.arr (cNd n')]) 5 t (J.map cNd):=ZF a4 zSo fun i h1 h2=>by rw[zGa,C.same i zOm zOm]
        simp[go_sem,e6,ad];refine Wk bb zOm fun bc m' a1 a2=>?_
        have cg:=a1.2.2;have ae:m'[mu.length]?=some (.arr [aI n.op,aS I,aI n.n,t,aI n.pos]):=by rw[a2 _ zOm];exact ad _
        have af:=a1.cells;have ag:=a1.one;simp[go_sem,e6,be,ai,ae,af,ag,b9,w2];refine⟨a5,aA ?_⟩;refine⟨J++[n'],j,I,s',bc,z+k',zS1 e0,zS1 bj,zS1 e3,zS1 e6,zS1 e8,zSi,zS1 aq,zS1 ah,zSi,?_,?_,?_,?_,?_,U,zSo,P.l0,zW2 P.cz P.z0,P.c1,Int.le_trans b6 P.p,zW2 P.cz P.z0,zW1 P.z0,zW1 P.cz,?_⟩
        all_goals try simp only[qC]
        .refine ⟨zSo,fun i h1 h2=>?_⟩
         rw[zGl,a2 i zOm,zGa,C.same i zOm h2];exact aa.same i h1 h2
        .rw [zGl,a2 _ zOm,zGa];exact b8
        .rw [zGl,a2 _ zOm,zGa,C.same _ zOm zOm];exact b5
        .exact qL zOm
        .exact a1.set zOm
        .rw [<-hI]
         generalize yx (fun env k s=>expI ts es f env k body s) (fun env o s=>renI ts es env o body s) (binB n.op) (1+1) j I (n.sD.drop (1+1)) s'=W;cases W with
         |error e=>rfl
         |ok q=>simp[vX,Int.add_assoc]
      .have ch:¬(k:Int)=1:=by omega
       simp[go_sem,e0,e1,e3,aq,ah,ai,a5,ch];have bn:T.mu.length+1<=(T.mu++[Cell.arr (cNd n.sD[k])]).length:=zSp;have b2:(T.mu++[Cell.arr (cNd n.sD[k])])[xb]?=some (.arr (cIn ts tb s2)):=by rw[g _ _ zOm];exact gx
       have b3:(T.mu++[Cell.arr (cNd n.sD[k])])[tb]?=some (.mp (eSet es)):=by rw[g _ _ zOm];exact gt
       have b4:=au [Cell.arr (cNd n.sD[k])];have b5:(T.mu++[Cell.arr (cNd n.sD[k])])[mu.length+1]?=some (.arr [aI 0,aS ⟨#[]⟩,aI 0,.lst true [],aI 0]):=by rw[g _ _ zOm];exact gr
       have a4:OwnF (mu.length+2) (T.mu++[Cell.arr (cNd n.sD[k])]) 5 t (J.map cNd):=ZF go zOm fun i q1 q2=>g _ _ q2
       have aa:But xb mu (T.mu++[Cell.arr (cNd n.sD[k])]):=a9.trans (But.app xb T.mu _);have a3:StOk (qo ts es) s2:=⟨ar,bh,bi,zW1 (Ye (qo ts es) (binB n.op) k)⟩;have b6:dueN (qo ts es) (binB n.op) (k+1)<=pot (qo ts es) s2:=by rw[<-Wh hb];exact bk
       have ao:=aj;have cd:=bq;have U:=bg;have bj:=e1;generalize T.mu++[Cell.arr (cNd n.sD[k])]=M2 at *
       have ab:n.sD[k]∈n.sD:=qs a5;have a0:=ih j n.sD[k] body s2 M2 xb zOm a3 U (hw.kid ab) (bo.kid ab) b2 b3;have b7:∀{n' z s'},expI ts es f j n.sD[k] body s2 = .ok ((n',z),s')->Gos (qo ts es) s2 s' z:=fun e=>jq ts ax f a3 U e
       generalize hE:expI ts es f j n.sD[k] body s2=E at *
       cases E with
       |error d =>
        have hI:R = .error d:=hI.symm;subst hI;refine fZ a0 (by rintro r m ⟨e,_⟩;cases e) ?_;rintro r m ⟨e,C⟩;cases e;simp[go_sem];exact⟨rfl,aa.trans C⟩
       |ok q =>
        obtain⟨⟨n',k'⟩,s'⟩:=q;have P:=b7 rfl;simp only at hI;refine fZ a0 ?_ (by rintro r m ⟨e,_⟩;cases e);rintro r m ⟨e,b8,C⟩;cases e;have bs:=C.len;have ad:∀ l,(m++l)[mu.length]?=some (.arr [aI n.op,aS I,aI n.n,t,aI n.pos]):=fun l=>by rw[zGa,C.same _ zOm zOm];exact b4
        have a8:=a4.cells;have cf:=a4.one;have b9:qq.wrap (z+k')=z+k':=z8 (zW1 P.z0) (zW2 P.cz P.c1);have bb:OwnF (mu.length+2) (m++[Cell.arr (cNd n')]) 5 t (J.map cNd):=ZF a4 zSo fun i h1 h2=>by rw[zGa,C.same i zOm zOm]
        simp[go_sem,e6,ad];refine Wk bb zOm fun bc m' a1 a2=>?_
        have cg:=a1.2.2;have ae:m'[mu.length]?=some (.arr [aI n.op,aS I,aI n.n,t,aI n.pos]):=by rw[a2 _ zOm];exact ad _
        have af:=a1.cells;have ag:=a1.one;simp[go_sem,e6,be,ai,ae,af,ag,b9,w1];refine⟨a5,aA ?_⟩;refine⟨J++[n'],j,I,s',bc,z+k',zS1 e0,zS1 bj,zS1 e3,zS1 e6,zS1 e8,zSi,zS1 aq,zS1 ah,zSi,?_,?_,?_,?_,?_,U,zSo,P.l0,zW2 P.cz P.z0,P.c1,Int.le_trans b6 P.p,zW2 P.cz P.z0,zW1 P.z0,zW1 P.cz,?_⟩
        all_goals try simp only[qC]
        .refine ⟨zSo,fun i h1 h2=>?_⟩
         rw[zGl,a2 i zOm,zGa,C.same i zOm h2];exact aa.same i h1 h2
        .rw [zGl,a2 _ zOm,zGa];exact b8
        .rw [zGl,a2 _ zOm,zGa,C.same _ zOm zOm];exact b5
        .exact qL zOm
        .exact a1.set zOm
        .rw [<-hI]
         generalize yx (fun env k s=>expI ts es f env k body s) (fun env o s=>renI ts es env o body s) (binB n.op) (k+1) j I (n.sD.drop (k+1)) s'=W;cases W with
         |error e=>rfl
         |ok q=>simp[vX,Int.add_assoc]
  grind
 .rintro r m ⟨rfl,e⟩
  by_cases a8:s.sM+1<=4000
  .rw [if_pos a8]at e;cases e
  .rw [if_neg a8]at e hR
   cases e;subst hR;simp[go_sem];exact⟨rfl,(But.app xb mu _).trans (cB xb _ _)⟩
theorem kj(ts)(h:okTS ts)(C:∀ p,p∈ts.sT->WfN p.body/\yW ts p.body)(es)(l:qo ts es<=200000)(g:Free ts es)(tb):∀ f,IHE ts es tb f
 | 0=>fun env n body s mu xb I j o J i r t=>zW1 j.c1
 |f+1=>fun env n body s mu xb I j o J i r t=>by
  by_cases P:n.op=1
  .have:=qo9 ts es tb env n body s mu xb j o r t P
   simp_all[expI,vI,payS,if_true]
  .by_cases h47:n.op=47
   .exact qpB ts h C es l g tb f (kj ts h C es l g tb f) env n body s mu xb I j o J i r t h47
   .exact qpC ts h es l g tb f (kj ts h C es l g tb f) env n body s mu xb I j o J i r t P h47
end
end YD
namespace YE
open P1 P2 Y1 Y9 YX YZ YB YC YD
mutual
def cntT:Nd->Int
 | .mk _ _ _ ks _=>1+jr ks
def jr:List Nd->Int
 | []=>0
 |k :: ks=>cntT k+jr ks
end
theorem kl(n):cntT n=1+jr n.sD:=by
 obtain⟨op,o,i,ks,p⟩:=n;simp[cntT,Nd.sD]
mutual
theorem kn:∀ n:Nd,1<=cntT n
 | .mk _ _ _ ks _=>by simp only[cntT];have:=Wl ks;omega
theorem Wl:∀ ks:List Nd,0<=jr ks
 | []=>by simp[jr]
 |k :: ks=>by simp only[jr];have:=kn k;have:=Wl ks;omega
end
mutual
theorem kq:∀ n:Nd,depN n<=cntT n
 | .mk _ _ _ ks _=>by simp only[cntT,depN];have:=qcX ks;omega
theorem qcX:∀ ks:List Nd,yF ks<=jr ks
 | []=>by simp[yF,jr]
 |k :: ks=>by
  simp only[jr,yF];have:=kq k;have:=qcX ks;have:=kn k;have:=Wl ks;omega
end
section
variable {I:Type}{R:IEnv->tP->ISt->(IEnv×tP)×ISt}{es:List (tP×Bool)}{E:Nd->ISt->XR (Nd×Int)}
def we(env:IEnv):Prop:=∀ e,e∈env->∀ a,e.2.arg=some a->e.2.size=cntT a/\Small a
theorem ku{g}[DecidableEq g]{k v}:∀{es:List (g×I)},getK k es=some v->(k,v)∈es
 | [],h=>by simp[getK]at h
 |e :: es,h=>by
  unfold getK at h;split at h
  .rename_i i;cases h;subst i;exact zg ..
  .exact q8 _ (ku h)
theorem Wm{g}[DecidableEq g]{k v}:∀{es}{x:g×I},x∈setK k v es->x=(k,v)\/x∈es
 | [],x,h=>by grind [setK]
 |e :: es,x,h=>by
  unfold setK at h;split at h
  .rcases qy.1 h with h|h
   .exact .inl h
   .exact .inr (q8 _ h)
  .rcases qy.1 h with h|h
   .exact .inr (by rw[h];exact zg ..)
   .exact (Wm h).imp id (q8 _)
theorem qpD{ts env nm body s}(h:we env):we (renI ts es env nm body s).1.1:=by
 have i:we (delK nm env):=fun e g=>h e (XS.subset g)
 unfold renI;split
 .intro e g a j
  rcases Wm g with rfl|g
  .cases j
  .exact i e g a j
 .exact i
theorem qcY:∀{ks ps own g s s'},(∀ k n' z s s',k∈ks->E k s = .ok ((n',z),s')->z=cntT n'/\Small n')->we own->y7 E ps ks own s = .ok (g,s')->we g
 | [],ps,own,g,s,s',_,i,e=>by
  have e:Except.ok (own,s)=(Except.ok (g,s'):XR IEnv):=by cases ps<;>exact e
  cases e;exact i
 |k :: ks,[],own,g,s,s',_,i,e=>by cases e;exact i
 |k :: ks,p :: ps,own,g,s,s',l,i,e=>by
  simp only[y7]at e;split at e
  .cases e
  .rename_i t m s1 C
   refine qcY (fun k n' z s s' o=>l k n' z s s' (q8 _ o)) (fun e j a r=>?_) e;rcases Wm j with rfl|j
   .grind
   .exact i e j a r
theorem qcZ{E bin}(t:∀ env nm s,we env->we (R env nm s).1.1) :
  ∀{ks i env nm nm' s s' j m},(∀ env k n' z s s',k∈ks->we env->E env k s = .ok ((n',z),s')->z=cntT n'/\Small n')->we env ->
  yx E R bin i env nm ks s = .ok ((nm',j,m),s')->m=jr j/\j.length=ks.length/\∀ k,k∈j->Small k
 | [],i,env,nm,nm',s,s',j,m,_,_,e=>by
  cases e;exact⟨rfl,rfl,fun k o=>absurd o qG⟩
 |k :: ks,i,env,nm,nm',s,s',j,m,C,I,e=>by
  simp only[yx]at e;obtain⟨r,J⟩:∃ r,r=if bin=true/\i=1 then R env nm s else ((env,nm),s):=⟨_,rfl⟩
  rw[<-J]at e;have l:we r.1.1:=by
   rw[J];split
   .exact t _ _ _ I
   .exact I
  split at e
  .cases e
  .rename_i P T s1 U
   have g:=C r.1.1 k P T r.2 s1 (zg ..) l U;split at e
   .cases e
   .rename_i a0 a1 m2 s2 h2
    obtain⟨q1,q2,q3⟩:=qcZ t (fun env k n' z s s' o=>C env k n' z s s' (q8 _ o)) l h2;cases e;refine⟨by simp only[jr];rw[g.1,q1],zP1 q2,fun x p=>?_⟩;rcases qy.1 p with rfl|p
    .exact g.2
    .exact q3 x p
theorem Jo(ts)(r:∀ p,p∈ts.sT->WfN p.body)(es):∀(f){env n n' body s s' z},we env->WfN n->expI ts es f env n body s = .ok ((n',z),s')->z=cntT n'/\Small n'
 | 0,_,_,_,_,_,_,_,_,_,e=>by cases e
 |f+1,env,n,n',body,s,s',z,j,l,e=>by
  simp only[expI]at e;split at e
  .split at e
   .rename_i P
    have g:n.sD=[]:=by
     have hs:=l.shape;simp_all[shp,if_pos,Option.some.injEq,List.map_eq_nil_iff]
    unfold vI at e;split at e
    .cases e
     exact⟨by rw[kl,g];rfl,l.small⟩
    .rename_i v t
     split at e
     .cases e
      refine⟨by rw[kl];show 1=1+jr n.sD;rw[g];rfl,.mk _ (by show n.sD.length<=1000;rw[g];simp) fun k i=>?_⟩;have i:k∈n.sD:=i
      grind
     .rename_i a R
      split at e
      .cases e
       exact j _ (ku t) _ R
      .cases e
   .split at e
    .split at e
     .cases e
     .rename_i p T
      obtain⟨own,s1,C,e⟩:=ZD e;have U:=qcY (fun k n' z s s' i I=>Jo ts r es f j (l.kid i) I) (fun e j=>absurd j qG) C;exact Jo ts r es f U (r p (List.mem_of_find?_eq_some T)) e
    .obtain ⟨⟨a0,J,m⟩,s1,C,e⟩:=ZD e
     cases e;obtain⟨q1,q2,q3⟩:=qcZ (fun env o s h=>qpD h) (fun env k n' z s s' i t I=>Jo ts r es f t (l.kid i) I) j C;refine⟨by rw[kl];show 1+m=_;rw[q1];rfl,.mk _ ?_ q3⟩;show J.length<=1000;have:=l.len;omega
  .cases e
theorem qc0:∀{ks ps own s d},(∀ k s d,E k s = .error d->d=(2,0))->y7 E ps ks own s = .error d->d=(2,0)
 | [],ps,own,s,d,_,e=>by
  have e:Except.ok (own,s)=(Except.error d:XR IEnv):=by cases ps<;>exact e
  cases e
 |k :: ks,[],own,s,d,_,e=>by cases e
 |k :: ks,p :: ps,own,s,d,g,e=>by
  simp only[y7]at e;split at e
  .rename_i j i
   cases e;exact g _ _ _ i
  .exact qc0 g e
theorem qc1{E:IEnv->Nd->ISt->XR (Nd×Int)}{bin}:∀{ks i env nm s d},(∀ env k s d,E env k s = .error d->d=(2,0))->yx E R bin i env nm ks s = .error d->d=(2,0)
 | [],i,env,nm,s,d,_,e=>by cases e
 |k :: ks,i,env,nm,s,d,g,e=>by
  simp only[yx]at e;split at e
  .rename_i j l
   cases e;exact g _ _ _ _ l
  .split at e
   .rename_i j o
    cases e;exact qc1 g o
   .cases e
theorem qc2{i q}{g:I->ISt->XR i}{d}(h:vX q g = .error d):q = .error d\/∃ a s,q = .ok (a,s)/\g a s = .error d:=by
 unfold vX at h;split at h
 .grind
 .exact .inr ⟨_,_,rfl,h⟩
theorem Vv(ts es):∀(f){env n body s d},expI ts es f env n body s = .error d->d=(2,0)
 | 0,_,_,_,_,_,e=>by cases e;rfl
 |f+1,env,n,body,s,d,e=>by
  simp only[expI]at e;split at e
  .split at e
   .unfold vI at e
    split at e
    .cases e
    .split at e
     .cases e
     .split at e
      .cases e
      .cases e;rfl
   .split at e
    .split at e
     .cases e;rfl
     .rcases qc2 e with e|⟨own,g,i,e⟩
      .exact qc0 (fun k s d h=>Vv ts es f h) e
      .exact Vv ts es f e
    .rcases qc2 e with e|⟨own,g,i,e⟩
     .exact qc1 (fun env k s d h=>Vv ts es f h) e
     .cases e
  .cases e;rfl
def outI(ts:TS)(es:List (tP×Bool))(n:Nd):Except Dg Nd:=
 match expI ts es 4001 [] n false ⟨0,0⟩ with
 | .error d => .error d
 | .ok ((g,z),_)=>if z<=400/\depN g<=24 then .ok g else .error (2,n.pos)
theorem Wn{ts n d}(h:outI ts es n = .error d):d.1=2:=by
 grind [outI,Vv]
theorem qpE(ts)(h:okTS ts)(hb:∀ p,p∈ts.sT->WfN p.body/\yW ts p.body)(es)(hF:qo ts es<=200000)(R:Free ts es)(n)(hw:WfN n)(a4:yW ts n){mu xp ob xb tb}
  (h1:mu[xp]?=some (.arr [.ptr xb 0])) (T:mu[xb]?=some (.arr (cIn ts tb ⟨0,0⟩))) (ht:mu[tb]?=some (.mp (eSet es))) (U:mu[ob]?=some (.arr [aI 0,aS ⟨#[]⟩,aI 0,.lst true [],aI 0])) :
  qD qe 72 [.ptr xp 0,.ip (cNd n),.ptr ob 0] mu fun e m=>match outI ts es n with
   | .error d=>e = .pan (jZ d.1 d.2)/\mu.length<=m.length/\∀ i,i<mu.length->i≠xb->i≠ob->m[i]?=mu[i]?
   | .ok n'=>e = .ret (.tup [])/\m[ob]?=some (.arr (cNd n'))/\mu.length<=m.length/\∀ i,i<mu.length->i≠xb->i≠ob->m[i]?=mu[i]?:=by
 refine qSW call72 func72 rfl {} ?_;have ab:xp<mu.length:=(qk.1 h1).1;have ad:xb<mu.length:=(qk.1 T).1;have ae:tb<mu.length:=(qk.1 ht).1;have a5:ob<mu.length:=(qk.1 U).1;have a0:ob≠xb:=fun e=>by grind
 simp[go_sem,h1];have j:∀ i,i<mu.length->(cutM (fun i=>!decide (mu.length<=i)) (mu++[Cell.mp []]) 0)[i]?=mu[i]?:=fun i hi=>by grind [uo,qN]
 have a1:StOk (qo ts es) ⟨0,0⟩:=⟨zSp,zSp,zSp,by simp[pot]⟩;have g:=kj ts h hb es hF R tb 4001 [] n false ⟨0,0⟩ (cutM (fun i=>!decide (mu.length<=i)) (mu++[Cell.mp []]) 0) xb zSp a1 .nil hw a4 (by grind) (by grind);have g:=qD.freeze (mu:=mu++[Cell.mp []]) (args:=[.ptr xb 0,.mp mu.length,eNd n,aB false]) (args1:=[.ptr xb 0,eEnv [],eNd n,aB false]) (fun i=>decide (mu.length<=i)) ⟨.inl rfl,.inr (qcV (acc:=[]) (by grind [uo]) zSp (fun e he=>absurd he qG)),.inl rfl,.inl rfl,trivial⟩ g;have a7:=fun {n' z P}=>Jo ts (fun p hp=>(hb p hp).1) es 4001 (env:=[]) (n:=n) (n':=n') (body:=false) (s:=⟨0,0⟩) (s':=P) (z:=z) (fun e he=>absurd he qG) hw
 have a8:=fun {n' z P}=>jq ts R 4001 (env:=[]) (n:=n) (n':=n') (body:=false) (s':=P) (z:=z) a1 .nil
 unfold outI;generalize expI ts es 4001 [] n false ⟨0,0⟩=E at *
 cases E with
 |error d =>
  refine fZ g (by rintro r m ⟨e,_⟩;cases e) ?_;rintro r m ⟨e,l⟩;cases e;have o:=l.len;rw[jT]at o;simp only[zd,zG,List.length_nil]at o;simp[go_sem];exact⟨zOm,fun i hi T U=>by rw[l.same i (by grind) T,j i hi]⟩
 |ok q =>
  obtain⟨⟨n',z⟩,P⟩:=q;obtain⟨hz,a9⟩:=a7 rfl;have hg:=a8 rfl;have ag:z<=4000:=by have:=hg.cz;have:=hg.c1;grind
  have ah:=kq n';refine fZ g ?_ (by rintro r m ⟨e,_⟩;cases e);rintro r m ⟨e,ai,l⟩;cases e;have o:=l.len;rw[jT]at o;simp only[zd,zG,List.length_nil]at o;have aa:m[ob]?=some (.arr [aI 0,aS ⟨#[]⟩,aI 0,.lst true [],aI 0]):=by rw[l.same _ (by grind) a0,j _ a5];exact U
  have t:∀ c,(m.set ob c)[ob]?=some c:=fun c=>qL zOm
  simp[go_sem,aa];have C:∀ c,mu.length<=(m.set ob c).length/\∀ i,i<mu.length->i≠xb->i≠ob->(m.set ob c)[i]?=mu[i]?:=fun c=>⟨zSo,fun i hi T U=>by
   rw[yJ (fun e=>U e.symm),l.same i (by grind) T,j i hi]⟩
  have wz:∀ b c,WKs [aB b,aI c,eNd n] [aB b,aI c,eNd n]:=fun b c => .zs (.zs (.zk (qK n) .nil))
  by_cases J:z<=400
  .have I:=qcG (szN n') n' (qr _) a9 zOm
   by_cases a3:depN n'<=24
   .refine cJ zKr ?_
    simp[go_sem,J,t];refine tS I (.zk (qK n') .nil) ?_;simp[go_sem,a3];refine tS (zU true 2 n).toP (wz true 2) ?_;simp[go_sem,t]
    grind
   .refine qj.tail 8 zKr ?_
    simp[go_sem,J,t];refine tS I (.zk (qK n') .nil) ?_;simp[go_sem,a3];refine kL (zU false 2 n) (wz false 2) ?_;simp[go_sem];simpa using C _
  .refine qj.tail 8 zKr ?_
   simp[go_sem,J];refine kL (zU false 2 n) (wz false 2) ?_;simp[go_sem];simpa using C _
end
end YE
namespace YG
open YS P1 Y1 Y9 YX YZ YA YB YC YE Q6
def valD(l:List UInt8):Nat:=l.foldl (fun a b=>10*a+(b.toNat-48)) 0
theorem qpF(u):valD (Lib.decDigits u)=u:=by
 induction u using Nat.strongRecOn with
 |_ u g =>
  rw[Lib.decDigits];split
  .rename_i h
   simp only[valD,List.foldl_cons,List.foldl_nil];rw[UInt8.toNat_ofNat_of_lt' (by simp[UInt8.size];omega)];omega
  .rename_i h
   have:=g (u / 10) zOm;unfold valD at this⊢;rw[vM,this];simp only[List.foldl_cons,List.foldl_nil];rw[UInt8.toNat_ofNat_of_lt' (by simp[UInt8.size];omega)];omega
theorem qpG{a b:Nat}(h:jE (a:Int)=jE (b:Int)):a=b:=by
 have g:Lib.decDigits a=Lib.decDigits b:=by
  unfold jE Lib.itoa at h;rw[zIn,zIn]at h;simp only[Int.toNat_natCast]at h;have h:=congrArg (fun x:tP=>x.data.toList) h;simpa using h
 grind [qpF]
theorem qpH{p a b:tP}(h:p++a=p++b):a=b:=by
 simp_all
theorem kv{a b:Nat}(h:vN (a:Int)=vN (b:Int)):a=b:=qpG (qpH h)
def badL(ts:TS)(es:List (tP×Bool)):List tP:=es.map Prod.fst++(ts.sA.map (fun f=>f.name)++ts.sS.flatMap fun s=>[s.1,s.1++jj,s.1++vj])
theorem qpI(ts es):(badL ts es).length+1=qo ts es:=by
 have:∀ l:List (tP×Bool),(l.flatMap fun s=>[s.1,s.1++jj,s.1++vj]).length=3*l.length:=by
  intro l;induction l with
  |nil=>rfl
  |cons a l g=>grind
 grind [badL,qo,zd,zT]
theorem qpJ{ts es nm}(h:yI ts es nm=false):nm∈badL ts es:=by
 unfold yI at h;unfold badL;rw[Bool.and_eq_false_iff]at h;rcases h with h|h
 .have h:getK nm es=some true:=by simpa using h
  exact jt _ (qn.2 ⟨_,ku h,rfl⟩)
 .refine List.mem_append_right _ ?_
  have h:means ts nm≠[]:=zUs h;unfold means at h;by_cases hf:yS ts.sA nm=[]
  .rw [hf,vw]at h
   refine List.mem_append_right _ ?_;have:∀(g:List (tP×Bool))(i:Nat),yT i g nm≠[]->nm∈g.flatMap fun s=>[s.1,s.1++jj,s.1++vj]:=by
    intro g;induction g with
    |nil=>intro i h;exact absurd rfl h
    |cons s g t =>
     intro i h;rw[List.flatMap_cons,qM];by_cases j:uy i s nm=[]
     .refine .inr (t (i+1) ?_)
      simpa[yT,j] using h
     .left
      unfold uy at j;by_cases l:s.1=nm
      .simp [l]
      by_cases o:s.2=true/\s.1++jj=nm
      .simp [o.2]
      by_cases p:s.2=true/\s.1++vj=nm
      .simp [p.2]
      exact absurd (by simp[l,o,p]) j
   exact this ts.sS 0 h
  .refine jt _ ?_
   obtain⟨k,r⟩:=List.exists_mem_of_ne_nil _ hf;unfold yS at r;obtain⟨f,hf,e⟩:=List.mem_filterMap.1 r;split at e
   .rename_i C
    exact qn.2 ⟨f,hf,C⟩
   .cases e
theorem Wo(ts es):Free ts es:=by
 intro l J;by_cases g:∃ j:Nat,1<=j/\j<=qo ts es/\yI ts es (vN (l+j))=true
 .exact g
 exfalso;obtain⟨L,rfl⟩:∃ L:Nat,l=L:=⟨l.toNat,zOm⟩;have o:∀ x,x∈(qu (qo ts es)).map (fun i=>vN ((L+(i+1):Nat):Int))->x∈badL ts es:=fun x t=>by
  obtain⟨i,C,rfl⟩:=qn.1 t;rw[yi]at C;refine qpJ ?_;cases I:yI ts es (vN ((L+(i+1):Nat):Int)) with
  |false=>rfl
  |true=>exact absurd ⟨i+1,zOm,zOm,by rw[show (L:Int)+((i+1:Nat):Int)=((L+(i+1):Nat):Int) by omega];exact I⟩ g
 have p:((qu (qo ts es)).map (fun i=>vN ((L+(i+1):Nat):Int))).Nodup:=by
  refine List.pairwise_map.2 (List.nodup_range.imp fun r e=>r ?_);have:=kv e;omega
 have:=vb p o;rw[zT,List.length_range]at this;have:=qpI ts es;omega
def putN(es:List (tP×Bool))(l:List Nd):List (tP×Bool):=l.foldl (fun es n=>setK n.name true es) es
def yX(ts:TS)(n:Nd):List (tP×Bool):=ts.sT.foldl (fun U p=>putN U (preN p.body)) (putN [] (preN n))
def zf(ts:TS)(n:Nd):Nd×Int:=
 if (yf ts [] n).1≠0 then (nd0,(yf ts [] n).1)
 else if anyN (fun n=>decide (n.op=47)) n=false then (n,0)
 else match outI ts (yX ts n) n with
  | .error d=>(nd0,d.1)
  | .ok g=>(g,0)
theorem Vw(p):∀ m n,szN n<=m->anyN p n=(preN n).any p
 | 0,n,g=>by obtain⟨op,nm,i,ks,q⟩:=n;simp[szN]at g
 |m+1,n,g=>by
  rw[U4,uG,List.any_cons];congr 1;have:∀ l:List Nd,(∀ k,k∈l->k∈n.sD)->uC p l=(zD l).any p:=by
   intro l;induction l with
   |nil=>intro _;rfl
   |cons k l o =>
    intro j;simp only[uC,zD,List.any_append];rw[o fun x r=>j x (q8 _ r),Vw p m k (zW1 (yu (j k (zg ..))))]
  exact this n.sD fun k t=>t
end YG
namespace YH
open YF P1 P2 Y1 Y6 Y9 Y14 YX YZ YB YC YE YG Q6
section
variable {b:Bool}{es:List (tP×Bool)}{mu:Mu}{ts:TS}
structure InM (ts:TS) (es:List (tP×Bool)) (b:Bool) (mu:Mu):Prop where
 r:mu[0]?=some (.arr [aI 0,aS ⟨#[]⟩,aI 0,.lst true [],aI 0])
 t:mu[2]?=some (.mp (eSet es))
 x:mu[3]?=some (.arr (cIn ts 2 ⟨0,0⟩))
 p:mu[4]?=some (.arr [.ptr 3 0])
 c:mu[5]?=some (.arr [aB b])
theorem InM.len(h:InM ts es b mu):5<mu.length:=(qk.1 h.c).1
theorem InM.push(h:InM ts es b mu)(l):InM ts es b (mu++l):=by
 have g:=h.len;exact⟨by rw[zGa];exact h.r,by rw[zGa];exact h.t,by rw[zGa];exact h.x,by rw[zGa];exact h.p,by rw[zGa];exact h.c⟩
theorem InM.setT{g}(h:InM ts es b mu):InM ts g b (mu.set 2 (.mp (eSet g))):=by
 have i:=h.len;exact⟨by rw[zGl];exact h.r,qL zOm,by rw[zGl];exact h.x,by rw[zGl];exact h.p,by rw[zGl];exact h.c⟩
theorem InM.setC{b'}(h:InM ts es b mu):InM ts es b' (mu.set 5 (.arr [aB b'])):=by
 have g:=h.len;exact⟨by rw[zGl];exact h.r,by rw[zGl];exact h.t,by rw[zGl];exact h.x,by rw[zGl];exact h.p,qL zOm⟩
theorem qpK(mu):Rd mu eN0 (eNd nd0) := .agg _ _ rfl fun k x y g i=>by
 match k with
 | 0=>simp[nd0,cNd]at g i;subst g;subst i;exact .zsc _
 | 1=>simp[nd0,cNd]at g i;subst g;subst i;exact .zsc _
 | 2=>simp[nd0,cNd]at g i;subst g;subst i;exact .zsc _
 | 3=>simp[nd0,cNd,cNds]at g i;subst g;subst i;exact .wk _ true [] (.hf _ (HF.lst fun r j=>absurd j qG))
 | 4=>simp[nd0,cNd]at g i;subst g;subst i;exact .zsc _
 |k+5=>simp at g
theorem Jp(mu d):Rd mu (.tup [eN0,aI d]) (.tup [eNd nd0,aI d]) := .tup _ _ rfl fun k x y g i=>by
 match k with
 | 0=>grind [qpK]
 | 1=>simp at g i;subst g;subst i;exact .zsc _
 |k+2=>simp at g
theorem qpL(ts)(h:okTS ts)(hb:∀ p,p∈ts.sT->WfN p.body/\yW ts p.body)(n)(hw:WfN n)(ai:(yf ts [] n).1=0->yW ts n)(hF:qo ts (yX ts n)<=200000):qi qe 34 [eTS ts,eNd n] (.tup [eNd (zf ts n).1,aI (zf ts n).2]):=by
 generalize j:zf ts n=R;unfold zf at j;refine qSQ call34 func34 rfl { mt:=[25] } ?_;simp[go_sem];have a6:∀ p,p∈ts.sT->WfN p.body:=fun p hp=>(hb p hp).1
 refine fR (qmD ts h a6 n hw [] ⟨zSp,zSp⟩) (.zk (zp ts) (.cons (WK.lst fun r hr=>absurd hr qG) (.zk (qK n) .nil))) ?_;by_cases o:(yf ts [] n).1=0
 case neg =>
  rw[if_pos o]at j;subst j;simp[go_sem,o];refine fD [0,1,2,4,3] [(0,0,[]),(1,0,[]),(2,0,[]),(4,0,[]),(3,1,[2])] zKr zKr zSi ?_;simp_all[go_sem,Jp]
 case pos =>
  rw[if_neg (zUs o)]at j;simp[go_sem,o];have aj:∀(v:List Nd)(k:Nd)(C:Mu),InM ts (putN [] v) (v.any fun n=>decide (n.op=47)) C->qD qe 69 (eNd k :: [.ptr 4 0,.ptr 5 0]) C fun e m=>e = .ret (.tup [])/\InM ts (putN [] (v++[k])) ((v++[k]).any fun n=>decide (n.op=47)) m:=fun v k C g=>by
   refine(qoU ts ⟨0,0⟩ 2 _ _ k g.p g.x g.c g.t).monoR ?_;rintro e m ⟨rfl,rfl⟩;refine⟨rfl,?_⟩;rw[List.any_append];simp only[putN,vM,List.foldl_cons,List.foldl_nil,List.any_cons,List.any_nil,Bool.or_false];exact g.setT.setC
  refine fZ (K9 (caps:=[.ptr 4 0,.ptr 5 0]) (fun v C=>InM ts (putN [] v) (v.any fun n=>decide (n.op=47)) C) (fun v C l h=>h.push l) aj (szN n) n (qr _) hw.small [] _ ⟨rfl,rfl,rfl,rfl,rfl⟩) ?_ (by grind);rintro r m ⟨e,g⟩;cases e;rw[vw,<-Vw _ (szN n) n (qr _)]at g;have au:=g.len;have a8:∀ c,(m.set 0 c)[0]?=some c:=fun c=>qL zOm
  cases I:anyN (fun n=>decide (n.op=47)) n with
  |false =>
   rw[I]at g j;rw[if_pos rfl]at j;subst j;simp[go_sem,g.c,g.r,a8];exact .hf _ (HF.tup fun c o=>by simp at o;rcases o with rfl|rfl;exact qK n;exact HF.sc _)
  |true =>
   rw[I]at g j;rw[if_neg zSp]at j;have av:=h.np;simp[go_sem,g.c];refine aK ts.sT.length (fun k T=>T.tm 3 = .ip (cNd n)/\T.tm 4 = .ptr 0 0/\T.tm 7 = .ptr 4 0/\T.tm 33=lPd ts.sT/\T.tm 34=aI ts.sT.length/\T.tm 35=aI k/\InM ts ((ts.sT.take k).foldl (fun U p=>putN U (preN p.body)) (putN [] (preN n))) true T.mu) ?_ ?_
   .simp [go_sem, *]
   .rintro k T hk ⟨e3,e4,e7,a9,a2,a3,hM⟩
    by_cases ak:k=ts.sT.length
    .subst ak
     simp[go_sem,e3,e7,a2,a3];rw[qO]at hM;have hM:InM ts (yX ts n) true T.mu:=hM;have aw:=hM.len;have a0:InM ts (yX ts n) true (T.mu++[Cell.arr [aI 0,aS ⟨#[]⟩,aI 0,.lst true [],aI 0]]++[.dead]):=(hM.push _).push _;have aa:=qpE ts h hb (yX ts n) hF (Wo ts _) n hw (ai o) (mu:=T.mu++[Cell.arr [aI 0,aS ⟨#[]⟩,aI 0,.lst true [],aI 0]]++[.dead]) (ob:=T.mu.length) a0.p a0.x a0.t zSp;have al:=j;clear j;generalize hQ:outI ts (yX ts n) n=Q at *
     refine fZ (nY aa ?_) ?_ ?_
     .grind
     .rintro r m ⟨J,c,⟨l,rfl⟩,a4⟩
      have ab:T.mu.length+2<=J.length/\∀ i,i<T.mu.length+2->i≠3->i≠T.mu.length->J[i]?=(T.mu++[Cell.arr [aI 0,aS ⟨#[]⟩,aI 0,.lst true [],aI 0]]++[.dead])[i]?:=by
       grind
      have ad:∀(c:Cell)(l:List Cell),(J.set (T.mu.length+1) c++l)[0]?=some (.arr [aI 0,aS ⟨#[]⟩,aI 0,.lst true [],aI 0]):=fun c l=>by
       rw[qN zSo,zGl,ab.2 0 zOm zOm zOm];exact a0.r
      have P:∀(c c2:Cell)(l:List Cell),((J.set (T.mu.length+1) c++l).set 0 c2)[0]?=some c2:=fun c c2 l=>qL zSo
      have ae:∀(c c':Cell)(l:List Cell),(J.set (T.mu.length+1) c++(l++[c']))[J.length+l.length]?=some c':=fun c c' l=>by
       simp
      have a5:∀(c c' c2:Cell)(l:List Cell),((J.set (T.mu.length+1) c++(l++[c'])).set 0 c2)[J.length+l.length]?=some c':=fun c c' c2 l=>by
       grind
      rcases a4 with ⟨r',j,e⟩|⟨er,p,j,e⟩
      .cases Q with
       |error d=>grind
       |ok n' =>
        cases e;have an:∀(c:Cell)(l:List Cell),(J.set (T.mu.length+1) c++l)[T.mu.length]?=some (.arr (cNd n')):=fun c l=>by
         grind
        simp[go_sem,e4,an,ad,P];subst al;exact .hf _ (HF.tup fun c o=>by simp at o;rcases o with rfl|rfl;exact qK _;exact HF.sc _)
      .cases Q with
       |ok n'=>grind
       |error d =>
        have af:=Wn hQ;have e1:er=d.1:=by grind
        subst e1;cases e;simp[go_sem,af];have n0:=ad c (l++[Cell.arr [aI d.1,aI p]]);have n1:=ae c (Cell.arr [aI d.1,aI p]) l;have n2:=fun c2=>a5 c (Cell.arr [aI d.1,aI p]) c2 l
        have n3:=fun c2=>P c c2 (l++[Cell.arr [aI d.1,aI p]])
        rw[af]at n0 n1 n2 n3;generalize J.set (T.mu.length+1) c++(l++[Cell.arr [aI 2,aI p]])=N at *
        generalize J.length+l.length=b at *
        refine fD [0,1,2,4,3] [(0,0,[]),(1,0,[]),(2,0,[]),(4,0,[]),(3,1,[2])] zKr zKr zSi ?_
        all_goals
         simp[go_sem,e4,n0,n1,n2,n3]
         grind [Jp]
     simp
    .have a1:k<ts.sT.length:=by omega
     have w1:=zWk k;have ag:=Zv ts.sT[k];simp[go_sem,e7,a9,a2,a3,a1,ag];have ao:ts.sT[k]∈ts.sT:=qs a1;generalize aq:(ts.sT.take k).foldl (fun U p=>putN U (preN p.body)) (putN [] (preN n))=E0 at *
     have ah:∀(v:List Nd)(x:Nd)(C:Mu),InM ts (putN E0 v) true C->qD qe 70 (eNd x :: [.ptr 4 0]) C fun e m=>e = .ret (.tup [])/\InM ts (putN E0 (v++[x])) true m:=fun v x C g=>by
      refine(qoV ts ⟨0,0⟩ 2 _ x g.p g.x g.t).monoR ?_;rintro e m ⟨rfl,rfl⟩;refine⟨rfl,?_⟩;simp only[putN,vM,List.foldl_cons,List.foldl_nil];exact g.setT
     refine fZ (K9 (caps:=[.ptr 4 0]) (fun v C=>InM ts (putN E0 v) true C) (fun v C l h=>h.push l) ah (szN ts.sT[k].body) ts.sT[k].body (qr _) (a6 _ ao).small [] _ (hM.push _)) ?_ (by rintro r m ⟨e,_⟩;cases e);rintro r m ⟨e,ar⟩;cases e;simp[go_sem,a3,w1];refine⟨a1,aA ?_⟩;refine⟨zS1 e3,zS1 e4,zS1 e7,zS1 a9,zS1 a2,zSi,?_⟩;rw[List.take_add_one,qA a1,vM,aq];simpa[go_sem] using ar
end
end YH
end Go.Proofs.YtipbakanneogpaaGreatDoor
