/-
  Own library, part 6: an abstract reading of values and a calculus over it; contracts of functions; plain lemmas.
-/
import Derived.Lib.ItoaLen
import Derived.Test.YtipbakanneogpaaGreatDoorMe
set_option linter.unusedVariables false
set_option linter.unusedSimpArgs false
set_option maxRecDepth 100000
open Go renaming FuncId->qx
open Go.Proofs.Tryz renaming prog->qe
open List renaming getElem?_eq_some_iff->qk,mem_map->qn,getElem_mem->qs,range->qu,mem_cons->qy,getElem?_eq_getElem->qA,not_mem_nil->qH,mem_append->qK,getElem?_set_self->qM,getElem?_append_left->qN,replicate->qO,take_length->qP,mem_singleton->qV,mem_of_getElem?->q8,length_append->za,map_append->zb,mem_cons_of_mem->zc,getElem?_map->zj,mem_cons_self->zl,drop_eq_getElem_cons->zp,append_assoc->zt,length_cons->zu,length_map->zF,getElem?_append_right->zJ,append_nil->zO,map_cons->zQ,take_of_length_le->zV,drop_length->zZ,mem_range->yb,getElem?_set_ne->yF,cons_append->yT,mem_append_left->jn,mem_of_mem_take->jD,take_append_drop->vF,take_succ_eq_append_getElem->vO,foldl_append->vQ,getD_cons_zero->uA,mem_flatMap->wQ
open Go.IntKind renaming i64->qp
open Nat renaming le_refl->qr,le_trans->zL,zero_add->yf
open Bool renaming and_eq_true->qI,eq_iff_iff->j0,or_eq_true->Qv
open Option renaming map_eq_some_iff->jN
open List.Nodup renaming length_le_of_subset->j5
open Int renaming le_refl->vh
namespace Go.Proofs.YtipbakanneogpaaGreatDoor
open Go Go.Ev Go.Proofs Tryz
namespace F8
open Y1 P2 E1 E3 EA ER EY F1 F2 F3
theorem f30(x N n)(j:WfN n)(l:OkMa x N)(o:IH x N n)(p)(r:OkP x N p)(t:bd p n)(g:n.op=30):qZ qe 78 [eMa x,ePl p,eNd n] (endB (Except.ok true)):=by
 refine zi.of_sound ?_;refine qSW call78 func78 rfl {} ?_;have i:=zY x;simp[go_sem,g];exact .zsc _
theorem f31(x N n)(j:WfN n)(l:OkMa x N)(o:IH x N n)(p)(r:OkP x N p)(t:bd p n)(g:n.op=31):qZ qe 78 [eMa x,ePl p,eNd n] (endB (Except.ok false)):=by
 refine zi.of_sound ?_;refine qSW call78 func78 rfl {} ?_;have i:=zY x;simp[go_sem,g];exact .zsc _
theorem f32(x N n a b)(i:OkMa x N)(l:n.sD=[a,b])(o:IH x N n)(p)(t:OkP x N p)(T:bd p n)(C:n.op=32):qZ qe 78 [eMa x,ePl p,eNd n] (endB ((bX (yI [den x a,den x b] p) fun q => .ok (decide ((diR q.1 q.2).ts=[]))))):=by
 refine zi.of_sound ?_;refine qSW call78 func78 rfl {} ?_;have U:=zY x;have J:=wk3 x p n;generalize g:(bX (yI [den x a,den x b] p) fun q => .ok (decide ((diR q.1 q.2).ts=[])))=E;have j:=YO x N n a b l o p t T;simp[go_sem,C];cases I:yI [den x a,den x b] p with
 |error e =>
  rw[I]at j g;subst g;refine fZ j J ?_;simp[go_sem,zH];exact .hf _ (qR _)
 |ok q =>
  obtain⟨r,s⟩:=q;obtain⟨P,R,h3⟩:=wB I;simp only[kD,uA,List.getD_cons_succ]at P R;have gr:=(o a (by rw[l];simp) p t zOm).G _ P;have gs:=(o b (by rw[l];simp) p t zOm).G _ R;have lr:=gr.len i.n0 (aJ i);have ls:=gs.len i.n0 (aJ i);rw[I]at j g;rw[zC]at g;subst g;refine fR j.toP J ?_;refine fR (inU r s zOm zOm) (wkR2 r s) ?_;exact .zsc _
theorem f33(x N n a b)(i:OkMa x N)(l:n.sD=[a,b])(o:IH x N n)(p)(t:OkP x N p)(T:bd p n)(C:n.op=33):qZ qe 78 [eMa x,ePl p,eNd n] (endB ((bX (yI [den x a,den x b] p) fun q => .ok (decide (q.1=q.2))))):=by
 refine zi.of_sound ?_;refine qSW call78 func78 rfl {} ?_;have U:=zY x;have J:=wk3 x p n;generalize g:(bX (yI [den x a,den x b] p) fun q => .ok (decide (q.1=q.2)))=E;have j:=YO x N n a b l o p t T;simp[go_sem,C];cases I:yI [den x a,den x b] p with
 |error e =>
  rw[I]at j g;subst g;refine fZ j J ?_;simp[go_sem,zH];exact .hf _ (qR _)
 |ok q =>
  obtain⟨r,s⟩:=q;obtain⟨P,R,h3⟩:=wB I;simp only[kD,uA,List.getD_cons_succ]at P R;have gr:=(o a (by rw[l];simp) p t zOm).G _ P;have gs:=(o b (by rw[l];simp) p t zOm).G _ R;have lr:=gr.len i.n0 (aJ i);have ls:=gs.len i.n0 (aJ i);rw[I]at j g;rw[zC]at g;subst g;refine fR j.toP J ?_;refine fR (E4.XP r s zOm) (wkR2 r s) ?_;exact .zsc _
theorem f34(x N n a)(hM:OkMa x N)(t:n.sD=[a])(J:IH x N n)(p)(P:OkP x N p)(hq:bd p n)(g)(T:n.op=34/\g=(fun k=>decide (0<k))\/n.op=35/\g=(fun k=>decide (k=0))\/n.op=36/\g=(fun k=>decide (k=1))\/n.op=37/\g=fun k=>decide (k<=1)):qZ qe 78 [eMa x,ePl p,eNd n] (endB ((bX ((den x a).E p) fun a => .ok (g a.ts.length)))):=by
 rcases T with ⟨o,rfl⟩|⟨o,rfl⟩|⟨o,rfl⟩|⟨o,rfl⟩
 all_goals
  refine zi.of_sound ?_;refine qSW call78 func78 rfl {} ?_;have U:=zY x;have wx:=wk3 x p n;generalize i:bX ((den x a).E p) _=E;have j:=(J a (by rw[t];simp) p P zOm).E;have C:=wk3 x p a;simp[go_sem,o];refine fD [0,1,2,3,4,5,6,7,8,9] [(0,0,[]),(1,0,[]),(2,0,[]),(3,0,[]),(4,0,[]),(5,0,[]),(6,1,[]),(7,0,[]),(8,0,[]),(9,0,[])] zKr zKr zSi ?_;simp[go_sem,t];cases I:(den x a).E p with
  |error e =>
   rw[I]at j i;subst i;refine fZ j C ?_;simp[go_sem,zH];exact .hf _ (qR _)
  |ok r =>
   rw[I]at j i;rw[zC]at i;subst i;refine cQ j.toP C ?_;obtain⟨ar,R⟩:=r;rcases R with _|⟨y,_|⟨z,l⟩⟩
   .simp [go_sem,o]
    exact .zsc _
   .simp [go_sem,o]
    exact .zsc _
   .have h1:(0:Int)<l.length+1+1:=by omega
    have h2:¬(l.length:Int)+1+1=1:=zOm;have h3:¬(l.length:Int)+1+1<=1:=zOm;have h4:¬(l.length:Int)+1+1=0:=zOm;simp[go_sem,o,h1,h2,h3,h4];exact .zsc _
theorem f38(x N n a b)(hM:OkMa x N)(j:n.sD=[a,b])(C:IH x N n)(p)(I:OkP x N p)(hq:bd p n)(g)(U:n.op=38/\g=(fun a b=>decide (a=b))\/n.op=39/\g=fun a b=>decide (a<b)):qZ qe 78 [eMa x,ePl p,eNd n] (endB ((bX ((den x a).N p) fun a=>bX ((den x b).N p) fun b => .ok (g a b)))):=by
 rcases U with ⟨o,rfl⟩|⟨o,rfl⟩
 all_goals
  refine zi.of_sound ?_;refine qSW call78 func78 rfl {} ?_;have a0:=zY x;have wx:=wk3 x p n;generalize i:bX ((den x a).N p) _=E;have l:=(C a (by rw[j];simp) p I zOm).N;have t:=(C b (by rw[j];simp) p I zOm).N;have J:=wk3 x p a;have P:=wk3 x p b;simp[go_sem,o];refine fD [0,1,2,3,4,5,7,8,9,10,11,12,6,13,14,15] [(0,0,[]),(1,0,[]),(2,0,[]),(3,0,[]),(4,0,[]),(5,0,[]),(7,0,[]),(8,0,[]),(9,0,[]),(10,0,[]),(11,0,[]),(12,0,[]),(6,1,[8,10,12]),(13,1,[]),(14,0,[]),(15,0,[])] zKr zKr zSi ?_;simp[go_sem,j];cases R:(den x a).N p with
  |error e =>
   rw[R]at l i;subst i;refine fZ l J ?_;simp[go_sem,zH];exact .hf _ (qR _)
  |ok r =>
   rw[R]at l i;rw[zC]at i;refine cQ l.toP J ?_;simp[go_sem,j];cases T:(den x b).N p with
   |error e =>
    rw[T]at t i;subst i;refine fZ t P ?_;simp[go_sem,zH];exact .hf _ (qR _)
   |ok s =>
    rw[T]at t i;rw[zC]at i;subst i;refine fR t.toP P ?_;exact .zsc _
theorem f40(x N n a)(P:OkMa x N)(l:n.sD=[a])(C:IH x N n)(p)(I:OkP x N p)(R:bd p n)(j:n.op=40):qZ qe 78 [eMa x,ePl p,eNd n] (endB ((bX ((den x a).F p) fun a => .ok (!a)))):=by
 refine zi.of_sound ?_;refine qSW call78 func78 rfl {} ?_;have J:=zY x;have T:=wk3 x p n;generalize g:(bX ((den x a).F p) fun a => .ok (!a))=E;have i:=(C a (by rw[l];simp) p I zOm).F;have o:=wk3 x p a;simp[go_sem,j];refine fD [0,1,2,3,4,5,6,7,8] [(0,0,[]),(1,0,[]),(2,0,[]),(3,0,[]),(4,0,[]),(5,0,[]),(6,1,[]),(7,0,[]),(8,0,[])] zKr zKr zSi ?_;simp[go_sem,l];cases t:(den x a).F p with
 |error e =>
  rw[t]at i g;subst g;refine fZ i o ?_;simp[go_sem,zH];exact .hf _ (qR _)
 |ok r =>
  rw[t]at i g;rw[zC]at g;subst g;refine fR i.toP o ?_;exact .zsc _
theorem f41(x N n a b)(hM:OkMa x N)(j:n.sD=[a,b])(C:IH x N n)(p)(I:OkP x N p)(hq:bd p n)(g)(U:n.op=41/\g=(fun a b=>a&&b)\/n.op=42/\g=(fun a b=>a||b)\/n.op=43/\g=(fun a b=>!a||b)\/n.op=44/\g=fun a b=>decide (a=b)):qZ qe 78 [eMa x,ePl p,eNd n] (endB ((bX ((den x a).F p) fun a=>bX ((den x b).F p) fun b => .ok (g a b)))):=by
 rcases U with ⟨o,rfl⟩|⟨o,rfl⟩|⟨o,rfl⟩|⟨o,rfl⟩
 all_goals
  refine zi.of_sound ?_;refine qSW call78 func78 rfl {} ?_;have a0:=zY x;have wx:=wk3 x p n;generalize i:bX ((den x a).F p) _=E;have l:=(C a (by rw[j];simp) p I zOm).F;have t:=(C b (by rw[j];simp) p I zOm).F;have J:=wk3 x p a;have P:=wk3 x p b;simp[go_sem,o];refine fD [0,1,2,3,4,5,7,8,9,10,11,12,6,14,13,15] [(0,0,[]),(1,0,[]),(2,0,[]),(3,0,[]),(4,0,[]),(5,0,[]),(7,0,[]),(8,0,[]),(9,0,[]),(10,0,[]),(11,0,[]),(12,0,[]),(6,1,[8,10,12]),(14,0,[]),(13,1,[]),(15,0,[])] zKr zKr zSi ?_;simp[go_sem,j];cases R:(den x a).F p with
  |error e =>
   rw[R]at l i;subst i;refine fZ l J ?_;simp[go_sem,zH];exact .hf _ (qR _)
  |ok r =>
   rw[R]at l i;rw[zC]at i;refine cQ l.toP J ?_;simp[go_sem,j];cases T:(den x b).F p with
   |error e =>
    rw[T]at t i;subst i;refine fZ t P ?_;simp[go_sem,zH];exact .hf _ (qR _)
   |ok s =>
    rw[T]at t i;rw[zC]at i;subst i;refine cQ t.toP P ?_;cases r<;>cases s<;>simp[go_sem,o]<;>exact .zsc _
end F8
namespace E8
open E3 E7
theorem qnE{x N}(h:OkX x N){s}(i:s<N){t}(g:t∈x.path s):∃ k,it x k s=t:=by
 obtain⟨r,e,l⟩:=qjV h i;rw[e]at g;obtain⟨j,_,e⟩:=qn.1 g;exact⟨j,e⟩
end E8
namespace EB
end EB
namespace EK
open E3
theorem KE{J j g}:∀{l:List J}{r:List j},mapX g l = .ok r->r.length=l.length
 | [],r,h=>by cases h;rfl
 |a :: l,r,h=>by
  rw[mapX]at h;cases o:g a with
  |error e=>rw[o]at h;cases h
  |ok b =>
   rw[o,zC]at h;cases i:mapX g l with
   |error e=>rw[i]at h;cases h
   |ok s =>
    rw[i,zC]at h;cases h;rw[zu,zu,KE i]
end EK
namespace F9
open Y1 E3 E7 EA EL EO EP EW F1 F2 F3 F4 F5 F6
theorem f45(x N n a b)(I:OkMa x N)(U:n.sD=[a,b])(ih:IH x N n)(p)(hp:OkP x N p)(hq:bd p n)(i:n.op=45):qZ qe 78 [eMa x,ePl p,eNd n] (endB (bX (vA [den x a,den x b] n.name p) fun l => .ok (l.all fun e=>e.2))):=by
 refine zi.of_sound ?_;refine qSW call78 func78 rfl {} ?_;have a0:=zY x;have o:=KA x N n a b I U ih p hp hq;have wx:=wk3 x p n;simp[go_sem,i];cases J:vA [den x a,den x b] n.name p with
 |error e =>
  rw[J]at o;refine fZ o wx ?_;simp[go_sem,zH];exact .hf _ (qR _)
 |ok l =>
  rw[J]at o;have hl:l.length<=8000:=KC J 8000 fun d h=>((ih a (by rw[U];simp) p hp zOm).G d h).len I.n0 (aJ I)
  have r:=Ky 1 (l.map Prod.fst) (l.map Prod.snd) zSp zSo;rw[KB]at r;rw[UM]at o;refine cQ o.toP wx ?_;generalize insC 1 (l.map Prod.fst) (l.map Prod.snd)=C at *
  simp[go_sem,zC];refine tK r (fun j M=>∃ g,M = .arr [aB ((l.take j).any fun e=>e.2)] :: .arr [aB ((l.take j).all fun e=>e.2)] :: g) (fun _ _=>False) ?_ ?_ ?_ ?_ ?_ ?_
  .simp_all [qC,yT]
  .simp
  .grind
  .rintro j y M hj ⟨g,rfl⟩
   rw[zj,jN]at hj;obtain⟨t,ht,rfl⟩:=hj;obtain⟨P,R⟩:=qk.1 ht;have T:=yj P;rw[R]at T;refine⟨rfl,?_⟩;have ha:((l.take (j+1)).any fun e=>e.2)=((l.take j).any (fun e=>e.2)||t.2):=by rw[T,List.any_append];simp
   have hb:((l.take (j+1)).all fun e=>e.2)=((l.take j).all (fun e=>e.2)&&t.2):=by rw[T,List.all_append];simp
   generalize (l.take j).any (fun e=>e.2)=A at *
   generalize (l.take j).all (fun e=>e.2)=B at *
   cases A<;>cases B<;>cases t2:t.2
   all_goals simp[go_sem]
   all_goals refine tT ?_
   all_goals rw[ha,hb,t2]
   all_goals exact⟨_,rfl⟩
  .rintro M ⟨g,rfl⟩
   rw[zF,qP];generalize (l.any fun e=>e.2)=A at *
   generalize (l.all fun e=>e.2)=B at *
   cases A<;>cases B
   all_goals simp[go_sem,i]
   all_goals exact .zsc _
  grind
theorem f46(x N n a b)(I:OkMa x N)(U:n.sD=[a,b])(ih:IH x N n)(p)(hp:OkP x N p)(hq:bd p n)(i:n.op=46):qZ qe 78 [eMa x,ePl p,eNd n] (endB (bX (vA [den x a,den x b] n.name p) fun l => .ok (l.any fun e=>e.2))):=by
 refine zi.of_sound ?_;refine qSW call78 func78 rfl {} ?_;have a0:=zY x;have o:=KA x N n a b I U ih p hp hq;have wx:=wk3 x p n;simp[go_sem,i];cases J:vA [den x a,den x b] n.name p with
 |error e =>
  rw[J]at o;refine fZ o wx ?_;simp[go_sem,zH];exact .hf _ (qR _)
 |ok l =>
  rw[J]at o;have hl:l.length<=8000:=KC J 8000 fun d h=>((ih a (by rw[U];simp) p hp zOm).G d h).len I.n0 (aJ I)
  have r:=Ky 1 (l.map Prod.fst) (l.map Prod.snd) zSp zSo;rw[KB]at r;rw[UM]at o;refine cQ o.toP wx ?_;generalize insC 1 (l.map Prod.fst) (l.map Prod.snd)=C at *
  simp[go_sem,zC];refine tK r (fun j M=>∃ g,M = .arr [aB ((l.take j).any fun e=>e.2)] :: .arr [aB ((l.take j).all fun e=>e.2)] :: g) (fun _ _=>False) ?_ ?_ ?_ ?_ ?_ ?_
  .simp_all [qC,yT]
  .simp
  .grind
  .rintro j y M hj ⟨g,rfl⟩
   rw[zj,jN]at hj;obtain⟨t,ht,rfl⟩:=hj;obtain⟨P,R⟩:=qk.1 ht;have T:=yj P;rw[R]at T;refine⟨rfl,?_⟩;have ha:((l.take (j+1)).any fun e=>e.2)=((l.take j).any (fun e=>e.2)||t.2):=by rw[T,List.any_append];simp
   have hb:((l.take (j+1)).all fun e=>e.2)=((l.take j).all (fun e=>e.2)&&t.2):=by rw[T,List.all_append];simp
   generalize (l.take j).any (fun e=>e.2)=A at *
   generalize (l.take j).all (fun e=>e.2)=B at *
   cases A<;>cases B<;>cases t2:t.2
   all_goals simp[go_sem]
   all_goals refine tT ?_
   all_goals rw[ha,hb,t2]
   all_goals exact⟨_,rfl⟩
  .rintro M ⟨g,rfl⟩
   rw[zF,qP];generalize (l.any fun e=>e.2)=A at *
   generalize (l.all fun e=>e.2)=B at *
   cases A<;>cases B
   all_goals simp[go_sem,i]
   all_goals exact .zsc _
  grind
theorem qa1(x):∀ f s acc,(Qh x f s acc).length<=acc.length+f
 | 0,s,acc=>by simp[Qh]
 |f+1,s,acc=>by
  simp only[Qh];split
  .omega
  .have:=qa1 x f (x.nx s) (acc++[s])
   rw[za,List.length_singleton]at this;omega
theorem KF(x:Mo)(s):(x.path s).length<=x.m.sK.length+1:=by
 grind [qa1,Mo.path]
theorem UN{x N}(i:OkMa x N){p}(g:OkP x N p):∀ s,s∈x.path p.st->OkP x N ⟨s,p.env⟩:=fun s j=>by
 obtain⟨k,rfl⟩:=E8.qnE i.toOkX g.st j;exact⟨XJ i.toOkX g.st k,g.env⟩
theorem qnF(l:List Bool):l.all id=!decide (false∈l):=by
 rw[j0];simp
theorem qnG(l:List Bool):l.any id=decide (true∈l):=by
 rw[j0];simp
theorem f48(x N n a)(o:OkMa x N)(r:n.sD=[a])(P:IH x N n)(p)(J:OkP x N p)(hq:bd p n)(t:n.op=48):qZ qe 78 [eMa x,ePl p,eNd n] (endB (bX (mapX (fun s=>(den x a).F ⟨s,p.env⟩) (x.path p.st)) fun l => .ok (l.all id))):=by
 refine zi.of_sound ?_;refine qSW call78 func78 rfl {} ?_;have i:=zY x;have hN:=o.N1;have hl:=o.len;have C:=Ku x N o p.st J.st;have R:=KF x p.st;have I:WKs [eMa x,aI p.st] [eMa x,aI p.st] := .zk i (.zs .nil);have g:=qaR x (x.path p.st) zOm p a fun s T=>P a (by rw[r];simp) _ (UN o J s T) (by grind)
 have j:WKs [eMa x,lN (x.path p.st),ePl p,eNd a] [eMa x,lN (x.path p.st),ePl p,eNd a] := .zk i (.cons (cK _) (.zk (Uv p) (.zk (qL a) .nil)));simp[go_sem,t];refine fD [0,1,2,3,5,6,7,8,9,4,10,11,12,13] [(0,0,[]),(1,0,[]),(2,0,[]),(3,0,[]),(5,0,[]),(6,0,[]),(7,0,[]),(8,0,[]),(9,0,[]),(4,1,[5,7,9]),(10,1,[]),(11,1,[]),(12,0,[]),(13,0,[])] zKr zKr zSi ?_;simp[go_sem,r];refine cQ C I ?_;simp[go_sem,r];cases em:mapX (fun s=>(den x a).F ⟨s,p.env⟩) (x.path p.st) with
 |error e =>
  rw[em]at g;refine fZ g j ?_;simp[go_sem,zH];exact .hf _ (qR _)
 |ok l =>
  rw[em]at g;have U:l.length=(x.path p.st).length:=EK.KE em;refine fR g.toP j ?_;refine cQ (qaS l false zOm) (.zk (JW l) (.zs .nil)) ?_;have hb:(l.all id)=!decide (false∈l):=qnF l;generalize decide (false∈l)=B at *
  simp[go_sem,zC,hb];exact .zsc _
theorem f49(x N n a)(o:OkMa x N)(r:n.sD=[a])(P:IH x N n)(p)(J:OkP x N p)(hq:bd p n)(t:n.op=49):qZ qe 78 [eMa x,ePl p,eNd n] (endB (bX (mapX (fun s=>(den x a).F ⟨s,p.env⟩) (x.path p.st)) fun l => .ok (l.any id))):=by
 refine zi.of_sound ?_;refine qSW call78 func78 rfl {} ?_;have i:=zY x;have hN:=o.N1;have hl:=o.len;have C:=Ku x N o p.st J.st;have R:=KF x p.st;have I:WKs [eMa x,aI p.st] [eMa x,aI p.st] := .zk i (.zs .nil);have g:=qaR x (x.path p.st) zOm p a fun s T=>P a (by rw[r];simp) _ (UN o J s T) (by grind)
 have j:WKs [eMa x,lN (x.path p.st),ePl p,eNd a] [eMa x,lN (x.path p.st),ePl p,eNd a] := .zk i (.cons (cK _) (.zk (Uv p) (.zk (qL a) .nil)));simp[go_sem,t];refine fD [0,1,2,3,5,6,7,8,9,4,10,11,12] [(0,0,[]),(1,0,[]),(2,0,[]),(3,0,[]),(5,0,[]),(6,0,[]),(7,0,[]),(8,0,[]),(9,0,[]),(4,1,[5,7,9]),(10,1,[]),(11,1,[]),(12,0,[])] zKr zKr zSi ?_;simp[go_sem,r];refine cQ C I ?_;simp[go_sem,r];cases em:mapX (fun s=>(den x a).F ⟨s,p.env⟩) (x.path p.st) with
 |error e =>
  rw[em]at g;refine fZ g j ?_;simp[go_sem,zH];exact .hf _ (qR _)
 |ok l =>
  rw[em]at g;have U:l.length=(x.path p.st).length:=EK.KE em;refine fR g.toP j ?_;refine cQ (qaS l true zOm) (.zk (JW l) (.zs .nil)) ?_;have hb:(l.any id)=decide (true∈l):=qnG l;generalize decide (true∈l)=B at *
  simp[go_sem,zC,hb];exact .zsc _
theorem f50(x N n a)(g:OkMa x N)(j:n.sD=[a])(P:IH x N n)(p)(C:OkP x N p)(T:bd p n)(l:n.op=50):qZ qe 78 [eMa x,ePl p,eNd n] (endB ((den x a).F ⟨x.nx p.st,p.env⟩)):=by
 refine zi.of_sound ?_;refine qSW call78 func78 rfl {} ?_;have R:=zY x;have i:=(P a (by rw[j];simp) _ (OkP.nx g.toOkM C) (by grind)).F;have I:=wk3 x ⟨x.nx p.st,p.env⟩ a;have U:=g.N1;have hl:=g.len;have o:=XK x g.loop zOm p.st (zW1 C.st);have t:WKs [eMd x.m,aI p.st] [eMd x.m,aI p.st] := .zk (yx x.m) (.zs .nil);simp[go_sem,l];refine fD [0,1,2,3,4,5,6,8,9,11,12,13,14,7,10,15,16] [(0,0,[]),(1,0,[]),(2,0,[]),(3,0,[]),(4,0,[]),(5,0,[]),(6,0,[]),(8,0,[]),(9,0,[]),(11,0,[]),(12,0,[]),(13,0,[]),(14,0,[]),(7,1,[9,12,14]),(10,0,[]),(15,1,[]),(16,0,[])] zKr zKr zSi ?_;simp[go_sem,j];refine cQ o t ?_;simp[go_sem,j];cases J:(den x a).F ⟨x.nx p.st,p.env⟩ with
 |error e =>
  rw[J]at i;refine fZ i I ?_;simp[go_sem];exact .hf _ (qR _)
 |ok r =>
  rw[J]at i;refine fR i.toP I ?_;exact .zsc _
theorem f51(x N n a b)(g:OkMa x N)(i:n.sD=[a,b])(o:IH x N n)(p)(j:OkP x N p)(R:bd p n)(l:n.op=51):qZ qe 78 [eMa x,ePl p,eNd n] (endB (untX (fun s=>(den x a).F ⟨s,p.env⟩) (fun s=>(den x b).F ⟨s,p.env⟩) (x.path p.st) false false)):=by
 refine zi.of_sound ?_;refine qSW call78 func78 rfl {} ?_;have J:=zY x;have T:=g.N1;have U:=g.len;have P:=KF x p.st;have t:=qmU x N n a b g i p j (fun s C=>⟨o a (by rw[i];simp) _ (UN g j s C) (by grind),o b (by rw[i];simp) _ (UN g j s C) (by grind)⟩) zOm;have I:=wk3 x p n;generalize untX (fun s=>(den x a).F ⟨s,p.env⟩) (fun s=>(den x b).F ⟨s,p.env⟩) (x.path p.st) false false=E at *
 simp[go_sem,l];cases E with
 |error e =>
  refine fZ t I ?_;simp[go_sem];exact .hf _ (qR _)
 |ok r =>
  refine fR t.toP I ?_;exact .zsc _
theorem f47(x N n)(hM:OkMa x N)(a0:n.sD.length<=1000000)(ih:IH x N n)(p)(hp:OkP x N p)(hq:bd p n)(J:n.op=47):qZ qe 78 [eMa x,ePl p,eNd n] (endB (bX (mapX (fun d:Den=>d.E p) (n.sD.map (den x))) fun _ => .error 45)):=by
 refine zi.of_sound ?_;refine qSW call78 func78 rfl {} ?_;have a1:=zY x;generalize T:mapX (fun d:Den=>d.E p) (n.sD.map (den x))=E;simp[go_sem,J];refine kL n.sD.length (fun k U=>∃ t,mapX (fun d:Den=>d.E p) ((n.sD.take k).map (den x)) = .ok t/\U.tm 0=eMa x/\U.tm 4 = .ip (cPl p)/\U.tm 282=lNd n.sD/\U.tm 283=aI n.sD.length/\U.tm 284=aI k) ?_ ?_
 .exact ⟨[],rfl,zSi,zSi,zSi,zSi,zSi⟩
 rintro k U hk ⟨t,C,e0,e4,o,g,i⟩;by_cases j:k<n.sD.length
 .have w1:=zWk k
  have I:=(ih n.sD[k] (qs j) p hp zOm).E;have hw:=wk3 x p n.sD[k];have l:=ZX (l2:=(n.sD.drop k).map (den x)) C;rw[<-zb,vF,zp j,zQ,mapX,T]at l;simp[go_sem,e0,e4,o,g,i,j];cases P:(den x n.sD[k]).E p with
  |error e =>
   rw[P]at I l;rw[zH,zH]at l;subst l;refine fZ I hw ?_;simp[go_sem,zH];exact .hf _ (qR _)
  |ok r =>
   rw[P]at I;refine cQ I.toP hw ?_;simp[go_sem,i,w1];refine⟨j,aK ⟨t++[r],?_,zS1 e0,zS1 e4,by simp[go_sem,o],by simp[go_sem,g],zSi⟩⟩;rw[yj j,zb,ZX C,zQ,List.map_nil,mapX,P];rfl
 .have R:k=n.sD.length:=by omega
  subst R;rw[qP,T]at C;subst C;rw[zC];simp[go_sem,g,i];refine fZ (wq 45) (wkI 45) ?_;simp[go_sem];exact .hf _ (qR _)
theorem fNo(x n p)(h:∀ k,(30<=k/\k<=51)->n.op≠k):qZ qe 78 [eMa x,ePl p,eNd n] (endB (.error 43)):=by
 refine zi.of_sound ?_;refine qSW call78 func78 rfl {} ?_;have a8:=zY x;have g:=h 30 zDe;have i:=h 31 zDe;have j:=h 32 zDe;have l:=h 33 zDe;have o:=h 34 zDe;have r:=h 35 zDe;have t:=h 36 zDe;have C:=h 37 zDe;have I:=h 38 zDe;have J:=h 39 zDe;have P:=h 40 zDe;have R:=h 41 zDe;have T:=h 42 zDe;have U:=h 43 zDe;have a0:=h 44 zDe;have a1:=h 45 zDe;have a2:=h 46 zDe;have a3:=h 47 zDe;have a4:=h 48 zDe;have a5:=h 49 zDe;have a6:=h 50 zDe;have a7:=h 51 zDe;simp[go_sem,g,i,j,l,o,r,t,C,I,J,P,R,T,U,a0,a1,a2,a3,a4,a5,a6,a7];refine fZ (wq 43) (wkI 43) ?_;simp[go_sem];exact .hf _ (qR _)
end F9
namespace FA
open Y1 Y9 P2 E3 EA F1 F2 F3 F4 F7 F8 F9
theorem yW{f:Nat}{l A E}(h:qZ qe f l (endB A))(e:A=E):qZ qe f l (endB E):=e ▸ h
theorem qnH(x N n)(i:WfN n)(j:OkMa x N)(l:IH x N n)(p)(o:OkP x N p)(r:bd p n) :
  qZ qe 78 [eMa x,ePl p,eNd n] (endB ((den x n).F p)):=by
 rw[Us];show qZ _ _ _ (endB (opF x n.op n.name (n.sD.map (den x)) p));by_cases t:n.op=30
 .exact yW (f30 x N n i j l p o r t) (by rw[t];rfl)
 by_cases C:n.op=31
 .exact yW (f31 x N n i j l p o r C) (by rw[C];rfl)
 by_cases I:n.op=32
 .obtain ⟨a,b,g⟩:=jw i zOm
  exact yW (f32 x N n a b j g l p o r I) (by rw[I,g];rfl)
 by_cases J:n.op=33
 .obtain ⟨a,b,g⟩:=jw i zOm
  exact yW (f33 x N n a b j g l p o r J) (by rw[J,g];rfl)
 by_cases P:n.op=34
 .obtain ⟨a,g⟩:=v8 i zOm
  exact yW (f34 x N n a j g l p o r _ (.inl ⟨P,rfl⟩)) (by rw[P,g];rfl)
 by_cases R:n.op=35
 .obtain ⟨a,g⟩:=v8 i zOm
  exact yW (f34 x N n a j g l p o r _ (.inr (.inl ⟨R,rfl⟩))) (by rw[R,g];rfl)
 by_cases T:n.op=36
 .obtain ⟨a,g⟩:=v8 i zOm
  exact yW (f34 x N n a j g l p o r _ (.inr (.inr (.inl ⟨T,rfl⟩)))) (by rw[T,g];rfl)
 by_cases U:n.op=37
 .obtain ⟨a,g⟩:=v8 i zOm
  exact yW (f34 x N n a j g l p o r _ (.inr (.inr (.inr ⟨U,rfl⟩)))) (by rw[U,g];rfl)
 by_cases a0:n.op=38
 .obtain ⟨a,b,g⟩:=jw i zOm
  exact yW (f38 x N n a b j g l p o r _ (.inl ⟨a0,rfl⟩)) (by rw[a0,g];rfl)
 by_cases a1:n.op=39
 .obtain ⟨a,b,g⟩:=jw i zOm
  exact yW (f38 x N n a b j g l p o r _ (.inr ⟨a1,rfl⟩)) (by rw[a1,g];rfl)
 by_cases a2:n.op=40
 .obtain ⟨a,g⟩:=v8 i zOm
  exact yW (f40 x N n a j g l p o r a2) (by rw[a2,g];rfl)
 by_cases a3:n.op=41
 .obtain ⟨a,b,g⟩:=jw i zOm
  exact yW (f41 x N n a b j g l p o r _ (.inl ⟨a3,rfl⟩)) (by rw[a3,g];rfl)
 by_cases a4:n.op=42
 .obtain ⟨a,b,g⟩:=jw i zOm
  exact yW (f41 x N n a b j g l p o r _ (.inr (.inl ⟨a4,rfl⟩))) (by rw[a4,g];rfl)
 by_cases a5:n.op=43
 .obtain ⟨a,b,g⟩:=jw i zOm
  exact yW (f41 x N n a b j g l p o r _ (.inr (.inr (.inl ⟨a5,rfl⟩)))) (by rw[a5,g];rfl)
 by_cases a6:n.op=44
 .obtain ⟨a,b,g⟩:=jw i zOm
  exact yW (f41 x N n a b j g l p o r _ (.inr (.inr (.inr ⟨a6,rfl⟩)))) (by rw[a6,g];rfl)
 by_cases a7:n.op=45
 .obtain ⟨a,b,g⟩:=jw i zOm
  exact yW (f45 x N n a b j g l p o r a7) (by rw[a7,g];rfl)
 by_cases a8:n.op=46
 .obtain ⟨a,b,g⟩:=jw i zOm
  exact yW (f46 x N n a b j g l p o r a8) (by rw[a8,g];rfl)
 by_cases a9:n.op=47
 .exact yW (f47 x N n j (zW1 i.small.len) l p o r a9) (by rw[a9];rfl)
 by_cases aa:n.op=48
 .obtain ⟨a,g⟩:=v8 i zOm
  exact yW (f48 x N n a j g l p o r aa) (by rw[aa,g];rfl)
 by_cases ab:n.op=49
 .obtain ⟨a,g⟩:=v8 i zOm
  exact yW (f49 x N n a j g l p o r ab) (by rw[ab,g];rfl)
 by_cases ad:n.op=50
 .obtain ⟨a,g⟩:=v8 i zOm
  exact yW (f50 x N n a j g l p o r ad) (by rw[ad,g];rfl)
 by_cases ae:n.op=51
 .obtain ⟨a,b,g⟩:=jw i zOm
  exact yW (f51 x N n a b j g l p o r ae) (by rw[ae,g];rfl)
 refine yW (fNo x n p fun k g e=>?_) ?_
 .omega
 simp_all[opF,if_neg]
theorem evX(x N)(j:OkMa x N):∀ m n,szN n<=m->WfN n->∀ p,OkP x N p->bd p n->Ev3 x p n
 | 0,n,I,_,_,_,_=>by
  obtain⟨op,nm,i,ks,q⟩:=n;simp only[szN,Nd.mk.sizeOf_spec]at I;omega
 |m+1,n,I,l,p,g,o=>by
  have t:IH x N n:=fun k C p g o=>evX x N j m k (zW1 (yw C)) (l.kid C) p g (by have:=qmL C;show _+_<=_;omega)
  exact⟨exprX x N n l j t p g o,qmV x N n l j t p g o,qnH x N n l j t p g o,fun r h=>qaM j.toOkM _ n (qr _) l p r g h⟩
end FA
namespace FB
open Y1 Y9 P2 YF E3 EA F1 F2 F3 FA
def outB:XE Bool->AV
 | .ok r => .tup [aB r,aI 0]
 | .error e => .tup [aB false,aI e]
theorem wkM(x:Mo):WKs [eTS x.ts,eMd x.m] [eTS x.ts,eMd x.m] := .zk (zn x.ts) (.zk (yx x.m) .nil)
theorem qnI(x N n)(o:WfN n)(i:OkMa x N)(p)(t:OkP x N p)(C:bd p n) :
  qi qe 35 [eTS x.ts,eMd x.m,aI p.st,lPm p.env,eNd n] (outB ((den x n).F p)):=by
 have hf:=(evX x N i (szN n) n (qr _) o p t C).F;have j:=wk3 x p n;generalize (den x n).F p=E at *
 refine qZ.toP ?_;refine zi.of_sound ?_;refine fL call35 func35 rfl (Nat.le_of_ble_eq_true zKr) zKr (pl:={}) ?_;simp[go_sem];refine tS (g:=76) (first:=[]) (caps:=[]) zSi call76 ?_;simp[go_sem];refine qj.tail 7 zKr ?_;simp[go_sem];refine fR (qj8 x i.gsc) (wkM x) ?_;cases E with
 |error e =>
  refine fZ hf j ?_;simp[go_sem];refine y6.mono (qkA [.arr [aI 0]] 0 0 e rfl) ?_;rintro _ rfl;simp[go_sem];exact .hf _ (HF.tup (by simp only[qy,qH,or_false,forall_eq_or_imp,forall_eq];exact⟨HF.sc _,HF.sc _⟩))
 |ok r =>
  refine fR hf.toP j ?_;refine y6.mono (qj9 [.arr [aI 0]] 0 0 rfl) ?_;rintro _ rfl;simp[go_sem];exact .hf _ (HF.tup (by simp only[qy,qH,or_false,forall_eq_or_imp,forall_eq];exact⟨HF.sc _,HF.sc _⟩))
end FB
namespace FC
open Y1 P2 YF E3 EO EP F1 F2 F3 F4 F6 F8 FB
def fmV:XE Bool->Bool×Int
 | .ok v=>(v,0)
 | .error e=>(false,e)
theorem qnJ(q):outB q = .tup [aB (fmV q).1,aI (fmV q).2]:=by cases q<;>rfl
def Zn(I:Nd->Nd×Int)(x:Mo):List Nd->Bool->Bool×Int
 | [],a=>(a,0)
 |b :: l,a=>if (I b).2≠0 then (false,(I b).2) else if (fmV ((den x (I b).1).F ⟨0,[]⟩)).2≠0 then (false,(fmV ((den x (I b).1).F ⟨0,[]⟩)).2) else Zn I x l (a&&(fmV ((den x (I b).1).F ⟨0,[]⟩)).1)
theorem Vb(xs:List Nd):zm 5 (xs.map cNd):=fun r g=>by
 obtain⟨n,_,rfl⟩:=qn.1 g;exact⟨by cases n;rfl,Yp n⟩
theorem put6(a n):putCells [aS ⟨#[]⟩,aI 0,aS ⟨#[]⟩,aI 0,.lst true [],aI 0] 0 (aS a :: cNd n)=aS a :: cNd n:=by cases n;rfl
theorem qnK(x N)(hM:OkMa x N)(hN:0<N)(I n)(hl:x.ts.sP.length<=1000)(hI:∀ b,b∈x.ts.sP.map Prod.snd++[n]->qi qe 34 [eTS x.ts,eNd b] (.tup [eNd (I b).1,aI (I b).2])/\((I b).2=0->WfN (I b).1/\dN (I b).1<=999999)) :
  qi qe 10 [eTS x.ts,eMd x.m,eNd n] (.tup [aB (Zn I x (x.ts.sP.map Prod.snd++[n]) true).1,aI (Zn I x (x.ts.sP.map Prod.snd++[n]) true).2]):=by
 generalize hR:Zn I x (x.ts.sP.map Prod.snd++[n]) true=R;refine qSU call10 func10 rfl ?_;refine kL x.ts.sP.length (fun k U=>U.tm 3 = .ip (cTS x.ts)/\U.tm 4 = .ip (cMd x.m)/\U.tm 5 = .ip (cNd n)/\U.tm 8=aB true/\U.tm 18=lFa x.ts.sP/\U.tm 19=aI x.ts.sP.length/\U.tm 20=aI k/\Own U.mu 5 (U.tm 9) (((x.ts.sP.take k).map Prod.snd).map cNd)) ?_ ?_
 .exact ⟨zSi,zSi,zSi,zSi,zSi,zSi,zSi,.inl zSi⟩
 rintro k U hk ⟨e3,e4,e5,e8,P,o,p,ho⟩;by_cases l:k<x.ts.sP.length
 .have w1:=zWk k
  simp[go_sem,P,o,p,l,put6];refine qz.ownB (e:=35) (sz:=5) (bt:=64) (zv := .agg [aI 0,aS ⟨#[]⟩,aI 0,.lst true [],aI 0]) (xs:=((x.ts.sP.take k).map Prod.snd).map cNd) (ys:=[cNd x.ts.sP[k].2]) zSi zSi zSi rfl rfl zOm zOm (Own.push ho _) (by simp[qD]) (Vb _) (Vb [_]) zSo ?_;intro a0 j t _ _ _;simp[go_sem,p,l,w1];refine aK ⟨zS1 e3,zS1 e4,zS1 e5,zS1 e8,zS1 P,zS1 o,zSi,?_⟩;rw[yj l,zb,zb];simpa[go_sem] using t
 .have C:k=x.ts.sP.length:=by omega
  subst C;rw[qP]at ho;simp[go_sem,e5,o,p];refine qz.ownB (e:=35) (sz:=5) (bt:=64) (zv := .agg [aI 0,aS ⟨#[]⟩,aI 0,.lst true [],aI 0]) (xs:=(x.ts.sP.map Prod.snd).map cNd) (ys:=[cNd n]) zSi zSi zSi rfl rfl zOm zOm ho (by simp[qD]) (Vb _) (Vb [_]) zSo ?_;intro a0 j t _ _ _;have a1:Own j 5 a0 ((x.ts.sP.map Prod.snd++[n]).map cNd):=by rw[zb];exact t
  have a5:(x.ts.sP.map Prod.snd++[n]).length<=1001:=zSo;generalize x.ts.sP.map Prod.snd++[n]=L at *
  simp[go_sem];refine cL (aI L.length) (by rcases a1 with h|⟨b,h,_⟩<;>rw[h]<;>simp) ?_;simp[go_sem];refine qm.fz ?_;refine FzQ.ownB (d:=33) zSi a1 (Vb L) (fun r hr c hc=>?_) fun a6 full _ _=>?_
  .obtain ⟨b,_,rfl⟩:=qn.1 hr
   exact vJ b c hc
  refine kL L.length (fun k U=>∃ a,U.tm 3 = .ip (cTS x.ts)/\U.tm 4 = .ip (cMd x.m)/\U.tm 8=aB a/\U.tm 33 = .lst full (L.map cNd)/\U.tm 34=aI L.length/\U.tm 35=aI k/\Zn I x (L.drop k) a=R) ?_ ?_
  .exact ⟨true,zS1 e3,zS1 e4,zS1 e8,zSi,zSi,zSi,hR⟩
  rintro k U hk ⟨a,f3,f4,f8,f33,f34,f35,hV⟩;by_cases l:k<L.length
  .have w1:=zWk k
   obtain⟨hi,a3⟩:=hI L[k] (qs l);rw[zp l,Zn]at hV;have wi:WKs [eTS x.ts,eNd L[k]] [eTS x.ts,eNd L[k]] := .zk (zn _) (.zk (qL _) .nil);simp[go_sem,f3,f33,f34,f35,l];refine cQ hi wi ?_;generalize a7:I L[k]=ib at *
   obtain⟨b',e'⟩:=ib;by_cases he:e'=0
   .subst he
    obtain⟨a4,a2⟩:=a3 rfl;replace a2:dN b'<=999999:=a2;rw[if_neg zSp]at hV;have hf:=qnI x N b' a4 hM ⟨0,[]⟩ ⟨hN,zSp⟩ (by show 0+_<=_;omega);have wf:WKs [eTS x.ts,eMd x.m,aI (0:Nat),.lst true [],eNd b'] [eTS x.ts,eMd x.m,aI (0:Nat),lPm [],eNd b'] := .zk (zn _) (.zk (yx _) (.zs (.cons (WK.lst fun r hr=>absurd hr qH) (.zk (qL _) .nil))));rw[qnJ]at hf;simp only at hV;generalize fmV ((den x b').F ⟨0,[]⟩)=q at *
    obtain⟨v,e2⟩:=q;simp[go_sem,f3,f4];refine cQ hf wf ?_;by_cases J:e2=0
    .subst J
     rw[if_neg zSp]at hV;cases a<;>cases v
     all_goals simp[go_sem,f8,f35,l,w1]
     all_goals exact aK ⟨_,zS1 f3,zS1 f4,zSi,by simp[go_sem,f33],by simp[go_sem,f34],zSi,hV⟩
    .rw [if_pos J]at hV
     subst hV;simp[go_sem,J];exact .hf _ (HF.tup (by simp only[qy,qH,or_false,forall_eq_or_imp,forall_eq];exact⟨HF.sc _,HF.sc _⟩))
   .rw [if_pos he]at hV
    subst hV;simp[go_sem,he];exact .hf _ (HF.tup (by simp only[qy,qH,or_false,forall_eq_or_imp,forall_eq];exact⟨HF.sc _,HF.sc _⟩))
  .have C:k=L.length:=by omega
   subst C;rw[zZ,Zn]at hV;subst hV;simp[go_sem,f8,f34,f35];exact .hf _ (HF.tup (by simp only[qy,qH,or_false,forall_eq_or_imp,forall_eq];exact⟨HF.sc _,HF.sc _⟩))
end FC
namespace FD
open Y1 Y9 Q4 F2
theorem qnL{ks m}(h:∀ k,k∈ks->dN k<=m):dNs ks<=m:=by
 induction ks with
 |nil=>simp[dNs]
 |cons a l g =>
  simp only[dNs];have:=h a zSp;have:=g fun k i=>h k (zP1 i)
  omega
theorem qa2:∀ m n g,szN n<=m->forN n g=true->(dN n:Int)<=g
 | 0,n,g,l,_=>by
  obtain⟨op,nm,i,ks,q⟩:=n;simp only[szN,Nd.mk.sizeOf_spec]at l;omega
 |m+1,n,g,l,h=>by
  rw[J8]at h;split at h
  .cases h
  .simp only[qI]at h
   have o:=Ks h.2.2;have:dNs n.sD<=(g-1).toNat:=qnL fun k j=>by
    have:=qa2 m k (g-1) (zW1 (yw j)) (o k j);omega
   rw[qaN];omega
theorem qnM{n}(h:zd n=true):dN n<=24:=by
 simp only[zd,qI]at h;have:=qa2 (szN n) n 24 (qr _) h.2;omega
theorem qa3:∀ x,(∀ a,a∈x->0<=a)->0<=sumI x:=fun x g=>by
 induction x with
 |nil=>simp[sumI]
 |cons a x i =>
  have o:=g a zSp;have j:=i fun b l=>g b (zP1 l)
  simp only[sumI,List.foldr_cons]at j⊢;omega
theorem qnN:∀ l i,(∀ a,a∈l->0<=a)->i<l.length->0<=gI l i/\0<=sumI (l.take i)/\sumI (l.take i)+gI l i<=sumI l:=fun l i h g=>by
 have e:sumI l=sumI (l.take (i+1))+sumI (l.drop (i+1)):=by rw[<-nq,vF]
 rw[uJ l i g]at e;rw[uI g];have p:=qa3 (l.drop (i+1)) fun a j=>h a (List.mem_of_mem_drop j)
 have o:=qa3 (l.take i) fun a j=>h a (jD j)
 exact⟨h _ (qs g),o,zOm⟩
end FD
namespace GF
open E1 EO EQ EW F4 GD
abbrev rP(p:Int×Int):List AV:=[aI p.1,aI p.2]
abbrev lP(ps:List (Int×Int)):AV := .lst false (ps.map rP)
theorem Vc(xs:List (Int×Int)):zm 2 (xs.map rP):=fun r g=>by
 obtain⟨n,_,rfl⟩:=qn.1 g;exact⟨rfl,rfl⟩
abbrev eBd(b:Bd):AV := .agg (cBd b)
theorem KG(b):∀ c,c∈cBd b->HF c:=by
 intro c g;simp at g;rcases g with rfl|rfl|rfl|rfl
 .exact HF.sc _
 .exact zh _
 .exact HF.sc _
 .exact zh _
theorem qa4(b):HF (eBd b):=HF.agg (KG b)
theorem qnO(x):qi qe 162 [eBd x] (.fn (.func 201) [] [.ip (cBd x)]):=by
 refine qSU call162 func162 rfl ?_;refine .hf _ (HF.fn (fun c g=>by simp at g) (fun c g=>?_))
 grind [HF.ip,KG]
def uT(x:Bd):List Int:=x.up.ts.filter fun t=>!decide (t∈x.lo.ts)
theorem qnP{J:Type}(p)(l:List J)(k h)(g:p l[k]=true):(l.filter p)[((l.take k).filter p).length]?=some l[k]:=by
 have e:l=l.take k++l[k] :: l.drop (k+1):=by
  rw[<-zp h,vF]
 have i:l.filter p=(l.take k).filter p++l[k] :: (l.drop (k+1)).filter p:=by
  conv=>lhs;rw[e]
  rw[List.filter_append,List.filter_cons,if_pos g]
 rw[i,zJ (qr _)];simp
theorem qnQ{J:Type}(p)(l:List J)(k h):((l.take (k+1)).filter p).length=((l.take k).filter p).length+(if p l[k]=true then 1 else 0):=by
 rw[List.take_add_one,qA h,List.filter_append];cases g:p l[k]<;>simp[g]
theorem qnR(x)(hl:x.up.ts.length<=1000000000)(R:x.lo.ts.length<=1000000000)(hs:x.lo.ts.Pairwise (·<=·)):jd qe 201 [.ip (cBd x)] ((uT x).map fun t=>[aI t]):=by
 refine jd.of call201 fun i I Ix hS hX hY C h0=>?_
 refine qSW call201 func201 rfl {} ?_;simp[go_sem];refine cZ (fun m U=>∃ k,m=x.up.ts.length-k/\k<=x.up.ts.length/\U.tm 0 = .yl i/\U.tm 1 = .ip (cBd x)/\U.tm 9=lI x.up.ts/\U.tm 10=aI x.up.ts.length/\U.tm 11=aI (k:Nat)/\I ((x.up.ts.take k).filter fun t=>!decide (t∈x.lo.ts)).length U.mu) x.up.ts.length ?_ ?_
 .exact ⟨0,zOm,zOm,zSi,zSi,zSi,zSi,zSi,zVs h0⟩
 rintro m U ⟨k,rfl,hk,T,e1,e9,o,p,P⟩;by_cases r:k<x.up.ts.length
 .simp [go_sem,e1,e9,o,p,r]
  refine cQ (binU x.lo.ts x.up.ts[k] R hs) (.zk (zh _) (.zs .nil)) ?_;have g:=qnQ (fun t=>!decide (t∈x.lo.ts)) x.up.ts k r;by_cases l:x.up.ts[k]∈x.lo.ts
  .simp [go_sem,p,l]
   rw[if_neg (zUs l),Nat.add_zero]at g;refine Keep.loop (x.up.ts.length-(k+1)) zOm ⟨k+1,rfl,zOm,zS1 T,zS1 e1,zS1 e9,zS1 o,?_,?_⟩
   .simp [go_sem];exact zWr
   .rw [g];simpa[go_sem] using P
  .simp [go_sem,T,l]
   rw[if_pos (zUs l)]at g;have J:((uT x).map fun t=>[aI t])[((x.up.ts.take k).filter fun t=>!decide (t∈x.lo.ts)).length]?=some [aI x.up.ts[k]]:=by
    rw[zj,uT,qnP _ _ k r (zUs l)];rfl
   refine qh.yield (hY _ _ _ J P) ?_;rintro b j (⟨rfl,a0⟩|⟨rfl,a1⟩)
   .simp [go_sem,p]
    refine Keep.loop (x.up.ts.length-(k+1)) zOm ⟨k+1,rfl,zOm,zS1 T,zS1 e1,zS1 e9,zS1 o,?_,?_⟩
    .simp [go_sem];exact zWr
    .rw [g];simpa[go_sem] using a0
   .simp [go_sem]
    exact .inr a1
 .have a2:k=x.up.ts.length:=by omega
  subst a2;rw[qP]at P;simp[go_sem,o,p];exact .inl P
def jk(k:Nat)(x:Bd):List (Int×Int):=(uT x).map fun t=>((k:Int),t)
def qQ:List Bd->Nat->List (Int×Int)
 | [],_=>[]
 |x :: l,k=>jk k x++qQ l (k+1)
theorem qa5:∀ l m k,qQ (l++m) k=qQ l k++qQ m (k+l.length)
 | [],m,k=>by simp[qQ]
 |x :: l,m,k=>by
  rw[yT,qQ,qQ,qa5 l m (k+1),zt];have:k+1+l.length=k+(x :: l).length:=zSo;rw[this]
theorem qa6(l:List Bd)(k h):qQ (l.take (k+1)) 0=qQ (l.take k) 0++jk k l[k]:=by
 rw[List.take_add_one,qA h];show qQ (l.take k++[l[k]]) 0=_;rw[qa5];have:(l.take k).length=k:=zSo;rw[this,yf];simp[qQ]
structure Zo (x:Bd):Prop where
 up:x.up.ts.length<=1000000
 lo:x.lo.ts.length<=1000000
 sorted:x.lo.ts.Pairwise (·<=·)
theorem UO:∀ l k,(∀ x,x∈l->Zo x)->(qQ l k).length<=l.length*1000000
 | [],k,_=>by simp[qQ]
 |x :: l,k,h=>by
  have i:=UO l (k+1) (fun y g=>h y (zP1 g));have j:(jk k x).length<=1000000:=by
   rw[jk,zF];exact zL (List.length_filter_le _ _) (h x zSp).up
  simp only[qQ,za,zu];omega
theorem cA{mu av xs}(h:Own mu 2 av (xs.map rP)):Rd mu av (lP xs):=
 h.rd (Vc xs).ok fun r i c g=>by
  obtain⟨n,_,rfl⟩:=qn.1 i;simp at g;rcases g with rfl|rfl<;>exact HF.sc _
theorem freeU(l)(hl:l.length<=1000)(hb:∀ x,x∈l->Zo x):qi qe 109 [lBd l] (lP (qQ l 0)):=by
 refine qSU call109 func109 rfl ?_;refine cZ (fun m U=>∃ k C p,m=l.length-k/\k<=l.length/\U.tm 3 = .ptr 0 0/\U.tm 7=lBd l/\U.tm 8=aI l.length/\U.tm 9=aI (k:Nat)/\U.mu = .arr [C] :: p/\Own U.mu 2 C ((qQ (l.take k) 0).map rP)/\qo C≠some 0) l.length ?_ ?_
 .refine ⟨0,.lst true [],[],zOm,zOm,zSi,zSi,zSi,zSi,zSi,?_,by simp[qo]⟩
  simp[go_sem,qQ];exact .inl rfl
 rintro m U ⟨k,C,p,rfl,hk,e3,e7,e8,e9,hm,ho,aa⟩;by_cases R:k<l.length
 .have hx:=hb _ (qs R)
  have af:(qQ (l.take (k+1)) 0).length<=1000000000:=by
   grind [UO,jD,Nat.mul_le_mul_right]
  have a0:=qa6 l k R;rw[hm]at ho;have ab:qo C≠some (p.length+1):=fun h=>by have:=Own.lt ho h;simp at this
  simp[go_sem,e7,e8,e9,hm,R];refine fR (qnO l[k]) (.zk (qa4 _) .nil) ?_;refine tK (qnR l[k] (zW1 hx.up) (zW1 hx.lo) hx.sorted) (fun j M=>∃ C o,M = .arr [C] :: o/\M[p.length+1]?=some (.arr [aI k])/\Own M 2 C ((qQ (l.take k) 0++(jk k l[k]).take j).map rP)/\qo C≠some 0/\qo C≠some (p.length+1)) (fun _ _=>False) ?_ ?_ ?_ ?_ ?_ ?_
  .refine ⟨C,_,by simp only[qC,yT];rfl,zSi,?_,aa,ab⟩
   have:=Own.push ho [Cell.arr [aI k],Cell.arr (cBd l[k]),.dead];simp_all[go_sem]
  .rintro j M ⟨C,o,rfl,h1,h2,h3,h4⟩
   exact⟨C,o++[.dead],rfl,by grind,Own.push h2 _,h3,h4⟩
  .grind
  .rintro j x M hj ⟨C,o,rfl,h1,h2,h3,h4⟩
   rw[zj,jN]at hj;obtain⟨t,ht,rfl⟩:=hj;have ag:j<(uT l[k]).length:=(qk.1 ht).1;have ah:(jk k l[k]).take (j+1)=(jk k l[k]).take j++[((k:Int),t)]:=by
    rw[List.take_add_one];have:(jk k l[k])[j]?=some ((k:Int),t):=by rw[jk,zj,ht];rfl
    rw[this];rfl
   have ai:(qQ (l.take k) 0++(jk k l[k]).take j).length<=1000000000:=by
    grind
   refine⟨rfl,?_⟩;have ad:=(qk.1 h1).1;have a3:=h1;simp at a3;simp[go_sem,e3,a3];refine qz.ownB (e:=120) (sz:=2) (bt:=16) (zv := .agg [aI 0,aI 0]) (xs:=(qQ (l.take k) 0++(jk k l[k]).take j).map rP) (ys:=[rP ((k:Int),t)]) zSi zSi zSi rfl rfl zOm zOm h2 (by simp[qD]) (Vc _) (Vc [((k:Int),t)]) (by grind) ?_;intro J a4 a1 a5 aj ak;have ae:=a5 0 zSp h3;have a6:=a5 (p.length+1) ad h4;rw[h1]at a6;obtain⟨I,rfl⟩:∃ I,a4 = .arr [C] :: I:=by
    cases a4 with
    |nil=>simp at ae
    |cons c r=>grind
   have P:qo J≠some 0:=fun h=>by grind
   have a7:qo J≠some (p.length+1):=fun h=>by grind
   have a8:=Own.set a1 (i:=0) (.arr [J]) P;have a9:(qQ (l.take k) 0++(jk k l[k]).take j).map rP++[rP ((k:Int),t)]=(qQ (l.take k) 0++(jk k l[k]).take (j+1)).map rP:=by
    grind
   rw[a9]at a8;simp[go_sem,e3,Own.one a1,Own.cells a1];exact tT ⟨J,I,rfl,zUs a6,zUs a8,P,a7⟩
  .rintro M ⟨C,o,rfl,h1,h2,h3,h4⟩
   have a2:(jk k l[k]).take ((uT l[k]).map fun t=>[aI t]).length=jk k l[k]:=by
    simp_all[zF,zV,jk,qr]
   rw[a2,<-a0]at h2;simp[go_sem,e9];refine Keep.loop (l.length-(k+1)) zOm ⟨k+1,C,o,rfl,zOm,zS1 e3,zS1 e7,zS1 e8,?_,zSi,zVs h2,h3⟩;simp[go_sem];grind [zW]
  grind
 .have al:k=l.length:=by omega
  simp_all[go_sem,qP,cA]
end GF
namespace GH
open P1 YF E3 EO EQ ER EW F1 F4 GF GG
abbrev lMd(l:List Md):AV := .lst false (l.map cMd)
theorem YQ(xs:List Md):zm 4 (xs.map cMd):=fun r g=>by
 obtain⟨n,_,rfl⟩:=qn.1 g;exact⟨rfl,rfl⟩
theorem KH:∀ r c x,x∈subL c r->∀ y,y∈x->y∈c\/y∈r
 | [],c,x,h,y,g=>by grind [subL,qV]
 |z :: r,c,x,h,y,g=>by
  rw[subL,qK]at h;rcases h with h|h
  .rcases KH r c x h y g with h|h
   .exact .inl h
   .exact .inr (zP1 h)
  .rcases KH r _ x h y g with h|h
   .rcases qK.1 h with h|h
    .exact .inl h
    .rw [qV]at h;subst h;exact .inr zSp
   .exact .inr (zP1 h)
def vK(inst:Nat->List (List AV)->Md)(cs:List (List AV))(k:Nat):List Md:=(qu k).flatMap fun s=>(subL [] cs).map (inst s)
theorem qa7(inst cs k):vK inst cs (k+1)=vK inst cs k++(subL [] cs).map (inst k):=by
 unfold vK;rw[List.range_succ,List.flatMap_append];simp
theorem KI(inst cs):∀ k,(vK inst cs k).length=k*(subL [] cs).length
 | 0=>by simp[vK]
 |k+1=>by rw[qa7,za,KI inst cs k,zF,Nat.succ_mul]
theorem cP{mu av xs}(h:Own mu 4 av (xs.map cMd)):Rd mu av (lMd xs):=
 h.rd (YQ xs).ok fun r i c g=>by
  obtain⟨n,_,rfl⟩:=qn.1 i;simp at g;rcases g with rfl|rfl|rfl|rfl<;>first|exact HF.sc _|exact zh _|exact ZT _
theorem qnS(ts)(sc:Sc)(bs cs inst)(S:Nat)(hS:sc.sN=S)(ax:S<=4)(hr:Qm cs)(hl:cs.length<=14)(aq:S*(subL [] cs).length<=1000000)
  (ay:S*2 ^ cs.length<=16384)
  (R:qi qe 55 [eTS ts,eSc sc] (aB true)) (J:qi qe 63 [eTS ts,eSc sc,lBd bs] (aB true)) (h3:qi qe 64 [eTS ts,eSc sc,lBd bs] (.lst false cs))
  (hi:∀ k,k<S->∀ c,c∈subL [] cs->qi qe 66 [eTS ts,eSc sc,lBd bs,aI (k:Nat),.lst false c] (eMd (inst k c))):qi qe 33 [eTS ts,eSc sc,lBd bs] (.tup [lMd (vK inst cs S),aI 0]):=by
 refine qSU call33 func33 rfl ?_;refine fR R (.zk (zn _) (.zk (zr _) .nil)) ?_;refine fR J (.zk (zn _) (.zk (zr _) (.zk (jr _) .nil))) ?_;refine cQ h3 (.zk (zn _) (.zk (zr _) (.zk (jr _) .nil))) ?_;have ag:¬(14:Int)<cs.length:=zOm;have n0:¬(cs.length:Int)<0:=zOm;have o:min cs.length 64=cs.length:=zOm;have ar:(S:Int)*2 ^ cs.length<=16384:=by grind
 have au:(0:Int)<=(S:Int)*2 ^ cs.length:=by exact_mod_cast Nat.zero_le _
 have ah:qp.wrap ((S:Int)*2 ^ cs.length)=(S:Int)*2 ^ cs.length:=zWr;have ai:¬(16384:Int)<(S:Int)*2 ^ cs.length:=zOm;simp[go_sem,ag,hS,n0,o,ah,ai];refine cZ (fun m U=>∃ k t p,m=S-k/\k<=S/\U.tm 3 = .ip (cTS ts)/\U.tm 4 = .ip [lI sc.sC,aI sc.sN]/\U.tm 5 = .ip [lBd bs]/\U.tm 8 = .lst false cs/\U.tm 9 = .ptr 0 0/\U.tm 39=aI S/\U.tm 40=aI (k:Nat)/\U.mu = .arr [t] :: p/\Own U.mu 4 t ((vK inst cs k).map cMd)/\qo t≠some 0) S ?_ ?_
 .refine ⟨0,.lst true [],[],zOm,zOm,zSi,zS1 hS,zSi,zSi,zSi,zSi,zSi,zSi,?_,by simp[qo]⟩
  simp[go_sem,vK];exact .inl rfl
 rintro m U ⟨k,t,p,rfl,hk,e3,e4,e5,e8,e9,a0,a1,hm,ho,aj⟩;by_cases a6:k<S
 .have az:=KI inst cs (k+1)
  have aw:=Nat.mul_le_mul_right (subL [] cs).length (show k+1<=S by omega);have a2:=qa7 inst cs k;rw[hm]at ho;have ak:qo t≠some (p.length+1):=fun h=>by have:=Own.lt ho h;simp at this
  simp[go_sem,e8,a0,a1,hm,a6];refine fR (qm3 cs hr) (.zk (HF.lst fun r a3 x hx=>(hr r a3).2.2 x hx) .nil) ?_;refine tK (qm2 cs hr zOm) (fun j M=>∃ t l,M = .arr [t] :: l/\M[p.length+1]?=some (.arr [aI k])/\Own M 4 t ((vK inst cs k++((subL [] cs).map (inst k)).take j).map cMd)/\qo t≠some 0/\qo t≠some (p.length+1)) (fun _ _=>False) ?_ ?_ ?_ ?_ ?_ ?_
  .refine ⟨t,_,by simp only[qC,yT];rfl,zSi,?_,aj,ak⟩
   have:=Own.push ho [Cell.arr [aI k],.dead];simp_all[go_sem]
  .rintro j M ⟨t,l,rfl,R,J,h3,h4⟩
   exact⟨t,l++[.dead],rfl,by grind,Own.push J _,h3,h4⟩
  .grind
  .rintro j x M hj ⟨t,l,rfl,R,J,h3,h4⟩
   rw[zj,jN]at hj;obtain⟨c,hc,rfl⟩:=hj;have b0:j<(subL [] cs).length:=(qk.1 hc).1;have a7:c∈subL [] cs:=q8 hc;have b1:((subL [] cs).map (inst k)).take (j+1)=((subL [] cs).map (inst k)).take j++[inst k c]:=by
    rw[List.take_add_one];have:((subL [] cs).map (inst k))[j]?=some (inst k c):=by rw[zj,hc];rfl
    rw[this];rfl
   refine⟨rfl,?_⟩;have al:=(qk.1 R).1;have a8:=R;simp at a8;simp[go_sem];refine cH zKr ?_;simp[go_sem,e3,e4,e5,e9,a8];refine cQ (hi k a6 c a7) (.zk (zn _) (.zk (zr _) (.zk (jr _) (.zs (.zk (HF.lst ?_) .nil))))) ?_
   .exact fun r a3 x hx=>(hr r (by rcases KH cs [] c a7 r a3 with h|h;exact absurd h zSp;exact h)).2.2 x hx
   simp[go_sem];refine qz.ownB (e:=43) (sz:=4) (bt:=64) (zv := .agg [.lst true [],aI 0,.lst true [],aI 0]) (xs:=vK inst cs k++((subL [] cs).map (inst k)).take j |>.map cMd) (ys:=[cMd (inst k c)]) zSi zSi zSi rfl rfl zOm zOm J (by simp[qD]) (YQ _) (YQ [inst k c]) ?_ ?_
   .grind
   intro I a9 a4 aa b2 b3;have an:=aa 0 zSp h3;have ab:=aa (p.length+1) al h4;rw[R]at ab;obtain⟨C,rfl⟩:∃ C,a9 = .arr [t] :: C:=by
    cases a9 with
    |nil=>simp at an
    |cons c r=>grind
   have P:qo I≠some 0:=fun h=>by grind
   have ad:qo I≠some (p.length+1):=fun h=>by grind
   have ae:=Own.set a4 (i:=0) (.arr [I]) P;have af:(vK inst cs k++((subL [] cs).map (inst k)).take j).map cMd++[cMd (inst k c)]=(vK inst cs k++((subL [] cs).map (inst k)).take (j+1)).map cMd:=by
    grind
   rw[af]at ae;simp[go_sem,e9,Own.one a4,Own.cells a4];exact tT ⟨I,C,rfl,zUs ab,zUs ae,P,ad⟩
  .rintro M ⟨t,l,rfl,R,J,h3,h4⟩
   have a5:((subL [] cs).map (inst k)).take ((subL [] cs).map fun c=>[AV.lst false c]).length=(subL [] cs).map (inst k):=by
    rw[zF,zV zSp]
   rw[a5,<-a2]at J;simp[go_sem,a1];refine Keep.loop (S-(k+1)) zOm ⟨k+1,t,l,rfl,zOm,zS1 e3,zS1 e4,zS1 e5,zS1 e8,zS1 e9,zS1 a0,?_,zSi,zVs J,h3⟩;simp[go_sem];grind [zW]
  grind
 .have ao:k=S:=by omega
  subst ao;rw[hm]at ho;simp[go_sem,e9,a0,a1,hm];refine .tup _ _ rfl fun j x y hx hy=>?_
  match j with
  | 0=>grind [cP]
  | 1=>simp at hx hy;subst hx;subst hy;exact .zsc _
  |j+2=>simp at hx
end GH
namespace GU
open YF P1 E1 E3 EO EQ F4 GF GH GR GS
abbrev Ch:=Int×Int×Int
abbrev rC(c:Ch):List AV:=[aI c.1,aI c.2.1,aI c.2.2]
theorem uU(l:List Ch):zm 3 (l.map rC):=fun r g=>by
 obtain⟨n,_,rfl⟩:=qn.1 g;exact⟨rfl,rfl⟩
abbrev lCh(l:List Ch):AV := .lst false (l.map rC)
def chA(g:List Bool)(s:Nat)(i:List (Int×Int)):List Ch:=(i.filter fun p=>decide (s=0)||g.getD p.1.toNat true).map fun p=>((s:Int),p.1,p.2)
def chs(g:List Bool)(i:List (Int×Int))(k:Nat):List Ch:=(qu k).flatMap fun s=>chA g s i
theorem UP(g i k):chs g i (k+1)=chs g i k++chA g k i:=by
 rw[chs,List.range_succ,List.flatMap_append];simp[chs]
theorem KJ(i s)(g:List (Int×Int))(j h):chA i s (g.take (j+1))=chA i s (g.take j)++(if (decide (s=0)||i.getD g[j].1.toNat true)=true then [((s:Int),g[j].1,g[j].2)] else []):=by
 rw[vO h,chA,List.filter_append,zb];by_cases l:(decide (s=0)||i.getD g[j].1.toNat true)=true
 .rw [if_pos l,show [g[j]].filter (fun p=>decide (s=0)||i.getD p.1.toNat true)=[g[j]] from List.filter_cons_of_pos (p:=fun p:Int×Int=>decide (s=0)||i.getD p.1.toNat true) l];rfl
 .rw [if_neg l,show [g[j]].filter (fun p=>decide (s=0)||i.getD p.1.toNat true)=[] from List.filter_cons_of_neg (p:=fun p:Int×Int=>decide (s=0)||i.getD p.1.toNat true) l];rfl
theorem UQ(i s g):(chA i s g).length<=g.length:=by
 rw[chA,zF];grind
theorem UR(i g):∀ k,(chs i g k).length<=k*g.length
 | 0=>by simp[chs]
 |k+1=>by
  rw[UP,za,Nat.succ_mul];have:=UR i g k;have:=UQ i k g;omega
theorem KL:∀ g k,∀ p,p∈qQ g k->(k:Int)<=p.1/\p.1<(k+g.length:Nat)
 | [],k,p,h=>by simp[qQ]at h
 |b :: g,k,p,h=>by
  simp only[qQ,qK]at h;rcases h with h|h
  .simp only[jk,qn]at h
   obtain⟨t,_,rfl⟩:=h;simp;omega
  .have:=KL g (k+1) p h
   simp only[zu];omega
theorem qnT(ts)(sc:Sc)(p)(N:Nat)(hS:sc.sN=N)(hN:N<=4)(hl:p.length<=1000)(hb:∀ x,x∈p->Zo x)(ag:p.length<=ts.sA.length)(a9:(qQ p 0).length<=100000) :
  qi qe 64 [eTS ts,eSc sc,lBd p] (lCh (chs (vsT ts) (qQ p 0) N)):=by
 have P:=freeU p hl hb;have ah:=UO p 0 hb;have a1:=KL p 0;generalize hF:qQ p 0=F at *
 refine qSV call64 func64 rfl ?_;simp[go_sem,hS];refine kL N (fun k U=>U.tm 2=lBd p/\U.tm 3 = .ip (cTS ts)/\U.tm 12=aI N/\U.tm 13=aI k/\Own U.mu 3 (U.tm 7) ((chs (vsT ts) F k).map rC)) ?_ ?_
 .exact ⟨zSi,zSi,zSi,zSi,.inl (by simp[go_sem,chs])⟩
 rintro k U hk ⟨e2,e3,l,o,ho⟩;by_cases a2:k<N
 .have w1:=zWk k
  have ai:=UR (vsT ts) F k;have ae:k*F.length<=4*100000:=Nat.mul_le_mul zOm a9;simp[go_sem,e2,l,o,a2];refine fR P (.zk (jr _) .nil) ?_;refine kL F.length (fun j st2=>st2.tm 2=lBd p/\st2.tm 3 = .ip (cTS ts)/\st2.tm 12=aI N/\st2.tm 13=aI k/\st2.tm 8=aI k/\st2.tm 17=lP F/\st2.tm 18=aI F.length/\st2.tm 19=aI j/\Own st2.mu 3 (st2.tm 7) ((chs (vsT ts) F k++chA (vsT ts) k (F.take j)).map rC)) ?_ ?_
  .simp_all [go_sem,chA]
  clear e2 e3 l o;rintro j st2 hj ⟨e2,e3,l,o,e8,a3,R,a4,t⟩;by_cases C:j<F.length
  .have w2:=zWk j
   have hm:=a1 _ (qs C);obtain⟨f,hf⟩:=Int.eq_ofNat_of_zero_le (show 0<=F[j].1 by omega);have a5:f<ts.sA.length:=zOm;have aa:0<=F[j].1:=zOm;have ab:F[j].1.toNat=f:=zOm;have a6:F[j].1<ts.sA.length:=zOm;have ad:(vsT ts).getD F[j].1.toNat true=ts.sA[f].var:=by grind
   have aj:=UQ (vsT ts) k (F.take j);have ak:=List.length_take_le j F;have hs:=KJ (vsT ts) k F j C;rw[ad]at hs;have af:∀(K:AV->Mu->Prop)(c:Cell),(∀ a7 a8,Own a8 3 a7 ((chs (vsT ts) F k++(chA (vsT ts) k (F.take j)++[((k:Int),F[j].1,F[j].2)])).map rC)->K a7 a8)->qz qe (st2.mu++[c]) #[127,127] (st2.tm 7) (.lst true [[aI k,aI F[j].1,aI F[j].2]]) K:=fun K c hK=>by
    refine qz.ownB (e:=192) (sz:=3) (bt:=24) (zv := .agg [aI 0,aI 0,aI 0]) (xs:=(chs (vsT ts) F k++chA (vsT ts) k (F.take j)).map rC) (ys:=[rC ((k:Int),F[j].1,F[j].2)]) zSi zSi zSi rfl rfl zOm zOm (Own.push t _) (by simp[qD]) (uU _) (uU [_]) zSo ?_
    grind
   by_cases J:(decide (k=0)||ts.sA[f].var)=true
   .rw [if_pos J]at hs
    by_cases I:k=0
    .simp_all [go_sem,aK]
    .have hv:ts.sA[f].var=true:=by simpa[I] using J
     simp_all[go_sem,aK]
   .rw [if_neg J,zO]at hs
    have I:¬k=0:=fun h=>J (zP1 h)
    have hv:ts.sA[f].var=false:=by simpa[I] using J
    simp[go_sem,e3,e8,a3,R,a4,C,I,aa,ab,a6,a5,hv,w2]
    try refine⟨C,aK ?_⟩
    try refine aK ?_
    refine⟨zS1 e2,zS1 e3,zS1 l,zS1 o,zS1 e8,zS1 a3,zS1 R,zSi,?_⟩;rw[hs];simpa[go_sem] using Own.push t _
  .have a0:j=F.length:=by omega
   subst a0;rw[qP]at t;simp[go_sem,o,R,a4,w1]
   try refine⟨a2,aK ?_⟩
   try refine aK ?_
   refine⟨zS1 e2,zS1 e3,zS1 l,zSi,?_⟩;rw[UP];simpa[go_sem] using t
 .have a0:k=N:=by omega
  subst a0;simp[go_sem,l,o];exact Own.rd ho (uU _).ok fun r hr c J=>by
   obtain⟨n,_,rfl⟩:=qn.1 hr;simp at J;rcases J with rfl|rfl|rfl<;>exact HF.sc _
def selT(g:List Ch)(s f:Nat):List Int:=(g.filter fun c:Ch=>decide (c.1=(s:Int))&&decide (c.2.1=(f:Int))).map fun c=>c.2.2
def uV(g:List Ch)(s f:Nat)(b:Bd):Rl:=unR b.lo ⟨b.lo.ar,selT g s f⟩
def vg(i:List Bool)(j:List Bd)(g:List Ch)(s:Nat):List Rl:=j.mapIdx fun f b=>if s≠0/\i.getD f true=false then uV g 0 f b else uV g s f b
theorem YR(i g j s):(vg i g j s).length=g.length:=by simp[vg]
theorem Vd(j g i s f h l):(vg j g i s)[f]=if s≠0/\j.getD f true=false then uV i 0 f g[f] else uV i s f g[f]:=by simp[vg]
theorem qnU(g:List Ch)(s f i h):selT (g.take (i+1)) s f=selT (g.take i) s f++(if g[i].1=s/\g[i].2.1=f then [g[i].2.2] else []):=by
 rw[vO h,selT,List.filter_append,zb];by_cases j:g[i].1=s/\g[i].2.1=f
 .rw [if_pos j,show [g[i]].filter (fun c:Ch=>decide (c.1=(s:Int))&&decide (c.2.1=(f:Int)))=[g[i]] from List.filter_cons_of_pos (p:=fun c:Ch=>decide (c.1=(s:Int))&&decide (c.2.1=(f:Int))) (zUs j)];rfl
 .rw [if_neg j,show [g[i]].filter (fun c:Ch=>decide (c.1=(s:Int))&&decide (c.2.1=(f:Int)))=[] from List.filter_cons_of_neg (p:=fun c:Ch=>decide (c.1=(s:Int))&&decide (c.2.1=(f:Int))) (zUs j)];rfl
theorem qa8(g s f):(selT g s f).length<=g.length:=by rw[selT,zF];exact List.length_filter_le ..
abbrev zR:List AV:=[aI 0,.lst true []]
def jl(L:List Rl)(n j:Nat):List (List AV):=(L.take j).map cRel++qO (n-j) zR
theorem qa9(L n j)(g:L.length=n)(h:j<=n):(jl L n j).length=n:=by grind [jl]
theorem qbA(L n j):yM 2 (jl L n j):=fun r g=>by
 simp only[jl,qK,qn,List.mem_replicate]at g;rcases g with ⟨q,_,rfl⟩|⟨_,rfl⟩<;>rfl
theorem qnV(L n j)(i:L.length=n)(h:j<n):(jl L n j).set j (cRel (L[j]' zOm))=jl L n (j+1):=by
 unfold jl;have g:((L.take j).map cRel).length=j:=zSo;rw[List.set_append_right _ _ zOm,g,Nat.sub_self,show n-j=n-(j+1)+1 by omega,List.replicate_succ,List.set_cons_zero,vO (show j<L.length by omega),zb,zt];rfl
theorem qnW(L n)(g:L.length=n):jl L n n=L.map cRel:=by
 unfold jl;rw[<-g,qP,Nat.sub_self];simp
structure qbB (b:Bd):Prop where
 l:b.lo.ts.length<=50000
def jL(sc:Sc)(g:List Bool)(i:List Bd)(j:List Ch)(N:Nat)(loop:Int):Md:=⟨sc,(qu N).map (vg g i j),loop⟩
theorem qnX(ts)(sc:Sc)(o p loop)(N:Nat)(hS:sc.sN=N)(hN:N<=4)(hl:o.length<=1000)(hb:∀ x,x∈o->qbB x)(dc:o.length<=ts.sA.length)(dd:p.length<=50000) :
  qi qe 66 [eTS ts,eSc sc,lBd o,aI loop,lCh p] (eMd (jL sc (vsT ts) o p N loop)):=by
 have bj:eMd (jL sc (vsT ts) o p N loop) = .agg [lI sc.sC,aI N,lSt ((qu N).map (vg (vsT ts) o p)),aI loop]:=by rw[<-hS];rfl
 rw[bj];have a0:=YR (vsT ts) o p;have bk:=Vd (vsT ts) o p;clear bj;generalize hA:vg (vsT ts) o p=A at a0 bk⊢;refine qSV call66 func66 rfl ?_;simp[go_sem,hS];refine kL N (fun k U=>U.tm 2=lBd o/\U.tm 4=lCh p/\U.tm 5 = .ip (cTS ts)/\U.tm 10 = .ptr 0 0/\U.tm 11 = .ptr 1 0/\U.tm 23=aI N/\U.tm 24=aI k /\
  ∃ s,U.mu[0]?=some (.arr [.lst true [],aI 0,.lst true [],aI 0])/\U.mu[1]?=some (.arr [lI sc.sC,aI N,s,aI loop])/\Own U.mu 1 s (((qu k).map A).map fun r=>[lRel r])/\∀ b,qo s=some b->2<=b) ?_ ?_
 .exact ⟨zSi,zSi,zSi,zSi,zSi,zSi,zSi,.lst true [],zSi,zSi,.inl zSp,by simp[qo]⟩
 rintro k U hk ⟨e2,e4,e5,ck,cl,bm,bn,s,h0,h1,ho,bb⟩;have cm:=(qk.1 h0).1;have de:=(qk.1 h1).1;by_cases bo:k<N
 .have w1:=zWk k
  have cn:(o.length:Int)<=4294967296:=zOm;simp[go_sem,e2,bm,bn,bo,cn];have bq:∀ b,qo s=some b->b<U.mu.length:=fun b h=>Own.lt ho h
  have df:2<=U.mu.length:=zOm;have dh:(qO o.length [AV.sc (Value.int qp 0),AV.lst true []]).flatten=(jl (A k) o.length 0).flatten:=by simp[jl]
  generalize hR:U.mu.length=R at *
  refine kL o.length (fun j st2=>st2.tm 2=lBd o/\st2.tm 4=lCh p/\st2.tm 5 = .ip (cTS ts)/\st2.tm 10 = .ptr 0 0/\st2.tm 11 = .ptr 1 0/\st2.tm 23=aI N/\st2.tm 24=aI k/\st2.tm 12=aI k/\st2.tm 13 = .sl R 2 0 o.length/\st2.tm 30=lBd o/\st2.tm 31=aI o.length/\st2.tm 32=aI j /\
   st2.mu[R]?=some (.arr (jl (A k) o.length j).flatten)/\∀ i,i<R->st2.mu[i]?=U.mu[i]?) ?_ ?_
  .simp_all [go_sem]
  rintro j st2 hj ⟨f2,f4,f5,f10,f11,f23,f24,f12,f13,f30,f31,f32,an,J⟩;have cp:R<st2.mu.length:=(qk.1 an).1;have b7:st2.mu[1]?=some (.arr [lI sc.sC,aI N,s,aI loop]):=by grind
  by_cases C:j<o.length
  .have w2:=zWk j
   have bc:j<ts.sA.length:=zOm;have cq:(vsT ts).getD j true=ts.sA[j].var:=by rw[List.getD_eq_getElem?_getD,zj,qA bc];rfl
   have ao:(jl (A k) o.length j).flatten.length=o.length*2:=by rw[yL (qbA _ _ _),qa9 _ _ _ (a0 k) zOm]
   have a3:∀ s,j<(A s).length:=fun s=>by grind
   have a9:(jl (A k) o.length j).flatten.take (j*2)++aI ((A k)[j]'(a3 k)).ar :: lI ((A k)[j]'(a3 k)).ts :: (jl (A k) o.length j).flatten.drop (j*2+2)=(jl (A k) o.length (j+1)).flatten:=by
    rw[<-qnV (A k) o.length j (a0 k) C,Jq _ j _ (qbA _ _ _) rfl (by grind [qa9]),jb _ _ _ (by rw[ao];simp only[cRel,zu,List.length_nil];omega)];simp
   have b8:∀ c,(st2.mu++[c])[R]?=some (.arr (jl (A k) o.length j).flatten):=fun c=>by grind
   simp[go_sem,f12,f30,f31,f32,C];by_cases be:k≠0/\ts.sA[j].var=false
   .obtain ⟨bg,hv⟩:=be
    have a2:0<k:=zOm;have aa:(A k)[j]'(a3 k)=(A 0)[j]'(a3 0):=by
     grind
    rw[aa]at a9;have bh:∀ c,(st2.mu++[c])[1]?=some (.arr [lI sc.sC,aI N,s,aI loop]):=fun c=>by grind
    have da:=a3 0;have cr:(((qu k).map A).map fun r=>[lRel r]).flatten[0]?=some (lRel (A 0)):=by
     obtain⟨k',rfl⟩:∃ k',k=k'+1:=⟨k-1,zOm⟩;rw[List.range_succ_eq_map];simp
    have cs:(((qu k).map A).map fun r=>[lRel r]).length=k:=zSp;generalize ab:(((qu k).map A).map fun r=>[lRel r])=rows at *
    have di:rows[0]?=some [lRel (A 0)]:=by
     rw[<-ab];obtain⟨k',rfl⟩:∃ k',k=k'+1:=⟨k-1,zOm⟩;simp
    have br:(rows.map List.length).sum=k:=by
     have:=yL (sz:=1) (xs:=rows) (by rw[<-ab];intro r hr;obtain⟨n,_,rfl⟩:=qn.1 hr;rfl);rw[List.length_flatten]at this;omega
    have bu:rows.flatten.take 1=[lRel (A 0)]:=by
     cases dj:rows.flatten with
     |nil=>grind
     |cons x l=>grind
    simp[go_sem,f5,f11,f13,a2,bc,hv,bh];rcases ho with rfl|⟨c,rfl,bv⟩
    .refine cL (.ip [lRel (A 0)]) (by grind) ?_
     simp[go_sem,C,b8,a0,ao];refine cL ((st2.mu++[Cell.arr (cBd o[j])]).set R (.arr (jl (A k) o.length (j+1)).flatten)) (by rw[if_pos zOm,a9]) ?_;simp[go_sem,f32,C,w2]
     try refine⟨C,aK ?_⟩
     try refine aK ?_
     refine⟨zS1 f2,zS1 f4,zS1 f5,zS1 f10,zS1 f11,zS1 f23,zS1 f24,zS1 f12,zS1 f13,by simp[go_sem,f30],by simp[go_sem,f31],zSi,?_,fun i hi=>?_⟩
     .simp only[qC];rw[qM zSo]
     grind [qC,yF,qN]
    .have dk:=(qk.1 bv).1
     have bw:∀ x,(st2.mu++[x])[c]?=some (.arr rows.flatten):=fun x=>by rw[zGa,J c zOm];exact bv
     simp[go_sem,a2,bw,cs];refine cL (lRel (A 0)) (by rw[br,if_pos zOm,bu];rfl) ?_;simp[go_sem,C,b8,a0,ao];refine cL ((st2.mu++[Cell.arr (cBd o[j])]).set R (.arr (jl (A k) o.length (j+1)).flatten)) (by rw[if_pos zOm,a9]) ?_;simp[go_sem,f32,C,w2]
     try refine⟨C,aK ?_⟩
     try refine aK ?_
     refine⟨zS1 f2,zS1 f4,zS1 f5,zS1 f10,zS1 f11,zS1 f23,zS1 f24,zS1 f12,zS1 f13,by simp[go_sem,f30],by simp[go_sem,f31],zSi,?_,fun i hi=>?_⟩
     .simp only[qC];rw[qM zSo]
     .simp only[qC];rw[zGl,zGa];exact J i hi
   .have aa:(A k)[j]'(a3 k)=uV p k j o[j]:=by
     rw[bk k j C,cq];by_cases bg:k=0
     .rw [if_neg (fun h=>h.1 bg)]
     .rw [if_neg (fun h=>be h)]
    rw[aa]at a9;have ct:0<k->ts.sA[j].var=true:=fun bg=>by
     cases hv:ts.sA[j].var with
     |true=>rfl
     |false=>exact absurd ⟨zOm,hv⟩ be
    generalize hX:st2.mu.length=X at *
    by_cases a2:0<k
    all_goals simp[go_sem,f4,f5,a2,bc,ct,hX]
    all_goals
     refine kL p.length (fun i st3=>st3.tm 2=lBd o/\st3.tm 4=lCh p/\st3.tm 5 = .ip (cTS ts)/\st3.tm 10 = .ptr 0 0/\st3.tm 11 = .ptr 1 0/\st3.tm 23=aI N/\st3.tm 24=aI k/\st3.tm 12=aI k/\st3.tm 13 = .sl R 2 0 o.length/\st3.tm 30=lBd o/\st3.tm 31=aI o.length/\st3.tm 32=aI j /\
      st3.tm 14=aI j/\st3.tm 15 = .ptr X 0/\st3.tm 16 = .ptr (X+1) 0/\st3.tm 62=lCh p/\st3.tm 63=aI p.length/\st3.tm 64=aI i/\st3.mu[X]?=some (.arr (cBd o[j]))/\(∀ i,i<X->st3.mu[i]?=st2.mu[i]?) /\
      ∃ t,st3.mu[X+1]?=some (.arr [aI o[j].lo.ar,t])/\Own st3.mu 1 t ((selT (p.take i) k j).map rI)/\∀ b,qo t=some b->X+1<b) ?_ ?_
     .refine ⟨zS1 f2,zS1 f4,zS1 f5,zS1 f10,zS1 f11,zS1 f23,zS1 f24,zS1 f12,zS1 f13,by simp[go_sem,f30],by simp[go_sem,f31],by simp[go_sem,f32],zSi,zSi,zSi,zSi,zSi,zSi,zS1 hX,fun i hi=>by simp[go_sem];rw[zGa],.lst true [],zS1 hX,.inl (by simp[selT]),by simp[qo]⟩
     rintro i st3 hi ⟨g2,g4,g5,aq,au,aw,ax,ad,ae,ay,az,b0,a4,b1,a5,b2,af,ag,ca,I,t,b3,ah,a6⟩;by_cases P:i<p.length
     .have w3:=zWk i
      have a7:=qnU p k j i P;have cb:=qa8 (p.take i) k j;have db:=List.length_take_le i p;have cc:=(qk.1 b3).1;have bi:∀ c,(st3.mu++[c])[X]?=some (.arr (cBd o[j])):=fun c=>by rw[zGa];exact ca
      have b4:∀ c,(st3.mu++[c])[X+1]?=some (.arr [aI o[j].lo.ar,t]):=fun c=>by rw[qN cc];exact b3
      have cd:qo t≠some (X+1):=fun h=>zW1 (a6 _ h)
      simp[go_sem,ad,b2,af,ag,P];by_cases ai:p[i].1=(k:Int)
      .by_cases b5:p[i].2.1=(j:Int)
       .rw [if_pos ⟨ai,b5⟩]at a7
        simp[go_sem,a4,a5,b4,ai,b5];refine qz.ownB (e:=3) (sz:=1) (bt:=8) (zv:=aI 0) (xs:=(selT (p.take i) k j).map rI) (ys:=[rI p[i].2.2]) zSi zSi zSi rfl rfl zOm zOm (Own.push ah _) (by simp[qD]) (yv _) (yv [_]) zSo ?_;intro aj ak a1 a8 b6 cu;have q1:ak[X+1]?=some (.arr [aI o[j].lo.ar,t]):=by rw[a8 _ zSo cd];exact b4 _
        have q0:ak[X]?=some (.arr (cBd o[j])):=by rw[a8 _ zSo (fun h=>zW1 (a6 _ h))];exact bi _
        have ql:=(qk.1 q1).1;have cf:∀ b,qo aj=some b->X+1<b:=fun b h=>by have:=b6 b h;simp at this;omega
        simp[go_sem,a5,ag,P,q1,w3,Own.one a1,Own.cells a1]
        try refine⟨P,aK ?_⟩
        try refine aK ?_
        refine⟨zS1 g2,zS1 g4,zS1 g5,zS1 aq,zS1 au,zS1 aw,zS1 ax,zS1 ad,zS1 ae,zS1 ay,zS1 az,zS1 b0,zS1 a4,zS1 b1,zS1 a5,zS1 b2,zS1 af,zSi,?_,fun i hi=>?_,aj,?_,?_,cf⟩
        .simp only[qC];rw[zGl];exact q0
        .simp only[qC];rw[zGl,a8 i zSo (fun h=>zW1 (a6 _ h)),zGa];exact I i hi
        .simp only[qC];exact qM ql
        .simp only[qC];rw[a7,zb];exact Own.set a1 _ (fun h=>zW1 (cf _ h))
       .rw [if_neg (fun h=>b5 h.2),zO]at a7
        simp[go_sem,a4,ag,P,ai,b5,w3]
        try refine⟨P,aK ?_⟩
        try refine aK ?_
        refine⟨zS1 g2,zS1 g4,zS1 g5,zS1 aq,zS1 au,zS1 aw,zS1 ax,zS1 ad,zS1 ae,zS1 ay,zS1 az,zS1 b0,zS1 a4,zS1 b1,zS1 a5,zS1 b2,zS1 af,zSi,?_,fun i hi=>?_,t,?_,?_,a6⟩
        .simp only[qC];exact bi _
        .simp only[qC];rw[zGa];exact I i hi
        .simp only[qC];exact b4 _
        .simp only[qC];rw[a7];exact Own.push ah _
      .rw [if_neg (fun h=>ai h.1),zO]at a7
       simp[go_sem,ag,P,ai,w3]
       try refine⟨P,aK ?_⟩
       try refine aK ?_
       refine⟨zS1 g2,zS1 g4,zS1 g5,zS1 aq,zS1 au,zS1 aw,zS1 ax,zS1 ad,zS1 ae,zS1 ay,zS1 az,zS1 b0,zS1 a4,zS1 b1,zS1 a5,zS1 b2,zS1 af,zSi,?_,fun i hi=>?_,t,?_,?_,a6⟩
       .simp only[qC];exact bi _
       .simp only[qC];rw[zGa];exact I i hi
       .simp only[qC];exact b4 _
       .simp only[qC];rw[a7];exact Own.push ah _
     .have al:i=p.length:=by omega
      subst al;rw[qP]at ah;simp[go_sem,ae,a4,b1,a5,af,ag,ca,b3];have cb:=qa8 p k j;have cv:=vB o[j].lo ⟨o[j].lo.ar,selT p k j⟩ (zW1 ((hb _ (qs C)).l)) (by show (selT p k j).length<=_;omega);have b9:∀ i,i<X->(cutM (fun i=>!decide (X<=i)) st3.mu 0)[i]?=st2.mu[i]?:=fun i hi=>by
       rw[jG,I i hi];simp only[yf,decide_eq_false (show ¬X<=i by omega),Bool.not_false,if_true];cases st2.mu[i]?<;>rfl
      refine fQ (qE.freeze (args1:=[eRel o[j].lo,eRel ⟨o[j].lo.ar,selT p k j⟩]) (fun i=>decide (X<=i)) ⟨.inl rfl,.inr ?_,trivial⟩ (qi.toSound _ cv (.zk (qY _) (.zk (qY _) .nil)))) ?_ ?_
      .exact Rd.aggs ⟨.hf _ (HF.sc _),Own.rd (YP ah fun b h=>zW1 (a6 b h)) (yv _).ok fun r hr c hc=>by
        obtain⟨n,_,rfl⟩:=qn.1 hr;simp at hc;subst hc;exact HF.sc _,trivial⟩
      .rintro r m ⟨h,rfl⟩
       cases h;have cg:(cutM (fun i=>!decide (X<=i)) st3.mu 0)[R]?=some (.arr (jl (A k) o.length j).flatten):=by rw[b9 R cp];exact an
       simp[go_sem,cg,C,ao];have dm:(cutM (fun i=>!decide (X<=i)) st3.mu 0).length=st3.mu.length:=jP _ _ _;have cc:=(qk.1 b3).1;refine cL ((cutM (fun i=>!decide (X<=i)) st3.mu 0).set R (.arr (jl (A k) o.length (j+1)).flatten)) (by rw[if_pos zOm];exact congrArg (fun l=>some ((cutM (fun i=>!decide (X<=i)) st3.mu 0).set R (Cell.arr l))) a9) ?_;simp[go_sem,b0,C,w2]
       try refine⟨C,aK ?_⟩
       try refine aK ?_
       refine⟨zS1 g2,zS1 g4,zS1 g5,zS1 aq,zS1 au,zS1 aw,zS1 ax,zS1 ad,zS1 ae,zS1 ay,zS1 az,zSi,?_,fun i hi=>?_⟩
       .simp only[qC];rw[qM zOm]
       .simp only[qC];rw[zGl,b9 i zOm];exact J i hi
      .rintro r m ⟨h,_⟩
       cases h
  .have al:j=o.length:=by omega
   subst al;rw[qnW _ _ (a0 k)]at an;have cx:Own st2.mu 2 (.sl R 2 0 o.length) ((A k).map cRel) := .inr ⟨R,zP1 a0,an⟩;simp[go_sem,f11,f13,f31,f32,b7];refine aQ (e:=93) (sz:=1) (bt:=24) (zv := .lst true []) (xs:=((qu k).map A).map fun r=>[lRel r]) [lRel (A k)] R zSi zSi zSi rfl rfl zOm zOm ?_ bq ?_ ?_ ?_ zSo ?_
   .rcases ho with h|⟨b,h,hc⟩
    .exact .inl h
    .exact .inr ⟨b,h,by rw[J b (bq b (by rw[h];rfl))];exact hc⟩
   .exact ⟨Own.rd (YP cx fun b h=>by cases h;exact qr _) (vI _).ok fun r hr c hc=>by
     obtain⟨n,_,rfl⟩:=qn.1 hr;exact ZK n c hc,trivial⟩
   .intro r hr
    obtain⟨n,_,rfl⟩:=qn.1 hr;exact⟨rfl,rfl⟩
   .intro r hr
    simp at hr;subst hr;exact⟨rfl,rfl⟩
   intro aj ak a1 a8 b6 cu dn;have g1:ak[1]?=some (.arr [lI sc.sC,aI N,s,aI loop]):=by rw[a8 1 zOm zOm (fun h=>zW1 (bb 1 h))];exact b7
   have g0:ak[0]?=some (.arr [.lst true [],aI 0,.lst true [],aI 0]):=by rw[a8 0 zOm zOm (fun h=>zW1 (bb 0 h)),J 0 zOm];exact h0
   have l1:=(qk.1 g1).1;simp[go_sem,f11,f24,g1,w1,Own.one a1,Own.cells a1]
   try refine⟨bo,aK ?_⟩
   try refine aK ?_
   refine⟨zS1 f2,zS1 f4,zS1 f5,zS1 f10,zS1 f11,zS1 f23,zSi,aj,zS1 g0,zS1 l1,?_,fun b h=>zW1 (b6 b h)⟩;rw[List.range_succ,zb,zb];simpa[go_sem] using Own.set a1 (.arr [lI sc.sC,aI N,aj,aI loop]) (fun h=>zW1 (b6 1 h))
 .have al:k=N:=by omega
  subst al;have cy:s.one=true:=Own.one ho;have dp:s.cells=[s]:=Own.cells ho;have cj:∀ c,(U.mu.set 0 c)[0]?=some c:=fun c=>qM cm
  simp[go_sem,ck,cl,bm,bn,h0,h1,cy,cj];have cz:=Own.set ho (i:=0) (.arr [lI sc.sC,aI k,s,aI loop]) (fun h=>zW1 (bb 0 h));refine Rd.aggs ⟨.hf _ (zh _),.hf _ (HF.sc _),?_,.hf _ (HF.sc _),trivial⟩;exact Own.rd cz (fun r hr=>by
   obtain⟨n,_,rfl⟩:=qn.1 hr;rfl) fun r hr c hc=>by
   obtain⟨n,_,rfl⟩:=qn.1 hr;simp at hc;subst hc;exact Qc n
end GU
namespace GY
open YF P1 E3 GF GG GH GS GU
section
variable {J:Type}
def subs:List J->List J->List (List J)
 |c,[]=>[c]
 |c,a :: r=>subs c r++subs (c++[a]) r
theorem US:∀(r c:List J),(subs c r).length=2 ^ r.length
 | [],c=>rfl
 |a :: r,c=>by rw[subs,za,US r,US r,zu,Nat.pow_succ];omega
theorem Ve:∀(r c x:List J),x∈subs c r↔∃ y,y.Sublist r/\x=c++y
 | [],c,x=>by simp[subs]
 |a :: r,c,x=>by
  rw[subs,qK,Ve r,Ve r];constructor
  .rintro (⟨y,h,rfl⟩|⟨y,h,rfl⟩)
   .grind
   simp_all
  .rintro ⟨y,h,rfl⟩
   cases h with
   |cons _ h=>grind
   |cons_cons _ h=>grind
theorem YT:∀ r c,subL (c.map rC) (r.map rC)=(subs c r).map (List.map rC)
 | [],c=>rfl
 |a :: r,c=>by
  rw[zQ,subL,subs,zb,YT r c,show c.map rC++[rC a]=(c++[a]).map rC by simp,YT r]
def deI:AV->Int
 | .sc (.int _ n)=>n
 |_=>0
def deC:List AV->Ch
 | [a,b,c]=>(deI a,deI b,deI c)
 |_=>(0,0,0)
theorem qbC(c:List Ch):(c.map rC).map deC=c:=by
 rw[List.map_map];exact(List.map_congr_left fun x _=>rfl).trans (List.map_id c)
def Qn(sc:Sc)(g:List Bool)(i:List Bd)(j:List Ch)(N:Nat):List Md:=(qu N).flatMap fun k:Nat=>(subs [] j).map fun c=>jL sc g i c N (k:Int)
theorem qbD(sc g i j N):vK (fun k c=>jL sc g i (c.map deC) N (k:Int)) (j.map rC) N=Qn sc g i j N:=by
 unfold vK Qn;congr 1;funext s;rw[show ([]:List (List AV))=([]:List Ch).map rC from rfl,YT,List.map_map];exact List.map_congr_left fun c _=>by simp only[Function.comp_apply,qbC]
theorem qnY(sc i j g N):(Qn sc i j g N).length=N*2 ^ g.length:=by
 rw[<-qbD,KI,show ([]:List (List AV))=([]:List Ch).map rC from rfl,YT,zF,US]
theorem UT{sc j l o N m}:m∈Qn sc j l o N↔∃(k:Nat) (c:List Ch),k<N/\c.Sublist o/\m=jL sc j l c N k:=by
 simp only[Qn,wQ,yb,qn];constructor
 .rintro ⟨k,g,c,i,rfl⟩
  obtain⟨y,p,rfl⟩:=(Ve _ _ _).1 i;exact⟨k,_,g,p,rfl⟩
 .rintro ⟨k,c,g,i,rfl⟩
  exact⟨k,g,c,(Ve _ _ _).2 ⟨c,i,rfl⟩,rfl⟩
theorem qnZ(l:List Ch):Qm (l.map rC):=fun r i=>by
 obtain⟨n,_,rfl⟩:=qn.1 i;exact⟨rfl,rfl,fun c g=>by simp at g;rcases g with rfl|rfl|rfl<;>exact HF.sc _⟩
theorem qn0(ts)(sc:Sc)(g)(N:Nat)(I:sc.sN=N)(J:N<=4)(T:g.length<=1000)(U:∀ x,x∈g->Zo x)(hi:∀ x,x∈g->qbB x)(j:g.length<=ts.sA.length)(l:(qQ g 0).length<=100000)
  (o:(chs (vsT ts) (qQ g 0) N).length<=14) (p:N*2 ^ (chs (vsT ts) (qQ g 0) N).length<=16384)
  (h1:qi qe 55 [eTS ts,eSc sc] (aB true)) (h2:qi qe 63 [eTS ts,eSc sc,lBd g] (aB true)) :
  qi qe 33 [eTS ts,eSc sc,lBd g] (.tup [lMd (Qn sc (vsT ts) g (chs (vsT ts) (qQ g 0) N) N),aI 0]):=by
 rw[<-qbD];generalize r:chs (vsT ts) (qQ g 0) N=i at *
 have P:=qnT ts sc g N I J T U j l;rw[r]at P;have t:(subL [] (i.map rC)).length=2 ^ i.length:=by
  rw[show ([]:List (List AV))=([]:List Ch).map rC from rfl,YT,zF,US]
 refine qnS ts sc g (i.map rC) _ N I J (qnZ i) (zUs o) (by rw[t];omega) (zUs p) h1 h2 P fun k hk c R=>?_
 rw[show ([]:List (List AV))=([]:List Ch).map rC from rfl,YT]at R;obtain⟨c',C,rfl⟩:=qn.1 R;obtain⟨y,hy,rfl⟩:=(Ve _ _ _).1 C;rw[qbC]
 grind [qnX]
end
end GY
namespace GN
open E3 E4 F1 GD
theorem qn1(xs ys C p)(hf:Yy qe C eRel (fun x y=>x∈xs/\y∈ys) p)(hl:xs.length<=1000000000) :
  qi qe 80 [lRel xs,lRel ys,C] (aB (y8 p xs ys)):=by
 refine qSU call80 func80 rfl ?_;by_cases g:xs.length=ys.length
 rotate_left
 .simp [go_sem,g,X1 p xs ys g]
  exact .zsc _
 simp[go_sem,g];refine qm.up xs.length (fun k U=>U.tm 1=lRel ys/\U.tm 2=C/\U.tm 15=lRel xs/\U.tm 16=aI xs.length/\U.tm 17=aI k/\y8 p (xs.drop k) (ys.drop k)=y8 p xs ys) ?_ ?_
 .simp [go_sem,g]
 rintro k U hk ⟨J,P,t,l,o,r⟩;by_cases j:k<xs.length
 .have i:k<ys.length:=by omega
  rw[mA p xs ys k j i]at r;simp[go_sem,J,P,t,l,o,j,i];refine Yy.call (enc:=eRel) hf ⟨qs j,qs i⟩ ?_;cases R:p xs[k] ys[k] with
  |true =>
   rw[R,Bool.true_and]at r;simp[go_sem,J,P,t,l,o,j];exact⟨zWr,r⟩
  |false =>
   rw[R,Bool.false_and]at r;simp[go_sem];rw[<-r];exact .zsc _
 .have I:k=xs.length:=by omega
  subst I;rw[zZ,g,zZ]at r;simp[go_sem,l,o];rw[<-r];exact .zsc _
theorem KM{J}[DecidableEq J]:∀(xs ys:List J),y8 (fun x y=>decide (x=y)) xs ys=decide (xs=ys)
 | [],[]=>rfl
 | [],_ :: _=>rfl
 |_ :: _,[]=>rfl
 |x :: xs,y :: ys=>by
  rw[y8,KM xs ys,j0];simp
theorem XU(xs ys)(i:xs.length<=1000000000)(j:∀ r,r∈xs->r.ts.length<=1000000000):qi qe 39 [lRel xs,lRel ys] (aB (decide (xs=ys))):=by
 refine qSU call39 func39 rfl ?_;refine cQ (qn1 xs ys _ (fun x y=>decide (x=y)) ⟨Yz _,_,_,rfl,fun x y g=>⟨[eRel x,eRel y],by simpa using WKs.zk (qY x) (.zk (qY y) .nil),XP x y (zW1 (j x g.1))⟩⟩ i) (.zk (Qc _) (.zk (Qc _) (.zk (Yz _) .nil))) ?_;rw[KM];simp[go_sem];exact .zsc _
structure smMd (m:Md):Prop where
 na:m.sc.sC.length<=1000000000
 ns:m.sK.length<=1000000000
 nf:∀ s,s∈m.sK->s.length<=1000000000
 nt:∀ s,s∈m.sK->∀ r,r∈s->r.ts.length<=1000000000
instance:DecidableEq Sc:=fun a b=>decidable_of_iff (a.sC=b.sC/\a.sN=b.sN) (by
 obtain⟨a1,a2⟩:=a;obtain⟨b1,b2⟩:=b;simp)
instance:DecidableEq Md:=fun a b=>decidable_of_iff (a.sc=b.sc/\a.sK=b.sK/\a.loop=b.loop) (by
 obtain⟨a1,a2,a3⟩:=a;obtain⟨b1,b2,b3⟩:=b;simp)
theorem qn2(a b:Md):decide (a=b)=(decide (a.sc.sC=b.sc.sC)&&decide (a.sc.sN=b.sc.sN)&&decide (a.loop=b.loop)&&decide (a.sK=b.sK)):=by
 obtain⟨⟨o,p⟩,r,t⟩:=a;obtain⟨⟨C,I⟩,J,P⟩:=b;rw[j0];simp;constructor
 .rintro ⟨⟨g,i⟩,j,l⟩;exact⟨⟨⟨g,i⟩,l⟩,j⟩
 .rintro ⟨⟨⟨g,i⟩,l⟩,j⟩;exact⟨⟨g,i⟩,j,l⟩
theorem KN(a b)(i:smMd a):qi qe 12 [eMd a,eMd b] (aB (decide (a=b))):=by
 refine qSV call12 func12 rfl ?_;rw[qn2];simp[go_sem];refine cQ (XN _ _ (zW1 i.na)) (.zk (zh _) (.zk (zh _) .nil)) ?_;by_cases j:a.sc.sC=b.sc.sC
 .by_cases l:a.sc.sN=b.sc.sN
  .by_cases o:a.loop=b.loop
   .simp [go_sem,j,l,o]
    refine cQ (mB a.sK b.sK _ (fun x y=>decide (x=y)) ⟨Yz _,_,_,rfl,fun x y g=>⟨[lRel x,lRel y],by simpa using WKs.zk (Qc x) (.zk (Qc y) .nil),XU x y (i.nf x g.1) (i.nt x g.1)⟩⟩ i.ns) (.zk (ZT _) (.zk (ZT _) (.zk (Yz _) .nil))) ?_;rw[KM];simp[go_sem];exact .zsc _
   .simp [go_sem,j,l,o]
    exact .zsc _
  .simp [go_sem,j,l]
   exact .zsc _
 .simp [go_sem,j]
  exact .zsc _
end GN
namespace GV
open Y1 YF P1 E3 E4 EO EQ F1 F4 GD GF GH GR GS
def modG(i:Md->Bool×Int):List Md->List Md->List Md×Int
 |g,[]=>(g,0)
 |g,m :: l=>if (i m).2≠0 then ([],(i m).2) else modG i (if (i m).1=true then g++[m] else g) l
def modV(i:Md->Bool×Int)(L:List Md)(g:Int):List Md×Int:=if g≠0 then ([],g) else modG i [] L
theorem qbE(l):HF (lMd l):=HF.lst fun r i c g=>by
 obtain⟨n,_,rfl⟩:=qn.1 i;simp at g;rcases g with rfl|rfl|rfl|rfl<;>first|exact HF.sc _|exact zh _|exact ZT _
theorem qn3(ts sc bs n L e0 I)(hl:L.length<=1000000)
  (hI:qi qe 33 [eTS ts,eSc sc,lBd bs] (.tup [lMd L,aI e0]))
  (hH:∀ m,m∈L->qi qe 10 [eTS ts,eMd m,eNd n] (.tup [aB (I m).1,aI (I m).2])) :
  qi qe 9 [eTS ts,eSc sc,lBd bs,eNd n] (.tup [lMd (modV I L e0).1,aI (modV I L e0).2]):=by
 refine qSU call9 func9 rfl ?_;refine cQ hI (.zk (zn _) (.zk (zr _) (.zk (jr _) .nil))) ?_;have a8:∀(l:List Md)(e:Int),HF (.tup [lMd l,aI e]):=fun l e=>HF.tup (by simp only[qy,qH,or_false,forall_eq_or_imp,forall_eq];exact⟨qbE _,HF.sc _⟩)
 have a2:∀(C:Mu)(e:Int),Rd C (.tup [.lst true [],aI e]) (.tup [lMd [],aI e]):=fun C e=>by
  refine .tup _ _ rfl fun j x y t P=>?_
  match j with
  | 0=>simp at t P;subst t;subst P;exact .wk _ true _ (.hf _ (HF.lst fun r hr=>by simp at hr))
  | 1=>simp at t P;subst t;subst P;exact .zsc _
  |j+2=>simp at t
 by_cases a4:e0=0
 case neg =>
  simp[go_sem,a4,modV];exact a2 _ _
 subst a4;have a5:modV I L 0=modG I [] L:=by simp[modV]
 rw[a5];generalize hR:modG I [] L=R;simp[go_sem];refine kL L.length (fun k U=>U.tm 4 = .ip (cTS ts)/\U.tm 5 = .ip [lI sc.sC,aI sc.sN]/\U.tm 7 = .ip (cNd n)/\U.tm 27=lMd L/\U.tm 28=aI L.length/\U.tm 29=aI k/\∃ o,modG I o (L.drop k)=R/\o.length<=k/\Own U.mu 4 (U.tm 12) (o.map cMd)) ?_ ?_
 .exact ⟨zSi,zSi,zSi,zSi,zSi,zSi,[],zUs hR,zSp,.inl zSi⟩
 rintro k U hk ⟨e4,e5,e7,a3,a0,a1,o,J,a9,ho⟩;by_cases p:k<L.length
 .have w1:=zWk k
  have hh:=hH _ (qs p);rw[zp p,modG]at J;simp[go_sem,e4,e7,a3,a0,a1,p];refine cQ hh (.zk (zn _) (.zk (yx _) (.zk (qL _) .nil))) ?_;by_cases he:(I L[k]).2=0
  case neg =>
   rw[if_pos he]at J;subst J;simp[go_sem,he];exact a2 _ _
  rw[if_neg (fun h=>h he)]at J;cases hb:(I L[k]).1 with
  |false =>
   rw[hb]at J;simp[go_sem,a1,p,he,w1]
   try refine⟨p,aK ?_⟩
   try refine aK ?_
   exact⟨zS1 e4,zS1 e5,zS1 e7,zS1 a3,zS1 a0,zSi,o,zUs J,zOm,by simpa[go_sem] using Own.push ho _⟩
  |true =>
   rw[hb,if_pos rfl]at J;simp[go_sem,he];refine qz.ownB (e:=43) (sz:=4) (bt:=64) (zv := .agg [.lst true [],aI 0,.lst true [],aI 0]) (xs:=o.map cMd) (ys:=[cMd L[k]]) zSi zSi zSi rfl rfl zOm zOm (Own.push ho _) (by simp[qD]) (YQ _) (YQ [_]) zSo ?_;intro aa ab a6 _ _ _;simp[go_sem,a1,p,w1]
   try refine⟨p,aK ?_⟩
   try refine aK ?_
   exact⟨zS1 e4,zS1 e5,zS1 e7,zS1 a3,zS1 a0,zSi,o++[L[k]],J,zSo,by rw[zb];simpa[go_sem] using a6⟩
 .have a7:k=L.length:=by omega
  subst a7;rw[zZ,modG]at J;subst J;simp[go_sem,a0,a1];refine .tup _ _ rfl fun j x y t P=>?_
  match j with
  | 0=>simp at t P;subst t;subst P;exact cP ho
  | 1=>simp at t P;subst t;subst P;exact .zsc _
  |j+2=>simp at t
def yQ(g:Md->Int):Md->List Md->Md
 |m,[]=>m
 |m,x :: l=>yQ g (if g x<g m then x else m) l
theorem bestU(p l fv g)(hl:l.length<=1000000)(hf:EO.FnOk qe fv eMd (fun m=>m∈p :: l) (fun m=>aI (g m))) :
  qi qe 62 [lMd (p :: l),fv] (.tup [eMd (yQ g p l),aI (g (yQ g p l))]):=by
 refine qSV call62 func62 rfl ?_;generalize hR:yQ g p l=R;simp[go_sem];refine fM ?_;refine FnOk.call (enc:=eMd) hf (zl ..) ?_;simp[go_sem];have a1:(l.map cMd).take l.length=l.map cMd:=zV zSp;refine⟨⟨_,_,⟨rfl,rfl⟩,(YQ (p :: l)).ok⟩,cL (lMd l) (by rw[if_pos zOm,a1]) ?_⟩;simp[go_sem];refine kL l.length (fun k U=>U.tm 1=fv/\U.tm 4 = .ptr 0 0/\U.tm 6 = .ptr 1 0/\U.tm 20=lMd l/\U.tm 21=aI l.length/\U.tm 22=aI k/\∃ b,b∈p :: l/\yQ g b (l.drop k)=R/\U.tm 7=aI (g b)/\U.mu[0]?=some (.arr [.lst true [],aI 0,.lst true [],aI 0])/\U.mu[1]?=some (.arr (cMd b))) ?_ ?_
 .exact ⟨zSi,zSi,zSi,zSi,zSi,zSi,p,zl ..,zUs hR,zSi,zSi,zSi⟩
 rintro k U hk ⟨e1,e4,J,r,j,o,b,a2,hB,P,h0,h1⟩;have a4:=(qk.1 h1).1;by_cases i:k<l.length
 .have w1:=zWk k
  rw[zp i,yQ]at hB;simp[go_sem,e1,r,j,o,i];refine FnOk.call (enc:=eMd) hf (zc _ (qs i)) ?_;have t:∀ c,(U.mu++[c])[0]?=some (.arr [.lst true [],aI 0,.lst true [],aI 0]):=fun c=>by rw[zGa];exact h0
  have C:∀ c,(U.mu++[c])[1]?=some (.arr (cMd b)):=fun c=>by rw[zGa];exact h1
  by_cases T:g l[k]<g b
  .rw [if_pos T]at hB
   simp[go_sem,J,o,P,i,T,C,w1]
   try refine⟨i,aK ?_⟩
   try refine aK ?_
   refine⟨zS1 e1,zS1 e4,zS1 J,zS1 r,zS1 j,zSi,l[k],zc _ (qs i),hB,zSi,?_,?_⟩
   .simp only[qC];rw[zGl];exact t _
   .simp only[qC];rw[qM zSo]
  .rw [if_neg T]at hB
   simp[go_sem,o,P,i,T,w1]
   try refine⟨i,aK ?_⟩
   try refine aK ?_
   exact⟨zS1 e1,zS1 e4,zS1 J,zS1 r,zS1 j,zSi,b,a2,hB,zS1 P,by simp only[qC];exact t _,by simp only[qC];exact C _⟩
 .have a3:k=l.length:=by omega
  subst a3;rw[zZ,yQ]at hB;subst hB;have I:∀ c,(U.mu.set 0 c)[0]?=some c:=fun c=>qM zOm
  simp[go_sem,e4,J,j,o,P,h0,h1,I];exact .hf _ (HF.tup (by simp only[qy,qH,or_false,forall_eq_or_imp,forall_eq];exact⟨yx _,HF.sc _⟩))
def mdZ:Md:=⟨⟨[],0⟩,[],0⟩
def zN(g:Md->Int)(L:List Md)(i:Int):Md×Int×Int:=if i≠0 then (mdZ,0,i) else match L with
 | []=>(mdZ,0,270)
 |j :: l=>(yQ g j l,g (yQ g j l),0)
abbrev tup3(r:Md×Int×Int):AV := .tup [eMd r.1,aI r.2.1,aI r.2.2]
theorem qbF(r):HF (tup3 r):=HF.tup (by simp only[qy,qH,or_false,forall_eq_or_imp,forall_eq];exact⟨yx _,HF.sc _,HF.sc _⟩)
theorem qbG(mu):Rd mu (.agg [.lst true [],aI 0,.lst true [],aI 0]) (eMd mdZ):=
 Rd.aggs ⟨.wk _ true _ (.hf _ (HF.lst fun r g=>by simp at g)),.hf _ (HF.sc _),.wk _ true _ (.hf _ (HF.lst fun r g=>by simp at g)),.hf _ (HF.sc _),trivial⟩
theorem Vf(mu x e):Rd mu (.tup [.agg [.lst true [],aI 0,.lst true [],aI 0],aI x,aI e]) (tup3 (mdZ,x,e)):=by
 refine .tup _ _ rfl fun j u v g i=>?_
 match j with
 | 0=>simp at g i;subst g;subst i;exact qbG mu
 | 1=>simp at g i;subst g;subst i;exact .zsc _
 | 2=>simp at g i;subst g;subst i;exact .zsc _
 |j+3=>simp at g
theorem qbH(ts sc t n i)(j:HF i)(L o g)(I:L.length<=1000000)
  (J:qi qe 9 [eTS ts,eSc sc,lBd t,eNd n] (.tup [lMd L,aI o]))
  (hf:EO.FnOk qe i eMd (fun m=>m∈L) (fun m=>aI (g m))) :
  qi qe 31 [eTS ts,eSc sc,lBd t,eNd n,i] (tup3 (zN g L o)):=by
 refine qSU call31 func31 rfl ?_;refine cQ J (.zk (zn _) (.zk (zr _) (.zk (jr _) (.zk (qL _) .nil)))) ?_;by_cases C:o=0
 .subst C
  cases L with
  |nil =>
   simp[go_sem,zN];exact Vf _ _ _
  |cons p l =>
   have r:¬(l.length:Int)+1=0:=zOm;have P:=bestU p l i g (by simp at I;omega) hf;simp[go_sem,zN,r];refine fR P (.zk (qbE _) (.zk j .nil)) ?_;exact .hf _ (qbF (yQ g p l,g (yQ g p l),0))
 .simp [go_sem,zN,C]
  exact Vf _ _ _
theorem fromU(t m)(i:SmS t.sK)(j:SmS m.sK)(g:m.sc.sC.length<=1000000):qi qe 32 [eMd t,eMd m] (aI (yo m t)):=by
 refine qSU call32 func32 rfl ?_;refine fR (X4 m t j i g) (.zk (yx _) (.zk (yx _) .nil)) ?_;exact .zsc _
def ua(g:Bool)(sc:Sc)(L:List Md)(i:Int)(m:Md):Md×Int×Int:=if g=true/\m.sc.sN=sc.sN/\m.sc.sC=sc.sC then zN (fun x=>yo x m) L i else (mdZ,0,1)
theorem qbI(ts sc p n m r L g)(P:L.length<=1000000)(T:SmS m.sK)(I:∀ x,x∈L->SmS x.sK/\x.sc.sC.length<=1000000)(t:m.sc.sC.length<=1000000)
  (hV:qi qe 29 [eTS ts,eMd m] (aB r))
  (U:qi qe 9 [eTS ts,eSc sc,lBd p,eNd n] (.tup [lMd L,aI g])) :
  qi qe 8 [eTS ts,eSc sc,lBd p,eNd n,eMd m] (tup3 (ua r sc L g m)):=by
 have hs:=mC m.sc sc t;have hf:EO.FnOk qe (.fn (.func 32) [eMd m] []) eMd (fun x=>x∈L) (fun x=>aI (yo x m)):=
  ⟨HF.fn (fun c o=>by simp at o;subst o;exact yx m) (fun c o=>by simp at o),_,_,_,rfl,fun x J=>⟨[eMd m,eMd x],by simpa using WKs.zk (yx m) (.zk (yx x) .nil),fromU m x T (I x J).1 (I x J).2⟩⟩
 have C:=qbH ts sc p n _ hf.1 L g (fun x=>yo x m) P U hf;refine qSU call8 func8 rfl ?_;refine cQ hV (.zk (zn _) (.zk (yx _) .nil)) ?_;cases r with
 |false =>
  simp[go_sem,ua];exact Vf _ _ _
 |true =>
  simp[go_sem];refine cQ hs (.zk (zr _) (.zk (zr _) .nil)) ?_;by_cases i:m.sc.sN=sc.sN
  .by_cases j:m.sc.sC=sc.sC
   .have l:ua true sc L g m=zN (fun x=>yo x m) L g:=by rw[ua,if_pos ⟨rfl,i,j⟩]
    rw[l];generalize zN (fun x=>yo x m) L g=R at *
    simp[go_sem,i,j];have wf:WK (.fn (.func 32) [.agg [lI sc.sC,aI sc.sN,lSt m.sK,aI m.loop]] []) (.fn (.func 32) [eMd m] []):=by rw[<-i,<-j];exact WK.hf hf.1
    refine fR C (.zk (zn _) (.zk (zr _) (.zk (jr _) (.zk (qL _) (.cons wf .nil))))) ?_;exact .hf _ (qbF R)
   .have l:ua true sc L g m=(mdZ,0,1):=by rw[ua,if_neg (fun h=>j h.2.2)]
    rw[l];simp[go_sem,i,j];exact Vf _ _ _
  .have l:ua true sc L g m=(mdZ,0,1):=by rw[ua,if_neg (fun h=>i h.2.1)]
   rw[l];simp[go_sem,i];exact Vf _ _ _
end GV
namespace GW
open YF P1 E1 E4 E9 EL EO ER EW GA GF G5 GQ GR
theorem qbJ:∀ l x i,0<=x->wu l x i = -1\/∃(j:Nat) (h:j<l.length),wu l x i=i+j/\0<=x-sumI (l.take j)/\x-sumI (l.take j)<l[j]
 | [],x,i,_ => .inl rfl
 |a :: l,x,i,h=>by
  rw[wu];by_cases g:x<a
  .grind [sumI]
  .rw [if_neg g]
   rcases qbJ l (x-a) (i+1) zOm with e|⟨j,o,p,r,t⟩
   .exact .inl e
   .refine .inr ⟨j+1,zUs o,by rw[p];push_cast;omega,?_,?_⟩
    .simp only[List.take_succ_cons,sumI,List.foldr_cons]at r⊢;omega
    .simp only[List.take_succ_cons,sumI,List.foldr_cons,List.getElem_cons_succ]at t⊢;omega
def Vg(n:Int)(ds:List Int)(p:Int):Int:=ds.foldl (fun p d=>p*n+d) p
theorem qbK(n)(i:0<n):∀ k r,0<=r->r<n ^ k->Vg n (digs n k r) 0=r
 | 0,r,j,g=>by
  have:r=0:=by rw[Int.pow_zero]at g;omega
  subst this;rfl
 |k+1,r,j,g=>by
  have l:r / n<n ^ k:=Int.ediv_lt_of_lt_mul i (by rw[<-Int.pow_succ];exact g);rw[digs,Vg,vQ];show Vg n (digs n k (r / n)) 0*n+r % n=r;rw[qbK n i k (r / n) (Int.ediv_nonneg j zOm) l,Int.mul_comm];exact Int.mul_ediv_add_emod r n
theorem qbL(sc)(J:∀ a,a∈sc.sC->0<=a):∀(l ds:List Int)(p),ds.length=l.length->(∀ s,s∈l->0<=s)->(∀(i h)(h2:i<l.length),0<=ds[i]/\uP sc ds[i]=l[i])->Vg (sumI sc.sC) ds p∈tupR sc l p
 | [],[],p,_,_,_=>by simp[tupR,Vg]
 |s :: l,d :: ds,p,o,I,h=>by
  rw[tupR,wQ];obtain⟨r,g⟩:=h 0 zSp zSp;simp only[List.getElem_cons_zero]at r g;have P:=I s zSp;rcases qbJ sc.sC d 0 r with e|⟨j,R,T,e2,e3⟩
  .rw [uP,e]at g;omega
  .rw [uP,T]at g
   have t:s.toNat=j:=zOm;have U:gI sc.sC s.toNat=sc.sC[j]:=by rw[t];exact uI R
   refine⟨(d-sumI (sc.sC.take j)).toNat,yb.2 (by rw[U];omega),?_⟩;have:=qbL sc J l ds (p*sumI sc.sC+d) (zUs o) (fun s hs=>I s (zP1 hs)) (fun i hi C=>h (i+1) (zUs hi) (zUs C));rw[t,show sumI (sc.sC.take j)+((d-sumI (sc.sC.take j)).toNat:Int)=d by omega];exact this
 | [],_ :: _,_,o,_,_=>by simp at o
 |_ :: _,[],_,o,_,_=>by simp at o
theorem qn4(sc)(g:GSc sc)(C:0<sumI sc.sC)(l:List Int)(J:l.length<=3)(P:∀ s,s∈l->0<=s/\s<sc.sC.length):∀ x,x∈yE sc l->x∈tupR sc l 0:=fun x I=>by
 have j:=g.sum sc.sC.length;rw[qP]at j;have R:=YI (sumI sc.sC) j.1 j.2 l.length J;unfold yE vC at I;obtain⟨r,T,rfl⟩:=qn.1 I;obtain⟨U,h2⟩:=List.mem_filter.1 T;rw[yb]at U;have o:(r:Int)<sumI sc.sC ^ l.length:=zOm;have hf:=qbK (sumI sc.sC) C l.length r zOm o;have hm:=qbL sc (fun a ha=>(g.2 a ha).1) l (digs (sumI sc.sC) l.length r) 0 (YJ _ _ _) (fun s p=>(P s p).1) (fun i hi t=>?_)
 .grind
 .have hd:=X7 (sumI sc.sC) C j.2 l.length r _ (qs hi)
  refine⟨hd.1,?_⟩;have:=Xp.1 h2 i t
  grind [uI]
theorem qbM(ts sc)(F:Fit9 ts sc)(t:yV sc=true):qi qe 55 [eTS ts,eSc sc] (aB true):=by
 have I:=F.g;simp only[yV,qI,decide_eq_true_eq,List.all_eq_true]at t;obtain⟨h1,J,P,R,T⟩:=t;have o:=F.ns;refine qSV call55 func55 rfl ?_;have n1:¬(4:Int)<sc.sC.length:=zOm;simp[go_sem,n1,o];have C:=fun a b c:Int=>UA a b c
 refine cQ (C sc.sN 1 4) (wk3I _ _ _) ?_;simp[go_sem,J,P];refine kL sc.sC.length (fun k U=>U.tm 2 = .ip (cTS ts)/\U.tm 3 = .ip [lI sc.sC,aI sc.sN]/\U.tm 27=lI sc.sC/\U.tm 28=aI sc.sC.length/\U.tm 29=aI k) ?_ ?_
 .simp [go_sem, *]
 rintro k U hk ⟨e2,e3,p,i,j⟩;by_cases l:k<sc.sC.length
 .have w1:=zWk k
  have ha:=R _ (qs l);simp[go_sem,p,i,j,l];refine cQ (C sc.sC[k] 1 5) (wk3I _ _ _) ?_;simp_all[go_sem,aK]
 .have r:k=sc.sC.length:=by omega
  simp[go_sem,e3,i,j,r];refine cQ (Yu sc I) (.zk (zr sc) .nil) ?_;simp[go_sem,T];exact .zsc _
theorem qn5(n)(r:Rl)(T:0<=n)(a0:n<=12)(k:Nat)(hk:r.ar=k)(k1:1<=k)(k3:k<=3)(hl:r.ts.length<=1000000000)(hs:r.ts.Pairwise (·<·))(ht:∀ t,t∈r.ts->0<=t/\t<n ^ k):qi qe 58 [aI n,eRel r] (aB true):=by
 have C:=n6 n T zOm k k3;refine qSV call58 func58 rfl ?_;have n1:¬n<0:=zOm;have n2:¬ 12<n:=zOm;have n3:¬r.ar<1:=zOm;have n4:¬ 3<r.ar:=zOm;simp[go_sem,n1,n2,n3,n4];refine kL r.ts.length (fun j U=>U.tm 0=aI n/\U.tm 3 = .ip [aI r.ar,lI r.ts]/\U.tm 25=lI r.ts/\U.tm 26=aI r.ts.length/\U.tm 27=aI j/\∃ last:Int,U.tm 5=aI last/\∀(i:Nat)(h:i<r.ts.length),j<=i->last<r.ts[i]) ?_ ?_
 .exact ⟨zSi,zSi,zSi,zSi,zSi,-1,zSi,fun i h _=>by grind [qs]⟩
 rintro j U hj ⟨P,R,p,l,o,last,e5,I⟩;by_cases g:j<r.ts.length
 .have w1:=zWk j
  have a1:=I j g (qr _);have a2:=ht _ (qs g);have m1:¬r.ts[j]<=last:=zOm;have m2:¬n ^ k<=r.ts[j]:=zOm;simp[go_sem,P,R,p,l,o,e5,g,m1];refine cQ C (by rw[hk];exact .zs (.zs .nil)) ?_;simp[go_sem,o,g,m2,w1]
  try refine⟨g,aK ?_⟩
  try refine aK ?_
  exact⟨zS1 P,zS1 R,zS1 p,zS1 l,zSi,r.ts[j],zSi,fun i h hi=>List.pairwise_iff_getElem.1 hs j i g h zOm⟩
 .have J:j=r.ts.length:=by omega
  simp[go_sem,l,o,J];exact .zsc _
structure BndV (ts:TS) (sc:Sc) (bs:List Bd):Prop where
 len:bs.length=ts.sA.length
 lo:∀(i:Nat)(h:i<bs.length)(h2:i<ts.sA.length),bs[i].lo.ar=ts.sA[i].sS.length/\bs[i].up.ar=ts.sA[i].sS.length
 so:∀ b,b∈bs->b.lo.ts.Pairwise (·<·)/\b.up.ts.Pairwise (·<·)
 sub:∀ b,b∈bs->∀ t,t∈b.lo.ts->t∈b.up.ts
 full:∀(i:Nat)(h:i<bs.length)(h2:i<ts.sA.length),∀ t,t∈bs[i].up.ts->t∈yE sc ts.sA[i].sS
theorem qbN{a b}(h:∀ t,t∈a.ts->t∈b.ts):(diR a b).ts=[]:=by
 grind [diR,List.filter_eq_nil_iff]
theorem qbO(sc l):∀ t,t∈yE sc l->0<=t/\t<(sumI sc.sC ^ l.length).toNat:=fun t g=>qk3 _ _ _ t g
theorem qbP(sc)(g:GSc sc)(l)(j:l.length<=3):(yE sc l).length<=8000:=by
 have i:=g.sum sc.sC.length;rw[qP]at i;have o:=YI (sumI sc.sC) i.1 i.2 l.length j;refine zL (UF _ _ _) ?_;omega
theorem YY{a b:List Int}(g:a.Pairwise (·<·))(h:∀ t,t∈a->t∈b):a.length<=b.length:=j5 (qjU g) h
theorem relT(ts sc)(F:Fit9 ts sc)(l:sumI sc.sC<=12)(f)(hf:f∈ts.sA)(r:Rl)(o:r.ar=f.sS.length)(C:r.ts.Pairwise (·<·))(i:∀ t,t∈r.ts->t∈yE sc f.sS):qi qe 58 [aI (sumI sc.sC),eRel r] (aB true)/\r.ts.length<=8000:=by
 have R:=YY C i;have I:=qbP sc F.g f.sS (F.f1 f hf).2;have T:=F.p;have j:=F.g.sum sc.sC.length;rw[qP]at j;have J:=YI (sumI sc.sC) j.1 j.2 f.sS.length (F.f1 f hf).2;exact⟨qn5 _ r zOm l f.sS.length o (F.f1 f hf).1 (F.f1 f hf).2 zOm C fun t P=>zW1 (qbO sc f.sS t (i t P)),zOm⟩
theorem qbQ(ts sc)(F:Fit9 ts sc)(f)(hf:f∈ts.sA)(r)(J:r.ts.length<=8000)(i:∀ t,t∈r.ts->t∈yE sc f.sS):qi qe 59 [eRel r,eRel ⟨f.sS.length,tupR sc f.sS 0⟩] (aB true):=by
 have j:=XY sc F.g (fun a l=>(F.g.2 a l).1) f.sS (F.fs f hf) 0;have o:=(F.f1 f hf).2;have C:(20:Nat) ^ f.sS.length<=8000:=by
  rcases (show f.sS.length=0\/f.sS.length=1\/f.sS.length=2\/f.sS.length=3 by omega) with e|e|e|e<;>rw[e]<;>decide
 have h:=inU r ⟨f.sS.length,tupR sc f.sS 0⟩ zOm (by grind)
 rwa[qbN fun t I=>qn4 sc F.g F.p f.sS o (F.fs f hf) t (i t I),decide_eq_true rfl]at h
theorem qn6(fs:List Fld)(l)(J:l.length=fs.length)(hn:fs.length<=1000000)(r g caps)(t:r = .fn (.func g) [] caps)(P:HF r)
  (h:∀(i h1)(h2:i<l.length),∃ args',WKs ([Ua fs[i],eBd l[i]]++caps) args'/\qi qe g args' (aB true)) :
  qi qe 107 [.lst false (fs.map jq),lBd l,r] (aB true):=by
 subst t;refine qSV call107 func107 rfl ?_;simp[go_sem,J];refine kL fs.length (fun k U=>U.tm 0 = .lst false (fs.map jq)/\U.tm 1=lBd l/\U.tm 2 = .fn (.func g) [] caps/\U.tm 14=aI fs.length/\U.tm 15=aI k) ?_ ?_
 .simp [go_sem, *]
 rintro k U hk ⟨R,T,e2,o,p⟩;by_cases j:k<fs.length
 .have w1:=zWk k
  obtain⟨args',hw,hc⟩:=h k j zOm;have C:k<l.length:=zOm;simp[go_sem,o,p,j];refine cH zKr ?_;simp[go_sem,R,T,e2,j,C];refine fW hc (zUs hw) ?_;simp_all[go_sem,aK]
 .have I:k=fs.length:=by omega
  simp[go_sem,o,p,I];exact .zsc _
theorem qn7(ts sc l)(F:Fit9 ts sc)(a0:sumI sc.sC<=12)(B:BndV ts sc l):qi qe 63 [eTS ts,eSc sc,lBd l] (aB true):=by
 have a8:=F.nf;have a4:∀(i:Nat)(T:i<ts.sA.length)(U:i<l.length),qi qe 108 [Ua ts.sA[i],eBd l[i],.ip [aI (sumI sc.sC)],.ip [lI sc.sC,aI sc.sN]] (aB true):=fun i T U=>by
  obtain⟨a1,a2⟩:=B.lo i U T;have o:=qs T;have J:=qs U;obtain⟨s1,s2⟩:=B.so _ J;have P:=B.full i U T;have a5:∀ t,t∈l[i].lo.ts->t∈yE sc ts.sA[i].sS:=fun t ht=>P t (B.sub _ J t ht)
  obtain⟨v1,l1⟩:=relT ts sc F a0 _ o l[i].lo a1 s1 a5;obtain⟨v2,l2⟩:=relT ts sc F a0 _ o l[i].up a2 s2 P;have i1:=inU l[i].lo l[i].up zOm zOm;rw[qbN (B.sub _ J),decide_eq_true rfl]at i1;have i2:=qbQ ts sc F _ o l[i].up l2 P;have a6:=EW.XZ sc F.g (fun a ha=>(F.g.2 a ha).1) ts.sA[i].sS (F.fs _ o) (F.f1 _ o).1 (F.f1 _ o).2;have w2:∀ r:Rl,WKs [aI (sumI sc.sC),eRel r] [aI (sumI sc.sC),eRel r]:=fun r => .zs (.zk (qY _) .nil)
  have wr:∀(r:Rl)(x:Int),r.ar=x->WK (.agg [aI x,lI r.ts]) (eRel r):=fun r x e=>by subst e;exact .hf (qY r)
  have wa:=wr l[i].lo _ a1;have wb:=wr l[i].up _ a2;refine qSV call108 func108 rfl ?_;simp[go_sem,a1,a2];refine cQ v1 (.zs (.cons wa .nil)) ?_;simp[go_sem,a2];refine fR v2 (.zs (.cons wb .nil)) ?_;refine cH zKr ?_;simp[go_sem,a1,a2];refine cQ i1 (.cons wa (.cons wb .nil)) ?_;simp[go_sem,a2];refine fR a6 (.zk (zr _) (.zk (zh _) .nil)) ?_;refine fR i2 (.cons wb (.zk (qY _) .nil)) ?_;exact .zsc _
 have j:HF (.ip [lI sc.sC,aI sc.sN]):=HF.ip fun c C=>by simp at C;rcases C with rfl|rfl;exact zh _;exact HF.sc _
 have I:HF (.ip [aI (sumI sc.sC)]):=HF.ip fun c C=>by grind [HF.sc]
 have a3:HF (.fn (.func 108) [] [.ip [aI (sumI sc.sC)],.ip [lI sc.sC,aI sc.sN]]):=HF.fn (fun c C=>by simp at C) (fun c C=>by simp at C;rcases C with rfl|rfl;exact I;exact j);have p:=qn6 ts.sA l B.len zOm _ _ _ rfl a3 fun i T U=>⟨_,by simpa using WKs.zk (nj _) (.zk (qa4 _) (.zk I (.zk j .nil))),a4 i T U⟩
 refine qSU call63 func63 rfl ?_;refine fR (Yu sc F.g) (.zk (zr sc) .nil) ?_;refine fQ (qE.freeze (args1:=[.lst false (ts.sA.map jq),lBd l,.fn (.func 108) [] [.ip [aI (sumI sc.sC)],.ip [lI sc.sC,aI sc.sN]]]) (fun _=>true) ⟨.inl rfl,.inl rfl,.inr ?_,trivial⟩ (qi.toSound _ p (.zk (JQ ts.sA) (.zk (jr _) (.zk a3 .nil))))) ?_ ?_
 .refine .fn _ _ _ _ _ rfl rfl (fun k x y R hy=>by simp at R) (fun k x y R hy=>?_)
  match k with
  | 0=>simp at R hy;subst R;subst hy;exact ER.Rd.ip1 (x:=aI (sumI sc.sC)) (by simp[cutM]) (.hf _ (HF.sc _))
  | 1=>simp at R hy;subst R;subst hy;exact .hf _ j
  |k+2=>simp at R
 .rintro r m ⟨h,rfl⟩
  cases h;simp[go_sem];exact .zsc _
 grind
end GW
namespace IT
end IT
namespace YZ
open YM P1 Y1 Y9 YX
mutual
def depN:Nd->Int
 | .mk _ _ _ ks _=>yz ks+1
def yz:List Nd->Int
 | []=>0
 |k :: ks=>max (depN k) (yz ks)
end
mutual
theorem qn8:∀ n:Nd,0<=depN n
 | .mk _ _ _ ks _=>by simp only[depN];have:=UU ks;omega
theorem UU:∀ ks:List Nd,0<=yz ks
 | []=>by simp[yz]
 |k :: ks=>by simp only[yz];have:=UU ks;omega
end
theorem Zp(n):depN n=yz n.sD+1:=by
 obtain⟨op,o,i,ks,p⟩:=n;simp[depN,Nd.sD]
theorem qbR{ks k}(h:k∈ks):depN k<=yz ks:=by
 induction ks with
 |nil=>simp at h
 |cons a l g =>
  simp only[yz];rcases qy.1 h with rfl|h
  .omega
  .have:=g h;omega
theorem qbS:∀ m n,szN n<=m->Small n->depN n<=1000000->qi qe 75 [eNd n] (aI (depN n))
 | 0,n,I,_,_=>by obtain⟨op,nm,i,ks,p⟩:=n;simp[szN]at I
 |m+1,n,I,J,P=>by
  have ih:∀ k,k∈n.sD->qi qe 75 [eNd k] (aI (depN k)):=fun k j =>
   qbS m k (zW1 (yw j)) (J.kid j) (by rw[Zp]at P;have:=qbR j;omega)
  rw[Zp]at P⊢;have R:=J.len;have a0:=UU n.sD;generalize hD:yz n.sD=D at *
  refine qSU call75 func75 rfl ?_;refine kL n.sD.length (fun k U=>∃ d,U.tm 3=aI d/\U.tm 7=lNd n.sD/\U.tm 8=aI n.sD.length/\U.tm 9=aI k/\0<=d/\max d (yz (n.sD.drop k))=D) ?_ ?_
  .exact ⟨0,zSi,zSi,zSi,zSi,zOm,by simp only[List.drop_zero,hD];omega⟩
  .rintro k U j ⟨d,T,e7,o,r,a1,l⟩
   by_cases t:k=n.sD.length
   .subst t
    rw[zZ]at l;simp only[yz]at l;have C:d=D:=zOm;subst C;have w:qp.wrap (d+1)=d+1:=zWr;simp[go_sem,T,o,r,w];exact .zsc _
   .have g:k<n.sD.length:=by omega
    have w1:=zWk k;rw[zp g]at l;simp only[yz]at l;simp[go_sem,T,e7,o,r,g];refine cQ (ih n.sD[k] (qs g)) (.zk (qL _) .nil) ?_;simp[go_sem,r,w1];refine⟨g,aK ?_⟩;refine⟨if d<depN n.sD[k] then depN n.sD[k] else d,zSi,zS1 e7,zS1 o,zSi,?_,?_⟩
    .have:=qn8 n.sD[k]
     split<;>omega
    .split<;>omega
mutual
def preN:Nd->List Nd
 | .mk op o n ks p => .mk op o n ks p :: zy ks
def zy:List Nd->List Nd
 | []=>[]
 |k :: ks=>preN k++zy ks
end
theorem wC(n):preN n=n :: zy n.sD:=by
 obtain⟨op,o,i,ks,p⟩:=n;simp[preN,Nd.sD]
theorem Y0(a b):zy (a++b)=zy a++zy b:=by
 induction a with
 |nil=>rfl
 |cons x a g=>simp[zy,g]
theorem KO{f caps}(I:List Nd->Mu->Prop)(hp:∀ v mu l,I v mu->I v (mu++l))(hf:∀ v k mu,I v mu->qE qe f (eNd k :: caps) mu fun e m=>e = .ret (.tup [])/\I (v++[k]) m) :
  ∀ m n,szN n<=m->Small n->∀ v mu,I v mu->qE qe 68 [eNd n,.fn (.func f) [] caps] mu fun e m=>e = .ret (.tup [])/\I (v++preN n) m
 | 0,n,hm,_,_,_,_=>by obtain⟨op,nm,i,ks,p⟩:=n;simp[szN]at hm
 |m+1,n,hm,hs,v,mu,J=>by
  have ih:∀ k,k∈n.sD->∀ v mu,I v mu->qE qe 68 [eNd k,.fn (.func f) [] caps] mu fun e m=>e = .ret (.tup [])/\I (v++preN k) m:=fun k P v mu J =>
   KO I hp hf m k (zW1 (yw P)) (hs.kid P) v mu J
  have a1:=hs.len;rw[wC];refine qSW call68 func68 rfl {} ?_;simp[go_sem];refine fY (hf v n mu J) ?_ (by rintro r m ⟨e,_⟩;cases e);rintro r m ⟨e,R⟩;cases e;simp[go_sem];refine kL n.sD.length (fun k U=>U.tm 1 = .fn (.func f) [] caps/\U.tm 10=lNd n.sD/\U.tm 11=aI n.sD.length/\U.tm 12=aI k/\I (v++[n]++zy (n.sD.take k)) U.mu) ?_ ?_
  .exact ⟨zSi,zSi,zSi,zSi,by simpa[go_sem,zy] using R⟩
  .rintro k U P ⟨e1,C,j,o,t⟩
   by_cases T:k=n.sD.length
   .subst T
    rw[qP]at t;simp[go_sem,j,o];simpa using t
   .have g:k<n.sD.length:=by omega
    have w1:=zWk k;simp[go_sem,e1,C,j,o,g];refine fQ (ih n.sD[k] (qs g) _ _ (hp _ _ _ t)) ?_ (by rintro r m ⟨e,_⟩;cases e);rintro r m ⟨e,a0⟩;cases e;simp[go_sem,o,w1];refine⟨g,aK ?_⟩;refine⟨zS1 e1,zS1 C,zS1 j,zSi,?_⟩;have e:zy (n.sD.take (k+1))=zy (n.sD.take k)++preN n.sD[k]:=by
     rw[List.take_add_one,qA g,Y0];simp[zy]
    rw[e,<-zt];simpa[go_sem] using a0
def setN(l:List tA)(b:tA):List (tA×Bool)->List (tA×Bool):=fun I=>setK b true I
abbrev eSet(es:List (tA×Bool)):List (AV×AV):=encK aS aB es
theorem updS{mu b es}(i:mu[b]?=some (.mp (eSet es)))(nm) :
  jR qe mu 133 (.mp b) (aS nm) (aB true)=some (mu.set b (.mp (eSet (setK nm true es)))):=
 keyS.update (et:=4) (t:=133) zSi (mu:=mu) (b:=b) (venc:=aB) (es:=es) i (k:=nm) (v:=true) trivial (fun _ _=>trivial)
theorem qn9(ts s tb c es n){mu p g xb}(r:mu[p]?=some (.arr [.ptr xb 0]))(t:mu[xb]?=some (.arr (cIn ts tb s)))(l:mu[g]?=some (.arr [aB c]))(j:mu[tb]?=some (.mp (eSet es))) :
  qE qe 69 [eNd n,.ptr p 0,.ptr g 0] mu fun e m=>e = .ret (.tup [])/\m=(mu.set tb (.mp (eSet (setK n.name true es)))).set g (.arr [aB (c||decide (n.op=47))]):=by
 refine qSW call69 func69 rfl {} ?_;have C:g<mu.length:=(qk.1 l).1;have I:tb<mu.length:=(qk.1 j).1;simp[go_sem];refine cH zKr ?_;have J:=updS j n.name;simp[go_sem,r,t];refine cL _ J ?_;have o:tb≠g:=fun e=>by rw[e,l]at j;cases j
 generalize P:Cell.mp (eSet (setK n.name true es))=N at *
 have i:(mu.set tb N)[g]?=some (.arr [aB c]):=by rw[yF o];exact l
 cases c
 .simp [go_sem,i]
  try rfl
 .simp [go_sem,i]
  try rfl
theorem qoA(ts s tb es n){mu g xb}(j:mu[g]?=some (.arr [.ptr xb 0]))(l:mu[xb]?=some (.arr (cIn ts tb s)))(i:mu[tb]?=some (.mp (eSet es))) :
  qE qe 70 [eNd n,.ptr g 0] mu fun e m=>e = .ret (.tup [])/\m=mu.set tb (.mp (eSet (setK n.name true es))):=by
 refine qSW call70 func70 rfl {} ?_;have o:tb<mu.length:=(qk.1 i).1;simp[go_sem];refine cH zKr ?_;have p:=updS i n.name;simp[go_sem,j,l];refine cL _ p ?_;simp[go_sem]
end YZ
namespace YA
open YM YS YF P1 Y1 Y9 Y10 YX YZ
def vN(k:Int):tA:=⟨#[118]⟩++jA k
theorem KP(k)(g : -9223372036854775808<=k)(i:k<=9223372036854775807):(jA k).size<=21:=by
 have:=Lib.itoa_length_le k g i;unfold jA;simpa[ByteArray.size] using this
def yJ(ts:TS)(es:List (tA×Bool))(nm:tA):Bool:=decide (getK nm es≠some true)&&decide (means ts nm=[])
def zz(ts:TS)(es:List (tA×Bool)):Nat->Int->Int
 | 0,k=>k+1
 |f+1,k=>if yJ ts es (vN (k+1))=true then k+1 else zz ts es f (k+1)
theorem qoB{mu tb es}(i:mu[tb]?=some (.mp (eSet es)))(nm):yu qe mu 133 (.mp tb) (aS nm) false=some (aB (decide (getK nm es=some true))):=by
 have:=keyS.look (et:=4) (t:=133) zSi (mu:=mu) (m := .mp tb) (venc:=aB) (es:=es) (by simp only[j7,i]) (k:=nm) trivial (fun _ _=>trivial) (z:=aB false) zSi false;refine Eq.trans ?_ (this.trans ?_)
 .rfl
 .cases getK nm es with
  |none=>rfl
  |some b=>cases b<;>rfl
theorem qoC{mu:Mu}{b c}(h:mu[b]?=some c):mu.set b c=mu:=by
 apply List.ext_getElem?;intro i;by_cases e:b=i
 .subst e
  rw[qM (qk.1 h).1,h]
 .rw [yF e]
theorem qbT(ts)(h:okTS ts)(s:ISt)(F:Nat)(hs:0<=s.last/\s.last+F<=1000000000)(tb es)(T:∃ j,1<=j/\j<=F/\yJ ts es (vN (s.last+j))=true){mu xb}(hx:mu[xb]?=some (.arr (cIn ts tb s)))(ht:mu[tb]?=some (.mp (eSet es))) :
  qE qe 170 [.ptr xb 0] mu fun e m=>e = .ret (aS (vN (zz ts es F s.last)))/\m=mu.set xb (.arr (cIn ts tb ⟨zz ts es F s.last,s.sM⟩)):=by
 refine qSW call170 func170 rfl {} ?_;have a0:xb<mu.length:=(qk.1 hx).1;have a3:tb≠xb:=fun e=>by rw[e,hx]at ht;cases ht
 simp[go_sem];generalize hR:zz ts es F s.last=R;refine cZ (fun m U=>∃ l:Int,0<=l/\l+m<=1000000000/\U.tm 0 = .ptr xb 0/\U.mu=mu.set xb (.arr (cIn ts tb ⟨l,s.sM⟩))/\zz ts es m l=R/\∃ j:Nat,1<=j/\j<=m/\yJ ts es (vN (l+j))=true) F ?_ ?_
 .refine ⟨s.last,hs.1,hs.2,zSi,?_,hR,T⟩
  simp only[go_sem,qC,st0];rw[show cIn ts tb ⟨s.last,s.sM⟩=cIn ts tb s from rfl];exact(qoC hx).symm
 .rintro m U ⟨l,a7,a8,C,hm,hI,j,a9,aa,r⟩
  obtain⟨m,rfl⟩:∃ m',m=m'+1:=⟨m-1,zOm⟩;have w1:qp.wrap (l+1)=l+1:=zWr;have t:∀ c,(mu.set xb c)[xb]?=some c:=fun c=>qM a0
  have a4:∀ c d,(mu.set xb c).set xb d=mu.set xb d:=fun c d=>List.set_set ..
  have a5:∀ c,(mu.set xb c)[tb]?=some (.mp (eSet es)):=fun c=>by rw[yF (fun e=>a3 e.symm)];exact ht
  have ab:=KP (l+1) zOm zOm;have I:1+(jA (l+1)).size<=9223372036854775807:=zOm;simp[go_sem,C,hm,t,a4,w1];refine cQ (itoaU (l+1) zOm zOm) (.zs .nil) ?_;simp[go_sem,C,t,I];rw[show (⟨#[118]⟩:tA)++jA (l+1)=vN (l+1) from rfl];generalize i:vN (l+1)=o;have J:=fun c=>qoB (a5 c) o
  simp[go_sem]at J;refine cL _ (J _) ?_;have g:yJ ts es o=false->zz ts es m (l+1)=R/\∃ j:Nat,1<=j/\j<=m/\yJ ts es (vN (l+1+j))=true:=fun hn=>by
   simp only[zz,i,hn]at hI;refine⟨zUs hI,j-1,?_,zOm,?_⟩
   .have:j≠1:=fun e=>by rw[e,show l+((1:Nat):Int)=l+1 by omega,i,hn]at r;cases r
    omega
   .rw [show l+1+((j-1:Nat):Int)=l+j by omega];exact r
  by_cases P:getK o es=some true
  case pos =>
   obtain⟨a1,a2⟩:=g (by simp[yJ,P]);simp[go_sem,P];refine Keep.loop m zOm ⟨l+1,zOm,zOm,zS1 C,zSi,a1,a2⟩
  case neg =>
   simp[go_sem,C,t,P];refine cQ (Ke ts h o) (.zk (zn ts) (.zs .nil)) ?_;by_cases p:means ts o=[]
   .have a6:R=l+1:=by
     rw[<-hI];simp[zz,i,yJ,P,p]
    subst a6;simp[go_sem,p];rw[i]
    try rfl
   .obtain ⟨a1,a2⟩:=g (by simp[yJ,p])
    simp[go_sem,p];refine Keep.loop m zOm ⟨l+1,zOm,zOm,zS1 C,zSi,a1,a2⟩
end YA
namespace YB
open YM YF P1 Y1 Y6 Y9 Y10 YX YZ YA
section
variable {es:IEnv}{mu:Mu}{b xb:Nat}
def qq(ts:TS)(es:List (tA×Bool)):Nat:=es.length+ts.sA.length+3*ts.sS.length+1
def renI(ts:TS)(es:List (tA×Bool))(env:IEnv)(nm:tA)(body:Bool)(s:ISt):(IEnv×tA)×ISt:=
 if body=true\/means ts nm≠[] then
  ((setK nm ⟨none,0,vN (zz ts es (qq ts es) s.last)⟩ (delK nm env),vN (zz ts es (qq ts es) s.last)),⟨zz ts es (qq ts es) s.last,s.sM⟩)
 else ((delK nm env,nm),s)
theorem Zq{g J}[DecidableEq g]{k v}:∀{es},(es.map Prod.fst).Nodup->∀{x:g×J},x∈setK k v es↔x=(k,v)\/(x∈es/\x.1≠k)
 | [],_,x=>by simp[setK]
 |e :: es,h,x=>by
  rw[zQ,List.nodup_cons]at h;unfold setK;by_cases i:k=e.1
  .rw [if_pos i,qy,qy]
   constructor
   .grind
   grind
  .rw [if_neg i,qy,qy,Zq h.2]
   constructor
   .grind
   grind
theorem ub{g m i}(h:g i=true):(cutM g m 0)[i]?=m[i]?:=by
 simp_all[jG,yf,if_true]
theorem qoD{x}:x∈encK aS eIV es↔∃ y,y∈es/\(aS y.1,eIV y.2)=x:=qn
theorem KQ(h:(es.map Prod.fst).Nodup):((encK aS eIV es).map Prod.fst).Nodup:=by
 have e:(encK aS eIV es).map Prod.fst=(es.map Prod.fst).map aS:=by simp[encK]
 grind
theorem qoE{fs}(g:mu[b]?=some (.md (encK aS eIV es)))(i:(es.map Prod.fst).Nodup)(j:(fs.map Prod.fst).Nodup)(o:∀ x,x∈es↔x∈fs):Rd mu (.mp b) (eEnv fs):=by
 refine Rd.mds g (KQ i) (KQ j) (fun x=>?_) (fun x l=>?_)
 .grind
 .obtain ⟨y,_,rfl⟩:=qoD.1 l
  grind [HF.sc,qlW]
theorem updE(i:mu[b]?=some (.mp (encK aS eIV es)))(nm v) :
  jR qe mu 141 (.mp b) (aS nm) (eIV v)=some (mu.set b (.mp (encK aS eIV (setK nm v es)))):=
 keyS.update (et:=207) (t:=141) zSi (mu:=mu) (b:=b) (venc:=eIV) (es:=es) i (k:=nm) (v:=v) trivial (fun _ _=>trivial)
theorem qbU(i:mu[b]?=some (.md (encK aS eIV es)))(nm v) :
  jR qe mu 141 (.mp b) (aS nm) (eIV v)=some (mu.set b (.md (encK aS eIV (setK nm v es)))):=
 keyS.updateD (et:=207) (t:=141) zSi (mu:=mu) (b:=b) (venc:=eIV) (es:=es) i (k:=nm) (v:=v) trivial (fun _ _=>trivial)
structure But (xb:Nat) (mu m:Mu):Prop where
 len:mu.length<=m.length
 same:∀ i,i<mu.length->i≠xb->m[i]?=mu[i]?
theorem But.trans{a b c}(h:But xb a b)(k:But xb b c):But xb a c:=⟨zL h.len k.len,fun i g j=>(k.same i (Nat.lt_of_lt_of_le g h.len) j).trans (h.same i g j)⟩
theorem But.app(xb mu l):But xb mu (mu++l):=⟨zSp,fun i g _=>qN g⟩
theorem cN(xb mu c):But xb mu (mu.set xb c):=⟨zSp,fun i j g=>yF (fun e=>g e.symm)⟩
theorem But.setN{m}(h:But xb mu m){j}(o:mu.length<=j)(c):But xb mu (m.set j c):=⟨by simpa using h.len,fun i g l=>by rw[zGl];exact h.same i g l⟩
theorem But.cut{m}(h:But xb mu m){g}(l:∀ i,i<mu.length->g i=true):But xb mu (cutM g m 0):=⟨by rw[jP];exact h.len,fun i j o=>by rw[ub (l i j)];exact h.same i j o⟩
theorem qoF(a):(aArg a).one=true:=by cases a<;>rfl
theorem qoG(ts)(h:okTS ts)(s:ISt)(es)(hs:0<=s.last/\s.last+(qq ts es:Nat)<=1000000000)(tb)(aa:∃ j,1<=j/\j<=qq ts es/\yJ ts es (vN (s.last+j))=true)(env)(hk:(env.map Prod.fst).Nodup)(nm body)
  {mu} {xb} (hx:mu[xb]?=some (.arr (cIn ts tb s))) (ht:mu[tb]?=some (.mp (eSet es))) :
  qE qe 122 [.ptr xb 0,eEnv env,aS nm,aB body] mu fun e m=>e = .ret (.tup [eEnv (renI ts es env nm body s).1.1,aS (renI ts es env nm body s).1.2])/\But xb mu m/\m[xb]?=some (.arr (cIn ts tb (renI ts es env nm body s).2)):=by
 refine fH ?_;refine qSW call122 func122 rfl {} ?_;have az:xb<mu.length:=(qk.1 hx).1;have ah:tb<mu.length:=(qk.1 ht).1;have ai:tb≠xb:=fun e=>by grind
 simp[go_sem];obtain⟨B,hB⟩:∃ B,B=encK aS eIV env:=⟨_,rfl⟩;have b0:B.length=env.length:=by rw[hB];simp
 rw[<-hB];refine qm.seen env.length (fun seen U=>U.tm 0 = .ptr xb 0/\U.tm 2=aS nm/\U.tm 3=aB body/\U.tm 10 = .mp mu.length/\U.tm 16 = .ptr (mu.length+1) 0/\But xb mu U.mu/\mu.length+1<U.mu.length/\U.mu[xb]?=mu[xb]?/\U.mu[mu.length+1]?=some (.it B seen) /\
  ∃ o:IEnv,U.mu[mu.length]?=some (.mp (encK aS eIV o))/\(o.map Prod.fst).Nodup/\∀ x,x∈o↔∃ i,i∈seen/\env[i]?=some x) ?_ ?_
 .simp_all [go_sem,But.app,qN]
 .rintro seen U b1 b2 ⟨e0,e2,e3,p,a5,R,hl,aj,ak,o,ab,C,I⟩
  simp[go_sem,a5];refine⟨mu.length+1,B,seen,rfl,ak,fun i e hi al=>?_,fun ax=>?_⟩
  .have J:∃ y,env[i]?=some y/\e=(aS y.1,eIV y.2):=by
    rw[hB,zj,jN]at hi;obtain⟨y,J,rfl⟩:=hi
    grind
   obtain⟨⟨k,va,vz,vn⟩,J,rfl⟩:=J;have an:i<env.length:=(qk.1 J).1;have a6:∀(c:Cell)(l:List Cell),(U.mu.set (mu.length+1) c++l)[mu.length]?=some (.mp (encK aS eIV o)):=fun c l=>by
    grind
   have hu:=fun c l=>updE (a6 c l) k ⟨va,vz,vn⟩
   simp[go_sem,p,a5,hi,hl,qoF];refine cL _ (hu _ _) ?_;generalize hM:List.set (U.mu.set (mu.length+1) (Cell.it B (seen++[i]))++[Cell.arr [aArg va,aI vz,aS vn]]) mu.length (.mp (encK aS eIV (setK k ⟨va,vz,vn⟩ o)))=M;have b3:M.length=U.mu.length+1:=by rw[<-hM];simp
   have ao:∀ j,j<U.mu.length->j≠mu.length->j≠mu.length+1->M[j]?=U.mu[j]?:=fun j h1 h2 h3=>by
    grind
   have aq:M[mu.length]?=some (.mp (encK aS eIV (setK k ⟨va,vz,vn⟩ o))):=by
    grind
   have b4:M[mu.length+1]?=some (.it B (seen++[i])):=by
    grind
   have a7:∀ v,(k,v)∈o->False:=fun v hm=>by
    obtain⟨j,P,he⟩:=(I _).1 hm;have h1:(env.map Prod.fst)[j]?=some k:=by rw[zj,he];rfl
    have h2:(env.map Prod.fst)[i]?=some k:=by rw[zj,J];rfl
    have b5:j<(env.map Prod.fst).length:=(qk.1 h1).1
    grind [List.getElem?_inj]
   simp[go_sem];refine⟨i,an,al,aK ?_⟩;refine⟨zS1 e0,zS1 e2,zS1 e3,zS1 p,zS1 a5,?_,by grind [qC],?_,by simp[go_sem, *],_,zVs aq,wh C,fun x v=>?_⟩
   .simp only[go_sem,qC]
    exact⟨zOm,fun j P hn=>by rw[ao j zOm zOm zOm];exact R.same j P hn⟩
   .grind [qC]
   .rw [Zq C,I]
    constructor
    .rintro (e|⟨⟨j,P,he⟩,_⟩)
     .exact ⟨i,zSp,by rw[J,e]⟩
     .exact ⟨j,zP1 P,he⟩
    .rintro ⟨j,P,he⟩
     rcases qK.1 P with P|P
     .refine .inr ⟨⟨j,P,he⟩,fun e=>?_⟩
      simp only at e;subst e;exact a7 v ((I _).2 ⟨j,P,he⟩)
     .rw [qV]at P
      subst P;rw[J]at he;exact .inl (Option.some.inj he).symm
  .simp [go_sem,e2,p]
   have ar:∀ x,x∈o↔x∈env:=fun x=>by
    grind [q8,List.mem_iff_getElem?,qk]
   refine keyS.delete (et:=207) (t:=141) zSi ab trivial (fun _ _=>trivial) ?_;have T:=ZN (k:=nm) C;have a8:∀ x,x∈delK nm o↔x∈delK nm env:=fun x=>by grind [Xu]
   have ad:mu.length<U.mu.length:=zOm;have au:∀ c,(U.mu.set mu.length c)[xb]?=some (.arr (cIn ts tb s)):=fun c=>by rw[zGl,aj];exact hx
   have av:∀ c,(U.mu.set mu.length c)[tb]?=some (.mp (eSet es)):=fun c=>by rw[zGl,R.same tb ah ai];exact ht
   have aw:∀ c,But xb mu (U.mu.set mu.length c):=fun c=>R.setN (qr _) c
   have hD:∀ c,(U.mu.set mu.length c)[mu.length]?=some c:=fun c=>qM ad
   generalize hM:U.mu.set mu.length (.md (encK aS eIV (delK nm o)))=M;have a0:M[xb]?=some (.arr (cIn ts tb s)):=by rw[<-hM];exact au _
   have ae:M[tb]?=some (.mp (eSet es)):=by rw[<-hM];exact av _
   have a9:But xb mu M:=by grind
   have a1:M[mu.length]?=some (.md (encK aS eIV (delK nm o))):=by grind
   have af:mu.length<M.length:=(qk.1 a1).1;have fin:∀(m:Mu)(a2 fs:IEnv)(a3:tA)(s1:ISt),But xb mu m->m[mu.length]?=some (.md (encK aS eIV a2))->(a2.map Prod.fst).Nodup->(fs.map Prod.fst).Nodup->(∀ x,x∈a2↔x∈fs)->m[xb]?=some (.arr (cIn ts tb s1))->((fs,a3),s1)=renI ts es env nm body s ->
     ∃(g:Nat->Bool) (x:AV),Gv m g (.tup [.mp mu.length,aS a3]) x/\x = .tup [eEnv (renI ts es env nm body s).1.1,aS (renI ts es env nm body s).1.2]/\But xb mu (cutM (fun i=>!g i) m 0)/\(cutM (fun i=>!g i) m 0)[xb]?=some (.arr (cIn ts tb (renI ts es env nm body s).2)):=by
    intro m a2 fs a3 s1 hb hd n1 n2 hm b6 e;rw[<-e];refine⟨fun i=>i == mu.length,.tup [eEnv fs,aS a3],.rd _ _ (.tup _ _ rfl fun k x y hx J=>?_),rfl,hb.cut fun i hi=>zSo,?_⟩
    .match k with
     | 0 =>
      simp at hx J;subst hx;subst J;exact qoE (by rw[ub zSp];exact hd) n1 n2 hm
     | 1 =>
      simp at hx J;subst hx;subst J;exact .zsc _
     |k+2=>simp at hx
    grind [ub]
   have ay:∀(b7:St)(K:qX->St->Prop),True:=fun _ _=>trivial
   by_cases hb:body=true
   .subst hb
    simp[go_sem,e0,e3];refine fQ (qbT ts h s (qq ts es) hs tb es aa a0 ae) ?_ (by rintro r m ⟨e,_⟩;cases e);rintro r m ⟨e,rfl⟩;cases e;have hu:=qbU (mu:=M.set xb (.arr (cIn ts tb ⟨zz ts es (qq ts es) s.last,s.sM⟩))) (b:=mu.length) (by rw[zGl];exact a1) nm ⟨none,0,vN (zz ts es (qq ts es) s.last)⟩;simp[go_sem,e2,p];refine cL _ hu ?_;simp[go_sem,p];refine(fin _ _ _ _ ⟨zz ts es (qq ts es) s.last,s.sM⟩ ((a9.trans (cN xb M _)).setN (qr _) _) (qM (zUs af)) (wh T) (wh (ZN hk)) (fun x=>by rw[Zq T,Zq (ZN hk),a8]) (by rw[zGl,qM zOm];rfl) ?_);simp[renI]
   .have hb:body=false:=by simpa using hb
    subst hb;simp[go_sem,e0,e2,e3,a0];refine cQ (Ke ts h nm) (.zk (zn ts) (.zs .nil)) ?_;by_cases a4:means ts nm=[]
    .simp [go_sem,e2,p,a0,a4]
     refine(fin M _ _ _ _ a9 a1 T (ZN hk) a8 a0 ?_);simp[renI,a4]
    .have ag:0<(means ts nm).length:=List.length_pos_iff.2 a4
     simp[go_sem,e0,ag];refine fQ (qbT ts h s (qq ts es) hs tb es aa a0 ae) ?_ (by rintro r m ⟨e,_⟩;cases e);rintro r m ⟨e,rfl⟩;cases e;have hu:=qbU (mu:=M.set xb (.arr (cIn ts tb ⟨zz ts es (qq ts es) s.last,s.sM⟩))) (b:=mu.length) (by rw[zGl];exact a1) nm ⟨none,0,vN (zz ts es (qq ts es) s.last)⟩;simp[go_sem,e2,p];refine cL _ hu ?_;simp[go_sem,p];refine(fin _ _ _ _ ⟨zz ts es (qq ts es) s.last,s.sM⟩ ((a9.trans (cN xb M _)).setN (qr _) _) (qM (zUs af)) (wh T) (wh (ZN hk)) (fun x=>by rw[Zq T,Zq (ZN hk),a8]) (by rw[zGl,qM zOm];rfl) ?_);simp[renI,a4]
end
end YB
namespace Q9
open Y1
def ndOp(op:Int)(ks:List Nd):Nd := .mk op ⟨#[]⟩ 0 ks 0
def UV(nm:tA)(p:Int):Nd := .mk 1 nm 0 [] p
end Q9
namespace PA
open P1 P2 Y1 Y2 Y9 Y15 Y16 Q6
section
variable {inn:Bool}{c c':Ck}{s s':Scp}
def wD(nm:tA)(n:Nd):Prop:=anyN (fun n=>decide (n.name=nm)) n=true
theorem qbV{p}:∀{ks},ur p ks=true↔∃ k,k∈ks/\anyN p k=true
 | []=>by simp[ur]
 |k :: ks=>by
  simp only[ur,Qv,qbV (ks:=ks),qy];constructor
  .rintro (h|⟨x,g,h⟩)
   .exact ⟨k,.inl rfl,h⟩
   .exact ⟨x,.inr g,h⟩
  .rintro ⟨x,rfl|g,h⟩
   .exact .inl h
   .exact .inr ⟨x,g,h⟩
theorem qoH(n):wD n.name n:=by
 unfold wD;rw[UL];simp
theorem qoI{n k nm}(g:k∈n.sD)(h:wD nm k):wD nm n:=by
 unfold wD at h⊢;rw[UL,Qv]
 grind [qbV]
def lookS(nm:tA)(s:Scp):Option Kd:=(js nm s).head?.map Prod.snd
theorem qoJ(nm):lookS nm []=none:=rfl
theorem Zr(nm v)(s:Scp):lookS nm (v :: s)=if v.1=nm then some v.2 else lookS nm s:=by
 grind [lookS,js]
theorem ZZ(c s nm pos):jz c s nm pos=match lookS nm s with
  |some k => .ok (some k)
  |none=>match means c.ts nm with
   | [] => .error (40,pos)
   | [k] => .ok (some k)
   |_ => .error (44,pos):=by
 grind [jz,lookS,js]
theorem qbW{n n'}(j:n'.op=n.op)(l:n'.name=n.name)(r:n'.n=n.n)(t:n'.pos=n.pos)
  (C:z7 c' n.op n.name=z7 c n.op n.name) (J:n.op=1->jz c s n.name n.pos=jz c' s' n.name n.pos) (o:c'.ts.sT=c.ts.sT) (g:zw c' n.name=zw c n.name)
  (p:c'.ts.sS.length=c.ts.sS.length) (i:n'.sD.length=n.sD.length)
  (P:n.op=47->∀ ps,ye c s n.pos ps n.sD=ye c' s' n.pos ps n'.sD)
  (hB:(n.op=15\/n.op=45\/n.op=46)->∀ inn,ym c s inn n.name n.pos n.sD=ym c' s' inn n.name n.pos n'.sD)
  (I:¬n.op=1->¬n.op=47->¬(n.op=15\/n.op=45\/n.op=46)->∀ inn,ze c s inn n.sD=ze c' s' inn n'.sD):exam c s inn n=exam c' s' inn n':=by
 rw[jh,jh,j,l,r,t,C,o,g,p,i];by_cases a:(inn&&z7 c n.op n.name)=true
 .rw [if_pos a,if_pos a]
 rw[if_neg a,if_neg a];by_cases b:n.op=1
 .grind
 rw[if_neg b,if_neg b];by_cases d:n.op=47
 .simp_all
 rw[if_neg d,if_neg d];by_cases e:n.op=15\/n.op=45\/n.op=46
 .rw [if_pos e,if_pos e];exact hB e _
 rw[if_neg e,if_neg e,I b d e]
theorem qbX(f):∀{ks},(∀ k,k∈ks->exam c s inn k=exam c' s' inn (f k))->ze c s inn ks=ze c' s' inn (ks.map f)
 | [],_=>rfl
 |k :: ks,h=>by
  simp only[zQ,ze];rw[h k (zl ..),qbX f fun g i=>h g (zc _ i)]
theorem qbY{pos}(f):∀{ks ps},(∀ k,k∈ks->exam c s true k=exam c' s' true (f k))->ye c s pos ps ks=ye c' s' pos ps (ks.map f)
 | [],ps,_=>by cases ps<;>rfl
 |k :: ks,[],_=>rfl
 |k :: ks,p :: ps,h=>by
  simp only[zQ,ye];rw[h k (zl ..),qbY f (ps:=ps) fun g i=>h g (zc _ i)]
theorem UW{ks}(h:∀ k,k∈ks->exam c s inn k=exam c' s' inn k):ze c s inn ks=ze c' s' inn ks:=by
 have:=qbX (c:=c) (c':=c') (s:=s) (s':=s') (inn:=inn) id (ks:=ks) h
 rwa[List.map_id]at this
theorem qbZ{pos ks ps}(h:∀ k,k∈ks->exam c s true k=exam c' s' true k):ye c s pos ps ks=ye c' s' pos ps ks:=by
 have:=qbY (c:=c) (c':=c') (s:=s) (s':=s') (pos:=pos) id (ks:=ks) (ps:=ps) h
 rwa[List.map_id]at this
structure wE (c c':Ck):Prop where
 sT:c'.ts.sT=c.ts.sT
 sS:c'.ts.sS=c.ts.sS
 sA:c'.ts.sA=c.ts.sA
 calls:c'.calls=c.calls
 timed:c'.timed=c.timed
theorem wE.refl(c):wE c c:=⟨rfl,rfl,rfl,rfl,rfl⟩
theorem wE.callee(h:wE c c')(nm):zw c' nm=zw c nm:=by
 unfold zw;rw[h.sT,h.calls]
theorem wE.time(h:wE c c')(op nm):z7 c' op nm=z7 c op nm:=by
 unfold z7;rw[h.callee,h.timed]
theorem wE.means(h:wE c c')(nm):means c'.ts nm=means c.ts nm:=by
 unfold P1.means;rw[h.sA,h.sS]
theorem qb0(j:wE c c'):∀ m n s s' inn,szN n<=m->(∀ nm,wD nm n->lookS nm s=lookS nm s')->exam c s inn n=exam c' s' inn n
 | 0,n,_,_,_,o,_=>by obtain⟨op,nm,i,ks,p⟩:=n;simp[szN]at o
 |m+1,n,s,s',inn,o,h=>by
  have l:∀ k,k∈n.sD->∀(s s':Scp)(inn:Bool),(∀ nm,wD nm k->lookS nm s=lookS nm s')->exam c s inn k=exam c' s' inn k:=fun k l s s' inn t =>
   qb0 j m k s s' inn (zW1 (yw l)) t
  have r:∀ k,k∈n.sD->∀ nm,wD nm k->lookS nm s=lookS nm s':=fun k l nm C=>h nm (qoI l C)
  refine qbW rfl rfl rfl rfl (j.time _ _) (fun _=>?_) j.sT (j.callee _) (by rw[j.sS]) rfl (fun _ J=>qbZ fun k g=>l k g s s' true (r k g)) (fun _ inn=>?_) (fun _ _ _ inn=>UW fun k g=>l k g s s' inn (r k g))
  .rw [ZZ,ZZ,h _ (qoH n),j.means]
  .cases I:n.sD with
   |nil=>rfl
   |cons k ks =>
    grind [ks,ym,zl,ze,UW,zc,Zr]
def wf(ts:TS)(g:List (tA×Nd)):TS:=⟨ts.sS,ts.sA,ts.sT,g⟩
theorem qoK{J}(g)(l:List J)(i):(repL g l)[i]?=(l[i]?).map fun x=>(l.take i).any fun y=>g x y:=by
 grind [mZ,qA,List.getElem?_eq_none,Qj]
theorem qb1{J}(g)(l:List J)(i):repB g l i=match l[i]? with|some x=>[(l.take i).any fun y=>g x y] | none=>[]:=by
 unfold repB;rw[List.take_add_one,qoK,List.drop_append];by_cases h:i<l.length
 .rw [qA h,List.length_take,Qj,Nat.min_eq_left zOm,List.drop_of_length_le zSo]
  simp
 grind
def binB(op:Int):Bool:=decide (op=15)||decide (op=45)||decide (op=46)
end
end PA
namespace YC
open P1 Y1 YX YZ YA YB PA
section
variable {env:IEnv}{s:ISt}{es:List (tA×Bool)}{F:Nat}{ts:TS}
abbrev XR(J:Type):=Except Dg (J×ISt)
def jx(E:Nd->ISt->XR (Nd×Int)):List (tA×Int)->List Nd->IEnv->ISt->XR IEnv
 |p :: g,k :: ks,own,s=>match E k s with
  | .error e => .error e
  | .ok ((i,m),j)=>jx E g ks (setK p.1 ⟨some i,m,⟨#[]⟩⟩ own) j
 |_,_,own,s => .ok (own,s)
def yR(E:IEnv->Nd->ISt->XR (Nd×Int))(R:IEnv->tA->ISt->(IEnv×tA)×ISt)(bin:Bool):Nat->IEnv->tA->List Nd->ISt->XR (tA×List Nd×Int)
 |_,_,o,[],s => .ok ((o,[],0),s)
 |i,env,o,k :: ks,s =>
  let r:=if bin=true/\i=1 then R env o s else ((env,o),s)
  match E r.1.1 k r.2 with
  | .error e => .error e
  | .ok ((p,m),t)=>match yR E R bin (i+1) r.1.1 r.1.2 ks t with
   | .error e => .error e
   | .ok ((g,j,C),l) => .ok ((g,p :: j,m+C),l)
def uc{J i:Type}(q:XR J)(g:J->ISt->XR i):XR i:=
 match q with
 | .error e => .error e
 | .ok (a,s)=>g a s
theorem Ja{J i q}{g:J->ISt->XR i}{r}(h:uc q g = .ok r):∃ a s,q = .ok (a,s)/\g a s = .ok r:=by
 unfold uc at h;split at h
 .cases h
 .exact ⟨_,_,rfl,h⟩
def expI(ts:TS)(es:List (tA×Bool)):Nat->IEnv->Nd->Bool->ISt->XR (Nd×Int)
 | 0,_,_,_,_ => .error (2,0)
 |f+1,env,n,g,s =>
  if s.sM+1<=4000 then
   if n.op=1 then v7 env n (payS 1 s)
   else if n.op=47 then match ts.sT.find? fun p=>decide (p.name=n.name) with
    |none => .error (2,0)
    |some p=>uc (jx (fun k s=>expI ts es f env k g s) p.params n.sD [] (payS 1 s)) fun own i=>expI ts es f own p.body true i
   else uc (yR (fun env k s=>expI ts es f env k g s) (fun env o s=>renI ts es env o g s) (binB n.op) 0 env n.name n.sD (payS 1 s)) fun r i => .ok ((.mk n.op r.1 n.n r.2.1 n.pos,1+r.2.2),i)
  else .error (2,0)
def yS(ts:TS)(n:Nd):Prop:=∀ x,x∈preN n->x.op=47->∃ p,(ts.sT.find? fun p=>decide (p.name=x.name))=some p/\p.params.length=x.sD.length
theorem qoL{ks k x}(g:k∈ks)(i:x∈preN k):x∈zy ks:=by
 induction ks with
 |nil=>simp at g
 |cons a l j =>
  simp only[zy,qK];rcases qy.1 g with rfl|g
  .exact .inl i
  grind
theorem KR{n k x}(g:k∈n.sD)(i:x∈preN k):x∈preN n:=by
 grind [wC,zc,qoL]
theorem ux(n):n∈preN n:=by rw[wC];exact zl ..
theorem yS.kid{n k}(h:yS ts n)(g:k∈n.sD):yS ts k:=fun x i=>h x (KR g i)
def pot(F:Nat)(s:ISt):Int:=s.sM*F-s.last
structure StOk (F:Nat) (s:ISt):Prop where
 l0:0<=s.last
 c0:0<=s.sM
 c1:s.sM<=4000
 p:0<=pot F s
theorem StOk.last(h:StOk F s):s.last<=4000*F:=by
 have g:s.sM*F<=4000*F:=Int.mul_le_mul_of_nonneg_right h.c1 zOm;have:=h.p
 grind [pot]
structure zx (env:IEnv):Prop where
 nd:(env.map Prod.fst).Nodup
 sz:∀ e,e∈env->0<=e.2.size/\e.2.size<=4000
theorem zx.nil:zx []:=⟨zSp,fun e g=>by simp at g⟩
theorem zx.set(h:zx env){k v}(i:0<=v.size/\v.size<=4000):zx (setK k v env):=
 ⟨wh h.nd,fun e g=>by
  rcases (Zq h.nd).1 g with rfl|⟨g,_⟩
  .exact i
  .exact h.sz e g⟩
theorem zx.del(h:zx env){k}:zx (delK k env):=⟨ZN h.nd,fun e g=>h.sz e ((Xu h.nd).1 g).1⟩
theorem Vh{nm body}(h:zx env):zx (renI ts es env nm body s).1.1:=by
 unfold renI;split
 .exact h.del.set ⟨zSp,zSp⟩
 .exact h.del
theorem KS(ts es):∀ f k,k<zz ts es f k/\zz ts es f k<=k+f+1
 | 0,k=>by grind [zz]
 |f+1,k=>by
  simp only[zz];have:=KS ts es f (k+1);omega
theorem KT{ts es}:∀{f k},(∃ j:Nat,1<=j/\j<=f/\yJ ts es (vN (k+j))=true)->zz ts es f k<=k+f
 | 0,k,⟨j,g,i,_⟩=>zOm
 |f+1,k,⟨j,g,i,l⟩=>by
  simp only[zz];split
  .omega
  .rename_i o
   have p:j≠1:=fun e=>by grind
   have:=KT (ts:=ts) (es:=es) (f:=f) (k:=k+1) ⟨j-1,zOm,zOm,by grind⟩;omega
def Free(ts:TS)(es:List (tA×Bool)):Prop:=∀ l:Int,0<=l->∃ j:Nat,1<=j/\j<=qq ts es/\yJ ts es (vN (l+j))=true
theorem Vi(g:Free ts es){env nm body s}(i:0<=s.last):0<=(renI ts es env nm body s).2.last/\(renI ts es env nm body s).2.last<=s.last+(qq ts es:Nat)/\(renI ts es env nm body s).2.sM=s.sM:=by
 unfold renI;split
 .have l:=KS ts es (qq ts es) s.last
  have j:=KT (g s.last i);refine⟨?_,j,rfl⟩
  grind
 .exact ⟨i,by grind,rfl⟩
structure Gos (F:Nat) (s s':ISt) (z:Int):Prop where
 l0:0<=s'.last
 c1:s'.sM<=4000
 z0:0<=z
 cz:s.sM+z<=s'.sM
 p:pot F s<=pot F s'
theorem Gos.ok{s' z}(g:Gos F s s' z)(h:StOk F s):StOk F s':=⟨g.l0,by have:=g.cz;have:=g.z0;have:=h.c0;omega,g.c1,zW2 g.p h.p⟩
theorem Z0(F s n):pot F (payS n s)=pot F s+n*F:=by
 grind [pot,payS,Int.add_mul]
theorem Qo(h:StOk F s){n}(g:0<=n)(i:s.sM+n<=4000):Gos F s (payS n s) n:=
 ⟨h.l0,i,g,vh _,by rw[Z0];have:0<=n*(F:Int):=Int.mul_nonneg g zOm;omega⟩
theorem qoM{n n' s' z}(h:StOk F s)(l:zx env)(t:s.sM+1<=4000)(e:v7 env n (payS 1 s) = .ok ((n',z),s')):Gos F s s' z:=by
 have j:=Qo h (n:=1) zOm t;unfold v7 at e;cases o:getK n.name env with
 |none=>grind
 |some v =>
  rw[o]at e;have C:=l.sz _ ((Zb l.nd).1 o);obtain⟨I,r,P⟩:=v;cases I with
  |none=>cases e;exact j
  |some a =>
   simp only at e;split at e
   .rename_i J
    have i:0<=r/\r<=4000:=C;cases e;have g:=Qo (j.ok h) i.1 J;exact⟨g.l0,g.c1,i.1,zW2 g.cz j.cz,zW2 g.p j.p⟩
   .cases e
theorem KU{E}:∀{ks ps own i s s'},(∀ k n' z s s',k∈ks->StOk F s->E k s = .ok ((n',z),s')->Gos F s s' z)->StOk F s->zx own ->
  jx E ps ks own s = .ok (i,s')->zx i/\Gos F s s' 0
 | [],ps,own,i,s,s',_,h,j,e=>by
  have e:Except.ok (own,s)=(Except.ok (i,s'):XR IEnv):=by cases ps<;>exact e
  cases e;exact⟨j,h.l0,h.c1,zOm,zOm,vh _⟩
 |k :: ks,[],own,i,s,s',_,h,j,e=>by
  cases e;exact⟨j,h.l0,h.c1,zOm,zOm,vh _⟩
 |k :: ks,p :: ps,own,i,s,s',o,h,j,e=>by
  simp only[jx]at e;split at e
  .cases e
  .rename_i r m s1 t
   have g:=o k r m s s1 (zl ..) h t;have C:m<=4000:=by have:=g.cz;have:=g.c1;have:=h.c0;omega
   obtain⟨I,l⟩:=KU (fun k n' z s s' J=>o k n' z s s' (zc _ J)) (g.ok h) (j.set (v:=⟨some r,m,⟨#[]⟩⟩) ⟨g.z0,C⟩) e;exact⟨I,l.l0,l.c1,zOm,by have:=g.cz;have:=g.z0;have:=l.cz;omega,zW2 g.p l.p⟩
def dueN(F:Nat)(bin:Bool)(i:Nat):Int:=if bin=true/\i<=1 then F else 0
theorem Z1(F bin i):0<=dueN F bin i:=by unfold dueN;split<;>omega
theorem UX{bin i}(h:¬(bin=true/\i=1)):dueN F bin i=dueN F bin (i+1):=by
 unfold dueN;by_cases g:bin=true
 .by_cases l:i=1
  .grind
  .by_cases j:i<=1
   .rw [if_pos ⟨g,j⟩,if_pos ⟨g,zOm⟩]
   omega
 grind
theorem qb2{E R bin}(P:∀ env nm s,0<=s.last->zx env->zx (R env nm s).1.1/\0<=(R env nm s).2.last/\(R env nm s).2.last<=s.last+(F:Int)/\(R env nm s).2.sM=s.sM) :
  ∀{ks i env nm j s s' l m},(∀ env k n' z s s',k∈ks->StOk F s->zx env->E env k s = .ok ((n',z),s')->Gos F s s' z)->0<=s.last->0<=s.sM->s.sM<=4000->dueN F bin i<=pot F s->zx env ->
  yR E R bin i env nm ks s = .ok ((j,l,m),s')->0<=s'.last/\s'.sM<=4000/\0<=m/\s.sM+m<=s'.sM/\pot F s-dueN F bin i<=pot F s'
 | [],i,env,nm,j,s,s',l,m,_,T,c0,c1,hp,U,e=>by
  cases e;have:=Z1 F bin i;omega
 |k :: ks,i,env,nm,j,s,s',l,m,hE,T,c0,c1,hp,U,e=>by
  simp only[yR]at e;obtain⟨r,t⟩:∃ r,r=if bin=true/\i=1 then R env nm s else ((env,nm),s):=⟨_,rfl⟩
  rw[<-t]at e;have I:zx r.1.1/\0<=r.2.last/\r.2.sM=s.sM/\dueN F bin (i+1)<=pot F r.2/\pot F s-dueN F bin i<=pot F r.2-dueN F bin (i+1):=by
   by_cases C:bin=true/\i=1
   .rw [if_pos C]at t
    obtain⟨a1,a2,a3,a4⟩:=P env nm s T U;have d1:dueN F bin i=F:=if_pos ⟨C.1,zOm⟩;have d2:dueN F bin (i+1)=0:=zIn
    grind [pot]
   .rw [if_neg C]at t
    subst t;have d':dueN F bin i=dueN F bin (i+1)\/(bin=true/\i=1):=by
     unfold dueN;by_cases o:bin=true
     .by_cases h1:i=1
      .grind
      .left
       by_cases h0:i<=1
       .rw [if_pos ⟨o,h0⟩,if_pos ⟨o,zOm⟩]
       omega
     grind
    have a0:dueN F bin i=dueN F bin (i+1):=d'.elim id fun h=>absurd h C
    grind
  obtain⟨b1,b2,b3,b4,b5⟩:=I;split at e
  .cases e
  .rename_i k' m1 s1 h1
   have J:StOk F r.2:=⟨b2,zOm,zOm,zW1 (Z1 F bin (i+1))⟩;have g:=hE r.1.1 k k' m1 r.2 s1 (zl ..) J b1 h1;split at e
   .cases e
   .rename_i a5 a6 m2 s2 h2
    have:=qb2 P (fun env k n' z s s' hk=>hE env k n' z s s' (zc _ hk)) g.l0 (zW2 g.cz g.z0) g.c1 (zW1 g.p) b1 h2;obtain⟨q1,q2,q3,q4,q5⟩:=this;cases e;have:=g.cz;have:=g.z0;have:=g.p;omega
theorem jW(ts){es}(g:Free ts es):∀(f){env n n' body s s' z},StOk (qq ts es) s->zx env->expI ts es f env n body s = .ok ((n',z),s')->Gos (qq ts es) s s' z
 | 0,_,_,_,_,_,_,_,_,_,e=>by cases e
 |f+1,env,n,n',body,s,s',z,h,P,e=>by
  simp only[expI]at e;split at e
  .rename_i R
   have i:=Qo h (n:=1) zOm R;split at e
   .grind [qoM]
   .split at e
    .split at e
     .cases e
     .rename_i p _
      .obtain ⟨own,s1,t,e⟩:=Ja e
       obtain⟨T,g1⟩:=KU (F:=qq ts es) (fun k n' z s s' _ C I=>jW ts g f C P I) (i.ok h) .nil t;have j:=jW ts g f (g1.ok (i.ok h)) T e;exact⟨j.l0,j.c1,j.z0,by have:=j.cz;have:=g1.cz;have:=i.cz;omega,by have:=j.p;have:=g1.p;have:=i.p;omega⟩
    ·.obtain ⟨⟨l,r,m⟩,s1,t,e⟩:=Ja e
      cases e;have U:dueN (qq ts es) (binB n.op) 0<=pot (qq ts es) (payS 1 s):=by
       rw[Z0];have:=h.p;grind [dueN]
      have:=qb2 (F:=qq ts es) (fun env o s hl J=>⟨Vh J,Vi g hl⟩) (fun env k n' z s s' _ C J I=>jW ts g f C J I) i.l0 (by have:=(i.ok h).c0;exact this) i.c1 U P t;obtain⟨q1,q2,q3,q4,q5⟩:=this;have a0:dueN (qq ts es) (binB n.op) 0<=(qq ts es:Nat):=by grind [dueN]
      rw[Z0]at q5;have a1:0<=(l,r,m).snd.snd:=q3;have a2:(payS 1 s).sM+(l,r,m).snd.snd<=s'.sM:=q4;exact⟨q1,q2,zOm,zW1 i.cz,zOm⟩
  .cases e
end
end YC
namespace E6
end E6
namespace YD
open YM YF P1 P2 Y1 Y2 Y6 Y7 Y9 Y10 Y13 YX YZ YB PA YC
section
variable {mu:Mu}{b:Nat}
theorem qoN(p n):qi qe 120 [.agg (cPd p),.ip (cNd n)] (aB (decide (p.name=n.name))):=by
 refine qSV call120 func120 rfl ?_;by_cases h:p.name=n.name
 .simp [go_sem,h]
  exact .zsc _
 .simp [go_sem,h,jV h]
  exact .zsc _
def endE(ts:TS)(tb:Nat)(mu:Mu)(xb:Nat)(r:XR (Nd×Int))(e:AEnd)(m:Mu):Prop:=
 match r with
 | .ok ((n,k),s)=>e = .ret (.tup [eNd n,aI k])/\m[xb]?=some (.arr (cIn ts tb s))/\But xb mu m
 | .error d=>e = .pan (jU d.1 d.2)/\But xb mu m
def IHE(ts : TS)(es : List (tA × Bool))(tb f : Nat) : Prop := ∀(env : IEnv)(n : Nd)(g : Bool)(s : ISt)(C : Mu)(i : Nat), 4000 < s.sM + f->StOk (qq ts es) s->zx env->WfN n->yS ts n->C[i]? = some (.arr (cIn ts tb s))->C[tb]? = some (.mp (eSet es)) ->
      qE qe 73 [.ptr i 0,eEnv env,eNd n,aB g] C (endE ts tb C i (expI ts es f env n g s))
structure M0 (ts:TS) (es:List (tA×Bool)) (tb:Nat) (mu:Mu) (xb:Nat) (n:Nd) (s:ISt) (M:Mu):Prop where
 len:M.length=mu.length+2
 x:M[xb]?=some (.arr (cIn ts tb s))
 t:M[tb]?=some (.mp (eSet es))
 n:M[mu.length]?=some (.arr (cNd n))
 r:M[mu.length+1]?=some (.arr [aI 0,aS ⟨#[]⟩,aI 0,.lst true [],aI 0])
 but:But xb mu M
theorem M0.of{ts es tb xb n s s'}(g:mu[xb]?=some (.arr (cIn ts tb s)))(i:mu[tb]?=some (.mp (eSet es))) :
  M0 ts es tb mu xb n s' ((mu++[Cell.arr (cNd n),Cell.arr [aI 0,aS ⟨#[]⟩,aI 0,.lst true [],aI 0]]).set xb (.arr (cIn ts tb s'))):=by
 have j:xb<mu.length:=(qk.1 g).1;have l:tb<mu.length:=(qk.1 i).1;have o:tb≠xb:=fun e=>by grind
 refine⟨zSp,qM zSo,?_,?_,?_,(But.app xb mu _).trans (cN xb _ _)⟩
 .grind
 .grind
 grind
theorem qoO(ts es tb env n body s mu xb)(J:StOk (qq ts es) s)(P:zx env)(R:mu[xb]?=some (.arr (cIn ts tb s)))(T:mu[tb]?=some (.mp (eSet es)))(t:n.op=1) :
  qE qe 73 [.ptr xb 0,eEnv env,eNd n,aB body] mu (endE ts tb mu xb (if s.sM+1<=4000 then v7 env n (payS 1 s) else .error (2,0))):=by
 have U:=J.c0;have a0:=J.c1;refine qSW call73 func73 rfl { mt:=[6] } ?_;have a1:xb<mu.length:=(qk.1 R).1;simp[go_sem];refine fQ (payU ts tb s 1 ⟨zOm,zOm⟩ ⟨zOm,zOm⟩ (by grind)) ?_ ?_
 .rintro r m ⟨rfl,e⟩
  by_cases C:s.sM+1<=4000
  .rw [if_pos C]at e⊢
   cases e;have l:=M0.of (s':=payS 1 s) (n:=n) R T;generalize a2:(mu++[Cell.arr (cNd n),.arr [aI 0,aS ⟨#[]⟩,aI 0,.lst true [],aI 0]]).set xb (.arr (cIn ts tb (payS 1 s)))=M at *
   simp[go_sem,l.n,t];have g:=qlX ts tb (payS 1 s) ⟨by show _<=s.sM+1;omega,by show s.sM+1<=_;omega⟩ env P.nd (fun e hm=>zW1 (P.sz e hm)) n l.x;generalize v7 env n (payS 1 s)=Q at *
   have a3:=l.len;cases Q with
   |error d =>
    refine fQ g (by rintro r m ⟨e,_⟩;cases e) ?_;rintro r m ⟨e,i,j⟩;cases e;simp[go_sem];exact⟨rfl,l.but.trans ⟨j,i⟩⟩
   |ok q =>
    obtain⟨⟨n',k'⟩,s'⟩:=q;refine fQ g ?_ (by rintro r m ⟨e,_⟩;cases e);rintro r m ⟨e,a4,i,j⟩;cases e;have I:m[mu.length+1]?=some (.arr [aI 0,aS ⟨#[]⟩,aI 0,.lst true [],aI 0]):=by grind
    have o:mu.length+1<m.length:=zOm;have p:∀ c,(m.set (mu.length+1) c)[mu.length+1]?=some c:=fun c=>qM o
    simp[go_sem,I,p];exact⟨rfl,by grind,(l.but.trans ⟨j,i⟩).setN zOm _⟩
  grind
 .rintro r m ⟨rfl,e⟩
  by_cases C:s.sM+1<=4000
  .grind
  .rw [if_neg C]at e⊢
   cases e;simp[go_sem];exact⟨rfl,(But.app xb mu _).trans (cN xb _ _)⟩
theorem qb3{cs}(j:mu[b]?=some (.arr cs))(h:∀ c,c∈cs->HF c):Rd mu (.ptr b 0) (.ip cs):=
 .ptr b 0 cs cs j zSp fun k x y g i=>by
  rw[yf]at g;rw[g]at i;cases i;exact .hf _ (h _ (q8 g))
abbrev AP:=Nat×Int×Nd
abbrev eAP(a:AP):AV := .agg [.ptr a.1 0,aI a.2.1,aS ⟨#[]⟩]
abbrev ivA(a:AP):IV:=⟨some a.2.2,a.2.1,⟨#[]⟩⟩
abbrev ownA(acc:List (tA×AP)):IEnv:=acc.map fun e=>(e.1,ivA e.2)
theorem KV{i J j}[DecidableEq i](g:J->j)(k v):∀ es:List (i×J),(setK k v es).map (fun e=>(e.1,g e.2))=setK k (g v) (es.map fun e=>(e.1,g e.2))
 | []=>rfl
 |e :: es=>by
  simp only[setK,zQ];split
  .rfl
  .rw [zQ,KV g k v es]
theorem updAP{es}(i:mu[b]?=some (.mp (encK aS eAP es)))(nm v) :
  jR qe mu 141 (.mp b) (aS nm) (eAP v)=some (mu.set b (.mp (encK aS eAP (setK nm v es)))):=
 keyS.update (et:=207) (t:=141) zSi (mu:=mu) (b:=b) (venc:=eAP) (es:=es) i (k:=nm) (v:=v) trivial (fun _ _=>trivial)
theorem qb4{acc}(o:mu[b]?=some (.mp (encK aS eAP acc)))(r:(acc.map Prod.fst).Nodup)(p:∀ e,e∈acc->mu[e.2.1]?=some (.arr (cNd e.2.2.2))):Rd mu (.mp b) (eEnv (ownA acc)):=by
 have j:((ownA acc).map Prod.fst).Nodup:=by
  grind
 have get:∀(k:Nat)(x y:AV×AV),(encK aS eAP acc)[k]?=some x->(encK aS eIV (ownA acc))[k]?=some y->∃ e,e∈acc/\x=(aS e.1,eAP e.2)/\y=(aS e.1,eIV (ivA e.2)):=fun k x y g i=>by
  grind
 refine .ims _ _ _ id id (PIx.refl _) (KQ j) (.mp b _ _ o zSp (fun k x y g i=>?_) (fun k x y g i=>?_))
 .obtain ⟨e,l,rfl,rfl⟩:=get k x y g i
  exact .zsc _
 .obtain ⟨e,l,rfl,rfl⟩:=get k x y g i
  refine .agg _ _ rfl fun k x y g i=>?_
  match k with
  | 0 =>
   simp at g i;subst g;subst i;exact qb3 (p e l) (vJ _)
  | 1=>simp at g i;subst g;subst i;exact .zsc _
  | 2=>simp at g i;subst g;subst i;exact .zsc _
  |k+3=>simp at g
theorem qoP{ps:List Pd}{g p}(h:ps.find? g=some p):∃ i,∃ j:i<ps.length,ps[i]=p/\idxI ps g=i:=by
 grind [List.find?_eq_some_iff_getElem,XF]
theorem qoQ(ts)(h:okTS ts)(hb:∀ p,p∈ts.sT->WfN p.body/\yS ts p.body)(es)(hF:qq ts es<=200000)(b0:Free ts es)(tb f)(ih:IHE ts es tb f)(env n body)(s:ISt)(mu xb)
  (hc:4000<s.sM+(f+1:Nat)) (hs:StOk (qq ts es) s) (he:zx env) (hw:WfN n) (aj:yS ts n) (hx:mu[xb]?=some (.arr (cIn ts tb s))) (ht:mu[tb]?=some (.mp (eSet es))) (ab:n.op=47) :
  qE qe 73 [.ptr xb 0,eEnv env,eNd n,aB body] mu (endE ts tb mu xb (expI ts es (f+1) env n body s)):=by
 have bq:=hs.c0;have br:=hs.c1;generalize J:expI ts es (f+1) env n body s=R;simp only[expI,ab]at J;obtain⟨p,hp,b1⟩:=aj n (ux n) ab;rw[hp]at J;refine qSW call73 func73 rfl { mt:=[6] } ?_;have bs:xb<mu.length:=(qk.1 hx).1;have b2:tb<mu.length:=(qk.1 ht).1;simp[go_sem];refine fQ (payU ts tb s 1 ⟨zOm,zOm⟩ ⟨zOm,zOm⟩ (by grind)) ?_ ?_
 .rintro r m ⟨rfl,e⟩
  by_cases T:s.sM+1<=4000
  .rw [if_pos T]at e J
   cases e;have hM:=M0.of (s':=payS 1 s) (n:=n) hx ht;generalize bt:(mu++[Cell.arr (cNd n),.arr [aI 0,aS ⟨#[]⟩,aI 0,.lst true [],aI 0]]).set xb (.arr (cIn ts tb (payS 1 s)))=M at *
   have bu:=hM.len;simp[go_sem,hM.n,ab];refine qj.fz (FzQ.one (b:=mu.length) (d:=6) (x := .ip (cNd n)) ?_ ?_)
   .simp [go_sem]
    grind [qb3,ub,vJ]
   have ak:(cutM (fun j=>!(j == mu.length)) M 0)[xb]?=some (.arr (cIn ts tb (payS 1 s))):=by grind [ub]
   have bn:(cutM (fun j=>!(j == mu.length)) M 0)[tb]?=some (.mp (eSet es)):=by grind [ub]
   have bo:(cutM (fun j=>!(j == mu.length)) M 0)[mu.length+1]?=some (.arr [aI 0,aS ⟨#[]⟩,aI 0,.lst true [],aI 0]):=by grind [ub]
   have al:But xb mu (cutM (fun j=>!(j == mu.length)) M 0):=hM.but.cut fun i hi=>zSo
   have a8:(cutM (fun j=>!(j == mu.length)) M 0).length=mu.length+2:=by grind [jP]
   simp only[qC];generalize cutM (fun j=>!(j == mu.length)) M 0=M1 at *
   refine cH zKr ?_;simp[go_sem,ak];obtain⟨i,hi,b3,an⟩:=qoP hp;have b4:JS qe (.fn (.func 120) [] [.ip (cNd n)]) ts.sT (fun x => .agg (cPd x)) (fun p=>decide (p.name=n.name)):=⟨_,_,_,rfl,fun p hp=>⟨_,qoN p n,.zk (HF.agg (Un p)) (.zk (J7 n) .nil)⟩⟩;refine cQ (XG false ts.sT _ (fun p=>decide (p.name=n.name)) b4 (zW1 h.np)) (.zk (Zg _) (.zk (HF.fn zSp (fun x hx=>by grind [J7])) .nil)) ?_;rw[an];have b5:p∈ts.sT:=List.mem_of_find?_eq_some hp;obtain⟨b6,b7⟩:=hb p b5;have ao:=hw.len;have a5:=Zh p;simp[go_sem,hi,b3,a5];have aq:StOk (qq ts es) (payS 1 s):=(Qo hs zOm T).ok hs;have J:uc (jx (fun k s=>expI ts es f env k body s) p.params n.sD [] (payS 1 s)) (fun own s'=>expI ts es f own p.body true s')=R:=zUs J;generalize hQ:jx (fun k s=>expI ts es f env k body s) p.params n.sD [] (payS 1 s)=Q at *
   refine kL n.sD.length (fun k U=>∃(o:List (tA×AP)) (P:ISt),U.tm 0 = .ptr xb 0/\U.tm 1=eEnv env/\U.tm 3=aB body/\U.tm 8 = .ptr (mu.length+1) 0/\U.tm 10 = .ptr (mu.length+2) 0/\U.tm 11 = .mp (mu.length+3)/\U.tm 52=lNd n.sD/\U.tm 53=aI n.sD.length/\U.tm 54=aI k /\
    But xb mu U.mu/\mu.length+3<U.mu.length/\U.mu[xb]?=some (.arr (cIn ts tb P))/\U.mu[mu.length+1]?=some (.arr [aI 0,aS ⟨#[]⟩,aI 0,.lst true [],aI 0])/\U.mu[mu.length+2]?=some (.arr (cPd p))/\U.mu[mu.length+3]?=some (.mp (encK aS eAP o)) /\
    (∀ e,e∈o->mu.length+3<e.2.1/\e.2.1<U.mu.length/\U.mu[e.2.1]?=some (.arr (cNd e.2.2.2)))/\zx (ownA o)/\(o.map Prod.fst).Nodup/\StOk (qq ts es) P/\s.sM+1<=P.sM/\jx (fun k s=>expI ts es f env k body s) (p.params.drop k) (n.sD.drop k) (ownA o) P=Q) ?_ ?_
   .refine ⟨[],payS 1 s,zSi,zSi,zSi,zSi,by simp[go_sem,a8],by simp[go_sem,a8],zSi,zSi,zSi,?_,?_,?_,?_,?_,?_,zSp,.nil,zSp,aq,by show _<=s.sM+1;omega,zUs hQ⟩
    all_goals simp only[qC]
    .exact al.trans (But.app xb M1 _)
    .simp;omega
    .grind
    .grind
    .grind
    grind
   .rintro k U hk ⟨o,P,e0,e1,e3,e8,ad,ae,ar,af,ag,C,hl,gx,gr,gp,gm,au,a9,ah,a6,b8,hI⟩
    have b9:U.mu[tb]?=some (.mp (eSet es)):=by rw[C.same tb b2 (fun e=>by grind)];exact ht
    by_cases ao:k=n.sD.length
    .subst ao
     simp[go_sem,e0,ad,ae,af,ag,gp];rw[zZ,List.drop_of_length_le zOm]at hI;have hI:Q = .ok (ownA o,P):=hI.symm;rw[hI]at J;have J:expI ts es f (ownA o) p.body true P=R:=J;have av:∀ i,i<mu.length+3->(cutM (fun i=>!decide (mu.length+3<=i)) U.mu 0)[i]?=U.mu[i]?:=fun i hi=>ub zSo
     have g:=ih (ownA o) p.body true P (cutM (fun i=>!decide (mu.length+3<=i)) U.mu 0) xb zOm a6 a9 b6 b7 (by grind) (by grind);rw[J]at g;have g:=qE.freeze (mu:=U.mu) (args:=[.ptr xb 0,.mp (mu.length+3),eNd p.body,aB true]) (args1:=[.ptr xb 0,eEnv (ownA o),eNd p.body,aB true]) (fun i=>decide (mu.length+3<=i)) ⟨.inl rfl,.inr (qb4 (by grind [ub]) ah (fun e he=>by
      grind [ub])),.inl rfl,.inl rfl,trivial⟩ g
     cases R with
     |error d =>
      refine fQ g (by rintro r m ⟨e,_⟩;cases e) ?_;rintro r m ⟨e,t⟩;cases e;simp[go_sem];exact⟨rfl,(C.cut fun i hi=>zSo).trans t⟩
     |ok q =>
      obtain⟨⟨n',k'⟩,s'⟩:=q;refine fQ g ?_ (by rintro r m ⟨e,_⟩;cases e);rintro r m ⟨e,aw,t⟩;cases e;have ai:=t.len;rw[jP]at ai;have ax:mu.length+1<m.length:=zOm;have bc:m[mu.length+1]?=some (.arr [aI 0,aS ⟨#[]⟩,aI 0,.lst true [],aI 0]):=by rw[t.same _ (by rw[jP];omega) zOm,av _ zOm];exact gr
      have ay:∀ c,(m.set (mu.length+1) c)[mu.length+1]?=some c:=fun c=>qM ax
      simp[go_sem,e8,bc,ay];refine⟨rfl,by grind,?_⟩;exact((C.cut fun i hi=>zSo).trans t).setN zOm _
    .have a7:k<n.sD.length:=by omega
     have w1:=zWk k;have aa:k<p.params.length:=zOm;rw[zp a7,zp aa]at hI;simp only[jx]at hI;simp[go_sem,e0,e1,e3,ar,af,ag,a7];have a0:∀ i,i<U.mu.length->(U.mu++[Cell.arr (cNd n.sD[k])])[i]?=U.mu[i]?:=fun i hi=>qN hi
     have az:n.sD[k]∈n.sD:=qs a7;have g:=ih env n.sD[k] body P (U.mu++[Cell.arr (cNd n.sD[k])]) xb zOm a6 he (hw.kid az) (aj.kid az) (by grind) (by rw[a0 _ zOm];exact b9);have be:∀{n' z s'},expI ts es f env n.sD[k] body P = .ok ((n',z),s')->Gos (qq ts es) P s' z:=fun e=>jW ts b0 f a6 he e
     generalize hE:expI ts es f env n.sD[k] body P=E at *
     cases E with
     |error d =>
      have hI:Q = .error d:=hI.symm;rw[hI]at J;have J:R = .error d:=J.symm;subst J;refine fQ g (by rintro r m ⟨e,_⟩;cases e) ?_;rintro r m ⟨e,t⟩;cases e;simp[go_sem];exact⟨rfl,C.trans ((But.app xb U.mu _).trans t)⟩
     |ok q =>
      obtain⟨⟨n',k'⟩,s'⟩:=q;have hg:=be rfl;simp only at hI;refine fQ g ?_ (by rintro r m ⟨e,_⟩;cases e);rintro r m ⟨e,aw,t⟩;cases e;have ai:=t.len;simp only[za,zu,List.length_nil]at ai;have I:∀ i,i<U.mu.length->i≠xb->m[i]?=U.mu[i]?:=fun i hi bg=>by rw[t.same i zSo bg,a0 i hi]
      have bh:∀ l,(m++l)[mu.length+2]?=some (.arr (cPd p)):=fun l=>by rw[zGa,I _ zOm zOm];exact gp
      have bi:∀ l,(m++l)[mu.length+3]?=some (.mp (encK aS eAP o)):=fun l=>by grind
      have hu:=fun l=>updAP (bi l) p.params[k].1 (m.length,k',n')
      simp[go_sem,ad,ae,bh,aa];refine cL _ (hu _) ?_;generalize hN:(m++[Cell.arr (cNd n')]).set (mu.length+3) (.mp (encK aS eAP (setK p.params[k].1 (m.length,k',n') o)))=N;have bv:N.length=m.length+1:=by rw[<-hN];simp
      have a4:∀ i,i<m.length->i≠mu.length+3->N[i]?=m[i]?:=fun i h1 h2=>by rw[<-hN,zGl,qN h1]
      have bj:N[mu.length+3]?=some (.mp (encK aS eAP (setK p.params[k].1 (m.length,k',n') o))):=by rw[<-hN,qM zSo]
      have bk:N[m.length]?=some (.arr (cNd n')):=by rw[<-hN,zGl,zJ (qr _)];simp
      simp[go_sem,ag,w1];refine⟨a7,aK ?_⟩;have bm:k'<=4000:=zW2 hg.cz hg.c1;refine⟨setK p.params[k].1 (m.length,k',n') o,s',zS1 e0,zS1 e1,zS1 e3,zS1 e8,zS1 ad,zS1 ae,zS1 ar,zS1 af,zSi,?_,?_,?_,?_,?_,?_,?_,?_,wh ah,hg.ok a6,zW2 hg.cz hg.z0,?_⟩
      all_goals try simp only[qC]
      .refine ⟨zW1 C.len,fun i h1 h2=>?_⟩
       rw[a4 i zOm zOm,I i zOm h2];exact C.same i h1 h2
      .omega
      .rw [a4 _ zOm zOm];exact aw
      .rw [a4 _ zOm zOm,I _ zOm zOm];exact gr
      .rw [a4 _ zOm zOm,I _ zOm zOm];exact gp
      .exact bj
      .intro e he
       rcases (Zq ah).1 he with rfl|⟨he,_⟩
       .exact ⟨by show _<m.length;omega,by show m.length<_;omega,bk⟩
       .obtain ⟨a1,a2,a3⟩:=au e he
        exact⟨a1,zOm,by rw[a4 _ zOm zOm,I _ zOm zOm];exact a3⟩
      .unfold ownA
       rw[KV (fun a:AP=>ivA a)];exact a9.set ⟨hg.z0,bm⟩
      .unfold ownA
       rw[KV (fun a:AP=>ivA a)];exact hI
  grind
 .rintro r m ⟨rfl,e⟩
  by_cases T:s.sM+1<=4000
  .rw [if_pos T]at e;cases e
  .rw [if_neg T]at e J
   cases e;subst J;simp[go_sem];exact⟨rfl,(But.app xb mu _).trans (cN xb _ _)⟩
theorem qb5(op):decide (op=15\/op=45\/op=46)=binB op:=by
 grind [binB]
theorem Zs{lo sz mu' av xs}(h:OwnF lo mu sz av xs)(l:lo<=mu'.length)(o:∀ i,lo<=i->i<mu.length->mu'[i]?=mu[i]?):OwnF lo mu' sz av xs:=by
 obtain⟨p,g,_⟩:=h;refine⟨?_,g,l⟩;rcases p with rfl|⟨b,rfl,j⟩
 .exact .inl rfl
 .exact .inr ⟨b,rfl,by rw[o b (g b _ _ _ rfl) (qk.1 j).1];exact j⟩
theorem UY(l:List Nd):zm 5 (l.map cNd):=fun r g=>by
 obtain⟨n,_,rfl⟩:=qn.1 g
 grind [Yo,Yp]
theorem UZ{lo s xs k K}(j:OwnF lo mu 5 s (xs.map cNd))(l:xs.length<=100000)(o:∀ av mu',OwnF lo mu' 5 av ((xs++[k]).map cNd)->(∀ i,i<lo->mu'[i]?=mu[i]?)->K av mu') :
  qz qe mu #[33,33] s (.lst true [cNd k]) K:=by
 refine qz.ownF (lo:=lo) (e:=35) (sz:=5) (bt:=64) (zv := .agg [aI 0,aS ⟨#[]⟩,aI 0,.lst true [],aI 0]) (xs:=xs.map cNd) (ys:=[cNd k]) zSi zSi zSi rfl rfl zOm zOm j (by simp[qD]) (UY xs) (UY [k]) zSo ?_
 grind
theorem qoR(ts)(h:okTS ts)(es)(hF:qq ts es<=200000)(ax:Free ts es)(tb f)(ih:IHE ts es tb f)(env n body)(s:ISt)(mu xb)
  (hc:4000<s.sM+(f+1:Nat)) (hs:StOk (qq ts es) s) (he:zx env) (hw:WfN n) (bo:yS ts n) (hx:mu[xb]?=some (.arr (cIn ts tb s))) (ht:mu[tb]?=some (.mp (eSet es))) (h1:¬n.op=1) (h47:¬n.op=47) :
  qE qe 73 [.ptr xb 0,eEnv env,eNd n,aB body] mu (endE ts tb mu xb (expI ts es (f+1) env n body s)):=by
 have cx:=hs.c0;have cy:=hs.c1;have da:xb<mu.length:=(qk.1 hx).1;have cj:tb<mu.length:=(qk.1 ht).1;have bt:tb≠xb:=fun e=>by grind
 generalize hR:expI ts es (f+1) env n body s=R;simp only[expI,h1,h47,if_false]at hR;refine fH ?_;refine qSW call73 func73 rfl { mt:=[6] } ?_;simp[go_sem];refine fQ (payU ts tb s 1 ⟨zOm,zOm⟩ ⟨zOm,zOm⟩ (by grind)) ?_ ?_
 .rintro r m ⟨rfl,e⟩
  by_cases a8:s.sM+1<=4000
  .rw [if_pos a8]at e hR
   cases e;have hM:=M0.of (s':=payS 1 s) (n:=n) hx ht;generalize db:(mu++[Cell.arr (cNd n),.arr [aI 0,aS ⟨#[]⟩,aI 0,.lst true [],aI 0]]).set xb (.arr (cIn ts tb (payS 1 s)))=M at *
   have dc:=hM.len;have bu:=hw.len;have ay:StOk (qq ts es) (payS 1 s):=(Qo hs zOm a8).ok hs;have bv:∀ c,(M.set mu.length c)[mu.length]?=some c:=fun c=>qM zOm
   have ck:=yB n;simp[go_sem,hM.n,h1,h47,ck];refine kL n.sD.length (fun k U=>∃(J:List Nd) (j:IEnv) (I:tA) (s2:ISt) (t:AV) (z:Int),U.tm 0 = .ptr xb 0/\U.tm 1=eEnv j/\U.tm 3=aB body/\U.tm 6 = .ptr mu.length 0/\U.tm 8 = .ptr (mu.length+1) 0/\U.tm 17=aI z/\U.tm 87=lNd n.sD/\U.tm 88=aI n.sD.length/\U.tm 89=aI k /\
    But xb mu U.mu/\U.mu[xb]?=some (.arr (cIn ts tb s2))/\U.mu[mu.length+1]?=some (.arr [aI 0,aS ⟨#[]⟩,aI 0,.lst true [],aI 0])/\U.mu[mu.length]?=some (.arr [aI n.op,aS I,aI n.n,t,aI n.pos])/\OwnF (mu.length+2) U.mu 5 t (J.map cNd)/\zx j/\J.length=k /\
    0<=s2.last/\0<=s2.sM/\s2.sM<=4000/\dueN (qq ts es) (binB n.op) k<=pot (qq ts es) s2/\s.sM+1<=s2.sM/\1<=z/\z<=s2.sM-s.sM /\
    uc (yR (fun env k s=>expI ts es f env k body s) (fun env o s=>renI ts es env o body s) (binB n.op) k j I (n.sD.drop k) s2) (fun r s' => .ok ((.mk n.op r.1 n.n (J++r.2.1) n.pos,z+r.2.2),s'))=R) ?_ ?_
   .refine ⟨[],env,n.name,payS 1 s,.lst true [],1,zSi,zSi,zSi,zSi,zSi,zSi,zSi,zSi,zSi,?_,?_,?_,?_,?_,he,rfl,ay.l0,ay.c0,ay.c1,?_,by show _<=s.sM+1;omega,zOm,by show _<=s.sM+1-_;omega,zUs hR⟩
    all_goals try simp only[qC]
    .exact hM.but.setN (qr _) _
    .grind
    .grind
    .exact bv _
    .grind [OwnF.nil]
    .rw [Z0];have:=hs.p;grind [dueN]
   .rintro k U hk ⟨J,j,I,s2,t,z,e0,e1,e3,e6,e8,be,aq,ah,ai,a9,gx,gr,gn,go,bg,dd,ar,bh,bi,bk,aj,de,bq,hI⟩
    have gt:U.mu[tb]?=some (.mp (eSet es)):=by rw[a9.same tb cj bt];exact ht
    have cw:mu.length+2<=U.mu.length:=go.2.2;by_cases bu:k=n.sD.length
    .subst bu
     have bw:=go.cells;have bm:=go.one;have br:∀ c,(U.mu.set (mu.length+1) c)[mu.length+1]?=some c:=fun c=>qM zOm
     rw[zZ]at hI;have hI:R = .ok ((.mk n.op I n.n J n.pos,z),s2):=by grind [yR,uc]
     simp[go_sem,e6,e8,be,ah,ai,gn,gr,bm,br];rw[hI];have bs:(U.mu.set (mu.length+1) (.arr [aI n.op,aS I,aI n.n,t,aI n.pos])).length=U.mu.length:=zSp;refine .inr ⟨fun i=>decide (mu.length+2<=i),.tup [eNd (.mk n.op I n.n J n.pos),aI z],.rd _ _ (.tup _ _ rfl fun k x y hx hy=>?_),rfl,?_,?_⟩
     .match k with
      | 0 =>
       simp at hx hy;subst hx;subst hy;have cl:eNd (.mk n.op I n.n J n.pos) = .agg [aI n.op,aS I,aI n.n,.lst false (J.map cNd),aI n.pos]:=by
        show AV.agg (cNd _)=_;rw[yB];rfl
       rw[cl];refine .agg _ _ rfl fun k x y hx hy=>?_
       match k with
       | 0=>simp at hx hy;subst hx;subst hy;exact .zsc _
       | 1=>simp at hx hy;subst hx;subst hy;exact .zsc _
       | 2=>simp at hx hy;subst hx;subst hy;exact .zsc _
       | 3 =>
        simp at hx hy;subst hx;subst hy;exact Kl (go.set zOm) (UY J).ok fun r hr c hc=>by
         obtain⟨x,_,rfl⟩:=qn.1 hr;exact vJ x c hc
       | 4=>simp at hx hy;subst hx;subst hy;exact .zsc _
       |k+5=>simp at hx
      | 1=>simp at hx hy;subst hx;subst hy;exact .zsc _
      |k+2=>simp at hx
     .rw [ub zSo,zGl];exact gx
     .exact (a9.setN zOm _).cut fun i hi=>zSo
    .have a5:k<n.sD.length:=by omega
     have w1:=zWk k;have w2:qp.wrap 2=2:=rfl;rw[zp a5]at hI;simp only[yR]at hI;have g:∀(l:List Cell)(i:Nat),i<U.mu.length->(U.mu++l)[i]?=U.mu[i]?:=fun l i hi=>qN hi
     have au:∀ l,(U.mu++l)[mu.length]?=some (.arr [aI n.op,aS I,aI n.n,t,aI n.pos]):=fun l=>by rw[g l _ zOm];exact gn
     have bw:=go.cells;have bm:=go.one;by_cases hb:binB n.op=true/\k=1
     .obtain ⟨az,rfl⟩:=hb
      rw[if_pos ⟨az,rfl⟩]at hI;have b0:(1:Int)<n.sD.length:=zOm;simp[go_sem,b0,e6,aq,ah,ai,a5,au];have b1:=YX.m8 n.op;rw[qb5,az]at b1;refine cQ b1 (.zs .nil) ?_;have cm:=StOk.last (F:=qq ts es) ⟨ar,bh,bi,zW1 (Z1 (qq ts es) (binB n.op) 1)⟩;have ca:=qoG ts h s2 es ⟨ar,zOm⟩ tb (ax _ ar) j bg.nd I body (mu:=U.mu++[Cell.arr (cNd n.sD[1])]) (xb:=xb) (by rw[g _ _ zOm];exact gx) (by rw[g _ _ zOm];exact gt);have ak:=Vi (env:=j) (nm:=I) (body:=body) ax ar;have cb:=Vh (ts:=ts) (es:=es) (nm:=I) (body:=body) (s:=s2) bg;generalize renI ts es j I body s2=r at *
      obtain⟨⟨a6,aw⟩,s3⟩:=r;simp only at ak cb hI;simp[go_sem,e0,e1,e3,e6,au];refine fQ ca ?_ (by rintro r m ⟨e,_⟩;cases e);rintro r m1 ⟨e,a7,cn⟩;cases e;have cc:=a7.len;simp only[za,zu,List.length_nil]at cc;have cp:m1[mu.length]?=some (.arr [aI n.op,aS I,aI n.n,t,aI n.pos]):=by rw[a7.same _ zSo zOm];exact au _
      have cq:m1[mu.length+1]?=some (.arr [aI 0,aS ⟨#[]⟩,aI 0,.lst true [],aI 0]):=by rw[a7.same _ zSo zOm,g _ _ zOm];exact gr
      have cr:m1[U.mu.length]?=some (.arr (cNd n.sD[1])):=by rw[a7.same _ zSp zOm,zJ (qr _)];simp
      have cs:m1[tb]?=some (.mp (eSet es)):=by rw[a7.same _ zSo bt,g _ _ zOm];exact gt
      have ct:OwnF (mu.length+2) m1 5 t (J.map cNd):=Zs go zOm fun i q1 q2=>by rw[a7.same i zSo zOm,g _ _ q2]
      have an:∀ c i,i≠mu.length->(m1.set mu.length c)[i]?=m1[i]?:=fun c i hi=>yF (fun e=>hi e.symm)
      have cu:∀ c,(m1.set mu.length c)[U.mu.length]?=some (.arr (cNd n.sD[1])):=fun c=>by rw[an _ _ zOm];exact cr
      simp[go_sem,e0,e3,e6,cp,cu];generalize al:m1.set mu.length (.arr [aI n.op,aS aw,aI n.n,t,aI n.pos])=M2;have bn:U.mu.length+1<=M2.length:=by rw[<-al];simp;omega
      have b2:M2[xb]?=some (.arr (cIn ts tb s3)):=by rw[<-al,an _ _ zOm];exact cn
      have b3:M2[tb]?=some (.mp (eSet es)):=by rw[<-al,an _ _ zOm];exact cs
      have b4:M2[mu.length]?=some (.arr [aI n.op,aS aw,aI n.n,t,aI n.pos]):=by rw[<-al];exact qM zOm
      have b5:M2[mu.length+1]?=some (.arr [aI 0,aS ⟨#[]⟩,aI 0,.lst true [],aI 0]):=by rw[<-al,an _ _ zOm];exact cq
      have a4:OwnF (mu.length+2) M2 5 t (J.map cNd):=by rw[<-al];exact ct.set zOm
      have aa:But xb mu M2:=by
       rw[<-al];exact(a9.trans ((But.app xb U.mu _).trans a7)).setN (qr _) _
      have df:dueN (qq ts es) (binB n.op) 1=(qq ts es:Nat):=if_pos ⟨az,zOm⟩;have dh:dueN (qq ts es) (binB n.op) (1+1)=0:=zIn;have di:pot (qq ts es) s2-(qq ts es:Nat)<=pot (qq ts es) s3:=by unfold pot;rw[ak.2.2];omega
      have a3:StOk (qq ts es) s3:=⟨ak.1,by rw[ak.2.2];exact bh,by rw[ak.2.2];exact bi,zOm⟩;have b6:dueN (qq ts es) (binB n.op) (1+1)<=pot (qq ts es) s3:=zOm;have ao:s.sM+1<=s3.sM:=by rw[ak.2.2];exact aj
      have cd:z<=s3.sM-s.sM:=by rw[ak.2.2];exact bq
      have T:zx a6:=cb;have bj:True:=trivial;have ab:n.sD[1]∈n.sD:=qs a5;have a0:=ih a6 n.sD[1] body s3 M2 xb zOm a3 T (hw.kid ab) (bo.kid ab) b2 b3;have b7:∀{n' z s'},expI ts es f a6 n.sD[1] body s3 = .ok ((n',z),s')->Gos (qq ts es) s3 s' z:=fun e=>jW ts ax f a3 T e
      generalize hE:expI ts es f a6 n.sD[1] body s3=E at *
      cases E with
      |error d =>
       have hI:R = .error d:=hI.symm;subst hI;refine fQ a0 (by rintro r m ⟨e,_⟩;cases e) ?_;rintro r m ⟨e,C⟩;cases e;simp[go_sem];exact⟨rfl,aa.trans C⟩
      |ok q =>
       obtain⟨⟨n',k'⟩,s'⟩:=q;have P:=b7 rfl;simp only at hI;refine fQ a0 ?_ (by rintro r m ⟨e,_⟩;cases e);rintro r m ⟨e,b8,C⟩;cases e;have bs:=C.len;have ad:∀ l,(m++l)[mu.length]?=some (.arr [aI n.op,aS aw,aI n.n,t,aI n.pos]):=fun l=>by rw[zGa,C.same _ zOm zOm];exact b4
       have a8:=a4.cells;have cf:=a4.one;have b9:qp.wrap (z+k')=z+k':=zW (zW1 P.z0) (zW2 P.cz P.c1);have bb:OwnF (mu.length+2) (m++[Cell.arr (cNd n')]) 5 t (J.map cNd):=Zs a4 zSo fun i h1 h2=>by rw[zGa,C.same i zOm zOm]
       simp[go_sem,e6,ad];refine UZ bb zOm fun bc m' a1 a2=>?_
       have cg:=a1.2.2;have ae:m'[mu.length]?=some (.arr [aI n.op,aS aw,aI n.n,t,aI n.pos]):=by rw[a2 _ zOm];exact ad _
       have af:=a1.cells;have ag:=a1.one;simp[go_sem,e6,be,ai,ae,af,ag,b9,w2];refine⟨a5,aK ?_⟩;refine⟨J++[n'],a6,aw,s',bc,z+k',zS1 e0,zSi,zS1 e3,zS1 e6,zS1 e8,zSi,zS1 aq,zS1 ah,zSi,?_,?_,?_,?_,?_,T,zSo,P.l0,zW2 P.cz P.z0,P.c1,Int.le_trans b6 P.p,zW2 P.cz P.z0,zW1 P.z0,zW1 P.cz,?_⟩
       all_goals try simp only[qC]
       .refine ⟨zSo,fun i h1 h2=>?_⟩
        rw[zGl,a2 i zOm,zGa,C.same i zOm h2];exact aa.same i h1 h2
       .rw [zGl,a2 _ zOm,zGa];exact b8
       .rw [zGl,a2 _ zOm,zGa,C.same _ zOm zOm];exact b5
       .exact qM zOm
       .exact a1.set zOm
       .rw [<-hI]
        generalize yR (fun env k s=>expI ts es f env k body s) (fun env o s=>renI ts es env o body s) (binB n.op) (1+1) a6 aw (n.sD.drop (1+1)) s'=W;cases W with
        |error e=>rfl
        |ok q=>simp[uc,Int.add_assoc]
     .rw [if_neg hb]at hI
      by_cases cv:k=1
      .subst cv
       have a7:binB n.op=false:=zUs hb;have b0:(1:Int)<n.sD.length:=zOm;simp[go_sem,b0,e6,aq,ah,ai,a5,au];have b1:=YX.m8 n.op;rw[qb5,a7]at b1;refine cQ b1 (.zs .nil) ?_;simp[go_sem,e0,e1,e3];have bn:U.mu.length+1<=(U.mu++[Cell.arr (cNd n.sD[1])]).length:=zSp;have b2:(U.mu++[Cell.arr (cNd n.sD[1])])[xb]?=some (.arr (cIn ts tb s2)):=by rw[g _ _ zOm];exact gx
       have b3:(U.mu++[Cell.arr (cNd n.sD[1])])[tb]?=some (.mp (eSet es)):=by rw[g _ _ zOm];exact gt
       have b4:=au [Cell.arr (cNd n.sD[1])];have b5:(U.mu++[Cell.arr (cNd n.sD[1])])[mu.length+1]?=some (.arr [aI 0,aS ⟨#[]⟩,aI 0,.lst true [],aI 0]):=by rw[g _ _ zOm];exact gr
       have a4:OwnF (mu.length+2) (U.mu++[Cell.arr (cNd n.sD[1])]) 5 t (J.map cNd):=Zs go zOm fun i q1 q2=>g _ _ q2
       have aa:But xb mu (U.mu++[Cell.arr (cNd n.sD[1])]):=a9.trans (But.app xb U.mu _);have a3:StOk (qq ts es) s2:=⟨ar,bh,bi,zW1 (Z1 (qq ts es) (binB n.op) 1)⟩;have b6:dueN (qq ts es) (binB n.op) (1+1)<=pot (qq ts es) s2:=by rw[<-UX hb];exact bk
       have ao:=aj;have cd:=bq;have T:=bg;have bj:=e1;generalize U.mu++[Cell.arr (cNd n.sD[1])]=M2 at *
       have ab:n.sD[1]∈n.sD:=qs a5;have a0:=ih j n.sD[1] body s2 M2 xb zOm a3 T (hw.kid ab) (bo.kid ab) b2 b3;have b7:∀{n' z s'},expI ts es f j n.sD[1] body s2 = .ok ((n',z),s')->Gos (qq ts es) s2 s' z:=fun e=>jW ts ax f a3 T e
       generalize hE:expI ts es f j n.sD[1] body s2=E at *
       cases E with
       |error d =>
        have hI:R = .error d:=hI.symm;subst hI;refine fQ a0 (by rintro r m ⟨e,_⟩;cases e) ?_;rintro r m ⟨e,C⟩;cases e;simp[go_sem];exact⟨rfl,aa.trans C⟩
       |ok q =>
        obtain⟨⟨n',k'⟩,s'⟩:=q;have P:=b7 rfl;simp only at hI;refine fQ a0 ?_ (by rintro r m ⟨e,_⟩;cases e);rintro r m ⟨e,b8,C⟩;cases e;have bs:=C.len;have ad:∀ l,(m++l)[mu.length]?=some (.arr [aI n.op,aS I,aI n.n,t,aI n.pos]):=fun l=>by rw[zGa,C.same _ zOm zOm];exact b4
        have a8:=a4.cells;have cf:=a4.one;have b9:qp.wrap (z+k')=z+k':=zW (zW1 P.z0) (zW2 P.cz P.c1);have bb:OwnF (mu.length+2) (m++[Cell.arr (cNd n')]) 5 t (J.map cNd):=Zs a4 zSo fun i h1 h2=>by rw[zGa,C.same i zOm zOm]
        simp[go_sem,e6,ad];refine UZ bb zOm fun bc m' a1 a2=>?_
        have cg:=a1.2.2;have ae:m'[mu.length]?=some (.arr [aI n.op,aS I,aI n.n,t,aI n.pos]):=by rw[a2 _ zOm];exact ad _
        have af:=a1.cells;have ag:=a1.one;simp[go_sem,e6,be,ai,ae,af,ag,b9,w2];refine⟨a5,aK ?_⟩;refine⟨J++[n'],j,I,s',bc,z+k',zS1 e0,zS1 bj,zS1 e3,zS1 e6,zS1 e8,zSi,zS1 aq,zS1 ah,zSi,?_,?_,?_,?_,?_,T,zSo,P.l0,zW2 P.cz P.z0,P.c1,Int.le_trans b6 P.p,zW2 P.cz P.z0,zW1 P.z0,zW1 P.cz,?_⟩
        all_goals try simp only[qC]
        .refine ⟨zSo,fun i h1 h2=>?_⟩
         rw[zGl,a2 i zOm,zGa,C.same i zOm h2];exact aa.same i h1 h2
        .rw [zGl,a2 _ zOm,zGa];exact b8
        .rw [zGl,a2 _ zOm,zGa,C.same _ zOm zOm];exact b5
        .exact qM zOm
        .exact a1.set zOm
        .rw [<-hI]
         generalize yR (fun env k s=>expI ts es f env k body s) (fun env o s=>renI ts es env o body s) (binB n.op) (1+1) j I (n.sD.drop (1+1)) s'=W;cases W with
         |error e=>rfl
         |ok q=>simp[uc,Int.add_assoc]
      .have ch:¬(k:Int)=1:=by omega
       simp[go_sem,e0,e1,e3,aq,ah,ai,a5,ch];have bn:U.mu.length+1<=(U.mu++[Cell.arr (cNd n.sD[k])]).length:=zSp;have b2:(U.mu++[Cell.arr (cNd n.sD[k])])[xb]?=some (.arr (cIn ts tb s2)):=by rw[g _ _ zOm];exact gx
       have b3:(U.mu++[Cell.arr (cNd n.sD[k])])[tb]?=some (.mp (eSet es)):=by rw[g _ _ zOm];exact gt
       have b4:=au [Cell.arr (cNd n.sD[k])];have b5:(U.mu++[Cell.arr (cNd n.sD[k])])[mu.length+1]?=some (.arr [aI 0,aS ⟨#[]⟩,aI 0,.lst true [],aI 0]):=by rw[g _ _ zOm];exact gr
       have a4:OwnF (mu.length+2) (U.mu++[Cell.arr (cNd n.sD[k])]) 5 t (J.map cNd):=Zs go zOm fun i q1 q2=>g _ _ q2
       have aa:But xb mu (U.mu++[Cell.arr (cNd n.sD[k])]):=a9.trans (But.app xb U.mu _);have a3:StOk (qq ts es) s2:=⟨ar,bh,bi,zW1 (Z1 (qq ts es) (binB n.op) k)⟩;have b6:dueN (qq ts es) (binB n.op) (k+1)<=pot (qq ts es) s2:=by rw[<-UX hb];exact bk
       have ao:=aj;have cd:=bq;have T:=bg;have bj:=e1;generalize U.mu++[Cell.arr (cNd n.sD[k])]=M2 at *
       have ab:n.sD[k]∈n.sD:=qs a5;have a0:=ih j n.sD[k] body s2 M2 xb zOm a3 T (hw.kid ab) (bo.kid ab) b2 b3;have b7:∀{n' z s'},expI ts es f j n.sD[k] body s2 = .ok ((n',z),s')->Gos (qq ts es) s2 s' z:=fun e=>jW ts ax f a3 T e
       generalize hE:expI ts es f j n.sD[k] body s2=E at *
       cases E with
       |error d =>
        have hI:R = .error d:=hI.symm;subst hI;refine fQ a0 (by rintro r m ⟨e,_⟩;cases e) ?_;rintro r m ⟨e,C⟩;cases e;simp[go_sem];exact⟨rfl,aa.trans C⟩
       |ok q =>
        obtain⟨⟨n',k'⟩,s'⟩:=q;have P:=b7 rfl;simp only at hI;refine fQ a0 ?_ (by rintro r m ⟨e,_⟩;cases e);rintro r m ⟨e,b8,C⟩;cases e;have bs:=C.len;have ad:∀ l,(m++l)[mu.length]?=some (.arr [aI n.op,aS I,aI n.n,t,aI n.pos]):=fun l=>by rw[zGa,C.same _ zOm zOm];exact b4
        have a8:=a4.cells;have cf:=a4.one;have b9:qp.wrap (z+k')=z+k':=zW (zW1 P.z0) (zW2 P.cz P.c1);have bb:OwnF (mu.length+2) (m++[Cell.arr (cNd n')]) 5 t (J.map cNd):=Zs a4 zSo fun i h1 h2=>by rw[zGa,C.same i zOm zOm]
        simp[go_sem,e6,ad];refine UZ bb zOm fun bc m' a1 a2=>?_
        have cg:=a1.2.2;have ae:m'[mu.length]?=some (.arr [aI n.op,aS I,aI n.n,t,aI n.pos]):=by rw[a2 _ zOm];exact ad _
        have af:=a1.cells;have ag:=a1.one;simp[go_sem,e6,be,ai,ae,af,ag,b9,w1];refine⟨a5,aK ?_⟩;refine⟨J++[n'],j,I,s',bc,z+k',zS1 e0,zS1 bj,zS1 e3,zS1 e6,zS1 e8,zSi,zS1 aq,zS1 ah,zSi,?_,?_,?_,?_,?_,T,zSo,P.l0,zW2 P.cz P.z0,P.c1,Int.le_trans b6 P.p,zW2 P.cz P.z0,zW1 P.z0,zW1 P.cz,?_⟩
        all_goals try simp only[qC]
        .refine ⟨zSo,fun i h1 h2=>?_⟩
         rw[zGl,a2 i zOm,zGa,C.same i zOm h2];exact aa.same i h1 h2
        .rw [zGl,a2 _ zOm,zGa];exact b8
        .rw [zGl,a2 _ zOm,zGa,C.same _ zOm zOm];exact b5
        .exact qM zOm
        .exact a1.set zOm
        .rw [<-hI]
         generalize yR (fun env k s=>expI ts es f env k body s) (fun env o s=>renI ts es env o body s) (binB n.op) (k+1) j I (n.sD.drop (k+1)) s'=W;cases W with
         |error e=>rfl
         |ok q=>simp[uc,Int.add_assoc]
  grind
 .rintro r m ⟨rfl,e⟩
  by_cases a8:s.sM+1<=4000
  .rw [if_pos a8]at e;cases e
  .rw [if_neg a8]at e hR
   cases e;subst hR;simp[go_sem];exact⟨rfl,(But.app xb mu _).trans (cN xb _ _)⟩
theorem KW(ts)(h:okTS ts)(C:∀ p,p∈ts.sT->WfN p.body/\yS ts p.body)(es)(l:qq ts es<=200000)(g:Free ts es)(tb):∀ f,IHE ts es tb f
 | 0=>fun env n body s mu xb I j o J i r t=>zW1 j.c1
 |f+1=>fun env n body s mu xb I j o J i r t=>by
  by_cases P:n.op=1
  .have:=qoO ts es tb env n body s mu xb j o r t P
   simp_all[expI,v7,payS,if_true]
  .by_cases h47:n.op=47
   .exact qoQ ts h C es l g tb f (KW ts h C es l g tb f) env n body s mu xb I j o J i r t h47
   .exact qoR ts h es l g tb f (KW ts h C es l g tb f) env n body s mu xb I j o J i r t P h47
end
end YD
namespace YE
open P1 P2 Y1 Y9 YX YZ YB YC YD
mutual
def cntT:Nd->Int
 | .mk _ _ _ ks _=>1+jm ks
def jm:List Nd->Int
 | []=>0
 |k :: ks=>cntT k+jm ks
end
theorem KX(n):cntT n=1+jm n.sD:=by
 obtain⟨op,o,i,ks,p⟩:=n;simp[cntT,Nd.sD]
mutual
theorem KY:∀ n:Nd,1<=cntT n
 | .mk _ _ _ ks _=>by simp only[cntT];have:=U0 ks;omega
theorem U0:∀ ks:List Nd,0<=jm ks
 | []=>by simp[jm]
 |k :: ks=>by simp only[jm];have:=KY k;have:=U0 ks;omega
end
mutual
theorem KZ:∀ n:Nd,depN n<=cntT n
 | .mk _ _ _ ks _=>by simp only[cntT,depN];have:=qb6 ks;omega
theorem qb6:∀ ks:List Nd,yz ks<=jm ks
 | []=>by simp[yz,jm]
 |k :: ks=>by
  simp only[jm,yz];have:=KZ k;have:=qb6 ks;have:=KY k;have:=U0 ks;omega
end
section
variable {J:Type}{R:IEnv->tA->ISt->(IEnv×tA)×ISt}{es:List (tA×Bool)}{E:Nd->ISt->XR (Nd×Int)}
def uW(env:IEnv):Prop:=∀ e,e∈env->∀ a,e.2.arg=some a->e.2.size=cntT a/\Small a
theorem K0{g}[DecidableEq g]{k v}:∀{es:List (g×J)},getK k es=some v->(k,v)∈es
 | [],h=>by simp[getK]at h
 |e :: es,h=>by
  unfold getK at h;split at h
  .rename_i i;cases h;subst i;exact zl ..
  .exact zc _ (K0 h)
theorem U1{g}[DecidableEq g]{k v}:∀{es}{x:g×J},x∈setK k v es->x=(k,v)\/x∈es
 | [],x,h=>by grind [setK]
 |e :: es,x,h=>by
  unfold setK at h;split at h
  .rcases qy.1 h with h|h
   .exact .inl h
   .exact .inr (zc _ h)
  .rcases qy.1 h with h|h
   .exact .inr (by rw[h];exact zl ..)
   .exact (U1 h).imp id (zc _)
theorem qoS{ts env nm body s}(h:uW env):uW (renI ts es env nm body s).1.1:=by
 have i:uW (delK nm env):=fun e g=>h e (Xv.subset g)
 unfold renI;split
 .intro e g a j
  rcases U1 g with rfl|g
  .cases j
  .exact i e g a j
 .exact i
theorem qb7:∀{ks ps own g s s'},(∀ k n' z s s',k∈ks->E k s = .ok ((n',z),s')->z=cntT n'/\Small n')->uW own->jx E ps ks own s = .ok (g,s')->uW g
 | [],ps,own,g,s,s',_,i,e=>by
  have e:Except.ok (own,s)=(Except.ok (g,s'):XR IEnv):=by cases ps<;>exact e
  cases e;exact i
 |k :: ks,[],own,g,s,s',_,i,e=>by cases e;exact i
 |k :: ks,p :: ps,own,g,s,s',l,i,e=>by
  simp only[jx]at e;split at e
  .cases e
  .rename_i t m s1 C
   refine qb7 (fun k n' z s s' o=>l k n' z s s' (zc _ o)) (fun e j a r=>?_) e;rcases U1 j with rfl|j
   .grind
   .exact i e j a r
theorem qb8{E bin}(C:∀ env nm s,uW env->uW (R env nm s).1.1) :
  ∀{ks i env nm l s s' j m},(∀ env k n' z s s',k∈ks->uW env->E env k s = .ok ((n',z),s')->z=cntT n'/\Small n')->uW env ->
  yR E R bin i env nm ks s = .ok ((l,j,m),s')->m=jm j/\j.length=ks.length/\∀ k,k∈j->Small k
 | [],i,env,nm,l,s,s',j,m,_,_,e=>by
  cases e;exact⟨rfl,rfl,fun k p=>absurd p qH⟩
 |k :: ks,i,env,nm,l,s,s',j,m,I,J,e=>by
  simp only[yR]at e;obtain⟨r,P⟩:∃ r,r=if bin=true/\i=1 then R env nm s else ((env,nm),s):=⟨_,rfl⟩
  rw[<-P]at e;have o:uW r.1.1:=by
   rw[P];split
   .exact C _ _ _ J
   .exact J
  split at e
  .cases e
  .rename_i T U s1 h1
   have g:=I r.1.1 k T U r.2 s1 (zl ..) o h1;split at e
   .cases e
   .rename_i a0 a1 m2 s2 h2
    obtain⟨q1,q2,q3⟩:=qb8 C (fun env k n' z s s' p=>I env k n' z s s' (zc _ p)) o h2;cases e;refine⟨by simp only[jm];rw[g.1,q1],zP1 q2,fun x t=>?_⟩;rcases qy.1 t with rfl|t
    .exact g.2
    .exact q3 x t
theorem Jb(ts)(r:∀ p,p∈ts.sT->WfN p.body)(es):∀(f){env n n' body s s' z},uW env->WfN n->expI ts es f env n body s = .ok ((n',z),s')->z=cntT n'/\Small n'
 | 0,_,_,_,_,_,_,_,_,_,e=>by cases e
 |f+1,env,n,n',body,s,s',z,j,l,e=>by
  simp only[expI]at e;split at e
  .split at e
   .rename_i P
    have g:n.sD=[]:=by
     have hs:=l.shape;simp_all[shp,if_pos,Option.some.injEq,List.map_eq_nil_iff]
    unfold v7 at e;split at e
    .cases e
     exact⟨by rw[KX,g];rfl,l.small⟩
    .rename_i v t
     split at e
     .cases e
      refine⟨by rw[KX];show 1=1+jm n.sD;rw[g];rfl,.mk _ (by show n.sD.length<=1000;rw[g];simp) fun k i=>?_⟩;have i:k∈n.sD:=i
      grind
     .rename_i a R
      split at e
      .cases e
       exact j _ (K0 t) _ R
      .cases e
   .split at e
    .split at e
     .cases e
     .rename_i p T
      obtain⟨own,s1,C,e⟩:=Ja e;have U:=qb7 (fun k n' z s s' i I=>Jb ts r es f j (l.kid i) I) (fun e j=>absurd j qH) C;exact Jb ts r es f U (r p (List.mem_of_find?_eq_some T)) e
    .obtain ⟨⟨a0,J,m⟩,s1,C,e⟩:=Ja e
     cases e;obtain⟨q1,q2,q3⟩:=qb8 (fun env o s h=>qoS h) (fun env k n' z s s' i t I=>Jb ts r es f t (l.kid i) I) j C;refine⟨by rw[KX];show 1+m=_;rw[q1];rfl,.mk _ ?_ q3⟩;show J.length<=1000;have:=l.len;omega
  .cases e
theorem qb9:∀{ks ps own s d},(∀ k s d,E k s = .error d->d=(2,0))->jx E ps ks own s = .error d->d=(2,0)
 | [],ps,own,s,d,_,e=>by
  have e:Except.ok (own,s)=(Except.error d:XR IEnv):=by cases ps<;>exact e
  cases e
 |k :: ks,[],own,s,d,_,e=>by cases e
 |k :: ks,p :: ps,own,s,d,g,e=>by
  simp only[jx]at e;split at e
  .rename_i j i
   cases e;exact g _ _ _ i
  .exact qb9 g e
theorem qcA{E:IEnv->Nd->ISt->XR (Nd×Int)}{bin}:∀{ks i env nm s d},(∀ env k s d,E env k s = .error d->d=(2,0))->yR E R bin i env nm ks s = .error d->d=(2,0)
 | [],i,env,nm,s,d,_,e=>by cases e
 |k :: ks,i,env,nm,s,d,g,e=>by
  simp only[yR]at e;split at e
  .rename_i j l
   cases e;exact g _ _ _ _ l
  .split at e
   .rename_i j o
    cases e;exact qcA g o
   .cases e
theorem qcB{i q}{g:J->ISt->XR i}{d}(h:uc q g = .error d):q = .error d\/∃ a s,q = .ok (a,s)/\g a s = .error d:=by
 unfold uc at h;split at h
 .grind
 .exact .inr ⟨_,_,rfl,h⟩
theorem Vj(ts es):∀(f){env n body s d},expI ts es f env n body s = .error d->d=(2,0)
 | 0,_,_,_,_,_,e=>by cases e;rfl
 |f+1,env,n,body,s,d,e=>by
  simp only[expI]at e;split at e
  .split at e
   .unfold v7 at e
    split at e
    .cases e
    .split at e
     .cases e
     .split at e
      .cases e
      .cases e;rfl
   .split at e
    .split at e
     .cases e;rfl
     .rcases qcB e with e|⟨own,g,i,e⟩
      .exact qb9 (fun k s d h=>Vj ts es f h) e
      .exact Vj ts es f e
    .rcases qcB e with e|⟨own,g,i,e⟩
     .exact qcA (fun env k s d h=>Vj ts es f h) e
     .cases e
  .cases e;rfl
def outI(ts:TS)(es:List (tA×Bool))(n:Nd):Except Dg Nd:=
 match expI ts es 4001 [] n false ⟨0,0⟩ with
 | .error d => .error d
 | .ok ((g,z),_)=>if z<=400/\depN g<=24 then .ok g else .error (2,n.pos)
theorem qcC{ts n d}(h:outI ts es n = .error d):d.1=2:=by
 grind [outI,Vj]
theorem qoT(ts)(h:okTS ts)(hb:∀ p,p∈ts.sT->WfN p.body/\yS ts p.body)(es)(hF:qq ts es<=200000)(R:Free ts es)(n)(hw:WfN n)(a4:yS ts n){mu xp ob xb tb}
  (h1:mu[xp]?=some (.arr [.ptr xb 0])) (T:mu[xb]?=some (.arr (cIn ts tb ⟨0,0⟩))) (ht:mu[tb]?=some (.mp (eSet es))) (U:mu[ob]?=some (.arr [aI 0,aS ⟨#[]⟩,aI 0,.lst true [],aI 0])) :
  qE qe 72 [.ptr xp 0,.ip (cNd n),.ptr ob 0] mu fun e m=>match outI ts es n with
   | .error d=>e = .pan (jU d.1 d.2)/\mu.length<=m.length/\∀ i,i<mu.length->i≠xb->i≠ob->m[i]?=mu[i]?
   | .ok n'=>e = .ret (.tup [])/\m[ob]?=some (.arr (cNd n'))/\mu.length<=m.length/\∀ i,i<mu.length->i≠xb->i≠ob->m[i]?=mu[i]?:=by
 refine qSW call72 func72 rfl {} ?_;have ab:xp<mu.length:=(qk.1 h1).1;have ad:xb<mu.length:=(qk.1 T).1;have ae:tb<mu.length:=(qk.1 ht).1;have a5:ob<mu.length:=(qk.1 U).1;have a0:ob≠xb:=fun e=>by grind
 simp[go_sem,h1];have j:∀ i,i<mu.length->(cutM (fun i=>!decide (mu.length<=i)) (mu++[Cell.mp []]) 0)[i]?=mu[i]?:=fun i hi=>by grind [ub,qN]
 have a1:StOk (qq ts es) ⟨0,0⟩:=⟨zSp,zSp,zSp,by simp[pot]⟩;have g:=KW ts h hb es hF R tb 4001 [] n false ⟨0,0⟩ (cutM (fun i=>!decide (mu.length<=i)) (mu++[Cell.mp []]) 0) xb zSp a1 .nil hw a4 (by grind) (by grind);have g:=qE.freeze (mu:=mu++[Cell.mp []]) (args:=[.ptr xb 0,.mp mu.length,eNd n,aB false]) (args1:=[.ptr xb 0,eEnv [],eNd n,aB false]) (fun i=>decide (mu.length<=i)) ⟨.inl rfl,.inr (qb4 (acc:=[]) (by grind [ub]) zSp (fun e he=>absurd he qH)),.inl rfl,.inl rfl,trivial⟩ g;have a7:=fun {n' z P}=>Jb ts (fun p hp=>(hb p hp).1) es 4001 (env:=[]) (n:=n) (n':=n') (body:=false) (s:=⟨0,0⟩) (s':=P) (z:=z) (fun e he=>absurd he qH) hw
 have a8:=fun {n' z P}=>jW ts R 4001 (env:=[]) (n:=n) (n':=n') (body:=false) (s':=P) (z:=z) a1 .nil
 unfold outI;generalize expI ts es 4001 [] n false ⟨0,0⟩=E at *
 cases E with
 |error d =>
  refine fQ g (by rintro r m ⟨e,_⟩;cases e) ?_;rintro r m ⟨e,l⟩;cases e;have o:=l.len;rw[jP]at o;simp only[za,zu,List.length_nil]at o;simp[go_sem];exact⟨zOm,fun i hi T U=>by rw[l.same i (by grind) T,j i hi]⟩
 |ok q =>
  obtain⟨⟨n',z⟩,P⟩:=q;obtain⟨hz,a9⟩:=a7 rfl;have hg:=a8 rfl;have ag:z<=4000:=by have:=hg.cz;have:=hg.c1;grind
  have ah:=KZ n';refine fQ g ?_ (by rintro r m ⟨e,_⟩;cases e);rintro r m ⟨e,ai,l⟩;cases e;have o:=l.len;rw[jP]at o;simp only[za,zu,List.length_nil]at o;have aa:m[ob]?=some (.arr [aI 0,aS ⟨#[]⟩,aI 0,.lst true [],aI 0]):=by rw[l.same _ (by grind) a0,j _ a5];exact U
  have t:∀ c,(m.set ob c)[ob]?=some c:=fun c=>qM zOm
  simp[go_sem,aa];have C:∀ c,mu.length<=(m.set ob c).length/\∀ i,i<mu.length->i≠xb->i≠ob->(m.set ob c)[i]?=mu[i]?:=fun c=>⟨zSo,fun i hi T U=>by
   rw[yF (fun e=>U e.symm),l.same i (by grind) T,j i hi]⟩
  have wz:∀ b c,WKs [aB b,aI c,eNd n] [aB b,aI c,eNd n]:=fun b c => .zs (.zs (.zk (qL n) .nil))
  by_cases J:z<=400
  .have I:=qbS (szN n') n' (qr _) a9 zOm
   by_cases a3:depN n'<=24
   .refine cH zKr ?_
    simp[go_sem,J,t];refine cQ I (.zk (qL n') .nil) ?_;simp[go_sem,a3];refine cQ (zS true 2 n).toP (wz true 2) ?_;simp[go_sem,t]
    grind
   .refine qj.tail 8 zKr ?_
    simp[go_sem,J,t];refine cQ I (.zk (qL n') .nil) ?_;simp[go_sem,a3];refine fZ (zS false 2 n) (wz false 2) ?_;simp[go_sem];simpa using C _
  .refine qj.tail 8 zKr ?_
   simp[go_sem,J];refine fZ (zS false 2 n) (wz false 2) ?_;simp[go_sem];simpa using C _
end
end YE
namespace YG
open YS P1 Y1 Y9 YX YZ YA YB YC YE Q6
def valD(l:List UInt8):Nat:=l.foldl (fun a b=>10*a+(b.toNat-48)) 0
theorem qoU(u):valD (Lib.decDigits u)=u:=by
 induction u using Nat.strongRecOn with
 |_ u g =>
  rw[Lib.decDigits];split
  .rename_i h
   simp only[valD,List.foldl_cons,List.foldl_nil];rw[UInt8.toNat_ofNat_of_lt' (by simp[UInt8.size];omega)];omega
  .rename_i h
   have:=g (u / 10) zOm;unfold valD at this⊢;rw[vQ,this];simp only[List.foldl_cons,List.foldl_nil];rw[UInt8.toNat_ofNat_of_lt' (by simp[UInt8.size];omega)];omega
theorem qoV{a b:Nat}(h:jA (a:Int)=jA (b:Int)):a=b:=by
 have g:Lib.decDigits a=Lib.decDigits b:=by
  unfold jA Lib.itoa at h;rw[zIn,zIn]at h;simp only[Int.toNat_natCast]at h;have h:=congrArg (fun x:tA=>x.data.toList) h;simpa using h
 grind [qoU]
theorem qoW{p a b:tA}(h:p++a=p++b):a=b:=by
 simp_all
theorem qcD{a b:Nat}(h:vN (a:Int)=vN (b:Int)):a=b:=qoV (qoW h)
def badL(ts:TS)(es:List (tA×Bool)):List tA:=es.map Prod.fst++(ts.sA.map (fun f=>f.name)++ts.sS.flatMap fun s=>[s.1,s.1++je,s.1++vd])
theorem qoX(ts es):(badL ts es).length+1=qq ts es:=by
 have:∀ l:List (tA×Bool),(l.flatMap fun s=>[s.1,s.1++je,s.1++vd]).length=3*l.length:=by
  intro l;induction l with
  |nil=>rfl
  |cons a l g=>grind
 grind [badL,qq,za,zF]
theorem qoY{ts es nm}(h:yJ ts es nm=false):nm∈badL ts es:=by
 unfold yJ at h;unfold badL;rw[Bool.and_eq_false_iff]at h;rcases h with h|h
 .have h:getK nm es=some true:=by simpa using h
  exact jn _ (qn.2 ⟨_,K0 h,rfl⟩)
 .refine List.mem_append_right _ ?_
  have h:means ts nm≠[]:=zUs h;unfold means at h;by_cases hf:yN ts.sA nm=[]
  .rw [hf,List.nil_append]at h
   refine List.mem_append_right _ ?_;have:∀(g:List (tA×Bool))(i:Nat),yO i g nm≠[]->nm∈g.flatMap fun s=>[s.1,s.1++je,s.1++vd]:=by
    intro g;induction g with
    |nil=>intro i h;exact absurd rfl h
    |cons s g t =>
     intro i h;rw[List.flatMap_cons,qK];by_cases j:uj i s nm=[]
     .refine .inr (t (i+1) ?_)
      simpa[yO,j] using h
     .left
      unfold uj at j;by_cases l:s.1=nm
      .simp [l]
      by_cases o:s.2=true/\s.1++je=nm
      .simp [o.2]
      by_cases p:s.2=true/\s.1++vd=nm
      .simp [p.2]
      exact absurd (by simp[l,o,p]) j
   exact this ts.sS 0 h
  .refine jn _ ?_
   obtain⟨k,r⟩:=List.exists_mem_of_ne_nil _ hf;unfold yN at r;obtain⟨f,hf,e⟩:=List.mem_filterMap.1 r;split at e
   .rename_i C
    exact qn.2 ⟨f,hf,C⟩
   .cases e
theorem K1(ts es):Free ts es:=by
 intro l J;by_cases g:∃ j:Nat,1<=j/\j<=qq ts es/\yJ ts es (vN (l+j))=true
 .exact g
 exfalso;obtain⟨L,rfl⟩:∃ L:Nat,l=L:=⟨l.toNat,zOm⟩;have o:∀ x,x∈(qu (qq ts es)).map (fun i=>vN ((L+(i+1):Nat):Int))->x∈badL ts es:=fun x t=>by
  obtain⟨i,C,rfl⟩:=qn.1 t;rw[yb]at C;refine qoY ?_;cases I:yJ ts es (vN ((L+(i+1):Nat):Int)) with
  |false=>rfl
  |true=>exact absurd ⟨i+1,zOm,zOm,by rw[show (L:Int)+((i+1:Nat):Int)=((L+(i+1):Nat):Int) by omega];exact I⟩ g
 have p:((qu (qq ts es)).map (fun i=>vN ((L+(i+1):Nat):Int))).Nodup:=by
  refine List.pairwise_map.2 (List.nodup_range.imp fun r e=>r ?_);have:=qcD e;omega
 have:=j5 p o;rw[zF,List.length_range]at this;have:=qoX ts es;omega
def putN(es:List (tA×Bool))(l:List Nd):List (tA×Bool):=l.foldl (fun es n=>setK n.name true es) es
def yX(ts:TS)(n:Nd):List (tA×Bool):=ts.sT.foldl (fun I p=>putN I (preN p.body)) (putN [] (preN n))
def yq(ts:TS)(n:Nd):Nd×Int:=
 if (yi ts [] n).1≠0 then (nd0,(yi ts [] n).1)
 else if anyN (fun n=>decide (n.op=47)) n=false then (n,0)
 else match outI ts (yX ts n) n with
  | .error d=>(nd0,d.1)
  | .ok g=>(g,0)
theorem U2(p):∀ m n,szN n<=m->anyN p n=(preN n).any p
 | 0,n,g=>by obtain⟨op,nm,i,ks,q⟩:=n;simp[szN]at g
 |m+1,n,g=>by
  rw[UL,wC,List.any_cons];congr 1;have:∀ l:List Nd,(∀ k,k∈l->k∈n.sD)->ur p l=(zy l).any p:=by
   intro l;induction l with
   |nil=>intro _;rfl
   |cons k l o =>
    intro j;simp only[ur,zy,List.any_append];rw[o fun x r=>j x (zc _ r),U2 p m k (zW1 (yw (j k (zl ..))))]
  exact this n.sD fun k t=>t
end YG
end Go.Proofs.YtipbakanneogpaaGreatDoor
