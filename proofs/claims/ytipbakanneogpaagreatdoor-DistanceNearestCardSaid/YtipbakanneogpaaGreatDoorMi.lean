/-
  Own library, part 9: an abstract reading of values and a calculus over it; contracts of functions; plain lemmas.
-/
import Derived.Test.YtipbakanneogpaaGreatDoorRows
import Derived.LaidMore
import Derived.MakeChecks
import Derived.WalkKit
import Derived.JoinedCond
import Derived.Test.YtipbakanneogpaaGreatDoorMh
set_option linter.unusedVariables false
set_option linter.unusedSimpArgs false
set_option maxRecDepth 100000
open Go renaming World->qf,Value->qg
open Go.Proofs.Tryz renaming prog->qb
open List renaming getElem?_eq_some_iff->qj,mem_map->qm,getElem_mem->qp,range->qt,mem_cons->qw,getElem?_eq_getElem->qz,not_mem_nil->qH,mem_append->qJ,getElem?_set_self->qL,take_length->qO,mem_singleton->qT,length_append->q8,mem_cons_of_mem->za,map_append->zb,getElem?_map->zi,mem_cons_self->zj,all_eq_true->zo,drop_eq_getElem_cons->zp,append_assoc->zt,length_cons->zz,length_map->zA,getD_eq_getElem?_getD->zE,getElem?_append_right->zG,append_nil->zJ,map_cons->zS,drop_length->zW,mem_range->z7,cons_append->yP,mem_filter->y7,mem_of_mem_take->jC,take_append_drop->vC,nil_append->vE,getElem_of_mem->ux,mem_iff_getElem->uX,getElem_map->Qx
open Go.IntKind renaming i64->qo
open Nat renaming le_refl->qr
open Bool renaming and_eq_true->qE,or_eq_true->wU
open Prod.mk renaming injEq->uA
open List.cons renaming injEq->Qy
open Int renaming natCast_add->pq
namespace Go.Proofs.YtipbakanneogpaaGreatDoor
open Go Go.Ev Go.Proofs Tryz
namespace IB
open QU P1 P2 Y1 YF Y9 Y10 Y16 PA YC YG YH Q4 Q6 Q8 PF QT RB QL E3 F2 FC FD FE IA
section
variable {ts:TS}
abbrev bigT(ts:TS):Prop:=∀ x,x∈ts.sS->x.1.size<=4611686018427387904
structure SpD (ts:TS):Prop where
 h:okTS ts
 wp:∀ p,p∈ts.sT->WfN p.body
 wf:∀ f,f∈ts.sP->WfN f.2
 hv:∀ p,p∈ts.sT->zc p.body=true
 hf:∀ f,f∈ts.sP->zc f.2=true
theorem Wq(h:yM ts=true)(i:bigT ts):SpD ts:=by
 obtain⟨ok,j,wf⟩:=qmJ h i;simp only[yM,limB,fldB,qE,decide_eq_true_eq,zo]at h;obtain⟨⟨⟨⟨r,t⟩,C⟩,I⟩,hf,l,o⟩:=h;exact⟨ok,j,wf,fun p g=>(l p g).2,fun f g=>o f g⟩
theorem SpD.chk(S:SpD ts):qh qb 24 [eTS ts] (lDg (jq ts)):=
 qr0 ts S.h S.wp S.wf (fun p g=>(wI.1 (S.hv p g)).2.2.2) (fun f hf=>(wI.1 (S.hf f hf)).2.2.2)
theorem SpD.chkF(S:SpD ts){n}(g:zc n=true):qh qb 25 [eTS ts,lPm [],eNd n] (eDg (yj ts [] n)):=
 kR ts S.h S.wp [] ⟨zSp,zSp⟩ zSp n (ul g) (wI.1 g).2.2.2
theorem qeT(S:SpD ts)(j:jq ts=[]):∀ p,p∈ts.sT->WfN p.body/\yO ts p.body:=fun p g=>⟨S.wp p g,by
 obtain⟨i,l,rfl⟩:=uX.1 g;obtain⟨_,r,o⟩:=Wf (qdH j i l);exact kw (uP S.h zOm) (szN ts.sT[i].body) _ _ _ _ (qr _) o (S.wp _ g)⟩
theorem qeU(S:SpD ts){n}(g:zc n=true)(i:(yj ts [] n).1=0):yO ts n:=by
 obtain⟨_,l,j⟩:=Wf i;exact kw (uP S.h (qr _)) (szN n) _ _ _ _ (qr _) j (ul g)
theorem inlC(S:SpD ts)(i:jq ts=[]){n}(g:zc n=true):qh qb 34 [eTS ts,eNd n] (.tup [eNd (yn ts n).1,aI (yn ts n).2]):=
 qo9 ts S.h (qeT S i) n (ul g) (qeU S g) (ky S.h S.hv g)
theorem inlR(S:SpD ts)(i:jq ts=[]){n}(g:zc n=true):qh qb 52 [eTS ts,eNd n] (.tup [eNd (yn ts n).1,aI (yn ts n).2]):=
 inlRU ts S.h S.hv (qeT S i) n g (qeU S g)
theorem qeV(S:SpD ts)(o:jq ts=[]){n}(j:zc n=true)(g:(yn ts n).2=0):zc (yn ts n).1=true:=by
 by_cases i:(yj ts [] n).1=0
 .cases l:anyN (fun n=>decide (n.op=47)) n with
  |false =>
   have:yn ts n=(n,0):=by unfold yn;rw[if_neg (zUs i),if_pos l]
   rw[this];exact j
  |true=>exact(qqN S.h S.hv o j i l (Prod.ext rfl g)).1
 .unfold yn at g
  rw[if_pos i]at g;exact absurd g i
theorem qeW(S:SpD ts)(g:jq ts=[]){m}(j:OkMa ⟨ts,m⟩ m.sK.length)(l:0<m.sK.length){n}(o:zc n=true):qh qb 10 [eTS ts,eMd m,eNd n] (.tup [aB (hV ⟨ts,m⟩ n).1,aI (hV ⟨ts,m⟩ n).2]):=by
 refine qnT ⟨ts,m⟩ m.sK.length j l (yn ts) n (by have:=S.h.nfa;show ts.sP.length<=_;omega) fun b p=>?_
 have i:zc b=true:=by
  rcases qJ.1 p with h|h
  .obtain ⟨f,hf,rfl⟩:=qm.1 h
   exact S.hf f hf
  .rw [qT]at h;subst h;exact o
 refine⟨inlC S g i,fun r=>?_⟩;have:=qeV S g i r;exact⟨ul this,zW1 (qnV this)⟩
def qsI(ts:TS)(a s:Int)(l:List Nd):Bool:=l.all fun b=>!(decide ((yn ts b).2=0)&&decide (3000<wkN a s (yn ts b).1))
def Wr(ts:TS)(a s:Int)(n:Nd):Bool:=qsI ts a s (ts.sP.map Prod.snd++[n])
theorem qsJ(S:SpD ts)(g:jq ts=[]){n}(i:zc n=true)(j:(yn ts n).2=0):Small (yn ts n).1:=(ul (qeV S g i j)).small
end
end IB
namespace IN
open Y1 P1 YF
def Zx(I:Nd->Nd×Int)(W:Nd->Int)(l:List Nd):Bool:=l.all fun b=>!(decide ((I b).2=0)&&decide (3000<W (I b).1))
theorem qsK(ts I W)(a3:ts.sP.length<=1000)(a s n)(step:∀ b,b∈ts.sP.map Prod.snd++[n]->qh qb 52 [eTS ts,eNd b] (.tup [eNd (I b).1,aI (I b).2]))(yg:∀ b,b∈ts.sP.map Prod.snd++[n]->(I b).2=0->qh qb 53 [eNd (I b).1,aI a,aI s] (aI (W (I b).1))):qh qb 26 [eTS ts,aI a,aI s,eNd n] (aB (Zx I W (ts.sP.map Prod.snd++[n]))):=by
 have a4:(ts.sP.map Prod.snd++[n]).length=ts.sP.length+1:=zSp;have t:∀(k:Nat)(h:k<ts.sP.length)(h2:k<(ts.sP.map Prod.snd++[n]).length),(ts.sP.map Prod.snd++[n])[k]=ts.sP[k].2:=fun k h h2=>by grind
 have C:∀(h2:ts.sP.length<(ts.sP.map Prod.snd++[n]).length),(ts.sP.map Prod.snd++[n])[ts.sP.length]=n:=fun h2=>zSp
 generalize ts.sP.map Prod.snd++[n]=L at *
 generalize hR:Zx I W L=R;refine qSU call26 func26 rfl ?_;refine aK (ts.sP.length+1) (fun k U=>U.tm 1=aI a/\U.tm 2=aI s/\U.tm 4 = .ip (cTS ts)/\U.tm 7 = .ip (cNd n)/\U.tm 9=aI k/\Zx I W (L.drop k)=R) ?_ ?_
 .simp [go_sem, *]
 rintro k U a5 ⟨J,P,p,T,r,g⟩;have wi:∀ b:Nd,WKs [eTS ts,eNd b] [eTS ts,eNd b]:=fun b => .zk (zm ts) (.zk (qK b) .nil)
 have ww:∀ b:Nd,WKs [eNd b,aI a,aI s] [eNd b,aI a,aI s]:=fun b => .zk (qK b) (.zs (.zs .nil))
 have w1:=zWk k;by_cases l:k<ts.sP.length+1
 .have i:k<L.length:=by omega
  have a1:k<=ts.sP.length:=zOm;have a0:(k:Int)<=ts.sP.length:=zOm;have c1:=step _ (qp i);have c2:=yg _ (qp i);rw[zp i,Zx,List.all_cons]at g;by_cases hf:k<ts.sP.length
  .rw [t k hf i]at g c1 c2
   generalize I ts.sP[k].2=ib at *
   obtain⟨b',e'⟩:=ib;simp only at g c1 c2;simp[go_sem,p,T,r,hf,a1,a0];refine fR c1 (wi _) ?_;by_cases he:e'=0
   .subst he
    have c3:=c2 rfl;simp[go_sem,J,P];refine tK c3 (ww b') ?_;generalize W b'=w at *
    by_cases j:3000<w
    .simp [j]at g
     subst g;simp[go_sem,j];exact .zsc _
    .simp [j]at g
     simp[go_sem,j,r,w1,l];exact aA ⟨zS1 J,zS1 P,zS1 p,zS1 T,zSi,by simpa[Zx] using g⟩
   simp_all[go_sem,aA,Zx]
  .have o:k=ts.sP.length:=by omega
   subst o;rw[C i]at g c1 c2;generalize I n=ib at *
   obtain⟨b',e'⟩:=ib;simp only at g c1 c2;simp[go_sem,p,T,r];refine fR c1 (wi _) ?_;by_cases he:e'=0
   .subst he
    have c3:=c2 rfl;simp[go_sem,J,P];refine tK c3 (ww b') ?_;generalize W b'=w at *
    by_cases j:3000<w
    .simp [j]at g
     subst g;simp[go_sem,j];exact .zsc _
    .simp [j]at g
     simp[go_sem,j,r,w1,l];exact aA ⟨zS1 J,zS1 P,zS1 p,zS1 T,zSi,by simpa[Zx] using g⟩
   .simp [he]at g
    simp[go_sem,he,r,w1,l];exact aA ⟨zS1 J,zS1 P,zS1 p,zS1 T,zSi,by simpa[Zx] using g⟩
 .have o:k=ts.sP.length+1:=by omega
  subst o;rw[List.drop_eq_nil_of_le zOm]at g;have a2:R=true:=by rw[<-g];rfl
  subst a2;simp[go_sem,p,r,show ¬((ts.sP.length:Int)+1<=ts.sP.length) by omega];exact .zsc _
end IN
namespace IF
open P1 Y1 YF Y16 YG Q4 FE IB IN
theorem qsL{ts}(S:SpD ts)(i:jq ts=[])(a s)(l:0<=a/\a<=100)(o:0<=s/\s<=100){n}(p:zc n=true):qh qb 26 [eTS ts,aI a,aI s,eNd n] (aB (Wr ts a s n)):=by
 have j:∀ b,b∈ts.sP.map Prod.snd++[n]->zc b=true:=fun b g=>by
  rcases qJ.1 g with h|h
  .obtain ⟨f,hf,rfl⟩:=qm.1 h
   exact S.hf f hf
  .rw [qT]at h;subst h;exact p
 exact qsK ts (yn ts) (wkN a s) (zW1 S.h.nfa) a s n (fun b g=>inlR S i (j b g)) (fun b g r=>qeS a s l o _ _ (qr _) (qsJ S i (j b g) r))
end IF
namespace GZ
open E1 GB GF GP GU GY
theorem qeX(g s f t):t∈selT g s f↔((s:Int),(f:Int),t)∈g:=by
 simp only[selT,qm,y7,qE,decide_eq_true_eq];constructor
 .rintro ⟨⟨a,b,c⟩,⟨h,i,j⟩,rfl⟩
  simp only at i j;subst i j;exact h
 .intro h
  exact⟨_,⟨h,rfl,rfl⟩,rfl⟩
theorem k5:∀ g k p t,(p,t)∈qN g k↔∃(f:Nat) (h:f<g.length),p=((k+f:Nat):Int)/\t∈uS g[f]
 | [],k,p,t=>by simp[qN]
 |b :: g,k,p,t=>by
  simp only[qN,qJ,jh,qm,uA,k5 g (k+1)];constructor
  .rintro (⟨a,j,rfl,rfl⟩|⟨f,hf,rfl,i⟩)
   .exact ⟨0,zSp,zSp,zUs j⟩
   .exact ⟨f+1,by simpa using hf,zOm,zUs i⟩
  .rintro ⟨f,hf,rfl,i⟩
   cases f with
   |zero=>grind
   |succ f=>grind
theorem k6(i g)(N s f:Nat)(t):((s:Int),(f:Int),t)∈chs i (qN g 0) N↔s<N/\(s=0\/i.getD f true=true)/\∃ h,t∈uS g[f]:=by
 simp only[chs,List.mem_flatMap,z7,chA,qm,y7,wU,decide_eq_true_eq,uA,Prod.exists];constructor
 .rintro ⟨C,l,p,I,⟨J,j⟩,P,rfl,rfl⟩
  grind [k5]
 .rintro ⟨o,j,hf,r⟩
  exact⟨s,o,f,t,⟨(k5 _ _ _ _).2 ⟨f,hf,zSp,r⟩,zUs j⟩,rfl,rfl,rfl⟩
theorem qeY(g lo t)(i:t∈lo.ts):∀(ts:List Int)(q),t∈q.1\/t∈ts->t∈(ts.foldl (vw g lo) q).1
 | [],q,h=>by
  grind
 |a :: ts,q,h=>by
  rw[List.foldl_cons];refine qeY g lo t i ts _ ?_;rcases h with h|h
  .grind [vw,List.mem_append_left]
  .rcases qw.1 h with rfl|h
   .refine .inl ?_
    unfold vw;rw[if_pos i];exact List.mem_append_right _ (qT.2 rfl)
   grind
theorem qeZ(g):∀(i:List Bd)(q),∃ l,(i.foldl (insB g) q).1=q.1++l
 | [],q=>⟨[],zSp⟩
 |b :: i,q=>by
  obtain⟨l,h⟩:=qeZ g i (insB g q b);exact⟨_,by rw[List.foldl_cons,h];simp only[insB,zt];rfl⟩
theorem qsM(g i f)(h:f<g.length):∃ n,(yv g i)[f]?=some ⟨g[f].up.ar,(insF i g[f].lo g[f].up.ts n).1⟩:=by
 have e:g=g.take (f+1)++g.drop (f+1):=(vC ..).symm;have j:jp g i=(g.drop (f+1)).foldl (insB i) (jp (g.take (f+1)) i):=by
  rw[jp,jp,<-List.foldl_append,vC]
 obtain⟨l,o⟩:=qeZ i (g.drop (f+1)) (jp (g.take (f+1)) i);rw[<-j,mV g i f h]at o;have p:(yv (g.take f) i).length=f:=by rw[Zn];simp;omega
 grind [jp,yv,insB,zt,zG]
theorem k7(b t):t∈uS b↔t∈b.up.ts/\¬t∈b.lo.ts:=by simp[uS]
theorem qsN(g i f h)(r:g[f].lo.ar=g[f].up.ar)(C:sorted g[f].up.ts)(j:∀ t,t∈g[f].lo.ts->t∈g[f].up.ts)(ts)
  (l:∀ t,t∈ts↔t∈uS g[f]/\t∈((yv g i).getD f noR).ts):unR g[f].lo ⟨g[f].lo.ar,ts⟩=(yv g i).getD f noR:=by
 obtain⟨n,I⟩:=qsM g i f h;rw[zE,I]at l⊢;simp only[Option.getD_some]at l⊢;have o:(insF i g[f].lo g[f].up.ts n).1.Sublist g[f].up.ts:=by
  have:=J1 i g[f].lo g[f].up.ts ([],n) [] (List.Sublist.refl _)
  grind [insF]
 have J:∀ t,t∈g[f].lo.ts->t∈(insF i g[f].lo g[f].up.ts n).1:=fun t h=>qeY i g[f].lo t h g[f].up.ts ([],n) (.inr (j t h))
 obtain⟨P,R⟩:=ZT (g[f].lo.ts++ts);unfold unR;rw[r];congr 1;refine nU P (C.sublist o) fun x=>?_
 rw[R,qJ,l x,k7];constructor
 .rintro (h|⟨_,h⟩)
  .exact J x h
  .exact h
 .intro h
  by_cases p:x∈g[f].lo.ts
  .exact .inl p
  .exact .inr ⟨⟨o.subset h,p⟩,h⟩
theorem qsO(sc:Sc)(j g i)(N k:Nat)(hN:sc.sN=N)(P:k<N)
  (R:∀ b,b∈g->b.lo.ar=b.up.ar) (T:∀ b,b∈g->sorted b.up.ts) (o:∀ b,b∈g->∀ t,t∈b.lo.ts->t∈b.up.ts) :
  anyM sc j g i k∈wD sc j g (chs j (qN g 0) N) N:=by
 refine Vf.2 ⟨k,(chs j (qN g 0) N).filter fun c=>decide (c.2.2∈((yv g (i.getD c.1.toNat [])).getD c.2.1.toNat noR).ts),P,List.filter_sublist,?_⟩;unfold anyM jA;have r:sc.sN.toNat=N:=zOm;rw[r];congr 1;refine List.map_congr_left fun s p=>?_
 rw[z7]at p;have key:∀(s f:Nat)(hf:f<g.length),s<N->(s=0\/j.getD f true=true) ->
   vy ((chs j (qN g 0) N).filter fun c=>decide (c.2.2∈((yv g (i.getD c.1.toNat [])).getD c.2.1.toNat noR).ts)) s f g[f]=(yv g (i.getD s [])).getD f noR:=fun s f hf U hc=>by
  have C:=qp hf;refine qsN g (i.getD s []) f hf (R _ C) (T _ C) (o _ C) _ fun t=>?_
  simp_all[qeX,y7,k6,decide_eq_true_eq,Int.toNat_natCast]
 refine List.ext_getElem (by rw[Kg,Z1]) fun f h1 h2=>?_
 have hf:f<g.length:=by grind [Kg]
 rw[YY _ _ _ _ _ hf];have hi:∀ l,f<(yv g l).length:=fun l=>by rw[Zn];exact hf
 have hg:∀ l,(yv g l)[f]'(hi l)=(yv g l).getD f noR:=fun l=>by grind
 by_cases I:s=0
 .subst I
  rw[if_neg zSp,key 0 f hf p (.inl rfl)];simp only[anyS,if_true];exact hg _
 .simp only[anyS,if_neg I,List.getElem_mapIdx]
  by_cases J:j.getD f true=true
  .grind
  .rw [if_neg J,if_pos ⟨I,zUs J⟩,key 0 f hf zOm (.inl rfl)]
end GZ
namespace GX
open YF P1 E3 E4 EO ER G5 GQ GR GW
theorem qsP(xs l p)(hf:EO.FnOk qb l (fun x=>aI x) (·∈xs) (fun x=>aB (p x)))(R:xs.length<=1000000000):qh qb 155 [lI xs,l] (aI (jJ p xs 0)):=by
 refine qSU call155 func155 rfl ?_;refine qk.up xs.length (fun k U=>U.tm 0=lI xs/\U.tm 1=l/\U.tm 7=aI xs.length/\U.tm 8=aI k/\U.mu=[]/\jJ p (xs.drop k) k=jJ p xs 0) ?_ ?_
 .simp [go_sem]
 rintro k U T ⟨C,I,o,r,J,i⟩;by_cases g:k<xs.length
 .rw [XV _ _ _ _ g]at i
  simp[go_sem,C,I,o,r,J,g];refine FnOk.call (enc:=fun x=>aI x) hf (qp g) ?_;by_cases j:p xs[k]=true
  .rw [if_pos j]at i
   simp[go_sem,j];rw[<-i];exact .zsc _
  .rw [if_neg j]at i
   simp only[Bool.not_eq_true]at j;simp[go_sem,C,I,o,r,g,j]
   grind [zT]
 .have t:k=xs.length:=by omega
  subst t;rw[zW]at i;simp[go_sem,o,r,J];rw[<-i];exact .zsc _
theorem qsQ(xs g p)(hf:EO.FnOk qb g (fun x=>aI x) (·∈xs) (fun x=>aB (p x)))(i:xs.length<=1000000000):qh qb 102 [lI xs,g] (aB (xs.any p)):=by
 refine qSU call102 func102 rfl ?_;refine tK (qsP xs g p hf i) (.zk (zg _) (.cons (.hf hf.1) .nil)) ?_;rw[<-Uy p xs 0 zOm];simp[go_sem];exact .zsc _
theorem qsR(ts sc)(F:Fit9 ts sc)(f)(hf:f∈ts.sA):qh qb 57 [eTS ts,Ud f] (aB true):=by
 have t:=F.f1 f hf;have l:=F.fs f hf;have C:=F.ns;have o:HF (.ip (cTS ts)):=HF.ip fun c j=>JR _ c j
 have p:∀ s,s∈f.sS->qh qb 103 [aI s,.ip (cTS ts)] (aB false):=fun s I=>by
  have:=l s I;have r:¬s<0:=zOm;have J:¬(ts.sS.length:Int)<=s:=zOm;refine qSV call103 func103 rfl ?_;simp[go_sem,r,J];exact .zsc _
 have g:HF (.fn (.func 103) [] [.ip (cTS ts)]):=HF.fn (fun c j=>by simp at j) (fun c j=>by grind);have i:=qsQ f.sS (.fn (.func 103) [] [.ip (cTS ts)]) (fun _=>false) ⟨g,_,[],_,rfl,fun x P=>⟨[aI x,.ip (cTS ts)],by simpa using WKs.zs (.zk o .nil),p x P⟩⟩ zOm;rw[show (f.sS.any fun _=>false)=false by simp]at i;refine qSV call57 func57 rfl ?_;have r:¬(f.sS.length:Int)<1:=zOm;have R:¬(3:Int)<f.sS.length:=zOm;simp[go_sem,r,R];refine fR i (.zk (zg _) (.zk g .nil)) ?_;exact .zsc _
structure MdV (ts:TS) (m:Md):Prop where
 f:Fit9 ts m.sc
 z:yR m.sc=true
 ns:(m.sK.length:Int)=m.sc.sN
 l0:0<=m.loop
 l1:m.loop<m.sK.length
 len:∀ s,s∈m.sK->s.length=ts.sA.length
 ar:∀ s,s∈m.sK->∀(i:Nat)(h:i<s.length)(h2:i<ts.sA.length),s[i].ar=ts.sA[i].sS.length/\s[i].ts.Pairwise (·<·)/\∀ t,t∈s[i].ts->t∈yF m.sc ts.sA[i].sS
 fix:∀(k:Nat)(h:k<m.sK.length)(h0:0<m.sK.length)(i:Nat)(h1:i<m.sK[k].length)(h3:i<m.sK[0].length)(h2:i<ts.sA.length),ts.sA[i].var=false->m.sK[k][i]=m.sK[0][i]
theorem k8{sc}(h:yR sc=true):sumI sc.sC<=12:=by
 simp_all[yR,qE,decide_eq_true_eq]
theorem k9(ts m)(V:MdV ts m):qh qb 29 [eTS ts,eMd m] (aB true):=by
 have F:=V.f;have af:=V.ns;have an:=V.l0;have ao:=V.l1;have aq:=F.s1;have au:=F.s4;have av:=F.nf;have ag:=k8 V.z;refine qSU call29 func29 rfl ?_;refine tK (qbT ts m.sc F V.z) (.zk (zm _) (.zk (zr _) .nil)) ?_;have n1:¬m.loop<0:=zOm;have n2:¬(m.sK.length:Int)<=m.loop:=zOm;simp[go_sem,af,n1];have n3:¬m.sc.sN<=m.loop:=zOm;simp[go_sem,n3];refine fR (Yw m.sc F.g) (.zk (zr _) .nil) ?_;refine aK ts.sA.length (fun k U=>U.tm 2 = .ip (cTS ts)/\U.tm 3 = .ip (cMd m)/\U.tm 5=aI (sumI m.sc.sC)/\U.tm 44 = .lst false (ts.sA.map j8)/\U.tm 45=aI ts.sA.length/\U.tm 46=aI k) ?_ ?_
 .simp [go_sem, *]
 rintro k U hk ⟨P,I,R,a8,T,a0⟩;by_cases i:k<ts.sA.length
 .have w1:=zWk k
  simp[go_sem,P,a8,T,a0,i];refine tK (qsR ts m.sc F _ (qp i)) (.zk (zm _) (.zk (nq _) .nil)) ?_;simp_all[go_sem,aA]
 have J:k=ts.sA.length:=zOm;simp[go_sem,I,T,a0,J];refine aK m.sK.length (fun k U=>U.tm 2 = .ip (cTS ts)/\U.tm 3 = .ip (cMd m)/\U.tm 5=aI (sumI m.sc.sC)/\U.tm 56=lSt m.sK/\U.tm 57=aI m.sK.length/\U.tm 58=aI k) ?_ ?_
 .simp [go_sem, *]
 clear P I R a8 T a0 hk i J k U;rintro k U hk ⟨P,I,R,t,l,o⟩;by_cases i:k<m.sK.length
 .have w1:=zWk k
  have a9:=qp i;have aa:=V.len _ a9;simp[go_sem,P,t,l,o,i,aa];refine aK ts.sA.length (fun j U=>U.tm 2 = .ip (cTS ts)/\U.tm 3 = .ip (cMd m)/\U.tm 5=aI (sumI m.sc.sC)/\U.tm 56=lSt m.sK/\U.tm 57=aI m.sK.length/\U.tm 58=aI k/\U.tm 9=lRel m.sK[k]/\U.tm 69 = .lst false (ts.sA.map j8)/\U.tm 70=aI ts.sA.length/\U.tm 71=aI j) ?_ ?_
  .simp [go_sem, *]
  clear P I R t l o U;rintro j U hj ⟨P,I,R,t,l,o,e9,ab,a4,a5⟩;by_cases p:j<ts.sA.length
  .have w2:=zWk j
   have a6:j<m.sK[k].length:=zOm;have a7:0<m.sK.length:=zOm;have ad:j<m.sK[0].length:=by rw[V.len _ (qp a7)];exact p
   obtain⟨a1,a2,a3⟩:=V.ar _ a9 j a6 p;have ae:=V.fix k i a7 j a6 ad p;have C:=qp p;obtain⟨v1,l1⟩:=relT ts m.sc F ag _ C _ a1 a2 a3;have i2:=qbX ts m.sc F _ C _ l1 a3;have ah:=EW.X3 m.sc F.g (fun a ha=>(F.g.2 a ha).1) ts.sA[j].sS (F.fs _ C) (F.f1 _ C).1 (F.f1 _ C).2;have heq:=XU m.sK[k][j] m.sK[0][j] zOm;generalize hr:m.sK[k][j]=r at *
   generalize ai:m.sK[0][j]=r0 at *
   simp[go_sem,e9,ab,a4,a5,p,a6,hr];have wr:WK (.agg [aI ts.sA[j].sS.length,lI r.ts]) (eRel r):=by rw[<-a1];exact .hf (qP r)
   have aj:WK (.agg [lI m.sc.sC,aI m.sc.sN]) (eSc m.sc) := .hf (zr _);generalize hX:U.mu.length=X at *
   refine cL zKr ?_;have g0:∀ a b:Cell,(U.mu++[a,b])[X]?=some a:=fun a b=>by grind
   have g1:∀ a b:Cell,(U.mu++[a,b])[X+1]?=some b:=fun a b=>by grind
   simp[go_sem,R,hX,a1];refine tK v1 (.zs (.cons wr .nil)) ?_;simp[go_sem,I,hX];refine fR ah (.cons aj (.zk (zg _) .nil)) ?_;refine fR i2 (.cons wr (.zk (qP _) .nil)) ?_;refine cL zKr ?_;cases hv:ts.sA[j].var with
   |true =>
    simp_all[go_sem,aA]
   |false =>
    have ak:=ae hv;simp[go_sem,I,hX,a7,ad,ai];refine tK heq (.cons wr (.zk (qP _) .nil)) ?_;rw[decide_eq_true ak];simp[go_sem,a5,p,w2];exact aA ⟨zS1 P,zS1 I,zS1 R,zS1 t,zS1 l,zS1 o,zS1 e9,zS1 ab,zS1 a4,zSi⟩
  .have al:j=ts.sA.length:=by omega
   simp[go_sem,o,a4,a5,al,w1]
   try refine⟨i,aA ?_⟩
   try refine aA ?_
   exact⟨zS1 P,zS1 I,zS1 R,zS1 t,zS1 l,zSi⟩
 .have J:k=m.sK.length:=by omega
  simp[go_sem,l,o,J];exact .zsc _
end GX
namespace HA
open P1 E1 GF GQ GR GS GU GW GX GZ
section
variable {g:List Bd}{ts:TS}
theorem pf(c s f b t):t∈(vy c s f b).ts↔t∈b.lo.ts\/((s:Int),(f:Int),t)∈c:=by
 unfold vy unR;rw[(ZT _).2,qJ,qeX]
theorem pg(c s f b):sorted (vy c s f b).ts:=(ZT _).1
theorem qe0{sc}(B:BndV ts sc g){i N c}(j:c.Sublist (chs i (qN g 0) N))(s f hf) :
  (∀ t,t∈g[f].lo.ts->t∈(vy c s f g[f]).ts)/\∀ t,t∈(vy c s f g[f]).ts->t∈g[f].up.ts:=by
 refine⟨fun t h=>(pf ..).2 (.inl h),fun t h=>?_⟩;rcases (pf ..).1 h with h|h
 .exact B.sub _ (qp hf) t h
 .obtain ⟨_,_,_,h⟩:=(k6 ..).1 (j.subset h)
  exact((k7 ..).1 h).1
theorem qe1{sc}(B:BndV ts sc g){i N c}(j:c.Sublist (chs i (qN g 0) N))(s f hf)(l:f<(ve i g c s).length) :
  (ve i g c s)[f].ar=g[f].lo.ar/\sorted (ve i g c s)[f].ts/\(∀ t,t∈g[f].lo.ts->t∈(ve i g c s)[f].ts)/\∀ t,t∈(ve i g c s)[f].ts->t∈g[f].up.ts:=by
 rw[YY _ _ _ _ _ hf];split
 .exact ⟨rfl,pg ..,qe0 B j _ _ hf⟩
 .exact ⟨rfl,pg ..,qe0 B j _ _ hf⟩
theorem qe2{sc}(F:Fit9 ts sc)(z:yR sc=true)(B:BndV ts sc g){N k:Nat}(J:sc.sN=N)(hk:k<N){c}(P:c.Sublist (chs (vsT ts) (qN g 0) N)):MdV ts (jA sc (vsT ts) g c N k):=by
 have l:∀ s,s∈(jA sc (vsT ts) g c N k).sK->∃ j,s=ve (vsT ts) g c j:=fun s o=>by
  obtain⟨j,_,rfl⟩:=qm.1 o;exact⟨j,rfl⟩
 have C:(jA sc (vsT ts) g c N k).sK.length=N:=by simp[jA]
 refine⟨F,z,by rw[C];exact J.symm,by simp[jA],by rw[C];simp only[jA];omega,fun s o=>?_,fun s o i h p=>?_,fun j h h0 i h1 h3 p R=>?_⟩
 .obtain ⟨j,rfl⟩:=l s o
  rw[Z1];exact B.len
 .obtain ⟨j,rfl⟩:=l s o
  have hf:i<g.length:=by rw[Z1]at h;exact h
  obtain⟨T,U,a3,a4⟩:=qe1 B P j i hf h;exact⟨T.trans (B.lo i hf p).1,U,fun t ht=>B.full i hf p t (a4 t ht)⟩
 .have hf:i<g.length:=by rw[B.len];exact p
  have r:(vsT ts).getD i true=false:=by
   rw[zE];simp[p,R]
  simp only[jA,Qx,List.getElem_range,YY _ _ _ _ _ hf];by_cases I:j=0
  .subst I;rfl
  .rw [if_pos ⟨I,r⟩,if_neg zSp]
end
end HA
namespace HB
end HB
namespace HC
open E3 GB GU
def bit(m:Md)(c:Ch):Bool:=decide (c.2.2∈((m.sK.getD c.1.toNat []).getD c.2.1.toNat noR).ts)
end HC
namespace HD
end HD
namespace IC
open Y9 P1 E1 E3 F2 FD GA GB GF GS GU GV GW GX GY GZ HA HC
section
variable {hv:Md->Bool×Int}{ts:TS}
theorem qsS(n)(k:Nat)(g:k<=3):powI n k=n ^ k:=by
 unfold powI powN;congr 1;omega
theorem qe3{m}(h:okTS ts)(V:MdV ts m):OkMa ⟨ts,m⟩ m.sK.length:=by
 have F:=V.f;have j:=F.g;have l:=k8 V.z;have hp:=F.p;refine { len:=rfl,nx:=?_,n0:=by show 0<=sumI m.sc.sC;omega,n12:=l,st:=?_,at0:=?_,gsc:=j,pos:=fun a o=>(j.2 a o).1,al:=F.ns.symm,loop:=V.l0,N1:=zW2 V.ns F.s4,ts:=h }
 .intro t J
  have:=V.l1;have:=V.l0;show (if t+1<m.sK.length then t+1 else m.loop.toNat)<m.sK.length
  grind
 .intro s P
  have hd:m.sK.getD s []=m.sK[s]:=by rw[zE,qz P];rfl
  show (m.sK.getD s []).length=ts.sA.length/\∀ r,r∈m.sK.getD s []->GR (sumI m.sc.sC) r;rw[hd];have R:=qp P;have hl:=V.len _ R;refine⟨hl,fun r hr=>?_⟩;obtain⟨i,C,rfl⟩:=ux hr;obtain⟨a1,a2,a3⟩:=V.ar _ R i C zOm;have f1:=F.f1 _ (qp (show i<ts.sA.length by omega));refine⟨zOm,zOm,fun t J=>?_,a2⟩;have:=qbV _ _ t (a3 t J)
  grind [qsS,sumI,Int.pow_nonneg]
 .intro i C
  have I:i<m.sc.sC.length:=by rw[<-F.ns];exact C
  exact qnW m.sc.sC i (fun a o=>(j.2 a o).1) I
theorem qe4(hv):∀ L acc,(∀ m,m∈L->(hv m).2=0)->modG hv acc L=(acc++L.filter fun m=>(hv m).1,0)
 | [],acc,_=>by simp[modG]
 |m :: L,acc,h=>by
  rw[modG,if_neg (by grind),qe4 hv L _ fun x g=>h x (zP1 g)]
  grind
theorem qe5(hv):∀ L acc,(modG hv acc L).2=0->∀ m,m∈L->(hv m).2=0
 | [],acc,_,m,g=>absurd g qH
 |x :: L,acc,h,m,g=>by
  rw[modG]at h;by_cases i:(hv x).2=0
  .rw [if_neg (zUs i)]at h
   rcases qw.1 g with rfl|g
   .exact i
   .exact qe5 hv L _ h m g
  grind
theorem qe6(hv):∀ L acc,(modG hv acc L).2≠0->(modG hv acc L).1=[]/\∃ m,m∈L/\(hv m).2=(modG hv acc L).2
 | [],acc,h=>absurd rfl h
 |x :: L,acc,h=>by
  rw[modG]at h⊢;by_cases g:(hv x).2=0
  .simp_all [if_neg,qe6]
  grind
theorem qe7{L}(h:(modV hv L 0).2=0):(∀ m,m∈L->(hv m).2=0)/\(modV hv L 0).1=L.filter fun m=>(hv m).1:=by
 grind [modV,modG,qe5,qe4]
theorem qe8{L}(h:(modV hv L 0).2≠0):(modV hv L 0).1=[]/\∃ m,m∈L/\(hv m).2=(modV hv L 0).2:=by
 grind [modV,modG,qe6]
theorem qsT(hv L):(modV hv L 0).1.Sublist L:=by
 by_cases h:(modV hv L 0).2=0
 .rw [(qe7 h).2];exact List.filter_sublist
 .rw [(qe8 h).1];exact List.nil_sublist _
theorem qsU{s:List Rl}{f}(h):s.getD f noR=s[f]:=by rw[zE,qz h];rfl
structure Betw (sc:Sc) (vs:List Bool) (bs:List Bd) (N:Nat) (m:Md):Prop where
 sc:m.sc=sc
 lp:∃ k:Nat,k<N/\m.loop=k
 ns:m.sK.length=N
 len:∀ s,s∈m.sK->s.length=bs.length
 rel:∀(k f:Nat)(hk:k<m.sK.length)(hf:f<bs.length)(h2:f<m.sK[k].length),m.sK[k][f].ar=bs[f].lo.ar/\sorted m.sK[k][f].ts/\(∀ t,t∈bs[f].lo.ts->t∈m.sK[k][f].ts)/\∀ t,t∈m.sK[k][f].ts->t∈bs[f].up.ts
 fix:∀(k f:Nat)(hk:k<m.sK.length)(h0:0<m.sK.length)(h2:f<m.sK[k].length)(h3:f<m.sK[0].length),vs.getD f true=false->m.sK[k][f]=m.sK[0][f]
theorem ph{sc g}(B:BndV ts sc g){N}(T:1<=N){m}(h:m∈wD sc (vsT ts) g (chs (vsT ts) (qN g 0) N) N):Betw sc (vsT ts) g N m:=by
 obtain⟨k,c,p,r,rfl⟩:=Vf.1 h;have t:(jA sc (vsT ts) g c N k).sK.length=N:=by simp[jA]
 have i:∀ s,s∈(jA sc (vsT ts) g c N k).sK->∃ j,s=ve (vsT ts) g c j:=fun s l=>by
  obtain⟨j,_,rfl⟩:=qm.1 l;exact⟨j,rfl⟩
 refine⟨rfl,⟨k,p,rfl⟩,t,fun s l=>?_,fun j f C hf o=>?_,fun j f C U o h3 hv=>?_⟩
 .obtain ⟨j,rfl⟩:=i s l
  rw[Z1]
 .simp only[jA,Qx,List.getElem_range]at o⊢
  obtain⟨I,J,P,R⟩:=qe1 B r j f hf o;exact⟨I,J,P,R⟩
 simp_all[jA,vsT,ve,Z1,Qx,List.getElem_range,YY]
theorem qsV{sc g}(B:BndV ts sc g){N m}(h:Betw sc (vsT ts) g N m):m∈wD sc (vsT ts) g (chs (vsT ts) (qN g 0) N) N:=by
 obtain⟨k,hk,j⟩:=h.lp;refine Vf.2 ⟨k,(chs (vsT ts) (qN g 0) N).filter (bit m),hk,List.filter_sublist,?_⟩;have U:=h.ns;have key:∀(s f:Nat)(P:s<m.sK.length)(hf:f<g.length)(J:f<m.sK[s].length),(s=0\/(vsT ts).getD f true=true) ->
   m.sK[s][f]=vy ((chs (vsT ts) (qN g 0) N).filter (bit m)) s f g[f]:=fun s f P hf J hc=>by
  obtain⟨a1,a2,a3,a4⟩:=h.rel s f P hf J;have o:∀ t,bit m ((s:Int),(f:Int),t)=decide (t∈m.sK[s][f].ts):=fun t=>by
   have e:(m.sK.getD s []).getD f noR=m.sK[s][f]:=by
    rw[zE (l:=m.sK),qz P];exact qsU J
   simp only[bit,Int.toNat_natCast,e]
  have e:m.sK[s][f].ts=(vy ((chs (vsT ts) (qN g 0) N).filter (bit m)) s f g[f]).ts:=by
   refine XI a2 (pg ..) fun t=>?_
   rw[pf,y7,k6,o];simp only[decide_eq_true_eq]
   grind [k7]
  have e2:m.sK[s][f].ar=(vy ((chs (vsT ts) (qN g 0) N).filter (bit m)) s f g[f]).ar:=a1;generalize m.sK[s][f]=r at *
  generalize vy ((chs (vsT ts) (qN g 0) N).filter (bit m)) s f g[f]=q at *
  obtain⟨ra,rt⟩:=r;simp_all
 obtain⟨a0,i,a5⟩:=m;have p:=h.sc;simp only at p j U key;unfold jA;rw[p,j];congr 1;refine List.ext_getElem (zP1 U) fun s R J=>?_
 rw[Qx,List.getElem_range];have a6:=h.len i[s] (qp R);refine List.ext_getElem (by grind [Z1]) fun f h3 h4=>?_
 have hf:f<g.length:=zOm;rw[YY _ _ _ _ _ hf];by_cases T:s≠0/\(vsT ts).getD f true=false
 .rw [if_pos T]
  have C:0<i.length:=zOm;have I:f<i[0].length:=zW1 (h.len i[0] (qp C));rw[h.fix s f R C h3 I T.2];exact key 0 f C hf I (.inl rfl)
 .rw [if_neg T]
  refine key s f R hf h3 ?_;by_cases C:s=0
  .exact .inl C
  grind
end
end IC
namespace HE
open P1 E1 G5 GP GW
def wtR(rw:List Int)(k:Nat):Int:=if k<rw.length then rw.getD k 0 % 4 else 1
def selW(p:Int->Bool)(rw:List Int):List Int->Nat->List Int
 | [],_=>[]
 |t :: R,k=>(if p (wtR rw k)=true then [t] else [])++selW p rw R (k+1)
theorem qe9(p rw):∀ ts g k,selW p rw (ts++g) k=selW p rw ts k++selW p rw g (k+ts.length)
 | [],g,k=>by simp[selW]
 |t :: ts,g,k=>by
  rw[yP,selW,selW,qe9 p rw ts g (k+1),zt,zz,show k+1+ts.length=k+(ts.length+1) by omega]
theorem qfA(p rw)(ts:List Int)(k h):selW p rw (ts.take (k+1)) 0=selW p rw (ts.take k) 0++(if p (wtR rw k)=true then [ts[k]] else []):=by
 grind [List.take_succ_eq_append_getElem,qe9,selW]
theorem wO(p rw):∀ ts k,(selW p rw ts k).Sublist ts
 | [],k=>List.Sublist.refl _
 |t :: ts,k=>by
  rw[selW];split
  .exact (wO p rw ts (k+1)).cons_cons t
  .exact (wO p rw ts (k+1)).cons t
theorem qfB{p q}(h:∀ x,p x=true->q x=true)(rw):∀ ts k t,t∈selW p rw ts k->t∈selW q rw ts k
 | [],k,t,g=>g
 |a :: ts,k,t,g=>by
  rw[selW,qJ]at g⊢;rcases g with g|g
  .grind
  .exact .inr (qfB h rw ts (k+1) t g)
def Ws(rw:List Int)(b:Bd):Bd:=⟨⟨b.up.ar,selW (fun x=>decide (1<x)) rw b.up.ts 0⟩,⟨b.up.ar,selW (fun x=>decide (0<x)) rw b.up.ts 0⟩⟩
def zZ(ts:TS)(sc:Sc)(raw:List (List Int)):List Bd:=(defB ts sc).mapIdx fun i b=>Ws (raw.getD i []) b
theorem Qw(ts sc raw):(zZ ts sc raw).length=ts.sA.length:=by simp[zZ,defB]
theorem Wt(ts sc raw i h)(g:i<ts.sA.length):(zZ ts sc raw)[i]=Ws (raw.getD i []) ⟨⟨ts.sA[i].sS.length,[]⟩,⟨ts.sA[i].sS.length,yF sc ts.sA[i].sS⟩⟩:=by
 simp[zZ,defB]
theorem pi(ts sc raw)(hf:∀ f,f∈ts.sA->sorted (yF sc f.sS)):BndV ts sc (zZ ts sc raw):=by
 have key:∀ b,b∈zZ ts sc raw->∃(i:Nat) (g:i<ts.sA.length),b=Ws (raw.getD i []) ⟨⟨ts.sA[i].sS.length,[]⟩,⟨ts.sA[i].sS.length,yF sc ts.sA[i].sS⟩⟩:=fun b j=>by
  obtain⟨i,p,rfl⟩:=uX.1 j
  grind [Qw,Wt]
 refine⟨Qw ..,fun i h g=>?_,fun b j=>?_,fun b j t l=>?_,fun i h g t l=>?_⟩
 .rw [Wt _ _ _ _ h g];exact⟨rfl,rfl⟩
 .obtain ⟨i,g,rfl⟩:=key b j
  have:=hf _ (qp g);exact⟨this.sublist (wO ..),this.sublist (wO ..)⟩
 .obtain ⟨i,g,rfl⟩:=key b j
  exact qfB (fun x o=>by have:=of_decide_eq_true o;grind) _ _ _ t l
 .rw [Wt _ _ _ _ h g]at l
  exact(wO ..).subset l
end HE
namespace HF1
open GB
theorem qsW{a b:Ed}:a=b↔a.kind=b.kind/\a.state=b.state/\a.field=b.field/\a.tup=b.tup:=by
 cases a;cases b;simp
instance:DecidableEq Ed:=fun a b=>decidable_of_iff _ qsW.symm
end HF1
namespace HG
end HG
namespace HH
end HH
namespace HI
open E1 E3 E4 GF
def wthB(b:Bd)(r:Rl):Bool:=decide (b.lo.ar=r.ar)&&(decide (b.up.ar=r.ar)&&(inOk b.lo r&&inOk r b.up))
theorem qsX(b r)(i:b.lo.ts.length<=1000000000)(j:b.up.ts.length<=1000000000)(g:r.ts.length<=1000000000)(s1:sorted r.ts)(l:sorted b.up.ts):qh qb 36 [eBd b,eRel r] (aB (wthB b r)):=by
 refine qSV call36 func36 rfl ?_;unfold wthB;by_cases c1:b.lo.ar=r.ar
 .by_cases c2:b.up.ar=r.ar
  .simp [go_sem,c1,c2]
   refine tK (in06 b.lo r i g s1) (.cons (by rw[<-c1];exact .hf (qP _)) (.zk (qP _) .nil)) ?_;cases c3:inOk b.lo r with
   |false =>
    simp[go_sem,c1,c2,c3];exact .zsc _
   |true =>
    simp[go_sem,c1,c2,c3];refine tK (in06 r b.up g j l) (.zk (qP _) (.cons (by rw[<-c2];exact .hf (qP _)) .nil)) ?_;simp[go_sem,c1,c2,c3];exact .zsc _
  .simp [go_sem,c1,c2]
   exact .zsc _
 .simp [go_sem,c1]
  exact .zsc _
def wthS(g:List Bd)(s:List Rl):Bool:=decide (s.length=g.length)&&(g.zip s).all fun p=>wthB p.1 p.2
def cntB(g:List Bd)(m:Md):Bool:=m.sK.all (wthS g)
theorem Vb{I:Type}{p}{l:List I}{k}(h:k<l.length)(g:p l[k]=false):l.all p=false:=by
 cases e:l.all p with
 |false=>rfl
 |true=>rw[zo.1 e _ (qp h)]at g;cases g
theorem Wu{I:Type}{p}{l:List I}(h:∀(i)(g:i<l.length),p l[i]=true):l.all p=true:=zo.2 fun x j=>by
 obtain⟨i,g,rfl⟩:=uX.1 j;exact h i g
theorem qsY(l m)(hb:l.length<=1000000)(hs:m.sK.length<=1000000)(ob:∀ b,b∈l->b.lo.ts.length<=1000000000/\b.up.ts.length<=1000000000/\sorted b.up.ts)
  (os:∀ s,s∈m.sK->s.length<=1000000/\∀ r,r∈s->r.ts.length<=1000000000/\sorted r.ts):qh qb 11 [lBd l,eMd m] (aB (cntB l m)):=by
 refine qSU call11 func11 rfl ?_;refine aK m.sK.length (fun k U=>U.tm 0=lBd l/\U.tm 3 = .ip (cMd m)/\U.tm 5=aI k/\∀(i:Nat)(h:i<k)(P:i<m.sK.length),wthS l m.sK[i]=true) ?_ ?_
 .exact ⟨zSi,zSi,zSi,fun i h=>absurd h (Nat.not_lt_zero i)⟩
 rintro k U hk ⟨p,t,C,J⟩;by_cases g:k<m.sK.length
 .have w1:=zWk k
  obtain⟨o1,o2⟩:=os _ (qp g);by_cases R:m.sK[k].length=l.length
  case neg =>
   have a2:¬(m.sK[k].length:Int)=l.length:=zOm;have hf:cntB l m=false:=Vb g (by unfold wthS;rw[decide_eq_false R];rfl);rw[hf];simp[go_sem,p,t,C,g,R];exact .zsc _
  simp[go_sem,p,t,C,g,R];refine aK l.length (fun j U=>U.tm 0=lBd l/\U.tm 3 = .ip (cMd m)/\U.tm 5=aI k/\U.tm 6=aI j/\∀(i:Nat)(h:i<j)(h1:i<l.length)(h2:i<m.sK[k].length),wthB l[i] m.sK[k][i]=true) ?_ ?_
  .exact ⟨zS1 p,zS1 t,zS1 C,zSi,fun i h=>absurd h (Nat.not_lt_zero i)⟩
  clear p t C;rintro j U hj ⟨p,t,C,T,a0⟩;by_cases o:j<l.length
  .have w2:=zWk j
   have I:j<m.sK[k].length:=zOm;obtain⟨b1,b2,b3⟩:=ob _ (qp o);obtain⟨r1,r2⟩:=o2 _ (qp I);simp[go_sem,p,t,C,T,g,o,I];refine cL zKr ?_;simp[go_sem,p,t,C,T,g,o,I];refine tK (qsX l[j] m.sK[k][j] b1 b2 r1 r2 b3) (.zk (KM _) (.zk (qP _) .nil)) ?_;cases hw:wthB l[j] m.sK[k][j] with
   |false =>
    have hf:cntB l m=false:=Vb g (by
     unfold wthS;rw[decide_eq_true R,Bool.true_and];exact Vb (k:=j) zSo (zUs hw))
    rw[hf];simp[go_sem,p,t,C,T,g,o,I];exact .zsc _
   |true =>
    simp[go_sem,p,t,C,T,g,o,I,w2]
    try refine⟨o,aA ?_⟩
    try refine aA ?_
    refine⟨zS1 p,zS1 t,zS1 C,zSi,fun i P h1 h2=>?_⟩;by_cases h:i<j
    .exact a0 i h h1 h2
    .have:i=j:=by omega
     subst this;exact hw
  .have a3:j=l.length:=by omega
   have a1:wthS l m.sK[k]=true:=by
    unfold wthS;rw[decide_eq_true R,Bool.true_and];refine Wu fun i P=>?_
    simp only[List.length_zip]at P;simp only[List.getElem_zip];exact a0 i zOm zOm zOm
   simp[go_sem,p,t,C,T,show ¬j<l.length from o,w1]
   try refine⟨g,aA ?_⟩
   try refine aA ?_
   refine⟨zS1 p,zS1 t,zSi,fun i P h1=>?_⟩;by_cases h:i<k
   .exact J i h h1
   .have:i=k:=by omega
    subst this;exact a1
 .have hf:cntB l m=true:=Wu fun i P=>J i zOm P
  rw[hf];simp[go_sem,p,t,C,show ¬k<m.sK.length from g];exact .zsc _
end HI
namespace ID
open P1 E1 E3 GS GW HI IC
theorem qfC{a b}:inOk a b=true↔∀ t,t∈a.ts->t∈b.ts:=by simp[inOk,zo]
theorem qfD{ts sc b c}(B:BndV ts sc b)(C:BndV ts sc c){N m}(h:Betw sc (vsT ts) b N m) :
  cntB c m=true↔∀(k f)(g:k<m.sK.length)(hf:f<c.length)(r:f<m.sK[k].length),(∀ t,t∈c[f].lo.ts->t∈m.sK[k][f].ts)/\∀ t,t∈m.sK[k][f].ts->t∈c[f].up.ts:=by
 have J:b.length=c.length:=by rw[B.len,C.len]
 constructor
 .intro l k f g hf r
  have o:=zo.1 l _ (qp g);simp only[wthS,qE,decide_eq_true_eq,zo]at o;have p:=o.2 (c[f],m.sK[k][f]) (by
   grind [uX])
  simp only[wthB,qE,decide_eq_true_eq,qfC]at p;exact p.2.2
 .intro l
  refine Wu fun k g=>?_
  have I:=h.len _ (qp g);simp only[wthS,qE,decide_eq_true_eq];refine⟨zOm,Wu fun f hf=>?_⟩;simp only[List.length_zip]at hf;have i:f<c.length:=zOm;have j:f<m.sK[k].length:=zOm;obtain⟨c1,c2⟩:=l k f g i j;have P:=(h.rel k f g zOm j).1;have R:=B.lo f zOm (by rw[<-B.len];omega);have T:=C.lo f i (by grind);simp_all[List.getElem_zip,wthB,qE,decide_eq_true_eq,qfC]
end ID
namespace IE
open P1 E3 GM GS GV GW IC
theorem VA(g):∀ l m,∃ p q,m :: l=p++y6 g m l :: q/\(∀ x,x∈p->g (y6 g m l)<g x)/\∀ x,x∈q->g (y6 g m l)<=g x
 | [],m=>⟨[],[],rfl,fun x j=>absurd j qH,fun x j=>absurd j qH⟩
 |x :: l,m=>by
  rw[y6];by_cases h:g x<g m
  .rw [if_pos h]
   obtain⟨p,q,e,r,o⟩:=VA g l x;refine⟨m :: p,q,by rw[e];rfl,fun y i=>?_,o⟩;rcases qw.1 i with rfl|i
   .have:g (y6 g x l)<=g x:=by
     have j:x∈p++y6 g x l :: q:=by rw[<-e];simp
     rcases qJ.1 j with j|j
     .grind
     .rcases qw.1 j with j|j
      .rw [<-j];omega
      grind
    omega
   grind
  .rw [if_neg h]
   obtain⟨p,q,e,r,o⟩:=VA g l m;cases p with
   |nil =>
    simp only[vE,Qy]at e;obtain⟨t,C⟩:=e;refine⟨[],x :: q,by grind,fun y i=>absurd i qH,fun y i=>?_⟩;rcases qw.1 i with rfl|i
    .grind
    grind
   |cons a p =>
    simp only[yP,Qy]at e;obtain⟨t,C⟩:=e;subst t;refine⟨m :: x :: p,q,by grind,fun y i=>?_,o⟩;have I:=r m zSp;rcases qw.1 i with rfl|i
    .exact I
    .rcases qw.1 i with rfl|i
     .omega
     grind
theorem qsZ(g l m):y6 g m l∈m :: l:=by
 obtain⟨p,q,e,_,_⟩:=VA g l m;rw[e];simp
theorem qs0(g:Md->Int)(l m x)(i:x∈m :: l):g (y6 g m l)<=g x:=by
 obtain⟨p,q,e,j,o⟩:=VA g l m;rw[e]at i;rcases qJ.1 i with i|i
 .grind
 .rcases qw.1 i with i|i
  .rw [i];omega
  grind
def szT(s:List Rl):Int:=(s.map fun r=>(r.ts.length:Int)).foldr (·+·) 0
def szS(S:List (List Rl)):Int:=(S.map szT).foldr (·+·) 0
theorem qfE{ts sc j}(B:BndV ts sc j){N m}(h:Betw sc (vsT ts) j N m):Shd sc (j.map fun b=>b.up.ar) N m:=by
 refine⟨h.sc,h.ns,fun s g=>?_,fun s g r t=>?_⟩
 .obtain ⟨k,l,rfl⟩:=ux g
  have o:=h.len _ g;refine List.ext_getElem (zP1 o) fun f p i=>?_
  simp only[Qx,zA]at p i⊢;have:=(h.rel k f l i p).1;have:=B.lo f i (by rw[<-B.len];exact i);omega
 .obtain ⟨k,l,rfl⟩:=ux g
  have o:=h.len _ g;obtain⟨f,hf,rfl⟩:=ux t;exact(h.rel k f l zOm hf).2.1
end IE
namespace IK
open GH Y1 P1 Q4 E1 E3 GD G5 GF GQ GR GS GU GV GW GX GY HA IA IB IC YF Y16
structure Cx (ts:TS) (sc:Sc) (b:List Bd) (N:Nat):Prop where
 S:SpD ts
 hk:jq ts=[]
 F:Fit9 ts sc
 z:yR sc=true
 h5:sumI sc.sC<=5
 B:BndV ts sc b
 hS:sc.sN=N
 c9:(chs (vsT ts) (qN b 0) N).length<=9
theorem qfF{ts sc}(F:Fit9 ts sc)(g:sumI sc.sC<=5){f}(hf:f∈ts.sA):(yF sc f.sS).length<=1000/\sorted (yF sc f.sS):=by
 obtain⟨a,b,_⟩:=KA F g _ (List.mem_map_of_mem (f:=fun f:Fld=>(⟨⟨f.sS.length,[]⟩,⟨f.sS.length,yF sc f.sS⟩⟩:Bd)) hf);exact⟨a,b⟩
theorem pj(M):∀ l k,(∀ x,x∈l->x.up.ts.length<=M)->(qN l k).length<=l.length*M
 | [],k,_=>by simp[qN]
 |x :: l,k,h=>by
  have i:=h x zSp;have j:(jh k x).length<=x.up.ts.length:=by rw[jh,zA];exact List.length_filter_le _ _
  have o:=pj M l (k+1) fun y g=>h y (zP1 g)
  simp only[qN,q8,zz,Nat.add_mul,Nat.one_mul];omega
namespace Cx
variable {ts:TS} {sc:Sc} {b:List Bd} {N:Nat}
theorem N1(X:Cx ts sc b N):1<=N:=by have:=X.F.s1;have:=X.hS;omega
theorem N4(X:Cx ts sc b N):N<=4:=by have:=X.F.s4;have:=X.hS;omega
theorem bl(X:Cx ts sc b N):b.length<=6:=by rw[X.B.len];exact X.F.nf
theorem bts(X:Cx ts sc b N):∀ x,x∈b->x.up.ts.length<=1000/\x.lo.ts.length<=1000/\sorted x.up.ts/\sorted x.lo.ts:=fun x g=>by
 obtain⟨i,j,rfl⟩:=ux g;have l:i<ts.sA.length:=by rw[<-X.B.len];exact j
 obtain⟨s1,o⟩:=X.B.so _ g;have h:=qfF X.F X.h5 (qp l);have p:=Ja o (X.B.full i j l);have r:=Ja s1 (X.B.sub _ g);exact⟨zOm,zOm,o,s1⟩
theorem okf(X:Cx ts sc b N):∀ x,x∈b->Zr x:=fun x g=>by
 obtain⟨j,l,o,i⟩:=X.bts x g;exact⟨zOm,zOm,i.imp fun h=>zOm⟩
theorem fl(X:Cx ts sc b N):(qN b 0).length<=100000:=by
 have:=pj 1000 b 0 fun x g=>(X.bts x g).1
 have:=X.bl;omega
end Cx
abbrev LL(ts:TS)(sc:Sc)(b:List Bd)(N:Nat):List Md:=wD sc (vsT ts) b (chs (vsT ts) (qN b 0) N) N
namespace Cx
variable {ts:TS} {sc:Sc} {b:List Bd} {N:Nat}
theorem len(X:Cx ts sc b N):(LL ts sc b N).length<=10000:=by
 rw[qn7];have g:2 ^ (chs (vsT ts) (qN b 0) N).length<=2 ^ 9:=Nat.pow_le_pow_right zOm X.c9;have:=Nat.mul_le_mul X.N4 g;omega
theorem inst(X:Cx ts sc b N):qh qb 33 [eTS ts,eSc sc,lBd b] (.tup [lMd (LL ts sc b N),aI 0]):=by
 have g:2 ^ (chs (vsT ts) (qN b 0) N).length<=2 ^ 9:=Nat.pow_le_pow_right zOm X.c9;have j:=Nat.mul_le_mul X.N4 g;exact qn9 ts sc b N X.hS X.N4 (zW1 X.bl) X.okf (fun x i=>⟨zW1 ((X.bts x i).2.1)⟩) (by rw[X.B.len];omega) X.fl (zW1 X.c9) zOm (qbT ts sc X.F X.z) (qoG ts sc b X.F (k8 X.z) X.B)
theorem mdv(X:Cx ts sc b N){m}(h:m∈LL ts sc b N):MdV ts m:=by
 obtain⟨k,c,g,i,rfl⟩:=Vf.1 h;exact qe2 X.F X.z X.B X.hS g i
theorem sms(X:Cx ts sc b N){m}(h:Betw sc (vsT ts) b N m):SmS m.sK:=by
 have t:=X.N4;have l:=h.ns;have C:=X.bl;refine⟨zOm,fun s g=>by rw[h.len s g];omega,fun s g r o=>?_⟩;obtain⟨k,i,rfl⟩:=ux g;obtain⟨f,hf,rfl⟩:=ux o;have I:=h.len _ (qp i);obtain⟨J,j,P,p⟩:=h.rel k f i zOm hf;have:=Ja j p;have:=(X.bts _ (qp (show f<b.length by omega))).1;exact⟨zOm,j⟩
theorem betw(X:Cx ts sc b N){m}(h:m∈LL ts sc b N):Betw sc (vsT ts) b N m:=ph X.B X.N1 h
theorem holds(X:Cx ts sc b N){m}(h:m∈LL ts sc b N){n}(g:zc n=true):qh qb 10 [eTS ts,eMd m,eNd n] (.tup [aB (hV ⟨ts,m⟩ n).1,aI (hV ⟨ts,m⟩ n).2]):=
 qeW X.S X.hk (qe3 X.S.h (X.mdv h)) (by rw[(X.betw h).ns];exact X.N1) g
end Cx
def MV(ts:TS)(sc:Sc)(b:List Bd)(N:Nat)(n:Nd):List Md×Int:=modV (fun m=>hV ⟨ts,m⟩ n) (LL ts sc b N) 0
namespace Cx
variable {ts:TS} {sc:Sc} {b:List Bd} {N:Nat}
theorem models(X:Cx ts sc b N){n}(g:zc n=true):qh qb 9 [eTS ts,eSc sc,lBd b,eNd n] (.tup [lMd (MV ts sc b N n).1,aI (MV ts sc b N n).2]):=
 qoC ts sc b n (LL ts sc b N) 0 _ (zW1 X.len) X.inst fun m i=>X.holds i g
theorem Zy{n}:(MV ts sc b N n).1.Sublist (LL ts sc b N):=qsT _ _
end Cx
end IK
namespace IL
open Y1 P1 IA IC IK
variable {ts:TS} {sc:Sc} {b:List Bd} {N:Nat}
theorem qfG{n}(h:(MV ts sc b N n).2=0):(∀ m,m∈LL ts sc b N->(hV ⟨ts,m⟩ n).2=0)/\(MV ts sc b N n).1=(LL ts sc b N).filter fun m=>(hV ⟨ts,m⟩ n).1:=qe7 h
end IL
namespace I1
open YF P1 EO EP EQ F4 GF GR GS GU
theorem qs1(l x)(P:l.length<=1000000000):qh qb 99 [lI l,aI x] (aB (decide (x∈l))):=by
 refine qSU call99 func99 rfl ?_;refine qk.up l.length (fun k U=>U.tm 0=lI l/\U.tm 1=aI x/\U.tm 5=aI k/\U.mu=[]/\∀(i:Nat)(h:i<l.length),i<k->l[i]≠x) ?_ ?_
 .simp [go_sem]
 rintro k U R ⟨j,o,p,r,I⟩;by_cases g:k<l.length
 .by_cases t:l[k]=x
  .simp [go_sem,j,o,p,r,g,t]
   rw[decide_eq_true (by grind)];exact .zsc _
  .simp [go_sem,j,o,p,r,g,t]
   refine⟨zWr,fun i h J=>?_⟩;rcases Nat.lt_succ_iff_lt_or_eq.1 J with C|C
   .exact I i h C
   grind
 .simp [go_sem,j,o,p,r,g]
  rw[decide_eq_false (fun h=>by
   grind [uX])]
  exact .zsc _
def wP(k:Nat)(x:Bd)(j:Nat):List (Int×Int):=((x.up.ts.take j).filter fun t=>!decide (t∈x.lo.ts)).map fun t=>((k:Int),t)
theorem qs2(k x j h):wP k x (j+1)=wP k x j++(if x.up.ts[j]∈x.lo.ts then [] else [((k:Int),x.up.ts[j])]):=by
 unfold wP;rw[yc h,List.filter_append,zb];by_cases g:x.up.ts[j]∈x.lo.ts<;>simp[g]
theorem qs3(k x j):(wP k x j).length<=x.up.ts.length:=by
 grind [wP,zA,Nat.le_trans,List.length_filter_le,List.length_take_le']
theorem qs4(l)(hl:l.length<=1000)(hb:∀ x,x∈l->Zr x):qh qb 54 [lBd l] (lP (qN l 0)):=by
 refine qSU call54 func54 rfl ?_;refine aK l.length (fun k U=>U.tm 0=lBd l/\U.tm 4=aI k/\Own U.mu 2 (U.tm 3) ((qN (l.take k) 0).map rP)) ?_ ?_
 .exact ⟨zSi,zSi,.inl (by simp[go_sem,qN])⟩
 rintro k U hk ⟨p,t,C⟩;by_cases o:k<l.length
 .have w1:=zWk k
  have hx:=hb _ (qp o);have a1:=hx.up;have a2:=hx.lo;have a0:=US (l.take k) 0 fun y hy=>hb y (jC hy)
  have a3:(qN (l.take k) 0).length<=1000000000:=by
   grind
  have I:=qbC l k o;have P:wP k l[k] l[k].up.ts.length=jh k l[k]:=by unfold wP;rw[qO];rfl
  simp[go_sem,p,t,o];refine aK l[k].up.ts.length (fun j st2=>st2.tm 0=lBd l/\st2.tm 4=aI k/\st2.tm 5=aI j/\Own st2.mu 2 (st2.tm 3) ((qN (l.take k) 0++wP k l[k] j).map rP)) ?_ ?_
  .simp_all [go_sem,wP]
  clear p t C;rintro j st2 hj ⟨p,t,T,C⟩;by_cases r:j<l[k].up.ts.length
  .have w2:=zWk j
   have hh:=qs1 l[k].lo.ts l[k].up.ts[j] zOm;have hs:=qs2 k l[k] j r;have a4:=qs3 k l[k] j;simp[go_sem,p,t,T,o,r];refine cL zKr ?_;simp[go_sem,p,t,T,o,r];refine tK hh (.zk (zg _) (.zs .nil)) ?_;by_cases hm:l[k].up.ts[j]∈l[k].lo.ts
   .simp_all [go_sem,if_pos,zJ,aA]
   .rw [if_neg hm]at hs
    simp[go_sem,hm,p,t,T,o,r];refine qy.ownB (e:=120) (sz:=2) (bt:=16) (zv := .agg [aI 0,aI 0]) (xs:=(qN (l.take k) 0++wP k l[k] j).map rP) (ys:=[rP ((k:Int),l[k].up.ts[j])]) zSi zSi zSi rfl rfl zOm zOm C (by simp[qD]) (Vd _) (Vd [_]) zSo ?_;simp_all[go_sem,aA,zt,zb]
  .have R:j=l[k].up.ts.length:=by omega
   subst R;rw[P,<-I]at C;simp[go_sem,p,t,T,o,w1]
   try refine⟨o,aA ?_⟩
   try refine aA ?_
   exact⟨zS1 p,zSi,zVs C⟩
 .have R:k=l.length:=by omega
  subst R;rw[qO]at C;simp[go_sem,p,t];exact cP C
def jB(N:Nat):List Ch:=if 1<N then (qt N).map fun k:Nat=>((-1:Int),(0:Int),((k+1:Nat):Int)) else []
theorem qs5(N)(h:N<=4):(jB N).length<=4:=by unfold jB;split<;>simp<;>omega
theorem qs6(ts)(sc:Sc)(bs)(N:Nat)(hS:sc.sN=N)(hN:N<=4)(hl:bs.length<=1000)(hb:∀ x,x∈bs->Zr x)(ak:bs.length<=ts.sA.length)(ab:(qN bs 0).length<=100000) :
  qh qb 28 [eTS ts,eSc sc,lBd bs] (lCh (jB N++chs (vsT ts) (qN bs 0) N)):=by
 have a6:=qs4 bs hl hb;have a8:=KQ bs 0;generalize hF:qN bs 0=F at *
 have ad:True:=trivial;have a9:=qs5 N hN;by_cases h1:1<N
 .refine qSV call28 func28 rfl ?_
  have ag:(1:Int)<N:=zOm;simp[go_sem,hS,h1,ag];refine aK N (fun k U=>U.tm 2=lBd bs/\U.tm 3 = .ip (cTS ts)/\U.tm 4 = .ip [lI sc.sC,aI sc.sN]/\U.tm 8=aI ((k+1:Nat):Int)/\Own U.mu 3 (U.tm 7) (((qt k).map fun k:Nat=>((-1:Int),(0:Int),((k+1:Nat):Int))).map rC)) ?_ ?_
  .exact ⟨zSi,zSi,zS1 hS,zSi,.inl zSi⟩
  rintro k U hk ⟨e2,e3,e4,t,ho⟩;by_cases a4:k<N
  .have w1:qo.wrap ((k:Int)+1+1)=(k:Int)+1+1:=zWr
   have n1:(k:Int)+1<=N:=zOm;have n4:(k:Int)+1<=4:=zOm;simp[go_sem,e4,t,hS,n1,n4];refine qy.ownB (e:=117) (sz:=3) (bt:=24) (zv := .agg [aI 0,aI 0,aI 0]) (xs:=((qt k).map fun k:Nat=>((-1:Int),(0:Int),((k+1:Nat):Int))).map rC) (ys:=[rC ((-1:Int),(0:Int),((k+1:Nat):Int))]) zSi zSi zSi rfl rfl zOm zOm ho (by simp[qD]) (uT _) (uT [_]) zSo ?_;intro R T a7 _ _ _;simp[go_sem,t,w1,n1,n4]
   try refine⟨a4,aA ?_⟩
   try refine aA ?_
   refine⟨zS1 e2,zS1 e3,zS2 e4 hS,zSi,?_⟩;rw[List.range_succ,zb,zb];simpa[go_sem] using a7
  .obtain rfl:N=k:=by omega
   have n1:¬(N:Int)+1<=N:=zOm;have HO:Own U.mu 3 (U.tm 7) ((jB N).map rC):=by unfold jB;rw[if_pos h1];exact ho
   simp[go_sem,e2,e4,t,hS,n1];refine fR a6 (.zk (jn _) .nil) ?_;refine aK N (fun k U=>U.tm 3 = .ip (cTS ts)/\U.tm 4 = .ip [lI sc.sC,aI sc.sN]/\U.tm 9=lP F/\U.tm 10=aI k/\Own U.mu 3 (U.tm 7) ((jB N++chs (vsT ts) F k).map rC)) ?_ ?_
   .exact ⟨zS1 e3,zS2 e4 hS,zSi,zSi,by simpa[go_sem,chs] using HO⟩
   rintro k U hk ⟨e3,e4,t,I,ho⟩;by_cases a4:k<N
   .have w1:=zWk k
    have n4:(k:Int)<4:=zOm;have ah:=UV (vsT ts) F k;have ae:k*F.length<=4*100000:=Nat.mul_le_mul zOm ab;simp[go_sem,e4,t,I,hS,a4,n4,ad];refine aK F.length (fun j st2=>st2.tm 3 = .ip (cTS ts)/\st2.tm 4 = .ip [lI sc.sC,aI sc.sN]/\st2.tm 9=lP F/\st2.tm 10=aI k/\st2.tm 11=aI j/\Own st2.mu 3 (st2.tm 7) ((jB N++chs (vsT ts) F k++chA (vsT ts) k (F.take j)).map rC)) ?_ ?_
    .exact ⟨zS1 e3,zS1 e4,zS1 t,zS1 I,zSi,by simpa[go_sem,chA] using ho⟩
    clear e3 e4 t I ho;rintro j st2 hj ⟨e3,e4,t,I,o,a2⟩;by_cases l:j<F.length
    .have w2:=zWk j
     have hm:=a8 _ (qp l);obtain⟨f,hf⟩:=Int.eq_ofNat_of_zero_le (show 0<=F[j].1 by have:=hm.1;simpa using this);have p:f<ts.sA.length:=by have:=hm.2;rw[hf]at this;simp at this;omega
     have a0:0<=F[j].1:=zOm;have a1:F[j].1.toNat=f:=zOm;have P:F[j].1<ts.sA.length:=zOm;have aa:(vsT ts).getD F[j].1.toNat true=ts.sA[f].var:=by rw[hf,Int.toNat_natCast,zE,zi,qz p];rfl
     have ai:=UU (vsT ts) k (F.take j);have aj:=List.length_take_le j F;have hs:=KP (vsT ts) k F j l;rw[aa]at hs;have a3:∀(K:AV->Mu->Prop),(∀ R T,Own T 3 R ((jB N++chs (vsT ts) F k++(chA (vsT ts) k (F.take j)++[((k:Int),F[j].1,F[j].2)])).map rC)->K R T)->qy qb st2.mu #[81,81] (st2.tm 7) (.lst true [[aI k,aI F[j].1,aI F[j].2]]) K:=fun K hK=>by
      refine qy.ownB (e:=117) (sz:=3) (bt:=24) (zv := .agg [aI 0,aI 0,aI 0]) (xs:=(jB N++chs (vsT ts) F k++chA (vsT ts) k (F.take j)).map rC) (ys:=[rC ((k:Int),F[j].1,F[j].2)]) zSi zSi zSi rfl rfl zOm zOm a2 (by simp[qD]) (uT _) (uT [_]) (by simp only[zA,q8,List.length_singleton];have:=a9;omega) ?_;intro R T a7 _ _ _;exact hK R T (by rw[<-zt,zb (l₂:=[_])];exact a7)
     by_cases hc:(decide (k=0)||ts.sA[f].var)=true
     .rw [if_pos hc]at hs
      by_cases C:k=0
      .subst C
       simp[go_sem,t,I,o,l];refine cL zKr ?_;simp[go_sem,t,I,o,l];refine cL zKr ?_;simp[go_sem,t,I,o,l];refine a3 _ fun R T h1=>?_
       simp[go_sem,o,l,w2]
       try refine⟨l,aA ?_⟩
       try refine aA ?_
       refine⟨zS1 e3,zS1 e4,zS1 t,zS1 I,zSi,?_⟩;rw[hs];simpa[go_sem] using h1
      .have hv:ts.sA[f].var=true:=by simpa[C] using hc
       simp[go_sem,e3,t,I,o,l,C,a0,a1,P,p,hv];refine cL zKr ?_;simp[go_sem,e3,t,I,o,l,C,a0,a1,P,p,hv];refine cL zKr ?_;simp[go_sem,e3,t,I,o,l,C,a0,a1,P,p,hv];refine a3 _ fun R T h1=>?_
       simp[go_sem,o,l,w2]
       try refine⟨l,aA ?_⟩
       try refine aA ?_
       refine⟨zS1 e3,zS1 e4,zS1 t,zS1 I,zSi,?_⟩;rw[hs];simpa[go_sem] using h1
     .rw [if_neg hc,zJ]at hs
      have C:¬k=0:=fun h=>hc (zP1 h)
      have hv:ts.sA[f].var=false:=by simpa[C] using hc
      simp[go_sem,e3,t,I,o,l,C,a0,a1,P,p,hv,w2];refine cL zKr ?_;simp[go_sem,e3,t,I,o,l,C,a0,a1,P,p,hv,w2]
      try refine⟨l,aA ?_⟩
      try refine aA ?_
      refine⟨zS1 e3,zS1 e4,zS1 t,zS1 I,zSi,?_⟩;rw[hs];simpa[go_sem] using a2
    .have a5:j=F.length:=by omega
     subst a5;rw[qO]at a2;simp[go_sem,t,I,o,w1]
     try refine⟨a4,aA ?_⟩
     try refine aA ?_
     refine⟨zS1 e3,zS1 e4,zS1 t,zSi,?_⟩;rw[UT,<-zt];simpa[go_sem] using a2
   .have a5:k=N:=by omega
    subst a5;simp[go_sem,e4,I,hS];exact Own.rd ho (uT _).ok fun r hr c hc=>by
     obtain⟨n,_,rfl⟩:=qm.1 hr;simp at hc;rcases hc with rfl|rfl|rfl<;>exact HF.sc _
 .refine qSV call28 func28 rfl ?_
  have n1:¬(1:Int)<N:=zOm;simp[go_sem,hS,h1,n1];have HO:Own [] 3 (.lst true []) ((jB N).map rC):=by unfold jB;rw[if_neg h1];exact .inl zSp
  refine fR a6 (.zk (jn _) .nil) ?_;refine aK N (fun k U=>U.tm 3 = .ip (cTS ts)/\U.tm 4 = .ip [lI sc.sC,aI sc.sN]/\U.tm 9=lP F/\U.tm 10=aI k/\Own U.mu 3 (U.tm 7) ((jB N++chs (vsT ts) F k).map rC)) ?_ ?_
  .exact ⟨zSi,zS1 hS,zSi,zSi,by simpa[go_sem,chs] using HO⟩
  rintro k U hk ⟨e3,e4,t,I,ho⟩;by_cases a4:k<N
  .have w1:=zWk k
   have n4:(k:Int)<4:=zOm;have ah:=UV (vsT ts) F k;have ae:k*F.length<=4*100000:=Nat.mul_le_mul zOm ab;simp[go_sem,e4,t,I,hS,a4,n4,ad];refine aK F.length (fun j st2=>st2.tm 3 = .ip (cTS ts)/\st2.tm 4 = .ip [lI sc.sC,aI sc.sN]/\st2.tm 9=lP F/\st2.tm 10=aI k/\st2.tm 11=aI j/\Own st2.mu 3 (st2.tm 7) ((jB N++chs (vsT ts) F k++chA (vsT ts) k (F.take j)).map rC)) ?_ ?_
   .exact ⟨zS1 e3,zS1 e4,zS1 t,zS1 I,zSi,by simpa[go_sem,chA] using ho⟩
   clear e3 e4 t I ho;rintro j st2 hj ⟨e3,e4,t,I,o,a2⟩;by_cases l:j<F.length
   .have w2:=zWk j
    have hm:=a8 _ (qp l);obtain⟨f,hf⟩:=Int.eq_ofNat_of_zero_le (show 0<=F[j].1 by have:=hm.1;simpa using this);have p:f<ts.sA.length:=by have:=hm.2;rw[hf]at this;simp at this;omega
    have a0:0<=F[j].1:=zOm;have a1:F[j].1.toNat=f:=zOm;have P:F[j].1<ts.sA.length:=zOm;have aa:(vsT ts).getD F[j].1.toNat true=ts.sA[f].var:=by rw[hf,Int.toNat_natCast,zE,zi,qz p];rfl
    have ai:=UU (vsT ts) k (F.take j);have aj:=List.length_take_le j F;have hs:=KP (vsT ts) k F j l;rw[aa]at hs;have a3:∀(K:AV->Mu->Prop),(∀ R T,Own T 3 R ((jB N++chs (vsT ts) F k++(chA (vsT ts) k (F.take j)++[((k:Int),F[j].1,F[j].2)])).map rC)->K R T)->qy qb st2.mu #[81,81] (st2.tm 7) (.lst true [[aI k,aI F[j].1,aI F[j].2]]) K:=fun K hK=>by
     refine qy.ownB (e:=117) (sz:=3) (bt:=24) (zv := .agg [aI 0,aI 0,aI 0]) (xs:=(jB N++chs (vsT ts) F k++chA (vsT ts) k (F.take j)).map rC) (ys:=[rC ((k:Int),F[j].1,F[j].2)]) zSi zSi zSi rfl rfl zOm zOm a2 (by simp[qD]) (uT _) (uT [_]) (by simp only[zA,q8,List.length_singleton];have:=a9;omega) ?_;intro R T a7 _ _ _;exact hK R T (by rw[<-zt,zb (l₂:=[_])];exact a7)
    by_cases hc:(decide (k=0)||ts.sA[f].var)=true
    .rw [if_pos hc]at hs
     by_cases C:k=0
     .subst C
      simp[go_sem,t,I,o,l];refine cL zKr ?_;simp[go_sem,t,I,o,l];refine cL zKr ?_;simp[go_sem,t,I,o,l];refine a3 _ fun R T h1=>?_
      simp[go_sem,o,l,w2]
      try refine⟨l,aA ?_⟩
      try refine aA ?_
      refine⟨zS1 e3,zS1 e4,zS1 t,zS1 I,zSi,?_⟩;rw[hs];simpa[go_sem] using h1
     .have hv:ts.sA[f].var=true:=by simpa[C] using hc
      simp[go_sem,e3,t,I,o,l,C,a0,a1,P,p,hv];refine cL zKr ?_;simp[go_sem,e3,t,I,o,l,C,a0,a1,P,p,hv];refine cL zKr ?_;simp[go_sem,e3,t,I,o,l,C,a0,a1,P,p,hv];refine a3 _ fun R T h1=>?_
      simp[go_sem,o,l,w2]
      try refine⟨l,aA ?_⟩
      try refine aA ?_
      refine⟨zS1 e3,zS1 e4,zS1 t,zS1 I,zSi,?_⟩;rw[hs];simpa[go_sem] using h1
    .rw [if_neg hc,zJ]at hs
     have C:¬k=0:=fun h=>hc (zP1 h)
     have hv:ts.sA[f].var=false:=by simpa[C] using hc
     simp[go_sem,e3,t,I,o,l,C,a0,a1,P,p,hv,w2];refine cL zKr ?_;simp[go_sem,e3,t,I,o,l,C,a0,a1,P,p,hv,w2]
     try refine⟨l,aA ?_⟩
     try refine aA ?_
     refine⟨zS1 e3,zS1 e4,zS1 t,zS1 I,zSi,?_⟩;rw[hs];simpa[go_sem] using a2
   .have a5:j=F.length:=by omega
    subst a5;rw[qO]at a2;simp[go_sem,t,I,o,w1]
    try refine⟨a4,aA ?_⟩
    try refine aA ?_
    refine⟨zS1 e3,zS1 e4,zS1 t,zSi,?_⟩;rw[UT,<-zt];simpa[go_sem] using a2
  .have a5:k=N:=by omega
   subst a5;simp[go_sem,e4,I,hS];exact Own.rd ho (uT _).ok fun r hr c hc=>by
    obtain⟨n,_,rfl⟩:=qm.1 hr;simp at hc;rcases hc with rfl|rfl|rfl<;>exact HF.sc _
end I1
namespace W41
open Y1 YF P1 E3 GD GN GS
abbrev u8(x:Int):AV := .sc (.int .u8 x)
abbrev lRaw(r:List (List Int)):AV := .lst false (r.map fun l=>[.lst false (l.map fun x=>[u8 x])])
abbrev uu(ts:TS)(sc:Sc)(raw:List (List Int))(n:Nd)(g:List (List Bool))(lp:Int):List AV:=cTS ts++([lI sc.sC,aI sc.sN,lRaw raw]++(cNd n++[lBB g,u8 lp]))
theorem qfH{m}(h:SmS m.sK)(j:m.sc.sC.length<=1000):smMd m:=
 ⟨zOm,zW1 h.n,fun s g=>zW1 (h.f s g),fun s g r i=>zW1 ((h.t s g r i).1)⟩
end W41
namespace I2
open YF P1 EO EP EQ F4 GF G5 GR GS GW HE W41
theorem qs7(ts sc)(F:Fit9 ts sc):qC qb 18 [eTS ts,eSc sc] [] (fun e m=>∃ av,e = .ret av/\Own m 4 av (ts.sA.map (rowD sc))/\(0<ts.sA.length->∃ b,qn av=some b)):=by
 have a1:=F.nf;refine qSW call18 func18 rfl {} ?_;simp[go_sem];refine aK ts.sA.length (fun k U=>U.tm 2 = .ip (cTS ts)/\U.tm 3 = .ip [lI sc.sC,aI sc.sN]/\U.tm 6=aI k/\Own U.mu 4 (U.tm 5) ((ts.sA.take k).map (rowD sc))/\(0<k->∃ b,qn (U.tm 5)=some b)) ?_ ?_
 .exact ⟨zSi,zSi,zSi,.inl zSi,fun h=>absurd h zOm⟩
 rintro k U hk ⟨t,e3,C,I,P⟩;by_cases l:k<ts.sA.length
 .have w1:=zWk k
  have o:=qp l;have r:=mR sc F.g F.p ts.sA[k].sS (F.f1 _ o).1 (F.f1 _ o).2 (F.fs _ o);simp[go_sem,t,C,l];refine cL zKr ?_;simp[go_sem,t,e3,C,l];refine fR r (.zk (zr _) (.zk (zg _) .nil)) ?_;refine .inl (jZ.ownB (e:=98) (sz:=4) (bt:=64) (zv := .agg [aI 0,.lst true [],aI 0,.lst true []]) (xs:=(ts.sA.take k).map (rowD sc)) (ys:=[rowD sc ts.sA[k]]) zSi zSi zSi rfl rfl zOm zOm I (by simp[qD,rowD]) (Va sc _) (Va sc [_]) zSo ?_);intro a2 j R _ _ _ T;simp[go_sem,C,l,w1];refine aA ⟨zS1 t,zS1 e3,zSi,?_,fun _=>by simp[go_sem];exact T zSp⟩;rw[yc l,zb];simpa[go_sem] using R
 .have a0:k=ts.sA.length:=by omega
  subst a0;rw[qO]at I;simp[go_sem,t,C];exact⟨I,P⟩
def jY(ts:TS)(sc:Sc)(raw:List (List Int))(k:Nat):List (List AV):=((zZ ts sc raw).take k).map cBd++(ts.sA.drop k).map (rowD sc)
theorem qs8(ts sc raw k)(h:k<=ts.sA.length):(jY ts sc raw k).length=ts.sA.length:=by
 simp[jY,Qw];omega
theorem qs9(ts sc raw k):yJ 4 (jY ts sc raw k):=fun r g=>by
 rcases qJ.1 g with h|h
 .obtain ⟨x,_,rfl⟩:=qm.1 h;rfl
 .obtain ⟨x,_,rfl⟩:=qm.1 h;rfl
theorem qtA(ts sc raw k h):(jY ts sc raw k)[k]?=some (rowD sc ts.sA[k]):=by
 have g:(((zZ ts sc raw).take k).map cBd).length=k:=by simp[Qw];omega
 simp_all[jY,zG,Nat.sub_self,zi,List.getElem?_drop,Nat.add_zero,qz]
theorem qtB(ts sc raw k h):(jY ts sc raw k).set k (cBd ((zZ ts sc raw)[k]'(by rw[Qw];exact h)))=jY ts sc raw (k+1):=by
 have g:(((zZ ts sc raw).take k).map cBd).length=k:=by simp[Qw];omega
 have i:k<(zZ ts sc raw).length:=by rw[Qw];exact h
 unfold jY;rw[List.set_append_right _ _ zOm,g,Nat.sub_self,zp h,zS,List.set_cons_zero,yc i,zb,zt];rfl
theorem cJ{Q i d d' L x x' st}(o:d≠d')(l:Rd (cutM (fun j=>decide (L<=j)) st.mu 0) (st.tm d) x)(g:Rd (cutM (fun j=>decide (L<=j)) st.mu 0) (st.tm d') x')
  (k:Q (.exit i) ((st.put (some d) x st.mu).put (some d') x' (cutM (fun j=>!decide (L<=j)) st.mu 0))):FzQ Q (.exit i) st:=by
 refine⟨_,⟨fun j=>decide (L<=j),rfl,fun j=>?_⟩,trivial,k⟩;simp only[St.put];split
 .rename_i h;subst h;exact .rd _ _ g
 .split
  .rename_i h;subst h;exact .rd _ _ l
  .exact .same _
theorem pm{sz}:∀{xs},yJ sz xs->∀ i h j,j<sz->xs.flatten[i*sz+j]?=xs[i][j]?
 | [],_,i,h,j,l=>absurd h (Nat.not_lt_zero i)
 |r :: xs,w,i,h,j,l=>by
  have g:r.length=sz:=w r zSp;rw[List.flatten_cons];cases i with
  |zero=>grind
  |succ i =>
   rw[zG (by grind),g,show (i+1)*sz+j-sz=i*sz+j by rw[Nat.succ_mul];omega];exact pm (fun r g=>w r (zP1 g)) i (zUs h) j l
theorem Own.same{sz mu mu' av xs}(h:Own mu sz av xs)(g:∀ b,qn av=some b->mu'[b]?=mu[b]?):Own mu' sz av xs:=by
 rcases h with rfl|⟨b,rfl,i⟩
 .exact .inl rfl
 .exact .inr ⟨b,rfl,by rw[g b rfl];exact i⟩
theorem qtC(ts sc)(F:Fit9 ts sc)(raw)(hr:∀ l,l∈raw->∀ x,x∈l->0<=x/\x<=255):qh qb 27 [eTS ts,eSc sc,lRaw raw] (lBd (zZ ts sc raw)):=by
 have cg:=F.nf;have b3:=qs7 ts sc F;have an:=Qw ts sc raw;refine qSU call27 func27 rfl ?_;refine fQ b3 ?_ (by grind);rintro r m ⟨t,h,ch,bc⟩;cases h;simp[go_sem];refine aK ts.sA.length (fun k st=>st.tm 2=lRaw raw/\st.tm 7=r/\st.tm 8=aI k/\Own st.mu 4 r (jY ts sc raw k)) ?_ ?_
 .simp_all [go_sem,jY]
 rintro k st hk ⟨e2,e7,e8,ho⟩;have b4:=qs8 ts sc raw k hk;have ag:=qs9 ts sc raw k;by_cases a9:k<ts.sA.length
 .have w1:=zWk k
  have ao:=qtA ts sc raw k a9;obtain⟨BK,cj,be⟩:∃ BK,(zZ ts sc raw)[k]?=some BK/\BK=Ws (raw.getD k []) ⟨⟨ts.sA[k].sS.length,[]⟩,⟨ts.sA[k].sS.length,yF sc ts.sA[k].sS⟩⟩:=⟨_,qz zOm,Wt ts sc raw k zOm a9⟩;have ai:(jY ts sc raw k).set k (cBd BK)=jY ts sc raw (k+1):=by
   grind [qtB,qj]
  have ck:=qbW sc F.g ts.sA[k].sS (F.f1 _ (qp a9)).2;generalize hW:jY ts sc raw k=W at ho b4 ag ao ai;obtain⟨B,hB⟩:=bc zOm;rcases ho with h|⟨B',h,hc⟩
  .rw [h]at hB;cases hB
  .rw [h]at hB;cases hB
   have bg:W.flatten.length=W.length*4:=by rw[yI ag]
   have bi:=(qj.1 hc).1;have cl:W.flatten[k*4+2]?=some (aI ts.sA[k].sS.length):=by
    have:=pm ag k zOm 2 zOm;rw[this,(qj.1 ao).2];rfl
   have cm:W.flatten[k*4+3]?=some (lI (yF sc ts.sA[k].sS)):=by
    have:=pm ag k zOm 3 zOm;rw[this,(qj.1 ao).2];rfl
   have b5:=fun x:List AV=>Js W k x ag
   have cn:=bg;generalize cp:(ts.sA[k].sS.length:Int)=o at *
   generalize cq:yF sc ts.sA[k].sS=U at *
   generalize bj:raw.getD k []=rw at *
   generalize cr:W.flatten=FL at *
   have bk:(FL.drop (k*4+2)).take 2=[aI o,lI U]:=by
    grind [qj,zp]
   simp[go_sem,e7,e8,h,b4,a9,hc];refine tT (.agg [aI o,lI U]) (by rw[if_pos zOm,bk]) ?_;simp[go_sem];generalize hR:st.mu.length=R at *
   refine fB U.length (fun j=>Keep (fun st2=>st2.tm 2=lRaw raw/\st2.tm 7=r/\st2.tm 8=aI k/\st2.tm 9 = .ptr R 0/\st2.tm 10 = .ptr (R+1) 0/\st2.tm 11 = .ptr (R+2) 0/\st2.tm 12=aI j/\∃ p a0,st2.mu[R]?=some (.arr [aI o,lI U])/\st2.mu[R+1]?=some (.arr [aI o,p])/\st2.mu[R+2]?=some (.arr [aI o,a0]) /\
    Own st2.mu 1 p ((selW (fun x=>decide (1<x)) rw (U.take j) 0).map rI)/\Own st2.mu 1 a0 ((selW (fun x=>decide (0<x)) rw (U.take j) 0).map rI)/\(∀ b,qn p=some b->R+3<=b)/\(∀ b,qn a0=some b->R+3<=b)/\(∀ b,qn p=some b->qn a0≠some b)/\∀ i,i<R->st2.mu[i]?=st.mu[i]?) .mk) ?_ ?_
   .exact aA ⟨zS1 e2,zS1 e7,zS1 e8,zSi,zSi,zSi,zSi,.lst true [],.lst true [],zS1 hR,zS1 hR,zS1 hR,.inl (by simp[selW]),.inl (by simp[selW]),by simp[qn],by simp[qn],by simp[qn],fun i hi=>by simp_all[go_sem,List.getElem?_append_left]⟩
   rintro j st2 hj ⟨f2,f7,f8,f9,f10,f11,f12,p,a0,c9,c10,c11,ol,oh,bl,bh,nb,low⟩;by_cases I:j<U.length
   .skip
    have w2:=zWk j;have aq:=qfA (fun x=>decide (1<x)) rw U j I;have au:=qfA (fun x=>decide (0<x)) rw U j I;by_cases aa:k<raw.length
    .have bm:rw=raw[k]:=by grind
     by_cases ab:j<raw[k].length
     .have cs:=hr _ (qp aa) _ (qp ab)
      have hx:(raw[k][j]).tmod 4=wtR rw j:=by
       simp_all[Int.tmod_eq_emod_of_nonneg,wtR,if_pos,zE,qz]
      have ct:0<=wtR rw j/\wtR rw j<4:=by grind
      generalize hw:wtR rw j=w at *
      rcases (show w=0\/w=1\/1<w by omega) with bn|a5|aw
      .rw [bn]at hx
       have sl:selW (fun x=>decide (1<x)) rw (U.take (j+1)) 0=selW (fun x=>decide (1<x)) rw (U.take j) 0:=by grind
       have sh:selW (fun x=>decide (0<x)) rw (U.take (j+1)) 0=selW (fun x=>decide (0<x)) rw (U.take j) 0:=by grind
       simp[go_sem,f2,f8,f9,f12,c9,I,w2,aa,ab,hx];simp_all[go_sem,aA]
      .rw [a5]at hx
       have sl:selW (fun x=>decide (1<x)) rw (U.take (j+1)) 0=selW (fun x=>decide (1<x)) rw (U.take j) 0:=by grind
       have sh:selW (fun x=>decide (0<x)) rw (U.take (j+1)) 0=selW (fun x=>decide (0<x)) rw (U.take j) 0++[U[j]]:=by grind
       simp[go_sem,f2,f8,f9,f12,c9,I,aa,ab,hx];refine cL zKr ?_;simp[go_sem,f9,f11,f12,c9,c11,I];refine qy.ownB (e:=3) (sz:=1) (bt:=8) (zv:=aI 0) (xs:=(selW (fun x=>decide (0<x)) rw (U.take j) 0).map rI) (ys:=[rI U[j]]) zSi zSi zSi rfl rfl zOm zOm oh (by simp[qD]) (yq _) (yq [_]) (by grind [wO,decide,List.length_take_le]) ?_;intro P mh T C a1 ax;have d9:mh[R]?=some (.arr [aI o,lI U]):=by grind
       have d10:mh[R+1]?=some (.arr [aI o,p]):=by grind
       have d11:mh[R+2]?=some (.arr [aI o,a0]):=by grind
       have ad:=(qj.1 d11).1;have aj:=(qj.1 c11).1;have a6:Own mh 1 p ((selW (fun x=>decide (1<x)) rw (U.take j) 0).map rI):=Own.same ol fun b hb=>C b (Own.lt ol hb) (nb b hb)
       have ae:=Own.set a6 (i:=R+2) (.arr [aI o,P]) (fun h=>by grind);have a4:=Own.set T (i:=R+2) (.arr [aI o,P]) (fun h=>by grind);have a7:∀ b,qn P=some b->R+3<=b:=fun b h=>by grind
       have af:∀ b,qn p=some b->qn P≠some b:=fun b h h2=>by grind [Own.lt]
       have a2:∀ i,i<R->(mh.set (R+2) (.arr [aI o,P]))[i]?=st.mu[i]?:=fun i hi=>by
        rw[zGl,C i zOm (fun h=>zW1 (bh i h))];exact low i hi
       simp[go_sem,f11,f12,d11,I,w2,Own.one T,Own.cells T];simp_all[go_sem,aA,zb]
      .skip
       have ay:0<w:=zOm;have sl:selW (fun x=>decide (1<x)) rw (U.take (j+1)) 0=selW (fun x=>decide (1<x)) rw (U.take j) 0++[U[j]]:=by simpa[aw] using aq
       have sh:selW (fun x=>decide (0<x)) rw (U.take (j+1)) 0=selW (fun x=>decide (0<x)) rw (U.take j) 0++[U[j]]:=by simpa[ay] using au
       simp[go_sem,f2,f8,f9,f12,c9,I,ay,aw,aa,ab,hx];refine cL zKr ?_;simp[go_sem,f9,f11,f12,c9,c11,I];refine qy.ownB (e:=3) (sz:=1) (bt:=8) (zv:=aI 0) (xs:=(selW (fun x=>decide (0<x)) rw (U.take j) 0).map rI) (ys:=[rI U[j]]) zSi zSi zSi rfl rfl zOm zOm oh (by simp[qD]) (yq _) (yq [_]) (by have:=(wO (fun x=>decide (0<x)) rw (U.take j) 0).length_le;have:=List.length_take_le j U;simp;omega) ?_;intro P mh T C a1 ax;have d9:mh[R]?=some (.arr [aI o,lI U]):=by rw[C R (qj.1 c9).1 (fun h=>zW1 (bh R h))];exact c9
       have d10:mh[R+1]?=some (.arr [aI o,p]):=by rw[C (R+1) (qj.1 c10).1 (fun h=>zW1 (bh _ h))];exact c10
       have d11:mh[R+2]?=some (.arr [aI o,a0]):=by rw[C (R+2) (qj.1 c11).1 (fun h=>zW1 (bh _ h))];exact c11
       have ad:=(qj.1 d11).1;have aj:=(qj.1 c11).1;have a6:Own mh 1 p ((selW (fun x=>decide (1<x)) rw (U.take j) 0).map rI):=Own.same ol fun b hb=>C b (Own.lt ol hb) (nb b hb)
       have ae:=Own.set a6 (i:=R+2) (.arr [aI o,P]) (fun h=>zW1 (bl _ h));have a4:=Own.set T (i:=R+2) (.arr [aI o,P]) (fun h=>zW1 (a1 _ h));have a7:∀ b,qn P=some b->R+3<=b:=fun b h=>zW1 (a1 b h)
       have af:∀ b,qn p=some b->qn P≠some b:=fun b h h2=>zW2 (a1 b h2) (Own.lt ol h)
       have a2:∀ i,i<R->(mh.set (R+2) (.arr [aI o,P]))[i]?=st.mu[i]?:=fun i hi=>by
        rw[zGl,C i zOm (fun h=>zW1 (bh i h))];exact low i hi
       simp[go_sem,f11,d11,ay,aw,Own.one T,Own.cells T];refine cL zKr ?_;have e9:(mh.set (R+2) (.arr [aI o,P]))[R]?=some (.arr [aI o,lI U]):=by rw[zGl];exact d9
       have az:(mh.set (R+2) (.arr [aI o,P]))[R+1]?=some (.arr [aI o,p]):=by rw[zGl];exact d10
       have b0:(mh.set (R+2) (.arr [aI o,P]))[R+2]?=some (.arr [aI o,P]):=qL ad;generalize cu:mh.set (R+2) (.arr [aI o,P])=M2 at *
       simp[go_sem,f9,f10,f12,e9,az,I];refine qy.ownB (e:=3) (sz:=1) (bt:=8) (zv:=aI 0) (xs:=(selW (fun x=>decide (1<x)) rw (U.take j) 0).map rI) (ys:=[rI U[j]]) zSi zSi zSi rfl rfl zOm zOm ae (by simp[qD]) (yq _) (yq [_]) (by have:=(wO (fun x=>decide (1<x)) rw (U.take j) 0).length_le;have:=List.length_take_le j U;simp;omega) ?_;intro al ml b1 ak b2 cv;have g9:ml[R]?=some (.arr [aI o,lI U]):=by rw[ak R (qj.1 e9).1 (fun h=>zW1 (bl R h))];exact e9
       have b6:ml[R+1]?=some (.arr [aI o,p]):=by rw[ak (R+1) (qj.1 az).1 (fun h=>zW1 (bl _ h))];exact az
       have bo:ml[R+2]?=some (.arr [aI o,P]):=by rw[ak (R+2) (qj.1 b0).1 (fun h=>zW1 (bl _ h))];exact b0
       have l10:=(qj.1 b6).1;have cf:=(qj.1 b0).1;have bq:Own ml 1 P ((selW (fun x=>decide (0<x)) rw (U.take j) 0++[U[j]]).map rI):=by
        rw[zb];exact Own.same a4 fun b hb=>ak b (Own.lt a4 hb) (fun h=>af b h hb)
       have br:=Own.set b1 (i:=R+1) (.arr [aI o,al]) (fun h=>zW1 (b2 _ h));have bs:=Own.set bq (i:=R+1) (.arr [aI o,al]) (fun h=>zW1 (a7 _ h));simp[go_sem,f10,f12,b6,I,w2,Own.one b1,Own.cells b1]
       try refine⟨I,aA ?_⟩
       try refine aA ?_
       refine⟨zS1 f2,zS1 f7,zS1 f8,zS1 f9,zS1 f10,zS1 f11,zSi,al,P,by simp[go_sem];exact g9,zS1 l10,by simp[go_sem];exact bo,by rw[sl,zb];simpa[go_sem] using br,by rw[sh];simpa[go_sem] using bs,fun b h=>zW1 (b2 b h),a7,fun b h h2=>zW2 (b2 b h) (Own.lt a4 h2),fun i hi=>?_⟩;simp[go_sem];rw[zGl,ak i zOm (fun h=>zW1 (bl i h))];exact a2 i hi
     .have a5:wtR rw j=1:=by rw[wtR,bm,if_neg ab]
      have sl:selW (fun x=>decide (1<x)) rw (U.take (j+1)) 0=selW (fun x=>decide (1<x)) rw (U.take j) 0:=by simpa[a5] using aq
      have sh:selW (fun x=>decide (0<x)) rw (U.take (j+1)) 0=selW (fun x=>decide (0<x)) rw (U.take j) 0++[U[j]]:=by simpa[a5] using au
      simp[go_sem,f2,f8,f9,f12,c9,I,aa,ab];refine cL zKr ?_;simp[go_sem,f9,f11,f12,c9,c11,I];refine qy.ownB (e:=3) (sz:=1) (bt:=8) (zv:=aI 0) (xs:=(selW (fun x=>decide (0<x)) rw (U.take j) 0).map rI) (ys:=[rI U[j]]) zSi zSi zSi rfl rfl zOm zOm oh (by simp[qD]) (yq _) (yq [_]) (by have:=(wO (fun x=>decide (0<x)) rw (U.take j) 0).length_le;have:=List.length_take_le j U;simp;omega) ?_;intro P mh T C a1 ax;have d9:mh[R]?=some (.arr [aI o,lI U]):=by rw[C R (qj.1 c9).1 (fun h=>zW1 (bh R h))];exact c9
      have d10:mh[R+1]?=some (.arr [aI o,p]):=by rw[C (R+1) (qj.1 c10).1 (fun h=>zW1 (bh _ h))];exact c10
      have d11:mh[R+2]?=some (.arr [aI o,a0]):=by rw[C (R+2) (qj.1 c11).1 (fun h=>zW1 (bh _ h))];exact c11
      have ad:=(qj.1 d11).1;have aj:=(qj.1 c11).1;have a6:Own mh 1 p ((selW (fun x=>decide (1<x)) rw (U.take j) 0).map rI):=Own.same ol fun b hb=>C b (Own.lt ol hb) (nb b hb)
      have ae:=Own.set a6 (i:=R+2) (.arr [aI o,P]) (fun h=>zW1 (bl _ h));have a4:=Own.set T (i:=R+2) (.arr [aI o,P]) (fun h=>zW1 (a1 _ h));have a7:∀ b,qn P=some b->R+3<=b:=fun b h=>zW1 (a1 b h)
      have af:∀ b,qn p=some b->qn P≠some b:=fun b h h2=>zW2 (a1 b h2) (Own.lt ol h)
      have a2:∀ i,i<R->(mh.set (R+2) (.arr [aI o,P]))[i]?=st.mu[i]?:=fun i hi=>by
       rw[zGl,C i zOm (fun h=>zW1 (bh i h))];exact low i hi
      simp[go_sem,f11,f12,d11,I,w2,Own.one T,Own.cells T]
      try refine⟨I,aA ?_⟩
      try refine aA ?_
      refine⟨zS1 f2,zS1 f7,zS1 f8,zS1 f9,zS1 f10,zS1 f11,zSi,p,P,by simp[go_sem];exact d9,by simp[go_sem];exact d10,zS1 ad,by rw[sl];simpa[go_sem] using ae,by rw[sh,zb];simpa[go_sem] using a4,bl,a7,af,by simpa[go_sem] using a2⟩
    .have a5:wtR rw j=1:=by
      have:rw=[]:=by rw[<-bj,zE,List.getElem?_eq_none zOm];rfl
      rw[wtR,this];rfl
     have sl:selW (fun x=>decide (1<x)) rw (U.take (j+1)) 0=selW (fun x=>decide (1<x)) rw (U.take j) 0:=by simpa[a5] using aq
     have sh:selW (fun x=>decide (0<x)) rw (U.take (j+1)) 0=selW (fun x=>decide (0<x)) rw (U.take j) 0++[U[j]]:=by simpa[a5] using au
     simp[go_sem,f2,f8,f9,f12,c9,I,aa];refine cL zKr ?_;simp[go_sem,f9,f11,f12,c9,c11,I];refine qy.ownB (e:=3) (sz:=1) (bt:=8) (zv:=aI 0) (xs:=(selW (fun x=>decide (0<x)) rw (U.take j) 0).map rI) (ys:=[rI U[j]]) zSi zSi zSi rfl rfl zOm zOm oh (by simp[qD]) (yq _) (yq [_]) (by have:=(wO (fun x=>decide (0<x)) rw (U.take j) 0).length_le;have:=List.length_take_le j U;simp;omega) ?_;intro P mh T C a1 ax;have d9:mh[R]?=some (.arr [aI o,lI U]):=by rw[C R (qj.1 c9).1 (fun h=>zW1 (bh R h))];exact c9
     have d10:mh[R+1]?=some (.arr [aI o,p]):=by rw[C (R+1) (qj.1 c10).1 (fun h=>zW1 (bh _ h))];exact c10
     have d11:mh[R+2]?=some (.arr [aI o,a0]):=by rw[C (R+2) (qj.1 c11).1 (fun h=>zW1 (bh _ h))];exact c11
     have ad:=(qj.1 d11).1;have aj:=(qj.1 c11).1;have a6:Own mh 1 p ((selW (fun x=>decide (1<x)) rw (U.take j) 0).map rI):=Own.same ol fun b hb=>C b (Own.lt ol hb) (nb b hb)
     have ae:=Own.set a6 (i:=R+2) (.arr [aI o,P]) (fun h=>zW1 (bl _ h));have a4:=Own.set T (i:=R+2) (.arr [aI o,P]) (fun h=>zW1 (a1 _ h));have a7:∀ b,qn P=some b->R+3<=b:=fun b h=>zW1 (a1 b h)
     have af:∀ b,qn p=some b->qn P≠some b:=fun b h h2=>zW2 (a1 b h2) (Own.lt ol h)
     have a2:∀ i,i<R->(mh.set (R+2) (.arr [aI o,P]))[i]?=st.mu[i]?:=fun i hi=>by
      rw[zGl,C i zOm (fun h=>zW1 (bh i h))];exact low i hi
     simp[go_sem,f11,f12,d11,I,w2,Own.one T,Own.cells T]
     try refine⟨I,aA ?_⟩
     try refine aA ?_
     refine⟨zS1 f2,zS1 f7,zS1 f8,zS1 f9,zS1 f10,zS1 f11,zSi,p,P,by simp[go_sem];exact d9,by simp[go_sem];exact d10,zS1 ad,by rw[sl];simpa[go_sem] using ae,by rw[sh,zb];simpa[go_sem] using a4,bl,a7,af,by simpa[go_sem] using a2⟩
   .skip
    obtain rfl:U.length=j:=zOm;rw[qO]at ol oh;have cw:R+2<st2.mu.length:=(qj.1 c11).1;have bu:(cutM (fun j=>decide (R<=j)) st2.mu 0)[R+1]?=some (.arr [aI o,p]):=by rw[jF,c10];simp
    have bv:(cutM (fun j=>decide (R<=j)) st2.mu 0)[R+2]?=some (.arr [aI o,a0]):=by rw[jF,c11];simp
    have b7:∀ l:List Int,∀ r,r∈l.map rI->∀ c,c∈r->HF c:=fun l r hr c hc=>by
     obtain⟨x,_,rfl⟩:=qm.1 hr;simp at hc;subst hc;exact HF.sc _
    have bw:Rd (cutM (fun j=>decide (R<=j)) st2.mu 0) p (lI (selW (fun x=>decide (1<x)) rw U 0)):=Own.rd (YR ol fun b hb=>zW1 (bl b hb)) (yq _).ok (b7 _);have ca:Rd (cutM (fun j=>decide (R<=j)) st2.mu 0) a0 (lI (selW (fun x=>decide (0<x)) rw U 0)):=Own.rd (YR oh fun b hb=>zW1 (bh b hb)) (yq _).ok (b7 _);simp[go_sem,f9,f12,c9];refine cJ (d:=10) (d':=11) (L:=R) (x := .ip [aI o,lI (selW (fun x=>decide (1<x)) rw U 0)]) (x' := .ip [aI o,lI (selW (fun x=>decide (0<x)) rw U 0)]) zDe ?_ ?_ ?_
    .simp [go_sem,f10]
     refine .ptr (R+1) 0 [aI o,p] _ bu zSp fun k u v hu hv=>?_
     match k with
     | 0=>simp at hu hv;subst hu;subst hv;exact .zsc _
     | 1=>simp at hu hv;subst hu;subst hv;exact bw
     |k+2=>simp at hv
    .simp [go_sem,f11]
     refine .ptr (R+2) 0 [aI o,a0] _ bv zSp fun k u v hu hv=>?_
     match k with
     | 0=>simp at hu hv;subst hu;subst hv;exact .zsc _
     | 1=>simp at hu hv;subst hu;subst hv;exact ca
     |k+2=>simp at hv
    have a8:(cutM (fun j=>!decide (R<=j)) st2.mu 0)[B]?=some (.arr FL):=by
     rw[jF,low B bi,hc];simp[show ¬R<=B by omega]
    have b8:B<(cutM (fun j=>!decide (R<=j)) st2.mu 0).length:=(qj.1 a8).1;generalize b9:cutM (fun j=>!decide (R<=j)) st2.mu 0=CM at *
    simp[go_sem,f7,f8,h,a9,a8,b9];refine tT (.ptr B (k*4)) (if_pos zOm) ?_;have a3:=b5 (cBd BK) rfl zOm;rw[ai,y8 _ _ _ zSo]at a3;have cb:cBd BK=[aI o,lI (selW (fun x=>decide (1<x)) rw U 0),aI o,lI (selW (fun x=>decide (0<x)) rw U 0)]:=by rw[be];rfl
    rw[cb]at a3;simp only[zt,yP,vE,zz,List.length_nil]at a3;have bb:(jY ts sc raw (k+1)).length=W.length:=by rw[<-ai,List.length_set]
    simp[go_sem,a8,b9];refine tT (CM.set B (.arr (jY ts sc raw (k+1)).flatten)) (by rw[if_pos zOm,a3]) ?_;simp[go_sem,f2,f7,f8,w1,a9,h];refine aA ⟨zS1 f2,zS1 f7,zSi,.inr ⟨B,?_,?_⟩⟩
    .simp [go_sem,f7,h,bb]
    .simp [go_sem]
     rw[qL b8]
 .have cc:k=ts.sA.length:=by omega
  subst cc;have cd:jY ts sc raw ts.sA.length=(zZ ts sc raw).map cBd:=by
   rw[jY,<-an,qO,an,zW,List.map_nil,zJ]
  rw[cd]at ho;simp[go_sem,e7,e8];refine tT (aI (zZ ts sc raw).length) (by rcases ho with h|⟨b,h,_⟩<;>rw[h]<;>simp) ?_;simp[go_sem,an,e7,Own.one ho,Own.cells ho];refine Own.rd ho (fun r hr=>?_) fun r hr=>?_
  .obtain ⟨x,_,rfl⟩:=qm.1 hr;rfl
  .obtain ⟨x,_,rfl⟩:=qm.1 hr;exact KL x
end I2
set_option maxHeartbeats 1000000
namespace IJ
end IJ
set_option maxHeartbeats 1000000
namespace I5
open Y1 Y16 YF P1 Q4 Q8 E1 E3 E4 E9 F1 GD G5 GF GP GQ GR GS GU GV GW HE IB IF IK I1 I2 W41
theorem qfI(raw):HF (lRaw raw):=HF.lst fun r i c g=>by
 obtain⟨l,_,rfl⟩:=qm.1 i;simp at g;subst g;exact HF.lst fun r i c g=>by
  obtain⟨x,_,rfl⟩:=qm.1 i;simp at g;subst g;exact HF.sc _
def tiny(m:Md):Prop:=SmS m.sK/\m.sc.sC.length<=1000
theorem wQ(mu):Rd mu (.tup [.lst true [],.agg [.lst true [],aI 0,.lst true [],aI 0],aB false]) (.tup [lBd [],eMd mdZ,aB false]):=by
 refine .tup _ _ rfl fun j u v g i=>?_
 match j with
 | 0=>simp at g i;subst g;subst i;exact .wk _ true _ (.hf _ (HF.lst fun r l=>by simp at l))
 | 1=>grind [qbN]
 | 2=>simp at g i;subst g;subst i;exact .zsc _
 |j+3=>simp at g
theorem qtD(b m):HF (.tup [lBd b,eMd m,aB true]):=HF.tup (by simp only[qw,qH,or_false,forall_eq_or_imp,forall_eq];grind [jn,yk,HF.sc])
abbrev tupM(ts:TS)(sc:Sc)(raw:List (List Int))(g:List (List Bool))(lp:Int)(ok:Bool):AV:=if ok=true then .tup [lBd (zZ ts sc raw),eMd (anyM sc (vsT ts) (defB ts sc) g (lp % sc.sN)),aB true] else .tup [lBd [],eMd mdZ,aB false]
def ok25(ts:TS)(sc:Sc)(raw:List (List Int))(n:Nd):Bool:=yM ts&&(jr ts sc&&(decide (sumI sc.sC<=5)&&(zc n&&(decide (jq ts=[])&&(decide (yj ts [] n=(0,0))&&(Wr ts (sumI sc.sC) sc.sN n&&(decide ((chs (vsT ts) (qN (zZ ts sc raw) 0) sc.sN.toNat).length<=8))))))))
theorem ok25_cx{ts}(g:bigT ts){sc raw n}(h:ok25 ts sc raw n=true):Cx ts sc (zZ ts sc raw) sc.sN.toNat/\zc n=true/\(yj ts [] n).1=0:=by
 simp only[ok25,qE,decide_eq_true_eq]at h;obtain⟨i,j,l,o,p,r,I,J⟩:=h;have F:=J9 j;have t:=F.s1;have C:yR sc=true:=by
  simp_all[jr,qE]
 refine⟨⟨Wq i g,p,F,C,l,pi ts sc raw fun f hf=>J0 _ _ _,zOm,?_⟩,o,by rw[r]⟩;omega
def ok29(ts:TS)(sc:Sc)(raw:List (List Int))(n:Nd):Bool:=yM ts&&(jr ts sc&&(zc n&&(decide (sc.sC.length<=4)&&(decide (sumI sc.sC<=5)&&(decide (jq ts=[])&&(decide (yj ts [] n=(0,0))&&(Wr ts (sumI sc.sC) sc.sN n&&(decide ((jB sc.sN.toNat++chs (vsT ts) (qN (zZ ts sc raw) 0) sc.sN.toNat).length<=9)))))))))
theorem qfJ{ts}(g:bigT ts){sc raw n}(h:ok29 ts sc raw n=true):Cx ts sc (zZ ts sc raw) sc.sN.toNat/\zc n=true/\(yj ts [] n).1=0:=by
 simp only[ok29,qE,decide_eq_true_eq]at h;obtain⟨i,j,l,I,o,p,r,J,P⟩:=h;have F:=J9 j;have t:=F.s1;have C:yR sc=true:=by
  simp_all[jr,qE]
 refine⟨⟨Wq i g,p,F,C,o,pi ts sc raw fun f hf=>J0 _ _ _,zOm,?_⟩,l,by rw[r]⟩
 grind
theorem qtE(ts)(hs:bigT ts)(sc raw)(hr:∀ l,l∈raw->∀ x,x∈l->0<=x/\x<=255)(n J lp)(a4:0<=lp/\lp<=255) :
  qh qb 7 [.agg (uu ts sc raw n J lp)] (tupM ts sc raw J lp (ok29 ts sc raw n)):=by
 generalize p:ok29 ts sc raw n=R;have t:=fun h=>qfJ (ts:=ts) hs (sc:=sc) (raw:=raw) (n:=n) h
 unfold ok29 at p t;obtain⟨op,o,i,ks,q⟩:=n;have a5:uu ts sc raw (.mk op o i ks q) J lp=[.lst false (ts.sS.map wd),.lst false (ts.sA.map j8),lPd ts.sT,lFa ts.sP,lI sc.sC,aI sc.sN,lRaw raw,aI op,aS o,aI i,.lst false (ks.map cNd),aI q,lBB J,u8 lp]:=by unfold uu;rw[yC];rfl
 have a6:eNd (.mk op o i ks q) = .agg [aI op,aS o,aI i,.lst false (ks.map cNd),aI q]:=by rw[eNd,yC];rfl
 rw[a5];generalize hn:Nd.mk op o i ks q=n at *
 have wn:WK (.agg [aI op,aS o,aI i,.lst false (ks.map cNd),aI q]) (eNd n):=by rw[<-a6];exact .hf (qK n)
 have C:WK (.agg [.lst false (ts.sS.map wd),.lst false (ts.sA.map j8),lPd ts.sT,lFa ts.sP]) (eTS ts) := .hf (zm ts);have I:WK (.agg [lI sc.sC,aI sc.sN]) (eSc sc) := .hf (zr sc);refine qSU call7 func7 rfl ?_;refine fM ?_;refine tK (qmI ts) (.cons C .nil) ?_;cases h1:yM ts with
 |false =>
  rw[h1]at p;replace p:false=R:=p;subst p;simp[go_sem];exact wQ _
 |true =>
 have S:=Wq h1 hs;rw[h1,Bool.true_and]at p t;simp[go_sem];refine tK (qmN ts sc) (.cons C (.cons I .nil)) ?_;cases h2:jr ts sc with
 |false =>
  rw[h2]at p;replace p:false=R:=p;subst p;simp[go_sem];exact wQ _
 |true =>
 have F:=J9 h2;rw[h2,Bool.true_and]at p t;simp[go_sem];refine tK (Kv n) (.cons wn .nil) ?_;cases h4:zc n with
 |false =>
  rw[h4]at p;replace p:false=R:=p;subst p;simp[go_sem];exact wQ _
 |true =>
 rw[h4,Bool.true_and]at p t;simp[go_sem];by_cases h9:sc.sC.length<=4
 case neg =>
  have T:(4:Int)<sc.sC.length:=zOm;rw[decide_eq_false h9]at p;replace p:false=R:=p;subst p;simp[go_sem,T];exact wQ _
 have T:¬(4:Int)<sc.sC.length:=zOm;rw[decide_eq_true h9,Bool.true_and]at p t;simp[go_sem,T];refine tK (mK sc F.g) (.cons I .nil) ?_;by_cases h3:sumI sc.sC<=5
 case neg =>
  have U:5<sumI sc.sC:=zOm;rw[decide_eq_false h3]at p;replace p:false=R:=p;subst p;simp[go_sem,U];exact wQ _
 have U:¬ 5<sumI sc.sC:=zOm;rw[decide_eq_true h3,Bool.true_and]at p t;simp[go_sem,U];refine tK S.chk (.cons C .nil) ?_;by_cases h5:jq ts=[]
 case neg =>
  have a0:0<(jq ts).length:=List.length_pos_iff.2 h5;rw[decide_eq_false h5]at p;replace p:false=R:=p;subst p;simp[go_sem,a0];exact wQ _
 have a0:(jq ts).length=0:=by rw[h5];rfl
 rw[decide_eq_true h5,Bool.true_and]at p t;simp[go_sem,a0];refine tK (S.chkF h4) (.cons C (.cons (WK.lst fun r hr=>absurd hr qH) (.cons wn .nil))) ?_;by_cases h6:yj ts [] n=(0,0)
 case neg =>
  rw[decide_eq_false h6]at p;replace p:false=R:=p;subst p;generalize yj ts [] n=D at *
  obtain⟨d1,d2⟩:=D;by_cases g1:d1=0
  .have g2:¬d2=0:=fun e=>h6 (by rw[g1,e])
   simp[go_sem,g1,g2];exact wQ _
  .simp [go_sem,g1]
   exact wQ _
 rw[decide_eq_true h6,Bool.true_and]at p t;rw[h6];simp[go_sem];have a2:=F.g.sum sc.sC.length;rw[qO]at a2;have a8:=F.s1;have a9:=F.s4;refine fR (mK sc F.g) (.cons I .nil) ?_;refine tK (qsL S h5 (sumI sc.sC) sc.sN zOm zOm h4) (.cons C (.zs (.zs (.cons wn .nil)))) ?_;cases h7:Wr ts (sumI sc.sC) sc.sN n with
 |false =>
  rw[h7]at p;replace p:false=R:=p;subst p;simp[go_sem];exact wQ _
 |true =>
 rw[h7,Bool.true_and]at p t;simp[go_sem];have hB:=pi ts sc raw fun f hf=>J0 _ _ _
 have aa:(zZ ts sc raw).length=ts.sA.length:=Qw ts sc raw;have ab:=F.nf;have a3:∀ x,x∈zZ ts sc raw->x.up.ts.length<=1000/\x.lo.ts.length<=1000/\sorted x.lo.ts:=fun x t=>by
  obtain⟨j,hj,rfl⟩:=ux t;have h2:j<ts.sA.length:=zOm;have h:=qfF F h3 (qp h2);obtain⟨s1,s2⟩:=hB.so _ t;have h4:=Ja s2 (hB.full j hj h2);have h5:=Ja s1 (hB.sub _ t);exact⟨zOm,zOm,s1⟩
 have a1:∀ x,x∈zZ ts sc raw->Zr x:=fun x t=>by
  obtain⟨a,b,c⟩:=a3 x t;exact⟨zOm,zOm,c.imp fun h=>zOm⟩
 have a7:(qN (zZ ts sc raw) 0).length<=100000:=by
  have:=pj 1000 (zZ ts sc raw) 0 fun x t=>(a3 x t).1
  omega
 have cM:=qtC ts sc F raw hr;have cC:=qs6 ts sc (zZ ts sc raw) sc.sN.toNat zOm zOm zOm a1 zOm a7;refine fR cM (.cons C (.cons I (.zk (qfI raw) .nil))) ?_;refine tK cC (.cons C (.cons I (.zk (jn _) .nil))) ?_;by_cases h8:(jB sc.sN.toNat++chs (vsT ts) (qN (zZ ts sc raw) 0) sc.sN.toNat).length<=9
 case neg =>
  have P:(9:Int)<(jB sc.sN.toNat++chs (vsT ts) (qN (zZ ts sc raw) 0) sc.sN.toNat).length:=zOm;rw[decide_eq_false h8]at p;subst p
  try simp only[q8,pq]at P
  simp[go_sem,P];exact wQ _
 have P:¬(9:Int)<(jB sc.sN.toNat++chs (vsT ts) (qN (zZ ts sc raw) 0) sc.sN.toNat).length:=zOm;rw[decide_eq_true h8]at p;subst p
 try simp only[q8,pq]at P
 simp[go_sem,P];refine fR (anyU ts sc F h3 J lp a4) (.cons C (.cons I (.zk (qa3 _) (.zs .nil)))) ?_;exact .hf _ (qtD _ _)
end I5
namespace IM
open Y1 P1 E3 G5 GM GP GQ GR GS GW GX GY GZ HA HI IA IC ID IE IK IL
variable {ts:TS} {sc:Sc} {b:List Bd} {N:Nat}
theorem Jp(F:Fit9 ts sc):BndV ts sc (defB ts sc):=by
 refine⟨by simp[defB],fun i h l=>?_,fun x g=>?_,fun x g t j=>?_,fun i h l t j=>?_⟩
 .simp [defB]
 .obtain ⟨f,hf,rfl⟩:=qm.1 g
  exact⟨List.Pairwise.nil,J0 _ _ _⟩
 .obtain ⟨f,hf,rfl⟩:=qm.1 g
  exact absurd j qH
 grind [defB]
theorem qfK(F:Fit9 ts sc)(p:sc.sN=N)(l:1<=N)(g lp)(t:0<=lp):anyM sc (vsT ts) (defB ts sc) g (lp % sc.sN)∈LL ts sc (defB ts sc) N:=by
 have B:=Jp F;have l:0<=lp % sc.sN/\lp % sc.sN<N:=⟨Int.emod_nonneg _ zOm,zW1 (Int.emod_lt_of_pos lp (b:=sc.sN) zOm)⟩;obtain⟨k,r⟩:=Int.eq_ofNat_of_zero_le l.1;rw[r];refine qsO sc (vsT ts) (defB ts sc) g N k p zOm (fun x j=>?_) (fun x j=>(B.so x j).2) B.sub;obtain⟨i,o,rfl⟩:=ux j;obtain⟨C,I⟩:=B.lo i o (by rw[<-B.len];exact o);omega
theorem qfL(F:Fit9 ts sc)(z:yR sc=true)(g:sc.sN=N){m}(h:m∈LL ts sc (defB ts sc) N):MdV ts m:=by
 obtain⟨k,c,i,j,rfl⟩:=Vf.1 h
 grind [qe2,Jp]
theorem qtF(X:Cx ts sc b N){m}(h:m∈LL ts sc (defB ts sc) N)(l:cntB b m=true):m∈LL ts sc b N:=by
 have D:=Jp X.F;have g:=ph D X.N1 h;have o:=(qfD D X.B g).1 l;have p:b.length=(defB ts sc).length:=by rw[X.B.len,D.len]
 refine qsV X.B ⟨g.sc,g.lp,g.ns,fun s r=>by rw[g.len s r,p],fun k f i hf j=>?_,g.fix⟩;obtain⟨t,C,I,J⟩:=g.rel k f i zOm j;obtain⟨c1,c2⟩:=o k f i hf j;have P:=X.B.lo f hf (by rw[<-X.B.len];exact hf);have R:=D.lo f zOm (by grind)
 grind
theorem qtG(X:Cx ts sc b N){m}(h:m∈LL ts sc b N):cntB b m=true:=by
 have g:=X.betw h;exact(qfD X.B X.B g).2 fun k f i hf j=>by
  obtain⟨l,o,p,r⟩:=g.rel k f i hf j
  grind
theorem qfM(X:Cx ts sc b N){m}(h:m∈LL ts sc (defB ts sc) N):Shd sc (ts.sA.map fun f=>(f.sS.length:Int)) N m:=by
 have:=qfE (Jp X.F) (ph (Jp X.F) X.N1 h)
 grind [defB,Function.comp_def]
theorem qtH(X:Cx ts sc b N){m}(h:m∈LL ts sc b N):Shd sc (ts.sA.map fun f=>(f.sS.length:Int)) N m:=by
 have:=qfE X.B (X.betw h);have e:(b.map fun x=>x.up.ar)=ts.sA.map fun f=>(f.sS.length:Int):=by
  refine List.ext_getElem (by simp[X.B.len]) fun i g j=>?_
  simp only[Qx,zA]at g j⊢;exact(X.B.lo i g j).2
 rwa[e]at this
theorem qtI{n}(h:(MV ts sc b N n).2=0){m}:m∈(MV ts sc b N n).1↔m∈LL ts sc b N/\(hV ⟨ts,m⟩ n).1=true:=by
 rw[(qfG h).2,y7]
end IM
namespace IG
end IG
namespace I4
end I4
set_option maxHeartbeats 1000000
namespace JK
end JK
set_option maxHeartbeats 1000000
namespace W42
open Y1 YF P1 E3 GS IC IK I5 W41
theorem qtJ(ts sc raw n g lp):HF (.agg (uu ts sc raw n g lp)):=HF.agg fun c i=>by
 unfold uu at i;simp only[qJ,qw,qH,or_false]at i;rcases i with h | (rfl|rfl|rfl)|h|rfl|rfl
 .exact JR ts c (by simpa[cTS] using h)
 .exact zg _
 .exact HF.sc _
 .exact qfI raw
 .exact vG n c h
 .exact qa3 _
 .exact HF.sc _
theorem _root_.Go.Proofs.YtipbakanneogpaaGreatDoor.IK.Cx.tiny{ts sc b N}(X:Cx ts sc b N){m}(h:Betw sc (vsT ts) b N m):tiny m:=
 ⟨X.sms h,by rw[h.sc];have:=X.F.g.1;have:=X.F.ns;have:=X.S.h.ns;omega⟩
end W42
namespace JM
open Y1 P1 Q4 E3 F1 GD GV IE IK YF EP
section
variable {S:List (List Rl)}
theorem qtK(s:List Rl)(k h):szT (s.take (k+1))=szT (s.take k)+s[k].ts.length:=by
 rw[yc h];unfold szT;rw[zb,List.foldr_append];generalize s.take k=l;induction l with
 |nil=>simp
 |cons x l g=>simp only[zS,List.map_nil,List.foldr_cons,List.foldr_nil]at g⊢;omega
theorem qtL(s:List (List Rl))(k h):szS (s.take (k+1))=szS (s.take k)+szT s[k]:=by
 rw[yc h];unfold szS;rw[zb,List.foldr_append];generalize s.take k=l;induction l with
 |nil=>simp
 |cons x l g=>simp only[zS,List.map_nil,List.foldr_cons,List.foldr_nil]at g⊢;omega
theorem pn:∀ s,(∀ r,r∈s->r.ts.length<=1000)->0<=szT s/\szT s<=s.length*1000
 | [],_=>by simp[szT]
 |r :: s,h=>by
  have g:=pn s fun x i=>h x (za _ i)
  have:=h r (zj ..);simp only[szT,zS,List.foldr_cons,zz]at g⊢;omega
theorem qfN:∀ s,(∀ t,t∈s->0<=szT t/\szT t<=1000000)->0<=szS s/\szS s<=s.length*1000000
 | [],_=>by simp[szS]
 |r :: s,h=>by
  have g:=qfN s fun x i=>h x (za _ i)
  have:=h r (zj ..);simp only[szS,zS,List.foldr_cons,zz]at g⊢;omega
theorem qtM(h:SmS S):∀ t,t∈S->0<=szT t/\szT t<=1000000:=fun t g=>by
 have:=pn t fun r i=>(h.t t g r i).1
 have:=h.f t g;omega
theorem qfO(h:SmS S)(k):0<=szS (S.take k)/\szS (S.take k)<=1000000000:=by
 have:=qfN (S.take k) fun t g=>qtM h t (jC g)
 have i:=h.n;have:(S.take k).length<=S.length:=List.length_take_le' _ _;omega
theorem qfP(h:SmS S){t}(g:t∈S)(k):0<=szT (t.take k)/\szT (t.take k)<=1000000:=by
 have:=pn (t.take k) fun r i=>(h.t t g r (jC i)).1
 have j:=h.f t g;have:(t.take k).length<=t.length:=List.length_take_le' _ _;omega
theorem qtN(g)(hf:g=1\/g = -1)(m)(P:SmS m.sK):qh qb 82 [eMd m,.ip [aI g]] (aI (g*szS m.sK)):=by
 refine qSV call82 func82 rfl ?_;have hn:=P.n;simp[go_sem];refine aK m.sK.length (fun k U=>U.tm 1 = .ip [aI g]/\U.tm 4=aI (szS (m.sK.take k))/\U.tm 10=lSt m.sK/\U.tm 11=aI m.sK.length/\U.tm 12=aI k) ?_ ?_
 .exact ⟨zSi,by simp[go_sem,szS],zSi,zSi,zSi⟩
 rintro k U hk ⟨R,C,o,i,l⟩;by_cases t:k<m.sK.length
 .have p:=qp t
  have w1:=zWk k;have hS:=qtL m.sK k t;have b0:=qfO P k;have a1:=P.f _ p;simp[go_sem,o,i,l,t];refine aK m.sK[k].length (fun j U=>U.tm 1 = .ip [aI g]/\U.tm 4=aI (szS (m.sK.take k)+szT (m.sK[k].take j))/\U.tm 10=lSt m.sK/\U.tm 11=aI m.sK.length/\U.tm 12=aI k/\U.tm 16=lRel m.sK[k]/\U.tm 17=aI m.sK[k].length/\U.tm 18=aI j) ?_ ?_
  .exact ⟨zS1 R,by simp[go_sem,C,szT],zS1 o,zS1 i,zS1 l,zSi,zSi,zSi⟩
  clear R C o i l;rintro j U hj ⟨R,C,o,i,l,T,I,a0⟩;by_cases J:j<m.sK[k].length
  .have w2:=zWk j
   have hT:=qtK m.sK[k] j J;have b1:=qfP P p j;have b2:=qfP P p (j+1);have w3:qo.wrap (szS (m.sK.take k)+szT (m.sK[k].take j)+m.sK[k][j].ts.length)=szS (m.sK.take k)+szT (m.sK[k].take (j+1)):=by rw[zWr];omega
   simp[go_sem,C,T,I,a0,J,w2,w3]
   try refine⟨J,aA ?_⟩
   try refine aA ?_
   exact⟨zS1 R,zSi,zS1 o,zS1 i,zS1 l,zS1 T,zS1 I,zSi⟩
  .have r:j=m.sK[k].length:=by omega
   rw[r,qO,<-hS]at C;simp[go_sem,l,I,a0,r,w1]
   try refine⟨t,aA ?_⟩
   try refine aA ?_
   exact⟨zS1 R,zS1 C,zS1 o,zS1 i,zSi⟩
 .have r:k=m.sK.length:=by omega
  rw[r,qO]at C;have b0:=qfO P m.sK.length;rw[qO]at b0;have w:qo.wrap (g*szS m.sK)=g*szS m.sK:=by rcases hf with rfl|rfl<;>exact zWr
  simp[go_sem,R,C,i,l,r,w];exact .zsc _
theorem qfQ(i):HF (.fn (.func 82) [] [.ip [aI i]]):=HF.fn (fun c g=>by simp at g) (fun c g=>by simp at g;subst g;exact HF.ip fun c g=>by simp at g;subst g;exact HF.sc _)
variable {ts:TS} {sc:Sc} {b:List Bd} {N:Nat}
theorem qfR(X:Cx ts sc b N){n}(p:zc n=true)(g)(hf:g=1\/g = -1) :
  qh qb 31 [eTS ts,eSc sc,lBd b,eNd n,.fn (.func 82) [] [.ip [aI g]]] (tup3 (jt (fun x=>g*szS x.sK) (MV ts sc b N n).1 (MV ts sc b N n).2)):=by
 have t:=(Cx.Zy (ts:=ts) (sc:=sc) (b:=b) (N:=N) (n:=n)).length_le;have l:=X.len;have o:HF (.ip [aI g]):=HF.ip fun c i=>by simp at i;subst i;exact HF.sc _
 have j:HF (.fn (.func 82) [] [.ip [aI g]]):=HF.fn (fun c i=>by simp at i) (fun c i=>by simp at i;subst i;exact o);exact qbO ts sc b n _ j _ _ _ zOm (X.models p) ⟨j,_,[],_,rfl,fun x r=>⟨[eMd x,.ip [aI g]],.zk (yk x) (.zk o .nil),qtN g hf x (X.sms (X.betw (Cx.Zy.subset r)))⟩⟩
theorem Z6(i):qh qb 42 [aI i] (.fn (.func 82) [] [.ip [aI i]]):=by
 refine qSU call42 func42 rfl ?_;exact .hf _ (HF.fn (fun c g=>by simp at g) (fun c g=>by simp at g;subst g;exact HF.ip fun c g=>by simp at g;subst g;exact HF.sc _))
theorem minU(X:Cx ts sc b N){n}(g:zc n=true) :
  qh qb 14 [eTS ts,eSc sc,lBd b,eNd n] (.tup [eMd (jt (fun x=>1*szS x.sK) (MV ts sc b N n).1 (MV ts sc b N n).2).1,aI (jt (fun x=>1*szS x.sK) (MV ts sc b N n).1 (MV ts sc b N n).2).2.2]):=by
 have h:=qfR X g 1 (.inl rfl);generalize jt (fun x=>1*szS x.sK) (MV ts sc b N n).1 (MV ts sc b N n).2=R at *
 obtain⟨m,d,e⟩:=R;refine qSU call14 func14 rfl ?_;refine fM ?_;refine fR (Z6 1) (.zs .nil) ?_;refine fR h (.zk (zm _) (.zk (zr _) (.zk (jn _) (.zk (qK _) (.zk (qfQ 1) .nil))))) ?_;exact .hf _ (HF.tup (by simp only[qw,qH,or_false,forall_eq_or_imp,forall_eq];exact⟨yk _,HF.sc _⟩))
theorem maxU(X:Cx ts sc b N){n}(g:zc n=true) :
  qh qb 15 [eTS ts,eSc sc,lBd b,eNd n] (.tup [eMd (jt (fun x => -1*szS x.sK) (MV ts sc b N n).1 (MV ts sc b N n).2).1,aI (jt (fun x => -1*szS x.sK) (MV ts sc b N n).1 (MV ts sc b N n).2).2.2]):=by
 have h:=qfR X g (-1) (.inr rfl);generalize jt (fun x => -1*szS x.sK) (MV ts sc b N n).1 (MV ts sc b N n).2=R at *
 obtain⟨m,d,e⟩:=R;refine qSU call15 func15 rfl ?_;refine fM ?_;refine fR (Z6 (-1)) (.zs .nil) ?_;refine fR h (.zk (zm _) (.zk (zr _) (.zk (jn _) (.zk (qK _) (.zk (qfQ (-1)) .nil))))) ?_;exact .hf _ (HF.tup (by simp only[qw,qH,or_false,forall_eq_or_imp,forall_eq];exact⟨yk _,HF.sc _⟩))
end
end JM
set_option maxHeartbeats 1000000
namespace JP
open Y1 YF P1 Q4 E3 E4 F1 GD GN GP GR GV GX IB IE IK IM W41 IM GX QB JM GN
def tsA:TS:=⟨[(⟨#[65]⟩,false)],[⟨⟨#[102]⟩,[0],false⟩],[],[]⟩
def scA:Sc:=⟨[3],1⟩
def bsA:List Bd:=[⟨⟨1,[]⟩,⟨1,[0,1,2]⟩⟩]
def nTwo:Nd := .mk 38 ⟨#[]⟩ 0 [.mk 21 ⟨#[]⟩ 0 [.mk 1 ⟨#[102]⟩ 0 [] 0] 0,.mk 20 ⟨#[]⟩ 2 [] 0] 0
abbrev nOp(o:Int):Nd := .mk o ⟨#[]⟩ 0 [] 0
def mkA(l:List Int):Md:=⟨scA,[[⟨1,l⟩]],0⟩
theorem of29(l):qh qb 19 [eSc scA,lI l] (eMd (mkA l)):=by
 refine qSU call19 func19 rfl ?_;refine .agg _ _ rfl fun k x y g i=>?_
 match k with
 | 0=>simp[mkA,scA]at g i;subst g;subst i;exact .hf _ (zg _)
 | 1=>simp[mkA,scA]at g i;subst g;subst i;exact .zsc _
 | 2 =>
  simp[mkA]at g i;subst g;subst i;refine .wk _ true _ (.lst true _ _ rfl (fun k x y g i=>?_) fun k x y g i=>?_)
  .grind
  .match k with
   | 0=>simp at g i;subst g;subst i;exact .wk _ true _ (.hf _ (HF.lst fun r j c o=>by simp at j;subst j;simp at o;rcases o with rfl|rfl;exact HF.sc _;exact zg l))
   |k+1=>simp at g
 | 3=>simp[mkA]at g i;subst g;subst i;exact .zsc _
 |k+4=>simp at g
theorem wtsA:WK (.agg [.lst true [[aS ⟨#[65]⟩,aB false]],.lst true [[aS ⟨#[102]⟩,.lst true [[aI 0]],aB false]],.lst true [],.lst true []]) (eTS tsA):=
 WK.aggs (.cons (Qs ⟨.zs (.zs .nil),trivial⟩) (.cons (Qs ⟨.zs (.cons (WK.ints [0]) (.zs .nil)),trivial⟩) (.cons (Qs (by trivial)) (.cons (Qs (by trivial)) .nil))))
theorem wscA:WK (.agg [.lst true [[aI 3]],aI 1]) (eSc scA):=WK.aggs (.cons (WK.ints [3]) (.zs .nil))
theorem wnA:WK (.agg [aI 38,aS ⟨#[]⟩,aI 0,.lst true [[aI 21,aS ⟨#[]⟩,aI 0,.lst true [[aI 1,aS ⟨#[102]⟩,aI 0,.lst true [],aI 0]],aI 0],[aI 20,aS ⟨#[]⟩,aI 2,.lst true [],aI 0]],aI 0]) (eNd nTwo):=qcT 38 ⟨#[]⟩ 0 0 (Qs ⟨U7 21 ⟨#[]⟩ 0 0 (Qs ⟨U7 1 ⟨#[102]⟩ 0 0 (Qs (by trivial)),trivial⟩),U7 20 ⟨#[]⟩ 2 0 (Qs (by trivial)),trivial⟩)
theorem wnO(o):WK (.agg [aI o,aS ⟨#[]⟩,aI 0,.lst true [],aI 0]) (eNd (nOp o)):=qcT o ⟨#[]⟩ 0 0 (Qs (by trivial))
theorem wmZ:WK (.agg [.lst true [],aI 0,.lst true [],aI 0]) (eMd mdZ):=WK.aggs (.cons (WK.lst fun r g=>absurd g qH) (.zs (.cons (WK.lst fun r g=>absurd g qH) (.zs .nil))))
theorem defA:defB tsA scA=bsA:=by decide +kernel
theorem cxA:Cx tsA scA bsA 1:=⟨Wq (by decide +kernel) (by intro x g;simp[tsA]at g;subst g;decide),by decide +kernel,J9 (by decide +kernel),by decide +kernel,by show sumI [3]<=5;decide,by have:=Jp (ts:=tsA) (sc:=scA) (J9 (by decide +kernel));rwa[defA]at this,rfl,by decide +kernel⟩
theorem memA(l)(h:mkA l∈LL tsA scA bsA 1):SmS (mkA l).sK/\MdV tsA (mkA l):=⟨cxA.sms (cxA.betw h),cxA.mdv h⟩
theorem badU:qh qb 55 [eTS tsA,.agg [lI [],aI 0]] (aB false):=by
 refine qSV call55 func55 rfl ?_;simp[go_sem,tsA];exact .zsc _
theorem badM:qh qb 29 [eTS tsA,eMd mdZ] (aB false):=by
 refine qSV call29 func29 rfl ?_;simp[go_sem,mdZ];refine fR badU (.zk (zm _) (.zk (zr ⟨[],0⟩) .nil)) ?_;exact .zsc _
theorem pp(n)(j:zc n=true)(m g)(l:SmS m.sK)(o:m.sc.sC.length<=1000000)(hv:qh qb 29 [eTS tsA,eMd m] (aB g)) :
  qh qb 8 [eTS tsA,eSc scA,lBd bsA,eNd n,eMd m] (tup3 (v6 g scA (MV tsA scA bsA 1 n).1 (MV tsA scA bsA 1 n).2 m)):=
 qbP tsA scA bsA n m g _ _ (zW2 ((Cx.Zy (ts:=tsA) (sc:=scA) (b:=bsA) (N:=1) (n:=n)).length_le) cxA.len) l (fun x p=>by have i:=cxA.betw (Cx.Zy.subset p);exact⟨cxA.sms i,by rw[i.sc];decide⟩) o hv (cxA.models j)
theorem smZ:SmS mdZ.sK:=⟨zDe,fun s g=>absurd g qH,fun s g=>absurd g qH⟩
theorem headM:qh qb 6 [] (aB true):=by
 have d1:=qa1 tsA scA cxA.F;rw[defA]at d1;have U:∀ l,l∈[[],[0],[1],[2],[0,1],[0,2],[1,2],[0,1,2]]->mkA l∈LL tsA scA bsA 1:=by decide +kernel
 have g:∀ l,l∈[[],[0],[1],[2],[0,1],[0,2],[1,2],[0,1,2]]->SmS (mkA l).sK/\MdV tsA (mkA l):=fun l j=>memA l (U l j)
 obtain⟨o,r⟩:=g [2] zDe;have t:=pp nTwo (by decide +kernel) (mkA [2]) true o zDe (k9 tsA _ r);rw[show v6 true scA (MV tsA scA bsA 1 nTwo).1 (MV tsA scA bsA 1 nTwo).2 (mkA [2])=(mkA [1,2],1,0) by decide +kernel]at t;have C:=pp (nOp 31) (by decide +kernel) (mkA [2]) true o zDe (k9 tsA _ r);rw[show v6 true scA (MV tsA scA bsA 1 (nOp 31)).1 (MV tsA scA bsA 1 (nOp 31)).2 (mkA [2])=(mdZ,0,270) by decide +kernel]at C;have I:=pp nTwo (by decide +kernel) mdZ false smZ zDe badM;rw[show v6 false scA (MV tsA scA bsA 1 nTwo).1 (MV tsA scA bsA 1 nTwo).2 mdZ=(mdZ,0,1) by decide +kernel]at I;have J:=minU cxA (n:=nTwo) (by decide +kernel);rw[show jt (fun x=>1*szS x.sK) (MV tsA scA bsA 1 nTwo).1 (MV tsA scA bsA 1 nTwo).2=(mkA [1,2],2,0) by decide +kernel]at J;have P:=maxU cxA (n:=nOp 30) (by decide +kernel);rw[show jt (fun x => -1*szS x.sK) (MV tsA scA bsA 1 (nOp 30)).1 (MV tsA scA bsA 1 (nOp 30)).2=(mkA [0,1,2],-3,0) by decide +kernel]at P;have R:=UH (mkA [0,1]) (mkA [1,2]) (g _ zDe).1 (g _ zDe).1 zDe;rw[show yu (mkA [0,1]) (mkA [1,2])=2 by decide +kernel]at R;have T:=UH (mkA [2]) mdZ o smZ zDe;rw[show yu (mkA [2]) mdZ = -1 by decide +kernel]at T;have p:∀ l,l∈[[],[0],[1],[2],[0,1],[0,2],[1,2],[0,1,2]]->qh qb 12 [eMd (mkA l),eMd (mkA l)] (aB true):=fun l j=>by
  have:=qbK (mkA l) (mkA l) (qfH (g l j).1 (by show [3].length<=_;decide))
  rwa[decide_eq_true rfl]at this
 have i:∀ x y:Md,WKs [eMd x,eMd y] [eMd x,eMd y]:=fun x y => .zk (yk x) (.zk (yk y) .nil)
 refine qSU call6 func6 rfl ?_;refine fR d1 (.cons wtsA (.cons wscA .nil)) ?_;refine fR (of29 [2]) (.cons wscA (.cons (WK.ints [2]) .nil)) ?_;refine fR t (.cons wtsA (.cons wscA (.zk (jn _) (.cons wnA (.zk (yk _) .nil))))) ?_;refine fR J (.cons wtsA (.cons wscA (.zk (jn _) (.cons wnA .nil)))) ?_;refine fR P (.cons wtsA (.cons wscA (.zk (jn _) (.cons (wnO 30) .nil)))) ?_;refine fR C (.cons wtsA (.cons wscA (.zk (jn _) (.cons (wnO 31) (.zk (yk _) .nil))))) ?_;refine fR I (.cons wtsA (.cons wscA (.zk (jn _) (.cons wnA (.cons wmZ .nil))))) ?_
 try(refine cL zKr ?_;simp[go_sem])
 refine fR (of29 [0,1]) (.cons wscA (.cons (WK.ints [0,1]) .nil)) ?_
 try(refine cL zKr ?_;simp[go_sem])
 refine fR (of29 [1,2]) (.cons wscA (.cons (WK.ints [1,2]) .nil)) ?_
 try(refine cL zKr ?_;simp[go_sem])
 refine fR R (i _ _) ?_
 try(refine cL zKr ?_;simp[go_sem])
 refine fR T (.zk (yk _) (.cons wmZ .nil)) ?_
 try(refine cL zKr ?_;simp[go_sem])
 refine fR (of29 [1,2]) (.cons wscA (.cons (WK.ints [1,2]) .nil)) ?_
 try(refine cL zKr ?_;simp[go_sem])
 refine fR (p [1,2] zDe) (i _ _) ?_
 try(refine cL zKr ?_;simp[go_sem])
 refine fR (of29 [1,2]) (.cons wscA (.cons (WK.ints [1,2]) .nil)) ?_
 try(refine cL zKr ?_;simp[go_sem])
 refine fR (p [1,2] zDe) (i _ _) ?_
 try(refine cL zKr ?_;simp[go_sem])
 refine fR (of29 [0,1,2]) (.cons wscA (.cons (WK.ints [0,1,2]) .nil)) ?_
 try(refine cL zKr ?_;simp[go_sem])
 refine fR (p [0,1,2] zDe) (i _ _) ?_;exact .zsc _
end JP
set_option maxHeartbeats 1000000
namespace W47
open Y1 Y9 YF P1 Q4 E3 E4 EP F1 GD GH GM GN GP GR GS GV GX HE HI IA IB IC IE IK IL IM I5 W41 W42 IM GN GM
section
variable {ts:TS}
theorem qtO{sc b N}(X:Cx ts sc b N){x m}(i:x∈LL ts sc b N)(g:m∈LL ts sc (defB ts sc) N):0<=yu x m/\(yu x m=0↔x=m):=by
 have:=qlD (qtH X i) (qfM X g) (qfM X g);exact⟨this.1,this.2.1⟩
theorem qfS{sc}(F:Fit9 ts sc)(l:sumI sc.sC<=5)(g lp):SmS (anyM sc (vsT ts) (defB ts sc) g lp).sK:=by
 have i:=KA F l;have:=F.s4;have:=F.nf;exact qlH sc _ _ g lp zOm (by simp[defB];omega) fun b j=>⟨(i b j).1,(i b j).2.1⟩
theorem qtP{sc b N}(X:Cx ts sc b N){n}(o:zc n=true)(i lp)(p:0<=lp) :
  qh qb 8 [eTS ts,eSc sc,lBd b,eNd n,eMd (anyM sc (vsT ts) (defB ts sc) i (lp % sc.sN))] (tup3 (jt (fun x=>yu x (anyM sc (vsT ts) (defB ts sc) i (lp % sc.sN))) (MV ts sc b N n).1 (MV ts sc b N n).2)):=by
 have r:=qfK X.F X.hS X.N1 i lp p;have I:=(Cx.Zy (ts:=ts) (sc:=sc) (b:=b) (N:=N) (n:=n)).length_le;have j:=X.len;have t:sc.sC.length<=1000:=by have:=X.F.g.1;have:=X.F.ns;have:=X.S.h.ns;omega
 have:=qbP ts sc b n (anyM sc (vsT ts) (defB ts sc) i (lp % sc.sN)) true (MV ts sc b N n).1 (MV ts sc b N n).2 zOm (qfS X.F X.h5 i _) (fun x C=>by
  have l:=X.betw (Cx.Zy.subset C);exact⟨X.sms l,by rw[l.sc];omega⟩) (by show sc.sC.length<=_;omega) (k9 ts _ (qfL X.F X.z X.hS r)) (X.models o)
 rwa[v6,if_pos ⟨rfl,rfl,rfl⟩]at this
theorem qtQ(ts)(hs:bigT ts)(sc raw)(hr:∀ l,l∈raw->∀ x,x∈l->0<=x/\x<=255)(n C lp)(aj:0<=lp/\lp<=255) :
  qh qb 3 [.agg (uu ts sc raw n C lp)] (aB true):=by
 have a4:=qtE ts hs sc raw hr n C lp aj;have J:=fun h=>qfJ (ts:=ts) hs (sc:=sc) (raw:=raw) (n:=n) h
 obtain⟨op,o,i,ks,q⟩:=n;have aa:uu ts sc raw (.mk op o i ks q) C lp=[.lst false (ts.sS.map wd),.lst false (ts.sA.map j8),lPd ts.sT,lFa ts.sP,lI sc.sC,aI sc.sN,lRaw raw,aI op,aS o,aI i,.lst false (ks.map cNd),aI q,lBB C,u8 lp]:=by unfold uu;rw[yC];rfl
 have bi:eNd (.mk op o i ks q) = .agg [aI op,aS o,aI i,.lst false (ks.map cNd),aI q]:=by rw[eNd,yC];rfl
 have wc:WK (.agg (uu ts sc raw (.mk op o i ks q) C lp)) (.agg (uu ts sc raw (.mk op o i ks q) C lp)) := .hf (qtJ ts sc raw _ C lp);rw[aa]at wc⊢;rw[aa]at a4;generalize hn:Nd.mk op o i ks q=n at *
 have wn:WK (.agg [aI op,aS o,aI i,.lst false (ks.map cNd),aI q]) (eNd n):=by rw[<-bi];exact .hf (qK n)
 have ak:WK (.agg [.lst false (ts.sS.map wd),.lst false (ts.sA.map j8),lPd ts.sT,lFa ts.sP]) (eTS ts) := .hf (zm ts);have av:WK (.agg [lI sc.sC,aI sc.sN]) (eSc sc) := .hf (zr sc);refine qSU call3 func3 rfl ?_;refine fR JP.headM .nil ?_;refine tK a4 (.cons wc .nil) ?_;cases bj:ok29 ts sc raw n with
 |false =>
  simp[go_sem,tupM];exact .zsc _
 |true =>
 simp only[tupM,reduceIte];obtain⟨X,ab,cc⟩:=J bj;generalize hb:zZ ts sc raw=b at *
 generalize hN:sc.sN.toNat=N at *
 have cd:=X.hS;have wb:WK (lBd b) (lBd b) := .hf (jn b);have bk:∀ m,m∈LL ts sc b N->tiny m:=fun m hm=>X.tiny (X.betw hm)
 have bm:=X.len;have hm:=qfK X.F X.hS X.N1 C lp aj.1;have cN:=qtP X ab C lp aj.1;have cM:=X.models ab;have al:=qfS X.F X.h5 C (lp % sc.sN);have aw:=qfL X.F X.z X.hS hm;have bn:0<(anyM sc (vsT ts) (defB ts sc) C (lp % sc.sN)).sK.length:=by
  have h9:((anyM sc (vsT ts) (defB ts sc) C (lp % sc.sN)).sK.length:Int)=sc.sN:=aw.ns;have:=X.F.s1;omega
 have cH:=qeW X.S X.hk (qe3 X.S.h aw) bn ab;have ax:sc.sC.length<=1000:=by have:=X.F.g.1;have:=X.F.ns;have:=X.S.h.ns;omega
 have ca:(anyM sc (vsT ts) (defB ts sc) C (lp % sc.sN)).sc.sC.length<=1000:=ax;have cC:∀ x:Md,SmS x.sK->qh qb 11 [lBd b,eMd x] (aB (cntB b x)):=fun x J=>qsY b x (zW1 X.bl) (zW1 J.n) (fun y hy=>by obtain⟨h1,h2,h3,_⟩:=X.bts y hy;exact⟨zOm,zOm,h3⟩) fun s hs=>⟨zW1 (J.f s hs),fun r hr=>by obtain⟨h1,h2⟩:=J.t s hs r hr;exact⟨zOm,h2⟩⟩
 have a5:∀ x,x∈LL ts sc b N->SmS x.sK/\x.sc.sC.length<=1000:=fun x J=>⟨X.sms (X.betw J),by rw[(X.betw J).sc];exact ax⟩
 have bo:∀ x,x∈LL ts sc b N->qh qb 10 [eTS ts,eMd x,eNd n] (.tup [aB (hV ⟨ts,x⟩ n).1,aI (hV ⟨ts,x⟩ n).2]):=fun x J=>X.holds J ab
 have a6:=fun x J=>qtO X (x:=x) J hm
 have ay:=fun hc=>qtF X hm hc
 have bq:=fun x J=>qtG X (m:=x) J
 have az:=fun h=>(fun m=>qtI (ts:=ts) (sc:=sc) (b:=b) (N:=N) (n:=n) h (m:=m))
 have b0:=fun h=>(qfG (ts:=ts) (sc:=sc) (b:=b) (N:=N) (n:=n) h).1
 have b1:=fun h=>(qe8 (hv:=fun m=>hV ⟨ts,m⟩ n) (L:=LL ts sc b N) h).1
 change _->(MV ts sc b N n).1=[]at b1;have a7:=(Cx.Zy (ts:=ts) (sc:=sc) (b:=b) (N:=N) (n:=n)).subset;have br:=(Cx.Zy (ts:=ts) (sc:=sc) (b:=b) (N:=N) (n:=n)).length_le;generalize hM:anyM sc (vsT ts) (defB ts sc) C (lp % sc.sN)=m at *
 generalize cf:(MV ts sc b N n).2=er at *
 generalize cg:(MV ts sc b N n).1=Lm at *
 generalize hL:LL ts sc b N=L at *
 have cD:∀ x,x∈L->qh qb 13 [eMd x,eMd m] (aI (yu x m)):=fun x J=>UH x m (a5 x J).1 al (zW1 ((a5 x J).2))
 have cE:∀ x y,x∈L->qh qb 12 [eMd x,eMd y] (aB (decide (x=y))):=fun x y J=>qbK x y (qfH (a5 x J).1 (a5 x J).2)
 have wm:∀ x y:Md,WKs [eMd x,eMd y] [eMd x,eMd y]:=fun x y => .zk (yk x) (.zk (yk y) .nil)
 have ad:∀ x:Md,WKs [lBd b,eMd x] [lBd b,eMd x]:=fun x => .cons wb (.zk (yk x) .nil)
 have hz:∀ x,x∈L->x=m->yu x m=0:=fun x J e=>(a6 x J).2.2 e
 generalize hD:(fun x=>yu x m)=D at cN;have a8:∀ x,D x=yu x m:=fun x=>by rw[<-hD]
 generalize b2:hV ⟨ts,m⟩ n=Hm at *
 obtain⟨a9,g1⟩:=Hm;have wN:WKs [.agg [.lst false (ts.sS.map wd),.lst false (ts.sA.map j8),lPd ts.sT,lFa ts.sP],.agg [lI sc.sC,aI sc.sN],lBd b,.agg [aI op,aS o,aI i,.lst false (ks.map cNd),aI q],eMd m] [eTS ts,eSc sc,lBd b,eNd n,eMd m] := .cons ak (.cons av (.cons wb (.cons wn (.zk (yk m) .nil))));have wM:WKs [.agg [.lst false (ts.sS.map wd),.lst false (ts.sA.map j8),lPd ts.sT,lFa ts.sP],.agg [lI sc.sC,aI sc.sN],lBd b,.agg [aI op,aS o,aI i,.lst false (ks.map cNd),aI q]] [eTS ts,eSc sc,lBd b,eNd n] := .cons ak (.cons av (.cons wb (.cons wn .nil)));have wH:∀ x:Md,WKs [.agg [.lst false (ts.sS.map wd),.lst false (ts.sA.map j8),lPd ts.sT,lFa ts.sP],eMd x,.agg [aI op,aS o,aI i,.lst false (ks.map cNd),aI q]] [eTS ts,eMd x,eNd n]:=fun x => .cons ak (.zk (yk x) (.cons wn .nil))
 by_cases he:er=0
 case neg =>
  have hR:jt D Lm er=(mdZ,0,er):=if_pos he;rw[hR]at cN;simp[go_sem];refine fR cN wN ?_;refine fR cM wM ?_;refine tK cH (wH m) ?_;simp[go_sem,he];exact .zsc _
 subst he;have ae:=az rfl;have b3:=b0 rfl;cases af:Lm with
 |nil =>
  have hR:jt D [] 0=(mdZ,0,270):=rfl;subst af;rw[hR]at cN;simp[go_sem];refine fR cN wN ?_;refine fR cM wM ?_;refine tK cH (wH m) ?_;by_cases hg:g1=0
  .cases a9 with
   |true =>
    have aa:cntB b m=false:=by
     cases hc:cntB b m with
     |false=>rfl
     |true =>
      exfalso;have:=(ae m).2 ⟨ay hc,by rw[b2]⟩;exact absurd this qH
    have b4:=cC m al;rw[aa]at b4;simp[go_sem,hg];refine fR b4 (ad m) ?_;exact .zsc _
   |false =>
    simp[go_sem,hg];exact .zsc _
  .simp [go_sem,hg]
   exact .zsc _
 |cons m0 l =>
  have hR:jt D (m0 :: l) 0=(y6 D m0 l,D (y6 D m0 l),0):=rfl;obtain⟨p,q2,b5,bs,ch⟩:=VA D l m0;have b6:=fun x J=>qs0 D l m0 x J
  have an:=qsZ D l m0;rw[af]at ae a7 cM br;rw[af,hR]at cN;clear hR af;generalize cb:m0 :: l=T at *
  generalize hk:y6 D m0 l=k at *
  have P:=a7 an;have bt:hV ⟨ts,k⟩ n=(true,0):=Prod.ext ((ae k).1 an).2 (b3 k P);have b7:=bo k P;rw[bt]at b7;have cCk:=cC k (a5 k P).1;rw[bq k P]at cCk;have b8:=cD k P;rw[<-a8]at b8;simp[go_sem];refine fR cN wN ?_;refine fR cM wM ?_;refine tK cH (wH m) ?_;have ao:(g1=0/\a9=true/\cntB b m=true/\D k=0/\k=m)\/(g1=0/\a9=true/\cntB b m=false)\/(g1=0/\a9=false)\/¬g1=0:=by
   by_cases hg:g1=0
   .cases bu:a9 with
    |false=>exact .inr (.inr (.inl ⟨hg,rfl⟩))
    |true =>
     cases hc:cntB b m with
     |false=>exact .inr (.inl ⟨hg,rfl,rfl⟩)
     |true =>
      have b9:=ay hc;have bv:=(ae m).2 ⟨b9,by rw[b2,bu]⟩;have h1:=b6 m bv;rw[a8 m,hz m b9 rfl]at h1;have h2:=(a6 k P).1;rw[<-a8]at h2;have h3:D k=0:=zOm;exact .inl ⟨hg,rfl,rfl,h3,(a6 k P).2.1 (by rw[<-a8];exact h3)⟩
   .exact .inr (.inr (.inr hg))
  have ag:=cC m al;have bb:=cE k m P;rcases ao with ⟨c1,c2,c3,c4,c5⟩|⟨c1,c2,c3⟩|⟨c1,c2⟩|c1
  rw[c3]at ag;rw[decide_eq_true c5]at bb;simp[go_sem,c1,c2];refine tK ag (ad m) ?_;simp[go_sem,c4];refine tK bb (wm _ _) ?_;simp[go_sem,c4]
  rotate_left
  rw[c3]at ag;simp[go_sem,c1,c2];refine fR ag (ad m) ?_
  rotate_left
  simp[go_sem,c1,c2]
  rotate_left
  simp[go_sem,c1]
  all_goals
   refine fR b7 (wH k) ?_;refine fR cCk (ad k) ?_;refine tK b8 (wm _ _) ?_
   first|simp[go_sem,c4] | simp[go_sem]
   refine aK T.length (fun j U=>U.tm 3=aB true/\U.tm 5 = .ptr 0 0/\U.tm 7 = .ptr 1 0/\U.tm 8=aI (D k)/\U.tm 10=lMd T/\U.tm 16=aB (decide (k∈T.take j))/\U.tm 17=aI j/\U.mu[0]?=some (.arr (cMd m))/\U.mu[1]?=some (.arr (cMd k))) ?_ ?_
   .exact ⟨zSi,zSi,zSi,by first | (simp[go_sem];done)|simp[go_sem,c4],zSi,zSi,zSi,zSi,zSi⟩
   rintro j U hj ⟨e3,e5,e7,e8,a0,a3,a1,ah,ai⟩;by_cases I:j<T.length
   .have w1:=zWk j
    have bc:=a7 (qp I);have be:=cD _ bc;have bw:=cE T[j] k bc;rw[<-a8]at be;have aq:=b6 _ (qp I);have R:decide (k∈T.take (j+1))=(decide (k∈T.take j)||decide (T[j]=k)):=by
     rw[yc I,Bool.eq_iff_iff,wU,decide_eq_true_iff,decide_eq_true_iff,decide_eq_true_iff,qJ,qT];exact⟨fun h=>h.imp id Eq.symm,fun h=>h.imp id Eq.symm⟩
    have a2:D T[j]=D k->decide (k∈T.take (j+1))=true:=fun h=>by
     refine decide_eq_true ?_;by_cases bg:j<p.length
     .exfalso
      have e:T[j]=p[j]:=by simp only[b5,List.getElem_append_left bg]
      have:=bs p[j] (qp bg);rw[<-e]at this;omega
     .rw [b5,List.take_append]
      refine qJ.2 (.inr ?_);rw[show j+1-p.length=(j-p.length)+1 by omega,List.take_succ_cons];simp
    generalize cj:D T[j]=c at *
    simp[go_sem,a0,a1,I];refine cL zKr ?_;simp[go_sem,e5,a0,a1,I,ah];refine fR be (wm _ _) ?_;refine cL zKr ?_;cases ar:decide (k∈T.take j) with
    |true =>
     rw[ar]at a3 R;have n1:¬c<D k:=zOm;by_cases au:c=D k
     all_goals
      simp[go_sem,e8,a3,a1,I,au,n1,w1]
      try refine⟨I,aA ?_⟩
      try refine aA ?_
      exact⟨zS1 e3,zS1 e5,zS1 e7,zS1 e8,zS1 a0,by rw[R];simp[go_sem],zSi,zVs ah,zVs ai⟩
    |false =>
     rw[ar,Bool.false_or]at R;rw[ar]at a3;rw[R]at a2;simp[go_sem,e7,a0,a3,a1,I,ai];refine tK bw (wm _ _) ?_;have n1:¬c<D k:=zOm;cases bh:decide (T[j]=k) with
     |true =>
      rw[bh]at R;by_cases au:c=D k
      all_goals
       simp[go_sem,e8,a1,I,au,n1,w1]
       try refine⟨I,aA ?_⟩
       try refine aA ?_
       exact⟨zS1 e3,zS1 e5,zS1 e7,zS1 e8,zS1 a0,by rw[R];simp[go_sem],zSi,zVs ah,zVs ai⟩
     |false =>
      rw[bh]at R a2;have n2:¬c=D k:=fun e=>by have:=a2 e;cases this
      simp[go_sem,e8,a1,I,n1,n2,w1]
      try refine⟨I,aA ?_⟩
      try refine aA ?_
      exact⟨zS1 e3,zS1 e5,zS1 e7,zS1 e8,zS1 a0,by rw[R];simp[go_sem],zSi,zVs ah,zVs ai⟩
   have aq:j=T.length:=zOm;rw[aq,qO,decide_eq_true an]at a3;simp[go_sem,e3,a0,a3,a1,aq];exact .zsc _
end
end W47
namespace DL
open Go.EvW Go.RowKit Go.ChangeShapes Go.WideShapes
theorem own:ownKnob qb.godebug=none:=by kernel_rfl
theorem laid:laidOutB qb=true:=by kernel_rfl
abbrev tabL : List (String × DataW Unit) := [("math/bits.deBruijn32tab", Rows.laid_math_bits_deBruijn32tab), ("math/bits.deBruijn64tab", Rows.laid_math_bits_deBruijn64tab), ("internal/strconv.uint64pow10", Rows.laid_internal_strconv_uint64pow10)]
def pows:List Int:=[1,10,100,1000,10000,100000,1000000,10000000,100000000,1000000000,10000000000,100000000000,1000000000000,10000000000000,100000000000000,1000000000000000,10000000000000000,100000000000000000,1000000000000000000,10000000000000000000]
theorem gPow : qb.globalNamed "internal/strconv.uint64pow10" = some 0 := by kernel_rfl
theorem tPow:(qb.globals[0]?).map (·.type)=some 360:=by kernel_rfl
theorem uPow:qb.underlying 360=some (.array 20 330):=by kernel_rfl
theorem uU64:qb.underlying 330=some (.int .u64):=by kernel_rfl
theorem qtR{W}(h:laidMetH qb tabL W):ZB (·<W.heap.size) W.heap:=by
  rw[MakeChecks.laidMetH_plain _ _ _ zKr]at h;obtain⟨ps,I,_⟩:=h
  obtain ⟨g, t, l, o, p, J, P, R, T⟩ := qcP I ("internal/strconv.uint64pow10", Rows.laid_internal_strconv_uint64pow10) zSp
  obtain rfl:=Option.some.inj (gPow.symm.trans J);obtain rfl:=Option.some.inj (tPow.symm.trans P);have U:l.toList=pows.map fun i => .int .u64 i:=qpC uPow uU64 zKr zKr (ns:=pows) T
  obtain⟨e,fr,C⟩:=qpD gPow R;intro x j;have j:x∈[(0,pows.map fun i=>Value.int .u64 i)]:=j;rw[qT]at j;subst j;refine⟨(Array.getElem?_eq_some_iff.1 C).1,e,fr,?_⟩;show W.heap[0]?=_;rw[C];have:l=(pows.map fun i=>Value.int .u64 i).toArray:=by rw[<-U]
  rw[this]
theorem qtS(os args):laidMetH qb tabL ((World.doorLaid qb 4000 os).forCall (fun _ _=>0) ⟨#[],args,[]⟩).memory:=
 laidMetH_of_parts3 (fuel:=8) (laidMet_of_run' 8 zKr zKr) zKr zKr
end DL
namespace DM
open Go.EvW E3 DT
instance:Inhabited Rl:=⟨⟨0,[]⟩⟩
instance:Inhabited Sc:=⟨⟨[],0⟩⟩
instance:Inhabited Md:=⟨⟨default,[],0⟩⟩
theorem shRel(N):ShU qb N 96 cRel (fun _=>True):=
 ((ShU.struct (fs:=[(3,0),(28,1)]) zKr (.cons' (o':=1) zKr (Z5 N) (.cons' (o':=2) zKr (K7 N) (.nil 2))) zKr).map
  (fun x=>(⟨x.1,x.2.1⟩:Rl)) (fun _=>rfl) (fun x h=>trivial)).le zOm
theorem qtT(N):ShU qb N 30 (fun s:Sc=>[lI s.sC,aI s.sN]) (fun _=>True):=
 ((ShU.struct (fs:=[(28,0),(3,1)]) zKr (.cons' (o':=1) zKr (K7 N) (.cons' (o':=2) zKr (Z5 N) (.nil 2))) zKr).map
  (fun x=>(⟨x.1,x.2.1⟩:Sc)) (fun _=>rfl) (fun x h=>trivial)).le zOm
end DM
namespace DN
open Go.EvW P1 Y1 EO DT GS W41
theorem qtU:qb.underlying 58=some (.slice 4):=by kernel_rfl
theorem unBB:qb.underlying 36=some (.slice 58):=by kernel_rfl
theorem unU8s:qb.underlying 115=some (.slice 5):=by kernel_rfl
theorem unRaw:qb.underlying 32=some (.slice 115):=by kernel_rfl
theorem qtV(N):ShU qb N 58 (fun l:List Bool=>[lB l]) (fun _=>True):=
 ((ShU.slice qtU (K6 N) (fun _ _=>zKr) (Nat.lt_of_lt_of_eq Nat.zero_lt_one zKr) zKr).le zOm).map (fun l=>l) (fun _=>rfl) fun _ _=>trivial
theorem shBB(N):ShU qb N 36 (fun l:List (List Bool)=>[lBB l]) (fun _=>True):=
 ((ShU.slice unBB (qtV N) (fun _ _=>zKr) (Nat.lt_of_lt_of_eq Nat.zero_lt_one zKr) zKr).le zOm).map (fun l=>l) (fun _=>rfl) fun _ _=>trivial
abbrev Wv:=TS×Sc×List (List Int)×Nd×List (List Bool)×Int
abbrev cCs(x:Wv):List AV:=uu x.1 x.2.1 x.2.2.1 x.2.2.2.1 x.2.2.2.2.1 x.2.2.2.2.2
end DN
namespace DO
open Go.EvW DT DM DN W41
def qfT(l:List Int):Prop:=∀ x,x∈l->0<=x/\x<=255
def qfU(r:List (List Int)):Prop:=∀ l,l∈r->qfT l
theorem shU8r(N):ShU qb N 115 (fun l:List Int=>[.lst false (l.map fun x=>[u8 x])]) qfT:=
 ((ShU.slice unU8s (shU8 N) (fun _ _=>zKr) (Nat.lt_of_lt_of_eq Nat.zero_lt_one zKr) zKr).le zOm).map (fun l=>l) (fun _=>rfl) fun _ h=>h.2
theorem qtW(N):ShU qb N 32 (fun l:List (List Int)=>[lRaw l]) qfU:=
 ((ShU.slice unRaw (shU8r N) (fun _ _=>zKr) (Nat.lt_of_lt_of_eq Nat.zero_lt_one zKr) zKr).le zOm).map (fun l=>l) (fun _=>rfl) fun _ h=>h.2
def okCs(x:Wv):Prop:=okTA x.1/\qfU x.2.2.1/\(0<=x.2.2.2.2.2/\x.2.2.2.2.2<=255)
theorem qtX(N):ShU qb N 38 cCs okCs:=
 ((ShU.struct (fs:=[(27,0),(30,4),(32,6),(35,7),(36,12),(5,13)]) zKr
  (.cons' (o':=4) zKr (qpS N) (.cons' (o':=6) zKr (qtT N) (.cons' (o':=7) zKr (qtW N) (.cons' (o':=12) zKr (U6 N) (.cons' (o':=13) zKr (shBB N) (.cons' (o':=14) zKr (shU8 N) (.nil 14))))))) zKr).map
  (fun x=>((x.1,x.2.1,x.2.2.1,x.2.2.2.1,x.2.2.2.2.1,x.2.2.2.2.2.1):Wv)) (fun x=>by simp[cCs,uu]) (fun x h=>⟨h.1,h.2.2.1,h.2.2.2.2.2.1⟩)).le zOm
theorem qtY:Vm qb 38 (fun x => .agg (cCs x)) okCs:=Vm.struct zKr qtX
end DO
end Go.Proofs.YtipbakanneogpaaGreatDoor
