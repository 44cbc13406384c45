/-
  Own library, part 9: an abstract reading of values and a calculus over it; contracts of functions; plain lemmas.
-/
import Derived.Test.YtipbakanneogpaaGreatDoorRows
import Derived.LaidMore
import Derived.MakeChecks
import Derived.WalkKit
import Derived.JoinedCond
import Derived.Test.YtipbakanneogpaaGreatDoorMh
set_option linter.unusedVariables false
set_option linter.unusedSimpArgs false
set_option maxRecDepth 100000
open Go renaming World->qd,Value->qf
open Go.Proofs.Tryz renaming prog->qe
open List renaming getElem?_eq_some_iff->qk,mem_map->qn,getElem_mem->qs,range->qu,mem_cons->qy,getElem?_eq_getElem->qA,not_mem_nil->qG,getElem?_set_self->qL,mem_append->qM,take_length->qO,mem_cons_of_mem->q8,length_append->zd,map_append->ze,mem_cons_self->zg,getElem?_map->zn,drop_eq_getElem_cons->zu,append_assoc->zB,length_cons->zG,getElem?_append_right->zM,append_nil->zO,getD_eq_getElem?_getD->zS,length_map->zT,map_cons->z7,cons_append->yP,mem_of_mem_take->jI,nil_append->vw,getElem_of_mem->Qb,mem_iff_getElem->Zi,getElem_map->VS
open Go.IntKind renaming i64->qq
open Bool renaming and_eq_true->qH
open List.cons renaming injEq->ZN
open Int renaming natCast_add->pM
namespace Go.Proofs.YtipbakanneogpaaGreatDoor
open Go Go.Ev Go.Proofs Tryz
namespace IC
open Y9 P1 E1 E3 F2 FD GF GS GU GV GW GX GY HA
section
variable {L:List Md}{g:Md->Bool×Int}
theorem qtJ(n)(k:Nat)(g:k<=3):powI n k=n ^ k:=by
 unfold powI powN;congr 1;omega
theorem qtK{ts m}(h:okTS ts)(V:MdV ts m):OkMa ⟨ts,m⟩ m.sK.length:=by
 have F:=V.f;have j:=F.g;have l:=pA V.z;have hp:=F.p;refine { len:=rfl,nx:=?_,n0:=by show 0<=sumI m.sc.sC;omega,n12:=l,st:=?_,at0:=?_,gsc:=j,pos:=fun a o=>(j.2 a o).1,al:=F.ns.symm,loop:=V.l0,N1:=zW2 V.ns F.s4,ts:=h }
 .intro t J
  have:=V.l1;have:=V.l0;show (if t+1<m.sK.length then t+1 else m.loop.toNat)<m.sK.length
  grind
 .intro s P
  have hd:m.sK.getD s []=m.sK[s]:=by rw[zS,qA P];rfl
  show (m.sK.getD s []).length=ts.sA.length/\∀ r,r∈m.sK.getD s []->GR (sumI m.sc.sC) r;rw[hd];have R:=qs P;have hl:=V.len _ R;refine⟨hl,fun r hr=>?_⟩;obtain⟨i,C,rfl⟩:=Qb hr;obtain⟨a1,a2,a3⟩:=V.ar _ R i C zOm;have f1:=F.f1 _ (qs (show i<ts.sA.length by omega));refine⟨zOm,zOm,fun t J=>?_,a2⟩;have:=qcD _ _ t (a3 t J)
  grind [qtJ,sumI,Int.pow_nonneg]
 .intro i C
  have I:i<m.sc.sC.length:=by rw[<-F.ns];exact C
  exact qn7 m.sc.sC i (fun a o=>(j.2 a o).1) I
theorem pC(g):∀ L acc,(∀ m,m∈L->(g m).2=0)->modG g acc L=(acc++L.filter fun m=>(g m).1,0)
 | [],acc,_=>by simp[modG]
 |m :: L,acc,h=>by
  rw[modG,if_neg (by grind),pC g L _ fun x i=>h x (zP1 i)]
  grind
theorem qfV(i):∀ L acc,(modG i acc L).2=0->∀ m,m∈L->(i m).2=0
 | [],acc,_,m,g=>absurd g qG
 |x :: L,acc,h,m,g=>by
  rw[modG]at h;by_cases j:(i x).2=0
  .rw [if_neg (zUs j)]at h
   rcases qy.1 g with rfl|g
   .exact j
   .exact qfV i L _ h m g
  grind
theorem qfW(g):∀ L acc,(modG g acc L).2≠0->(modG g acc L).1=[]/\∃ m,m∈L/\(g m).2=(modG g acc L).2
 | [],acc,h=>absurd rfl h
 |x :: L,acc,h=>by
  rw[modG]at h⊢;by_cases i:(g x).2=0
  .simp_all [if_neg,qfW]
  grind
theorem qfX(h:(modV g L 0).2=0):(∀ m,m∈L->(g m).2=0)/\(modV g L 0).1=L.filter fun m=>(g m).1:=by
 grind [modV,modG,qfV,pC]
theorem qtL(h:∀ m,m∈L->(g m).2=0):modV g L 0=(L.filter fun m=>(g m).1,0):=by
 grind [modV,modG,pC]
theorem qtM(h:(modV g L 0).2≠0):(modV g L 0).1=[]/\∃ m,m∈L/\(g m).2=(modV g L 0).2:=by
 grind [modV,modG,qfW]
theorem qtN(g L):(modV g L 0).1.Sublist L:=by
 by_cases h:(modV g L 0).2=0
 .rw [(qfX h).2];exact List.filter_sublist
 .rw [(qtM h).1];exact List.nil_sublist _
structure Betw (sc:Sc) (vs:List Bool) (bs:List Bd) (N:Nat) (m:Md):Prop where
 sc:m.sc=sc
 lp:∃ k:Nat,k<N/\m.loop=k
 ns:m.sK.length=N
 len:∀ s,s∈m.sK->s.length=bs.length
 rel:∀(k f:Nat)(hk:k<m.sK.length)(hf:f<bs.length)(h2:f<m.sK[k].length),m.sK[k][f].ar=bs[f].lo.ar/\sorted m.sK[k][f].ts/\(∀ t,t∈bs[f].lo.ts->t∈m.sK[k][f].ts)/\∀ t,t∈m.sK[k][f].ts->t∈bs[f].up.ts
 fix:∀(k f:Nat)(hk:k<m.sK.length)(h0:0<m.sK.length)(h2:f<m.sK[k].length)(h3:f<m.sK[0].length),vs.getD f true=false->m.sK[k][f]=m.sK[0][f]
theorem qtO{ts sc g}(B:BndV ts sc g){N}(T:1<=N){m}(h:m∈Zc sc (vsT ts) g (chs (vsT ts) (qP g 0) N) N):Betw sc (vsT ts) g N m:=by
 obtain⟨k,c,p,r,rfl⟩:=Wc.1 h;have t:(jQ sc (vsT ts) g c N k).sK.length=N:=by simp[jQ]
 have i:∀ s,s∈(jQ sc (vsT ts) g c N k).sK->∃ j,s=vq (vsT ts) g c j:=fun s l=>by
  obtain⟨j,_,rfl⟩:=qn.1 l;exact⟨j,rfl⟩
 refine⟨rfl,⟨k,p,rfl⟩,t,fun s l=>?_,fun j f C hf o=>?_,fun j f C U o h3 hv=>?_⟩
 .obtain ⟨j,rfl⟩:=i s l
  rw[Ji]
 .simp only[jQ,VS,List.getElem_range]at o⊢
  obtain⟨I,J,P,R⟩:=qfT B r j f hf o;exact⟨I,J,P,R⟩
 simp_all[jQ,vsT,vq,Ji,VS,List.getElem_range,Vp]
end
end IC
namespace HE
open P1 E1 G5 GP GW
def wtR(rw:List Int)(k:Nat):Int:=if k<rw.length then rw.getD k 0 % 4 else 1
def selW(p:Int->Bool)(rw:List Int):List Int->Nat->List Int
 | [],_=>[]
 |t :: R,k=>(if p (wtR rw k)=true then [t] else [])++selW p rw R (k+1)
theorem qfY(p rw):∀ ts g k,selW p rw (ts++g) k=selW p rw ts k++selW p rw g (k+ts.length)
 | [],g,k=>by simp[selW]
 |t :: ts,g,k=>by
  rw[yP,selW,selW,qfY p rw ts g (k+1),zB,zG,show k+1+ts.length=k+(ts.length+1) by omega]
theorem qfZ(p rw)(ts:List Int)(k h):selW p rw (ts.take (k+1)) 0=selW p rw (ts.take k) 0++(if p (wtR rw k)=true then [ts[k]] else []):=by
 grind [List.take_succ_eq_append_getElem,qfY,selW]
theorem wY(p rw):∀ ts k,(selW p rw ts k).Sublist ts
 | [],k=>List.Sublist.refl _
 |t :: ts,k=>by
  rw[selW];split
  .exact (wY p rw ts (k+1)).cons_cons t
  .exact (wY p rw ts (k+1)).cons t
theorem qf0{p q}(h:∀ x,p x=true->q x=true)(rw):∀ ts k t,t∈selW p rw ts k->t∈selW q rw ts k
 | [],k,t,g=>g
 |a :: ts,k,t,g=>by
  rw[selW,qM]at g⊢;rcases g with g|g
  .grind
  .exact .inr (qf0 h rw ts (k+1) t g)
def WO(rw:List Int)(b:Bd):Bd:=⟨⟨b.up.ar,selW (fun x=>decide (1<x)) rw b.up.ts 0⟩,⟨b.up.ar,selW (fun x=>decide (0<x)) rw b.up.ts 0⟩⟩
def yg(ts:TS)(sc:Sc)(raw:List (List Int)):List Bd:=(defB ts sc).mapIdx fun i b=>WO (raw.getD i []) b
theorem Zh(ts sc raw):(yg ts sc raw).length=ts.sA.length:=by simp[yg,defB]
theorem WP(ts sc raw i h)(g:i<ts.sA.length):(yg ts sc raw)[i]=WO (raw.getD i []) ⟨⟨ts.sA[i].sS.length,[]⟩,⟨ts.sA[i].sS.length,yN sc ts.sA[i].sS⟩⟩:=by
 simp[yg,defB]
theorem pD(ts sc raw)(hf:∀ f,f∈ts.sA->sorted (yN sc f.sS)):BndV ts sc (yg ts sc raw):=by
 have key:∀ b,b∈yg ts sc raw->∃(i:Nat) (g:i<ts.sA.length),b=WO (raw.getD i []) ⟨⟨ts.sA[i].sS.length,[]⟩,⟨ts.sA[i].sS.length,yN sc ts.sA[i].sS⟩⟩:=fun b j=>by
  obtain⟨i,p,rfl⟩:=Zi.1 j
  grind [Zh,WP]
 refine⟨Zh ..,fun i h g=>?_,fun b j=>?_,fun b j t l=>?_,fun i h g t l=>?_⟩
 .rw [WP _ _ _ _ h g];exact⟨rfl,rfl⟩
 .obtain ⟨i,g,rfl⟩:=key b j
  have:=hf _ (qs g);exact⟨this.sublist (wY ..),this.sublist (wY ..)⟩
 .obtain ⟨i,g,rfl⟩:=key b j
  exact qf0 (fun x o=>by have:=of_decide_eq_true o;grind) _ _ _ t l
 .rw [WP _ _ _ _ h g]at l
  exact(wY ..).subset l
end HE
namespace HF1
open GB
theorem qtP{a b:Ed}:a=b↔a.kind=b.kind/\a.state=b.state/\a.field=b.field/\a.tup=b.tup:=by
 cases a;cases b;simp
instance:DecidableEq Ed:=fun a b=>decidable_of_iff _ qtP.symm
end HF1
namespace HG
end HG
namespace HH
end HH
namespace HI
end HI
namespace ID
end ID
namespace IE
open E3 GV
theorem WQ(g):∀ l m,∃ p q,m :: l=p++yw g m l :: q/\(∀ x,x∈p->g (yw g m l)<g x)/\∀ x,x∈q->g (yw g m l)<=g x
 | [],m=>⟨[],[],rfl,fun x j=>absurd j qG,fun x j=>absurd j qG⟩
 |x :: l,m=>by
  rw[yw];by_cases h:g x<g m
  .rw [if_pos h]
   obtain⟨p,q,e,r,o⟩:=WQ g l x;refine⟨m :: p,q,by rw[e];rfl,fun y i=>?_,o⟩;rcases qy.1 i with rfl|i
   .have:g (yw g x l)<=g x:=by
     have j:x∈p++yw g x l :: q:=by rw[<-e];simp
     rcases qM.1 j with j|j
     .grind
     .rcases qy.1 j with j|j
      .rw [<-j];omega
      grind
    omega
   grind
  .rw [if_neg h]
   obtain⟨p,q,e,r,o⟩:=WQ g l m;cases p with
   |nil =>
    simp only[vw,ZN]at e;obtain⟨t,C⟩:=e;refine⟨[],x :: q,by grind,fun y i=>absurd i qG,fun y i=>?_⟩;rcases qy.1 i with rfl|i
    .grind
    grind
   |cons a p =>
    simp only[yP,ZN]at e;obtain⟨t,C⟩:=e;subst t;refine⟨m :: x :: p,q,by grind,fun y i=>?_,o⟩;have I:=r m zSp;rcases qy.1 i with rfl|i
    .exact I
    .rcases qy.1 i with rfl|i
     .omega
     grind
theorem qf1(g l m):yw g m l∈m :: l:=by
 obtain⟨p,q,e,_,_⟩:=WQ g l m;rw[e];simp
theorem qtQ(g:Md->Int)(l m x)(i:x∈m :: l):g (yw g m l)<=g x:=by
 obtain⟨p,q,e,j,o⟩:=WQ g l m;rw[e]at i;rcases qM.1 i with i|i
 .grind
 .rcases qy.1 i with i|i
  .rw [i];omega
  grind
def szT(s:List Rl):Int:=(s.map fun r=>(r.ts.length:Int)).foldr (·+·) 0
def szS(S:List (List Rl)):Int:=(S.map szT).foldr (·+·) 0
end IE
namespace IK
open GH Y1 P1 Q4 E1 E3 GD G5 GF GQ GR GS GU GV GW GX GY HA IA IB IC YF Y16
structure Cx (ts:TS) (sc:Sc) (b:List Bd) (N:Nat):Prop where
 S:SpD ts
 hk:yZ ts=[]
 F:Fit9 ts sc
 z:y5 sc=true
 h5:sumI sc.sC<=5
 B:BndV ts sc b
 hS:sc.sN=N
 c9:(chs (vsT ts) (qP b 0) N).length<=9
theorem qf2{ts sc}(F:Fit9 ts sc)(g:sumI sc.sC<=5){f}(hf:f∈ts.sA):(yN sc f.sS).length<=1000/\sorted (yN sc f.sS):=by
 obtain⟨a,b,_⟩:=KS F g _ (List.mem_map_of_mem (f:=fun f:Fld=>(⟨⟨f.sS.length,[]⟩,⟨f.sS.length,yN sc f.sS⟩⟩:Bd)) hf);exact⟨a,b⟩
theorem pE(M):∀ l k,(∀ x,x∈l->x.up.ts.length<=M)->(qP l k).length<=l.length*M
 | [],k,_=>by simp[qP]
 |x :: l,k,h=>by
  have i:=h x zSp;have j:(jo k x).length<=x.up.ts.length:=by rw[jo,zT];exact List.length_filter_le _ _
  have o:=pE M l (k+1) fun y g=>h y (zP1 g)
  simp only[qP,zd,zG,Nat.add_mul,Nat.one_mul];omega
namespace Cx
variable {ts:TS} {sc:Sc} {b:List Bd} {N:Nat}
theorem N1(X:Cx ts sc b N):1<=N:=by have:=X.F.s1;have:=X.hS;omega
theorem N4(X:Cx ts sc b N):N<=4:=by have:=X.F.s4;have:=X.hS;omega
theorem bl(X:Cx ts sc b N):b.length<=6:=by rw[X.B.len];exact X.F.nf
theorem bts(X:Cx ts sc b N):∀ x,x∈b->x.up.ts.length<=1000/\x.lo.ts.length<=1000/\sorted x.up.ts/\sorted x.lo.ts:=fun x g=>by
 obtain⟨i,j,rfl⟩:=Qb g;have l:i<ts.sA.length:=by rw[<-X.B.len];exact j
 obtain⟨s1,o⟩:=X.B.so _ g;have h:=qf2 X.F X.h5 (qs l);have p:=Jk o (X.B.full i j l);have r:=Jk s1 (X.B.sub _ g);exact⟨zOm,zOm,o,s1⟩
theorem okf(X:Cx ts sc b N):∀ x,x∈b->ZA x:=fun x g=>by
 obtain⟨j,l,o,i⟩:=X.bts x g;exact⟨zOm,zOm,i.imp fun h=>zOm⟩
theorem fl(X:Cx ts sc b N):(qP b 0).length<=100000:=by
 have:=pE 1000 b 0 fun x g=>(X.bts x g).1
 have:=X.bl;omega
end Cx
abbrev LL(ts:TS)(sc:Sc)(b:List Bd)(N:Nat):List Md:=Zc sc (vsT ts) b (chs (vsT ts) (qP b 0) N) N
namespace Cx
variable {ts:TS} {sc:Sc} {b:List Bd} {N:Nat}
theorem len(X:Cx ts sc b N):(LL ts sc b N).length<=10000:=by
 rw[qoI];have g:2 ^ (chs (vsT ts) (qP b 0) N).length<=2 ^ 9:=Nat.pow_le_pow_right zOm X.c9;have:=Nat.mul_le_mul X.N4 g;omega
theorem inst(X:Cx ts sc b N):qi qe 33 [eTS ts,eSc sc,lBd b] (.tup [lMd (LL ts sc b N),aI 0]):=by
 have g:2 ^ (chs (vsT ts) (qP b 0) N).length<=2 ^ 9:=Nat.pow_le_pow_right zOm X.c9;have j:=Nat.mul_le_mul X.N4 g;exact qoK ts sc b N X.hS X.N4 (zW1 X.bl) X.okf (fun x i=>⟨zW1 ((X.bts x i).2.1)⟩) (by rw[X.B.len];omega) X.fl (zW1 X.c9) zOm (qcB ts sc X.F X.z) (qoS ts sc b X.F (pA X.z) X.B)
theorem mdv(X:Cx ts sc b N){m}(h:m∈LL ts sc b N):MdV ts m:=by
 obtain⟨k,c,g,i,rfl⟩:=Wc.1 h;exact qfU X.F X.z X.B X.hS g i
theorem sms(X:Cx ts sc b N){m}(h:Betw sc (vsT ts) b N m):SmS m.sK:=by
 have t:=X.N4;have l:=h.ns;have C:=X.bl;refine⟨zOm,fun s g=>by rw[h.len s g];omega,fun s g r o=>?_⟩;obtain⟨k,i,rfl⟩:=Qb g;obtain⟨f,hf,rfl⟩:=Qb o;have I:=h.len _ (qs i);obtain⟨J,j,P,p⟩:=h.rel k f i zOm hf;have:=Jk j p;have:=(X.bts _ (qs (show f<b.length by omega))).1;exact⟨zOm,j⟩
theorem betw(X:Cx ts sc b N){m}(h:m∈LL ts sc b N):Betw sc (vsT ts) b N m:=qtO X.B X.N1 h
theorem holds(X:Cx ts sc b N){m}(h:m∈LL ts sc b N){n}(g:qT n=true):qi qe 10 [eTS ts,eMd m,eNd n] (.tup [aB (hV ⟨ts,m⟩ n).1,aI (hV ⟨ts,m⟩ n).2]):=
 qs9 X.S X.hk (qtK X.S.h (X.mdv h)) (by rw[(X.betw h).ns];exact X.N1) g
end Cx
def MV(ts:TS)(sc:Sc)(b:List Bd)(N:Nat)(n:Nd):List Md×Int:=modV (fun m=>hV ⟨ts,m⟩ n) (LL ts sc b N) 0
namespace Cx
variable {ts:TS} {sc:Sc} {b:List Bd} {N:Nat}
theorem models(X:Cx ts sc b N){n}(g:qT n=true):qi qe 9 [eTS ts,eSc sc,lBd b,eNd n] (.tup [lMd (MV ts sc b N n).1,aI (MV ts sc b N n).2]):=
 qoO ts sc b n (LL ts sc b N) 0 _ (zW1 X.len) X.inst fun m i=>X.holds i g
theorem ZK{n}:(MV ts sc b N n).1.Sublist (LL ts sc b N):=qtN _ _
end Cx
end IK
namespace IL
open Y1 P1 GP GS GZ IA IC IK
variable {ts:TS} {sc:Sc} {b:List Bd} {N:Nat}
theorem mv_ok{n}(h:(MV ts sc b N n).2=0):(∀ m,m∈LL ts sc b N->(hV ⟨ts,m⟩ n).2=0)/\(MV ts sc b N n).1=(LL ts sc b N).filter fun m=>(hV ⟨ts,m⟩ n).1:=qfX h
theorem mv_of{n}(h:∀ m,m∈LL ts sc b N->(hV ⟨ts,m⟩ n).2=0):MV ts sc b N n=((LL ts sc b N).filter fun m=>(hV ⟨ts,m⟩ n).1,0):=qtL h
theorem qtR(X:Cx ts sc b N)(g lp)(r:0<=lp):anyM sc (vsT ts) b g (lp % sc.sN)∈LL ts sc b N:=by
 have t:=X.N1;have o:0<=lp % sc.sN/\lp % sc.sN<N:=⟨Int.emod_nonneg _ (zW1 X.hS),zW2 (Int.emod_lt_of_pos lp (b:=sc.sN) (zW1 X.hS)) X.hS⟩;obtain⟨k,p⟩:=Int.eq_ofNat_of_zero_le o.1;rw[p];refine qfP sc (vsT ts) b g N k X.hS zOm (fun x j=>?_) (fun x j=>(X.bts x j).2.2.1) X.B.sub;obtain⟨i,l,rfl⟩:=Qb j;obtain⟨C,I⟩:=X.B.lo i l (by rw[<-X.B.len];exact l);omega
end IL
namespace I1
open YF P1 EO EP EQ F4 GF GR GS GU
theorem qtS(l x)(P:l.length<=1000000000):qi qe 99 [lI l,aI x] (aB (decide (x∈l))):=by
 refine qSU call99 func99 rfl ?_;refine qm.up l.length (fun k T=>T.tm 0=lI l/\T.tm 1=aI x/\T.tm 5=aI k/\T.mu=[]/\∀(i:Nat)(h:i<l.length),i<k->l[i]≠x) ?_ ?_
 .simp [go_sem]
 rintro k T R ⟨j,o,p,r,I⟩;by_cases g:k<l.length
 .by_cases t:l[k]=x
  .simp [go_sem,j,o,p,r,g,t]
   rw[decide_eq_true (by grind)];exact .zsc _
  .simp [go_sem,j,o,p,r,g,t]
   refine⟨zWr,fun i h J=>?_⟩;rcases Nat.lt_succ_iff_lt_or_eq.1 J with C|C
   .exact I i h C
   grind
 .simp [go_sem,j,o,p,r,g]
  rw[decide_eq_false (fun h=>by
   grind [Zi])]
  exact .zsc _
def wZ(k:Nat)(x:Bd)(j:Nat):List (Int×Int):=((x.up.ts.take j).filter fun t=>!decide (t∈x.lo.ts)).map fun t=>((k:Int),t)
theorem qtT(k x j h):wZ k x (j+1)=wZ k x j++(if x.up.ts[j]∈x.lo.ts then [] else [((k:Int),x.up.ts[j])]):=by
 unfold wZ;rw[yv h,List.filter_append,ze];by_cases g:x.up.ts[j]∈x.lo.ts<;>simp[g]
theorem qtU(k x j):(wZ k x j).length<=x.up.ts.length:=by
 grind [wZ,zT,Nat.le_trans,List.length_filter_le,List.length_take_le']
theorem qtV(l)(hl:l.length<=1000)(hb:∀ x,x∈l->ZA x):qi qe 54 [lBd l] (lP (qP l 0)):=by
 refine qSU call54 func54 rfl ?_;refine aK l.length (fun k T=>T.tm 0=lBd l/\T.tm 4=aI k/\Own T.mu 2 (T.tm 3) ((qP (l.take k) 0).map rP)) ?_ ?_
 .exact ⟨zSi,zSi,.inl (by simp[go_sem,qP])⟩
 rintro k T hk ⟨p,t,C⟩;by_cases o:k<l.length
 .have w1:=zWk k
  have hx:=hb _ (qs o);have a1:=hx.up;have a2:=hx.lo;have a0:=U7 (l.take k) 0 fun y hy=>hb y (jI hy)
  have a3:(qP (l.take k) 0).length<=1000000000:=by
   grind
  have I:=qbV l k o;have P:wZ k l[k] l[k].up.ts.length=jo k l[k]:=by unfold wZ;rw[qO];rfl
  simp[go_sem,p,t,o];refine aK l[k].up.ts.length (fun j st2=>st2.tm 0=lBd l/\st2.tm 4=aI k/\st2.tm 5=aI j/\Own st2.mu 2 (st2.tm 3) ((qP (l.take k) 0++wZ k l[k] j).map rP)) ?_ ?_
  .simp_all [go_sem,wZ]
  clear p t C;rintro j st2 hj ⟨p,t,U,C⟩;by_cases r:j<l[k].up.ts.length
  .have w2:=zWk j
   have hh:=qtS l[k].lo.ts l[k].up.ts[j] zOm;have hs:=qtT k l[k] j r;have a4:=qtU k l[k] j;simp[go_sem,p,t,U,o,r];refine cJ zKr ?_;simp[go_sem,p,t,U,o,r];refine tS hh (.zk (zh _) (.zs .nil)) ?_;by_cases hm:l[k].up.ts[j]∈l[k].lo.ts
   .simp_all [go_sem,if_pos,zO,aA]
   .rw [if_neg hm]at hs
    simp[go_sem,hm,p,t,U,o,r];refine qz.ownB (e:=120) (sz:=2) (bt:=16) (zv := .agg [aI 0,aI 0]) (xs:=(qP (l.take k) 0++wZ k l[k] j).map rP) (ys:=[rP ((k:Int),l[k].up.ts[j])]) zSi zSi zSi rfl rfl zOm zOm C (by simp[qE]) (Vo _) (Vo [_]) zSo ?_;simp_all[go_sem,aA,zB,ze]
  .have R:j=l[k].up.ts.length:=by omega
   subst R;rw[P,<-I]at C;simp[go_sem,p,t,U,o,w1]
   try refine⟨o,aA ?_⟩
   try refine aA ?_
   exact⟨zS1 p,zSi,zVs C⟩
 .have R:k=l.length:=by omega
  subst R;rw[qO]at C;simp[go_sem,p,t];exact cN C
def jG(N:Nat):List Ch:=if 1<N then (qu N).map fun k:Nat=>((-1:Int),(0:Int),((k+1:Nat):Int)) else []
theorem qtW(N)(h:N<=4):(jG N).length<=4:=by unfold jG;split<;>simp<;>omega
theorem qtX(ts)(sc:Sc)(bs)(N:Nat)(hS:sc.sN=N)(hN:N<=4)(hl:bs.length<=1000)(hb:∀ x,x∈bs->ZA x)(ak:bs.length<=ts.sA.length)(ab:(qP bs 0).length<=100000) :
  qi qe 28 [eTS ts,eSc sc,lBd bs] (lCh (jG N++chs (vsT ts) (qP bs 0) N)):=by
 have a6:=qtV bs hl hb;have a8:=K6 bs 0;generalize hF:qP bs 0=F at *
 have ad:True:=trivial;have a9:=qtW N hN;by_cases h1:1<N
 .refine qSV call28 func28 rfl ?_
  have ag:(1:Int)<N:=zOm;simp[go_sem,hS,h1,ag];refine aK N (fun k T=>T.tm 2=lBd bs/\T.tm 3 = .ip (cTS ts)/\T.tm 4 = .ip [lI sc.sC,aI sc.sN]/\T.tm 8=aI ((k+1:Nat):Int)/\Own T.mu 3 (T.tm 7) (((qu k).map fun k:Nat=>((-1:Int),(0:Int),((k+1:Nat):Int))).map rC)) ?_ ?_
  .exact ⟨zSi,zSi,zS1 hS,zSi,.inl zSi⟩
  rintro k T hk ⟨e2,e3,e4,t,ho⟩;by_cases a4:k<N
  .have w1:qq.wrap ((k:Int)+1+1)=(k:Int)+1+1:=zWr
   have n1:(k:Int)+1<=N:=zOm;have n4:(k:Int)+1<=4:=zOm;simp[go_sem,e4,t,hS,n1,n4];refine qz.ownB (e:=117) (sz:=3) (bt:=24) (zv := .agg [aI 0,aI 0,aI 0]) (xs:=((qu k).map fun k:Nat=>((-1:Int),(0:Int),((k+1:Nat):Int))).map rC) (ys:=[rC ((-1:Int),(0:Int),((k+1:Nat):Int))]) zSi zSi zSi rfl rfl zOm zOm ho (by simp[qE]) (u9 _) (u9 [_]) zSo ?_;intro R U a7 _ _ _;simp[go_sem,t,w1,n1,n4]
   try refine⟨a4,aA ?_⟩
   try refine aA ?_
   refine⟨zS1 e2,zS1 e3,zS2 e4 hS,zSi,?_⟩;rw[List.range_succ,ze,ze];simpa[go_sem] using a7
  .obtain rfl:N=k:=by omega
   have n1:¬(N:Int)+1<=N:=zOm;have HO:Own T.mu 3 (T.tm 7) ((jG N).map rC):=by unfold jG;rw[if_pos h1];exact ho
   simp[go_sem,e2,e4,t,hS,n1];refine fR a6 (.zk (jw _) .nil) ?_;refine aK N (fun k T=>T.tm 3 = .ip (cTS ts)/\T.tm 4 = .ip [lI sc.sC,aI sc.sN]/\T.tm 9=lP F/\T.tm 10=aI k/\Own T.mu 3 (T.tm 7) ((jG N++chs (vsT ts) F k).map rC)) ?_ ?_
   .exact ⟨zS1 e3,zS2 e4 hS,zSi,zSi,by simpa[go_sem,chs] using HO⟩
   rintro k T hk ⟨e3,e4,t,I,ho⟩;by_cases a4:k<N
   .have w1:=zWk k
    have n4:(k:Int)<4:=zOm;have ah:=Wa (vsT ts) F k;have ae:k*F.length<=4*100000:=Nat.mul_le_mul zOm ab;simp[go_sem,e4,t,I,hS,a4,n4,ad];refine aK F.length (fun j st2=>st2.tm 3 = .ip (cTS ts)/\st2.tm 4 = .ip [lI sc.sC,aI sc.sN]/\st2.tm 9=lP F/\st2.tm 10=aI k/\st2.tm 11=aI j/\Own st2.mu 3 (st2.tm 7) ((jG N++chs (vsT ts) F k++chA (vsT ts) k (F.take j)).map rC)) ?_ ?_
    .exact ⟨zS1 e3,zS1 e4,zS1 t,zS1 I,zSi,by simpa[go_sem,chA] using ho⟩
    clear e3 e4 t I ho;rintro j st2 hj ⟨e3,e4,t,I,o,a2⟩;by_cases l:j<F.length
    .have w2:=zWk j
     have hm:=a8 _ (qs l);obtain⟨f,hf⟩:=Int.eq_ofNat_of_zero_le (show 0<=F[j].1 by have:=hm.1;simpa using this);have p:f<ts.sA.length:=by have:=hm.2;rw[hf]at this;simp at this;omega
     have a0:0<=F[j].1:=zOm;have a1:F[j].1.toNat=f:=zOm;have P:F[j].1<ts.sA.length:=zOm;have aa:(vsT ts).getD F[j].1.toNat true=ts.sA[f].var:=by rw[hf,Int.toNat_natCast,zS,zn,qA p];rfl
     have ai:=U9 (vsT ts) k (F.take j);have aj:=List.length_take_le j F;have hs:=K5 (vsT ts) k F j l;rw[aa]at hs;have a3:∀(K:AV->Mu->Prop),(∀ R U,Own U 3 R ((jG N++chs (vsT ts) F k++(chA (vsT ts) k (F.take j)++[((k:Int),F[j].1,F[j].2)])).map rC)->K R U)->qz qe st2.mu #[81,81] (st2.tm 7) (.lst true [[aI k,aI F[j].1,aI F[j].2]]) K:=fun K hK=>by
      refine qz.ownB (e:=117) (sz:=3) (bt:=24) (zv := .agg [aI 0,aI 0,aI 0]) (xs:=(jG N++chs (vsT ts) F k++chA (vsT ts) k (F.take j)).map rC) (ys:=[rC ((k:Int),F[j].1,F[j].2)]) zSi zSi zSi rfl rfl zOm zOm a2 (by simp[qE]) (u9 _) (u9 [_]) (by simp only[zT,zd,List.length_singleton];have:=a9;omega) ?_;intro R U a7 _ _ _;exact hK R U (by rw[<-zB,ze (l₂:=[_])];exact a7)
     by_cases hc:(decide (k=0)||ts.sA[f].var)=true
     .rw [if_pos hc]at hs
      by_cases C:k=0
      .subst C
       simp[go_sem,t,I,o,l];refine cJ zKr ?_;simp[go_sem,t,I,o,l];refine cJ zKr ?_;simp[go_sem,t,I,o,l];refine a3 _ fun R U h1=>?_
       simp[go_sem,o,l,w2]
       try refine⟨l,aA ?_⟩
       try refine aA ?_
       refine⟨zS1 e3,zS1 e4,zS1 t,zS1 I,zSi,?_⟩;rw[hs];simpa[go_sem] using h1
      .have hv:ts.sA[f].var=true:=by simpa[C] using hc
       simp[go_sem,e3,t,I,o,l,C,a0,a1,P,p,hv];refine cJ zKr ?_;simp[go_sem,e3,t,I,o,l,C,a0,a1,P,p,hv];refine cJ zKr ?_;simp[go_sem,e3,t,I,o,l,C,a0,a1,P,p,hv];refine a3 _ fun R U h1=>?_
       simp[go_sem,o,l,w2]
       try refine⟨l,aA ?_⟩
       try refine aA ?_
       refine⟨zS1 e3,zS1 e4,zS1 t,zS1 I,zSi,?_⟩;rw[hs];simpa[go_sem] using h1
     .rw [if_neg hc,zO]at hs
      have C:¬k=0:=fun h=>hc (zP1 h)
      have hv:ts.sA[f].var=false:=by simpa[C] using hc
      simp[go_sem,e3,t,I,o,l,C,a0,a1,P,p,hv,w2];refine cJ zKr ?_;simp[go_sem,e3,t,I,o,l,C,a0,a1,P,p,hv,w2]
      try refine⟨l,aA ?_⟩
      try refine aA ?_
      refine⟨zS1 e3,zS1 e4,zS1 t,zS1 I,zSi,?_⟩;rw[hs];simpa[go_sem] using a2
    .have a5:j=F.length:=by omega
     subst a5;rw[qO]at a2;simp[go_sem,t,I,o,w1]
     try refine⟨a4,aA ?_⟩
     try refine aA ?_
     refine⟨zS1 e3,zS1 e4,zS1 t,zSi,?_⟩;rw[U8,<-zB];simpa[go_sem] using a2
   .have a5:k=N:=by omega
    subst a5;simp[go_sem,e4,I,hS];exact Own.rd ho (u9 _).ok fun r hr c hc=>by
     obtain⟨n,_,rfl⟩:=qn.1 hr;simp at hc;rcases hc with rfl|rfl|rfl<;>exact HF.sc _
 .refine qSV call28 func28 rfl ?_
  have n1:¬(1:Int)<N:=zOm;simp[go_sem,hS,h1,n1];have HO:Own [] 3 (.lst true []) ((jG N).map rC):=by unfold jG;rw[if_neg h1];exact .inl zSp
  refine fR a6 (.zk (jw _) .nil) ?_;refine aK N (fun k T=>T.tm 3 = .ip (cTS ts)/\T.tm 4 = .ip [lI sc.sC,aI sc.sN]/\T.tm 9=lP F/\T.tm 10=aI k/\Own T.mu 3 (T.tm 7) ((jG N++chs (vsT ts) F k).map rC)) ?_ ?_
  .exact ⟨zSi,zS1 hS,zSi,zSi,by simpa[go_sem,chs] using HO⟩
  rintro k T hk ⟨e3,e4,t,I,ho⟩;by_cases a4:k<N
  .have w1:=zWk k
   have n4:(k:Int)<4:=zOm;have ah:=Wa (vsT ts) F k;have ae:k*F.length<=4*100000:=Nat.mul_le_mul zOm ab;simp[go_sem,e4,t,I,hS,a4,n4,ad];refine aK F.length (fun j st2=>st2.tm 3 = .ip (cTS ts)/\st2.tm 4 = .ip [lI sc.sC,aI sc.sN]/\st2.tm 9=lP F/\st2.tm 10=aI k/\st2.tm 11=aI j/\Own st2.mu 3 (st2.tm 7) ((jG N++chs (vsT ts) F k++chA (vsT ts) k (F.take j)).map rC)) ?_ ?_
   .exact ⟨zS1 e3,zS1 e4,zS1 t,zS1 I,zSi,by simpa[go_sem,chA] using ho⟩
   clear e3 e4 t I ho;rintro j st2 hj ⟨e3,e4,t,I,o,a2⟩;by_cases l:j<F.length
   .have w2:=zWk j
    have hm:=a8 _ (qs l);obtain⟨f,hf⟩:=Int.eq_ofNat_of_zero_le (show 0<=F[j].1 by have:=hm.1;simpa using this);have p:f<ts.sA.length:=by have:=hm.2;rw[hf]at this;simp at this;omega
    have a0:0<=F[j].1:=zOm;have a1:F[j].1.toNat=f:=zOm;have P:F[j].1<ts.sA.length:=zOm;have aa:(vsT ts).getD F[j].1.toNat true=ts.sA[f].var:=by rw[hf,Int.toNat_natCast,zS,zn,qA p];rfl
    have ai:=U9 (vsT ts) k (F.take j);have aj:=List.length_take_le j F;have hs:=K5 (vsT ts) k F j l;rw[aa]at hs;have a3:∀(K:AV->Mu->Prop),(∀ R U,Own U 3 R ((jG N++chs (vsT ts) F k++(chA (vsT ts) k (F.take j)++[((k:Int),F[j].1,F[j].2)])).map rC)->K R U)->qz qe st2.mu #[81,81] (st2.tm 7) (.lst true [[aI k,aI F[j].1,aI F[j].2]]) K:=fun K hK=>by
     refine qz.ownB (e:=117) (sz:=3) (bt:=24) (zv := .agg [aI 0,aI 0,aI 0]) (xs:=(jG N++chs (vsT ts) F k++chA (vsT ts) k (F.take j)).map rC) (ys:=[rC ((k:Int),F[j].1,F[j].2)]) zSi zSi zSi rfl rfl zOm zOm a2 (by simp[qE]) (u9 _) (u9 [_]) (by simp only[zT,zd,List.length_singleton];have:=a9;omega) ?_;intro R U a7 _ _ _;exact hK R U (by rw[<-zB,ze (l₂:=[_])];exact a7)
    by_cases hc:(decide (k=0)||ts.sA[f].var)=true
    .rw [if_pos hc]at hs
     by_cases C:k=0
     .subst C
      simp[go_sem,t,I,o,l];refine cJ zKr ?_;simp[go_sem,t,I,o,l];refine cJ zKr ?_;simp[go_sem,t,I,o,l];refine a3 _ fun R U h1=>?_
      simp[go_sem,o,l,w2]
      try refine⟨l,aA ?_⟩
      try refine aA ?_
      refine⟨zS1 e3,zS1 e4,zS1 t,zS1 I,zSi,?_⟩;rw[hs];simpa[go_sem] using h1
     .have hv:ts.sA[f].var=true:=by simpa[C] using hc
      simp[go_sem,e3,t,I,o,l,C,a0,a1,P,p,hv];refine cJ zKr ?_;simp[go_sem,e3,t,I,o,l,C,a0,a1,P,p,hv];refine cJ zKr ?_;simp[go_sem,e3,t,I,o,l,C,a0,a1,P,p,hv];refine a3 _ fun R U h1=>?_
      simp[go_sem,o,l,w2]
      try refine⟨l,aA ?_⟩
      try refine aA ?_
      refine⟨zS1 e3,zS1 e4,zS1 t,zS1 I,zSi,?_⟩;rw[hs];simpa[go_sem] using h1
    .rw [if_neg hc,zO]at hs
     have C:¬k=0:=fun h=>hc (zP1 h)
     have hv:ts.sA[f].var=false:=by simpa[C] using hc
     simp[go_sem,e3,t,I,o,l,C,a0,a1,P,p,hv,w2];refine cJ zKr ?_;simp[go_sem,e3,t,I,o,l,C,a0,a1,P,p,hv,w2]
     try refine⟨l,aA ?_⟩
     try refine aA ?_
     refine⟨zS1 e3,zS1 e4,zS1 t,zS1 I,zSi,?_⟩;rw[hs];simpa[go_sem] using a2
   .have a5:j=F.length:=by omega
    subst a5;rw[qO]at a2;simp[go_sem,t,I,o,w1]
    try refine⟨a4,aA ?_⟩
    try refine aA ?_
    refine⟨zS1 e3,zS1 e4,zS1 t,zSi,?_⟩;rw[U8,<-zB];simpa[go_sem] using a2
  .have a5:k=N:=by omega
   subst a5;simp[go_sem,e4,I,hS];exact Own.rd ho (u9 _).ok fun r hr c hc=>by
    obtain⟨n,_,rfl⟩:=qn.1 hr;simp at hc;rcases hc with rfl|rfl|rfl<;>exact HF.sc _
end I1
namespace W41
open Y1 YF P1 E3 GD GN GS
abbrev u8(x:Int):AV := .sc (.int .u8 x)
abbrev lRaw(r:List (List Int)):AV := .lst false (r.map fun l=>[.lst false (l.map fun x=>[u8 x])])
abbrev vL(ts:TS)(sc:Sc)(raw:List (List Int))(n:Nd)(g:List (List Bool))(lp:Int):List AV:=cTS ts++([lI sc.sC,aI sc.sN,lRaw raw]++(cNd n++[lBB g,u8 lp]))
theorem qtY{m}(h:SmS m.sK)(j:m.sc.sC.length<=1000):smMd m:=
 ⟨zOm,zW1 h.n,fun s g=>zW1 (h.f s g),fun s g r i=>zW1 ((h.t s g r i).1)⟩
end W41
namespace I2
open YF P1 EO EP EQ F4 GF G5 GR GS GW HE W41
theorem qtZ(ts sc)(F:Fit9 ts sc):qD qe 18 [eTS ts,eSc sc] [] (fun e m=>∃ av,e = .ret av/\Own m 4 av (ts.sA.map (rowD sc))/\(0<ts.sA.length->∃ b,qp av=some b)):=by
 have a1:=F.nf;refine qSW call18 func18 rfl {} ?_;simp[go_sem];refine aK ts.sA.length (fun k T=>T.tm 2 = .ip (cTS ts)/\T.tm 3 = .ip [lI sc.sC,aI sc.sN]/\T.tm 6=aI k/\Own T.mu 4 (T.tm 5) ((ts.sA.take k).map (rowD sc))/\(0<k->∃ b,qp (T.tm 5)=some b)) ?_ ?_
 .exact ⟨zSi,zSi,zSi,.inl zSi,fun h=>absurd h zOm⟩
 rintro k T hk ⟨t,e3,C,I,P⟩;by_cases l:k<ts.sA.length
 .have w1:=zWk k
  have o:=qs l;have r:=qaI sc F.g F.p ts.sA[k].sS (F.f1 _ o).1 (F.f1 _ o).2 (F.fs _ o);simp[go_sem,t,C,l];refine cJ zKr ?_;simp[go_sem,t,e3,C,l];refine fR r (.zk (zA _) (.zk (zh _) .nil)) ?_;refine .inl (vd.ownB (e:=98) (sz:=4) (bt:=64) (zv := .agg [aI 0,.lst true [],aI 0,.lst true []]) (xs:=(ts.sA.take k).map (rowD sc)) (ys:=[rowD sc ts.sA[k]]) zSi zSi zSi rfl rfl zOm zOm I (by simp[qE,rowD]) (Vm sc _) (Vm sc [_]) zSo ?_);intro a2 j R _ _ _ U;simp[go_sem,C,l,w1];refine aA ⟨zS1 t,zS1 e3,zSi,?_,fun _=>by simp[go_sem];exact U zSp⟩;rw[yv l,ze];simpa[go_sem] using R
 .have a0:k=ts.sA.length:=by omega
  subst a0;rw[qO]at I;simp[go_sem,t,C];exact⟨I,P⟩
def j8(ts:TS)(sc:Sc)(raw:List (List Int))(k:Nat):List (List AV):=((yg ts sc raw).take k).map cBd++(ts.sA.drop k).map (rowD sc)
theorem qt0(ts sc raw k)(h:k<=ts.sA.length):(j8 ts sc raw k).length=ts.sA.length:=by
 simp[j8,Zh];omega
theorem qt1(ts sc raw k):yR 4 (j8 ts sc raw k):=fun r g=>by
 rcases qM.1 g with h|h
 .obtain ⟨x,_,rfl⟩:=qn.1 h;rfl
 .obtain ⟨x,_,rfl⟩:=qn.1 h;rfl
theorem qt2(ts sc raw k h):(j8 ts sc raw k)[k]?=some (rowD sc ts.sA[k]):=by
 have g:(((yg ts sc raw).take k).map cBd).length=k:=by simp[Zh];omega
 simp_all[j8,zM,Nat.sub_self,zn,List.getElem?_drop,Nat.add_zero,qA]
theorem qt3(ts sc raw k h):(j8 ts sc raw k).set k (cBd ((yg ts sc raw)[k]'(by rw[Zh];exact h)))=j8 ts sc raw (k+1):=by
 have g:(((yg ts sc raw).take k).map cBd).length=k:=by simp[Zh];omega
 have i:k<(yg ts sc raw).length:=by rw[Zh];exact h
 unfold j8;rw[List.set_append_right _ _ zOm,g,Nat.sub_self,zu h,z7,List.set_cons_zero,yv i,ze,zB];rfl
theorem cV{Q i d d' L x x' st}(o:d≠d')(l:Rd (cutM (fun j=>decide (L<=j)) st.mu 0) (st.tm d) x)(g:Rd (cutM (fun j=>decide (L<=j)) st.mu 0) (st.tm d') x')
  (k:Q (.exit i) ((st.put (some d) x st.mu).put (some d') x' (cutM (fun j=>!decide (L<=j)) st.mu 0))):FzQ Q (.exit i) st:=by
 refine⟨_,⟨fun j=>decide (L<=j),rfl,fun j=>?_⟩,trivial,k⟩;simp only[St.put];split
 .rename_i h;subst h;exact .rd _ _ g
 .split
  .rename_i h;subst h;exact .rd _ _ l
  .exact .same _
theorem pF{sz}:∀{xs},yR sz xs->∀ i h j,j<sz->xs.flatten[i*sz+j]?=xs[i][j]?
 | [],_,i,h,j,l=>absurd h (Nat.not_lt_zero i)
 |r :: xs,w,i,h,j,l=>by
  have g:r.length=sz:=w r zSp;rw[List.flatten_cons];cases i with
  |zero=>grind
  |succ i =>
   rw[zM (by grind),g,show (i+1)*sz+j-sz=i*sz+j by rw[Nat.succ_mul];omega];exact pF (fun r g=>w r (zP1 g)) i (zUs h) j l
theorem Own.same{sz mu mu' av xs}(h:Own mu sz av xs)(g:∀ b,qp av=some b->mu'[b]?=mu[b]?):Own mu' sz av xs:=by
 rcases h with rfl|⟨b,rfl,i⟩
 .exact .inl rfl
 .exact .inr ⟨b,rfl,by rw[g b rfl];exact i⟩
theorem qt4(ts sc)(F:Fit9 ts sc)(raw)(hr:∀ l,l∈raw->∀ x,x∈l->0<=x/\x<=255):qi qe 27 [eTS ts,eSc sc,lRaw raw] (lBd (yg ts sc raw)):=by
 have ch:=F.nf;have b4:=qtZ ts sc F;have ao:=Zh ts sc raw;refine qSU call27 func27 rfl ?_;refine fZ b4 ?_ (by grind);rintro r m ⟨t,h,cj,be⟩;cases h;simp[go_sem];refine aK ts.sA.length (fun k T=>T.tm 2=lRaw raw/\T.tm 7=r/\T.tm 8=aI k/\Own T.mu 4 r (j8 ts sc raw k)) ?_ ?_
 .simp_all [go_sem,j8]
 rintro k T hk ⟨e2,e7,e8,ho⟩;have b5:=qt0 ts sc raw k hk;have ai:=qt1 ts sc raw k;by_cases aa:k<ts.sA.length
 .have w1:=zWk k
  have aq:=qt2 ts sc raw k aa;obtain⟨BK,ck,bg⟩:∃ BK,(yg ts sc raw)[k]?=some BK/\BK=WO (raw.getD k []) ⟨⟨ts.sA[k].sS.length,[]⟩,⟨ts.sA[k].sS.length,yN sc ts.sA[k].sS⟩⟩:=⟨_,qA zOm,WP ts sc raw k zOm aa⟩;have aj:(j8 ts sc raw k).set k (cBd BK)=j8 ts sc raw (k+1):=by
   grind [qt3,qk]
  have cl:=qcE sc F.g ts.sA[k].sS (F.f1 _ (qs aa)).2;generalize hW:j8 ts sc raw k=W at ho b5 ai aq aj;obtain⟨B,hB⟩:=be zOm;rcases ho with h|⟨B',h,hc⟩
  .rw [h]at hB;cases hB
  .rw [h]at hB;cases hB
   have bi:W.flatten.length=W.length*4:=by rw[yQ ai]
   have bj:=(qk.1 hc).1;have cm:W.flatten[k*4+2]?=some (aI ts.sA[k].sS.length):=by
    have:=pF ai k zOm 2 zOm;rw[this,(qk.1 aq).2];rfl
   have cn:W.flatten[k*4+3]?=some (lI (yN sc ts.sA[k].sS)):=by
    have:=pF ai k zOm 3 zOm;rw[this,(qk.1 aq).2];rfl
   have b6:=fun x:List AV=>JF W k x ai
   have cp:=bi;generalize cq:(ts.sA[k].sS.length:Int)=o at *
   generalize cr:yN sc ts.sA[k].sS=U at *
   generalize bk:raw.getD k []=rw at *
   generalize cs:W.flatten=FL at *
   have bm:(FL.drop (k*4+2)).take 2=[aI o,lI U]:=by
    grind [qk,zu]
   simp[go_sem,e7,e8,h,b5,aa,hc];refine pN (.agg [aI o,lI U]) (by rw[if_pos zOm,bm]) ?_;simp[go_sem];generalize hR:T.mu.length=R at *
   refine fB U.length (fun j=>Keep (fun st2=>st2.tm 2=lRaw raw/\st2.tm 7=r/\st2.tm 8=aI k/\st2.tm 9 = .ptr R 0/\st2.tm 10 = .ptr (R+1) 0/\st2.tm 11 = .ptr (R+2) 0/\st2.tm 12=aI j/\∃ p a1,st2.mu[R]?=some (.arr [aI o,lI U])/\st2.mu[R+1]?=some (.arr [aI o,p])/\st2.mu[R+2]?=some (.arr [aI o,a1]) /\
    Own st2.mu 1 p ((selW (fun x=>decide (1<x)) rw (U.take j) 0).map rI)/\Own st2.mu 1 a1 ((selW (fun x=>decide (0<x)) rw (U.take j) 0).map rI)/\(∀ b,qp p=some b->R+3<=b)/\(∀ b,qp a1=some b->R+3<=b)/\(∀ b,qp p=some b->qp a1≠some b)/\∀ i,i<R->st2.mu[i]?=T.mu[i]?) .mk) ?_ ?_
   .exact aA ⟨zS1 e2,zS1 e7,zS1 e8,zSi,zSi,zSi,zSi,.lst true [],.lst true [],zS1 hR,zS1 hR,zS1 hR,.inl (by simp[selW]),.inl (by simp[selW]),by simp[qp],by simp[qp],by simp[qp],fun i hi=>by simp_all[go_sem,List.getElem?_append_left]⟩
   rintro j st2 hj ⟨f2,f7,f8,f9,f10,f11,f12,p,a1,c9,c10,c11,ol,oh,bl,bh,nb,low⟩;by_cases I:j<U.length
   .skip
    have w2:=zWk j;have au:=qfZ (fun x=>decide (1<x)) rw U j I;have aw:=qfZ (fun x=>decide (0<x)) rw U j I;by_cases ab:k<raw.length
    .have bn:rw=raw[k]:=by grind
     by_cases ad:j<raw[k].length
     .have ct:=hr _ (qs ab) _ (qs ad)
      have hx:(raw[k][j]).tmod 4=wtR rw j:=by
       simp_all[Int.tmod_eq_emod_of_nonneg,wtR,if_pos,zS,qA]
      have cu:0<=wtR rw j/\wtR rw j<4:=by grind
      generalize hw:wtR rw j=w at *
      rcases (show w=0\/w=1\/1<w by omega) with bo|a6|ax
      .rw [bo]at hx
       have sl:selW (fun x=>decide (1<x)) rw (U.take (j+1)) 0=selW (fun x=>decide (1<x)) rw (U.take j) 0:=by grind
       have sh:selW (fun x=>decide (0<x)) rw (U.take (j+1)) 0=selW (fun x=>decide (0<x)) rw (U.take j) 0:=by grind
       simp[go_sem,f2,f8,f9,f12,c9,I,w2,ab,ad,hx];simp_all[go_sem,aA]
      .rw [a6]at hx
       have sl:selW (fun x=>decide (1<x)) rw (U.take (j+1)) 0=selW (fun x=>decide (1<x)) rw (U.take j) 0:=by grind
       have sh:selW (fun x=>decide (0<x)) rw (U.take (j+1)) 0=selW (fun x=>decide (0<x)) rw (U.take j) 0++[U[j]]:=by grind
       simp[go_sem,f2,f8,f9,f12,c9,I,ab,ad,hx];refine cJ zKr ?_;simp[go_sem,f9,f11,f12,c9,c11,I];refine qz.ownB (e:=3) (sz:=1) (bt:=8) (zv:=aI 0) (xs:=(selW (fun x=>decide (0<x)) rw (U.take j) 0).map rI) (ys:=[rI U[j]]) zSi zSi zSi rfl rfl zOm zOm oh (by simp[qE]) (yC _) (yC [_]) (by grind [wY,decide,List.length_take_le]) ?_;intro P mh a0 C a2 ay;have d9:mh[R]?=some (.arr [aI o,lI U]):=by grind
       have d10:mh[R+1]?=some (.arr [aI o,p]):=by grind
       have d11:mh[R+2]?=some (.arr [aI o,a1]):=by grind
       have ae:=(qk.1 d11).1;have ak:=(qk.1 c11).1;have a7:Own mh 1 p ((selW (fun x=>decide (1<x)) rw (U.take j) 0).map rI):=Own.same ol fun b hb=>C b (Own.lt ol hb) (nb b hb)
       have af:=Own.set a7 (i:=R+2) (.arr [aI o,P]) (fun h=>by grind);have a5:=Own.set a0 (i:=R+2) (.arr [aI o,P]) (fun h=>by grind);have a8:∀ b,qp P=some b->R+3<=b:=fun b h=>by grind
       have ag:∀ b,qp p=some b->qp P≠some b:=fun b h h2=>by grind [Own.lt]
       have a3:∀ i,i<R->(mh.set (R+2) (.arr [aI o,P]))[i]?=T.mu[i]?:=fun i hi=>by
        rw[zGl,C i zOm (fun h=>zW1 (bh i h))];exact low i hi
       simp[go_sem,f11,f12,d11,I,w2,Own.one a0,Own.cells a0];simp_all[go_sem,aA,ze]
      .skip
       have az:0<w:=zOm;have sl:selW (fun x=>decide (1<x)) rw (U.take (j+1)) 0=selW (fun x=>decide (1<x)) rw (U.take j) 0++[U[j]]:=by simpa[ax] using au
       have sh:selW (fun x=>decide (0<x)) rw (U.take (j+1)) 0=selW (fun x=>decide (0<x)) rw (U.take j) 0++[U[j]]:=by simpa[az] using aw
       simp[go_sem,f2,f8,f9,f12,c9,I,az,ax,ab,ad,hx];refine cJ zKr ?_;simp[go_sem,f9,f11,f12,c9,c11,I];refine qz.ownB (e:=3) (sz:=1) (bt:=8) (zv:=aI 0) (xs:=(selW (fun x=>decide (0<x)) rw (U.take j) 0).map rI) (ys:=[rI U[j]]) zSi zSi zSi rfl rfl zOm zOm oh (by simp[qE]) (yC _) (yC [_]) (by have:=(wY (fun x=>decide (0<x)) rw (U.take j) 0).length_le;have:=List.length_take_le j U;simp;omega) ?_;intro P mh a0 C a2 ay;have d9:mh[R]?=some (.arr [aI o,lI U]):=by rw[C R (qk.1 c9).1 (fun h=>zW1 (bh R h))];exact c9
       have d10:mh[R+1]?=some (.arr [aI o,p]):=by rw[C (R+1) (qk.1 c10).1 (fun h=>zW1 (bh _ h))];exact c10
       have d11:mh[R+2]?=some (.arr [aI o,a1]):=by rw[C (R+2) (qk.1 c11).1 (fun h=>zW1 (bh _ h))];exact c11
       have ae:=(qk.1 d11).1;have ak:=(qk.1 c11).1;have a7:Own mh 1 p ((selW (fun x=>decide (1<x)) rw (U.take j) 0).map rI):=Own.same ol fun b hb=>C b (Own.lt ol hb) (nb b hb)
       have af:=Own.set a7 (i:=R+2) (.arr [aI o,P]) (fun h=>zW1 (bl _ h));have a5:=Own.set a0 (i:=R+2) (.arr [aI o,P]) (fun h=>zW1 (a2 _ h));have a8:∀ b,qp P=some b->R+3<=b:=fun b h=>zW1 (a2 b h)
       have ag:∀ b,qp p=some b->qp P≠some b:=fun b h h2=>zW2 (a2 b h2) (Own.lt ol h)
       have a3:∀ i,i<R->(mh.set (R+2) (.arr [aI o,P]))[i]?=T.mu[i]?:=fun i hi=>by
        rw[zGl,C i zOm (fun h=>zW1 (bh i h))];exact low i hi
       simp[go_sem,f11,d11,az,ax,Own.one a0,Own.cells a0];refine cJ zKr ?_;have e9:(mh.set (R+2) (.arr [aI o,P]))[R]?=some (.arr [aI o,lI U]):=by rw[zGl];exact d9
       have b0:(mh.set (R+2) (.arr [aI o,P]))[R+1]?=some (.arr [aI o,p]):=by rw[zGl];exact d10
       have b1:(mh.set (R+2) (.arr [aI o,P]))[R+2]?=some (.arr [aI o,P]):=qL ae;generalize cv:mh.set (R+2) (.arr [aI o,P])=M2 at *
       simp[go_sem,f9,f10,f12,e9,b0,I];refine qz.ownB (e:=3) (sz:=1) (bt:=8) (zv:=aI 0) (xs:=(selW (fun x=>decide (1<x)) rw (U.take j) 0).map rI) (ys:=[rI U[j]]) zSi zSi zSi rfl rfl zOm zOm af (by simp[qE]) (yC _) (yC [_]) (by have:=(wY (fun x=>decide (1<x)) rw (U.take j) 0).length_le;have:=List.length_take_le j U;simp;omega) ?_;intro al ml b2 an b3 cw;have g9:ml[R]?=some (.arr [aI o,lI U]):=by rw[an R (qk.1 e9).1 (fun h=>zW1 (bl R h))];exact e9
       have b7:ml[R+1]?=some (.arr [aI o,p]):=by rw[an (R+1) (qk.1 b0).1 (fun h=>zW1 (bl _ h))];exact b0
       have bq:ml[R+2]?=some (.arr [aI o,P]):=by rw[an (R+2) (qk.1 b1).1 (fun h=>zW1 (bl _ h))];exact b1
       have l10:=(qk.1 b7).1;have cg:=(qk.1 b1).1;have br:Own ml 1 P ((selW (fun x=>decide (0<x)) rw (U.take j) 0++[U[j]]).map rI):=by
        rw[ze];exact Own.same a5 fun b hb=>an b (Own.lt a5 hb) (fun h=>ag b h hb)
       have bs:=Own.set b2 (i:=R+1) (.arr [aI o,al]) (fun h=>zW1 (b3 _ h));have bu:=Own.set br (i:=R+1) (.arr [aI o,al]) (fun h=>zW1 (a8 _ h));simp[go_sem,f10,f12,b7,I,w2,Own.one b2,Own.cells b2]
       try refine⟨I,aA ?_⟩
       try refine aA ?_
       refine⟨zS1 f2,zS1 f7,zS1 f8,zS1 f9,zS1 f10,zS1 f11,zSi,al,P,by simp[go_sem];exact g9,zS1 l10,by simp[go_sem];exact bq,by rw[sl,ze];simpa[go_sem] using bs,by rw[sh];simpa[go_sem] using bu,fun b h=>zW1 (b3 b h),a8,fun b h h2=>zW2 (b3 b h) (Own.lt a5 h2),fun i hi=>?_⟩;simp[go_sem];rw[zGl,an i zOm (fun h=>zW1 (bl i h))];exact a3 i hi
     .have a6:wtR rw j=1:=by rw[wtR,bn,if_neg ad]
      have sl:selW (fun x=>decide (1<x)) rw (U.take (j+1)) 0=selW (fun x=>decide (1<x)) rw (U.take j) 0:=by simpa[a6] using au
      have sh:selW (fun x=>decide (0<x)) rw (U.take (j+1)) 0=selW (fun x=>decide (0<x)) rw (U.take j) 0++[U[j]]:=by simpa[a6] using aw
      simp[go_sem,f2,f8,f9,f12,c9,I,ab,ad];refine cJ zKr ?_;simp[go_sem,f9,f11,f12,c9,c11,I];refine qz.ownB (e:=3) (sz:=1) (bt:=8) (zv:=aI 0) (xs:=(selW (fun x=>decide (0<x)) rw (U.take j) 0).map rI) (ys:=[rI U[j]]) zSi zSi zSi rfl rfl zOm zOm oh (by simp[qE]) (yC _) (yC [_]) (by have:=(wY (fun x=>decide (0<x)) rw (U.take j) 0).length_le;have:=List.length_take_le j U;simp;omega) ?_;intro P mh a0 C a2 ay;have d9:mh[R]?=some (.arr [aI o,lI U]):=by rw[C R (qk.1 c9).1 (fun h=>zW1 (bh R h))];exact c9
      have d10:mh[R+1]?=some (.arr [aI o,p]):=by rw[C (R+1) (qk.1 c10).1 (fun h=>zW1 (bh _ h))];exact c10
      have d11:mh[R+2]?=some (.arr [aI o,a1]):=by rw[C (R+2) (qk.1 c11).1 (fun h=>zW1 (bh _ h))];exact c11
      have ae:=(qk.1 d11).1;have ak:=(qk.1 c11).1;have a7:Own mh 1 p ((selW (fun x=>decide (1<x)) rw (U.take j) 0).map rI):=Own.same ol fun b hb=>C b (Own.lt ol hb) (nb b hb)
      have af:=Own.set a7 (i:=R+2) (.arr [aI o,P]) (fun h=>zW1 (bl _ h));have a5:=Own.set a0 (i:=R+2) (.arr [aI o,P]) (fun h=>zW1 (a2 _ h));have a8:∀ b,qp P=some b->R+3<=b:=fun b h=>zW1 (a2 b h)
      have ag:∀ b,qp p=some b->qp P≠some b:=fun b h h2=>zW2 (a2 b h2) (Own.lt ol h)
      have a3:∀ i,i<R->(mh.set (R+2) (.arr [aI o,P]))[i]?=T.mu[i]?:=fun i hi=>by
       rw[zGl,C i zOm (fun h=>zW1 (bh i h))];exact low i hi
      simp[go_sem,f11,f12,d11,I,w2,Own.one a0,Own.cells a0]
      try refine⟨I,aA ?_⟩
      try refine aA ?_
      refine⟨zS1 f2,zS1 f7,zS1 f8,zS1 f9,zS1 f10,zS1 f11,zSi,p,P,by simp[go_sem];exact d9,by simp[go_sem];exact d10,zS1 ae,by rw[sl];simpa[go_sem] using af,by rw[sh,ze];simpa[go_sem] using a5,bl,a8,ag,by simpa[go_sem] using a3⟩
    .have a6:wtR rw j=1:=by
      have:rw=[]:=by rw[<-bk,zS,List.getElem?_eq_none zOm];rfl
      rw[wtR,this];rfl
     have sl:selW (fun x=>decide (1<x)) rw (U.take (j+1)) 0=selW (fun x=>decide (1<x)) rw (U.take j) 0:=by simpa[a6] using au
     have sh:selW (fun x=>decide (0<x)) rw (U.take (j+1)) 0=selW (fun x=>decide (0<x)) rw (U.take j) 0++[U[j]]:=by simpa[a6] using aw
     simp[go_sem,f2,f8,f9,f12,c9,I,ab];refine cJ zKr ?_;simp[go_sem,f9,f11,f12,c9,c11,I];refine qz.ownB (e:=3) (sz:=1) (bt:=8) (zv:=aI 0) (xs:=(selW (fun x=>decide (0<x)) rw (U.take j) 0).map rI) (ys:=[rI U[j]]) zSi zSi zSi rfl rfl zOm zOm oh (by simp[qE]) (yC _) (yC [_]) (by have:=(wY (fun x=>decide (0<x)) rw (U.take j) 0).length_le;have:=List.length_take_le j U;simp;omega) ?_;intro P mh a0 C a2 ay;have d9:mh[R]?=some (.arr [aI o,lI U]):=by rw[C R (qk.1 c9).1 (fun h=>zW1 (bh R h))];exact c9
     have d10:mh[R+1]?=some (.arr [aI o,p]):=by rw[C (R+1) (qk.1 c10).1 (fun h=>zW1 (bh _ h))];exact c10
     have d11:mh[R+2]?=some (.arr [aI o,a1]):=by rw[C (R+2) (qk.1 c11).1 (fun h=>zW1 (bh _ h))];exact c11
     have ae:=(qk.1 d11).1;have ak:=(qk.1 c11).1;have a7:Own mh 1 p ((selW (fun x=>decide (1<x)) rw (U.take j) 0).map rI):=Own.same ol fun b hb=>C b (Own.lt ol hb) (nb b hb)
     have af:=Own.set a7 (i:=R+2) (.arr [aI o,P]) (fun h=>zW1 (bl _ h));have a5:=Own.set a0 (i:=R+2) (.arr [aI o,P]) (fun h=>zW1 (a2 _ h));have a8:∀ b,qp P=some b->R+3<=b:=fun b h=>zW1 (a2 b h)
     have ag:∀ b,qp p=some b->qp P≠some b:=fun b h h2=>zW2 (a2 b h2) (Own.lt ol h)
     have a3:∀ i,i<R->(mh.set (R+2) (.arr [aI o,P]))[i]?=T.mu[i]?:=fun i hi=>by
      rw[zGl,C i zOm (fun h=>zW1 (bh i h))];exact low i hi
     simp[go_sem,f11,f12,d11,I,w2,Own.one a0,Own.cells a0]
     try refine⟨I,aA ?_⟩
     try refine aA ?_
     refine⟨zS1 f2,zS1 f7,zS1 f8,zS1 f9,zS1 f10,zS1 f11,zSi,p,P,by simp[go_sem];exact d9,by simp[go_sem];exact d10,zS1 ae,by rw[sl];simpa[go_sem] using af,by rw[sh,ze];simpa[go_sem] using a5,bl,a8,ag,by simpa[go_sem] using a3⟩
   .skip
    obtain rfl:U.length=j:=zOm;rw[qO]at ol oh;have cx:R+2<st2.mu.length:=(qk.1 c11).1;have bv:(cutM (fun j=>decide (R<=j)) st2.mu 0)[R+1]?=some (.arr [aI o,p]):=by rw[jL,c10];simp
    have bw:(cutM (fun j=>decide (R<=j)) st2.mu 0)[R+2]?=some (.arr [aI o,a1]):=by rw[jL,c11];simp
    have b8:∀ l:List Int,∀ r,r∈l.map rI->∀ c,c∈r->HF c:=fun l r hr c hc=>by
     obtain⟨x,_,rfl⟩:=qn.1 hr;simp at hc;subst hc;exact HF.sc _
    have ca:Rd (cutM (fun j=>decide (R<=j)) st2.mu 0) p (lI (selW (fun x=>decide (1<x)) rw U 0)):=Own.rd (Jg ol fun b hb=>zW1 (bl b hb)) (yC _).ok (b8 _);have cb:Rd (cutM (fun j=>decide (R<=j)) st2.mu 0) a1 (lI (selW (fun x=>decide (0<x)) rw U 0)):=Own.rd (Jg oh fun b hb=>zW1 (bh b hb)) (yC _).ok (b8 _);simp[go_sem,f9,f12,c9];refine cV (d:=10) (d':=11) (L:=R) (x := .ip [aI o,lI (selW (fun x=>decide (1<x)) rw U 0)]) (x' := .ip [aI o,lI (selW (fun x=>decide (0<x)) rw U 0)]) zDe ?_ ?_ ?_
    .simp [go_sem,f10]
     refine .ptr (R+1) 0 [aI o,p] _ bv zSp fun k u v hu hv=>?_
     match k with
     | 0=>simp at hu hv;subst hu;subst hv;exact .zsc _
     | 1=>simp at hu hv;subst hu;subst hv;exact ca
     |k+2=>simp at hv
    .simp [go_sem,f11]
     refine .ptr (R+2) 0 [aI o,a1] _ bw zSp fun k u v hu hv=>?_
     match k with
     | 0=>simp at hu hv;subst hu;subst hv;exact .zsc _
     | 1=>simp at hu hv;subst hu;subst hv;exact cb
     |k+2=>simp at hv
    have a9:(cutM (fun j=>!decide (R<=j)) st2.mu 0)[B]?=some (.arr FL):=by
     rw[jL,low B bj,hc];simp[show ¬R<=B by omega]
    have b9:B<(cutM (fun j=>!decide (R<=j)) st2.mu 0).length:=(qk.1 a9).1;generalize bb:cutM (fun j=>!decide (R<=j)) st2.mu 0=CM at *
    simp[go_sem,f7,f8,h,aa,a9,bb];refine pN (.ptr B (k*4)) (if_pos zOm) ?_;have a4:=b6 (cBd BK) rfl zOm;rw[aj,jg _ _ _ zSo]at a4;have cc:cBd BK=[aI o,lI (selW (fun x=>decide (1<x)) rw U 0),aI o,lI (selW (fun x=>decide (0<x)) rw U 0)]:=by rw[bg];rfl
    rw[cc]at a4;simp only[zB,yP,vw,zG,List.length_nil]at a4;have bc:(j8 ts sc raw (k+1)).length=W.length:=by rw[<-aj,List.length_set]
    simp[go_sem,a9,bb];refine pN (CM.set B (.arr (j8 ts sc raw (k+1)).flatten)) (by rw[if_pos zOm,a4]) ?_;simp[go_sem,f2,f7,f8,w1,aa,h];refine aA ⟨zS1 f2,zS1 f7,zSi,.inr ⟨B,?_,?_⟩⟩
    .simp [go_sem,f7,h,bc]
    .simp [go_sem]
     rw[qL b9]
 .have cd:k=ts.sA.length:=by omega
  subst cd;have cf:j8 ts sc raw ts.sA.length=(yg ts sc raw).map cBd:=by
   rw[j8,<-ao,qO,ao,List.drop_length,List.map_nil,zO]
  rw[cf]at ho;simp[go_sem,e7,e8];refine pN (aI (yg ts sc raw).length) (by rcases ho with h|⟨b,h,_⟩<;>rw[h]<;>simp) ?_;simp[go_sem,ao,e7,Own.one ho,Own.cells ho];refine Own.rd ho (fun r hr=>?_) fun r hr=>?_
  .obtain ⟨x,_,rfl⟩:=qn.1 hr;rfl
  .obtain ⟨x,_,rfl⟩:=qn.1 hr;exact K2 x
end I2
set_option maxHeartbeats 1000000
namespace IJ
end IJ
set_option maxHeartbeats 1000000
namespace I5
open Y1 Y16 YF P1 Q4 Q8 E1 E3 E4 E9 F1 GD G5 GF GP GQ GR GS GU GV GW HE IB IF IK I1 I2 W41
theorem pG(raw):HF (lRaw raw):=HF.lst fun r i c g=>by
 obtain⟨l,_,rfl⟩:=qn.1 i;simp at g;subst g;exact HF.lst fun r i c g=>by
  obtain⟨x,_,rfl⟩:=qn.1 i;simp at g;subst g;exact HF.sc _
def tiny(m:Md):Prop:=SmS m.sK/\m.sc.sC.length<=1000
theorem w6(mu):Rd mu (.tup [.lst true [],.agg [.lst true [],aI 0,.lst true [],aI 0],aB false]) (.tup [lBd [],eMd mdZ,aB false]):=by
 refine .tup _ _ rfl fun j u v g i=>?_
 match j with
 | 0=>simp at g i;subst g;subst i;exact .wk _ true _ (.hf _ (HF.lst fun r l=>by simp at l))
 | 1=>grind [qb5]
 | 2=>simp at g i;subst g;subst i;exact .zsc _
 |j+3=>simp at g
theorem qt5(b m):HF (.tup [lBd b,eMd m,aB true]):=HF.tup (by simp only[qy,qG,or_false,forall_eq_or_imp,forall_eq];grind [jw,yM,HF.sc])
abbrev tupM(ts:TS)(sc:Sc)(raw:List (List Int))(g:List (List Bool))(lp:Int)(ok:Bool):AV:=if ok=true then .tup [lBd (yg ts sc raw),eMd (anyM sc (vsT ts) (defB ts sc) g (lp % sc.sN)),aB true] else .tup [lBd [],eMd mdZ,aB false]
def ok25(ts:TS)(sc:Sc)(raw:List (List Int))(n:Nd):Bool:=yV ts&&(jA ts sc&&(decide (sumI sc.sC<=5)&&(qT n&&(decide (yZ ts=[])&&(decide (yf ts [] n=(0,0))&&(WN ts (sumI sc.sC) sc.sN n&&(decide ((chs (vsT ts) (qP (yg ts sc raw) 0) sc.sN.toNat).length<=8))))))))
theorem ok25_cx{ts}(g:bigT ts){sc raw n}(h:ok25 ts sc raw n=true):Cx ts sc (yg ts sc raw) sc.sN.toNat/\qT n=true/\(yf ts [] n).1=0:=by
 simp only[ok25,qH,decide_eq_true_eq]at h;obtain⟨i,j,l,o,p,r,I,J⟩:=h;have F:=Vl j;have t:=F.s1;have C:y5 sc=true:=by
  simp_all[jA,qH]
 refine⟨⟨WM i g,p,F,C,l,pD ts sc raw fun f hf=>Vc _ _ _,zOm,?_⟩,o,by rw[r]⟩;omega
def ok29(ts:TS)(sc:Sc)(raw:List (List Int))(n:Nd):Bool:=yV ts&&(jA ts sc&&(qT n&&(decide (sc.sC.length<=4)&&(decide (sumI sc.sC<=5)&&(decide (yZ ts=[])&&(decide (yf ts [] n=(0,0))&&(WN ts (sumI sc.sC) sc.sN n&&(decide ((jG sc.sN.toNat++chs (vsT ts) (qP (yg ts sc raw) 0) sc.sN.toNat).length<=9)))))))))
theorem pH{ts}(g:bigT ts){sc raw n}(h:ok29 ts sc raw n=true):Cx ts sc (yg ts sc raw) sc.sN.toNat/\qT n=true/\(yf ts [] n).1=0:=by
 simp only[ok29,qH,decide_eq_true_eq]at h;obtain⟨i,j,l,I,o,p,r,J,P⟩:=h;have F:=Vl j;have t:=F.s1;have C:y5 sc=true:=by
  simp_all[jA,qH]
 refine⟨⟨WM i g,p,F,C,o,pD ts sc raw fun f hf=>Vc _ _ _,zOm,?_⟩,l,by rw[r]⟩
 grind
theorem qf3(ts)(hs:bigT ts)(sc raw)(hr:∀ l,l∈raw->∀ x,x∈l->0<=x/\x<=255)(n J lp)(a4:0<=lp/\lp<=255) :
  qi qe 7 [.agg (vL ts sc raw n J lp)] (tupM ts sc raw J lp (ok29 ts sc raw n)):=by
 generalize p:ok29 ts sc raw n=R;have t:=fun h=>pH (ts:=ts) hs (sc:=sc) (raw:=raw) (n:=n) h
 unfold ok29 at p t;obtain⟨op,o,i,ks,q⟩:=n;have a5:vL ts sc raw (.mk op o i ks q) J lp=[.lst false (ts.sS.map uT),.lst false (ts.sA.map jY),lPd ts.sT,lFa ts.sP,lI sc.sC,aI sc.sN,lRaw raw,aI op,aS o,aI i,.lst false (ks.map cNd),aI q,lBB J,u8 lp]:=by unfold vL;rw[yp];rfl
 have a6:eNd (.mk op o i ks q) = .agg [aI op,aS o,aI i,.lst false (ks.map cNd),aI q]:=by rw[eNd,yp];rfl
 rw[a5];generalize hn:Nd.mk op o i ks q=n at *
 have wn:WK (.agg [aI op,aS o,aI i,.lst false (ks.map cNd),aI q]) (eNd n):=by rw[<-a6];exact .hf (qK n)
 have C:WK (.agg [.lst false (ts.sS.map uT),.lst false (ts.sA.map jY),lPd ts.sT,lFa ts.sP]) (eTS ts) := .hf (zp ts);have I:WK (.agg [lI sc.sC,aI sc.sN]) (eSc sc) := .hf (zA sc);refine qSU call7 func7 rfl ?_;refine fM ?_;refine tS (qmS ts) (.cons C .nil) ?_;cases h1:yV ts with
 |false =>
  rw[h1]at p;replace p:false=R:=p;subst p;simp[go_sem];exact w6 _
 |true =>
 have S:=WM h1 hs;rw[h1,Bool.true_and]at p t;simp[go_sem];refine tS (qmX ts sc) (.cons C (.cons I .nil)) ?_;cases h2:jA ts sc with
 |false =>
  rw[h2]at p;replace p:false=R:=p;subst p;simp[go_sem];exact w6 _
 |true =>
 have F:=Vl h2;rw[h2,Bool.true_and]at p t;simp[go_sem];refine tS (KM n) (.cons wn .nil) ?_;cases h4:qT n with
 |false =>
  rw[h4]at p;replace p:false=R:=p;subst p;simp[go_sem];exact w6 _
 |true =>
 rw[h4,Bool.true_and]at p t;simp[go_sem];by_cases h9:sc.sC.length<=4
 case neg =>
  have T:(4:Int)<sc.sC.length:=zOm;rw[decide_eq_false h9]at p;replace p:false=R:=p;subst p;simp[go_sem,T];exact w6 _
 have T:¬(4:Int)<sc.sC.length:=zOm;rw[decide_eq_true h9,Bool.true_and]at p t;simp[go_sem,T];refine tS (qaB sc F.g) (.cons I .nil) ?_;by_cases h3:sumI sc.sC<=5
 case neg =>
  have U:5<sumI sc.sC:=zOm;rw[decide_eq_false h3]at p;replace p:false=R:=p;subst p;simp[go_sem,U];exact w6 _
 have U:¬ 5<sumI sc.sC:=zOm;rw[decide_eq_true h3,Bool.true_and]at p t;simp[go_sem,U];refine tS S.chk (.cons C .nil) ?_;by_cases h5:yZ ts=[]
 case neg =>
  have a0:0<(yZ ts).length:=List.length_pos_iff.2 h5;rw[decide_eq_false h5]at p;replace p:false=R:=p;subst p;simp[go_sem,a0];exact w6 _
 have a0:(yZ ts).length=0:=by rw[h5];rfl
 rw[decide_eq_true h5,Bool.true_and]at p t;simp[go_sem,a0];refine tS (S.chkF h4) (.cons C (.cons (WK.lst fun r hr=>absurd hr qG) (.cons wn .nil))) ?_;by_cases h6:yf ts [] n=(0,0)
 case neg =>
  rw[decide_eq_false h6]at p;replace p:false=R:=p;subst p;generalize yf ts [] n=D at *
  obtain⟨d1,d2⟩:=D;by_cases g1:d1=0
  .have g2:¬d2=0:=fun e=>h6 (by rw[g1,e])
   simp[go_sem,g1,g2];exact w6 _
  .simp [go_sem,g1]
   exact w6 _
 rw[decide_eq_true h6,Bool.true_and]at p t;rw[h6];simp[go_sem];have a2:=F.g.sum sc.sC.length;rw[qO]at a2;have a8:=F.s1;have a9:=F.s4;refine fR (qaB sc F.g) (.cons I .nil) ?_;refine tS (qtD S h5 (sumI sc.sC) sc.sN zOm zOm h4) (.cons C (.zs (.zs (.cons wn .nil)))) ?_;cases h7:WN ts (sumI sc.sC) sc.sN n with
 |false =>
  rw[h7]at p;replace p:false=R:=p;subst p;simp[go_sem];exact w6 _
 |true =>
 rw[h7,Bool.true_and]at p t;simp[go_sem];have hB:=pD ts sc raw fun f hf=>Vc _ _ _
 have aa:(yg ts sc raw).length=ts.sA.length:=Zh ts sc raw;have ab:=F.nf;have a3:∀ x,x∈yg ts sc raw->x.up.ts.length<=1000/\x.lo.ts.length<=1000/\sorted x.lo.ts:=fun x t=>by
  obtain⟨j,hj,rfl⟩:=Qb t;have h2:j<ts.sA.length:=zOm;have h:=qf2 F h3 (qs h2);obtain⟨s1,s2⟩:=hB.so _ t;have h4:=Jk s2 (hB.full j hj h2);have h5:=Jk s1 (hB.sub _ t);exact⟨zOm,zOm,s1⟩
 have a1:∀ x,x∈yg ts sc raw->ZA x:=fun x t=>by
  obtain⟨a,b,c⟩:=a3 x t;exact⟨zOm,zOm,c.imp fun h=>zOm⟩
 have a7:(qP (yg ts sc raw) 0).length<=100000:=by
  have:=pE 1000 (yg ts sc raw) 0 fun x t=>(a3 x t).1
  omega
 have cM:=qt4 ts sc F raw hr;have cC:=qtX ts sc (yg ts sc raw) sc.sN.toNat zOm zOm zOm a1 zOm a7;refine fR cM (.cons C (.cons I (.zk (pG raw) .nil))) ?_;refine tS cC (.cons C (.cons I (.zk (jw _) .nil))) ?_;by_cases h8:(jG sc.sN.toNat++chs (vsT ts) (qP (yg ts sc raw) 0) sc.sN.toNat).length<=9
 case neg =>
  have P:(9:Int)<(jG sc.sN.toNat++chs (vsT ts) (qP (yg ts sc raw) 0) sc.sN.toNat).length:=zOm;rw[decide_eq_false h8]at p;subst p
  try simp only[zd,pM]at P
  simp[go_sem,P];exact w6 _
 have P:¬(9:Int)<(jG sc.sN.toNat++chs (vsT ts) (qP (yg ts sc raw) 0) sc.sN.toNat).length:=zOm;rw[decide_eq_true h8]at p;subst p
 try simp only[zd,pM]at P
 simp[go_sem,P];refine fR (anyU ts sc F h3 J lp a4) (.cons C (.cons I (.zk (KR _) (.zs .nil)))) ?_;exact .hf _ (qt5 _ _)
end I5
namespace IM
open P1 E3 G5 GP GQ GR GS GV GW GX GY GZ HA IE IK
variable {ts:TS} {sc:Sc} {b:List Bd} {N:Nat}
theorem pI(F:Fit9 ts sc):BndV ts sc (defB ts sc):=by
 refine⟨by simp[defB],fun i h l=>?_,fun x g=>?_,fun x g t j=>?_,fun i h l t j=>?_⟩
 .simp [defB]
 .obtain ⟨f,hf,rfl⟩:=qn.1 g
  exact⟨List.Pairwise.nil,Vc _ _ _⟩
 .obtain ⟨f,hf,rfl⟩:=qn.1 g
  exact absurd j qG
 grind [defB]
theorem qf4(F:Fit9 ts sc)(p:sc.sN=N)(l:1<=N)(g lp)(t:0<=lp):anyM sc (vsT ts) (defB ts sc) g (lp % sc.sN)∈LL ts sc (defB ts sc) N:=by
 have B:=pI F;have l:0<=lp % sc.sN/\lp % sc.sN<N:=⟨Int.emod_nonneg _ zOm,zW1 (Int.emod_lt_of_pos lp (b:=sc.sN) zOm)⟩;obtain⟨k,r⟩:=Int.eq_ofNat_of_zero_le l.1;rw[r];refine qfP sc (vsT ts) (defB ts sc) g N k p zOm (fun x j=>?_) (fun x j=>(B.so x j).2) B.sub;obtain⟨i,o,rfl⟩:=Qb j;obtain⟨C,I⟩:=B.lo i o (by rw[<-B.len];exact o);omega
theorem qt6(F:Fit9 ts sc)(z:y5 sc=true)(g:sc.sN=N){m}(h:m∈LL ts sc (defB ts sc) N):MdV ts m:=by
 obtain⟨k,c,i,j,rfl⟩:=Wc.1 h
 grind [qfU,pI]
theorem qt7{g:Md->Int}{o p}(r:∀ x,x∈p->x∈o){i j l l2}(t:o=i :: l)(C:p=j :: l2):g (yw g i l)<=g (yw g j l2):=by
 refine qtQ g l i _ ?_;rw[<-t];refine r _ ?_;rw[C];exact qf1 g l2 j
end IM
namespace IG
end IG
namespace I4
end I4
set_option maxHeartbeats 1000000
namespace JK
end JK
set_option maxHeartbeats 1000000
namespace W42
open Y1 YF P1 E3 GS IC IK I5 W41
theorem qt8(ts sc raw n g lp):HF (.agg (vL ts sc raw n g lp)):=HF.agg fun c i=>by
 unfold vL at i;simp only[qM,qy,qG,or_false]at i;rcases i with h | (rfl|rfl|rfl)|h|rfl|rfl
 .exact YO ts c (by simpa[cTS] using h)
 .exact zh _
 .exact HF.sc _
 .exact pG raw
 .exact vE n c h
 .exact KR _
 .exact HF.sc _
theorem _root_.Go.Proofs.YtipbakanneogpaaGreatDoor.IK.Cx.tiny{ts sc b N}(X:Cx ts sc b N){m}(h:Betw sc (vsT ts) b N m):tiny m:=
 ⟨X.sms h,by rw[h.sc];have:=X.F.g.1;have:=X.F.ns;have:=X.S.h.ns;omega⟩
end W42
namespace JM
open Y1 P1 Q4 E3 F1 GD GV IE IK YF EP
section
variable {S:List (List Rl)}
theorem qf5(s:List Rl)(k h):szT (s.take (k+1))=szT (s.take k)+s[k].ts.length:=by
 rw[yv h];unfold szT;rw[ze,List.foldr_append];generalize s.take k=l;induction l with
 |nil=>simp
 |cons x l g=>simp only[z7,List.map_nil,List.foldr_cons,List.foldr_nil]at g⊢;omega
theorem qf6(s:List (List Rl))(k h):szS (s.take (k+1))=szS (s.take k)+szT s[k]:=by
 rw[yv h];unfold szS;rw[ze,List.foldr_append];generalize s.take k=l;induction l with
 |nil=>simp
 |cons x l g=>simp only[z7,List.map_nil,List.foldr_cons,List.foldr_nil]at g⊢;omega
theorem pJ:∀ s,(∀ r,r∈s->r.ts.length<=1000)->0<=szT s/\szT s<=s.length*1000
 | [],_=>by simp[szT]
 |r :: s,h=>by
  have g:=pJ s fun x i=>h x (q8 _ i)
  have:=h r (zg ..);simp only[szT,z7,List.foldr_cons,zG]at g⊢;omega
theorem qf7:∀ s,(∀ t,t∈s->0<=szT t/\szT t<=1000000)->0<=szS s/\szS s<=s.length*1000000
 | [],_=>by simp[szS]
 |r :: s,h=>by
  have g:=qf7 s fun x i=>h x (q8 _ i)
  have:=h r (zg ..);simp only[szS,z7,List.foldr_cons,zG]at g⊢;omega
theorem qt9(h:SmS S):∀ t,t∈S->0<=szT t/\szT t<=1000000:=fun t g=>by
 have:=pJ t fun r i=>(h.t t g r i).1
 have:=h.f t g;omega
theorem pK(h:SmS S)(k):0<=szS (S.take k)/\szS (S.take k)<=1000000000:=by
 have:=qf7 (S.take k) fun t g=>qt9 h t (jI g)
 have i:=h.n;have:(S.take k).length<=S.length:=List.length_take_le' _ _;omega
theorem WR(h:SmS S){t}(g:t∈S)(k):0<=szT (t.take k)/\szT (t.take k)<=1000000:=by
 have:=pJ (t.take k) fun r i=>(h.t t g r (jI i)).1
 have j:=h.f t g;have:(t.take k).length<=t.length:=List.length_take_le' _ _;omega
theorem quA(g)(hf:g=1\/g = -1)(m)(P:SmS m.sK):qi qe 82 [eMd m,.ip [aI g]] (aI (g*szS m.sK)):=by
 refine qSV call82 func82 rfl ?_;have hn:=P.n;simp[go_sem];refine aK m.sK.length (fun k T=>T.tm 1 = .ip [aI g]/\T.tm 4=aI (szS (m.sK.take k))/\T.tm 10=lSt m.sK/\T.tm 11=aI m.sK.length/\T.tm 12=aI k) ?_ ?_
 .exact ⟨zSi,by simp[go_sem,szS],zSi,zSi,zSi⟩
 rintro k T hk ⟨R,C,o,i,l⟩;by_cases t:k<m.sK.length
 .have p:=qs t
  have w1:=zWk k;have hS:=qf6 m.sK k t;have b0:=pK P k;have a1:=P.f _ p;simp[go_sem,o,i,l,t];refine aK m.sK[k].length (fun j T=>T.tm 1 = .ip [aI g]/\T.tm 4=aI (szS (m.sK.take k)+szT (m.sK[k].take j))/\T.tm 10=lSt m.sK/\T.tm 11=aI m.sK.length/\T.tm 12=aI k/\T.tm 16=lRel m.sK[k]/\T.tm 17=aI m.sK[k].length/\T.tm 18=aI j) ?_ ?_
  .exact ⟨zS1 R,by simp[go_sem,C,szT],zS1 o,zS1 i,zS1 l,zSi,zSi,zSi⟩
  clear R C o i l;rintro j T hj ⟨R,C,o,i,l,U,I,a0⟩;by_cases J:j<m.sK[k].length
  .have w2:=zWk j
   have hT:=qf5 m.sK[k] j J;have b1:=WR P p j;have b2:=WR P p (j+1);have w3:qq.wrap (szS (m.sK.take k)+szT (m.sK[k].take j)+m.sK[k][j].ts.length)=szS (m.sK.take k)+szT (m.sK[k].take (j+1)):=by rw[zWr];omega
   simp[go_sem,C,U,I,a0,J,w2,w3]
   try refine⟨J,aA ?_⟩
   try refine aA ?_
   exact⟨zS1 R,zSi,zS1 o,zS1 i,zS1 l,zS1 U,zS1 I,zSi⟩
  .have r:j=m.sK[k].length:=by omega
   rw[r,qO,<-hS]at C;simp[go_sem,l,I,a0,r,w1]
   try refine⟨t,aA ?_⟩
   try refine aA ?_
   exact⟨zS1 R,zS1 C,zS1 o,zS1 i,zSi⟩
 .have r:k=m.sK.length:=by omega
  rw[r,qO]at C;have b0:=pK P m.sK.length;rw[qO]at b0;have w:qq.wrap (g*szS m.sK)=g*szS m.sK:=by rcases hf with rfl|rfl<;>exact zWr
  simp[go_sem,R,C,i,l,r,w];exact .zsc _
theorem quB(m)(C:SmS m.sK):qi qe 17 [eMd m] (aI (szS m.sK)):=by
 refine qSV call17 func17 rfl ?_;have hn:=C.n;simp[go_sem];refine aK m.sK.length (fun k T=>T.tm 1 = .ip (cMd m)/\T.tm 3=aI (szS (m.sK.take k))/\T.tm 4=aI k) ?_ ?_
 .exact ⟨zSi,by simp[go_sem,szS],zSi⟩
 rintro k T hk ⟨o,p,r⟩;by_cases g:k<m.sK.length
 .have i:=qs g
  have J:=zWk k;have P:=qf6 m.sK k g;have b0:=pK C k;have R:=C.f _ i;simp[go_sem,o,r,g];refine aK m.sK[k].length (fun j T=>T.tm 1 = .ip (cMd m)/\T.tm 3=aI (szS (m.sK.take k)+szT (m.sK[k].take j))/\T.tm 4=aI k/\T.tm 5=aI j) ?_ ?_
  .exact ⟨zS1 o,by simp[go_sem,p,szT],zS1 r,zSi⟩
  clear o p r;rintro j T hj ⟨o,p,r,I⟩;by_cases t:j<m.sK[k].length
  .have U:=zWk j
   have hT:=qf5 m.sK[k] j t;have b1:=WR C i j;have b2:=WR C i (j+1);have w3:qq.wrap (szS (m.sK.take k)+szT (m.sK[k].take j)+m.sK[k][j].ts.length)=szS (m.sK.take k)+szT (m.sK[k].take (j+1)):=by rw[zWr];omega
   simp[go_sem,o,p,r,I,g,t,U,w3]
   try refine⟨t,aA ?_⟩
   try refine aA ?_
   exact⟨zS1 o,zSi,zS1 r,zSi⟩
  .have l:j=m.sK[k].length:=by omega
   rw[l,qO,<-P]at p;simp[go_sem,o,r,I,g,l,J]
   try refine⟨g,aA ?_⟩
   try refine aA ?_
   exact⟨zS1 o,zS1 p,zSi⟩
 .have l:k=m.sK.length:=by omega
  rw[l,qO]at p;simp[go_sem,o,p,r,l];exact .zsc _
theorem qf8(i):HF (.fn (.func 82) [] [.ip [aI i]]):=HF.fn (fun c g=>by simp at g) (fun c g=>by simp at g;subst g;exact HF.ip fun c g=>by simp at g;subst g;exact HF.sc _)
variable {ts:TS} {sc:Sc} {b:List Bd} {N:Nat}
theorem qf9(X:Cx ts sc b N){n}(p:qT n=true)(g)(hf:g=1\/g = -1) :
  qi qe 31 [eTS ts,eSc sc,lBd b,eNd n,.fn (.func 82) [] [.ip [aI g]]] (tup3 (jf (fun x=>g*szS x.sK) (MV ts sc b N n).1 (MV ts sc b N n).2)):=by
 have t:=(Cx.ZK (ts:=ts) (sc:=sc) (b:=b) (N:=N) (n:=n)).length_le;have l:=X.len;have o:HF (.ip [aI g]):=HF.ip fun c i=>by simp at i;subst i;exact HF.sc _
 have j:HF (.fn (.func 82) [] [.ip [aI g]]):=HF.fn (fun c i=>by simp at i) (fun c i=>by simp at i;subst i;exact o);exact qb6 ts sc b n _ j _ _ _ zOm (X.models p) ⟨j,_,[],_,rfl,fun x r=>⟨[eMd x,.ip [aI g]],.zk (yM x) (.zk o .nil),quA g hf x (X.sms (X.betw (Cx.ZK.subset r)))⟩⟩
theorem Yh(i):qi qe 42 [aI i] (.fn (.func 82) [] [.ip [aI i]]):=by
 refine qSU call42 func42 rfl ?_;exact .hf _ (HF.fn (fun c g=>by simp at g) (fun c g=>by simp at g;subst g;exact HF.ip fun c g=>by simp at g;subst g;exact HF.sc _))
theorem minU(X:Cx ts sc b N){n}(g:qT n=true) :
  qi qe 14 [eTS ts,eSc sc,lBd b,eNd n] (.tup [eMd (jf (fun x=>1*szS x.sK) (MV ts sc b N n).1 (MV ts sc b N n).2).1,aI (jf (fun x=>1*szS x.sK) (MV ts sc b N n).1 (MV ts sc b N n).2).2.2]):=by
 have h:=qf9 X g 1 (.inl rfl);generalize jf (fun x=>1*szS x.sK) (MV ts sc b N n).1 (MV ts sc b N n).2=R at *
 obtain⟨m,d,e⟩:=R;refine qSU call14 func14 rfl ?_;refine fM ?_;refine fR (Yh 1) (.zs .nil) ?_;refine fR h (.zk (zp _) (.zk (zA _) (.zk (jw _) (.zk (qK _) (.zk (qf8 1) .nil))))) ?_;exact .hf _ (HF.tup (by simp only[qy,qG,or_false,forall_eq_or_imp,forall_eq];exact⟨yM _,HF.sc _⟩))
theorem maxU(X:Cx ts sc b N){n}(g:qT n=true) :
  qi qe 15 [eTS ts,eSc sc,lBd b,eNd n] (.tup [eMd (jf (fun x => -1*szS x.sK) (MV ts sc b N n).1 (MV ts sc b N n).2).1,aI (jf (fun x => -1*szS x.sK) (MV ts sc b N n).1 (MV ts sc b N n).2).2.2]):=by
 have h:=qf9 X g (-1) (.inr rfl);generalize jf (fun x => -1*szS x.sK) (MV ts sc b N n).1 (MV ts sc b N n).2=R at *
 obtain⟨m,d,e⟩:=R;refine qSU call15 func15 rfl ?_;refine fM ?_;refine fR (Yh (-1)) (.zs .nil) ?_;refine fR h (.zk (zp _) (.zk (zA _) (.zk (jw _) (.zk (qK _) (.zk (qf8 (-1)) .nil))))) ?_;exact .hf _ (HF.tup (by simp only[qy,qG,or_false,forall_eq_or_imp,forall_eq];exact⟨yM _,HF.sc _⟩))
end
end JM
set_option maxHeartbeats 1000000
namespace JP
open Y1 YF P1 Q4 E3 E4 F1 GD GN GP GR GV GX IB IE IK IM W41 IM GX QB JM GN
def tsA:TS:=⟨[(⟨#[65]⟩,false)],[⟨⟨#[102]⟩,[0],false⟩],[],[]⟩
def scA:Sc:=⟨[3],1⟩
def bsA:List Bd:=[⟨⟨1,[]⟩,⟨1,[0,1,2]⟩⟩]
def nTwo:Nd := .mk 38 ⟨#[]⟩ 0 [.mk 21 ⟨#[]⟩ 0 [.mk 1 ⟨#[102]⟩ 0 [] 0] 0,.mk 20 ⟨#[]⟩ 2 [] 0] 0
abbrev nOp(o:Int):Nd := .mk o ⟨#[]⟩ 0 [] 0
def mkA(l:List Int):Md:=⟨scA,[[⟨1,l⟩]],0⟩
theorem of29(l):qi qe 19 [eSc scA,lI l] (eMd (mkA l)):=by
 refine qSU call19 func19 rfl ?_;refine .agg _ _ rfl fun k x y g i=>?_
 match k with
 | 0=>simp[mkA,scA]at g i;subst g;subst i;exact .hf _ (zh _)
 | 1=>simp[mkA,scA]at g i;subst g;subst i;exact .zsc _
 | 2 =>
  simp[mkA]at g i;subst g;subst i;refine .wk _ true _ (.lst true _ _ rfl (fun k x y g i=>?_) fun k x y g i=>?_)
  .grind
  .match k with
   | 0=>simp at g i;subst g;subst i;exact .wk _ true _ (.hf _ (HF.lst fun r j c o=>by simp at j;subst j;simp at o;rcases o with rfl|rfl;exact HF.sc _;exact zh l))
   |k+1=>simp at g
 | 3=>simp[mkA]at g i;subst g;subst i;exact .zsc _
 |k+4=>simp at g
theorem wtsA:WK (.agg [.lst true [[aS ⟨#[65]⟩,aB false]],.lst true [[aS ⟨#[102]⟩,.lst true [[aI 0]],aB false]],.lst true [],.lst true []]) (eTS tsA):=
 WK.aggs (.cons (Zd ⟨.zs (.zs .nil),trivial⟩) (.cons (Zd ⟨.zs (.cons (WK.ints [0]) (.zs .nil)),trivial⟩) (.cons (Zd (by trivial)) (.cons (Zd (by trivial)) .nil))))
theorem wscA:WK (.agg [.lst true [[aI 3]],aI 1]) (eSc scA):=WK.aggs (.cons (WK.ints [3]) (.zs .nil))
theorem wnA:WK (.agg [aI 38,aS ⟨#[]⟩,aI 0,.lst true [[aI 21,aS ⟨#[]⟩,aI 0,.lst true [[aI 1,aS ⟨#[102]⟩,aI 0,.lst true [],aI 0]],aI 0],[aI 20,aS ⟨#[]⟩,aI 2,.lst true [],aI 0]],aI 0]) (eNd nTwo):=ky 38 ⟨#[]⟩ 0 0 (Zd ⟨Wq 21 ⟨#[]⟩ 0 0 (Zd ⟨Wq 1 ⟨#[102]⟩ 0 0 (Zd (by trivial)),trivial⟩),Wq 20 ⟨#[]⟩ 2 0 (Zd (by trivial)),trivial⟩)
theorem wnO(o):WK (.agg [aI o,aS ⟨#[]⟩,aI 0,.lst true [],aI 0]) (eNd (nOp o)):=ky o ⟨#[]⟩ 0 0 (Zd (by trivial))
theorem wmZ:WK (.agg [.lst true [],aI 0,.lst true [],aI 0]) (eMd mdZ):=WK.aggs (.cons (WK.lst fun r g=>absurd g qG) (.zs (.cons (WK.lst fun r g=>absurd g qG) (.zs .nil))))
theorem defA:defB tsA scA=bsA:=by decide +kernel
theorem cxA:Cx tsA scA bsA 1:=⟨WM (by decide +kernel) (by intro x g;simp[tsA]at g;subst g;decide),by decide +kernel,Vl (by decide +kernel),by decide +kernel,by show sumI [3]<=5;decide,by have:=pI (ts:=tsA) (sc:=scA) (Vl (by decide +kernel));rwa[defA]at this,rfl,by decide +kernel⟩
theorem memA(l)(h:mkA l∈LL tsA scA bsA 1):SmS (mkA l).sK/\MdV tsA (mkA l):=⟨cxA.sms (cxA.betw h),cxA.mdv h⟩
theorem badU:qi qe 55 [eTS tsA,.agg [lI [],aI 0]] (aB false):=by
 refine qSV call55 func55 rfl ?_;simp[go_sem,tsA];exact .zsc _
theorem badM:qi qe 29 [eTS tsA,eMd mdZ] (aB false):=by
 refine qSV call29 func29 rfl ?_;simp[go_sem,mdZ];refine fR badU (.zk (zp _) (.zk (zA ⟨[],0⟩) .nil)) ?_;exact .zsc _
theorem pL(n)(j:qT n=true)(m g)(l:SmS m.sK)(o:m.sc.sC.length<=1000000)(p:qi qe 29 [eTS tsA,eMd m] (aB g)) :
  qi qe 8 [eTS tsA,eSc scA,lBd bsA,eNd n,eMd m] (tup3 (un g scA (MV tsA scA bsA 1 n).1 (MV tsA scA bsA 1 n).2 m)):=
 qb7 tsA scA bsA n m g _ _ (zW2 ((Cx.ZK (ts:=tsA) (sc:=scA) (b:=bsA) (N:=1) (n:=n)).length_le) cxA.len) l (fun x r=>by have i:=cxA.betw (Cx.ZK.subset r);exact⟨cxA.sms i,by rw[i.sc];decide⟩) o p (cxA.models j)
theorem smZ:SmS mdZ.sK:=⟨zDe,fun s g=>absurd g qG,fun s g=>absurd g qG⟩
theorem headM:qi qe 6 [] (aB true):=by
 have d1:=qbK tsA scA cxA.F;rw[defA]at d1;have U:∀ l,l∈[[],[0],[1],[2],[0,1],[0,2],[1,2],[0,1,2]]->mkA l∈LL tsA scA bsA 1:=by decide +kernel
 have g:∀ l,l∈[[],[0],[1],[2],[0,1],[0,2],[1,2],[0,1,2]]->SmS (mkA l).sK/\MdV tsA (mkA l):=fun l j=>memA l (U l j)
 obtain⟨o,r⟩:=g [2] zDe;have t:=pL nTwo (by decide +kernel) (mkA [2]) true o zDe (pB tsA _ r);rw[show un true scA (MV tsA scA bsA 1 nTwo).1 (MV tsA scA bsA 1 nTwo).2 (mkA [2])=(mkA [1,2],1,0) by decide +kernel]at t;have C:=pL (nOp 31) (by decide +kernel) (mkA [2]) true o zDe (pB tsA _ r);rw[show un true scA (MV tsA scA bsA 1 (nOp 31)).1 (MV tsA scA bsA 1 (nOp 31)).2 (mkA [2])=(mdZ,0,270) by decide +kernel]at C;have I:=pL nTwo (by decide +kernel) mdZ false smZ zDe badM;rw[show un false scA (MV tsA scA bsA 1 nTwo).1 (MV tsA scA bsA 1 nTwo).2 mdZ=(mdZ,0,1) by decide +kernel]at I;have J:=minU cxA (n:=nTwo) (by decide +kernel);rw[show jf (fun x=>1*szS x.sK) (MV tsA scA bsA 1 nTwo).1 (MV tsA scA bsA 1 nTwo).2=(mkA [1,2],2,0) by decide +kernel]at J;have P:=maxU cxA (n:=nOp 30) (by decide +kernel);rw[show jf (fun x => -1*szS x.sK) (MV tsA scA bsA 1 (nOp 30)).1 (MV tsA scA bsA 1 (nOp 30)).2=(mkA [0,1,2],-3,0) by decide +kernel]at P;have R:=Kq (mkA [0,1]) (mkA [1,2]) (g _ zDe).1 (g _ zDe).1 zDe;rw[show ui (mkA [0,1]) (mkA [1,2])=2 by decide +kernel]at R;have T:=Kq (mkA [2]) mdZ o smZ zDe;rw[show ui (mkA [2]) mdZ = -1 by decide +kernel]at T;have p:∀ l,l∈[[],[0],[1],[2],[0,1],[0,2],[1,2],[0,1,2]]->qi qe 12 [eMd (mkA l),eMd (mkA l)] (aB true):=fun l j=>by
  have:=qoN (mkA l) (mkA l) (qtY (g l j).1 (by show [3].length<=_;decide))
  rwa[decide_eq_true rfl]at this
 have i:∀ x y:Md,WKs [eMd x,eMd y] [eMd x,eMd y]:=fun x y => .zk (yM x) (.zk (yM y) .nil)
 refine qSU call6 func6 rfl ?_;refine fR d1 (.cons wtsA (.cons wscA .nil)) ?_;refine fR (of29 [2]) (.cons wscA (.cons (WK.ints [2]) .nil)) ?_;refine fR t (.cons wtsA (.cons wscA (.zk (jw _) (.cons wnA (.zk (yM _) .nil))))) ?_;refine fR J (.cons wtsA (.cons wscA (.zk (jw _) (.cons wnA .nil)))) ?_;refine fR P (.cons wtsA (.cons wscA (.zk (jw _) (.cons (wnO 30) .nil)))) ?_;refine fR C (.cons wtsA (.cons wscA (.zk (jw _) (.cons (wnO 31) (.zk (yM _) .nil))))) ?_;refine fR I (.cons wtsA (.cons wscA (.zk (jw _) (.cons wnA (.cons wmZ .nil))))) ?_
 try(refine cJ zKr ?_;simp[go_sem])
 refine fR (of29 [0,1]) (.cons wscA (.cons (WK.ints [0,1]) .nil)) ?_
 try(refine cJ zKr ?_;simp[go_sem])
 refine fR (of29 [1,2]) (.cons wscA (.cons (WK.ints [1,2]) .nil)) ?_
 try(refine cJ zKr ?_;simp[go_sem])
 refine fR R (i _ _) ?_
 try(refine cJ zKr ?_;simp[go_sem])
 refine fR T (.zk (yM _) (.cons wmZ .nil)) ?_
 try(refine cJ zKr ?_;simp[go_sem])
 refine fR (of29 [1,2]) (.cons wscA (.cons (WK.ints [1,2]) .nil)) ?_
 try(refine cJ zKr ?_;simp[go_sem])
 refine fR (p [1,2] zDe) (i _ _) ?_
 try(refine cJ zKr ?_;simp[go_sem])
 refine fR (of29 [1,2]) (.cons wscA (.cons (WK.ints [1,2]) .nil)) ?_
 try(refine cJ zKr ?_;simp[go_sem])
 refine fR (p [1,2] zDe) (i _ _) ?_
 try(refine cJ zKr ?_;simp[go_sem])
 refine fR (of29 [0,1,2]) (.cons wscA (.cons (WK.ints [0,1,2]) .nil)) ?_
 try(refine cJ zKr ?_;simp[go_sem])
 refine fR (p [0,1,2] zDe) (i _ _) ?_;exact .zsc _
end JP
set_option maxHeartbeats 1000000
namespace W47
open Y1 YF P1 Q4 E3 GD GP GR GS GV GX IK IM IM
theorem qgA{ts sc}(F:Fit9 ts sc)(l:sumI sc.sC<=5)(g lp):SmS (anyM sc (vsT ts) (defB ts sc) g lp).sK:=by
 have i:=KS F l;have:=F.s4;have:=F.nf;exact qlR sc _ _ g lp zOm (by simp[defB];omega) fun b j=>⟨(i b j).1,(i b j).2.1⟩
theorem qgB{ts sc b N}(X:Cx ts sc b N){n}(o:qT n=true)(i lp)(p:0<=lp) :
  qi qe 8 [eTS ts,eSc sc,lBd b,eNd n,eMd (anyM sc (vsT ts) (defB ts sc) i (lp % sc.sN))] (tup3 (jf (fun x=>ui x (anyM sc (vsT ts) (defB ts sc) i (lp % sc.sN))) (MV ts sc b N n).1 (MV ts sc b N n).2)):=by
 have r:=qf4 X.F X.hS X.N1 i lp p;have I:=(Cx.ZK (ts:=ts) (sc:=sc) (b:=b) (N:=N) (n:=n)).length_le;have j:=X.len;have t:sc.sC.length<=1000:=by have:=X.F.g.1;have:=X.F.ns;have:=X.S.h.ns;omega
 have:=qb7 ts sc b n (anyM sc (vsT ts) (defB ts sc) i (lp % sc.sN)) true (MV ts sc b N n).1 (MV ts sc b N n).2 zOm (qgA X.F X.h5 i _) (fun x C=>by
  have l:=X.betw (Cx.ZK.subset C);exact⟨X.sms l,by rw[l.sc];omega⟩) (by show sc.sC.length<=_;omega) (pB ts _ (qt6 X.F X.z X.hS r)) (X.models o)
 rwa[un,if_pos ⟨rfl,rfl,rfl⟩]at this
end W47
namespace JN
open Y1 P1 Q4 E3 E5 FC GV IA IK IL YE YG EH IL ED
variable {ts:TS} {sc:Sc} {b:List Bd} {N:Nat}
theorem quC{x}(S:OkSp x.ts){f g}(hf:qT f=true)(o:qT (nk 41 [f,g])=true)(i:(zf x.ts f).2=0){c}(p:gX x (nk 41 [f,g]) = .ok c):∃ a,gX x f = .ok a/\(c=true->a=true):=by
 obtain⟨r,d3⟩:=gX_ok p;have t:zf x.ts f=((zf x.ts f).1,0):=Prod.ext rfl i;have C:=(qd1 x S.h S.hb S.hk hf t 4001 (Nat.le_refl _) 0).F;rw[<-(qd1 x S.h S.hb S.hk o r 4002 zOm 0).F]at d3;have e:cD x 4002 rho0 (nk 41 [f,g])=opD x 41 ⟨#[]⟩ 0 [cD x 4001 rho0 f,cD x 4001 rho0 g]:=by
  rw[cD,if_neg (by show ¬(41:Int)=1;omega),if_neg (by show ¬(41:Int)=47;omega)];rfl
 rw[e]at d3;have I:(opD x 41 ⟨#[]⟩ 0 [cD x 4001 rho0 f,cD x 4001 rho0 g]).F ⟨0,[]⟩=bX ((cD x 4001 rho0 f).F ⟨0,[]⟩) fun a=>bX ((cD x 4001 rho0 g).F ⟨0,[]⟩) fun b => .ok (a&&b):=by simp[opD,opF,kD]
 rw[I,C]at d3;rw[kV,if_pos i];cases j:(den x (zf x.ts f).1).F ⟨0,[]⟩ with
 |error e=>rw[j]at d3;cases d3
 |ok a =>
  rw[j,zr]at d3;cases l:(cD x 4001 rho0 g).F ⟨0,[]⟩ with
  |error e=>rw[l]at d3;cases d3
  |ok b =>
   rw[l,zr]at d3;cases d3;exact⟨a,rfl,fun h=>(qH _ _ ▸ h).1⟩
theorem quD{n}(g:(yf ts [] n).1=0):(zf ts n).2=0\/(zf ts n).2=2:=by
 unfold zf;rw[if_neg (zUs g)];split
 .exact .inl rfl
 .split
  .rename_i d i;exact .inr (Wn i)
  .exact .inl rfl
theorem quE(X:Cx ts sc b N){f g}(hf:qT f=true)(I:qT (nk 41 [f,g])=true)(J:(yf ts [] f).1=0)(h:(MV ts sc b N (nk 41 [f,g])).2=0) :
  (MV ts sc b N f).2=2\/((MV ts sc b N f).2=0/\∀ x,x∈(MV ts sc b N (nk 41 [f,g])).1->x∈(MV ts sc b N f).1):=by
 obtain⟨t,P⟩:=mv_ok h;have R:=X.S.sp X.hk;rcases quD J with T|C
 .refine .inr ?_
  have key:∀ m,m∈LL ts sc b N->(hV ⟨ts,m⟩ f).2=0/\((hV ⟨ts,m⟩ (nk 41 [f,g])).1=true->(hV ⟨ts,m⟩ f).1=true):=fun m i=>by
   obtain⟨r,s,f1,g1,v1⟩:=qd7 (t m i);obtain⟨a,U,o⟩:=quC (x:=⟨ts,m⟩) R hf I T g1;rw[hV_of f1 U,v1];refine⟨rfl,fun q=>?_⟩;simp only[qH]at q⊢;exact⟨q.1,o q.2⟩
  have e1:=mv_of (n:=f) (ts:=ts) (sc:=sc) (b:=b) (N:=N) fun m i=>(key m i).1
  rw[e1,P];refine⟨rfl,fun x j=>?_⟩;rw[List.mem_filter]at j⊢;exact⟨j.1,(key x j.1).2 j.2⟩
 .refine .inl ?_
  have i:=qtR X [] 0 zOm;cases p:LL ts sc b N with
  |nil=>rw[p]at i;exact absurd i qG
  |cons m l =>
   have i:m∈LL ts sc b N:=by rw[p];exact zg ..
   obtain⟨r,s,f1,g1,v1⟩:=qd7 (t m i);have:hV ⟨ts,m⟩ f=(false,2):=by
    rw[kU,f1,kV,if_neg (by show ¬(zf ts f).2=0;rw[C];decide)];show fmV (.error (zf ts f).2)=_;rw[C];rfl
   rw[MV,p,modV];simp[modG,this]
end JN
set_option maxHeartbeats 1000000
namespace W49
open Y1 YF P1 E3 E4 E5 F1 GD GP GS GV HE IB IE IK IM I5 W41 W42 W47 JM JN QB
theorem monoW(ts)(hs:bigT ts)(sc raw)(hr:∀ l,l∈raw->∀ x,x∈l->0<=x/\x<=255)(n j lp)(P:0<=lp/\lp<=255)(g) :
  qi qe 5 [.agg (vL ts sc raw n j lp),eNd g] (aB true):=by
 have J:=qf3 ts hs sc raw hr (nk 41 [n,g]) j lp P;have a5:=fun h=>pH (ts:=ts) hs (sc:=sc) (raw:=raw) (n:=nk 41 [n,g]) h
 have I:=qf3 ts hs sc raw hr n j lp P;have hx:=fun h=>pH (ts:=ts) hs (sc:=sc) (raw:=raw) (n:=n) h
 obtain⟨r,t,i2,C,q2⟩:=g;have a6:eNd (.mk r t i2 C q2) = .agg [aI r,aS t,aI i2,.lst false (C.map cNd),aI q2]:=by rw[eNd,yp];rfl
 rw[a6];have a7:cNd (.mk r t i2 C q2)=[aI r,aS t,aI i2,.lst false (C.map cNd),aI q2]:=by rw[yp];rfl
 generalize ak:Nd.mk r t i2 C q2=g at *
 obtain⟨op,o,i,ks,q⟩:=n;have a8:vL ts sc raw (.mk op o i ks q) j lp=[.lst false (ts.sS.map uT),.lst false (ts.sA.map jY),lPd ts.sT,lFa ts.sP,lI sc.sC,aI sc.sN,lRaw raw,aI op,aS o,aI i,.lst false (ks.map cNd),aI q,lBB j,u8 lp]:=by unfold vL;rw[yp];rfl
 have ae:eNd (.mk op o i ks q) = .agg [aI op,aS o,aI i,.lst false (ks.map cNd),aI q]:=by rw[eNd,yp];rfl
 have wc:WK (.agg (vL ts sc raw (.mk op o i ks q) j lp)) (.agg (vL ts sc raw (.mk op o i ks q) j lp)) := .hf (qt8 ts sc raw _ j lp);rw[a8]at wc⊢;rw[a8]at I;generalize hn:Nd.mk op o i ks q=n at *
 have wn:WK (.agg [aI op,aS o,aI i,.lst false (ks.map cNd),aI q]) (eNd n):=by rw[<-ae];exact .hf (qK n)
 have a9:WK (.agg [.lst false (ts.sS.map uT),.lst false (ts.sA.map jY),lPd ts.sT,lFa ts.sP]) (eTS ts) := .hf (zp ts);have aa:WK (.agg [lI sc.sC,aI sc.sN]) (eSc sc) := .hf (zA sc);refine qSU call5 func5 rfl ?_;refine fR JP.headM .nil ?_;have af:cNd n=[aI op,aS o,aI i,.lst false (ks.map cNd),aI q]:=by rw[<-hn,yp];rfl
 have ab:WK (.lst true [[aI op,aS o,aI i,.lst false (ks.map cNd),aI q],[aI r,aS t,aI i2,.lst false (C.map cNd),aI q2]]) (lNd [n,g]):=by rw[<-af,<-a7];exact wkNd [n,g]
 have p:WK (.agg [aI 41,aS ⟨#[]⟩,aI 0,.lst true [[aI op,aS o,aI i,.lst false (ks.map cNd),aI q],[aI r,aS t,aI i2,.lst false (C.map cNd),aI q2]],aI 0]) (eNd (nk 41 [n,g])):=ky 41 ⟨#[]⟩ 0 0 ab;have ag:WK (.agg [.lst false (ts.sS.map uT),.lst false (ts.sA.map jY),lPd ts.sT,lFa ts.sP,lI sc.sC,aI sc.sN,lRaw raw,aI 41,aS ⟨#[]⟩,aI 0,.lst true [[aI op,aS o,aI i,.lst false (ks.map cNd),aI q],[aI r,aS t,aI i2,.lst false (C.map cNd),aI q2]],aI 0,lBB j,u8 lp]) (.agg (vL ts sc raw (nk 41 [n,g]) j lp)):=by
  have e:vL ts sc raw (nk 41 [n,g]) j lp=[.lst false (ts.sS.map uT),.lst false (ts.sA.map jY),lPd ts.sT,lFa ts.sP,lI sc.sC,aI sc.sN,lRaw raw,aI 41,aS ⟨#[]⟩,aI 0,lNd [n,g],aI 0,lBB j,u8 lp]:=by unfold vL;rw[yp];rfl
  rw[e];have hc:=fun c h=>WK.hf (YO ts c h)
  exact WK.aggs (.cons (hc _ (by simp[cTS])) (.cons (hc _ (by simp[cTS])) (.cons (hc _ (by simp[cTS])) (.cons (hc _ (by simp[cTS])) (.zk (zh _) (.zs (.zk (pG raw) (.zs (.zs (.zs (.cons ab (.zs (.zk (KR _) (.zs .nil))))))))))))))
 refine tS I (.cons wc .nil) ?_;cases ad:ok29 ts sc raw n with
 |false =>
  simp[go_sem,tupM];exact .zsc _
 |true =>
 simp only[tupM,reduceIte];obtain⟨X,R,ah⟩:=hx ad;generalize hb:yg ts sc raw=b at *
 generalize hN:sc.sN.toNat=N at *
 have al:=X.hS;have wb:WK (lBd b) (lBd b) := .hf (jw b);have ai:∀ m,m∈LL ts sc b N->tiny m:=fun m hm=>X.tiny (X.betw hm)
 have aj:=X.len;have an:=qf4 X.F X.hS X.N1 j lp P.1;have c1:=qgB X R j lp P.1;have ao:=qgA X.F X.h5 j (lp % sc.sN);simp[go_sem];refine tS J (.cons ag .nil) ?_;cases a0:ok29 ts sc raw (nk 41 [n,g]) with
 |false =>
  simp[go_sem,tupM];exact .zsc _
 |true =>
 simp only[tupM,reduceIte];have T:=(a5 a0).2.1;clear a5 a0 hx ad I J;have c2:=qgB X T j lp P.1;have a2:=quE X R T ah;have m1:=minU X R;have m2:=minU X T;have x1:=maxU X R;have x2:=maxU X T;have cS:∀ x,x∈LL ts sc b N->qi qe 17 [eMd x] (aI (szS x.sK)):=fun x hx=>quB x (X.sms (X.betw hx))
 have s1:=(Cx.ZK (ts:=ts) (sc:=sc) (b:=b) (N:=N) (n:=n)).subset;have s2:=(Cx.ZK (ts:=ts) (sc:=sc) (b:=b) (N:=N) (n:=nk 41 [n,g])).subset;generalize hM:anyM sc (vsT ts) (defB ts sc) j (lp % sc.sN)=m at *
 generalize (MV ts sc b N n).2=aq at *
 generalize (MV ts sc b N n).1=L1 at *
 generalize (MV ts sc b N (nk 41 [n,g])).2=a3 at *
 generalize (MV ts sc b N (nk 41 [n,g])).1=L2 at *
 generalize (fun x=>ui x m)=D at *
 have wN:∀ y z,WK y (eNd z)->WKs [.agg [.lst false (ts.sS.map uT),.lst false (ts.sA.map jY),lPd ts.sT,lFa ts.sP],.agg [lI sc.sC,aI sc.sN],lBd b,y,eMd m] [eTS ts,eSc sc,lBd b,eNd z,eMd m]:=fun y z h => .cons a9 (.cons aa (.cons wb (.cons h (.zk (yM m) .nil))))
 have wM:∀ y z,WK y (eNd z)->WKs [.agg [.lst false (ts.sS.map uT),.lst false (ts.sA.map jY),lPd ts.sT,lFa ts.sP],.agg [lI sc.sC,aI sc.sN],lBd b,y] [eTS ts,eSc sc,lBd b,eNd z]:=fun y z h => .cons a9 (.cons aa (.cons wb (.cons h .nil)))
 by_cases a4:a3=0
 case neg =>
  rw[show jf D L2 a3=(mdZ,0,a3) from if_pos a4]at c2;simp[go_sem];refine tS c2 (wN _ _ p) ?_;simp[go_sem,a4];exact .zsc _
 subst a4;cases L2 with
 |nil =>
  rw[show jf D [] 0=(mdZ,0,270) from rfl]at c2;simp[go_sem];refine fR c2 (wN _ _ p) ?_;exact .zsc _
 |cons U l2 =>
 rcases a2 rfl with e1|⟨e1,a1⟩
 .subst e1
  rw[show jf D L1 2=(mdZ,0,2) from rfl]at c1;rw[show jf D (U :: l2) 0=(yw D U l2,D (yw D U l2),0) from rfl]at c2;simp[go_sem];refine fR c2 (wN _ _ p) ?_;refine fR c1 (wN _ _ wn) ?_;exact .zsc _
 subst e1;cases L1 with
 |nil=>exact absurd (a1 U (zg ..)) qG
 |cons y1 l1 =>
 have hb:=fun f=>qt7 (g:=f) a1 rfl rfl
 have bm:=fun (f:Md->Int) y l=>qf1 f l y
 simp only[jf,ne_eq,not_true_eq_false,if_false]at c1 c2 m1 m2 x1 x2;have z1:=cS _ (s1 (bm (fun x=>1*szS x.sK) y1 l1));have z2:=cS _ (s2 (bm (fun x=>1*szS x.sK) U l2));have z3:=cS _ (s1 (bm (fun x => -1*szS x.sK) y1 l1));have z4:=cS _ (s2 (bm (fun x => -1*szS x.sK) U l2));have hd:=hb D;have h1:=hb fun x=>1*szS x.sK
 have h2:=hb fun x => -1*szS x.sK
 try simp only at h1 h2
 generalize yw (fun x=>1*szS x.sK) y1 l1=k1 at *
 generalize yw (fun x=>1*szS x.sK) U l2=k2 at *
 generalize yw (fun x => -1*szS x.sK) y1 l1=k3 at *
 generalize yw (fun x => -1*szS x.sK) U l2=k4 at *
 generalize yw D y1 l1=k5 at *
 generalize yw D U l2=k6 at *
 have h3:szS k1.sK<=szS k2.sK:=zOm;have h4:szS k4.sK<=szS k3.sK:=zOm;have w1:∀ x:Md,WKs [eMd x] [eMd x]:=fun x => .zk (yM x) .nil
 simp[go_sem];refine fR c2 (wN _ _ p) ?_;refine fR c1 (wN _ _ wn) ?_;refine fR m1 (wM _ _ wn) ?_;refine fR m2 (wM _ _ p) ?_;refine fR x1 (wM _ _ wn) ?_;refine tS x2 (wM _ _ p) ?_;simp[go_sem,hd]
 first|refine tS z1 (w1 _) ?_ | (refine cJ zKr ?_;simp[go_sem,hd,h3,h4];refine tS z1 (w1 _) ?_)
 simp[go_sem]
 first|refine tS z2 (w1 _) ?_ | (refine cJ zKr ?_;simp[go_sem,hd,h3,h4];refine tS z2 (w1 _) ?_)
 simp[go_sem,h3]
 first|refine tS z3 (w1 _) ?_ | (refine cJ zKr ?_;simp[go_sem,hd,h3,h4];refine tS z3 (w1 _) ?_)
 simp[go_sem]
 first|refine tS z4 (w1 _) ?_ | (refine cJ zKr ?_;simp[go_sem,hd,h3,h4];refine tS z4 (w1 _) ?_)
 simp[go_sem,h4];exact .zsc _
end W49
namespace DL
open Go.EvW Go.RowKit Go.ChangeShapes Go.WideShapes
theorem own:ownKnob qe.godebug=none:=by kernel_rfl
theorem laid:laidOutB qe=true:=by kernel_rfl
abbrev tabL : List (String × DataW Unit) := [("math/bits.deBruijn32tab", Rows.laid_math_bits_deBruijn32tab), ("math/bits.deBruijn64tab", Rows.laid_math_bits_deBruijn64tab), ("internal/strconv.uint64pow10", Rows.laid_internal_strconv_uint64pow10)]
def pows:List Int:=[1,10,100,1000,10000,100000,1000000,10000000,100000000,1000000000,10000000000,100000000000,1000000000000,10000000000000,100000000000000,1000000000000000,10000000000000000,100000000000000000,1000000000000000000,10000000000000000000]
theorem gPow : qe.globalNamed "internal/strconv.uint64pow10" = some 0 := by kernel_rfl
theorem tPow:(qe.globals[0]?).map (·.type)=some 360:=by kernel_rfl
theorem uPow:qe.underlying 360=some (.array 20 330):=by kernel_rfl
theorem uU64:qe.underlying 330=some (.int .u64):=by kernel_rfl
theorem quF{W}(h:laidMetH qe tabL W):ZO (·<W.heap.size) W.heap:=by
  rw[MakeChecks.laidMetH_plain _ _ _ zKr]at h;obtain⟨ps,I,_⟩:=h
  obtain ⟨g, t, l, o, p, J, P, R, T⟩ := qc6 I ("internal/strconv.uint64pow10", Rows.laid_internal_strconv_uint64pow10) zSp
  obtain rfl:=Option.some.inj (gPow.symm.trans J);obtain rfl:=Option.some.inj (tPow.symm.trans P);have U:l.toList=pows.map fun i => .int .u64 i:=qpO uPow uU64 zKr zKr (ns:=pows) T
  obtain⟨e,fr,C⟩:=qpP gPow R;intro x j;have j:x∈[(0,pows.map fun i=>Value.int .u64 i)]:=j;rw[List.mem_singleton]at j;subst j;refine⟨(Array.getElem?_eq_some_iff.1 C).1,e,fr,?_⟩;show W.heap[0]?=_;rw[C];have:l=(pows.map fun i=>Value.int .u64 i).toArray:=by rw[<-U]
  rw[this]
theorem quG(os args):laidMetH qe tabL ((World.doorLaid qe 4000 os).forCall (fun _ _=>0) ⟨#[],args,[]⟩).memory:=
 laidMetH_of_parts3 (fuel:=8) (laidMet_of_run' 8 zKr zKr) zKr zKr
end DL
namespace DM
open Go.EvW E3 DT
instance:Inhabited Rl:=⟨⟨0,[]⟩⟩
instance:Inhabited Sc:=⟨⟨[],0⟩⟩
instance:Inhabited Md:=⟨⟨default,[],0⟩⟩
theorem shRel(N):ShU qe N 96 cRel (fun _=>True):=
 ((ShU.struct (fs:=[(3,0),(28,1)]) zKr (.cons' (o':=1) zKr (Yg N) (.cons' (o':=2) zKr (kx N) (.nil 2))) zKr).map
  (fun x=>(⟨x.1,x.2.1⟩:Rl)) (fun _=>rfl) (fun x h=>trivial)).le zOm
theorem quH(N):ShU qe N 30 (fun s:Sc=>[lI s.sC,aI s.sN]) (fun _=>True):=
 ((ShU.struct (fs:=[(28,0),(3,1)]) zKr (.cons' (o':=1) zKr (kx N) (.cons' (o':=2) zKr (Yg N) (.nil 2))) zKr).map
  (fun x=>(⟨x.1,x.2.1⟩:Sc)) (fun _=>rfl) (fun x h=>trivial)).le zOm
end DM
namespace DN
open Go.EvW P1 Y1 EO DT GS W41
theorem quI:qe.underlying 58=some (.slice 4):=by kernel_rfl
theorem unBB:qe.underlying 36=some (.slice 58):=by kernel_rfl
theorem unU8s:qe.underlying 115=some (.slice 5):=by kernel_rfl
theorem unRaw:qe.underlying 32=some (.slice 115):=by kernel_rfl
theorem quJ(N):ShU qe N 58 (fun l:List Bool=>[lB l]) (fun _=>True):=
 ((ShU.slice quI (kw N) (fun _ _=>zKr) (Nat.lt_of_lt_of_eq Nat.zero_lt_one zKr) zKr).le zOm).map (fun l=>l) (fun _=>rfl) fun _ _=>trivial
theorem shBB(N):ShU qe N 36 (fun l:List (List Bool)=>[lBB l]) (fun _=>True):=
 ((ShU.slice unBB (quJ N) (fun _ _=>zKr) (Nat.lt_of_lt_of_eq Nat.zero_lt_one zKr) zKr).le zOm).map (fun l=>l) (fun _=>rfl) fun _ _=>trivial
abbrev WS:=TS×Sc×List (List Int)×Nd×List (List Bool)×Int
abbrev cCs(x:WS):List AV:=vL x.1 x.2.1 x.2.2.1 x.2.2.2.1 x.2.2.2.2.1 x.2.2.2.2.2
end DN
namespace DO
open Go.EvW DT DM DN W41
def qgC(l:List Int):Prop:=∀ x,x∈l->0<=x/\x<=255
def qgD(r:List (List Int)):Prop:=∀ l,l∈r->qgC l
theorem shU8r(N):ShU qe N 115 (fun l:List Int=>[.lst false (l.map fun x=>[u8 x])]) qgC:=
 ((ShU.slice unU8s (shU8 N) (fun _ _=>zKr) (Nat.lt_of_lt_of_eq Nat.zero_lt_one zKr) zKr).le zOm).map (fun l=>l) (fun _=>rfl) fun _ h=>h.2
theorem quK(N):ShU qe N 32 (fun l:List (List Int)=>[lRaw l]) qgD:=
 ((ShU.slice unRaw (shU8r N) (fun _ _=>zKr) (Nat.lt_of_lt_of_eq Nat.zero_lt_one zKr) zKr).le zOm).map (fun l=>l) (fun _=>rfl) fun _ h=>h.2
def okCs(x:WS):Prop:=okTA x.1/\qgD x.2.2.1/\(0<=x.2.2.2.2.2/\x.2.2.2.2.2<=255)
theorem quL(N):ShU qe N 38 cCs okCs:=
 ((ShU.struct (fs:=[(27,0),(30,4),(32,6),(35,7),(36,12),(5,13)]) zKr
  (.cons' (o':=4) zKr (qp4 N) (.cons' (o':=6) zKr (quH N) (.cons' (o':=7) zKr (quK N) (.cons' (o':=12) zKr (Vy N) (.cons' (o':=13) zKr (shBB N) (.cons' (o':=14) zKr (shU8 N) (.nil 14))))))) zKr).map
  (fun x=>((x.1,x.2.1,x.2.2.1,x.2.2.2.1,x.2.2.2.2.1,x.2.2.2.2.2.1):WS)) (fun x=>by simp[cCs,vL]) (fun x h=>⟨h.1,h.2.2.1,h.2.2.2.2.2.1⟩)).le zOm
theorem quM:Yf qe 38 (fun x => .agg (cCs x)) okCs:=Yf.struct zKr quL
end DO
end Go.Proofs.YtipbakanneogpaaGreatDoor
