/-
  Own library, part 5: an abstract reading of values and a calculus over it; contracts of functions; plain lemmas.
-/
import Derived.Test.YtipbakanneogpaaGreatDoorMd
set_option linter.unusedVariables false
set_option linter.unusedSimpArgs false
set_option maxRecDepth 100000
open Go renaming Program->qb,TypeId->qc,Oper->zK,undef->qU
open Go.Proofs.Tryz renaming prog->qe
open List renaming getElem?_eq_some_iff->qk,mem_map->qn,getElem_mem->qs,range->qu,mem_cons->qy,getElem?_eq_getElem->qA,not_mem_nil->qG,getElem?_set_self->qL,mem_append->qM,getElem?_append_left->qN,take_length->qO,mem_singleton->qV,mem_cons_of_mem->q8,replicate->q9,mem_of_getElem?->zb,length_append->zd,map_append->ze,mem_cons_self->zg,getElem?_map->zn,drop_eq_getElem_cons->zu,append_assoc->zB,all_eq_true->zF,length_cons->zG,getElem?_append_right->zM,append_nil->zO,getD_eq_getElem?_getD->zS,length_map->zT,take_of_length_le->z6,drop_length->yd,mem_range->yi,getElem?_set_ne->yJ,cons_append->yP,mem_of_mem_take->jI,ext_getElem?->jS,foldl_append->vM,take_append_drop->vO,getElem?_cons_succ->v6,length_take->v8,getElem?_eq_none->uK,getD_cons_zero->uL,getElem?_toArray->wt,mem_flatMap->Qa,getElem?_range->Qc
open Go.IntKind renaming i64->qq
open Nat renaming le_refl->qr,le_trans->zQ,zero_add->yj
open Option.some renaming injEq->qv
open Bool renaming and_eq_true->qH
open Option renaming map_some->zq
open Int renaming mul_le_mul->jJ
namespace Go.Proofs.YtipbakanneogpaaGreatDoor
open Go Go.Ev Go.Proofs Tryz
namespace Y15
section
variable {I:Type}
def repL(g:I->I->Bool)(l:List I):List Bool:=(qu l.length).map fun i=>match l[i]? with|some x=>(l.take i).any fun y=>g x y|none=>false
theorem Qz(g)(l:List I):(repL g l).length=l.length:=by simp[repL]
theorem qaU(g)(l:List I){i}(h):(repL g l)[i]?=some ((l.take i).any fun y=>g l[i] y):=by
 simp[repL,h]
end
end Y15
namespace Y16
open P1 Y1 Y9 Y15
abbrev cDg(d:Dg):List AV:=[aI d.1,aI d.2]
def dups(l:List Bool):List Dg:=(l.filter id).map fun _=>(41,0)
def repB{I:Type}(g:I->I->Bool)(l:List I)(i:Nat):List Bool:=((repL g l).take (i+1)).drop i
def rp(d:Dg):List Dg:=if d.1=0 then [] else [d]
def ul(ts:TS)(i:Nat):List Dg:=match ts.sT[i]? with
 |some p=>dups (repB (fun x y:Pd=>decide (x.name=y.name)) ts.sT i)++(dups (repL (fun x y:tP×Int=>decide (x.1=y.1)) p.params)++rp (jO (mkCk ts i) p.params p.body))
 |none=>[]
def Q0(ts:TS)(g:List (tP×Nd))(i:Nat):List Dg:=match g[i]? with
 |some f=>dups (repB (fun x y:tP×Nd=>decide (x.1=y.1)) g i)++rp (yf ts [] f.2)
 |none=>[]
def yZ(ts:TS):List Dg:=
 dups (repL (fun x y:tP×Bool=>decide (x.1=y.1)) ts.sS)++(dups (repL (fun x y:Fld=>decide (x.name=y.name)&&decide (x.sS=y.sS)) ts.sA) ++
  ((qu ts.sT.length).flatMap (ul ts)++(qu ts.sP.length).flatMap (Q0 ts ts.sP)))
abbrev lDg(l:List Dg):AV := .lst false (l.map cDg)
theorem Za(l):(dups l).length<=l.length:=by
 grind [dups,zT,List.length_filter_le]
theorem qaV(d):(rp d).length<=1:=by unfold rp;split<;>simp
theorem KI(f:Nat->List Dg)(hf:∀ i,(f i).length<=10):∀ k,((qu k).flatMap f).length<=10*k
 | 0=>zSp
 |k+1=>by
  rw[List.range_succ,List.flatMap_append,zd];have:=KI f hf k;have:=hf k;simp only[List.flatMap_cons,List.flatMap_nil,zO];omega
theorem qaW{I}(g)(l:List I)(i):(repB g l i).length<=1:=by
 grind [repB,List.length_drop,v8]
theorem qaX{ts}(h:okTS ts)(i):(ul ts i).length<=10:=by
 unfold ul;split
 .rename_i p g
  have j:=(h.pl p (zb g)).1
  grind [Za,repB,decide,qaW,repL,Qz,qaV]
 .simp
theorem qmE(ts g i):(Q0 ts g i).length<=10:=by
 grind [Q0,Za,repB,decide,qaW,qaV,yf]
end Y16
namespace YU
open Go.RowKit
end YU
namespace YV
end YV
namespace YW
open P2 Y2 Y3
theorem aV{ns k}(h:okKd ns k)(C:ns<=4):k.ts.length<=64:=by
 have o:∀ t,t∈k.ts->t∈([0,1,2,3]:List Int).flatMap fun a=>([0,1,2,3]:List Int).flatMap fun b=>([0,1,2,3]:List Int).map fun c=>[a,b,c]:=fun t I=>by
  obtain⟨l,rfl,j,i⟩:=h.ts t I;have J:=h.ar.2;have g:∀ x:Int,0<=x->x<ns->x∈([0,1,2,3]:List Int):=fun x p r=>zSo
  match l,j,i with
  | [],j,i=>simp[pad]
  | [a],j,i =>
   have:=g a (i a zSp).1 (i a zSp).2;simp only[Qa,qn];exact⟨a,this,0,zSp,0,zSp,by simp[pad]⟩
  | [a,b],j,i =>
   have p:=g a (i a zSp).1 (i a zSp).2;have r:=g b (i b zSp).1 (i b zSp).2;simp only[Qa,qn];exact⟨a,p,b,r,0,zSp,by simp[pad]⟩
  | [a,b,c],j,i =>
   have p:=g a (i a zSp).1 (i a zSp).2;have r:=g b (i b zSp).1 (i b zSp).2;have P:=g c (i c zSp).1 (i c zSp).2;simp only[Qa,qn];exact⟨a,p,b,r,c,P,by simp[pad]⟩
  |_ :: _ :: _ :: _ :: _,j,i=>simp at j;omega
 have:=List.Nodup.length_le_of_subset h.nd o;simp_all
end YW
namespace YX
open YM YF P1 Y1
structure IV where
 arg:Option Nd
 size:Int
 name:tP
abbrev IEnv:=List (tP×IV)
def aArg:Option Nd->AV
 |some n => .ip (cNd n)
 |none => .sc (.pointer none)
abbrev cIV(v:IV):List AV:=[aArg v.arg,aI v.size,aS v.name]
abbrev eIV(v:IV):AV := .agg (cIV v)
abbrev eEnv(env:IEnv):AV := .ims (encK aS eIV env)
structure ISt where
 last:Int
 sM:Int
abbrev cIn(ts:TS)(tb:Nat)(s:ISt):List AV:=cTS ts++[.mp tb,aI s.last,aI s.sM]
theorem qmF(a):HF (aArg a):=by
 cases a with
 |none=>exact HF.sc _
 |some n=>exact HF.ip (vE n)
theorem qmG(v):HF (eIV v):=HF.agg fun c g=>by
 simp only[cIV,qy,qG,or_false]at g;rcases g with rfl|rfl|rfl
 .exact qmF _
 .exact HF.sc _
 .exact HF.sc _
theorem qaY(op):qi qe 121 [aI op] (aB (decide (op=15\/op=45\/op=46))):=by
 refine qSV call121 func121 rfl ?_;by_cases g:op=15
 .simp [go_sem,g];exact .zsc _
 by_cases i:op=45
 .simp [go_sem,i];exact .zsc _
 by_cases j:op=46
 .simp [go_sem,j];exact .zsc _
 simp[go_sem,g,i,j];exact .zsc _
def nd0:Nd := .mk 0 ⟨#[]⟩ 0 [] 0
abbrev eN0:AV := .agg [aI 0,aS ⟨#[]⟩,aI 0,.lst true [],aI 0]
theorem qaZ:WK eN0 (eNd nd0):=WK.aggs (.zs (.zs (.zs (.cons (WK.lst fun r g=>absurd g qG) (.zs .nil)))))
def payS(n:Int)(s:ISt):ISt:=⟨s.last,s.sM+n⟩
theorem payU(ts tb s n)(p : -1000000<=s.sM/\s.sM<=1000000)(r:0<=n/\n<=1000000){mu xb}(j:mu[xb]?=some (.arr (cIn ts tb s))) :
  qD qe 117 [.ptr xb 0,aI n] mu fun e m=>m=mu.set xb (.arr (cIn ts tb (payS n s)))/\e=if s.sM+n<=4000 then .ret (.tup []) else .pan (jZ 2 0):=by
 refine qSW call117 func117 rfl {} ?_;have o:qq.wrap (s.sM+n)=s.sM+n:=zWr;have g:xb<mu.length:=(qk.1 j).1;have i:∀ c,(mu.set xb c)[xb]?=some c:=fun c=>qL g
 simp[go_sem,j,i,o];by_cases l:s.sM+n<=4000
 .simp [go_sem,l]
  refine fR (zU true 2 nd0).toP (.zs (.zs (.cons qaZ .nil))) ?_;rfl
 .simp [go_sem,l]
  refine kL (zU false 2 nd0) (.zs (.zs (.cons qaZ .nil))) ?_;simp[go_sem];exact⟨rfl,rfl⟩
theorem lookE{mu}(env nm):yB qe mu 141 (eEnv env) (aS nm) true=some (match getK nm env with|some v => .tup [eIV v,aB true] | none => .tup [eIV ⟨none,0,⟨#[]⟩⟩,aB false]):=by
 have:=keyS.lookS (et:=207) (t:=141) zSi (mu:=mu) (venc:=eIV) (es:=env) (k:=nm) trivial (fun _ _=>trivial) (z:=eIV ⟨none,0,⟨#[]⟩⟩) (by simp[go_sem,aArg]) true;rw[this];cases getK nm env<;>rfl
def vI(env:IEnv)(n:Nd)(s:ISt):Except Dg ((Nd×Int)×ISt):=
 match getK n.name env with
 |none => .ok ((n,1),s)
 |some v=>match v.arg with
  |none => .ok ((.mk n.op v.name n.n n.sD n.pos,1),s)
  |some a=>if s.sM+v.size<=4000 then .ok ((a,v.size),payS v.size s) else .error (2,0)
def endI(ts:TS)(tb:Nat)(mu:Mu)(xb:Nat)(r:Except Dg ((Nd×Int)×ISt))(e:AEnd)(m:Mu):Prop:=
 match r with
 | .ok ((n,k),s)=>e = .ret (.tup [eNd n,aI k])/\m[xb]?=some (.arr (cIn ts tb s))/\(∀ i,i<mu.length->i≠xb->m[i]?=mu[i]?)/\mu.length<=m.length
 | .error d=>e = .pan (jZ d.1 d.2)/\(∀ i,i<mu.length->i≠xb->m[i]?=mu[i]?)/\mu.length<=m.length
theorem qmH(ts tb s)(hs : -1000000<=s.sM/\s.sM<=500000)(env)(hk:(env.map Prod.fst).Nodup)(hz:∀ e,e∈env->0<=e.2.size/\e.2.size<=500000)(n){mu xb}(J:mu[xb]?=some (.arr (cIn ts tb s))) :
  qD qe 118 [.ptr xb 0,eEnv env,eNd n] mu (endI ts tb mu xb (vI env n s)):=by
 refine qSW call118 func118 rfl { mt:=[5] } ?_;have t:=fun mu=>lookE (mu:=mu) env n.name
 have g:xb<mu.length:=(qk.1 J).1;obtain⟨B,hB⟩:∃ B,B=eEnv env:=⟨_,rfl⟩;rw[<-hB];simp only[<-hB]at t;unfold vI;cases P:getK n.name env with
 |none =>
  simp only[P]at t;simp[go_sem];refine pN _ (t _) ?_;simp[go_sem,aArg];exact⟨rfl,by rw[qN g];exact J,fun i j _=>qN j,zSp⟩
 |some v =>
  simp only[P]at t;have R:=hz (n.name,v) ((Zq hk).1 P);obtain⟨va,C,T⟩:=v;cases va with
  |none =>
   simp[go_sem];refine pN _ (t _) ?_;have I:(cNd n).set 1 (AV.sc (Value.string T))=cNd (.mk n.op T n.n n.sD n.pos):=by
    obtain⟨op,o,nn,ks,pos⟩:=n;simp[yp,Nd.op,Nd.name,Nd.n,Nd.sD,Nd.pos]
   simp[go_sem,aArg,I];exact⟨rfl,by rw[qN g];exact J,fun i j _=>qN j,zSp⟩
  |some a =>
   simp[go_sem];refine pN _ (t _) ?_;simp[go_sem,aArg];have U:0<=C/\C<=500000:=R;refine fZ (payU ts tb s C ⟨zOm,zOm⟩ ⟨zOm,zOm⟩ (by rw[qN g];exact J)) ?_ ?_
   .rintro r m ⟨rfl,e⟩
    by_cases l:s.sM+C<=4000
    .rw [if_pos l]at e
     cases e;rw[List.set_append_left _ _ g];simp[go_sem,l];refine fD [0,1,2,3,4,5,7,6] [(0,0,[]),(1,0,[]),(2,0,[]),(3,0,[]),(4,0,[]),(5,0,[]),(7,0,[]),(6,1,[5])] zKr zKr zSi ?_
     all_goals
      simp[go_sem];refine⟨rfl,?_,fun i j p=>?_,zSp⟩
      .rw [qN (zUs g),qL g];rfl
      .rw [qN (zUs j),yJ (fun e=>p e.symm)]
    .rw [if_neg l]at e;cases e
   .rintro r m ⟨rfl,e⟩
    by_cases l:s.sM+C<=4000
    .rw [if_pos l]at e;cases e
    .rw [if_neg l]at e
     cases e;simp[go_sem,l];refine⟨rfl,fun i j p=>?_,zSp⟩;rw[yJ (fun e=>p e.symm),qN j]
end YX
namespace Q1
open P2 Y1 Y2 Y6
abbrev aU(x:Int):AV := .sc (.int .u8 x)
theorem kindU(op):qi qe 141 [aI op] (aU (kd op)):=by
 refine qSU call141 func141 rfl ?_;unfold kd;by_cases g:1<=op<;>by_cases i:op<=15<;>by_cases j:20<=op<;>by_cases l:op<=23<;>by_cases o:30<=op<;>by_cases p:op<=51<;>first|omega | (simp[go_sem,g,i,j,l,o,p];exact .zsc _)
def kwL:List tP:=[⟨#[115,111,114,116]⟩,⟨#[111,114,100,101,114,101,100]⟩,⟨#[118,97,114]⟩,⟨#[102,105,101,108,100]⟩,⟨#[112,114,101,100]⟩,⟨#[102,97,99,116]⟩,⟨#[97,108,108]⟩,⟨#[115,111,109,101]⟩,⟨#[110,111]⟩,⟨#[111,110,101]⟩,⟨#[108,111,110,101]⟩,⟨#[97,108,119,97,121,115]⟩,⟨#[101,118,101,110,116,117,97,108,108,121]⟩,⟨#[97,102,116,101,114]⟩,⟨#[117,110,116,105,108]⟩,⟨#[110,111,110,101]⟩,⟨#[117,110,105,118]⟩,⟨#[105,100,101,110]⟩,⟨#[105,110]⟩,⟨#[110,111,116]⟩,⟨#[116,114,117,101]⟩,⟨#[102,97,108,115,101]⟩]
def kwB(s:tP):Bool:=kwL.any fun x=>decide (x=s)
theorem qmI(s):qi qe 191 [aS s] (aB (kwB s)):=by
 refine qSU call191 func191 rfl ?_;have g:kwL.length=22:=rfl;refine aK 22 (fun k T=>T.tm 0=aS s/\T.tm 3 = .lst true (kwL.map fun s=>[aS s])/\T.tm 4=aI k/\T.mu=[]/\∀ j x,j<k->kwL[j]?=some x->x≠s) ?_ ?_
 .refine ⟨zSi,?_,zSi,zSi,fun j x r=>absurd r zOm⟩
  simp[go_sem,kwL]
 .rintro k T hk ⟨I,C,J,P,hI⟩
  unfold kwB;generalize hK:kwL=K at *
  by_cases R:k=22
  .subst R
   have U:(K.any fun x=>decide (x=s))=false:=by
    rw[List.any_eq_false];intro x p;obtain⟨j,r⟩:=List.mem_iff_getElem?.1 p;simpa using hI j x (by have:=(qk.1 r).1;omega) r
   rw[U];simp[go_sem,C,J,P,g];exact .zsc _
  .have t:k<K.length:=by omega
   have i:k<22:=zOm;have l:(k:Int)<22:=zOm;have w1:=zWk k;by_cases p:K[k]=s
   .have a0:(K.any fun x=>decide (x=s))=true:=List.any_eq_true.2 ⟨K[k],qs t,zUs p⟩
    rw[a0];simp[go_sem,I,C,J,P,g,i,l,p];exact .zsc _
   .simp [go_sem,I,C,J,P,g,i,l,j0 p,w1]
    try refine⟨i,aA ?_⟩
    try refine aA ?_
    refine⟨zS1 I,zS1 C,zSi,zSi,fun j x r o=>?_⟩;by_cases a1:j=k
    .subst a1
     rw[qA t]at o;cases o;exact p
    .exact hI j x zOm o
def bys(l:List Int):tP:=⟨(l.map fun x=>UInt8.ofNat x.toNat).toArray⟩
theorem qmJ(l x):bys (l++[x])=bys l++⟨#[UInt8.ofNat x.toNat]⟩:=by
 apply ByteArray.ext;simp[bys]
theorem qa0(l):(bys l).size=l.length:=by simp[bys,ByteArray.size]
def shpV(op:Int)(nk:Nat):AV:=match shp op nk with
 |some l => .tup [aS (bys l),aB true]
 |none => .tup [aS ⟨#[]⟩,aB false]
theorem U3(mu a b):Rd mu (.tup [aS a,aB b]) (.tup [aS a,aB b]) := .hf _ (HF.tup fun c g=>by simp at g;rcases g with rfl|rfl<;>exact HF.sc _)
theorem qmK(nk:Nat)(J:nk<=100000):qi qe 140 [aI 47,aI nk] (shpV 47 nk):=by
 refine qSU call140 func140 rfl ?_;refine aK (min nk 401) (fun k T=>T.tm 1=aI nk/\T.tm 6=aS (bys (q9 k 101))/\T.tm 7=aI k) ?_ ?_
 .exact ⟨zSi,by simp[go_sem,bys],zSi⟩
 .rintro k T hk ⟨i,j,l⟩
  by_cases o:k=min nk 401
  .have P:shpV 47 nk = .tup [aS (bys (q9 k 101)),aB true]:=by
    rw[o];rfl
   rw[P];by_cases h1:nk<=k
   .have p:¬k<nk:=by omega
    simp[go_sem,i,j,l,p];exact U3 _ _ _
   .have R:k=401:=by omega
    subst R;have h3:401<nk:=zOm;have U:(401:Int)<nk:=zOm;simp[go_sem,i,j,l,U];exact U3 _ _ _
  .have r:k<nk:=by omega
   have I:k<401:=zOm;have g:(k:Int)<401:=zOm;have w1:=zWk k;have t:(bys (q9 k 101)).size+1<=9223372036854775807:=by rw[qa0,List.length_replicate];omega
   have C:bys (q9 k 101)++⟨#[101]⟩=bys (q9 (k+1) 101):=by
    rw[List.replicate_succ',qmJ];rfl
   generalize bys (q9 k 101)=B at *
   simp[go_sem,i,j,l,r,g,t,w1];refine⟨zOm,aA ?_⟩;exact⟨zS1 i,zS1 C,zSi⟩
theorem qmL(op)(nk:Nat)(g:nk<=100000):qi qe 140 [aI op,aI nk] (shpV op nk):=by
 by_cases h47:op=47
 .subst h47;exact qmK nk g
 by_cases o:1<=op/\op<=51
 .have j:op=1\/op=2\/op=3\/op=4\/op=5\/op=6\/op=7\/op=8\/op=9\/op=10\/op=11\/op=12\/op=13\/op=14\/op=15\/op=16\/op=17\/op=18\/op=19\/op=20\/op=21\/op=22\/op=23\/op=24\/op=25\/op=26\/op=27\/op=28\/op=29\/op=30\/op=31\/op=32\/op=33\/op=34\/op=35\/op=36\/op=37\/op=38\/op=39\/op=40\/op=41\/op=42\/op=43\/op=44\/op=45\/op=46\/op=48\/op=49\/op=50\/op=51:=by omega
  rcases j with rfl|rfl|rfl|rfl|rfl|rfl|rfl|rfl|rfl|rfl|rfl|rfl|rfl|rfl|rfl|rfl|rfl|rfl|rfl|rfl|rfl|rfl|rfl|rfl|rfl|rfl|rfl|rfl|rfl|rfl|rfl|rfl|rfl|rfl|rfl|rfl|rfl|rfl|rfl|rfl|rfl|rfl|rfl|rfl|rfl|rfl|rfl|rfl|rfl|rfl
  all_goals
   refine qSV call140 func140 rfl ?_;simp[go_sem,shpV,shp];exact U3 _ _ _
 .have i:∀ c:Int,1<=c->c<=51->(op=c)=False:=fun c p r=>eq_false zOm
  have l:shp op nk=none:=by
   unfold shp
   repeat rw[zIn]
  rw[shpV,l];refine qSV call140 func140 rfl ?_;simp[go_sem,i];exact U3 _ _ _
end Q1
namespace Q2
open P2 Y1 Q1
def fitB(op:Int)(ks:List Nd):Bool:=decide (shp op ks.length=some (ks.map fun k=>kd k.op))
theorem qmM(l)(g:∀ x,x∈l->0<=x/\x<256)(i h)(j:i<(bys l).data.size):(((bys l).data[i]).toNat:Int)=l[i]:=by
 have o:=g l[i] (qs h);simp only[bys,List.getElem_toArray,List.getElem_map,UInt8.toNat_ofNat'];omega
theorem qmN{op nk l}(h:shp op nk=some l):∀ x,x∈l->0<=x/\x<256:=by
 unfold shp at h
 repeat' split at h
 all_goals first
  | (cases h;done)
  | (cases h;intro x g;cases g;done)
  | (cases h;intro x g;rw[List.mem_replicate]at g;omega)
  | (cases h;intro x g;simp at g;omega)
theorem fitsU(op ks)(hk:ks.length<=1000):qi qe 88 [aI op,lNd ks] (aB (fitB op ks)):=by
 have C:=qmL op ks.length zOm;unfold shpV at C;cases o:shp op ks.length with
 |none =>
  simp only[o]at C;have hf:fitB op ks=false:=by simp[fitB,o]
  rw[hf];refine qSU call88 func88 rfl ?_;refine fR C (.zs (.zs .nil)) ?_;exact .zsc _
 |some l =>
  simp only[o]at C;have i:=qa0 l;have I:=qmM l (qmN o);generalize bys l=B at *
  refine qSU call88 func88 rfl ?_;refine tS C (.zs (.zs .nil)) ?_;by_cases t:l.length=ks.length
  .simp [go_sem,i,t]
   refine aK ks.length (fun k T=>T.tm 1=lNd ks/\T.tm 5=aS B/\T.tm 7=aI k/\∀ j,j<k->(ks[j]?).map (fun k=>kd k.op)=l[j]?) ?_ ?_
   .exact ⟨zSi,zSi,zSi,fun j P=>absurd P zOm⟩
   .rintro k T hk ⟨R,e5,J,hI⟩
    by_cases a0:k=ks.length
    .subst a0
     have hf:fitB op ks=true:=by
      rw[fitB,o,decide_eq_true];congr 1;apply jS;intro j;by_cases P:j<ks.length
      .rw [zn,hI j P]
      .rw [uK zOm,uK zSo]
     rw[hf];simp[go_sem,R,J];exact .zsc _
    .have g:k<ks.length:=by omega
     have w1:=zWk k;simp[go_sem,R,J,g];refine cJ zKr ?_;simp[go_sem,R,J,g];refine tS (kindU ks[k].op) (.zs .nil) ?_;have p:k<l.length:=zOm;have a1:k<B.data.size:=by have:B.data.size=l.length:=i;omega
     have hg:=I k p a1;by_cases U:kd ks[k].op=l[k]
     .have r:kd ks[k].op=((B.data[k]).toNat:Int):=by rw[hg];exact U
      simp[go_sem,e5,J,g,i,t,r,w1];refine aA ?_;refine⟨zS1 R,zS1 e5,zSi,fun j P=>?_⟩;by_cases a2:j=k
      .subst a2
       rw[qA g,qA p,zq,U]
      .exact hI j zOm
     .have r:¬kd ks[k].op=((B.data[k]).toNat:Int):=by rw[hg];exact U
      have hf:fitB op ks=false:=by
       rw[fitB,o,decide_eq_false];intro e;injection e with e;apply U;have:l[k]?=some (kd ks[k].op):=by rw[e,zn,qA g,zq]
       rw[qA p]at this;simpa using this.symm
      rw[hf];simp[go_sem,e5,J,g,i,t,r];exact .zsc _
  .have hf:fitB op ks=false:=by
    rw[fitB,o,decide_eq_false];intro e;injection e with e;rw[e]at t;simp at t
   rw[hf];simp[go_sem,i,t];exact .zsc _
end Q2
namespace Q3
open Y1 Q1
def letC(c:Int):Bool:=(decide (97<=c)&&decide (c<=122))||(decide (65<=c)&&decide (c<=90))
def chB(i:Nat)(c:Int):Bool:=letC c||(!decide (i=0)&&(decide (c=95)||(decide (48<=c)&&decide (c<=57))))
def jm(s:tP):Bool:=decide (1<=s.size)&&decide (s.size<=16)&&!kwB s&&(qu s.size).all fun i=>match s.data[i]? with|some c=>chB i c.toNat|none=>true
theorem qmO(s):qi qe 139 [aS s] (aB (jm s)):=by
 refine qSV call139 func139 rfl ?_;by_cases h0:s.size=0
 .have r:jm s=false:=by simp[jm,h0]
  rw[r];simp[go_sem,h0];exact .zsc _
 by_cases ab:16<s.size
 .have r:jm s=false:=by
   have:¬s.size<=16:=zOm;simp[jm,this]
  rw[r];have l:(16:Int)<s.size:=zOm;simp[go_sem,h0,l];exact .zsc _
 have l:¬(16:Int)<s.size:=zOm;simp[go_sem,h0,l];refine tS (qmI s) (.zs .nil) ?_;cases hk:kwB s with
 |true =>
  have r:jm s=false:=by simp[jm,hk]
  rw[r];simp[go_sem];exact .zsc _
 |false =>
  simp[go_sem];refine aK s.size (fun k T=>T.tm 0=aS s/\T.tm 3=aI k/\∀ j c,j<k->s.data[j]?=some c->chB j c.toNat=true) ?_ ?_
  .exact ⟨zSi,zSi,fun j c hj=>absurd hj zOm⟩
  .rintro k T ad ⟨e0,e2,hI⟩
   by_cases a9:k=s.size
   .have r:jm s=true:=by
     simp only[jm,hk,Bool.not_false,Bool.and_true,qH,decide_eq_true_eq,zF,yi];refine⟨⟨zOm,zOm⟩,fun i hi=>?_⟩;cases hc:s.data[i]? with
     |none=>rfl
     |some c=>exact hI i c zOm hc
    rw[r];simp[go_sem,e0,e2,a9];exact .zsc _
   .have o:k<s.size:=by omega
    have U:k<s.data.size:=o;have w1:=zWk k;have z1:qq.wrap 1=1:=rfl;have a0:s.data[k]?=some s.data[k]:=Array.getElem?_eq_getElem U;simp[go_sem,e0,e2,o];generalize hc:((s.data[k]).toNat:Int)=c at *
    cases g:chB k c with
    |false =>
     have r:jm s=false:=by
      rw[jm,Bool.and_eq_false_iff];refine .inr (List.all_eq_false.2 ⟨k,yi.2 o,?_⟩);simp only[a0,hc,g];simp
     rw[r];by_cases C:97<=c<;>by_cases I:c<=122<;>by_cases J:65<=c<;>by_cases P:c<=90<;>by_cases R:c=95<;>by_cases a6:c<48<;>by_cases a7:57<c<;>by_cases t:k=0<;>first|omega | (exfalso;simp[chB,letC,C,I,J,P,R,a6,a7,t]at g;done) | (exfalso;simp[chB,letC,C,I,J,P,R,a6,a7,t]at g;omega)|skip
     all_goals
      simp[go_sem,e2,C,I,J,P,R,a6,a7,t];exact .zsc _
    |true =>
     have p:∀ j d,j<k+1->s.data[j]?=some d->chB j d.toNat=true:=fun j d hj hd=>by
      by_cases aa:j=k
      .subst aa
       rw[a0]at hd;cases hd;rw[hc];exact g
      .exact hI j d zOm hd
     by_cases C:97<=c<;>by_cases I:c<=122<;>by_cases J:65<=c<;>by_cases P:c<=90<;>by_cases R:c=95<;>by_cases a6:c<48<;>by_cases a7:57<c<;>by_cases t:k=0<;>first|omega | (exfalso;simp[chB,letC,C,I,J,P,R,t]at g;done) | (exfalso;simp[chB,letC,C,I,J,P,R,t]at g;omega)|skip
     all_goals
      simp[go_sem,e2,C,I,J,P,R,a6,a7,t,w1,z1]
      first
       |exact⟨o,aA ⟨zS1 e0,zSi,p⟩⟩
       | (subst t;exact⟨o,aA ⟨zS1 e0,zSi,fun j d hj hd=>p j d zOm hd⟩⟩)
end Q3
namespace Q4
open P2 Y1 Y2 Y9 Q2 Q3
def wO(op:Int):Bool:=decide (op=1)||decide (op=15)||decide (op=45)||decide (op=46)||decide (op=47)
def numB(op n:Int):Bool:=if op=2 then decide (1<=n)&&decide (n<=3) else if op=20 then decide (-64<=n)&&decide (n<=64) else decide (n=0)
def ownB(n:Nd):Bool:=if wO n.op=jm n.name/\(wO n.op=true\/n.name=⟨#[]⟩) then numB n.op n.n else false
theorem ownU(n):qi qe 87 [eNd n] (aB (ownB n)):=by
 refine qSV call87 func87 rfl ?_;have j:=qmO n.name;generalize J:jm n.name=N at *
 by_cases p:n.op=1\/n.op=15\/n.op=45\/n.op=46\/n.op=47
 .have l:wO n.op=true:=by grind [wO]
  have r:¬n.op=2:=zOm;have i:¬n.op=20:=zOm;rcases p with h|h|h|h|h
  all_goals
   simp[go_sem,h];refine tS j (.zs .nil) ?_;cases N with
   |true =>
    have g:ownB n=decide (n.n=0):=by grind [ownB,numB]
    rw[g];simp[go_sem,h];exact .zsc _
   |false =>
    have g:ownB n=false:=by grind [ownB]
    rw[g];simp[go_sem];exact .zsc _
 .simp only[not_or]at p
  obtain⟨d1,d2,d3,d4,d5⟩:=p;have l:wO n.op=false:=by grind [wO]
  simp[go_sem,d1,d2,d3,d4,d5];refine tS j (.zs .nil) ?_;cases N with
  |true =>
   have g:ownB n=false:=by grind [ownB]
   rw[g];simp[go_sem];exact .zsc _
  |false =>
   by_cases o:n.name=⟨#[]⟩
   .have g:ownB n=numB n.op n.n:=by
     simp_all[ownB,if_pos]
    rw[g];unfold numB;by_cases r:n.op=2
    .by_cases t:1<=n.n<;>by_cases C:n.n<=3<;>(simp[go_sem,r,o,t,C];exact .zsc _)
    .by_cases i:n.op=20
     .by_cases t : -64<=n.n<;>by_cases C:n.n<=64<;>(simp[go_sem,i,o,t,C];exact .zsc _)
     .simp [go_sem,r,i,o]
      exact .zsc _
   .have g:ownB n=false:=by simp[ownB,l,o]
    rw[g];have I:n.name.toList.isEmpty=false:=by simpa using j0 o
    simp[go_sem,I];exact .zsc _
mutual
def cntN:Nd->Int->Int
 | .mk _ _ _ ks _,left=>je ks left 1
def je:List Nd->Int->Int->Int
 | [],_,sum=>sum
 |k :: ks,left,sum=>if sum<=left then je ks left (sum+cntN k (left-sum)) else sum
end
theorem qa1(n left):cntN n left=je n.sD left 1:=by
 obtain⟨op,o,i,ks,p⟩:=n;simp[cntN,Nd.sD]
mutual
theorem KJ:∀(n:Nd)(left:Int),1<=cntN n left/\(cntN n left<=left+1\/cntN n left=1)
 | .mk _ _ _ ks _,left=>by
  simp only[cntN];have:=KL ks left 1;omega
theorem KL:∀(ks:List Nd)(left sum:Int),sum<=je ks left sum/\(je ks left sum<=left+1\/je ks left sum=sum)
 | [],left,sum=>by simp[je]
 |k :: ks,left,sum=>by
  simp only[je];split
  .have g:=KJ k (left-sum)
   have i:=KL ks left (sum+cntN k (left-sum));omega
  .omega
end
theorem qa2:∀ m n,szN n<=m->∀ left,-1000000<=left/\left<=1000000->qi qe 47 [eNd n,aI left] (aI (cntN n left))
 | 0,n,J,_,_=>by obtain⟨op,nm,i,ks,p⟩:=n;simp[szN]at J
 |m+1,n,J,left,hl=>by
  have U:∀ k,k∈n.sD->∀ left:Int,-1000000<=left/\left<=1000000->qi qe 47 [eNd k,aI left] (aI (cntN k left)):=fun k P =>
   qa2 m k (zW1 (yu P))
  rw[qa1];generalize hR:je n.sD left 1=R;refine qSU call47 func47 rfl ?_;refine aK n.sD.length (fun k T=>∃ sum:Int,T.tm 1=aI left/\T.tm 2 = .ip (cNd n)/\T.tm 5=aI sum/\T.tm 6=aI k/\(k:Int)+1<=sum/\(sum<=left+1\/sum=1)/\je (n.sD.drop k) left sum=R) ?_ ?_
  .simp [go_sem, *]
  .rintro k T P ⟨sum,t,l,C,o,a0,a1,j⟩
   by_cases I:k=n.sD.length
   .subst I
    rw[yd]at j;simp only[je]at j;subst j;simp[go_sem,l,C,o];exact .zsc _
   .have g:k<n.sD.length:=by omega
    rw[zu g]at j;simp only[je]at j;by_cases r:sum<=left
    .rw [if_pos r]at j
     have w1:=zWk k;have w2:qq.wrap (left-sum)=left-sum:=zWr;have a2:=KJ n.sD[k] (left-sum);have w3:qq.wrap (sum+cntN n.sD[k] (left-sum))=sum+cntN n.sD[k] (left-sum):=zWr;simp[go_sem,t,l,C,o,g,r,w2];refine tS (U n.sD[k] (qs g) (left-sum) ⟨zOm,zOm⟩) (.zk (qK _) (.zs .nil)) ?_;simp[go_sem,o,w1,w3];refine⟨g,aA ?_⟩;exact⟨sum+cntN n.sD[k] (left-sum),zS1 t,zS1 l,zSi,zSi,zOm,zOm,j⟩
    .rw [if_neg r]at j
     subst j;simp[go_sem,t,l,C,o,g,r];exact .zsc _
mutual
def forN:Nd->Int->Bool
 | .mk op o i ks p,g=>if g<1 then false else ownB (.mk op o i ks p)&&(fitB op ks&&u5 ks (g-1))
def u5:List Nd->Int->Bool
 | [],_=>true
 |k :: ks,g=>forN k g&&u5 ks g
end
theorem Vk(n g):forN n g=if g<1 then false else ownB n&&(fitB n.op n.sD&&u5 n.sD (g-1)):=by
 obtain⟨op,o,i,ks,p⟩:=n;simp[forN,Nd.sD,Nd.op]
theorem qa3:∀ m n,szN n<=m->Small n->∀ g,-1000000<=g/\g<=1000000->qi qe 48 [eNd n,aI g] (aB (forN n g))
 | 0,n,P,_,_,_=>by obtain⟨op,nm,i,ks,p⟩:=n;simp[szN]at P
 |m+1,n,P,U,g,hl=>by
  have ih:∀ k,k∈n.sD->∀ g:Int,-1000000<=g/\g<=1000000->qi qe 48 [eNd k,aI g] (aB (forN k g)):=fun k I =>
   qa3 m k (zW1 (yu I)) (U.kid I)
  have C:=U.len;rw[Vk];have l:=ownU n;have o:=fitsU n.op n.sD C;by_cases j:g<1
  .rw [if_pos j]
   refine qSV call48 func48 rfl ?_;simp[go_sem,j];exact .zsc _
  rw[if_neg j];cases ho:ownB n with
  |false =>
   rw[ho]at l;refine qSV call48 func48 rfl ?_;simp[go_sem,j];refine fR l (.zk (qK _) .nil) ?_;exact .zsc _
  |true =>
   rw[ho]at l;cases hf:fitB n.op n.sD with
   |false =>
    rw[hf]at o;refine qSV call48 func48 rfl ?_;simp[go_sem,j];refine fR l (.zk (qK _) .nil) ?_;refine fR o (.zs (.zk (Uz _) .nil)) ?_;exact .zsc _
   |true =>
    rw[hf]at o;have wl:qq.wrap (g-1)=g-1:=zWr;generalize hR:u5 n.sD (g-1)=R;simp only[Bool.true_and];refine qSV call48 func48 rfl ?_;simp[go_sem,j];refine fR l (.zk (qK _) .nil) ?_;refine fR o (.zs (.zk (Uz _) .nil)) ?_;refine aK n.sD.length (fun k T=>T.tm 1=aI g/\T.tm 2 = .ip (cNd n)/\T.tm 5=aI k/\u5 (n.sD.drop k) (g-1)=R) ?_ ?_
    .simp [go_sem, *]
    .rintro k T I ⟨e1,e2,e5,r⟩
     by_cases J:k=n.sD.length
     .subst J
      rw[yd]at r;simp only[u5]at r;subst r;simp[go_sem,e2,e5];exact .zsc _
     .have t:k<n.sD.length:=by omega
      have w1:=zWk k;rw[zu t]at r;simp only[u5]at r;have hi:=ih n.sD[k] (qs t) (g-1) ⟨zOm,zOm⟩;simp[go_sem,e1,e2,e5,t,wl];refine tS hi (.zk (qK _) (.zs .nil)) ?_;cases hq:forN n.sD[k] (g-1) with
      |true =>
       simp_all[go_sem,Bool.true_and,aA]
      |false =>
       rw[hq,Bool.false_and]at r;subst r;simp[go_sem];exact .zsc _
theorem qa4:∀ ks left sum,0<=sum->je ks left sum<=left->sum+ks.length<=je ks left sum/\∀ k,k∈ks->∃ l',l'<=left/\cntN k l'<=l'
 | [],left,sum,_,h=>by simp[je]
 |k :: ks,left,sum,l,h=>by
  simp only[je]at h⊢;split at h
  .rename_i i
   rw[if_pos i];have o:=KJ k (left-sum);have j:=qa4 ks left (sum+cntN k (left-sum)) zOm h;have p:=j.1;refine⟨by grind,fun q g=>?_⟩;rcases qy.1 g with rfl|g
   .grind
   grind
  .omega
theorem qa5:∀ m n left,szN n<=m->left<=1000->cntN n left<=left->Small n
 | 0,n,_,g,_,_=>by obtain⟨op,nm,i,ks,p⟩:=n;simp[szN]at g
 |m+1,n,left,g,C,h=>by
  rw[qa1]at h;obtain⟨I,l⟩:=qa4 n.sD left 1 zOm h;refine .mk n zOm fun k j=>?_
  obtain⟨o,r,t⟩:=l k j;exact qa5 m k o (zW1 (yu j)) zOm t
def qT(n:Nd):Bool:=decide (cntN n 400<=400)&&forN n 24
theorem KM(n):qi qe 22 [eNd n] (aB (qT n)):=by
 have i:=qa2 (szN n) n (qr _) 400 zOm;by_cases h:cntN n 400<=400
 .have j:=qa5 (szN n) n 400 (qr _) zOm h
  have hf:=qa3 (szN n) n (qr _) j 24 zOm;have g:qT n=forN n 24:=by simp[qT,h]
  rw[g];refine qSU call22 func22 rfl ?_;refine tS i (.zk (qK _) (.zs .nil)) ?_;simp[go_sem,h];refine fR hf (.zk (qK _) (.zs .nil)) ?_;exact .zsc _
 .have g:qT n=false:=by simp[qT,h]
  rw[g];refine qSU call22 func22 rfl ?_;refine tS i (.zk (qK _) (.zs .nil)) ?_;simp[go_sem,h];exact .zsc _
theorem KN{ks i}(h:u5 ks i=true):∀ k,k∈ks->forN k i=true:=by
 induction ks with
 |nil=>grind
 |cons a l j =>
  simp only[u5,qH]at h;intro k g;rcases qy.1 g with rfl|g
  .exact h.1
  .exact j h.2 k g
theorem qa6:∀ m n g,szN n<=m->forN n g=true->WfN n
 | 0,n,_,j,_=>by obtain⟨op,nm,i,ks,p⟩:=n;simp[szN]at j
 |m+1,n,g,j,h=>by
  rw[Vk]at h;split at h
  .grind
  .simp only[qH]at h
   obtain⟨r,t,o⟩:=h;refine .mk n ?_ (fun C=>?_) fun k l=>qa6 m k (g-1) (zW1 (yu l)) (KN o k l)
   .grind [fitB]
   simp_all[ownB,numB,if_pos,absurd]
theorem vV{n}(h:qT n=true):WfN n:=by
 simp only[qT,qH]at h;exact qa6 (szN n) n 24 (qr _) h.2
end Q4
namespace Q5
theorem qmP(a b)(ha:a.length<=1000000):qi qe 89 [lI a,lI b] (aB (decide (a=b))):=by
 refine qSV call89 func89 rfl ?_;by_cases j:a.length=b.length
 case neg =>
  rw[decide_eq_false (by rintro rfl;exact j rfl)];simp[go_sem,j];exact .zsc _
 simp[go_sem,j];refine aK a.length (fun k T=>T.tm 0=lI a/\T.tm 1=lI b/\T.tm 5=aI k/\∀(i:Nat)(h:i<a.length)(o:i<b.length),i<k->a[i]=b[i]) ?_ ?_
 .exact ⟨zSi,zSi,zSi,fun i h o P=>absurd P zOm⟩
 .rintro k T hk ⟨l,C,p,R⟩
  by_cases U:k=a.length
  .rw [decide_eq_true (List.ext_getElem j fun i h o=>R i h o zOm)]
   have I:k=b.length:=zOm;simp[go_sem,l,p,I,j];exact .zsc _
  .have a0:k<a.length:=by omega
   have r:k<b.length:=zOm;have w1:=zWk k;have g:(k:Int)<(b.length:Int):=zOm;by_cases t:a[k]=b[k]
   .simp [go_sem,l,p,j,g]
    try refine cJ zKr ?_
    simp[go_sem,l,C,p,r,j,g,t,w1]
    try refine⟨zOm,aA ?_⟩
    try refine aA ?_
    refine⟨zS1 l,zS1 C,zSi,fun i h o P=>?_⟩;by_cases J:i=k
    .subst J;exact t
    .exact R i h o zOm
   .rw [decide_eq_false (fun e=>t (zP1 e))]
    simp[go_sem,l,p,j,g]
    try refine cJ zKr ?_
    simp[go_sem,l,C,p,r,j,g,t];exact .zsc _
end Q5
namespace Q6
open Y1 Y9
mutual
def anyN(p:Nd->Bool):Nd->Bool
 | .mk op o i ks q=>p (.mk op o i ks q)||uC p ks
def uC(p:Nd->Bool):List Nd->Bool
 | []=>false
 |k :: ks=>anyN p k||uC p ks
end
theorem U4(p n):anyN p n=(p n||uC p n.sD):=by
 obtain⟨op,o,i,ks,q⟩:=n;simp[anyN,Nd.sD]
theorem qa7:∀ m n,szN n<=m->Small n->qi qe 95 [eNd n] (aB (anyN (fun n=>decide (n.op=47)) n))
 | 0,n,I,_=>by obtain⟨op,nm,i,ks,p⟩:=n;simp[szN]at I
 |m+1,n,I,J=>by
  have ih:∀ k,k∈n.sD->qi qe 95 [eNd k] (aB (anyN (fun n=>decide (n.op=47)) k)):=fun k r =>
   qa7 m k (zW1 (yu r)) (J.kid r)
  have P:=J.len;rw[U4];generalize hR:uC (fun n=>decide (n.op=47)) n.sD=R;refine qSV call95 func95 rfl ?_;by_cases t:n.op=47
  .simp [go_sem,t]
   exact .zsc _
  .rw [decide_eq_false t,Bool.false_or]
   simp[go_sem,t];refine aK n.sD.length (fun k T=>T.tm 1 = .ip (cNd n)/\T.tm 3=aI k/\uC (fun n=>decide (n.op=47)) (n.sD.drop k)=R) ?_ ?_
   .exact ⟨zSi,zSi,zUs hR⟩
   .rintro k T r ⟨l,o,j⟩
    by_cases C:k=n.sD.length
    .subst C
     rw[yd]at j;simp only[uC]at j;subst j;simp[go_sem,l,o];exact .zsc _
    .have g:k<n.sD.length:=by omega
     have w1:=zWk k;rw[zu g]at j;simp only[uC]at j;have hi:=ih n.sD[k] (qs g);simp[go_sem,l,o,g,zi]
     try refine cJ zKr ?_
     try simp[go_sem,l,o,g,zi]
     refine tS hi (.zk (qK _) .nil) ?_;cases U:anyN (fun n=>decide (n.op=47)) n.sD[k] with
     |true =>
      rw[U,Bool.true_or]at j;subst j;simp[go_sem,l,o];exact .zsc _
     |false =>
      rw[U,Bool.false_or]at j;simp[go_sem,l,o,w1]
      try refine⟨g,aA ?_⟩
      try refine aA ?_
      exact⟨zS1 l,zSi,j⟩
end Q6
namespace Q7
open YF P1
def parB(ns:Nat)(l:List (tP×Int)):Bool:=decide (l.length<=8)&&l.all fun p=>decide (0<=p.2)&&decide (p.2<ns)
theorem qmQ(ts l):qi qe 45 [eTS ts,lPm l] (aB (parB ts.sS.length l)):=by
 refine qSV call45 func45 rfl ?_;by_cases h8:l.length<=8
 case neg =>
  have i:parB ts.sS.length l=false:=by simp[parB,h8]
  have r:(8:Int)<l.length:=zOm;rw[i];simp[go_sem,r];exact .zsc _
 have r:¬(8:Int)<l.length:=zOm;simp[go_sem,r];refine aK l.length (fun k T=>T.tm 1=lPm l/\T.tm 2 = .ip (cTS ts)/\T.tm 5=aI k/\∀ j p,j<k->l[j]?=some p->0<=p.2/\p.2<ts.sS.length) ?_ ?_
 .exact ⟨zSi,zSi,zSi,fun j p C=>absurd C zOm⟩
 .rintro k T hk ⟨o,J,t,hI⟩
  by_cases P:k=l.length
  .have i:parB ts.sS.length l=true:=by
    simp only[parB,qH,decide_eq_true_eq,zF];refine⟨h8,fun p i=>?_⟩;obtain⟨j,C⟩:=List.mem_iff_getElem?.1 i;exact hI j p (by have:=(qk.1 C).1;omega) C
   rw[i];simp[go_sem,o,t,P];exact .zsc _
  .have g:k<l.length:=by omega
   have w1:=zWk k;have hg:l[k]?=some l[k]:=qA g;by_cases hq:0<=l[k].2/\l[k].2<ts.sS.length
   .have I:¬l[k].2<0:=by omega
    have R:¬(ts.sS.length:Int)<=l[k].2:=zOm;simp[go_sem,o,t,g];refine cJ zKr ?_;simp[go_sem,o,J,t,g,I,R,w1]
    try refine⟨g,aA ?_⟩
    try refine aA ?_
    refine⟨zS1 o,zS1 J,zSi,fun j p C i=>?_⟩;by_cases U:j=k
    .subst U;rw[hg]at i;cases i;exact hq
    .exact hI j p zOm i
   .have i:parB ts.sS.length l=false:=by
     rw[parB,Bool.and_eq_false_iff];refine .inr (List.all_eq_false.2 ⟨l[k],qs g,?_⟩);simp only[qH,decide_eq_true_eq];exact hq
    rw[i];by_cases I:l[k].2<0
    .simp [go_sem,o,t,g]
     refine cJ zKr ?_;simp[go_sem,o,t,g,I];exact .zsc _
    .have R:(ts.sS.length:Int)<=l[k].2:=by omega
     simp[go_sem,o,t,g];refine cJ zKr ?_;simp[go_sem,o,J,t,g,I,R];exact .zsc _
theorem qmR{ns l}(h:parB ns l=true):l.length<=8/\∀ p,p∈l->0<=p.2/\p.2<ns:=by
 simp only[parB,qH,decide_eq_true_eq,zF]at h;exact⟨h.1,fun p g=>h.2 p g⟩
end Q7
namespace Q8
open YF P1 P2 Y1 Y9 Q4 Q7
def limB(ts:TS):Bool:=decide (ts.sS.length<=4)&&decide (ts.sA.length<=6)&&decide (ts.sT.length<=8)&&decide (ts.sP.length<=16)
def fldB(ns:Nat)(f:Fld):Bool:=decide (1<=f.sS.length)&&decide (f.sS.length<=3)&&f.sS.all fun x=>decide (0<=x)&&decide (x<ns)
def yV(ts:TS):Bool:=limB ts&&(ts.sA.all (fldB ts.sS.length)&&(ts.sT.all (fun p=>parB ts.sS.length p.params&&qT p.body)&&ts.sP.all fun f=>qT f.2))
theorem qmS(ts):qi qe 20 [eTS ts] (aB (yV ts)):=by
 refine qSV call20 func20 rfl ?_;by_cases h1:ts.sS.length<=4
 case neg =>
  have hf:yV ts=false:=by simp[yV,limB,h1]
  have J:(4:Int)<ts.sS.length:=zOm;rw[hf];simp[go_sem,J];exact .zsc _
 have J:¬(4:Int)<ts.sS.length:=zOm;by_cases h2:ts.sA.length<=6
 case neg =>
  have hf:yV ts=false:=by simp[yV,limB,h2]
  have P:(6:Int)<ts.sA.length:=zOm;rw[hf];simp[go_sem,J,P];exact .zsc _
 have P:¬(6:Int)<ts.sA.length:=zOm;by_cases h3:ts.sT.length<=8
 case neg =>
  have hf:yV ts=false:=by simp[yV,limB,h3]
  have U:(8:Int)<ts.sT.length:=zOm;rw[hf];simp[go_sem,J,P,U];exact .zsc _
 have U:¬(8:Int)<ts.sT.length:=zOm;by_cases h4:ts.sP.length<=16
 case neg =>
  have hf:yV ts=false:=by simp[yV,limB,h4]
  have a3:(16:Int)<ts.sP.length:=zOm;rw[hf];simp[go_sem,J,P,U,a3];exact .zsc _
 have a3:¬(16:Int)<ts.sP.length:=zOm;simp[go_sem,J,P,U,a3];have af:limB ts=true:=by grind [limB]
 generalize a0:ts.sS.length=r at *
 refine aK ts.sA.length (fun k T=>T.tm 1 = .ip (cTS ts)/\T.tm 3=aI k/\∀ j f,j<k->ts.sA[j]?=some f->fldB r f=true) ?_ ?_
 .simp [go_sem, *]
 .rintro k T hk ⟨C,e3,hI⟩
  by_cases I:k=ts.sA.length
  .have ah:ts.sA.all (fldB r)=true:=by
    grind [zF,List.mem_iff_getElem?,qk]
   simp[go_sem,C,e3,I];refine aK ts.sT.length (fun k T=>T.tm 1 = .ip (cTS ts)/\T.tm 6=aI k/\∀ j p,j<k->ts.sT[j]?=some p->(parB r p.params&&qT p.body)=true) ?_ ?_
   .simp [go_sem, *]
   .clear C e3 hI I hk k T
    rintro k T hk ⟨C,e6,hI⟩;by_cases I:k=ts.sT.length
    .have ai:(ts.sT.all fun p=>parB r p.params&&qT p.body)=true:=by
      grind [zF,List.mem_iff_getElem?,qk]
     simp[go_sem,C,e6,I];refine aK ts.sP.length (fun k T=>T.tm 1 = .ip (cTS ts)/\T.tm 7=aI k/\∀ j f,j<k->ts.sP[j]?=some f->qT f.2=true) ?_ ?_
     .simp [go_sem, *]
     .clear C e6 hI I hk k T
      rintro k T hk ⟨C,e7,hI⟩;by_cases I:k=ts.sP.length
      .have ag:(ts.sP.all fun f=>qT f.2)=true:=by
        grind [zF,List.mem_iff_getElem?,qk]
       have a6:yV ts=true:=by
        grind [yV]
       rw[a6];simp[go_sem,C,e7,I];exact .zsc _
      .have g:k<ts.sP.length:=by omega
       have w1:=zWk k;have hg:ts.sP[k]?=some ts.sP[k]:=qA g;have R:=KM ts.sP[k].2;simp[go_sem,C,e7,g]
       try refine cJ zKr ?_
       try simp[go_sem,C,e7,g]
       refine tS R (.zk (qK _) .nil) ?_;cases a7:qT ts.sP[k].2 with
       |false =>
        have hb:yV ts=false:=by
         grind [qT,List.all_eq_false,qs,yV]
        rw[hb];simp[go_sem];exact .zsc _
       |true =>
        simp[go_sem,e7,g,w1]
        try refine⟨g,aA ?_⟩
        try refine aA ?_
        refine⟨zS1 C,zSi,fun i f hi hf=>?_⟩
        grind
    .have g:k<ts.sT.length:=by omega
     have w1:=zWk k;have hg:ts.sT[k]?=some ts.sT[k]:=qA g;have o:(parB r ts.sT[k].params&&qT ts.sT[k].body)=false->yV ts=false:=fun hb=>by
      grind [parB,qT,List.all_eq_false,qs,yV]
     have a2:=qmQ ts ts.sT[k].params;rw[a0]at a2;have R:=KM ts.sT[k].body;have a8:WKs [eTS ts,lPm ts.sT[k].params] [eTS ts,lPm ts.sT[k].params] := .zk (zp ts) (.zk (uB _) .nil);simp[go_sem,C,e6,g];refine cJ zKr ?_;simp[go_sem,C,e6,g];refine tS a2 a8 ?_;cases a9:parB r ts.sT[k].params with
     |false =>
      rw[o (by rw[a9];rfl)];simp[go_sem];exact .zsc _
     |true =>
      simp[go_sem,C,e6,g];refine tS R (.zk (qK _) .nil) ?_;cases a7:qT ts.sT[k].body with
      |false =>
       rw[o (by grind)];simp[go_sem];exact .zsc _
      |true =>
       simp[go_sem,e6,g,w1]
       try refine⟨g,aA ?_⟩
       try refine aA ?_
       refine⟨zS1 C,zSi,fun i f hi hf=>?_⟩
       grind
  .have g:k<ts.sA.length:=by omega
   have hg:ts.sA[k]?=some ts.sA[k]:=qA g;have o:fldB r ts.sA[k]=false->yV ts=false:=fun hb=>by
    have:ts.sA.all (fldB r)=false:=List.all_eq_false.2 ⟨_,qs g,zP1 hb⟩;simp[yV,a0,this]
   by_cases c1:1<=ts.sA[k].sS.length
   case neg =>
    rw[o (by simp[fldB,c1])];have a1:(ts.sA[k].sS.length:Int)<1:=zOm;simp[go_sem,C,e3,g,a1];exact .zsc _
   have a1:¬(ts.sA[k].sS.length:Int)<1:=zOm;by_cases c3:ts.sA[k].sS.length<=3
   case neg =>
    rw[o (by simp[fldB,c3])];have a4:(3:Int)<ts.sA[k].sS.length:=zOm;simp[go_sem,C,e3,g,a1,a4];exact .zsc _
   have a4:¬(3:Int)<ts.sA[k].sS.length:=zOm;simp[go_sem,C,e3,g,a1,a4];refine aK ts.sA[k].sS.length (fun j s=>s.tm 1 = .ip (cTS ts)/\s.tm 3=aI k/\s.tm 4=lI ts.sA[k].sS/\s.tm 5=aI j/\∀ i x,i<j->ts.sA[k].sS[i]?=some x->0<=x/\x<r) ?_ ?_
   .exact ⟨zS1 C,zS1 e3,zSi,zSi,fun i x hi=>absurd hi zOm⟩
   .rintro j s hj ⟨f1,f3,f4,f5,hJ⟩
    generalize hl:ts.sA[k].sS=l at *
    by_cases aa:j=l.length
    .have w1:=zWk k
     have a5:fldB r ts.sA[k]=true:=by
      simp only[fldB,hl,qH,decide_eq_true_eq,zF];refine⟨⟨c1,c3⟩,fun x hx=>?_⟩;obtain⟨i,hi⟩:=List.mem_iff_getElem?.1 hx;exact hJ i x (by have:=(qk.1 hi).1;omega) hi
     simp[go_sem,f3,f4,f5,aa,w1]
     try refine⟨g,aA ?_⟩
     try refine aA ?_
     refine⟨zS1 f1,zSi,fun i f hi hf=>?_⟩;by_cases ab:i=k
     .subst ab;rw[hg]at hf;cases hf;exact a5
     .exact hI i f zOm hf
    .have t:j<l.length:=by omega
     have w1:=zWk j;have ad:l[j]?=some l[j]:=qA t;by_cases hq:0<=l[j]/\l[j]<r
     .have q1:¬l[j]<0:=by omega
      have q2:¬(r:Int)<=l[j]:=zOm;simp[go_sem,f4,f5,t];refine cJ zKr ?_;simp[go_sem,f1,f4,f5,t,q1,q2,w1,a0]
      try refine⟨t,aA ?_⟩
      try refine aA ?_
      refine⟨zS1 f1,zS1 f3,zS1 f4,zSi,fun i x hi hx=>?_⟩;by_cases ae:i=j
      .subst ae;rw[ad]at hx;cases hx;exact hq
      .exact hJ i x zOm hx
     .rw [o (by
       rw[fldB,hl,Bool.and_eq_false_iff];refine .inr (List.all_eq_false.2 ⟨l[j],qs t,?_⟩);simp only[qH,decide_eq_true_eq];exact hq)]
      by_cases q1:l[j]<0
      .simp [go_sem,f4,f5,t]
       refine cJ zKr ?_;simp[go_sem,f4,f5,t,q1];exact .zsc _
      .have q2:(r:Int)<=l[j]:=by omega
       simp[go_sem,f4,f5,t];refine cJ zKr ?_;simp[go_sem,f1,f4,f5,t,q1,q2,a0];exact .zsc _
theorem qmT{ts}(h:yV ts=true)(i:∀ x,x∈ts.sS->x.1.size<=4611686018427387904):okTS ts/\(∀ p,p∈ts.sT->WfN p.body)/\∀ f,f∈ts.sP->WfN f.2:=by
 simp only[yV,limB,fldB,qH,decide_eq_true_eq,zF]at h;obtain⟨⟨⟨⟨j,l⟩,o⟩,r⟩,hf,t,C⟩:=h;refine⟨⟨j,l,o,r,i,fun f g=>?_,fun p g=>?_⟩,fun p g=>vV (t p g).2,fun f g=>vV (C f g)⟩
 .grind
 grind [qmR]
end Q8
namespace GQ
open YF P1 E9 Q8
def y5(sc:Sc):Bool:=decide (sc.sC.length<=4)&&(decide (1<=sc.sN)&&(decide (sc.sN<=4)&&(sc.sC.all (fun a=>decide (1<=a)&&decide (a<=5))&&decide (sumI sc.sC<=12))))
theorem qmU{sc}(h:y5 sc=true):GSc sc:=by
 simp only[y5,qH,decide_eq_true_eq,zF]at h;exact⟨h.1,fun a g=>by grind⟩
theorem qmV(sc):qi qe 86 [eSc sc] (aB (y5 sc)):=by
 refine qSV call86 func86 rfl ?_;by_cases o:(4:Int)<sc.sC.length
 case pos =>
  simp[go_sem,o,y5,show ¬sc.sC.length<=4 by omega];exact .zsc _
 by_cases I:sc.sN<1
 case pos =>
  simp[go_sem,o,I,y5,show ¬ 1<=sc.sN by omega];exact .zsc _
 by_cases U:4<sc.sN
 case pos =>
  simp[go_sem,o,I,U,y5,show ¬sc.sN<=4 by omega];exact .zsc _
 simp[go_sem,o,I,U];refine qm.up sc.sC.length (fun k T=>T.tm 1 = .ip [lI sc.sC,aI sc.sN]/\T.tm 3=aI (sumI (sc.sC.take k))/\T.tm 4=aI k/\T.mu=[]/\0<=sumI (sc.sC.take k)/\sumI (sc.sC.take k)<=5*k/\∀(i:Nat)(h:i<sc.sC.length),i<k->1<=sc.sC[i]/\sc.sC[i]<=5) ?_ ?_
 .simp [go_sem,sumI]
 rintro k T hk ⟨p,J,r,t,s0,s1,he⟩;by_cases g:k<sc.sC.length
 .by_cases hb:sc.sC[k]<1\/5<sc.sC[k]
  .have:sc.sC.all (fun a=>decide (1<=a)&&decide (a<=5))=false:=UX g zSo
   have:y5 sc=false:=by simp only[y5,this,Bool.and_false,Bool.false_and]
   rw[this];by_cases j:sc.sC[k]<1
   .simp [go_sem,p,r,t,g,j]
    exact .zsc _
   .simp [go_sem,p,r,t,g,j,show 5<sc.sC[k] by omega]
    exact .zsc _
  .have hs:=uV sc.sC k g
   generalize hS:sumI (sc.sC.take k)=S at *
   simp[go_sem,p,J,r,t,g,hs,show ¬sc.sC[k]<1 by omega,show ¬ 5<sc.sC[k] by omega];refine⟨zWr,zWr,zOm,zOm,fun i h C=>?_⟩;rcases Nat.lt_succ_iff_lt_or_eq.1 C with P|P
   .exact he i h P
   .subst P;exact⟨zOm,zOm⟩
 .have R:k=sc.sC.length:=by omega
  subst R;rw[qO]at J;have l:sc.sC.all (fun a=>decide (1<=a)&&decide (a<=5))=true:=by
   rw[UW];intro i C;have:=he i C C;simp;omega
  simp[go_sem,p,J,r,t];simp only[y5,l,show sc.sC.length<=4 by omega,show 1<=sc.sN by omega,show sc.sN<=4 by omega];simp;exact .zsc _
theorem qmW(ts sc):qi qe 46 [eTS ts,eSc sc] (aB (decide (ts.sS.length=sc.sC.length)&&y5 sc)):=by
 refine qSV call46 func46 rfl ?_;by_cases h:ts.sS.length=sc.sC.length
 .simp [go_sem,h]
  refine fR (qmV sc) (.zk (zA sc) .nil) ?_;exact .zsc _
 .simp [go_sem,h]
  exact .zsc _
def jA(ts:TS)(sc:Sc):Bool:=decide (1<=ts.sS.length)&&(decide (ts.sS.length<=4)&&(decide (ts.sA.length<=6)&&(decide (sc.sC.length<=4)&&(ts.sA.all (fldB ts.sS.length)&&(decide (ts.sS.length=sc.sC.length)&&y5 sc)))))
theorem qmX(ts sc):qi qe 21 [eTS ts,eSc sc] (aB (jA ts sc)):=by
 refine qSV call21 func21 rfl ?_;by_cases I:ts.sS.length=0
 case pos =>
  have hf:jA ts sc=false:=by grind [jA]
  rw[hf];simp[go_sem,I];exact .zsc _
 by_cases U:(4:Int)<ts.sS.length
 case pos =>
  have hf:jA ts sc=false:=by grind [jA]
  rw[hf];simp[go_sem,I,U];exact .zsc _
 by_cases h2:(6:Int)<ts.sA.length
 case pos =>
  have hf:jA ts sc=false:=by grind [jA]
  rw[hf];simp[go_sem,I,U,h2];exact .zsc _
 by_cases h3:(4:Int)<sc.sC.length
 case pos =>
  have hf:jA ts sc=false:=by grind [jA]
  rw[hf];simp[go_sem,I,U,h2,h3];exact .zsc _
 simp[go_sem,I,U,h2,h3];refine aK ts.sA.length (fun k T=>T.tm 2 = .ip (cTS ts)/\T.tm 3 = .ip [lI sc.sC,aI sc.sN]/\T.tm 5=aI k/\∀(j:Nat)(h:j<ts.sA.length),j<k->fldB ts.sS.length ts.sA[j]=true) ?_ ?_
 .simp [go_sem, *]
 rintro k T hk ⟨p,J,r,hI⟩;by_cases o:k<ts.sA.length
 .have w1:=zWk k
  have l:fldB ts.sS.length ts.sA[k]=false->jA ts sc=false:=fun hb=>by
   simp only[jA,UX o hb,Bool.and_false,Bool.false_and]
  by_cases l1:(ts.sA[k].sS.length:Int)<1
  .rw [l (by grind [fldB])]
   simp[go_sem,p,r,o,l1];exact .zsc _
  by_cases l3:(3:Int)<ts.sA[k].sS.length
  .rw [l (by grind [fldB])]
   simp[go_sem,p,r,o,l1,l3];exact .zsc _
  simp[go_sem,p,r,o,l1,l3];refine aK ts.sA[k].sS.length (fun j T=>T.tm 2 = .ip (cTS ts)/\T.tm 3 = .ip [lI sc.sC,aI sc.sN]/\T.tm 5=aI k/\T.tm 6=lI ts.sA[k].sS/\T.tm 7=aI j/\∀(i:Nat)(h:i<ts.sA[k].sS.length),i<j->0<=ts.sA[k].sS[i]/\ts.sA[k].sS[i]<ts.sS.length) ?_ ?_
  .simp [go_sem, *]
  clear p J r T;rintro j T hj ⟨p,J,r,C,P,hJ⟩;by_cases g:j<ts.sA[k].sS.length
  .have w2:=zWk j
   simp[go_sem,C,P,g];refine cJ zKr ?_;by_cases q1:ts.sA[k].sS[j]<0
   .rw [l (by rw[fldB,UX g zSo,Bool.and_false])]
    simp[go_sem,C,P,g,q1];exact .zsc _
   by_cases q2:(ts.sS.length:Int)<=ts.sA[k].sS[j]
   .rw [l (by rw[fldB,UX g zSo,Bool.and_false])]
    simp[go_sem,p,C,P,g,q1,q2];exact .zsc _
   simp[go_sem,p,C,P,g,q1,q2,w2]
   try refine⟨g,aA ?_⟩
   try refine aA ?_
   refine⟨zS1 p,zS1 J,zS1 r,zS1 C,zSi,fun i h hi=>?_⟩
   grind
  .have t:j=ts.sA[k].sS.length:=by omega
   simp[go_sem,r,C,P,t,w1]
   try refine⟨o,aA ?_⟩
   try refine aA ?_
   refine⟨zS1 p,zS1 J,zSi,fun i h hi=>?_⟩;by_cases a0:i=k
   .subst a0
    have:ts.sA[i].sS.all (fun x=>decide (0<=x)&&decide (x<ts.sS.length))=true:=UW.2 fun a ha=>by
     grind
    simp only[fldB,this,Bool.and_true,qH,decide_eq_true_eq];omega
   grind
 .have t:k=ts.sA.length:=by omega
  have R:ts.sA.all (fldB ts.sS.length)=true:=UW.2 fun i h=>hI i h zOm
  simp[go_sem,p,J,r,t];refine fR (qmW ts sc) (.zk (zp ts) (.zk (zA sc) .nil)) ?_;have hf:jA ts sc=(decide (ts.sS.length=sc.sC.length)&&y5 sc):=by
   simp only[jA,R,show 1<=ts.sS.length by omega,show ts.sS.length<=4 by omega,show ts.sA.length<=6 by omega,show sc.sC.length<=4 by omega];simp
  rw[hf];exact .zsc _
end GQ
namespace EZ
open E1 E2 EO EP EQ ER ET EY
theorem qa8(m)(j:0<m)(x)(g:0<=x/\x<=1000000):qi qe 240 [aI x,.ip [aI m]] (aI (x / m)):=by
 refine qSV call240 func240 rfl ?_;have d1:x.tdiv m=x / m:=Int.tdiv_eq_ediv_of_nonneg g.1;have l:0<=x / m:=Int.ediv_nonneg g.1 zOm;have o:x / m<=x:=Int.ediv_le_self _ g.1;have i:qq.wrap (x / m)=x / m:=zWr;simp[go_sem,show ¬m=0 by omega,d1,i];exact .zsc _
abbrev ovF(m:Int):AV := .fn (.func 240) [] [.ip [aI m]]
theorem Jd(m):HF (ovF m):=HF.fn zSp (by simp;exact jl (HF.sc _))
theorem aJ(m)(g:0<m)(ok)(h:∀ x,ok x->0<=x/\x<=1000000):FnOk qe (ovF m) (fun x:Int=>aI x) ok (fun x=>aI (x / m)):=
 ⟨Jd m,_,[],_,rfl,fun x i=>⟨_,.zs (.zk (jl (HF.sc _)) .nil),qa8 m g x (h x i)⟩⟩
theorem qmY(m)(g:0<m)(ts x)(i:0<=x/\x<=1000000):qi qe 241 [aI x,.ip [imC (cntK (fun t=>t / m) ts)],.ip [ovF m]] (aB (decide ((getK (x / m) (cntK (fun t=>t / m) ts)).getD 0=0))):=by
 refine qSV call241 func241 rfl ?_;have j:=fun C=>Kg C (fun t=>t / m) ts (x / m)
 have l:(imC (cntK (fun t=>t / m) ts)).cells=[imC (cntK (fun t=>t / m) ts)]:=rfl;have o:(imC (cntK (fun t=>t / m) ts)).one=true:=rfl;generalize imC (cntK (fun t=>t / m) ts)=B at *
 simp[go_sem];refine fM ?_;refine fW (qa8 m g x i) (.zs (.zk (jl (HF.sc _)) .nil)) ?_;simp[go_sem,j];exact .zsc _
theorem qmZ(m ts x):(getK (x / m) (cntK (fun t=>t / m) ts)).getD 0=0↔∀ u,u∈ts->u / m≠x / m:=by
 obtain⟨l,i⟩:=mQ (fun t=>t / m) ts (x / m);constructor
 .intro h u g e
  have:=i.2 ⟨u,g,e⟩;omega
 .intro h
  have:¬ 0<(getK (x / m) (cntK (fun t=>t / m) ts)).getD 0:=fun j=>by
   obtain⟨u,g,e⟩:=i.1 j;exact h u g e
  omega
theorem overU(n)(p:0<=n)(a8:n<=12)(a b)(P:GR n a)(C:GR n b)(e:a.ar=b.ar):qi qe 213 [aI n,eRel a,eRel b] (eRel (ovR n a b)):=by
 refine qSV call213 func213 rfl ?_;have b1:=C.ar1;have b3:=C.ar3;have la:=P.len p zOm;have lb:=C.len p zOm;by_cases J:n=0
 .have hr:ovR n a b=⟨a.ar,[]⟩:=by
   unfold ovR unR;rw[GR.none J P,GR.none J C,e];rfl
  rw[hr];simp[go_sem,J];exact YT
 have w2:qq.wrap (b.ar-1)=b.ar-1:=zWr;have hp:0<powI n (b.ar-1):=Int.pow_pos zOm;obtain⟨p0,p1⟩:=Qv (k:=b.ar-1) p (by omega:n<=20);obtain⟨q0,q1⟩:=Qv (k:=b.ar) p (by omega:n<=20);obtain⟨r0,r1⟩:=Qv (k:=a.ar) p (by omega:n<=20);have R:∀ t,t∈a.ts->0<=t/\t<=1000000:=fun t T=>zW1 (P.val t T)
 have U:∀ t,t∈b.ts->0<=t/\t<=1000000:=fun t T=>zW1 (C.val t T)
 have a0:=Kh n p zOm (b.ar-1) zOm zOm;unfold ovR;generalize powI n (b.ar-1)=m at *
 have a1:=setU b (ovF m) (fun t=>t / m) (aJ m hp (·∈b.ts) U) zOm;have g:=Z9 (cntK (fun t=>t / m) b.ts);have hk:=Ke a.ts (.fn (.func 241) [] [.ip [imC (cntK (fun t=>t / m) b.ts)],.ip [ovF m]]) (fun t=>decide (∀ u,u∈b.ts->u / m≠t / m)) ⟨HF.fn zSp (by simp;exact⟨jl g,jl (Jd m)⟩),_,[],_,rfl,fun x l=>⟨_,.zs (.zk (jl g) (.zk (jl (Jd m)) .nil)),by have:=qmY m hp b.ts x (R x l);simp only[qmZ m b.ts x]at this;exact this⟩⟩ zOm;have a2:(imC (cntK (fun t=>t / m) b.ts)).cells=[imC (cntK (fun t=>t / m) b.ts)]:=rfl;have a3:(imC (cntK (fun t=>t / m) b.ts)).one=true:=rfl;generalize imC (cntK (fun t=>t / m) b.ts)=B at *
 have a4:WKs [lI a.ts,.fn (.func 241) [] [.ip [B],.ip [ovF m]]] [lI a.ts,.fn (.func 241) [] [.ip [B],.ip [ovF m]]] := .zk (zh _) (.cons (.hf (HF.fn zSp (by simp;exact⟨jl g,jl (Jd m)⟩))) .nil);have a5:=List.length_filter_le (fun t=>decide (∀ u,u∈b.ts->u / m≠t / m)) a.ts;have hu:=vF b ⟨a.ar,a.ts.filter fun t=>decide (∀ u,u∈b.ts->u / m≠t / m)⟩ zOm (zQ a5 zOm);have a6:=wkR2 b ⟨a.ar,a.ts.filter fun t=>decide (∀ u,u∈b.ts->u / m≠t / m)⟩;generalize a.ts.filter (fun t=>decide (∀ u,u∈b.ts->u / m≠t / m))=K at *
 simp[go_sem,J];rw[w2];refine fR a0 (.zs (.zs .nil)) ?_;refine fZ (qD.freezeM (args1:=[eRel b,ovF m]) (mu':=[.arr [aI 0,.lst true []],.dead,.arr [ovF m]]) (fun i=>i == 1) ?_ ?_ (a1.toSound _ (.zk (qY b) (.zk (Jd m) .nil)))) ?_ ?_
 .exact ⟨.same _,.fn _ _ _ _ _ rfl rfl zSp (fun k x y l I=>by
   match k with
   | 0=>simp at l I;subst l;subst I;exact .rd _ _ (Rd.ip1 rfl (.hf _ (HF.sc _)))
   |k+1=>simp at l),trivial⟩
 .refine ⟨rfl,fun i c' o h2=>?_⟩
  match i with
  | 0=>simp at o;subst o;exact⟨rfl,_,rfl,zSp,.inl rfl⟩
  | 1=>simp at o;exact absurd o.symm h2
  | 2 =>
   simp at o;subst o;exact⟨rfl,_,rfl,zSp,.inr ⟨_,_,rfl,rfl,⟨.fn _ _ _ _ _ rfl rfl zSp (fun k x y l I=>by
    match k with
    | 0=>simp at l I;subst l;subst I;exact .rd _ _ (Rd.ip1 rfl (.hf _ (HF.sc _)))
    |k+1=>simp at l),trivial⟩,rfl⟩⟩
  |i+3=>simp at o
 .rintro r j ⟨h,rfl⟩
  cases h;simp[go_sem,a2,a3];refine qj.fz (FzQ.one (d:=8) (b:=2) (x := .ip [ovF m]) (Rd.ip1 rfl (.hf _ (Jd m))) ?_);refine qj.fz (FzQ.one (d:=9) (b:=3) (x := .ip [B]) ?_ ?_)
  .simp [go_sem,cutM]
   exact Rd.ip1 rfl (.hf _ g)
  simp[go_sem,cutM];refine fM ?_;refine fR hk a4 ?_;refine fR hu a6 ?_;exact .hf _ (qY _)
 .rintro r j ⟨h,rfl⟩
  cases h
end EZ
namespace EA
open Y1 Y9 P2 E1 E2 E3 E7
section
variable {nm:tP}{ds:List Den}{x:Mo}{N:Nat}{p:Pl}
structure OkM (x:Mo) (N:Nat):Prop extends OkX x N where
 n0:0<=x.n
 n12:x.n<=12
 st:∀ s,s<N->(x.m.sK.getD s []).length=x.ts.sA.length/\∀ r,r∈x.m.sK.getD s []->GR x.n r
 at0:∀ i,i<x.ts.sS.length->0<=gI x.m.sc.sC i/\0<=sumI (x.m.sc.sC.take i)/\sumI (x.m.sc.sC.take i)+gI x.m.sc.sC i<=x.n
structure OkP (x:Mo) (N:Nat) (p:Pl):Prop where
 st:p.st<N
 env:∀ e,e∈p.env->0<=e.2/\e.2<x.n
theorem OkP.nx(h:OkM x N)(k:OkP x N p):OkP x N ⟨x.nx p.st,p.env⟩:=⟨h.nx _ k.st,k.env⟩
theorem OkP.bind(k:OkP x N p){nm a}(i:0<=a/\a<x.n):OkP x N ⟨p.st,p.env++[(nm,a)]⟩:=⟨k.st,fun e g=>by
 rcases qM.1 g with g|g
 .exact k.env e g
 grind⟩
theorem jn{I i q}{g:I->XE i}{r}(h:bX q g = .ok r):∃ a,q = .ok a/\g a = .ok r:=by
 cases q with
 |error e=>cases h
 |ok a=>exact⟨a,rfl,h⟩
theorem qa9{a}:∀{env:List (tP×Int)}{r},env.foldl (fun r e=>if e.1=nm then some e.2 else r) r=some a->r=some a\/∃ e,e∈env/\e.2=a
 | [],r,h => .inl h
 |e :: env,r,h=>by
  rw[List.foldl_cons]at h;rcases qa9 h with h|⟨g,i,j⟩
  .split at h
   .grind
   grind
  grind
theorem qm0{fs i r}(h:r∈vR fs i nm):r∈i:=by
 unfold vR at h;obtain⟨e,j,g⟩:=List.mem_filterMap.1 h;split at g
 .cases g;exact(List.of_mem_zip (a:=e.1) (b:=e.2) j).2
 .cases g
theorem qbA(h:OkM x N)(nm):∀ so i,i+so.length<=x.ts.sS.length->∀ r,r∈jd x nm i so->GR x.n r
 | [],i,_,r,g=>by cases g
 |s :: so,i,l,r,g=>by
  simp only[zG]at l;obtain⟨C,o,I⟩:=h.at0 i zOm;rw[jd]at g;simp only[qM]at g;have j:GR x.n ⟨1,zJ x i⟩:=GR.run _ o zOm;rcases g with g|g|g|g
  .grind
  .split at g
   .rw [qV]at g;subst g
    exact⟨j.ar1,j.ar3,fun t p=>j.val t (jI p),List.Pairwise.sublist (List.take_sublist _ _) j.srt⟩
   .cases g
  .grind [qV,gI,Qx,GR.nil,GR.sN]
  .exact qbA h nm so (i+1) zOm r g
theorem qm1{l r}(h:Z7 l = .ok r):r∈l:=by
 match l,h with
 | [q],h=>cases h;exact zg ..
theorem qm2(h:OkM x N){p}(k:OkP x N p){nm r}(e:vS x p nm = .ok r):GR x.n r:=by
 unfold vS at e;cases i:zZ nm p.env with
 |some a =>
  rw[i]at e;cases e;rcases qa9 i with g|⟨b,j,rfl⟩
  .cases g
  .exact GR.one (k.env b j).1 (k.env b j).2
 |none =>
  rw[i]at e;rcases qM.1 (qm1 e) with g|g
  .exact (h.st _ k.st).2 r (qm0 g)
  .exact qbA h nm _ 0 zOm r g
theorem KO{I}{g:Int->XE I}:∀{ts l},mapX (fun a=>bX (g a) fun b => .ok (a,b)) ts = .ok l->l.map Prod.fst=ts
 | [],l,h=>by cases h;rfl
 |t :: ts,l,h=>by
  rw[mapX]at h;obtain⟨b,i,j⟩:=jn h;obtain⟨c,J,o⟩:=jn i;cases o;obtain⟨r,p,C⟩:=jn j;cases C;rw[List.map_cons,KO p]
theorem qbB{l}(h:jk ds nm p = .ok l):∃ d,(kD ds 0).E p = .ok d/\d.ar=1/\l.map Prod.fst=d.ts:=by
 unfold jk at h;obtain⟨d,i,g⟩:=jn h;split at g
 .rename_i j;exact⟨d,i,j,KO g⟩
 .cases g
theorem wP{q}(h:yn ds p = .ok q):(kD ds 0).E p = .ok q.1/\(kD ds 1).E p = .ok q.2/\q.1.ar=q.2.ar:=by
 unfold yn at h;obtain⟨a,i,g⟩:=jn h;obtain⟨b,j,l⟩:=jn g
 grind
theorem Je{a}(h:binE ds p = .ok a):(kD ds 0).E p = .ok a/\a.ar=2:=by
 unfold binE at h;obtain⟨b,i,g⟩:=jn h;split at g
 .grind
 .cases g
theorem qm3(h:OkM x N){op nm i ds}(hi:op=2->1<=i/\i<=3)(I:∀ j p r,OkP x N p->(kD ds j).E p = .ok r->GR x.n r){p}(k:OkP x N p){r}(e:opE x op nm i ds p = .ok r):GR x.n r:=by
 have n0:=h.n0;unfold opE at e;by_cases o1:op=1
 .rw [if_pos o1]at e
  exact qm2 h k e
 rw[if_neg o1]at e;by_cases o2:op=2
 .rw [if_pos o2]at e
  grind [GR.nil]
 rw[if_neg o2]at e;by_cases o3:op=3
 .rw [if_pos o3]at e
  cases e;have:=GR.run (n:=x.n) (a:=0) x.n.toNat zOm zOm
  grind
 rw[if_neg o3]at e;by_cases o4:op=4
 .rw [if_pos o4]at e
  cases e;exact aY n0
 rw[if_neg o4]at e;by_cases o5:op=5
 .rw [if_pos o5]at e
  exact I 0 _ r (k.nx h) e
 rw[if_neg o5]at e;by_cases o6:op=6
 .rw [if_pos o6]at e
  obtain⟨q,g,o⟩:=jn e;obtain⟨g1,C,J⟩:=wP g
  grind [aP]
 rw[if_neg o6]at e;by_cases o7:op=7
 .rw [if_pos o7]at e
  obtain⟨q,g,o⟩:=jn e;obtain⟨g1,C,J⟩:=wP g;cases o;exact GR.filter (I 0 p _ k g1) _
 rw[if_neg o7]at e;by_cases o8:op=8
 .rw [if_pos o8]at e
  obtain⟨q,g,o⟩:=jn e;obtain⟨g1,C,J⟩:=wP g;cases o;exact GR.filter (I 0 p _ k g1) _
 rw[if_neg o8]at e;by_cases o9:op=9
 .rw [if_pos o9]at e
  obtain⟨a,g,o⟩:=jn e;obtain⟨b,h3,h4⟩:=jn o
  grind [wH,GR.join]
 rw[if_neg o9]at e;by_cases P:op=10
 .rw [if_pos P]at e
  obtain⟨a,g,o⟩:=jn e;obtain⟨b,h3,h4⟩:=jn o
  grind [Zw,aR]
 rw[if_neg P]at e;by_cases R:op=11
 .rw [if_pos R]at e
  obtain⟨a,g,o⟩:=jn e;obtain⟨g1,C⟩:=Je g
  grind [GR.trans]
 rw[if_neg R]at e;by_cases T:op=12
 .rw [if_pos T]at e
  obtain⟨a,g,o⟩:=jn e;obtain⟨g1,C⟩:=Je g
  grind [aW]
 rw[if_neg T]at e;by_cases U:op=13
 .rw [if_pos U]at e
  obtain⟨a,g,o⟩:=jn e;obtain⟨g1,C⟩:=Je g;obtain⟨c1,c2⟩:=aW n0 200 (I 0 p _ k g1) C;cases o;exact aP c1 (aY n0) c2
 rw[if_neg U]at e;by_cases a0:op=14
 .rw [if_pos a0]at e
  obtain⟨q,g,o⟩:=jn e;obtain⟨g1,C,J⟩:=wP g
  grind [aX]
 rw[if_neg a0]at e;by_cases a1:op=15
 .rw [if_pos a1]at e
  obtain⟨l,g,o⟩:=jn e;obtain⟨d,g1,C,J⟩:=qbB g;cases o;have gd:=I 0 p d k g1;have hs:List.Sublist ((l.filter fun e=>e.2).map fun e=>e.1) d.ts:=by rw[<-J];exact List.Sublist.map _ List.filter_sublist
  refine⟨by grind,by grind,fun t ht=>?_,List.Pairwise.sublist hs gd.srt⟩;have:=gd.val t (hs.subset ht)
  grind
 rw[if_neg a1]at e;cases e
theorem qbC(h:OkM x N):∀ m n,szN n<=m->WfN n->∀ p r,OkP x N p->(den x n).E p = .ok r->GR x.n r
 | 0,n,o,_,_,_,_,_=>by obtain⟨op,nm,i,ks,p⟩:=n;simp[szN]at o
 |m+1,n,o,t,p,r,k,e=>by
  rw[vT]at e;refine qm3 h t.num (fun j p r k e=>?_) k e;unfold kD at e;by_cases g:j<n.sD.length
  .have l:(n.sD.map (den x)).getD j noD=den x n.sD[j]:=by simp[List.getD,g]
   rw[l]at e;exact qbC h m n.sD[j] (zW1 (yu (qs g))) (t.kid (qs g)) p r k e
  .have l:(n.sD.map (den x)).getD j noD=noD:=by simp[List.getD,g]
   rw[l]at e;cases e
end
end EA
namespace F2
open Y1 Y9 E1 E2 E3 EA EQ ER EY EZ F1
structure Ev3 (x:Mo) (p:Pl) (n:Nd):Prop where
 E:qZ qe 125 [eMa x,ePl p,eNd n] (endE ((den x n).E p))
 N:qZ qe 126 [eMa x,ePl p,eNd n] (endN ((den x n).N p))
 F:qZ qe 78 [eMa x,ePl p,eNd n] (endB ((den x n).F p))
 G:∀ r,(den x n).E p = .ok r->GR x.n r
structure OkMa (x:Mo) (N:Nat):Prop extends OkM x N where
 gsc:GSc x.m.sc
 pos:∀ a,a∈x.m.sc.sC->0<=a
 al:x.m.sc.sC.length=x.ts.sS.length
 loop:0<=x.m.loop
 N1:N<=1000
 ts:okTS x.ts
mutual
def dN:Nd->Nat
 | .mk _ _ _ ks _=>dNs ks+1
def dNs:List Nd->Nat
 | []=>0
 |k :: ks=>max (dN k) (dNs ks)
end
theorem qbD(n):dN n=dNs n.sD+1:=by
 obtain⟨op,o,i,ks,p⟩:=n;rfl
theorem qm4{ks k}(h:k∈ks):dN k<=dNs ks:=by
 induction ks with
 |nil=>simp at h
 |cons a l g =>
  simp only[dNs];rcases qy.1 h with rfl|h
  .omega
  .have:=g h;omega
theorem qm5{n k}(h:k∈n.sD):dN k<dN n:=by
 have:=qm4 h;rw[qbD n];omega
abbrev IH(x:Mo)(N:Nat)(n:Nd):Prop:=∀ k,k∈n.sD->∀ p:Pl,OkP x N p->p.env.length+dN n<=1000001->Ev3 x p k
abbrev bd(p:Pl)(n:Nd):Prop:=p.env.length+dN n<=1000000
theorem qm6{mu r s x y}(h:Rd mu x (eRel r))(j:Rd mu y (eRel s)):Rd mu (.tup [x,y]) (.tup [eRel r,eRel s]):=by
 refine .tup _ _ rfl fun k u v g i=>?_
 match k with
 | 0=>simp at g i;subst g;subst i;exact h
 | 1=>simp at g i;subst g;subst i;exact j
 |k+2=>simp at g
theorem Jf(x N n a b)(i:n.sD=[a,b])(t:IH x N n)(p)(C:OkP x N p)(U:bd p n) :
  qZ qe 124 [eMa x,ePl p,eNd n] (end2 (yn [den x a,den x b] p)):=by
 refine zl.of_sound ?_;refine qSW call124 func124 rfl {} ?_;have j:=(t a (by rw[i];simp) p C zOm).E;have l:=(t b (by rw[i];simp) p C zOm).E;have I:=wk3 x p a;have J:=wk3 x p b;have hM:=yc x;generalize g:yn [den x a,den x b] p=E;unfold yn at g;simp only[kD,uL,List.getD_cons_succ]at g;generalize eMa x=M at *
 simp[go_sem];refine fD [0,1,2,3,4,5,7,8,9,10,11,12,6,13,14,15,16,17] [(0,0,[]),(1,0,[]),(2,0,[]),(3,0,[]),(4,0,[]),(5,0,[]),(7,0,[]),(8,0,[]),(9,0,[]),(10,0,[]),(11,0,[]),(12,0,[]),(6,1,[8,10,12]),(13,1,[]),(14,2,[1,3,5,8,10,12]),(15,2,[1,3,5,8,10,12]),(16,1,[]),(17,1,[])] zKr zKr zSi ?_;simp[go_sem,i];cases P:(den x a).E p with
 |error e =>
  rw[P]at j g;subst g;refine kL j I ?_;simp[go_sem];exact .hf _ (qQ _)
 |ok r =>
  rw[P]at j g;rw[zr]at g;refine tS j.toP I ?_;simp[go_sem,i];cases R:(den x b).E p with
  |error e =>
   rw[R]at l g;subst g;refine kL l J ?_;simp[go_sem];exact .hf _ (qQ _)
  |ok s =>
   rw[R]at l g;rw[zr]at g;refine tS l.toP J ?_;by_cases o:r.ar=s.ar
   .rw [if_pos o]at g
    subst g;have T:(r.ar=s.ar)=True:=eq_true o;simp[go_sem,i,T];refine fD [0,1,2,3] [(0,0,[]),(1,0,[]),(2,1,[1]),(3,1,[])] zKr zKr zSi ?_;simp[go_sem];exact qm6 (.hf _ (qY r)) (.hf _ (qY s))
   .rw [if_neg o]at g
    subst g;simp[go_sem,i,o];refine kL (wI 42) (wkI 42) ?_;simp[go_sem];exact .hf _ (qQ _)
theorem qm7(x N n a b)(i:OkMa x N)(j:n.sD=[a,b])(l:IH x N n)(p)(o:OkP x N p)(P:bd p n) :
  qZ qe 171 [eMa x,ePl p,eNd n] (endE (bX (yn [den x a,den x b] p) fun q => .ok (unR q.1 q.2))):=by
 refine zl.of_sound ?_;refine qSW call171 func171 rfl {} ?_;have g:=Jf x N n a b j l p o P;have C:=wk3 x p n;have R:=yc x;cases t:yn [den x a,den x b] p with
 |error e =>
  rw[t]at g;rw[zL];simp[go_sem];refine kL g C ?_;simp[go_sem];exact .hf _ (qQ _)
 |ok q =>
  obtain⟨r,s⟩:=q;obtain⟨I,J,h3⟩:=wP t;simp only[kD,uL,List.getD_cons_succ]at I J;have T:=(l a (by rw[j];simp) p o zOm).G _ I;have U:=(l b (by rw[j];simp) p o zOm).G _ J;have lr:=T.len i.n0 (zW1 i.n12);have ls:=U.len i.n0 (zW1 i.n12);rw[t]at g;rw[zr];simp[go_sem];refine fR g.toP C ?_;refine fR (vF r s zOm zOm) (wkR2 r s) ?_;exact .hf _ (qY _)
theorem qm8(x N n a b)(i:OkMa x N)(j:n.sD=[a,b])(l:IH x N n)(p)(o:OkP x N p)(P:bd p n) :
  qZ qe 172 [eMa x,ePl p,eNd n] (endE (bX (yn [den x a,den x b] p) fun q => .ok (inR q.1 q.2))):=by
 refine zl.of_sound ?_;refine qSW call172 func172 rfl {} ?_;have g:=Jf x N n a b j l p o P;have C:=wk3 x p n;have R:=yc x;cases t:yn [den x a,den x b] p with
 |error e =>
  rw[t]at g;rw[zL];simp[go_sem];refine kL g C ?_;simp[go_sem];exact .hf _ (qQ _)
 |ok q =>
  obtain⟨r,s⟩:=q;obtain⟨I,J,h3⟩:=wP t;simp only[kD,uL,List.getD_cons_succ]at I J;have T:=(l a (by rw[j];simp) p o zOm).G _ I;have U:=(l b (by rw[j];simp) p o zOm).G _ J;have lr:=T.len i.n0 (zW1 i.n12);have ls:=U.len i.n0 (zW1 i.n12);rw[t]at g;rw[zr];simp[go_sem];refine fR g.toP C ?_;refine fR (US r s zOm zOm) (wkR2 r s) ?_;exact .hf _ (qY _)
theorem diffX(x N n a b)(i:OkMa x N)(j:n.sD=[a,b])(l:IH x N n)(p)(o:OkP x N p)(P:bd p n) :
  qZ qe 173 [eMa x,ePl p,eNd n] (endE (bX (yn [den x a,den x b] p) fun q => .ok (diR q.1 q.2))):=by
 refine zl.of_sound ?_;refine qSW call173 func173 rfl {} ?_;have g:=Jf x N n a b j l p o P;have C:=wk3 x p n;have R:=yc x;cases t:yn [den x a,den x b] p with
 |error e =>
  rw[t]at g;rw[zL];simp[go_sem];refine kL g C ?_;simp[go_sem];exact .hf _ (qQ _)
 |ok q =>
  obtain⟨r,s⟩:=q;obtain⟨I,J,h3⟩:=wP t;simp only[kD,uL,List.getD_cons_succ]at I J;have T:=(l a (by rw[j];simp) p o zOm).G _ I;have U:=(l b (by rw[j];simp) p o zOm).G _ J;have lr:=T.len i.n0 (zW1 i.n12);have ls:=U.len i.n0 (zW1 i.n12);rw[t]at g;rw[zr];simp[go_sem];refine fR g.toP C ?_;refine fR (mW r s zOm zOm) (wkR2 r s) ?_;exact .hf _ (qY _)
theorem overX(x N n a b)(i:OkMa x N)(j:n.sD=[a,b])(l:IH x N n)(p)(o:OkP x N p)(T:bd p n) :
  qZ qe 174 [eMa x,ePl p,eNd n] (endE (bX (yn [den x a,den x b] p) fun q => .ok (ovR x.n q.1 q.2))):=by
 refine zl.of_sound ?_;refine qSW call174 func174 rfl {} ?_;have g:=Jf x N n a b j l p o T;have C:=wk3 x p n;have U:=yc x;cases t:yn [den x a,den x b] p with
 |error e =>
  rw[t]at g;rw[zL];simp[go_sem];refine kL g C ?_;simp[go_sem];exact .hf _ (qQ _)
 |ok q =>
  obtain⟨r,s⟩:=q;obtain⟨I,J,h3⟩:=wP t;simp only[kD,uL,List.getD_cons_succ]at I J;have P:=(l a (by rw[j];simp) p o zOm).G _ I;have R:=(l b (by rw[j];simp) p o zOm).G _ J;have lr:=P.len i.n0 (zW1 i.n12);have ls:=R.len i.n0 (zW1 i.n12);rw[t]at g;rw[zr];simp[go_sem];refine fR g.toP C ?_;refine fM ?_;refine fR (overU x.n i.n0 i.n12 r s P R h3) (wkJ x.n r s) ?_;exact .hf _ (qY _)
end F2
namespace F3
open Y1 E1 E2 E3 EA EL EQ ET EY F1 F2
theorem aL{x N}(h:OkMa x N):x.n<=20:=by have:=h.n12;omega
theorem aQ{n}(p:0<=n)(l:n<=12){a b}(C:GR n a)(I:GR n b)(h:a.ar+b.ar<=5):a.ts.length*b.ts.length<=1000000:=by
 have key:∀{c:Rl},GR n c->(c.ar=1->c.ts.length<=12)/\(c.ar=2->c.ts.length<=144)/\c.ts.length<=1728:=fun {c} g=>by
  have U:n*n<=12*12:=jJ l l p zOm;have a0:0<=n*n:=Int.mul_nonneg p p;have e3:n*n*n<=12*12*12:=jJ U l p zOm;have J:powI n 1=n:=uZ n;have P:powI n 2=n*n:=EC.m5 n;have p3:powI n 3=n*n*n:=by
   have:=wJ (n:=n) (i:=2) (j:=1) zOm zOm zOm;rw[J,P]at this;exact this
  have c1:=g.ar1;have c3:=g.ar3;refine⟨fun e=>J7 g.srt fun t o=>?_,fun e=>J7 g.srt fun t o=>?_,J7 g.srt fun t o=>?_⟩
  .have:=g.val t o;rw[e,J]at this;omega
  .have:=g.val t o;rw[e,P]at this;omega
  .have hv:=g.val t o
   have:c.ar=1\/c.ar=2\/c.ar=3:=zOm;rcases this with e|e|e
   .grind
   .grind
   grind
 obtain⟨a1,a2,R⟩:=key C;obtain⟨b1,b2,T⟩:=key I;have:=C.ar1;have:=I.ar1;by_cases ea:a.ar=1
 .exact zQ (Nat.mul_le_mul (a1 ea) T) zOm
 .by_cases eb:b.ar=1
  .exact zQ (Nat.mul_le_mul R (b1 eb)) zOm
  .by_cases r:a.ar=2
   .exact zQ (Nat.mul_le_mul (a2 r) T) zOm
   .exact zQ (Nat.mul_le_mul R (b2 zOm)) zOm
theorem qbE(x N n a i)(j:n.sD=a :: i)(I:IH x N n)(p)(J:OkP x N p)(R:bd p n) :
  qZ qe 218 [eMa x,ePl p,eNd n] (endE (binE [den x a] p)):=by
 refine zl.of_sound ?_;refine qSW call218 func218 rfl {} ?_;have l:=(I a (by rw[j];simp) p J zOm).E;have t:=wk3 x p a;generalize g:binE [den x a] p=E;unfold binE at g;simp only[kD,uL]at g;generalize eMa x=M at *
 simp[go_sem];refine fD [0,1,2,3,4,5,6,7,8] [(0,0,[]),(1,0,[]),(2,0,[]),(3,0,[]),(4,0,[]),(5,0,[]),(6,1,[]),(7,2,[1,3,5]),(8,1,[])] zKr zKr zSi ?_;simp[go_sem,j];cases C:(den x a).E p with
 |error e =>
  rw[C]at l g;subst g;refine kL l t ?_;simp[go_sem,zL];exact .hf _ (qQ _)
 |ok r =>
  rw[C]at l g;rw[zr]at g;refine tS l.toP t ?_;by_cases o:r.ar=2
  .rw [if_pos o]at g
   subst g;have P:(r.ar=2)=True:=eq_true o;simp[go_sem,j,P];exact .hf _ (qY r)
  .rw [if_neg o]at g
   subst g;simp[go_sem,j,o];refine kL (wI 42) (wkI 42) ?_;simp[go_sem];exact .hf _ (qQ _)
theorem joinX(x N n a b)(T:OkMa x N)(i:n.sD=[a,b])(U:IH x N n)(p)(hp:OkP x N p)(hq:bd p n) :
  qZ qe 175 [eMa x,ePl p,eNd n] (endE (bX ((den x a).E p) fun r=>bX ((den x b).E p) fun s=>wH x.n r s)):=by
 refine zl.of_sound ?_;refine qSW call175 func175 rfl {} ?_;have ia:=U a (by rw[i];simp) p hp zOm;have ib:=U b (by rw[i];simp) p hp zOm;have l:=ia.E;have o:=ib.E;have wa:=wk3 x p a;have wb:=wk3 x p b;have t:=T.n0;have g1:=T.n12;generalize g:(bX ((den x a).E p) fun r=>bX ((den x b).E p) fun s=>wH x.n r s)=E;simp[go_sem];refine fD [0,1,2,3,4,5,7,8,9,10,11,12,6,13,14,15,16,17] [(0,0,[]),(1,0,[]),(2,0,[]),(3,0,[]),(4,0,[]),(5,0,[]),(7,0,[]),(8,0,[]),(9,0,[]),(10,0,[]),(11,0,[]),(12,0,[]),(6,1,[8,10,12]),(13,1,[]),(14,2,[1,3,5,8,10,12]),(15,2,[1,3,5,8,10,12]),(16,1,[]),(17,1,[])] zKr zKr zSi ?_;simp[go_sem,i];cases I:(den x a).E p with
 |error e =>
  rw[I]at l g;subst g;refine kL l wa ?_;simp[go_sem,zL];exact .hf _ (qQ _)
 |ok r =>
  rw[I]at l g;rw[zr]at g;refine tS l.toP wa ?_;simp[go_sem,i];cases J:(den x b).E p with
  |error e =>
   rw[J]at o g;subst g;refine kL o wb ?_;simp[go_sem,zL];exact .hf _ (qQ _)
  |ok s =>
   rw[J]at o g;rw[zr]at g;refine tS o.toP wb ?_;have P:=ia.G _ I;have R:=ib.G _ J;have lr:=P.len t zOm;have ls:=R.len t zOm;simp[go_sem,i];refine fD [0,1,2,3,4,5,6,7,8,9,10] [(0,0,[]),(1,0,[]),(2,0,[]),(3,0,[]),(4,0,[]),(5,0,[]),(6,1,[]),(7,0,[]),(8,0,[]),(9,1,[]),(10,1,[])] zKr zKr zSi ?_;simp[go_sem];have C:=wG x.n t g1 r s P R (aQ t g1 P R);cases ej:wH x.n r s with
   |error e =>
    rw[ej]at C g;subst g;have he:e≠0:=by
     grind [wH]
    have j:=UP ⟨0,[]⟩ e;rw[if_neg he]at j;refine fR C (wkJ x.n r s) ?_;refine kL j (.zk (qY _) (.zs .nil)) ?_;simp[go_sem];exact .hf _ (qQ _)
   |ok u =>
    rw[ej]at C g;subst g;have j:=UP u 0;rw[if_pos rfl]at j;refine fR C (wkJ x.n r s) ?_;refine fR j.toP (.zk (qY _) (.zs .nil)) ?_;exact .hf _ (qY u)
theorem qm9(x N n a b)(P:OkMa x N)(i:n.sD=[a,b])(R:IH x N n)(p)(T:OkP x N p)(hq:bd p n) :
  qZ qe 176 [eMa x,ePl p,eNd n] (endE (bX ((den x a).E p) fun r=>bX ((den x b).E p) fun s=>Zw x.n r s)):=by
 refine zl.of_sound ?_;refine qSW call176 func176 rfl {} ?_;have U:=R a (by rw[i];simp) p T zOm;have ib:=R b (by rw[i];simp) p T zOm;have l:=U.E;have o:=ib.E;have wa:=wk3 x p a;have wb:=wk3 x p b;have C:=P.n0;have g1:=P.n12;generalize g:(bX ((den x a).E p) fun r=>bX ((den x b).E p) fun s=>Zw x.n r s)=E;simp[go_sem];refine fD [0,1,2,3,4,5,7,8,9,10,11,12,6,13,14,15,16,17] [(0,0,[]),(1,0,[]),(2,0,[]),(3,0,[]),(4,0,[]),(5,0,[]),(7,0,[]),(8,0,[]),(9,0,[]),(10,0,[]),(11,0,[]),(12,0,[]),(6,1,[8,10,12]),(13,1,[]),(14,2,[1,3,5,8,10,12]),(15,2,[1,3,5,8,10,12]),(16,1,[]),(17,1,[])] zKr zKr zSi ?_;simp[go_sem,i];cases I:(den x a).E p with
 |error e =>
  rw[I]at l g;subst g;refine kL l wa ?_;simp[go_sem,zL];exact .hf _ (qQ _)
 |ok r =>
  rw[I]at l g;rw[zr]at g;refine tS l.toP wa ?_;simp[go_sem,i];cases J:(den x b).E p with
  |error e =>
   rw[J]at o g;subst g;refine kL o wb ?_;simp[go_sem,zL];exact .hf _ (qQ _)
  |ok s =>
   rw[J]at o g;rw[zr]at g;refine tS o.toP wb ?_;have gr:=U.G _ I;have gs:=ib.G _ J;have lr:=gr.len C zOm;have ls:=gs.len C zOm;simp[go_sem,i];refine fD [0,1,2,3,4,5,6,7,8,9,10] [(0,0,[]),(1,0,[]),(2,0,[]),(3,0,[]),(4,0,[]),(5,0,[]),(6,1,[]),(7,0,[]),(8,0,[]),(9,1,[]),(10,1,[])] zKr zKr zSi ?_;simp[go_sem];have t:=XW x.n C g1 r s gr gs;cases ej:Zw x.n r s with
   |error e =>
    rw[ej]at t g;subst g;have he:e≠0:=by
     grind [Zw]
    have j:=UP ⟨0,[]⟩ e;rw[if_neg he]at j;refine fR t (wkJ x.n r s) ?_;refine kL j (.zk (qY _) (.zs .nil)) ?_;simp[go_sem];exact .hf _ (qQ _)
   |ok u =>
    rw[ej]at t g;subst g;have j:=UP u 0;rw[if_pos rfl]at j;refine fR t (wkJ x.n r s) ?_;refine fR j.toP (.zk (qY _) (.zs .nil)) ?_;exact .hf _ (qY u)
theorem qnA(x N n a)(g:OkMa x N)(j:n.sD=[a])(J:IH x N n)(p)(t:OkP x N p)(P:bd p n) :
  qZ qe 180 [eMa x,ePl p,eNd n] (endE ((den x a).E ⟨x.nx p.st,p.env⟩)):=by
 refine zl.of_sound ?_;refine qSW call180 func180 rfl {} ?_;have i:=(J a (by rw[j];simp) _ (OkP.nx g.toOkM t) (by grind)).E;have C:=wk3 x ⟨x.nx p.st,p.env⟩ a;have R:=g.N1;have T:=g.len;have l:=X6 x g.loop zOm p.st (zW1 t.st);have o:WKs [eMd x.m,aI p.st] [eMd x.m,aI p.st] := .zk (yM x.m) (.zs .nil);simp[go_sem];refine fD [0,1,2,3,4,5,6,8,9,11,12,13,14,7,10,15,16] [(0,0,[]),(1,0,[]),(2,0,[]),(3,0,[]),(4,0,[]),(5,0,[]),(6,0,[]),(8,0,[]),(9,0,[]),(11,0,[]),(12,0,[]),(13,0,[]),(14,0,[]),(7,1,[9,12,14]),(10,0,[]),(15,1,[]),(16,1,[])] zKr zKr zSi ?_;simp[go_sem,j];refine tS l o ?_;simp[go_sem,j];cases I:(den x a).E ⟨x.nx p.st,p.env⟩ with
 |error e =>
  rw[I]at i;refine kL i C ?_;simp[go_sem];exact .hf _ (qQ _)
 |ok r =>
  rw[I]at i;refine fR i.toP C ?_;exact .hf _ (qY r)
theorem wkT(n a):WKs [aI n,eRel a] [aI n,eRel a] := .zs (.zk (qY a) .nil)
theorem qnB(x N n a)(j:OkMa x N)(l:n.sD=[a])(o:IH x N n)(p)(t:OkP x N p)(J:bd p n) :
  qZ qe 177 [eMa x,ePl p,eNd n] (endE (bX (binE [den x a] p) fun a => .ok (trR x.n a))):=by
 refine zl.of_sound ?_;refine qSW call177 func177 rfl {} ?_;have g:=qbE x N n a [] l o p t J;have C:=wk3 x p n;have P:=yc x;have R:=j.n0;have g1:=j.n12;simp[go_sem];refine fD [0,1,2,3,4,5,6,7,8,9] [(0,0,[]),(1,0,[]),(2,0,[]),(3,0,[]),(4,0,[]),(5,0,[]),(6,0,[]),(7,1,[3]),(8,1,[]),(9,1,[])] zKr zKr zSi ?_;simp[go_sem];cases i:binE [den x a] p with
 |error e =>
  rw[i]at g;refine kL g C ?_;simp[go_sem,zL];exact .hf _ (qQ _)
 |ok r =>
  rw[i]at g;obtain⟨I,T⟩:=Je i;simp only[kD,uL]at I;have U:=(o a (by rw[l];simp) p t zOm).G _ I;refine tS g.toP C ?_;simp[go_sem,zr];refine fR (qk5 x.n R g1 r U T) (wkT x.n r) ?_;exact .hf _ (qY _)
theorem qbF(x N n a)(j:OkMa x N)(l:n.sD=[a])(o:IH x N n)(p)(t:OkP x N p)(J:bd p n) :
  qZ qe 178 [eMa x,ePl p,eNd n] (endE (bX (binE [den x a] p) fun a => .ok (clR x.n 200 a))):=by
 refine zl.of_sound ?_;refine qSW call178 func178 rfl {} ?_;have g:=qbE x N n a [] l o p t J;have C:=wk3 x p n;have P:=yc x;have R:=j.n0;have g1:=j.n12;simp[go_sem];refine fD [0,1,2,3,4,5,6,7,8,9] [(0,0,[]),(1,0,[]),(2,0,[]),(3,0,[]),(4,0,[]),(5,0,[]),(6,0,[]),(7,1,[3]),(8,1,[]),(9,1,[])] zKr zKr zSi ?_;simp[go_sem];cases i:binE [den x a] p with
 |error e =>
  rw[i]at g;refine kL g C ?_;simp[go_sem,zL];exact .hf _ (qQ _)
 |ok r =>
  rw[i]at g;obtain⟨I,T⟩:=Je i;simp only[kD,uL]at I;have U:=(o a (by rw[l];simp) p t zOm).G _ I;refine tS g.toP C ?_;simp[go_sem,zr];refine fR (closU x.n R g1 r U T) (wkT x.n r) ?_;exact .hf _ (qY _)
theorem qbG(n)(g:0<=n)(i:n<=12):qi qe 183 [aI n] (eRel (idR n)):=by
 have:=idenU n.toNat zOm;rw[show ((n.toNat:Nat):Int)=n by omega]at this;exact this
theorem qnC(x N n a)(j:OkMa x N)(o:n.sD=[a])(t:IH x N n)(p)(C:OkP x N p)(P:bd p n) :
  qZ qe 179 [eMa x,ePl p,eNd n] (endE (bX (binE [den x a] p) fun a => .ok (unR (clR x.n 200 a) (idR x.n)))):=by
 refine zl.of_sound ?_;refine qSW call179 func179 rfl {} ?_;have g:=qbF x N n a j o t p C P;have I:=wk3 x p n;have R:=yc x;have i:=j.n0;have g1:=j.n12;simp[go_sem];refine fD [0,1,2,4,5,6,7,3,8,9,10] [(0,0,[]),(1,0,[]),(2,0,[]),(4,0,[]),(5,0,[]),(6,0,[]),(7,0,[]),(3,1,[7]),(8,1,[]),(9,1,[]),(10,1,[])] zKr zKr zSi ?_;simp[go_sem];cases l:binE [den x a] p with
 |error e =>
  rw[l]at g;refine kL g I ?_;simp[go_sem,zL];exact .hf _ (qQ _)
 |ok r =>
  rw[l]at g;obtain⟨J,T⟩:=Je l;simp only[kD,uL]at J;have U:=(t a (by rw[o];simp) p C zOm).G _ J;obtain⟨gc,c2⟩:=aW i 200 U T;have gi:=aY i;have l1:=gc.len i zOm;have l2:=gi.len i zOm;rw[zr]at g;refine tS g.toP I ?_;simp[go_sem,zr];refine fR (qbG x.n i g1) (.zs .nil) ?_;refine fR (vF _ _ zOm zOm) (wkR2 _ _) ?_;exact .hf _ (qY _)
end F3
namespace F4
open Y1 P2 E3 EA EL EO EP EQ ER F1 F2 F3
section
variable {av:AV}{xs:List (List AV)}{mu:Mu}{sz:Nat}
theorem Own.one(h:Own mu sz av xs):av.one=true:=by
 rcases h with rfl|⟨b,rfl,_⟩<;>rfl
theorem Own.cells(h:Own mu sz av xs):av.cells=[av]:=by
 rcases h with rfl|⟨b,rfl,_⟩<;>rfl
theorem Own.push(h:Own mu sz av xs)(c:List Cell):Own (mu++c) sz av xs:=by
 rcases h with rfl|⟨b,rfl,g⟩
 .exact .inl rfl
 .exact .inr ⟨b,rfl,by grind⟩
theorem Own.set(h:Own mu sz av xs){i}(c)(g:qp av≠some i):Own (mu.set i c) sz av xs:=by
 rcases h with rfl|⟨b,rfl,j⟩
 .exact .inl rfl
 .exact .inr ⟨b,rfl,by rw[yJ (fun e=>g (by rw[e];rfl))];exact j⟩
theorem Own.lt(h:Own mu sz av xs){b}(g:qp av=some b):b<mu.length:=by
 rcases h with rfl|⟨j,rfl,i⟩
 .cases g
 .cases g;exact(qk.1 i).1
theorem qz.ownB{P}{t g e bt:Nat}{s x ys zv K}(R:qJ P t=some (e,sz,bt))(j:(qJ P g).isSome=true)(T:qB P e=some zv)
  (l:zv.cells.length=sz) (o:zv.cells.all AV.one=true) (p:sz≠0) (U:bt<=16384) (ho:Own mu sz s xs) (hx:qE mu x=some ys) (I:zo sz xs) (wy:zo sz ys) (J:xs.length+ys.length<=4294967296)
  (k:∀ av mu',Own mu' sz av (xs++ys)->(∀ i,i<mu.length->qp s≠some i->mu'[i]?=mu[i]?)->(∀ b,qp av=some b->b=mu.length)->mu.length<=mu'.length->K av mu'):qz P mu #[t,g] s x K:=by
 refine .inl ?_;refine⟨t,g,e,sz,bt,ys,rfl,R,j,⟨zv,T,l,o⟩,p,U,hx,wy,?_⟩;rcases ho with rfl|⟨b,rfl,hc⟩
 .refine .inl ⟨xs,rfl,I,J,fun h=>?_,fun h=>?_⟩
  .subst h
   exact k _ _ (.inl zSp) (fun _ _ _=>rfl) (fun b h=>by cases h) (qr _)
  .refine k _ _ (.inr ⟨mu.length,zSp,zSp⟩) (fun i r _=>?_) (fun b h=>by cases h;rfl) zSp
   rw[qN r]
 .have a0:=yQ I.ok
  refine .inr ⟨b,xs.length,xs.flatten,rfl,hc,zOm,J,?_⟩;have a1:xs.flatten.take (xs.length*sz)=xs.flatten:=z6 zOm;refine k _ _ (.inr ⟨mu.length,zSp,?_⟩) (fun i r C=>?_) (fun b h=>by cases h;rfl) zSp
  .grind
  .rw [qN (zUs r)]
   rw[yJ (fun e=>C (by rw[e];rfl))]
theorem FzQ.ownB{Q i d st}(l:st.tm d=av)(p:Own st.mu sz av xs)(wf:zo sz xs)(hf:∀ r,r∈xs->∀ c,c∈r->HF c)
  (k:∀ mu' full,mu'.length=st.mu.length->(∀ j,qp av≠some j->mu'[j]?=st.mu[j]?)->Q (.exit i) (st.put (some d) (.lst full xs) mu')):FzQ Q (.exit i) st:=by
 rcases p with h|⟨b,h,t⟩
 .refine FzQ.one (b:=st.mu.length) (d:=d) (x := .lst true xs) ?_ (k _ _ (jT _ _ _) fun j o=>?_)
  .rw [l,h]
   exact .hf _ (HF.lst hf)
  .by_cases g:j=st.mu.length
   .simp_all [uK,jT,qr]
   .exact Uv g _
 .refine FzQ.one (b:=b) (d:=d) (x := .lst false xs) ?_ (k _ _ (jT _ _ _) fun j o=>Uv (fun e=>o (by rw[h,e];rfl)) _)
  rw[l];exact Own.rd (.inr ⟨b,h,by rw[XJ];exact t⟩) wf.ok hf
abbrev lN(l:List Nat):AV:=lI (l.map fun k:Nat=>(k:Int))
theorem qnD(k:Nat)(l:List Nat):decide ((k:Int)∈l.map fun k:Nat=>(k:Int))=decide (k∈l):=by
 rw[Bool.eq_iff_iff,decide_eq_true_iff,decide_eq_true_iff,qn];exact⟨fun⟨a,h,e⟩=>by grind,fun h=>⟨k,h,rfl⟩⟩
theorem KP(x N)(r:OkMa x N)(s)(hs:s<N):qi qe 130 [eMa x,aI s] (lN (x.path s)):=by
 refine qSV call130 func130 rfl ?_;have hN:=r.N1;have hl:=r.len;have a1:=yc x;simp[go_sem];refine tT (fun f T=>∃(cur:Nat) (i:List Nat),Qw x f cur i=x.path s/\i.Nodup/\(∀ t,t∈i->t<N)/\cur<N/\N+1<=f+i.length/\T.tm 0=eMa x/\T.tm 6=aI (cur:Nat)/\OwnI T.mu (T.tm 5) (i.map fun k:Nat=>(k:Int))) (N+1) ?_ ?_
 .refine ⟨s,[],by grind [Mo.path],zSp,zSp,hs,zSp,zSi,zSi,.inl ⟨zSi,rfl⟩⟩
 rintro f T ⟨cur,i,p,I,J,hc,hf,e0,P,R⟩;have a2:i.length<=N:=XT N i I J;obtain⟨f,rfl⟩:∃ g,f=g+1:=⟨f-1,zOm⟩;have o:=qkP (i.map fun k:Nat=>(k:Int)) cur zSo;rw[qnD]at o;simp only[Qw]at p;simp[go_sem,P];refine fY o ⟨R.v.rd,.hf _ (HF.sc _),trivial⟩ (FL.sc _) ?_;by_cases C:cur∈i
 .rw [if_pos C]at p
  simp[go_sem,C];rw[<-p];exact R.v.rd
 .rw [if_neg C]at p
  simp[go_sem,P,C];refine aM (e:=3) (bt:=8) (z:=0) (l:=i.map fun k:Nat=>(k:Int)) zSi zSi zSi zOm R.v zSo ?_;intro a3 j a4 _ _ _;have U:=X6 x r.loop zOm cur zOm;have a0:WKs [eMd x.m,aI cur] [eMd x.m,aI cur] := .zk (yM x.m) (.zs .nil);simp[go_sem,e0,P];refine fR U a0 ?_;refine Keep.loop f zOm ⟨x.nx cur,i++[cur],p,?_,fun t ht=>?_,r.nx _ hc,zSo,zS1 e0,zSi,?_⟩
  .grind
  .grind
  simp[go_sem, *]
abbrev rB(b:Bool):List AV:=[aB b]
theorem Qy(xs:List Bool):zo 1 (xs.map rB):=fun r g=>by
 obtain⟨n,_,rfl⟩:=qn.1 g;exact⟨rfl,rfl⟩
theorem Own.rdB{xs}(h:Own mu 1 av (xs.map rB)):Rd mu av (lB xs):=
 h.rd (Qy xs).ok fun r g c i=>by
  obtain⟨n,_,rfl⟩:=qn.1 g
  grind [HF.sc]
def endL:XE (List Bool)->AEnd
 | .ok l => .ret (lB l)
 | .error e => .pan (errV e)
@[go_sem] theorem endL_ok(l):endL (.ok l) = .ret (lB l):=rfl
@[go_sem] theorem endL_err(e):endL (.error e) = .pan (errV e):=rfl
theorem Yc{I j g}:∀{i l2:List I}{r:List j},mapX g i = .ok r->mapX g (i++l2)=bX (mapX g l2) fun s => .ok (r++s)
 | [],l2,r,h=>by cases h;rw[List.nil_append];cases mapX g l2<;>rfl
 |a :: i,l2,r,h=>by
  rw[mapX]at h;obtain⟨b,l,o⟩:=jn h;obtain⟨C,p,t⟩:=jn o;cases t;rw[yP,mapX,l,zr,Yc p];cases mapX g l2<;>rfl
theorem qbH(x l)(hl:l.length<=1000000)(p n)(ih:∀ s,s∈l->Ev3 x ⟨s,p.env⟩ n) :
  qZ qe 129 [eMa x,lN l,ePl p,eNd n] (endL (mapX (fun s=>(den x n).F ⟨s,p.env⟩) l)):=by
 refine zl.of_sound ?_;refine qSW call129 func129 rfl {} ?_;have a2:=yc x;generalize hE:mapX (fun s=>(den x n).F ⟨s,p.env⟩) l=E;simp[go_sem];refine aK l.length (fun k T=>∃ o:List Bool,mapX (fun s=>(den x n).F ⟨s,p.env⟩) (l.take k) = .ok o/\o.length=k/\T.tm 0=eMa x/\T.tm 6 = .ip (cPl p)/\T.tm 7 = .ip (cNd n)/\T.tm 12=lN l/\T.tm 13=aI l.length/\T.tm 14=aI k/\Own T.mu 1 (T.tm 9) (o.map rB)) ?_ ?_
 .exact ⟨[],rfl,rfl,zSi,zSi,zSi,zSi,zSi,zSi,.inl zSi⟩
 rintro k T hk ⟨o,R,a0,e0,e6,e7,P,C,I,ho⟩;by_cases r:k<l.length
 .have w1:=zWk k
  have U:=(ih l[k] (qs r)).F;have hw:=wk3 x ⟨l[k],p.env⟩ n;have t:=Yc (l2:=l.drop k) R;rw[vO,zu r,mapX]at t;rw[hE]at t;simp[go_sem,e0,e6,e7,P,C,I,r];cases ef:(den x n).F ⟨l[k],p.env⟩ with
  |error e =>
   rw[ef]at U t;subst t;refine kL U hw ?_;simp[go_sem,zL];exact .hf _ (qQ _)
  |ok b =>
   rw[ef]at U;refine fR U.toP hw ?_;refine qz.ownB (e:=4) (sz:=1) (bt:=1) (zv:=aB false) (xs:=o.map rB) (ys:=[rB b]) zSi zSi zSi rfl rfl zOm zOm ho (by simp[qE]) (Qy o) (Qy [b]) zSo ?_;intro a3 j a4 _ _ _;simp[go_sem,I,w1];refine⟨r,aA ⟨o++[b],?_,zP1 a0,zS1 e0,zS1 e6,zS1 e7,zS1 P,zS1 C,zSi,?_⟩⟩
   .rw [yv r,Yc R,mapX,ef];rfl
   simp[go_sem, *]
 .have a1:k=l.length:=by omega
  subst a1;rw[qO,hE]at R;subst R;simp[go_sem,C,I];exact Own.rdB ho
theorem qbI(x y)(g:x.length<=1000000000):qi qe 128 [lB x,aB y] (aB (decide (y∈x))):=qkR x y g
theorem qnE(x N n a b)(hM:OkMa x N)(hk:n.sD=[a,b])(p)(hp:OkP x N p)(ih:∀ s,s∈x.path p.st->Ev3 x ⟨s,p.env⟩ a/\Ev3 x ⟨s,p.env⟩ b)(hl:(x.path p.st).length<=1000000) :
  qZ qe 132 [eMa x,ePl p,eNd n] (endB (untX (fun s=>(den x a).F ⟨s,p.env⟩) (fun s=>(den x b).F ⟨s,p.env⟩) (x.path p.st) false false)):=by
 refine zl.of_sound ?_;refine qSW call132 func132 rfl {} ?_;have P:=yc x;have R:=KP x N hM p.st hp.st;generalize hE:untX (fun s=>(den x a).F ⟨s,p.env⟩) (fun s=>(den x b).F ⟨s,p.env⟩) (x.path p.st) false false=E;generalize x.path p.st=i at *
 simp[go_sem];refine fR R (.zk P (.zs .nil)) ?_;refine aK i.length (fun k T=>∃ d q:Bool,untX (fun s=>(den x a).F ⟨s,p.env⟩) (fun s=>(den x b).F ⟨s,p.env⟩) (i.drop k) d q=E/\T.tm 0=eMa x/\T.tm 4 = .ip (cPl p)/\T.tm 5 = .ip (cNd n)/\T.tm 7=aB d/\T.tm 8=aB q/\T.tm 17=lN i/\T.tm 18=aI i.length/\T.tm 19=aI k) ?_ ?_
 .simp [go_sem, *]
 rintro k T a2 ⟨d,q,g,e0,e4,e5,e7,e8,C,r,t⟩;by_cases j:k<i.length
 .have w1:=zWk k
  obtain⟨U,a0⟩:=ih i[k] (qs j);have l:=U.F;have o:=a0.F;have I:=wk3 x ⟨i[k],p.env⟩ a;have J:=wk3 x ⟨i[k],p.env⟩ b;rw[zu j,untX]at g;simp[go_sem,e4,C,r,t,j];refine fD [0,1,2,3,4,5,7,8,9,10,11,12,6,14,13,15] [(0,0,[]),(1,0,[]),(2,0,[]),(3,0,[]),(4,0,[]),(5,0,[]),(7,0,[]),(8,0,[]),(9,0,[]),(10,0,[]),(11,0,[]),(12,0,[]),(6,1,[8,10,12]),(14,0,[]),(13,1,[]),(15,0,[])] zKr zKr zSi ?_;simp[go_sem,e0,e5,hk];cases ea:(den x a).F ⟨i[k],p.env⟩ with
  |error e =>
   rw[ea]at l g;subst g;refine kL l I ?_;simp[go_sem,zL];exact .hf _ (qQ _)
  |ok u =>
   rw[ea]at l g;rw[zr]at g;refine tS l.toP I ?_;simp[go_sem,hk];cases eb:(den x b).F ⟨i[k],p.env⟩ with
   |error e =>
    rw[eb]at o g;subst g;refine kL o J ?_;simp[go_sem,zL];exact .hf _ (qQ _)
   |ok v =>
    rw[eb]at o g;rw[zr]at g;refine tS o.toP J ?_;cases d<;>cases q<;>cases u<;>cases v<;>simp[go_sem,e7,e8,t,w1]<;>refine⟨j,aA ⟨_,_,g,zS1 e0,zS1 e4,zS1 e5,zSi,zSi,zS1 C,zS1 r,zSi⟩⟩
 .have a1:k=i.length:=by omega
  subst a1;rw[yd,untX]at g;subst g;simp[go_sem,e7,r,t];exact .zsc _
theorem um{n}(i:WfN n)(h:n.op=5\/n.op=11\/n.op=12\/n.op=13\/n.op=21\/n.op=34\/n.op=35\/n.op=36\/n.op=37\/n.op=40\/n.op=48\/n.op=49\/n.op=50):∃ a,n.sD=[a]:=by
 have g:=i.shape;have j:n.sD.length=1:=by
  unfold shp at g;rw[zIn]at g;split at g
  .simpa using congrArg List.length (Option.some.inj g).symm
  .rw [zIn,zIn,zIn,if_pos zOm]at g
   simpa using congrArg List.length (Option.some.inj g).symm
 match n.sD,j with
 | [a],_=>exact⟨a,rfl⟩
theorem jB{n}(i:WfN n)(h:(6<=n.op/\n.op<=10)\/n.op=14\/n.op=15\/n.op=22\/n.op=23\/n.op=32\/n.op=33\/n.op=38\/n.op=39\/(41<=n.op/\n.op<=46)\/n.op=51):∃ a b,n.sD=[a,b]:=by
 have g:=i.shape;have j:n.sD.length=2:=by
  unfold shp at g;rw[zIn,zIn]at g;split at g
  .simpa using congrArg List.length (Option.some.inj g).symm
  .split at g
   .simpa using congrArg List.length (Option.some.inj g).symm
   .split at g
    .simpa using congrArg List.length (Option.some.inj g).symm
    .rw [zIn,if_pos zOm]at g
     simpa using congrArg List.length (Option.some.inj g).symm
 match n.sD,j with
 | [a,b],_=>exact⟨a,b,rfl⟩
theorem qnF(x N n)(hw:WfN n)(hM:OkMa x N)(P:IH x N n)(p)(R:OkP x N p)(hq:bd p n) :
  qZ qe 126 [eMa x,ePl p,eNd n] (endN ((den x n).N p)):=by
 refine zl.of_sound ?_;refine qSW call126 func126 rfl {} ?_;have a0:=yc x;rw[vT];simp only[opD];unfold opN;by_cases j:n.op=20
 .rw [if_pos j]
  simp[go_sem,j];exact .zsc _
 rw[if_neg j];by_cases l:n.op=21
 .rw [if_pos l]
  obtain⟨a,g⟩:=um hw zOm;have i:=(P a (by rw[g];simp) p R zOm).E;have I:=wk3 x p a;simp[go_sem,l,g,kD];refine fD [0,1,2,3,4,5,6,7,8,9] [(0,0,[]),(1,0,[]),(2,0,[]),(3,0,[]),(4,0,[]),(5,0,[]),(6,1,[]),(7,0,[]),(8,0,[]),(9,0,[])] zKr zKr zSi ?_;simp[go_sem,g];cases J:(den x a).E p with
  |error e =>
   rw[J]at i;refine kL i I ?_;simp[go_sem,zL];exact .hf _ (qQ _)
  |ok r =>
   rw[J]at i;refine tS i.toP I ?_;simp[go_sem,zr];exact .zsc _
 rw[if_neg l];by_cases o:n.op=22
 .rw [if_pos o]
  obtain⟨a,b,g⟩:=jB hw zOm;have i:=(P a (by rw[g];simp) p R zOm).N;have t:=(P b (by rw[g];simp) p R zOm).N;have I:=wk3 x p a;have T:=wk3 x p b;simp[go_sem,o,g,kD];refine fD [0,1,2,3,4,5,7,8,9,10,11,12,6,13,14,15] [(0,0,[]),(1,0,[]),(2,0,[]),(3,0,[]),(4,0,[]),(5,0,[]),(7,0,[]),(8,0,[]),(9,0,[]),(10,0,[]),(11,0,[]),(12,0,[]),(6,1,[8,10,12]),(13,1,[]),(14,0,[]),(15,0,[])] zKr zKr zSi ?_;simp[go_sem,g];cases J:(den x a).N p with
  |error e =>
   rw[J]at i;refine kL i I ?_;simp[go_sem,zL];exact .hf _ (qQ _)
  |ok r =>
   rw[J]at i;refine tS i.toP I ?_;simp[go_sem,zr,g];cases U:(den x b).N p with
   |error e =>
    rw[U]at t;refine kL t T ?_;simp[go_sem,zL];exact .hf _ (qQ _)
   |ok s =>
    rw[U]at t;refine tS t.toP T ?_;simp[go_sem,zr];exact .zsc _
 rw[if_neg o];by_cases C:n.op=23
 .rw [if_pos C]
  obtain⟨a,b,g⟩:=jB hw zOm;have i:=(P a (by rw[g];simp) p R zOm).N;have t:=(P b (by rw[g];simp) p R zOm).N;have I:=wk3 x p a;have T:=wk3 x p b;simp[go_sem,C,g,kD];refine fD [0,1,2,3,4,5,7,8,9,10,11,12,6,13,14,15] [(0,0,[]),(1,0,[]),(2,0,[]),(3,0,[]),(4,0,[]),(5,0,[]),(7,0,[]),(8,0,[]),(9,0,[]),(10,0,[]),(11,0,[]),(12,0,[]),(6,1,[8,10,12]),(13,1,[]),(14,0,[]),(15,0,[])] zKr zKr zSi ?_;simp[go_sem,g];cases J:(den x a).N p with
  |error e =>
   rw[J]at i;refine kL i I ?_;simp[go_sem,zL];exact .hf _ (qQ _)
  |ok r =>
   rw[J]at i;refine tS i.toP I ?_;simp[go_sem,zr,g];cases U:(den x b).N p with
   |error e =>
    rw[U]at t;refine kL t T ?_;simp[go_sem,zL];exact .hf _ (qQ _)
   |ok s =>
    rw[U]at t;refine tS t.toP T ?_;simp[go_sem,zr];exact .zsc _
 rw[if_neg C];simp[go_sem,j,l,o,C];refine kL (wI 43) (wkI 43) ?_;simp[go_sem];exact .hf _ (qQ _)
end
end F4
namespace GR
open YF P1 E1 E4 EO EP EQ F4 Q8 G5 GP GQ
section
variable {xs:List (List AV)}{mu:Mu}{sz:Nat}
theorem vd.ownB{P}{t g e bt:Nat}{s x ys zv K}(R:qJ P t=some (e,sz,bt))(j:(qJ P g).isSome=true)(T:qB P e=some zv)
  (l:zv.cells.length=sz) (o:zv.cells.all AV.one=true) (p:sz≠0) (U:bt<=16384) (ho:Own mu sz s xs) (hx:qE mu x=some ys) (I:zo sz xs) (wy:zo sz ys) (J:xs.length+ys.length<=4294967296)
  (k:∀ av mu',Own mu' sz av (xs++ys)->(∀ i,i<mu.length->qp s≠some i->mu'[i]?=mu[i]?)->(∀ b,qp av=some b->b=mu.length)->mu.length<=mu'.length->(ys≠[]->∃ b,qp av=some b)->K av mu'):vd P mu #[t,g] s x K:=by
 refine⟨t,g,e,sz,bt,ys,rfl,R,j,⟨zv,T,l,o⟩,p,U,hx,wy,?_⟩;rcases ho with rfl|⟨b,rfl,hc⟩
 .refine .inl ⟨xs,rfl,I,J,fun h=>?_,fun h=>?_⟩
  .subst h
   exact k _ _ (.inl zSp) (fun _ _ _=>rfl) (fun b h=>by cases h) (qr _) (fun h=>absurd rfl h)
  .refine k _ _ (.inr ⟨mu.length,zSp,zSp⟩) (fun i r _=>?_) (fun b h=>by cases h;rfl) zSp (fun _=>⟨_,rfl⟩)
   rw[qN r]
 .have a0:=yQ I.ok
  refine .inr ⟨b,xs.length,xs.flatten,rfl,hc,zOm,J,?_⟩;have a1:xs.flatten.take (xs.length*sz)=xs.flatten:=z6 zOm;refine k _ _ (.inr ⟨mu.length,zSp,?_⟩) (fun i r C=>?_) (fun b h=>by cases h;rfl) zSp (fun _=>⟨_,rfl⟩)
  .grind
  .rw [qN (zUs r)]
   rw[yJ (fun e=>C (by rw[e];rfl))]
theorem aZ{P}{t U e bt:Nat}{s y}(j){zv full K}(R)(hs:qJ P t=some (e,sz,bt))(o:(qJ P U).isSome=true)(hz:qB P e=some zv)
  (p:zv.cells.length=sz) (r:zv.cells.all AV.one=true) (C:sz≠0) (l:bt<=16384) (ho:Own mu sz s xs) (I:∀ b,qp s=some b->b<R) (J:Rds (cutM (fun i=>decide (R<=i)) mu 0) y j) (wx:zo sz xs) (wy:zo sz [j]) (hl:xs.length+1<=4294967296)
  (k:∀ av mu',Own mu' sz av (xs++[j])->(∀ i,i<mu.length->i<R->qp s≠some i->mu'[i]?=mu[i]?)->(∀ b,qp av=some b->b=mu.length)->mu.length<=mu'.length->(∃ b,qp av=some b)->K av mu'):qz P mu #[t,U] s (.lst full [y]) K:=by
 have cg:∀ i,i<R->(cutM (fun i=>!decide (R<=i)) mu 0)[i]?=mu[i]?:=fun i hi=>by
  simp_all[jL,yj,decide_eq_false,Bool.not_false,if_true]
 have g:Rd (cutM (fun i=>decide (R<=i)) mu 0) (.lst full [y]) (.lst full [j]):=by
  obtain⟨h1,h2⟩:=J.get;refine .lst full _ _ rfl (fun k a b ha l=>?_) (fun k a b ha l=>?_)
  .grind
  grind
 have T:Own (cutM (fun i=>!decide (R<=i)) mu 0) sz s xs:=by
  rcases ho with h|⟨b,h,hc⟩
  .exact .inl h
  .exact .inr ⟨b,h,by rw[cg b (I b (by rw[h];rfl))];exact hc⟩
 refine .inr (.inl ⟨_,_,g,vd.ownB hs o hz p r C l T rfl wx wy hl fun av mu' h1 h2 h3 h4 h5=>k av mu' h1 (fun i hi hR a0=>?_) (fun b l=>?_) ?_ (h5 zSp)⟩)
 .grind
 .grind [jT]
 grind [jT]
theorem KQ{I:Type}{f g}:∀{l:List I},(∀ a,a∈l->Rds mu (f a) (g a))->∀(k:Nat) x y,(l.map f).flatten[k]?=some x->(l.map g).flatten[k]?=some y->Rd mu x y
 | [],_,k,x,y,i,_=>by simp at i
 |a :: l,h,k,x,y,i,j=>by
  obtain⟨o,p⟩:=(h a (zg ..)).get;simp only[List.map_cons,List.flatten_cons]at i j;by_cases r:k<(f a).length
  .rw [qN r]at i
   rw[zGa]at j;exact p k x y i j
  .rw [zM zOm]at i
   rw[zM zOm,o]at j;exact KQ (fun b t=>h b (q8 _ t)) _ x y i j
theorem cT{I:Type}{av f g}{l:List I}(h:Own mu sz av (l.map f))(wf:yR sz (l.map f))(j:yR sz (l.map g))(p:∀ a,a∈l->Rds mu (f a) (g a)):Rd mu av (.lst false (l.map g)):=by
 rcases h with rfl|⟨b,rfl,r⟩
 .refine .wk _ true _ (.lst true _ _ zSp (fun k x y i o=>?_) (KQ p))
  rw[wf x (zb i),j y (zb o)]
 .refine .sl b sz 0 _ _ _ r (zW1 (yQ wf)) zSp j (fun k x y i o=>?_)
  rw[yj]at i
  grind [KQ]
theorem qbJ:∀{l},l≠[]->(∀ a,a∈l->1<=a)->1<=sumI l
 | [],h,_=>absurd rfl h
 | [a],_,h=>by simp_all[sumI]
 |a :: b :: l,_,h=>by
  have j:=h a zSp;have g:=qbJ (l:=b :: l) zSp fun x i=>h x (q8 _ i)
  simp only[sumI,List.foldr_cons]at g⊢;omega
structure Fit9 (ts:TS) (sc:Sc):Prop where
 g:GSc sc
 p:0<sumI sc.sC
 nf:ts.sA.length<=6
 ns:ts.sS.length=sc.sC.length
 s1:1<=sc.sN
 s4:sc.sN<=4
 f1:∀ f,f∈ts.sA->1<=f.sS.length/\f.sS.length<=3
 fs:∀ f,f∈ts.sA->∀ s,s∈f.sS->0<=s/\s<sc.sC.length
theorem Vl{ts sc}(h:jA ts sc=true):Fit9 ts sc:=by
 simp only[jA,qH,decide_eq_true_eq,zF,fldB]at h;obtain⟨t,C,j,I,o,p,i⟩:=h;have g:=qmU i;simp only[y5,qH,decide_eq_true_eq,zF]at i;refine⟨g,?_,j,p,i.2.1,i.2.2.1,fun f hf=>(o f hf).1,fun f hf s J=>?_⟩
 .have:=qbJ (l:=sc.sC) (fun e=>by grind) fun a r=>(i.2.2.2.1 a r).1
  omega
 grind
def rowD(sc:Sc)(f:Fld):List AV:=[aI f.sS.length,.lst true [],aI f.sS.length,lI (yN sc f.sS)]
theorem Vm(sc)(l:List Fld):zo 4 (l.map (rowD sc)):=fun r g=>by
 obtain⟨n,_,rfl⟩:=qn.1 g;exact⟨rfl,rfl⟩
theorem qbK(ts sc)(F:Fit9 ts sc):qi qe 18 [eTS ts,eSc sc] (lBd (defB ts sc)):=by
 have a0:=F.nf;refine qSU call18 func18 rfl ?_;refine aK ts.sA.length (fun k T=>T.tm 2 = .ip (cTS ts)/\T.tm 3 = .ip [lI sc.sC,aI sc.sN]/\T.tm 6=aI k/\Own T.mu 4 (T.tm 5) ((ts.sA.take k).map (rowD sc))) ?_ ?_
 .exact ⟨zSi,zSi,zSi,.inl zSi⟩
 rintro k T hk ⟨C,e3,I,P⟩;by_cases l:k<ts.sA.length
 .have w1:=zWk k
  have o:=qs l;have t:=qaI sc F.g F.p ts.sA[k].sS (F.f1 _ o).1 (F.f1 _ o).2 (F.fs _ o);simp[go_sem,C,I,l];refine cJ zKr ?_;simp[go_sem,C,e3,I,l];refine fR t (.zk (zA _) (.zk (zh _) .nil)) ?_;refine qz.ownB (e:=98) (sz:=4) (bt:=64) (zv := .agg [aI 0,.lst true [],aI 0,.lst true []]) (xs:=(ts.sA.take k).map (rowD sc)) (ys:=[rowD sc ts.sA[k]]) zSi zSi zSi rfl rfl zOm zOm P (by simp[qE,rowD]) (Vm sc _) (Vm sc [_]) zSo ?_;intro a1 j R _ _ _;simp[go_sem,I,l,w1];refine aA ⟨zS1 C,zS1 e3,zSi,?_⟩;rw[yv l,ze];simpa[go_sem] using R
 .have U:k=ts.sA.length:=by omega
  subst U;rw[qO]at P;simp[go_sem,C,I];have:=cT (g:=fun f=>cBd ⟨⟨f.sS.length,[]⟩,⟨f.sS.length,yN sc f.sS⟩⟩) P (Vm sc _).ok (fun r hr=>by
   obtain⟨n,_,rfl⟩:=qn.1 hr;rfl) fun f _=>⟨.hf _ (HF.sc _),.wk _ true _ (.hf _ (HF.lst fun r hr=>by simp at hr)),.hf _ (HF.sc _),.hf _ (zh _),trivial⟩
  show Rd _ _ (.lst false ((defB ts sc).map cBd));rw[defB,List.map_map];exact this
structure qbL (b:Bd):Prop where
 u:b.up.ts.length<=100000
 l:b.lo.ts.length<=100000
 s:sorted b.lo.ts
theorem qnG(g t lo):inOk ⟨g,[t]⟩ lo=decide (t∈lo.ts):=by simp[inOk]
theorem Jg{R av}(h:Own mu sz av xs)(g:∀ b,qp av=some b->R<=b):Own (cutM (fun i=>decide (R<=i)) mu 0) sz av xs:=by
 rcases h with h|⟨b,h,j⟩
 .exact .inl h
 .refine .inr ⟨b,h,?_⟩
  rw[jL,j];simp[g b (by rw[h];rfl)]
theorem qnH(fl l C mu)(hl:l.length<=1000)(hb:∀ b,b∈l->qbL b) :
  qD qe 43 [lBd l,.lst fl (C.map rB)] mu (fun e m=>∃ av,e = .ret av/\Own m 2 av ((yE l C).map cRel)/\(∀ i,i<mu.length->m[i]?=mu[i]?)/\(∀ b,qp av=some b->mu.length<=b)/\mu.length<=m.length/\(0<l.length->∃ b,qp av=some b)):=by
 refine qSW call43 func43 rfl {} ?_;simp[go_sem];refine aK l.length (fun k T=>T.tm 0=lBd l/\T.tm 1 = .lst fl (C.map rB)/\T.tm 6=aI (jz (l.take k) C).2/\T.tm 7=aI k/\Own T.mu 2 (T.tm 5) ((jz (l.take k) C).1.map cRel)/\(∀ i,i<mu.length->T.mu[i]?=mu[i]?)/\(∀ b,qp (T.tm 5)=some b->mu.length<=b)/\mu.length<=T.mu.length/\(0<k->∃ b,qp (T.tm 5)=some b)) ?_ ?_
 .exact ⟨zSi,zSi,by simp[go_sem,jz],zSi,.inl (by simp[go_sem,jz]),zSi,by simp[go_sem,qp],zSi,fun h=>absurd h zOm⟩
 rintro k T hk ⟨e0,e1,e6,e7,ho,hs,af,ah,ai⟩;by_cases t:k<l.length
 .have w1:=zWk k
  obtain⟨bu,bl,aj⟩:=hb _ (qs t);have b3:=qaK C 100000 (l.take k) ([],0) fun x hx=>(hb x (jI hx)).u
  have aw:(jz (l.take k) C).2<=100000000:=by
   grind [List.length_take_le,Nat.mul_le_mul_right,jz]
  have a4:=qaJ l C k t;generalize hq:jz (l.take k) C=q at *
  generalize ak:T.tm 5=s at *
  have ag:∀ b,qp s=some b->b<T.mu.length:=fun b h=>Own.lt ho h
  generalize hR:T.mu.length=R at *
  simp[go_sem,e0,e7,t];refine aK l[k].up.ts.length (fun j st2=>st2.tm 0=lBd l/\st2.tm 1 = .lst fl (C.map rB)/\st2.tm 5=s/\st2.tm 7=aI k/\st2.tm 8 = .ptr R 0/\st2.tm 9=aI j/\st2.tm 6=aI (insF C l[k].lo (l[k].up.ts.take j) q.2).2 /\
   ∃ av,st2.mu[R]?=some (.arr [aI l[k].up.ar,av])/\Own st2.mu 1 av ((insF C l[k].lo (l[k].up.ts.take j) q.2).1.map rI)/\(∀ b,qp av=some b->R<b)/\(∀ i,i<R->st2.mu[i]?=T.mu[i]?)) ?_ ?_
  .exact ⟨zS1 e0,zS1 e1,zS1 ak,zS1 e7,zS1 hR,zSi,by simp[go_sem,e6,insF],.lst true [],zS1 hR,.inl (by simp[insF]),by simp[qp],fun i hi=>by simp[go_sem, *]⟩
  clear e0 e1 e6 e7;rintro j st2 hj ⟨e0,e1,e5,e7,e8,e9,e6,av,a0,a1,ad,a7⟩;by_cases I:j<l[k].up.ts.length
  .have w2:=zWk j
   have b4:=Kv C l[k].lo (l[k].up.ts.take j) ([],q.2);have ax:(insF C l[k].lo (l[k].up.ts.take j) q.2).2<=100100000:=by
    grind [List.length_take_le,insF]
   have ay:=(Vd C l[k].lo (l[k].up.ts.take j) ([],q.2) [] (List.Sublist.refl _)).length_le;have az:(insF C l[k].lo (l[k].up.ts.take j) q.2).1.length<=100000:=by
    grind [List.length_take_le,insF]
   have a8:=qlO C l[k].lo l[k].up.ts q.2 j I;generalize hp:insF C l[k].lo (l[k].up.ts.take j) q.2=p at *
   have w3:qq.wrap ((p.2:Int)+1)=(p.2:Int)+1:=zWr;have al:R<st2.mu.length:=(qk.1 a0).1;have b0:qp av≠some st2.mu.length:=fun h=>zW1 (Own.lt a1 h)
   have b1:qp av≠some R:=fun h=>by grind
   have a3:∀ c,(st2.mu++[c])[R]?=some (.arr [aI l[k].up.ar,av]):=fun c=>by grind
   have a5:=in06 ⟨l[k].up.ar,[l[k].up.ts[j]]⟩ l[k].lo zSp zOm aj;rw[qnG]at a5;have a9:WKs [.agg [aI l[k].up.ar,.lst true [[aI l[k].up.ts[j]]]],eRel l[k].lo] [eRel ⟨l[k].up.ar,[l[k].up.ts[j]]⟩,eRel l[k].lo] := .cons (WK.aggs (.zs (.cons (WK.ints [l[k].up.ts[j]]) .nil))) (.zk (qY _) .nil);have ab:∀(K:AV->Mu->Prop),(∀ U a2,Own a2 1 U ((p.1++[l[k].up.ts[j]]).map rI)->a2[R]?=some (.arr [aI l[k].up.ar,av])->(∀ b,qp U=some b->R<b)->(∀ i,i<R->a2[i]?=T.mu[i]?)->K U a2)->qz qe (st2.mu++[.arr [aI l[k].up.ar,.lst true [[aI l[k].up.ts[j]]]]]) #[28,28] av (.lst true [[aI l[k].up.ts[j]]]) K:=fun K hK=>by
    refine qz.ownB (e:=3) (sz:=1) (bt:=8) (zv:=aI 0) (xs:=p.1.map rI) (ys:=[rI l[k].up.ts[j]]) zSi zSi zSi rfl rfl zOm zOm (Own.push a1 _) (by simp[qE]) (yC _) (yC [_]) zSo ?_
    grind
   by_cases P:l[k].up.ts[j]∈l[k].lo.ts
   .have o:insF C l[k].lo (l[k].up.ts.take (j+1)) q.2=(p.1++[l[k].up.ts[j]],p.2):=by rw[a8,vH,if_pos P]
    simp[go_sem,e0,e7,e8,e9,t,I,a0];refine cJ zKr ?_;simp[go_sem,e0,e7,t];refine tS a5 a9 ?_;simp[go_sem,e8,a3,P];refine ab _ fun U a2 h1 h2 h3 h4=>?_
    simp[go_sem,e8,e9,I,h2,w2,Own.one h1,Own.cells h1]
    try refine⟨I,aA ?_⟩
    try refine aA ?_
    refine⟨zS1 e0,zS1 e1,zS1 e5,zS1 e7,zS1 e8,zSi,zS2 e6 o,U,by simp[go_sem,(qk.1 h2).1],?_,h3,fun i hi=>?_⟩
    .rw [o]
     simpa[go_sem] using Own.set h1 (.arr [aI l[k].up.ar,U]) (fun h=>by grind)
    .simp [go_sem]
     grind
   .by_cases a6:p.2<C.length
    .cases aa:C[p.2] with
     |true =>
      have o:insF C l[k].lo (l[k].up.ts.take (j+1)) q.2=(p.1++[l[k].up.ts[j]],p.2+1):=by rw[a8,vH,if_neg P,zS,qA a6,aa];rfl
      simp[go_sem,e0,e7,e8,e9,t,I,a0];refine cJ zKr ?_;simp[go_sem,e0,e7,t];refine tS a5 a9 ?_;simp[go_sem,e1,e8,e6,a3,P,a6,aa];refine ab _ fun U a2 h1 h2 h3 h4=>?_
      simp[go_sem,e8,e9,e6,I,h2,w2,w3,Own.one h1,Own.cells h1]
      try refine⟨I,aA ?_⟩
      try refine aA ?_
      refine⟨zS1 e0,zS1 e1,zS1 e5,zS1 e7,zS1 e8,zSi,zS1 o,U,by simp[go_sem,(qk.1 h2).1],?_,h3,fun i hi=>?_⟩
      .rw [o]
       simpa[go_sem] using Own.set h1 (.arr [aI l[k].up.ar,U]) (fun h=>zW1 (h3 R h))
      .simp [go_sem]
       rw[zGl];exact h4 i hi
     |false =>
      have o:insF C l[k].lo (l[k].up.ts.take (j+1)) q.2=(p.1,p.2+1):=by rw[a8,vH,if_neg P,zS,qA a6,aa];simp
      simp[go_sem,e0,e7,e8,e9,t,I,a0];refine cJ zKr ?_;simp[go_sem,e0,e7,t];refine tS a5 a9 ?_;simp[go_sem,e1,e9,e6,I,P,a6,aa,w2,w3]
      try refine⟨I,aA ?_⟩
      try refine aA ?_
      refine⟨zS1 e0,zS1 e1,zS1 e5,zS1 e7,zS1 e8,zSi,zS1 o,av,zS1 a3,?_,ad,fun i hi=>?_⟩
      .rw [o];simpa[go_sem] using Own.push a1 _
      .simp [go_sem];rw[zGa];exact a7 i hi
    .have o:insF C l[k].lo (l[k].up.ts.take (j+1)) q.2=(p.1,p.2+1):=by rw[a8,vH,if_neg P,zS,uK zOm];simp
     simp[go_sem,e0,e7,e8,e9,t,I,a0];refine cJ zKr ?_;simp[go_sem,e0,e7,t];refine tS a5 a9 ?_;simp[go_sem,e1,e9,e6,I,P,a6,w2,w3]
     try refine⟨I,aA ?_⟩
     try refine aA ?_
     refine⟨zS1 e0,zS1 e1,zS1 e5,zS1 e7,zS1 e8,zSi,zS1 o,av,zS1 a3,?_,ad,fun i hi=>?_⟩
     .rw [o];simpa[go_sem] using Own.push a1 _
     .simp [go_sem];rw[zGa];exact a7 i hi
  .have ae:j=l[k].up.ts.length:=by omega
   subst ae;rw[qO]at e6 a1;have b2:=Vd C l[k].lo l[k].up.ts ([],q.2) [] (List.Sublist.refl _);have b5:q.1.length=k:=by
    rw[<-hq];have:=congrArg List.length (Kw C (l.take k) ([],0));simp at this;show (jz (l.take k) C).1.length=k;rw[jz,this];omega
   simp[go_sem,e0,e5,e7,e8,e9,t,a0,Own.one a1];refine aZ (e:=96) (sz:=2) (bt:=32) (zv := .agg [aI 0,.lst true []]) (xs:=q.1.map cRel) (cRel ⟨l[k].up.ar,(insF C l[k].lo l[k].up.ts q.2).1⟩) R zSi zSi zSi rfl rfl zOm zOm ?_ ag ?_ (vQ _) (vQ [_]) zSo ?_
   .rcases ho with h|⟨b,h,hc⟩
    .exact .inl h
    .refine .inr ⟨b,h,?_⟩
     rw[a7 b (ag b (by rw[h];rfl))];exact hc
   .refine ⟨.hf _ (HF.sc _),?_,trivial⟩
    exact Own.rd (Jg a1 fun b h=>zW1 (ad b h)) (yC _).ok fun r hr c hc=>by
     obtain⟨n,_,rfl⟩:=qn.1 hr;simp at hc;subst hc;exact HF.sc _
   intro U a2 an ao aq b6 au;have al:R<st2.mu.length:=(qk.1 a0).1;simp[go_sem,e7,t,w1]
   try refine⟨t,aA ?_⟩
   try refine aA ?_
   refine⟨zS1 e0,zS1 e1,by simp[go_sem,e6,a4,insB],zSi,?_,fun i hi=>?_,fun b h=>?_,by simp[go_sem];omega,fun _=>by simp[go_sem];exact au⟩
   .rw [a4,insB,ze]
    simpa[go_sem] using an
   .simp [go_sem]
    rw[ao i zOm zOm (fun h=>zW1 (af i h)),a7 i zOm];exact hs i hi
   .simp [go_sem]at h
    have:=aq b h;omega
 .have ae:k=l.length:=by omega
  subst ae;rw[qO]at ho e6;simp[go_sem,e0,e7];exact⟨ho,hs,af,ah,ai⟩
end
end GR
namespace GS
open YF P1 E1 E3 E4 EO EQ F4 GB G5 GP GR
abbrev rBs(l:List Bool):List AV:=[lB l]
abbrev lBB(l:List (List Bool)):AV := .lst false (l.map rBs)
theorem J9(l):HF (lB l):=HF.lst fun r i c g=>by
 obtain⟨n,_,rfl⟩:=qn.1 i;simp at g;subst g;exact HF.sc _
theorem KR(l):HF (lBB l):=HF.lst fun r i c g=>by
 obtain⟨n,_,rfl⟩:=qn.1 i;simp at g;subst g;exact J9 n
theorem KS{ts sc}(F:Fit9 ts sc)(j:sumI sc.sC<=5):∀ b,b∈defB ts sc->b.up.ts.length<=1000/\b.up.ts.Pairwise (·<·)/\qbL b:=fun b g=>by
 obtain⟨f,hf,rfl⟩:=qn.1 g;have l:=(F.f1 f hf).2;have o:=F.p;have i:(yN sc f.sS).length<=1000:=by
  refine zQ (Ku _ _ _) ?_;have:sumI sc.sC ^ f.sS.length<=125:=by
   rcases (show f.sS.length=0\/f.sS.length=1\/f.sS.length=2\/f.sS.length=3 by omega) with e|e|e|e<;>rw[e]<;>rcases (show sumI sc.sC=1\/sumI sc.sC=2\/sumI sc.sC=3\/sumI sc.sC=4\/sumI sc.sC=5 by omega) with d|d|d|d|d<;>rw[d]<;>decide
  omega
 exact⟨i,Vc _ _ _,zSo,zSp,by simp[sorted]⟩
def fixS(g:List Bool)(i l:List Rl)(j:Nat):List Rl:=l.mapIdx fun f r=>if f<j/\g.getD f true=false then i.getD f noR else r
theorem qnI(i j g):fixS i j g 0=g:=by
 refine jS fun f=>?_
 simp[fixS]
theorem qnJ(i l g j):(fixS i l g j).length=g.length:=by simp[fixS]
theorem qnK(i o g j)(h:j<g.length):fixS i o g (j+1)=if i.getD j true=false then (fixS i o g j).set j (o.getD j noR) else fixS i o g j:=by
 refine jS fun f=>?_
 by_cases l:i.getD j true=false
 .rw [if_pos l,List.getElem?_set]
  simp only[fixS,List.getElem?_mapIdx,List.length_mapIdx];by_cases hf:j=f
  .subst hf
   rw[if_pos rfl,if_pos h,qA h];simp only[zq,Nat.lt_succ_self,l,and_self,if_true]
  .rw [if_neg hf]
   cases g[f]? with
   |none=>rfl
   |some r=>simp only[zq];congr 1;by_cases p:f<j<;>simp[p,show (f<j+1)=(f<j) by simp;omega]
 .rw [if_neg l]
  simp only[fixS,List.getElem?_mapIdx];cases g[f]? with
  |none=>rfl
  |some r =>
   simp only[zq];congr 1;by_cases hf:f=j
   .subst hf;rw[if_neg (fun h=>l h.2),if_neg (fun h=>l h.2)]
   .by_cases p:f<j<;>simp[p,show (f<j+1)=(f<j) by simp;omega]
theorem qnL(j i g k)(h:k≠0):anyS j i g k=fixS j (yE i (g.getD 0 [])) (yE i (g.getD k [])) i.length:=by
 rw[anyS,if_neg h];refine jS fun f=>?_
 simp only[fixS,List.getElem?_mapIdx];cases o:(yE i (g.getD k []))[f]? with
 |none=>rfl
 |some r =>
  have l:=(qk.1 o).1;rw[Zx]at l;simp only[zq];congr 1;cases j.getD f true<;>simp[l]
theorem Own.put{sz}{mu:Mu}{av xs b}(h:av = .sl b sz 0 xs.length)(g:mu[b]?=some (.arr xs.flatten))(w:yR sz xs){i r}(j:r.length=sz)(l:i<xs.length):Own (mu.set b (.arr (putCells xs.flatten (i*sz) r))) sz av (xs.set i r):=by
 refine .inr ⟨b,by rw[List.length_set];exact h,?_⟩;rw[qL (qk.1 g).1,JF xs i r w j l]
abbrev vsT(ts:TS):List Bool:=ts.sA.map fun f=>f.var
theorem anyU(ts sc)(F:Fit9 ts sc)(h5:sumI sc.sC<=5)(o lp)(bb:0<=lp/\lp<=255) :
  qi qe 16 [eTS ts,eSc sc,lBB o,.sc (.int .u8 lp)] (eMd (anyM sc (vsT ts) (defB ts sc) o (lp % sc.sN))):=by
 have hd:=KS F h5;have cd:(defB ts sc).length=ts.sA.length:=by simp[defB]
 have cf:=F.nf;have s1:=F.s1;have s4:=F.s4;have al:=qbK ts sc F;generalize hD:defB ts sc=D at *
 generalize hS:sc.sN=S at *
 obtain⟨N,rfl⟩:=Int.eq_ofNat_of_zero_le (show 0<=S by omega);refine qSU call16 func16 rfl ?_;refine cJ zKr ?_;have n1:¬(N:Int)<1:=zOm;have n0:¬(N:Int)=0:=zOm;have bc:¬N=0:=zOm;have wl:qq.wrap lp=lp:=zWr;have tm:lp.tmod (N:Int)=lp % (N:Int):=Int.tmod_eq_emod_of_nonneg bb.1;simp[go_sem,hS,n1,bc,wl,tm];have be:WK (.agg [lI sc.sC,aI N]) (eSc sc):=by rw[<-hS];exact WK.hf (zA sc)
 refine tS al (.zk (zp _) (.cons be .nil)) ?_;generalize hL:lp % (N:Int)=L at *
 have bg:anyM sc (vsT ts) D o L=⟨sc,(qu N).map (anyS (vsT ts) D o),L⟩:=by rw[anyM,hS];rfl
 rw[bg];generalize hA:anyS (vsT ts) D o=A at *
 simp[go_sem];refine aK N (fun k T=>T.tm 2=lBB o/\T.tm 4 = .ip (cTS ts)/\T.tm 5 = .ip [lI sc.sC,aI sc.sN]/\T.tm 8 = .ptr 0 0/\T.tm 9 = .ptr 1 0/\T.tm 10=lBd D/\T.tm 11=aI k /\
  ∃ s,T.mu[0]?=some (.arr [.lst true [],aI 0,.lst true [],aI 0])/\T.mu[1]?=some (.arr [lI sc.sC,aI N,s,aI L])/\Own T.mu 1 s (((qu k).map A).map fun r=>[lRel r])/\∀ b,qp s=some b->2<=b) ?_ ?_
 .exact ⟨zSi,zSi,zS1 hS,zSi,zSi,zSi,zSi,.lst true [],zSi,zSi,.inl zSp,by simp[qp]⟩
 rintro k T hk ⟨e2,e4,e5,e8,e9,an,a7,s,h0,h1,ho,hb⟩;have ad:=(qk.1 h0).1;have ae:=(qk.1 h1).1;by_cases ao:k<N
 .have w1:=zWk k
  have n4:(k:Int)<4:=zOm;have aa:=fun fl:Bool=>qnH fl D (o.getD k []) T.mu zOm fun b hb=>(hd b hb).2.2
  have bh:=Zx D (o.getD k []);have aq:=Zx D (o.getD 0 []);have af:A 0=yE D (o.getD 0 []):=by rw[<-hA,anyS,if_pos rfl]
  have bi:k≠0->A k=fixS (vsT ts) (A 0) (yE D (o.getD k [])) D.length:=fun h=>by rw[af,<-hA,qnL _ _ _ _ h]
  have au:k=0->A k=yE D (o.getD k []):=fun h=>by subst h;exact af
  generalize cg:yE D (o.getD k [])=R at *
  have cb:(A 0).length=D.length:=by rw[af];exact aq
  simp[go_sem,hS,e2,e5,a7,ao,n4];by_cases ag:k<o.length
  all_goals simp[go_sem,e2,an,a7,ag]
  all_goals first
   | (rw[show lB o[k] = .lst false ((o.getD k []).map rB) by rw[zS,qA ag];rfl];refine fZ (aa false) ?_ (by rintro r m ⟨t,h,_⟩;cases h))
   | (have hi:=aa true;rw[show (o.getD k []).map rB=[] by rw[zS,uK zOm];rfl]at hi;refine fZ hi ?_ (by rintro r m ⟨t,h,_⟩;cases h))
  all_goals
   rintro r m ⟨t,h,bj,bk,ah,ch,bm⟩;cases h;simp[go_sem,ag];refine aK D.length (fun j st2=>st2.tm 2=lBB o/\st2.tm 4 = .ip (cTS ts)/\st2.tm 5 = .ip [lI sc.sC,aI N]/\st2.tm 8 = .ptr 0 0/\st2.tm 9 = .ptr 1 0/\st2.tm 10=lBd D/\st2.tm 11=aI k/\st2.tm 13=r/\st2.tm 14=aI j /\
    Own st2.mu 2 r ((if k=0 then R else fixS (vsT ts) (A 0) R j).map cRel)/\∀ i,i<m.length->qp r≠some i->st2.mu[i]?=m[i]?) ?_ ?_
   .exact ⟨zS1 e2,zS1 e4,zS2 e5 hS,zS1 e8,zS1 e9,zS1 an,zS1 a7,zSi,zSi,by simpa[go_sem,qnI] using bj,zSi⟩
   rintro j st2 hj ⟨f2,f4,f5,f8,f9,f10,f11,f13,f14,U,a8⟩;have C:∀ i,i<T.mu.length->st2.mu[i]?=T.mu[i]?:=fun i hi=>by rw[a8 i zOm (fun h=>zW1 (ah i h)),bk i hi]
   have a2:(if k=0 then R else fixS (vsT ts) (A 0) R j).length=D.length:=by split<;>simp[qnJ,bh]
   have aw:k≠0->j<D.length->(if k=0 then R else fixS (vsT ts) (A 0) R (j+1))=if (vsT ts).getD j true=false then (if k=0 then R else fixS (vsT ts) (A 0) R j).set j ((A 0).getD j noR) else (if k=0 then R else fixS (vsT ts) (A 0) R j):=fun h1 h2=>by rw[if_neg h1,if_neg h1,qnK _ _ _ _ zOm]
   have bn:¬(j<D.length/\k≠0)->(if k=0 then R else fixS (vsT ts) (A 0) R j)=A k:=fun h=>by
    by_cases h0:k=0
    .rw [if_pos h0,au h0]
    .rw [if_neg h0,bi h0,show j=D.length by omega]
   generalize hW:(if k=0 then R else fixS (vsT ts) (A 0) R j)=W at *
   simp[go_sem,f13,f14];refine pN (aI D.length) (by rcases U with h|⟨b,h,_⟩<;>rw[h]<;>simp[a2]) ?_;by_cases a3:j<D.length/\k≠0
   .obtain ⟨p,ax⟩:=a3
    have ay:(vsT ts).getD j true=ts.sA[j].var:=by rw[zS,zn,qA (show j<ts.sA.length by omega)];rfl
    have w2:=zWk j;have P:st2.mu[1]?=some (.arr [lI sc.sC,aI N,s,aI L]):=by rw[C 1 ae];exact h1
    simp[go_sem,f4,f11,f14,p,show 0<k by omega,show j<ts.sA.length by omega];cases hv:ts.sA[j].var with
    |true =>
     simp[go_sem,f14,p,w2]
     try refine⟨p,aA ?_⟩
     try refine aA ?_
     refine⟨zS1 f2,zS1 f4,zS1 f5,zS1 f8,zS1 f9,zS1 f10,zS1 f11,zS1 f13,zSi,?_,zVs a8⟩;rw[aw ax p,ay,hv,if_neg zSp];simpa[go_sem] using U
    |false =>
     obtain⟨b,a0⟩:=bm zOm;have a1:r = .sl b 2 0 W.length/\st2.mu[b]?=some (.arr (W.map cRel).flatten):=by
      rcases U with h|⟨b',h,hc⟩
      .rw [h]at a0;cases a0
      .rw [h]at a0;cases a0
       exact⟨by rw[h];simp,hc⟩
     obtain⟨a1,a9⟩:=a1;have bo:=(qk.1 a9).1;have cj:=ah b a0;have ai:(W.map cRel).flatten.length=W.length*2:=by rw[yQ (vQ W).ok];simp
     have cc:=Own.put (av:=r) (xs:=W.map cRel) (by rw[a1];simp) a9 (vQ W).ok (i:=j) (r:=cRel ((A 0).getD j noR)) rfl zSo;have a4:j<(A 0).length:=zOm;have bq:(A 0).getD j noR=(A 0)[j]:=by rw[zS,qA a4];rfl
     have I:(((qu k).map A).map fun r=>[lRel r]).flatten[0]?=some (lRel (A 0)):=by
      obtain⟨k',rfl⟩:∃ k',k=k'+1:=⟨k-1,zOm⟩;rw[List.range_succ_eq_map];simp
     have az:(((qu k).map A).map fun r=>[lRel r]).length=k:=zSp;generalize a5:(((qu k).map A).map fun r=>[lRel r])=rows at *
     have br:rows[0]?=some [lRel (A 0)]:=by
      rw[<-a5];obtain⟨k',rfl⟩:∃ k',k=k'+1:=⟨k-1,zOm⟩;rw[List.range_succ_eq_map];rfl
     have b0:(rows.map List.length).sum=k:=by
      have:=yQ (sz:=1) (xs:=rows) (by rw[<-a5];intro r hr;obtain⟨n,_,rfl⟩:=qn.1 hr;rfl);rw[List.length_flatten]at this;omega
     have b1:rows.flatten.take 1=[lRel (A 0)]:=by
      cases b2:rows.flatten with
      |nil=>rw[b2]at I;cases I
      |cons x l=>rw[b2]at I;cases I;rfl
     have b3:(W.map cRel).flatten.take (j*2)++aI (A 0)[j].ar :: lI (A 0)[j].ts :: (W.map cRel).flatten.drop (j*2+2)=((W.set j (A 0)[j]).map cRel).flatten:=by
      rw[List.map_set,JF (W.map cRel) j _ (vQ W).ok rfl zSo,jg _ _ _ (by simp only[ai,cRel,zG,List.length_nil];omega)];simp
     have a6:Own (st2.mu.set b (.arr ((W.set j (A 0)[j]).map cRel).flatten)) 2 r ((W.set j (A 0)[j]).map cRel) := .inr ⟨b,by rw[a1];simp,qL bo⟩;have aj:=aw ax p;rw[ay,hv,if_pos rfl,bq]at aj;rcases ho with rfl|⟨c,rfl,b4⟩
     .simp [go_sem,f9,f13,f14,P,a1,a2]
      refine pN (.ip [lRel (A 0)]) (by rw[br];simp[az];omega) ?_;simp[go_sem,f14,p,a9,ai,a2,a4];refine pN (st2.mu.set b (.arr ((W.set j (A 0)[j]).map cRel).flatten)) (by rw[if_pos zOm,b3]) ?_;simp[go_sem,f14,p,w2]
      try refine⟨p,aA ?_⟩
      try refine aA ?_
      refine⟨zS1 f2,zS1 f4,zS1 f5,zS1 f8,zS1 f9,zS1 f10,zS1 f11,zS1 f13,zSi,by rw[aj];simpa[go_sem] using a6,fun i hi hn=>?_⟩;simp only[qC];rw[yJ (fun e=>hn (by rw[<-e];exact a0))];exact a8 i hi hn
     .have bs:=(qk.1 b4).1
      have ab:=C c bs;rw[b4]at ab;simp[go_sem,f9,f13,f14,P,ab,az,show 0<k by omega,a1,a2];refine pN (lRel (A 0)) (by rw[b0,if_pos zOm,b1];rfl) ?_;simp[go_sem,f14,p,a9,ai,a2,a4];refine pN (st2.mu.set b (.arr ((W.set j (A 0)[j]).map cRel).flatten)) (by rw[if_pos zOm,b3]) ?_;simp[go_sem,f14,p,w2]
      try refine⟨p,aA ?_⟩
      try refine aA ?_
      refine⟨zS1 f2,zS1 f4,zS1 f5,zS1 f8,zS1 f9,zS1 f10,zS1 f11,zS1 f13,zSi,by rw[aj];simpa[go_sem] using a6,fun i hi hn=>?_⟩;simp only[qC];rw[yJ (fun e=>hn (by rw[<-e];exact a0))];exact a8 i hi hn
   .have bu:j<D.length->¬ 0<k:=fun h=>by omega
    rw[bn a3]at U;have P:st2.mu[1]?=some (.arr [lI sc.sC,aI N,s,aI L]):=by rw[C 1 ae];exact h1
    by_cases p:j<D.length<;>simp[go_sem,f9,f11,f13,p,bu,P,Own.one U,Own.cells U]
    all_goals
     refine aZ (e:=93) (sz:=1) (bt:=24) (zv := .lst true []) (xs:=((qu k).map A).map fun r=>[lRel r]) [lRel (A k)] T.mu.length zSi zSi zSi rfl rfl zOm zOm ?_ (fun b h=>Own.lt ho h) ?_ ?_ ?_ zSo ?_
     .rcases ho with h|⟨b,h,hc⟩
      .exact .inl h
      .exact .inr ⟨b,h,by rw[C b (qk.1 hc).1];exact hc⟩
     .exact ⟨Own.rd (Jg U ah) (vQ _).ok fun r hr c hc=>by
       obtain⟨n,_,rfl⟩:=qn.1 hr;exact ZZ n c hc,trivial⟩
     .intro r hr
      obtain⟨n,_,rfl⟩:=qn.1 hr;exact⟨rfl,rfl⟩
     .intro r hr
      simp at hr;subst hr;exact⟨rfl,rfl⟩
     intro b5 b6 ak b7 b8 ck cl;have cm:T.mu.length<=st2.mu.length:=by
      have:=C (T.mu.length-1) zOm;rw[qA (show T.mu.length-1<T.mu.length by omega)]at this;have:=(qk.1 this).1;omega
     have g1:b6[1]?=some (.arr [lI sc.sC,aI N,s,aI L]):=by rw[b7 1 zOm ae (fun h=>zW1 (hb 1 h))];exact P
     have g0:b6[0]?=some (.arr [.lst true [],aI 0,.lst true [],aI 0]):=by rw[b7 0 zOm ad (fun h=>zW1 (hb 0 h)),C 0 ad];exact h0
     have l1:=(qk.1 g1).1;simp[go_sem,f9,f11,g1,w1,Own.one ak,Own.cells ak]
     try refine⟨ao,aA ?_⟩
     try refine aA ?_
     refine⟨zS1 f2,zS1 f4,zS2 f5 hS,zS1 f8,zS1 f9,zS1 f10,zSi,b5,zS1 g0,zS1 l1,?_,fun b h=>zW1 (b8 b h)⟩;rw[List.range_succ,ze,ze];simpa[go_sem] using Own.set ak (.arr [lI sc.sC,aI N,b5,aI L]) (fun h=>zW1 (b8 1 h))
 .have bv:k=N:=by omega
  subst bv;have bw:s.one=true:=Own.one ho;have cn:s.cells=[s]:=Own.cells ho;have b9:∀ c,(T.mu.set 0 c)[0]?=some c:=fun c=>qL ad
  simp[go_sem,hS,e5,e8,e9,a7,h0,h1,bw,b9];have ca:=Own.set ho (i:=0) (.arr [lI sc.sC,aI k,s,aI L]) (fun h=>zW1 (hb 0 h));show Rd _ _ (.agg [lI sc.sC,aI sc.sN,lSt ((qu k).map A),aI L]);rw[hS];refine Rd.aggs ⟨.hf _ (zh _),.hf _ (HF.sc _),?_,.hf _ (HF.sc _),trivial⟩;exact Own.rd ca (fun r hr=>by
   obtain⟨n,_,rfl⟩:=qn.1 hr;rfl) fun r hr c hc=>by
   obtain⟨n,_,rfl⟩:=qn.1 hr;simp at hc;subst hc;exact Qq n
end GS
namespace GG
open ER
@[go_sem ↓] theorem qxB(P pl l Q o k r T st i op ty pos after j g) :
  segO P pl l Q o k r T st (some ⟨i,op,ty,pos,after,some (j,g)⟩)=ZY ((l[j]?).bind (·.dst)) st g (fun st=>segO P pl l Q o k r T st (some ⟨i,op,ty,pos,after,none⟩)) (fun st=>awpT P pl l.toArray Q o T (st.put i (.sc qU) st.mu)):=by
 simp only[segO,yG,ZY,wt]
 grind [brK,BrS,OptK,Br]
@[go_sem ↓] theorem qxC(P pl l st d op ty pos after j g) :
  Us P pl l st (some ⟨some d,op,ty,pos,after,some (j,g)⟩)=ZY ((l[j]?).bind (·.dst)) st g (fun st=>qI P pl true (some d) op st.ev st.mu (ZW st d st.mu) noK) (fun _=>True):=by
 simp only[Us,yG,ZY,wt];congr 1
def subL:List (List AV)->List (List AV)->List (List (List AV))
 |c,[]=>[c]
 |c,x :: r=>subL c r++subL (c++[x]) r
def Zb(l:List (List AV)):Prop:=∀ r,r∈l->r.length=3/\(r.all AV.one=true/\∀ x,x∈r->HF x)
theorem clipU(c)(i:Zb c)(l:c.length<=1000000):qi qe 112 [.lst false c] (.lst true c):=by
 refine qSU call112 func112 rfl ?_;refine⟨⟨_,_,⟨rfl,rfl⟩,fun r g=>(i r g).1⟩,.hf _ (HF.lst fun r g x j=>(i r g).2.2 x j)⟩
abbrev extV(i b:Nat):AV := .fn (.func 111) [] [.ip [.yl i],.ptr b 0]
def ExtR(i b:Nat)(I:Nat->Mu->Prop)(g:Mu->Prop)(k:Nat)(e:AEnd)(m:Mu):Prop:=m[b]?=some (.arr [extV i b])/\((e = .ret (aB true)/\I k (m.set b .dead))\/(e = .ret (aB false)/\g (m.set b .dead)))
theorem extU{i b rows I Ix}(hS:∀ k mu,I k mu->I k (mu++[.dead]))(hX:∀ mu,Ix mu->Ix (mu++[.dead]))(hY:Yld qe i rows I Ix) :
  ∀ r c k mu,Zb r->Zb c->c.length+r.length<=1000->(∀(j) x,(subL c r)[j]?=some x->rows[k+j]?=some [.lst false x])->mu[b]?=some (.arr [extV i b])->I k (mu.set b .dead) ->
   qD qe 111 ([.lst false c,.lst false r]++[.ip [.yl i],.ptr b 0]) mu (ExtR i b I Ix (k+(subL c r).length))
 | [],c,k,mu,hr,hc,hl,P,hb,h0=>by
  refine qSW call111 func111 rfl {} ?_;simp[go_sem];have h1:=P 0 c rfl;refine qh.yield (Zo.hid hb zSp (hY k _ _ h1 h0)) ?_;rintro bb m ⟨C,hm,hd,rfl⟩;have T:b<C.length:=(qk.1 hd).1;have a1:(C.set b (Cell.arr [extV i b])).set b .dead=C:=by
   rw[List.set_set];apply jS
   grind
  simp[go_sem];refine⟨by rw[qL T],?_⟩;rw[a1];rcases hm with ⟨rfl,hI⟩|⟨rfl,hI⟩
  .exact .inl ⟨rfl,hI⟩
  grind
 |x :: r,c,k,mu,hr,hc,hl,P,hb,h0=>by
  have hx:=hr x zSp;obtain⟨l,o,p,rfl⟩:∃ l o p,x=[l,o,p]:=by
   match x,hx.1 with
   | [a,b,c],_=>simp
  refine qSW call111 func111 rfl {} ?_;have a9:¬(r.length:Int)+1=0:=zOm;simp[go_sem,a9];refine fD [0,1,2,3,4,5,6,7,9,10,11,12,14,15,8,13,16,17,18] [(0,0,[]),(1,0,[]),(2,0,[]),(3,0,[]),(4,1,[]),(5,0,[]),(6,0,[]),(7,0,[]),(9,0,[]),(10,0,[]),(11,0,[]),(12,0,[]),(14,0,[]),(15,0,[]),(8,1,[6,11]),(13,1,[6]),(16,1,[]),(17,0,[]),(18,0,[])] zKr zKr zSi ?_;have a2:(1:Int)<=(r.length:Int)+1:=zOm;have a3:∃ e g,(192=e/\3=g)/\yR g ([l,o,p] :: r):=⟨_,_,⟨rfl,rfl⟩,fun y J=>(hr y J).1⟩;simp[go_sem,hb,a2];refine⟨a3,?_⟩;have a4:Zb r:=fun y J=>hr y (zP1 J)
  have U:subL c ([l,o,p] :: r)=subL c r++subL (c++[[l,o,p]]) r:=rfl;have aa:=extU hS hX hY r c k mu a4 hc (by simp at hl;omega) (fun j y hj=>P j y (by grind)) hb h0;refine fH (caps:=[.ip [.yl i],.ptr b 0]) aa ?_ (by rintro q m ⟨_,h|h⟩<;>exact absurd h.1 zSp);rintro q C ⟨R,⟨hq,hI⟩|⟨hq,hI⟩⟩
  .cases hq
   have a6:l.one=true/\o.one=true/\p.one=true:=by grind
   have ab:∀ y,y∈c->∀ z,z∈y->HF z:=fun y J=>(hc y J).2.2
   simp[go_sem,R,a2,a6];refine⟨a3,?_⟩;refine tS (clipU c hc (by simp at hl;omega)) (.zk (HF.lst ab) .nil) ?_;simp[go_sem,R];refine .inl ⟨127,127,192,3,24,[[l,o,p]],rfl,zSi,zSi,⟨.agg [aI 0,aI 0,aI 0],zSi,rfl,rfl⟩,zOm,zOm,by simp[qE],fun y J=>by grind,.inl ⟨c,rfl,fun y J=>⟨(hc y J).1,(hc y J).2.1⟩,by grind,fun h=>absurd h zSp,fun _=>?_⟩⟩;have T:b<C.length:=(qk.1 R).1;have al:(c++[[l,o,p]]).flatten=c.flatten++[l,o,p]:=zSp;generalize hM:C++[Cell.arr (c.flatten++[[l,o,p]].flatten)]=m2;have ad:C++[Cell.arr (c.flatten++[l,o,p])]=m2:=by rw[<-hM];simp
   have an:m2[b]?=some (.arr [extV i b]):=by grind
   have ae:m2[C.length]?=some (.arr (c++[[l,o,p]]).flatten):=by grind
   have a7:(C++[Cell.arr (c.flatten++[l,o,p])])[b]?=some (.arr [extV i b]):=by grind
   simp[go_sem,a7];rw[ad];have a8:cutM (fun j=>!(j == C.length)) m2 0=C++[.dead]:=by
    apply jS
    grind [jL,qN,qA,zM]
   have a0:Zb (c++[[l,o,p]]):=fun y J=>by
    rcases qM.1 J with h|h
    .exact hc y h
    .rw [qV]at h;subst h;exact hx
   have af:=extU hS hX hY r (c++[[l,o,p]]) (k+(subL c r).length) (C++[.dead]) a4 a0 (by simp at hl⊢;omega) (fun j y hj=>by
    have:=P ((subL c r).length+j) y (by rw[U,zM zOm];simpa using hj);rw[<-this];congr 1;omega) (by rw[qN T];exact R) (by
    rw[List.set_append_left _ _ T];exact hS _ _ hI)
   have ag:Rd (cutM (fun j=>j == C.length) m2 0) (.sl C.length 3 0 (c.length+1)) (.lst false (c++[[l,o,p]])):=by
    have ah:(cutM (fun j=>j == C.length) m2 0)[C.length]?=some (.arr (c++[[l,o,p]]).flatten):=by rw[XJ];exact ae
    have:=Own.rd (mu:=cutM (fun j=>j == C.length) m2 0) (sz:=3) (av := .sl C.length 3 0 (c++[[l,o,p]]).length) (.inr ⟨_,rfl,ah⟩) (fun y J=>(a0 y J).1) (fun y J=>(a0 y J).2.2);simpa using this
   have ai:qD qe 111 ([.sl C.length 3 0 (c.length+1),.lst false r]++[.ip [.yl i],.ptr b 0]) m2 (ExtR i b I Ix (k+(subL c r).length+(subL (c++[[l,o,p]]) r).length)):=
    qD.freeze (args:=[.sl C.length 3 0 (c.length+1),.lst false r,.ip [.yl i],.ptr b 0]) (args1:=[.lst false (c++[[l,o,p]]),.lst false r,.ip [.yl i],.ptr b 0]) (fun j=>j == C.length) ⟨.inr ag,.inl rfl,.inl rfl,.inl rfl,trivial⟩ (by rw[a8];exact af)
   refine fH (caps:=[.ip [.yl i],.ptr b 0]) ai ?_ (by rintro q m ⟨_,h|h⟩<;>exact absurd h.1 zSp);have ak:k+(subL c r).length+(subL (c++[[l,o,p]]) r).length=k+(subL c ([l,o,p] :: r)).length:=by rw[U,zd];omega
   simp[go_sem, *]
  .cases hq
   simp[go_sem];exact⟨R,.inr ⟨rfl,hI⟩⟩
theorem qnM(l)(P:Zb l)(R:l.length<=1000):ji qe 110 [.ip [.lst false l]] ((subL [] l).map fun c=>[.lst false c]):=by
 refine ji.of call110 fun i I t T U hY C h0=>?_
 refine fU ?_;refine qSW call110 func110 rfl {} ?_;simp[go_sem];have hx:=extU (i:=i) (b:=C.length) T U hY l [] 0 (C++[.arr [extV i C.length]]) P (fun r o=>by simp at o) (zUs R) (fun j x hj=>by rw[yj,zn,hj];rfl) zSp (by grind);have hf:qD qe 111 ([.lst true [],.lst false l]++[.ip [.yl i],.ptr C.length 0]) (C++[.arr [extV i C.length]]) (ExtR i C.length I t (0+(subL [] l).length)):=
  qD.freeze (args:=[.lst true [],.lst false l,.ip [.yl i],.ptr C.length 0]) (args1:=[.lst false [],.lst false l,.ip [.yl i],.ptr C.length 0]) (fun _=>false) ⟨.inr (.wk _ true _ (.hf _ (HF.lst fun r o=>by simp at o))),.inl rfl,.inl rfl,.inl rfl,trivial⟩ (by rw[nT];exact hx)
 refine fH (caps:=[.ip [.yl i],.ptr C.length 0]) hf ?_ (by rintro q m ⟨_,h|h⟩<;>exact absurd h.1 zSp);rintro q m ⟨hb,h⟩;have g:cutM (fun j=>!(j == C.length)) m 0=m.set C.length .dead:=by
  apply jS
  grind [jL,qL,qk,yJ]
 simp[go_sem];refine .inr ⟨fun j=>j == C.length,⟨_,.same _⟩,?_⟩;show I _ (cutM (fun j=>!(j == C.length)) m 0)\/t (cutM (fun j=>!(j == C.length)) m 0);rw[g];rw[yj]at h;rcases h with ⟨_,h⟩|⟨_,h⟩
 .exact .inl h
 grind
theorem qnN(l)(i:Zb l):qi qe 65 [.lst false l] (.fn (.func 110) [] [.ip [.lst false l]]):=by
 refine qSU call65 func65 rfl ?_;refine .hf _ (HF.fn (fun c g=>by simp at g) (fun c g=>?_));simp at g;subst g;exact jl (HF.lst fun r j x o=>(i r j).2.2 x o)
end GG
namespace F5
open Y1 YF E2 E3 EA EO EP EQ ER ET EW F1 F2 F3 F4
theorem clipE(l):qi qe 184 [lPm l] (.lst true (l.map cPm)):=by
 refine qSV call184 func184 rfl ?_;have g:List.take l.length (l.map cPm)=l.map cPm:=z6 zSp;simp[go_sem,g];exact⟨⟨_,_,⟨rfl,rfl⟩,fun r i=>by obtain⟨q,_,rfl⟩:=qn.1 i;rfl⟩,.hf _ (HF.lst fun r i c j=>by obtain⟨q,_,rfl⟩:=qn.1 i;exact UG q c j)⟩
theorem clipI(l):qi qe 221 [lI l] (lI l):=by
 refine qSV call221 func221 rfl ?_;have g:List.take l.length (l.map rI)=l.map rI:=z6 zSp;simp[go_sem,g];exact⟨⟨_,_,⟨rfl,rfl⟩,(yC l).ok⟩,.wk _ true _ (.hf _ (HF.lst fun r i c j=>by obtain⟨q,_,rfl⟩:=qn.1 i;grind [HF.sc]))⟩
theorem KT(xs:List (tP×Int)):zo 2 (xs.map cPm):=fun r g=>by
 obtain⟨n,_,rfl⟩:=qn.1 g;exact⟨rfl,rfl⟩
abbrev insC(g:Int)(ts:List Int)(i:List Bool):List AV:=[.ip [aI g,lI ts],.ip [lB i]]
def Yd(ts:List Int)(g:List Bool):List (List AV):=(ts.zip g).map fun e=>[aI e.1,aB e.2]
theorem KU(r ts g)(t:ts.length=g.length)(hb:ts.length<=1000000):ji qe 185 (insC r ts g) (Yd ts g):=by
 refine ji.of call185 fun i I Ix hS hX J C h0=>?_
 refine qSW call185 func185 rfl {} ?_;have P:(Yd ts g).length=ts.length:=by simp[Yd,t]
 simp[go_sem];refine aK ts.length (fun k T=>T.tm 0 = .yl i/\T.tm 2 = .ip [lB g]/\T.tm 7=lI ts/\T.tm 8=aI ts.length/\T.tm 9=aI k/\I k T.mu) ?_ ?_
 .simp [go_sem, *]
 rintro k T hk ⟨R,U,e7,e8,e9,hI⟩;by_cases l:k<ts.length
 .have w1:=zWk k
  have p:k<g.length:=zOm;have o:(Yd ts g)[k]?=some [aI ts[k],aB g[k]]:=by
   rw[Yd,zn,List.getElem?_zip_eq_some (z:=(ts[k],g[k])) |>.2 ⟨qA l,qA p⟩];rfl
  simp[go_sem,R,U,e7,e8,e9,l,p];refine qh.yield (J _ _ _ o hI) ?_;rintro b j (⟨rfl,a0⟩|⟨rfl,a1⟩)
  .simp_all [go_sem,aA]
  simp[go_sem, *]
 .have a2:k=ts.length:=by omega
  simp_all[go_sem]
def endI(l:XE (List (Int×Bool))):AEnd:=match l with
 | .ok l => .ret (.fn (.func 185) [] (insC 1 (l.map Prod.fst) (l.map Prod.snd)))
 | .error e => .pan (errV e)
theorem U5(l):endI (.ok l) = .ret (.fn (.func 185) [] (insC 1 (l.map Prod.fst) (l.map Prod.snd))):=rfl
theorem KV(e):endI (.error e) = .pan (errV e):=rfl
theorem KW(x N n a b)(hM:OkMa x N)(hk:n.sD=[a,b])(ih:IH x N n)(p)(hp:OkP x N p)(hq:bd p n) :
  qZ qe 127 [eMa x,ePl p,eNd n] (endI (jk [den x a,den x b] n.name p)):=by
 refine zl.of_sound ?_;refine qSW call127 func127 rfl {} ?_;have ia:=ih a (by rw[hk];simp) p hp zOm;have ha:=ia.E;have wa:=wk3 x p a;have aj:=yc x;have ak:=fun p' h1 h2=>(ih b (by rw[hk];simp) p' h1 h2).F
 generalize C:jk [den x a,den x b] n.name p=E;unfold jk at C;simp only[kD,uL,List.getD_cons_succ]at C;simp[go_sem];refine fD [0,1,2,3,4,5,6,7,8] [(0,0,[]),(1,0,[]),(2,0,[]),(3,0,[]),(4,0,[]),(5,0,[]),(6,1,[]),(7,2,[1,3,5]),(8,1,[])] zKr zKr zSi ?_;simp[go_sem,hk];cases ea:(den x a).E p with
 |error e =>
  rw[ea]at ha C;subst C;refine kL ha wa ?_;simp[go_sem,zL,KV];exact .hf _ (qQ _)
 |ok d =>
  rw[ea]at ha C;rw[zr]at C;refine tS ha.toP wa ?_;by_cases he:d.ar=1
  case neg =>
   rw[if_neg he]at C;subst C;simp[go_sem,hk,he];refine kL (wI 42) (wkI 42) ?_;simp[go_sem,KV];exact .hf _ (qQ _)
  rw[if_pos he]at C;have hd:(d.ar=1)=True:=eq_true he;have gd:=ia.G _ ea;have ld:=gd.len hM.n0 (aL hM);generalize hg:(fun a=>bX ((den x b).F ⟨p.st,p.env++[(n.name,a)]⟩) fun b=>(Except.ok (a,b):XE (Int×Bool)))=g at C;simp[go_sem,hk,hd];refine aK d.ts.length (fun k T=>∃(o:List (Int×Bool)) (t:AV),mapX g (d.ts.take k) = .ok o/\o.length=k/\T.tm 0=eMa x/\T.tm 4 = .ip (cPl p)/\T.tm 5 = .ip (cNd n)/\T.tm 7 = .ptr 0 0/\T.tm 8 = .ptr 1 0/\T.tm 24=lI d.ts/\T.tm 25=aI d.ts.length/\T.tm 26=aI k /\
   T.mu[0]?=some (.arr (cRel d))/\T.mu[1]?=some (.arr [t])/\Own T.mu 1 t ((o.map Prod.snd).map rB)/\qp t≠some 0/\qp t≠some 1) ?_ ?_
  .exact ⟨[],.lst true [],rfl,rfl,zSi,zSi,zSi,zSi,zSi,zSi,zSi,zSi,zSi,zSi,.inl rfl,by simp[qp],by simp[qp]⟩
  rintro k T ay ⟨o,t,P,al,e0,e4,e5,e7,e8,ab,a5,a6,g0,g1,ho,n0,n1⟩;by_cases I:k<d.ts.length
  .have w1:=zWk k
   have hv:=gd.val _ (qs I);rw[he,uZ]at hv;have hF:=ak ⟨p.st,p.env++[(n.name,d.ts[k])]⟩ (hp.bind hv) zSo;have hw:=wk3 x ⟨p.st,p.env++[(n.name,d.ts[k])]⟩ b;have U:=Yc (l2:=d.ts.drop k) P;rw[vO,zu I,mapX]at U;rw[C]at U;have a0:g d.ts[k]=bX ((den x b).F ⟨p.st,p.env++[(n.name,d.ts[k])]⟩) fun b => .ok (d.ts[k],b):=by rw[<-hg]
   simp[go_sem,ab,a5,a6,I];refine fD [0,1,3,4,5,6,7,2,8,9] [(0,0,[]),(1,0,[]),(3,0,[]),(4,0,[]),(5,0,[]),(6,0,[]),(7,0,[]),(2,1,[4]),(8,1,[]),(9,0,[])] zKr zKr zSi ?_;simp[go_sem,e4,e5];refine fR (clipE p.env) (.zk (uB _) .nil) ?_;refine qz.ownB (e:=275) (sz:=2) (bt:=24) (zv := .agg [aS ⟨#[]⟩,aI 0]) (xs:=p.env.map cPm) (ys:=[cPm (n.name,d.ts[k])]) zSi zSi zSi rfl rfl zOm zOm (.inl rfl) (by simp[qE]) (KT p.env) (KT [(n.name,d.ts[k])]) zSo ?_;intro ev ad ae an az b0;have l1:1<T.mu.length:=(qk.1 g1).1;have a3:p.env.map cPm++[cPm (n.name,d.ts[k])]=(p.env++[(n.name,d.ts[k])]).map cPm:=by rw[ze];rfl
   rw[a3]at ae;have af:∀ i,i<T.mu.length->ad[i]?=T.mu[i]?:=fun i hi=>an i hi (by simp[qp])
   simp[go_sem];refine qj.fz (FzQ.ownB (d:=11) (sz:=2) (av:=ev) (xs:=(p.env++[(n.name,d.ts[k])]).map cPm) zSi ae (KT _) (fun r hr c hc=>by obtain⟨q,_,rfl⟩:=qn.1 hr;exact UG q c hc) fun a1 full ao aq=>?_);have a7:∀ i,i<T.mu.length->a1[i]?=T.mu[i]?:=fun i hi=>(aq i (fun e=>by grind)).trans (af i hi)
   simp[go_sem];refine fD [0,1,2,3,4,5,6,7,8,9,10,11,12,13] [(0,0,[]),(1,0,[]),(2,0,[]),(3,0,[]),(4,0,[]),(5,0,[]),(6,0,[]),(7,0,[]),(8,0,[]),(9,0,[]),(10,1,[0]),(11,0,[]),(12,1,[]),(13,1,[])] zKr zKr zSi ?_;have au:=(a7 0 zOm).trans g0;have a8:=(a7 1 l1).trans g1;have a2:∀ f,WKs [eMa x,.agg [aI p.st,.lst f ((p.env++[(n.name,d.ts[k])]).map cPm)],eNd b] [eMa x,ePl ⟨p.st,p.env++[(n.name,d.ts[k])]⟩,eNd b]:=fun f =>
    .zk aj (.cons (WK.aggs (.zs (.cons (WK.lst fun r hr c hc=>by obtain⟨q,_,rfl⟩:=qn.1 hr;exact UG q c hc) .nil))) (.zk (qK b) .nil))
   have aw:Own a1 1 t ((o.map Prod.snd).map rB):=by
    rcases ho with h|⟨bb,h,hc⟩
    .exact .inl h
    .exact .inr ⟨bb,h,by rw[a7 bb (qk.1 hc).1];exact hc⟩
   have a2:WKs [eMa x,.agg [aI p.st,.lst full (p.env.map cPm++[cPm (n.name,d.ts[k])])],.agg (cNd b)] [eMa x,ePl ⟨p.st,p.env++[(n.name,d.ts[k])]⟩,eNd b]:=by rw[a3];exact a2 full
   simp[go_sem,e0,e4,e5,e8,hk,a8];cases ef:(den x b).F ⟨p.st,p.env++[(n.name,d.ts[k])]⟩ with
   |error e =>
    rw[ef]at hF a0;rw[a0]at U;subst U;refine kL hF a2 ?_;simp[go_sem,zL,KV];exact .hf _ (qQ _)
   |ok v =>
    rw[ef]at hF a0;refine tS hF.toP a2 ?_;simp[go_sem,e8,a8];refine qz.ownB (e:=4) (sz:=1) (bt:=1) (zv:=aB false) (xs:=(o.map Prod.snd).map rB) (ys:=[rB v]) zSi zSi zSi rfl rfl zOm zOm aw (by simp[qE]) (Qy _) (Qy [v]) zSo ?_;intro a9 j aa ag ah b1;have b2:T.mu.length<=a1.length:=by
     have:a1.length=ad.length:=ao;omega
    have k0:j[0]?=some (.arr (cRel d)):=(ag 0 zOm n0).trans au;have k1:j[1]?=some (.arr [t]):=(ag 1 zOm n1).trans a8;have m0:qp a9≠some 0:=fun e=>zW1 (ah 0 e)
    have m1:qp a9≠some 1:=fun e=>zW1 (ah 1 e)
    simp[go_sem,e8,a6,k1,Own.one aa,Own.cells aa,w1];refine⟨I,aA ⟨o++[(d.ts[k],v)],a9,?_,zP1 al,zS1 e0,zS1 e4,zS1 e5,zS1 e7,zS1 e8,zS1 ab,zS1 a5,zSi,?_,?_,?_,m0,m1⟩⟩
    .rw [yv I,Yc P,mapX,a0];rfl
    .simp only[qC];rw[zGl];exact k0
    .simp only[qC];rw[qL zOm]
    .simp only[qC]
     rw[ze,ze];exact Own.set aa _ m1
  .have ax:k=d.ts.length:=by omega
   subst ax;rw[qO,C]at P;subst P;have ai:=KO (g:=fun a=>(den x b).F ⟨p.st,p.env++[(n.name,a)]⟩) (ts:=d.ts) (l:=o) (by rw[hg];exact C);have a4:=U5 o;rw[ai]at a4;generalize o.map Prod.snd=vs at *
   simp[go_sem,e7,e8,a5,a6,a4];refine .fn _ _ _ _ _ rfl rfl (fun k x y hx=>by simp at hx) (fun k x y hx hy=>?_)
   match k with
   | 0 =>
    simp at hx hy;subst hx;subst hy;rw[<-he];refine .ptr 0 0 _ _ g0 zSp fun k u v hu hv=>?_
    rw[yj]at hu;rw[hu]at hv;cases hv;exact .hf _ (ZZ d _ (zb hu))
   | 1=>simp at hx hy;subst hx;subst hy;exact Rd.ip1 g1 (Own.rdB ho)
   |k+2=>simp at hx
theorem RelM.push{mu g l}(h:RelM mu g l):RelM (mu++[.dead]) g l:=by
 obtain⟨t,r,g1,i,j,o⟩:=h;exact⟨t,by grind,by grind,i.same fun b p=>by rw[qN (i.v.lt p)],j,o⟩
abbrev onL(l:List (Int×Bool)):List Int:=(l.filter fun e=>e.2).map fun e=>e.1
theorem KX(l:List (Int×Bool)):Yd (l.map Prod.fst) (l.map Prod.snd)=l.map fun e=>[aI e.1,aB e.2]:=by
 rw[Yd,List.zip_map'];simp
theorem qnO(l:List (Int×Bool))(k h):onL (l.take (k+1))=onL (l.take k)++(if l[k].2=true then [l[k].1] else []):=by
 rw[yv h,onL,List.filter_append,ze]
 grind
theorem KY{ds nm p l}(h:jk ds nm p = .ok l)(B)(hB:∀ d,(kD ds 0).E p = .ok d->d.ts.length<=B):l.length<=B:=by
 obtain⟨d,i,_,g⟩:=qbB h;have:=congrArg List.length g
 grind
theorem qnP(x N n a b)(U:OkMa x N)(hk:n.sD=[a,b])(ih:IH x N n)(p)(hp:OkP x N p)(hq:bd p n) :
  qZ qe 181 [eMa x,ePl p,eNd n] (endE (bX (jk [den x a,den x b] n.name p) fun l => .ok ⟨1,(l.filter fun e=>e.2).map fun e=>e.1⟩)):=by
 refine zl.of_sound ?_;refine qSW call181 func181 rfl {} ?_;have r:=KW x N n a b U hk ih p hp hq;have wx:=wk3 x p n;simp[go_sem];cases hE:jk [den x a,den x b] n.name p with
 |error e =>
  rw[hE]at r;refine kL r wx ?_;simp[go_sem,zL];exact .hf _ (qQ _)
 |ok l =>
  rw[hE]at r;have hl:l.length<=8000:=KY hE 8000 fun d h=>((ih a (by rw[hk];simp) p hp zOm).G d h).len U.n0 (aL U)
  have I:=KU 1 (l.map Prod.fst) (l.map Prod.snd) zSp zSo;rw[KX]at I;rw[U5]at r;refine tS r.toP wx ?_;generalize insC 1 (l.map Prod.fst) (l.map Prod.snd)=C at *
  simp[go_sem,zr];refine tC I (fun j M=>RelM M 1 (onL (l.take j))) (fun _ _=>False) ?_ ?_ ?_ ?_ ?_ ?_
  .exact ⟨.lst true [],zSi,zSi,.inl ⟨rfl,rfl⟩,by simp[qp],by simp[qp]⟩
  .grind [RelM.push]
  .grind
  .rintro j y M hj ⟨av,J,g1,o,R,n1⟩
   rw[zn,Option.map_eq_some_iff]at hj;obtain⟨t,ht,rfl⟩:=hj;obtain⟨a0,a1⟩:=qk.1 ht;have g:=qnO l j a0;rw[a1]at g;refine⟨rfl,?_⟩;cases T:t.2 with
   |true =>
    rw[if_pos T]at g;have a5:(onL (l.take j)).length<=8000:=by
     rw[onL,zT];exact zQ (List.length_filter_le _ _) zSo
    simp[go_sem,g1];refine aM (e:=3) (bt:=8) (z:=0) zSi zSi zSi zOm o.v zOm ?_;intro a6 a7 i a2 a3 a4;obtain⟨k1,k2⟩:=RelM.step J g1 R n1 i a2 a3 a4;simp[go_sem,k1,i.v.one,i.v.cells]
    grind [tA]
   |false =>
    rw[if_neg (by rw[T];simp),zO]at g;simp[go_sem];refine tA ?_;rw[g];exact⟨av,J,g1,o,R,n1⟩
  .rintro M ⟨av,J,g1,o,R,n1⟩
   rw[zT,qO]at o;have P:∀ c,(M.set 0 c)[0]?=some c:=fun c=>qL (qk.1 J).1
   simp[go_sem,J,g1,P,o.v.one];refine aG (o.v.same fun b T=>?_);rw[yJ (fun e=>R (by rw[e];exact T))]
  grind
end F5
namespace F6
open Y1 Y10 P1 YF E3 EA EO EP EQ ER EW F1 F2 F3 F4 F5
section
variable {nm:tP}{env:List (tP×Int)}{st:St}{Q:qX->St->Prop}
theorem backU(l):qi qe 220 [lPm l] (.fn (.func 244) [] [.ip [lPm l]]):=by
 refine qSU call220 func220 rfl ?_;exact .hf _ (HF.fn zSp (by simp;exact jl (uB _)))
def Zy(l:List (tP×Int)):List (List AV):=(qu l.length).map fun k:Nat=>[aI ((l.length-1-k:Nat):Int),.agg (cPm (l.getD (l.length-1-k) (⟨#[]⟩,0)))]
theorem qnQ(l)(hl:l.length<=1000000000):ji qe 244 [.ip [lPm l]] (Zy l):=by
 refine ji.of call244 fun i I Ix hS hX hY C h0=>?_
 refine qSW call244 func244 rfl {} ?_;have a0:(Zy l).length=l.length:=by simp[Zy]
 have w0:qq.wrap ((l.length:Int)-1)=(l.length:Int)-1:=zWr;simp[go_sem,w0];refine aK l.length (fun k T=>T.tm 0 = .yl i/\T.tm 1 = .ip [lPm l]/\T.tm 3=aI ((l.length:Int)-1-k)/\I k T.mu) ?_ ?_
 .simp [go_sem, *]
 rintro k T hk ⟨U,e1,t,hI⟩;by_cases g:k<l.length
 .have hj:((l.length:Int)-1-k)=((l.length-1-k:Nat):Int):=by omega
  have o:l.length-1-k<l.length:=zOm;have hw:qq.wrap (((l.length-1-k:Nat):Int)-1)=(l.length:Int)-1-((k+1:Nat):Int):=by grind [z8]
  have p:(0:Int)<=((l.length-1-k:Nat):Int):=zOm;have r:(Zy l)[k]?=some [aI ((l.length-1-k:Nat):Int),.agg (cPm l[l.length-1-k])]:=by
   rw[Zy,zn,Qc g];simp[zS,qA o]
  rw[hj]at t;generalize l.length-1-k=j at *
  simp[go_sem,U,e1,t,p,o];refine qh.yield (hY _ _ _ r hI) ?_;rintro b a1 (⟨rfl,J⟩|⟨rfl,P⟩)
  .simp [go_sem,t,hw]
   exact⟨g,aA ⟨zS1 U,zS1 e1,zSi,zVs J⟩⟩
  .simp [go_sem]
   exact .inr P
 .have R:k=l.length:=by omega
  subst R;rw[show (l.length:Int)-1-l.length = -1 by omega]at t;simp[go_sem, *]
theorem KZ(nm):∀(l:List (tP×Int))(r),(∀ e,e∈l->e.1≠nm)->l.foldl (fun r e=>if e.1=nm then some e.2 else r) r=r
 | [],r,_=>rfl
 |e :: l,r,h=>by rw[List.foldl_cons,if_neg (h e zSp)];exact KZ nm l r fun x g=>h x (zP1 g)
theorem qnR(h:∀ e,e∈env->e.1≠nm):zZ nm env=none:=KZ nm env none h
theorem qnS{j}(g)(i:env[j].1=nm)(h:∀ e,e∈env.drop (j+1)->e.1≠nm):zZ nm env=some env[j].2:=by
 have e:env=env.take j++env[j] :: env.drop (j+1):=by rw[<-zu g,vO]
 unfold zZ
 conv=>lhs;rw[e]
 rw[vM,List.foldl_cons,if_pos i];exact KZ nm _ _ h
theorem qnT(fs:List Fld)(g:List Rl)(nm k h)(i:k<g.length):vR (fs.take (k+1)) (g.take (k+1)) nm=vR (fs.take k) (g.take k) nm++(if fs[k].name=nm then [g[k]] else []):=by
 unfold vR;rw[yv h,yv i,List.zip_append zSo,List.filterMap_append];congr 1;by_cases e:fs[k].name=nm<;>simp[e]
theorem qbM(fs g nm):(vR fs g nm).length<=fs.length:=by
 grind [vR,zQ,List.length_filterMap_le,List.length_zip]
def Zz(x:Mo)(nm:tP)(i:Nat)(s:tP×Bool):List Rl:=(if s.1=nm then [⟨1,zJ x i⟩] else [])++((if s.2=true/\s.1++jj=nm then [⟨1,(zJ x i).take 1⟩] else [])++(if s.2=true/\s.1++vj=nm then [⟨2,Qx x i⟩] else []))
theorem qbN(x nm):∀ a b i,jd x nm i (a++b)=jd x nm i a++jd x nm (i+a.length) b
 | [],b,i=>rfl
 |s :: a,b,i=>by
  rw[yP,jd,jd,qbN x nm a b (i+1),zG,show i+1+a.length=i+(a.length+1) by omega];simp only[zB]
theorem qbO(x nm)(so:List (tP×Bool))(k h):jd x nm 0 (so.take (k+1))=jd x nm 0 (so.take k)++Zz x nm k so[k]:=by
 rw[yv h,qbN,v8,Nat.min_eq_left zOm,yj,jd];simp[Zz,jd]
theorem qnU(x nm i s):(Zz x nm i s).length<=3:=by
 grind [Zz,zd]
theorem qbP(x nm)(so:List (tP×Bool)):∀ k,k<=so.length->(jd x nm 0 (so.take k)).length<=3*k
 | 0,_=>by simp[jd]
 |k+1,h=>by
  rw[qbO x nm so k zOm,zd];have:=qbP x nm so k zOm;have:=qnU x nm k so[k];omega
theorem qnV(sc)(i:Nat):tupR sc [(i:Int)] 0=(qu (gI sc.sC i).toNat).map fun k:Nat=>sumI (sc.sC.take i)+k:=by
 rw[tupR];simp only[tupR,Int.zero_mul,Int.zero_add,show (i:Int).toNat=i by omega];exact List.map_eq_flatMap.symm
theorem cK{i d L x}(g:Rd (cutM (fun j=>decide (L<=j)) st.mu 0) (st.tm d) x)(k:Q (.exit i) (st.put (some d) x (cutM (fun j=>!decide (L<=j)) st.mu 0))):FzQ Q (.exit i) st:=by
 refine⟨_,⟨fun j=>decide (L<=j),rfl,fun j=>?_⟩,trivial,k⟩;simp only[St.put];split
 .rename_i h;subst h;exact .rd _ _ g
 .exact .same _
def bR:Nat->Int
 | 0=>0
 |k+1=>bR k*20+20
theorem bR_ok:∀ k,k<=3->bR k<=100000
 | 0,_=>zDe
 | 1,_=>zDe
 | 2,_=>zDe
 | 3,_=>zDe
def uD(n:Int)(tuple:List Int):Int:=tuple.foldl (fun o t=>o*n+t) 0
theorem qnW(n)(tuple:List Int)(k h):uD n (tuple.take (k+1))=uD n (tuple.take k)*n+tuple[k]:=by
 rw[List.take_add_one,qA h,uD,uD,vM];rfl
theorem rankU(sc)(g:GSc sc)(tuple)(ht:tuple.length<=3)(hd:∀ d,d∈tuple->0<=d/\d<sumI sc.sC):qi qe 222 [eSc sc,lI tuple] (aI (uD (sumI sc.sC) tuple)):=by
 refine qSV call222 func222 rfl ?_;simp[go_sem,show ¬(3:Int)<tuple.length by omega];refine tS (YP sc g) (.zk (zA sc) .nil) ?_;have o:=g.sum sc.sC.length;rw[qO]at o;generalize sumI sc.sC=n at *
 simp[go_sem];refine qm.up tuple.length (fun k T=>T.tm 5=aI n/\T.tm 14=lI tuple/\T.tm 15=aI tuple.length/\T.tm 6=aI (uD n (tuple.take k))/\T.tm 16=aI k/\T.mu=[]/\0<=uD n (tuple.take k)/\uD n (tuple.take k)<=bR k) ?_ ?_
 .simp [go_sem,uD,bR]
 rintro k T hk ⟨P,p,j,R,l,U,t,C⟩;by_cases i:k<tuple.length
 .have I:=hd _ (qs i)
  have hs:=qnW n tuple k i;have hb:=bR_ok k zOm;have a0:bR (k+1)=bR k*20+20:=rfl;generalize a1:uD n (tuple.take k)=r at *
  have m0:0<=r*n:=Int.mul_nonneg t zOm;have m1:r*n<=bR k*20:=jJ C zOm zOm zOm;have hw:qq.wrap (n-1)=n-1:=zWr;simp[go_sem,P,p,j,l,U,i,hw];refine tS (UT tuple[k] 0 (n-1)) (.zs (.zs (.zs .nil))) ?_;simp[go_sem,P,p,j,R,l,i,I.1,show tuple[k]<=n-1 by omega];rw[hs,z8 (n:=r*n) zOm zOm,z8 (n:=r*n+tuple[k]) zOm zOm,z8 (n:=(k:Int)+1) zOm zOm];omega
 .have J:k=tuple.length:=by omega
  subst J;simp[go_sem,j,R,l,U];exact .zsc _
theorem BrS.join{P pl b A B K}(J)(j:b=true->awp P pl A (seqQ (fun st=>Keep J .mk st) Q) st)(l:b=false->awp P pl B (seqQ (fun st=>Keep J .mk st) Q) st)(o:∀ st,J st->K st) :
  BrS b (awp P pl A (seqQ K Q)) (awp P pl B (seqQ K Q)) st:=by
 refine cZ (fun h=>awp.mono A (j h) fun e st g=>?_) (fun h=>awp.mono B (l h) fun e st g=>?_)
 all_goals cases e with
  |normal=>exact o st g
  |exit i=>exact g
  |ret=>exact g
  |pan v=>exact g
theorem cA{b p q}(J:St->Prop)(h:J st)(k:∀ st,J st->BrS b p q st):BrS b p q st:=k st h
def FndM(mu:Mu)(s:AV)(F:List Rl):Prop:=mu[0]?=some (.arr [aI 0,.lst true []])/\Own mu 2 s (F.map cRel)/\qp s≠some 0
theorem cP{full}(l):WK (.lst full (l.map rI)) (lI l):=WK.lst fun r g c i=>by
 obtain⟨n,_,rfl⟩:=qn.1 g
 grind [HF.sc]
structure SInv (x:Mo) (nm sn:tP) (sb:Bool) (k c d:Nat) (F:List Rl) (st:St):Prop where
 e0:st.tm 0=eMa x
 e5:st.tm 5 = .ip [aS nm]
 e6:st.tm 6 = .ptr 0 0
 e13:st.tm 13 = .ptr c 0
 e14:st.tm 14 = .ptr d 0
 e65:st.tm 65=lSo x.ts.sS
 e66:st.tm 66=aI x.ts.sS.length
 e67:st.tm 67=aI k
 g0:st.mu[0]?=some (.arr [aI 0,.lst true []])
 gc:st.mu[c]?=some (.arr [aS sn,aB sb])
 gd:st.mu[d]?=some (.arr [aI 1,lI (zJ x k)])
 ho:Own st.mu 2 (st.tm 9) (F.map cRel)
 n0:qp (st.tm 9)≠some 0
 nc:qp (st.tm 9)≠some c
 nd:qp (st.tm 9)≠some d
structure SNew (c d:Nat) (F:List Rl) (av:AV) (mu:Mu):Prop where
 g0:mu[0]?=some (.arr [aI 0,.lst true []])
 ho:Own mu 2 av (F.map cRel)
 n0:qp av≠some 0
 nc:qp av≠some c
 nd:qp av≠some d
theorem SInv.app{t o}(P:qJ qe t=some (96,2,32))(j:(qJ qe o).isSome=true){x nm p C k c d F st}(h:SInv x nm p C k c d F st)(hl:F.length<=100)(r){I}(R:qE st.mu I=some [cRel r]){K}
  (T:∀ av mu',SNew c d (F++[r]) av mu'->mu'[c]?=some (.arr [aS p,aB C])->mu'[d]?=some (.arr [aI 1,lI (zJ x k)])->K av mu'):qz qe st.mu #[t,o] (st.tm 9) I K:=by
 have U:=(qk.1 h.gc).1;have ld:=(qk.1 h.gd).1;have l0:=(qk.1 h.g0).1;refine qz.ownB (e:=96) (sz:=2) (bt:=32) (zv := .agg [aI 0,.lst true []]) (xs:=F.map cRel) (ys:=[cRel r]) P j zSi rfl rfl zOm zOm h.ho R (vQ _) (vQ [r]) zSo ?_;intro l mu' a0 j a1 a2;refine T l mu' ⟨by rw[j 0 l0 h.n0];exact h.g0,by grind,fun e=>by grind,fun e=>by grind,fun e=>by grind⟩ (by rw[j c U h.nc];exact h.gc) (by rw[j d ld h.nd];exact h.gd)
theorem appR{t o}(C:qJ qe t=some (96,2,32))(j:(qJ qe o).isSome=true){mu s F}(h:FndM mu s F)(hl:F.length<=100)(r){p}(I:qE mu p=some [cRel r]){K}
  (P:∀ av mu',FndM mu' av (F++[r])->K av mu'):qz qe mu #[t,o] s p K:=by
 have R:=(qk.1 h.1).1;refine qz.ownB (e:=96) (sz:=2) (bt:=32) (zv := .agg [aI 0,.lst true []]) (xs:=F.map cRel) (ys:=[cRel r]) C j zSi rfl rfl zOm zOm h.2.1 I (vQ _) (vQ [r]) zSo ?_;intro l mu' T j U a0;exact P l mu' ⟨by rw[j 0 R h.2.2];exact h.1,by grind,fun e=>by grind⟩
theorem qnX(x N)(hM:OkMa x N)(nm p)(hp:OkP x N p)(hq:p.env.length<=1000000) :
  qZ qe 182 [eMa x,ePl p,aS nm] (endE (vS x p nm)):=by
 refine zl.of_sound ?_;refine qSW call182 func182 rfl {} ?_;have dt:=yc x;generalize hE:vS x p nm=E;unfold vS at hE;simp[go_sem];refine fR (backU p.env) (.zk (uB _) .nil) ?_;refine tC (qnQ p.env zOm) (fun k M=>(∃ o,M = .arr [aI 0,.lst true []] :: o)/\∀ e,e∈p.env.drop (p.env.length-k)->e.1≠nm) (fun e M=>e = .ret/\∃ a o,zZ nm p.env=some a/\M = .arr [aI 1,.lst true [[aI a]]] :: o) ?_ ?_ ?_ ?_ ?_ ?_
 .simp_all [qC,yP]
 .simp
 .grind
 .rintro k y M hk ⟨⟨o,rfl⟩,h⟩
  have bs:k<p.env.length:=by
   grind [qk,Zy]
  have a8:p.env.length-1-k<p.env.length:=zOm;rw[Zy,zn,Qc bs]at hk;simp only[zq,qv,zS,qA a8,Option.getD_some]at hk;subst hk;have bu:p.env.length-k=p.env.length-1-k+1:=zOm;rw[bu]at h;have b7:=fun he=>qnS a8 he h
  have C:p.env.drop (p.env.length-(k+1))=p.env[p.env.length-1-k] :: p.env.drop (p.env.length-1-k+1):=by
   grind [zu]
  generalize hb:p.env[p.env.length-1-k]=b at *
  refine⟨rfl,?_⟩;by_cases he:b.1=nm
  .simp [go_sem,he]
   exact tA ⟨rfl,b.2,_,b7 he,rfl⟩
  .simp [go_sem,wL,he]
   refine tA ⟨⟨_,rfl⟩,fun e hm=>?_⟩;rw[C]at hm;rcases qy.1 hm with rfl|hm
   .exact he
   grind
 .rintro M ⟨⟨o,rfl⟩,h⟩
  have bv:zZ nm p.env=none:=qnR fun e hm=>h e (by simpa[Zy] using hm)
  rw[bv]at hE;simp only at hE;obtain⟨bw,ca⟩:=hM.st p.st hp.st;have ao:p.st<x.m.sK.length:=zW2 hM.len hp.st;have cb:x.m.sK.getD p.st []=x.m.sK[p.st]:=by rw[zS,qA ao];rfl
  have du:=hM.ts.nf;have dv:=hM.ts.ns;have b8:=qbM x.ts.sA (x.m.sK.getD p.st []) nm;rw[cb]at hE bw ca b8;generalize cc:x.m.sK[p.st]=rs at *
  simp[go_sem];refine aK x.ts.sA.length (fun k T=>T.tm 0=eMa x/\T.tm 4 = .ip (cPl p)/\T.tm 5 = .ip [aS nm]/\T.tm 6 = .ptr 0 0/\T.tm 34=lFl x.ts.sA/\T.tm 35=aI x.ts.sA.length/\T.tm 36=aI k/\FndM T.mu (T.tm 9) (vR (x.ts.sA.take k) (rs.take k) nm)) ?_ ?_
  .exact ⟨zSi,zSi,zSi,zSi,zSi,zSi,zSi,zSi,.inl (by simp[go_sem,vR]),by simp[go_sem,qp]⟩
  rintro k T hk ⟨e0,e4,e5,e6,af,a9,ag,g0,ho,hn⟩;by_cases P:k<x.ts.sA.length
  .have aa:k<rs.length:=by omega
   have w1:=zWk k;have hs:=qnT x.ts.sA rs nm k P aa;have dw:(vR (x.ts.sA.take k) (rs.take k) nm).length<=6:=zQ (qbM _ _ _) zSo;have l0:0<T.mu.length:=(qk.1 g0).1;by_cases he:x.ts.sA[k].name=nm
   .rw [if_pos he]at hs
    simp[go_sem,e5,af,a9,ag,P,he];refine cJ zKr ?_;simp[go_sem,e0,e4,ao,cc,aa];refine qz.ownB (e:=96) (sz:=2) (bt:=32) (zv := .agg [aI 0,.lst true []]) (xs:=(vR (x.ts.sA.take k) (rs.take k) nm).map cRel) (ys:=[cRel rs[k]]) zSi zSi zSi rfl rfl zOm zOm (Own.push ho _) (by simp[qE]) (vQ _) (vQ [rs[k]]) zSo ?_;intro ah a3 ab ax b9 cd;have k0:a3[0]?=some (.arr [aI 0,.lst true []]):=by
     grind
    have m0:qp ah≠some 0:=fun e=>by grind
    simp[go_sem,ag,P,w1];refine aA ⟨zS1 e0,zS1 e4,zS1 e5,zS1 e6,zS1 af,zS1 a9,zSi,zVs k0,?_,zVs m0⟩;simp[go_sem, *]
   .rw [if_neg he,zO]at hs
    simp[go_sem,wL,e5,af,a9,ag,P,he,w1];refine aA ⟨zS1 e0,zS1 e4,zS1 e5,zS1 e6,zS1 af,zS1 a9,zSi,?_,?_,zVs hn⟩
    .grind [qC,qN]
    simp_all[go_sem,Own.push]
  .have ai:k=x.ts.sA.length:=by omega
   rw[z6 zOm,z6 zOm]at ho;generalize vR x.ts.sA rs nm=F at *
   simp[go_sem,e0,a9,ag,ai];refine fB x.ts.sS.length (fun k=>Keep (fun T=>T.tm 0=eMa x/\T.tm 5 = .ip [aS nm]/\T.tm 6 = .ptr 0 0/\T.tm 65=lSo x.ts.sS/\T.tm 66=aI x.ts.sS.length/\T.tm 67=aI k/\FndM T.mu (T.tm 9) (F++jd x nm 0 (x.ts.sS.take k))) .mk) ?_ ?_
   .exact aA ⟨zS1 e0,zS1 e5,zS1 e6,zSi,zSi,zSi,zVs g0,by simpa[go_sem,jd] using ho,zVs hn⟩
   rintro k T hk ⟨e0,e5,e6,bb,ay,az,g0,ho,hn⟩;have dx:=qbP x nm x.ts.sS k hk;by_cases P:k<x.ts.sS.length
   .have w1:=zWk k
    have hs:=qbO x nm x.ts.sS k P;have bc:=hM.ts.sl _ (qs P);have be:k<x.m.sc.sC.length:=zW1 hM.al;have a5:=Kk x.m.sc hM.gsc hM.pos [(k:Int)] (fun s hs=>by rw[qV]at hs;omega) zSp zSp;rw[qnV]at a5;have cf:zJ x k=(qu (gI x.m.sc.sC k).toNat).map fun j:Nat=>sumI (x.m.sc.sC.take k)+j:=rfl
    rw[<-cf]at a5;have cg:WKs [eSc x.m.sc,.lst true [rI k]] [eSc x.m.sc,lI [(k:Int)]] := .zk (zA _) (.cons (cP [(k:Int)]) .nil);generalize ch:x.ts.sS[k]=so at *
    obtain⟨sn,sb⟩:=so;have cj:sn.size<=9223372036854775801:=by simp at bc;omega
    have ck:sn.size<=9223372036854775802:=by simp at bc;omega
    generalize hF:F++jd x nm 0 (x.ts.sS.take k)=F0 at *
    have aq:F++jd x nm 0 (x.ts.sS.take (k+1))=F0++Zz x nm k (sn,sb):=by rw[hs,<-hF,zB]
    have dy:F0.length<=18:=by rw[<-hF,zd];omega
    have l0:0<T.mu.length:=(qk.1 g0).1;simp[go_sem,e0,bb,ay,az,P,ch];refine tS a5 cg ?_;simp[go_sem,wL,e5];generalize hL:T.mu.length=L at *
    have ar:∀ b,qp (T.tm 9)=some b->b<L:=fun b hb=>zW1 (Own.lt ho hb)
    have b0:∀ c,Own (T.mu++c) 2 (T.tm 9) (F0.map cRel):=fun c=>Own.push ho c
    have aj:T.mu[0]'(qk.1 g0).1 = .arr [aI 0,.lst true []]:=(qk.1 g0).2;have dz:∀ c:List Cell,(T.mu++c)[0]?=some (.arr [aI 0,.lst true []]):=fun c=>by rw[zGa];exact g0
    have cl:∀ A B:Cell,(T.mu++[A,B])[L]?=some A:=fun A B=>by rw[zM zOm,hL];simp
    have cm:∀ A B:Cell,(T.mu++[A,B])[L+1]?=some B:=fun A B=>by rw[zM zOm,hL];simp
    refine cA (SInv x nm sn sb k L (L+1) F0) ⟨zS1 e0,zS1 e5,zS1 e6,zSi,zSi,zS1 bb,zS1 ay,zS1 az,by simp[go_sem,List.getElem_append_left,hL,l0,aj],zS1 cl,zS1 cm,by simp[go_sem,b0],zS1 hn,fun e=>?_,fun e=>?_⟩ fun st0 h0=>?_
    .have:=ar L (zVs e);omega
    .have:=ar (L+1) (zVs e);omega
    refine BrS.join (SInv x nm sn sb k L (L+1) (F0++if sn=nm then [⟨1,zJ x k⟩] else [])) ?_ ?_ ?_
    .intro C
     have C:=of_decide_eq_true C;rw[if_pos C];simp[go_sem,h0.e14,h0.gd];refine h0.app zSi zSi zOm ⟨1,zJ x k⟩ (by simp[qE]) fun t a3 R b1 b2=>?_
     simp[go_sem];refine aA ?_;exact⟨by simp[go_sem,h0.e0],by simp[go_sem,h0.e5],by simp[go_sem,h0.e6],by simp[go_sem,h0.e13],by simp[go_sem,h0.e14],by simp[go_sem,h0.e65],by simp[go_sem,h0.e66],by simp[go_sem,h0.e67],R.g0,b1,b2,R.ho,R.n0,R.nc,R.nd⟩
    .intro C
     have C:=of_decide_eq_false C;rw[if_neg C,zO];simp[go_sem];exact aA h0
    intro st1 I;have e1:(F0++if sn=nm then [(⟨1,zJ x k⟩:Rl)] else []).length<=19:=by rw[zd];split<;>simp only[zG,List.length_nil]<;>omega
    cases sb with
    |false =>
     have cn:F0++Zz x nm k (sn,false)=F0++if sn=nm then [⟨1,zJ x k⟩] else []:=by simp[Zz]
     rw[<-cn,<-aq]at I;simp[go_sem,I.e13,I.e67,I.gc,w1,P];exact aA ⟨by simp[go_sem,I.e0],by simp[go_sem,I.e5],by simp[go_sem,I.e6],by simp[go_sem,I.e65],by simp[go_sem,I.e66],zSi,by simpa[go_sem] using I.g0,by simpa[go_sem] using I.ho,by simpa[go_sem] using I.n0⟩
    |true =>
    generalize bg:(F0++if sn=nm then [⟨1,zJ x k⟩] else [])=F1 at *
    have ds:(zJ x k).length<=100:=by
     obtain⟨u0,u1⟩:=hM.gsc.sum (k+1);obtain⟨v0,v1⟩:=hM.gsc.sum k;rw[uV _ _ be]at u1;unfold zJ;rw[zT,List.length_range,uU be];omega
    simp[go_sem,wL,I.e5,I.e13,I.gc,cj];refine cA (SInv x nm sn true k L (L+1) F1) ⟨by simp[go_sem,I.e0],by simp[go_sem,I.e5],by simp[go_sem,I.e6],by simp[go_sem,I.e13],by simp[go_sem,I.e14],by simp[go_sem,I.e65],by simp[go_sem,I.e66],by simp[go_sem,I.e67],I.g0,I.gc,I.gd,I.ho,I.n0,I.nc,I.nd⟩ fun st2 h2=>?_
    refine BrS.join (SInv x nm sn true k L (L+1) (F1++if sn++jj=nm then [⟨1,(zJ x k).take 1⟩] else [])) ?_ ?_ ?_
    .intro C
     have C:=of_decide_eq_true C;have C:sn++jj=nm:=by rw[C];rfl
     rw[if_pos C];obtain⟨m,cp,cq,cr⟩:∃ m:Nat,(if ((zJ x k).length:Int)<1 then ((zJ x k).length:Int) else 1)=m/\m<=(zJ x k).length/\(zJ x k).take m=(zJ x k).take 1:=by
      by_cases hz:(zJ x k).length=0
      .exact ⟨0,by rw[if_pos zOm,hz],zOm,by rw[List.length_eq_zero_iff.1 hz];rfl⟩
      .exact ⟨1,zIn,zOm,rfl⟩
     have cs:WKs [.lst false (((zJ x k).map rI).take m)] [lI ((zJ x k).take 1)] := .cons (by rw[<-List.map_take,cr];exact .hf (zh _)) .nil;simp[go_sem,h2.e14,h2.gd,cp,cq];refine⟨⟨_,_,⟨rfl,rfl⟩,(yC _).ok⟩,?_⟩;refine tS (clipI ((zJ x k).take 1)) cs ?_;generalize (zJ x k).take 1=T1 at *
     simp[go_sem];refine h2.app zSi zSi zOm ⟨1,T1⟩ (by simp[qE]) fun t a3 R b1 b2=>?_
     simp[go_sem];refine aA ?_;exact⟨by simp[go_sem,h2.e0],by simp[go_sem,h2.e5],by simp[go_sem,h2.e6],by simp[go_sem,h2.e13],by simp[go_sem,h2.e14],by simp[go_sem,h2.e65],by simp[go_sem,h2.e66],by simp[go_sem,h2.e67],R.g0,b1,b2,R.ho,R.n0,R.nc,R.nd⟩
    .intro C
     have C:=of_decide_eq_false C;have C:¬sn++jj=nm:=fun e=>C (by rw[<-e];rfl)
     rw[if_neg C,zO];simp[go_sem];exact aA h2
    intro st3 h3;have e2:(F1++if sn++jj=nm then [(⟨1,(zJ x k).take 1⟩:Rl)] else []).length<=20:=by rw[zd];split<;>simp only[zG,List.length_nil]<;>omega
    have a4:F++jd x nm 0 (x.ts.sS.take (k+1))=(F1++if sn++jj=nm then [⟨1,(zJ x k).take 1⟩] else [])++(if sn++vj=nm then [⟨2,Qx x k⟩] else []):=by
     rw[aq,<-bg];simp[Zz]
    generalize (F1++if sn++jj=nm then [⟨1,(zJ x k).take 1⟩] else [])=F2 at *
    simp[go_sem,wL,h3.e5,h3.e13,h3.gc,ck];refine cA (SInv x nm sn true k L (L+1) F2) ⟨by simp[go_sem,h3.e0],by simp[go_sem,h3.e5],by simp[go_sem,h3.e6],by simp[go_sem,h3.e13],by simp[go_sem,h3.e14],by simp[go_sem,h3.e65],by simp[go_sem,h3.e66],by simp[go_sem,h3.e67],h3.g0,h3.gc,h3.gd,h3.ho,h3.n0,h3.nc,h3.nd⟩ fun a6 U=>?_
    refine cZ ?_ ?_
    .intro C
     have C:=of_decide_eq_true C;have C:sn++vj=nm:=by rw[C];rfl
     rw[if_pos C]at a4;have gl:=(qk.1 U.gd).1;have hA:∀(z:List Cell)(i:Nat),i<a6.mu.length->(a6.mu++z)[i]?=a6.mu[i]?:=fun z i hi=>qN hi
     obtain⟨A,a7⟩:∃ A,A=a6.mu:=⟨_,rfl⟩;rw[<-a7]at hA gl;have b3:∀ z:List Cell,(A++z)[L+1]?=some (.arr [aI 1,lI (zJ x k)]):=fun z=>by rw[hA z _ gl,a7];exact U.gd
     have ct:∀(c:Cell)(z:List Cell),(A++c :: z)[A.length]?=some c:=fun c z=>by rw[zM (qr _)];simp
     have cu:∀(c d:Cell)(z:List Cell),(A++c :: z).set A.length d=A++d :: z:=fun c d z=>by rw[List.set_append_right _ _ (qr _)];simp
     have cv:∀ b,qp (a6.tm 9)=some b->b<A.length:=fun b hb=>by rw[a7];exact Own.lt U.ho hb
     have bh:∀ j,j<(zJ x k).length-1->∃ u v:Int,(zJ x k)[j]?=some u/\(zJ x k)[j+1]?=some v/\(0<=u/\u<x.n)/\(0<=v/\v<x.n)/\(Qx x k)[j]?=some (u*x.n+v):=by
      intro j hj;obtain⟨a0,a1,a2⟩:=hM.at0 k P;have e3:(zJ x k).length=(gI x.m.sc.sC k).toNat:=by simp[zJ]
      refine⟨sumI (x.m.sc.sC.take k)+j,sumI (x.m.sc.sC.take k)+((j+1:Nat):Int),?_,?_,⟨zOm,zOm⟩,⟨zOm,zOm⟩,?_⟩
      .rw [zJ,zn,Qc zOm];rfl
      .rw [zJ,zn,Qc zOm];rfl
      .rw [Qx,zn,Qc zOm]
       simp only[zq,qv];congr 1;omega
     have e7:(Qx x k).length=(zJ x k).length-1:=by simp[Qx,zJ]
     generalize e8:zJ x k=al at *
     generalize e9:Qx x k=nx at *
     simp[go_sem,<-a7];refine fB (al.length-1) (fun j=>Keep (fun T=>∃ t o,T.mu=A++(.arr [aI 2,t] :: o)/\OwnI T.mu t (nx.take j)/\(∀ b,qp t=some b->A.length<b)/\T.tm 0=eMa x/\T.tm 5 = .ip [aS nm]/\T.tm 6 = .ptr 0 0/\T.tm 9=a6.tm 9/\T.tm 14 = .ptr (L+1) 0/\T.tm 15 = .ptr A.length 0/\T.tm 16=aI ((j:Int)+1)/\T.tm 65=lSo x.ts.sS/\T.tm 66=aI x.ts.sS.length/\T.tm 67=aI k) .mk) ?_ ?_
     .exact aA ⟨.lst true [],[],zSi,.inl ⟨rfl,zSp⟩,by simp[qp],by simp[go_sem,U.e0],by simp[go_sem,U.e5],by simp[go_sem,U.e6],zSi,by simp[go_sem,U.e14],zSi,zSi,by simp[go_sem,U.e65],by simp[go_sem,U.e66],by simp[go_sem,U.e67]⟩
     rintro j ea hj ⟨t,o,ak,ad,b4,i0,i5,i6,i9,an,b5,i16,bi,bj,bk⟩;by_cases a8:j<al.length-1
     .have hc:(j:Int)+1<al.length:=by omega
      obtain⟨u,v,hu,hv,cw,cx,cy⟩:=bh j a8;obtain⟨cz,da⟩:=qk.1 hu;obtain⟨db,dc⟩:=qk.1 hv;obtain⟨dd,de⟩:=qk.1 cy;have wj:qq.wrap (j:Int)=j:=zWr;have df:qq.wrap ((j:Int)+1+1)=(j:Int)+1+1:=zWr;have aa:=rankU x.m.sc hM.gsc [u,v] zSp (fun d C=>by
       rcases qy.1 C with rfl|C
       .exact cw
       .rw [qV]at C;subst C;exact cx)
      have dh:uD (sumI x.m.sc.sC) [u,v]=u*x.n+v:=by simp[uD,Mo.n]
      rw[dh]at aa;have di:WKs [eSc x.m.sc,.lst true [[aI u],[aI v]]] [eSc x.m.sc,lI [u,v]] := .zk (zA _) (.cons (cP [u,v]) .nil);simp[go_sem,an,i16,ak,b3,hc];refine fD [0,1,2,3,4,5,6,7,8,9,10,11,12,13,14,15,16,17,18,22,19,20,21,23] [(0,0,[]),(1,0,[]),(2,0,[]),(3,0,[]),(4,0,[]),(5,0,[]),(6,0,[]),(7,0,[]),(8,0,[]),(9,0,[]),(10,0,[]),(11,0,[]),(12,0,[]),(13,0,[]),(14,0,[]),(15,0,[]),(16,0,[]),(17,0,[]),(18,0,[]),(22,0,[]),(19,1,[1]),(20,0,[]),(21,1,[]),(23,1,[])] zKr zKr zSi ?_;simp[go_sem,i0,an,b5,i16,b3,hc,wj,cz,da,db,dc,show (0:Int)<=(j:Int)+1 by omega];refine fR aa di ?_;rw[ak]at ad;refine aM (e:=3) (bt:=8) (z:=0) (l:=nx.take j) zSi zSi zSi zOm ad.v zSo ?_;intro ah a3 ab ax cd b9;have bm:A.length<(A++(.arr [aI 2,t] :: o)).length:=zSp;have dj:a3=A++(.arr [aI 2,t] :: a3.drop (A.length+1)):=by
       apply jS;intro i;by_cases hi:i<A.length
       .rw [qN hi,ax i zOm (fun e=>zW1 (b4 i e)),qN hi]
       .rw [zM zOm]
        by_cases dk:i=A.length
        .subst dk
         rw[ax _ bm (fun e=>zW1 (b4 _ e)),zM (qr _)];simp
        .obtain ⟨q,hq⟩:∃ q,i-A.length=q+1:=⟨i-A.length-1,zOm⟩
         rw[hq,v6,List.getElem?_drop];congr 1;omega
      have au:∀ b,qp ah=some b->A.length<b:=fun b hb=>zW1 (b9 b hb)
      rw[dj]at ab ⊢;generalize a3.drop (A.length+1)=b6 at *
      simp[go_sem,i16,cu,ab.v.one,ab.v.cells,df];refine⟨a8,aA ⟨ah,b6,zSi,?_,au,zS1 i0,zS1 i5,zS1 i6,zS1 i9,zS1 an,zS1 b5,zSi,zS1 bi,zS1 bj,zS1 bk⟩⟩;simp only[qC];rw[yv dd,de];refine ab.same fun b hb=>?_
      have:=au b hb;rw[zM zOm,zM zOm];obtain⟨q,hq⟩:∃ q,b-A.length=q+1:=⟨b-A.length-1,zOm⟩;rw[hq,v6,v6]
     .have ai:j=al.length-1:=by omega
      have hc:¬(j:Int)+1<al.length:=zOm;rw[z6 zOm]at ad;simp[go_sem,an,i16,ak,b3,hc];have dm:(A++(.arr [aI 2,t] :: o))[A.length]?=some (.arr [aI 2,t]):=ct _ _;rw[ak]at ad;generalize dn:A++(.arr [aI 2,t] :: o)=MM at *
      have ae:∀ i,A.length<=i->(cutM (fun j=>decide (A.length<=j)) MM 0)[i]?=MM[i]?:=fun i hi=>by
       rw[jL,yj];cases MM[i]?<;>simp[hi]
      have aw:∀ i,i<A.length->(cutM (fun j=>!decide (A.length<=j)) MM 0)[i]?=A[i]?:=fun i hi=>by
       rw[jL,yj,<-dn,qN hi];cases A[i]?<;>simp<;>omega
      have dp:0<A.length:=zOm;have bn:FndM (cutM (fun j=>!decide (A.length<=j)) MM 0) (a6.tm 9) F2:=by
       refine⟨by rw[aw 0 dp,a7];exact U.g0,?_,U.n0⟩;rcases U.ho with h|⟨b,h,dq⟩
       .exact .inl h
       .refine .inr ⟨b,h,?_⟩
        rw[aw b (cv b (by rw[h];rfl)),a7];exact dq
      refine cK (d:=15) (L:=A.length) (x := .ip (cRel ⟨2,nx⟩)) ?_ ?_
      .simp only[qC,nQ,b5]
       refine .ptr A.length 0 [aI 2,t] _ (by rw[ae _ (qr _)];exact dm) zSp fun k u v hu hv=>?_
       match k with
       | 0=>simp at hu hv;subst hu;subst hv;exact .zsc _
       | 1 =>
        simp at hu hv;subst hu;subst hv;exact(ad.v.same fun b hb=>ae b (zW1 (b4 b hb))).rd
       |k+2=>simp at hv
      .simp [go_sem,i9]
       refine appR (F:=F2) zSi zSi bn zOm ⟨2,nx⟩ (by simp[qE]) fun eb ec bo=>?_
       rw[<-a4]at bo;obtain⟨z0,z1,z2⟩:=bo;simp[go_sem,bk,w1,P];exact aA ⟨zS1 i0,zS1 i5,zS1 i6,zS1 bi,zS1 bj,zSi,z0,z1,z2⟩
    .intro C
     have C:=of_decide_eq_false C;have C:¬sn++vj=nm:=fun e=>C (by rw[<-e];rfl)
     rw[if_neg C,zO]at a4;rw[<-a4]at U;simp[go_sem,U.e67,w1,P];exact aA ⟨by simp[go_sem,U.e0],by simp[go_sem,U.e5],by simp[go_sem,U.e6],by simp[go_sem,U.e65],by simp[go_sem,U.e66],zSi,by simpa[go_sem] using U.g0,by simpa[go_sem] using U.ho,by simpa[go_sem] using U.n0⟩
   .have ai:k=x.ts.sS.length:=by omega
    subst ai;rw[qO]at ho;generalize F++jd x nm 0 x.ts.sS=F0 at *
    simp[go_sem,ay,az];refine FzQ.ownB (d:=9) (sz:=2) (av:=T.tm 9) (xs:=F0.map cRel) zSi ho (vQ _) (fun r hr c hc=>by obtain⟨q,_,rfl⟩:=qn.1 hr;exact ZZ q c hc) fun a3 full hl hs=>?_
    have aj:a3[0]?=some (.arr [aI 0,.lst true []]):=(hs 0 hn).trans g0;have bq:∀ c,(a3.set 0 c)[0]?=some c:=fun c=>qL (qk.1 aj).1
    match F0,hE with
    | [],hE =>
     simp only[Z7]at hE;subst hE;simp[go_sem];refine kL (wI 40) (wkI 40) ?_;simp[go_sem];exact .hf _ (qQ _)
    | [r],hE =>
     simp only[Z7]at hE;subst hE;simp[go_sem,e6,aj,bq];exact .hf _ (qY r)
    |r :: s :: F1,hE =>
     have dr:¬(F1.length:Int)+1+1=0:=zOm;have br:¬(F1.length:Int)+1+1=1:=zOm;simp only[Z7]at hE;subst hE;simp[go_sem,dr,br];refine kL (wI 44) (wkI 44) ?_;simp[go_sem];exact .hf _ (qQ _)
 .rintro e M ⟨rfl,a,o,h2,rfl⟩
  rw[h2]at hE;simp only at hE;subst hE;simp[go_sem];refine .agg _ _ rfl fun k u v hu hv=>?_
  match k with
  | 0=>simp at hu hv;subst hu;subst hv;exact .zsc _
  | 1=>simp at hu hv;subst hu;subst hv;exact .wk _ true _ (.hf _ (HF.lst fun r hr c hc=>by simp at hr;subst hr;simp at hc;subst hc;exact HF.sc _))
  |k+2=>simp at hu
end
end F6
namespace F7
open Y1 P2 E1 E3 EA EO EP EQ ET F1 F2 F3 F4 F5 F6
theorem yz(a b v es i):zw qe 3 (.sc (.int .i64 a)) ((.sc (.int .i64 b),v) :: es) i=if a=b then some (some i) else zw qe 3 (.sc (.int .i64 a)) es (i+1):=by
 have h:jU qe 3 (.sc (.int .i64 a)) (.sc (.int .i64 b))=some (decide (a=b)):=keyI.eq a b trivial trivial
 grind [zw]
def RelN(mu:Mu)(g:Int)(l:List Int):Prop:=∃ t,mu[0]?=some (.arr [aI 0,.lst true []])/\mu[2]?=some (.arr [aI g,t])/\OwnI mu t l/\qp t≠some 0/\qp t≠some 2
theorem RelN.step{mu mu':Mu}{j av g l}(I:mu[0]?=some (.arr [aI 0,.lst true []]))(o:mu[2]?=some (.arr [aI j,av]))(J:qp av≠some 0)(P:qp av≠some 2)(p:OwnI mu' g l)
  (R:∀ i,i<mu.length->qp av≠some i->mu'[i]?=mu[i]?) (T:mu.length<=mu'.length) (U:∀ b,qp g=some b->b=mu.length):mu'[2]?=some (.arr [aI j,av])/\RelN (mu'.set 2 (.arr [aI j,g])) j l:=by
 have l1:2<mu.length:=(qk.1 o).1;have r:qp g≠some 0:=fun e=>by grind
 have t:qp g≠some 2:=fun e=>by grind
 refine⟨by grind,g,by grind,by grind,p.same fun b C=>?_,r,t⟩
 grind
theorem uE{f:Nat}{l A E}(h:qZ qe f l (endE A))(e:A=E):qZ qe f l (endE E):=e ▸ h
theorem exprX(x N n)(J:WfN n)(C:OkMa x N)(P:IH x N n)(p)(I:OkP x N p)(R:bd p n) :
  qZ qe 125 [eMa x,ePl p,eNd n] (endE ((den x n).E p)):=by
 refine zl.of_sound ?_;refine qSW call125 func125 rfl {} ?_;have ab:=yc x;have o:=wk3 x p n;rw[vT];simp only[opD];generalize i:opE x n.op n.name n.n (n.sD.map (den x)) p=E;unfold opE at i;by_cases o6:n.op=6
 .obtain ⟨a,b,l⟩:=jB J zOm
  have g:=qm7 x N n a b C l P p I R;rw[o6,l]at i;replace g:=uE g i;cases E with
  |error e =>
   simp[go_sem,o6,yz];refine kL g o ?_;simp[go_sem];exact .hf _ (qQ _)
  |ok r =>
   simp[go_sem,o6,yz];refine fR g.toP o ?_;exact .hf _ (qY _)
 by_cases o7:n.op=7
 .obtain ⟨a,b,l⟩:=jB J zOm
  have g:=qm8 x N n a b C l P p I R;rw[o7,l]at i;replace g:=uE g i;cases E with
  |error e =>
   simp[go_sem,o7,yz];refine kL g o ?_;simp[go_sem];exact .hf _ (qQ _)
  |ok r =>
   simp[go_sem,o7,yz];refine fR g.toP o ?_;exact .hf _ (qY _)
 by_cases o8:n.op=8
 .obtain ⟨a,b,l⟩:=jB J zOm
  have g:=diffX x N n a b C l P p I R;rw[o8,l]at i;replace g:=uE g i;cases E with
  |error e =>
   simp[go_sem,o8,yz];refine kL g o ?_;simp[go_sem];exact .hf _ (qQ _)
  |ok r =>
   simp[go_sem,o8,yz];refine fR g.toP o ?_;exact .hf _ (qY _)
 by_cases U:n.op=14
 .obtain ⟨a,b,l⟩:=jB J zOm
  have g:=overX x N n a b C l P p I R;rw[U,l]at i;replace g:=uE g i;cases E with
  |error e =>
   simp[go_sem,U,yz];refine kL g o ?_;simp[go_sem];exact .hf _ (qQ _)
  |ok r =>
   simp[go_sem,U,yz];refine fR g.toP o ?_;exact .hf _ (qY _)
 by_cases o9:n.op=9
 .obtain ⟨a,b,l⟩:=jB J zOm
  have g:=joinX x N n a b C l P p I R;rw[o9,l]at i;replace g:=uE g i;cases E with
  |error e =>
   simp[go_sem,o9,yz];refine kL g o ?_;simp[go_sem];exact .hf _ (qQ _)
  |ok r =>
   simp[go_sem,o9,yz];refine fR g.toP o ?_;exact .hf _ (qY _)
 by_cases a0:n.op=10
 .obtain ⟨a,b,l⟩:=jB J zOm
  have g:=qm9 x N n a b C l P p I R;rw[a0,l]at i;replace g:=uE g i;cases E with
  |error e =>
   simp[go_sem,a0,yz];refine kL g o ?_;simp[go_sem];exact .hf _ (qQ _)
  |ok r =>
   simp[go_sem,a0,yz];refine fR g.toP o ?_;exact .hf _ (qY _)
 by_cases a1:n.op=11
 .obtain ⟨a,l⟩:=um J zOm
  have g:=qnB x N n a C l P p I R;rw[a1,l]at i;replace g:=uE g i;cases E with
  |error e =>
   simp[go_sem,a1,yz];refine kL g o ?_;simp[go_sem];exact .hf _ (qQ _)
  |ok r =>
   simp[go_sem,a1,yz];refine fR g.toP o ?_;exact .hf _ (qY _)
 by_cases a2:n.op=12
 .obtain ⟨a,l⟩:=um J zOm
  have g:=qbF x N n a C l P p I R;rw[a2,l]at i;replace g:=uE g i;cases E with
  |error e =>
   simp[go_sem,a2,yz];refine kL g o ?_;simp[go_sem];exact .hf _ (qQ _)
  |ok r =>
   simp[go_sem,a2,yz];refine fR g.toP o ?_;exact .hf _ (qY _)
 by_cases a3:n.op=13
 .obtain ⟨a,l⟩:=um J zOm
  have g:=qnC x N n a C l P p I R;rw[a3,l]at i;replace g:=uE g i;cases E with
  |error e =>
   simp[go_sem,a3,yz];refine kL g o ?_;simp[go_sem];exact .hf _ (qQ _)
  |ok r =>
   simp[go_sem,a3,yz];refine fR g.toP o ?_;exact .hf _ (qY _)
 by_cases o5:n.op=5
 .obtain ⟨a,l⟩:=um J zOm
  have g:=qnA x N n a C l P p I R;rw[o5,l]at i;replace g:=uE g i;cases E with
  |error e =>
   simp[go_sem,o5,yz];refine kL g o ?_;simp[go_sem];exact .hf _ (qQ _)
  |ok r =>
   simp[go_sem,o5,yz];refine fR g.toP o ?_;exact .hf _ (qY _)
 by_cases a4:n.op=15
 .obtain ⟨a,b,l⟩:=jB J zOm
  have g:=qnP x N n a b C l P p I R;rw[a4,l]at i;replace g:=uE g i;cases E with
  |error e =>
   simp[go_sem,a4,yz];refine kL g o ?_;simp[go_sem];exact .hf _ (qQ _)
  |ok r =>
   simp[go_sem,a4,yz];refine fR g.toP o ?_;exact .hf _ (qY _)
 by_cases o1:n.op=1
 .have g:=qnX x N C n.name p I zOm
  have wn:WKs [eMa x,ePl p,aS n.name] [eMa x,ePl p,aS n.name] := .zk ab (.zk (UO p) (.zs .nil));rw[o1]at i;replace g:=uE g i;cases E with
  |error e =>
   simp[go_sem,o1,yz];refine kL g wn ?_;simp[go_sem];exact .hf _ (qQ _)
  |ok r =>
   simp[go_sem,o1,yz];refine fR g.toP wn ?_;exact .hf _ (qY _)
 by_cases o2:n.op=2
 .rw [o2]at i
  replace i:Except.ok ⟨n.n,[]⟩=E:=i;subst i;simp[go_sem,o2,yz];exact YT
 by_cases o3:n.op=3
 .rw [o3]at i
  replace i:Except.ok ⟨1,(qu x.n.toNat).map fun k:Nat=>(k:Int)⟩=E:=i;subst i;have h0:=C.n0;have ad:=C.n12;obtain⟨m,hm⟩:=Int.eq_ofNat_of_zero_le h0;simp[go_sem,o3,yz];rw[hm]at ad;refine aK m (fun k T=>T.tm 6 = .ptr 0 0/\T.tm 10 = .ptr 2 0/\T.tm 47=aI m/\T.tm 48=aI k/\RelN T.mu 1 ((qu k).map fun k:Nat=>(k:Int))) ?_ ?_
  .exact ⟨zSi,zSi,zS1 hm,zSi,.lst true [],zSi,zSi,.inl ⟨rfl,rfl⟩,by simp[qp],by simp[qp]⟩
  rintro k T l ⟨e6,a5,a6,a7,t,g0,g2,ho,n0,n2⟩;by_cases a9:k<m
  .have w1:=zWk k
   simp[go_sem,a5,a6,a7,a9,g2];refine aM (e:=3) (bt:=8) (z:=0) zSi zSi zSi zOm ho.v zSo ?_;intro ai j a8 ae af ag;obtain⟨k1,k2⟩:=RelN.step g0 g2 n0 n2 a8 ae af ag;simp[go_sem,a5,a7,a9,k1,a8.v.one,a8.v.cells,w1];refine aA ⟨zS1 e6,zS1 a5,zS1 a6,zSi,?_⟩;rw[List.range_succ,ze];exact k2
  .have ah:k=m:=by omega
   subst ah;have aa:∀ c,(T.mu.set 0 c)[0]?=some c:=fun c=>qL (qk.1 g0).1
   rw[hm];simp[go_sem,e6,a5,a6,a7,g0,g2,aa,ho.v.one];refine aG (ho.v.same fun b hb=>?_);rw[yJ (fun e=>n0 (by rw[e];exact hb))]
 by_cases o4:n.op=4
 .rw [o4]at i
  replace i:Except.ok (idR x.n)=E:=i;subst i;simp[go_sem,o4,yz];refine fR (qbG x.n C.n0 C.n12) (.zs .nil) ?_;exact .hf _ (qY _)
 have i:Except.error 43=E:=by
  rw[<-i];rw[if_neg o1,if_neg o2,if_neg o3,if_neg o4,if_neg o5,if_neg o6,if_neg o7,if_neg o8,if_neg o9,if_neg a0,if_neg a1,if_neg a2,if_neg a3,if_neg U,if_neg a4]
 subst i;simp[go_sem,o1,o2,o3,o4,o5,o6,o7,o8,o9,a0,a1,a2,a3,U,a4,yz];refine kL (wI 43) (wkI 43) ?_;simp[go_sem];exact .hf _ (qQ _)
end F7
namespace F8
open Y1 P2 E1 E3 EA ER EY F1 F2 F3
theorem f30(x N n)(j:WfN n)(l:OkMa x N)(o:IH x N n)(p)(r:OkP x N p)(t:bd p n)(g:n.op=30):qZ qe 78 [eMa x,ePl p,eNd n] (endB (Except.ok true)):=by
 refine zl.of_sound ?_;refine qSW call78 func78 rfl {} ?_;have i:=yc x;simp[go_sem,g];exact .zsc _
theorem f31(x N n)(j:WfN n)(l:OkMa x N)(o:IH x N n)(p)(r:OkP x N p)(t:bd p n)(g:n.op=31):qZ qe 78 [eMa x,ePl p,eNd n] (endB (Except.ok false)):=by
 refine zl.of_sound ?_;refine qSW call78 func78 rfl {} ?_;have i:=yc x;simp[go_sem,g];exact .zsc _
theorem f32(x N n a b)(i:OkMa x N)(l:n.sD=[a,b])(o:IH x N n)(p)(t:OkP x N p)(T:bd p n)(C:n.op=32):qZ qe 78 [eMa x,ePl p,eNd n] (endB ((bX (yn [den x a,den x b] p) fun q => .ok (decide ((diR q.1 q.2).ts=[]))))):=by
 refine zl.of_sound ?_;refine qSW call78 func78 rfl {} ?_;have U:=yc x;have J:=wk3 x p n;generalize g:(bX (yn [den x a,den x b] p) fun q => .ok (decide ((diR q.1 q.2).ts=[])))=E;have j:=Jf x N n a b l o p t T;simp[go_sem,C];cases I:yn [den x a,den x b] p with
 |error e =>
  rw[I]at j g;subst g;refine kL j J ?_;simp[go_sem,zL];exact .hf _ (qQ _)
 |ok q =>
  obtain⟨r,s⟩:=q;obtain⟨P,R,h3⟩:=wP I;simp only[kD,uL,List.getD_cons_succ]at P R;have gr:=(o a (by rw[l];simp) p t zOm).G _ P;have gs:=(o b (by rw[l];simp) p t zOm).G _ R;have lr:=gr.len i.n0 (aL i);have ls:=gs.len i.n0 (aL i);rw[I]at j g;rw[zr]at g;subst g;refine fR j.toP J ?_;refine fR (inU r s zOm zOm) (wkR2 r s) ?_;exact .zsc _
theorem f33(x N n a b)(i:OkMa x N)(l:n.sD=[a,b])(o:IH x N n)(p)(t:OkP x N p)(T:bd p n)(C:n.op=33):qZ qe 78 [eMa x,ePl p,eNd n] (endB ((bX (yn [den x a,den x b] p) fun q => .ok (decide (q.1=q.2))))):=by
 refine zl.of_sound ?_;refine qSW call78 func78 rfl {} ?_;have U:=yc x;have J:=wk3 x p n;generalize g:(bX (yn [den x a,den x b] p) fun q => .ok (decide (q.1=q.2)))=E;have j:=Jf x N n a b l o p t T;simp[go_sem,C];cases I:yn [den x a,den x b] p with
 |error e =>
  rw[I]at j g;subst g;refine kL j J ?_;simp[go_sem,zL];exact .hf _ (qQ _)
 |ok q =>
  obtain⟨r,s⟩:=q;obtain⟨P,R,h3⟩:=wP I;simp only[kD,uL,List.getD_cons_succ]at P R;have gr:=(o a (by rw[l];simp) p t zOm).G _ P;have gs:=(o b (by rw[l];simp) p t zOm).G _ R;have lr:=gr.len i.n0 (aL i);have ls:=gs.len i.n0 (aL i);rw[I]at j g;rw[zr]at g;subst g;refine fR j.toP J ?_;refine fR (E4.Ka r s zOm) (wkR2 r s) ?_;exact .zsc _
theorem f34(x N n a)(hM:OkMa x N)(t:n.sD=[a])(J:IH x N n)(p)(P:OkP x N p)(hq:bd p n)(g)(T:n.op=34/\g=(fun k=>decide (0<k))\/n.op=35/\g=(fun k=>decide (k=0))\/n.op=36/\g=(fun k=>decide (k=1))\/n.op=37/\g=fun k=>decide (k<=1)):qZ qe 78 [eMa x,ePl p,eNd n] (endB ((bX ((den x a).E p) fun a => .ok (g a.ts.length)))):=by
 rcases T with ⟨o,rfl⟩|⟨o,rfl⟩|⟨o,rfl⟩|⟨o,rfl⟩
 all_goals
  refine zl.of_sound ?_;refine qSW call78 func78 rfl {} ?_;have U:=yc x;have wx:=wk3 x p n;generalize i:bX ((den x a).E p) _=E;have j:=(J a (by rw[t];simp) p P zOm).E;have C:=wk3 x p a;simp[go_sem,o];refine fD [0,1,2,3,4,5,6,7,8,9] [(0,0,[]),(1,0,[]),(2,0,[]),(3,0,[]),(4,0,[]),(5,0,[]),(6,1,[]),(7,0,[]),(8,0,[]),(9,0,[])] zKr zKr zSi ?_;simp[go_sem,t];cases I:(den x a).E p with
  |error e =>
   rw[I]at j i;subst i;refine kL j C ?_;simp[go_sem,zL];exact .hf _ (qQ _)
  |ok r =>
   rw[I]at j i;rw[zr]at i;subst i;refine tS j.toP C ?_;obtain⟨ar,R⟩:=r;rcases R with _|⟨y,_|⟨z,l⟩⟩
   .simp [go_sem,o]
    exact .zsc _
   .simp [go_sem,o]
    exact .zsc _
   .have h1:(0:Int)<l.length+1+1:=by omega
    have h2:¬(l.length:Int)+1+1=1:=zOm;have h3:¬(l.length:Int)+1+1<=1:=zOm;have h4:¬(l.length:Int)+1+1=0:=zOm;simp[go_sem,o,h1,h2,h3,h4];exact .zsc _
theorem f38(x N n a b)(hM:OkMa x N)(j:n.sD=[a,b])(C:IH x N n)(p)(I:OkP x N p)(hq:bd p n)(g)(U:n.op=38/\g=(fun a b=>decide (a=b))\/n.op=39/\g=fun a b=>decide (a<b)):qZ qe 78 [eMa x,ePl p,eNd n] (endB ((bX ((den x a).N p) fun a=>bX ((den x b).N p) fun b => .ok (g a b)))):=by
 rcases U with ⟨o,rfl⟩|⟨o,rfl⟩
 all_goals
  refine zl.of_sound ?_;refine qSW call78 func78 rfl {} ?_;have a0:=yc x;have wx:=wk3 x p n;generalize i:bX ((den x a).N p) _=E;have l:=(C a (by rw[j];simp) p I zOm).N;have t:=(C b (by rw[j];simp) p I zOm).N;have J:=wk3 x p a;have P:=wk3 x p b;simp[go_sem,o];refine fD [0,1,2,3,4,5,7,8,9,10,11,12,6,13,14,15] [(0,0,[]),(1,0,[]),(2,0,[]),(3,0,[]),(4,0,[]),(5,0,[]),(7,0,[]),(8,0,[]),(9,0,[]),(10,0,[]),(11,0,[]),(12,0,[]),(6,1,[8,10,12]),(13,1,[]),(14,0,[]),(15,0,[])] zKr zKr zSi ?_;simp[go_sem,j];cases R:(den x a).N p with
  |error e =>
   rw[R]at l i;subst i;refine kL l J ?_;simp[go_sem,zL];exact .hf _ (qQ _)
  |ok r =>
   rw[R]at l i;rw[zr]at i;refine tS l.toP J ?_;simp[go_sem,j];cases T:(den x b).N p with
   |error e =>
    rw[T]at t i;subst i;refine kL t P ?_;simp[go_sem,zL];exact .hf _ (qQ _)
   |ok s =>
    rw[T]at t i;rw[zr]at i;subst i;refine fR t.toP P ?_;exact .zsc _
theorem f40(x N n a)(P:OkMa x N)(l:n.sD=[a])(C:IH x N n)(p)(I:OkP x N p)(R:bd p n)(j:n.op=40):qZ qe 78 [eMa x,ePl p,eNd n] (endB ((bX ((den x a).F p) fun a => .ok (!a)))):=by
 refine zl.of_sound ?_;refine qSW call78 func78 rfl {} ?_;have J:=yc x;have T:=wk3 x p n;generalize g:(bX ((den x a).F p) fun a => .ok (!a))=E;have i:=(C a (by rw[l];simp) p I zOm).F;have o:=wk3 x p a;simp[go_sem,j];refine fD [0,1,2,3,4,5,6,7,8] [(0,0,[]),(1,0,[]),(2,0,[]),(3,0,[]),(4,0,[]),(5,0,[]),(6,1,[]),(7,0,[]),(8,0,[])] zKr zKr zSi ?_;simp[go_sem,l];cases t:(den x a).F p with
 |error e =>
  rw[t]at i g;subst g;refine kL i o ?_;simp[go_sem,zL];exact .hf _ (qQ _)
 |ok r =>
  rw[t]at i g;rw[zr]at g;subst g;refine fR i.toP o ?_;exact .zsc _
theorem f41(x N n a b)(hM:OkMa x N)(j:n.sD=[a,b])(C:IH x N n)(p)(I:OkP x N p)(hq:bd p n)(g)(U:n.op=41/\g=(fun a b=>a&&b)\/n.op=42/\g=(fun a b=>a||b)\/n.op=43/\g=(fun a b=>!a||b)\/n.op=44/\g=fun a b=>decide (a=b)):qZ qe 78 [eMa x,ePl p,eNd n] (endB ((bX ((den x a).F p) fun a=>bX ((den x b).F p) fun b => .ok (g a b)))):=by
 rcases U with ⟨o,rfl⟩|⟨o,rfl⟩|⟨o,rfl⟩|⟨o,rfl⟩
 all_goals
  refine zl.of_sound ?_;refine qSW call78 func78 rfl {} ?_;have a0:=yc x;have wx:=wk3 x p n;generalize i:bX ((den x a).F p) _=E;have l:=(C a (by rw[j];simp) p I zOm).F;have t:=(C b (by rw[j];simp) p I zOm).F;have J:=wk3 x p a;have P:=wk3 x p b;simp[go_sem,o];refine fD [0,1,2,3,4,5,7,8,9,10,11,12,6,14,13,15] [(0,0,[]),(1,0,[]),(2,0,[]),(3,0,[]),(4,0,[]),(5,0,[]),(7,0,[]),(8,0,[]),(9,0,[]),(10,0,[]),(11,0,[]),(12,0,[]),(6,1,[8,10,12]),(14,0,[]),(13,1,[]),(15,0,[])] zKr zKr zSi ?_;simp[go_sem,j];cases R:(den x a).F p with
  |error e =>
   rw[R]at l i;subst i;refine kL l J ?_;simp[go_sem,zL];exact .hf _ (qQ _)
  |ok r =>
   rw[R]at l i;rw[zr]at i;refine tS l.toP J ?_;simp[go_sem,j];cases T:(den x b).F p with
   |error e =>
    rw[T]at t i;subst i;refine kL t P ?_;simp[go_sem,zL];exact .hf _ (qQ _)
   |ok s =>
    rw[T]at t i;rw[zr]at i;subst i;refine tS t.toP P ?_;cases r<;>cases s<;>simp[go_sem,o]<;>exact .zsc _
end F8
namespace E8
open E3 E7
theorem qnY{x N}(h:OkX x N){s}(i:s<N){t}(g:t∈x.path s):∃ k,it x k s=t:=by
 obtain⟨r,e,l⟩:=qkF h i;rw[e]at g;obtain⟨j,_,e⟩:=qn.1 g;exact⟨j,e⟩
end E8
namespace EB
open E3
structure uF (d d':Den) (p q:Pl):Prop where
 E:d.E p=d'.E q
 N:d.N p=d'.N q
 F:d.F p=d'.F q
end EB
namespace EK
open E3
theorem K0{I j g}:∀{l:List I}{r:List j},mapX g l = .ok r->r.length=l.length
 | [],r,h=>by cases h;rfl
 |a :: l,r,h=>by
  rw[mapX]at h;cases o:g a with
  |error e=>rw[o]at h;cases h
  |ok b =>
   rw[o,zr]at h;cases i:mapX g l with
   |error e=>rw[i]at h;cases h
   |ok s =>
    rw[i,zr]at h;cases h;rw[zG,zG,K0 i]
end EK
end Go.Proofs.YtipbakanneogpaaGreatDoor
