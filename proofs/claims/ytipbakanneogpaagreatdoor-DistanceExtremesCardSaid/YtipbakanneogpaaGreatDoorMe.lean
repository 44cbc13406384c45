/-
  Own library, part 5: an abstract reading of values and a calculus over it; contracts of functions; plain lemmas.
-/
import Derived.Test.YtipbakanneogpaaGreatDoorMd
set_option linter.unusedVariables false
set_option linter.unusedSimpArgs false
set_option maxRecDepth 100000
open Go renaming Program->qb,TypeId->qc,Oper->zK,undef->qU
open Go.Proofs.Tryz renaming prog->qe
open List renaming getElem?_eq_some_iff->qk,mem_map->qn,getElem_mem->qs,range->qu,mem_cons->qy,getElem?_eq_getElem->qA,not_mem_nil->qH,mem_append->qK,getElem?_set_self->qM,getElem?_append_left->qN,replicate->qO,take_length->qP,mem_singleton->qV,mem_of_getElem?->q8,length_append->za,map_append->zb,mem_cons_of_mem->zc,getElem?_map->zj,mem_cons_self->zl,drop_eq_getElem_cons->zp,append_assoc->zt,length_cons->zu,all_eq_true->zA,length_map->zF,getD_eq_getElem?_getD->zG,getElem?_append_right->zJ,append_nil->zO,take_of_length_le->zV,drop_length->zZ,mem_range->yb,getElem?_set_ne->yF,cons_append->yT,mem_of_mem_take->jD,ext_getElem?->jO,take_append_drop->vF,getElem?_cons_succ->vP,foldl_append->vQ,length_take->vR,getElem?_eq_none->uz,getD_cons_zero->uA,getElem?_toArray->u4,mem_flatMap->wQ,getElem?_range->wR
open Go.IntKind renaming i64->qp
open Nat renaming le_refl->qr,le_trans->zL,zero_add->yf
open Option.some renaming injEq->qv
open Bool renaming and_eq_true->qI
open Option renaming map_some->zo
open Int renaming mul_le_mul->jE
namespace Go.Proofs.YtipbakanneogpaaGreatDoor
open Go Go.Ev Go.Proofs Tryz
namespace Y14
open YF P1 P2 Y1 Y2 Y9 Y10 Y12 Y13
structure YK (ns:Nat) (env:List (tA×Int)):Prop where
 len:env.length<=1000000
 r:∀ p,p∈env->0<=p.2/\p.2<ns
theorem Km{ns env}(h:YK ns env):ScOk ns (yn env):=by
 have:∀(l:List (tA×Int))(s:Scp),(∀ p,p∈l->0<=p.2/\p.2<(ns:Int))->ScOk ns s->ScOk ns (l.foldl (fun s p=>(p.1,kOf [p.2]) :: s) s):=by
  intro l;induction l with
  |nil=>intro s _ i;exact i
  |cons a l t =>
   intro s j i;refine t _ (fun p C=>j p (zc _ C)) fun v g=>?_
   rcases qy.1 g with rfl|g
   .exact ⟨Ki zSp zSp (fun x o=>by rw[qV]at o;subst o;exact j a (zl ..)),rfl⟩
   .exact i v g
 exact this env [] h.r fun v g=>absurd g qH
theorem qlR(c)(l:okCk c)(n)(p:WfN n)(env)(j:YK c.ts.sS.length env) :
  qZ qe 166 [.ip (cNd n),.ip [eCk c],.ip [lPm env]] (if 30<=n.op then (match exam c (yn env) false n with | .ok _ => .ret (.tup []) | .error e => .pan (jU e.1 e.2)) else .pan (jU 43 n.pos)):=by
 refine zi.of_sound ?_;refine qSW call166 func166 rfl {} ?_;have i:=mY c l (szN n) n (qr _) p (yn env) (Km j) false;have g:WKs [eCk c,aSc (yn env),eNd n,aB false] [eCk c,aSc (yn env),eNd n,aB false] := .zk (jB c) (.zk (Qd _) (.zk (qL n) (.zs .nil)));by_cases h:30<=n.op
 .rw [if_pos h]
  simp[go_sem,h];refine fR (zS true 43 n).toP (wkR n true 43) ?_;refine qj.tail 4 zKr ?_;simp[go_sem];refine fR (bindU _ l.ts.ns env j.len j.r) (.zk (um env) .nil) ?_;cases o:exam c (yn env) false n with
  |error e =>
   rw[o]at i;refine fZ i g ?_;simp[go_sem];exact .hf _ (yH _ _)
  |ok k =>
   rw[o]at i;refine fR i.toP g ?_;exact .hf _ (HF.tup zSp)
 .rw [if_neg h]
  simp[go_sem,h];refine fZ (zS false 43 n) (wkR n false 43) ?_;simp[go_sem];exact .hf _ (yH _ _)
theorem qlS(c)(i:okCk c)(n)(P:WfN n)(env)(R:YK c.ts.sS.length env):qi qe 115 [eCk c,lPm env,eNd n] (.agg [aI (jJ c env n).1,aI (jJ c env n).2]):=by
 refine qZ.toP ?_;refine zi.of_sound ?_;refine qSW call115 func115 rfl {} ?_;simp[go_sem];have o:WKs [.ip (cNd n),.ip [eCk c],.ip [lPm env]] [.ip (cNd n),.ip [eCk c],.ip [lPm env]] := .zk (HF.ip (vJ n)) (.zk (HF.ip (by simp;exact jB c)) (.zk (HF.ip (by simp;exact um env)) .nil));have T:=(qlR c i n P env R).toSound ([.arr [aI 0,aI 0]]++[.dead]) o;refine fQ (nu (mu:=[.arr [aI 0,aI 0]]) T ?_) ?_ ?_
 .rintro v m ⟨g,_⟩
  have g:AEnd.pan v=_:=g;split at g
  .split at g
   .exact absurd g zSp
   .cases g;exact⟨_,_,rfl⟩
  .cases g;exact⟨_,_,rfl⟩
 .rintro r m ⟨U,x,⟨l,rfl⟩,⟨J,⟨g,rfl⟩,j⟩|⟨t,p,⟨g,rfl⟩,j⟩⟩
  .have g:AEnd.ret J=_:=g
   cases j;have hf:jJ c env n=(0,0):=by
    unfold jJ dgOf;split at g
    .rename_i h
     rw[if_pos h];split at g
     .rename_i I;first | (rw[I];done)|rfl
     .cases g
    .cases g
   rw[hf];simp[go_sem];exact .hf _ (HF.agg fun c i=>by simp at i;rcases i with rfl|rfl<;>exact HF.sc _)
  .have g:AEnd.pan (jU t p)=_:=g
   cases j;have hf:jJ c env n=(t,p):=by
    unfold jJ dgOf;split at g
    .rename_i h
     rw[if_pos h];split at g
     .cases g
     .rename_i e I;(try rw[I]);cases g;rfl
    .rename_i h
     rw[if_neg h];cases g;rfl
   rw[hf];simp[go_sem];exact .hf _ (HF.agg fun c i=>by simp at i;rcases i with rfl|rfl<;>exact HF.sc _)
 .rintro r m ⟨U,x,⟨l,rfl⟩,⟨J,⟨g,rfl⟩,j⟩|⟨t,p,⟨g,rfl⟩,j⟩⟩<;>cases j
theorem qlT(ts)(h:okTS ts)(i:∀ p,p∈ts.sT->WfN p.body)(n)(j:WfN n)(env)(l:YK ts.sS.length env):qi qe 67 [eTS ts,lPm env,eNd n] (.agg [aI (yi ts env n).1,aI (yi ts env n).2]):=by
 refine qSU call67 func67 rfl ?_;refine fM ?_;refine fR (qk8 ts h (fun p o=>(i p o).small) _ (qr _)) (.zk (zn ts) (.zs .nil)) ?_;refine fR (qlS _ (uQ h (qr _)) n j env l) (.zk (jB _) (.zk (um env) (.zk (qL n) .nil))) ?_;exact .hf _ (HF.agg fun c g=>by simp at g;rcases g with rfl|rfl<;>exact HF.sc _)
end Y14
namespace Y15
section
variable {J:Type}
def repL(g:J->J->Bool)(l:List J):List Bool:=(qu l.length).map fun i=>match l[i]? with|some x=>(l.take i).any fun y=>g x y|none=>false
theorem Qj(g)(l:List J):(repL g l).length=l.length:=by simp[repL]
theorem mZ(g)(l:List J){i}(h):(repL g l)[i]?=some ((l.take i).any fun y=>g l[i] y):=by
 simp[repL,h]
end
end Y15
namespace Y16
open P1 Y1 Y9 Y15
abbrev cDg(d:Dg):List AV:=[aI d.1,aI d.2]
def dups(l:List Bool):List Dg:=(l.filter id).map fun _=>(41,0)
def repB{J:Type}(g:J->J->Bool)(l:List J)(i:Nat):List Bool:=((repL g l).take (i+1)).drop i
def rp(d:Dg):List Dg:=if d.1=0 then [] else [d]
def v6(ts:TS)(i:Nat):List Dg:=match ts.sT[i]? with
 |some p=>dups (repB (fun x y:Pd=>decide (x.name=y.name)) ts.sT i)++(dups (repL (fun x y:tA×Int=>decide (x.1=y.1)) p.params)++rp (jJ (mkCk ts i) p.params p.body))
 |none=>[]
def Qk(ts:TS)(g:List (tA×Nd))(i:Nat):List Dg:=match g[i]? with
 |some f=>dups (repB (fun x y:tA×Nd=>decide (x.1=y.1)) g i)++rp (yi ts [] f.2)
 |none=>[]
def ju(ts:TS):List Dg:=
 dups (repL (fun x y:tA×Bool=>decide (x.1=y.1)) ts.sS)++(dups (repL (fun x y:Fld=>decide (x.name=y.name)&&decide (x.sS=y.sS)) ts.sA) ++
  ((qu ts.sT.length).flatMap (v6 ts)++(qu ts.sP.length).flatMap (Qk ts ts.sP)))
abbrev lDg(l:List Dg):AV := .lst false (l.map cDg)
theorem Ql(l):(dups l).length<=l.length:=by
 grind [dups,zF,List.length_filter_le]
theorem m5(d):(rp d).length<=1:=by unfold rp;split<;>simp
theorem Kn(f:Nat->List Dg)(hf:∀ i,(f i).length<=10):∀ k,((qu k).flatMap f).length<=10*k
 | 0=>zSp
 |k+1=>by
  rw[List.range_succ,List.flatMap_append,za];have:=Kn f hf k;have:=hf k;simp only[List.flatMap_cons,List.flatMap_nil,zO];omega
theorem m6{J}(g)(l:List J)(i):(repB g l i).length<=1:=by
 grind [repB,List.length_drop,vR]
theorem m7{ts}(h:okTS ts)(i):(v6 ts i).length<=10:=by
 unfold v6;split
 .rename_i p g
  have j:=(h.pl p (q8 g)).1
  grind [Ql,repB,decide,m6,repL,Qj,m5]
 .simp
theorem qlU(ts g i):(Qk ts g i).length<=10:=by
 grind [Qk,Ql,repB,decide,m6,m5,yi]
end Y16
namespace YU
open Go.RowKit
end YU
namespace YV
end YV
namespace YW
open P2 Y2 Y3
theorem aH{ns k}(h:okKd ns k)(C:ns<=4):k.ts.length<=64:=by
 have o:∀ t,t∈k.ts->t∈([0,1,2,3]:List Int).flatMap fun a=>([0,1,2,3]:List Int).flatMap fun b=>([0,1,2,3]:List Int).map fun c=>[a,b,c]:=fun t I=>by
  obtain⟨l,rfl,j,i⟩:=h.ts t I;have J:=h.ar.2;have g:∀ x:Int,0<=x->x<ns->x∈([0,1,2,3]:List Int):=fun x p r=>zSo
  match l,j,i with
  | [],j,i=>simp[pad]
  | [a],j,i =>
   have:=g a (i a zSp).1 (i a zSp).2;simp only[wQ,qn];exact⟨a,this,0,zSp,0,zSp,by simp[pad]⟩
  | [a,b],j,i =>
   have p:=g a (i a zSp).1 (i a zSp).2;have r:=g b (i b zSp).1 (i b zSp).2;simp only[wQ,qn];exact⟨a,p,b,r,0,zSp,by simp[pad]⟩
  | [a,b,c],j,i =>
   have p:=g a (i a zSp).1 (i a zSp).2;have r:=g b (i b zSp).1 (i b zSp).2;have P:=g c (i c zSp).1 (i c zSp).2;simp only[wQ,qn];exact⟨a,p,b,r,c,P,by simp[pad]⟩
  |_ :: _ :: _ :: _ :: _,j,i=>simp at j;omega
 have:=List.Nodup.length_le_of_subset h.nd o;simp_all
end YW
namespace YX
open YM YF P1 Y1
structure IV where
 arg:Option Nd
 size:Int
 name:tA
abbrev IEnv:=List (tA×IV)
def aArg:Option Nd->AV
 |some n => .ip (cNd n)
 |none => .sc (.pointer none)
abbrev cIV(v:IV):List AV:=[aArg v.arg,aI v.size,aS v.name]
abbrev eIV(v:IV):AV := .agg (cIV v)
abbrev eEnv(env:IEnv):AV := .ims (encK aS eIV env)
structure ISt where
 last:Int
 sM:Int
abbrev cIn(ts:TS)(tb:Nat)(s:ISt):List AV:=cTS ts++[.mp tb,aI s.last,aI s.sM]
theorem qlV(a):HF (aArg a):=by
 cases a with
 |none=>exact HF.sc _
 |some n=>exact HF.ip (vJ n)
theorem qlW(v):HF (eIV v):=HF.agg fun c g=>by
 simp only[cIV,qy,qH,or_false]at g;rcases g with rfl|rfl|rfl
 .exact qlV _
 .exact HF.sc _
 .exact HF.sc _
theorem m8(op):qi qe 121 [aI op] (aB (decide (op=15\/op=45\/op=46))):=by
 refine qSV call121 func121 rfl ?_;by_cases g:op=15
 .simp [go_sem,g];exact .zsc _
 by_cases i:op=45
 .simp [go_sem,i];exact .zsc _
 by_cases j:op=46
 .simp [go_sem,j];exact .zsc _
 simp[go_sem,g,i,j];exact .zsc _
def nd0:Nd := .mk 0 ⟨#[]⟩ 0 [] 0
abbrev eN0:AV := .agg [aI 0,aS ⟨#[]⟩,aI 0,.lst true [],aI 0]
theorem m9:WK eN0 (eNd nd0):=WK.aggs (.zs (.zs (.zs (.cons (WK.lst fun r g=>absurd g qH) (.zs .nil)))))
def payS(n:Int)(s:ISt):ISt:=⟨s.last,s.sM+n⟩
theorem payU(ts tb s n)(p : -1000000<=s.sM/\s.sM<=1000000)(r:0<=n/\n<=1000000){mu xb}(j:mu[xb]?=some (.arr (cIn ts tb s))) :
  qE qe 117 [.ptr xb 0,aI n] mu fun e m=>m=mu.set xb (.arr (cIn ts tb (payS n s)))/\e=if s.sM+n<=4000 then .ret (.tup []) else .pan (jU 2 0):=by
 refine qSW call117 func117 rfl {} ?_;have o:qp.wrap (s.sM+n)=s.sM+n:=zWr;have g:xb<mu.length:=(qk.1 j).1;have i:∀ c,(mu.set xb c)[xb]?=some c:=fun c=>qM g
 simp[go_sem,j,i,o];by_cases l:s.sM+n<=4000
 .simp [go_sem,l]
  refine fR (zS true 2 nd0).toP (.zs (.zs (.cons m9 .nil))) ?_;rfl
 .simp [go_sem,l]
  refine fZ (zS false 2 nd0) (.zs (.zs (.cons m9 .nil))) ?_;simp[go_sem];exact⟨rfl,rfl⟩
theorem lookE{mu}(env nm):yu qe mu 141 (eEnv env) (aS nm) true=some (match getK nm env with|some v => .tup [eIV v,aB true] | none => .tup [eIV ⟨none,0,⟨#[]⟩⟩,aB false]):=by
 have:=keyS.lookS (et:=207) (t:=141) zSi (mu:=mu) (venc:=eIV) (es:=env) (k:=nm) trivial (fun _ _=>trivial) (z:=eIV ⟨none,0,⟨#[]⟩⟩) (by simp[go_sem,aArg]) true;rw[this];cases getK nm env<;>rfl
def v7(env:IEnv)(n:Nd)(s:ISt):Except Dg ((Nd×Int)×ISt):=
 match getK n.name env with
 |none => .ok ((n,1),s)
 |some v=>match v.arg with
  |none => .ok ((.mk n.op v.name n.n n.sD n.pos,1),s)
  |some a=>if s.sM+v.size<=4000 then .ok ((a,v.size),payS v.size s) else .error (2,0)
def endI(ts:TS)(tb:Nat)(mu:Mu)(xb:Nat)(r:Except Dg ((Nd×Int)×ISt))(e:AEnd)(m:Mu):Prop:=
 match r with
 | .ok ((n,k),s)=>e = .ret (.tup [eNd n,aI k])/\m[xb]?=some (.arr (cIn ts tb s))/\(∀ i,i<mu.length->i≠xb->m[i]?=mu[i]?)/\mu.length<=m.length
 | .error d=>e = .pan (jU d.1 d.2)/\(∀ i,i<mu.length->i≠xb->m[i]?=mu[i]?)/\mu.length<=m.length
theorem qlX(ts tb s)(hs : -1000000<=s.sM/\s.sM<=500000)(env)(hk:(env.map Prod.fst).Nodup)(hz:∀ e,e∈env->0<=e.2.size/\e.2.size<=500000)(n){mu xb}(J:mu[xb]?=some (.arr (cIn ts tb s))) :
  qE qe 118 [.ptr xb 0,eEnv env,eNd n] mu (endI ts tb mu xb (v7 env n s)):=by
 refine qSW call118 func118 rfl { mt:=[5] } ?_;have t:=fun mu=>lookE (mu:=mu) env n.name
 have g:xb<mu.length:=(qk.1 J).1;obtain⟨B,hB⟩:∃ B,B=eEnv env:=⟨_,rfl⟩;rw[<-hB];simp only[<-hB]at t;unfold v7;cases P:getK n.name env with
 |none =>
  simp only[P]at t;simp[go_sem];refine cL _ (t _) ?_;simp[go_sem,aArg];exact⟨rfl,by rw[qN g];exact J,fun i j _=>qN j,zSp⟩
 |some v =>
  simp only[P]at t;have R:=hz (n.name,v) ((Zb hk).1 P);obtain⟨va,C,T⟩:=v;cases va with
  |none =>
   simp[go_sem];refine cL _ (t _) ?_;have I:(cNd n).set 1 (AV.sc (Value.string T))=cNd (.mk n.op T n.n n.sD n.pos):=by
    obtain⟨op,o,nn,ks,pos⟩:=n;simp[yB,Nd.op,Nd.name,Nd.n,Nd.sD,Nd.pos]
   simp[go_sem,aArg,I];exact⟨rfl,by rw[qN g];exact J,fun i j _=>qN j,zSp⟩
  |some a =>
   simp[go_sem];refine cL _ (t _) ?_;simp[go_sem,aArg];have U:0<=C/\C<=500000:=R;refine fQ (payU ts tb s C ⟨zOm,zOm⟩ ⟨zOm,zOm⟩ (by rw[qN g];exact J)) ?_ ?_
   .rintro r m ⟨rfl,e⟩
    by_cases l:s.sM+C<=4000
    .rw [if_pos l]at e
     cases e;rw[List.set_append_left _ _ g];simp[go_sem,l];refine fD [0,1,2,3,4,5,7,6] [(0,0,[]),(1,0,[]),(2,0,[]),(3,0,[]),(4,0,[]),(5,0,[]),(7,0,[]),(6,1,[5])] zKr zKr zSi ?_
     all_goals
      simp[go_sem];refine⟨rfl,?_,fun i j p=>?_,zSp⟩
      .rw [qN (zUs g),qM g];rfl
      .rw [qN (zUs j),yF (fun e=>p e.symm)]
    .rw [if_neg l]at e;cases e
   .rintro r m ⟨rfl,e⟩
    by_cases l:s.sM+C<=4000
    .rw [if_pos l]at e;cases e
    .rw [if_neg l]at e
     cases e;simp[go_sem,l];refine⟨rfl,fun i j p=>?_,zSp⟩;rw[yF (fun e=>p e.symm),qN j]
end YX
namespace Q1
open P2 Y1 Y2 Y6
abbrev aU(x:Int):AV := .sc (.int .u8 x)
theorem kindU(op):qi qe 141 [aI op] (aU (kd op)):=by
 refine qSU call141 func141 rfl ?_;unfold kd;by_cases g:1<=op<;>by_cases i:op<=15<;>by_cases j:20<=op<;>by_cases l:op<=23<;>by_cases o:30<=op<;>by_cases p:op<=51<;>first|omega | (simp[go_sem,g,i,j,l,o,p];exact .zsc _)
def kwL:List tA:=[⟨#[115,111,114,116]⟩,⟨#[111,114,100,101,114,101,100]⟩,⟨#[118,97,114]⟩,⟨#[102,105,101,108,100]⟩,⟨#[112,114,101,100]⟩,⟨#[102,97,99,116]⟩,⟨#[97,108,108]⟩,⟨#[115,111,109,101]⟩,⟨#[110,111]⟩,⟨#[111,110,101]⟩,⟨#[108,111,110,101]⟩,⟨#[97,108,119,97,121,115]⟩,⟨#[101,118,101,110,116,117,97,108,108,121]⟩,⟨#[97,102,116,101,114]⟩,⟨#[117,110,116,105,108]⟩,⟨#[110,111,110,101]⟩,⟨#[117,110,105,118]⟩,⟨#[105,100,101,110]⟩,⟨#[105,110]⟩,⟨#[110,111,116]⟩,⟨#[116,114,117,101]⟩,⟨#[102,97,108,115,101]⟩]
def kwB(s:tA):Bool:=kwL.any fun x=>decide (x=s)
theorem qlY(s):qi qe 191 [aS s] (aB (kwB s)):=by
 refine qSU call191 func191 rfl ?_;have g:kwL.length=22:=rfl;refine kL 22 (fun k U=>U.tm 0=aS s/\U.tm 3 = .lst true (kwL.map fun s=>[aS s])/\U.tm 4=aI k/\U.mu=[]/\∀ j x,j<k->kwL[j]?=some x->x≠s) ?_ ?_
 .refine ⟨zSi,?_,zSi,zSi,fun j x r=>absurd r zOm⟩
  simp[go_sem,kwL]
 .rintro k U hk ⟨I,C,J,P,hI⟩
  unfold kwB;generalize hK:kwL=K at *
  by_cases R:k=22
  .subst R
   have T:(K.any fun x=>decide (x=s))=false:=by
    rw[List.any_eq_false];intro x p;obtain⟨j,r⟩:=List.mem_iff_getElem?.1 p;simpa using hI j x (by have:=(qk.1 r).1;omega) r
   rw[T];simp[go_sem,C,J,P,g];exact .zsc _
  .have t:k<K.length:=by omega
   have i:k<22:=zOm;have l:(k:Int)<22:=zOm;have w1:=zWk k;by_cases p:K[k]=s
   .have a0:(K.any fun x=>decide (x=s))=true:=List.any_eq_true.2 ⟨K[k],qs t,zUs p⟩
    rw[a0];simp[go_sem,I,C,J,P,g,i,l,p];exact .zsc _
   .simp [go_sem,I,C,J,P,g,i,l,jV p,w1]
    try refine⟨i,aK ?_⟩
    try refine aK ?_
    refine⟨zS1 I,zS1 C,zSi,zSi,fun j x r o=>?_⟩;by_cases a1:j=k
    .subst a1
     rw[qA t]at o;cases o;exact p
    .exact hI j x zOm o
def bys(l:List Int):tA:=⟨(l.map fun x=>UInt8.ofNat x.toNat).toArray⟩
theorem qlZ(l x):bys (l++[x])=bys l++⟨#[UInt8.ofNat x.toNat]⟩:=by
 apply ByteArray.ext;simp[bys]
theorem qaA(l):(bys l).size=l.length:=by simp[bys,ByteArray.size]
def shpV(op:Int)(nk:Nat):AV:=match shp op nk with
 |some l => .tup [aS (bys l),aB true]
 |none => .tup [aS ⟨#[]⟩,aB false]
theorem UK(mu a b):Rd mu (.tup [aS a,aB b]) (.tup [aS a,aB b]) := .hf _ (HF.tup fun c g=>by simp at g;rcases g with rfl|rfl<;>exact HF.sc _)
theorem ql0(nk:Nat)(J:nk<=100000):qi qe 140 [aI 47,aI nk] (shpV 47 nk):=by
 refine qSU call140 func140 rfl ?_;refine kL (min nk 401) (fun k U=>U.tm 1=aI nk/\U.tm 6=aS (bys (qO k 101))/\U.tm 7=aI k) ?_ ?_
 .exact ⟨zSi,by simp[go_sem,bys],zSi⟩
 .rintro k U hk ⟨i,j,l⟩
  by_cases o:k=min nk 401
  .have P:shpV 47 nk = .tup [aS (bys (qO k 101)),aB true]:=by
    rw[o];rfl
   rw[P];by_cases h1:nk<=k
   .have p:¬k<nk:=by omega
    simp[go_sem,i,j,l,p];exact UK _ _ _
   .have R:k=401:=by omega
    subst R;have h3:401<nk:=zOm;have T:(401:Int)<nk:=zOm;simp[go_sem,i,j,l,T];exact UK _ _ _
  .have r:k<nk:=by omega
   have I:k<401:=zOm;have g:(k:Int)<401:=zOm;have w1:=zWk k;have t:(bys (qO k 101)).size+1<=9223372036854775807:=by rw[qaA,List.length_replicate];omega
   have C:bys (qO k 101)++⟨#[101]⟩=bys (qO (k+1) 101):=by
    rw[List.replicate_succ',qlZ];rfl
   generalize bys (qO k 101)=B at *
   simp[go_sem,i,j,l,r,g,t,w1];refine⟨zOm,aK ?_⟩;exact⟨zS1 i,zS1 C,zSi⟩
theorem ql1(op)(nk:Nat)(g:nk<=100000):qi qe 140 [aI op,aI nk] (shpV op nk):=by
 by_cases h47:op=47
 .subst h47;exact ql0 nk g
 by_cases o:1<=op/\op<=51
 .have j:op=1\/op=2\/op=3\/op=4\/op=5\/op=6\/op=7\/op=8\/op=9\/op=10\/op=11\/op=12\/op=13\/op=14\/op=15\/op=16\/op=17\/op=18\/op=19\/op=20\/op=21\/op=22\/op=23\/op=24\/op=25\/op=26\/op=27\/op=28\/op=29\/op=30\/op=31\/op=32\/op=33\/op=34\/op=35\/op=36\/op=37\/op=38\/op=39\/op=40\/op=41\/op=42\/op=43\/op=44\/op=45\/op=46\/op=48\/op=49\/op=50\/op=51:=by omega
  rcases j with rfl|rfl|rfl|rfl|rfl|rfl|rfl|rfl|rfl|rfl|rfl|rfl|rfl|rfl|rfl|rfl|rfl|rfl|rfl|rfl|rfl|rfl|rfl|rfl|rfl|rfl|rfl|rfl|rfl|rfl|rfl|rfl|rfl|rfl|rfl|rfl|rfl|rfl|rfl|rfl|rfl|rfl|rfl|rfl|rfl|rfl|rfl|rfl|rfl|rfl
  all_goals
   refine qSV call140 func140 rfl ?_;simp[go_sem,shpV,shp];exact UK _ _ _
 .have i:∀ c:Int,1<=c->c<=51->(op=c)=False:=fun c p r=>eq_false zOm
  have l:shp op nk=none:=by
   unfold shp
   repeat rw[zIn]
  rw[shpV,l];refine qSV call140 func140 rfl ?_;simp[go_sem,i];exact UK _ _ _
end Q1
namespace Q2
open P2 Y1 Q1
def fitB(op:Int)(ks:List Nd):Bool:=decide (shp op ks.length=some (ks.map fun k=>kd k.op))
theorem ql2(l)(g:∀ x,x∈l->0<=x/\x<256)(i h)(j:i<(bys l).data.size):(((bys l).data[i]).toNat:Int)=l[i]:=by
 have o:=g l[i] (qs h);simp only[bys,List.getElem_toArray,List.getElem_map,UInt8.toNat_ofNat'];omega
theorem ql3{op nk l}(h:shp op nk=some l):∀ x,x∈l->0<=x/\x<256:=by
 unfold shp at h
 repeat' split at h
 all_goals first
  | (cases h;done)
  | (cases h;intro x g;cases g;done)
  | (cases h;intro x g;rw[List.mem_replicate]at g;omega)
  | (cases h;intro x g;simp at g;omega)
theorem fitsU(op ks)(hk:ks.length<=1000):qi qe 88 [aI op,lNd ks] (aB (fitB op ks)):=by
 have C:=ql1 op ks.length zOm;unfold shpV at C;cases o:shp op ks.length with
 |none =>
  simp only[o]at C;have hf:fitB op ks=false:=by simp[fitB,o]
  rw[hf];refine qSU call88 func88 rfl ?_;refine fR C (.zs (.zs .nil)) ?_;exact .zsc _
 |some l =>
  simp only[o]at C;have i:=qaA l;have I:=ql2 l (ql3 o);generalize bys l=B at *
  refine qSU call88 func88 rfl ?_;refine cQ C (.zs (.zs .nil)) ?_;by_cases t:l.length=ks.length
  .simp [go_sem,i,t]
   refine kL ks.length (fun k U=>U.tm 1=lNd ks/\U.tm 5=aS B/\U.tm 7=aI k/\∀ j,j<k->(ks[j]?).map (fun k=>kd k.op)=l[j]?) ?_ ?_
   .exact ⟨zSi,zSi,zSi,fun j P=>absurd P zOm⟩
   .rintro k U hk ⟨R,e5,J,hI⟩
    by_cases a0:k=ks.length
    .subst a0
     have hf:fitB op ks=true:=by
      rw[fitB,o,decide_eq_true];congr 1;apply jO;intro j;by_cases P:j<ks.length
      .rw [zj,hI j P]
      .rw [uz zOm,uz zSo]
     rw[hf];simp[go_sem,R,J];exact .zsc _
    .have g:k<ks.length:=by omega
     have w1:=zWk k;simp[go_sem,R,J,g];refine cH zKr ?_;simp[go_sem,R,J,g];refine cQ (kindU ks[k].op) (.zs .nil) ?_;have p:k<l.length:=zOm;have a1:k<B.data.size:=by have:B.data.size=l.length:=i;omega
     have hg:=I k p a1;by_cases T:kd ks[k].op=l[k]
     .have r:kd ks[k].op=((B.data[k]).toNat:Int):=by rw[hg];exact T
      simp[go_sem,e5,J,g,i,t,r,w1];refine aK ?_;refine⟨zS1 R,zS1 e5,zSi,fun j P=>?_⟩;by_cases a2:j=k
      .subst a2
       rw[qA g,qA p,zo,T]
      .exact hI j zOm
     .have r:¬kd ks[k].op=((B.data[k]).toNat:Int):=by rw[hg];exact T
      have hf:fitB op ks=false:=by
       rw[fitB,o,decide_eq_false];intro e;injection e with e;apply T;have:l[k]?=some (kd ks[k].op):=by rw[e,zj,qA g,zo]
       rw[qA p]at this;simpa using this.symm
      rw[hf];simp[go_sem,e5,J,g,i,t,r];exact .zsc _
  .have hf:fitB op ks=false:=by
    rw[fitB,o,decide_eq_false];intro e;injection e with e;rw[e]at t;simp at t
   rw[hf];simp[go_sem,i,t];exact .zsc _
end Q2
namespace Q3
open Y1 Q1
def letC(c:Int):Bool:=(decide (97<=c)&&decide (c<=122))||(decide (65<=c)&&decide (c<=90))
def chB(i:Nat)(c:Int):Bool:=letC c||(!decide (i=0)&&(decide (c=95)||(decide (48<=c)&&decide (c<=57))))
def ji(s:tA):Bool:=decide (1<=s.size)&&decide (s.size<=16)&&!kwB s&&(qu s.size).all fun i=>match s.data[i]? with|some c=>chB i c.toNat|none=>true
theorem ql4(s):qi qe 139 [aS s] (aB (ji s)):=by
 refine qSV call139 func139 rfl ?_;by_cases h0:s.size=0
 .have r:ji s=false:=by simp[ji,h0]
  rw[r];simp[go_sem,h0];exact .zsc _
 by_cases ab:16<s.size
 .have r:ji s=false:=by
   have:¬s.size<=16:=zOm;simp[ji,this]
  rw[r];have l:(16:Int)<s.size:=zOm;simp[go_sem,h0,l];exact .zsc _
 have l:¬(16:Int)<s.size:=zOm;simp[go_sem,h0,l];refine cQ (qlY s) (.zs .nil) ?_;cases hk:kwB s with
 |true =>
  have r:ji s=false:=by simp[ji,hk]
  rw[r];simp[go_sem];exact .zsc _
 |false =>
  simp[go_sem];refine kL s.size (fun k U=>U.tm 0=aS s/\U.tm 3=aI k/\∀ j c,j<k->s.data[j]?=some c->chB j c.toNat=true) ?_ ?_
  .exact ⟨zSi,zSi,fun j c hj=>absurd hj zOm⟩
  .rintro k U ad ⟨e0,e2,hI⟩
   by_cases a9:k=s.size
   .have r:ji s=true:=by
     simp only[ji,hk,Bool.not_false,Bool.and_true,qI,decide_eq_true_eq,zA,yb];refine⟨⟨zOm,zOm⟩,fun i hi=>?_⟩;cases hc:s.data[i]? with
     |none=>rfl
     |some c=>exact hI i c zOm hc
    rw[r];simp[go_sem,e0,e2,a9];exact .zsc _
   .have o:k<s.size:=by omega
    have T:k<s.data.size:=o;have w1:=zWk k;have z1:qp.wrap 1=1:=rfl;have a0:s.data[k]?=some s.data[k]:=Array.getElem?_eq_getElem T;simp[go_sem,e0,e2,o];generalize hc:((s.data[k]).toNat:Int)=c at *
    cases g:chB k c with
    |false =>
     have r:ji s=false:=by
      rw[ji,Bool.and_eq_false_iff];refine .inr (List.all_eq_false.2 ⟨k,yb.2 o,?_⟩);simp only[a0,hc,g];simp
     rw[r];by_cases C:97<=c<;>by_cases I:c<=122<;>by_cases J:65<=c<;>by_cases P:c<=90<;>by_cases R:c=95<;>by_cases a6:c<48<;>by_cases a7:57<c<;>by_cases t:k=0<;>first|omega | (exfalso;simp[chB,letC,C,I,J,P,R,a6,a7,t]at g;done) | (exfalso;simp[chB,letC,C,I,J,P,R,a6,a7,t]at g;omega)|skip
     all_goals
      simp[go_sem,e2,C,I,J,P,R,a6,a7,t];exact .zsc _
    |true =>
     have p:∀ j d,j<k+1->s.data[j]?=some d->chB j d.toNat=true:=fun j d hj hd=>by
      by_cases aa:j=k
      .subst aa
       rw[a0]at hd;cases hd;rw[hc];exact g
      .exact hI j d zOm hd
     by_cases C:97<=c<;>by_cases I:c<=122<;>by_cases J:65<=c<;>by_cases P:c<=90<;>by_cases R:c=95<;>by_cases a6:c<48<;>by_cases a7:57<c<;>by_cases t:k=0<;>first|omega | (exfalso;simp[chB,letC,C,I,J,P,R,t]at g;done) | (exfalso;simp[chB,letC,C,I,J,P,R,t]at g;omega)|skip
     all_goals
      simp[go_sem,e2,C,I,J,P,R,a6,a7,t,w1,z1]
      first
       |exact⟨o,aK ⟨zS1 e0,zSi,p⟩⟩
       | (subst t;exact⟨o,aK ⟨zS1 e0,zSi,fun j d hj hd=>p j d zOm hd⟩⟩)
end Q3
namespace Q4
open P2 Y1 Y2 Y9 Q2 Q3
def wA(op:Int):Bool:=decide (op=1)||decide (op=15)||decide (op=45)||decide (op=46)||decide (op=47)
def numB(op n:Int):Bool:=if op=2 then decide (1<=n)&&decide (n<=3) else if op=20 then decide (-64<=n)&&decide (n<=64) else decide (n=0)
def ownB(n:Nd):Bool:=if wA n.op=ji n.name/\(wA n.op=true\/n.name=⟨#[]⟩) then numB n.op n.n else false
theorem ownU(n):qi qe 87 [eNd n] (aB (ownB n)):=by
 refine qSV call87 func87 rfl ?_;have j:=ql4 n.name;generalize J:ji n.name=N at *
 by_cases p:n.op=1\/n.op=15\/n.op=45\/n.op=46\/n.op=47
 .have l:wA n.op=true:=by grind [wA]
  have r:¬n.op=2:=zOm;have i:¬n.op=20:=zOm;rcases p with h|h|h|h|h
  all_goals
   simp[go_sem,h];refine cQ j (.zs .nil) ?_;cases N with
   |true =>
    have g:ownB n=decide (n.n=0):=by grind [ownB,numB]
    rw[g];simp[go_sem,h];exact .zsc _
   |false =>
    have g:ownB n=false:=by grind [ownB]
    rw[g];simp[go_sem];exact .zsc _
 .simp only[not_or]at p
  obtain⟨d1,d2,d3,d4,d5⟩:=p;have l:wA n.op=false:=by grind [wA]
  simp[go_sem,d1,d2,d3,d4,d5];refine cQ j (.zs .nil) ?_;cases N with
  |true =>
   have g:ownB n=false:=by grind [ownB]
   rw[g];simp[go_sem];exact .zsc _
  |false =>
   by_cases o:n.name=⟨#[]⟩
   .have g:ownB n=numB n.op n.n:=by
     simp_all[ownB,if_pos]
    rw[g];unfold numB;by_cases r:n.op=2
    .by_cases t:1<=n.n<;>by_cases C:n.n<=3<;>(simp[go_sem,r,o,t,C];exact .zsc _)
    .by_cases i:n.op=20
     .by_cases t : -64<=n.n<;>by_cases C:n.n<=64<;>(simp[go_sem,i,o,t,C];exact .zsc _)
     .simp [go_sem,r,i,o]
      exact .zsc _
   .have g:ownB n=false:=by simp[ownB,l,o]
    rw[g];have I:n.name.toList.isEmpty=false:=by simpa using jV o
    simp[go_sem,I];exact .zsc _
mutual
def cntN:Nd->Int->Int
 | .mk _ _ _ ks _,left=>ja ks left 1
def ja:List Nd->Int->Int->Int
 | [],_,sum=>sum
 |k :: ks,left,sum=>if sum<=left then ja ks left (sum+cntN k (left-sum)) else sum
end
theorem qaB(n left):cntN n left=ja n.sD left 1:=by
 obtain⟨op,o,i,ks,p⟩:=n;simp[cntN,Nd.sD]
mutual
theorem Ko:∀(n:Nd)(left:Int),1<=cntN n left/\(cntN n left<=left+1\/cntN n left=1)
 | .mk _ _ _ ks _,left=>by
  simp only[cntN];have:=Kq ks left 1;omega
theorem Kq:∀(ks:List Nd)(left sum:Int),sum<=ja ks left sum/\(ja ks left sum<=left+1\/ja ks left sum=sum)
 | [],left,sum=>by simp[ja]
 |k :: ks,left,sum=>by
  simp only[ja];split
  .have g:=Ko k (left-sum)
   have i:=Kq ks left (sum+cntN k (left-sum));omega
  .omega
end
theorem qaC:∀ m n,szN n<=m->∀ left,-1000000<=left/\left<=1000000->qi qe 47 [eNd n,aI left] (aI (cntN n left))
 | 0,n,J,_,_=>by obtain⟨op,nm,i,ks,p⟩:=n;simp[szN]at J
 |m+1,n,J,left,hl=>by
  have T:∀ k,k∈n.sD->∀ left:Int,-1000000<=left/\left<=1000000->qi qe 47 [eNd k,aI left] (aI (cntN k left)):=fun k P =>
   qaC m k (zW1 (yw P))
  rw[qaB];generalize hR:ja n.sD left 1=R;refine qSU call47 func47 rfl ?_;refine kL n.sD.length (fun k U=>∃ sum:Int,U.tm 1=aI left/\U.tm 2 = .ip (cNd n)/\U.tm 5=aI sum/\U.tm 6=aI k/\(k:Int)+1<=sum/\(sum<=left+1\/sum=1)/\ja (n.sD.drop k) left sum=R) ?_ ?_
  .simp [go_sem, *]
  .rintro k U P ⟨sum,t,l,C,o,a0,a1,j⟩
   by_cases I:k=n.sD.length
   .subst I
    rw[zZ]at j;simp only[ja]at j;subst j;simp[go_sem,l,C,o];exact .zsc _
   .have g:k<n.sD.length:=by omega
    rw[zp g]at j;simp only[ja]at j;by_cases r:sum<=left
    .rw [if_pos r]at j
     have w1:=zWk k;have w2:qp.wrap (left-sum)=left-sum:=zWr;have a2:=Ko n.sD[k] (left-sum);have w3:qp.wrap (sum+cntN n.sD[k] (left-sum))=sum+cntN n.sD[k] (left-sum):=zWr;simp[go_sem,t,l,C,o,g,r,w2];refine cQ (T n.sD[k] (qs g) (left-sum) ⟨zOm,zOm⟩) (.zk (qL _) (.zs .nil)) ?_;simp[go_sem,o,w1,w3];refine⟨g,aK ?_⟩;exact⟨sum+cntN n.sD[k] (left-sum),zS1 t,zS1 l,zSi,zSi,zOm,zOm,j⟩
    .rw [if_neg r]at j
     subst j;simp[go_sem,t,l,C,o,g,r];exact .zsc _
mutual
def forN:Nd->Int->Bool
 | .mk op o i ks p,g=>if g<1 then false else ownB (.mk op o i ks p)&&(fitB op ks&&uS ks (g-1))
def uS:List Nd->Int->Bool
 | [],_=>true
 |k :: ks,g=>forN k g&&uS ks g
end
theorem J8(n g):forN n g=if g<1 then false else ownB n&&(fitB n.op n.sD&&uS n.sD (g-1)):=by
 obtain⟨op,o,i,ks,p⟩:=n;simp[forN,Nd.sD,Nd.op]
theorem qaD:∀ m n,szN n<=m->Small n->∀ g,-1000000<=g/\g<=1000000->qi qe 48 [eNd n,aI g] (aB (forN n g))
 | 0,n,P,_,_,_=>by obtain⟨op,nm,i,ks,p⟩:=n;simp[szN]at P
 |m+1,n,P,T,g,hl=>by
  have ih:∀ k,k∈n.sD->∀ g:Int,-1000000<=g/\g<=1000000->qi qe 48 [eNd k,aI g] (aB (forN k g)):=fun k I =>
   qaD m k (zW1 (yw I)) (T.kid I)
  have C:=T.len;rw[J8];have l:=ownU n;have o:=fitsU n.op n.sD C;by_cases j:g<1
  .rw [if_pos j]
   refine qSV call48 func48 rfl ?_;simp[go_sem,j];exact .zsc _
  rw[if_neg j];cases ho:ownB n with
  |false =>
   rw[ho]at l;refine qSV call48 func48 rfl ?_;simp[go_sem,j];refine fR l (.zk (qL _) .nil) ?_;exact .zsc _
  |true =>
   rw[ho]at l;cases hf:fitB n.op n.sD with
   |false =>
    rw[hf]at o;refine qSV call48 func48 rfl ?_;simp[go_sem,j];refine fR l (.zk (qL _) .nil) ?_;refine fR o (.zs (.zk (Uf _) .nil)) ?_;exact .zsc _
   |true =>
    rw[hf]at o;have wl:qp.wrap (g-1)=g-1:=zWr;generalize hR:uS n.sD (g-1)=R;simp only[Bool.true_and];refine qSV call48 func48 rfl ?_;simp[go_sem,j];refine fR l (.zk (qL _) .nil) ?_;refine fR o (.zs (.zk (Uf _) .nil)) ?_;refine kL n.sD.length (fun k U=>U.tm 1=aI g/\U.tm 2 = .ip (cNd n)/\U.tm 5=aI k/\uS (n.sD.drop k) (g-1)=R) ?_ ?_
    .simp [go_sem, *]
    .rintro k U I ⟨e1,e2,e5,r⟩
     by_cases J:k=n.sD.length
     .subst J
      rw[zZ]at r;simp only[uS]at r;subst r;simp[go_sem,e2,e5];exact .zsc _
     .have t:k<n.sD.length:=by omega
      have w1:=zWk k;rw[zp t]at r;simp only[uS]at r;have hi:=ih n.sD[k] (qs t) (g-1) ⟨zOm,zOm⟩;simp[go_sem,e1,e2,e5,t,wl];refine cQ hi (.zk (qL _) (.zs .nil)) ?_;cases hq:forN n.sD[k] (g-1) with
      |true =>
       simp_all[go_sem,Bool.true_and,aK]
      |false =>
       rw[hq,Bool.false_and]at r;subst r;simp[go_sem];exact .zsc _
theorem qaE:∀ ks left sum,0<=sum->ja ks left sum<=left->sum+ks.length<=ja ks left sum/\∀ k,k∈ks->∃ l',l'<=left/\cntN k l'<=l'
 | [],left,sum,_,h=>by simp[ja]
 |k :: ks,left,sum,l,h=>by
  simp only[ja]at h⊢;split at h
  .rename_i i
   rw[if_pos i];have o:=Ko k (left-sum);have j:=qaE ks left (sum+cntN k (left-sum)) zOm h;have p:=j.1;refine⟨by grind,fun q g=>?_⟩;rcases qy.1 g with rfl|g
   .grind
   grind
  .omega
theorem qaF:∀ m n left,szN n<=m->left<=1000->cntN n left<=left->Small n
 | 0,n,_,g,_,_=>by obtain⟨op,nm,i,ks,p⟩:=n;simp[szN]at g
 |m+1,n,left,g,C,h=>by
  rw[qaB]at h;obtain⟨I,l⟩:=qaE n.sD left 1 zOm h;refine .mk n zOm fun k j=>?_
  obtain⟨o,r,t⟩:=l k j;exact qaF m k o (zW1 (yw j)) zOm t
def zd(n:Nd):Bool:=decide (cntN n 400<=400)&&forN n 24
theorem Kr(n):qi qe 22 [eNd n] (aB (zd n)):=by
 have i:=qaC (szN n) n (qr _) 400 zOm;by_cases h:cntN n 400<=400
 .have j:=qaF (szN n) n 400 (qr _) zOm h
  have hf:=qaD (szN n) n (qr _) j 24 zOm;have g:zd n=forN n 24:=by simp[zd,h]
  rw[g];refine qSU call22 func22 rfl ?_;refine cQ i (.zk (qL _) (.zs .nil)) ?_;simp[go_sem,h];refine fR hf (.zk (qL _) (.zs .nil)) ?_;exact .zsc _
 .have g:zd n=false:=by simp[zd,h]
  rw[g];refine qSU call22 func22 rfl ?_;refine cQ i (.zk (qL _) (.zs .nil)) ?_;simp[go_sem,h];exact .zsc _
theorem Ks{ks i}(h:uS ks i=true):∀ k,k∈ks->forN k i=true:=by
 induction ks with
 |nil=>grind
 |cons a l j =>
  simp only[uS,qI]at h;intro k g;rcases qy.1 g with rfl|g
  .exact h.1
  .exact j h.2 k g
theorem qaG:∀ m n g,szN n<=m->forN n g=true->WfN n
 | 0,n,_,j,_=>by obtain⟨op,nm,i,ks,p⟩:=n;simp[szN]at j
 |m+1,n,g,j,h=>by
  rw[J8]at h;split at h
  .grind
  .simp only[qI]at h
   obtain⟨r,t,o⟩:=h;refine .mk n ?_ (fun C=>?_) fun k l=>qaG m k (g-1) (zW1 (yw l)) (Ks o k l)
   .grind [fitB]
   simp_all[ownB,numB,if_pos,absurd]
theorem uq{n}(h:zd n=true):WfN n:=by
 simp only[zd,qI]at h;exact qaG (szN n) n 24 (qr _) h.2
end Q4
namespace Q5
theorem ql5(a b)(ha:a.length<=1000000):qi qe 89 [lI a,lI b] (aB (decide (a=b))):=by
 refine qSV call89 func89 rfl ?_;by_cases j:a.length=b.length
 case neg =>
  rw[decide_eq_false (by rintro rfl;exact j rfl)];simp[go_sem,j];exact .zsc _
 simp[go_sem,j];refine kL a.length (fun k U=>U.tm 0=lI a/\U.tm 1=lI b/\U.tm 5=aI k/\∀(i:Nat)(h:i<a.length)(o:i<b.length),i<k->a[i]=b[i]) ?_ ?_
 .exact ⟨zSi,zSi,zSi,fun i h o P=>absurd P zOm⟩
 .rintro k U hk ⟨l,C,p,R⟩
  by_cases T:k=a.length
  .rw [decide_eq_true (List.ext_getElem j fun i h o=>R i h o zOm)]
   have I:k=b.length:=zOm;simp[go_sem,l,p,I,j];exact .zsc _
  .have a0:k<a.length:=by omega
   have r:k<b.length:=zOm;have w1:=zWk k;have g:(k:Int)<(b.length:Int):=zOm;by_cases t:a[k]=b[k]
   .simp [go_sem,l,p,j,g]
    try refine cH zKr ?_
    simp[go_sem,l,C,p,r,j,g,t,w1]
    try refine⟨zOm,aK ?_⟩
    try refine aK ?_
    refine⟨zS1 l,zS1 C,zSi,fun i h o P=>?_⟩;by_cases J:i=k
    .subst J;exact t
    .exact R i h o zOm
   .rw [decide_eq_false (fun e=>t (zP1 e))]
    simp[go_sem,l,p,j,g]
    try refine cH zKr ?_
    simp[go_sem,l,C,p,r,j,g,t];exact .zsc _
end Q5
namespace Q6
open Y1 Y9
mutual
def anyN(p:Nd->Bool):Nd->Bool
 | .mk op o i ks q=>p (.mk op o i ks q)||ur p ks
def ur(p:Nd->Bool):List Nd->Bool
 | []=>false
 |k :: ks=>anyN p k||ur p ks
end
theorem UL(p n):anyN p n=(p n||ur p n.sD):=by
 obtain⟨op,o,i,ks,q⟩:=n;simp[anyN,Nd.sD]
theorem qaH:∀ m n,szN n<=m->Small n->qi qe 95 [eNd n] (aB (anyN (fun n=>decide (n.op=47)) n))
 | 0,n,I,_=>by obtain⟨op,nm,i,ks,p⟩:=n;simp[szN]at I
 |m+1,n,I,J=>by
  have ih:∀ k,k∈n.sD->qi qe 95 [eNd k] (aB (anyN (fun n=>decide (n.op=47)) k)):=fun k r =>
   qaH m k (zW1 (yw r)) (J.kid r)
  have P:=J.len;rw[UL];generalize hR:ur (fun n=>decide (n.op=47)) n.sD=R;refine qSV call95 func95 rfl ?_;by_cases t:n.op=47
  .simp [go_sem,t]
   exact .zsc _
  .rw [decide_eq_false t,Bool.false_or]
   simp[go_sem,t];refine kL n.sD.length (fun k U=>U.tm 1 = .ip (cNd n)/\U.tm 3=aI k/\ur (fun n=>decide (n.op=47)) (n.sD.drop k)=R) ?_ ?_
   .exact ⟨zSi,zSi,zUs hR⟩
   .rintro k U r ⟨l,o,j⟩
    by_cases C:k=n.sD.length
    .subst C
     rw[zZ]at j;simp only[ur]at j;subst j;simp[go_sem,l,o];exact .zsc _
    .have g:k<n.sD.length:=by omega
     have w1:=zWk k;rw[zp g]at j;simp only[ur]at j;have hi:=ih n.sD[k] (qs g);simp[go_sem,l,o,g,zf]
     try refine cH zKr ?_
     try simp[go_sem,l,o,g,zf]
     refine cQ hi (.zk (qL _) .nil) ?_;cases T:anyN (fun n=>decide (n.op=47)) n.sD[k] with
     |true =>
      rw[T,Bool.true_or]at j;subst j;simp[go_sem,l,o];exact .zsc _
     |false =>
      rw[T,Bool.false_or]at j;simp[go_sem,l,o,w1]
      try refine⟨g,aK ?_⟩
      try refine aK ?_
      exact⟨zS1 l,zSi,j⟩
end Q6
namespace Q7
open YF P1
def parB(ns:Nat)(l:List (tA×Int)):Bool:=decide (l.length<=8)&&l.all fun p=>decide (0<=p.2)&&decide (p.2<ns)
theorem ql6(ts l):qi qe 45 [eTS ts,lPm l] (aB (parB ts.sS.length l)):=by
 refine qSV call45 func45 rfl ?_;by_cases h8:l.length<=8
 case neg =>
  have i:parB ts.sS.length l=false:=by simp[parB,h8]
  have r:(8:Int)<l.length:=zOm;rw[i];simp[go_sem,r];exact .zsc _
 have r:¬(8:Int)<l.length:=zOm;simp[go_sem,r];refine kL l.length (fun k U=>U.tm 1=lPm l/\U.tm 2 = .ip (cTS ts)/\U.tm 5=aI k/\∀ j p,j<k->l[j]?=some p->0<=p.2/\p.2<ts.sS.length) ?_ ?_
 .exact ⟨zSi,zSi,zSi,fun j p C=>absurd C zOm⟩
 .rintro k U hk ⟨o,J,t,hI⟩
  by_cases P:k=l.length
  .have i:parB ts.sS.length l=true:=by
    simp only[parB,qI,decide_eq_true_eq,zA];refine⟨h8,fun p i=>?_⟩;obtain⟨j,C⟩:=List.mem_iff_getElem?.1 i;exact hI j p (by have:=(qk.1 C).1;omega) C
   rw[i];simp[go_sem,o,t,P];exact .zsc _
  .have g:k<l.length:=by omega
   have w1:=zWk k;have hg:l[k]?=some l[k]:=qA g;by_cases hq:0<=l[k].2/\l[k].2<ts.sS.length
   .have I:¬l[k].2<0:=by omega
    have R:¬(ts.sS.length:Int)<=l[k].2:=zOm;simp[go_sem,o,t,g];refine cH zKr ?_;simp[go_sem,o,J,t,g,I,R,w1]
    try refine⟨g,aK ?_⟩
    try refine aK ?_
    refine⟨zS1 o,zS1 J,zSi,fun j p C i=>?_⟩;by_cases T:j=k
    .subst T;rw[hg]at i;cases i;exact hq
    .exact hI j p zOm i
   .have i:parB ts.sS.length l=false:=by
     rw[parB,Bool.and_eq_false_iff];refine .inr (List.all_eq_false.2 ⟨l[k],qs g,?_⟩);simp only[qI,decide_eq_true_eq];exact hq
    rw[i];by_cases I:l[k].2<0
    .simp [go_sem,o,t,g]
     refine cH zKr ?_;simp[go_sem,o,t,g,I];exact .zsc _
    .have R:(ts.sS.length:Int)<=l[k].2:=by omega
     simp[go_sem,o,t,g];refine cH zKr ?_;simp[go_sem,o,J,t,g,I,R];exact .zsc _
theorem ql7{ns l}(h:parB ns l=true):l.length<=8/\∀ p,p∈l->0<=p.2/\p.2<ns:=by
 simp only[parB,qI,decide_eq_true_eq,zA]at h;exact⟨h.1,fun p g=>h.2 p g⟩
end Q7
namespace Q8
open YF P1 P2 Y1 Y9 Q4 Q7
def limB(ts:TS):Bool:=decide (ts.sS.length<=4)&&decide (ts.sA.length<=6)&&decide (ts.sT.length<=8)&&decide (ts.sP.length<=16)
def fldB(ns:Nat)(f:Fld):Bool:=decide (1<=f.sS.length)&&decide (f.sS.length<=3)&&f.sS.all fun x=>decide (0<=x)&&decide (x<ns)
def yP(ts:TS):Bool:=limB ts&&(ts.sA.all (fldB ts.sS.length)&&(ts.sT.all (fun p=>parB ts.sS.length p.params&&zd p.body)&&ts.sP.all fun f=>zd f.2))
theorem ql8(ts):qi qe 20 [eTS ts] (aB (yP ts)):=by
 refine qSV call20 func20 rfl ?_;by_cases h1:ts.sS.length<=4
 case neg =>
  have hf:yP ts=false:=by simp[yP,limB,h1]
  have J:(4:Int)<ts.sS.length:=zOm;rw[hf];simp[go_sem,J];exact .zsc _
 have J:¬(4:Int)<ts.sS.length:=zOm;by_cases h2:ts.sA.length<=6
 case neg =>
  have hf:yP ts=false:=by simp[yP,limB,h2]
  have P:(6:Int)<ts.sA.length:=zOm;rw[hf];simp[go_sem,J,P];exact .zsc _
 have P:¬(6:Int)<ts.sA.length:=zOm;by_cases h3:ts.sT.length<=8
 case neg =>
  have hf:yP ts=false:=by simp[yP,limB,h3]
  have T:(8:Int)<ts.sT.length:=zOm;rw[hf];simp[go_sem,J,P,T];exact .zsc _
 have T:¬(8:Int)<ts.sT.length:=zOm;by_cases h4:ts.sP.length<=16
 case neg =>
  have hf:yP ts=false:=by simp[yP,limB,h4]
  have a3:(16:Int)<ts.sP.length:=zOm;rw[hf];simp[go_sem,J,P,T,a3];exact .zsc _
 have a3:¬(16:Int)<ts.sP.length:=zOm;simp[go_sem,J,P,T,a3];have af:limB ts=true:=by grind [limB]
 generalize a0:ts.sS.length=r at *
 refine kL ts.sA.length (fun k U=>U.tm 1 = .ip (cTS ts)/\U.tm 3=aI k/\∀ j f,j<k->ts.sA[j]?=some f->fldB r f=true) ?_ ?_
 .simp [go_sem, *]
 .rintro k U hk ⟨C,e3,hI⟩
  by_cases I:k=ts.sA.length
  .have ah:ts.sA.all (fldB r)=true:=by
    grind [zA,List.mem_iff_getElem?,qk]
   simp[go_sem,C,e3,I];refine kL ts.sT.length (fun k U=>U.tm 1 = .ip (cTS ts)/\U.tm 6=aI k/\∀ j p,j<k->ts.sT[j]?=some p->(parB r p.params&&zd p.body)=true) ?_ ?_
   .simp [go_sem, *]
   .clear C e3 hI I hk k U
    rintro k U hk ⟨C,e6,hI⟩;by_cases I:k=ts.sT.length
    .have ai:(ts.sT.all fun p=>parB r p.params&&zd p.body)=true:=by
      grind [zA,List.mem_iff_getElem?,qk]
     simp[go_sem,C,e6,I];refine kL ts.sP.length (fun k U=>U.tm 1 = .ip (cTS ts)/\U.tm 7=aI k/\∀ j f,j<k->ts.sP[j]?=some f->zd f.2=true) ?_ ?_
     .simp [go_sem, *]
     .clear C e6 hI I hk k U
      rintro k U hk ⟨C,e7,hI⟩;by_cases I:k=ts.sP.length
      .have ag:(ts.sP.all fun f=>zd f.2)=true:=by
        grind [zA,List.mem_iff_getElem?,qk]
       have a6:yP ts=true:=by
        grind [yP]
       rw[a6];simp[go_sem,C,e7,I];exact .zsc _
      .have g:k<ts.sP.length:=by omega
       have w1:=zWk k;have hg:ts.sP[k]?=some ts.sP[k]:=qA g;have R:=Kr ts.sP[k].2;simp[go_sem,C,e7,g]
       try refine cH zKr ?_
       try simp[go_sem,C,e7,g]
       refine cQ R (.zk (qL _) .nil) ?_;cases a7:zd ts.sP[k].2 with
       |false =>
        have hb:yP ts=false:=by
         grind [zd,List.all_eq_false,qs,yP]
        rw[hb];simp[go_sem];exact .zsc _
       |true =>
        simp[go_sem,e7,g,w1]
        try refine⟨g,aK ?_⟩
        try refine aK ?_
        refine⟨zS1 C,zSi,fun i f hi hf=>?_⟩
        grind
    .have g:k<ts.sT.length:=by omega
     have w1:=zWk k;have hg:ts.sT[k]?=some ts.sT[k]:=qA g;have o:(parB r ts.sT[k].params&&zd ts.sT[k].body)=false->yP ts=false:=fun hb=>by
      grind [parB,zd,List.all_eq_false,qs,yP]
     have a2:=ql6 ts ts.sT[k].params;rw[a0]at a2;have R:=Kr ts.sT[k].body;have a8:WKs [eTS ts,lPm ts.sT[k].params] [eTS ts,lPm ts.sT[k].params] := .zk (zn ts) (.zk (um _) .nil);simp[go_sem,C,e6,g];refine cH zKr ?_;simp[go_sem,C,e6,g];refine cQ a2 a8 ?_;cases a9:parB r ts.sT[k].params with
     |false =>
      rw[o (by rw[a9];rfl)];simp[go_sem];exact .zsc _
     |true =>
      simp[go_sem,C,e6,g];refine cQ R (.zk (qL _) .nil) ?_;cases a7:zd ts.sT[k].body with
      |false =>
       rw[o (by grind)];simp[go_sem];exact .zsc _
      |true =>
       simp[go_sem,e6,g,w1]
       try refine⟨g,aK ?_⟩
       try refine aK ?_
       refine⟨zS1 C,zSi,fun i f hi hf=>?_⟩
       grind
  .have g:k<ts.sA.length:=by omega
   have hg:ts.sA[k]?=some ts.sA[k]:=qA g;have o:fldB r ts.sA[k]=false->yP ts=false:=fun hb=>by
    have:ts.sA.all (fldB r)=false:=List.all_eq_false.2 ⟨_,qs g,zP1 hb⟩;simp[yP,a0,this]
   by_cases c1:1<=ts.sA[k].sS.length
   case neg =>
    rw[o (by simp[fldB,c1])];have a1:(ts.sA[k].sS.length:Int)<1:=zOm;simp[go_sem,C,e3,g,a1];exact .zsc _
   have a1:¬(ts.sA[k].sS.length:Int)<1:=zOm;by_cases c3:ts.sA[k].sS.length<=3
   case neg =>
    rw[o (by simp[fldB,c3])];have a4:(3:Int)<ts.sA[k].sS.length:=zOm;simp[go_sem,C,e3,g,a1,a4];exact .zsc _
   have a4:¬(3:Int)<ts.sA[k].sS.length:=zOm;simp[go_sem,C,e3,g,a1,a4];refine kL ts.sA[k].sS.length (fun j s=>s.tm 1 = .ip (cTS ts)/\s.tm 3=aI k/\s.tm 4=lI ts.sA[k].sS/\s.tm 5=aI j/\∀ i x,i<j->ts.sA[k].sS[i]?=some x->0<=x/\x<r) ?_ ?_
   .exact ⟨zS1 C,zS1 e3,zSi,zSi,fun i x hi=>absurd hi zOm⟩
   .rintro j s hj ⟨f1,f3,f4,f5,hJ⟩
    generalize hl:ts.sA[k].sS=l at *
    by_cases aa:j=l.length
    .have w1:=zWk k
     have a5:fldB r ts.sA[k]=true:=by
      simp only[fldB,hl,qI,decide_eq_true_eq,zA];refine⟨⟨c1,c3⟩,fun x hx=>?_⟩;obtain⟨i,hi⟩:=List.mem_iff_getElem?.1 hx;exact hJ i x (by have:=(qk.1 hi).1;omega) hi
     simp[go_sem,f3,f4,f5,aa,w1]
     try refine⟨g,aK ?_⟩
     try refine aK ?_
     refine⟨zS1 f1,zSi,fun i f hi hf=>?_⟩;by_cases ab:i=k
     .subst ab;rw[hg]at hf;cases hf;exact a5
     .exact hI i f zOm hf
    .have t:j<l.length:=by omega
     have w1:=zWk j;have ad:l[j]?=some l[j]:=qA t;by_cases hq:0<=l[j]/\l[j]<r
     .have q1:¬l[j]<0:=by omega
      have q2:¬(r:Int)<=l[j]:=zOm;simp[go_sem,f4,f5,t];refine cH zKr ?_;simp[go_sem,f1,f4,f5,t,q1,q2,w1,a0]
      try refine⟨t,aK ?_⟩
      try refine aK ?_
      refine⟨zS1 f1,zS1 f3,zS1 f4,zSi,fun i x hi hx=>?_⟩;by_cases ae:i=j
      .subst ae;rw[ad]at hx;cases hx;exact hq
      .exact hJ i x zOm hx
     .rw [o (by
       rw[fldB,hl,Bool.and_eq_false_iff];refine .inr (List.all_eq_false.2 ⟨l[j],qs t,?_⟩);simp only[qI,decide_eq_true_eq];exact hq)]
      by_cases q1:l[j]<0
      .simp [go_sem,f4,f5,t]
       refine cH zKr ?_;simp[go_sem,f4,f5,t,q1];exact .zsc _
      .have q2:(r:Int)<=l[j]:=by omega
       simp[go_sem,f4,f5,t];refine cH zKr ?_;simp[go_sem,f1,f4,f5,t,q1,q2,a0];exact .zsc _
theorem ql9{ts}(h:yP ts=true)(i:∀ x,x∈ts.sS->x.1.size<=4611686018427387904):okTS ts/\(∀ p,p∈ts.sT->WfN p.body)/\∀ f,f∈ts.sP->WfN f.2:=by
 simp only[yP,limB,fldB,qI,decide_eq_true_eq,zA]at h;obtain⟨⟨⟨⟨j,l⟩,o⟩,r⟩,hf,t,C⟩:=h;refine⟨⟨j,l,o,r,i,fun f g=>?_,fun p g=>?_⟩,fun p g=>uq (t p g).2,fun f g=>uq (C f g)⟩
 .grind
 grind [ql7]
end Q8
namespace GQ
open YF P1 E9 Q8
def yV(sc:Sc):Bool:=decide (sc.sC.length<=4)&&(decide (1<=sc.sN)&&(decide (sc.sN<=4)&&(sc.sC.all (fun a=>decide (1<=a)&&decide (a<=5))&&decide (sumI sc.sC<=12))))
theorem qmA{sc}(h:yV sc=true):GSc sc:=by
 simp only[yV,qI,decide_eq_true_eq,zA]at h;exact⟨h.1,fun a g=>by grind⟩
theorem qmB(sc):qi qe 86 [eSc sc] (aB (yV sc)):=by
 refine qSV call86 func86 rfl ?_;by_cases o:(4:Int)<sc.sC.length
 case pos =>
  simp[go_sem,o,yV,show ¬sc.sC.length<=4 by omega];exact .zsc _
 by_cases I:sc.sN<1
 case pos =>
  simp[go_sem,o,I,yV,show ¬ 1<=sc.sN by omega];exact .zsc _
 by_cases T:4<sc.sN
 case pos =>
  simp[go_sem,o,I,T,yV,show ¬sc.sN<=4 by omega];exact .zsc _
 simp[go_sem,o,I,T];refine qm.up sc.sC.length (fun k U=>U.tm 1 = .ip [lI sc.sC,aI sc.sN]/\U.tm 3=aI (sumI (sc.sC.take k))/\U.tm 4=aI k/\U.mu=[]/\0<=sumI (sc.sC.take k)/\sumI (sc.sC.take k)<=5*k/\∀(i:Nat)(h:i<sc.sC.length),i<k->1<=sc.sC[i]/\sc.sC[i]<=5) ?_ ?_
 .simp [go_sem,sumI]
 rintro k U hk ⟨p,J,r,t,s0,s1,he⟩;by_cases g:k<sc.sC.length
 .by_cases hb:sc.sC[k]<1\/5<sc.sC[k]
  .have:sc.sC.all (fun a=>decide (1<=a)&&decide (a<=5))=false:=UE g zSo
   have:yV sc=false:=by simp only[yV,this,Bool.and_false,Bool.false_and]
   rw[this];by_cases j:sc.sC[k]<1
   .simp [go_sem,p,r,t,g,j]
    exact .zsc _
   .simp [go_sem,p,r,t,g,j,show 5<sc.sC[k] by omega]
    exact .zsc _
  .have hs:=uJ sc.sC k g
   generalize hS:sumI (sc.sC.take k)=S at *
   simp[go_sem,p,J,r,t,g,hs,show ¬sc.sC[k]<1 by omega,show ¬ 5<sc.sC[k] by omega];refine⟨zWr,zWr,zOm,zOm,fun i h C=>?_⟩;rcases Nat.lt_succ_iff_lt_or_eq.1 C with P|P
   .exact he i h P
   .subst P;exact⟨zOm,zOm⟩
 .have R:k=sc.sC.length:=by omega
  subst R;rw[qP]at J;have l:sc.sC.all (fun a=>decide (1<=a)&&decide (a<=5))=true:=by
   rw[UD];intro i C;have:=he i C C;simp;omega
  simp[go_sem,p,J,r,t];simp only[yV,l,show sc.sC.length<=4 by omega,show 1<=sc.sN by omega,show sc.sN<=4 by omega];simp;exact .zsc _
theorem qmC(ts sc):qi qe 46 [eTS ts,eSc sc] (aB (decide (ts.sS.length=sc.sC.length)&&yV sc)):=by
 refine qSV call46 func46 rfl ?_;by_cases h:ts.sS.length=sc.sC.length
 .simp [go_sem,h]
  refine fR (qmB sc) (.zk (zr sc) .nil) ?_;exact .zsc _
 .simp [go_sem,h]
  exact .zsc _
def jv(ts:TS)(sc:Sc):Bool:=decide (1<=ts.sS.length)&&(decide (ts.sS.length<=4)&&(decide (ts.sA.length<=6)&&(decide (sc.sC.length<=4)&&(ts.sA.all (fldB ts.sS.length)&&(decide (ts.sS.length=sc.sC.length)&&yV sc)))))
theorem qmD(ts sc):qi qe 21 [eTS ts,eSc sc] (aB (jv ts sc)):=by
 refine qSV call21 func21 rfl ?_;by_cases I:ts.sS.length=0
 case pos =>
  have hf:jv ts sc=false:=by grind [jv]
  rw[hf];simp[go_sem,I];exact .zsc _
 by_cases T:(4:Int)<ts.sS.length
 case pos =>
  have hf:jv ts sc=false:=by grind [jv]
  rw[hf];simp[go_sem,I,T];exact .zsc _
 by_cases h2:(6:Int)<ts.sA.length
 case pos =>
  have hf:jv ts sc=false:=by grind [jv]
  rw[hf];simp[go_sem,I,T,h2];exact .zsc _
 by_cases h3:(4:Int)<sc.sC.length
 case pos =>
  have hf:jv ts sc=false:=by grind [jv]
  rw[hf];simp[go_sem,I,T,h2,h3];exact .zsc _
 simp[go_sem,I,T,h2,h3];refine kL ts.sA.length (fun k U=>U.tm 2 = .ip (cTS ts)/\U.tm 3 = .ip [lI sc.sC,aI sc.sN]/\U.tm 5=aI k/\∀(j:Nat)(h:j<ts.sA.length),j<k->fldB ts.sS.length ts.sA[j]=true) ?_ ?_
 .simp [go_sem, *]
 rintro k U hk ⟨p,J,r,hI⟩;by_cases o:k<ts.sA.length
 .have w1:=zWk k
  have l:fldB ts.sS.length ts.sA[k]=false->jv ts sc=false:=fun hb=>by
   simp only[jv,UE o hb,Bool.and_false,Bool.false_and]
  by_cases l1:(ts.sA[k].sS.length:Int)<1
  .rw [l (by grind [fldB])]
   simp[go_sem,p,r,o,l1];exact .zsc _
  by_cases l3:(3:Int)<ts.sA[k].sS.length
  .rw [l (by grind [fldB])]
   simp[go_sem,p,r,o,l1,l3];exact .zsc _
  simp[go_sem,p,r,o,l1,l3];refine kL ts.sA[k].sS.length (fun j U=>U.tm 2 = .ip (cTS ts)/\U.tm 3 = .ip [lI sc.sC,aI sc.sN]/\U.tm 5=aI k/\U.tm 6=lI ts.sA[k].sS/\U.tm 7=aI j/\∀(i:Nat)(h:i<ts.sA[k].sS.length),i<j->0<=ts.sA[k].sS[i]/\ts.sA[k].sS[i]<ts.sS.length) ?_ ?_
  .simp [go_sem, *]
  clear p J r U;rintro j U hj ⟨p,J,r,C,P,hJ⟩;by_cases g:j<ts.sA[k].sS.length
  .have w2:=zWk j
   simp[go_sem,C,P,g];refine cH zKr ?_;by_cases q1:ts.sA[k].sS[j]<0
   .rw [l (by rw[fldB,UE g zSo,Bool.and_false])]
    simp[go_sem,C,P,g,q1];exact .zsc _
   by_cases q2:(ts.sS.length:Int)<=ts.sA[k].sS[j]
   .rw [l (by rw[fldB,UE g zSo,Bool.and_false])]
    simp[go_sem,p,C,P,g,q1,q2];exact .zsc _
   simp[go_sem,p,C,P,g,q1,q2,w2]
   try refine⟨g,aK ?_⟩
   try refine aK ?_
   refine⟨zS1 p,zS1 J,zS1 r,zS1 C,zSi,fun i h hi=>?_⟩
   grind
  .have t:j=ts.sA[k].sS.length:=by omega
   simp[go_sem,r,C,P,t,w1]
   try refine⟨o,aK ?_⟩
   try refine aK ?_
   refine⟨zS1 p,zS1 J,zSi,fun i h hi=>?_⟩;by_cases a0:i=k
   .subst a0
    have:ts.sA[i].sS.all (fun x=>decide (0<=x)&&decide (x<ts.sS.length))=true:=UD.2 fun a ha=>by
     grind
    simp only[fldB,this,Bool.and_true,qI,decide_eq_true_eq];omega
   grind
 .have t:k=ts.sA.length:=by omega
  have R:ts.sA.all (fldB ts.sS.length)=true:=UD.2 fun i h=>hI i h zOm
  simp[go_sem,p,J,r,t];refine fR (qmC ts sc) (.zk (zn ts) (.zk (zr sc) .nil)) ?_;have hf:jv ts sc=(decide (ts.sS.length=sc.sC.length)&&yV sc):=by
   simp only[jv,R,show 1<=ts.sS.length by omega,show ts.sS.length<=4 by omega,show ts.sA.length<=6 by omega,show sc.sC.length<=4 by omega];simp
  rw[hf];exact .zsc _
end GQ
namespace EZ
open E1 E2 EO EP EQ ER ET EY
theorem qaI(m)(j:0<m)(x)(g:0<=x/\x<=1000000):qi qe 240 [aI x,.ip [aI m]] (aI (x / m)):=by
 refine qSV call240 func240 rfl ?_;have d1:x.tdiv m=x / m:=Int.tdiv_eq_ediv_of_nonneg g.1;have l:0<=x / m:=Int.ediv_nonneg g.1 zOm;have o:x / m<=x:=Int.ediv_le_self _ g.1;have i:qp.wrap (x / m)=x / m:=zWr;simp[go_sem,show ¬m=0 by omega,d1,i];exact .zsc _
abbrev ovF(m:Int):AV := .fn (.func 240) [] [.ip [aI m]]
theorem YL(m):HF (ovF m):=HF.fn zSp (by simp;exact jg (HF.sc _))
theorem aV(m)(g:0<m)(ok)(h:∀ x,ok x->0<=x/\x<=1000000):FnOk qe (ovF m) (fun x:Int=>aI x) ok (fun x=>aI (x / m)):=
 ⟨YL m,_,[],_,rfl,fun x i=>⟨_,.zs (.zk (jg (HF.sc _)) .nil),qaI m g x (h x i)⟩⟩
theorem qmE(m)(g:0<m)(ts x)(i:0<=x/\x<=1000000):qi qe 241 [aI x,.ip [imC (cntK (fun t=>t / m) ts)],.ip [ovF m]] (aB (decide ((getK (x / m) (cntK (fun t=>t / m) ts)).getD 0=0))):=by
 refine qSV call241 func241 rfl ?_;have j:=fun C=>XV C (fun t=>t / m) ts (x / m)
 have l:(imC (cntK (fun t=>t / m) ts)).cells=[imC (cntK (fun t=>t / m) ts)]:=rfl;have o:(imC (cntK (fun t=>t / m) ts)).one=true:=rfl;generalize imC (cntK (fun t=>t / m) ts)=B at *
 simp[go_sem];refine fM ?_;refine fW (qaI m g x i) (.zs (.zk (jg (HF.sc _)) .nil)) ?_;simp[go_sem,j];exact .zsc _
theorem qmF(m ts x):(getK (x / m) (cntK (fun t=>t / m) ts)).getD 0=0↔∀ u,u∈ts->u / m≠x / m:=by
 obtain⟨l,i⟩:=me (fun t=>t / m) ts (x / m);constructor
 .intro h u g e
  have:=i.2 ⟨u,g,e⟩;omega
 .intro h
  have:¬ 0<(getK (x / m) (cntK (fun t=>t / m) ts)).getD 0:=fun j=>by
   obtain⟨u,g,e⟩:=i.1 j;exact h u g e
  omega
theorem overU(n)(p:0<=n)(a8:n<=12)(a b)(P:GR n a)(C:GR n b)(e:a.ar=b.ar):qi qe 213 [aI n,eRel a,eRel b] (eRel (ovR n a b)):=by
 refine qSV call213 func213 rfl ?_;have b1:=C.ar1;have b3:=C.ar3;have la:=P.len p zOm;have lb:=C.len p zOm;by_cases J:n=0
 .have hr:ovR n a b=⟨a.ar,[]⟩:=by
   unfold ovR unR;rw[GR.none J P,GR.none J C,e];rfl
  rw[hr];simp[go_sem,J];exact Yx
 have w2:qp.wrap (b.ar-1)=b.ar-1:=zWr;have hp:0<powI n (b.ar-1):=Int.pow_pos zOm;obtain⟨p0,p1⟩:=Qg (k:=b.ar-1) p (by omega:n<=20);obtain⟨q0,q1⟩:=Qg (k:=b.ar) p (by omega:n<=20);obtain⟨r0,r1⟩:=Qg (k:=a.ar) p (by omega:n<=20);have R:∀ t,t∈a.ts->0<=t/\t<=1000000:=fun t T=>zW1 (P.val t T)
 have U:∀ t,t∈b.ts->0<=t/\t<=1000000:=fun t T=>zW1 (C.val t T)
 have a0:=XW n p zOm (b.ar-1) zOm zOm;unfold ovR;generalize powI n (b.ar-1)=m at *
 have a1:=setU b (ovF m) (fun t=>t / m) (aV m hp (·∈b.ts) U) zOm;have g:=ZU (cntK (fun t=>t / m) b.ts);have hk:=XT a.ts (.fn (.func 241) [] [.ip [imC (cntK (fun t=>t / m) b.ts)],.ip [ovF m]]) (fun t=>decide (∀ u,u∈b.ts->u / m≠t / m)) ⟨HF.fn zSp (by simp;exact⟨jg g,jg (YL m)⟩),_,[],_,rfl,fun x l=>⟨_,.zs (.zk (jg g) (.zk (jg (YL m)) .nil)),by have:=qmE m hp b.ts x (R x l);simp only[qmF m b.ts x]at this;exact this⟩⟩ zOm;have a2:(imC (cntK (fun t=>t / m) b.ts)).cells=[imC (cntK (fun t=>t / m) b.ts)]:=rfl;have a3:(imC (cntK (fun t=>t / m) b.ts)).one=true:=rfl;generalize imC (cntK (fun t=>t / m) b.ts)=B at *
 have a4:WKs [lI a.ts,.fn (.func 241) [] [.ip [B],.ip [ovF m]]] [lI a.ts,.fn (.func 241) [] [.ip [B],.ip [ovF m]]] := .zk (zh _) (.cons (.hf (HF.fn zSp (by simp;exact⟨jg g,jg (YL m)⟩))) .nil);have a5:=List.length_filter_le (fun t=>decide (∀ u,u∈b.ts->u / m≠t / m)) a.ts;have hu:=vB b ⟨a.ar,a.ts.filter fun t=>decide (∀ u,u∈b.ts->u / m≠t / m)⟩ zOm (zL a5 zOm);have a6:=wkR2 b ⟨a.ar,a.ts.filter fun t=>decide (∀ u,u∈b.ts->u / m≠t / m)⟩;generalize a.ts.filter (fun t=>decide (∀ u,u∈b.ts->u / m≠t / m))=K at *
 simp[go_sem,J];rw[w2];refine fR a0 (.zs (.zs .nil)) ?_;refine fQ (qE.freezeM (args1:=[eRel b,ovF m]) (mu':=[.arr [aI 0,.lst true []],.dead,.arr [ovF m]]) (fun i=>i == 1) ?_ ?_ (a1.toSound _ (.zk (qY b) (.zk (YL m) .nil)))) ?_ ?_
 .exact ⟨.same _,.fn _ _ _ _ _ rfl rfl zSp (fun k x y l I=>by
   match k with
   | 0=>simp at l I;subst l;subst I;exact .rd _ _ (Rd.ip1 rfl (.hf _ (HF.sc _)))
   |k+1=>simp at l),trivial⟩
 .refine ⟨rfl,fun i c' o h2=>?_⟩
  match i with
  | 0=>simp at o;subst o;exact⟨rfl,_,rfl,zSp,.inl rfl⟩
  | 1=>simp at o;exact absurd o.symm h2
  | 2 =>
   simp at o;subst o;exact⟨rfl,_,rfl,zSp,.inr ⟨_,_,rfl,rfl,⟨.fn _ _ _ _ _ rfl rfl zSp (fun k x y l I=>by
    match k with
    | 0=>simp at l I;subst l;subst I;exact .rd _ _ (Rd.ip1 rfl (.hf _ (HF.sc _)))
    |k+1=>simp at l),trivial⟩,rfl⟩⟩
  |i+3=>simp at o
 .rintro r j ⟨h,rfl⟩
  cases h;simp[go_sem,a2,a3];refine qj.fz (FzQ.one (d:=8) (b:=2) (x := .ip [ovF m]) (Rd.ip1 rfl (.hf _ (YL m))) ?_);refine qj.fz (FzQ.one (d:=9) (b:=3) (x := .ip [B]) ?_ ?_)
  .simp [go_sem,cutM]
   exact Rd.ip1 rfl (.hf _ g)
  simp[go_sem,cutM];refine fM ?_;refine fR hk a4 ?_;refine fR hu a6 ?_;exact .hf _ (qY _)
 .rintro r j ⟨h,rfl⟩
  cases h
end EZ
namespace EA
open Y1 Y9 P2 E1 E2 E3 E7
section
variable {nm:tA}{ds:List Den}{x:Mo}{N:Nat}{p:Pl}
structure OkM (x:Mo) (N:Nat):Prop extends OkX x N where
 n0:0<=x.n
 n12:x.n<=12
 st:∀ s,s<N->(x.m.sK.getD s []).length=x.ts.sA.length/\∀ r,r∈x.m.sK.getD s []->GR x.n r
 at0:∀ i,i<x.ts.sS.length->0<=gI x.m.sc.sC i/\0<=sumI (x.m.sc.sC.take i)/\sumI (x.m.sc.sC.take i)+gI x.m.sc.sC i<=x.n
structure OkP (x:Mo) (N:Nat) (p:Pl):Prop where
 st:p.st<N
 env:∀ e,e∈p.env->0<=e.2/\e.2<x.n
theorem OkP.nx(h:OkM x N)(k:OkP x N p):OkP x N ⟨x.nx p.st,p.env⟩:=⟨h.nx _ k.st,k.env⟩
theorem OkP.bind(k:OkP x N p){nm a}(i:0<=a/\a<x.n):OkP x N ⟨p.st,p.env++[(nm,a)]⟩:=⟨k.st,fun e g=>by
 rcases qK.1 g with g|g
 .exact k.env e g
 grind⟩
theorem jj{J i q}{g:J->XE i}{r}(h:bX q g = .ok r):∃ a,q = .ok a/\g a = .ok r:=by
 cases q with
 |error e=>cases h
 |ok a=>exact⟨a,rfl,h⟩
theorem qaJ{a}:∀{env:List (tA×Int)}{r},env.foldl (fun r e=>if e.1=nm then some e.2 else r) r=some a->r=some a\/∃ e,e∈env/\e.2=a
 | [],r,h => .inl h
 |e :: env,r,h=>by
  rw[List.foldl_cons]at h;rcases qaJ h with h|⟨g,i,j⟩
  .split at h
   .grind
   grind
  grind
theorem qmG{fs i r}(h:r∈vZ fs i nm):r∈i:=by
 unfold vZ at h;obtain⟨e,j,g⟩:=List.mem_filterMap.1 h;split at g
 .cases g;exact(List.of_mem_zip (a:=e.1) (b:=e.2) j).2
 .cases g
theorem qaK(h:OkM x N)(nm):∀ so i,i+so.length<=x.ts.sS.length->∀ r,r∈jf x nm i so->GR x.n r
 | [],i,_,r,g=>by cases g
 |s :: so,i,l,r,g=>by
  simp only[zu]at l;obtain⟨C,o,I⟩:=h.at0 i zOm;rw[jf]at g;simp only[qK]at g;have j:GR x.n ⟨1,zD x i⟩:=GR.run _ o zOm;rcases g with g|g|g|g
  .grind
  .split at g
   .rw [qV]at g;subst g
    exact⟨j.ar1,j.ar3,fun t p=>j.val t (jD p),List.Pairwise.sublist (List.take_sublist _ _) j.srt⟩
   .cases g
  .grind [qV,gI,Qi,GR.nil,GR.sN]
  .exact qaK h nm so (i+1) zOm r g
theorem qmH{l r}(h:JU l = .ok r):r∈l:=by
 match l,h with
 | [q],h=>cases h;exact zl ..
theorem qmI(h:OkM x N){p}(k:OkP x N p){nm r}(e:Yt x p nm = .ok r):GR x.n r:=by
 unfold Yt at e;cases i:ZS nm p.env with
 |some a =>
  rw[i]at e;cases e;rcases qaJ i with g|⟨b,j,rfl⟩
  .cases g
  .exact GR.one (k.env b j).1 (k.env b j).2
 |none =>
  rw[i]at e;rcases qK.1 (qmH e) with g|g
  .exact (h.st _ k.st).2 r (qmG g)
  .exact qaK h nm _ 0 zOm r g
theorem Kt{J}{g:Int->XE J}:∀{ts l},mapX (fun a=>bX (g a) fun b => .ok (a,b)) ts = .ok l->l.map Prod.fst=ts
 | [],l,h=>by cases h;rfl
 |t :: ts,l,h=>by
  rw[mapX]at h;obtain⟨b,i,j⟩:=jj h;obtain⟨c,I,o⟩:=jj i;cases o;obtain⟨r,p,C⟩:=jj j;cases C;rw[List.map_cons,Kt p]
theorem qaL{l}(h:vA ds nm p = .ok l):∃ d,(kD ds 0).E p = .ok d/\d.ar=1/\l.map Prod.fst=d.ts:=by
 unfold vA at h;obtain⟨d,i,g⟩:=jj h;split at g
 .rename_i j;exact⟨d,i,j,Kt g⟩
 .cases g
theorem wB{q}(h:yI ds p = .ok q):(kD ds 0).E p = .ok q.1/\(kD ds 1).E p = .ok q.2/\q.1.ar=q.2.ar:=by
 unfold yI at h;obtain⟨a,i,g⟩:=jj h;obtain⟨b,j,l⟩:=jj g
 grind
theorem YN{a}(h:binE ds p = .ok a):(kD ds 0).E p = .ok a/\a.ar=2:=by
 unfold binE at h;obtain⟨b,i,g⟩:=jj h;split at g
 .grind
 .cases g
theorem qmJ(h:OkM x N){op nm i ds}(hi:op=2->1<=i/\i<=3)(I:∀ j p r,OkP x N p->(kD ds j).E p = .ok r->GR x.n r){p}(k:OkP x N p){r}(e:opE x op nm i ds p = .ok r):GR x.n r:=by
 have n0:=h.n0;unfold opE at e;by_cases o1:op=1
 .rw [if_pos o1]at e
  exact qmI h k e
 rw[if_neg o1]at e;by_cases o2:op=2
 .rw [if_pos o2]at e
  grind [GR.nil]
 rw[if_neg o2]at e;by_cases o3:op=3
 .rw [if_pos o3]at e
  cases e;have:=GR.run (n:=x.n) (a:=0) x.n.toNat zOm zOm
  grind
 rw[if_neg o3]at e;by_cases o4:op=4
 .rw [if_pos o4]at e
  cases e;exact aX n0
 rw[if_neg o4]at e;by_cases o5:op=5
 .rw [if_pos o5]at e
  exact I 0 _ r (k.nx h) e
 rw[if_neg o5]at e;by_cases o6:op=6
 .rw [if_pos o6]at e
  obtain⟨q,g,o⟩:=jj e;obtain⟨g1,C,J⟩:=wB g
  grind [aC]
 rw[if_neg o6]at e;by_cases o7:op=7
 .rw [if_pos o7]at e
  obtain⟨q,g,o⟩:=jj e;obtain⟨g1,C,J⟩:=wB g;cases o;exact GR.filter (I 0 p _ k g1) _
 rw[if_neg o7]at e;by_cases o8:op=8
 .rw [if_pos o8]at e
  obtain⟨q,g,o⟩:=jj e;obtain⟨g1,C,J⟩:=wB g;cases o;exact GR.filter (I 0 p _ k g1) _
 rw[if_neg o8]at e;by_cases o9:op=9
 .rw [if_pos o9]at e
  obtain⟨a,g,o⟩:=jj e;obtain⟨b,h3,h4⟩:=jj o
  grind [wo,GR.join]
 rw[if_neg o9]at e;by_cases P:op=10
 .rw [if_pos P]at e
  obtain⟨a,g,o⟩:=jj e;obtain⟨b,h3,h4⟩:=jj o
  grind [Zj,aG]
 rw[if_neg P]at e;by_cases R:op=11
 .rw [if_pos R]at e
  obtain⟨a,g,o⟩:=jj e;obtain⟨g1,C⟩:=YN g
  grind [GR.trans]
 rw[if_neg R]at e;by_cases T:op=12
 .rw [if_pos T]at e
  obtain⟨a,g,o⟩:=jj e;obtain⟨g1,C⟩:=YN g
  grind [aR]
 rw[if_neg T]at e;by_cases U:op=13
 .rw [if_pos U]at e
  obtain⟨a,g,o⟩:=jj e;obtain⟨g1,C⟩:=YN g;obtain⟨c1,c2⟩:=aR n0 200 (I 0 p _ k g1) C;cases o;exact aC c1 (aX n0) c2
 rw[if_neg U]at e;by_cases a0:op=14
 .rw [if_pos a0]at e
  obtain⟨q,g,o⟩:=jj e;obtain⟨g1,C,J⟩:=wB g
  grind [aW]
 rw[if_neg a0]at e;by_cases a1:op=15
 .rw [if_pos a1]at e
  obtain⟨l,g,o⟩:=jj e;obtain⟨d,g1,C,J⟩:=qaL g;cases o;have gd:=I 0 p d k g1;have hs:List.Sublist ((l.filter fun e=>e.2).map fun e=>e.1) d.ts:=by rw[<-J];exact List.Sublist.map _ List.filter_sublist
  refine⟨by grind,by grind,fun t ht=>?_,List.Pairwise.sublist hs gd.srt⟩;have:=gd.val t (hs.subset ht)
  grind
 rw[if_neg a1]at e;cases e
theorem qaM(h:OkM x N):∀ m n,szN n<=m->WfN n->∀ p r,OkP x N p->(den x n).E p = .ok r->GR x.n r
 | 0,n,o,_,_,_,_,_=>by obtain⟨op,nm,i,ks,p⟩:=n;simp[szN]at o
 |m+1,n,o,t,p,r,k,e=>by
  rw[Us]at e;refine qmJ h t.num (fun j p r k e=>?_) k e;unfold kD at e;by_cases g:j<n.sD.length
  .have l:(n.sD.map (den x)).getD j noD=den x n.sD[j]:=by simp[List.getD,g]
   rw[l]at e;exact qaM h m n.sD[j] (zW1 (yw (qs g))) (t.kid (qs g)) p r k e
  .have l:(n.sD.map (den x)).getD j noD=noD:=by simp[List.getD,g]
   rw[l]at e;cases e
end
end EA
namespace F2
open Y1 Y9 E1 E2 E3 EA EQ ER EY EZ F1
structure Ev3 (x:Mo) (p:Pl) (n:Nd):Prop where
 E:qZ qe 125 [eMa x,ePl p,eNd n] (endE ((den x n).E p))
 N:qZ qe 126 [eMa x,ePl p,eNd n] (endN ((den x n).N p))
 F:qZ qe 78 [eMa x,ePl p,eNd n] (endB ((den x n).F p))
 G:∀ r,(den x n).E p = .ok r->GR x.n r
structure OkMa (x:Mo) (N:Nat):Prop extends OkM x N where
 gsc:GSc x.m.sc
 pos:∀ a,a∈x.m.sc.sC->0<=a
 al:x.m.sc.sC.length=x.ts.sS.length
 loop:0<=x.m.loop
 N1:N<=1000
 ts:okTS x.ts
mutual
def dN:Nd->Nat
 | .mk _ _ _ ks _=>dNs ks+1
def dNs:List Nd->Nat
 | []=>0
 |k :: ks=>max (dN k) (dNs ks)
end
theorem qaN(n):dN n=dNs n.sD+1:=by
 obtain⟨op,o,i,ks,p⟩:=n;rfl
theorem qmK{ks k}(h:k∈ks):dN k<=dNs ks:=by
 induction ks with
 |nil=>simp at h
 |cons a l g =>
  simp only[dNs];rcases qy.1 h with rfl|h
  .omega
  .have:=g h;omega
theorem qmL{n k}(h:k∈n.sD):dN k<dN n:=by
 have:=qmK h;rw[qaN n];omega
abbrev IH(x:Mo)(N:Nat)(n:Nd):Prop:=∀ k,k∈n.sD->∀ p:Pl,OkP x N p->p.env.length+dN n<=1000001->Ev3 x p k
abbrev bd(p:Pl)(n:Nd):Prop:=p.env.length+dN n<=1000000
theorem qmM{mu r s x y}(h:Rd mu x (eRel r))(j:Rd mu y (eRel s)):Rd mu (.tup [x,y]) (.tup [eRel r,eRel s]):=by
 refine .tup _ _ rfl fun k u v g i=>?_
 match k with
 | 0=>simp at g i;subst g;subst i;exact h
 | 1=>simp at g i;subst g;subst i;exact j
 |k+2=>simp at g
theorem YO(x N n a b)(i:n.sD=[a,b])(t:IH x N n)(p)(C:OkP x N p)(U:bd p n) :
  qZ qe 124 [eMa x,ePl p,eNd n] (end2 (yI [den x a,den x b] p)):=by
 refine zi.of_sound ?_;refine qSW call124 func124 rfl {} ?_;have j:=(t a (by rw[i];simp) p C zOm).E;have l:=(t b (by rw[i];simp) p C zOm).E;have I:=wk3 x p a;have J:=wk3 x p b;have hM:=zY x;generalize g:yI [den x a,den x b] p=E;unfold yI at g;simp only[kD,uA,List.getD_cons_succ]at g;generalize eMa x=M at *
 simp[go_sem];refine fD [0,1,2,3,4,5,7,8,9,10,11,12,6,13,14,15,16,17] [(0,0,[]),(1,0,[]),(2,0,[]),(3,0,[]),(4,0,[]),(5,0,[]),(7,0,[]),(8,0,[]),(9,0,[]),(10,0,[]),(11,0,[]),(12,0,[]),(6,1,[8,10,12]),(13,1,[]),(14,2,[1,3,5,8,10,12]),(15,2,[1,3,5,8,10,12]),(16,1,[]),(17,1,[])] zKr zKr zSi ?_;simp[go_sem,i];cases P:(den x a).E p with
 |error e =>
  rw[P]at j g;subst g;refine fZ j I ?_;simp[go_sem];exact .hf _ (qR _)
 |ok r =>
  rw[P]at j g;rw[zC]at g;refine cQ j.toP I ?_;simp[go_sem,i];cases R:(den x b).E p with
  |error e =>
   rw[R]at l g;subst g;refine fZ l J ?_;simp[go_sem];exact .hf _ (qR _)
  |ok s =>
   rw[R]at l g;rw[zC]at g;refine cQ l.toP J ?_;by_cases o:r.ar=s.ar
   .rw [if_pos o]at g
    subst g;have T:(r.ar=s.ar)=True:=eq_true o;simp[go_sem,i,T];refine fD [0,1,2,3] [(0,0,[]),(1,0,[]),(2,1,[1]),(3,1,[])] zKr zKr zSi ?_;simp[go_sem];exact qmM (.hf _ (qY r)) (.hf _ (qY s))
   .rw [if_neg o]at g
    subst g;simp[go_sem,i,o];refine fZ (wq 42) (wkI 42) ?_;simp[go_sem];exact .hf _ (qR _)
theorem qmN(x N n a b)(i:OkMa x N)(j:n.sD=[a,b])(l:IH x N n)(p)(o:OkP x N p)(P:bd p n) :
  qZ qe 171 [eMa x,ePl p,eNd n] (endE (bX (yI [den x a,den x b] p) fun q => .ok (unR q.1 q.2))):=by
 refine zi.of_sound ?_;refine qSW call171 func171 rfl {} ?_;have g:=YO x N n a b j l p o P;have C:=wk3 x p n;have R:=zY x;cases t:yI [den x a,den x b] p with
 |error e =>
  rw[t]at g;rw[zH];simp[go_sem];refine fZ g C ?_;simp[go_sem];exact .hf _ (qR _)
 |ok q =>
  obtain⟨r,s⟩:=q;obtain⟨I,J,h3⟩:=wB t;simp only[kD,uA,List.getD_cons_succ]at I J;have T:=(l a (by rw[j];simp) p o zOm).G _ I;have U:=(l b (by rw[j];simp) p o zOm).G _ J;have lr:=T.len i.n0 (zW1 i.n12);have ls:=U.len i.n0 (zW1 i.n12);rw[t]at g;rw[zC];simp[go_sem];refine fR g.toP C ?_;refine fR (vB r s zOm zOm) (wkR2 r s) ?_;exact .hf _ (qY _)
theorem qmO(x N n a b)(i:OkMa x N)(j:n.sD=[a,b])(l:IH x N n)(p)(o:OkP x N p)(P:bd p n) :
  qZ qe 172 [eMa x,ePl p,eNd n] (endE (bX (yI [den x a,den x b] p) fun q => .ok (inR q.1 q.2))):=by
 refine zi.of_sound ?_;refine qSW call172 func172 rfl {} ?_;have g:=YO x N n a b j l p o P;have C:=wk3 x p n;have R:=zY x;cases t:yI [den x a,den x b] p with
 |error e =>
  rw[t]at g;rw[zH];simp[go_sem];refine fZ g C ?_;simp[go_sem];exact .hf _ (qR _)
 |ok q =>
  obtain⟨r,s⟩:=q;obtain⟨I,J,h3⟩:=wB t;simp only[kD,uA,List.getD_cons_succ]at I J;have T:=(l a (by rw[j];simp) p o zOm).G _ I;have U:=(l b (by rw[j];simp) p o zOm).G _ J;have lr:=T.len i.n0 (zW1 i.n12);have ls:=U.len i.n0 (zW1 i.n12);rw[t]at g;rw[zC];simp[go_sem];refine fR g.toP C ?_;refine fR (Uz r s zOm zOm) (wkR2 r s) ?_;exact .hf _ (qY _)
theorem diffX(x N n a b)(i:OkMa x N)(j:n.sD=[a,b])(l:IH x N n)(p)(o:OkP x N p)(P:bd p n) :
  qZ qe 173 [eMa x,ePl p,eNd n] (endE (bX (yI [den x a,den x b] p) fun q => .ok (diR q.1 q.2))):=by
 refine zi.of_sound ?_;refine qSW call173 func173 rfl {} ?_;have g:=YO x N n a b j l p o P;have C:=wk3 x p n;have R:=zY x;cases t:yI [den x a,den x b] p with
 |error e =>
  rw[t]at g;rw[zH];simp[go_sem];refine fZ g C ?_;simp[go_sem];exact .hf _ (qR _)
 |ok q =>
  obtain⟨r,s⟩:=q;obtain⟨I,J,h3⟩:=wB t;simp only[kD,uA,List.getD_cons_succ]at I J;have T:=(l a (by rw[j];simp) p o zOm).G _ I;have U:=(l b (by rw[j];simp) p o zOm).G _ J;have lr:=T.len i.n0 (zW1 i.n12);have ls:=U.len i.n0 (zW1 i.n12);rw[t]at g;rw[zC];simp[go_sem];refine fR g.toP C ?_;refine fR (mr r s zOm zOm) (wkR2 r s) ?_;exact .hf _ (qY _)
theorem overX(x N n a b)(i:OkMa x N)(j:n.sD=[a,b])(l:IH x N n)(p)(o:OkP x N p)(T:bd p n) :
  qZ qe 174 [eMa x,ePl p,eNd n] (endE (bX (yI [den x a,den x b] p) fun q => .ok (ovR x.n q.1 q.2))):=by
 refine zi.of_sound ?_;refine qSW call174 func174 rfl {} ?_;have g:=YO x N n a b j l p o T;have C:=wk3 x p n;have U:=zY x;cases t:yI [den x a,den x b] p with
 |error e =>
  rw[t]at g;rw[zH];simp[go_sem];refine fZ g C ?_;simp[go_sem];exact .hf _ (qR _)
 |ok q =>
  obtain⟨r,s⟩:=q;obtain⟨I,J,h3⟩:=wB t;simp only[kD,uA,List.getD_cons_succ]at I J;have P:=(l a (by rw[j];simp) p o zOm).G _ I;have R:=(l b (by rw[j];simp) p o zOm).G _ J;have lr:=P.len i.n0 (zW1 i.n12);have ls:=R.len i.n0 (zW1 i.n12);rw[t]at g;rw[zC];simp[go_sem];refine fR g.toP C ?_;refine fM ?_;refine fR (overU x.n i.n0 i.n12 r s P R h3) (wkJ x.n r s) ?_;exact .hf _ (qY _)
end F2
namespace F3
open Y1 E1 E2 E3 EA EL EQ ET EY F1 F2
theorem aJ{x N}(h:OkMa x N):x.n<=20:=by have:=h.n12;omega
theorem aL{n}(p:0<=n)(l:n<=12){a b}(C:GR n a)(I:GR n b)(h:a.ar+b.ar<=5):a.ts.length*b.ts.length<=1000000:=by
 have key:∀{c:Rl},GR n c->(c.ar=1->c.ts.length<=12)/\(c.ar=2->c.ts.length<=144)/\c.ts.length<=1728:=fun {c} g=>by
  have U:n*n<=12*12:=jE l l p zOm;have a0:0<=n*n:=Int.mul_nonneg p p;have e3:n*n*n<=12*12*12:=jE U l p zOm;have J:powI n 1=n:=uO n;have P:powI n 2=n*n:=EC.mz n;have p3:powI n 3=n*n*n:=by
   have:=wt (n:=n) (i:=2) (j:=1) zOm zOm zOm;rw[J,P]at this;exact this
  have c1:=g.ar1;have c3:=g.ar3;refine⟨fun e=>JT g.srt fun t o=>?_,fun e=>JT g.srt fun t o=>?_,JT g.srt fun t o=>?_⟩
  .have:=g.val t o;rw[e,J]at this;omega
  .have:=g.val t o;rw[e,P]at this;omega
  .have hv:=g.val t o
   have:c.ar=1\/c.ar=2\/c.ar=3:=zOm;rcases this with e|e|e
   .grind
   .grind
   grind
 obtain⟨a1,a2,R⟩:=key C;obtain⟨b1,b2,T⟩:=key I;have:=C.ar1;have:=I.ar1;by_cases ea:a.ar=1
 .exact zL (Nat.mul_le_mul (a1 ea) T) zOm
 .by_cases eb:b.ar=1
  .exact zL (Nat.mul_le_mul R (b1 eb)) zOm
  .by_cases r:a.ar=2
   .exact zL (Nat.mul_le_mul (a2 r) T) zOm
   .exact zL (Nat.mul_le_mul R (b2 zOm)) zOm
theorem qaO(x N n a i)(j:n.sD=a :: i)(I:IH x N n)(p)(J:OkP x N p)(R:bd p n) :
  qZ qe 218 [eMa x,ePl p,eNd n] (endE (binE [den x a] p)):=by
 refine zi.of_sound ?_;refine qSW call218 func218 rfl {} ?_;have l:=(I a (by rw[j];simp) p J zOm).E;have t:=wk3 x p a;generalize g:binE [den x a] p=E;unfold binE at g;simp only[kD,uA]at g;generalize eMa x=M at *
 simp[go_sem];refine fD [0,1,2,3,4,5,6,7,8] [(0,0,[]),(1,0,[]),(2,0,[]),(3,0,[]),(4,0,[]),(5,0,[]),(6,1,[]),(7,2,[1,3,5]),(8,1,[])] zKr zKr zSi ?_;simp[go_sem,j];cases C:(den x a).E p with
 |error e =>
  rw[C]at l g;subst g;refine fZ l t ?_;simp[go_sem,zH];exact .hf _ (qR _)
 |ok r =>
  rw[C]at l g;rw[zC]at g;refine cQ l.toP t ?_;by_cases o:r.ar=2
  .rw [if_pos o]at g
   subst g;have P:(r.ar=2)=True:=eq_true o;simp[go_sem,j,P];exact .hf _ (qY r)
  .rw [if_neg o]at g
   subst g;simp[go_sem,j,o];refine fZ (wq 42) (wkI 42) ?_;simp[go_sem];exact .hf _ (qR _)
theorem joinX(x N n a b)(T:OkMa x N)(i:n.sD=[a,b])(U:IH x N n)(p)(hp:OkP x N p)(hq:bd p n) :
  qZ qe 175 [eMa x,ePl p,eNd n] (endE (bX ((den x a).E p) fun r=>bX ((den x b).E p) fun s=>wo x.n r s)):=by
 refine zi.of_sound ?_;refine qSW call175 func175 rfl {} ?_;have ia:=U a (by rw[i];simp) p hp zOm;have ib:=U b (by rw[i];simp) p hp zOm;have l:=ia.E;have o:=ib.E;have wa:=wk3 x p a;have wb:=wk3 x p b;have t:=T.n0;have g1:=T.n12;generalize g:(bX ((den x a).E p) fun r=>bX ((den x b).E p) fun s=>wo x.n r s)=E;simp[go_sem];refine fD [0,1,2,3,4,5,7,8,9,10,11,12,6,13,14,15,16,17] [(0,0,[]),(1,0,[]),(2,0,[]),(3,0,[]),(4,0,[]),(5,0,[]),(7,0,[]),(8,0,[]),(9,0,[]),(10,0,[]),(11,0,[]),(12,0,[]),(6,1,[8,10,12]),(13,1,[]),(14,2,[1,3,5,8,10,12]),(15,2,[1,3,5,8,10,12]),(16,1,[]),(17,1,[])] zKr zKr zSi ?_;simp[go_sem,i];cases I:(den x a).E p with
 |error e =>
  rw[I]at l g;subst g;refine fZ l wa ?_;simp[go_sem,zH];exact .hf _ (qR _)
 |ok r =>
  rw[I]at l g;rw[zC]at g;refine cQ l.toP wa ?_;simp[go_sem,i];cases J:(den x b).E p with
  |error e =>
   rw[J]at o g;subst g;refine fZ o wb ?_;simp[go_sem,zH];exact .hf _ (qR _)
  |ok s =>
   rw[J]at o g;rw[zC]at g;refine cQ o.toP wb ?_;have P:=ia.G _ I;have R:=ib.G _ J;have lr:=P.len t zOm;have ls:=R.len t zOm;simp[go_sem,i];refine fD [0,1,2,3,4,5,6,7,8,9,10] [(0,0,[]),(1,0,[]),(2,0,[]),(3,0,[]),(4,0,[]),(5,0,[]),(6,1,[]),(7,0,[]),(8,0,[]),(9,1,[]),(10,1,[])] zKr zKr zSi ?_;simp[go_sem];have C:=wm x.n t g1 r s P R (aL t g1 P R);cases ej:wo x.n r s with
   |error e =>
    rw[ej]at C g;subst g;have he:e≠0:=by
     grind [wo]
    have j:=Uw ⟨0,[]⟩ e;rw[if_neg he]at j;refine fR C (wkJ x.n r s) ?_;refine fZ j (.zk (qY _) (.zs .nil)) ?_;simp[go_sem];exact .hf _ (qR _)
   |ok u =>
    rw[ej]at C g;subst g;have j:=Uw u 0;rw[if_pos rfl]at j;refine fR C (wkJ x.n r s) ?_;refine fR j.toP (.zk (qY _) (.zs .nil)) ?_;exact .hf _ (qY u)
theorem qmP(x N n a b)(P:OkMa x N)(i:n.sD=[a,b])(R:IH x N n)(p)(T:OkP x N p)(hq:bd p n) :
  qZ qe 176 [eMa x,ePl p,eNd n] (endE (bX ((den x a).E p) fun r=>bX ((den x b).E p) fun s=>Zj x.n r s)):=by
 refine zi.of_sound ?_;refine qSW call176 func176 rfl {} ?_;have U:=R a (by rw[i];simp) p T zOm;have ib:=R b (by rw[i];simp) p T zOm;have l:=U.E;have o:=ib.E;have wa:=wk3 x p a;have wb:=wk3 x p b;have C:=P.n0;have g1:=P.n12;generalize g:(bX ((den x a).E p) fun r=>bX ((den x b).E p) fun s=>Zj x.n r s)=E;simp[go_sem];refine fD [0,1,2,3,4,5,7,8,9,10,11,12,6,13,14,15,16,17] [(0,0,[]),(1,0,[]),(2,0,[]),(3,0,[]),(4,0,[]),(5,0,[]),(7,0,[]),(8,0,[]),(9,0,[]),(10,0,[]),(11,0,[]),(12,0,[]),(6,1,[8,10,12]),(13,1,[]),(14,2,[1,3,5,8,10,12]),(15,2,[1,3,5,8,10,12]),(16,1,[]),(17,1,[])] zKr zKr zSi ?_;simp[go_sem,i];cases I:(den x a).E p with
 |error e =>
  rw[I]at l g;subst g;refine fZ l wa ?_;simp[go_sem,zH];exact .hf _ (qR _)
 |ok r =>
  rw[I]at l g;rw[zC]at g;refine cQ l.toP wa ?_;simp[go_sem,i];cases J:(den x b).E p with
  |error e =>
   rw[J]at o g;subst g;refine fZ o wb ?_;simp[go_sem,zH];exact .hf _ (qR _)
  |ok s =>
   rw[J]at o g;rw[zC]at g;refine cQ o.toP wb ?_;have gr:=U.G _ I;have gs:=ib.G _ J;have lr:=gr.len C zOm;have ls:=gs.len C zOm;simp[go_sem,i];refine fD [0,1,2,3,4,5,6,7,8,9,10] [(0,0,[]),(1,0,[]),(2,0,[]),(3,0,[]),(4,0,[]),(5,0,[]),(6,1,[]),(7,0,[]),(8,0,[]),(9,1,[]),(10,1,[])] zKr zKr zSi ?_;simp[go_sem];have t:=Xz x.n C g1 r s gr gs;cases ej:Zj x.n r s with
   |error e =>
    rw[ej]at t g;subst g;have he:e≠0:=by
     grind [Zj]
    have j:=Uw ⟨0,[]⟩ e;rw[if_neg he]at j;refine fR t (wkJ x.n r s) ?_;refine fZ j (.zk (qY _) (.zs .nil)) ?_;simp[go_sem];exact .hf _ (qR _)
   |ok u =>
    rw[ej]at t g;subst g;have j:=Uw u 0;rw[if_pos rfl]at j;refine fR t (wkJ x.n r s) ?_;refine fR j.toP (.zk (qY _) (.zs .nil)) ?_;exact .hf _ (qY u)
theorem qmQ(x N n a)(g:OkMa x N)(j:n.sD=[a])(J:IH x N n)(p)(t:OkP x N p)(P:bd p n) :
  qZ qe 180 [eMa x,ePl p,eNd n] (endE ((den x a).E ⟨x.nx p.st,p.env⟩)):=by
 refine zi.of_sound ?_;refine qSW call180 func180 rfl {} ?_;have i:=(J a (by rw[j];simp) _ (OkP.nx g.toOkM t) (by grind)).E;have C:=wk3 x ⟨x.nx p.st,p.env⟩ a;have R:=g.N1;have T:=g.len;have l:=XK x g.loop zOm p.st (zW1 t.st);have o:WKs [eMd x.m,aI p.st] [eMd x.m,aI p.st] := .zk (yx x.m) (.zs .nil);simp[go_sem];refine fD [0,1,2,3,4,5,6,8,9,11,12,13,14,7,10,15,16] [(0,0,[]),(1,0,[]),(2,0,[]),(3,0,[]),(4,0,[]),(5,0,[]),(6,0,[]),(8,0,[]),(9,0,[]),(11,0,[]),(12,0,[]),(13,0,[]),(14,0,[]),(7,1,[9,12,14]),(10,0,[]),(15,1,[]),(16,1,[])] zKr zKr zSi ?_;simp[go_sem,j];refine cQ l o ?_;simp[go_sem,j];cases I:(den x a).E ⟨x.nx p.st,p.env⟩ with
 |error e =>
  rw[I]at i;refine fZ i C ?_;simp[go_sem];exact .hf _ (qR _)
 |ok r =>
  rw[I]at i;refine fR i.toP C ?_;exact .hf _ (qY r)
theorem wkT(n a):WKs [aI n,eRel a] [aI n,eRel a] := .zs (.zk (qY a) .nil)
theorem qmR(x N n a)(j:OkMa x N)(l:n.sD=[a])(o:IH x N n)(p)(t:OkP x N p)(J:bd p n) :
  qZ qe 177 [eMa x,ePl p,eNd n] (endE (bX (binE [den x a] p) fun a => .ok (trR x.n a))):=by
 refine zi.of_sound ?_;refine qSW call177 func177 rfl {} ?_;have g:=qaO x N n a [] l o p t J;have C:=wk3 x p n;have P:=zY x;have R:=j.n0;have g1:=j.n12;simp[go_sem];refine fD [0,1,2,3,4,5,6,7,8,9] [(0,0,[]),(1,0,[]),(2,0,[]),(3,0,[]),(4,0,[]),(5,0,[]),(6,0,[]),(7,1,[3]),(8,1,[]),(9,1,[])] zKr zKr zSi ?_;simp[go_sem];cases i:binE [den x a] p with
 |error e =>
  rw[i]at g;refine fZ g C ?_;simp[go_sem,zH];exact .hf _ (qR _)
 |ok r =>
  rw[i]at g;obtain⟨I,T⟩:=YN i;simp only[kD,uA]at I;have U:=(o a (by rw[l];simp) p t zOm).G _ I;refine cQ g.toP C ?_;simp[go_sem,zC];refine fR (qkL x.n R g1 r U T) (wkT x.n r) ?_;exact .hf _ (qY _)
theorem qaP(x N n a)(j:OkMa x N)(l:n.sD=[a])(o:IH x N n)(p)(t:OkP x N p)(J:bd p n) :
  qZ qe 178 [eMa x,ePl p,eNd n] (endE (bX (binE [den x a] p) fun a => .ok (clR x.n 200 a))):=by
 refine zi.of_sound ?_;refine qSW call178 func178 rfl {} ?_;have g:=qaO x N n a [] l o p t J;have C:=wk3 x p n;have P:=zY x;have R:=j.n0;have g1:=j.n12;simp[go_sem];refine fD [0,1,2,3,4,5,6,7,8,9] [(0,0,[]),(1,0,[]),(2,0,[]),(3,0,[]),(4,0,[]),(5,0,[]),(6,0,[]),(7,1,[3]),(8,1,[]),(9,1,[])] zKr zKr zSi ?_;simp[go_sem];cases i:binE [den x a] p with
 |error e =>
  rw[i]at g;refine fZ g C ?_;simp[go_sem,zH];exact .hf _ (qR _)
 |ok r =>
  rw[i]at g;obtain⟨I,T⟩:=YN i;simp only[kD,uA]at I;have U:=(o a (by rw[l];simp) p t zOm).G _ I;refine cQ g.toP C ?_;simp[go_sem,zC];refine fR (closU x.n R g1 r U T) (wkT x.n r) ?_;exact .hf _ (qY _)
theorem qaQ(n)(g:0<=n)(i:n<=12):qi qe 183 [aI n] (eRel (idR n)):=by
 have:=idenU n.toNat zOm;rw[show ((n.toNat:Nat):Int)=n by omega]at this;exact this
theorem qmS(x N n a)(j:OkMa x N)(o:n.sD=[a])(t:IH x N n)(p)(C:OkP x N p)(P:bd p n) :
  qZ qe 179 [eMa x,ePl p,eNd n] (endE (bX (binE [den x a] p) fun a => .ok (unR (clR x.n 200 a) (idR x.n)))):=by
 refine zi.of_sound ?_;refine qSW call179 func179 rfl {} ?_;have g:=qaP x N n a j o t p C P;have I:=wk3 x p n;have R:=zY x;have i:=j.n0;have g1:=j.n12;simp[go_sem];refine fD [0,1,2,4,5,6,7,3,8,9,10] [(0,0,[]),(1,0,[]),(2,0,[]),(4,0,[]),(5,0,[]),(6,0,[]),(7,0,[]),(3,1,[7]),(8,1,[]),(9,1,[]),(10,1,[])] zKr zKr zSi ?_;simp[go_sem];cases l:binE [den x a] p with
 |error e =>
  rw[l]at g;refine fZ g I ?_;simp[go_sem,zH];exact .hf _ (qR _)
 |ok r =>
  rw[l]at g;obtain⟨J,T⟩:=YN l;simp only[kD,uA]at J;have U:=(t a (by rw[o];simp) p C zOm).G _ J;obtain⟨gc,c2⟩:=aR i 200 U T;have gi:=aX i;have l1:=gc.len i zOm;have l2:=gi.len i zOm;rw[zC]at g;refine cQ g.toP I ?_;simp[go_sem,zC];refine fR (qaQ x.n i g1) (.zs .nil) ?_;refine fR (vB _ _ zOm zOm) (wkR2 _ _) ?_;exact .hf _ (qY _)
end F3
namespace F4
open Y1 P2 E3 EA EL EO EP EQ ER F1 F2 F3
section
variable {av:AV}{xs:List (List AV)}{mu:Mu}{sz:Nat}
theorem Own.one(h:Own mu sz av xs):av.one=true:=by
 rcases h with rfl|⟨b,rfl,_⟩<;>rfl
theorem Own.cells(h:Own mu sz av xs):av.cells=[av]:=by
 rcases h with rfl|⟨b,rfl,_⟩<;>rfl
theorem Own.push(h:Own mu sz av xs)(c:List Cell):Own (mu++c) sz av xs:=by
 rcases h with rfl|⟨b,rfl,g⟩
 .exact .inl rfl
 .exact .inr ⟨b,rfl,by grind⟩
theorem Own.set(h:Own mu sz av xs){i}(c)(g:qo av≠some i):Own (mu.set i c) sz av xs:=by
 rcases h with rfl|⟨b,rfl,j⟩
 .exact .inl rfl
 .exact .inr ⟨b,rfl,by rw[yF (fun e=>g (by rw[e];rfl))];exact j⟩
theorem Own.lt(h:Own mu sz av xs){b}(g:qo av=some b):b<mu.length:=by
 rcases h with rfl|⟨j,rfl,i⟩
 .cases g
 .cases g;exact(qk.1 i).1
theorem qz.ownB{P}{t g e bt:Nat}{s x ys zv K}(R:qJ P t=some (e,sz,bt))(j:(qJ P g).isSome=true)(T:qB P e=some zv)
  (l:zv.cells.length=sz) (o:zv.cells.all AV.one=true) (p:sz≠0) (U:bt<=16384) (ho:Own mu sz s xs) (hx:qD mu x=some ys) (I:zm sz xs) (wy:zm sz ys) (J:xs.length+ys.length<=4294967296)
  (k:∀ av mu',Own mu' sz av (xs++ys)->(∀ i,i<mu.length->qo s≠some i->mu'[i]?=mu[i]?)->(∀ b,qo av=some b->b=mu.length)->mu.length<=mu'.length->K av mu'):qz P mu #[t,g] s x K:=by
 refine .inl ?_;refine⟨t,g,e,sz,bt,ys,rfl,R,j,⟨zv,T,l,o⟩,p,U,hx,wy,?_⟩;rcases ho with rfl|⟨b,rfl,hc⟩
 .refine .inl ⟨xs,rfl,I,J,fun h=>?_,fun h=>?_⟩
  .subst h
   exact k _ _ (.inl zSp) (fun _ _ _=>rfl) (fun b h=>by cases h) (qr _)
  .refine k _ _ (.inr ⟨mu.length,zSp,zSp⟩) (fun i r _=>?_) (fun b h=>by cases h;rfl) zSp
   rw[qN r]
 .have a0:=yL I.ok
  refine .inr ⟨b,xs.length,xs.flatten,rfl,hc,zOm,J,?_⟩;have a1:xs.flatten.take (xs.length*sz)=xs.flatten:=zV zOm;refine k _ _ (.inr ⟨mu.length,zSp,?_⟩) (fun i r C=>?_) (fun b h=>by cases h;rfl) zSp
  .grind
  .rw [qN (zUs r)]
   rw[yF (fun e=>C (by rw[e];rfl))]
theorem FzQ.ownB{Q i d st}(l:st.tm d=av)(p:Own st.mu sz av xs)(wf:zm sz xs)(hf:∀ r,r∈xs->∀ c,c∈r->HF c)
  (k:∀ mu' full,mu'.length=st.mu.length->(∀ j,qo av≠some j->mu'[j]?=st.mu[j]?)->Q (.exit i) (st.put (some d) (.lst full xs) mu')):FzQ Q (.exit i) st:=by
 rcases p with h|⟨b,h,t⟩
 .refine FzQ.one (b:=st.mu.length) (d:=d) (x := .lst true xs) ?_ (k _ _ (jP _ _ _) fun j o=>?_)
  .rw [l,h]
   exact .hf _ (HF.lst hf)
  .by_cases g:j=st.mu.length
   .simp_all [uz,jP,qr]
   .exact Ub g _
 .refine FzQ.one (b:=b) (d:=d) (x := .lst false xs) ?_ (k _ _ (jP _ _ _) fun j o=>Ub (fun e=>o (by rw[h,e];rfl)) _)
  rw[l];exact Own.rd (.inr ⟨b,h,by rw[Xo];exact t⟩) wf.ok hf
abbrev lN(l:List Nat):AV:=lI (l.map fun k:Nat=>(k:Int))
theorem qmT(k:Nat)(l:List Nat):decide ((k:Int)∈l.map fun k:Nat=>(k:Int))=decide (k∈l):=by
 rw[Bool.eq_iff_iff,decide_eq_true_iff,decide_eq_true_iff,qn];exact⟨fun⟨a,h,e⟩=>by grind,fun h=>⟨k,h,rfl⟩⟩
theorem Ku(x N)(r:OkMa x N)(s)(hs:s<N):qi qe 130 [eMa x,aI s] (lN (x.path s)):=by
 refine qSV call130 func130 rfl ?_;have hN:=r.N1;have hl:=r.len;have a1:=zY x;simp[go_sem];refine cZ (fun f U=>∃(cur:Nat) (i:List Nat),Qh x f cur i=x.path s/\i.Nodup/\(∀ t,t∈i->t<N)/\cur<N/\N+1<=f+i.length/\U.tm 0=eMa x/\U.tm 6=aI (cur:Nat)/\OwnI U.mu (U.tm 5) (i.map fun k:Nat=>(k:Int))) (N+1) ?_ ?_
 .refine ⟨s,[],by grind [Mo.path],zSp,zSp,hs,zSp,zSi,zSi,.inl ⟨zSi,rfl⟩⟩
 rintro f U ⟨cur,i,p,I,J,hc,hf,e0,P,R⟩;have a2:i.length<=N:=Xw N i I J;obtain⟨f,rfl⟩:∃ g,f=g+1:=⟨f-1,zOm⟩;have o:=qj5 (i.map fun k:Nat=>(k:Int)) cur zSo;rw[qmT]at o;simp only[Qh]at p;simp[go_sem,P];refine fX o ⟨R.v.rd,.hf _ (HF.sc _),trivial⟩ (FL.sc _) ?_;by_cases C:cur∈i
 .rw [if_pos C]at p
  simp[go_sem,C];rw[<-p];exact R.v.rd
 .rw [if_neg C]at p
  simp[go_sem,P,C];refine aN (e:=3) (bt:=8) (z:=0) (l:=i.map fun k:Nat=>(k:Int)) zSi zSi zSi zOm R.v zSo ?_;intro a3 j a4 _ _ _;have T:=XK x r.loop zOm cur zOm;have a0:WKs [eMd x.m,aI cur] [eMd x.m,aI cur] := .zk (yx x.m) (.zs .nil);simp[go_sem,e0,P];refine fR T a0 ?_;refine Keep.loop f zOm ⟨x.nx cur,i++[cur],p,?_,fun t ht=>?_,r.nx _ hc,zSo,zS1 e0,zSi,?_⟩
  .grind
  .grind
  simp[go_sem, *]
abbrev rB(b:Bool):List AV:=[aB b]
theorem un(xs:List Bool):zm 1 (xs.map rB):=fun r g=>by
 obtain⟨n,_,rfl⟩:=qn.1 g;exact⟨rfl,rfl⟩
theorem Own.rdB{xs}(h:Own mu 1 av (xs.map rB)):Rd mu av (lB xs):=
 h.rd (un xs).ok fun r g c i=>by
  obtain⟨n,_,rfl⟩:=qn.1 g
  grind [HF.sc]
def endL:XE (List Bool)->AEnd
 | .ok l => .ret (lB l)
 | .error e => .pan (errV e)
@[go_sem] theorem endL_ok(l):endL (.ok l) = .ret (lB l):=rfl
@[go_sem] theorem endL_err(e):endL (.error e) = .pan (errV e):=rfl
theorem ZX{J j g}:∀{i l2:List J}{r:List j},mapX g i = .ok r->mapX g (i++l2)=bX (mapX g l2) fun s => .ok (r++s)
 | [],l2,r,h=>by cases h;rw[List.nil_append];cases mapX g l2<;>rfl
 |a :: i,l2,r,h=>by
  rw[mapX]at h;obtain⟨b,l,o⟩:=jj h;obtain⟨C,p,t⟩:=jj o;cases t;rw[yT,mapX,l,zC,ZX p];cases mapX g l2<;>rfl
theorem qaR(x l)(hl:l.length<=1000000)(p n)(ih:∀ s,s∈l->Ev3 x ⟨s,p.env⟩ n) :
  qZ qe 129 [eMa x,lN l,ePl p,eNd n] (endL (mapX (fun s=>(den x n).F ⟨s,p.env⟩) l)):=by
 refine zi.of_sound ?_;refine qSW call129 func129 rfl {} ?_;have a2:=zY x;generalize hE:mapX (fun s=>(den x n).F ⟨s,p.env⟩) l=E;simp[go_sem];refine kL l.length (fun k U=>∃ o:List Bool,mapX (fun s=>(den x n).F ⟨s,p.env⟩) (l.take k) = .ok o/\o.length=k/\U.tm 0=eMa x/\U.tm 6 = .ip (cPl p)/\U.tm 7 = .ip (cNd n)/\U.tm 12=lN l/\U.tm 13=aI l.length/\U.tm 14=aI k/\Own U.mu 1 (U.tm 9) (o.map rB)) ?_ ?_
 .exact ⟨[],rfl,rfl,zSi,zSi,zSi,zSi,zSi,zSi,.inl zSi⟩
 rintro k U hk ⟨o,P,a0,e0,e6,e7,J,C,I,ho⟩;by_cases r:k<l.length
 .have w1:=zWk k
  have R:=(ih l[k] (qs r)).F;have hw:=wk3 x ⟨l[k],p.env⟩ n;have t:=ZX (l2:=l.drop k) P;rw[vF,zp r,mapX]at t;rw[hE]at t;simp[go_sem,e0,e6,e7,J,C,I,r];cases ef:(den x n).F ⟨l[k],p.env⟩ with
  |error e =>
   rw[ef]at R t;subst t;refine fZ R hw ?_;simp[go_sem,zH];exact .hf _ (qR _)
  |ok b =>
   rw[ef]at R;refine fR R.toP hw ?_;refine qz.ownB (e:=4) (sz:=1) (bt:=1) (zv:=aB false) (xs:=o.map rB) (ys:=[rB b]) zSi zSi zSi rfl rfl zOm zOm ho (by simp[qD]) (un o) (un [b]) zSo ?_;intro a3 j a4 _ _ _;simp[go_sem,I,w1];refine⟨r,aK ⟨o++[b],?_,zP1 a0,zS1 e0,zS1 e6,zS1 e7,zS1 J,zS1 C,zSi,?_⟩⟩
   .rw [yj r,ZX P,mapX,ef];rfl
   simp[go_sem, *]
 .have a1:k=l.length:=by omega
  subst a1;rw[qP,hE]at P;subst P;simp[go_sem,C,I];exact Own.rdB ho
theorem qaS(x y)(g:x.length<=1000000000):qi qe 128 [lB x,aB y] (aB (decide (y∈x))):=qj7 x y g
theorem qmU(x N n a b)(hM:OkMa x N)(hk:n.sD=[a,b])(p)(hp:OkP x N p)(ih:∀ s,s∈x.path p.st->Ev3 x ⟨s,p.env⟩ a/\Ev3 x ⟨s,p.env⟩ b)(hl:(x.path p.st).length<=1000000) :
  qZ qe 132 [eMa x,ePl p,eNd n] (endB (untX (fun s=>(den x a).F ⟨s,p.env⟩) (fun s=>(den x b).F ⟨s,p.env⟩) (x.path p.st) false false)):=by
 refine zi.of_sound ?_;refine qSW call132 func132 rfl {} ?_;have P:=zY x;have R:=Ku x N hM p.st hp.st;generalize hE:untX (fun s=>(den x a).F ⟨s,p.env⟩) (fun s=>(den x b).F ⟨s,p.env⟩) (x.path p.st) false false=E;generalize x.path p.st=i at *
 simp[go_sem];refine fR R (.zk P (.zs .nil)) ?_;refine kL i.length (fun k U=>∃ d q:Bool,untX (fun s=>(den x a).F ⟨s,p.env⟩) (fun s=>(den x b).F ⟨s,p.env⟩) (i.drop k) d q=E/\U.tm 0=eMa x/\U.tm 4 = .ip (cPl p)/\U.tm 5 = .ip (cNd n)/\U.tm 7=aB d/\U.tm 8=aB q/\U.tm 17=lN i/\U.tm 18=aI i.length/\U.tm 19=aI k) ?_ ?_
 .simp [go_sem, *]
 rintro k U a2 ⟨d,q,g,e0,e4,e5,e7,e8,C,r,t⟩;by_cases j:k<i.length
 .have w1:=zWk k
  obtain⟨T,a0⟩:=ih i[k] (qs j);have l:=T.F;have o:=a0.F;have I:=wk3 x ⟨i[k],p.env⟩ a;have J:=wk3 x ⟨i[k],p.env⟩ b;rw[zp j,untX]at g;simp[go_sem,e4,C,r,t,j];refine fD [0,1,2,3,4,5,7,8,9,10,11,12,6,14,13,15] [(0,0,[]),(1,0,[]),(2,0,[]),(3,0,[]),(4,0,[]),(5,0,[]),(7,0,[]),(8,0,[]),(9,0,[]),(10,0,[]),(11,0,[]),(12,0,[]),(6,1,[8,10,12]),(14,0,[]),(13,1,[]),(15,0,[])] zKr zKr zSi ?_;simp[go_sem,e0,e5,hk];cases ea:(den x a).F ⟨i[k],p.env⟩ with
  |error e =>
   rw[ea]at l g;subst g;refine fZ l I ?_;simp[go_sem,zH];exact .hf _ (qR _)
  |ok u =>
   rw[ea]at l g;rw[zC]at g;refine cQ l.toP I ?_;simp[go_sem,hk];cases eb:(den x b).F ⟨i[k],p.env⟩ with
   |error e =>
    rw[eb]at o g;subst g;refine fZ o J ?_;simp[go_sem,zH];exact .hf _ (qR _)
   |ok v =>
    rw[eb]at o g;rw[zC]at g;refine cQ o.toP J ?_;cases d<;>cases q<;>cases u<;>cases v<;>simp[go_sem,e7,e8,t,w1]<;>refine⟨j,aK ⟨_,_,g,zS1 e0,zS1 e4,zS1 e5,zSi,zSi,zS1 C,zS1 r,zSi⟩⟩
 .have a1:k=i.length:=by omega
  subst a1;rw[zZ,untX]at g;subst g;simp[go_sem,e7,r,t];exact .zsc _
theorem v8{n}(i:WfN n)(h:n.op=5\/n.op=11\/n.op=12\/n.op=13\/n.op=21\/n.op=34\/n.op=35\/n.op=36\/n.op=37\/n.op=40\/n.op=48\/n.op=49\/n.op=50):∃ a,n.sD=[a]:=by
 have g:=i.shape;have j:n.sD.length=1:=by
  unfold shp at g;rw[zIn]at g;split at g
  .simpa using congrArg List.length (Option.some.inj g).symm
  .rw [zIn,zIn,zIn,if_pos zOm]at g
   simpa using congrArg List.length (Option.some.inj g).symm
 match n.sD,j with
 | [a],_=>exact⟨a,rfl⟩
theorem jw{n}(i:WfN n)(h:(6<=n.op/\n.op<=10)\/n.op=14\/n.op=15\/n.op=22\/n.op=23\/n.op=32\/n.op=33\/n.op=38\/n.op=39\/(41<=n.op/\n.op<=46)\/n.op=51):∃ a b,n.sD=[a,b]:=by
 have g:=i.shape;have j:n.sD.length=2:=by
  unfold shp at g;rw[zIn,zIn]at g;split at g
  .simpa using congrArg List.length (Option.some.inj g).symm
  .split at g
   .simpa using congrArg List.length (Option.some.inj g).symm
   .split at g
    .simpa using congrArg List.length (Option.some.inj g).symm
    .rw [zIn,if_pos zOm]at g
     simpa using congrArg List.length (Option.some.inj g).symm
 match n.sD,j with
 | [a,b],_=>exact⟨a,b,rfl⟩
theorem qmV(x N n)(hw:WfN n)(hM:OkMa x N)(P:IH x N n)(p)(R:OkP x N p)(hq:bd p n) :
  qZ qe 126 [eMa x,ePl p,eNd n] (endN ((den x n).N p)):=by
 refine zi.of_sound ?_;refine qSW call126 func126 rfl {} ?_;have a0:=zY x;rw[Us];simp only[opD];unfold opN;by_cases j:n.op=20
 .rw [if_pos j]
  simp[go_sem,j];exact .zsc _
 rw[if_neg j];by_cases l:n.op=21
 .rw [if_pos l]
  obtain⟨a,g⟩:=v8 hw zOm;have i:=(P a (by rw[g];simp) p R zOm).E;have I:=wk3 x p a;simp[go_sem,l,g,kD];refine fD [0,1,2,3,4,5,6,7,8,9] [(0,0,[]),(1,0,[]),(2,0,[]),(3,0,[]),(4,0,[]),(5,0,[]),(6,1,[]),(7,0,[]),(8,0,[]),(9,0,[])] zKr zKr zSi ?_;simp[go_sem,g];cases J:(den x a).E p with
  |error e =>
   rw[J]at i;refine fZ i I ?_;simp[go_sem,zH];exact .hf _ (qR _)
  |ok r =>
   rw[J]at i;refine cQ i.toP I ?_;simp[go_sem,zC];exact .zsc _
 rw[if_neg l];by_cases o:n.op=22
 .rw [if_pos o]
  obtain⟨a,b,g⟩:=jw hw zOm;have i:=(P a (by rw[g];simp) p R zOm).N;have t:=(P b (by rw[g];simp) p R zOm).N;have I:=wk3 x p a;have T:=wk3 x p b;simp[go_sem,o,g,kD];refine fD [0,1,2,3,4,5,7,8,9,10,11,12,6,13,14,15] [(0,0,[]),(1,0,[]),(2,0,[]),(3,0,[]),(4,0,[]),(5,0,[]),(7,0,[]),(8,0,[]),(9,0,[]),(10,0,[]),(11,0,[]),(12,0,[]),(6,1,[8,10,12]),(13,1,[]),(14,0,[]),(15,0,[])] zKr zKr zSi ?_;simp[go_sem,g];cases J:(den x a).N p with
  |error e =>
   rw[J]at i;refine fZ i I ?_;simp[go_sem,zH];exact .hf _ (qR _)
  |ok r =>
   rw[J]at i;refine cQ i.toP I ?_;simp[go_sem,zC,g];cases U:(den x b).N p with
   |error e =>
    rw[U]at t;refine fZ t T ?_;simp[go_sem,zH];exact .hf _ (qR _)
   |ok s =>
    rw[U]at t;refine cQ t.toP T ?_;simp[go_sem,zC];exact .zsc _
 rw[if_neg o];by_cases C:n.op=23
 .rw [if_pos C]
  obtain⟨a,b,g⟩:=jw hw zOm;have i:=(P a (by rw[g];simp) p R zOm).N;have t:=(P b (by rw[g];simp) p R zOm).N;have I:=wk3 x p a;have T:=wk3 x p b;simp[go_sem,C,g,kD];refine fD [0,1,2,3,4,5,7,8,9,10,11,12,6,13,14,15] [(0,0,[]),(1,0,[]),(2,0,[]),(3,0,[]),(4,0,[]),(5,0,[]),(7,0,[]),(8,0,[]),(9,0,[]),(10,0,[]),(11,0,[]),(12,0,[]),(6,1,[8,10,12]),(13,1,[]),(14,0,[]),(15,0,[])] zKr zKr zSi ?_;simp[go_sem,g];cases J:(den x a).N p with
  |error e =>
   rw[J]at i;refine fZ i I ?_;simp[go_sem,zH];exact .hf _ (qR _)
  |ok r =>
   rw[J]at i;refine cQ i.toP I ?_;simp[go_sem,zC,g];cases U:(den x b).N p with
   |error e =>
    rw[U]at t;refine fZ t T ?_;simp[go_sem,zH];exact .hf _ (qR _)
   |ok s =>
    rw[U]at t;refine cQ t.toP T ?_;simp[go_sem,zC];exact .zsc _
 rw[if_neg C];simp[go_sem,j,l,o,C];refine fZ (wq 43) (wkI 43) ?_;simp[go_sem];exact .hf _ (qR _)
end
end F4
namespace GR
open YF P1 E1 E4 EO EP EQ F4 Q8 G5 GP GQ
section
variable {xs:List (List AV)}{mu:Mu}{sz:Nat}
theorem j6.ownB{P}{t g e bt:Nat}{s x ys zv K}(R:qJ P t=some (e,sz,bt))(j:(qJ P g).isSome=true)(T:qB P e=some zv)
  (l:zv.cells.length=sz) (o:zv.cells.all AV.one=true) (p:sz≠0) (U:bt<=16384) (ho:Own mu sz s xs) (hx:qD mu x=some ys) (I:zm sz xs) (wy:zm sz ys) (J:xs.length+ys.length<=4294967296)
  (k:∀ av mu',Own mu' sz av (xs++ys)->(∀ i,i<mu.length->qo s≠some i->mu'[i]?=mu[i]?)->(∀ b,qo av=some b->b=mu.length)->mu.length<=mu'.length->(ys≠[]->∃ b,qo av=some b)->K av mu'):j6 P mu #[t,g] s x K:=by
 refine⟨t,g,e,sz,bt,ys,rfl,R,j,⟨zv,T,l,o⟩,p,U,hx,wy,?_⟩;rcases ho with rfl|⟨b,rfl,hc⟩
 .refine .inl ⟨xs,rfl,I,J,fun h=>?_,fun h=>?_⟩
  .subst h
   exact k _ _ (.inl zSp) (fun _ _ _=>rfl) (fun b h=>by cases h) (qr _) (fun h=>absurd rfl h)
  .refine k _ _ (.inr ⟨mu.length,zSp,zSp⟩) (fun i r _=>?_) (fun b h=>by cases h;rfl) zSp (fun _=>⟨_,rfl⟩)
   rw[qN r]
 .have a0:=yL I.ok
  refine .inr ⟨b,xs.length,xs.flatten,rfl,hc,zOm,J,?_⟩;have a1:xs.flatten.take (xs.length*sz)=xs.flatten:=zV zOm;refine k _ _ (.inr ⟨mu.length,zSp,?_⟩) (fun i r C=>?_) (fun b h=>by cases h;rfl) zSp (fun _=>⟨_,rfl⟩)
  .grind
  .rw [qN (zUs r)]
   rw[yF (fun e=>C (by rw[e];rfl))]
theorem aQ{P}{t U e bt:Nat}{s y}(j){zv full K}(R)(hs:qJ P t=some (e,sz,bt))(o:(qJ P U).isSome=true)(hz:qB P e=some zv)
  (p:zv.cells.length=sz) (r:zv.cells.all AV.one=true) (C:sz≠0) (l:bt<=16384) (ho:Own mu sz s xs) (I:∀ b,qo s=some b->b<R) (J:Rds (cutM (fun i=>decide (R<=i)) mu 0) y j) (wx:zm sz xs) (wy:zm sz [j]) (hl:xs.length+1<=4294967296)
  (k:∀ av mu',Own mu' sz av (xs++[j])->(∀ i,i<mu.length->i<R->qo s≠some i->mu'[i]?=mu[i]?)->(∀ b,qo av=some b->b=mu.length)->mu.length<=mu'.length->(∃ b,qo av=some b)->K av mu'):qz P mu #[t,U] s (.lst full [y]) K:=by
 have cg:∀ i,i<R->(cutM (fun i=>!decide (R<=i)) mu 0)[i]?=mu[i]?:=fun i hi=>by
  simp_all[jG,yf,decide_eq_false,Bool.not_false,if_true]
 have g:Rd (cutM (fun i=>decide (R<=i)) mu 0) (.lst full [y]) (.lst full [j]):=by
  obtain⟨h1,h2⟩:=J.get;refine .lst full _ _ rfl (fun k a b ha l=>?_) (fun k a b ha l=>?_)
  .grind
  grind
 have T:Own (cutM (fun i=>!decide (R<=i)) mu 0) sz s xs:=by
  rcases ho with h|⟨b,h,hc⟩
  .exact .inl h
  .exact .inr ⟨b,h,by rw[cg b (I b (by rw[h];rfl))];exact hc⟩
 refine .inr (.inl ⟨_,_,g,j6.ownB hs o hz p r C l T rfl wx wy hl fun av mu' h1 h2 h3 h4 h5=>k av mu' h1 (fun i hi hR a0=>?_) (fun b l=>?_) ?_ (h5 zSp)⟩)
 .grind
 .grind [jP]
 grind [jP]
theorem Kv{J:Type}{f g}:∀{l:List J},(∀ a,a∈l->Rds mu (f a) (g a))->∀(k:Nat) x y,(l.map f).flatten[k]?=some x->(l.map g).flatten[k]?=some y->Rd mu x y
 | [],_,k,x,y,i,_=>by simp at i
 |a :: l,h,k,x,y,i,j=>by
  obtain⟨o,p⟩:=(h a (zl ..)).get;simp only[List.map_cons,List.flatten_cons]at i j;by_cases r:k<(f a).length
  .rw [qN r]at i
   rw[zGa]at j;exact p k x y i j
  .rw [zJ zOm]at i
   rw[zJ zOm,o]at j;exact Kv (fun b t=>h b (zc _ t)) _ x y i j
theorem aZ{J:Type}{av f g}{l:List J}(h:Own mu sz av (l.map f))(wf:yM sz (l.map f))(j:yM sz (l.map g))(p:∀ a,a∈l->Rds mu (f a) (g a)):Rd mu av (.lst false (l.map g)):=by
 rcases h with rfl|⟨b,rfl,r⟩
 .refine .wk _ true _ (.lst true _ _ zSp (fun k x y i o=>?_) (Kv p))
  rw[wf x (q8 i),j y (q8 o)]
 .refine .sl b sz 0 _ _ _ r (zW1 (yL wf)) zSp j (fun k x y i o=>?_)
  rw[yf]at i
  grind [Kv]
theorem qaT:∀{l},l≠[]->(∀ a,a∈l->1<=a)->1<=sumI l
 | [],h,_=>absurd rfl h
 | [a],_,h=>by simp_all[sumI]
 |a :: b :: l,_,h=>by
  have j:=h a zSp;have g:=qaT (l:=b :: l) zSp fun x i=>h x (zc _ i)
  simp only[sumI,List.foldr_cons]at g⊢;omega
structure Fit9 (ts:TS) (sc:Sc):Prop where
 g:GSc sc
 p:0<sumI sc.sC
 nf:ts.sA.length<=6
 ns:ts.sS.length=sc.sC.length
 s1:1<=sc.sN
 s4:sc.sN<=4
 f1:∀ f,f∈ts.sA->1<=f.sS.length/\f.sS.length<=3
 fs:∀ f,f∈ts.sA->∀ s,s∈f.sS->0<=s/\s<sc.sC.length
theorem J9{ts sc}(h:jv ts sc=true):Fit9 ts sc:=by
 simp only[jv,qI,decide_eq_true_eq,zA,fldB]at h;obtain⟨t,C,j,I,o,p,i⟩:=h;have g:=qmA i;simp only[yV,qI,decide_eq_true_eq,zA]at i;refine⟨g,?_,j,p,i.2.1,i.2.2.1,fun f hf=>(o f hf).1,fun f hf s J=>?_⟩
 .have:=qaT (l:=sc.sC) (fun e=>by grind) fun a r=>(i.2.2.2.1 a r).1
  omega
 grind
def rowD(sc:Sc)(f:Fld):List AV:=[aI f.sS.length,.lst true [],aI f.sS.length,lI (yE sc f.sS)]
theorem Va(sc)(l:List Fld):zm 4 (l.map (rowD sc)):=fun r g=>by
 obtain⟨n,_,rfl⟩:=qn.1 g;exact⟨rfl,rfl⟩
theorem qaU(ts sc)(F:Fit9 ts sc):qi qe 18 [eTS ts,eSc sc] (lBd (defB ts sc)):=by
 have a0:=F.nf;refine qSU call18 func18 rfl ?_;refine kL ts.sA.length (fun k U=>U.tm 2 = .ip (cTS ts)/\U.tm 3 = .ip [lI sc.sC,aI sc.sN]/\U.tm 6=aI k/\Own U.mu 4 (U.tm 5) ((ts.sA.take k).map (rowD sc))) ?_ ?_
 .exact ⟨zSi,zSi,zSi,.inl zSi⟩
 rintro k U hk ⟨C,e3,I,J⟩;by_cases l:k<ts.sA.length
 .have w1:=zWk k
  have o:=qs l;have t:=mM sc F.g F.p ts.sA[k].sS (F.f1 _ o).1 (F.f1 _ o).2 (F.fs _ o);simp[go_sem,C,I,l];refine cH zKr ?_;simp[go_sem,C,e3,I,l];refine fR t (.zk (zr _) (.zk (zh _) .nil)) ?_;refine qz.ownB (e:=98) (sz:=4) (bt:=64) (zv := .agg [aI 0,.lst true [],aI 0,.lst true []]) (xs:=(ts.sA.take k).map (rowD sc)) (ys:=[rowD sc ts.sA[k]]) zSi zSi zSi rfl rfl zOm zOm J (by simp[qD,rowD]) (Va sc _) (Va sc [_]) zSo ?_;intro a1 j P _ _ _;simp[go_sem,I,l,w1];refine aK ⟨zS1 C,zS1 e3,zSi,?_⟩;rw[yj l,zb];simpa[go_sem] using P
 .have R:k=ts.sA.length:=by omega
  subst R;rw[qP]at J;simp[go_sem,C,I];have:=aZ (g:=fun f=>cBd ⟨⟨f.sS.length,[]⟩,⟨f.sS.length,yE sc f.sS⟩⟩) J (Va sc _).ok (fun r hr=>by
   obtain⟨n,_,rfl⟩:=qn.1 hr;rfl) fun f _=>⟨.hf _ (HF.sc _),.wk _ true _ (.hf _ (HF.lst fun r hr=>by simp at hr)),.hf _ (HF.sc _),.hf _ (zh _),trivial⟩
  show Rd _ _ (.lst false ((defB ts sc).map cBd));rw[defB,List.map_map];exact this
structure qaV (b:Bd):Prop where
 u:b.up.ts.length<=100000
 l:b.lo.ts.length<=100000
 s:sorted b.lo.ts
theorem qmW(g t lo):inOk ⟨g,[t]⟩ lo=decide (t∈lo.ts):=by simp[inOk]
theorem YP{R av}(h:Own mu sz av xs)(g:∀ b,qo av=some b->R<=b):Own (cutM (fun i=>decide (R<=i)) mu 0) sz av xs:=by
 rcases h with h|⟨b,h,j⟩
 .exact .inl h
 .refine .inr ⟨b,h,?_⟩
  rw[jG,j];simp[g b (by rw[h];rfl)]
theorem qmX(fl l C mu)(hl:l.length<=1000)(hb:∀ b,b∈l->qaV b) :
  qE qe 43 [lBd l,.lst fl (C.map rB)] mu (fun e m=>∃ av,e = .ret av/\Own m 2 av ((yy l C).map cRel)/\(∀ i,i<mu.length->m[i]?=mu[i]?)/\(∀ b,qo av=some b->mu.length<=b)/\mu.length<=m.length/\(0<l.length->∃ b,qo av=some b)):=by
 refine qSW call43 func43 rfl {} ?_;simp[go_sem];refine kL l.length (fun k U=>U.tm 0=lBd l/\U.tm 1 = .lst fl (C.map rB)/\U.tm 6=aI (jt (l.take k) C).2/\U.tm 7=aI k/\Own U.mu 2 (U.tm 5) ((jt (l.take k) C).1.map cRel)/\(∀ i,i<mu.length->U.mu[i]?=mu[i]?)/\(∀ b,qo (U.tm 5)=some b->mu.length<=b)/\mu.length<=U.mu.length/\(0<k->∃ b,qo (U.tm 5)=some b)) ?_ ?_
 .exact ⟨zSi,zSi,by simp[go_sem,jt],zSi,.inl (by simp[go_sem,jt]),zSi,by simp[go_sem,qo],zSi,fun h=>absurd h zOm⟩
 rintro k U hk ⟨e0,e1,e6,e7,ho,hs,af,ah,ai⟩;by_cases t:k<l.length
 .have w1:=zWk k
  obtain⟨bu,bl,aj⟩:=hb _ (qs t);have b3:=mP C 100000 (l.take k) ([],0) fun x hx=>(hb x (jD hx)).u
  have aw:(jt (l.take k) C).2<=100000000:=by
   grind [List.length_take_le,Nat.mul_le_mul_right,jt]
  have a4:=mO l C k t;generalize hq:jt (l.take k) C=q at *
  generalize ak:U.tm 5=s at *
  have ag:∀ b,qo s=some b->b<U.mu.length:=fun b h=>Own.lt ho h
  generalize hR:U.mu.length=R at *
  simp[go_sem,e0,e7,t];refine kL l[k].up.ts.length (fun j st2=>st2.tm 0=lBd l/\st2.tm 1 = .lst fl (C.map rB)/\st2.tm 5=s/\st2.tm 7=aI k/\st2.tm 8 = .ptr R 0/\st2.tm 9=aI j/\st2.tm 6=aI (insF C l[k].lo (l[k].up.ts.take j) q.2).2 /\
   ∃ av,st2.mu[R]?=some (.arr [aI l[k].up.ar,av])/\Own st2.mu 1 av ((insF C l[k].lo (l[k].up.ts.take j) q.2).1.map rI)/\(∀ b,qo av=some b->R<b)/\(∀ i,i<R->st2.mu[i]?=U.mu[i]?)) ?_ ?_
  .exact ⟨zS1 e0,zS1 e1,zS1 ak,zS1 e7,zS1 hR,zSi,by simp[go_sem,e6,insF],.lst true [],zS1 hR,.inl (by simp[insF]),by simp[qo],fun i hi=>by simp[go_sem, *]⟩
  clear e0 e1 e6 e7;rintro j st2 hj ⟨e0,e1,e5,e7,e8,e9,e6,av,a0,a1,ad,a7⟩;by_cases I:j<l[k].up.ts.length
  .have w2:=zWk j
   have b4:=X8 C l[k].lo (l[k].up.ts.take j) ([],q.2);have ax:(insF C l[k].lo (l[k].up.ts.take j) q.2).2<=100100000:=by
    grind [List.length_take_le,insF]
   have ay:=(J1 C l[k].lo (l[k].up.ts.take j) ([],q.2) [] (List.Sublist.refl _)).length_le;have az:(insF C l[k].lo (l[k].up.ts.take j) q.2).1.length<=100000:=by
    grind [List.length_take_le,insF]
   have a8:=qk4 C l[k].lo l[k].up.ts q.2 j I;generalize hp:insF C l[k].lo (l[k].up.ts.take j) q.2=p at *
   have w3:qp.wrap ((p.2:Int)+1)=(p.2:Int)+1:=zWr;have al:R<st2.mu.length:=(qk.1 a0).1;have b0:qo av≠some st2.mu.length:=fun h=>zW1 (Own.lt a1 h)
   have b1:qo av≠some R:=fun h=>by grind
   have a3:∀ c,(st2.mu++[c])[R]?=some (.arr [aI l[k].up.ar,av]):=fun c=>by grind
   have a5:=in06 ⟨l[k].up.ar,[l[k].up.ts[j]]⟩ l[k].lo zSp zOm aj;rw[qmW]at a5;have a9:WKs [.agg [aI l[k].up.ar,.lst true [[aI l[k].up.ts[j]]]],eRel l[k].lo] [eRel ⟨l[k].up.ar,[l[k].up.ts[j]]⟩,eRel l[k].lo] := .cons (WK.aggs (.zs (.cons (WK.ints [l[k].up.ts[j]]) .nil))) (.zk (qY _) .nil);have ab:∀(K:AV->Mu->Prop),(∀ P a2,Own a2 1 P ((p.1++[l[k].up.ts[j]]).map rI)->a2[R]?=some (.arr [aI l[k].up.ar,av])->(∀ b,qo P=some b->R<b)->(∀ i,i<R->a2[i]?=U.mu[i]?)->K P a2)->qz qe (st2.mu++[.arr [aI l[k].up.ar,.lst true [[aI l[k].up.ts[j]]]]]) #[28,28] av (.lst true [[aI l[k].up.ts[j]]]) K:=fun K hK=>by
    refine qz.ownB (e:=3) (sz:=1) (bt:=8) (zv:=aI 0) (xs:=p.1.map rI) (ys:=[rI l[k].up.ts[j]]) zSi zSi zSi rfl rfl zOm zOm (Own.push a1 _) (by simp[qD]) (yv _) (yv [_]) zSo ?_
    grind
   by_cases J:l[k].up.ts[j]∈l[k].lo.ts
   .have o:insF C l[k].lo (l[k].up.ts.take (j+1)) q.2=(p.1++[l[k].up.ts[j]],p.2):=by rw[a8,y9,if_pos J]
    simp[go_sem,e0,e7,e8,e9,t,I,a0];refine cH zKr ?_;simp[go_sem,e0,e7,t];refine cQ a5 a9 ?_;simp[go_sem,e8,a3,J];refine ab _ fun P a2 h1 h2 h3 h4=>?_
    simp[go_sem,e8,e9,I,h2,w2,Own.one h1,Own.cells h1]
    try refine⟨I,aK ?_⟩
    try refine aK ?_
    refine⟨zS1 e0,zS1 e1,zS1 e5,zS1 e7,zS1 e8,zSi,zS2 e6 o,P,by simp[go_sem,(qk.1 h2).1],?_,h3,fun i hi=>?_⟩
    .rw [o]
     simpa[go_sem] using Own.set h1 (.arr [aI l[k].up.ar,P]) (fun h=>by grind)
    .simp [go_sem]
     grind
   .by_cases a6:p.2<C.length
    .cases aa:C[p.2] with
     |true =>
      have o:insF C l[k].lo (l[k].up.ts.take (j+1)) q.2=(p.1++[l[k].up.ts[j]],p.2+1):=by rw[a8,y9,if_neg J,zG,qA a6,aa];rfl
      simp[go_sem,e0,e7,e8,e9,t,I,a0];refine cH zKr ?_;simp[go_sem,e0,e7,t];refine cQ a5 a9 ?_;simp[go_sem,e1,e8,e6,a3,J,a6,aa];refine ab _ fun P a2 h1 h2 h3 h4=>?_
      simp[go_sem,e8,e9,e6,I,h2,w2,w3,Own.one h1,Own.cells h1]
      try refine⟨I,aK ?_⟩
      try refine aK ?_
      refine⟨zS1 e0,zS1 e1,zS1 e5,zS1 e7,zS1 e8,zSi,zS1 o,P,by simp[go_sem,(qk.1 h2).1],?_,h3,fun i hi=>?_⟩
      .rw [o]
       simpa[go_sem] using Own.set h1 (.arr [aI l[k].up.ar,P]) (fun h=>zW1 (h3 R h))
      .simp [go_sem]
       rw[zGl];exact h4 i hi
     |false =>
      have o:insF C l[k].lo (l[k].up.ts.take (j+1)) q.2=(p.1,p.2+1):=by rw[a8,y9,if_neg J,zG,qA a6,aa];simp
      simp[go_sem,e0,e7,e8,e9,t,I,a0];refine cH zKr ?_;simp[go_sem,e0,e7,t];refine cQ a5 a9 ?_;simp[go_sem,e1,e9,e6,I,J,a6,aa,w2,w3]
      try refine⟨I,aK ?_⟩
      try refine aK ?_
      refine⟨zS1 e0,zS1 e1,zS1 e5,zS1 e7,zS1 e8,zSi,zS1 o,av,zS1 a3,?_,ad,fun i hi=>?_⟩
      .rw [o];simpa[go_sem] using Own.push a1 _
      .simp [go_sem];rw[zGa];exact a7 i hi
    .have o:insF C l[k].lo (l[k].up.ts.take (j+1)) q.2=(p.1,p.2+1):=by rw[a8,y9,if_neg J,zG,uz zOm];simp
     simp[go_sem,e0,e7,e8,e9,t,I,a0];refine cH zKr ?_;simp[go_sem,e0,e7,t];refine cQ a5 a9 ?_;simp[go_sem,e1,e9,e6,I,J,a6,w2,w3]
     try refine⟨I,aK ?_⟩
     try refine aK ?_
     refine⟨zS1 e0,zS1 e1,zS1 e5,zS1 e7,zS1 e8,zSi,zS1 o,av,zS1 a3,?_,ad,fun i hi=>?_⟩
     .rw [o];simpa[go_sem] using Own.push a1 _
     .simp [go_sem];rw[zGa];exact a7 i hi
  .have ae:j=l[k].up.ts.length:=by omega
   subst ae;rw[qP]at e6 a1;have b2:=J1 C l[k].lo l[k].up.ts ([],q.2) [] (List.Sublist.refl _);have b5:q.1.length=k:=by
    rw[<-hq];have:=congrArg List.length (X9 C (l.take k) ([],0));simp at this;show (jt (l.take k) C).1.length=k;rw[jt,this];omega
   simp[go_sem,e0,e5,e7,e8,e9,t,a0,Own.one a1];refine aQ (e:=96) (sz:=2) (bt:=32) (zv := .agg [aI 0,.lst true []]) (xs:=q.1.map cRel) (cRel ⟨l[k].up.ar,(insF C l[k].lo l[k].up.ts q.2).1⟩) R zSi zSi zSi rfl rfl zOm zOm ?_ ag ?_ (vI _) (vI [_]) zSo ?_
   .rcases ho with h|⟨b,h,hc⟩
    .exact .inl h
    .refine .inr ⟨b,h,?_⟩
     rw[a7 b (ag b (by rw[h];rfl))];exact hc
   .refine ⟨.hf _ (HF.sc _),?_,trivial⟩
    exact Own.rd (YP a1 fun b h=>zW1 (ad b h)) (yv _).ok fun r hr c hc=>by
     obtain⟨n,_,rfl⟩:=qn.1 hr;simp at hc;subst hc;exact HF.sc _
   intro P a2 an ao aq b6 au;have al:R<st2.mu.length:=(qk.1 a0).1;simp[go_sem,e7,t,w1]
   try refine⟨t,aK ?_⟩
   try refine aK ?_
   refine⟨zS1 e0,zS1 e1,by simp[go_sem,e6,a4,insB],zSi,?_,fun i hi=>?_,fun b h=>?_,by simp[go_sem];omega,fun _=>by simp[go_sem];exact au⟩
   .rw [a4,insB,zb]
    simpa[go_sem] using an
   .simp [go_sem]
    rw[ao i zOm zOm (fun h=>zW1 (af i h)),a7 i zOm];exact hs i hi
   .simp [go_sem]at h
    have:=aq b h;omega
 .have ae:k=l.length:=by omega
  subst ae;rw[qP]at ho e6;simp[go_sem,e0,e7];exact⟨ho,hs,af,ah,ai⟩
end
end GR
namespace GS
open YF P1 E1 E3 E4 EO EQ F4 GB G5 GP GR
abbrev rBs(l:List Bool):List AV:=[lB l]
abbrev lBB(l:List (List Bool)):AV := .lst false (l.map rBs)
theorem JW(l):HF (lB l):=HF.lst fun r i c g=>by
 obtain⟨n,_,rfl⟩:=qn.1 i;simp at g;subst g;exact HF.sc _
theorem qaW(l):HF (lBB l):=HF.lst fun r i c g=>by
 obtain⟨n,_,rfl⟩:=qn.1 i;simp at g;subst g;exact JW n
theorem Kw{ts sc}(F:Fit9 ts sc)(j:sumI sc.sC<=5):∀ b,b∈defB ts sc->b.up.ts.length<=1000/\b.up.ts.Pairwise (·<·)/\qaV b:=fun b g=>by
 obtain⟨f,hf,rfl⟩:=qn.1 g;have l:=(F.f1 f hf).2;have o:=F.p;have i:(yE sc f.sS).length<=1000:=by
  refine zL (UF _ _ _) ?_;have:sumI sc.sC ^ f.sS.length<=125:=by
   rcases (show f.sS.length=0\/f.sS.length=1\/f.sS.length=2\/f.sS.length=3 by omega) with e|e|e|e<;>rw[e]<;>rcases (show sumI sc.sC=1\/sumI sc.sC=2\/sumI sc.sC=3\/sumI sc.sC=4\/sumI sc.sC=5 by omega) with d|d|d|d|d<;>rw[d]<;>decide
  omega
 exact⟨i,J0 _ _ _,zSo,zSp,by simp[sorted]⟩
def fixS(g:List Bool)(i l:List Rl)(j:Nat):List Rl:=l.mapIdx fun f r=>if f<j/\g.getD f true=false then i.getD f noR else r
theorem qmY(i j g):fixS i j g 0=g:=by
 refine jO fun f=>?_
 simp[fixS]
theorem qmZ(i l g j):(fixS i l g j).length=g.length:=by simp[fixS]
theorem qm0(i o g j)(h:j<g.length):fixS i o g (j+1)=if i.getD j true=false then (fixS i o g j).set j (o.getD j noR) else fixS i o g j:=by
 refine jO fun f=>?_
 by_cases l:i.getD j true=false
 .rw [if_pos l,List.getElem?_set]
  simp only[fixS,List.getElem?_mapIdx,List.length_mapIdx];by_cases hf:j=f
  .subst hf
   rw[if_pos rfl,if_pos h,qA h];simp only[zo,Nat.lt_succ_self,l,and_self,if_true]
  .rw [if_neg hf]
   cases g[f]? with
   |none=>rfl
   |some r=>simp only[zo];congr 1;by_cases p:f<j<;>simp[p,show (f<j+1)=(f<j) by simp;omega]
 .rw [if_neg l]
  simp only[fixS,List.getElem?_mapIdx];cases g[f]? with
  |none=>rfl
  |some r =>
   simp only[zo];congr 1;by_cases hf:f=j
   .subst hf;rw[if_neg (fun h=>l h.2),if_neg (fun h=>l h.2)]
   .by_cases p:f<j<;>simp[p,show (f<j+1)=(f<j) by simp;omega]
theorem qm1(j i g k)(h:k≠0):anyS j i g k=fixS j (yy i (g.getD 0 [])) (yy i (g.getD k [])) i.length:=by
 rw[anyS,if_neg h];refine jO fun f=>?_
 simp only[fixS,List.getElem?_mapIdx];cases o:(yy i (g.getD k []))[f]? with
 |none=>rfl
 |some r =>
  have l:=(qk.1 o).1;rw[Zk]at l;simp only[zo];congr 1;cases j.getD f true<;>simp[l]
theorem Own.put{sz}{mu:Mu}{av xs b}(h:av = .sl b sz 0 xs.length)(g:mu[b]?=some (.arr xs.flatten))(w:yM sz xs){i r}(j:r.length=sz)(l:i<xs.length):Own (mu.set b (.arr (putCells xs.flatten (i*sz) r))) sz av (xs.set i r):=by
 refine .inr ⟨b,by rw[List.length_set];exact h,?_⟩;rw[qM (qk.1 g).1,Jq xs i r w j l]
abbrev vsT(ts:TS):List Bool:=ts.sA.map fun f=>f.var
theorem anyU(ts sc)(F:Fit9 ts sc)(h5:sumI sc.sC<=5)(o lp)(bb:0<=lp/\lp<=255) :
  qi qe 16 [eTS ts,eSc sc,lBB o,.sc (.int .u8 lp)] (eMd (anyM sc (vsT ts) (defB ts sc) o (lp % sc.sN))):=by
 have hd:=Kw F h5;have cd:(defB ts sc).length=ts.sA.length:=by simp[defB]
 have cf:=F.nf;have s1:=F.s1;have s4:=F.s4;have al:=qaU ts sc F;generalize hD:defB ts sc=D at *
 generalize hS:sc.sN=S at *
 obtain⟨N,rfl⟩:=Int.eq_ofNat_of_zero_le (show 0<=S by omega);refine qSU call16 func16 rfl ?_;refine cH zKr ?_;have n1:¬(N:Int)<1:=zOm;have n0:¬(N:Int)=0:=zOm;have bc:¬N=0:=zOm;have wl:qp.wrap lp=lp:=zWr;have tm:lp.tmod (N:Int)=lp % (N:Int):=Int.tmod_eq_emod_of_nonneg bb.1;simp[go_sem,hS,n1,bc,wl,tm];have be:WK (.agg [lI sc.sC,aI N]) (eSc sc):=by rw[<-hS];exact WK.hf (zr sc)
 refine cQ al (.zk (zn _) (.cons be .nil)) ?_;generalize hL:lp % (N:Int)=L at *
 have bg:anyM sc (vsT ts) D o L=⟨sc,(qu N).map (anyS (vsT ts) D o),L⟩:=by rw[anyM,hS];rfl
 rw[bg];generalize hA:anyS (vsT ts) D o=A at *
 simp[go_sem];refine kL N (fun k U=>U.tm 2=lBB o/\U.tm 4 = .ip (cTS ts)/\U.tm 5 = .ip [lI sc.sC,aI sc.sN]/\U.tm 8 = .ptr 0 0/\U.tm 9 = .ptr 1 0/\U.tm 10=lBd D/\U.tm 11=aI k /\
  ∃ s,U.mu[0]?=some (.arr [.lst true [],aI 0,.lst true [],aI 0])/\U.mu[1]?=some (.arr [lI sc.sC,aI N,s,aI L])/\Own U.mu 1 s (((qu k).map A).map fun r=>[lRel r])/\∀ b,qo s=some b->2<=b) ?_ ?_
 .exact ⟨zSi,zSi,zS1 hS,zSi,zSi,zSi,zSi,.lst true [],zSi,zSi,.inl zSp,by simp[qo]⟩
 rintro k U hk ⟨e2,e4,e5,e8,e9,an,a7,s,h0,h1,ho,hb⟩;have ad:=(qk.1 h0).1;have ae:=(qk.1 h1).1;by_cases ao:k<N
 .have w1:=zWk k
  have n4:(k:Int)<4:=zOm;have aa:=fun fl:Bool=>qmX fl D (o.getD k []) U.mu zOm fun b hb=>(hd b hb).2.2
  have bh:=Zk D (o.getD k []);have aq:=Zk D (o.getD 0 []);have af:A 0=yy D (o.getD 0 []):=by rw[<-hA,anyS,if_pos rfl]
  have bi:k≠0->A k=fixS (vsT ts) (A 0) (yy D (o.getD k [])) D.length:=fun h=>by rw[af,<-hA,qm1 _ _ _ _ h]
  have au:k=0->A k=yy D (o.getD k []):=fun h=>by subst h;exact af
  generalize cg:yy D (o.getD k [])=R at *
  have cb:(A 0).length=D.length:=by rw[af];exact aq
  simp[go_sem,hS,e2,e5,a7,ao,n4];by_cases ag:k<o.length
  all_goals simp[go_sem,e2,an,a7,ag]
  all_goals first
   | (rw[show lB o[k] = .lst false ((o.getD k []).map rB) by rw[zG,qA ag];rfl];refine fQ (aa false) ?_ (by rintro r m ⟨t,h,_⟩;cases h))
   | (have hi:=aa true;rw[show (o.getD k []).map rB=[] by rw[zG,uz zOm];rfl]at hi;refine fQ hi ?_ (by rintro r m ⟨t,h,_⟩;cases h))
  all_goals
   rintro r m ⟨t,h,bj,bk,ah,ch,bm⟩;cases h;simp[go_sem,ag];refine kL D.length (fun j st2=>st2.tm 2=lBB o/\st2.tm 4 = .ip (cTS ts)/\st2.tm 5 = .ip [lI sc.sC,aI N]/\st2.tm 8 = .ptr 0 0/\st2.tm 9 = .ptr 1 0/\st2.tm 10=lBd D/\st2.tm 11=aI k/\st2.tm 13=r/\st2.tm 14=aI j /\
    Own st2.mu 2 r ((if k=0 then R else fixS (vsT ts) (A 0) R j).map cRel)/\∀ i,i<m.length->qo r≠some i->st2.mu[i]?=m[i]?) ?_ ?_
   .exact ⟨zS1 e2,zS1 e4,zS2 e5 hS,zS1 e8,zS1 e9,zS1 an,zS1 a7,zSi,zSi,by simpa[go_sem,qmY] using bj,zSi⟩
   rintro j st2 hj ⟨f2,f4,f5,f8,f9,f10,f11,f13,f14,P,a8⟩;have C:∀ i,i<U.mu.length->st2.mu[i]?=U.mu[i]?:=fun i hi=>by rw[a8 i zOm (fun h=>zW1 (ah i h)),bk i hi]
   have a2:(if k=0 then R else fixS (vsT ts) (A 0) R j).length=D.length:=by split<;>simp[qmZ,bh]
   have aw:k≠0->j<D.length->(if k=0 then R else fixS (vsT ts) (A 0) R (j+1))=if (vsT ts).getD j true=false then (if k=0 then R else fixS (vsT ts) (A 0) R j).set j ((A 0).getD j noR) else (if k=0 then R else fixS (vsT ts) (A 0) R j):=fun h1 h2=>by rw[if_neg h1,if_neg h1,qm0 _ _ _ _ zOm]
   have bn:¬(j<D.length/\k≠0)->(if k=0 then R else fixS (vsT ts) (A 0) R j)=A k:=fun h=>by
    by_cases h0:k=0
    .rw [if_pos h0,au h0]
    .rw [if_neg h0,bi h0,show j=D.length by omega]
   generalize hW:(if k=0 then R else fixS (vsT ts) (A 0) R j)=W at *
   simp[go_sem,f13,f14];refine cL (aI D.length) (by rcases P with h|⟨b,h,_⟩<;>rw[h]<;>simp[a2]) ?_;by_cases a3:j<D.length/\k≠0
   .obtain ⟨p,ax⟩:=a3
    have ay:(vsT ts).getD j true=ts.sA[j].var:=by rw[zG,zj,qA (show j<ts.sA.length by omega)];rfl
    have w2:=zWk j;have J:st2.mu[1]?=some (.arr [lI sc.sC,aI N,s,aI L]):=by rw[C 1 ae];exact h1
    simp[go_sem,f4,f11,f14,p,show 0<k by omega,show j<ts.sA.length by omega];cases hv:ts.sA[j].var with
    |true =>
     simp[go_sem,f14,p,w2]
     try refine⟨p,aK ?_⟩
     try refine aK ?_
     refine⟨zS1 f2,zS1 f4,zS1 f5,zS1 f8,zS1 f9,zS1 f10,zS1 f11,zS1 f13,zSi,?_,zVs a8⟩;rw[aw ax p,ay,hv,if_neg zSp];simpa[go_sem] using P
    |false =>
     obtain⟨b,a0⟩:=bm zOm;have a1:r = .sl b 2 0 W.length/\st2.mu[b]?=some (.arr (W.map cRel).flatten):=by
      rcases P with h|⟨b',h,hc⟩
      .rw [h]at a0;cases a0
      .rw [h]at a0;cases a0
       exact⟨by rw[h];simp,hc⟩
     obtain⟨a1,a9⟩:=a1;have bo:=(qk.1 a9).1;have cj:=ah b a0;have ai:(W.map cRel).flatten.length=W.length*2:=by rw[yL (vI W).ok];simp
     have cc:=Own.put (av:=r) (xs:=W.map cRel) (by rw[a1];simp) a9 (vI W).ok (i:=j) (r:=cRel ((A 0).getD j noR)) rfl zSo;have a4:j<(A 0).length:=zOm;have bq:(A 0).getD j noR=(A 0)[j]:=by rw[zG,qA a4];rfl
     have I:(((qu k).map A).map fun r=>[lRel r]).flatten[0]?=some (lRel (A 0)):=by
      obtain⟨k',rfl⟩:∃ k',k=k'+1:=⟨k-1,zOm⟩;rw[List.range_succ_eq_map];simp
     have az:(((qu k).map A).map fun r=>[lRel r]).length=k:=zSp;generalize a5:(((qu k).map A).map fun r=>[lRel r])=rows at *
     have br:rows[0]?=some [lRel (A 0)]:=by
      rw[<-a5];obtain⟨k',rfl⟩:∃ k',k=k'+1:=⟨k-1,zOm⟩;rw[List.range_succ_eq_map];rfl
     have b0:(rows.map List.length).sum=k:=by
      have:=yL (sz:=1) (xs:=rows) (by rw[<-a5];intro r hr;obtain⟨n,_,rfl⟩:=qn.1 hr;rfl);rw[List.length_flatten]at this;omega
     have b1:rows.flatten.take 1=[lRel (A 0)]:=by
      cases b2:rows.flatten with
      |nil=>rw[b2]at I;cases I
      |cons x l=>rw[b2]at I;cases I;rfl
     have b3:(W.map cRel).flatten.take (j*2)++aI (A 0)[j].ar :: lI (A 0)[j].ts :: (W.map cRel).flatten.drop (j*2+2)=((W.set j (A 0)[j]).map cRel).flatten:=by
      rw[List.map_set,Jq (W.map cRel) j _ (vI W).ok rfl zSo,jb _ _ _ (by simp only[ai,cRel,zu,List.length_nil];omega)];simp
     have a6:Own (st2.mu.set b (.arr ((W.set j (A 0)[j]).map cRel).flatten)) 2 r ((W.set j (A 0)[j]).map cRel) := .inr ⟨b,by rw[a1];simp,qM bo⟩;have aj:=aw ax p;rw[ay,hv,if_pos rfl,bq]at aj;rcases ho with rfl|⟨c,rfl,b4⟩
     .simp [go_sem,f9,f13,f14,J,a1,a2]
      refine cL (.ip [lRel (A 0)]) (by rw[br];simp[az];omega) ?_;simp[go_sem,f14,p,a9,ai,a2,a4];refine cL (st2.mu.set b (.arr ((W.set j (A 0)[j]).map cRel).flatten)) (by rw[if_pos zOm,b3]) ?_;simp[go_sem,f14,p,w2]
      try refine⟨p,aK ?_⟩
      try refine aK ?_
      refine⟨zS1 f2,zS1 f4,zS1 f5,zS1 f8,zS1 f9,zS1 f10,zS1 f11,zS1 f13,zSi,by rw[aj];simpa[go_sem] using a6,fun i hi hn=>?_⟩;simp only[qC];rw[yF (fun e=>hn (by rw[<-e];exact a0))];exact a8 i hi hn
     .have bs:=(qk.1 b4).1
      have ab:=C c bs;rw[b4]at ab;simp[go_sem,f9,f13,f14,J,ab,az,show 0<k by omega,a1,a2];refine cL (lRel (A 0)) (by rw[b0,if_pos zOm,b1];rfl) ?_;simp[go_sem,f14,p,a9,ai,a2,a4];refine cL (st2.mu.set b (.arr ((W.set j (A 0)[j]).map cRel).flatten)) (by rw[if_pos zOm,b3]) ?_;simp[go_sem,f14,p,w2]
      try refine⟨p,aK ?_⟩
      try refine aK ?_
      refine⟨zS1 f2,zS1 f4,zS1 f5,zS1 f8,zS1 f9,zS1 f10,zS1 f11,zS1 f13,zSi,by rw[aj];simpa[go_sem] using a6,fun i hi hn=>?_⟩;simp only[qC];rw[yF (fun e=>hn (by rw[<-e];exact a0))];exact a8 i hi hn
   .have bu:j<D.length->¬ 0<k:=fun h=>by omega
    rw[bn a3]at P;have J:st2.mu[1]?=some (.arr [lI sc.sC,aI N,s,aI L]):=by rw[C 1 ae];exact h1
    by_cases p:j<D.length<;>simp[go_sem,f9,f11,f13,p,bu,J,Own.one P,Own.cells P]
    all_goals
     refine aQ (e:=93) (sz:=1) (bt:=24) (zv := .lst true []) (xs:=((qu k).map A).map fun r=>[lRel r]) [lRel (A k)] U.mu.length zSi zSi zSi rfl rfl zOm zOm ?_ (fun b h=>Own.lt ho h) ?_ ?_ ?_ zSo ?_
     .rcases ho with h|⟨b,h,hc⟩
      .exact .inl h
      .exact .inr ⟨b,h,by rw[C b (qk.1 hc).1];exact hc⟩
     .exact ⟨Own.rd (YP P ah) (vI _).ok fun r hr c hc=>by
       obtain⟨n,_,rfl⟩:=qn.1 hr;exact ZK n c hc,trivial⟩
     .intro r hr
      obtain⟨n,_,rfl⟩:=qn.1 hr;exact⟨rfl,rfl⟩
     .intro r hr
      simp at hr;subst hr;exact⟨rfl,rfl⟩
     intro b5 b6 ak b7 b8 ck cl;have cm:U.mu.length<=st2.mu.length:=by
      have:=C (U.mu.length-1) zOm;rw[qA (show U.mu.length-1<U.mu.length by omega)]at this;have:=(qk.1 this).1;omega
     have g1:b6[1]?=some (.arr [lI sc.sC,aI N,s,aI L]):=by rw[b7 1 zOm ae (fun h=>zW1 (hb 1 h))];exact J
     have g0:b6[0]?=some (.arr [.lst true [],aI 0,.lst true [],aI 0]):=by rw[b7 0 zOm ad (fun h=>zW1 (hb 0 h)),C 0 ad];exact h0
     have l1:=(qk.1 g1).1;simp[go_sem,f9,f11,g1,w1,Own.one ak,Own.cells ak]
     try refine⟨ao,aK ?_⟩
     try refine aK ?_
     refine⟨zS1 f2,zS1 f4,zS2 f5 hS,zS1 f8,zS1 f9,zS1 f10,zSi,b5,zS1 g0,zS1 l1,?_,fun b h=>zW1 (b8 b h)⟩;rw[List.range_succ,zb,zb];simpa[go_sem] using Own.set ak (.arr [lI sc.sC,aI N,b5,aI L]) (fun h=>zW1 (b8 1 h))
 .have bv:k=N:=by omega
  subst bv;have bw:s.one=true:=Own.one ho;have cn:s.cells=[s]:=Own.cells ho;have b9:∀ c,(U.mu.set 0 c)[0]?=some c:=fun c=>qM ad
  simp[go_sem,hS,e5,e8,e9,a7,h0,h1,bw,b9];have ca:=Own.set ho (i:=0) (.arr [lI sc.sC,aI k,s,aI L]) (fun h=>zW1 (hb 0 h));show Rd _ _ (.agg [lI sc.sC,aI sc.sN,lSt ((qu k).map A),aI L]);rw[hS];refine Rd.aggs ⟨.hf _ (zh _),.hf _ (HF.sc _),?_,.hf _ (HF.sc _),trivial⟩;exact Own.rd ca (fun r hr=>by
   obtain⟨n,_,rfl⟩:=qn.1 hr;rfl) fun r hr c hc=>by
   obtain⟨n,_,rfl⟩:=qn.1 hr;simp at hc;subst hc;exact Qc n
end GS
namespace GG
open ER
@[go_sem ↓] theorem qwA(P pl l Q o k r T st i op ty pos after j g) :
  segO P pl l Q o k r T st (some ⟨i,op,ty,pos,after,some (j,g)⟩)=ZJ ((l[j]?).bind (·.dst)) st g (fun st=>segO P pl l Q o k r T st (some ⟨i,op,ty,pos,after,none⟩)) (fun st=>awpT P pl l.toArray Q o T (st.put i (.sc qU) st.mu)):=by
 simp only[segO,yA,ZJ,u4]
 grind [brK,BrS,OptK,Br]
@[go_sem ↓] theorem qwB(P pl l st d op ty pos after j g) :
  V8 P pl l st (some ⟨some d,op,ty,pos,after,some (j,g)⟩)=ZJ ((l[j]?).bind (·.dst)) st g (fun st=>qG P pl true (some d) op st.ev st.mu (ZH st d st.mu) noK) (fun _=>True):=by
 simp only[V8,yA,ZJ,u4];congr 1
def subL:List (List AV)->List (List AV)->List (List (List AV))
 |c,[]=>[c]
 |c,x :: r=>subL c r++subL (c++[x]) r
def Qm(l:List (List AV)):Prop:=∀ r,r∈l->r.length=3/\(r.all AV.one=true/\∀ x,x∈r->HF x)
theorem clipU(c)(i:Qm c)(l:c.length<=1000000):qi qe 112 [.lst false c] (.lst true c):=by
 refine qSU call112 func112 rfl ?_;refine⟨⟨_,_,⟨rfl,rfl⟩,fun r g=>(i r g).1⟩,.hf _ (HF.lst fun r g x j=>(i r g).2.2 x j)⟩
abbrev extV(i b:Nat):AV := .fn (.func 111) [] [.ip [.yl i],.ptr b 0]
def ExtR(i b:Nat)(I:Nat->Mu->Prop)(g:Mu->Prop)(k:Nat)(e:AEnd)(m:Mu):Prop:=m[b]?=some (.arr [extV i b])/\((e = .ret (aB true)/\I k (m.set b .dead))\/(e = .ret (aB false)/\g (m.set b .dead)))
theorem extU{i b rows I Ix}(hS:∀ k mu,I k mu->I k (mu++[.dead]))(hX:∀ mu,Ix mu->Ix (mu++[.dead]))(hY:Yld qe i rows I Ix) :
  ∀ r c k mu,Qm r->Qm c->c.length+r.length<=1000->(∀(j) x,(subL c r)[j]?=some x->rows[k+j]?=some [.lst false x])->mu[b]?=some (.arr [extV i b])->I k (mu.set b .dead) ->
   qE qe 111 ([.lst false c,.lst false r]++[.ip [.yl i],.ptr b 0]) mu (ExtR i b I Ix (k+(subL c r).length))
 | [],c,k,mu,hr,hc,hl,P,hb,h0=>by
  refine qSW call111 func111 rfl {} ?_;simp[go_sem];have h1:=P 0 c rfl;refine qh.yield (Q0.hid hb zSp (hY k _ _ h1 h0)) ?_;rintro bb m ⟨C,hm,hd,rfl⟩;have T:b<C.length:=(qk.1 hd).1;have a1:(C.set b (Cell.arr [extV i b])).set b .dead=C:=by
   rw[List.set_set];apply jO
   grind
  simp[go_sem];refine⟨by rw[qM T],?_⟩;rw[a1];rcases hm with ⟨rfl,hI⟩|⟨rfl,hI⟩
  .exact .inl ⟨rfl,hI⟩
  grind
 |x :: r,c,k,mu,hr,hc,hl,P,hb,h0=>by
  have hx:=hr x zSp;obtain⟨l,o,p,rfl⟩:∃ l o p,x=[l,o,p]:=by
   match x,hx.1 with
   | [a,b,c],_=>simp
  refine qSW call111 func111 rfl {} ?_;have a9:¬(r.length:Int)+1=0:=zOm;simp[go_sem,a9];refine fD [0,1,2,3,4,5,6,7,9,10,11,12,14,15,8,13,16,17,18] [(0,0,[]),(1,0,[]),(2,0,[]),(3,0,[]),(4,1,[]),(5,0,[]),(6,0,[]),(7,0,[]),(9,0,[]),(10,0,[]),(11,0,[]),(12,0,[]),(14,0,[]),(15,0,[]),(8,1,[6,11]),(13,1,[6]),(16,1,[]),(17,0,[]),(18,0,[])] zKr zKr zSi ?_;have a2:(1:Int)<=(r.length:Int)+1:=zOm;have a3:∃ e g,(192=e/\3=g)/\yM g ([l,o,p] :: r):=⟨_,_,⟨rfl,rfl⟩,fun y J=>(hr y J).1⟩;simp[go_sem,hb,a2];refine⟨a3,?_⟩;have a4:Qm r:=fun y J=>hr y (zP1 J)
  have U:subL c ([l,o,p] :: r)=subL c r++subL (c++[[l,o,p]]) r:=rfl;have aa:=extU hS hX hY r c k mu a4 hc (by simp at hl;omega) (fun j y hj=>P j y (by grind)) hb h0;refine fY (caps:=[.ip [.yl i],.ptr b 0]) aa ?_ (by rintro q m ⟨_,h|h⟩<;>exact absurd h.1 zSp);rintro q C ⟨R,⟨hq,hI⟩|⟨hq,hI⟩⟩
  .cases hq
   have a6:l.one=true/\o.one=true/\p.one=true:=by grind
   have ab:∀ y,y∈c->∀ z,z∈y->HF z:=fun y J=>(hc y J).2.2
   simp[go_sem,R,a2,a6];refine⟨a3,?_⟩;refine cQ (clipU c hc (by simp at hl;omega)) (.zk (HF.lst ab) .nil) ?_;simp[go_sem,R];refine .inl ⟨127,127,192,3,24,[[l,o,p]],rfl,zSi,zSi,⟨.agg [aI 0,aI 0,aI 0],zSi,rfl,rfl⟩,zOm,zOm,by simp[qD],fun y J=>by grind,.inl ⟨c,rfl,fun y J=>⟨(hc y J).1,(hc y J).2.1⟩,by grind,fun h=>absurd h zSp,fun _=>?_⟩⟩;have T:b<C.length:=(qk.1 R).1;have al:(c++[[l,o,p]]).flatten=c.flatten++[l,o,p]:=zSp;generalize hM:C++[Cell.arr (c.flatten++[[l,o,p]].flatten)]=m2;have ad:C++[Cell.arr (c.flatten++[l,o,p])]=m2:=by rw[<-hM];simp
   have an:m2[b]?=some (.arr [extV i b]):=by grind
   have ae:m2[C.length]?=some (.arr (c++[[l,o,p]]).flatten):=by grind
   have a7:(C++[Cell.arr (c.flatten++[l,o,p])])[b]?=some (.arr [extV i b]):=by grind
   simp[go_sem,a7];rw[ad];have a8:cutM (fun j=>!(j == C.length)) m2 0=C++[.dead]:=by
    apply jO
    grind [jG,qN,qA,zJ]
   have a0:Qm (c++[[l,o,p]]):=fun y J=>by
    rcases qK.1 J with h|h
    .exact hc y h
    .rw [qV]at h;subst h;exact hx
   have af:=extU hS hX hY r (c++[[l,o,p]]) (k+(subL c r).length) (C++[.dead]) a4 a0 (by simp at hl⊢;omega) (fun j y hj=>by
    have:=P ((subL c r).length+j) y (by rw[U,zJ zOm];simpa using hj);rw[<-this];congr 1;omega) (by rw[qN T];exact R) (by
    rw[List.set_append_left _ _ T];exact hS _ _ hI)
   have ag:Rd (cutM (fun j=>j == C.length) m2 0) (.sl C.length 3 0 (c.length+1)) (.lst false (c++[[l,o,p]])):=by
    have ah:(cutM (fun j=>j == C.length) m2 0)[C.length]?=some (.arr (c++[[l,o,p]]).flatten):=by rw[Xo];exact ae
    have:=Own.rd (mu:=cutM (fun j=>j == C.length) m2 0) (sz:=3) (av := .sl C.length 3 0 (c++[[l,o,p]]).length) (.inr ⟨_,rfl,ah⟩) (fun y J=>(a0 y J).1) (fun y J=>(a0 y J).2.2);simpa using this
   have ai:qE qe 111 ([.sl C.length 3 0 (c.length+1),.lst false r]++[.ip [.yl i],.ptr b 0]) m2 (ExtR i b I Ix (k+(subL c r).length+(subL (c++[[l,o,p]]) r).length)):=
    qE.freeze (args:=[.sl C.length 3 0 (c.length+1),.lst false r,.ip [.yl i],.ptr b 0]) (args1:=[.lst false (c++[[l,o,p]]),.lst false r,.ip [.yl i],.ptr b 0]) (fun j=>j == C.length) ⟨.inr ag,.inl rfl,.inl rfl,.inl rfl,trivial⟩ (by rw[a8];exact af)
   refine fY (caps:=[.ip [.yl i],.ptr b 0]) ai ?_ (by rintro q m ⟨_,h|h⟩<;>exact absurd h.1 zSp);have ak:k+(subL c r).length+(subL (c++[[l,o,p]]) r).length=k+(subL c ([l,o,p] :: r)).length:=by rw[U,za];omega
   simp[go_sem, *]
  .cases hq
   simp[go_sem];exact⟨R,.inr ⟨rfl,hI⟩⟩
theorem qm2(l)(P:Qm l)(R:l.length<=1000):jd qe 110 [.ip [.lst false l]] ((subL [] l).map fun c=>[.lst false c]):=by
 refine jd.of call110 fun i I t T U hY C h0=>?_
 refine fH ?_;refine qSW call110 func110 rfl {} ?_;simp[go_sem];have hx:=extU (i:=i) (b:=C.length) T U hY l [] 0 (C++[.arr [extV i C.length]]) P (fun r o=>by simp at o) (zUs R) (fun j x hj=>by rw[yf,zj,hj];rfl) zSp (by grind);have hf:qE qe 111 ([.lst true [],.lst false l]++[.ip [.yl i],.ptr C.length 0]) (C++[.arr [extV i C.length]]) (ExtR i C.length I t (0+(subL [] l).length)):=
  qE.freeze (args:=[.lst true [],.lst false l,.ip [.yl i],.ptr C.length 0]) (args1:=[.lst false [],.lst false l,.ip [.yl i],.ptr C.length 0]) (fun _=>false) ⟨.inr (.wk _ true _ (.hf _ (HF.lst fun r o=>by simp at o))),.inl rfl,.inl rfl,.inl rfl,trivial⟩ (by rw[ng];exact hx)
 refine fY (caps:=[.ip [.yl i],.ptr C.length 0]) hf ?_ (by rintro q m ⟨_,h|h⟩<;>exact absurd h.1 zSp);rintro q m ⟨hb,h⟩;have g:cutM (fun j=>!(j == C.length)) m 0=m.set C.length .dead:=by
  apply jO
  grind [jG,qM,qk,yF]
 simp[go_sem];refine .inr ⟨fun j=>j == C.length,⟨_,.same _⟩,?_⟩;show I _ (cutM (fun j=>!(j == C.length)) m 0)\/t (cutM (fun j=>!(j == C.length)) m 0);rw[g];rw[yf]at h;rcases h with ⟨_,h⟩|⟨_,h⟩
 .exact .inl h
 grind
theorem qm3(l)(i:Qm l):qi qe 65 [.lst false l] (.fn (.func 110) [] [.ip [.lst false l]]):=by
 refine qSU call65 func65 rfl ?_;refine .hf _ (HF.fn (fun c g=>by simp at g) (fun c g=>?_));simp at g;subst g;exact jg (HF.lst fun r j x o=>(i r j).2.2 x o)
end GG
namespace F5
open Y1 YF E2 E3 EA EO EP EQ ER ET EW F1 F2 F3 F4
theorem clipE(l):qi qe 184 [lPm l] (.lst true (l.map cPm)):=by
 refine qSV call184 func184 rfl ?_;have g:List.take l.length (l.map cPm)=l.map cPm:=zV zSp;simp[go_sem,g];exact⟨⟨_,_,⟨rfl,rfl⟩,fun r i=>by obtain⟨q,_,rfl⟩:=qn.1 i;rfl⟩,.hf _ (HF.lst fun r i c j=>by obtain⟨q,_,rfl⟩:=qn.1 i;exact Um q c j)⟩
theorem clipI(l):qi qe 221 [lI l] (lI l):=by
 refine qSV call221 func221 rfl ?_;have g:List.take l.length (l.map rI)=l.map rI:=zV zSp;simp[go_sem,g];exact⟨⟨_,_,⟨rfl,rfl⟩,(yv l).ok⟩,.wk _ true _ (.hf _ (HF.lst fun r i c j=>by obtain⟨q,_,rfl⟩:=qn.1 i;grind [HF.sc]))⟩
theorem Kx(xs:List (tA×Int)):zm 2 (xs.map cPm):=fun r g=>by
 obtain⟨n,_,rfl⟩:=qn.1 g;exact⟨rfl,rfl⟩
abbrev insC(g:Int)(ts:List Int)(i:List Bool):List AV:=[.ip [aI g,lI ts],.ip [lB i]]
def ZY(ts:List Int)(g:List Bool):List (List AV):=(ts.zip g).map fun e=>[aI e.1,aB e.2]
theorem Ky(r ts g)(t:ts.length=g.length)(hb:ts.length<=1000000):jd qe 185 (insC r ts g) (ZY ts g):=by
 refine jd.of call185 fun i I Ix hS hX J C h0=>?_
 refine qSW call185 func185 rfl {} ?_;have P:(ZY ts g).length=ts.length:=by simp[ZY,t]
 simp[go_sem];refine kL ts.length (fun k U=>U.tm 0 = .yl i/\U.tm 2 = .ip [lB g]/\U.tm 7=lI ts/\U.tm 8=aI ts.length/\U.tm 9=aI k/\I k U.mu) ?_ ?_
 .simp [go_sem, *]
 rintro k U hk ⟨R,T,e7,e8,e9,hI⟩;by_cases l:k<ts.length
 .have w1:=zWk k
  have p:k<g.length:=zOm;have o:(ZY ts g)[k]?=some [aI ts[k],aB g[k]]:=by
   rw[ZY,zj,List.getElem?_zip_eq_some (z:=(ts[k],g[k])) |>.2 ⟨qA l,qA p⟩];rfl
  simp[go_sem,R,T,e7,e8,e9,l,p];refine qh.yield (J _ _ _ o hI) ?_;rintro b j (⟨rfl,a0⟩|⟨rfl,a1⟩)
  .simp_all [go_sem,aK]
  simp[go_sem, *]
 .have a2:k=ts.length:=by omega
  simp_all[go_sem]
def endI(l:XE (List (Int×Bool))):AEnd:=match l with
 | .ok l => .ret (.fn (.func 185) [] (insC 1 (l.map Prod.fst) (l.map Prod.snd)))
 | .error e => .pan (errV e)
theorem UM(l):endI (.ok l) = .ret (.fn (.func 185) [] (insC 1 (l.map Prod.fst) (l.map Prod.snd))):=rfl
theorem Kz(e):endI (.error e) = .pan (errV e):=rfl
theorem KA(x N n a b)(hM:OkMa x N)(hk:n.sD=[a,b])(ih:IH x N n)(p)(hp:OkP x N p)(hq:bd p n) :
  qZ qe 127 [eMa x,ePl p,eNd n] (endI (vA [den x a,den x b] n.name p)):=by
 refine zi.of_sound ?_;refine qSW call127 func127 rfl {} ?_;have ia:=ih a (by rw[hk];simp) p hp zOm;have ha:=ia.E;have wa:=wk3 x p a;have aj:=zY x;have ak:=fun p' h1 h2=>(ih b (by rw[hk];simp) p' h1 h2).F
 generalize C:vA [den x a,den x b] n.name p=E;unfold vA at C;simp only[kD,uA,List.getD_cons_succ]at C;simp[go_sem];refine fD [0,1,2,3,4,5,6,7,8] [(0,0,[]),(1,0,[]),(2,0,[]),(3,0,[]),(4,0,[]),(5,0,[]),(6,1,[]),(7,2,[1,3,5]),(8,1,[])] zKr zKr zSi ?_;simp[go_sem,hk];cases ea:(den x a).E p with
 |error e =>
  rw[ea]at ha C;subst C;refine fZ ha wa ?_;simp[go_sem,zH,Kz];exact .hf _ (qR _)
 |ok d =>
  rw[ea]at ha C;rw[zC]at C;refine cQ ha.toP wa ?_;by_cases he:d.ar=1
  case neg =>
   rw[if_neg he]at C;subst C;simp[go_sem,hk,he];refine fZ (wq 42) (wkI 42) ?_;simp[go_sem,Kz];exact .hf _ (qR _)
  rw[if_pos he]at C;have hd:(d.ar=1)=True:=eq_true he;have gd:=ia.G _ ea;have ld:=gd.len hM.n0 (aJ hM);generalize hg:(fun a=>bX ((den x b).F ⟨p.st,p.env++[(n.name,a)]⟩) fun b=>(Except.ok (a,b):XE (Int×Bool)))=g at C;simp[go_sem,hk,hd];refine kL d.ts.length (fun k U=>∃(o:List (Int×Bool)) (t:AV),mapX g (d.ts.take k) = .ok o/\o.length=k/\U.tm 0=eMa x/\U.tm 4 = .ip (cPl p)/\U.tm 5 = .ip (cNd n)/\U.tm 7 = .ptr 0 0/\U.tm 8 = .ptr 1 0/\U.tm 24=lI d.ts/\U.tm 25=aI d.ts.length/\U.tm 26=aI k /\
   U.mu[0]?=some (.arr (cRel d))/\U.mu[1]?=some (.arr [t])/\Own U.mu 1 t ((o.map Prod.snd).map rB)/\qo t≠some 0/\qo t≠some 1) ?_ ?_
  .exact ⟨[],.lst true [],rfl,rfl,zSi,zSi,zSi,zSi,zSi,zSi,zSi,zSi,zSi,zSi,.inl rfl,by simp[qo],by simp[qo]⟩
  rintro k U ay ⟨o,t,J,al,e0,e4,e5,e7,e8,ab,a5,a6,g0,g1,ho,n0,n1⟩;by_cases I:k<d.ts.length
  .have w1:=zWk k
   have hv:=gd.val _ (qs I);rw[he,uO]at hv;have hF:=ak ⟨p.st,p.env++[(n.name,d.ts[k])]⟩ (hp.bind hv) zSo;have hw:=wk3 x ⟨p.st,p.env++[(n.name,d.ts[k])]⟩ b;have P:=ZX (l2:=d.ts.drop k) J;rw[vF,zp I,mapX]at P;rw[C]at P;have a0:g d.ts[k]=bX ((den x b).F ⟨p.st,p.env++[(n.name,d.ts[k])]⟩) fun b => .ok (d.ts[k],b):=by rw[<-hg]
   simp[go_sem,ab,a5,a6,I];refine fD [0,1,3,4,5,6,7,2,8,9] [(0,0,[]),(1,0,[]),(3,0,[]),(4,0,[]),(5,0,[]),(6,0,[]),(7,0,[]),(2,1,[4]),(8,1,[]),(9,0,[])] zKr zKr zSi ?_;simp[go_sem,e4,e5];refine fR (clipE p.env) (.zk (um _) .nil) ?_;refine qz.ownB (e:=275) (sz:=2) (bt:=24) (zv := .agg [aS ⟨#[]⟩,aI 0]) (xs:=p.env.map cPm) (ys:=[cPm (n.name,d.ts[k])]) zSi zSi zSi rfl rfl zOm zOm (.inl rfl) (by simp[qD]) (Kx p.env) (Kx [(n.name,d.ts[k])]) zSo ?_;intro ev ad ae an az b0;have l1:1<U.mu.length:=(qk.1 g1).1;have a3:p.env.map cPm++[cPm (n.name,d.ts[k])]=(p.env++[(n.name,d.ts[k])]).map cPm:=by rw[zb];rfl
   rw[a3]at ae;have af:∀ i,i<U.mu.length->ad[i]?=U.mu[i]?:=fun i hi=>an i hi (by simp[qo])
   simp[go_sem];refine qj.fz (FzQ.ownB (d:=11) (sz:=2) (av:=ev) (xs:=(p.env++[(n.name,d.ts[k])]).map cPm) zSi ae (Kx _) (fun r hr c hc=>by obtain⟨q,_,rfl⟩:=qn.1 hr;exact Um q c hc) fun a1 full ao aq=>?_);have a7:∀ i,i<U.mu.length->a1[i]?=U.mu[i]?:=fun i hi=>(aq i (fun e=>by grind)).trans (af i hi)
   simp[go_sem];refine fD [0,1,2,3,4,5,6,7,8,9,10,11,12,13] [(0,0,[]),(1,0,[]),(2,0,[]),(3,0,[]),(4,0,[]),(5,0,[]),(6,0,[]),(7,0,[]),(8,0,[]),(9,0,[]),(10,1,[0]),(11,0,[]),(12,1,[]),(13,1,[])] zKr zKr zSi ?_;have au:=(a7 0 zOm).trans g0;have a8:=(a7 1 l1).trans g1;have a2:∀ f,WKs [eMa x,.agg [aI p.st,.lst f ((p.env++[(n.name,d.ts[k])]).map cPm)],eNd b] [eMa x,ePl ⟨p.st,p.env++[(n.name,d.ts[k])]⟩,eNd b]:=fun f =>
    .zk aj (.cons (WK.aggs (.zs (.cons (WK.lst fun r hr c hc=>by obtain⟨q,_,rfl⟩:=qn.1 hr;exact Um q c hc) .nil))) (.zk (qL b) .nil))
   have aw:Own a1 1 t ((o.map Prod.snd).map rB):=by
    rcases ho with h|⟨bb,h,hc⟩
    .exact .inl h
    .exact .inr ⟨bb,h,by rw[a7 bb (qk.1 hc).1];exact hc⟩
   have a2:WKs [eMa x,.agg [aI p.st,.lst full (p.env.map cPm++[cPm (n.name,d.ts[k])])],.agg (cNd b)] [eMa x,ePl ⟨p.st,p.env++[(n.name,d.ts[k])]⟩,eNd b]:=by rw[a3];exact a2 full
   simp[go_sem,e0,e4,e5,e8,hk,a8];cases ef:(den x b).F ⟨p.st,p.env++[(n.name,d.ts[k])]⟩ with
   |error e =>
    rw[ef]at hF a0;rw[a0]at P;subst P;refine fZ hF a2 ?_;simp[go_sem,zH,Kz];exact .hf _ (qR _)
   |ok v =>
    rw[ef]at hF a0;refine cQ hF.toP a2 ?_;simp[go_sem,e8,a8];refine qz.ownB (e:=4) (sz:=1) (bt:=1) (zv:=aB false) (xs:=(o.map Prod.snd).map rB) (ys:=[rB v]) zSi zSi zSi rfl rfl zOm zOm aw (by simp[qD]) (un _) (un [v]) zSo ?_;intro a9 j aa ag ah b1;have b2:U.mu.length<=a1.length:=by
     have:a1.length=ad.length:=ao;omega
    have k0:j[0]?=some (.arr (cRel d)):=(ag 0 zOm n0).trans au;have k1:j[1]?=some (.arr [t]):=(ag 1 zOm n1).trans a8;have m0:qo a9≠some 0:=fun e=>zW1 (ah 0 e)
    have m1:qo a9≠some 1:=fun e=>zW1 (ah 1 e)
    simp[go_sem,e8,a6,k1,Own.one aa,Own.cells aa,w1];refine⟨I,aK ⟨o++[(d.ts[k],v)],a9,?_,zP1 al,zS1 e0,zS1 e4,zS1 e5,zS1 e7,zS1 e8,zS1 ab,zS1 a5,zSi,?_,?_,?_,m0,m1⟩⟩
    .rw [yj I,ZX J,mapX,a0];rfl
    .simp only[qC];rw[zGl];exact k0
    .simp only[qC];rw[qM zOm]
    .simp only[qC]
     rw[zb,zb];exact Own.set aa _ m1
  .have ax:k=d.ts.length:=by omega
   subst ax;rw[qP,C]at J;subst J;have ai:=Kt (g:=fun a=>(den x b).F ⟨p.st,p.env++[(n.name,a)]⟩) (ts:=d.ts) (l:=o) (by rw[hg];exact C);have a4:=UM o;rw[ai]at a4;generalize o.map Prod.snd=vs at *
   simp[go_sem,e7,e8,a5,a6,a4];refine .fn _ _ _ _ _ rfl rfl (fun k x y hx=>by simp at hx) (fun k x y hx hy=>?_)
   match k with
   | 0 =>
    simp at hx hy;subst hx;subst hy;rw[<-he];refine .ptr 0 0 _ _ g0 zSp fun k u v hu hv=>?_
    rw[yf]at hu;rw[hu]at hv;cases hv;exact .hf _ (ZK d _ (q8 hu))
   | 1=>simp at hx hy;subst hx;subst hy;exact Rd.ip1 g1 (Own.rdB ho)
   |k+2=>simp at hx
theorem RelM.push{mu g l}(h:RelM mu g l):RelM (mu++[.dead]) g l:=by
 obtain⟨t,r,g1,i,j,o⟩:=h;exact⟨t,by grind,by grind,i.same fun b p=>by rw[qN (i.v.lt p)],j,o⟩
abbrev onL(l:List (Int×Bool)):List Int:=(l.filter fun e=>e.2).map fun e=>e.1
theorem KB(l:List (Int×Bool)):ZY (l.map Prod.fst) (l.map Prod.snd)=l.map fun e=>[aI e.1,aB e.2]:=by
 rw[ZY,List.zip_map'];simp
theorem qm4(l:List (Int×Bool))(k h):onL (l.take (k+1))=onL (l.take k)++(if l[k].2=true then [l[k].1] else []):=by
 rw[yj h,onL,List.filter_append,zb]
 grind
theorem KC{ds nm p l}(h:vA ds nm p = .ok l)(B)(hB:∀ d,(kD ds 0).E p = .ok d->d.ts.length<=B):l.length<=B:=by
 obtain⟨d,i,_,g⟩:=qaL h;have:=congrArg List.length g
 grind
theorem qm5(x N n a b)(U:OkMa x N)(hk:n.sD=[a,b])(ih:IH x N n)(p)(hp:OkP x N p)(hq:bd p n) :
  qZ qe 181 [eMa x,ePl p,eNd n] (endE (bX (vA [den x a,den x b] n.name p) fun l => .ok ⟨1,(l.filter fun e=>e.2).map fun e=>e.1⟩)):=by
 refine zi.of_sound ?_;refine qSW call181 func181 rfl {} ?_;have r:=KA x N n a b U hk ih p hp hq;have wx:=wk3 x p n;simp[go_sem];cases hE:vA [den x a,den x b] n.name p with
 |error e =>
  rw[hE]at r;refine fZ r wx ?_;simp[go_sem,zH];exact .hf _ (qR _)
 |ok l =>
  rw[hE]at r;have hl:l.length<=8000:=KC hE 8000 fun d h=>((ih a (by rw[hk];simp) p hp zOm).G d h).len U.n0 (aJ U)
  have I:=Ky 1 (l.map Prod.fst) (l.map Prod.snd) zSp zSo;rw[KB]at I;rw[UM]at r;refine cQ r.toP wx ?_;generalize insC 1 (l.map Prod.fst) (l.map Prod.snd)=C at *
  simp[go_sem,zC];refine tK I (fun j M=>RelM M 1 (onL (l.take j))) (fun _ _=>False) ?_ ?_ ?_ ?_ ?_ ?_
  .exact ⟨.lst true [],zSi,zSi,.inl ⟨rfl,rfl⟩,by simp[qo],by simp[qo]⟩
  .grind [RelM.push]
  .grind
  .rintro j y M hj ⟨av,J,g1,o,R,n1⟩
   rw[zj,Option.map_eq_some_iff]at hj;obtain⟨t,ht,rfl⟩:=hj;obtain⟨a0,a1⟩:=qk.1 ht;have g:=qm4 l j a0;rw[a1]at g;refine⟨rfl,?_⟩;cases T:t.2 with
   |true =>
    rw[if_pos T]at g;have a5:(onL (l.take j)).length<=8000:=by
     rw[onL,zF];exact zL (List.length_filter_le _ _) zSo
    simp[go_sem,g1];refine aN (e:=3) (bt:=8) (z:=0) zSi zSi zSi zOm o.v zOm ?_;intro a6 a7 i a2 a3 a4;obtain⟨k1,k2⟩:=RelM.step J g1 R n1 i a2 a3 a4;simp[go_sem,k1,i.v.one,i.v.cells]
    grind [tT]
   |false =>
    rw[if_neg (by rw[T];simp),zO]at g;simp[go_sem];refine tT ?_;rw[g];exact⟨av,J,g1,o,R,n1⟩
  .rintro M ⟨av,J,g1,o,R,n1⟩
   rw[zF,qP]at o;have P:∀ c,(M.set 0 c)[0]?=some c:=fun c=>qM (qk.1 J).1
   simp[go_sem,J,g1,P,o.v.one];refine aD (o.v.same fun b T=>?_);rw[yF (fun e=>R (by rw[e];exact T))]
  grind
end F5
namespace F6
open Y1 Y10 P1 YF E3 EA EO EP EQ ER EW F1 F2 F3 F4 F5
section
variable {nm:tA}{env:List (tA×Int)}{st:St}{Q:qX->St->Prop}
theorem backU(l):qi qe 220 [lPm l] (.fn (.func 244) [] [.ip [lPm l]]):=by
 refine qSU call220 func220 rfl ?_;exact .hf _ (HF.fn zSp (by simp;exact jg (um _)))
def Zl(l:List (tA×Int)):List (List AV):=(qu l.length).map fun k:Nat=>[aI ((l.length-1-k:Nat):Int),.agg (cPm (l.getD (l.length-1-k) (⟨#[]⟩,0)))]
theorem qm6(l)(hl:l.length<=1000000000):jd qe 244 [.ip [lPm l]] (Zl l):=by
 refine jd.of call244 fun i I Ix hS hX hY C h0=>?_
 refine qSW call244 func244 rfl {} ?_;have a0:(Zl l).length=l.length:=by simp[Zl]
 have w0:qp.wrap ((l.length:Int)-1)=(l.length:Int)-1:=zWr;simp[go_sem,w0];refine kL l.length (fun k U=>U.tm 0 = .yl i/\U.tm 1 = .ip [lPm l]/\U.tm 3=aI ((l.length:Int)-1-k)/\I k U.mu) ?_ ?_
 .simp [go_sem, *]
 rintro k U hk ⟨T,e1,t,hI⟩;by_cases g:k<l.length
 .have hj:((l.length:Int)-1-k)=((l.length-1-k:Nat):Int):=by omega
  have o:l.length-1-k<l.length:=zOm;have hw:qp.wrap (((l.length-1-k:Nat):Int)-1)=(l.length:Int)-1-((k+1:Nat):Int):=by grind [zW]
  have p:(0:Int)<=((l.length-1-k:Nat):Int):=zOm;have r:(Zl l)[k]?=some [aI ((l.length-1-k:Nat):Int),.agg (cPm l[l.length-1-k])]:=by
   rw[Zl,zj,wR g];simp[zG,qA o]
  rw[hj]at t;generalize l.length-1-k=j at *
  simp[go_sem,T,e1,t,p,o];refine qh.yield (hY _ _ _ r hI) ?_;rintro b a1 (⟨rfl,J⟩|⟨rfl,P⟩)
  .simp [go_sem,t,hw]
   exact⟨g,aK ⟨zS1 T,zS1 e1,zSi,zVs J⟩⟩
  .simp [go_sem]
   exact .inr P
 .have R:k=l.length:=by omega
  subst R;rw[show (l.length:Int)-1-l.length = -1 by omega]at t;simp[go_sem, *]
theorem KD(nm):∀(l:List (tA×Int))(r),(∀ e,e∈l->e.1≠nm)->l.foldl (fun r e=>if e.1=nm then some e.2 else r) r=r
 | [],r,_=>rfl
 |e :: l,r,h=>by rw[List.foldl_cons,if_neg (h e zSp)];exact KD nm l r fun x g=>h x (zP1 g)
theorem qm7(h:∀ e,e∈env->e.1≠nm):ZS nm env=none:=KD nm env none h
theorem qm8{j}(g)(i:env[j].1=nm)(h:∀ e,e∈env.drop (j+1)->e.1≠nm):ZS nm env=some env[j].2:=by
 have e:env=env.take j++env[j] :: env.drop (j+1):=by rw[<-zp g,vF]
 unfold ZS
 conv=>lhs;rw[e]
 rw[vQ,List.foldl_cons,if_pos i];exact KD nm _ _ h
theorem qm9(fs:List Fld)(g:List Rl)(nm k h)(i:k<g.length):vZ (fs.take (k+1)) (g.take (k+1)) nm=vZ (fs.take k) (g.take k) nm++(if fs[k].name=nm then [g[k]] else []):=by
 unfold vZ;rw[yj h,yj i,List.zip_append zSo,List.filterMap_append];congr 1;by_cases e:fs[k].name=nm<;>simp[e]
theorem qaX(fs g nm):(vZ fs g nm).length<=fs.length:=by
 grind [vZ,zL,List.length_filterMap_le,List.length_zip]
def Zm(x:Mo)(nm:tA)(i:Nat)(s:tA×Bool):List Rl:=(if s.1=nm then [⟨1,zD x i⟩] else [])++((if s.2=true/\s.1++je=nm then [⟨1,(zD x i).take 1⟩] else [])++(if s.2=true/\s.1++vd=nm then [⟨2,Qi x i⟩] else []))
theorem qaY(x nm):∀ a b i,jf x nm i (a++b)=jf x nm i a++jf x nm (i+a.length) b
 | [],b,i=>rfl
 |s :: a,b,i=>by
  rw[yT,jf,jf,qaY x nm a b (i+1),zu,show i+1+a.length=i+(a.length+1) by omega];simp only[zt]
theorem qaZ(x nm)(so:List (tA×Bool))(k h):jf x nm 0 (so.take (k+1))=jf x nm 0 (so.take k)++Zm x nm k so[k]:=by
 rw[yj h,qaY,vR,Nat.min_eq_left zOm,yf,jf];simp[Zm,jf]
theorem qnA(x nm i s):(Zm x nm i s).length<=3:=by
 grind [Zm,za]
theorem qa0(x nm)(so:List (tA×Bool)):∀ k,k<=so.length->(jf x nm 0 (so.take k)).length<=3*k
 | 0,_=>by simp[jf]
 |k+1,h=>by
  rw[qaZ x nm so k zOm,za];have:=qa0 x nm so k zOm;have:=qnA x nm k so[k];omega
theorem qnB(sc)(i:Nat):tupR sc [(i:Int)] 0=(qu (gI sc.sC i).toNat).map fun k:Nat=>sumI (sc.sC.take i)+k:=by
 rw[tupR];simp only[tupR,Int.zero_mul,Int.zero_add,show (i:Int).toNat=i by omega];exact List.map_eq_flatMap.symm
theorem cS{i d L x}(g:Rd (cutM (fun j=>decide (L<=j)) st.mu 0) (st.tm d) x)(k:Q (.exit i) (st.put (some d) x (cutM (fun j=>!decide (L<=j)) st.mu 0))):FzQ Q (.exit i) st:=by
 refine⟨_,⟨fun j=>decide (L<=j),rfl,fun j=>?_⟩,trivial,k⟩;simp only[St.put];split
 .rename_i h;subst h;exact .rd _ _ g
 .exact .same _
def bR:Nat->Int
 | 0=>0
 |k+1=>bR k*20+20
theorem bR_ok:∀ k,k<=3->bR k<=100000
 | 0,_=>zDe
 | 1,_=>zDe
 | 2,_=>zDe
 | 3,_=>zDe
def uu(n:Int)(tuple:List Int):Int:=tuple.foldl (fun o t=>o*n+t) 0
theorem qnC(n)(tuple:List Int)(k h):uu n (tuple.take (k+1))=uu n (tuple.take k)*n+tuple[k]:=by
 rw[List.take_add_one,qA h,uu,uu,vQ];rfl
theorem rankU(sc)(g:GSc sc)(tuple)(ht:tuple.length<=3)(hd:∀ d,d∈tuple->0<=d/\d<sumI sc.sC):qi qe 222 [eSc sc,lI tuple] (aI (uu (sumI sc.sC) tuple)):=by
 refine qSV call222 func222 rfl ?_;simp[go_sem,show ¬(3:Int)<tuple.length by omega];refine cQ (Yu sc g) (.zk (zr sc) .nil) ?_;have o:=g.sum sc.sC.length;rw[qP]at o;generalize sumI sc.sC=n at *
 simp[go_sem];refine qm.up tuple.length (fun k U=>U.tm 5=aI n/\U.tm 14=lI tuple/\U.tm 15=aI tuple.length/\U.tm 6=aI (uu n (tuple.take k))/\U.tm 16=aI k/\U.mu=[]/\0<=uu n (tuple.take k)/\uu n (tuple.take k)<=bR k) ?_ ?_
 .simp [go_sem,uu,bR]
 rintro k U hk ⟨P,p,j,R,l,T,t,C⟩;by_cases i:k<tuple.length
 .have I:=hd _ (qs i)
  have hs:=qnC n tuple k i;have hb:=bR_ok k zOm;have a0:bR (k+1)=bR k*20+20:=rfl;generalize a1:uu n (tuple.take k)=r at *
  have m0:0<=r*n:=Int.mul_nonneg t zOm;have m1:r*n<=bR k*20:=jE C zOm zOm zOm;have hw:qp.wrap (n-1)=n-1:=zWr;simp[go_sem,P,p,j,l,T,i,hw];refine cQ (UA tuple[k] 0 (n-1)) (.zs (.zs (.zs .nil))) ?_;simp[go_sem,P,p,j,R,l,i,I.1,show tuple[k]<=n-1 by omega];rw[hs,zW (n:=r*n) zOm zOm,zW (n:=r*n+tuple[k]) zOm zOm,zW (n:=(k:Int)+1) zOm zOm];omega
 .have J:k=tuple.length:=by omega
  subst J;simp[go_sem,j,R,l,T];exact .zsc _
theorem BrS.join{P pl b A B K}(J)(j:b=true->awp P pl A (seqQ (fun st=>Keep J .mk st) Q) st)(l:b=false->awp P pl B (seqQ (fun st=>Keep J .mk st) Q) st)(o:∀ st,J st->K st) :
  BrS b (awp P pl A (seqQ K Q)) (awp P pl B (seqQ K Q)) st:=by
 refine cJ (fun h=>awp.mono A (j h) fun e st g=>?_) (fun h=>awp.mono B (l h) fun e st g=>?_)
 all_goals cases e with
  |normal=>exact o st g
  |exit i=>exact g
  |ret=>exact g
  |pan v=>exact g
theorem cT{b p q}(J:St->Prop)(h:J st)(k:∀ st,J st->BrS b p q st):BrS b p q st:=k st h
def FndM(mu:Mu)(s:AV)(F:List Rl):Prop:=mu[0]?=some (.arr [aI 0,.lst true []])/\Own mu 2 s (F.map cRel)/\qo s≠some 0
theorem cK{full}(l):WK (.lst full (l.map rI)) (lI l):=WK.lst fun r g c i=>by
 obtain⟨n,_,rfl⟩:=qn.1 g
 grind [HF.sc]
structure SInv (x:Mo) (nm sn:tA) (sb:Bool) (k c d:Nat) (F:List Rl) (st:St):Prop where
 e0:st.tm 0=eMa x
 e5:st.tm 5 = .ip [aS nm]
 e6:st.tm 6 = .ptr 0 0
 e13:st.tm 13 = .ptr c 0
 e14:st.tm 14 = .ptr d 0
 e65:st.tm 65=lSo x.ts.sS
 e66:st.tm 66=aI x.ts.sS.length
 e67:st.tm 67=aI k
 g0:st.mu[0]?=some (.arr [aI 0,.lst true []])
 gc:st.mu[c]?=some (.arr [aS sn,aB sb])
 gd:st.mu[d]?=some (.arr [aI 1,lI (zD x k)])
 ho:Own st.mu 2 (st.tm 9) (F.map cRel)
 n0:qo (st.tm 9)≠some 0
 nc:qo (st.tm 9)≠some c
 nd:qo (st.tm 9)≠some d
structure SNew (c d:Nat) (F:List Rl) (av:AV) (mu:Mu):Prop where
 g0:mu[0]?=some (.arr [aI 0,.lst true []])
 ho:Own mu 2 av (F.map cRel)
 n0:qo av≠some 0
 nc:qo av≠some c
 nd:qo av≠some d
theorem SInv.app{t o}(J:qJ qe t=some (96,2,32))(j:(qJ qe o).isSome=true){x nm p C k c d F st}(h:SInv x nm p C k c d F st)(hl:F.length<=100)(r){I}(P:qD st.mu I=some [cRel r]){K}
  (R:∀ av mu',SNew c d (F++[r]) av mu'->mu'[c]?=some (.arr [aS p,aB C])->mu'[d]?=some (.arr [aI 1,lI (zD x k)])->K av mu'):qz qe st.mu #[t,o] (st.tm 9) I K:=by
 have U:=(qk.1 h.gc).1;have ld:=(qk.1 h.gd).1;have l0:=(qk.1 h.g0).1;refine qz.ownB (e:=96) (sz:=2) (bt:=32) (zv := .agg [aI 0,.lst true []]) (xs:=F.map cRel) (ys:=[cRel r]) J j zSi rfl rfl zOm zOm h.ho P (vI _) (vI [r]) zSo ?_;intro l mu' a0 j a1 a2;refine R l mu' ⟨by rw[j 0 l0 h.n0];exact h.g0,by grind,fun e=>by grind,fun e=>by grind,fun e=>by grind⟩ (by rw[j c U h.nc];exact h.gc) (by rw[j d ld h.nd];exact h.gd)
theorem appR{t o}(C:qJ qe t=some (96,2,32))(j:(qJ qe o).isSome=true){mu s F}(h:FndM mu s F)(hl:F.length<=100)(r){p}(I:qD mu p=some [cRel r]){K}
  (J:∀ av mu',FndM mu' av (F++[r])->K av mu'):qz qe mu #[t,o] s p K:=by
 have P:=(qk.1 h.1).1;refine qz.ownB (e:=96) (sz:=2) (bt:=32) (zv := .agg [aI 0,.lst true []]) (xs:=F.map cRel) (ys:=[cRel r]) C j zSi rfl rfl zOm zOm h.2.1 I (vI _) (vI [r]) zSo ?_;intro l mu' R j U a0;exact J l mu' ⟨by rw[j 0 P h.2.2];exact h.1,by grind,fun e=>by grind⟩
theorem qnD(x N)(hM:OkMa x N)(nm p)(hp:OkP x N p)(hq:p.env.length<=1000000) :
  qZ qe 182 [eMa x,ePl p,aS nm] (endE (Yt x p nm)):=by
 refine zi.of_sound ?_;refine qSW call182 func182 rfl {} ?_;have dt:=zY x;generalize hE:Yt x p nm=E;unfold Yt at hE;simp[go_sem];refine fR (backU p.env) (.zk (um _) .nil) ?_;refine tK (qm6 p.env zOm) (fun k M=>(∃ o,M = .arr [aI 0,.lst true []] :: o)/\∀ e,e∈p.env.drop (p.env.length-k)->e.1≠nm) (fun e M=>e = .ret/\∃ a o,ZS nm p.env=some a/\M = .arr [aI 1,.lst true [[aI a]]] :: o) ?_ ?_ ?_ ?_ ?_ ?_
 .simp_all [qC,yT]
 .simp
 .grind
 .rintro k y M hk ⟨⟨o,rfl⟩,h⟩
  have bs:k<p.env.length:=by
   grind [qk,Zl]
  have a8:p.env.length-1-k<p.env.length:=zOm;rw[Zl,zj,wR bs]at hk;simp only[zo,qv,zG,qA a8,Option.getD_some]at hk;subst hk;have bu:p.env.length-k=p.env.length-1-k+1:=zOm;rw[bu]at h;have b7:=fun he=>qm8 a8 he h
  have C:p.env.drop (p.env.length-(k+1))=p.env[p.env.length-1-k] :: p.env.drop (p.env.length-1-k+1):=by
   grind [zp]
  generalize hb:p.env[p.env.length-1-k]=b at *
  refine⟨rfl,?_⟩;by_cases he:b.1=nm
  .simp [go_sem,he]
   exact tT ⟨rfl,b.2,_,b7 he,rfl⟩
  .simp [go_sem,wv,he]
   refine tT ⟨⟨_,rfl⟩,fun e hm=>?_⟩;rw[C]at hm;rcases qy.1 hm with rfl|hm
   .exact he
   grind
 .rintro M ⟨⟨o,rfl⟩,h⟩
  have bv:ZS nm p.env=none:=qm7 fun e hm=>h e (by simpa[Zl] using hm)
  rw[bv]at hE;simp only at hE;obtain⟨bw,ca⟩:=hM.st p.st hp.st;have ao:p.st<x.m.sK.length:=zW2 hM.len hp.st;have cb:x.m.sK.getD p.st []=x.m.sK[p.st]:=by rw[zG,qA ao];rfl
  have du:=hM.ts.nf;have dv:=hM.ts.ns;have b8:=qaX x.ts.sA (x.m.sK.getD p.st []) nm;rw[cb]at hE bw ca b8;generalize cc:x.m.sK[p.st]=rs at *
  simp[go_sem];refine kL x.ts.sA.length (fun k U=>U.tm 0=eMa x/\U.tm 4 = .ip (cPl p)/\U.tm 5 = .ip [aS nm]/\U.tm 6 = .ptr 0 0/\U.tm 34=lFl x.ts.sA/\U.tm 35=aI x.ts.sA.length/\U.tm 36=aI k/\FndM U.mu (U.tm 9) (vZ (x.ts.sA.take k) (rs.take k) nm)) ?_ ?_
  .exact ⟨zSi,zSi,zSi,zSi,zSi,zSi,zSi,zSi,.inl (by simp[go_sem,vZ]),by simp[go_sem,qo]⟩
  rintro k U hk ⟨e0,e4,e5,e6,af,a9,ag,g0,ho,hn⟩;by_cases J:k<x.ts.sA.length
  .have aa:k<rs.length:=by omega
   have w1:=zWk k;have hs:=qm9 x.ts.sA rs nm k J aa;have dw:(vZ (x.ts.sA.take k) (rs.take k) nm).length<=6:=zL (qaX _ _ _) zSo;have l0:0<U.mu.length:=(qk.1 g0).1;by_cases he:x.ts.sA[k].name=nm
   .rw [if_pos he]at hs
    simp[go_sem,e5,af,a9,ag,J,he];refine cH zKr ?_;simp[go_sem,e0,e4,ao,cc,aa];refine qz.ownB (e:=96) (sz:=2) (bt:=32) (zv := .agg [aI 0,.lst true []]) (xs:=(vZ (x.ts.sA.take k) (rs.take k) nm).map cRel) (ys:=[cRel rs[k]]) zSi zSi zSi rfl rfl zOm zOm (Own.push ho _) (by simp[qD]) (vI _) (vI [rs[k]]) zSo ?_;intro ah a3 ab ax b9 cd;have k0:a3[0]?=some (.arr [aI 0,.lst true []]):=by
     grind
    have m0:qo ah≠some 0:=fun e=>by grind
    simp[go_sem,ag,J,w1];refine aK ⟨zS1 e0,zS1 e4,zS1 e5,zS1 e6,zS1 af,zS1 a9,zSi,zVs k0,?_,zVs m0⟩;simp[go_sem, *]
   .rw [if_neg he,zO]at hs
    simp[go_sem,wv,e5,af,a9,ag,J,he,w1];refine aK ⟨zS1 e0,zS1 e4,zS1 e5,zS1 e6,zS1 af,zS1 a9,zSi,?_,?_,zVs hn⟩
    .grind [qC,qN]
    simp_all[go_sem,Own.push]
  .have ai:k=x.ts.sA.length:=by omega
   rw[zV zOm,zV zOm]at ho;generalize vZ x.ts.sA rs nm=F at *
   simp[go_sem,e0,a9,ag,ai];refine fB x.ts.sS.length (fun k=>Keep (fun U=>U.tm 0=eMa x/\U.tm 5 = .ip [aS nm]/\U.tm 6 = .ptr 0 0/\U.tm 65=lSo x.ts.sS/\U.tm 66=aI x.ts.sS.length/\U.tm 67=aI k/\FndM U.mu (U.tm 9) (F++jf x nm 0 (x.ts.sS.take k))) .mk) ?_ ?_
   .exact aK ⟨zS1 e0,zS1 e5,zS1 e6,zSi,zSi,zSi,zVs g0,by simpa[go_sem,jf] using ho,zVs hn⟩
   rintro k U hk ⟨e0,e5,e6,bb,ay,az,g0,ho,hn⟩;have dx:=qa0 x nm x.ts.sS k hk;by_cases J:k<x.ts.sS.length
   .have w1:=zWk k
    have hs:=qaZ x nm x.ts.sS k J;have bc:=hM.ts.sl _ (qs J);have be:k<x.m.sc.sC.length:=zW1 hM.al;have a5:=XZ x.m.sc hM.gsc hM.pos [(k:Int)] (fun s hs=>by rw[qV]at hs;omega) zSp zSp;rw[qnB]at a5;have cf:zD x k=(qu (gI x.m.sc.sC k).toNat).map fun j:Nat=>sumI (x.m.sc.sC.take k)+j:=rfl
    rw[<-cf]at a5;have cg:WKs [eSc x.m.sc,.lst true [rI k]] [eSc x.m.sc,lI [(k:Int)]] := .zk (zr _) (.cons (cK [(k:Int)]) .nil);generalize ch:x.ts.sS[k]=so at *
    obtain⟨sn,sb⟩:=so;have cj:sn.size<=9223372036854775801:=by simp at bc;omega
    have ck:sn.size<=9223372036854775802:=by simp at bc;omega
    generalize hF:F++jf x nm 0 (x.ts.sS.take k)=F0 at *
    have aq:F++jf x nm 0 (x.ts.sS.take (k+1))=F0++Zm x nm k (sn,sb):=by rw[hs,<-hF,zt]
    have dy:F0.length<=18:=by rw[<-hF,za];omega
    have l0:0<U.mu.length:=(qk.1 g0).1;simp[go_sem,e0,bb,ay,az,J,ch];refine cQ a5 cg ?_;simp[go_sem,wv,e5];generalize hL:U.mu.length=L at *
    have ar:∀ b,qo (U.tm 9)=some b->b<L:=fun b hb=>zW1 (Own.lt ho hb)
    have b0:∀ c,Own (U.mu++c) 2 (U.tm 9) (F0.map cRel):=fun c=>Own.push ho c
    have aj:U.mu[0]'(qk.1 g0).1 = .arr [aI 0,.lst true []]:=(qk.1 g0).2;have dz:∀ c:List Cell,(U.mu++c)[0]?=some (.arr [aI 0,.lst true []]):=fun c=>by rw[zGa];exact g0
    have cl:∀ A B:Cell,(U.mu++[A,B])[L]?=some A:=fun A B=>by rw[zJ zOm,hL];simp
    have cm:∀ A B:Cell,(U.mu++[A,B])[L+1]?=some B:=fun A B=>by rw[zJ zOm,hL];simp
    refine cT (SInv x nm sn sb k L (L+1) F0) ⟨zS1 e0,zS1 e5,zS1 e6,zSi,zSi,zS1 bb,zS1 ay,zS1 az,by simp[go_sem,List.getElem_append_left,hL,l0,aj],zS1 cl,zS1 cm,by simp[go_sem,b0],zS1 hn,fun e=>?_,fun e=>?_⟩ fun st0 h0=>?_
    .have:=ar L (zVs e);omega
    .have:=ar (L+1) (zVs e);omega
    refine BrS.join (SInv x nm sn sb k L (L+1) (F0++if sn=nm then [⟨1,zD x k⟩] else [])) ?_ ?_ ?_
    .intro C
     have C:=of_decide_eq_true C;rw[if_pos C];simp[go_sem,h0.e14,h0.gd];refine h0.app zSi zSi zOm ⟨1,zD x k⟩ (by simp[qD]) fun t a3 P b1 b2=>?_
     simp[go_sem];refine aK ?_;exact⟨by simp[go_sem,h0.e0],by simp[go_sem,h0.e5],by simp[go_sem,h0.e6],by simp[go_sem,h0.e13],by simp[go_sem,h0.e14],by simp[go_sem,h0.e65],by simp[go_sem,h0.e66],by simp[go_sem,h0.e67],P.g0,b1,b2,P.ho,P.n0,P.nc,P.nd⟩
    .intro C
     have C:=of_decide_eq_false C;rw[if_neg C,zO];simp[go_sem];exact aK h0
    intro st1 I;have e1:(F0++if sn=nm then [(⟨1,zD x k⟩:Rl)] else []).length<=19:=by rw[za];split<;>simp only[zu,List.length_nil]<;>omega
    cases sb with
    |false =>
     have cn:F0++Zm x nm k (sn,false)=F0++if sn=nm then [⟨1,zD x k⟩] else []:=by simp[Zm]
     rw[<-cn,<-aq]at I;simp[go_sem,I.e13,I.e67,I.gc,w1,J];exact aK ⟨by simp[go_sem,I.e0],by simp[go_sem,I.e5],by simp[go_sem,I.e6],by simp[go_sem,I.e65],by simp[go_sem,I.e66],zSi,by simpa[go_sem] using I.g0,by simpa[go_sem] using I.ho,by simpa[go_sem] using I.n0⟩
    |true =>
    generalize bg:(F0++if sn=nm then [⟨1,zD x k⟩] else [])=F1 at *
    have ds:(zD x k).length<=100:=by
     obtain⟨u0,u1⟩:=hM.gsc.sum (k+1);obtain⟨v0,v1⟩:=hM.gsc.sum k;rw[uJ _ _ be]at u1;unfold zD;rw[zF,List.length_range,uI be];omega
    simp[go_sem,wv,I.e5,I.e13,I.gc,cj];refine cT (SInv x nm sn true k L (L+1) F1) ⟨by simp[go_sem,I.e0],by simp[go_sem,I.e5],by simp[go_sem,I.e6],by simp[go_sem,I.e13],by simp[go_sem,I.e14],by simp[go_sem,I.e65],by simp[go_sem,I.e66],by simp[go_sem,I.e67],I.g0,I.gc,I.gd,I.ho,I.n0,I.nc,I.nd⟩ fun st2 h2=>?_
    refine BrS.join (SInv x nm sn true k L (L+1) (F1++if sn++je=nm then [⟨1,(zD x k).take 1⟩] else [])) ?_ ?_ ?_
    .intro C
     have C:=of_decide_eq_true C;have C:sn++je=nm:=by rw[C];rfl
     rw[if_pos C];obtain⟨m,cp,cq,cr⟩:∃ m:Nat,(if ((zD x k).length:Int)<1 then ((zD x k).length:Int) else 1)=m/\m<=(zD x k).length/\(zD x k).take m=(zD x k).take 1:=by
      by_cases hz:(zD x k).length=0
      .exact ⟨0,by rw[if_pos zOm,hz],zOm,by rw[List.length_eq_zero_iff.1 hz];rfl⟩
      .exact ⟨1,zIn,zOm,rfl⟩
     have cs:WKs [.lst false (((zD x k).map rI).take m)] [lI ((zD x k).take 1)] := .cons (by rw[<-List.map_take,cr];exact .hf (zh _)) .nil;simp[go_sem,h2.e14,h2.gd,cp,cq];refine⟨⟨_,_,⟨rfl,rfl⟩,(yv _).ok⟩,?_⟩;refine cQ (clipI ((zD x k).take 1)) cs ?_;generalize (zD x k).take 1=T1 at *
     simp[go_sem];refine h2.app zSi zSi zOm ⟨1,T1⟩ (by simp[qD]) fun t a3 P b1 b2=>?_
     simp[go_sem];refine aK ?_;exact⟨by simp[go_sem,h2.e0],by simp[go_sem,h2.e5],by simp[go_sem,h2.e6],by simp[go_sem,h2.e13],by simp[go_sem,h2.e14],by simp[go_sem,h2.e65],by simp[go_sem,h2.e66],by simp[go_sem,h2.e67],P.g0,b1,b2,P.ho,P.n0,P.nc,P.nd⟩
    .intro C
     have C:=of_decide_eq_false C;have C:¬sn++je=nm:=fun e=>C (by rw[<-e];rfl)
     rw[if_neg C,zO];simp[go_sem];exact aK h2
    intro st3 h3;have e2:(F1++if sn++je=nm then [(⟨1,(zD x k).take 1⟩:Rl)] else []).length<=20:=by rw[za];split<;>simp only[zu,List.length_nil]<;>omega
    have a4:F++jf x nm 0 (x.ts.sS.take (k+1))=(F1++if sn++je=nm then [⟨1,(zD x k).take 1⟩] else [])++(if sn++vd=nm then [⟨2,Qi x k⟩] else []):=by
     rw[aq,<-bg];simp[Zm]
    generalize (F1++if sn++je=nm then [⟨1,(zD x k).take 1⟩] else [])=F2 at *
    simp[go_sem,wv,h3.e5,h3.e13,h3.gc,ck];refine cT (SInv x nm sn true k L (L+1) F2) ⟨by simp[go_sem,h3.e0],by simp[go_sem,h3.e5],by simp[go_sem,h3.e6],by simp[go_sem,h3.e13],by simp[go_sem,h3.e14],by simp[go_sem,h3.e65],by simp[go_sem,h3.e66],by simp[go_sem,h3.e67],h3.g0,h3.gc,h3.gd,h3.ho,h3.n0,h3.nc,h3.nd⟩ fun a6 R=>?_
    refine cJ ?_ ?_
    .intro C
     have C:=of_decide_eq_true C;have C:sn++vd=nm:=by rw[C];rfl
     rw[if_pos C]at a4;have gl:=(qk.1 R.gd).1;have hA:∀(z:List Cell)(i:Nat),i<a6.mu.length->(a6.mu++z)[i]?=a6.mu[i]?:=fun z i hi=>qN hi
     obtain⟨A,a7⟩:∃ A,A=a6.mu:=⟨_,rfl⟩;rw[<-a7]at hA gl;have b3:∀ z:List Cell,(A++z)[L+1]?=some (.arr [aI 1,lI (zD x k)]):=fun z=>by rw[hA z _ gl,a7];exact R.gd
     have ct:∀(c:Cell)(z:List Cell),(A++c :: z)[A.length]?=some c:=fun c z=>by rw[zJ (qr _)];simp
     have cu:∀(c d:Cell)(z:List Cell),(A++c :: z).set A.length d=A++d :: z:=fun c d z=>by rw[List.set_append_right _ _ (qr _)];simp
     have cv:∀ b,qo (a6.tm 9)=some b->b<A.length:=fun b hb=>by rw[a7];exact Own.lt R.ho hb
     have bh:∀ j,j<(zD x k).length-1->∃ u v:Int,(zD x k)[j]?=some u/\(zD x k)[j+1]?=some v/\(0<=u/\u<x.n)/\(0<=v/\v<x.n)/\(Qi x k)[j]?=some (u*x.n+v):=by
      intro j hj;obtain⟨a0,a1,a2⟩:=hM.at0 k J;have e3:(zD x k).length=(gI x.m.sc.sC k).toNat:=by simp[zD]
      refine⟨sumI (x.m.sc.sC.take k)+j,sumI (x.m.sc.sC.take k)+((j+1:Nat):Int),?_,?_,⟨zOm,zOm⟩,⟨zOm,zOm⟩,?_⟩
      .rw [zD,zj,wR zOm];rfl
      .rw [zD,zj,wR zOm];rfl
      .rw [Qi,zj,wR zOm]
       simp only[zo,qv];congr 1;omega
     have e7:(Qi x k).length=(zD x k).length-1:=by simp[Qi,zD]
     generalize e8:zD x k=al at *
     generalize e9:Qi x k=nx at *
     simp[go_sem,<-a7];refine fB (al.length-1) (fun j=>Keep (fun U=>∃ t o,U.mu=A++(.arr [aI 2,t] :: o)/\OwnI U.mu t (nx.take j)/\(∀ b,qo t=some b->A.length<b)/\U.tm 0=eMa x/\U.tm 5 = .ip [aS nm]/\U.tm 6 = .ptr 0 0/\U.tm 9=a6.tm 9/\U.tm 14 = .ptr (L+1) 0/\U.tm 15 = .ptr A.length 0/\U.tm 16=aI ((j:Int)+1)/\U.tm 65=lSo x.ts.sS/\U.tm 66=aI x.ts.sS.length/\U.tm 67=aI k) .mk) ?_ ?_
     .exact aK ⟨.lst true [],[],zSi,.inl ⟨rfl,zSp⟩,by simp[qo],by simp[go_sem,R.e0],by simp[go_sem,R.e5],by simp[go_sem,R.e6],zSi,by simp[go_sem,R.e14],zSi,zSi,by simp[go_sem,R.e65],by simp[go_sem,R.e66],by simp[go_sem,R.e67]⟩
     rintro j ea hj ⟨t,o,ak,ad,b4,i0,i5,i6,i9,an,b5,i16,bi,bj,bk⟩;by_cases a8:j<al.length-1
     .have hc:(j:Int)+1<al.length:=by omega
      obtain⟨u,v,hu,hv,cw,cx,cy⟩:=bh j a8;obtain⟨cz,da⟩:=qk.1 hu;obtain⟨db,dc⟩:=qk.1 hv;obtain⟨dd,de⟩:=qk.1 cy;have wj:qp.wrap (j:Int)=j:=zWr;have df:qp.wrap ((j:Int)+1+1)=(j:Int)+1+1:=zWr;have aa:=rankU x.m.sc hM.gsc [u,v] zSp (fun d C=>by
       rcases qy.1 C with rfl|C
       .exact cw
       .rw [qV]at C;subst C;exact cx)
      have dh:uu (sumI x.m.sc.sC) [u,v]=u*x.n+v:=by simp[uu,Mo.n]
      rw[dh]at aa;have di:WKs [eSc x.m.sc,.lst true [[aI u],[aI v]]] [eSc x.m.sc,lI [u,v]] := .zk (zr _) (.cons (cK [u,v]) .nil);simp[go_sem,an,i16,ak,b3,hc];refine fD [0,1,2,3,4,5,6,7,8,9,10,11,12,13,14,15,16,17,18,22,19,20,21,23] [(0,0,[]),(1,0,[]),(2,0,[]),(3,0,[]),(4,0,[]),(5,0,[]),(6,0,[]),(7,0,[]),(8,0,[]),(9,0,[]),(10,0,[]),(11,0,[]),(12,0,[]),(13,0,[]),(14,0,[]),(15,0,[]),(16,0,[]),(17,0,[]),(18,0,[]),(22,0,[]),(19,1,[1]),(20,0,[]),(21,1,[]),(23,1,[])] zKr zKr zSi ?_;simp[go_sem,i0,an,b5,i16,b3,hc,wj,cz,da,db,dc,show (0:Int)<=(j:Int)+1 by omega];refine fR aa di ?_;rw[ak]at ad;refine aN (e:=3) (bt:=8) (z:=0) (l:=nx.take j) zSi zSi zSi zOm ad.v zSo ?_;intro ah a3 ab ax cd b9;have bm:A.length<(A++(.arr [aI 2,t] :: o)).length:=zSp;have dj:a3=A++(.arr [aI 2,t] :: a3.drop (A.length+1)):=by
       apply jO;intro i;by_cases hi:i<A.length
       .rw [qN hi,ax i zOm (fun e=>zW1 (b4 i e)),qN hi]
       .rw [zJ zOm]
        by_cases dk:i=A.length
        .subst dk
         rw[ax _ bm (fun e=>zW1 (b4 _ e)),zJ (qr _)];simp
        .obtain ⟨q,hq⟩:∃ q,i-A.length=q+1:=⟨i-A.length-1,zOm⟩
         rw[hq,vP,List.getElem?_drop];congr 1;omega
      have au:∀ b,qo ah=some b->A.length<b:=fun b hb=>zW1 (b9 b hb)
      rw[dj]at ab ⊢;generalize a3.drop (A.length+1)=b6 at *
      simp[go_sem,i16,cu,ab.v.one,ab.v.cells,df];refine⟨a8,aK ⟨ah,b6,zSi,?_,au,zS1 i0,zS1 i5,zS1 i6,zS1 i9,zS1 an,zS1 b5,zSi,zS1 bi,zS1 bj,zS1 bk⟩⟩;simp only[qC];rw[yj dd,de];refine ab.same fun b hb=>?_
      have:=au b hb;rw[zJ zOm,zJ zOm];obtain⟨q,hq⟩:∃ q,b-A.length=q+1:=⟨b-A.length-1,zOm⟩;rw[hq,vP,vP]
     .have ai:j=al.length-1:=by omega
      have hc:¬(j:Int)+1<al.length:=zOm;rw[zV zOm]at ad;simp[go_sem,an,i16,ak,b3,hc];have dm:(A++(.arr [aI 2,t] :: o))[A.length]?=some (.arr [aI 2,t]):=ct _ _;rw[ak]at ad;generalize dn:A++(.arr [aI 2,t] :: o)=MM at *
      have ae:∀ i,A.length<=i->(cutM (fun j=>decide (A.length<=j)) MM 0)[i]?=MM[i]?:=fun i hi=>by
       rw[jG,yf];cases MM[i]?<;>simp[hi]
      have aw:∀ i,i<A.length->(cutM (fun j=>!decide (A.length<=j)) MM 0)[i]?=A[i]?:=fun i hi=>by
       rw[jG,yf,<-dn,qN hi];cases A[i]?<;>simp<;>omega
      have dp:0<A.length:=zOm;have bn:FndM (cutM (fun j=>!decide (A.length<=j)) MM 0) (a6.tm 9) F2:=by
       refine⟨by rw[aw 0 dp,a7];exact R.g0,?_,R.n0⟩;rcases R.ho with h|⟨b,h,dq⟩
       .exact .inl h
       .refine .inr ⟨b,h,?_⟩
        rw[aw b (cv b (by rw[h];rfl)),a7];exact dq
      refine cS (d:=15) (L:=A.length) (x := .ip (cRel ⟨2,nx⟩)) ?_ ?_
      .simp only[qC,gZ,b5]
       refine .ptr A.length 0 [aI 2,t] _ (by rw[ae _ (qr _)];exact dm) zSp fun k u v hu hv=>?_
       match k with
       | 0=>simp at hu hv;subst hu;subst hv;exact .zsc _
       | 1 =>
        simp at hu hv;subst hu;subst hv;exact(ad.v.same fun b hb=>ae b (zW1 (b4 b hb))).rd
       |k+2=>simp at hv
      .simp [go_sem,i9]
       refine appR (F:=F2) zSi zSi bn zOm ⟨2,nx⟩ (by simp[qD]) fun eb ec bo=>?_
       rw[<-a4]at bo;obtain⟨z0,z1,z2⟩:=bo;simp[go_sem,bk,w1,J];exact aK ⟨zS1 i0,zS1 i5,zS1 i6,zS1 bi,zS1 bj,zSi,z0,z1,z2⟩
    .intro C
     have C:=of_decide_eq_false C;have C:¬sn++vd=nm:=fun e=>C (by rw[<-e];rfl)
     rw[if_neg C,zO]at a4;rw[<-a4]at R;simp[go_sem,R.e67,w1,J];exact aK ⟨by simp[go_sem,R.e0],by simp[go_sem,R.e5],by simp[go_sem,R.e6],by simp[go_sem,R.e65],by simp[go_sem,R.e66],zSi,by simpa[go_sem] using R.g0,by simpa[go_sem] using R.ho,by simpa[go_sem] using R.n0⟩
   .have ai:k=x.ts.sS.length:=by omega
    subst ai;rw[qP]at ho;generalize F++jf x nm 0 x.ts.sS=F0 at *
    simp[go_sem,ay,az];refine FzQ.ownB (d:=9) (sz:=2) (av:=U.tm 9) (xs:=F0.map cRel) zSi ho (vI _) (fun r hr c hc=>by obtain⟨q,_,rfl⟩:=qn.1 hr;exact ZK q c hc) fun a3 full hl hs=>?_
    have aj:a3[0]?=some (.arr [aI 0,.lst true []]):=(hs 0 hn).trans g0;have bq:∀ c,(a3.set 0 c)[0]?=some c:=fun c=>qM (qk.1 aj).1
    match F0,hE with
    | [],hE =>
     simp only[JU]at hE;subst hE;simp[go_sem];refine fZ (wq 40) (wkI 40) ?_;simp[go_sem];exact .hf _ (qR _)
    | [r],hE =>
     simp only[JU]at hE;subst hE;simp[go_sem,e6,aj,bq];exact .hf _ (qY r)
    |r :: s :: F1,hE =>
     have dr:¬(F1.length:Int)+1+1=0:=zOm;have br:¬(F1.length:Int)+1+1=1:=zOm;simp only[JU]at hE;subst hE;simp[go_sem,dr,br];refine fZ (wq 44) (wkI 44) ?_;simp[go_sem];exact .hf _ (qR _)
 .rintro e M ⟨rfl,a,o,h2,rfl⟩
  rw[h2]at hE;simp only at hE;subst hE;simp[go_sem];refine .agg _ _ rfl fun k u v hu hv=>?_
  match k with
  | 0=>simp at hu hv;subst hu;subst hv;exact .zsc _
  | 1=>simp at hu hv;subst hu;subst hv;exact .wk _ true _ (.hf _ (HF.lst fun r hr c hc=>by simp at hr;subst hr;simp at hc;subst hc;exact HF.sc _))
  |k+2=>simp at hu
end
end F6
namespace F7
open Y1 P2 E1 E3 EA EO EP EQ ET F1 F2 F3 F4 F5 F6
theorem yp(a b v es i):zq qe 3 (.sc (.int .i64 a)) ((.sc (.int .i64 b),v) :: es) i=if a=b then some (some i) else zq qe 3 (.sc (.int .i64 a)) es (i+1):=by
 have h:jQ qe 3 (.sc (.int .i64 a)) (.sc (.int .i64 b))=some (decide (a=b)):=keyI.eq a b trivial trivial
 grind [zq]
def RelN(mu:Mu)(g:Int)(l:List Int):Prop:=∃ t,mu[0]?=some (.arr [aI 0,.lst true []])/\mu[2]?=some (.arr [aI g,t])/\OwnI mu t l/\qo t≠some 0/\qo t≠some 2
theorem RelN.step{mu mu':Mu}{j av g l}(I:mu[0]?=some (.arr [aI 0,.lst true []]))(o:mu[2]?=some (.arr [aI j,av]))(J:qo av≠some 0)(P:qo av≠some 2)(p:OwnI mu' g l)
  (R:∀ i,i<mu.length->qo av≠some i->mu'[i]?=mu[i]?) (T:mu.length<=mu'.length) (U:∀ b,qo g=some b->b=mu.length):mu'[2]?=some (.arr [aI j,av])/\RelN (mu'.set 2 (.arr [aI j,g])) j l:=by
 have l1:2<mu.length:=(qk.1 o).1;have r:qo g≠some 0:=fun e=>by grind
 have t:qo g≠some 2:=fun e=>by grind
 refine⟨by grind,g,by grind,by grind,p.same fun b C=>?_,r,t⟩
 grind
theorem uw{f:Nat}{l A E}(h:qZ qe f l (endE A))(e:A=E):qZ qe f l (endE E):=e ▸ h
theorem exprX(x N n)(J:WfN n)(C:OkMa x N)(P:IH x N n)(p)(I:OkP x N p)(R:bd p n) :
  qZ qe 125 [eMa x,ePl p,eNd n] (endE ((den x n).E p)):=by
 refine zi.of_sound ?_;refine qSW call125 func125 rfl {} ?_;have ab:=zY x;have o:=wk3 x p n;rw[Us];simp only[opD];generalize i:opE x n.op n.name n.n (n.sD.map (den x)) p=E;unfold opE at i;by_cases o6:n.op=6
 .obtain ⟨a,b,l⟩:=jw J zOm
  have g:=qmN x N n a b C l P p I R;rw[o6,l]at i;replace g:=uw g i;cases E with
  |error e =>
   simp[go_sem,o6,yp];refine fZ g o ?_;simp[go_sem];exact .hf _ (qR _)
  |ok r =>
   simp[go_sem,o6,yp];refine fR g.toP o ?_;exact .hf _ (qY _)
 by_cases o7:n.op=7
 .obtain ⟨a,b,l⟩:=jw J zOm
  have g:=qmO x N n a b C l P p I R;rw[o7,l]at i;replace g:=uw g i;cases E with
  |error e =>
   simp[go_sem,o7,yp];refine fZ g o ?_;simp[go_sem];exact .hf _ (qR _)
  |ok r =>
   simp[go_sem,o7,yp];refine fR g.toP o ?_;exact .hf _ (qY _)
 by_cases o8:n.op=8
 .obtain ⟨a,b,l⟩:=jw J zOm
  have g:=diffX x N n a b C l P p I R;rw[o8,l]at i;replace g:=uw g i;cases E with
  |error e =>
   simp[go_sem,o8,yp];refine fZ g o ?_;simp[go_sem];exact .hf _ (qR _)
  |ok r =>
   simp[go_sem,o8,yp];refine fR g.toP o ?_;exact .hf _ (qY _)
 by_cases T:n.op=14
 .obtain ⟨a,b,l⟩:=jw J zOm
  have g:=overX x N n a b C l P p I R;rw[T,l]at i;replace g:=uw g i;cases E with
  |error e =>
   simp[go_sem,T,yp];refine fZ g o ?_;simp[go_sem];exact .hf _ (qR _)
  |ok r =>
   simp[go_sem,T,yp];refine fR g.toP o ?_;exact .hf _ (qY _)
 by_cases o9:n.op=9
 .obtain ⟨a,b,l⟩:=jw J zOm
  have g:=joinX x N n a b C l P p I R;rw[o9,l]at i;replace g:=uw g i;cases E with
  |error e =>
   simp[go_sem,o9,yp];refine fZ g o ?_;simp[go_sem];exact .hf _ (qR _)
  |ok r =>
   simp[go_sem,o9,yp];refine fR g.toP o ?_;exact .hf _ (qY _)
 by_cases a0:n.op=10
 .obtain ⟨a,b,l⟩:=jw J zOm
  have g:=qmP x N n a b C l P p I R;rw[a0,l]at i;replace g:=uw g i;cases E with
  |error e =>
   simp[go_sem,a0,yp];refine fZ g o ?_;simp[go_sem];exact .hf _ (qR _)
  |ok r =>
   simp[go_sem,a0,yp];refine fR g.toP o ?_;exact .hf _ (qY _)
 by_cases a1:n.op=11
 .obtain ⟨a,l⟩:=v8 J zOm
  have g:=qmR x N n a C l P p I R;rw[a1,l]at i;replace g:=uw g i;cases E with
  |error e =>
   simp[go_sem,a1,yp];refine fZ g o ?_;simp[go_sem];exact .hf _ (qR _)
  |ok r =>
   simp[go_sem,a1,yp];refine fR g.toP o ?_;exact .hf _ (qY _)
 by_cases a2:n.op=12
 .obtain ⟨a,l⟩:=v8 J zOm
  have g:=qaP x N n a C l P p I R;rw[a2,l]at i;replace g:=uw g i;cases E with
  |error e =>
   simp[go_sem,a2,yp];refine fZ g o ?_;simp[go_sem];exact .hf _ (qR _)
  |ok r =>
   simp[go_sem,a2,yp];refine fR g.toP o ?_;exact .hf _ (qY _)
 by_cases a3:n.op=13
 .obtain ⟨a,l⟩:=v8 J zOm
  have g:=qmS x N n a C l P p I R;rw[a3,l]at i;replace g:=uw g i;cases E with
  |error e =>
   simp[go_sem,a3,yp];refine fZ g o ?_;simp[go_sem];exact .hf _ (qR _)
  |ok r =>
   simp[go_sem,a3,yp];refine fR g.toP o ?_;exact .hf _ (qY _)
 by_cases o5:n.op=5
 .obtain ⟨a,l⟩:=v8 J zOm
  have g:=qmQ x N n a C l P p I R;rw[o5,l]at i;replace g:=uw g i;cases E with
  |error e =>
   simp[go_sem,o5,yp];refine fZ g o ?_;simp[go_sem];exact .hf _ (qR _)
  |ok r =>
   simp[go_sem,o5,yp];refine fR g.toP o ?_;exact .hf _ (qY _)
 by_cases a4:n.op=15
 .obtain ⟨a,b,l⟩:=jw J zOm
  have g:=qm5 x N n a b C l P p I R;rw[a4,l]at i;replace g:=uw g i;cases E with
  |error e =>
   simp[go_sem,a4,yp];refine fZ g o ?_;simp[go_sem];exact .hf _ (qR _)
  |ok r =>
   simp[go_sem,a4,yp];refine fR g.toP o ?_;exact .hf _ (qY _)
 by_cases o1:n.op=1
 .have g:=qnD x N C n.name p I zOm
  have wn:WKs [eMa x,ePl p,aS n.name] [eMa x,ePl p,aS n.name] := .zk ab (.zk (Uv p) (.zs .nil));rw[o1]at i;replace g:=uw g i;cases E with
  |error e =>
   simp[go_sem,o1,yp];refine fZ g wn ?_;simp[go_sem];exact .hf _ (qR _)
  |ok r =>
   simp[go_sem,o1,yp];refine fR g.toP wn ?_;exact .hf _ (qY _)
 by_cases o2:n.op=2
 .rw [o2]at i
  replace i:Except.ok ⟨n.n,[]⟩=E:=i;subst i;simp[go_sem,o2,yp];exact Yx
 by_cases o3:n.op=3
 .rw [o3]at i
  replace i:Except.ok ⟨1,(qu x.n.toNat).map fun k:Nat=>(k:Int)⟩=E:=i;subst i;have h0:=C.n0;have ad:=C.n12;obtain⟨m,hm⟩:=Int.eq_ofNat_of_zero_le h0;simp[go_sem,o3,yp];rw[hm]at ad;refine kL m (fun k U=>U.tm 6 = .ptr 0 0/\U.tm 10 = .ptr 2 0/\U.tm 47=aI m/\U.tm 48=aI k/\RelN U.mu 1 ((qu k).map fun k:Nat=>(k:Int))) ?_ ?_
  .exact ⟨zSi,zSi,zS1 hm,zSi,.lst true [],zSi,zSi,.inl ⟨rfl,rfl⟩,by simp[qo],by simp[qo]⟩
  rintro k U l ⟨e6,a5,a6,a7,t,g0,g2,ho,n0,n2⟩;by_cases a9:k<m
  .have w1:=zWk k
   simp[go_sem,a5,a6,a7,a9,g2];refine aN (e:=3) (bt:=8) (z:=0) zSi zSi zSi zOm ho.v zSo ?_;intro ai j a8 ae af ag;obtain⟨k1,k2⟩:=RelN.step g0 g2 n0 n2 a8 ae af ag;simp[go_sem,a5,a7,a9,k1,a8.v.one,a8.v.cells,w1];refine aK ⟨zS1 e6,zS1 a5,zS1 a6,zSi,?_⟩;rw[List.range_succ,zb];exact k2
  .have ah:k=m:=by omega
   subst ah;have aa:∀ c,(U.mu.set 0 c)[0]?=some c:=fun c=>qM (qk.1 g0).1
   rw[hm];simp[go_sem,e6,a5,a6,a7,g0,g2,aa,ho.v.one];refine aD (ho.v.same fun b hb=>?_);rw[yF (fun e=>n0 (by rw[e];exact hb))]
 by_cases o4:n.op=4
 .rw [o4]at i
  replace i:Except.ok (idR x.n)=E:=i;subst i;simp[go_sem,o4,yp];refine fR (qaQ x.n C.n0 C.n12) (.zs .nil) ?_;exact .hf _ (qY _)
 have i:Except.error 43=E:=by
  rw[<-i];rw[if_neg o1,if_neg o2,if_neg o3,if_neg o4,if_neg o5,if_neg o6,if_neg o7,if_neg o8,if_neg o9,if_neg a0,if_neg a1,if_neg a2,if_neg a3,if_neg T,if_neg a4]
 subst i;simp[go_sem,o1,o2,o3,o4,o5,o6,o7,o8,o9,a0,a1,a2,a3,T,a4,yp];refine fZ (wq 43) (wkI 43) ?_;simp[go_sem];exact .hf _ (qR _)
end F7
end Go.Proofs.YtipbakanneogpaaGreatDoor
