/-
  Own library, part 6: an abstract reading of values and a calculus over it; contracts of functions; plain lemmas.
-/
import Derived.Lib.ItoaLen
import Derived.Handed
import Derived.WideKeyArgs
import Derived.ProofKit
import Derived.OpenShut
import Derived.JoinedCond
import Derived.KernelRfl
import Derived.Test.YtkglmpmlfjogkaaGreatDoorMe
set_option linter.unusedVariables false
set_option linter.unusedSimpArgs false
set_option maxRecDepth 100000
open Go.Proofs.Tryz renaming prog->qd
open Go.IntKind renaming i64->qj
open List renaming getElem?_eq_some_iff->qk,getElem?_append_left->qp,range->qq,mem_map->qs,getElem_mem->qu,getElem?_eq_getElem->qv,all_eq_true->qy,mem_cons->qB,getElem?_set_ne->qK,getElem?_append_right->qV,mem_singleton->qW,replicate->qX,getElem?_set_self->zb,drop_eq_getElem_cons->zj,getElem?_map->zk,map_append->zm,not_mem_nil->zr,length_append->zt,take_length->zw,append_nil->zx,getD_eq_getElem?_getD->zz,mem_range->zI,mem_cons_of_mem->zK,drop_length->zL,getElem?_eq_none->zQ,take_of_length_le->zU,mem_cons_self->zZ,length_cons->z6,length_map->yM,getElem?_cons_succ->jF,flatten_cons->jX,pairwise_cons->vJ,eq_nil_of_length_eq_zero->vK,take_append_drop->ud,mem_flatMap->Z2,getElem_map->Xs
open Option.some renaming injEq->qn
open Nat renaming le_refl->qr,le_trans->q7,zero_add->yC,le_of_ble_eq_true->jo,zero_le->Za
open Bool renaming and_eq_true->qx,eq_iff_iff->jG
open Array renaming getD_eq_getD_getElem?->qD
open Option renaming map_some->q8
open List.Nodup renaming length_le_of_subset->jH
open Int renaming tmod_eq_emod_of_nonneg->wr
namespace Go.Proofs.YtkglmpmlfjogkaaGreatDoor
open Go Go.Ev Go.Proofs Tryz
namespace YU
open Go.RowKit
end YU
namespace YV
def cmpI(x y:Int):Int:=if x<y then -1 else if y<x then 1 else 0
def cmpL:List Int->List Int->Int
 | [],[]=>0
 | [],_ :: _ => -1
 |_ :: _,[]=>1
 |x :: a,y :: b=>if cmpI x y=0 then cmpL a b else cmpI x y
theorem pL:∀ a b:List Int,cmpL a b<0↔a<b
 | [],[]=>by simp[cmpL]
 | [],_ :: _=>by simp[cmpL]
 |_ :: _,[]=>by simp[cmpL]
 |x :: a,y :: b=>by
  rw[List.cons_lt_cons_iff,<-pL a b];simp only[cmpL,cmpI];by_cases h1:x<y
  .simp [h1]
  .by_cases h2:y<x
   .have:x≠y:=by omega
    simp[h1,h2,this]
   .have:x=y:=by omega
    simp[this]
def insL(x:List Int):List (List Int)->List (List Int)
 | []=>[x]
 |y :: l=>if y<x then y :: insL x l else x :: y :: l
def srt(l:List (List Int)):List (List Int):=l.foldr insL []
theorem WH(x:List Int):∀ l,(insL x l).Perm (x :: l)
 | [] => .refl _
 |y :: l=>by
  simp only[insL];split
  .exact ((WH x l).cons y).trans (.swap x y l)
  .exact .refl _
theorem pM:∀ l,(srt l).Perm l
 | [] => .refl _
 |x :: l=>(WH x (srt l)).trans ((pM l).cons x)
theorem pN(x:List Int):∀ l:List (List Int),l.Pairwise (·<=·)->(insL x l).Pairwise (·<=·)
 | [],_=>by simp[insL]
 |y :: l,h=>by
  rw[vJ]at h;simp only[insL];split
  .rename_i hlt
   rw[vJ];refine⟨fun z hz=>?_,pN x l h.2⟩;rcases qB.1 ((WH x l).mem_iff.1 hz) with rfl|hz
   .exact List.le_of_lt hlt
   .exact h.1 z hz
  .rename_i hlt
   have hle:x<=y:=List.not_lt.1 hlt;rw[vJ,vJ];refine⟨fun z hz=>?_,h⟩;rcases qB.1 hz with rfl|hz
   .exact hle
   .exact List.le_trans hle (h.1 z hz)
theorem pO:∀ l,(srt l).Pairwise (·<=·)
 | [] => .nil
 |x :: l=>pN x (srt l) (pO l)
theorem ky{l l':List (List Int)}(hp:l'.Perm l)(hs:l'.Pairwise fun x y=>¬cmpL y x<0):l'=srt l:=by
 refine List.Perm.eq_of_pairwise (le:=(·<=·)) (fun a b _ _ h1 h2=>List.le_antisymm h1 h2) (hs.imp fun h=>?_) (pO l) (hp.trans (pM l).symm);rw[pL]at h;exact List.not_lt.1 h
end YV
namespace YW
open P1 P2 Y1 Y2 Y3 Y9
theorem okKd.le64{ns:Nat}{k:Kd}(h:okKd ns k)(hns:ns<=4):k.ts.length<=64:=by
 have hsub:∀ t,t∈k.ts->t∈([0,1,2,3]:List Int).flatMap fun a=>([0,1,2,3]:List Int).flatMap fun b=>([0,1,2,3]:List Int).map fun c=>[a,b,c]:=fun t ht=>by
  obtain⟨l,rfl,hl,hr⟩:=h.ts t ht;have hl3:=h.ar.2;have four':∀ x:Int,0<=x->x<ns->x∈([0,1,2,3]:List Int):=fun x h1 h2=>by simp;omega
  match l,hl,hr with
  | [],hl,hr=>simp[pad]
  | [a],hl,hr =>
   have:=four' a (hr a (by simp)).1 (hr a (by simp)).2;simp only[Z2,qs];exact⟨a,this,0,by simp,0,by simp,by simp[pad]⟩
  | [a,b],hl,hr =>
   have h1:=four' a (hr a (by simp)).1 (hr a (by simp)).2;have h2:=four' b (hr b (by simp)).1 (hr b (by simp)).2;simp only[Z2,qs];exact⟨a,h1,b,h2,0,by simp,by simp[pad]⟩
  | [a,b,c],hl,hr =>
   have h1:=four' a (hr a (by simp)).1 (hr a (by simp)).2;have h2:=four' b (hr b (by simp)).1 (hr b (by simp)).2;have h3:=four' c (hr c (by simp)).1 (hr c (by simp)).2;simp only[Z2,qs];exact⟨a,h1,b,h2,c,h3,by simp[pad]⟩
  |_ :: _ :: _ :: _ :: _,hl,hr=>simp at hl;omega
 have:=jH h.nd hsub;simpa using this
theorem ZJ(c:Ck)(s:Scp)(inn:Bool){ks:List Nd}(hk:∀ k,k∈ks->∀ e,exam c s inn k = .error e->e.1≠0){e:Dg}(h:zo c s inn ks = .error e):e.1≠0:=by
 induction ks with
 |nil=>simp[zo]at h
 |cons k ks ih =>
  simp only[zo]at h;split at h
  .rename_i e' hx
   cases h;exact hk k (zZ ..) _ hx
  .split at h
   .rename_i e' hx
    cases h;exact ih (fun k hm=>hk k (zK _ hm)) hx
   .cases h
theorem Vl(c:Ck)(s:Scp)(pos:Int){ks:List Nd}(hk:∀ k,k∈ks->∀ e,exam c s true k = .error e->e.1≠0):∀{ps:List (ByteArray×Int)} {e:Dg},zP c s pos ps ks = .error e->e.1≠0:=by
 induction ks with
 |nil=>intro ps e h;cases ps<;>simp[zP]at h
 |cons k ks ih =>
  intro ps e h;cases ps with
  |nil=>simp[zP]at h
  |cons p ps =>
   simp only[zP]at h;split at h
   .rename_i e' hx
    cases h;exact hk k (zZ ..) _ hx
   .cases h;simp
   .split at h
    .split at h
     .exact ih (fun k hm=>hk k (zK _ hm)) h
     .cases h;simp
    .cases h;simp
theorem Qz(c:Ck):∀(m:Nat) (n:Nd) (s:Scp) (inn:Bool) (e:Dg),szN n<=m->exam c s inn n = .error e->e.1≠0
 | 0,n,_,_,_,hm,_=>by obtain⟨op,nm,i,ks,p⟩:=n;simp[szN]at hm
 |m+1,n,s,inn,e,hm,h=>by
  have ih:∀ k,k∈n.kids->∀ s inn e,exam c s inn k = .error e->e.1≠0:=fun k hk s inn e hx=>Qz c m k s inn e (by have:=yi hk;omega) hx
  rw[vD]at h;split at h
  .cases h;simp
  split at h
  .unfold yU at h
   split at h
   .cases h
   .split at h<;>first | (cases h;simp)|cases h
  split at h
  .split at h
   .split at h
    .cases h;simp
    .split at h
     .cases h;simp
     .split at h
      .exact Vl c s n.pos (fun k hk e hx=>ih k hk s true e hx) h
      .cases h;simp
   .cases h;simp
  split at h
  .revert h ih
   match n.kids with
   | []=>intro ih h;simp[yG]at h
   |k :: ks =>
    intro ih h;simp only[yG]at h;split at h
    .rename_i e' hx
     cases h;exact ih k (zZ ..) _ _ _ hx
    .cases h;simp
    .split at h
     .split at h
      .rename_i e' hx
       cases h;exact ZJ c _ _ (fun k hk e hx=>ih k (zK _ hk) _ _ e hx) hx
      .cases h
     .cases h;simp
  .split at h
   .rename_i e' hx
    cases h;exact ZJ c _ _ (fun k hk e hx=>ih k hk _ _ e hx) hx
   .unfold yf at h
    repeat' split at h
    all_goals first | (cases h;done) | (cases h;simp)
end YW
namespace YX
open YF P1 Y1
structure IV where
 arg:Option Nd
 size:Int
 name:ByteArray
abbrev IEnv:=List (ByteArray×IV)
structure ISt where
 last:Int
 cost:Int
abbrev cIn(ts:TS)(tb:Nat)(s:ISt):List AV:=cTS ts++[.mp tb,aI s.last,aI s.cost]
def nd0:Nd := .mk 0 ⟨#[]⟩ 0 [] 0
abbrev eN0:AV := .agg [aI 0,aS ⟨#[]⟩,aI 0,.lst true [],aI 0]
def payS(n:Int)(s:ISt):ISt:=⟨s.last,s.cost+n⟩
def replI(env:IEnv)(n:Nd)(s:ISt):Except Dg ((Nd×Int)×ISt):=
 match getK n.name env with
 |none => .ok ((n,1),s)
 |some v=>match v.arg with
  |none => .ok ((.mk n.op v.name n.n n.kids n.pos,1),s)
  |some a=>if s.cost+v.size<=4000 then .ok ((a,v.size),payS v.size s) else .error (2,0)
def endI(ts:TS)(tb:Nat)(mu:Mu)(xb:Nat)(r:Except Dg ((Nd×Int)×ISt))(e:AEnd)(m:Mu):Prop:=
 match r with
 | .ok ((n,k),s)=>e = .ret (.tup [eNd n,aI k])/\m[xb]?=some (.arr (cIn ts tb s))/\(∀ i,i<mu.length->i≠xb->m[i]?=mu[i]?)/\mu.length<=m.length
 | .error d=>e = .pan (jw d.1 d.2)/\(∀ i,i<mu.length->i≠xb->m[i]?=mu[i]?)/\mu.length<=m.length
end YX
namespace Q1
open P2 Y1 Y2 Y6
abbrev aU(x:Int):AV := .sc (.int .u8 x)
theorem WI(op:Int):qi qd 74 [aI op] (aU (kd op)):=by
 refine qSQ call74 func74 rfl {} ?_;simp[go_sem];unfold kd;by_cases h1:1<=op<;>by_cases h2:op<=15<;>by_cases h3:20<=op<;>by_cases h4:op<=23<;>by_cases h5:30<=op<;>by_cases h6:op<=51<;>first|omega | (simp[go_sem,h1,h2,h3,h4,h5,h6];exact .hf _ (HF.sc _))
def kwL:List ByteArray:=[⟨#[115,111,114,116]⟩,⟨#[111,114,100,101,114,101,100]⟩,⟨#[118,97,114]⟩,⟨#[102,105,101,108,100]⟩,⟨#[112,114,101,100]⟩,⟨#[102,97,99,116]⟩,⟨#[97,108,108]⟩,⟨#[115,111,109,101]⟩,⟨#[110,111]⟩,⟨#[111,110,101]⟩,⟨#[108,111,110,101]⟩,⟨#[97,108,119,97,121,115]⟩,⟨#[101,118,101,110,116,117,97,108,108,121]⟩,⟨#[97,102,116,101,114]⟩,⟨#[117,110,116,105,108]⟩,⟨#[110,111,110,101]⟩,⟨#[117,110,105,118]⟩,⟨#[105,100,101,110]⟩,⟨#[105,110]⟩,⟨#[110,111,116]⟩,⟨#[116,114,117,101]⟩,⟨#[102,97,108,115,101]⟩]
def kwB(s:ByteArray):Bool:=kwL.any fun x=>decide (x=s)
theorem qgD(s:ByteArray):qi qd 232 [aS s] (aB (kwB s)):=by
 refine qSQ call232 func232 rfl {} ?_;simp[go_sem];have hlen:kwL.length=22:=rfl;refine ql.upK 22 (fun k st=>st.tm 0=aS s/\st.tm 3 = .lst true (kwL.map fun s=>[aS s])/\st.tm 4=aI k/\st.mu=[]/\∀ j x,j<k->kwL[j]?=some x->x≠s) ?_ ?_
 .refine ⟨by simp[go_sem],?_,by simp[go_sem],by simp[go_sem],fun j x hj=>absurd hj (by omega)⟩
  simp[go_sem,kwL]
 .rintro k st hk ⟨e0,e3,e4,hm,hI⟩
  unfold kwB;generalize hK:kwL=K at *
  by_cases hkl:k=22
  .subst hkl
   have hno:(K.any fun x=>decide (x=s))=false:=by
    rw[List.any_eq_false];intro x hx;obtain⟨j,hj⟩:=List.mem_iff_getElem?.1 hx;simpa using hI j x (by have:=(qk.1 hj).1;omega) hj
   rw[hno];simp[go_sem,e0,e3,e4,hm,hlen];exact .hf _ (HF.sc _)
  .have hlt:k<K.length:=by omega
   have hlt2:k<22:=by omega
   have hlt3:(k:Int)<22:=by omega
   have w1:qj.wrap ((k:Int)+1)=(k:Int)+1:=qg (by omega) (by omega);by_cases hx:K[k]=s
   .have hin:(K.any fun x=>decide (x=s))=true:=List.any_eq_true.2 ⟨K[k],qu hlt,by simpa using hx⟩
    rw[hin];simp[go_sem,e0,e3,e4,hm,hlen,hlt,hlt2,hlt3,hx];exact .hf _ (HF.sc _)
   .simp [go_sem,e0,e3,e4,hm,hlen,hlt,hlt2,hlt3,hx,vd hx,w1]
    try refine⟨hlt2,Keep.mk' ?_⟩
    try refine Keep.mk' ?_
    refine⟨by simp[go_sem,e0],by simp[go_sem,e3],by simp[go_sem],by simp[go_sem],fun j x hj hjx=>?_⟩;by_cases hjk:j=k
    .subst hjk
     rw[qv hlt]at hjx;cases hjx;exact hx
    .exact hI j x (by omega) hjx
def bys(l:List Int):ByteArray:=⟨(l.map fun x=>UInt8.ofNat x.toNat).toArray⟩
theorem qgE(l:List Int)(x:Int):bys (l++[x])=bys l++⟨#[UInt8.ofNat x.toNat]⟩:=by
 apply ByteArray.ext;simp[bys]
theorem pP(l:List Int):(bys l).size=l.length:=by simp[bys,ByteArray.size]
def shpV(op:Int)(nk:Nat):AV:=match shp op nk with
 |some l => .tup [aS (bys l),aB true]
 |none => .tup [aS ⟨#[]⟩,aB false]
theorem Vm(mu:Mu)(a:ByteArray)(b:Bool):Rd mu (.tup [aS a,aB b]) (.tup [aS a,aB b]) := .hf _ (HF.tup fun c hc=>by simp at hc;rcases hc with rfl|rfl<;>exact HF.sc _)
theorem qgF(nk:Nat)(hnk:nk<=100000):qi qd 200 [aI 47,aI nk] (shpV 47 nk):=by
 refine qSQ call200 func200 rfl {} ?_;simp[go_sem];refine ql.upK (min nk 401) (fun k st=>st.tm 1=aI nk/\st.tm 6=aS (bys (qX k 101))/\st.tm 7=aI k) ?_ ?_
 .exact ⟨by simp[go_sem],by simp[go_sem,bys],by simp[go_sem]⟩
 .rintro k st hk ⟨e1,e6,e7⟩
  by_cases hkl:k=min nk 401
  .have hv:shpV 47 nk = .tup [aS (bys (qX k 101)),aB true]:=by
    rw[hkl];rfl
   rw[hv];by_cases h1:nk<=k
   .have h1':¬k<nk:=by omega
    simp[go_sem,e1,e6,e7,h1'];exact Vm _ _ _
   .have h2:k=401:=by omega
    subst h2;have h3:401<nk:=by omega
    have h4:(401:Int)<nk:=by omega
    simp[go_sem,e1,e6,e7,h3,h4];exact Vm _ _ _
  .have hlt:k<nk:=by omega
   have hlt2:k<401:=by omega
   have hlt3:(k:Int)<401:=by omega
   have w1:qj.wrap ((k:Int)+1)=(k:Int)+1:=qg (by omega) (by omega);have hsz:(bys (qX k 101)).size+1<=9223372036854775807:=by rw[pP,List.length_replicate];omega
   have hs2:bys (qX k 101)++⟨#[101]⟩=bys (qX (k+1) 101):=by
    rw[List.replicate_succ',qgE];rfl
   generalize bys (qX k 101)=B at *
   simp[go_sem,e1,e6,e7,hlt,hlt2,hlt3,hsz,w1];refine⟨by omega,Keep.mk' ?_⟩;exact⟨by simp[go_sem,e1],by simp[go_sem,hs2],by simp[go_sem]⟩
theorem qgG(op:Int)(nk:Nat)(hnk:nk<=100000):qi qd 200 [aI op,aI nk] (shpV op nk):=by
 by_cases h47:op=47
 .subst h47;exact qgF nk hnk
 by_cases hr:1<=op/\op<=51
 .have hd:op=1\/op=2\/op=3\/op=4\/op=5\/op=6\/op=7\/op=8\/op=9\/op=10\/op=11\/op=12\/op=13\/op=14\/op=15\/op=16\/op=17\/op=18\/op=19\/op=20\/op=21\/op=22\/op=23\/op=24\/op=25\/op=26\/op=27\/op=28\/op=29\/op=30\/op=31\/op=32\/op=33\/op=34\/op=35\/op=36\/op=37\/op=38\/op=39\/op=40\/op=41\/op=42\/op=43\/op=44\/op=45\/op=46\/op=48\/op=49\/op=50\/op=51:=by omega
  rcases hd with rfl|rfl|rfl|rfl|rfl|rfl|rfl|rfl|rfl|rfl|rfl|rfl|rfl|rfl|rfl|rfl|rfl|rfl|rfl|rfl|rfl|rfl|rfl|rfl|rfl|rfl|rfl|rfl|rfl|rfl|rfl|rfl|rfl|rfl|rfl|rfl|rfl|rfl|rfl|rfl|rfl|rfl|rfl|rfl|rfl|rfl|rfl|rfl|rfl|rfl
  all_goals
   refine qSQ call200 func200 rfl {} ?_;simp[go_sem,shpV,shp];exact Vm _ _ _
 .have hno:∀ c:Int,1<=c->c<=51->(op=c)=False:=fun c h1 h2=>eq_false (by omega)
  have hn:shp op nk=none:=by
   unfold shp
   repeat rw[if_neg (by omega)]
  rw[shpV,hn];refine qSQ call200 func200 rfl {} ?_;simp[go_sem,hno];exact Vm _ _ _
end Q1
namespace Q2
open P2 Y1 Q1
def fitB(op:Int)(ks:List Nd):Bool:=decide (shp op ks.length=some (ks.map fun k=>kd k.op))
theorem qgH(l:List Int)(hb:∀ x,x∈l->0<=x/\x<256)(i:Nat)(h:i<l.length)(h':i<(bys l).data.size):(((bys l).data[i]).toNat:Int)=l[i]:=by
 have h1:=hb l[i] (qu h);simp only[bys,List.getElem_toArray,Xs,UInt8.toNat_ofNat'];omega
theorem qgI{op:Int}{nk:Nat}{l:List Int}(h:shp op nk=some l):∀ x,x∈l->0<=x/\x<256:=by
 unfold shp at h
 repeat' split at h
 all_goals first
  | (cases h;done)
  | (cases h;intro x hx;cases hx;done)
  | (cases h;intro x hx;rw[List.mem_replicate]at hx;omega)
  | (cases h;intro x hx;simp at hx;omega)
theorem fitsU(op:Int)(ks:List Nd)(hk:ks.length<=1000):qi qd 161 [aI op,lNd ks] (aB (fitB op ks)):=by
 have hs:=qgG op ks.length (by omega);unfold shpV at hs;cases hv:shp op ks.length with
 |none =>
  simp only[hv]at hs;have hf:fitB op ks=false:=by simp[fitB,hv]
  rw[hf];refine qSQ call161 func161 rfl {} ?_;simp[go_sem];refine qb.pure hs (.cons (.hf (HF.sc _)) (.cons (.hf (HF.sc _)) .nil)) ?_;simp[go_sem];exact .hf _ (HF.sc _)
 |some l =>
  simp only[hv]at hs;have hbs:=pP l;have hget:=qgH l (qgI hv);generalize bys l=B at *
  refine qSQ call161 func161 rfl {} ?_;simp[go_sem];refine qb.pure hs (.cons (.hf (HF.sc _)) (.cons (.hf (HF.sc _)) .nil)) ?_;by_cases hl:l.length=ks.length
  .simp [go_sem,hbs,hl]
   refine ql.upK ks.length (fun k st=>st.tm 1=lNd ks/\st.tm 5=aS B/\st.tm 7=aI k/\∀ j,j<k->(ks[j]?).map (fun k=>kd k.op)=l[j]?) ?_ ?_
   .exact ⟨by simp[go_sem],by simp[go_sem],by simp[go_sem],fun j hj=>absurd hj (by omega)⟩
   .rintro k st hk ⟨e1,e5,e7,hI⟩
    by_cases hkl:k=ks.length
    .subst hkl
     have hf:fitB op ks=true:=by
      rw[fitB,hv,decide_eq_true];congr 1;apply List.ext_getElem?;intro j;by_cases hj:j<ks.length
      .rw [zk,hI j hj]
      .rw [zQ (by omega),zQ (by simp;omega)]
     rw[hf];simp[go_sem,e1,e5,e7];exact .hf _ (HF.sc _)
    .have hlt:k<ks.length:=by omega
     have w1:qj.wrap ((k:Int)+1)=(k:Int)+1:=qg (by omega) (by omega);simp[go_sem,e1,e5,e7,hlt];refine qe.intro (by kernel_rfl) ?_;simp[go_sem,e1,e5,e7,hlt,qo];refine qb.pure (WI ks[k].op) (.cons (.hf (HF.sc _)) .nil) ?_;have hlk:k<l.length:=by omega
     have hBk:k<B.data.size:=by have:B.data.size=l.length:=hbs;omega
     have hg:=hget k hlk hBk;by_cases hq:kd ks[k].op=l[k]
     .have hq2:kd ks[k].op=((B.data[k]).toNat:Int):=by rw[hg];exact hq
      simp[go_sem,e1,e5,e7,hlt,hbs,hl,hq2,w1];refine Keep.mk' ?_;refine⟨by simp[go_sem,e1],by simp[go_sem,e5],by simp[go_sem],fun j hj=>?_⟩;by_cases hjk:j=k
      .subst hjk
       rw[qv hlt,qv hlk,q8,hq]
      .exact hI j (by omega)
     .have hq2:¬kd ks[k].op=((B.data[k]).toNat:Int):=by rw[hg];exact hq
      have hf:fitB op ks=false:=by
       rw[fitB,hv,decide_eq_false];intro e;injection e with e;apply hq;have:l[k]?=some (kd ks[k].op):=by rw[e,zk,qv hlt,q8]
       rw[qv hlk]at this;simpa using this.symm
      rw[hf];simp[go_sem,e1,e5,e7,hlt,hbs,hl,hq2];exact .hf _ (HF.sc _)
  .have hf:fitB op ks=false:=by
    rw[fitB,hv,decide_eq_false];intro e;injection e with e;rw[e]at hl;simp at hl
   rw[hf];simp[go_sem,hbs,hl];exact .hf _ (HF.sc _)
end Q2
namespace Q3
open Y1 Q1
def letC(c:Int):Bool:=(decide (97<=c)&&decide (c<=122))||(decide (65<=c)&&decide (c<=90))
def chB(i:Nat)(c:Int):Bool:=letC c||(!decide (i=0)&&(decide (c=95)||(decide (48<=c)&&decide (c<=57))))
def jQ(s:ByteArray):Bool:=decide (1<=s.size)&&decide (s.size<=16)&&!kwB s&&(qq s.size).all fun i=>match s.data[i]? with|some c=>chB i c.toNat|none=>true
theorem qgJ(s:ByteArray):qi qd 199 [aS s] (aB (jQ s)):=by
 refine qSQ call199 func199 rfl {} ?_;by_cases h0:s.size=0
 .have hn:jQ s=false:=by simp[jQ,h0]
  rw[hn];simp[go_sem,h0];exact .hf _ (HF.sc _)
 by_cases h16:16<s.size
 .have hn:jQ s=false:=by
   have:¬s.size<=16:=by omega
   simp[jQ,this]
  rw[hn];have h16i:(16:Int)<s.size:=by omega
  simp[go_sem,h0,h16i];exact .hf _ (HF.sc _)
 have h16i:¬(16:Int)<s.size:=by omega
 simp[go_sem,h0,h16i];refine qb.pure (qgD s) (.cons (.hf (HF.sc _)) .nil) ?_;cases hk:kwB s with
 |true =>
  have hn:jQ s=false:=by simp[jQ,hk]
  rw[hn];simp[go_sem,h0,h16];exact .hf _ (HF.sc _)
 |false =>
  simp[go_sem,h0,h16];refine ql.upK s.size (fun k st=>st.tm 0=aS s/\st.tm 3=aI k/\∀ j c,j<k->s.data[j]?=some c->chB j c.toNat=true) ?_ ?_
  .exact ⟨by simp[go_sem],by simp[go_sem],fun j c hj=>absurd hj (by omega)⟩
  .rintro k st hk2 ⟨e0,e2,hI⟩
   by_cases hkl:k=s.size
   .have hn:jQ s=true:=by
     simp only[jQ,hk,Bool.not_false,Bool.and_true,qx,decide_eq_true_eq,qy,zI];refine⟨⟨by omega,by omega⟩,fun i hi=>?_⟩;cases hc:s.data[i]? with
     |none=>rfl
     |some c=>exact hI i c (by omega) hc
    rw[hn];simp[go_sem,e0,e2,hkl];exact .hf _ (HF.sc _)
   .have hlt:k<s.size:=by omega
    have hlt2:k<s.data.size:=hlt;have w1:qj.wrap ((k:Int)+1)=(k:Int)+1:=qg (by omega) (by omega);have z1:qj.wrap 1=1:=rfl;have hc0:s.data[k]?=some s.data[k]:=Array.getElem?_eq_getElem hlt2;simp[go_sem,e0,e2,hlt,hlt2];generalize hc:((s.data[k]).toNat:Int)=c at *
    cases hch:chB k c with
    |false =>
     have hn:jQ s=false:=by
      rw[jQ,Bool.and_eq_false_iff];refine .inr (List.all_eq_false.2 ⟨k,zI.2 hlt,?_⟩);simp only[hc0,hc,hch];simp
     rw[hn];by_cases a1:97<=c<;>by_cases a2:c<=122<;>by_cases a3:65<=c<;>by_cases a4:c<=90<;>by_cases a5:c=95<;>by_cases a6:c<48<;>by_cases a7:57<c<;>by_cases a8:k=0<;>first|omega | (exfalso;simp[chB,letC,a1,a2,a3,a4,a5,a6,a7,a8]at hch;done) | (exfalso;simp[chB,letC,a1,a2,a3,a4,a5,a6,a7,a8]at hch;omega)|skip
     all_goals
      simp[go_sem,e0,e2,a1,a2,a3,a4,a5,a6,a7,a8];exact .hf _ (HF.sc _)
    |true =>
     have hnext:∀ j d,j<k+1->s.data[j]?=some d->chB j d.toNat=true:=fun j d hj hd=>by
      by_cases hjk:j=k
      .subst hjk
       rw[hc0]at hd;cases hd;rw[hc];exact hch
      .exact hI j d (by omega) hd
     by_cases a1:97<=c<;>by_cases a2:c<=122<;>by_cases a3:65<=c<;>by_cases a4:c<=90<;>by_cases a5:c=95<;>by_cases a6:c<48<;>by_cases a7:57<c<;>by_cases a8:k=0<;>first|omega | (exfalso;simp[chB,letC,a1,a2,a3,a4,a5,a6,a7,a8]at hch;done) | (exfalso;simp[chB,letC,a1,a2,a3,a4,a5,a6,a7,a8]at hch;omega)|skip
     all_goals
      simp[go_sem,e0,e2,a1,a2,a3,a4,a5,a6,a7,a8,w1,z1]
      first
       |exact⟨hlt,Keep.mk' ⟨by simp[go_sem,e0],by simp[go_sem],hnext⟩⟩
       | (subst a8;exact⟨hlt,Keep.mk' ⟨by simp[go_sem,e0],by simp[go_sem],fun j d hj hd=>hnext j d (by omega) hd⟩⟩)
end Q3
namespace Q4
open P2 Y1 Y2 Y9 Q2 Q3
def ZK(op:Int):Bool:=decide (op=1)||decide (op=15)||decide (op=45)||decide (op=46)||decide (op=47)
def numB(op n:Int):Bool:=if op=2 then decide (1<=n)&&decide (n<=3) else if op=20 then decide (-64<=n)&&decide (n<=64) else decide (n=0)
def ownB(n:Nd):Bool:=if ZK n.op=jQ n.name/\(ZK n.op=true\/n.name=⟨#[]⟩) then numB n.op n.n else false
theorem ownU(n:Nd):qi qd 160 [eNd n] (aB (ownB n)):=by
 refine qSQ call160 func160 rfl {} ?_;have hnm:=qgJ n.name;generalize hN:jQ n.name=N at *
 by_cases hd:n.op=1\/n.op=15\/n.op=45\/n.op=46\/n.op=47
 .have hnd:ZK n.op=true:=by rcases hd with h|h|h|h|h<;>simp[ZK,h]
  have h2:¬n.op=2:=by omega
  have h20:¬n.op=20:=by omega
  rcases hd with h|h|h|h|h
  all_goals
   simp[go_sem,h];refine qb.pure hnm (.cons (.hf (HF.sc _)) .nil) ?_;cases N with
   |true =>
    have ho:ownB n=decide (n.n=0):=by simp[ownB,hnd,hN,numB,h2,h20]
    rw[ho];simp[go_sem,h];exact .hf _ (HF.sc _)
   |false =>
    have ho:ownB n=false:=by simp[ownB,hnd,hN]
    rw[ho];simp[go_sem,h];exact .hf _ (HF.sc _)
 .simp only[not_or]at hd
  obtain⟨d1,d2,d3,d4,d5⟩:=hd;have hnd:ZK n.op=false:=by simp[ZK,d1,d2,d3,d4,d5]
  simp[go_sem,d1,d2,d3,d4,d5];refine qb.pure hnm (.cons (.hf (HF.sc _)) .nil) ?_;cases N with
  |true =>
   have ho:ownB n=false:=by simp[ownB,hnd,hN]
   rw[ho];simp[go_sem,d1,d2,d3,d4,d5];exact .hf _ (HF.sc _)
  |false =>
   by_cases he:n.name=⟨#[]⟩
   .have ho:ownB n=numB n.op n.n:=by
     unfold ownB;rw[if_pos ⟨by rw[hnd,hN],.inr he⟩]
    rw[ho];unfold numB;by_cases h2:n.op=2
    .by_cases b1:1<=n.n<;>by_cases b2:n.n<=3<;>(simp[go_sem,h2,he,b1,b2];exact .hf _ (HF.sc _))
    .by_cases h20:n.op=20
     .by_cases b1 : -64<=n.n<;>by_cases b2:n.n<=64<;>(simp[go_sem,h2,h20,he,b1,b2];exact .hf _ (HF.sc _))
     .simp [go_sem,d1,d2,d3,d4,d5,h2,h20,he]
      exact .hf _ (HF.sc _)
   .have ho:ownB n=false:=by simp[ownB,hnd,he]
    rw[ho];have hie:n.name.toList.isEmpty=false:=by simpa using vd he
    simp[go_sem,d1,d2,d3,d4,d5,he,hie];exact .hf _ (HF.sc _)
mutual
def cntN:Nd->Int->Int
 | .mk _ _ _ ks _,left=>yK ks left 1
def yK:List Nd->Int->Int->Int
 | [],_,sum=>sum
 |k :: ks,left,sum=>if sum<=left then yK ks left (sum+cntN k (left-sum)) else sum
end
theorem WJ(n:Nd)(left:Int):cntN n left=yK n.kids left 1:=by
 obtain⟨op,nm,i,ks,p⟩:=n;simp[cntN,Nd.kids]
mutual
theorem Vn:∀(n:Nd) (left:Int),1<=cntN n left/\(cntN n left<=left+1\/cntN n left=1)
 | .mk _ _ _ ks _,left=>by
  simp only[cntN];have:=pQ ks left 1;omega
theorem pQ:∀(ks:List Nd) (left sum:Int),sum<=yK ks left sum/\(yK ks left sum<=left+1\/yK ks left sum=sum)
 | [],left,sum=>by simp[yK]
 |k :: ks,left,sum=>by
  simp only[yK];split
  .have h1:=Vn k (left-sum)
   have h2:=pQ ks left (sum+cntN k (left-sum));omega
  .omega
end
theorem pR:∀(m:Nat) (n:Nd),szN n<=m->∀ left:Int,-1000000<=left/\left<=1000000->qi qd 95 [eNd n,aI left] (aI (cntN n left))
 | 0,n,hm,_,_=>by obtain⟨op,nm,i,ks,p⟩:=n;simp[szN]at hm
 |m+1,n,hm,left,hl=>by
  have ih:∀ k,k∈n.kids->∀ left:Int,-1000000<=left/\left<=1000000->qi qd 95 [eNd k,aI left] (aI (cntN k left)):=fun k hk =>
   pR m k (by have:=yi hk;omega)
  rw[WJ];generalize hR:yK n.kids left 1=R;refine qSQ call95 func95 rfl {} ?_;simp[go_sem];refine ql.upK n.kids.length (fun k st=>∃ sum:Int,st.tm 1=aI left/\st.tm 2 = .ip (cNd n)/\st.tm 5=aI sum/\st.tm 6=aI k/\(k:Int)+1<=sum/\(sum<=left+1\/sum=1)/\yK (n.kids.drop k) left sum=R) ?_ ?_
  .exact ⟨1,by simp[go_sem],by simp[go_sem],by simp[go_sem],by simp[go_sem],by omega,by omega,by simpa using hR⟩
  .rintro k st hk ⟨sum,e1,e2,e5,e6,hs1,hs2,hI⟩
   by_cases hkl:k=n.kids.length
   .subst hkl
    rw[zL]at hI;simp only[yK]at hI;subst hI;simp[go_sem,e1,e2,e5,e6];exact .hf _ (HF.sc _)
   .have hlt:k<n.kids.length:=by omega
    rw[zj hlt]at hI;simp only[yK]at hI;by_cases hc:sum<=left
    .rw [if_pos hc]at hI
     have w1:qj.wrap ((k:Int)+1)=(k:Int)+1:=qg (by omega) (by omega);have w2:qj.wrap (left-sum)=left-sum:=qg (by omega) (by omega);have hcl:=Vn n.kids[k] (left-sum);have w3:qj.wrap (sum+cntN n.kids[k] (left-sum))=sum+cntN n.kids[k] (left-sum):=qg (by omega) (by omega);simp[go_sem,e1,e2,e5,e6,hlt,hc,w2,qo];refine qb.pure (ih n.kids[k] (qu hlt) (left-sum) ⟨by omega,by omega⟩) (.cons (.hf (qI _)) (.cons (.hf (HF.sc _)) .nil)) ?_;simp[go_sem,e1,e2,e5,e6,w1,w3];refine⟨hlt,Keep.mk' ?_⟩;exact⟨sum+cntN n.kids[k] (left-sum),by simp[go_sem,e1],by simp[go_sem,e2],by simp[go_sem],by simp[go_sem],by omega,by omega,hI⟩
    .rw [if_neg hc]at hI
     subst hI;simp[go_sem,e1,e2,e5,e6,hlt,hc];exact .hf _ (HF.sc _)
mutual
def forN:Nd->Int->Bool
 | .mk op nm i ks p,lv=>if lv<1 then false else ownB (.mk op nm i ks p)&&(fitB op ks&&wd ks (lv-1))
def wd:List Nd->Int->Bool
 | [],_=>true
 |k :: ks,lv=>forN k lv&&wd ks lv
end
theorem WL(n:Nd)(lv:Int):forN n lv=if lv<1 then false else ownB n&&(fitB n.op n.kids&&wd n.kids (lv-1)):=by
 obtain⟨op,nm,i,ks,p⟩:=n;simp[forN,Nd.kids,Nd.op]
theorem pS:∀(m:Nat) (n:Nd),szN n<=m->Small n->∀ lv:Int,-1000000<=lv/\lv<=1000000->qi qd 96 [eNd n,aI lv] (aB (forN n lv))
 | 0,n,hm,_,_,_=>by obtain⟨op,nm,i,ks,p⟩:=n;simp[szN]at hm
 |m+1,n,hm,hs,lv,hl=>by
  have ih:∀ k,k∈n.kids->∀ lv:Int,-1000000<=lv/\lv<=1000000->qi qd 96 [eNd k,aI lv] (aB (forN k lv)):=fun k hk =>
   pS m k (by have:=yi hk;omega) (hs.kid hk)
  have hlen:=hs.len;rw[WL];have how:=ownU n;have hfi:=fitsU n.op n.kids hlen;by_cases hlv:lv<1
  .rw [if_pos hlv]
   refine qSQ call96 func96 rfl {} ?_;simp[go_sem,hlv];exact .hf _ (HF.sc _)
  rw[if_neg hlv];cases ho:ownB n with
  |false =>
   rw[ho]at how;refine qSQ call96 func96 rfl {} ?_;simp[go_sem,hlv];refine qb.pure how (.cons (.hf (qI _)) .nil) ?_;simp[go_sem,hlv];exact .hf _ (HF.sc _)
  |true =>
   rw[ho]at how;cases hf:fitB n.op n.kids with
   |false =>
    rw[hf]at hfi;refine qSQ call96 func96 rfl {} ?_;simp[go_sem,hlv];refine qb.pure how (.cons (.hf (qI _)) .nil) ?_;simp[go_sem,hlv];refine qb.pure hfi (.cons (.hf (HF.sc _)) (.cons (.hf (JP _)) .nil)) ?_;simp[go_sem,hlv];exact .hf _ (HF.sc _)
   |true =>
    rw[hf]at hfi;have wl:qj.wrap (lv-1)=lv-1:=qg (by omega) (by omega);generalize hR:wd n.kids (lv-1)=R;simp only[Bool.true_and];refine qSQ call96 func96 rfl {} ?_;simp[go_sem,hlv];refine qb.pure how (.cons (.hf (qI _)) .nil) ?_;simp[go_sem,hlv];refine qb.pure hfi (.cons (.hf (HF.sc _)) (.cons (.hf (JP _)) .nil)) ?_;simp[go_sem,hlv];refine ql.upK n.kids.length (fun k st=>st.tm 1=aI lv/\st.tm 2 = .ip (cNd n)/\st.tm 5=aI k/\wd (n.kids.drop k) (lv-1)=R) ?_ ?_
    .exact ⟨by simp[go_sem],by simp[go_sem],by simp[go_sem],by simpa using hR⟩
    .rintro k st hk ⟨e1,e2,e5,hI⟩
     by_cases hkl:k=n.kids.length
     .subst hkl
      rw[zL]at hI;simp only[wd]at hI;subst hI;simp[go_sem,e1,e2,e5];exact .hf _ (HF.sc _)
     .have hlt:k<n.kids.length:=by omega
      have w1:qj.wrap ((k:Int)+1)=(k:Int)+1:=qg (by omega) (by omega);rw[zj hlt]at hI;simp only[wd]at hI;have hi:=ih n.kids[k] (qu hlt) (lv-1) ⟨by omega,by omega⟩;simp[go_sem,e1,e2,e5,hlt,wl,qo];refine qb.pure hi (.cons (.hf (qI _)) (.cons (.hf (HF.sc _)) .nil)) ?_;cases hq:forN n.kids[k] (lv-1) with
      |true =>
       rw[hq,Bool.true_and]at hI;simp[go_sem,e1,e2,e5,w1];refine⟨hlt,Keep.mk' ?_⟩;exact⟨by simp[go_sem,e1],by simp[go_sem,e2],by simp[go_sem],hI⟩
      |false =>
       rw[hq,Bool.false_and]at hI;subst hI;simp[go_sem,e1,e2,e5];exact .hf _ (HF.sc _)
theorem pT:∀(ks:List Nd) (left sum:Int),0<=sum->yK ks left sum<=left->sum+ks.length<=yK ks left sum/\∀ k,k∈ks->∃ l',l'<=left/\cntN k l'<=l'
 | [],left,sum,_,h=>by simp[yK]
 |k :: ks,left,sum,h0,h=>by
  simp only[yK]at h⊢;split at h
  .rename_i hc
   rw[if_pos hc];have h1:=Vn k (left-sum);have h2:=pT ks left (sum+cntN k (left-sum)) (by omega) h;have h3:=h2.1;refine⟨by simp only[z6];omega,fun q hq=>?_⟩;rcases qB.1 hq with rfl|hq
   .exact ⟨left-sum,by omega,by omega⟩
   .exact h2.2 q hq
  .omega
theorem WD:∀(m:Nat) (n:Nd) (left:Int),szN n<=m->left<=1000->cntN n left<=left->Small n
 | 0,n,_,hm,_,_=>by obtain⟨op,nm,i,ks,p⟩:=n;simp[szN]at hm
 |m+1,n,left,hm,hl,h=>by
  rw[WJ]at h;obtain⟨h1,h2⟩:=pT n.kids left 1 (by omega) h;refine .mk n (by omega) fun k hk=>?_
  obtain⟨l',hl',hc⟩:=h2 k hk;exact WD m k l' (by have:=yi hk;omega) (by omega) hc
def zT(n:Nd):Bool:=decide (cntN n 400<=400)&&forN n 24
theorem WM(n:Nd):qi qd 49 [eNd n] (aB (zT n)):=by
 have hc:=pR (szN n) n (qr _) 400 (by omega);by_cases h:cntN n 400<=400
 .have hs:=WD (szN n) n 400 (qr _) (by omega) h
  have hf:=pS (szN n) n (qr _) hs 24 (by omega);have hv:zT n=forN n 24:=by simp[zT,h]
  rw[hv];refine qSQ call49 func49 rfl {} ?_;simp[go_sem];refine qb.pure hc (.cons (.hf (qI _)) (.cons (.hf (HF.sc _)) .nil)) ?_;simp[go_sem,h];refine qb.pure hf (.cons (.hf (qI _)) (.cons (.hf (HF.sc _)) .nil)) ?_;simp[go_sem];exact .hf _ (HF.sc _)
 .have hv:zT n=false:=by simp[zT,h]
  rw[hv];refine qSQ call49 func49 rfl {} ?_;simp[go_sem];refine qb.pure hc (.cons (.hf (qI _)) (.cons (.hf (HF.sc _)) .nil)) ?_;simp[go_sem,h];exact .hf _ (HF.sc _)
theorem pV{ks:List Nd}{lv:Int}(h:wd ks lv=true):∀ k,k∈ks->forN k lv=true:=by
 induction ks with
 |nil=>intro k hk;simp at hk
 |cons a l ih =>
  simp only[wd,qx]at h;intro k hk;rcases qB.1 hk with rfl|hk
  .exact h.1
  .exact ih h.2 k hk
theorem pW:∀(m:Nat) (n:Nd) (lv:Int),szN n<=m->forN n lv=true->WfN n
 | 0,n,_,hm,_=>by obtain⟨op,nm,i,ks,p⟩:=n;simp[szN]at hm
 |m+1,n,lv,hm,h=>by
  rw[WL]at h;split at h
  .exact absurd h (by simp)
  .simp only[qx]at h
   obtain⟨h1,h2,h3⟩:=h;refine .mk n ?_ (fun ho=>?_) fun k hk=>pW m k (lv-1) (by have:=yi hk;omega) (pV h3 k hk)
   .simpa [fitB] using h2
   .unfold ownB at h1
    split at h1
    .rw [numB,if_pos ho]at h1
     simpa using h1
    .exact absurd h1 (by simp)
theorem vI{n:Nd}(h:zT n=true):WfN n:=by
 simp only[zT,qx]at h;exact pW (szN n) n 24 (qr _) h.2
end Q4
namespace Q5
theorem qgK(a b:List Int)(ha:a.length<=1000000):qi qd 157 [lI a,lI b] (aB (decide (a=b))):=by
 refine qSQ call157 func157 rfl {} ?_;by_cases hn:a.length=b.length
 case neg =>
  rw[decide_eq_false (by rintro rfl;exact hn rfl)];simp[go_sem,hn];exact .hf _ (HF.sc _)
 simp[go_sem,hn];refine ql.upK a.length (fun k st=>st.tm 0=lI a/\st.tm 1=lI b/\st.tm 5=aI k/\∀(i:Nat) (h:i<a.length) (h':i<b.length),i<k->a[i]=b[i]) ?_ ?_
 .exact ⟨by simp[go_sem],by simp[go_sem],by simp[go_sem],fun i h h' hi=>absurd hi (by omega)⟩
 .rintro k st hk ⟨e0,e1,e5,he⟩
  by_cases hkl:k=a.length
  .rw [decide_eq_true (List.ext_getElem hn fun i h h'=>he i h h' (by omega))]
   have hkb:k=b.length:=by omega
   simp[go_sem,e0,e1,e5,hkb,hn];exact .hf _ (HF.sc _)
  .have hlt:k<a.length:=by omega
   have hlb:k<b.length:=by omega
   have w1:qj.wrap ((k:Int)+1)=(k:Int)+1:=qg (by omega) (by omega);have hltb:(k:Int)<(b.length:Int):=by omega
   by_cases hq:a[k]=b[k]
   .simp [go_sem,e0,e1,e5,hlt,hlb,hn,hltb]
    try refine qe.intro (by kernel_rfl) ?_
    simp[go_sem,e0,e1,e5,hlt,hlb,hn,hltb,hq,w1]
    try refine⟨by omega,Keep.mk' ?_⟩
    try refine Keep.mk' ?_
    refine⟨by simp[go_sem,e0],by simp[go_sem,e1],by simp[go_sem],fun i h h' hi=>?_⟩;by_cases hik:i=k
    .subst hik;exact hq
    .exact he i h h' (by omega)
   .rw [decide_eq_false (fun e=>hq (by simp[e]))]
    simp[go_sem,e0,e1,e5,hlt,hlb,hn,hltb]
    try refine qe.intro (by kernel_rfl) ?_
    simp[go_sem,e0,e1,e5,hlt,hlb,hn,hltb,hq];exact .hf _ (HF.sc _)
end Q5
namespace Q6
open Y1
mutual
def anyN(p:Nd->Bool):Nd->Bool
 | .mk op nm i ks q=>p (.mk op nm i ks q)||YK p ks
def YK(p:Nd->Bool):List Nd->Bool
 | []=>false
 |k :: ks=>anyN p k||YK p ks
end
theorem qgL(p:Nd->Bool)(n:Nd):anyN p n=(p n||YK p n.kids):=by
 obtain⟨op,nm,i,ks,q⟩:=n;simp[anyN,Nd.kids]
end Q6
namespace Q7
open YF P1
def parB(ns:Nat)(l:List (ByteArray×Int)):Bool:=decide (l.length<=8)&&l.all fun p=>decide (0<=p.2)&&decide (p.2<ns)
theorem qgM(ts:TS)(l:List (ByteArray×Int)):qi qd 91 [eTS ts,lPm l] (aB (parB ts.sorts.length l)):=by
 refine qSQ call91 func91 rfl {} ?_;by_cases h8:l.length<=8
 case neg =>
  have hp:parB ts.sorts.length l=false:=by simp[parB,h8]
  have h8':(8:Int)<l.length:=by omega
  rw[hp];simp[go_sem,h8,h8'];exact .hf _ (HF.sc _)
 have h8':¬(8:Int)<l.length:=by omega
 simp[go_sem,h8,h8'];refine ql.upK l.length (fun k st=>st.tm 1=lPm l/\st.tm 2 = .ip (cTS ts)/\st.tm 5=aI k/\∀ j p,j<k->l[j]?=some p->0<=p.2/\p.2<ts.sorts.length) ?_ ?_
 .exact ⟨by simp[go_sem],by simp[go_sem],by simp[go_sem],fun j p hj=>absurd hj (by omega)⟩
 .rintro k st hk ⟨e1,e3,e5,hI⟩
  by_cases hkl:k=l.length
  .have hp:parB ts.sorts.length l=true:=by
    simp only[parB,qx,decide_eq_true_eq,qy];refine⟨h8,fun p hp=>?_⟩;obtain⟨j,hj⟩:=List.mem_iff_getElem?.1 hp;exact hI j p (by have:=(qk.1 hj).1;omega) hj
   rw[hp];simp[go_sem,e1,e3,e5,hkl];exact .hf _ (HF.sc _)
  .have hlt:k<l.length:=by omega
   have w1:qj.wrap ((k:Int)+1)=(k:Int)+1:=qg (by omega) (by omega);have hg:l[k]?=some l[k]:=qv hlt;by_cases hq:0<=l[k].2/\l[k].2<ts.sorts.length
   .have q1:¬l[k].2<0:=by omega
    have q2:¬(ts.sorts.length:Int)<=l[k].2:=by omega
    simp[go_sem,e1,e3,e5,hlt];refine qe.intro (by kernel_rfl) ?_;simp[go_sem,e1,e3,e5,hlt,q1,q2,w1]
    try refine⟨hlt,Keep.mk' ?_⟩
    try refine Keep.mk' ?_
    refine⟨by simp[go_sem,e1],by simp[go_sem,e3],by simp[go_sem],fun j p hj hp=>?_⟩;by_cases hjk:j=k
    .subst hjk;rw[hg]at hp;cases hp;exact hq
    .exact hI j p (by omega) hp
   .have hp:parB ts.sorts.length l=false:=by
     rw[parB,Bool.and_eq_false_iff];refine .inr (List.all_eq_false.2 ⟨l[k],qu hlt,?_⟩);simp only[qx,decide_eq_true_eq];exact hq
    rw[hp];by_cases q1:l[k].2<0
    .simp [go_sem,e1,e3,e5,hlt]
     refine qe.intro (by kernel_rfl) ?_;simp[go_sem,e1,e3,e5,hlt,q1];exact .hf _ (HF.sc _)
    .have q2:(ts.sorts.length:Int)<=l[k].2:=by omega
     simp[go_sem,e1,e3,e5,hlt];refine qe.intro (by kernel_rfl) ?_;simp[go_sem,e1,e3,e5,hlt,q1,q2];exact .hf _ (HF.sc _)
theorem qgN{ns:Nat}{l:List (ByteArray×Int)}(h:parB ns l=true):l.length<=8/\∀ p,p∈l->0<=p.2/\p.2<ns:=by
 simp only[parB,qx,decide_eq_true_eq,qy]at h;exact⟨h.1,fun p hp=>h.2 p hp⟩
end Q7
namespace Q8
open YF P1 P2 Y1 Y9 Q4 Q7
def limB(ts:TS):Bool:=decide (ts.sorts.length<=4)&&decide (ts.fields.length<=6)&&decide (ts.preds.length<=8)&&decide (ts.facts.length<=16)
def fldB(ns:Nat)(f:Fld):Bool:=decide (1<=f.sorts.length)&&decide (f.sorts.length<=3)&&f.sorts.all fun x=>decide (0<=x)&&decide (x<ns)
def yn(ts:TS):Bool:=limB ts&&(ts.fields.all (fldB ts.sorts.length)&&(ts.preds.all (fun p=>parB ts.sorts.length p.params&&zT p.body)&&ts.facts.all fun f=>zT f.2))
theorem qgO(ts:TS):qi qd 47 [eTS ts] (aB (yn ts)):=by
 refine qSQ call47 func47 rfl {} ?_;by_cases h1:ts.sorts.length<=4
 case neg =>
  have hf:yn ts=false:=by simp[yn,limB,h1]
  have h1':(4:Int)<ts.sorts.length:=by omega
  rw[hf];simp[go_sem,h1'];exact .hf _ (HF.sc _)
 have h1':¬(4:Int)<ts.sorts.length:=by omega
 by_cases h2:ts.fields.length<=6
 case neg =>
  have hf:yn ts=false:=by simp[yn,limB,h2]
  have h2':(6:Int)<ts.fields.length:=by omega
  rw[hf];simp[go_sem,h1',h2'];exact .hf _ (HF.sc _)
 have h2':¬(6:Int)<ts.fields.length:=by omega
 by_cases h3:ts.preds.length<=8
 case neg =>
  have hf:yn ts=false:=by simp[yn,limB,h3]
  have h3':(8:Int)<ts.preds.length:=by omega
  rw[hf];simp[go_sem,h1',h2',h3'];exact .hf _ (HF.sc _)
 have h3':¬(8:Int)<ts.preds.length:=by omega
 by_cases h4:ts.facts.length<=16
 case neg =>
  have hf:yn ts=false:=by simp[yn,limB,h4]
  have h4':(16:Int)<ts.facts.length:=by omega
  rw[hf];simp[go_sem,h1',h2',h3',h4'];exact .hf _ (HF.sc _)
 have h4':¬(16:Int)<ts.facts.length:=by omega
 simp[go_sem,h1',h2',h3',h4'];have hlim:limB ts=true:=by simp[limB,h1,h2,h3,h4]
 generalize hns:ts.sorts.length=ns at *
 refine ql.upK ts.fields.length (fun k st=>st.tm 1 = .ip (cTS ts)/\st.tm 3=aI k/\∀ j f,j<k->ts.fields[j]?=some f->fldB ns f=true) ?_ ?_
 .exact ⟨by simp[go_sem],by simp[go_sem],fun j p hj=>absurd hj (by omega)⟩
 .rintro k st hk ⟨e1,e3,hI⟩
  by_cases hkl:k=ts.fields.length
  .have hfa:ts.fields.all (fldB ns)=true:=by
    rw[qy];intro f hf;obtain⟨j,hj⟩:=List.mem_iff_getElem?.1 hf;exact hI j f (by have:=(qk.1 hj).1;omega) hj
   simp[go_sem,e1,e3,hkl];refine ql.upK ts.preds.length (fun k st=>st.tm 1 = .ip (cTS ts)/\st.tm 6=aI k/\∀ j p,j<k->ts.preds[j]?=some p->(parB ns p.params&&zT p.body)=true) ?_ ?_
   .exact ⟨by simp[go_sem,e1],by simp[go_sem],fun j p hj=>absurd hj (by omega)⟩
   .clear e1 e3 hI hkl hk k st
    rintro k st hk ⟨e1,e6,hI⟩;by_cases hkl:k=ts.preds.length
    .have hpa:(ts.preds.all fun p=>parB ns p.params&&zT p.body)=true:=by
      rw[qy];intro f hf;obtain⟨j,hj⟩:=List.mem_iff_getElem?.1 hf;exact hI j f (by have:=(qk.1 hj).1;omega) hj
     simp[go_sem,e1,e6,hkl];refine ql.upK ts.facts.length (fun k st=>st.tm 1 = .ip (cTS ts)/\st.tm 7=aI k/\∀ j f,j<k->ts.facts[j]?=some f->zT f.2=true) ?_ ?_
     .exact ⟨by simp[go_sem,e1],by simp[go_sem],fun j p hj=>absurd hj (by omega)⟩
     .clear e1 e6 hI hkl hk k st
      rintro k st hk ⟨e1,e7,hI⟩;by_cases hkl:k=ts.facts.length
      .have hfa2:(ts.facts.all fun f=>zT f.2)=true:=by
        rw[qy];intro f hf;obtain⟨j,hj⟩:=List.mem_iff_getElem?.1 hf;exact hI j f (by have:=(qk.1 hj).1;omega) hj
       have hok:yn ts=true:=by
        unfold yn;rw[hns,hlim,hfa,hpa,hfa2];rfl
       rw[hok];simp[go_sem,e1,e7,hkl];exact .hf _ (HF.sc _)
      .have hlt:k<ts.facts.length:=by omega
       have w1:qj.wrap ((k:Int)+1)=(k:Int)+1:=qg (by omega) (by omega);have hg:ts.facts[k]?=some ts.facts[k]:=qv hlt;have hval:=WM ts.facts[k].2;simp[go_sem,e1,e7,hlt]
       try refine qe.intro (by kernel_rfl) ?_
       try simp[go_sem,e1,e7,hlt]
       refine qb.pure hval (.cons (.hf (qI _)) .nil) ?_;cases hq2:zT ts.facts[k].2 with
       |false =>
        have hb:yn ts=false:=by
         have:(ts.facts.all fun f=>zT f.2)=false:=List.all_eq_false.2 ⟨_,qu hlt,by simp[hq2]⟩;simp[yn,this]
        rw[hb];simp[go_sem,e1,e7,hlt];exact .hf _ (HF.sc _)
       |true =>
        simp[go_sem,e1,e7,hlt,w1]
        try refine⟨hlt,Keep.mk' ?_⟩
        try refine Keep.mk' ?_
        refine⟨by simp[go_sem,e1],by simp[go_sem],fun i f hi hf=>?_⟩;by_cases hik:i=k
        .subst hik;rw[hg]at hf;cases hf;exact hq2
        .exact hI i f (by omega) hf
    .have hlt:k<ts.preds.length:=by omega
     have w1:qj.wrap ((k:Int)+1)=(k:Int)+1:=qg (by omega) (by omega);have hg:ts.preds[k]?=some ts.preds[k]:=qv hlt;have hbad:(parB ns ts.preds[k].params&&zT ts.preds[k].body)=false->yn ts=false:=fun hb=>by
      have:(ts.preds.all fun p=>parB ns p.params&&zT p.body)=false:=List.all_eq_false.2 ⟨_,qu hlt,by simp[hb]⟩;simp[yn,hns,this]
     have hpar:=qgM ts ts.preds[k].params;rw[hns]at hpar;have hval:=WM ts.preds[k].body;have hwp:WKs [eTS ts,lPm ts.preds[k].params] [eTS ts,lPm ts.preds[k].params] := .cons (.hf (zl ts)) (.cons (.hf (yH _)) .nil);simp[go_sem,e1,e6,hlt];refine qe.intro (by kernel_rfl) ?_;simp[go_sem,e1,e6,hlt];refine qb.pure hpar hwp ?_;cases hq1:parB ns ts.preds[k].params with
     |false =>
      rw[hbad (by rw[hq1];rfl)];simp[go_sem,e1,e6,hlt];exact .hf _ (HF.sc _)
     |true =>
      simp[go_sem,e1,e6,hlt];refine qb.pure hval (.cons (.hf (qI _)) .nil) ?_;cases hq2:zT ts.preds[k].body with
      |false =>
       rw[hbad (by rw[hq1,hq2];rfl)];simp[go_sem,e1,e6,hlt];exact .hf _ (HF.sc _)
      |true =>
       simp[go_sem,e1,e6,hlt,w1]
       try refine⟨hlt,Keep.mk' ?_⟩
       try refine Keep.mk' ?_
       refine⟨by simp[go_sem,e1],by simp[go_sem],fun i f hi hf=>?_⟩;by_cases hik:i=k
       .subst hik;rw[hg]at hf;cases hf;rw[hq1,hq2];rfl
       .exact hI i f (by omega) hf
  .have hlt:k<ts.fields.length:=by omega
   have hg:ts.fields[k]?=some ts.fields[k]:=qv hlt;have hbad:fldB ns ts.fields[k]=false->yn ts=false:=fun hb=>by
    have:ts.fields.all (fldB ns)=false:=List.all_eq_false.2 ⟨_,qu hlt,by simp[hb]⟩;simp[yn,hns,this]
   by_cases c1:1<=ts.fields[k].sorts.length
   case neg =>
    rw[hbad (by simp[fldB,c1])];have c1':(ts.fields[k].sorts.length:Int)<1:=by omega
    simp[go_sem,e1,e3,hlt,c1'];exact .hf _ (HF.sc _)
   have c1':¬(ts.fields[k].sorts.length:Int)<1:=by omega
   by_cases c3:ts.fields[k].sorts.length<=3
   case neg =>
    rw[hbad (by simp[fldB,c3])];have c3':(3:Int)<ts.fields[k].sorts.length:=by omega
    simp[go_sem,e1,e3,hlt,c1',c3'];exact .hf _ (HF.sc _)
   have c3':¬(3:Int)<ts.fields[k].sorts.length:=by omega
   simp[go_sem,e1,e3,hlt,c1',c3'];refine ql.upK ts.fields[k].sorts.length (fun j s=>s.tm 1 = .ip (cTS ts)/\s.tm 3=aI k/\s.tm 4=lI ts.fields[k].sorts/\s.tm 5=aI j/\∀ i x,i<j->ts.fields[k].sorts[i]?=some x->0<=x/\x<ns) ?_ ?_
   .exact ⟨by simp[go_sem,e1],by simp[go_sem,e3],by simp[go_sem],by simp[go_sem],fun i x hi=>absurd hi (by omega)⟩
   .rintro j s hj ⟨f1,f3,f4,f5,hJ⟩
    generalize hl:ts.fields[k].sorts=l at *
    by_cases hjl:j=l.length
    .have w1:qj.wrap ((k:Int)+1)=(k:Int)+1:=qg (by omega) (by omega)
     have hgood:fldB ns ts.fields[k]=true:=by
      simp only[fldB,hl,qx,decide_eq_true_eq,qy];refine⟨⟨c1,c3⟩,fun x hx=>?_⟩;obtain⟨i,hi⟩:=List.mem_iff_getElem?.1 hx;exact hJ i x (by have:=(qk.1 hi).1;omega) hi
     simp[go_sem,f1,f3,f4,f5,hjl,w1]
     try refine⟨hlt,Keep.mk' ?_⟩
     try refine Keep.mk' ?_
     refine⟨by simp[go_sem,f1],by simp[go_sem],fun i f hi hf=>?_⟩;by_cases hik:i=k
     .subst hik;rw[hg]at hf;cases hf;exact hgood
     .exact hI i f (by omega) hf
    .have hlj:j<l.length:=by omega
     have w1:qj.wrap ((j:Int)+1)=(j:Int)+1:=qg (by omega) (by omega);have hgj:l[j]?=some l[j]:=qv hlj;by_cases hq:0<=l[j]/\l[j]<ns
     .have q1:¬l[j]<0:=by omega
      have q2:¬(ns:Int)<=l[j]:=by omega
      simp[go_sem,f1,f3,f4,f5,hlj];refine qe.intro (by kernel_rfl) ?_;simp[go_sem,f1,f3,f4,f5,hlj,q1,q2,w1,hns]
      try refine⟨hlj,Keep.mk' ?_⟩
      try refine Keep.mk' ?_
      refine⟨by simp[go_sem,f1],by simp[go_sem,f3],by simp[go_sem,f4],by simp[go_sem],fun i x hi hx=>?_⟩;by_cases hij:i=j
      .subst hij;rw[hgj]at hx;cases hx;exact hq
      .exact hJ i x (by omega) hx
     .rw [hbad (by
       rw[fldB,hl,Bool.and_eq_false_iff];refine .inr (List.all_eq_false.2 ⟨l[j],qu hlj,?_⟩);simp only[qx,decide_eq_true_eq];exact hq)]
      by_cases q1:l[j]<0
      .simp [go_sem,f1,f3,f4,f5,hlj]
       refine qe.intro (by kernel_rfl) ?_;simp[go_sem,f1,f3,f4,f5,hlj,q1];exact .hf _ (HF.sc _)
      .have q2:(ns:Int)<=l[j]:=by omega
       simp[go_sem,f1,f3,f4,f5,hlj];refine qe.intro (by kernel_rfl) ?_;simp[go_sem,f1,f3,f4,f5,hlj,q1,q2,hns];exact .hf _ (HF.sc _)
theorem WN{ts:TS}(h:yn ts=true)(hs:∀ x,x∈ts.sorts->x.1.size<=4611686018427387904):okTS ts/\(∀ p,p∈ts.preds->WfN p.body)/\∀ f,f∈ts.facts->WfN f.2:=by
 simp only[yn,limB,fldB,qx,decide_eq_true_eq,qy]at h;obtain⟨⟨⟨⟨h1,h2⟩,h3⟩,h4⟩,hf,hp,ha⟩:=h;refine⟨⟨h1,h2,h3,h4,hs,fun f hm=>?_,fun p hm=>?_⟩,fun p hm=>vI (hp p hm).2,fun f hm=>vI (ha f hm)⟩
 .obtain ⟨⟨a,b⟩,c⟩:=hf f hm
  exact⟨a,b,fun x hx=>c x hx⟩
 .exact qgN (hp p hm).1
end Q8
namespace FD
open Y1 Y9 P1 E1 E2 E3 E9 Q4 F2
theorem qgP{ks:List Nd}{m:Nat}(h:∀ k,k∈ks->dN k<=m):dNs ks<=m:=by
 induction ks with
 |nil=>simp[dNs]
 |cons a l ih =>
  simp only[dNs];have:=h a (by simp);have:=ih fun k hk=>h k (by simp[hk])
  omega
theorem pX:∀(m:Nat) (n:Nd) (lv:Int),szN n<=m->forN n lv=true->(dN n:Int)<=lv
 | 0,n,lv,hs,_=>by
  obtain⟨op,nm,i,ks,q⟩:=n;simp only[szN,Nd.mk.sizeOf_spec]at hs;omega
 |m+1,n,lv,hs,h=>by
  rw[WL]at h;split at h
  .cases h
  .simp only[qx]at h
   have hk:=pV h.2.2;have:dNs n.kids<=(lv-1).toNat:=qgP fun k hkk=>by
    have:=pX m k (lv-1) (by have:=yi hkk;omega) (hk k hkk);omega
   rw[pb];omega
theorem we{n:Nd}(h:zT n=true):dN n<=24:=by
 simp only[zT,qx]at h;have:=pX (szN n) n 24 (qr _) h.2;omega
theorem WO{n:Int}{r:Rl}(h:yW n r=true):GR n r:=by
 simp only[yW,qx,decide_eq_true_eq,qy]at h;exact⟨h.1.1.1.2,h.1.1.2,h.1.2,h.2⟩
theorem WP:∀ x:List Int,(∀ a,a∈x->0<=a)->0<=sumI x:=fun x hx=>by
 induction x with
 |nil=>simp[sumI]
 |cons a x ih =>
  have h1:=hx a (by simp);have h2:=ih fun b hb=>hx b (by simp[hb])
  simp only[sumI,List.foldr_cons]at h2⊢;omega
theorem qgQ:∀(l:List Int) (i:Nat),(∀ a,a∈l->0<=a)->i<l.length->0<=gI l i/\0<=sumI (l.take i)/\sumI (l.take i)+gI l i<=sumI l:=fun l i h hi=>by
 have e:sumI l=sumI (l.take (i+1))+sumI (l.drop (i+1)):=by rw[<-KS,ud]
 rw[Qe l i hi]at e;rw[Qd hi];have h3:=WP (l.drop (i+1)) fun a ha=>h a (List.mem_of_mem_drop ha)
 have h2:=WP (l.take i) fun a ha=>h a (List.mem_of_mem_take ha)
 exact⟨h _ (qu hi),h2,by omega⟩
theorem pY{ts:TS}{m:Md}(h:okTS ts)(v:MVal (spOf ts) m):OkMa ⟨ts,m⟩ m.states.length:=by
 have hs:=v.sc;have hg:=WB hs;simp only[jC,qx,decide_eq_true_eq,qy]at hs;obtain⟨⟨⟨⟨⟨h1,h2⟩,h3⟩,h4⟩,h5⟩,h6⟩:=hs;have hns:=v.ns;have hl0:=v.l0;have hl1:=v.l1;refine { len:=rfl,nx:=?_,n0:=?_,n12:=h6,st:=?_,at0:=?_,gsc:=hg,pos:=fun a ha=>(hg.2 a ha).1,al:=h1,loop:=v.l0,N1:=by omega,ts:=h }
 .intro t ht
  show (if t+1<m.states.length then t+1 else m.loop.toNat)<m.states.length;split<;>omega
 .have:=WP m.sc.atoms fun a ha=>(hg.2 a ha).1
  exact this
 .intro s hs
  have hl:=v.len s hs;have hd:m.states.getD s []=m.states[s]:=by rw[zz,qv hs];rfl
  show (m.states.getD s []).length=ts.fields.length/\∀ r,r∈m.states.getD s []->GR (sumI m.sc.atoms) r;rw[hd];refine⟨hl,fun r hr=>?_⟩;obtain⟨i,hi,rfl⟩:=List.getElem_of_mem hr;exact WO (v.cell s i hs (by rw[<-hl];exact hi)).2.1
 .intro i hi
  exact qgQ m.sc.atoms i (fun a ha=>(hg.2 a ha).1) (by show i<m.sc.atoms.length;rw[h1];exact hi)
end FD
namespace Q9
open Y1
def ndOp(op:Int)(ks:List Nd):Nd := .mk op ⟨#[]⟩ 0 ks 0
def Vo(nm:ByteArray)(p:Int):Nd := .mk 1 nm 0 [] p
end Q9
namespace PA
open P1 P2 Y1 Y2 Y15 Y16
def lookS(nm:ByteArray)(s:Scp):Option Kd:=(yT nm s).head?.map Prod.snd
theorem pZ(c:Ck)(s:Scp)(nm:ByteArray)(pos:Int):yU c s nm pos=match lookS nm s with
  |some k => .ok (some k)
  |none=>match jN c.ts nm with
   | [] => .error (40,pos)
   | [k] => .ok (some k)
   |_ => .error (44,pos):=by
 unfold yU lookS;cases yT nm s with
 |nil=>rfl
 |cons v r=>rfl
theorem qgR{c c':Ck}{s s':Scp}{inn:Bool}{n n':Nd}(hop:n'.op=n.op)(hnm:n'.name=n.name)(hn:n'.n=n.n)(hp:n'.pos=n.pos)
  (ht:yw c' n.op n.name=yw c n.op n.name) (h1:n.op=1->yU c s n.name n.pos=yU c' s' n.name n.pos) (hpr:c'.ts.preds=c.ts.preds) (hcal:zD c' n.name=zD c n.name)
  (hns:c'.ts.sorts.length=c.ts.sorts.length) (hlen:n'.kids.length=n.kids.length)
  (hA:n.op=47->∀ ps,zP c s n.pos ps n.kids=zP c' s' n.pos ps n'.kids)
  (hB:(n.op=15\/n.op=45\/n.op=46)->∀ inn,yG c s inn n.name n.pos n.kids=yG c' s' inn n.name n.pos n'.kids)
  (hL:¬n.op=1->¬n.op=47->¬(n.op=15\/n.op=45\/n.op=46)->∀ inn,zo c s inn n.kids=zo c' s' inn n'.kids):exam c s inn n=exam c' s' inn n':=by
 rw[vD,vD,hop,hnm,hn,hp,ht,hpr,hcal,hns,hlen];by_cases a:(inn&&yw c n.op n.name)=true
 .rw [if_pos a,if_pos a]
 rw[if_neg a,if_neg a];by_cases b:n.op=1
 .rw [if_pos b,if_pos b];exact h1 b
 rw[if_neg b,if_neg b];by_cases d:n.op=47
 .rw [if_pos d,if_pos d]
  simp only[hA d]
 rw[if_neg d,if_neg d];by_cases e:n.op=15\/n.op=45\/n.op=46
 .rw [if_pos e,if_pos e];exact hB e _
 rw[if_neg e,if_neg e,hL b d e]
theorem p5{c c':Ck}{s s':Scp}{inn:Bool}(f:Nd->Nd):∀{ks:List Nd},(∀ k,k∈ks->exam c s inn k=exam c' s' inn (f k))->zo c s inn ks=zo c' s' inn (ks.map f)
 | [],_=>rfl
 |k :: ks,h=>by
  simp only[List.map_cons,zo];rw[h k (zZ ..),p5 f fun k' hk=>h k' (zK _ hk)]
theorem p6{c c':Ck}{s s':Scp}{pos:Int}(f:Nd->Nd):∀{ks:List Nd} {ps:List (ByteArray×Int)},(∀ k,k∈ks->exam c s true k=exam c' s' true (f k))->zP c s pos ps ks=zP c' s' pos ps (ks.map f)
 | [],ps,_=>by cases ps<;>rfl
 |k :: ks,[],_=>rfl
 |k :: ks,p :: ps,h=>by
  simp only[List.map_cons,zP];rw[h k (zZ ..),p6 f (ps:=ps) fun k' hk=>h k' (zK _ hk)]
theorem p7{c c':Ck}{s s':Scp}{inn:Bool}{ks:List Nd}(h:∀ k,k∈ks->exam c s inn k=exam c' s' inn k):zo c s inn ks=zo c' s' inn ks:=by
 have:=p5 (c:=c) (c':=c') (s:=s) (s':=s') (inn:=inn) id (ks:=ks) h
 rwa[List.map_id]at this
theorem qgS{c c':Ck}{s s':Scp}{pos:Int}{ks:List Nd}{ps:List (ByteArray×Int)}(h:∀ k,k∈ks->exam c s true k=exam c' s' true k):zP c s pos ps ks=zP c' s' pos ps ks:=by
 have:=p6 (c:=c) (c':=c') (s:=s) (s':=s') (pos:=pos) id (ks:=ks) (ps:=ps) h
 rwa[List.map_id]at this
def wf(ts:TS)(fa:List (ByteArray×Nd)):TS:=⟨ts.sorts,ts.fields,ts.preds,fa⟩
theorem qgT{α:Type}(eqv:α->α->Bool)(l:List α)(i:Nat):(repL eqv l)[i]?=(l[i]?).map fun x=>(l.take i).any fun y=>eqv x y:=by
 by_cases h:i<l.length
 .rw [pI eqv l h,qv h];rfl
 .rw [zQ (by rw[u9];omega),zQ (by omega)];rfl
theorem p8{α:Type}(eqv:α->α->Bool)(l:List α)(i:Nat):repB eqv l i=match l[i]? with|some x=>[(l.take i).any fun y=>eqv x y] | none=>[]:=by
 unfold repB;rw[List.take_add_one,qgT,List.drop_append];by_cases h:i<l.length
 .rw [qv h,List.length_take,u9,Nat.min_eq_left (by omega),List.drop_of_length_le (by simp;omega)]
  simp
 .rw [zQ (by omega),List.drop_of_length_le (by simp;omega)]
  simp
def binB(op:Int):Bool:=decide (op=15)||decide (op=45)||decide (op=46)
end PA
namespace YZ
open YM P1 Y1 Y9 YX
mutual
def depN:Nd->Int
 | .mk _ _ _ ks _=>yo ks+1
def yo:List Nd->Int
 | []=>0
 |k :: ks=>max (depN k) (yo ks)
end
mutual
theorem p9:∀ n:Nd,0<=depN n
 | .mk _ _ _ ks _=>by simp only[depN];have:=Vp ks;omega
theorem Vp:∀ ks:List Nd,0<=yo ks
 | []=>by simp[yo]
 |k :: ks=>by simp only[yo];have:=Vp ks;omega
end
theorem ZL(n:Nd):depN n=yo n.kids+1:=by
 obtain⟨op,nm,i,ks,p⟩:=n;simp[depN,Nd.kids]
theorem ge{ks:List Nd}{k:Nd}(h:k∈ks):depN k<=yo ks:=by
 induction ks with
 |nil=>simp at h
 |cons a l ih =>
  simp only[yo];rcases qB.1 h with rfl|h
  .omega
  .have:=ih h;omega
theorem qgU:∀(m:Nat) (n:Nd),szN n<=m->Small n->depN n<=1000000->qi qd 140 [eNd n] (aI (depN n))
 | 0,n,hm,_,_=>by obtain⟨op,nm,i,ks,p⟩:=n;simp[szN]at hm
 |m+1,n,hm,hs,hd=>by
  have ih:∀ k,k∈n.kids->qi qd 140 [eNd k] (aI (depN k)):=fun k hk =>
   qgU m k (by have:=yi hk;omega) (hs.kid hk) (by rw[ZL]at hd;have:=ge hk;omega)
  rw[ZL]at hd⊢;have hlen:=hs.len;have hnn:=Vp n.kids;generalize hD:yo n.kids=D at *
  refine qSQ call140 func140 rfl {} ?_;simp[go_sem];refine ql.upK n.kids.length (fun k st=>∃ d,st.tm 3=aI d/\st.tm 7=lNd n.kids/\st.tm 8=aI n.kids.length/\st.tm 9=aI k/\0<=d/\max d (yo (n.kids.drop k))=D) ?_ ?_
  .exact ⟨0,by simp[go_sem],by simp[go_sem],by simp[go_sem],by simp[go_sem],by omega,by simp only[List.drop_zero,hD];omega⟩
  .rintro k st hk ⟨d,e3,e7,e8,e9,hd0,hI⟩
   by_cases hkl:k=n.kids.length
   .subst hkl
    rw[zL]at hI;simp only[yo]at hI;have hdD:d=D:=by omega
    subst hdD;have w:qj.wrap (d+1)=d+1:=qg (by omega) (by omega);simp[go_sem,e3,e7,e8,e9,w];exact .hf _ (HF.sc _)
   .have hlt:k<n.kids.length:=by omega
    have w1:qj.wrap ((k:Int)+1)=(k:Int)+1:=qg (by omega) (by omega);rw[zj hlt]at hI;simp only[yo]at hI;simp[go_sem,e3,e7,e8,e9,hlt,qo];refine qb.pure (ih n.kids[k] (qu hlt)) (.cons (.hf (qI _)) .nil) ?_;simp[go_sem,e3,e7,e8,e9,w1];refine⟨hlt,Keep.mk' ?_⟩;refine⟨if d<depN n.kids[k] then depN n.kids[k] else d,by simp[go_sem],by simp[go_sem,e7],by simp[go_sem,e8],by simp[go_sem],?_,?_⟩
    .have:=p9 n.kids[k]
     split<;>omega
    .split<;>omega
mutual
def preN:Nd->List Nd
 | .mk op nm n ks p => .mk op nm n ks p :: y8 ks
def y8:List Nd->List Nd
 | []=>[]
 |k :: ks=>preN k++y8 ks
end
theorem gg(n:Nd):preN n=n :: y8 n.kids:=by
 obtain⟨op,nm,i,ks,p⟩:=n;simp[preN,Nd.kids]
theorem WQ(a b:List Nd):y8 (a++b)=y8 a++y8 b:=by
 induction a with
 |nil=>rfl
 |cons x a ih=>simp[y8,ih]
theorem gh{f:FuncId}{caps:List AV}(I:List Nd->Mu->Prop)(hp:∀ v mu l,I v mu->I v (mu++l))(hf:∀ v k mu,I v mu->qY qd f (eNd k :: caps) mu fun e m=>e = .ret (.tup [])/\I (v++[k]) m) :
  ∀(m:Nat) (n:Nd),szN n<=m->Small n->∀(v:List Nd) (mu:Mu),I v mu->qY qd 133 [eNd n,.fn (.func f) [] caps] mu fun e m=>e = .ret (.tup [])/\I (v++preN n) m
 | 0,n,hm,_,_,_,_=>by obtain⟨op,nm,i,ks,p⟩:=n;simp[szN]at hm
 |m+1,n,hm,hs,v,mu,hI=>by
  have ih:∀ k,k∈n.kids->∀ v mu,I v mu->qY qd 133 [eNd k,.fn (.func f) [] caps] mu fun e m=>e = .ret (.tup [])/\I (v++preN k) m:=fun k hk v mu hI =>
   gh I hp hf m k (by have:=yi hk;omega) (hs.kid hk) v mu hI
  have hlen:=hs.len;rw[gg];refine qSW call133 func133 rfl {} ?_;simp[go_sem];refine qb.eff (hf v n mu hI) ?_ (by rintro r m ⟨e,_⟩;cases e);rintro r m ⟨e,hI1⟩;cases e;simp[go_sem];refine ql.upK n.kids.length (fun k st=>st.tm 1 = .fn (.func f) [] caps/\st.tm 10=lNd n.kids/\st.tm 11=aI n.kids.length/\st.tm 12=aI k/\I (v++[n]++y8 (n.kids.take k)) st.mu) ?_ ?_
  .exact ⟨by simp[go_sem],by simp[go_sem],by simp[go_sem],by simp[go_sem],by simpa[go_sem,y8] using hI1⟩
  .rintro k st hk ⟨e1,e10,e11,e12,hI2⟩
   by_cases hkl:k=n.kids.length
   .subst hkl
    rw[zw]at hI2;simp[go_sem,e1,e10,e11,e12];simpa using hI2
   .have hlt:k<n.kids.length:=by omega
    have w1:qj.wrap ((k:Int)+1)=(k:Int)+1:=qg (by omega) (by omega);simp[go_sem,e1,e10,e11,e12,hlt,qo];refine qb.eff0 (ih n.kids[k] (qu hlt) _ _ (hp _ _ _ hI2)) ?_ (by rintro r m ⟨e,_⟩;cases e);rintro r m ⟨e,hI3⟩;cases e;simp[go_sem,e1,e10,e11,e12,w1];refine⟨hlt,Keep.mk' ?_⟩;refine⟨by simp[go_sem,e1],by simp[go_sem,e10],by simp[go_sem,e11],by simp[go_sem],?_⟩;have e:y8 (n.kids.take (k+1))=y8 (n.kids.take k)++preN n.kids[k]:=by
     rw[List.take_add_one,qv hlt,WQ];simp[y8]
    rw[e,<-List.append_assoc];simpa[go_sem] using hI3
abbrev eSet(es:List (ByteArray×Bool)):List (AV×AV):=encK aS aB es
theorem updS{mu:Mu}{b:Nat}{es:List (ByteArray×Bool)}(hm:mu[b]?=some (.mp (eSet es)))(nm:ByteArray) :
  vw qd mu 160 (.mp b) (aS nm) (aB true)=some (mu.set b (.mp (eSet (setK nm true es)))):=
 keyS.update (et:=4) (t:=160) (by simp[go_sem]) (mu:=mu) (b:=b) (venc:=aB) (es:=es) hm (k:=nm) (v:=true) trivial (fun _ _=>trivial)
theorem qgV(ts:TS)(s:ISt)(tb:Nat)(c:Bool)(es:List (ByteArray×Bool))(n:Nd){mu:Mu}{xp cb xb:Nat}(h1:mu[xp]?=some (.arr [.ptr xb 0]))(hx:mu[xb]?=some (.arr (cIn ts tb s)))(hc:mu[cb]?=some (.arr [aB c]))(ht:mu[tb]?=some (.mp (eSet es))) :
  qY qd 134 [eNd n,.ptr xp 0,.ptr cb 0] mu fun e m=>e = .ret (.tup [])/\m=(mu.set tb (.mp (eSet (setK n.name true es)))).set cb (.arr [aB (c||decide (n.op=47))]):=by
 refine qSW call134 func134 rfl {} ?_;have hcl:cb<mu.length:=(qk.1 hc).1;have htl:tb<mu.length:=(qk.1 ht).1;simp[go_sem,h1,hx,hc];refine qe.intro (by kernel_rfl) ?_;have hu:=updS ht n.name;simp[go_sem,h1,hx,hc];refine OptK.intro _ hu ?_;have hne:tb≠cb:=fun e=>by rw[e,hc]at ht;cases ht
 generalize hN:Cell.mp (eSet (setK n.name true es))=N at *
 have hcb:(mu.set tb N)[cb]?=some (.arr [aB c]):=by rw[qK hne];exact hc
 cases c
 .simp [go_sem,h1,hx,hcb]
  try rfl
 .simp [go_sem,h1,hx,hcb]
  try rfl
end YZ
namespace YA
open YS P1
def vN(k:Int):ByteArray:=⟨#[118]⟩++itoaB k
def freeN(ts:TS)(es:List (ByteArray×Bool))(nm:ByteArray):Bool:=decide (getK nm es≠some true)&&decide (jN ts nm=[])
def Vq(ts:TS)(es:List (ByteArray×Bool)):Nat->Int->Int
 | 0,k=>k+1
 |f+1,k=>if freeN ts es (vN (k+1))=true then k+1 else Vq ts es f (k+1)
end YA
namespace YB
open P1 YX YA
def WR(ts:TS)(es:List (ByteArray×Bool)):Nat:=es.length+ts.fields.length+3*ts.sorts.length+1
def renI(ts:TS)(es:List (ByteArray×Bool))(env:IEnv)(nm:ByteArray)(body:Bool)(s:ISt):(IEnv×ByteArray)×ISt:=
 if body=true\/jN ts nm≠[] then
  ((setK nm ⟨none,0,vN (Vq ts es (WR ts es) s.last)⟩ (delK nm env),vN (Vq ts es (WR ts es) s.last)),⟨Vq ts es (WR ts es) s.last,s.cost⟩)
 else ((delK nm env,nm),s)
structure But (xb:Nat) (mu m:Mu):Prop where
 len:mu.length<=m.length
 same:∀ i,i<mu.length->i≠xb->m[i]?=mu[i]?
end YB
namespace YC
open P1 Y1 YX YB PA
abbrev XR(α:Type):=Except Dg (α×ISt)
def gk(E:Nd->ISt->XR (Nd×Int)):List (ByteArray×Int)->List Nd->IEnv->ISt->XR IEnv
 |p :: ps,k :: ks,own,s=>match E k s with
  | .error e => .error e
  | .ok ((k',m),s')=>gk E ps ks (setK p.1 ⟨some k',m,⟨#[]⟩⟩ own) s'
 |_,_,own,s => .ok (own,s)
def gn(E:IEnv->Nd->ISt->XR (Nd×Int))(R:IEnv->ByteArray->ISt->(IEnv×ByteArray)×ISt)(bin:Bool):Nat->IEnv->ByteArray->List Nd->ISt->XR (ByteArray×List Nd×Int)
 |_,_,nm,[],s => .ok ((nm,[],0),s)
 |i,env,nm,k :: ks,s =>
  let r:=if bin=true/\i=1 then R env nm s else ((env,nm),s)
  match E r.1.1 k r.2 with
  | .error e => .error e
  | .ok ((k',m),s')=>match gn E R bin (i+1) r.1.1 r.1.2 ks s' with
   | .error e => .error e
   | .ok ((nm',ks',m'),s'') => .ok ((nm',k' :: ks',m+m'),s'')
def gp{α β:Type}(q:XR α)(g:α->ISt->XR β):XR β:=
 match q with
 | .error e => .error e
 | .ok (a,s)=>g a s
def expI(ts:TS)(es:List (ByteArray×Bool)):Nat->IEnv->Nd->Bool->ISt->XR (Nd×Int)
 | 0,_,_,_,_ => .error (2,0)
 |f+1,env,n,body,s =>
  if s.cost+1<=4000 then
   if n.op=1 then replI env n (payS 1 s)
   else if n.op=47 then match ts.preds.find? fun p=>decide (p.name=n.name) with
    |none => .error (2,0)
    |some p=>gp (gk (fun k s=>expI ts es f env k body s) p.params n.kids [] (payS 1 s)) fun own s'=>expI ts es f own p.body true s'
   else gp (gn (fun env k s=>expI ts es f env k body s) (fun env nm s=>renI ts es env nm body s) (binB n.op) 0 env n.name n.kids (payS 1 s)) fun r s' => .ok ((.mk n.op r.1 n.n r.2.1 n.pos,1+r.2.2),s')
  else .error (2,0)
end YC
namespace YD
open P1 Y1 YX YB YC
def endE(ts:TS)(tb:Nat)(mu:Mu)(xb:Nat)(r:XR (Nd×Int))(e:AEnd)(m:Mu):Prop:=
 match r with
 | .ok ((n,k),s)=>e = .ret (.tup [eNd n,aI k])/\m[xb]?=some (.arr (cIn ts tb s))/\But xb mu m
 | .error d=>e = .pan (jw d.1 d.2)/\But xb mu m
theorem qgW(l:List Nd):zh 5 (l.map cNd):=fun r hr=>by
 obtain⟨n,_,rfl⟩:=qs.1 hr;exact⟨Zt n,Zu n⟩
end YD
namespace YE
open P1 Y1 YZ YC
def outI(ts:TS)(es:List (ByteArray×Bool))(n:Nd):Except Dg Nd:=
 match expI ts es 4001 [] n false ⟨0,0⟩ with
 | .error d => .error d
 | .ok ((n',z),_)=>if z<=400/\depN n'<=24 then .ok n' else .error (2,n.pos)
end YE
namespace YG
open P1 Y1 Y9 YX YZ YE Q6
def putN(es:List (ByteArray×Bool))(l:List Nd):List (ByteArray×Bool):=l.foldl (fun es n=>setK n.name true es) es
def qgX(ts:TS)(n:Nd):List (ByteArray×Bool):=ts.preds.foldl (fun es p=>putN es (preN p.body)) (putN [] (preN n))
def ZM(ts:TS)(n:Nd):Nd×Int:=
 if (jO ts [] n).1≠0 then (nd0,(jO ts [] n).1)
 else if anyN (fun n=>decide (n.op=47)) n=false then (n,0)
 else match outI ts (qgX ts n) n with
  | .error d=>(nd0,d.1)
  | .ok n'=>(n',0)
theorem gq(p:Nd->Bool):∀(m:Nat) (n:Nd),szN n<=m->anyN p n=(preN n).any p
 | 0,n,hm=>by obtain⟨op,nm,i,ks,q⟩:=n;simp[szN]at hm
 |m+1,n,hm=>by
  rw[qgL,gg,List.any_cons];congr 1;have:∀ l:List Nd,(∀ k,k∈l->k∈n.kids)->YK p l=(y8 l).any p:=by
   intro l;induction l with
   |nil=>intro _;rfl
   |cons k l ih =>
    intro hl;simp only[YK,y8,List.any_append];rw[ih fun x hx=>hl x (zK _ hx),gq p m k (by have:=yi (hl k (zZ ..));omega)]
  exact this n.kids fun k hk=>hk
end YG
namespace YH
open P1 Y1 Y6 YX YZ
structure InM (ts:TS) (es:List (ByteArray×Bool)) (b:Bool) (mu:Mu):Prop where
 r:mu[0]?=some (.arr [aI 0,aS ⟨#[]⟩,aI 0,.lst true [],aI 0])
 t:mu[2]?=some (.mp (eSet es))
 x:mu[3]?=some (.arr (cIn ts 2 ⟨0,0⟩))
 p:mu[4]?=some (.arr [.ptr 3 0])
 c:mu[5]?=some (.arr [aB b])
theorem InM.len{ts:TS}{es:List (ByteArray×Bool)}{b:Bool}{mu:Mu}(h:InM ts es b mu):5<mu.length:=(qk.1 h.c).1
theorem InM.push{ts:TS}{es:List (ByteArray×Bool)}{b:Bool}{mu:Mu}(h:InM ts es b mu)(l:Mu):InM ts es b (mu++l):=by
 have hl:=h.len;exact⟨by rw[qp (by omega)];exact h.r,by rw[qp (by omega)];exact h.t,by rw[qp (by omega)];exact h.x,by rw[qp (by omega)];exact h.p,by rw[qp (by omega)];exact h.c⟩
theorem InM.setT{ts:TS}{es es':List (ByteArray×Bool)}{b:Bool}{mu:Mu}(h:InM ts es b mu):InM ts es' b (mu.set 2 (.mp (eSet es'))):=by
 have hl:=h.len;exact⟨by rw[qK (by omega)];exact h.r,zb (by omega),by rw[qK (by omega)];exact h.x,by rw[qK (by omega)];exact h.p,by rw[qK (by omega)];exact h.c⟩
theorem InM.setC{ts:TS}{es:List (ByteArray×Bool)}{b b':Bool}{mu:Mu}(h:InM ts es b mu):InM ts es b' (mu.set 5 (.arr [aB b'])):=by
 have hl:=h.len;exact⟨by rw[qK (by omega)];exact h.r,by rw[qK (by omega)];exact h.t,by rw[qK (by omega)];exact h.x,by rw[qK (by omega)];exact h.p,zb (by omega)⟩
theorem qgY(mu:Mu):Rd mu eN0 (eNd nd0) := .agg _ _ rfl fun k x y hx hy=>by
 match k with
 | 0=>simp[nd0,cNd]at hx hy;subst hx;subst hy;exact .hf _ (HF.sc _)
 | 1=>simp[nd0,cNd]at hx hy;subst hx;subst hy;exact .hf _ (HF.sc _)
 | 2=>simp[nd0,cNd]at hx hy;subst hx;subst hy;exact .hf _ (HF.sc _)
 | 3=>simp[nd0,cNd,cNds]at hx hy;subst hx;subst hy;exact .wk _ true [] (.hf _ (HF.lst fun r hr=>absurd hr zr))
 | 4=>simp[nd0,cNd]at hx hy;subst hx;subst hy;exact .hf _ (HF.sc _)
 |k+5=>simp at hx
theorem qgZ(mu:Mu)(d:Int):Rd mu (.tup [eN0,aI d]) (.tup [eNd nd0,aI d]) := .tup _ _ rfl fun k x y hx hy=>by
 match k with
 | 0=>simp at hx hy;subst hx;subst hy;exact qgY _
 | 1=>simp at hx hy;subst hx;subst hy;exact .hf _ (HF.sc _)
 |k+2=>simp at hx
end YH
end Go.Proofs.YtkglmpmlfjogkaaGreatDoor
namespace Go.EvW
open Go Go.Ev Go.RowKit Go.ChangeShapes Go.WideShapes
def CR(w:World)(xs:List AV)(cs:List Value):Prop:=
 cs.length=xs.length/\∀(k:Nat) x,xs[k]?=some x->VRel ⟨(·<w.heap.size),[]⟩ w.heap x (cs.getD k undef)
theorem CR.nil(w:World):CR w [] []:=⟨rfl,by simp⟩
theorem CR.one{w:World}{x:AV}{v:Value}(h:VRel ⟨(·<w.heap.size),[]⟩ w.heap x v):CR w [x] [v]:=⟨rfl,fun k y hk=>by
 cases k with
 |zero=>simp at hk;subst hk;simpa using h
 |succ k=>simp at hk⟩
theorem CR.app{w:World}{xs ys:List AV}{cs ds:List Value}(h:CR w xs cs)(k:CR w ys ds):CR w (xs++ys) (cs++ds):=by
 refine⟨by simp[h.1,k.1],fun i x hi=>?_⟩;by_cases hl:i<xs.length
 .rw [qp hl]at hi
  have:=h.2 i x hi;rw[zz]at this⊢;rw[qp (by rw[h.1];exact hl)];exact this
 .rw [qV (by omega)]at hi
  have:=k.2 _ x hi;rw[zz]at this⊢;rw[qV (by rw[h.1];omega),h.1];exact this
def jg{H:Type}(P:Program)(t:TypeId)(d:DataW H):Prop:=(d.weights P t).all (·<=reachBytes)=true
theorem jg.all{H:Type}{P:Program}{e:TypeId}:∀{ds:List (DataW H)},(DataW.weightsAll P e ds).all (·<=reachBytes)=true->∀(i:Nat) d,ds[i]?=some d->jg P e d
 | [],_,i,d,hi=>by simp at hi
 |x :: r,h,i,d,hi=>by
  simp only[DataW.weightsAll,List.all_append,qx]at h;cases i with
  |zero=>simp at hi;subst hi;exact h.1
  |succ i=>exact jg.all h.2 i d (by simpa using hi)
theorem jg.each{H:Type}{P:Program}:∀{ts:List TypeId} {ds:List (DataW H)},(DataW.weightsEach P ts ds).all (·<=reachBytes)=true->∀(i:Nat) t d,ts[i]?=some t->ds[i]?=some d->jg P t d
 | [],ds,_,i,t,d,hi,_=>by simp at hi
 |t0 :: ts,[],_,i,t,d,_,hj=>by simp at hj
 |t0 :: ts,x :: r,h,i,t,d,hi,hj=>by
  simp only[DataW.weightsEach,List.all_append,qx]at h;cases i with
  |zero=>simp at hi hj;subst hi;subst hj;exact h.1
  |succ i=>exact jg.each h.2 i t d (by simpa using hi) (by simpa using hj)
def ShT(P:Program)(n:Nat)(t:TypeId){α:Type}(c:α->List AV)(ok:α->Prop):Prop:=
 ∀(H:Type) (enc:TypeId×Value->H) (w:World) (cs:List Value) (x:DataW H×List MemPlace),
  DataW.trod enc P w 0 (fun _=>true) true n t cs=some x->jg P t x.1->∃ a,ok a/\CR w (c a) cs
def ShU(P:Program)(N:Nat)(t:TypeId){α:Type}(c:α->List AV)(ok:α->Prop):Prop:=∀ n,n<N->ShT P n t c ok
theorem ShU.le{P:Program}{N M:Nat}{t:TypeId}{α:Type}{c:α->List AV}{ok:α->Prop}(h:ShU P N t c ok)(hm:M<=N):ShU P M t c ok:=fun n hn=>h n (by omega)
theorem ShU.map{P:Program}{N:Nat}{t:TypeId}{α β:Type}{c:α->List AV}{ok:α->Prop}{c':β->List AV}{ok':β->Prop}(h:ShU P N t c ok)(f:α->β)(hc:∀ a,c' (f a)=c a)(ho:∀ a,ok a->ok' (f a)):ShU P N t c' ok':=by
 intro n hn H enc w cs x hx hw;obtain⟨a,h1,h2⟩:=h n hn H enc w cs x hx hw;exact⟨f a,ho a h1,by rw[hc];exact h2⟩
theorem ShU.int{P:Program}{t:TypeId}{k:IntKind}(ht:P.underlying t=some (.int k))(N:Nat):ShU P N t (fun n:Int=>[.sc (.int k n)]) (fun n=>(Lit.int k n).wf=true):=by
 intro n hn H enc w cs x h _;obtain⟨i,rfl,_,hw⟩:=DataW.trod_int ht h;exact⟨i,hw,.one (.sc _ rfl)⟩
theorem ShU.bool{P:Program}{t:TypeId}(ht:P.underlying t=some .bool)(N:Nat):ShU P N t (fun b:Bool=>[.sc (.bool b)]) (fun _=>True):=by
 intro n hn H enc w cs x h _;obtain⟨i,rfl,_⟩:=DataW.trod_bool ht h;exact⟨i,trivial,.one (.sc _ rfl)⟩
theorem ShU.string{P:Program}{t:TypeId}(ht:P.underlying t=some .string)(N:Nat):ShU P N t (fun s:ByteArray=>[.sc (.string s)]) (fun s=>s.size<=140737488351232):=by
 intro n hn H enc w cs x h hw;obtain⟨i,rfl,rfl,hs⟩:=DataW.trod_string ht h;refine⟨i,?_,.one (.sc _ rfl)⟩;unfold jg at hw;simp only[DataW.weights,List.all_cons,List.all_nil,Bool.and_true,decide_eq_true_eq]at hw;have e:i.data.toList.length=i.size:=Array.length_toList;have h1:i.size<=reachBytes:=by rw[<-e];exact hw
 exact q7 h1 (jo rfl)
theorem gw{w:World}{a:Addr}{n:Nat}{cs:List Value}(h:w.cells? 0 a n=some cs):cs.length=n/\∀ i,i<n->w.cell? (a.add i)=some (cs.getD i undef):=by
 unfold World.cells? at h;rw[if_pos (Za _)]at h;have hl:=mapM_some_length h;refine⟨by simpa using hl,fun i hi=>?_⟩;have:=mapM_some_get h i i (by simp[hi]);have hi':i<cs.length:=by simp at hl;omega
 rw[this,zz,qv hi'];rfl
theorem gx{w:World}{a:Addr}{v:Value}(h:w.cell? a=some v):∃ arr e fr,w.heap[a.block]?=some (.cells arr e fr)/\a.spot=none/\arr[a.off]?=some v:=by
 unfold World.cell? at h;split at h
 .rename_i c e fr hb
  split at h
  .cases h
  .rename_i hs
   exact⟨c,e,fr,hb,by simpa using hs,h⟩
 .cases h
theorem qg0{α:Type} [Inhabited α] {p:Nat->α->Prop} (n:Nat) (h:∀ i,i<n->∃ a,p i a):∃ l:List α,l.length=n/\∀(i:Nat) a,l[i]?=some a->p i a:=by
 induction n with
 |zero=>exact⟨[],rfl,by simp⟩
 |succ n ih =>
  obtain⟨l,h1,h2⟩:=ih (fun i hi=>h i (by omega));obtain⟨a,ha⟩:=h n (by omega);refine⟨l++[a],by simp[h1],fun i b hb=>?_⟩;by_cases hi:i<l.length
  .rw [qp hi]at hb;exact h2 i b hb
  .rw [qV (by omega)]at hb
   have:i-l.length=0:=by
    cases hq:i-l.length with
    |zero=>rfl
    |succ q=>rw[hq]at hb;simp at hb
   rw[this]at hb;simp at hb;subst hb;have:i=n:=by omega
   subst this;exact ha
theorem ShU.slice{P:Program}{N:Nat}{t e:TypeId}{α:Type} [Inhabited α] {c:α->List AV} {ok:α->Prop} (ht:P.underlying t=some (.slice e)) (he:ShU P N e c ok) (hsz:∀ a,ok a->(c a).length=P.cellsOf e) (hpos:0<P.cellsOf e) (hby:Nat.blt 0 (P.bytesOf e)=true) :
  ShU P (N+1) t (fun l:List α=>[.lst false (l.map c)]) (fun l=>l.length<=140737488351232/\∀ a,a∈l->ok a):=by
 intro n hn H enc w cs x h hw;rcases DataW.trod_slice ht h with ⟨rfl,_⟩|⟨a,len,cap,elems,rest,m,rfl,rfl,rfl,_,hl,hc,hel,hget,_,_⟩
 .exact ⟨[],⟨by simp,by simp⟩,.one (.nil _)⟩
 .have hwl:(DataW.weightsAll P e (elems.map (·.1))).all (·<=reachBytes)=true:=by
   unfold jg at hw;simp only[DataW.weights,ht,List.all_cons,List.all_append,qx]at hw;exact hw.2.1
  have hlr:len<=140737488351232:=by
   unfold jg at hw;simp only[DataW.weights,ht,List.all_cons,List.all_append,qx,decide_eq_true_eq]at hw;have h1:=hw.1;have hb1:1<=P.bytesOf e:=jo hby;have h2:((elems.map (·.1)).length+(rest.map (·.1)).length)*1<=((elems.map (·.1)).length+(rest.map (·.1)).length)*P.bytesOf e:=Nat.mul_le_mul_left _ hb1;simp only[yM]at h1 h2;have h3:reachBytes<=140737488351232:=jo rfl;have h4:=q7 h2 (q7 h1 h3);omega
  have key:∀ i,i<len->∃ b,ok b/\∃ cs',w.cells? 0 (a.add (i*P.cellsOf e)) (P.cellsOf e)=some cs'/\CR w (c b) cs':=by
   intro i hi;have h1:=hget i hi;have hie:i<elems.length:=by omega
   rw[qv hie]at h1;obtain⟨cs',h2,h3⟩:=Option.bind_eq_some_iff.1 h1;obtain⟨b,h4,h5⟩:=he m (by omega) H enc w cs' _ h3 (jg.all hwl i _ (by rw[zk,qv hie];rfl));exact⟨b,h4,cs',h2,h5⟩
  obtain⟨l,hll,hlp⟩:=qg0 len key;refine⟨l,⟨by rw[hll];exact hlr,fun b hb=>?_⟩,.one ?_⟩
  .obtain ⟨i,hi⟩:=List.mem_iff_getElem?.1 hb
   exact(hlp i b hi).1
  .have hlm:(l.map c).length=len:=by simp[hll]
   rw[<-hlm];cases Nat.eq_zero_or_pos len with
   |inl h0 =>
    have:l=[]:=vK (by omega);subst this;exact .emp _ a cap (by simp)
   |inr hp =>
    have hl0:0<l.length:=by omega
    obtain⟨_,cs0,h1,_⟩:=hlp 0 l[0] (qv hl0);obtain⟨hcl,hcg⟩:=gw h1;have hc0:=hcg 0 hpos;obtain⟨arr,el,fr,hb,hs,_⟩:=gx hc0;have hadd:∀ k:Nat,a.spot=none->(a.add k).spot=none/\(a.add k).off=a.off+k:=by
     intro k hk;unfold Addr.add;split<;>simp_all
    have hab:∀(b:Addr) (j:Nat),(b.add j).block=b.block:=by
     intro b j;unfold Addr.add;split<;>rfl
    have e0:((a.add (0*P.cellsOf e)).add 0).block=a.block/\((a.add (0*P.cellsOf e)).add 0).spot=a.spot:=by
     unfold Addr.add;split<;>simp_all
    rw[e0.1]at hb;rw[e0.2]at hs;have hz:jl (P.cellsOf e) (l.map c):=fun r hr=>by
     obtain⟨b,hbm,rfl⟩:=qs.1 hr;obtain⟨i,hi⟩:=List.mem_iff_getElem?.1 hbm;exact hsz b (hlp i b hi).1
    have hfl:=jk hz;refine .lst false (l.map c) (P.cellsOf e) a cap arr el fr (fun k=>arr.getD (a.off+k) undef) hb hs (by omega) (by simp) (Array.getElem?_eq_some_iff.1 hb).1 hz ?_ ?_
    all_goals
     intro k x hk;have hkl:k<(l.map c).length*P.cellsOf e:=by rw[<-hfl];exact(qk.1 hk).1
     have hq:k / P.cellsOf e<l.length:=by
      rw[yM]at hkl;exact Nat.div_lt_of_lt_mul (by rw[Nat.mul_comm];exact hkl)
     have hr:k % P.cellsOf e<P.cellsOf e:=Nat.mod_lt _ hpos;have hdm:k / P.cellsOf e*P.cellsOf e+k % P.cellsOf e=k:=by
      have:=Nat.div_add_mod k (P.cellsOf e);rw[Nat.mul_comm]at this;exact this
     obtain⟨_,cs',h1,h2⟩:=hlp (k / P.cellsOf e) _ (qv hq);obtain⟨hcl,hcg⟩:=gw h1;have hc1:=hcg _ hr;have hrow:(l.map c)[k / P.cellsOf e]?=some (c l[k / P.cellsOf e]):=by rw[zk,qv hq];rfl
     have hx:(c l[k / P.cellsOf e])[k % P.cellsOf e]?=some x:=by
      have hlt:k % P.cellsOf e<(c l[k / P.cellsOf e]).length:=by rw[hsz _ (hlp _ _ (qv hq)).1];exact hr
      have:=VI hz hrow (qv hlt);rw[hdm]at this;rw[this]at hk;rw[qv hlt];exact hk
     obtain⟨arr',el',fr',hb',hs',hv'⟩:=gx hc1;have e1:((a.add (k / P.cellsOf e*P.cellsOf e)).add (k % P.cellsOf e)).block=a.block:=by rw[hab,hab]
     have e2:((a.add (k / P.cellsOf e*P.cellsOf e)).add (k % P.cellsOf e)).off=a.off+k:=by
      have a1:=(hadd (k / P.cellsOf e*P.cellsOf e) hs).2;have a2:=(hadd (k / P.cellsOf e*P.cellsOf e) hs).1;have:∀(b:Addr) (j:Nat),b.spot=none->(b.add j).off=b.off+j:=by
       intro b j hb;unfold Addr.add;split<;>simp_all
      rw[this _ _ a2,a1];omega
     rw[e1,hb]at hb';cases hb';rw[e2]at hv';have hgd:arr.getD (a.off+k) undef=cs'.getD (k % P.cellsOf e) undef:=by
      rw[qD,hv'];rfl
    .rw [hgd];exact hv'
    .show VRel _ _ x (arr.getD (a.off+k) undef)
     rw[hgd];exact h2.2 _ x hx
def Vs(P:Program)(t:TypeId):Option (List (TypeId×Nat)):=match P.underlying t with|some (.struct fs)=>some (fs.toList.map fun f=>(f.type,f.offset))|_=>none
inductive ShF (P:Program) (N:Nat):Nat->List (TypeId×Nat)->{α:Type}->(α->List AV)->(α->Prop)->Prop where
 |nil (o:Nat):ShF P N o [] (fun _:Unit=>[]) (fun _=>True)
 |cons {o:Nat} {t:TypeId} {fs:List (TypeId×Nat)} {α β:Type} {c:α->List AV} {ok:α->Prop} {c':β->List AV} {ok':β->Prop} (h:ShU P N t c ok) (k:ShF P N (o+P.cellsOf t) fs c' ok') :
   ShF P N o ((t,o) :: fs) (fun x:α×β=>c x.1++c' x.2) (fun x=>ok x.1/\ok' x.2)
def YL(P:Program)(fs:List (TypeId×Nat)):Nat:=(fs.map fun f=>P.cellsOf f.1).foldr (·+·) 0
theorem ShF.read{P:Program}{N n o:Nat}{fs:List (TypeId×Nat)}{α:Type}{c:α->List AV}{ok:α->Prop}(h:ShF P N o fs c ok)(hn:n<N){H:Type}{enc:TypeId×Value->H}{w:World}(cs:List Value)
  (hlen:cs.length=o+YL P fs) (hx:∀(i:Nat) f,fs[i]?=some f->∃ x,DataW.trod enc P w 0 (fun _=>true) true n f.1 ((cs.drop f.2).take (P.cellsOf f.1))=some x/\jg P f.1 x.1) :
  ∃ a,ok a/\CR w (c a) (cs.drop o):=by
 induction h with
 |nil o =>
  refine⟨(),trivial,?_⟩;rw[List.drop_of_length_le (by simp[YL]at hlen;omega)];exact .nil w
 | @cons o t fs α β c ok c' ok' h k ih =>
  obtain⟨x,hx0,hxw⟩:=hx 0 _ rfl;obtain⟨a,ha,hr⟩:=h n hn H enc w _ x hx0 hxw;have hfs:YL P ((t,o) :: fs)=P.cellsOf t+YL P fs:=rfl;obtain⟨b,hb,hs⟩:=ih (by omega) (fun i g hg=>hx (i+1) g hg);refine⟨(a,b),⟨ha,hb⟩,?_⟩;have e:cs.drop o=(cs.drop o).take (P.cellsOf t)++cs.drop (o+P.cellsOf t):=by
   rw[<-List.drop_drop,ud]
  rw[e];exact hr.app hs
theorem ShU.struct{P:Program}{N:Nat}{t:TypeId}{fs:List (TypeId×Nat)}{α:Type}{c:α->List AV}{ok:α->Prop}(ht:Vs P t=some fs)(hf:ShF P N 0 fs c ok)(hsz:P.cellsOf t=YL P fs):ShU P (N+1) t c ok:=by
 intro n hn H enc w cs x h hw;unfold Vs at ht;split at ht
 .rename_i gs hu
  simp only[qn]at ht;subst ht;obtain⟨xs,m,rfl,rfl,hl,hxl,hg⟩:=DataW.trod_struct hu h;have hwl:(DataW.weightsEach P (gs.toList.map (·.type)) (xs.map (·.1))).all (·<=reachBytes)=true:=by
   unfold jg at hw;simp only[DataW.weights,hu]at hw;exact hw
  obtain⟨a,ha,hr⟩:=hf.read (n:=m) (by omega) (w:=w) (enc:=enc) cs (by rw[hl,hsz];simp) (fun i f hi=>by
   simp only[zk,Option.map_eq_some_iff]at hi;obtain⟨g,hgi,rfl⟩:=hi;have h1:=hg i g (by simpa using hgi);have hil:i<xs.length:=by
    rw[hxl];have:=(qk.1 hgi).1;simpa using this
   rw[qv hil]at h1;exact⟨_,h1,jg.each hwl i _ _ (by rw[zk,hgi];rfl) (by rw[zk,qv hil];rfl)⟩)
  exact⟨a,ha,by simpa using hr⟩
 .cases ht
theorem ShU.arg1{P:Program}{t:TypeId}{α:Type}{c:α->AV}{ok:α->Prop}(h:∀ N,ShU P N t (fun a=>[c a]) ok)(hone:∀(w:World) (r:Reach) (b:Nat) (v:Value),Value.okWide P w r b t v->v.cells=#[v])
  {H:Type} {enc:TypeId×Value->H} {w:World} {r:Reach} {b:Nat} {v:Value} {d:DataW H} {ps:List MemPlace} (hok:Value.okWide P w r b t v) (hd:DataW.Trod enc P w 0 (fun _=>true) true t v d ps) (hw:jg P t d) :
  ∃ a,ok a/\VRel ⟨(·<w.heap.size),[]⟩ w.heap (c a) v:=by
 obtain⟨n,hn⟩:=hd;obtain⟨a,ha,hr⟩:=h (n+1) n (by omega) H enc w _ _ hn hw;rw[hone w r b v hok]at hr;have:=hr.2 0 (c a) rfl;exact⟨a,ha,by simpa using this⟩
theorem ShU.argS{P:Program}{t:TypeId}{α:Type}{c:α->List AV}{ok:α->Prop}{fs:Array Field}(h:∀ N,ShU P N t c ok)(ht:P.underlying t=some (.struct fs))
  {H:Type} {enc:TypeId×Value->H} {w:World} {r:Reach} {b:Nat} {v:Value} {d:DataW H} {ps:List MemPlace} (hok:Value.okWide P w r b t v) (hd:DataW.Trod enc P w 0 (fun _=>true) true t v d ps) (hw:jg P t d) :
  ∃ a,ok a/\VRel ⟨(·<w.heap.size),[]⟩ w.heap (.agg (c a)) v:=by
 obtain⟨n,hn⟩:=hd;obtain⟨a,ha,hr⟩:=h (n+1) n (by omega) H enc w _ _ hn hw;unfold Value.okWide at hok;rw[ht]at hok;obtain⟨cs,rfl,_,_⟩:=hok;refine⟨a,ha,.agg _ _ (by simpa[Value.cells] using hr.1) (fun k x hk=>?_)⟩;have:=hr.2 k x hk;simpa[Value.cells,qD,zz] using this
theorem qg1{P:Program}{t:TypeId}{k:IntKind}(ht:P.underlying t=some (.int k))(w:World)(r:Reach)(b:Nat)(v:Value)(h:Value.okWide P w r b t v):v.cells=#[v]:=by
 unfold Value.okWide at h;rw[ht]at h;simp only[Cell.okWide,ht]at h;cases v<;>simp_all[Value.cells,Cell.ok]
theorem qg2{P:Program}{t:TypeId}(ht:P.underlying t=some .string)(w:World)(r:Reach)(b:Nat)(v:Value)(h:Value.okWide P w r b t v):v.cells=#[v]:=by
 unfold Value.okWide at h;rw[ht]at h;simp only[Cell.okWide,ht]at h;cases v<;>simp_all[Value.cells,Cell.ok]
theorem qg3{P:Program}{t e:TypeId}(ht:P.underlying t=some (.slice e))(w:World)(r:Reach)(b:Nat)(v:Value)(h:Value.okWide P w r b t v):v.cells=#[v]:=by
 unfold Value.okWide at h;rw[ht]at h;simp only[Cell.okWide,ht]at h;cases v<;>simp_all[Value.cells,Cell.ok]
end Go.EvW
namespace Go.EvW
open Go Go.Ev Go.RowKit Go.ChangeShapes Go.WideShapes
def yz(P:Program)(t:TypeId){α:Type}(c:α->AV)(ok:α->Prop):Prop:=
 ∀(H:Type) (enc:TypeId×Value->H) (w:World) (r:Reach) (b:Nat) (v:Value) (d:DataW H) (ps:List MemPlace),Value.okWide P w r b t v->DataW.Trod enc P w 0 (fun _=>true) true t v d ps->jg P t d ->
  ∃ a,ok a/\VRel ⟨(·<w.heap.size),[]⟩ w.heap (c a) v
theorem yz.struct{P:Program}{t:TypeId}{α:Type}{c:α->List AV}{ok:α->Prop}(ht:(Vs P t).isSome=true)(h:∀ N,ShU P N t c ok):yz P t (fun a => .agg (c a)) ok:=by
 intro H enc w r b v d ps h1 h2 h3;unfold Vs at ht;split at ht
 .rename_i fs hu;exact ShU.argS h hu h1 h2 h3
 .simp at ht
theorem yz.slice{P:Program}{t e:TypeId}{α:Type}{c:α->AV}{ok:α->Prop}(ht:P.underlying t=some (.slice e))(h:∀ N,ShU P N t (fun a=>[c a]) ok):yz P t c ok:=
 fun H enc w r b v d ps h1 h2 h3=>ShU.arg1 h (qg3 ht) h1 h2 h3
theorem yz.int{P:Program}{t:TypeId}{k:IntKind}{α:Type}{c:α->AV}{ok:α->Prop}(ht:P.underlying t=some (.int k))(h:∀ N,ShU P N t (fun a=>[c a]) ok):yz P t c ok:=
 fun H enc w r b v d ps h1 h2 h3=>ShU.arg1 h (qg1 ht) h1 h2 h3
theorem yz.string{P:Program}{t:TypeId}{α:Type}{c:α->AV}{ok:α->Prop}(ht:P.underlying t=some .string)(h:∀ N,ShU P N t (fun a=>[c a]) ok):yz P t c ok:=
 fun H enc w r b v d ps h1 h2 h3=>ShU.arg1 h (qg2 ht) h1 h2 h3
inductive ArgF (P:Program):List TypeId->{α:Type}->(α->List AV)->(α->Prop)->Prop where
 |nil:ArgF P [] (fun _:Unit=>[]) (fun _=>True)
 |cons {t:TypeId} {ts:List TypeId} {α β:Type} {c:α->AV} {ok:α->Prop} {c':β->List AV} {ok':β->Prop} (h:yz P t c ok) (k:ArgF P ts c' ok'):ArgF P (t :: ts) (fun x:α×β=>c x.1 :: c' x.2) (fun x=>ok x.1/\ok' x.2)
theorem ArgF.read{P:Program}{ts:List TypeId}{α:Type}{c:α->List AV}{ok:α->Prop}(h:ArgF P ts c ok){H:Type}{enc:TypeId×Value->H}{w:World}{r:Reach}{b:Nat} :
  ∀{vs:List Value} {ds:List (DataW H)} {ps:List MemPlace},DataW.TrodAll enc P w 0 (fun _=>true) true ts vs ds ps->(∀(j:Nat) t v,ts[j]?=some t->vs[j]?=some v->Value.okWide P w r b t v)->(DataW.weightsEach P ts ds).all (·<=reachBytes)=true ->
  ∃ a,ok a/\ds.length=ts.length/\vs.length=(c a).length/\∀(k:Nat) x,(c a)[k]?=some x->VRel ⟨(·<w.heap.size),[]⟩ w.heap x (vs.getD k undef):=by
 induction h with
 |nil =>
  intro vs ds ps ht _ _;obtain⟨rfl,rfl,rfl⟩:=trodAll_nil ht;exact⟨(),trivial,rfl,rfl,by simp⟩
 | @cons t ts α β c ok c' ok' h k ih =>
  intro vs ds ps ht hk hw;obtain⟨v,vs',d,ds',p,q,rfl,rfl,rfl,h1,h2⟩:=trodAll_cons ht;simp only[DataW.weightsEach,List.all_append,qx]at hw;obtain⟨a,ha,hr⟩:=h H enc w r b v d p (hk 0 t v rfl rfl) h1 hw.1;obtain⟨a',ha',hdl,hl,hg⟩:=ih h2 (fun j t v=>hk (j+1) t v) hw.2;refine⟨(a,a'),⟨ha,ha'⟩,by simp[hdl],by simp[hl],fun k x hx=>?_⟩;cases k with
  |zero=>simp at hx;subst hx;simpa using hr
  |succ k =>
   simp only[jF]at hx;simpa[zz] using hg k x hx
theorem gy{P:Program}(hl:laidOutB P=true){H:Type}{enc:TypeId×Value->H}{W W':World}{sp:Nat->Bool}:∀{ts:List TypeId} {vs:List Value} {ds:List (DataW H)} {ps:List MemPlace},
  (∀ t,t∈ts->P.readableRec t=true/\t<P.types.size)->DataW.TrodAll enc P W 0 (fun _=>true) true ts vs ds ps->(∀ p∈ps,W.sameAt W' p)->(∀ p∈ps,sp p.block=true)->DataW.TrodAll enc P W' 0 sp true ts vs ds ps
 | [],vs,ds,ps,_,h,_,_=>by
  obtain⟨rfl,rfl,rfl⟩:=trodAll_nil h;exact trodAll_mk0
 |t :: ts,vs,ds,ps,hr,h,h1,h2=>by
  obtain⟨v,vs',d,ds',p,q,rfl,rfl,rfl,g1,g2⟩:=trodAll_cons h;have ht:=hr t (by simp);exact trodAll_cons_mk (WideElems.Trod_stays hl ht.1 ht.2 g1 (fun x hx=>h1 x (by simp[hx])) (fun x hx=>h2 x (by simp[hx])))
   (gy hl (fun t ht=>hr t (by simp[ht])) g2 (fun x hx=>h1 x (by simp[hx])) (fun x hx=>h2 x (by simp[hx])))
theorem gz{P:Program}{f:FuncId}{fn:Func}{s:ChangeSpec}{ts:List TypeId}{tb:TypeId}{α:Type}{c:α->List AV}{ok:α->Prop}(hp:fn.params=ts.toArray)(hF:ArgF P ts c ok)(hv:s.vars=[])
  (hfn:∀(H:Type) (ds:List (DataW H)),ds.length=ts.length->s.fn H ds={ results:=[.lit (.bool true)],args:=ds }) (hr:fn.resultTypes=#[tb]) (htb:P.underlying tb=some .bool)
  (hl:laidOutB P=true) (hrr:(ts.all fun t=>P.readableRec t&&decide (t<P.types.size))=true) (hS:∀ a,ok a->qi P f (c a) (aB true))
  (H:Type) (enc:TypeId×Value->H) (W:World) (base:Nat) (args:Array Value) (ds gs:List (DataW H)) (before:List MemPlace)
  (hval:∀(j:Nat) t v,fn.params[j]?=some t->args[j]?=some v->Value.okWide P W .any base t v) (hW:DataW.Whole enc P fn.params.toList s.vars false W args.toList ds gs before) (hwt:(DataW.weightsEach P fn.params.toList ds).all (·<=reachBytes)=true) (hT:wU (·<W.heap.size) W.heap) :
  Calls P f args W fun e W'=>∃ v,e = .returned v/\s.post enc P fn false true false false W args v W':=by
 have hW':=hW;obtain⟨p,q,hA,hV,hpq,hfz,_⟩:=hW;rw[hv]at hV;obtain⟨hg,hq⟩:=trodVars_none hV;subst hg;subst hq;rw[zx]at hpq;subst hpq;rw[hp]at hA hval;obtain⟨a,ha,hdl,hvl,hvg⟩:=hF.read (r := .any) (b:=base) hA (fun j t v h1 h2=>hval j t v (by simpa using h1) (by simpa using h2)) (by rw[hp]at hwt;exact hwt);have hlt:∀ x,x∈before->x.block<W.heap.size:=fun x hx=>hA.lt x hx
 obtain⟨_,hcall⟩:=hS a ha;refine(hcall (·<W.heap.size) W args (Sim.empty (fun _ h=>h) hT) ⟨by simpa using hvl,fun k x hk=>?_⟩).mono fun e W' ⟨imm',v,he,_,_,hb,hrv⟩=>?_
 .have:=hvg k x hk
  simpa[qD,zz] using this
 .have hvb:v = .bool true:=by cases hrv;rfl
  subst hvb;refine⟨_,he,ds,[],before,[],before,[],hW',?_,?_,?_,World.keptBut_mono (fun x hx=>⟨hx,.inr (.inl hx)⟩) (hb.frame (·∈before)),fun h=>by cases h⟩
  all_goals try rw[zx]
  all_goals try rw[hfn H ds hdl]
  .rw [hr]
   exact trodAll_cons_mk (p':=[]) (shut_bool htb true) trodAll_mk0
  .rw [hp]
   refine gy hl (fun t ht=>?_) hA (fun x hx=>hb.same (hlt x hx)) (fun x hx=>by simpa using hlt x hx);have:=qy.1 hrr t ht;simpa using this
  .rw [hv];rfl
theorem ShF.cons'{P:Program}{N o o':Nat}{t:TypeId}{fs:List (TypeId×Nat)}{α β:Type}{c:α->List AV}{ok:α->Prop}{c':β->List AV}{ok':β->Prop}(ho:o+P.cellsOf t=o')(h:ShU P N t c ok)(k:ShF P N o' fs c' ok') :
  ShF P N o ((t,o) :: fs) (fun x:α×β=>c x.1++c' x.2) (fun x=>ok x.1/\ok' x.2):=by
 subst ho;exact .cons h k
theorem gA{P:Program}{w:World}:∀{laid:List (String×DataW Unit)} {ps:List MemPlace},DataW.LaidVars P w laid ps->∀ x,x∈laid->∃ g t cs fuel p,P.globalNamed x.1=some g/\(P.globals[g]?).map (·.type)=some t/\w.var? P x.1=some cs/\DataW.trod (fun _=>()) P w 0 (fun _=>true) false fuel t cs.toList=some (x.2,p)
 | [],_,_,x,hx=>by simp at hx
 | (n,d) :: r,ps,h,x,hx=>by
  obtain⟨g,t,cs,fuel,p,q,h1,h2,h3,h4,h5,_⟩:=h;rcases qB.1 hx with rfl|hx
  .exact ⟨g,t,cs,fuel,p,h1,h2,h3,h4⟩
  .exact gA h5 x hx
theorem qg4{P:Program}{w:World}{t e:TypeId}{n fuel:Nat}{k:IntKind}(ht:P.underlying t=some (.array n e))(he:P.underlying e=some (.int k))(hc:P.cellsOf e=1)(hct:P.cellsOf t=n){cs:List Value}{ns:List Int}{p:List MemPlace}
  (h:DataW.trod (fun _=>()) P w 0 (fun _=>true) false fuel t cs=some (.agg (ns.map fun i => .lit (.int k i)),p)):cs=ns.map fun i => .int k i:=by
 obtain⟨xs,m,_,hx,hl,hn,hel⟩:=DataW.trod_array ht h;simp only[Prod.mk.injEq,DataW.agg.injEq]at hx;have hx:=hx.1;have hns:ns.length=n:=by have:=congrArg List.length hx;simp at this;omega
 rw[hct]at hl;rw[hc]at hel;apply List.ext_getElem
 .simp [hl,hns]
 .intro i h1 h2
  have h3:=hel i (by omega);rw[Nat.mul_one]at h3;have hxi:i<xs.length:=by omega
  rw[qv hxi]at h3;obtain⟨z,e1,e2,_⟩:=DataW.trod_int he h3;have h4:(xs[i]).1=DataW.lit (.int k z):=by rw[e2]
  have h5:(ns.map fun i=>(DataW.lit (.int k i):DataW Unit))[i]?=(xs.map (·.1))[i]?:=by rw[hx]
  rw[zk,zk,qv hxi,qv (by omega)]at h5;simp only[q8,qn]at h5;rw[h4]at h5;simp only[DataW.lit.injEq,Lit.int.injEq,true_and]at h5;have h6:(cs.drop i).take 1=[cs[i]]:=by rw[zj h1];rfl
  rw[h6]at e1;simp only[List.cons.injEq,and_true]at e1;rw[e1,Xs,h5]
theorem qg5{P:Program}{w:World}{name:String}{g:Nat}{cs:Array Value}(hg:P.globalNamed name=some g)(h:w.var? P name=some cs):∃ e fr,w.heap[g]?=some (.cells cs e fr):=by
 unfold World.var? at h;rw[hg]at h;simp only[Option.bind_some]at h;split at h
 .rename_i c e fr hh;cases h;exact⟨e,fr,hh⟩
 .cases h
end Go.EvW
namespace Go.Proofs.YtkglmpmlfjogkaaGreatDoor
open Go Go.Ev Go.Proofs Tryz
namespace DT
open Go.EvW Y1 P1 YF
theorem gB:qd.underlying 3=some (.int .i64):=by kernel_rfl
theorem WS:qd.underlying 4=some .bool:=by kernel_rfl
theorem gC:qd.underlying 9=some .string:=by kernel_rfl
theorem qg6:qd.underlying 28=some (.slice 3):=by kernel_rfl
theorem qg7:qd.underlying 22=some (.slice 80):=by kernel_rfl
theorem qg8:qd.underlying 23=some (.slice 82):=by kernel_rfl
theorem qg9:qd.underlying 35=some (.slice 37):=by kernel_rfl
theorem qhA:qd.underlying 129=some (.slice 183):=by kernel_rfl
theorem qhB:qd.underlying 24=some (.slice 131):=by kernel_rfl
theorem qhC:qd.underlying 25=some (.slice 109):=by kernel_rfl
abbrev okI(n:Int):Prop := -9223372036854775808<=n/\n<=9223372036854775807
abbrev okS(s:ByteArray):Prop:=s.size<=140737488351232
instance:Inhabited Nd:=⟨.mk 0 ⟨#[]⟩ 0 [] 0⟩
instance:Inhabited Pd:=⟨⟨⟨#[]⟩,[],default⟩⟩
instance:Inhabited Fld:=⟨⟨⟨#[]⟩,[],false⟩⟩
theorem uC(N:Nat):ShU qd N 3 (fun n:Int=>[aI n]) okI:=
 (ShU.int gB N).map (fun n=>n) (fun _=>rfl) (fun n h=>by
  simp[Lit.wf,IntKind.min,IntKind.max,IntKind.signed,IntKind.bits]at h;exact h)
theorem gD(N:Nat):ShU qd N 4 (fun b:Bool=>[aB b]) (fun _=>True):=ShU.bool WS N
theorem wR(N:Nat):ShU qd N 9 (fun s:ByteArray=>[aS s]) okS:=ShU.string gC N
theorem WT(N:Nat):ShU qd N 28 (fun xs:List Int=>[lI xs]) (fun l=>l.length<=140737488351232/\∀ x,x∈l->okI x):=
 ((ShU.slice qg6 (uC N) (fun _ _=>by kernel_rfl) (Nat.lt_of_lt_of_eq Nat.zero_lt_one (by kernel_rfl)) (by kernel_rfl)).le (by omega)).map (fun l=>l) (fun _=>rfl) fun _ h=>h
theorem qhD(N:Nat):ShU qd N 82 uo (fun f=>f.sorts.length<=140737488351232/\∀ x,x∈f.sorts->okI x):=
 ((ShU.struct (fs:=[(9,0),(28,1),(4,2)]) (by kernel_rfl) (.cons' (o':=1) (by kernel_rfl) (wR N) (.cons' (o':=2) (by kernel_rfl) (WT N) (.cons' (o':=3) (by kernel_rfl) (gD N) (.nil 3)))) (by kernel_rfl)).map
  (fun x=>(⟨x.1,x.2.1,x.2.2.1⟩:Fld)) (fun _=>rfl) (fun x h=>h.2.1)).le (by omega)
theorem qhE(N:Nat):ShU qd N 80 Zr (fun s=>okS s.1):=
 ((ShU.struct (fs:=[(9,0),(4,1)]) (by kernel_rfl) (.cons' (o':=1) (by kernel_rfl) (wR N) (.cons' (o':=2) (by kernel_rfl) (gD N) (.nil 2))) (by kernel_rfl)).map
  (fun x=>((x.1,x.2.1):ByteArray×Bool)) (fun _=>rfl) (fun x h=>h.1)).le (by omega)
theorem Vt:∀ N:Nat,ShU qd N 37 cNd (fun _=>True)
 | 0=>fun n hn=>absurd hn (by omega)
 | N+1 =>
  have ks:ShU qd N 35 (fun l:List Nd=>[.lst false (l.map cNd)]) (fun _=>True):=((ShU.slice qg9 (Vt N) (fun a _=>(Zt a).trans (by kernel_rfl)) (Nat.lt_of_lt_of_eq (show 0<5 by omega) (by kernel_rfl)) (by kernel_rfl)).le (by omega)).map (fun l=>l) (fun _=>rfl) fun _ _=>trivial
  ((ShU.struct (fs:=[(3,0),(9,1),(3,2),(35,3),(3,4)]) (by kernel_rfl)
   (.cons' (o':=1) (by kernel_rfl) (uC N) (.cons' (o':=2) (by kernel_rfl) (wR N) (.cons' (o':=3) (by kernel_rfl) (uC N) (.cons' (o':=4) (by kernel_rfl) ks (.cons' (o':=5) (by kernel_rfl) (uC N) (.nil 5)))))) (by kernel_rfl))).map
   (fun x=>Nd.mk x.1 x.2.1 x.2.2.1 x.2.2.2.1 x.2.2.2.2.1) (fun x=>by rw[jM];rfl) fun _ _=>trivial
theorem qhF(N:Nat):ShU qd N 183 cPm (fun p=>okI p.2):=
 ((ShU.struct (fs:=[(9,0),(3,1)]) (by kernel_rfl) (.cons' (o':=1) (by kernel_rfl) (wR N) (.cons' (o':=2) (by kernel_rfl) (uC N) (.nil 2))) (by kernel_rfl)).map
  (fun x=>((x.1,x.2.1):ByteArray×Int)) (fun _=>rfl) (fun x h=>h.2.1)).le (by omega)
theorem qhG(N:Nat):ShU qd N 129 (fun l:List (ByteArray×Int)=>[lPm l]) (fun l=>l.length<=140737488351232):=
 ((ShU.slice qhA (qhF N) (fun _ _=>by kernel_rfl) (Nat.lt_of_lt_of_eq (show 0<2 by omega) (by kernel_rfl)) (by kernel_rfl)).le (by omega)).map (fun l=>l) (fun _=>rfl) fun _ h=>h.1
theorem qhH(N:Nat):ShU qd N 131 cPd (fun _=>True):=
 ((ShU.struct (fs:=[(9,0),(129,1),(37,2)]) (by kernel_rfl) (.cons' (o':=1) (by kernel_rfl) (wR N) (.cons' (o':=2) (by kernel_rfl) (qhG N) (.cons' (o':=7) (by kernel_rfl) (Vt N) (.nil 7)))) (by kernel_rfl)).map
  (fun x=>(⟨x.1,x.2.1,x.2.2.1⟩:Pd)) (fun x=>by simp[cPd]) fun _ _=>trivial).le (by omega)
theorem qhI(N:Nat):ShU qd N 109 cFa (fun _=>True):=
 ((ShU.struct (fs:=[(9,0),(37,1)]) (by kernel_rfl) (.cons' (o':=1) (by kernel_rfl) (wR N) (.cons' (o':=6) (by kernel_rfl) (Vt N) (.nil 6))) (by kernel_rfl)).map
  (fun x=>((x.1,x.2.1):ByteArray×Nd)) (fun x=>by simp[cFa]) fun _ _=>trivial).le (by omega)
structure okTA (ts:TS):Prop where
 so:∀ x,x∈ts.sorts->okS x.1
 nso:ts.sorts.length<=140737488351232
 nf:ts.fields.length<=140737488351232
 fl:∀ f,f∈ts.fields->f.sorts.length<=140737488351232/\∀ x,x∈f.sorts->okI x
theorem qhJ(N:Nat):ShU qd N 27 cTS okTA:=by
 have s1:=(ShU.slice qg7 (qhE N) (fun _ _=>by kernel_rfl) (Nat.lt_of_lt_of_eq (show 0<2 by omega) (by kernel_rfl)) (by kernel_rfl)).le (M:=N) (by omega);have s2:=(ShU.slice qg8 (qhD N) (fun _ _=>by kernel_rfl) (Nat.lt_of_lt_of_eq (show 0<3 by omega) (by kernel_rfl)) (by kernel_rfl)).le (M:=N) (by omega);have s3:=(ShU.slice qhB (qhH N) (fun a h=>(vC a).1.trans (by kernel_rfl)) (Nat.lt_of_lt_of_eq (show 0<7 by omega) (by kernel_rfl)) (by kernel_rfl)).le (M:=N) (by omega);have s4:=(ShU.slice qhC (qhI N) (fun a h=>(kh a).1.trans (by kernel_rfl)) (Nat.lt_of_lt_of_eq (show 0<6 by omega) (by kernel_rfl)) (by kernel_rfl)).le (M:=N) (by omega);have st:=ShU.struct (t:=27) (fs:=[(22,0),(23,1),(24,2),(25,3)]) (by kernel_rfl) (.cons' (o':=1) (by kernel_rfl) s1 (.cons' (o':=2) (by kernel_rfl) s2 (.cons' (o':=3) (by kernel_rfl) s3 (.cons' (o':=4) (by kernel_rfl) s4 (.nil 4))))) (by kernel_rfl);exact(st.map (fun x=>(⟨x.1,x.2.1,x.2.2.1,x.2.2.2.1⟩:TS)) (fun _=>rfl) fun x h=>⟨h.1.2,h.1.1,h.2.1.1,h.2.1.2⟩).le (by omega)
theorem gE:yz qd 27 eTS okTA:=yz.struct (by kernel_rfl) qhJ
theorem WU:yz qd 37 eNd (fun _=>True):=yz.struct (by kernel_rfl) Vt
end DT
namespace QA
open P1 Q9
def bA:ByteArray:=⟨#[65]⟩
def bB:ByteArray:=⟨#[66]⟩
def bf:ByteArray:=⟨#[102]⟩
def bp:ByteArray:=⟨#[112]⟩
def bx:ByteArray:=⟨#[120]⟩
def qhK:TS:=⟨[(bA,false),(bB,true)],[⟨bf,[0,1],false⟩],[⟨bp,[(bx,0)],ndOp 34 [ndOp 9 [Vo bx 7,Vo bf 9]]⟩],[]⟩
end QA
namespace QB
open P1 Y1 Q6 Q9 QA
def ba:ByteArray:=⟨#[97]⟩
def nC:Nd := .mk 45 bf 0 [Vo bA 2,.mk 47 bp 0 [Vo bf 5] 3] 1
theorem c0:(jO qhK [] nC).1=0:=by decide +kernel
theorem h47:anyN (fun n=>decide (n.op=47)) nC=true:=by decide +kernel
theorem wkNd(l:List Nd):WK (.lst true (l.map cNd)) (lNd l):=WK.lst fun r hr c hc=>by
 obtain⟨n,_,rfl⟩:=qs.1 hr;exact vz n c hc
def WkR:List (List AV)->List (List AV)->Prop
 | [],[]=>True
 |x :: xs,y :: ys=>WKs x y/\WkR xs ys
 |_,_=>False
theorem gF:∀{xs ys xs' ys':List AV},WKs xs ys->WKs xs' ys'->WKs (xs++xs') (ys++ys')
 | [],[],_,_,_,h'=>h'
 |_ :: _,_ :: _,_,_,⟨h,t⟩,h'=>⟨h,gF t h'⟩
 | [],_ :: _,_,_,h,_=>h.elim
 |_ :: _,[],_,_,h,_=>h.elim
theorem gG:∀{xs ys:List (List AV)},WkR xs ys->ys.length=xs.length/\(∀(k:Nat) x y,xs[k]?=some x->ys[k]?=some y->x.length=y.length)/\WKs xs.flatten ys.flatten
 | [],[],_=>⟨rfl,fun k x y h=>by simp at h,trivial⟩
 |x :: xs,y :: ys,⟨h,t⟩=>by
  obtain⟨h1,h2,h3⟩:=gG t;refine⟨by simp[h1],fun k a b ha hb=>?_,by rw[jX,jX];exact gF h h3⟩;cases k with
  |zero=>simp at ha hb;subst ha;subst hb;exact h.get.1.symm
  |succ k=>exact h2 k a b (by simpa using ha) (by simpa using hb)
 | [],_ :: _,h=>h.elim
 |_ :: _,[],h=>h.elim
theorem yL{full:Bool}{xs ys:List (List AV)}(h:WkR xs ys):WK (.lst full xs) (.lst false ys):=by
 obtain⟨hn,hz,h3⟩:=gG h;have hfl:=XQ hn hz;have hg:=h3.get.2;intro G hp v r;cases r with
 |nil=>cases ys with
  |nil=>exact .nil _
  |cons=>simp at hn
 |emp _ a cap hc=>cases ys with
  |nil=>exact .emp _ a cap (by simp)
  |cons=>simp at hn
 |lst _ _ sz a cap cs e fr rd hb hs hl hc hi hz' hr hv =>
  rw[<-hn];have hget:∀(k:Nat) y,ys.flatten[k]?=some y->∃ x,xs.flatten[k]?=some x:=by
   intro k y hy;have hk:k<ys.flatten.length:=(qk.1 hy).1;exact⟨xs.flatten[k]'(by omega),by simp only[qv (show k<xs.flatten.length by omega)]⟩
  refine .lst false ys sz a cap cs e fr rd hb hs (by omega) (by simp) hi ?_ ?_ ?_
  .intro r hr'
   obtain⟨k,hk⟩:=List.mem_iff_getElem?.1 hr';have hkl:k<ys.length:=(qk.1 hk).1;have hx:xs[k]?=some (xs[k]'(by omega)):=by simp[show k<xs.length by omega]
   rw[<-hz k _ r hx hk];exact hz' _ (List.mem_of_getElem? hx)
  .intro k y hy
   obtain⟨x,hx⟩:=hget k y hy;exact hr k x hx
  .intro k y hy
   obtain⟨x,hx⟩:=hget k y hy;exact hg k x y hx hy G hp _ (hv k x hx)
theorem WV:∀{xs:List AV},(∀ x,x∈xs->HF x)->WKs xs xs
 | [],_=>trivial
 |x :: xs,h=>⟨.hf (h x (zZ ..)),WV fun y hy=>h y (zK _ hy)⟩
theorem WW(op:Int)(nm:ByteArray)(n:Int){ks:AV}{l:List Nd}(p:Int)(h:WK ks (lNd l)):WKs [aI op,aS nm,aI n,ks,aI p] (cNd (.mk op nm n l p)):=by
 rw[jM];exact⟨.hf (HF.sc _),.hf (HF.sc _),.hf (HF.sc _),h,.hf (HF.sc _),trivial⟩
theorem gH(op:Int)(nm:ByteArray)(n:Int){ks:AV}{l:List Nd}(p:Int)(h:WK ks (lNd l)):WK (.agg [aI op,aS nm,aI n,ks,aI p]) (eNd (.mk op nm n l p)):=WK.aggs (WW op nm n p h)
end QB
namespace QC
open Y1 Y6 YD
theorem Vu{mu:Mu}{av:AV}{op i p:Int}{nm:ByteArray}{ks:List Nd}{lo:Nat}(go:OwnF lo mu 5 av (ks.map cNd)):Rd mu (.agg [aI op,aS nm,aI i,av,aI p]) (eNd (.mk op nm i ks p)):=by
 have ecn:eNd (.mk op nm i ks p) = .agg [aI op,aS nm,aI i,.lst false (ks.map cNd),aI p]:=by
  show AV.agg (cNd _)=_;rw[jM];rfl
 rw[ecn];refine .agg _ _ rfl fun k x y hx hy=>?_
 match k with
 | 0=>simp at hx hy;subst hx;subst hy;exact .hf _ (HF.sc _)
 | 1=>simp at hx hy;subst hx;subst hy;exact .hf _ (HF.sc _)
 | 2=>simp at hx hy;subst hx;subst hy;exact .hf _ (HF.sc _)
 | 3 =>
  simp at hx hy;subst hx;subst hy;exact Own.rd (sz:=5) go.1 (qgW ks).ok fun r hr c hc=>by
   obtain⟨x,_,rfl⟩:=qs.1 hr;exact vz x c hc
 | 4=>simp at hx hy;subst hx;subst hy;exact .hf _ (HF.sc _)
 |k+5=>simp at hx
end QC
namespace QD
open YF P1 Y1 Y2
def atF(a:Int):List Int->Int
 | []=>a
 |x :: l=>atF (qj.wrap (qj.wrap (4*a)+x)) l
def zs:List AV:=qX 64 (aB false)
def oneC(l:List Int):List AV:=aI l.length :: (if 0<=atF 0 l/\atF 0 l<64 then zs.set (atF 0 l).toNat (aB true) else zs)
structure SetC (c:List AV):Prop where
 len:c.length=65
 sc:∀ x,x∈c->x.one=true/\HF x
theorem SetC.one{c:List AV}(h:SetC c):∀ x,x∈c->x.one=true:=fun x hx=>(h.sc x hx).1
theorem SetC.hf{c:List AV}(h:SetC c):HF (.agg c):=HF.agg fun x hx=>(h.sc x hx).2
theorem SetC.take{c:List AV}(h:SetC c):List.take 65 c=c:=zU (by rw[h.len];exact qr _)
theorem SetC.put{c d:List AV}(h:SetC c)(h':SetC d):putCells c 0 d=d:=by
 rw[yX _ _ _ (by rw[h.len,h'.len];exact qr _)];simp[h.len,h'.len,List.drop_of_length_le]
theorem SetC.zero:SetC (aI 0 :: zs):=⟨rfl,fun x hx=>by
 rcases qB.1 hx with rfl|hx
 .exact ⟨rfl,HF.sc _⟩
 .rw [List.eq_of_mem_replicate hx];exact⟨rfl,HF.sc _⟩⟩
theorem SetC.oneC(l:List Int):SetC (oneC l):=by
 have hz:∀ x:AV,x∈zs->x.one=true/\HF x:=fun x hx=>by rw[List.eq_of_mem_replicate hx];exact⟨rfl,HF.sc _⟩
 unfold QD.oneC;split
 .refine ⟨by simp[zs],fun x hx=>?_⟩
  rcases qB.1 hx with rfl|hx
  .exact ⟨rfl,HF.sc _⟩
  .rcases List.mem_or_eq_of_mem_set hx with h|rfl
   .exact hz x h
   .exact ⟨rfl,HF.sc _⟩
 .refine ⟨by simp[zs],fun x hx=>?_⟩
  rcases qB.1 hx with rfl|hx
  .exact ⟨rfl,HF.sc _⟩
  .exact hz x hx
theorem oneU(l:List Int)(hl:l.length<=140737488351232):qi qd 205 [lI l] (.agg (oneC l)):=by
 have hset:=SetC.oneC l;generalize hR:oneC l=R at *
 unfold oneC at hR;refine qSQ call205 func205 rfl {} ?_;simp[go_sem];have hzl:zs.length=64:=rfl;refine ql.upK l.length (fun k st=>∃ a:Int,st.tm 0=lI l/\st.tm 2 = .ptr 0 0/\st.tm 3 = .ptr 1 0/\st.tm 4=aI a/\st.tm 5=aI k/\st.mu=[.arr (aI 0 :: zs),.arr (aI l.length :: zs)]/\atF a (l.drop k)=atF 0 l) ?_ ?_
 .exact ⟨0,by simp[go_sem],by simp[go_sem],by simp[go_sem],by simp[go_sem],by simp[go_sem],by simp[go_sem,zs,qX],rfl⟩
 rintro k st hk ⟨a,e0,e2,e3,e4,e5,hm,hI⟩;by_cases hlt:k<l.length
 .have w1:qj.wrap ((k:Int)+1)=(k:Int)+1:=qg (by omega) (by omega)
  rw[zj hlt]at hI;simp[go_sem,e0,e2,e3,e4,e5,hm,hlt,w1];exact Keep.mk' ⟨_,by simp[go_sem,e0],by simp[go_sem,e2],by simp[go_sem,e3],by simp[go_sem],by simp[go_sem],by simp[go_sem,hm],hI⟩
 have hke:k=l.length:=by omega
 subst hke;rw[zL]at hI;have ha:a=atF 0 l:=hI;rw[<-ha]at hR;have z1:∀ x:AV,(x :: zs).length=65:=fun x=>rfl
 have one1:∀ x:AV,x∈zs->x.one=true:=fun x hx=>by rw[List.eq_of_mem_replicate hx];rfl
 have tk:List.take 64 zs=zs:=rfl;have pc:∀(x y:AV) (Z:List AV),Z.length=64->putCells (x :: zs) 0 (y :: Z)=y :: Z:=fun x y Z hZ=>by
  rw[yX _ _ _ (by simp[hZ,hzl])];simp[hZ,hzl,List.drop_of_length_le]
 by_cases h0:0<=a
 .obtain ⟨j,rfl⟩:∃ j:Nat,a=j:=⟨a.toNat,by omega⟩
  by_cases h64:(j:Int)<64
  .have hj:1+j<=64:=by omega
   have hst:∀ x:AV,(x :: zs).set (1+j) (AV.sc (Value.bool true))=x :: zs.set j (AV.sc (Value.bool true)):=fun x=>by rw[Nat.add_comm];rfl
   have sl:(zs.set j (AV.sc (Value.bool true))).length=64:=by simp[hzl]
   have one2:∀ x:AV,x∈zs.set j (AV.sc (Value.bool true))->x.one=true:=fun x hx=>by
    rcases List.mem_or_eq_of_mem_set hx with h|rfl
    .exact one1 x h
    .rfl
   have tk2:List.take 64 (zs.set j (AV.sc (Value.bool true)))=zs.set j (AV.sc (Value.bool true)):=zU (by omega);have hR2:R=aI l.length :: zs.set j (AV.sc (Value.bool true)):=by rw[<-hR,if_pos ⟨h0,h64⟩];rfl
   generalize zs.set j (AV.sc (Value.bool true))=Z at *
   simp[go_sem,e0,e2,e3,e4,e5,hm,h0,h64,hzl,hj,hst,sl,tk2,pc _ _ _ sl];rw[if_pos one2];simp[go_sem,e0,e2,e3,e4,e5,hm,sl,tk2];rw[hR2]at hset⊢;exact .hf _ hset.hf
  .simp [go_sem,e0,e2,e3,e4,e5,hm,h0,h64,hzl,tk,pc _ _ _ hzl]
   rw[if_pos one1];simp[go_sem,e0,e2,e3,e4,e5,hm,hzl,tk];have hR2:R=aI l.length :: zs:=by rw[<-hR,if_neg (by omega)]
   rw[hR2]at hset⊢;exact .hf _ hset.hf
 .simp [go_sem,e0,e2,e3,e4,e5,hm,h0,hzl,tk,pc _ _ _ hzl]
  rw[if_pos one1];simp[go_sem,e0,e2,e3,e4,e5,hm,hzl,tk];have hR2:R=aI l.length :: zs:=by rw[<-hR,if_neg (by omega)]
  rw[hR2]at hset⊢;exact .hf _ hset.hf
abbrev NS:=List AV×Nat
def stF(nm:ByteArray)(f:Fld)(s:NS):NS:=if f.name=nm then (oneC f.sorts,s.2+1) else s
def nmF(nm:ByteArray):List Fld->NS->NS
 | [],s=>s
 |f :: l,s=>nmF nm l (stF nm f s)
def st1(nm:ByteArray)(i:Nat)(x:ByteArray×Bool)(s:NS):NS:=if x.1=nm then (oneC [(i:Int)],s.2+1) else s
def st2(nm:ByteArray)(i:Nat)(x:ByteArray×Bool)(s:NS):NS:=if x.2=true/\x.1++je=nm then (oneC [(i:Int)],s.2+1) else s
def st3(nm:ByteArray)(i:Nat)(x:ByteArray×Bool)(s:NS):NS:=if x.2=true/\x.1++vB=nm then (oneC [(i:Int),(i:Int)],s.2+1) else s
def nmS(nm:ByteArray):Nat->List (ByteArray×Bool)->NS->NS
 |_,[],s=>s
 |i,x :: l,s=>nmS nm (i+1) l (st3 nm i x (st2 nm i x (st1 nm i x s)))
def named(ts:TS)(nm:ByteArray):NS:=nmS nm 0 ts.sorts (nmF nm ts.fields (aI 0 :: zs,0))
theorem qhL{nm:ByteArray}{f:Fld}{s:NS}(h:SetC s.1):SetC (stF nm f s).1:=by
 unfold stF;split
 .exact SetC.oneC _
 .exact h
theorem gJ{nm:ByteArray}{i:Nat}{x:ByteArray×Bool}{s:NS}(h:SetC s.1):SetC (st1 nm i x s).1:=by
 unfold st1;split
 .exact SetC.oneC _
 .exact h
theorem gK{nm:ByteArray}{i:Nat}{x:ByteArray×Bool}{s:NS}(h:SetC s.1):SetC (st2 nm i x s).1:=by
 unfold st2;split
 .exact SetC.oneC _
 .exact h
theorem gL{nm:ByteArray}{i:Nat}{x:ByteArray×Bool}{s:NS}(h:SetC s.1):SetC (st3 nm i x s).1:=by
 unfold st3;split
 .exact SetC.oneC _
 .exact h
theorem st_le{nm:ByteArray}{i:Nat}{x:ByteArray×Bool}{s:NS}:(st3 nm i x (st2 nm i x (st1 nm i x s))).2<=s.2+3:=by
 have h1:(st1 nm i x s).2<=s.2+1:=by unfold st1;split<;>simp
 have h2:∀ s:NS,(st2 nm i x s).2<=s.2+1:=fun s=>by unfold st2;split<;>simp
 have h3:∀ s:NS,(st3 nm i x s).2<=s.2+1:=fun s=>by unfold st3;split<;>simp
 have:=h2 (st1 nm i x s);have:=h3 (st2 nm i x (st1 nm i x s));omega
theorem gM(nm:ByteArray):∀(l:List Fld) (s:NS),SetC s.1->SetC (nmF nm l s).1
 | [],_,h=>h
 |f :: l,s,h=>gM nm l _ (qhL h)
theorem gN(nm:ByteArray):∀(l:List (ByteArray×Bool)) (i:Nat) (s:NS),SetC s.1->SetC (nmS nm i l s).1
 | [],_,_,h=>h
 |x :: l,i,s,h=>gN nm l _ _ (gL (gK (gJ h)))
theorem qhM(ts:TS)(nm:ByteArray):SetC (named ts nm).1:=gN nm _ _ _ (gM nm _ _ SetC.zero)
theorem wk1(i:Int):WK (.lst true [rI i]) (lI [i]):=WK.lst fun r hr c hc=>by
 rw[qW]at hr;subst hr;rw[qW]at hc;subst hc;exact HF.sc _
theorem wk2(i j:Int):WK (.lst true [rI i,rI j]) (lI [i,j]):=WK.lst fun r hr c hc=>by
 rcases qB.1 hr with rfl|hr
 .rw [qW]at hc;subst hc;exact HF.sc _
 .rw [qW]at hr;subst hr
  rw[qW]at hc;subst hc;exact HF.sc _
structure okNm (ts:TS):Prop where
 so:∀ x,x∈ts.sorts->x.1.size<=4611686018427387904
 nso:ts.sorts.length<=140737488351232
 nf:ts.fields.length<=140737488351232
 fl:∀ f,f∈ts.fields->f.sorts.length<=140737488351232
theorem qhN(ts:TS)(ha:okNm ts)(nm:ByteArray):qi qd 179 [eTS ts,aS nm] (.tup [.agg (named ts nm).1,aI (named ts nm).2]):=by
  generalize hR:named ts nm=R;unfold named at hR;refine qSQ call179 func179 rfl {} ?_;have hnf:=ha.nf;have hzl:zs.length=64:=rfl;have hns:=ha.nso;simp[go_sem];refine ql.upK ts.fields.length (fun i st=>∃ s:NS,st.tm 1=aS nm/\st.tm 2 = .ip (cTS ts)/\st.tm 4 = .ptr 0 0/\st.tm 6 = .ptr 1 0/\st.tm 7=aI s.2/\st.tm 8=aI i/\st.mu=[.arr (aI 0 :: zs),.arr s.1]/\SetC s.1/\s.2<=i/\nmS nm 0 ts.sorts (nmF nm (ts.fields.drop i) s)=R) ?_ ?_
  · exact⟨(aI 0 :: zs,0),by simp[go_sem],by simp[go_sem],by simp[go_sem],by simp[go_sem],by simp[go_sem],by simp[go_sem],by simp[go_sem,zs,qX],SetC.zero,by simp,by simpa using hR⟩
  clear hR;rintro i st hi ⟨⟨c,k⟩,e1,e2,e4,e6,e7,e8,hm,hc,hk,hI⟩;have hk:k<=i:=hk;have hc:SetC c:=hc;by_cases hlt:i<ts.fields.length
  · have w1:qj.wrap ((i:Int)+1)=(i:Int)+1:=qg (by omega) (by omega)
    have w2:qj.wrap ((k:Int)+1)=(k:Int)+1:=qg (by omega) (by omega);rw[zj hlt]at hI;have ho:=oneU ts.fields[i].sorts (ha.fl _ (qu hlt));have hco:=SetC.oneC ts.fields[i].sorts;by_cases hq:ts.fields[i].name=nm
    · simp[go_sem,e1,e2,e4,e6,e7,e8,hm,hlt,hq]
      refine qb.pure ho (.cons (.hf (zM _)) .nil) ?_;simp[go_sem,e1,e2,e4,e6,e7,e8,hm,hlt,hco.len,hc.len,hc.put hco];rw[if_pos hco.one];simp[go_sem,e1,e2,e4,e6,e7,e8,hm,hlt,hco.len,hc.put hco,w1,w2];exact Keep.mk' ⟨(oneC ts.fields[i].sorts,k+1),by simp[go_sem,e1],by simp[go_sem,e2],by simp[go_sem,e4],by simp[go_sem,e6],by simp[go_sem],by simp[go_sem],by simp[go_sem],hco,by show k+1<=i+1;omega,by rw[<-hI];simp[nmF,stF,hq]⟩
    · simp[go_sem,e1,e2,e4,e6,e7,e8,hm,hlt,vd hq,w1]
      exact Keep.mk' ⟨(c,k),by simp[go_sem,e1],by simp[go_sem,e2],by simp[go_sem,e4],by simp[go_sem,e6],by simp[go_sem,e7],by simp[go_sem],by simp[go_sem,hm],hc,by show k<=i+1;omega,by rw[<-hI];simp[nmF,stF,hq]⟩
  have hie:i=ts.fields.length:=by omega
  subst hie;rw[zL]at hI;simp only[nmF]at hI;simp[go_sem,e1,e2,e4,e6,e7,e8,hm,hlt];refine ql.upK ts.sorts.length (fun i st=>∃ s:NS,st.tm 1=aS nm/\st.tm 2 = .ip (cTS ts)/\st.tm 4 = .ptr 0 0/\st.tm 6 = .ptr 1 0/\st.tm 7=aI s.2/\st.tm 9=aI i/\st.mu=[.arr (aI 0 :: zs),.arr s.1]/\SetC s.1/\s.2<=ts.fields.length+3*i/\nmS nm i (ts.sorts.drop i) s=R) ?_ ?_
  · exact⟨(c,k),by simp[go_sem,e1],by simp[go_sem,e2],by simp[go_sem,e4],by simp[go_sem,e6],by simp[go_sem,e7],by simp[go_sem],by simp[go_sem,hm],hc,by show k<=_;omega,by simpa using hI⟩
  clear e1 e2 e4 e6 e7 e8 hm hc hk hI hlt;rintro i st hi ⟨⟨c,k⟩,e1,e2,e4,e6,e7,e9,hm,hc,hk,hI⟩;have hk:k<=ts.fields.length+3*i:=hk;have hc:SetC c:=hc;by_cases hlt:i<ts.sorts.length
  · have w1:qj.wrap ((i:Int)+1)=(i:Int)+1:=qg (by omega) (by omega)
    have w2:qj.wrap ((k:Int)+1)=(k:Int)+1:=qg (by omega) (by omega);have w3:qj.wrap ((k:Int)+1+1)=(k:Int)+1+1:=qg (by omega) (by omega);have w4:qj.wrap ((k:Int)+1+1+1)=(k:Int)+1+1+1:=qg (by omega) (by omega);rw[zj hlt]at hI;simp only[nmS]at hI;have ho1:=oneU [(i:Int)] (by simp);have ho2:=oneU [(i:Int),(i:Int)] (by simp);have hc1:=SetC.oneC [(i:Int)];have hc2:=SetC.oneC [(i:Int),(i:Int)];have p01:=hc.put hc1;have p02:=hc.put hc2;have p11:=hc1.put hc1;have p12:=hc1.put hc2;have l1:=hc1.len;have l2:=hc2.len;have l0:=hc.len;have hle:=st_le (nm:=nm) (i:=i) (x:=ts.sorts[i]) (s:=(c,k));have hst:=gL (nm:=nm) (i:=i) (x:=ts.sorts[i]) (gK (nm:=nm) (i:=i) (x:=ts.sorts[i]) (gJ (nm:=nm) (i:=i) (x:=ts.sorts[i]) (s:=(c,k)) hc));have hsz:=ha.so _ (qu hlt);have hsz:ts.sorts[i].1.size<=4611686018427387904:=hsz;generalize hso:ts.sorts[i]=so at *
    obtain⟨sn,sb⟩:=so;have hs1:sn.size<=9223372036854775801:=by simp at hsz;omega
    have hs2:sn.size<=9223372036854775802:=by simp at hsz;omega
    generalize hN:st3 nm i (sn,sb) (st2 nm i (sn,sb) (st1 nm i (sn,sb) (c,k)))=N at *
    have hfs:(sn++je=nm)=(sn++(⟨#[95,102,105,114,115,116]⟩:ByteArray)=nm):=rfl;have hxs:(sn++vB=nm)=(sn++(⟨#[95,110,101,120,116]⟩:ByteArray)=nm):=rfl;simp only[st1,st2,st3,hfs,hxs]at hN;obtain⟨d1,hd1⟩:∃ d,decide (sn=nm)=d:=⟨_,rfl⟩;obtain⟨d2,hd2⟩:∃ d,decide (sn++(⟨#[95,102,105,114,115,116]⟩:ByteArray)=nm)=d:=⟨_,rfl⟩;obtain⟨d3,hd3⟩:∃ d,decide (sn++(⟨#[95,110,101,120,116]⟩:ByteArray)=nm)=d:=⟨_,rfl⟩;have p1:(sn=nm)=(d1=true):=by rw[<-hd1];simp
    have p2:(sn++(⟨#[95,102,105,114,115,116]⟩:ByteArray)=nm)=(d2=true):=by rw[<-hd2];simp
    have p3:(sn++(⟨#[95,110,101,120,116]⟩:ByteArray)=nm)=(d3=true):=by rw[<-hd3];simp
    simp only[p1,p2,p3]at hN;have done:∀ st':St,st'.tm 1=aS nm->st'.tm 2 = .ip (cTS ts)->st'.tm 4 = .ptr 0 0->st'.tm 6 = .ptr 1 0->st'.tm 7=aI N.2->st'.tm 9=aI (i+1:Nat)->st'.mu=[.arr (aI 0 :: zs),.arr N.1] ->
        Keep (fun st=>∃ s:NS,st.tm 1=aS nm/\st.tm 2 = .ip (cTS ts)/\st.tm 4 = .ptr 0 0/\st.tm 6 = .ptr 1 0/\st.tm 7=aI s.2/\st.tm 9=aI (i+1:Nat)/\st.mu=[.arr (aI 0 :: zs),.arr s.1]/\SetC s.1/\s.2<=ts.fields.length+3*(i+1)/\nmS nm (i+1) (ts.sorts.drop (i+1)) s=R) .mk st':=
      fun st' a1 a2 a3 a4 a5 a6 a7=>Keep.mk' ⟨N,a1,a2,a3,a4,a5,a6,a7,hst,by have:N.2<=k+3:=hle;omega,hI⟩
    cases d1<;>cases d2<;>cases d3<;>cases sb
    all_goals simp only[if_true,if_false,and_false,and_true,false_and,true_and,reduceCtorEq]at hN
    all_goals simp[go_sem,Y10.yk,e1,e2,e4,e6,e7,e9,hm,hlt,hso,hd1,hd2,hd3,w1,w2,w3,w4,hs1,hs2]
    all_goals repeat' (first
      | (refine qb.pure ho1 (.cons (wk1 _) .nil) ?_
         simp[go_sem,e1,e2,e4,e6,e7,e9,hm,hlt,hso,p01,p11,l0,l1];rw[if_pos hc1.one];simp[go_sem,Y10.yk,e1,e2,e4,e6,e7,e9,hm,hlt,hso,hd1,hd2,hd3,w1,w2,w3,w4,hs1,hs2])
      | (refine qb.pure ho2 (.cons (wk2 _ _) .nil) ?_
         simp[go_sem,e1,e2,e4,e6,e7,e9,hm,hlt,hso,p02,p12,l0,l1,l2];rw[if_pos hc2.one];simp[go_sem,Y10.yk,e1,e2,e4,e6,e7,e9,hm,hlt,hso,hd1,hd2,hd3,w1,w2,w3,w4,hs1,hs2]))
    all_goals try subst hN
    all_goals try exact done _ (by simp[go_sem,e1]) (by simp[go_sem,e2]) (by simp[go_sem,e4]) (by simp[go_sem,e6]) (by simp[go_sem,e7]) (by simp[go_sem]) (by simp[go_sem,hm])
  have hie:i=ts.sorts.length:=by omega
  subst hie;rw[zL]at hI;simp only[nmS]at hI;subst hI;simp[go_sem,e1,e2,e4,e6,e7,e9,hm,hc.len,hc.take,SetC.zero.put hc,SetC.zero.len,hzl];rw[if_pos hc.one];simp[go_sem,e1,e2,e4,e6,e7,e9,hm,hc.len,hc.take,SetC.zero.put hc];refine .hf _ (HF.tup fun x hx=>?_);rcases qB.1 hx with rfl|hx
  · exact hc.hf
  · rw[qW]at hx;subst hx;exact HF.sc _
end QD
namespace QE
open Y6 QD
abbrev RS:=Int×(Nat->Bool)
def hB(g:Nat->Bool):List AV:=(qq 64).map fun i=>aB (g i)
abbrev cRS(s:RS):List AV:=aI s.1 :: hB s.2
abbrev eRS(s:RS):AV := .agg (cRS s)
theorem qh(g:Nat->Bool):(hB g).length=64:=by simp[hB]
theorem gO(g:Nat->Bool)(i:Nat)(v:Bool):(hB g).set i (aB v)=hB fun j=>if j=i then v else g j:=by
 refine List.ext_getElem (by simp[hB]) fun j h1 h2=>?_
 rw[List.getElem_set];simp only[hB,Xs,List.getElem_range];by_cases h:i=j
 .rw [if_pos h,if_pos h.symm]
 .rw [if_neg h,if_neg (fun e=>h e.symm)]
theorem qhO(g:Nat->Bool)(i:Nat)(h:i<64):(hB g)[i]?=some (aB (g i)):=by
 simp[hB,h]
theorem vZ{g g':Nat->Bool}(h:∀ j,j<64->g j=g' j):hB g=hB g':=by
 refine List.map_congr_left fun j hj=>?_
 rw[h j (zI.1 hj)]
theorem setC(s:RS):SetC (cRS s):=⟨by simp[hB],fun x hx=>by
 rcases qB.1 hx with rfl|hx
 .exact ⟨rfl,HF.sc _⟩
 .obtain ⟨j,_,rfl⟩:=qs.1 hx
  exact⟨rfl,HF.sc _⟩⟩
theorem yc(s:RS):HF (eRS s):=(setC s).hf
theorem gP:hB (fun _=>false)=zs:=rfl
def oneS(l:List Int):RS:=(l.length,fun j=>decide ((j:Int)=atF 0 l))
theorem WX(l:List Int):oneC l=cRS (oneS l):=by
 unfold oneC oneS;simp only[cRS];split
 .rename_i h
  have e:aB true=aB true:=rfl;rw[<-gP,gO];congr 1;refine vZ fun j hj=>?_
  by_cases hq:j=(atF 0 l).toNat
  .rw [if_pos hq];exact(decide_eq_true (by omega)).symm
  .rw [if_neg hq];exact(decide_eq_false (by omega)).symm
 .rename_i h
  rw[<-gP];congr 1;refine vZ fun j hj=>?_
  exact(decide_eq_false (by omega)).symm
def szA(k:Int):Nat:=if k<1 then 1 else if k=1 then 4 else if k=2 then 16 else 64
theorem YN(k:Int):szA k<=64/\1<=szA k:=by unfold szA;split<;>(try split)<;>(try split)<;>omega
theorem Vv(k:Int):qi qd 268 [aI k] (aI (szA k)):=by
 refine qSQ call268 func268 rfl {} ?_;unfold szA;by_cases h1:k<1
 .simp [go_sem,h1];exact .hf _ (HF.sc _)
 by_cases h2:k=1
 .simp [go_sem,h2];exact .hf _ (HF.sc _)
 by_cases h3:k=2
 .simp [go_sem,h3];exact .hf _ (HF.sc _)
 simp[go_sem,h1,h2,h3];exact .hf _ (HF.sc _)
def uniS(a b:RS):RS:=(a.1,fun j=>a.2 j||b.2 j)
def intS(a b:RS):RS:=(a.1,fun j=>a.2 j&&b.2 j)
theorem g1(x:AV)(g:Nat->Bool)(i:Nat)(h:i<64):(x :: hB g)[1+i]?=some (aB (g i)):=by
 rw[Nat.add_comm,jF,qhO g i h]
theorem d1(x:AV)(g:Nat->Bool)(i:Nat)(h:i<64):List.take 1 (List.drop (1+i) (x :: hB g))=[aB (g i)]:=by
 rw[Nat.add_comm,List.drop_succ_cons,zj (by rw[qh];exact h)];simp[hB]
theorem d0(g:Nat->Bool)(i:Nat)(h:i<64):List.take 1 (List.drop i (hB g))=[aB (g i)]:=by
 rw[zj (by rw[qh];exact h)];simp[hB]
theorem s1(x:AV)(g:Nat->Bool)(i:Nat)(v:Bool):(x :: hB g).set (1+i) (aB v)=x :: hB fun j=>if j=i then v else g j:=by
 rw[Nat.add_comm,List.set_cons_succ,gO]
theorem qC(g:Nat->Bool):∀ x:AV,x∈hB g->x.one=true:=fun x hx=>by
 obtain⟨j,_,rfl⟩:=qs.1 hx;rfl
theorem tk(g:Nat->Bool):List.take 64 (hB g)=hB g:=zU (by rw[qh];exact qr _)
theorem pc(x y:AV)(g g':Nat->Bool):putCells (x :: hB g) 0 (y :: hB g')=y :: hB g':=by
 rw[yX _ _ _ (by simp[qh])];simp[qh,List.drop_of_length_le]
theorem y7(a b:RS):qi qd 249 [eRS a,eRS b] (eRS (uniS a b)):=by
 refine qSQ call249 func249 rfl { mt:=[2] } ?_;simp[go_sem,qh];refine⟨qC _,qC _,?_⟩;refine ql.upK 64 (fun i st=>st.tm 2 = .ptr 0 0/\st.tm 3 = .ip (cRS b)/\st.tm 4 = .ptr 1 0/\st.tm 5=aI i/\st.mu=[.arr (aI a.1 :: hB (fun j=>if j<i then a.2 j||b.2 j else a.2 j)),.arr (aI 0 :: hB fun _=>false)]) ?_ ?_
 .exact ⟨by simp[go_sem],by simp[go_sem],by simp[go_sem],by simp[go_sem],by simp[go_sem];rfl⟩
 rintro i st hi ⟨e2,e3,e4,e5,hm⟩;by_cases hlt:i<64
 .have hlt':(i:Int)<64:=by omega
  have hi1:1+i<=64:=by omega
  have w1:qj.wrap ((i:Int)+1)=(i:Int)+1:=qg (by omega) (by omega);generalize hG:(fun j=>if j<i then a.2 j||b.2 j else a.2 j)=G at *
  have hGi:G i=a.2 i:=by rw[<-hG];simp
  have hnext:∀ v:Bool,v=(a.2 i||b.2 i)->(aI a.1 :: hB G).set (1+i) (aB v)=aI a.1 :: hB (fun j=>if j<i+1 then a.2 j||b.2 j else a.2 j):=fun v hv=>by
   rw[s1];congr 2;funext j;rw[<-hG,hv];by_cases h1:j=i
   .subst h1;simp
   .by_cases h2:j<i
    .simp [h1,h2,show j<i+1 by omega]
    .simp [h1,h2,show ¬j<i+1 by omega]
  have m1:=d1 (aI a.1) G i hlt;have m2:=d0 b.2 i hlt;have hi2:1<=64-i:=by omega
  rw[hGi]at m1;cases ha:a.2 i with
  |true =>
   rw[ha]at m1 hnext;have hn:=hnext true (by simp);simp[go_sem,e2,e3,e4,e5,hm,hlt,hlt',hi1,hi2,qh,m1,m2,hn,w1];exact Keep.mk' ⟨by simp[go_sem,e2],by simp[go_sem,e3],by simp[go_sem,e4],by simp[go_sem],by simp[go_sem]⟩
  |false =>
   rw[ha]at m1 hnext;have hn:=hnext (b.2 i) (by simp);simp[go_sem,e2,e3,e4,e5,hm,hlt,hlt',hi1,hi2,qh,m1,m2,hn,w1];exact Keep.mk' ⟨by simp[go_sem,e2],by simp[go_sem,e3],by simp[go_sem,e4],by simp[go_sem],by simp[go_sem]⟩
 .have hie:i=64:=by omega
  subst hie;simp[go_sem,e2,e3,e4,e5,hm,qh,tk,pc];rw[if_pos (qC _)];simp[go_sem,e2,e3,e4,e5,hm,qh,tk,pc];have e:(aI a.1 :: hB fun j=>if j<64 then a.2 j||b.2 j else a.2 j)=cRS (uniS a b):=by
   exact congrArg (aI a.1 :: ·) (vZ fun j hj=>if_pos hj)
  rw[e];exact .hf _ (yc _)
theorem Zz(a b:RS):qi qd 250 [eRS a,eRS b] (eRS (intS a b)):=by
 refine qSQ call250 func250 rfl { mt:=[2] } ?_;simp[go_sem,qh];refine⟨qC _,qC _,?_⟩;refine ql.upK 64 (fun i st=>st.tm 2 = .ptr 0 0/\st.tm 3 = .ip (cRS b)/\st.tm 4 = .ptr 1 0/\st.tm 5=aI i/\st.mu=[.arr (aI a.1 :: hB (fun j=>if j<i then a.2 j&&b.2 j else a.2 j)),.arr (aI 0 :: hB fun _=>false)]) ?_ ?_
 .exact ⟨by simp[go_sem],by simp[go_sem],by simp[go_sem],by simp[go_sem],by simp[go_sem];rfl⟩
 rintro i st hi ⟨e2,e3,e4,e5,hm⟩;by_cases hlt:i<64
 .have hlt':(i:Int)<64:=by omega
  have hi1:1+i<=64:=by omega
  have w1:qj.wrap ((i:Int)+1)=(i:Int)+1:=qg (by omega) (by omega);generalize hG:(fun j=>if j<i then a.2 j&&b.2 j else a.2 j)=G at *
  have hGi:G i=a.2 i:=by rw[<-hG];simp
  have hnext:∀ v:Bool,v=(a.2 i&&b.2 i)->(aI a.1 :: hB G).set (1+i) (aB v)=aI a.1 :: hB (fun j=>if j<i+1 then a.2 j&&b.2 j else a.2 j):=fun v hv=>by
   rw[s1];congr 2;funext j;rw[<-hG,hv];by_cases h1:j=i
   .subst h1;simp
   .by_cases h2:j<i
    .simp [h1,h2,show j<i+1 by omega]
    .simp [h1,h2,show ¬j<i+1 by omega]
  have m1:=d1 (aI a.1) G i hlt;have m2:=d0 b.2 i hlt;have hi2:1<=64-i:=by omega
  rw[hGi]at m1;cases ha:a.2 i with
  |false =>
   rw[ha]at m1 hnext;have hn:=hnext false (by simp);simp[go_sem,e2,e3,e4,e5,hm,hlt,hlt',hi1,hi2,qh,m1,m2,hn,w1];exact Keep.mk' ⟨by simp[go_sem,e2],by simp[go_sem,e3],by simp[go_sem,e4],by simp[go_sem],by simp[go_sem]⟩
  |true =>
   rw[ha]at m1 hnext;have hn:=hnext (b.2 i) (by simp);simp[go_sem,e2,e3,e4,e5,hm,hlt,hlt',hi1,hi2,qh,m1,m2,hn,w1];exact Keep.mk' ⟨by simp[go_sem,e2],by simp[go_sem,e3],by simp[go_sem,e4],by simp[go_sem],by simp[go_sem]⟩
 .have hie:i=64:=by omega
  subst hie;simp[go_sem,e2,e3,e4,e5,hm,qh,tk,pc];rw[if_pos (qC _)];simp[go_sem,e2,e3,e4,e5,hm,qh,tk,pc];have e:(aI a.1 :: hB fun j=>if j<64 then a.2 j&&b.2 j else a.2 j)=cRS (intS a b):=by
   exact congrArg (aI a.1 :: ·) (vZ fun j hj=>if_pos hj)
  rw[e];exact .hf _ (yc _)
def trS(a:RS):RS:=(2,fun j=>decide (j<16)&&a.2 (j % 4*4+j / 4))
theorem gQ(a:RS):qi qd 253 [eRS a] (eRS (trS a)):=by
 refine qSQ call253 func253 rfl {} ?_;simp[go_sem,qh];refine⟨qC _,?_⟩;refine ql.upK 16 (fun i st=>st.tm 1 = .ip (cRS a)/\st.tm 2 = .ptr 0 0/\st.tm 3 = .ptr 1 0/\st.tm 4=aI i/\st.mu=[.arr (aI 0 :: hB fun _=>false),.arr (aI 2 :: hB (fun j=>decide (j<16/\j % 4*4+j / 4<i)&&a.2 (j % 4*4+j / 4)))]) ?_ ?_
 .exact ⟨by simp[go_sem],by simp[go_sem],by simp[go_sem],by simp[go_sem],by simp[go_sem];first|rfl|exact⟨rfl,rfl⟩⟩
 rintro i st hi ⟨e1,e2,e3,e4,hm⟩;by_cases hlt:i<16
 .have hlt':(i:Int)<16:=by omega
  have w1:qj.wrap ((i:Int)+1)=(i:Int)+1:=qg (by omega) (by omega);obtain⟨q,hq⟩:∃ q:Nat,q=i % 4*4+i / 4:=⟨_,rfl⟩;have q16:q<16:=by omega
  have w2:qj.wrap ((i:Int).tmod 4)=((i % 4:Nat):Int):=by
   rw[wr (by omega)];rw[qg (by omega) (by omega)];omega
  have w3:qj.wrap (qj.wrap ((i:Int).tmod 4*4)+qj.wrap ((i:Int) / 4))=(q:Int):=by
   have x1:qj.wrap ((i:Int) % 4*4)=(i:Int) % 4*4:=qg (by omega) (by omega);have x2:qj.wrap ((i:Int) / 4)=(i:Int) / 4:=qg (by omega) (by omega);rw[wr (by omega),x1,x2,qg (by omega) (by omega)];omega
  generalize hG:(fun j=>decide (j<16/\j % 4*4+j / 4<i)&&a.2 (j % 4*4+j / 4))=G at *
  have hnext:(aI 2 :: hB G).set (1+q) (aB (a.2 i))=aI 2 :: hB (fun j=>decide (j<16/\j % 4*4+j / 4<i+1)&&a.2 (j % 4*4+j / 4)):=by
   rw[s1];refine congrArg (aI 2 :: ·) (vZ fun j hj=>?_);rw[<-hG];by_cases h1:j=q
   .have h2:j % 4*4+j / 4=i:=by omega
    rw[if_pos h1,h2,decide_eq_true ⟨by omega,by omega⟩];rfl
   .have h2:¬(j<16/\j % 4*4+j / 4=i):=fun h=>h1 (by omega)
    rw[if_neg h1];have h3:(j<16/\j % 4*4+j / 4<i+1)=(j<16/\j % 4*4+j / 4<i):=propext ⟨fun h=>⟨h.1,by omega⟩,fun h=>⟨h.1,by omega⟩⟩;rw[show decide (j<16/\j % 4*4+j / 4<i+1)=decide (j<16/\j % 4*4+j / 4<i) from decide_eq_decide.2 (by rw[h3])]
  have m2:=d0 a.2 i (by omega);have h64:(i:Int)<64:=by omega
  have hi2:1<=64-i:=by omega
  simp[go_sem,e1,e2,e3,e4,hm,hlt,hlt',h64,hi2,m2,qh,w1,w3,show (q:Int)<64 by omega,show 1+q<=64 by omega,hnext];exact Keep.mk' ⟨by simp[go_sem,e1],by simp[go_sem,e2],by simp[go_sem,e3],by simp[go_sem],by simp[go_sem]⟩
 .have hie:i=16:=by omega
  subst hie;have e:hB (fun j=>decide (j<16/\j % 4*4+j / 4<16)&&a.2 (j % 4*4+j / 4))=hB (trS a).2:=by
   refine vZ fun j hj=>?_
   rw[show decide (j<16/\j % 4*4+j / 4<16)=decide (j<16) from decide_eq_decide.2 ⟨fun h=>h.1,fun h=>⟨h,by omega⟩⟩];rfl
  rw[e]at hm;have hT:eRS (trS a) = .agg (aI 2 :: hB (trS a).2):=rfl;rw[hT];generalize (trS a).2=T at *
  simp[go_sem,e1,e2,e3,e4,hm,qh,tk,pc];rw[if_pos (qC _)];simp[go_sem,e1,e2,e3,e4,hm,qh,tk,pc];exact .hf _ (yc (2,T))
def uZ(a b:RS)(j:Nat):Bool:=a.2 (j / szA b.1)&&b.2 (j % szA b.1)
def WY(a b:RS):RS:=(a.1+b.1,fun j=>decide (j<szA a.1*szA b.1)&&uZ a b j)
theorem qhP(f:Nat->Bool)(p:Nat)(v:Bool)(hv:v=f p):∀ j,(if j=p then v else decide (j<p)&&f j)=(decide (j<p+1)&&f j):=fun j=>by
 by_cases h1:j=p
 .subst h1;simp[hv]
 .rw [if_neg h1,show decide (j<p+1)=decide (j<p) from decide_eq_decide.2 (by omega)]
theorem gR(a b:RS)(ha:0<=a.1/\a.1<=1000)(hb:0<=b.1/\b.1<=1000):qi qd 252 [eRS a,eRS b] (eRS (WY a b)):=by
 refine qSQ call252 func252 rfl {} ?_;have w0:qj.wrap (a.1+b.1)=a.1+b.1:=qg (by omega) (by omega);have hsa:=YN a.1;have hsb:=YN b.1;have ca:=Vv a.1;have cb:=Vv b.1;have hf:∀ j,uZ a b j=(a.2 (j / szA b.1)&&b.2 (j % szA b.1)):=fun _=>rfl
 simp[go_sem,qh];refine⟨qC _,qC _,?_⟩;simp[go_sem,qh,w0];refine qb.pure cb (.cons (.hf (HF.sc _)) .nil) ?_;generalize hE:WY a b=E;have hE1:E=(a.1+b.1,fun j=>decide (j<szA a.1*szA b.1)&&uZ a b j):=hE.symm;clear hE;generalize uZ a b=F at *
 generalize szA a.1=sa at *
 generalize szA b.1=n at *
 simp[go_sem,qh,w0];refine ql.upK sa (fun i st=>st.tm 2 = .ip (cRS a)/\st.tm 3 = .ip (cRS b)/\st.tm 4 = .ptr 0 0/\st.tm 5 = .ptr 1 0/\st.tm 6=aI n/\st.tm 7=aI i/\st.mu=[.arr (aI 0 :: hB fun _=>false),.arr (aI (a.1+b.1) :: hB (fun j=>decide (j<i*n)&&F j))]) ?_ ?_
 .exact ⟨by simp[go_sem],by simp[go_sem],by simp[go_sem],by simp[go_sem],by simp[go_sem],by simp[go_sem],by simp[go_sem];first|rfl|exact⟨rfl,rfl⟩⟩
 rintro i st hi ⟨e2,e3,e4,e5,e6,e7,hm⟩;simp[go_sem,e2,e3,e4,e5,e6,e7,hm];refine qb.pure ca (.cons (.hf (HF.sc _)) .nil) ?_;by_cases hlt:i<sa
 .have w1:qj.wrap ((i:Int)+1)=(i:Int)+1:=qg (by omega) (by omega)
  simp[go_sem,e2,e3,e4,e5,e6,e7,hm,hlt];refine ql.upK n (fun k st=>st.tm 2 = .ip (cRS a)/\st.tm 3 = .ip (cRS b)/\st.tm 4 = .ptr 0 0/\st.tm 5 = .ptr 1 0/\st.tm 6=aI n/\st.tm 7=aI i/\st.tm 8=aI k/\st.mu=[.arr (aI 0 :: hB fun _=>false),.arr (aI (a.1+b.1) :: hB (fun j=>decide (j<i*n+k)&&F j))]) ?_ ?_
  .exact ⟨by simp[go_sem,e2],by simp[go_sem,e3],by simp[go_sem,e4],by simp[go_sem,e5],by simp[go_sem,e6],by simp[go_sem,e7],by simp[go_sem],by simp[go_sem,hm]⟩
  clear e2 e3 e4 e5 e6 e7 hm;rintro k st hk ⟨e2,e3,e4,e5,e6,e7,e8,hm⟩;by_cases hkl:k<n
  .have w2:qj.wrap ((k:Int)+1)=(k:Int)+1:=qg (by omega) (by omega)
   obtain⟨p,hp⟩:∃ p:Nat,p=i*n+k:=⟨_,rfl⟩;have hpi:((i:Int)*n+k)=(p:Int):=by rw[hp];push_cast;rfl
   have hin:i*n<=63*64:=Nat.mul_le_mul (by omega) (by omega);have w3:qj.wrap ((i:Int)*n)=(i:Int)*n:=by
    have:((i*n:Nat):Int)=(i:Int)*n:=by push_cast;rfl
    rw[<-this];exact qg (by omega) (by omega)
   have w4:qj.wrap (p:Int)=(p:Int):=qg (by omega) (by omega);have hFp:F p=(a.2 i&&b.2 k):=by
    rw[hf,hp,Nat.add_comm,Nat.add_mul_div_right _ _ (by omega),Nat.add_mul_mod_self_right,Nat.div_eq_of_lt hkl,Nat.mod_eq_of_lt hkl,yC]
   have m1:=d0 a.2 i (by omega);have m2:=d0 b.2 k (by omega);have hi2:1<=64-i:=by omega
   have hk2:1<=64-k:=by omega
   have hi3:(i:Int)<64:=by omega
   have hk3:(k:Int)<64:=by omega
   have hq:∀ x:AV,(x :: hB (fun j=>decide (j<p)&&F j)).set (1+p) (aB true)=x :: hB (fun j=>if j=p then true else decide (j<p)&&F j):=fun x=>s1 x _ p true
   rw[<-hp]at hm;have hgo:F p=true->(fun j=>if j=p then true else decide (j<p)&&F j)=(fun j=>decide (j<p+1)&&F j):=fun h=>funext (qhP F p true h.symm)
   have hq2:F p=true->∀ x:AV,(x :: hB (fun j=>decide (j<p)&&F j)).set (1+p) (AV.sc (Value.bool true))=x :: hB (fun j=>decide (j<p+1)&&F j):=fun h x=>by rw[<-hgo h];exact hq x
   have hst:(F p=false\/64<=p)->hB (fun j=>decide (j<p)&&F j)=hB (fun j=>decide (j<p+1)&&F j):=fun h=>vZ fun j hj=>by
    by_cases h1:j=p
    .rcases h with h|h
     .rw [h1,h];simp
     .omega
    .rw [show decide (j<p+1)=decide (j<p) from decide_eq_decide.2 (by omega)]
   have done:∀ st':St,st'.tm 2 = .ip (cRS a)->st'.tm 3 = .ip (cRS b)->st'.tm 4 = .ptr 0 0->st'.tm 5 = .ptr 1 0->st'.tm 6=aI n->st'.tm 7=aI i->st'.tm 8=aI (k+1:Nat)->st'.mu=[.arr (aI 0 :: hB fun _=>false),.arr (aI (a.1+b.1) :: hB (fun j=>decide (j<p+1)&&F j))]->Keep (fun st=>st.tm 2 = .ip (cRS a)/\st.tm 3 = .ip (cRS b)/\st.tm 4 = .ptr 0 0/\st.tm 5 = .ptr 1 0/\st.tm 6=aI n/\st.tm 7=aI i/\st.tm 8=aI (k+1:Nat)/\st.mu=[.arr (aI 0 :: hB fun _=>false),.arr (aI (a.1+b.1) :: hB (fun j=>decide (j<i*n+(k+1))&&F j))]) .mk st':=
    fun st' b1 b2 b3 b4 b5 b6 b7 b8=>Keep.mk' ⟨b1,b2,b3,b4,b5,b6,b7,by rw[b8,hp];rfl⟩
   cases hai:a.2 i with
   |false =>
    rw[hai]at m1;simp[go_sem,e2,e3,e4,e5,e6,e7,e8,hm,hkl,qh,m1,m2,hi2,hk2,hi3,hk3,w2];exact done _ (by simp[go_sem,e2]) (by simp[go_sem,e3]) (by simp[go_sem,e4]) (by simp[go_sem,e5]) (by simp[go_sem,e6]) (by simp[go_sem,e7]) (by simp[go_sem]) (by simp[go_sem,hst (.inl (by rw[hFp,hai];rfl))])
   |true =>
    rw[hai]at m1;cases hbk:b.2 k with
    |false =>
     rw[hbk]at m2;simp[go_sem,e2,e3,e4,e5,e6,e7,e8,hm,hkl,qh,m1,m2,hi2,hk2,hi3,hk3,w2];exact done _ (by simp[go_sem,e2]) (by simp[go_sem,e3]) (by simp[go_sem,e4]) (by simp[go_sem,e5]) (by simp[go_sem,e6]) (by simp[go_sem,e7]) (by simp[go_sem]) (by simp[go_sem,hst (.inl (by rw[hFp,hai,hbk];rfl))])
    |true =>
     rw[hbk]at m2;by_cases h64:(p:Int)<64
     .simp [go_sem,e2,e3,e4,e5,e6,e7,e8,hm,hkl,qh,m1,m2,hi2,hk2,hi3,hk3,w2,w3,hpi,w4,h64,show 1+p<=64 by omega,hq2 (by rw[hFp,hai,hbk];rfl)]
      exact done _ (by simp[go_sem,e2]) (by simp[go_sem,e3]) (by simp[go_sem,e4]) (by simp[go_sem,e5]) (by simp[go_sem,e6]) (by simp[go_sem,e7]) (by simp[go_sem]) (by simp[go_sem])
     .simp [go_sem,e2,e3,e4,e5,e6,e7,e8,hm,hkl,qh,m1,m2,hi2,hk2,hi3,hk3,w2,w3,hpi,w4,h64]
      exact done _ (by simp[go_sem,e2]) (by simp[go_sem,e3]) (by simp[go_sem,e4]) (by simp[go_sem,e5]) (by simp[go_sem,e6]) (by simp[go_sem,e7]) (by simp[go_sem]) (by simp[go_sem,hst (.inr (by omega))])
  .have hke:k=n:=by omega
   subst hke;rw[show i*k+k=(i+1)*k by rw[Nat.add_mul,Nat.one_mul]]at hm;simp[go_sem,e2,e3,e4,e5,e6,e7,e8,hm,w1];exact⟨hlt,Keep.mk' ⟨by simp[go_sem,e2],by simp[go_sem,e3],by simp[go_sem,e4],by simp[go_sem,e5],by simp[go_sem,e6],by simp[go_sem],by simp[go_sem]⟩⟩
 .have hie:i=sa:=by omega
  subst hie;rw[hE1];generalize (fun j=>decide (j<i*n)&&F j)=T at *
  simp[go_sem,e2,e3,e4,e5,e6,e7,hm,qh,tk,pc];rw[if_pos (qC _)];simp[go_sem,e2,e3,e4,e5,e6,e7,hm,qh,tk,pc];exact .hf _ (yc (_,T))
def rowJ(a b:RS)(i kk j:Nat):Bool:=(qq kk).any fun k=>decide (i / 4*(szA b.1 / 4)+k % (szA b.1 / 4)=j)&&(decide (i % 4=k / (szA b.1 / 4))&&(a.2 i&&b.2 k))
def QY(a b:RS):RS:=(a.1+b.1-2,fun j=>(qq (szA a.1)).any fun i=>rowJ a b i (szA b.1) j)
theorem qhQ(a b:RS)(i k j:Nat):rowJ a b i (k+1) j=(rowJ a b i k j||(decide (i / 4*(szA b.1 / 4)+k % (szA b.1 / 4)=j)&&(decide (i % 4=k / (szA b.1 / 4))&&(a.2 i&&b.2 k)))):=by
 unfold rowJ;rw[List.range_succ,List.any_append];simp
theorem qhR{k:Int}(h:1<=k):4<=szA k:=by unfold szA;split<;>(try split)<;>(try split)<;>omega
theorem vT(a b:RS)(ha:0<=a.1/\a.1<=1000)(hb:1<=b.1/\b.1<=1000):qi qd 251 [eRS a,eRS b] (eRS (QY a b)):=by
 refine qSQ call251 func251 rfl {} ?_;have w0:qj.wrap (a.1+b.1)=a.1+b.1:=qg (by omega) (by omega);have w00:qj.wrap (a.1+b.1-2)=a.1+b.1-2:=qg (by omega) (by omega);have hsa:=YN a.1;have hsb:=YN b.1;have hge:=qhR hb.1;have ca:=Vv a.1;have cb:=Vv b.1;have hR:∀ i k j,rowJ a b i (k+1) j=(rowJ a b i k j||(decide (i / 4*(szA b.1 / 4)+k % (szA b.1 / 4)=j)&&(decide (i % 4=k / (szA b.1 / 4))&&(a.2 i&&b.2 k)))):=qhQ a b;have hR0:∀ i j,rowJ a b i 0 j=false:=fun i j=>rfl
 simp[go_sem,qh];refine⟨qC _,qC _,?_⟩;simp[go_sem,qh,w0,w00];refine qb.pure cb (.cons (.hf (HF.sc _)) .nil) ?_;generalize hE:QY a b=E;have hE1:E=(a.1+b.1-2,fun j=>(qq (szA a.1)).any fun i=>rowJ a b i (szA b.1) j):=hE.symm;clear hE;generalize rowJ a b=F at *
 generalize szA a.1=sa at *
 generalize szA b.1=sb at *
 obtain⟨n,hn⟩:∃ n:Nat,n=sb / 4:=⟨_,rfl⟩;have hn1:1<=n/\n<=16:=by omega
 have wn:qj.wrap ((sb:Int) / 4)=(n:Int):=by rw[qg (by omega) (by omega)];omega
 rw[<-hn]at hR;simp[go_sem,qh,w0,wn];refine ql.upK sa (fun i st=>st.tm 2 = .ip (cRS a)/\st.tm 3 = .ip (cRS b)/\st.tm 4 = .ptr 0 0/\st.tm 5 = .ptr 1 0/\st.tm 6=aI n/\st.tm 7=aI i/\st.mu=[.arr (aI 0 :: hB fun _=>false),.arr (aI (a.1+b.1-2) :: hB (fun j=>(qq i).any fun i=>F i sb j))]) ?_ ?_
 .exact ⟨by simp[go_sem],by simp[go_sem],by simp[go_sem],by simp[go_sem],by simp[go_sem],by simp[go_sem],by simp[go_sem];first|rfl|exact⟨rfl,rfl⟩⟩
 rintro i st hi ⟨e2,e3,e4,e5,e6,e7,hm⟩;simp[go_sem,e2,e3,e4,e5,e6,e7,hm];refine qb.pure ca (.cons (.hf (HF.sc _)) .nil) ?_;by_cases hlt:i<sa
 .have w1:qj.wrap ((i:Int)+1)=(i:Int)+1:=qg (by omega) (by omega)
  generalize hP:(fun j=>(qq i).any fun i=>F i sb j)=P at *
  simp[go_sem,e2,e3,e4,e5,e6,e7,hm,hlt];refine ql.upK sb (fun k st=>st.tm 2 = .ip (cRS a)/\st.tm 3 = .ip (cRS b)/\st.tm 4 = .ptr 0 0/\st.tm 5 = .ptr 1 0/\st.tm 6=aI n/\st.tm 7=aI i/\st.tm 8=aI k/\st.mu=[.arr (aI 0 :: hB fun _=>false),.arr (aI (a.1+b.1-2) :: hB (fun j=>P j||F i k j))]) ?_ ?_
  .exact ⟨by simp[go_sem,e2],by simp[go_sem,e3],by simp[go_sem,e4],by simp[go_sem,e5],by simp[go_sem,e6],by simp[go_sem,e7],by simp[go_sem],by simp[go_sem,hm,hR0]⟩
  clear e2 e3 e4 e5 e6 e7 hm;rintro k st hk ⟨e2,e3,e4,e5,e6,e7,e8,hm⟩;simp[go_sem,e2,e3,e4,e5,e6,e7,e8,hm];refine qb.pure cb (.cons (.hf (HF.sc _)) .nil) ?_;by_cases hkl:k<sb
  .have w2:qj.wrap ((k:Int)+1)=(k:Int)+1:=qg (by omega) (by omega)
   obtain⟨p,hp⟩:∃ p:Nat,p=i / 4*n+k % n:=⟨_,rfl⟩;have hkn:k % n<n:=Nat.mod_lt _ (by omega);have hin:i / 4*n<=15*16:=Nat.mul_le_mul (by omega) (by omega);have y1:((i / 4:Nat):Int)=(i:Int) / 4:=by omega
   have y2:((i / 4*n:Nat):Int)=(i:Int) / 4*n:=by rw[<-y1];push_cast;rfl
   have y3:((k % n:Nat):Int)=(k:Int) % n:=rfl;have y4:((k / n:Nat):Int)=(k:Int) / n:=rfl;have hkd:k / n<=64:=q7 (Nat.div_le_self k n) (by omega);have x1:qj.wrap ((i:Int) / 4)=(i:Int) / 4:=qg (by omega) (by omega);have x2:qj.wrap ((i:Int) / 4*n)=(i:Int) / 4*n:=by rw[<-y2];exact qg (by omega) (by omega)
   have x4:qj.wrap ((i:Int) / 4*n+(k:Int) % n)=(p:Int):=by rw[<-y2,<-y3,qg (by omega) (by omega),hp];push_cast;rfl
   have x4t:qj.wrap ((i:Int) / 4*n+(k:Int).tmod n)=(p:Int):=by rw[wr (by omega)];exact x4
   have x5:qj.wrap ((k:Int) / n)=(k:Int) / n:=by
    rw[<-y4];clear y4;generalize k / n=c at hkd⊢;exact qg (by omega) (by omega)
   have hn0:¬n=0:=by omega
   have m1:=d0 a.2 i (by omega);have m2:=d0 b.2 k (by omega);have hi2:1<=64-i:=by omega
   have hk2:1<=64-k:=by omega
   have hi3:(i:Int)<64:=by omega
   have hk3:(k:Int)<64:=by omega
   have hst:((decide (i % 4=k / n)&&(a.2 i&&b.2 k))=false\/64<=p)->hB (fun j=>P j||F i k j)=hB (fun j=>P j||F i (k+1) j):=fun h=>vZ fun j hj=>by
    rw[hR,<-hp];rcases h with h|h
    .rw [h,Bool.and_false,Bool.or_false]
    .rw [decide_eq_false (by omega),Bool.false_and,Bool.or_false]
   have hq2:(decide (i % 4=k / n)&&(a.2 i&&b.2 k))=true->∀ x:AV,(x :: hB (fun j=>P j||F i k j)).set (1+p) (AV.sc (Value.bool true))=x :: hB (fun j=>P j||F i (k+1) j):=fun h x=>by
    refine(s1 x _ p true).trans (congrArg (x :: ·) (vZ fun j hj=>?_));rw[hR,<-hp,h,Bool.and_true];by_cases h1:j=p
    .rw [if_pos h1,h1];simp
    .rw [if_neg h1,decide_eq_false (fun e=>h1 e.symm),Bool.or_false]
   have done:∀ st':St,st'.tm 2 = .ip (cRS a)->st'.tm 3 = .ip (cRS b)->st'.tm 4 = .ptr 0 0->st'.tm 5 = .ptr 1 0->st'.tm 6=aI n->st'.tm 7=aI i->st'.tm 8=aI (k+1:Nat)->st'.mu=[.arr (aI 0 :: hB fun _=>false),.arr (aI (a.1+b.1-2) :: hB (fun j=>P j||F i (k+1) j))]->Keep (fun st=>st.tm 2 = .ip (cRS a)/\st.tm 3 = .ip (cRS b)/\st.tm 4 = .ptr 0 0/\st.tm 5 = .ptr 1 0/\st.tm 6=aI n/\st.tm 7=aI i/\st.tm 8=aI (k+1:Nat)/\st.mu=[.arr (aI 0 :: hB fun _=>false),.arr (aI (a.1+b.1-2) :: hB (fun j=>P j||F i (k+1) j))]) .mk st':=
    fun st' b1 b2 b3 b4 b5 b6 b7 b8=>Keep.mk' ⟨b1,b2,b3,b4,b5,b6,b7,b8⟩
   cases hai:a.2 i with
   |false =>
    rw[hai]at m1;simp[go_sem,e2,e3,e4,e5,e6,e7,e8,hm,hkl,qh,x1,x2,x4,hn0,m1,m2,hi2,hi3,hk2,hk3,w2];exact done _ (by simp[go_sem,e2]) (by simp[go_sem,e3]) (by simp[go_sem,e4]) (by simp[go_sem,e5]) (by simp[go_sem,e6]) (by simp[go_sem,e7]) (by simp[go_sem]) (by simp[go_sem,hst (.inl (by rw[hai];simp))])
   |true =>
    rw[hai]at m1;cases hbk:b.2 k with
    |false =>
     rw[hbk]at m2;simp[go_sem,e2,e3,e4,e5,e6,e7,e8,hm,hkl,qh,x1,x2,x4,hn0,m1,m2,hi2,hi3,hk2,hk3,w2];exact done _ (by simp[go_sem,e2]) (by simp[go_sem,e3]) (by simp[go_sem,e4]) (by simp[go_sem,e5]) (by simp[go_sem,e6]) (by simp[go_sem,e7]) (by simp[go_sem]) (by simp[go_sem,hst (.inl (by rw[hbk];simp))])
    |true =>
     rw[hbk]at m2;by_cases hq:i % 4=k / n
     .have hqi:(i:Int).tmod 4=(k:Int) / n:=by rw[wr (by omega),<-y4,<-hq];rfl
      by_cases h64:(p:Int)<64
      .simp [go_sem,e2,e3,e4,e5,e6,e7,e8,hm,hkl,qh,x1,x2,x4,x4t,x5,hn0,m1,m2,hi2,hi3,hk2,hk3,w2,hqi,h64,show 1+p<=64 by omega,hq2 (by rw[decide_eq_true hq,hai,hbk];rfl)]
       exact done _ (by simp[go_sem,e2]) (by simp[go_sem,e3]) (by simp[go_sem,e4]) (by simp[go_sem,e5]) (by simp[go_sem,e6]) (by simp[go_sem,e7]) (by simp[go_sem]) (by simp[go_sem])
      .simp [go_sem,e2,e3,e4,e5,e6,e7,e8,hm,hkl,qh,x1,x2,x4,x4t,x5,hn0,m1,m2,hi2,hi3,hk2,hk3,w2,hqi,h64]
       exact done _ (by simp[go_sem,e2]) (by simp[go_sem,e3]) (by simp[go_sem,e4]) (by simp[go_sem,e5]) (by simp[go_sem,e6]) (by simp[go_sem,e7]) (by simp[go_sem]) (by simp[go_sem,hst (.inr (by omega))])
     .have hqi:¬(i:Int).tmod 4=(k:Int) / n:=fun e=>hq (by rw[wr (by omega),<-y4]at e;exact Int.ofNat.inj e)
      simp[go_sem,e2,e3,e4,e5,e6,e7,e8,hm,hkl,qh,x1,x2,x4,x4t,x5,hn0,m1,m2,hi2,hi3,hk2,hk3,w2,hqi];exact done _ (by simp[go_sem,e2]) (by simp[go_sem,e3]) (by simp[go_sem,e4]) (by simp[go_sem,e5]) (by simp[go_sem,e6]) (by simp[go_sem,e7]) (by simp[go_sem]) (by simp[go_sem,hst (.inl (by rw[decide_eq_false hq];rfl))])
  .have hke:k=sb:=by omega
   subst hke;simp[go_sem,e2,e3,e4,e5,e6,e7,e8,hm,w1];exact⟨hlt,Keep.mk' ⟨by simp[go_sem,e2],by simp[go_sem,e3],by simp[go_sem,e4],by simp[go_sem,e5],by simp[go_sem,e6],by simp[go_sem],by simp[go_sem];rw[<-hP]⟩⟩
 .have hie:i=sa:=by omega
  subst hie;rw[hE1];generalize (fun j=>(qq i).any fun i=>F i sb j)=T at *
  simp[go_sem,e2,e3,e4,e5,e6,e7,hm,qh,tk,pc];rw[if_pos (qC _)];simp[go_sem,e2,e3,e4,e5,e6,e7,hm,qh,tk,pc];exact .hf _ (yc (_,T))
end QE
namespace PB
open P1 P2 Y1 Y2 Y6 Y9 YW
def Sub(a b:Kd):Prop:=a.ar=b.ar/\∀ t,t∈a.ts->t∈b.ts
theorem qhS{n m:Nat}{a a' b b':List Tp}(ha:∀ t,t∈a->t∈a')(hb:∀ t,t∈b->t∈b'):∀ t,t∈vR n m a b->t∈vR n m a' b':=fun t ht=>by
 obtain⟨x,y,⟨hx,hy⟩,hf⟩:=uY.1 ht;exact uY.2 ⟨x,y,⟨ha x hx,hb y hy⟩,hf⟩
theorem WZ{a a' b b':Kd}(ha:Sub a a')(hb:Sub b b'):Sub (zA a b) (zA a' b'):=by
 refine⟨by simp only[zA];rw[ha.1,hb.1],fun t ht=>?_⟩;simp only[zA]at ht⊢;rw[<-ha.1,<-hb.1];exact qhS ha.2 hb.2 t ht
theorem ZN{a b:Kd}{t:Tp}:t∈(kSum a b).ts↔t∈a.ts\/t∈b.ts:=by
 show t∈uni (uni [] a.ts) b.ts↔_;rw[ve,ve];simp
theorem Sub.refl(a:Kd):Sub a a:=⟨rfl,fun _ h=>h⟩
theorem Sub.trans{a b c:Kd}(h:Sub a b)(k:Sub b c):Sub a c:=⟨h.1.trans k.1,fun t ht=>k.2 t (h.2 t ht)⟩
theorem W0(a b:Kd):Sub a (kSum a b):=⟨rfl,fun t ht=>ZN.2 (.inl ht)⟩
def Vw(k:Kd):Prop:=∀ t,t∈(zA k k).ts->t∈k.ts
theorem gS:∀(f n:Nat) (a:Kd),Sub a (cloN f n a)
 | 0,n,a => .refl a
 |f+1,n,a=>by
  unfold cloN;split
  .exact (W0 a _).trans (gS f _ _)
  .exact .refl a
theorem gT{S:Kd}(hS:Vw S):∀(f n:Nat) (a:Kd),Sub a S->Sub (cloN f n a) S
 | 0,n,a,h=>h
 |f+1,n,a,h=>by
  unfold cloN;split
  .refine gT hS f _ _ ⟨h.1,fun t ht=>?_⟩
   rcases ZN.1 ht with ht|ht
   .exact h.2 t ht
   .exact hS t ((WZ h h).2 t ht)
  .exact h
theorem gU{ns:Nat}(hns:ns<=4):∀(f n:Nat) (a:Kd),okKd ns a->a.ar=2->70<=f+n->(n=0\/∃ p,okKd ns p/\p.ar=2/\n=p.ts.length/\a=kSum p (zA p p))->Vw (cloN f n a)
 | 0,n,a,ha,h2,hf,hI=>by
  rcases hI with rfl|⟨p,hp,_,rfl,_⟩
  .omega
  .have:=okKd.le64 hp hns
   omega
 |f+1,n,a,ha,h2,hf,hI=>by
  unfold cloN;split
  .rename_i hlt
   have hj:okKd ns (zA a a):=YI ha ha (by omega) (by omega);refine gU hns f _ _ (Yy ha hj (by simp only[zA];omega)) h2 (by omega) (.inr ⟨a,ha,h2,rfl,rfl⟩)
  .rename_i hge
   rcases hI with rfl|⟨p,hp,hp2,rfl,rfl⟩
   .have:a.ts=[]:=vK (by omega)
    intro t ht;obtain⟨x,y,⟨hx,_⟩,_⟩:=uY.1 ht;rw[this]at hx;exact absurd hx zr
   .have hsub:∀ t,t∈(kSum p (zA p p)).ts->t∈p.ts:=by
     have hnd:(kSum p (zA p p)).ts.Nodup:=ha.nd;have hps:∀ t,t∈p.ts->t∈(kSum p (zA p p)).ts:=(W0 p _).2;intro t ht;by_cases hm:t∈p.ts
     .exact hm
     .exfalso
      have hnd2:(t :: p.ts).Nodup:=List.nodup_cons.2 ⟨hm,hp.nd⟩;have:=jH hnd2 (l₂:=(kSum p (zA p p)).ts) (fun x hx=>by
       rcases qB.1 hx with rfl|hx
       .exact ht
       .exact hps x hx)
      simp only[z6]at this;omega
    intro t ht;have hs:Sub (kSum p (zA p p)) p:=⟨rfl,hsub⟩;exact ZN.2 (.inr ((WZ hs hs).2 t ht))
section
variable {ts:TS} (ok:okTS ts) (a b d:Nd)
include ok
end
end PB
namespace QF
open Y2 Y3 P1 P2 QD QE
def dig(k:Int)(j:Nat):List Int:=if k=0 then [] else if k=1 then [(j:Int)] else if k=2 then [((j / 4:Nat):Int),((j % 4:Nat):Int)] else [((j / 16:Nat):Int),((j / 4 % 4:Nat):Int),((j % 4:Nat):Int)]
theorem QZ{k:Int}(h:0<=k/\k<=3)(j:Nat):((dig k j).length:Int)=k:=by
 unfold dig;split
 .simp;omega
 .split
  .simp;omega
  .split
   .simp;omega
   .simp;omega
theorem szA1:szA 1=4:=rfl
theorem szA2:szA 2=16:=rfl
theorem szA3:szA 3=64:=rfl
theorem YO{p:Int}(h:0<=p/\p<=3):p=0\/p=1\/p=2\/p=3:=by omega
theorem gV{p q:Int}(hp:0<=p)(hq:0<=q)(h:p+q<=3){j:Nat}(hj:j<szA (p+q)):j / szA q<szA p/\j % szA q<szA q/\dig (p+q) j=dig p (j / szA q)++dig q (j % szA q):=by
 rcases YO (p:=p) ⟨hp,by omega⟩ with rfl|rfl|rfl|rfl<;>rcases YO (p:=q) ⟨hq,by omega⟩ with rfl|rfl|rfl|rfl<;>first | (exfalso;omega)|skip
 all_goals simp[dig,szA]at hj⊢
 all_goals omega
theorem W3{p q:Int}(hp:0<=p)(hq:0<=q)(h:p+q<=3){i k:Nat}(hi:i<szA p)(hk:k<szA q):i*szA q+k<szA (p+q)/\dig (p+q) (i*szA q+k)=dig p i++dig q k:=by
 rcases YO (p:=p) ⟨hp,by omega⟩ with rfl|rfl|rfl|rfl<;>rcases YO (p:=q) ⟨hq,by omega⟩ with rfl|rfl|rfl|rfl<;>first | (exfalso;omega)|skip
 all_goals simp[dig,szA]at hi hk⊢
 all_goals omega
theorem W4{p:Int}(h:0<=p/\p<=3){i j:Nat}(hi:i<szA p)(hj:j<szA p)(e:dig p i=dig p j):i=j:=by
 rcases YO h with rfl|rfl|rfl|rfl
 all_goals simp[dig,szA]at hi hj e
 all_goals omega
theorem gW{p:Int}(h:1<=p/\p<=3){l:List Int}(hl:(l.length:Int)=p)(hx:∀ x,x∈l->0<=x/\x<4):∃ i,i<szA p/\l=dig p i:=by
 match l,hl,hx with
 | [],hl,_=>simp at hl;omega
 | [a],hl,hx =>
  obtain rfl:p=1:=by simpa using hl.symm
  have:=hx a (by simp);exact⟨a.toNat,by rw[szA1];omega,by simp[dig];omega⟩
 | [a,b],hl,hx =>
  obtain rfl:p=2:=by simpa using hl.symm
  have:=hx a (by simp);have:=hx b (by simp);exact⟨(a*4+b).toNat,by rw[szA2];omega,by simp[dig];omega⟩
 | [a,b,c],hl,hx =>
  obtain rfl:p=3:=by simpa using hl.symm
  have:=hx a (by simp);have:=hx b (by simp);have:=hx c (by simp);exact⟨(a*16+b*4+c).toNat,by rw[szA3];omega,by simp[dig];omega⟩
 |a :: b :: c :: d :: l,hl,_=>simp at hl;omega
theorem W5{l l':List Int}(h:l.length=l'.length)(h3:l.length<=3)(e:pad l=pad l'):l=l':=by
 have e1:=wK h3 l.length (qr _);have e2:=wK (l:=l') (by omega) l'.length (qr _);rw[zw]at e1 e2;rw[<-e1,<-e2,e,h]
theorem ZO{ns:Nat}{k:Kd}(h:okKd ns k)(hns:ns<=4){t:Tp}(ht:t∈k.ts):∃ i,i<szA k.ar/\t=pad (dig k.ar i):=by
 obtain⟨l,rfl,hl,hx⟩:=h.ts t ht;obtain⟨i,hi,e⟩:=gW h.ar hl fun x hm=>by have:=hx x hm;omega
 exact⟨i,hi,by rw[e]⟩
def qm(k:Kd):RS:=(k.ar,fun j=>decide (j<szA k.ar/\pad (dig k.ar j)∈k.ts))
theorem yp(k:Kd)(j:Nat):(qm k).2 j=true↔j<szA k.ar/\pad (dig k.ar j)∈k.ts:=decide_eq_true_iff
theorem wg{a b:RS}(h1:a.1=b.1)(h2:∀ j,j<64->a.2 j=b.2 j):eRS a=eRS b:=by
 simp only[eRS,cRS,h1,vZ h2]
theorem YP{a b:Kd}(h:a.ar=b.ar):eRS (uniS (qm a) (qm b))=eRS (qm (kSum a b)):=by
 refine wg rfl fun j hj=>?_
 rw[jG,yp];show ((qm a).2 j||(qm b).2 j)=true↔j<szA a.ar/\pad (dig a.ar j)∈uni (uni [] a.ts) b.ts;rw[Bool.or_eq_true,yp,yp,<-h,ve,ve];constructor
 .rintro (⟨h1,h2⟩|⟨h1,h2⟩)
  .exact ⟨h1,.inl (.inr h2)⟩
  .exact ⟨h1,.inr h2⟩
 .rintro ⟨h1,(h2|h2)|h2⟩
  .cases h2
  .exact .inl ⟨h1,h2⟩
  .exact .inr ⟨h1,h2⟩
theorem qhT{a b:Kd}(h:a.ar=b.ar):eRS (intS (qm a) (qm b))=eRS (qm (Uy a b)):=by
 refine wg rfl fun j hj=>?_
 rw[jG,yp];show ((qm a).2 j&&(qm b).2 j)=true↔j<szA a.ar/\pad (dig a.ar j)∈a.ts.filter fun t=>decide (t∈b.ts)
 rw[qx,yp,yp,<-h,List.mem_filter,decide_eq_true_eq];constructor
 .rintro ⟨⟨h1,h2⟩,_,h3⟩;exact⟨h1,h2,h3⟩
 .rintro ⟨h1,h2,h3⟩;exact⟨⟨h1,h2⟩,h1,h3⟩
theorem JU{n m:Nat}{a b:List Tp}{t:Tp}:t∈Qg n m a b↔∃ x y,x∈a/\y∈b/\conc x n y m 0=t:=by
 unfold Qg;rw[ve];simp only[zr,false_or,qs,Prod.exists,Zx];constructor
 .rintro ⟨x,y,⟨h1,h2⟩,h3⟩;exact⟨x,y,h1,h2,h3⟩
 .rintro ⟨x,y,h1,h2,h3⟩;exact⟨x,y,⟨h1,h2⟩,h3⟩
theorem Yz{l l':List Int}{n m:Nat}(h:l.length=n)(h':l'.length=m)(hn:n<=3)(hm:m<=3):conc (pad l) n (pad l') m 0=pad (l++l'):=by
 unfold conc;rw[Nat.sub_zero,List.drop_zero,wK (by omega) n (by omega),wK (by omega) m (by omega),<-h,<-h',zw,zw]
theorem qhU{ns:Nat}{a b:Kd}(ha:okKd ns a)(hb:okKd ns b)(hns:ns<=4)(h3:a.ar+b.ar<=3):eRS (WY (qm a) (qm b))=eRS (qm (Qh a b)):=by
 have har:=ha.ar;have hbr:=hb.ar;have la:=fun i=>QZ (k:=a.ar) (by omega) i
 have lb:=fun i=>QZ (k:=b.ar) (by omega) i
 have lab:=fun i=>QZ (k:=a.ar+b.ar) (by omega) i
 refine wg rfl fun j hj=>?_
 rw[jG,yp];show (decide (j<szA a.ar*szA b.ar)&&((qm a).2 (j / szA b.ar)&&(qm b).2 (j % szA b.ar)))=true↔j<szA (a.ar+b.ar)/\pad (dig (a.ar+b.ar) j)∈Qg a.ar.toNat b.ar.toNat a.ts b.ts;rw[qx,qx,yp,yp,JU,decide_eq_true_eq];constructor
 .rintro ⟨_,⟨h1,h2⟩,h4,h5⟩
  have hm:=W3 (p:=a.ar) (q:=b.ar) (by omega) (by omega) h3 h1 h4;have hd:j / szA b.ar*szA b.ar+j % szA b.ar=j:=Nat.div_add_mod' j _;rw[hd]at hm;refine⟨hm.1,_,_,h2,h5,?_⟩;rw[hm.2];exact Yz (by have:=la (j / szA b.ar);omega) (by have:=lb (j % szA b.ar);omega) (by omega) (by omega)
 .rintro ⟨h1,x,y,hx,hy,e⟩
  obtain⟨i,hi,rfl⟩:=ZO ha hns hx;obtain⟨k,hk,rfl⟩:=ZO hb hns hy;rw[Yz (by have:=la i;omega) (by have:=lb k;omega) (by omega) (by omega)]at e;have hm:=W3 (p:=a.ar) (q:=b.ar) (by omega) (by omega) h3 hi hk;rw[<-hm.2]at e;have e2:=W5 (by have:=lab (i*szA b.ar+k);have:=lab j;omega) (by have:=lab (i*szA b.ar+k);omega) e;have e3:=W4 (by omega) hm.1 h1 e2;have hsb:=YN b.ar;have d1:j / szA b.ar=i:=by rw[<-e3,Nat.add_comm,Nat.add_mul_div_right _ _ (by omega),Nat.div_eq_of_lt hk,yC]
  have d2:j % szA b.ar=k:=by rw[<-e3,Nat.add_comm,Nat.add_mul_mod_self_right,Nat.mod_eq_of_lt hk]
  rw[d1,d2];refine⟨?_,⟨hi,hx⟩,hk,hy⟩;rw[<-e3]
  calc i*szA b.ar+k<i*szA b.ar+szA b.ar:=by omega
   _=(i+1)*szA b.ar:=by rw[Nat.add_mul,Nat.one_mul]
   _<=szA a.ar*szA b.ar:=Nat.mul_le_mul_right _ hi
theorem uY{n m:Nat}{a b:List Tp}{t:Tp}:t∈vR n m a b↔∃ x y,x∈a/\y∈b/\x.getD (n-1) 0=y.getD 0 0/\conc x n y m 1=t:=by
 unfold vR;rw[ve];simp only[zr,false_or,List.mem_filterMap,Prod.exists,Zx];constructor
 .rintro ⟨x,y,⟨h1,h2⟩,h3⟩
  split at h3
  .rename_i h;cases h3;exact⟨x,y,h1,h2,h,rfl⟩
  .cases h3
 .rintro ⟨x,y,h1,h2,h3,h4⟩;exact⟨x,y,⟨h1,h2⟩,by rw[if_pos h3,h4]⟩
theorem qhV{u v:List Int}{e f:Int}{n m:Nat}(h:u.length+1=n)(h':v.length+1=m)(hn:n<=3)(hm:m<=3):conc (pad (u++[e])) n (pad ([f]++v)) m 1=pad (u++v):=by
 unfold conc;rw[wK (by simp;omega) (n-1) (by simp;omega),wK (by simp;omega) m (by simp;omega),List.take_append_of_le_length (by omega),zU (by omega),zU (by simp;omega)];rfl
theorem gX{l:List Int}{k:Nat}(h:k<3):(pad l).getD k 0=l.getD k 0:=by
 match k,h with
 | 0,_=>rfl
 | 1,_=>rfl
 | 2,_=>rfl
theorem qhW{p:Int}(hp:0<=p/\p<=2){i:Nat}(hi:i<szA (p+1)):i / 4<szA p/\dig (p+1) i=dig p (i / 4)++[((i % 4:Nat):Int)]:=by
 have:=gV (p:=p) (q:=1) hp.1 (by omega) (by omega) hi;rw[szA1]at this;exact⟨this.1,this.2.2⟩
theorem qhX{q:Int}(hq:0<=q/\q<=2){k:Nat}(hk:k<szA (1+q)):k % szA q<szA q/\dig (1+q) k=[((k / szA q:Nat):Int)]++dig q (k % szA q):=by
 have:=gV (p:=1) (q:=q) (by omega) hq.1 (by omega) hk;exact⟨this.2.1,this.2.2⟩
theorem qhY{q:Int}(hq:0<=q/\q<=2):szA (q+1) / 4=szA q/\szA (q+1)=4*szA q:=by
 rcases (show q=0\/q=1\/q=2 by omega) with rfl|rfl|rfl<;>exact⟨rfl,rfl⟩
theorem gY{ns:Nat}{a b:Kd}(ha:okKd ns a)(hb:okKd ns b)(hns:ns<=4)(h3:1<=a.ar+b.ar-2/\a.ar+b.ar-2<=3):eRS (QY (qm a) (qm b))=eRS (qm (zA a b)):=by
 have har:=ha.ar;have hbr:=hb.ar;obtain⟨p,hp⟩:∃ p,p=a.ar-1:=⟨_,rfl⟩;obtain⟨q,hq⟩:∃ q,q=b.ar-1:=⟨_,rfl⟩;have ea:a.ar=p+1:=by omega
 have eb:b.ar=1+q:=by omega
 have eb':b.ar=q+1:=by omega
 have eab:a.ar+b.ar-2=p+q:=by omega
 have hst:=qhY (q:=q) (by omega);have hn:szA b.ar / 4=szA q:=by rw[eb'];exact hst.1
 have lp:=fun i=>QZ (k:=p) (by omega) i
 have lq:=fun i=>QZ (k:=q) (by omega) i
 have lpq:=fun i=>QZ (k:=p+q) (by omega) i
 have A:∀ i,i<szA a.ar->i / 4<szA p/\dig a.ar i=dig p (i / 4)++[((i % 4:Nat):Int)]:=fun i hi=>by rw[ea]at hi⊢;exact qhW (by omega) hi
 have B:∀ k,k<szA b.ar->k % szA q<szA q/\dig b.ar k=[((k / szA q:Nat):Int)]++dig q (k % szA q):=fun k hk=>by rw[eb]at hk⊢;exact qhX (by omega) hk
 have J:∀ i k,i<szA a.ar->k<szA b.ar->i / 4*szA q+k % szA q<szA (p+q)/\(pad (dig a.ar i)).getD (a.ar.toNat-1) 0=((i % 4:Nat):Int)/\(pad (dig b.ar k)).getD 0 0=((k / szA q:Nat):Int)/\conc (pad (dig a.ar i)) a.ar.toNat (pad (dig b.ar k)) b.ar.toNat 1=pad (dig (p+q) (i / 4*szA q+k % szA q)):=fun i k hi hk=>by
  obtain⟨a1,a2⟩:=A i hi;obtain⟨b1,b2⟩:=B k hk;have hm:=W3 (p:=p) (q:=q) (by omega) (by omega) (by omega) a1 b1;have l1:=lp (i / 4);have l2:=lq (k % szA q);refine⟨hm.1,?_,?_,?_⟩
  .rw [gX (by omega),a2,show a.ar.toNat-1=(dig p (i / 4)).length by omega];simp
  .rw [gX (by omega),b2];rfl
  .rw [a2,b2,hm.2];exact qhV (by omega) (by omega) (by omega) (by omega)
 refine wg rfl fun j hj=>?_
 rw[jG,yp];show ((qq (szA a.ar)).any fun i=>(qq (szA b.ar)).any fun k=>decide (i / 4*(szA b.ar / 4)+k % (szA b.ar / 4)=j)&&(decide (i % 4=k / (szA b.ar / 4))&&((qm a).2 i&&(qm b).2 k)))=true↔j<szA (a.ar+b.ar-2)/\pad (dig (a.ar+b.ar-2) j)∈vR a.ar.toNat b.ar.toNat a.ts b.ts;rw[uY,List.any_eq_true,hn,eab];constructor
 .rintro ⟨i,hi,h⟩
  obtain⟨k,hk,h⟩:=List.any_eq_true.1 h;rw[zI]at hi hk;rw[qx,qx,qx,decide_eq_true_eq,decide_eq_true_eq,yp,yp]at h;obtain⟨rfl,h2,⟨_,h4⟩,_,h5⟩:=h;obtain⟨j1,j2,j3,j4⟩:=J i k hi hk;exact⟨j1,_,_,h4,h5,by rw[j2,j3,h2],j4⟩
 .rintro ⟨h1,x,y,hx,hy,h2,e⟩
  obtain⟨i,hi,rfl⟩:=ZO ha hns hx;obtain⟨k,hk,rfl⟩:=ZO hb hns hy;obtain⟨j1,j2,j3,j4⟩:=J i k hi hk;rw[j4]at e;have e2:=W5 (by have:=lpq (i / 4*szA q+k % szA q);have:=lpq j;omega) (by have:=lpq (i / 4*szA q+k % szA q);omega) e;have e3:=W4 (by omega) j1 h1 e2;rw[j2,j3]at h2;refine⟨i,zI.2 hi,List.any_eq_true.2 ⟨k,zI.2 hk,?_⟩⟩;rw[qx,qx,qx,decide_eq_true_eq,decide_eq_true_eq,yp,yp];exact⟨e3,by omega,⟨hi,hx⟩,hk,hy⟩
theorem qhZ{ns:Nat}{a:Kd}(ha:okKd ns a)(hns:ns<=4)(h2:a.ar=2):eRS (trS (qm a))=eRS (qm (kTr a)):=by
 refine wg rfl fun j hj=>?_
 rw[jG,yp];show (decide (j<16)&&(qm a).2 (j % 4*4+j / 4))=true↔j<16/\pad (dig 2 j)∈uni [] (a.ts.map fun t=>[t.getD 1 0,t.getD 0 0,0]);rw[qx,yp,ve,decide_eq_true_eq,h2,szA2];simp only[zr,false_or,qs];constructor
 .rintro ⟨h1,h3,h4⟩
  refine⟨h1,_,h4,?_⟩;simp[dig,pad];omega
 .rintro ⟨h1,t,ht,e⟩
  obtain⟨i,hi,rfl⟩:=ZO ha hns ht;rw[h2,szA2]at hi;rw[h2]at e ht;simp[dig,pad]at e;have:j % 4*4+j / 4=i:=by omega
  rw[this];exact⟨h1,hi,ht⟩
theorem W6{l:List Int}(h:1<=l.length/\l.length<=3)(hx:∀ x,x∈l->0<=x/\x<4):eRS (oneS l)=eRS (qm (kOf l)):=by
 refine wg rfl fun j hj=>?_
 obtain⟨i,hi,e⟩:=gW (p:=(l.length:Int)) (by omega) rfl hx;have hat:atF 0 l=i:=by
  match l,h,hx,hi,e with
  | [x],_,hx,hi,e =>
   have:=hx x (by simp);simp[dig]at e;simp[atF,IntKind.wrap,IntKind.signed,IntKind.bits];omega
  | [x,y],_,hx,hi,e =>
   have:=hx x (by simp);have:=hx y (by simp);simp[dig]at e;simp[atF,IntKind.wrap,IntKind.signed,IntKind.bits];omega
  | [x,y,z],_,hx,hi,e =>
   have:=hx x (by simp);have:=hx y (by simp);have:=hx z (by simp);simp[dig]at e;simp[atF,IntKind.wrap,IntKind.signed,IntKind.bits];omega
 rw[jG,yp];show decide ((j:Int)=atF 0 l)=true↔j<szA (l.length:Int)/\pad (dig (l.length:Int) j)∈[pad l];rw[decide_eq_true_eq,hat,qW];have ld:=fun j=>QZ (k:=(l.length:Int)) (by omega) j
 constructor
 .intro h1
  obtain rfl:j=i:=by omega
  exact⟨hi,by rw[<-e]⟩
 .rintro ⟨h1,h2⟩
  have e2:=W5 (by have:=ld j;omega) (by have:=ld j;omega) h2;rw[e]at e2;have:=W4 (p:=(l.length:Int)) (by omega) h1 hi (by rw[<-e]at e2⊢;exact e2);omega
end QF
namespace QG
open Y2 P1 P2 PB QE QF
def YQ(k:Kd):Kd:=kSum k (zA k k)
def itK:Nat->Kd->Kd
 | 0,k=>k
 |i+1,k=>YQ (itK i k)
theorem qh0{ns:Nat}{k:Kd}(h:okKd ns k)(h2:k.ar=2):okKd ns (YQ k)/\(YQ k).ar=2:=
 ⟨Yy h (YI h h (by omega) (by omega)) (by simp only[zA];omega),h2⟩
theorem okIt{ns:Nat}{k:Kd}(h:okKd ns k)(h2:k.ar=2):∀ i,okKd ns (itK i k)/\(itK i k).ar=2
 | 0=>⟨h,h2⟩
 |i+1=>qh0 (okIt h h2 i).1 (okIt h h2 i).2
abbrev Ed(k:Kd)(u v:Int):Prop:=[u,v,0]∈k.ts
theorem Vx{ns:Nat}{k:Kd}(h:okKd ns k)(h2:k.ar=2){t:Tp}(ht:t∈k.ts):∃ u v,t=[u,v,0]/\(0<=u/\u<ns)/\(0<=v/\v<ns):=by
 obtain⟨l,rfl,hl,hx⟩:=h.ts t ht
 match l,hl,hx with
 | [u,v],_,hx=>exact⟨u,v,rfl,hx u (by simp),hx v (by simp)⟩
 | [],hl,_=>simp at hl;omega
 | [_],hl,_=>simp at hl;omega
 |_ :: _ :: _ :: _,hl,_=>simp at hl;omega
theorem gZ{ns:Nat}{k:Kd}(h:okKd ns k)(h2:k.ar=2){u v:Int}:[u,v,0]∈(zA k k).ts↔∃ w,Ed k u w/\Ed k w v:=by
 show [u,v,0]∈vR k.ar.toNat k.ar.toNat k.ts k.ts↔_;rw[QF.uY,h2];constructor
 .rintro ⟨x,y,hx,hy,h3,h4⟩
  obtain⟨a,b,rfl,_,_⟩:=Vx h h2 hx;obtain⟨c,d,rfl,_,_⟩:=Vx h h2 hy;have h3:b=c:=h3;have h4:[a,d,0]=[u,v,0]:=h4;injection h4 with e1 e2;injection e2 with e2 _;subst e1 e2 h3;exact⟨b,hx,hy⟩
 .rintro ⟨w,h3,h4⟩
  exact⟨[u,w,0],[w,v,0],h3,h4,rfl,rfl⟩
theorem W7{ns:Nat}{k:Kd}(h:okKd ns k)(h2:k.ar=2){u v:Int}:Ed (YQ k) u v↔Ed k u v\/∃ w,Ed k u w/\Ed k w v:=by
 unfold Ed YQ;rw[ZN,gZ h h2]
def Path(k:Kd)(n:Nat)(u v:Int):Prop:=∃ f:Nat->Int,f 0=u/\f n=v/\∀ i,i<n->Ed k (f i) (f (i+1))
theorem Path.one{k:Kd}{u v:Int}(h:Ed k u v):Path k 1 u v:=⟨fun i=>if i=0 then u else v,rfl,rfl,fun i hi=>by
 obtain rfl:i=0:=by omega
 exact h⟩
theorem Path.comp{k:Kd}{n m:Nat}{u w v:Int}(h:Path k n u w)(h':Path k m w v):Path k (n+m) u v:=by
 obtain⟨f,f0,fn,hf⟩:=h;obtain⟨g,g0,gm,hg⟩:=h';refine⟨fun i=>if i<n then f i else g (i-n),?_,?_,fun i hi=>?_⟩
 .by_cases h0:0<n
  .simp [h0,f0]
  .have:n=0:=by omega
   subst this;simp[g0,<-fn,f0]
 .simp only[if_neg (show ¬n+m<n by omega),Nat.add_sub_cancel_left,gm]
 .by_cases h1:i+1<n
  .simp only[if_pos h1,if_pos (show i<n by omega)];exact hf i (by omega)
  .by_cases h2:i<n
   .have e:i+1=n:=by omega
    simp only[if_neg h1,if_pos h2];have:=hf i h2;rw[e,fn]at this;rw[show i+1-n=0 by omega,g0];exact this
   .simp only[if_neg h1,if_neg h2,show i+1-n=(i-n)+1 by omega]
    exact hg (i-n) (by omega)
theorem Path.short{ns:Nat}{k:Kd}(h:okKd ns k)(h2:k.ar=2)(hns:ns<=4):∀(N n:Nat) (u v:Int),n<=N->1<=n->Path k n u v->∃ m,1<=m/\m<=4/\Path k m u v
 | 0,n,u,v,hN,h1,_=>by omega
 | N+1,n,u,v,hN,h1,hp=>by
  by_cases h4:n<=4
  .exact ⟨n,h1,h4,hp⟩
  obtain⟨f,f0,fn,hf⟩:=hp;have hr:∀ i,i<5->0<=f i/\f i<4:=fun i hi=>by
   obtain⟨a,b,e,ha,hb⟩:=Vx h h2 (hf i (by omega));injection e with e1 _;omega
  obtain⟨i,j,hij,hj,e⟩:∃ i j,i<j/\j<5/\f i=f j:=by
   apply Classical.byContradiction;intro hno;have hnd:((qq 5).map f).Nodup:=List.pairwise_map.2 (List.pairwise_lt_range.imp_of_mem fun {a b} ha hb hab e=>hno ⟨a,b,hab,zI.1 hb,e⟩);have:=jH hnd (l₂:=[0,1,2,3]) fun x hx=>by
    obtain⟨i,hi,rfl⟩:=qs.1 hx;have:=hr i (zI.1 hi);simp;omega
   simp at this
  refine Path.short h h2 hns N (n-(j-i)) u v (by omega) (by omega) ⟨fun x=>if x<i then f x else f (x+(j-i)),?_,?_,fun x hx=>?_⟩
  .by_cases h0:0<i
   .simp [h0,f0]
   .have:i=0:=by omega
    subst this;simp[<-e,f0]
  .simp only[if_neg (show ¬n-(j-i)<i by omega),show n-(j-i)+(j-i)=n by omega,fn]
  .by_cases h3:x+1<i
   .simp only[if_pos h3,if_pos (show x<i by omega)];exact hf x (by omega)
   .by_cases h5:x<i
    .have e1:x+1=i:=by omega
     simp only[if_neg h3,if_pos h5];rw[show x+1+(j-i)=j by omega,<-e,<-e1];exact hf x (by omega)
    .simp only[if_neg h3,if_neg h5,show x+1+(j-i)=(x+(j-i))+1 by omega]
     exact hf _ (by omega)
theorem YR{ns:Nat}{k:Kd}(h:okKd ns k)(h2:k.ar=2):∀(i:Nat) (u v:Int),Ed (itK i k) u v->∃ n,1<=n/\Path k n u v
 | 0,u,v,he=>⟨1,by omega,.one he⟩
 |i+1,u,v,he=>by
  rcases (W7 (okIt h h2 i).1 (okIt h h2 i).2).1 he with he|⟨w,h3,h4⟩
  .exact YR h h2 i u v he
  .obtain ⟨n,n1,p⟩:=YR h h2 i u w h3
   obtain⟨m,m1,q⟩:=YR h h2 i w v h4;exact⟨n+m,by omega,p.comp q⟩
theorem ZP{k:Kd}(i:Nat):Sub (itK i k) (itK (i+1) k):=W0 _ _
theorem qh1{ns:Nat}{k:Kd}(h:okKd ns k)(h2:k.ar=2){m:Nat}{u v:Int}(h1:1<=m)(h4:m<=4)(hp:Path k m u v):Ed (itK 4 k) u v:=by
 obtain⟨f,rfl,rfl,hf⟩:=hp;have up:∀{u v},Ed (itK 2 k) u v->Ed (itK 4 k) u v:=fun he=>(ZP 3).2 _ ((ZP 2).2 _ he)
 have s1:∀{u w v},Ed (itK 0 k) u w->Ed (itK 0 k) w v->Ed (itK 1 k) u v:=fun a b=>(W7 (okIt h h2 0).1 (okIt h h2 0).2).2 (.inr ⟨_,a,b⟩)
 have s2:∀{u w v},Ed (itK 1 k) u w->Ed (itK 1 k) w v->Ed (itK 2 k) u v:=fun a b=>(W7 (okIt h h2 1).1 (okIt h h2 1).2).2 (.inr ⟨_,a,b⟩)
 have l1:∀{u v},Ed (itK 0 k) u v->Ed (itK 1 k) u v:=fun he=>(ZP 0).2 _ he
 refine up ?_;rcases (show m=1\/m=2\/m=3\/m=4 by omega) with rfl|rfl|rfl|rfl
 .exact (ZP 1).2 _ (l1 (hf 0 (by omega)))
 .exact (ZP 1).2 _ (s1 (hf 0 (by omega)) (hf 1 (by omega)))
 .exact s2 (s1 (hf 0 (by omega)) (hf 1 (by omega))) (l1 (hf 2 (by omega)))
 .exact s2 (s1 (hf 0 (by omega)) (hf 1 (by omega))) (s1 (hf 2 (by omega)) (hf 3 (by omega)))
theorem qh2{ns:Nat}{k:Kd}(h:okKd ns k)(h2:k.ar=2)(hns:ns<=4):Vw (itK 4 k):=fun t ht=>by
 have ok:=okIt h h2 4;have okj:=YI ok.1 ok.1 (by rw[ok.2];omega) (by rw[ok.2];omega);obtain⟨u,v,rfl,_,_⟩:=Vx okj (by simp only[zA];rw[ok.2];rfl) ht;obtain⟨w,h3,h4⟩:=(gZ ok.1 ok.2).1 ht;obtain⟨n,n1,p⟩:=YR h h2 4 u w h3;obtain⟨m,m1,q⟩:=YR h h2 4 w v h4;obtain⟨c,c1,c4,hc⟩:=Path.short h h2 hns (n+m) (n+m) u v (qr _) (by omega) (p.comp q);exact qh1 h h2 c1 c4 hc
theorem YT{S:Kd}(hS:Vw S){k:Kd}(h:Sub k S):∀ i,Sub (itK i k) S
 | 0=>h
 |i+1=>⟨(YT hS h i).1,fun t ht=>by
  rcases ZN.1 ht with ht|ht
  .exact (YT hS h i).2 t ht
  .exact hS t ((WZ (YT hS h i) (YT hS h i)).2 t ht)⟩
theorem g7{k:Kd}:∀ i,Sub k (itK i k)
 | 0 => .refl k
 |i+1=>(g7 i).trans (ZP i)
theorem qh3{ns:Nat}{k:Kd}(h:okKd ns k)(h2:k.ar=2)(hns:ns<=4):eRS (qm (itK 4 k))=eRS (qm (kClo k)):=by
 have a1:Sub (kClo k) (itK 4 k):=gT (qh2 h h2 hns) 70 0 k (g7 4);have a2:Sub (itK 4 k) (kClo k):=YT (gU hns 70 0 k h h2 (by omega) (.inl rfl)) (gS 70 0 k) 4;refine wg a2.1 fun j hj=>?_
 rw[jG,yp,yp,a2.1];exact⟨fun x=>⟨x.1,a2.2 _ x.2⟩,fun x=>⟨x.1,a1.2 _ x.2⟩⟩
end QG
namespace QH
open YF Y9 Y2 Y3 P1 P2 PB QD QE QF QG
theorem JW{ns:Nat}{a:Kd}(h:okKd ns a)(h2:a.ar=2)(hns:ns<=4):qi qd 254 [eRS (qm a)] (eRS (qm (kClo a))):=by
 refine qSQ call254 func254 rfl { mt:=[1] } ?_;rw[<-qh3 h h2 hns];simp[go_sem,qh];refine⟨qC _,?_⟩;refine ql.upK 4 (fun i st=>st.tm 1 = .ptr 0 0/\st.tm 2 = .ptr 1 0/\st.tm 3=aI i/\st.mu=[.arr (cRS (qm (itK i a))),.arr (aI 0 :: hB fun _=>false)]) ?_ ?_
 .exact ⟨by simp[go_sem],by simp[go_sem],by simp[go_sem],by simp[go_sem];exact⟨⟨rfl,rfl⟩,rfl⟩⟩
 rintro i st hi ⟨e1,e2,e3,hm⟩;by_cases hlt:i<4
 .have hlt':(i:Int)<4:=by omega
  have w1:qj.wrap ((i:Int)+1)=(i:Int)+1:=qg (by omega) (by omega);obtain⟨ok,o2⟩:=okIt h h2 i;have cj:qi qd 251 [eRS (qm (itK i a)),eRS (qm (itK i a))] (eRS (qm (zA (itK i a) (itK i a)))):=by
   rw[<-gY ok ok hns (by omega)];exact vT _ _ (by show 0<=(itK i a).ar/\(itK i a).ar<=1000;omega) (by show 1<=(itK i a).ar/\(itK i a).ar<=1000;omega)
  have cu:qi qd 249 [eRS (qm (itK i a)),eRS (qm (zA (itK i a) (itK i a)))] (eRS (qm (itK (i+1) a))):=by
   have:=y7 (qm (itK i a)) (qm (zA (itK i a) (itK i a)));rw[YP (by simp only[zA];omega)]at this;exact this
  generalize hs':qm (itK (i+1) a)=s' at *
  generalize qm (zA (itK i a) (itK i a))=q at *
  generalize qm (itK i a)=s at *
  simp[go_sem,e1,e2,e3,hm,hlt'];refine qe.intro (by kernel_rfl) ?_;simp[go_sem,e1,e2,e3,hm,qh,tk];refine qb.pure cj (.cons (.hf (yc _)) (.cons (.hf (yc _)) .nil)) ?_;simp[go_sem,e1,e2,e3,hm,qh,tk];refine qb.pure cu (.cons (.hf (yc _)) (.cons (.hf (yc _)) .nil)) ?_;simp[go_sem,e1,e2,e3,hm,qh,tk,pc];rw[if_pos (qC _)];simp[go_sem,e1,e2,e3,hm,qh,tk,pc,w1];exact⟨hlt,Keep.mk' ⟨by simp[go_sem,e1],by simp[go_sem,e2],by simp[go_sem],by simp[go_sem,hs']⟩⟩
 .have hie:i=4:=by omega
  subst hie;generalize qm (itK 4 a)=s at *
  simp[go_sem,e1,e2,e3,hm,qh,tk,pc];rw[if_pos (qC _)];simp[go_sem,e1,e2,e3,hm,qh,tk,pc];exact .hf _ (yc s)
theorem qh4(i k:Nat)(hk:k=1\/k=2):eRS (qm (kSum (zn i k) (kOf (qX k (i:Int)))))=eRS (qm (zn (i+1) k)):=by
 refine wg rfl fun j hj=>?_
 rw[jG,yp,yp];show j<szA (k:Int)/\pad (dig (k:Int) j)∈(kSum (zn i k) (kOf (qX k (i:Int)))).ts↔j<szA (k:Int)/\pad (dig (k:Int) j)∈(qq (i+1)).map fun (x:Nat)=>pad (qX k (x:Int))
 rw[ZN,List.range_succ,zm,List.mem_append];rfl
theorem qh5(k:Nat):hB (qm (zn 0 k)).2=hB fun _=>false:=vZ fun j _=>decide_eq_false fun h=>absurd h.2 zr
theorem allU(ts:TS)(h:okTS ts)(k:Nat)(hk:k=1\/k=2):qi qd 248 [eTS ts,aI k] (eRS (qm (zn ts.sorts.length k))):=by
 refine qSQ call248 func248 rfl {} ?_;have hns:=h.ns;have hz:=qh5 k;simp[go_sem,qh];refine ql.upK ts.sorts.length (fun i st=>st.tm 1=aI k/\st.tm 2 = .ip (cTS ts)/\st.tm 4 = .ptr 0 0/\st.tm 5 = .ptr 1 0/\st.tm 6=aI i/\st.mu=[.arr (aI 0 :: hB fun _=>false),.arr (cRS (qm (zn i k)))]) ?_ ?_
 .exact ⟨by simp[go_sem],by simp[go_sem],by simp[go_sem],by simp[go_sem],by simp[go_sem],by
   have e:cRS (qm (zn 0 k))=aI k :: hB fun _=>false:=by simp only[cRS,hz];rfl
   rw[e];simp[go_sem];first|rfl|exact⟨rfl,rfl⟩⟩
 rintro i st hi ⟨e1,e2,e4,e5,e6,hm⟩;by_cases hlt:i<ts.sorts.length
 .have w1:qj.wrap ((i:Int)+1)=(i:Int)+1:=qg (by omega) (by omega)
  have c1:∀ l:List Int,l=qX k (i:Int)->qi qd 205 [lI l] (eRS (qm (kOf l))):=fun l hl=>by
   have hlen:l.length=k:=by rw[hl,List.length_replicate]
   have:=oneU l (by omega);rw[WX]at this;rw[<-QF.W6 (l:=l) (by omega) (fun x hx=>by rw[hl]at hx;rw[List.eq_of_mem_replicate hx];omega)];exact this
  have cu:∀ l:List Int,l=qX k (i:Int)->qi qd 249 [eRS (qm (zn i k)),eRS (qm (kOf l))] (eRS (qm (zn (i+1) k))):=fun l hl=>by
   have:=y7 (qm (zn i k)) (qm (kOf l));rw[YP (by show (k:Int)=l.length;rw[hl,List.length_replicate]),hl,qh4 i k hk]at this;rw[hl];exact this
  generalize hs':qm (zn (i+1) k)=s' at *
  generalize qm (zn i k)=s at *
  rcases hk with rfl|rfl
  .have d1:=c1 [(i:Int)] rfl
   have d2:=cu [(i:Int)] rfl;generalize qm (kOf [(i:Int)])=q at *
   simp[go_sem,e1,e2,e4,e5,e6,hm,hlt];refine qe.intro (by kernel_rfl) ?_;simp[go_sem,e1,e2,e4,e5,e6,hm,qh,tk];refine qb.pure d1 (.cons (QD.wk1 _) .nil) ?_;simp[go_sem,e1,e2,e4,e5,e6,hm,qh,tk];refine qb.pure d2 (.cons (.hf (yc _)) (.cons (.hf (yc _)) .nil)) ?_;simp[go_sem,e1,e2,e4,e5,e6,hm,qh,tk,pc];rw[if_pos (qC _)];simp[go_sem,e1,e2,e4,e5,e6,hm,qh,tk,pc,w1];exact⟨hlt,Keep.mk' ⟨by simp[go_sem,e1],by simp[go_sem,e2],by simp[go_sem,e4],by simp[go_sem,e5],by simp[go_sem],by simp[go_sem,hs']⟩⟩
  .have d1:=c1 [(i:Int),(i:Int)] rfl
   have d2:=cu [(i:Int),(i:Int)] rfl;generalize qm (kOf [(i:Int),(i:Int)])=q at *
   simp[go_sem,e1,e2,e4,e5,e6,hm,hlt];refine qe.intro (by kernel_rfl) ?_;simp[go_sem,e1,e2,e4,e5,e6,hm,qh,tk];refine qb.pure d1 (.cons (QD.wk2 _ _) .nil) ?_;simp[go_sem,e1,e2,e4,e5,e6,hm,qh,tk];refine qb.pure d2 (.cons (.hf (yc _)) (.cons (.hf (yc _)) .nil)) ?_;simp[go_sem,e1,e2,e4,e5,e6,hm,qh,tk,pc];rw[if_pos (qC _)];simp[go_sem,e1,e2,e4,e5,e6,hm,qh,tk,pc,w1];exact⟨hlt,Keep.mk' ⟨by simp[go_sem,e1],by simp[go_sem,e2],by simp[go_sem,e4],by simp[go_sem,e5],by simp[go_sem],by simp[go_sem,hs']⟩⟩
 .have hie:i=ts.sorts.length:=by omega
  subst hie;generalize qm (zn ts.sorts.length k)=s at *
  simp[go_sem,e1,e2,e4,e5,e6,hm,qh,tk,pc];rw[if_pos (qC _)];simp[go_sem,e1,e2,e4,e5,e6,hm,qh,tk,pc];exact .hf _ (yc s)
end QH
namespace QI
open YF Y9 Y10 Y1 Y2 P1 P2
theorem qh6{c:Ck}{nm:ByteArray}{k:Nat}(hk:k<c.calls)(hp:k<c.ts.preds.length)(h:c.ts.preds[k].name=nm)(hb:∀(j:Nat) (hj:j<c.ts.preds.length),j<k->c.ts.preds[j].name≠nm):zD c nm=some k:=by
 unfold zD;rw[List.findIdx?_eq_some_iff_getElem];refine⟨by simp;omega,by simp[h],fun j hj=>?_⟩;simp[hb j (by omega) hj]
theorem qh7{c:Ck}{nm:ByteArray}(hb:∀(j:Nat) (hj:j<c.ts.preds.length),j<c.calls->c.ts.preds[j].name≠nm):zD c nm=none:=by
 unfold zD;rw[List.findIdx?_eq_none_iff];intro p hp;obtain⟨j,hj,e⟩:=List.mem_iff_getElem.1 hp;simp at hj;rw[List.getElem_take]at e;rw[<-e];exact decide_eq_false (hb j (by omega) (by omega))
abbrev idxO:Option Nat->Int
 |some i=>i
 |none => -1
theorem Vy(c:Ck)(hc:okCk c)(nm:ByteArray):qi qd 158 [eTS c.ts,aI c.calls,aS nm] (aI (idxO (zD c nm))):=by
 refine qSQ call158 func158 rfl {} ?_;have hcl:=hc.calls;have hnp:=hc.ts.np;simp[go_sem];refine ql.upK c.calls (fun k st=>st.tm 1=aI c.calls/\st.tm 2=aS nm/\st.tm 3 = .ip (cTS c.ts)/\st.tm 7=aI k/\∀(j:Nat) (hj:j<c.ts.preds.length),j<k->c.ts.preds[j].name≠nm) ?_ ?_
 .exact ⟨by simp[go_sem],by simp[go_sem],by simp[go_sem],by simp[go_sem],fun j hj h=>by omega⟩
 rintro k st hk ⟨e1,e2,e3,e7,hI⟩;by_cases hlt:k<c.calls
 .have w1:qj.wrap ((k:Int)+1)=(k:Int)+1:=qg (by omega) (by omega)
  have hkp:k<c.ts.preds.length:=by omega
  by_cases hq:c.ts.preds[k].name=nm
  .rw [qh6 hlt hkp hq hI]
   simp[go_sem,e1,e2,e3,e7,hlt,hkp,hq];exact .hf _ (HF.sc _)
  .simp [go_sem,e1,e2,e3,e7,hlt,hkp,vd hq,w1]
   refine Keep.mk' ⟨by simp[go_sem,e1],by simp[go_sem,e2],by simp[go_sem,e3],by simp[go_sem],fun j hj hjk=>?_⟩;by_cases he:j=k
   .subst he;exact hq
   .exact hI j hj (by omega)
 .have hke:k=c.calls:=by omega
  subst hke;rw[qh7 hI];simp[go_sem,e1,e2,e3,e7];exact .hf _ (HF.sc _)
theorem vA(op:Int):qi qd 225 [aI op] (aB (zX op)):=by
 refine qSQ call225 func225 rfl {} ?_;by_cases h5:op=5
 .rw [show zX op=true by simp[zX,h5]]
  simp[go_sem,h5];exact .hf _ (HF.sc _)
 by_cases h48:48<=op
 .by_cases h51:op<=51
  .rw [show zX op=true by unfold zX;rcases (show op=48\/op=49\/op=50\/op=51 by omega) with h|h|h|h<;>simp[h]]
   simp[go_sem,h5,h48,h51];exact .hf _ (HF.sc _)
  .rw [show zX op=false by simp[zX,h5,show ¬op=48 by omega,show ¬op=49 by omega,show ¬op=50 by omega,show ¬op=51 by omega]]
   simp[go_sem,h5,h48,h51];exact .hf _ (HF.sc _)
 .rw [show zX op=false by simp[zX,h5,show ¬op=48 by omega,show ¬op=49 by omega,show ¬op=50 by omega,show ¬op=51 by omega]]
  simp[go_sem,h5,h48];exact .hf _ (HF.sc _)
abbrev rBo(b:Bool):List AV:=[aB b]
abbrev lBo(l:List Bool):AV := .lst false (l.map rBo)
theorem YY(l:List Bool):HF (lBo l):=HF.lst fun r hr c hc=>by
 obtain⟨b,_,rfl⟩:=qs.1 hr;rw[qW]at hc;subst hc;exact HF.sc _
def tpB(c:Ck)(nm:ByteArray):Bool:=match zD c nm with|some p=>c.timed.getD p false|none=>false
theorem ua(c:Ck)(hc:okCk c)(nm:ByteArray):qi qd 226 [eTS c.ts,lBo c.timed,aI c.calls,aS nm] (aB (tpB c nm)):=by
 generalize hr:tpB c nm=r;unfold tpB at hr;refine qSQ call226 func226 rfl {} ?_;simp[go_sem];refine qb.pure (Vy c hc nm) (.cons (.hf (zl _)) (.cons (.hf (HF.sc _)) (.cons (.hf (HF.sc _)) .nil))) ?_;cases hcl:zD c nm with
 |none =>
  rw[hcl]at hr;subst hr;simp[go_sem,idxO];exact .hf _ (HF.sc _)
 |some p =>
  rw[hcl]at hr;by_cases hp:p<c.timed.length
  .have hr2:r=c.timed[p]:=by rw[<-hr];simp[List.getD,hp]
   subst hr2;simp[go_sem,idxO,hp];exact .hf _ (HF.sc _)
  .have hr2:r=false:=by rw[<-hr];simp[List.getD,hp]
   subst hr2;simp[go_sem,idxO,hp];exact .hf _ (HF.sc _)
theorem g8(c:Ck)(hc:okCk c)(hl:c.timed.length=c.calls):∀(m:Nat) (n:Nd),szN n<=m->Small n->qi qd 231 [eTS c.ts,lBo c.timed,eNd n] (aB (yh c n))
 | 0,n,hm,_=>by obtain⟨op,nm,i,ks,p⟩:=n;simp[szN]at hm
 |m+1,n,hm,hs=>by
  have ih:∀ k,k∈n.kids->qi qd 231 [eTS c.ts,lBo c.timed,eNd k] (aB (yh c k)):=fun k hk =>
   g8 c hc hl m k (by have:=yi hk;omega) (hs.kid hk)
  have hlen:=hs.len;have hti:yw c n.op n.name=(zX n.op||(decide (n.op=47)&&tpB c n.name)):=rfl;rw[kw,hti];generalize hR:n.kids.any (yh c)=R;have ct:=vA n.op;have cp:=ua c hc n.name;generalize zX n.op=T at *
  generalize tpB c n.name=B at *
  refine qSQ call231 func231 rfl {} ?_;simp[go_sem];refine qb.pure ct (.cons (.hf (HF.sc _)) .nil) ?_;cases T with
  |true =>
   simp[go_sem];exact .hf _ (HF.sc _)
  |false =>
  rw[Bool.false_or];by_cases h47:n.op=47
  .rw [decide_eq_true h47,Bool.true_and]
   simp[go_sem,h47,hl];refine qb.pure cp (.cons (.hf (zl _)) (.cons (.hf (YY _)) (.cons (.hf (HF.sc _)) (.cons (.hf (HF.sc _)) .nil)))) ?_;cases B with
   |true =>
    simp[go_sem];exact .hf _ (HF.sc _)
   |false =>
   rw[Bool.false_or];simp[go_sem];refine ql.upK n.kids.length (fun k st=>st.tm 1=lBo c.timed/\st.tm 3 = .ip (cTS c.ts)/\st.tm 5 = .ip (cNd n)/\st.tm 7=aI k/\(n.kids.drop k).any (yh c)=R) ?_ ?_
   .exact ⟨by simp[go_sem],by simp[go_sem],by simp[go_sem],by simp[go_sem],by simpa using hR⟩
   rintro k st hk ⟨e1,e3,e5,e7,hI⟩;by_cases hkl:k=n.kids.length
   .subst hkl
    rw[zL]at hI;have hI:R=false:=by rw[<-hI];rfl
    subst hI;simp[go_sem,e1,e3,e5,e7];exact .hf _ (HF.sc _)
   have hlt:k<n.kids.length:=by omega
   have w1:qj.wrap ((k:Int)+1)=(k:Int)+1:=qg (by omega) (by omega);rw[zj hlt,List.any_cons]at hI;have hi:=ih n.kids[k] (qu hlt);simp[go_sem,e1,e3,e5,e7,hlt,qo];refine qe.intro (by kernel_rfl) ?_;simp[go_sem,e1,e3,e5,e7,hlt,qo];refine qb.pure hi (.cons (.hf (zl _)) (.cons (.hf (YY _)) (.cons (.hf (qI _)) .nil))) ?_;cases hq:yh c n.kids[k] with
   |true =>
    rw[hq,Bool.true_or]at hI;subst hI;simp[go_sem,e1,e3,e5,e7,hlt];exact .hf _ (HF.sc _)
   |false =>
    rw[hq,Bool.false_or]at hI;simp[go_sem,e1,e3,e5,e7,hlt,w1];exact Keep.mk' ⟨by simp[go_sem,e1],by simp[go_sem,e3],by simp[go_sem,e5],by simp[go_sem],hI⟩
  .rw [decide_eq_false h47,Bool.false_and,Bool.false_or]
   simp[go_sem,h47];refine ql.upK n.kids.length (fun k st=>st.tm 1=lBo c.timed/\st.tm 3 = .ip (cTS c.ts)/\st.tm 5 = .ip (cNd n)/\st.tm 7=aI k/\(n.kids.drop k).any (yh c)=R) ?_ ?_
   .exact ⟨by simp[go_sem],by simp[go_sem],by simp[go_sem],by simp[go_sem],by simpa using hR⟩
   rintro k st hk ⟨e1,e3,e5,e7,hI⟩;by_cases hkl:k=n.kids.length
   .subst hkl
    rw[zL]at hI;have hI:R=false:=by rw[<-hI];rfl
    subst hI;simp[go_sem,e1,e3,e5,e7];exact .hf _ (HF.sc _)
   have hlt:k<n.kids.length:=by omega
   have w1:qj.wrap ((k:Int)+1)=(k:Int)+1:=qg (by omega) (by omega);rw[zj hlt,List.any_cons]at hI;have hi:=ih n.kids[k] (qu hlt);simp[go_sem,e1,e3,e5,e7,hlt,qo];refine qe.intro (by kernel_rfl) ?_;simp[go_sem,e1,e3,e5,e7,hlt,qo];refine qb.pure hi (.cons (.hf (zl _)) (.cons (.hf (YY _)) (.cons (.hf (qI _)) .nil))) ?_;cases hq:yh c n.kids[k] with
   |true =>
    rw[hq,Bool.true_or]at hI;subst hI;simp[go_sem,e1,e3,e5,e7,hlt];exact .hf _ (HF.sc _)
   |false =>
    rw[hq,Bool.false_or]at hI;simp[go_sem,e1,e3,e5,e7,hlt,w1];exact Keep.mk' ⟨by simp[go_sem,e1],by simp[go_sem,e3],by simp[go_sem,e5],by simp[go_sem],hI⟩
theorem W8(l:List Bool):zh 1 (l.map rBo):=fun r hr=>by
 obtain⟨b,_,rfl⟩:=qs.1 hr;exact⟨rfl,rfl⟩
theorem appBo{mu:Mu}{lo:Nat}{s:AV}{xs:List Bool}{b:Bool}{K:AV->Mu->Prop}(ho:OwnF lo mu 1 s (xs.map rBo))(hl:xs.length<=100000)(kk:∀ av mu',OwnF lo mu' 1 av ((xs++[b]).map rBo)->(∀ i,i<lo->mu'[i]?=mu[i]?)->K av mu') :
  qF qd mu #[97,97] s (.lst true [[aB b]]) K:=by
 refine qF.ownF (lo:=lo) (e:=4) (sz:=1) (bt:=1) (zv:=aB false) (xs:=xs.map rBo) (ys:=[rBo b]) (by simp[go_sem]) (by simp[go_sem]) (by simp[go_sem]) rfl rfl (by omega) (by omega) ho (by simp[qG]) (W8 xs) (W8 [b]) (by simp;omega) ?_;intro av mu' h h2;exact kk av mu' (by rw[zm];exact h) h2
theorem rdBo{lo:Nat}{mu:Mu}{av:AV}{l:List Bool}(ho:OwnF lo mu 1 av (l.map rBo)):Rd mu av (lBo l):=
 Own.rd (sz:=1) ho.1 (W8 l).ok fun r hr c hc=>by
  obtain⟨b,_,rfl⟩:=qs.1 hr;rw[qW]at hc;subst hc;exact HF.sc _
theorem qh8(ts:TS)(h:okTS ts)(hp:∀ p,p∈ts.preds->WfN p.body):qi qd 197 [eTS ts] (lBo (tmsL ts ts.preds.length)):=by
 refine qSQ call197 func197 rfl {} ?_;have hnp:=h.np;simp[go_sem];refine ql.upK ts.preds.length (fun k st=>st.tm 1 = .ip (cTS ts)/\st.tm 4=aI k/\OwnF 0 st.mu 1 (st.tm 3) ((tmsL ts k).map rBo)) ?_ ?_
 .exact ⟨by simp[go_sem],by simp[go_sem],by simp[go_sem,tmsL];exact OwnF.nil (Za _)⟩
 rintro k st hk ⟨e1,e4,ho⟩;by_cases hlt:k<ts.preds.length
 .have w1:qj.wrap ((k:Int)+1)=(k:Int)+1:=qg (by omega) (by omega)
  generalize h3:st.tm 3=av at *
  have hrd:=rdBo ho;have ht:=g8 (mkCk ts k) (ZC h (by omega)) (Qr ts k (by omega)) (szN ts.preds[k].body) ts.preds[k].body (qr _) (hp _ (qu hlt)).small;have hlen:=Qr ts k (by omega);have hnext:tmsL ts (k+1)=tmsL ts k++[yh (mkCk ts k) ts.preds[k].body]:=by
   show tmsL ts k++(match ts.preds[k]? with|some p=>[yh ⟨ts,k,tmsL ts k⟩ p.body] | none=>[])=_;rw[qv hlt];rfl
  simp[go_sem,e1,e4,h3,hlt,vC];refine qe.intro (by kernel_rfl) ?_;simp[go_sem,e1,e4,h3,hlt,vC];refine qb.lend (args':=[eTS ts,lBo (tmsL ts k),eNd ts.preds[k].body]) ht ⟨.hf _ (zl ts),hrd,.hf _ (qI _),trivial⟩ (FL.sc _) ?_;simp[go_sem,e1,e4,h3,hlt,vC];refine appBo ho (by omega) fun av' m' ho' _=>?_
  simp[go_sem,e1,e4,h3,hlt,w1];exact Keep.mk' ⟨by simp[go_sem,e1],by simp[go_sem],by rw[hnext];simpa[go_sem] using ho'⟩
 .have hke:k=ts.preds.length:=by omega
  subst hke;generalize h3:st.tm 3=av at *
  simp[go_sem,e1,e4,h3];exact rdBo ho
end QI
namespace QJ
open YF Y10 Y1 P1 QD QE QF
abbrev Vr:=ByteArray×RS
abbrev cVr(v:Vr):List AV:=aS v.1 :: cRS v.2
abbrev lVr(l:List Vr):AV := .lst false (l.map cVr)
theorem g9(v:Vr):∀ c,c∈cVr v->HF c:=fun c hc=>by
 rcases qB.1 hc with rfl|hc
 .exact HF.sc _
 .exact ((setC v.2).sc c hc).2
theorem qh9(l:List Vr):HF (lVr l):=HF.lst fun r hr c hc=>by
 obtain⟨v,_,rfl⟩:=qs.1 hr;exact g9 v c hc
theorem W9(v:Vr):∀ c,c∈cVr v->c.one=true:=fun c hc=>by
 rcases qB.1 hc with rfl|hc
 .rfl
 .exact ((setC v.2).sc c hc).1
theorem Xa(l:List Vr):zh 66 (l.map cVr):=fun r hr=>by
 obtain⟨v,_,rfl⟩:=qs.1 hr;exact⟨by simp[hB],qy.2 (W9 v)⟩
theorem Xb{mu:Mu}{lo:Nat}{s x:AV}{xs ys:List Vr}{K:AV->Mu->Prop}(ho:OwnF lo mu 66 s (xs.map cVr))(hx:qG mu x=some (ys.map cVr))(hl:xs.length+ys.length<=100000)(kk:∀ av mu',OwnF lo mu' 66 av ((xs++ys).map cVr)->(∀ i,i<lo->mu'[i]?=mu[i]?)->K av mu') :
  qF qd mu #[235,235] s x K:=by
 refine qF.ownF (lo:=lo) (e:=279) (sz:=66) (bt:=88) (zv := .agg (aS ⟨#[]⟩ :: aI 0 :: zs)) (xs:=xs.map cVr) (ys:=ys.map cVr) (by simp[go_sem]) (by simp[go_sem]) (by simp[go_sem];rfl) rfl rfl (by omega) (by omega) ho hx (Xa xs) (Xa ys) (by simp;omega) ?_;intro av mu' h h2;exact kk av mu' (by rw[zm];exact h) h2
theorem rdVr{lo:Nat}{mu:Mu}{av:AV}{l:List Vr}(ho:OwnF lo mu 66 av (l.map cVr)):Rd mu av (lVr l):=
 Own.rd (sz:=66) ho.1 (Xa l).ok fun r hr c hc=>by
  obtain⟨v,_,rfl⟩:=qs.1 hr;exact g9 v c hc
theorem pcV(n:ByteArray)(q:RS):putCells (aS n :: aI 0 :: zs) 1 (aI q.1 :: hB q.2)=cVr (n,q):=by
 have hzl:zs.length=64:=rfl;rw[yX _ _ _ (by simp[qh,hzl])];simp[qh,hzl,List.drop_of_length_le]
def envV(env:List (ByteArray×Int)):List Vr:=env.map fun p=>(p.1,qm (kOf [p.2]))
theorem envU(env:List (ByteArray×Int))(hl:env.length<=1000)(hr:∀ p,p∈env->0<=p.2/\p.2<4):qi qd 198 [lPm env] (lVr (envV env)):=by
 refine qSQ call198 func198 rfl {} ?_;simp[go_sem];refine ql.upK env.length (fun k st=>st.tm 0=lPm env/\st.tm 4=aI k/\OwnF 0 st.mu 66 (st.tm 3) ((envV (env.take k)).map cVr)) ?_ ?_
 .exact ⟨by simp[go_sem],by simp[go_sem],by simp[go_sem,envV];exact OwnF.nil (Za _)⟩
 rintro k st hk ⟨e0,e4,ho⟩;by_cases hlt:k<env.length
 .have w1:qj.wrap ((k:Int)+1)=(k:Int)+1:=qg (by omega) (by omega)
  generalize h3:st.tm 3=av at *
  have hp:=hr _ (qu hlt);have c1:qi qd 205 [lI [env[k].2]] (eRS (qm (kOf [env[k].2]))):=by
   have:=oneU [env[k].2] (by simp);rw[WX]at this;rw[<-QF.W6 (l:=[env[k].2]) (by simp) (fun x hx=>by rw[qW]at hx;subst hx;exact hp)];exact this
  have hnext:envV (env.take (k+1))=envV (env.take k)++[(env[k].1,qm (kOf [env[k].2]))]:=by
   unfold envV;rw[List.take_succ_eq_append_getElem hlt,zm];rfl
  have hlen:(envV (env.take k)).length=k:=by simp[envV];omega
  generalize qm (kOf [env[k].2])=q at *
  simp[go_sem,e0,e4,h3,hlt];refine qe.intro (by kernel_rfl) ?_;simp[go_sem,e0,e4,h3,hlt];refine qb.pure c1 (.cons (QD.wk1 _) .nil) ?_;simp[go_sem,e0,e4,h3,hlt];rw[if_pos ⟨qh _,qC _⟩];generalize hC:putCells _ 1 _=C;have hC2:C=cVr (env[k].1,q):=by rw[<-hC];exact pcV _ _
  subst hC2;clear hC;have hcl:(cVr (env[k].1,q)).length=66:=by simp[qh]
  have hco:=W9 (env[k].1,q);generalize hV:cVr (env[k].1,q)=V at *
  simp[go_sem,e0,e4,h3,hlt,hcl];rw[if_pos hco];simp[go_sem,e0,e4,h3,hlt,hcl];refine Xb (ys:=[(env[k].1,q)]) ho (by simp[qG,hV]) (by simp;omega) fun av' m' ho' _=>?_
  simp[go_sem,e0,e4,h3,hlt,w1];exact Keep.mk' ⟨by simp[go_sem,e0],by simp[go_sem],by rw[hnext];simpa[go_sem] using ho'⟩
 .have hke:k=env.length:=by omega
  subst hke;rw[zw]at ho;generalize h3:st.tm 3=av at *
  simp[go_sem,e0,e4,h3];exact rdVr ho
end QJ
namespace QK
open Y9 Y2 P1 QD QE QF
def fin(c:List AV)(l:List Kd):List AV:=match l.getLast? with|some k=>cRS (qm k)|none=>c
theorem Y0(c:List AV)(l m:List Kd):fin c (l++m)=fin (fin c l) m:=by
 unfold fin;rw[List.getLast?_append];cases m.getLast?<;>rfl
theorem Vz(c:List AV)(k:Kd):fin c [k]=cRS (qm k):=rfl
theorem oneK{l:List Int}(h:1<=l.length/\l.length<=3)(hx:∀ x,x∈l->0<=x/\x<4):oneC l=cRS (qm (kOf l)):=by
 rw[WX];exact AV.agg.inj (QF.W6 h hx)
theorem ng(nm:ByteArray):∀(l:List Fld) (c:List AV) (k:Nat),(∀ f,f∈l->(1<=f.sorts.length/\f.sorts.length<=3)/\∀ x,x∈f.sorts->0<=x/\x<4)->nmF nm l (c,k)=(fin c (yu l nm),k+(yu l nm).length)
 | [],c,k,_=>rfl
 |f :: l,c,k,h=>by
  have hf:=h f (zZ ..);have ih:=fun c k=>ng nm l c k fun g hg=>h g (zK _ hg)
  by_cases hq:f.name=nm
  .have e:yu (f :: l) nm=[kOf f.sorts]++yu l nm:=by simp[yu,hq]
   rw[e,Y0,Vz];simp only[nmF,stF,if_pos hq];rw[ih,oneK hf.1 hf.2];simp;omega
  .have e:yu (f :: l) nm=yu l nm:=by simp[yu,hq]
   rw[e];simp only[nmF,stF,if_neg hq];exact ih c k
theorem st_eq(nm:ByteArray)(i:Nat)(hi:i<4)(x:ByteArray×Bool)(c:List AV)(k:Nat):st3 nm i x (st2 nm i x (st1 nm i x (c,k)))=(fin c (uu i x nm),k+(uu i x nm).length):=by
 have o1:=oneK (l:=[(i:Int)]) (by simp) (fun y hy=>by simp at hy;subst hy;omega);have o2:=oneK (l:=[(i:Int),(i:Int)]) (by simp) (fun y hy=>by simp at hy;rcases hy with rfl|rfl<;>omega);have a1:∀ c k,st1 nm i x (c,k)=(fin c (if x.1=nm then [kOf [(i:Int)]] else []),k+(if x.1=nm then [kOf [(i:Int)]] else []).length):=fun c k=>by
  unfold st1;split
  .rw [Vz,o1];rfl
  .rfl
 have a2:∀ c k,st2 nm i x (c,k)=(fin c (if x.2=true/\x.1++je=nm then [kOf [(i:Int)]] else []),k+(if x.2=true/\x.1++je=nm then [kOf [(i:Int)]] else []).length):=fun c k=>by
  unfold st2;split
  .rw [Vz,o1];rfl
  .rfl
 have a3:∀ c k,st3 nm i x (c,k)=(fin c (if x.2=true/\x.1++vB=nm then [kOf [(i:Int),(i:Int)]] else []),k+(if x.2=true/\x.1++vB=nm then [kOf [(i:Int),(i:Int)]] else []).length):=fun c k=>by
  unfold st3;split
  .rw [Vz,o2];rfl
  .rfl
 unfold uu;rw[a1,a2,a3,Y0,Y0,zt,zt];simp only[Nat.add_assoc]
theorem nh(nm:ByteArray):∀(l:List (ByteArray×Bool)) (i:Nat) (c:List AV) (k:Nat),i+l.length<=4->nmS nm i l (c,k)=(fin c (yv i l nm),k+(yv i l nm).length)
 | [],i,c,k,_=>rfl
 |x :: l,i,c,k,h=>by
  simp only[z6]at h;have ih:=fun c k=>nh nm l (i+1) c k (by omega)
  simp only[nmS,yv];rw[st_eq nm i (by omega),ih,Y0,zt,Nat.add_assoc]
theorem qiA{ts:TS}(h:okTS ts)(nm:ByteArray):named ts nm=(fin (aI 0 :: zs) (jN ts nm),(jN ts nm).length):=by
 unfold named jN;rw[ng nm ts.fields _ _ fun f hf=>?_,nh nm ts.sorts _ _ _ (by have:=h.ns;omega),Y0,zt,yC];have:=h.fl f hf;have hns:=h.ns;exact⟨by omega,fun x hx=>by have:=this.2.2 x hx;omega⟩
end QK
namespace QL
open YF Y9 Y1 Y2 P1 QD QE QF QI QJ QK
abbrev cVw(c:Ck)(inn:Bool):List AV:=[lSo c.ts.sorts,lFl c.ts.fields,lPd c.ts.preds,lFa c.ts.facts,lBo c.timed,aI c.calls,aB inn]
abbrev eVw(c:Ck)(inn:Bool):AV := .agg (cVw c inn)
def envS(s:Scp):List Vr:=s.reverse.map fun v=>(v.1,qm v.2)
theorem VA(s:Scp):(envS s).length=s.length:=by simp[envS]
theorem nj(env:List (ByteArray×Int)):envV env=envS (y5 env):=by
 have h:∀(l:List (ByteArray×Int)) (a:Scp),l.foldl (fun s p=>(p.1,kOf [p.2]) :: s) a=(l.map fun p=>(p.1,kOf [p.2])).reverse++a:=by
  intro l;induction l with
  |nil=>intro a;rfl
  |cons p l ih=>intro a;rw[List.foldl_cons,ih];simp
 unfold envV envS y5;rw[h,zx,List.reverse_reverse,List.map_map];rfl
theorem qiB(s:Scp)(d:Nat)(h:d<s.length)(h':s.length-1-d<(envS s).length):(envS s)[s.length-1-d]=(s[d].1,qm s[d].2):=by
 have e:s.length-1-(s.length-1-d)=d:=by omega
 simp[envS,List.getElem_reverse,e]
abbrev zR:RS:=(0,fun _=>false)
abbrev eDg(d:Dg):AV := .agg [aI d.1,aI d.2]
def endR(z:RS):Res->AV
 | .error e => .tup [eRS z,eDg e]
 | .ok (some k) => .tup [eRS (qm k),eDg (0,0)]
 | .ok none => .tup [eRS zR,eDg (0,0)]
theorem zO(s:RS)(d:Dg):HF (.tup [eRS s,eDg d]):=HF.tup fun x hx=>by
 rcases qB.1 hx with rfl|hx
 .exact yc s
 .rw [qW]at hx;subst hx
  exact HF.agg fun c hc=>by
   rcases qB.1 hc with rfl|hc
   .exact HF.sc _
   .rw [qW]at hc;subst hc;exact HF.sc _
theorem okNm.ofTS{ts:TS}(h:okTS ts):okNm ts:=⟨h.sl,by have:=h.ns;omega,by have:=h.nf;omega,fun f hf=>by have:=h.fl f hf;omega⟩
theorem Wc(c:Ck)(hc:okCk c)(inn:Bool)(s:Scp)(n:Nd)(hs:s.length<=100000):qi qd 227 [eVw c inn,lVr (envS s),eNd n] (endR zR (yU c s n.name n.pos)):=by
 generalize hR:endR zR (yU c s n.name n.pos)=R;unfold yU at hR;refine qSQ call227 func227 rfl {} ?_;have hel:=VA s;have w0:qj.wrap ((s.length:Int)-1)=(s.length:Int)-1:=qg (by omega) (by omega);simp[go_sem,hel,w0];refine ql.upK s.length (fun d st=>st.tm 1=lVr (envS s)/\st.tm 3 = .ip (cVw c inn)/\st.tm 5 = .ip (cNd n)/\st.tm 6 = .ptr 0 0/\st.tm 7 = .ptr 1 0/\st.tm 8=aI ((s.length:Int)-1-d)/\st.mu=[.arr (aI 0 :: hB fun _=>false),.arr [aI 0,aI 0]]/\yT n.name (s.drop d)=yT n.name s) ?_ ?_
 .exact ⟨by simp[go_sem],by simp[go_sem],by simp[go_sem],by simp[go_sem],by simp[go_sem],by simp[go_sem],by simp[go_sem];first|rfl|exact⟨rfl,rfl⟩,rfl⟩
 rintro d st hd ⟨e1,e3,e5,e6,e7,e8,hm,hI⟩;by_cases hlt:d<s.length
 .have hl:s.length-1-d<(envS s).length:=by omega
  have hget:=qiB s d hlt hl;obtain⟨e,he⟩:∃ e:Nat,e=s.length-1-d:=⟨_,rfl⟩;have hei:(s.length:Int)-1-d=(e:Int):=by omega
  rw[hei]at e8;rw[<-he]at hl;have hget:(envS s)[e]=(s[d].1,qm s[d].2):=by simp only[he];exact hget
  have w1:qj.wrap ((e:Int)-1)=(s.length:Int)-1-((d+1:Nat):Int):=by rw[qg (by omega) (by omega)];omega
  rw[zj hlt]at hI;have h0:(0:Int)<=(e:Int):=by omega
  by_cases hq:s[d].1=n.name
  .have hf:yT n.name s=s[d] :: s.drop (d+1):=by rw[<-hI,yT,if_pos hq]
   rw[hf]at hR;simp only[endR]at hR;have hR:R = .tup [eRS (qm s[d].2),eDg (0,0)]:=hR.symm;subst hR;simp[go_sem,e1,e3,e5,e6,e7,e8,hm,hl,hget];refine qe.intro (by kernel_rfl) ?_;simp[go_sem,e1,e3,e5,e6,e7,e8,hm,hl,hget,hq];generalize qm s[d].2=q at *
   simp[go_sem,e1,e3,e5,e6,e7,e8,hm,hl,hget,qh,tk,pc];rw[if_pos (qC _)];simp[go_sem,e1,e3,e5,e6,e7,e8,hm,qh,tk,pc];exact .hf _ (zO q (0,0))
  .rw [yT,if_neg hq]at hI
   simp[go_sem,e1,e3,e5,e6,e7,e8,hm,hl,hget];refine qe.intro (by kernel_rfl) ?_;simp[go_sem,e1,e3,e5,e6,e7,e8,hm,hl,hget,vd hq,w1,qh];exact⟨by omega,Keep.mk' ⟨by simp[go_sem,e1],by simp[go_sem,e3],by simp[go_sem,e5],by simp[go_sem,e6],by simp[go_sem,e7],by simp[go_sem],by simp[go_sem],hI⟩⟩
 .have hde:d=s.length:=by omega
  subst hde;have e8:st.tm 8=aI (-1):=by rw[e8];congr 2;omega
  rw[zL]at hI;rw[<-hI]at hR;simp only[yT]at hR;have hN:=qhN c.ts (okNm.ofTS hc.ts) n.name;have hNs:=qhM c.ts n.name;rw[qiA hc.ts]at hN hNs;simp[go_sem,e1,e3,e5,e6,e7,e8,hm];refine qb.pure hN (.cons (.hf (zl _)) (.cons (.hf (HF.sc _)) .nil)) ?_;have hF:SetC (fin (aI 0 :: zs) (jN c.ts n.name)):=hNs;generalize hms:jN c.ts n.name=ms at *
  match ms,hms with
  | [],_ =>
   simp only[endR]at hR;subst hR;generalize fin (aI 0 :: zs) []=C at *
   simp[go_sem,e1,e3,e5,e6,e7,e8,hm,hF.len,uV,qh,tk,pc];rw[if_pos hF.one];simp[go_sem,e1,e3,e5,e6,e7,e8,hm,hF.len,uV,qh,tk,pc];refine qe.float [] [0,1,2,3] [(4,true),(5,false)] (by kernel_rfl) (by kernel_rfl) (by kernel_rfl) ?_;simp[go_sem,e1,e3,e5,e6,e7,e8,hm,hF.len,uV,qh,tk,pc];exact⟨rfl,.hf _ (zO zR (_,n.pos))⟩
  | [k],_ =>
   simp only[endR]at hR;subst hR;have e:fin (aI 0 :: zs) [k]=aI (qm k).1 :: hB (qm k).2:=rfl;rw[e]at hF⊢;generalize qm k=q at *
   simp[go_sem,e1,e3,e5,e6,e7,e8,hm,hF.len,uV,qh,tk,pc];rw[if_pos (qC _)];generalize hP:putCells _ 0 (aI q.1 :: hB q.2)=P;have hP2:P=aI q.1 :: hB q.2:=by rw[<-hP];exact pc (aI 0) _ (fun _=>false) _
   subst hP2;clear hP;simp[go_sem,e1,e3,e5,e6,e7,e8,hm,hF.len,uV,qh,tk,pc];rw[if_pos (qC _)];simp[go_sem,e1,e3,e5,e6,e7,e8,hm,hF.len,uV,qh,tk,pc];exact .hf _ (zO q (0,0))
  |k1 :: k2 :: l,_ =>
   simp only[endR]at hR;subst hR;generalize fin (aI 0 :: zs) (k1 :: k2 :: l)=C at *
   simp[go_sem,e1,e3,e5,e6,e7,e8,hm,hF.len,uV,qh,tk,pc];rw[if_pos hF.one];simp[go_sem,e1,e3,e5,e6,e7,e8,hm,hF.len,uV,qh,tk,pc];have hl0:¬((l.length:Int)+1+1=0):=by omega
   have hl1:(1:Int)<(l.length:Int)+1+1:=by omega
   simp[go_sem,e1,e3,e5,e6,e7,e8,hm,hl0,hl1];refine qe.float [] [0,1,2,3] [(4,true),(5,false)] (by kernel_rfl) (by kernel_rfl) (by kernel_rfl) ?_;simp[go_sem,e1,e3,e5,e6,e7,e8,hm,hF.len,uV,qh,tk,pc];exact⟨rfl,.hf _ (zO zR (_,n.pos))⟩
end QL
namespace QM
open Y1
theorem qiC(n:Nd):qi qd 195 [eNd n] (aB (decide (30<=n.op))):=by
 refine qSQ call195 func195 rfl {} ?_;by_cases h:30<=n.op
 .simp [go_sem,h];exact .hf _ (HF.sc _)
 .simp [go_sem,h];exact .hf _ (HF.sc _)
end QM
namespace QN
open Y1 Y2 YF Y9 Y10 P1 P2 QD QE QF QH QL
def setO:Option Kd->RS
 |some k=>qm k
 |none=>zR
abbrev lRS(l:List RS):AV := .lst false (l.map cRS)
theorem qiD(v:RS):∀ c,c∈cRS v->HF c:=fun c hc=>((setC v).sc c hc).2
theorem qiE(v:RS):∀ c,c∈cRS v->c.one=true:=fun c hc=>((setC v).sc c hc).1
theorem Xc(l:List RS):zh 65 (l.map cRS):=fun r hr=>by
 obtain⟨v,_,rfl⟩:=qs.1 hr;exact⟨by simp[hB],qy.2 (qiE v)⟩
theorem ZQ{mu:Mu}{lo:Nat}{s x:AV}{xs ys:List RS}{K:AV->Mu->Prop}(ho:OwnF lo mu 65 s (xs.map cRS))(hx:qG mu x=some (ys.map cRS))(hl:xs.length+ys.length<=100000)(kk:∀ av mu',OwnF lo mu' 65 av ((xs++ys).map cRS)->(∀ i,i<lo->mu'[i]?=mu[i]?)->K av mu') :
  qF qd mu #[274,274] s x K:=by
 refine qF.ownF (lo:=lo) (e:=203) (sz:=65) (bt:=72) (zv := .agg (aI 0 :: zs)) (xs:=xs.map cRS) (ys:=ys.map cRS) (by simp[go_sem]) (by simp[go_sem]) (by simp[go_sem];rfl) rfl rfl (by omega) (by omega) ho hx (Xc xs) (Xc ys) (by simp;omega) ?_;intro av mu' h h2;exact kk av mu' (by rw[zm];exact h) h2
theorem rdRS{lo:Nat}{mu:Mu}{av:AV}{l:List RS}(ho:OwnF lo mu 65 av (l.map cRS)):Rd mu av (lRS l):=
 Own.rd (sz:=65) ho.1 (Xc l).ok fun r hr c hc=>by
  obtain⟨v,_,rfl⟩:=qs.1 hr;exact qiD v c hc
theorem jh(s:RS)(b:Bool):HF (.tup [eRS s,aB b]):=HF.tup fun x hx=>by
 rcases qB.1 hx with rfl|hx
 .exact yc s
 .rw [qW]at hx;subst hx;exact HF.sc _
def ApE(op:Int):Res->RS->Bool->Prop
 | .ok k,S,b=>b=true/\(kd op=101->∃ q,k=some q/\S=qm q)
 | .error _,S,b=>b=false
theorem wkS1(a:RS):WKs [eRS a] [eRS a] := .cons (.hf (yc _)) .nil
theorem wkS2(a b:RS):WKs [eRS a,eRS b] [eRS a,eRS b] := .cons (.hf (yc _)) (.cons (.hf (yc _)) .nil)
theorem wkTI(ts:TS)(k:Int):WKs [eTS ts,aI k] [eTS ts,aI k] := .cons (.hf (zl _)) (.cons (.hf (HF.sc _)) .nil)
theorem nn(n:Int):eRS (n,fun _=>false)=eRS (qm ⟨n,[]⟩):=wg rfl fun j _=>(decide_eq_false fun h=>absurd h.2 zr).symm
def itS:Nat->RS->RS
 | 0,s=>s
 |i+1,s=>uniS (itS i s) (QY (itS i s) (itS i s))
theorem nq(s:RS):∀ i,(itS i s).1=s.1
 | 0=>rfl
 |i+1=>nq s i
theorem nr(s0:RS)(h:1<=s0.1/\s0.1<=3):qi qd 254 [eRS s0] (eRS (itS 4 s0)):=by
 refine qSQ call254 func254 rfl { mt:=[1] } ?_;simp[go_sem,qh];refine⟨qC _,?_⟩;refine ql.upK 4 (fun i st=>st.tm 1 = .ptr 0 0/\st.tm 2 = .ptr 1 0/\st.tm 3=aI i/\st.mu=[.arr (cRS (itS i s0)),.arr (aI 0 :: hB fun _=>false)]) ?_ ?_
 .exact ⟨by simp[go_sem],by simp[go_sem],by simp[go_sem],by simp[go_sem];exact⟨⟨rfl,rfl⟩,rfl⟩⟩
 rintro i st hi ⟨e1,e2,e3,hm⟩;by_cases hlt:i<4
 .have hlt':(i:Int)<4:=by omega
  have w1:qj.wrap ((i:Int)+1)=(i:Int)+1:=qg (by omega) (by omega);have har:=nq s0 i;have cj:=vT (itS i s0) (itS i s0) (by omega) (by omega);have cu:=y7 (itS i s0) (QY (itS i s0) (itS i s0));have hu:uniS (itS i s0) (QY (itS i s0) (itS i s0))=itS (i+1) s0:=rfl;rw[hu]at cu;clear hu;generalize hs':itS (i+1) s0=s' at *
  generalize QY (itS i s0) (itS i s0)=q at *
  generalize itS i s0=s at *
  simp[go_sem,e1,e2,e3,hm,hlt'];refine qe.intro (by kernel_rfl) ?_;simp[go_sem,e1,e2,e3,hm,qh,tk];refine qb.pure cj (.cons (.hf (yc _)) (.cons (.hf (yc _)) .nil)) ?_;simp[go_sem,e1,e2,e3,hm,qh,tk];refine qb.pure cu (.cons (.hf (yc _)) (.cons (.hf (yc _)) .nil)) ?_;simp[go_sem,e1,e2,e3,hm,qh,tk,pc];rw[if_pos (qC _)];simp[go_sem,e1,e2,e3,hm,qh,tk,pc,w1];exact⟨hlt,Keep.mk' ⟨by simp[go_sem,e1],by simp[go_sem,e2],by simp[go_sem],by simp[go_sem,hs']⟩⟩
 .have hie:i=4:=by omega
  subst hie;generalize itS 4 s0=s at *
  simp[go_sem,e1,e2,e3,hm,qh,tk,pc];rw[if_pos (qC _)];simp[go_sem,e1,e2,e3,hm,qh,tk,pc];exact .hf _ (yc s)
def prC(ts:TS)(n:Nd)(l:List RS)(S:RS)(b:Bool):Prop:=qi qd 230 [eTS ts,eNd n,lRS l] (.tup [eRS S,aB b])
theorem ap2(ts:TS)(n:Nd)(L:List RS)(h:n.op=2):prC ts n L (n.n,fun _=>false) true:=by
 unfold prC;refine qSQ call230 func230 rfl {} ?_;simp[go_sem,h,qh,tk,pc];exact .hf _ (jh (n.n,fun _=>false) true)
theorem ap3(ts:TS)(ok:okTS ts)(n:Nd)(L:List RS)(h:n.op=3):prC ts n L (qm (zn ts.sorts.length 1)) true:=by
 unfold prC;refine qSQ call230 func230 rfl {} ?_;have c1:=allU ts ok 1 (by omega);generalize qm (zn ts.sorts.length 1)=q at *
 simp[go_sem,h];refine qb.pure c1 (wkTI ts 1) ?_;simp[go_sem,h,qh,tk,pc];rw[if_pos (qC _)];generalize hP:putCells _ 0 (aI q.1 :: hB q.2)=P;have hP2:P=aI q.1 :: hB q.2:=by rw[<-hP];exact pc (aI 0) _ (fun _=>false) _
 subst hP2;clear hP;simp[go_sem,h,qh,tk,pc];exact .hf _ (jh q _)
theorem ap4(ts:TS)(ok:okTS ts)(n:Nd)(L:List RS)(h:n.op=4):prC ts n L (qm (zn ts.sorts.length 2)) true:=by
 unfold prC;refine qSQ call230 func230 rfl {} ?_;have c1:=allU ts ok 2 (by omega);generalize qm (zn ts.sorts.length 2)=q at *
 simp[go_sem,h];refine qb.pure c1 (wkTI ts 2) ?_;simp[go_sem,h,qh,tk,pc];rw[if_pos (qC _)];generalize hP:putCells _ 0 (aI q.1 :: hB q.2)=P;have hP2:P=aI q.1 :: hB q.2:=by rw[<-hP];exact pc (aI 0) _ (fun _=>false) _
 subst hP2;clear hP;simp[go_sem,h,qh,tk,pc];exact .hf _ (jh q _)
theorem ap5(ts:TS)(n:Nd)(q:RS)(h:n.op=5):prC ts n [q] q true:=by
 unfold prC;refine qSQ call230 func230 rfl {} ?_;simp[go_sem,h,qh,tk,pc];rw[if_pos (qC _)];generalize hP:putCells _ 0 (aI q.1 :: hB q.2)=P;have hP2:P=aI q.1 :: hB q.2:=by rw[<-hP];exact pc (aI 0) _ (fun _=>false) _
 subst hP2;clear hP;simp[go_sem,h,qh,tk,pc];exact .hf _ (jh q _)
theorem ap6(ts:TS)(n:Nd)(q r S:RS)(h:n.op=6)(c:qi qd 249 [eRS q,eRS r] (eRS S)):prC ts n [q,r] S (decide (q.1=r.1)):=by
 unfold prC;refine qSQ call230 func230 rfl {} ?_;simp[go_sem,h,qh,tk,pc];refine qe.floatY [] [10,14] [0,1,2,3,4,5,7,8,9,10,11,12,13,14,15] [(6,false),(16,false),(17,false)] (by kernel_rfl) (by kernel_rfl) (by kernel_rfl) ?_;simp[go_sem,h,qh,tk,pc];refine qb.pure c (wkS2 q r) ?_;simp[go_sem,h,qh,tk,pc];rw[if_pos (qC _)];generalize hP:putCells _ 0 (aI S.1 :: hB S.2)=P;have hP2:P=aI S.1 :: hB S.2:=by rw[<-hP];exact pc (aI 0) _ (fun _=>false) _
 subst hP2;clear hP;simp[go_sem,h,qh,tk,pc];exact .hf _ (jh S _)
theorem ap14(ts:TS)(n:Nd)(q r S:RS)(h:n.op=14)(c:qi qd 249 [eRS q,eRS r] (eRS S)):prC ts n [q,r] S (decide (q.1=r.1)):=by
 unfold prC;refine qSQ call230 func230 rfl {} ?_;simp[go_sem,h,qh,tk,pc];refine qe.floatY [] [10,14] [0,1,2,3,4,5,7,8,9,10,11,12,13,14,15] [(6,false),(16,false),(17,false)] (by kernel_rfl) (by kernel_rfl) (by kernel_rfl) ?_;simp[go_sem,h,qh,tk,pc];refine qb.pure c (wkS2 q r) ?_;simp[go_sem,h,qh,tk,pc];rw[if_pos (qC _)];generalize hP:putCells _ 0 (aI S.1 :: hB S.2)=P;have hP2:P=aI S.1 :: hB S.2:=by rw[<-hP];exact pc (aI 0) _ (fun _=>false) _
 subst hP2;clear hP;simp[go_sem,h,qh,tk,pc];exact .hf _ (jh S _)
theorem ap7(ts:TS)(n:Nd)(q r S:RS)(h:n.op=7)(c:qi qd 250 [eRS q,eRS r] (eRS S)):prC ts n [q,r] S (decide (q.1=r.1)):=by
 unfold prC;refine qSQ call230 func230 rfl {} ?_;simp[go_sem,h,qh,tk,pc];refine qe.floatY [] [10,14] [0,1,2,3,4,5,7,8,9,10,11,12,13,14,15] [(6,false),(16,false),(17,false)] (by kernel_rfl) (by kernel_rfl) (by kernel_rfl) ?_;simp[go_sem,h,qh,tk,pc];refine qb.pure c (wkS2 q r) ?_;simp[go_sem,h,qh,tk,pc];rw[if_pos (qC _)];generalize hP:putCells _ 0 (aI S.1 :: hB S.2)=P;have hP2:P=aI S.1 :: hB S.2:=by rw[<-hP];exact pc (aI 0) _ (fun _=>false) _
 subst hP2;clear hP;simp[go_sem,h,qh,tk,pc];exact .hf _ (jh S _)
theorem ap8(ts:TS)(n:Nd)(q r:RS)(h:n.op=8):prC ts n [q,r] q (decide (q.1=r.1)):=by
 unfold prC;refine qSQ call230 func230 rfl {} ?_;simp[go_sem,h,qh,tk,pc];refine qe.floatY [] [6,10] [0,1,2,3,4,5,6,7,8,9,10,11] [(12,false),(13,false)] (by kernel_rfl) (by kernel_rfl) (by kernel_rfl) ?_;simp[go_sem,h,qh,tk,pc];rw[if_pos (qC _)];generalize hP:putCells _ 0 (aI q.1 :: hB q.2)=P;have hP2:P=aI q.1 :: hB q.2:=by rw[<-hP];exact pc (aI 0) _ (fun _=>false) _
 subst hP2;clear hP;simp[go_sem,h,qh,tk,pc];exact .hf _ (jh q _)
theorem ap32(ts:TS)(n:Nd)(q r:RS)(h:n.op=32):prC ts n [q,r] zR (decide (q.1=r.1)):=by
 unfold prC;refine qSQ call230 func230 rfl {} ?_;simp[go_sem,h,qh,tk,pc];refine qe.floatY [] [4,8] [0,1,2,3,4,5,6,7,8,9] [(10,false),(11,false)] (by kernel_rfl) (by kernel_rfl) (by kernel_rfl) ?_;simp[go_sem,h,qh,tk,pc];exact .hf _ (jh zR _)
theorem ap33(ts:TS)(n:Nd)(q r:RS)(h:n.op=33):prC ts n [q,r] zR (decide (q.1=r.1)):=by
 unfold prC;refine qSQ call230 func230 rfl {} ?_;simp[go_sem,h,qh,tk,pc];refine qe.floatY [] [4,8] [0,1,2,3,4,5,6,7,8,9] [(10,false),(11,false)] (by kernel_rfl) (by kernel_rfl) (by kernel_rfl) ?_;simp[go_sem,h,qh,tk,pc];exact .hf _ (jh zR _)
theorem ap9(ts:TS)(n:Nd)(q r S:RS)(h:n.op=9)(hq:0<=q.1/\q.1<=1000)(hr:0<=r.1/\r.1<=1000)(c:qi qd 251 [eRS q,eRS r] (eRS S)):prC ts n [q,r] S (decide (1<=q.1+r.1-2/\q.1+r.1-2<=3)):=by
 unfold prC;refine qSQ call230 func230 rfl {} ?_;have w1:qj.wrap (q.1+r.1)=q.1+r.1:=qg (by omega) (by omega);have w2:qj.wrap (q.1+r.1-2)=q.1+r.1-2:=qg (by omega) (by omega);simp[go_sem,h,qh,tk,pc];refine qe.intro (by kernel_rfl) ?_;simp[go_sem,h,qh,tk,pc,w1,w2];refine qe.intro (by kernel_rfl) ?_;by_cases h1:1<=q.1+r.1-2
 .simp [go_sem,h,qh,tk,pc,w1,w2,h1]
  refine qb.pure c (wkS2 q r) ?_;simp[go_sem,h,qh,tk,pc,h1];rw[if_pos (qC _)];generalize hP:putCells _ 0 (aI S.1 :: hB S.2)=P;have hP2:P=aI S.1 :: hB S.2:=by rw[<-hP];exact pc (aI 0) _ (fun _=>false) _
  subst hP2;clear hP;simp[go_sem,h,qh,tk,pc,h1];exact .hf _ (jh S _)
 .simp [go_sem,h,qh,tk,pc,w1,w2,h1]
  refine qb.pure c (wkS2 q r) ?_;simp[go_sem,h,qh,tk,pc,h1];rw[if_pos (qC _)];generalize hP:putCells _ 0 (aI S.1 :: hB S.2)=P;have hP2:P=aI S.1 :: hB S.2:=by rw[<-hP];exact pc (aI 0) _ (fun _=>false) _
  subst hP2;clear hP;simp[go_sem,h,qh,tk,pc,h1];exact .hf _ (jh S _)
theorem ap10(ts:TS)(n:Nd)(q r S:RS)(h:n.op=10)(hq:0<=q.1/\q.1<=1000)(hr:0<=r.1/\r.1<=1000)(c:qi qd 252 [eRS q,eRS r] (eRS S)):prC ts n [q,r] S (decide (q.1+r.1<=3)):=by
 unfold prC;refine qSQ call230 func230 rfl {} ?_;have w1:qj.wrap (q.1+r.1)=q.1+r.1:=qg (by omega) (by omega);simp[go_sem,h,qh,tk,pc];refine qe.floatY [] [10,14] [0,1,2,3,4,5,7,8,9,10,11,12,13,14,15,16] [(6,false),(17,false),(18,false)] (by kernel_rfl) (by kernel_rfl) (by kernel_rfl) ?_;simp[go_sem,h,qh,tk,pc,w1];refine qb.pure c (wkS2 q r) ?_;simp[go_sem,h,qh,tk,pc,w1];rw[if_pos (qC _)];generalize hP:putCells _ 0 (aI S.1 :: hB S.2)=P;have hP2:P=aI S.1 :: hB S.2:=by rw[<-hP];exact pc (aI 0) _ (fun _=>false) _
 subst hP2;clear hP;simp[go_sem,h,qh,tk,pc,w1];exact .hf _ (jh S _)
theorem ap11(ts:TS)(n:Nd)(q S:RS)(h:n.op=11)(c:qi qd 253 [eRS q] (eRS S)):prC ts n [q] S (decide (q.1=2)):=by
 unfold prC;refine qSQ call230 func230 rfl {} ?_;simp[go_sem,h,qh,tk,pc];refine qe.floatY [] [7] [0,1,2,4,5,6,7,8] [(3,false),(9,false),(10,false)] (by kernel_rfl) (by kernel_rfl) (by kernel_rfl) ?_;simp[go_sem,h,qh,tk,pc];refine qb.pure c (wkS1 q) ?_;simp[go_sem,h,qh,tk,pc];rw[if_pos (qC _)];generalize hP:putCells _ 0 (aI S.1 :: hB S.2)=P;have hP2:P=aI S.1 :: hB S.2:=by rw[<-hP];exact pc (aI 0) _ (fun _=>false) _
 subst hP2;clear hP;simp[go_sem,h,qh,tk,pc];exact .hf _ (jh S _)
theorem ap12(ts:TS)(n:Nd)(q S:RS)(h:n.op=12)(c:qi qd 254 [eRS q] (eRS S)):prC ts n [q] S (decide (q.1=2)):=by
 unfold prC;refine qSQ call230 func230 rfl {} ?_;simp[go_sem,h,qh,tk,pc];refine qe.floatY [] [7] [0,1,2,4,5,6,7,8] [(3,false),(9,false),(10,false)] (by kernel_rfl) (by kernel_rfl) (by kernel_rfl) ?_;simp[go_sem,h,qh,tk,pc];refine qb.pure c (wkS1 q) ?_;simp[go_sem,h,qh,tk,pc];rw[if_pos (qC _)];generalize hP:putCells _ 0 (aI S.1 :: hB S.2)=P;have hP2:P=aI S.1 :: hB S.2:=by rw[<-hP];exact pc (aI 0) _ (fun _=>false) _
 subst hP2;clear hP;simp[go_sem,h,qh,tk,pc];exact .hf _ (jh S _)
theorem ap13(ts:TS)(ok:okTS ts)(n:Nd)(q C S:RS)(h:n.op=13)(c:qi qd 254 [eRS q] (eRS C))(c2:qi qd 249 [eRS C,eRS (qm (zn ts.sorts.length 2))] (eRS S)):prC ts n [q] S (decide (q.1=2)):=by
 unfold prC;refine qSQ call230 func230 rfl {} ?_;have c1:=allU ts ok 2 (by omega);generalize qm (zn ts.sorts.length 2)=D at *
 simp[go_sem,h,qh,tk,pc];refine qe.floatY [] [4,10] [0,1,2,4,7,8,9,10,11] [(3,false),(5,false),(6,false),(12,false),(13,false)] (by kernel_rfl) (by kernel_rfl) (by kernel_rfl) ?_;simp[go_sem,h,qh,tk,pc];refine qb.pure c (wkS1 q) ?_;simp[go_sem,h,qh,tk,pc];refine qb.pure c1 (wkTI ts 2) ?_;simp[go_sem,h,qh,tk,pc];refine qb.pure c2 (wkS2 C D) ?_;simp[go_sem,h,qh,tk,pc];rw[if_pos (qC _)];generalize hP:putCells _ 0 (aI S.1 :: hB S.2)=P;have hP2:P=aI S.1 :: hB S.2:=by rw[<-hP];exact pc (aI 0) _ (fun _=>false) _
 subst hP2;clear hP;simp[go_sem,h,qh,tk,pc];exact .hf _ (jh S _)
theorem apO(ts:TS)(n:Nd)(L:List RS)(h2:n.op≠2)(h3:n.op≠3)(h4:n.op≠4)(h5:n.op≠5)(h6:n.op≠6)(h14:n.op≠14)(h7:n.op≠7)(h8:n.op≠8)(h32:n.op≠32)(h33:n.op≠33)(h9:n.op≠9)(h10:n.op≠10)(h11:n.op≠11)(h12:n.op≠12)(h13:n.op≠13):prC ts n L zR true:=by
 unfold prC;refine qSQ call230 func230 rfl {} ?_;simp[go_sem,h2,h3,h4,h5,h6,h14,h7,h8,h32,h33,h9,h10,h11,h12,h13,qh,tk,pc];exact .hf _ (jh zR true)
end QN
end Go.Proofs.YtkglmpmlfjogkaaGreatDoor
