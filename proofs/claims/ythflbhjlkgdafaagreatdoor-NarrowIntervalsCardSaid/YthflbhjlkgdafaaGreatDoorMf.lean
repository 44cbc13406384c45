/-
  Own library, part 6: an abstract reading of values and a calculus over it; contracts of functions; plain lemmas.
-/
import Derived.Lib.ItoaLen
import Derived.Handed
import Derived.WideKeyArgs
import Derived.ProofKit
import Derived.OpenShut
import Derived.JoinedCond
import Derived.KernelRfl
import Derived.Test.YthflbhjlkgdafaaGreatDoorMe
set_option linter.unusedVariables false
set_option linter.unusedSimpArgs false
set_option maxRecDepth 100000
open Go renaming Program->qc,TypeId->qd,Oper->yj,undef->z6,FuncId->zV,World->qe,Value->qf
open Go.Proofs.Tryz renaming prog->qg
open List renaming getElem?_eq_some_iff->ql,mem_map->qp,range->qu,getElem_mem->qv,getElem?_eq_getElem->qy,mem_cons->qz,getElem?_set_self->qJ,getElem?_append_left->qL,not_mem_nil->qO,mem_append->qP,mem_singleton->qX,mem_of_getElem?->q8,mem_cons_of_mem->q9,take_length->za,drop_eq_getElem_cons->ze,map_cons->zf,map_append->zi,length_append->zj,mem_cons_self->zo,getElem?_map->zz,getD_eq_getElem?_getD->zH,append_assoc->zL,length_map->zT,take_of_length_le->zU,mem_range->zW,getElem?_append_right->zZ,append_nil->ye,drop_length->yf,cons_append->yq,length_cons->yy,getElem?_set_ne->yH,nil_append->y8,mem_filter->jg,mem_append_left->jh,nodup_cons->ve,ext_getElem?->vg,getD_cons_zero->vh,mem_flatMap->vY,mem_of_mem_take->vZ,foldl_append->uI,eq_nil_of_length_eq_zero->uM,flatMap_cons->we,flatten_cons->wm,getElem_of_mem->ZD
open Nat renaming le_refl->qn,le_trans->zQ,zero_add->yJ,le_of_ble_eq_true->vd
open Go.IntKind renaming i64->qo
open Option.some renaming injEq->qs
open Bool renaming and_eq_true->qD
open Array renaming getD_eq_getD_getElem?->qU
open Option renaming map_some->zh,map_eq_some_iff->vX
open Except.ok renaming injEq->y9
open List.Nodup renaming length_le_of_subset->jl
open Int renaming mul_le_mul->jv,le_refl->Yf
open List.cons renaming injEq->vK
open Prod.mk renaming injEq->wo
namespace Go.Proofs.YthflbhjlkgdafaaGreatDoor
open Go Go.Ev Go.Proofs Tryz
namespace KB
open Y1 Y2 Y9 P1 P2 E1 E2 E3 KA
section
variable {c:Ck}{l:List (Option Kd)}{s:Scp}
inductive ArN (A:dC->Option Int):Nd->Int->Prop where
 |name {n:Nd} {a:Int} (ho:n.op=1) (h:A n.name=some a):ArN A n a
 |none {n:Nd} (ho:n.op=2) (h:1<=n.n/\n.n<=3):ArN A n n.n
 |univ {n:Nd} (ho:n.op=3):ArN A n 1
 |iden {n:Nd} (ho:n.op=4):ArN A n 2
 |prime {n x:Nd} {a:Int} (ho:n.op=5) (hk:n.sD=[x]) (h:ArN A x a):ArN A n a
 |bin {n x:Nd} (ho:11<=n.op/\n.op<=13) (hk:n.sD=[x]) (h:ArN A x 2):ArN A n 2
 |alike {n x y:Nd} {a:Int} (ho:n.op=6\/n.op=7\/n.op=8\/n.op=14) (hk:n.sD=[x,y]) (hx:ArN A x a) (hy:ArN A y a):ArN A n a
 |join {n x y:Nd} {a b:Int} (ho:n.op=9) (hk:n.sD=[x,y]) (hx:ArN A x a) (hy:ArN A y b) (h:1<=a+b-2/\a+b-2<=3):ArN A n (a+b-2)
 |prod {n x y:Nd} {a b:Int} (ho:n.op=10) (hk:n.sD=[x,y]) (hx:ArN A x a) (hy:ArN A y b) (h:a+b<=3):ArN A n (a+b)
 |compr {n x f:Nd} (ho:n.op=15) (hk:n.sD=[x,f]) (hx:ArN A x 1):ArN A n 1
def arS(c:Ck)(s:Scp)(nm:dC):Option Int:=match yQ c s nm 0 with
 | .ok (some k)=>some k.ar
 |_=>none
theorem qnE{nm p k}(h:yQ c s nm p = .ok (some k)):arS c s nm=some k.ar:=by
 unfold arS;unfold yQ at h⊢;split at h
 .simp_all
 .split at h
  .cases h
  .simp_all
  .cases h
theorem wT{n a b}(i:WfN n)(e:shp n.op n.sD.length=some [a,b]):∃ x y,n.sD=[x,y]/\kd x.op=a/\kd y.op=b:=by
 have g:=i.shape;rw[e]at g;simp only[qs]at g
 match j:n.sD,g with
 | [x,y],g=>simp at g;exact⟨x,y,rfl,g.1.symm,g.2.symm⟩
 | [],g=>simp at g
 | [_],g=>simp at g
 |_ :: _ :: _ :: _,g=>simp at g
theorem Qx{n a}(i:WfN n)(e:shp n.op n.sD.length=some [a]):∃ x,n.sD=[x]/\kd x.op=a:=by
 have g:=i.shape;rw[e]at g;simp only[qs]at g
 match j:n.sD,g with
 | [x],g=>simp at g;exact⟨x,rfl,g.symm⟩
 | [],g=>simp at g
 |_ :: _ :: _,g=>simp at g
theorem exL1{b x}(h:zq c s b [x] = .ok l):∃ a,l=[a]/\exam c s b x = .ok a:=by
 obtain⟨g,i⟩:=YL h
 match l,g with
 | [a],_=>exact⟨a,rfl,i 0 x a rfl rfl⟩
theorem exL2{b x y}(h:zq c s b [x,y] = .ok l):∃ a g,l=[a,g]/\exam c s b x = .ok a/\exam c s b y = .ok g:=by
 obtain⟨j,i⟩:=YL h
 match l,j with
 | [a,g],_=>exact⟨a,g,rfl,i 0 x a rfl rfl,i 1 y g rfl rfl⟩
theorem Jc(hc:okCk c):∀ m n s inn k,szN n<=m->WfN n->ScOk c.ts.sS.length s->exam c s inn n = .ok (some k)->kd n.op=101->ArN (arS c s) n k.ar
 | 0,n,_,_,_,hm,_,_,_,_=>by obtain⟨op,nm,i,ks,p⟩:=n;simp[szN]at hm
 |m+1,n,s,inn,k,hm,I,hs,h,a0=>by
  have ho:=YN a0;have j:∀ x,x∈n.sD->szN x<=m:=fun x C=>zW1 (zl C)
  have U:∀ x b q,x∈n.sD->kd x.op=101->exam c s b x = .ok q->∃ k,q=some k/\ArN (arS c s) x k.ar:=fun x b q C g o=>by
   obtain⟨k,rfl,_⟩:=jH hc m x s b q (j x C) (I.kid C) hs o g;exact⟨k,rfl,Jc hc m x s b k (j x C) (I.kid C) hs o g⟩
  rw[vy]at h;split at h
  .cases h
  split at h
  .rename_i h1;exact .name h1 (qnE h)
  split at h
  .omega
  split at h
  .rename_i J
   obtain⟨x,f,g,P,_⟩:=wT (a:=101) (b:=102) I (by unfold shp;rw[zIn,zIn,zIn,if_pos zOm]);rw[g]at h;simp only[jj]at h;cases o:exam c s (inn||decide (n.op=15)) x with
   |error e=>rw[o]at h;cases h
   |ok q =>
    obtain⟨a,rfl,t⟩:=U x _ q (by rw[g];simp) P o;rw[o]at h;simp only at h;split at h
    .rename_i h1
     split at h
     .cases h
     .simp only[y9,qs]at h
      subst h;rw[h1]at t⊢;exact .compr zOm g t
    .cases h
  .rename_i n1 a4 nb
   cases R:zq c s (inn||decide (n.op=12)||decide (n.op=13)) n.sD with
   |error e=>rw[R]at h;cases h
   |ok l =>
    rw[R]at h;simp only at h;by_cases T:n.op=2
    .simp [zE,T]at h;subst h;exact .none T (I.num T)
    by_cases o3:n.op=3
    .simp [zE,o3]at h;subst h;exact .univ o3
    by_cases o4:n.op=4
    .simp [zE,o4]at h;subst h;exact .iden o4
    by_cases u:n.op=5\/n.op=11\/n.op=12\/n.op=13
    .obtain ⟨x,g,P⟩:=Qx (a:=101) I (by unfold shp;rw[zIn,if_pos zOm])
     rw[g]at R;obtain⟨q,rfl,o⟩:=exL1 R;obtain⟨a,rfl,t⟩:=U x _ q (by rw[g];simp) P o;by_cases o5:n.op=5
     .simp [zE,o5]at h;subst h;exact .prime o5 g t
     have J:n.op=11\/n.op=12\/n.op=13:=zOm;simp only[zE,if_neg T,if_neg o3,if_neg o4,if_neg o5,if_pos J]at h;split at h
     .rename_i a2
      simp only[y9,qs]at h;subst h;have:(binK c.ts.sS.length n.op a).ar=2:=by
       have C:=jH hc m x s _ _ (j x (by rw[g];simp)) (I.kid (by rw[g];simp)) hs o P;obtain⟨a',e,ok⟩:=C;cases e;have:=YK ok a2;unfold binK;split
       .exact this.2
       split
       .exact this.2
       .rfl
      rw[a2]at t;rw[this];exact .bin zOm g t
     .cases h
    .obtain ⟨x,y,g,P,ky⟩:=wT (a:=101) (b:=101) I (by unfold shp;rw[zIn,zIn,if_pos zOm])
     rw[g]at R;obtain⟨q,q',rfl,o,a1⟩:=exL2 R;obtain⟨a,rfl,t⟩:=U x _ q (by rw[g];simp) P o;obtain⟨b,rfl,J⟩:=U y _ q' (by rw[g];simp) ky a1;simp only[zE,if_neg T,if_neg o3,if_neg o4]at h;split at h
     .rename_i al
      split at h
      .rename_i e
       simp only[y9,qs]at h;subst h;have:(un n.op a b).ar=a.ar:=by simp only[un,kSum,JY];grind
       rw[this];rw[<-e]at J;exact .alike zOm g t J
      .cases h
     split at h
     .split at h
      .simp only[y9,qs]at h
       subst h;rename_i h9 hr;exact .join h9 g t J hr
      .cases h
     split at h
     .split at h
      .simp only[y9,qs]at h
       subst h;rename_i a3 hr;exact .prod a3 g t J hr
      .cases h
     .omega
structure okI (n a:Int) (b:Bd):Prop where
 lo:GR n b.lo
 up:GR n b.up
 la:b.lo.ar=a
 ua:b.up.ar=a
theorem GR.all{n k}(j:0<=n)(l:1<=k)(g:k<=3):GR n (allN n k):=by
 refine⟨l,g,fun t o=>?_,?_⟩
 .obtain ⟨i,p,rfl⟩:=qp.1 o
  rw[zW]at p;have e:(allN n k).ar=k:=rfl;rw[e,wL zOm g];have:0<=n ^ k.toNat:=Int.pow_nonneg j;omega
 .show ((qu _).map _).Pairwise _
  rw[List.pairwise_map];exact List.pairwise_lt_range.imp fun h=>zOm
theorem cV{n a b}(g:GR n a):GR n (j7 n a b):=g.filter _
theorem Jd{n r}(h:GR n r):okI n r.ar (exR r):=⟨h,h,rfl,rfl⟩
theorem UW{σ env A}(C:0<=σ.n)(hA:∀ nm a,A nm=some a->okI σ.n a (zG σ env nm)){n a}(h:ArN A n a):okI σ.n a (ivl σ env n):=by
 induction h with
 |name j h=>rw[yV];simp only[opI,if_pos j];exact hA _ _ h
 | @none n j h=>rw[yV];simp[opI,j];exact Jd (GR.nil h.1 h.2)
 |univ j=>rw[yV];simp[opI,j];exact Jd (GR.all C zOm zOm)
 |iden j=>rw[yV];simp[opI,j];exact Jd (GR.iden C)
 |prime j I h U=>rw[yV];simp[opI,j,I];exact U
 | @bin n x j I h U =>
  rw[yV,I];obtain⟨l,u,t,p⟩:=U;have cl:=aR C 200 l t;have cu:=aR C 200 u p;rcases (show n.op=11\/n.op=12\/n.op=13 by omega) with o|o|o<;>simp[opI,o]
  .exact ⟨GR.trans C l t,GR.trans C u p,rfl,rfl⟩
  .exact ⟨cl.1,cu.1,cl.2,cu.2⟩
  .exact ⟨aG cl.1 (GR.iden C) cl.2,aG cu.1 (GR.iden C) cu.2,cl.2,cu.2⟩
 |alike j I hx hy J P =>
  rw[yV,I];obtain⟨l,u,t,p⟩:=J;obtain⟨R,T,g,i⟩:=P;rcases j with o|o|o|o<;>simp[opI,o,map2]
  .exact ⟨aG l R (by rw[t,g]),aG u T (by rw[p,i]),t,p⟩
  .exact ⟨l.filter _,u.filter _,t,p⟩
  .exact ⟨l.filter _,u.filter _,t,p⟩
  .exact ⟨aG R (cV l) (by rw[g];exact t.symm),aG T (cV u) (by rw[i];exact p.symm),g,i⟩
 | @join n x y a b j I hx hy h J P =>
  rw[yV,I];obtain⟨l,u,t,p⟩:=J;obtain⟨R,T,g,i⟩:=P;simp[opI,j,map2,js,t,p,g,i,h,vE];exact⟨GR.join C l R zOm zOm,GR.join C u T zOm zOm,by simp[joR,t,g],by simp[joR,p,i]⟩
 |prod j I hx hy h J P =>
  rw[yV,I];obtain⟨l,u,t,p⟩:=J;obtain⟨R,T,g,i⟩:=P;simp[opI,j,map2,jG,t,p,g,i,h,vE];exact⟨GR.prod C l R zOm,GR.prod C u T zOm,by simp[prR,t,g],by simp[prR,p,i]⟩
 |compr j I hx U =>
  rw[yV,I];obtain⟨l,u,t,p⟩:=U;simp[opI,j];exact⟨GR.nil zOm zOm,u,rfl,p⟩
end
end KB
namespace G5
open E4 E9 EO EQ
theorem Kv(sc)(g:GSc sc)(n:Nat)(P:n<=1000000):qj qg 151 [eSc sc,aI n] (aI (sumI (sc.sC.take n))):=by
 have R:=g.1;refine qSU call151 func151 rfl ?_;refine qm.up (min n sc.sC.length) (fun k U=>U.tm 1=aI n/\U.tm 2 = .ip [lI sc.sC,aI sc.sN]/\U.tm 5=aI (sumI (sc.sC.take k))/\U.tm 6=aI k) ?_ ?_
 .simp [go_sem,sumI]
 rintro k U T ⟨l,I,o,p⟩;by_cases j:k<n
 .by_cases i:k<sc.sC.length
  .have J:=wH sc.sC k i
   have t:=g.sum (k+1);rw[J]at t;simp[go_sem,l,I,o,p,j,i]
   grind [yh]
  .have e:sc.sC.take n=sc.sC.take k:=by rw[zU zOm,zU zOm]
   rw[e];simp[go_sem,l,I,o,p,j,i];exact .zsc _
 .have C:k=n:=by omega
  subst C;simp[go_sem,l,o,p];exact .zsc _
theorem Kw(sc)(g:GSc sc):qj qg 70 [eSc sc] (aI (sumI sc.sC)):=by
 have i:=g.1;have h:=Kv sc g sc.sC.length zOm;rw[za]at h;refine qSU call70 func70 rfl ?_;refine fW h (.zk (zD _) (.zs .nil)) ?_;exact .zsc _
theorem Zv(n:Int)(g:0<=n)(i:n<=20):∀ k,k<=3->0<=n ^ k/\n ^ k<=8000
 | 0,_=>zSp
 | 1,_=>by rw[show n ^ 1=n by rw[Int.pow_succ,Int.pow_zero,Int.one_mul]];omega
 | 2,_=>by
  have:n*n<=20*20:=jv i i g zOm;have j:=Int.mul_nonneg g g;rw[show n ^ 2=n*n by grind];omega
 | 3,_=>by
  have j:n*n<=20*20:=jv i i g zOm;have l:=Int.mul_nonneg g g;have o:n*n*n<=400*20:=jv j i g zOm;simp_all[Int.mul_nonneg,Int.pow_succ,Int.pow_zero,Int.one_mul]
 |k+4,h=>zOm
theorem qbE(sc)(g:GSc sc)(n:Nat)(P:n<=3):qj qg 153 [eSc sc,aI n] (aI (sumI sc.sC ^ n)):=by
 have j:=g.sum sc.sC.length;rw[za]at j;refine qSU call153 func153 rfl ?_;refine qm.up n (fun k U=>U.tm 1=aI n/\U.tm 2 = .ip [lI sc.sC,aI sc.sN]/\U.tm 5=aI (sumI sc.sC ^ k)/\U.tm 6=aI k) ?_ ?_
 .simp [go_sem]
 rintro k U R ⟨l,t,C,o⟩;by_cases i:k<n
 .have I:=Zv (sumI sc.sC) j.1 j.2 (k+1) zOm
  have e:sumI sc.sC ^ (k+1)=sumI sc.sC ^ k*sumI sc.sC:=Int.pow_succ ..;rw[e]at I;have J:(k:Int)<3:=zOm;simp[go_sem,l,t,C,o,i,J];refine t8 (Kw sc g) (.zk (zD _) .nil) ?_;simp[go_sem,l,t,o,i]
  grind [yh]
 .have p:k=n:=by omega
  subst p;simp[go_sem,l,C,o];exact .zsc _
theorem qbF(l x)(g:∀ a,a∈l->0<=a):∀ k i,k<=l.length->sumI (l.take k)<=x->ur l x i=ur (l.drop k) (x-sumI (l.take k)) (i+k):=by
 intro k;induction k with
 |zero=>grind [sumI]
 |succ k j =>
  intro i p t;have o:=wH l k zOm;have C:=g _ (qv (show k<l.length by omega));rw[j i zOm zOm,qaN l k _ _ zOm,zIn,o]
  grind
theorem qnF(sc)(g:GSc sc)(x:Nat)(hx:x<=1000):qj qg 212 [eSc sc,aI x] (aI (uu sc x)):=by
 have hl:=g.1;have l:∀ a,a∈sc.sC->0<=a:=fun a T=>(g.2 a T).1
 refine qSU call212 func212 rfl ?_;refine qm.up sc.sC.length (fun k U=>U.tm 1=aI x/\U.tm 2 = .ip [lI sc.sC,aI sc.sN]/\U.tm 5=aI k/\sumI (sc.sC.take k)<=x) ?_ ?_
 .simp [go_sem,sumI]
 rintro k U J ⟨t,p,o,C⟩;by_cases j:k<sc.sC.length
 .have hs:=wH sc.sC k j
  have i:=qbF sc.sC x l k 0 J C;rw[qaN sc.sC k _ _ j]at i;have P:qo.wrap ((k:Int)+1)=((k+1:Nat):Int):=by grind [yh]
  simp[go_sem,t,p,o,j];refine t8 (Kv sc g k zOm) (.zk (zD _) (.zs .nil)) ?_;simp[go_sem,t,p,o,C,P];refine t8 (Kv sc g (k+1) zOm) (.zk (zD _) (.zs .nil)) ?_;by_cases R:(x:Int)<sumI (sc.sC.take (k+1))
  .have e:uu sc x=k:=by
    unfold uu;rw[i,if_pos zOm];omega
   rw[e];simp[go_sem,o,R];exact .zsc _
  .simp [go_sem,t,p,o,j,R,P]
   omega
 .have I:k=sc.sC.length:=by omega
  subst I;have e:uu sc x = -1:=by
   unfold uu;rw[qbF sc.sC x l sc.sC.length 0 J C,yf];rfl
  rw[e];simp[go_sem,p,o];exact .zsc _
def digs(n:Int):Nat->Int->List Int
 | 0,_=>[]
 |k+1,r=>digs n k (r / n)++[r % n]
theorem Je(n):∀ k r,(digs n k r).length=k
 | 0,_=>rfl
 |k+1,r=>by rw[digs,zj,Je n k];rfl
theorem qbG(n):∀ j x,divN n (x / n) j=divN n x (j+1)
 | 0,x=>rfl
 |j+1,x=>by rw[divN,qbG n j x];rfl
theorem qbH(n):∀ j r,digs n (j+1) r=(divN n r j % n) :: digs n j r
 | 0,r=>by simp[digs,divN]
 |j+1,r=>by
  rw[digs,qbH n j (r / n),qbG,yq];rfl
theorem Kx(n r)(i:0<n)(g:0<=r):∀ j,0<=divN n r j/\divN n r j<=r
 | 0=>⟨g,by simp[divN]⟩
 |j+1=>by
  have:=Kx n r i g j;rw[divN];have l:=Int.ediv_le_self n this.1;exact⟨Int.ediv_nonneg this.1 zOm,zOm⟩
theorem qnG{mu b cells ds}(o:mu[b]?=some (.arr cells))(h:∀ i (I:i<ds.length),cells[i]?=some (aI ds[i])):Rd mu (.sl b 1 0 ds.length) (lI ds):=by
 refine .sl b 1 0 ds.length cells (ds.map rI) o ?_ zSp (fun r p=>by obtain⟨x,_,rfl⟩:=qp.1 p;rfl) fun k x y g l=>?_
 .grind
 .rw [yJ]at g
  rw[GD.wK,zz,vX]at l;obtain⟨z,t,rfl⟩:=l;have C:=(ql.1 t);obtain⟨j,rfl⟩:=C;rw[h k j]at g;cases g;exact .zsc _
theorem qnH(sc)(g:GSc sc)(hp:0<sumI sc.sC)(k:Nat)(hk:k<=3)(r:Nat)(hr:(r:Int)<sumI sc.sC ^ k):qj qg 154 [eSc sc,aI k,aI r] (lI (digs (sumI sc.sC) k r)):=by
 have hs:=g.sum sc.sC.length;rw[za]at hs;have a7:=Zv (sumI sc.sC) hs.1 hs.2 k hk;refine qSV call154 func154 rfl ?_;have a0:¬(3:Int)<k:=zOm;have a1:¬(k:Int)<0:=zOm;have a2:¬(r:Int)<0:=zOm;simp[go_sem,a0,a1,a2];refine t8 (qbE sc g k hk) (.zk (zD _) (.zs .nil)) ?_;have a3:¬sumI sc.sC ^ k<=(r:Int):=zOm;simp[go_sem,a3];refine t8 (Kw sc g) (.zk (zD _) .nil) ?_;generalize hN:sumI sc.sC=N at *
 have w0:qo.wrap ((k:Int)-1)=(k:Int)-1:=zWr;simp[go_sem,w0];refine dS (fun m U=>∃ j:Nat,m=k-j/\j<=k/\U.tm 1=aI k/\U.tm 7 = .sl 0 1 0 3/\U.tm 8=aI N/\U.tm 9=aI (divN N r j)/\U.tm 10=aI ((k:Int)-1-j)/\∃ c0 c1 c2,U.mu=[.arr [aI c0,aI c1,aI c2]]/\∀ i (J:i<j),[c0,c1,c2][k-j+i]?=some ((digs N j r)[i]'(by rw[Je];exact J))) k ?_ ?_
 .exact ⟨0,zOm,zOm,zSi,zSi,zSi,by simp[go_sem,divN],zSi,0,0,0,zSi,fun i J=>zOm⟩
 rintro m U ⟨j,rfl,hj,T,e7,P,e9,o,c0,c1,c2,hm,hc⟩;by_cases a8:j<k
 .obtain ⟨d,rfl⟩:∃ d:Nat,k=j+1+d:=⟨k-(j+1),zOm⟩
  have p:d=0\/d=1\/d=2:=zOm;have ex:(((j+1+d:Nat):Int)-1-j)=(d:Int):=zOm;rw[ex]at o;have R:=Kx N r hp zOm j;have a9:(r:Int)<=8000:=zOm;have hq:(divN N r j).tdiv N=divN N r (j+1):=by rw[divN,Int.tdiv_eq_ediv_of_nonneg R.1]
  have t:(divN N r j).tmod N=divN N r j % N:=Int.tmod_eq_emod_of_nonneg R.1;have a6:=Kx N r hp zOm (j+1);have w1:qo.wrap (divN N r (j+1))=divN N r (j+1):=zWr;have C:¬N=0:=zOm;have aa:(digs N (j+1) r)=(divN N r j % N) :: digs N j r:=qbH N j r;have a4:=Je N j r;rcases p with p|p|p
  .have l:U.tm 10=aI 0:=by rw[o,p];rfl
   have w2:qo.wrap (-1) = -1:=zWr;simp[go_sem,e7,P,e9,l,hm,C,hq,t,w1,w2];refine Keep.loop (j+1+d-(j+1)) zOm ⟨j+1,rfl,zOm,zS1 T,by simp[go_sem,e7],zS1 P,zSi,by simp[go_sem];omega,divN N r j % N,c1,c2,zSi,fun i J=>?_⟩
   grind
  .have l:U.tm 10=aI 1:=by rw[o,p];rfl
   have w2:qo.wrap (0)=0:=zWr;simp[go_sem,e7,P,e9,l,hm,C,hq,t,w1,w2];refine Keep.loop (j+1+d-(j+1)) zOm ⟨j+1,rfl,zOm,zS1 T,by simp[go_sem,e7],zS1 P,zSi,by simp[go_sem];omega,c0,divN N r j % N,c2,zSi,fun i J=>?_⟩
   grind
  .have l:U.tm 10=aI 2:=by rw[o,p];rfl
   have w2:qo.wrap (1)=1:=zWr;simp[go_sem,e7,P,e9,l,hm,C,hq,t,w1,w2];refine Keep.loop (j+1+d-(j+1)) zOm ⟨j+1,rfl,zOm,zS1 T,by simp[go_sem,e7],zS1 P,zSi,by simp[go_sem];omega,c0,c1,divN N r j % N,zSi,fun i J=>?_⟩
   grind
 .have a5:j=k:=by omega
  subst a5;have hn:¬(j:Int)<=(j:Int)-1:=zOm;have h3:(j:Int)<=3:=zOm;simp[go_sem,T,e7,o,hm,hn,h3];have a4:=Je N j r;have:=qnG (mu:=[.arr [aI c0,aI c1,aI c2]]) (b:=0) (cells:=[aI c0,aI c1,aI c2]) (ds:=digs N j r) rfl fun i J=>by
   have:=hc i zOm;rw[Nat.sub_self,yJ]at this;rw[show [aI c0,aI c1,aI c2]=[c0,c1,c2].map aI from rfl,zz,this];rfl
  grind
def fitB(sc:Sc)(ds g:List Int):Bool:=allN (fun i=>decide (uu sc (gI ds i)=gI g i)) g.length
theorem qnI(sc)(g:GSc sc)(ds j)(hl:ds.length=j.length)(a0:j.length<=3)(hd:∀ d,d∈ds->0<=d/\d<=1000):qj qg 155 [eSc sc,lI ds,lI j] (aB (fitB sc ds j)):=by
 refine qSU call155 func155 rfl ?_;refine qm.up j.length (fun k U=>U.tm 1=lI ds/\U.tm 2=lI j/\U.tm 3 = .ip [lI sc.sC,aI sc.sN]/\U.tm 7=aI k/\∀ i,i<k->uu sc (gI ds i)=gI j i) ?_ ?_
 .simp [go_sem]
 rintro k U hk ⟨J,p,P,e7,hi⟩;by_cases l:k<j.length
 .have o:k<ds.length:=by omega
  have t:=hd ds[k] (qv o);obtain⟨d,C⟩:=Int.eq_ofNat_of_zero_le t.1;simp[go_sem,p,e7,l];refine tJ zKr ?_;simp[go_sem,J,P,e7,o];have R:=qnF sc g d zOm;rw[<-C]at R;refine t8 R (.zk (zD _) (.zs .nil)) ?_;have g1:gI ds k=ds[k]:=ji o;have g2:gI j k=j[k]:=ji l;by_cases T:uu sc ds[k]=j[k]
  .simp [go_sem,J,p,P,e7,l,T]
   refine⟨zWr,fun i a1=>?_⟩;by_cases h:i=k
   .grind
   grind
  .have hf:fitB sc ds j=false:=qi2 l (by grind)
   rw[hf];simp[go_sem,p,e7,l,T];exact .zsc _
 .have I:k=j.length:=by omega
  subst I;have hf:fitB sc ds j=true:=Uo.2 fun i h=>by grind
  rw[hf];simp[go_sem,p,e7];exact .zsc _
theorem Ky(n)(i:0<n)(g:n<=20):∀ k r,∀ d,d∈digs n k r->0<=d/\d<=1000
 | 0,_,d,h=>by simp[digs]at h
 |k+1,r,d,h=>by
  rw[digs,qP]at h;rcases h with h|h
  .exact Ky n i g k _ d h
  .rw [qX]at h;subst h
   have j:=Int.emod_nonneg r (show n≠0 by omega);have l:=Int.emod_lt_of_pos r i;omega
def j8(sc:Sc)(g:List Int)(r:Nat):List Int:=((qu r).filter fun k:Nat=>fitB sc (digs (sumI sc.sC) g.length k) g).map fun k:Nat=>(k:Int)
theorem qnJ(sc g r):j8 sc g (r+1)=j8 sc g r++(if fitB sc (digs (sumI sc.sC) g.length r) g then [(r:Int)] else []):=by
 unfold j8;rw[List.range_succ,List.filter_append,zi];by_cases h:fitB sc (digs (sumI sc.sC) g.length r) g=true<;>simp[h]
theorem qbI(sc g r):(j8 sc g r).length<=r:=by
 grind [List.length_filter_le,fitB,digs,sumI,qu,List.length_range,j8]
theorem Kz(sc g r):(j8 sc g r).Pairwise (·<·):=by
 unfold j8;rw[List.pairwise_map];exact(List.pairwise_lt_range.filter _).imp fun h=>zOm
theorem qnK(sc g r):∀ x,x∈j8 sc g r->0<=x/\x<r:=fun x i=>by
 obtain⟨k,j,rfl⟩:=qp.1 i;have:=zW.1 (jg.1 j).1;omega
def yR(sc:Sc)(g:List Int):List Int:=j8 sc g (sumI sc.sC ^ g.length).toNat
theorem qnM(sc)(g:GSc sc)(hp:0<sumI sc.sC)(i:List Int)(h1:1<=i.length)(h3:i.length<=3)(hs:∀ s,s∈i->0<=s/\s<sc.sC.length):qj qg 72 [eSc sc,lI i] (eRel ⟨i.length,yR sc i⟩):=by
 have P:=g.sum sc.sC.length;rw[za]at P;have a3:=Zv (sumI sc.sC) P.1 P.2 i.length h3;obtain⟨R,hR⟩:=Int.eq_ofNat_of_zero_le a3.1;have a4:yR sc i=j8 sc i R:=by rw[yR,hR];rfl
 refine qSV call72 func72 rfl ?_;have n1:¬(i.length:Int)<1:=zOm;have n3:¬(3:Int)<(i.length:Int):=zOm;simp[go_sem,n1,n3];refine qm.up i.length (fun k U=>U.tm 1=lI i/\U.tm 2 = .ip [lI sc.sC,aI sc.sN]/\U.tm 4 = .ptr 0 0/\U.tm 5=aI i.length/\U.tm 6=aI k/\U.mu=[.arr [aI 0,.lst true []]]) ?_ ?_
 .simp [go_sem]
 rintro k U hk ⟨e1,I,e4,C,e6,hm⟩;by_cases o:k<i.length
 .have a6:=hs i[k] (qv o)
  have m1:¬i[k]<0:=zOm;have m2:¬(sc.sC.length:Int)<=i[k]:=zOm;simp[go_sem,C,e6,hm,o];refine tJ zKr ?_;simp[go_sem,e1,I,e4,C,e6,o,m1,m2]
  grind [yh]
 have T:k=i.length:=zOm;subst T;simp[go_sem,C,e6,hm];refine dS (fun m U=>∃ k t l,m=R-k/\k<=R/\U.tm 1=lI i/\U.tm 2 = .ip [lI sc.sC,aI sc.sN]/\U.tm 4 = .ptr 0 0/\U.tm 5=aI i.length/\U.tm 7 = .ptr 1 0/\U.tm 8=aI (k:Nat) /\
  U.mu=[.arr [aI 0,.lst true []],.arr [aI i.length,t]]++l/\OwnF 2 ([.dead,.dead]++l) 1 t ((j8 sc i k).map rI)) R ?_ ?_
 .exact ⟨0,.lst true [],[],zOm,zOm,zS1 e1,zS1 I,zS1 e4,zS1 C,zSi,zSi,zSi,by grind [j8,OwnF.nil]⟩
 rintro m U ⟨k,t,l,rfl,hk,e1,I,e4,C,e7,e8,hm,ho⟩;have ho:=ho.low (low:=[.dead,.dead]) (low':=[.arr [aI 0,.lst true []],.arr [aI i.length,t]]) rfl;simp[go_sem,I,C,e8,hm];refine t8 (qbE sc g i.length h3) (.zk (zD _) (.zs .nil)) ?_;rw[hR];by_cases o:k<R
 .simp [go_sem,I,C,e8,o]
  refine t8 (qnH sc g hp i.length h3 k zOm) (.zk (zD _) (.zs (.zs .nil))) ?_;simp[go_sem,e1,I];refine t8 (qnI sc g _ i (Je _ _ _) h3 (Ky _ hp zOm _ _)) (.zk (zD _) (.zk (zy _) (.zk (zy _) .nil))) ?_;have a0:=qnJ sc i k;have a7:=qbI sc i k;cases hb:fitB sc (digs (sumI sc.sC) i.length k) i with
  |false =>
   rw[hb]at a0;simp[go_sem,e8];refine Keep.loop (R-(k+1)) zOm ⟨k+1,t,l,rfl,zOm,zS1 e1,zS1 I,zS1 e4,zS1 C,by simp[go_sem,e7],?_,zSi,?_⟩
   .simp [go_sem];grind [yh]
   grind
  |true =>
   rw[hb]at a0;simp[go_sem,e7,e8];refine fJ (low:=[.arr [aI 0,.lst true []],.arr [aI i.length,t]]) (e:=3) (bt:=8) (z:=0) (xs:=j8 sc i k) (ys:=[(k:Int)]) zSi zSi zSi zOm ho (by simp[qA]) zSo ?_;intro a5 a1 a2;simp[go_sem,e7,e8,a2.cells,a2.one];refine Keep.loop (R-(k+1)) zOm ⟨k+1,a5,a1,rfl,zOm,zS1 e1,zS1 I,zS1 e4,zS1 C,by simp[go_sem,e7],?_,zSi,?_⟩
   .simp [go_sem];grind [yh]
   .rw [a0]
    simpa[go_sem] using a2.low (low':=[.dead,.dead]) rfl
 .have T:k=R:=by omega
  subst T;simp[go_sem,e4,e7,ho.one];rw[a4];exact Rd.rel (r:=⟨i.length,j8 sc i k⟩) (ho.low (low:=[.arr [aI 0,.lst true []],.arr [aI i.length,t]]) (low':=[.arr [aI i.length,t],.arr [aI i.length,t]]) rfl).rdI
end G5
namespace GM
end GM
namespace GP
open P1 G5
def defB(ts:TS)(sc:Sc):List Bd:=ts.sA.map fun f=>⟨⟨f.sS.length,[]⟩,⟨f.sS.length,yR sc f.sS⟩⟩
end GP
namespace GQ
def u5(sc:Sc):Bool:=decide (sc.sC.length<=4)&&(decide (1<=sc.sN)&&(decide (sc.sN<=4)&&(sc.sC.all (fun a=>decide (1<=a)&&decide (a<=5))&&decide (sumI sc.sC<=12))))
end GQ
namespace GR
open P1 E4 EO EQ F4 G5
section
variable {xs:List (List AV)}{mu:Mu}
theorem jV.ownB{P}{t g e sz bt:Nat}{s x ys zv K}(T:qF P t=some (e,sz,bt))(j:(qF P g).isSome=true)(U:qB P e=some zv)
  (l:zv.cells.length=sz) (o:zv.cells.all AV.one=true) (p:sz≠0) (hb:bt<=16384) (ho:Own mu sz s xs) (hx:qA mu x=some ys) (J:qV sz xs) (wy:qV sz ys) (R:xs.length+ys.length<=4294967296)
  (k:∀ av mu',Own mu' sz av (xs++ys)->(∀ i,i<mu.length->qq s≠some i->mu'[i]?=mu[i]?)->(∀ b,qq av=some b->b=mu.length)->mu.length<=mu'.length->(ys≠[]->∃ b,qq av=some b)->K av mu'):jV P mu #[t,g] s x K:=by
 refine⟨t,g,e,sz,bt,ys,rfl,T,j,⟨zv,U,l,o⟩,p,hb,hx,wy,?_⟩;rcases ho with rfl|⟨b,rfl,hc⟩
 .refine .inl ⟨xs,rfl,J,R,fun h=>?_,fun h=>?_⟩
  .subst h
   exact k _ _ (.inl zSp) (fun _ _ _=>rfl) (fun b h=>by cases h) (qn _) (fun h=>absurd rfl h)
  .refine k _ _ (.inr ⟨mu.length,zSp,zSp⟩) (fun i C _=>?_) (fun b h=>by cases h;rfl) zSp (fun _=>⟨_,rfl⟩)
   rw[qL C]
 .have a0:=yK J.ok
  refine .inr ⟨b,xs.length,xs.flatten,rfl,hc,zOm,R,?_⟩;have a1:xs.flatten.take (xs.length*sz)=xs.flatten:=zU zOm;refine k _ _ (.inr ⟨mu.length,zSp,?_⟩) (fun i C I=>?_) (fun b h=>by cases h;rfl) zSp (fun _=>⟨_,rfl⟩)
  .grind
  .rw [qL (zUs C)]
   rw[yH (fun e=>I (by rw[e];rfl))]
theorem cL{P}{t t' e sz bt:Nat}{s y}(j){zv full K}(R)(hs:qF P t=some (e,sz,bt))(o:(qF P t').isSome=true)(hz:qB P e=some zv)
  (p:zv.cells.length=sz) (C:zv.cells.all AV.one=true) (I:sz≠0) (l:bt<=16384) (ho:Own mu sz s xs) (J:∀ b,qq s=some b->b<R) (T:Rds (cutM (fun i=>decide (R<=i)) mu 0) y j) (wx:qV sz xs) (wy:qV sz [j]) (hl:xs.length+1<=4294967296)
  (k:∀ av mu',Own mu' sz av (xs++[j])->(∀ i,i<mu.length->i<R->qq s≠some i->mu'[i]?=mu[i]?)->(∀ b,qq av=some b->b=mu.length)->mu.length<=mu'.length->(∃ b,qq av=some b)->K av mu'):qx P mu #[t,t'] s (.lst full [y]) K:=by
 have cg:∀ i,i<R->(cutM (fun i=>!decide (R<=i)) mu 0)[i]?=mu[i]?:=fun i hi=>by
  simp_all[jA,yJ,decide_eq_false,Bool.not_false,if_true]
 have g:Rd (cutM (fun i=>decide (R<=i)) mu 0) (.lst full [y]) (.lst full [j]):=by
  obtain⟨h1,h2⟩:=T.get;refine .lst full _ _ rfl (fun k a b ha l=>?_) (fun k a b ha l=>?_)
  .grind
  grind
 have U:Own (cutM (fun i=>!decide (R<=i)) mu 0) sz s xs:=by
  rcases ho with h|⟨b,h,hc⟩
  .exact .inl h
  .exact .inr ⟨b,h,by rw[cg b (J b (by rw[h];rfl))];exact hc⟩
 refine .inr (.inl ⟨_,_,g,jV.ownB hs o hz p C I l U rfl wx wy hl fun av mu' h1 h2 h3 h4 h5=>k av mu' h1 (fun i hi hR a0=>?_) (fun b l=>?_) ?_ (h5 zSp)⟩)
 .grind
 .grind [uN]
 grind [uN]
theorem KP{C:Type}{f g}:∀{l:List C},(∀ a,a∈l->Rds mu (f a) (g a))->∀(k:Nat) x y,(l.map f).flatten[k]?=some x->(l.map g).flatten[k]?=some y->Rd mu x y
 | [],_,k,x,y,i,_=>by simp at i
 |a :: l,h,k,x,y,i,j=>by
  obtain⟨o,p⟩:=(h a (zo ..)).get;simp only[zf,wm]at i j;by_cases t:k<(f a).length
  .rw [qL t]at i
   rw[zGa]at j;exact p k x y i j
  .rw [zZ zOm]at i
   rw[zZ zOm,o]at j;exact KP (fun b I=>h b (q9 _ I)) _ x y i j
theorem cZ{C:Type}{sz av f g}{l:List C}(h:Own mu sz av (l.map f))(wf:jn sz (l.map f))(j:jn sz (l.map g))(p:∀ a,a∈l->Rds mu (f a) (g a)):Rd mu av (.lst false (l.map g)):=by
 rcases h with rfl|⟨b,rfl,t⟩
 .refine .wk _ true _ (.lst true _ _ zSp (fun k x y i o=>?_) (KP p))
  rw[wf x (q8 i),j y (q8 o)]
 .refine .sl b sz 0 _ _ _ t (zW1 (yK wf)) zSp j (fun k x y i o=>?_)
  rw[yJ]at i
  grind [KP]
theorem Vj:∀{l},l≠[]->(∀ a,a∈l->1<=a)->1<=sumI l
 | [],h,_=>absurd rfl h
 | [a],_,h=>by simp_all[sumI]
 |a :: b :: l,_,h=>by
  have j:=h a zSp;have g:=Vj (l:=b :: l) zSp fun x i=>h x (q9 _ i)
  simp only[sumI,List.foldr_cons]at g⊢;omega
structure Fit9 (ts:TS) (sc:Sc):Prop where
 g:GSc sc
 p:ts.sA≠[]->0<sumI sc.sC
 nf:ts.sA.length<=6
 ns:ts.sS.length=sc.sC.length
 s1:1<=sc.sN
 s4:sc.sN<=4
 f1:∀ f,f∈ts.sA->1<=f.sS.length/\f.sS.length<=3
 fs:∀ f,f∈ts.sA->∀ s,s∈f.sS->0<=s/\s<sc.sC.length
theorem Fit9.pf{ts sc}(F:Fit9 ts sc){f}(hf:f∈ts.sA):0<sumI sc.sC:=F.p fun e=>by rw[e]at hf;exact absurd hf qO
def rowD(sc:Sc)(f:Fld):List AV:=[aI f.sS.length,.lst true [],aI f.sS.length,lI (yR sc f.sS)]
theorem KQ(sc)(l:List Fld):qV 4 (l.map (rowD sc)):=fun r g=>by
 obtain⟨n,_,rfl⟩:=qp.1 g;exact⟨rfl,rfl⟩
theorem KS{R sz av}(h:Own mu sz av xs)(g:∀ b,qq av=some b->R<=b):Own (cutM (fun i=>decide (R<=i)) mu 0) sz av xs:=by
 rcases h with h|⟨b,h,j⟩
 .exact .inl h
 .refine .inr ⟨b,h,?_⟩
  rw[jA,j];simp[g b (by rw[h];rfl)]
end
end GR
namespace GS
open P1 GB
def fixS(g:List Bool)(i rs:List Rl)(j:Nat):List Rl:=rs.mapIdx fun f r=>if f<j/\g.getD f true=false then i.getD f noR else r
theorem qnN(g i rs):fixS g i rs 0=rs:=by
 refine vg fun f=>?_
 simp[fixS]
theorem qnO(g i rs j):(fixS g i rs j).length=rs.length:=by simp[fixS]
theorem qnP(g l rs j)(h:j<rs.length):fixS g l rs (j+1)=if g.getD j true=false then (fixS g l rs j).set j (l.getD j noR) else fixS g l rs j:=by
 refine vg fun f=>?_
 by_cases i:g.getD j true=false
 .rw [if_pos i,List.getElem?_set]
  simp only[fixS,List.getElem?_mapIdx,List.length_mapIdx];by_cases hf:j=f
  .subst hf
   rw[if_pos rfl,if_pos h,qy h];simp only[zh,Nat.lt_succ_self,i,and_self,if_true]
  .rw [if_neg hf]
   cases rs[f]? with
   |none=>rfl
   |some r=>simp only[zh];congr 1;by_cases o:f<j<;>simp[o,show (f<j+1)=(f<j) by simp;omega]
 .rw [if_neg i]
  simp only[fixS,List.getElem?_mapIdx];cases rs[f]? with
  |none=>rfl
  |some r =>
   simp only[zh];congr 1;by_cases hf:f=j
   .subst hf;rw[if_neg (fun h=>i h.2),if_neg (fun h=>i h.2)]
   .by_cases o:f<j<;>simp[o,show (f<j+1)=(f<j) by simp;omega]
abbrev vsT(ts:TS):List Bool:=ts.sA.map fun f=>f.var
end GS
namespace GG
@[go_sem ↓] theorem qwE(P pl l Q o k r T st i op ty pos after j g) :
  segO P pl l Q o k r T st (some ⟨i,op,ty,pos,after,some (j,g)⟩)=JR ((l[j]?).bind (·.dst)) st g (fun st=>segO P pl l Q o k r T st (some ⟨i,op,ty,pos,after,none⟩)) (fun st=>awpT P pl l.toArray Q o T (st.put i (.sc z6) st.mu)):=by
 simp only[segO,yN,JR,List.getElem?_toArray]
 grind [brK,BrS,OptK,Br]
end GG
namespace GH
end GH
namespace GU
abbrev Ch:=Int×Int×Int
def selT(g:List Ch)(s f:Nat):List Int:=(g.filter fun c:Ch=>decide (c.1=(s:Int))&&decide (c.2.1=(f:Int))).map fun c=>c.2.2
end GU
namespace GN
open E3
instance:DecidableEq Sc:=fun a b=>decidable_of_iff (a.sC=b.sC/\a.sN=b.sN) (by
 obtain⟨a1,a2⟩:=a;obtain⟨b1,b2⟩:=b;simp)
instance:DecidableEq Md:=fun a b=>decidable_of_iff (a.sc=b.sc/\a.sK=b.sK/\a.loop=b.loop) (by
 obtain⟨a1,a2,a3⟩:=a;obtain⟨b1,b2,b3⟩:=b;simp)
end GN
namespace GV
end GV
namespace GW
open P1 E9 EW GA G5
theorem qbJ:∀ l x i,0<=x->ur l x i = -1\/∃(j:Nat) (h:j<l.length),ur l x i=i+j/\0<=x-sumI (l.take j)/\x-sumI (l.take j)<l[j]
 | [],x,i,_ => .inl rfl
 |a :: l,x,i,h=>by
  rw[ur];by_cases g:x<a
  .grind [sumI]
  .rw [if_neg g]
   rcases qbJ l (x-a) (i+1) zOm with e|⟨j,o,p,t,C⟩
   .exact .inl e
   .refine .inr ⟨j+1,zUs o,by rw[p];push_cast;omega,?_,?_⟩
    .simp only[List.take_succ_cons,sumI,List.foldr_cons]at t⊢;omega
    .simp only[List.take_succ_cons,sumI,List.foldr_cons,List.getElem_cons_succ]at C⊢;omega
def y5(n:Int)(ds:List Int)(p:Int):Int:=ds.foldl (fun p d=>p*n+d) p
theorem qbK(n)(i:0<n):∀ k r,0<=r->r<n ^ k->y5 n (digs n k r) 0=r
 | 0,r,j,g=>by
  have:r=0:=by rw[Int.pow_zero]at g;omega
  subst this;rfl
 |k+1,r,j,g=>by
  have l:r / n<n ^ k:=Int.ediv_lt_of_lt_mul i (by rw[<-Int.pow_succ];exact g);rw[digs,y5,uI];show y5 n (digs n k (r / n)) 0*n+r % n=r;rw[qbK n i k (r / n) (Int.ediv_nonneg j zOm) l,Int.mul_comm];exact Int.mul_ediv_add_emod r n
theorem qbL(sc)(P:∀ a,a∈sc.sC->0<=a):∀(l ds:List Int)(p),ds.length=l.length->(∀ s,s∈l->0<=s)->(∀(i h)(h2:i<l.length),0<=ds[i]/\uu sc ds[i]=l[i])->y5 (sumI sc.sC) ds p∈tupR sc l p
 | [],[],p,_,_,_=>by simp[tupR,y5]
 |s :: l,d :: ds,p,o,J,h=>by
  rw[tupR,vY];obtain⟨t,g⟩:=h 0 zSp zSp;simp only[List.getElem_cons_zero]at t g;have R:=J s zSp;rcases qbJ sc.sC d 0 t with e|⟨j,T,U,e2,e3⟩
  .rw [uu,e]at g;omega
  .rw [uu,U]at g
   have C:s.toNat=j:=zOm;have hg:gI sc.sC s.toNat=sc.sC[j]:=by rw[C];exact ji T
   refine⟨(d-sumI (sc.sC.take j)).toNat,zW.2 (by rw[hg];omega),?_⟩;have:=qbL sc P l ds (p*sumI sc.sC+d) (zUs o) (fun s hs=>J s (zP1 hs)) (fun i hi I=>h (i+1) (zUs hi) (zUs I));rw[C,show sumI (sc.sC.take j)+((d-sumI (sc.sC.take j)).toNat:Int)=d by omega];exact this
 | [],_ :: _,_,o,_,_=>by simp at o
 |_ :: _,[],_,o,_,_=>by simp at o
theorem qnQ(sc)(g:GSc sc)(C:0<sumI sc.sC)(l:List Int)(J:l.length<=3)(P:∀ s,s∈l->0<=s/\s<sc.sC.length):∀ x,x∈yR sc l->x∈tupR sc l 0:=fun x I=>by
 have j:=g.sum sc.sC.length;rw[za]at j;have R:=Zv (sumI sc.sC) j.1 j.2 l.length J;unfold yR j8 at I;obtain⟨r,T,rfl⟩:=qp.1 I;obtain⟨U,h2⟩:=jg.1 T;rw[zW]at U;have o:(r:Int)<sumI sc.sC ^ l.length:=zOm;have hf:=qbK (sumI sc.sC) C l.length r zOm o;have hm:=qbL sc (fun a ha=>(g.2 a ha).1) l (digs (sumI sc.sC) l.length r) 0 (Je _ _ _) (fun s p=>(P s p).1) (fun i hi t=>?_)
 .grind
 .have hd:=Ky (sumI sc.sC) C j.2 l.length r _ (qv hi)
  refine⟨hd.1,?_⟩;have:=Uo.1 h2 i t
  grind [ji]
structure BndV (ts:TS) (sc:Sc) (bs:List Bd):Prop where
 len:bs.length=ts.sA.length
 lo:∀(i:Nat)(h:i<bs.length)(h2:i<ts.sA.length),bs[i].lo.ar=ts.sA[i].sS.length/\bs[i].up.ar=ts.sA[i].sS.length
 so:∀ b,b∈bs->b.lo.ts.Pairwise (·<·)/\b.up.ts.Pairwise (·<·)
 sub:∀ b,b∈bs->∀ t,t∈b.lo.ts->t∈b.up.ts
 full:∀(i:Nat)(h:i<bs.length)(h2:i<ts.sA.length),∀ t,t∈bs[i].up.ts->t∈yR sc ts.sA[i].sS
theorem KU(sc l):∀ t,t∈yR sc l->0<=t/\t<(sumI sc.sC ^ l.length).toNat:=fun t g=>qnK _ _ _ t g
theorem qnR(sc)(g:GSc sc)(l)(j:l.length<=3):(yR sc l).length<=8000:=by
 have i:=g.sum sc.sC.length;rw[za]at i;have o:=Zv (sumI sc.sC) i.1 i.2 l.length j;refine zQ (qbI _ _ _) ?_;omega
theorem qnS{a b:List Int}(g:a.Pairwise (·<·))(h:∀ t,t∈a->t∈b):a.length<=b.length:=jl (qkN g) h
end GW
namespace LA
open E9 EW G5 GW
theorem Vk(a l):sumI (a :: l)=a+sumI l:=rfl
theorem Jf:∀ m,(∀ a,a∈m->0<=a)->0<=sumI m
 | [],_=>Yf _
 |a :: m,h=>by have:=Jf m fun b g=>h b (zP1 g);have:=h a zSp;rw[Vk];omega
theorem KY:∀ m j i,(∀ a,a∈m->0<=a)->sumI (m.take j)+m[j]<=sumI m
 |a :: m,0,_,h=>by have:=Jf m fun b g=>h b (zP1 g);show (0:Int)+a<=_;rw[Vk];omega
 |a :: m,j+1,i,h=>by have:=KY m j (zUs i) fun b g=>h b (zP1 g);rw[List.take_succ_cons,Vk,Vk,List.getElem_cons_succ];omega
theorem qbM:∀ l j k i t,(∀ a,a∈l->0<=a)->0<=k->k<l[j]->ur l (sumI (l.take j)+k) i=i+j
 |a :: l,0,k,i,_,_,C,g=>by
  have:sumI ([]:List Int)=0:=rfl;simp only[List.getElem_cons_zero]at g;rw[ur,List.take_zero,this,if_pos zOm];simp
 |a :: l,j+1,k,i,t,o,C,g=>by
  have I:=o a zSp;have J:=Jf (l.take j) fun b p=>o b (by simp[vZ p])
  rw[ur,List.take_succ_cons,Vk,zIn];have:=qbM l j k (i+1) (zUs t) (fun b p=>o b (zP1 p)) C (zUs g);rw[show a+sumI (l.take j)+k-a=sumI (l.take j)+k by omega,this]
  push_cast;omega
def OkL(sc:Sc)(l:List Int):Prop:=∀ s,s∈l->0<=s/\s<sc.sC.length
theorem UX(sc)(g:∀ a,a∈sc.sC->0<=a):∀ l,OkL sc l->∀ p x,x∈tupR sc l p->∃ ds,ds.length=l.length/\x=y5 (sumI sc.sC) ds p/\(∀ d,d∈ds->0<=d/\d<sumI sc.sC)/\∀(i h)(t:i<l.length),uu sc ds[i]=l[i]
 | [],_,p,x,h=>by
  simp[tupR]at h;exact⟨[],rfl,by simp[y5,h],zSp,zSp⟩
 |s :: l,C,p,x,h=>by
  rw[tupR,vY]at h;obtain⟨k,I,h⟩:=h;rw[zW]at I;obtain⟨h0,h1⟩:=C s zSp;have j:s.toNat<sc.sC.length:=zOm;rw[ji j]at I;obtain⟨ds,P,R,T,U⟩:=UX sc g l (fun s hs=>C s (zP1 hs)) _ x h;have J:=KY _ _ j g;have a0:=Jf (sc.sC.take s.toNat) fun b hb=>g b (vZ hb)
  refine⟨(sumI (sc.sC.take s.toNat)+k) :: ds,zP1 P,by rw[R];rfl,fun d o=>?_,fun i h t=>?_⟩
  .rcases qz.1 o with rfl|o
   .omega
   .exact T d o
  .cases i with
   |zero =>
    have:=qbM sc.sC s.toNat k 0 j g zOm zOm;simp only[List.getElem_cons_zero,uu];rw[this];omega
   |succ i=>simpa using U i (zUs h) (zUs t)
theorem qnT(n ds d p):y5 n (ds++[d]) p=y5 n ds p*n+d:=by simp[y5]
theorem qbN(n)(g:0<n):∀ k ds,ds.length=k->(∀ d,d∈ds->0<=d/\d<n)->(0<=y5 n ds 0/\y5 n ds 0<n ^ k)/\digs n k (y5 n ds 0)=ds
 | 0,ds,h,_=>by
  obtain rfl:=uM h;simp[y5,digs]
 |k+1,ds,h,j=>by
  obtain⟨J,d,rfl⟩:∃ J d,ds=J++[d]:=⟨ds.dropLast,ds.getLast (by intro e;simp[e]at h),(List.dropLast_concat_getLast _).symm⟩;obtain⟨⟨l,C⟩,o⟩:=qbN n g k J (zUs h) fun d i=>j d (zP1 i)
  obtain⟨d1,d2⟩:=j d zSp;rw[qnT];have p:(y5 n J 0*n+d) / n=y5 n J 0:=by
   rw[Int.add_comm,Int.add_mul_ediv_right _ _ zOm,Int.ediv_eq_zero_of_lt d1 d2];omega
  have t:(y5 n J 0*n+d) % n=d:=by
   rw[Int.add_comm,Int.add_mul_emod_self_right,Int.emod_eq_of_lt d1 d2]
  refine⟨⟨?_,?_⟩,?_⟩
  .have:=Int.mul_nonneg l (Int.le_of_lt g);omega
  .have:=Int.mul_le_mul_of_nonneg_right (show y5 n J 0+1<=n ^ k by omega) (Int.le_of_lt g)
   rw[Int.pow_succ];rw[Int.add_mul]at this;omega
  .rw [digs,p,t,o]
theorem KZ(n)(g:0<n):∀ ds p,(∀ d,d∈ds->0<=d/\d<n)->p*n ^ ds.length<=y5 n ds p/\y5 n ds p<(p+1)*n ^ ds.length
 | [],p,_=>by simp[y5];omega
 |d :: ds,p,h=>by
  obtain⟨d1,d2⟩:=h d zSp;obtain⟨a,b⟩:=KZ n g ds (p*n+d) fun e j=>h e (zP1 j)
  have i:0<n ^ ds.length:=Int.pow_pos g;have e:n ^ (d :: ds).length=n ^ ds.length*n:=Int.pow_succ ..;have l:y5 n (d :: ds) p=y5 n ds (p*n+d):=rfl;rw[l,e];have c1:p*(n ^ ds.length*n)<=(p*n+d)*n ^ ds.length:=by
   rw[Int.add_mul,show p*(n ^ ds.length*n)=p*n*n ^ ds.length by rw[Int.mul_comm (n ^ ds.length),Int.mul_assoc]];have:=Int.mul_nonneg d1 (Int.le_of_lt i);omega
  have c2:(p*n+d+1)*n ^ ds.length<=(p+1)*(n ^ ds.length*n):=by
   rw[show (p+1)*(n ^ ds.length*n)=((p+1)*n)*n ^ ds.length by rw[Int.mul_comm (n ^ ds.length),Int.mul_assoc]];refine Int.mul_le_mul_of_nonneg_right ?_ (Int.le_of_lt i);rw[Int.add_mul];omega
  omega
theorem qbO(sc)(i:0<sumI sc.sC)(o:∀ a,a∈sc.sC->0<=a):∀ l,OkL sc l->∀ p,(tupR sc l p).Pairwise (·<·)
 | [],_,p=>by simp[tupR]
 |s :: l,C,p=>by
  have g:OkL sc l:=fun s I=>C s (zP1 I)
  rw[tupR];have:∀ m:Nat,((qu m).flatMap fun k:Nat=>tupR sc l (p*sumI sc.sC+(sumI (sc.sC.take s.toNat)+k))).Pairwise (·<·):=fun m=>by
   induction m with
   |zero=>simp
   |succ m P =>
    rw[List.range_succ,List.flatMap_append,List.pairwise_append];refine⟨P,by simpa using qbO sc i o l g _,fun x j y t=>?_⟩;rw[vY]at j;obtain⟨k,R,j⟩:=j;rw[zW]at R;simp only[we,List.flatMap_nil,ye]at t;obtain⟨T,U,a2,a3,_⟩:=UX sc o l g _ x j;obtain⟨J,b1,b2,b3,_⟩:=UX sc o l g _ y t;have h1:=(KZ _ i T (p*sumI sc.sC+(sumI (sc.sC.take s.toNat)+k)) a3).2;have h2:=(KZ _ i J (p*sumI sc.sC+(sumI (sc.sC.take s.toNat)+m)) b3).1;rw[<-a2,U]at h1;rw[<-b2,b1]at h2;have:=Int.mul_le_mul_of_nonneg_right (show p*sumI sc.sC+(sumI (sc.sC.take s.toNat)+k)+1<=p*sumI sc.sC+(sumI (sc.sC.take s.toNat)+m) by omega) (Int.le_of_lt (Int.pow_pos i:0<sumI sc.sC ^ l.length));omega
  exact this _
theorem K0(sc)(g:GSc sc)(o:0<sumI sc.sC)(l)(I:l.length<=3)(p:OkL sc l):tupR sc l 0=yR sc l:=by
 have t:∀ a,a∈sc.sC->0<=a:=fun a J=>(g.2 a J).1
 have s1:=qbO sc o t l p 0;have P:(yR sc l).Pairwise (·<·):=Kz _ _ _;have j:∀ x,x∈tupR sc l 0->x∈yR sc l:=fun x R=>by
  obtain⟨T,U,a2,a3,a4⟩:=UX sc t l p 0 x R;obtain⟨⟨b1,b2⟩,C⟩:=qbN _ o l.length T U a3;rw[<-a2]at b1 b2 C;unfold yR j8;refine qp.2 ⟨x.toNat,jg.2 ⟨zW.2 zOm,?_⟩,zOm⟩;rw[show ((x.toNat:Nat):Int)=x by omega,C];exact Uo.2 fun i hi=>by
   have:=a4 i zOm zOm
   grind [ji]
 exact GA.mG s1 P fun x=>⟨j x,qnQ sc g o l I p x⟩
end LA
namespace KC
open Y2 P1 E1 E2 G5 GW KA KB LA
section
variable {ts:TS}
structure ScN (ts:TS) (sc:Sc):Prop where
 g:GSc sc
 ns:ts.sS.length=sc.sC.length
 a1:∀ a,a∈sc.sC->1<=a
theorem ScN.n0{sc}(h:ScN ts sc):0<=sumI sc.sC:=Jf _ fun a g=>by have:=h.a1 a g;omega
theorem ScN.le{sc}(h:ScN ts sc){i}(j:i<sc.sC.length):1<=sc.sC[i]/\0<=sumI (sc.sC.take i)/\sumI (sc.sC.take i)+sc.sC[i]<=sumI sc.sC:=
 ⟨h.a1 _ (qv j),Jf _ fun a g=>zW1 (h.a1 a (vZ g)),KY _ _ j fun a g=>zW1 (h.a1 a g)⟩
def BdN(ts:TS)(n:Int)(bs:List Bd):Prop:=bs.length=ts.sA.length/\∀(i:Nat)(h:i<bs.length)(g:i<ts.sA.length),okI n ts.sA[i].sS.length bs[i]
theorem qbP{nm}:∀{fs bs},bs.length=fs.length->(je nm fs bs=none/\z7 fs nm=[])\/∃(i:Nat) (h:i<bs.length) (j:i<fs.length),je nm fs bs=some bs[i]/\fs[i].name=nm/\∃ r,z7 fs nm=kOf fs[i].sS :: r
 | [],[],_ => .inl ⟨rfl,rfl⟩
 |f :: fs,b :: bs,h=>by
  by_cases g:f.name=nm
  .exact .inr ⟨0,zSp,zSp,by simp[je,g],g,z7 fs nm,by simp[z7,g]⟩
  .have l:je nm (f :: fs) (b :: bs)=je nm fs bs:=by simp[je,g]
   have o:z7 (f :: fs) nm=z7 fs nm:=by simp[z7,g]
   rw[l,o];rcases qbP (nm:=nm) (fs:=fs) (bs:=bs) (zUs h) with ⟨a,b⟩|⟨i,p,j,a,b,r,c⟩
   .exact .inl ⟨a,b⟩
   .exact .inr ⟨i+1,zSo,zSo,zUs a,zUs b,r,zUs c⟩
theorem qnU{sc}(h:ScN ts sc){i}(g:i<sc.sC.length):GR (sumI sc.sC) ⟨1,Jb sc i⟩:=by
 obtain⟨l,j,o⟩:=h.le g;unfold Jb;rw[ji g];exact GR.run _ j zOm
theorem qnV{sc}(h:ScN ts sc){i}(g:i<sc.sC.length):GR (sumI sc.sC) ⟨2,Z7 sc i⟩:=by
 obtain⟨o,j,p⟩:=h.le g;unfold Z7;rw[ji g];by_cases l:(sc.sC[i].toNat-1)=0
 .rw [l];exact GR.nil zOm zOm
 .exact GR.sN h.n0 _ j zOm
theorem qbQ{sc}(h:ScN ts sc)(nm):∀ so i,i+so.length<=ts.sS.length->∀ k r,yr i so nm=k :: r->okI (sumI sc.sC) k.ar (wQ sc nm i so)
 | [],i,_,k,r,g=>by simp[yr]at g
 |s :: so,i,l,k,r,g=>by
  simp only[yy]at l;have j:i<sc.sC.length:=zW1 h.ns;obtain⟨p,o,t⟩:=h.le j;rw[yr,vO]at g;rw[wQ];by_cases c1:s.1=nm
  .rw [if_pos c1]at g⊢
   simp only[yq,y8,vK]at g;rw[<-g.1];exact Jd (qnU h j)
  rw[if_neg c1]at g⊢;by_cases c2:s.2=true/\s.1++yP=nm
  .rw [if_pos c2]at g⊢
   simp only[yq,y8,vK]at g;rw[<-g.1];exact Jd (GR.one o zOm)
  rw[if_neg c2]at g⊢;by_cases c3:s.2=true/\s.1++jq=nm
  .rw [if_pos c3]at g⊢
   simp only[yq,y8,vK]at g;rw[<-g.1];exact Jd (qnV h j)
  rw[if_neg c3]at g⊢;exact qbQ h nm so (i+1) zOm k r g
theorem qbR{sc}(h:ScN ts sc){bs}(j:BdN ts (sumI sc.sC) bs){c:Ck}(t:c.ts=ts){env nm}(l:jJ nm env=none){k r}(g:zS ts nm=k :: r):okI (sumI sc.sC) k.ar (zG ⟨ts,sc,bs⟩ env nm):=by
 unfold zG;rw[l];simp only;unfold zS at g;rcases qbP (nm:=nm) j.1 with ⟨a,b⟩|⟨i,o,p,a,b,C,e⟩
 .rw [a]
  rw[b,y8]at g;exact qbQ h nm ts.sS 0 zOm k r g
 .rw [a]
  rw[e,yq]at g;simp only[vK]at g;rw[<-g.1];exact j.2 i o p
theorem qnW{sc}(h:ScN ts sc){bs}(j:BdN ts (sumI sc.sC) bs){c}(l:c.ts=ts):∀ nm a,arS c [] nm=some a->okI (sumI sc.sC) a (zG ⟨ts,sc,bs⟩ [] nm):=fun nm a g=>by
 unfold arS yQ at g;have hf:zK nm ([]:Scp)=[]:=rfl;rw[hf]at g;simp only at g;subst l;cases i:zS c.ts nm with
 |nil=>rw[i]at g;simp at g
 |cons k r =>
  rw[i]at g;cases r with
  |nil =>
   simp at g;rw[<-g];exact qbR h j rfl rfl i
  |cons=>simp at g
def varB(sc:Sc)(p:dC×Int):dC×Bd:=(p.1,⟨⟨1,[]⟩,⟨1,yR sc [p.2]⟩⟩)
theorem K1(nm):∀ l r,l.foldl (fun r e=>if e.1=nm then some e.2 else r) r=match jJ nm l with|some b=>some b|none=>r
 | [],r=>rfl
 |e :: l,r=>by
  unfold jJ;rw[List.foldl_cons,List.foldl_cons,K1 nm l,K1 nm l (if e.1=nm then some e.2 else none)];cases jJ nm l with
  |some b=>rfl
  |none=>by_cases h:e.1=nm<;>simp[h]
theorem qbS(sc nm):∀(env:List (dC×Int))(s:Scp),(jJ nm (env.map (varB sc))=none/\zK nm (env.foldl (fun s p=>(p.1,kOf [p.2]) :: s) s)=zK nm s) \/
  ∃ p,p∈env/\jJ nm (env.map (varB sc))=some (varB sc p).2/\∃ r,zK nm (env.foldl (fun s p=>(p.1,kOf [p.2]) :: s) s)=(p.1,kOf [p.2]) :: r
 | [],s => .inl ⟨rfl,rfl⟩
 |e :: env,s=>by
  have i:jJ nm ((e :: env).map (varB sc))=match jJ nm (env.map (varB sc)) with|some b=>some b|none=>if e.1=nm then some (varB sc e).2 else none:=by
   rw[zf]
   conv=>lhs;unfold jJ
   rw[List.foldl_cons,K1];rfl
  rw[List.foldl_cons];rcases qbS sc nm env ((e.1,kOf [e.2]) :: s) with ⟨a,b⟩|⟨p,j,a,r,b⟩
  .rw [i,a,b]
   by_cases g:e.1=nm
   .exact .inr ⟨e,zSp,zP1 g,s,by simp[zK,g]⟩
   .exact .inl ⟨zP1 g,by simp[zK,g]⟩
  .rw [i,a]
   exact .inr ⟨p,zP1 j,rfl,r,b⟩
theorem qnX{sc}(h:ScN ts sc){bs}(C:BdN ts (sumI sc.sC) bs){c}(I:c.ts=ts){env}:∀ nm a,arS c (zO env) nm=some a->okI (sumI sc.sC) a (zG ⟨ts,sc,bs⟩ (env.map (varB sc)) nm):=fun nm a g=>by
 unfold arS yQ at g;rcases qbS sc nm env [] with ⟨i,j⟩|⟨p,P,i,r,j⟩
 .have hf:zK nm (zO env)=[]:=j
  rw[hf]at g;simp only at g;subst I;cases l:zS c.ts nm with
  |nil=>rw[l]at g;simp at g
  |cons k r =>
   rw[l]at g;cases r with
   |nil =>
    simp at g;rw[<-g];exact qbR h C rfl i l
   |cons=>simp at g
 .have hf:zK nm (zO env)=(p.1,kOf [p.2]) :: r:=j
  rw[hf]at g;simp at g;rw[<-g];unfold zG;rw[i];refine⟨GR.nil zOm zOm,⟨by simp[varB],by simp[varB],fun t J=>?_,Kz _ _ _⟩,rfl,rfl⟩;have:=KU sc [p.2] t J;have e:powI (sumI sc.sC) (varB sc p).2.up.ar=sumI sc.sC:=vP _;rw[e];have o:sumI sc.sC ^ [p.2].length=sumI sc.sC:=by simp[Int.pow_succ]
  rw[o]at this;have:=h.n0;omega
end
end KC
namespace KD
open E1 E2 EC KA KB
section
variable {a b g i:Rl}
def le(a b:Rl):Prop:=∀ t,t∈a.ts->t∈b.ts
theorem le.rfl'(a):le a a:=fun _ h=>h
theorem le.trans{c}(h:le a b)(k:le b c):le a c:=fun t g=>k t (h t g)
theorem qnY:sub1 a b=true↔le a b:=by
 simp[sub1,diR,le,List.filter_eq_nil_iff]
theorem Jg(h:le a g)(k:le b i):le (unR a b) (unR g i):=fun t j=>by
 rw[Z3]at j⊢;exact j.imp (h t) (k t)
theorem qbT(a b t):t∈(inR a b).ts↔t∈a.ts/\t∈b.ts:=by simp[inR]
theorem qnZ(a b t):t∈(diR a b).ts↔t∈a.ts/\¬t∈b.ts:=by simp[diR]
theorem qbU(h:le a g)(k:le b i):le (inR a b) (inR g i):=fun t j=>by
 rw[qbT]at j⊢;exact j.imp (h t) (k t)
theorem qbV{j}(h:le a i)(k:le j b):le (diR a b) (diR i j):=fun t g=>by
 rw[qnZ]at g⊢;exact⟨h t g.1,fun q=>g.2 (k t q)⟩
theorem qbW{n}(h:le a i)(k:le b g)(e:b.ar=g.ar):le (prR n a b) (prR n i g):=fun t j=>by
 simp only[prR,prL,vY,qp,e]at j⊢;obtain⟨s,l,u,o,rfl⟩:=j;exact⟨s,h s l,u,k u o,rfl⟩
theorem qbX{n}(h:le a i)(k:le b g)(e:b.ar=g.ar):le (joR n a b) (joR n i g):=fun t j=>by
 simp only[joR,(uV _).2,joL,vY,qp,jg,e]at j⊢;obtain⟨s,l,u,⟨o,p⟩,rfl⟩:=j;exact⟨s,h s l,u,⟨k u o,p⟩,rfl⟩
theorem qbY{n}(h:le a g):le (trR n a) (trR n g):=fun t i=>by
 simp only[trR,(uV _).2,qp]at i⊢;obtain⟨s,j,rfl⟩:=i;exact⟨s,h s j,rfl⟩
theorem tS{A B}(h:∀ u v,A u v->B u v){u v}(t:Tc A u v):Tc B u v:=by
 induction t with
 |base j=>exact .base (h _ _ j)
 |trans _ _ g i=>exact .trans g i
theorem UY{n}(l:0<=n)(i:n<=12){a b}(o:GR n a)(I:GR n b)(p:a.ar=2)(J:b.ar=2)(h:le a b):le (clR n 200 a) (clR n 200 b):=fun t C=>by
 obtain⟨g,P⟩:=aR l 200 o p;obtain⟨U,u,v,R,T,v0,v1,rfl⟩:=aZ l g P C;have:=(m8 l i o p u v).1 ⟨R,T,v0,v1,C⟩;have:=(m8 l i I J u v).2 (tS (fun u v j=>⟨j.1,j.2.1,j.2.2.1,j.2.2.2.1,h _ j.2.2.2.2⟩) this);exact this.2.2.2.2
theorem qbZ{n}(h:le a g)(k:le i b)(e:b.ar=i.ar)(l:a.ar=g.ar):le (j7 n a b) (j7 n g i):=fun t j=>by
 simp only[j7,jg,decide_eq_true_eq,e,l]at j⊢;exact⟨h t j.1,fun u o=>j.2 u (k u o)⟩
structure Tg (x y:Bd):Prop where
 lo:le y.lo x.lo
 up:le x.up y.up
 la:x.lo.ar=y.lo.ar
 ua:x.up.ar=y.up.ar
theorem Tg.rfl'(x):Tg x x:=⟨le.rfl' _,le.rfl' _,rfl,rfl⟩
theorem Tg.trans{x y z}(h:Tg x y)(k:Tg y z):Tg x z:=⟨k.lo.trans h.lo,h.up.trans k.up,h.la.trans k.la,h.ua.trans k.ua⟩
def TgL(a b:List Bd):Prop:=a.length=b.length/\∀(i:Nat)(h:i<a.length)(g:i<b.length),Tg a[i] b[i]
theorem TgL.rfl'(a):TgL a a:=⟨rfl,fun _ _ _=>Tg.rfl' _⟩
theorem TgL.trans{a b c}(h:TgL a b)(k:TgL b c):TgL a c:=⟨h.1.trans k.1,fun i g j=>(h.2 i g (zW1 h.1)).trans (k.2 i _ j)⟩
end
end KD
namespace KE
open Y1 P1 E1 E2 EC KA KB KC KD
section
variable {c c':Bool}{a:Int}{bs g:List Bd}{ts:TS}
structure BdS (ts:TS) (n:Int) (bs:List Bd):Prop where
 b:BdN ts n bs
 s:∀ x,x∈bs->le x.lo x.up
theorem K2{n a b}(g:GR n a)(h:le a b):a.ts.length<=b.ts.length:=jl (Zp g.srt) h
def gapB(b:Bd):Nat:=b.up.ts.length-b.lo.ts.length
def gapL(bs:List Bd):Nat:=(bs.map gapB).sum
theorem qb0{a b}(g:zp a)(i:zp b)(h:∀ t,t∈a->t∈b)(e:b.length<=a.length):a=b:=by
 grind [UB,mZ,Nat.le_antisymm,jl,Zp]
theorem qn0{n x y}(g:okI n a x)(i:okI n a y)(h:Tg x y)(j:le x.lo x.up):gapB x<=gapB y/\(gapB x=gapB y->x=y):=by
 have p:=K2 i.lo h.lo;have t:=K2 g.up h.up;have C:=K2 g.lo j;unfold gapB;refine⟨zOm,fun e=>?_⟩;have I:=qb0 i.lo.srt g.lo.srt h.lo zOm;have J:=qb0 g.up.srt i.up.srt h.up zOm;obtain⟨⟨P,R⟩,⟨T,U⟩⟩:=x;obtain⟨⟨b1,b2⟩,⟨b3,b4⟩⟩:=y;have l:=h.la;have o:=h.ua
 grind
theorem qb1:∀{fs:List Fld}{n a b},a.length=fs.length->TgL a b->(∀(i h)(g:i<fs.length),okI n fs[i].sS.length a[i])->(∀(i h)(g:i<fs.length),okI n fs[i].sS.length b[i])->(∀ x,x∈a->le x.lo x.up)->gapL a<=gapL b/\(gapL a=gapL b->a=b)
 |fs,n,[],[],_,_,_,_,_=>⟨qn _,fun _=>rfl⟩
 | [],n,x :: a,b,j,_,_,_,_=>by simp at j
 |fs,n,[],y :: b,_,h,_,_,_=>by have:=h.1;simp at this
 |fs,n,x :: a,[],_,h,_,_,_=>by have:=h.1;simp at this
 |f :: fs,n,x :: a,y :: b,j,h,l,o,p=>by
  have t:=qb1 (fs:=fs) (n:=n) (a:=a) (b:=b) (zUs j) ⟨by have:=h.1;grind,fun i C g=>h.2 (i+1) zSo zSo⟩
   (fun i C g=>l (i+1) zSo zSo) (fun i C g=>o (i+1) zSo zSo) fun x J=>p x (zP1 J)
  have I:=qn0 (l 0 zSp zSp) (o 0 zSp zSp) (h.2 0 zSp zSp) (p x zSp);simp only[List.getElem_cons_zero]at I;simp only[gapL,zf,List.sum_cons]at t⊢;refine⟨zOm,fun e=>?_⟩;rw[I.2 zOm,t.2 zOm]
structure NwS (ts:TS) (sc:Sc):Prop where
 s:ScN ts sc
 h12:sumI sc.sC<=12
abbrev arT(ts:TS):dC->Option Int:=arS (mkCk ts ts.sT.length) []
theorem NwS.nm{sc}(W:NwS ts sc){bs}(h:BdS ts (sumI sc.sC) bs):∀ nm a,arT ts nm=some a->okI (sumI sc.sC) a (zG ⟨ts,sc,bs⟩ [] nm):=qnW W.s h.b (c:=mkCk ts ts.sT.length) rfl
theorem NwS.ok{sc}(W:NwS ts sc){bs}(h:BdS ts (sumI sc.sC) bs){n a}(g:ArN (arT ts) n a):okI (sumI sc.sC) a (ivl ⟨ts,sc,bs⟩ [] n):=UW (σ:=⟨ts,sc,bs⟩) W.s.n0 (W.nm h) g
theorem qb2{nm}:∀{fs bs},bs.length=fs.length->je nm fs bs=(idxF fs nm).bind fun i=>bs[i]?
 | [],[],_=>rfl
 |f :: fs,b :: bs,h=>by
  have g:=qb2 (nm:=nm) (fs:=fs) (bs:=bs) (zUs h);unfold idxF at g⊢;by_cases j:f.name=nm
  .simp [je,j,List.findIdx?_cons]
  .simp only[je,j,if_false,List.findIdx?_cons,decide_false,Bool.false_eq_true,g]
   cases List.findIdx? (fun f:Fld=>decide (f.name=nm)) fs<;>simp
theorem qb3{sc}(W:NwS ts sc){bs}(h:BdS ts (sumI sc.sC) bs){nm a}(p:arT ts nm=some a){i}(t:idxF ts.sA nm=some i):∃ g,okI (sumI sc.sC) a bs[i]/\∃ o,(ts.sA[i].sS.length:Int)=a:=by
 have j:i<ts.sA.length:=by
  grind [idxF,List.findIdx?_eq_some_iff_getElem]
 have l:i<bs.length:=by rw[h.b.1];exact j
 have e:zG ⟨ts,sc,bs⟩ [] nm=bs[i]:=by
  unfold zG;have:jJ nm ([]:List (dC×Bd))=none:=rfl;rw[this];simp only;rw[qb2 h.b.1,t];simp[qy l]
 have g:=W.nm h nm a p;rw[e]at g;have o:=h.b.2 i l j;exact⟨l,g,j,by rw[<-o.la,g.la]⟩
structure vU (ts:TS) (n:Int) (bs bs':List Bd) (k k':Bool):Prop where
 t:TgL bs' bs
 v:BdS ts n bs'
 c:k'=false->bs'=bs/\k=false
 d:k'=true->k=true\/gapL bs'<gapL bs
 gl:gapL bs'<=gapL bs
theorem vU.id{n}(h:BdS ts n bs):vU ts n bs bs c c:=⟨TgL.rfl' _,h,fun e=>⟨rfl,e⟩,fun e => .inl e,qn _⟩
theorem vU.trans{n a b d c1 c2 c3}(h:vU ts n a b c1 c2)(k:vU ts n b d c2 c3):vU ts n a d c1 c3:=⟨k.t.trans h.t,k.v,fun e=>by
 obtain⟨i,g⟩:=k.c e;obtain⟨j,l⟩:=h.c g
 grind,fun e=>by
 have o:=h.gl;have p:=k.gl;rcases k.d e with q|q
 .rcases h.d q with q|q
  .exact .inl q
  omega
 omega,zQ k.gl h.gl⟩
theorem qn1{i p q}(t)(h:Zt i p q bs c=some (g,c')):le (unR bs[i].lo p) (inR bs[i].up q)/\g=bs.set i ⟨unR bs[i].lo p,inR bs[i].up q⟩/\(c'=false->g=bs/\c=false)/\(c'=true->c=true\/¬g=bs):=by
 have e:bs.getD i bd0=bs[i]:=by simp[zH,qy t]
 unfold Zt at h;simp only[e]at h;split at h
 .rename_i j
  have j:=qnY.1 j;split at h
  .rename_i o
   cases h;refine⟨j,?_,fun e=>⟨rfl,e⟩,fun e => .inl e⟩;rw[o.1,o.2];exact(List.set_getElem_self t).symm
  .rename_i o
   cases h;refine⟨j,rfl,(fun e=>by cases e),fun _ => .inr fun e=>o ?_⟩;have:=congrArg (fun l=>l[i]?) e;simp[t]at this;exact⟨congrArg Bd.lo this,congrArg Bd.up this⟩
 .cases h
theorem qn2{n}(h:BdS ts n bs){i}(P:i<bs.length)(h2)(e:(ts.sA[i].sS.length:Int)=a){p q}(hp:GR n p)(pa:p.ar=a)(hs:Zt i p q bs c=some (g,c')):vU ts n bs g c c':=by
 obtain⟨s1,R,s3,s4⟩:=qn1 P hs;have o:=h.b.2 i P h2;have o':okI n ts.sA[i].sS.length (⟨unR bs[i].lo p,inR bs[i].up q⟩:Bd):=⟨aG o.lo hp (by rw[o.la,pa,e]),o.up.filter _,o.la,o.ua⟩;have l:TgL g bs:=by
  subst R;refine⟨zSp,fun j T U=>?_⟩;rw[List.getElem_set];split
  .rename_i ej;subst ej
   exact⟨fun t l=>(Z3 _ _ t).2 (.inl l),fun t l=>((qbT _ _ t).1 l).1,rfl,rfl⟩
  .exact Tg.rfl' _
 have C:BdS ts n g:=by
  subst R;refine⟨⟨by simp[h.b.1],fun j T U=>?_⟩,fun x I=>?_⟩
  .rw [List.getElem_set]
   split
   .grind
   .exact h.b.2 j (zUs T) U
  .rcases List.mem_or_eq_of_mem_set I with I|rfl
   .exact h.s x I
   .exact s1
 have J:=qb1 C.b.1 l C.b.2 h.b.2 C.s;refine⟨l,C,s3,fun e=>(s4 e).imp id fun ne=>?_,J.1⟩;have:=J.2;rcases Nat.lt_or_eq_of_le J.1 with q|q
 .exact q
 grind
theorem Jh{n}(g:0<=n)(i:1<=a)(j:a<=3):GR n (allN n a)/\(allN n a).ar=a:=⟨GR.all g i j,rfl⟩
theorem tT{n a b}(h:GR n a):GR n (diR a b):=h.filter _
variable {ts:TS} {sc:Sc}
theorem UZ(g x y p p' q bs c):narU ts sc g [x,y] p p' q bs c=brB (narN ts sc g x p q bs c) fun bs c=>narN ts sc g y p' q bs c:=by
 grind [narU,narN,brB]
theorem qb4(g x y p q p' i bs c):narD ts sc g [x,y] p q p' i bs c=brB (narN ts sc g x p q bs c) fun bs c=>narN ts sc g y p' i bs c:=by
 grind [narD,narN,brB]
theorem Ji{r f}(h:brB r f=some (g,c')):∃ bs c,r=some (bs,c)/\f bs c=some (g,c'):=by
 match r,h with
 |some (bs,c),h=>exact⟨bs,c,rfl,h⟩
theorem Vl(g n p q bs c):narN ts sc g n p q bs c =
  if (sub1 p (ivl ⟨ts,sc,bs⟩ [] n).up&&sub1 (ivl ⟨ts,sc,bs⟩ [] n).lo q)=true then
   if n.op=1 then (match idxF ts.sA n.name with
    |some i=>if (g||!((ts.sA.map fun f=>f.var).getD i false))=true then Zt i p q bs c else some (bs,c)
    |none=>some (bs,c))
   else if n.op=6 then narU ts sc g n.sD ⟨p.ar,(diR p ((n.sD.map (ivl ⟨ts,sc,bs⟩ [])).getD 1 bd0).up).ts⟩ ⟨p.ar,(diR p ((n.sD.map (ivl ⟨ts,sc,bs⟩ [])).getD 0 bd0).up).ts⟩ q bs c
   else if n.op=7 then narU ts sc g n.sD p p (allN (sumI sc.sC) (ivl ⟨ts,sc,bs⟩ [] n).lo.ar) bs c
   else if n.op=8 then narD ts sc g n.sD p (allN (sumI sc.sC) (ivl ⟨ts,sc,bs⟩ [] n).lo.ar) ⟨(ivl ⟨ts,sc,bs⟩ [] n).lo.ar,[]⟩ (diR (allN (sumI sc.sC) (ivl ⟨ts,sc,bs⟩ [] n).lo.ar) p) bs c
   else if n.op=11 then narT ts sc g n.sD (trR (sumI sc.sC) p) (trR (sumI sc.sC) q) bs c
   else some (bs,c)
  else none:=by
 obtain⟨op,nm,i,ks,j⟩:=n;rw[narN,Ku];rfl
theorem ifn{p}[Decidable p]{C:Type}{x}{r:C}(h:(if p then x else none)=some r):p/\x=some r:=by
 grind
theorem qn3(g){n}(j:n.op≠1)(l:n.op≠6)(o:n.op≠7)(t:n.op≠8)(i:n.op≠11){p q bs c}:narN ts sc g n p q bs c=if (sub1 p (ivl ⟨ts,sc,bs⟩ [] n).up&&sub1 (ivl ⟨ts,sc,bs⟩ [] n).lo q)=true then some (bs,c) else none:=by
 simp_all[Vl,if_neg]
theorem uG(W:NwS ts sc){n a}(hn:ArN (arT ts) n a):∀ g p q bs j c c',BdS ts (sumI sc.sC) bs->GR (sumI sc.sC) p->p.ar=a->GR (sumI sc.sC) q->q.ar=a->narN ts sc g n p q bs c=some (j,c')->vU ts (sumI sc.sC) bs j c c':=by
 have h0:=W.s.n0;have a0:∀{n:Nd},n.op≠1->n.op≠6->n.op≠7->n.op≠8->n.op≠11->∀(g:Bool)(p q:Rl)(bs j:List Bd)(c c':Bool),BdS ts (sumI sc.sC) bs->narN ts sc g n p q bs c=some (j,c')->vU ts (sumI sc.sC) bs j c c':=fun {n} h1 h6 h7 h8 a1 g p q bs j c c' l h=>by
  rw[qn3 g h1 h6 h7 h8 a1]at h;obtain⟨_,h⟩:=ifn h;cases h;exact .id l
 induction hn with
 | @name n a t ha =>
  intro g p q bs j c c' l I J U qa h;rw[Vl]at h;obtain⟨_,h⟩:=ifn h;rw[if_pos t]at h;cases hi:idxF ts.sA n.name with
  |none=>rw[hi]at h;cases h;exact .id l
  |some i =>
   rw[hi]at h;simp only at h;split at h
   .obtain ⟨h1,_,h2,e⟩:=qb3 W l ha hi
    exact qn2 l h1 h2 e I J h
   .cases h;exact .id l
 |none t _=>grind
 |univ t=>grind
 |iden t=>grind
 |prime t _ _ _=>grind
 |join t _ _ _ _ _ _=>grind
 |prod t _ _ _ _ _ _=>grind
 |compr t _ _ _=>grind
 | @bin n x t hk hx ih =>
  intro g p q bs j c c' l I J U qa h;by_cases o:n.op=11
  .rw [Vl]at h
   obtain⟨_,h⟩:=ifn h;rw[zIn,zIn,zIn,zIn,if_pos o,hk,narT]at h;exact ih g _ _ bs j c c' l (GR.trans h0 I J) rfl (GR.trans h0 U qa) rfl h
  grind
 | @alike n x y a t hk hx hy R T =>
  intro g p q bs j c c' l I J U qa h;have hI:=W.ok l (ArN.alike t hk hx hy);have C:=Jh (a:=a) h0 (by rw[<-hI.la];exact hI.lo.ar1) (by rw[<-hI.la];exact hI.lo.ar3);have hZ:GR (sumI sc.sC) (⟨a,[]⟩:Rl):=GR.nil C.1.ar1 C.1.ar3;rcases (show n.op=14\/n.op=6\/n.op=7\/n.op=8 by omega) with o|o
  .exact a0 zOm zOm zOm zOm zOm g p q bs j c c' l h
  rw[Vl]at h;obtain⟨_,h⟩:=ifn h;rw[hI.la,hk]at h;rcases o with o|o|o
  .rw [zIn,if_pos o,UZ]at h
   obtain⟨P,c1,e1,e2⟩:=Ji h;have s1:=R g _ q bs P c c1 l (tT I) J U qa e1;exact s1.trans (T g _ q P j c1 c' s1.v (tT I) J U qa e2)
  .rw [zIn,zIn,if_pos o,UZ]at h
   obtain⟨P,c1,e1,e2⟩:=Ji h;have s1:=R g _ _ bs P c c1 l I J C.1 C.2 e1;exact s1.trans (T g _ _ P j c1 c' s1.v I J C.1 C.2 e2)
  .rw [zIn,zIn,zIn,if_pos o,qb4]at h
   obtain⟨P,c1,e1,e2⟩:=Ji h;have s1:=R g _ _ bs P c c1 l I J C.1 C.2 e1;exact s1.trans (T g _ _ P j c1 c' s1.v hZ rfl (tT C.1) C.2 e2)
end
end KE
namespace KF
open Y1 P1 E1 E2 EC KA KB KE
def TyK(A:dC->Option Int)(m:Nd):Prop:=
 (m.op=34\/m.op=35\/m.op=36\/m.op=37->∃ k a,m.sD=[k]/\ArN A k a)/\(m.op=32\/m.op=33->∃ k g a,m.sD=[k,g]/\ArN A k a/\ArN A g a)
def TyC(A:dC->Option Int)(n:Nd):Prop:=TyK A n/\(n.op=40->∃ m,n.sD=[m]/\TyK A m)
variable {ts:TS} {sc:Sc}
theorem z_ok{n a}(g:1<=a)(i:a<=3):GR n (⟨a,[]⟩:Rl)/\(⟨a,[]⟩:Rl).ar=a:=⟨GR.nil g i,rfl⟩
theorem K3(W:NwS ts sc){n a}(l:ArN (arT ts) n a)(g bs i c c')(j:BdS ts (sumI sc.sC) bs)(h:wR ts sc g n bs c=some (i,c')):vU ts (sumI sc.sC) bs i c c':=by
 have I:=W.ok j l;unfold wR at h;simp only at h;split at h
 .cases h
 split at h
 .rw [I.ua]at h
  have o:=Jh (a:=a) W.s.n0 (by rw[<-I.la];exact I.lo.ar1) (by rw[<-I.la];exact I.lo.ar3);exact uG W l g _ _ bs i c c' j I.up I.ua o.1 o.2 h
 .cases h;exact .id j
theorem qb5(W:NwS ts sc){n a}(l:ArN (arT ts) n a)(g bs i c c')(j:BdS ts (sumI sc.sC) bs)(h:wS ts sc g n bs c=some (i,c')):vU ts (sumI sc.sC) bs i c c':=by
 have I:=W.ok j l;unfold wS at h;simp only at h;split at h
 .cases h
 split at h
 .rw [I.la]at h
  have o:=z_ok (n:=sumI sc.sC) (a:=a) (by rw[<-I.la];exact I.lo.ar1) (by rw[<-I.la];exact I.lo.ar3);exact uG W l g _ _ bs i c c' j o.1 o.2 I.lo I.la h
 .cases h;exact .id j
theorem qn4(W:NwS ts sc){n a}(j:ArN (arT ts) n a)(g bs i c c')(l:BdS ts (sumI sc.sC) bs)(h:noN ts sc g n bs c=some (i,c')):vU ts (sumI sc.sC) bs i c c':=by
 have I:=W.ok l j;unfold noN at h;simp only at h;rw[I.la]at h;have o:=z_ok (n:=sumI sc.sC) (a:=a) (by rw[<-I.la];exact I.lo.ar1) (by rw[<-I.la];exact I.lo.ar3)
 grind [uG]
inductive Cst where
 |skip
 |bad
 |no (k:Nd)
 |some (k:Nd)
 |lone (k:Nd)
 |one (k:Nd)
 |sub (e:Bool) (k k':Nd)
def cstN(n:Nd):Cst:=
 let no:=decide (n.op=40)
 let m:=if n.op=40 then kidN n 0 else n
 let k:=kidN m 0
 if (no=true/\m.op=34)\/(no=false/\m.op=35) then .no k
 else if (no=true/\m.op=35)\/(no=false/\m.op=34) then .some k
 else if no=true then .skip
 else if m.op=31 then .bad
 else if m.op=36 then .one k
 else if m.op=37 then .lone k
 else if m.op=32\/m.op=33 then .sub (decide (m.op=33)) k (kidN m 1)
 else .skip
def runC(ts:TS)(sc:Sc)(g:Bool)(q:Cst)(bs:List Bd)(c:Bool):Br:=match q with
 | .skip=>Option.some (bs,c)
 | .bad=>Option.none
 | .no k=>noN ts sc g k bs c
 | .some k=>wR ts sc g k bs c
 | .lone k=>wS ts sc g k bs c
 | .one k=>brB (wR ts sc g k bs c) fun bs c=>wS ts sc g k bs c
 | .sub e k i =>
  let x:=ivl ⟨ts,sc,bs⟩ [] k
  let y:=ivl ⟨ts,sc,bs⟩ [] i
  let all:=allN (sumI sc.sC) x.lo.ar
  brB (narN ts sc g k (if e then y.lo else ⟨all.ar,[]⟩) y.up bs c) fun bs c=>narN ts sc g i x.lo (if e then x.up else all) bs c
theorem qb6(g n bs c):u4 ts sc g n bs c=runC ts sc g (cstN n) bs c:=by
 grind [u4,cstN,runC]
def TyQ(A:dC->Option Int):Cst->Prop
 | .skip=>True
 | .bad=>True
 | .no k=>∃ a,ArN A k a
 | .some k=>∃ a,ArN A k a
 | .lone k=>∃ a,ArN A k a
 | .one k=>∃ a,ArN A k a
 | .sub _ k g=>∃ a,ArN A k a/\ArN A g a
theorem qb7{A n}(h:TyC A n):TyQ A (cstN n):=by
 obtain⟨⟨I,p⟩,t⟩:=h;unfold cstN;simp only;by_cases g:n.op=40
 .obtain ⟨m,C,i,J⟩:=t g
  have e:kidN n 0=m:=by simp[kidN,C]
  simp only[g,if_true,e,decide_true,true_and,Bool.true_eq_false,false_and,or_false];split
  .rename_i o
   obtain⟨k,a,j,l⟩:=i zOm;exact⟨a,by grind [kidN]⟩
  split
  .rename_i o
   obtain⟨k,a,j,l⟩:=i zOm;exact⟨a,by grind [kidN]⟩
  trivial
 .simp only[g,if_false,decide_false,Bool.false_eq_true,false_and,false_or,true_and]
  have one:(n.op=34\/n.op=35\/n.op=36\/n.op=37)->∃ a,ArN A (kidN n 0) a:=fun o=>by
   grind [kidN]
  split
  .exact one zOm
  split
  .exact one zOm
  split
  .trivial
  split
  .exact one zOm
  split
  .exact one zOm
  split
  .rename_i o
   obtain⟨k,P,a,j,l,R⟩:=p o;exact⟨a,by grind [kidN],by grind [kidN]⟩
  trivial
theorem qb8(W:NwS ts sc){q}(p:TyQ (arT ts) q)(g bs i c c')(l:BdS ts (sumI sc.sC) bs)(h:runC ts sc g q bs c=some (i,c')):vU ts (sumI sc.sC) bs i c c':=by
 cases q with
 |skip=>cases h;exact .id l
 |bad=>cases h
 |no k=>obtain⟨a,j⟩:=p;exact qn4 W j g bs i c c' l h
 |some k=>obtain⟨a,j⟩:=p;exact K3 W j g bs i c c' l h
 |lone k=>obtain⟨a,j⟩:=p;exact qb5 W j g bs i c c' l h
 |one k =>
  obtain⟨a,j⟩:=p;obtain⟨d,e,t,C⟩:=Ji h;have s:=K3 W j g bs d c e l t;exact s.trans (qb5 W j g d i e c' s.v C)
 |sub eq k T =>
  obtain⟨a,j,o⟩:=p;obtain⟨d,e,t,C⟩:=Ji h;have I:=W.ok l j;have J:=W.ok l o;have P:=Jh (a:=a) W.s.n0 (by rw[<-I.la];exact I.lo.ar1) (by rw[<-I.la];exact I.lo.ar3);have R:=z_ok (n:=sumI sc.sC) (a:=a) P.1.ar1 P.1.ar3;rw[I.la]at t C;cases eq with
  |true =>
   have s:=uG W j g _ _ bs d c e l J.lo J.la J.up J.ua t;exact s.trans (uG W o g _ _ d i e c' s.v I.lo I.la I.up I.ua C)
  |false =>
   have s:=uG W j g _ _ bs d c e l R.1 R.2 J.up J.ua t;exact s.trans (uG W o g _ _ d i e c' s.v I.lo I.la P.1 P.2 C)
def TyL(A:dC->Option Int)(l:List Nd):Prop:=∀ n,n∈l->∀ g,TyC A (jf n g).1
theorem qb9(W:NwS ts sc):∀ l,TyL (arT ts) l->∀ bs g c c',BdS ts (sumI sc.sC) bs->Zu ts sc l bs c=some (g,c')->vU ts (sumI sc.sC) bs g c c'
 | [],_,bs,g,c,c',i,h=>by cases h;exact .id i
 |n :: l,j,bs,g,c,c',i,h=>by
  rw[Zu]at h;obtain⟨d,e,o,p⟩:=Ji h;rw[qb6]at o;have s:=qb8 W (qb7 (j n zSp _)) _ bs d c e i o;exact s.trans (qb9 W l (fun x t=>j x (zP1 t)) d g e c' s.v p)
end KF
namespace YZ
open YM P1 Y1 Y9 YX
mutual
def depN:Nd->Int
 | .mk _ _ _ ks _=>yw ks+1
def yw:List Nd->Int
 | []=>0
 |k :: ks=>max (depN k) (yw ks)
end
mutual
theorem qn5:∀ n:Nd,0<=depN n
 | .mk _ _ _ ks _=>by simp only[depN];have:=U0 ks;omega
theorem U0:∀ ks:List Nd,0<=yw ks
 | []=>by simp[yw]
 |k :: ks=>by simp only[yw];have:=U0 ks;omega
end
theorem Zw(n):depN n=yw n.sD+1:=by
 obtain⟨op,nm,i,ks,p⟩:=n;simp[depN,Nd.sD]
theorem qcA{ks k}(h:k∈ks):depN k<=yw ks:=by
 induction ks with
 |nil=>simp at h
 |cons a l g =>
  simp only[yw];rcases qz.1 h with rfl|h
  .omega
  .have:=g h;omega
theorem qn6:∀ m n,szN n<=m->Small n->depN n<=1000000->qj qg 142 [eNd n] (aI (depN n))
 | 0,n,J,_,_=>by obtain⟨op,nm,i,ks,p⟩:=n;simp[szN]at J
 |m+1,n,J,P,R=>by
  have ih:∀ k,k∈n.sD->qj qg 142 [eNd k] (aI (depN k)):=fun k j =>
   qn6 m k (zW1 (zl j)) (P.kid j) (by rw[Zw]at R;have:=qcA j;omega)
  rw[Zw]at R⊢;have T:=P.len;have a0:=U0 n.sD;generalize hD:yw n.sD=D at *
  refine qSU call142 func142 rfl ?_;refine aP n.sD.length (fun k U=>∃ d,U.tm 3=aI d/\U.tm 7=lNd n.sD/\U.tm 8=aI n.sD.length/\U.tm 9=aI k/\0<=d/\max d (yw (n.sD.drop k))=D) ?_ ?_
  .exact ⟨0,zSi,zSi,zSi,zSi,zOm,by simp only[List.drop_zero,hD];omega⟩
  .rintro k U j ⟨d,e3,e7,o,t,a1,l⟩
   by_cases C:k=n.sD.length
   .subst C
    rw[yf]at l;simp only[yw]at l;have I:d=D:=zOm;subst I;have w:qo.wrap (d+1)=d+1:=zWr;simp[go_sem,e3,o,t,w];exact .zsc _
   .have g:k<n.sD.length:=by omega
    have w1:=zWk k;rw[ze g]at l;simp only[yw]at l;simp[go_sem,e3,e7,o,t,g];refine t8 (ih n.sD[k] (qv g)) (.zk (qE _) .nil) ?_;simp[go_sem,t,w1];refine⟨g,aM ?_⟩;refine⟨if d<depN n.sD[k] then depN n.sD[k] else d,zSi,by simp[go_sem,e7],zS1 o,zSi,?_,?_⟩
    .have:=qn5 n.sD[k]
     split<;>omega
    .split<;>omega
mutual
def preN:Nd->List Nd
 | .mk op nm n ks p => .mk op nm n ks p :: zw ks
def zw:List Nd->List Nd
 | []=>[]
 |k :: ks=>preN k++zw ks
end
theorem Zx(n):preN n=n :: zw n.sD:=by
 obtain⟨op,nm,i,ks,p⟩:=n;simp[preN,Nd.sD]
theorem Jj(a b):zw (a++b)=zw a++zw b:=by
 induction a with
 |nil=>rfl
 |cons x a g=>simp[zw,g]
theorem qcB{f caps}(I:List Nd->Mu->Prop)(hp:∀ v mu l,I v mu->I v (mu++l))(hf:∀ v k mu,I v mu->qC qg f (eNd k :: caps) mu fun e m=>e = .ret (.tup [])/\I (v++[k]) m) :
  ∀ m n,szN n<=m->Small n->∀ v mu,I v mu->qC qg 137 [eNd n,.fn (.func f) [] caps] mu fun e m=>e = .ret (.tup [])/\I (v++preN n) m
 | 0,n,hm,_,_,_,_=>by obtain⟨op,nm,i,ks,p⟩:=n;simp[szN]at hm
 |m+1,n,hm,hs,v,mu,J=>by
  have ih:∀ k,k∈n.sD->∀ v mu,I v mu->qC qg 137 [eNd k,.fn (.func f) [] caps] mu fun e m=>e = .ret (.tup [])/\I (v++preN k) m:=fun k P v mu J =>
   qcB I hp hf m k (zW1 (zl P)) (hs.kid P) v mu J
  have a1:=hs.len;rw[Zx];refine qSW call137 func137 rfl {} ?_;simp[go_sem];refine fH (hf v n mu J) ?_ (by rintro r m ⟨e,_⟩;cases e);rintro r m ⟨e,R⟩;cases e;simp[go_sem];refine aP n.sD.length (fun k U=>U.tm 1 = .fn (.func f) [] caps/\U.tm 10=lNd n.sD/\U.tm 11=aI n.sD.length/\U.tm 12=aI k/\I (v++[n]++zw (n.sD.take k)) U.mu) ?_ ?_
  .exact ⟨zSi,zSi,zSi,zSi,by simpa[go_sem,zw] using R⟩
  .rintro k U P ⟨e1,C,j,o,t⟩
   by_cases T:k=n.sD.length
   .subst T
    rw[za]at t;simp[go_sem,j,o];simpa using t
   .have g:k<n.sD.length:=by omega
    have w1:=zWk k;simp[go_sem,e1,C,j,o,g];refine aA (ih n.sD[k] (qv g) _ _ (hp _ _ _ t)) ?_ (by rintro r m ⟨e,_⟩;cases e);rintro r m ⟨e,a0⟩;cases e;simp[go_sem,o,w1];refine⟨g,aM ?_⟩;refine⟨zS1 e1,zS1 C,zS1 j,zSi,?_⟩;have e:zw (n.sD.take (k+1))=zw (n.sD.take k)++preN n.sD[k]:=by
     rw[List.take_add_one,qy g,Jj];simp[zw]
    rw[e,<-zL];simpa[go_sem] using a0
abbrev eSet(es:List (dC×Bool)):List (AV×AV):=encK aS aB es
theorem updS{mu b es}(i:mu[b]?=some (.mp (eSet es)))(nm) :
  uf qg mu 195 (.mp b) (aS nm) (aB true)=some (mu.set b (.mp (eSet (setK nm true es)))):=
 keyS.update (et:=4) (t:=195) zSi (mu:=mu) (b:=b) (venc:=aB) (es:=es) i (k:=nm) (v:=true) trivial (fun _ _=>trivial)
theorem qn7(ts s tb c es n){mu p g t}(C:mu[p]?=some (.arr [.ptr t 0]))(I:mu[t]?=some (.arr (cIn ts tb s)))(l:mu[g]?=some (.arr [aB c]))(j:mu[tb]?=some (.mp (eSet es))) :
  qC qg 138 [eNd n,.ptr p 0,.ptr g 0] mu fun e m=>e = .ret (.tup [])/\m=(mu.set tb (.mp (eSet (setK n.name true es)))).set g (.arr [aB (c||decide (n.op=47))]):=by
 refine qSW call138 func138 rfl {} ?_;have J:g<mu.length:=(ql.1 l).1;have P:tb<mu.length:=(ql.1 j).1;simp[go_sem];refine tJ zKr ?_;have R:=updS j n.name;simp[go_sem,C,I];refine t7 _ R ?_;have o:tb≠g:=fun e=>by rw[e,l]at j;cases j
 generalize T:Cell.mp (eSet (setK n.name true es))=N at *
 have i:(mu.set tb N)[g]?=some (.arr [aB c]):=by rw[yH o];exact l
 cases c
 .simp [go_sem,i]
  try rfl
 .simp [go_sem,i]
  try rfl
end YZ
namespace YA
open YS P1
def vN(k:Int):dC:=⟨#[118]⟩++vt k
theorem qcC(k)(g : -9223372036854775808<=k)(i:k<=9223372036854775807):(vt k).size<=21:=by
 have:=Lib.itoa_length_le k g i;unfold vt;simpa[ByteArray.size] using this
def uy(ts:TS)(es:List (dC×Bool))(nm:dC):Bool:=decide (getK nm es≠some true)&&decide (zS ts nm=[])
def yE(ts:TS)(es:List (dC×Bool)):Nat->Int->Int
 | 0,k=>k+1
 |f+1,k=>if uy ts es (vN (k+1))=true then k+1 else yE ts es f (k+1)
end YA
namespace YB
open P1 YX YA
def qG(ts:TS)(es:List (dC×Bool)):Nat:=es.length+ts.sA.length+3*ts.sS.length+1
def renI(ts:TS)(es:List (dC×Bool))(env:IEnv)(nm:dC)(body:Bool)(s:ISt):(IEnv×dC)×ISt:=
 if body=true\/zS ts nm≠[] then
  ((setK nm ⟨none,0,vN (yE ts es (qG ts es) s.last)⟩ (delK nm env),vN (yE ts es (qG ts es) s.last)),⟨yE ts es (qG ts es) s.last,s.sM⟩)
 else ((delK nm env,nm),s)
theorem qcD{g C}[DecidableEq g]{k v}:∀{es},(es.map Prod.fst).Nodup->∀{x:g×C},x∈setK k v es↔x=(k,v)\/(x∈es/\x.1≠k)
 | [],_,x=>by simp[setK]
 |e :: es,h,x=>by
  rw[zf,ve]at h;unfold setK;by_cases i:k=e.1
  .rw [if_pos i,qz,qz]
   constructor
   .grind
   grind
  .rw [if_neg i,qz,qz,qcD h.2]
   constructor
   .grind
   grind
end YB
namespace Q9
end Q9
namespace PA
open P1 P2 Y1 Y2 Y15 Y16 Q6
section
variable {inn:Bool}{c c':Ck}{s s':Scp}
theorem qcE{p}:∀{ks},vB p ks=true↔∃ k,k∈ks/\anyN p k=true
 | []=>by simp[vB]
 |k :: ks=>by
  simp only[vB,Bool.or_eq_true,qcE (ks:=ks),qz];constructor
  .rintro (h|⟨x,g,h⟩)
   .exact ⟨k,.inl rfl,h⟩
   .exact ⟨x,.inr g,h⟩
  .rintro ⟨x,rfl|g,h⟩
   .exact .inl h
   .exact .inr ⟨x,g,h⟩
def lookS(nm:dC)(s:Scp):Option Kd:=(zK nm s).head?.map Prod.snd
theorem qn8(c s nm pos):yQ c s nm pos=match lookS nm s with
  |some k => .ok (some k)
  |none=>match zS c.ts nm with
   | [] => .error (40,pos)
   | [k] => .ok (some k)
   |_ => .error (44,pos):=by
 grind [yQ,lookS,zK]
theorem qn9{n n'}(j:n'.op=n.op)(l:n'.name=n.name)(t:n'.n=n.n)(C:n'.pos=n.pos)
  (I:jc c' n.op n.name=jc c n.op n.name) (P:n.op=1->yQ c s n.name n.pos=yQ c' s' n.name n.pos) (o:c'.ts.sT=c.ts.sT) (g:zC c' n.name=zC c n.name)
  (p:c'.ts.sS.length=c.ts.sS.length) (i:n'.sD.length=n.sD.length)
  (R:n.op=47->∀ ps,yC c s n.pos ps n.sD=yC c' s' n.pos ps n'.sD)
  (hB:(n.op=15\/n.op=45\/n.op=46)->∀ inn,jj c s inn n.name n.pos n.sD=jj c' s' inn n.name n.pos n'.sD)
  (J:¬n.op=1->¬n.op=47->¬(n.op=15\/n.op=45\/n.op=46)->∀ inn,zq c s inn n.sD=zq c' s' inn n'.sD):exam c s inn n=exam c' s' inn n':=by
 rw[vy,vy,j,l,t,C,I,o,g,p,i];by_cases a:(inn&&jc c n.op n.name)=true
 .rw [if_pos a,if_pos a]
 rw[if_neg a,if_neg a];by_cases b:n.op=1
 .grind
 rw[if_neg b,if_neg b];by_cases d:n.op=47
 .simp_all
 rw[if_neg d,if_neg d];by_cases e:n.op=15\/n.op=45\/n.op=46
 .rw [if_pos e,if_pos e];exact hB e _
 rw[if_neg e,if_neg e,J b d e]
theorem qcG(f):∀{ks},(∀ k,k∈ks->exam c s inn k=exam c' s' inn (f k))->zq c s inn ks=zq c' s' inn (ks.map f)
 | [],_=>rfl
 |k :: ks,h=>by
  simp only[zf,zq];rw[h k (zo ..),qcG f fun g i=>h g (q9 _ i)]
theorem qcH{pos}(f):∀{ks ps},(∀ k,k∈ks->exam c s true k=exam c' s' true (f k))->yC c s pos ps ks=yC c' s' pos ps (ks.map f)
 | [],ps,_=>by cases ps<;>rfl
 |k :: ks,[],_=>rfl
 |k :: ks,p :: ps,h=>by
  simp only[zf,yC];rw[h k (zo ..),qcH f (ps:=ps) fun g i=>h g (q9 _ i)]
theorem qcI{ks}(h:∀ k,k∈ks->exam c s inn k=exam c' s' inn k):zq c s inn ks=zq c' s' inn ks:=by
 have:=qcG (c:=c) (c':=c') (s:=s) (s':=s') (inn:=inn) id (ks:=ks) h
 rwa[List.map_id]at this
theorem qoA{pos ks ps}(h:∀ k,k∈ks->exam c s true k=exam c' s' true k):yC c s pos ps ks=yC c' s' pos ps ks:=by
 have:=qcH (c:=c) (c':=c') (s:=s) (s':=s') (pos:=pos) id (ks:=ks) (ps:=ps) h
 rwa[List.map_id]at this
def wf(ts:TS)(g:List (dC×Nd)):TS:=⟨ts.sS,ts.sA,ts.sT,g⟩
theorem qoB{C}(g)(l:List C)(i):(repL g l)[i]?=(l[i]?).map fun x=>(l.take i).any fun y=>g x y:=by
 grind [qaO,qy,List.getElem?_eq_none,Qt]
theorem qcJ{C}(g)(l:List C)(i):repB g l i=match l[i]? with|some x=>[(l.take i).any fun y=>g x y] | none=>[]:=by
 unfold repB;rw[List.take_add_one,qoB,List.drop_append];by_cases h:i<l.length
 .rw [qy h,List.length_take,Qt,Nat.min_eq_left zOm,List.drop_of_length_le zSo]
  simp
 grind
def binB(op:Int):Bool:=decide (op=15)||decide (op=45)||decide (op=46)
end
end PA
namespace YC
open P1 Y1 YX YZ YA YB PA
section
variable {env:IEnv}{s:ISt}{es:List (dC×Bool)}{F:Nat}{ts:TS}
abbrev XR(C:Type):=Except Dg (C×ISt)
def vC(E:Nd->ISt->XR (Nd×Int)):List (dC×Int)->List Nd->IEnv->ISt->XR IEnv
 |p :: g,k :: ks,own,s=>match E k s with
  | .error e => .error e
  | .ok ((i,m),j)=>vC E g ks (setK p.1 ⟨some i,m,⟨#[]⟩⟩ own) j
 |_,_,own,s => .ok (own,s)
def vD(E:IEnv->Nd->ISt->XR (Nd×Int))(R:IEnv->dC->ISt->(IEnv×dC)×ISt)(bin:Bool):Nat->IEnv->dC->List Nd->ISt->XR (dC×List Nd×Int)
 |_,_,nm,[],s => .ok ((nm,[],0),s)
 |i,env,nm,k :: ks,s =>
  let r:=if bin=true/\i=1 then R env nm s else ((env,nm),s)
  match E r.1.1 k r.2 with
  | .error e => .error e
  | .ok ((o,m),p)=>match vD E R bin (i+1) r.1.1 r.1.2 ks p with
   | .error e => .error e
   | .ok ((g,j,t),l) => .ok ((g,o :: j,m+t),l)
def Jk{C i:Type}(q:XR C)(g:C->ISt->XR i):XR i:=
 match q with
 | .error e => .error e
 | .ok (a,s)=>g a s
theorem Jl{C i q}{g:C->ISt->XR i}{r}(h:Jk q g = .ok r):∃ a s,q = .ok (a,s)/\g a s = .ok r:=by
 unfold Jk at h;split at h
 .cases h
 .exact ⟨_,_,rfl,h⟩
def expI(ts:TS)(es:List (dC×Bool)):Nat->IEnv->Nd->Bool->ISt->XR (Nd×Int)
 | 0,_,_,_,_ => .error (2,0)
 |f+1,env,n,g,s =>
  if s.sM+1<=4000 then
   if n.op=1 then Z6 env n (payS 1 s)
   else if n.op=47 then match ts.sT.find? fun p=>decide (p.name=n.name) with
    |none => .error (2,0)
    |some p=>Jk (vC (fun k s=>expI ts es f env k g s) p.params n.sD [] (payS 1 s)) fun own i=>expI ts es f own p.body true i
   else Jk (vD (fun env k s=>expI ts es f env k g s) (fun env nm s=>renI ts es env nm g s) (binB n.op) 0 env n.name n.sD (payS 1 s)) fun r i => .ok ((.mk n.op r.1 n.n r.2.1 n.pos,1+r.2.2),i)
  else .error (2,0)
def vF(ts:TS)(n:Nd):Prop:=∀ x,x∈preN n->x.op=47->∃ p,(ts.sT.find? fun p=>decide (p.name=x.name))=some p/\p.params.length=x.sD.length
theorem qoC{ks k x}(g:k∈ks)(i:x∈preN k):x∈zw ks:=by
 induction ks with
 |nil=>simp at g
 |cons a l j =>
  simp only[zw,qP];rcases qz.1 g with rfl|g
  .exact .inl i
  grind
theorem qcK{n k x}(g:k∈n.sD)(i:x∈preN k):x∈preN n:=by
 grind [Zx,q9,qoC]
theorem K4(n):n∈preN n:=by rw[Zx];exact zo ..
theorem vF.kid{n k}(h:vF ts n)(g:k∈n.sD):vF ts k:=fun x i=>h x (qcK g i)
def pot(F:Nat)(s:ISt):Int:=s.sM*F-s.last
structure StOk (F:Nat) (s:ISt):Prop where
 l0:0<=s.last
 c0:0<=s.sM
 c1:s.sM<=4000
 p:0<=pot F s
theorem StOk.last(h:StOk F s):s.last<=4000*F:=by
 have g:s.sM*F<=4000*F:=Int.mul_le_mul_of_nonneg_right h.c1 zOm;have:=h.p
 grind [pot]
structure yd (env:IEnv):Prop where
 nd:(env.map Prod.fst).Nodup
 sz:∀ e,e∈env->0<=e.2.size/\e.2.size<=4000
theorem yd.nil:yd []:=⟨zSp,fun e g=>by simp at g⟩
theorem yd.set(h:yd env){k v}(i:0<=v.size/\v.size<=4000):yd (setK k v env):=
 ⟨Us h.nd,fun e g=>by
  rcases (qcD h.nd).1 g with rfl|⟨g,_⟩
  .exact i
  .exact h.sz e g⟩
theorem yd.del(h:yd env){k}:yd (delK k env):=⟨qjB h.nd,fun e g=>h.sz e ((nH h.nd).1 g).1⟩
theorem K5{nm body}(h:yd env):yd (renI ts es env nm body s).1.1:=by
 unfold renI;split
 .exact h.del.set ⟨zSp,zSp⟩
 .exact h.del
theorem qcL(ts es):∀ f k,k<yE ts es f k/\yE ts es f k<=k+f+1
 | 0,k=>by grind [yE]
 |f+1,k=>by
  simp only[yE];have:=qcL ts es f (k+1);omega
theorem qcM{ts es}:∀{f k},(∃ j:Nat,1<=j/\j<=f/\uy ts es (vN (k+j))=true)->yE ts es f k<=k+f
 | 0,k,⟨j,g,i,_⟩=>zOm
 |f+1,k,⟨j,g,i,l⟩=>by
  simp only[yE];split
  .omega
  .rename_i o
   have p:j≠1:=fun e=>by grind
   have:=qcM (ts:=ts) (es:=es) (f:=f) (k:=k+1) ⟨j-1,zOm,zOm,by grind⟩;omega
def Free(ts:TS)(es:List (dC×Bool)):Prop:=∀ l:Int,0<=l->∃ j:Nat,1<=j/\j<=qG ts es/\uy ts es (vN (l+j))=true
theorem K6(g:Free ts es){env nm body s}(i:0<=s.last):0<=(renI ts es env nm body s).2.last/\(renI ts es env nm body s).2.last<=s.last+(qG ts es:Nat)/\(renI ts es env nm body s).2.sM=s.sM:=by
 unfold renI;split
 .have l:=qcL ts es (qG ts es) s.last
  have j:=qcM (g s.last i);refine⟨?_,j,rfl⟩
  grind
 .exact ⟨i,by grind,rfl⟩
structure Gos (F:Nat) (s s':ISt) (z:Int):Prop where
 l0:0<=s'.last
 c1:s'.sM<=4000
 z0:0<=z
 cz:s.sM+z<=s'.sM
 p:pot F s<=pot F s'
theorem Gos.ok{s' z}(g:Gos F s s' z)(h:StOk F s):StOk F s':=⟨g.l0,by have:=g.cz;have:=g.z0;have:=h.c0;omega,g.c1,zW2 g.p h.p⟩
theorem Vm(F s n):pot F (payS n s)=pot F s+n*F:=by
 grind [pot,payS,Int.add_mul]
theorem Jm(h:StOk F s){n}(g:0<=n)(i:s.sM+n<=4000):Gos F s (payS n s) n:=
 ⟨h.l0,i,g,Yf _,by rw[Vm];have:0<=n*(F:Int):=Int.mul_nonneg g zOm;omega⟩
theorem qoD{n n' s' z}(h:StOk F s)(l:yd env)(C:s.sM+1<=4000)(e:Z6 env n (payS 1 s) = .ok ((n',z),s')):Gos F s s' z:=by
 have j:=Jm h (n:=1) zOm C;unfold Z6 at e;cases o:getK n.name env with
 |none=>grind
 |some v =>
  rw[o]at e;have I:=l.sz _ ((ZT l.nd).1 o);obtain⟨J,t,R⟩:=v;cases J with
  |none=>cases e;exact j
  |some a =>
   simp only at e;split at e
   .rename_i P
    have i:0<=t/\t<=4000:=I;cases e;have g:=Jm (j.ok h) i.1 P;exact⟨g.l0,g.c1,i.1,zW2 g.cz j.cz,zW2 g.p j.p⟩
   .cases e
theorem qcN{E}:∀{ks ps own i s s'},(∀ k n' z s s',k∈ks->StOk F s->E k s = .ok ((n',z),s')->Gos F s s' z)->StOk F s->yd own ->
  vC E ps ks own s = .ok (i,s')->yd i/\Gos F s s' 0
 | [],ps,own,i,s,s',_,h,j,e=>by
  have e:Except.ok (own,s)=(Except.ok (i,s'):XR IEnv):=by cases ps<;>exact e
  cases e;exact⟨j,h.l0,h.c1,zOm,zOm,Yf _⟩
 |k :: ks,[],own,i,s,s',_,h,j,e=>by
  cases e;exact⟨j,h.l0,h.c1,zOm,zOm,Yf _⟩
 |k :: ks,p :: ps,own,i,s,s',o,h,j,e=>by
  simp only[vC]at e;split at e
  .cases e
  .rename_i t m s1 C
   have g:=o k t m s s1 (zo ..) h C;have I:m<=4000:=by have:=g.cz;have:=g.c1;have:=h.c0;omega
   obtain⟨J,l⟩:=qcN (fun k n' z s s' P=>o k n' z s s' (q9 _ P)) (g.ok h) (j.set (v:=⟨some t,m,⟨#[]⟩⟩) ⟨g.z0,I⟩) e;exact⟨J,l.l0,l.c1,zOm,by have:=g.cz;have:=g.z0;have:=l.cz;omega,zW2 g.p l.p⟩
def dueN(F:Nat)(bin:Bool)(i:Nat):Int:=if bin=true/\i<=1 then F else 0
theorem U1(F bin i):0<=dueN F bin i:=by unfold dueN;split<;>omega
theorem qcO{bin i}(h:¬(bin=true/\i=1)):dueN F bin i=dueN F bin (i+1):=by
 unfold dueN;by_cases g:bin=true
 .by_cases l:i=1
  .grind
  .by_cases j:i<=1
   .rw [if_pos ⟨g,j⟩,if_pos ⟨g,zOm⟩]
   omega
 grind
theorem qcP{E R bin}(P:∀ env nm s,0<=s.last->yd env->yd (R env nm s).1.1/\0<=(R env nm s).2.last/\(R env nm s).2.last<=s.last+(F:Int)/\(R env nm s).2.sM=s.sM) :
  ∀{ks i env nm j s s' l m},(∀ env k n' z s s',k∈ks->StOk F s->yd env->E env k s = .ok ((n',z),s')->Gos F s s' z)->0<=s.last->0<=s.sM->s.sM<=4000->dueN F bin i<=pot F s->yd env ->
  vD E R bin i env nm ks s = .ok ((j,l,m),s')->0<=s'.last/\s'.sM<=4000/\0<=m/\s.sM+m<=s'.sM/\pot F s-dueN F bin i<=pot F s'
 | [],i,env,nm,j,s,s',l,m,_,T,c0,c1,hp,U,e=>by
  cases e;have:=U1 F bin i;omega
 |k :: ks,i,env,nm,j,s,s',l,m,hE,T,c0,c1,hp,U,e=>by
  simp only[vD]at e;obtain⟨r,t⟩:∃ r,r=if bin=true/\i=1 then R env nm s else ((env,nm),s):=⟨_,rfl⟩
  rw[<-t]at e;have I:yd r.1.1/\0<=r.2.last/\r.2.sM=s.sM/\dueN F bin (i+1)<=pot F r.2/\pot F s-dueN F bin i<=pot F r.2-dueN F bin (i+1):=by
   by_cases C:bin=true/\i=1
   .rw [if_pos C]at t
    obtain⟨a1,a2,a3,a4⟩:=P env nm s T U;have d1:dueN F bin i=F:=if_pos ⟨C.1,zOm⟩;have d2:dueN F bin (i+1)=0:=zIn
    grind [pot]
   .rw [if_neg C]at t
    subst t;have d':dueN F bin i=dueN F bin (i+1)\/(bin=true/\i=1):=by
     unfold dueN;by_cases o:bin=true
     .by_cases h1:i=1
      .grind
      .left
       by_cases h0:i<=1
       .rw [if_pos ⟨o,h0⟩,if_pos ⟨o,zOm⟩]
       omega
     grind
    have a0:dueN F bin i=dueN F bin (i+1):=d'.elim id fun h=>absurd h C
    grind
  obtain⟨b1,b2,b3,b4,b5⟩:=I;split at e
  .cases e
  .rename_i k' m1 s1 h1
   have J:StOk F r.2:=⟨b2,zOm,zOm,zW1 (U1 F bin (i+1))⟩;have g:=hE r.1.1 k k' m1 r.2 s1 (zo ..) J b1 h1;split at e
   .cases e
   .rename_i a5 a6 m2 s2 h2
    have:=qcP P (fun env k n' z s s' hk=>hE env k n' z s s' (q9 _ hk)) g.l0 (zW2 g.cz g.z0) g.c1 (zW1 g.p) b1 h2;obtain⟨q1,q2,q3,q4,q5⟩:=this;cases e;have:=g.cz;have:=g.z0;have:=g.p;omega
theorem Zy(ts){es}(g:Free ts es):∀(f){env n n' body s s' z},StOk (qG ts es) s->yd env->expI ts es f env n body s = .ok ((n',z),s')->Gos (qG ts es) s s' z
 | 0,_,_,_,_,_,_,_,_,_,e=>by cases e
 |f+1,env,n,n',body,s,s',z,h,P,e=>by
  simp only[expI]at e;split at e
  .rename_i R
   have i:=Jm h (n:=1) zOm R;split at e
   .grind [qoD]
   .split at e
    .split at e
     .cases e
     .rename_i p _
      .obtain ⟨own,s1,t,e⟩:=Jl e
       obtain⟨T,g1⟩:=qcN (F:=qG ts es) (fun k n' z s s' _ C I=>Zy ts g f C P I) (i.ok h) .nil t;have j:=Zy ts g f (g1.ok (i.ok h)) T e;exact⟨j.l0,j.c1,j.z0,by have:=j.cz;have:=g1.cz;have:=i.cz;omega,by have:=j.p;have:=g1.p;have:=i.p;omega⟩
    ·.obtain ⟨⟨l,o,m⟩,s1,t,e⟩:=Jl e
      cases e;have U:dueN (qG ts es) (binB n.op) 0<=pot (qG ts es) (payS 1 s):=by
       rw[Vm];have:=h.p;grind [dueN]
      have:=qcP (F:=qG ts es) (fun env nm s hl J=>⟨K5 J,K6 g hl⟩) (fun env k n' z s s' _ C J I=>Zy ts g f C J I) i.l0 (by have:=(i.ok h).c0;exact this) i.c1 U P t;obtain⟨q1,q2,q3,q4,q5⟩:=this;have a0:dueN (qG ts es) (binB n.op) 0<=(qG ts es:Nat):=by grind [dueN]
      rw[Vm]at q5;have a1:0<=(l,o,m).snd.snd:=q3;have a2:(payS 1 s).sM+(l,o,m).snd.snd<=s'.sM:=q4;exact⟨q1,q2,zOm,zW1 i.cz,zOm⟩
  .cases e
end
end YC
namespace YD
open Y1 Y7 Y10
theorem qcQ{lo sz mu mu' av xs}(h:OwnF lo mu sz av xs)(l:lo<=mu'.length)(o:∀ i,lo<=i->i<mu.length->mu'[i]?=mu[i]?):OwnF lo mu' sz av xs:=by
 obtain⟨p,g,_⟩:=h;refine⟨?_,g,l⟩;rcases p with rfl|⟨b,rfl,j⟩
 .exact .inl rfl
 .exact .inr ⟨b,rfl,by rw[o b (g b _ _ _ rfl) (ql.1 j).1];exact j⟩
theorem K7(l:List Nd):qV 5 (l.map cNd):=fun r g=>by
 obtain⟨n,_,rfl⟩:=qp.1 g
 grind [Yu,JU]
theorem appNd{mu lo s xs k K}(g:OwnF lo mu 5 s (xs.map cNd))(l:xs.length<=100000)(o:∀ av mu',OwnF lo mu' 5 av ((xs++[k]).map cNd)->(∀ i,i<lo->mu'[i]?=mu[i]?)->K av mu') :
  qx qg mu #[32,32] s (.lst true [cNd k]) K:=by
 refine qx.ownF (lo:=lo) (e:=34) (sz:=5) (bt:=64) (zv := .agg [aI 0,aS ⟨#[]⟩,aI 0,.lst true [],aI 0]) (xs:=xs.map cNd) (ys:=[cNd k]) zSi zSi zSi rfl rfl zOm zOm g (by simp[qA]) (K7 xs) (K7 [k]) zSo ?_
 grind
end YD
namespace YE
open P1 P2 Y1 Y9 YX YZ YB YC
mutual
def cntT:Nd->Int
 | .mk _ _ _ ks _=>1+y6 ks
def y6:List Nd->Int
 | []=>0
 |k :: ks=>cntT k+y6 ks
end
theorem Vn(n):cntT n=1+y6 n.sD:=by
 obtain⟨op,nm,i,ks,p⟩:=n;simp[cntT,Nd.sD]
mutual
theorem U2:∀ n:Nd,1<=cntT n
 | .mk _ _ _ ks _=>by simp only[cntT];have:=U3 ks;omega
theorem U3:∀ ks:List Nd,0<=y6 ks
 | []=>by simp[y6]
 |k :: ks=>by simp only[y6];have:=U2 k;have:=U3 ks;omega
end
mutual
theorem qcR:∀ n:Nd,depN n<=cntT n
 | .mk _ _ _ ks _=>by simp only[cntT,depN];have:=qcS ks;omega
theorem qcS:∀ ks:List Nd,yw ks<=y6 ks
 | []=>by simp[yw,y6]
 |k :: ks=>by
  simp only[y6,yw];have:=qcR k;have:=qcS ks;have:=U2 k;have:=U3 ks;omega
end
section
variable {C:Type}{R:IEnv->dC->ISt->(IEnv×dC)×ISt}{es:List (dC×Bool)}{E:Nd->ISt->XR (Nd×Int)}
def u6(env:IEnv):Prop:=∀ e,e∈env->∀ a,e.2.arg=some a->e.2.size=cntT a/\Small a
theorem K8{g}[DecidableEq g]{k v}:∀{es:List (g×C)},getK k es=some v->(k,v)∈es
 | [],h=>by simp[getK]at h
 |e :: es,h=>by
  unfold getK at h;split at h
  .rename_i i;cases h;subst i;exact zo ..
  .exact q9 _ (K8 h)
theorem U4{g}[DecidableEq g]{k v}:∀{es}{x:g×C},x∈setK k v es->x=(k,v)\/x∈es
 | [],x,h=>by grind [setK]
 |e :: es,x,h=>by
  unfold setK at h;split at h
  .rcases qz.1 h with h|h
   .exact .inl h
   .exact .inr (q9 _ h)
  .rcases qz.1 h with h|h
   .exact .inr (by rw[h];exact zo ..)
   .exact (U4 h).imp id (q9 _)
theorem qoE{ts env nm body s}(h:u6 env):u6 (renI ts es env nm body s).1.1:=by
 have i:u6 (delK nm env):=fun e g=>h e (Yy.subset g)
 unfold renI;split
 .intro e g a j
  rcases U4 g with rfl|g
  .cases j
  .exact i e g a j
 .exact i
theorem qcT:∀{ks ps own g s s'},(∀ k n' z s s',k∈ks->E k s = .ok ((n',z),s')->z=cntT n'/\Small n')->u6 own->vC E ps ks own s = .ok (g,s')->u6 g
 | [],ps,own,g,s,s',_,i,e=>by
  have e:Except.ok (own,s)=(Except.ok (g,s'):XR IEnv):=by cases ps<;>exact e
  cases e;exact i
 |k :: ks,[],own,g,s,s',_,i,e=>by cases e;exact i
 |k :: ks,p :: ps,own,g,s,s',l,i,e=>by
  simp only[vC]at e;split at e
  .cases e
  .rename_i C m s1 I
   refine qcT (fun k n' z s s' o=>l k n' z s s' (q9 _ o)) (fun e j a t=>?_) e;rcases U4 j with rfl|j
   .grind
   .exact i e j a t
theorem qcU{E bin}(C:∀ env nm s,u6 env->u6 (R env nm s).1.1) :
  ∀{ks i env nm l s s' j m},(∀ env k n' z s s',k∈ks->u6 env->E env k s = .ok ((n',z),s')->z=cntT n'/\Small n')->u6 env ->
  vD E R bin i env nm ks s = .ok ((l,j,m),s')->m=y6 j/\j.length=ks.length/\∀ k,k∈j->Small k
 | [],i,env,nm,l,s,s',j,m,_,_,e=>by
  cases e;exact⟨rfl,rfl,fun k p=>absurd p qO⟩
 |k :: ks,i,env,nm,l,s,s',j,m,I,J,e=>by
  simp only[vD]at e;obtain⟨r,P⟩:∃ r,r=if bin=true/\i=1 then R env nm s else ((env,nm),s):=⟨_,rfl⟩
  rw[<-P]at e;have o:u6 r.1.1:=by
   rw[P];split
   .exact C _ _ _ J
   .exact J
  split at e
  .cases e
  .rename_i T U s1 h1
   have g:=I r.1.1 k T U r.2 s1 (zo ..) o h1;split at e
   .cases e
   .rename_i a0 a1 m2 s2 h2
    obtain⟨q1,q2,q3⟩:=qcU C (fun env k n' z s s' p=>I env k n' z s s' (q9 _ p)) o h2;cases e;refine⟨by simp only[y6];rw[g.1,q1],by simp[q2],fun x t=>?_⟩;rcases qz.1 t with rfl|t
    .exact g.2
    .exact q3 x t
theorem U5(ts)(o:∀ p,p∈ts.sT->WfN p.body)(es):∀(f){env n n' body s s' z},u6 env->WfN n->expI ts es f env n body s = .ok ((n',z),s')->z=cntT n'/\Small n'
 | 0,_,_,_,_,_,_,_,_,_,e=>by cases e
 |f+1,env,n,n',body,s,s',z,j,l,e=>by
  simp only[expI]at e;split at e
  .split at e
   .rename_i P
    have g:n.sD=[]:=by
     have hs:=l.shape;simp_all[shp,if_pos,qs,List.map_eq_nil_iff]
    unfold Z6 at e;split at e
    .cases e
     exact⟨by rw[Vn,g];rfl,l.small⟩
    .rename_i v t
     split at e
     .cases e
      refine⟨by rw[Vn];show 1=1+y6 n.sD;rw[g];rfl,.mk _ (by show n.sD.length<=1000;rw[g];simp) fun k i=>?_⟩;have i:k∈n.sD:=i
      grind
     .rename_i a R
      split at e
      .cases e
       exact j _ (K8 t) _ R
      .cases e
   .split at e
    .split at e
     .cases e
     .rename_i p T
      obtain⟨own,s1,C,e⟩:=Jl e;have U:=qcT (fun k n' z s s' i I=>U5 ts o es f j (l.kid i) I) (fun e j=>absurd j qO) C;exact U5 ts o es f U (o p (List.mem_of_find?_eq_some T)) e
    .obtain ⟨⟨a0,J,m⟩,s1,C,e⟩:=Jl e
     cases e;obtain⟨q1,q2,q3⟩:=qcU (fun env nm s h=>qoE h) (fun env k n' z s s' i t I=>U5 ts o es f t (l.kid i) I) j C;refine⟨by rw[Vn];show 1+m=_;rw[q1];rfl,.mk _ ?_ q3⟩;show J.length<=1000;have:=l.len;omega
  .cases e
theorem qcV:∀{ks ps own s d},(∀ k s d,E k s = .error d->d=(2,0))->vC E ps ks own s = .error d->d=(2,0)
 | [],ps,own,s,d,_,e=>by
  have e:Except.ok (own,s)=(Except.error d:XR IEnv):=by cases ps<;>exact e
  cases e
 |k :: ks,[],own,s,d,_,e=>by cases e
 |k :: ks,p :: ps,own,s,d,g,e=>by
  simp only[vC]at e;split at e
  .rename_i j i
   cases e;exact g _ _ _ i
  .exact qcV g e
theorem qcW{E:IEnv->Nd->ISt->XR (Nd×Int)}{bin}:∀{ks i env nm s d},(∀ env k s d,E env k s = .error d->d=(2,0))->vD E R bin i env nm ks s = .error d->d=(2,0)
 | [],i,env,nm,s,d,_,e=>by cases e
 |k :: ks,i,env,nm,s,d,g,e=>by
  simp only[vD]at e;split at e
  .rename_i j l
   cases e;exact g _ _ _ _ l
  .split at e
   .rename_i j o
    cases e;exact qcW g o
   .cases e
theorem qcX{i q}{g:C->ISt->XR i}{d}(h:Jk q g = .error d):q = .error d\/∃ a s,q = .ok (a,s)/\g a s = .error d:=by
 unfold Jk at h;split at h
 .grind
 .exact .inr ⟨_,_,rfl,h⟩
theorem Vo(ts es):∀(f){env n body s d},expI ts es f env n body s = .error d->d=(2,0)
 | 0,_,_,_,_,_,e=>by cases e;rfl
 |f+1,env,n,body,s,d,e=>by
  simp only[expI]at e;split at e
  .split at e
   .unfold Z6 at e
    split at e
    .cases e
    .split at e
     .cases e
     .split at e
      .cases e
      .cases e;rfl
   .split at e
    .split at e
     .cases e;rfl
     .rcases qcX e with e|⟨own,g,i,e⟩
      .exact qcV (fun k s d h=>Vo ts es f h) e
      .exact Vo ts es f e
    .rcases qcX e with e|⟨own,g,i,e⟩
     .exact qcW (fun env k s d h=>Vo ts es f h) e
     .cases e
  .cases e;rfl
def outI(ts:TS)(es:List (dC×Bool))(n:Nd):Except Dg Nd:=
 match expI ts es 4001 [] n false ⟨0,0⟩ with
 | .error d => .error d
 | .ok ((g,z),_)=>if z<=400/\depN g<=24 then .ok g else .error (2,n.pos)
theorem qoF{ts n d}(h:outI ts es n = .error d):d.1=2:=by
 grind [outI,Vo]
end
end YE
namespace YG
open YS P1 Y1 Y9 YX YZ YA YB YC YE Q6
def valD(l:List UInt8):Nat:=l.foldl (fun a b=>10*a+(b.toNat-48)) 0
theorem qoG(u):valD (Lib.decDigits u)=u:=by
 induction u using Nat.strongRecOn with
 |_ u g =>
  rw[Lib.decDigits];split
  .rename_i h
   simp only[valD,List.foldl_cons,List.foldl_nil];rw[UInt8.toNat_ofNat_of_lt' (by simp[UInt8.size];omega)];omega
  .rename_i h
   have:=g (u / 10) zOm;unfold valD at this⊢;rw[uI,this];simp only[List.foldl_cons,List.foldl_nil];rw[UInt8.toNat_ofNat_of_lt' (by simp[UInt8.size];omega)];omega
theorem qoH{a b:Nat}(h:vt (a:Int)=vt (b:Int)):a=b:=by
 have g:Lib.decDigits a=Lib.decDigits b:=by
  unfold vt Lib.itoa at h;rw[zIn,zIn]at h;simp only[Int.toNat_natCast]at h;have h:=congrArg (fun x:dC=>x.data.toList) h;simpa using h
 grind [qoG]
theorem qoI{p a b:dC}(h:p++a=p++b):a=b:=by
 simp_all
theorem qoJ{a b:Nat}(h:vN (a:Int)=vN (b:Int)):a=b:=qoH (qoI h)
def badL(ts:TS)(es:List (dC×Bool)):List dC:=es.map Prod.fst++(ts.sA.map (fun f=>f.name)++ts.sS.flatMap fun s=>[s.1,s.1++yP,s.1++jq])
theorem qoK(ts es):(badL ts es).length+1=qG ts es:=by
 have:∀ l:List (dC×Bool),(l.flatMap fun s=>[s.1,s.1++yP,s.1++jq]).length=3*l.length:=by
  intro l;induction l with
  |nil=>rfl
  |cons a l g=>grind
 grind [badL,qG,zj,zT]
theorem qoL{ts es nm}(h:uy ts es nm=false):nm∈badL ts es:=by
 unfold uy at h;unfold badL;rw[Bool.and_eq_false_iff]at h;rcases h with h|h
 .have h:getK nm es=some true:=by simpa using h
  exact jh _ (qp.2 ⟨_,K8 h,rfl⟩)
 .refine List.mem_append_right _ ?_
  have h:zS ts nm≠[]:=zUs h;unfold zS at h;by_cases hf:z7 ts.sA nm=[]
  .rw [hf,y8]at h
   refine List.mem_append_right _ ?_;have:∀(g:List (dC×Bool))(i:Nat),yr i g nm≠[]->nm∈g.flatMap fun s=>[s.1,s.1++yP,s.1++jq]:=by
    intro g;induction g with
    |nil=>intro i h;exact absurd rfl h
    |cons s g C =>
     intro i h;rw[we,qP];by_cases j:vO i s nm=[]
     .refine .inr (C (i+1) ?_)
      simpa[yr,j] using h
     .left
      unfold vO at j;by_cases l:s.1=nm
      .simp [l]
      by_cases o:s.2=true/\s.1++yP=nm
      .simp [o.2]
      by_cases p:s.2=true/\s.1++jq=nm
      .simp [p.2]
      exact absurd (by simp[l,o,p]) j
   exact this ts.sS 0 h
  .refine jh _ ?_
   obtain⟨k,t⟩:=List.exists_mem_of_ne_nil _ hf;unfold z7 at t;obtain⟨f,hf,e⟩:=List.mem_filterMap.1 t;split at e
   .rename_i I
    exact qp.2 ⟨f,hf,I⟩
   .cases e
theorem qoM(ts es):Free ts es:=by
 intro l P;by_cases g:∃ j:Nat,1<=j/\j<=qG ts es/\uy ts es (vN (l+j))=true
 .exact g
 exfalso;obtain⟨L,rfl⟩:∃ L:Nat,l=L:=⟨l.toNat,zOm⟩;have o:∀ x,x∈(qu (qG ts es)).map (fun i=>vN ((L+(i+1):Nat):Int))->x∈badL ts es:=fun x C=>by
  obtain⟨i,I,rfl⟩:=qp.1 C;rw[zW]at I;refine qoL ?_;cases J:uy ts es (vN ((L+(i+1):Nat):Int)) with
  |false=>rfl
  |true=>exact absurd ⟨i+1,zOm,zOm,by rw[show (L:Int)+((i+1:Nat):Int)=((L+(i+1):Nat):Int) by omega];exact J⟩ g
 have p:((qu (qG ts es)).map (fun i=>vN ((L+(i+1):Nat):Int))).Nodup:=by
  refine List.pairwise_map.2 (List.nodup_range.imp fun t e=>t ?_);have:=qoJ e;omega
 have:=jl p o;rw[zT,List.length_range]at this;have:=qoK ts es;omega
def putN(es:List (dC×Bool))(l:List Nd):List (dC×Bool):=l.foldl (fun es n=>setK n.name true es) es
def vG(ts:TS)(n:Nd):List (dC×Bool):=ts.sT.foldl (fun J p=>putN J (preN p.body)) (putN [] (preN n))
def zm(ts:TS)(n:Nd):Nd×Int:=
 if (jE ts [] n).1≠0 then (nd0,(jE ts [] n).1)
 else if anyN (fun n=>decide (n.op=47)) n=false then (n,0)
 else match outI ts (vG ts n) n with
  | .error d=>(nd0,d.1)
  | .ok g=>(g,0)
theorem qcY(p):∀ m n,szN n<=m->anyN p n=(preN n).any p
 | 0,n,g=>by obtain⟨op,nm,i,ks,q⟩:=n;simp[szN]at g
 |m+1,n,g=>by
  rw[Kq,Zx,List.any_cons];congr 1;have:∀ l:List Nd,(∀ k,k∈l->k∈n.sD)->vB p l=(zw l).any p:=by
   intro l;induction l with
   |nil=>intro _;rfl
   |cons k l o =>
    intro j;simp only[vB,zw,List.any_append];rw[o fun x t=>j x (q9 _ t),qcY p m k (zW1 (zl (j k (zo ..))))]
  exact this n.sD fun k C=>C
end YG
namespace YH
open P1 Y1 Y6 YX YZ
section
variable {b:Bool}{es:List (dC×Bool)}{mu:Mu}{ts:TS}
structure InM (ts:TS) (es:List (dC×Bool)) (b:Bool) (mu:Mu):Prop where
 r:mu[0]?=some (.arr [aI 0,aS ⟨#[]⟩,aI 0,.lst true [],aI 0])
 t:mu[2]?=some (.mp (eSet es))
 x:mu[3]?=some (.arr (cIn ts 2 ⟨0,0⟩))
 p:mu[4]?=some (.arr [.ptr 3 0])
 c:mu[5]?=some (.arr [aB b])
theorem InM.len(h:InM ts es b mu):5<mu.length:=(ql.1 h.c).1
theorem InM.push(h:InM ts es b mu)(l):InM ts es b (mu++l):=by
 have g:=h.len;exact⟨by rw[zGa];exact h.r,by rw[zGa];exact h.t,by rw[zGa];exact h.x,by rw[zGa];exact h.p,by rw[zGa];exact h.c⟩
theorem InM.setT{g}(h:InM ts es b mu):InM ts g b (mu.set 2 (.mp (eSet g))):=by
 have i:=h.len;exact⟨by rw[zGl];exact h.r,qJ zOm,by rw[zGl];exact h.x,by rw[zGl];exact h.p,by rw[zGl];exact h.c⟩
theorem InM.setC{g}(h:InM ts es b mu):InM ts es g (mu.set 5 (.arr [aB g])):=by
 have i:=h.len;exact⟨by rw[zGl];exact h.r,by rw[zGl];exact h.t,by rw[zGl];exact h.x,by rw[zGl];exact h.p,qJ zOm⟩
theorem qoN(mu):Rd mu eN0 (eNd nd0) := .agg _ _ rfl fun k x y g i=>by
 match k with
 | 0=>simp[nd0,cNd]at g i;subst g;subst i;exact .zsc _
 | 1=>simp[nd0,cNd]at g i;subst g;subst i;exact .zsc _
 | 2=>simp[nd0,cNd]at g i;subst g;subst i;exact .zsc _
 | 3=>simp[nd0,cNd,cNds]at g i;subst g;subst i;exact .wk _ true [] (.hf _ (HF.lst fun r j=>absurd j qO))
 | 4=>simp[nd0,cNd]at g i;subst g;subst i;exact .zsc _
 |k+5=>simp at g
theorem Vp(mu d):Rd mu (.tup [eN0,aI d]) (.tup [eNd nd0,aI d]) := .tup _ _ rfl fun k x y g i=>by
 match k with
 | 0=>grind [qoN]
 | 1=>simp at g i;subst g;subst i;exact .zsc _
 |k+2=>simp at g
end
end YH
end Go.Proofs.YthflbhjlkgdafaaGreatDoor
namespace Go.EvW
open Go Go.Ev Go.RowKit Go.ChangeShapes Go.WideShapes
section
variable {C H:Type}{c:C->List AV}{fs:List (qd×Nat)}{cs:List qf}{N:Nat}{P:qc}{e t:qd}{w:qe}
def CR(w:qe)(xs:List AV)(cs:List qf):Prop:=
 cs.length=xs.length/\∀(k:Nat) x,xs[k]?=some x->VRel ⟨(·<w.heap.size),[]⟩ w.heap x (cs.getD k z6)
theorem CR.nil(w):CR w [] []:=⟨rfl,zSp⟩
theorem CR.one{x v}(h:VRel ⟨(·<w.heap.size),[]⟩ w.heap x v):CR w [x] [v]:=⟨rfl,fun k y g=>by
 grind⟩
theorem CR.app{xs ys ds}(h:CR w xs cs)(k:CR w ys ds):CR w (xs++ys) (cs++ds):=by
 refine⟨by simp[h.1,k.1],fun i x g=>?_⟩;by_cases j:i<xs.length
 .rw [qL j]at g
  have:=h.2 i x g;rw[zH]at this⊢;rw[qL (by rw[h.1];exact j)];exact this
 .rw [zZ zOm]at g
  have:=k.2 _ x g;rw[zH]at this⊢;rw[zZ (by rw[h.1];omega),h.1];exact this
def jT(P:qc)(t:qd)(d:DataW H):Prop:=(d.weights P t).all (·<=reachBytes)=true
theorem jT.all:∀{ds:List (DataW H)},(DataW.weightsAll P e ds).all (·<=reachBytes)=true->∀(i:Nat) d,ds[i]?=some d->jT P e d
 | [],_,i,d,g=>by simp at g
 |x :: r,h,i,d,g=>by
  simp only[DataW.weightsAll,List.all_append,qD]at h;cases i with
  |zero=>simp at g;subst g;exact h.1
  |succ i=>exact jT.all h.2 i d (zUs g)
theorem tK:∀{ts}{ds:List (DataW H)},(DataW.weightsEach P ts ds).all (·<=reachBytes)=true->∀(i:Nat) t d,ts[i]?=some t->ds[i]?=some d->jT P t d
 | [],ds,_,i,t,d,g,_=>by simp at g
 |t0 :: ts,[],_,i,t,d,_,j=>by simp at j
 |t0 :: ts,x :: r,h,i,t,d,g,j=>by
  simp only[DataW.weightsEach,List.all_append,qD]at h;cases i with
  |zero=>simp at g j;subst g;subst j;exact h.1
  |succ i=>exact tK h.2 i t d (zUs g) (zUs j)
def ShT(P:qc)(n:Nat)(t:qd){C:Type}(c:C->List AV)(ok:C->Prop):Prop:=
 ∀(H:Type)(g:qd×qf->H)(w:qe)(i:List qf)(x:DataW H×List MemPlace),
  DataW.trod g P w 0 (fun _=>true) true n t i=some x->jT P t x.1->∃ a,ok a/\CR w (c a) i
def ShU(P:qc)(N:Nat)(t:qd){C:Type}(c:C->List AV)(ok:C->Prop):Prop:=∀ n,n<N->ShT P n t c ok
theorem ShU.le{M ok}(h:ShU P N t c ok)(g:M<=N):ShU P M t c ok:=fun n i=>h n zOm
theorem ShU.map{i ok c' g}(h:ShU P N t c ok)(f:C->i)(J:∀ a,c' (f a)=c a)(R:∀ a,ok a->g (f a)):ShU P N t c' g:=by
 intro n l H j w o x p I;obtain⟨a,T,U⟩:=h n l H j w o x p I
 grind
theorem ShU.int{k}(g:P.underlying t=some (.int k))(N):ShU P N t (fun n:Int=>[.sc (.int k n)]) (fun n=>(Lit.int k n).wf=true):=by
 intro n o H j w p x h _;obtain⟨i,rfl,_,l⟩:=DataW.trod_int g h;exact⟨i,l,.one (.sc _ rfl)⟩
theorem ShU.bool(g:P.underlying t=some .bool)(N):ShU P N t (fun b:Bool=>[.sc (.bool b)]) (fun _=>True):=by
 intro n l H j w o x h _;obtain⟨i,rfl,_⟩:=DataW.trod_bool g h;exact⟨i,trivial,.one (.sc _ rfl)⟩
theorem ShU.string(j:P.underlying t=some .string)(N):ShU P N t (fun s:dC=>[.sc (.string s)]) (fun s=>s.size<=140737488351232):=by
 intro n p H l w C x h g;obtain⟨i,rfl,rfl,I⟩:=DataW.trod_string j h;refine⟨i,?_,.one (.sc _ rfl)⟩;unfold jT at g;simp only[DataW.weights,List.all_cons,List.all_nil,Bool.and_true,decide_eq_true_eq]at g;have e:i.data.toList.length=i.size:=Array.length_toList;have o:i.size<=reachBytes:=by rw[<-e];exact g
 exact zQ o (vd rfl)
theorem qcZ{a n}(h:w.cells? 0 a n=some cs):cs.length=n/\∀ i,i<n->w.cell? (a.add i)=some (cs.getD i z6):=by
 unfold World.cells? at h;rw[if_pos (Nat.zero_le _)]at h;have g:=mapM_some_length h;refine⟨zUs g,fun i j=>?_⟩;have:=mapM_some_get h i i (zP1 j)
 grind
theorem qc0{a v}(h:w.cell? a=some v):∃ arr e g,w.heap[a.block]?=some (.cells arr e g)/\a.spot=none/\arr[a.off]?=some v:=by
 unfold World.cell? at h;split at h
 .simp_all
 .cases h
theorem qoO[Inhabited C]{p:Nat->C->Prop}(n)(h:∀ i,i<n->∃ a,p i a):∃ l:List C,l.length=n/\∀(i) a,l[i]?=some a->p i a:=by
 induction n with
 |zero=>simp
 |succ n g =>
  obtain⟨l,j,o⟩:=g (fun i t=>h i zOm);obtain⟨a,I⟩:=h n zOm;refine⟨l++[a],zP1 j,fun i b J=>?_⟩
  grind
theorem ShU.slice[Inhabited C]{c ok}(ht:P.underlying t=some (.slice e))(he:ShU P N e c ok)(ak:∀ a,ok a->(c a).length=P.cellsOf e)(p:0<P.cellsOf e)(a5:Nat.blt 0 (P.bytesOf e)=true) :
  ShU P (N+1) t (fun l:List C=>[.lst false (l.map c)]) (fun l=>l.length<=140737488351232/\∀ a,a∈l->ok a):=by
 intro n hn H a6 w cs x h hw;rcases DataW.trod_slice ht h with ⟨rfl,_⟩|⟨a,len,cap,g,I,m,rfl,rfl,rfl,_,hl,hc,al,T,_,_⟩
 .exact ⟨[],⟨zSp,zSp⟩,.one (.nil _)⟩
 .have a7:(DataW.weightsAll P e (g.map (·.1))).all (·<=reachBytes)=true:=by
   simp_all[jT,DataW.weights,List.all_cons,List.all_append,qD]
  have an:len<=140737488351232:=by
   unfold jT at hw;simp only[DataW.weights,ht,List.all_cons,List.all_append,qD,decide_eq_true_eq]at hw;have J:=hw.1;have a8:1<=P.bytesOf e:=vd a5;have h2:((g.map (·.1)).length+(I.map (·.1)).length)*1<=((g.map (·.1)).length+(I.map (·.1)).length)*P.bytesOf e:=Nat.mul_le_mul_left _ a8;simp only[zT]at J h2;have h3:reachBytes<=140737488351232:=vd rfl;omega
  have key:∀ i,i<len->∃ b,ok b/\∃ o,w.cells? 0 (a.add (i*P.cellsOf e)) (P.cellsOf e)=some o/\CR w (c b) o:=by
   intro i hi;have J:=T i hi;have U:i<g.length:=zOm;rw[qy U]at J;obtain⟨o,h2,h3⟩:=Option.bind_eq_some_iff.1 J;obtain⟨b,h4,h5⟩:=he m zOm H a6 w o _ h3 (jT.all a7 i _ (by rw[zz,qy U];rfl))
   grind
  obtain⟨l,a9,a0⟩:=qoO len key;refine⟨l,⟨zOm,fun b hb=>?_⟩,.one ?_⟩
  .grind [List.mem_iff_getElem?]
  .have aa:(l.map c).length=len:=by simp[a9]
   rw[<-aa];cases Nat.eq_zero_or_pos len with
   |inl h0 =>
    have:l=[]:=uM zOm;subst this;exact .emp _ a cap zSp
   |inr hp =>
    have ab:0<l.length:=zOm;obtain⟨_,ao,J,_⟩:=a0 0 l[0] (qy ab);obtain⟨ad,R⟩:=qcZ J;have ae:=R 0 p;obtain⟨arr,el,fr,hb,hs,_⟩:=qc0 ae;have ai:∀ k:Nat,a.spot=none->(a.add k).spot=none/\(a.add k).off=a.off+k:=by
     grind [Addr.add]
    have a1:∀(b:Addr)(j:Nat),(b.add j).block=b.block:=by
     grind [Addr.add]
    have e0:((a.add (0*P.cellsOf e)).add 0).block=a.block/\((a.add (0*P.cellsOf e)).add 0).spot=a.spot:=by
     grind [Addr.add]
    rw[e0.1]at hb;rw[e0.2]at hs;have hz:jn (P.cellsOf e) (l.map c):=fun r hr=>by
     obtain⟨b,aq,rfl⟩:=qp.1 hr
     grind [List.mem_iff_getElem?]
    have ar:=yK hz;refine .lst false (l.map c) (P.cellsOf e) a cap arr el fr (fun k=>arr.getD (a.off+k) z6) hb hs zOm zSp (Array.getElem?_eq_some_iff.1 hb).1 hz ?_ ?_
    all_goals
     intro k x hk;have au:k<(l.map c).length*P.cellsOf e:=by grind
     have hq:k / P.cellsOf e<l.length:=by
      simp_all[zT,Nat.div_lt_of_lt_mul,Nat.mul_comm]
     have hr:k % P.cellsOf e<P.cellsOf e:=Nat.mod_lt _ p;have av:k / P.cellsOf e*P.cellsOf e+k % P.cellsOf e=k:=by
      grind [Nat.div_add_mod,Nat.mul_comm]
     obtain⟨_,o,J,h2⟩:=a0 (k / P.cellsOf e) _ (qy hq);obtain⟨ad,R⟩:=qcZ J;have af:=R _ hr;have a2:(l.map c)[k / P.cellsOf e]?=some (c l[k / P.cellsOf e]):=by rw[zz,qy hq];rfl
     have hx:(c l[k / P.cellsOf e])[k % P.cellsOf e]?=some x:=by
      have ag:k % P.cellsOf e<(c l[k / P.cellsOf e]).length:=by grind
      have:=WA hz a2 (qy ag)
      grind
     obtain⟨aj,aw,ax,a3,ay,a4⟩:=qc0 af;have e1:((a.add (k / P.cellsOf e*P.cellsOf e)).add (k % P.cellsOf e)).block=a.block:=by rw[a1,a1]
     have e2:((a.add (k / P.cellsOf e*P.cellsOf e)).add (k % P.cellsOf e)).off=a.off+k:=by
      grind [Addr.add]
     rw[e1,hb]at a3;cases a3;rw[e2]at a4;have ah:arr.getD (a.off+k) z6=o.getD (k % P.cellsOf e) z6:=by
      rw[qU,a4];rfl
    .grind
    .show VRel _ _ x (arr.getD (a.off+k) z6)
     rw[ah];exact h2.2 _ x hx
def U6(P:qc)(t:qd):Option (List (qd×Nat)):=match P.underlying t with|some (.struct g)=>some (g.toList.map fun f=>(f.type,f.offset))|_=>none
inductive ShF (P:qc) (N:Nat):Nat->List (qd×Nat)->{α:Type}->(α->List AV)->(α->Prop)->Prop where
 |nil (o:Nat):ShF P N o [] (fun _:Unit=>[]) (fun _=>True)
 |cons {o:Nat} {t:qd} {fs:List (qd×Nat)} {α β:Type} {c:α->List AV} {ok:α->Prop} {c':β->List AV} {ok':β->Prop} (h:ShU P N t c ok) (k:ShF P N (o+P.cellsOf t) fs c' ok') :
   ShF P N o ((t,o) :: fs) (fun x:α×β=>c x.1++c' x.2) (fun x=>ok x.1/\ok' x.2)
def Vq(P:qc)(fs:List (qd×Nat)):Nat:=(fs.map fun f=>P.cellsOf f.1).foldr (·+·) 0
theorem ShF.read{n o ok}(h:ShF P N o fs c ok)(J:n<N){H}{enc:qd×qf->H}{w}(cs:List qf)
  (p:cs.length=o+Vq P fs) (I:∀(i:Nat) f,fs[i]?=some f->∃ x,DataW.trod enc P w 0 (fun _=>true) true n f.1 ((cs.drop f.2).take (P.cellsOf f.1))=some x/\jT P f.1 x.1) :
  ∃ a,ok a/\CR w (c a) (cs.drop o):=by
 induction h with
 |nil o =>
  refine⟨(),trivial,?_⟩;rw[List.drop_of_length_le (by grind [Vq])];exact .nil w
 | @cons o t fs C β c ok c' R h k T =>
  obtain⟨x,j,l⟩:=I 0 _ rfl;obtain⟨a,U,hr⟩:=h n J H enc w _ x j l;have a0:Vq P ((t,o) :: fs)=P.cellsOf t+Vq P fs:=rfl;obtain⟨b,hb,hs⟩:=T zOm (fun i g hg=>I (i+1) g hg);refine⟨(a,b),⟨U,hb⟩,?_⟩;have e:cs.drop o=(cs.drop o).take (P.cellsOf t)++cs.drop (o+P.cellsOf t):=by
   rw[<-List.drop_drop,List.take_append_drop]
  rw[e];exact hr.app hs
theorem ShU.struct{ok}(j:U6 P t=some fs)(hf:ShF P N 0 fs c ok)(U:P.cellsOf t=Vq P fs):ShU P (N+1) t c ok:=by
 intro n hn H l w cs x h hw;unfold U6 at j;split at j
 .rename_i gs hu
  simp only[qs]at j;subst j;obtain⟨p,m,rfl,rfl,hl,a0,hg⟩:=DataW.trod_struct hu h;have J:(DataW.weightsEach P (gs.toList.map (·.type)) (p.map (·.1))).all (·<=reachBytes)=true:=by
   grind [jT,DataW.weights]
  obtain⟨a,ha,hr⟩:=hf.read (n:=m) zOm (w:=w) (enc:=l) cs zOm (fun i f R=>by
   simp only[zz,vX]at R;obtain⟨g,o,rfl⟩:=R;have T:=hg i g (zUs o);have I:i<p.length:=by
    grind
   rw[qy I]at T;exact⟨_,T,tK J i _ _ (by rw[zz,o];rfl) (by rw[zz,qy I];rfl)⟩)
  grind
 .cases j
theorem tA{c:C->AV}{ok}(h:∀ N,ShU P N t (fun a=>[c a]) ok)(g:∀ w r b v,Value.okWide P w r b t v->v.cells=#[v])
  {H} {enc} {w} {r} {b} {v} {d:DataW H} {ps} (i:Value.okWide P w r b t v) (l:DataW.Trod enc P w 0 (fun _=>true) true t v d ps) (o:jT P t d) :
  ∃ a,ok a/\VRel ⟨(·<w.heap.size),[]⟩ w.heap (c a) v:=by
 obtain⟨n,p⟩:=l;obtain⟨a,I,j⟩:=h (n+1) n zOm H enc w _ _ p o;rw[g w r b v i]at j;have:=j.2 0 (c a) rfl
 grind
theorem tC{ok fs}(h:∀ N,ShU P N t c ok)(j:P.underlying t=some (.struct fs))
  {H} {enc} {w} {r} {b} {v} {d:DataW H} {ps} (g:Value.okWide P w r b t v) (l:DataW.Trod enc P w 0 (fun _=>true) true t v d ps) (o:jT P t d) :
  ∃ a,ok a/\VRel ⟨(·<w.heap.size),[]⟩ w.heap (.agg (c a)) v:=by
 obtain⟨n,p⟩:=l;obtain⟨a,I,i⟩:=h (n+1) n zOm H enc w _ _ p o;unfold Value.okWide at g;rw[j]at g;obtain⟨R,rfl,_,_⟩:=g;refine⟨a,I,.agg _ _ (by simpa[Value.cells] using i.1) (fun k x J=>?_)⟩;have:=i.2 k x J
 grind [Value.cells,qU]
theorem qoP{k}(g:P.underlying t=some (.int k))(w r b v)(h:Value.okWide P w r b t v):v.cells=#[v]:=by
 unfold Value.okWide at h;rw[g]at h;simp only[Cell.okWide,g]at h;cases v<;>simp_all[Value.cells,Cell.ok]
theorem qoQ(g:P.underlying t=some (.slice e))(w r b v)(h:Value.okWide P w r b t v):v.cells=#[v]:=by
 unfold Value.okWide at h;rw[g]at h;simp only[Cell.okWide,g]at h;cases v<;>simp_all[Value.cells,Cell.ok]
end
end Go.EvW
namespace Go.EvW
open Go Go.Ev Go.RowKit Go.ChangeShapes Go.WideShapes
section
variable {C:Type}{c:C->List AV}{ts:List qd}{P:qc}{t:qd}{w:qe}
def jk(P:qc)(t:qd){C:Type}(c:C->AV)(ok:C->Prop):Prop:=
 ∀(H:Type)(g:qd×qf->H)(w:qe)(r:Reach)(b:Nat)(v:qf)(d:DataW H)(i:List MemPlace),Value.okWide P w r b t v->DataW.Trod g P w 0 (fun _=>true) true t v d i->jT P t d ->
  ∃ a,ok a/\VRel ⟨(·<w.heap.size),[]⟩ w.heap (c a) v
theorem jk.struct{ok}(g:(U6 P t).isSome=true)(h:∀ N,ShU P N t c ok):jk P t (fun a => .agg (c a)) ok:=by
 intro H i w r b v d I j l o;unfold U6 at g;split at g
 .rename_i J p;exact tC h p j l o
 grind
theorem jk.slice{e c}{ok:C->Prop}(g:P.underlying t=some (.slice e))(h:∀ N,ShU P N t (fun a=>[c a]) ok):jk P t c ok:=
 fun H i w r b v d p j l o=>tA h (qoQ g) j l o
theorem jk.int{k c}{ok:C->Prop}(g:P.underlying t=some (.int k))(h:∀ N,ShU P N t (fun a=>[c a]) ok):jk P t c ok:=
 fun H i w r b v d p j l o=>tA h (qoP g) j l o
inductive ArgF (P:qc):List qd->{α:Type}->(α->List AV)->(α->Prop)->Prop where
 |nil:ArgF P [] (fun _:Unit=>[]) (fun _=>True)
 |cons {t:qd} {ts:List qd} {α β:Type} {c:α->AV} {ok:α->Prop} {c':β->List AV} {ok':β->Prop} (h:jk P t c ok) (k:ArgF P ts c' ok'):ArgF P (t :: ts) (fun x:α×β=>c x.1 :: c' x.2) (fun x=>ok x.1/\ok' x.2)
theorem ArgF.read{ok}(h:ArgF P ts c ok){H enc w r b} :
  ∀{g}{ds:List (DataW H)}{ps},DataW.TrodAll enc P w 0 (fun _=>true) true ts g ds ps->(∀(j:Nat) t v,ts[j]?=some t->g[j]?=some v->Value.okWide P w r b t v)->(DataW.weightsEach P ts ds).all (·<=reachBytes)=true ->
  ∃ a,ok a/\ds.length=ts.length/\g.length=(c a).length/\∀(k) x,(c a)[k]?=some x->VRel ⟨(·<w.heap.size),[]⟩ w.heap x (g.getD k z6):=by
 induction h with
 |nil =>
  intro g ds ps i _ _;obtain⟨rfl,rfl,rfl⟩:=trodAll_nil i;simp
 | @cons t ts C β c ok c' R h k T =>
  intro g ds ps i J l;obtain⟨v,U,d,a0,p,q,rfl,rfl,rfl,h1,h2⟩:=trodAll_cons i;simp only[DataW.weightsEach,List.all_append,qD]at l;obtain⟨a,ha,hr⟩:=h H enc w r b v d p (J 0 t v rfl rfl) h1 l.1;obtain⟨a',o,I,hl,hg⟩:=T h2 (fun j t v=>J (j+1) t v) l.2;refine⟨(a,a'),⟨ha,o⟩,zP1 I,zP1 hl,fun k x hx=>?_⟩
  grind
theorem qc1(l:laidOutB P=true){H enc W o C}:∀{ts i}{ds:List (DataW H)}{ps},
  (∀ t,t∈ts->P.readableRec t=true/\t<P.types.size)->DataW.TrodAll enc P W 0 (fun _=>true) true ts i ds ps->(∀ p∈ps,W.sameAt o p)->(∀ p∈ps,C p.block=true)->DataW.TrodAll enc P o 0 C true ts i ds ps
 | [],i,ds,ps,_,h,_,_=>by
  obtain⟨rfl,rfl,rfl⟩:=trodAll_nil h;exact trodAll_mk0
 |t :: ts,i,ds,ps,I,h,J,R=>by
  obtain⟨v,T,d,U,p,q,rfl,rfl,rfl,g1,g2⟩:=trodAll_cons h;have j:=I t zSp;exact trodAll_cons_mk (WideElems.Trod_stays l j.1 j.2 g1 (fun x g=>J x (zP1 g)) (fun x g=>R x (zP1 g)))
   (qc1 l (fun t j=>I t (zP1 j)) g2 (fun x g=>J x (zP1 g)) (fun x g=>R x (zP1 g)))
theorem qoR{f fn}{s:ChangeSpec}{tb ok}(hp:fn.params=ts.toArray)(hF:ArgF P ts c ok)(hv:s.vars=[])
  (T:∀ H ds,ds.length=ts.length->s.fn H ds={ results:=[.lit (.bool true)],args:=ds }) (hr:fn.resultTypes=#[tb]) (U:P.underlying tb=some .bool)
  (hl:laidOutB P=true) (a7:(ts.all fun t=>P.readableRec t&&decide (t<P.types.size))=true) (hS:∀ a,ok a->qj P f (c a) (aB true))
  (H) (I) (W) (base) (args) (ds gs:List (DataW H)) (g)
  (i:∀(j:Nat) t v,fn.params[j]?=some t->args[j]?=some v->Value.okWide P W .any base t v) (hW:DataW.Whole I P fn.params.toList s.vars false W args.toList ds gs g) (a8:(DataW.weightsEach P fn.params.toList ds).all (·<=reachBytes)=true) (hT:ZF (·<W.heap.size) W.heap) :
  Calls P f args W fun e W'=>∃ v,e = .returned v/\s.post I P fn false true false false W args v W':=by
 have a0:=hW;obtain⟨p,q,R,hV,J,a9,_⟩:=hW;rw[hv]at hV;obtain⟨hg,hq⟩:=trodVars_none hV;subst hg;subst hq;rw[ye]at J;subst J;rw[hp]at R i;obtain⟨a,ha,a1,a2,aa⟩:=hF.read (r := .any) (b:=base) R (fun j t v h1 h2=>i j t v (zUs h1) (zUs h2)) (by grind);have a3:∀ x,x∈g->x.block<W.heap.size:=fun x l=>R.lt x l
 obtain⟨_,o⟩:=hS a ha;refine(o (·<W.heap.size) W args (Sim.empty (fun _ h=>h) hT) ⟨zUs a2,fun k x hk=>?_⟩).mono fun e W' ⟨a6,v,he,_,_,hb,a4⟩=>?_
 .simp_all
 .have a5:v = .bool true:=by cases a4;rfl
  subst a5;refine⟨_,he,ds,[],g,[],g,[],a0,?_,?_,?_,World.keptBut_mono (fun x l=>⟨l,.inr (.inl l)⟩) (hb.frame (·∈g)),fun h=>by cases h⟩
  all_goals try rw[ye]
  all_goals try rw[T H ds a1]
  .rw [hr]
   exact trodAll_cons_mk (p':=[]) (shut_bool U true) trodAll_mk0
  .rw [hp]
   refine qc1 hl (fun t ht=>?_) R (fun x l=>hb.same (a3 x l)) (fun x l=>by grind)
   grind
  .rw [hv];rfl
theorem ShF.cons'{N o o' fs i ok c' g}(j:o+P.cellsOf t=o')(h:ShU P N t c ok)(k:ShF P N o' fs c' g) :
  ShF P N o ((t,o) :: fs) (fun x:C×i=>c x.1++c' x.2) (fun x=>ok x.1/\g x.2):=by
 subst j;exact .cons h k
theorem qc2:∀{laid ps},DataW.LaidVars P w laid ps->∀ x,x∈laid->∃ g t cs fuel p,P.globalNamed x.1=some g/\(P.globals[g]?).map (·.type)=some t/\w.var? P x.1=some cs/\DataW.trod (fun _=>()) P w 0 (fun _=>true) false fuel t cs.toList=some (x.2,p)
 | [],_,_,x,i=>by simp at i
 | (n,d) :: r,ps,h,x,i=>by
  obtain⟨g,t,cs,fuel,p,q,l,o,C,I,j,_⟩:=h;rcases qz.1 i with rfl|i
  .grind
  .exact qc2 j x i
theorem qoS{e n fuel k}(U:P.underlying t=some (.array n e))(he:P.underlying e=some (.int k))(hc:P.cellsOf e=1)(C:P.cellsOf t=n){cs}{ns:List Int}{p}
  (h:DataW.trod (fun _=>()) P w 0 (fun _=>true) false fuel t cs=some (.agg (ns.map fun i => .lit (.int k i)),p)):cs=ns.map fun i => .int k i:=by
 obtain⟨I,m,_,g,T,hn,j⟩:=DataW.trod_array U h;simp only[wo,DataW.agg.injEq]at g;have g:=g.1;have J:ns.length=n:=by have:=congrArg List.length g;simp at this;omega
 rw[C]at T;rw[hc]at j;apply List.ext_getElem
 .simp [T,J]
 .intro i h1 h2
  have R:=j i zOm;rw[Nat.mul_one]at R;have l:i<I.length:=zOm;rw[qy l]at R;obtain⟨z,e1,e2,_⟩:=DataW.trod_int he R;have h4:(I[i]).1=DataW.lit (.int k z):=by rw[e2]
  have o:(ns.map fun i=>(DataW.lit (.int k i):DataW Unit))[i]?=(I.map (·.1))[i]?:=by rw[g]
  rw[zz,zz,qy l,qy zOm]at o;simp only[zh,qs]at o;rw[h4]at o;simp only[DataW.lit.injEq,Lit.int.injEq,true_and]at o;have h6:(cs.drop i).take 1=[cs[i]]:=by rw[ze h1];rfl
  grind
theorem qoT{name g cs}(j:P.globalNamed name=some g)(h:w.var? P name=some cs):∃ e i,w.heap[g]?=some (.cells cs e i):=by
 grind [World.var?]
end
end Go.EvW
namespace Go.Proofs.YthflbhjlkgdafaaGreatDoor
open Go Go.Ev Go.Proofs Tryz
namespace DT
open Go.EvW Y1 P1 YF
theorem unInt:qg.underlying 3=some (.int .i64):=by kernel_rfl
theorem qc3:qg.underlying 4=some .bool:=by kernel_rfl
theorem qoU:qg.underlying 9=some .string:=by kernel_rfl
theorem qoV:qg.underlying 28=some (.slice 3):=by kernel_rfl
theorem qoW:qg.underlying 22=some (.slice 75):=by kernel_rfl
theorem qoX:qg.underlying 23=some (.slice 77):=by kernel_rfl
theorem qoY:qg.underlying 32=some (.slice 34):=by kernel_rfl
theorem qc4:qg.underlying 35=some (.slice 54):=by kernel_rfl
theorem qoZ:qg.underlying 24=some (.slice 84):=by kernel_rfl
theorem qo0:qg.underlying 25=some (.slice 86):=by kernel_rfl
abbrev okI(n:Int):Prop := -9223372036854775808<=n/\n<=9223372036854775807
abbrev okS(s:dC):Prop:=s.size<=140737488351232
instance:Inhabited Nd:=⟨.mk 0 ⟨#[]⟩ 0 [] 0⟩
instance:Inhabited Pd:=⟨⟨⟨#[]⟩,[],default⟩⟩
instance:Inhabited Fld:=⟨⟨⟨#[]⟩,[],false⟩⟩
theorem Z8(N):ShU qg N 3 (fun n:Int=>[aI n]) okI:=
 (ShU.int unInt N).map (fun n=>n) (fun _=>rfl) (fun n h=>by
  grind [Lit.wf,IntKind.min,IntKind.max,IntKind.signed,IntKind.bits])
theorem K9(N):ShU qg N 4 (fun b:Bool=>[aB b]) (fun _=>True):=ShU.bool qc3 N
theorem Jn(N):ShU qg N 9 (fun s:dC=>[aS s]) okS:=ShU.string qoU N
theorem kc(N):ShU qg N 28 (fun xs:List Int=>[lI xs]) (fun l=>l.length<=140737488351232/\∀ x,x∈l->okI x):=
 ((ShU.slice qoV (Z8 N) (fun _ _=>zKr) (Nat.lt_of_lt_of_eq Nat.zero_lt_one zKr) zKr).le zOm).map (fun l=>l) (fun _=>rfl) fun _ h=>h
theorem qo1(N):ShU qg N 77 vL (fun f=>f.sS.length<=140737488351232/\∀ x,x∈f.sS->okI x):=
 ((ShU.struct (fs:=[(9,0),(28,1),(4,2)]) zKr (.cons' (o':=1) zKr (Jn N) (.cons' (o':=2) zKr (kc N) (.cons' (o':=3) zKr (K9 N) (.nil 3)))) zKr).map
  (fun x=>(⟨x.1,x.2.1,x.2.2.1⟩:Fld)) (fun _=>rfl) (fun x h=>h.2.1)).le zOm
theorem qo2(N):ShU qg N 75 JT (fun s=>okS s.1):=
 ((ShU.struct (fs:=[(9,0),(4,1)]) zKr (.cons' (o':=1) zKr (Jn N) (.cons' (o':=2) zKr (K9 N) (.nil 2))) zKr).map
  (fun x=>((x.1,x.2.1):dC×Bool)) (fun _=>rfl) (fun x h=>h.1)).le zOm
theorem U7:∀ N,ShU qg N 34 cNd (fun _=>True)
 | 0=>fun n i=>absurd i zOm
 | N+1 =>
  have ks:ShU qg N 32 (fun l:List Nd=>[.lst false (l.map cNd)]) (fun _=>True):=((ShU.slice qoY (U7 N) (fun a _=>(Yu a).trans zKr) (Nat.lt_of_lt_of_eq (show 0<5 by omega) zKr) zKr).le zOm).map (fun l=>l) (fun _=>rfl) fun _ _=>trivial
  ((ShU.struct (fs:=[(3,0),(9,1),(3,2),(32,3),(3,4)]) zKr
   (.cons' (o':=1) zKr (Z8 N) (.cons' (o':=2) zKr (Jn N) (.cons' (o':=3) zKr (Z8 N) (.cons' (o':=4) zKr ks (.cons' (o':=5) zKr (Z8 N) (.nil 5)))))) zKr)).map
   (fun x=>Nd.mk x.1 x.2.1 x.2.2.1 x.2.2.2.1 x.2.2.2.2.1) (fun x=>by rw[jp];rfl) fun _ _=>trivial
theorem qo3(N):ShU qg N 54 cPm (fun p=>okI p.2):=
 ((ShU.struct (fs:=[(9,0),(3,1)]) zKr (.cons' (o':=1) zKr (Jn N) (.cons' (o':=2) zKr (Z8 N) (.nil 2))) zKr).map
  (fun x=>((x.1,x.2.1):dC×Int)) (fun _=>rfl) (fun x h=>h.2.1)).le zOm
theorem qc5(N):ShU qg N 35 (fun l:List (dC×Int)=>[lPm l]) (fun l=>l.length<=140737488351232):=
 ((ShU.slice qc4 (qo3 N) (fun _ _=>zKr) (Nat.lt_of_lt_of_eq (show 0<2 by omega) zKr) zKr).le zOm).map (fun l=>l) (fun _=>rfl) fun _ h=>h.1
theorem qo4(N):ShU qg N 84 cPd (fun _=>True):=
 ((ShU.struct (fs:=[(9,0),(35,1),(34,2)]) zKr (.cons' (o':=1) zKr (Jn N) (.cons' (o':=2) zKr (qc5 N) (.cons' (o':=7) zKr (U7 N) (.nil 7)))) zKr).map
  (fun x=>(⟨x.1,x.2.1,x.2.2.1⟩:Pd)) (fun x=>by simp[cPd]) fun _ _=>trivial).le zOm
theorem qo5(N):ShU qg N 86 cFa (fun _=>True):=
 ((ShU.struct (fs:=[(9,0),(34,1)]) zKr (.cons' (o':=1) zKr (Jn N) (.cons' (o':=6) zKr (U7 N) (.nil 6))) zKr).map
  (fun x=>((x.1,x.2.1):dC×Nd)) (fun x=>by simp[cFa]) fun _ _=>trivial).le zOm
structure okTA (ts:TS):Prop where
 so:∀ x,x∈ts.sS->okS x.1
 nso:ts.sS.length<=140737488351232
 nf:ts.sA.length<=140737488351232
 fl:∀ f,f∈ts.sA->f.sS.length<=140737488351232/\∀ x,x∈f.sS->okI x
theorem qo6(N):ShU qg N 27 cTS okTA:=by
 have s1:=(ShU.slice qoW (qo2 N) (fun _ _=>zKr) (Nat.lt_of_lt_of_eq (show 0<2 by omega) zKr) zKr).le (M:=N) zOm;have i:=(ShU.slice qoX (qo1 N) (fun _ _=>zKr) (Nat.lt_of_lt_of_eq (show 0<3 by omega) zKr) zKr).le (M:=N) zOm;have j:=(ShU.slice qoZ (qo4 N) (fun a h=>(Yz a).1.trans zKr) (Nat.lt_of_lt_of_eq (show 0<7 by omega) zKr) zKr).le (M:=N) zOm;have l:=(ShU.slice qo0 (qo5 N) (fun a h=>(nR a).1.trans zKr) (Nat.lt_of_lt_of_eq (show 0<6 by omega) zKr) zKr).le (M:=N) zOm;have U:=ShU.struct (t:=27) (fs:=[(22,0),(23,1),(24,2),(25,3)]) zKr (.cons' (o':=1) zKr s1 (.cons' (o':=2) zKr i (.cons' (o':=3) zKr j (.cons' (o':=4) zKr l (.nil 4))))) zKr;exact(U.map (fun x=>(⟨x.1,x.2.1,x.2.2.1,x.2.2.2.1⟩:TS)) (fun _=>rfl) fun x h=>⟨h.1.2,h.1.1,h.2.1.1,h.2.1.2⟩).le zOm
theorem aSpec:jk qg 27 eTS okTA:=jk.struct zKr qo6
theorem aNode:jk qg 34 eNd (fun _=>True):=jk.struct zKr U7
theorem qo7:jk qg 35 lPm (fun l=>l.length<=140737488351232):=jk.slice qc4 qc5
theorem unU8:qg.underlying 5=some (.int .u8):=by kernel_rfl
theorem shU8(N):ShU qg N 5 (fun n:Int=>[.sc (.int .u8 n)]) (fun n=>0<=n/\n<=255):=
 (ShU.int unU8 N).map (fun n=>n) (fun _=>rfl) (fun n h=>by
  simp[Lit.wf,IntKind.min,IntKind.max,IntKind.signed,IntKind.bits]at h;exact h)
theorem aU8:jk qg 5 (fun n:Int => .sc (.int .u8 n)) (fun n=>0<=n/\n<=255):=jk.int unU8 shU8
end DT
namespace QA
end QA
namespace QB
def WkR:List (List AV)->List (List AV)->Prop
 | [],[]=>True
 |x :: p,y :: j=>WKs x y/\WkR p j
 |_,_=>False
theorem qc6:∀{xs ys g i},WKs xs ys->WKs g i->WKs (xs++g) (ys++i)
 | [],[],_,_,_,j=>j
 |_ :: _,_ :: _,_,_,⟨h,t⟩,j=>⟨h,qc6 t j⟩
 | [],_ :: _,_,_,h,_=>h.elim
 |_ :: _,[],_,_,h,_=>h.elim
theorem qc7:∀{xs ys},WkR xs ys->ys.length=xs.length/\(∀(k:Nat) x y,xs[k]?=some x->ys[k]?=some y->x.length=y.length)/\WKs xs.flatten ys.flatten
 | [],[],_=>⟨rfl,fun k x y h=>by simp at h,trivial⟩
 |x :: xs,y :: ys,⟨h,t⟩=>by
  obtain⟨j,l,o⟩:=qc7 t;refine⟨zP1 j,fun k a b g i=>?_,by rw[wm,wm];exact qc6 h o⟩;cases k with
  |zero=>simp at g i;subst g;subst i;exact h.get.1.symm
  |succ k=>exact l k a b (zUs g) (zUs i)
 | [],_ :: _,h=>h.elim
 |_ :: _,[],h=>h.elim
theorem Zz{full xs ys}(h:WkR xs ys):WK (.lst full xs) (.lst false ys):=by
 obtain⟨l,C,I⟩:=qc7 h;have J:=pU l C;have P:=I.get.2;intro G R v r;cases r with
 |nil=>cases ys with
  |nil=>exact .nil _
  |cons=>simp at l
 |emp _ a cap T=>cases ys with
  |nil=>exact .emp _ a cap zSp
  |cons=>simp at l
 |lst _ _ sz a cap U e fr rd hb hs hl T hi o hr hv =>
  rw[<-l];have g:∀(k:Nat) y,ys.flatten[k]?=some y->∃ x,xs.flatten[k]?=some x:=by
   intro k y j;have p:k<ys.flatten.length:=(ql.1 j).1;exact⟨xs.flatten[k]' zOm,by simp only[qy (show k<xs.flatten.length by omega)]⟩
  refine .lst false ys sz a cap U e fr rd hb hs zOm zSp hi ?_ ?_ ?_
  .intro r t
   obtain⟨k,p⟩:=List.mem_iff_getElem?.1 t;have a0:k<ys.length:=(ql.1 p).1;have i:xs[k]?=some (xs[k]' zOm):=by simp[show k<xs.length by omega]
   rw[<-C k _ r i p];exact o _ (q8 i)
  .intro k y j
   obtain⟨x,i⟩:=g k y j;exact hr k x i
  .intro k y j
   obtain⟨x,i⟩:=g k y j;exact P k x y i j G R _ (hv k x i)
end QB
namespace PB
open P1 P2 Y1 Y2 Y6 Y9 YW
def Sub(a b:Kd):Prop:=a.ar=b.ar/\∀ t,t∈a.ts->t∈b.ts
theorem qo8{n m a g b i}(j:∀ t,t∈a->t∈g)(l:∀ t,t∈b->t∈i):∀ t,t∈uT n m a b->t∈uT n m g i:=fun t o=>by
 grind [Zm]
theorem kg{a j b l}(g:Sub a j)(i:Sub b l):Sub (zM a b) (zM j l):=by
 refine⟨by simp only[zM];rw[g.1,i.1],fun t o=>?_⟩;simp only[zM]at o⊢;rw[<-g.1,<-i.1];exact qo8 g.2 i.2 t o
theorem Jo{a b}{t:Tp}:t∈(kSum a b).ts↔t∈a.ts\/t∈b.ts:=by
 show t∈uni (uni [] a.ts) b.ts↔_;rw[um,um];simp
theorem Sub.refl(a):Sub a a:=⟨rfl,fun _ h=>h⟩
theorem Sub.trans{a b c}(h:Sub a b)(k:Sub b c):Sub a c:=⟨h.1.trans k.1,fun t g=>k.2 t (h.2 t g)⟩
theorem kh(a b):Sub a (kSum a b):=⟨rfl,fun t g=>Jo.2 (.inl g)⟩
def U8(k:Kd):Prop:=∀ t,t∈(zM k k).ts->t∈k.ts
theorem qc8:∀ f n a,Sub a (cloN f n a)
 | 0,n,a => .refl a
 |f+1,n,a=>by
  unfold cloN;split
  .exact (kh a _).trans (qc8 f _ _)
  .exact .refl a
theorem qc9{S}(i:U8 S):∀ f n a,Sub a S->Sub (cloN f n a) S
 | 0,n,a,h=>h
 |f+1,n,a,h=>by
  unfold cloN;split
  .refine qc9 i f _ _ ⟨h.1,fun t g=>?_⟩
   rcases Jo.1 g with g|g
   .exact h.2 t g
   .exact i t ((kg h h).2 t g)
  .exact h
theorem qdA{ns}(o:ns<=4):∀ f n a,okKd ns a->a.ar=2->70<=f+n->(n=0\/∃ p,okKd ns p/\p.ar=2/\n=p.ts.length/\a=kSum p (zM p p))->U8 (cloN f n a)
 | 0,n,a,g,C,hf,I=>by
  rcases I with rfl|⟨p,P,_,rfl,_⟩
  .omega
  grind [cY]
 |f+1,n,a,g,C,hf,I=>by
  unfold cloN;split
  .rename_i U
   have hj:okKd ns (zM a a):=Ve g g zOm zOm;refine qdA o f _ _ (Vc g hj (by grind [zM])) C zOm (.inr ⟨a,g,C,rfl,rfl⟩)
  .rename_i a0
   rcases I with rfl|⟨p,P,a1,rfl,rfl⟩
   .have:a.ts=[]:=uM zOm
    intro t i;obtain⟨x,y,⟨J,_⟩,_⟩:=Zm.1 i
    grind
   .have j:∀ t,t∈(kSum p (zM p p)).ts->t∈p.ts:=by
     have a2:(kSum p (zM p p)).ts.Nodup:=g.nd;have a3:∀ t,t∈p.ts->t∈(kSum p (zM p p)).ts:=(kh p _).2;intro t i;by_cases R:t∈p.ts
     .exact R
     .exfalso
      have l:(t :: p.ts).Nodup:=ve.2 ⟨R,P.nd⟩;have:=jl l (l₂:=(kSum p (zM p p)).ts) (fun x J=>by
       rcases qz.1 J with rfl|J
       .exact i
       grind)
      grind
    intro t i;have T:Sub (kSum p (zM p p)) p:=⟨rfl,j⟩;exact Jo.2 (.inr ((kg T T).2 t i))
section
variable {ts:TS} (ok:okTS ts) (a b d:Nd)
include ok
end
end PB
namespace PC
open P1 Y1 Y2 Y10 YZ YC Q4
theorem apK1(ns op n pos a):zE ns op n pos [some a]=if op=2 then .ok (some ⟨n,[]⟩) else if op=3 then .ok (some (zA ns 1)) else if op=4 then .ok (some (zA ns 2)) else
  if op=5 then .ok (some a) else if op=11\/op=12\/op=13 then (if a.ar=2 then .ok (some (binK ns op a)) else .error (42,pos)) else .ok none:=rfl
theorem apK2(ns op n pos a b) : zE ns op n pos [some a, some b] = if op = 2 then .ok (some ⟨n, []⟩) else if op = 3 then .ok (some (zA ns 1)) else if op = 4 then .ok (some (zA ns 2)) else
      if op=6\/op=14\/op=7\/op=8\/op=32\/op=33 then (if a.ar=b.ar then .ok (some (un op a b)) else .error (42,pos))
      else if op=9 then (if 1<=a.ar+b.ar-2/\a.ar+b.ar-2<=3 then .ok (some (zM a b)) else .error (42,pos))
      else if op=10 then (if a.ar+b.ar<=3 then .ok (some (Zi a b)) else .error (42,pos))
      else .ok none:=rfl
theorem ki(ts i):∀ m,i<m->m<=ts.sT.length->∀ j,(tmsL ts m).getD i false=yY (mkCk ts i) ts.sT[i].body
 | 0,h,_,_=>absurd h zOm
 |m+1,h,t,j=>by
  have l:=ZX ts m zOm;have g:m<ts.sT.length:=zOm;have e:tmsL ts (m+1)=tmsL ts m++[yY (mkCk ts m) ts.sT[m].body]:=by
   show tmsL ts m++(match ts.sT[m]? with|some p=>[yY ⟨ts,m,tmsL ts m⟩ p.body] | none=>[])=_;rw[qy g];rfl
  rw[e];by_cases o:i<m
  .rw [<-ki ts i m o zOm j]
   simp only[zH];rw[zGa]
  .have:i=m:=by omega
   subst this;simp only[zH];rw[zZ zOm,l];simp
def OwnT(n:Nd):Prop:=∀ x,x∈preN n->ownB x=true
theorem OwnT.kid{n k}(h:OwnT n)(g:k∈n.sD):OwnT k:=fun x i=>h x (qcK g i)
theorem kj{ks x}(h:x∈zw ks):∃ k,k∈ks/\x∈preN k:=by
 induction ks with
 |nil=>simp[zw]at h
 |cons a l g =>
  simp only[zw,qP]at h;rcases h with h|h
  .exact ⟨a,zo ..,h⟩
  .obtain ⟨k,i,j⟩:=g h
   exact⟨k,q9 _ i,j⟩
end PC
namespace PD
end PD
namespace PE
open P2 Y1
theorem qo9{n}(g:WfN n)(h:n.op=1):n.sD=[]:=by
 have i:=g.shape;simp_all[shp,if_pos,qs,List.map_eq_nil_iff]
theorem qdB{n}(i:WfN n)(h:30<=n.op):kd n.op=102:=by
 have g:=i.shape;have:n.op<=51:=by
  by_cases j:n.op<=51
  .exact j
  .exfalso
   unfold shp at g;rw[zIn,zIn,zIn,zIn,zIn,zIn,zIn,zIn]at g;cases g
 unfold kd;omega
theorem kl{n}(i:WfN n)(h:n.op=15\/n.op=45\/n.op=46):∃ a f,n.sD=[a,f]/\kd a.op=101:=by
 have g:=i.shape;unfold shp at g;rw[zIn,zIn,zIn,if_pos zOm]at g;simp only[qs]at g
 match j:n.sD,g with
 | [a,f],g =>
  grind
 | [],g=>simp at g
 | [_],g=>simp at g
 |_ :: _ :: _ :: _,g=>simp at g
end PE
namespace PG
open Y1 YZ
theorem qdC{ks k}(h:k∈ks):depN k<=yw ks:=by
 induction ks with
 |nil=>simp at h
 |cons a l g =>
  simp only[yw];rcases qz.1 h with rfl|h
  .omega
  .have:=g h;omega
theorem qdD(n):1<=depN n:=by
 rw[Zw];have:∀ ks:List Nd,0<=yw ks:=by
  intro ks;induction ks with
  |nil=>simp[yw]
  |cons a l g=>simp only[yw];omega
 have:=this n.sD;omega
end PG
namespace PF
open P1 P2 Y1 Y2 Y9 Y16 YZ YB YC YE YG Q2 Q4 PC PE PG
mutual
theorem kn:∀(n:Nd)(left:Int),cntT n<=left->cntN n left=cntT n
 | .mk op nm i ks p,left,h=>by
  simp only[cntT,cntN]at h⊢;exact qdE ks left 1 h
theorem qdE:∀(ks:List Nd)(left sum:Int),sum+y6 ks<=left->yM ks left sum=sum+y6 ks
 | [],left,sum,h=>by simp only[y6,yM];omega
 |k :: ks,left,sum,h=>by
  simp only[y6,yM]at h⊢;have g:=U2 k;have i:=U3 ks;rw[if_pos zOm,kn k (left-sum) zOm,qdE ks left _ zOm];omega
end
mutual
theorem qdF:∀(n:Nd)(left:Int),cntN n left<=left->cntT n<=left
 | .mk op nm i ks p,left,h=>by
  simp only[cntT,cntN]at h⊢;exact qdG ks left 1 h
theorem qdG:∀(ks:List Nd)(left sum:Int),yM ks left sum<=left->sum+y6 ks<=left
 | [],left,sum,h=>by simp only[y6,yM]at h⊢;omega
 |k :: ks,left,sum,h=>by
  simp only[y6,yM]at h⊢;split at h
  .have i:=(Kn ks left (sum+cntN k (left-sum))).1
   have g:cntN k (left-sum)<=left-sum:=zOm;have j:=kn k (left-sum) (qdF k _ g);have l:=qdG ks left _ h;omega
  .omega
end
section
variable {c:Ck}
theorem qpA{ks d}(g:0<=d)(h:∀ k,k∈ks->depN k<=d):yw ks<=d:=by
 induction ks with
 |nil=>grind [yw]
 |cons a l i =>
  grind [yw,zo,q9]
theorem qpB{ks g}(h:∀ k,k∈ks->forN k g=true):uZ ks g=true:=by
 induction ks with
 |nil=>rfl
 |cons a l i =>
  simp_all[uZ,qD,zo,q9]
theorem qdH:∀ m n g,szN n<=m->WfN n->OwnT n->depN n<=g->forN n g=true
 | 0,n,_,l,_,_,_=>by obtain⟨op,nm,i,ks,p⟩:=n;simp[szN]at l
 |m+1,n,g,l,o,t,C=>by
  have I:=qdD n;rw[Vi,zIn,t n (K4 n),Bool.true_and,qD];refine⟨?_,qpB fun k j=>qdH m k (g-1) (zW1 (zl j)) (o.kid j) (t.kid j) ?_⟩
  .unfold fitB
   rw[decide_eq_true_eq];exact o.shape
  .have:=qdC j
   rw[Zw]at C;omega
theorem qdI:∀ m n l,szN n<=m->forN n l=true->OwnT n/\depN n<=l
 | 0,n,_,o,_=>by obtain⟨op,nm,i,ks,p⟩:=n;simp[szN]at o
 |m+1,n,l,o,h=>by
  rw[Vi]at h;split at h
  .cases h
  .rename_i J
   simp only[qD]at h;obtain⟨C,P,I⟩:=h;have t:=fun k (g:k∈n.sD)=>qdI m k (l-1) (zW1 (zl g)) (Ko I k g)
   refine⟨fun x j=>?_,?_⟩
   .rw [Zx]at j
    rcases qz.1 j with rfl|j
    .exact C
    .obtain ⟨k,g,j⟩:=kj j
     exact(t k g).1 x j
   .rw [Zw]
    have:=qpA (ks:=n.sD) (d:=l-1) zOm fun k g=>(t k g).2
    omega
theorem Z9{n}:yb n=true↔WfN n/\OwnT n/\cntT n<=400/\depN n<=24:=by
 constructor
 .intro h
  have l:=ux h;simp only[yb,qD,decide_eq_true_eq]at h;obtain⟨a,b⟩:=qdI (szN n) n 24 (qn _) h.2;simp_all[qdF]
 .rintro ⟨g,i,o,j⟩
  simp only[yb,qD,decide_eq_true_eq];exact⟨by grind [kn],qdH (szN n) n 24 (qn _) g i j⟩
theorem qdJ{nm i}(h:zC c nm=some i)(g):(c.ts.sT.find? fun p=>decide (p.name=nm))=some c.ts.sT[i]:=by
 unfold zC at h;rw[List.findIdx?_eq_some_iff_getElem]at h;obtain⟨l,o,t⟩:=h;rw[List.find?_eq_some_iff_getElem];refine⟨?_,i,g,rfl,fun j C=>?_⟩
 .grind
 grind
theorem qdK{s pos}:∀{ks ps l},ps.length=ks.length->yC c s pos ps ks = .ok l->∀ k,k∈ks->∃ a,exam c s true k = .ok a
 | [],_,_,_,_,k,g=>absurd g qO
 |k :: ks,[],_,i,_,_,_=>by simp at i
 |k :: ks,p :: ps,l,i,h,x,j=>by
  simp only[yC]at h;split at h
  .cases h
  .cases h
  .rename_i a g
   split at h
   .split at h
    .rcases qz.1 j with rfl|j
     .exact ⟨_,g⟩
     .exact qdK (zUs i) h x j
    .cases h
   .cases h
theorem U9{s inn}:∀{ks l},zq c s inn ks = .ok l->∀ k,k∈ks->∃ a,exam c s inn k = .ok a
 | [],_,_,k,g=>absurd g qO
 |k :: ks,l,h,x,i=>by
  simp only[zq]at h;split at h
  .cases h
  .rename_i a g
   split at h
   .cases h
   .rename_i o j
    rcases qz.1 i with rfl|i
    .exact ⟨_,g⟩
    .exact U9 j x i
theorem kq(hc:okCk c):∀ m n s inn o,szN n<=m->exam c s inn n = .ok o->WfN n->vF c.ts n
 | 0,n,_,_,_,hm,_,_=>by obtain⟨op,nm,i,ks,p⟩:=n;simp[szN]at hm
 |m+1,n,s,inn,o,hm,h,hw=>fun x j ho=>by
  have ih:∀ k,k∈n.sD->∀ s inn o,exam c s inn k = .ok o->vF c.ts k:=fun k C s inn o h=>kq hc m k s inn o (zW1 (zl C)) h (hw.kid C)
  rw[vy]at h;rw[Zx]at j;split at h
  .cases h
  by_cases h1:n.op=1
  .rw [qo9 hw h1]at j
   rcases qz.1 j with rfl|j
   .omega
   .simp [zw]at j
  rw[if_neg h1]at h;have I:∀(s:Nd->Scp)(inn:Nd->Bool),(∀ k,k∈n.sD->∃ o,exam c (s k) (inn k) k = .ok o)->x∈zw n.sD->∃ p,(c.ts.sT.find? fun p=>decide (p.name=x.name))=some p/\p.params.length=x.sD.length:=fun s inn C j=>by
   obtain⟨k,J,j⟩:=kj j;obtain⟨o,a0⟩:=C k J;exact ih k J _ _ _ a0 x j ho
  by_cases h47:n.op=47
  .rw [if_pos h47]at h
   split at h
   .split at h
    .cases h
    .rename_i i P
     obtain⟨_,a1⟩:=ZW hc P;rw[qy a1]at h;simp only at h;split at h
     .rename_i R
      rcases qz.1 j with rfl|j
      .grind [qdJ]
      .exact I (fun _=>s) (fun _=>true) (qdK R h) j
     .cases h
   .cases h
  rw[if_neg h47]at h;have j:x∈zw n.sD:=by
   rcases qz.1 j with rfl|j
   .omega
   .exact j
  by_cases T:n.op=15\/n.op=45\/n.op=46
  .rw [if_pos T]at h
   obtain⟨a,g,t,_⟩:=kl hw T;rw[t]at h;simp only[jj]at h;split at h
   .cases h
   .cases h
   .rename_i k C
    split at h
    .split at h
     .cases h
     .rename_i l hl
      obtain⟨y,U,j⟩:=kj j;rw[t]at U;rcases qz.1 U with rfl|U
      .exact ih y (by rw[t];simp) _ _ _ C x j ho
      .rw [qX]at U
       subst U;obtain⟨b,T⟩:=U9 hl y zSp;exact ih y (by rw[t];simp) _ _ _ T x j ho
    .cases h
  .rw [if_neg T]at h
   split at h
   .cases h
   .rename_i l hl
    exact I (fun _=>s) (fun _=>_) (fun k C=>U9 hl k C) j
theorem Wa{env n}(h:(jR c env n).1=0):30<=n.op/\∃ g,exam c (zO env) false n = .ok g:=by
 unfold jR at h;split at h
 .rename_i i
  refine⟨i,?_⟩;cases j:exam c (zO env) false n with
  |ok g=>exact⟨g,rfl⟩
  |error e =>
   rw[j]at h;have:=PG.Qw c (szN n) n _ _ e (qn _) j;have h:e.1=0:=h;omega
 omega
theorem qdL{ts}(h:vT ts=[])(i g):(jR (mkCk ts i) ts.sT[i].params ts.sT[i].body).1=0:=by
 simp_all[vT,List.append_eq_nil_iff,List.flatMap_eq_nil_iff,zW,uw,qy,rp]
theorem qdM(l):∀ es,(putN es l).length<=es.length+l.length:=by
 have i:∀(es:List (dC×Bool))(k:dC),(setK k true es).length<=es.length+1:=by
  intro es k;induction es with
  |nil=>simp[setK]
  |cons a es g=>grind [setK]
 induction l with
 |nil=>grind [putN]
 |cons a l g =>
  grind [setK,putN,yy]
mutual
theorem Vs:∀ n:Nd,((preN n).length:Int)=cntT n
 | .mk op nm i ks p=>by simp only[preN,cntT,yy];have:=qdN ks;omega
theorem qdN:∀ ks:List Nd,((zw ks).length:Int)=y6 ks
 | []=>rfl
 |k :: ks=>by simp only[zw,y6,zj];have:=Vs k;have:=qdN ks;omega
end
end
theorem qpC{ts}(h:okTS ts)(g:∀ p,p∈ts.sT->yb p.body=true){n}(i:yb n=true):qG ts (vG ts n)<=200000:=by
 have j:∀(l:List Pd)(J:List (dC×Bool)),(∀ p,p∈l->yb p.body=true)->(l.foldl (fun J p=>putN J (preN p.body)) J).length<=J.length+400*l.length:=by
  intro l;induction l with
  |nil=>intro J _;simp
  |cons a l o =>
   grind [putN,preN,q9,qdM,Vs,Z9,zo]
 have t:=j ts.sT (putN [] (preN n)) g;have C:=qdM (preN n) [];have I:=Vs n;have P:=(Z9.1 i).2.2.1;have:=h.np;have:=h.nf;have:=h.ns
 grind [qG,vG,List.length_nil]
end PF
namespace KG
open Y1 Y9 Y10 P1 P2 PF PE KA KB KE KF
section
variable {c:Ck}
def Fm(c:Ck)(n:Nd):Prop:=WfN n/\kd n.op=102/\∃ b g,exam c [] b n = .ok g
theorem ku{op}(h:kd op=102):30<=op/\op<=51:=by
 grind [kd]
theorem kv{n}(h:Fm c n)(o:n.op≠45/\n.op≠46/\n.op≠47):∃ b l i,zq c [] b n.sD = .ok l/\zE c.ts.sS.length n.op n.n n.pos l = .ok i:=by
 obtain⟨p,j,b,i,g⟩:=h;have t:=ku j;rw[vy]at g;split at g
 .cases g
 rw[zIn,zIn,zIn]at g
 grind
theorem Vt{n}(h:Fm c n)(i:n.op≠45/\n.op≠46/\n.op≠47){k}(g:k∈n.sD)(j:kd k.op=102):Fm c k:=by
 obtain⟨b,l,t,o,_⟩:=kv h i;obtain⟨a,p⟩:=U9 o k g;exact⟨h.1.kid g,j,b,a,p⟩
theorem qdO(i:okCk c){n}(h:Fm c n):TyK (arS c []) n:=by
 have j:ScOk c.ts.sS.length []:=fun v hv=>absurd hv qO
 refine⟨fun o=>?_,fun o=>?_⟩
 .obtain ⟨b,l,ko,p,_⟩:=kv h zOm
  obtain⟨k,g,t⟩:=Qx (a:=101) h.1 (by unfold shp;rw[zIn,if_pos zOm]);rw[g]at p;obtain⟨q,rfl,C⟩:=exL1 p;have I:=h.1.kid (k:=k) (by rw[g];simp);obtain⟨a,rfl,_⟩:=jH i _ k [] b q (qn _) I j C t;exact⟨k,a.ar,g,Jc i _ k [] b a (qn _) I j C t⟩
 .obtain ⟨b,l,ko,p,T⟩:=kv h zOm
  obtain⟨k,U,g,t,J⟩:=wT (a:=101) (b:=101) h.1 (by unfold shp;rw[zIn,zIn,if_pos zOm]);rw[g]at p;obtain⟨q,q',rfl,C,P⟩:=exL2 p;have I:=h.1.kid (k:=k) (by rw[g];simp);have R:=h.1.kid (k:=U) (by rw[g];simp);obtain⟨a,rfl,_⟩:=jH i _ k [] b q (qn _) I j C t;obtain⟨a',rfl,_⟩:=jH i _ U [] b q' (qn _) R j P J;have e:a.ar=a'.ar:=by
   unfold zE at T;rw[zIn,zIn,zIn]at T;simp only at T;rw[if_pos zOm]at T
   grind
  exact⟨k,U,a.ar,g,Jc i _ k [] b a (qn _) I j C t,by rw[e];exact Jc i _ U [] b a' (qn _) R j P J⟩
theorem qdP(g:okCk c){n}(h:Fm c n):TyC (arS c []) n:=by
 refine⟨qdO g h,fun o=>?_⟩;obtain⟨m,i,km⟩:=Qx (a:=102) h.1 (by simp_all[shp,if_neg,if_pos])
 grind [qdO,Vt,km]
theorem kw:∀ m n g,szN n<=m->Fm c n->Fm c (jf n g).1/\(jf n g).1.op≠48
 | 0,n,g,l,_=>by obtain⟨op,nm,i,ks,p⟩:=n;simp[szN]at l
 |m+1,n,g,l,h=>by
  by_cases o:n.op=48
  .obtain ⟨k,j,t⟩:=Qx (a:=102) h.1 (by simp_all[shp,if_neg,if_pos])
   have e:jf n g=jf k true:=by
    obtain⟨op,nm,i,ks,p⟩:=n;simp only[Nd.op,Nd.sD]at o j;rw[jf,if_pos o,j,UV]
   rw[e];have:=zl (n:=n) (k:=k) (by rw[j];simp);exact kw m k true zOm (Vt h zOm (by rw[j];simp) t)
  .have e:jf n g=(n,g):=by
    obtain⟨op,nm,i,ks,p⟩:=n;simp only[Nd.op]at o;rw[jf,if_neg o]
   grind
theorem qpD(n):conj n=if n.op=41 then (n.sD.map conj).getD 0 []++(n.sD.map conj).getD 1 [] else if n.op=48 then ((n.sD.map conj).getD 0 []).map (uF n.pos) else [n]:=by
 obtain⟨op,nm,i,ks,p⟩:=n;have:∀ ks:List Nd,u3 ks=ks.map conj:=fun ks=>by
  induction ks with
  |nil=>rfl
  |cons k ks g=>rw[u3,g];rfl
 rw[conj,this];rfl
def FmA(c:Ck)(n:Nd):Prop:=Fm c n\/(n.op=48/\∃ k,n.sD=[k]/\Fm c k)
theorem qpE(j:okCk c){n}(h:FmA c n)(g):TyC (arS c []) (jf n g).1:=by
 rcases h with h|⟨o,k,l,h⟩
 .exact qdP j (kw _ n g (qn _) h).1
 .have e:jf n g=jf k true:=by
   obtain⟨op,nm,i,ks,p⟩:=n;simp only[Nd.op,Nd.sD]at o l;rw[jf,if_pos o,l,UV]
  rw[e];exact qdP j (kw _ k true (qn _) h).1
theorem Wb:∀ m n,szN n<=m->Fm c n->∀ x,x∈conj n->FmA c x
 | 0,n,t,_=>by obtain⟨op,nm,i,ks,p⟩:=n;simp[szN]at t
 |m+1,n,t,h=>fun x g=>by
  rw[qpD]at g;split at g
  .rename_i o
   obtain⟨a,b,j,l,C⟩:=wT (a:=102) (b:=102) h.1 (by simp_all[shp,if_neg,if_pos]);rw[j]at g;have I:=zl (n:=n) (k:=a) (by rw[j];simp);have P:=zl (n:=n) (k:=b) (by rw[j];simp);simp only[zf,List.map_nil,vh,List.getD_cons_succ]at g;rcases qP.1 g with g|g
   .exact Wb m a zOm (Vt h zOm (by rw[j];simp) l) x g
   .exact Wb m b zOm (Vt h zOm (by rw[j];simp) C) x g
  split at g
  .rename_i o
   obtain⟨a,j,l⟩:=Qx (a:=102) h.1 (by simp_all[shp,if_neg,if_pos]);rw[j]at g;have I:=zl (n:=n) (k:=a) (by rw[j];simp);simp only[zf,List.map_nil,vh]at g;obtain⟨y,J,rfl⟩:=qp.1 g;have hf:=Wb m a zOm (Vt h zOm (by rw[j];simp) l) y J;unfold uF;split
   .exact hf
   .rename_i R
    rcases hf with hf|⟨T,_⟩
    .exact .inr ⟨rfl,y,rfl,hf⟩
    omega
  .simp at g;subst g;exact .inl h
theorem qpF{ts}(h:okTS ts){n}(l:WfN n)(o:(jE ts [] n).1=0):TyL (arT ts) (conj n):=fun x p g=>by
 have i:okCk (mkCk ts ts.sT.length):=uD h (qn _);obtain⟨j,t,C⟩:=Wa o;exact qpE i (Wb _ n (qn _) ⟨l,qdB l j,false,t,C⟩ x p) g
end
end KG
namespace KT
open Q6 Y1 Y2 Y9 P1 P2 E1 E2 E3 E7 E8 EA KB KE KG
def EnvR(s:Scp)(env:List (dC×Int)):Prop:=∀ nm,(zK nm s=[]/\vQ nm env=none)\/∃ v r a,zK nm s=v :: r/\v.2.ar=1/\vQ nm env=some a
theorem qpG(nm env e):vQ nm (env++[e])=if e.1=nm then some e.2 else vQ nm env:=by
 unfold vQ;rw[uI];rfl
theorem EnvR.bind{s env}(h:EnvR s env)(nm k)(g:k.ar=1)(a):EnvR ((nm,k) :: s) (env++[(nm,a)]):=fun x=>by
 rw[qpG];by_cases e:nm=x
 .grind [zK]
 .simp only[zK,e,if_false]
  exact h x
def ArM(x:Mo)(N:Nat):Prop:=∀ s,s<N->∀(i:Nat)(h:i<(x.m.sK.getD s []).length)(g:i<x.ts.sA.length),((x.m.sK.getD s [])[i]).ar=x.ts.sA[i].sS.length
theorem qdQ(nm):∀ fs rs,rs.length=fs.length->(∀(i h)(j:i<fs.length),rs[i].ar=fs[i].sS.length)->(yU fs rs nm).map Rl.ar=(z7 fs nm).map Kd.ar
 | [],[],_,_=>rfl
 |f :: fs,r :: rs,l,h=>by
  have g:=qdQ nm fs rs (zUs l) fun i p j=>h (i+1) zSo zSo
  have o:r.ar=f.sS.length:=h 0 zSp zSp;unfold yU z7 at g⊢;by_cases e:f.name=nm
  .simp [e,g,o,kOf]
  .simpa [e] using g
theorem qdR(x nm):∀ so i,(yu x nm i so).map Rl.ar=(yr i so nm).map Kd.ar
 | [],i=>rfl
 |s :: so,i=>by
  rw[yu,yr,vO,zi,zi,zi,zi,zi,zi,qdR x nm so (i+1),zL,zL];congr 1
  .split<;>rfl
  congr 1
  .split<;>rfl
  congr 1
  .split<;>rfl
theorem qpH{x N}(C:OkM x N)(I:ArM x N){c}(J:c.ts=x.ts){s p}(o:OkP x N p)(P:EnvR s p.env){nm pos t}(h:yQ c s nm pos = .ok t):∃ r k,wN x p nm = .ok r/\t=some k/\r.ar=k.ar:=by
 unfold yQ at h;unfold wN;rcases P nm with ⟨i,j⟩|⟨v,r,a,i,j,R⟩
 .rw [i]at h
  rw[j];simp only at h⊢;have l:=C.st p.st o.st;have g:(yU x.ts.sA (x.m.sK.getD p.st []) nm++yu x nm 0 x.ts.sS).map Rl.ar=(zS c.ts nm).map Kd.ar:=by
   rw[J,zS,zi,zi,qdQ nm _ _ l.1 (I p.st o.st),qdR]
  cases T:zS c.ts nm with
  |nil=>grind
  |cons k r =>
   rw[T]at h g;cases r with
   |nil =>
    simp only[y9]at h
    match U:yU x.ts.sA (x.m.sK.getD p.st []) nm++yu x nm 0 x.ts.sS,g with
    | [r],g=>exact⟨r,k,rfl,h.symm,zUs g⟩
    | [],g=>simp at g
    |_ :: _ :: _,g=>simp at g
   |cons=>cases h
 .rw [i]at h
  rw[R];simp only[y9]at h;exact⟨_,v.2,rfl,h.symm,j.symm⟩
theorem kz{C i}{g:C->XE i}:∀{l},(∀ a,a∈l->∃ b,g a = .ok b)->∃ r,mapX g l = .ok r
 | [],_=>⟨[],rfl⟩
 |a :: l,h=>by
  obtain⟨b,o⟩:=h a zSp;obtain⟨r,p⟩:=kz (l:=l) fun x j=>h x (zP1 j)
  grind [mapX,bX]
def NoC(n:Nd):Prop:=anyN (fun n=>decide (n.op=47)) n=false
theorem NoC.kid{n k}(h:NoC n)(g:k∈n.sD):NoC k:=by
 obtain⟨op,nm,i,ks,p⟩:=n;unfold NoC at h⊢;rw[anyN]at h;simp only[Bool.or_eq_false_iff]at h;cases j:anyN (fun n=>decide (n.op=47)) k with
 |false=>rfl
 |true =>
  have:vB (fun n=>decide (n.op=47)) ks=true:=PA.qcE.2 ⟨k,g,j⟩;rw[h.2]at this;cases this
theorem NoC.op{n}(h:NoC n):n.op≠47:=by
 obtain⟨op,nm,i,ks,p⟩:=n
 grind [NoC,anyN,Bool.or_eq_false_iff,decide_eq_false_iff_not]
def Val(x:Mo)(n:Nd)(p:Pl)(g:Option Kd):Prop:=(kd n.op=101->∃ r k,(den x n).E p = .ok r/\g=some k/\r.ar=k.ar)/\(kd n.op=105->∃ i,(den x n).N p = .ok i)/\(kd n.op=102->∃ b,(den x n).F p = .ok b)
theorem qdS{x N}(hM:OkM x N)(hA:ArM x N){c}(hc:okCk c)(ht:c.ts=x.ts):∀ m n s inn ko p,szN n<=m->WfN n->NoC n->ScOk c.ts.sS.length s->OkP x N p->EnvR s p.env->exam c s inn n = .ok ko->Val x n p ko
 | 0,n,_,_,_,_,hm,_,_,_,_,_,_=>by obtain⟨op,nm,i,ks,p⟩:=n;simp[szN]at hm
 |m+1,n,s,inn,ko,p,hm,hw,hn,J,C,T,h=>by
  have ih:∀{k:Nd},k∈n.sD->∀(s:Scp)(inn:Bool)(ko:Option Kd)(p:Pl),ScOk c.ts.sS.length s->OkP x N p->EnvR s p.env->exam c s inn k = .ok ko->Val x k p ko:=fun {k} g s inn ko p J C T h=>qdS hM hA hc ht m k s inn ko p (zW1 (zl g)) (hw.kid g) (hn.kid g) J C T h
  have a7:=C.nx hM;have d0:=vw x n;have ae:=hn.op;rw[vy]at h;split at h
  .cases h
  split at h
  .rename_i o
   obtain⟨r,k,P,e2,e3⟩:=qpH hM hA ht C T h;refine⟨fun _=>⟨r,k,?_,e2,e3⟩,fun q=>?_,fun q=>?_⟩
   .simp_all [opD,opE]
   .grind [kd]
   grind [kd]
  split at h
  .rename_i ob
   obtain⟨a,f,g,I,kf⟩:=wT (a:=101) (b:=102) hw (by unfold shp;rw[zIn,zIn,zIn,if_pos zOm]);have U:=ih (k:=a) (by rw[g];simp);have hf:=ih (k:=f) (by rw[g];simp);rw[g]at h;simp only[jj]at h;cases hq:exam c s (inn||decide (n.op=15)) a with
   |error e=>grind
   |ok q =>
    rw[hq]at h;obtain⟨d,k,P,rfl,e3⟩:=(U s _ q p J C T hq).1 I;simp only at h;split at h
    .rename_i k1
     split at h
     .cases h
     .rename_i l R
      simp only[y9]at h;subst h;obtain⟨q',rfl,a9⟩:=exL1 R;have gd:=YO hM _ a (qn _) (hw.kid (by rw[g];simp)) p d C P;have af:okKd c.ts.sS.length k:=by
       obtain⟨k',e,ok⟩:=jH hc _ a s _ _ (qn _) (hw.kid (by rw[g];simp)) J hq I;cases e;exact ok
      have d1:d.ar=1:=e3.trans k1;have aa:∃ l,jS [den x a,den x f] n.name p = .ok l:=by
       unfold jS;simp only[kD,vh,List.getD_cons_succ];rw[P];simp only[bX];rw[if_pos d1];refine kz fun t hT=>?_
       have hv:=gd.val t hT;rw[d1,vP]at hv;obtain⟨b,hb⟩:=(hf ((n.name,k) :: s) _ q' ⟨p.st,p.env++[(n.name,t)]⟩ (fun v a4=>by
        rcases qz.1 a4 with rfl|a4
        .grind
        .exact J v a4) (C.bind hv) (T.bind n.name k k1 t) a9).2.2 kf
       simp_all
      obtain⟨l,a8⟩:=aa;rw[g]at d0;refine⟨fun q=>?_,fun q=>?_,fun q=>?_⟩
      .have o:n.op=15:=by have:=YN q;omega
       exact⟨_,k,by rw[d0];simp[opD,opE,o,a8,bX];rfl,rfl,k1.symm⟩
      .grind [kd]
      .have o:=ku q
       rcases (show n.op=45\/n.op=46 by omega) with o|o
       .simp_all [opD,opF,bX]
       simp_all[opD,opF,bX]
    .cases h
  .rename_i n1 nb
   cases R:zq c s (inn||decide (n.op=12)||decide (n.op=13)) n.sD with
   |error e=>grind
   |ok l =>
    rw[R]at h;simp only at h;refine⟨fun q=>?_,fun q=>?_,fun q=>?_⟩
    .have o:=YN q
     by_cases o2:n.op=2
     .simp [zE,o2]at h;subst h;exact⟨_,_,by rw[d0];simp[opD,opE,o2];rfl,rfl,rfl⟩
     by_cases o3:n.op=3
     .simp [zE,o3]at h;subst h;exact⟨_,_,by rw[d0];simp[opD,opE,o3];rfl,rfl,rfl⟩
     by_cases o4:n.op=4
     .simp [zE,o4]at h;subst h;exact⟨_,_,by rw[d0];simp[opD,opE,o4];rfl,rfl,rfl⟩
     by_cases u:n.op=5\/n.op=11\/n.op=12\/n.op=13
     .obtain ⟨a,g,I⟩:=Qx (a:=101) hw (by unfold shp;rw[zIn,if_pos zOm])
      have U:=ih (k:=a) (by rw[g];simp);rw[g]at R d0;obtain⟨qa,rfl,j⟩:=exL1 R;by_cases o5:n.op=5
      .obtain ⟨r,k,P,rfl,e3⟩:=(U s _ qa ⟨x.nx p.st,p.env⟩ J a7 T j).1 I
       simp[zE,o5]at h;subst h;exact⟨r,k,by rw[d0];simp[opD,opE,o5,kD,P],rfl,e3⟩
      obtain⟨r,k,P,rfl,e3⟩:=(U s _ qa p J C T j).1 I;simp only[zE,if_neg o2,if_neg o3,if_neg o4,if_neg o5,if_pos (show n.op=11\/n.op=12\/n.op=13 by omega)]at h;split at h
      .rename_i k2
       simp only[y9]at h;subst h;have ab:r.ar=2:=e3.trans k2;have gr:=YO hM _ a (qn _) (hw.kid (by rw[g];simp)) p r C P;have cl:=(aR hM.n0 200 gr ab).2;obtain⟨k',e,ok⟩:=jH hc _ a s _ _ (qn _) (hw.kid (by rw[g];simp)) J j I;cases e;have ck:=(YK ok k2).2;have hb:binE [den x a] p = .ok r:=by grind [binE,kD,bX]
       rcases (show n.op=11\/n.op=12\/n.op=13 by omega) with o|o|o
       .exact ⟨_,_,by rw[d0];simp[opD,opE,o,hb,bX];rfl,rfl,by simp[binK,o,kTr,trR]⟩
       .exact ⟨_,_,by rw[d0];simp[opD,opE,o,hb,bX];rfl,rfl,by simp[binK,o];rw[ck];exact cl⟩
       .exact ⟨_,_,by rw[d0];simp[opD,opE,o,hb,bX];rfl,rfl,by simp[binK,o,kSum,unR];rw[ck];exact cl⟩
      .cases h
     .obtain ⟨a,b,g,I,kb⟩:=wT (a:=101) (b:=101) hw (by unfold shp;rw[zIn,zIn,if_pos zOm])
      have U:=ih (k:=a) (by rw[g];simp);have hb:=ih (k:=b) (by rw[g];simp);rw[g]at R d0;obtain⟨qa,qb,rfl,j,a0⟩:=exL2 R;obtain⟨r,k,P,rfl,e3⟩:=(U s _ qa p J C T j).1 I;obtain⟨r',k',a5,rfl,a2⟩:=(hb s _ qb p J C T a0).1 kb;simp only[zE,if_neg o2,if_neg o3,if_neg o4]at h;split at h
      .rename_i al
       split at h
       .rename_i ea
        simp only[y9]at h;subst h;have a1:yv [den x a,den x b] p = .ok (r,r'):=by grind [yv,kD,bX]
        have a3:(un n.op k k').ar=k.ar:=by grind [un,kSum,JY]
        rcases (show n.op=6\/n.op=7\/n.op=8\/n.op=14 by omega) with o|o|o|o
        .exact ⟨_,_,by rw[d0];simp[opD,opE,o,a1,bX];rfl,rfl,by rw[a3];exact e3⟩
        .exact ⟨_,_,by rw[d0];simp[opD,opE,o,a1,bX];rfl,rfl,by rw[a3];exact e3⟩
        .exact ⟨_,_,by rw[d0];simp[opD,opE,o,a1,bX];rfl,rfl,by rw[a3];exact e3⟩
        .exact ⟨_,_,by rw[d0];simp[opD,opE,o,a1,bX];rfl,rfl,by rw[a3,ea];exact a2⟩
       .cases h
      split at h
      .rename_i o
       split at h
       .rename_i hr
        simp only[y9]at h;subst h;exact⟨_,_,by rw[d0];simp[opD,opE,o,kD,P,a5,bX,js,e3,a2,hr];rfl,rfl,by grind [joR,zM]⟩
       .cases h
      split at h
      .rename_i o
       split at h
       .rename_i hr
        simp only[y9]at h;subst h;exact⟨_,_,by rw[d0];simp[opD,opE,o,kD,P,a5,bX,jG,e3,a2,hr];rfl,rfl,by grind [prR,Zi]⟩
       .cases h
      .omega
    .have o:20<=n.op/\n.op<=23:=by grind [kd]
     by_cases ag:n.op=20
     .simp_all [opD,opN]
     by_cases ah:n.op=21
     .obtain ⟨a,g,I⟩:=Qx (a:=101) hw (by simp_all[shp,if_neg,if_pos])
      have U:=ih (k:=a) (by rw[g];simp);rw[g]at R d0;obtain⟨qa,rfl,j⟩:=exL1 R;obtain⟨r,k,P,rfl,e3⟩:=(U s _ qa p J C T j).1 I;simp_all[opD,opN,kD,bX]
     .obtain ⟨a,b,g,I,kb⟩:=wT (a:=105) (b:=105) hw (by unfold shp;rw[zIn,zIn,zIn,zIn,if_pos zOm])
      have U:=ih (k:=a) (by rw[g];simp);have hb:=ih (k:=b) (by rw[g];simp);rw[g]at R d0;obtain⟨qa,qb,rfl,j,a0⟩:=exL2 R;obtain⟨u,P⟩:=(U s _ qa p J C T j).2.1 I;obtain⟨v,e2⟩:=(hb s _ qb p J C T a0).2.1 kb;rcases (show n.op=22\/n.op=23 by omega) with o|o
      .simp_all [opD,opN,kD,bX]
      simp_all[opD,opN,kD,bX]
    .have o:=ku q
     by_cases ai:n.op=30
     .simp_all [opD,opF]
     by_cases aj:n.op=31
     .simp_all [opD,opF]
     by_cases u:n.op=34\/n.op=35\/n.op=36\/n.op=37
     .obtain ⟨a,g,I⟩:=Qx (a:=101) hw (by unfold shp;rw[zIn,if_pos zOm])
      have U:=ih (k:=a) (by rw[g];simp);rw[g]at R d0;obtain⟨qa,rfl,j⟩:=exL1 R;obtain⟨r,k,P,rfl,e3⟩:=(U s _ qa p J C T j).1 I;rcases u with o|o|o|o
      .simp_all [opD,opF,kD,bX]
      .simp_all [opD,opF,kD,bX]
      .simp_all [opD,opF,kD,bX]
      simp_all[opD,opF,kD,bX]
     by_cases v:n.op=32\/n.op=33
     .obtain ⟨a,b,g,I,kb⟩:=wT (a:=101) (b:=101) hw (by unfold shp;rw[zIn,zIn,if_pos zOm])
      have U:=ih (k:=a) (by rw[g];simp);have hb:=ih (k:=b) (by rw[g];simp);rw[g]at R d0;obtain⟨qa,qb,rfl,j,a0⟩:=exL2 R;obtain⟨r,k,P,rfl,e3⟩:=(U s _ qa p J C T j).1 I;obtain⟨r',k',a5,rfl,a2⟩:=(hb s _ qb p J C T a0).1 kb;have ea:k.ar=k'.ar:=by
       unfold zE at h;rw[zIn,zIn,zIn]at h;simp only at h;rw[if_pos zOm]at h;split at h
       .assumption
       .cases h
      have a1:yv [den x a,den x b] p = .ok (r,r'):=by grind [yv,kD,bX]
      rcases v with o|o
      .simp_all [opD,opF,bX]
      simp_all[opD,opF,bX]
     by_cases w:n.op=38\/n.op=39
     .obtain ⟨a,b,g,I,kb⟩:=wT (a:=105) (b:=105) hw (by unfold shp;rw[zIn,zIn,zIn,zIn,if_pos zOm])
      have U:=ih (k:=a) (by rw[g];simp);have hb:=ih (k:=b) (by rw[g];simp);rw[g]at R d0;obtain⟨qa,qb,rfl,j,a0⟩:=exL2 R;obtain⟨u,P⟩:=(U s _ qa p J C T j).2.1 I;obtain⟨v,e2⟩:=(hb s _ qb p J C T a0).2.1 kb;rcases w with o|o
      .simp_all [opD,opF,kD,bX]
      simp_all[opD,opF,kD,bX]
     by_cases y:n.op=40\/n.op=48\/n.op=49\/n.op=50
     .obtain ⟨a,g,I⟩:=Qx (a:=102) hw (by unfold shp;rw[zIn,zIn,zIn,zIn,zIn,if_pos zOm])
      have U:=ih (k:=a) (by rw[g];simp);rw[g]at R d0;obtain⟨qa,rfl,j⟩:=exL1 R;have any:∀ t,t<N->∃ b,(den x a).F ⟨t,p.env⟩ = .ok b:=fun t hT=>(U s _ qa ⟨t,p.env⟩ J ⟨hT,C.env⟩ T j).2.2 I
      have ad:∃ l,mapX (fun s=>(den x a).F ⟨s,p.env⟩) (x.path p.st) = .ok l:=kz fun t hT=>by
       obtain⟨k,rfl⟩:=X9 hM.toOkX C.st hT;exact any _ (Va hM.toOkX C.st k)
      obtain⟨l,a8⟩:=ad;obtain⟨b,hb⟩:=any p.st C.st;obtain⟨b',a6⟩:=any (x.nx p.st) a7.st;rcases y with o|o|o|o
      .exact ⟨!b,by rw[d0];simp[opD,opF,o,kD,hb,bX]⟩
      .simp_all [opD,opF,kD,bX]
      .simp_all [opD,opF,kD,bX]
      .exact ⟨_,by rw[d0];simp[opD,opF,o,kD,a6,bX];rfl⟩
     .obtain ⟨a,b,g,I,kb⟩:=wT (a:=102) (b:=102) hw (by unfold shp;rw[zIn,zIn,zIn,zIn,zIn,zIn,if_pos zOm])
      have U:=ih (k:=a) (by rw[g];simp);have hb:=ih (k:=b) (by rw[g];simp);rw[g]at R d0;obtain⟨qa,qb,rfl,j,a0⟩:=exL2 R;have any:∀ t,t<N->(∃ b,(den x a).F ⟨t,p.env⟩ = .ok b)/\∃ c,(den x b).F ⟨t,p.env⟩ = .ok c:=fun t hT=>⟨(U s _ qa ⟨t,p.env⟩ J ⟨hT,C.env⟩ T j).2.2 I,(hb s _ qb ⟨t,p.env⟩ J ⟨hT,C.env⟩ T a0).2.2 kb⟩
      obtain⟨⟨u,P⟩,v,e2⟩:=any p.st C.st;have unt:∀(l:List Nat)(d f:Bool),(∀ t,t∈l->t<N)->∃ b',untX (fun s=>(den x a).F ⟨s,p.env⟩) (fun s=>(den x b).F ⟨s,p.env⟩) l d f = .ok b':=fun l=>by
       induction l with
       |nil=>exact fun d f _=>⟨d,rfl⟩
       |cons t l ih =>
        intro d f hT;obtain⟨⟨u,P⟩,v,e2⟩:=any t (hT t zSp);rw[untX,P,zr,e2,zr];exact ih _ _ fun y hy=>hT y (zP1 hy)
      rcases (show n.op=41\/n.op=42\/n.op=43\/n.op=44\/n.op=51 by omega) with o|o|o|o|o
      .exact ⟨_,by rw[d0];simp[opD,opF,o,kD,P,e2,bX];rfl⟩
      .simp_all [opD,opF,kD,bX]
      .exact ⟨_,by rw[d0];simp[opD,opF,o,kD,P,e2,bX];rfl⟩
      .exact ⟨_,by rw[d0];simp[opD,opF,o,kD,P,e2,bX];rfl⟩
      .obtain ⟨b',a6⟩:=unt (x.path p.st) false false fun t hT=>by
        obtain⟨k,rfl⟩:=X9 hM.toOkX C.st hT;exact Va hM.toOkX C.st k
       exact⟨b',by rw[d0];simp[opD,opF,o,kD,a6]⟩
end KT
namespace KH
open Y1 P1 P2 E1 E2 E3 EA EC KA KB KC KD KE
def InB(x:Mo)(N:Nat)(bs:List Bd):Prop:=∀ s,s<N->∀(i:Nat)(h:i<bs.length)(g:i<(x.m.sK.getD s []).length),(x.m.sK.getD s [])[i].ar=bs[i].lo.ar/\le bs[i].lo (x.m.sK.getD s [])[i]/\le (x.m.sK.getD s [])[i] bs[i].up
def EnvV(env:List (dC×Bd))(pe:List (dC×Int)):Prop:=∀ nm,(jJ nm env=none/\vQ nm pe=none)\/∃ b a,jJ nm env=some b/\vQ nm pe=some a/\b.lo.ar=1/\le b.lo ⟨1,[a]⟩/\le ⟨1,[a]⟩ b.up
abbrev nsOf(x:Mo)(bs:List Bd):Ns:=⟨x.ts,x.m.sc,bs⟩
theorem qdT{nm}:∀{fs bs rs},bs.length=fs.length->rs.length=fs.length->(je nm fs bs=none/\yU fs rs nm=[])\/∃(i:Nat) (h:i<bs.length) (g:i<rs.length) (l:List Rl),je nm fs bs=some bs[i]/\yU fs rs nm=rs[i] :: l
 | [],[],[],_,_ => .inl ⟨rfl,rfl⟩
 |f :: fs,b :: bs,r :: rs,h,k=>by
  by_cases e:f.name=nm
  .exact .inr ⟨0,zSp,zSp,yU fs rs nm,by simp[je,e],by simp[yU,e]⟩
  .have j:je nm (f :: fs) (b :: bs)=je nm fs bs:=by simp[je,e]
   have o:yU (f :: fs) (r :: rs) nm=yU fs rs nm:=by simp[yU,e]
   rw[j,o];rcases qdT (nm:=nm) (fs:=fs) (bs:=bs) (rs:=rs) (zUs h) (zUs k) with h|⟨i,p,g,l,a,b⟩
   .exact .inl h
   .exact .inr ⟨i+1,zSo,zSo,l,zUs a,zUs b⟩
theorem qdU{x}(h:ScN x.ts x.m.sc)(nm):∀ so i,i+so.length<=x.ts.sS.length->∀ r l,yu x nm i so=r :: l->wQ x.m.sc nm i so=exR r
 | [],i,_,r,l,g=>by cases g
 |s :: so,i,o,r,l,g=>by
  simp only[yy]at o;have j:i<x.m.sc.sC.length:=zW1 h.ns;obtain⟨p,t,C⟩:=h.le j;rw[yu]at g;rw[wQ];by_cases c1:s.1=nm
  .rw [if_pos c1]at g⊢
   simp only[yq,y8,vK]at g;rw[<-g.1];rfl
  rw[if_neg c1]at g⊢;by_cases c2:s.2=true/\s.1++yP=nm
  .rw [if_pos c2]at g⊢
   simp only[yq,y8,vK]at g;rw[<-g.1];have:(zt x i).take 1=[sumI (x.m.sc.sC.take i)]:=by
    unfold zt;rw[ji j];obtain⟨k,I⟩:∃ k,x.m.sc.sC[i].toNat=k+1:=⟨x.m.sc.sC[i].toNat-1,zOm⟩
    grind [List.range_succ_eq_map]
   rw[this]
  rw[if_neg c2]at g⊢;by_cases c3:s.2=true/\s.1++jq=nm
  .rw [if_pos c3]at g⊢
   simp only[yq,y8,vK]at g;rw[<-g.1];rfl
  rw[if_neg c3]at g⊢;exact qdU h nm so (i+1) zOm r l (zUs g)
theorem qpI{x N}(I:OkM x N)(J:ScN x.ts x.m.sc){bs}(P:bs.length=x.ts.sA.length)(hB:InB x N bs){env p}(j:OkP x N p)(R:EnvV env p.env){nm r}(h:wN x p nm = .ok r):r.ar=(zG (nsOf x bs) env nm).lo.ar/\le (zG (nsOf x bs) env nm).lo r/\le r (zG (nsOf x bs) env nm).up:=by
 unfold wN at h;unfold zG;rcases R nm with ⟨o,t⟩|⟨b,a,o,t,e5,e3,e4⟩
 .rw [t]at h
  rw[o];simp only at h⊢;have g:=(I.st p.st j.st).1;rcases qdT (nm:=nm) P g with ⟨f1,f2⟩|⟨i,T,U,l,f1,f2⟩
  .rw [f1]
   rw[f2,y8]at h
   match C:yu x nm 0 x.ts.sS,h with
   | [q],h =>
    cases h;simp only;rw[qdU J nm x.ts.sS 0 zOm _ _ C];exact⟨rfl,le.rfl' _,le.rfl' _⟩
  .rw [f1]
   rw[f2,yq]at h
   match C:l++yu x nm 0 x.ts.sS,h with
   | [],h =>
    cases h;exact hB p.st j.st i T U
   |_ :: _,h=>cases h
 grind
theorem qpJ{x N}(hM:OkM x N)(hS:ScN x.ts x.m.sc){bs}(hl:bs.length=x.ts.sA.length)(hB:InB x N bs){env A}(hA:∀ nm a,A nm=some a->okI x.n a (zG (nsOf x bs) env nm)){n a}(h:ArN A n a) :
  WfN n->∀ p r,OkP x N p->EnvV env p.env->(den x n).E p = .ok r->r.ar=a/\le (ivl (nsOf x bs) env n).lo r/\le r (ivl (nsOf x bs) env n).up:=by
 have h0:=hM.n0;have gr:∀{k:Nd}{p:Pl}{r:Rl},WfN k->OkP x N p->(den x k).E p = .ok r->GR x.n r:=fun {k p r} J C e=>YO hM _ k (qn _) J p r C e
 have iv:∀{k:Nd}{a:Int},ArN A k a->okI x.n a (ivl (nsOf x bs) env k):=fun h=>UW (σ:=nsOf x bs) h0 hA h
 induction h with
 |name j h =>
  intro J p r C P e;rw[vw]at e;simp only[opD,opE,j,if_true]at e;rw[yV];simp only[opI,if_pos j];have:=qpI hM hS hl hB C P e;exact⟨this.1.trans (hA _ _ h).la,this.2⟩
 |none j h =>
  intro J p r C P e;rw[vw]at e;simp[opD,opE,j]at e
  grind [yV,opI,le.rfl']
 |univ j =>
  intro J p r C P e;rw[vw]at e;simp[opD,opE,j]at e;subst e;rw[yV];simp[opI,j];have:(KA.allN (nsOf x bs).n 1).ts=(qu x.n.toNat).map fun k:Nat=>(k:Int):=by simp[KA.allN,Ns.n,Mo.n,Int.pow_succ]
  exact⟨fun t ht=>by grind,fun t ht=>by grind⟩
 |iden j =>
  intro J p r C P e;rw[vw]at e;simp[opD,opE,j]at e;subst e;rw[yV];simp[opI,j];exact⟨rfl,le.rfl' _,le.rfl' _⟩
 | @prime n k a j i h ih =>
  intro J p r C P e;rw[vw,i]at e;simp[opD,opE,j,kD]at e;rw[yV];simp[opI,j,i];exact ih (J.kid (by rw[i];simp)) ⟨x.nx p.st,p.env⟩ r (C.nx hM) P e
 | @bin n k j i h ih =>
  intro J p r C P e;have I:=J.kid (k:=k) (by rw[i];simp);rw[vw,i]at e;rw[yV,i];obtain⟨l,u,la,ua⟩:=iv h;rcases (show n.op=11\/n.op=12\/n.op=13 by omega) with o|o|o<;>simp[opD,opE,o]at e<;>simp[opI,o]
  all_goals
   obtain⟨v,e1,e2⟩:=yz e;obtain⟨e3,v2⟩:=ZZ e1;simp[kD]at e3;have g:=gr I C e3;obtain⟨_,i1,i2⟩:=ih I p v C P e3;cases e2
  .exact ⟨rfl,qbY i1,qbY i2⟩
  .exact ⟨(aR h0 200 g v2).2,UY h0 hM.n12 l g la v2 i1,UY h0 hM.n12 g u v2 ua i2⟩
  .exact ⟨(aR h0 200 g v2).2,Jg (UY h0 hM.n12 l g la v2 i1) (le.rfl' _),Jg (UY h0 hM.n12 g u v2 ua i2) (le.rfl' _)⟩
 | @alike n k k' a j i hx hy a0 a1 =>
  intro J p r C P e;have I:=J.kid (k:=k) (by rw[i];simp);have R:=J.kid (k:=k') (by rw[i];simp);rw[vw,i]at e;rw[yV,i];obtain⟨l,u,la,ua⟩:=iv hx;obtain⟨l',u',T,U⟩:=iv hy;rcases j with o|o|o|o<;>simp[opD,opE,o]at e<;>simp[opI,o,map2]
  all_goals
   obtain⟨q,e1,e2⟩:=yz e;obtain⟨e3,e4,e5⟩:=uW e1;simp[kD]at e3 e4;obtain⟨j1,i1,i2⟩:=a0 I p q.1 C P e3;obtain⟨j2,i3,i4⟩:=a1 R p q.2 C P e4;cases e2
  .exact ⟨j1,Jg i1 i3,Jg i2 i4⟩
  .exact ⟨j1,qbU i1 i3,qbU i2 i4⟩
  .exact ⟨j1,qbV i1 i4,qbV i2 i3⟩
  .have ke:ovR x.n q.1 q.2=unR q.2 (j7 x.n q.1 q.2):=by unfold ovR j7;rw[e5]
   rw[ke];exact⟨j2,Jg i3 (qbZ i1 i4 (j2.trans U.symm).symm.symm.symm (la.trans j1.symm)),Jg i4 (qbZ i2 i3 (j2.trans T.symm) (j1.trans ua.symm))⟩
 | @join n k k' a b j i hx hy h a0 a1 =>
  intro J p r C P e;have I:=J.kid (k:=k) (by rw[i];simp);have R:=J.kid (k:=k') (by rw[i];simp);rw[vw,i]at e;rw[yV,i];obtain⟨l,u,la,ua⟩:=iv hx;obtain⟨l',u',T,U⟩:=iv hy;simp[opD,opE,j,kD]at e;simp[opI,j,map2,js,la,ua,T,U,h,vE];obtain⟨q1,e1,e2⟩:=yz e;obtain⟨q2,e3,e4⟩:=yz e2;obtain⟨j1,i1,i2⟩:=a0 I p q1 C P e1;obtain⟨j2,i3,i4⟩:=a1 R p q2 C P e3;simp[js,j1,j2,h]at e4;subst e4;exact⟨by simp[joR,j1,j2],qbX i1 i3 (T.trans j2.symm),qbX i2 i4 (j2.trans U.symm)⟩
 | @prod n k k' a b j i hx hy h a0 a1 =>
  intro J p r C P e;have I:=J.kid (k:=k) (by rw[i];simp);have R:=J.kid (k:=k') (by rw[i];simp);rw[vw,i]at e;rw[yV,i];obtain⟨l,u,la,ua⟩:=iv hx;obtain⟨l',u',T,U⟩:=iv hy;simp[opD,opE,j,kD]at e;simp[opI,j,map2,jG,la,ua,T,U,h,vE];obtain⟨q1,e1,e2⟩:=yz e;obtain⟨q2,e3,e4⟩:=yz e2;obtain⟨j1,i1,i2⟩:=a0 I p q1 C P e1;obtain⟨j2,i3,i4⟩:=a1 R p q2 C P e3;simp[jG,j1,j2,h]at e4;subst e4;exact⟨by simp[prR,j1,j2],qbW i1 i3 (T.trans j2.symm),qbW i2 i4 (j2.trans U.symm)⟩
 | @compr n k f j i hx ih =>
  intro J p r C P e;have I:=J.kid (k:=k) (by rw[i];simp);rw[vw,i]at e;rw[yV,i];simp[opD,opE,j]at e;simp[opI,j];obtain⟨l,e1,e2⟩:=yz e;obtain⟨d,e3,e4,e5⟩:=XN e1;simp[kD]at e3;obtain⟨j1,i1,i2⟩:=ih I p d C P e3;cases e2;refine⟨rfl,fun t ht=>absurd ht qO,fun t ht=>i2 t ?_⟩;rw[<-e5];simp only[qp,jg]at ht⊢;obtain⟨y,⟨hy,_⟩,rfl⟩:=ht;exact⟨y,hy,rfl⟩
end KH
namespace KI
open E3 EA KE
def FixX(x:Mo)(N:Nat):Prop:=∀ s,s<N->∀(i:Nat)(h:i<x.ts.sA.length),x.ts.sA[i].var=false->(x.m.sK.getD s [])[i]?=(x.m.sK.getD 0 [])[i]?
structure NwX (x:Mo) (N:Nat):Prop where
 W:NwS x.ts x.m.sc
 M:OkM x N
 F:FixX x N
 h1:0<N
variable {x:Mo} {N:Nat}
end KI
namespace KJ
open E3
variable {x:Mo} {N:Nat}
end KJ
namespace KL
open E3
variable {x:Mo} {N:Nat}
end KL
namespace KM
open P1
variable {ts:TS} {sc:Sc} {A:dC->Option Int}
end KM
namespace KN
open P1
variable {ts:TS} {sc:Sc} {A:dC->Option Int}
end KN
namespace KO
end KO
namespace KR
open Y1 P1 YG KA KE
def j9(ts:TS):List Nd->Except Int (List Nd)
 | [] => .ok []
 |n :: l=>if (zm ts n).2=0 then (match j9 ts l with
   | .ok r => .ok (conj (zm ts n).1++r)
   | .error e => .error e) else .error (zm ts n).2
def fixL(ts:TS)(sc:Sc)(bs:List Bd)(n:Nd):Except Int (List Bd):=match j9 ts (ts.sP.map Prod.snd++[n]) with
 | .error e => .error e
 | .ok l=>match fixN ts sc l (gapL bs+1) bs with
  |none => .error 100
  |some x => .ok x
end KR
namespace GX
open P1 E3 G5 GQ GR
structure MdV (ts:TS) (m:Md):Prop where
 f:Fit9 ts m.sc
 z:u5 m.sc=true
 ns:(m.sK.length:Int)=m.sc.sN
 l0:0<=m.loop
 l1:m.loop<m.sK.length
 len:∀ s,s∈m.sK->s.length=ts.sA.length
 ar:∀ s,s∈m.sK->∀(i:Nat)(h:i<s.length)(h2:i<ts.sA.length),s[i].ar=ts.sA[i].sS.length/\s[i].ts.Pairwise (·<·)/\∀ t,t∈s[i].ts->t∈yR m.sc ts.sA[i].sS
 fix:∀(k:Nat)(h:k<m.sK.length)(h0:0<m.sK.length)(i:Nat)(h1:i<m.sK[k].length)(h3:i<m.sK[0].length)(h2:i<ts.sA.length),ts.sA[i].var=false->m.sK[k][i]=m.sK[0][i]
theorem kA{sc}(h:u5 sc=true):sumI sc.sC<=12:=by
 simp_all[u5,qD,decide_eq_true_eq]
end GX
namespace KV
open G5 P1 E1 E2 E3 EA GQ GR GW GX KB KC KE KI
section
variable {ts:TS}
theorem qdV{sc}(F:Fit9 ts sc)(z:u5 sc=true):ScN ts sc:=by
 simp only[u5,qD,decide_eq_true_eq,List.all_eq_true]at z;exact⟨F.g,F.ns,fun a i=>(z.2.2.2.1 a i).1⟩
theorem qpK{sc}(F:Fit9 ts sc)(z:u5 sc=true):NwS ts sc:=⟨qdV F z,kA z⟩
theorem kB{sc}(F:Fit9 ts sc){f}(hf:f∈ts.sA){r:Rl}(g:r.ar=f.sS.length)(i:zp r.ts)(j:∀ t,t∈r.ts->t∈yR sc f.sS):GR (sumI sc.sC) r:=by
 have l:=F.f1 f hf;refine⟨zOm,zOm,fun t h=>?_,i⟩;obtain⟨a,b⟩:=KU sc _ t (j t h);rw[g,wL zOm zOm];have e:((f.sS.length:Int)).toNat=f.sS.length:=zOm;rw[e];have:0<=sumI sc.sC ^ f.sS.length:=Int.pow_nonneg (zW1 (F.pf hf));omega
theorem qpL{sc bs}(F:Fit9 ts sc)(B:BndV ts sc bs):BdS ts (sumI sc.sC) bs:=
 ⟨⟨B.len,fun i h g=>by
  obtain⟨a,b⟩:=B.lo i h g;have j:=B.so _ (qv h);have hf:=qv g;exact⟨kB F hf a j.1 fun t l=>B.full i h g t (B.sub _ (qv h) t l),kB F hf b j.2 (B.full i h g),a,b⟩⟩,fun x o=>B.sub x o⟩
theorem qpM{m}(V:MdV ts m):OkM ⟨ts,m⟩ m.sK.length:=by
 have S:=qdV V.f V.z;refine { len:=rfl,nx:=fun t T=>?_,n0:=S.n0,n12:=kA V.z,st:=fun s p=>?_,at0:=fun i j=>?_ }
 .have h0:=V.l0
  have J:=V.l1;unfold Mo.nx;simp only;split<;>omega
 .have e:m.sK.getD s []=m.sK[s]:=by simp[zH,qy p]
  simp only[e];have o:=qv p;refine⟨V.len _ o,fun r P=>?_⟩;obtain⟨i,j,rfl⟩:=ZD P;have l:i<ts.sA.length:=by rw[<-V.len _ o];exact j
  obtain⟨a,b,c⟩:=V.ar _ o i j l;exact kB V.f (qv l) a b c
 .have g:i<m.sc.sC.length:=by have:=S.ns;simp only at j;omega
  obtain⟨J,l,R⟩:=S.le g;simp only;rw[ji g];exact⟨zOm,l,R⟩
theorem qpN{m}(V:MdV ts m):NwX ⟨ts,m⟩ m.sK.length:=by
 have I:=V.l1;have J:=V.l0;refine⟨qpK V.f V.z,qpM V,fun s g i j t=>?_,zOm⟩;have l:0<m.sK.length:=zOm;have e:m.sK.getD s []=m.sK[s]:=by simp[zH,qy g]
 have C:m.sK.getD 0 []=m.sK[0]:=by simp[zH,qy l]
 simp only[e,C];have o:i<m.sK[s].length:=by rw[V.len _ (qv g)];exact j
 have p:i<m.sK[0].length:=by rw[V.len _ (qv l)];exact j
 rw[qy o,qy p,V.fix s g l i o p j t]
end
end KV
namespace GY
end GY
namespace GZ
open GF GU
theorem mem_selT(g s f t):t∈selT g s f↔((s:Int),(f:Int),t)∈g:=by
 simp only[selT,qp,jg,qD,decide_eq_true_eq];constructor
 .rintro ⟨⟨a,b,c⟩,⟨h,i,j⟩,rfl⟩
  simp only at i j;subst i j;exact h
 .intro h
  exact⟨_,⟨h,rfl,rfl⟩,rfl⟩
theorem qdW:∀ bs k p t,(p,t)∈zu bs k↔∃(f:Nat) (h:f<bs.length),p=((k+f:Nat):Int)/\t∈Ks bs[f]
 | [],k,p,t=>by simp[zu]
 |b :: bs,k,p,t=>by
  simp only[zu,qP,Ja,qp,wo,qdW bs (k+1)];constructor
  .rintro (⟨a,i,rfl,rfl⟩|⟨f,hf,rfl,g⟩)
   .exact ⟨0,zSp,zSp,zUs i⟩
   .exact ⟨f+1,by simpa using hf,zOm,zUs g⟩
  .rintro ⟨f,hf,rfl,g⟩
   cases f with
   |zero=>grind
   |succ f=>grind
end GZ
namespace HA
end HA
namespace HB
end HB
namespace HC
end HC
namespace HD
end HD
namespace IC
open Y9 P1 E1 E3 F2 FD GW GX
theorem qpO(n)(k:Nat)(g:k<=3):powI n k=n ^ k:=by
 unfold powI powN;congr 1;omega
theorem qpP{ts m}(h:okTS ts)(V:MdV ts m):OkMa ⟨ts,m⟩ m.sK.length:=by
 have F:=V.f;have j:=F.g;have l:=kA V.z;have R:=(F.g.sum m.sc.sC.length).1;rw[za]at R;refine { len:=rfl,nx:=?_,n0:=by show 0<=sumI m.sc.sC;omega,n12:=l,st:=?_,at0:=?_,gsc:=j,pos:=fun a o=>(j.2 a o).1,al:=F.ns.symm,loop:=V.l0,N1:=zW2 V.ns F.s4,ts:=h }
 .intro t I
  have:=V.l1;have:=V.l0;show (if t+1<m.sK.length then t+1 else m.loop.toNat)<m.sK.length
  grind
 .intro s J
  have hd:m.sK.getD s []=m.sK[s]:=by rw[zH,qy J];rfl
  show (m.sK.getD s []).length=ts.sA.length/\∀ r,r∈m.sK.getD s []->GR (sumI m.sc.sC) r;rw[hd];have P:=qv J;have hl:=V.len _ P;refine⟨hl,fun r hr=>?_⟩;obtain⟨i,p,rfl⟩:=ZD hr;obtain⟨a1,a2,a3⟩:=V.ar _ P i p zOm;have f1:=F.f1 _ (qv (show i<ts.sA.length by omega));refine⟨zOm,zOm,fun t I=>?_,a2⟩;have:=KU _ _ t (a3 t I)
  grind [qpO,sumI,Int.pow_nonneg]
 .intro i p
  have C:i<m.sc.sC.length:=by rw[<-F.ns];exact p
  exact qnC m.sc.sC i (fun a o=>(j.2 a o).1) C
structure Betw (sc:Sc) (vs:List Bool) (bs:List Bd) (N:Nat) (m:Md):Prop where
 sc:m.sc=sc
 lp:∃ k:Nat,k<N/\m.loop=k
 ns:m.sK.length=N
 len:∀ s,s∈m.sK->s.length=bs.length
 rel:∀(k f:Nat)(hk:k<m.sK.length)(hf:f<bs.length)(h2:f<m.sK[k].length),m.sK[k][f].ar=bs[f].lo.ar/\zp m.sK[k][f].ts/\(∀ t,t∈bs[f].lo.ts->t∈m.sK[k][f].ts)/\∀ t,t∈m.sK[k][f].ts->t∈bs[f].up.ts
 fix:∀(k f:Nat)(hk:k<m.sK.length)(h0:0<m.sK.length)(h2:f<m.sK[k].length)(h3:f<m.sK[0].length),vs.getD f true=false->m.sK[k][f]=m.sK[0][f]
end IC
namespace KX
open GS GB GS P1 E1 E3 GF GQ GR GW GX GZ IC KH
section
variable {bs:List Bd}{ts:TS}
def pkAt(g:List Bool)(k:Nat):Bool:=decide (0<g.length)&&g.getD (k % g.length) false
def put1(st:List Rl)(q:Int×Int):List Rl:=st.set q.1.toNat (unR (st.getD q.1.toNat noR) ⟨(st.getD q.1.toNat noR).ar,[q.2]⟩)
def yF(g:List Bool):List (Int×Int)->Nat->List Rl->List Rl
 | [],_,U=>U
 |q :: i,k,U=>yF g i (k+1) (if pkAt g k=true then put1 U q else U)
def mdS(i:List Bool)(bs:List Bd)(g:List Bool)(s:Nat):List Rl:=
 if s=0 then yF g (zu bs 0) 0 (bs.map fun b=>b.lo) else (yF g (zu bs 0) (s*(zu bs 0).length) (bs.map fun b=>b.lo)).mapIdx fun f r=>if i.getD f true=true then r else (yF g (zu bs 0) 0 (bs.map fun b=>b.lo)).getD f noR
def mdM(sc:Sc)(g:List Bool)(bs:List Bd)(i:List Bool)(lp:Int):Md:=⟨sc,(qu sc.sN.toNat).map (mdS g bs i),lp % sc.sN⟩
structure Fl (bs:List Bd) (st:List Rl):Prop where
 l:st.length=bs.length
 r:∀(i:Nat)(h:i<st.length)(h2:i<bs.length),st[i].ar=bs[i].lo.ar/\zp st[i].ts/\(∀ t,t∈bs[i].lo.ts->t∈st[i].ts)/\∀ t,t∈st[i].ts->t∈bs[i].up.ts
theorem Wc(g:∀ b,b∈bs->zp b.lo.ts)(j:∀ b,b∈bs->∀ t,t∈b.lo.ts->t∈b.up.ts):Fl bs (bs.map fun b=>b.lo):=
 ⟨zSp,fun i h l=>by
  grind⟩
theorem qpQ{st}(F:Fl bs st){q:Int×Int}(o:∃(f:Nat) (h:f<bs.length),q.1=f/\q.2∈bs[f].up.ts):Fl bs (put1 st q):=by
 obtain⟨f,hf,e,J⟩:=o;have g:f<st.length:=by rw[F.l];exact hf
 have p:q.1.toNat=f:=zOm;have C:st.getD f noR=st[f]:=by simp[zH,qy g]
 unfold put1;rw[p,C];refine⟨by rw[List.length_set];exact F.l,fun i h I=>?_⟩;rw[List.getElem_set];by_cases j:f=i
 .subst j
  rw[if_pos rfl];obtain⟨a,b,c,d⟩:=F.r f g hf;refine⟨a,(uV _).1,fun t h=>?_,fun t h=>?_⟩
  .exact ((uV _).2 t).2 (jh _ (c t h))
  .rcases qP.1 (((uV _).2 t).1 h) with h|h
   .exact d t h
   grind
 .rw [if_neg j]
  exact F.r i (zUs h) I
theorem Vu(i):∀(g:List (Int×Int))(k){st},(∀ q,q∈g->∃(f:Nat) (h:f<bs.length),q.1=f/\q.2∈bs[f].up.ts)->Fl bs st->Fl bs (yF i g k st)
 | [],k,st,_,F=>F
 |q :: g,k,st,h,F=>by
  rw[yF];refine Vu i g (k+1) (fun x j=>h x (q9 _ j)) ?_;split
  .exact qpQ F (h q (zo ..))
  .exact F
theorem Wd(bs):∀ q,q∈zu bs 0->∃(f:Nat) (h:f<bs.length),q.1=f/\q.2∈bs[f].up.ts:=fun q i=>by
 obtain⟨p,t⟩:=q;obtain⟨f,hf,e,g⟩:=(qdW bs 0 p t).1 i;refine⟨f,hf,zUs e,?_⟩;simp only[Ks,jg]at g;exact g.1
theorem We(p:∀ b,b∈bs->zp b.lo.ts)(C:∀ b,b∈bs->∀ t,t∈b.lo.ts->t∈b.up.ts)(P g s):Fl bs (mdS P bs g s):=by
 have j:=Vu g (zu bs 0) 0 (Wd bs) (Wc p C);have I:=Vu g (zu bs 0) (s*(zu bs 0).length) (Wd bs) (Wc p C);unfold mdS;split
 .exact j
 .refine ⟨by rw[List.length_mapIdx];exact I.l,fun i h o=>?_⟩
  rw[List.getElem_mapIdx];split
  .exact I.r i (zUs h) o
  .have J:i<(yF g (zu bs 0) 0 (bs.map fun b=>b.lo)).length:=by rw[j.l];exact o
   rw[zH,qy J];exact j.r i J o
theorem qpR{sc}(B:BndV ts sc bs){N:Nat}(T:sc.sN=N)(U:1<=N)(g i lp):Betw sc g bs N (mdM sc g bs i lp):=by
 have t:∀ b,b∈bs->zp b.lo.ts:=fun b I=>(B.so b I).1
 have J:sc.sN.toNat=N:=zOm;have P:(mdM sc g bs i lp).sK.length=N:=by simp[mdM,J]
 have C:∀(k:Nat)(h:k<(mdM sc g bs i lp).sK.length),(mdM sc g bs i lp).sK[k]=mdS g bs i k:=fun k h=>by simp[mdM]
 refine⟨rfl,?_,P,fun s j=>?_,fun k f o hf R=>?_,fun k f o h0 R h3 hv=>?_⟩
 .have a:=Int.emod_nonneg lp (b:=sc.sN) zOm
  have b:=Int.emod_lt_of_pos lp (b:=sc.sN) zOm;exact⟨(lp % sc.sN).toNat,zOm,by show lp % sc.sN=_;omega⟩
 .obtain ⟨k,o,rfl⟩:=ZD j
  rw[C];exact(We t B.sub g i k).l
 .have F:=We t B.sub g i k
  have e:=C k o;have p:f<(mdS g bs i k).length:=by grind
  have:=F.r f p hf;simp only[e];exact this
 grind [Vu,zu,Wd,Wc,We,yF,mdS]
theorem qpS{sc}(F:Fit9 ts sc)(z:u5 sc=true)(B:BndV ts sc bs){N:Nat}(I:sc.sN=N){m}(h:Betw sc (vsT ts) bs N m):MdV ts m:=by
 obtain⟨k,l,J⟩:=h.lp;have g:=h.sc;refine⟨by rw[g];exact F,by rw[g];exact z,by rw[g,h.ns,I],zOm,by rw[h.ns];omega,fun s o=>by rw[h.len s o,B.len],fun s o i p j=>?_,fun k l P i p R j T=>?_⟩
 .obtain ⟨k,l,rfl⟩:=ZD o
  have C:i<bs.length:=by rw[B.len];exact j
  obtain⟨a,b,c,d⟩:=h.rel k i l C p;exact⟨a.trans (B.lo i C j).1,b,fun t U=>by rw[g];exact B.full i C j t (d t U)⟩
 .refine h.fix k i l P p R ?_
  simp[vsT,zH,qy j,T]
theorem qpT{sc N l m}(h:Betw sc l bs N m):InB ⟨ts,m⟩ N bs:=fun s p i o g=>by
 have j:s<m.sK.length:=by grind
 have e:m.sK.getD s []=m.sK[s]:=by simp[zH,qy j]
 simp only[e]at g⊢;obtain⟨a,b,c,d⟩:=h.rel s i j o g;exact⟨a,c,d⟩
end
end KX
namespace QC
end QC
end Go.Proofs.YthflbhjlkgdafaaGreatDoor
