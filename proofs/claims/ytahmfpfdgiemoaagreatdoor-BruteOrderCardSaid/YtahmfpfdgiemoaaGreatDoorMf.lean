/-
  Own library, part 6: an abstract reading of values and a calculus over it; contracts of functions; plain lemmas.
-/
import Derived.Lib.ItoaLen
import Derived.Handed
import Derived.WideKeyArgs
import Derived.ProofKit
import Derived.OpenShut
import Derived.JoinedCond
import Derived.KernelRfl
import Derived.Test.YtahmfpfdgiemoaaGreatDoorMe
set_option linter.unusedVariables false
set_option linter.unusedSimpArgs false
set_option maxRecDepth 100000
open Go renaming FuncId->qi,Program->qb,TypeId->qc,World->qd,Value->qe,undef->zw
open Go.Proofs.Tryz renaming prog->qg
open List renaming getElem?_eq_some_iff->qm,mem_map->qo,getElem_mem->qs,range->qv,getElem?_eq_getElem->qy,mem_cons->qz,getElem?_append_left->qI,getElem?_set_self->qL,mem_append->qM,not_mem_nil->qN,mem_singleton->qS,take_length->qT,replicate->qX,mem_of_getElem?->qZ,length_append->q8,map_append->za,mem_cons_of_mem->zc,getElem?_map->zg,mem_cons_self->zh,drop_eq_getElem_cons->zp,append_assoc->zq,length_cons->zD,getElem?_append_right->zE,getD_eq_getElem?_getD->zH,length_map->zM,append_nil->zN,mem_range->zY,map_cons->z6,getElem?_set_ne->yb,take_of_length_le->yd,drop_length->yA,cons_append->yH,mem_append_left->jq,take_append_drop->vA,nil_append->vD,take_succ_eq_append_getElem->vK,foldl_append->vM,length_take->uc,mem_of_mem_take->ux,mem_flatMap->uW,flatten_cons->wQ
open Go.IntKind renaming i64->qq
open Nat renaming le_refl->qt,le_trans->zK,zero_add->ye,le_of_ble_eq_true->ub
open Option.some renaming injEq->qw
open Bool renaming and_eq_true->qK,or_eq_true->uZ
open Array renaming getD_eq_getD_getElem?->qY
open Option renaming map_eq_some_iff->jW
open List.Nodup renaming length_le_of_subset->jY
open Int renaming le_refl->vB
namespace Go.Proofs.YtahmfpfdgiemoaaGreatDoor
open Go Go.Ev Go.Proofs Tryz
namespace FB
open Y1 Y9 P2 YF E3 EA F1 F2 F3 FA
def outB:XE Bool->AV
 | .ok r => .tup [aB r,aI 0]
 | .error e => .tup [aB false,aI e]
theorem wkM(x:Mo):WKs [eTS x.ts,eMd x.m] [eTS x.ts,eMd x.m] := .zk (zo x.ts) (.zk (zt x.m) .nil)
theorem qmJ(x:Mo)(N:Nat)(n:Nd)(o:WfN n)(i:OkMa x N)(p:Pl)(t:OkP x N p)(C:bd p n) :
  qj qg 46 [eTS x.ts,eMd x.m,aI p.st,lPm p.env,eNd n] (outB ((den x n).F p)):=by
 have hf:=(evX x N i (szN n) n (qt _) o p t C).F;have j:=wk3 x p n;generalize (den x n).F p=E at *
 refine qW.toP ?_;refine zf.of_sound ?_;refine fL call46 func46 rfl (ub zKr) zKr (pl:={}) ?_;simp[go_sem];refine tA (g:=92) (first:=[]) (caps:=[]) zSi call92 ?_;simp[go_sem];refine qk.tail 7 zKr ?_;simp[go_sem];refine fR (qi8 x i.gsc) (wkM x) ?_;cases E with
 |error e =>
  refine fZ hf j ?_;simp[go_sem];refine ja.mono (qjA [.arr [aI 0]] 0 0 e rfl) ?_;rintro _ rfl;simp[go_sem];exact .hf _ (HF.tup (by simp only[qz,qN,or_false,forall_eq_or_imp,forall_eq];exact⟨HF.sc _,HF.sc _⟩))
 |ok r =>
  refine fR hf.toP j ?_;refine ja.mono (qi9 [.arr [aI 0]] 0 0 rfl) ?_;rintro _ rfl;simp[go_sem];exact .hf _ (HF.tup (by simp only[qz,qN,or_false,forall_eq_or_imp,forall_eq];exact⟨HF.sc _,HF.sc _⟩))
end FB
namespace FC
open Y1 P2 YF E3 EO EP F1 F2 F3 F4 F6 F8 FB
def fmV:XE Bool->Bool×Int
 | .ok v=>(v,0)
 | .error e=>(false,e)
theorem qmK(q:XE Bool):outB q = .tup [aB (fmV q).1,aI (fmV q).2]:=by cases q<;>rfl
def Zl(I:Nd->Nd×Int)(x:Mo):List Nd->Bool->Bool×Int
 | [],a=>(a,0)
 |b :: l,a=>if (I b).2≠0 then (false,(I b).2) else if (fmV ((den x (I b).1).F ⟨0,[]⟩)).2≠0 then (false,(fmV ((den x (I b).1).F ⟨0,[]⟩)).2) else Zl I x l (a&&(fmV ((den x (I b).1).F ⟨0,[]⟩)).1)
theorem J3(xs:List Nd):zi 5 (xs.map cNd):=fun r g=>by
 obtain⟨n,_,rfl⟩:=qo.1 g;exact⟨by cases n;rfl,Yi n⟩
theorem put6(a:tN)(n:Nd):putCells [aS ⟨#[]⟩,aI 0,aS ⟨#[]⟩,aI 0,.lst true [],aI 0] 0 (aS a :: cNd n)=aS a :: cNd n:=by cases n;rfl
theorem qmL(x:Mo)(N:Nat)(hM:OkMa x N)(hN:0<N)(I:Nd->Nd×Int)(n:Nd)(hl:x.ts.sP.length<=1000)(hI:∀ b,b∈x.ts.sP.map Prod.snd++[n]->qj qg 45 [eTS x.ts,eNd b] (.tup [eNd (I b).1,aI (I b).2])/\((I b).2=0->WfN (I b).1/\dN (I b).1<=999999)) :
  qj qg 16 [eTS x.ts,eMd x.m,eNd n] (.tup [aB (Zl I x (x.ts.sP.map Prod.snd++[n]) true).1,aI (Zl I x (x.ts.sP.map Prod.snd++[n]) true).2]):=by
 generalize hR:Zl I x (x.ts.sP.map Prod.snd++[n]) true=R;refine qSU call16 func16 rfl ?_;refine kM x.ts.sP.length (fun k U=>U.tm 3 = .ip (cTS x.ts)/\U.tm 4 = .ip (cMd x.m)/\U.tm 5 = .ip (cNd n)/\U.tm 8=aB true/\U.tm 18=lFa x.ts.sP/\U.tm 19=aI x.ts.sP.length/\U.tm 20=aI k/\Own U.mu 5 (U.tm 9) (((x.ts.sP.take k).map Prod.snd).map cNd)) ?_ ?_
 .exact ⟨zSi,zSi,zSi,zSi,zSi,zSi,zSi,.inl zSi⟩
 rintro k U hk ⟨e3,e4,e5,e8,T,o,t,ho⟩;by_cases l:k<x.ts.sP.length
 .have w1:=zWk k
  simp[go_sem,T,o,t,l,put6];refine qA.ownB (e:=35) (sz:=5) (bt:=64) (zv := .agg [aI 0,aS ⟨#[]⟩,aI 0,.lst true [],aI 0]) (xs:=((x.ts.sP.take k).map Prod.snd).map cNd) (ys:=[cNd x.ts.sP[k].2]) zSi zSi zSi rfl rfl zOm zOm (Own.push ho _) (by simp[qF]) (J3 _) (J3 [_]) zSo ?_;intro a0 j C _ _ _;simp[go_sem,t,l,w1];refine aK ⟨zS1 e3,zS1 e4,zS1 e5,zS1 e8,zS1 T,zS1 o,zSi,?_⟩;rw[yw l,za,za];simpa[go_sem] using C
 .have J:k=x.ts.sP.length:=by omega
  subst J;rw[qT]at ho;simp[go_sem,e5,o,t];refine qA.ownB (e:=35) (sz:=5) (bt:=64) (zv := .agg [aI 0,aS ⟨#[]⟩,aI 0,.lst true [],aI 0]) (xs:=(x.ts.sP.map Prod.snd).map cNd) (ys:=[cNd n]) zSi zSi zSi rfl rfl zOm zOm ho (by simp[qF]) (J3 _) (J3 [_]) zSo ?_;intro a0 j C _ _ _;have a1:Own j 5 a0 ((x.ts.sP.map Prod.snd++[n]).map cNd):=by rw[za];exact C
  have a5:(x.ts.sP.map Prod.snd++[n]).length<=1001:=zSo;generalize x.ts.sP.map Prod.snd++[n]=L at *
  simp[go_sem];refine tS (aI L.length) (by rcases a1 with h|⟨b,h,_⟩<;>rw[h]<;>simp) ?_;simp[go_sem];refine qn.fz ?_;refine FzQ.ownB (d:=33) zSi a1 (J3 L) (fun r hr c hc=>?_) fun a6 full _ _=>?_
  .obtain ⟨b,_,rfl⟩:=qo.1 hr
   exact vG b c hc
  refine kM L.length (fun k U=>∃ a,U.tm 3 = .ip (cTS x.ts)/\U.tm 4 = .ip (cMd x.m)/\U.tm 8=aB a/\U.tm 33 = .lst full (L.map cNd)/\U.tm 34=aI L.length/\U.tm 35=aI k/\Zl I x (L.drop k) a=R) ?_ ?_
  .exact ⟨true,zS1 e3,zS1 e4,zS1 e8,zSi,zSi,zSi,hR⟩
  rintro k U hk ⟨a,f3,f4,f8,f33,f34,f35,hV⟩;by_cases l:k<L.length
  .have w1:=zWk k
   obtain⟨hi,a3⟩:=hI L[k] (qs l);rw[zp l,Zl]at hV;have wi:WKs [eTS x.ts,eNd L[k]] [eTS x.ts,eNd L[k]] := .zk (zo _) (.zk (qO _) .nil);simp[go_sem,f3,f33,f34,f35,l];refine tT hi wi ?_;generalize a7:I L[k]=ib at *
   obtain⟨b',e'⟩:=ib;by_cases he:e'=0
   .subst he
    obtain⟨a4,a2⟩:=a3 rfl;replace a2:dN b'<=999999:=a2;rw[if_neg zSp]at hV;have hf:=qmJ x N b' a4 hM ⟨0,[]⟩ ⟨hN,zSp⟩ (by show 0+_<=_;omega);have wf:WKs [eTS x.ts,eMd x.m,aI (0:Nat),.lst true [],eNd b'] [eTS x.ts,eMd x.m,aI (0:Nat),lPm [],eNd b'] := .zk (zo _) (.zk (zt _) (.zs (.cons (WK.lst fun r hr=>absurd hr qN) (.zk (qO _) .nil))));rw[qmK]at hf;simp only at hV;generalize fmV ((den x b').F ⟨0,[]⟩)=q at *
    obtain⟨v,e2⟩:=q;simp[go_sem,f3,f4];refine tT hf wf ?_;by_cases P:e2=0
    .subst P
     rw[if_neg zSp]at hV;cases a<;>cases v
     all_goals simp[go_sem,f8,f35,l,w1]
     all_goals exact aK ⟨_,zS1 f3,zS1 f4,zSi,by simp[go_sem,f33],by simp[go_sem,f34],zSi,hV⟩
    .rw [if_pos P]at hV
     subst hV;simp[go_sem,P];exact .hf _ (HF.tup (by simp only[qz,qN,or_false,forall_eq_or_imp,forall_eq];exact⟨HF.sc _,HF.sc _⟩))
   .rw [if_pos he]at hV
    subst hV;simp[go_sem,he];exact .hf _ (HF.tup (by simp only[qz,qN,or_false,forall_eq_or_imp,forall_eq];exact⟨HF.sc _,HF.sc _⟩))
  .have J:k=L.length:=by omega
   subst J;rw[yA,Zl]at hV;subst hV;simp[go_sem,f8,f34,f35];exact .hf _ (HF.tup (by simp only[qz,qN,or_false,forall_eq_or_imp,forall_eq];exact⟨HF.sc _,HF.sc _⟩))
end FC
namespace FD
open Y1 Y9 Q4 F2
theorem qmM{ks:List Nd}{m:Nat}(h:∀ k,k∈ks->dN k<=m):dNs ks<=m:=by
 induction ks with
 |nil=>simp[dNs]
 |cons a l g =>
  simp only[dNs];have:=h a zSp;have:=g fun k i=>h k (zP1 i)
  omega
theorem m7:∀(m:Nat) (n:Nd) (g:Int),szN n<=m->forN n g=true->(dN n:Int)<=g
 | 0,n,g,l,_=>by
  obtain⟨op,nm,i,ks,q⟩:=n;simp only[szN,Nd.mk.sizeOf_spec]at l;omega
 |m+1,n,g,l,h=>by
  rw[J0]at h;split at h
  .cases h
  .simp only[qK]at h
   have o:=X4 h.2.2;have:dNs n.sD<=(g-1).toNat:=qmM fun k j=>by
    have:=m7 m k (g-1) (zW1 (yv j)) (o k j);omega
   rw[mP];omega
theorem qmN{n:Nd}(h:zj n=true):dN n<=24:=by
 simp only[zj,qK]at h;have:=m7 (szN n) n 24 (qt _) h.2;omega
theorem m8:∀ x:List Int,(∀ a,a∈x->0<=a)->0<=sumI x:=fun x g=>by
 induction x with
 |nil=>simp[sumI]
 |cons a x i =>
  have o:=g a zSp;have j:=i fun b l=>g b (zP1 l)
  simp only[sumI,List.foldr_cons]at j⊢;omega
theorem qmO:∀(l:List Int) (i:Nat),(∀ a,a∈l->0<=a)->i<l.length->0<=gI l i/\0<=sumI (l.take i)/\sumI (l.take i)+gI l i<=sumI l:=fun l i h g=>by
 have e:sumI l=sumI (l.take (i+1))+sumI (l.drop (i+1)):=by rw[<-gB,vA]
 rw[uG l i g]at e;rw[uF g];have p:=m8 (l.drop (i+1)) fun a j=>h a (List.mem_of_mem_drop j)
 have o:=m8 (l.take i) fun a j=>h a (ux j)
 exact⟨h _ (qs g),o,zOm⟩
end FD
namespace GF
open E1 EO EQ EW F4 GD
abbrev rP(p:Int×Int):List AV:=[aI p.1,aI p.2]
abbrev lP(ps:List (Int×Int)):AV := .lst false (ps.map rP)
theorem J4(xs:List (Int×Int)):zi 2 (xs.map rP):=fun r g=>by
 obtain⟨n,_,rfl⟩:=qo.1 g;exact⟨rfl,rfl⟩
abbrev eBd(b:Bd):AV := .agg (cBd b)
theorem Kj(b:Bd):∀ c,c∈cBd b->HF c:=by
 intro c g;simp at g;rcases g with rfl|rfl|rfl|rfl
 .exact HF.sc _
 .exact zm _
 .exact HF.sc _
 .exact zm _
theorem m9(b:Bd):HF (eBd b):=HF.agg (Kj b)
theorem qmP(x:Bd):qj qg 73 [eBd x] (.fn (.func 126) [] [.ip (cBd x)]):=by
 refine qSU call73 func73 rfl ?_;refine .hf _ (HF.fn (fun c g=>by simp at g) (fun c g=>?_));simp at g;subst g;exact HF.ip (Kj x)
def vH(x:Bd):List Int:=x.up.ts.filter fun t=>!decide (t∈x.lo.ts)
theorem qmQ{J:Type}(p:J->Bool)(l:List J)(k:Nat)(h:k<l.length)(g:p l[k]=true):(l.filter p)[((l.take k).filter p).length]?=some l[k]:=by
 have e:l=l.take k++l[k] :: l.drop (k+1):=by
  rw[<-zp h,vA]
 have i:l.filter p=(l.take k).filter p++l[k] :: (l.drop (k+1)).filter p:=by
  conv=>lhs;rw[e]
  rw[List.filter_append,List.filter_cons,if_pos g]
 rw[i,zE (qt _)];simp
theorem qmR{J:Type}(p:J->Bool)(l:List J)(k:Nat)(h:k<l.length):((l.take (k+1)).filter p).length=((l.take k).filter p).length+(if p l[k]=true then 1 else 0):=by
 rw[List.take_add_one,qy h,List.filter_append];cases g:p l[k]<;>simp[g]
theorem qmS(x:Bd)(hl:x.up.ts.length<=1000000000)(R:x.lo.ts.length<=1000000000)(hs:x.lo.ts.Pairwise (·<=·)):jg qg 126 [.ip (cBd x)] ((vH x).map fun t=>[aI t]):=by
 refine jg.of call126 fun i I Ix hS hX hY C h0=>?_
 refine qSW call126 func126 rfl {} ?_;simp[go_sem];refine tK (fun m U=>∃ k,m=x.up.ts.length-k/\k<=x.up.ts.length/\U.tm 0 = .yl i/\U.tm 1 = .ip (cBd x)/\U.tm 9=lI x.up.ts/\U.tm 10=aI x.up.ts.length/\U.tm 11=aI (k:Nat)/\I ((x.up.ts.take k).filter fun t=>!decide (t∈x.lo.ts)).length U.mu) x.up.ts.length ?_ ?_
 .exact ⟨0,zOm,zOm,zSi,zSi,zSi,zSi,zSi,zVs h0⟩
 rintro m U ⟨k,rfl,hk,T,e1,e9,o,p,P⟩;by_cases r:k<x.up.ts.length
 .simp [go_sem,e1,e9,o,p,r]
  refine tT (binU x.lo.ts x.up.ts[k] R hs) (.zk (zm _) (.zs .nil)) ?_;have g:=qmR (fun t=>!decide (t∈x.lo.ts)) x.up.ts k r;by_cases l:x.up.ts[k]∈x.lo.ts
  .simp [go_sem,p,l]
   rw[if_neg (zUs l),Nat.add_zero]at g;refine Keep.loop (x.up.ts.length-(k+1)) zOm ⟨k+1,rfl,zOm,zS1 T,zS1 e1,zS1 e9,zS1 o,?_,?_⟩
   .simp [go_sem];exact zWr
   .rw [g];simpa[go_sem] using P
  .simp [go_sem,T,l]
   rw[if_pos (zUs l)]at g;have J:((vH x).map fun t=>[aI t])[((x.up.ts.take k).filter fun t=>!decide (t∈x.lo.ts)).length]?=some [aI x.up.ts[k]]:=by
    rw[zg,vH,qmQ _ _ k r (zUs l)];rfl
   refine qh.yield (hY _ _ _ J P) ?_;rintro b j (⟨rfl,a0⟩|⟨rfl,a1⟩)
   .simp [go_sem,p]
    refine Keep.loop (x.up.ts.length-(k+1)) zOm ⟨k+1,rfl,zOm,zS1 T,zS1 e1,zS1 e9,zS1 o,?_,?_⟩
    .simp [go_sem];exact zWr
    .rw [g];simpa[go_sem] using a0
   .simp [go_sem]
    exact .inr a1
 .have a2:k=x.up.ts.length:=by omega
  subst a2;rw[qT]at P;simp[go_sem,o,p];exact .inl P
def y5(k:Nat)(x:Bd):List (Int×Int):=(vH x).map fun t=>((k:Int),t)
def qB:List Bd->Nat->List (Int×Int)
 | [],_=>[]
 |x :: l,k=>y5 k x++qB l (k+1)
theorem qaA:∀(l m:List Bd) (k:Nat),qB (l++m) k=qB l k++qB m (k+l.length)
 | [],m,k=>by simp[qB]
 |x :: l,m,k=>by
  rw[yH,qB,qB,qaA l m (k+1),zq];have:k+1+l.length=k+(x :: l).length:=zSo;rw[this]
theorem qaB(l:List Bd)(k:Nat)(h:k<l.length):qB (l.take (k+1)) 0=qB (l.take k) 0++y5 k l[k]:=by
 rw[List.take_add_one,qy h];show qB (l.take k++[l[k]]) 0=_;rw[qaA];have:(l.take k).length=k:=zSo;rw[this,ye];simp[qB]
structure Qk (x:Bd):Prop where
 up:x.up.ts.length<=1000000
 lo:x.lo.ts.length<=1000000
 sorted:x.lo.ts.Pairwise (·<=·)
theorem J5:∀(l:List Bd) (k:Nat),(∀ x,x∈l->Qk x)->(qB l k).length<=l.length*1000000
 | [],k,_=>by simp[qB]
 |x :: l,k,h=>by
  have i:=J5 l (k+1) (fun y g=>h y (zP1 g));have j:(y5 k x).length<=1000000:=by
   rw[y5,zM];exact zK (List.length_filter_le _ _) (h x zSp).up
  simp only[qB,q8,zD];omega
theorem cP{mu:Mu}{av:AV}{xs:List (Int×Int)}(h:Own mu 2 av (xs.map rP)):Rd mu av (lP xs):=
 h.rd (J4 xs).ok fun r i c g=>by
  obtain⟨n,_,rfl⟩:=qo.1 i;simp at g;rcases g with rfl|rfl<;>exact HF.sc _
theorem qaC(l:List Bd)(hl:l.length<=1000)(hb:∀ x,x∈l->Qk x):qj qg 35 [lBd l] (lP (qB l 0)):=by
 refine qSU call35 func35 rfl ?_;refine tK (fun m U=>∃ k I C,m=l.length-k/\k<=l.length/\U.tm 3 = .ptr 0 0/\U.tm 7=lBd l/\U.tm 8=aI l.length/\U.tm 9=aI (k:Nat)/\U.mu = .arr [I] :: C/\Own U.mu 2 I ((qB (l.take k) 0).map rP)/\qp I≠some 0) l.length ?_ ?_
 .refine ⟨0,.lst true [],[],zOm,zOm,zSi,zSi,zSi,zSi,zSi,?_,by simp[qp]⟩
  simp[go_sem,qB];exact .inl rfl
 rintro m U ⟨k,I,C,rfl,hk,e3,e7,e8,e9,hm,ho,ae⟩;by_cases a1:k<l.length
 .have hx:=hb _ (qs a1)
  have ak:(qB (l.take (k+1)) 0).length<=1000000000:=by
   have:=J5 (l.take (k+1)) 0 (fun y hy=>hb y (ux hy));have T:(l.take (k+1)).length<=1000:=zSo;have h3:=Nat.mul_le_mul_right 1000000 T;omega
  have P:=qaB l k a1;rw[hm]at ho;have af:qp I≠some (C.length+1):=fun h=>by have:=Own.lt ho h;simp at this
  simp[go_sem,e7,e8,e9,hm,a1];refine fR (qmP l[k]) (.zk (m9 _) .nil) ?_;refine tP (qmS l[k] (zW1 hx.up) (zW1 hx.lo) hx.sorted) (fun j M=>∃ I o,M = .arr [I] :: o/\M[C.length+1]?=some (.arr [aI k])/\Own M 2 I ((qB (l.take k) 0++(y5 k l[k]).take j).map rP)/\qp I≠some 0/\qp I≠some (C.length+1)) (fun _ _=>False) ?_ ?_ ?_ ?_ ?_ ?_
  .refine ⟨I,_,by simp only[qE,yH];rfl,zSi,?_,ae,af⟩
   have:=Own.push ho [Cell.arr [aI k],Cell.arr (cBd l[k]),.dead];simpa[go_sem] using this
  .rintro j M ⟨I,o,rfl,h1,T,h3,h4⟩
   exact⟨I,o++[.dead],rfl,by rw[qI (qm.1 h1).1];exact h1,Own.push T _,h3,h4⟩
  .intro e M h;exact h
  .rintro j x M hj ⟨I,o,rfl,h1,T,h3,h4⟩
   rw[zg,jW]at hj;obtain⟨t,ht,rfl⟩:=hj;have an:j<(vH l[k]).length:=(qm.1 ht).1;have ag:(y5 k l[k]).take (j+1)=(y5 k l[k]).take j++[((k:Int),t)]:=by
    rw[List.take_add_one];have:(y5 k l[k])[j]?=some ((k:Int),t):=by rw[y5,zg,ht];rfl
    rw[this];rfl
   have ah:(qB (l.take k) 0++(y5 k l[k]).take j).length<=1000000000:=by
    have:(qB (l.take k) 0++(y5 k l[k]).take j).length<=(qB (l.take (k+1)) 0).length:=by
     rw[P,q8,q8,uc];omega
    omega
   refine⟨rfl,?_⟩;have ai:=(qm.1 h1).1;have a5:=h1;simp at a5;simp[go_sem,e3,a5];refine qA.ownB (e:=91) (sz:=2) (bt:=16) (zv := .agg [aI 0,aI 0]) (xs:=(qB (l.take k) 0++(y5 k l[k]).take j).map rP) (ys:=[rP ((k:Int),t)]) zSi zSi zSi rfl rfl zOm zOm T (by simp[qF]) (J4 _) (J4 [((k:Int),t)]) (by simp at ah⊢;omega) ?_;intro R a6 a2 a7 a8 ao;have a3:=a7 0 zSp h3;have a9:=a7 (C.length+1) ai h4;rw[h1]at a9;obtain⟨J,rfl⟩:∃ J,a6 = .arr [I] :: J:=by
    cases a6 with
    |nil=>simp at a3
    |cons c r=>simp at a3;exact⟨r,by rw[a3]⟩
   have a0:qp R≠some 0:=fun h=>by have:=a8 _ h;simp at this
   have aa:qp R≠some (C.length+1):=fun h=>zW1 (a8 _ h)
   have ab:=Own.set a2 (i:=0) (.arr [R]) a0;have ad:(qB (l.take k) 0++(y5 k l[k]).take j).map rP++[rP ((k:Int),t)]=(qB (l.take k) 0++(y5 k l[k]).take (j+1)).map rP:=by
    rw[ag,<-zq,za (l₂:=[((k:Int),t)])];rfl
   rw[ad]at ab;simp[go_sem,e3,Own.one a2,Own.cells a2];exact tC ⟨R,J,rfl,zUs a9,zUs ab,a0,aa⟩
  .rintro M ⟨I,o,rfl,h1,T,h3,h4⟩
   have a4:(y5 k l[k]).take ((vH l[k]).map fun t=>[aI t]).length=y5 k l[k]:=by
    rw[zM,yd (by rw[y5,zM];exact qt _)]
   rw[a4,<-P]at T;simp[go_sem,e9];refine Keep.loop (l.length-(k+1)) zOm ⟨k+1,I,o,rfl,zOm,zS1 e3,zS1 e7,zS1 e8,?_,zSi,zVs T,h3⟩;simp[go_sem];exact zWr
  .intro e M h;exact h.elim
 .have aj:k=l.length:=by omega
  subst aj;rw[qT,hm]at ho;simp[go_sem,e3,e8,e9,hm];exact cP ho
end GF
namespace GH
open P1 YF E3 EO EQ ER EW F1 F4 GF GG
abbrev lMd(l:List Md):AV := .lst false (l.map cMd)
theorem J6(xs:List Md):zi 4 (xs.map cMd):=fun r g=>by
 obtain⟨n,_,rfl⟩:=qo.1 g;exact⟨rfl,rfl⟩
theorem Kk:∀(r c x:List (List AV)),x∈subL c r->∀ y,y∈x->y∈c\/y∈r
 | [],c,x,h,y,g=>by rw[subL,qS]at h;subst h;exact .inl g
 |z :: r,c,x,h,y,g=>by
  rw[subL,qM]at h;rcases h with h|h
  .rcases Kk r c x h y g with h|h
   .exact .inl h
   .exact .inr (zP1 h)
  .rcases Kk r _ x h y g with h|h
   .rcases qM.1 h with h|h
    .exact .inl h
    .rw [qS]at h;subst h;exact .inr zSp
   .exact .inr (zP1 h)
def vI(inst:Nat->List (List AV)->Md)(cs:List (List AV))(k:Nat):List Md:=(qv k).flatMap fun s=>(subL [] cs).map (inst s)
theorem Kl(inst:Nat->List (List AV)->Md)(cs:List (List AV))(k:Nat):vI inst cs (k+1)=vI inst cs k++(subL [] cs).map (inst k):=by
 unfold vI;rw[List.range_succ,List.flatMap_append];simp
theorem UK(inst:Nat->List (List AV)->Md)(cs:List (List AV)):∀ k,(vI inst cs k).length=k*(subL [] cs).length
 | 0=>by simp[vI]
 |k+1=>by rw[Kl,q8,UK inst cs k,zM,Nat.succ_mul]
theorem cN{mu:Mu}{av:AV}{xs:List Md}(h:Own mu 4 av (xs.map cMd)):Rd mu av (lMd xs):=
 h.rd (J6 xs).ok fun r i c g=>by
  obtain⟨n,_,rfl⟩:=qo.1 i;simp at g;rcases g with rfl|rfl|rfl|rfl<;>first|exact HF.sc _|exact zm _|exact Xz _
theorem qmT(ts:TS)(sc:Sc)(bs:List Bd)(cs:List (List AV))(inst:Nat->List (List AV)->Md)(S:Nat)(hS:sc.sN=S)(b3:S<=4)(hr:Qj cs)(hl:cs.length<=14)(ay:S*(subL [] cs).length<=1000000)
  (aj:S*2 ^ cs.length<=16384)
  (J:qj qg 38 [eTS ts,eSc sc] (aB true)) (T:qj qg 39 [eTS ts,eSc sc,lBd bs] (aB true)) (h3:qj qg 40 [eTS ts,eSc sc,lBd bs] (.lst false cs))
  (hi:∀ k,k<S->∀ c,c∈subL [] cs->qj qg 42 [eTS ts,eSc sc,lBd bs,aI (k:Nat),.lst false c] (eMd (inst k c))):qj qg 13 [eTS ts,eSc sc,lBd bs] (.tup [lMd (vI inst cs S),aI 0]):=by
 refine qSU call13 func13 rfl ?_;refine fR J (.zk (zo _) (.zk (zF _) .nil)) ?_;refine fR T (.zk (zo _) (.zk (zF _) (.zk (yR _) .nil))) ?_;refine tT h3 (.zk (zo _) (.zk (zF _) (.zk (yR _) .nil))) ?_;have ak:¬(14:Int)<cs.length:=zOm;have n0:¬(cs.length:Int)<0:=zOm;have o:min cs.length 64=cs.length:=zOm;have az:(S:Int)*2 ^ cs.length<=16384:=by exact_mod_cast aj
 have b0:(0:Int)<=(S:Int)*2 ^ cs.length:=by exact_mod_cast Nat.zero_le _
 have al:qq.wrap ((S:Int)*2 ^ cs.length)=(S:Int)*2 ^ cs.length:=zWr;have an:¬(16384:Int)<(S:Int)*2 ^ cs.length:=zOm;simp[go_sem,ak,hS,n0,o,al,an];refine tK (fun m U=>∃ k t C,m=S-k/\k<=S/\U.tm 3 = .ip (cTS ts)/\U.tm 4 = .ip [lI sc.sC,aI sc.sN]/\U.tm 5 = .ip [lBd bs]/\U.tm 8 = .lst false cs/\U.tm 9 = .ptr 0 0/\U.tm 39=aI S/\U.tm 40=aI (k:Nat)/\U.mu = .arr [t] :: C/\Own U.mu 4 t ((vI inst cs k).map cMd)/\qp t≠some 0) S ?_ ?_
 .refine ⟨0,.lst true [],[],zOm,zOm,zSi,zS1 hS,zSi,zSi,zSi,zSi,zSi,zSi,?_,by simp[qp]⟩
  simp[go_sem,vI];exact .inl rfl
 rintro m U ⟨k,t,C,rfl,hk,e3,e4,e5,e8,e9,a1,a2,hm,ho,ao⟩;by_cases a8:k<S
 .have aq:=UK inst cs (k+1)
  have b1:=Nat.mul_le_mul_right (subL [] cs).length (show k+1<=S by omega);have a3:=Kl inst cs k;rw[hm]at ho;have ar:qp t≠some (C.length+1):=fun h=>by have:=Own.lt ho h;simp at this
  simp[go_sem,e8,a1,a2,hm,a8];refine fR (ql4 cs hr) (.zk (HF.lst fun r a4 x P=>(hr r a4).2.2 x P) .nil) ?_;refine tP (ql3 cs hr zOm) (fun j M=>∃ t l,M = .arr [t] :: l/\M[C.length+1]?=some (.arr [aI k])/\Own M 4 t ((vI inst cs k++((subL [] cs).map (inst k)).take j).map cMd)/\qp t≠some 0/\qp t≠some (C.length+1)) (fun _ _=>False) ?_ ?_ ?_ ?_ ?_ ?_
  .refine ⟨t,_,by simp only[qE,yH];rfl,zSi,?_,ao,ar⟩
   have:=Own.push ho [Cell.arr [aI k],.dead];simpa[go_sem] using this
  .rintro j M ⟨t,l,rfl,J,T,h3,h4⟩
   exact⟨t,l++[.dead],rfl,by rw[qI (qm.1 J).1];exact J,Own.push T _,h3,h4⟩
  .intro e M h;exact h
  .rintro j x M hj ⟨t,l,rfl,J,T,h3,h4⟩
   rw[zg,jW]at hj;obtain⟨c,hc,rfl⟩:=hj;have b4:j<(subL [] cs).length:=(qm.1 hc).1;have a9:c∈subL [] cs:=qZ hc;have au:((subL [] cs).map (inst k)).take (j+1)=((subL [] cs).map (inst k)).take j++[inst k c]:=by
    rw[List.take_add_one];have:((subL [] cs).map (inst k))[j]?=some (inst k c):=by rw[zg,hc];rfl
    rw[this];rfl
   refine⟨rfl,?_⟩;have aw:=(qm.1 J).1;have aa:=J;simp at aa;simp[go_sem];refine cJ zKr ?_;simp[go_sem,e3,e4,e5,e9,aa];refine tT (hi k a8 c a9) (.zk (zo _) (.zk (zF _) (.zk (yR _) (.zs (.zk (HF.lst ?_) .nil))))) ?_
   .exact fun r a4 x P=>(hr r (by rcases Kk cs [] c a9 r a4 with h|h;exact absurd h zSp;exact h)).2.2 x P
   simp[go_sem];refine qA.ownB (e:=44) (sz:=4) (bt:=64) (zv := .agg [.lst true [],aI 0,.lst true [],aI 0]) (xs:=vI inst cs k++((subL [] cs).map (inst k)).take j |>.map cMd) (ys:=[cMd (inst k c)]) zSi zSi zSi rfl rfl zOm zOm T (by simp[qF]) (J6 _) (J6 [inst k c]) ?_ ?_
   .have b5:=UK inst cs k
    rw[Kl,q8,zM]at aq;simp;omega
   intro R ab a5 ad ae b6;have a6:=ad 0 zSp h3;have af:=ad (C.length+1) aw h4;rw[J]at af;obtain⟨I,rfl⟩:∃ I,ab = .arr [t] :: I:=by
    cases ab with
    |nil=>simp at a6
    |cons c r=>simp at a6;exact⟨r,by rw[a6]⟩
   have a0:qp R≠some 0:=fun h=>by have:=ae _ h;simp at this
   have ag:qp R≠some (C.length+1):=fun h=>zW1 (ae _ h)
   have ah:=Own.set a5 (i:=0) (.arr [R]) a0;have ai:(vI inst cs k++((subL [] cs).map (inst k)).take j).map cMd++[cMd (inst k c)]=(vI inst cs k++((subL [] cs).map (inst k)).take (j+1)).map cMd:=by
    rw[au,<-zq,za (l₂:=[inst k c])];rfl
   rw[ai]at ah;simp[go_sem,e9,Own.one a5,Own.cells a5];exact tC ⟨R,I,rfl,zUs af,zUs ah,a0,ag⟩
  .rintro M ⟨t,l,rfl,J,T,h3,h4⟩
   have a7:((subL [] cs).map (inst k)).take ((subL [] cs).map fun c=>[AV.lst false c]).length=(subL [] cs).map (inst k):=by
    rw[zM,yd zSp]
   rw[a7,<-a3]at T;simp[go_sem,a2];refine Keep.loop (S-(k+1)) zOm ⟨k+1,t,l,rfl,zOm,zS1 e3,zS1 e4,zS1 e5,zS1 e8,zS1 e9,zS1 a1,?_,zSi,zVs T,h3⟩;simp[go_sem];exact zWr
  .intro e M h;exact h.elim
 .have ax:k=S:=by omega
  subst ax;rw[hm]at ho;simp[go_sem,e9,a1,a2,hm];refine .tup _ _ rfl fun j x y P hy=>?_
  match j with
  | 0=>simp at P hy;subst P;subst hy;exact cN ho
  | 1=>simp at P hy;subst P;subst hy;exact .zsc _
  |j+2=>simp at P
end GH
namespace GU
open YF P1 E1 E3 EO EQ F4 GF GH GR GS
abbrev Ch:=Int×Int×Int
abbrev rC(c:Ch):List AV:=[aI c.1,aI c.2.1,aI c.2.2]
theorem YI(l:List Ch):zi 3 (l.map rC):=fun r g=>by
 obtain⟨n,_,rfl⟩:=qo.1 g;exact⟨rfl,rfl⟩
abbrev lCh(l:List Ch):AV := .lst false (l.map rC)
def chA(g:List Bool)(s:Nat)(i:List (Int×Int)):List Ch:=(i.filter fun p=>decide (s=0)||g.getD p.1.toNat true).map fun p=>((s:Int),p.1,p.2)
def chs(g:List Bool)(i:List (Int×Int))(k:Nat):List Ch:=(qv k).flatMap fun s=>chA g s i
theorem Km(g:List Bool)(i:List (Int×Int))(k:Nat):chs g i (k+1)=chs g i k++chA g k i:=by
 rw[chs,List.range_succ,List.flatMap_append];simp[chs]
theorem qaD(i:List Bool)(s:Nat)(g:List (Int×Int))(j:Nat)(h:j<g.length):chA i s (g.take (j+1))=chA i s (g.take j)++(if (decide (s=0)||i.getD g[j].1.toNat true)=true then [((s:Int),g[j].1,g[j].2)] else []):=by
 rw[vK h,chA,List.filter_append,za];by_cases l:(decide (s=0)||i.getD g[j].1.toNat true)=true
 .rw [if_pos l,show [g[j]].filter (fun p=>decide (s=0)||i.getD p.1.toNat true)=[g[j]] from List.filter_cons_of_pos (p:=fun p:Int×Int=>decide (s=0)||i.getD p.1.toNat true) l];rfl
 .rw [if_neg l,show [g[j]].filter (fun p=>decide (s=0)||i.getD p.1.toNat true)=[] from List.filter_cons_of_neg (p:=fun p:Int×Int=>decide (s=0)||i.getD p.1.toNat true) l];rfl
theorem Kn(i:List Bool)(s:Nat)(g:List (Int×Int)):(chA i s g).length<=g.length:=by
 rw[chA,zM];grind
theorem Ko(i:List Bool)(g:List (Int×Int)):∀ k,(chs i g k).length<=k*g.length
 | 0=>by simp[chs]
 |k+1=>by
  rw[Km,q8,Nat.succ_mul];have:=Ko i g k;have:=Kn i k g;omega
theorem J7:∀(g:List Bd) (k:Nat),∀ p,p∈qB g k->(k:Int)<=p.1/\p.1<(k+g.length:Nat)
 | [],k,p,h=>by simp[qB]at h
 |b :: g,k,p,h=>by
  simp only[qB,qM]at h;rcases h with h|h
  .simp only[y5,qo]at h
   obtain⟨t,_,rfl⟩:=h;simp;omega
  .have:=J7 g (k+1) p h
   simp only[zD];omega
theorem qaE(ts:TS)(sc:Sc)(t:List Bd)(N:Nat)(hS:sc.sN=N)(hN:N<=4)(hl:t.length<=1000)(hb:∀ x,x∈t->Qk x)(ag:t.length<=ts.sA.length)(a9:(qB t 0).length<=100000) :
  qj qg 40 [eTS ts,eSc sc,lBd t] (lCh (chs (vsT ts) (qB t 0) N)):=by
 have R:=qaC t hl hb;have ah:=J5 t 0 hb;have a1:=J7 t 0;generalize hF:qB t 0=F at *
 refine qSV call40 func40 rfl ?_;simp[go_sem,hS];refine kM N (fun k U=>U.tm 2=lBd t/\U.tm 3 = .ip (cTS ts)/\U.tm 12=aI N/\U.tm 13=aI k/\Own U.mu 3 (U.tm 7) ((chs (vsT ts) F k).map rC)) ?_ ?_
 .exact ⟨zSi,zSi,zSi,zSi,.inl (by simp[go_sem,chs])⟩
 rintro k U hk ⟨e2,e3,l,o,ho⟩;by_cases a2:k<N
 .have w1:=zWk k
  have ai:=Ko (vsT ts) F k;have ae:k*F.length<=4*100000:=Nat.mul_le_mul zOm a9;simp[go_sem,e2,l,o,a2];refine fR R (.zk (yR _) .nil) ?_;refine kM F.length (fun j st2=>st2.tm 2=lBd t/\st2.tm 3 = .ip (cTS ts)/\st2.tm 12=aI N/\st2.tm 13=aI k/\st2.tm 8=aI k/\st2.tm 17=lP F/\st2.tm 18=aI F.length/\st2.tm 19=aI j/\Own st2.mu 3 (st2.tm 7) ((chs (vsT ts) F k++chA (vsT ts) k (F.take j)).map rC)) ?_ ?_
  .simp_all [go_sem,chA]
  clear e2 e3 l o;rintro j st2 hj ⟨e2,e3,l,o,e8,a3,T,a4,C⟩;by_cases I:j<F.length
  .have w2:=zWk j
   have hm:=a1 _ (qs I);obtain⟨f,hf⟩:=Int.eq_ofNat_of_zero_le (show 0<=F[j].1 by omega);have a5:f<ts.sA.length:=zOm;have aa:0<=F[j].1:=zOm;have ab:F[j].1.toNat=f:=zOm;have a6:F[j].1<ts.sA.length:=zOm;have ad:(vsT ts).getD F[j].1.toNat true=ts.sA[f].var:=by grind
   have aj:=Kn (vsT ts) k (F.take j);have ak:=List.length_take_le j F;have hs:=qaD (vsT ts) k F j I;rw[ad]at hs;have af:∀(K:AV->Mu->Prop) (c:Cell),(∀ a7 a8,Own a8 3 a7 ((chs (vsT ts) F k++(chA (vsT ts) k (F.take j)++[((k:Int),F[j].1,F[j].2)])).map rC)->K a7 a8)->qA qg (st2.mu++[c]) #[100,100] (st2.tm 7) (.lst true [[aI k,aI F[j].1,aI F[j].2]]) K:=fun K c hK=>by
    refine qA.ownB (e:=144) (sz:=3) (bt:=24) (zv := .agg [aI 0,aI 0,aI 0]) (xs:=(chs (vsT ts) F k++chA (vsT ts) k (F.take j)).map rC) (ys:=[rC ((k:Int),F[j].1,F[j].2)]) zSi zSi zSi rfl rfl zOm zOm (Own.push C _) (by simp[qF]) (YI _) (YI [_]) zSo ?_
    grind
   by_cases P:(decide (k=0)||ts.sA[f].var)=true
   .rw [if_pos P]at hs
    by_cases J:k=0
    .simp_all [go_sem,aK]
    .have hv:ts.sA[f].var=true:=by simpa[J] using P
     simp_all[go_sem,aK]
   .rw [if_neg P,zN]at hs
    have J:¬k=0:=fun h=>P (zP1 h)
    have hv:ts.sA[f].var=false:=by simpa[J] using P
    simp[go_sem,e3,e8,a3,T,a4,I,J,aa,ab,a6,a5,hv,w2]
    try refine⟨I,aK ?_⟩
    try refine aK ?_
    refine⟨zS1 e2,zS1 e3,zS1 l,zS1 o,zS1 e8,zS1 a3,zS1 T,zSi,?_⟩;rw[hs];simpa[go_sem] using Own.push C _
  .have a0:j=F.length:=by omega
   subst a0;rw[qT]at C;simp[go_sem,o,T,a4,w1]
   try refine⟨a2,aK ?_⟩
   try refine aK ?_
   refine⟨zS1 e2,zS1 e3,zS1 l,zSi,?_⟩;rw[Km];simpa[go_sem] using C
 .have a0:k=N:=by omega
  subst a0;simp[go_sem,l,o];exact Own.rd ho (YI _).ok fun r hr c P=>by
   obtain⟨n,_,rfl⟩:=qo.1 hr;simp at P;rcases P with rfl|rfl|rfl<;>exact HF.sc _
def selT(g:List Ch)(s f:Nat):List Int:=(g.filter fun c:Ch=>decide (c.1=(s:Int))&&decide (c.2.1=(f:Int))).map fun c=>c.2.2
def uQ(g:List Ch)(s f:Nat)(b:Bd):Rl:=unR b.lo ⟨b.lo.ar,selT g s f⟩
def jn(i:List Bool)(j:List Bd)(g:List Ch)(s:Nat):List Rl:=j.mapIdx fun f b=>if s≠0/\i.getD f true=false then uQ g 0 f b else uQ g s f b
theorem ZT(i:List Bool)(g:List Bd)(j:List Ch)(s:Nat):(jn i g j s).length=g.length:=by simp[jn]
theorem YJ(j:List Bool)(g:List Bd)(i:List Ch)(s f:Nat)(h:f<g.length)(l:f<(jn j g i s).length):(jn j g i s)[f]=if s≠0/\j.getD f true=false then uQ i 0 f g[f] else uQ i s f g[f]:=by simp[jn]
theorem qmU(g:List Ch)(s f i:Nat)(h:i<g.length):selT (g.take (i+1)) s f=selT (g.take i) s f++(if g[i].1=s/\g[i].2.1=f then [g[i].2.2] else []):=by
 rw[vK h,selT,List.filter_append,za];by_cases j:g[i].1=s/\g[i].2.1=f
 .rw [if_pos j,show [g[i]].filter (fun c:Ch=>decide (c.1=(s:Int))&&decide (c.2.1=(f:Int)))=[g[i]] from List.filter_cons_of_pos (p:=fun c:Ch=>decide (c.1=(s:Int))&&decide (c.2.1=(f:Int))) (zUs j)];rfl
 .rw [if_neg j,show [g[i]].filter (fun c:Ch=>decide (c.1=(s:Int))&&decide (c.2.1=(f:Int)))=[] from List.filter_cons_of_neg (p:=fun c:Ch=>decide (c.1=(s:Int))&&decide (c.2.1=(f:Int))) (zUs j)];rfl
theorem qaF(g:List Ch)(s f:Nat):(selT g s f).length<=g.length:=by rw[selT,zM];exact List.length_filter_le ..
abbrev zR:List AV:=[aI 0,.lst true []]
def jo(L:List Rl)(n j:Nat):List (List AV):=(L.take j).map cRel++qX (n-j) zR
theorem qaG(L:List Rl)(n j:Nat)(g:L.length=n)(h:j<=n):(jo L n j).length=n:=by grind [jo]
theorem qaH(L:List Rl)(n j:Nat):yQ 2 (jo L n j):=fun r g=>by
 simp only[jo,qM,qo,List.mem_replicate]at g;rcases g with ⟨q,_,rfl⟩|⟨_,rfl⟩<;>rfl
theorem qmV(L:List Rl)(n j:Nat)(i:L.length=n)(h:j<n):(jo L n j).set j (cRel (L[j]' zOm))=jo L n (j+1):=by
 unfold jo;have g:((L.take j).map cRel).length=j:=zSo;rw[List.set_append_right _ _ zOm,g,Nat.sub_self,show n-j=n-(j+1)+1 by omega,List.replicate_succ,List.set_cons_zero,vK (show j<L.length by omega),za,zq];rfl
theorem qmW(L:List Rl)(n:Nat)(g:L.length=n):jo L n n=L.map cRel:=by
 unfold jo;rw[<-g,qT,Nat.sub_self];simp
structure qaI (b:Bd):Prop where
 l:b.lo.ts.length<=50000
def yU(sc:Sc)(g:List Bool)(i:List Bd)(j:List Ch)(N:Nat)(loop:Int):Md:=⟨sc,(qv N).map (jn g i j),loop⟩
theorem qmX(ts:TS)(sc:Sc)(o:List Bd)(C:List Ch)(loop:Int)(N:Nat)(hS:sc.sN=N)(hN:N<=4)(hl:o.length<=1000)(hb:∀ x,x∈o->qaI x)(dc:o.length<=ts.sA.length)(dd:C.length<=50000) :
  qj qg 42 [eTS ts,eSc sc,lBd o,aI loop,lCh C] (eMd (yU sc (vsT ts) o C N loop)):=by
 have bj:eMd (yU sc (vsT ts) o C N loop) = .agg [lI sc.sC,aI N,lSt ((qv N).map (jn (vsT ts) o C)),aI loop]:=by rw[<-hS];rfl
 rw[bj];have a0:=ZT (vsT ts) o C;have bk:=YJ (vsT ts) o C;clear bj;generalize hA:jn (vsT ts) o C=A at a0 bk⊢;refine qSV call42 func42 rfl ?_;simp[go_sem,hS];refine kM N (fun k U=>U.tm 2=lBd o/\U.tm 4=lCh C/\U.tm 5 = .ip (cTS ts)/\U.tm 10 = .ptr 0 0/\U.tm 11 = .ptr 1 0/\U.tm 23=aI N/\U.tm 24=aI k /\
  ∃ s,U.mu[0]?=some (.arr [.lst true [],aI 0,.lst true [],aI 0])/\U.mu[1]?=some (.arr [lI sc.sC,aI N,s,aI loop])/\Own U.mu 1 s (((qv k).map A).map fun r=>[lRel r])/\∀ b,qp s=some b->2<=b) ?_ ?_
 .exact ⟨zSi,zSi,zSi,zSi,zSi,zSi,zSi,.lst true [],zSi,zSi,.inl zSp,by simp[qp]⟩
 rintro k U hk ⟨e2,e4,e5,ck,cl,bm,bn,s,h0,h1,ho,bb⟩;have cm:=(qm.1 h0).1;have de:=(qm.1 h1).1;by_cases bo:k<N
 .have w1:=zWk k
  have cn:(o.length:Int)<=4294967296:=zOm;simp[go_sem,e2,bm,bn,bo,cn];have bq:∀ b,qp s=some b->b<U.mu.length:=fun b h=>Own.lt ho h
  have df:2<=U.mu.length:=zOm;have dh:(qX o.length [AV.sc (Value.int qq 0),AV.lst true []]).flatten=(jo (A k) o.length 0).flatten:=by simp[jo]
  generalize hR:U.mu.length=R at *
  refine kM o.length (fun j st2=>st2.tm 2=lBd o/\st2.tm 4=lCh C/\st2.tm 5 = .ip (cTS ts)/\st2.tm 10 = .ptr 0 0/\st2.tm 11 = .ptr 1 0/\st2.tm 23=aI N/\st2.tm 24=aI k/\st2.tm 12=aI k/\st2.tm 13 = .sl R 2 0 o.length/\st2.tm 30=lBd o/\st2.tm 31=aI o.length/\st2.tm 32=aI j /\
   st2.mu[R]?=some (.arr (jo (A k) o.length j).flatten)/\∀ i,i<R->st2.mu[i]?=U.mu[i]?) ?_ ?_
  .simp_all [go_sem]
  rintro j st2 hj ⟨f2,f4,f5,f10,f11,f23,f24,f12,f13,f30,f31,f32,an,P⟩;have cp:R<st2.mu.length:=(qm.1 an).1;have b7:st2.mu[1]?=some (.arr [lI sc.sC,aI N,s,aI loop]):=by grind
  by_cases I:j<o.length
  .have w2:=zWk j
   have bc:j<ts.sA.length:=zOm;have cq:(vsT ts).getD j true=ts.sA[j].var:=by rw[zH,zg,qy bc];rfl
   have ao:(jo (A k) o.length j).flatten.length=o.length*2:=by rw[yP (qaH _ _ _),qaG _ _ _ (a0 k) zOm]
   have a3:∀ s,j<(A s).length:=fun s=>by grind
   have a9:(jo (A k) o.length j).flatten.take (j*2)++aI ((A k)[j]'(a3 k)).ar :: lI ((A k)[j]'(a3 k)).ts :: (jo (A k) o.length j).flatten.drop (j*2+2)=(jo (A k) o.length (j+1)).flatten:=by
    rw[<-qmV (A k) o.length j (a0 k) I,Jk _ j _ (qaH _ _ _) rfl (by grind [qaG]),je _ _ _ (by rw[ao];simp only[cRel,zD,List.length_nil];omega)];simp
   have b8:∀ c,(st2.mu++[c])[R]?=some (.arr (jo (A k) o.length j).flatten):=fun c=>by grind
   simp[go_sem,f12,f30,f31,f32,I];by_cases be:k≠0/\ts.sA[j].var=false
   .obtain ⟨bg,hv⟩:=be
    have a2:0<k:=zOm;have aa:(A k)[j]'(a3 k)=(A 0)[j]'(a3 0):=by
     grind
    rw[aa]at a9;have bh:∀ c,(st2.mu++[c])[1]?=some (.arr [lI sc.sC,aI N,s,aI loop]):=fun c=>by grind
    have da:=a3 0;have cr:(((qv k).map A).map fun r=>[lRel r]).flatten[0]?=some (lRel (A 0)):=by
     obtain⟨k',rfl⟩:∃ k',k=k'+1:=⟨k-1,zOm⟩;rw[List.range_succ_eq_map];simp
    have cs:(((qv k).map A).map fun r=>[lRel r]).length=k:=zSp;generalize ab:(((qv k).map A).map fun r=>[lRel r])=rows at *
    have di:rows[0]?=some [lRel (A 0)]:=by
     rw[<-ab];obtain⟨k',rfl⟩:∃ k',k=k'+1:=⟨k-1,zOm⟩;simp
    have br:(rows.map List.length).sum=k:=by
     have:=yP (sz:=1) (xs:=rows) (by rw[<-ab];intro r hr;obtain⟨n,_,rfl⟩:=qo.1 hr;rfl);rw[List.length_flatten]at this;omega
    have bu:rows.flatten.take 1=[lRel (A 0)]:=by
     cases dj:rows.flatten with
     |nil=>grind
     |cons x l=>grind
    simp[go_sem,f5,f11,f13,a2,bc,hv,bh];rcases ho with rfl|⟨c,rfl,bv⟩
    .refine tS (.ip [lRel (A 0)]) (by grind) ?_
     simp[go_sem,I,b8,a0,ao];refine tS ((st2.mu++[Cell.arr (cBd o[j])]).set R (.arr (jo (A k) o.length (j+1)).flatten)) (by rw[if_pos zOm,a9]) ?_;simp[go_sem,f32,I,w2]
     try refine⟨I,aK ?_⟩
     try refine aK ?_
     refine⟨zS1 f2,zS1 f4,zS1 f5,zS1 f10,zS1 f11,zS1 f23,zS1 f24,zS1 f12,zS1 f13,by simp[go_sem,f30],by simp[go_sem,f31],zSi,?_,fun i hi=>?_⟩
     .simp only[qE];rw[qL zSo]
     grind [qE,yb,qI]
    .have dk:=(qm.1 bv).1
     have bw:∀ x,(st2.mu++[x])[c]?=some (.arr rows.flatten):=fun x=>by rw[zGa,P c zOm];exact bv
     simp[go_sem,a2,bw,cs];refine tS (lRel (A 0)) (by rw[br,if_pos zOm,bu];rfl) ?_;simp[go_sem,I,b8,a0,ao];refine tS ((st2.mu++[Cell.arr (cBd o[j])]).set R (.arr (jo (A k) o.length (j+1)).flatten)) (by rw[if_pos zOm,a9]) ?_;simp[go_sem,f32,I,w2]
     try refine⟨I,aK ?_⟩
     try refine aK ?_
     refine⟨zS1 f2,zS1 f4,zS1 f5,zS1 f10,zS1 f11,zS1 f23,zS1 f24,zS1 f12,zS1 f13,by simp[go_sem,f30],by simp[go_sem,f31],zSi,?_,fun i hi=>?_⟩
     .simp only[qE];rw[qL zSo]
     .simp only[qE];rw[zGl,zGa];exact P i hi
   .have aa:(A k)[j]'(a3 k)=uQ C k j o[j]:=by
     rw[bk k j I,cq];by_cases bg:k=0
     .rw [if_neg (fun h=>h.1 bg)]
     .rw [if_neg (fun h=>be h)]
    rw[aa]at a9;have ct:0<k->ts.sA[j].var=true:=fun bg=>by
     cases hv:ts.sA[j].var with
     |true=>rfl
     |false=>exact absurd ⟨zOm,hv⟩ be
    generalize hX:st2.mu.length=X at *
    by_cases a2:0<k
    all_goals simp[go_sem,f4,f5,a2,bc,ct,hX]
    all_goals
     refine kM C.length (fun i st3=>st3.tm 2=lBd o/\st3.tm 4=lCh C/\st3.tm 5 = .ip (cTS ts)/\st3.tm 10 = .ptr 0 0/\st3.tm 11 = .ptr 1 0/\st3.tm 23=aI N/\st3.tm 24=aI k/\st3.tm 12=aI k/\st3.tm 13 = .sl R 2 0 o.length/\st3.tm 30=lBd o/\st3.tm 31=aI o.length/\st3.tm 32=aI j /\
      st3.tm 14=aI j/\st3.tm 15 = .ptr X 0/\st3.tm 16 = .ptr (X+1) 0/\st3.tm 62=lCh C/\st3.tm 63=aI C.length/\st3.tm 64=aI i/\st3.mu[X]?=some (.arr (cBd o[j]))/\(∀ i,i<X->st3.mu[i]?=st2.mu[i]?) /\
      ∃ t,st3.mu[X+1]?=some (.arr [aI o[j].lo.ar,t])/\Own st3.mu 1 t ((selT (C.take i) k j).map rI)/\∀ b,qp t=some b->X+1<b) ?_ ?_
     .refine ⟨zS1 f2,zS1 f4,zS1 f5,zS1 f10,zS1 f11,zS1 f23,zS1 f24,zS1 f12,zS1 f13,by simp[go_sem,f30],by simp[go_sem,f31],by simp[go_sem,f32],zSi,zSi,zSi,zSi,zSi,zSi,zS1 hX,fun i hi=>by simp[go_sem];rw[zGa],.lst true [],zS1 hX,.inl (by simp[selT]),by simp[qp]⟩
     rintro i st3 hi ⟨g2,g4,g5,aq,au,aw,ax,ad,ae,ay,az,b0,a4,b1,a5,b2,af,ag,ca,J,t,b3,ah,a6⟩;by_cases T:i<C.length
     .have w3:=zWk i
      have a7:=qmU C k j i T;have cb:=qaF (C.take i) k j;have db:=List.length_take_le i C;have cc:=(qm.1 b3).1;have bi:∀ c,(st3.mu++[c])[X]?=some (.arr (cBd o[j])):=fun c=>by rw[zGa];exact ca
      have b4:∀ c,(st3.mu++[c])[X+1]?=some (.arr [aI o[j].lo.ar,t]):=fun c=>by rw[qI cc];exact b3
      have cd:qp t≠some (X+1):=fun h=>zW1 (a6 _ h)
      simp[go_sem,ad,b2,af,ag,T];by_cases ai:C[i].1=(k:Int)
      .by_cases b5:C[i].2.1=(j:Int)
       .rw [if_pos ⟨ai,b5⟩]at a7
        simp[go_sem,a4,a5,b4,ai,b5];refine qA.ownB (e:=3) (sz:=1) (bt:=8) (zv:=aI 0) (xs:=(selT (C.take i) k j).map rI) (ys:=[rI C[i].2.2]) zSi zSi zSi rfl rfl zOm zOm (Own.push ah _) (by simp[qF]) (yu _) (yu [_]) zSo ?_;intro aj ak a1 a8 b6 cu;have q1:ak[X+1]?=some (.arr [aI o[j].lo.ar,t]):=by rw[a8 _ zSo cd];exact b4 _
        have q0:ak[X]?=some (.arr (cBd o[j])):=by rw[a8 _ zSo (fun h=>zW1 (a6 _ h))];exact bi _
        have ql:=(qm.1 q1).1;have cf:∀ b,qp aj=some b->X+1<b:=fun b h=>by have:=b6 b h;simp at this;omega
        simp[go_sem,a5,ag,T,q1,w3,Own.one a1,Own.cells a1]
        try refine⟨T,aK ?_⟩
        try refine aK ?_
        refine⟨zS1 g2,zS1 g4,zS1 g5,zS1 aq,zS1 au,zS1 aw,zS1 ax,zS1 ad,zS1 ae,zS1 ay,zS1 az,zS1 b0,zS1 a4,zS1 b1,zS1 a5,zS1 b2,zS1 af,zSi,?_,fun i hi=>?_,aj,?_,?_,cf⟩
        .simp only[qE];rw[zGl];exact q0
        .simp only[qE];rw[zGl,a8 i zSo (fun h=>zW1 (a6 _ h)),zGa];exact J i hi
        .simp only[qE];exact qL ql
        .simp only[qE];rw[a7,za];exact Own.set a1 _ (fun h=>zW1 (cf _ h))
       .rw [if_neg (fun h=>b5 h.2),zN]at a7
        simp[go_sem,a4,ag,T,ai,b5,w3]
        try refine⟨T,aK ?_⟩
        try refine aK ?_
        refine⟨zS1 g2,zS1 g4,zS1 g5,zS1 aq,zS1 au,zS1 aw,zS1 ax,zS1 ad,zS1 ae,zS1 ay,zS1 az,zS1 b0,zS1 a4,zS1 b1,zS1 a5,zS1 b2,zS1 af,zSi,?_,fun i hi=>?_,t,?_,?_,a6⟩
        .simp only[qE];exact bi _
        .simp only[qE];rw[zGa];exact J i hi
        .simp only[qE];exact b4 _
        .simp only[qE];rw[a7];exact Own.push ah _
      .rw [if_neg (fun h=>ai h.1),zN]at a7
       simp[go_sem,ag,T,ai,w3]
       try refine⟨T,aK ?_⟩
       try refine aK ?_
       refine⟨zS1 g2,zS1 g4,zS1 g5,zS1 aq,zS1 au,zS1 aw,zS1 ax,zS1 ad,zS1 ae,zS1 ay,zS1 az,zS1 b0,zS1 a4,zS1 b1,zS1 a5,zS1 b2,zS1 af,zSi,?_,fun i hi=>?_,t,?_,?_,a6⟩
       .simp only[qE];exact bi _
       .simp only[qE];rw[zGa];exact J i hi
       .simp only[qE];exact b4 _
       .simp only[qE];rw[a7];exact Own.push ah _
     .have al:i=C.length:=by omega
      subst al;rw[qT]at ah;simp[go_sem,ae,a4,b1,a5,af,ag,ca,b3];have cb:=qaF C k j;have cv:=vr o[j].lo ⟨o[j].lo.ar,selT C k j⟩ (zW1 ((hb _ (qs I)).l)) (by show (selT C k j).length<=_;omega);have b9:∀ i,i<X->(cutM (fun i=>!decide (X<=i)) st3.mu 0)[i]?=st2.mu[i]?:=fun i hi=>by
       rw[jG,J i hi];simp only[ye,decide_eq_false (show ¬X<=i by omega),Bool.not_false,if_true];cases st2.mu[i]?<;>rfl
      refine fQ (qD.freeze (args1:=[eRel o[j].lo,eRel ⟨o[j].lo.ar,selT C k j⟩]) (fun i=>decide (X<=i)) ⟨.inl rfl,.inr ?_,trivial⟩ (qj.toSound _ cv (.zk (q9 _) (.zk (q9 _) .nil)))) ?_ ?_
      .exact Rd.aggs ⟨.hf _ (HF.sc _),Own.rd (Yz ah fun b h=>zW1 (a6 b h)) (yu _).ok fun r hr c hc=>by
        obtain⟨n,_,rfl⟩:=qo.1 hr;simp at hc;subst hc;exact HF.sc _,trivial⟩
      .rintro r m ⟨h,rfl⟩
       cases h;have cg:(cutM (fun i=>!decide (X<=i)) st3.mu 0)[R]?=some (.arr (jo (A k) o.length j).flatten):=by rw[b9 R cp];exact an
       simp[go_sem,cg,I,ao];have dm:(cutM (fun i=>!decide (X<=i)) st3.mu 0).length=st3.mu.length:=jM _ _ _;have cc:=(qm.1 b3).1;refine tS ((cutM (fun i=>!decide (X<=i)) st3.mu 0).set R (.arr (jo (A k) o.length (j+1)).flatten)) (by rw[if_pos zOm];exact congrArg (fun l=>some ((cutM (fun i=>!decide (X<=i)) st3.mu 0).set R (Cell.arr l))) a9) ?_;simp[go_sem,b0,I,w2]
       try refine⟨I,aK ?_⟩
       try refine aK ?_
       refine⟨zS1 g2,zS1 g4,zS1 g5,zS1 aq,zS1 au,zS1 aw,zS1 ax,zS1 ad,zS1 ae,zS1 ay,zS1 az,zSi,?_,fun i hi=>?_⟩
       .simp only[qE];rw[qL zOm]
       .simp only[qE];rw[zGl,b9 i zOm];exact P i hi
      .rintro r m ⟨h,_⟩
       cases h
  .have al:j=o.length:=by omega
   subst al;rw[qmW _ _ (a0 k)]at an;have cx:Own st2.mu 2 (.sl R 2 0 o.length) ((A k).map cRel) := .inr ⟨R,zP1 a0,an⟩;simp[go_sem,f11,f13,f31,f32,b7];refine aQ (e:=87) (sz:=1) (bt:=24) (zv := .lst true []) (xs:=((qv k).map A).map fun r=>[lRel r]) [lRel (A k)] R zSi zSi zSi rfl rfl zOm zOm ?_ bq ?_ ?_ ?_ zSo ?_
   .rcases ho with h|⟨b,h,hc⟩
    .exact .inl h
    .exact .inr ⟨b,h,by rw[P b (bq b (by rw[h];rfl))];exact hc⟩
   .exact ⟨Own.rd (Yz cx fun b h=>by cases h;exact qt _) (vF _).ok fun r hr c hc=>by
     obtain⟨n,_,rfl⟩:=qo.1 hr;exact ZE n c hc,trivial⟩
   .intro r hr
    obtain⟨n,_,rfl⟩:=qo.1 hr;exact⟨rfl,rfl⟩
   .intro r hr
    simp at hr;subst hr;exact⟨rfl,rfl⟩
   intro aj ak a1 a8 b6 cu dn;have g1:ak[1]?=some (.arr [lI sc.sC,aI N,s,aI loop]):=by rw[a8 1 zOm zOm (fun h=>zW1 (bb 1 h))];exact b7
   have g0:ak[0]?=some (.arr [.lst true [],aI 0,.lst true [],aI 0]):=by rw[a8 0 zOm zOm (fun h=>zW1 (bb 0 h)),P 0 zOm];exact h0
   have l1:=(qm.1 g1).1;simp[go_sem,f11,f24,g1,w1,Own.one a1,Own.cells a1]
   try refine⟨bo,aK ?_⟩
   try refine aK ?_
   refine⟨zS1 f2,zS1 f4,zS1 f5,zS1 f10,zS1 f11,zS1 f23,zSi,aj,zS1 g0,zS1 l1,?_,fun b h=>zW1 (b6 b h)⟩;rw[List.range_succ,za,za];simpa[go_sem] using Own.set a1 (.arr [lI sc.sC,aI N,aj,aI loop]) (fun h=>zW1 (b6 1 h))
 .have al:k=N:=by omega
  subst al;have cy:s.one=true:=Own.one ho;have dp:s.cells=[s]:=Own.cells ho;have cj:∀ c,(U.mu.set 0 c)[0]?=some c:=fun c=>qL cm
  simp[go_sem,ck,cl,bm,bn,h0,h1,cy,cj];have cz:=Own.set ho (i:=0) (.arr [lI sc.sC,aI k,s,aI loop]) (fun h=>zW1 (bb 0 h));refine Rd.aggs ⟨.hf _ (zm _),.hf _ (HF.sc _),?_,.hf _ (HF.sc _),trivial⟩;exact Own.rd cz (fun r hr=>by
   obtain⟨n,_,rfl⟩:=qo.1 hr;rfl) fun r hr c hc=>by
   obtain⟨n,_,rfl⟩:=qo.1 hr;simp at hc;subst hc;exact W9 n
end GU
namespace GY
open YF P1 E3 GF GG GH GS GU
section
variable {J:Type}
def subs:List J->List J->List (List J)
 |c,[]=>[c]
 |c,a :: r=>subs c r++subs (c++[a]) r
theorem UL:∀(r c:List J),(subs c r).length=2 ^ r.length
 | [],c=>rfl
 |a :: r,c=>by rw[subs,q8,UL r,UL r,zD,Nat.pow_succ];omega
theorem ZU:∀(r c x:List J),x∈subs c r↔∃ y,y.Sublist r/\x=c++y
 | [],c,x=>by simp[subs]
 |a :: r,c,x=>by
  rw[subs,qM,ZU r,ZU r];constructor
  .rintro (⟨y,h,rfl⟩|⟨y,h,rfl⟩)
   .exact ⟨y,h.cons _,rfl⟩
   .exact ⟨a :: y,h.cons_cons _,zSp⟩
  .rintro ⟨y,h,rfl⟩
   cases h with
   |cons _ h=>exact .inl ⟨y,h,rfl⟩
   |cons_cons _ h=>exact .inr ⟨_,h,zSp⟩
theorem YK:∀(r c:List Ch),subL (c.map rC) (r.map rC)=(subs c r).map (List.map rC)
 | [],c=>rfl
 |a :: r,c=>by
  rw[z6,subL,subs,za,YK r c,show c.map rC++[rC a]=(c++[a]).map rC by simp,YK r]
def deI:AV->Int
 | .sc (.int _ n)=>n
 |_=>0
def deC:List AV->Ch
 | [a,b,c]=>(deI a,deI b,deI c)
 |_=>(0,0,0)
theorem qaJ(c:List Ch):(c.map rC).map deC=c:=by
 rw[List.map_map];exact(List.map_congr_left fun x _=>rfl).trans (List.map_id c)
def v6(sc:Sc)(g:List Bool)(i:List Bd)(j:List Ch)(N:Nat):List Md:=(qv N).flatMap fun k:Nat=>(subs [] j).map fun c=>yU sc g i c N (k:Int)
theorem qaK(sc:Sc)(g:List Bool)(i:List Bd)(j:List Ch)(N:Nat):vI (fun k c=>yU sc g i (c.map deC) N (k:Int)) (j.map rC) N=v6 sc g i j N:=by
 unfold vI v6;congr 1;funext s;rw[show ([]:List (List AV))=([]:List Ch).map rC from rfl,YK,List.map_map];exact List.map_congr_left fun c _=>by simp only[Function.comp_apply,qaJ]
theorem qmY(sc:Sc)(i:List Bool)(j:List Bd)(g:List Ch)(N:Nat):(v6 sc i j g N).length=N*2 ^ g.length:=by
 rw[<-qaK,UK,show ([]:List (List AV))=([]:List Ch).map rC from rfl,YK,zM,UL]
theorem Kq{sc:Sc}{j:List Bool}{l:List Bd}{o:List Ch}{N:Nat}{m:Md}:m∈v6 sc j l o N↔∃(k:Nat) (c:List Ch),k<N/\c.Sublist o/\m=yU sc j l c N k:=by
 simp only[v6,uW,zY,qo];constructor
 .rintro ⟨k,g,c,i,rfl⟩
  obtain⟨y,p,rfl⟩:=(ZU _ _ _).1 i;exact⟨k,_,g,p,rfl⟩
 .rintro ⟨k,c,g,i,rfl⟩
  exact⟨k,g,c,(ZU _ _ _).2 ⟨c,i,rfl⟩,rfl⟩
theorem qmZ(l:List Ch):Qj (l.map rC):=fun r i=>by
 obtain⟨n,_,rfl⟩:=qo.1 i;exact⟨rfl,rfl,fun c g=>by simp at g;rcases g with rfl|rfl|rfl<;>exact HF.sc _⟩
theorem qm0(ts:TS)(sc:Sc)(g:List Bd)(N:Nat)(l:sc.sN=N)(o:N<=4)(P:g.length<=1000)(U:∀ x,x∈g->Qk x)(hi:∀ x,x∈g->qaI x)(i:g.length<=ts.sA.length)(p:(qB g 0).length<=100000)
  (r:(chs (vsT ts) (qB g 0) N).length<=14) (t:N*2 ^ (chs (vsT ts) (qB g 0) N).length<=16384)
  (h1:qj qg 38 [eTS ts,eSc sc] (aB true)) (h2:qj qg 39 [eTS ts,eSc sc,lBd g] (aB true)) :
  qj qg 13 [eTS ts,eSc sc,lBd g] (.tup [lMd (v6 sc (vsT ts) g (chs (vsT ts) (qB g 0) N) N),aI 0]):=by
 rw[<-qaK];generalize C:chs (vsT ts) (qB g 0) N=j at *
 have R:=qaE ts sc g N l o P U i p;rw[C]at R;have I:(subL [] (j.map rC)).length=2 ^ j.length:=by
  rw[show ([]:List (List AV))=([]:List Ch).map rC from rfl,YK,zM,UL]
 refine qmT ts sc g (j.map rC) _ N l o (qmZ j) (zUs r) (by rw[I];omega) (zUs t) h1 h2 R fun k hk c T=>?_
 rw[show ([]:List (List AV))=([]:List Ch).map rC from rfl,YK]at T;obtain⟨c',J,rfl⟩:=qo.1 T;obtain⟨y,hy,rfl⟩:=(ZU _ _ _).1 J;rw[qaJ];exact qmX ts sc g _ k N l o P hi i (by have:=hy.length_le;simp;omega)
end
end GY
namespace GN
open E3
instance:DecidableEq Sc:=fun a b=>decidable_of_iff (a.sC=b.sC/\a.sN=b.sN) (by
 obtain⟨a1,a2⟩:=a;obtain⟨b1,b2⟩:=b;simp)
instance:DecidableEq Md:=fun a b=>decidable_of_iff (a.sc=b.sc/\a.sK=b.sK/\a.loop=b.loop) (by
 obtain⟨a1,a2,a3⟩:=a;obtain⟨b1,b2,b3⟩:=b;simp)
end GN
namespace GV
open Y1 YF P1 E3 EO EQ F1 F4 GF GH GR GS
def modG(i:Md->Bool×Int):List Md->List Md->List Md×Int
 |g,[]=>(g,0)
 |g,m :: l=>if (i m).2≠0 then ([],(i m).2) else modG i (if (i m).1=true then g++[m] else g) l
def modV(i:Md->Bool×Int)(L:List Md)(g:Int):List Md×Int:=if g≠0 then ([],g) else modG i [] L
theorem qm1(l:List Md):HF (lMd l):=HF.lst fun r i c g=>by
 obtain⟨n,_,rfl⟩:=qo.1 i;simp at g;rcases g with rfl|rfl|rfl|rfl<;>first|exact HF.sc _|exact zm _|exact Xz _
theorem qm2(ts:TS)(sc:Sc)(bs:List Bd)(n:Nd)(L:List Md)(e0:Int)(J:Md->Bool×Int)(hl:L.length<=1000000)
  (hI:qj qg 13 [eTS ts,eSc sc,lBd bs] (.tup [lMd L,aI e0]))
  (hH:∀ m,m∈L->qj qg 16 [eTS ts,eMd m,eNd n] (.tup [aB (J m).1,aI (J m).2])) :
  qj qg 14 [eTS ts,eSc sc,lBd bs,eNd n] (.tup [lMd (modV J L e0).1,aI (modV J L e0).2]):=by
 refine qSU call14 func14 rfl ?_;refine tT hI (.zk (zo _) (.zk (zF _) (.zk (yR _) .nil))) ?_;have a8:∀(l:List Md) (e:Int),HF (.tup [lMd l,aI e]):=fun l e=>HF.tup (by simp only[qz,qN,or_false,forall_eq_or_imp,forall_eq];exact⟨qm1 _,HF.sc _⟩)
 have a2:∀(C:Mu) (e:Int),Rd C (.tup [.lst true [],aI e]) (.tup [lMd [],aI e]):=fun C e=>by
  refine .tup _ _ rfl fun j x y I T=>?_
  match j with
  | 0=>simp at I T;subst I;subst T;exact .wk _ true _ (.hf _ (HF.lst fun r hr=>by simp at hr))
  | 1=>simp at I T;subst I;subst T;exact .zsc _
  |j+2=>simp at I
 by_cases a4:e0=0
 case neg =>
  simp[go_sem,a4,modV];exact a2 _ _
 subst a4;have a5:modV J L 0=modG J [] L:=by simp[modV]
 rw[a5];generalize hR:modG J [] L=R;simp[go_sem];refine kM L.length (fun k U=>U.tm 4 = .ip (cTS ts)/\U.tm 5 = .ip [lI sc.sC,aI sc.sN]/\U.tm 7 = .ip (cNd n)/\U.tm 27=lMd L/\U.tm 28=aI L.length/\U.tm 29=aI k/\∃ o,modG J o (L.drop k)=R/\o.length<=k/\Own U.mu 4 (U.tm 12) (o.map cMd)) ?_ ?_
 .exact ⟨zSi,zSi,zSi,zSi,zSi,zSi,[],zUs hR,zSp,.inl zSi⟩
 rintro k U hk ⟨e4,e5,e7,a3,a0,a1,o,P,a9,ho⟩;by_cases t:k<L.length
 .have w1:=zWk k
  have hh:=hH _ (qs t);rw[zp t,modG]at P;simp[go_sem,e4,e7,a3,a0,a1,t];refine tT hh (.zk (zo _) (.zk (zt _) (.zk (qO _) .nil))) ?_;by_cases he:(J L[k]).2=0
  case neg =>
   rw[if_pos he]at P;subst P;simp[go_sem,he];exact a2 _ _
  rw[if_neg (fun h=>h he)]at P;cases hb:(J L[k]).1 with
  |false =>
   rw[hb]at P;simp[go_sem,a1,t,he,w1]
   try refine⟨t,aK ?_⟩
   try refine aK ?_
   exact⟨zS1 e4,zS1 e5,zS1 e7,zS1 a3,zS1 a0,zSi,o,zUs P,zOm,by simpa[go_sem] using Own.push ho _⟩
  |true =>
   rw[hb,if_pos rfl]at P;simp[go_sem,he];refine qA.ownB (e:=44) (sz:=4) (bt:=64) (zv := .agg [.lst true [],aI 0,.lst true [],aI 0]) (xs:=o.map cMd) (ys:=[cMd L[k]]) zSi zSi zSi rfl rfl zOm zOm (Own.push ho _) (by simp[qF]) (J6 _) (J6 [_]) zSo ?_;intro aa ab a6 _ _ _;simp[go_sem,a1,t,w1]
   try refine⟨t,aK ?_⟩
   try refine aK ?_
   exact⟨zS1 e4,zS1 e5,zS1 e7,zS1 a3,zS1 a0,zSi,o++[L[k]],P,zSo,by rw[za];simpa[go_sem] using a6⟩
 .have a7:k=L.length:=by omega
  subst a7;rw[yA,modG]at P;subst P;simp[go_sem,a0,a1];refine .tup _ _ rfl fun j x y I T=>?_
  match j with
  | 0=>simp at I T;subst I;subst T;exact cN ho
  | 1=>simp at I T;subst I;subst T;exact .zsc _
  |j+2=>simp at I
def mdZ:Md:=⟨⟨[],0⟩,[],0⟩
theorem qm3(mu:Mu):Rd mu (.agg [.lst true [],aI 0,.lst true [],aI 0]) (eMd mdZ):=
 Rd.aggs ⟨.wk _ true _ (.hf _ (HF.lst fun r g=>by simp at g)),.hf _ (HF.sc _),.wk _ true _ (.hf _ (HF.lst fun r g=>by simp at g)),.hf _ (HF.sc _),trivial⟩
end GV
namespace GW
open YF P1 E1 E4 E9 EL EO ER EW GA GF G5 GQ GR
theorem qaL:∀(l:List Int) (x i:Int),0<=x->wv l x i = -1\/∃(j:Nat) (h:j<l.length),wv l x i=i+j/\0<=x-sumI (l.take j)/\x-sumI (l.take j)<l[j]
 | [],x,i,_ => .inl rfl
 |a :: l,x,i,h=>by
  rw[wv];by_cases g:x<a
  .grind [sumI]
  .rw [if_neg g]
   rcases qaL l (x-a) (i+1) zOm with e|⟨j,o,p,r,t⟩
   .exact .inl e
   .refine .inr ⟨j+1,zUs o,by rw[p];push_cast;omega,?_,?_⟩
    .simp only[List.take_succ_cons,sumI,List.foldr_cons]at r⊢;omega
    .simp only[List.take_succ_cons,sumI,List.foldr_cons,List.getElem_cons_succ]at t⊢;omega
def J8(n:Int)(ds:List Int)(p:Int):Int:=ds.foldl (fun p d=>p*n+d) p
theorem qaM(n:Int)(i:0<n):∀(k:Nat) (r:Int),0<=r->r<n ^ k->J8 n (digs n k r) 0=r
 | 0,r,j,g=>by
  have:r=0:=by rw[Int.pow_zero]at g;omega
  subst this;rfl
 |k+1,r,j,g=>by
  have l:r / n<n ^ k:=Int.ediv_lt_of_lt_mul i (by rw[<-Int.pow_succ];exact g);rw[digs,J8,vM];show J8 n (digs n k (r / n)) 0*n+r % n=r;rw[qaM n i k (r / n) (Int.ediv_nonneg j zOm) l,Int.mul_comm];exact Int.mul_ediv_add_emod r n
theorem qaN(sc:Sc)(J:∀ a,a∈sc.sC->0<=a):∀(l ds:List Int) (p:Int),ds.length=l.length->(∀ s,s∈l->0<=s)->(∀(i:Nat) (h:i<ds.length) (h2:i<l.length),0<=ds[i]/\uM sc ds[i]=l[i])->J8 (sumI sc.sC) ds p∈tupR sc l p
 | [],[],p,_,_,_=>by simp[tupR,J8]
 |s :: l,d :: ds,p,o,I,h=>by
  rw[tupR,uW];obtain⟨r,g⟩:=h 0 zSp zSp;simp only[List.getElem_cons_zero]at r g;have P:=I s zSp;rcases qaL sc.sC d 0 r with e|⟨j,R,T,e2,e3⟩
  .rw [uM,e]at g;omega
  .rw [uM,T]at g
   have t:s.toNat=j:=zOm;have U:gI sc.sC s.toNat=sc.sC[j]:=by rw[t];exact uF R
   refine⟨(d-sumI (sc.sC.take j)).toNat,zY.2 (by rw[U];omega),?_⟩;have:=qaN sc J l ds (p*sumI sc.sC+d) (zUs o) (fun s hs=>I s (zP1 hs)) (fun i hi C=>h (i+1) (zUs hi) (zUs C));rw[t,show sumI (sc.sC.take j)+((d-sumI (sc.sC.take j)).toNat:Int)=d by omega];exact this
 | [],_ :: _,_,o,_,_=>by simp at o
 |_ :: _,[],_,o,_,_=>by simp at o
theorem qm4(sc:Sc)(g:GSc sc)(C:0<sumI sc.sC)(l:List Int)(J:l.length<=3)(P:∀ s,s∈l->0<=s/\s<sc.sC.length):∀ x,x∈yL sc l->x∈tupR sc l 0:=fun x I=>by
 have j:=g.sum sc.sC.length;rw[qT]at j;have R:=Ys (sumI sc.sC) j.1 j.2 l.length J;unfold yL vt at I;obtain⟨r,T,rfl⟩:=qo.1 I;obtain⟨U,h2⟩:=List.mem_filter.1 T;rw[zY]at U;have o:(r:Int)<sumI sc.sC ^ l.length:=zOm;have hf:=qaM (sumI sc.sC) C l.length r zOm o;have hm:=qaN sc (fun a ha=>(g.2 a ha).1) l (digs (sumI sc.sC) l.length r) 0 (Yt _ _ _) (fun s p=>(P s p).1) (fun i hi t=>?_)
 .grind
 .have hd:=XK (sumI sc.sC) C j.2 l.length r _ (qs hi)
  refine⟨hd.1,?_⟩;have:=Xb.1 h2 i t
  grind [uF]
theorem Kr(ts:TS)(sc:Sc)(F:Fit9 ts sc)(t:jd sc=true):qj qg 38 [eTS ts,eSc sc] (aB true):=by
 have I:=F.g;simp only[jd,qK,decide_eq_true_eq,List.all_eq_true]at t;obtain⟨h1,J,P,R,T⟩:=t;have o:=F.ns;refine qSV call38 func38 rfl ?_;have n1:¬(4:Int)<sc.sC.length:=zOm;simp[go_sem,n1,o];have C:=fun a b c:Int=>Uv a b c
 refine tT (C sc.sN 1 4) (wk3I _ _ _) ?_;simp[go_sem,J,P];refine kM sc.sC.length (fun k U=>U.tm 2 = .ip (cTS ts)/\U.tm 3 = .ip [lI sc.sC,aI sc.sN]/\U.tm 27=lI sc.sC/\U.tm 28=aI sc.sC.length/\U.tm 29=aI k) ?_ ?_
 .simp [go_sem, *]
 rintro k U hk ⟨e2,e3,p,i,j⟩;by_cases l:k<sc.sC.length
 .have w1:=zWk k
  have ha:=R _ (qs l);simp[go_sem,p,i,j,l];refine tT (C sc.sC[k] 1 5) (wk3I _ _ _) ?_;simp_all[go_sem,aK]
 .have r:k=sc.sC.length:=by omega
  simp[go_sem,e3,i,j,r];refine tT (Yo sc I) (.zk (zF sc) .nil) ?_;simp[go_sem,T];exact .zsc _
theorem qm5(n:Int)(r:Rl)(T:0<=n)(a0:n<=12)(k:Nat)(hk:r.ar=k)(k1:1<=k)(k3:k<=3)(hl:r.ts.length<=1000000000)(hs:r.ts.Pairwise (·<·))(ht:∀ t,t∈r.ts->0<=t/\t<n ^ k):qj qg 59 [aI n,eRel r] (aB true):=by
 have C:=nv n T zOm k k3;refine qSV call59 func59 rfl ?_;have n1:¬n<0:=zOm;have n2:¬ 12<n:=zOm;have n3:¬r.ar<1:=zOm;have n4:¬ 3<r.ar:=zOm;simp[go_sem,n1,n2,n3,n4];refine kM r.ts.length (fun j U=>U.tm 0=aI n/\U.tm 3 = .ip [aI r.ar,lI r.ts]/\U.tm 25=lI r.ts/\U.tm 26=aI r.ts.length/\U.tm 27=aI j/\∃ last:Int,U.tm 5=aI last/\∀(i:Nat) (h:i<r.ts.length),j<=i->last<r.ts[i]) ?_ ?_
 .exact ⟨zSi,zSi,zSi,zSi,zSi,-1,zSi,fun i h _=>by grind [qs]⟩
 rintro j U hj ⟨P,R,p,l,o,last,e5,I⟩;by_cases g:j<r.ts.length
 .have w1:=zWk j
  have a1:=I j g (qt _);have a2:=ht _ (qs g);have m1:¬r.ts[j]<=last:=zOm;have m2:¬n ^ k<=r.ts[j]:=zOm;simp[go_sem,P,R,p,l,o,e5,g,m1];refine tT C (by rw[hk];exact .zs (.zs .nil)) ?_;simp[go_sem,o,g,m2,w1]
  try refine⟨g,aK ?_⟩
  try refine aK ?_
  exact⟨zS1 P,zS1 R,zS1 p,zS1 l,zSi,r.ts[j],zSi,fun i h hi=>List.pairwise_iff_getElem.1 hs j i g h zOm⟩
 .have J:j=r.ts.length:=by omega
  simp[go_sem,l,o,J];exact .zsc _
structure BndV (ts:TS) (sc:Sc) (bs:List Bd):Prop where
 len:bs.length=ts.sA.length
 lo:∀(i:Nat) (h:i<bs.length) (h2:i<ts.sA.length),bs[i].lo.ar=ts.sA[i].sS.length/\bs[i].up.ar=ts.sA[i].sS.length
 so:∀ b,b∈bs->b.lo.ts.Pairwise (·<·)/\b.up.ts.Pairwise (·<·)
 sub:∀ b,b∈bs->∀ t,t∈b.lo.ts->t∈b.up.ts
 full:∀(i:Nat) (h:i<bs.length) (h2:i<ts.sA.length),∀ t,t∈bs[i].up.ts->t∈yL sc ts.sA[i].sS
theorem qaO{a b:Rl}(h:∀ t,t∈a.ts->t∈b.ts):(diR a b).ts=[]:=by
 grind [diR,List.filter_eq_nil_iff]
theorem qaP(sc:Sc)(l:List Int):∀ t,t∈yL sc l->0<=t/\t<(sumI sc.sC ^ l.length).toNat:=fun t g=>qj2 _ _ _ t g
theorem qaQ(sc:Sc)(g:GSc sc)(l:List Int)(j:l.length<=3):(yL sc l).length<=8000:=by
 have i:=g.sum sc.sC.length;rw[qT]at i;have o:=Ys (sumI sc.sC) i.1 i.2 l.length j;refine zK (XL _ _ _) ?_;omega
theorem YL{a b:List Int}(g:a.Pairwise (·<·))(h:∀ t,t∈a->t∈b):a.length<=b.length:=jY (qiR g) h
theorem relT(ts:TS)(sc:Sc)(F:Fit9 ts sc)(l:sumI sc.sC<=12)(f:Fld)(hf:f∈ts.sA)(r:Rl)(o:r.ar=f.sS.length)(C:r.ts.Pairwise (·<·))(i:∀ t,t∈r.ts->t∈yL sc f.sS):qj qg 59 [aI (sumI sc.sC),eRel r] (aB true)/\r.ts.length<=8000:=by
 have R:=YL C i;have I:=qaQ sc F.g f.sS (F.f1 f hf).2;have T:=F.p;have j:=F.g.sum sc.sC.length;rw[qT]at j;have J:=Ys (sumI sc.sC) j.1 j.2 f.sS.length (F.f1 f hf).2;exact⟨qm5 _ r zOm l f.sS.length o (F.f1 f hf).1 (F.f1 f hf).2 zOm C fun t P=>zW1 (qaP sc f.sS t (i t P)),zOm⟩
theorem qm6(ts:TS)(sc:Sc)(F:Fit9 ts sc)(f:Fld)(hf:f∈ts.sA)(r:Rl)(J:r.ts.length<=8000)(i:∀ t,t∈r.ts->t∈yL sc f.sS):qj qg 55 [eRel r,eRel ⟨f.sS.length,tupR sc f.sS 0⟩] (aB true):=by
 have j:=XG sc F.g (fun a l=>(F.g.2 a l).1) f.sS (F.fs f hf) 0;have o:=(F.f1 f hf).2;have C:(20:Nat) ^ f.sS.length<=8000:=by
  rcases (show f.sS.length=0\/f.sS.length=1\/f.sS.length=2\/f.sS.length=3 by omega) with e|e|e|e<;>rw[e]<;>decide
 have h:=inU r ⟨f.sS.length,tupR sc f.sS 0⟩ zOm (by grind)
 rwa[qaO fun t I=>qm4 sc F.g F.p f.sS o (F.fs f hf) t (i t I),decide_eq_true rfl]at h
theorem qm7(fs:List Fld)(l:List Bd)(J:l.length=fs.length)(hn:fs.length<=1000000)(r:AV)(g:qi)(caps:List AV)(t:r = .fn (.func g) [] caps)(P:HF r)
  (h:∀(i:Nat) (h1:i<fs.length) (h2:i<l.length),∃ args',WKs ([W8 fs[i],eBd l[i]]++caps) args'/\qj qg g args' (aB true)) :
  qj qg 76 [.lst false (fs.map vU),lBd l,r] (aB true):=by
 subst t;refine qSV call76 func76 rfl ?_;simp[go_sem,J];refine kM fs.length (fun k U=>U.tm 0 = .lst false (fs.map vU)/\U.tm 1=lBd l/\U.tm 2 = .fn (.func g) [] caps/\U.tm 14=aI fs.length/\U.tm 15=aI k) ?_ ?_
 .simp [go_sem, *]
 rintro k U hk ⟨R,T,e2,o,p⟩;by_cases j:k<fs.length
 .have w1:=zWk k
  obtain⟨args',hw,hc⟩:=h k j zOm;have C:k<l.length:=zOm;simp[go_sem,o,p,j];refine cJ zKr ?_;simp[go_sem,R,T,e2,j,C];refine fW hc (zUs hw) ?_;simp_all[go_sem,aK]
 .have I:k=fs.length:=by omega
  simp[go_sem,o,p,I];exact .zsc _
theorem qaR(ts:TS)(sc:Sc)(l:List Bd)(F:Fit9 ts sc)(a0:sumI sc.sC<=12)(B:BndV ts sc l):qj qg 39 [eTS ts,eSc sc,lBd l] (aB true):=by
 have a8:=F.nf;have a4:∀(i:Nat) (T:i<ts.sA.length) (U:i<l.length),qj qg 77 [W8 ts.sA[i],eBd l[i],.ip [aI (sumI sc.sC)],.ip [lI sc.sC,aI sc.sN]] (aB true):=fun i T U=>by
  obtain⟨a1,a2⟩:=B.lo i U T;have o:=qs T;have J:=qs U;obtain⟨s1,s2⟩:=B.so _ J;have P:=B.full i U T;have a5:∀ t,t∈l[i].lo.ts->t∈yL sc ts.sA[i].sS:=fun t ht=>P t (B.sub _ J t ht)
  obtain⟨v1,l1⟩:=relT ts sc F a0 _ o l[i].lo a1 s1 a5;obtain⟨v2,l2⟩:=relT ts sc F a0 _ o l[i].up a2 s2 P;have i1:=inU l[i].lo l[i].up zOm zOm;rw[qaO (B.sub _ J),decide_eq_true rfl]at i1;have i2:=qm6 ts sc F _ o l[i].up l2 P;have a6:=EW.nO sc F.g (fun a ha=>(F.g.2 a ha).1) ts.sA[i].sS (F.fs _ o) (F.f1 _ o).1 (F.f1 _ o).2;have w2:∀ r:Rl,WKs [aI (sumI sc.sC),eRel r] [aI (sumI sc.sC),eRel r]:=fun r => .zs (.zk (q9 _) .nil)
  have wr:∀(r:Rl) (x:Int),r.ar=x->WK (.agg [aI x,lI r.ts]) (eRel r):=fun r x e=>by subst e;exact .hf (q9 r)
  have wa:=wr l[i].lo _ a1;have wb:=wr l[i].up _ a2;refine qSV call77 func77 rfl ?_;simp[go_sem,a1,a2];refine tT v1 (.zs (.cons wa .nil)) ?_;simp[go_sem,a2];refine fR v2 (.zs (.cons wb .nil)) ?_;refine cJ zKr ?_;simp[go_sem,a1,a2];refine tT i1 (.cons wa (.cons wb .nil)) ?_;simp[go_sem,a2];refine fR a6 (.zk (zF _) (.zk (zm _) .nil)) ?_;refine fR i2 (.cons wb (.zk (q9 _) .nil)) ?_;exact .zsc _
 have j:HF (.ip [lI sc.sC,aI sc.sN]):=HF.ip fun c C=>by simp at C;rcases C with rfl|rfl;exact zm _;exact HF.sc _
 have I:HF (.ip [aI (sumI sc.sC)]):=HF.ip fun c C=>by grind [HF.sc]
 have a3:HF (.fn (.func 77) [] [.ip [aI (sumI sc.sC)],.ip [lI sc.sC,aI sc.sN]]):=HF.fn (fun c C=>by simp at C) (fun c C=>by simp at C;rcases C with rfl|rfl;exact I;exact j);have p:=qm7 ts.sA l B.len zOm _ _ _ rfl a3 fun i T U=>⟨_,by simpa using WKs.zk (qhT _) (.zk (m9 _) (.zk I (.zk j .nil))),a4 i T U⟩
 refine qSU call39 func39 rfl ?_;refine fR (Yo sc F.g) (.zk (zF sc) .nil) ?_;refine fQ (qD.freeze (args1:=[.lst false (ts.sA.map vU),lBd l,.fn (.func 77) [] [.ip [aI (sumI sc.sC)],.ip [lI sc.sC,aI sc.sN]]]) (fun _=>true) ⟨.inl rfl,.inl rfl,.inr ?_,trivial⟩ (qj.toSound _ p (.zk (Ym ts.sA) (.zk (yR _) (.zk a3 .nil))))) ?_ ?_
 .refine .fn _ _ _ _ _ rfl rfl (fun k x y R hy=>by simp at R) (fun k x y R hy=>?_)
  match k with
  | 0=>simp at R hy;subst R;subst hy;exact ER.Rd.ip1 (x:=aI (sumI sc.sC)) (by simp[cutM]) (.hf _ (HF.sc _))
  | 1=>simp at R hy;subst R;subst hy;exact .hf _ j
  |k+2=>simp at R
 .rintro r m ⟨h,rfl⟩
  cases h;simp[go_sem];exact .zsc _
 grind
end GW
namespace IT
open YF P1 EO GH GR ER
theorem qm8(a:List Fld)(b:List Bd)(g:AV)(hf:HF g)(h:¬a.length=b.length):qj qg 76 [lFl a,lBd b,g] (aB false):=by
 have i:¬(a.length:Int)=b.length:=zOm;refine qSV call76 func76 rfl ?_;simp[go_sem,h,i];exact .zsc _
theorem qm9(ts:TS)(sc:Sc)(F:Fit9 ts sc)(I:List Bd)(h:¬ts.sA.length=I.length):qj qg 39 [eTS ts,eSc sc,lBd I] (aB false):=by
 have i:HF (.ip [lI sc.sC,aI sc.sN]):=HF.ip fun c j=>by simp at j;rcases j with rfl|rfl;exact zm _;exact HF.sc _
 have p:HF (.ip [aI (sumI sc.sC)]):=HF.ip fun c j=>by simp at j;subst j;exact HF.sc _
 have t:HF (.fn (.func 77) [] [.ip [aI (sumI sc.sC)],.ip [lI sc.sC,aI sc.sN]]):=HF.fn (fun c j=>by simp at j) (fun c j=>by simp at j;rcases j with rfl|rfl;exact p;exact i);have l:=qm8 ts.sA I _ t h;refine qSU call39 func39 rfl ?_;refine fR (Yo sc F.g) (.zk (zF sc) .nil) ?_;refine fQ (qD.freeze (args1:=[.lst false (ts.sA.map vU),lBd I,.fn (.func 77) [] [.ip [aI (sumI sc.sC)],.ip [lI sc.sC,aI sc.sN]]]) (fun _=>true) ⟨.inl rfl,.inl rfl,.inr ?_,trivial⟩ (qj.toSound _ l (.zk (Ym ts.sA) (.zk (yR _) (.zk t .nil))))) ?_ ?_
 .refine .fn _ _ _ _ _ rfl rfl (fun k x y o C=>by simp at o) (fun k x y o C=>?_)
  match k with
  | 0=>simp at o C;subst o;subst C;exact ER.Rd.ip1 (x:=aI (sumI sc.sC)) (by simp[cutM]) (.hf _ (HF.sc _))
  | 1=>simp at o C;subst o;subst C;exact .hf _ i
  |k+2=>simp at o
 .rintro r m ⟨h,rfl⟩
  cases h;simp[go_sem];exact .zsc _
 .rintro r m ⟨h,_⟩
  cases h
theorem rdE(mu:Mu)(e:Int):Rd mu (.tup [.lst true [],aI e]) (.tup [lMd [],aI e]):=by
 refine .tup _ _ rfl (fun k u v g i=>?_)
 match k with
 | 0=>simp at g i;subst g;subst i;exact .wk _ true _ (.hf _ (HF.lst fun r j=>absurd j qN))
 | 1=>simp at g i;subst g;subst i;exact .zsc _
 |k+2=>simp at g
theorem qnA(ts:TS)(sc:Sc)(g:List Bd)(i:qj qg 38 [eTS ts,eSc sc] (aB true))(j:qj qg 39 [eTS ts,eSc sc,lBd g] (aB false)) :
  qj qg 13 [eTS ts,eSc sc,lBd g] (.tup [lMd [],aI 1]):=by
 refine qSU call13 func13 rfl ?_;refine fR i (.zk (zo _) (.zk (zF _) .nil)) ?_;refine fR j (.zk (zo _) (.zk (zF _) (.zk (yR _) .nil))) ?_;exact rdE _ 1
theorem qnB(ts:TS)(sc:Sc)(g:List Bd)(cs:List (List AV))(p:14<cs.length)(j:qj qg 38 [eTS ts,eSc sc] (aB true))(l:qj qg 39 [eTS ts,eSc sc,lBd g] (aB true))(o:qj qg 40 [eTS ts,eSc sc,lBd g] (.lst false cs)) :
  qj qg 13 [eTS ts,eSc sc,lBd g] (.tup [lMd [],aI 2]):=by
 refine qSU call13 func13 rfl ?_;refine fR j (.zk (zo _) (.zk (zF _) .nil)) ?_;refine fR l (.zk (zo _) (.zk (zF _) (.zk (yR _) .nil))) ?_;refine tT o (.zk (zo _) (.zk (zF _) (.zk (yR _) .nil))) ?_;have i:(14:Int)<cs.length:=zOm;simp[go_sem,i];exact rdE _ 2
end IT
namespace YZ
open YM P1 Y1 Y9 YX
mutual
def depN:Nd->Int
 | .mk _ _ _ ks _=>yy ks+1
def yy:List Nd->Int
 | []=>0
 |k :: ks=>max (depN k) (yy ks)
end
mutual
theorem qaS:∀ n:Nd,0<=depN n
 | .mk _ _ _ ks _=>by simp only[depN];have:=UM ks;omega
theorem UM:∀ ks:List Nd,0<=yy ks
 | []=>by simp[yy]
 |k :: ks=>by simp only[yy];have:=UM ks;omega
end
theorem Zm(n:Nd):depN n=yy n.sD+1:=by
 obtain⟨op,o,i,ks,p⟩:=n;simp[depN,Nd.sD]
theorem qaT{ks:List Nd}{k:Nd}(h:k∈ks):depN k<=yy ks:=by
 induction ks with
 |nil=>simp at h
 |cons a l g =>
  simp only[yy];rcases qz.1 h with rfl|h
  .omega
  .have:=g h;omega
theorem qaU:∀(m:Nat) (n:Nd),szN n<=m->yF n->depN n<=1000000->qj qg 91 [eNd n] (aI (depN n))
 | 0,n,I,_,_=>by obtain⟨op,nm,i,ks,p⟩:=n;simp[szN]at I
 |m+1,n,I,J,P=>by
  have ih:∀ k,k∈n.sD->qj qg 91 [eNd k] (aI (depN k)):=fun k j =>
   qaU m k (zW1 (yv j)) (J.kid j) (by rw[Zm]at P;have:=qaT j;omega)
  rw[Zm]at P⊢;have R:=J.len;have a0:=UM n.sD;generalize hD:yy n.sD=D at *
  refine qSU call91 func91 rfl ?_;refine kM n.sD.length (fun k U=>∃ d,U.tm 3=aI d/\U.tm 7=lNd n.sD/\U.tm 8=aI n.sD.length/\U.tm 9=aI k/\0<=d/\max d (yy (n.sD.drop k))=D) ?_ ?_
  .exact ⟨0,zSi,zSi,zSi,zSi,zOm,by simp only[List.drop_zero,hD];omega⟩
  .rintro k U j ⟨d,T,e7,o,r,a1,l⟩
   by_cases t:k=n.sD.length
   .subst t
    rw[yA]at l;simp only[yy]at l;have C:d=D:=zOm;subst C;have w:qq.wrap (d+1)=d+1:=zWr;simp[go_sem,T,o,r,w];exact .zsc _
   .have g:k<n.sD.length:=by omega
    have w1:=zWk k;rw[zp g]at l;simp only[yy]at l;simp[go_sem,T,e7,o,r,g];refine tT (ih n.sD[k] (qs g)) (.zk (qO _) .nil) ?_;simp[go_sem,r,w1];refine⟨g,aK ?_⟩;refine⟨if d<depN n.sD[k] then depN n.sD[k] else d,zSi,zS1 e7,zS1 o,zSi,?_,?_⟩
    .have:=qaS n.sD[k]
     split<;>omega
    .split<;>omega
mutual
def preN:Nd->List Nd
 | .mk op o n ks p => .mk op o n ks p :: zx ks
def zx:List Nd->List Nd
 | []=>[]
 |k :: ks=>preN k++zx ks
end
theorem wE(n:Nd):preN n=n :: zx n.sD:=by
 obtain⟨op,o,i,ks,p⟩:=n;simp[preN,Nd.sD]
theorem YN(a b:List Nd):zx (a++b)=zx a++zx b:=by
 induction a with
 |nil=>rfl
 |cons x a g=>simp[zx,g]
theorem Ks{f:qi}{caps:List AV}(I:List Nd->Mu->Prop)(hp:∀ v mu l,I v mu->I v (mu++l))(hf:∀ v k mu,I v mu->qD qg f (eNd k :: caps) mu fun e m=>e = .ret (.tup [])/\I (v++[k]) m) :
  ∀(m:Nat) (n:Nd),szN n<=m->yF n->∀(v:List Nd) (mu:Mu),I v mu->qD qg 84 [eNd n,.fn (.func f) [] caps] mu fun e m=>e = .ret (.tup [])/\I (v++preN n) m
 | 0,n,hm,_,_,_,_=>by obtain⟨op,nm,i,ks,p⟩:=n;simp[szN]at hm
 |m+1,n,hm,hs,v,mu,J=>by
  have ih:∀ k,k∈n.sD->∀ v mu,I v mu->qD qg 84 [eNd k,.fn (.func f) [] caps] mu fun e m=>e = .ret (.tup [])/\I (v++preN k) m:=fun k P v mu J =>
   Ks I hp hf m k (zW1 (yv P)) (hs.kid P) v mu J
  have a1:=hs.len;rw[wE];refine qSW call84 func84 rfl {} ?_;simp[go_sem];refine fY (hf v n mu J) ?_ (by rintro r m ⟨e,_⟩;cases e);rintro r m ⟨e,R⟩;cases e;simp[go_sem];refine kM n.sD.length (fun k U=>U.tm 1 = .fn (.func f) [] caps/\U.tm 10=lNd n.sD/\U.tm 11=aI n.sD.length/\U.tm 12=aI k/\I (v++[n]++zx (n.sD.take k)) U.mu) ?_ ?_
  .exact ⟨zSi,zSi,zSi,zSi,by simpa[go_sem,zx] using R⟩
  .rintro k U P ⟨e1,C,j,o,t⟩
   by_cases T:k=n.sD.length
   .subst T
    rw[qT]at t;simp[go_sem,j,o];simpa using t
   .have g:k<n.sD.length:=by omega
    have w1:=zWk k;simp[go_sem,e1,C,j,o,g];refine fQ (ih n.sD[k] (qs g) _ _ (hp _ _ _ t)) ?_ (by rintro r m ⟨e,_⟩;cases e);rintro r m ⟨e,a0⟩;cases e;simp[go_sem,o,w1];refine⟨g,aK ?_⟩;refine⟨zS1 e1,zS1 C,zS1 j,zSi,?_⟩;have e:zx (n.sD.take (k+1))=zx (n.sD.take k)++preN n.sD[k]:=by
     rw[List.take_add_one,qy g,YN];simp[zx]
    rw[e,<-zq];simpa[go_sem] using a0
def setN(l:List tN)(b:tN):List (tN×Bool)->List (tN×Bool):=fun I=>setK b true I
abbrev eSet(es:List (tN×Bool)):List (AV×AV):=encK aS aB es
theorem updS{mu:Mu}{b:Nat}{es:List (tN×Bool)}(i:mu[b]?=some (.mp (eSet es)))(nm:tN) :
  jO qg mu 150 (.mp b) (aS nm) (aB true)=some (mu.set b (.mp (eSet (setK nm true es)))):=
 keyS.update (et:=4) (t:=150) zSi (mu:=mu) (b:=b) (venc:=aB) (es:=es) i (k:=nm) (v:=true) trivial (fun _ _=>trivial)
theorem qnC(ts:TS)(s:ISt)(tb:Nat)(c:Bool)(es:List (tN×Bool))(n:Nd){mu:Mu}{p g xb:Nat}(r:mu[p]?=some (.arr [.ptr xb 0]))(t:mu[xb]?=some (.arr (cIn ts tb s)))(l:mu[g]?=some (.arr [aB c]))(j:mu[tb]?=some (.mp (eSet es))) :
  qD qg 85 [eNd n,.ptr p 0,.ptr g 0] mu fun e m=>e = .ret (.tup [])/\m=(mu.set tb (.mp (eSet (setK n.name true es)))).set g (.arr [aB (c||decide (n.op=47))]):=by
 refine qSW call85 func85 rfl {} ?_;have C:g<mu.length:=(qm.1 l).1;have I:tb<mu.length:=(qm.1 j).1;simp[go_sem];refine cJ zKr ?_;have J:=updS j n.name;simp[go_sem,r,t];refine tS _ J ?_;have o:tb≠g:=fun e=>by rw[e,l]at j;cases j
 generalize P:Cell.mp (eSet (setK n.name true es))=N at *
 have i:(mu.set tb N)[g]?=some (.arr [aB c]):=by rw[yb o];exact l
 cases c
 .simp [go_sem,i]
  try rfl
 .simp [go_sem,i]
  try rfl
theorem qnD(ts:TS)(s:ISt)(tb:Nat)(es:List (tN×Bool))(n:Nd){mu:Mu}{g xb:Nat}(j:mu[g]?=some (.arr [.ptr xb 0]))(l:mu[xb]?=some (.arr (cIn ts tb s)))(i:mu[tb]?=some (.mp (eSet es))) :
  qD qg 86 [eNd n,.ptr g 0] mu fun e m=>e = .ret (.tup [])/\m=mu.set tb (.mp (eSet (setK n.name true es))):=by
 refine qSW call86 func86 rfl {} ?_;have o:tb<mu.length:=(qm.1 i).1;simp[go_sem];refine cJ zKr ?_;have p:=updS i n.name;simp[go_sem,j,l];refine tS _ p ?_;simp[go_sem]
end YZ
namespace YA
open YM YS YF P1 Y1 Y9 Y10 YX YZ
def vN(k:Int):tN:=⟨#[118]⟩++jz k
theorem Kt(k:Int)(g : -9223372036854775808<=k)(i:k<=9223372036854775807):(jz k).size<=21:=by
 have:=Lib.itoa_length_le k g i;unfold jz;simpa[ByteArray.size] using this
def yN(ts:TS)(es:List (tN×Bool))(nm:tN):Bool:=decide (getK nm es≠some true)&&decide (means ts nm=[])
def zy(ts:TS)(es:List (tN×Bool)):Nat->Int->Int
 | 0,k=>k+1
 |f+1,k=>if yN ts es (vN (k+1))=true then k+1 else zy ts es f (k+1)
theorem qnE{mu:Mu}{tb:Nat}{es:List (tN×Bool)}(i:mu[tb]?=some (.mp (eSet es)))(nm:tN):yr qg mu 150 (.mp tb) (aS nm) false=some (aB (decide (getK nm es=some true))):=by
 have:=keyS.look (et:=4) (t:=150) zSi (mu:=mu) (m := .mp tb) (venc:=aB) (es:=es) (by simp only[j0,i]) (k:=nm) trivial (fun _ _=>trivial) (z:=aB false) zSi false;refine Eq.trans ?_ (this.trans ?_)
 .rfl
 .cases getK nm es with
  |none=>rfl
  |some b=>cases b<;>rfl
theorem qnF{mu:Mu}{b:Nat}{c:Cell}(h:mu[b]?=some c):mu.set b c=mu:=by
 apply List.ext_getElem?;intro i;by_cases e:b=i
 .subst e
  rw[qL (qm.1 h).1,h]
 .rw [yb e]
theorem qaV(ts:TS)(h:okTS ts)(s:ISt)(F:Nat)(hs:0<=s.last/\s.last+F<=1000000000)(tb:Nat)(es:List (tN×Bool))(T:∃ j:Nat,1<=j/\j<=F/\yN ts es (vN (s.last+j))=true){mu:Mu}{xb:Nat}(hx:mu[xb]?=some (.arr (cIn ts tb s)))(ht:mu[tb]?=some (.mp (eSet es))) :
  qD qg 179 [.ptr xb 0] mu fun e m=>e = .ret (aS (vN (zy ts es F s.last)))/\m=mu.set xb (.arr (cIn ts tb ⟨zy ts es F s.last,s.sM⟩)):=by
 refine qSW call179 func179 rfl {} ?_;have a0:xb<mu.length:=(qm.1 hx).1;have a3:tb≠xb:=fun e=>by rw[e,hx]at ht;cases ht
 simp[go_sem];generalize hR:zy ts es F s.last=R;refine tK (fun m U=>∃ l:Int,0<=l/\l+m<=1000000000/\U.tm 0 = .ptr xb 0/\U.mu=mu.set xb (.arr (cIn ts tb ⟨l,s.sM⟩))/\zy ts es m l=R/\∃ j:Nat,1<=j/\j<=m/\yN ts es (vN (l+j))=true) F ?_ ?_
 .refine ⟨s.last,hs.1,hs.2,zSi,?_,hR,T⟩
  simp only[go_sem,qE,st0];rw[show cIn ts tb ⟨s.last,s.sM⟩=cIn ts tb s from rfl];exact(qnF hx).symm
 .rintro m U ⟨l,a7,a8,C,hm,hI,j,a9,aa,r⟩
  obtain⟨m,rfl⟩:∃ m',m=m'+1:=⟨m-1,zOm⟩;have w1:qq.wrap (l+1)=l+1:=zWr;have t:∀ c,(mu.set xb c)[xb]?=some c:=fun c=>qL a0
  have a4:∀ c d,(mu.set xb c).set xb d=mu.set xb d:=fun c d=>List.set_set ..
  have a5:∀ c,(mu.set xb c)[tb]?=some (.mp (eSet es)):=fun c=>by rw[yb (fun e=>a3 e.symm)];exact ht
  have ab:=Kt (l+1) zOm zOm;have I:1+(jz (l+1)).size<=9223372036854775807:=zOm;simp[go_sem,C,hm,t,a4,w1];refine tT (itoaU (l+1) zOm zOm) (.zs .nil) ?_;simp[go_sem,C,t,I];rw[show (⟨#[118]⟩:tN)++jz (l+1)=vN (l+1) from rfl];generalize i:vN (l+1)=o;have J:=fun c=>qnE (a5 c) o
  simp[go_sem]at J;refine tS _ (J _) ?_;have g:yN ts es o=false->zy ts es m (l+1)=R/\∃ j:Nat,1<=j/\j<=m/\yN ts es (vN (l+1+j))=true:=fun hn=>by
   simp only[zy,i,hn]at hI;refine⟨zUs hI,j-1,?_,zOm,?_⟩
   .have:j≠1:=fun e=>by rw[e,show l+((1:Nat):Int)=l+1 by omega,i,hn]at r;cases r
    omega
   .rw [show l+1+((j-1:Nat):Int)=l+j by omega];exact r
  by_cases P:getK o es=some true
  case pos =>
   obtain⟨a1,a2⟩:=g (by simp[yN,P]);simp[go_sem,P];refine Keep.loop m zOm ⟨l+1,zOm,zOm,zS1 C,zSi,a1,a2⟩
  case neg =>
   simp[go_sem,C,t,P];refine tT (XQ ts h o) (.zk (zo ts) (.zs .nil)) ?_;by_cases p:means ts o=[]
   .have a6:R=l+1:=by
     rw[<-hI];simp[zy,i,yN,P,p]
    subst a6;simp[go_sem,p];rw[i]
    try rfl
   .obtain ⟨a1,a2⟩:=g (by simp[yN,p])
    simp[go_sem,p];refine Keep.loop m zOm ⟨l+1,zOm,zOm,zS1 C,zSi,a1,a2⟩
end YA
namespace YB
open YM YF P1 Y1 Y6 Y9 Y10 YX YZ YA
section
variable {es:IEnv}{mu:Mu}{b xb:Nat}
def qr(ts:TS)(es:List (tN×Bool)):Nat:=es.length+ts.sA.length+3*ts.sS.length+1
def renI(ts:TS)(es:List (tN×Bool))(env:IEnv)(nm:tN)(body:Bool)(s:ISt):(IEnv×tN)×ISt:=
 if body=true\/means ts nm≠[] then
  ((setK nm ⟨none,0,vN (zy ts es (qr ts es) s.last)⟩ (delK nm env),vN (zy ts es (qr ts es) s.last)),⟨zy ts es (qr ts es) s.last,s.sM⟩)
 else ((delK nm env,nm),s)
theorem Zn{g J:Type} [DecidableEq g] {k:g} {v:J}:∀{es:List (g×J)},(es.map Prod.fst).Nodup->∀{x:g×J},x∈setK k v es↔x=(k,v)\/(x∈es/\x.1≠k)
 | [],_,x=>by simp[setK]
 |e :: es,h,x=>by
  rw[z6,List.nodup_cons]at h;unfold setK;by_cases i:k=e.1
  .rw [if_pos i,qz,qz]
   constructor
   .grind
   grind
  .rw [if_neg i,qz,qz,Zn h.2]
   constructor
   .grind
   grind
theorem v7{g:Nat->Bool}{m:Mu}{i:Nat}(h:g i=true):(cutM g m 0)[i]?=m[i]?:=by
 simp_all[jG,ye,if_true]
theorem qnG{x:AV×AV}:x∈encK aS eIV es↔∃ y,y∈es/\(aS y.1,eIV y.2)=x:=qo
theorem Ku(h:(es.map Prod.fst).Nodup):((encK aS eIV es).map Prod.fst).Nodup:=by
 have e:(encK aS eIV es).map Prod.fst=(es.map Prod.fst).map aS:=by simp[encK]
 grind
theorem qnH{fs:IEnv}(g:mu[b]?=some (.md (encK aS eIV es)))(i:(es.map Prod.fst).Nodup)(j:(fs.map Prod.fst).Nodup)(o:∀ x,x∈es↔x∈fs):Rd mu (.mp b) (eEnv fs):=by
 refine Rd.mds g (Ku i) (Ku j) (fun x=>?_) (fun x l=>?_)
 .grind
 .obtain ⟨y,_,rfl⟩:=qnG.1 l
  grind [HF.sc,qkT]
theorem updE(i:mu[b]?=some (.mp (encK aS eIV es)))(nm:tN)(v:IV) :
  jO qg mu 158 (.mp b) (aS nm) (eIV v)=some (mu.set b (.mp (encK aS eIV (setK nm v es)))):=
 keyS.update (et:=220) (t:=158) zSi (mu:=mu) (b:=b) (venc:=eIV) (es:=es) i (k:=nm) (v:=v) trivial (fun _ _=>trivial)
theorem qaW(i:mu[b]?=some (.md (encK aS eIV es)))(nm:tN)(v:IV) :
  jO qg mu 158 (.mp b) (aS nm) (eIV v)=some (mu.set b (.md (encK aS eIV (setK nm v es)))):=
 keyS.updateD (et:=220) (t:=158) zSi (mu:=mu) (b:=b) (venc:=eIV) (es:=es) i (k:=nm) (v:=v) trivial (fun _ _=>trivial)
structure But (xb:Nat) (mu m:Mu):Prop where
 len:mu.length<=m.length
 same:∀ i,i<mu.length->i≠xb->m[i]?=mu[i]?
theorem But.trans{a b c:Mu}(h:But xb a b)(k:But xb b c):But xb a c:=⟨zK h.len k.len,fun i g j=>(k.same i (Nat.lt_of_lt_of_le g h.len) j).trans (h.same i g j)⟩
theorem But.app(xb:Nat)(mu l:Mu):But xb mu (mu++l):=⟨zSp,fun i g _=>qI g⟩
theorem cD(xb:Nat)(mu:Mu)(c:Cell):But xb mu (mu.set xb c):=⟨zSp,fun i j g=>yb (fun e=>g e.symm)⟩
theorem But.setN{m:Mu}(h:But xb mu m){j:Nat}(o:mu.length<=j)(c:Cell):But xb mu (m.set j c):=⟨by simpa using h.len,fun i g l=>by rw[zGl];exact h.same i g l⟩
theorem But.cut{m:Mu}(h:But xb mu m){g:Nat->Bool}(l:∀ i,i<mu.length->g i=true):But xb mu (cutM g m 0):=⟨by rw[jM];exact h.len,fun i j o=>by rw[v7 (l i j)];exact h.same i j o⟩
theorem qnI(a:Option Nd):(aArg a).one=true:=by cases a<;>rfl
theorem qnJ(ts:TS)(h:okTS ts)(s:ISt)(es:List (tN×Bool))(hs:0<=s.last/\s.last+(qr ts es:Nat)<=1000000000)(tb:Nat)(aa:∃ j:Nat,1<=j/\j<=qr ts es/\yN ts es (vN (s.last+j))=true)(env:IEnv)(hk:(env.map Prod.fst).Nodup)(nm:tN)(body:Bool)
  {mu:Mu} {xb:Nat} (hx:mu[xb]?=some (.arr (cIn ts tb s))) (ht:mu[tb]?=some (.mp (eSet es))) :
  qD qg 138 [.ptr xb 0,eEnv env,aS nm,aB body] mu fun e m=>e = .ret (.tup [eEnv (renI ts es env nm body s).1.1,aS (renI ts es env nm body s).1.2])/\But xb mu m/\m[xb]?=some (.arr (cIn ts tb (renI ts es env nm body s).2)):=by
 refine fH ?_;refine qSW call138 func138 rfl {} ?_;have az:xb<mu.length:=(qm.1 hx).1;have ah:tb<mu.length:=(qm.1 ht).1;have ai:tb≠xb:=fun e=>by grind
 simp[go_sem];obtain⟨B,hB⟩:∃ B,B=encK aS eIV env:=⟨_,rfl⟩;have b0:B.length=env.length:=by rw[hB];simp
 rw[<-hB];refine qn.seen env.length (fun seen U=>U.tm 0 = .ptr xb 0/\U.tm 2=aS nm/\U.tm 3=aB body/\U.tm 10 = .mp mu.length/\U.tm 16 = .ptr (mu.length+1) 0/\But xb mu U.mu/\mu.length+1<U.mu.length/\U.mu[xb]?=mu[xb]?/\U.mu[mu.length+1]?=some (.it B seen) /\
  ∃ o:IEnv,U.mu[mu.length]?=some (.mp (encK aS eIV o))/\(o.map Prod.fst).Nodup/\∀ x,x∈o↔∃ i,i∈seen/\env[i]?=some x) ?_ ?_
 .simp_all [go_sem,But.app,qI]
 .rintro seen U b1 b2 ⟨e0,e2,e3,p,a5,R,hl,aj,ak,o,ab,C,I⟩
  simp[go_sem,a5];refine⟨mu.length+1,B,seen,rfl,ak,fun i e hi al=>?_,fun ax=>?_⟩
  .have J:∃ y,env[i]?=some y/\e=(aS y.1,eIV y.2):=by
    rw[hB,zg,jW]at hi;obtain⟨y,J,rfl⟩:=hi
    grind
   obtain⟨⟨k,va,vz,vn⟩,J,rfl⟩:=J;have an:i<env.length:=(qm.1 J).1;have a6:∀(c:Cell) (l:List Cell),(U.mu.set (mu.length+1) c++l)[mu.length]?=some (.mp (encK aS eIV o)):=fun c l=>by
    grind
   have hu:=fun c l=>updE (a6 c l) k ⟨va,vz,vn⟩
   simp[go_sem,p,a5,hi,hl,qnI];refine tS _ (hu _ _) ?_;generalize hM:List.set (U.mu.set (mu.length+1) (Cell.it B (seen++[i]))++[Cell.arr [aArg va,aI vz,aS vn]]) mu.length (.mp (encK aS eIV (setK k ⟨va,vz,vn⟩ o)))=M;have b3:M.length=U.mu.length+1:=by rw[<-hM];simp
   have ao:∀ j,j<U.mu.length->j≠mu.length->j≠mu.length+1->M[j]?=U.mu[j]?:=fun j h1 h2 h3=>by
    grind
   have aq:M[mu.length]?=some (.mp (encK aS eIV (setK k ⟨va,vz,vn⟩ o))):=by
    grind
   have b4:M[mu.length+1]?=some (.it B (seen++[i])):=by
    grind
   have a7:∀ v,(k,v)∈o->False:=fun v hm=>by
    obtain⟨j,P,he⟩:=(I _).1 hm;have h1:(env.map Prod.fst)[j]?=some k:=by rw[zg,he];rfl
    have h2:(env.map Prod.fst)[i]?=some k:=by rw[zg,J];rfl
    have b5:j<(env.map Prod.fst).length:=(qm.1 h1).1
    grind [List.getElem?_inj]
   simp[go_sem];refine⟨i,an,al,aK ?_⟩;refine⟨zS1 e0,zS1 e2,zS1 e3,zS1 p,zS1 a5,?_,by grind [qE],?_,by simp[go_sem, *],_,zVs aq,wm C,fun x v=>?_⟩
   .simp only[go_sem,qE]
    exact⟨zOm,fun j P hn=>by rw[ao j zOm zOm zOm];exact R.same j P hn⟩
   .grind [qE]
   .rw [Zn C,I]
    constructor
    .rintro (e|⟨⟨j,P,he⟩,_⟩)
     .exact ⟨i,zSp,by rw[J,e]⟩
     .exact ⟨j,zP1 P,he⟩
    .rintro ⟨j,P,he⟩
     rcases qM.1 P with P|P
     .refine .inr ⟨⟨j,P,he⟩,fun e=>?_⟩
      simp only at e;subst e;exact a7 v ((I _).2 ⟨j,P,he⟩)
     .rw [qS]at P
      subst P;rw[J]at he;exact .inl (Option.some.inj he).symm
  .simp [go_sem,e2,p]
   have ar:∀ x,x∈o↔x∈env:=fun x=>by
    grind [qZ,List.mem_iff_getElem?,qm]
   refine keyS.delete (et:=220) (t:=158) zSi ab trivial (fun _ _=>trivial) ?_;have T:=ZH (k:=nm) C;have a8:∀ x,x∈delK nm o↔x∈delK nm env:=fun x=>by grind [Xg]
   have ad:mu.length<U.mu.length:=zOm;have au:∀ c,(U.mu.set mu.length c)[xb]?=some (.arr (cIn ts tb s)):=fun c=>by rw[zGl,aj];exact hx
   have av:∀ c,(U.mu.set mu.length c)[tb]?=some (.mp (eSet es)):=fun c=>by rw[zGl,R.same tb ah ai];exact ht
   have aw:∀ c,But xb mu (U.mu.set mu.length c):=fun c=>R.setN (qt _) c
   have hD:∀ c,(U.mu.set mu.length c)[mu.length]?=some c:=fun c=>qL ad
   generalize hM:U.mu.set mu.length (.md (encK aS eIV (delK nm o)))=M;have a0:M[xb]?=some (.arr (cIn ts tb s)):=by rw[<-hM];exact au _
   have ae:M[tb]?=some (.mp (eSet es)):=by rw[<-hM];exact av _
   have a9:But xb mu M:=by grind
   have a1:M[mu.length]?=some (.md (encK aS eIV (delK nm o))):=by grind
   have af:mu.length<M.length:=(qm.1 a1).1;have fin:∀(m:Mu) (a2 fs:IEnv) (a3:tN) (s1:ISt),But xb mu m->m[mu.length]?=some (.md (encK aS eIV a2))->(a2.map Prod.fst).Nodup->(fs.map Prod.fst).Nodup->(∀ x,x∈a2↔x∈fs)->m[xb]?=some (.arr (cIn ts tb s1))->((fs,a3),s1)=renI ts es env nm body s ->
     ∃(g:Nat->Bool) (x:AV),Gv m g (.tup [.mp mu.length,aS a3]) x/\x = .tup [eEnv (renI ts es env nm body s).1.1,aS (renI ts es env nm body s).1.2]/\But xb mu (cutM (fun i=>!g i) m 0)/\(cutM (fun i=>!g i) m 0)[xb]?=some (.arr (cIn ts tb (renI ts es env nm body s).2)):=by
    intro m a2 fs a3 s1 hb hd n1 n2 hm b6 e;rw[<-e];refine⟨fun i=>i == mu.length,.tup [eEnv fs,aS a3],.rd _ _ (.tup _ _ rfl fun k x y hx J=>?_),rfl,hb.cut fun i hi=>zSo,?_⟩
    .match k with
     | 0 =>
      simp at hx J;subst hx;subst J;exact qnH (by rw[v7 zSp];exact hd) n1 n2 hm
     | 1 =>
      simp at hx J;subst hx;subst J;exact .zsc _
     |k+2=>simp at hx
    grind [v7]
   have ay:∀(b7:St) (K:qV->St->Prop),True:=fun _ _=>trivial
   by_cases hb:body=true
   .subst hb
    simp[go_sem,e0,e3];refine fQ (qaV ts h s (qr ts es) hs tb es aa a0 ae) ?_ (by rintro r m ⟨e,_⟩;cases e);rintro r m ⟨e,rfl⟩;cases e;have hu:=qaW (mu:=M.set xb (.arr (cIn ts tb ⟨zy ts es (qr ts es) s.last,s.sM⟩))) (b:=mu.length) (by rw[zGl];exact a1) nm ⟨none,0,vN (zy ts es (qr ts es) s.last)⟩;simp[go_sem,e2,p];refine tS _ hu ?_;simp[go_sem,p];refine(fin _ _ _ _ ⟨zy ts es (qr ts es) s.last,s.sM⟩ ((a9.trans (cD xb M _)).setN (qt _) _) (qL (zUs af)) (wm T) (wm (ZH hk)) (fun x=>by rw[Zn T,Zn (ZH hk),a8]) (by rw[zGl,qL zOm];rfl) ?_);simp[renI]
   .have hb:body=false:=by simpa using hb
    subst hb;simp[go_sem,e0,e2,e3,a0];refine tT (XQ ts h nm) (.zk (zo ts) (.zs .nil)) ?_;by_cases a4:means ts nm=[]
    .simp [go_sem,e2,p,a0,a4]
     refine(fin M _ _ _ _ a9 a1 T (ZH hk) a8 a0 ?_);simp[renI,a4]
    .have ag:0<(means ts nm).length:=List.length_pos_iff.2 a4
     simp[go_sem,e0,ag];refine fQ (qaV ts h s (qr ts es) hs tb es aa a0 ae) ?_ (by rintro r m ⟨e,_⟩;cases e);rintro r m ⟨e,rfl⟩;cases e;have hu:=qaW (mu:=M.set xb (.arr (cIn ts tb ⟨zy ts es (qr ts es) s.last,s.sM⟩))) (b:=mu.length) (by rw[zGl];exact a1) nm ⟨none,0,vN (zy ts es (qr ts es) s.last)⟩;simp[go_sem,e2,p];refine tS _ hu ?_;simp[go_sem,p];refine(fin _ _ _ _ ⟨zy ts es (qr ts es) s.last,s.sM⟩ ((a9.trans (cD xb M _)).setN (qt _) _) (qL (zUs af)) (wm T) (wm (ZH hk)) (fun x=>by rw[Zn T,Zn (ZH hk),a8]) (by rw[zGl,qL zOm];rfl) ?_);simp[renI,a4]
end
end YB
namespace Q9
open Y1
def qaX(nm:tN)(p:Int):Nd := .mk 1 nm 0 [] p
end Q9
namespace PA
open P1 P2 Y1 Y2 Y9 Y15 Y16 Q6
section
variable {inn:Bool}{c c':Ck}{s s':Scp}
def wF(nm:tN)(n:Nd):Prop:=anyN (fun n=>decide (n.name=nm)) n=true
theorem qaY{p:Nd->Bool}:∀{ks:List Nd},um p ks=true↔∃ k,k∈ks/\anyN p k=true
 | []=>by simp[um]
 |k :: ks=>by
  simp only[um,uZ,qaY (ks:=ks),qz];constructor
  .rintro (h|⟨x,g,h⟩)
   .exact ⟨k,.inl rfl,h⟩
   .exact ⟨x,.inr g,h⟩
  .rintro ⟨x,rfl|g,h⟩
   .exact .inl h
   .exact .inr ⟨x,g,h⟩
theorem qnK(n:Nd):wF n.name n:=by
 unfold wF;rw[UG];simp
theorem qnL{n k:Nd}{nm:tN}(g:k∈n.sD)(h:wF nm k):wF nm n:=by
 unfold wF at h⊢;rw[UG,uZ]
 grind [qaY]
def lookS(nm:tN)(s:Scp):Option Kd:=(jt nm s).head?.map Prod.snd
theorem qnM(nm:tN):lookS nm []=none:=rfl
theorem Zo(nm:tN)(v:tN×Kd)(s:Scp):lookS nm (v :: s)=if v.1=nm then some v.2 else lookS nm s:=by
 grind [lookS,jt]
theorem Zp(c:Ck)(s:Scp)(nm:tN)(pos:Int):jy c s nm pos=match lookS nm s with
  |some k => .ok (some k)
  |none=>match means c.ts nm with
   | [] => .error (40,pos)
   | [k] => .ok (some k)
   |_ => .error (44,pos):=by
 grind [jy,lookS,jt]
theorem qaZ{n n':Nd}(j:n'.op=n.op)(l:n'.name=n.name)(r:n'.n=n.n)(t:n'.pos=n.pos)
  (C:zX c' n.op n.name=zX c n.op n.name) (J:n.op=1->jy c s n.name n.pos=jy c' s' n.name n.pos) (o:c'.ts.sT=c.ts.sT) (g:zr c' n.name=zr c n.name)
  (p:c'.ts.sS.length=c.ts.sS.length) (i:n'.sD.length=n.sD.length)
  (P:n.op=47->∀ ps,ya c s n.pos ps n.sD=ya c' s' n.pos ps n'.sD)
  (hB:(n.op=15\/n.op=45\/n.op=46)->∀ inn,yk c s inn n.name n.pos n.sD=yk c' s' inn n.name n.pos n'.sD)
  (I:¬n.op=1->¬n.op=47->¬(n.op=15\/n.op=45\/n.op=46)->∀ inn,zb c s inn n.sD=zb c' s' inn n'.sD):exam c s inn n=exam c' s' inn n':=by
 rw[jk,jk,j,l,r,t,C,o,g,p,i];by_cases a:(inn&&zX c n.op n.name)=true
 .rw [if_pos a,if_pos a]
 rw[if_neg a,if_neg a];by_cases b:n.op=1
 .grind
 rw[if_neg b,if_neg b];by_cases d:n.op=47
 .simp_all
 rw[if_neg d,if_neg d];by_cases e:n.op=15\/n.op=45\/n.op=46
 .rw [if_pos e,if_pos e];exact hB e _
 rw[if_neg e,if_neg e,I b d e]
theorem qa0(f:Nd->Nd):∀{ks:List Nd},(∀ k,k∈ks->exam c s inn k=exam c' s' inn (f k))->zb c s inn ks=zb c' s' inn (ks.map f)
 | [],_=>rfl
 |k :: ks,h=>by
  simp only[z6,zb];rw[h k (zh ..),qa0 f fun g i=>h g (zc _ i)]
theorem qa1{pos:Int}(f:Nd->Nd):∀{ks:List Nd} {ps:List (tN×Int)},(∀ k,k∈ks->exam c s true k=exam c' s' true (f k))->ya c s pos ps ks=ya c' s' pos ps (ks.map f)
 | [],ps,_=>by cases ps<;>rfl
 |k :: ks,[],_=>rfl
 |k :: ks,p :: ps,h=>by
  simp only[z6,ya];rw[h k (zh ..),qa1 f (ps:=ps) fun g i=>h g (zc _ i)]
theorem UN{ks:List Nd}(h:∀ k,k∈ks->exam c s inn k=exam c' s' inn k):zb c s inn ks=zb c' s' inn ks:=by
 have:=qa0 (c:=c) (c':=c') (s:=s) (s':=s') (inn:=inn) id (ks:=ks) h
 rwa[List.map_id]at this
theorem qa2{pos:Int}{ks:List Nd}{ps:List (tN×Int)}(h:∀ k,k∈ks->exam c s true k=exam c' s' true k):ya c s pos ps ks=ya c' s' pos ps ks:=by
 have:=qa1 (c:=c) (c':=c') (s:=s) (s':=s') (pos:=pos) id (ks:=ks) (ps:=ps) h
 rwa[List.map_id]at this
structure wG (c c':Ck):Prop where
 sT:c'.ts.sT=c.ts.sT
 sS:c'.ts.sS=c.ts.sS
 sA:c'.ts.sA=c.ts.sA
 calls:c'.calls=c.calls
 timed:c'.timed=c.timed
theorem wG.refl(c:Ck):wG c c:=⟨rfl,rfl,rfl,rfl,rfl⟩
theorem wG.callee(h:wG c c')(nm:tN):zr c' nm=zr c nm:=by
 unfold zr;rw[h.sT,h.calls]
theorem wG.time(h:wG c c')(op:Int)(nm:tN):zX c' op nm=zX c op nm:=by
 unfold zX;rw[h.callee,h.timed]
theorem wG.means(h:wG c c')(nm:tN):means c'.ts nm=means c.ts nm:=by
 unfold P1.means;rw[h.sA,h.sS]
theorem qa3(j:wG c c'):∀(m:Nat) (n:Nd) (s s':Scp) (inn:Bool),szN n<=m->(∀ nm,wF nm n->lookS nm s=lookS nm s')->exam c s inn n=exam c' s' inn n
 | 0,n,_,_,_,o,_=>by obtain⟨op,nm,i,ks,p⟩:=n;simp[szN]at o
 |m+1,n,s,s',inn,o,h=>by
  have l:∀ k,k∈n.sD->∀(s s':Scp) (inn:Bool),(∀ nm,wF nm k->lookS nm s=lookS nm s')->exam c s inn k=exam c' s' inn k:=fun k l s s' inn t =>
   qa3 j m k s s' inn (zW1 (yv l)) t
  have r:∀ k,k∈n.sD->∀ nm,wF nm k->lookS nm s=lookS nm s':=fun k l nm C=>h nm (qnL l C)
  refine qaZ rfl rfl rfl rfl (j.time _ _) (fun _=>?_) j.sT (j.callee _) (by rw[j.sS]) rfl (fun _ J=>qa2 fun k g=>l k g s s' true (r k g)) (fun _ inn=>?_) (fun _ _ _ inn=>UN fun k g=>l k g s s' inn (r k g))
  .rw [Zp,Zp,h _ (qnK n),j.means]
  .cases I:n.sD with
   |nil=>rfl
   |cons k ks =>
    grind [ks,yk,zh,zb,UN,zc,Zo]
def wf(ts:TS)(g:List (tN×Nd)):TS:=⟨ts.sS,ts.sA,ts.sT,g⟩
theorem qnN{J:Type}(g:J->J->Bool)(l:List J)(i:Nat):(repL g l)[i]?=(l[i]?).map fun x=>(l.take i).any fun y=>g x y:=by
 grind [mn,qy,List.getElem?_eq_none,Qg]
theorem qa4{J:Type}(g:J->J->Bool)(l:List J)(i:Nat):repB g l i=match l[i]? with|some x=>[(l.take i).any fun y=>g x y] | none=>[]:=by
 unfold repB;rw[List.take_add_one,qnN,List.drop_append];by_cases h:i<l.length
 .rw [qy h,uc,Qg,Nat.min_eq_left zOm,List.drop_of_length_le zSo]
  simp
 grind
def binB(op:Int):Bool:=decide (op=15)||decide (op=45)||decide (op=46)
end
end PA
namespace YC
open P1 Y1 YX YZ YA YB PA
section
variable {env:IEnv}{s:ISt}{es:List (tN×Bool)}{F:Nat}{ts:TS}
abbrev XR(J:Type):=Except Dg (J×ISt)
def jw(E:Nd->ISt->XR (Nd×Int)):List (tN×Int)->List Nd->IEnv->ISt->XR IEnv
 |p :: g,k :: ks,own,s=>match E k s with
  | .error e => .error e
  | .ok ((i,m),j)=>jw E g ks (setK p.1 ⟨some i,m,⟨#[]⟩⟩ own) j
 |_,_,own,s => .ok (own,s)
def yV(E:IEnv->Nd->ISt->XR (Nd×Int))(R:IEnv->tN->ISt->(IEnv×tN)×ISt)(bin:Bool):Nat->IEnv->tN->List Nd->ISt->XR (tN×List Nd×Int)
 |_,_,o,[],s => .ok ((o,[],0),s)
 |i,env,o,k :: ks,s =>
  let r:=if bin=true/\i=1 then R env o s else ((env,o),s)
  match E r.1.1 k r.2 with
  | .error e => .error e
  | .ok ((p,m),t)=>match yV E R bin (i+1) r.1.1 r.1.2 ks t with
   | .error e => .error e
   | .ok ((g,j,C),l) => .ok ((g,p :: j,m+C),l)
def v8{J i:Type}(q:XR J)(g:J->ISt->XR i):XR i:=
 match q with
 | .error e => .error e
 | .ok (a,s)=>g a s
theorem YO{J i:Type}{q:XR J}{g:J->ISt->XR i}{r:i×ISt}(h:v8 q g = .ok r):∃ a s,q = .ok (a,s)/\g a s = .ok r:=by
 unfold v8 at h;split at h
 .cases h
 .exact ⟨_,_,rfl,h⟩
def expI(ts:TS)(es:List (tN×Bool)):Nat->IEnv->Nd->Bool->ISt->XR (Nd×Int)
 | 0,_,_,_,_ => .error (2,0)
 |f+1,env,n,g,s =>
  if s.sM+1<=4000 then
   if n.op=1 then vY env n (payS 1 s)
   else if n.op=47 then match ts.sT.find? fun p=>decide (p.name=n.name) with
    |none => .error (2,0)
    |some p=>v8 (jw (fun k s=>expI ts es f env k g s) p.params n.sD [] (payS 1 s)) fun own i=>expI ts es f own p.body true i
   else v8 (yV (fun env k s=>expI ts es f env k g s) (fun env o s=>renI ts es env o g s) (binB n.op) 0 env n.name n.sD (payS 1 s)) fun r i => .ok ((.mk n.op r.1 n.n r.2.1 n.pos,1+r.2.2),i)
  else .error (2,0)
def yW(ts:TS)(n:Nd):Prop:=∀ x,x∈preN n->x.op=47->∃ p,(ts.sT.find? fun p=>decide (p.name=x.name))=some p/\p.params.length=x.sD.length
theorem qnO{ks:List Nd}{k x:Nd}(g:k∈ks)(i:x∈preN k):x∈zx ks:=by
 induction ks with
 |nil=>simp at g
 |cons a l j =>
  simp only[zx,qM];rcases qz.1 g with rfl|g
  .exact .inl i
  grind
theorem Kv{n k x:Nd}(g:k∈n.sD)(i:x∈preN k):x∈preN n:=by
 grind [wE,zc,qnO]
theorem uq(n:Nd):n∈preN n:=by rw[wE];exact zh ..
theorem yW.kid{n k:Nd}(h:yW ts n)(g:k∈n.sD):yW ts k:=fun x i=>h x (Kv g i)
def pot(F:Nat)(s:ISt):Int:=s.sM*F-s.last
structure StOk (F:Nat) (s:ISt):Prop where
 l0:0<=s.last
 c0:0<=s.sM
 c1:s.sM<=4000
 p:0<=pot F s
theorem StOk.last(h:StOk F s):s.last<=4000*F:=by
 have g:s.sM*F<=4000*F:=Int.mul_le_mul_of_nonneg_right h.c1 zOm;have:=h.p
 grind [pot]
structure zu (env:IEnv):Prop where
 nd:(env.map Prod.fst).Nodup
 sz:∀ e,e∈env->0<=e.2.size/\e.2.size<=4000
theorem zu.nil:zu []:=⟨zSp,fun e g=>by simp at g⟩
theorem zu.set(h:zu env){k:tN}{v:IV}(i:0<=v.size/\v.size<=4000):zu (setK k v env):=
 ⟨wm h.nd,fun e g=>by
  rcases (Zn h.nd).1 g with rfl|⟨g,_⟩
  .exact i
  .exact h.sz e g⟩
theorem zu.del(h:zu env){k:tN}:zu (delK k env):=⟨ZH h.nd,fun e g=>h.sz e ((Xg h.nd).1 g).1⟩
theorem J9{nm:tN}{body:Bool}(h:zu env):zu (renI ts es env nm body s).1.1:=by
 unfold renI;split
 .exact h.del.set ⟨zSp,zSp⟩
 .exact h.del
theorem Kw(ts:TS)(es:List (tN×Bool)):∀(f:Nat) (k:Int),k<zy ts es f k/\zy ts es f k<=k+f+1
 | 0,k=>by grind [zy]
 |f+1,k=>by
  simp only[zy];have:=Kw ts es f (k+1);omega
theorem Kx{ts:TS}{es:List (tN×Bool)}:∀{f:Nat} {k:Int},(∃ j:Nat,1<=j/\j<=f/\yN ts es (vN (k+j))=true)->zy ts es f k<=k+f
 | 0,k,⟨j,g,i,_⟩=>zOm
 |f+1,k,⟨j,g,i,l⟩=>by
  simp only[zy];split
  .omega
  .rename_i o
   have p:j≠1:=fun e=>by grind
   have:=Kx (ts:=ts) (es:=es) (f:=f) (k:=k+1) ⟨j-1,zOm,zOm,by grind⟩;omega
def Free(ts:TS)(es:List (tN×Bool)):Prop:=∀ l:Int,0<=l->∃ j:Nat,1<=j/\j<=qr ts es/\yN ts es (vN (l+j))=true
theorem Va(g:Free ts es){env:IEnv}{nm:tN}{body:Bool}{s:ISt}(i:0<=s.last):0<=(renI ts es env nm body s).2.last/\(renI ts es env nm body s).2.last<=s.last+(qr ts es:Nat)/\(renI ts es env nm body s).2.sM=s.sM:=by
 unfold renI;split
 .have l:=Kw ts es (qr ts es) s.last
  have j:=Kx (g s.last i);refine⟨?_,j,rfl⟩
  grind
 .exact ⟨i,by grind,rfl⟩
structure Gos (F:Nat) (s s':ISt) (z:Int):Prop where
 l0:0<=s'.last
 c1:s'.sM<=4000
 z0:0<=z
 cz:s.sM+z<=s'.sM
 p:pot F s<=pot F s'
theorem Gos.ok{s':ISt}{z:Int}(g:Gos F s s' z)(h:StOk F s):StOk F s':=⟨g.l0,by have:=g.cz;have:=g.z0;have:=h.c0;omega,g.c1,zW2 g.p h.p⟩
theorem ZV(F:Nat)(s:ISt)(n:Int):pot F (payS n s)=pot F s+n*F:=by
 grind [pot,payS,Int.add_mul]
theorem Ql(h:StOk F s){n:Int}(g:0<=n)(i:s.sM+n<=4000):Gos F s (payS n s) n:=
 ⟨h.l0,i,g,vB _,by rw[ZV];have:0<=n*(F:Int):=Int.mul_nonneg g zOm;omega⟩
theorem qnP{n n':Nd}{s':ISt}{z:Int}(h:StOk F s)(l:zu env)(t:s.sM+1<=4000)(e:vY env n (payS 1 s) = .ok ((n',z),s')):Gos F s s' z:=by
 have j:=Ql h (n:=1) zOm t;unfold vY at e;cases o:getK n.name env with
 |none=>grind
 |some v =>
  rw[o]at e;have C:=l.sz _ ((Za l.nd).1 o);obtain⟨I,r,P⟩:=v;cases I with
  |none=>cases e;exact j
  |some a =>
   simp only at e;split at e
   .rename_i J
    have i:0<=r/\r<=4000:=C;cases e;have g:=Ql (j.ok h) i.1 J;exact⟨g.l0,g.c1,i.1,zW2 g.cz j.cz,zW2 g.p j.p⟩
   .cases e
theorem Ky{E:Nd->ISt->XR (Nd×Int)}:∀{ks:List Nd} {ps:List (tN×Int)} {own i:IEnv} {s s':ISt},(∀ k n' z s s',k∈ks->StOk F s->E k s = .ok ((n',z),s')->Gos F s s' z)->StOk F s->zu own ->
  jw E ps ks own s = .ok (i,s')->zu i/\Gos F s s' 0
 | [],ps,own,i,s,s',_,h,j,e=>by
  have e:Except.ok (own,s)=(Except.ok (i,s'):XR IEnv):=by cases ps<;>exact e
  cases e;exact⟨j,h.l0,h.c1,zOm,zOm,vB _⟩
 |k :: ks,[],own,i,s,s',_,h,j,e=>by
  cases e;exact⟨j,h.l0,h.c1,zOm,zOm,vB _⟩
 |k :: ks,p :: ps,own,i,s,s',o,h,j,e=>by
  simp only[jw]at e;split at e
  .cases e
  .rename_i r m s1 t
   have g:=o k r m s s1 (zh ..) h t;have C:m<=4000:=by have:=g.cz;have:=g.c1;have:=h.c0;omega
   obtain⟨I,l⟩:=Ky (fun k n' z s s' J=>o k n' z s s' (zc _ J)) (g.ok h) (j.set (v:=⟨some r,m,⟨#[]⟩⟩) ⟨g.z0,C⟩) e;exact⟨I,l.l0,l.c1,zOm,by have:=g.cz;have:=g.z0;have:=l.cz;omega,zW2 g.p l.p⟩
def dueN(F:Nat)(bin:Bool)(i:Nat):Int:=if bin=true/\i<=1 then F else 0
theorem ZW(F:Nat)(bin:Bool)(i:Nat):0<=dueN F bin i:=by unfold dueN;split<;>omega
theorem UO{bin:Bool}{i:Nat}(h:¬(bin=true/\i=1)):dueN F bin i=dueN F bin (i+1):=by
 unfold dueN;by_cases g:bin=true
 .by_cases l:i=1
  .grind
  .by_cases j:i<=1
   .rw [if_pos ⟨g,j⟩,if_pos ⟨g,zOm⟩]
   omega
 grind
theorem qa5{E:IEnv->Nd->ISt->XR (Nd×Int)}{R:IEnv->tN->ISt->(IEnv×tN)×ISt}{bin:Bool}(P:∀ env nm s,0<=s.last->zu env->zu (R env nm s).1.1/\0<=(R env nm s).2.last/\(R env nm s).2.last<=s.last+(F:Int)/\(R env nm s).2.sM=s.sM) :
  ∀{ks:List Nd} {i:Nat} {env:IEnv} {nm j:tN} {s s':ISt} {l:List Nd} {m:Int},(∀ env k n' z s s',k∈ks->StOk F s->zu env->E env k s = .ok ((n',z),s')->Gos F s s' z)->0<=s.last->0<=s.sM->s.sM<=4000->dueN F bin i<=pot F s->zu env ->
  yV E R bin i env nm ks s = .ok ((j,l,m),s')->0<=s'.last/\s'.sM<=4000/\0<=m/\s.sM+m<=s'.sM/\pot F s-dueN F bin i<=pot F s'
 | [],i,env,nm,j,s,s',l,m,_,T,c0,c1,hp,U,e=>by
  cases e;have:=ZW F bin i;omega
 |k :: ks,i,env,nm,j,s,s',l,m,hE,T,c0,c1,hp,U,e=>by
  simp only[yV]at e;obtain⟨r,t⟩:∃ r,r=if bin=true/\i=1 then R env nm s else ((env,nm),s):=⟨_,rfl⟩
  rw[<-t]at e;have I:zu r.1.1/\0<=r.2.last/\r.2.sM=s.sM/\dueN F bin (i+1)<=pot F r.2/\pot F s-dueN F bin i<=pot F r.2-dueN F bin (i+1):=by
   by_cases C:bin=true/\i=1
   .rw [if_pos C]at t
    obtain⟨a1,a2,a3,a4⟩:=P env nm s T U;have d1:dueN F bin i=F:=if_pos ⟨C.1,zOm⟩;have d2:dueN F bin (i+1)=0:=zIn
    grind [pot]
   .rw [if_neg C]at t
    subst t;have d':dueN F bin i=dueN F bin (i+1)\/(bin=true/\i=1):=by
     unfold dueN;by_cases o:bin=true
     .by_cases h1:i=1
      .grind
      .left
       by_cases h0:i<=1
       .rw [if_pos ⟨o,h0⟩,if_pos ⟨o,zOm⟩]
       omega
     grind
    have a0:dueN F bin i=dueN F bin (i+1):=d'.elim id fun h=>absurd h C
    grind
  obtain⟨b1,b2,b3,b4,b5⟩:=I;split at e
  .cases e
  .rename_i k' m1 s1 h1
   have J:StOk F r.2:=⟨b2,zOm,zOm,zW1 (ZW F bin (i+1))⟩;have g:=hE r.1.1 k k' m1 r.2 s1 (zh ..) J b1 h1;split at e
   .cases e
   .rename_i a5 a6 m2 s2 h2
    have:=qa5 P (fun env k n' z s s' hk=>hE env k n' z s s' (zc _ hk)) g.l0 (zW2 g.cz g.z0) g.c1 (zW1 g.p) b1 h2;obtain⟨q1,q2,q3,q4,q5⟩:=this;cases e;have:=g.cz;have:=g.z0;have:=g.p;omega
theorem jT(ts:TS){es:List (tN×Bool)}(g:Free ts es):∀(f:Nat) {env:IEnv} {n n':Nd} {body:Bool} {s s':ISt} {z:Int},StOk (qr ts es) s->zu env->expI ts es f env n body s = .ok ((n',z),s')->Gos (qr ts es) s s' z
 | 0,_,_,_,_,_,_,_,_,_,e=>by cases e
 |f+1,env,n,n',body,s,s',z,h,P,e=>by
  simp only[expI]at e;split at e
  .rename_i R
   have i:=Ql h (n:=1) zOm R;split at e
   .grind [qnP]
   .split at e
    .split at e
     .cases e
     .rename_i p _
      .obtain ⟨own,s1,t,e⟩:=YO e
       obtain⟨T,g1⟩:=Ky (F:=qr ts es) (fun k n' z s s' _ C I=>jT ts g f C P I) (i.ok h) .nil t;have j:=jT ts g f (g1.ok (i.ok h)) T e;exact⟨j.l0,j.c1,j.z0,by have:=j.cz;have:=g1.cz;have:=i.cz;omega,by have:=j.p;have:=g1.p;have:=i.p;omega⟩
    ·.obtain ⟨⟨l,r,m⟩,s1,t,e⟩:=YO e
      cases e;have U:dueN (qr ts es) (binB n.op) 0<=pot (qr ts es) (payS 1 s):=by
       rw[ZV];have:=h.p;grind [dueN]
      have:=qa5 (F:=qr ts es) (fun env o s hl J=>⟨J9 J,Va g hl⟩) (fun env k n' z s s' _ C J I=>jT ts g f C J I) i.l0 (by have:=(i.ok h).c0;exact this) i.c1 U P t;obtain⟨q1,q2,q3,q4,q5⟩:=this;have a0:dueN (qr ts es) (binB n.op) 0<=(qr ts es:Nat):=by grind [dueN]
      rw[ZV]at q5;have a1:0<=(l,r,m).snd.snd:=q3;have a2:(payS 1 s).sM+(l,r,m).snd.snd<=s'.sM:=q4;exact⟨q1,q2,zOm,zW1 i.cz,zOm⟩
  .cases e
end
end YC
namespace E6
end E6
namespace YD
open YM YF P1 P2 Y1 Y2 Y6 Y7 Y9 Y10 Y13 YX YZ YB PA YC
section
variable {mu:Mu}{b:Nat}
theorem qnQ(p:Pd)(n:Nd):qj qg 136 [.agg (cPd p),.ip (cNd n)] (aB (decide (p.name=n.name))):=by
 refine qSV call136 func136 rfl ?_;by_cases h:p.name=n.name
 .simp [go_sem,h]
  exact .zsc _
 .simp [go_sem,h,jS h]
  exact .zsc _
def endE(ts:TS)(tb:Nat)(mu:Mu)(xb:Nat)(r:XR (Nd×Int))(e:AEnd)(m:Mu):Prop:=
 match r with
 | .ok ((n,k),s)=>e = .ret (.tup [eNd n,aI k])/\m[xb]?=some (.arr (cIn ts tb s))/\But xb mu m
 | .error d=>e = .pan (jR d.1 d.2)/\But xb mu m
def IHE(ts : TS)(es : List (tN × Bool))(tb f : Nat) : Prop := ∀ (env : IEnv) (n : Nd) (g : Bool) (s : ISt) (C : Mu) (i : Nat), 4000 < s.sM + f->StOk (qr ts es) s->zu env->WfN n->yW ts n->C[i]? = some (.arr (cIn ts tb s))->C[tb]? = some (.mp (eSet es)) ->
      qD qg 89 [.ptr i 0,eEnv env,eNd n,aB g] C (endE ts tb C i (expI ts es f env n g s))
structure M0 (ts:TS) (es:List (tN×Bool)) (tb:Nat) (mu:Mu) (xb:Nat) (n:Nd) (s:ISt) (M:Mu):Prop where
 len:M.length=mu.length+2
 x:M[xb]?=some (.arr (cIn ts tb s))
 t:M[tb]?=some (.mp (eSet es))
 n:M[mu.length]?=some (.arr (cNd n))
 r:M[mu.length+1]?=some (.arr [aI 0,aS ⟨#[]⟩,aI 0,.lst true [],aI 0])
 but:But xb mu M
theorem M0.of{ts:TS}{es:List (tN×Bool)}{tb:Nat}{xb:Nat}{n:Nd}{s s':ISt}(g:mu[xb]?=some (.arr (cIn ts tb s)))(i:mu[tb]?=some (.mp (eSet es))) :
  M0 ts es tb mu xb n s' ((mu++[Cell.arr (cNd n),Cell.arr [aI 0,aS ⟨#[]⟩,aI 0,.lst true [],aI 0]]).set xb (.arr (cIn ts tb s'))):=by
 have j:xb<mu.length:=(qm.1 g).1;have l:tb<mu.length:=(qm.1 i).1;have o:tb≠xb:=fun e=>by grind
 refine⟨zSp,qL zSo,?_,?_,?_,(But.app xb mu _).trans (cD xb _ _)⟩
 .grind
 .grind
 grind
theorem qnR(ts:TS)(es:List (tN×Bool))(tb:Nat)(env:IEnv)(n:Nd)(body:Bool)(s:ISt)(mu:Mu)(xb:Nat)(J:StOk (qr ts es) s)(P:zu env)(R:mu[xb]?=some (.arr (cIn ts tb s)))(T:mu[tb]?=some (.mp (eSet es)))(t:n.op=1) :
  qD qg 89 [.ptr xb 0,eEnv env,eNd n,aB body] mu (endE ts tb mu xb (if s.sM+1<=4000 then vY env n (payS 1 s) else .error (2,0))):=by
 have U:=J.c0;have a0:=J.c1;refine qSW call89 func89 rfl { mt:=[6] } ?_;have a1:xb<mu.length:=(qm.1 R).1;simp[go_sem];refine fQ (payU ts tb s 1 ⟨zOm,zOm⟩ ⟨zOm,zOm⟩ (by grind)) ?_ ?_
 .rintro r m ⟨rfl,e⟩
  by_cases C:s.sM+1<=4000
  .rw [if_pos C]at e⊢
   cases e;have l:=M0.of (s':=payS 1 s) (n:=n) R T;generalize a2:(mu++[Cell.arr (cNd n),.arr [aI 0,aS ⟨#[]⟩,aI 0,.lst true [],aI 0]]).set xb (.arr (cIn ts tb (payS 1 s)))=M at *
   simp[go_sem,l.n,t];have g:=qkU ts tb (payS 1 s) ⟨by show _<=s.sM+1;omega,by show s.sM+1<=_;omega⟩ env P.nd (fun e hm=>zW1 (P.sz e hm)) n l.x;generalize vY env n (payS 1 s)=Q at *
   have a3:=l.len;cases Q with
   |error d =>
    refine fQ g (by rintro r m ⟨e,_⟩;cases e) ?_;rintro r m ⟨e,i,j⟩;cases e;simp[go_sem];exact⟨rfl,l.but.trans ⟨j,i⟩⟩
   |ok q =>
    obtain⟨⟨n',k'⟩,s'⟩:=q;refine fQ g ?_ (by rintro r m ⟨e,_⟩;cases e);rintro r m ⟨e,a4,i,j⟩;cases e;have I:m[mu.length+1]?=some (.arr [aI 0,aS ⟨#[]⟩,aI 0,.lst true [],aI 0]):=by grind
    have o:mu.length+1<m.length:=zOm;have p:∀ c,(m.set (mu.length+1) c)[mu.length+1]?=some c:=fun c=>qL o
    simp[go_sem,I,p];exact⟨rfl,by grind,(l.but.trans ⟨j,i⟩).setN zOm _⟩
  grind
 .rintro r m ⟨rfl,e⟩
  by_cases C:s.sM+1<=4000
  .grind
  .rw [if_neg C]at e⊢
   cases e;simp[go_sem];exact⟨rfl,(But.app xb mu _).trans (cD xb _ _)⟩
theorem qa6{cs:List AV}(j:mu[b]?=some (.arr cs))(h:∀ c,c∈cs->HF c):Rd mu (.ptr b 0) (.ip cs):=
 .ptr b 0 cs cs j zSp fun k x y g i=>by
  rw[ye]at g;rw[g]at i;cases i;exact .hf _ (h _ (qZ g))
abbrev AP:=Nat×Int×Nd
abbrev eAP(a:AP):AV := .agg [.ptr a.1 0,aI a.2.1,aS ⟨#[]⟩]
abbrev ivA(a:AP):IV:=⟨some a.2.2,a.2.1,⟨#[]⟩⟩
abbrev ownA(acc:List (tN×AP)):IEnv:=acc.map fun e=>(e.1,ivA e.2)
theorem Kz{i J j:Type} [DecidableEq i] (g:J->j) (k:i) (v:J):∀ es:List (i×J),(setK k v es).map (fun e=>(e.1,g e.2))=setK k (g v) (es.map fun e=>(e.1,g e.2))
 | []=>rfl
 |e :: es=>by
  simp only[setK,z6];split
  .rfl
  .rw [z6,Kz g k v es]
theorem updAP{es:List (tN×AP)}(i:mu[b]?=some (.mp (encK aS eAP es)))(nm:tN)(v:AP) :
  jO qg mu 158 (.mp b) (aS nm) (eAP v)=some (mu.set b (.mp (encK aS eAP (setK nm v es)))):=
 keyS.update (et:=220) (t:=158) zSi (mu:=mu) (b:=b) (venc:=eAP) (es:=es) i (k:=nm) (v:=v) trivial (fun _ _=>trivial)
theorem qa7{acc:List (tN×AP)}(o:mu[b]?=some (.mp (encK aS eAP acc)))(r:(acc.map Prod.fst).Nodup)(p:∀ e,e∈acc->mu[e.2.1]?=some (.arr (cNd e.2.2.2))):Rd mu (.mp b) (eEnv (ownA acc)):=by
 have j:((ownA acc).map Prod.fst).Nodup:=by
  grind
 have get:∀(k:Nat) (x y:AV×AV),(encK aS eAP acc)[k]?=some x->(encK aS eIV (ownA acc))[k]?=some y->∃ e,e∈acc/\x=(aS e.1,eAP e.2)/\y=(aS e.1,eIV (ivA e.2)):=fun k x y g i=>by
  grind
 refine .ims _ _ _ id id (PIx.refl _) (Ku j) (.mp b _ _ o zSp (fun k x y g i=>?_) (fun k x y g i=>?_))
 .obtain ⟨e,l,rfl,rfl⟩:=get k x y g i
  exact .zsc _
 .obtain ⟨e,l,rfl,rfl⟩:=get k x y g i
  refine .agg _ _ rfl fun k x y g i=>?_
  match k with
  | 0 =>
   simp at g i;subst g;subst i;exact qa6 (p e l) (vG _)
  | 1=>simp at g i;subst g;subst i;exact .zsc _
  | 2=>simp at g i;subst g;subst i;exact .zsc _
  |k+3=>simp at g
theorem qnS{ps:List Pd}{g:Pd->Bool}{p:Pd}(h:ps.find? g=some p):∃ i,∃ j:i<ps.length,ps[i]=p/\idxI ps g=i:=by
 grind [List.find?_eq_some_iff_getElem,Xq]
theorem qnT(ts:TS)(h:okTS ts)(hb:∀ p,p∈ts.sT->WfN p.body/\yW ts p.body)(es:List (tN×Bool))(hF:qr ts es<=200000)(b0:Free ts es)(tb f:Nat)(ih:IHE ts es tb f)(env:IEnv)(n:Nd)(body:Bool)(s:ISt)(mu:Mu)(xb:Nat)
  (hc:4000<s.sM+(f+1:Nat)) (hs:StOk (qr ts es) s) (he:zu env) (hw:WfN n) (aj:yW ts n) (hx:mu[xb]?=some (.arr (cIn ts tb s))) (ht:mu[tb]?=some (.mp (eSet es))) (ab:n.op=47) :
  qD qg 89 [.ptr xb 0,eEnv env,eNd n,aB body] mu (endE ts tb mu xb (expI ts es (f+1) env n body s)):=by
 have bq:=hs.c0;have br:=hs.c1;generalize J:expI ts es (f+1) env n body s=R;simp only[expI,ab]at J;obtain⟨p,hp,b1⟩:=aj n (uq n) ab;rw[hp]at J;refine qSW call89 func89 rfl { mt:=[6] } ?_;have bs:xb<mu.length:=(qm.1 hx).1;have b2:tb<mu.length:=(qm.1 ht).1;simp[go_sem];refine fQ (payU ts tb s 1 ⟨zOm,zOm⟩ ⟨zOm,zOm⟩ (by grind)) ?_ ?_
 .rintro r m ⟨rfl,e⟩
  by_cases T:s.sM+1<=4000
  .rw [if_pos T]at e J
   cases e;have hM:=M0.of (s':=payS 1 s) (n:=n) hx ht;generalize bt:(mu++[Cell.arr (cNd n),.arr [aI 0,aS ⟨#[]⟩,aI 0,.lst true [],aI 0]]).set xb (.arr (cIn ts tb (payS 1 s)))=M at *
   have bu:=hM.len;simp[go_sem,hM.n,ab];refine qk.fz (FzQ.one (b:=mu.length) (d:=6) (x := .ip (cNd n)) ?_ ?_)
   .simp [go_sem]
    grind [qa6,v7,vG]
   have ak:(cutM (fun j=>!(j == mu.length)) M 0)[xb]?=some (.arr (cIn ts tb (payS 1 s))):=by grind [v7]
   have bn:(cutM (fun j=>!(j == mu.length)) M 0)[tb]?=some (.mp (eSet es)):=by grind [v7]
   have bo:(cutM (fun j=>!(j == mu.length)) M 0)[mu.length+1]?=some (.arr [aI 0,aS ⟨#[]⟩,aI 0,.lst true [],aI 0]):=by grind [v7]
   have al:But xb mu (cutM (fun j=>!(j == mu.length)) M 0):=hM.but.cut fun i hi=>zSo
   have a8:(cutM (fun j=>!(j == mu.length)) M 0).length=mu.length+2:=by grind [jM]
   simp only[qE];generalize cutM (fun j=>!(j == mu.length)) M 0=M1 at *
   refine cJ zKr ?_;simp[go_sem,ak];obtain⟨i,hi,b3,an⟩:=qnS hp;have b4:JL qg (.fn (.func 136) [] [.ip (cNd n)]) ts.sT (fun x => .agg (cPd x)) (fun p=>decide (p.name=n.name)):=⟨_,_,_,rfl,fun p hp=>⟨_,qnQ p n,.zk (HF.agg (Uj p)) (.zk (JZ n) .nil)⟩⟩;refine tT (Xr false ts.sT _ (fun p=>decide (p.name=n.name)) b4 (zW1 h.np)) (.zk (Zf _) (.zk (HF.fn zSp (fun x hx=>by grind [JZ])) .nil)) ?_;rw[an];have b5:p∈ts.sT:=List.mem_of_find?_eq_some hp;obtain⟨b6,b7⟩:=hb p b5;have ao:=hw.len;have a5:=Zg p;simp[go_sem,hi,b3,a5];have aq:StOk (qr ts es) (payS 1 s):=(Ql hs zOm T).ok hs;have J:v8 (jw (fun k s=>expI ts es f env k body s) p.params n.sD [] (payS 1 s)) (fun own s'=>expI ts es f own p.body true s')=R:=zUs J;generalize hQ:jw (fun k s=>expI ts es f env k body s) p.params n.sD [] (payS 1 s)=Q at *
   refine kM n.sD.length (fun k U=>∃(o:List (tN×AP)) (P:ISt),U.tm 0 = .ptr xb 0/\U.tm 1=eEnv env/\U.tm 3=aB body/\U.tm 8 = .ptr (mu.length+1) 0/\U.tm 10 = .ptr (mu.length+2) 0/\U.tm 11 = .mp (mu.length+3)/\U.tm 52=lNd n.sD/\U.tm 53=aI n.sD.length/\U.tm 54=aI k /\
    But xb mu U.mu/\mu.length+3<U.mu.length/\U.mu[xb]?=some (.arr (cIn ts tb P))/\U.mu[mu.length+1]?=some (.arr [aI 0,aS ⟨#[]⟩,aI 0,.lst true [],aI 0])/\U.mu[mu.length+2]?=some (.arr (cPd p))/\U.mu[mu.length+3]?=some (.mp (encK aS eAP o)) /\
    (∀ e,e∈o->mu.length+3<e.2.1/\e.2.1<U.mu.length/\U.mu[e.2.1]?=some (.arr (cNd e.2.2.2)))/\zu (ownA o)/\(o.map Prod.fst).Nodup/\StOk (qr ts es) P/\s.sM+1<=P.sM/\jw (fun k s=>expI ts es f env k body s) (p.params.drop k) (n.sD.drop k) (ownA o) P=Q) ?_ ?_
   .refine ⟨[],payS 1 s,zSi,zSi,zSi,zSi,by simp[go_sem,a8],by simp[go_sem,a8],zSi,zSi,zSi,?_,?_,?_,?_,?_,?_,zSp,.nil,zSp,aq,by show _<=s.sM+1;omega,zUs hQ⟩
    all_goals simp only[qE]
    .exact al.trans (But.app xb M1 _)
    .simp;omega
    .grind
    .grind
    .grind
    grind
   .rintro k U hk ⟨o,P,e0,e1,e3,e8,ad,ae,ar,af,ag,C,hl,gx,gr,gp,gm,au,a9,ah,a6,b8,hI⟩
    have b9:U.mu[tb]?=some (.mp (eSet es)):=by rw[C.same tb b2 (fun e=>by grind)];exact ht
    by_cases ao:k=n.sD.length
    .subst ao
     simp[go_sem,e0,ad,ae,af,ag,gp];rw[yA,List.drop_of_length_le zOm]at hI;have hI:Q = .ok (ownA o,P):=hI.symm;rw[hI]at J;have J:expI ts es f (ownA o) p.body true P=R:=J;have av:∀ i,i<mu.length+3->(cutM (fun i=>!decide (mu.length+3<=i)) U.mu 0)[i]?=U.mu[i]?:=fun i hi=>v7 zSo
     have g:=ih (ownA o) p.body true P (cutM (fun i=>!decide (mu.length+3<=i)) U.mu 0) xb zOm a6 a9 b6 b7 (by grind) (by grind);rw[J]at g;have g:=qD.freeze (mu:=U.mu) (args:=[.ptr xb 0,.mp (mu.length+3),eNd p.body,aB true]) (args1:=[.ptr xb 0,eEnv (ownA o),eNd p.body,aB true]) (fun i=>decide (mu.length+3<=i)) ⟨.inl rfl,.inr (qa7 (by grind [v7]) ah (fun e he=>by
      grind [v7])),.inl rfl,.inl rfl,trivial⟩ g
     cases R with
     |error d =>
      refine fQ g (by rintro r m ⟨e,_⟩;cases e) ?_;rintro r m ⟨e,t⟩;cases e;simp[go_sem];exact⟨rfl,(C.cut fun i hi=>zSo).trans t⟩
     |ok q =>
      obtain⟨⟨n',k'⟩,s'⟩:=q;refine fQ g ?_ (by rintro r m ⟨e,_⟩;cases e);rintro r m ⟨e,aw,t⟩;cases e;have ai:=t.len;rw[jM]at ai;have ax:mu.length+1<m.length:=zOm;have bc:m[mu.length+1]?=some (.arr [aI 0,aS ⟨#[]⟩,aI 0,.lst true [],aI 0]):=by rw[t.same _ (by rw[jM];omega) zOm,av _ zOm];exact gr
      have ay:∀ c,(m.set (mu.length+1) c)[mu.length+1]?=some c:=fun c=>qL ax
      simp[go_sem,e8,bc,ay];refine⟨rfl,by grind,?_⟩;exact((C.cut fun i hi=>zSo).trans t).setN zOm _
    .have a7:k<n.sD.length:=by omega
     have w1:=zWk k;have aa:k<p.params.length:=zOm;rw[zp a7,zp aa]at hI;simp only[jw]at hI;simp[go_sem,e0,e1,e3,ar,af,ag,a7];have a0:∀ i,i<U.mu.length->(U.mu++[Cell.arr (cNd n.sD[k])])[i]?=U.mu[i]?:=fun i hi=>qI hi
     have az:n.sD[k]∈n.sD:=qs a7;have g:=ih env n.sD[k] body P (U.mu++[Cell.arr (cNd n.sD[k])]) xb zOm a6 he (hw.kid az) (aj.kid az) (by grind) (by rw[a0 _ zOm];exact b9);have be:∀{n' z s'},expI ts es f env n.sD[k] body P = .ok ((n',z),s')->Gos (qr ts es) P s' z:=fun e=>jT ts b0 f a6 he e
     generalize hE:expI ts es f env n.sD[k] body P=E at *
     cases E with
     |error d =>
      have hI:Q = .error d:=hI.symm;rw[hI]at J;have J:R = .error d:=J.symm;subst J;refine fQ g (by rintro r m ⟨e,_⟩;cases e) ?_;rintro r m ⟨e,t⟩;cases e;simp[go_sem];exact⟨rfl,C.trans ((But.app xb U.mu _).trans t)⟩
     |ok q =>
      obtain⟨⟨n',k'⟩,s'⟩:=q;have hg:=be rfl;simp only at hI;refine fQ g ?_ (by rintro r m ⟨e,_⟩;cases e);rintro r m ⟨e,aw,t⟩;cases e;have ai:=t.len;simp only[q8,zD,List.length_nil]at ai;have I:∀ i,i<U.mu.length->i≠xb->m[i]?=U.mu[i]?:=fun i hi bg=>by rw[t.same i zSo bg,a0 i hi]
      have bh:∀ l,(m++l)[mu.length+2]?=some (.arr (cPd p)):=fun l=>by rw[zGa,I _ zOm zOm];exact gp
      have bi:∀ l,(m++l)[mu.length+3]?=some (.mp (encK aS eAP o)):=fun l=>by grind
      have hu:=fun l=>updAP (bi l) p.params[k].1 (m.length,k',n')
      simp[go_sem,ad,ae,bh,aa];refine tS _ (hu _) ?_;generalize hN:(m++[Cell.arr (cNd n')]).set (mu.length+3) (.mp (encK aS eAP (setK p.params[k].1 (m.length,k',n') o)))=N;have bv:N.length=m.length+1:=by rw[<-hN];simp
      have a4:∀ i,i<m.length->i≠mu.length+3->N[i]?=m[i]?:=fun i h1 h2=>by rw[<-hN,zGl,qI h1]
      have bj:N[mu.length+3]?=some (.mp (encK aS eAP (setK p.params[k].1 (m.length,k',n') o))):=by rw[<-hN,qL zSo]
      have bk:N[m.length]?=some (.arr (cNd n')):=by rw[<-hN,zGl,zE (qt _)];simp
      simp[go_sem,ag,w1];refine⟨a7,aK ?_⟩;have bm:k'<=4000:=zW2 hg.cz hg.c1;refine⟨setK p.params[k].1 (m.length,k',n') o,s',zS1 e0,zS1 e1,zS1 e3,zS1 e8,zS1 ad,zS1 ae,zS1 ar,zS1 af,zSi,?_,?_,?_,?_,?_,?_,?_,?_,wm ah,hg.ok a6,zW2 hg.cz hg.z0,?_⟩
      all_goals try simp only[qE]
      .refine ⟨zW1 C.len,fun i h1 h2=>?_⟩
       rw[a4 i zOm zOm,I i zOm h2];exact C.same i h1 h2
      .omega
      .rw [a4 _ zOm zOm];exact aw
      .rw [a4 _ zOm zOm,I _ zOm zOm];exact gr
      .rw [a4 _ zOm zOm,I _ zOm zOm];exact gp
      .exact bj
      .intro e he
       rcases (Zn ah).1 he with rfl|⟨he,_⟩
       .exact ⟨by show _<m.length;omega,by show m.length<_;omega,bk⟩
       .obtain ⟨a1,a2,a3⟩:=au e he
        exact⟨a1,zOm,by rw[a4 _ zOm zOm,I _ zOm zOm];exact a3⟩
      .unfold ownA
       rw[Kz (fun a:AP=>ivA a)];exact a9.set ⟨hg.z0,bm⟩
      .unfold ownA
       rw[Kz (fun a:AP=>ivA a)];exact hI
  grind
 .rintro r m ⟨rfl,e⟩
  by_cases T:s.sM+1<=4000
  .rw [if_pos T]at e;cases e
  .rw [if_neg T]at e J
   cases e;subst J;simp[go_sem];exact⟨rfl,(But.app xb mu _).trans (cD xb _ _)⟩
theorem qa8(op:Int):decide (op=15\/op=45\/op=46)=binB op:=by
 grind [binB]
theorem Zq{lo sz:Nat}{mu':Mu}{av:AV}{xs:List (List AV)}(h:OwnF lo mu sz av xs)(l:lo<=mu'.length)(o:∀ i,lo<=i->i<mu.length->mu'[i]?=mu[i]?):OwnF lo mu' sz av xs:=by
 obtain⟨p,g,_⟩:=h;refine⟨?_,g,l⟩;rcases p with rfl|⟨b,rfl,j⟩
 .exact .inl rfl
 .exact .inr ⟨b,rfl,by rw[o b (g b _ _ _ rfl) (qm.1 j).1];exact j⟩
theorem UP(l:List Nd):zi 5 (l.map cNd):=fun r g=>by
 obtain⟨n,_,rfl⟩:=qo.1 g
 grind [Yh,Yi]
theorem UQ{lo:Nat}{s:AV}{xs:List Nd}{k:Nd}{K:AV->Mu->Prop}(j:OwnF lo mu 5 s (xs.map cNd))(l:xs.length<=100000)(o:∀ av mu',OwnF lo mu' 5 av ((xs++[k]).map cNd)->(∀ i,i<lo->mu'[i]?=mu[i]?)->K av mu') :
  qA qg mu #[33,33] s (.lst true [cNd k]) K:=by
 refine qA.ownF (lo:=lo) (e:=35) (sz:=5) (bt:=64) (zv := .agg [aI 0,aS ⟨#[]⟩,aI 0,.lst true [],aI 0]) (xs:=xs.map cNd) (ys:=[cNd k]) zSi zSi zSi rfl rfl zOm zOm j (by simp[qF]) (UP xs) (UP [k]) zSo ?_
 grind
theorem qnU(ts:TS)(h:okTS ts)(es:List (tN×Bool))(hF:qr ts es<=200000)(ax:Free ts es)(tb f:Nat)(ih:IHE ts es tb f)(env:IEnv)(n:Nd)(body:Bool)(s:ISt)(mu:Mu)(xb:Nat)
  (hc:4000<s.sM+(f+1:Nat)) (hs:StOk (qr ts es) s) (he:zu env) (hw:WfN n) (bo:yW ts n) (hx:mu[xb]?=some (.arr (cIn ts tb s))) (ht:mu[tb]?=some (.mp (eSet es))) (h1:¬n.op=1) (h47:¬n.op=47) :
  qD qg 89 [.ptr xb 0,eEnv env,eNd n,aB body] mu (endE ts tb mu xb (expI ts es (f+1) env n body s)):=by
 have cx:=hs.c0;have cy:=hs.c1;have da:xb<mu.length:=(qm.1 hx).1;have cj:tb<mu.length:=(qm.1 ht).1;have bt:tb≠xb:=fun e=>by grind
 generalize hR:expI ts es (f+1) env n body s=R;simp only[expI,h1,h47,if_false]at hR;refine fH ?_;refine qSW call89 func89 rfl { mt:=[6] } ?_;simp[go_sem];refine fQ (payU ts tb s 1 ⟨zOm,zOm⟩ ⟨zOm,zOm⟩ (by grind)) ?_ ?_
 .rintro r m ⟨rfl,e⟩
  by_cases a8:s.sM+1<=4000
  .rw [if_pos a8]at e hR
   cases e;have hM:=M0.of (s':=payS 1 s) (n:=n) hx ht;generalize db:(mu++[Cell.arr (cNd n),.arr [aI 0,aS ⟨#[]⟩,aI 0,.lst true [],aI 0]]).set xb (.arr (cIn ts tb (payS 1 s)))=M at *
   have dc:=hM.len;have bu:=hw.len;have ay:StOk (qr ts es) (payS 1 s):=(Ql hs zOm a8).ok hs;have bv:∀ c,(M.set mu.length c)[mu.length]?=some c:=fun c=>qL zOm
   have ck:=yI n;simp[go_sem,hM.n,h1,h47,ck];refine kM n.sD.length (fun k U=>∃(J:List Nd) (j:IEnv) (I:tN) (s2:ISt) (t:AV) (z:Int),U.tm 0 = .ptr xb 0/\U.tm 1=eEnv j/\U.tm 3=aB body/\U.tm 6 = .ptr mu.length 0/\U.tm 8 = .ptr (mu.length+1) 0/\U.tm 17=aI z/\U.tm 87=lNd n.sD/\U.tm 88=aI n.sD.length/\U.tm 89=aI k /\
    But xb mu U.mu/\U.mu[xb]?=some (.arr (cIn ts tb s2))/\U.mu[mu.length+1]?=some (.arr [aI 0,aS ⟨#[]⟩,aI 0,.lst true [],aI 0])/\U.mu[mu.length]?=some (.arr [aI n.op,aS I,aI n.n,t,aI n.pos])/\OwnF (mu.length+2) U.mu 5 t (J.map cNd)/\zu j/\J.length=k /\
    0<=s2.last/\0<=s2.sM/\s2.sM<=4000/\dueN (qr ts es) (binB n.op) k<=pot (qr ts es) s2/\s.sM+1<=s2.sM/\1<=z/\z<=s2.sM-s.sM /\
    v8 (yV (fun env k s=>expI ts es f env k body s) (fun env o s=>renI ts es env o body s) (binB n.op) k j I (n.sD.drop k) s2) (fun r s' => .ok ((.mk n.op r.1 n.n (J++r.2.1) n.pos,z+r.2.2),s'))=R) ?_ ?_
   .refine ⟨[],env,n.name,payS 1 s,.lst true [],1,zSi,zSi,zSi,zSi,zSi,zSi,zSi,zSi,zSi,?_,?_,?_,?_,?_,he,rfl,ay.l0,ay.c0,ay.c1,?_,by show _<=s.sM+1;omega,zOm,by show _<=s.sM+1-_;omega,zUs hR⟩
    all_goals try simp only[qE]
    .exact hM.but.setN (qt _) _
    .grind
    .grind
    .exact bv _
    .grind [OwnF.nil]
    .rw [ZV];have:=hs.p;grind [dueN]
   .rintro k U hk ⟨J,j,I,s2,t,z,e0,e1,e3,e6,e8,be,aq,ah,ai,a9,gx,gr,gn,go,bg,dd,ar,bh,bi,bk,aj,de,bq,hI⟩
    have gt:U.mu[tb]?=some (.mp (eSet es)):=by rw[a9.same tb cj bt];exact ht
    have cw:mu.length+2<=U.mu.length:=go.2.2;by_cases bu:k=n.sD.length
    .subst bu
     have bw:=go.cells;have bm:=go.one;have br:∀ c,(U.mu.set (mu.length+1) c)[mu.length+1]?=some c:=fun c=>qL zOm
     rw[yA]at hI;have hI:R = .ok ((.mk n.op I n.n J n.pos,z),s2):=by grind [yV,v8]
     simp[go_sem,e6,e8,be,ah,ai,gn,gr,bm,br];rw[hI];have bs:(U.mu.set (mu.length+1) (.arr [aI n.op,aS I,aI n.n,t,aI n.pos])).length=U.mu.length:=zSp;refine .inr ⟨fun i=>decide (mu.length+2<=i),.tup [eNd (.mk n.op I n.n J n.pos),aI z],.rd _ _ (.tup _ _ rfl fun k x y hx hy=>?_),rfl,?_,?_⟩
     .match k with
      | 0 =>
       simp at hx hy;subst hx;subst hy;have cl:eNd (.mk n.op I n.n J n.pos) = .agg [aI n.op,aS I,aI n.n,.lst false (J.map cNd),aI n.pos]:=by
        show AV.agg (cNd _)=_;rw[yI];rfl
       rw[cl];refine .agg _ _ rfl fun k x y hx hy=>?_
       match k with
       | 0=>simp at hx hy;subst hx;subst hy;exact .zsc _
       | 1=>simp at hx hy;subst hx;subst hy;exact .zsc _
       | 2=>simp at hx hy;subst hx;subst hy;exact .zsc _
       | 3 =>
        simp at hx hy;subst hx;subst hy;exact XY (go.set zOm) (UP J).ok fun r hr c hc=>by
         obtain⟨x,_,rfl⟩:=qo.1 hr;exact vG x c hc
       | 4=>simp at hx hy;subst hx;subst hy;exact .zsc _
       |k+5=>simp at hx
      | 1=>simp at hx hy;subst hx;subst hy;exact .zsc _
      |k+2=>simp at hx
     .rw [v7 zSo,zGl];exact gx
     .exact (a9.setN zOm _).cut fun i hi=>zSo
    .have a5:k<n.sD.length:=by omega
     have w1:=zWk k;have w2:qq.wrap 2=2:=rfl;rw[zp a5]at hI;simp only[yV]at hI;have g:∀(l:List Cell) (i:Nat),i<U.mu.length->(U.mu++l)[i]?=U.mu[i]?:=fun l i hi=>qI hi
     have au:∀ l,(U.mu++l)[mu.length]?=some (.arr [aI n.op,aS I,aI n.n,t,aI n.pos]):=fun l=>by rw[g l _ zOm];exact gn
     have bw:=go.cells;have bm:=go.one;by_cases hb:binB n.op=true/\k=1
     .obtain ⟨az,rfl⟩:=hb
      rw[if_pos ⟨az,rfl⟩]at hI;have b0:(1:Int)<n.sD.length:=zOm;simp[go_sem,b0,e6,aq,ah,ai,a5,au];have b1:=YX.mw n.op;rw[qa8,az]at b1;refine tT b1 (.zs .nil) ?_;have cm:=StOk.last (F:=qr ts es) ⟨ar,bh,bi,zW1 (ZW (qr ts es) (binB n.op) 1)⟩;have ca:=qnJ ts h s2 es ⟨ar,zOm⟩ tb (ax _ ar) j bg.nd I body (mu:=U.mu++[Cell.arr (cNd n.sD[1])]) (xb:=xb) (by rw[g _ _ zOm];exact gx) (by rw[g _ _ zOm];exact gt);have ak:=Va (env:=j) (nm:=I) (body:=body) ax ar;have cb:=J9 (ts:=ts) (es:=es) (nm:=I) (body:=body) (s:=s2) bg;generalize renI ts es j I body s2=r at *
      obtain⟨⟨a6,aw⟩,s3⟩:=r;simp only at ak cb hI;simp[go_sem,e0,e1,e3,e6,au];refine fQ ca ?_ (by rintro r m ⟨e,_⟩;cases e);rintro r m1 ⟨e,a7,cn⟩;cases e;have cc:=a7.len;simp only[q8,zD,List.length_nil]at cc;have cp:m1[mu.length]?=some (.arr [aI n.op,aS I,aI n.n,t,aI n.pos]):=by rw[a7.same _ zSo zOm];exact au _
      have cq:m1[mu.length+1]?=some (.arr [aI 0,aS ⟨#[]⟩,aI 0,.lst true [],aI 0]):=by rw[a7.same _ zSo zOm,g _ _ zOm];exact gr
      have cr:m1[U.mu.length]?=some (.arr (cNd n.sD[1])):=by rw[a7.same _ zSp zOm,zE (qt _)];simp
      have cs:m1[tb]?=some (.mp (eSet es)):=by rw[a7.same _ zSo bt,g _ _ zOm];exact gt
      have ct:OwnF (mu.length+2) m1 5 t (J.map cNd):=Zq go zOm fun i q1 q2=>by rw[a7.same i zSo zOm,g _ _ q2]
      have an:∀ c i,i≠mu.length->(m1.set mu.length c)[i]?=m1[i]?:=fun c i hi=>yb (fun e=>hi e.symm)
      have cu:∀ c,(m1.set mu.length c)[U.mu.length]?=some (.arr (cNd n.sD[1])):=fun c=>by rw[an _ _ zOm];exact cr
      simp[go_sem,e0,e3,e6,cp,cu];generalize al:m1.set mu.length (.arr [aI n.op,aS aw,aI n.n,t,aI n.pos])=M2;have bn:U.mu.length+1<=M2.length:=by rw[<-al];simp;omega
      have b2:M2[xb]?=some (.arr (cIn ts tb s3)):=by rw[<-al,an _ _ zOm];exact cn
      have b3:M2[tb]?=some (.mp (eSet es)):=by rw[<-al,an _ _ zOm];exact cs
      have b4:M2[mu.length]?=some (.arr [aI n.op,aS aw,aI n.n,t,aI n.pos]):=by rw[<-al];exact qL zOm
      have b5:M2[mu.length+1]?=some (.arr [aI 0,aS ⟨#[]⟩,aI 0,.lst true [],aI 0]):=by rw[<-al,an _ _ zOm];exact cq
      have a4:OwnF (mu.length+2) M2 5 t (J.map cNd):=by rw[<-al];exact ct.set zOm
      have aa:But xb mu M2:=by
       rw[<-al];exact(a9.trans ((But.app xb U.mu _).trans a7)).setN (qt _) _
      have df:dueN (qr ts es) (binB n.op) 1=(qr ts es:Nat):=if_pos ⟨az,zOm⟩;have dh:dueN (qr ts es) (binB n.op) (1+1)=0:=zIn;have di:pot (qr ts es) s2-(qr ts es:Nat)<=pot (qr ts es) s3:=by unfold pot;rw[ak.2.2];omega
      have a3:StOk (qr ts es) s3:=⟨ak.1,by rw[ak.2.2];exact bh,by rw[ak.2.2];exact bi,zOm⟩;have b6:dueN (qr ts es) (binB n.op) (1+1)<=pot (qr ts es) s3:=zOm;have ao:s.sM+1<=s3.sM:=by rw[ak.2.2];exact aj
      have cd:z<=s3.sM-s.sM:=by rw[ak.2.2];exact bq
      have T:zu a6:=cb;have bj:True:=trivial;have ab:n.sD[1]∈n.sD:=qs a5;have a0:=ih a6 n.sD[1] body s3 M2 xb zOm a3 T (hw.kid ab) (bo.kid ab) b2 b3;have b7:∀{n' z s'},expI ts es f a6 n.sD[1] body s3 = .ok ((n',z),s')->Gos (qr ts es) s3 s' z:=fun e=>jT ts ax f a3 T e
      generalize hE:expI ts es f a6 n.sD[1] body s3=E at *
      cases E with
      |error d =>
       have hI:R = .error d:=hI.symm;subst hI;refine fQ a0 (by rintro r m ⟨e,_⟩;cases e) ?_;rintro r m ⟨e,C⟩;cases e;simp[go_sem];exact⟨rfl,aa.trans C⟩
      |ok q =>
       obtain⟨⟨n',k'⟩,s'⟩:=q;have P:=b7 rfl;simp only at hI;refine fQ a0 ?_ (by rintro r m ⟨e,_⟩;cases e);rintro r m ⟨e,b8,C⟩;cases e;have bs:=C.len;have ad:∀ l,(m++l)[mu.length]?=some (.arr [aI n.op,aS aw,aI n.n,t,aI n.pos]):=fun l=>by rw[zGa,C.same _ zOm zOm];exact b4
       have a8:=a4.cells;have cf:=a4.one;have b9:qq.wrap (z+k')=z+k':=yg (zW1 P.z0) (zW2 P.cz P.c1);have bb:OwnF (mu.length+2) (m++[Cell.arr (cNd n')]) 5 t (J.map cNd):=Zq a4 zSo fun i h1 h2=>by rw[zGa,C.same i zOm zOm]
       simp[go_sem,e6,ad];refine UQ bb zOm fun bc m' a1 a2=>?_
       have cg:=a1.2.2;have ae:m'[mu.length]?=some (.arr [aI n.op,aS aw,aI n.n,t,aI n.pos]):=by rw[a2 _ zOm];exact ad _
       have af:=a1.cells;have ag:=a1.one;simp[go_sem,e6,be,ai,ae,af,ag,b9,w2];refine⟨a5,aK ?_⟩;refine⟨J++[n'],a6,aw,s',bc,z+k',zS1 e0,zSi,zS1 e3,zS1 e6,zS1 e8,zSi,zS1 aq,zS1 ah,zSi,?_,?_,?_,?_,?_,T,zSo,P.l0,zW2 P.cz P.z0,P.c1,Int.le_trans b6 P.p,zW2 P.cz P.z0,zW1 P.z0,zW1 P.cz,?_⟩
       all_goals try simp only[qE]
       .refine ⟨zSo,fun i h1 h2=>?_⟩
        rw[zGl,a2 i zOm,zGa,C.same i zOm h2];exact aa.same i h1 h2
       .rw [zGl,a2 _ zOm,zGa];exact b8
       .rw [zGl,a2 _ zOm,zGa,C.same _ zOm zOm];exact b5
       .exact qL zOm
       .exact a1.set zOm
       .rw [<-hI]
        generalize yV (fun env k s=>expI ts es f env k body s) (fun env o s=>renI ts es env o body s) (binB n.op) (1+1) a6 aw (n.sD.drop (1+1)) s'=W;cases W with
        |error e=>rfl
        |ok q=>simp[v8,Int.add_assoc]
     .rw [if_neg hb]at hI
      by_cases cv:k=1
      .subst cv
       have a7:binB n.op=false:=zUs hb;have b0:(1:Int)<n.sD.length:=zOm;simp[go_sem,b0,e6,aq,ah,ai,a5,au];have b1:=YX.mw n.op;rw[qa8,a7]at b1;refine tT b1 (.zs .nil) ?_;simp[go_sem,e0,e1,e3];have bn:U.mu.length+1<=(U.mu++[Cell.arr (cNd n.sD[1])]).length:=zSp;have b2:(U.mu++[Cell.arr (cNd n.sD[1])])[xb]?=some (.arr (cIn ts tb s2)):=by rw[g _ _ zOm];exact gx
       have b3:(U.mu++[Cell.arr (cNd n.sD[1])])[tb]?=some (.mp (eSet es)):=by rw[g _ _ zOm];exact gt
       have b4:=au [Cell.arr (cNd n.sD[1])];have b5:(U.mu++[Cell.arr (cNd n.sD[1])])[mu.length+1]?=some (.arr [aI 0,aS ⟨#[]⟩,aI 0,.lst true [],aI 0]):=by rw[g _ _ zOm];exact gr
       have a4:OwnF (mu.length+2) (U.mu++[Cell.arr (cNd n.sD[1])]) 5 t (J.map cNd):=Zq go zOm fun i q1 q2=>g _ _ q2
       have aa:But xb mu (U.mu++[Cell.arr (cNd n.sD[1])]):=a9.trans (But.app xb U.mu _);have a3:StOk (qr ts es) s2:=⟨ar,bh,bi,zW1 (ZW (qr ts es) (binB n.op) 1)⟩;have b6:dueN (qr ts es) (binB n.op) (1+1)<=pot (qr ts es) s2:=by rw[<-UO hb];exact bk
       have ao:=aj;have cd:=bq;have T:=bg;have bj:=e1;generalize U.mu++[Cell.arr (cNd n.sD[1])]=M2 at *
       have ab:n.sD[1]∈n.sD:=qs a5;have a0:=ih j n.sD[1] body s2 M2 xb zOm a3 T (hw.kid ab) (bo.kid ab) b2 b3;have b7:∀{n' z s'},expI ts es f j n.sD[1] body s2 = .ok ((n',z),s')->Gos (qr ts es) s2 s' z:=fun e=>jT ts ax f a3 T e
       generalize hE:expI ts es f j n.sD[1] body s2=E at *
       cases E with
       |error d =>
        have hI:R = .error d:=hI.symm;subst hI;refine fQ a0 (by rintro r m ⟨e,_⟩;cases e) ?_;rintro r m ⟨e,C⟩;cases e;simp[go_sem];exact⟨rfl,aa.trans C⟩
       |ok q =>
        obtain⟨⟨n',k'⟩,s'⟩:=q;have P:=b7 rfl;simp only at hI;refine fQ a0 ?_ (by rintro r m ⟨e,_⟩;cases e);rintro r m ⟨e,b8,C⟩;cases e;have bs:=C.len;have ad:∀ l,(m++l)[mu.length]?=some (.arr [aI n.op,aS I,aI n.n,t,aI n.pos]):=fun l=>by rw[zGa,C.same _ zOm zOm];exact b4
        have a8:=a4.cells;have cf:=a4.one;have b9:qq.wrap (z+k')=z+k':=yg (zW1 P.z0) (zW2 P.cz P.c1);have bb:OwnF (mu.length+2) (m++[Cell.arr (cNd n')]) 5 t (J.map cNd):=Zq a4 zSo fun i h1 h2=>by rw[zGa,C.same i zOm zOm]
        simp[go_sem,e6,ad];refine UQ bb zOm fun bc m' a1 a2=>?_
        have cg:=a1.2.2;have ae:m'[mu.length]?=some (.arr [aI n.op,aS I,aI n.n,t,aI n.pos]):=by rw[a2 _ zOm];exact ad _
        have af:=a1.cells;have ag:=a1.one;simp[go_sem,e6,be,ai,ae,af,ag,b9,w2];refine⟨a5,aK ?_⟩;refine⟨J++[n'],j,I,s',bc,z+k',zS1 e0,zS1 bj,zS1 e3,zS1 e6,zS1 e8,zSi,zS1 aq,zS1 ah,zSi,?_,?_,?_,?_,?_,T,zSo,P.l0,zW2 P.cz P.z0,P.c1,Int.le_trans b6 P.p,zW2 P.cz P.z0,zW1 P.z0,zW1 P.cz,?_⟩
        all_goals try simp only[qE]
        .refine ⟨zSo,fun i h1 h2=>?_⟩
         rw[zGl,a2 i zOm,zGa,C.same i zOm h2];exact aa.same i h1 h2
        .rw [zGl,a2 _ zOm,zGa];exact b8
        .rw [zGl,a2 _ zOm,zGa,C.same _ zOm zOm];exact b5
        .exact qL zOm
        .exact a1.set zOm
        .rw [<-hI]
         generalize yV (fun env k s=>expI ts es f env k body s) (fun env o s=>renI ts es env o body s) (binB n.op) (1+1) j I (n.sD.drop (1+1)) s'=W;cases W with
         |error e=>rfl
         |ok q=>simp[v8,Int.add_assoc]
      .have ch:¬(k:Int)=1:=by omega
       simp[go_sem,e0,e1,e3,aq,ah,ai,a5,ch];have bn:U.mu.length+1<=(U.mu++[Cell.arr (cNd n.sD[k])]).length:=zSp;have b2:(U.mu++[Cell.arr (cNd n.sD[k])])[xb]?=some (.arr (cIn ts tb s2)):=by rw[g _ _ zOm];exact gx
       have b3:(U.mu++[Cell.arr (cNd n.sD[k])])[tb]?=some (.mp (eSet es)):=by rw[g _ _ zOm];exact gt
       have b4:=au [Cell.arr (cNd n.sD[k])];have b5:(U.mu++[Cell.arr (cNd n.sD[k])])[mu.length+1]?=some (.arr [aI 0,aS ⟨#[]⟩,aI 0,.lst true [],aI 0]):=by rw[g _ _ zOm];exact gr
       have a4:OwnF (mu.length+2) (U.mu++[Cell.arr (cNd n.sD[k])]) 5 t (J.map cNd):=Zq go zOm fun i q1 q2=>g _ _ q2
       have aa:But xb mu (U.mu++[Cell.arr (cNd n.sD[k])]):=a9.trans (But.app xb U.mu _);have a3:StOk (qr ts es) s2:=⟨ar,bh,bi,zW1 (ZW (qr ts es) (binB n.op) k)⟩;have b6:dueN (qr ts es) (binB n.op) (k+1)<=pot (qr ts es) s2:=by rw[<-UO hb];exact bk
       have ao:=aj;have cd:=bq;have T:=bg;have bj:=e1;generalize U.mu++[Cell.arr (cNd n.sD[k])]=M2 at *
       have ab:n.sD[k]∈n.sD:=qs a5;have a0:=ih j n.sD[k] body s2 M2 xb zOm a3 T (hw.kid ab) (bo.kid ab) b2 b3;have b7:∀{n' z s'},expI ts es f j n.sD[k] body s2 = .ok ((n',z),s')->Gos (qr ts es) s2 s' z:=fun e=>jT ts ax f a3 T e
       generalize hE:expI ts es f j n.sD[k] body s2=E at *
       cases E with
       |error d =>
        have hI:R = .error d:=hI.symm;subst hI;refine fQ a0 (by rintro r m ⟨e,_⟩;cases e) ?_;rintro r m ⟨e,C⟩;cases e;simp[go_sem];exact⟨rfl,aa.trans C⟩
       |ok q =>
        obtain⟨⟨n',k'⟩,s'⟩:=q;have P:=b7 rfl;simp only at hI;refine fQ a0 ?_ (by rintro r m ⟨e,_⟩;cases e);rintro r m ⟨e,b8,C⟩;cases e;have bs:=C.len;have ad:∀ l,(m++l)[mu.length]?=some (.arr [aI n.op,aS I,aI n.n,t,aI n.pos]):=fun l=>by rw[zGa,C.same _ zOm zOm];exact b4
        have a8:=a4.cells;have cf:=a4.one;have b9:qq.wrap (z+k')=z+k':=yg (zW1 P.z0) (zW2 P.cz P.c1);have bb:OwnF (mu.length+2) (m++[Cell.arr (cNd n')]) 5 t (J.map cNd):=Zq a4 zSo fun i h1 h2=>by rw[zGa,C.same i zOm zOm]
        simp[go_sem,e6,ad];refine UQ bb zOm fun bc m' a1 a2=>?_
        have cg:=a1.2.2;have ae:m'[mu.length]?=some (.arr [aI n.op,aS I,aI n.n,t,aI n.pos]):=by rw[a2 _ zOm];exact ad _
        have af:=a1.cells;have ag:=a1.one;simp[go_sem,e6,be,ai,ae,af,ag,b9,w1];refine⟨a5,aK ?_⟩;refine⟨J++[n'],j,I,s',bc,z+k',zS1 e0,zS1 bj,zS1 e3,zS1 e6,zS1 e8,zSi,zS1 aq,zS1 ah,zSi,?_,?_,?_,?_,?_,T,zSo,P.l0,zW2 P.cz P.z0,P.c1,Int.le_trans b6 P.p,zW2 P.cz P.z0,zW1 P.z0,zW1 P.cz,?_⟩
        all_goals try simp only[qE]
        .refine ⟨zSo,fun i h1 h2=>?_⟩
         rw[zGl,a2 i zOm,zGa,C.same i zOm h2];exact aa.same i h1 h2
        .rw [zGl,a2 _ zOm,zGa];exact b8
        .rw [zGl,a2 _ zOm,zGa,C.same _ zOm zOm];exact b5
        .exact qL zOm
        .exact a1.set zOm
        .rw [<-hI]
         generalize yV (fun env k s=>expI ts es f env k body s) (fun env o s=>renI ts es env o body s) (binB n.op) (k+1) j I (n.sD.drop (k+1)) s'=W;cases W with
         |error e=>rfl
         |ok q=>simp[v8,Int.add_assoc]
  grind
 .rintro r m ⟨rfl,e⟩
  by_cases a8:s.sM+1<=4000
  .rw [if_pos a8]at e;cases e
  .rw [if_neg a8]at e hR
   cases e;subst hR;simp[go_sem];exact⟨rfl,(But.app xb mu _).trans (cD xb _ _)⟩
theorem KA(ts:TS)(h:okTS ts)(C:∀ p,p∈ts.sT->WfN p.body/\yW ts p.body)(es:List (tN×Bool))(l:qr ts es<=200000)(g:Free ts es)(tb:Nat):∀ f:Nat,IHE ts es tb f
 | 0=>fun env n body s mu xb I j o J i r t=>zW1 j.c1
 |f+1=>fun env n body s mu xb I j o J i r t=>by
  by_cases P:n.op=1
  .have:=qnR ts es tb env n body s mu xb j o r t P
   simp_all[expI,vY,payS,if_true]
  .by_cases h47:n.op=47
   .exact qnT ts h C es l g tb f (KA ts h C es l g tb f) env n body s mu xb I j o J i r t h47
   .exact qnU ts h es l g tb f (KA ts h C es l g tb f) env n body s mu xb I j o J i r t P h47
end
end YD
namespace YE
open P1 P2 Y1 Y9 YX YZ YB YC YD
mutual
def cntT:Nd->Int
 | .mk _ _ _ ks _=>1+jp ks
def jp:List Nd->Int
 | []=>0
 |k :: ks=>cntT k+jp ks
end
theorem KB(n:Nd):cntT n=1+jp n.sD:=by
 obtain⟨op,o,i,ks,p⟩:=n;simp[cntT,Nd.sD]
mutual
theorem KC:∀ n:Nd,1<=cntT n
 | .mk _ _ _ ks _=>by simp only[cntT];have:=UR ks;omega
theorem UR:∀ ks:List Nd,0<=jp ks
 | []=>by simp[jp]
 |k :: ks=>by simp only[jp];have:=KC k;have:=UR ks;omega
end
mutual
theorem KD:∀ n:Nd,depN n<=cntT n
 | .mk _ _ _ ks _=>by simp only[cntT,depN];have:=qa9 ks;omega
theorem qa9:∀ ks:List Nd,yy ks<=jp ks
 | []=>by simp[yy,jp]
 |k :: ks=>by
  simp only[jp,yy];have:=KD k;have:=qa9 ks;have:=KC k;have:=UR ks;omega
end
section
variable {J:Type}{R:IEnv->tN->ISt->(IEnv×tN)×ISt}{es:List (tN×Bool)}{E:Nd->ISt->XR (Nd×Int)}
def uR(env:IEnv):Prop:=∀ e,e∈env->∀ a,e.2.arg=some a->e.2.size=cntT a/\yF a
theorem KE{g:Type} [DecidableEq g] {k:g} {v:J}:∀{es:List (g×J)},getK k es=some v->(k,v)∈es
 | [],h=>by simp[getK]at h
 |e :: es,h=>by
  unfold getK at h;split at h
  .rename_i i;cases h;subst i;exact zh ..
  .exact zc _ (KE h)
theorem US{g:Type} [DecidableEq g] {k:g} {v:J}:∀{es:List (g×J)} {x:g×J},x∈setK k v es->x=(k,v)\/x∈es
 | [],x,h=>by grind [setK]
 |e :: es,x,h=>by
  unfold setK at h;split at h
  .rcases qz.1 h with h|h
   .exact .inl h
   .exact .inr (zc _ h)
  .rcases qz.1 h with h|h
   .exact .inr (by rw[h];exact zh ..)
   .exact (US h).imp id (zc _)
theorem qnV{ts:TS}{env:IEnv}{nm:tN}{body:Bool}{s:ISt}(h:uR env):uR (renI ts es env nm body s).1.1:=by
 have i:uR (delK nm env):=fun e g=>h e (Xh.subset g)
 unfold renI;split
 .intro e g a j
  rcases US g with rfl|g
  .cases j
  .exact i e g a j
 .exact i
theorem qbA:∀{ks:List Nd} {ps:List (tN×Int)} {own g:IEnv} {s s':ISt},(∀ k n' z s s',k∈ks->E k s = .ok ((n',z),s')->z=cntT n'/\yF n')->uR own->jw E ps ks own s = .ok (g,s')->uR g
 | [],ps,own,g,s,s',_,i,e=>by
  have e:Except.ok (own,s)=(Except.ok (g,s'):XR IEnv):=by cases ps<;>exact e
  cases e;exact i
 |k :: ks,[],own,g,s,s',_,i,e=>by cases e;exact i
 |k :: ks,p :: ps,own,g,s,s',l,i,e=>by
  simp only[jw]at e;split at e
  .cases e
  .rename_i t m s1 C
   refine qbA (fun k n' z s s' o=>l k n' z s s' (zc _ o)) (fun e j a r=>?_) e;rcases US j with rfl|j
   .grind
   .exact i e j a r
theorem qbB{E:IEnv->Nd->ISt->XR (Nd×Int)}{bin:Bool}(C:∀ env nm s,uR env->uR (R env nm s).1.1) :
  ∀{ks:List Nd} {i:Nat} {env:IEnv} {nm l:tN} {s s':ISt} {j:List Nd} {m:Int},(∀ env k n' z s s',k∈ks->uR env->E env k s = .ok ((n',z),s')->z=cntT n'/\yF n')->uR env ->
  yV E R bin i env nm ks s = .ok ((l,j,m),s')->m=jp j/\j.length=ks.length/\∀ k,k∈j->yF k
 | [],i,env,nm,l,s,s',j,m,_,_,e=>by
  cases e;exact⟨rfl,rfl,fun k p=>absurd p qN⟩
 |k :: ks,i,env,nm,l,s,s',j,m,I,J,e=>by
  simp only[yV]at e;obtain⟨r,P⟩:∃ r,r=if bin=true/\i=1 then R env nm s else ((env,nm),s):=⟨_,rfl⟩
  rw[<-P]at e;have o:uR r.1.1:=by
   rw[P];split
   .exact C _ _ _ J
   .exact J
  split at e
  .cases e
  .rename_i T U s1 h1
   have g:=I r.1.1 k T U r.2 s1 (zh ..) o h1;split at e
   .cases e
   .rename_i a0 a1 m2 s2 h2
    obtain⟨q1,q2,q3⟩:=qbB C (fun env k n' z s s' p=>I env k n' z s s' (zc _ p)) o h2;cases e;refine⟨by simp only[jp];rw[g.1,q1],zP1 q2,fun x t=>?_⟩;rcases qz.1 t with rfl|t
    .exact g.2
    .exact q3 x t
theorem YP(ts:TS)(r:∀ p,p∈ts.sT->WfN p.body)(es:List (tN×Bool)):∀(f:Nat) {env:IEnv} {n n':Nd} {body:Bool} {s s':ISt} {z:Int},uR env->WfN n->expI ts es f env n body s = .ok ((n',z),s')->z=cntT n'/\yF n'
 | 0,_,_,_,_,_,_,_,_,_,e=>by cases e
 |f+1,env,n,n',body,s,s',z,j,l,e=>by
  simp only[expI]at e;split at e
  .split at e
   .rename_i P
    have g:n.sD=[]:=by
     have hs:=l.shape;simp_all[shp,if_pos,qw,List.map_eq_nil_iff]
    unfold vY at e;split at e
    .cases e
     exact⟨by rw[KB,g];rfl,l.small⟩
    .rename_i v t
     split at e
     .cases e
      refine⟨by rw[KB];show 1=1+jp n.sD;rw[g];rfl,.mk _ (by show n.sD.length<=1000;rw[g];simp) fun k i=>?_⟩;have i:k∈n.sD:=i
      grind
     .rename_i a R
      split at e
      .cases e
       exact j _ (KE t) _ R
      .cases e
   .split at e
    .split at e
     .cases e
     .rename_i p T
      obtain⟨own,s1,C,e⟩:=YO e;have U:=qbA (fun k n' z s s' i I=>YP ts r es f j (l.kid i) I) (fun e j=>absurd j qN) C;exact YP ts r es f U (r p (List.mem_of_find?_eq_some T)) e
    .obtain ⟨⟨a0,J,m⟩,s1,C,e⟩:=YO e
     cases e;obtain⟨q1,q2,q3⟩:=qbB (fun env o s h=>qnV h) (fun env k n' z s s' i t I=>YP ts r es f t (l.kid i) I) j C;refine⟨by rw[KB];show 1+m=_;rw[q1];rfl,.mk _ ?_ q3⟩;show J.length<=1000;have:=l.len;omega
  .cases e
theorem qbC:∀{ks:List Nd} {ps:List (tN×Int)} {own:IEnv} {s:ISt} {d:Dg},(∀ k s d,E k s = .error d->d=(2,0))->jw E ps ks own s = .error d->d=(2,0)
 | [],ps,own,s,d,_,e=>by
  have e:Except.ok (own,s)=(Except.error d:XR IEnv):=by cases ps<;>exact e
  cases e
 |k :: ks,[],own,s,d,_,e=>by cases e
 |k :: ks,p :: ps,own,s,d,g,e=>by
  simp only[jw]at e;split at e
  .rename_i j i
   cases e;exact g _ _ _ i
  .exact qbC g e
theorem qbD{E:IEnv->Nd->ISt->XR (Nd×Int)}{bin:Bool}:∀{ks:List Nd} {i:Nat} {env:IEnv} {nm:tN} {s:ISt} {d:Dg},(∀ env k s d,E env k s = .error d->d=(2,0))->yV E R bin i env nm ks s = .error d->d=(2,0)
 | [],i,env,nm,s,d,_,e=>by cases e
 |k :: ks,i,env,nm,s,d,g,e=>by
  simp only[yV]at e;split at e
  .rename_i j l
   cases e;exact g _ _ _ _ l
  .split at e
   .rename_i j o
    cases e;exact qbD g o
   .cases e
theorem qbE{i:Type}{q:XR J}{g:J->ISt->XR i}{d:Dg}(h:v8 q g = .error d):q = .error d\/∃ a s,q = .ok (a,s)/\g a s = .error d:=by
 unfold v8 at h;split at h
 .grind
 .exact .inr ⟨_,_,rfl,h⟩
theorem Vb(ts:TS)(es:List (tN×Bool)):∀(f:Nat) {env:IEnv} {n:Nd} {body:Bool} {s:ISt} {d:Dg},expI ts es f env n body s = .error d->d=(2,0)
 | 0,_,_,_,_,_,e=>by cases e;rfl
 |f+1,env,n,body,s,d,e=>by
  simp only[expI]at e;split at e
  .split at e
   .unfold vY at e
    split at e
    .cases e
    .split at e
     .cases e
     .split at e
      .cases e
      .cases e;rfl
   .split at e
    .split at e
     .cases e;rfl
     .rcases qbE e with e|⟨own,g,i,e⟩
      .exact qbC (fun k s d h=>Vb ts es f h) e
      .exact Vb ts es f e
    .rcases qbE e with e|⟨own,g,i,e⟩
     .exact qbD (fun env k s d h=>Vb ts es f h) e
     .cases e
  .cases e;rfl
def outI(ts:TS)(es:List (tN×Bool))(n:Nd):Except Dg Nd:=
 match expI ts es 4001 [] n false ⟨0,0⟩ with
 | .error d => .error d
 | .ok ((g,z),_)=>if z<=400/\depN g<=24 then .ok g else .error (2,n.pos)
theorem qbF{ts:TS}{n:Nd}{d:Dg}(h:outI ts es n = .error d):d.1=2:=by
 grind [outI,Vb]
theorem qnW(ts:TS)(h:okTS ts)(hb:∀ p,p∈ts.sT->WfN p.body/\yW ts p.body)(es:List (tN×Bool))(hF:qr ts es<=200000)(R:Free ts es)(n:Nd)(hw:WfN n)(a4:yW ts n){mu:Mu}{xp ob xb tb:Nat}
  (h1:mu[xp]?=some (.arr [.ptr xb 0])) (T:mu[xb]?=some (.arr (cIn ts tb ⟨0,0⟩))) (ht:mu[tb]?=some (.mp (eSet es))) (U:mu[ob]?=some (.arr [aI 0,aS ⟨#[]⟩,aI 0,.lst true [],aI 0])) :
  qD qg 88 [.ptr xp 0,.ip (cNd n),.ptr ob 0] mu fun e m=>match outI ts es n with
   | .error d=>e = .pan (jR d.1 d.2)/\mu.length<=m.length/\∀ i,i<mu.length->i≠xb->i≠ob->m[i]?=mu[i]?
   | .ok n'=>e = .ret (.tup [])/\m[ob]?=some (.arr (cNd n'))/\mu.length<=m.length/\∀ i,i<mu.length->i≠xb->i≠ob->m[i]?=mu[i]?:=by
 refine qSW call88 func88 rfl {} ?_;have ab:xp<mu.length:=(qm.1 h1).1;have ad:xb<mu.length:=(qm.1 T).1;have ae:tb<mu.length:=(qm.1 ht).1;have a5:ob<mu.length:=(qm.1 U).1;have a0:ob≠xb:=fun e=>by grind
 simp[go_sem,h1];have j:∀ i,i<mu.length->(cutM (fun i=>!decide (mu.length<=i)) (mu++[Cell.mp []]) 0)[i]?=mu[i]?:=fun i hi=>by grind [v7,qI]
 have a1:StOk (qr ts es) ⟨0,0⟩:=⟨zSp,zSp,zSp,by simp[pot]⟩;have g:=KA ts h hb es hF R tb 4001 [] n false ⟨0,0⟩ (cutM (fun i=>!decide (mu.length<=i)) (mu++[Cell.mp []]) 0) xb zSp a1 .nil hw a4 (by grind) (by grind);have g:=qD.freeze (mu:=mu++[Cell.mp []]) (args:=[.ptr xb 0,.mp mu.length,eNd n,aB false]) (args1:=[.ptr xb 0,eEnv [],eNd n,aB false]) (fun i=>decide (mu.length<=i)) ⟨.inl rfl,.inr (qa7 (acc:=[]) (by grind [v7]) zSp (fun e he=>absurd he qN)),.inl rfl,.inl rfl,trivial⟩ g;have a7:=fun {n' z P}=>YP ts (fun p hp=>(hb p hp).1) es 4001 (env:=[]) (n:=n) (n':=n') (body:=false) (s:=⟨0,0⟩) (s':=P) (z:=z) (fun e he=>absurd he qN) hw
 have a8:=fun {n' z P}=>jT ts R 4001 (env:=[]) (n:=n) (n':=n') (body:=false) (s':=P) (z:=z) a1 .nil
 unfold outI;generalize expI ts es 4001 [] n false ⟨0,0⟩=E at *
 cases E with
 |error d =>
  refine fQ g (by rintro r m ⟨e,_⟩;cases e) ?_;rintro r m ⟨e,l⟩;cases e;have o:=l.len;rw[jM]at o;simp only[q8,zD,List.length_nil]at o;simp[go_sem];exact⟨zOm,fun i hi T U=>by rw[l.same i (by grind) T,j i hi]⟩
 |ok q =>
  obtain⟨⟨n',z⟩,P⟩:=q;obtain⟨hz,a9⟩:=a7 rfl;have hg:=a8 rfl;have ag:z<=4000:=by have:=hg.cz;have:=hg.c1;grind
  have ah:=KD n';refine fQ g ?_ (by rintro r m ⟨e,_⟩;cases e);rintro r m ⟨e,ai,l⟩;cases e;have o:=l.len;rw[jM]at o;simp only[q8,zD,List.length_nil]at o;have aa:m[ob]?=some (.arr [aI 0,aS ⟨#[]⟩,aI 0,.lst true [],aI 0]):=by rw[l.same _ (by grind) a0,j _ a5];exact U
  have t:∀ c,(m.set ob c)[ob]?=some c:=fun c=>qL zOm
  simp[go_sem,aa];have C:∀ c,mu.length<=(m.set ob c).length/\∀ i,i<mu.length->i≠xb->i≠ob->(m.set ob c)[i]?=mu[i]?:=fun c=>⟨zSo,fun i hi T U=>by
   rw[yb (fun e=>U e.symm),l.same i (by grind) T,j i hi]⟩
  have wz:∀ b c,WKs [aB b,aI c,eNd n] [aB b,aI c,eNd n]:=fun b c => .zs (.zs (.zk (qO n) .nil))
  by_cases J:z<=400
  .have I:=qaU (szN n') n' (qt _) a9 zOm
   by_cases a3:depN n'<=24
   .refine cJ zKr ?_
    simp[go_sem,J,t];refine tT I (.zk (qO n') .nil) ?_;simp[go_sem,a3];refine tT (zO true 2 n).toP (wz true 2) ?_;simp[go_sem,t]
    grind
   .refine qk.tail 8 zKr ?_
    simp[go_sem,J,t];refine tT I (.zk (qO n') .nil) ?_;simp[go_sem,a3];refine fZ (zO false 2 n) (wz false 2) ?_;simp[go_sem];simpa using C _
  .refine qk.tail 8 zKr ?_
   simp[go_sem,J];refine fZ (zO false 2 n) (wz false 2) ?_;simp[go_sem];simpa using C _
end
end YE
namespace YG
open YS P1 Y1 Y9 YX YZ YA YB YC YE Q6
def valD(l:List UInt8):Nat:=l.foldl (fun a b=>10*a+(b.toNat-48)) 0
theorem qnX(u:Nat):valD (Lib.decDigits u)=u:=by
 induction u using Nat.strongRecOn with
 |_ u g =>
  rw[Lib.decDigits];split
  .rename_i h
   simp only[valD,List.foldl_cons,List.foldl_nil];rw[UInt8.toNat_ofNat_of_lt' (by simp[UInt8.size];omega)];omega
  .rename_i h
   have:=g (u / 10) zOm;unfold valD at this⊢;rw[vM,this];simp only[List.foldl_cons,List.foldl_nil];rw[UInt8.toNat_ofNat_of_lt' (by simp[UInt8.size];omega)];omega
theorem qnY{a b:Nat}(h:jz (a:Int)=jz (b:Int)):a=b:=by
 have g:Lib.decDigits a=Lib.decDigits b:=by
  unfold jz Lib.itoa at h;rw[zIn,zIn]at h;simp only[Int.toNat_natCast]at h;have h:=congrArg (fun x:tN=>x.data.toList) h;simpa using h
 grind [qnX]
theorem qnZ{p a b:tN}(h:p++a=p++b):a=b:=by
 simp_all
theorem qbG{a b:Nat}(h:vN (a:Int)=vN (b:Int)):a=b:=qnY (qnZ h)
def badL(ts:TS)(es:List (tN×Bool)):List tN:=es.map Prod.fst++(ts.sA.map (fun f=>f.name)++ts.sS.flatMap fun s=>[s.1,s.1++jh,s.1++j8])
theorem qn0(ts:TS)(es:List (tN×Bool)):(badL ts es).length+1=qr ts es:=by
 have:∀ l:List (tN×Bool),(l.flatMap fun s=>[s.1,s.1++jh,s.1++j8]).length=3*l.length:=by
  intro l;induction l with
  |nil=>rfl
  |cons a l g=>grind
 grind [badL,qr,q8,zM]
theorem qn1{ts:TS}{es:List (tN×Bool)}{nm:tN}(h:yN ts es nm=false):nm∈badL ts es:=by
 unfold yN at h;unfold badL;rw[Bool.and_eq_false_iff]at h;rcases h with h|h
 .have h:getK nm es=some true:=by simpa using h
  exact jq _ (qo.2 ⟨_,KE h,rfl⟩)
 .refine List.mem_append_right _ ?_
  have h:means ts nm≠[]:=zUs h;unfold means at h;by_cases hf:yS ts.sA nm=[]
  .rw [hf,vD]at h
   refine List.mem_append_right _ ?_;have:∀(g:List (tN×Bool)) (i:Nat),yT i g nm≠[]->nm∈g.flatMap fun s=>[s.1,s.1++jh,s.1++j8]:=by
    intro g;induction g with
    |nil=>intro i h;exact absurd rfl h
    |cons s g t =>
     intro i h;rw[List.flatMap_cons,qM];by_cases j:ug i s nm=[]
     .refine .inr (t (i+1) ?_)
      simpa[yT,j] using h
     .left
      unfold ug at j;by_cases l:s.1=nm
      .simp [l]
      by_cases o:s.2=true/\s.1++jh=nm
      .simp [o.2]
      by_cases p:s.2=true/\s.1++j8=nm
      .simp [p.2]
      exact absurd (by simp[l,o,p]) j
   exact this ts.sS 0 h
  .refine jq _ ?_
   obtain⟨k,r⟩:=List.exists_mem_of_ne_nil _ hf;unfold yS at r;obtain⟨f,hf,e⟩:=List.mem_filterMap.1 r;split at e
   .rename_i C
    exact qo.2 ⟨f,hf,C⟩
   .cases e
theorem KF(ts:TS)(es:List (tN×Bool)):Free ts es:=by
 intro l J;by_cases g:∃ j:Nat,1<=j/\j<=qr ts es/\yN ts es (vN (l+j))=true
 .exact g
 exfalso;obtain⟨L,rfl⟩:∃ L:Nat,l=L:=⟨l.toNat,zOm⟩;have o:∀ x,x∈(qv (qr ts es)).map (fun i=>vN ((L+(i+1):Nat):Int))->x∈badL ts es:=fun x t=>by
  obtain⟨i,C,rfl⟩:=qo.1 t;rw[zY]at C;refine qn1 ?_;cases I:yN ts es (vN ((L+(i+1):Nat):Int)) with
  |false=>rfl
  |true=>exact absurd ⟨i+1,zOm,zOm,by rw[show (L:Int)+((i+1:Nat):Int)=((L+(i+1):Nat):Int) by omega];exact I⟩ g
 have p:((qv (qr ts es)).map (fun i=>vN ((L+(i+1):Nat):Int))).Nodup:=by
  refine List.pairwise_map.2 (List.nodup_range.imp fun r e=>r ?_);have:=qbG e;omega
 have:=jY p o;rw[zM,List.length_range]at this;have:=qn0 ts es;omega
def putN(es:List (tN×Bool))(l:List Nd):List (tN×Bool):=l.foldl (fun es n=>setK n.name true es) es
def y6(ts:TS)(n:Nd):List (tN×Bool):=ts.sT.foldl (fun I p=>putN I (preN p.body)) (putN [] (preN n))
def yo(ts:TS)(n:Nd):Nd×Int:=
 if (yE ts [] n).1≠0 then (nd0,(yE ts [] n).1)
 else if anyN (fun n=>decide (n.op=47)) n=false then (n,0)
 else match outI ts (y6 ts n) n with
  | .error d=>(nd0,d.1)
  | .ok g=>(g,0)
theorem UT(p:Nd->Bool):∀(m:Nat) (n:Nd),szN n<=m->anyN p n=(preN n).any p
 | 0,n,g=>by obtain⟨op,nm,i,ks,q⟩:=n;simp[szN]at g
 |m+1,n,g=>by
  rw[UG,wE,List.any_cons];congr 1;have:∀ l:List Nd,(∀ k,k∈l->k∈n.sD)->um p l=(zx l).any p:=by
   intro l;induction l with
   |nil=>intro _;rfl
   |cons k l o =>
    intro j;simp only[um,zx,List.any_append];rw[o fun x r=>j x (zc _ r),UT p m k (zW1 (yv (j k (zh ..))))]
  exact this n.sD fun k t=>t
end YG
namespace YH
open YF P1 P2 Y1 Y6 Y9 Y14 YX YZ YB YC YE YG Q6
section
variable {b:Bool}{es:List (tN×Bool)}{mu:Mu}{ts:TS}
structure InM (ts:TS) (es:List (tN×Bool)) (b:Bool) (mu:Mu):Prop where
 r:mu[0]?=some (.arr [aI 0,aS ⟨#[]⟩,aI 0,.lst true [],aI 0])
 t:mu[2]?=some (.mp (eSet es))
 x:mu[3]?=some (.arr (cIn ts 2 ⟨0,0⟩))
 p:mu[4]?=some (.arr [.ptr 3 0])
 c:mu[5]?=some (.arr [aB b])
theorem InM.len(h:InM ts es b mu):5<mu.length:=(qm.1 h.c).1
theorem InM.push(h:InM ts es b mu)(l:Mu):InM ts es b (mu++l):=by
 have g:=h.len;exact⟨by rw[zGa];exact h.r,by rw[zGa];exact h.t,by rw[zGa];exact h.x,by rw[zGa];exact h.p,by rw[zGa];exact h.c⟩
theorem InM.setT{g:List (tN×Bool)}(h:InM ts es b mu):InM ts g b (mu.set 2 (.mp (eSet g))):=by
 have i:=h.len;exact⟨by rw[zGl];exact h.r,qL zOm,by rw[zGl];exact h.x,by rw[zGl];exact h.p,by rw[zGl];exact h.c⟩
theorem InM.setC{b':Bool}(h:InM ts es b mu):InM ts es b' (mu.set 5 (.arr [aB b'])):=by
 have g:=h.len;exact⟨by rw[zGl];exact h.r,by rw[zGl];exact h.t,by rw[zGl];exact h.x,by rw[zGl];exact h.p,qL zOm⟩
theorem qn2(mu:Mu):Rd mu eN0 (eNd nd0) := .agg _ _ rfl fun k x y g i=>by
 match k with
 | 0=>simp[nd0,cNd]at g i;subst g;subst i;exact .zsc _
 | 1=>simp[nd0,cNd]at g i;subst g;subst i;exact .zsc _
 | 2=>simp[nd0,cNd]at g i;subst g;subst i;exact .zsc _
 | 3=>simp[nd0,cNd,cNds]at g i;subst g;subst i;exact .wk _ true [] (.hf _ (HF.lst fun r j=>absurd j qN))
 | 4=>simp[nd0,cNd]at g i;subst g;subst i;exact .zsc _
 |k+5=>simp at g
theorem YQ(mu:Mu)(d:Int):Rd mu (.tup [eN0,aI d]) (.tup [eNd nd0,aI d]) := .tup _ _ rfl fun k x y g i=>by
 match k with
 | 0=>grind [qn2]
 | 1=>simp at g i;subst g;subst i;exact .zsc _
 |k+2=>simp at g
theorem qn3(ts:TS)(h:okTS ts)(hb:∀ p,p∈ts.sT->WfN p.body/\yW ts p.body)(n:Nd)(hw:WfN n)(ai:(yE ts [] n).1=0->yW ts n)(hF:qr ts (y6 ts n)<=200000):qj qg 45 [eTS ts,eNd n] (.tup [eNd (yo ts n).1,aI (yo ts n).2]):=by
 generalize j:yo ts n=R;unfold yo at j;refine qSQ call45 func45 rfl { mt:=[25] } ?_;simp[go_sem];have a6:∀ p,p∈ts.sT->WfN p.body:=fun p hp=>(hb p hp).1
 refine fR (qkQ ts h a6 n hw [] ⟨zSp,zSp⟩) (.zk (zo ts) (.cons (WK.lst fun r hr=>absurd hr qN) (.zk (qO n) .nil))) ?_;by_cases o:(yE ts [] n).1=0
 case neg =>
  rw[if_pos o]at j;subst j;simp[go_sem,o];refine fD [0,1,2,4,3] [(0,0,[]),(1,0,[]),(2,0,[]),(4,0,[]),(3,1,[2])] zKr zKr zSi ?_;simp_all[go_sem,YQ]
 case pos =>
  rw[if_neg (zUs o)]at j;simp[go_sem,o];have aj:∀(v:List Nd) (k:Nd) (C:Mu),InM ts (putN [] v) (v.any fun n=>decide (n.op=47)) C->qD qg 85 (eNd k :: [.ptr 4 0,.ptr 5 0]) C fun e m=>e = .ret (.tup [])/\InM ts (putN [] (v++[k])) ((v++[k]).any fun n=>decide (n.op=47)) m:=fun v k C g=>by
   refine(qnC ts ⟨0,0⟩ 2 _ _ k g.p g.x g.c g.t).monoR ?_;rintro e m ⟨rfl,rfl⟩;refine⟨rfl,?_⟩;rw[List.any_append];simp only[putN,vM,List.foldl_cons,List.foldl_nil,List.any_cons,List.any_nil,Bool.or_false];exact g.setT.setC
  refine fQ (Ks (caps:=[.ptr 4 0,.ptr 5 0]) (fun v C=>InM ts (putN [] v) (v.any fun n=>decide (n.op=47)) C) (fun v C l h=>h.push l) aj (szN n) n (qt _) hw.small [] _ ⟨rfl,rfl,rfl,rfl,rfl⟩) ?_ (by grind);rintro r m ⟨e,g⟩;cases e;rw[vD,<-UT _ (szN n) n (qt _)]at g;have au:=g.len;have a8:∀ c,(m.set 0 c)[0]?=some c:=fun c=>qL zOm
  cases J:anyN (fun n=>decide (n.op=47)) n with
  |false =>
   rw[J]at g j;rw[if_pos rfl]at j;subst j;simp[go_sem,g.c,g.r,a8];exact .hf _ (HF.tup fun c o=>by simp at o;rcases o with rfl|rfl;exact qO n;exact HF.sc _)
  |true =>
   rw[J]at g j;rw[if_neg zSp]at j;have av:=h.np;simp[go_sem,g.c];refine kM ts.sT.length (fun k U=>U.tm 3 = .ip (cNd n)/\U.tm 4 = .ptr 0 0/\U.tm 7 = .ptr 4 0/\U.tm 33=lPd ts.sT/\U.tm 34=aI ts.sT.length/\U.tm 35=aI k/\InM ts ((ts.sT.take k).foldl (fun I p=>putN I (preN p.body)) (putN [] (preN n))) true U.mu) ?_ ?_
   .simp [go_sem, *]
   .rintro k U hk ⟨e3,e4,e7,a9,a2,a3,hM⟩
    by_cases ak:k=ts.sT.length
    .subst ak
     simp[go_sem,e3,e7,a2,a3];rw[qT]at hM;have hM:InM ts (y6 ts n) true U.mu:=hM;have aw:=hM.len;have a0:InM ts (y6 ts n) true (U.mu++[Cell.arr [aI 0,aS ⟨#[]⟩,aI 0,.lst true [],aI 0]]++[.dead]):=(hM.push _).push _;have aa:=qnW ts h hb (y6 ts n) hF (KF ts _) n hw (ai o) (mu:=U.mu++[Cell.arr [aI 0,aS ⟨#[]⟩,aI 0,.lst true [],aI 0]]++[.dead]) (ob:=U.mu.length) a0.p a0.x a0.t zSp;have al:=j;clear j;generalize hQ:outI ts (y6 ts n) n=Q at *
     refine fQ (gD aa ?_) ?_ ?_
     .grind
     .rintro r m ⟨P,c,⟨l,rfl⟩,a4⟩
      have ab:U.mu.length+2<=P.length/\∀ i,i<U.mu.length+2->i≠3->i≠U.mu.length->P[i]?=(U.mu++[Cell.arr [aI 0,aS ⟨#[]⟩,aI 0,.lst true [],aI 0]]++[.dead])[i]?:=by
       grind
      have ad:∀(c:Cell) (l:List Cell),(P.set (U.mu.length+1) c++l)[0]?=some (.arr [aI 0,aS ⟨#[]⟩,aI 0,.lst true [],aI 0]):=fun c l=>by
       rw[qI zSo,zGl,ab.2 0 zOm zOm zOm];exact a0.r
      have T:∀(c c2:Cell) (l:List Cell),((P.set (U.mu.length+1) c++l).set 0 c2)[0]?=some c2:=fun c c2 l=>qL zSo
      have ae:∀(c c':Cell) (l:List Cell),(P.set (U.mu.length+1) c++(l++[c']))[P.length+l.length]?=some c':=fun c c' l=>by
       simp
      have a5:∀(c c' c2:Cell) (l:List Cell),((P.set (U.mu.length+1) c++(l++[c'])).set 0 c2)[P.length+l.length]?=some c':=fun c c' c2 l=>by
       grind
      rcases a4 with ⟨r',j,e⟩|⟨er,p,j,e⟩
      .cases Q with
       |error d=>grind
       |ok n' =>
        cases e;have an:∀(c:Cell) (l:List Cell),(P.set (U.mu.length+1) c++l)[U.mu.length]?=some (.arr (cNd n')):=fun c l=>by
         grind
        simp[go_sem,e4,an,ad,T];subst al;exact .hf _ (HF.tup fun c o=>by simp at o;rcases o with rfl|rfl;exact qO _;exact HF.sc _)
      .cases Q with
       |ok n'=>grind
       |error d =>
        have af:=qbF hQ;have e1:er=d.1:=by grind
        subst e1;cases e;simp[go_sem,af];have n0:=ad c (l++[Cell.arr [aI d.1,aI p]]);have n1:=ae c (Cell.arr [aI d.1,aI p]) l;have n2:=fun c2=>a5 c (Cell.arr [aI d.1,aI p]) c2 l
        have n3:=fun c2=>T c c2 (l++[Cell.arr [aI d.1,aI p]])
        rw[af]at n0 n1 n2 n3;generalize P.set (U.mu.length+1) c++(l++[Cell.arr [aI 2,aI p]])=N at *
        generalize P.length+l.length=b at *
        refine fD [0,1,2,4,3] [(0,0,[]),(1,0,[]),(2,0,[]),(4,0,[]),(3,1,[2])] zKr zKr zSi ?_
        all_goals
         simp[go_sem,e4,n0,n1,n2,n3]
         grind [YQ]
     simp
    .have a1:k<ts.sT.length:=by omega
     have w1:=zWk k;have ag:=Zg ts.sT[k];simp[go_sem,e7,a9,a2,a3,a1,ag];have ao:ts.sT[k]∈ts.sT:=qs a1;generalize aq:(ts.sT.take k).foldl (fun I p=>putN I (preN p.body)) (putN [] (preN n))=E0 at *
     have ah:∀(v:List Nd) (x:Nd) (C:Mu),InM ts (putN E0 v) true C->qD qg 86 (eNd x :: [.ptr 4 0]) C fun e m=>e = .ret (.tup [])/\InM ts (putN E0 (v++[x])) true m:=fun v x C g=>by
      refine(qnD ts ⟨0,0⟩ 2 _ x g.p g.x g.t).monoR ?_;rintro e m ⟨rfl,rfl⟩;refine⟨rfl,?_⟩;simp only[putN,vM,List.foldl_cons,List.foldl_nil];exact g.setT
     refine fQ (Ks (caps:=[.ptr 4 0]) (fun v C=>InM ts (putN E0 v) true C) (fun v C l h=>h.push l) ah (szN ts.sT[k].body) ts.sT[k].body (qt _) (a6 _ ao).small [] _ (hM.push _)) ?_ (by rintro r m ⟨e,_⟩;cases e);rintro r m ⟨e,ar⟩;cases e;simp[go_sem,a3,w1];refine⟨a1,aK ?_⟩;refine⟨zS1 e3,zS1 e4,zS1 e7,zS1 a9,zS1 a2,zSi,?_⟩;rw[List.take_add_one,qy a1,vM,aq];simpa[go_sem] using ar
end
end YH
end Go.Proofs.YtahmfpfdgiemoaaGreatDoor
namespace Go.EvW
open Go Go.Ev Go.RowKit Go.ChangeShapes Go.WideShapes
section
variable {H J:Type}{c:J->List AV}{fs:List (qc×Nat)}{cs:List qe}{N:Nat}{P:qb}{e t:qc}{w:qd}
def CR(w:qd)(xs:List AV)(cs:List qe):Prop:=
 cs.length=xs.length/\∀(k:Nat) x,xs[k]?=some x->VRel ⟨(·<w.heap.size),[]⟩ w.heap x (cs.getD k zw)
theorem CR.nil(w:qd):CR w [] []:=⟨rfl,zSp⟩
theorem CR.one{x:AV}{v:qe}(h:VRel ⟨(·<w.heap.size),[]⟩ w.heap x v):CR w [x] [v]:=⟨rfl,fun k y g=>by
 grind⟩
theorem CR.app{xs ys:List AV}{ds:List qe}(h:CR w xs cs)(k:CR w ys ds):CR w (xs++ys) (cs++ds):=by
 refine⟨by simp[h.1,k.1],fun i x g=>?_⟩;by_cases j:i<xs.length
 .rw [qI j]at g
  have:=h.2 i x g;rw[zH]at this⊢;rw[qI (by rw[h.1];exact j)];exact this
 .rw [zE zOm]at g
  have:=k.2 _ x g;rw[zH]at this⊢;rw[zE (by rw[h.1];omega),h.1];exact this
def jD(P:qb)(t:qc)(d:DataW H):Prop:=(d.weights P t).all (·<=reachBytes)=true
theorem jD.all:∀{ds:List (DataW H)},(DataW.weightsAll P e ds).all (·<=reachBytes)=true->∀(i:Nat) d,ds[i]?=some d->jD P e d
 | [],_,i,d,g=>by simp at g
 |x :: r,h,i,d,g=>by
  simp only[DataW.weightsAll,List.all_append,qK]at h;cases i with
  |zero=>simp at g;subst g;exact h.1
  |succ i=>exact jD.all h.2 i d (zUs g)
theorem cG:∀{ts:List qc} {ds:List (DataW H)},(DataW.weightsEach P ts ds).all (·<=reachBytes)=true->∀(i:Nat) t d,ts[i]?=some t->ds[i]?=some d->jD P t d
 | [],ds,_,i,t,d,g,_=>by simp at g
 |t0 :: ts,[],_,i,t,d,_,j=>by simp at j
 |t0 :: ts,x :: r,h,i,t,d,g,j=>by
  simp only[DataW.weightsEach,List.all_append,qK]at h;cases i with
  |zero=>simp at g j;subst g;subst j;exact h.1
  |succ i=>exact cG h.2 i t d (zUs g) (zUs j)
def ShT(P:qb)(n:Nat)(t:qc){J:Type}(c:J->List AV)(ok:J->Prop):Prop:=
 ∀(H:Type) (g:qc×qe->H) (w:qd) (i:List qe) (x:DataW H×List MemPlace),
  DataW.trod g P w 0 (fun _=>true) true n t i=some x->jD P t x.1->∃ a,ok a/\CR w (c a) i
def ShU(P:qb)(N:Nat)(t:qc){J:Type}(c:J->List AV)(ok:J->Prop):Prop:=∀ n,n<N->ShT P n t c ok
theorem ShU.le{M:Nat}{ok:J->Prop}(h:ShU P N t c ok)(g:M<=N):ShU P M t c ok:=fun n i=>h n zOm
theorem ShU.map{i:Type}{ok:J->Prop}{c':i->List AV}{g:i->Prop}(h:ShU P N t c ok)(f:J->i)(C:∀ a,c' (f a)=c a)(I:∀ a,ok a->g (f a)):ShU P N t c' g:=by
 intro n l H j w o x p r;obtain⟨a,R,T⟩:=h n l H j w o x p r
 grind
theorem ShU.int{k:IntKind}(g:P.underlying t=some (.int k))(N:Nat):ShU P N t (fun n:Int=>[.sc (.int k n)]) (fun n=>(Lit.int k n).wf=true):=by
 intro n o H j w p x h _;obtain⟨i,rfl,_,l⟩:=DataW.trod_int g h;exact⟨i,l,.one (.sc _ rfl)⟩
theorem ShU.bool(g:P.underlying t=some .bool)(N:Nat):ShU P N t (fun b:Bool=>[.sc (.bool b)]) (fun _=>True):=by
 intro n l H j w o x h _;obtain⟨i,rfl,_⟩:=DataW.trod_bool g h;exact⟨i,trivial,.one (.sc _ rfl)⟩
theorem ShU.string(j:P.underlying t=some .string)(N:Nat):ShU P N t (fun s:tN=>[.sc (.string s)]) (fun s=>s.size<=140737488351232):=by
 intro n p H l w r x h g;obtain⟨i,rfl,rfl,C⟩:=DataW.trod_string j h;refine⟨i,?_,.one (.sc _ rfl)⟩;unfold jD at g;simp only[DataW.weights,List.all_cons,List.all_nil,Bool.and_true,decide_eq_true_eq]at g;have e:i.data.toList.length=i.size:=Array.length_toList;have o:i.size<=reachBytes:=by rw[<-e];exact g
 exact zK o (ub rfl)
theorem qbH{a:Addr}{n:Nat}(h:w.cells? 0 a n=some cs):cs.length=n/\∀ i,i<n->w.cell? (a.add i)=some (cs.getD i zw):=by
 unfold World.cells? at h;rw[if_pos (Nat.zero_le _)]at h;have g:=mapM_some_length h;refine⟨zUs g,fun i j=>?_⟩;have:=mapM_some_get h i i (zP1 j)
 grind
theorem qbI{a:Addr}{v:qe}(h:w.cell? a=some v):∃ arr e g,w.heap[a.block]?=some (.cells arr e g)/\a.spot=none/\arr[a.off]?=some v:=by
 unfold World.cell? at h;split at h
 .simp_all
 .cases h
theorem qn4 [Inhabited J] {p:Nat->J->Prop} (n:Nat) (h:∀ i,i<n->∃ a,p i a):∃ l:List J,l.length=n/\∀(i:Nat) a,l[i]?=some a->p i a:=by
 induction n with
 |zero=>simp
 |succ n g =>
  obtain⟨l,j,o⟩:=g (fun i r=>h i zOm);obtain⟨a,t⟩:=h n zOm;refine⟨l++[a],zP1 j,fun i b C=>?_⟩
  grind
theorem ShU.slice [Inhabited J] {c:J->List AV} {ok:J->Prop} (ht:P.underlying t=some (.slice e)) (he:ShU P N e c ok) (ak:∀ a,ok a->(c a).length=P.cellsOf e) (p:0<P.cellsOf e) (a5:Nat.blt 0 (P.bytesOf e)=true) :
  ShU P (N+1) t (fun l:List J=>[.lst false (l.map c)]) (fun l=>l.length<=140737488351232/\∀ a,a∈l->ok a):=by
 intro n hn H a6 w cs x h hw;rcases DataW.trod_slice ht h with ⟨rfl,_⟩|⟨a,len,cap,g,C,m,rfl,rfl,rfl,_,hl,hc,al,T,_,_⟩
 .exact ⟨[],⟨zSp,zSp⟩,.one (.nil _)⟩
 .have a7:(DataW.weightsAll P e (g.map (·.1))).all (·<=reachBytes)=true:=by
   simp_all[jD,DataW.weights,List.all_cons,List.all_append,qK]
  have an:len<=140737488351232:=by
   unfold jD at hw;simp only[DataW.weights,ht,List.all_cons,List.all_append,qK,decide_eq_true_eq]at hw;have I:=hw.1;have a8:1<=P.bytesOf e:=ub a5;have h2:((g.map (·.1)).length+(C.map (·.1)).length)*1<=((g.map (·.1)).length+(C.map (·.1)).length)*P.bytesOf e:=Nat.mul_le_mul_left _ a8;simp only[zM]at I h2;have h3:reachBytes<=140737488351232:=ub rfl;omega
  have key:∀ i,i<len->∃ b,ok b/\∃ o,w.cells? 0 (a.add (i*P.cellsOf e)) (P.cellsOf e)=some o/\CR w (c b) o:=by
   intro i hi;have I:=T i hi;have U:i<g.length:=zOm;rw[qy U]at I;obtain⟨o,h2,h3⟩:=Option.bind_eq_some_iff.1 I;obtain⟨b,h4,h5⟩:=he m zOm H a6 w o _ h3 (jD.all a7 i _ (by rw[zg,qy U];rfl))
   grind
  obtain⟨l,a9,a0⟩:=qn4 len key;refine⟨l,⟨zOm,fun b hb=>?_⟩,.one ?_⟩
  .grind [List.mem_iff_getElem?]
  .have aa:(l.map c).length=len:=by simp[a9]
   rw[<-aa];cases Nat.eq_zero_or_pos len with
   |inl h0 =>
    have:l=[]:=List.eq_nil_of_length_eq_zero zOm;subst this;exact .emp _ a cap zSp
   |inr hp =>
    have ab:0<l.length:=zOm;obtain⟨_,ao,I,_⟩:=a0 0 l[0] (qy ab);obtain⟨ad,R⟩:=qbH I;have ae:=R 0 p;obtain⟨arr,el,fr,hb,hs,_⟩:=qbI ae;have ai:∀ k:Nat,a.spot=none->(a.add k).spot=none/\(a.add k).off=a.off+k:=by
     grind [Addr.add]
    have a1:∀(b:Addr) (j:Nat),(b.add j).block=b.block:=by
     grind [Addr.add]
    have e0:((a.add (0*P.cellsOf e)).add 0).block=a.block/\((a.add (0*P.cellsOf e)).add 0).spot=a.spot:=by
     grind [Addr.add]
    rw[e0.1]at hb;rw[e0.2]at hs;have hz:yQ (P.cellsOf e) (l.map c):=fun r hr=>by
     obtain⟨b,aq,rfl⟩:=qo.1 hr
     grind [List.mem_iff_getElem?]
    have ar:=yP hz;refine .lst false (l.map c) (P.cellsOf e) a cap arr el fr (fun k=>arr.getD (a.off+k) zw) hb hs zOm zSp (Array.getElem?_eq_some_iff.1 hb).1 hz ?_ ?_
    all_goals
     intro k x hk;have au:k<(l.map c).length*P.cellsOf e:=by grind
     have hq:k / P.cellsOf e<l.length:=by
      simp_all[zM,Nat.div_lt_of_lt_mul,Nat.mul_comm]
     have hr:k % P.cellsOf e<P.cellsOf e:=Nat.mod_lt _ p;have av:k / P.cellsOf e*P.cellsOf e+k % P.cellsOf e=k:=by
      grind [Nat.div_add_mod,Nat.mul_comm]
     obtain⟨_,o,I,h2⟩:=a0 (k / P.cellsOf e) _ (qy hq);obtain⟨ad,R⟩:=qbH I;have af:=R _ hr;have a2:(l.map c)[k / P.cellsOf e]?=some (c l[k / P.cellsOf e]):=by rw[zg,qy hq];rfl
     have hx:(c l[k / P.cellsOf e])[k % P.cellsOf e]?=some x:=by
      have ag:k % P.cellsOf e<(c l[k / P.cellsOf e]).length:=by grind
      have:=Wj hz a2 (qy ag)
      grind
     obtain⟨aj,aw,ax,a3,ay,a4⟩:=qbI af;have e1:((a.add (k / P.cellsOf e*P.cellsOf e)).add (k % P.cellsOf e)).block=a.block:=by rw[a1,a1]
     have e2:((a.add (k / P.cellsOf e*P.cellsOf e)).add (k % P.cellsOf e)).off=a.off+k:=by
      grind [Addr.add]
     rw[e1,hb]at a3;cases a3;rw[e2]at a4;have ah:arr.getD (a.off+k) zw=o.getD (k % P.cellsOf e) zw:=by
      rw[qY,a4];rfl
    .grind
    .show VRel _ _ x (arr.getD (a.off+k) zw)
     rw[ah];exact h2.2 _ x hx
def UU(P:qb)(t:qc):Option (List (qc×Nat)):=match P.underlying t with|some (.struct g)=>some (g.toList.map fun f=>(f.type,f.offset))|_=>none
inductive ShF (P:qb) (N:Nat):Nat->List (qc×Nat)->{α:Type}->(α->List AV)->(α->Prop)->Prop where
 |nil (o:Nat):ShF P N o [] (fun _:Unit=>[]) (fun _=>True)
 |cons {o:Nat} {t:qc} {fs:List (qc×Nat)} {α β:Type} {c:α->List AV} {ok:α->Prop} {c':β->List AV} {ok':β->Prop} (h:ShU P N t c ok) (k:ShF P N (o+P.cellsOf t) fs c' ok') :
   ShF P N o ((t,o) :: fs) (fun x:α×β=>c x.1++c' x.2) (fun x=>ok x.1/\ok' x.2)
def Vc(P:qb)(fs:List (qc×Nat)):Nat:=(fs.map fun f=>P.cellsOf f.1).foldr (·+·) 0
theorem ShF.read{n o:Nat}{ok:J->Prop}(h:ShF P N o fs c ok)(C:n<N){H:Type}{enc:qc×qe->H}{w:qd}(cs:List qe)
  (p:cs.length=o+Vc P fs) (r:∀(i:Nat) f,fs[i]?=some f->∃ x,DataW.trod enc P w 0 (fun _=>true) true n f.1 ((cs.drop f.2).take (P.cellsOf f.1))=some x/\jD P f.1 x.1) :
  ∃ a,ok a/\CR w (c a) (cs.drop o):=by
 induction h with
 |nil o =>
  refine⟨(),trivial,?_⟩;rw[List.drop_of_length_le (by grind [Vc])];exact .nil w
 | @cons o t fs J β c ok c' I h k R =>
  obtain⟨x,j,l⟩:=r 0 _ rfl;obtain⟨a,T,U⟩:=h n C H enc w _ x j l;have a0:Vc P ((t,o) :: fs)=P.cellsOf t+Vc P fs:=rfl;obtain⟨b,hb,hs⟩:=R zOm (fun i g hg=>r (i+1) g hg);refine⟨(a,b),⟨T,hb⟩,?_⟩;have e:cs.drop o=(cs.drop o).take (P.cellsOf t)++cs.drop (o+P.cellsOf t):=by
   rw[<-List.drop_drop,vA]
  rw[e];exact U.app hs
theorem ShU.struct{ok:J->Prop}(j:UU P t=some fs)(hf:ShF P N 0 fs c ok)(T:P.cellsOf t=Vc P fs):ShU P (N+1) t c ok:=by
 intro n hn H l w U x h hw;unfold UU at j;split at j
 .rename_i gs hu
  simp only[qw]at j;subst j;obtain⟨p,m,rfl,rfl,hl,a0,hg⟩:=DataW.trod_struct hu h;have C:(DataW.weightsEach P (gs.toList.map (·.type)) (p.map (·.1))).all (·<=reachBytes)=true:=by
   grind [jD,DataW.weights]
  obtain⟨a,ha,hr⟩:=hf.read (n:=m) zOm (w:=w) (enc:=l) U zOm (fun i f I=>by
   simp only[zg,jW]at I;obtain⟨g,o,rfl⟩:=I;have R:=hg i g (zUs o);have r:i<p.length:=by
    grind
   rw[qy r]at R;exact⟨_,R,cG C i _ _ (by rw[zg,o];rfl) (by rw[zg,qy r];rfl)⟩)
  grind
 .cases j
theorem cR{c:J->AV}{ok:J->Prop}(h:∀ N,ShU P N t (fun a=>[c a]) ok)(g:∀(w:qd) (r:Reach) (b:Nat) (v:qe),Value.okWide P w r b t v->v.cells=#[v])
  {H:Type} {enc:qc×qe->H} {w:qd} {r:Reach} {b:Nat} {v:qe} {d:DataW H} {ps:List MemPlace} (i:Value.okWide P w r b t v) (l:DataW.Trod enc P w 0 (fun _=>true) true t v d ps) (o:jD P t d) :
  ∃ a,ok a/\VRel ⟨(·<w.heap.size),[]⟩ w.heap (c a) v:=by
 obtain⟨n,p⟩:=l;obtain⟨a,C,j⟩:=h (n+1) n zOm H enc w _ _ p o;rw[g w r b v i]at j;have:=j.2 0 (c a) rfl
 grind
theorem cW{ok:J->Prop}{fs:Array Field}(h:∀ N,ShU P N t c ok)(j:P.underlying t=some (.struct fs))
  {H:Type} {enc:qc×qe->H} {w:qd} {r:Reach} {b:Nat} {v:qe} {d:DataW H} {ps:List MemPlace} (g:Value.okWide P w r b t v) (l:DataW.Trod enc P w 0 (fun _=>true) true t v d ps) (o:jD P t d) :
  ∃ a,ok a/\VRel ⟨(·<w.heap.size),[]⟩ w.heap (.agg (c a)) v:=by
 obtain⟨n,p⟩:=l;obtain⟨a,C,i⟩:=h (n+1) n zOm H enc w _ _ p o;unfold Value.okWide at g;rw[j]at g;obtain⟨R,rfl,_,_⟩:=g;refine⟨a,C,.agg _ _ (by simpa[Value.cells] using i.1) (fun k x I=>?_)⟩;have:=i.2 k x I
 grind [Value.cells,qY]
theorem qn5(g:P.underlying t=some (.slice e))(w:qd)(r:Reach)(b:Nat)(v:qe)(h:Value.okWide P w r b t v):v.cells=#[v]:=by
 unfold Value.okWide at h;rw[g]at h;simp only[Cell.okWide,g]at h;cases v<;>simp_all[Value.cells,Cell.ok]
end
end Go.EvW
namespace Go.EvW
open Go Go.Ev Go.RowKit Go.ChangeShapes Go.WideShapes
section
variable {J:Type}{c:J->List AV}{ts:List qc}{P:qb}{t:qc}{w:qd}
def uS(P:qb)(t:qc){J:Type}(c:J->AV)(ok:J->Prop):Prop:=
 ∀(H:Type) (g:qc×qe->H) (w:qd) (r:Reach) (b:Nat) (v:qe) (d:DataW H) (i:List MemPlace),Value.okWide P w r b t v->DataW.Trod g P w 0 (fun _=>true) true t v d i->jD P t d ->
  ∃ a,ok a/\VRel ⟨(·<w.heap.size),[]⟩ w.heap (c a) v
theorem uS.struct{ok:J->Prop}(g:(UU P t).isSome=true)(h:∀ N,ShU P N t c ok):uS P t (fun a => .agg (c a)) ok:=by
 intro H i w r b v d C j l o;unfold UU at g;split at g
 .rename_i I p;exact cW h p j l o
 grind
theorem uS.slice{e:qc}{c:J->AV}{ok:J->Prop}(g:P.underlying t=some (.slice e))(h:∀ N,ShU P N t (fun a=>[c a]) ok):uS P t c ok:=
 fun H i w r b v d p j l o=>cR h (qn5 g) j l o
inductive ArgF (P:qb):List qc->{α:Type}->(α->List AV)->(α->Prop)->Prop where
 |nil:ArgF P [] (fun _:Unit=>[]) (fun _=>True)
 |cons {t:qc} {ts:List qc} {α β:Type} {c:α->AV} {ok:α->Prop} {c':β->List AV} {ok':β->Prop} (h:uS P t c ok) (k:ArgF P ts c' ok'):ArgF P (t :: ts) (fun x:α×β=>c x.1 :: c' x.2) (fun x=>ok x.1/\ok' x.2)
theorem ArgF.read{ok:J->Prop}(h:ArgF P ts c ok){H:Type}{enc:qc×qe->H}{w:qd}{r:Reach}{b:Nat} :
  ∀{g:List qe} {ds:List (DataW H)} {ps:List MemPlace},DataW.TrodAll enc P w 0 (fun _=>true) true ts g ds ps->(∀(j:Nat) t v,ts[j]?=some t->g[j]?=some v->Value.okWide P w r b t v)->(DataW.weightsEach P ts ds).all (·<=reachBytes)=true ->
  ∃ a,ok a/\ds.length=ts.length/\g.length=(c a).length/\∀(k:Nat) x,(c a)[k]?=some x->VRel ⟨(·<w.heap.size),[]⟩ w.heap x (g.getD k zw):=by
 induction h with
 |nil =>
  intro g ds ps i _ _;obtain⟨rfl,rfl,rfl⟩:=trodAll_nil i;simp
 | @cons t ts J β c ok c' R h k T =>
  intro g ds ps i I l;obtain⟨v,U,d,a0,p,q,rfl,rfl,rfl,h1,h2⟩:=trodAll_cons i;simp only[DataW.weightsEach,List.all_append,qK]at l;obtain⟨a,ha,hr⟩:=h H enc w r b v d p (I 0 t v rfl rfl) h1 l.1;obtain⟨a',o,C,hl,hg⟩:=T h2 (fun j t v=>I (j+1) t v) l.2;refine⟨(a,a'),⟨ha,o⟩,zP1 C,zP1 hl,fun k x hx=>?_⟩
  grind
theorem qbJ(l:laidOutB P=true){H:Type}{enc:qc×qe->H}{W o:qd}{r:Nat->Bool}:∀{ts:List qc} {i:List qe} {ds:List (DataW H)} {ps:List MemPlace},
  (∀ t,t∈ts->P.readableRec t=true/\t<P.types.size)->DataW.TrodAll enc P W 0 (fun _=>true) true ts i ds ps->(∀ p∈ps,W.sameAt o p)->(∀ p∈ps,r p.block=true)->DataW.TrodAll enc P o 0 r true ts i ds ps
 | [],i,ds,ps,_,h,_,_=>by
  obtain⟨rfl,rfl,rfl⟩:=trodAll_nil h;exact trodAll_mk0
 |t :: ts,i,ds,ps,C,h,I,J=>by
  obtain⟨v,R,d,T,p,q,rfl,rfl,rfl,g1,U⟩:=trodAll_cons h;have j:=C t zSp;exact trodAll_cons_mk (WideElems.Trod_stays l j.1 j.2 g1 (fun x g=>I x (zP1 g)) (fun x g=>J x (zP1 g)))
   (qbJ l (fun t j=>C t (zP1 j)) U (fun x g=>I x (zP1 g)) (fun x g=>J x (zP1 g)))
theorem qn6{f:qi}{fn:Func}{s:ChangeSpec}{tb:qc}{ok:J->Prop}(hp:fn.params=ts.toArray)(hF:ArgF P ts c ok)(hv:s.vars=[])
  (T:∀(H:Type) (ds:List (DataW H)),ds.length=ts.length->s.fn H ds={ results:=[.lit (.bool true)],args:=ds }) (hr:fn.resultTypes=#[tb]) (U:P.underlying tb=some .bool)
  (hl:laidOutB P=true) (a7:(ts.all fun t=>P.readableRec t&&decide (t<P.types.size))=true) (hS:∀ a,ok a->qj P f (c a) (aB true))
  (H:Type) (C:qc×qe->H) (W:qd) (base:Nat) (args:Array qe) (ds gs:List (DataW H)) (g:List MemPlace)
  (i:∀(j:Nat) t v,fn.params[j]?=some t->args[j]?=some v->Value.okWide P W .any base t v) (hW:DataW.Whole C P fn.params.toList s.vars false W args.toList ds gs g) (a8:(DataW.weightsEach P fn.params.toList ds).all (·<=reachBytes)=true) (hT:Zu (·<W.heap.size) W.heap) :
  Calls P f args W fun e W'=>∃ v,e = .returned v/\s.post C P fn false true false false W args v W':=by
 have a0:=hW;obtain⟨p,q,R,hV,I,a9,_⟩:=hW;rw[hv]at hV;obtain⟨hg,hq⟩:=trodVars_none hV;subst hg;subst hq;rw[zN]at I;subst I;rw[hp]at R i;obtain⟨a,ha,a1,a2,aa⟩:=hF.read (r := .any) (b:=base) R (fun j t v h1 h2=>i j t v (zUs h1) (zUs h2)) (by grind);have a3:∀ x,x∈g->x.block<W.heap.size:=fun x l=>R.lt x l
 obtain⟨_,o⟩:=hS a ha;refine(o (·<W.heap.size) W args (Sim.empty (fun _ h=>h) hT) ⟨zUs a2,fun k x hk=>?_⟩).mono fun e W' ⟨a6,v,he,_,_,hb,a4⟩=>?_
 .simp_all
 .have a5:v = .bool true:=by cases a4;rfl
  subst a5;refine⟨_,he,ds,[],g,[],g,[],a0,?_,?_,?_,World.keptBut_mono (fun x l=>⟨l,.inr (.inl l)⟩) (hb.frame (·∈g)),fun h=>by cases h⟩
  all_goals try rw[zN]
  all_goals try rw[T H ds a1]
  .rw [hr]
   exact trodAll_cons_mk (p':=[]) (shut_bool U true) trodAll_mk0
  .rw [hp]
   refine qbJ hl (fun t ht=>?_) R (fun x l=>hb.same (a3 x l)) (fun x l=>by grind)
   grind
  .rw [hv];rfl
theorem ShF.cons'{N o o':Nat}{fs:List (qc×Nat)}{i:Type}{ok:J->Prop}{c':i->List AV}{g:i->Prop}(j:o+P.cellsOf t=o')(h:ShU P N t c ok)(k:ShF P N o' fs c' g) :
  ShF P N o ((t,o) :: fs) (fun x:J×i=>c x.1++c' x.2) (fun x=>ok x.1/\g x.2):=by
 subst j;exact .cons h k
theorem qbK:∀{laid:List (String×DataW Unit)} {ps:List MemPlace},DataW.LaidVars P w laid ps->∀ x,x∈laid->∃ g t cs fuel p,P.globalNamed x.1=some g/\(P.globals[g]?).map (·.type)=some t/\w.var? P x.1=some cs/\DataW.trod (fun _=>()) P w 0 (fun _=>true) false fuel t cs.toList=some (x.2,p)
 | [],_,_,x,i=>by simp at i
 | (n,d) :: r,ps,h,x,i=>by
  obtain⟨g,t,cs,fuel,p,q,l,o,C,I,j,_⟩:=h;rcases qz.1 i with rfl|i
  .grind
  .exact qbK j x i
theorem qn7{e:qc}{n fuel:Nat}{k:IntKind}(T:P.underlying t=some (.array n e))(U:P.underlying e=some (.int k))(hc:P.cellsOf e=1)(r:P.cellsOf t=n){cs:List qe}{ns:List Int}{p:List MemPlace}
  (h:DataW.trod (fun _=>()) P w 0 (fun _=>true) false fuel t cs=some (.agg (ns.map fun i => .lit (.int k i)),p)):cs=ns.map fun i => .int k i:=by
 obtain⟨C,m,_,g,R,hn,j⟩:=DataW.trod_array T h;simp only[Prod.mk.injEq,DataW.agg.injEq]at g;have g:=g.1;have I:ns.length=n:=by have:=congrArg List.length g;simp at this;omega
 rw[r]at R;rw[hc]at j;apply List.ext_getElem
 .simp [R,I]
 .intro i h1 h2
  have J:=j i zOm;rw[Nat.mul_one]at J;have l:i<C.length:=zOm;rw[qy l]at J;obtain⟨z,e1,e2,_⟩:=DataW.trod_int U J;have h4:(C[i]).1=DataW.lit (.int k z):=by rw[e2]
  have o:(ns.map fun i=>(DataW.lit (.int k i):DataW Unit))[i]?=(C.map (·.1))[i]?:=by rw[g]
  rw[zg,zg,qy l,qy zOm]at o;simp only[Option.map_some,qw]at o;rw[h4]at o;simp only[DataW.lit.injEq,Lit.int.injEq,true_and]at o;have h6:(cs.drop i).take 1=[cs[i]]:=by rw[zp h1];rfl
  grind
theorem qn8{name:String}{g:Nat}{cs:Array qe}(j:P.globalNamed name=some g)(h:w.var? P name=some cs):∃ e i,w.heap[g]?=some (.cells cs e i):=by
 grind [World.var?]
end
end Go.EvW
namespace Go.Proofs.YtahmfpfdgiemoaaGreatDoor
open Go Go.Ev Go.Proofs Tryz
namespace DT
open Go.EvW Y1 P1 YF
theorem unInt:qg.underlying 3=some (.int .i64):=by kernel_rfl
theorem qbL:qg.underlying 4=some .bool:=by kernel_rfl
theorem qn9:qg.underlying 9=some .string:=by kernel_rfl
theorem qoA:qg.underlying 28=some (.slice 3):=by kernel_rfl
theorem qoB:qg.underlying 22=some (.slice 72):=by kernel_rfl
theorem qoC:qg.underlying 23=some (.slice 74):=by kernel_rfl
theorem qoD:qg.underlying 33=some (.slice 35):=by kernel_rfl
theorem qoE:qg.underlying 129=some (.slice 186):=by kernel_rfl
theorem qoF:qg.underlying 24=some (.slice 131):=by kernel_rfl
theorem qoG:qg.underlying 25=some (.slice 108):=by kernel_rfl
abbrev okI(n:Int):Prop := -9223372036854775808<=n/\n<=9223372036854775807
abbrev okS(s:tN):Prop:=s.size<=140737488351232
instance:Inhabited Nd:=⟨.mk 0 ⟨#[]⟩ 0 [] 0⟩
instance:Inhabited Pd:=⟨⟨⟨#[]⟩,[],default⟩⟩
instance:Inhabited Fld:=⟨⟨⟨#[]⟩,[],false⟩⟩
theorem ZX(N:Nat):ShU qg N 3 (fun n:Int=>[aI n]) okI:=
 (ShU.int unInt N).map (fun n=>n) (fun _=>rfl) (fun n h=>by
  grind [Lit.wf,IntKind.min,IntKind.max,IntKind.signed,IntKind.bits])
theorem KG(N:Nat):ShU qg N 4 (fun b:Bool=>[aB b]) (fun _=>True):=ShU.bool qbL N
theorem YR(N:Nat):ShU qg N 9 (fun s:tN=>[aS s]) okS:=ShU.string qn9 N
theorem KH(N:Nat):ShU qg N 28 (fun xs:List Int=>[lI xs]) (fun l=>l.length<=140737488351232/\∀ x,x∈l->okI x):=
 ((ShU.slice qoA (ZX N) (fun _ _=>zKr) (Nat.lt_of_lt_of_eq Nat.zero_lt_one zKr) zKr).le zOm).map (fun l=>l) (fun _=>rfl) fun _ h=>h
theorem qoH(N:Nat):ShU qg N 74 vU (fun f=>f.sS.length<=140737488351232/\∀ x,x∈f.sS->okI x):=
 ((ShU.struct (fs:=[(9,0),(28,1),(4,2)]) zKr (.cons' (o':=1) zKr (YR N) (.cons' (o':=2) zKr (KH N) (.cons' (o':=3) zKr (KG N) (.nil 3)))) zKr).map
  (fun x=>(⟨x.1,x.2.1,x.2.2.1⟩:Fld)) (fun _=>rfl) (fun x h=>h.2.1)).le zOm
theorem qoI(N:Nat):ShU qg N 72 Q0 (fun s=>okS s.1):=
 ((ShU.struct (fs:=[(9,0),(4,1)]) zKr (.cons' (o':=1) zKr (YR N) (.cons' (o':=2) zKr (KG N) (.nil 2))) zKr).map
  (fun x=>((x.1,x.2.1):tN×Bool)) (fun _=>rfl) (fun x h=>h.1)).le zOm
theorem UV:∀ N:Nat,ShU qg N 35 cNd (fun _=>True)
 | 0=>fun n i=>absurd i zOm
 | N+1 =>
  have ks:ShU qg N 33 (fun l:List Nd=>[.lst false (l.map cNd)]) (fun _=>True):=((ShU.slice qoD (UV N) (fun a _=>(Yh a).trans zKr) (Nat.lt_of_lt_of_eq (show 0<5 by omega) zKr) zKr).le zOm).map (fun l=>l) (fun _=>rfl) fun _ _=>trivial
  ((ShU.struct (fs:=[(3,0),(9,1),(3,2),(33,3),(3,4)]) zKr
   (.cons' (o':=1) zKr (ZX N) (.cons' (o':=2) zKr (YR N) (.cons' (o':=3) zKr (ZX N) (.cons' (o':=4) zKr ks (.cons' (o':=5) zKr (ZX N) (.nil 5)))))) zKr)).map
   (fun x=>Nd.mk x.1 x.2.1 x.2.2.1 x.2.2.2.1 x.2.2.2.2.1) (fun x=>by rw[yI];rfl) fun _ _=>trivial
theorem qoJ(N:Nat):ShU qg N 186 cPm (fun p=>okI p.2):=
 ((ShU.struct (fs:=[(9,0),(3,1)]) zKr (.cons' (o':=1) zKr (YR N) (.cons' (o':=2) zKr (ZX N) (.nil 2))) zKr).map
  (fun x=>((x.1,x.2.1):tN×Int)) (fun _=>rfl) (fun x h=>h.2.1)).le zOm
theorem qoL(N:Nat):ShU qg N 129 (fun l:List (tN×Int)=>[lPm l]) (fun l=>l.length<=140737488351232):=
 ((ShU.slice qoE (qoJ N) (fun _ _=>zKr) (Nat.lt_of_lt_of_eq (show 0<2 by omega) zKr) zKr).le zOm).map (fun l=>l) (fun _=>rfl) fun _ h=>h.1
theorem qoM(N:Nat):ShU qg N 131 cPd (fun _=>True):=
 ((ShU.struct (fs:=[(9,0),(129,1),(35,2)]) zKr (.cons' (o':=1) zKr (YR N) (.cons' (o':=2) zKr (qoL N) (.cons' (o':=7) zKr (UV N) (.nil 7)))) zKr).map
  (fun x=>(⟨x.1,x.2.1,x.2.2.1⟩:Pd)) (fun x=>by simp[cPd]) fun _ _=>trivial).le zOm
theorem qoN(N:Nat):ShU qg N 108 cFa (fun _=>True):=
 ((ShU.struct (fs:=[(9,0),(35,1)]) zKr (.cons' (o':=1) zKr (YR N) (.cons' (o':=6) zKr (UV N) (.nil 6))) zKr).map
  (fun x=>((x.1,x.2.1):tN×Nd)) (fun x=>by simp[cFa]) fun _ _=>trivial).le zOm
structure okTA (ts:TS):Prop where
 so:∀ x,x∈ts.sS->okS x.1
 nso:ts.sS.length<=140737488351232
 nf:ts.sA.length<=140737488351232
 fl:∀ f,f∈ts.sA->f.sS.length<=140737488351232/\∀ x,x∈f.sS->okI x
theorem qoO(N:Nat):ShU qg N 27 cTS okTA:=by
 have s1:=(ShU.slice qoB (qoI N) (fun _ _=>zKr) (Nat.lt_of_lt_of_eq (show 0<2 by omega) zKr) zKr).le (M:=N) zOm;have i:=(ShU.slice qoC (qoH N) (fun _ _=>zKr) (Nat.lt_of_lt_of_eq (show 0<3 by omega) zKr) zKr).le (M:=N) zOm;have j:=(ShU.slice qoF (qoM N) (fun a h=>(Zg a).1.trans zKr) (Nat.lt_of_lt_of_eq (show 0<7 by omega) zKr) zKr).le (M:=N) zOm;have l:=(ShU.slice qoG (qoN N) (fun a h=>(gS a).1.trans zKr) (Nat.lt_of_lt_of_eq (show 0<6 by omega) zKr) zKr).le (M:=N) zOm;have U:=ShU.struct (t:=27) (fs:=[(22,0),(23,1),(24,2),(25,3)]) zKr (.cons' (o':=1) zKr s1 (.cons' (o':=2) zKr i (.cons' (o':=3) zKr j (.cons' (o':=4) zKr l (.nil 4))))) zKr;exact(U.map (fun x=>(⟨x.1,x.2.1,x.2.2.1,x.2.2.2.1⟩:TS)) (fun _=>rfl) fun x h=>⟨h.1.2,h.1.1,h.2.1.1,h.2.1.2⟩).le zOm
theorem unU8:qg.underlying 5=some (.int .u8):=by kernel_rfl
theorem shU8(N:Nat):ShU qg N 5 (fun n:Int=>[.sc (.int .u8 n)]) (fun n=>0<=n/\n<=255):=
 (ShU.int unU8 N).map (fun n=>n) (fun _=>rfl) (fun n h=>by
  simp[Lit.wf,IntKind.min,IntKind.max,IntKind.signed,IntKind.bits]at h;exact h)
end DT
namespace QA
def bA:tN:=⟨#[65]⟩
def bf:tN:=⟨#[102]⟩
def bp:tN:=⟨#[112]⟩
end QA
namespace QB
open Y1 Q6 Q9 QA
def nC:Nd := .mk 45 bf 0 [qaX bA 2,.mk 47 bp 0 [qaX bf 5] 3] 1
theorem h47:anyN (fun n=>decide (n.op=47)) nC=true:=by decide +kernel
def WkR:List (List AV)->List (List AV)->Prop
 | [],[]=>True
 |x :: p,y :: i=>WKs x y/\WkR p i
 |_,_=>False
theorem qbM:∀{xs ys g i:List AV},WKs xs ys->WKs g i->WKs (xs++g) (ys++i)
 | [],[],_,_,_,j=>j
 |_ :: _,_ :: _,_,_,⟨h,t⟩,j=>⟨h,qbM t j⟩
 | [],_ :: _,_,_,h,_=>h.elim
 |_ :: _,[],_,_,h,_=>h.elim
theorem qbN:∀{xs ys:List (List AV)},WkR xs ys->ys.length=xs.length/\(∀(k:Nat) x y,xs[k]?=some x->ys[k]?=some y->x.length=y.length)/\WKs xs.flatten ys.flatten
 | [],[],_=>⟨rfl,fun k x y h=>by simp at h,trivial⟩
 |x :: xs,y :: ys,⟨h,t⟩=>by
  obtain⟨j,l,o⟩:=qbN t;refine⟨zP1 j,fun k a b g i=>?_,by rw[wQ,wQ];exact qbM h o⟩;cases k with
  |zero=>simp at g i;subst g;subst i;exact h.get.1.symm
  |succ k=>exact l k a b (zUs g) (zUs i)
 | [],_ :: _,h=>h.elim
 |_ :: _,[],h=>h.elim
theorem YT{full:Bool}{xs ys:List (List AV)}(h:WkR xs ys):WK (.lst full xs) (.lst false ys):=by
 obtain⟨o,I,J⟩:=qbN h;have P:=pi o I;have R:=J.get.2;intro G T v r;cases r with
 |nil=>cases ys with
  |nil=>exact .nil _
  |cons=>simp at o
 |emp _ a cap U=>cases ys with
  |nil=>exact .emp _ a cap zSp
  |cons=>simp at o
 |lst _ _ g a cap cs e fr rd hb hs hl U hi p hr hv =>
  rw[<-o];have i:∀(k:Nat) y,ys.flatten[k]?=some y->∃ x,xs.flatten[k]?=some x:=by
   intro k y l;have t:k<ys.flatten.length:=(qm.1 l).1;exact⟨xs.flatten[k]' zOm,by simp only[qy (show k<xs.flatten.length by omega)]⟩
  refine .lst false ys g a cap cs e fr rd hb hs zOm zSp hi ?_ ?_ ?_
  .intro r C
   obtain⟨k,t⟩:=List.mem_iff_getElem?.1 C;have a0:k<ys.length:=(qm.1 t).1;have j:xs[k]?=some (xs[k]' zOm):=by simp[show k<xs.length by omega]
   rw[<-I k _ r j t];exact p _ (qZ j)
  .intro k y l
   obtain⟨x,j⟩:=i k y l;exact hr k x j
  .intro k y l
   obtain⟨x,j⟩:=i k y l;exact R k x y j l G T _ (hv k x j)
theorem qbO(op:Int)(nm:tN)(n:Int){ks:AV}{l:List Nd}(p:Int)(h:WK ks (lNd l)):WKs [aI op,aS nm,aI n,ks,aI p] (cNd (.mk op nm n l p)):=by
 rw[yI];exact⟨.hf (HF.sc _),.hf (HF.sc _),.hf (HF.sc _),h,.hf (HF.sc _),trivial⟩
theorem qoP(op:Int)(nm:tN)(n:Int){ks:AV}{l:List Nd}(p:Int)(h:WK ks (lNd l)):WK (.agg [aI op,aS nm,aI n,ks,aI p]) (eNd (.mk op nm n l p)):=WK.aggs (qbO op nm n p h)
end QB
end Go.Proofs.YtahmfpfdgiemoaaGreatDoor
