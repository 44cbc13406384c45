/-
  Own library, part 4: an abstract reading of values and a calculus over it; contracts of functions; plain lemmas.
-/
import Derived.Handed
import Derived.WideKeyArgs
import Derived.ProofKit
import Derived.OpenShut
import Derived.JoinedCond
import Derived.Lib.ItoaLen
import Derived.Test.YtccifccjhgdikaaGreatDoorMc
set_option linter.unusedVariables false
set_option linter.unusedSimpArgs false
set_option maxRecDepth 100000
open Go.Proofs.Tryz renaming prog->qa
open Option.some renaming injEq->qb
open List renaming getElem?_eq_some_iff->qc,range->qg,getElem?_append_left->qh,mem_map->qr,getElem?_eq_getElem->qs,all_eq_true->qt,mem_append->qy,mem_cons->qz,getElem?_append_right->qB,mem_of_getElem?->qC,getD_eq_getElem?_getD->qH,mem_singleton->qV,getElem?_map->qW,getElem_mem->qY,getElem?_set_ne->q9,mem_cons_of_mem->zf,getElem?_set_self->zi,length_map->zr,not_mem_nil->zz,take_of_length_le->zA,length_append->zF,take_length->zG,length_cons->zN,append_assoc->zW,cons_append->z9,ext_getElem?->ya,mem_of_mem_take->yb,getElem?_eq_none->ym,eq_nil_of_length_eq_zero->yn,mem_cons_self->yz,mem_filter->yA,map_append->yC,getElem?_toArray->yE,append_nil->y5,getElem?_cons_succ->y6,map_cons->jx,length_take->jZ,drop_eq_getElem_cons->vA,drop_length->vC,take_append_drop->uq,getElem?_range->ur,take_succ_eq_append_getElem->Vx,foldl_append->Vz
open Bool renaming and_eq_true->qe,eq_iff_iff->wG
open Array renaming getD_eq_getD_getElem?->qi
open Nat renaming le_refl->qu,le_of_ble_eq_true->ze,le_trans->zt,zero_add->zX
open Option renaming map_some->qw,map_eq_some_iff->zj
open Go.IntKind renaming i64->qJ
open List.cons renaming injEq->yF
open Int renaming mul_le_mul->jy,tmod_eq_emod_of_nonneg->VC
namespace Go.Proofs.YtccifccjhgdikaaGreatDoor
open Go Go.Ev Go.Proofs Tryz
namespace F1
open E3
theorem vr(l:List (List Rl)):HF (lSt l):=HF.lst fun r hr c hc=>by
 obtain⟨n,_,rfl⟩:=qr.1 hr;simp at hc;subst hc;exact ju _
theorem Xb(m:Md):∀ c,c∈cMd m->HF c:=by
 intro c hc;simp at hc;rcases hc with rfl|rfl|rfl|rfl
 .exact qT _
 .exact HF.sc _
 .exact vr _
 .exact HF.sc _
theorem Jz(m:Md):HF (eMd m):=HF.agg (Xb m)
abbrev errV(e:Int):AV := .ifc 53 (aI e)
def endE:XE Rl->AEnd
 | .ok r => .ret (eRel r)
 | .error e => .pan (errV e)
def endN:XE Int->AEnd
 | .ok r => .ret (aI r)
 | .error e => .pan (errV e)
def endB:XE Bool->AEnd
 | .ok r => .ret (aB r)
 | .error e => .pan (errV e)
def end2:XE (Rl×Rl)->AEnd
 | .ok r => .ret (.tup [eRel r.1,eRel r.2])
 | .error e => .pan (errV e)
@[go_sem] theorem endE_ok(r:Rl):endE (.ok r) = .ret (eRel r):=rfl
@[go_sem] theorem endE_err(e:Int):endE (.error e) = .pan (errV e):=rfl
@[go_sem] theorem endN_ok(r:Int):endN (.ok r) = .ret (aI r):=rfl
@[go_sem] theorem endN_err(e:Int):endN (.error e) = .pan (errV e):=rfl
@[go_sem] theorem endB_ok(r:Bool):endB (.ok r) = .ret (aB r):=rfl
@[go_sem] theorem endB_err(e:Int):endB (.error e) = .pan (errV e):=rfl
@[go_sem] theorem end2_ok(r:Rl×Rl):end2 (.ok r) = .ret (.tup [eRel r.1,eRel r.2]):=rfl
@[go_sem] theorem end2_err(e:Int):end2 (.error e) = .pan (errV e):=rfl
theorem Xc(mu:Mu)(b:Nat)(e:Int)(hb:mu[b]?=some (.arr [aI e])):zV qa 160 [.ptr b 0] mu none fun mu'=>mu'=mu:=by
 refine zV.of_awp call160 func160 rfl ⟨_,_,_,_,rfl⟩ (ze (by kernel_rfl)) (by kernel_rfl) (by kernel_rfl) (pl:={}) ?_;simp[go_sem]
end F1
namespace EP
open EO
theorem JA{α:Type}{l:List α}{n:Nat}(h:n<l.length):l.take (n+1)=l.take n++[l[n]]:=by rw[List.take_add_one,qs h];rfl
theorem JD{α β:Type}(k:Int)(v:α)(w:β):∀{es:List (Int×α)} {fs:List (Int×β)},es.map Prod.fst=fs.map Prod.fst->(setK k v es).map Prod.fst=(setK k w fs).map Prod.fst
 | [],[],_=>rfl
 |e :: es,f :: fs,h=>by
  simp only[jx,yF]at h;unfold setK;rw[<-h.1];split
  .simp [h.2]
  .simp [h.1,JD k v w h.2]
 | [],_ :: _,h=>by simp at h
 |_ :: _,[],h=>by simp at h
structure GrpM (mu:Mu) (b:Nat) (g:List (Int×List Int)) (cs:List (Int×AV)):Prop where
 at0:mu[b]?=some (.mp (encK (fun n:Int=>aI n) id cs))
 keys:cs.map Prod.fst=g.map Prod.fst
 own:∀ k v,getK k cs=some v->∃ l,getK k g=some l/\OwnI mu v l
 inj:∀ k k' v v' x,getK k cs=some v->getK k' cs=some v'->qj v=some x->qj v'=some x->k=k'
 ne:∀ k v,getK k cs=some v->qj v≠some b
theorem GrpM.step{mu mu':Mu}{b:Nat}{g:List (Int×List Int)}{cs:List (Int×AV)}(h:GrpM mu b g cs){k:Int}{av:AV}{l:List Int}(ho:OwnI mu' av l)(hs:∀ i,i<mu.length->qj ((getK k cs).getD (.lst true []))≠some i->mu'[i]?=mu[i]?)(hb:∀ x,qj av=some x->x=mu.length) :
  mu'[b]?=some (.mp (encK (fun n:Int=>aI n) id cs))/\GrpM (mu'.set b (.mp (encK (fun n:Int=>aI n) id (setK k av cs)))) b (setK k l g) (setK k av cs):=by
 have hbl:b<mu.length:=(qc.1 h.at0).1;have hbc:qj ((getK k cs).getD (.lst true []))≠some b:=by
  cases hk:getK k cs with
  |none=>simp[qj]
  |some v=>exact h.ne k v hk
 have hb0:=hs b hbl hbc;have hbl':b<mu'.length:=by
  rw[h.at0]at hb0;exact(qc.1 hb0).1
 have hav:qj av≠some b:=fun e=>by have:=hb b e;omega
 have keep:∀{v:AV} {l:List Int},OwnI mu' v l->qj v≠some b->OwnI (mu'.set b (.mp (encK (fun n:Int=>aI n) id (setK k av cs)))) v l:=fun o hn=>o.same fun x hx=>by
  rw[q9 (fun e=>hn (by rw[e];exact hx))]
 have old:∀{k':Int} {v:AV} {l:List Int},k'≠k->getK k' cs=some v->OwnI mu v l->OwnI mu' v l:=fun hne hk o=>o.same fun x hx=>by
  have hxl:=o.v.lt hx;refine hs x hxl fun e=>?_
  cases hc:getK k cs with
  |none=>rw[hc]at e;simp[qj]at e
  |some w=>rw[hc]at e;exact hne (h.inj _ _ _ _ x hk hc hx e)
 refine⟨by rw[hb0];exact h.at0,by rw[zi hbl'],JD k _ _ h.keys,fun k' v hk=>?_,fun k1 k2 v1 v2 x hk1 hk2 h1 h2=>?_,fun k' v hk=>?_⟩
 .rw [wi]at hk⊢
  by_cases e:k'=k
  .rw [if_pos e]at hk⊢;cases hk;exact⟨l,rfl,keep ho hav⟩
  .rw [if_neg e]at hk⊢
   obtain⟨l',h1,h2⟩:=h.own k' v hk;exact⟨l',h1,keep (old e hk h2) (h.ne k' v hk)⟩
 .rw [wi]at hk1 hk2
  have lt:∀{k' v},getK k' cs=some v->qj v=some x->x<mu.length:=fun hk hx=>by
   obtain⟨l',_,o⟩:=h.own _ _ hk;exact o.v.lt hx
  by_cases e1:k1=k
  .by_cases e2:k2=k
   .rw [e1,e2]
   .rw [if_pos e1]at hk1;rw[if_neg e2]at hk2;cases hk1
    have:=hb x h1;have:=lt hk2 h2;omega
  .by_cases e2:k2=k
   .rw [if_neg e1]at hk1;rw[if_pos e2]at hk2;cases hk2
    have:=hb x h2;have:=lt hk1 h1;omega
   .rw [if_neg e1]at hk1;rw[if_neg e2]at hk2
    exact h.inj _ _ _ _ x hk1 hk2 h1 h2
 .rw [wi]at hk
  by_cases e:k'=k
  .rw [if_pos e]at hk;cases hk;exact hav
  .rw [if_neg e]at hk;exact h.ne k' v hk
theorem GrpM.nil{mu:Mu}{b:Nat}(h:mu[b]?=some (.mp [])):GrpM mu b [] []:=⟨h,rfl,fun k v hk=>by simp[getK]at hk,fun k k' v v' x hk=>by simp[getK]at hk,fun k v hk=>by simp[getK]at hk⟩
theorem GrpM.push{mu:Mu}{b:Nat}{g:List (Int×List Int)}{cs:List (Int×AV)}(h:GrpM mu b g cs)(c:List Cell):GrpM (mu++c) b g cs:=
 ⟨by rw[qh (qc.1 h.at0).1];exact h.at0,h.keys,fun k v hk=>by
  obtain⟨l,h1,h2⟩:=h.own k v hk;exact⟨l,h1,h2.same fun x hx=>by rw[qh (h2.v.lt hx)]⟩,h.inj,h.ne⟩
theorem GrpM.rd{mu:Mu}{b:Nat}{g:List (Int×List Int)}{cs:List (Int×AV)}(h:GrpM mu b g cs)(hn:(g.map Prod.fst).Nodup):Rd mu (.mp b) (.im (encK (fun n:Int=>aI n) lI g)):=by
 have hlen:cs.length=g.length:=by have:=congrArg List.length h.keys;simpa using this
 have hnc:(cs.map Prod.fst).Nodup:=by rw[h.keys];exact hn
 refine .mp b _ _ h.at0 (by simp[encK,hlen]) (fun k x y hx hy=>?_) (fun k x y hx hy=>?_)
 .have e:=congrArg (fun l=>l[k]?) h.keys
  simp only[qW]at e hx hy;cases hc:cs[k]? with
  |none=>rw[hc]at hx;cases hx
  |some c =>
   cases hg:g[k]? with
   |none=>rw[hg]at hy;cases hy
   |some d =>
    rw[hc]at hx;rw[hg]at hy;rw[hc,hg]at e;cases hx;cases hy;simp only[qw,qb]at e;simp only[e];exact .hf _ (HF.sc _)
 .have e:=congrArg (fun l=>l[k]?) h.keys
  simp only[qW]at e hx hy;cases hc:cs[k]? with
  |none=>rw[hc]at hx;cases hx
  |some c =>
   cases hg:g[k]? with
   |none=>rw[hg]at hy;cases hy
   |some d =>
    rw[hc]at hx;rw[hg]at hy;rw[hc,hg]at e;cases hx;cases hy;simp only[qw,qb]at e;obtain⟨l,h1,h2⟩:=h.own c.1 c.2 ((QS hnc).2 (qC hc));rw[e]at h1;have:=(QS hn).2 (qC hg:(d.1,d.2)∈g);rw[h1]at this;cases this;exact h2.v.rd
end EP
namespace EQ
open EO
theorem OwnV.rdRel{mu:Mu}{ar:Int}{av:AV}{l:List Int}(h:OwnV mu av l):Rd mu (.agg [aI ar,av]) (eRel ⟨ar,l⟩):=by
 refine .agg _ _ rfl fun k u v hu hv=>?_
 match k with
 | 0=>simp at hu hv;subst hu;subst hv;exact .hf _ (HF.sc _)
 | 1=>simp at hu hv;subst hu;subst hv;exact h.rd
 |k+2=>simp at hu
end EQ
namespace ER
open EO
theorem QW(x:Int):qf qa 126 [aI x] (aI x):=by
 refine qSQ call126 func126 rfl {} ?_;simp[go_sem];exact .hf _ (HF.sc _)
theorem FnOk.same(ok:Int->Prop):FnOk qa (.fn (.func 126) [] []) (fun x:Int=>aI x) ok (fun x=>aI x):=
 ⟨HF.fn (by simp) (by simp),_,[],[],rfl,fun x _=>⟨_,.cons (.hf (HF.sc _)) .nil,QW x⟩⟩
theorem QX{x:AV}(h:HF x):HF (.ip [x]):=HF.ip fun c hc=>by simp at hc;subst hc;exact h
end ER
namespace E2
open E1
theorem wm{n k:Int}(h0:0<=k)(h3:k<=3):powI n k=n ^ k.toNat:=by
 unfold powI powN;congr 1;omega
theorem Xd{n i j:Int}(hi:0<=i)(hj:0<=j)(h:i+j<=3):powI n (i+j)=powI n i*powI n j:=by
 rw[wm (by omega) h,wm hi (by omega),wm hj (by omega),<-Int.pow_add];congr 1;omega
theorem JH(n:Int):powI n 1=n:=by rw[wm (by omega) (by omega)];exact Int.pow_succ n 0 ▸ by simp
theorem Xe{u v a m:Int}(h0:0<=u)(h1:u<a)(h2:0<=v)(h3:v<m):0<=u*m+v/\u*m+v<a*m:=by
 have a1:0<=u*m:=Int.mul_nonneg h0 (by omega);have a2:(u+1)*m<=a*m:=Int.mul_le_mul_of_nonneg_right (by omega) (by omega);rw[Int.add_mul,Int.one_mul]at a2;omega
theorem GR.nil{n ar:Int}(h1:1<=ar)(h3:ar<=3):GR n ⟨ar,[]⟩:=⟨h1,h3,fun t ht=>absurd ht zz,W3⟩
theorem GR.one{n a:Int}(h0:0<=a)(h1:a<n):GR n ⟨1,[a]⟩:=
 ⟨by show (1:Int)<=1;omega,by show (1:Int)<=3;omega,fun t ht=>by rw[qV]at ht;subst ht;show _/\_<powI n 1;rw[JH];exact⟨h0,h1⟩,List.pairwise_singleton _ _⟩
theorem GR.steps{n a:Int}(hn:0<=n)(m:Nat)(h0:0<=a)(h1:a+m+1<=n):GR n ⟨2,(qg m).map fun k:Nat=>(a+k)*n+(a+k+1)⟩:=by
 have e2:powI n 2=n*n:=by
  have:=Xd (n:=n) (i:=1) (j:=1) (by omega) (by omega) (by omega);rw[JH]at this;exact this
 refine⟨by show (1:Int)<=2;omega,by show (2:Int)<=3;omega,fun t ht=>?_,?_⟩
 .obtain ⟨k,hk,rfl⟩:=qr.1 ht
  rw[List.mem_range]at hk;show _/\_<powI n 2;rw[e2];exact Xe (by omega) (by omega) (by omega) (by omega)
 .show ((qg m).map fun k:Nat=>(a+k)*n+(a+k+1)).Pairwise (·<·)
  rw[List.pairwise_map];refine List.Pairwise.imp (fun {x y} h=>?_) List.pairwise_lt_range;have:=Int.mul_le_mul_of_nonneg_right (a:=a+(x:Int)) (b:=a+y) (c:=n) (by omega) hn;omega
end E2
namespace ET
open EO
def RelM(mu:Mu)(ar:Int)(l:List Int):Prop:=∃ av,mu[0]?=some (.arr [aI 0,.lst true []])/\mu[1]?=some (.arr [aI ar,av])/\OwnI mu av l/\qj av≠some 0/\qj av≠some 1
theorem RelM.step{mu mu':Mu}{ar:Int}{av av':AV}{l:List Int}(h0:mu[0]?=some (.arr [aI 0,.lst true []]))(h1:mu[1]?=some (.arr [aI ar,av]))(n0:qj av≠some 0)(n1:qj av≠some 1)(ho:OwnI mu' av' l)
  (hs:∀ i,i<mu.length->qj av≠some i->mu'[i]?=mu[i]?) (hl:mu.length<=mu'.length) (hb:∀ b,qj av'=some b->b=mu.length):mu'[1]?=some (.arr [aI ar,av])/\RelM (mu'.set 1 (.arr [aI ar,av'])) ar l:=by
 have l1:1<mu.length:=(qc.1 h1).1;have m0:qj av'≠some 0:=fun e=>by have:=hb 0 e;omega
 have m1:qj av'≠some 1:=fun e=>by have:=hb 1 e;omega
 refine⟨by rw[hs 1 l1 n1];exact h1,av',by rw[q9 (by omega),hs 0 (by omega) n0];exact h0,by rw[zi (by omega)],ho.same fun b hb'=>?_,m0,m1⟩;rw[q9 (fun e=>m1 (by rw[e];exact hb'))]
end ET
namespace EW
open EO EP EQ ER ET
inductive TagM (p:Mu->Prop):Type where
 |mk:TagM p
def ji(p:Mu->Prop)(_:TagM p)(mu:Mu):Prop:=p mu
theorem ji.intro{p:Mu->Prop}{mu:Mu}(h:p mu):ji p .mk mu:=h
theorem yY.keep{P:Program}{pl:Pol}{gf:FuncId}{caps:List AV}{ps:Array Tmp}{asg body:Code}{Q:qv->St->Prop}{st:St}{rows:List (List AV)}(hit:zS P gf caps rows)(I:Nat->Mu->Prop)(Ix:qv->Mu->Prop)
  (h0:I 0 (st.mu++[.dead])) (hS:∀ k mu,I k mu->I k (mu++[.dead])) (hX:∀ e mu,Ix e mu->Ix e (mu++[.dead]))
  (hr:∀ k x mu,rows[k]?=some x->I k mu->x.length=ps.size/\awp P pl asg (asQ (fun st=>awp P pl body (rndQ (fun k=>ji (I k) .mk) (fun e=>ji (Ix e) .mk) k) st)) ⟨yK st.tm ps.toList x,mu⟩)
  (he:∀ mu,I rows.length mu->Q .normal ⟨st.tm,mu⟩) (hx:∀ e mu,Ix e mu->Q e ⟨st.tm,mu⟩):yY P pl (.fn (.func gf) [] caps) ps asg body Q st:=
 yY.intro hit I Ix h0 hS hX hr he hx
abbrev tupCl(sc:Sc)(p:Int)(l:List Int):AV := .fn (.func 129) [] [.ip [lI l],.ip [aI p],.ip [lI sc.atoms,aI sc.steps]]
theorem JI(sc:Sc)(p:Int)(l:List Int):qf qa 114 [eSc sc,aI p,lI l] (tupCl sc p l):=by
 refine qSQ call114 func114 rfl {} ?_;simp[go_sem];refine .hf _ (HF.fn (fun c hc=>by simp at hc) (fun c hc=>?_));simp at hc;rcases hc with rfl|rfl|rfl
 .exact QX (qT _)
 .exact QX (HF.sc _)
 .exact HF.ip fun c hc=>by simp at hc;rcases hc with rfl|rfl<;>first|exact qT _|exact HF.sc _
def tupR(sc:Sc):List Int->Int->List Int
 | [],p=>[p]
 |s :: l,p=>(qg (gI sc.atoms s.toNat).toNat).flatMap fun k:Nat=>tupR sc l (p*sumI sc.atoms+(sumI (sc.atoms.take s.toNat)+k))
@[go_sem] theorem yl_cells(i:Nat):(AV.yl i).cells=[.yl i]:=rfl
@[go_sem] theorem yl_one(i:Nat):(AV.yl i).one=true:=rfl
theorem Xf(sc:Sc)(p:Int):zS qa 129 [.ip [lI []],.ip [aI p],.ip [lI sc.atoms,aI sc.steps]] [[aI p]]:=by
 refine zS.of call129 fun i I Ix hS hX hY mu h0=>?_
 refine qSW call129 func129 rfl {} ?_;simp[go_sem];refine qd.yield (hY 0 [aI p] mu rfl h0) ?_;rintro b mu' (⟨rfl,hI'⟩|⟨rfl,hx'⟩)
 .simp [go_sem]
  exact .inl hI'
 .simp [go_sem]
  exact .inr hx'
theorem Xg{i r:Nat}(h:i<r):∃ l,qg r=qg i++i :: l:=by
 refine⟨(qg r).drop (i+1),?_⟩;apply ya;intro j;by_cases hj:j<i
 .rw [qh (by simpa using hj),ur hj,ur (by omega)]
 .rw [qB (by simp;omega),List.length_range]
  by_cases e:j=i
  .subst e;simp[h]
  .obtain ⟨d,hd⟩:∃ d,j-i=d+1:=⟨j-i-1,by omega⟩
   rw[hd,y6,List.getElem?_drop];congr 1;omega
theorem Xh{α:Type}(f:Nat->List α){N k j:Nat}{x:α}(hk:k<N)(h:(f k)[j]?=some x):((qg N).flatMap f)[((qg k).flatMap f).length+j]?=some x:=by
 obtain⟨l,e⟩:=Xg hk;rw[e,List.flatMap_append,qB (by omega),Nat.add_sub_cancel_left,List.flatMap_cons,qh (qc.1 h).1];exact h
theorem JK{α:Type}(f:Nat->List α)(k:Nat):(qg (k+1)).flatMap f=(qg k).flatMap f++f k:=by
 rw[List.range_succ,List.flatMap_append];simp
theorem Xi(sc:Sc)(g:GSc sc)(hA:∀ a,a∈sc.atoms->0<=a)(s:Nat)(hs:s<sc.atoms.length)(l:List Int)(hl:l.length<=10)(p:Int)(hp:0<=p/\p<=1000000)
  (ih:∀ k:Nat,k<(gI sc.atoms s).toNat->zS qa 129 [.ip [lI l],.ip [aI (p*sumI sc.atoms+(sumI (sc.atoms.take s)+k))],.ip [lI sc.atoms,aI sc.steps]] ((tupR sc l (p*sumI sc.atoms+(sumI (sc.atoms.take s)+k))).map fun t=>[aI t])) :
  zS qa 129 [.ip [lI (s :: l)],.ip [aI p],.ip [lI sc.atoms,aI sc.steps]] ((tupR sc (s :: l) p).map fun t=>[aI t]):=by
 refine zS.of call129 fun i I Ix hS hX hY mu h0=>?_
 refine qSW call129 func129 rfl {} ?_;have hz:¬(l.length:Int)+1=0:=by omega
 have hfs:=Xa sc g s (by omega);have hfw:WKs [eSc sc,aI s] [eSc sc,aI s] := .cons (.hf (qU sc)) (.cons (.hf (HF.sc _)) .nil);obtain⟨s0,s1⟩:=g.sum s;obtain⟨t0,t1⟩:=g.sum sc.atoms.length;rw[zG]at t0 t1;have hat:gI sc.atoms s=sc.atoms[s]:=ug hs;have ha0:=hA _ (qY hs);obtain⟨u0,u1⟩:=g.sum (s+1);rw[jg _ _ hs]at u1;have hau:=W9 sc g;have haw:WKs [eSc sc] [eSc sc] := .cons (.hf (qU sc)) .nil;have hrows:tupR sc (s :: l) p=(qg (sc.atoms[s]).toNat).flatMap fun k:Nat=>tupR sc l (p*sumI sc.atoms+(sumI (sc.atoms.take s)+k)):=by
  rw[tupR,show (s:Int).toNat=s by omega,hat]
 rw[hat]at ih;obtain⟨m0,m1⟩:0<=p*sumI sc.atoms/\p*sumI sc.atoms<=1000000*20:=⟨Int.mul_nonneg hp.1 t0,jy hp.2 t1 t0 (by omega)⟩;have w2:qJ.wrap (p*sumI sc.atoms)=p*sumI sc.atoms:=qo (by omega) (by omega);have w3:qJ.wrap (sumI (sc.atoms.take s)+sc.atoms[s])=sumI (sc.atoms.take s)+sc.atoms[s]:=qo (by omega) (by omega);generalize hF:(fun k:Nat=>tupR sc l (p*sumI sc.atoms+(sumI (sc.atoms.take s)+k)))=F at *
 have hFk:∀ k:Nat,tupR sc l (p*sumI sc.atoms+(sumI (sc.atoms.take s)+k))=F k:=fun k=>by rw[<-hF]
 simp only[hFk]at ih;simp[go_sem,hz];refine qI.intro (by kernel_rfl) ?_;simp[go_sem];refine qd.pure hfs hfw ?_;generalize hn:sumI sc.atoms=n at *
 generalize hf:sumI (sc.atoms.take s)=f at *
 simp[go_sem];refine qx.keep (fun m st=>∃ k,m=(sc.atoms[s]).toNat-k/\k<=(sc.atoms[s]).toNat/\st.tm 1 = .ip [lI (s :: l)]/\st.tm 2 = .ip [aI p]/\st.tm 3 = .ip [lI sc.atoms,aI sc.steps]/\st.tm 4 = .ip [.yl i]/\st.tm 5=aI f/\st.tm 6=aI (f+(k:Nat))/\I ((qg k).flatMap F).length st.mu) (sc.atoms[s]).toNat ?_ ?_
 .exact ⟨0,by omega,by omega,by simp[go_sem],by simp[go_sem],by simp[go_sem],by simp[go_sem],by simp[go_sem],by simp[go_sem],by simpa[go_sem] using h0⟩
 rintro m st ⟨k,rfl,hk,e1,e2,e3,e4,e5,e6,hI⟩;simp[go_sem];refine qI.intro (by kernel_rfl) ?_;by_cases hlt:k<(sc.atoms[s]).toNat
 .have hb:f+(k:Int)<f+sc.atoms[s]:=by omega
  have w4:qJ.wrap (p*n+(f+k))=p*n+(f+k):=qo (by omega) (by omega);have w5:qJ.wrap (f+(k:Int)+1)=f+((k+1:Nat):Int):=by rw[qo (by omega) (by omega)];omega
  have hslw:WKs [eSc sc,aI (p*n+(f+k)),.lst false (l.map rI)] [eSc sc,aI (p*n+(f+k)),lI l] := .cons (.hf (qU sc)) (.cons (.hf (HF.sc _)) (.cons (.hf (qT l)) .nil));have htu:=JI sc (p*n+(f+k)) l;simp[go_sem,e1,e2,e3,e4,e5,e6,hs,w3,hb];refine qI.intro (by kernel_rfl) ?_;simp[go_sem,e1,e2,e3,e4,e5,e6];refine qd.pure hau haw ?_;have h1l:(1:Int)<=l.length+1:=by omega
  have htk:List.take l.length (l.map rI)=l.map rI:=zA (by simp);simp[go_sem,e1,e2,e3,e4,e5,e6,w2,w4,h1l,htk];refine⟨⟨_,_,⟨rfl,rfl⟩,(jf (s :: l)).ok⟩,?_⟩;refine qd.pure htu hslw ?_;simp[go_sem,e1,e2,e3,e4,e5,e6];refine yY.keep (ih k hlt) (fun j M=>I (((qg k).flatMap F).length+j) M) (fun e M=>e = .ret/\Ix M) ?_ ?_ ?_ ?_ ?_ ?_
  .simpa [go_sem] using hS _ _ hI
  .intro j M h;exact hS _ _ h
  .rintro e M ⟨h1,h2⟩;exact⟨h1,hX _ h2⟩
  .rintro j x M hj hIj
   rw[qW,zj]at hj;obtain⟨t,ht,rfl⟩:=hj;have hget:(((qg (sc.atoms[s]).toNat).flatMap F).map fun t=>[aI t])[((qg k).flatMap F).length+j]?=some [aI t]:=by
    rw[qW,Xh F hlt ht];rfl
   rw[<-hrows]at hget;refine⟨rfl,?_⟩;simp[go_sem,e1,e2,e3,e4,e5,e6];refine qd.yield (hY _ _ _ hget hIj) ?_;rintro b mu' (⟨rfl,hI'⟩|⟨rfl,hx'⟩)
   .simp [go_sem]
    exact ji.intro hI'
   .simp [go_sem]
    exact ji.intro ⟨rfl,hx'⟩
  .rintro M hIn
   simp[go_sem,e1,e2,e3,e4,e5,e6,w5];refine Keep.loop ((sc.atoms[s]).toNat-(k+1)) (by omega) ⟨k+1,rfl,by omega,by simp[go_sem,e1],by simp[go_sem,e2],by simp[go_sem,e3],by simp[go_sem,e4],by simp[go_sem,e5],by simp[go_sem],?_⟩;rw[JK,zF];simpa[go_sem] using hIn
  .rintro e M ⟨rfl,h2⟩
   simp[go_sem];exact .inr h2
 .have hge:k=(sc.atoms[s]).toNat:=by omega
  have hb:¬f+(k:Int)<f+sc.atoms[s]:=by omega
  simp[go_sem,e1,e2,e3,e4,e5,e6,hs,w3,hb];rw[hrows,<-hge];exact .inl hI
def bdT:Nat->Int
 | 0=>1000000000
 | 1=>1000000
 | 2=>40000
 |_=>1000
theorem JL(d:Nat)(hd:d<3){p q n:Int}(h0:0<=p)(h1:p<=bdT (d+1))(n0:0<=n)(n1:n<=20)(q0:0<=q)(q1:q<=20):0<=p*n+q/\p*n+q<=bdT d/\p<=1000000:=by
 have a:0<=p*n:=Int.mul_nonneg h0 n0;have b:p*n<=bdT (d+1)*20:=jy h1 n1 n0 (by omega)
 match d,hd with
 | 0,_=>simp only[bdT]at *;omega
 | 1,_=>simp only[bdT]at *;omega
 | 2,_=>simp only[bdT]at *;omega
def OkS(sc:Sc)(l:List Int):Prop:=∀ s,s∈l->0<=s/\s<sc.atoms.length
theorem JM(sc:Sc)(g:GSc sc)(hA:∀ a,a∈sc.atoms->0<=a):∀(l:List Int),OkS sc l->l.length<=3->∀ p:Int,0<=p->p<=bdT l.length->zS qa 129 [.ip [lI l],.ip [aI p],.ip [lI sc.atoms,aI sc.steps]] ((tupR sc l p).map fun t=>[aI t])
 | [],_,_,p,_,_=>Xf sc p
 |s :: l,hs,hl,p,h0,h1=>by
  obtain⟨n,rfl⟩:∃ n:Nat,s=n:=⟨s.toNat,by have:=(hs s (by simp)).1;omega⟩;have hn:n<sc.atoms.length:=by have:=(hs n (by simp)).2;omega
  simp only[zN]at hl h1;obtain⟨t0,t1⟩:=g.sum sc.atoms.length;rw[zG]at t0 t1;refine Xi sc g hA n hn l (by omega) p ⟨h0,(JL l.length (by omega) h0 h1 t0 t1 (q:=0) (by omega) (by omega)).2.2⟩ fun k hk=>?_
  obtain⟨u0,u1⟩:=g.sum (n+1);rw[jg _ _ hn]at u1;rw[ug hn]at hk;obtain⟨s0,s1⟩:=g.sum n;obtain⟨b0,b1,_⟩:=JL l.length (by omega) h0 h1 t0 t1 (q:=sumI (sc.atoms.take n)+k) (by omega) (by omega);exact JM sc g hA l (fun x hx=>hs x (by simp[hx])) (by omega) _ b0 b1
theorem JN(sc:Sc)(g:GSc sc)(hA:∀ a,a∈sc.atoms->0<=a):∀(l:List Int),OkS sc l->∀ p,(tupR sc l p).length<=20 ^ l.length
 | [],_,p=>by simp[tupR]
 |s :: l,hs,p=>by
  obtain⟨n,rfl⟩:∃ n:Nat,s=n:=⟨s.toNat,by have:=(hs s (by simp)).1;omega⟩;have hn:n<sc.atoms.length:=by have:=(hs n (by simp)).2;omega
  obtain⟨u0,u1⟩:=g.sum (n+1);obtain⟨s0,s1⟩:=g.sum n;rw[jg _ _ hn]at u1;have ih:=JN sc g hA l (fun x hx=>hs x (by simp[hx]));rw[tupR,show (n:Int).toNat=n by omega,ug hn];have key:∀ m:Nat,((qg m).flatMap fun k:Nat=>tupR sc l (p*sumI sc.atoms+(sumI (sc.atoms.take n)+k))).length<=m*20 ^ l.length:=by
   intro m;induction m with
   |zero=>simp
   |succ m ihm =>
    rw[JK,zF,Nat.succ_mul];have:=ih (p*sumI sc.atoms+(sumI (sc.atoms.take n)+m));omega
  refine zt (key _) ?_;rw[zN,Nat.pow_succ,Nat.mul_comm];exact Nat.mul_le_mul_left _ (by omega)
theorem JO(n a b:Int):qf qa 108 [aI n,aI a,aI b] (aB (decide (a<=n)&&decide (n<=b))):=by
 refine qSQ call108 func108 rfl {} ?_;by_cases h1:a<=n
 .simp [go_sem,h1]
  exact .hf _ (HF.sc _)
 .simp [go_sem,h1]
  exact .hf _ (HF.sc _)
theorem wk3I(a b c:Int):WKs [aI a,aI b,aI c] [aI a,aI b,aI c] := .cons (.hf (HF.sc _)) (.cons (.hf (HF.sc _)) (.cons (.hf (HF.sc _)) .nil))
theorem fullU(sc:Sc)(g:GSc sc)(hA:∀ a,a∈sc.atoms->0<=a)(l:List Int)(hs:OkS sc l)(h1:1<=l.length)(h3:l.length<=3):qf qa 92 [eSc sc,lI l] (eRel ⟨l.length,tupR sc l 0⟩):=by
 refine qSQ call92 func92 rfl {} ?_;have b1:(1:Int)<=l.length:=by omega
 have b3:(l.length:Int)<=3:=by omega
 have hg:=g.1;have w1:=JO l.length 1 3;rw[decide_eq_true b1,decide_eq_true b3]at w1;simp[go_sem];refine qd.pure w1 (wk3I _ _ _) ?_;simp[go_sem];refine qx.upK l.length (fun k st=>st.tm 1=lI l/\st.tm 2 = .ip [lI sc.atoms,aI sc.steps]/\st.tm 4 = .ptr 0 0/\st.tm 14=lI l/\st.tm 15=aI l.length/\st.tm 16=aI k/\st.mu=[.arr [aI 0,.lst true []]]) ?_ ?_
 .simp [go_sem]
 rintro k st hk ⟨e1,e2,e4,e14,e15,e16,hm⟩;by_cases hlt:k<l.length
 .have wk:qJ.wrap ((k:Int)+1)=(k:Int)+1:=qo (by omega) (by omega)
  have wl:qJ.wrap ((sc.atoms.length:Int)-1)=(sc.atoms.length:Int)-1:=qo (by omega) (by omega);obtain⟨q0,q1⟩:=hs _ (qY hlt);have w2:=JO l[k] 0 ((sc.atoms.length:Int)-1);rw[decide_eq_true q0,decide_eq_true (by omega:l[k]<=(sc.atoms.length:Int)-1)]at w2;simp[go_sem,e1,e2,e4,e14,e15,e16,hm,hlt,wl];refine qd.pure w2 (wk3I _ _ _) ?_;simp[go_sem,e1,e2,e4,e14,e15,e16,hm,hlt,wk];exact Keep.mk' ⟨by simp[go_sem,e1],by simp[go_sem,e2],by simp[go_sem,e4],by simp[go_sem,e14],by simp[go_sem,e15],by simp[go_sem],by simp[go_sem]⟩
 .have hge:k=l.length:=by omega
  subst hge;have htl:=JN sc g hA l hs 0;have hp:20 ^ l.length<=8000:=by
   have:l.length=1\/l.length=2\/l.length=3:=by omega
   rcases this with h|h|h<;>rw[h]<;>omega
  have hb0:(0:Int)<=bdT l.length:=by
   have:l.length=1\/l.length=2\/l.length=3:=by omega
   rcases this with h|h|h<;>rw[h]<;>simp[bdT]
  simp[go_sem,e1,e2,e4,e14,e15,e16,hm];refine qd.pure (JI sc 0 l) (.cons (.hf (qU sc)) (.cons (.hf (HF.sc _)) (.cons (.hf (qT l)) .nil))) ?_;simp[go_sem,e1,e2,e4,e14,e15,e16,hm];refine yY.keep (JM sc g hA l hs h3 0 (by omega) hb0) (fun j M=>RelM M l.length ((tupR sc l 0).take j)) (fun _ _=>False) ?_ ?_ ?_ ?_ ?_ ?_
  .exact ⟨.lst true [],by simp[go_sem],by simp[go_sem],.inl ⟨rfl,rfl⟩,by simp[qj],by simp[qj]⟩
  .rintro j M ⟨av,g0,g1,ho,n0,n1⟩
   exact⟨av,by rw[qh (qc.1 g0).1];exact g0,by rw[qh (qc.1 g1).1];exact g1,ho.same fun b hb=>by rw[qh (ho.v.lt hb)],n0,n1⟩
  .intro e M h;exact h
  .rintro j x M hj ⟨av,g0,g1,ho,n0,n1⟩
   rw[qW,zj]at hj;obtain⟨t,ht,rfl⟩:=hj;obtain⟨hjl,hte⟩:=qc.1 ht;refine⟨rfl,?_⟩;simp[go_sem,e1,e2,e4,g1];refine qD.ownV1 (e:=3) (bt:=8) (z:=0) (by simp[go_sem]) (by simp[go_sem]) (by simp[go_sem]) (by omega) ho.v (by simp;omega) ?_;intro av' mu' ho' hs' hl' hb';obtain⟨k1,k2⟩:=RelM.step g0 g1 n0 n1 ho' hs' hl' hb';simp[go_sem,e1,e2,e4,k1,ho'.v.one,ho'.v.cells];refine ji.intro ?_;rw[JA hjl,hte];exact k2
  .rintro M ⟨av,g0,g1,ho,n0,n1⟩
   rw[zr,zG]at ho;have hset:∀ c,(M.set 0 c)[0]?=some c:=fun c=>zi (qc.1 g0).1
   simp[go_sem,e1,e2,e4,g0,g1,hset,ho.v.one,ho.v.cells];refine OwnV.rdRel (ho.v.same fun b hb=>?_);rw[q9 (fun e=>n0 (by rw[e];exact hb))]
  .intro e M h;exact h.elim
end EW
namespace JC
theorem backX(f:Bool):Qr qa 279 [.ip [.lst f []]] []:=by
 refine⟨call279,fun i I Ix hY mu h0=>?_⟩;refine qSW call279 func279 rfl {} ?_;simp[go_sem];refine qx.keep (fun _ st=>st.tm 3=aI (-1)/\st.mu=mu) 0 ?_ ?_
 .simp [go_sem,qo]
 rintro _ st ⟨e3,hm⟩;simp[go_sem,e3,hm];exact .inl h0
end JC
namespace GG
open ER
@[go_sem ↓] theorem kU(P:Program)(pl:Pol)(l:List Oper)(Q:St->Prop)(Qp:AV->St->Prop)(k:Nat)(r:List Nat)(T:List (Nat×Nat×List Nat))(st:St)(dst:Option Tmp)(op:Op)(ty:TypeId)(pos:String)(after:Array Edge)(j:Nat)(want:Bool) :
  segO P pl l Q Qp k r T st (some ⟨dst,op,ty,pos,after,some (j,want)⟩)=jL ((l[j]?).bind (·.dst)) st want (fun st=>segO P pl l Q Qp k r T st (some ⟨dst,op,ty,pos,after,none⟩)) (fun st=>awpT P pl l.toArray Q Qp T (st.put dst (.sc undef) st.mu)):=by
 simp only[segO,qX,jL,yE];congr 1;funext b;simp[brK,BrS,OptK,Br]
@[go_sem ↓] theorem kV(P:Program)(pl:Pol)(l:List Oper)(st:St)(d:Tmp)(op:Op)(ty:TypeId)(pos:String)(after:Array Edge)(j:Nat)(want:Bool) :
  Qu P pl l st (some ⟨some d,op,ty,pos,after,some (j,want)⟩)=jL ((l[j]?).bind (·.dst)) st want (fun st=>qk P pl true (some d) op st.ev st.mu (jr st d st.mu) noK) (fun _=>True):=by
 simp only[Qu,qX,jL,yE];congr 1
def subL:List (List AV)->List (List AV)->List (List (List AV))
 |c,[]=>[c]
 |c,x :: r=>subL c r++subL (c++[x]) r
def jv(l:List (List AV)):Prop:=∀ r,r∈l->r.length=3/\(r.all AV.one=true/\∀ x,x∈r->HF x)
theorem clipU(c:List (List AV))(hc:jv c)(hl:c.length<=1000000):qf qa 149 [.lst false c] (.lst true c):=by
 refine qSQ call149 func149 rfl {} ?_;simp[go_sem];refine⟨⟨_,_,⟨rfl,rfl⟩,fun r hr=>(hc r hr).1⟩,.hf _ (HF.lst fun r hr x hx=>(hc r hr).2.2 x hx)⟩
abbrev extV(i b:Nat):AV := .fn (.func 148) [] [.ip [.yl i],.ptr b 0]
def ExtR(i b:Nat)(I:Nat->Mu->Prop)(Ix:Mu->Prop)(k:Nat)(e:AEnd)(m:Mu):Prop:=m[b]?=some (.arr [extV i b])/\((e = .ret (aB true)/\I k (m.set b .dead))\/(e = .ret (aB false)/\Ix (m.set b .dead)))
theorem extU{i b:Nat}{rows:List (List AV)}{I:Nat->Mu->Prop}{Ix:Mu->Prop}(hS:∀ k mu,I k mu->I k (mu++[.dead]))(hX:∀ mu,Ix mu->Ix (mu++[.dead]))(hY:Yld qa i rows I Ix) :
  ∀(r c:List (List AV)) (k:Nat) (mu:Mu),jv r->jv c->c.length+r.length<=1000->(∀(j:Nat) x,(subL c r)[j]?=some x->rows[k+j]?=some [.lst false x])->mu[b]?=some (.arr [extV i b])->I k (mu.set b .dead) ->
   qE qa 148 ([.lst false c,.lst false r]++[.ip [.yl i],.ptr b 0]) mu (ExtR i b I Ix (k+(subL c r).length))
 | [],c,k,mu,hr,hc,hl,hrow,hb,h0=>by
  refine qSW call148 func148 rfl {} ?_;simp[go_sem];have h1:=hrow 0 c rfl;refine qd.yield (yH.hid hb (by simp) (hY k _ _ h1 h0)) ?_;rintro bb m ⟨m1,hm,hd,rfl⟩;have hbl:b<m1.length:=(qc.1 hd).1;have hset:(m1.set b (Cell.arr [extV i b])).set b .dead=m1:=by
   rw[List.set_set];apply ya;intro j;by_cases hj:j=b
   .subst hj;rw[zi hbl];exact hd.symm
   .rw [q9 (fun e=>hj e.symm)]
  simp[go_sem];refine⟨by rw[zi hbl],?_⟩;rw[hset];rcases hm with ⟨rfl,hI⟩|⟨rfl,hI⟩
  .exact .inl ⟨rfl,hI⟩
  .exact .inr ⟨rfl,hI⟩
 |x :: r,c,k,mu,hr,hc,hl,hrow,hb,h0=>by
  have hx:=hr x (by simp);obtain⟨x0,x1,x2,rfl⟩:∃ x0 x1 x2,x=[x0,x1,x2]:=by
   match x,hx.1 with
   | [a,b,c],_=>exact⟨a,b,c,rfl⟩
  refine qSW call148 func148 rfl {} ?_;have h0n:¬(r.length:Int)+1=0:=by omega
  simp[go_sem,h0n];refine qI.seg [0,1,2,3,4,5,6,7,9,10,11,12,14,15,8,13,16,17,18] [(0,0,[]),(1,0,[]),(2,0,[]),(3,0,[]),(4,1,[]),(5,0,[]),(6,0,[]),(7,0,[]),(9,0,[]),(10,0,[]),(11,0,[]),(12,0,[]),(14,0,[]),(15,0,[]),(8,1,[6,11]),(13,1,[6]),(16,1,[]),(17,0,[]),(18,0,[])] (by kernel_rfl) (by kernel_rfl) (by simp[go_sem]) ?_;have h1n:(1:Int)<=(r.length:Int)+1:=by omega
  have hok:∃ e sz,(200=e/\3=sz)/\zm sz ([x0,x1,x2] :: r):=⟨_,_,⟨rfl,rfl⟩,fun y hy=>(hr y hy).1⟩;simp[go_sem,hb,h1n];refine⟨hok,?_⟩;have hr':jv r:=fun y hy=>hr y (by simp[hy])
  have hsub:subL c ([x0,x1,x2] :: r)=subL c r++subL (c++[[x0,x1,x2]]) r:=rfl;have ih1:=extU hS hX hY r c k mu hr' hc (by simp at hl;omega) (fun j y hj=>hrow j y (by rw[hsub,qh (qc.1 hj).1];exact hj)) hb h0;refine qd.eff (caps:=[.ip [.yl i],.ptr b 0]) ih1 ?_ (by rintro q m ⟨_,h|h⟩<;>exact absurd h.1 (by simp));rintro q m1 ⟨hb1,⟨hq,hI⟩|⟨hq,hI⟩⟩
  .cases hq
   have hone:x0.one=true/\x1.one=true/\x2.one=true:=by have:=hx.2.1;simpa using this
   have hcf:∀ y,y∈c->∀ z,z∈y->HF z:=fun y hy=>(hc y hy).2.2
   simp[go_sem,hb1,h1n,hone];refine⟨hok,?_⟩;refine qd.pure (clipU c hc (by simp at hl;omega)) (.cons (.hf (HF.lst hcf)) .nil) ?_;simp[go_sem,hb1,h1n,hone];refine .inl ⟨174,174,200,3,24,[[x0,x1,x2]],rfl,by simp[go_sem],by simp[go_sem],⟨.agg [aI 0,aI 0,aI 0],by simp[go_sem],rfl,rfl⟩,by omega,by omega,by simp[qZ],fun y hy=>by simp at hy;subst hy;exact⟨rfl,hx.2.1⟩,.inl ⟨c,rfl,fun y hy=>⟨(hc y hy).1,(hc y hy).2.1⟩,by simp at hl;simp;omega,fun h=>absurd h (by simp),fun _=>?_⟩⟩;have hbl:b<m1.length:=(qc.1 hb1).1;have hfl:(c++[[x0,x1,x2]]).flatten=c.flatten++[x0,x1,x2]:=by simp
   generalize hM:m1++[Cell.arr (c.flatten++[[x0,x1,x2]].flatten)]=m2;have hM':m1++[Cell.arr (c.flatten++[x0,x1,x2])]=m2:=by rw[<-hM];simp
   have hb2:m2[b]?=some (.arr [extV i b]):=by rw[<-hM,qh hbl];exact hb1
   have hat:m2[m1.length]?=some (.arr (c++[[x0,x1,x2]]).flatten):=by rw[<-hM',hfl];simp
   have hb2':(m1++[Cell.arr (c.flatten++[x0,x1,x2])])[b]?=some (.arr [extV i b]):=by rw[hM'];exact hb2
   simp[go_sem,hb2',h1n,hone];rw[hM'];have hcut:cutM (fun j=>!(j == m1.length)) m2 0=m1++[.dead]:=by
    apply ya;intro j;rw[y9,<-hM];by_cases hj:j<m1.length
    .rw [qh hj,qh hj,qs hj]
     have:¬j=m1.length:=by omega
     simp[this]
    .by_cases hj2:j=m1.length
     .subst hj2;simp
     .rw [qB (by omega),qB (by omega)]
      obtain⟨d,hd⟩:∃ d,j-m1.length=d+1:=⟨j-m1.length-1,by omega⟩;rw[hd];rfl
   have hc2:jv (c++[[x0,x1,x2]]):=fun y hy=>by
    rcases qy.1 hy with h|h
    .exact hc y h
    .rw [qV]at h;subst h;exact hx
   have ih2:=extU hS hX hY r (c++[[x0,x1,x2]]) (k+(subL c r).length) (m1++[.dead]) hr' hc2 (by simp at hl⊢;omega) (fun j y hj=>by
    have:=hrow ((subL c r).length+j) y (by rw[hsub,qB (by omega)];simpa using hj);rw[<-this];congr 1;omega) (by rw[qh hbl];exact hb1) (by
    rw[List.set_append_left _ _ hbl];exact hS _ _ hI)
   have hrd:Rd (cutM (fun j=>j == m1.length) m2 0) (.sl m1.length 3 0 (c.length+1)) (.lst false (c++[[x0,x1,x2]])):=by
    have hcl:(cutM (fun j=>j == m1.length) m2 0)[m1.length]?=some (.arr (c++[[x0,x1,x2]]).flatten):=by rw[QM];exact hat
    have:=Own.rd (mu:=cutM (fun j=>j == m1.length) m2 0) (sz:=3) (av := .sl m1.length 3 0 (c++[[x0,x1,x2]]).length) (.inr ⟨_,rfl,hcl⟩) (fun y hy=>(hc2 y hy).1) (fun y hy=>(hc2 y hy).2.2);simpa using this
   have hfz:qE qa 148 ([.sl m1.length 3 0 (c.length+1),.lst false r]++[.ip [.yl i],.ptr b 0]) m2 (ExtR i b I Ix (k+(subL c r).length+(subL (c++[[x0,x1,x2]]) r).length)):=
    qE.freeze (args:=[.sl m1.length 3 0 (c.length+1),.lst false r,.ip [.yl i],.ptr b 0]) (args1:=[.lst false (c++[[x0,x1,x2]]),.lst false r,.ip [.yl i],.ptr b 0]) (fun j=>j == m1.length) ⟨.inr hrd,.inl rfl,.inl rfl,.inl rfl,trivial⟩ (by rw[hcut];exact ih2)
   refine qd.eff (caps:=[.ip [.yl i],.ptr b 0]) hfz ?_ (by rintro q m ⟨_,h|h⟩<;>exact absurd h.1 (by simp));have hlen:k+(subL c r).length+(subL (c++[[x0,x1,x2]]) r).length=k+(subL c ([x0,x1,x2] :: r)).length:=by rw[hsub,zF];omega
   rw[hlen];rintro q m ⟨hb3,⟨hq,hI3⟩|⟨hq,hI3⟩⟩
   .cases hq
    simp[go_sem,hb3,h1n];exact⟨hb3,.inl ⟨rfl,hI3⟩⟩
   .cases hq
    simp[go_sem,hb3,h1n];exact⟨hb3,.inr ⟨rfl,hI3⟩⟩
  .cases hq
   simp[go_sem,hb1,h1n];exact⟨hb1,.inr ⟨rfl,hI⟩⟩
theorem Xj(l:List (List AV))(hl:jv l)(hn:l.length<=1000):zS qa 147 [.ip [.lst false l]] ((subL [] l).map fun c=>[.lst false c]):=by
 refine zS.of call147 fun i I Ix hS hX hY mu h0=>?_
 refine qE.give ?_;refine qSW call147 func147 rfl {} ?_;simp[go_sem];have hx:=extU (i:=i) (b:=mu.length) hS hX hY l [] 0 (mu++[.arr [extV i mu.length]]) hl (fun r hr=>by simp at hr) (by simpa using hn) (fun j x hj=>by rw[zX,qW,hj];rfl) (by simp) (by simpa using hS 0 mu h0);have hf:qE qa 148 ([.lst true [],.lst false l]++[.ip [.yl i],.ptr mu.length 0]) (mu++[.arr [extV i mu.length]]) (ExtR i mu.length I Ix (0+(subL [] l).length)):=
  qE.freeze (args:=[.lst true [],.lst false l,.ip [.yl i],.ptr mu.length 0]) (args1:=[.lst false [],.lst false l,.ip [.yl i],.ptr mu.length 0]) (fun _=>false) ⟨.inr (.wk _ true _ (.hf _ (HF.lst fun r hr=>by simp at hr))),.inl rfl,.inl rfl,.inl rfl,trivial⟩ (by rw[Jg];exact hx)
 refine qd.eff (caps:=[.ip [.yl i],.ptr mu.length 0]) hf ?_ (by rintro q m ⟨_,h|h⟩<;>exact absurd h.1 (by simp));rintro q m ⟨hb,h⟩;have hcut:cutM (fun j=>!(j == mu.length)) m 0=m.set mu.length .dead:=by
  apply ya;intro j;rw[y9];by_cases hj:j=mu.length
  .subst hj
   rw[hb,zi (qc.1 hb).1];simp
  .rw [q9 (fun e=>hj e.symm)]
   cases hm:m[j]? with
   |none=>rfl
   |some c=>simp[hj]
 simp[go_sem];refine .inr ⟨fun j=>j == mu.length,⟨_,.same _⟩,?_⟩;show I _ (cutM (fun j=>!(j == mu.length)) m 0)\/Ix (cutM (fun j=>!(j == mu.length)) m 0);rw[hcut];rw[zX]at h;rcases h with ⟨_,h⟩|⟨_,h⟩
 .exact .inl h
 .exact .inr h
theorem Xk(l:List (List AV))(hl:jv l):qf qa 133 [.lst false l] (.fn (.func 147) [] [.ip [.lst false l]]):=by
 refine qSQ call133 func133 rfl {} ?_;simp[go_sem];refine .hf _ (HF.fn (fun c hc=>by simp at hc) (fun c hc=>?_));simp at hc;subst hc;exact QX (HF.lst fun r hr x hx=>(hl r hr).2.2 x hx)
end GG
namespace GA
def outL(a b:List Int):List Int:=a.filter fun x=>!decide (x∈b)
def zp(a b:List Int):List Int:=a.filter fun x=>decide (x∈b)
def xorN(a b:List Int):Int:=a.length+b.length-2*(zp a b).length
theorem QY(p:Int->Bool):∀ a:List Int,(a.filter p).length+(a.filter fun x=>!p x).length=a.length
 | []=>rfl
 |x :: a=>by
  have:=QY p a;simp only[List.filter_cons];cases p x<;>simp<;>omega
theorem JP{a b:List Int}(h:a.Nodup)(hs:∀ x,x∈a->x∈b):a.length<=b.length:=List.Nodup.length_le_of_subset h hs
theorem Xl{a b:List Int}(ha:a.Nodup)(hb:b.Nodup):(zp a b).length=(zp b a).length:=by
 have h:∀{a b:List Int},a.Nodup->(zp a b).length<=(zp b a).length:=fun ha=>JP (ha.filter _) fun x hx=>by
  simp only[zp,yA,decide_eq_true_eq]at hx⊢;exact⟨hx.2,hx.1⟩
 exact Nat.le_antisymm (h ha) (h hb)
theorem jS{a b:List Int}(ha:a.Nodup)(hb:b.Nodup):xorN a b=(outL a b).length+(outL b a).length:=by
 have h1:=QY (fun x=>decide (x∈b)) a;have h2:=QY (fun x=>decide (x∈a)) b;have h3:=Xl ha hb;unfold xorN;unfold zp at *
 unfold outL;omega
theorem JQ{a b:List Int}(ha:a.Nodup)(hb:b.Nodup):0<=xorN a b:=by rw[jS ha hb];omega
theorem Xm{a b:List Int}(ha:a.Nodup)(hb:b.Nodup):xorN a b=xorN b a:=by rw[jS ha hb,jS hb ha];omega
theorem Xn{a b:List Int}(ha:a.Nodup)(hb:b.Nodup):xorN a b=0↔∀ x,x∈a↔x∈b:=by
 rw[jS ha hb];constructor
 .intro h x
  have h1:outL a b=[]:=yn (by omega);have h2:outL b a=[]:=yn (by omega);simp only[outL,List.filter_eq_nil_iff,Bool.not_eq_true',decide_eq_false_iff_not,Classical.not_not]at h1 h2;exact⟨h1 x,h2 x⟩
 .intro h
  have h1:outL a b=[]:=by simp only[outL,List.filter_eq_nil_iff];intro x hx;simp[(h x).1 hx]
  have h2:outL b a=[]:=by simp only[outL,List.filter_eq_nil_iff];intro x hx;simp[(h x).2 hx]
  rw[h1,h2];rfl
theorem JR{a b c:List Int}(ha:a.Nodup):(outL a c).length<=(outL a b).length+(outL b c).length:=by
 rw[<-zF];refine JP (ha.filter _) fun x hx=>?_
 simp only[outL,qy,yA,Bool.not_eq_true',decide_eq_false_iff_not]at hx⊢;by_cases h:x∈b
 .exact .inr ⟨h,hx.2⟩
 .exact .inl ⟨hx.1,h⟩
theorem Xo{a b c:List Int}(ha:a.Nodup)(hb:b.Nodup)(hc:c.Nodup):xorN a c<=xorN a b+xorN b c:=by
 rw[jS ha hc,jS ha hb,jS hb hc];have h1:=JR (b:=b) (c:=c) ha;have h2:=JR (b:=b) (c:=a) hc;omega
theorem yN{a:List Int}(h:a.Pairwise (·<·)):a.Nodup:=h.imp fun h=>by omega
theorem JS:∀{a b:List Int},a.Pairwise (·<·)->b.Pairwise (·<·)->(∀ x,x∈a↔x∈b)->a=b
 | [],[],_,_,_=>rfl
 | [],y :: b,_,_,h=>absurd ((h y).2 (by simp)) (by simp)
 |x :: a,[],_,_,h=>absurd ((h x).1 (by simp)) (by simp)
 |x :: a,y :: b,ha,hb,h=>by
  rw[List.pairwise_cons]at ha hb;have e:x=y:=by
   have h1:=(h x).1 (by simp);have h2:=(h y).2 (by simp);rcases qz.1 h1 with e|h1
   .exact e
   .rcases qz.1 h2 with e|h2
    .exact e.symm
    .have:=hb.1 x h1;have:=ha.1 y h2;omega
  subst e;congr 1;refine JS ha.2 hb.2 fun z=>?_
  have hz:=h z;constructor
  .intro hza
   rcases qz.1 (hz.1 (zf _ hza)) with e|h'
   .subst e;have:=ha.1 z hza;omega
   .exact h'
  .intro hzb
   rcases qz.1 (hz.2 (zf _ hzb)) with e|h'
   .subst e;have:=hb.1 z hzb;omega
   .exact h'
theorem Xp{a b:List Int}(ha:a.Pairwise (·<·))(hb:b.Pairwise (·<·)):xorN a b=0↔a=b:=by
 rw[Xn (yN ha) (yN hb)];exact⟨JS ha hb,fun e=>by subst e;exact fun x=>Iff.rfl⟩
def sumZ{α:Type}(f:α->α->Int):List α->List α->Int
 |x :: xs,y :: ys=>f x y+sumZ f xs ys
 |_,_=>0
section
variable {α:Type} {f:α->α->Int} {P:α->Prop}
theorem wn(h:∀ x y,P x->P y->0<=f x y):∀{a b:List α},(∀ x,x∈a->P x)->(∀ x,x∈b->P x)->0<=sumZ f a b
 | [],_,_,_=>by simp[sumZ]
 |_ :: _,[],_,_=>by simp[sumZ]
 |x :: a,y :: b,ha,hb=>by
  have h1:=h x y (ha x (by simp)) (hb y (by simp));have h2:=wn h (a:=a) (b:=b) (fun z hz=>ha z (by simp[hz])) (fun z hz=>hb z (by simp[hz]));simp only[sumZ];omega
theorem QZ(h:∀ x y,P x->P y->f x y=f y x):∀{a b:List α},(∀ x,x∈a->P x)->(∀ x,x∈b->P x)->sumZ f a b=sumZ f b a
 | [],[],_,_=>rfl
 | [],_ :: _,_,_=>rfl
 |_ :: _,[],_,_=>rfl
 |x :: a,y :: b,ha,hb=>by
  simp only[sumZ];rw[h x y (ha x (by simp)) (hb y (by simp)),QZ h (fun z hz=>ha z (by simp[hz])) (fun z hz=>hb z (by simp[hz]))]
theorem Q0(h0:∀ x y,P x->P y->0<=f x y)(h:∀ x y,P x->P y->(f x y=0↔x=y)):∀{a b:List α},a.length=b.length->(∀ x,x∈a->P x)->(∀ x,x∈b->P x)->(sumZ f a b=0↔a=b)
 | [],[],_,_,_=>by simp[sumZ]
 | [],_ :: _,hl,_,_=>by simp at hl
 |_ :: _,[],hl,_,_=>by simp at hl
 |x :: a,y :: b,hl,ha,hb=>by
  have h1:=h0 x y (ha x (by simp)) (hb y (by simp));have h2:=wn h0 (a:=a) (b:=b) (fun z hz=>ha z (by simp[hz])) (fun z hz=>hb z (by simp[hz]));have h3:=h x y (ha x (by simp)) (hb y (by simp));have h4:=Q0 h0 h (a:=a) (b:=b) (by simpa using hl) (fun z hz=>ha z (by simp[hz])) (fun z hz=>hb z (by simp[hz]));simp only[sumZ,yF,<-h3,<-h4];omega
theorem Za(h:∀ x y z,P x->P y->P z->f x z<=f x y+f y z):∀{a b c:List α},a.length=b.length->b.length=c.length->(∀ x,x∈a->P x)->(∀ x,x∈b->P x)->(∀ x,x∈c->P x)->sumZ f a c<=sumZ f a b+sumZ f b c
 | [],[],[],_,_,_,_,_=>by simp[sumZ]
 |x :: a,y :: b,z :: c,h1,h2,ha,hb,hc=>by
  have e1:=h x y z (ha x (by simp)) (hb y (by simp)) (hc z (by simp));have e2:=Za h (a:=a) (b:=b) (c:=c) (by simpa using h1) (by simpa using h2) (fun w hw=>ha w (by simp[hw])) (fun w hw=>hb w (by simp[hw])) (fun w hw=>hc w (by simp[hw]));simp only[sumZ];omega
 | [],_ :: _,_,h1,_,_,_,_=>by simp at h1
 |_ :: _,[],_,h1,_,_,_,_=>by simp at h1
 | [],[],_ :: _,_,h2,_,_,_=>by simp at h2
 |_ :: _,_ :: _,[],_,h2,_,_,_=>by simp at h2
end
end GA
namespace GB
abbrev Sts:=List (List Rl)
def noR:Rl:=⟨0,[]⟩
end GB
namespace GC
end GC
namespace EU
end EU
namespace EC
end EC
namespace EY
open EO
def GatM(mu:Mu)(l:List Int):Prop:=∃ av,mu[0]?=some (.arr [aI 0,.lst true []])/\mu[1]?=some (.arr [av])/\OwnI mu av l/\qj av≠some 0/\qj av≠some 1
theorem GatM.push{mu:Mu}{l:List Int}(h:GatM mu l):GatM (mu++[.dead]) l:=by
 obtain⟨av,g0,g1,ho,n0,n1⟩:=h;exact⟨av,by rw[qh (qc.1 g0).1];exact g0,by rw[qh (qc.1 g1).1];exact g1,ho.same fun b hb=>by rw[qh (ho.v.lt hb)],n0,n1⟩
end EY
namespace GD
open E3 E4 F1 GA GB
theorem vq(xs:List Int):(xs.map rI).flatten=xs.map aI:=by
 induction xs with
 |nil=>rfl
 |cons x xs ih=>simp[ih]
theorem Xq{G:Gh}{h:Array Obj}{xs:List Int}{v:Value}(r:VRel G h (lI xs) v):xs=[]/\(∃ a c,v = .slice a 0 c)\/xs≠[]/\∃ b off c arr e fr,v = .slice (some ⟨b,off,none⟩) xs.length c/\h[b]?=some (.cells arr e fr)/\∀ j,j<xs.length->arr[off+j]?=some (.int .i64 (xs.getD j 0)):=by
 by_cases hx:xs=[]
 .subst hx
  refine .inl ⟨rfl,?_⟩;change VRel G h (.lst false []) v at r;cases r with
  |nil=>exact⟨_,_,rfl⟩
  |emp _ a cap hc=>exact⟨_,_,rfl⟩
  |lst _ _ sz a cap cs e fr rd hb hs hl hc hi hz hr hv=>exact⟨_,_,rfl⟩
 .refine .inr ⟨hx,?_⟩
  change VRel G h (.lst false (xs.map rI)) v at r;generalize hl0:xs.map rI=l at r;have hlen:l.length=xs.length:=by rw[<-hl0];simp
  cases r with
  |nil=>simp at hl0;exact absurd hl0 hx
  |emp _ a cap hc=>simp at hl0;exact absurd hl0 hx
  |lst _ _ sz a cap cs e fr rd hb hs hl hc hi hz hr hv =>
   obtain⟨b,off,spot⟩:=a;simp only at hs hb hr;subst hs;refine⟨b,off,cap,cs,e,fr,by rw[hlen],hb,fun j hj=>?_⟩;have hfl:l.flatten[j]?=some (aI (xs.getD j 0)):=by
    rw[<-hl0];have:(xs.map rI).flatten=xs.map aI:=vq xs;rw[this,qW,qs hj,qH,qs hj];rfl
   have h1:=hr j _ hfl;have h2:=hv j _ hfl;generalize rd j=u at h1 h2;cases h2;exact h1
def Zb(xs:List Int)(x:Int):Nat:=xs.countP (fun y=>decide (y<x))
theorem binU(xs:List Int)(x:Int)(hl:xs.length<=1000000000)(hs:xs.Pairwise (·<=·)):qf qa 48 [lI xs,aI x] (.tup [aI (Zb xs x),aB (decide (x∈xs))]):=by
 refine⟨call48,fun imm w vs hi ra=>?_⟩;obtain⟨u,v,rfl,ru,rv⟩:=ra.two_inv;cases rv;have hres:∀ w':World,VRel ⟨imm,[]⟩ w'.heap (.tup [aI (Zb xs x),aB (decide (x∈xs))]) (.tuple #[.int .i64 (Zb xs x:Nat),.bool (decide (x∈xs))]):=by
  intro w';refine .tup _ _ rfl (fun k y hy=>?_);cases k with
  |zero=>simp at hy;subst hy;exact .sc _ rfl
  |succ k=>cases k with
   |zero=>simp at hy;subst hy;exact .sc _ rfl
   |succ k=>simp at hy
 rcases Xq ru with ⟨rfl,a,c,rfl⟩|⟨hne,b,off,c,arr,e,fr,rfl,hb,hc⟩
 .refine (Tryz.slices_BinarySearch_int_empty a c x w).mono fun e w' ⟨he,hw⟩=>?_
  subst hw;refine⟨imm,_,he,fun _ h=>h,fun b hb=>⟨hi.imm b hb,.inl hb⟩,⟨RowKit.Below.refl _ _,qu _⟩,?_⟩;exact hres _
 .have hcell:∀ j,j<xs.length->w.cell? ⟨b,off+j,none⟩=some (.int .i64 (xs.getD j 0)):=by
   intro j hj;simp only[World.cell?,hb,Option.isSome_none,Bool.false_eq_true,if_false];exact hc j hj
  refine(Tryz.slices_BinarySearch_int b off xs.length c xs x w (qu _) (by omega) hcell (by rw[zG];exact hs)).mono fun e w' ⟨he,q,hw⟩=>?_
  subst hw;rw[zG]at he;have e2:xs.contains x=decide (x∈xs):=by
   rw[wG];simp
  rw[e2]at he;refine⟨imm,_,he,fun _ h=>h,fun b hb=>⟨hi.imm b hb,.inl hb⟩,⟨⟨rfl,rfl,rfl,qu _,fun _ _=>rfl⟩,Nat.le_add_right _ _⟩,?_⟩;exact hres _
def vt(P:Program)(fv:AV){α:Type}(enc:α->AV)(ok:α->α->Prop)(p:α->α->Bool):Prop:=
 HF fv/\∃ fid caps,fv = .fn (.func fid) [] caps/\∀ x y,ok x y->∃ args',WKs ([enc x,enc y]++caps) args'/\qf P fid args' (aB (p x y))
theorem vt.call{P:Program}{fv:AV}{α:Type}{enc:α->AV}{ok:α->α->Prop}{p:α->α->Bool}(h:vt P fv enc ok p){x y:α}(hx:ok x y){det:Bool}{mu:Mu}{K Kp:AV->Mu->Prop}(k:K (aB (p x y)) mu):qd P det mu fv [enc x,enc y] K Kp:=by
 obtain⟨_,fid,caps,rfl,h⟩:=h;obtain⟨args',h1,h2⟩:=h x y hx;exact .inl ⟨_,.inl ⟨fid,[],caps,args',rfl,h2,.inl (by simpa using h1)⟩,k⟩
def zc{α:Type}(p:α->α->Bool):List α->List α->Bool
 |x :: xs,y :: ys=>p x y&&zc p xs ys
 | [],[]=>true
 |_,_=>false
theorem Zc{α:Type}(p:α->α->Bool):∀(xs ys:List α),xs.length≠ys.length->zc p xs ys=false
 | [],[],h=>absurd rfl h
 | [],_ :: _,_=>rfl
 |_ :: _,[],_=>rfl
 |x :: xs,y :: ys,h=>by
  rw[zc,Zc p xs ys (by simpa using h),Bool.and_false]
theorem JT{α:Type}(p:α->α->Bool)(xs ys:List α)(k:Nat)(h1:k<xs.length)(h2:k<ys.length):zc p (xs.drop k) (ys.drop k)=(p xs[k] ys[k]&&zc p (xs.drop (k+1)) (ys.drop (k+1))):=by
 rw[vA h1,vA h2,zc]
theorem vu(f:FuncId):HF (.fn (.func f) [] []):=HF.fn (fun c hc=>by simp at hc) (fun c hc=>by simp at hc)
theorem JU(xs ys:List (List Rl))(fv:AV)(p:List Rl->List Rl->Bool)(hf:vt qa fv lRel (fun x y=>x∈xs/\y∈ys) p)(hl:xs.length<=1000000000) :
  qf qa 37 [lSt xs,lSt ys,fv] (aB (zc p xs ys)):=by
 refine qSQ call37 func37 rfl {} ?_;simp[go_sem];by_cases hne:xs.length=ys.length
 rotate_left
 .simp [go_sem,hne,Zc p xs ys hne]
  exact .hf _ (HF.sc _)
 simp[go_sem,hne];refine qx.up xs.length (fun k st=>st.tm 1=lSt ys/\st.tm 2=fv/\st.tm 15=lSt xs/\st.tm 16=aI xs.length/\st.tm 17=aI k/\zc p (xs.drop k) (ys.drop k)=zc p xs ys) ?_ ?_
 .simp [go_sem,hne]
 rintro k st hk ⟨e1,e2,e15,e16,e17,hi⟩;by_cases hlt:k<xs.length
 .have hlt2:k<ys.length:=by omega
  rw[JT p xs ys k hlt hlt2]at hi;simp[go_sem,e1,e2,e15,e16,e17,hlt,hlt2];refine vt.call (enc:=lRel) hf ⟨qY hlt,qY hlt2⟩ ?_;cases hp:p xs[k] ys[k] with
  |true =>
   rw[hp,Bool.true_and]at hi;simp[go_sem,e1,e2,e15,e16,e17,hlt,hlt2];exact⟨qo (by omega) (by omega),hi⟩
  |false =>
   rw[hp,Bool.false_and]at hi;simp[go_sem,e1,e2,e15,e16,e17,hlt,hlt2];rw[<-hi];exact .hf _ (HF.sc _)
 .have hge:k=xs.length:=by omega
  subst hge;rw[vC,hne,vC]at hi;simp[go_sem,e1,e2,e15,e16,e17];rw[<-hi];exact .hf _ (HF.sc _)
theorem xorU(a b:List Int)(ha:a.length<=1000000)(hb:b.length<=1000000)(hs:b.Pairwise (·<·)):qf qa 38 [lI a,lI b] (aI (xorN a b)):=by
 refine qSQ call38 func38 rfl {} ?_;have w1:qJ.wrap ((a.length:Int)+b.length)=(a.length:Int)+b.length:=qo (by omega) (by omega);simp[go_sem,w1];refine qx.up a.length (fun k st=>st.tm 1=lI b/\st.tm 5=aI ((a.length:Int)+b.length-2*(zp (a.take k) b).length)/\st.tm 15=lI a/\st.tm 16=aI a.length/\st.tm 17=aI k) ?_ ?_
 .simp [go_sem,zp]
 rintro k st hk ⟨e1,e5,e15,e16,e17⟩;by_cases hlt:k<a.length
 .have hbin:=binU b a[k] (by omega) (hs.imp fun h=>by omega)
  have htk:a.take (k+1)=a.take k++[a[k]]:=by rw[List.take_add_one,qs hlt];rfl
  have hle:(zp (a.take k) b).length<=k:=by
   have:=List.length_filter_le (fun x=>decide (x∈b)) (a.take k);rw[jZ]at this;show (List.filter _ _).length<=k;omega
  simp[go_sem,e1,e5,e15,e16,e17,hlt];refine qd.pure hbin (.cons (.hf (qT _)) (.cons (.hf (HF.sc _)) .nil)) ?_;have w2:qJ.wrap ((k:Int)+1)=((k+1:Nat):Int):=by rw[qo (by omega) (by omega)];omega
  by_cases hm:a[k]∈b
  .have hn:zp (a.take (k+1)) b=zp (a.take k) b++[a[k]]:=by
    unfold zp;rw[htk,List.filter_append,List.filter_cons];generalize List.filter (fun x=>decide (x∈b)) (a.take k)=l0;simp[hm]
   have w3:qJ.wrap ((a.length:Int)+b.length-2*(zp (a.take k) b).length-2)=(a.length:Int)+b.length-2*(zp (a.take k) b).length-2:=qo (by omega) (by omega);simp[go_sem,e1,e5,e15,e16,e17,hlt,hm,w2,w3];rw[hn,zF];simp;omega
  .have hn:zp (a.take (k+1)) b=zp (a.take k) b:=by
    unfold zp;rw[htk,List.filter_append,List.filter_cons];generalize List.filter (fun x=>decide (x∈b)) (a.take k)=l0;simp[hm]
   simp[go_sem,e1,e5,e15,e16,e17,hlt,hm,w2];rw[hn]
 .have hge:k=a.length:=by omega
  subst hge;rw[zG]at e5;simp[go_sem,e1,e5,e15,e16,e17];exact .hf _ (HF.sc _)
theorem Xr(a b:Sc)(ha:a.atoms.length<=1000000):qf qa 36 [eSc a,eSc b] (aB (decide (a.steps=b.steps)&&decide (a.atoms=b.atoms))):=by
 refine qSQ call36 func36 rfl {} ?_;simp[go_sem];by_cases h:a.steps=b.steps
 .simp [go_sem,h]
  refine qd.pure (QV a.atoms b.atoms (by omega)) (.cons (.hf (qT _)) (.cons (.hf (qT _)) .nil)) ?_;simp[go_sem,h];exact .hf _ (HF.sc _)
 .simp [go_sem,h]
  exact .hf _ (HF.sc _)
theorem Xs(x y:List Rl):qf qa 35 [lRel x,lRel y] (aB (decide (x.length=y.length))):=by
 refine qSQ call35 func35 rfl {} ?_;simp[go_sem];exact .hf _ (HF.sc _)
theorem Zd{α:Type}(f:α->α->Int):∀(xs ys:List α) (k:Nat) (h1:k<xs.length) (h2:k<ys.length),sumZ f (xs.take (k+1)) (ys.take (k+1))=sumZ f (xs.take k) (ys.take k)+f xs[k] ys[k]
 |x :: xs,y :: ys,0,_,_=>by simp[sumZ]
 |x :: xs,y :: ys,k+1,h1,h2=>by
  simp only[List.take_succ_cons,sumZ,List.getElem_cons_succ];rw[Zd f xs ys k (by simpa using h1) (by simpa using h2)];omega
 | [],_,_,h1,_=>by simp at h1
 |_ :: _,[],_,_,h2=>by simp at h2
theorem uh{α:Type}{f:α->α->Int}{M:Int}(hM:0<=M):∀(xs ys:List α),(∀ x y,x∈xs->y∈ys->-M<=f x y/\f x y<=M)->-(xs.length*M)<=sumZ f xs ys/\sumZ f xs ys<=xs.length*M
 | [],_,_=>by simp[sumZ]
 |_ :: xs,[],_=>by
  have:0<=((xs.length:Int)+1)*M:=Int.mul_nonneg (by omega) hM;simp[sumZ];omega
 |x :: xs,y :: ys,h=>by
  have h1:=h x y (by simp) (by simp);have h2:=uh hM xs ys fun a b ha hb=>h a b (by simp[ha]) (by simp[hb])
  have e:((xs.length+1:Nat):Int)*M=xs.length*M+M:=by rw[Int.natCast_add,Int.add_mul];omega
  simp only[sumZ,zN];rw[e];omega
def xorR(r q:Rl):Int:=xorN r.ts q.ts
def xorT(s t:List Rl):Int:=sumZ xorR s t
def xorS(S T:Sts):Int:=sumZ xorT S T
theorem JV{a b:List Int}(ha:a.length<=1000)(hb:b.length<=1000) : -2000<=xorN a b/\xorN a b<=2000:=by
 have:=List.length_filter_le (fun x=>decide (x∈b)) a;unfold xorN zp;omega
structure SmS (S:Sts):Prop where
 n:S.length<=1000
 f:∀ s,s∈S->s.length<=1000
 t:∀ s,s∈S->∀ r,r∈s->r.ts.length<=1000/\r.ts.Pairwise (·<·)
theorem wo{s t:List Rl}(hs:s.length<=1000)(h1:∀ r,r∈s->r.ts.length<=1000)(h2:∀ r,r∈t->r.ts.length<=1000) : -2000000<=xorT s t/\xorT s t<=2000000:=by
 have:=uh (f:=xorR) (M:=2000) (by omega) s t fun x y hx hy=>JV (h1 x hx) (h2 y hy)
 have h3:(s.length:Int)*2000<=2000000:=by omega
 unfold xorT;omega
def zx(a b:Md):Int:=if decide (a.sc.steps=b.sc.steps)&&(decide (a.sc.atoms=b.sc.atoms)&&zc (fun x y=>decide (x.length=y.length)) a.states b.states) then xorS a.states b.states+(if a.loop=b.loop then 0 else 1) else -1
theorem JW{α:Type}{p:α->α->Bool}:∀{xs ys:List α},zc p xs ys=true->xs.length=ys.length/\∀(k:Nat) (h1:k<xs.length) (h2:k<ys.length),p xs[k] ys[k]=true
 | [],[],_=>⟨rfl,fun k h1=>by simp at h1⟩
 |x :: xs,y :: ys,h=>by
  rw[zc,qe]at h;obtain⟨h1,h2⟩:=JW h.2;refine⟨by simp[h1],fun k k1 k2=>?_⟩;cases k with
  |zero=>exact h.1
  |succ k=>exact h2 k (by simpa using k1) (by simpa using k2)
 | [],_ :: _,h=>by simp[zc]at h
 |_ :: _,[],h=>by simp[zc]at h
theorem ui(a b:Md)(ga:SmS a.states)(gb:SmS b.states)(hna:a.sc.atoms.length<=1000000):qf qa 12 [eMd a,eMd b] (aI (zx a b)):=by
 generalize hR:zx a b=R;unfold zx at hR;refine qSQ call12 func12 rfl {} ?_;simp[go_sem];refine qd.pure (Xr a.sc b.sc hna) (.cons (.hf (qU _)) (.cons (.hf (qU _)) .nil)) ?_;by_cases h1:a.sc.steps=b.sc.steps
 case neg =>
  simp[h1]at hR;subst hR;simp[go_sem,h1];exact .hf _ (HF.sc _)
 by_cases h2:a.sc.atoms=b.sc.atoms
 case neg =>
  simp[h2]at hR;subst hR;simp[go_sem,h1,h2];exact .hf _ (HF.sc _)
 simp[go_sem,h1,h2];refine qd.pure (JU a.states b.states _ (fun x y=>decide (x.length=y.length)) ⟨vu _,_,_,rfl,fun x y hxy=>⟨[lRel x,lRel y],by simpa using WKs.cons (.hf (ju x)) (.cons (.hf (ju y)) .nil),Xs x y⟩⟩ (by have:=ga.n;omega)) (.cons (.hf (vr _)) (.cons (.hf (vr _)) (.cons (.hf (vu _)) .nil))) ?_;cases h3:zc (fun x y=>decide (x.length=y.length)) a.states b.states with
 |false =>
  simp[h3]at hR;subst hR;simp[go_sem,h3];exact .hf _ (HF.sc _)
 |true =>
  simp[h1,h2,h3]at hR;obtain⟨hlen,hrow⟩:=JW h3;have hn:=ga.n;simp[go_sem,h3];refine qx.up a.states.length (fun k st=>st.tm 2 = .ip (cMd a)/\st.tm 3 = .ip (cMd b)/\st.tm 6=aI (xorS (a.states.take k) (b.states.take k))/\st.tm 27=lSt a.states/\st.tm 28=aI a.states.length/\st.tm 29=aI k) ?_ ?_
  .simp [go_sem,xorS,sumZ]
  rintro k st hk ⟨e2,e3,e6,e27,e28,e29⟩;by_cases hlt:k<a.states.length
  .have hlt2:k<b.states.length:=by omega
   have hl:=of_decide_eq_true (hrow k hlt hlt2);have hsa:=ga.f _ (qY hlt);have hta:=ga.t _ (qY hlt);have htb:=gb.t _ (qY hlt2);have hD : -(2000000000:Int)<=xorS (a.states.take k) (b.states.take k)/\xorS (a.states.take k) (b.states.take k)<=2000000000:=by
    have:=uh (f:=xorT) (M:=2000000) (by omega) (a.states.take k) (b.states.take k) fun x y hx hy=>wo (ga.f x (yb hx)) (fun r hr=>(ga.t x (yb hx) r hr).1) (fun r hr=>(gb.t y (yb hy) r hr).1)
    rw[jZ]at this;have h5:((min k a.states.length:Nat):Int)*2000000<=2000000000:=by omega
    unfold xorS;omega
   generalize hDD:xorS (a.states.take k) (b.states.take k)=D at *
   simp[go_sem,e2,e3,e6,e27,e28,e29,hlt];refine qx.up a.states[k].length (fun j st=>st.tm 2 = .ip (cMd a)/\st.tm 3 = .ip (cMd b)/\st.tm 6=aI (D+xorT (a.states[k].take j) (b.states[k].take j))/\st.tm 7=aI k/\st.tm 27=lSt a.states/\st.tm 28=aI a.states.length/\st.tm 29=aI k/\st.tm 34=lRel a.states[k]/\st.tm 35=aI a.states[k].length/\st.tm 36=aI j) ?_ ?_
   .simp [go_sem,e2,e3,e6,e27,e28,e29,xorT,sumZ]
   rintro j st hj ⟨e2,e3,e6,e7,e27,e28,e29,e34,e35,e36⟩;by_cases hjt:j<a.states[k].length
   .have hjt2:j<b.states[k].length:=by omega
    have hx:=xorU a.states[k][j].ts b.states[k][j].ts (by have:=(hta _ (qY hjt)).1;omega) (by have:=(htb _ (qY hjt2)).1;omega) (htb _ (qY hjt2)).2;simp[go_sem,e2,e3,e6,e7,e27,e28,e29,e34,e35,e36,hjt];refine qI.intro (by kernel_rfl) ?_;simp[go_sem,e2,e3,e6,e7,e27,e28,e29,e34,e35,e36,hjt,hjt2,hlt2];refine qd.pure hx (.cons (.hf (qT _)) (.cons (.hf (qT _)) .nil)) ?_;simp[go_sem,e2,e3,e6,e7,e27,e28,e29,e34,e35,e36,hjt,hjt2,hlt2];have hs:=Zd xorR a.states[k] b.states[k] j hjt hjt2;have hb1:=wo (s:=a.states[k].take j) (t:=b.states[k].take j) (by rw[jZ];omega) (fun r hr=>(hta r (yb hr)).1) (fun r hr=>(htb r (yb hr)).1);have hb2:=JV (hta _ (qY hjt)).1 (htb _ (qY hjt2)).1;refine⟨?_,qo (by omega) (by omega)⟩;rw[qo (by omega) (by omega)];unfold xorT at *
    rw[hs];unfold xorR;omega
   .have hge:j=a.states[k].length:=by omega
    subst hge;simp[go_sem,e2,e3,e6,e7,e27,e28,e29,e34,e35,e36];have hs:=Zd xorT a.states b.states k hlt hlt2;refine⟨hlt,?_,qo (by omega) (by omega)⟩;unfold xorS at *
    rw[hs,hDD,zA (l:=b.states[k]) (by omega)]
  .have hge:k=a.states.length:=by omega
   subst hge;rw[zA (l:=a.states) (qu _),zA (l:=b.states) (by omega)]at e6;have hD : -(2000000000:Int)<=xorS a.states b.states/\xorS a.states b.states<=2000000000:=by
    have:=uh (f:=xorT) (M:=2000000) (by omega) a.states b.states fun x y hx hy=>wo (ga.f x hx) (fun r hr=>(ga.t x hx r hr).1) (fun r hr=>(gb.t y hy r hr).1)
    have h5:(a.states.length:Int)*2000000<=2000000000:=by omega
    unfold xorS;omega
   simp[go_sem,e2,e3,e6,e27,e28,e29];by_cases h6:a.loop=b.loop
   .rw [if_pos h6]at hR
    simp[go_sem,e2,e3,e6,e27,e28,e29,h6];rw[<-hR,Int.add_zero];exact .hf _ (HF.sc _)
   .rw [if_neg h6]at hR
    have w1:qJ.wrap (xorS a.states b.states+1)=xorS a.states b.states+1:=qo (by omega) (by omega);simp[go_sem,e2,e3,e6,e27,e28,e29,h6,w1];rw[<-hR];exact .hf _ (HF.sc _)
end GD
namespace EZ
end EZ
namespace Y10
end Y10
namespace Y11
open Y1 Y2 P1
def cKo:Option Kd->List AV
 |some k=>cKd k
 |none=>[aI 0,.sc (.map none)]
@[go_sem] theorem cKo_some(k:Kd):cKo (some k)=cKd k:=rfl
@[go_sem] theorem cKo_none:cKo none=[aI 0,.sc (.map none)]:=rfl
def endK:Res->AEnd
 | .ok k => .ret (.agg (cKo k))
 | .error e => .pan (wh e.1 e.2)
@[go_sem] theorem endK_ok(k:Option Kd):endK (.ok k) = .ret (.agg (cKo k)):=rfl
@[go_sem] theorem kW(e:Dg):endK (.error e) = .pan (wh e.1 e.2):=rfl
end Y11
namespace Y12
end Y12
namespace P2
end P2
namespace EA
end EA
namespace F2
end F2
namespace F3
end F3
namespace F4
open E3 EO F1
theorem Own.one{sz:Nat}{mu:Mu}{av:AV}{xs:List (List AV)}(h:Own mu sz av xs):av.one=true:=by
 rcases h with rfl|⟨b,rfl,_⟩<;>rfl
theorem Own.cells{sz:Nat}{mu:Mu}{av:AV}{xs:List (List AV)}(h:Own mu sz av xs):av.cells=[av]:=by
 rcases h with rfl|⟨b,rfl,_⟩<;>rfl
theorem Own.push{sz:Nat}{mu:Mu}{av:AV}{xs:List (List AV)}(h:Own mu sz av xs)(c:List Cell):Own (mu++c) sz av xs:=by
 rcases h with rfl|⟨b,rfl,hc⟩
 .exact .inl rfl
 .exact .inr ⟨b,rfl,by rw[qh (qc.1 hc).1];exact hc⟩
theorem Own.set{sz:Nat}{mu:Mu}{av:AV}{xs:List (List AV)}(h:Own mu sz av xs){i:Nat}(c:Cell)(hi:qj av≠some i):Own (mu.set i c) sz av xs:=by
 rcases h with rfl|⟨b,rfl,hc⟩
 .exact .inl rfl
 .exact .inr ⟨b,rfl,by rw[q9 (fun e=>hi (by rw[e];rfl))];exact hc⟩
theorem Own.lt{sz:Nat}{mu:Mu}{av:AV}{xs:List (List AV)}(h:Own mu sz av xs){b:Nat}(hb:qj av=some b):b<mu.length:=by
 rcases h with rfl|⟨b',rfl,hc⟩
 .cases hb
 .cases hb;exact(qc.1 hc).1
theorem qD.ownB{P:Program}{mu:Mu}{t t' e sz bt:Nat}{s x:AV}{xs ys:List (List AV)}{zv:AV}{K:AV->Mu->Prop}(hs:qp P t=some (e,sz,bt))(hs':(qp P t').isSome=true)(hz:qn P e=some zv)
  (hz1:zv.cells.length=sz) (hz2:zv.cells.all AV.one=true) (hz0:sz≠0) (hb:bt<=16384) (ho:Own mu sz s xs) (hx:qZ mu x=some ys) (wx:qK sz xs) (wy:qK sz ys) (hl:xs.length+ys.length<=4294967296)
  (k:∀ av mu',Own mu' sz av (xs++ys)->(∀ i,i<mu.length->qj s≠some i->mu'[i]?=mu[i]?)->(∀ b,qj av=some b->b=mu.length)->mu.length<=mu'.length->K av mu'):qD P mu #[t,t'] s x K:=by
 refine .inl ?_;refine⟨t,t',e,sz,bt,ys,rfl,hs,hs',⟨zv,hz,hz1,hz2⟩,hz0,hb,hx,wy,?_⟩;rcases ho with rfl|⟨b,rfl,hc⟩
 .refine .inl ⟨xs,rfl,wx,hl,fun h=>?_,fun h=>?_⟩
  .subst h
   exact k _ _ (.inl (by simp)) (fun _ _ _=>rfl) (fun b h=>by cases h) (qu _)
  .refine k _ _ (.inr ⟨mu.length,by simp,by simp⟩) (fun i hi _=>?_) (fun b h=>by cases h;rfl) (by simp)
   rw[qh hi]
 .have hfl:=zd wx.ok
  refine .inr ⟨b,xs.length,xs.flatten,rfl,hc,by omega,hl,?_⟩;have htk:xs.flatten.take (xs.length*sz)=xs.flatten:=zA (by omega);refine k _ _ (.inr ⟨mu.length,by simp,?_⟩) (fun i hi hne=>?_) (fun b h=>by cases h;rfl) (by simp)
  .rw [htk,qB (by simp)];simp
  .rw [qh (by simpa using hi)]
   rw[q9 (fun e=>hne (by rw[e];rfl))]
theorem FzQ.ownB{Q:qv->St->Prop}{i d sz:Nat}{av:AV}{xs:List (List AV)}{st:St}(hd:st.tm d=av)(ho:Own st.mu sz av xs)(wf:qK sz xs)(hf:∀ r,r∈xs->∀ c,c∈r->HF c)
  (k:∀ mu' full,mu'.length=st.mu.length->(∀ j,qj av≠some j->mu'[j]?=st.mu[j]?)->Q (.exit i) (st.put (some d) (.lst full xs) mu')):FzQ Q (.exit i) st:=by
 rcases ho with h|⟨b,h,hc⟩
 .refine FzQ.one (b:=st.mu.length) (d:=d) (x := .lst true xs) ?_ (k _ _ (yG _ _ _) fun j hj=>?_)
  .rw [hd,h]
   exact .hf _ (HF.lst hf)
  .by_cases hjl:j=st.mu.length
   .rw [hjl,ym (by rw[yG];exact qu _),ym (qu _)]
   .exact wb hjl _
 .refine FzQ.one (b:=b) (d:=d) (x := .lst false xs) ?_ (k _ _ (yG _ _ _) fun j hj=>wb (fun e=>hj (by rw[h,e];rfl)) _)
  rw[hd];exact Own.rd (.inr ⟨b,h,by rw[QM];exact hc⟩) wf.ok hf
abbrev rB(b:Bool):List AV:=[aB b]
def endL:XE (List Bool)->AEnd
 | .ok l => .ret (lB l)
 | .error e => .pan (errV e)
@[go_sem] theorem endL_ok(l:List Bool):endL (.ok l) = .ret (lB l):=rfl
@[go_sem] theorem endL_err(e:Int):endL (.error e) = .pan (errV e):=rfl
end F4
namespace F5
end F5
namespace F6
end F6
namespace F7
end F7
namespace F8
end F8
namespace E8
end E8
namespace EB
end EB
namespace EK
end EK
namespace F9
end F9
namespace FA
end FA
namespace FB
end FB
namespace FC
end FC
namespace E9
theorem Xt(sc:Sc)(g:GSc sc):qf qa 10 [eSc sc] (aI (sumI sc.atoms)):=by
 refine qSQ call10 func10 rfl {} ?_;simp[go_sem];refine qx.up sc.atoms.length (fun k st=>st.tm 1 = .ip [lI sc.atoms,aI sc.steps]/\st.tm 3=aI (sumI (sc.atoms.take k))/\st.tm 4=aI k/\st.mu=[]) ?_ ?_
 .simp [go_sem,sumI]
 rintro k st hk ⟨h1,h3,h4,hm⟩;have hl:=g.1;simp[go_sem,h1,h3,h4,hm];refine BrS.intro (fun hlt=>?_) (fun hge=>?_)
 .have hlt:k<sc.atoms.length:=by simpa using hlt
  have hs:=jg sc.atoms k hlt;have hb':=g.sum (k+1);rw[hs]at hb';simp[go_sem,h1,h3,h4,hm,hlt];exact⟨by rw[hs,qo (by omega) (by omega)],qo (by omega) (by omega)⟩
 .have hge:k=sc.atoms.length:=by simp at hge;omega
  subst hge;simp[go_sem,h1,h3,h4,hm];exact .hf _ (HF.sc _)
def jT:List Int->Int->Int->Int
 | [],_,_ => -1
 |a :: l,x,i=>if x<a then i else jT l (x-a) (i+1)
def jw(sc:Sc)(x:Int):Int:=jT sc.atoms x 0
theorem JY(l:List Int)(k:Nat)(x i:Int)(h:k<l.length):jT (l.drop k) x i=if x<l[k] then i else jT (l.drop (k+1)) (x-l[k]) (i+1):=by
 rw[vA h,jT]
def divN(n x:Int):Nat->Int
 | 0=>x
 |j+1=>divN n x j / n
theorem wq{α:Type}{l:List α}{p:α->Bool}:l.all p=true↔∀(i:Nat) (h:i<l.length),p l[i]=true:=by
 rw[qt];refine⟨fun h i hi=>h _ (qY hi),fun h a ha=>?_⟩;obtain⟨i,hi,rfl⟩:=List.getElem_of_mem ha;exact h i hi
theorem wt{α:Type}{l:List α}{p:α->Bool}{i:Nat}(h:i<l.length)(hp:p l[i]=false):l.all p=false:=by
 rw[<-Bool.not_eq_true,wq];intro h';have:=h' i h;simp[hp]at this
end E9
namespace Y13
open Y1 Y2 P1
def endC:Res->AEnd
 | .ok _ => .ret (.tup [])
 | .error e => .pan (wh e.1 e.2)
@[go_sem] theorem endC_ok(k:Option Kd):endC (.ok k) = .ret (.tup []):=rfl
@[go_sem] theorem kX(e:Dg):endC (.error e) = .pan (wh e.1 e.2):=rfl
end Y13
namespace Y14
end Y14
namespace Y15
end Y15
namespace Y16
end Y16
namespace YU
open Go.RowKit
end YU
namespace YV
end YV
namespace YW
end YW
namespace YX
end YX
namespace Q1
end Q1
namespace Q2
end Q2
namespace Q3
end Q3
namespace Q4
end Q4
namespace Q5
end Q5
namespace Q6
end Q6
namespace Q7
end Q7
namespace Q8
def fldB(ns:Nat)(f:Fld):Bool:=decide (1<=f.sorts.length)&&decide (f.sorts.length<=3)&&f.sorts.all fun x=>decide (0<=x)&&decide (x<ns)
end Q8
namespace FD
end FD
namespace GF
open E1 EO EW F4 GD
abbrev rP(p:Int×Int):List AV:=[aI p.1,aI p.2]
abbrev lP(ps:List (Int×Int)):AV := .lst false (ps.map rP)
theorem Ze(xs:List (Int×Int)):qK 2 (xs.map rP):=fun r hr=>by
 obtain⟨n,_,rfl⟩:=qr.1 hr;exact⟨rfl,rfl⟩
abbrev eBd(b:Bd):AV := .agg (cBd b)
theorem JZ(b:Bd):∀ c,c∈cBd b->HF c:=by
 intro c hc;simp at hc;rcases hc with rfl|rfl|rfl|rfl
 .exact HF.sc _
 .exact qT _
 .exact HF.sc _
 .exact qT _
theorem Xu(b:Bd):HF (eBd b):=HF.agg (JZ b)
theorem Xv(x:Bd):qf qa 174 [eBd x] (.fn (.func 206) [] [.ip (cBd x)]):=by
 refine qSQ call174 func174 rfl {} ?_;simp[go_sem];refine .hf _ (HF.fn (fun c hc=>by simp at hc) (fun c hc=>?_));simp at hc;subst hc;exact HF.ip (JZ x)
def vw(x:Bd):List Int:=x.up.ts.filter fun t=>!decide (t∈x.lo.ts)
theorem Xw{α:Type}(p:α->Bool)(l:List α)(k:Nat)(h:k<l.length)(hp:p l[k]=true):(l.filter p)[((l.take k).filter p).length]?=some l[k]:=by
 have e:l=l.take k++l[k] :: l.drop (k+1):=by
  rw[<-vA h,uq]
 have e2:l.filter p=(l.take k).filter p++l[k] :: (l.drop (k+1)).filter p:=by
  conv=>lhs;rw[e]
  rw[List.filter_append,List.filter_cons,if_pos hp]
 rw[e2,qB (qu _)];simp
theorem Xx{α:Type}(p:α->Bool)(l:List α)(k:Nat)(h:k<l.length):((l.take (k+1)).filter p).length=((l.take k).filter p).length+(if p l[k]=true then 1 else 0):=by
 rw[List.take_add_one,qs h,List.filter_append];cases hp:p l[k]<;>simp[hp]
theorem Xy(x:Bd)(hl:x.up.ts.length<=1000000000)(hl2:x.lo.ts.length<=1000000000)(hs:x.lo.ts.Pairwise (·<=·)):zS qa 206 [.ip (cBd x)] ((vw x).map fun t=>[aI t]):=by
 refine zS.of call206 fun i I Ix hS hX hY mu h0=>?_
 refine qSW call206 func206 rfl {} ?_;simp[go_sem];refine qx.keep (fun m st=>∃ k,m=x.up.ts.length-k/\k<=x.up.ts.length/\st.tm 0 = .yl i/\st.tm 1 = .ip (cBd x)/\st.tm 9=lI x.up.ts/\st.tm 10=aI x.up.ts.length/\st.tm 11=aI (k:Nat)/\I ((x.up.ts.take k).filter fun t=>!decide (t∈x.lo.ts)).length st.mu) x.up.ts.length ?_ ?_
 .exact ⟨0,by omega,by omega,by simp[go_sem],by simp[go_sem],by simp[go_sem],by simp[go_sem],by simp[go_sem],by simpa[go_sem] using h0⟩
 rintro m st ⟨k,rfl,hk,e0,e1,e9,e10,e11,hI⟩;by_cases hlt:k<x.up.ts.length
 .simp [go_sem,e0,e1,e9,e10,e11,hlt]
  refine qd.pure (binU x.lo.ts x.up.ts[k] hl2 hs) (.cons (.hf (qT _)) (.cons (.hf (HF.sc _)) .nil)) ?_;have hsucc:=Xx (fun t=>!decide (t∈x.lo.ts)) x.up.ts k hlt;by_cases hin:x.up.ts[k]∈x.lo.ts
  .simp [go_sem,e0,e1,e9,e10,e11,hlt,hin]
   rw[if_neg (by simpa using hin),Nat.add_zero]at hsucc;refine Keep.loop (x.up.ts.length-(k+1)) (by omega) ⟨k+1,rfl,by omega,by simp[go_sem,e0],by simp[go_sem,e1],by simp[go_sem,e9],by simp[go_sem,e10],?_,?_⟩
   .simp [go_sem];exact qo (by omega) (by omega)
   .rw [hsucc];simpa[go_sem] using hI
  .simp [go_sem,e0,e1,e9,e10,e11,hlt,hin]
   rw[if_pos (by simpa using hin)]at hsucc;have hget:((vw x).map fun t=>[aI t])[((x.up.ts.take k).filter fun t=>!decide (t∈x.lo.ts)).length]?=some [aI x.up.ts[k]]:=by
    rw[qW,vw,Xw _ _ k hlt (by simpa using hin)];rfl
   refine qd.yield (hY _ _ _ hget hI) ?_;rintro b mu' (⟨rfl,hI'⟩|⟨rfl,hx'⟩)
   .simp [go_sem,e0,e1,e9,e10,e11,hlt,hin]
    refine Keep.loop (x.up.ts.length-(k+1)) (by omega) ⟨k+1,rfl,by omega,by simp[go_sem,e0],by simp[go_sem,e1],by simp[go_sem,e9],by simp[go_sem,e10],?_,?_⟩
    .simp [go_sem];exact qo (by omega) (by omega)
    .rw [hsucc];simpa[go_sem] using hI'
   .simp [go_sem,e0,e1,e9,e10,e11,hlt,hin]
    exact .inr hx'
 .have hge:k=x.up.ts.length:=by omega
  subst hge;rw[zG]at hI;simp[go_sem,e0,e1,e9,e10,e11];exact .inl hI
def zD(k:Nat)(x:Bd):List (Int×Int):=(vw x).map fun t=>((k:Int),t)
def q6:List Bd->Nat->List (Int×Int)
 | [],_=>[]
 |x :: l,k=>zD k x++q6 l (k+1)
theorem J0:∀(l m:List Bd) (k:Nat),q6 (l++m) k=q6 l k++q6 m (k+l.length)
 | [],m,k=>by simp[q6]
 |x :: l,m,k=>by
  rw[z9,q6,q6,J0 l m (k+1),zW];have:k+1+l.length=k+(x :: l).length:=by simp;omega
  rw[this]
theorem Xz(l:List Bd)(k:Nat)(h:k<l.length):q6 (l.take (k+1)) 0=q6 (l.take k) 0++zD k l[k]:=by
 rw[List.take_add_one,qs h];show q6 (l.take k++[l[k]]) 0=_;rw[J0];have:(l.take k).length=k:=by simp;omega
 rw[this,zX];simp[q6]
structure J1 (x:Bd):Prop where
 up:x.up.ts.length<=1000000
 lo:x.lo.ts.length<=1000000
 sorted:x.lo.ts.Pairwise (·<=·)
theorem J2:∀(l:List Bd) (k:Nat),(∀ x,x∈l->J1 x)->(q6 l k).length<=l.length*1000000
 | [],k,_=>by simp[q6]
 |x :: l,k,h=>by
  have h1:=J2 l (k+1) (fun y hy=>h y (by simp[hy]));have h2:(zD k x).length<=1000000:=by
   rw[zD,zr];exact zt (List.length_filter_le _ _) (h x (by simp)).up
  simp only[q6,zF,zN];omega
theorem Own.rdP2{mu:Mu}{av:AV}{xs:List (Int×Int)}(h:Own mu 2 av (xs.map rP)):Rd mu av (lP xs):=
 h.rd (Ze xs).ok fun r hr c hc=>by
  obtain⟨n,_,rfl⟩:=qr.1 hr;simp at hc;rcases hc with rfl|rfl<;>exact HF.sc _
theorem freeU(bs:List Bd)(hl:bs.length<=1000)(hb:∀ x,x∈bs->J1 x):qf qa 146 [lBd bs] (lP (q6 bs 0)):=by
 refine qSQ call146 func146 rfl {} ?_;simp[go_sem];refine qx.keep (fun m st=>∃ k av rest,m=bs.length-k/\k<=bs.length/\st.tm 3 = .ptr 0 0/\st.tm 7=lBd bs/\st.tm 8=aI bs.length/\st.tm 9=aI (k:Nat)/\st.mu = .arr [av] :: rest/\Own st.mu 2 av ((q6 (bs.take k) 0).map rP)/\qj av≠some 0) bs.length ?_ ?_
 .refine ⟨0,.lst true [],[],by omega,by omega,by simp[go_sem],by simp[go_sem],by simp[go_sem],by simp[go_sem],by simp[go_sem],?_,by simp[qj]⟩
  simp[go_sem,q6];exact .inl rfl
 rintro m st ⟨k,av,rest,rfl,hk,e3,e7,e8,e9,hm,ho,hn0⟩;by_cases hlt:k<bs.length
 .have hx:=hb _ (qY hlt)
  have hlen:(q6 (bs.take (k+1)) 0).length<=1000000000:=by
   have:=J2 (bs.take (k+1)) 0 (fun y hy=>hb y (yb hy));have h2:(bs.take (k+1)).length<=1000:=by simp;omega
   have h3:=Nat.mul_le_mul_right 1000000 h2;omega
  have hsucc:=Xz bs k hlt;rw[hm]at ho;have hnc:qj av≠some (rest.length+1):=fun h=>by have:=Own.lt ho h;simp at this
  simp[go_sem,e3,e7,e8,e9,hm,hlt];refine qd.pure (Xv bs[k]) (.cons (.hf (Xu _)) .nil) ?_;simp[go_sem,e3,e7,e8,e9,hm,hlt];refine yY.keep (Xy bs[k] (by have:=hx.up;omega) (by have:=hx.lo;omega) hx.sorted) (fun j M=>∃ av rest2,M = .arr [av] :: rest2/\M[rest.length+1]?=some (.arr [aI k])/\Own M 2 av ((q6 (bs.take k) 0++(zD k bs[k]).take j).map rP)/\qj av≠some 0/\qj av≠some (rest.length+1)) (fun _ _=>False) ?_ ?_ ?_ ?_ ?_ ?_
  .refine ⟨av,_,by simp only[uW,z9];rfl,by simp[go_sem],?_,hn0,hnc⟩
   have:=Own.push ho [Cell.arr [aI k],Cell.arr (cBd bs[k]),.dead];simpa[go_sem] using this
  .rintro j M ⟨av,rest2,rfl,h1,h2,h3,h4⟩
   exact⟨av,rest2++[.dead],rfl,by rw[qh (qc.1 h1).1];exact h1,Own.push h2 _,h3,h4⟩
  .intro e M h;exact h
  .rintro j x M hj ⟨av,rest2,rfl,h1,h2,h3,h4⟩
   rw[qW,zj]at hj;obtain⟨t,ht,rfl⟩:=hj;have hjl:j<(vw bs[k]).length:=(qc.1 ht).1;have hfa:(zD k bs[k]).take (j+1)=(zD k bs[k]).take j++[((k:Int),t)]:=by
    rw[List.take_add_one];have:(zD k bs[k])[j]?=some ((k:Int),t):=by rw[zD,qW,ht];rfl
    rw[this];rfl
   have hlj:(q6 (bs.take k) 0++(zD k bs[k]).take j).length<=1000000000:=by
    have:(q6 (bs.take k) 0++(zD k bs[k]).take j).length<=(q6 (bs.take (k+1)) 0).length:=by
     rw[hsucc,zF,zF,jZ];omega
    omega
   refine⟨rfl,?_⟩;have hcl:=(qc.1 h1).1;have h1':=h1;simp at h1';simp[go_sem,e3,e7,e8,e9,h1'];refine qD.ownB (e:=198) (sz:=2) (bt:=16) (zv := .agg [aI 0,aI 0]) (xs:=(q6 (bs.take k) 0++(zD k bs[k]).take j).map rP) (ys:=[rP ((k:Int),t)]) (by simp[go_sem]) (by simp[go_sem]) (by simp[go_sem]) rfl rfl (by omega) (by omega) h2 (by simp[qZ]) (Ze _) (Ze [((k:Int),t)]) (by simp at hlj⊢;omega) ?_;intro av' mu' ho' hs' hb' hl';have hm0:=hs' 0 (by simp) h3;have hmc:=hs' (rest.length+1) hcl h4;rw[h1]at hmc;obtain⟨rest3,rfl⟩:∃ rest3,mu' = .arr [av] :: rest3:=by
    cases mu' with
    |nil=>simp at hm0
    |cons c r=>simp at hm0;exact⟨r,by rw[hm0]⟩
   have hn0':qj av'≠some 0:=fun h=>by have:=hb' _ h;simp at this
   have hnc':qj av'≠some (rest.length+1):=fun h=>by have:=hb' _ h;omega
   have ho2:=Own.set ho' (i:=0) (.arr [av']) hn0';have hcat:(q6 (bs.take k) 0++(zD k bs[k]).take j).map rP++[rP ((k:Int),t)]=(q6 (bs.take k) 0++(zD k bs[k]).take (j+1)).map rP:=by
    rw[hfa,<-zW,yC (l₂:=[((k:Int),t)])];rfl
   rw[hcat]at ho2;simp[go_sem,e3,e7,e8,e9,h1',Own.one ho',Own.cells ho'];exact ji.intro ⟨av',rest3,rfl,by simpa using hmc,by simpa using ho2,hn0',hnc'⟩
  .rintro M ⟨av,rest2,rfl,h1,h2,h3,h4⟩
   have hfull:(zD k bs[k]).take ((vw bs[k]).map fun t=>[aI t]).length=zD k bs[k]:=by
    rw[zr,zA (by rw[zD,zr];exact qu _)]
   rw[hfull,<-hsucc]at h2;simp[go_sem,e3,e7,e8,e9];refine Keep.loop (bs.length-(k+1)) (by omega) ⟨k+1,av,rest2,rfl,by omega,by simp[go_sem,e3],by simp[go_sem,e7],by simp[go_sem,e8],?_,by simp[go_sem],by simpa[go_sem] using h2,h3⟩;simp[go_sem];exact qo (by omega) (by omega)
  .intro e M h;exact h.elim
 .have hge:k=bs.length:=by omega
  subst hge;rw[zG,hm]at ho;simp[go_sem,e3,e7,e8,e9,hm];exact Own.rdP2 ho
end GF
namespace GH
open P1 YF E3 EO EW F1 F4 GF GG
abbrev lMd(l:List Md):AV := .lst false (l.map cMd)
theorem Zf(xs:List Md):qK 4 (xs.map cMd):=fun r hr=>by
 obtain⟨n,_,rfl⟩:=qr.1 hr;exact⟨rfl,rfl⟩
theorem Zg:∀(r c x:List (List AV)),x∈subL c r->∀ y,y∈x->y∈c\/y∈r
 | [],c,x,h,y,hy=>by rw[subL,qV]at h;subst h;exact .inl hy
 |z :: r,c,x,h,y,hy=>by
  rw[subL,qy]at h;rcases h with h|h
  .rcases Zg r c x h y hy with h|h
   .exact .inl h
   .exact .inr (by simp[h])
  .rcases Zg r _ x h y hy with h|h
   .rcases qy.1 h with h|h
    .exact .inl h
    .rw [qV]at h;subst h;exact .inr (by simp)
   .exact .inr (by simp[h])
def z7(inst:Nat->List (List AV)->Md)(cs:List (List AV))(k:Nat):List Md:=(qg k).flatMap fun s=>(subL [] cs).map (inst s)
theorem Zh(inst:Nat->List (List AV)->Md)(cs:List (List AV))(k:Nat):z7 inst cs (k+1)=z7 inst cs k++(subL [] cs).map (inst k):=by
 unfold z7;rw[List.range_succ,List.flatMap_append];simp
theorem Zi(inst:Nat->List (List AV)->Md)(cs:List (List AV)):∀ k,(z7 inst cs k).length=k*(subL [] cs).length
 | 0=>by simp[z7]
 |k+1=>by rw[Zh,zF,Zi inst cs k,zr,Nat.succ_mul]
theorem Own.rdMd{mu:Mu}{av:AV}{xs:List Md}(h:Own mu 4 av (xs.map cMd)):Rd mu av (lMd xs):=
 h.rd (Zf xs).ok fun r hr c hc=>by
  obtain⟨n,_,rfl⟩:=qr.1 hr;simp at hc;rcases hc with rfl|rfl|rfl|rfl<;>first|exact HF.sc _|exact qT _|exact vr _
theorem XA(ts:TS)(sc:Sc)(bs:List Bd)(cs:List (List AV))(inst:Nat->List (List AV)->Md)(S:Nat)(hS:sc.steps=S)(hS4:S<=4)(hr:jv cs)(hl:cs.length<=14)(hbig:S*(subL [] cs).length<=1000000)
  (hsh:S*2 ^ cs.length<=16384)
  (h1:qf qa 87 [eTS ts,eSc sc] (aB true)) (h2:qf qa 131 [eTS ts,eSc sc,lBd bs] (aB true)) (h3:qf qa 132 [eTS ts,eSc sc,lBd bs] (.lst false cs))
  (hi:∀ k,k<S->∀ c,c∈subL [] cs->qf qa 134 [eTS ts,eSc sc,lBd bs,aI (k:Nat),.lst false c] (eMd (inst k c))):qf qa 115 [eTS ts,eSc sc,lBd bs] (.tup [lMd (z7 inst cs S),aI 0]):=by
 refine qSQ call115 func115 rfl {} ?_;simp[go_sem];refine qd.pure h1 (.cons (.hf (yM _)) (.cons (.hf (qU _)) .nil)) ?_;simp[go_sem];refine qd.pure h2 (.cons (.hf (yM _)) (.cons (.hf (qU _)) (.cons (.hf (QL _)) .nil))) ?_;simp[go_sem];refine qd.pure h3 (.cons (.hf (yM _)) (.cons (.hf (qU _)) (.cons (.hf (QL _)) .nil))) ?_;have n14:¬(14:Int)<cs.length:=by omega
 have n0:¬(cs.length:Int)<0:=by omega
 have nm:min cs.length 64=cs.length:=by omega
 have hsh2:(S:Int)*2 ^ cs.length<=16384:=by exact_mod_cast hsh
 have hsh0:(0:Int)<=(S:Int)*2 ^ cs.length:=by exact_mod_cast Nat.zero_le _
 have wsh:qJ.wrap ((S:Int)*2 ^ cs.length)=(S:Int)*2 ^ cs.length:=qo (by omega) (by omega);have nsh:¬(16384:Int)<(S:Int)*2 ^ cs.length:=by omega
 simp[go_sem,n14,hS,n0,nm,wsh,nsh];refine qx.keep (fun m st=>∃ k av rest,m=S-k/\k<=S/\st.tm 3 = .ip (cTS ts)/\st.tm 4 = .ip [lI sc.atoms,aI sc.steps]/\st.tm 5 = .ip [lBd bs]/\st.tm 8 = .lst false cs/\st.tm 9 = .ptr 0 0/\st.tm 39=aI S/\st.tm 40=aI (k:Nat)/\st.mu = .arr [av] :: rest/\Own st.mu 4 av ((z7 inst cs k).map cMd)/\qj av≠some 0) S ?_ ?_
 .refine ⟨0,.lst true [],[],by omega,by omega,by simp[go_sem],by simp[go_sem,hS],by simp[go_sem],by simp[go_sem],by simp[go_sem],by simp[go_sem],by simp[go_sem],by simp[go_sem],?_,by simp[qj]⟩
  simp[go_sem,z7];exact .inl rfl
 rintro m st ⟨k,av,rest,rfl,hk,e3,e4,e5,e8,e9,e39,e40,hm,ho,hn0⟩;by_cases hlt:k<S
 .have hll:=Zi inst cs (k+1)
  have hmul:=Nat.mul_le_mul_right (subL [] cs).length (show k+1<=S by omega);have hsucc:=Zh inst cs k;rw[hm]at ho;have hnc:qj av≠some (rest.length+1):=fun h=>by have:=Own.lt ho h;simp at this
  simp[go_sem,e3,e4,e5,e8,e9,e39,e40,hm,hlt];refine qd.pure (Xk cs hr) (.cons (.hf (HF.lst fun r hr' x hx=>(hr r hr').2.2 x hx)) .nil) ?_;simp[go_sem,e3,e4,e5,e8,e9,e39,e40,hm,hlt];refine yY.keep (Xj cs hr (by omega)) (fun j M=>∃ av rest2,M = .arr [av] :: rest2/\M[rest.length+1]?=some (.arr [aI k])/\Own M 4 av ((z7 inst cs k++((subL [] cs).map (inst k)).take j).map cMd)/\qj av≠some 0/\qj av≠some (rest.length+1)) (fun _ _=>False) ?_ ?_ ?_ ?_ ?_ ?_
  .refine ⟨av,_,by simp only[uW,z9];rfl,by simp[go_sem],?_,hn0,hnc⟩
   have:=Own.push ho [Cell.arr [aI k],.dead];simpa[go_sem] using this
  .rintro j M ⟨av,rest2,rfl,h1,h2,h3,h4⟩
   exact⟨av,rest2++[.dead],rfl,by rw[qh (qc.1 h1).1];exact h1,Own.push h2 _,h3,h4⟩
  .intro e M h;exact h
  .rintro j x M hj ⟨av,rest2,rfl,h1,h2,h3,h4⟩
   rw[qW,zj]at hj;obtain⟨c,hc,rfl⟩:=hj;have hjl:j<(subL [] cs).length:=(qc.1 hc).1;have hcm:c∈subL [] cs:=qC hc;have hfa:((subL [] cs).map (inst k)).take (j+1)=((subL [] cs).map (inst k)).take j++[inst k c]:=by
    rw[List.take_add_one];have:((subL [] cs).map (inst k))[j]?=some (inst k c):=by rw[qW,hc];rfl
    rw[this];rfl
   refine⟨rfl,?_⟩;have hcl:=(qc.1 h1).1;have h1':=h1;simp at h1';simp[go_sem,e3,e4,e5,e8,e9,e39,e40,h1'];refine qI.intro (by kernel_rfl) ?_;simp[go_sem,e3,e4,e5,e8,e9,e39,e40,h1'];refine qd.pure (hi k hlt c hcm) (.cons (.hf (yM _)) (.cons (.hf (qU _)) (.cons (.hf (QL _)) (.cons (.hf (HF.sc _)) (.cons (.hf (HF.lst ?_)) .nil))))) ?_
   .exact fun r hr' x hx=>(hr r (by rcases Zg cs [] c hcm r hr' with h|h;exact absurd h (by simp);exact h)).2.2 x hx
   simp[go_sem,e3,e4,e5,e8,e9,e39,e40,h1'];refine qD.ownB (e:=45) (sz:=4) (bt:=64) (zv := .agg [.lst true [],aI 0,.lst true [],aI 0]) (xs:=z7 inst cs k++((subL [] cs).map (inst k)).take j |>.map cMd) (ys:=[cMd (inst k c)]) (by simp[go_sem]) (by simp[go_sem]) (by simp[go_sem]) rfl rfl (by omega) (by omega) h2 (by simp[qZ]) (Zf _) (Zf [inst k c]) ?_ ?_
   .have hk':=Zi inst cs k
    rw[Zh,zF,zr]at hll;simp;omega
   intro av' mu' ho' hs' hb' hl';have hm0:=hs' 0 (by simp) h3;have hmc:=hs' (rest.length+1) hcl h4;rw[h1]at hmc;obtain⟨rest3,rfl⟩:∃ rest3,mu' = .arr [av] :: rest3:=by
    cases mu' with
    |nil=>simp at hm0
    |cons c r=>simp at hm0;exact⟨r,by rw[hm0]⟩
   have hn0':qj av'≠some 0:=fun h=>by have:=hb' _ h;simp at this
   have hnc':qj av'≠some (rest.length+1):=fun h=>by have:=hb' _ h;omega
   have ho2:=Own.set ho' (i:=0) (.arr [av']) hn0';have hcat:(z7 inst cs k++((subL [] cs).map (inst k)).take j).map cMd++[cMd (inst k c)]=(z7 inst cs k++((subL [] cs).map (inst k)).take (j+1)).map cMd:=by
    rw[hfa,<-zW,yC (l₂:=[inst k c])];rfl
   rw[hcat]at ho2;simp[go_sem,e3,e4,e5,e8,e9,e39,e40,h1',Own.one ho',Own.cells ho'];exact ji.intro ⟨av',rest3,rfl,by simpa using hmc,by simpa using ho2,hn0',hnc'⟩
  .rintro M ⟨av,rest2,rfl,h1,h2,h3,h4⟩
   have hfull:((subL [] cs).map (inst k)).take ((subL [] cs).map fun c=>[AV.lst false c]).length=(subL [] cs).map (inst k):=by
    rw[zr,zA (by simp)]
   rw[hfull,<-hsucc]at h2;simp[go_sem,e3,e4,e5,e8,e9,e39,e40];refine Keep.loop (S-(k+1)) (by omega) ⟨k+1,av,rest2,rfl,by omega,by simp[go_sem,e3],by simp[go_sem,e4],by simp[go_sem,e5],by simp[go_sem,e8],by simp[go_sem,e9],by simp[go_sem,e39],?_,by simp[go_sem],by simpa[go_sem] using h2,h3⟩;simp[go_sem];exact qo (by omega) (by omega)
  .intro e M h;exact h.elim
 .have hge:k=S:=by omega
  subst hge;rw[hm]at ho;simp[go_sem,e3,e4,e5,e8,e9,e39,e40,hm];refine .tup _ _ rfl fun j x y hx hy=>?_
  match j with
  | 0=>simp at hx hy;subst hx;subst hy;exact Own.rdMd ho
  | 1=>simp at hx hy;subst hx;subst hy;exact .hf _ (HF.sc _)
  |j+2=>simp at hx
end GH
namespace JE
open E4 F1 JB JC
def wu:List (FuncId×zL)->FuncId->Option zL
 | [],_=>none
 |p :: l,f=>if f=p.1 then some p.2 else wu l f
def J3(f:FuncId)(c:List AV):Bool:=match c with
 | [.ip [.lst _ []]]=>f == 279
 |_=>false
def envL(l:List (FuncId×zL)):EnvJ:=⟨wu l,J3,fun _=>[],fun f=>calL.any fun x=>x.1 == f⟩
theorem J4{P:Program}:∀{l:List (FuncId×zL)},(∀ p,p∈l->zU P p.1 p.2)->∀ f h,wu l f=some h->zU P f h
 | [],_,_,_,h=>by cases h
 |p :: l,hp,f,h,e=>by
  unfold wu at e;split at e
  .rename_i ef;cases e;subst ef;exact hp p (yz ..)
  .exact J4 (fun q hq=>hp q (zf _ hq)) f h e
theorem Zj{l:List (FuncId×zL)}(hl:∀ p,p∈l->zU qa p.1 p.2):jP qa (envL l):=by
 refine⟨J4 hl,fun f hf=>?_,fun f c h=>?_⟩
 .simp only[envL,List.any_eq_true,beq_iff_eq]at hf
  obtain⟨x,_,rfl⟩:=hf;exact x.2
 .simp only[envL,J3]at h
  split at h
  .rw [beq_iff_eq]at h;subst h;exact backX _
  .cases h
theorem qf.wk{P:Program}{f:FuncId}{args:List AV}{v w:AV}(h:qf P f args v)(k:WK v w):qf P f args w:=by
 exact⟨h.1,fun imm w vs hi ra=>(h.2 imm w vs hi ra).mono fun e w' ⟨imm',u,he,h1,h2,h3,hv⟩=>⟨imm',u,he,h1,h2,h3,k _ _ _ hv⟩⟩
noncomputable def vy(E:EnvJ)(n:Nat)(f:FuncId)(args:List AV)(w:AV):Bool:=match uf qa E n f args with
 |some v=>hfB 64 v&&eqV 64 (nV 64 v) w
 |none=>false
theorem jU{E:EnvJ}(hE:jP qa E){n:Nat}{f:FuncId}{args:List AV}{w:AV}(h:vy E n f args w=true):qf qa f args w:=by
 unfold vy at h;split at h
 .rename_i v hv
  rw[qe]at h;rw[<-vn h.2];exact qf.wk (QJ hE hv) (QI 64 64 v h.1)
 .cases h
theorem XB{a0 a1 a2 a3 b0 b1 b2 b3 e0 e1 e2 e3 e4 x:AV}{r:Bool}(ho:[a0,a1,a2,a3,b0,b1,b2,b3,e0,e1,e2,e3,e4].all AV.one=true)(ha:HF (.agg [a0,a1,a2,a3]))(hb:HF (.agg [b0,b1,b2,b3]))(he:HF (.agg [e0,e1,e2,e3,e4]))(hx:HF x)(h1:qf qa 161 [.agg [a0,a1,a2,a3],.agg [b0,b1,b2,b3]] x)(h2:qf qa 162 [x,.agg [aI 0,.lst false []],.agg [e0,e1,e2,e3,e4]] (aB r)) :
  qf qa 136 [.agg [a0,a1,a2,a3],.agg [b0,b1,b2,b3],aI 0,.lst false [],.agg [e0,e1,e2,e3,e4]] (.tup [aB r,aI 0]):=by
 simp only[List.all_cons,List.all_nil,Bool.and_true,qe]at ho;obtain⟨o0,o1,o2,o3,o4,o5,o6,o7,o8,o9,oa,ob,oc⟩:=ho;refine QO.toP ?_;refine jh.of_sound ?_;refine qE.of_awpD call136 func136 rfl (ze (by kernel_rfl)) (by kernel_rfl) (pl:={}) ?_;simp[go_sem,o0,o1,o2,o3,o4,o5,o6,o7,o8,o9,oa,ob,oc];refine jR.intro (g:=160) (first:=[]) (caps:=[]) (by simp[go_sem]) call160 ?_;simp[go_sem];refine qI.tail 7 (by kernel_rfl) ?_;simp[go_sem];refine qd.pure h1 (.cons (.hf ha) (.cons (.hf hb) .nil)) ?_;simp[go_sem];refine qd.pure h2 (.cons (.hf hx) (.cons (.hf (HF.agg fun c hc=>by
  simp at hc;rcases hc with rfl|rfl
  .exact HF.sc _
  .exact HF.lst fun r hr=>by simp at hr)) (.cons (.hf he) .nil))) ?_
 simp[go_sem];refine zV.mono (Xc [.arr [aI 0]] 0 0 rfl) ?_;rintro _ rfl;simp[go_sem];exact .hf _ (HF.tup (by simp only[qz,zz,or_false,forall_eq_or_imp,forall_eq];exact⟨HF.sc _,HF.sc _⟩))
noncomputable def Zk(l:List (FuncId×zL)):List AV->Option AV:=fun args=>match args with
 | [.agg [a0,a1,a2,a3],.agg [b0,b1,b2,b3],.sc (.int .i64 0),.lst false [],.agg [e0,e1,e2,e3,e4]]=>match uf qa (envL l) 2000 161 [.agg [a0,a1,a2,a3],.agg [b0,b1,b2,b3]] with
  |some x=>match uf qa (envL l) 2000 162 [x,.agg [aI 0,.lst false []],.agg [e0,e1,e2,e3,e4]] with
   |some (.sc (.bool r))=>if [a0,a1,a2,a3,b0,b1,b2,b3,e0,e1,e2,e3,e4].all AV.one&&(hfB 64 x&&allJ (hfB 64) [.agg [a0,a1,a2,a3],.agg [b0,b1,b2,b3],.agg [e0,e1,e2,e3,e4]]) then some (.tup [aB r,aI 0]) else none
   |_=>none
  |none=>none
 |_=>none
theorem XC{l:List (FuncId×zL)}(hl:jP qa (envL l)):zU qa 136 (yx (Zk l)):=by
 refine ud fun args v h=>?_
 unfold Zk at h;split at h
 .rename_i a0 a1 a2 a3 b0 b1 b2 b3 e0 e1 e2 e3 e4
  split at h
  .rename_i x h1
   split at h
   .rename_i r h2
    split at h
    .rename_i hh
     cases h;rw[qe,qe]at hh;exact XB hh.1 (yw (z6 hh.2.2 (.agg [a0,a1,a2,a3]) (by simp))) (yw (z6 hh.2.2 (.agg [b0,b1,b2,b3]) (by simp))) (yw (z6 hh.2.2 (.agg [e0,e1,e2,e3,e4]) (by simp))) (yw hh.2.1) (QJ hl h1) (QJ hl h2)
    .cases h
   .cases h
  .cases h
 .cases h
end JE
namespace JF
open P1 YF E3 EW GF GG JB JE
def bA(l:List UInt8):ByteArray:=⟨⟨l⟩⟩
def tsH:TS:=⟨[(bA [65],false)],[⟨bA [102],[0],false⟩],[],[]⟩
def scH:Sc:=⟨[3],1⟩
def bsH:List Bd:=[⟨⟨1,[]⟩,⟨1,[0,1,2]⟩⟩]
def csH:List (List AV):=[[aI 0,aI 0,aI 0],[aI 0,aI 0,aI 1],[aI 0,aI 0,aI 2]]
def rkH(r:List AV):Int:=match r with | [_,_,.sc (.int _ n)]=>n|_=>0
def inH(k:Nat)(c:List (List AV)):Md:=⟨scH,[[⟨1,c.map rkH⟩]],k⟩
def J5:List (List AV×AV):=[([eSc scH,lI [0]],eRel ⟨1,[0,1,2]⟩)]
def J6:List (List AV×AV):=[([lBd bsH],lP [(0,0),(0,1),(0,2)])]
def H0:List (FuncId×zL):=[(155,QT),(92,yx (tabX J5)),(146,yx (tabX J6))]
theorem jj:jP qa (envL H0):=by
 refine Zj fun p hp=>?_
 simp only[H0,qz,zz,or_false]at hp;rcases hp with rfl|rfl|rfl
 .exact WY
 .refine ud (ue fun p hp=>?_)
  simp only[J5,qz,zz,or_false]at hp;subst hp;have:=fullU scH ⟨by decide,by decide⟩ (by decide) [0] (by intro s hs;simp at hs;subst hs;decide) (by decide) (by decide);exact this
 .refine ud (ue fun p hp=>?_)
  simp only[J6,qz,zz,or_false]at hp;subst hp;have:=freeU bsH (by decide) (by intro x hx;simp[bsH]at hx;subst hx;exact⟨by decide,by decide,by decide⟩);exact this
theorem uvH:qf qa 87 [eTS tsH,eSc scH] (aB true):=jU jj (n:=1000) (by kernel_rfl)
theorem bvH:qf qa 131 [eTS tsH,eSc scH,lBd bsH] (aB true):=jU jj (n:=1000) (by kernel_rfl)
theorem chH:qf qa 132 [eTS tsH,eSc scH,lBd bsH] (.lst false csH):=jU jj (n:=1000) (by kernel_rfl)
theorem XD:∀ c,c∈subL [] csH->qf qa 134 [eTS tsH,eSc scH,lBd bsH,aI (0:Nat),.lst false c] (eMd (inH 0 c)):=by
 have h:(subL [] csH).all (fun c=>vy (envL H0) 1000 134 [eTS tsH,eSc scH,lBd bsH,aI (0:Nat),.lst false c] (eMd (inH 0 c)))=true:=by kernel_rfl
 exact fun c hc=>jU jj (qt.1 h c hc)
end JF
namespace G5
open E9 EO
theorem Zl(sc:Sc)(g:GSc sc)(n:Nat)(hn:n<=1000000):qf qa 122 [eSc sc,aI n] (aI (sumI (sc.atoms.take n))):=by
 have hl:=g.1;refine qSQ call122 func122 rfl {} ?_;simp[go_sem];refine qx.up (min n sc.atoms.length) (fun k st=>st.tm 1=aI n/\st.tm 2 = .ip [lI sc.atoms,aI sc.steps]/\st.tm 5=aI (sumI (sc.atoms.take k))/\st.tm 6=aI k) ?_ ?_
 .simp [go_sem,sumI]
 rintro k st hk ⟨e1,e2,e5,e6⟩;by_cases hlt:k<n
 .by_cases hlt2:k<sc.atoms.length
  .have hs:=jg sc.atoms k hlt2
   have hb':=g.sum (k+1);rw[hs]at hb';simp[go_sem,e1,e2,e5,e6,hlt,hlt2];exact⟨by omega,by rw[hs,qo (by omega) (by omega)],qo (by omega) (by omega)⟩
  .have e:sc.atoms.take n=sc.atoms.take k:=by rw[zA (by omega),zA (by omega)]
   rw[e];simp[go_sem,e1,e2,e5,e6,hlt,hlt2];exact .hf _ (HF.sc _)
 .have hge:k=n:=by omega
  subst hge;simp[go_sem,e1,e2,e5,e6];exact .hf _ (HF.sc _)
theorem J7(sc:Sc)(g:GSc sc):qf qa 102 [eSc sc] (aI (sumI sc.atoms)):=by
 have hl:=g.1;have h:=Zl sc g sc.atoms.length (by omega);rw[zG]at h;refine qSQ call102 func102 rfl {} ?_;simp[go_sem];refine qd.pure h (.cons (.hf (qU _)) (.cons (.hf (HF.sc _)) .nil)) ?_;simp[go_sem];exact .hf _ (HF.sc _)
theorem Zm(n:Int)(h0:0<=n)(h1:n<=20):∀ k:Nat,k<=3->0<=n ^ k/\n ^ k<=8000
 | 0,_=>by simp
 | 1,_=>by rw[show n ^ 1=n by rw[Int.pow_succ,Int.pow_zero,Int.one_mul]];omega
 | 2,_=>by
  have:n*n<=20*20:=jy h1 h1 h0 (by omega);have h2:=Int.mul_nonneg h0 h0;rw[show n ^ 2=n*n by rw[Int.pow_succ,Int.pow_succ,Int.pow_zero,Int.one_mul]];omega
 | 3,_=>by
  have h2:n*n<=20*20:=jy h1 h1 h0 (by omega);have h2':=Int.mul_nonneg h0 h0;have h3:n*n*n<=400*20:=jy h2 h1 h0 (by omega);have h3':=Int.mul_nonneg h2' h0;rw[show n ^ 3=n*n*n by rw[Int.pow_succ,Int.pow_succ,Int.pow_succ,Int.pow_zero,Int.one_mul]];omega
 |k+4,h=>by omega
theorem J8(sc:Sc)(g:GSc sc)(n:Nat)(hn:n<=3):qf qa 84 [eSc sc,aI n] (aI (sumI sc.atoms ^ n)):=by
 have hs:=g.sum sc.atoms.length;rw[zG]at hs;refine qSQ call84 func84 rfl {} ?_;simp[go_sem];refine qx.up n (fun k st=>st.tm 1=aI n/\st.tm 2 = .ip [lI sc.atoms,aI sc.steps]/\st.tm 5=aI (sumI sc.atoms ^ k)/\st.tm 6=aI k) ?_ ?_
 .simp [go_sem]
 rintro k st hk ⟨e1,e2,e5,e6⟩;by_cases hlt:k<n
 .have hp:=Zm (sumI sc.atoms) hs.1 hs.2 (k+1) (by omega)
  have e:sumI sc.atoms ^ (k+1)=sumI sc.atoms ^ k*sumI sc.atoms:=Int.pow_succ ..;rw[e]at hp;have h3:(k:Int)<3:=by omega
  simp[go_sem,e1,e2,e5,e6,hlt,h3];refine qd.pure (J7 sc g) (.cons (.hf (qU _)) .nil) ?_;simp[go_sem,e1,e2,e5,e6,hlt];exact⟨by rw[e,qo (by omega) (by omega)],qo (by omega) (by omega)⟩
 .have hge:k=n:=by omega
  subst hge;simp[go_sem,e1,e2,e5,e6];exact .hf _ (HF.sc _)
theorem J9(l:List Int)(x:Int)(hpos:∀ a,a∈l->0<=a):∀(k:Nat) (i:Int),k<=l.length->sumI (l.take k)<=x->jT l x i=jT (l.drop k) (x-sumI (l.take k)) (i+k):=by
 intro k;induction k with
 |zero=>intro i _ _;simp[sumI]
 |succ k ih =>
  intro i hk hx;have hs:=jg l k (by omega);have hp:=hpos _ (qY (show k<l.length by omega));rw[ih i (by omega) (by omega),JY l k _ _ (by omega),if_neg (by omega),hs];congr 1<;>omega
theorem XF(sc:Sc)(g:GSc sc)(x:Nat)(hx:x<=1000):qf qa 107 [eSc sc,aI x] (aI (jw sc x)):=by
 have hl:=g.1;have hpos:∀ a,a∈sc.atoms->0<=a:=fun a ha=>(g.2 a ha).1
 refine qSQ call107 func107 rfl {} ?_;simp[go_sem];refine qx.up sc.atoms.length (fun k st=>st.tm 1=aI x/\st.tm 2 = .ip [lI sc.atoms,aI sc.steps]/\st.tm 5=aI k/\sumI (sc.atoms.take k)<=x) ?_ ?_
 .simp [go_sem,sumI]
 rintro k st hk ⟨e1,e2,e5,hi⟩;by_cases hlt:k<sc.atoms.length
 .have hs:=jg sc.atoms k hlt
  have hsort:=J9 sc.atoms x hpos k 0 hk hi;rw[JY sc.atoms k _ _ hlt]at hsort;have w1:qJ.wrap ((k:Int)+1)=((k+1:Nat):Int):=by rw[qo (by omega) (by omega)];omega
  simp[go_sem,e1,e2,e5,hlt];refine qd.pure (Zl sc g k (by omega)) (.cons (.hf (qU _)) (.cons (.hf (HF.sc _)) .nil)) ?_;simp[go_sem,e1,e2,e5,hlt,hi,w1];refine qd.pure (Zl sc g (k+1) (by omega)) (.cons (.hf (qU _)) (.cons (.hf (HF.sc _)) .nil)) ?_;by_cases hc:(x:Int)<sumI (sc.atoms.take (k+1))
  .have e:jw sc x=k:=by
    unfold jw;rw[hsort,if_pos (by omega)];omega
   rw[e];simp[go_sem,e1,e2,e5,hlt,hc];exact .hf _ (HF.sc _)
  .simp [go_sem,e1,e2,e5,hlt,hc,w1]
   omega
 .have hge:k=sc.atoms.length:=by omega
  subst hge;have e:jw sc x = -1:=by
   unfold jw;rw[J9 sc.atoms x hpos sc.atoms.length 0 hk hi,vC];rfl
  rw[e];simp[go_sem,e1,e2,e5];exact .hf _ (HF.sc _)
def digs(n:Int):Nat->Int->List Int
 | 0,_=>[]
 |k+1,r=>digs n k (r / n)++[r % n]
theorem uj(n:Int):∀(k:Nat) (r:Int),(digs n k r).length=k
 | 0,_=>rfl
 |k+1,r=>by rw[digs,zF,uj n k];rfl
theorem Va(n:Int):∀(j:Nat) (x:Int),divN n (x / n) j=divN n x (j+1)
 | 0,x=>rfl
 |j+1,x=>by rw[divN,Va n j x];rfl
theorem Vb(n:Int):∀(j:Nat) (r:Int),digs n (j+1) r=(divN n r j % n) :: digs n j r
 | 0,r=>by simp[digs,divN]
 |j+1,r=>by
  rw[digs,Vb n j (r / n),Va,z9];rfl
theorem Zn(n r:Int)(hp:0<n)(hr:0<=r):∀ j,0<=divN n r j/\divN n r j<=r
 | 0=>⟨hr,by simp[divN]⟩
 |j+1=>by
  have:=Zn n r hp hr j;rw[divN];have h2:=Int.ediv_le_self n this.1;exact⟨Int.ediv_nonneg this.1 (by omega),by omega⟩
theorem XG{mu:Mu}{b:Nat}{cells:List AV}{ds:List Int}(hc:mu[b]?=some (.arr cells))(h:∀ i (hi:i<ds.length),cells[i]?=some (aI ds[i])):Rd mu (.sl b 1 0 ds.length) (lI ds):=by
 refine .sl b 1 0 ds.length cells (ds.map rI) hc ?_ (by simp) (fun r hr=>by obtain⟨x,_,rfl⟩:=qr.1 hr;rfl) fun k x y hx hy=>?_
 .by_cases h0:ds.length=0
  .omega
  .have:=h (ds.length-1) (by omega)
   have:=(qc.1 this).1;omega
 .rw [zX]at hx
  rw[GD.vq,qW,zj]at hy;obtain⟨z,hz,rfl⟩:=hy;have hk:=(qc.1 hz);obtain⟨hk1,rfl⟩:=hk;rw[h k hk1]at hx;cases hx;exact .hf _ (HF.sc _)
theorem XH(sc:Sc)(g:GSc sc)(hp:0<sumI sc.atoms)(k:Nat)(hk:k<=3)(r:Nat)(hr:(r:Int)<sumI sc.atoms ^ k):qf qa 85 [eSc sc,aI k,aI r] (lI (digs (sumI sc.atoms) k r)):=by
 have hs:=g.sum sc.atoms.length;rw[zG]at hs;have hpw:=Zm (sumI sc.atoms) hs.1 hs.2 k hk;refine qSQ call85 func85 rfl {} ?_;have hk3:¬(3:Int)<k:=by omega
 have hk0:¬(k:Int)<0:=by omega
 have hr0:¬(r:Int)<0:=by omega
 simp[go_sem,hk3,hk0,hr0];refine qd.pure (J8 sc g k hk) (.cons (.hf (qU _)) (.cons (.hf (HF.sc _)) .nil)) ?_;have hr':¬sumI sc.atoms ^ k<=(r:Int):=by omega
 simp[go_sem,hr'];refine qd.pure (J7 sc g) (.cons (.hf (qU _)) .nil) ?_;generalize hN:sumI sc.atoms=N at *
 have w0:qJ.wrap ((k:Int)-1)=(k:Int)-1:=qo (by omega) (by omega);simp[go_sem,w0];refine qx.keep (fun m st=>∃ j:Nat,m=k-j/\j<=k/\st.tm 1=aI k/\st.tm 7 = .sl 0 1 0 3/\st.tm 8=aI N/\st.tm 9=aI (divN N r j)/\st.tm 10=aI ((k:Int)-1-j)/\∃ c0 c1 c2,st.mu=[.arr [aI c0,aI c1,aI c2]]/\∀ i (hi:i<j),[c0,c1,c2][k-j+i]?=some ((digs N j r)[i]'(by rw[uj];exact hi))) k ?_ ?_
 .exact ⟨0,by omega,by omega,by simp[go_sem],by simp[go_sem],by simp[go_sem],by simp[go_sem,divN],by simp[go_sem],0,0,0,by simp[go_sem],fun i hi=>by omega⟩
 rintro m st ⟨j,rfl,hj,e1,e7,e8,e9,e10,c0,c1,c2,hm,hc⟩;by_cases hlt:j<k
 .obtain ⟨d,rfl⟩:∃ d:Nat,k=j+1+d:=⟨k-(j+1),by omega⟩
  have hd:d=0\/d=1\/d=2:=by omega
  have ex:(((j+1+d:Nat):Int)-1-j)=(d:Int):=by omega
  rw[ex]at e10;have hdv:=Zn N r hp (by omega) j;have hr8:(r:Int)<=8000:=by omega
  have hq:(divN N r j).tdiv N=divN N r (j+1):=by rw[divN,Int.tdiv_eq_ediv_of_nonneg hdv.1]
  have hmd:(divN N r j).tmod N=divN N r j % N:=VC hdv.1;have hdv2:=Zn N r hp (by omega) (j+1);have w1:qJ.wrap (divN N r (j+1))=divN N r (j+1):=qo (by omega) (by omega);have hN0:¬N=0:=by omega
  have e12:(digs N (j+1) r)=(divN N r j % N) :: digs N j r:=Vb N j r;have hdl:=uj N j r;rcases hd with hd|hd|hd
  .have e10':st.tm 10=aI 0:=by rw[e10,hd];rfl
   have w2:qJ.wrap (-1) = -1:=qo (by omega) (by omega);simp[go_sem,e1,e7,e8,e9,e10',hm,hN0,hq,hmd,w1,w2];refine Keep.loop (j+1+d-(j+1)) (by omega) ⟨j+1,rfl,by omega,by simp[go_sem,e1],by simp[go_sem,e7],by simp[go_sem,e8],by simp[go_sem],by simp[go_sem];omega,divN N r j % N,c1,c2,by simp[go_sem],fun i hi=>?_⟩;cases i with
   |zero=>simp[e12,hd]
   |succ i =>
    have:=hc i (by omega);rw[show j+1+d-j+i=i+1 by omega]at this;rw[show j+1+d-(j+1)+(i+1)=i+1 by omega];simp[e12]at this⊢
    try exact this
  .have e10':st.tm 10=aI 1:=by rw[e10,hd];rfl
   have w2:qJ.wrap (0)=0:=qo (by omega) (by omega);simp[go_sem,e1,e7,e8,e9,e10',hm,hN0,hq,hmd,w1,w2];refine Keep.loop (j+1+d-(j+1)) (by omega) ⟨j+1,rfl,by omega,by simp[go_sem,e1],by simp[go_sem,e7],by simp[go_sem,e8],by simp[go_sem],by simp[go_sem];omega,c0,divN N r j % N,c2,by simp[go_sem],fun i hi=>?_⟩;cases i with
   |zero=>simp[e12,hd]
   |succ i =>
    have:=hc i (by omega);rw[show j+1+d-j+i=i+2 by omega]at this;rw[show j+1+d-(j+1)+(i+1)=i+2 by omega];simp[e12]at this⊢
    try exact this
  .have e10':st.tm 10=aI 2:=by rw[e10,hd];rfl
   have w2:qJ.wrap (1)=1:=qo (by omega) (by omega);simp[go_sem,e1,e7,e8,e9,e10',hm,hN0,hq,hmd,w1,w2];refine Keep.loop (j+1+d-(j+1)) (by omega) ⟨j+1,rfl,by omega,by simp[go_sem,e1],by simp[go_sem,e7],by simp[go_sem,e8],by simp[go_sem],by simp[go_sem];omega,c0,c1,divN N r j % N,by simp[go_sem],fun i hi=>?_⟩;cases i with
   |zero=>simp[e12,hd]
   |succ i =>
    have:=hc i (by omega);rw[show j+1+d-j+i=i+3 by omega]at this;rw[show j+1+d-(j+1)+(i+1)=i+3 by omega];simp[e12]at this⊢
    try exact this
 .have hge:j=k:=by omega
  subst hge;have hn:¬(j:Int)<=(j:Int)-1:=by omega
  have h3:(j:Int)<=3:=by omega
  simp[go_sem,e1,e7,e8,e9,e10,hm,hn,h3];have hdl:=uj N j r;have:=XG (mu:=[.arr [aI c0,aI c1,aI c2]]) (b:=0) (cells:=[aI c0,aI c1,aI c2]) (ds:=digs N j r) rfl fun i hi=>by
   have:=hc i (by omega);rw[Nat.sub_self,zX]at this;rw[show [aI c0,aI c1,aI c2]=[c0,c1,c2].map aI from rfl,qW,this];rfl
  rw[hdl]at this;exact this
def fitB(sc:Sc)(ds ss:List Int):Bool:=allN (fun i=>decide (jw sc (gI ds i)=gI ss i)) ss.length
theorem XI(sc:Sc)(g:GSc sc)(ds ss:List Int)(hl:ds.length=ss.length)(hs3:ss.length<=3)(hd:∀ d,d∈ds->0<=d/\d<=1000):qf qa 86 [eSc sc,lI ds,lI ss] (aB (fitB sc ds ss)):=by
 refine qSQ call86 func86 rfl {} ?_;simp[go_sem];refine qx.up ss.length (fun k st=>st.tm 1=lI ds/\st.tm 2=lI ss/\st.tm 3 = .ip [lI sc.atoms,aI sc.steps]/\st.tm 7=aI k/\∀ i,i<k->jw sc (gI ds i)=gI ss i) ?_ ?_
 .simp [go_sem]
 rintro k st hk ⟨e1,e2,e3,e7,hi⟩;by_cases hlt:k<ss.length
 .have hlt2:k<ds.length:=by omega
  have hdk:=hd ds[k] (qY hlt2);obtain⟨d,hd'⟩:=Int.eq_ofNat_of_zero_le hdk.1;simp[go_sem,e1,e2,e3,e7,hlt,hlt2];refine qI.intro (by kernel_rfl) ?_;simp[go_sem,e1,e2,e3,e7,hlt,hlt2];have h5:=XF sc g d (by omega);rw[<-hd']at h5;refine qd.pure h5 (.cons (.hf (qU _)) (.cons (.hf (HF.sc _)) .nil)) ?_;have g1:gI ds k=ds[k]:=ug hlt2;have g2:gI ss k=ss[k]:=ug hlt;by_cases he:jw sc ds[k]=ss[k]
  .simp [go_sem,e1,e2,e3,e7,hlt,hlt2,he]
   refine⟨qo (by omega) (by omega),fun i hi'=>?_⟩;by_cases h:i=k
   .subst h;rw[g1,g2];exact he
   .exact hi i (by omega)
  .have hf:fitB sc ds ss=false:=WD hlt (by rw[g1,g2];simpa using he)
   rw[hf];simp[go_sem,e1,e2,e3,e7,hlt,hlt2,he];exact .hf _ (HF.sc _)
 .have hge:k=ss.length:=by omega
  subst hge;have hf:fitB sc ds ss=true:=Jr.2 fun i h=>by simpa using hi i h
  rw[hf];simp[go_sem,e1,e2,e3,e7];exact .hf _ (HF.sc _)
theorem Vc(n:Int)(hp:0<n)(h20:n<=20):∀(k:Nat) (r:Int),∀ d,d∈digs n k r->0<=d/\d<=1000
 | 0,_,d,h=>by simp[digs]at h
 |k+1,r,d,h=>by
  rw[digs,qy]at h;rcases h with h|h
  .exact Vc n hp h20 k _ d h
  .rw [qV]at h;subst h
   have h1:=Int.emod_nonneg r (show n≠0 by omega);have h2:=Int.emod_lt_of_pos r hp;omega
def yj(sc:Sc)(ss:List Int)(r:Nat):List Int:=((qg r).filter fun k:Nat=>fitB sc (digs (sumI sc.atoms) ss.length k) ss).map fun k:Nat=>(k:Int)
theorem XJ(sc:Sc)(ss:List Int)(r:Nat):yj sc ss (r+1)=yj sc ss r++(if fitB sc (digs (sumI sc.atoms) ss.length r) ss then [(r:Int)] else []):=by
 unfold yj;rw[List.range_succ,List.filter_append,yC];by_cases h:fitB sc (digs (sumI sc.atoms) ss.length r) ss=true<;>simp[h]
theorem Vd(sc:Sc)(ss:List Int)(r:Nat):(yj sc ss r).length<=r:=by
 have:=List.length_filter_le (fun k:Nat=>fitB sc (digs (sumI sc.atoms) ss.length k) ss) (qg r);rw[List.length_range]at this;rw[yj,zr];exact this
theorem XK(sc:Sc)(ss:List Int)(r:Nat):(yj sc ss r).Pairwise (·<·):=by
 unfold yj;rw[List.pairwise_map];exact(List.pairwise_lt_range.filter _).imp fun h=>by omega
def jV(sc:Sc)(ss:List Int):List Int:=yj sc ss (sumI sc.atoms ^ ss.length).toNat
theorem XL(sc:Sc)(g:GSc sc)(hp:0<sumI sc.atoms)(ss:List Int)(h1:1<=ss.length)(h3:ss.length<=3)(hs:∀ s,s∈ss->0<=s/\s<sc.atoms.length):qf qa 61 [eSc sc,lI ss] (eRel ⟨ss.length,jV sc ss⟩):=by
 have hsm:=g.sum sc.atoms.length;rw[zG]at hsm;have hpw:=Zm (sumI sc.atoms) hsm.1 hsm.2 ss.length h3;obtain⟨R,hR⟩:=Int.eq_ofNat_of_zero_le hpw.1;have hfn:jV sc ss=yj sc ss R:=by rw[jV,hR];rfl
 refine qSQ call61 func61 rfl {} ?_;have n1:¬(ss.length:Int)<1:=by omega
 have n3:¬(3:Int)<(ss.length:Int):=by omega
 simp[go_sem,n1,n3];refine qx.up ss.length (fun k st=>st.tm 1=lI ss/\st.tm 2 = .ip [lI sc.atoms,aI sc.steps]/\st.tm 4 = .ptr 0 0/\st.tm 5=aI ss.length/\st.tm 6=aI k/\st.mu=[.arr [aI 0,.lst true []]]) ?_ ?_
 .simp [go_sem]
 rintro k st hk ⟨e1,e2,e4,e5,e6,hm⟩;by_cases hlt:k<ss.length
 .have hsk:=hs ss[k] (qY hlt)
  have m1:¬ss[k]<0:=by omega
  have m2:¬(sc.atoms.length:Int)<=ss[k]:=by omega
  simp[go_sem,e1,e2,e4,e5,e6,hm,hlt,m1,m2];refine qI.intro (by kernel_rfl) ?_;simp[go_sem,e1,e2,e4,e5,e6,hm,hlt,m1,m2];exact qo (by omega) (by omega)
 have hge:k=ss.length:=by omega
 subst hge;simp[go_sem,e1,e2,e4,e5,e6,hm];refine qx.keep (fun m st=>∃ k av rest,m=R-k/\k<=R/\st.tm 1=lI ss/\st.tm 2 = .ip [lI sc.atoms,aI sc.steps]/\st.tm 4 = .ptr 0 0/\st.tm 5=aI ss.length/\st.tm 7 = .ptr 1 0/\st.tm 8=aI (k:Nat) /\
  st.mu=[.arr [aI 0,.lst true []],.arr [aI ss.length,av]]++rest/\OwnF 2 ([.dead,.dead]++rest) 1 av ((yj sc ss k).map rI)) R ?_ ?_
 .exact ⟨0,.lst true [],[],by omega,by omega,by simp[go_sem,e1],by simp[go_sem,e2],by simp[go_sem,e4],by simp[go_sem,e5],by simp[go_sem],by simp[go_sem],by simp[go_sem],by simpa[yj] using OwnF.nil (by simp)⟩
 rintro m st ⟨k,av,rest,rfl,hk,e1,e2,e4,e5,e7,e8,hm,ho⟩;have ho:=ho.low (low:=[.dead,.dead]) (low':=[.arr [aI 0,.lst true []],.arr [aI ss.length,av]]) rfl;simp[go_sem,e1,e2,e4,e5,e7,e8,hm];refine qd.pure (J8 sc g ss.length h3) (.cons (.hf (qU _)) (.cons (.hf (HF.sc _)) .nil)) ?_;rw[hR];by_cases hlt:k<R
 .simp [go_sem,e1,e2,e4,e5,e7,e8,hm,hlt]
  refine qd.pure (XH sc g hp ss.length h3 k (by omega)) (.cons (.hf (qU _)) (.cons (.hf (HF.sc _)) (.cons (.hf (HF.sc _)) .nil))) ?_;simp[go_sem,e1,e2,e4,e5,e7,e8,hm,hlt];refine qd.pure (XI sc g _ ss (uj _ _ _) h3 (Vc _ hp (by omega) _ _)) (.cons (.hf (qU _)) (.cons (.hf (qT _)) (.cons (.hf (qT _)) .nil))) ?_;have hsu:=XJ sc ss k;have hle:=Vd sc ss k;cases hb:fitB sc (digs (sumI sc.atoms) ss.length k) ss with
  |false =>
   rw[hb]at hsu;simp[go_sem,e1,e2,e4,e5,e7,e8,hm,hlt];refine Keep.loop (R-(k+1)) (by omega) ⟨k+1,av,rest,rfl,by omega,by simp[go_sem,e1],by simp[go_sem,e2],by simp[go_sem,e4],by simp[go_sem,e5],by simp[go_sem,e7],?_,by simp[go_sem,hm],?_⟩
   .simp [go_sem];exact qo (by omega) (by omega)
   .rw [hsu];simpa[go_sem] using ho.low (low':=[.dead,.dead]) rfl
  |true =>
   rw[hb]at hsu;simp[go_sem,e1,e2,e4,e5,e7,e8,hm,hlt];refine qD.intsL (low:=[.arr [aI 0,.lst true []],.arr [aI ss.length,av]]) (e:=3) (bt:=8) (z:=0) (xs:=yj sc ss k) (ys:=[(k:Int)]) (by simp[go_sem]) (by simp[go_sem]) (by simp[go_sem]) (by omega) ho (by simp[qZ]) (by simp;omega) ?_;intro av' rest' ho';simp[go_sem,e1,e2,e4,e5,e7,e8,hlt,ho'.cells,ho'.one];refine Keep.loop (R-(k+1)) (by omega) ⟨k+1,av',rest',rfl,by omega,by simp[go_sem,e1],by simp[go_sem,e2],by simp[go_sem,e4],by simp[go_sem,e5],by simp[go_sem,e7],?_,by simp[go_sem],?_⟩
   .simp [go_sem];exact qo (by omega) (by omega)
   .rw [hsu]
    simpa[go_sem] using ho'.low (low':=[.dead,.dead]) rfl
 .have hge:k=R:=by omega
  subst hge;simp[go_sem,e1,e2,e4,e5,e7,e8,hm,ho.one,ho.cells];rw[hfn];exact Rd.rel (r:=⟨ss.length,yj sc ss k⟩) (ho.low (low:=[.arr [aI 0,.lst true []],.arr [aI ss.length,av]]) (low':=[.arr [aI ss.length,av],.arr [aI ss.length,av]]) rfl).rdI
end G5
namespace GM
open E3 GA GD
structure Shd (sc:Sc) (ars:List Int) (n:Nat) (m:Md):Prop where
 sc:m.sc=sc
 n:m.states.length=n
 ar:∀ s,s∈m.states->s.map Rl.ar=ars
 so:∀ s,s∈m.states->∀ r,r∈s->r.ts.Pairwise (·<·)
theorem Ve{α:Type}{p:α->α->Bool}:∀{xs ys:List α},xs.length=ys.length->(∀ x y,x∈xs->y∈ys->p x y=true)->zc p xs ys=true
 | [],[],_,_=>rfl
 |x :: xs,y :: ys,hl,h=>by
  rw[zc,h x y (by simp) (by simp),Bool.true_and];exact Ve (by simpa using hl) fun a b ha hb=>h a b (by simp[ha]) (by simp[hb])
 | [],_ :: _,hl,_=>by simp at hl
 |_ :: _,[],hl,_=>by simp at hl
theorem Shd.len{sc:Sc}{ars:List Int}{n:Nat}{a:Md}(h:Shd sc ars n a){s:List Rl}(hs:s∈a.states):s.length=ars.length:=by rw[<-h.ar s hs,zr]
theorem Shd.dist{sc:Sc}{ars:List Int}{n:Nat}{a b:Md}(ha:Shd sc ars n a)(hb:Shd sc ars n b):zx a b=xorS a.states b.states+(if a.loop=b.loop then 0 else 1):=by
 unfold zx;rw[ha.sc,hb.sc,Ve (by rw[ha.n,hb.n]) (fun x y hx hy=>by rw[decide_eq_true_eq,ha.len hx,hb.len hy])];simp
def okT(s:List Rl):Prop:=∀ r,r∈s->r.ts.Pairwise (·<·)
theorem XM{r q:Rl}(h1:r.ts.Pairwise (·<·))(h2:q.ts.Pairwise (·<·)):0<=xorR r q:=JQ (yN h1) (yN h2)
theorem Vf{s t:List Rl}(h1:okT s)(h2:okT t):0<=xorT s t:=wn (P:=fun r:Rl=>r.ts.Pairwise (·<·)) (fun x y hx hy=>XM hx hy) h1 h2
theorem XN{s t:List Rl}(h1:okT s)(h2:okT t):xorT s t=xorT t s:=QZ (P:=fun r:Rl=>r.ts.Pairwise (·<·)) (fun x y hx hy=>Xm (yN hx) (yN hy)) h1 h2
theorem Vg{α β:Type}(g:α->β)(f:β->β->Int):∀ s t:List α,sumZ (fun x y=>f (g x) (g y)) s t=sumZ f (s.map g) (t.map g)
 | [],[]=>rfl
 | [],_ :: _=>rfl
 |_ :: _,[]=>rfl
 |x :: s,y :: t=>by simp only[sumZ,jx];rw[Vg g f s t]
theorem XO{s t:List Rl}(h:s.map Rl.ar=t.map Rl.ar)(h1:okT s)(h2:okT t):xorT s t=0↔s=t:=by
 have hl:s.length=t.length:=by simpa using congrArg List.length h
 have e:xorT s t=sumZ xorN (s.map Rl.ts) (t.map Rl.ts):=Vg Rl.ts xorN s t;rw[e,Q0 (P:=fun l:List Int=>l.Pairwise (·<·)) (fun x y hx hy=>JQ (yN hx) (yN hy)) (fun x y hx hy=>Xp hx hy) (by simpa using hl)
  (fun x hx=>by obtain⟨r,hr,rfl⟩:=qr.1 hx;exact h1 r hr) (fun x hx=>by obtain⟨r,hr,rfl⟩:=qr.1 hx;exact h2 r hr)]
 refine⟨fun h3=>?_,fun h3=>by rw[h3]⟩;apply List.ext_getElem hl;intro k k1 k2;have a1:(s.map Rl.ar)[k]'(by simpa using k1)=(t.map Rl.ar)[k]'(by simpa using k2):=by simp only[h]
 have a2:(s.map Rl.ts)[k]'(by simpa using k1)=(t.map Rl.ts)[k]'(by simpa using k2):=by simp only[h3]
 simp only[List.getElem_map]at a1 a2;generalize s[k]=x at *
 generalize t[k]=y at *
 cases x;cases y;simp only at a1 a2;subst a1;subst a2;rfl
theorem XP{s t u:List Rl}(e1:s.length=t.length)(e2:t.length=u.length)(h1:okT s)(h2:okT t)(h3:okT u):xorT s u<=xorT s t+xorT t u:=
 Za (f:=xorR) (P:=fun r:Rl=>r.ts.Pairwise (·<·)) (fun x y z hx hy hz=>Xo (yN hx) (yN hy) (yN hz)) e1 e2 h1 h2 h3
def PS(ars:List Int)(s:List Rl):Prop:=s.map Rl.ar=ars/\okT s
theorem Zo{sc:Sc}{ars:List Int}{n:Nat}{a b c:Md}(ha:Shd sc ars n a)(hb:Shd sc ars n b)(hc:Shd sc ars n c) :
  0<=zx a b/\(zx a b=0↔a=b)/\zx b a=zx a b/\zx a c<=zx a b+zx b c:=by
 rw[ha.dist hb,hb.dist ha,ha.dist hc,hb.dist hc];have pa:∀ s,s∈a.states->PS ars s:=fun s hs=>⟨ha.ar s hs,ha.so s hs⟩
 have pb:∀ s,s∈b.states->PS ars s:=fun s hs=>⟨hb.ar s hs,hb.so s hs⟩
 have pc:∀ s,s∈c.states->PS ars s:=fun s hs=>⟨hc.ar s hs,hc.so s hs⟩
 have hlen:∀ x y,PS ars x->PS ars y->x.length=y.length:=fun x y hx hy=>by rw[<-zr (f:=Rl.ar),hx.1,<-hy.1,zr]
 have n0:0<=xorS a.states b.states:=wn (P:=PS ars) (fun x y hx hy=>Vf hx.2 hy.2) pa pb;have z0:xorS a.states b.states=0↔a.states=b.states:=Q0 (P:=PS ars) (fun x y hx hy=>Vf hx.2 hy.2) (fun x y hx hy=>XO (hx.1.trans hy.1.symm) hx.2 hy.2) (by rw[ha.n,hb.n]) pa pb;have c0:xorS a.states b.states=xorS b.states a.states:=QZ (P:=PS ars) (fun x y hx hy=>XN hx.2 hy.2) pa pb;have t0:xorS a.states c.states<=xorS a.states b.states+xorS b.states c.states:=
  Za (f:=xorT) (P:=PS ars) (fun x y z hx hy hz=>XP (hlen x y hx hy) (hlen y z hy hz) hx.2 hy.2 hz.2) (by rw[ha.n,hb.n]) (by rw[hb.n,hc.n]) pa pb pc
 refine⟨by split<;>omega,⟨fun h=>?_,fun h=>?_⟩,?_,?_⟩
 .have hl:a.loop=b.loop:=by
   by_cases hl:a.loop=b.loop
   .exact hl
   .rw [if_neg hl]at h;omega
  rw[if_pos hl]at h;have hs:=z0.1 (by omega);have hsc:=ha.sc.trans hb.sc.symm;cases a;cases b;simp only at hl hs hsc;subst hl;subst hs;subst hsc;rfl
 .subst h;rw[if_pos rfl,z0.2 rfl];rfl
 .rw [c0];by_cases hl:a.loop=b.loop
  .rw [if_pos hl,if_pos hl.symm]
  .rw [if_neg hl,if_neg (fun e=>hl e.symm)]
 .by_cases h1:a.loop=b.loop<;>by_cases h2:b.loop=c.loop<;>by_cases h3:a.loop=c.loop<;>simp only[h1,h2,h3,if_true,if_false]<;>first|omega | (exfalso;exact h3 (h1.trans h2)) | (split<;>omega)
end GM
namespace GP
open P1 E3 GB GD G5 GM
def yy(pk:List Bool)(lo:Rl)(q:List Int×Nat)(t:Int):List Int×Nat:=
 if t∈lo.ts then (q.1++[t],q.2) else (q.1++(if pk.getD q.2 false=true then [t] else []),q.2+1)
def insF(pk:List Bool)(lo:Rl)(ts:List Int)(n:Nat):List Int×Nat:=ts.foldl (yy pk lo) ([],n)
theorem XQ(pk:List Bool)(lo:Rl)(ts:List Int)(n k:Nat)(h:k<ts.length):insF pk lo (ts.take (k+1)) n=yy pk lo (insF pk lo (ts.take k) n) ts[k]:=by
 rw[Vx h,insF,Vz];rfl
theorem wv(pk:List Bool)(lo:Rl):∀(ts:List Int) (q:List Int×Nat) (w:List Int),q.1.Sublist w->(ts.foldl (yy pk lo) q).1.Sublist (w++ts)
 | [],q,w,h=>by simpa using h
 |t :: ts,q,w,h=>by
  rw[List.foldl_cons,show w++t :: ts=(w++[t])++ts by simp];refine wv pk lo ts _ _ ?_;unfold yy;split
  .exact h.append (List.Sublist.refl _)
  .split
   .exact h.append (List.Sublist.refl _)
   .exact h.append (List.nil_sublist _)
theorem Zp(pk:List Bool)(lo:Rl):∀(ts:List Int) (q:List Int×Nat),(ts.foldl (yy pk lo) q).2<=q.2+ts.length
 | [],q=>by simp
 |t :: ts,q=>by
  rw[List.foldl_cons];have:=Zp pk lo ts (yy pk lo q t);have h2:(yy pk lo q t).2<=q.2+1:=by unfold yy;split<;>simp
  simp only[zN];omega
def insB(pk:List Bool)(q:List Rl×Nat)(b:Bd):List Rl×Nat:=(q.1++[⟨b.up.ar,(insF pk b.lo b.up.ts q.2).1⟩],(insF pk b.lo b.up.ts q.2).2)
def z8(bs:List Bd)(pk:List Bool):List Rl×Nat:=bs.foldl (insB pk) ([],0)
def zy(bs:List Bd)(pk:List Bool):List Rl:=(z8 bs pk).1
theorem XR(bs:List Bd)(pk:List Bool)(k:Nat)(h:k<bs.length):z8 (bs.take (k+1)) pk=insB pk (z8 (bs.take k) pk) bs[k]:=by
 rw[Vx h,z8,Vz];rfl
theorem Vh(pk:List Bool)(M:Nat):∀(bs:List Bd) (q:List Rl×Nat),(∀ b,b∈bs->b.up.ts.length<=M)->(bs.foldl (insB pk) q).2<=q.2+bs.length*M
 | [],q,_=>by simp
 |b :: bs,q,h=>by
  rw[List.foldl_cons];have:=Vh pk M bs (insB pk q b) fun x hx=>h x (zf _ hx)
  have h2:(insB pk q b).2<=q.2+M:=zt (Zp pk b.lo b.up.ts _) (by have:=h b (yz ..);simp only;omega);rw[zN,Nat.add_mul];omega
theorem Zq(pk:List Bool):∀(bs:List Bd) (q:List Rl×Nat),(bs.foldl (insB pk) q).1.map Rl.ar=q.1.map Rl.ar++bs.map fun b=>b.up.ar
 | [],q=>by simp
 |b :: bs,q=>by rw[List.foldl_cons,Zq pk bs];simp[insB]
theorem ww(bs:List Bd)(pk:List Bool):(zy bs pk).map Rl.ar=bs.map fun b=>b.up.ar:=by
 rw[zy,z8,Zq];simp
theorem jW(bs:List Bd)(pk:List Bool):(zy bs pk).length=bs.length:=by
 rw[<-zr (f:=Rl.ar),ww,zr]
theorem Vi(pk:List Bool):∀(bs:List Bd) (q:List Rl×Nat),∀ r,r∈(bs.foldl (insB pk) q).1->r∈q.1\/∃ b,b∈bs/\r.ts.Sublist b.up.ts
 | [],q,r,h => .inl h
 |b :: bs,q,r,h=>by
  rw[List.foldl_cons]at h;rcases Vi pk bs _ r h with h|⟨x,hx,hs⟩
  .simp only[insB,qy,qV]at h
   rcases h with h|rfl
   .exact .inl h
   .exact .inr ⟨b,yz ..,by have:=wv pk b.lo b.up.ts ([],q.2) [] (List.Sublist.refl _);simpa[insF] using this⟩
  .exact .inr ⟨x,zf _ hx,hs⟩
theorem Zr(bs:List Bd)(pk:List Bool):∀ r,r∈zy bs pk->∃ b,b∈bs/\r.ts.Sublist b.up.ts:=fun r hr=>by
 rcases Vi pk bs ([],0) r hr with h|h
 .cases h
 .exact h
def anyS(vs:List Bool)(bs:List Bd)(pks:List (List Bool))(s:Nat):List Rl:=
 if s=0 then zy bs (pks.getD 0 []) else (zy bs (pks.getD s [])).mapIdx fun f r=>if vs.getD f true=true then r else (zy bs (pks.getD 0 [])).getD f noR
def anyM(sc:Sc)(vs:List Bool)(bs:List Bd)(pks:List (List Bool))(loop:Int):Md:=⟨sc,(qg sc.steps.toNat).map (anyS vs bs pks),loop⟩
theorem XS(vs:List Bool)(bs:List Bd)(pks:List (List Bool))(s:Nat):(anyS vs bs pks s).length=bs.length:=by
 unfold anyS;split
 .exact jW ..
 .rw [List.length_mapIdx];exact jW ..
theorem Vj(vs:List Bool)(bs:List Bd)(pks:List (List Bool))(s:Nat):∀ r,r∈anyS vs bs pks s->∃ b,b∈bs/\r.ts.Sublist b.up.ts:=fun r hr=>by
 unfold anyS at hr;split at hr
 .exact Zr _ _ r hr
 .obtain ⟨f,hf⟩:=List.mem_iff_getElem?.1 hr
  rw[List.getElem?_mapIdx,zj]at hf;obtain⟨q,hq,rfl⟩:=hf;split
  .exact Zr _ _ q (qC hq)
  .have hl:=(qc.1 hq).1
   rw[jW]at hl;have hl':f<(zy bs (pks.getD 0 [])).length:=by rw[jW];exact hl
   rw[qH,qs hl'];exact Zr _ _ _ (qY hl')
theorem XT(vs:List Bool)(bs:List Bd)(pks:List (List Bool))(s:Nat):(anyS vs bs pks s).map Rl.ar=bs.map fun b=>b.up.ar:=by
 unfold anyS;split
 .exact ww ..
 .refine ya fun f=>?_
  have h0:=congrArg (fun l=>l[f]?) (ww bs (pks.getD 0 []));have h1:=congrArg (fun l=>l[f]?) (ww bs (pks.getD s []));simp only[qW]at h0 h1⊢;rw[List.getElem?_mapIdx];cases hq:(zy bs (pks.getD s []))[f]? with
  |none=>rw[hq]at h1;exact h1
  |some q =>
   rw[hq]at h1;simp only[qw];split
   .exact h1
   .rw [qH]
    cases hp:(zy bs (pks.getD 0 []))[f]? with
    |none =>
     rw[hp]at h0;rw[<-h0]at h1;cases h1
    |some p=>rw[hp]at h0;exact h0
theorem XU(sc:Sc)(vs:List Bool)(bs:List Bd)(pks:List (List Bool))(loop:Int)(hb:∀ b,b∈bs->b.up.ts.Pairwise (·<·)):Shd sc (bs.map fun b=>b.up.ar) sc.steps.toNat (anyM sc vs bs pks loop):=by
 refine⟨rfl,by simp[anyM],fun s hs=>?_,fun s hs r hr=>?_⟩
 .obtain ⟨k,_,rfl⟩:=qr.1 hs
  exact XT ..
 .obtain ⟨k,_,rfl⟩:=qr.1 hs
  obtain⟨b,h1,h2⟩:=Vj _ _ _ _ r hr;exact(hb b h1).sublist h2
theorem XV(sc:Sc)(vs:List Bool)(bs:List Bd)(pks:List (List Bool))(loop:Int)(hs:sc.steps<=1000)(hl:bs.length<=1000)(hb:∀ b,b∈bs->b.up.ts.length<=1000/\b.up.ts.Pairwise (·<·)):SmS (anyM sc vs bs pks loop).states:=by
 refine⟨by simp[anyM];omega,fun s hs=>?_,fun s hs r hr=>?_⟩
 .obtain ⟨k,_,rfl⟩:=qr.1 hs
  rw[XS];exact hl
 .obtain ⟨k,_,rfl⟩:=qr.1 hs
  obtain⟨b,h1,h2⟩:=Vj _ _ _ _ r hr;exact⟨zt h2.length_le (hb b h1).1,(hb b h1).2.sublist h2⟩
def defB(ts:TS)(sc:Sc):List Bd:=ts.fields.map fun f=>⟨⟨f.sorts.length,[]⟩,⟨f.sorts.length,jV sc f.sorts⟩⟩
end GP
namespace GQ
open YF P1 E9 Q8
def yk(sc:Sc):Bool:=decide (sc.atoms.length<=4)&&(decide (1<=sc.steps)&&(decide (sc.steps<=4)&&(sc.atoms.all (fun a=>decide (1<=a)&&decide (a<=5))&&decide (sumI sc.atoms<=12))))
theorem XW{sc:Sc}(h:yk sc=true):GSc sc:=by
 simp only[yk,qe,decide_eq_true_eq,qt]at h;exact⟨h.1,fun a ha=>by have:=h.2.2.2.1 a ha;omega⟩
theorem XX(sc:Sc):qf qa 66 [eSc sc] (aB (yk sc)):=by
 refine qSQ call66 func66 rfl {} ?_;by_cases h1:(4:Int)<sc.atoms.length
 case pos =>
  simp[go_sem,h1,yk,show ¬sc.atoms.length<=4 by omega];exact .hf _ (HF.sc _)
 by_cases h3:sc.steps<1
 case pos =>
  simp[go_sem,h1,h3,yk,show ¬ 1<=sc.steps by omega];exact .hf _ (HF.sc _)
 by_cases h4:4<sc.steps
 case pos =>
  simp[go_sem,h1,h3,h4,yk,show ¬sc.steps<=4 by omega];exact .hf _ (HF.sc _)
 simp[go_sem,h1,h3,h4];refine qx.up sc.atoms.length (fun k st=>st.tm 1 = .ip [lI sc.atoms,aI sc.steps]/\st.tm 3=aI (sumI (sc.atoms.take k))/\st.tm 4=aI k/\st.mu=[]/\0<=sumI (sc.atoms.take k)/\sumI (sc.atoms.take k)<=5*k/\∀(i:Nat) (h:i<sc.atoms.length),i<k->1<=sc.atoms[i]/\sc.atoms[i]<=5) ?_ ?_
 .simp [go_sem,sumI]
 rintro k st hk ⟨e1,e3,e4,hm,s0,s1,he⟩;by_cases hlt:k<sc.atoms.length
 .by_cases hb:sc.atoms[k]<1\/5<sc.atoms[k]
  .have:sc.atoms.all (fun a=>decide (1<=a)&&decide (a<=5))=false:=wt hlt (by simp;omega)
   have:yk sc=false:=by simp only[yk,this,Bool.and_false,Bool.false_and]
   rw[this];by_cases hb1:sc.atoms[k]<1
   .simp [go_sem,e1,e3,e4,hm,hlt,hb1]
    exact .hf _ (HF.sc _)
   .simp [go_sem,e1,e3,e4,hm,hlt,hb1,show 5<sc.atoms[k] by omega]
    exact .hf _ (HF.sc _)
  .have hs:=jg sc.atoms k hlt
   generalize hS:sumI (sc.atoms.take k)=S at *
   simp[go_sem,e1,e3,e4,hm,hlt,hs,show ¬sc.atoms[k]<1 by omega,show ¬ 5<sc.atoms[k] by omega];refine⟨qo (by omega) (by omega),qo (by omega) (by omega),by omega,by omega,fun i h hi=>?_⟩;rcases Nat.lt_succ_iff_lt_or_eq.1 hi with h2|h2
   .exact he i h h2
   .subst h2;exact⟨by omega,by omega⟩
 .have hge:k=sc.atoms.length:=by omega
  subst hge;rw[zG]at e3;have hall:sc.atoms.all (fun a=>decide (1<=a)&&decide (a<=5))=true:=by
   rw[wq];intro i hi;have:=he i hi hi;simp;omega
  simp[go_sem,e1,e3,e4,hm];simp only[yk,hall,show sc.atoms.length<=4 by omega,show 1<=sc.steps by omega,show sc.steps<=4 by omega];simp;exact .hf _ (HF.sc _)
theorem XY(ts:TS)(sc:Sc):qf qa 33 [eTS ts,eSc sc] (aB (decide (ts.sorts.length=sc.atoms.length)&&yk sc)):=by
 refine qSQ call33 func33 rfl {} ?_;by_cases h:ts.sorts.length=sc.atoms.length
 .simp [go_sem,h]
  refine qd.pure (XX sc) (.cons (.hf (qU sc)) .nil) ?_;simp[go_sem,h];exact .hf _ (HF.sc _)
 .simp [go_sem,h]
  exact .hf _ (HF.sc _)
def zM(ts:TS)(sc:Sc):Bool:=decide (1<=ts.sorts.length)&&(decide (ts.sorts.length<=4)&&(decide (ts.fields.length<=6)&&(decide (sc.atoms.length<=4)&&(ts.fields.all (fldB ts.sorts.length)&&(decide (ts.sorts.length=sc.atoms.length)&&yk sc)))))
theorem XZ(ts:TS)(sc:Sc):qf qa 9 [eTS ts,eSc sc] (aB (zM ts sc)):=by
 refine qSQ call9 func9 rfl {} ?_;by_cases h0:ts.sorts.length=0
 case pos =>
  have hf:zM ts sc=false:=by simp[zM,show ¬ 1<=ts.sorts.length by omega]
  rw[hf];simp[go_sem,h0];exact .hf _ (HF.sc _)
 by_cases h1:(4:Int)<ts.sorts.length
 case pos =>
  have hf:zM ts sc=false:=by simp[zM,show ¬ts.sorts.length<=4 by omega]
  rw[hf];simp[go_sem,h0,h1];exact .hf _ (HF.sc _)
 by_cases h2:(6:Int)<ts.fields.length
 case pos =>
  have hf:zM ts sc=false:=by simp[zM,show ¬ts.fields.length<=6 by omega]
  rw[hf];simp[go_sem,h0,h1,h2];exact .hf _ (HF.sc _)
 by_cases h3:(4:Int)<sc.atoms.length
 case pos =>
  have hf:zM ts sc=false:=by simp[zM,show ¬sc.atoms.length<=4 by omega]
  rw[hf];simp[go_sem,h0,h1,h2,h3];exact .hf _ (HF.sc _)
 simp[go_sem,h0,h1,h2,h3];refine qx.upK ts.fields.length (fun k st=>st.tm 2 = .ip (cTS ts)/\st.tm 3 = .ip [lI sc.atoms,aI sc.steps]/\st.tm 5=aI k/\∀(j:Nat) (h:j<ts.fields.length),j<k->fldB ts.sorts.length ts.fields[j]=true) ?_ ?_
 .exact ⟨by simp[go_sem],by simp[go_sem],by simp[go_sem],fun j h hj=>absurd hj (by omega)⟩
 rintro k st hk ⟨e2,e3,e5,hI⟩;by_cases hlt:k<ts.fields.length
 .have w1:qJ.wrap ((k:Int)+1)=(k:Int)+1:=qo (by omega) (by omega)
  have hbad:fldB ts.sorts.length ts.fields[k]=false->zM ts sc=false:=fun hb=>by
   simp only[zM,wt hlt hb,Bool.and_false,Bool.false_and]
  by_cases l1:(ts.fields[k].sorts.length:Int)<1
  .rw [hbad (by simp[fldB,show ¬ 1<=ts.fields[k].sorts.length by omega])]
   simp[go_sem,e2,e3,e5,hlt,l1];exact .hf _ (HF.sc _)
  by_cases l3:(3:Int)<ts.fields[k].sorts.length
  .rw [hbad (by simp[fldB,show ¬ts.fields[k].sorts.length<=3 by omega])]
   simp[go_sem,e2,e3,e5,hlt,l1,l3];exact .hf _ (HF.sc _)
  simp[go_sem,e2,e3,e5,hlt,l1,l3];refine qx.upK ts.fields[k].sorts.length (fun j st=>st.tm 2 = .ip (cTS ts)/\st.tm 3 = .ip [lI sc.atoms,aI sc.steps]/\st.tm 5=aI k/\st.tm 6=lI ts.fields[k].sorts/\st.tm 7=aI j/\∀(i:Nat) (h:i<ts.fields[k].sorts.length),i<j->0<=ts.fields[k].sorts[i]/\ts.fields[k].sorts[i]<ts.sorts.length) ?_ ?_
  .exact ⟨by simp[go_sem,e2],by simp[go_sem,e3],by simp[go_sem,e5],by simp[go_sem],by simp[go_sem],fun j h hj=>absurd hj (by omega)⟩
  clear e2 e3 e5 st;rintro j st hj ⟨e2,e3,e5,e6,e7,hJ⟩;by_cases hjl:j<ts.fields[k].sorts.length
  .have w2:qJ.wrap ((j:Int)+1)=(j:Int)+1:=qo (by omega) (by omega)
   simp[go_sem,e2,e3,e5,e6,e7,hjl];refine qI.intro (by kernel_rfl) ?_;by_cases q1:ts.fields[k].sorts[j]<0
   .rw [hbad (by rw[fldB,wt hjl (by simp;omega),Bool.and_false])]
    simp[go_sem,e2,e3,e5,e6,e7,hjl,q1];exact .hf _ (HF.sc _)
   by_cases q2:(ts.sorts.length:Int)<=ts.fields[k].sorts[j]
   .rw [hbad (by rw[fldB,wt hjl (by simp;omega),Bool.and_false])]
    simp[go_sem,e2,e3,e5,e6,e7,hjl,q1,q2];exact .hf _ (HF.sc _)
   simp[go_sem,e2,e3,e5,e6,e7,hjl,q1,q2,w2]
   try refine⟨hjl,Keep.mk' ?_⟩
   try refine Keep.mk' ?_
   refine⟨by simp[go_sem,e2],by simp[go_sem,e3],by simp[go_sem,e5],by simp[go_sem,e6],by simp[go_sem],fun i h hi=>?_⟩;by_cases hij:i=j
   .subst hij;exact⟨by omega,by omega⟩
   .exact hJ i h (by omega)
  .have hge:j=ts.fields[k].sorts.length:=by omega
   simp[go_sem,e2,e3,e5,e6,e7,hge,w1]
   try refine⟨hlt,Keep.mk' ?_⟩
   try refine Keep.mk' ?_
   refine⟨by simp[go_sem,e2],by simp[go_sem,e3],by simp[go_sem],fun i h hi=>?_⟩;by_cases hij:i=k
   .subst hij
    have:ts.fields[i].sorts.all (fun x=>decide (0<=x)&&decide (x<ts.sorts.length))=true:=wq.2 fun a ha=>by
     have:=hJ a ha (by omega);simp;omega
    simp only[fldB,this,Bool.and_true,qe,decide_eq_true_eq];omega
   .exact hI i h (by omega)
 .have hge:k=ts.fields.length:=by omega
  have hall:ts.fields.all (fldB ts.sorts.length)=true:=wq.2 fun i h=>hI i h (by omega)
  simp[go_sem,e2,e3,e5,hge];refine qd.pure (XY ts sc) (.cons (.hf (yM ts)) (.cons (.hf (qU sc)) .nil)) ?_;simp[go_sem];have hf:zM ts sc=(decide (ts.sorts.length=sc.atoms.length)&&yk sc):=by
   simp only[zM,hall,show 1<=ts.sorts.length by omega,show ts.sorts.length<=4 by omega,show ts.fields.length<=6 by omega,show sc.atoms.length<=4 by omega];simp
  rw[hf];exact .hf _ (HF.sc _)
end GQ
namespace GR
open YF P1 E1 E4 EO EP F4 Q8 G5 GP GQ
theorem zP.ownB{P:Program}{mu:Mu}{t t' e sz bt:Nat}{s x:AV}{xs ys:List (List AV)}{zv:AV}{K:AV->Mu->Prop}(hs:qp P t=some (e,sz,bt))(hs':(qp P t').isSome=true)(hz:qn P e=some zv)
  (hz1:zv.cells.length=sz) (hz2:zv.cells.all AV.one=true) (hz0:sz≠0) (hb:bt<=16384) (ho:Own mu sz s xs) (hx:qZ mu x=some ys) (wx:qK sz xs) (wy:qK sz ys) (hl:xs.length+ys.length<=4294967296)
  (k:∀ av mu',Own mu' sz av (xs++ys)->(∀ i,i<mu.length->qj s≠some i->mu'[i]?=mu[i]?)->(∀ b,qj av=some b->b=mu.length)->mu.length<=mu'.length->(ys≠[]->∃ b,qj av=some b)->K av mu'):zP P mu #[t,t'] s x K:=by
 refine⟨t,t',e,sz,bt,ys,rfl,hs,hs',⟨zv,hz,hz1,hz2⟩,hz0,hb,hx,wy,?_⟩;rcases ho with rfl|⟨b,rfl,hc⟩
 .refine .inl ⟨xs,rfl,wx,hl,fun h=>?_,fun h=>?_⟩
  .subst h
   exact k _ _ (.inl (by simp)) (fun _ _ _=>rfl) (fun b h=>by cases h) (qu _) (fun h=>absurd rfl h)
  .refine k _ _ (.inr ⟨mu.length,by simp,by simp⟩) (fun i hi _=>?_) (fun b h=>by cases h;rfl) (by simp) (fun _=>⟨_,rfl⟩)
   rw[qh hi]
 .have hfl:=zd wx.ok
  refine .inr ⟨b,xs.length,xs.flatten,rfl,hc,by omega,hl,?_⟩;have htk:xs.flatten.take (xs.length*sz)=xs.flatten:=zA (by omega);refine k _ _ (.inr ⟨mu.length,by simp,?_⟩) (fun i hi hne=>?_) (fun b h=>by cases h;rfl) (by simp) (fun _=>⟨_,rfl⟩)
  .rw [htk,qB (by simp)];simp
  .rw [qh (by simpa using hi)]
   rw[q9 (fun e=>hne (by rw[e];rfl))]
theorem qD.giveB{P:Program}{mu:Mu}{t t' e sz bt:Nat}{s:AV}{xs:List (List AV)}{y:List AV}(y':List AV){zv:AV}{full:Bool}{K:AV->Mu->Prop}(R:Nat)(hs:qp P t=some (e,sz,bt))(hs':(qp P t').isSome=true)(hz:qn P e=some zv)
  (hz1:zv.cells.length=sz) (hz2:zv.cells.all AV.one=true) (hz0:sz≠0) (hb:bt<=16384) (ho:Own mu sz s xs) (hsR:∀ b,qj s=some b->b<R) (hrd:Rds (cutM (fun i=>decide (R<=i)) mu 0) y y') (wx:qK sz xs) (wy:qK sz [y']) (hl:xs.length+1<=4294967296)
  (k:∀ av mu',Own mu' sz av (xs++[y'])->(∀ i,i<mu.length->i<R->qj s≠some i->mu'[i]?=mu[i]?)->(∀ b,qj av=some b->b=mu.length)->mu.length<=mu'.length->(∃ b,qj av=some b)->K av mu'):qD P mu #[t,t'] s (.lst full [y]) K:=by
 have cg:∀ i,i<R->(cutM (fun i=>!decide (R<=i)) mu 0)[i]?=mu[i]?:=fun i hi=>by
  rw[y9];simp only[zX,decide_eq_false (show ¬R<=i by omega),Bool.not_false,if_true];cases mu[i]?<;>rfl
 have hrow:Rd (cutM (fun i=>decide (R<=i)) mu 0) (.lst full [y]) (.lst full [y']):=by
  obtain⟨h1,h2⟩:=hrd.get;refine .lst full _ _ rfl (fun k a b ha hb=>?_) (fun k a b ha hb=>?_)
  .cases k with
   |zero=>simp at ha hb;subst ha;subst hb;exact h1.symm
   |succ k=>simp at ha
  .simp at ha hb;exact h2 k a b ha hb
 have ho':Own (cutM (fun i=>!decide (R<=i)) mu 0) sz s xs:=by
  rcases ho with h|⟨b,h,hc⟩
  .exact .inl h
  .exact .inr ⟨b,h,by rw[cg b (hsR b (by rw[h];rfl))];exact hc⟩
 refine .inr (.inl ⟨_,_,hrow,zP.ownB hs hs' hz hz1 hz2 hz0 hb ho' rfl wx wy hl fun av mu' h1 h2 h3 h4 h5=>k av mu' h1 (fun i hi hR hne=>?_) (fun b hb=>?_) ?_ (h5 (by simp))⟩)
 .rw [h2 i (by rw[yG];exact hi) hne,cg i hR]
 .have:=h3 b hb;rw[yG]at this;exact this
 .rw [yG]at h4;exact h4
theorem Zs{α:Type}{mu:Mu}{f g:α->List AV}:∀{l:List α},(∀ a,a∈l->Rds mu (f a) (g a))->∀(k:Nat) x y,(l.map f).flatten[k]?=some x->(l.map g).flatten[k]?=some y->Rd mu x y
 | [],_,k,x,y,hx,_=>by simp at hx
 |a :: l,h,k,x,y,hx,hy=>by
  obtain⟨h1,h2⟩:=(h a (yz ..)).get;simp only[jx,List.flatten_cons]at hx hy;by_cases hk:k<(f a).length
  .rw [qh hk]at hx
   rw[qh (by omega)]at hy;exact h2 k x y hx hy
  .rw [qB (by omega)]at hx
   rw[qB (by omega),h1]at hy;exact Zs (fun b hb=>h b (zf _ hb)) _ x y hx hy
theorem Own.rdM{α:Type}{mu:Mu}{sz:Nat}{av:AV}{f g:α->List AV}{l:List α}(h:Own mu sz av (l.map f))(wf:zm sz (l.map f))(wg:zm sz (l.map g))(hr:∀ a,a∈l->Rds mu (f a) (g a)):Rd mu av (.lst false (l.map g)):=by
 rcases h with rfl|⟨b,rfl,hc⟩
 .refine .wk _ true _ (.lst true _ _ (by simp) (fun k x y hx hy=>?_) (Zs hr))
  rw[wf x (qC hx),wg y (qC hy)]
 .refine .sl b sz 0 _ _ _ hc (by have:=zd wf;omega) (by simp) wg (fun k x y hx hy=>?_)
  rw[zX]at hx;exact Zs hr k x y hx hy
theorem Vk:∀{l:List Int},l≠[]->(∀ a,a∈l->1<=a)->1<=sumI l
 | [],h,_=>absurd rfl h
 | [a],_,h=>by have:=h a (by simp);simp[sumI];omega
 |a :: b :: l,_,h=>by
  have h1:=h a (by simp);have h2:=Vk (l:=b :: l) (by simp) fun x hx=>h x (zf _ hx)
  simp only[sumI,List.foldr_cons]at h2⊢;omega
structure Fit9 (ts:TS) (sc:Sc):Prop where
 g:GSc sc
 p:0<sumI sc.atoms
 nf:ts.fields.length<=6
 ns:ts.sorts.length=sc.atoms.length
 s1:1<=sc.steps
 s4:sc.steps<=4
 f1:∀ f,f∈ts.fields->1<=f.sorts.length/\f.sorts.length<=3
 fs:∀ f,f∈ts.fields->∀ s,s∈f.sorts->0<=s/\s<sc.atoms.length
theorem Vl{ts:TS}{sc:Sc}(h:zM ts sc=true):Fit9 ts sc:=by
 simp only[zM,qe,decide_eq_true_eq,qt,fldB]at h;obtain⟨h1,h2,h3,h4,h5,h6,h7⟩:=h;have g:=XW h7;simp only[yk,qe,decide_eq_true_eq,qt]at h7;refine⟨g,?_,h3,h6,h7.2.1,h7.2.2.1,fun f hf=>(h5 f hf).1,fun f hf s hs=>?_⟩
 .have:=Vk (l:=sc.atoms) (fun e=>by rw[e,List.length_nil]at h6;omega) fun a ha=>(h7.2.2.2.1 a ha).1
  omega
 .have:=(h5 f hf).2 s hs
  rw[h6]at this;exact this
def rowD(sc:Sc)(f:Fld):List AV:=[aI f.sorts.length,.lst true [],aI f.sorts.length,lI (jV sc f.sorts)]
theorem Zt(sc:Sc)(l:List Fld):qK 4 (l.map (rowD sc)):=fun r hr=>by
 obtain⟨n,_,rfl⟩:=qr.1 hr;exact⟨rfl,rfl⟩
theorem Vm(ts:TS)(sc:Sc)(F:Fit9 ts sc):qf qa 28 [eTS ts,eSc sc] (lBd (defB ts sc)):=by
 have hnf:=F.nf;refine qSQ call28 func28 rfl {} ?_;simp[go_sem];refine qx.upK ts.fields.length (fun k st=>st.tm 2 = .ip (cTS ts)/\st.tm 3 = .ip [lI sc.atoms,aI sc.steps]/\st.tm 6=aI k/\Own st.mu 4 (st.tm 5) ((ts.fields.take k).map (rowD sc))) ?_ ?_
 .exact ⟨by simp[go_sem],by simp[go_sem],by simp[go_sem],.inl (by simp[go_sem])⟩
 rintro k st hk ⟨e2,e3,e6,ho⟩;by_cases hlt:k<ts.fields.length
 .have w1:qJ.wrap ((k:Int)+1)=(k:Int)+1:=qo (by omega) (by omega)
  have hfm:=qY hlt;have hful:=XL sc F.g F.p ts.fields[k].sorts (F.f1 _ hfm).1 (F.f1 _ hfm).2 (F.fs _ hfm);simp[go_sem,e2,e3,e6,hlt];refine qI.intro (by kernel_rfl) ?_;simp[go_sem,e2,e3,e6,hlt];refine qd.pure hful (.cons (.hf (qU _)) (.cons (.hf (qT _)) .nil)) ?_;simp[go_sem,e2,e3,e6,hlt];refine qD.ownB (e:=87) (sz:=4) (bt:=64) (zv := .agg [aI 0,.lst true [],aI 0,.lst true []]) (xs:=(ts.fields.take k).map (rowD sc)) (ys:=[rowD sc ts.fields[k]]) (by simp[go_sem]) (by simp[go_sem]) (by simp[go_sem]) rfl rfl (by omega) (by omega) ho (by simp[qZ,rowD]) (Zt sc _) (Zt sc [_]) (by simp;omega) ?_;intro av' mu' ho' _ _ _;simp[go_sem,e2,e3,e6,hlt,w1,Own.one ho'];refine Keep.mk' ⟨by simp[go_sem,e2],by simp[go_sem,e3],by simp[go_sem],?_⟩;rw[JA hlt,yC];simpa[go_sem] using ho'
 .have hge:k=ts.fields.length:=by omega
  subst hge;rw[zG]at ho;simp[go_sem,e2,e3,e6,Own.one ho];have:=Own.rdM (g:=fun f=>cBd ⟨⟨f.sorts.length,[]⟩,⟨f.sorts.length,jV sc f.sorts⟩⟩) ho (Zt sc _).ok (fun r hr=>by
   obtain⟨n,_,rfl⟩:=qr.1 hr;rfl) fun f _=>⟨.hf _ (HF.sc _),.wk _ true _ (.hf _ (HF.lst fun r hr=>by simp at hr)),.hf _ (HF.sc _),.hf _ (qT _),trivial⟩
  show Rd _ _ (.lst false ((defB ts sc).map cBd));rw[defB,List.map_map];exact this
structure Vn (b:Bd):Prop where
 u:b.up.ts.length<=100000
 l:b.lo.ts.length<=100000
 s:sorted b.lo.ts
theorem X0(ar t:Int)(lo:Rl):inOk ⟨ar,[t]⟩ lo=decide (t∈lo.ts):=by simp[inOk]
theorem Vo{mu:Mu}{R sz:Nat}{av:AV}{xs:List (List AV)}(h:Own mu sz av xs)(hR:∀ b,qj av=some b->R<=b):Own (cutM (fun i=>decide (R<=i)) mu 0) sz av xs:=by
 rcases h with h|⟨b,h,hc⟩
 .exact .inl h
 .refine .inr ⟨b,h,?_⟩
  rw[y9,hc];simp[hR b (by rw[h];rfl)]
theorem X1(fl:Bool)(bs:List Bd)(pk:List Bool)(mu:Mu)(hl:bs.length<=1000)(hb:∀ b,b∈bs->Vn b) :
  qE qa 34 [lBd bs,.lst fl (pk.map rB)] mu (fun e m=>∃ av,e = .ret av/\Own m 2 av ((zy bs pk).map cRel)/\(∀ i,i<mu.length->m[i]?=mu[i]?)/\(∀ b,qj av=some b->mu.length<=b)/\mu.length<=m.length/\(0<bs.length->∃ b,qj av=some b)):=by
 refine qSW call34 func34 rfl {} ?_;simp[go_sem];refine qx.upK bs.length (fun k st=>st.tm 0=lBd bs/\st.tm 1 = .lst fl (pk.map rB)/\st.tm 6=aI (z8 (bs.take k) pk).2/\st.tm 7=aI k/\Own st.mu 2 (st.tm 5) ((z8 (bs.take k) pk).1.map cRel)/\(∀ i,i<mu.length->st.mu[i]?=mu[i]?)/\(∀ b,qj (st.tm 5)=some b->mu.length<=b)/\mu.length<=st.mu.length/\(0<k->∃ b,qj (st.tm 5)=some b)) ?_ ?_
 .exact ⟨by simp[go_sem],by simp[go_sem],by simp[go_sem,z8],by simp[go_sem],.inl (by simp[go_sem,z8]),by simp[go_sem],by simp[go_sem,qj],by simp[go_sem],fun h=>absurd h (by omega)⟩
 rintro k st hk ⟨e0,e1,e6,e7,ho,hs,hbk,hml,hne⟩;by_cases hlt:k<bs.length
 .have w1:qJ.wrap ((k:Int)+1)=(k:Int)+1:=qo (by omega) (by omega)
  obtain⟨bu,bl,bso⟩:=hb _ (qY hlt);have hn0:=Vh pk 100000 (bs.take k) ([],0) fun x hx=>(hb x (yb hx)).u
  have hn0':(z8 (bs.take k) pk).2<=100000000:=by
   have:=List.length_take_le k bs;have h2:(bs.take k).length*100000<=1000*100000:=Nat.mul_le_mul_right _ (by omega);have h3:(z8 (bs.take k) pk).2<=0+(bs.take k).length*100000:=hn0;omega
  have hsucc:=XR bs pk k hlt;generalize hq:z8 (bs.take k) pk=q at *
  generalize hav:st.tm 5=s at *
  have hsl:∀ b,qj s=some b->b<st.mu.length:=fun b h=>Own.lt ho h
  generalize hR:st.mu.length=R at *
  simp[go_sem,e0,e1,e6,e7,hlt,hav];refine qx.upK bs[k].up.ts.length (fun j st2=>st2.tm 0=lBd bs/\st2.tm 1 = .lst fl (pk.map rB)/\st2.tm 5=s/\st2.tm 7=aI k/\st2.tm 8 = .ptr R 0/\st2.tm 9=aI j/\st2.tm 6=aI (insF pk bs[k].lo (bs[k].up.ts.take j) q.2).2 /\
   ∃ av,st2.mu[R]?=some (.arr [aI bs[k].up.ar,av])/\Own st2.mu 1 av ((insF pk bs[k].lo (bs[k].up.ts.take j) q.2).1.map rI)/\(∀ b,qj av=some b->R<b)/\(∀ i,i<R->st2.mu[i]?=st.mu[i]?)) ?_ ?_
  .exact ⟨by simp[go_sem,e0],by simp[go_sem,e1],by simp[go_sem,hav],by simp[go_sem,e7],by simp[go_sem,hR],by simp[go_sem],by simp[go_sem,e6,insF],.lst true [],by simp[go_sem,hR],.inl (by simp[insF]),by simp[qj],fun i hi=>by simp[go_sem];rw[qh (by omega)]⟩
  clear e0 e1 e6 e7;rintro j st2 hj ⟨e0,e1,e5,e7,e8,e9,e6,av,hcR,hoA,hbA,hsA⟩;by_cases hjl:j<bs[k].up.ts.length
  .have w2:qJ.wrap ((j:Int)+1)=(j:Int)+1:=qo (by omega) (by omega)
   have hn1:=Zp pk bs[k].lo (bs[k].up.ts.take j) ([],q.2);have hn1':(insF pk bs[k].lo (bs[k].up.ts.take j) q.2).2<=100100000:=by
    have:=List.length_take_le j bs[k].up.ts;have h3:(insF pk bs[k].lo (bs[k].up.ts.take j) q.2).2<=q.2+(bs[k].up.ts.take j).length:=hn1;omega
   have hsl1:=(wv pk bs[k].lo (bs[k].up.ts.take j) ([],q.2) [] (List.Sublist.refl _)).length_le;have hsl2:(insF pk bs[k].lo (bs[k].up.ts.take j) q.2).1.length<=100000:=by
    have:=List.length_take_le j bs[k].up.ts;have h3:(insF pk bs[k].lo (bs[k].up.ts.take j) q.2).1.length<=([]++bs[k].up.ts.take j).length:=hsl1;simp at h3;omega
   have hst:=XQ pk bs[k].lo bs[k].up.ts q.2 j hjl;generalize hp:insF pk bs[k].lo (bs[k].up.ts.take j) q.2=p at *
   have w3:qJ.wrap ((p.2:Int)+1)=(p.2:Int)+1:=qo (by omega) (by omega);have hlR:R<st2.mu.length:=(qc.1 hcR).1;have hav1:qj av≠some st2.mu.length:=fun h=>by have:=Own.lt hoA h;omega
   have havR:qj av≠some R:=fun h=>by have:=hbA R h;omega
   have hcR':∀ c,(st2.mu++[c])[R]?=some (.arr [aI bs[k].up.ar,av]):=fun c=>by rw[qh hlR];exact hcR
   have hin:=in06 ⟨bs[k].up.ar,[bs[k].up.ts[j]]⟩ bs[k].lo (by simp) (by omega) bso;rw[X0]at hin;have hwk:WKs [.agg [aI bs[k].up.ar,.lst true [[aI bs[k].up.ts[j]]]],eRel bs[k].lo] [eRel ⟨bs[k].up.ar,[bs[k].up.ts[j]]⟩,eRel bs[k].lo] := .cons (WK.aggs (.cons (.hf (HF.sc _)) (.cons (WK.ints [bs[k].up.ts[j]]) .nil))) (.cons (.hf (vo _)) .nil);have happ:∀(K:AV->Mu->Prop),(∀ av' mu',Own mu' 1 av' ((p.1++[bs[k].up.ts[j]]).map rI)->mu'[R]?=some (.arr [aI bs[k].up.ar,av])->(∀ b,qj av'=some b->R<b)->(∀ i,i<R->mu'[i]?=st.mu[i]?)->K av' mu')->qD qa (st2.mu++[.arr [aI bs[k].up.ar,.lst true [[aI bs[k].up.ts[j]]]]]) #[28,28] av (.lst true [[aI bs[k].up.ts[j]]]) K:=fun K hK=>by
    refine qD.ownB (e:=3) (sz:=1) (bt:=8) (zv:=aI 0) (xs:=p.1.map rI) (ys:=[rI bs[k].up.ts[j]]) (by simp[go_sem]) (by simp[go_sem]) (by simp[go_sem]) rfl rfl (by omega) (by omega) (Own.push hoA _) (by simp[qZ]) (jf _) (jf [_]) (by simp;omega) ?_;intro av' mu' ho' hs' hb' hl';refine hK av' mu' (by rw[yC];exact ho') (by rw[hs' R (by simp;omega) havR];exact hcR' _) (fun b h=>by have:=hb' b h;simp at this;omega) fun i hi=>?_
    rw[hs' i (by simp;omega) (fun h=>by have:=hbA i h;omega),qh (by omega)];exact hsA i hi
   by_cases hmem:bs[k].up.ts[j]∈bs[k].lo.ts
   .have hst':insF pk bs[k].lo (bs[k].up.ts.take (j+1)) q.2=(p.1++[bs[k].up.ts[j]],p.2):=by rw[hst,yy,if_pos hmem]
    simp[go_sem,e0,e1,e5,e7,e8,e9,e6,hlt,hjl,hcR,hcR'];refine qI.intro (by kernel_rfl) ?_;simp[go_sem,e0,e1,e5,e7,e8,e9,e6,hlt,hjl,hcR,hcR'];refine qd.pure hin hwk ?_;simp[go_sem,e0,e1,e5,e7,e8,e9,e6,hlt,hjl,hcR,hcR',hmem];refine happ _ fun av' mu' h1 h2 h3 h4=>?_
    simp[go_sem,e0,e1,e5,e7,e8,e9,e6,hlt,hjl,h2,w2,Own.one h1,Own.cells h1]
    try refine⟨hjl,Keep.mk' ?_⟩
    try refine Keep.mk' ?_
    refine⟨by simp[go_sem,e0],by simp[go_sem,e1],by simp[go_sem,e5],by simp[go_sem,e7],by simp[go_sem,e8],by simp[go_sem],by simp[go_sem,e6,hst'],av',by simp[go_sem,(qc.1 h2).1],?_,h3,fun i hi=>?_⟩
    .rw [hst']
     simpa[go_sem] using Own.set h1 (.arr [aI bs[k].up.ar,av']) (fun h=>by have:=h3 R h;omega)
    .simp [go_sem]
     rw[q9 (by omega)];exact h4 i hi
   .by_cases hpk:p.2<pk.length
    .cases hpb:pk[p.2] with
     |true =>
      have hst':insF pk bs[k].lo (bs[k].up.ts.take (j+1)) q.2=(p.1++[bs[k].up.ts[j]],p.2+1):=by rw[hst,yy,if_neg hmem,qH,qs hpk,hpb];rfl
      simp[go_sem,e0,e1,e5,e7,e8,e9,e6,hlt,hjl,hcR,hcR'];refine qI.intro (by kernel_rfl) ?_;simp[go_sem,e0,e1,e5,e7,e8,e9,e6,hlt,hjl,hcR,hcR'];refine qd.pure hin hwk ?_;simp[go_sem,e0,e1,e5,e7,e8,e9,e6,hlt,hjl,hcR,hcR',hmem,hpk,hpb];refine happ _ fun av' mu' h1 h2 h3 h4=>?_
      simp[go_sem,e0,e1,e5,e7,e8,e9,e6,hlt,hjl,h2,w2,w3,Own.one h1,Own.cells h1]
      try refine⟨hjl,Keep.mk' ?_⟩
      try refine Keep.mk' ?_
      refine⟨by simp[go_sem,e0],by simp[go_sem,e1],by simp[go_sem,e5],by simp[go_sem,e7],by simp[go_sem,e8],by simp[go_sem],by simp[go_sem,hst'],av',by simp[go_sem,(qc.1 h2).1],?_,h3,fun i hi=>?_⟩
      .rw [hst']
       simpa[go_sem] using Own.set h1 (.arr [aI bs[k].up.ar,av']) (fun h=>by have:=h3 R h;omega)
      .simp [go_sem]
       rw[q9 (by omega)];exact h4 i hi
     |false =>
      have hst':insF pk bs[k].lo (bs[k].up.ts.take (j+1)) q.2=(p.1,p.2+1):=by rw[hst,yy,if_neg hmem,qH,qs hpk,hpb];simp
      simp[go_sem,e0,e1,e5,e7,e8,e9,e6,hlt,hjl,hcR,hcR'];refine qI.intro (by kernel_rfl) ?_;simp[go_sem,e0,e1,e5,e7,e8,e9,e6,hlt,hjl,hcR,hcR'];refine qd.pure hin hwk ?_;simp[go_sem,e0,e1,e5,e7,e8,e9,e6,hlt,hjl,hcR,hcR',hmem,hpk,hpb,w2,w3]
      try refine⟨hjl,Keep.mk' ?_⟩
      try refine Keep.mk' ?_
      refine⟨by simp[go_sem,e0],by simp[go_sem,e1],by simp[go_sem,e5],by simp[go_sem,e7],by simp[go_sem,e8],by simp[go_sem],by simp[go_sem,hst'],av,by simp[go_sem,hcR'],?_,hbA,fun i hi=>?_⟩
      .rw [hst'];simpa[go_sem] using Own.push hoA _
      .simp [go_sem];rw[qh (by omega)];exact hsA i hi
    .have hst':insF pk bs[k].lo (bs[k].up.ts.take (j+1)) q.2=(p.1,p.2+1):=by rw[hst,yy,if_neg hmem,qH,ym (by omega)];simp
     simp[go_sem,e0,e1,e5,e7,e8,e9,e6,hlt,hjl,hcR,hcR'];refine qI.intro (by kernel_rfl) ?_;simp[go_sem,e0,e1,e5,e7,e8,e9,e6,hlt,hjl,hcR,hcR'];refine qd.pure hin hwk ?_;simp[go_sem,e0,e1,e5,e7,e8,e9,e6,hlt,hjl,hcR,hcR',hmem,hpk,w2,w3]
     try refine⟨hjl,Keep.mk' ?_⟩
     try refine Keep.mk' ?_
     refine⟨by simp[go_sem,e0],by simp[go_sem,e1],by simp[go_sem,e5],by simp[go_sem,e7],by simp[go_sem,e8],by simp[go_sem],by simp[go_sem,hst'],av,by simp[go_sem,hcR'],?_,hbA,fun i hi=>?_⟩
     .rw [hst'];simpa[go_sem] using Own.push hoA _
     .simp [go_sem];rw[qh (by omega)];exact hsA i hi
  .have hge:j=bs[k].up.ts.length:=by omega
   subst hge;rw[zG]at e6 hoA;have hsA2:=wv pk bs[k].lo bs[k].up.ts ([],q.2) [] (List.Sublist.refl _);have hq1:q.1.length=k:=by
    rw[<-hq];have:=congrArg List.length (Zq pk (bs.take k) ([],0));simp at this;show (z8 (bs.take k) pk).1.length=k;rw[z8,this];omega
   simp[go_sem,e0,e1,e5,e7,e8,e9,e6,hlt,hcR,Own.one hoA];refine qD.giveB (e:=60) (sz:=2) (bt:=32) (zv := .agg [aI 0,.lst true []]) (xs:=q.1.map cRel) (cRel ⟨bs[k].up.ar,(insF pk bs[k].lo bs[k].up.ts q.2).1⟩) R (by simp[go_sem]) (by simp[go_sem]) (by simp[go_sem]) rfl rfl (by omega) (by omega) ?_ hsl ?_ (vp _) (vp [_]) (by simp;omega) ?_
   .rcases ho with h|⟨b,h,hc⟩
    .exact .inl h
    .refine .inr ⟨b,h,?_⟩
     rw[hsA b (hsl b (by rw[h];rfl))];exact hc
   .refine ⟨.hf _ (HF.sc _),?_,trivial⟩
    exact Own.rd (Vo hoA fun b h=>by have:=hbA b h;omega) (jf _).ok fun r hr c hc=>by
     obtain⟨n,_,rfl⟩:=qr.1 hr;simp at hc;subst hc;exact HF.sc _
   intro av' mu' ho' hs' hb' hl' hx';have hlR:R<st2.mu.length:=(qc.1 hcR).1;simp[go_sem,e0,e1,e5,e7,e8,e9,e6,hlt,w1,Own.one ho']
   try refine⟨hlt,Keep.mk' ?_⟩
   try refine Keep.mk' ?_
   refine⟨by simp[go_sem,e0],by simp[go_sem,e1],by simp[go_sem,e6,hsucc,insB],by simp[go_sem],?_,fun i hi=>?_,fun b h=>?_,by simp[go_sem];omega,fun _=>by simp[go_sem];exact hx'⟩
   .rw [hsucc,insB,yC]
    simpa[go_sem] using ho'
   .simp [go_sem]
    rw[hs' i (by omega) (by omega) (fun h=>by have:=hbk i h;omega),hsA i (by omega)];exact hs i hi
   .simp [go_sem]at h
    have:=hb' b h;omega
 .have hge:k=bs.length:=by omega
  subst hge;rw[zG]at ho e6;simp[go_sem,e0,e1,e6,e7,Own.one ho];exact⟨ho,hs,hbk,hml,hne⟩
end GR
namespace JG
open Y1 YF E3 GG GH JE JF GP GR
def nF:Nd := .mk 1 (bA [102]) 0 [] 0
def nTwo:Nd := .mk 38 (bA []) 0 [.mk 21 (bA []) 0 [nF] 0,.mk 20 (bA []) 2 [] 0] 0
def nTrue:Nd := .mk 30 (bA []) 0 [] 0
def X2:Nd := .mk 31 (bA []) 0 [] 0
def nsH:List Nd:=[nTwo,nTrue,X2]
theorem inlH:∀ n,n∈nsH->qf qa 135 [eTS tsH,eNd n] (.tup [eNd n,aI 0]):=by
 have h:nsH.all (fun n=>vy (envL H0) 1000 135 [eTS tsH,eNd n] (.tup [eNd n,aI 0]))=true:=by kernel_rfl
 exact fun n hn=>jU jj (qt.1 h n hn)
theorem tabOf{E:EnvJ}(hE:jP qa E)(n:Nat){f:FuncId}{l:List (List AV×AV)}(h:l.all (fun p=>eqLi (eqV 64) (p.1.map (nV 64)) p.1&&vy E n f p.1 p.2)=true):zU qa f (yx (tabX l)):=by
 refine ud (ue fun p hp=>?_);have:=qt.1 h p hp;rw[qe]at this;rw[y3 (fun a b=>vn) this.1];exact jU hE this.2
theorem Zu{f:FuncId}{l:List (List AV×AV)}(h:l.all (fun p=>eqLi (eqV 64) (p.1.map (nV 64)) p.1)=true)(hs:∀ p,p∈l->qf qa f p.1 p.2):zU qa f (yx (tabX l)):=by
 refine ud (ue fun p hp=>?_);rw[y3 (fun a b=>vn) (qt.1 h p hp)];exact hs p hp
theorem ul{l:List (FuncId×zL)}{f:FuncId}{h:zL}(hl:∀ p,p∈l->zU qa p.1 p.2)(hh:zU qa f h):∀ p,p∈(f,h) :: l->zU qa p.1 p.2:=fun p hp=>by
 rcases qz.1 hp with rfl|hp
 .exact hh
 .exact hl p hp
theorem instH:qf qa 115 [eTS tsH,eSc scH,lBd bsH] (.tup [lMd (z7 inH csH 1),aI 0]):=
 XA tsH scH bsH csH inH 1 rfl (by omega) (by
  intro r hr;simp[csH]at hr;rcases hr with rfl|rfl|rfl<;>exact⟨rfl,rfl,fun x hx=>by simp only[qz,zz,or_false]at hx;rcases hx with rfl|rfl|rfl<;>exact HF.sc _⟩) (by decide) (by decide) (by decide) uvH bvH chH fun k hk c hc=>by
   obtain rfl:k=0:=by omega
   exact XD c hc
def inlT:List (List AV×AV):=nsH.map fun n=>([eTS tsH,eNd n],.tup [eNd n,aI 0])
def hT(n:Nd)(m:Md):Bool:=if n.op=38 then decide (((m.states.getD 0 []).getD 0 ⟨0,[]⟩).ts.length=2) else decide (n.op=30)
def holT:List (List AV×AV):=nsH.flatMap fun n=>(subL [] csH).map fun c=>([eTS tsH,eMd (inH 0 c),eNd n],.tup [aB (hT n (inH 0 c)),aI 0])
def insT:List (List AV×AV):=[([eTS tsH,eSc scH,lBd bsH],.tup [lMd (z7 inH csH 1),aI 0])]
noncomputable def H1:List (FuncId×zL):=(136,yx (Zk H0)) :: (135,yx (tabX inlT)) :: H0
theorem X3:∀ p,p∈H0->zU qa p.1 p.2:=fun p hp=>by
 simp only[H0,qz,zz,or_false]at hp;rcases hp with rfl|rfl|rfl
 .exact jj.1 _ _ (by kernel_rfl)
 .exact jj.1 _ _ (by kernel_rfl)
 .exact jj.1 _ _ (by kernel_rfl)
theorem Vp:∀ p,p∈H1->zU qa p.1 p.2:=
 ul (ul X3 (Zu (by kernel_rfl) fun p hp=>by
  obtain⟨n,hn,rfl⟩:=qr.1 hp;exact inlH n hn)) (XC jj)
theorem holH:holT.all (fun p=>eqLi (eqV 64) (p.1.map (nV 64)) p.1&&vy (envL H1) 3000 116 p.1 p.2)=true:=by kernel_rfl
def defT:List (List AV×AV):=[([eTS tsH,eSc scH],lBd bsH)]
theorem defH:qf qa 28 [eTS tsH,eSc scH] (lBd bsH):=by
 have:=Vm tsH scH (Vl (by decide +kernel))
 rwa[show defB tsH scH=bsH by decide +kernel]at this
noncomputable def H2:List (FuncId×zL):=(28,yx (tabX defT)) :: (115,yx (tabX insT)) :: (116,yx (tabX holT)) :: H1
theorem X4:∀ p,p∈H2->zU qa p.1 p.2:=
 ul (ul (ul Vp (tabOf (Zj Vp) 3000 holH)) (Zu (by kernel_rfl) fun p hp=>by
  simp only[insT,qV]at hp;subst hp;exact instH)) (Zu (by kernel_rfl) fun p hp=>by
  simp only[defT,qV]at hp;subst hp;exact defH)
theorem headU:qf qa 8 [] (aB true):=jU (Zj X4) (n:=3000) (by kernel_rfl)
end JG
namespace GS
open YF P1 E1 E3 E4 EO F4 GB G5 GP GR
abbrev rBs(l:List Bool):List AV:=[lB l]
abbrev lBB(l:List (List Bool)):AV := .lst false (l.map rBs)
theorem Jy(l:List Bool):HF (lB l):=HF.lst fun r hr c hc=>by
 obtain⟨n,_,rfl⟩:=qr.1 hr;simp at hc;subst hc;exact HF.sc _
theorem wz(l:List (List Bool)):HF (lBB l):=HF.lst fun r hr c hc=>by
 obtain⟨n,_,rfl⟩:=qr.1 hr;simp at hc;subst hc;exact Jy n
theorem Vq{ts:TS}{sc:Sc}(F:Fit9 ts sc)(h5:sumI sc.atoms<=5):∀ b,b∈defB ts sc->b.up.ts.length<=1000/\b.up.ts.Pairwise (·<·)/\Vn b:=fun b hb=>by
 obtain⟨f,hf,rfl⟩:=qr.1 hb;have h3:=(F.f1 f hf).2;have hp:=F.p;have h1:(jV sc f.sorts).length<=1000:=by
  refine zt (Vd _ _ _) ?_;have:sumI sc.atoms ^ f.sorts.length<=125:=by
   rcases (show f.sorts.length=0\/f.sorts.length=1\/f.sorts.length=2\/f.sorts.length=3 by omega) with e|e|e|e<;>rw[e]<;>rcases (show sumI sc.atoms=1\/sumI sc.atoms=2\/sumI sc.atoms=3\/sumI sc.atoms=4\/sumI sc.atoms=5 by omega) with d|d|d|d|d<;>rw[d]<;>decide
  omega
 exact⟨h1,XK _ _ _,by simp;omega,by simp,by simp[sorted]⟩
def fixS(vs:List Bool)(r0 rs:List Rl)(j:Nat):List Rl:=rs.mapIdx fun f r=>if f<j/\vs.getD f true=false then r0.getD f noR else r
theorem X5(vs:List Bool)(r0 rs:List Rl):fixS vs r0 rs 0=rs:=by
 refine ya fun f=>?_
 simp[fixS]
theorem X6(vs:List Bool)(r0 rs:List Rl)(j:Nat):(fixS vs r0 rs j).length=rs.length:=by simp[fixS]
theorem X7(vs:List Bool)(r0 rs:List Rl)(j:Nat)(h:j<rs.length):fixS vs r0 rs (j+1)=if vs.getD j true=false then (fixS vs r0 rs j).set j (r0.getD j noR) else fixS vs r0 rs j:=by
 refine ya fun f=>?_
 by_cases hv:vs.getD j true=false
 .rw [if_pos hv,List.getElem?_set]
  simp only[fixS,List.getElem?_mapIdx,List.length_mapIdx];by_cases hf:j=f
  .subst hf
   rw[if_pos rfl,if_pos h,qs h];simp only[qw,Nat.lt_succ_self,hv,and_self,if_true]
  .rw [if_neg hf]
   cases rs[f]? with
   |none=>rfl
   |some r=>simp only[qw];congr 1;by_cases h2:f<j<;>simp[h2,show (f<j+1)=(f<j) by simp;omega]
 .rw [if_neg hv]
  simp only[fixS,List.getElem?_mapIdx];cases rs[f]? with
  |none=>rfl
  |some r =>
   simp only[qw];congr 1;by_cases hf:f=j
   .subst hf;rw[if_neg (fun h=>hv h.2),if_neg (fun h=>hv h.2)]
   .by_cases h2:f<j<;>simp[h2,show (f<j+1)=(f<j) by simp;omega]
theorem X8(vs:List Bool)(bs:List Bd)(pks:List (List Bool))(k:Nat)(h:k≠0):anyS vs bs pks k=fixS vs (zy bs (pks.getD 0 [])) (zy bs (pks.getD k [])) bs.length:=by
 rw[anyS,if_neg h];refine ya fun f=>?_
 simp only[fixS,List.getElem?_mapIdx];cases hq:(zy bs (pks.getD k []))[f]? with
 |none=>rfl
 |some r =>
  have hl:=(qc.1 hq).1;rw[jW]at hl;simp only[qw];congr 1;cases vs.getD f true<;>simp[hl]
theorem Own.put{sz:Nat}{mu:Mu}{av:AV}{xs:List (List AV)}{b:Nat}(h:av = .sl b sz 0 xs.length)(hc:mu[b]?=some (.arr xs.flatten))(w:zm sz xs){i:Nat}{r:List AV}(hr:r.length=sz)(hi:i<xs.length):Own (mu.set b (.arr (zJ xs.flatten (i*sz) r))) sz av (xs.set i r):=by
 refine .inr ⟨b,by rw[List.length_set];exact h,?_⟩;rw[zi (qc.1 hc).1,wP xs i r w hr hi]
abbrev vsT(ts:TS):List Bool:=ts.fields.map fun f=>f.var
theorem anyU(ts:TS)(sc:Sc)(F:Fit9 ts sc)(h5:sumI sc.atoms<=5)(pks:List (List Bool))(lp:Int)(hlp:0<=lp/\lp<=255) :
  qf qa 11 [eTS ts,eSc sc,lBB pks,.sc (.int .u8 lp)] (eMd (anyM sc (vsT ts) (defB ts sc) pks (lp % sc.steps))):=by
 have hd:=Vq F h5;have hdl:(defB ts sc).length=ts.fields.length:=by simp[defB]
 have hnf:=F.nf;have s1:=F.s1;have s4:=F.s4;have hdef:=Vm ts sc F;generalize hD:defB ts sc=D at *
 generalize hS:sc.steps=S at *
 obtain⟨N,rfl⟩:=Int.eq_ofNat_of_zero_le (show 0<=S by omega);refine qSQ call11 func11 rfl {} ?_;simp[go_sem];refine qI.intro (by kernel_rfl) ?_;have n1:¬(N:Int)<1:=by omega
 have n0:¬(N:Int)=0:=by omega
 have n00:¬N=0:=by omega
 have wl:qJ.wrap lp=lp:=qo (by omega) (by omega);have tm:lp.tmod (N:Int)=lp % (N:Int):=VC hlp.1;simp[go_sem,hS,n1,n0,n00,wl,tm];have wsc:WK (.agg [lI sc.atoms,aI N]) (eSc sc):=by rw[<-hS];exact WK.hf (qU sc)
 refine qd.pure hdef (.cons (.hf (yM _)) (.cons wsc .nil)) ?_;generalize hL:lp % (N:Int)=L at *
 have hAM:anyM sc (vsT ts) D pks L=⟨sc,(qg N).map (anyS (vsT ts) D pks),L⟩:=by rw[anyM,hS];rfl
 rw[hAM];generalize hA:anyS (vsT ts) D pks=A at *
 simp[go_sem,hS,n1,n0,n00];refine qx.upK N (fun k st=>st.tm 2=lBB pks/\st.tm 4 = .ip (cTS ts)/\st.tm 5 = .ip [lI sc.atoms,aI sc.steps]/\st.tm 8 = .ptr 0 0/\st.tm 9 = .ptr 1 0/\st.tm 10=lBd D/\st.tm 11=aI k /\
  ∃ s,st.mu[0]?=some (.arr [.lst true [],aI 0,.lst true [],aI 0])/\st.mu[1]?=some (.arr [lI sc.atoms,aI N,s,aI L])/\Own st.mu 1 s (((qg k).map A).map fun r=>[lRel r])/\∀ b,qj s=some b->2<=b) ?_ ?_
 .exact ⟨by simp[go_sem],by simp[go_sem],by simp[go_sem,hS],by simp[go_sem],by simp[go_sem],by simp[go_sem],by simp[go_sem],.lst true [],by simp[go_sem],by simp[go_sem],.inl (by simp),by simp[qj]⟩
 rintro k st hk ⟨e2,e4,e5,e8,e9,e10,e11,s,h0,h1,ho,hb⟩;have hm0:=(qc.1 h0).1;have hm1:=(qc.1 h1).1;by_cases hlt:k<N
 .have w1:qJ.wrap ((k:Int)+1)=(k:Int)+1:=qo (by omega) (by omega)
  have n4:(k:Int)<4:=by omega
  have hins:=fun fl:Bool=>X1 fl D (pks.getD k []) st.mu (by omega) fun b hb=>(hd b hb).2.2
  have hRl:=jW D (pks.getD k []);have hR0l:=jW D (pks.getD 0 []);have hA0:A 0=zy D (pks.getD 0 []):=by rw[<-hA,anyS,if_pos rfl]
  have hAk:k≠0->A k=fixS (vsT ts) (A 0) (zy D (pks.getD k [])) D.length:=fun h=>by rw[hA0,<-hA,X8 _ _ _ _ h]
  have hAk0:k=0->A k=zy D (pks.getD k []):=fun h=>by subst h;exact hA0
  generalize hRR:zy D (pks.getD k [])=R at *
  have hA0l:(A 0).length=D.length:=by rw[hA0];exact hR0l
  simp[go_sem,hS,e2,e4,e5,e8,e9,e10,e11,hlt,n4];by_cases hpk:k<pks.length
  all_goals simp[go_sem,hS,e2,e4,e5,e8,e9,e10,e11,hlt,n4,hpk]
  all_goals first
   | (rw[show lB pks[k] = .lst false ((pks.getD k []).map rB) by rw[qH,qs hpk];rfl];refine qd.eff0 (hins false) ?_ (by rintro r m ⟨av,h,_⟩;cases h))
   | (have hi:=hins true;rw[show (pks.getD k []).map rB=[] by rw[qH,ym (by omega)];rfl]at hi;refine qd.eff0 hi ?_ (by rintro r m ⟨av,h,_⟩;cases h))
  all_goals
   rintro r m ⟨av,h,hoR,hsm,hbR,hml,hne⟩;cases h;simp[go_sem,hS,e2,e4,e5,e8,e9,e10,e11,hlt,n4,hpk];refine qx.upK D.length (fun j st2=>st2.tm 2=lBB pks/\st2.tm 4 = .ip (cTS ts)/\st2.tm 5 = .ip [lI sc.atoms,aI N]/\st2.tm 8 = .ptr 0 0/\st2.tm 9 = .ptr 1 0/\st2.tm 10=lBd D/\st2.tm 11=aI k/\st2.tm 13=r/\st2.tm 14=aI j /\
    Own st2.mu 2 r ((if k=0 then R else fixS (vsT ts) (A 0) R j).map cRel)/\∀ i,i<m.length->qj r≠some i->st2.mu[i]?=m[i]?) ?_ ?_
   .exact ⟨by simp[go_sem,e2],by simp[go_sem,e4],by simp[go_sem,e5,hS],by simp[go_sem,e8],by simp[go_sem,e9],by simp[go_sem,e10],by simp[go_sem,e11],by simp[go_sem],by simp[go_sem],by simpa[go_sem,X5] using hoR,by simp[go_sem]⟩
   rintro j st2 hj ⟨f2,f4,f5,f8,f9,f10,f11,f13,f14,hoJ,hsJ⟩;have hlow:∀ i,i<st.mu.length->st2.mu[i]?=st.mu[i]?:=fun i hi=>by rw[hsJ i (by omega) (fun h=>by have:=hbR i h;omega),hsm i hi]
   have hWl:(if k=0 then R else fixS (vsT ts) (A 0) R j).length=D.length:=by split<;>simp[X6,hRl]
   have hWs:k≠0->j<D.length->(if k=0 then R else fixS (vsT ts) (A 0) R (j+1))=if (vsT ts).getD j true=false then (if k=0 then R else fixS (vsT ts) (A 0) R j).set j ((A 0).getD j noR) else (if k=0 then R else fixS (vsT ts) (A 0) R j):=fun h1 h2=>by rw[if_neg h1,if_neg h1,X7 _ _ _ _ (by omega)]
   have hWe:¬(j<D.length/\k≠0)->(if k=0 then R else fixS (vsT ts) (A 0) R j)=A k:=fun h=>by
    by_cases h0:k=0
    .rw [if_pos h0,hAk0 h0]
    .rw [if_neg h0,hAk h0,show j=D.length by omega]
   generalize hW:(if k=0 then R else fixS (vsT ts) (A 0) R j)=W at *
   simp[go_sem,hS,f2,f4,f5,f8,f9,f10,f11,f13,f14];refine OptK.intro (aI D.length) (by rcases hoJ with h|⟨b,h,_⟩<;>rw[h]<;>simp[hWl]) ?_;by_cases hcont:j<D.length/\k≠0
   .obtain ⟨hjl,hk0⟩:=hcont
    have hvj:(vsT ts).getD j true=ts.fields[j].var:=by rw[qH,qW,qs (show j<ts.fields.length by omega)];rfl
    have w2:qJ.wrap ((j:Int)+1)=(j:Int)+1:=qo (by omega) (by omega);have hmu1:st2.mu[1]?=some (.arr [lI sc.atoms,aI N,s,aI L]):=by rw[hlow 1 hm1];exact h1
    simp[go_sem,hS,f2,f4,f5,f8,f9,f10,f11,f13,f14,hjl,show 0<k by omega,show j<ts.fields.length by omega];cases hv:ts.fields[j].var with
    |true =>
     simp[go_sem,hS,f2,f4,f5,f8,f9,f10,f11,f13,f14,hjl,w2]
     try refine⟨hjl,Keep.mk' ?_⟩
     try refine Keep.mk' ?_
     refine⟨by simp[go_sem,f2],by simp[go_sem,f4],by simp[go_sem,f5],by simp[go_sem,f8],by simp[go_sem,f9],by simp[go_sem,f10],by simp[go_sem,f11],by simp[go_sem,f13],by simp[go_sem],?_,by simpa[go_sem] using hsJ⟩;rw[hWs hk0 hjl,hvj,hv,if_neg (by simp)];simpa[go_sem] using hoJ
    |false =>
     obtain⟨b,hbr⟩:=hne (by omega);have hrs:r = .sl b 2 0 W.length/\st2.mu[b]?=some (.arr (W.map cRel).flatten):=by
      rcases hoJ with h|⟨b',h,hc⟩
      .rw [h]at hbr;cases hbr
      .rw [h]at hbr;cases hbr
       exact⟨by rw[h];simp,hc⟩
     obtain⟨hrs,hcb⟩:=hrs;have hbl:=(qc.1 hcb).1;have hb2:=hbR b hbr;have hfl:(W.map cRel).flatten.length=W.length*2:=by rw[zd (vp W).ok];simp
     have hput:=Own.put (av:=r) (xs:=W.map cRel) (by rw[hrs];simp) hcb (vp W).ok (i:=j) (r:=cRel ((A 0).getD j noR)) rfl (by simp;omega);have hA0j:j<(A 0).length:=by omega
     have hgd:(A 0).getD j noR=(A 0)[j]:=by rw[qH,qs hA0j];rfl
     have hrow0:(((qg k).map A).map fun r=>[lRel r]).flatten[0]?=some (lRel (A 0)):=by
      obtain⟨k',rfl⟩:∃ k',k=k'+1:=⟨k-1,by omega⟩;rw[List.range_succ_eq_map];simp
     have hkr:(((qg k).map A).map fun r=>[lRel r]).length=k:=by simp
     generalize hrows:(((qg k).map A).map fun r=>[lRel r])=rows at *
     have hr0:rows[0]?=some [lRel (A 0)]:=by
      rw[<-hrows];obtain⟨k',rfl⟩:∃ k',k=k'+1:=⟨k-1,by omega⟩;rw[List.range_succ_eq_map];rfl
     have hsum:(rows.map List.length).sum=k:=by
      have:=zd (sz:=1) (xs:=rows) (by rw[<-hrows];intro r hr;obtain⟨n,_,rfl⟩:=qr.1 hr;rfl);rw[List.length_flatten]at this;omega
     have htk1:rows.flatten.take 1=[lRel (A 0)]:=by
      cases hfx:rows.flatten with
      |nil=>rw[hfx]at hrow0;cases hrow0
      |cons x l=>rw[hfx]at hrow0;cases hrow0;rfl
     have hpc:(W.map cRel).flatten.take (j*2)++aI (A 0)[j].ar :: lI (A 0)[j].ts :: (W.map cRel).flatten.drop (j*2+2)=((W.set j (A 0)[j]).map cRel).flatten:=by
      rw[List.map_set,wP (W.map cRel) j _ (vp W).ok rfl (by simp;omega),yS _ _ _ (by simp only[hfl,cRel,zN,List.length_nil];omega)];simp
     have hWset:Own (st2.mu.set b (.arr ((W.set j (A 0)[j]).map cRel).flatten)) 2 r ((W.set j (A 0)[j]).map cRel) := .inr ⟨b,by rw[hrs];simp,zi hbl⟩;have hWn:=hWs hk0 hjl;rw[hvj,hv,if_pos rfl,hgd]at hWn;rcases ho with rfl|⟨c,rfl,hcc⟩
     .simp [go_sem,hS,f2,f4,f5,f8,f9,f10,f11,f13,f14,hjl,hmu1,hrs,hcb,hfl,hWl,hA0j]
      refine OptK.intro (.ip [lRel (A 0)]) (by rw[hr0];simp[hkr];omega) ?_;simp[go_sem,hS,f2,f4,f5,f8,f9,f10,f11,f13,f14,hjl,hmu1,hrs,hcb,hfl,hWl,hA0j];refine OptK.intro (st2.mu.set b (.arr ((W.set j (A 0)[j]).map cRel).flatten)) (by rw[if_pos (by omega),hpc]) ?_;simp[go_sem,f2,f4,f5,f8,f9,f10,f11,f13,f14,hjl,w2]
      try refine⟨hjl,Keep.mk' ?_⟩
      try refine Keep.mk' ?_
      refine⟨by simp[go_sem,f2],by simp[go_sem,f4],by simp[go_sem,f5],by simp[go_sem,f8],by simp[go_sem,f9],by simp[go_sem,f10],by simp[go_sem,f11],by simp[go_sem,f13],by simp[go_sem],by rw[hWn];simpa[go_sem] using hWset,fun i hi hn=>?_⟩;simp only[uW];rw[q9 (fun e=>hn (by rw[<-e];exact hbr))];exact hsJ i hi hn
     .have hcl:=(qc.1 hcc).1
      have hcc2:=hlow c hcl;rw[hcc]at hcc2;simp[go_sem,hS,f2,f4,f5,f8,f9,f10,f11,f13,f14,hjl,hmu1,hcc2,hrow0,hkr,show 0<k by omega,hrs,hcb,hfl,hWl,hA0j];refine OptK.intro (lRel (A 0)) (by rw[hsum,if_pos (by omega),htk1];rfl) ?_;simp[go_sem,hS,f2,f4,f5,f8,f9,f10,f11,f13,f14,hjl,hmu1,hcc2,hrow0,hkr,show 0<k by omega,hrs,hcb,hfl,hWl,hA0j];refine OptK.intro (st2.mu.set b (.arr ((W.set j (A 0)[j]).map cRel).flatten)) (by rw[if_pos (by omega),hpc]) ?_;simp[go_sem,f2,f4,f5,f8,f9,f10,f11,f13,f14,hjl,w2]
      try refine⟨hjl,Keep.mk' ?_⟩
      try refine Keep.mk' ?_
      refine⟨by simp[go_sem,f2],by simp[go_sem,f4],by simp[go_sem,f5],by simp[go_sem,f8],by simp[go_sem,f9],by simp[go_sem,f10],by simp[go_sem,f11],by simp[go_sem,f13],by simp[go_sem],by rw[hWn];simpa[go_sem] using hWset,fun i hi hn=>?_⟩;simp only[uW];rw[q9 (fun e=>hn (by rw[<-e];exact hbr))];exact hsJ i hi hn
   .have hjk:j<D.length->¬ 0<k:=fun h=>by omega
    rw[hWe hcont]at hoJ;have hmu1:st2.mu[1]?=some (.arr [lI sc.atoms,aI N,s,aI L]):=by rw[hlow 1 hm1];exact h1
    by_cases hjl:j<D.length<;>simp[go_sem,hS,f2,f4,f5,f8,f9,f10,f11,f13,f14,hjl,hjk,hmu1,Own.one hoJ,Own.cells hoJ]
    all_goals
     refine qD.giveB (e:=58) (sz:=1) (bt:=24) (zv := .lst true []) (xs:=((qg k).map A).map fun r=>[lRel r]) [lRel (A k)] st.mu.length (by simp[go_sem]) (by simp[go_sem]) (by simp[go_sem]) rfl rfl (by omega) (by omega) ?_ (fun b h=>Own.lt ho h) ?_ ?_ ?_ (by simp;omega) ?_
     .rcases ho with h|⟨b,h,hc⟩
      .exact .inl h
      .exact .inr ⟨b,h,by rw[hlow b (qc.1 hc).1];exact hc⟩
     .exact ⟨Own.rd (Vo hoJ hbR) (vp _).ok fun r hr c hc=>by
       obtain⟨n,_,rfl⟩:=qr.1 hr;exact QK n c hc,trivial⟩
     .intro r hr
      obtain⟨n,_,rfl⟩:=qr.1 hr;exact⟨rfl,rfl⟩
     .intro r hr
      simp at hr;subst hr;exact⟨rfl,rfl⟩
     intro av' mu' ho' hs' hb' hl' hx';have hm2:st.mu.length<=st2.mu.length:=by
      have:=hlow (st.mu.length-1) (by omega);rw[qs (show st.mu.length-1<st.mu.length by omega)]at this;have:=(qc.1 this).1;omega
     have g1:mu'[1]?=some (.arr [lI sc.atoms,aI N,s,aI L]):=by rw[hs' 1 (by omega) hm1 (fun h=>by have:=hb 1 h;omega)];exact hmu1
     have g0:mu'[0]?=some (.arr [.lst true [],aI 0,.lst true [],aI 0]):=by rw[hs' 0 (by omega) hm0 (fun h=>by have:=hb 0 h;omega),hlow 0 hm0];exact h0
     have l1:=(qc.1 g1).1;simp[go_sem,hS,f2,f4,f5,f8,f9,f10,f11,f13,f14,g1,w1,Own.one ho',Own.cells ho']
     try refine⟨hlt,Keep.mk' ?_⟩
     try refine Keep.mk' ?_
     refine⟨by simp[go_sem,f2],by simp[go_sem,f4],by simp[go_sem,f5,hS],by simp[go_sem,f8],by simp[go_sem,f9],by simp[go_sem,f10],by simp[go_sem],av',by simp[go_sem,g0],by simp[go_sem,l1],?_,fun b h=>by have:=hb' b h;omega⟩;rw[List.range_succ,yC,yC];simpa[go_sem] using Own.set ho' (.arr [lI sc.atoms,aI N,av',aI L]) (fun h=>by have:=hb' 1 h;omega)
 .have hge:k=N:=by omega
  subst hge;have hs1:s.one=true:=Own.one ho;have hs2:s.cells=[s]:=Own.cells ho;have hset:∀ c,(st.mu.set 0 c)[0]?=some c:=fun c=>zi hm0
  simp[go_sem,hS,e2,e4,e5,e8,e9,e10,e11,h0,h1,hs1,hs2,hset];have hS0:=Own.set ho (i:=0) (.arr [lI sc.atoms,aI k,s,aI L]) (fun h=>by have:=hb 0 h;omega);show Rd _ _ (.agg [lI sc.atoms,aI sc.steps,lSt ((qg k).map A),aI L]);rw[hS];refine Rd.aggs ⟨.hf _ (qT _),.hf _ (HF.sc _),?_,.hf _ (HF.sc _),trivial⟩;exact Own.rd hS0 (fun r hr=>by
   obtain⟨n,_,rfl⟩:=qr.1 hr;rfl) fun r hr c hc=>by
   obtain⟨n,_,rfl⟩:=qr.1 hr;simp at hc;subst hc;exact ju n
end GS
namespace GN
open E3 E4 F1 GD
theorem X9(xs ys:List Rl)(fv:AV)(p:Rl->Rl->Bool)(hf:vt qa fv eRel (fun x y=>x∈xs/\y∈ys) p)(hl:xs.length<=1000000000) :
  qf qa 68 [lRel xs,lRel ys,fv] (aB (zc p xs ys)):=by
 refine qSQ call68 func68 rfl {} ?_;simp[go_sem];by_cases hne:xs.length=ys.length
 rotate_left
 .simp [go_sem,hne,Zc p xs ys hne]
  exact .hf _ (HF.sc _)
 simp[go_sem,hne];refine qx.up xs.length (fun k st=>st.tm 1=lRel ys/\st.tm 2=fv/\st.tm 15=lRel xs/\st.tm 16=aI xs.length/\st.tm 17=aI k/\zc p (xs.drop k) (ys.drop k)=zc p xs ys) ?_ ?_
 .simp [go_sem,hne]
 rintro k st hk ⟨e1,e2,e15,e16,e17,hi⟩;by_cases hlt:k<xs.length
 .have hlt2:k<ys.length:=by omega
  rw[JT p xs ys k hlt hlt2]at hi;simp[go_sem,e1,e2,e15,e16,e17,hlt,hlt2];refine vt.call (enc:=eRel) hf ⟨qY hlt,qY hlt2⟩ ?_;cases hp:p xs[k] ys[k] with
  |true =>
   rw[hp,Bool.true_and]at hi;simp[go_sem,e1,e2,e15,e16,e17,hlt,hlt2];exact⟨qo (by omega) (by omega),hi⟩
  |false =>
   rw[hp,Bool.false_and]at hi;simp[go_sem,e1,e2,e15,e16,e17,hlt,hlt2];rw[<-hi];exact .hf _ (HF.sc _)
 .have hge:k=xs.length:=by omega
  subst hge;rw[vC,hne,vC]at hi;simp[go_sem,e1,e2,e15,e16,e17];rw[<-hi];exact .hf _ (HF.sc _)
theorem Zv{α:Type} [DecidableEq α]:∀(xs ys:List α),zc (fun x y=>decide (x=y)) xs ys=decide (xs=ys)
 | [],[]=>rfl
 | [],_ :: _=>rfl
 |_ :: _,[]=>rfl
 |x :: xs,y :: ys=>by
  rw[zc,Zv xs ys,wG];simp
theorem QW(xs ys:List Rl)(hl:xs.length<=1000000000)(ht:∀ r,r∈xs->r.ts.length<=1000000000):qf qa 40 [lRel xs,lRel ys] (aB (decide (xs=ys))):=by
 refine qSQ call40 func40 rfl {} ?_;simp[go_sem];refine qd.pure (X9 xs ys _ (fun x y=>decide (x=y)) ⟨vu _,_,_,rfl,fun x y hxy=>⟨[eRel x,eRel y],by simpa using WKs.cons (.hf (vo x)) (.cons (.hf (vo y)) .nil),W8 x y (by have:=ht x hxy.1;omega)⟩⟩ hl) (.cons (.hf (ju _)) (.cons (.hf (ju _)) (.cons (.hf (vu _)) .nil))) ?_;rw[Zv];simp[go_sem];exact .hf _ (HF.sc _)
structure smMd (m:Md):Prop where
 na:m.sc.atoms.length<=1000000000
 ns:m.states.length<=1000000000
 nf:∀ s,s∈m.states->s.length<=1000000000
 nt:∀ s,s∈m.states->∀ r,r∈s->r.ts.length<=1000000000
instance:DecidableEq Sc:=fun a b=>decidable_of_iff (a.atoms=b.atoms/\a.steps=b.steps) (by
 obtain⟨a1,a2⟩:=a;obtain⟨b1,b2⟩:=b;simp)
instance:DecidableEq Md:=fun a b=>decidable_of_iff (a.sc=b.sc/\a.states=b.states/\a.loop=b.loop) (by
 obtain⟨a1,a2,a3⟩:=a;obtain⟨b1,b2,b3⟩:=b;simp)
theorem Ka(a b:Md):decide (a=b)=(decide (a.sc.atoms=b.sc.atoms)&&decide (a.sc.steps=b.sc.steps)&&decide (a.loop=b.loop)&&decide (a.states=b.states)):=by
 obtain⟨⟨a1,a2⟩,a3,a4⟩:=a;obtain⟨⟨b1,b2⟩,b3,b4⟩:=b;rw[wG];simp;constructor
 .rintro ⟨⟨h1,h2⟩,h3,h4⟩;exact⟨⟨⟨h1,h2⟩,h4⟩,h3⟩
 .rintro ⟨⟨⟨h1,h2⟩,h4⟩,h3⟩;exact⟨⟨h1,h2⟩,h3,h4⟩
theorem Kb(a b:Md)(ha:smMd a):qf qa 13 [eMd a,eMd b] (aB (decide (a=b))):=by
 refine qSQ call13 func13 rfl {} ?_;rw[Ka];simp[go_sem];refine qd.pure (QV _ _ (by have:=ha.na;omega)) (.cons (.hf (qT _)) (.cons (.hf (qT _)) .nil)) ?_;by_cases h1:a.sc.atoms=b.sc.atoms
 .by_cases h2:a.sc.steps=b.sc.steps
  .by_cases h3:a.loop=b.loop
   .simp [go_sem,h1,h2,h3]
    refine qd.pure (JU a.states b.states _ (fun x y=>decide (x=y)) ⟨vu _,_,_,rfl,fun x y hxy=>⟨[lRel x,lRel y],by simpa using WKs.cons (.hf (ju x)) (.cons (.hf (ju y)) .nil),QW x y (ha.nf x hxy.1) (ha.nt x hxy.1)⟩⟩ ha.ns) (.cons (.hf (vr _)) (.cons (.hf (vr _)) (.cons (.hf (vu _)) .nil))) ?_;rw[Zv];simp[go_sem];exact .hf _ (HF.sc _)
   .simp [go_sem,h1,h2,h3]
    exact .hf _ (HF.sc _)
  .simp [go_sem,h1,h2]
   exact .hf _ (HF.sc _)
 .simp [go_sem,h1]
  exact .hf _ (HF.sc _)
end GN
namespace W41
open Y1 YF P1 E3 E9 F1 GD GM GN GP GQ GR GS
abbrev u8(x:Int):AV := .sc (.int .u8 x)
abbrev lRaw(r:List (List Int)):AV := .lst false (r.map fun l=>[.lst false (l.map fun x=>[u8 x])])
abbrev um(ts:TS)(sc:Sc)(raw:List (List Int))(n:Nd)(pks:List (List Bool))(lp:Int):List AV:=cTS ts++([lI sc.atoms,aI sc.steps,lRaw raw]++(cNd n++[lBB pks,u8 lp]))
theorem Kc{m:Md}(h:SmS m.states)(ha:m.sc.atoms.length<=1000):smMd m:=
 ⟨by omega,by have:=h.n;omega,fun s hs=>by have:=h.f s hs;omega,fun s hs r hr=>by have:=(h.t s hs r hr).1;omega⟩
theorem Vr{a b:Md}(ha:SmS a.states)(hb:SmS b.states) : -3000000000<=zx a b/\zx a b<=3000000000:=by
 have h:=uh (f:=xorT) (M:=2000000) (by omega) a.states b.states fun x y hx hy=>wo (ha.f x hx) (fun r hr=>(ha.t x hx r hr).1) (fun r hr=>(hb.t y hy r hr).1)
 have h1:=ha.n;have h2:(a.states.length:Int)*2000000<=1000*2000000:=by omega
 have h3 : -(2000000000:Int)<=xorS a.states b.states/\xorS a.states b.states<=2000000000:=by unfold xorS;omega
 unfold zx;split
 .split<;>omega
 .omega
theorem Ke(ts:TS)(sc:Sc)(raw:List (List Int))(n:Nd)(pks second third:List (List Bool))(lp l0 l1:Int)(hlp:0<=lp/\lp<=255)(hl0:0<=l0/\l0<=255)(hl1:0<=l1/\l1<=255) :
  qf qa 3 [.agg (um ts sc raw n pks lp),lBB second,lBB third,.agg [u8 l0,u8 l1]] (aB true):=by
 obtain⟨op,nm,i,ks,p⟩:=n;have hcn:um ts sc raw (.mk op nm i ks p) pks lp=[.lst false (ts.sorts.map u9),.lst false (ts.fields.map wa),lPd ts.preds,lFa ts.facts,lI sc.atoms,aI sc.steps,lRaw raw,aI op,aS nm,aI i,.lst false (ks.map cNd),aI p,lBB pks,u8 lp]:=by unfold um;rw[we];rfl
 rw[hcn];refine qSQ call3 func3 rfl {} ?_;simp[go_sem];refine qd.pure JG.headU .nil ?_;simp[go_sem];refine qd.pure (XZ ts sc) (.cons (.hf (yM ts)) (.cons (.hf (qU sc)) .nil)) ?_;cases hf:zM ts sc with
 |false =>
  simp[go_sem];exact .hf _ (HF.sc _)
 |true =>
  have F:=Vl hf;simp[go_sem];refine qd.pure (Xt sc F.g) (.cons (.hf (qU sc)) .nil) ?_;by_cases h5:5<sumI sc.atoms
  .simp [go_sem,h5]
   exact .hf _ (HF.sc _)
  replace h5:sumI sc.atoms<=5:=by omega
  have n5:¬ 5<sumI sc.atoms:=by omega
  have hd:=Vq F h5;have hnf:=F.nf;have hna:sc.atoms.length<=1000:=by have:=F.g.1;omega
  have hs4:=F.s4;have wr:∀ l:List (List Bool),WKs [eTS ts,eSc sc,lBB l] [eTS ts,eSc sc,lBB l]:=fun l => .cons (.hf (yM ts)) (.cons (.hf (qU sc)) (.cons (.hf (wz l)) .nil))
  have hall:∀(l:List (List Bool)) (x:Int),Shd sc ((defB ts sc).map fun b=>b.up.ar) sc.steps.toNat (anyM sc (vsT ts) (defB ts sc) l x)/\SmS (anyM sc (vsT ts) (defB ts sc) l x).states/\(anyM sc (vsT ts) (defB ts sc) l x).sc=sc:=
   fun l x=>⟨XU sc _ _ l x fun b hb=>(hd b hb).2.1,XV sc _ _ l x (by omega) (by simp[defB];omega) fun b hb=>⟨(hd b hb).1,(hd b hb).2.1⟩,rfl⟩
  have c0:=anyU ts sc F h5 pks lp hlp;have c1:=anyU ts sc F h5 second l0 hl0;have c2:=anyU ts sc F h5 third l1 hl1;obtain⟨a0,a1,a2⟩:=hall pks (lp % sc.steps);obtain⟨b0,b1,b2⟩:=hall second (l0 % sc.steps);obtain⟨d0,d1,d2⟩:=hall third (l1 % sc.steps);generalize anyM sc (vsT ts) (defB ts sc) pks (lp % sc.steps)=A at *
  generalize anyM sc (vsT ts) (defB ts sc) second (l0 % sc.steps)=B at *
  generalize anyM sc (vsT ts) (defB ts sc) third (l1 % sc.steps)=D at *
  obtain⟨m1,m2,m3,m4⟩:=Zo a0 b0 d0;have maa:=(Zo a0 a0 a0).2.1.2 rfl;have mbd:=(Zo b0 d0 d0).1;have eAB:=ui A B a1 b1 (by rw[a2];omega);have eBD:=ui B D b1 d1 (by rw[b2];omega);have eAD:=ui A D a1 d1 (by rw[a2];omega);have eBA:=ui B A b1 a1 (by rw[b2];omega);have eAA:=ui A A a1 a1 (by rw[a2];omega);have bAB:=Vr a1 b1;have bBD:=Vr b1 d1;have eEq:=Kb A B (Kc a1 (by rw[a2];exact hna));rw[m3]at eBA;rw[maa]at eAA;generalize zx A B=x at *
  generalize zx B D=y at *
  generalize zx A D=z at *
  have w2:∀ P Q:Md,WKs [eMd P,eMd Q] [eMd P,eMd Q]:=fun P Q => .cons (.hf (Jz P)) (.cons (.hf (Jz Q)) .nil)
  simp[go_sem,n5];refine qd.pure c0 (.cons (.hf (yM ts)) (.cons (.hf (qU sc)) (.cons (.hf (wz _)) (.cons (.hf (HF.sc _)) .nil)))) ?_;simp[go_sem,n5];refine qd.pure c1 (.cons (.hf (yM ts)) (.cons (.hf (qU sc)) (.cons (.hf (wz _)) (.cons (.hf (HF.sc _)) .nil)))) ?_;simp[go_sem,n5];refine qd.pure c2 (.cons (.hf (yM ts)) (.cons (.hf (qU sc)) (.cons (.hf (wz _)) (.cons (.hf (HF.sc _)) .nil)))) ?_;simp[go_sem,n5];refine qd.pure eAB (w2 _ _) ?_;simp[go_sem,n5];refine qd.pure eBD (w2 _ _) ?_;simp[go_sem,n5];refine qd.pure eAD (w2 _ _) ?_;simp[go_sem,n5];have wxy:qJ.wrap (x+y)=x+y:=qo (by omega) (by omega);simp[go_sem,m1];refine qd.pure eEq (w2 _ _) ?_;have hxe:decide (x=0)=decide (A=B):=by rw[decide_eq_decide];exact m2
  simp[go_sem,m1,<-hxe];refine qd.pure eBA (w2 _ _) ?_;simp[go_sem,m1,wxy,m4];refine qd.pure eAA (w2 _ _) ?_;simp[go_sem];exact .hf _ (HF.sc _)
end W41
end Go.Proofs.YtccifccjhgdikaaGreatDoor
namespace Go.EvW
open Go Go.Ev Go.RowKit Go.ChangeShapes Go.WideShapes
def CR(w:World)(xs:List AV)(cs:List Value):Prop:=
 cs.length=xs.length/\∀(k:Nat) x,xs[k]?=some x->VRel ⟨(·<w.heap.size),[]⟩ w.heap x (cs.getD k undef)
theorem CR.nil(w:World):CR w [] []:=⟨rfl,by simp⟩
theorem CR.one{w:World}{x:AV}{v:Value}(h:VRel ⟨(·<w.heap.size),[]⟩ w.heap x v):CR w [x] [v]:=⟨rfl,fun k y hk=>by
 cases k with
 |zero=>simp at hk;subst hk;simpa using h
 |succ k=>simp at hk⟩
theorem CR.app{w:World}{xs ys:List AV}{cs ds:List Value}(h:CR w xs cs)(k:CR w ys ds):CR w (xs++ys) (cs++ds):=by
 refine⟨by simp[h.1,k.1],fun i x hi=>?_⟩;by_cases hl:i<xs.length
 .rw [qh hl]at hi
  have:=h.2 i x hi;rw[qH]at this⊢;rw[qh (by rw[h.1];exact hl)];exact this
 .rw [qB (by omega)]at hi
  have:=k.2 _ x hi;rw[qH]at this⊢;rw[qB (by rw[h.1];omega),h.1];exact this
def zq{H:Type}(P:Program)(t:TypeId)(d:DataW H):Prop:=(d.weights P t).all (·<=reachBytes)=true
theorem zq.all{H:Type}{P:Program}{e:TypeId}:∀{ds:List (DataW H)},(DataW.weightsAll P e ds).all (·<=reachBytes)=true->∀(i:Nat) d,ds[i]?=some d->zq P e d
 | [],_,i,d,hi=>by simp at hi
 |x :: r,h,i,d,hi=>by
  simp only[DataW.weightsAll,List.all_append,qe]at h;cases i with
  |zero=>simp at hi;subst hi;exact h.1
  |succ i=>exact zq.all h.2 i d (by simpa using hi)
theorem zq.each{H:Type}{P:Program}:∀{ts:List TypeId} {ds:List (DataW H)},(DataW.weightsEach P ts ds).all (·<=reachBytes)=true->∀(i:Nat) t d,ts[i]?=some t->ds[i]?=some d->zq P t d
 | [],ds,_,i,t,d,hi,_=>by simp at hi
 |t0 :: ts,[],_,i,t,d,_,hj=>by simp at hj
 |t0 :: ts,x :: r,h,i,t,d,hi,hj=>by
  simp only[DataW.weightsEach,List.all_append,qe]at h;cases i with
  |zero=>simp at hi hj;subst hi;subst hj;exact h.1
  |succ i=>exact zq.each h.2 i t d (by simpa using hi) (by simpa using hj)
def ShT(P:Program)(n:Nat)(t:TypeId){α:Type}(c:α->List AV)(ok:α->Prop):Prop:=
 ∀(H:Type) (enc:TypeId×Value->H) (w:World) (cs:List Value) (x:DataW H×List MemPlace),
  DataW.trod enc P w 0 (fun _=>true) true n t cs=some x->zq P t x.1->∃ a,ok a/\CR w (c a) cs
def ShU(P:Program)(N:Nat)(t:TypeId){α:Type}(c:α->List AV)(ok:α->Prop):Prop:=∀ n,n<N->ShT P n t c ok
theorem ShU.le{P:Program}{N M:Nat}{t:TypeId}{α:Type}{c:α->List AV}{ok:α->Prop}(h:ShU P N t c ok)(hm:M<=N):ShU P M t c ok:=fun n hn=>h n (by omega)
theorem ShU.map{P:Program}{N:Nat}{t:TypeId}{α β:Type}{c:α->List AV}{ok:α->Prop}{c':β->List AV}{ok':β->Prop}(h:ShU P N t c ok)(f:α->β)(hc:∀ a,c' (f a)=c a)(ho:∀ a,ok a->ok' (f a)):ShU P N t c' ok':=by
 intro n hn H enc w cs x hx hw;obtain⟨a,h1,h2⟩:=h n hn H enc w cs x hx hw;exact⟨f a,ho a h1,by rw[hc];exact h2⟩
theorem ShU.int{P:Program}{t:TypeId}{k:IntKind}(ht:P.underlying t=some (.int k))(N:Nat):ShU P N t (fun n:Int=>[.sc (.int k n)]) (fun n=>(Lit.int k n).wf=true):=by
 intro n hn H enc w cs x h _;obtain⟨i,rfl,_,hw⟩:=DataW.trod_int ht h;exact⟨i,hw,.one (.sc _ rfl)⟩
theorem ShU.bool{P:Program}{t:TypeId}(ht:P.underlying t=some .bool)(N:Nat):ShU P N t (fun b:Bool=>[.sc (.bool b)]) (fun _=>True):=by
 intro n hn H enc w cs x h _;obtain⟨i,rfl,_⟩:=DataW.trod_bool ht h;exact⟨i,trivial,.one (.sc _ rfl)⟩
theorem ShU.string{P:Program}{t:TypeId}(ht:P.underlying t=some .string)(N:Nat):ShU P N t (fun s:ByteArray=>[.sc (.string s)]) (fun s=>s.size<=140737488351232):=by
 intro n hn H enc w cs x h hw;obtain⟨i,rfl,rfl,hs⟩:=DataW.trod_string ht h;refine⟨i,?_,.one (.sc _ rfl)⟩;unfold zq at hw;simp only[DataW.weights,List.all_cons,List.all_nil,Bool.and_true,decide_eq_true_eq]at hw;have e:i.data.toList.length=i.size:=Array.length_toList;have h1:i.size<=reachBytes:=by rw[<-e];exact hw
 exact zt h1 (ze rfl)
theorem Vs{w:World}{a:Addr}{n:Nat}{cs:List Value}(h:w.cells? 0 a n=some cs):cs.length=n/\∀ i,i<n->w.cell? (a.add i)=some (cs.getD i undef):=by
 unfold World.cells? at h;rw[if_pos (Nat.zero_le _)]at h;have hl:=mapM_some_length h;refine⟨by simpa using hl,fun i hi=>?_⟩;have:=mapM_some_get h i i (by simp[hi]);have hi':i<cs.length:=by simp at hl;omega
 rw[this,qH,qs hi'];rfl
theorem Vt{w:World}{a:Addr}{v:Value}(h:w.cell? a=some v):∃ arr e fr,w.heap[a.block]?=some (.cells arr e fr)/\a.spot=none/\arr[a.off]?=some v:=by
 unfold World.cell? at h;split at h
 .rename_i c e fr hb
  split at h
  .cases h
  .rename_i hs
   exact⟨c,e,fr,hb,by simpa using hs,h⟩
 .cases h
theorem Kf{α:Type} [Inhabited α] {p:Nat->α->Prop} (n:Nat) (h:∀ i,i<n->∃ a,p i a):∃ l:List α,l.length=n/\∀(i:Nat) a,l[i]?=some a->p i a:=by
 induction n with
 |zero=>exact⟨[],rfl,by simp⟩
 |succ n ih =>
  obtain⟨l,h1,h2⟩:=ih (fun i hi=>h i (by omega));obtain⟨a,ha⟩:=h n (by omega);refine⟨l++[a],by simp[h1],fun i b hb=>?_⟩;by_cases hi:i<l.length
  .rw [qh hi]at hb;exact h2 i b hb
  .rw [qB (by omega)]at hb
   have:i-l.length=0:=by
    cases hq:i-l.length with
    |zero=>rfl
    |succ q=>rw[hq]at hb;simp at hb
   rw[this]at hb;simp at hb;subst hb;have:i=n:=by omega
   subst this;exact ha
theorem ShU.slice{P:Program}{N:Nat}{t e:TypeId}{α:Type} [Inhabited α] {c:α->List AV} {ok:α->Prop} (ht:P.underlying t=some (.slice e)) (he:ShU P N e c ok) (hsz:∀ a,ok a->(c a).length=P.cellsOf e) (hpos:0<P.cellsOf e) (hby:Nat.blt 0 (P.bytesOf e)=true) :
  ShU P (N+1) t (fun l:List α=>[.lst false (l.map c)]) (fun l=>l.length<=140737488351232/\∀ a,a∈l->ok a):=by
 intro n hn H enc w cs x h hw;rcases DataW.trod_slice ht h with ⟨rfl,_⟩|⟨a,len,cap,elems,rest,m,rfl,rfl,rfl,_,hl,hc,hel,hget,_,_⟩
 .exact ⟨[],⟨by simp,by simp⟩,.one (.nil _)⟩
 .have hwl:(DataW.weightsAll P e (elems.map (·.1))).all (·<=reachBytes)=true:=by
   unfold zq at hw;simp only[DataW.weights,ht,List.all_cons,List.all_append,qe]at hw;exact hw.2.1
  have hlr:len<=140737488351232:=by
   unfold zq at hw;simp only[DataW.weights,ht,List.all_cons,List.all_append,qe,decide_eq_true_eq]at hw;have h1:=hw.1;have hb1:1<=P.bytesOf e:=ze hby;have h2:((elems.map (·.1)).length+(rest.map (·.1)).length)*1<=((elems.map (·.1)).length+(rest.map (·.1)).length)*P.bytesOf e:=Nat.mul_le_mul_left _ hb1;simp only[zr]at h1 h2;have h3:reachBytes<=140737488351232:=ze rfl;have h4:=zt h2 (zt h1 h3);omega
  have key:∀ i,i<len->∃ b,ok b/\∃ cs',w.cells? 0 (a.add (i*P.cellsOf e)) (P.cellsOf e)=some cs'/\CR w (c b) cs':=by
   intro i hi;have h1:=hget i hi;have hie:i<elems.length:=by omega
   rw[qs hie]at h1;obtain⟨cs',h2,h3⟩:=Option.bind_eq_some_iff.1 h1;obtain⟨b,h4,h5⟩:=he m (by omega) H enc w cs' _ h3 (zq.all hwl i _ (by rw[qW,qs hie];rfl));exact⟨b,h4,cs',h2,h5⟩
  obtain⟨l,hll,hlp⟩:=Kf len key;refine⟨l,⟨by rw[hll];exact hlr,fun b hb=>?_⟩,.one ?_⟩
  .obtain ⟨i,hi⟩:=List.mem_iff_getElem?.1 hb
   exact(hlp i b hi).1
  .have hlm:(l.map c).length=len:=by simp[hll]
   rw[<-hlm];cases Nat.eq_zero_or_pos len with
   |inl h0 =>
    have:l=[]:=yn (by omega);subst this;exact .emp _ a cap (by simp)
   |inr hp =>
    have hl0:0<l.length:=by omega
    obtain⟨_,cs0,h1,_⟩:=hlp 0 l[0] (qs hl0);obtain⟨hcl,hcg⟩:=Vs h1;have hc0:=hcg 0 hpos;obtain⟨arr,el,fr,hb,hs,_⟩:=Vt hc0;have hadd:∀ k:Nat,a.spot=none->(a.add k).spot=none/\(a.add k).off=a.off+k:=by
     intro k hk;unfold Addr.add;split<;>simp_all
    have hab:∀(b:Addr) (j:Nat),(b.add j).block=b.block:=by
     intro b j;unfold Addr.add;split<;>rfl
    have e0:((a.add (0*P.cellsOf e)).add 0).block=a.block/\((a.add (0*P.cellsOf e)).add 0).spot=a.spot:=by
     unfold Addr.add;split<;>simp_all
    rw[e0.1]at hb;rw[e0.2]at hs;have hz:zm (P.cellsOf e) (l.map c):=fun r hr=>by
     obtain⟨b,hbm,rfl⟩:=qr.1 hr;obtain⟨i,hi⟩:=List.mem_iff_getElem?.1 hbm;exact hsz b (hlp i b hi).1
    have hfl:=zd hz;refine .lst false (l.map c) (P.cellsOf e) a cap arr el fr (fun k=>arr.getD (a.off+k) undef) hb hs (by omega) (by simp) (Array.getElem?_eq_some_iff.1 hb).1 hz ?_ ?_
    all_goals
     intro k x hk;have hkl:k<(l.map c).length*P.cellsOf e:=by rw[<-hfl];exact(qc.1 hk).1
     have hq:k / P.cellsOf e<l.length:=by
      rw[zr]at hkl;exact Nat.div_lt_of_lt_mul (by rw[Nat.mul_comm];exact hkl)
     have hr:k % P.cellsOf e<P.cellsOf e:=Nat.mod_lt _ hpos;have hdm:k / P.cellsOf e*P.cellsOf e+k % P.cellsOf e=k:=by
      have:=Nat.div_add_mod k (P.cellsOf e);rw[Nat.mul_comm]at this;exact this
     obtain⟨_,cs',h1,h2⟩:=hlp (k / P.cellsOf e) _ (qs hq);obtain⟨hcl,hcg⟩:=Vs h1;have hc1:=hcg _ hr;have hrow:(l.map c)[k / P.cellsOf e]?=some (c l[k / P.cellsOf e]):=by rw[qW,qs hq];rfl
     have hx:(c l[k / P.cellsOf e])[k % P.cellsOf e]?=some x:=by
      have hlt:k % P.cellsOf e<(c l[k / P.cellsOf e]).length:=by rw[hsz _ (hlp _ _ (qs hq)).1];exact hr
      have:=wI hz hrow (qs hlt);rw[hdm]at this;rw[this]at hk;rw[qs hlt];exact hk
     obtain⟨arr',el',fr',hb',hs',hv'⟩:=Vt hc1;have e1:((a.add (k / P.cellsOf e*P.cellsOf e)).add (k % P.cellsOf e)).block=a.block:=by rw[hab,hab]
     have e2:((a.add (k / P.cellsOf e*P.cellsOf e)).add (k % P.cellsOf e)).off=a.off+k:=by
      have a1:=(hadd (k / P.cellsOf e*P.cellsOf e) hs).2;have a2:=(hadd (k / P.cellsOf e*P.cellsOf e) hs).1;have:∀(b:Addr) (j:Nat),b.spot=none->(b.add j).off=b.off+j:=by
       intro b j hb;unfold Addr.add;split<;>simp_all
      rw[this _ _ a2,a1];omega
     rw[e1,hb]at hb';cases hb';rw[e2]at hv';have hgd:arr.getD (a.off+k) undef=cs'.getD (k % P.cellsOf e) undef:=by
      rw[qi,hv'];rfl
    .rw [hgd];exact hv'
    .show VRel _ _ x (arr.getD (a.off+k) undef)
     rw[hgd];exact h2.2 _ x hx
def wA(P:Program)(t:TypeId):Option (List (TypeId×Nat)):=match P.underlying t with|some (.struct fs)=>some (fs.toList.map fun f=>(f.type,f.offset))|_=>none
inductive ShF (P:Program) (N:Nat):Nat->List (TypeId×Nat)->{α:Type}->(α->List AV)->(α->Prop)->Prop where
 |nil (o:Nat):ShF P N o [] (fun _:Unit=>[]) (fun _=>True)
 |cons {o:Nat} {t:TypeId} {fs:List (TypeId×Nat)} {α β:Type} {c:α->List AV} {ok:α->Prop} {c':β->List AV} {ok':β->Prop} (h:ShU P N t c ok) (k:ShF P N (o+P.cellsOf t) fs c' ok') :
   ShF P N o ((t,o) :: fs) (fun x:α×β=>c x.1++c' x.2) (fun x=>ok x.1/\ok' x.2)
def un(P:Program)(fs:List (TypeId×Nat)):Nat:=(fs.map fun f=>P.cellsOf f.1).foldr (·+·) 0
theorem ShF.read{P:Program}{N n o:Nat}{fs:List (TypeId×Nat)}{α:Type}{c:α->List AV}{ok:α->Prop}(h:ShF P N o fs c ok)(hn:n<N){H:Type}{enc:TypeId×Value->H}{w:World}(cs:List Value)
  (hlen:cs.length=o+un P fs) (hx:∀(i:Nat) f,fs[i]?=some f->∃ x,DataW.trod enc P w 0 (fun _=>true) true n f.1 ((cs.drop f.2).take (P.cellsOf f.1))=some x/\zq P f.1 x.1) :
  ∃ a,ok a/\CR w (c a) (cs.drop o):=by
 induction h with
 |nil o =>
  refine⟨(),trivial,?_⟩;rw[List.drop_of_length_le (by simp[un]at hlen;omega)];exact .nil w
 | @cons o t fs α β c ok c' ok' h k ih =>
  obtain⟨x,hx0,hxw⟩:=hx 0 _ rfl;obtain⟨a,ha,hr⟩:=h n hn H enc w _ x hx0 hxw;have hfs:un P ((t,o) :: fs)=P.cellsOf t+un P fs:=rfl;obtain⟨b,hb,hs⟩:=ih (by omega) (fun i g hg=>hx (i+1) g hg);refine⟨(a,b),⟨ha,hb⟩,?_⟩;have e:cs.drop o=(cs.drop o).take (P.cellsOf t)++cs.drop (o+P.cellsOf t):=by
   rw[<-List.drop_drop,uq]
  rw[e];exact hr.app hs
theorem ShU.struct{P:Program}{N:Nat}{t:TypeId}{fs:List (TypeId×Nat)}{α:Type}{c:α->List AV}{ok:α->Prop}(ht:wA P t=some fs)(hf:ShF P N 0 fs c ok)(hsz:P.cellsOf t=un P fs):ShU P (N+1) t c ok:=by
 intro n hn H enc w cs x h hw;unfold wA at ht;split at ht
 .rename_i gs hu
  simp only[qb]at ht;subst ht;obtain⟨xs,m,rfl,rfl,hl,hxl,hg⟩:=DataW.trod_struct hu h;have hwl:(DataW.weightsEach P (gs.toList.map (·.type)) (xs.map (·.1))).all (·<=reachBytes)=true:=by
   unfold zq at hw;simp only[DataW.weights,hu]at hw;exact hw
  obtain⟨a,ha,hr⟩:=hf.read (n:=m) (by omega) (w:=w) (enc:=enc) cs (by rw[hl,hsz];simp) (fun i f hi=>by
   simp only[qW,zj]at hi;obtain⟨g,hgi,rfl⟩:=hi;have h1:=hg i g (by simpa using hgi);have hil:i<xs.length:=by
    rw[hxl];have:=(qc.1 hgi).1;simpa using this
   rw[qs hil]at h1;exact⟨_,h1,zq.each hwl i _ _ (by rw[qW,hgi];rfl) (by rw[qW,qs hil];rfl)⟩)
  exact⟨a,ha,by simpa using hr⟩
 .cases ht
def Opq(k:Nat)(xs:List AV):Prop:=xs.length=k/\∀ x,x∈xs->HF x
theorem Opq.sc(v:Value):Opq 1 [.sc v]:=⟨rfl,fun x hx=>by simp at hx;subst hx;exact HF.sc v⟩
theorem Opq.app{a b:Nat}{xs ys:List AV}(h:Opq a xs)(k:Opq b ys):Opq (a+b) (xs++ys):=
 ⟨by simp[h.1,k.1],fun x hx=>(qy.1 hx).elim (h.2 x) (k.2 x)⟩
theorem Opq.nil:Opq 0 []:=⟨rfl,by simp⟩
theorem Opq.lst{k:Nat}{l:List (List AV)}(h:∀ a,a∈l->Opq k a):Opq 1 [.lst false l]:=⟨rfl,fun x hx=>by
 simp at hx;subst hx;exact HF.lst fun r hr c hc=>(h r hr).2 c hc⟩
theorem ShU.arg1{P:Program}{t:TypeId}{α:Type}{c:α->AV}{ok:α->Prop}(h:∀ N,ShU P N t (fun a=>[c a]) ok)(hone:∀(w:World) (r:Reach) (b:Nat) (v:Value),Value.okWide P w r b t v->v.cells=#[v])
  {H:Type} {enc:TypeId×Value->H} {w:World} {r:Reach} {b:Nat} {v:Value} {d:DataW H} {ps:List MemPlace} (hok:Value.okWide P w r b t v) (hd:DataW.Trod enc P w 0 (fun _=>true) true t v d ps) (hw:zq P t d) :
  ∃ a,ok a/\VRel ⟨(·<w.heap.size),[]⟩ w.heap (c a) v:=by
 obtain⟨n,hn⟩:=hd;obtain⟨a,ha,hr⟩:=h (n+1) n (by omega) H enc w _ _ hn hw;rw[hone w r b v hok]at hr;have:=hr.2 0 (c a) rfl;exact⟨a,ha,by simpa using this⟩
theorem ShU.argS{P:Program}{t:TypeId}{α:Type}{c:α->List AV}{ok:α->Prop}{fs:Array Field}(h:∀ N,ShU P N t c ok)(ht:P.underlying t=some (.struct fs))
  {H:Type} {enc:TypeId×Value->H} {w:World} {r:Reach} {b:Nat} {v:Value} {d:DataW H} {ps:List MemPlace} (hok:Value.okWide P w r b t v) (hd:DataW.Trod enc P w 0 (fun _=>true) true t v d ps) (hw:zq P t d) :
  ∃ a,ok a/\VRel ⟨(·<w.heap.size),[]⟩ w.heap (.agg (c a)) v:=by
 obtain⟨n,hn⟩:=hd;obtain⟨a,ha,hr⟩:=h (n+1) n (by omega) H enc w _ _ hn hw;unfold Value.okWide at hok;rw[ht]at hok;obtain⟨cs,rfl,_,_⟩:=hok;refine⟨a,ha,.agg _ _ (by simpa[Value.cells] using hr.1) (fun k x hk=>?_)⟩;have:=hr.2 k x hk;simpa[Value.cells,qi,qH] using this
theorem Kg{P:Program}{t:TypeId}{k:IntKind}(ht:P.underlying t=some (.int k))(w:World)(r:Reach)(b:Nat)(v:Value)(h:Value.okWide P w r b t v):v.cells=#[v]:=by
 unfold Value.okWide at h;rw[ht]at h;simp only[Cell.okWide,ht]at h;cases v<;>simp_all[Value.cells,Cell.ok]
theorem Kh{P:Program}{t:TypeId}(ht:P.underlying t=some .bool)(w:World)(r:Reach)(b:Nat)(v:Value)(h:Value.okWide P w r b t v):v.cells=#[v]:=by
 unfold Value.okWide at h;rw[ht]at h;simp only[Cell.okWide,ht]at h;cases v<;>simp_all[Value.cells,Cell.ok]
theorem Ki{P:Program}{t:TypeId}(ht:P.underlying t=some .string)(w:World)(r:Reach)(b:Nat)(v:Value)(h:Value.okWide P w r b t v):v.cells=#[v]:=by
 unfold Value.okWide at h;rw[ht]at h;simp only[Cell.okWide,ht]at h;cases v<;>simp_all[Value.cells,Cell.ok]
theorem Kj{P:Program}{t e:TypeId}(ht:P.underlying t=some (.slice e))(w:World)(r:Reach)(b:Nat)(v:Value)(h:Value.okWide P w r b t v):v.cells=#[v]:=by
 unfold Value.okWide at h;rw[ht]at h;simp only[Cell.okWide,ht]at h;cases v<;>simp_all[Value.cells,Cell.ok]
end Go.EvW
namespace Go.EvW
open Go Go.Ev Go.RowKit Go.ChangeShapes Go.WideShapes
def zE(P:Program)(t:TypeId){α:Type}(c:α->AV)(ok:α->Prop):Prop:=
 ∀(H:Type) (enc:TypeId×Value->H) (w:World) (r:Reach) (b:Nat) (v:Value) (d:DataW H) (ps:List MemPlace),Value.okWide P w r b t v->DataW.Trod enc P w 0 (fun _=>true) true t v d ps->zq P t d ->
  ∃ a,ok a/\VRel ⟨(·<w.heap.size),[]⟩ w.heap (c a) v
theorem zE.struct{P:Program}{t:TypeId}{α:Type}{c:α->List AV}{ok:α->Prop}(ht:(wA P t).isSome=true)(h:∀ N,ShU P N t c ok):zE P t (fun a => .agg (c a)) ok:=by
 intro H enc w r b v d ps h1 h2 h3;unfold wA at ht;split at ht
 .rename_i fs hu;exact ShU.argS h hu h1 h2 h3
 .simp at ht
theorem zE.slice{P:Program}{t e:TypeId}{α:Type}{c:α->AV}{ok:α->Prop}(ht:P.underlying t=some (.slice e))(h:∀ N,ShU P N t (fun a=>[c a]) ok):zE P t c ok:=
 fun H enc w r b v d ps h1 h2 h3=>ShU.arg1 h (Kj ht) h1 h2 h3
theorem zE.int{P:Program}{t:TypeId}{k:IntKind}{α:Type}{c:α->AV}{ok:α->Prop}(ht:P.underlying t=some (.int k))(h:∀ N,ShU P N t (fun a=>[c a]) ok):zE P t c ok:=
 fun H enc w r b v d ps h1 h2 h3=>ShU.arg1 h (Kg ht) h1 h2 h3
theorem zE.string{P:Program}{t:TypeId}{α:Type}{c:α->AV}{ok:α->Prop}(ht:P.underlying t=some .string)(h:∀ N,ShU P N t (fun a=>[c a]) ok):zE P t c ok:=
 fun H enc w r b v d ps h1 h2 h3=>ShU.arg1 h (Ki ht) h1 h2 h3
theorem zE.bool{P:Program}{t:TypeId}{α:Type}{c:α->AV}{ok:α->Prop}(ht:P.underlying t=some .bool)(h:∀ N,ShU P N t (fun a=>[c a]) ok):zE P t c ok:=
 fun H enc w r b v d ps h1 h2 h3=>ShU.arg1 h (Kh ht) h1 h2 h3
inductive ArgF (P:Program):List TypeId->{α:Type}->(α->List AV)->(α->Prop)->Prop where
 |nil:ArgF P [] (fun _:Unit=>[]) (fun _=>True)
 |cons {t:TypeId} {ts:List TypeId} {α β:Type} {c:α->AV} {ok:α->Prop} {c':β->List AV} {ok':β->Prop} (h:zE P t c ok) (k:ArgF P ts c' ok'):ArgF P (t :: ts) (fun x:α×β=>c x.1 :: c' x.2) (fun x=>ok x.1/\ok' x.2)
theorem ArgF.read{P:Program}{ts:List TypeId}{α:Type}{c:α->List AV}{ok:α->Prop}(h:ArgF P ts c ok){H:Type}{enc:TypeId×Value->H}{w:World}{r:Reach}{b:Nat} :
  ∀{vs:List Value} {ds:List (DataW H)} {ps:List MemPlace},DataW.TrodAll enc P w 0 (fun _=>true) true ts vs ds ps->(∀(j:Nat) t v,ts[j]?=some t->vs[j]?=some v->Value.okWide P w r b t v)->(DataW.weightsEach P ts ds).all (·<=reachBytes)=true ->
  ∃ a,ok a/\ds.length=ts.length/\vs.length=(c a).length/\∀(k:Nat) x,(c a)[k]?=some x->VRel ⟨(·<w.heap.size),[]⟩ w.heap x (vs.getD k undef):=by
 induction h with
 |nil =>
  intro vs ds ps ht _ _;obtain⟨rfl,rfl,rfl⟩:=trodAll_nil ht;exact⟨(),trivial,rfl,rfl,by simp⟩
 | @cons t ts α β c ok c' ok' h k ih =>
  intro vs ds ps ht hk hw;obtain⟨v,vs',d,ds',p,q,rfl,rfl,rfl,h1,h2⟩:=trodAll_cons ht;simp only[DataW.weightsEach,List.all_append,qe]at hw;obtain⟨a,ha,hr⟩:=h H enc w r b v d p (hk 0 t v rfl rfl) h1 hw.1;obtain⟨a',ha',hdl,hl,hg⟩:=ih h2 (fun j t v=>hk (j+1) t v) hw.2;refine⟨(a,a'),⟨ha,ha'⟩,by simp[hdl],by simp[hl],fun k x hx=>?_⟩;cases k with
  |zero=>simp at hx;subst hx;simpa using hr
  |succ k =>
   simp only[y6]at hx;simpa[qH] using hg k x hx
theorem Vu{P:Program}(hl:laidOutB P=true){H:Type}{enc:TypeId×Value->H}{W W':World}{sp:Nat->Bool}:∀{ts:List TypeId} {vs:List Value} {ds:List (DataW H)} {ps:List MemPlace},
  (∀ t,t∈ts->P.readableRec t=true/\t<P.types.size)->DataW.TrodAll enc P W 0 (fun _=>true) true ts vs ds ps->(∀ p∈ps,W.sameAt W' p)->(∀ p∈ps,sp p.block=true)->DataW.TrodAll enc P W' 0 sp true ts vs ds ps
 | [],vs,ds,ps,_,h,_,_=>by
  obtain⟨rfl,rfl,rfl⟩:=trodAll_nil h;exact trodAll_mk0
 |t :: ts,vs,ds,ps,hr,h,h1,h2=>by
  obtain⟨v,vs',d,ds',p,q,rfl,rfl,rfl,g1,g2⟩:=trodAll_cons h;have ht:=hr t (by simp);exact trodAll_cons_mk (WideElems.Trod_stays hl ht.1 ht.2 g1 (fun x hx=>h1 x (by simp[hx])) (fun x hx=>h2 x (by simp[hx])))
   (Vu hl (fun t ht=>hr t (by simp[ht])) g2 (fun x hx=>h1 x (by simp[hx])) (fun x hx=>h2 x (by simp[hx])))
theorem Kk{P:Program}{f:FuncId}{fn:Func}{s:ChangeSpec}{ts:List TypeId}{tb:TypeId}{α:Type}{c:α->List AV}{ok:α->Prop}(hp:fn.params=ts.toArray)(hF:ArgF P ts c ok)(hv:s.vars=[])
  (hfn:∀(H:Type) (ds:List (DataW H)),ds.length=ts.length->s.fn H ds={ results:=[.lit (.bool true)],args:=ds }) (hr:fn.resultTypes=#[tb]) (htb:P.underlying tb=some .bool)
  (hl:laidOutB P=true) (hrr:(ts.all fun t=>P.readableRec t&&decide (t<P.types.size))=true) (hS:∀ a,ok a->qf P f (c a) (aB true))
  (H:Type) (enc:TypeId×Value->H) (W:World) (base:Nat) (args:Array Value) (ds gs:List (DataW H)) (before:List MemPlace)
  (hval:∀(j:Nat) t v,fn.params[j]?=some t->args[j]?=some v->Value.okWide P W .any base t v) (hW:DataW.Whole enc P fn.params.toList s.vars false W args.toList ds gs before) (hwt:(DataW.weightsEach P fn.params.toList ds).all (·<=reachBytes)=true) (hT:jA (·<W.heap.size) W.heap) :
  Calls P f args W fun e W'=>∃ v,e = .returned v/\s.post enc P fn false true false false W args v W':=by
 have hW':=hW;obtain⟨p,q,hA,hV,hpq,hfz,_⟩:=hW;rw[hv]at hV;obtain⟨hg,hq⟩:=trodVars_none hV;subst hg;subst hq;rw[y5]at hpq;subst hpq;rw[hp]at hA hval;obtain⟨a,ha,hdl,hvl,hvg⟩:=hF.read (r := .any) (b:=base) hA (fun j t v h1 h2=>hval j t v (by simpa using h1) (by simpa using h2)) (by rw[hp]at hwt;exact hwt);have hlt:∀ x,x∈before->x.block<W.heap.size:=fun x hx=>hA.lt x hx
 obtain⟨_,hcall⟩:=hS a ha;refine(hcall (·<W.heap.size) W args (Sim.empty (fun _ h=>h) hT) ⟨by simpa using hvl,fun k x hk=>?_⟩).mono fun e W' ⟨imm',v,he,_,_,hb,hrv⟩=>?_
 .have:=hvg k x hk
  simpa[qi,qH] using this
 .have hvb:v = .bool true:=by cases hrv;rfl
  subst hvb;refine⟨_,he,ds,[],before,[],before,[],hW',?_,?_,?_,World.keptBut_mono (fun x hx=>⟨hx,.inr (.inl hx)⟩) (hb.frame (·∈before)),fun h=>by cases h⟩
  all_goals try rw[y5]
  all_goals try rw[hfn H ds hdl]
  .rw [hr]
   exact trodAll_cons_mk (p':=[]) (shut_bool htb true) trodAll_mk0
  .rw [hp]
   refine Vu hl (fun t ht=>?_) hA (fun x hx=>hb.same (hlt x hx)) (fun x hx=>by simpa using hlt x hx);have:=qt.1 hrr t ht;simpa using this
  .rw [hv];rfl
theorem ShF.cons'{P:Program}{N o o':Nat}{t:TypeId}{fs:List (TypeId×Nat)}{α β:Type}{c:α->List AV}{ok:α->Prop}{c':β->List AV}{ok':β->Prop}(ho:o+P.cellsOf t=o')(h:ShU P N t c ok)(k:ShF P N o' fs c' ok') :
  ShF P N o ((t,o) :: fs) (fun x:α×β=>c x.1++c' x.2) (fun x=>ok x.1/\ok' x.2):=by
 subst ho;exact .cons h k
theorem Vv{P:Program}{w:World}:∀{laid:List (String×DataW Unit)} {ps:List MemPlace},DataW.LaidVars P w laid ps->∀ x,x∈laid->∃ g t cs fuel p,P.globalNamed x.1=some g/\(P.globals[g]?).map (·.type)=some t/\w.var? P x.1=some cs/\DataW.trod (fun _=>()) P w 0 (fun _=>true) false fuel t cs.toList=some (x.2,p)
 | [],_,_,x,hx=>by simp at hx
 | (n,d) :: r,ps,h,x,hx=>by
  obtain⟨g,t,cs,fuel,p,q,h1,h2,h3,h4,h5,_⟩:=h;rcases qz.1 hx with rfl|hx
  .exact ⟨g,t,cs,fuel,p,h1,h2,h3,h4⟩
  .exact Vv h5 x hx
theorem Kl{P:Program}{w:World}{t e:TypeId}{n fuel:Nat}{k:IntKind}(ht:P.underlying t=some (.array n e))(he:P.underlying e=some (.int k))(hc:P.cellsOf e=1)(hct:P.cellsOf t=n){cs:List Value}{ns:List Int}{p:List MemPlace}
  (h:DataW.trod (fun _=>()) P w 0 (fun _=>true) false fuel t cs=some (.agg (ns.map fun i => .lit (.int k i)),p)):cs=ns.map fun i => .int k i:=by
 obtain⟨xs,m,_,hx,hl,hn,hel⟩:=DataW.trod_array ht h;simp only[Prod.mk.injEq,DataW.agg.injEq]at hx;have hx:=hx.1;have hns:ns.length=n:=by have:=congrArg List.length hx;simp at this;omega
 rw[hct]at hl;rw[hc]at hel;apply List.ext_getElem
 .simp [hl,hns]
 .intro i h1 h2
  have h3:=hel i (by omega);rw[Nat.mul_one]at h3;have hxi:i<xs.length:=by omega
  rw[qs hxi]at h3;obtain⟨z,e1,e2,_⟩:=DataW.trod_int he h3;have h4:(xs[i]).1=DataW.lit (.int k z):=by rw[e2]
  have h5:(ns.map fun i=>(DataW.lit (.int k i):DataW Unit))[i]?=(xs.map (·.1))[i]?:=by rw[hx]
  rw[qW,qW,qs hxi,qs (by omega)]at h5;simp only[qw,qb]at h5;rw[h4]at h5;simp only[DataW.lit.injEq,Lit.int.injEq,true_and]at h5;have h6:(cs.drop i).take 1=[cs[i]]:=by rw[vA h1];rfl
  rw[h6]at e1;simp only[yF,and_true]at e1;rw[e1,List.getElem_map,h5]
theorem Km{P:Program}{w:World}{name:String}{g:Nat}{cs:Array Value}(hg:P.globalNamed name=some g)(h:w.var? P name=some cs):∃ e fr,w.heap[g]?=some (.cells cs e fr):=by
 unfold World.var? at h;rw[hg]at h;simp only[Option.bind_some]at h;split at h
 .rename_i c e fr hh;cases h;exact⟨e,fr,hh⟩
 .cases h
end Go.EvW
namespace Go.Proofs.YtccifccjhgdikaaGreatDoor
open Go Go.Ev Go.Proofs Tryz
namespace YZ
end YZ
namespace YA
end YA
namespace YB
end YB
namespace Q9
end Q9
namespace PA
end PA
namespace YC
end YC
namespace YD
end YD
namespace YE
end YE
namespace YG
end YG
end Go.Proofs.YtccifccjhgdikaaGreatDoor
