/-
  Own library, part 7: an abstract reading of values and a calculus over it; contracts of functions; plain lemmas.
-/
import Derived.Test.YtfednihcpihlgaaGreatDoorMf
set_option linter.unusedVariables false
set_option linter.unusedSimpArgs false
set_option maxRecDepth 100000
open Go.Proofs.Tryz renaming prog->qc
open List renaming mem_map->qk,getElem_mem->qq,range->qs,mem_cons->qv,getElem?_eq_getElem->qz,not_mem_nil->qI,mem_append->qM,take_length->qR,replicate->qW,mem_singleton->qY,mem_cons_of_mem->za,length_append->zb,map_append->zh,mem_cons_self->zj,drop_eq_getElem_cons->zy,all_eq_true->zC,length_cons->zK,getD_eq_getElem?_getD->z6,take_of_length_le->yg,mem_range->yh,drop_length->yA,mem_filter->jy,getElem?_cons_succ->vQ
open Nat renaming le_refl->qo,zero_add->yb
open Go.IntKind renaming i64->qp
open Option.some renaming injEq->qt
open Bool renaming and_eq_true->qF,eq_iff_iff->vA
open Int renaming le_refl->vS,tmod_eq_emod_of_nonneg->uW
namespace Go.Proofs.YtfednihcpihlgaaGreatDoor
open Go Go.Ev Go.Proofs Tryz
namespace PC
open YS P1 P2 Y1 Y2 Y9 Y10 Y12 YZ YA PA YC YG Q1 Q3 Q4 PB
section
variable {es:List (tC×Bool)}
theorem qo7{a i b b'}(j:Sub i a)(l:Sub b' b):Sub (Ym i b') (Ym a b):=⟨j.1,fun t g=>by
 simp only[Ym,jy,decide_eq_true_eq]at g⊢;exact⟨j.2 t g.1,l.2 t g.2⟩⟩
theorem qo8{op a g b b'}(i:Sub g a)(j:Sub b' b):Sub (uh op g b') (uh op a b):=by
 unfold uh;split
 .exact qcA i j.2
 grind [qo7]
theorem qo9{ns}(i:ns<=4){op a g}(h:Sub g a)(ok:okKd ns a)(j:a.ar=2):Sub (binK ns op g) (binK ns op a):=by
 grind [binK,qo6,qcA,qo5]
theorem apK1(ns op n pos a):yk ns op n pos [some a]=if op=2 then .ok (some ⟨n,[]⟩) else if op=3 then .ok (some (zD ns 1)) else if op=4 then .ok (some (zD ns 2)) else
  if op=5 then .ok (some a) else if op=11\/op=12\/op=13 then (if a.ar=2 then .ok (some (binK ns op a)) else .error (42,pos)) else .ok none:=rfl
theorem apK2(ns op n pos a b) : yk ns op n pos [some a, some b] = if op = 2 then .ok (some ⟨n, []⟩) else if op = 3 then .ok (some (zD ns 1)) else if op = 4 then .ok (some (zD ns 2)) else
      if op=6\/op=14\/op=7\/op=8\/op=32\/op=33 then (if a.ar=b.ar then .ok (some (uh op a b)) else .error (42,pos))
      else if op=9 then (if 1<=a.ar+b.ar-2/\a.ar+b.ar-2<=3 then .ok (some (zQ a b)) else .error (42,pos))
      else if op=10 then (if a.ar+b.ar<=3 then .ok (some (uL a b)) else .error (42,pos))
      else .ok none:=rfl
theorem qpA{ns}(J:ns<=4){op num pos l l' R}(e1:op≠1)(a0:op≠15)
  (h1:op=5\/op=11\/op=12\/op=13->∃ a j,l=[some a]/\l'=[some j]/\Sub j a/\okKd ns a)
  (h2:op=6\/op=14\/op=7\/op=8\/op=32\/op=33\/op=9\/op=10->∃ a b j b',l=[some a,some b]/\l'=[some j,some b']/\Sub j a/\Sub b' b)
  (h:yk ns op num pos l = .ok R):∃ p,yk ns op num pos l' = .ok p/\(kd op=101->∃ k k',R=some k/\p=some k'/\Sub k' k):=by
 by_cases o:op=2
 .unfold yk at h⊢
  rw[if_pos o]at h⊢;cases h;exact⟨_,rfl,fun _=>⟨_,_,rfl,rfl,Sub.refl _⟩⟩
 by_cases r:op=3
 .unfold yk at h⊢
  rw[if_neg o,if_pos r]at h⊢;cases h;exact⟨_,rfl,fun _=>⟨_,_,rfl,rfl,Sub.refl _⟩⟩
 by_cases t:op=4
 .unfold yk at h⊢
  rw[if_neg o,if_neg r,if_pos t]at h⊢;cases h;exact⟨_,rfl,fun _=>⟨_,_,rfl,rfl,Sub.refl _⟩⟩
 by_cases g1:op=5\/op=11\/op=12\/op=13
 .obtain ⟨a,j,rfl,rfl,T,ok⟩:=h1 g1
  rw[apK1,if_neg o,if_neg r,if_neg t]at h⊢;by_cases U:op=5
  .rw [if_pos U]at h⊢
   cases h
   grind
  have g:op=11\/op=12\/op=13:=zOm;rw[if_neg U,if_pos g]at h⊢;by_cases i:a.ar=2
  .rw [if_pos i]at h
   rw[if_pos (T.1.trans i)];cases h;exact⟨_,rfl,fun _=>⟨_,_,rfl,rfl,qo9 J T ok i⟩⟩
  grind
 by_cases g2:op=6\/op=14\/op=7\/op=8\/op=32\/op=33\/op=9\/op=10
 .obtain ⟨a,b,j,b',rfl,rfl,C,I⟩:=h2 g2
  have q1:=C.1;have q2:=I.1;rw[apK2,if_neg o,if_neg r,if_neg t]at h⊢;by_cases g3:op=6\/op=14\/op=7\/op=8\/op=32\/op=33
  .rw [if_pos g3]at h⊢
   by_cases i:a.ar=b.ar
   .rw [if_pos i]at h
    rw[if_pos zOm];cases h;exact⟨_,rfl,fun _=>⟨_,_,rfl,rfl,qo8 C I⟩⟩
   grind
  rw[if_neg g3]at h⊢;by_cases e9:op=9
  .rw [if_pos e9]at h⊢
   by_cases i:1<=a.ar+b.ar-2/\a.ar+b.ar-2<=3
   .rw [if_pos i]at h
    rw[if_pos zOm];cases h;exact⟨_,rfl,fun _=>⟨_,_,rfl,rfl,Wb C I⟩⟩
   grind
  have P:op=10:=zOm;rw[if_neg e9,if_pos P]at h⊢;by_cases i:a.ar+b.ar<=3
  .rw [if_pos i]at h
   rw[if_pos zOm];cases h;exact⟨_,rfl,fun _=>⟨_,_,rfl,rfl,qo4 C I⟩⟩
  grind
 refine⟨none,UM o r t zOm zOm zOm zOm zOm zOm zOm zOm zOm zOm zOm zOm,fun hk=>?_⟩;have:=UO hk;omega
theorem qpB{c n k}(h:yC c n=false)(g:k∈n.sD):yC c k=false:=by
 grind [Uy,Bool.or_eq_false_iff,List.any_eq_false]
theorem K7{c b b'}:∀{ks s},(∀ k,k∈ks->∀ s,exam c s b k=exam c s b' k)->qX c s b ks=qX c s b' ks
 | [],s,_=>by simp only[qX]
 |k :: ks,s,h=>by
  simp only[qX];rw[h k (zj ..) s,K7 fun k g s=>h k (za _ g) s]
theorem qpC{c b b' nm pos}:∀{ks s},(∀ k,k∈ks->∀ s,exam c s b k=exam c s b' k)->ym c s b nm pos ks=ym c s b' nm pos ks
 | [],s,_=>by simp only[ym]
 |k :: ks,s,h=>by
  grind [ym,zj,exam,K7,za]
theorem K8(c):∀ m n s b b',szN n<=m->yC c n=false->exam c s b n=exam c s b' n
 | 0,n,_,_,_,g,_=>by obtain⟨op,nm,i,ks,p⟩:=n;simp[szN]at g
 |m+1,n,s,b,b',g,h=>by
  have j:∀ b b' k,k∈n.sD->∀ s,exam c s b k=exam c s b' k:=fun b b' k l s=>K8 c m k s b b' (zW1 (yn l)) (qpB h l)
  have o:zU c n.op n.name=false:=by rw[Uy,Bool.or_eq_false_iff]at h;exact h.1
  rw[yP,yP,o,Bool.and_false,Bool.and_false];rw[qpC (b:=b||decide (n.op=15)) (b':=b'||decide (n.op=15)) (j _ _),K7 (b:=b||decide (n.op=12)||decide (n.op=13)) (b':=b'||decide (n.op=12)||decide (n.op=13)) (j _ _)]
theorem Vj(ts i):∀ m,i<m->m<=ts.sT.length->∀ j,(tmsL ts m).getD i false=yC (mkCk ts i) ts.sT[i].body
 | 0,h,_,_=>absurd h zOm
 |m+1,h,r,j=>by
  have l:=ZR ts m zOm;have g:m<ts.sT.length:=zOm;have e:tmsL ts (m+1)=tmsL ts m++[yC (mkCk ts m) ts.sT[m].body]:=by
   show tmsL ts m++(match ts.sT[m]? with|some p=>[yC ⟨ts,m,tmsL ts m⟩ p.body] | none=>[])=_;rw[qz g];rfl
  rw[e];by_cases o:i<m
  .rw [<-Vj ts i m o zOm j]
   simp only[z6];rw[zGa]
  .have:i=m:=by omega
   subst this;simp only[z6];rw[List.getElem?_append_right zOm,l];simp
abbrev tkn(es:List (tC×Bool))(nm:tC):Prop:=getK nm es=some true
def Tk(es:List (tC×Bool))(n:Nd):Prop:=∀ x,x∈preN n->tkn es x.name
def OwnT(n:Nd):Prop:=∀ x,x∈preN n->ownB x=true
def vLe(es:List (tC×Bool))(L:Int)(nm:tC):Prop:=∃ j:Nat,(j:Int)<=L/\nm=vN j/\¬tkn es nm/\jh nm=true
structure qpD (es:List (tC×Bool)) (L:Int) (x:Nd):Prop where
 nc:x.op≠47
 own:ownB x=true
 nm:tkn es x.name\/vLe es L x.name
structure vL (es:List (tC×Bool)) (L:Int) (n:Nd):Prop where
 wf:WfN n
 all:∀ x,x∈preN n->qpD es L x
theorem vLe.mono{L L' nm}(h:vLe es L nm)(g:L<=L'):vLe es L' nm:=by
 obtain⟨j,a,b⟩:=h;exact⟨j,zOm,b⟩
theorem vL.mono{L L' n}(h:vL es L n)(g:L<=L'):vL es L' n:=
 ⟨h.wf,fun x hx=>⟨(h.all x hx).nc,(h.all x hx).own,(h.all x hx).nm.imp id fun v=>v.mono g⟩⟩
theorem Tk.kid{n k}(h:Tk es n)(g:k∈n.sD):Tk es k:=fun x hx=>h x (UZ g hx)
theorem OwnT.kid{n k}(h:OwnT n)(g:k∈n.sD):OwnT k:=fun x hx=>h x (UZ g hx)
theorem Wd{ks x}(h:x∈zz ks):∃ k,k∈ks/\x∈preN k:=by
 induction ks with
 |nil=>simp[zz]at h
 |cons a l g =>
  simp only[zz,qM]at h;rcases h with h|h
  .exact ⟨a,zj ..,h⟩
  .obtain ⟨k,i,hx⟩:=g h
   exact⟨k,za _ i,hx⟩
theorem qpE{nm n}(h:wD nm n):∃ x,x∈preN n/\x.name=nm:=by
 unfold wD at h;rw[Vg _ (szN n) n (qo _),List.any_eq_true]at h
 grind
theorem We{ts es}:∀{f k},(∃ j:Nat,1<=j/\j<=f/\yD ts es (vN (k+j))=true)->yD ts es (vN (zA ts es f k))=true
 | 0,k,⟨j,i,l,_⟩=>zOm
 |f+1,k,⟨j,i,l,g⟩=>by
  simp only[zA];split
  .rename_i h;exact h
  .rename_i o
   have p:j≠1:=fun e=>by subst e;exact o g
   exact We (ts:=ts) (es:=es) (f:=f) (k:=k+1) ⟨j-1,zOm,zOm,by rw[show k+1+((j-1:Nat):Int)=k+j by omega];exact g⟩
theorem qcC:∀ m u,u<10 ^ (m+1)->(Lib.decDigits u).length<=m+1
 | 0,u,h=>by
  grind [Lib.decDigits]
 |m+1,u,h=>by
  rw[Lib.decDigits];split
  .simp
  .rw [zb]
   have:=qcC m (u / 10) (by rw[Nat.pow_succ]at h;omega);simp only[zK,List.length_nil];omega
theorem qcD:∀ m u,u<=m->∀ x,x∈Lib.decDigits u->48<=x.toNat/\x.toNat<=57
 |m,u,g,x,hx=>by
  rw[Lib.decDigits]at hx;split at hx
  .rename_i h
   rw[qY]at hx;subst hx;rw[UInt8.toNat_ofNat_of_lt' (by simp[UInt8.size];omega)];omega
  .rename_i h
   rcases qM.1 hx with hx|hx
   .match m with
    | 0=>omega
    |m+1=>exact qcD m (u / 10) zOm x hx
   .rw [qY]at hx
    subst hx;rw[UInt8.toNat_ofNat_of_lt' (by simp[UInt8.size];omega)];omega
theorem qpF(u):Lib.decDigits u≠[]:=by
 rw[Lib.decDigits];split<;>simp
theorem qpG(j:Nat):(vN (j:Int)).data.toList=118 :: Lib.decDigits j:=by
 simp_all[vN,jv,Lib.itoa,if_neg]
theorem qpH:∀ x,x∈kwL->∀ c,x.data.toList[1]?=some c->¬(48<=c.toNat/\c.toNat<=57):=by decide +kernel
theorem qpI{j:Nat}(h:j<1000000000000):jh (vN (j:Int))=true:=by
 have l:=qpG j;have I:=qcC 11 j zOm;have p:=qcD j j (qo _);have t:=qpF j;obtain⟨d,r,e⟩:=List.exists_cons_of_ne_nil t;have C:(vN (j:Int)).size=1+(Lib.decDigits j).length:=by
  have e:(vN (j:Int)).size=(vN (j:Int)).data.toList.length:=by rw[Array.length_toList];rfl
  rw[e,l,zK,Nat.add_comm]
 have o:kwB (vN (j:Int))=false:=by
  unfold kwB;rw[List.any_eq_false];intro x hx g;have g:x=vN (j:Int):=zUs g;refine qpH x hx d ?_ (p d (by rw[e];exact zj ..));rw[g,l,e];rfl
 unfold jh;simp only[qF,decide_eq_true_eq,o,Bool.not_false,and_true];refine⟨⟨zOm,zOm⟩,?_⟩;rw[zC];intro i _;rw[<-Array.getElem?_toList,l];cases i with
 |zero=>show chB 0 ((118:UInt8).toNat:Int)=true;decide
 |succ i =>
  rw[vQ];cases g:(Lib.decDigits j)[i]? with
  |none=>rfl
  |some c =>
   have:=p c (List.mem_of_getElem? g);simp[chB];right;right;omega
end
end PC
namespace PD
open P1 P2 Y1 Y2 Y9 YX YZ YA YB PA YC YG Q3 Q4 PB PC
section
variable {body:Bool}{c0:Ck}{env:IEnv}{L:Int}{es:List (tC×Bool)}{l l':List (Option Kd)}{s s':Scp}
structure ArgR (c0:Ck) (es:List (tC×Bool)) (L:Int) (s':Scp) (k:Kd) (a:Nd):Prop where
 ex:∃ k',exam c0 s' true a = .ok (some k')/\Sub k' k
 good:vL es L a
 kd:kd a.op=101
def RlV(c0:Ck)(es:List (tC×Bool))(L:Int)(s':Scp)(v:tC):Option Kd->Option IV->Prop
 |none,none=>True
 |none,some _=>False
 |some k,none=>∃ g,lookS v s'=some g/\Sub g k
 |some k,some ⟨some a,_,_⟩=>ArgR c0 es L s' k a
 |some k,some ⟨none,_,i⟩=>(∃ g,lookS i s'=some g/\Sub g k)/\vLe es L i
structure Rl (c0:Ck) (es:List (tC×Bool)) (L:Int) (body:Bool) (s s':Scp) (env:IEnv):Prop where
 mean:∀ v,v∈s'->means c0.ts v.1=[]
 rel:∀ v,tkn es v->RlV c0 es L s' v (lookS v s) (getK v env)
 arg:body=false->∀ v iv,getK v env=some iv->iv.arg=none
theorem RlV.mono{L' v g i}(h:RlV c0 es L s' v g i)(j:L<=L'):RlV c0 es L' s' v g i:=by
 match g,i with
 |none,none=>exact h
 |none,some _=>exact h
 |some k,none=>exact h
 |some k,some ⟨some a,_,_⟩ =>
  have h:ArgR c0 es L s' k a:=h;exact(⟨h.ex,h.good.mono j,h.kd⟩:ArgR c0 es L' s' k a)
 |some k,some ⟨none,_,l⟩=>exact⟨h.1,h.2.mono j⟩
theorem Rl.mono{L'}(h:Rl c0 es L body s s' env)(g:L<=L'):Rl c0 es L' body s s' env:=
 ⟨h.mean,fun v i=>(h.rel v i).mono g,h.arg⟩
theorem Vk{nm}:∀{s k},lookS nm s=some k->(nm,k)∈s
 | [],k,h=>by simp[qn2]at h
 |v :: s,k,h=>by
  rw[uu]at h;split at h
  .rename_i e
   cases h;rw[<-e];exact zj ..
  .exact za _ (Vk h)
theorem Rl.bind{st:ISt}{nm k k'}(a4:Free c0.ts es)(a0:(env.map Prod.fst).Nodup)(h:Rl c0 es st.last body s s' env)(h0:0<=st.last)(hb:st.last+(qm c0.ts es:Nat)<1000000000000)(ht:tkn es nm)(hs:Sub k' k) :
  Rl c0 es (renI c0.ts es env nm body st).2.last body ((nm,k) :: s) (((renI c0.ts es env nm body st).1.2,k') :: s') (renI c0.ts es env nm body st).1.1/\st.last<=(renI c0.ts es env nm body st).2.last/\(tkn es (renI c0.ts es env nm body st).1.2\/vLe es (renI c0.ts es env nm body st).2.last (renI c0.ts es env nm body st).1.2):=by
 have a1:∀ v,lookS v ((nm,k) :: s)=if nm=v then some k else lookS v s:=fun v=>uu v _ _
 unfold renI;by_cases hc:body=true\/means c0.ts nm≠[]
 .rw [if_pos hc]
  have a2:=a4 st.last h0;have o:=We a2;have a9:=U0 c0.ts es (qm c0.ts es) st.last;have a7:=KR a2;generalize zA c0.ts es (qm c0.ts es) st.last=J at *
  obtain⟨j,rfl⟩:∃ j:Nat,J=j:=⟨J.toNat,zOm⟩;simp only[yD,qF,decide_eq_true_eq]at o;obtain⟨f1,f2⟩:=o;have hv:vLe es (j:Int) (vN j):=⟨j,vS _,rfl,f1,qpI zOm⟩;have T:∀ v,v≠vN (j:Int)->lookS v ((vN (j:Int),k') :: s')=lookS v s':=fun v hv=>by
   rw[uu,if_neg (fun e=>hv e.symm)]
  have a5:∀{v:tC},vLe es st.last v->v≠vN (j:Int):=fun⟨i,hi,e,_⟩ r=>by
   grind [KZ]
  have a3:∀ v,getK v (setK nm ⟨none,0,vN (j:Int)⟩ (delK nm env))=if v=nm then some ⟨none,0,vN (j:Int)⟩ else getK v env:=fun v=>by
   grind [jN,wd]
  refine⟨⟨fun v U=>?_,fun v C=>?_,fun p v I g=>?_⟩,by grind,.inr hv⟩
  .rcases qv.1 U with rfl|U
   .exact f2
   .exact h.mean v U
  .show RlV c0 es (j:Int) ((vN (j:Int),k') :: s') v (lookS v ((nm,k) :: s)) (getK v (setK nm ⟨none,0,vN (j:Int)⟩ (delK nm env)))
   rw[a1,a3];by_cases t:nm=v
   .rw [if_pos t,if_pos t.symm]
    exact⟨⟨k',by rw[uu,if_pos rfl],hs⟩,hv⟩
   .rw [if_neg t,if_neg (fun e=>t e.symm)]
    have l:=(h.rel v C).mono (L':=(j:Int)) zOm;have P:=h.rel v C;generalize lookS v s=lk at *
    generalize getK v env=I at *
    match lk,I with
    |none,none=>trivial
    |none,some _=>exact l
    |some q,none =>
     obtain⟨R,e1,r⟩:=l;exact⟨R,by grind,r⟩
    |some q,some ⟨some a,_,_⟩ =>
     have l:ArgR c0 es (j:Int) s' q a:=l;have P:ArgR c0 es st.last s' q a:=P;refine(⟨?_,l.good,l.kd⟩:ArgR c0 es (j:Int) ((vN (j:Int),k') :: s') q a);obtain⟨R,e1,r⟩:=l.ex;refine⟨R,?_,r⟩;rw[<-e1];refine qbO (wE.refl c0) (szN a) a _ _ true (qo _) fun x hx=>?_
     obtain⟨y,hy,rfl⟩:=qpE hx;rcases (P.good.all y hy).nm with h1|h1
     .grind
     grind
    |some q,some ⟨none,_,to⟩ =>
     obtain⟨⟨R,e1,r⟩,e3⟩:=l;exact⟨⟨R,by rw[T to (a5 P.2)];exact e1,r⟩,e3⟩
  .have g:getK v (setK nm ⟨none,0,vN (j:Int)⟩ (delK nm env))=some I:=g
   rw[a3]at g;split at g
   .cases g;rfl
   .exact h.arg p v I g
 .rw [if_neg hc]
  have p:body=false:=by
   grind
  have a6:means c0.ts nm=[]:=by
   grind
  have T:∀ v,v≠nm->lookS v ((nm,k') :: s')=lookS v s':=fun v hv=>by
   rw[uu,if_neg (fun e=>hv e.symm)]
  refine⟨⟨fun v U=>?_,fun v C=>?_,fun p v I g=>?_⟩,vS _,.inl ht⟩
  .rcases qv.1 U with rfl|U
   .exact a6
   .exact h.mean v U
  .show RlV c0 es st.last ((nm,k') :: s') v (lookS v ((nm,k) :: s)) (getK v (delK nm env))
   rw[a1,wd a0];by_cases t:nm=v
   .rw [if_pos t,if_pos t.symm]
    exact⟨k',by rw[uu,if_pos t],hs⟩
   .rw [if_neg t,if_neg (fun e=>t e.symm)]
    have l:=h.rel v C;have a8:=h.arg p v;generalize lookS v s=lk at *
    generalize getK v env=I at *
    match lk,I with
    |none,none=>trivial
    |none,some _=>exact l
    |some q,none =>
     obtain⟨R,e1,r⟩:=l;exact⟨R,by grind,r⟩
    |some q,some ⟨some a,_,_⟩=>grind
    |some q,some ⟨none,_,to⟩ =>
     obtain⟨⟨R,e1,r⟩,e3⟩:=l;refine⟨⟨R,?_,r⟩,e3⟩;rw[T to fun e=>?_]
     .exact e1
     .obtain ⟨_,_,_,hn,_⟩:=e3
      grind
  .have g:getK v (delK nm env)=some I:=g
   rw[wd a0]at g;split at g
   .cases g
   .exact h.arg p v I g
structure Out (c0:Ck) (es:List (tC×Bool)) (s':Scp) (inn:Bool) (n n':Nd) (ko:Option Kd) (L L':Int):Prop where
 ex:∃ ko',exam c0 s' inn n' = .ok ko'/\(kd n.op=101->∃ k k',ko=some k/\ko'=some k'/\Sub k' k)
 good:vL es L' n'
 kd:kd n'.op=kd n.op
 le:L<=L'
def Pt(es:List (tC×Bool))(L:Int):List Nd->List Nd->List (Option Kd)->List (Option Kd)->Prop
 | [],[],[],[]=>True
 |k :: ks,i :: g,a :: l,o :: p=>((kd k.op=101->∃ q j,a=some q/\o=some j/\Sub j q)/\kd i.op=kd k.op/\vL es L i)/\Pt es L ks g l p
 |_,_,_,_=>False
theorem Pt.spec:∀{ks g l l'},Pt es L ks g l l'->(g.map fun k=>kd k.op)=(ks.map fun k=>kd k.op)/\∀ k,k∈g->vL es L k
 | [],[],[],[],_=>⟨rfl,fun k i=>absurd i qI⟩
 |k :: ks,k' :: g,a :: l,p :: l',h=>by
  obtain⟨⟨r,t,j⟩,o⟩:=h;obtain⟨C,I⟩:=Pt.spec o;refine⟨by grind,fun x hx=>?_⟩;rcases qv.1 hx with rfl|hx
  .exact j
  grind
theorem Pt.cons{k ks j}(h:Pt es L (k :: ks) j l l'):∃ k' g a l2 o i,j=k' :: g/\l=a :: l2/\l'=o :: i/\(kd k.op=101->∃ q p,a=some q/\o=some p/\Sub p q)/\Pt es L ks g l2 i:=by
 cases j with
 |nil=>cases l<;>cases l'<;>exact h.elim
 |cons k' g =>
  cases l with
  |nil=>cases l'<;>exact h.elim
  |cons a l2 =>
   cases l' with
   |nil=>exact h.elim
   |cons o i=>exact⟨k',g,a,l2,o,i,rfl,rfl,rfl,h.1.1,h.2⟩
theorem Pt.nil{g}(h:Pt es L [] g l l'):l=[]/\l'=[]:=by
 cases g with
 |nil =>
  cases l with
  |nil=>cases l' with
   |nil=>exact⟨rfl,rfl⟩
   |cons a l=>exact h.elim
  |cons a l=>cases l'<;>exact h.elim
 |cons k ks=>cases l<;>cases l'<;>exact h.elim
theorem Pt.one{ks i}(h:Pt es L ks i l l')(g:(ks.map fun k=>kd k.op)=[101]):∃ a j,l=[some a]/\l'=[some j]/\Sub j a:=by
 match ks,g with
 | [k],g =>
  obtain⟨t,o,a,C,j,p,rfl,rfl,rfl,I,r⟩:=h.cons;obtain⟨rfl,rfl⟩:=r.nil
  grind
 | [],g=>simp at g
 |_ :: _ :: _,g=>simp at g
theorem Pt.two{ks i}(h:Pt es L ks i l l')(g:(ks.map fun k=>kd k.op)=[101,101]):∃ a b o b',l=[some a,some b]/\l'=[some o,some b']/\Sub o a/\Sub b' b:=by
 match ks,g with
 | [k,j],g =>
  have g:kd k.op=101/\kd j.op=101:=zUs g;obtain⟨k',r,a,l2,o,t,rfl,rfl,rfl,C,I⟩:=h.cons;obtain⟨_,_,b,l3,b',J,rfl,rfl,rfl,P,R⟩:=I.cons;obtain⟨rfl,rfl⟩:=R.nil;obtain⟨q,T,rfl,rfl,e⟩:=C g.1;obtain⟨p,U,rfl,rfl,e2⟩:=P g.2;exact⟨q,p,T,U,rfl,rfl,e,e2⟩
 | [],g=>simp at g
 | [_],g=>simp at g
 |_ :: _ :: _ :: _,g=>simp at g
theorem qcE{c F inn E R} :
  ∀{ks i nm nm' st g j I l},
  (∀ k,k∈ks->∀ st n' z g C,StOk F st->Rl c0 es st.last body s s' env->E env k st = .ok ((n',z),g)->exam c s inn k = .ok C->Out c0 es s' inn k n' C st.last g.last/\StOk F g) ->
  StOk F st->Rl c0 es st.last body s s' env->yo E R false i env nm ks st = .ok ((nm',j,I),g)->qX c s inn ks = .ok l ->
  nm'=nm/\st.last<=g.last/\∃ l',qX c0 s' inn j = .ok l'/\Pt es g.last ks j l l'
 | [],i,nm,nm',st,g,j,I,l,_,o,J,e,el=>by
  cases e;simp only[qX,Except.ok.injEq]at el;subst el;exact⟨rfl,vS _,[],by simp only[qX],trivial⟩
 |k :: ks,i,nm,nm',st,g,j,I,l,T,o,J,e,el=>by
  simp only[yo,Bool.false_eq_true,false_and,if_false]at e;simp only[qX]at el;split at e
  .cases e
  .rename_i k' U s1 h1
   cases hx:exam c s inn k with
   |error er=>grind
   |ok C =>
    rw[hx]at el;simp only at el;obtain⟨p,r⟩:=T k (zj ..) st k' U s1 C o J h1 hx;cases t:qX c s inn ks with
    |error er=>grind
    |ok l1 =>
     rw[t]at el;cases el;split at e
     .cases e
     .rename_i a0 a1 m2 s2 h2
      obtain⟨e1,e2,l',e3,e4⟩:=qcE (fun k hk=>T k (za _ hk)) r (J.mono p.le) h2 t;cases e;obtain⟨P,x1,x2⟩:=p.ex;refine⟨e1,zW1 p.le,P :: l',?_,⟨⟨x2,p.kd,p.good.mono e2⟩,e4⟩⟩;simp only[qX];rw[x1,e3]
theorem Zq{c op nm}(h:op≠47):zU c op nm=yx op:=by
 simp[zU,h]
theorem cX{n nm ks}(t:WfN n)(g:(ks.map fun k=>kd k.op)=(n.sD.map fun k=>kd k.op))(hg:∀ k,k∈ks->vL es L k)(h47:n.op≠47)(l:ownB n=true)
  (C:nm=n.name/\tkn es nm\/vLe es L nm/\jh n.name=true):vL es L (.mk n.op nm n.n ks n.pos):=by
 have i:ks.length=n.sD.length:=by have:=congrArg List.length g;grind
 have o:jh nm=jh n.name/\(nm=⟨#[]⟩↔n.name=⟨#[]⟩):=by
  rcases C with ⟨rfl,_⟩|⟨I,p⟩
  .exact ⟨rfl,Iff.rfl⟩
  .obtain ⟨j,_,_,_,r⟩:=I
   refine⟨r.trans p.symm,fun e=>?_,fun e=>?_⟩
   .rw [e]at r;exact absurd r zDe
   .rw [e]at p;exact absurd p zDe
 refine⟨.mk _ ?_ (fun h=>?_) fun k g=>(hg k g).wf,fun x hx=>?_⟩
 .show shp n.op ks.length=some (ks.map fun k=>kd k.op)
  rw[i,g];exact t.shape
 .exact t.num h
 .rw [ur]at hx
  rcases qv.1 hx with rfl|hx
  .refine ⟨h47,?_,?_⟩
   .unfold ownB at l⊢
    show (if wu n.op=jh nm/\(wu n.op=true\/nm=⟨#[]⟩) then numB n.op n.n else false)=true;split at l
    .rename_i J
     rw[if_pos ⟨by grind,J.2.imp id o.2.2⟩];exact l
    .cases l
   .rcases C with ⟨_,h⟩|⟨h,_⟩
    .exact .inl h
    .exact .inr h
  .obtain ⟨k,g,hx⟩:=Wd hx
   exact(hg k g).all x hx
end
end PD
namespace PE
open P1 P2 Y1 Y2 Y3 Y9 Y10 Y14 YX YZ YA YB PA YC Q3 Q4 PB PC PD
section
variable {inn:Bool}{c c0:Ck}{es:List (tC×Bool)}{s s':Scp}
theorem Vl{n}(h:n.op=1):exam c s inn n=ju c s n.name n.pos:=by
 rw[yP,Zq zOm,h,show yx 1=false from rfl,Bool.and_false,if_neg zSp,if_pos rfl]
theorem qpJ{n k}(h:exam c s true n = .ok k):exam c s inn n = .ok k:=by
 cases inn with
 |true=>exact h
 |false=>exact qcB c (szN n) n s k (qo _) h
theorem K9{n}(g:WfN n)(h:n.op=1):n.sD=[]:=by
 have i:=g.shape;simp_all[shp,if_pos,qt,List.map_eq_nil_iff]
theorem qcF{L n}(g:WfN n)(h:n.op=1)(i:tkn es n.name)(j:ownB n=true):vL es L n:=
 ⟨g,fun x hx=>by
  rw[ur,K9 g h]at hx;simp[zz]at hx;subst hx;exact⟨zOm,j,.inl i⟩⟩
theorem qcG{n}(g:ownB n=true)(h:wu n.op=true):jh n.name=true:=by
 grind [ownB]
theorem qpK{body env n n' z st l J}(P:c.ts=c0.ts)(j:n.op=1)(C:WfN n)(R:tkn es n.name)(I:ownB n=true)(T:Rl c0 es st.last body s s' env)
  (e:vt env n st = .ok ((n',z),l)) (x:exam c s inn n = .ok J):Out c0 es s' inn n n' J st.last l.last:=by
 rw[Vl j,Zl]at x;have i:=T.rel n.name R;unfold vt at e;cases hg:getK n.name env with
 |none =>
  rw[hg]at e i;cases e;cases o:lookS n.name s with
  |some k =>
   rw[o]at i x;obtain⟨p,r,t⟩:=i;cases x;exact⟨⟨some p,by rw[Vl j,Zl,r],fun _=>⟨_,_,rfl,rfl,t⟩⟩,qcF C j R I,rfl,vS _⟩
  |none =>
   rw[o]at x;simp only at x;have U:lookS n.name s'=none:=by
    cases U:lookS n.name s' with
    |none=>rfl
    |some q =>
     have:=T.mean _ (Vk U);rw[P,this]at x;cases x
   refine⟨⟨J,by grind [Vl,Zl],fun _=>?_⟩,qcF C j R I,rfl,vS _⟩;split at x
   .cases x
   .cases x;exact⟨_,_,rfl,rfl,Sub.refl _⟩
   .cases x
 |some iv =>
  obtain⟨a,g,to⟩:=iv;rw[hg]at e i;simp only at e;cases o:lookS n.name s with
  |none=>rw[o]at i;exact i.elim
  |some k =>
   rw[o]at i x;cases x;cases a with
   |none =>
    cases e;obtain⟨⟨p,r,t⟩,e3⟩:=i;refine⟨⟨some p,by rw[Vl (n := .mk n.op to n.n n.sD n.pos) j,Zl];show (match lookS to s' with|some k=>_|none=>_)=_;rw[r],fun _=>⟨_,_,rfl,rfl,t⟩⟩,?_,rfl,vS _⟩;refine cX C rfl (fun k hk=>?_) zOm I (.inr ⟨e3,qcG I (by rw[j];rfl)⟩);rw[K9 C j]at hk;exact absurd hk qI
   |some a =>
    simp only at e;have i:ArgR c0 es st.last s' k a:=i;obtain⟨p,r,t⟩:=i.ex;split at e
    .cases e
     exact⟨⟨some p,qpJ r,fun _=>⟨_,_,rfl,rfl,t⟩⟩,i.good,by rw[i.kd,j];rfl,vS _⟩
    .cases e
def OwnV(c0:Ck)(es:List (tC×Bool))(L:Int)(s':Scp):Option Kd->Option IV->Prop
 |none,none=>True
 |some k,some ⟨some a,_,_⟩=>ArgR c0 es L s' k a
 |_,_=>False
theorem OwnV.mono{L L' g i}(h:OwnV c0 es L s' g i)(j:L<=L'):OwnV c0 es L' s' g i:=by
 match g,i with
 |none,none=>exact h
 |none,some _=>exact h.elim
 |some k,none=>exact h.elim
 |some k,some ⟨some a,_,_⟩ =>
  have h:ArgR c0 es L s' k a:=h;exact(⟨h.ex,h.good.mono j,h.kd⟩:ArgR c0 es L' s' k a)
 |some k,some ⟨none,_,l⟩=>exact h.elim
theorem qpL{ns i a}(h:okKd ns a)(g:a.ar=1)(p:ui i a=true):Sub a (kOf [i]):=⟨by rw[g];rfl,fun t j=>by
 obtain⟨l,rfl,o,_⟩:=h.ts t j;rw[g]at o
 match l,o with
 | [y],_ =>
  have:=zC.1 p _ j;simp[pad]at this;subst this;exact qY.2 rfl⟩
theorem kf{ns F body env pos E P} :
  ∀{ks ps}{own i:IEnv}{sc st g},
  (∀ k,k∈ks->∀ st n' z g P,StOk F st->Rl c0 es st.last body s s' env->E k st = .ok ((n',z),g)->exam c s true k = .ok P->Out c0 es s' true k n' P st.last g.last/\StOk F g) ->
  (∀ k,k∈ks->kd k.op=101)->(∀ k,k∈ks->∀ a,exam c s true k = .ok (some a)->okKd ns a)->StOk F st->Rl c0 es st.last body s s' env ->
  (∀ v,OwnV c0 es st.last s' (lookS v sc) (getK v own))->ps.length=ks.length->zY c s pos ps ks = .ok P->yV E ps ks own st = .ok (i,g) ->
  st.last<=g.last/\∀ v,OwnV c0 es g.last s' (lookS v (ps.foldl (fun s p=>(p.1,kOf [p.2]) :: s) sc)) (getK v i)
 | [],[],own,i,sc,st,g,_,_,_,_,_,U,_,_,e=>by
  cases e;exact⟨vS _,U⟩
 |k :: ks,p :: ps,own,i,sc,st,g,hE,R,j,a0,hr,U,l,x,e=>by
  simp only[zY]at x;simp only[yV]at e;cases hx:exam c s true k with
  |error er=>grind
  |ok ka =>
   cases ka with
   |none=>grind
   |some a =>
    rw[hx]at x;simp only at x;by_cases o:a.ar=1
    .rw [if_pos o]at x
     by_cases r:ui p.2 a=true
     .rw [if_pos r]at x
      split at e
      .cases e
      .rename_i k' m s1 h1
       obtain⟨out,t⟩:=hE k (zj ..) st k' m s1 _ a0 hr h1 hx;obtain⟨a1,x1,x2⟩:=out.ex;have C:=R k (zj ..);obtain⟨q,q',y1,y2,y3⟩:=x2 C;cases y1;subst y2;have hs:=y3.trans (qpL (j k (zj ..) a hx) o r);have I:ArgR c0 es s1.last s' (kOf [p.2]) k':=⟨⟨q',x1,hs⟩,out.good,by rw[out.kd];exact C⟩;have J:∀ v,OwnV c0 es s1.last s' (lookS v ((p.1,kOf [p.2]) :: sc)) (getK v (setK p.1 ⟨some k',m,⟨#[]⟩⟩ own)):=fun v=>by
        rw[uu,jN];by_cases T:p.1=v
        .rw [if_pos T,if_pos T.symm]
         exact I
        .rw [if_neg T,if_neg (fun e=>T e.symm)]
         exact(U v).mono out.le
       obtain⟨r1,r2⟩:=kf (sc:=(p.1,kOf [p.2]) :: sc) (fun k R=>hE k (za _ R)) (fun k h=>R k (za _ h)) (fun k h=>j k (za _ h)) t (hr.mono out.le) J (zUs l) x e;exact⟨zW1 out.le,r2⟩
     grind
    grind
 | [],_ :: _,_,_,_,_,_,_,_,_,_,_,_,l,_,_=>by simp at l
 |_ :: _,[],_,_,_,_,_,_,_,_,_,_,_,l,_,_=>by simp at l
def Zr(ts:TS)(es:List (tC×Bool)):Prop:=∀(i:Nat)(j:i<ts.sT.length),(∃ g,exam (mkCk ts i) (zS ts.sT[i].params) false ts.sT[i].body = .ok g)/\30<=ts.sT[i].body.op/\WfN ts.sT[i].body/\Tk es ts.sT[i].body/\OwnT ts.sT[i].body
abbrev ckF(ts:TS):Ck:=mkCk ts ts.sT.length
def IHx(ts:TS)(es:List (tC×Bool))(f:Nat):Prop:=∀(env:IEnv)(n:Nd)(i:Bool)(U:ISt)(l:Nd)(z:Int)(g:ISt)(s o:Scp)(j:Bool)(m:Nat)(p:Option Kd),
 m<=ts.sT.length->WfN n->Tk es n->OwnT n->ScOk ts.sS.length s->StOk (qm ts es) U->zp env->Rl (ckF ts) es U.last i s o env ->
 expI ts es f env n i U = .ok ((l,z),g)->exam (mkCk ts m) s j n = .ok p->Out (ckF ts) es o j n l p U.last g.last
theorem qcH{n}(i:WfN n)(h:30<=n.op):kd n.op=102:=by
 have g:=i.shape;have:n.op<=51:=by
  by_cases j:n.op<=51
  .exact j
  .exfalso
   unfold shp at g;rw[zIn,zIn,zIn,zIn,zIn,zIn,zIn,zIn]at g;cases g
 unfold kd;omega
theorem Wf{n}(i:WfN n)(h:n.op=47):∀ k,k∈n.sD->kd k.op=101:=by
 have g:=i.shape;have e:shp n.op n.sD.length=some (qW (min n.sD.length 401) 101):=by
  unfold shp;rw[zIn,zIn,zIn,zIn,zIn,zIn,zIn,if_pos h]
 rw[e]at g;simp only[qt]at g;intro k j;have:kd k.op∈n.sD.map fun k=>kd k.op:=qk.2 ⟨k,j,rfl⟩
 grind
theorem qpM(ts)(h:okTS ts)(es)(hP:Zr ts es)(a3:Free ts es)(f)(ih:IHx ts es f)(env n body st n' z g s s' inn m ko)
  (hm:m<=ts.sT.length) (hw:WfN n) (ht:Tk es n) (ho:OwnT n) (hs:ScOk ts.sS.length s) (r:StOk (qm ts es) st) (R:zp env) (hr:Rl (ckF ts) es st.last body s s' env) (h47:n.op=47)
  (e:((match ts.sT.find? fun p=>decide (p.name=n.name) with
    |none=>Except.error (2,0)
    |some p=>vK (yV (fun k s=>expI ts es f env k body s) p.params n.sD [] st) fun own s'=>expI ts es f own p.body true s'):XR (Nd×Int)) = .ok ((n',z),g))
  (x:exam (mkCk ts m) s inn n = .ok ko):Out (ckF ts) es s' inn n n' ko st.last g.last:=by
 have hc:okCk (mkCk ts m):=v6 h hm;rw[yP,if_neg (show ¬n.op=1 by omega),if_pos h47]at x;split at x
 .cases x
 rename_i I;split at x
 .cases l:zt (mkCk ts m) n.name with
  |none=>grind
  |some i =>
   obtain⟨T,t⟩:=Qe hc l;have T:i<m:=T;have t:i<ts.sT.length:=t;rw[l]at x;simp only at x;have x:((match ts.sT[i]? with|none=>Except.error (45,n.pos)|some C=>if C.params.length=n.sD.length then zY (mkCk ts m) s n.pos C.params n.sD else .error (45,n.pos)):Res) = .ok ko:=x;rw[qz t]at x;simp only at x;have U:(ts.sT.find? fun p=>decide (p.name=n.name))=some ts.sT[i]:=by
    unfold zt at l;rw[List.findIdx?_eq_some_iff_getElem]at l;obtain⟨hi,a1,a2⟩:=l;rw[List.find?_eq_some_iff_getElem];refine⟨?_,i,t,rfl,fun j hj=>?_⟩
    .have:=a1
     simp only[List.getElem_take]at this;exact this
    .have:=a2 j hj
     simp only[List.getElem_take]at this;have h3:¬decide (ts.sT[j].name=n.name)=true:=this
     grind
   rw[U]at e;simp only at e;obtain⟨⟨kb,hb⟩,a4,a5,ad,ae⟩:=hP i t;have af:=h.pl _ (qq t);generalize ag:ts.sT[i]=C at *
   by_cases P:C.params.length=n.sD.length
   .rw [if_pos P]at x
    obtain⟨own,s1,h1,e⟩:=Zm e;have a6:=Wf hw h47;have a7:∀ k,k∈n.sD->∀ st n' z g,StOk (qm ts es) st->expI ts es f env k body st = .ok ((n',z),g)->StOk (qm ts es) g:=fun k J st n' z g r e=>(jl ts a3 f r R e).ok r
    obtain⟨g1,g2⟩:=kf (c:=mkCk ts m) (c0:=ckF ts) (ns:=ts.sS.length) (F:=qm ts es) (body:=body) (s:=s) (s':=s') (env:=env) (sc:=[]) (own:=[])
     (fun k J st n' z g ko r hr e x=>⟨ih env k body st n' z g s s' true m ko hm (hw.kid J) (ht.kid J) (ho.kid J) hs r R hr e x,a7 k J st n' z g r e⟩)
     a6 (fun k J a hx=>by
      obtain⟨q,e1,e2⟩:=vH hc (szN k) k s true _ (qo _) (hw.kid J) hs hx (a6 k J);cases e1;exact e2)
     r hr (fun v=>trivial) P x h1
    obtain⟨a8,ah⟩:=U1 (F:=qm ts es) (fun k n' z s s' _ hs hE=>jl ts a3 f hs R hE) r .nil h1;have a9:=ah.ok r;have ai:Rl (ckF ts) es s1.last true (zS C.params) s' own:=⟨hr.mean,fun v hv=>by
     have:=g2 v;have:OwnV (ckF ts) es s1.last s' (lookS v (zS C.params)) (getK v own):=this;generalize lookS v (zS C.params)=lk at *
     generalize getK v own=iv at *
     match lk,iv with
     |none,none=>trivial
     |some k,some ⟨some a,_,_⟩=>exact this
     |none,some _=>exact this.elim
     |some k,none=>exact this.elim
     |some k,some ⟨none,_,_⟩=>exact this.elim,fun aj=>by cases aj⟩
    have aa:ScOk ts.sS.length (zS C.params):=UP ⟨zOm,af.2⟩;have ak:exam (mkCk ts i) (zS C.params) inn C.body = .ok kb:=by
     cases ab:inn with
     |false=>exact hb
     |true =>
      rw[<-hb];refine K8 _ (szN C.body) C.body _ _ _ (qo _) ?_;rw[ab]at I;have a0:zU (mkCk ts m) n.op n.name=false:=by simpa using I
      unfold zU at a0;rw[l,h47]at a0;have:=Vj ts i m T hm t;rw[ag]at this;rw[<-this];have an:(yx 47||(decide ((47:Int)=47)&&(tmsL ts m).getD i false))=false:=a0
      grind
    have out:=ih own C.body true s1 n' z g (zS C.params) s' inn i kb zOm a5 ad ae aa a9 a8 ai e ak;obtain⟨al,x1,_⟩:=out.ex;refine⟨⟨al,x1,fun J=>?_⟩,out.good,?_,zW1 out.le⟩
    .rw [h47]at J;exact absurd J zDe
    .rw [out.kd,qcH a5 a4,h47];rfl
   grind
 .cases x
theorem qcI{n}(i:WfN n)(h:n.op=5\/n.op=11\/n.op=12\/n.op=13):(n.sD.map fun k=>kd k.op)=[101]:=by
 have g:=i.shape;unfold shp at g;rw[zIn,if_pos zOm]at g
 grind
theorem qpN{n}(i:WfN n)(h:n.op=6\/n.op=14\/n.op=7\/n.op=8\/n.op=32\/n.op=33\/n.op=9\/n.op=10):(n.sD.map fun k=>kd k.op)=[101,101]:=by
 have g:=i.shape;unfold shp at g;rw[zIn,zIn,if_pos zOm]at g
 grind
theorem Vm{n}(i:WfN n)(h:n.op=15\/n.op=45\/n.op=46):∃ a f,n.sD=[a,f]/\kd a.op=101:=by
 have g:=i.shape;unfold shp at g;rw[zIn,zIn,zIn,if_pos zOm]at g;simp only[qt]at g
 match j:n.sD,g with
 | [a,f],g =>
  grind
 | [],g=>simp at g
 | [_],g=>simp at g
 |_ :: _ :: _ :: _,g=>simp at g
theorem qpO(ts)(h:okTS ts)(es)(a0:Free ts es)(f)(ih:IHx ts es f)(env n body st nm' t z p s s' inn m ko)
  (hm:m<=ts.sT.length) (J:WfN n) (ht:Tk es n) (ho:OwnT n) (hs:ScOk ts.sS.length s) (j:StOk (qm ts es) st) (P:zp env) (hr:Rl (ckF ts) es st.last body s s' env) (h47:n.op≠47) (h1:n.op≠1) (hb:¬(n.op=15\/n.op=45\/n.op=46))
  (e:yo (fun env k s=>expI ts es f env k body s) (fun env nm s=>renI ts es env nm body s) (binB n.op) 0 env n.name n.sD st = .ok ((nm',t,z),p))
  (x:exam (mkCk ts m) s inn n = .ok ko):Out (ckF ts) es s' inn n (.mk n.op nm' n.n t n.pos) ko st.last p.last:=by
 have hc:okCk (mkCk ts m):=v6 h hm;have a1:binB n.op=false:=by
  simp_all[binB,not_or]
 rw[a1]at e;rw[yP,Zq h47,if_neg h1,if_neg h47,if_neg hb]at x;split at x
 .cases x
 rename_i a2;have r:=x;clear x;generalize hB:(inn||decide (n.op=12)||decide (n.op=13))=B at r;cases hl:qX (mkCk ts m) s B n.sD with
 |error er=>grind
 |ok l =>
  rw[hl]at r;simp only at r;obtain⟨rfl,a3,l',a5,C⟩:=qcE (c:=mkCk ts m) (c0:=ckF ts) (F:=qm ts es) (body:=body) (s:=s) (s':=s') (env:=env)
   (fun k hk st n' z p ko j hr e x=>⟨ih env k body st n' z p s s' B m ko hm (J.kid hk) (ht.kid hk) (ho.kid hk) hs j P hr e x,(jl ts a0 f j P e).ok j⟩) j hr e hl
  obtain⟨R,I⟩:=C.spec;have T:=J2 hl;obtain⟨a4,y1,y2⟩:=qpA (ns:=ts.sS.length) h.ns (op:=n.op) (num:=n.n) (pos:=n.pos) (l:=l) (l':=l') h1 (fun e=>hb (.inl e)) (fun g=>by
    obtain⟨a,a',rfl,rfl,e3⟩:=C.one (qcI J g);refine⟨a,a',rfl,rfl,e3,?_⟩;have i:=qcI J g
    match U:n.sD,i with
    | [k],i =>
     rw[U]at T;have hx:=T.2 0 k (some a) rfl rfl;obtain⟨q,e1,e2⟩:=vH hc (szN k) k s B _ (qo _) (J.kid (by rw[U];simp)) hs hx (zUs i);cases e1;exact e2
    | [],i=>simp at i
    |_ :: _ :: _,i=>simp at i)
   (fun g=>C.two (qpN J g)) r
  refine⟨⟨a4,?_,y2⟩,cX J R I h47 (ho n (j8 n)) (.inl ⟨rfl,ht n (j8 n)⟩),rfl,a3⟩;rw[yP];show (if (inn&&zU (ckF ts) n.op n.name)=true then _ else if n.op=1 then _ else if n.op=47 then _ else if n.op=15\/n.op=45\/n.op=46 then _ else match qX (ckF ts) s' (inn||decide (n.op=12)||decide (n.op=13)) t with | .error e=>_ | .ok l=>yk ts.sS.length n.op n.n n.pos l)=_;simp_all[Zq,if_neg]
theorem qpP(ts)(h:okTS ts)(es)(hF:qm ts es<=200000)(l:Free ts es)(f)(ih:IHx ts es f)(env n body st nm' a0 z I s s' inn m ko)
  (hm:m<=ts.sT.length) (hw:WfN n) (ht:Tk es n) (ho:OwnT n) (hs:ScOk ts.sS.length s) (J:StOk (qm ts es) st) (ag:(qm ts es:Nat)<=pot (qm ts es) st) (o:zp env) (hr:Rl (ckF ts) es st.last body s s' env) (hb:n.op=15\/n.op=45\/n.op=46)
  (e:yo (fun env k s=>expI ts es f env k body s) (fun env nm s=>renI ts es env nm body s) (binB n.op) 0 env n.name n.sD st = .ok ((nm',a0,z),I))
  (x:exam (mkCk ts m) s inn n = .ok ko):Out (ckF ts) es s' inn n (.mk n.op nm' n.n a0 n.pos) ko st.last I.last:=by
 have hc:okCk (mkCk ts m):=v6 h hm;have a7:binB n.op=true:=by
  grind [binB]
 have h47:n.op≠47:=zOm;have h1:n.op≠1:=zOm;rw[a7]at e;rw[yP,Zq h47,if_neg h1,if_neg h47,if_pos hb]at x;split at x
 .cases x
 rename_i P;obtain⟨a,g,r,a1⟩:=Vm hw hb;have ma:a∈n.sD:=by rw[r];simp
 have mg:g∈n.sD:=by rw[r];simp
 rw[r]at e x;generalize hB:(inn||decide (n.op=15))=B at x;simp only[ym,qX]at x;simp only[yo,yb,true_and,Nat.zero_ne_one,if_false,if_true]at e;cases R:exam (mkCk ts m) s B a with
 |error er=>grind
 |ok ka =>
  cases ka with
  |none=>grind
  |some k =>
   rw[R]at x;simp only at x;by_cases T:k.ar=1
   .rw [if_pos T]at x
    split at e
    .cases e
    .rename_i a' m1 s1 e1
     have out:=ih env a body st a' m1 s1 s s' B m _ hm (hw.kid ma) (ht.kid ma) (ho.kid ma) hs J o hr e1 R;have a2:=jl ts l f J o e1;have i:=a2.ok J;obtain⟨ai,x1,x2⟩:=out.ex;obtain⟨q,k',y1,y2,y3⟩:=x2 a1;cases y1;subst y2;obtain⟨q,y4,a8⟩:=vH hc (szN a) a s B _ (qo _) (hw.kid ma) hs R a1;cases y4;have t:=YO l (env:=env) (nm:=n.name) (body:=body) i.l0;have a3:=YN (ts:=ts) (es:=es) (nm:=n.name) (body:=body) (s:=s1) o;have a9:=i.last;obtain⟨w1,w2,C⟩:=Rl.bind (c0:=ckF ts) (st:=s1) (nm:=n.name) (k:=k) (k':=k') l o.nd (hr.mono out.le) i.l0 (by show s1.last+(qm ts es:Nat)<_;omega) (ht n (j8 n)) y3;have w1:Rl (ckF ts) es (renI ts es env n.name body s1).2.last body ((n.name,k) :: s) (((renI ts es env n.name body s1).1.2,k') :: s') (renI ts es env n.name body s1).1.1:=w1;have w2:s1.last<=(renI ts es env n.name body s1).2.last:=w2;have C:tkn es (renI ts es env n.name body s1).1.2\/vLe es (renI ts es env n.name body s1).2.last (renI ts es env n.name body s1).1.2:=C;have U:(renI ts es env n.name body s1).1.2=n.name\/vLe es (renI ts es env n.name body s1).2.last (renI ts es env n.name body s1).1.2:=by
      rcases C with C|C
      .left
       unfold renI at C⊢;split
       .rename_i aa
        rw[if_pos aa]at C;exfalso;have ab:=l s1.last i.l0;have ad:=We ab;simp_all[yD,qF,decide_eq_true_eq]
       .rfl
      grind
     generalize ah:renI ts es env n.name body s1=ae at *
     obtain⟨⟨a4,aj⟩,s2⟩:=ae;simp only at t a3 w1 w2 C U e;have a5:StOk (qm ts es) s2:=⟨t.1,by rw[t.2.2];exact i.c0,by rw[t.2.2];exact i.c1,by
      have:=a2.p
      grind [pot]⟩
     split at e
     .cases e
     .rename_i ak al m3 s3 e3
      split at e3
      .cases e3
      .rename_i g' m2 s4 e2
       cases e3;cases e;cases a6:exam (mkCk ts m) ((n.name,k) :: s) B g with
       |error er=>grind
       |ok kg =>
        rw[a6]at x;cases x;have af:ScOk ts.sS.length ((n.name,k) :: s):=fun v hv=>by
         rcases qv.1 hv with rfl|hv
         .exact ⟨a8,T⟩
         .exact hs v hv
        have j:=ih a4 g body s2 g' m2 I ((n.name,k) :: s) ((nm',k') :: s') B m _ hm (hw.kid mg) (ht.kid mg) (ho.kid mg) af a5 a3 w1 e2 a6;obtain⟨an,z1,_⟩:=j.ex;refine⟨⟨some k',?_,fun _=>⟨k,k',rfl,rfl,y3⟩⟩,?_,rfl,zW2 out.le j.le⟩
        .rw [yP]
         show (if (inn&&zU (ckF ts) n.op nm')=true then _ else if n.op=1 then _ else if n.op=47 then _ else if n.op=15\/n.op=45\/n.op=46 then ym (ckF ts) s' (inn||decide (n.op=15)) nm' n.pos [a',g'] else _)=_;rw[Zq h47,if_neg P,if_neg h1,if_neg h47,if_pos hb,hB];simp only[ym,qX];rw[x1];simp only;rw[if_pos (by rw[y3.1];exact T),z1]
        .refine cX hw (by rw[r];simp[out.kd,j.kd]) (fun y hy=>?_) h47 (ho n (j8 n)) ?_
         .rcases qv.1 hy with rfl|hy
          .exact out.good.mono (zW1 j.le)
          .rw [qY]at hy;subst hy;exact j.good
         .rcases U with U|U
          .exact .inl ⟨U,by rw[U];exact ht n (j8 n)⟩
          .exact .inr ⟨U.mono j.le,qcG (ho n (j8 n)) (by unfold wu;rcases hb with h|h|h<;>simp[h])⟩
   grind
theorem YY(ts)(h:okTS ts)(es)(hP:Zr ts es)(J:qm ts es<=200000)(i:Free ts es):∀ f,IHx ts es f
 | 0=>fun env n body st n' z j s s' inn m P _ _ _ _ _ _ _ _ e _=>by cases e
 |f+1=>fun env n body st n' z j s s' inn m P hm R T U hs g r hr e x=>by
  have ih:=YY ts h es hP J i f;simp only[expI]at e;split at e
  .rename_i hc
   have hp:=wF g (n:=1) zOm hc;have l:=hp.ok g;have o:Rl (ckF ts) es (payS 1 st).last body s s' env:=hr;have t:st.last=(payS 1 st).last:=rfl;rw[t];split at e
   .rename_i h1
    exact qpK (c:=mkCk ts m) (c0:=ckF ts) rfl h1 R (T n (j8 n)) (U n (j8 n)) o e x
   .rename_i h1
    split at e
    .grind [qpM,payS]
    .rename_i h47
     obtain⟨⟨C,I,z'⟩,s1,e1,e2⟩:=Zm e;cases e2;by_cases hb:n.op=15\/n.op=45\/n.op=46
     .refine qpP ts h es J i f ih env n body (payS 1 st) C I z' j s s' inn m P hm R T U hs l ?_ r o hb e1 x
      rw[Zn];have:=g.p;omega
     grind [qpO,payS]
  .cases e
end
end PE
namespace ED
open P1 P2 Y1 Y2 Y9 YX YA YB PA YC YG PC PE E3 E6 EB
open PD
section
variable {nm':tC}{es:List (tC×Bool)}{e:List (tC×Int)}{ds':List Den}{x:Mo}
abbrev Th:=tC->Option (Nat->XE Ev.Rl)
def globE(x:Mo)(q:Nat)(nm:tC):XE Ev.Rl:=ZP (vC x.ts.sA (x.m.sK.getD q []) nm++y6 x nm 0 x.ts.sS)
def namC(x:Mo)(ρ:Th)(nm:tC)(p:Pl):XE Ev.Rl:=match zV nm p.env with
 |some a => .ok ⟨1,[a]⟩
 |none=>match ρ nm with
  |some t=>t p.st
  |none=>globE x p.st nm
def Vn:List (tC×Int)->List (Nat->XE Ev.Rl)->Th->Th
 |q :: i,t :: R,g=>Vn i R fun v=>if v=q.1 then some t else g v
 |_,_,g=>g
def cD(x:Mo):Nat->Th->Nd->Den
 | 0,_,_=>noD
 |f+1,g,n =>
  if n.op=1 then ⟨namC x g n.name,fun _ => .error 43,fun _ => .error 43⟩
  else if n.op=47 then match x.ts.sT.find? fun q=>decide (q.name=n.name) with
   |none=>noD
   |some q=>⟨fun _ => .error 43,fun _ => .error 43,fun p=>(cD x f (Vn q.params (n.sD.map fun k=>fun U=>(cD x f g k).E ⟨U,p.env⟩) fun _=>none) q.body).F ⟨p.st,[]⟩⟩
  else opD x n.op n.name n.n (n.sD.map (cD x f g))
def ValV(x:Mo)(ev e:List (tC×Int))(ρ:Th)(v:tC):Option Kd->Option IV->Prop
 |none,_=>zV v ev=none/\ρ v=none
 |some _,none=>∃ a,zV v ev=some a/\zV v e=some a
 |some _,some ⟨some t,_,_⟩=>zV v ev=none/\∃ g,ρ v=some g/\∀ q,g q=(den x t).E ⟨q,e⟩
 |some _,some ⟨none,_,i⟩=>∃ a,zV v ev=some a/\zV i e=some a
structure SV (x:Mo) (es:List (tC×Bool)) (s s':Scp) (env:IEnv) (ρ:Th) (ev e:List (tC×Int)):Prop where
 val:∀ v,tkn es v->ValV x ev e ρ v (lookS v s) (getK v env)
 dom:∀ v,lookS v s'=none->zV v e=none
theorem qpQ{op}(h:kd op=101)(i ds p):opN op i ds p = .error 43:=by
 have j:1<=op/\op<=15:=by
  unfold kd at h;by_cases g:1<=op/\op<=15
  .exact g
  omega
 unfold opN;rw[zIn,zIn,zIn,zIn]
theorem qpR{op}(h:op<=15)(nm ds p):opF x op nm ds p = .error 43:=by
 unfold opF;rw[zIn,zIn,zIn,zIn,zIn,zIn,zIn,zIn,zIn,zIn,zIn,zIn,zIn,zIn,zIn,zIn,zIn,zIn,zIn,zIn,zIn,zIn]
theorem qpS{op}(h:kd op=101):1<=op/\op<=15:=by
 unfold kd at h;by_cases g:1<=op/\op<=15
 .exact g
 omega
theorem Wg(x){t}(h:kd t.op=101)(p):(den x t).N p = .error 43:=by rw[vE];exact qpQ h _ _ p
theorem Wh(x){t}(h:kd t.op=101)(p):(den x t).F p = .error 43:=by rw[vE];exact qpR (qpS h).2 _ _ p
theorem kh(x){n}(h:n.op=1)(p):(den x n).E p=vD x p n.name:=by
 rw[vE];show opE x n.op _ _ _ p=_;unfold opE;rw[if_pos h]
theorem qpT{c c0 body inn s s' env n n' z st J ko ρ ev}(F)(P:c.ts=c0.ts)(o:n.op=1)(ht:tkn es n.name)(hr:PD.Rl c0 es st.last body s s' env)(hS:SV x es s s' env ρ ev e)
  (i:vt env n st = .ok ((n',z),J)) (p:exam c s inn n = .ok ko) (q):uq (cD x (F+1) ρ n) (den x n') ⟨q,ev⟩ ⟨q,e⟩:=by
 rw[Vl o,Zl]at p;have j:=hr.rel n.name ht;have l:=hS.val n.name ht;have R:cD x (F+1) ρ n=⟨namC x ρ n.name,fun _ => .error 43,fun _ => .error 43⟩:=by rw[cD,if_pos o]
 rw[R];have T:kd n.op=101:=by rw[o];rfl
 unfold vt at i;cases hg:getK n.name env with
 |none =>
  rw[hg]at i j l;cases i;refine⟨?_,(Wg x T _).symm,(Wh x T _).symm⟩;rw[kh x o];show namC x ρ n.name ⟨q,ev⟩=vD x ⟨q,e⟩ n.name;unfold namC vD;cases r:lookS n.name s with
  |some k =>
   rw[r]at l;obtain⟨a,C,I⟩:=l
   grind
  |none =>
   rw[r]at l p;obtain⟨C,I⟩:=l;simp only at p⊢;have U:lookS n.name s'=none:=by
    cases U:lookS n.name s' with
    |none=>rfl
    |some q =>
     have:=hr.mean _ (Vk U);rw[P,this]at p;cases p
   rw[C,I,hS.dom _ U];rfl
 |some iv =>
  obtain⟨a,g,to⟩:=iv;rw[hg]at i j l;simp only at i;cases r:lookS n.name s with
  |none=>rw[r]at j;exact j.elim
  |some k =>
   rw[r]at j l;cases a with
   |none =>
    cases i;obtain⟨a,C,I⟩:=l;have k2:kd (Nd.mk n.op to n.n n.sD n.pos).op=101:=T;refine⟨?_,(Wg x k2 _).symm,(Wh x k2 _).symm⟩;rw[kh x (n := .mk n.op to n.n n.sD n.pos) o];show namC x ρ n.name ⟨q,ev⟩=vD x ⟨q,e⟩ to
    grind [namC,vD]
   |some t =>
    simp only at i;have j:ArgR c0 es st.last s' k t:=j;obtain⟨C,th,I,e3⟩:=l;split at i
    .cases i
     refine⟨?_,(Wg x j.kd _).symm,(Wh x j.kd _).symm⟩
     grind [namC]
    .cases i
theorem SV.bind{c0 body s s' env st nm k k' ρ ev}(a2:Free c0.ts es)(a3:(env.map Prod.fst).Nodup)(h:PD.Rl c0 es st.last body s s' env)(h0:0<=st.last)(ht:tkn es nm)(hS:SV x es s s' env ρ ev e)(a) :
  SV x es ((nm,k) :: s) (((renI c0.ts es env nm body st).1.2,k') :: s') (renI c0.ts es env nm body st).1.1 ρ (ev++[(nm,a)]) (e++[((renI c0.ts es env nm body st).1.2,a)]):=by
 have a0:∀ v,lookS v ((nm,k) :: s)=if nm=v then some k else lookS v s:=fun v=>uu v _ _
 unfold renI;by_cases hc:body=true\/means c0.ts nm≠[]
 .rw [if_pos hc]
  have a4:=a2 st.last h0;have C:=We a4;have a8:=U0 c0.ts es (qm c0.ts es) st.last;generalize zA c0.ts es (qm c0.ts es) st.last=J at *
  obtain⟨j,rfl⟩:∃ j:Nat,J=j:=⟨J.toNat,zOm⟩;simp only[yD,qF,decide_eq_true_eq]at C;obtain⟨f1,f2⟩:=C;have a5:∀{v:tC},vLe es st.last v->v≠vN (j:Int):=fun⟨i,hi,e,_⟩ T=>by
   grind [KZ]
  have a6:∀ v,getK v (setK nm ⟨none,0,vN (j:Int)⟩ (delK nm env))=if v=nm then some ⟨none,0,vN (j:Int)⟩ else getK v env:=fun v=>by
   grind [jN,wd]
  have o:∀ v,v≠vN (j:Int)->zV v (e++[(vN (j:Int),a)])=zV v e:=fun v l=>by rw[wG,if_neg fun x=>l x.symm]
  refine⟨fun v I=>?_,fun v l=>?_⟩
  .show ValV x (ev++[(nm,a)]) (e++[(vN (j:Int),a)]) ρ v (lookS v ((nm,k) :: s)) (getK v (setK nm ⟨none,0,vN (j:Int)⟩ (delK nm env)))
   rw[a0,a6];by_cases p:nm=v
   .rw [if_pos p,if_pos p.symm]
    exact⟨a,by rw[wG,if_pos p],by rw[wG,if_pos rfl]⟩
   .rw [if_neg p,if_neg (fun e=>p e.symm)]
    have P:zV v (ev++[(nm,a)])=zV v ev:=by rw[wG,if_neg p]
    have r:=h.rel v I;have g:=hS.val v I;generalize lookS v s=lk at *
    generalize getK v env=iv at *
    match lk,iv with
    |none,iv=>exact⟨by rw[P];exact g.1,g.2⟩
    |some q,none =>
     obtain⟨b,U,T⟩:=g;exact⟨b,by grind,by grind⟩
    |some q,some ⟨some t,_,_⟩ =>
     have r:ArgR c0 es st.last s' q t:=r;obtain⟨U,th,T,e3⟩:=g;refine⟨by grind,th,T,fun q=>?_⟩;rw[e3];refine(qbS x (fun nm=>nm≠vN (j:Int)) (szN t) t (qo _) (fun y hy=>?_) _ _ (fun nm hn=>(o nm hn).symm) q).E;rcases (r.good.all y hy).nm with h1|h1
     .grind
     grind
    |some q,some ⟨none,_,to⟩ =>
     obtain⟨b,U,T⟩:=g;exact⟨b,by grind,by rw[o to (a5 r.2)];exact T⟩
  .have l:lookS v ((vN (j:Int),k') :: s')=none:=l
   rw[uu]at l;split at l
   .cases l
   .rename_i R
    show zV v (e++[(vN (j:Int),a)])=none;rw[o v fun x=>R x.symm];exact hS.dom v l
 .rw [if_neg hc]
  have a7:body=false:=by
   cases body with
   |false=>rfl
   |true=>exact absurd (.inl rfl) hc
  have o:∀ v,v≠nm->zV v (e++[(nm,a)])=zV v e:=fun v l=>by rw[wG,if_neg fun x=>l x.symm]
  refine⟨fun v I=>?_,fun v l=>?_⟩
  .show ValV x (ev++[(nm,a)]) (e++[(nm,a)]) ρ v (lookS v ((nm,k) :: s)) (getK v (delK nm env))
   rw[a0,wd a3];by_cases p:nm=v
   .rw [if_pos p,if_pos p.symm]
    exact⟨a,by rw[wG,if_pos p],by rw[wG,if_pos p]⟩
   .rw [if_neg p,if_neg (fun e=>p e.symm)]
    have P:zV v (ev++[(nm,a)])=zV v ev:=by rw[wG,if_neg p]
    have r:=h.rel v I;have g:=hS.val v I;have a1:=h.arg a7 v;generalize lookS v s=lk at *
    generalize getK v env=iv at *
    match lk,iv with
    |none,iv=>exact⟨by rw[P];exact g.1,g.2⟩
    |some q,none =>
     obtain⟨b,U,T⟩:=g;exact⟨b,by rw[P];exact U,by rw[o v (fun e=>p e.symm)];exact T⟩
    |some q,some ⟨some t,_,_⟩=>exact absurd (a1 _ rfl) zSp
    |some q,some ⟨none,_,to⟩ =>
     obtain⟨b,U,T⟩:=g;refine⟨b,by rw[P];exact U,?_⟩;rw[o to fun e=>?_]
     .exact T
     .obtain ⟨_,_,_,hn,_⟩:=r.2
      exact hn (e ▸ ht)
  .have l:lookS v ((nm,k') :: s')=none:=l
   rw[uu]at l;split at l
   .cases l
   .rename_i R
    show zV v (e++[(nm,a)])=none;rw[o v fun x=>R x.symm];exact hS.dom v l
theorem op_sv{op nm i ds ev}(C:op≠1)(h47:op≠47)(g:¬(op=15\/op=45\/op=46))(l:∀ j q,uq (kD ds j) (kD ds' j) ⟨q,ev⟩ ⟨q,e⟩)(q):uq (opD x op nm i ds) (opD x op nm' i ds') ⟨q,ev⟩ ⟨q,e⟩:=by
 have t:=fun j q=>(l j q).E
 have I:=fun j q=>(l j q).N
 have J:=fun j q=>(l j q).F
 have o:¬op=15:=fun h=>g (.inl h)
 have p:¬op=45:=fun h=>g (.inr (.inl h))
 have r:¬op=46:=fun h=>g (.inr (.inr h))
 refine⟨?_,?_,?_⟩
 .show opE x op nm i ds ⟨q,ev⟩=opE x op nm' i ds' ⟨q,e⟩
  simp only[opE,if_neg C,if_neg o,ye,binE,t]
 .show opN op i ds ⟨q,ev⟩=opN op i ds' ⟨q,e⟩
  grind [opN]
 .show opF x op nm ds ⟨q,ev⟩=opF x op nm' ds' ⟨q,e⟩
  simp only[opF,if_neg p,if_neg r,if_neg h47,ye,t,I,J]
theorem qpU{op nm i ds ev}(g:op=15\/op=45\/op=46)(q)(l:(kD ds 0).E ⟨q,ev⟩=(kD ds' 0).E ⟨q,e⟩)(o:∀ a,(kD ds 1).F ⟨q,ev++[(nm,a)]⟩=(kD ds' 1).F ⟨q,e++[(nm',a)]⟩):uq (opD x op nm i ds) (opD x op nm' i ds') ⟨q,ev⟩ ⟨q,e⟩:=by
 have j:jf ds nm ⟨q,ev⟩=jf ds' nm' ⟨q,e⟩:=by
  grind [jf]
 refine⟨?_,?_,?_⟩
 .show opE x op nm i ds ⟨q,ev⟩=opE x op nm' i ds' ⟨q,e⟩
  rcases g with rfl|rfl|rfl
  .simp [opE,j]
  .simp [opE]
  .simp [opE]
 .show opN op i ds ⟨q,ev⟩=opN op i ds' ⟨q,e⟩
  rcases g with rfl|rfl|rfl<;>simp[opN]
 .show opF x op nm ds ⟨q,ev⟩=opF x op nm' ds' ⟨q,e⟩
  rcases g with rfl|rfl|rfl
  .simp [opF]
  .simp [opF,j]
  .simp [opF,j]
end
end ED
namespace EG
open P1 P2 Y1 Y2 Y9 Y10 Y14 YX YB PA YC PC PE E3 EB ED
open PD
section
variable {es:List (tC×Bool)}{e:List (tC×Int)}{x:Mo}
def PS(x:Mo)(G:Nd->Den)(ev e:List (tC×Int)):List Nd->List Nd->Prop
 | [],[]=>True
 |k :: ks,i :: g=>(∀ q,uq (G k) (den x i) ⟨q,ev⟩ ⟨q,e⟩)/\PS x G ev e ks g
 |_,_=>False
theorem PS.get{G ev}:∀{ks g},PS x G ev e ks g->∀ j q,uq (kD (ks.map G) j) (kD (g.map (den x)) j) ⟨q,ev⟩ ⟨q,e⟩
 | [],[],_,j,q=>⟨rfl,rfl,rfl⟩
 |k :: ks,i :: g,h,0,q=>h.1 q
 |k :: ks,i :: g,h,j+1,q=>PS.get h.2 j q
 | [],_ :: _,h,_,_=>h.elim
 |_ :: _,[],h,_,_=>h.elim
theorem qcJ{G ev c c0 F body inn s s' env E R} :
  ∀{ks i nm nm' st g j I l},
  (∀ k,k∈ks->∀ st n' z g C,StOk F st->PD.Rl c0 es st.last body s s' env->E env k st = .ok ((n',z),g)->exam c s inn k = .ok C->(Out c0 es s' inn k n' C st.last g.last/\StOk F g)/\∀ q,uq (G k) (den x n') ⟨q,ev⟩ ⟨q,e⟩) ->
  StOk F st->PD.Rl c0 es st.last body s s' env->yo E R false i env nm ks st = .ok ((nm',j,I),g)->qX c s inn ks = .ok l->PS x G ev e ks j
 | [],i,nm,nm',st,g,j,I,l,_,p,J,o,el=>by
  cases o;exact trivial
 |k :: ks,i,nm,nm',st,g,j,I,l,T,p,J,o,el=>by
  simp only[yo,Bool.false_eq_true,false_and,if_false]at o;simp only[qX]at el;split at o
  .cases o
  .rename_i k' U s1 h1
   cases hx:exam c s inn k with
   |error er=>grind
   |ok C =>
    rw[hx]at el;simp only at el;obtain⟨⟨ho,t⟩,hq⟩:=T k (zj ..) st k' U s1 C p J h1 hx;cases P:qX c s inn ks with
    |error er=>grind
    |ok l1 =>
     split at o
     .cases o
     .rename_i a0 a1 m2 s2 h2
      have r:=qcJ (fun k hk=>T k (za _ hk)) t (Rl.mono J ho.le) h2 P;cases o;exact⟨hq,r⟩
theorem qcK{T c c0 F body s s' env pos E P} :
  ∀{ks ps}{own i:IEnv}{sc ρ st g},
  (∀ k,k∈ks->∀ st n' z g P,StOk F st->PD.Rl c0 es st.last body s s' env->E k st = .ok ((n',z),g)->exam c s true k = .ok P->(Out c0 es s' true k n' P st.last g.last/\StOk F g)/\∀ q,T k q=(den x n').E ⟨q,e⟩) ->
  StOk F st->PD.Rl c0 es st.last body s s' env->(∀ v,ValV x [] e ρ v (lookS v sc) (getK v own))->ps.length=ks.length->zY c s pos ps ks = .ok P->yV E ps ks own st = .ok (i,g) ->
  ∀ v,ValV x [] e (Vn ps (ks.map T) ρ) v (lookS v (ps.foldl (fun s p=>(p.1,kOf [p.2]) :: s) sc)) (getK v i)
 | [],[],own,i,sc,ρ,st,g,_,_,_,R,_,_,j=>by
  cases j;exact R
 |k :: ks,p :: ps,own,i,sc,ρ,st,g,hE,U,hr,R,r,l,j=>by
  simp only[zY]at l;simp only[yV]at j;cases hx:exam c s true k with
  |error er=>grind
  |ok ka =>
   cases ka with
   |none=>grind
   |some a =>
    rw[hx]at l;simp only at l;by_cases a0:a.ar=1
    .rw [if_pos a0]at l
     by_cases a1:ui p.2 a=true
     .rw [if_pos a1]at l
      split at j
      .cases j
      .rename_i k' m s1 h1
       obtain⟨⟨out,C⟩,hT⟩:=hE k (zj ..) st k' m s1 _ U hr h1 hx;have I:∀ v,ValV x [] e (fun v=>if v=p.1 then some (T k) else ρ v) v (lookS v ((p.1,kOf [p.2]) :: sc)) (getK v (setK p.1 ⟨some k',m,⟨#[]⟩⟩ own)):=fun v=>by
        rw[uu,jN];by_cases o:p.1=v
        .rw [if_pos o,if_pos o.symm]
         exact⟨rfl,T k,if_pos o.symm,hT⟩
        .rw [if_neg o,if_neg (fun e=>o e.symm)]
         have J:=R v;have a2:(if v=p.1 then some (T k) else ρ v)=ρ v:=if_neg fun e=>o e.symm
         generalize lookS v sc=lk at *
         generalize getK v own=iv at *
         match lk,iv with
         |none,iv=>exact⟨J.1,by rw[<-J.2];exact a2⟩
         |some q,none=>exact J
         |some q,some ⟨some t,_,_⟩ =>
          obtain⟨e1,th,e2,e3⟩:=J;exact⟨e1,th,by grind,e3⟩
         |some q,some ⟨none,_,to⟩=>exact J
       exact qcK (ks:=ks) (ps:=ps) (fun k hk=>hE k (za _ hk)) C (Rl.mono hr out.le) I (zUs r) l j
     grind
    grind
 | [],_ :: _,_,_,_,_,_,_,_,_,_,_,r,_,_=>by simp at r
 |_ :: _,[],_,_,_,_,_,_,_,_,_,_,r,_,_=>by simp at r
theorem qpV{op}(h:16<=op)(nm i ds p):opE x op nm i ds p = .error 43:=by
 unfold opE;rw[zIn,zIn,zIn,zIn,zIn,zIn,zIn,zIn,zIn,zIn,zIn,zIn,zIn,zIn,zIn]
theorem qpW{op}(h:24<=op)(i ds p):opN op i ds p = .error 43:=by
 unfold opN;rw[zIn,zIn,zIn,zIn]
theorem qpX{op}(h:kd op=102):30<=op:=by
 grind [kd]
def IHs(x:Mo)(es:List (tC×Bool))(f:Nat):Prop:=∀(env:IEnv)(n:Nd)(i:Bool)(U:ISt)(l:Nd)(z:Int)(g:ISt)(s o:Scp)(j:Bool)(m:Nat)(r:Option Kd)(p:Th)(ev e:List (tC×Int))(F:Nat),
 m<=x.ts.sT.length->WfN n->Tk es n->OwnT n->ScOk x.ts.sS.length s->StOk (qm x.ts es) U->zp env->PD.Rl (ckF x.ts) es U.last i s o env->SV x es s o env p ev e->f<=F ->
 expI x.ts es f env n i U = .ok ((l,z),g)->exam (mkCk x.ts m) s j n = .ok r->∀ q,uq (cD x F p n) (den x l) ⟨q,ev⟩ ⟨q,e⟩
theorem qpY(x)(h:okTS x.ts)(es)(hP:Zr x.ts es)(hF:qm x.ts es<=200000)(a3:Free x.ts es)(f)(ih:IHs x es f)(env n body st n' z g s s' inn m ko ρ ev ee F)
  (hm:m<=x.ts.sT.length) (hw:WfN n) (ht:Tk es n) (ho:OwnT n) (hs:ScOk x.ts.sS.length s) (l:StOk (qm x.ts es) st) (P:zp env) (hr:PD.Rl (ckF x.ts) es st.last body s s' env) (hS:SV x es s s' env ρ ev ee) (a7:f<=F) (h47:n.op=47) (a8:Out (ckF x.ts) es s' inn n n' ko st.last g.last)
  (e:((match x.ts.sT.find? fun p=>decide (p.name=n.name) with
    |none=>Except.error (2,0)
    |some p=>vK (yV (fun k s=>expI x.ts es f env k body s) p.params n.sD [] st) fun own s'=>expI x.ts es f own p.body true s'):XR (Nd×Int)) = .ok ((n',z),g))
  (J:exam (mkCk x.ts m) s inn n = .ok ko) (q):uq (cD x (F+1) ρ n) (den x n') ⟨q,ev⟩ ⟨q,ee⟩:=by
 have hc:okCk (mkCk x.ts m):=v6 h hm;rw[yP,if_neg (show ¬n.op=1 by omega),if_pos h47]at J;split at J
 .cases J
 rename_i R;split at J
 .cases r:zt (mkCk x.ts m) n.name with
  |none=>grind
  |some i =>
   obtain⟨a4,I⟩:=Qe hc r;have a4:i<m:=a4;have I:i<x.ts.sT.length:=I;rw[r]at J;simp only at J;have J:((match x.ts.sT[i]? with|none=>Except.error (45,n.pos)|some t=>if t.params.length=n.sD.length then zY (mkCk x.ts m) s n.pos t.params n.sD else .error (45,n.pos)):Res) = .ok ko:=J;rw[qz I]at J;simp only at J;have a5:(x.ts.sT.find? fun p=>decide (p.name=n.name))=some x.ts.sT[i]:=by
    unfold zt at r;rw[List.findIdx?_eq_some_iff_getElem]at r;obtain⟨hi,a1,a2⟩:=r;rw[List.find?_eq_some_iff_getElem];refine⟨?_,i,I,rfl,fun j hj=>?_⟩
    .have:=a1
     simp only[List.getElem_take]at this;exact this
    .have:=a2 j hj
     simp only[List.getElem_take]at this;have h3:¬decide (x.ts.sT[j].name=n.name)=true:=this
     grind
   have ag:cD x (F+1) ρ n=⟨fun _ => .error 43,fun _ => .error 43,fun p=>(cD x F (Vn x.ts.sT[i].params (n.sD.map fun k=>fun st=>(cD x F ρ k).E ⟨st,p.env⟩) fun _=>none) x.ts.sT[i].body).F ⟨p.st,[]⟩⟩:=by
    simp_all[cD,if_neg,if_pos]
   rw[a5]at e;simp only at e;obtain⟨⟨kb,hb⟩,av,ah,ai,aj⟩:=hP i I;have ak:=h.pl _ (qq I);generalize al:x.ts.sT[i]=t at *
   by_cases U:t.params.length=n.sD.length
   .rw [if_pos U]at J
    obtain⟨own,s1,h1,e⟩:=Zm e;have a9:=Wf hw h47;have a0:∀ k,k∈n.sD->∀ st n' z g,StOk (qm x.ts es) st->expI x.ts es f env k body st = .ok ((n',z),g)->StOk (qm x.ts es) g:=fun k C st n' z g l e=>(jl x.ts a3 f l P e).ok l
    have aa:=YY x.ts h es hP hF a3 f;obtain⟨g1,g2⟩:=kf (c:=mkCk x.ts m) (c0:=ckF x.ts) (ns:=x.ts.sS.length) (F:=qm x.ts es) (body:=body) (s:=s) (s':=s') (env:=env) (sc:=[]) (own:=[])
     (fun k C st n' z g ko l hr e x=>⟨aa env k body st n' z g s s' true m ko hm (hw.kid C) (ht.kid C) (ho.kid C) hs l P hr e x,a0 k C st n' z g l e⟩)
     a9 (fun k C a hx=>by
      obtain⟨q,e1,e2⟩:=vH hc (szN k) k s true _ (qo _) (hw.kid C) hs hx (a9 k C);cases e1;exact e2)
     l hr (fun v=>trivial) U J h1
    have gv:=qcK (x:=x) (e:=ee) (T:=fun k=>fun st=>(cD x F ρ k).E ⟨st,ev⟩) (c:=mkCk x.ts m) (c0:=ckF x.ts) (F:=qm x.ts es) (body:=body) (s:=s) (s':=s') (env:=env) (sc:=[]) (own:=[]) (ρ:=fun _=>none)
     (fun k C st n' z g ko l hr e x2=>⟨⟨aa env k body st n' z g s s' true m ko hm (hw.kid C) (ht.kid C) (ho.kid C) hs l P hr e x2,a0 k C st n' z g l e⟩,fun q=>(ih env k body st n' z g s s' true m ko ρ ev ee F hm (hw.kid C) (ht.kid C) (ho.kid C) hs l P hr hS a7 e x2 q).E⟩)
     l hr (fun v=>⟨rfl,rfl⟩) U J h1
    obtain⟨ab,an⟩:=U1 (F:=qm x.ts es) (fun k n' z s s' _ hs hE=>jl x.ts a3 f hs P hE) l .nil h1;have ad:=an.ok l;have ao:PD.Rl (ckF x.ts) es s1.last true (zS t.params) s' own:=⟨hr.mean,fun v hv=>by
     have:=g2 v;have:OwnV (ckF x.ts) es s1.last s' (lookS v (zS t.params)) (getK v own):=this;generalize lookS v (zS t.params)=lk at *
     generalize getK v own=iv at *
     match lk,iv with
     |none,none=>trivial
     |some k,some ⟨some a,_,_⟩=>exact this
     |none,some _=>exact this.elim
     |some k,none=>exact this.elim
     |some k,some ⟨none,_,_⟩=>exact this.elim,fun aq=>by cases aq⟩
    have ae:ScOk x.ts.sS.length (zS t.params):=UP ⟨zOm,ak.2⟩;have ar:exam (mkCk x.ts i) (zS t.params) inn t.body = .ok kb:=by
     cases af:inn with
     |false=>exact hb
     |true =>
      rw[<-hb];refine K8 _ (szN t.body) t.body _ _ _ (qo _) ?_;rw[af]at R;have a6:zU (mkCk x.ts m) n.op n.name=false:=by simpa using R
      unfold zU at a6;rw[r,h47]at a6;have:=Vj x.ts i m a4 hm I;rw[al]at this;rw[<-this];have aw:(yx 47||(decide ((47:Int)=47)&&(tmsL x.ts m).getD i false))=false:=a6
      grind
    have au:SV x es (zS t.params) s' own (Vn t.params (n.sD.map fun k=>fun st=>(cD x F ρ k).E ⟨st,ev⟩) fun _=>none) [] ee:=⟨fun v _=>gv v,hS.dom⟩;have hB:=ih own t.body true s1 n' z g (zS t.params) s' inn i kb _ [] ee F zOm ah ai aj ae ad ab ao au a7 e ar q;have ax:30<=n'.op:=qpX (by rw[a8.kd,h47];rfl);rw[ag];refine⟨?_,?_,hB.F⟩
    .rw [vE];exact(qpV zOm _ _ _ _).symm
    .rw [vE];exact(qpW zOm _ _ _).symm
   grind
 .cases J
theorem qpZ(x)(h:okTS x.ts)(es)(hP:Zr x.ts es)(hF:qm x.ts es<=200000)(p:Free x.ts es)(f)(ih:IHs x es f)(env n body st nm' r z i s s' inn m C ρ ev I F)
  (hm:m<=x.ts.sT.length) (hw:WfN n) (ht:Tk es n) (ho:OwnT n) (hs:ScOk x.ts.sS.length s) (g:StOk (qm x.ts es) st) (j:zp env) (J:PD.Rl (ckF x.ts) es st.last body s s' env) (hS:SV x es s s' env ρ ev I) (P:f<=F) (h47:n.op≠47) (h1:n.op≠1) (hb:¬(n.op=15\/n.op=45\/n.op=46))
  (e:yo (fun env k s=>expI x.ts es f env k body s) (fun env nm s=>renI x.ts es env nm body s) (binB n.op) 0 env n.name n.sD st = .ok ((nm',r,z),i))
  (t:exam (mkCk x.ts m) s inn n = .ok C) (q):uq (cD x (F+1) ρ n) (den x (.mk n.op nm' n.n r n.pos)) ⟨q,ev⟩ ⟨q,I⟩:=by
 have R:binB n.op=false:=by
  simp_all[binB,not_or]
 rw[R]at e;rw[yP,Zq h47,if_neg h1,if_neg h47,if_neg hb]at t;split at t
 .cases t
 have T:=t;clear t;generalize hB:(inn||decide (n.op=12)||decide (n.op=13))=B at T;have U:=YY x.ts h es hP hF p f;cases hl:qX (mkCk x.ts m) s B n.sD with
 |error er=>grind
 |ok l =>
  have a0:=qcJ (x:=x) (G:=cD x F ρ) (ev:=ev) (e:=I) (c:=mkCk x.ts m) (c0:=ckF x.ts) (F:=qm x.ts es) (body:=body) (s:=s) (s':=s') (env:=env)
   (fun k o st n' z i C g J e x2=>⟨⟨U env k body st n' z i s s' B m C hm (hw.kid o) (ht.kid o) (ho.kid o) hs g j J e x2,(jl x.ts p f g j e).ok g⟩,ih env k body st n' z i s s' B m C ρ ev I F hm (hw.kid o) (ht.kid o) (ho.kid o) hs g j J hS P e x2⟩) g J e hl
  have a1:cD x (F+1) ρ n=opD x n.op n.name n.n (n.sD.map (cD x F ρ)):=by simp_all[cD,if_neg]
  rw[a1,vE];exact op_sv h1 h47 hb a0.get q
theorem qp0(x)(h:okTS x.ts)(es)(hP:Zr x.ts es)(hF:qm x.ts es<=200000)(l:Free x.ts es)(f)(ih:IHs x es f)(env n body st nm' T z U s s' inn m ko ρ ev ee F)
  (hm:m<=x.ts.sT.length) (hw:WfN n) (ht:Tk es n) (ho:OwnT n) (hs:ScOk x.ts.sS.length s) (o:StOk (qm x.ts es) st) (ah:(qm x.ts es:Nat)<=pot (qm x.ts es) st) (j:zp env) (hr:PD.Rl (ckF x.ts) es st.last body s s' env) (hS:SV x es s s' env ρ ev ee) (a0:f<=F) (hb:n.op=15\/n.op=45\/n.op=46)
  (e:yo (fun env k s=>expI x.ts es f env k body s) (fun env nm s=>renI x.ts es env nm body s) (binB n.op) 0 env n.name n.sD st = .ok ((nm',T,z),U))
  (r:exam (mkCk x.ts m) s inn n = .ok ko) (q):uq (cD x (F+1) ρ n) (den x (.mk n.op nm' n.n T n.pos)) ⟨q,ev⟩ ⟨q,ee⟩:=by
 have hc:okCk (mkCk x.ts m):=v6 h hm;have a7:binB n.op=true:=by
  grind [binB]
 have h47:n.op≠47:=zOm;have h1:n.op≠1:=zOm;have a8:=YY x.ts h es hP hF l f;have a9:cD x (F+1) ρ n=opD x n.op n.name n.n (n.sD.map (cD x F ρ)):=by simp_all[cD,if_neg]
 rw[a9,vE];rw[a7]at e;rw[yP,Zq h47,if_neg h1,if_neg h47,if_pos hb]at r;split at r
 .cases r
 obtain⟨a,g,I,a1⟩:=Vm hw hb;have J:a∈n.sD:=by rw[I];simp
 have mg:g∈n.sD:=by rw[I];simp
 rw[I]at e r⊢;generalize hB:(inn||decide (n.op=15))=B at r;simp only[ym,qX]at r;simp only[yo,yb,true_and,Nat.zero_ne_one,if_false,if_true]at e;cases t:exam (mkCk x.ts m) s B a with
 |error er=>grind
 |ok ka =>
  cases ka with
  |none=>grind
  |some k =>
   rw[t]at r;simp only at r;by_cases a2:k.ar=1
   .rw [if_pos a2]at r
    split at e
    .cases e
    .rename_i a' m1 s1 e1
     have out:=a8 env a body st a' m1 s1 s s' B m _ hm (hw.kid J) (ht.kid J) (ho.kid J) hs o j hr e1 t;have aa:=ih env a body st a' m1 s1 s s' B m _ ρ ev ee F hm (hw.kid J) (ht.kid J) (ho.kid J) hs o j hr hS a0 e1 t q;have a3:=jl x.ts l f o j e1;have i:=a3.ok o;obtain⟨aj,x1,x2⟩:=out.ex;obtain⟨q1,P,y1,y2,y3⟩:=x2 a1;cases y1;subst y2;obtain⟨q2,y4,ab⟩:=vH hc (szN a) a s B _ (qo _) (hw.kid J) hs t a1;cases y4;have C:=YO l (env:=env) (nm:=n.name) (body:=body) i.l0;have a4:=YN (ts:=x.ts) (es:=es) (nm:=n.name) (body:=body) (s:=s1) j;have ad:=i.last;obtain⟨w1,w2,w3⟩:=Rl.bind (c0:=ckF x.ts) (st:=s1) (nm:=n.name) (k:=k) (k':=P) l j.nd (Rl.mono hr out.le) i.l0 (by show s1.last+(qm x.ts es:Nat)<_;omega) (ht n (j8 n)) y3;have w4:=fun a=>SV.bind (x:=x) (c0:=ckF x.ts) (st:=s1) (nm:=n.name) (k:=k) (k':=P) (ρ:=ρ) (ev:=ev) (e:=ee) l j.nd (Rl.mono hr out.le) i.l0 (ht n (j8 n)) hS a
     have w1:PD.Rl (ckF x.ts) es (renI x.ts es env n.name body s1).2.last body ((n.name,k) :: s) (((renI x.ts es env n.name body s1).1.2,P) :: s') (renI x.ts es env n.name body s1).1.1:=w1;have w4:∀ a,SV x es ((n.name,k) :: s) (((renI x.ts es env n.name body s1).1.2,P) :: s') (renI x.ts es env n.name body s1).1.1 ρ (ev++[(n.name,a)]) (ee++[((renI x.ts es env n.name body s1).1.2,a)]):=w4;clear w2 w3;generalize ai:renI x.ts es env n.name body s1=ae at *
     obtain⟨⟨a5,ak⟩,s2⟩:=ae;simp only at C a4 w1 w4 e;have a6:StOk (qm x.ts es) s2:=⟨C.1,by rw[C.2.2];exact i.c0,by rw[C.2.2];exact i.c1,by
      have:=a3.p
      grind [pot]⟩
     split at e
     .cases e
     .rename_i al an m3 s3 e3
      split at e3
      .cases e3
      .rename_i g' m2 s4 e2
       cases e3;cases e;cases af:exam (mkCk x.ts m) ((n.name,k) :: s) B g with
       |error er=>grind
       |ok kg =>
        have ag:ScOk x.ts.sS.length ((n.name,k) :: s):=fun v hv=>by
         rcases qv.1 hv with rfl|hv
         .exact ⟨ab,a2⟩
         .exact hs v hv
        refine qpU (nm':=nm') (ds:=[a,g].map (cD x F ρ)) (ds':=[a',g'].map (den x)) hb q aa.E fun v=>?_
        exact(ih a5 g body s2 g' m2 U ((n.name,k) :: s) ((nm',P) :: s') B m _ ρ _ _ F hm (hw.kid mg) (ht.kid mg) (ho.kid mg) ag a6 a4 w1 (w4 v) a0 e2 af q).F
   grind
theorem qcL(x)(h:okTS x.ts)(es)(C:Zr x.ts es)(I:qm x.ts es<=200000)(i:Free x.ts es):∀ f,IHs x es f
 | 0=>fun env n body st n' z j s s' inn m J ρ ev ee F _ _ _ _ _ _ _ _ _ _ e _=>by cases e
 |f+1=>fun env n body st n' z j s s' inn m J ρ ev ee F hm hw P ho hs g l hr hS o e R q=>by
  have ih:=qcL x h es C I i f;have a0:=YY x.ts h es C I i (f+1) env n body st n' z j s s' inn m J hm hw P ho hs g l hr e R;obtain⟨F,rfl⟩:∃ F',F=F'+1:=⟨F-1,zOm⟩;have o:f<=F:=zOm;simp only[expI]at e;split at e
  .rename_i hc
   have hp:=wF g (n:=1) zOm hc;have r:=hp.ok g;have t:PD.Rl (ckF x.ts) es (payS 1 st).last body s s' env:=hr;split at e
   .rename_i h1
    exact qpT (c:=mkCk x.ts m) (c0:=ckF x.ts) F rfl h1 (P n (j8 n)) t hS e R q
   .rename_i h1
    split at e
    .grind [qpY,payS]
    .rename_i h47
     obtain⟨⟨T,U,z'⟩,s1,e1,e2⟩:=Zm e;cases e2;by_cases hb:n.op=15\/n.op=45\/n.op=46
     .refine qp0 x h es C I i f ih env n body (payS 1 st) T U z' j s s' inn m J ρ ev ee F hm hw P ho hs r ?_ l t hS o hb e1 R q
      rw[Zn];have:=g.p;omega
     grind [qpZ,payS]
  .cases e
end
end EG
namespace PG
open Y1 Y2 P1 P2 Y9 YZ
theorem qp1{ns op n pos l e}(h:yk ns op n pos l = .error e):40<=e.1:=by
 unfold yk at h
 repeat' split at h
 all_goals first
  | (cases h;done)
  | (cases h;simp)
theorem qp2{c s nm pos e}(h:ju c s nm pos = .error e):40<=e.1:=by
 unfold ju at h
 repeat' split at h
 all_goals first
  | (cases h;done)
  | (cases h;simp)
section
variable {c:Ck}
theorem ki{inn}:∀{ks s e},(∀ k,k∈ks->∀ s e,exam c s inn k = .error e->40<=e.1)->qX c s inn ks = .error e->40<=e.1
 | [],s,e,_,h=>by simp only[qX]at h;cases h
 |k :: ks,s,e,g,h=>by
  simp only[qX]at h;split at h
  .rename_i i hx
   cases h;exact g k (zj ..) s _ hx
  .split at h
   .rename_i i hx
    cases h;exact ki (fun k j=>g k (za _ j)) hx
   .cases h
theorem qcM{pos}:∀{ks ps s e},(∀ k,k∈ks->∀ s e,exam c s true k = .error e->40<=e.1)->zY c s pos ps ks = .error e->40<=e.1
 | [],ps,s,e,_,h=>by cases ps<;>(simp only[zY]at h;cases h)
 |k :: ks,[],s,e,_,h=>by simp only[zY]at h;cases h
 |k :: ks,p :: ps,s,e,g,h=>by
  simp only[zY]at h;split at h
  .rename_i j hx
   cases h;exact g k (zj ..) s _ hx
  .cases h;simp
  .split at h
   .split at h
    .exact qcM (fun k i=>g k (za _ i)) h
    .cases h;simp
   .cases h;simp
theorem qp3{inn nm pos}:∀{ks s e},(∀ k,k∈ks->∀ s e,exam c s inn k = .error e->40<=e.1)->ym c s inn nm pos ks = .error e->40<=e.1
 | [],s,e,_,h=>by simp only[ym]at h;cases h
 |k :: ks,s,e,g,h=>by
  simp only[ym]at h;split at h
  .rename_i i hx
   cases h;exact g k (zj ..) s _ hx
  .cases h;simp
  .split at h
   .split at h
    .rename_i i hx
     cases h;exact ki (fun k j=>g k (za _ j)) hx
    .cases h
   .cases h;simp
theorem Vo(c):∀ m n s inn e,szN n<=m->exam c s inn n = .error e->40<=e.1
 | 0,n,_,_,_,j,_=>by obtain⟨op,nm,i,ks,p⟩:=n;simp[szN]at j
 |m+1,n,s,inn,e,j,h=>by
  have g:∀ inn k,k∈n.sD->∀ s e,exam c s inn k = .error e->40<=e.1:=fun inn k l s e h=>Vo c m k s inn e (zW1 (yn l)) h
  rw[yP]at h;split at h
  .cases h;simp
  split at h
  .exact qp2 h
  split at h
  .split at h
   .split at h
    .cases h;simp
    .split at h
     .cases h;simp
     .split at h
      .exact qcM (g true) h
      .cases h;simp
   .cases h;simp
  split at h
  .exact qp3 (g _) h
  .split at h
   .rename_i o hx
    cases h;exact ki (g _) hx
   .exact qp1 h
end
theorem qcN{ks k}(h:k∈ks):depN k<=yr ks:=by
 induction ks with
 |nil=>simp at h
 |cons a l g =>
  simp only[yr];rcases qv.1 h with rfl|h
  .omega
  .have:=g h;omega
theorem qcO(n):1<=depN n:=by
 rw[wC];have:∀ ks:List Nd,0<=yr ks:=by
  intro ks;induction ks with
  |nil=>simp[yr]
  |cons a l g=>simp only[yr];omega
 have:=this n.sD;omega
end PG
namespace PF
open P1 P2 Y1 Y2 Y9 Y16 YZ YB YC YE YG Q2 Q4 Q6 PC PE PG
mutual
theorem kj:∀(n:Nd)(left:Int),cntT n<=left->cntN n left=cntT n
 | .mk op nm i ks p,left,h=>by
  simp only[cntT,cntN]at h⊢;exact qcP ks left 1 h
theorem qcP:∀(ks:List Nd)(left sum:Int),sum+ja ks<=left->y8 ks left sum=sum+ja ks
 | [],left,sum,h=>by simp only[ja,y8];omega
 |k :: ks,left,sum,h=>by
  simp only[ja,y8]at h⊢;have g:=KV k;have i:=U6 ks;rw[if_pos zOm,kj k (left-sum) zOm,qcP ks left _ zOm];omega
end
mutual
theorem qcQ:∀(n:Nd)(left:Int),cntN n left<=left->cntT n<=left
 | .mk op nm i ks p,left,h=>by
  simp only[cntT,cntN]at h⊢;exact qcR ks left 1 h
theorem qcR:∀(ks:List Nd)(left sum:Int),y8 ks left sum<=left->sum+ja ks<=left
 | [],left,sum,h=>by simp only[ja,y8]at h⊢;omega
 |k :: ks,left,sum,h=>by
  simp only[ja,y8]at h⊢;split at h
  .have i:=(Km ks left (sum+cntN k (left-sum))).1
   have g:cntN k (left-sum)<=left-sum:=zOm;have j:=kj k (left-sum) (qcQ k _ g);have l:=qcR ks left _ h;omega
  .omega
end
section
variable {c:Ck}
theorem qp4{ks d}(g:0<=d)(h:∀ k,k∈ks->depN k<=d):yr ks<=d:=by
 induction ks with
 |nil=>grind [yr]
 |cons a l i =>
  grind [yr,zj,za]
theorem qp5{ks g}(h:∀ k,k∈ks->forN k g=true):uP ks g=true:=by
 induction ks with
 |nil=>rfl
 |cons a l i =>
  simp_all[uP,qF,zj,za]
theorem qcS:∀ m n g,szN n<=m->WfN n->OwnT n->depN n<=g->forN n g=true
 | 0,n,_,l,_,_,_=>by obtain⟨op,nm,i,ks,p⟩:=n;simp[szN]at l
 |m+1,n,g,l,o,r,t=>by
  have C:=qcO n;rw[J4,zIn,r n (j8 n),Bool.true_and,qF];refine⟨?_,qp5 fun k j=>qcS m k (g-1) (zW1 (yn j)) (o.kid j) (r.kid j) ?_⟩
  .unfold fitB
   rw[decide_eq_true_eq];exact o.shape
  .have:=qcN j
   rw[wC]at t;omega
theorem qcT:∀ m n j,szN n<=m->forN n j=true->OwnT n/\depN n<=j
 | 0,n,_,l,_=>by obtain⟨op,nm,i,ks,p⟩:=n;simp[szN]at l
 |m+1,n,j,l,h=>by
  rw[J4]at h;split at h
  .cases h
  .rename_i C
   simp only[qF]at h;obtain⟨r,I,t⟩:=h;have o:=fun k (g:k∈n.sD)=>qcT m k (j-1) (zW1 (yn g)) (Kn t k g)
   refine⟨fun x hx=>?_,?_⟩
   .rw [ur]at hx
    rcases qv.1 hx with rfl|hx
    .exact r
    .obtain ⟨k,g,hx⟩:=Wd hx
     exact(o k g).1 x hx
   .rw [wC]
    have:=qp4 (ks:=n.sD) (d:=j-1) zOm fun k g=>(o k g).2
    omega
theorem vM{n}:qH n=true↔WfN n/\OwnT n/\cntT n<=400/\depN n<=24:=by
 constructor
 .intro h
  have l:=vI h;simp only[qH,qF,decide_eq_true_eq]at h;obtain⟨a,b⟩:=qcT (szN n) n 24 (qo _) h.2;simp_all[qcQ]
 .rintro ⟨g,i,o,j⟩
  simp only[qH,qF,decide_eq_true_eq];exact⟨by grind [kj],qcS (szN n) n 24 (qo _) g i j⟩
theorem qcU{nm i}(h:zt c nm=some i)(hp):(c.ts.sT.find? fun p=>decide (p.name=nm))=some c.ts.sT[i]:=by
 unfold zt at h;rw[List.findIdx?_eq_some_iff_getElem]at h;obtain⟨g,l,o⟩:=h;rw[List.find?_eq_some_iff_getElem];refine⟨?_,i,hp,rfl,fun j r=>?_⟩
 .grind
 grind
theorem qcV{s pos}:∀{ks ps j},ps.length=ks.length->zY c s pos ps ks = .ok j->∀ k,k∈ks->∃ a,exam c s true k = .ok a
 | [],_,_,_,_,k,g=>absurd g qI
 |k :: ks,[],_,i,_,_,_=>by simp at i
 |k :: ks,p :: ps,j,i,h,x,hx=>by
  simp only[zY]at h;split at h
  .cases h
  .cases h
  .rename_i a g
   split at h
   .split at h
    .rcases qv.1 hx with rfl|hx
     .exact ⟨_,g⟩
     .exact qcV (zUs i) h x hx
    .cases h
   .cases h
theorem kl{s inn}:∀{ks l},qX c s inn ks = .ok l->∀ k,k∈ks->∃ a,exam c s inn k = .ok a
 | [],_,_,k,g=>absurd g qI
 |k :: ks,l,h,x,hx=>by
  simp only[qX]at h;split at h
  .cases h
  .rename_i a g
   split at h
   .cases h
   .rename_i j i
    rcases qv.1 hx with rfl|hx
    .exact ⟨_,g⟩
    .exact kl i x hx
theorem kn(hc:okCk c):∀ m n s inn j,szN n<=m->exam c s inn n = .ok j->WfN n->yQ c.ts n
 | 0,n,_,_,_,hm,_,_=>by obtain⟨op,nm,i,ks,p⟩:=n;simp[szN]at hm
 |m+1,n,s,inn,j,hm,h,T=>fun x hx U=>by
  have ih:∀ k,k∈n.sD->∀ s inn j,exam c s inn k = .ok j->yQ c.ts k:=fun k r s inn j h=>kn hc m k s inn j (zW1 (yn r)) h (T.kid r)
  rw[yP]at h;rw[ur]at hx;split at h
  .cases h
  by_cases h1:n.op=1
  .rw [K9 T h1]at hx
   rcases qv.1 hx with rfl|hx
   .omega
   .simp [zz]at hx
  rw[if_neg h1]at h;have t:∀(s:Nd->Scp)(inn:Nd->Bool),(∀ k,k∈n.sD->∃ j,exam c (s k) (inn k) k = .ok j)->x∈zz n.sD->∃ p,(c.ts.sT.find? fun p=>decide (p.name=x.name))=some p/\p.params.length=x.sD.length:=fun s inn r hx=>by
   obtain⟨k,C,hx⟩:=Wd hx;obtain⟨j,a0⟩:=r k C;exact ih k C _ _ _ a0 x hx U
  by_cases h47:n.op=47
  .rw [if_pos h47]at h
   split at h
   .split at h
    .cases h
    .rename_i i I
     obtain⟨_,a1⟩:=Qe hc I;rw[qz a1]at h;simp only at h;split at h
     .rename_i J
      rcases qv.1 hx with rfl|hx
      .grind [qcU]
      .exact t (fun _=>s) (fun _=>true) (qcV J h) hx
     .cases h
   .cases h
  rw[if_neg h47]at h;have hx:x∈zz n.sD:=by
   rcases qv.1 hx with rfl|hx
   .omega
   .exact hx
  by_cases P:n.op=15\/n.op=45\/n.op=46
  .rw [if_pos P]at h
   obtain⟨a,g,o,_⟩:=Vm T P;rw[o]at h;simp only[ym]at h;split at h
   .cases h
   .cases h
   .rename_i k r
    split at h
    .split at h
     .cases h
     .rename_i l hl
      obtain⟨y,R,hx⟩:=Wd hx;rw[o]at R;rcases qv.1 R with rfl|R
      .exact ih y (by rw[o];simp) _ _ _ r x hx U
      .rw [qY]at R
       subst R;obtain⟨b,P⟩:=kl hl y zSp;exact ih y (by rw[o];simp) _ _ _ P x hx U
    .cases h
  .rw [if_neg P]at h
   split at h
   .cases h
   .rename_i l hl
    exact t (fun _=>s) (fun _=>_) (fun k r=>kl hl k r) hx
theorem Y0{env n}(h:(jE c env n).1=0):30<=n.op/\∃ g,exam c (zS env) false n = .ok g:=by
 unfold jE at h;split at h
 .rename_i i
  refine⟨i,?_⟩;cases hx:exam c (zS env) false n with
  |ok g=>exact⟨g,rfl⟩
  |error e =>
   rw[hx]at h;have:=PG.Vo c (szN n) n _ _ e (qo _) hx;have h:e.1=0:=h;omega
 omega
theorem kq{ts}(h:y7 ts=[])(i g):(jE (mkCk ts i) ts.sT[i].params ts.sT[i].body).1=0:=by
 simp_all[y7,List.append_eq_nil_iff,List.flatMap_eq_nil_iff,yh,v7,qz,rp]
theorem ku(l):∀ es nm,(getK nm es=some true\/∃ x,x∈l/\x.name=nm)->getK nm (putN es l)=some true:=by
 induction l with
 |nil =>
  intro es nm h;rcases h with h|⟨x,hx,_⟩
  .exact h
  .exact absurd hx qI
 |cons a l g =>
  intro es nm h;refine g _ nm ?_;rw[jN];by_cases e:nm=a.name
  .rw [if_pos e];exact .inl rfl
  .rw [if_neg e]
   rcases h with h|⟨x,hx,i⟩
   .exact .inl h
   .rcases qv.1 hx with rfl|hx
    .grind
    grind
theorem qcW(ts n):Tk (yR ts n) n/\∀ p,p∈ts.sT->Tk (yR ts n) p.body:=by
 have g:∀(l:List Pd)(I:List (tC×Bool))(nm:tC),(getK nm I=some true\/∃ p,p∈l/\∃ x,x∈preN p.body/\x.name=nm)->getK nm (l.foldl (fun I p=>putN I (preN p.body)) I)=some true:=by
  intro l;induction l with
  |nil =>
   simp
  |cons a l i =>
   intro I nm h;refine i _ nm ?_;rcases h with h|⟨p,hp,hx⟩
   .grind [ku]
   .rcases qv.1 hp with rfl|hp
    .grind [ku]
    grind
 refine⟨fun x hx=>g _ _ _ (.inl (ku _ _ _ (.inr ⟨x,hx,rfl⟩))),fun p hp x hx=>g _ _ _ (.inr ⟨p,hp,x,hx,rfl⟩)⟩
theorem qcX(l):∀ es,(putN es l).length<=es.length+l.length:=by
 have i:∀(es:List (tC×Bool))(k:tC),(setK k true es).length<=es.length+1:=by
  intro es k;induction es with
  |nil=>simp[setK]
  |cons a es g=>grind [setK]
 induction l with
 |nil=>grind [putN]
 |cons a l g =>
  grind [setK,putN,zK]
mutual
theorem Vp:∀ n:Nd,((preN n).length:Int)=cntT n
 | .mk op nm i ks p=>by simp only[preN,cntT,zK];have:=qcY ks;omega
theorem qcY:∀ ks:List Nd,((zz ks).length:Int)=ja ks
 | []=>rfl
 |k :: ks=>by simp only[zz,ja,zb];have:=Vp k;have:=qcY ks;omega
end
end
theorem Wi{ts}(h:okTS ts)(g:∀ p,p∈ts.sT->qH p.body=true){n}(i:qH n=true):qm ts (yR ts n)<=200000:=by
 have j:∀(l:List Pd)(I:List (tC×Bool)),(∀ p,p∈l->qH p.body=true)->(l.foldl (fun I p=>putN I (preN p.body)) I).length<=I.length+400*l.length:=by
  intro l;induction l with
  |nil=>intro I _;simp
  |cons a l o =>
   grind [putN,preN,za,qcX,Vp,vM,zj]
 have r:=j ts.sT (putN [] (preN n)) g;have t:=qcX (preN n) [];have C:=Vp n;have J:=(vM.1 i).2.2.1;have:=h.np;have:=h.nf;have:=h.ns
 grind [qm,yR,List.length_nil]
theorem qp6{ts}(h:okTS ts)(hb:∀ p,p∈ts.sT->qH p.body=true)(hk:y7 ts=[]){n x}(P:qH n=true)(hc:(yy ts [] n).1=0)(o:anyN (fun n=>decide (n.op=47)) n=true)(l:zd ts n=(x,0)) :
  qH x=true/\anyN (fun n=>decide (n.op=47)) x=false/\yy ts [] x=(0,0)/\zd ts x=(x,0):=by
 have R:=vI P;have T:=(vM.1 P).2.1;have hF:=Wi h hb P;obtain⟨t1,t2⟩:=qcW ts n;generalize U:yR ts n=I at *
 have hP:Zr ts I:=fun i l=>by
  have hm:=qq l;obtain⟨a,b⟩:=Y0 (kq hk i l)
  grind [vI,vM]
 unfold zd at l;rw[if_neg (zUs hc),if_neg (by simp[o]),U]at l;unfold outI at l;split at l
 .rename_i d hd
  exfalso;have h1:=KY hd
  grind
 .rename_i j g
  have e:j=x:=congrArg Prod.fst l;subst e;split at g
  .cases g
  .rename_i n2 z a0 C
   split at g
   .rename_i hz
    cases g;obtain⟨a1,ko,hx⟩:=Y0 (c:=mkCk ts ts.sT.length) (env:=[]) hc;have a2:StOk (qm ts I) ⟨0,0⟩:=⟨zSp,zSp,zSp,by simp[pot]⟩;have out:=YY ts h I hP hF (U8 ts I) 4001 [] n false ⟨0,0⟩ j z a0 [] [] false ts.sT.length ko (qo _) R t1 T (fun v J=>absurd J qI) a2 .nil
     ⟨fun v J=>absurd J qI,fun v _=>trivial,fun _ v iv e=>by cases e⟩ C hx
    obtain⟨a5,a6⟩:=YP ts (fun p hp=>vI (hb p hp)) I 4001 (env:=[]) (fun e C=>absurd C qI) R C;have J:qH j=true:=vM.2 ⟨out.good.wf,fun x hx=>(out.good.all x hx).own,zOm,hz.2⟩;have a7:anyN (fun n=>decide (n.op=47)) j=false:=by
     rw[Vg _ (szN j) j (qo _),List.any_eq_false];intro x hx;have:=(out.good.all x hx).nc
     grind
    have a4:kd j.op=102:=by rw[out.kd];exact qcH R a1
    have t:30<=j.op:=by
     grind [kd]
    obtain⟨a3,r,_⟩:=out.ex;have a8:yy ts [] j=(0,0):=by
     unfold yy jE;rw[if_pos t];have r:exam (mkCk ts ts.sT.length) (zS []) false j = .ok a3:=r;rw[r];rfl
    simp_all[zd,if_neg,if_pos]
   .cases g
end PF
namespace EH
open P1 P2 Y1 Y9 Y16 YZ YB YC YE YG Q4 Q6 PE E3 E5 EB ED EG PF
theorem Den.ext{a b:Den}(g:a.E=b.E)(i:a.N=b.N)(j:a.F=b.F):a=b:=by cases a;simp_all
abbrev rho0:Th:=fun _=>none
theorem qcZ(x):∀(F:Nat)(n),depN n<=F->(∀ y,y∈preN n->y.op≠47)->cD x F rho0 n=den x n
 | 0,n,i,_=>by
  rw[wC]at i;have:=Ve n.sD;omega
 | F+1,n,i,j=>by
  have h47:=j n (j8 n);by_cases g:n.op=1
  .have e:cD x (F+1) rho0 n=⟨namC x rho0 n.name,fun _ => .error 43,fun _ => .error 43⟩:=by rw[cD,if_pos g]
   have l:kd n.op=101:=by rw[g];rfl
   rw[e];refine Den.ext (funext fun p=>?_) (funext fun p=>(Wg x l p).symm) (funext fun p=>(Wh x l p).symm);rw[kh x g];rfl
  .have e:cD x (F+1) rho0 n=opD x n.op n.name n.n (n.sD.map (cD x F rho0)):=by rw[cD,if_neg g,if_neg h47]
   rw[e,vE];congr 1;refine List.map_congr_left fun k o=>qcZ x F k ?_ fun y r=>j y (UZ o r)
   rw[wC]at i;have:=KN o;omega
theorem Vq(x)(h:okTS x.ts)(hb:∀ p,p∈x.ts.sT->qH p.body=true)(hk:y7 x.ts=[]){n n'}(o:qH n=true)(j:zd x.ts n=(n',0))(F)(r:4001<=F)(q):uq (cD x F rho0 n) (den x n') ⟨q,[]⟩ ⟨q,[]⟩:=by
 have hw:=vI o;have t:=vM.1 o;have hF:=Wi h hb o;obtain⟨t1,t2⟩:=qcW x.ts n;generalize C:yR x.ts n=I at *
 have hP:Zr x.ts I:=fun i j=>by
  have hm:=qq j;obtain⟨a,b⟩:=Y0 (kq hk i j)
  grind [vI,vM]
 unfold zd at j;by_cases T:(yy x.ts [] n).1=0
 case neg =>
  grind
 rw[if_neg (zUs T)]at j;cases g:anyN (fun n=>decide (n.op=47)) n with
 |false =>
  rw[if_pos g]at j;have e:n=n':=congrArg Prod.fst j;subst e;rw[qcZ x F n zOm (fun y hy=>by
   rw[Vg _ (szN n) n (qo _),List.any_eq_false]at g
   grind)]
  exact⟨rfl,rfl,rfl⟩
 |true =>
  rw[if_neg (by simp[g]),C]at j;unfold outI at j;split at j
  .rename_i d hd
   exfalso;have h1:=KY hd
   grind
  .rename_i U l
   have e:U=n':=congrArg Prod.fst j;subst e;split at l
   .cases l
   .rename_i n3 z J he
    split at l
    .rename_i hz
     cases l;obtain⟨a0,ko,hx⟩:=Y0 (c:=mkCk x.ts x.ts.sT.length) (env:=[]) T;have P:StOk (qm x.ts I) ⟨0,0⟩:=⟨zSp,zSp,zSp,by simp[pot]⟩;exact qcL x h I hP hF (U8 x.ts I) 4001 [] n false ⟨0,0⟩ U z J [] [] false x.ts.sT.length ko rho0 [] [] F (qo _) hw t1 t.2.1 (fun v R=>absurd R qI) P .nil
      ⟨fun v R=>absurd R qI,fun v _=>trivial,fun _ v iv e=>by cases e⟩ ⟨fun v _=>⟨rfl,rfl⟩,fun v _=>rfl⟩ r he hx q
    .cases l
def jm(x:Mo):List Nd->XE Bool
 | [] => .ok true
 |b :: l=>if (zd x.ts b).2=0 then bX ((den x (zd x.ts b).1).F ⟨0,[]⟩) fun v=>bX (jm x l) fun r => .ok (v&&r) else .error (zd x.ts b).2
theorem qc0(x):∀ a b,jm x (a++b)=bX (jm x a) fun r=>bX (jm x b) fun s => .ok (r&&s)
 | [],b=>by
  rw[List.nil_append,jm,zm];cases jm x b with
  |error e=>rfl
  |ok s=>simp[zm]
 |n :: a,b=>by
  rw[List.cons_append,jm,jm];by_cases h:(zd x.ts n).2=0
  .simp_all [if_pos,qc0,qjC,zm,Bool.and_assoc]
  .rw [if_neg h,if_neg h];rfl
theorem qp7(x n):jm x [n]=if (zd x.ts n).2=0 then (den x (zd x.ts n).1).F ⟨0,[]⟩ else .error (zd x.ts n).2:=by
 rw[jm];split
 .rw [jm]
  cases (den x (zd x.ts n).1).F ⟨0,[]⟩ with
  |error e=>rfl
  |ok v=>simp[zm]
 .rfl
end EH
namespace FJ
open Y1 Y9 E3
section
variable {J:Type}{ds:List Den}
def NZ(q:XE J):Prop:=∀ e,q = .error e->e≠0
theorem zw(a):NZ (.ok a:XE J):=fun e h=>by cases h
theorem j9{e}(h:e≠0):NZ (.error e:XE J):=fun i g=>by cases g;exact h
theorem zg{i q}{g:J->XE i}(h:NZ q)(k:∀ a,NZ (g a)):NZ (bX q g):=by
 cases q with
 |error e=>exact j9 (h e rfl)
 |ok a=>exact k a
theorem Vs{i}{g:J->XE i}:∀{l},(∀ a,a∈l->NZ (g a))->NZ (mapX g l)
 | [],_=>zw _
 |a :: l,h=>zg (h a zSp) fun b=>zg (Vs fun y j=>h y (zP1 j)) fun r=>zw _
theorem qc1{g h}(hg:∀ s,NZ (g s))(i:∀ s,NZ (h s)):∀ l d q,NZ (untX g h l d q)
 | [],d,q=>zw _
 |s :: l,d,q=>zg (hg s) fun a=>zg (i s) fun b=>qc1 hg i l _ _
theorem zx{c}[Decidable c]{a b:XE J}(g:NZ a)(i:NZ b):NZ (if c then a else b):=by split<;>assumption
structure NZD (d:Den):Prop where
 E:∀ p,NZ (d.E p)
 N:∀ p,NZ (d.N p)
 F:∀ p,NZ (d.F p)
theorem qp8(x p nm):NZ (vD x p nm):=by
 unfold vD;split
 .exact zw _
 .unfold ZP
  split
  .exact j9 zDe
  .exact zw _
  .exact j9 zDe
theorem Ja(g:∀ j,NZD (kD ds j))(p):NZ (ye ds p):=zg ((g 0).E p) fun a=>zg ((g 1).E p) fun b=>zx (zw _) (j9 zDe)
theorem kw(g:∀ j,NZD (kD ds j))(p):NZ (binE ds p):=zg ((g 0).E p) fun a=>zx (zw _) (j9 zDe)
theorem kx(g:∀ j,NZD (kD ds j))(nm p):NZ (jf ds nm p):=zg ((g 0).E p) fun a=>zx (Vs fun y _=>zg ((g 1).F _) fun b=>zw _) (j9 zDe)
theorem op_nz(x op nm i ds)(g:∀ j,NZD (kD ds j))(o:∀ d,d∈ds->NZD d):NZD (opD x op nm i ds):=by
 refine⟨fun p=>?_,fun p=>?_,fun p=>?_⟩
 .show NZ (opE x op nm i ds p)
  unfold opE;refine zx (qp8 x p nm) ?_;refine zx (zw _) ?_;refine zx (zw _) ?_;refine zx (zw _) ?_;refine zx ((g 0).E _) ?_;refine zx (zg (Ja g p) fun _=>zw _) ?_;refine zx (zg (Ja g p) fun _=>zw _) ?_;refine zx (zg (Ja g p) fun _=>zw _) ?_;refine zx (zg ((g 0).E p) fun _=>zg ((g 1).E p) fun _=>zx (zw _) (j9 zDe)) ?_;refine zx (zg ((g 0).E p) fun _=>zg ((g 1).E p) fun _=>zx (zw _) (j9 zDe)) ?_;refine zx (zg (kw g p) fun _=>zw _) ?_;refine zx (zg (kw g p) fun _=>zw _) ?_;refine zx (zg (kw g p) fun _=>zw _) ?_;refine zx (zg (Ja g p) fun _=>zw _) ?_;refine zx (zg (kx g nm p) fun _=>zw _) ?_;exact j9 zDe
 .show NZ (opN op i ds p)
  unfold opN;refine zx (zw _) ?_;refine zx (zg ((g 0).E p) fun _=>zw _) ?_;refine zx (zg ((g 0).N p) fun _=>zg ((g 1).N p) fun _=>zw _) ?_;refine zx (zg ((g 0).N p) fun _=>zg ((g 1).N p) fun _=>zw _) ?_;exact j9 zDe
 .show NZ (opF x op nm ds p)
  unfold opF;refine zx (zw _) ?_;refine zx (zw _) ?_;refine zx (zg (Ja g p) fun _=>zw _) ?_;refine zx (zg (Ja g p) fun _=>zw _) ?_;refine zx (zg ((g 0).E p) fun _=>zw _) ?_;refine zx (zg ((g 0).E p) fun _=>zw _) ?_;refine zx (zg ((g 0).E p) fun _=>zw _) ?_;refine zx (zg ((g 0).E p) fun _=>zw _) ?_;refine zx (zg ((g 0).N p) fun _=>zg ((g 1).N p) fun _=>zw _) ?_;refine zx (zg ((g 0).N p) fun _=>zg ((g 1).N p) fun _=>zw _) ?_;refine zx (zg ((g 0).F p) fun _=>zw _) ?_;refine zx (zg ((g 0).F p) fun _=>zg ((g 1).F p) fun _=>zw _) ?_;refine zx (zg ((g 0).F p) fun _=>zg ((g 1).F p) fun _=>zw _) ?_;refine zx (zg ((g 0).F p) fun _=>zg ((g 1).F p) fun _=>zw _) ?_;refine zx (zg ((g 0).F p) fun _=>zg ((g 1).F p) fun _=>zw _) ?_;refine zx (zg (kx g nm p) fun _=>zw _) ?_;refine zx (zg (kx g nm p) fun _=>zw _) ?_;refine zx (zg (Vs fun d l=>(o d l).E p) fun _=>j9 zDe) ?_;refine zx (zg (Vs fun s _=>(g 0).F _) fun _=>zw _) ?_;refine zx (zg (Vs fun s _=>(g 0).F _) fun _=>zw _) ?_;refine zx ((g 0).F _) ?_;refine zx (qc1 (fun s=>(g 0).F _) (fun s=>(g 1).F _) _ _ _) ?_;exact j9 zDe
theorem qp9:NZD noD:=⟨fun _=>j9 zDe,fun _=>j9 zDe,fun _=>j9 zDe⟩
theorem qc2(x):∀ m n,szN n<=m->NZD (den x n)
 | 0,n,o=>by obtain⟨op,nm,i,ks,p⟩:=n;simp[szN]at o
 |m+1,n,o=>by
  rw[vE];have r:∀ k,k∈n.sD->NZD (den x k):=fun k g=>qc2 x m k (zW1 (yn g))
  refine op_nz x _ _ _ _ (fun j=>?_) fun d t=>?_
  .unfold kD
   by_cases l:j<n.sD.length
   .have:(n.sD.map (den x)).getD j noD=den x n.sD[j]:=by simp[List.getD,l]
    rw[this];exact r _ (qq l)
   .have:(n.sD.map (den x)).getD j noD=noD:=by simp[List.getD,l]
    rw[this];exact qp9
  .obtain ⟨k,g,rfl⟩:=qk.1 t
   exact r k g
end
end FJ
namespace IA
open Y1 Y9 Y16 YG P1 Q4 E3 E5 ED EH FC FJ
section
variable {x:Mo}
theorem qc3(x n p):NZ ((den x n).F p):=(qc2 x _ n (qo _)).F p
theorem ky(x):∀ l,NZ (jm x l)
 | []=>zw _
 |b :: l=>by
  rw[jm];split
  .exact zg (qc3 x _ _) fun v=>zg (ky x l) fun r=>zw _
  .rename_i h;exact j9 h
theorem qqA(v):fmV (.ok v)=(v,0):=rfl
theorem qqB(e):fmV (.error e)=(false,e):=rfl
theorem qc4(x):∀ l a,uQ (zd x.ts) x l a=fmV (bX (jm x l) fun r => .ok (a&&r))
 | [],a=>by simp[uQ,jm,bX,fmV]
 |b :: l,a=>by
  have g:=qc3 x (zd x.ts b).1 ⟨0,[]⟩;rw[uQ,jm];by_cases h:(zd x.ts b).2=0
  .rw [if_neg (zUs h),if_pos h]
   cases i:(den x (zd x.ts b).1).F ⟨0,[]⟩ with
   |error e =>
    rw[i]at g;rw[qqB,if_pos (g e rfl)];rfl
   |ok v =>
    rw[qqA,if_neg zSp,qc4 x l,zm];cases jm x l with
    |error e=>rfl
    |ok r=>simp[zm,Bool.and_assoc]
  .rw [if_pos h,if_neg h];rfl
def hV(x:Mo)(n:Nd):Bool×Int:=uQ (zd x.ts) x (x.ts.sP.map Prod.snd++[n]) true
def fX(x:Mo):XE Bool:=jm x (x.ts.sP.map Prod.snd)
def gX(x:Mo)(n:Nd):XE Bool:=jm x [n]
theorem qc5(x n):hV x n=fmV (bX (fX x) fun r=>bX (gX x n) fun s => .ok (r&&s)):=by
 rw[hV,qc4,qc0];congr 1;rw[fX,gX];cases jm x (x.ts.sP.map Prod.snd) with
 |error e=>rfl
 |ok r=>cases jm x [n]<;>rfl
theorem kz{n r s}(g:fX x = .ok r)(i:gX x n = .ok s):hV x n=(r&&s,0):=by rw[qc5,g,i];rfl
theorem Jb{n}(h:(hV x n).2=0):∃ r s,fX x = .ok r/\gX x n = .ok s/\(hV x n).1=(r&&s):=by
 rw[qc5]at h⊢;have g:NZ (fX x):=ky x _;have i:NZ (gX x n):=ky x _;cases j:fX x with
 |error e=>rw[j]at h g;exact absurd h (g e rfl)
 |ok r =>
  cases l:gX x n with
  |error e=>rw[j,l]at h;rw[l]at i;exact absurd h (i e rfl)
  |ok s=>exact⟨r,s,rfl,rfl,rfl⟩
theorem qc6(x n):gX x n=if (zd x.ts n).2=0 then (den x (zd x.ts n).1).F ⟨0,[]⟩ else .error (zd x.ts n).2:=qp7 x n
theorem Zs{n s}(h:gX x n = .ok s):zd x.ts n=((zd x.ts n).1,0)/\(den x (zd x.ts n).1).F ⟨0,[]⟩ = .ok s:=by
 rw[qc6]at h;split at h
 .rename_i e;exact⟨Prod.ext rfl e,h⟩
 .cases h
theorem qqC(ts):zd ts (nk 30 [])=(nk 30 [],0):=by rfl
theorem qqD(x):gX x (nk 30 []) = .ok true:=by
 rw[qc6,qqC,if_pos rfl];rfl
structure OkSp (ts:TS):Prop where
 h:okTS ts
 hb:∀ p,p∈ts.sT->qH p.body=true
 hk:y7 ts=[]
theorem qqE(x)(S:OkSp x.ts)(op)(o:¬op=1)(g:¬op=47){f l n'}(hf:qH f=true)(p:qH (nk op [f])=true)(i:zd x.ts f=(l,0))(j:zd x.ts (nk op [f])=(n',0))(q) :
  (den x n').F ⟨q,[]⟩=opF x op ⟨#[]⟩ [cD x 4001 rho0 f] ⟨q,[]⟩/\(cD x 4001 rho0 f).F ⟨q,[]⟩=(den x l).F ⟨q,[]⟩:=by
 refine⟨?_,(Vq x S.h S.hb S.hk hf i 4001 (qo _) q).F⟩;rw[<-(Vq x S.h S.hb S.hk p j 4002 zOm q).F];have e:cD x 4002 rho0 (nk op [f])=opD x op ⟨#[]⟩ 0 [cD x 4001 rho0 f]:=by
  rw[cD,if_neg (by exact o),if_neg (by exact g)];rfl
 rw[e];rfl
theorem qc7(x)(S:OkSp x.ts)(op)(r:¬op=1)(i:¬op=47){f g o p n'}(hf:qH f=true)(hg:qH g=true)(t:qH (nk op [f,g])=true)(j:zd x.ts f=(o,0))(C:zd x.ts g=(p,0))(l:zd x.ts (nk op [f,g])=(n',0))(q) :
  (den x n').F ⟨q,[]⟩=opF x op ⟨#[]⟩ [cD x 4001 rho0 f,cD x 4001 rho0 g] ⟨q,[]⟩/\(cD x 4001 rho0 f).F ⟨q,[]⟩=(den x o).F ⟨q,[]⟩/\(cD x 4001 rho0 g).F ⟨q,[]⟩=(den x p).F ⟨q,[]⟩:=by
 refine⟨?_,(Vq x S.h S.hb S.hk hf j 4001 (qo _) q).F,(Vq x S.h S.hb S.hk hg C 4001 (qo _) q).F⟩;rw[<-(Vq x S.h S.hb S.hk t l 4002 zOm q).F];have e:cD x 4002 rho0 (nk op [f,g])=opD x op ⟨#[]⟩ 0 [cD x 4001 rho0 f,cD x 4001 rho0 g]:=by
  rw[cD,if_neg (by exact r),if_neg (by exact i)];rfl
 rw[e];rfl
theorem qqF(S:OkSp x.ts){f}(hf:qH f=true)(g:qH (nk 40 [f])=true){a c}(i:gX x f = .ok a)(j:gX x (nk 40 [f]) = .ok c):c=!a:=by
 obtain⟨l,d1⟩:=Zs i;obtain⟨o,d3⟩:=Zs j;obtain⟨e,p⟩:=qqE x S 40 zOm zOm hf g l o 0
 grind [opF,kD,zm]
theorem qqG(S:OkSp x.ts){f g}(hf:qH f=true)(hg:qH g=true)(i:qH (nk 41 [f,g])=true){a b c}(j:gX x f = .ok a)(l:gX x g = .ok b)(o:gX x (nk 41 [f,g]) = .ok c):c=(a&&b):=by
 obtain⟨p,d1⟩:=Zs j;obtain⟨r,d2⟩:=Zs l;obtain⟨t,d3⟩:=Zs o;obtain⟨e,C,I⟩:=qc7 x S 41 zOm zOm hf hg i p r t 0
 grind [opF,kD,zm]
theorem gX_or(S:OkSp x.ts){f g}(hf:qH f=true)(hg:qH g=true)(i:qH (nk 42 [f,g])=true){a b c}(j:gX x f = .ok a)(l:gX x g = .ok b)(o:gX x (nk 42 [f,g]) = .ok c):c=(a||b):=by
 obtain⟨p,d1⟩:=Zs j;obtain⟨r,d2⟩:=Zs l;obtain⟨t,d3⟩:=Zs o;obtain⟨e,C,I⟩:=qc7 x S 42 zOm zOm hf hg i p r t 0
 grind [opF,kD,zm]
end
end IA
namespace QC
end QC
namespace QD
open YF P1 Y1 Y2
section
variable {x:tC×Bool}{c:List AV}{i:Nat}
def atF(a:Int):List Int->Int
 | []=>a
 |x :: l=>atF (qp.wrap (qp.wrap (4*a)+x)) l
def zs:List AV:=qW 64 (aB false)
def oneC(l:List Int):List AV:=aI l.length :: (if 0<=atF 0 l/\atF 0 l<64 then zs.set (atF 0 l).toNat (aB true) else zs)
structure SetC (c:List AV):Prop where
 len:c.length=65
 sc:∀ x,x∈c->x.one=true/\HF x
theorem SetC.one(h:SetC c):∀ x,x∈c->x.one=true:=fun x hx=>(h.sc x hx).1
theorem SetC.hf(h:SetC c):HF (.agg c):=HF.agg fun x hx=>(h.sc x hx).2
theorem SetC.take(h:SetC c):List.take 65 c=c:=yg (by rw[h.len];omega)
theorem SetC.put{d}(h:SetC c)(g:SetC d):putCells c 0 d=d:=by
 rw[jb _ _ _ (by rw[h.len,g.len];omega)];simp[h.len,g.len,List.drop_of_length_le]
theorem SetC.zero:SetC (aI 0 :: zs):=⟨rfl,fun x hx=>by
 rcases qv.1 hx with rfl|hx
 .exact ⟨rfl,HF.sc _⟩
 .rw [List.eq_of_mem_replicate hx];exact⟨rfl,HF.sc _⟩⟩
theorem SetC.oneC(l):SetC (oneC l):=by
 have g:∀ x:AV,x∈zs->x.one=true/\HF x:=fun x hx=>by rw[List.eq_of_mem_replicate hx];exact⟨rfl,HF.sc _⟩
 unfold QD.oneC;split
 .refine ⟨by simp[zs],fun x hx=>?_⟩
  rcases qv.1 hx with rfl|hx
  .exact ⟨rfl,HF.sc _⟩
  .rcases List.mem_or_eq_of_mem_set hx with h|rfl
   .exact g x h
   .exact ⟨rfl,HF.sc _⟩
 .refine ⟨by simp[zs],fun x hx=>?_⟩
  rcases qv.1 hx with rfl|hx
  .exact ⟨rfl,HF.sc _⟩
  .exact g x hx
theorem oneU(l)(hl:l.length<=140737488351232):qg qc 155 [lI l] (.agg (oneC l)):=by
 have g:=SetC.oneC l;generalize C:oneC l=R at *
 unfold oneC at C;refine qSU call155 func155 rfl ?_;have i:zs.length=64:=rfl;refine aA l.length (fun k U=>∃ a:Int,U.tm 0=lI l/\U.tm 2 = .ptr 0 0/\U.tm 3 = .ptr 1 0/\U.tm 4=aI a/\U.tm 5=aI k/\U.mu=[.arr (aI 0 :: zs),.arr (aI l.length :: zs)]/\atF a (l.drop k)=atF 0 l) ?_ ?_
 .exact ⟨0,zSi,zSi,zSi,zSi,zSi,by simp[go_sem,zs,qW],rfl⟩
 rintro k U hk ⟨a,I,r,e3,e4,e5,hm,hI⟩;by_cases J:k<l.length
 .have w1:=zWk k
  rw[zy J]at hI;simp[go_sem,I,e4,e5,hm,J,w1];exact aC ⟨_,zS1 I,zS1 r,zS1 e3,zSi,zSi,zSi,hI⟩
 have a0:k=l.length:=zOm;subst a0;rw[yA]at hI;have ha:a=atF 0 l:=hI;rw[<-ha]at C;have z1:∀ x:AV,(x :: zs).length=65:=fun x=>rfl
 have o:∀ x:AV,x∈zs->x.one=true:=fun x hx=>by rw[List.eq_of_mem_replicate hx];rfl
 have tk:List.take 64 zs=zs:=rfl;have pc:∀(x y:AV)(Z:List AV),Z.length=64->putCells (x :: zs) 0 (y :: Z)=y :: Z:=fun x y Z hZ=>by
  grind [jb,List.drop_of_length_le]
 by_cases h0:0<=a
 .obtain ⟨j,rfl⟩:∃ j:Nat,a=j:=⟨a.toNat,zOm⟩
  by_cases t:(j:Int)<64
  .have hj:1+j<=64:=by omega
   have a1:∀ x:AV,(x :: zs).set (1+j) (AV.sc (Value.bool true))=x :: zs.set j (AV.sc (Value.bool true)):=fun x=>by rw[Nat.add_comm];rfl
   have sl:(zs.set j (AV.sc (Value.bool true))).length=64:=zP1 i;have P:∀ x:AV,x∈zs.set j (AV.sc (Value.bool true))->x.one=true:=fun x hx=>by
    rcases List.mem_or_eq_of_mem_set hx with h|rfl
    .exact o x h
    .rfl
   have T:List.take 64 (zs.set j (AV.sc (Value.bool true)))=zs.set j (AV.sc (Value.bool true)):=yg zOm;have p:R=aI l.length :: zs.set j (AV.sc (Value.bool true)):=by rw[<-C,if_pos ⟨h0,t⟩];rfl
   generalize zs.set j (AV.sc (Value.bool true))=Z at *
   simp[go_sem,I,r,e3,e4,e5,hm,h0,t,i,hj,a1,sl,T,pc _ _ _ sl];rw[if_pos P];simp[go_sem,r,sl,T];rw[p]at g⊢;exact .hf _ g.hf
  .simp [go_sem,I,r,e3,e4,e5,hm,h0,t,i,tk,pc _ _ _ i]
   rw[if_pos o];simp[go_sem,r,i,tk];have p:R=aI l.length :: zs:=by rw[<-C,zIn]
   rw[p]at g⊢;exact .hf _ g.hf
 .simp [go_sem,I,r,e3,e4,e5,hm,h0,i,tk,pc _ _ _ i]
  rw[if_pos o];simp[go_sem,r,i,tk];have p:R=aI l.length :: zs:=by rw[<-C,zIn]
  rw[p]at g⊢;exact .hf _ g.hf
abbrev NS:=List AV×Nat
variable {s:NS}
def stF(nm:tC)(f:Fld)(s:NS):NS:=if f.name=nm then (oneC f.sS,s.2+1) else s
def nmF(nm:tC):List Fld->NS->NS
 | [],s=>s
 |f :: l,s=>nmF nm l (stF nm f s)
def st1(nm:tC)(i:Nat)(x:tC×Bool)(s:NS):NS:=if x.1=nm then (oneC [(i:Int)],s.2+1) else s
def st2(nm:tC)(i:Nat)(x:tC×Bool)(s:NS):NS:=if x.2=true/\x.1++je=nm then (oneC [(i:Int)],s.2+1) else s
def st3(nm:tC)(i:Nat)(x:tC×Bool)(s:NS):NS:=if x.2=true/\x.1++j0=nm then (oneC [(i:Int),(i:Int)],s.2+1) else s
def nmS(nm:tC):Nat->List (tC×Bool)->NS->NS
 |_,[],s=>s
 |i,x :: l,s=>nmS nm (i+1) l (st3 nm i x (st2 nm i x (st1 nm i x s)))
def named(ts:TS)(nm:tC):NS:=nmS nm 0 ts.sS (nmF nm ts.sA (aI 0 :: zs,0))
theorem qqH{nm f}(h:SetC s.1):SetC (stF nm f s).1:=by
 grind [stF,SetC.oneC]
theorem qc8{nm}(h:SetC s.1):SetC (st1 nm i x s).1:=by
 grind [st1,SetC.oneC]
theorem qc9{nm}(h:SetC s.1):SetC (st2 nm i x s).1:=by
 grind [st2,SetC.oneC]
theorem qdA{nm}(h:SetC s.1):SetC (st3 nm i x s).1:=by
 grind [st3,SetC.oneC]
theorem st_le{nm}:(st3 nm i x (st2 nm i x (st1 nm i x s))).2<=s.2+3:=by
 have g:(st1 nm i x s).2<=s.2+1:=by grind [st1]
 have j:∀ s:NS,(st2 nm i x s).2<=s.2+1:=fun s=>by grind [st2]
 have l:∀ s:NS,(st3 nm i x s).2<=s.2+1:=fun s=>by grind [st3]
 grind
theorem qdB(nm):∀ l s,SetC s.1->SetC (nmF nm l s).1
 | [],_,h=>h
 |f :: l,s,h=>qdB nm l _ (qqH h)
theorem qdC(nm):∀ l i s,SetC s.1->SetC (nmS nm i l s).1
 | [],_,_,h=>h
 |x :: l,i,s,h=>qdC nm l _ _ (qdA (qc9 (qc8 h)))
theorem kA(ts nm):SetC (named ts nm).1:=qdC nm _ _ _ (qdB nm _ _ SetC.zero)
theorem wk1(i):WK (.lst true [rI i]) (lI [i]):=WK.lst fun r g c j=>by
 grind [qY,HF.sc]
theorem wk2(i j):WK (.lst true [rI i,rI j]) (lI [i,j]):=WK.lst fun r g c l=>by
 rcases qv.1 g with rfl|g
 .grind [qY,HF.sc]
 grind [qY,HF.sc]
structure okNm (ts:TS):Prop where
 so:∀ x,x∈ts.sS->x.1.size<=4611686018427387904
 nso:ts.sS.length<=140737488351232
 nf:ts.sA.length<=140737488351232
 fl:∀ f,f∈ts.sA->f.sS.length<=140737488351232
theorem kB(ts)(ha:okNm ts)(nm):qg qc 158 [eTS ts,aS nm] (.tup [.agg (named ts nm).1,aI (named ts nm).2]):=by
  generalize hR:named ts nm=R;unfold named at hR;refine qSV call158 func158 rfl ?_;have ar:=ha.nf;have au:zs.length=64:=rfl;have av:=ha.nso;simp[go_sem];refine aA ts.sA.length (fun i U=>∃ s:NS,U.tm 1=aS nm/\U.tm 2 = .ip (cTS ts)/\U.tm 4 = .ptr 0 0/\U.tm 6 = .ptr 1 0/\U.tm 7=aI s.2/\U.tm 8=aI i/\U.mu=[.arr (aI 0 :: zs),.arr s.1]/\SetC s.1/\s.2<=i/\nmS nm 0 ts.sS (nmF nm (ts.sA.drop i) s)=R) ?_ ?_
  · exact⟨(aI 0 :: zs,0),zSi,zSi,zSi,zSi,zSi,zSi,by simp[go_sem,zs,qW],SetC.zero,zSp,zUs hR⟩
  clear hR;rintro i U hi ⟨⟨c,k⟩,J,t,e4,P,T,e8,hm,j,hk,r⟩;have hk:k<=i:=hk;have j:SetC c:=j;by_cases g:i<ts.sA.length
  · have w1:=zWk i
    have w2:=zWk k;rw[zy g]at r;have ho:=oneU ts.sA[i].sS (ha.fl _ (qq g));have C:=SetC.oneC ts.sA[i].sS;by_cases hq:ts.sA[i].name=nm
    · simp[go_sem,J,t,e8,hm,g,hq]
      refine pL ho (.zk (zo _) .nil) ?_;simp[go_sem,P,C.len,j.len,j.put C];rw[if_pos C.one];simp[go_sem,T,e8,g,w1,w2];exact aC ⟨(oneC ts.sA[i].sS,k+1),zS1 J,zS1 t,zS1 e4,zS1 P,zSi,zSi,zSi,C,zOm,by grind [nmF,stF]⟩
    · simp[go_sem,J,t,e8,hm,g,jM hq,w1]
      exact aC ⟨(c,k),zS1 J,zS1 t,zS1 e4,zS1 P,zS1 T,zSi,zSi,j,zOm,by grind [nmF,stF]⟩
  have a0:i=ts.sA.length:=zOm;subst a0;rw[yA]at r;simp only[nmF]at r;simp[go_sem,t,e8,hm];refine aA ts.sS.length (fun i U=>∃ s:NS,U.tm 1=aS nm/\U.tm 2 = .ip (cTS ts)/\U.tm 4 = .ptr 0 0/\U.tm 6 = .ptr 1 0/\U.tm 7=aI s.2/\U.tm 9=aI i/\U.mu=[.arr (aI 0 :: zs),.arr s.1]/\SetC s.1/\s.2<=ts.sA.length+3*i/\nmS nm i (ts.sS.drop i) s=R) ?_ ?_
  · simp[go_sem, *]
  clear J t e4 P T e8 hm j hk r g;rintro i U hi ⟨⟨c,k⟩,J,t,e4,P,T,e9,hm,j,hk,r⟩;have hk:k<=ts.sA.length+3*i:=hk;have j:SetC c:=j;by_cases g:i<ts.sS.length
  · have w1:=zWk i
    have w2:=zWk k;have w3:qp.wrap ((k:Int)+1+1)=(k:Int)+1+1:=zWr;have w4:qp.wrap ((k:Int)+1+1+1)=(k:Int)+1+1+1:=zWr;rw[zy g]at r;simp only[nmS]at r;have af:=oneU [(i:Int)] zSp;have ag:=oneU [(i:Int),(i:Int)] zSp;have p:=SetC.oneC [(i:Int)];have I:=SetC.oneC [(i:Int),(i:Int)];have ah:=j.put p;have ai:=j.put I;have aj:=p.put p;have ak:=p.put I;have l1:=p.len;have l2:=I.len;have l0:=j.len;have aw:=st_le (nm:=nm) (i:=i) (x:=ts.sS[i]) (s:=(c,k));have al:=qdA (nm:=nm) (i:=i) (x:=ts.sS[i]) (qc9 (nm:=nm) (i:=i) (x:=ts.sS[i]) (qc8 (nm:=nm) (i:=i) (x:=ts.sS[i]) (s:=(c,k)) j));have a8:=ha.so _ (qq g);have a8:ts.sS[i].1.size<=4611686018427387904:=a8;generalize a9:ts.sS[i]=so at *
    obtain⟨o,sb⟩:=so;have aa:o.size<=9223372036854775801:=by grind
    have ab:o.size<=9223372036854775802:=zOm;generalize hN:st3 nm i (o,sb) (st2 nm i (o,sb) (st1 nm i (o,sb) (c,k)))=N at *
    have an:(o++je=nm)=(o++(⟨#[95,102,105,114,115,116]⟩:tC)=nm):=rfl;have ao:(o++j0=nm)=(o++(⟨#[95,110,101,120,116]⟩:tC)=nm):=rfl;simp only[st1,st2,st3,an,ao]at hN;obtain⟨d1,aq⟩:∃ d,decide (o=nm)=d:=⟨_,rfl⟩;obtain⟨d2,ad⟩:∃ d,decide (o++(⟨#[95,102,105,114,115,116]⟩:tC)=nm)=d:=⟨_,rfl⟩;obtain⟨d3,ae⟩:∃ d,decide (o++(⟨#[95,110,101,120,116]⟩:tC)=nm)=d:=⟨_,rfl⟩;have p1:(o=nm)=(d1=true):=by grind
    have p2:(o++(⟨#[95,102,105,114,115,116]⟩:tC)=nm)=(d2=true):=by grind
    have p3:(o++(⟨#[95,110,101,120,116]⟩:tC)=nm)=(d3=true):=by grind
    simp only[p1,p2,p3]at hN;have done:∀ l:St,l.tm 1=aS nm->l.tm 2 = .ip (cTS ts)->l.tm 4 = .ptr 0 0->l.tm 6 = .ptr 1 0->l.tm 7=aI N.2->l.tm 9=aI (i+1:Nat)->l.mu=[.arr (aI 0 :: zs),.arr N.1] ->
        Keep (fun U=>∃ s:NS,U.tm 1=aS nm/\U.tm 2 = .ip (cTS ts)/\U.tm 4 = .ptr 0 0/\U.tm 6 = .ptr 1 0/\U.tm 7=aI s.2/\U.tm 9=aI (i+1:Nat)/\U.mu=[.arr (aI 0 :: zs),.arr s.1]/\SetC s.1/\s.2<=ts.sA.length+3*(i+1)/\nmS nm (i+1) (ts.sS.drop (i+1)) s=R) .mk l:=
      fun l a1 a2 a3 a4 a5 a6 a7=>aC ⟨N,a1,a2,a3,a4,a5,a6,a7,al,zOm,r⟩
    cases d1<;>cases d2<;>cases d3<;>cases sb
    all_goals simp only[if_true,if_false,and_false,and_true,reduceCtorEq]at hN
    all_goals simp[go_sem,Y10.wt,J,t,e9,hm,g,a9,aq,ad,ae,w1,aa,ab]
    all_goals repeat' (first
      | (refine pL af (.cons (wk1 _) .nil) ?_
         simp[go_sem,P,ah,aj,l0,l1];rw[if_pos p.one];simp[go_sem,Y10.wt,J,t,T,e9,g,a9,ad,ae,w1,w2,w3,aa,ab])
      | (refine pL ag (.cons (wk2 _ _) .nil) ?_
         simp[go_sem,P,ai,ak,l0,l1,l2];rw[if_pos I.one];simp[go_sem,T,e9,g,w1,w2,w3,w4]))
    all_goals try subst hN
    all_goals simp_all[go_sem]
  have a0:i=ts.sS.length:=zOm;subst a0;rw[yA]at r;simp only[nmS]at r;subst r;simp[go_sem,t,e4,P,T,e9,hm,j.len,j.take,SetC.zero.put j,SetC.zero.len];rw[if_pos j.one];simp[go_sem,e4,j.len,j.take];refine .hf _ (HF.tup fun x hx=>?_);rcases qv.1 hx with rfl|hx
  · exact j.hf
  grind [qY,HF.sc]
end
end QD
namespace QE
open Y6 QD
abbrev RS:=Int×(Nat->Bool)
def hB(g:Nat->Bool):List AV:=(qs 64).map fun i=>aB (g i)
abbrev cRS(s:RS):List AV:=aI s.1 :: hB s.2
abbrev eRS(s:RS):AV := .agg (cRS s)
theorem qu(g):(hB g).length=64:=by simp[hB]
theorem qdD(g i v):(hB g).set i (aB v)=hB fun j=>if j=i then v else g j:=by
 refine List.ext_getElem (by simp[hB]) fun j l o=>?_
 rw[List.getElem_set];simp only[hB,List.getElem_map,List.getElem_range];by_cases h:i=j
 .rw [if_pos h,if_pos h.symm]
 .rw [if_neg h,if_neg (fun e=>h e.symm)]
theorem qqI(g i)(h:i<64):(hB g)[i]?=some (aB (g i)):=by
 simp[hB,h]
theorem uS{g i}(h:∀ j,j<64->g j=i j):hB g=hB i:=by
 refine List.map_congr_left fun j l=>?_
 rw[h j (yh.1 l)]
theorem setC(s):SetC (cRS s):=⟨by simp[hB],fun x hx=>by
 rcases qv.1 hx with rfl|hx
 .exact ⟨rfl,HF.sc _⟩
 .obtain ⟨j,_,rfl⟩:=qk.1 hx
  exact⟨rfl,HF.sc _⟩⟩
theorem yK(s):HF (eRS s):=(setC s).hf
theorem qdE:hB (fun _=>false)=zs:=rfl
def oneS(l:List Int):RS:=(l.length,fun j=>decide ((j:Int)=atF 0 l))
theorem kC(l):oneC l=cRS (oneS l):=by
 unfold oneC oneS;simp only[cRS];split
 .rename_i h
  have e:aB true=aB true:=rfl;rw[<-qdE,qdD];congr 1;refine uS fun j i=>?_
  by_cases g:j=(atF 0 l).toNat
  .rw [if_pos g];exact(decide_eq_true zOm).symm
  .rw [if_neg g];exact(decide_eq_false zOm).symm
 .rename_i h
  rw[<-qdE];congr 1;refine uS fun j i=>?_
  exact(decide_eq_false zOm).symm
def szA(k:Int):Nat:=if k<1 then 1 else if k=1 then 4 else if k=2 then 16 else 64
theorem Vt(k):szA k<=64/\1<=szA k:=by unfold szA;split<;>(try split)<;>(try split)<;>omega
theorem Wj(k):qg qc 230 [aI k] (aI (szA k)):=by
 refine qSV call230 func230 rfl ?_;unfold szA;by_cases g:k<1
 .simp [go_sem,g];exact .zsc _
 by_cases i:k=1
 .simp [go_sem,i];exact .zsc _
 by_cases j:k=2
 .simp [go_sem,j];exact .zsc _
 simp[go_sem,g,i,j];exact .zsc _
def uniS(a b:RS):RS:=(a.1,fun j=>a.2 j||b.2 j)
def intS(a b:RS):RS:=(a.1,fun j=>a.2 j&&b.2 j)
theorem g1(x g i)(h:i<64):(x :: hB g)[1+i]?=some (aB (g i)):=by
 rw[Nat.add_comm,vQ,qqI g i h]
theorem d1(x g i)(h:i<64):List.take 1 (List.drop (1+i) (x :: hB g))=[aB (g i)]:=by
 rw[Nat.add_comm,List.drop_succ_cons,zy (by rw[qu];exact h)];simp[hB]
theorem d0(g i)(h:i<64):List.take 1 (List.drop i (hB g))=[aB (g i)]:=by
 rw[zy (by rw[qu];exact h)];simp[hB]
theorem s1(x g i v):(x :: hB g).set (1+i) (aB v)=x :: hB fun j=>if j=i then v else g j:=by
 rw[Nat.add_comm,List.set_cons_succ,qdD]
theorem ze(g):∀ x,x∈hB g->x.one=true:=fun x hx=>by
 obtain⟨j,_,rfl⟩:=qk.1 hx;rfl
theorem tk(g):List.take 64 (hB g)=hB g:=yg (by rw[qu];exact qo _)
theorem pc(x y g i):putCells (x :: hB g) 0 (y :: hB i)=y :: hB i:=by
 rw[jb _ _ _ (by simp[qu])];simp[qu,List.drop_of_length_le]
theorem vq(a b):qg qc 193 [eRS a,eRS b] (eRS (uniS a b)):=by
 refine qSQ call193 func193 rfl { mt:=[2] } ?_;simp[go_sem];refine⟨ze _,ze _,?_⟩;refine aA 64 (fun i U=>U.tm 2 = .ptr 0 0/\U.tm 3 = .ip (cRS b)/\U.tm 4 = .ptr 1 0/\U.tm 5=aI i/\U.mu=[.arr (aI a.1 :: hB (fun j=>if j<i then a.2 j||b.2 j else a.2 j)),.arr (aI 0 :: hB fun _=>false)]) ?_ ?_
 .exact ⟨zSi,zSi,zSi,zSi,by simp[go_sem];rfl⟩
 rintro i U hi ⟨p,I,C,J,P⟩;by_cases l:i<64
 .have o:(i:Int)<64:=by omega
  have r:1+i<=64:=zOm;have w1:=zWk i;generalize hG:(fun j=>if j<i then a.2 j||b.2 j else a.2 j)=G at *
  have R:G i=a.2 i:=by rw[<-hG];simp
  have g:∀ v:Bool,v=(a.2 i||b.2 i)->(aI a.1 :: hB G).set (1+i) (aB v)=aI a.1 :: hB (fun j=>if j<i+1 then a.2 j||b.2 j else a.2 j):=fun v hv=>by
   rw[s1];congr 2;funext j;rw[<-hG,hv];by_cases T:j=i
   .subst T;simp
   .by_cases h2:j<i
    .simp [T,h2,show j<i+1 by omega]
    .simp [T,h2,show ¬j<i+1 by omega]
  have t:=d1 (aI a.1) G i l;have m2:=d0 b.2 i l;have a0:1<=64-i:=zOm;rw[R]at t;cases ha:a.2 i with
  |true =>
   rw[ha]at t g;have hn:=g true zSp;simp[go_sem,p,J,P,l,o,r,qu,t,hn,w1];exact aC ⟨zS1 p,zS1 I,zS1 C,zSi,zSi⟩
  |false =>
   rw[ha]at t g;have hn:=g (b.2 i) zSp;simp[go_sem,p,I,J,P,l,o,r,a0,qu,t,m2,hn,w1];exact aC ⟨zS1 p,zS1 I,zS1 C,zSi,zSi⟩
 .have a1:i=64:=by omega
  subst a1;simp[go_sem,p,C,J,P,qu,tk,pc];rw[if_pos (ze _)];simp[go_sem,C,qu,tk];have e:(aI a.1 :: hB fun j=>if j<64 then a.2 j||b.2 j else a.2 j)=cRS (uniS a b):=by
   exact congrArg (aI a.1 :: ·) (uS fun j hj=>if_pos hj)
  rw[e];exact .hf _ (yK _)
theorem UF(a b):qg qc 194 [eRS a,eRS b] (eRS (intS a b)):=by
 refine qSQ call194 func194 rfl { mt:=[2] } ?_;simp[go_sem];refine⟨ze _,ze _,?_⟩;refine aA 64 (fun i U=>U.tm 2 = .ptr 0 0/\U.tm 3 = .ip (cRS b)/\U.tm 4 = .ptr 1 0/\U.tm 5=aI i/\U.mu=[.arr (aI a.1 :: hB (fun j=>if j<i then a.2 j&&b.2 j else a.2 j)),.arr (aI 0 :: hB fun _=>false)]) ?_ ?_
 .exact ⟨zSi,zSi,zSi,zSi,by simp[go_sem];rfl⟩
 rintro i U hi ⟨p,I,C,J,P⟩;by_cases l:i<64
 .have o:(i:Int)<64:=by omega
  have r:1+i<=64:=zOm;have w1:=zWk i;generalize hG:(fun j=>if j<i then a.2 j&&b.2 j else a.2 j)=G at *
  have R:G i=a.2 i:=by rw[<-hG];simp
  have g:∀ v:Bool,v=(a.2 i&&b.2 i)->(aI a.1 :: hB G).set (1+i) (aB v)=aI a.1 :: hB (fun j=>if j<i+1 then a.2 j&&b.2 j else a.2 j):=fun v hv=>by
   rw[s1];congr 2;funext j;rw[<-hG,hv];by_cases T:j=i
   .subst T;simp
   .by_cases h2:j<i
    .simp [T,h2,show j<i+1 by omega]
    .simp [T,h2,show ¬j<i+1 by omega]
  have t:=d1 (aI a.1) G i l;have m2:=d0 b.2 i l;have a0:1<=64-i:=zOm;rw[R]at t;cases ha:a.2 i with
  |false =>
   rw[ha]at t g;have hn:=g false zSp;simp[go_sem,p,J,P,l,o,r,qu,t,hn,w1];exact aC ⟨zS1 p,zS1 I,zS1 C,zSi,zSi⟩
  |true =>
   rw[ha]at t g;have hn:=g (b.2 i) zSp;simp[go_sem,p,I,J,P,l,o,r,a0,qu,t,m2,hn,w1];exact aC ⟨zS1 p,zS1 I,zS1 C,zSi,zSi⟩
 .have a1:i=64:=by omega
  subst a1;simp[go_sem,p,C,J,P,qu,tk,pc];rw[if_pos (ze _)];simp[go_sem,C,qu,tk];have e:(aI a.1 :: hB fun j=>if j<64 then a.2 j&&b.2 j else a.2 j)=cRS (intS a b):=by
   exact congrArg (aI a.1 :: ·) (uS fun j hj=>if_pos hj)
  rw[e];exact .hf _ (yK _)
def trS(a:RS):RS:=(2,fun j=>decide (j<16)&&a.2 (j % 4*4+j / 4))
theorem qdF(a):qg qc 197 [eRS a] (eRS (trS a)):=by
 refine qSU call197 func197 rfl ?_;refine⟨ze _,?_⟩;refine aA 16 (fun i U=>U.tm 1 = .ip (cRS a)/\U.tm 2 = .ptr 0 0/\U.tm 3 = .ptr 1 0/\U.tm 4=aI i/\U.mu=[.arr (aI 0 :: hB fun _=>false),.arr (aI 2 :: hB (fun j=>decide (j<16/\j % 4*4+j / 4<i)&&a.2 (j % 4*4+j / 4)))]) ?_ ?_
 .exact ⟨zSi,zSi,zSi,zSi,by simp[go_sem];first|rfl|exact⟨rfl,rfl⟩⟩
 rintro i U hi ⟨R,o,p,e4,r⟩;by_cases t:i<16
 .have l:(i:Int)<16:=by omega
  have w1:=zWk i;obtain⟨q,hq⟩:∃ q:Nat,q=i % 4*4+i / 4:=⟨_,rfl⟩;have a0:q<16:=zOm;have w2:qp.wrap ((i:Int).tmod 4)=((i % 4:Nat):Int):=by
   rw[uW zOm];rw[zWr];omega
  have w3:qp.wrap (qp.wrap ((i:Int).tmod 4*4)+qp.wrap ((i:Int) / 4))=(q:Int):=by
   have x1:qp.wrap ((i:Int) % 4*4)=(i:Int) % 4*4:=zWr;have x2:qp.wrap ((i:Int) / 4)=(i:Int) / 4:=zWr;rw[uW zOm,x1,x2,zWr];omega
  generalize hG:(fun j=>decide (j<16/\j % 4*4+j / 4<i)&&a.2 (j % 4*4+j / 4))=G at *
  have g:(aI 2 :: hB G).set (1+q) (aB (a.2 i))=aI 2 :: hB (fun j=>decide (j<16/\j % 4*4+j / 4<i+1)&&a.2 (j % 4*4+j / 4)):=by
   rw[s1];refine congrArg (aI 2 :: ·) (uS fun j hj=>?_);rw[<-hG];by_cases C:j=q
   .have h2:j % 4*4+j / 4=i:=by omega
    rw[if_pos C,h2,decide_eq_true ⟨zOm,zOm⟩];rfl
   .have h2:¬(j<16/\j % 4*4+j / 4=i):=fun h=>C zOm
    rw[if_neg C];have h3:(j<16/\j % 4*4+j / 4<i+1)=(j<16/\j % 4*4+j / 4<i):=propext ⟨fun h=>⟨h.1,zOm⟩,fun h=>⟨h.1,zOm⟩⟩;rw[show decide (j<16/\j % 4*4+j / 4<i+1)=decide (j<16/\j % 4*4+j / 4<i) from decide_eq_decide.2 (by rw[h3])]
  have m2:=d0 a.2 i zOm;have I:(i:Int)<64:=zOm;have J:1<=64-i:=zOm;simp[go_sem,R,p,e4,r,t,l,I,J,m2,qu,w1,w3,show (q:Int)<64 by omega,show 1+q<=64 by omega,g];exact aC ⟨zS1 R,zS1 o,zS1 p,zSi,zSi⟩
 .have P:i=16:=by omega
  subst P;have e:hB (fun j=>decide (j<16/\j % 4*4+j / 4<16)&&a.2 (j % 4*4+j / 4))=hB (trS a).2:=by
   refine uS fun j hj=>?_
   rw[show decide (j<16/\j % 4*4+j / 4<16)=decide (j<16) from decide_eq_decide.2 ⟨fun h=>h.1,fun h=>⟨h,zOm⟩⟩];rfl
  rw[e]at r;have hT:eRS (trS a) = .agg (aI 2 :: hB (trS a).2):=rfl;rw[hT];generalize (trS a).2=T at *
  simp[go_sem,o,p,e4,r,qu,tk,pc];rw[if_pos (ze _)];simp[go_sem,o,qu,tk];exact .hf _ (yK (2,T))
def Qd(a b:RS)(j:Nat):Bool:=a.2 (j / szA b.1)&&b.2 (j % szA b.1)
def kE(a b:RS):RS:=(a.1+b.1,fun j=>decide (j<szA a.1*szA b.1)&&Qd a b j)
theorem qqJ(f:Nat->Bool)(p v)(i:v=f p):∀ j,(if j=p then v else decide (j<p)&&f j)=(decide (j<p+1)&&f j):=fun j=>by
 by_cases g:j=p
 .subst g;simp[i]
 .rw [if_neg g,show decide (j<p+1)=decide (j<p) from decide_eq_decide.2 zOm]
theorem qdG(a b)(ha:0<=a.1/\a.1<=1000)(hb:0<=b.1/\b.1<=1000):qg qc 196 [eRS a,eRS b] (eRS (kE a b)):=by
 refine qSV call196 func196 rfl ?_;have w0:qp.wrap (a.1+b.1)=a.1+b.1:=zWr;have ag:=Vt a.1;have ah:=Vt b.1;have ca:=Wj a.1;have cb:=Wj b.1;have hf:∀ j,Qd a b j=(a.2 (j / szA b.1)&&b.2 (j % szA b.1)):=fun _=>rfl
 simp[go_sem,qu];refine⟨ze _,ze _,?_⟩;simp[go_sem,w0];refine pL cb (.zs .nil) ?_;generalize hE:kE a b=E;have aa:E=(a.1+b.1,fun j=>decide (j<szA a.1*szA b.1)&&Qd a b j):=hE.symm;clear hE;generalize Qd a b=F at *
 generalize szA a.1=sa at *
 generalize szA b.1=n at *
 simp[go_sem];refine aA sa (fun i U=>U.tm 2 = .ip (cRS a)/\U.tm 3 = .ip (cRS b)/\U.tm 4 = .ptr 0 0/\U.tm 5 = .ptr 1 0/\U.tm 6=aI n/\U.tm 7=aI i/\U.mu=[.arr (aI 0 :: hB fun _=>false),.arr (aI (a.1+b.1) :: hB (fun j=>decide (j<i*n)&&F j))]) ?_ ?_
 .exact ⟨zSi,zSi,zSi,zSi,zSi,zSi,by simp[go_sem];first|rfl|exact⟨rfl,rfl⟩⟩
 rintro i U hi ⟨l,C,J,P,o,r,R⟩;simp[go_sem,l,r,R];refine pL ca (.zs .nil) ?_;by_cases a7:i<sa
 .have w1:=zWk i
  simp[go_sem,a7];refine aA n (fun k U=>U.tm 2 = .ip (cRS a)/\U.tm 3 = .ip (cRS b)/\U.tm 4 = .ptr 0 0/\U.tm 5 = .ptr 1 0/\U.tm 6=aI n/\U.tm 7=aI i/\U.tm 8=aI k/\U.mu=[.arr (aI 0 :: hB fun _=>false),.arr (aI (a.1+b.1) :: hB (fun j=>decide (j<i*n+k)&&F j))]) ?_ ?_
  .exact ⟨zS1 l,zS1 C,zS1 J,zS1 P,zS1 o,zS1 r,zSi,zSi⟩
  clear l C J P o r R;rintro k U hk ⟨l,C,J,P,o,r,e8,R⟩;by_cases t:k<n
  .have w2:=zWk k
   obtain⟨p,hp⟩:∃ p:Nat,p=i*n+k:=⟨_,rfl⟩;have a8:((i:Int)*n+k)=(p:Int):=by rw[hp];push_cast;rfl
   have ai:i*n<=63*64:=Nat.mul_le_mul zOm zOm;have w3:qp.wrap ((i:Int)*n)=(i:Int)*n:=by
    have:((i*n:Nat):Int)=(i:Int)*n:=by push_cast;rfl
    rw[<-this];exact zWr
   have w4:qp.wrap (p:Int)=(p:Int):=zWr;have a3:F p=(a.2 i&&b.2 k):=by
    rw[hf,hp,Nat.add_comm,Nat.add_mul_div_right _ _ zOm,Nat.add_mul_mod_self_right,Nat.div_eq_of_lt t,Nat.mod_eq_of_lt t,yb]
   have m1:=d0 a.2 i zOm;have m2:=d0 b.2 k zOm;have a0:1<=64-i:=zOm;have a4:1<=64-k:=zOm;have a1:(i:Int)<64:=zOm;have a5:(k:Int)<64:=zOm;have hq:∀ x:AV,(x :: hB (fun j=>decide (j<p)&&F j)).set (1+p) (aB true)=x :: hB (fun j=>if j=p then true else decide (j<p)&&F j):=fun x=>s1 x _ p true
   rw[<-hp]at R;have ab:F p=true->(fun j=>if j=p then true else decide (j<p)&&F j)=(fun j=>decide (j<p+1)&&F j):=fun h=>funext (qqJ F p true h.symm)
   have ad:F p=true->∀ x:AV,(x :: hB (fun j=>decide (j<p)&&F j)).set (1+p) (AV.sc (Value.bool true))=x :: hB (fun j=>decide (j<p+1)&&F j):=fun h x=>by rw[<-ab h];exact hq x
   have a6:(F p=false\/64<=p)->hB (fun j=>decide (j<p)&&F j)=hB (fun j=>decide (j<p+1)&&F j):=fun h=>uS fun j hj=>by
    by_cases h1:j=p
    .rcases h with h|h
     .rw [h1,h];simp
     .omega
    .rw [show decide (j<p+1)=decide (j<p) from decide_eq_decide.2 zOm]
   have done:∀ g:St,g.tm 2 = .ip (cRS a)->g.tm 3 = .ip (cRS b)->g.tm 4 = .ptr 0 0->g.tm 5 = .ptr 1 0->g.tm 6=aI n->g.tm 7=aI i->g.tm 8=aI (k+1:Nat)->g.mu=[.arr (aI 0 :: hB fun _=>false),.arr (aI (a.1+b.1) :: hB (fun j=>decide (j<p+1)&&F j))]->Keep (fun U=>U.tm 2 = .ip (cRS a)/\U.tm 3 = .ip (cRS b)/\U.tm 4 = .ptr 0 0/\U.tm 5 = .ptr 1 0/\U.tm 6=aI n/\U.tm 7=aI i/\U.tm 8=aI (k+1:Nat)/\U.mu=[.arr (aI 0 :: hB fun _=>false),.arr (aI (a.1+b.1) :: hB (fun j=>decide (j<i*n+(k+1))&&F j))]) .mk g:=
    fun g b1 b2 b3 b4 b5 b6 b7 b8=>aC ⟨b1,b2,b3,b4,b5,b6,b7,by rw[b8,hp];rfl⟩
   cases I:a.2 i with
   |false =>
    rw[I]at m1;simp[go_sem,l,o,r,e8,R,t,qu,m1,a0,a1,w2];exact done _ (zS1 l) (zS1 C) (zS1 J) (zS1 P) (zS1 o) (zS1 r) zSi (by simp[go_sem,a6 (.inl (by rw[a3,I];rfl))])
   |true =>
    rw[I]at m1;cases a2:b.2 k with
    |false =>
     rw[a2]at m2;simp[go_sem,l,C,o,r,e8,R,t,qu,m1,m2,a0,a4,a1,a5,w2];exact done _ (zS1 l) (zS1 C) (zS1 J) (zS1 P) (zS1 o) (zS1 r) zSi (by simp[go_sem,a6 (.inl (by rw[a3,I,a2];rfl))])
    |true =>
     rw[a2]at m2;by_cases a9:(p:Int)<64
     .simp [go_sem,l,C,P,o,r,e8,R,t,qu,m1,m2,a0,a4,a1,a5,w2,w3,a8,w4,a9,show 1+p<=64 by omega,ad (by rw[a3,I,a2];rfl)]
      exact done _ (zS1 l) (zS1 C) (zS1 J) (zS1 P) (zS1 o) (zS1 r) zSi zSi
     .simp [go_sem,l,C,o,r,e8,R,t,qu,m1,m2,a0,a4,a1,a5,w2,w3,a8,w4,a9]
      exact done _ (zS1 l) (zS1 C) (zS1 J) (zS1 P) (zS1 o) (zS1 r) zSi (by simp[go_sem,a6 (.inr zOm)])
  .have ae:k=n:=by omega
   subst ae;rw[show i*k+k=(i+1)*k by rw[Nat.add_mul,Nat.one_mul]]at R;simp[go_sem,o,r,e8,R,w1];exact⟨a7,aC ⟨zS1 l,zS1 C,zS1 J,zS1 P,zS1 o,zSi,zSi⟩⟩
 .have af:i=sa:=by omega
  subst af;rw[aa];generalize (fun j=>decide (j<i*n)&&F j)=T at *
  simp[go_sem,J,P,qu,tk,pc];rw[if_pos (ze _)];simp[go_sem,J,qu,tk];exact .hf _ (yK (_,T))
def rowJ(a b:RS)(i g j:Nat):Bool:=(qs g).any fun k=>decide (i / 4*(szA b.1 / 4)+k % (szA b.1 / 4)=j)&&(decide (i % 4=k / (szA b.1 / 4))&&(a.2 i&&b.2 k))
def ZZ(a b:RS):RS:=(a.1+b.1-2,fun j=>(qs (szA a.1)).any fun i=>rowJ a b i (szA b.1) j)
theorem qqK(a b i k j):rowJ a b i (k+1) j=(rowJ a b i k j||(decide (i / 4*(szA b.1 / 4)+k % (szA b.1 / 4)=j)&&(decide (i % 4=k / (szA b.1 / 4))&&(a.2 i&&b.2 k)))):=by
 unfold rowJ;rw[List.range_succ,List.any_append];simp
theorem qqL{k}(h:1<=k):4<=szA k:=by unfold szA;split<;>(try split)<;>(try split)<;>omega
theorem we(a b)(ha:0<=a.1/\a.1<=1000)(hb:1<=b.1/\b.1<=1000):qg qc 195 [eRS a,eRS b] (eRS (ZZ a b)):=by
 refine qSV call195 func195 rfl ?_;have w0:qp.wrap (a.1+b.1)=a.1+b.1:=zWr;have ab:qp.wrap (a.1+b.1-2)=a.1+b.1-2:=zWr;have aj:=Vt a.1;have ak:=Vt b.1;have al:=qqL hb.1;have ca:=Wj a.1;have cb:=Wj b.1;have hR:∀ i k j,rowJ a b i (k+1) j=(rowJ a b i k j||(decide (i / 4*(szA b.1 / 4)+k % (szA b.1 / 4)=j)&&(decide (i % 4=k / (szA b.1 / 4))&&(a.2 i&&b.2 k)))):=qqK a b;have ad:∀ i j,rowJ a b i 0 j=false:=fun i j=>rfl
 simp[go_sem,qu];refine⟨ze _,ze _,?_⟩;simp[go_sem,w0,ab];refine pL cb (.zs .nil) ?_;generalize hE:ZZ a b=E;have ae:E=(a.1+b.1-2,fun j=>(qs (szA a.1)).any fun i=>rowJ a b i (szA b.1) j):=hE.symm;clear hE;generalize rowJ a b=F at *
 generalize szA a.1=sa at *
 generalize szA b.1=sb at *
 obtain⟨n,hn⟩:∃ n:Nat,n=sb / 4:=⟨_,rfl⟩;have an:1<=n/\n<=16:=zOm;have wn:qp.wrap ((sb:Int) / 4)=(n:Int):=by rw[zWr];omega
 rw[<-hn]at hR;simp[go_sem,wn];refine aA sa (fun i U=>U.tm 2 = .ip (cRS a)/\U.tm 3 = .ip (cRS b)/\U.tm 4 = .ptr 0 0/\U.tm 5 = .ptr 1 0/\U.tm 6=aI n/\U.tm 7=aI i/\U.mu=[.arr (aI 0 :: hB fun _=>false),.arr (aI (a.1+b.1-2) :: hB (fun j=>(qs i).any fun i=>F i sb j))]) ?_ ?_
 .exact ⟨zSi,zSi,zSi,zSi,zSi,zSi,by simp[go_sem];first|rfl|exact⟨rfl,rfl⟩⟩
 rintro i U hi ⟨l,r,C,I,t,o,hm⟩;simp[go_sem,l,o,hm];refine pL ca (.zs .nil) ?_;by_cases a9:i<sa
 .have w1:=zWk i
  generalize hP:(fun j=>(qs i).any fun i=>F i sb j)=P at *
  simp[go_sem,a9];refine aA sb (fun k U=>U.tm 2 = .ip (cRS a)/\U.tm 3 = .ip (cRS b)/\U.tm 4 = .ptr 0 0/\U.tm 5 = .ptr 1 0/\U.tm 6=aI n/\U.tm 7=aI i/\U.tm 8=aI k/\U.mu=[.arr (aI 0 :: hB fun _=>false),.arr (aI (a.1+b.1-2) :: hB (fun j=>P j||F i k j))]) ?_ ?_
  .exact ⟨zS1 l,zS1 r,zS1 C,zS1 I,zS1 t,zS1 o,zSi,zS1 ad⟩
  clear l r C I t o hm;rintro k U hk ⟨l,r,C,I,t,o,e8,hm⟩;simp[go_sem,r,e8,hm];refine pL cb (.zs .nil) ?_;by_cases J:k<sb
  .have w2:=zWk k
   obtain⟨p,hp⟩:∃ p:Nat,p=i / 4*n+k % n:=⟨_,rfl⟩;have ao:k % n<n:=Nat.mod_lt _ zOm;have aq:i / 4*n<=15*16:=Nat.mul_le_mul zOm zOm;have y1:((i / 4:Nat):Int)=(i:Int) / 4:=zOm;have y2:((i / 4*n:Nat):Int)=(i:Int) / 4*n:=by rw[<-y1];push_cast;rfl
   have y3:((k % n:Nat):Int)=(k:Int) % n:=rfl;have y4:((k / n:Nat):Int)=(k:Int) / n:=rfl;have af:k / n<=64:=Nat.le_trans (Nat.div_le_self k n) zOm;have x1:qp.wrap ((i:Int) / 4)=(i:Int) / 4:=zWr;have x2:qp.wrap ((i:Int) / 4*n)=(i:Int) / 4*n:=by rw[<-y2];exact zWr
   have x4:qp.wrap ((i:Int) / 4*n+(k:Int) % n)=(p:Int):=by rw[<-y2,<-y3,zWr,hp];push_cast;rfl
   have a8:qp.wrap ((i:Int) / 4*n+(k:Int).tmod n)=(p:Int):=by rw[uW zOm];exact x4
   have x5:qp.wrap ((k:Int) / n)=(k:Int) / n:=by
    rw[<-y4];clear y4;generalize k / n=c at af⊢;exact zWr
   have R:¬n=0:=zOm;have m1:=d0 a.2 i zOm;have m2:=d0 b.2 k zOm;have a0:1<=64-i:=zOm;have a2:1<=64-k:=zOm;have a1:(i:Int)<64:=zOm;have a3:(k:Int)<64:=zOm;have a4:((decide (i % 4=k / n)&&(a.2 i&&b.2 k))=false\/64<=p)->hB (fun j=>P j||F i k j)=hB (fun j=>P j||F i (k+1) j):=fun h=>uS fun j hj=>by
    rw[hR,<-hp];rcases h with h|h
    .rw [h,Bool.and_false,Bool.or_false]
    .rw [decide_eq_false zOm,Bool.false_and,Bool.or_false]
   have ag:(decide (i % 4=k / n)&&(a.2 i&&b.2 k))=true->∀ x:AV,(x :: hB (fun j=>P j||F i k j)).set (1+p) (AV.sc (Value.bool true))=x :: hB (fun j=>P j||F i (k+1) j):=fun h x=>by
    refine(s1 x _ p true).trans (congrArg (x :: ·) (uS fun j hj=>?_));rw[hR,<-hp,h,Bool.and_true];by_cases h1:j=p
    .rw [if_pos h1,h1];simp
    .rw [if_neg h1,decide_eq_false (fun e=>h1 e.symm),Bool.or_false]
   have done:∀ g:St,g.tm 2 = .ip (cRS a)->g.tm 3 = .ip (cRS b)->g.tm 4 = .ptr 0 0->g.tm 5 = .ptr 1 0->g.tm 6=aI n->g.tm 7=aI i->g.tm 8=aI (k+1:Nat)->g.mu=[.arr (aI 0 :: hB fun _=>false),.arr (aI (a.1+b.1-2) :: hB (fun j=>P j||F i (k+1) j))]->Keep (fun U=>U.tm 2 = .ip (cRS a)/\U.tm 3 = .ip (cRS b)/\U.tm 4 = .ptr 0 0/\U.tm 5 = .ptr 1 0/\U.tm 6=aI n/\U.tm 7=aI i/\U.tm 8=aI (k+1:Nat)/\U.mu=[.arr (aI 0 :: hB fun _=>false),.arr (aI (a.1+b.1-2) :: hB (fun j=>P j||F i (k+1) j))]) .mk g:=
    fun g b1 b2 b3 b4 b5 b6 b7 b8=>aC ⟨b1,b2,b3,b4,b5,b6,b7,b8⟩
   cases a5:a.2 i with
   |false =>
    rw[a5]at m1;simp[go_sem,l,t,o,e8,J,qu,x1,x2,R,m1,a0,a1,w2];exact done _ (zS1 l) (zS1 r) (zS1 C) (zS1 I) (zS1 t) (zS1 o) zSi (by simp[go_sem,a4 (.inl (by rw[a5];simp))])
   |true =>
    rw[a5]at m1;cases a6:b.2 k with
    |false =>
     rw[a6]at m2;simp[go_sem,l,r,t,o,e8,J,qu,x1,x2,R,m1,m2,a0,a1,a2,a3,w2];exact done _ (zS1 l) (zS1 r) (zS1 C) (zS1 I) (zS1 t) (zS1 o) zSi (by simp[go_sem,a4 (.inl (by rw[a6];simp))])
    |true =>
     rw[a6]at m2;by_cases hq:i % 4=k / n
     .have a7:(i:Int).tmod 4=(k:Int) / n:=by rw[uW zOm,<-y4,<-hq];rfl
      by_cases aa:(p:Int)<64
      .simp [go_sem,l,r,I,t,o,e8,J,qu,x1,x2,a8,x5,R,m1,m2,a0,a1,a2,a3,w2,a7,aa,show 1+p<=64 by omega,ag (by rw[decide_eq_true hq,a5,a6];rfl)]
       exact done _ (zS1 l) (zS1 r) (zS1 C) (zS1 I) (zS1 t) (zS1 o) zSi zSi
      .simp [go_sem,l,r,t,o,e8,J,qu,x1,x2,a8,x5,R,m1,m2,a0,a1,a2,a3,w2,a7,aa]
       exact done _ (zS1 l) (zS1 r) (zS1 C) (zS1 I) (zS1 t) (zS1 o) zSi (by simp[go_sem,a4 (.inr zOm)])
     .have a7:¬(i:Int).tmod 4=(k:Int) / n:=fun e=>hq (by rw[uW zOm,<-y4]at e;exact Int.ofNat.inj e)
      simp[go_sem,l,r,t,o,e8,J,qu,x1,x2,a8,x5,R,m1,m2,a0,a1,a2,a3,w2,a7];exact done _ (zS1 l) (zS1 r) (zS1 C) (zS1 I) (zS1 t) (zS1 o) zSi (by simp[go_sem,a4 (.inl (by rw[decide_eq_false hq];rfl))])
  .have ah:k=sb:=by omega
   subst ah;simp[go_sem,o,w1];exact⟨a9,aC ⟨zS1 l,zS1 r,zS1 C,zS1 I,zS1 t,zSi,by simp[go_sem];rw[<-hP]⟩⟩
 .have ai:i=sa:=by omega
  subst ai;rw[ae];generalize (fun j=>(qs i).any fun i=>F i sb j)=T at *
  simp[go_sem,C,I,qu,tk,pc];rw[if_pos (ze _)];simp[go_sem,C,qu,tk];exact .hf _ (yK (_,T))
end QE
namespace QF
open Y2 Y3 P1 P2 QD QE
section
variable {p q:Int}{a b:Kd}{l:List Int}{m ns:Nat}
def dig(k:Int)(j:Nat):List Int:=if k=0 then [] else if k=1 then [(j:Int)] else if k=2 then [((j / 4:Nat):Int),((j % 4:Nat):Int)] else [((j / 16:Nat):Int),((j / 4 % 4:Nat):Int),((j % 4:Nat):Int)]
theorem Z0{k}(h:0<=k/\k<=3)(j):((dig k j).length:Int)=k:=by
 grind [dig]
theorem szA1:szA 1=4:=rfl
theorem szA2:szA 2=16:=rfl
theorem szA3:szA 3=64:=rfl
theorem Vu(h:0<=p/\p<=3):p=0\/p=1\/p=2\/p=3:=by omega
theorem qdH(hp:0<=p)(g:0<=q)(h:p+q<=3){j}(i:j<szA (p+q)):j / szA q<szA p/\j % szA q<szA q/\dig (p+q) j=dig p (j / szA q)++dig q (j % szA q):=by
 rcases Vu (p:=p) ⟨hp,zOm⟩ with rfl|rfl|rfl|rfl<;>rcases Vu (p:=q) ⟨g,zOm⟩ with rfl|rfl|rfl|rfl<;>first | (exfalso;omega)|skip
 all_goals simp[dig,szA]at i⊢
 all_goals omega
theorem kF(hp:0<=p)(g:0<=q)(h:p+q<=3){i k}(j:i<szA p)(l:k<szA q):i*szA q+k<szA (p+q)/\dig (p+q) (i*szA q+k)=dig p i++dig q k:=by
 rcases Vu (p:=p) ⟨hp,zOm⟩ with rfl|rfl|rfl|rfl<;>rcases Vu (p:=q) ⟨g,zOm⟩ with rfl|rfl|rfl|rfl<;>first | (exfalso;omega)|skip
 all_goals simp[dig,szA]at j l⊢
 all_goals omega
theorem kG(h:0<=p/\p<=3){i j}(g:i<szA p)(l:j<szA p)(e:dig p i=dig p j):i=j:=by
 rcases Vu h with rfl|rfl|rfl|rfl
 all_goals grind [dig,szA]
 all_goals omega
theorem qdI(h:1<=p/\p<=3){l}(g:(l.length:Int)=p)(hx:∀ x,x∈l->0<=x/\x<4):∃ i,i<szA p/\l=dig p i:=by
 match l,g,hx with
 | [],g,_=>simp at g;omega
 | [a],g,hx =>
  obtain rfl:p=1:=by grind
  have:=hx a zSp;exact⟨a.toNat,by rw[szA1];omega,by simp[dig];omega⟩
 | [a,b],g,hx =>
  obtain rfl:p=2:=by grind
  have:=hx a zSp;have:=hx b zSp;exact⟨(a*4+b).toNat,by rw[szA2];omega,by simp[dig];omega⟩
 | [a,b,c],g,hx =>
  obtain rfl:p=3:=by grind
  have:=hx a zSp;have:=hx b zSp;have:=hx c zSp;exact⟨(a*16+b*4+c).toNat,by rw[szA3];omega,by simp[dig];omega⟩
 |a :: b :: c :: d :: l,g,_=>simp at g;omega
theorem kH{l'}(h:l.length=l'.length)(g:l.length<=3)(e:pad l=pad l'):l=l':=by
 have i:=ZS g l.length (qo _);have j:=ZS (l:=l') zOm l'.length (qo _)
 grind
theorem Jc{k}(h:okKd ns k)(g:ns<=4){t:Tp}(j:t∈k.ts):∃ i,i<szA k.ar/\t=pad (dig k.ar i):=by
 obtain⟨l,rfl,o,hx⟩:=h.ts t j;obtain⟨i,p,e⟩:=qdI h.ar o fun x r=>by grind
 grind
def qr(k:Kd):RS:=(k.ar,fun j=>decide (j<szA k.ar/\pad (dig k.ar j)∈k.ts))
theorem yW(k j):(qr k).2 j=true↔j<szA k.ar/\pad (dig k.ar j)∈k.ts:=decide_eq_true_iff
theorem Qo{a b}(g:a.1=b.1)(i:∀ j,j<64->a.2 j=b.2 j):eRS a=eRS b:=by
 simp only[eRS,cRS,g,uS i]
theorem Vv(h:a.ar=b.ar):eRS (uniS (qr a) (qr b))=eRS (qr (kSum a b)):=by
 refine Qo rfl fun j g=>?_
 rw[vA,yW];show ((qr a).2 j||(qr b).2 j)=true↔j<szA a.ar/\pad (dig a.ar j)∈uni (uni [] a.ts) b.ts;rw[Bool.or_eq_true,yW,yW,<-h,vZ,vZ]
 grind
theorem qqM(h:a.ar=b.ar):eRS (intS (qr a) (qr b))=eRS (qr (Ym a b)):=by
 refine Qo rfl fun j g=>?_
 rw[vA,yW];show ((qr a).2 j&&(qr b).2 j)=true↔j<szA a.ar/\pad (dig a.ar j)∈a.ts.filter fun t=>decide (t∈b.ts)
 rw[qF,yW,yW,<-h,jy,decide_eq_true_eq]
 grind
theorem JO{n a b t}:t∈Qc n m a b↔∃ x y,x∈a/\y∈b/\conc x n y m 0=t:=by
 unfold Qc;rw[vZ];simp only[qI,false_or,qk,Prod.exists,Yl]
 grind
theorem J0{l' n}(h:l.length=n)(g:l'.length=m)(i:n<=3)(j:m<=3):conc (pad l) n (pad l') m 0=pad (l++l'):=by
 unfold conc;rw[Nat.sub_zero,List.drop_zero,ZS zOm n zOm,ZS zOm m zOm,<-h,<-g,qR,qR]
theorem qqN(J:okKd ns a)(P:okKd ns b)(l:ns<=4)(R:a.ar+b.ar<=3):eRS (kE (qr a) (qr b))=eRS (qr (uL a b)):=by
 have U:=J.ar;have a0:=P.ar;have la:=fun i=>Z0 (k:=a.ar) zOm i
 have lb:=fun i=>Z0 (k:=b.ar) zOm i
 have g:=fun i=>Z0 (k:=a.ar+b.ar) zOm i
 refine Qo rfl fun j hj=>?_
 rw[vA,yW];show (decide (j<szA a.ar*szA b.ar)&&((qr a).2 (j / szA b.ar)&&(qr b).2 (j % szA b.ar)))=true↔j<szA (a.ar+b.ar)/\pad (dig (a.ar+b.ar) j)∈Qc a.ar.toNat b.ar.toNat a.ts b.ts;rw[qF,qF,yW,yW,JO,decide_eq_true_eq];constructor
 .rintro ⟨_,⟨r,h2⟩,h4,h5⟩
  have t:=kF (p:=a.ar) (q:=b.ar) zOm zOm R r h4
  grind [szA,Nat.div_add_mod',J0]
 .rintro ⟨r,x,y,hx,T,e⟩
  obtain⟨i,C,rfl⟩:=Jc J l hx;obtain⟨k,o,rfl⟩:=Jc P l T;rw[J0 (zW1 (la i)) (zW1 (lb k)) zOm zOm]at e;have t:=kF (p:=a.ar) (q:=b.ar) zOm zOm R C o;rw[<-t.2]at e;have e2:=kH (zW2 (g (i*szA b.ar+k)) (g j)) (zW1 (g (i*szA b.ar+k))) e;have I:=kG zOm t.1 r e2;have a1:=Vt b.ar;have d1:j / szA b.ar=i:=by rw[<-I,Nat.add_comm,Nat.add_mul_div_right _ _ zOm,Nat.div_eq_of_lt o,yb]
  have d2:j % szA b.ar=k:=by rw[<-I,Nat.add_comm,Nat.add_mul_mod_self_right,Nat.mod_eq_of_lt o]
  rw[d1,d2];refine⟨?_,⟨C,hx⟩,o,T⟩;rw[<-I]
  calc i*szA b.ar+k<i*szA b.ar+szA b.ar:=by omega
   _=(i+1)*szA b.ar:=by rw[Nat.add_mul,Nat.one_mul]
   _<=szA a.ar*szA b.ar:=Nat.mul_le_mul_right _ C
theorem Zc{n a b t}:t∈uK n m a b↔∃ x y,x∈a/\y∈b/\x.getD (n-1) 0=y.getD 0 0/\conc x n y m 1=t:=by
 unfold uK;rw[vZ];simp only[qI,false_or,List.mem_filterMap,Prod.exists,Yl];constructor
 .rintro ⟨x,y,⟨i,j⟩,g⟩
  split at g
  .rename_i h;cases g;exact⟨x,y,i,j,h,rfl⟩
  .cases g
 .rintro ⟨x,y,i,j,g,l⟩;exact⟨x,y,⟨i,j⟩,by rw[if_pos g,l]⟩
theorem qqO{u v e f n}(h:u.length+1=n)(g:v.length+1=m)(i:n<=3)(j:m<=3):conc (pad (u++[e])) n (pad ([f]++v)) m 1=pad (u++v):=by
 unfold conc;rw[ZS zSo (n-1) zSo,ZS zSo m zSo,List.take_append_of_le_length zOm,yg zOm,yg zSo];rfl
theorem qdJ{k}(h:k<3):(pad l).getD k 0=l.getD k 0:=by
 match k,h with
 | 0,_=>rfl
 | 1,_=>rfl
 | 2,_=>rfl
theorem qqP(hp:0<=p/\p<=2){i}(g:i<szA (p+1)):i / 4<szA p/\dig (p+1) i=dig p (i / 4)++[((i % 4:Nat):Int)]:=by
 have:=qdH (p:=p) (q:=1) hp.1 zOm zOm g;rw[szA1]at this;exact⟨this.1,this.2.2⟩
theorem qqQ(g:0<=q/\q<=2){k}(i:k<szA (1+q)):k % szA q<szA q/\dig (1+q) k=[((k / szA q:Nat):Int)]++dig q (k % szA q):=by
 have:=qdH (p:=1) (q:=q) zOm g.1 zOm i;exact⟨this.2.1,this.2.2⟩
theorem qqR(g:0<=q/\q<=2):szA (q+1) / 4=szA q/\szA (q+1)=4*szA q:=by
 rcases (show q=0\/q=1\/q=2 by omega) with rfl|rfl|rfl<;>exact⟨rfl,rfl⟩
theorem qdK(ha:okKd ns a)(hb:okKd ns b)(r:ns<=4)(h3:1<=a.ar+b.ar-2/\a.ar+b.ar-2<=3):eRS (ZZ (qr a) (qr b))=eRS (qr (zQ a b)):=by
 have a0:=ha.ar;have a3:=hb.ar;obtain⟨p,hp⟩:∃ p,p=a.ar-1:=⟨_,rfl⟩;obtain⟨q,hq⟩:∃ q,q=b.ar-1:=⟨_,rfl⟩;have ea:a.ar=p+1:=zOm;have eb:b.ar=1+q:=zOm;have t:b.ar=q+1:=zOm;have C:a.ar+b.ar-2=p+q:=zOm;have I:=qqR (q:=q) zOm;have hn:szA b.ar / 4=szA q:=by rw[t];exact I.1
 have lp:=fun i=>Z0 (k:=p) zOm i
 have lq:=fun i=>Z0 (k:=q) zOm i
 have o:=fun i=>Z0 (k:=p+q) zOm i
 have A:∀ i,i<szA a.ar->i / 4<szA p/\dig a.ar i=dig p (i / 4)++[((i % 4:Nat):Int)]:=fun i g=>by rw[ea]at g⊢;exact qqP zOm g
 have B:∀ k,k<szA b.ar->k % szA q<szA q/\dig b.ar k=[((k / szA q:Nat):Int)]++dig q (k % szA q):=fun k l=>by rw[eb]at l⊢;exact qqQ zOm l
 have J:∀ i k,i<szA a.ar->k<szA b.ar->i / 4*szA q+k % szA q<szA (p+q)/\(pad (dig a.ar i)).getD (a.ar.toNat-1) 0=((i % 4:Nat):Int)/\(pad (dig b.ar k)).getD 0 0=((k / szA q:Nat):Int)/\conc (pad (dig a.ar i)) a.ar.toNat (pad (dig b.ar k)) b.ar.toNat 1=pad (dig (p+q) (i / 4*szA q+k % szA q)):=fun i k g l=>by
  obtain⟨a1,a2⟩:=A i g;obtain⟨b1,b2⟩:=B k l;have hm:=kF (p:=p) (q:=q) zOm zOm zOm a1 b1;have l1:=lp (i / 4);have l2:=lq (k % szA q);refine⟨hm.1,?_,?_,?_⟩
  .rw [qdJ zOm,a2,show a.ar.toNat-1=(dig p (i / 4)).length by omega];simp
  .rw [qdJ zOm,b2];rfl
  .rw [a2,b2,hm.2];exact qqO zOm zOm zOm zOm
 refine Qo rfl fun j hj=>?_
 rw[vA,yW];show ((qs (szA a.ar)).any fun i=>(qs (szA b.ar)).any fun k=>decide (i / 4*(szA b.ar / 4)+k % (szA b.ar / 4)=j)&&(decide (i % 4=k / (szA b.ar / 4))&&((qr a).2 i&&(qr b).2 k)))=true↔j<szA (a.ar+b.ar-2)/\pad (dig (a.ar+b.ar-2) j)∈uK a.ar.toNat b.ar.toNat a.ts b.ts;rw[Zc,List.any_eq_true,hn,C];constructor
 .rintro ⟨i,g,h⟩
  obtain⟨k,l,h⟩:=List.any_eq_true.1 h;rw[yh]at g l;rw[qF,qF,qF,decide_eq_true_eq,decide_eq_true_eq,yW,yW]at h;obtain⟨rfl,P,⟨_,h4⟩,_,h5⟩:=h;obtain⟨R,T,U,j4⟩:=J i k g l;exact⟨R,_,_,h4,h5,by rw[T,U,P],j4⟩
 .rintro ⟨h1,x,y,hx,hy,P,e⟩
  obtain⟨i,g,rfl⟩:=Jc ha r hx;obtain⟨k,l,rfl⟩:=Jc hb r hy;obtain⟨R,T,U,j4⟩:=J i k g l;rw[j4]at e;have e2:=kH (zW2 (o (i / 4*szA q+k % szA q)) (o j)) (zW1 (o (i / 4*szA q+k % szA q))) e;have e3:=kG zOm R h1 e2;rw[T,U]at P;refine⟨i,yh.2 g,List.any_eq_true.2 ⟨k,yh.2 l,?_⟩⟩;rw[qF,qF,qF,decide_eq_true_eq,decide_eq_true_eq,yW,yW];exact⟨e3,zOm,⟨g,hx⟩,l,hy⟩
theorem qqS(o:okKd ns a)(g:ns<=4)(p:a.ar=2):eRS (trS (qr a))=eRS (qr (kTr a)):=by
 refine Qo rfl fun j I=>?_
 rw[vA,yW];show (decide (j<16)&&(qr a).2 (j % 4*4+j / 4))=true↔j<16/\pad (dig 2 j)∈uni [] (a.ts.map fun t=>[t.getD 1 0,t.getD 0 0,0]);rw[qF,yW,vZ,decide_eq_true_eq,p,szA2];simp only[qI,false_or,qk];constructor
 .rintro ⟨l,J,r⟩
  refine⟨l,_,r,?_⟩
  grind [dig,pad]
 .rintro ⟨l,t,C,e⟩
  obtain⟨i,P,rfl⟩:=Jc o g C
  grind [szA2,dig,pad]
theorem kI(h:1<=l.length/\l.length<=3)(hx:∀ x,x∈l->0<=x/\x<4):eRS (oneS l)=eRS (qr (kOf l)):=by
 refine Qo rfl fun j J=>?_
 obtain⟨i,g,e⟩:=qdI (p:=(l.length:Int)) zOm rfl hx;have o:atF 0 l=i:=by
  match l,h,hx,g,e with
  | [x],_,hx,g,e =>
   have:=hx x zSp;simp[dig]at e;simp[atF,IntKind.wrap,IntKind.signed,IntKind.bits];omega
  | [x,y],_,hx,g,e =>
   have:=hx x zSp;have:=hx y zSp;simp[dig]at e;simp[atF,IntKind.wrap,IntKind.signed,IntKind.bits];omega
  | [x,y,z],_,hx,g,e =>
   have:=hx x zSp;have:=hx y zSp;have:=hx z zSp;simp[dig]at e;simp[atF,IntKind.wrap,IntKind.signed,IntKind.bits];omega
 rw[vA,yW];show decide ((j:Int)=atF 0 l)=true↔j<szA (l.length:Int)/\pad (dig (l.length:Int) j)∈[pad l];rw[decide_eq_true_eq,o,qY];have t:=fun j=>Z0 (k:=(l.length:Int)) zOm j
 constructor
 .intro C
  obtain rfl:j=i:=zOm
  grind
 .rintro ⟨C,I⟩
  have r:=kH (zW1 (t j)) (zW1 (t j)) I;rw[e]at r;have:=kG (p:=(l.length:Int)) zOm C g (by rw[<-e]at r⊢;exact r);omega
end
end QF
namespace QG
open Y2 P1 P2 PB QE QF
section
variable {k:Kd}{ns:Nat}
def Vw(k:Kd):Kd:=kSum k (zQ k k)
def itK:Nat->Kd->Kd
 | 0,k=>k
 |i+1,k=>Vw (itK i k)
theorem qqT(h:okKd ns k)(g:k.ar=2):okKd ns (Vw k)/\(Vw k).ar=2:=
 ⟨JZ h (J1 h h zOm zOm) (by grind [zQ]),g⟩
theorem okIt(h:okKd ns k)(g:k.ar=2):∀ i,okKd ns (itK i k)/\(itK i k).ar=2
 | 0=>⟨h,g⟩
 |i+1=>qqT (okIt h g i).1 (okIt h g i).2
abbrev Ed(k:Kd)(u v:Int):Prop:=[u,v,0]∈k.ts
theorem Wk(h:okKd ns k)(j:k.ar=2){t:Tp}(i:t∈k.ts):∃ u v,t=[u,v,0]/\(0<=u/\u<ns)/\(0<=v/\v<ns):=by
 obtain⟨l,rfl,g,hx⟩:=h.ts t i
 match l,g,hx with
 | [u,v],_,hx=>exact⟨u,v,rfl,hx u zSp,hx v zSp⟩
 | [],g,_=>simp at g;omega
 | [_],g,_=>simp at g;omega
 |_ :: _ :: _ :: _,g,_=>simp at g;omega
theorem qdL(h:okKd ns k)(j:k.ar=2){u v}:[u,v,0]∈(zQ k k).ts↔∃ w,Ed k u w/\Ed k w v:=by
 show [u,v,0]∈uK k.ar.toNat k.ar.toNat k.ts k.ts↔_;rw[QF.Zc,j];constructor
 .rintro ⟨x,y,hx,l,g,i⟩
  obtain⟨a,b,rfl,_,_⟩:=Wk h j hx;obtain⟨c,d,rfl,_,_⟩:=Wk h j l;have g:b=c:=g;have i:[a,d,0]=[u,v,0]:=i
  grind
 .rintro ⟨w,g,i⟩
  exact⟨[u,w,0],[w,v,0],g,i,rfl,rfl⟩
theorem kJ(h:okKd ns k)(g:k.ar=2){u v}:Ed (Vw k) u v↔Ed k u v\/∃ w,Ed k u w/\Ed k w v:=by
 unfold Ed Vw;rw[Zp,qdL h g]
def Path(k:Kd)(n:Nat)(u v:Int):Prop:=∃ f:Nat->Int,f 0=u/\f n=v/\∀ i,i<n->Ed k (f i) (f (i+1))
theorem Path.one{u v}(h:Ed k u v):Path k 1 u v:=⟨fun i=>if i=0 then u else v,rfl,rfl,fun i g=>by
 grind⟩
theorem Path.comp{n m u w v}(h:Path k n u w)(o:Path k m w v):Path k (n+m) u v:=by
 obtain⟨f,f0,fn,hf⟩:=h;obtain⟨g,p,r,hg⟩:=o;refine⟨fun i=>if i<n then f i else g (i-n),?_,?_,fun i t=>?_⟩
 .grind
 .grind
 .by_cases j:i+1<n
  .simp only[if_pos j,if_pos (show i<n by omega)];grind
  .by_cases l:i<n
   .have e:i+1=n:=by omega
    simp only[if_neg j,if_pos l]
    grind
   .simp only[if_neg j,if_neg l,show i+1-n=(i-n)+1 by omega]
    grind
theorem cY(h:okKd ns k)(I:k.ar=2)(g:ns<=4):∀ N n u v,n<=N->1<=n->Path k n u v->∃ m,1<=m/\m<=4/\Path k m u v
 | 0,n,u,v,J,P,_=>zOm
 | N+1,n,u,v,J,P,hp=>by
  by_cases h4:n<=4
  .grind
  obtain⟨f,f0,fn,hf⟩:=hp;have R:∀ i,i<5->0<=f i/\f i<4:=fun i t=>by
   grind [Wk]
  obtain⟨i,j,T,hj,e⟩:∃ i j,i<j/\j<5/\f i=f j:=by
   apply Classical.byContradiction;intro l;have o:((qs 5).map f).Nodup:=List.pairwise_map.2 (List.pairwise_lt_range.imp_of_mem fun {a b} ha U p e=>l ⟨a,b,p,yh.1 U,e⟩);have:=List.Nodup.length_le_of_subset o (l₂:=[0,1,2,3]) fun x hx=>by
    obtain⟨i,t,rfl⟩:=qk.1 hx;have:=R i (yh.1 t);simp;omega
   simp at this
  refine cY h I g N (n-(j-i)) u v zOm zOm ⟨fun x=>if x<i then f x else f (x+(j-i)),?_,?_,fun x hx=>?_⟩
  .grind
  .simp only[if_neg (show ¬n-(j-i)<i by omega),show n-(j-i)+(j-i)=n by omega,fn]
  .by_cases r:x+1<i
   .simp only[if_pos r,if_pos (show x<i by omega)];grind
   .by_cases C:x<i
    .have e1:x+1=i:=by omega
     simp only[if_neg r,if_pos C]
     grind
    .simp only[if_neg r,if_neg C,show x+1+(j-i)=(x+(j-i))+1 by omega]
     exact hf _ zOm
theorem Vx(h:okKd ns k)(g:k.ar=2):∀ i u v,Ed (itK i k) u v->∃ n,1<=n/\Path k n u v
 | 0,u,v,j=>⟨1,zOm,.one j⟩
 |i+1,u,v,j=>by
  rcases (kJ (okIt h g i).1 (okIt h g i).2).1 j with j|⟨w,l,o⟩
  .exact Vx h g i u v j
  .obtain ⟨n,r,p⟩:=Vx h g i u w l
   obtain⟨m,t,q⟩:=Vx h g i w v o;exact⟨n+m,zOm,p.comp q⟩
theorem Jd(i):Sub (itK i k) (itK (i+1) k):=K3 _ _
theorem qqU(h:okKd ns k)(g:k.ar=2){m u v}(o:1<=m)(p:m<=4)(hp:Path k m u v):Ed (itK 4 k) u v:=by
 obtain⟨f,rfl,rfl,hf⟩:=hp;have up:∀{u v},Ed (itK 2 k) u v->Ed (itK 4 k) u v:=fun i=>(Jd 3).2 _ ((Jd 2).2 _ i)
 have s1:∀{u w v},Ed (itK 0 k) u w->Ed (itK 0 k) w v->Ed (itK 1 k) u v:=fun a b=>(kJ (okIt h g 0).1 (okIt h g 0).2).2 (.inr ⟨_,a,b⟩)
 have j:∀{u w v},Ed (itK 1 k) u w->Ed (itK 1 k) w v->Ed (itK 2 k) u v:=fun a b=>(kJ (okIt h g 1).1 (okIt h g 1).2).2 (.inr ⟨_,a,b⟩)
 have l:∀{u v},Ed (itK 0 k) u v->Ed (itK 1 k) u v:=fun i=>(Jd 0).2 _ i
 refine up ?_;rcases (show m=1\/m=2\/m=3\/m=4 by omega) with rfl|rfl|rfl|rfl
 .exact (Jd 1).2 _ (l (hf 0 zOm))
 .exact (Jd 1).2 _ (s1 (hf 0 zOm) (hf 1 zOm))
 .exact j (s1 (hf 0 zOm) (hf 1 zOm)) (l (hf 2 zOm))
 .exact j (s1 (hf 0 zOm) (hf 1 zOm)) (s1 (hf 2 zOm) (hf 3 zOm))
theorem qqV(h:okKd ns k)(g:k.ar=2)(i:ns<=4):Wc (itK 4 k):=fun t l=>by
 have ok:=okIt h g 4;have j:=J1 ok.1 ok.1 (by rw[ok.2];omega) (by rw[ok.2];omega);obtain⟨u,v,rfl,_,_⟩:=Wk j (by grind [zQ]) l;obtain⟨w,o,r⟩:=(qdL ok.1 ok.2).1 l;obtain⟨n,C,p⟩:=Vx h g 4 u w o;obtain⟨m,I,q⟩:=Vx h g 4 w v r;obtain⟨c,c1,c4,J⟩:=cY h g i (n+m) (n+m) u v (qo _) zOm (p.comp q)
 grind [qqU]
theorem Vy{S}(g:Wc S){k}(h:Sub k S):∀ i,Sub (itK i k) S
 | 0=>h
 |i+1=>⟨(Vy g h i).1,fun t j=>by
  rcases Zp.1 j with j|j
  .exact (Vy g h i).2 t j
  .exact g t ((Wb (Vy g h i) (Vy g h i)).2 t j)⟩
theorem qdM:∀ i,Sub k (itK i k)
 | 0 => .refl k
 |i+1=>(qdM i).trans (Jd i)
theorem qqW(h:okKd ns k)(l:k.ar=2)(g:ns<=4):eRS (qr (itK 4 k))=eRS (qr (kClo k)):=by
 have o:Sub (kClo k) (itK 4 k):=K5 (qqV h l g) 70 0 k (qdM 4);have i:Sub (itK 4 k) (kClo k):=Vy (K6 g 70 0 k h l zOm (.inl rfl)) (K4 70 0 k) 4;refine Qo i.1 fun j p=>?_
 rw[vA,yW,yW,i.1];exact⟨fun x=>⟨x.1,i.2 _ x.2⟩,fun x=>⟨x.1,o.2 _ x.2⟩⟩
end
end QG
namespace QH
open YF Y9 Y2 Y3 P1 P2 PB QD QE QF QG
theorem Us{ns a}(h:okKd ns a)(I:a.ar=2)(g:ns<=4):qg qc 198 [eRS (qr a)] (eRS (qr (kClo a))):=by
 refine qSQ call198 func198 rfl { mt:=[1] } ?_;rw[<-qqW h I g];simp[go_sem];refine⟨ze _,?_⟩;refine aA 4 (fun i U=>U.tm 1 = .ptr 0 0/\U.tm 2 = .ptr 1 0/\U.tm 3=aI i/\U.mu=[.arr (cRS (qr (itK i a))),.arr (aI 0 :: hB fun _=>false)]) ?_ ?_
 .exact ⟨zSi,zSi,zSi,by simp[go_sem];exact⟨⟨rfl,rfl⟩,rfl⟩⟩
 rintro i U hi ⟨l,o,p,J⟩;by_cases r:i<4
 .have j:(i:Int)<4:=by omega
  have P:=zWk i;obtain⟨ok,o2⟩:=okIt h I i;have R:qg qc 195 [eRS (qr (itK i a)),eRS (qr (itK i a))] (eRS (qr (zQ (itK i a) (itK i a)))):=by
   rw[<-qdK ok ok g zOm];exact we _ _ (by show 0<=(itK i a).ar/\(itK i a).ar<=1000;omega) (by show 1<=(itK i a).ar/\(itK i a).ar<=1000;omega)
  have T:qg qc 193 [eRS (qr (itK i a)),eRS (qr (zQ (itK i a) (itK i a)))] (eRS (qr (itK (i+1) a))):=by
   have:=vq (qr (itK i a)) (qr (zQ (itK i a) (itK i a)));rw[Vv (by simp only[zQ];omega)]at this;exact this
  generalize t:qr (itK (i+1) a)=s' at *
  generalize qr (zQ (itK i a) (itK i a))=q at *
  generalize qr (itK i a)=s at *
  simp[go_sem,p,J,j];refine cL zKr ?_;simp[go_sem,l,qu,tk];refine fR R (.zk (yK _) (.zk (yK _) .nil)) ?_;refine pL T (.zk (yK _) (.zk (yK _) .nil)) ?_;simp[go_sem,l,qu,pc];rw[if_pos (ze _)];simp[go_sem,p,P];exact⟨r,aC ⟨zS1 l,zS1 o,zSi,zS1 t⟩⟩
 .have C:i=4:=by omega
  subst C;generalize qr (itK 4 a)=s at *
  simp[go_sem,l,o,p,J,qu,tk,pc];rw[if_pos (ze _)];simp[go_sem,o,qu,tk];exact .hf _ (yK s)
theorem qqX(i k)(g:k=1\/k=2):eRS (qr (kSum (zD i k) (kOf (qW k (i:Int)))))=eRS (qr (zD (i+1) k)):=by
 refine Qo rfl fun j l=>?_
 rw[vA,yW,yW];show j<szA (k:Int)/\pad (dig (k:Int) j)∈(kSum (zD i k) (kOf (qW k (i:Int)))).ts↔j<szA (k:Int)/\pad (dig (k:Int) j)∈(qs (i+1)).map fun (x:Nat)=>pad (qW k (x:Int))
 rw[Zp,List.range_succ,zh,qM];rfl
theorem qqY(k):hB (qr (zD 0 k)).2=hB fun _=>false:=uS fun j _=>decide_eq_false fun h=>absurd h.2 qI
theorem allU(ts)(h:okTS ts)(k:Nat)(R:k=1\/k=2):qg qc 192 [eTS ts,aI k] (eRS (qr (zD ts.sS.length k))):=by
 refine qSV call192 func192 rfl ?_;have a1:=h.ns;have hz:=qqY k;simp[go_sem];refine aA ts.sS.length (fun i U=>U.tm 1=aI k/\U.tm 2 = .ip (cTS ts)/\U.tm 4 = .ptr 0 0/\U.tm 5 = .ptr 1 0/\U.tm 6=aI i/\U.mu=[.arr (aI 0 :: hB fun _=>false),.arr (cRS (qr (zD i k)))]) ?_ ?_
 .exact ⟨zSi,zSi,zSi,zSi,zSi,by
   have e:cRS (qr (zD 0 k))=aI k :: hB fun _=>false:=by simp only[cRS,hz];rfl
   rw[e];simp[go_sem];first|rfl|exact⟨rfl,rfl⟩⟩
 rintro i U hi ⟨C,r,I,j,o,J⟩;by_cases g:i<ts.sS.length
 .have T:=zWk i
  have c1:∀ l:List Int,l=qW k (i:Int)->qg qc 155 [lI l] (eRS (qr (kOf l))):=fun l p=>by
   have a0:l.length=k:=by rw[p,List.length_replicate]
   have:=oneU l zOm;rw[kC]at this;rw[<-QF.kI (l:=l) zOm (fun x hx=>by rw[p]at hx;rw[List.eq_of_mem_replicate hx];omega)];exact this
  have cu:∀ l:List Int,l=qW k (i:Int)->qg qc 193 [eRS (qr (zD i k)),eRS (qr (kOf l))] (eRS (qr (zD (i+1) k))):=fun l p=>by
   have:=vq (qr (zD i k)) (qr (kOf l));rw[Vv (by show (k:Int)=l.length;rw[p,List.length_replicate]),p,qqX i k R]at this;rw[p];exact this
  generalize t:qr (zD (i+1) k)=s' at *
  generalize qr (zD i k)=s at *
  rcases R with rfl|rfl
  .have d1:=c1 [(i:Int)] rfl
   have d2:=cu [(i:Int)] rfl;generalize qr (kOf [(i:Int)])=q at *
   simp[go_sem,C,r,o,J,g];refine cL zKr ?_;simp[go_sem,j,o,qu,tk];refine fR d1 (.cons (QD.wk1 _) .nil) ?_;refine pL d2 (.zk (yK _) (.zk (yK _) .nil)) ?_;simp[go_sem,j,qu,pc];rw[if_pos (ze _)];simp[go_sem,o,T];exact⟨g,aC ⟨zS1 C,zS1 r,zS1 I,zS1 j,zSi,zS1 t⟩⟩
  .have d1:=c1 [(i:Int),(i:Int)] rfl
   have d2:=cu [(i:Int),(i:Int)] rfl;generalize qr (kOf [(i:Int),(i:Int)])=q at *
   simp[go_sem,C,r,o,J,g];refine cL zKr ?_;simp[go_sem,j,o,qu,tk];refine fR d1 (.cons (QD.wk2 _ _) .nil) ?_;refine pL d2 (.zk (yK _) (.zk (yK _) .nil)) ?_;simp[go_sem,j,qu,pc];rw[if_pos (ze _)];simp[go_sem,o,T];exact⟨g,aC ⟨zS1 C,zS1 r,zS1 I,zS1 j,zSi,zS1 t⟩⟩
 .have P:i=ts.sS.length:=by omega
  subst P;generalize qr (zD ts.sS.length k)=s at *
  simp[go_sem,r,I,j,o,J,qu,tk,pc];rw[if_pos (ze _)];simp[go_sem,I,qu,tk];exact .hf _ (yK s)
end QH
namespace QI
open YF Y9 Y10 Y1 Y2 P1 P2
theorem qqZ{c nm k}(l:k<c.calls)(hp)(h:c.ts.sT[k].name=nm)(i:∀(j) (g),j<k->c.ts.sT[j].name≠nm):zt c nm=some k:=by
 unfold zt;rw[List.findIdx?_eq_some_iff_getElem];refine⟨zSo,zP1 h,fun j g=>?_⟩;simp[i j zOm g]
theorem qq0{c nm}(i:∀(j) (g),j<c.calls->c.ts.sT[j].name≠nm):zt c nm=none:=by
 unfold zt;rw[List.findIdx?_eq_none_iff];intro p hp;obtain⟨j,g,e⟩:=List.mem_iff_getElem.1 hp;simp at g;rw[List.getElem_take]at e;rw[<-e];exact decide_eq_false (i j zOm zOm)
abbrev idxO:Option Nat->Int
 |some i=>i
 |none => -1
theorem Vz(c)(P:okCk c)(nm):qg qc 102 [eTS c.ts,aI c.calls,aS nm] (aI (idxO (zt c nm))):=by
 refine qSV call102 func102 rfl ?_;have R:=P.calls;have T:=P.ts.np;simp[go_sem];refine aA c.calls (fun k U=>U.tm 1=aI c.calls/\U.tm 2=aS nm/\U.tm 3 = .ip (cTS c.ts)/\U.tm 7=aI k/\∀(j:Nat)(p:j<c.ts.sT.length),j<k->c.ts.sT[j].name≠nm) ?_ ?_
 .exact ⟨zSi,zSi,zSi,zSi,fun j p h=>zOm⟩
 rintro k U hk ⟨l,r,t,C,I⟩;by_cases g:k<c.calls
 .have w1:=zWk k
  have i:k<c.ts.sT.length:=zOm;by_cases o:c.ts.sT[k].name=nm
  .rw [qqZ g i o I]
   simp[go_sem,l,r,t,C,g,i,o];exact .zsc _
  .simp [go_sem,l,r,t,C,g,i,jM o,w1]
   refine aC ⟨zS1 l,zS1 r,zS1 t,zSi,fun j p a0=>?_⟩;by_cases he:j=k
   .subst he;exact o
   .exact I j p zOm
 .have J:k=c.calls:=by omega
  subst J;rw[qq0 I];simp[go_sem,l,C];exact .zsc _
theorem Je(op):qg qc 148 [aI op] (aB (yx op)):=by
 refine qSV call148 func148 rfl ?_;by_cases g:op=5
 .rw [show yx op=true by simp[yx,g]]
  simp[go_sem,g];exact .zsc _
 by_cases i:48<=op
 .by_cases j:op<=51
  .rw [show yx op=true by unfold yx;rcases (show op=48\/op=49\/op=50\/op=51 by omega) with h|h|h|h<;>simp[h]]
   simp[go_sem,g,i,j];exact .zsc _
  .rw [show yx op=false by simp[yx,g,show ¬op=48 by omega,show ¬op=49 by omega,show ¬op=50 by omega,show ¬op=51 by omega]]
   simp[go_sem,g,i,j];exact .zsc _
 .rw [show yx op=false by simp[yx,g,show ¬op=48 by omega,show ¬op=49 by omega,show ¬op=50 by omega,show ¬op=51 by omega]]
  simp[go_sem,g,i];exact .zsc _
abbrev rBo(b:Bool):List AV:=[aB b]
abbrev lBo(l:List Bool):AV := .lst false (l.map rBo)
theorem VA(l):HF (lBo l):=HF.lst fun r i c g=>by
 obtain⟨b,_,rfl⟩:=qk.1 i;rw[qY]at g;subst g;exact HF.sc _
def tpB(c:Ck)(nm:tC):Bool:=match zt c nm with|some p=>c.timed.getD p false|none=>false
theorem Jf(c)(l:okCk c)(nm):qg qc 149 [eTS c.ts,lBo c.timed,aI c.calls,aS nm] (aB (tpB c nm)):=by
 generalize i:tpB c nm=r;unfold tpB at i;refine qSU call149 func149 rfl ?_;refine pL (Vz c l nm) (.zk (zq _) (.zs (.zs .nil))) ?_;cases j:zt c nm with
 |none =>
  rw[j]at i;subst i;simp[go_sem,idxO];exact .zsc _
 |some p =>
  rw[j]at i;by_cases hp:p<c.timed.length
  .have g:r=c.timed[p]:=by rw[<-i];simp[List.getD,hp]
   subst g;simp[go_sem,idxO,hp];exact .zsc _
  .have g:r=false:=by rw[<-i];simp[List.getD,hp]
   subst g;simp[go_sem,idxO,hp];exact .zsc _
theorem qdN(c)(hc:okCk c)(hl:c.timed.length=c.calls):∀ m n,szN n<=m->Small n->qg qc 154 [eTS c.ts,lBo c.timed,eNd n] (aB (yC c n))
 | 0,n,hm,_=>by obtain⟨op,nm,i,ks,p⟩:=n;simp[szN]at hm
 |m+1,n,hm,hs=>by
  have ih:∀ k,k∈n.sD->qg qc 154 [eTS c.ts,lBo c.timed,eNd k] (aB (yC c k)):=fun k J =>
   qdN c hc hl m k (zW1 (yn J)) (hs.kid J)
  have a0:=hs.len;have P:zU c n.op n.name=(yx n.op||(decide (n.op=47)&&tpB c n.name)):=rfl;rw[Uy,P];generalize hR:n.sD.any (yC c)=R;have ct:=Je n.op;have cp:=Jf c hc n.name;generalize yx n.op=T at *
  generalize tpB c n.name=B at *
  refine qSU call154 func154 rfl ?_;refine pL ct (.zs .nil) ?_;cases T with
  |true =>
   simp[go_sem];exact .zsc _
  |false =>
  rw[Bool.false_or];by_cases h47:n.op=47
  .rw [decide_eq_true h47,Bool.true_and]
   simp[go_sem,h47,hl];refine pL cp (.zk (zq _) (.zk (VA _) (.zs (.zs .nil)))) ?_;cases B with
   |true =>
    simp[go_sem];exact .zsc _
   |false =>
   rw[Bool.false_or];simp[go_sem];refine aA n.sD.length (fun k U=>U.tm 1=lBo c.timed/\U.tm 3 = .ip (cTS c.ts)/\U.tm 5 = .ip (cNd n)/\U.tm 7=aI k/\(n.sD.drop k).any (yC c)=R) ?_ ?_
   .exact ⟨zSi,zSi,zSi,zSi,zUs hR⟩
   rintro k U J ⟨t,C,l,o,j⟩;by_cases r:k=n.sD.length
   .subst r
    rw[yA]at j;have j:R=false:=by rw[<-j];rfl
    subst j;simp[go_sem,l,o];exact .zsc _
   have g:k<n.sD.length:=zOm;have w1:=zWk k;rw[zy g,List.any_cons]at j;have hi:=ih n.sD[k] (qq g);simp[go_sem,l,o,g];refine cL zKr ?_;simp[go_sem,t,C,l,o,g];refine pL hi (.zk (zq _) (.zk (VA _) (.zk (qK _) .nil))) ?_;cases I:yC c n.sD[k] with
   |true =>
    rw[I,Bool.true_or]at j;subst j;simp[go_sem];exact .zsc _
   |false =>
    rw[I,Bool.false_or]at j;simp[go_sem,o,g,w1];exact aC ⟨zS1 t,zS1 C,zS1 l,zSi,j⟩
  .rw [decide_eq_false h47,Bool.false_and,Bool.false_or]
   simp[go_sem,h47];refine aA n.sD.length (fun k U=>U.tm 1=lBo c.timed/\U.tm 3 = .ip (cTS c.ts)/\U.tm 5 = .ip (cNd n)/\U.tm 7=aI k/\(n.sD.drop k).any (yC c)=R) ?_ ?_
   .exact ⟨zSi,zSi,zSi,zSi,zUs hR⟩
   rintro k U J ⟨t,C,l,o,j⟩;by_cases r:k=n.sD.length
   .subst r
    rw[yA]at j;have j:R=false:=by rw[<-j];rfl
    subst j;simp[go_sem,l,o];exact .zsc _
   have g:k<n.sD.length:=zOm;have w1:=zWk k;rw[zy g,List.any_cons]at j;have hi:=ih n.sD[k] (qq g);simp[go_sem,l,o,g];refine cL zKr ?_;simp[go_sem,t,C,l,o,g];refine pL hi (.zk (zq _) (.zk (VA _) (.zk (qK _) .nil))) ?_;cases I:yC c n.sD[k] with
   |true =>
    rw[I,Bool.true_or]at j;subst j;simp[go_sem];exact .zsc _
   |false =>
    rw[I,Bool.false_or]at j;simp[go_sem,o,g,w1];exact aC ⟨zS1 t,zS1 C,zS1 l,zSi,j⟩
theorem kK(l:List Bool):zi 1 (l.map rBo):=fun r g=>by
 obtain⟨b,_,rfl⟩:=qk.1 g;exact⟨rfl,rfl⟩
theorem appBo{mu lo s xs b K}(j:OwnF lo mu 1 s (xs.map rBo))(p:xs.length<=100000)(l:∀ av mu',OwnF lo mu' 1 av ((xs++[b]).map rBo)->(∀ i,i<lo->mu'[i]?=mu[i]?)->K av mu') :
  qw qc mu #[128,128] s (.lst true [[aB b]]) K:=by
 refine qw.ownF (lo:=lo) (e:=4) (sz:=1) (bt:=1) (zv:=aB false) (xs:=xs.map rBo) (ys:=[rBo b]) zSi zSi zSi rfl rfl zOm zOm j (by simp[qC]) (kK xs) (kK [b]) zSo ?_;intro av mu' h o;exact l av mu' (by rw[zh];exact h) o
theorem rdBo{lo mu av l}(j:OwnF lo mu 1 av (l.map rBo)):Rd mu av (lBo l):=
 Own.rd (sz:=1) j.1 (kK l).ok fun r o c i=>by
  obtain⟨b,_,rfl⟩:=qk.1 o;rw[qY]at i;subst i;exact HF.sc _
theorem qq1(ts)(h:okTS ts)(hp:∀ p,p∈ts.sT->WfN p.body):qg qc 105 [eTS ts] (lBo (tmsL ts ts.sT.length)):=by
 refine qSV call105 func105 rfl ?_;have T:=h.np;simp[go_sem];refine aA ts.sT.length (fun k U=>U.tm 1 = .ip (cTS ts)/\U.tm 4=aI k/\OwnF 0 U.mu 1 (U.tm 3) ((tmsL ts k).map rBo)) ?_ ?_
 .exact ⟨zSi,zSi,by simp[go_sem,tmsL];exact OwnF.nil (Nat.zero_le _)⟩
 rintro k U hk ⟨j,l,o⟩;by_cases g:k<ts.sT.length
 .have w1:=zWk k
  generalize r:U.tm 3=t at *
  have C:=rdBo o;have ht:=qdN (mkCk ts k) (v6 h zOm) (ZR ts k zOm) (szN ts.sT[k].body) ts.sT[k].body (qo _) (hp _ (qq g)).small;have R:=ZR ts k zOm;have i:tmsL ts (k+1)=tmsL ts k++[yC (mkCk ts k) ts.sT[k].body]:=by
   show tmsL ts k++(match ts.sT[k]? with|some p=>[yC ⟨ts,k,tmsL ts k⟩ p.body] | none=>[])=_;rw[qz g];rfl
  simp[go_sem,j,l,g];refine cL zKr ?_;simp[go_sem,j,l,r,g];refine fY (args':=[eTS ts,lBo (tmsL ts k),eNd ts.sT[k].body]) ht ⟨.hf _ (zq ts),C,.hf _ (qK _),trivial⟩ (FL.sc _) ?_;simp[go_sem];refine appBo o zOm fun a0 m' J _=>?_
  simp[go_sem,l,g,w1];exact aC ⟨zS1 j,zSi,by rw[i];simpa[go_sem] using J⟩
 .have P:k=ts.sT.length:=by omega
  subst P;generalize r:U.tm 3=t at *
  simp[go_sem,j,l,r];exact rdBo o
end QI
namespace QJ
open YF Y10 Y1 P1 QD QE QF
abbrev Vr:=tC×RS
abbrev cVr(v:Vr):List AV:=aS v.1 :: cRS v.2
abbrev lVr(l:List Vr):AV := .lst false (l.map cVr)
theorem qdO(v):∀ c,c∈cVr v->HF c:=fun c g=>by
 rcases qv.1 g with rfl|g
 .exact HF.sc _
 .exact ((setC v.2).sc c g).2
theorem qq2(l):HF (lVr l):=HF.lst fun r g c i=>by
 obtain⟨v,_,rfl⟩:=qk.1 g;exact qdO v c i
theorem kL(v):∀ c,c∈cVr v->c.one=true:=fun c g=>by
 rcases qv.1 g with rfl|g
 .rfl
 .exact ((setC v.2).sc c g).1
theorem kM(l:List Vr):zi 66 (l.map cVr):=fun r g=>by
 obtain⟨v,_,rfl⟩:=qk.1 g;exact⟨by simp[hB],zC.2 (kL v)⟩
theorem kN{mu lo s x}{xs ys:List Vr}{K}(j:OwnF lo mu 66 s (xs.map cVr))(hx:qC mu x=some (ys.map cVr))(p:xs.length+ys.length<=100000)(l:∀ av mu',OwnF lo mu' 66 av ((xs++ys).map cVr)->(∀ i,i<lo->mu'[i]?=mu[i]?)->K av mu') :
  qw qc mu #[187,187] s x K:=by
 refine qw.ownF (lo:=lo) (e:=244) (sz:=66) (bt:=88) (zv := .agg (aS ⟨#[]⟩ :: aI 0 :: zs)) (xs:=xs.map cVr) (ys:=ys.map cVr) zSi zSi (by simp[go_sem];rfl) rfl rfl zOm zOm j hx (kM xs) (kM ys) zSo ?_;intro av mu' h o;exact l av mu' (by rw[zh];exact h) o
theorem rdVr{lo mu av l}(i:OwnF lo mu 66 av (l.map cVr)):Rd mu av (lVr l):=
 Own.rd (sz:=66) i.1 (kM l).ok fun r j c o=>by
  obtain⟨v,_,rfl⟩:=qk.1 j;exact qdO v c o
theorem pcV(n q):putCells (aS n :: aI 0 :: zs) 1 (aI q.1 :: hB q.2)=cVr (n,q):=by
 have g:zs.length=64:=rfl;rw[jb _ _ _ (by simp[qu,g])];simp[qu,g,List.drop_of_length_le]
def envV(env:List (tC×Int)):List Vr:=env.map fun p=>(p.1,qr (kOf [p.2]))
theorem envU(env)(hl:env.length<=1000)(hr:∀ p,p∈env->0<=p.2/\p.2<4):qg qc 106 [lPm env] (lVr (envV env)):=by
 refine qSU call106 func106 rfl ?_;refine aA env.length (fun k U=>U.tm 0=lPm env/\U.tm 4=aI k/\OwnF 0 U.mu 66 (U.tm 3) ((envV (env.take k)).map cVr)) ?_ ?_
 .exact ⟨zSi,zSi,by simp[go_sem,envV];exact OwnF.nil (Nat.zero_le _)⟩
 rintro k U hk ⟨j,o,I⟩;by_cases g:k<env.length
 .have w1:=zWk k
  generalize J:U.tm 3=t at *
  have hp:=hr _ (qq g);have c1:qg qc 155 [lI [env[k].2]] (eRS (qr (kOf [env[k].2]))):=by
   have:=oneU [env[k].2] zSp;rw[kC]at this;rw[<-QF.kI (l:=[env[k].2]) zSp (fun x hx=>by rw[qY]at hx;subst hx;exact hp)];exact this
  have i:envV (env.take (k+1))=envV (env.take k)++[(env[k].1,qr (kOf [env[k].2]))]:=by
   unfold envV;rw[List.take_succ_eq_append_getElem g,zh];rfl
  have a2:(envV (env.take k)).length=k:=by simp[envV];omega
  generalize qr (kOf [env[k].2])=q at *
  simp[go_sem,j,o,g];refine cL zKr ?_;simp[go_sem,j,o,J,g];refine fR c1 (.cons (QD.wk1 _) .nil) ?_;rw[if_pos ⟨qu _,ze _⟩];generalize hC:putCells _ 1 _=C;have P:C=cVr (env[k].1,q):=by rw[<-hC];exact pcV _ _
  subst P;clear hC;have R:(cVr (env[k].1,q)).length=66:=by simp[qu]
  have T:=kL (env[k].1,q);generalize hV:cVr (env[k].1,q)=V at *
  simp[go_sem,R];rw[if_pos T];simp[go_sem];refine kN (ys:=[(env[k].1,q)]) I (by simp[qC,hV]) zSo fun a3 m' a0 _=>?_
  simp[go_sem,o,g,w1];exact aC ⟨zS1 j,zSi,by rw[i];simpa[go_sem] using a0⟩
 .have a1:k=env.length:=by omega
  subst a1;rw[qR]at I;generalize J:U.tm 3=t at *
  simp[go_sem,j,o,J];exact rdVr I
end QJ
namespace QK
open Y9 Y2 P1 QD QE QF
def fin(c:List AV)(l:List Kd):List AV:=match l.getLast? with|some k=>cRS (qr k)|none=>c
theorem VB(c l m):fin c (l++m)=fin (fin c l) m:=by
 unfold fin;rw[List.getLast?_append];cases m.getLast?<;>rfl
theorem Wl(c k):fin c [k]=cRS (qr k):=rfl
theorem oneK{l}(h:1<=l.length/\l.length<=3)(hx:∀ x,x∈l->0<=x/\x<4):oneC l=cRS (qr (kOf l)):=by
 rw[kC];exact AV.agg.inj (QF.kI h hx)
theorem qdP(nm):∀ l c k,(∀ f,f∈l->(1<=f.sS.length/\f.sS.length<=3)/\∀ x,x∈f.sS->0<=x/\x<4)->nmF nm l (c,k)=(fin c (yN l nm),k+(yN l nm).length)
 | [],c,k,_=>rfl
 |f :: l,c,k,h=>by
  have hf:=h f (zj ..);have j:=fun c k=>qdP nm l c k fun g hg=>h g (za _ hg)
  by_cases i:f.name=nm
  .have e:yN (f :: l) nm=[kOf f.sS]++yN l nm:=by simp[yN,i]
   rw[e,VB,Wl];simp only[nmF,stF,if_pos i];rw[j,oneK hf.1 hf.2];simp;omega
  .have e:yN (f :: l) nm=yN l nm:=by simp[yN,i]
   rw[e];simp only[nmF,stF,if_neg i];exact j c k
theorem st_eq(nm i)(C:i<4)(x c k):st3 nm i x (st2 nm i x (st1 nm i x (c,k)))=(fin c (ug i x nm),k+(ug i x nm).length):=by
 have j:=oneK (l:=[(i:Int)]) zSp (fun y g=>by simp at g;subst g;omega);have o:=oneK (l:=[(i:Int),(i:Int)]) zSp (fun y g=>by simp at g;rcases g with rfl|rfl<;>omega);have p:∀ c k,st1 nm i x (c,k)=(fin c (if x.1=nm then [kOf [(i:Int)]] else []),k+(if x.1=nm then [kOf [(i:Int)]] else []).length):=fun c k=>by
  unfold st1;split
  .rw [Wl,j];rfl
  .rfl
 have r:∀ c k,st2 nm i x (c,k)=(fin c (if x.2=true/\x.1++je=nm then [kOf [(i:Int)]] else []),k+(if x.2=true/\x.1++je=nm then [kOf [(i:Int)]] else []).length):=fun c k=>by
  unfold st2;split
  .rw [Wl,j];rfl
  .rfl
 have t:∀ c k,st3 nm i x (c,k)=(fin c (if x.2=true/\x.1++j0=nm then [kOf [(i:Int),(i:Int)]] else []),k+(if x.2=true/\x.1++j0=nm then [kOf [(i:Int),(i:Int)]] else []).length):=fun c k=>by
  unfold st3;split
  .rw [Wl,o];rfl
  .rfl
 unfold ug;rw[p,r,t,VB,VB,zb,zb];simp only[Nat.add_assoc]
theorem qdQ(nm):∀ l i c k,i+l.length<=4->nmS nm i l (c,k)=(fin c (yO i l nm),k+(yO i l nm).length)
 | [],i,c,k,_=>rfl
 |x :: l,i,c,k,h=>by
  simp only[zK]at h;have g:=fun c k=>qdQ nm l (i+1) c k zOm
  simp only[nmS,yO];rw[st_eq nm i zOm,g,VB,zb,Nat.add_assoc]
theorem kO{ts}(h:okTS ts)(nm):named ts nm=(fin (aI 0 :: zs) (means ts nm),(means ts nm).length):=by
 unfold named means;rw[qdP nm ts.sA _ _ fun f hf=>?_,qdQ nm ts.sS _ _ _ (zW1 h.ns),VB,zb,yb];have:=h.fl f hf;have g:=h.ns;exact⟨zOm,fun x hx=>zW1 (this.2.2 x hx)⟩
end QK
namespace QL
open YF Y9 Y1 Y2 P1 QD QE QF QI QJ QK
abbrev cVw(c:Ck)(inn:Bool):List AV:=[lSo c.ts.sS,lFl c.ts.sA,lPd c.ts.sT,lFa c.ts.sP,lBo c.timed,aI c.calls,aB inn]
abbrev eVw(c:Ck)(inn:Bool):AV := .agg (cVw c inn)
def envS(s:Scp):List Vr:=s.reverse.map fun v=>(v.1,qr v.2)
theorem Wn(s):(envS s).length=s.length:=by simp[envS]
theorem qdR(env):envV env=envS (zS env):=by
 have h:∀(l:List (tC×Int))(a:Scp),l.foldl (fun s p=>(p.1,kOf [p.2]) :: s) a=(l.map fun p=>(p.1,kOf [p.2])).reverse++a:=by
  intro l;induction l with
  |nil=>intro a;rfl
  |cons p l g=>intro a;rw[List.foldl_cons,g];simp
 unfold envV envS zS;rw[h,List.append_nil,List.reverse_reverse,List.map_map];rfl
theorem qq3(s d h g):(envS s)[s.length-1-d]=(s[d].1,qr s[d].2):=by
 have e:s.length-1-(s.length-1-d)=d:=zOm;simp[envS,List.getElem_reverse,e]
abbrev zR:RS:=(0,fun _=>false)
abbrev eDg(d:Dg):AV := .agg [aI d.1,aI d.2]
def endR(z:RS):Res->AV
 | .error e => .tup [eRS z,eDg e]
 | .ok (some k) => .tup [eRS (qr k),eDg (0,0)]
 | .ok none => .tup [eRS zR,eDg (0,0)]
theorem vu(s d):HF (.tup [eRS s,eDg d]):=HF.tup fun x hx=>by
 rcases qv.1 hx with rfl|hx
 .exact yK s
 .rw [qY]at hx;subst hx
  exact HF.agg fun c g=>by
   rcases qv.1 g with rfl|g
   .exact HF.sc _
   .rw [qY]at g;subst g;exact HF.sc _
theorem cU{ts}(h:okTS ts):okNm ts:=⟨h.sl,zW1 h.ns,zW1 h.nf,fun f hf=>zW1 (h.fl f hf)⟩
theorem Ke(c)(hc:okCk c)(inn s n)(hs:s.length<=100000):qg qc 150 [eVw c inn,lVr (envS s),eNd n] (endR zR (ju c s n.name n.pos)):=by
 generalize i:endR zR (ju c s n.name n.pos)=R;unfold ju at i;refine qSV call150 func150 rfl ?_;have a1:=Wn s;have w0:qp.wrap ((s.length:Int)-1)=(s.length:Int)-1:=zWr;simp[go_sem,a1,w0];refine aA s.length (fun d U=>U.tm 1=lVr (envS s)/\U.tm 3 = .ip (cVw c inn)/\U.tm 5 = .ip (cNd n)/\U.tm 6 = .ptr 0 0/\U.tm 7 = .ptr 1 0/\U.tm 8=aI ((s.length:Int)-1-d)/\U.mu=[.arr (aI 0 :: hB fun _=>false),.arr [aI 0,aI 0]]/\jq n.name (s.drop d)=jq n.name s) ?_ ?_
 .exact ⟨zSi,zSi,zSi,zSi,zSi,zSi,by simp[go_sem];first|rfl|exact⟨rfl,rfl⟩,rfl⟩
 rintro d U hd ⟨e1,e3,r,p,I,j,hm,t⟩;by_cases J:d<s.length
 .have T:s.length-1-d<(envS s).length:=by omega
  have g:=qq3 s d J T;obtain⟨e,he⟩:∃ e:Nat,e=s.length-1-d:=⟨_,rfl⟩;have a2:(s.length:Int)-1-d=(e:Int):=zOm;rw[a2]at j;rw[<-he]at T;have g:(envS s)[e]=(s[d].1,qr s[d].2):=by simp only[he];exact g
  have w1:qp.wrap ((e:Int)-1)=(s.length:Int)-1-((d+1:Nat):Int):=by rw[zWr];omega
  rw[zy J]at t;have h0:(0:Int)<=(e:Int):=zOm;by_cases hq:s[d].1=n.name
  .have hf:jq n.name s=s[d] :: s.drop (d+1):=by rw[<-t,jq,if_pos hq]
   rw[hf]at i;simp only[endR]at i;have i:R = .tup [eRS (qr s[d].2),eDg (0,0)]:=i.symm;subst i;simp[go_sem,j,hm];refine cL zKr ?_;simp[go_sem,e1,j,T,g,hq];generalize qr s[d].2=q at *
   simp[go_sem,e1,r,p,j,T,g,qu,tk,pc];rw[if_pos (ze _)];simp[go_sem,p,I,qu,tk];exact .hf _ (vu q (0,0))
  .rw [jq,if_neg hq]at t
   simp[go_sem,j,hm];refine cL zKr ?_;simp[go_sem,e1,r,j,T,g,jM hq,w1,qu];exact⟨zOm,aC ⟨zS1 e1,zS1 e3,zS1 r,zS1 p,zS1 I,zSi,zSi,t⟩⟩
 .have a3:d=s.length:=by omega
  subst a3;have j:U.tm 8=aI (-1):=by rw[j];congr 2;omega
  rw[yA]at t;rw[<-t]at i;simp only[jq]at i;have hN:=kB c.ts (cU hc.ts) n.name;have a0:=kA c.ts n.name;rw[kO hc.ts]at hN a0;simp[go_sem,e3,r,j,hm];refine pL hN (.zk (zq _) (.zs .nil)) ?_;have o:SetC (fin (aI 0 :: zs) (means c.ts n.name)):=a0;generalize a4:means c.ts n.name=ms at *
  match ms,a4 with
  | [],_ =>
   simp only[endR]at i;subst i;generalize fin (aI 0 :: zs) []=C at *
   simp[go_sem,o.len];rw[if_pos o.one];simp[go_sem];refine fD [0,1,2,3,4,5] [(0,0,[]),(1,0,[]),(2,0,[]),(3,0,[]),(4,1,[2]),(5,1,[])] zKr zKr zSi ?_;simp[go_sem,r,p,I,nq,qu];exact .hf _ (vu zR (_,n.pos))
  | [k],_ =>
   simp only[endR]at i;subst i;have e:fin (aI 0 :: zs) [k]=aI (qr k).1 :: hB (qr k).2:=rfl;rw[e]at o⊢;generalize qr k=q at *
   simp[go_sem,o.len];rw[if_pos (ze _)];generalize hP:putCells _ 0 (aI q.1 :: hB q.2)=P;have a5:P=aI q.1 :: hB q.2:=by rw[<-hP];exact pc (aI 0) _ (fun _=>false) _
   subst a5;clear hP;simp[go_sem,p,o.len,qu,tk,pc];rw[if_pos (ze _)];simp[go_sem,p,I,o.len,tk];exact .hf _ (vu q (0,0))
  |k1 :: k2 :: l,_ =>
   simp only[endR]at i;subst i;generalize fin (aI 0 :: zs) (k1 :: k2 :: l)=C at *
   simp[go_sem,o.len];rw[if_pos o.one];simp[go_sem];have a6:¬((l.length:Int)+1+1=0):=zOm;have a7:(1:Int)<(l.length:Int)+1+1:=zOm;simp[go_sem,a6,a7];refine fD [0,1,2,3,4,5] [(0,0,[]),(1,0,[]),(2,0,[]),(3,0,[]),(4,1,[2]),(5,1,[])] zKr zKr zSi ?_;simp[go_sem,r,p,I,nq,qu];exact .hf _ (vu zR (_,n.pos))
end QL
namespace QM
open Y1
theorem qq4(n):qg qc 103 [eNd n] (aB (decide (30<=n.op))):=by
 refine qSV call103 func103 rfl ?_;by_cases h:30<=n.op
 .simp [go_sem,h];exact .zsc _
 .simp [go_sem,h];exact .zsc _
end QM
namespace QN
open Y1 Y2 YF Y9 Y10 P1 P2 QD QE QF QH QL
def setO:Option Kd->RS
 |some k=>qr k
 |none=>zR
abbrev lRS(l:List RS):AV := .lst false (l.map cRS)
theorem qq5(v):∀ c,c∈cRS v->HF c:=fun c g=>((setC v).sc c g).2
theorem qq6(v):∀ c,c∈cRS v->c.one=true:=fun c g=>((setC v).sc c g).1
theorem kP(l:List RS):zi 65 (l.map cRS):=fun r g=>by
 obtain⟨v,_,rfl⟩:=qk.1 g
 grind [hB,zC,qq6]
theorem appRS{mu lo s x}{xs ys:List RS}{K}(j:OwnF lo mu 65 s (xs.map cRS))(hx:qC mu x=some (ys.map cRS))(l:xs.length+ys.length<=100000)(o:∀ av mu',OwnF lo mu' 65 av ((xs++ys).map cRS)->(∀ i,i<lo->mu'[i]?=mu[i]?)->K av mu') :
  qw qc mu #[238,238] s x K:=by
 refine qw.ownF (lo:=lo) (e:=181) (sz:=65) (bt:=72) (zv := .agg (aI 0 :: zs)) (xs:=xs.map cRS) (ys:=ys.map cRS) zSi zSi (by simp[go_sem];rfl) rfl rfl zOm zOm j hx (kP xs) (kP ys) zSo ?_
 grind
theorem rdRS{lo mu av l}(i:OwnF lo mu 65 av (l.map cRS)):Rd mu av (lRS l):=
 Own.rd (sz:=65) i.1 (kP l).ok fun r j c o=>by
  obtain⟨v,_,rfl⟩:=qk.1 j;exact qq5 v c o
theorem jQ(s b):HF (.tup [eRS s,aB b]):=HF.tup fun x hx=>by
 rcases qv.1 hx with rfl|hx
 .exact yK s
 grind [qY,HF.sc]
def ApE(op:Int):Res->RS->Bool->Prop
 | .ok k,S,b=>b=true/\(kd op=101->∃ q,k=some q/\S=qr q)
 | .error _,S,b=>b=false
theorem wkS1(a):WKs [eRS a] [eRS a] := .zk (yK _) .nil
theorem wkS2(a b):WKs [eRS a,eRS b] [eRS a,eRS b] := .zk (yK _) (.zk (yK _) .nil)
theorem wkTI(ts k):WKs [eTS ts,aI k] [eTS ts,aI k] := .zk (zq _) (.zs .nil)
theorem qdS(n):eRS (n,fun _=>false)=eRS (qr ⟨n,[]⟩):=Qo rfl fun j _=>(decide_eq_false fun h=>absurd h.2 qI).symm
def itS:Nat->RS->RS
 | 0,s=>s
 |i+1,s=>uniS (itS i s) (ZZ (itS i s) (itS i s))
theorem qdT(s):∀ i,(itS i s).1=s.1
 | 0=>rfl
 |i+1=>qdT s i
theorem qdU(g)(h:1<=g.1/\g.1<=3):qg qc 198 [eRS g] (eRS (itS 4 g)):=by
 refine qSQ call198 func198 rfl { mt:=[1] } ?_;simp[go_sem];refine⟨ze _,?_⟩;refine aA 4 (fun i U=>U.tm 1 = .ptr 0 0/\U.tm 2 = .ptr 1 0/\U.tm 3=aI i/\U.mu=[.arr (cRS (itS i g)),.arr (aI 0 :: hB fun _=>false)]) ?_ ?_
 .exact ⟨zSi,zSi,zSi,by simp[go_sem];exact⟨⟨rfl,rfl⟩,rfl⟩⟩
 rintro i U hi ⟨l,p,r,t⟩;by_cases J:i<4
 .have j:(i:Int)<4:=by omega
  have w1:=zWk i;have P:=qdT g i;have R:=we (itS i g) (itS i g) zOm zOm;have C:=vq (itS i g) (ZZ (itS i g) (itS i g));have I:uniS (itS i g) (ZZ (itS i g) (itS i g))=itS (i+1) g:=rfl;rw[I]at C;clear I;generalize T:itS (i+1) g=s' at *
  generalize ZZ (itS i g) (itS i g)=q at *
  generalize itS i g=s at *
  simp[go_sem,r,t,j];refine cL zKr ?_;simp[go_sem,l,qu,tk];refine fR R (.zk (yK _) (.zk (yK _) .nil)) ?_;refine pL C (.zk (yK _) (.zk (yK _) .nil)) ?_;simp[go_sem,l,qu,pc];rw[if_pos (ze _)];simp_all[go_sem,aC]
 .have o:i=4:=by omega
  subst o;generalize itS 4 g=s at *
  simp[go_sem,l,p,r,t,qu,tk,pc];rw[if_pos (ze _)];simp[go_sem,p,qu,tk];exact .hf _ (yK s)
def prC(ts:TS)(n:Nd)(l:List RS)(S:RS)(b:Bool):Prop:=qg qc 153 [eTS ts,eNd n,lRS l] (.tup [eRS S,aB b])
theorem ap2(ts n L)(h:n.op=2):prC ts n L (n.n,fun _=>false) true:=by
 unfold prC;refine qSV call153 func153 rfl ?_;simp[go_sem,h];exact .hf _ (jQ (n.n,fun _=>false) true)
theorem ap3(ts)(ok:okTS ts)(n L)(h:n.op=3):prC ts n L (qr (zD ts.sS.length 1)) true:=by
 unfold prC;refine qSV call153 func153 rfl ?_;have c1:=allU ts ok 1 zOm;generalize qr (zD ts.sS.length 1)=q at *
 simp[go_sem,h];refine pL c1 (wkTI ts 1) ?_;simp[go_sem,qu];rw[if_pos (ze _)];generalize i:putCells _ 0 (aI q.1 :: hB q.2)=P;have g:P=aI q.1 :: hB q.2:=by rw[<-i];exact pc (aI 0) _ (fun _=>false) _
 subst g;clear i;simp[go_sem,qu,tk];exact .hf _ (jQ q _)
theorem ap4(ts)(ok:okTS ts)(n L)(h:n.op=4):prC ts n L (qr (zD ts.sS.length 2)) true:=by
 unfold prC;refine qSV call153 func153 rfl ?_;have c1:=allU ts ok 2 zOm;generalize qr (zD ts.sS.length 2)=q at *
 simp[go_sem,h];refine pL c1 (wkTI ts 2) ?_;simp[go_sem,qu];rw[if_pos (ze _)];generalize i:putCells _ 0 (aI q.1 :: hB q.2)=P;have g:P=aI q.1 :: hB q.2:=by rw[<-i];exact pc (aI 0) _ (fun _=>false) _
 subst g;clear i;simp[go_sem,qu,tk];exact .hf _ (jQ q _)
theorem ap5(ts n q)(h:n.op=5):prC ts n [q] q true:=by
 unfold prC;refine qSV call153 func153 rfl ?_;simp[go_sem,h,qu,tk];rw[if_pos (ze _)];generalize i:putCells _ 0 (aI q.1 :: hB q.2)=P;have g:P=aI q.1 :: hB q.2:=by rw[<-i];exact pc (aI 0) _ (fun _=>false) _
 subst g;clear i;simp[go_sem,qu,tk];exact .hf _ (jQ q _)
theorem ap6(ts n q r S)(h:n.op=6)(c:qg qc 193 [eRS q,eRS r] (eRS S)):prC ts n [q,r] S (decide (q.1=r.1)):=by
 unfold prC;refine qSV call153 func153 rfl ?_;simp[go_sem,h];refine fD [0,1,2,3,4,5,7,8,9,10,11,12,13,14,15,17,6,16] [(0,0,[]),(1,0,[]),(2,0,[]),(3,0,[]),(4,0,[]),(5,0,[]),(7,0,[]),(8,0,[]),(9,0,[]),(10,0,[]),(11,0,[]),(12,0,[]),(13,0,[]),(14,0,[]),(15,0,[]),(17,0,[]),(6,1,[10,14]),(16,1,[10,14])] zKr zKr zSi ?_;simp[go_sem,qu,tk];refine pL c (wkS2 q r) ?_;simp[go_sem,qu];rw[if_pos (ze _)];generalize i:putCells _ 0 (aI S.1 :: hB S.2)=P;have g:P=aI S.1 :: hB S.2:=by rw[<-i];exact pc (aI 0) _ (fun _=>false) _
 subst g;clear i;simp[go_sem,qu,tk];exact .hf _ (jQ S _)
theorem ap14(ts n q r S)(h:n.op=14)(c:qg qc 193 [eRS q,eRS r] (eRS S)):prC ts n [q,r] S (decide (q.1=r.1)):=by
 unfold prC;refine qSV call153 func153 rfl ?_;simp[go_sem,h];refine fD [0,1,2,3,4,5,7,8,9,10,11,12,13,14,15,17,6,16] [(0,0,[]),(1,0,[]),(2,0,[]),(3,0,[]),(4,0,[]),(5,0,[]),(7,0,[]),(8,0,[]),(9,0,[]),(10,0,[]),(11,0,[]),(12,0,[]),(13,0,[]),(14,0,[]),(15,0,[]),(17,0,[]),(6,1,[10,14]),(16,1,[10,14])] zKr zKr zSi ?_;simp[go_sem,qu,tk];refine pL c (wkS2 q r) ?_;simp[go_sem,qu];rw[if_pos (ze _)];generalize i:putCells _ 0 (aI S.1 :: hB S.2)=P;have g:P=aI S.1 :: hB S.2:=by rw[<-i];exact pc (aI 0) _ (fun _=>false) _
 subst g;clear i;simp[go_sem,qu,tk];exact .hf _ (jQ S _)
theorem ap7(ts n q r S)(h:n.op=7)(c:qg qc 194 [eRS q,eRS r] (eRS S)):prC ts n [q,r] S (decide (q.1=r.1)):=by
 unfold prC;refine qSV call153 func153 rfl ?_;simp[go_sem,h];refine fD [0,1,2,3,4,5,7,8,9,10,11,12,13,14,15,17,6,16] [(0,0,[]),(1,0,[]),(2,0,[]),(3,0,[]),(4,0,[]),(5,0,[]),(7,0,[]),(8,0,[]),(9,0,[]),(10,0,[]),(11,0,[]),(12,0,[]),(13,0,[]),(14,0,[]),(15,0,[]),(17,0,[]),(6,1,[10,14]),(16,1,[10,14])] zKr zKr zSi ?_;simp[go_sem,qu,tk];refine pL c (wkS2 q r) ?_;simp[go_sem,qu];rw[if_pos (ze _)];generalize i:putCells _ 0 (aI S.1 :: hB S.2)=P;have g:P=aI S.1 :: hB S.2:=by rw[<-i];exact pc (aI 0) _ (fun _=>false) _
 subst g;clear i;simp[go_sem,qu,tk];exact .hf _ (jQ S _)
theorem ap8(ts n q r)(h:n.op=8):prC ts n [q,r] q (decide (q.1=r.1)):=by
 unfold prC;refine qSV call153 func153 rfl ?_;simp[go_sem,h];refine fD [0,1,2,3,4,5,6,7,8,9,10,11,13,12] [(0,0,[]),(1,0,[]),(2,0,[]),(3,0,[]),(4,0,[]),(5,0,[]),(6,0,[]),(7,0,[]),(8,0,[]),(9,0,[]),(10,0,[]),(11,0,[]),(13,0,[]),(12,1,[6,10])] zKr zKr zSi ?_;simp[go_sem,qu,tk];rw[if_pos (ze _)];generalize i:putCells _ 0 (aI q.1 :: hB q.2)=P;have g:P=aI q.1 :: hB q.2:=by rw[<-i];exact pc (aI 0) _ (fun _=>false) _
 subst g;clear i;simp[go_sem,qu,tk];exact .hf _ (jQ q _)
theorem ap32(ts n q r)(h:n.op=32):prC ts n [q,r] zR (decide (q.1=r.1)):=by
 unfold prC;refine qSV call153 func153 rfl ?_;simp[go_sem,h];refine fD [0,1,2,3,4,5,6,7,8,9,11,10] [(0,0,[]),(1,0,[]),(2,0,[]),(3,0,[]),(4,0,[]),(5,0,[]),(6,0,[]),(7,0,[]),(8,0,[]),(9,0,[]),(11,0,[]),(10,1,[4,8])] zKr zKr zSi ?_;simp[go_sem,qu];exact .hf _ (jQ zR _)
theorem ap33(ts n q r)(h:n.op=33):prC ts n [q,r] zR (decide (q.1=r.1)):=by
 unfold prC;refine qSV call153 func153 rfl ?_;simp[go_sem,h];refine fD [0,1,2,3,4,5,6,7,8,9,11,10] [(0,0,[]),(1,0,[]),(2,0,[]),(3,0,[]),(4,0,[]),(5,0,[]),(6,0,[]),(7,0,[]),(8,0,[]),(9,0,[]),(11,0,[]),(10,1,[4,8])] zKr zKr zSi ?_;simp[go_sem,qu];exact .hf _ (jQ zR _)
theorem ap9(ts n q r S)(h:n.op=9)(p:0<=q.1/\q.1<=1000)(t:0<=r.1/\r.1<=1000)(c:qg qc 195 [eRS q,eRS r] (eRS S)):prC ts n [q,r] S (decide (1<=q.1+r.1-2/\q.1+r.1-2<=3)):=by
 unfold prC;refine qSV call153 func153 rfl ?_;have l:qp.wrap (q.1+r.1)=q.1+r.1:=zWr;have o:qp.wrap (q.1+r.1-2)=q.1+r.1-2:=zWr;simp[go_sem,h];refine cL zKr ?_;simp[go_sem,qu,l,o];refine cL zKr ?_;by_cases j:1<=q.1+r.1-2
 .simp [go_sem,qu,tk,j]
  refine pL c (wkS2 q r) ?_;simp[go_sem,qu,j];rw[if_pos (ze _)];generalize i:putCells _ 0 (aI S.1 :: hB S.2)=P;have g:P=aI S.1 :: hB S.2:=by rw[<-i];exact pc (aI 0) _ (fun _=>false) _
  subst g;clear i;simp[go_sem,qu,tk];exact .hf _ (jQ S _)
 .simp [go_sem,qu,tk,j]
  refine pL c (wkS2 q r) ?_;simp[go_sem,qu,j];rw[if_pos (ze _)];generalize i:putCells _ 0 (aI S.1 :: hB S.2)=P;have g:P=aI S.1 :: hB S.2:=by rw[<-i];exact pc (aI 0) _ (fun _=>false) _
  subst g;clear i;simp[go_sem,qu,tk];exact .hf _ (jQ S _)
theorem ap10(ts n q r S)(h:n.op=10)(l:0<=q.1/\q.1<=1000)(o:0<=r.1/\r.1<=1000)(c:qg qc 196 [eRS q,eRS r] (eRS S)):prC ts n [q,r] S (decide (q.1+r.1<=3)):=by
 unfold prC;refine qSV call153 func153 rfl ?_;have j:qp.wrap (q.1+r.1)=q.1+r.1:=zWr;simp[go_sem,h];refine fD [0,1,2,3,4,5,7,8,9,10,11,12,13,14,15,16,18,6,17] [(0,0,[]),(1,0,[]),(2,0,[]),(3,0,[]),(4,0,[]),(5,0,[]),(7,0,[]),(8,0,[]),(9,0,[]),(10,0,[]),(11,0,[]),(12,0,[]),(13,0,[]),(14,0,[]),(15,0,[]),(16,0,[]),(18,0,[]),(6,1,[10,14]),(17,1,[10,14])] zKr zKr zSi ?_;simp[go_sem,qu,tk,j];refine pL c (wkS2 q r) ?_;simp[go_sem,qu];rw[if_pos (ze _)];generalize i:putCells _ 0 (aI S.1 :: hB S.2)=P;have g:P=aI S.1 :: hB S.2:=by rw[<-i];exact pc (aI 0) _ (fun _=>false) _
 subst g;clear i;simp[go_sem,qu,tk];exact .hf _ (jQ S _)
theorem ap11(ts n q S)(h:n.op=11)(c:qg qc 197 [eRS q] (eRS S)):prC ts n [q] S (decide (q.1=2)):=by
 unfold prC;refine qSV call153 func153 rfl ?_;simp[go_sem,h];refine fD [0,1,2,4,5,6,7,8,10,3,9] [(0,0,[]),(1,0,[]),(2,0,[]),(4,0,[]),(5,0,[]),(6,0,[]),(7,0,[]),(8,0,[]),(10,0,[]),(3,1,[7]),(9,1,[7])] zKr zKr zSi ?_;simp[go_sem,qu,tk];refine pL c (wkS1 q) ?_;simp[go_sem,qu];rw[if_pos (ze _)];generalize i:putCells _ 0 (aI S.1 :: hB S.2)=P;have g:P=aI S.1 :: hB S.2:=by rw[<-i];exact pc (aI 0) _ (fun _=>false) _
 subst g;clear i;simp[go_sem,qu,tk];exact .hf _ (jQ S _)
theorem ap12(ts n q S)(h:n.op=12)(c:qg qc 198 [eRS q] (eRS S)):prC ts n [q] S (decide (q.1=2)):=by
 unfold prC;refine qSV call153 func153 rfl ?_;simp[go_sem,h];refine fD [0,1,2,4,5,6,7,8,10,3,9] [(0,0,[]),(1,0,[]),(2,0,[]),(4,0,[]),(5,0,[]),(6,0,[]),(7,0,[]),(8,0,[]),(10,0,[]),(3,1,[7]),(9,1,[7])] zKr zKr zSi ?_;simp[go_sem,qu,tk];refine pL c (wkS1 q) ?_;simp[go_sem,qu];rw[if_pos (ze _)];generalize i:putCells _ 0 (aI S.1 :: hB S.2)=P;have g:P=aI S.1 :: hB S.2:=by rw[<-i];exact pc (aI 0) _ (fun _=>false) _
 subst g;clear i;simp[go_sem,qu,tk];exact .hf _ (jQ S _)
theorem ap13(ts)(ok:okTS ts)(n q C S)(h:n.op=13)(c:qg qc 198 [eRS q] (eRS C))(c2:qg qc 193 [eRS C,eRS (qr (zD ts.sS.length 2))] (eRS S)):prC ts n [q] S (decide (q.1=2)):=by
 unfold prC;refine qSV call153 func153 rfl ?_;have c1:=allU ts ok 2 zOm;generalize qr (zD ts.sS.length 2)=D at *
 simp[go_sem,h];refine fD [0,1,2,4,7,8,9,10,11,13,3,5,6,12] [(0,0,[]),(1,0,[]),(2,0,[]),(4,0,[]),(7,0,[]),(8,0,[]),(9,0,[]),(10,0,[]),(11,0,[]),(13,0,[]),(3,1,[4,10]),(5,1,[10]),(6,1,[10]),(12,1,[10])] zKr zKr zSi ?_;simp[go_sem,qu,tk];refine pL c (wkS1 q) ?_;simp[go_sem,qu];refine pL c1 (wkTI ts 2) ?_;simp[go_sem,qu];refine pL c2 (wkS2 C D) ?_;simp[go_sem,qu];rw[if_pos (ze _)];generalize i:putCells _ 0 (aI S.1 :: hB S.2)=P;have g:P=aI S.1 :: hB S.2:=by rw[<-i];exact pc (aI 0) _ (fun _=>false) _
 subst g;clear i;simp[go_sem,qu,tk];exact .hf _ (jQ S _)
theorem apO(ts n L)(t:n.op≠2)(C:n.op≠3)(I:n.op≠4)(J:n.op≠5)(P:n.op≠6)(g:n.op≠14)(R:n.op≠7)(T:n.op≠8)(i:n.op≠32)(j:n.op≠33)(U:n.op≠9)(l:n.op≠10)(o:n.op≠11)(p:n.op≠12)(r:n.op≠13):prC ts n L zR true:=by
 unfold prC;refine qSV call153 func153 rfl ?_;simp[go_sem,t,C,I,J,P,g,R,T,i,j,U,l,o,p,r];exact .hf _ (jQ zR true)
end QN
end Go.Proofs.YtfednihcpihlgaaGreatDoor
