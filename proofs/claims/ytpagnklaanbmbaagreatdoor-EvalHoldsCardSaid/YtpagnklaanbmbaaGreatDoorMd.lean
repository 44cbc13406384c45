/-
  Own library, part 4: an abstract reading of values and a calculus over it; contracts of functions; plain lemmas.
-/
import Derived.Test.YtpagnklaanbmbaaGreatDoorMc
set_option linter.unusedVariables false
set_option linter.unusedSimpArgs false
set_option maxRecDepth 100000
open Go renaming Program->j1,TypeId->j2,Operand->us,FuncId->wh
open Go.Proofs.Tryz renaming prog->qb
open Nat renaming le_of_ble_eq_true->qh,le_refl->qm,le_trans->zP,zero_add->yy,lt_succ_iff_lt_or_eq->uh
open Go.IntKind renaming i64->qj
open List renaming getElem?_eq_some_iff->qk,getElem?_append_left->qo,mem_map->qr,mem_cons->qt,range->qu,getElem?_set_ne->qv,getElem_mem->qy,getElem?_eq_getElem->qA,not_mem_nil->qE,all_eq_true->qI,getElem?_set_self->qJ,mem_singleton->qL,mem_append->qM,mem_of_getElem?->qV,mem_cons_of_mem->qY,replicate->qZ,mem_cons_self->q8,length_append->zc,getElem?_append_right->zf,drop_eq_getElem_cons->zt,getElem?_map->zu,take_length->zw,map_append->zx,append_assoc->zE,length_cons->zG,append_nil->zV,map_cons->yc,take_of_length_le->ye,drop_length->yk,mem_range->yx,length_map->yI,mem_append_left->jc,cons_append->jd,getElem?_take->jp,getElem?_drop->jF,mem_filter->vt,length_take->vM,foldl_append->ue,take_append_drop->uf,getD_cons_zero->uj,flatMap_cons->uG,getElem?_range->uH,mem_of_mem_take->uK,nodup_append->uL,mem_iff_getElem->ZM,mem_flatMap->ZN,pairwise_cons->Yz
open Option.some renaming injEq->qp
open Option renaming map_some->zd,map_eq_some_iff->j8
open Int renaming mul_le_mul->jS,tmod_eq_emod_of_nonneg->Qe
open List.Nodup renaming length_le_of_subset->jT
open Except.ok renaming injEq->vu
open Bool renaming eq_iff_iff->vO
open List.cons renaming injEq->uN
namespace Go.Proofs.YtpagnklaanbmbaaGreatDoor
open Go Go.Ev Go.Proofs Tryz
namespace E1
section
variable {l:List Int}
theorem VU{n:Int}(g:0<=n)(j:n<=20):∀ i:Nat,i<=3->0<=n ^ i/\n ^ i<=8000:=by
 have l:0<=n*n:=Int.mul_nonneg g g;have o:n*n<=20*20:=jS j j g zOm;have r:0<=n*n*n:=Int.mul_nonneg l g;have t:n*n*n<=20*20*20:=jS o j g zOm;intro i p
 match i,p with
 | 0,_=>rw[Int.pow_zero];omega
 | 1,_=>rw[Int.pow_succ,Int.pow_zero];omega
 | 2,_=>rw[Int.pow_succ,Int.pow_succ,Int.pow_zero,Int.one_mul];omega
 | 3,_=>rw[Int.pow_succ,Int.pow_succ,Int.pow_succ,Int.pow_zero,Int.one_mul];omega
def powN(k:Int):Nat:=(min k 3).toNat
def powI(n k:Int):Int:=n ^ powN k
def yo(l:List Int):Prop:=l.Pairwise (·<·)
instance (l:List Int):Decidable (yo l):=inferInstanceAs (Decidable (l.Pairwise (·<·)))
theorem qgG(h:∀(i:Nat) (h:i+1<l.length),l[i]<l[i+1]):yo l:=by
 unfold yo;induction l with
 |nil=>exact .nil
 |cons a l g =>
  have g:=g fun i p=>by
   have:=h (i+1) (zUs p);rw[List.getElem_cons_succ,List.getElem_cons_succ]at this;exact this
  refine Yz.2 ⟨?_,g⟩;cases l with
  |nil=>simp
  |cons b l =>
   have o:=h 0 zSp;simp at o;intro c j;rcases qt.1 j with rfl|j
   .exact o
   .have:=(Yz.1 g).1 c j
    omega
theorem qgH(h:yo l){i j:Nat}(g:i<j)(o:j<l.length):l[i]' zOm<l[j]:=List.pairwise_iff_getElem.1 h i j zOm o g
def jN(n:Int)(r:Rl):Bool:=decide (0<=n)&&decide (n<=12)&&decide (1<=r.ar)&&decide (r.ar<=3)&&r.ts.all (fun t=>decide (0<=t)&&decide (t<powI n r.ar))&&decide (yo r.ts)
theorem VV(h:yo l):l.Nodup:=List.Pairwise.imp (fun h e=>zOm) h
theorem qgI{m:List Int}(g:yo l)(i:yo m)(h:∀ x,x∈l↔x∈m):l=m:=
 List.Perm.eq_of_pairwise (le:=fun a b:Int=>a<b) (fun a b _ _ g i=>zOm) g i ((List.perm_ext_iff_of_nodup (VV g) (VV i)).2 h)
def atN(l:List Int)(r:Int):Nat->Nat
 | 0=>0
 |n+1=>if r<=gI l n then atN l r n else n+1
theorem gq(l:List Int)(r:Int):∀ n,atN l r n<=n
 | 0=>qm _
 |n+1=>by
  have:=gq l r n;rw[atN];split<;>omega
def addL(l:List Int)(r:Int):List Int:=if l[atN l r l.length]?=some r then l else l.take (atN l r l.length)++[r]++l.drop (atN l r l.length)
def ofL(ts:List Int):List Int:=ts.foldl addL []
theorem gw(l:List Int)(r:Int):∀ n,(∀ i,atN l r n<=i->i<n->r<=gI l i)/\(0<atN l r n->gI l (atN l r n-1)<r)
 | 0=>⟨fun i _ h=>zOm,fun h=>by simp[atN]at h⟩
 |n+1=>by
  obtain⟨j,o⟩:=gw l r n;rw[atN];by_cases h:r<=gI l n
  .rw [if_pos h]
   refine⟨fun i g p=>?_,o⟩;by_cases e:i=n
   .rw [e];exact h
   .exact j i g zOm
  .rw [if_neg h]
   exact⟨fun i g p=>zOm,fun _=>zSo⟩
theorem qgJ(p:yo l)(r:Int):yo (addL l r)/\∀ x,x∈addL l r↔x∈l\/x=r:=by
 obtain⟨U,h2⟩:=gw l r l.length;have hk:=gq l r l.length;unfold addL;generalize atN l r l.length=k at *
 by_cases t:l[k]?=some r
 .rw [if_pos t]
  exact⟨p,fun x=>⟨.inl,fun h=>h.elim id fun e=>by rw[e];exact qV t⟩⟩
 .rw [if_neg t]
  have o:∀ i j (g:i<l.length) (T:j<l.length),i<j->l[i]<l[j]:=fun i j g T I=>List.pairwise_iff_getElem.1 p i j g T I
  have P:∀ x,x∈l.take k->x<r:=by
   intro x hx;obtain⟨i,g,e⟩:=ZM.1 hx;rw[List.getElem_take]at e;have a0:i<k:=by simp at g;omega
   have:=h2 zOm;rw[Zr zOm]at this;by_cases J:i=k-1
   .subst J;omega
   .have:=o i (k-1) zOm zOm zOm;omega
  have g:∀ x,x∈l.drop k->r<x:=by
   intro x hx;obtain⟨i,g,e⟩:=ZM.1 hx;rw[List.getElem_drop]at e;have R:k+i<l.length:=by simp at g;omega
   have h0:=U k zOm zOm;rw[Zr zOm]at h0;have a1:l[k]' zOm≠r:=fun e=>t (by rw[qA zOm,e])
   by_cases J:i=0
   .subst J;simp at e;omega
   .have:=o k (k+i) zOm R zOm;omega
  refine⟨?_,fun x=>?_⟩
  .unfold yo at *
   rw[zE,List.pairwise_append];refine⟨p.sublist (List.take_sublist _ _),?_,fun a ha b C=>?_⟩
   .rw [List.singleton_append,Yz]
    exact⟨g,p.sublist (List.drop_sublist _ _)⟩
   .rw [List.singleton_append,qt]at C
    have:=P a ha;rcases C with e|C
    .omega
    .have:=g b C;omega
  .have:x∈l↔x∈l.take k\/x∈l.drop k:=by
    rw[<-qM,uf]
   rw[this,qM,qM,qL];constructor
   .rintro ((h|h)|h)
    .exact .inl (.inl h)
    .exact .inr h
    .exact .inl (.inr h)
   .rintro ((h|h)|h)
    .exact .inl (.inl h)
    .exact .inr h
    .exact .inl (.inr h)
theorem gy:∀(ts l:List Int),yo l->yo (ts.foldl addL l)/\∀ x,x∈ts.foldl addL l↔x∈l\/x∈ts
 | [],l,h=>⟨h,fun x=>zSp⟩
 |t :: ts,l,h=>by
  obtain⟨g,i⟩:=qgJ h t;obtain⟨j,o⟩:=gy ts _ g;refine⟨j,fun x=>?_⟩;rw[List.foldl_cons,o,i,qt];constructor
  .rintro ((h|h)|h)
   .exact .inl h
   .exact .inr (.inl h)
   .exact .inr (.inr h)
  .rintro (h|h|h)
   .exact .inl (.inl h)
   .exact .inl (.inr h)
   .exact .inr h
theorem VW(ts:List Int):yo (ofL ts)/\∀ x,x∈ofL ts↔x∈ts:=by
 obtain⟨g,i⟩:=gy ts [] (by unfold yo;exact .nil);exact⟨g,fun x=>by rw[ofL,i];simp⟩
structure GR (n:Int) (r:Rl):Prop where
 ar1:1<=r.ar
 ar3:r.ar<=3
 val:∀ t,t∈r.ts->0<=t/\t<powI n r.ar
 srt:yo r.ts
def unR(a b:Rl):Rl:=⟨a.ar,ofL (a.ts++b.ts)⟩
def inR(a b:Rl):Rl:=⟨a.ar,a.ts.filter fun t=>decide (t∈b.ts)⟩
def diR(a b:Rl):Rl:=⟨a.ar,a.ts.filter fun t=>decide (¬t∈b.ts)⟩
def prL(m:Int)(x y:List Int):List Int:=x.flatMap fun s=>y.map fun t=>s*m+t
def prR(n:Int)(a b:Rl):Rl:=⟨a.ar+b.ar,prL (powI n b.ar) a.ts b.ts⟩
def joL(n m:Int)(x y:List Int):List Int:=x.flatMap fun s=>(y.filter fun t=>decide (t / m=s % n)).map fun t=>s / n*m+t % m
def joR(n:Int)(a b:Rl):Rl:=⟨a.ar+b.ar-2,ofL (joL n (powI n (b.ar-1)) a.ts b.ts)⟩
def trR(n:Int)(a:Rl):Rl:=⟨2,ofL (a.ts.map fun t=>t % n*n+t / n)⟩
def clR(n:Int):Nat->Rl->Rl
 | 0,c=>c
 |f+1,c=>if (unR c (joR n c c)).ts.length=c.ts.length then c else clR n f (unR c (joR n c c))
def ovR(n:Int)(a b:Rl):Rl:=unR b ⟨a.ar,a.ts.filter fun t=>decide (∀ u,u∈b.ts->u / powI n (b.ar-1)≠t / powI n (b.ar-1))⟩
def idR(n:Int):Rl:=⟨2,(qu n.toNat).map fun x:Nat=>(x:Int)*n+x⟩
theorem qgK:yo []:=List.Pairwise.nil
theorem Jl{m:Nat}(i:yo l)(h:∀ t,t∈l->0<=t/\t<(m:Int)):l.length<=m:=by
 have:=jT (l₂:=(qu m).map fun x:Nat=>(x:Int)) (VV i) fun x hx=>by
  obtain⟨j,o⟩:=h x hx;exact qr.2 ⟨x.toNat,yx.2 zOm,zOm⟩
 simpa using this
theorem qgL(p:Int->Bool)(h:yo l):yo (l.filter p):=List.Pairwise.filter p h
theorem wU{n:Int}(g:0<=n)(i:n<=20)(k:Int):0<=powI n k/\powI n k<=8000:=VU g i _ (by unfold powN;omega)
theorem GR.len{n:Int}{r:Rl}(i:0<=n)(j:n<=20)(g:GR n r):r.ts.length<=8000:=by
 have hp:=wU i j r.ar;have:=Jl (m:=(powI n r.ar).toNat) g.srt fun t l=>zW1 (g.val t l)
 omega
theorem GR.union{n:Int}{a b:Rl}(g:GR n a)(i:GR n b)(e:a.ar=b.ar):GR n (unR a b):=by
 obtain⟨j,l⟩:=VW (a.ts++b.ts);refine⟨g.ar1,g.ar3,fun t o=>?_,j⟩;rcases qM.1 ((l t).1 o) with h|h
 .exact g.val t h
 .show 0<=t/\t<powI n a.ar
  rw[e];exact i.val t h
theorem GR.filter{n:Int}{a:Rl}(g:GR n a)(p:Int->Bool):GR n ⟨a.ar,a.ts.filter p⟩:=
 ⟨g.ar1,g.ar3,fun t i=>g.val t (vt.1 i).1,qgL p g.srt⟩
end
end E1
namespace E3
open Y1 P1 E1
section
variable {J i:Type}
structure Md where
 sc:Sc
 states:List (List Rl)
 loop:Int
abbrev cSt(s:List Rl):List AV:=[lRel s]
abbrev lSt(l:List (List Rl)):AV := .lst false (l.map cSt)
abbrev cMd(m:Md):List AV:=[lI m.sc.atoms,aI m.sc.steps,lSt m.states,aI m.loop]
abbrev eMd(m:Md):AV := .agg (cMd m)
abbrev XE(J:Type):=Except Int J
def bX(q:XE J)(g:J->XE i):XE i:=match q with
 | .error e => .error e
 | .ok a=>g a
theorem zi(a:J)(g:J->XE i):bX (.ok a) g=g a:=rfl
theorem zC(e:Int)(g:J->XE i):bX (.error e) g = .error e:=rfl
def mapX(g:J->XE i):List J->XE (List i)
 | [] => .ok []
 |a :: l=>bX (g a) fun b=>bX (mapX g l) fun r => .ok (b :: r)
structure Pl where
 st:Nat
 env:List (ByteArray×Int)
structure Mo where
 ts:TS
 m:Md
def Mo.n(x:Mo):Int:=sumI x.m.sc.atoms
def Mo.nx(x:Mo)(s:Nat):Nat:=if s+1<x.m.states.length then s+1 else x.m.loop.toNat
def vF(x:Mo):Nat->Nat->List Nat->List Nat
 | 0,_,g=>g
 |f+1,s,g=>if s∈g then g else vF x f (x.nx s) (g++[s])
def Mo.path(x:Mo)(s:Nat):List Nat:=vF x (x.m.states.length+1) s []
def zF(nm:ByteArray)(env:List (ByteArray×Int)):Option Int:=env.foldl (fun r e=>if e.1=nm then some e.2 else r) none
def zB(x:Mo)(i:Nat):List Int:=(qu (gI x.m.sc.atoms i).toNat).map fun k:Nat=>sumI (x.m.sc.atoms.take i)+k
def uY(x:Mo)(i:Nat):List Int:=(qu ((gI x.m.sc.atoms i).toNat-1)).map fun k:Nat=>(sumI (x.m.sc.atoms.take i)+k)*x.n+(sumI (x.m.sc.atoms.take i)+k+1)
def jY(fs:List Fld)(g:List Rl)(nm:ByteArray):List Rl:=(fs.zip g).filterMap fun e=>if e.1.name=nm then some e.2 else none
def yj(x:Mo)(nm:ByteArray):Nat->List (ByteArray×Bool)->List Rl
 |_,[]=>[]
 |i,s :: g=>(if s.1=nm then [⟨1,zB x i⟩] else [])++((if s.2=true/\s.1++yV=nm then [⟨1,(zB x i).take 1⟩] else [])++((if s.2=true/\s.1++jM=nm then [⟨2,uY x i⟩] else [])++yj x nm (i+1) g))
def Qq:List Rl->XE Rl
 | [] => .error 40
 | [r] => .ok r
 |_ => .error 44
def jC(x:Mo)(p:Pl)(nm:ByteArray):XE Rl:=match zF nm p.env with
 |some a => .ok ⟨1,[a]⟩
 |none=>Qq (jY x.ts.fields (x.m.states.getD p.st []) nm++yj x nm 0 x.ts.sorts)
structure Den where
 E:Pl->XE Rl
 N:Pl->XE Int
 F:Pl->XE Bool
def noD:Den:=⟨fun _ => .error 43,fun _ => .error 43,fun _ => .error 43⟩
def kD(ds:List Den)(i:Nat):Den:=ds.getD i noD
def zY(ds:List Den)(p:Pl):XE (Rl×Rl):=bX ((kD ds 0).E p) fun a=>bX ((kD ds 1).E p) fun b=>if a.ar=b.ar then .ok (a,b) else .error 42
def binE(ds:List Den)(p:Pl):XE Rl:=bX ((kD ds 0).E p) fun a=>if a.ar=2 then .ok a else .error 42
def yW(ds:List Den)(nm:ByteArray)(p:Pl):XE (List (Int×Bool)):=bX ((kD ds 0).E p) fun d=>if d.ar=1 then mapX (fun a=>bX ((kD ds 1).F ⟨p.st,p.env++[(nm,a)]⟩) fun b => .ok (a,b)) d.ts else .error 42
def uZ(n:Int)(a b:Rl):XE Rl:=if 1<=a.ar+b.ar-2/\a.ar+b.ar-2<=3 then .ok (joR n a b) else .error 42
def Qr(n:Int)(a b:Rl):XE Rl:=if a.ar+b.ar<=3 then .ok (prR n a b) else .error 42
def opE(x:Mo)(op:Int)(nm:ByteArray)(i:Int)(ds:List Den)(p:Pl):XE Rl:=
 if op=1 then jC x p nm
 else if op=2 then .ok ⟨i,[]⟩
 else if op=3 then .ok ⟨1,(qu x.n.toNat).map fun k:Nat=>(k:Int)⟩
 else if op=4 then .ok (idR x.n)
 else if op=5 then (kD ds 0).E ⟨x.nx p.st,p.env⟩
 else if op=6 then bX (zY ds p) fun q => .ok (unR q.1 q.2)
 else if op=7 then bX (zY ds p) fun q => .ok (inR q.1 q.2)
 else if op=8 then bX (zY ds p) fun q => .ok (diR q.1 q.2)
 else if op=9 then bX ((kD ds 0).E p) fun a=>bX ((kD ds 1).E p) fun b=>uZ x.n a b
 else if op=10 then bX ((kD ds 0).E p) fun a=>bX ((kD ds 1).E p) fun b=>Qr x.n a b
 else if op=11 then bX (binE ds p) fun a => .ok (trR x.n a)
 else if op=12 then bX (binE ds p) fun a => .ok (clR x.n 200 a)
 else if op=13 then bX (binE ds p) fun a => .ok (unR (clR x.n 200 a) (idR x.n))
 else if op=14 then bX (zY ds p) fun q => .ok (ovR x.n q.1 q.2)
 else if op=15 then bX (yW ds nm p) fun l => .ok ⟨1,(l.filter fun e=>e.2).map fun e=>e.1⟩
 else .error 43
def opN(op:Int)(i:Int)(ds:List Den)(p:Pl):XE Int:=
 if op=20 then .ok i
 else if op=21 then bX ((kD ds 0).E p) fun a => .ok (a.ts.length:Int)
 else if op=22 then bX ((kD ds 0).N p) fun a=>bX ((kD ds 1).N p) fun b => .ok (qj.wrap (a+b))
 else if op=23 then bX ((kD ds 0).N p) fun a=>bX ((kD ds 1).N p) fun b => .ok (qj.wrap (a-b))
 else .error 43
def untX(g h:Nat->XE Bool):List Nat->Bool->Bool->XE Bool
 | [],done,_ => .ok done
 |s :: l,done,failed=>bX (g s) fun a=>bX (h s) fun b=>untX g h l (done||(b&&!failed)) (failed||!a)
def opF(x:Mo)(op:Int)(nm:ByteArray)(ds:List Den)(p:Pl):XE Bool:=
 if op=30 then .ok true
 else if op=31 then .ok false
 else if op=32 then bX (zY ds p) fun q => .ok (decide ((diR q.1 q.2).ts=[]))
 else if op=33 then bX (zY ds p) fun q => .ok (decide (q.1=q.2))
 else if op=34 then bX ((kD ds 0).E p) fun a => .ok (decide (0<a.ts.length))
 else if op=35 then bX ((kD ds 0).E p) fun a => .ok (decide (a.ts.length=0))
 else if op=36 then bX ((kD ds 0).E p) fun a => .ok (decide (a.ts.length=1))
 else if op=37 then bX ((kD ds 0).E p) fun a => .ok (decide (a.ts.length<=1))
 else if op=38 then bX ((kD ds 0).N p) fun a=>bX ((kD ds 1).N p) fun b => .ok (decide (a=b))
 else if op=39 then bX ((kD ds 0).N p) fun a=>bX ((kD ds 1).N p) fun b => .ok (decide (a<b))
 else if op=40 then bX ((kD ds 0).F p) fun a => .ok (!a)
 else if op=41 then bX ((kD ds 0).F p) fun a=>bX ((kD ds 1).F p) fun b => .ok (a&&b)
 else if op=42 then bX ((kD ds 0).F p) fun a=>bX ((kD ds 1).F p) fun b => .ok (a||b)
 else if op=43 then bX ((kD ds 0).F p) fun a=>bX ((kD ds 1).F p) fun b => .ok (!a||b)
 else if op=44 then bX ((kD ds 0).F p) fun a=>bX ((kD ds 1).F p) fun b => .ok (decide (a=b))
 else if op=45 then bX (yW ds nm p) fun l => .ok (l.all fun e=>e.2)
 else if op=46 then bX (yW ds nm p) fun l => .ok (l.any fun e=>e.2)
 else if op=47 then bX (mapX (fun d:Den=>d.E p) ds) fun _ => .error 45
 else if op=48 then bX (mapX (fun s=>(kD ds 0).F ⟨s,p.env⟩) (x.path p.st)) fun l => .ok (l.all id)
 else if op=49 then bX (mapX (fun s=>(kD ds 0).F ⟨s,p.env⟩) (x.path p.st)) fun l => .ok (l.any id)
 else if op=50 then (kD ds 0).F ⟨x.nx p.st,p.env⟩
 else if op=51 then untX (fun s=>(kD ds 0).F ⟨s,p.env⟩) (fun s=>(kD ds 1).F ⟨s,p.env⟩) (x.path p.st) false false
 else .error 43
def opD(x:Mo)(op:Int)(nm:ByteArray)(i:Int)(ds:List Den):Den:=⟨opE x op nm i ds,opN op i ds,opF x op nm ds⟩
mutual
def den(x:Mo):Nd->Den
 | .mk op nm i ks _=>opD x op nm i (dens x ks)
def dens(x:Mo):List Nd->List Den
 | []=>[]
 |k :: ks=>den x k :: dens x ks
end
end
theorem gA(x:Mo):∀ ks:List Nd,dens x ks=ks.map (den x)
 | []=>rfl
 |k :: ks=>by rw[dens,gA x ks,yc]
theorem jO(x:Mo)(n:Nd):den x n=opD x n.op n.name n.n (n.kids.map (den x)):=by
 obtain⟨op,nm,i,ks,p⟩:=n;rw[den,gA];rfl
end E3
namespace E5
open Y1 E3
abbrev nk(op:Int)(ks:List Nd):Nd := .mk op ⟨#[]⟩ 0 ks 0
abbrev nb(op:Int)(nm:ByteArray)(e f:Nd):Nd := .mk op nm 0 [e,f] 0
theorem VX{J i j:Type}(q:XE J)(g:J->XE i)(h:i->XE j):bX (bX q g) h=bX q fun a=>bX (g a) h:=by cases q<;>rfl
variable (x:Mo) (p:Pl) (f g d e:Nd) (nm:ByteArray)
end E5
namespace E7
open E3
section
variable {N:Nat}
def it(x:Mo):Nat->Nat->Nat
 | 0,s=>s
 |k+1,s=>it x k (x.nx s)
theorem Jm(x:Mo):∀ k s,it x (k+1) s=x.nx (it x k s)
 | 0,s=>rfl
 |k+1,s=>by rw[it,Jm x k (x.nx s)];rfl
theorem W3(x:Mo)(j:Nat):∀ k s,it x (k+j) s=it x k (it x j s)
 | 0,s=>by rw[yy];rfl
 |k+1,s=>by rw[Nat.add_right_comm,Jm,W3 x j k s,Jm]
structure OkX (x:Mo) (N:Nat):Prop where
 len:x.m.states.length=N
 nx:∀ t,t<N->x.nx t<N
theorem W4{x:Mo}(h:OkX x N){s:Nat}(g:s<N):∀ k,it x k s<N
 | 0=>g
 |k+1=>by rw[Jm];exact h.nx _ (W4 h g k)
abbrev its(x:Mo)(s r:Nat):List Nat:=(qu r).map fun k=>it x k s
theorem gB(x:Mo)(s r:Nat):its x s (r+1)=its x s r++[it x r s]:=by
 unfold its;rw[List.range_succ,zx];rfl
theorem gC{x:Mo}(h:OkX x N){s:Nat}(l:s<N):∀ f k,N+1<=f+k->(its x s k).Nodup->∃ r,k<=r/\vF x f (it x k s) (its x s k)=its x s r/\it x r s∈its x s r
 | 0,k,C,j=>by
  exfalso;have:=jT (l₂:=qu N) j fun t I=>by
   obtain⟨i,_,rfl⟩:=qr.1 I;exact yx.2 (W4 h l i)
  simp at this;omega
 |f+1,k,C,j=>by
  rw[vF];by_cases g:it x k s∈its x s k
  .rw [if_pos g];exact⟨k,qm _,rfl,g⟩
  .rw [if_neg g,<-gB]
   have J:x.nx (it x k s)=it x (k+1) s:=(Jm x k s).symm;rw[J];obtain⟨r,a,b,c⟩:=gC h l f (k+1) zOm (by
    rw[gB,uL];refine⟨j,zSp,fun a P b p e=>?_⟩;rw[qL]at p;subst p;subst e;exact g P)
   exact⟨r,zOm,b,c⟩
theorem qgM{x:Mo}(h:OkX x N){s:Nat}(g:s<N):∃ r,x.path s=its x s r/\∀ k,∃ j,j<r/\it x k s=it x j s/\j<=k:=by
 obtain⟨r,_,b,c⟩:=gC h g (N+1) 0 zOm (by simp[its]);refine⟨r,?_,?_⟩
 .unfold Mo.path;rw[h.len];exact b
 .obtain ⟨j,l,e⟩:=qr.1 c
  rw[yx]at l;intro k;induction k using Nat.strongRecOn with
  |_ k o =>
   by_cases p:k<r
   .exact ⟨k,p,rfl,qm _⟩
   .have t:it x k s=it x (k-r+j) s:=by
     have:k=(k-r)+r:=zOm;rw[this,W3,<-e,<-W3];congr 1;omega
    obtain⟨i,C,I,J⟩:=o (k-r+j) zOm;exact⟨i,C,by rw[t,I],zOm⟩
end
end E7
namespace EL
open E1 E3
theorem W5(x:Mo)(t:0<=x.m.loop)(C:x.m.states.length<=1000000)(s:Nat)(I:s<x.m.states.length):qd qb 152 [eMd x.m,aI s] (aI (x.nx s:Nat)):=by
 have i:qj.wrap ((x.m.states.length:Int)-1)=(x.m.states.length:Int)-1:=qi zOm zOm;have l:qj.wrap ((s:Int)+1)=(s:Int)+1:=qi zOm zOm;unfold Mo.nx;refine qd.of_sound (qe.of_awp call152 func152 rfl (qh zKr) zKr (pl:={}) ?_);by_cases g:s+1<x.m.states.length
 .rw [if_pos g]
  have j:(s:Int)<(x.m.states.length:Int)-1:=zOm;simp[go_sem,i,l,j];exact .zsc _
 .rw [if_neg g]
  have j:¬(s:Int)<(x.m.states.length:Int)-1:=zOm;have o:(s:Int)=(x.m.states.length:Int)-1:=zOm;have p:((x.m.loop.toNat:Nat):Int)=x.m.loop:=zOm;have r:(1:Int)<=x.m.states.length:=zOm;rw[p];simp[go_sem,i,o,r];exact .zsc _
theorem qgN(n:Int)(t:0<=n)(C:n<=20)(k:Nat)(R:k<=3):qd qb 188 [aI n,aI k] (aI (n ^ k)):=by
 refine qd.of_sound (qe.of_awp call188 func188 rfl (qh zKr) zKr (pl:={}) ?_);simp[go_sem];refine qn.up k (fun i U=>U.tm 0=aI n/\U.tm 5=aI (n ^ i)/\U.tm 6=aI k/\U.tm 7=aI i/\U.mu=[]) ?_ ?_
 .simp [go_sem]
 rintro i U hi ⟨I,l,o,p,r⟩;by_cases g:i<k
 .have hp:=VU t C (i+1) zOm
  have J:qj.wrap ((i:Int)+1)=(i:Int)+1:=qi zOm zOm;rw[Int.pow_succ]at hp;have P:qj.wrap (n ^ i*n)=n ^ i*n:=qi zOm zOm;simp[go_sem,I,l,o,p,r,g,J,P];rw[Int.pow_succ]
 .have j:i=k:=by omega
  subst j;simp[go_sem,l,o,p,r];exact .zsc _
theorem idenU(n:Nat)(hn:n<=20):qd qb 205 [aI n] (eRel (idR n)):=by
 refine qd.of_sound (qe.of_awp call205 func205 rfl (qh zKr) zKr (pl:={}) ?_);simp[go_sem];refine qn.keep (fun m U=>∃ k t g,m=n-k/\k<=n/\U.tm 0=aI n/\U.tm 2 = .ptr 0 0/\U.tm 3 = .ptr 1 0/\U.tm 6=aI n/\U.tm 7=aI (k:Nat)/\U.mu=[.arr [aI 0,.lst true []],.arr [aI 2,t]]++g/\OwnF 2 ([.dead,.dead]++g) 1 t (((qu k).map fun x:Nat=>(x:Int)*n+x).map rI)) n ?_ ?_
 .exact ⟨0,.lst true [],[],zOm,zOm,zSi,zSi,zSi,zSi,zSi,zSi,by simpa using OwnF.nil zSp⟩
 rintro m U ⟨k,t,g,rfl,hk,e0,e2,I,J,P,hm,C⟩;have C:=C.low (low:=[.dead,.dead]) (low':=[.arr [aI 0,.lst true []],.arr [aI 2,t]]) rfl;by_cases R:k<n
 .have hp:0<=(k:Int)*n/\(k:Int)*n<=400:=⟨Int.mul_nonneg zOm zOm,by have:(k:Int)*n<=20*20:=jS zOm zOm zOm zOm;omega⟩
  have w1:qj.wrap ((k:Int)*n)=(k:Int)*n:=qi zOm zOm;have w2:qj.wrap ((k:Int)*n+k)=(k:Int)*n+k:=qi zOm zOm;have w3:qj.wrap ((k:Int)+1)=(k:Int)+1:=qi zOm zOm;simp[go_sem,e0,I,J,P,R,hm,w1,w2];refine qF.intsL (low:=[.arr [aI 0,.lst true []],.arr [aI 2,t]]) (e:=3) (bt:=8) (z:=0) (xs:=(qu k).map fun x:Nat=>(x:Int)*n+x) (ys:=[(k:Int)*n+k]) zSi zSi zSi zOm C (by simp[qO]) zSo ?_;intro a0 l o;simp[go_sem,I,P,w3,o.cells,o.one];refine Keep.loop (n-(k+1)) zOm ⟨k+1,a0,l,rfl,zOm,zS1 e0,zS1 e2,zS1 I,zS1 J,zSi,zSi,?_⟩;rw[List.range_succ,zx];simpa using o.low (low':=[.dead,.dead]) rfl
 .have a1:k=n:=by omega
  subst a1;simp[go_sem,e2,I,J,P,hm,C.one];exact Rd.rel (r:=idR k) (C.low (low:=[.arr [aI 0,.lst true []],.arr [aI 2,t]]) (low':=[.arr [aI 2,t],.arr [aI 2,t]]) rfl).rdI
end EL
namespace EJ
open E1
section
variable {g:Type}
def jP(p:g->g->Bool):g->List g->List g
 |_,[]=>[]
 |x,y :: l=>if p y x=true then jP p y l else y :: jP p y l
def cmpc(p:g->g->Bool):List g->List g
 | []=>[]
 |x :: l=>x :: jP p x l
theorem gD(p:g->g->Bool):∀(l:List g) (x y:g),jP p x (l++[y])=jP p x l++(if p y ((x :: l).getLast zSp)=true then [] else [y])
 | [],x,y=>by
  by_cases hp:p y x=true<;>simp[jP,hp]
 |z :: l,x,y=>by
  have i:=gD p l z y;have e:(x :: z :: l).getLast zSp=(z :: l).getLast zSp:=List.getLast_cons zSp;simp only[jd,jP,e,i];split
  .rfl
  .rfl
theorem gE{j:Type}(p:j->j->Bool)(l:List j)(k:Nat)(I:1<=k)(C:k<l.length):cmpc p (l.take (k+1))=cmpc p (l.take k)++(if p l[k] (l[k-1]' zOm)=true then [] else [l[k]]):=by
 have o:l.take (k+1)=l.take k++[l[k]]:=by rw[List.take_add_one,qA C];rfl
 have g:∀(q:l.take k≠[]),(l.take k).getLast q=l[k-1]' zOm:=by
  intro q;rw[List.getLast_eq_getElem,List.getElem_take];congr 1;simp;omega
 rw[o];cases t:l.take k with
 |nil =>
  have i:=congrArg List.length t;rw[vM,List.length_nil]at i;omega
 |cons x r =>
  have:=g (by rw[t];simp);simp only[t]at this;simp only[jd,cmpc,gD,this]
abbrev eqI:Int->Int->Bool:=fun y x=>decide (y=x)
theorem W6:∀(l:List Int) (x:Int),(x :: l).Pairwise (·<=·)->yo (x :: jP eqI x l)/\∀ t,t∈x :: jP eqI x l↔t∈x :: l
 | [],x,_=>⟨List.pairwise_singleton _ _,fun t=>Iff.rfl⟩
 |y :: l,x,h=>by
  obtain⟨r,g⟩:=Yz.1 h;have C:=r y (q8 ..);by_cases e:y=x
  .have j:jP eqI x (y :: l)=jP eqI y l:=by simp[jP,e]
   rw[j,e];have hx:(x :: l).Pairwise (·<=·):=by rw[e]at g;exact g
   obtain⟨o,i⟩:=W6 l x hx;refine⟨o,fun t=>?_⟩;rw[i];simp
  .have j:jP eqI x (y :: l)=y :: jP eqI y l:=by simp[jP,e]
   rw[j];obtain⟨o,i⟩:=W6 l y g;refine⟨Yz.2 ⟨fun t p=>?_,o⟩,fun t=>?_⟩
   .rcases qt.1 ((i t).1 p) with rfl|p
    .omega
    .have:=(Yz.1 g).1 t p;omega
   .rw [qt,i,qt (l:=y :: l)]
theorem qgO(l:List Int)(h:l.Pairwise (·<=·)):yo (cmpc eqI l)/\∀ t,t∈cmpc eqI l↔t∈l:=by
 cases l with
 |nil=>exact⟨List.Pairwise.nil,fun t=>Iff.rfl⟩
 |cons x l=>exact W6 l x h
theorem qgP(l:List Int):(srtI l).Pairwise (·<=·):=by
 have:=List.pairwise_mergeSort (le:=fun x y:Int=>decide (x<=y)) (fun a b c g i=>by simp at *;omega) (fun a b=>zSo) l;exact this.imp fun h=>zUs h
theorem qgQ(l:List Int)(t:Int):t∈srtI l↔t∈l:=(List.mergeSort_perm l _).mem_iff
theorem qgR(l:List Int):cmpc eqI (srtI l)=ofL l:=by
 obtain⟨g,i⟩:=qgO _ (qgP l);obtain⟨j,o⟩:=VW l;exact qgI g j fun t=>by rw[i,o,qgQ]
end
end EJ
namespace EM
theorem sortE{mu:Mu}{b:Nat}{zs:List Int}(i:mu[b]?=some (.arr (zs.map aI)))(p:zs.length<=1000000000) :
  qe qb 183 [.sl b 1 0 zs.length] mu fun e m=>e = .ret (.tup [])/\m=mu.set b (.arr ((srtI zs).map aI)):=by
 have:=qf6 (P:=qb) call183 (fun g off cap zs w j l o=>Tryz.slices_Sort_int g off cap zs w j l o) (mu:=mu) (b:=b) (off:=0) (cells:=zs.map aI) (zs:=zs) i
  (fun k n h=>by rw[yy,zu,h];rfl) zOm zSp
 have e:putCells (zs.map aI) 0 ((srtI zs).map fun n => .sc (.int .i64 n))=(srtI zs).map aI:=by
  rw[jl _ _ _ (by simp[Ji])];simp[Ji]
 rw[e]at this;exact this
end EM
end Go.Proofs.YtpagnklaanbmbaaGreatDoor
namespace Go.Ev
open Go Go.RowKit
@[go_sem ↓] theorem qrP(P:j1)(pl:Pol)(det:Bool)(i:Option Tmp)(ev:us->AV)(mu:Mu)(K j:AV->Mu->Prop)(l:List us)(g:Array j2):qD P pl det i (.call ⟨.builtin .clear,l.toArray,g⟩) ev mu K j=un P mu .clear g (evs ev l) K:=eqS rfl
theorem qgS{P:j1}{mu:Mu}{K:AV->Mu->Prop}{t e:j2}{sz bt b off len:Nat}{cells:List AV}{zv:AV}(o:qN P t=some (e,sz,bt))(p:qC P e=some zv)(g:zv.cells.length=sz)(j:zv.cells.all AV.one=true)(l:sz≠0)
  (r:mu[b]?=some (.arr cells)) (C:off+len*sz<=cells.length) (hp:0<len) (k:K (.tup []) (mu.set b (.arr (putCells cells off ((qu (len*sz)).map fun i=>zv.cells.getD (i % sz) .any))))):un P mu .clear #[t] [.sl b sz off len] K:=
 ⟨_,_,.clear o p g j l r C hp,k⟩
end Go.Ev
namespace Go.Proofs.YtpagnklaanbmbaaGreatDoor
open Go Go.Ev Go.Proofs Tryz
namespace EN
open EJ
theorem W7{mu:Mu}{b:Nat}{c:Cell}(h:mu[b]?=some c):mu.set b c=mu:=by
 obtain⟨i,g⟩:=qk.1 h;rw[<-g];simp
theorem VY(l:List Int)(i:Nat)(h:i<l.length):List.take 1 (List.drop i (l.map aI))=[aI l[i]]:=by
 rw[zt (zUs h)];simp
theorem qgT(mu:Mu)(b:Nat)(g:List Int)(hl:g.length<=1000000)(hb:mu[b]?=some (.arr (g.map aI))) :
  qe qb 241 [.sl b 1 0 g.length] mu fun e m=>∃ cells,e = .ret (.sl b 1 0 (cmpc eqI g).length)/\m=mu.set b (.arr cells)/\cells.length=g.length/\cells.take (cmpc eqI g).length=(cmpc eqI g).map aI:=by
 refine qe.of_awp call241 func241 rfl (qh zKr) zKr (pl:={}) ?_;simp[go_sem];by_cases h2:g.length<2
 .have hc:cmpc eqI g=g:=by
   match g,h2 with
   | [],_=>rfl
   | [x],_=>rfl
   |_ :: _ :: _,h=>simp only[zG]at h;omega
  simp[go_sem,show (g.length:Int)<2 by omega];rw[hc];exact⟨rfl,g.map aI,(W7 hb).symm,zSp,by rw[ye zSp]⟩
 simp[go_sem,show ¬(g.length:Int)<2 by omega];refine qn.keep (fun m U=>∃ k,m=g.length-k/\1<=k/\k<=g.length/\U.tm 0 = .sl b 1 0 g.length/\U.tm 3=aI (k:Nat)/\U.mu=mu/\cmpc eqI (g.take k)=g.take k) (g.length-1) ?_ ?_
 .refine ⟨1,zOm,zOm,zOm,zSi,zSi,zSi,?_⟩
  match g,h2 with
  | [],h=>simp at h
  |x :: l,_=>simp[cmpc,jP]
 rintro m U ⟨k,rfl,a6,hk,e0,e3,hm,hi⟩;by_cases p:k<g.length
 .have hw:qj.wrap ((k:Int)-1)=((k-1:Nat):Int):=by rw[qi zOm zOm];omega
  have t:k-1<g.length:=zOm;have r1:=VY g k p;have r2:=VY g (k-1) t;have g1:k+1<=g.length:=p;have g2:k-1+1<=g.length:=t;have o:=gE eqI g k a6 p;rw[hi]at o;simp[go_sem,e0,e3,hm,p];refine qg.intro zKr ?_;by_cases hp:g[k]=g[k-1]
  .simp [go_sem,e0,e3,p,hb,hw,t,hp,r1,r2,g1,g2]
   rw[if_pos (by simpa using hp),zV]at o;simp[go_sem,hk];refine qn.keep (fun m2 st2=>∃(j i:Nat) (cur:List Int),m2=g.length-(k+j)/\1<=j/\k+j<=g.length/\st2.tm 0 = .sl b 1 0 g.length/\st2.tm 3=aI (i:Nat)/\st2.tm 4 = .sl b 1 k (g.length-k)/\st2.tm 5=aI (j:Nat)/\cur.length=g.length/\st2.mu=mu.set b (.arr (cur.map aI))/\i=(cmpc eqI (g.take (k+j))).length/\i<=k+j-1/\cur.take i=cmpc eqI (g.take (k+j))/\cur.drop (k+j-1)=g.drop (k+j-1)) (g.length-(k+1)) ?_ ?_
   .refine ⟨1,k,g,zOm,zOm,zOm,zS1 e0,zS1 e3,zSi,zSi,rfl,?_,?_,zOm,?_,rfl⟩
    .simp [go_sem];exact(W7 hb).symm
    .rw [o,vM];omega
    .exact o.symm
   rintro m2 st2 ⟨j,i,cur,rfl,ag,hj,f0,f3,f4,f5,a1,a2,C,ah,I,R⟩;have a0:b<mu.length:=(qk.1 hb).1;by_cases J:j<g.length-k
   .have a7:k+j<g.length:=by omega
    have c1:cur[k+j]' zOm=g[k+j]:=by
     have:=congrArg (fun l=>l[1]?) R;simp only[jF]at this;rw[show k+j-1+1=k+j by omega,qA zOm,qA zOm]at this;exact Option.some.inj this
    have c2:cur[k+j-1]' zOm=g[k+j-1]:=by
     have:=congrArg (fun l=>l[0]?) R;simp only[jF,Nat.add_zero]at this;rw[qA zOm,qA zOm]at this;exact Option.some.inj this
    have r1:=VY cur (k+j) zOm;have r2:List.take 1 (List.drop (k+(j-1)) (cur.map aI))=[aI (g[k+j-1]' zOm)]:=by rw[show k+(j-1)=k+j-1 by omega,VY cur (k+j-1) zOm,c2]
    rw[c1]at r1;have a3:qj.wrap ((j:Int)-1)=((j-1:Nat):Int):=by rw[qi zOm zOm];omega
    have a4:qj.wrap ((j:Int)+1)=((j+1:Nat):Int):=by rw[qi zOm zOm];omega
    have g3:j-1<g.length-k:=zOm;have g4:k+j+1<=cur.length:=zOm;have g5:k+(j-1)+1<=cur.length:=zOm;have r:=gE eqI g (k+j) zOm a7;have a5:cur.drop (k+j)=g.drop (k+j):=by
     have:=congrArg (List.drop 1) R;rw[List.drop_drop,List.drop_drop,show k+j-1+1=k+j by omega]at this;exact this
    simp[go_sem,f4,f5,a2,J];refine qg.intro zKr ?_;by_cases P:g[k+j]=g[k+j-1]
    .rw [if_pos (zUs P),zV]at r
     simp[go_sem,f4,f5,J,a0,r1,r2,a3,a4,g3,g4,g5,P];refine Keep.loop (g.length-(k+(j+1))) zOm ⟨j+1,i,cur,rfl,zOm,zOm,zS1 f0,zS1 f3,zS1 f4,zSi,a1,zSi,?_,zOm,?_,?_⟩
     .rw [show k+(j+1)=k+j+1 by omega,r];exact C
     .rw [show k+(j+1)=k+j+1 by omega,r];exact I
     .rw [show k+(j+1)-1=k+j by omega];exact a5
    .rw [if_neg (zUs P)]at r
     have a8:i<g.length:=zOm;have a9:i+1<=cur.length:=zOm;have af:i<cur.length:=zOm;have aa:qj.wrap ((i:Int)+1)=((i+1:Nat):Int):=by rw[qi zOm zOm];omega
     simp[go_sem,f0,f3,f4,f5,J,a0,r1,r2,a3,a4,aa,g3,g4,g5,P,a8,a9];refine Keep.loop (g.length-(k+(j+1))) zOm ⟨j+1,i+1,cur.set i g[k+j],rfl,zOm,zOm,zS1 f0,zSi,zS1 f4,zSi,zP1 a1,?_,?_,zOm,?_,?_⟩
     .simp [go_sem,List.map_set]
     .rw [show k+(j+1)=k+j+1 by omega,r,zc];simp;omega
     .rw [show k+(j+1)=k+j+1 by omega,r,<-I,List.take_add_one,qJ zOm,List.take_set_of_le zOm];rfl
     .rw [show k+(j+1)-1=k+j by omega,List.drop_set_of_lt zOm];exact a5
   .have ab:k+j=g.length:=by omega
    rw[ab,zw]at C I;simp[go_sem,f0,f3,f4,f5,a2,J,show i<g.length by omega,show i<=g.length by omega];refine qgS (e:=3) (bt:=8) (zv:=aI 0) (cells:=cur.map aI) zSi zSi rfl rfl zOm (zP1 a0) zSo zOm ?_;have hZ:∀ zs:List AV,zs.length=g.length-i->(putCells (cur.map aI) i zs).length=g.length/\(putCells (cur.map aI) i zs).take i=(cur.map aI).take i:=by
     intro zs hz;rw[jl _ _ _ zSo];refine⟨zSo,?_⟩;rw[zE,List.take_append,vM,Nat.min_eq_left zSo,Nat.sub_self,List.take_zero,zV,List.take_take,Nat.min_self]
    have hz:=hZ ((qu ((g.length-i)*1)).map fun j=>(aI 0).cells.getD (j % 1) .any) zSp;generalize putCells (cur.map aI) i _=Z at hz⊢;simp[go_sem,f0,f3,show i<=g.length by omega];refine⟨C,Z,rfl,hz.1,?_⟩;rw[<-C,hz.2,<-List.map_take,I]
  .rw [if_neg (by simpa using hp)]at o
   have ad:g.take (k+1)=g.take k++[g[k]]:=by rw[List.take_add_one,qA p];rfl
   simp[go_sem,e0,e3,p,hb,hw,t,hp,r1,r2,g1,g2];refine Keep.loop (g.length-(k+1)) zOm ⟨k+1,rfl,zOm,zOm,zS1 e0,?_,zSi,by rw[o,ad]⟩;simp[go_sem];exact qi zOm zOm
 .have ae:k=g.length:=by omega
  subst ae;rw[zw]at hi;simp[go_sem,e0,e3,hm];rw[hi];exact⟨rfl,g.map aI,(W7 hb).symm,zSp,by rw[ye zSp]⟩
end EN
namespace E4
open E1
theorem qgU(n k:Int)(I:0<=n)(J:n<=20):qd qb 206 [aI n,aI k] (aI (powI n k)):=by
 refine qd.of_sound (qe.of_awp call206 func206 rfl (qh zKr) zKr (pl:={}) ?_);simp[go_sem];refine qn.up (powN k) (fun i U=>U.tm 0=aI n/\U.tm 1=aI k/\U.tm 5=aI (n ^ i)/\U.tm 6=aI i/\U.mu=[]) ?_ ?_
 .simp [go_sem]
 rintro i U R ⟨P,o,p,r,t⟩;by_cases g:i<powN k
 .have l:(i:Int)<k:=by unfold powN at g;omega
  have C:(i:Int)<3:=by unfold powN at g;omega
  have hp:=VU I J (i+1) zOm;rw[Int.pow_succ]at hp;simp[go_sem,P,o,p,r,t,l,C];refine⟨g,?_,qi zOm zOm⟩;rw[Int.pow_succ,qi zOm zOm]
 .have j:i=powN k:=by omega
  by_cases l:(i:Int)<k
  .have C:¬(i:Int)<3:=by unfold powN at g;omega
   simp[go_sem,o,p,r,t,l,C];rw[powI,j];exact .zsc _
  .simp [go_sem,o,p,r,t,l]
   rw[powI,j];exact .zsc _
theorem qgV(n:Int)(r:Rl)(hl:r.ts.length<=9223372036854775807):qd qb 132 [aI n,eRel r] (aB (jN n r)):=by
 refine qd.of_sound (qe.of_awp call132 func132 rfl (qh zKr) zKr (pl:={}) ?_);by_cases R:n<0
 case pos =>
  simp[go_sem,R,jN,show ¬ 0<=n by omega];exact .zsc _
 by_cases o:12<n
 case pos =>
  simp[go_sem,R,o,jN,show ¬n<=12 by omega];exact .zsc _
 by_cases h3:r.ar<1
 case pos =>
  simp[go_sem,R,o,h3,jN,show ¬ 1<=r.ar by omega];exact .zsc _
 by_cases h4:3<r.ar
 case pos =>
  simp[go_sem,R,o,h3,h4,jN,show ¬r.ar<=3 by omega];exact .zsc _
 simp[go_sem,R,o,h3,h4];refine qn.up r.ts.length (fun k U=>U.tm 0=aI n/\U.tm 3 = .ip [aI r.ar,lI r.ts]/\U.tm 5=aI k/\U.mu=[]/\∀(i:Nat) (h:i<r.ts.length),i<k->0<=r.ts[i]/\r.ts[i]<powI n r.ar/\(0<i->r.ts[i-1]<r.ts[i])) ?_ ?_
 .simp [go_sem]
 rintro k U hk ⟨e0,I,J,hm,he⟩;by_cases g:k<r.ts.length
 .have p:¬(0<=r.ts[k]/\r.ts[k]<powI n r.ar)->jN n r=false:=by
   intro C;have:r.ts.all (fun t=>decide (0<=t)&&decide (t<powI n r.ar))=false:=by
    rw[<-Bool.not_eq_true,qI];intro j;have:=j _ (qy g);simp at this;exact C this
   simp only[jN,this,Bool.and_false,Bool.false_and]
  have a0:0<k->¬(r.ts[k-1]<r.ts[k])->jN n r=false:=by
   intro hk C;have:¬yo r.ts:=fun h=>C (qgH h zOm g)
   simp only[jN,this,decide_false,Bool.and_false]
  have hw:0<k->qj.wrap ((k:Int)-1)=((k-1:Nat):Int):=fun h=>by rw[qi zOm zOm];omega
  have next:0<=r.ts[k]->r.ts[k]<powI n r.ar->(0<k->r.ts[k-1]<r.ts[k])->k<r.ts.length/\qj.wrap ((k:Int)+1)=(k:Int)+1/\∀(i:Nat) (h:i<r.ts.length),i<k+1->0<=r.ts[i]/\r.ts[i]<powI n r.ar/\(0<i->r.ts[i-1]<r.ts[i]):=by
   intro n1 n2 n3;refine⟨g,qi zOm zOm,fun i h P=>?_⟩;rcases uh.1 P with o|o
   .exact he i h o
   .subst o;exact⟨n1,n2,n3⟩
  simp[go_sem,I,J,hm,g];refine qg.intro zKr ?_;simp[go_sem,I,J,g];by_cases ha:r.ts[k]<0
  .simp [go_sem,ha]
   rw[p zOm];exact .zsc _
  simp[go_sem,e0,I,J,g,ha];refine qc.pure (qgU n r.ar zOm zOm) (.zs (.zs .nil)) ?_;by_cases C:powI n r.ar<=r.ts[k]
  .simp [go_sem,C]
   rw[p zOm];exact .zsc _
  by_cases l:0<k
  .have hw:=hw l
   have a1:k-1<r.ts.length:=zOm;by_cases hc:r.ts[k]<=r.ts[k-1]
   .simp [go_sem,I,J,g,C,l,hw,a1,hc]
    rw[a0 l zOm];exact .zsc _
   .simp [go_sem,e0,I,J,g,C,l,hw,a1,hc]
    exact(next zOm zOm (fun _=>zOm)).2
  .simp [go_sem,e0,I,J,g,C,l]
   exact(next zOm zOm (fun _=>zOm)).2
 .have a2:k=r.ts.length:=by omega
  subst a2;have j:r.ts.all (fun t=>decide (0<=t)&&decide (t<powI n r.ar))=true:=by
   rw[qI];intro t ht;obtain⟨i,P,rfl⟩:=List.getElem_of_mem ht;have:=he i P P;simp;omega
  have a3:yo r.ts:=qgG fun i P=>by simpa using (he (i+1) P P).2.2 zOm
  simp[go_sem,I,J,hm];simp only[jN,j,a3,show 0<=n by omega,show n<=12 by omega,show 1<=r.ar by omega,show r.ar<=3 by omega];exact .zsc _
theorem qgW(a b:List Int)(ha:a.length<=9223372036854775807):qd qb 118 [lI a,lI b] (aB (decide (a=b))):=by
 refine qd.of_sound (qe.of_awp call118 func118 rfl (qh zKr) zKr (pl:={}) ?_);by_cases p:a.length=b.length
 case neg =>
  simp[go_sem,p];rw[decide_eq_false (by rintro rfl;exact p rfl)];exact .zsc _
 simp[go_sem,p];refine qn.up a.length (fun k U=>U.tm 0=lI a/\U.tm 1=lI b/\U.tm 12=aI a.length/\U.tm 13=aI k/\U.mu=[]/\∀(i:Nat) (h:i<a.length) (r:i<b.length),i<k->a[i]=b[i]) ?_ ?_
 .simp [go_sem,p]
 rintro k U hk ⟨J,P,j,l,R,he⟩;by_cases o:k<a.length
 .have g:k<b.length:=by omega
  simp[go_sem,j,l,R,o]
  try refine qg.intro zKr ?_
  by_cases t:a[k]=b[k]
  .simp [go_sem,J,P,j,l,o,g,t]
   refine⟨qi zOm zOm,fun i h r hi=>?_⟩;rcases uh.1 hi with C|C
   .exact he i h r C
   .subst C;exact t
  .simp [go_sem,J,P,o,g,t]
   rw[decide_eq_false (by rintro rfl;simp at t)];exact .zsc _
 .have I:k=a.length:=by omega
  subst I;simp[go_sem,j,l,R];rw[decide_eq_true (List.ext_getElem p fun i h r=>he i h r h)];exact .zsc _
theorem qgX(a b:Rl)(j:a.ts.length<=9223372036854775807):qd qb 111 [eRel a,eRel b] (aB (decide (a=b))):=by
 have g:(a=b)=(a.ar=b.ar/\a.ts=b.ts):=by cases a;cases b;simp
 refine qd.of_sound (qe.of_awp call111 func111 rfl (qh zKr) zKr (pl:={}) ?_);by_cases i:a.ar=b.ar
 case neg =>
  simp[go_sem,i,g];exact .zsc _
 simp[go_sem,i];refine qc.pure (qgW a.ts b.ts j) (.zk (yA _) (.zk (yA _) .nil)) ?_;simp[go_sem,i,g];exact .zsc _
theorem gF(a b:Rl)(hl:a.ts.length<=4611686018427387904):qd qb 57 [eRel a,eRel b] (aB (decide (a=b))):=by
 have o:(a=b)=(a.ar=b.ar/\a.ts=b.ts):=by cases a;cases b;simp
 refine qd.of_sound (qe.of_awp call57 func57 rfl (qh zKr) zKr (pl:={}) ?_);by_cases p:a.ar=b.ar
 case neg =>
  simp[go_sem,p,o];exact .zsc _
 by_cases j:a.ts.length=b.ts.length
 case neg =>
  simp[go_sem,p,j];rw[decide_eq_false (by rintro rfl;exact j rfl)];exact .zsc _
 simp[go_sem,p,j];refine qn.up a.ts.length (fun k U=>U.tm 2 = .ip [aI a.ar,lI a.ts]/\U.tm 3 = .ip [aI b.ar,lI b.ts]/\U.tm 5=aI k/\U.mu=[]/\∀(i:Nat) (h:i<a.ts.length) (C:i<b.ts.length),i<k->a.ts[i]=b.ts[i]) ?_ ?_
 .simp [go_sem,p]
 rintro k U hk ⟨r,R,t,J,he⟩;by_cases g:k<a.ts.length
 .have l:k<b.ts.length:=by omega
  by_cases I:a.ts[k]=b.ts[k]
  .simp [go_sem,r,t,J,g]
   refine qg.intro zKr ?_;simp[go_sem,r,R,t,g,l,I];refine⟨qi zOm zOm,fun i h C hi=>?_⟩;rcases uh.1 hi with j|j
   .exact he i h C j
   .subst j;exact I
  .simp [go_sem,r,t,J,g]
   refine qg.intro zKr ?_;simp[go_sem,r,R,t,g,l,I];rw[decide_eq_false (by rintro rfl;exact I rfl)];exact .zsc _
 .have P:k=a.ts.length:=by omega
  subst P;simp[go_sem,r,t,J];rw[decide_eq_true (o ▸ ⟨p,List.ext_getElem j fun i h C=>he i h C h⟩)];exact .zsc _
end E4
namespace EO
open YS
section
variable {J:Type}{s:AV}{K:AV->Mu->Prop}{l:List Int}{mu:Mu}{P:j1}
def FnOk(P:j1)(o:AV){J:Type}(enc:J->AV)(ok:J->Prop)(g:J->AV):Prop:=
 HF o/\∃ l first j,o = .fn (.func l) first j/\∀ x,ok x->∃ i,WKs (first++[enc x]++j) i/\qd P l i (g x)
theorem FnOk.call{o:AV}{enc:J->AV}{ok:J->Prop}{g:J->AV}(h:FnOk P o enc ok g){x:J}(hx:ok x){det:Bool}{mu:Mu}{K p:AV->Mu->Prop}(k:K (g x) mu):qc P det mu o [enc x] K p:=by
 obtain⟨_,l,first,j,rfl,h⟩:=h;obtain⟨i,r,t⟩:=h x hx;exact .inl ⟨g x,.inl ⟨l,first,j,i,rfl,t,.inl r⟩,k⟩
def qx:AV->Option Nat
 | .sl b _ _ _=>some b
 |_=>none
def OwnI(mu:Mu)(s:AV)(l:List Int):Prop:=(s = .lst true []/\l=[])\/∃ b,s = .sl b 1 0 l.length/\mu[b]?=some (.arr (l.map aI))
def OwnV(mu:Mu)(s:AV)(l:List Int):Prop:=(s = .lst true []/\l=[])\/∃ b cells,s = .sl b 1 0 l.length/\mu[b]?=some (.arr cells)/\l.length<=cells.length/\cells.take l.length=l.map aI
theorem OwnI.v(h:OwnI mu s l):OwnV mu s l:=by
 rcases h with h|⟨b,g,i⟩
 .exact .inl h
 .exact .inr ⟨b,_,g,i,zSp,by rw[ye zSp]⟩
theorem OwnV.one(h:OwnV mu s l):s.one=true:=by
 rcases h with ⟨rfl,_⟩|⟨b,c,rfl,_⟩<;>rfl
theorem OwnV.cells(h:OwnV mu s l):s.cells=[s]:=by
 rcases h with ⟨rfl,_⟩|⟨b,c,rfl,_⟩<;>rfl
theorem OwnV.same{mu':Mu}(h:OwnV mu s l)(g:∀ b,qx s=some b->mu'[b]?=mu[b]?):OwnV mu' s l:=by
 rcases h with h|⟨b,c,rfl,i,j,o⟩
 .exact .inl h
 .exact .inr ⟨b,c,rfl,by rw[g b rfl];exact i,j,o⟩
theorem OwnI.same{mu':Mu}(h:OwnI mu s l)(g:∀ b,qx s=some b->mu'[b]?=mu[b]?):OwnI mu' s l:=by
 rcases h with h|⟨b,rfl,i⟩
 .exact .inl h
 .exact .inr ⟨b,rfl,by rw[g b rfl];exact i⟩
theorem OwnV.lt(h:OwnV mu s l){b:Nat}(g:qx s=some b):b<mu.length:=by
 rcases h with ⟨rfl,_⟩|⟨j,c,rfl,i,_⟩
 .cases g
 .cases g;exact(qk.1 i).1
theorem OwnV.rd(h:OwnV mu s l):Rd mu s (lI l):=by
 rcases h with ⟨rfl,rfl⟩|⟨b,cells,rfl,o,p,j⟩
 .exact .wk _ true _ (.hf _ (HF.lst fun r t=>by simp at t))
 .refine .sl b 1 0 _ cells _ o (zUs p) zSp (fun x hx=>by
   obtain⟨l,_,rfl⟩:=qr.1 hx;rfl) (fun k x y hx g=>?_)
  rw[yy]at hx;rw[VO,<-j,jp]at g;split at g
  .rw [hx]at g;cases g
   have:x∈cells.take l.length:=by
    refine qV (i:=k) ?_;rw[jp,if_pos (by assumption)];exact hx
   rw[j]at this;obtain⟨z,_,rfl⟩:=qr.1 this;exact .zsc _
  .exact absurd g zSp
theorem qF.ownVs{t g e bt:Nat}{x:AV}{ys:List Int}{z:Int}(I:qN P t=some (e,1,bt))(j:(qN P g).isSome=true)(J:qC P e=some (aI z))
  (R:bt<=16384) (T:OwnV mu s l) (hx:qO mu x=some (ys.map rI)) (C:l.length+ys.length<=4294967296)
  (k:∀ av mu',OwnI mu' av (l++ys)->(∀ i,i<mu.length->qx s≠some i->mu'[i]?=mu[i]?)->mu.length<=mu'.length->(∀ b,qx av=some b->b=mu.length)->K av mu'):qF P mu #[t,g] s x K:=by
 refine .inl ⟨t,g,e,1,bt,ys.map rI,rfl,I,j,⟨_,J,rfl,rfl⟩,zOm,R,hx,wJ ys,?_⟩;rcases T with ⟨rfl,rfl⟩|⟨b,cells,rfl,U,h1,h2⟩
 .refine .inl ⟨[],rfl,fun r hr=>by simp at hr,zUs C,fun h=>?_,fun h=>?_⟩
  .have:ys=[]:=by simpa using h
   subst this;exact k _ _ (.inl ⟨rfl,rfl⟩) (fun _ _ _=>rfl) (qm _) (fun _ h=>by cases h)
  .refine k _ _ (.inr ⟨mu.length,zSp,by simp[VO]⟩) (fun i o _=>?_) zSp (fun b h=>by cases h;rfl)
   rw[qo o]
 .refine .inr ⟨b,l.length,cells,rfl,U,zUs h1,zUs C,?_⟩
  have e1:cells.take (l.length*1)++(ys.map rI).flatten=(l++ys).map aI:=by rw[Nat.mul_one,h2,zx,VO]
  have e2:l.length+(ys.map rI).length=(l++ys).length:=zSp;rw[e1,e2];refine k _ _ (.inr ⟨mu.length,rfl,?_⟩) (fun i o p=>?_) zSp (fun b h=>by cases h;rfl)
  .rw [zf zSp];simp
  .rw [qo (zUs o),qv (fun h=>p (by rw[h];rfl))]
theorem qF.ownV1{t o e bt:Nat}{x z:Int}(p:qN P t=some (e,1,bt))(g:(qN P o).isSome=true)(r:qC P e=some (aI z))
  (C:bt<=16384) (I:OwnV mu s l) (J:l.length+1<=4294967296)
  (k:∀ av mu',OwnI mu' av (l++[x])->(∀ i,i<mu.length->qx s≠some i->mu'[i]?=mu[i]?)->mu.length<=mu'.length->(∀ b,qx av=some b->b=mu.length)->K av mu'):qF P mu #[t,o] s (.lst true [[aI x]]) K:=
 qF.ownVs (ys:=[x]) p g r C I rfl J k
theorem sumG(l:List Int)(P:l.length<=1000000)(I:∀ k,0<=sumI (l.take k)/\sumI (l.take k)<=1000000):qd qb 185 [lI l] (aI (sumI l)):=by
 refine qd.of_sound (qe.of_awp call185 func185 rfl (qh zKr) zKr (pl:={}) ?_);simp[go_sem];refine qn.up l.length (fun k U=>U.tm 6=lI l/\U.tm 7=aI l.length/\U.tm 3=aI (sumI (l.take k))/\U.tm 8=aI k/\U.mu=[]) ?_ ?_
 .simp [go_sem,sumI]
 rintro k U R ⟨J,o,p,r,t⟩;by_cases g:k<l.length
 .have C:=Zs l k g
  have i:=I (k+1);rw[C]at i;simp[go_sem,J,o,p,r,t,g];exact⟨by rw[C,qi zOm zOm],qi zOm zOm⟩
 .have j:k=l.length:=by omega
  subst j;simp[go_sem,o,p,r,t];exact .zsc _
theorem W8(sc:Sc)(g:GSc sc):qd qb 107 [eSc sc] (aI (sumI sc.atoms)):=by
 refine qd.of_sound (qe.of_awp call107 func107 rfl (qh zKr) zKr (pl:={}) ?_);simp[go_sem];refine qc.pure (sumG _ (zP g.1 zOm) fun k=>zW1 (g.sum k)) (.zk (yA _) .nil) ?_;simp[go_sem];exact .zsc _
theorem qgY(sc:Sc)(g:GSc sc)(s:Nat)(i:s<=sc.atoms.length):qd qb 250 [eSc sc,aI s] (aI (sumI (sc.atoms.take s))):=by
 refine qd.of_sound (qe.of_awp call250 func250 rfl (qh zKr) zKr (pl:={}) ?_);have j:WKs [.lst false ((sc.atoms.map rI).take s)] [lI (sc.atoms.take s)] := .cons (by rw[<-List.map_take];exact .hf (yA _)) .nil;simp[go_sem,i];refine⟨⟨_,_,⟨rfl,rfl⟩,(wJ sc.atoms).ok⟩,?_⟩;refine qc.pure (sumG (sc.atoms.take s) (by simp;have:=g.1;omega) fun k=>by rw[List.take_take];have:=g.sum (min k s);omega) j ?_;simp[go_sem];exact .zsc _
def jZ(p:J->Bool):List J->Int->Int
 | [],_ => -1
 |x :: l,i=>if p x=true then i else jZ p l (i+1)
theorem gG(p:J->Bool)(l:List J)(k:Nat)(i:Int)(h:k<l.length):jZ p (l.drop k) i=if p l[k]=true then i else jZ p (l.drop (k+1)) (i+1):=by
 rw[zt h,jZ]
theorem W9(p:J->Bool):∀(l:List J) (i:Int),0<=i->decide (0<=jZ p l i)=l.any p
 | [],i,h=>by simp[jZ]
 |x :: l,i,h=>by
  rw[jZ,List.any_cons];cases hp:p x with
  |true=>simp[h]
  |false=>simpa using W9 p l (i+1) zOm
theorem qgZ(xs:List Int)(y:Int)(I:xs.length<=1000000000):qd qb 270 [lI xs,aI y] (aI (jZ (fun x=>decide (x=y)) xs 0)):=by
 refine qd.of_sound (qe.of_awp call270 func270 rfl (qh zKr) zKr (pl:={}) ?_);simp[go_sem];refine qn.up xs.length (fun k U=>U.tm 0=lI xs/\U.tm 1=aI y/\U.tm 7=aI xs.length/\U.tm 8=aI k/\U.mu=[]/\jZ (fun x=>decide (x=y)) (xs.drop k) k=jZ (fun x=>decide (x=y)) xs 0) ?_ ?_
 .simp [go_sem]
 rintro k U J ⟨t,C,j,l,o,g⟩;by_cases i:k<xs.length
 .rw [gG _ _ _ _ i]at g
  by_cases hx:xs[k]=y
  .rw [if_pos (by simpa using hx)]at g
   subst hx;simp[go_sem,t,C,j,l,o,i];rw[<-g];exact .zsc _
  .rw [if_neg (by simpa using hx)]at g
   have p:¬y=xs[k]:=fun h=>hx h.symm
   simp[go_sem,t,C,j,l,o,i,p];exact⟨qi zOm zOm,g⟩
 .have r:k=xs.length:=by omega
  subst r;rw[yk]at g;simp[go_sem,j,l,o];rw[<-g];exact .zsc _
theorem qg0(xs:List Int)(y:Int)(g:xs.length<=1000000000):qd qb 227 [lI xs,aI y] (aB (decide (y∈xs))):=by
 refine qd.of_sound (qe.of_awp call227 func227 rfl (qh zKr) zKr (pl:={}) ?_);simp[go_sem];refine qc.pure (qgZ xs y g) (.zk (yA _) (.zs .nil)) ?_;have e:decide (y∈xs)=decide (0<=jZ (fun x=>decide (x=y)) xs 0):=by
  rw[W9 _ _ _ zOm,vO,List.any_eq_true];simp
 rw[e];simp[go_sem];exact .zsc _
abbrev lB(xs:List Bool):AV := .lst false (xs.map fun b=>[aB b])
theorem Xa(xs:List Bool):HF (lB xs):=HF.lst fun r i c g=>by
 obtain⟨n,_,rfl⟩:=qr.1 i;simp at g;subst g;exact HF.sc _
theorem qg1(xs:List Bool)(y:Bool)(I:xs.length<=1000000000):qd qb 226 [lB xs,aB y] (aI (jZ (fun x=>decide (x=y)) xs 0)):=by
 refine qd.of_sound (qe.of_awp call226 func226 rfl (qh zKr) zKr (pl:={}) ?_);simp[go_sem];refine qn.up xs.length (fun k U=>U.tm 0=lB xs/\U.tm 1=aB y/\U.tm 7=aI xs.length/\U.tm 8=aI k/\U.mu=[]/\jZ (fun x=>decide (x=y)) (xs.drop k) k=jZ (fun x=>decide (x=y)) xs 0) ?_ ?_
 .simp [go_sem]
 rintro k U J ⟨t,C,j,l,o,g⟩;by_cases i:k<xs.length
 .rw [gG _ _ _ _ i]at g
  by_cases hx:xs[k]=y
  .rw [if_pos (by simpa using hx)]at g
   subst hx;simp[go_sem,t,C,j,l,o,i];rw[<-g];exact .zsc _
  .rw [if_neg (by simpa using hx)]at g
   have p:(y == xs[k])=false:=by simpa using fun h=>hx h.symm
   simp[go_sem,t,C,j,l,o,i,p];exact⟨qi zOm zOm,g⟩
 .have r:k=xs.length:=by omega
  subst r;rw[yk]at g;simp[go_sem,j,l,o];rw[<-g];exact .zsc _
theorem qg2(xs:List Bool)(y:Bool)(g:xs.length<=1000000000):qd qb 149 [lB xs,aB y] (aB (decide (y∈xs))):=by
 refine qd.of_sound (qe.of_awp call149 func149 rfl (qh zKr) zKr (pl:={}) ?_);simp[go_sem];refine qc.pure (qg1 xs y g) (.zk (Xa _) (.zs .nil)) ?_;have e:decide (y∈xs)=decide (0<=jZ (fun x=>decide (x=y)) xs 0):=by
  rw[W9 _ _ _ zOm,vO,List.any_eq_true];simp
 rw[e];simp[go_sem];exact .zsc _
end
end EO
namespace F1
open Y1 YF E3 EO
abbrev cMa(x:Mo):List AV:=cMd x.m++(cTS x.ts++[aI x.n])
abbrev eMa(x:Mo):AV := .ip (cMa x)
abbrev cPl(p:Pl):List AV:=[aI p.st,lPm p.env]
abbrev ePl(p:Pl):AV := .agg (cPl p)
theorem qg3(l:List (List Rl)):HF (lSt l):=HF.lst fun r i c g=>by
 obtain⟨n,_,rfl⟩:=qr.1 i;simp at g;subst g;exact qfK _
theorem gH(m:Md):∀ c,c∈cMd m->HF c:=by
 intro c g;simp at g;rcases g with rfl|rfl|rfl|rfl
 .exact yA _
 .exact HF.sc _
 .exact qg3 _
 .exact HF.sc _
theorem yK(m:Md):HF (eMd m):=HF.agg (gH m)
theorem zO(x:Mo):HF (eMa x):=HF.ip fun c g=>by
 rcases qM.1 g with g|g
 .exact gH _ c g
 .rcases qM.1 g with g|g
  .exact Z8 _ c g
  .rw [qL]at g;subst g;exact HF.sc _
theorem VZ(p:Pl):HF (ePl p):=HF.agg fun c g=>by
 simp at g;rcases g with rfl|rfl
 .exact HF.sc _
 .exact vV _
theorem wk3(x:Mo)(p:Pl)(n:Nd):WKs [eMa x,ePl p,eNd n] [eMa x,ePl p,eNd n] := .zk (zO x) (.zk (VZ p) (.zk (qz n) .nil))
abbrev errV(e:Int):AV := .ifc 43 (aI e)
theorem qR(e:Int):HF (errV e):=HF.ifc (HF.sc _)
def endE:XE Rl->AEnd
 | .ok r => .ret (eRel r)
 | .error e => .pan (errV e)
def endN:XE Int->AEnd
 | .ok r => .ret (aI r)
 | .error e => .pan (errV e)
def endB:XE Bool->AEnd
 | .ok r => .ret (aB r)
 | .error e => .pan (errV e)
def end2:XE (Rl×Rl)->AEnd
 | .ok r => .ret (.tup [eRel r.1,eRel r.2])
 | .error e => .pan (errV e)
@[go_sem] theorem endE_ok(r:Rl):endE (.ok r) = .ret (eRel r):=rfl
@[go_sem] theorem endE_err(e:Int):endE (.error e) = .pan (errV e):=rfl
@[go_sem] theorem endN_ok(r:Int):endN (.ok r) = .ret (aI r):=rfl
@[go_sem] theorem endN_err(e:Int):endN (.error e) = .pan (errV e):=rfl
@[go_sem] theorem endB_ok(r:Bool):endB (.ok r) = .ret (aB r):=rfl
@[go_sem] theorem endB_err(e:Int):endB (.error e) = .pan (errV e):=rfl
@[go_sem] theorem end2_ok(r:Rl×Rl):end2 (.ok r) = .ret (.tup [eRel r.1,eRel r.2]):=rfl
@[go_sem] theorem end2_err(e:Int):end2 (.error e) = .pan (errV e):=rfl
theorem u3(e:Int):qU qb 154 [aI e] (.pan (errV e)):=by
 refine za.of_sound ?_;refine qe.of_awp call154 func154 rfl (qh zKr) zKr (pl:={}) ?_;simp[go_sem];exact⟨_,_,⟨rfl,rfl⟩,.hf _ (qR _)⟩
theorem wkI(e:Int):WKs [aI e] [aI e] := .zs .nil
theorem V0(r:Rl)(e:Int):qU qb 252 [eRel r,aI e] (if e=0 then .ret (eRel r) else .pan (errV e)):=by
 refine za.of_sound ?_;refine qe.of_awp call252 func252 rfl (qh zKr) zKr (pl:={}) ?_;by_cases h:e=0
 .simp [go_sem,h]
  exact .hf _ (q9 r)
 .simp [go_sem,h]
  refine qc.pans (u3 e) (wkI e) ?_;simp[go_sem];exact .hf _ (qR _)
theorem Xb(x:Mo)(g:GSc x.m.sc):qd qb 70 [eTS x.ts,eMd x.m] (eMa x):=by
 refine qd.of_sound (qe.of_awp call70 func70 rfl (qh zKr) zKr (pl:={}) ?_);simp[go_sem];refine qg.intro zKr ?_;simp[go_sem];refine qc.pure (W8 x.m.sc g) (.zk (jx _) .nil) ?_;simp[go_sem];exact .hf _ (zO x)
theorem Xc(mu:Mu)(b:Nat)(e:Int)(g:mu[b]?=some (.arr [aI e])):yn qb 69 [.ptr b 0] mu none fun mu'=>mu'=mu:=by
 refine yn.of_awp call69 func69 rfl ⟨_,_,_,_,rfl⟩ (qh zKr) zKr zKr (pl:={}) ?_;simp[go_sem]
theorem Xd(mu:Mu)(b:Nat)(y e:Int)(g:mu[b]?=some (.arr [aI y])):yn qb 69 [.ptr b 0] mu (some (errV e)) fun mu'=>mu'=mu.set b (.arr [aI e]):=by
 refine yn.of_awp call69 func69 rfl ⟨_,_,_,_,rfl⟩ (qh zKr) zKr zKr (pl:={}) ?_;simp[go_sem,g]
end F1
namespace EP
open E1 EO
section
variable {J:Type}{cs:List (Int×AV)}{g:List (Int×List Int)}{mu:Mu}{b:Nat}
theorem keyI:KeyT qb 3 (fun n:Int=>aI n) (fun _=>True):=by
 refine⟨fun a b _ _=>?_,fun a _=>zSi⟩;simp[go_sem]
theorem yL{l:List J}{n:Nat}(h:n<l.length):l.take (n+1)=l.take n++[l[n]]:=by rw[List.take_add_one,qA h];rfl
def cntK(f:Int->Int)(ts:List Int):List (Int×Int):=ts.foldl (fun m t=>setK (f t) ((getK (f t) m).getD 0+1) m) []
theorem gJ(f:Int->Int)(ts:List Int)(t:Int):cntK f (ts++[t])=setK (f t) ((getK (f t) (cntK f ts)).getD 0+1) (cntK f ts):=by simp[cntK,ue]
theorem V1(f:Int->Int)(ts:List Int):∀ n,n<=ts.length->∀ k:Int,0<=(getK k (cntK f (ts.take n))).getD 0/\(getK k (cntK f (ts.take n))).getD 0<=n/\(0<(getK k (cntK f (ts.take n))).getD 0↔∃ t,t∈ts.take n/\f t=k)
 | 0,_,k=>by simp[cntK,getK]
 |n+1,h,k=>by
  obtain⟨l,p,o⟩:=V1 f ts n zOm k;have j:n<ts.length:=zOm;obtain⟨g1,r,_⟩:=V1 f ts n zOm (f ts[n]);rw[yL j,gJ,jB];by_cases i:k=f ts[n]
  .rw [if_pos i]
   simp only[Option.getD_some];exact⟨zOm,zOm,fun _=>⟨ts[n],List.mem_append_right _ (qL.2 rfl),i.symm⟩,fun _=>zOm⟩
  .rw [if_neg i]
   refine⟨l,zOm,o.trans ⟨fun⟨t,g,e⟩=>⟨t,jc _ g,e⟩,fun⟨t,g,e⟩=>?_⟩⟩;rcases qM.1 g with g|g
   .exact ⟨t,g,e⟩
   .rw [qL]at g;subst g;exact absurd e.symm i
theorem gK(f:Int->Int)(ts:List Int)(k:Int):0<=(getK k (cntK f ts)).getD 0/\(0<(getK k (cntK f ts)).getD 0↔∃ t,t∈ts/\f t=k):=by
 have:=V1 f ts ts.length (qm _) k;rw[zw]at this;exact⟨this.1,this.2.2⟩
def grpK(m:Int)(ys:List Int):List (Int×List Int):=ys.foldl (fun g y=>setK (y / m) ((getK (y / m) g).getD []++[y % m]) g) []
theorem gL(m:Int)(ys:List Int)(y:Int):grpK m (ys++[y])=setK (y / m) ((getK (y / m) (grpK m ys)).getD []++[y % m]) (grpK m ys):=by simp[grpK,ue]
theorem V2(m:Int)(ys:List Int):∀ n,n<=ys.length->∀ k:Int,(getK k (grpK m (ys.take n))).getD []=((ys.take n).filter fun y=>decide (y / m=k)).map fun y=>y % m
 | 0,_,k=>by simp[grpK,getK]
 |n+1,h,k=>by
  have j:=V2 m ys n zOm;have i:n<ys.length:=zOm;rw[yL i,gL,jB,List.filter_append,zx];by_cases g:k=ys[n] / m
  .rw [if_pos g,Option.getD_some,<-g,j k]
   simp[g]
  .rw [if_neg g,j k]
   have:¬ys[n] / m=k:=fun e=>g e.symm
   simp[this]
theorem gM{i:Type}(q:Int->Int)(v:List (Int×i)->Int->i):∀(l:List Int) (g:List (Int×i)),(g.map Prod.fst).Nodup->((l.foldl (fun g y=>setK (q y) (v g y) g) g).map Prod.fst).Nodup
 | [],g,h=>h
 |y :: l,g,h=>gM q v l _ (uV h)
theorem qg4(m:Int)(ys:List Int):((grpK m ys).map Prod.fst).Nodup:=gM (fun y=>y / m) (fun g y=>(getK (y / m) g).getD []++[y % m]) ys [] zSp
theorem gN{g:Type}(k:Int)(v:J)(w:g):∀{es:List (Int×J)} {fs:List (Int×g)},es.map Prod.fst=fs.map Prod.fst->(setK k v es).map Prod.fst=(setK k w fs).map Prod.fst
 | [],[],_=>rfl
 |e :: es,f :: fs,h=>by
  simp only[yc,uN]at h;unfold setK;rw[<-h.1];split
  .simp [h.2]
  .simp [h.1,gN k v w h.2]
 | [],_ :: _,h=>by simp at h
 |_ :: _,[],h=>by simp at h
theorem gO{g:Type}(k:Int):∀{es:List (Int×J)} {fs:List (Int×g)},es.map Prod.fst=fs.map Prod.fst->(getK k es=none↔getK k fs=none)
 | [],[],_=>by simp[getK]
 |e :: es,f :: fs,h=>by
  simp only[yc,uN]at h;unfold getK;rw[<-h.1];split
  .simp
  .exact gO k h.2
 | [],_ :: _,h=>by simp at h
 |_ :: _,[],h=>by simp at h
structure GrpM (mu:Mu) (b:Nat) (g:List (Int×List Int)) (cs:List (Int×AV)):Prop where
 at0:mu[b]?=some (.mp (encK (fun n:Int=>aI n) id cs))
 keys:cs.map Prod.fst=g.map Prod.fst
 own:∀ k v,getK k cs=some v->∃ l,getK k g=some l/\OwnI mu v l
 inj:∀ k k' v v' x,getK k cs=some v->getK k' cs=some v'->qx v=some x->qx v'=some x->k=k'
 ne:∀ k v,getK k cs=some v->qx v≠some b
theorem GrpM.cur(h:GrpM mu b g cs)(k:Int):OwnI mu ((getK k cs).getD (.lst true [])) ((getK k g).getD []):=by
 cases i:getK k cs with
 |none=>rw[(gO k h.keys).1 i];exact .inl ⟨rfl,rfl⟩
 |some v=>obtain⟨l,j,o⟩:=h.own k v i;rw[j];exact o
theorem GrpM.step{mu':Mu}(h:GrpM mu b g cs){k:Int}{av:AV}{l:List Int}(ho:OwnI mu' av l)(hs:∀ i,i<mu.length->qx ((getK k cs).getD (.lst true []))≠some i->mu'[i]?=mu[i]?)(hb:∀ x,qx av=some x->x=mu.length) :
  mu'[b]?=some (.mp (encK (fun n:Int=>aI n) id cs))/\GrpM (mu'.set b (.mp (encK (fun n:Int=>aI n) id (setK k av cs)))) b (setK k l g) (setK k av cs):=by
 have a0:b<mu.length:=(qk.1 h.at0).1;have a1:qx ((getK k cs).getD (.lst true []))≠some b:=by
  cases j:getK k cs with
  |none=>simp[qx]
  |some v=>exact h.ne k v j
 have C:=hs b a0 a1;have I:b<mu'.length:=by
  rw[h.at0]at C;exact(qk.1 C).1
 have J:qx av≠some b:=fun e=>zW1 (hb b e)
 have keep:∀{v:AV} {l:List Int},OwnI mu' v l->qx v≠some b->OwnI (mu'.set b (.mp (encK (fun n:Int=>aI n) id (setK k av cs)))) v l:=fun o hn=>o.same fun x hx=>by
  rw[qv (fun e=>hn (by rw[e];exact hx))]
 have a2:∀{t:Int} {v:AV} {l:List Int},t≠k->getK t cs=some v->OwnI mu v l->OwnI mu' v l:=fun a3 j o=>o.same fun x hx=>by
  have a4:=o.v.lt hx;refine hs x a4 fun e=>?_
  cases hc:getK k cs with
  |none=>rw[hc]at e;simp[qx]at e
  |some w=>rw[hc]at e;exact a3 (h.inj _ _ _ _ x j hc hx e)
 refine⟨by rw[C];exact h.at0,by rw[qJ I],gN k _ _ h.keys,fun t v j=>?_,fun k1 k2 v1 v2 x p r P R=>?_,fun t v j=>?_⟩
 .rw [jB]at j⊢
  by_cases e:t=k
  .rw [if_pos e]at j⊢;cases j;exact⟨l,rfl,keep ho J⟩
  .rw [if_neg e]at j⊢
   obtain⟨l',P,R⟩:=h.own t v j;exact⟨l',P,keep (a2 e j R) (h.ne t v j)⟩
 .rw [jB]at p r
  have lt:∀{t v},getK t cs=some v->qx v=some x->x<mu.length:=fun j hx=>by
   obtain⟨l',_,o⟩:=h.own _ _ j;exact o.v.lt hx
  by_cases U:k1=k
  .by_cases T:k2=k
   .rw [U,T]
   .rw [if_pos U]at p;rw[if_neg T]at r;cases p
    have:=hb x P;have:=lt r R;omega
  .by_cases T:k2=k
   .rw [if_neg U]at p;rw[if_pos T]at r;cases r
    have:=hb x R;have:=lt p P;omega
   .rw [if_neg U]at p;rw[if_neg T]at r
    exact h.inj _ _ _ _ x p r P R
 .rw [jB]at j
  by_cases e:t=k
  .rw [if_pos e]at j;cases j;exact J
  .rw [if_neg e]at j;exact h.ne t v j
theorem GrpM.nil(h:mu[b]?=some (.mp [])):GrpM mu b [] []:=⟨h,rfl,fun k v g=>by simp[getK]at g,fun k i v j x g=>by simp[getK]at g,fun k v g=>by simp[getK]at g⟩
theorem GrpM.rd(h:GrpM mu b g cs)(r:(g.map Prod.fst).Nodup):Rd mu (.mp b) (.im (encK (fun n:Int=>aI n) lI g)):=by
 have o:cs.length=g.length:=by have:=congrArg List.length h.keys;simpa using this
 have p:(cs.map Prod.fst).Nodup:=by rw[h.keys];exact r
 refine .mp b _ _ h.at0 (by simp[encK,o]) (fun k x y hx i=>?_) (fun k x y hx i=>?_)
 .have e:=congrArg (fun l=>l[k]?) h.keys
  simp only[zu]at e hx i;cases j:cs[k]? with
  |none=>rw[j]at hx;cases hx
  |some c =>
   cases hg:g[k]? with
   |none=>rw[hg]at i;cases i
   |some d =>
    rw[j]at hx;rw[hg]at i;rw[j,hg]at e;cases hx;cases i;simp only[zd,qp]at e;simp only[e];exact .zsc _
 .have e:=congrArg (fun l=>l[k]?) h.keys
  simp only[zu]at e hx i;cases j:cs[k]? with
  |none=>rw[j]at hx;cases hx
  |some c =>
   cases hg:g[k]? with
   |none=>rw[hg]at i;cases i
   |some d =>
    rw[j]at hx;rw[hg]at i;rw[j,hg]at e;cases hx;cases i;simp only[zd,qp]at e;obtain⟨l,t,C⟩:=h.own c.1 c.2 ((Ql p).2 (qV j));rw[e]at t;have:=(Ql r).2 (qV hg:(d.1,d.2)∈g);rw[t]at this;cases this;exact C.v.rd
theorem qg5(n m:Int)(x y:List Int):(x.flatMap fun s=>((getK (s % n) (grpK m y)).getD []).map fun t=>s / n*m+t)=joL n m x y:=by
 unfold joL;congr 1;funext s;have:=V2 m y y.length (qm _) (s % n);rw[zw]at this;rw[this,List.map_map];rfl
end
end EP
namespace EQ
open E1 EJ EM EN EO
theorem qF.zeros{P:j1}{mu:Mu}{t g e bt n:Nat}{z:Int}{K:AV->Mu->Prop}(i:qN P t=some (e,1,bt))(j:P.underlying g=some (.int .i64))(l:qC P e=some (aI z))(o:bt<=16384)(p:0<n)(C:n<=4294967296)
  (k:∀ c:List AV,K (.sl mu.length 1 0 n) (mu++[.arr c])):qF P mu #[t,g] (.lst true []) (aI n) K:=
 .inr (.inr ⟨t,g,e,1,bt,_,n,[],rfl,i,j,l,rfl,rfl,zOm,o,rfl,p,rfl,fun r I=>by simp at I,zUs C,by simpa using k _⟩)
theorem growE(mu:Mu)(n:Nat)(C:n<=1000000):qe qb 242 [.lst true [],aI n] mu fun e m=>∃ av,e = .ret av/\OwnV m av []/\(∀ i,i<mu.length->m[i]?=mu[i]?)/\mu.length<=m.length/\∀ b,qx av=some b->mu.length<=b:=by
 refine qe.of_awp call242 func242 rfl (qh zKr) zKr (pl:={}) ?_;have j:qj.wrap 0=0:=qi zOm zOm;have l:qj.wrap (n:Int)=n:=qi zOm zOm;have g:¬(n:Int)<0:=zOm;by_cases o:n=0
 .subst o
  simp[go_sem,j];exact⟨.inl ⟨rfl,rfl⟩,by simp[qx]⟩
 .have hp:0<n:=by omega
  simp[go_sem,j,l,g,hp];refine⟨⟨_,_,⟨rfl,rfl⟩,fun r p=>by simp at p⟩,?_⟩;refine qF.zeros (e:=3) (bt:=8) (z:=0) zSi zSi zSi zOm hp zOm ?_;intro c;simp[go_sem];refine⟨.inr ⟨mu.length,c,rfl,zSp,zSp,zSp⟩,fun i t=>by rw[qo t],by simp[qx]⟩
theorem qg6(mu:Mu)(a b:List Int)(ha:a.length<=100000)(hb:b.length<=100000):qe qb 172 [.lst true [[lI a],[lI b]]] mu fun e m=>∃ av,e = .ret av/\OwnI m av (a++b)/\(∀ i,i<mu.length->m[i]?=mu[i]?)/\mu.length<=m.length/\∀ x,qx av=some x->mu.length<=x:=by
 refine qe.of_awp call172 func172 rfl (qh zKr) zKr (pl:={}) ?_;have v1:qj.wrap 1=1:=qi zOm zOm;have v2:qj.wrap 2=2:=qi zOm zOm;simp[go_sem];have n0:¬((a.length:Int)+b.length)<0:=zOm;refine qn.up 2 (fun k U=>U.tm 0 = .lst true [[lI a],[lI b]]/\U.tm 3=aI ((if 0<k then (a.length:Int) else 0)+(if 1<k then (b.length:Int) else 0))/\U.tm 9 = .lst true [[lI a],[lI b]]/\U.tm 10=aI 2/\U.tm 11=aI k/\U.mu=mu) ?_ ?_
 .simp [go_sem]
 rintro k U hk ⟨e0,e3,e9,C,I,hm⟩;by_cases a0:k<2
 .have:k=0\/k=1:=by omega
  rcases this with rfl|rfl
  .have w1:qj.wrap (a.length:Int)=a.length:=qi zOm zOm
   have n1:¬(a.length:Int)<0:=zOm;simp[go_sem,e0,e3,e9,C,I,hm,w1,n1,v1]
  .have w1:qj.wrap ((a.length:Int)+b.length)=a.length+b.length:=qi zOm zOm
   simp[go_sem,e0,e3,e9,C,I,hm,w1,n0,v2]
 .have:k=2:=by omega
  subst this;have g:=growE mu (a.length+b.length) zOm;simp[go_sem,e3,C,I,hm];refine qc.eff0 (zUs g) ?_ ?_
  .rintro r m ⟨av,h,t,R,hl,o⟩
   cases h;simp[go_sem,e0];refine qn.up 2 (fun k U=>U.tm 25 = .lst true [[lI a],[lI b]]/\U.tm 26=aI 2/\U.tm 27=aI k/\(if k=0 then OwnV U.mu (U.tm 6) [] else OwnI U.mu (U.tm 6) (if k=1 then a else a++b))/\(∀ i,i<mu.length->U.mu[i]?=mu[i]?)/\mu.length<=U.mu.length/\∀ x,qx (U.tm 6)=some x->mu.length<=x) ?_ ?_
   .simp [go_sem]
    exact⟨t,R,hl,o⟩
   rintro k a4 hk ⟨f25,f26,f27,t,R,hl,o⟩;by_cases a0:k<2
   .have:k=0\/k=1:=by omega
    rcases this with rfl|rfl
    .rw [if_pos rfl]at t
     simp[go_sem,f25,f26,f27];refine qF.ownVs (e:=3) (bt:=8) (z:=0) (l:=[]) (ys:=a) zSi zSi zSi zOm t (by simp[qO]) zSo ?_;intro a1 a2 p J a3 P;simp at p;simp[go_sem,f25,f26,f27,v1];refine⟨p,fun i hi=>?_,zOm,fun x hx=>?_⟩
     .rw [J i zOm (fun e=>zW1 (o i e))];exact R i hi
     .have:=P x hx;omega
    .rw [if_neg zOm,if_pos rfl]at t
     simp[go_sem,f25,f26,f27];refine qF.ownVs (e:=3) (bt:=8) (z:=0) (l:=a) (ys:=b) zSi zSi zSi zOm t.v (by simp[qO]) zOm ?_;intro a1 a2 p J a3 P;simp[go_sem,f25,f26,f27,v2];refine⟨p,fun i hi=>?_,zOm,fun x hx=>?_⟩
     .rw [J i zOm (fun e=>zW1 (o i e))];exact R i hi
     .have:=P x hx;omega
   .have:k=2:=by omega
    subst this;rw[if_neg zOm,if_neg zOm]at t;simp[go_sem,f26,f27];exact⟨t,R,hl,o⟩
  .rintro r m ⟨av,h,_⟩
   cases h
theorem qg7(mu:Mu):qe qb 183 [.lst true []] mu fun e m=>e = .ret (.tup [])/\m=mu:=by
 refine⟨call183,fun G w o s g=>?_⟩;obtain⟨v,rfl,i⟩:=g.one_inv;obtain⟨p,cap,rfl⟩:∃ p cap,v = .slice p 0 cap:=by cases i<;>exact⟨_,_,rfl⟩
 refine(Tryz.slices_Sort_int_none p cap w).mono fun e r ⟨j,l⟩=>?_
 subst l;exact⟨G,mu,.refl s,.inl ⟨_,_,⟨rfl,rfl⟩,j,.tup [] #[] rfl zSp⟩⟩
theorem sortA(mu:Mu)(av:AV)(l:List Int)(r:l.length<=1000000)(j:OwnI mu av l):qe qb 183 [av] mu fun e m=>e = .ret (.tup [])/\OwnI m av (srtI l)/\(∀ i,qx av≠some i->m[i]?=mu[i]?)/\m.length=mu.length:=by
 rcases j with ⟨rfl,rfl⟩|⟨b,rfl,g⟩
 .refine (qg7 mu).monoR ?_
  rintro e m ⟨rfl,rfl⟩;exact⟨rfl,.inl ⟨rfl,by simp[srtI]⟩,fun _ _=>rfl,rfl⟩
 .refine (sortE g zOm).monoR ?_
  rintro e m ⟨rfl,rfl⟩;have o:b<mu.length:=(qk.1 g).1;exact⟨rfl,.inr ⟨b,by rw[Ji],by rw[qJ o]⟩,fun i p=>by rw[qv (fun e=>p (by rw[e];rfl))],zSp⟩
theorem qg8(mu:Mu)(av:AV)(l:List Int)(o:l.length<=1000000)(p:OwnI mu av l):qe qb 241 [av] mu fun e m=>∃ x,e = .ret x/\OwnV m x (cmpc eqI l)/\(∀ i,qx av≠some i->m[i]?=mu[i]?)/\m.length=mu.length/\∀ b,qx x=some b->qx av=some b:=by
 rcases p with ⟨rfl,rfl⟩|⟨b,rfl,g⟩
 .refine qe.of_awp call241 func241 rfl (qh zKr) zKr (pl:={}) ?_
  simp[go_sem];exact .inl ⟨rfl,rfl⟩
 .refine (qgT mu b l o g).monoR ?_
  rintro e m ⟨cells,rfl,rfl,C,j⟩;have r:b<mu.length:=(qk.1 g).1;refine⟨_,rfl,.inr ⟨b,cells,rfl,by rw[qJ r],?_,j⟩,fun i t=>by rw[qv (fun e=>t (by rw[e];rfl))],zSp,fun x hx=>hx⟩;have:=congrArg List.length j;simp at this;omega
theorem Xe(mu:Mu)(ar:Int)(av:AV)(l:List Int)(hl:l.length<=1000000)(I:OwnI mu av l):qe qb 171 [aI ar,av] mu fun e m=>∃ x,e = .ret (.agg [aI ar,x])/\OwnV m x (ofL l)/\(∀ i,i<mu.length->qx av≠some i->m[i]?=mu[i]?)/\mu.length<=m.length/\∀ b,qx x=some b->qx av=some b:=by
 refine qe.of_awp call171 func171 rfl (qh zKr) zKr (pl:={}) ?_;have J:OwnI (mu++[.arr [aI 0,.lst true []]]) av l:=I.same fun b P=>by rw[qo (I.v.lt P)]
 have j:qx av≠some mu.length:=fun h=>zW1 (I.v.lt h)
 simp[go_sem];refine qc.eff0 (sortA _ av l hl J) ?_ ?_
 .rintro r m ⟨h,R,o,U⟩
  cases h;have a0:m.length=mu.length+1:=zUs U;simp[go_sem];refine qc.eff0 (qg8 _ av _ (by rw[Ji];exact hl) R) ?_ ?_
  .rintro r m' ⟨x,h,g,p,a1,t⟩
   cases h;rw[qgR]at g;have hc:m'[mu.length]?=some (.arr [aI 0,.lst true []]):=by rw[p _ j,o _ j];simp
   have C:∀ c,(m'.set mu.length c)[mu.length]?=some c:=fun c=>qJ zOm
   have hx:qx r≠some mu.length:=fun h=>j (t _ h)
   simp[go_sem,hc,C,g.one,g.cells];refine⟨?_,fun i hi hn=>?_,zOm,t⟩
   .exact g.same fun b P=>by rw[qv (fun e=>hx (by rw[e];exact P))]
   .rw [qv zOm,p i hn,o i hn,qo hi]
  .rintro r m' ⟨x,h,_⟩
   cases h
 .rintro r m ⟨h,_⟩
  cases h
theorem OwnV.rdRel{mu:Mu}{j:Int}{av:AV}{l:List Int}(h:OwnV mu av l):Rd mu (.agg [aI j,av]) (eRel ⟨j,l⟩):=by
 refine .agg _ _ rfl fun k u v g i=>?_
 match k with
 | 0=>simp at g i;subst g;subst i;exact .zsc _
 | 1=>simp at g i;subst g;subst i;exact h.rd
 |k+2=>simp at g
theorem ve(a b:Rl)(R:a.ts.length<=100000)(l:b.ts.length<=100000):qd qb 95 [eRel a,eRel b] (eRel (unR a b)):=by
 refine qd.of_sound (qe.of_awp call95 func95 rfl (qh zKr) zKr (pl:={}) ?_);simp[go_sem];refine qg.seg [0,1,2,3,4,5,6,7,8,9] [(0,0,[]),(1,0,[]),(2,0,[]),(3,0,[]),(4,0,[]),(5,0,[]),(6,0,[]),(7,1,[1]),(8,1,[]),(9,1,[])] zKr zKr zSi ?_;simp[go_sem];refine qc.eff0 (qg6 _ a.ts b.ts R l) ?_ ?_
 .rintro r m ⟨t,h,U,hs,hl,o⟩
  cases h;have p:=hs 0 zSp;simp at p;have g:qx r≠some 0:=fun h=>by have:=o 0 h;simp at this
  simp[go_sem];refine qc.eff0 (Xe m a.ar r _ zSo U) ?_ ?_
  .rintro r P ⟨x,h,i,C,a0,I⟩
   cases h;have J:=C 0 (qk.1 p).1 g;rw[p]at J;have j:∀ c,(P.set 0 c)[0]?=some c:=fun c=>qJ (qk.1 J).1
   have hx:qx x≠some 0:=fun h=>g (I _ h)
   simp[go_sem,J,j,i.one];refine OwnV.rdRel ?_;exact i.same fun b l=>by rw[qv (fun e=>hx (by rw[e];exact l))]
  .rintro r P ⟨x,h,_⟩
   cases h
 .rintro r m ⟨x,h,_⟩
  cases h
end EQ
namespace ER
open E1 EO EP EQ
theorem Xf(l:List Int)(C:AV)(p:Int->Bool)(hf:FnOk qb C (fun x:Int=>aI x) (·∈l) (fun x=>aB (p x)))(hl:l.length<=1000000):qd qb 175 [lI l,C] (lI (l.filter p)):=by
 refine qd.of_sound (qe.of_awp call175 func175 rfl (qh zKr) zKr (pl:={}) ?_);simp[go_sem];refine qn.keep (fun m U=>∃ k,m=l.length-k/\k<=l.length/\U.tm 1=C/\U.tm 8=lI l/\U.tm 9=aI l.length/\U.tm 10=aI (k:Nat)/\OwnI U.mu (U.tm 5) ((l.take k).filter p)) l.length ?_ ?_
 .exact ⟨0,zOm,zOm,zSi,zSi,zSi,zSi,.inl ⟨zSi,rfl⟩⟩
 rintro m U ⟨k,rfl,hk,I,J,j,g,o⟩;by_cases i:k<l.length
 .have w1:qj.wrap ((k:Int)+1)=(k:Int)+1:=qi zOm zOm
  have a1:((l.take k).filter p).length<=k:=zP (List.length_filter_le _ _) zSo;simp[go_sem,I,J,j,g,i];refine FnOk.call (enc:=fun x:Int=>aI x) hf (qy i) ?_;cases hp:p l[k] with
  |true =>
   have P:(l.take (k+1)).filter p=(l.take k).filter p++[l[k]]:=by rw[yL i,List.filter_append];simp[hp]
   simp[go_sem];refine qF.ownV1 (e:=3) (bt:=8) (z:=0) (l:=(l.take k).filter p) zSi zSi zSi zOm o.v zOm ?_;intro t r R _ _ _;simp[go_sem,g,w1];refine Keep.loop (l.length-(k+1)) zOm ⟨k+1,rfl,zOm,zS1 I,zS1 J,zS1 j,zSi,?_⟩;rw[P];simpa[go_sem] using R
  |false =>
   have P:(l.take (k+1)).filter p=(l.take k).filter p:=by rw[yL i,List.filter_append];simp[hp]
   simp[go_sem,g,w1];refine Keep.loop (l.length-(k+1)) zOm ⟨k+1,rfl,zOm,zS1 I,zS1 J,zS1 j,zSi,?_⟩;rw[P];simpa[go_sem] using o
 .have a0:k=l.length:=by omega
  subst a0;rw[zw]at o;simp[go_sem,j,g];exact o.v.rd
theorem sameU(x:Int):qd qb 174 [aI x] (aI x):=by
 refine qd.of_sound (qe.of_awp call174 func174 rfl (qh zKr) zKr (pl:={}) ?_);simp[go_sem];exact .zsc _
abbrev imC(l:List (Int×Int)):AV := .im (encK (fun n:Int=>aI n) (fun n:Int=>aI n) l)
theorem Zy(l:List (Int×Int)):HF (imC l):=HF.im fun p hp=>by
 obtain⟨q,_,rfl⟩:=qr.1 hp;exact⟨HF.sc _,HF.sc _⟩
theorem setU(r:Rl)(fv:AV)(f:Int->Int)(hf:FnOk qb fv (fun x:Int=>aI x) (·∈r.ts) (fun x=>aI (f x)))(hl:r.ts.length<=1000000):qd qb 173 [eRel r,fv] (imC (cntK f r.ts)):=by
 refine qd.of_sound (qe.of_awp call173 func173 rfl (qh zKr) zKr (pl:={}) ?_);simp[go_sem];obtain⟨B,hB⟩:∃ B,B=AV.mp 0:=⟨_,rfl⟩;refine qn.up r.ts.length (fun k U=>U.tm 1=fv/\U.tm 5=B/\U.tm 10=lI r.ts/\U.tm 11=aI r.ts.length/\U.tm 12=aI k/\U.mu[0]?=some (.mp (encK (fun n:Int=>aI n) (fun n:Int=>aI n) (cntK f (r.ts.take k))))) ?_ ?_
 .simp [go_sem,cntK,encK,hB]
 rintro k U hk ⟨e1,e5,p,j,l,J⟩;by_cases g:k<r.ts.length
 .have w1:qj.wrap ((k:Int)+1)=(k:Int)+1:=qi zOm zOm
  obtain⟨c1,c2,_⟩:=V1 f r.ts k zOm (f r.ts[k]);have hs:=gJ f (r.ts.take k) r.ts[k];rw[<-yL g]at hs;have a0:=keyI.look (et:=3) (t:=243) zSi (mu:=U.mu) (m := .mp 0) (venc:=fun n:Int=>aI n) (es:=cntK f (r.ts.take k)) (by simp only[jI,J]) (k:=f r.ts[k]) trivial (fun _ _=>trivial) (z:=aI 0) zSi false;have o:yg qb U.mu 243 B (aI (f r.ts[k])) false=some (aI ((getK (f r.ts[k]) (cntK f (r.ts.take k))).getD 0)):=by
   rw[hB];refine Eq.trans a0 ?_;cases getK (f r.ts[k]) (cntK f (r.ts.take k))<;>rfl
  have i:jt qb U.mu 243 (.mp 0) (aI (f r.ts[k])) (aI ((getK (f r.ts[k]) (cntK f (r.ts.take k))).getD 0+1))=_:=keyI.update (et:=3) (t:=243) zSi (mu:=U.mu) (b:=0) (venc:=fun n:Int=>aI n) (es:=cntK f (r.ts.take k)) J (k:=f r.ts[k]) (v:=(getK (f r.ts[k]) (cntK f (r.ts.take k))).getD 0+1) trivial (fun _ _=>trivial);rw[<-hs,<-hB]at i;have R:0<U.mu.length:=(qk.1 J).1;generalize (getK (f r.ts[k]) (cntK f (r.ts.take k))).getD 0=c at *
  have w2:qj.wrap (c+1)=c+1:=qi zOm zOm;simp[go_sem,e1,e5,p,j,l,g];refine FnOk.call (enc:=fun x:Int=>aI x) hf (qy g) ?_;simp[go_sem,o,w2];subst hB;refine OptK.intro _ i ?_;simp[go_sem,e1,e5,p,j,l,g,w1,R]
 .have a1:k=r.ts.length:=by omega
  subst a1;rw[zw]at J;simp[go_sem,e5,j,l];rw[hB];exact .mp 0 _ _ J rfl (fun k x y hx hy=>by rw[hx]at hy;cases hy;obtain⟨q,_,e⟩:=qr.1 (qV hx);rw[<-e];exact .zsc _) (fun k x y hx hy=>by rw[hx]at hy;cases hy;obtain⟨q,_,e⟩:=qr.1 (qV hx);rw[<-e];exact .zsc _)
theorem FnOk.same(ok:Int->Prop):FnOk qb (.fn (.func 174) [] []) (fun x:Int=>aI x) ok (fun x=>aI x):=
 ⟨HF.fn zSp zSp,_,[],[],rfl,fun x _=>⟨_,.zs .nil,sameU x⟩⟩
theorem Xg(mu:Mu)(f:Int->Int)(ts:List Int)(k:Int):yg qb mu 243 (imC (cntK f ts)) (aI k) false=some (aI ((getK k (cntK f ts)).getD 0)):=by
 have:=keyI.look (et:=3) (t:=243) zSi (mu:=mu) (m:=imC (cntK f ts)) (venc:=fun n:Int=>aI n) (es:=cntK f ts) rfl (k:=k) trivial (fun _ _=>trivial) (z:=aI 0) zSi false;simp only[yg];refine Eq.trans this ?_;cases getK k (cntK f ts)<;>rfl
theorem qg9(f:Int->Int)(ts:List Int)(x:Int):qd qb 176 [aI x,.ip [imC (cntK f ts)]] (aB (decide (0<(getK x (cntK f ts)).getD 0))):=by
 refine qd.of_sound (qe.of_awp call176 func176 rfl (qh zKr) zKr (pl:={}) ?_);have g:=fun C=>Xg C f ts x
 generalize imC (cntK f ts)=B at *
 simp[go_sem,g];exact .zsc _
theorem qhA(f:Int->Int)(ts:List Int)(x:Int):qd qb 243 [aI x,.ip [imC (cntK f ts)]] (aB (decide ((getK x (cntK f ts)).getD 0=0))):=by
 refine qd.of_sound (qe.of_awp call243 func243 rfl (qh zKr) zKr (pl:={}) ?_);have g:=fun C=>Xg C f ts x
 generalize imC (cntK f ts)=B at *
 simp[go_sem,g];exact .zsc _
theorem y9{x:AV}(h:HF x):HF (.ip [x]):=HF.ip fun c g=>by simp at g;subst g;exact h
theorem gP(ts:List Int)(x:Int):(0<(getK x (cntK (fun x=>x) ts)).getD 0↔x∈ts)/\((getK x (cntK (fun x=>x) ts)).getD 0=0↔¬x∈ts):=by
 obtain⟨l,g⟩:=gK (fun x=>x) ts x;have i:(∃ t,t∈ts/\t=x)↔x∈ts:=⟨fun⟨t,j,e⟩=>e ▸ j,fun h=>⟨x,h,rfl⟩⟩;rw[i]at g;exact⟨g,by rw[<-g];omega⟩
theorem Rd.ip1{mu:Mu}{b:Nat}{x y:AV}(j:mu[b]?=some (.arr [x]))(h:Rd mu x y):Rd mu (.ptr b 0) (.ip [y]):=by
 refine .ptr b 0 [x] [y] j zSp fun k u v i g=>?_
 match k with
 | 0=>simp at i g;subst i;subst g;exact h
 |k+1=>simp at g
theorem V3(a b:Rl)(o:a.ts.length<=1000000)(p:b.ts.length<=1000000):qd qb 96 [eRel a,eRel b] (eRel (inR a b)):=by
 refine qd.of_sound (qe.of_awp call96 func96 rfl (qh zKr) zKr (pl:={}) ?_);have r:=setU b _ _ (FnOk.same (·∈b.ts)) p;have C:=Xf a.ts (.fn (.func 176) [] [.ip [imC (cntK (fun x=>x) b.ts)]]) (fun t=>decide (t∈b.ts)) ⟨HF.fn zSp (by simp;exact y9 (Zy _)),_,[],_,rfl,fun x _=>⟨_,.zs (.zk (y9 (Zy _)) .nil),by have:=qg9 (fun x=>x) b.ts x;simp only[(gP b.ts x).1]at this;exact this⟩⟩ o;have I:WKs [eRel b,.fn (.func 174) [] []] [eRel b,.fn (.func 174) [] []] := .zk (q9 b) (.zk (HF.fn zSp zSp) .nil);have g:=Zy (cntK (fun x=>x) b.ts);have i:(imC (cntK (fun x=>x) b.ts)).cells=[imC (cntK (fun x=>x) b.ts)]:=rfl;have j:(imC (cntK (fun x=>x) b.ts)).one=true:=rfl;generalize imC (cntK (fun x=>x) b.ts)=B at *
 have l:WKs [lI a.ts,.fn (.func 176) [] [.ip [B]]] [lI a.ts,.fn (.func 176) [] [.ip [B]]] := .zk (yA _) (.zk (HF.fn zSp (by simp;exact y9 g)) .nil);simp[go_sem];refine qc.pure r I ?_;simp[go_sem,i,j];refine qg.fz (FzQ.one (d:=5) (b:=1) (x := .ip [B]) (Rd.ip1 rfl (.hf _ g)) ?_);simp[go_sem,cutM];refine qg.intro zKr ?_;simp[go_sem];refine qc.pure C l ?_;simp[go_sem];exact .hf _ (q9 (inR a b))
theorem gQ(a b:Rl)(o:a.ts.length<=1000000)(p:b.ts.length<=1000000):qd qb 177 [eRel a,eRel b] (eRel (diR a b)):=by
 refine qd.of_sound (qe.of_awp call177 func177 rfl (qh zKr) zKr (pl:={}) ?_);have r:=setU b _ _ (FnOk.same (·∈b.ts)) p;have C:=Xf a.ts (.fn (.func 243) [] [.ip [imC (cntK (fun x=>x) b.ts)]]) (fun t=>decide (¬t∈b.ts)) ⟨HF.fn zSp (by simp;exact y9 (Zy _)),_,[],_,rfl,fun x _=>⟨_,.zs (.zk (y9 (Zy _)) .nil),by have:=qhA (fun x=>x) b.ts x;simp only[(gP b.ts x).2]at this;exact this⟩⟩ o;have I:WKs [eRel b,.fn (.func 174) [] []] [eRel b,.fn (.func 174) [] []] := .zk (q9 b) (.zk (HF.fn zSp zSp) .nil);have g:=Zy (cntK (fun x=>x) b.ts);have i:(imC (cntK (fun x=>x) b.ts)).cells=[imC (cntK (fun x=>x) b.ts)]:=rfl;have j:(imC (cntK (fun x=>x) b.ts)).one=true:=rfl;generalize imC (cntK (fun x=>x) b.ts)=B at *
 have l:WKs [lI a.ts,.fn (.func 243) [] [.ip [B]]] [lI a.ts,.fn (.func 243) [] [.ip [B]]] := .zk (yA _) (.zk (HF.fn zSp (by simp;exact y9 g)) .nil);simp[go_sem];refine qc.pure r I ?_;simp[go_sem,i,j];refine qg.fz (FzQ.one (d:=5) (b:=1) (x := .ip [B]) (Rd.ip1 rfl (.hf _ g)) ?_);simp[go_sem,cutM];refine qg.intro zKr ?_;simp[go_sem];refine qc.pure C l ?_;simp[go_sem];have e:diR a b=⟨a.ar,a.ts.filter fun t=>!decide (t∈b.ts)⟩:=by simp[diR]
 have h:=q9 (diR a b);rw[e]at h⊢;exact .hf _ h
theorem inU(a b:Rl)(g:a.ts.length<=1000000)(i:b.ts.length<=1000000):qd qb 97 [eRel a,eRel b] (aB (decide ((diR a b).ts=[]))):=by
 refine qd.of_sound (qe.of_awp call97 func97 rfl (qh zKr) zKr (pl:={}) ?_);simp[go_sem];refine qc.pure (gQ a b g i) (.zk (q9 a) (.zk (q9 b) .nil)) ?_;simp[go_sem];exact .zsc _
end ER
namespace E2
open E1
section
variable {a:Int}
theorem Z9{n k:Int}(g:0<=k)(i:k<=3):powI n k=n ^ k.toNat:=by
 unfold powI powN;congr 1;omega
theorem u4{n i j:Int}(g:0<=i)(l:0<=j)(h:i+j<=3):powI n (i+j)=powI n i*powI n j:=by
 rw[Z9 zOm h,Z9 g zOm,Z9 l zOm,<-Int.pow_add];congr 1;omega
theorem uz(n:Int):powI n 1=n:=by rw[Z9 zOm zOm];exact Int.pow_succ n 0 ▸ by simp
theorem qhB{n:Int}(h:0<=n)(k:Int):0<=powI n k:=Int.pow_nonneg h
theorem Jn{u v m:Int}(g:0<=u)(j:u<a)(l:0<=v)(o:v<m):0<=u*m+v/\u*m+v<a*m:=by
 have p:0<=u*m:=Int.mul_nonneg g zOm;have i:(u+1)*m<=a*m:=Int.mul_le_mul_of_nonneg_right zOm zOm;rw[Int.add_mul,Int.one_mul]at i;omega
theorem GR.prod{n:Int}(p:0<=n){a b:Rl}(i:GR n a)(g:GR n b)(h:a.ar+b.ar<=3):GR n (prR n a b):=by
 have R:=i.ar1;have T:=g.ar1;refine⟨by show 1<=a.ar+b.ar;omega,h,fun t o=>?_,?_⟩
 .obtain ⟨s,j,o⟩:=ZN.1 o
  obtain⟨u,l,rfl⟩:=qr.1 o;show 0<=s*powI n b.ar+u/\s*powI n b.ar+u<powI n (a.ar+b.ar);rw[u4 zOm zOm h];exact Jn (i.val s j).1 (i.val s j).2 (g.val u l).1 (g.val u l).2
 .unfold yo
  show (a.ts.flatMap fun s=>b.ts.map fun t=>s*powI n b.ar+t).Pairwise (·<·);rw[List.pairwise_flatMap];refine⟨fun s j=>?_,?_⟩
  .rw [List.pairwise_map]
   exact List.Pairwise.imp (fun h=>zOm) g.srt
  .refine List.Pairwise.imp_of_mem (fun {s r} j C h x hx y I=>?_) i.srt
   obtain⟨u,l,rfl⟩:=qr.1 hx;obtain⟨v,J,rfl⟩:=qr.1 I;have U:=g.val u l;have e2:=g.val v J;have P:(s+1)*powI n b.ar<=r * powI n b.ar:=Int.mul_le_mul_of_nonneg_right zOm (qhB p _);rw[Int.add_mul,Int.one_mul]at P;omega
theorem GR.ofL{n:Int}{g:Int}{l:List Int}(i:1<=g)(j:g<=3)(h:∀ t,t∈l->0<=t/\t<powI n g):GR n ⟨g,ofL l⟩:=by
 obtain⟨s1,o⟩:=VW l;exact⟨i,j,fun t p=>h t ((o t).1 p),s1⟩
theorem GR.join{n:Int}(I:0<=n){a b:Rl}(l:GR n a)(o:GR n b)(J:1<=a.ar+b.ar-2)(P:a.ar+b.ar-2<=3):GR n (joR n a b):=by
 have a1:=l.ar1;have b1:=o.ar1;have a3:=l.ar3;have b3:=o.ar3;refine GR.ofL J P fun t p=>?_
 obtain⟨s,R,p⟩:=ZN.1 p;obtain⟨u,r,rfl⟩:=qr.1 p;have r:=(vt.1 r).1;obtain⟨T,s1⟩:=l.val s R;obtain⟨u0,u1⟩:=o.val u r;have g:powI n a.ar=powI n (a.ar-1)*n:=by
  have:=u4 (n:=n) (i:=a.ar-1) (j:=1) zOm zOm zOm;rw[uz]at this;rw[<-this];congr 1;omega
 have eb:powI n b.ar=powI n (b.ar-1)*n:=by
  have:=u4 (n:=n) (i:=b.ar-1) (j:=1) zOm zOm zOm;rw[uz]at this;rw[<-this];congr 1;omega
 have C:0<n:=by
  rcases Int.lt_or_eq_of_le I with h|h
  .exact h
  .exfalso;rw[<-h]at g;rw[Int.mul_zero]at g;rw[<-h,g]at s1;omega
 have U:0<powI n (b.ar-1):=Int.pow_pos C;have hd:s / n<powI n (a.ar-1):=Int.ediv_lt_of_lt_mul C (by rw[<-g];exact s1);rw[show a.ar+b.ar-2=(a.ar-1)+(b.ar-1) by omega,u4 zOm zOm zOm];exact Jn (Int.ediv_nonneg T zOm) hd (Int.emod_nonneg _ zOm) (Int.emod_lt_of_pos _ U)
theorem GR.trans{n:Int}(o:0<=n){a:Rl}(p:GR n a)(h:a.ar=2):GR n (trR n a):=by
 have g:powI n 2=n*n:=by
  have:=u4 (n:=n) (i:=1) (j:=1) zOm zOm zOm;rw[uz]at this;exact this
 refine GR.ofL zOm zOm fun t r=>?_
 obtain⟨s,C,rfl⟩:=qr.1 r;obtain⟨I,s1⟩:=p.val s C;rw[h,g]at s1;have l:0<n:=by
  rcases Int.lt_or_eq_of_le o with h|h
  .exact h
  .exfalso;rw[<-h,Int.mul_zero]at s1;omega
 rw[g];exact Jn (Int.emod_nonneg _ zOm) (Int.emod_lt_of_pos _ l) (Int.ediv_nonneg I zOm) (Int.ediv_lt_of_lt_mul l s1)
theorem GR.clos{n:Int}(i:0<=n):∀(f:Nat) {c:Rl},GR n c->c.ar=2->GR n (clR n f c)/\(clR n f c).ar=2
 | 0,c,g,h=>⟨g,h⟩
 |f+1,c,g,h=>by
  rw[clR];split
  .exact ⟨g,h⟩
  .have j:=GR.join i g g zOm zOm
   have l:=GR.union g j (by show c.ar=c.ar+c.ar-2;omega);exact GR.clos i f l h
theorem GR.over{n:Int}{a b:Rl}(g:GR n a)(i:GR n b)(e:a.ar=b.ar):GR n (ovR n a b):=GR.union i (g.filter _) (by show b.ar=a.ar;omega)
theorem GR.iden{n:Int}(g:0<=n):GR n (idR n):=by
 have l:powI n 2=n*n:=by
  have:=u4 (n:=n) (i:=1) (j:=1) zOm zOm zOm;rw[uz]at this;exact this
 refine⟨by show (1:Int)<=2;omega,by show (2:Int)<=3;omega,fun t o=>?_,?_⟩
 .obtain ⟨k,p,rfl⟩:=qr.1 o
  rw[yx]at p;show _/\_<powI n 2;rw[l];exact Jn zOm zOm zOm zOm
 .show ((qu n.toNat).map fun x:Nat=>(x:Int)*n+x).Pairwise (·<·)
  rw[List.pairwise_map];refine List.Pairwise.imp (fun {x y} h=>?_) List.pairwise_lt_range;have:=Int.mul_le_mul_of_nonneg_right (a:=(x:Int)) (b:=y) (c:=n) zOm g;omega
theorem GR.nil{n g:Int}(i:1<=g)(j:g<=3):GR n ⟨g,[]⟩:=⟨i,j,fun t l=>absurd l qE,qgK⟩
theorem GR.one{n:Int}(i:0<=a)(j:a<n):GR n ⟨1,[a]⟩:=
 ⟨by show (1:Int)<=1;omega,by show (1:Int)<=3;omega,fun t g=>by rw[qL]at g;subst g;show _/\_<powI n 1;rw[uz];exact⟨i,j⟩,List.pairwise_singleton _ _⟩
theorem GR.run{n:Int}(m:Nat)(j:0<=a)(l:a+m<=n):GR n ⟨1,(qu m).map fun k:Nat=>a+k⟩:=by
 refine⟨by show (1:Int)<=1;omega,by show (1:Int)<=3;omega,fun t g=>?_,?_⟩
 .obtain ⟨k,i,rfl⟩:=qr.1 g
  rw[yx]at i;show _/\_<powI n 1;rw[uz];omega
 .show ((qu m).map fun k:Nat=>a+k).Pairwise (·<·)
  rw[List.pairwise_map];exact List.Pairwise.imp (fun {x y} h=>zOm) List.pairwise_lt_range
theorem GR.steps{n:Int}(g:0<=n)(m:Nat)(r:0<=a)(C:a+m+1<=n):GR n ⟨2,(qu m).map fun k:Nat=>(a+k)*n+(a+k+1)⟩:=by
 have l:powI n 2=n*n:=by
  have:=u4 (n:=n) (i:=1) (j:=1) zOm zOm zOm;rw[uz]at this;exact this
 refine⟨by show (1:Int)<=2;omega,by show (2:Int)<=3;omega,fun t o=>?_,?_⟩
 .obtain ⟨k,p,rfl⟩:=qr.1 o
  rw[yx]at p;show _/\_<powI n 2;rw[l];exact Jn zOm zOm zOm zOm
 .show ((qu m).map fun k:Nat=>(a+k)*n+(a+k+1)).Pairwise (·<·)
  rw[List.pairwise_map];refine List.Pairwise.imp (fun {x y} h=>?_) List.pairwise_lt_range;have:=Int.mul_le_mul_of_nonneg_right (a:=a+(x:Int)) (b:=a+y) (c:=n) zOm g;omega
end
end E2
namespace ET
open E1 E2 E3 EL EO EP EQ ER
section
variable {mu:Mu}
theorem Xh(n:Int)(g:0<=n)(i:n<=20)(k:Int)(j:0<=k)(l:k<=3):qd qb 188 [aI n,aI k] (aI (powI n k)):=by
 have:=qgN n g i k.toNat zOm;rw[show ((k.toNat:Nat):Int)=k by omega,<-Z9 j l]at this;exact this
def RelM(mu:Mu)(g:Int)(l:List Int):Prop:=∃ t,mu[0]?=some (.arr [aI 0,.lst true []])/\mu[1]?=some (.arr [aI g,t])/\OwnI mu t l/\qx t≠some 0/\qx t≠some 1
theorem RelM.step{mu':Mu}{j:Int}{av g:AV}{l:List Int}(I:mu[0]?=some (.arr [aI 0,.lst true []]))(p:mu[1]?=some (.arr [aI j,av]))(J:qx av≠some 0)(P:qx av≠some 1)(R:OwnI mu' g l)
  (r:∀ i,i<mu.length->qx av≠some i->mu'[i]?=mu[i]?) (hl:mu.length<=mu'.length) (t:∀ b,qx g=some b->b=mu.length):mu'[1]?=some (.arr [aI j,av])/\RelM (mu'.set 1 (.arr [aI j,g])) j l:=by
 have T:1<mu.length:=(qk.1 p).1;have U:qx g≠some 0:=fun e=>zW1 (t 0 e)
 have C:qx g≠some 1:=fun e=>zW1 (t 1 e)
 refine⟨by rw[r 1 T P];exact p,g,by rw[qv zOm,r 0 zOm J];exact I,by rw[qJ zOm],R.same fun b o=>?_,U,C⟩;rw[qv (fun e=>C (by rw[e];exact o))]
theorem qhC(m:Int)(x y:List Int)(s:Int):prL m (x++[s]) y=prL m x y++y.map fun t=>s*m+t:=by simp[prL]
theorem Xi{a m x y:Int}(i:0<=a)(j:a<=x)(g:0<=m)(l:m<=y)(hx:0<=x):0<=a*m/\a*m<=x*y:=⟨Int.mul_nonneg i g,jS j l g hx⟩
theorem Qs{r:Rl}{e:Int}{x:AV}(h:Rd mu x (eRel r)):Rd mu (.tup [x,aI e]) (.tup [eRel r,aI e]):=by
 refine .tup _ _ rfl fun k u v g i=>?_
 match k with
 | 0=>simp at g i;subst g;subst i;exact h
 | 1=>simp at g i;subst g;subst i;exact .zsc _
 |k+2=>simp at g
theorem Zz{g:Int}:Rd mu (.agg [aI g,.lst true []]) (eRel ⟨g,[]⟩):=OwnV.rdRel (.inl ⟨rfl,rfl⟩)
theorem qhD(m:Int)(x y:List Int):(prL m x y).length=x.length*y.length:=by
 induction x with
 |nil=>simp[prL]
 |cons s x g=>simp only[prL,uG,zc,yI,zG]at g⊢;rw[g,Nat.add_mul];omega
theorem WU(n:Int)(h0:0<=n)(a8:n<=12)(a b:Rl)(ha:GR n a)(R:GR n b):qd qb 254 [aI n,eRel a,eRel b] (match Qr n a b with | .ok r => .tup [eRel r,aI 0] | .error e => .tup [eRel ⟨0,[]⟩,aI e]):=by
 refine qd.of_sound (qe.of_awp call254 func254 rfl (qh zKr) zKr (pl:={}) ?_);have a1:=ha.ar1;have a3:=ha.ar3;have b1:=R.ar1;have b3:=R.ar3;have la:=ha.len h0 zOm;have lb:=R.len h0 zOm;have w0:qj.wrap (a.ar+b.ar)=a.ar+b.ar:=qi zOm zOm;unfold Qr;by_cases hc:a.ar+b.ar<=3
 .have hn:¬(3:Int)<a.ar+b.ar:=by omega
  obtain⟨p0,p1⟩:=wU (k:=b.ar) h0 (by omega:n<=20);rw[if_pos hc];simp[go_sem,w0,hn];refine qc.pure (Xh n h0 zOm b.ar zOm b3) (.zs (.zs .nil)) ?_;simp[go_sem];generalize hM:powI n b.ar=M at *
  have g:∀ i j,i<a.ts.length->j<=b.ts.length->(prL M (a.ts.take i) b.ts++(b.ts.take j).map fun t=>a.ts.getD i 0*M+t).length<=64000000:=fun i j hi hj=>by
   rw[zc,qhD,yI,vM,vM];have:(min i a.ts.length)*b.ts.length<=7999*8000:=Nat.mul_le_mul zOm lb;omega
  refine qn.upK a.ts.length (fun i U=>U.tm 5 = .ip (cRel b)/\U.tm 6 = .ptr 0 0/\U.tm 8 = .ptr 1 0/\U.tm 9=aI M/\U.tm 32=lI a.ts/\U.tm 33=aI a.ts.length/\U.tm 34=aI i/\RelM U.mu (a.ar+b.ar) (prL M (a.ts.take i) b.ts)) ?_ ?_
  .refine ⟨zSi,zSi,zSi,zSi,zSi,zSi,zSi,.lst true [],zSi,zSi,.inl ⟨rfl,by simp[prL]⟩,by simp[qx],by simp[qx]⟩
  rintro i U hi ⟨e5,e6,e8,e9,a0,p,C,hr⟩;by_cases o:i<a.ts.length
  .have w1:qj.wrap ((i:Int)+1)=(i:Int)+1:=qi zOm zOm
   obtain⟨v0,v1⟩:=ha.val _ (qy o);obtain⟨q0,q1⟩:=wU (k:=a.ar) h0 (by omega:n<=20);obtain⟨m0,m1⟩:=Xi (x:=8000) (y:=8000) v0 zOm p0 p1 zOm;have a4:a.ts.getD i 0=a.ts[i]:=by rw[List.getD_eq_getElem?_getD,qA o];rfl
   have g:=g i;rw[a4]at g;simp[go_sem,e5,a0,p,C,o];refine qn.upK b.ts.length (fun j U=>U.tm 5 = .ip (cRel b)/\U.tm 6 = .ptr 0 0/\U.tm 8 = .ptr 1 0/\U.tm 9=aI M/\U.tm 11=aI a.ts[i]/\U.tm 32=lI a.ts/\U.tm 33=aI a.ts.length/\U.tm 34=aI i/\U.tm 39=lI b.ts/\U.tm 40=aI b.ts.length/\U.tm 41=aI j/\RelM U.mu (a.ar+b.ar) (prL M (a.ts.take i) b.ts++(b.ts.take j).map fun t=>a.ts[i] * M+t)) ?_ ?_
   .refine ⟨zS1 e5,zS1 e6,zS1 e8,zS1 e9,zSi,zS1 a0,zS1 p,zS1 C,zSi,zSi,zSi,zVs hr⟩
   rintro j U hj ⟨f5,f6,f8,f9,f11,f32,f33,f34,f39,f40,f41,av,g0,g1,I,n0,n1⟩;by_cases l:j<b.ts.length
   .have w2:qj.wrap ((j:Int)+1)=(j:Int)+1:=qi zOm zOm
    obtain⟨u0,u1⟩:=R.val _ (qy l);rw[hM]at u1;have w3:qj.wrap (a.ts[i] * M)=a.ts[i] * M:=qi zOm zOm;have w4:qj.wrap (a.ts[i] * M+b.ts[j])=a.ts[i] * M+b.ts[j]:=qi zOm zOm;simp[go_sem,f8,f9,f11,f39,f40,f41,l,g1,w3,w4];refine qF.ownV1 (e:=3) (bt:=8) (z:=0) zSi zSi zSi zOm I.v (by have:=g j o (by omega);omega) ?_;intro a9 aa J a5 a6 a7;obtain⟨k1,k2⟩:=RelM.step g0 g1 n0 n1 J a5 a6 a7;simp[go_sem,f8,f41,k1,J.v.one,J.v.cells,w2];refine⟨l,Keep.mk' ⟨zS1 f5,zS1 f6,zS1 f8,zS1 f9,zS1 f11,by simp[go_sem,f32],by simp[go_sem,f33],by simp[go_sem,f34],zS1 f39,by simp[go_sem,f40],zSi,?_⟩⟩;rw[yL l,zx,<-zE];exact k2
   .have P:j=b.ts.length:=by omega
    subst P;simp[go_sem,f34,f40,f41,w1];refine⟨o,Keep.mk' ⟨zS1 f5,zS1 f6,zS1 f8,zS1 f9,by simp[go_sem,f32],by simp[go_sem,f33],zSi,?_⟩⟩;rw[yL o,qhC];rw[zw]at I;exact⟨av,g0,g1,I,n0,n1⟩
  .have P:i=a.ts.length:=by omega
   subst P;obtain⟨av,g0,g1,I,n0,n1⟩:=hr;rw[zw]at I;have a2:∀ c,(U.mu.set 0 c)[0]?=some c:=fun c=>qJ (qk.1 g0).1
   simp[go_sem,e6,e8,p,C,g0,g1,a2,I.v.one];refine Qs (r:=prR n a b) ?_;unfold prR;rw[hM];refine OwnV.rdRel (I.v.same fun b R=>?_);rw[qv (fun e=>n0 (by rw[e];exact R))]
 .have hn:(3:Int)<a.ar+b.ar:=by omega
  rw[if_neg hc];simp[go_sem,w0,hn];exact Qs Zz
theorem qhE(n:Int)(J:0<=n)(o:n<=12)(a:Rl)(ha:GR n a)(h2:a.ar=2):qd qb 255 [aI n,eRel a] (eRel (trR n a)):=by
 refine qd.of_sound (qe.of_awp call255 func255 rfl (qh zKr) zKr (pl:={}) ?_);have hl:=ha.len J zOm;have e2:powI n 2=n*n:=by
  have:=u4 (n:=n) (i:=1) (j:=1) zOm zOm zOm;rw[uz]at this;exact this
 have a8:n*n<=12*12:=jS o o J zOm;simp[go_sem,show (a.ts.length:Int)<=4294967296 by omega];refine qn.upK a.ts.length (fun k U=>U.tm 0=aI n/\U.tm 4 = .ptr 0 0/\U.tm 5 = .sl 1 1 0 a.ts.length/\U.tm 13=lI a.ts/\U.tm 14=aI a.ts.length/\U.tm 15=aI k/\U.mu=[.arr [aI 0,.lst true []],.arr ((((a.ts.take k).map fun t=>t % n*n+t / n)++qZ (a.ts.length-k) 0).map aI)]) ?_ ?_
 .simp [go_sem]
 rintro k U hk ⟨e0,e4,e5,P,p,I,hm⟩;by_cases l:k<a.ts.length
 .have w1:qj.wrap ((k:Int)+1)=(k:Int)+1:=qi zOm zOm
  obtain⟨v0,v1⟩:=ha.val _ (qy l);rw[h2,e2]at v1;have hn:0<n:=by
   rcases Int.lt_or_eq_of_le J with h|h
   .exact h
   .exfalso;rw[<-h,Int.mul_zero]at v1;omega
  have a9:0<=a.ts[k] / n:=Int.ediv_nonneg v0 J;have aa:a.ts[k] / n<n:=Int.ediv_lt_of_lt_mul hn v1;have a1:0<=a.ts[k] % n:=Int.emod_nonneg _ zOm;have ab:a.ts[k] % n<n:=Int.emod_lt_of_pos _ hn;obtain⟨m0,m1⟩:=Xi (x:=12) (y:=12) a1 zOm J o zOm;have d1:a.ts[k].tdiv n=a.ts[k] / n:=Int.tdiv_eq_ediv_of_nonneg v0;have d2:a.ts[k].tmod n=a.ts[k] % n:=Qe v0;have w2:qj.wrap (a.ts[k] / n)=a.ts[k] / n:=qi zOm zOm;have w3:qj.wrap (a.ts[k] % n*n)=a.ts[k] % n*n:=qi zOm zOm;have w4:qj.wrap (a.ts[k] % n*n+a.ts[k] / n)=a.ts[k] % n*n+a.ts[k] / n:=qi zOm zOm;have a2:¬n=0:=zOm;have R:qZ (a.ts.length-k) (0:Int)=0 :: qZ (a.ts.length-(k+1)) 0:=by
   rw[<-List.replicate_succ];congr 1;omega
  have g:∀ v:Int,((((a.ts.take k).map fun t=>t % n*n+t / n)++qZ (a.ts.length-k) 0).map aI).set k (aI v)=(((a.ts.take k).map fun t=>t % n*n+t / n)++v :: qZ (a.ts.length-(k+1)) 0).map aI:=fun v=>by
   rw[<-List.map_set,R,List.set_append_right _ _ zSo];simp[Nat.min_eq_left hk]
  have a0:((((a.ts.take k).map fun t=>t % n*n+t / n)++qZ (a.ts.length-k) 0).map aI).length=a.ts.length:=zSo;generalize hC:(((a.ts.take k).map fun t=>t % n*n+t / n)++qZ (a.ts.length-k) 0).map aI=C at *
  simp[go_sem,P,p,I,hm,l];refine qg.intro zKr ?_;simp[go_sem,e0,e5,I,l,a2,d1,d2,w2,w3,w4,g,a0,show k+1<=a.ts.length by omega,w1];refine Keep.mk' ⟨zS1 e0,zS1 e4,zS1 e5,zS1 P,zS1 p,zSi,?_⟩;simp only[qP];have e:(((a.ts.take (k+1)).map fun t=>t % n*n+t / n)++qZ (a.ts.length-(k+1)) 0).map aI=(((a.ts.take k).map fun t=>t % n*n+t / n)++(a.ts[k] % n*n+a.ts[k] / n) :: qZ (a.ts.length-(k+1)) 0).map aI:=by
   rw[yL l,zx (l₂:=[a.ts[k]]),zE];rfl
  rw[e];simp
 .have a3:k=a.ts.length:=by omega
  subst a3;rw[zw,Nat.sub_self,List.replicate_zero,zV]at hm;generalize hL:a.ts.map (fun t=>t % n*n+t / n)=L at *
  have a4:L.length=a.ts.length:=by rw[<-hL];simp
  simp only[p,I,hm,go_sem];have hs:=Xe [.arr [aI 0,.lst true []],.arr (L.map aI)] 2 (.sl 1 1 0 a.ts.length) L zOm (.inr ⟨1,by rw[a4],rfl⟩);simp[go_sem,e5];refine qc.eff0 hs ?_ ?_
  .rintro r m ⟨x,h,ho,a5,ad,a6⟩
   cases h;have g0:=a5 0 zSp (by simp[qx]);have g:∀ c,(m.set 0 c)[0]?=some c:=fun c=>qJ (qk.1 g0).1
   simp at g0;have hx:qx x≠some 0:=fun h=>by have:=a6 _ h;simp[qx]at this
   simp[go_sem,e4,g0,g,ho.one];unfold trR;rw[hL];refine OwnV.rdRel (ho.same fun b hb=>?_);rw[qv (fun e=>hx (by rw[e];exact hb))]
  .rintro r m ⟨x,h,_⟩
   cases h
end
end ET
namespace EW
open EO EP EQ ER ET
inductive TagM (p:Mu->Prop):Type where
 |mk:TagM p
def vh(p:Mu->Prop)(_:TagM p)(mu:Mu):Prop:=p mu
theorem vh.intro{p:Mu->Prop}{mu:Mu}(h:p mu):vh p .mk mu:=h
theorem vC.keep{P:j1}{pl:Pol}{l:wh}{caps:List AV}{ps:Array Tmp}{g body:Code}{Q:qX->St->Prop}{st:St}{rows:List (List AV)}(j:jw P l caps rows)(I:Nat->Mu->Prop)(i:qX->Mu->Prop)
  (o:I 0 (st.mu++[.dead])) (p:∀ k mu,I k mu->I k (mu++[.dead])) (r:∀ e mu,i e mu->i e (mu++[.dead]))
  (t:∀ k x mu,rows[k]?=some x->I k mu->x.length=ps.size/\awp P pl g (asQ (fun st=>awp P pl body (rndQ (fun k=>vh (I k) .mk) (fun e=>vh (i e) .mk) k) st)) ⟨ur st.tm ps.toList x,mu⟩)
  (C:∀ mu,I rows.length mu->Q .normal ⟨st.tm,mu⟩) (hx:∀ e mu,i e mu->Q e ⟨st.tm,mu⟩):vC P pl (.fn (.func l) [] caps) ps g body Q st:=
 vC.intro j I i o p r t C hx
abbrev tupCl(sc:Sc)(p:Int)(l:List Int):AV := .fn (.func 249) [] [.ip [lI l],.ip [aI p],.ip [lI sc.atoms,aI sc.steps]]
theorem gR(sc:Sc)(p:Int)(l:List Int):qd qb 189 [eSc sc,aI p,lI l] (tupCl sc p l):=by
 refine qd.of_sound (qe.of_awp call189 func189 rfl (qh zKr) zKr (pl:={}) ?_);simp[go_sem];refine .hf _ (HF.fn (fun c g=>by simp at g) (fun c g=>?_));simp at g;rcases g with rfl|rfl|rfl
 .exact y9 (yA _)
 .exact y9 (HF.sc _)
 .exact HF.ip fun c g=>by simp at g;rcases g with rfl|rfl<;>first|exact yA _|exact HF.sc _
def tupR(sc:Sc):List Int->Int->List Int
 | [],p=>[p]
 |s :: l,p=>(qu (gI sc.atoms s.toNat).toNat).flatMap fun k:Nat=>tupR sc l (p*sumI sc.atoms+(sumI (sc.atoms.take s.toNat)+k))
@[go_sem] theorem yl_cells(i:Nat):(AV.yl i).cells=[.yl i]:=rfl
@[go_sem] theorem yl_one(i:Nat):(AV.yl i).one=true:=rfl
theorem qhF(sc:Sc)(p:Int):jw qb 249 [.ip [lI []],.ip [aI p],.ip [lI sc.atoms,aI sc.steps]] [[aI p]]:=by
 refine jw.of call249 fun i I t J P l C o=>?_
 refine qe.of_awp call249 func249 rfl (qh zKr) zKr (pl:={}) ?_;simp[go_sem];refine qc.yield (l 0 [aI p] C rfl o) ?_;rintro b r (⟨rfl,g⟩|⟨rfl,j⟩)
 .simp [go_sem]
  exact .inl g
 .simp [go_sem]
  exact .inr j
theorem qhG{i r:Nat}(h:i<r):∃ l,qu r=qu i++i :: l:=by
 refine⟨(qu r).drop (i+1),?_⟩;apply List.ext_getElem?;intro j;by_cases g:j<i
 .rw [qo (zUs g),uH g,uH zOm]
 .rw [zf zSo,List.length_range]
  by_cases e:j=i
  .subst e;simp[h]
  .obtain ⟨d,o⟩:∃ d,j-i=d+1:=⟨j-i-1,zOm⟩
   rw[o,List.getElem?_cons_succ,jF];congr 1;omega
theorem qhH{J:Type}(f:Nat->List J){N k j:Nat}{x:J}(g:k<N)(h:(f k)[j]?=some x):((qu N).flatMap f)[((qu k).flatMap f).length+j]?=some x:=by
 obtain⟨l,e⟩:=qhG g;rw[e,List.flatMap_append,zf zOm,Nat.add_sub_cancel_left,uG,qo (qk.1 h).1];exact h
theorem Jo{J:Type}(f:Nat->List J)(k:Nat):(qu (k+1)).flatMap f=(qu k).flatMap f++f k:=by
 rw[List.range_succ,List.flatMap_append];simp
theorem qhI(sc:Sc)(g:GSc sc)(hA:∀ a,a∈sc.atoms->0<=a)(s:Nat)(P:s<sc.atoms.length)(l:List Int)(hl:l.length<=10)(p:Int)(hp:0<=p/\p<=1000000)
  (ih:∀ k:Nat,k<(gI sc.atoms s).toNat->jw qb 249 [.ip [lI l],.ip [aI (p*sumI sc.atoms+(sumI (sc.atoms.take s)+k))],.ip [lI sc.atoms,aI sc.steps]] ((tupR sc l (p*sumI sc.atoms+(sumI (sc.atoms.take s)+k))).map fun t=>[aI t])) :
  jw qb 249 [.ip [lI (s :: l)],.ip [aI p],.ip [lI sc.atoms,aI sc.steps]] ((tupR sc (s :: l) p).map fun t=>[aI t]):=by
 refine jw.of call249 fun i I Ix hS hX hY C h0=>?_
 refine qe.of_awp call249 func249 rfl (qh zKr) zKr (pl:={}) ?_;have hz:¬(l.length:Int)+1=0:=zOm;have a2:=qgY sc g s zOm;have a3:WKs [eSc sc,aI s] [eSc sc,aI s] := .zk (jx sc) (.zs .nil);obtain⟨s0,s1⟩:=g.sum s;obtain⟨t0,t1⟩:=g.sum sc.atoms.length;rw[zw]at t0 t1;have R:gI sc.atoms s=sc.atoms[s]:=Zr P;have ag:=hA _ (qy P);obtain⟨u0,u1⟩:=g.sum (s+1);rw[Zs _ _ P]at u1;have a4:=W8 sc g;have a5:WKs [eSc sc] [eSc sc] := .zk (jx sc) .nil;have o:tupR sc (s :: l) p=(qu (sc.atoms[s]).toNat).flatMap fun k:Nat=>tupR sc l (p*sumI sc.atoms+(sumI (sc.atoms.take s)+k)):=by
  rw[tupR,show (s:Int).toNat=s by omega,R]
 rw[R]at ih;obtain⟨m0,m1⟩:0<=p*sumI sc.atoms/\p*sumI sc.atoms<=1000000*20:=⟨Int.mul_nonneg hp.1 t0,jS hp.2 t1 t0 zOm⟩;have w2:qj.wrap (p*sumI sc.atoms)=p*sumI sc.atoms:=qi zOm zOm;have w3:qj.wrap (sumI (sc.atoms.take s)+sc.atoms[s])=sumI (sc.atoms.take s)+sc.atoms[s]:=qi zOm zOm;generalize hF:(fun k:Nat=>tupR sc l (p*sumI sc.atoms+(sumI (sc.atoms.take s)+k)))=F at *
 have a6:∀ k:Nat,tupR sc l (p*sumI sc.atoms+(sumI (sc.atoms.take s)+k))=F k:=fun k=>by rw[<-hF]
 simp only[a6]at ih;simp[go_sem,hz];refine qg.intro zKr ?_;simp[go_sem];refine qc.pure a2 a3 ?_;generalize hn:sumI sc.atoms=n at *
 generalize hf:sumI (sc.atoms.take s)=f at *
 simp[go_sem];refine qn.keep (fun m U=>∃ k,m=(sc.atoms[s]).toNat-k/\k<=(sc.atoms[s]).toNat/\U.tm 1 = .ip [lI (s :: l)]/\U.tm 2 = .ip [aI p]/\U.tm 3 = .ip [lI sc.atoms,aI sc.steps]/\U.tm 4 = .ip [.yl i]/\U.tm 5=aI f/\U.tm 6=aI (f+(k:Nat))/\I ((qu k).flatMap F).length U.mu) (sc.atoms[s]).toNat ?_ ?_
 .exact ⟨0,zOm,zOm,zSi,zSi,zSi,zSi,zSi,zSi,zVs h0⟩
 rintro m U ⟨k,rfl,hk,e1,e2,e3,e4,e5,e6,hI⟩;simp[go_sem];refine qg.intro zKr ?_;by_cases a0:k<(sc.atoms[s]).toNat
 .have hb:f+(k:Int)<f+sc.atoms[s]:=by omega
  have w4:qj.wrap (p*n+(f+k))=p*n+(f+k):=qi zOm zOm;have w5:qj.wrap (f+(k:Int)+1)=f+((k+1:Nat):Int):=by rw[qi zOm zOm];omega
  have a1:WKs [eSc sc,aI (p*n+(f+k)),.lst false (l.map rI)] [eSc sc,aI (p*n+(f+k)),lI l] := .zk (jx sc) (.zs (.zk (yA l) .nil));have a7:=gR sc (p*n+(f+k)) l;simp[go_sem,e1,e3,e5,e6,P,w3,hb];refine qg.intro zKr ?_;simp[go_sem,e2,e3];refine qc.pure a4 a5 ?_;have a8:(1:Int)<=l.length+1:=zOm;have a9:List.take l.length (l.map rI)=l.map rI:=ye zSp;simp[go_sem,e1,e6,w2,w4,a8,a9];refine⟨⟨_,_,⟨rfl,rfl⟩,(wJ (s :: l)).ok⟩,?_⟩;refine qc.pure a7 a1 ?_;simp[go_sem];refine vC.keep (ih k a0) (fun j M=>I (((qu k).flatMap F).length+j) M) (fun e M=>e = .ret/\Ix M) ?_ ?_ ?_ ?_ ?_ ?_
  .simpa [go_sem] using hS _ _ hI
  .intro j M h;exact hS _ _ h
  .rintro e M ⟨h1,h2⟩;exact⟨h1,hX _ h2⟩
  .rintro j x M hj aa
   rw[zu,j8]at hj;obtain⟨t,ht,rfl⟩:=hj;have J:(((qu (sc.atoms[s]).toNat).flatMap F).map fun t=>[aI t])[((qu k).flatMap F).length+j]?=some [aI t]:=by
    rw[zu,qhH F a0 ht];rfl
   rw[<-o]at J;refine⟨rfl,?_⟩;simp[go_sem,e4];refine qc.yield (hY _ _ _ J aa) ?_;rintro b r (⟨rfl,ab⟩|⟨rfl,ad⟩)
   .simp [go_sem]
    exact vh.intro ab
   .simp [go_sem]
    exact vh.intro ⟨rfl,ad⟩
  .rintro M ae
   simp[go_sem,e6,w5];refine Keep.loop ((sc.atoms[s]).toNat-(k+1)) zOm ⟨k+1,rfl,zOm,zS1 e1,zS1 e2,zS1 e3,zS1 e4,zS1 e5,zSi,?_⟩;rw[Jo,zc];simpa[go_sem] using ae
  .rintro e M ⟨rfl,h2⟩
   simp[go_sem];exact .inr h2
 .have af:k=(sc.atoms[s]).toNat:=by omega
  have hb:¬f+(k:Int)<f+sc.atoms[s]:=zOm;simp[go_sem,e1,e3,e5,e6,P,w3,hb];rw[o,<-af];exact .inl hI
def bdT:Nat->Int
 | 0=>1000000000
 | 1=>1000000
 | 2=>40000
 |_=>1000
theorem gS(d:Nat)(i:d<3){p q n:Int}(j:0<=p)(l:p<=bdT (d+1))(g:0<=n)(o:n<=20)(r:0<=q)(t:q<=20):0<=p*n+q/\p*n+q<=bdT d/\p<=1000000:=by
 have a:0<=p*n:=Int.mul_nonneg j g;have b:p*n<=bdT (d+1)*20:=jS l o g zOm
 match d,i with
 | 0,_=>simp only[bdT]at *;omega
 | 1,_=>simp only[bdT]at *;omega
 | 2,_=>simp only[bdT]at *;omega
def OkS(sc:Sc)(l:List Int):Prop:=∀ s,s∈l->0<=s/\s<sc.atoms.length
theorem gT(sc:Sc)(g:GSc sc)(hA:∀ a,a∈sc.atoms->0<=a):∀(l:List Int),OkS sc l->l.length<=3->∀ p:Int,0<=p->p<=bdT l.length->jw qb 249 [.ip [lI l],.ip [aI p],.ip [lI sc.atoms,aI sc.steps]] ((tupR sc l p).map fun t=>[aI t])
 | [],_,_,p,_,_=>qhF sc p
 |s :: l,i,C,p,j,o=>by
  obtain⟨n,rfl⟩:∃ n:Nat,s=n:=⟨s.toNat,zW1 ((i s zSp).1)⟩;have r:n<sc.atoms.length:=zW1 ((i n zSp).2);simp only[zG]at C o;obtain⟨t0,t1⟩:=g.sum sc.atoms.length;rw[zw]at t0 t1;refine qhI sc g hA n r l zOm p ⟨j,(gS l.length zOm j o t0 t1 (q:=0) zOm zOm).2.2⟩ fun k I=>?_
  obtain⟨T,J⟩:=g.sum (n+1);rw[Zs _ _ r]at J;rw[Zr r]at I;obtain⟨U,s1⟩:=g.sum n;obtain⟨P,R,_⟩:=gS l.length zOm j o t0 t1 (q:=sumI (sc.atoms.take n)+k) zOm zOm;exact gT sc g hA l (fun x hx=>i x (by simp[hx])) zOm _ P R
theorem gU(sc:Sc)(g:GSc sc)(hA:∀ a,a∈sc.atoms->0<=a):∀(l:List Int),OkS sc l->∀ p,(tupR sc l p).length<=20 ^ l.length
 | [],_,p=>by simp[tupR]
 |s :: l,i,p=>by
  obtain⟨n,rfl⟩:∃ n:Nat,s=n:=⟨s.toNat,zW1 ((i s zSp).1)⟩;have j:n<sc.atoms.length:=zW1 ((i n zSp).2);obtain⟨C,o⟩:=g.sum (n+1);obtain⟨I,s1⟩:=g.sum n;rw[Zs _ _ j]at o;have r:=gU sc g hA l (fun x hx=>i x (by simp[hx]));rw[tupR,show (n:Int).toNat=n by omega,Zr j];have key:∀ m:Nat,((qu m).flatMap fun k:Nat=>tupR sc l (p*sumI sc.atoms+(sumI (sc.atoms.take n)+k))).length<=m*20 ^ l.length:=by
   intro m;induction m with
   |zero=>simp
   |succ m t =>
    rw[Jo,zc,Nat.succ_mul];have:=r (p*sumI sc.atoms+(sumI (sc.atoms.take n)+m));omega
  refine zP (key _) ?_;rw[zG,Nat.pow_succ,Nat.mul_comm];exact Nat.mul_le_mul_left _ zOm
theorem Xj(n a b:Int):qd qb 162 [aI n,aI a,aI b] (aB (decide (a<=n)&&decide (n<=b))):=by
 refine qd.of_sound (qe.of_awp call162 func162 rfl (qh zKr) zKr (pl:={}) ?_);by_cases g:a<=n
 .simp [go_sem,g]
  exact .zsc _
 .simp [go_sem,g]
  exact .zsc _
theorem wk3I(a b c:Int):WKs [aI a,aI b,aI c] [aI a,aI b,aI c] := .zs (.zs (.zs .nil))
theorem fullU(sc:Sc)(g:GSc sc)(hA:∀ a,a∈sc.atoms->0<=a)(l:List Int)(hs:OkS sc l)(h1:1<=l.length)(h3:l.length<=3):qd qb 110 [eSc sc,lI l] (eRel ⟨l.length,tupR sc l 0⟩):=by
 refine qd.of_sound (qe.of_awp call110 func110 rfl (qh zKr) zKr (pl:={}) ?_);have b1:(1:Int)<=l.length:=zOm;have b3:(l.length:Int)<=3:=zOm;have hg:=g.1;have w1:=Xj l.length 1 3;rw[decide_eq_true b1,decide_eq_true b3]at w1;simp[go_sem];refine qc.pure w1 (wk3I _ _ _) ?_;simp[go_sem];refine qn.upK l.length (fun k U=>U.tm 1=lI l/\U.tm 2 = .ip [lI sc.atoms,aI sc.steps]/\U.tm 4 = .ptr 0 0/\U.tm 14=lI l/\U.tm 15=aI l.length/\U.tm 16=aI k/\U.mu=[.arr [aI 0,.lst true []]]) ?_ ?_
 .simp [go_sem]
 rintro k U hk ⟨e1,e2,e4,P,o,p,hm⟩;by_cases C:k<l.length
 .have wk:qj.wrap ((k:Int)+1)=(k:Int)+1:=qi zOm zOm
  have wl:qj.wrap ((sc.atoms.length:Int)-1)=(sc.atoms.length:Int)-1:=qi zOm zOm;obtain⟨q0,q1⟩:=hs _ (qy C);have w2:=Xj l[k] 0 ((sc.atoms.length:Int)-1);rw[decide_eq_true q0,decide_eq_true (by omega:l[k]<=(sc.atoms.length:Int)-1)]at w2;simp[go_sem,e2,P,o,p,hm,C,wl];refine qc.pure w2 (wk3I _ _ _) ?_;simp[go_sem,p,C,wk];exact Keep.mk' ⟨zS1 e1,zS1 e2,zS1 e4,zS1 P,zS1 o,zSi,zSi⟩
 .have a1:k=l.length:=by omega
  subst a1;have a8:=gU sc g hA l hs 0;have hp:20 ^ l.length<=8000:=by
   have:l.length=1\/l.length=2\/l.length=3:=zOm;rcases this with h|h|h<;>rw[h]<;>omega
  have a2:(0:Int)<=bdT l.length:=by
   have:l.length=1\/l.length=2\/l.length=3:=zOm;rcases this with h|h|h<;>rw[h]<;>simp[bdT]
  simp[go_sem,e1,e2,o,p,hm];refine qc.pure (gR sc 0 l) (.zk (jx sc) (.zs (.zk (yA l) .nil))) ?_;simp[go_sem];refine vC.keep (gT sc g hA l hs h3 0 zOm a2) (fun j M=>RelM M l.length ((tupR sc l 0).take j)) (fun _ _=>False) ?_ ?_ ?_ ?_ ?_ ?_
  .exact ⟨.lst true [],zSi,zSi,.inl ⟨rfl,rfl⟩,by simp[qx],by simp[qx]⟩
  .rintro j M ⟨av,I,g1,i,R,n1⟩
   exact⟨av,by rw[qo (qk.1 I).1];exact I,by rw[qo (qk.1 g1).1];exact g1,i.same fun b hb=>by rw[qo (i.v.lt hb)],R,n1⟩
  .intro e M h;exact h
  .rintro j x M hj ⟨av,I,g1,i,R,n1⟩
   rw[zu,j8]at hj;obtain⟨t,ht,rfl⟩:=hj;obtain⟨a3,a4⟩:=qk.1 ht;refine⟨rfl,?_⟩;simp[go_sem,g1];refine qF.ownV1 (e:=3) (bt:=8) (z:=0) zSi zSi zSi zOm i.v zSo ?_;intro a9 r J a5 a6 a7;obtain⟨k1,k2⟩:=RelM.step I g1 R n1 J a5 a6 a7;simp[go_sem,k1,J.v.one,J.v.cells];refine vh.intro ?_;rw[yL a3,a4];exact k2
  .rintro M ⟨av,I,g1,i,R,n1⟩
   rw[yI,zw]at i;have a0:∀ c,(M.set 0 c)[0]?=some c:=fun c=>qJ (qk.1 I).1
   simp[go_sem,e4,I,g1,a0,i.v.one];refine OwnV.rdRel (i.v.same fun b hb=>?_);rw[qv (fun e=>R (by rw[e];exact hb))]
  .intro e M h;exact h.elim
end EW
namespace EU
open E1 EO EP EQ ER ET
abbrev imG(g:List (Int×List Int)):AV := .im (encK (fun n:Int=>aI n) lI g)
abbrev matC(n m:Int)(a b:Rl):List AV:=[.ip (cRel a),.ip [imG (grpK m b.ts)],.ip [aI n],.ip [aI m]]
theorem qhJ(n m:Int)(hm:0<m)(ad:m<=8000)(a b:Rl)(hb:∀ t,t∈b.ts->0<=t/\t<=1000000)(hl:b.ts.length<=1000000):qd qb 295 [aI n,aI m,eRel a,eRel b] (.fn (.func 318) [] (matC n m a b)):=by
 refine qd.of_sound (qe.of_awp call295 func295 rfl (qh zKr) zKr (pl:={}) ?_);obtain⟨B,hB⟩:∃ B,B=AV.mp 0:=⟨_,rfl⟩;have ae:B.cells=[B]:=by rw[hB];rfl
 have af:B.one=true:=by rw[hB];rfl
 simp[go_sem];refine qn.upK b.ts.length (fun k U=>U.tm 4 = .ip [aI n]/\U.tm 5 = .ip [aI m]/\U.tm 6 = .ip (cRel a)/\U.tm 9 = .ptr 1 0/\U.tm 14=lI b.ts/\U.tm 15=aI b.ts.length/\U.tm 16=aI k/\U.mu[1]?=some (.arr [B])/\∃ g,GrpM U.mu 0 (grpK m (b.ts.take k)) g/\∀ q v,getK q g=some v->∀ x,qx v=some x->2<=x) ?_ ?_
 .refine ⟨zSi,zSi,zSi,zSi,zSi,zSi,zSi,by simp[go_sem,hB],[],GrpM.nil zSi,fun q v h=>by simp[getK]at h⟩
 rintro k U hk ⟨e4,e5,e6,e9,a0,o,p,g1,g,hG,h2⟩;by_cases i:k<b.ts.length
 .have w1:qj.wrap ((k:Int)+1)=(k:Int)+1:=qi zOm zOm
  obtain⟨v0,v1⟩:=hb _ (qy i);have d1:b.ts[k].tdiv m=b.ts[k] / m:=Int.tdiv_eq_ediv_of_nonneg v0;have d2:b.ts[k].tmod m=b.ts[k] % m:=Qe v0;have q0:0<=b.ts[k] / m:=Int.ediv_nonneg v0 zOm;have q1:b.ts[k] / m<=b.ts[k]:=Int.ediv_le_self _ v0;have w2:qj.wrap (b.ts[k] / m)=b.ts[k] / m:=qi zOm zOm;have a7:¬m=0:=zOm;have hs:=gL m (b.ts.take k) b.ts[k];rw[<-yL i]at hs;have a1:=hG.cur (b.ts[k] / m);have a8:=keyI.look (et:=28) (t:=378) zSi (mu:=U.mu) (m := .mp 0) (venc:=id) (es:=g) (by simp only[jI,hG.at0]) (k:=b.ts[k] / m) trivial (fun _ _=>trivial) (z := .lst true []) zSi false;have J:yg qb U.mu 378 B (aI (b.ts[k] / m)) false=some ((getK (b.ts[k] / m) g).getD (.lst true [])):=by
   rw[hB];refine Eq.trans a8 ?_;cases getK (b.ts[k] / m) g<;>rfl
  have P:=fun (r:Mu) (av:AV) (l:List Int)=>GrpM.step (mu':=r) (av:=av) (l:=l) (k:=b.ts[k] / m) hG
  have a9:∀ x,qx ((getK (b.ts[k] / m) g).getD (.lst true []))=some x->2<=x:=by
   intro x hx;cases hc:getK (b.ts[k] / m) g with
   |none=>rw[hc]at hx;simp[qx]at hx
   |some v=>rw[hc]at hx;exact h2 _ _ hc x hx
  have ag:((getK (b.ts[k] / m) (grpK m (b.ts.take k))).getD []).length<=k:=by
   rw[V2 m b.ts k zOm,yI];exact zP (List.length_filter_le _ _) zSo
  simp[go_sem,a0,o,p,i];refine qg.seg [0,1,2,3,4,5,6,7,8,9,10,11,12,13,14] [(0,0,[]),(1,0,[]),(2,0,[]),(3,0,[]),(4,0,[]),(5,0,[]),(6,0,[]),(7,0,[]),(8,0,[]),(9,0,[]),(10,0,[]),(11,0,[]),(12,0,[]),(13,1,[0,2]),(14,1,[])] zKr zKr zSi ?_;simp[go_sem,e5,e9,g1,a7,d1,d2,w2,J];refine qF.ownV1 (e:=3) (bt:=8) (z:=0) (l:=(getK (b.ts[k] / m) (grpK m (b.ts.take k))).getD []) zSi zSi zSi zOm a1.v zOm ?_;intro R r aa a3 ah a4;obtain⟨k1,k2⟩:=P r R _ aa a3 a4;rw[<-hs]at k2;have a5:jt qb r 378 (.mp 0) (aI (b.ts[k] / m)) R=_:=keyI.update (et:=28) (t:=378) zSi (mu:=r) (b:=0) (venc:=id) (es:=g) k1 (k:=b.ts[k] / m) (v:=R) trivial (fun _ _=>trivial);have l1:1<U.mu.length:=(qk.1 g1).1;have a6:r[1]?=some (.arr [B]):=by rw[a3 1 l1 (fun e=>zW1 (a9 1 e))];exact g1
  simp[go_sem,e5,e9,a6];subst hB;refine OptK.intro _ a5 ?_;simp[go_sem,p,i,w1];refine Keep.mk' ⟨zS1 e4,zS1 e5,zS1 e6,zS1 e9,zS1 a0,zS1 o,zSi,?_,_,zVs k2,fun q v hq x hx=>?_⟩
  .simp only[qP]
   rw[qv zOm];exact a6
  .rw [jB]at hq
   split at hq
   .cases hq;have:=a4 x hx;omega
   .exact h2 q v hq x hx
 .have ab:k=b.ts.length:=by omega
  subst ab;rw[zw]at hG;simp[go_sem,e4,e5,e6,e9,o,p];refine .fn _ _ _ _ _ rfl rfl (fun k x y hx=>by simp at hx) (fun k x y hx j=>?_)
  match k with
  | 0=>simp at hx j;subst hx;subst j;exact .hf _ (HF.ip (Je a))
  | 1=>simp at hx j;subst hx;subst j;rw[hB]at g1;exact Rd.ip1 g1 (hG.rd (qg4 m b.ts))
  | 2=>simp at hx j;subst hx;subst j;exact .hf _ (y9 (HF.sc _))
  | 3=>simp at hx j;subst hx;subst j;exact .hf _ (y9 (HF.sc _))
  |k+4=>simp at hx
theorem lookG(mu:Mu)(m:Int)(ys:List Int)(k:Int):∃ f,yg qb mu 378 (imG (grpK m ys)) (aI k) false=some (.lst f (((getK k (grpK m ys)).getD []).map rI)):=by
 have:=keyI.look (et:=28) (t:=378) zSi (mu:=mu) (m:=imG (grpK m ys)) (venc:=lI) (es:=grpK m ys) rfl (k:=k) trivial (fun _ _=>trivial) (z := .lst true []) zSi false;simp only[yg];cases h:getK k (grpK m ys) with
 |none=>rw[h]at this;exact⟨true,this⟩
 |some l=>rw[h]at this;exact⟨false,this⟩
theorem qhK{J g:Type}(f:J->List g){l:List J}{k j:Nat}{x:g}(i:k<l.length)(h:(f l[k])[j]?=some x):(l.flatMap f)[((l.take k).flatMap f).length+j]?=some x:=by
 have e:l=l.take k++l[k] :: l.drop (k+1):=by rw[<-zt i,uf]
 have o:l.flatMap f=(l.take k).flatMap f++(f l[k]++(l.drop (k+1)).flatMap f):=by
  conv=>lhs;rw[e]
  rw[List.flatMap_append,uG]
 rw[o,zf zOm,Nat.add_sub_cancel_left,qo (qk.1 h).1];exact h
theorem qhL(n m:Int)(hn:0<n)(ab:n<=20)(hm:0<m)(a5:m<=8000)(a b:Rl)(ha:∀ t,t∈a.ts->0<=t/\t<=1000000)(ad:a.ts.length<=1000000)(a6:b.ts.length<=1000000) :
  jw qb 318 (matC n m a b) ((joL n m a.ts b.ts).map fun t=>[aI t]):=by
 refine jw.of call318 fun i I Ix hS hX hY C h0=>?_
 refine qe.of_awp call318 func318 rfl (qh zKr) zKr (pl:={}) ?_;have a0:=fun C=>lookG C m b.ts
 obtain⟨B,hB⟩:∃ B,B=imG (grpK m b.ts):=⟨_,rfl⟩;have ae:B.cells=[B]:=by rw[hB];rfl
 have af:B.one=true:=by rw[hB];rfl
 simp only[<-hB]at a0⊢;rw[<-qg5]at hY⊢;generalize hF:(fun s=>((getK (s % n) (grpK m b.ts)).getD []).map fun t=>s / n*m+t)=F at *
 have a7:∀ s,F s=((getK (s % n) (grpK m b.ts)).getD []).map fun t=>s / n*m+t:=fun s=>by rw[<-hF]
 simp[go_sem];refine qn.upK a.ts.length (fun k U=>U.tm 0 = .yl i/\U.tm 2 = .ip [B]/\U.tm 3 = .ip [aI n]/\U.tm 4 = .ip [aI m]/\U.tm 11=lI a.ts/\U.tm 12=aI a.ts.length/\U.tm 13=aI k/\I ((a.ts.take k).flatMap F).length U.mu) ?_ ?_
 .exact ⟨zSi,by simp[go_sem,hB],zSi,zSi,zSi,zSi,zSi,zVs h0⟩
 rintro k U hk ⟨e0,e2,e3,e4,a1,o,p,R⟩;by_cases l:k<a.ts.length
 .have w1:qj.wrap ((k:Int)+1)=(k:Int)+1:=qi zOm zOm
  obtain⟨v0,v1⟩:=ha _ (qy l);have d1:a.ts[k].tdiv n=a.ts[k] / n:=Int.tdiv_eq_ediv_of_nonneg v0;have d2:a.ts[k].tmod n=a.ts[k] % n:=Qe v0;have q0:0<=a.ts[k] / n:=Int.ediv_nonneg v0 zOm;have q1:a.ts[k] / n<=a.ts[k]:=Int.ediv_le_self _ v0;have w2:qj.wrap (a.ts[k] / n)=a.ts[k] / n:=qi zOm zOm;have a2:¬n=0:=zOm;obtain⟨f,J⟩:=a0 U.mu (a.ts[k] % n);have a8:((getK (a.ts[k] % n) (grpK m b.ts)).getD []).length<=1000000/\∀ t,t∈(getK (a.ts[k] % n) (grpK m b.ts)).getD []->0<=t/\t<m:=by
   have:=V2 m b.ts b.ts.length (qm _) (a.ts[k] % n);rw[zw]at this;rw[this];refine⟨by rw[yI];exact zP (List.length_filter_le _ _) a6,fun t ht=>?_⟩;obtain⟨u,_,rfl⟩:=qr.1 ht;exact⟨Int.emod_nonneg _ zOm,Int.emod_lt_of_pos _ hm⟩
  have a3:=a7 a.ts[k];generalize (getK (a.ts[k] % n) (grpK m b.ts)).getD []=L at *
  obtain⟨m0,m1⟩:=Xi (x:=1000000) (y:=8000) q0 zOm (by omega:0<=m) a5 zOm;have w3:qj.wrap (a.ts[k] / n*m)=a.ts[k] / n*m:=qi zOm zOm;simp[go_sem,a1,o,p,l];refine qg.intro zKr ?_;simp[go_sem,e2,e3,a2,d2,J];refine qn.upK L.length (fun j U=>U.tm 0 = .yl i/\U.tm 2 = .ip [B]/\U.tm 3 = .ip [aI n]/\U.tm 4 = .ip [aI m]/\U.tm 7=aI a.ts[k]/\U.tm 11=lI a.ts/\U.tm 12=aI a.ts.length/\U.tm 13=aI k/\U.tm 21 = .lst f (L.map rI)/\U.tm 22=aI L.length/\U.tm 23=aI j/\I (((a.ts.take k).flatMap F).length+j) U.mu) ?_ ?_
  .exact ⟨zS1 e0,zS1 e2,zS1 e3,zS1 e4,zSi,zS1 a1,zS1 o,zS1 p,zSi,zSi,zSi,zVs R⟩
  rintro j U hj ⟨f0,f2,f3,f4,f7,f11,f12,f13,f21,f22,f23,R⟩;by_cases g:j<L.length
  .have w4:qj.wrap ((j:Int)+1)=(j:Int)+1:=qi zOm zOm
   obtain⟨u0,u1⟩:=a8.2 _ (qy g);have w5:qj.wrap (a.ts[k] / n*m+L[j])=a.ts[k] / n*m+L[j]:=qi zOm zOm;have a4:((a.ts.flatMap F).map fun t=>[aI t])[((a.ts.take k).flatMap F).length+j]?=some [aI (a.ts[k] / n*m+L[j])]:=by
    rw[zu,qhK F l (x:=a.ts[k] / n*m+L[j]) (by rw[a3,zu,qA g];rfl)];rfl
   simp[go_sem,f21,f22,f23,g];refine qg.tail 8 zKr ?_;simp[go_sem,f0,f3,f4,f7,a2,d1,w2,w3,w5];refine qc.yield (hY _ _ _ a4 R) ?_;rintro b r (⟨rfl,a9⟩|⟨rfl,aa⟩)
   .simp [go_sem,f23,g,w4]
    exact Keep.mk' ⟨zS1 f0,zS1 f2,zS1 f3,zS1 f4,zS1 f7,zS1 f11,zS1 f12,zS1 f13,zS1 f21,zS1 f22,zSi,a9⟩
   .simp [go_sem]
    exact .inr aa
  .have P:j=L.length:=by omega
   subst P;simp[go_sem,f13,f22,f23,w1];refine⟨l,Keep.mk' ⟨zS1 f0,zS1 f2,zS1 f3,zS1 f4,zS1 f11,zS1 f12,zSi,?_⟩⟩;rw[yL l,List.flatMap_append,zc];simpa[go_sem,a3] using R
 .have P:k=a.ts.length:=by omega
  subst P;rw[zw]at R;simp[go_sem,o,p];exact .inl (by simpa[List.length_flatMap] using R)
end EU
namespace EC
open E1 E2
theorem gV(n:Int):powI n 2=n*n:=by
 have:=u4 (n:=n) (i:=1) (j:=1) zOm zOm zOm;rw[uz]at this;exact this
end EC
namespace EY
open E1 E2 E3 EO EP EQ ET EW EU EC
def GatM(mu:Mu)(l:List Int):Prop:=∃ t,mu[0]?=some (.arr [aI 0,.lst true []])/\mu[1]?=some (.arr [t])/\OwnI mu t l/\qx t≠some 0/\qx t≠some 1
theorem GatM.step{mu mu':Mu}{av g:AV}{l:List Int}(C:mu[0]?=some (.arr [aI 0,.lst true []]))(o:mu[1]?=some (.arr [av]))(I:qx av≠some 0)(J:qx av≠some 1)(P:OwnI mu' g l)
  (p:∀ i,i<mu.length->qx av≠some i->mu'[i]?=mu[i]?) (U:mu.length<=mu'.length) (r:∀ b,qx g=some b->b=mu.length):mu'[1]?=some (.arr [av])/\GatM (mu'.set 1 (.arr [g])) l:=by
 have R:1<mu.length:=(qk.1 o).1;have T:qx g≠some 0:=fun e=>zW1 (r 0 e)
 have t:qx g≠some 1:=fun e=>zW1 (r 1 e)
 refine⟨by rw[p 1 R J];exact o,g,by rw[qv zOm,p 0 zOm I];exact C,by rw[qJ zOm],P.same fun b j=>?_,T,t⟩;rw[qv (fun e=>t (by rw[e];exact j))]
theorem GatM.push{mu:Mu}{l:List Int}(h:GatM mu l):GatM (mu++[.dead]) l:=by
 obtain⟨t,g,g1,i,j,o⟩:=h;exact⟨t,by rw[qo (qk.1 g).1];exact g,by rw[qo (qk.1 g1).1];exact g1,i.same fun b p=>by rw[qo (i.v.lt p)],j,o⟩
theorem GR.none{n:Int}(h:n=0){a:Rl}(g:GR n a):a.ts=[]:=by
 cases i:a.ts with
 |nil=>rfl
 |cons t l =>
  exfalso;obtain⟨v0,v1⟩:=g.val t (by rw[i];simp);have o:=g.ar1;rw[Z9 zOm g.ar3,h]at v1;have:(0:Int) ^ a.ar.toNat=0:=by
   obtain⟨k,j⟩:∃ k,a.ar.toNat=k+1:=⟨a.ar.toNat-1,zOm⟩;rw[j,Int.pow_succ,Int.mul_zero]
  omega
theorem qhM(n m:Int)(x y:List Int):(joL n m x y).length<=x.length*y.length:=by
 induction x with
 |nil=>simp[joL]
 |cons s x g =>
  simp only[joL,uG,zc,yI,zG]at g⊢;have:=List.length_filter_le (fun t=>decide (t / m=s % n)) y;rw[Nat.add_mul];omega
theorem uX(n:Int)(l:0<=n)(ah:n<=12)(a b:Rl)(C:GR n a)(o:GR n b)(hs:a.ar+b.ar<=5->a.ts.length*b.ts.length<=1000000):qd qb 253 [aI n,eRel a,eRel b] (match uZ n a b with | .ok r => .tup [eRel r,aI 0] | .error e => .tup [eRel ⟨0,[]⟩,aI e]):=by
 refine qd.of_sound (qe.of_awp call253 func253 rfl (qh zKr) zKr (pl:={}) ?_);have a1:=C.ar1;have a3:=C.ar3;have b1:=o.ar1;have b3:=o.ar3;have la:=C.len l zOm;have lb:=o.len l zOm;have w0:qj.wrap (a.ar+b.ar)=a.ar+b.ar:=qi zOm zOm;have w1:qj.wrap (a.ar+b.ar-2)=a.ar+b.ar-2:=qi zOm zOm;unfold uZ;by_cases a0:1<=a.ar+b.ar-2
 case neg =>
  have p:a.ar+b.ar-2<1:=zOm;rw[if_neg zOm];simp[go_sem,w0,w1,p];exact Qs Zz
 by_cases a2:a.ar+b.ar-2<=3
 case neg =>
  have p:¬a.ar+b.ar-2<1:=zOm;have g:3<a.ar+b.ar-2:=zOm;rw[if_neg zOm];simp[go_sem,w0,w1,p,g];exact Qs Zz
 have p:¬a.ar+b.ar-2<1:=zOm;have g:¬ 3<a.ar+b.ar-2:=zOm;rw[if_pos ⟨a0,a2⟩];by_cases hz:n=0
 .have e:joR n a b=⟨a.ar+b.ar-2,[]⟩:=by
   unfold joR;rw[GR.none hz C];rfl
  simp[go_sem,w0,w1,p,g,hz];subst hz;rw[e];exact Qs Zz
 have ai:1<=n:=zOm;have w2:qj.wrap (b.ar-1)=b.ar-1:=qi zOm zOm;have hp:0<powI n (b.ar-1):=Int.pow_pos zOm;obtain⟨p0,p1⟩:=wU (k:=b.ar-1) l (by omega:n<=20);obtain⟨q0,q1⟩:=wU (k:=b.ar) l (by omega:n<=20);obtain⟨r0,r1⟩:=wU (k:=a.ar) l (by omega:n<=20);have a4:∀ t,t∈a.ts->0<=t/\t<=1000000:=fun t I=>zW1 (C.val t I)
 have a5:∀ t,t∈b.ts->0<=t/\t<=1000000:=fun t I=>zW1 (o.val t I)
 have a6:=Xh n l zOm (b.ar-1) zOm zOm;have hJ:joR n a b=⟨a.ar+b.ar-2,ofL (joL n (powI n (b.ar-1)) a.ts b.ts)⟩:=rfl;have aj:=qhM n (powI n (b.ar-1)) a.ts b.ts;have hs:=hs zOm;have a7:=qhJ n (powI n (b.ar-1)) hp p1 a b a5 zOm;have a8:=qhL n (powI n (b.ar-1)) zOm zOm hp p1 a b a4 zOm zOm;have a9:WKs [aI n,aI (powI n (b.ar-1)),eRel a,eRel b] [aI n,aI (powI n (b.ar-1)),eRel a,eRel b] := .zs (.zs (.zk (q9 a) (.zk (q9 b) .nil)));simp only[hJ];generalize powI n (b.ar-1)=m at *
 generalize joL n m a.ts b.ts=J at *
 simp[go_sem,w0,w1,p,g,hz];refine qg.intro zKr ?_;simp[go_sem,w2];refine qc.pure a6 (.zs (.zs .nil)) ?_;simp[go_sem];refine qc.pure a7 a9 ?_;simp[go_sem];refine vC.keep a8 (fun j M=>GatM M (J.take j)) (fun _ _=>False) ?_ ?_ ?_ ?_ ?_ ?_
 .exact ⟨.lst true [],zSi,zSi,.inl ⟨rfl,rfl⟩,by simp[qx],by simp[qx]⟩
 .exact fun j M h=>h.push
 .intro e M h;exact h
 .rintro j x M hj ⟨av,g0,g1,ho,n0,n1⟩
  rw[zu,j8]at hj;obtain⟨t,I,rfl⟩:=hj;obtain⟨P,aa⟩:=qk.1 I;refine⟨rfl,?_⟩;simp[go_sem,g1];refine qF.ownV1 (e:=3) (bt:=8) (z:=0) zSi zSi zSi zOm ho.v zSo ?_;intro ak al i ab ad ae;obtain⟨k1,k2⟩:=GatM.step g0 g1 n0 n1 i ab ad ae;simp[go_sem,k1,i.v.one,i.v.cells];refine vh.intro ?_;rw[yL P,aa];exact k2
 .rintro M ⟨av,g0,g1,ho,n0,n1⟩
  rw[yI,zw]at ho;simp[go_sem,g1];refine qc.eff0 (Xe M _ av J zOm ho) ?_ ?_
  .rintro r m' ⟨x,h,R,af,an,ag⟩
   cases h;have h1:=af 0 (qk.1 g0).1 n0;rw[g0]at h1;have U:∀ c,(m'.set 0 c)[0]?=some c:=fun c=>qJ (qk.1 h1).1
   have hx:qx x≠some 0:=fun h=>n0 (ag _ h)
   simp[go_sem,h1,U,R.one];refine Qs (r:=⟨a.ar+b.ar-2,ofL J⟩) (OwnV.rdRel (R.same fun b o=>?_));rw[qv (fun e=>hx (by rw[e];exact o))]
  .rintro r m' ⟨x,h,_⟩
   cases h
 .intro e M h;exact h.elim
theorem qhN(p:List Int)(o:p.length<=1000000000):qd qb 296 [lI p] (lI p):=by
 refine qd.of_sound (qe.of_awp call296 func296 rfl (qh zKr) zKr (pl:={}) ?_);cases p with
 |nil =>
  simp[go_sem,lI];refine⟨.wk _ true _ (.hf _ (HF.lst (full:=true) (xs:=[]) fun r C=>by simp at C)),?_⟩;refine qF.ownVs (e:=3) (bt:=8) (z:=0) (l:=[]) (ys:=[]) zSi zSi zSi zOm (.inl ⟨rfl,rfl⟩) (by simp[qO]) zSp ?_;intro t g i _ _ _;simp[go_sem];exact i.v.rd
 |cons x l =>
  simp[go_sem,lI];refine qF.ownVs (e:=3) (bt:=8) (z:=0) (l:=[]) (ys:=x :: l) zSi zSi zSi zOm (.inl ⟨rfl,rfl⟩) (by simp[qO]) (by simp at o⊢;omega) ?_;intro t g i _ _ _;simp[go_sem];exact i.v.rd
theorem V4{n:Int}(j:0<=n)(i:n<=12){a:Rl}(g:GR n a)(l:a.ar=2):a.ts.length<=144:=by
 have e:=gV n;have p:n*n<=12*12:=jS i i j zOm;exact Jl g.srt fun t o=>by have:=g.val t o;rw[l,e]at this;omega
theorem qhO{a b:Rl}(g:yo a.ts):a.ts.length<=(unR a b).ts.length:=by
 refine jT (VV g) fun x hx=>?_
 exact(VW (a.ts++b.ts)).2 x |>.2 (jc _ hx)
theorem wkJ(n:Int)(a b:Rl):WKs [aI n,eRel a,eRel b] [aI n,eRel a,eRel b] := .zs (.zk (q9 a) (.zk (q9 b) .nil))
theorem wkR2(a b:Rl):WKs [eRel a,eRel b] [eRel a,eRel b] := .zk (q9 a) (.zk (q9 b) .nil)
theorem closU(n:Int)(l:0<=n)(g:n<=12)(a:Rl)(ha:GR n a)(I:a.ar=2):qd qb 257 [aI n,eRel a] (eRel (clR n 200 a)):=by
 refine qd.of_sound (qe.of_awp call257 func257 rfl (qh zKr) zKr (pl:={}) ?_);have a0:=V4 l g ha I;simp[go_sem];refine qc.pure (qhN a.ts zOm) (.zk (yA _) .nil) ?_;simp[go_sem];refine qn.keep (fun m o=>∃ c,m=145-c.ts.length/\GR n c/\c.ar=2/\(∃ f,145<=f+c.ts.length/\clR n f c=clR n 200 a)/\o.tm 0=aI n/\o.tm 4 = .ptr 0 0/\o.tm 5 = .ptr 1 0/\∃ i,o.mu = .arr [aI 0,.lst true []] :: .arr (cRel c) :: i) (145-a.ts.length) ?_ ?_
 .exact ⟨a,rfl,ha,I,⟨200,zOm,rfl⟩,zSi,zSi,zSi,[],zS1 I⟩
 rintro m o ⟨c,rfl,gc,c2,⟨f,hf,j⟩,e0,e4,p,i,hm⟩;have r:=V4 l g gc c2;have gj:=GR.join l gc gc zOm zOm;have gu:=GR.union gc gj (by show c.ar=c.ar+c.ar-2;omega);have a1:=V4 l g gu c2;have a2:=qhO (b:=joR n c c) gc.srt;have hj:=uX n l g c c gc gc fun _=>zP (Nat.mul_le_mul r r) zOm
 have J:uZ n c c = .ok (joR n c c):=by unfold uZ;rw[if_pos ⟨zOm,zOm⟩]
 rw[J]at hj;have a3:=V4 l g gj (by show c.ar+c.ar-2=2;omega);have hu:=ve c (joR n c c) zOm zOm;simp[go_sem,e0,p,hm];refine qc.pure hj (wkJ n c c) ?_;simp[go_sem,p];refine qc.pure hu (wkR2 c (joR n c c)) ?_;generalize P:unR c (joR n c c)=U at *
 by_cases C:U.ts.length=c.ts.length
 .have hr:clR n 200 a=c:=by
   rw[<-j];cases f with
   |zero=>omega
   |succ f=>rw[clR,P,if_pos C]
  rw[hr];simp[go_sem,e4,p,C];exact .hf _ (q9 c)
 .have t:∃ f,145<=f+U.ts.length/\clR n f U=clR n 200 a:=by
   cases f with
   |zero=>omega
   |succ f =>
    rw[clR,P,if_neg C]at j;exact⟨f,zOm,j⟩
  have R:U.ar=2:=by rw[<-P];exact c2
  simp[go_sem,p,C];exact Keep.loop (145-U.ts.length) zOm ⟨U,rfl,gu,R,t,zS1 e0,zS1 e4,zS1 p,_,by simp[go_sem];rfl⟩
end EY
namespace EZ
open E1 E2 EO EP EQ ER ET EY
theorem gW(m:Int)(i:0<m)(x:Int)(hx:0<=x/\x<=1000000):qd qb 293 [aI x,.ip [aI m]] (aI (x / m)):=by
 refine qd.of_sound (qe.of_awp call293 func293 rfl (qh zKr) zKr (pl:={}) ?_);have d1:x.tdiv m=x / m:=Int.tdiv_eq_ediv_of_nonneg hx.1;have j:0<=x / m:=Int.ediv_nonneg hx.1 zOm;have l:x / m<=x:=Int.ediv_le_self _ hx.1;have g:qj.wrap (x / m)=x / m:=qi zOm zOm;simp[go_sem,show ¬m=0 by omega,d1,g];exact .zsc _
abbrev ovF(m:Int):AV := .fn (.func 293) [] [.ip [aI m]]
theorem Ya(m:Int):HF (ovF m):=HF.fn zSp (by simp;exact y9 (HF.sc _))
theorem FnOk.ov(m:Int)(g:0<m)(ok:Int->Prop)(h:∀ x,ok x->0<=x/\x<=1000000):FnOk qb (ovF m) (fun x:Int=>aI x) ok (fun x=>aI (x / m)):=
 ⟨Ya m,_,[],_,rfl,fun x hx=>⟨_,.zs (.zk (y9 (HF.sc _)) .nil),gW m g x (h x hx)⟩⟩
theorem qhP(m:Int)(g:0<m)(ts:List Int)(x:Int)(hx:0<=x/\x<=1000000):qd qb 294 [aI x,.ip [imC (cntK (fun t=>t / m) ts)],.ip [ovF m]] (aB (decide ((getK (x / m) (cntK (fun t=>t / m) ts)).getD 0=0))):=by
 refine qd.of_sound (qe.of_awp call294 func294 rfl (qh zKr) zKr (pl:={}) ?_);have i:=fun C=>Xg C (fun t=>t / m) ts (x / m)
 have j:(imC (cntK (fun t=>t / m) ts)).cells=[imC (cntK (fun t=>t / m) ts)]:=rfl;have l:(imC (cntK (fun t=>t / m) ts)).one=true:=rfl;generalize imC (cntK (fun t=>t / m) ts)=B at *
 simp[go_sem];refine qg.intro zKr ?_;simp[go_sem];refine qc.clo (gW m g x hx) (.zs (.zk (y9 (HF.sc _)) .nil)) ?_;simp[go_sem,i];exact .zsc _
theorem qhQ(m:Int)(ts:List Int)(x:Int):(getK (x / m) (cntK (fun t=>t / m) ts)).getD 0=0↔∀ u,u∈ts->u / m≠x / m:=by
 obtain⟨j,i⟩:=gK (fun t=>t / m) ts (x / m);constructor
 .intro h u g e
  have:=i.2 ⟨u,g,e⟩;omega
 .intro h
  have:¬ 0<(getK (x / m) (cntK (fun t=>t / m) ts)).getD 0:=fun hp=>by
   obtain⟨u,g,e⟩:=i.1 hp;exact h u g e
  omega
theorem overU(n:Int)(l:0<=n)(a8:n<=12)(a b:Rl)(J:GR n a)(o:GR n b)(e:a.ar=b.ar):qd qb 251 [aI n,eRel a,eRel b] (eRel (ovR n a b)):=by
 refine qd.of_sound (qe.of_awp call251 func251 rfl (qh zKr) zKr (pl:={}) ?_);have b1:=o.ar1;have b3:=o.ar3;have la:=J.len l zOm;have lb:=o.len l zOm;by_cases I:n=0
 .have hr:ovR n a b=⟨a.ar,[]⟩:=by
   unfold ovR unR;rw[GR.none I J,GR.none I o,e];rfl
  rw[hr];simp[go_sem,I];exact Zz
 have w2:qj.wrap (b.ar-1)=b.ar-1:=qi zOm zOm;have hp:0<powI n (b.ar-1):=Int.pow_pos zOm;obtain⟨p0,p1⟩:=wU (k:=b.ar-1) l (by omega:n<=20);obtain⟨q0,q1⟩:=wU (k:=b.ar) l (by omega:n<=20);obtain⟨r0,r1⟩:=wU (k:=a.ar) l (by omega:n<=20);have P:∀ t,t∈a.ts->0<=t/\t<=1000000:=fun t R=>zW1 (J.val t R)
 have U:∀ t,t∈b.ts->0<=t/\t<=1000000:=fun t R=>zW1 (o.val t R)
 have a0:=Xh n l zOm (b.ar-1) zOm zOm;unfold ovR;generalize powI n (b.ar-1)=m at *
 have a1:=setU b (ovF m) (fun t=>t / m) (FnOk.ov m hp (·∈b.ts) U) zOm;have g:=Zy (cntK (fun t=>t / m) b.ts);have hk:=Xf a.ts (.fn (.func 294) [] [.ip [imC (cntK (fun t=>t / m) b.ts)],.ip [ovF m]]) (fun t=>decide (∀ u,u∈b.ts->u / m≠t / m)) ⟨HF.fn zSp (by simp;exact⟨y9 g,y9 (Ya m)⟩),_,[],_,rfl,fun x hx=>⟨_,.zs (.zk (y9 g) (.zk (y9 (Ya m)) .nil)),by have:=qhP m hp b.ts x (P x hx);simp only[qhQ m b.ts x]at this;exact this⟩⟩ zOm;have a2:(imC (cntK (fun t=>t / m) b.ts)).cells=[imC (cntK (fun t=>t / m) b.ts)]:=rfl;have a3:(imC (cntK (fun t=>t / m) b.ts)).one=true:=rfl;generalize imC (cntK (fun t=>t / m) b.ts)=B at *
 have a4:WKs [lI a.ts,.fn (.func 294) [] [.ip [B],.ip [ovF m]]] [lI a.ts,.fn (.func 294) [] [.ip [B],.ip [ovF m]]] := .zk (yA _) (.cons (.hf (HF.fn zSp (by simp;exact⟨y9 g,y9 (Ya m)⟩))) .nil);have a5:=List.length_filter_le (fun t=>decide (∀ u,u∈b.ts->u / m≠t / m)) a.ts;have hu:=ve b ⟨a.ar,a.ts.filter fun t=>decide (∀ u,u∈b.ts->u / m≠t / m)⟩ zOm (zP a5 zOm);have a6:=wkR2 b ⟨a.ar,a.ts.filter fun t=>decide (∀ u,u∈b.ts->u / m≠t / m)⟩;generalize a.ts.filter (fun t=>decide (∀ u,u∈b.ts->u / m≠t / m))=K at *
 simp[go_sem,I];rw[w2];refine qc.pure a0 (.zs (.zs .nil)) ?_;simp[go_sem];refine qc.eff0 (qe.freezeM (args1:=[eRel b,ovF m]) (mu':=[.arr [aI 0,.lst true []],.dead,.arr [ovF m]]) (fun i=>i == 1) ?_ ?_ (a1.toSound _ (.zk (q9 b) (.zk (Ya m) .nil)))) ?_ ?_
 .exact ⟨.same _,.fn _ _ _ _ _ rfl rfl zSp (fun k x y hx C=>by
   match k with
   | 0=>simp at hx C;subst hx;subst C;exact .rd _ _ (Rd.ip1 rfl (.hf _ (HF.sc _)))
   |k+1=>simp at hx),trivial⟩
 .refine ⟨rfl,fun i c' j h2=>?_⟩
  match i with
  | 0=>simp at j;subst j;exact⟨rfl,_,rfl,zSp,.inl rfl⟩
  | 1=>simp at j;exact absurd j.symm h2
  | 2 =>
   simp at j;subst j;exact⟨rfl,_,rfl,zSp,.inr ⟨_,_,rfl,rfl,⟨.fn _ _ _ _ _ rfl rfl zSp (fun k x y hx C=>by
    match k with
    | 0=>simp at hx C;subst hx;subst C;exact .rd _ _ (Rd.ip1 rfl (.hf _ (HF.sc _)))
    |k+1=>simp at hx),trivial⟩,rfl⟩⟩
  |i+3=>simp at j
 .rintro r p ⟨h,rfl⟩
  cases h;simp[go_sem,a2,a3];refine qg.fz (FzQ.one (d:=8) (b:=2) (x := .ip [ovF m]) (Rd.ip1 rfl (.hf _ (Ya m))) ?_);refine qg.fz (FzQ.one (d:=9) (b:=3) (x := .ip [B]) ?_ ?_)
  .simp [go_sem,cutM]
   exact Rd.ip1 rfl (.hf _ g)
  simp[go_sem,cutM];refine qg.intro zKr ?_;simp[go_sem];refine qc.pure hk a4 ?_;simp[go_sem];refine qc.pure hu a6 ?_;simp[go_sem];exact .hf _ (q9 _)
 .rintro r p ⟨h,rfl⟩
  cases h
end EZ
namespace Y10
open Y1 Y2 Y3 P1 Y6 Y7 YF Y9
section
variable {s:AV}{K:AV->Mu->Prop}{xs:List (List AV)}{mu:Mu}{sz:Nat}
abbrev rB(b:Bool):List AV:=[aB b]
theorem wV(l:List Bool):zy 1 (l.map rB):=fun r g=>by
 obtain⟨n,_,rfl⟩:=qr.1 g;exact⟨rfl,rfl⟩
theorem OwnF.rdB{lo:Nat}{av:AV}{xs:List Bool}(h:OwnF lo mu 1 av (xs.map rB)):Rd mu av (.lst false (xs.map rB)):=
 h.1.rd (wV xs).ok fun r i c g=>by
  obtain⟨n,_,rfl⟩:=qr.1 i;simp at g;subst g;exact HF.sc _
theorem Xk{lo:Nat}{mu':Mu}{av:AV}(h:OwnF lo mu sz av xs)(i:MuLe mu mu'):OwnF lo mu' sz av xs:=by
 obtain⟨j,l,o⟩:=h;have g:mu.length<=mu'.length:=by
  rcases Nat.eq_zero_or_pos mu.length with p|p
  .omega
  .have:=i (mu.length-1) mu[mu.length-1] (qA zOm)
   have:=(qk.1 this).1;omega
 refine⟨?_,l,zP o g⟩;rcases j with rfl|⟨b,rfl,r⟩
 .exact .inl rfl
 .exact .inr ⟨b,rfl,i _ _ r⟩
theorem ZA(ts:TS):∀ k,k<=ts.preds.length->(tmsL ts k).length=k
 | 0,_=>rfl
 |k+1,h=>by
  have g:k<ts.preds.length:=zOm;simp[tmsL,ZA ts k zOm,qA g]
theorem vG{ts:TS}(h:okTS ts){k:Nat}(g:k<=ts.preds.length):okCk (mkCk ts k):=⟨h,g,Nat.le_of_eq (ZA ts k g).symm⟩
theorem qhR(ts:TS)(h:okTS ts)(hs:∀ p,p∈ts.preds->Small p.body)(n:Nat)(hn:n<=ts.preds.length):qd qb 214 [eTS ts,aI n] (eCk (mkCk ts n)):=by
 refine qd.of_sound (qe.of_awp call214 func214 rfl (qh zKr) zKr (pl:={ mt:=[9] }) ?_);have a7:=h.np;simp[go_sem];refine qn.upK n (fun k U=>∃ t i,U.tm 1=aI n/\U.tm 2 = .ip (cTS ts)/\U.tm 5 = .ptr 0 0/\U.mu=[.arr [lSo ts.sorts,lFl ts.fields,lPd ts.preds,lFa ts.facts,aI k,t]]++i/\OwnF 1 U.mu 1 t ((tmsL ts k).map rB)) ?_ ?_
 .refine ⟨.lst true [],[],zSi,zSi,zSi,zSi,?_⟩
  exact OwnF.nil zSi
 .rintro k U hk ⟨t,i,e1,e2,e5,hm,ho⟩
  have C:Rd U.mu (.ptr 0 0) (eCk (mkCk ts k)):=by
   rw[hm];refine .ptr 0 0 _ _ rfl zSp (fun j x y hx g=>?_);rw[<-hm]
   match j with
   | 0=>simp at hx g;subst hx;subst g;exact .hf _ (VR _)
   | 1=>simp at hx g;subst hx;subst g;exact .hf _ (VS _)
   | 2=>simp at hx g;subst hx;subst g;exact .hf _ (wR _)
   | 3=>simp at hx g;subst hx;subst g;exact .hf _ (Jj _)
   | 4=>simp at hx g;subst hx;subst g;exact .zsc _
   | 5=>simp at hx g;subst hx;subst g;exact OwnF.rdB ho
   |j+6=>simp at hx
  by_cases a0:k<n
  .have I:k<ts.preds.length:=by omega
   simp[go_sem,e1,e5,hm,a0];refine qg.intro zKr ?_;have a1:OwnF 1 (U.mu++[.arr (cNd ts.preds[k].body)]) 1 t ((tmsL ts k).map rB):=Xk ho (MuLe.push _ _);have o:=Rd.le (MuLe.push U.mu (.arr (cNd ts.preds[k].body))) C;have a3:=gk (mkCk ts k) (vG h zOm) _ ts.preds[k].body (qm _) (hs _ (qy I));have a4:tmsL ts (k+1)=tmsL ts k++[zX (mkCk ts k) ts.preds[k].body]:=by
    simp only[tmsL,qA I];rfl
   have hl:=ZA ts k zOm;rw[hm]at a1 o;simp[go_sem,e2,e5,I];refine qg.intro zKr ?_;simp[go_sem,e5,qfR];refine qc.lend a3 ⟨zUs o,.hf _ (qz _),trivial⟩ (FL.sc _) ?_;simp[go_sem];refine qF.ownF (lo:=1) (e:=4) (sz:=1) (bt:=1) (zv:=aB false) (xs:=(tmsL ts k).map rB) (ys:=[rB (zX (mkCk ts k) ts.preds[k].body)]) zSi zSi zSi rfl rfl zOm zOm (zUs a1) (by simp[qO]) (wV _) (wV [_]) zSo ?_;intro a2 r J a5;obtain⟨R,rfl⟩:=qfX (a5 0 zOm);have w1:qj.wrap ((k:Int)+1)=(k:Int)+1:=qi zOm zOm;simp[go_sem,e5,a0,w1,OwnF.cells J,OwnF.one J];refine Keep.mk' ?_;refine⟨a2,R,zS1 e1,zS1 e2,zS1 e5,zSi,?_⟩;have e3:(tmsL ts k).map rB++[rB (zX (mkCk ts k) ts.preds[k].body)]=(tmsL ts (k+1)).map rB:=by rw[a4,zx];rfl
   rw[<-e3];exact OwnF.low (low:=[.arr [lSo ts.sorts,lFl ts.fields,lPd ts.preds,lFa ts.facts,aI k,t]]) (low':=[.arr [lSo ts.sorts,lFl ts.fields,lPd ts.preds,lFa ts.facts,aI (k+1),a2]]) J rfl
  .obtain rfl:k=n:=by omega
   simp[go_sem,e1,e5,hm];rw[hm]at C;exact C
theorem ofU'(full:Bool)(l:List Int)(j:l.length<=3)(o:∀ x,x∈l->0<=x/\x<128):qd qb 303 [.lst full (l.map rI)] (eKd (kOf l)):=by
 have:=ofU l j o;refine⟨this.1,fun g w p r t=>this.2 g w p r ?_⟩;obtain⟨v,rfl,C⟩:=t.one_inv;exact⟨rfl,fun k x i=>by
  cases k with
  |zero=>simp at i;subst i;simpa using C.ro
  |succ k=>simp at i⟩
theorem bindU(ns:Nat)(P:ns<=4)(env:List (ByteArray×Int))(he:env.length<=1000000)(i:∀ p,p∈env->0<=p.2/\p.2<ns):qd qb 267 [lPm env] (aSc (zJ env)):=by
 refine qd.of_sound (qe.of_awp call267 func267 rfl (qh zKr) zKr (pl:={}) ?_);simp[go_sem];refine qn.up env.length (fun k U=>U.tm 3=aSc (zJ (env.take k))/\U.tm 6=lPm env/\U.tm 7=aI env.length/\U.tm 8=aI k) ?_ ?_
 .simp [go_sem]
  rfl
 .rintro k U hk ⟨C,I,j,l⟩
  by_cases o:k=env.length
  .subst o
   simp[go_sem,C,j,l];exact .hf _ (wL _)
  .have g:k<env.length:=by omega
   have R:zJ (env.take (k+1))=(env[k].1,kOf [env[k].2]) :: zJ (env.take k):=by
    unfold zJ;rw[List.take_add_one,qA g,ue];rfl
   have t:=ofU' true [env[k].2] zSp (fun x hx=>by simp at hx;subst hx;have:=i _ (qy g);omega);have w1:qj.wrap ((k:Int)+1)=(k:Int)+1:=qi zOm zOm;simp[go_sem,I,j,l,g];refine qg.intro zKr ?_;simp[go_sem];refine qc.pure t (.zk (HF.lst fun r i c J=>by simp at i;subst i;simp at J;subst J;exact HF.sc _) .nil) ?_;simp[go_sem,C,I,j,l,g,w1];rw[R];rfl
theorem u5(a b:ByteArray):(a.toList == b.toList)=decide (a=b):=by
 by_cases h:a=b
 .subst h;simp
 .rw [jA h,decide_eq_false h]
theorem appK{xs:List Kd}{k:Kd}(g:OwnF 0 mu 2 s (xs.map cKd))(o:xs.length<=100000)(i:∀ av mu',OwnF 0 mu' 2 av ((xs++[k]).map cKd)->K av mu') :
  qF qb mu #[337,337] s (.lst true [cKd k]) K:=by
 refine qF.ownF (lo:=0) (e:=332) (sz:=2) (bt:=16) (zv := .agg [aI 0,.sc (.map none)]) (xs:=xs.map cKd) (ys:=[cKd k]) zSi zSi zSi rfl rfl zOm zOm g (by simp[qO]) (Qn _) (Qn [k]) zSo ?_;intro av mu' h _;exact i av mu' (by rw[zx];exact h)
theorem gY{xs:List Kd}{k:Kd}{b:Nat}{c:Cell}(r:Own mu 2 s (xs.map cKd))(j:mu[b]?=some c)(t:∀ off len,s ≠ .sl b 2 off len)(I:xs.length<=100000)
  (o:∀ av mu',Own mu' 2 av ((xs++[k]).map cKd)->mu'[b]?=some c->(∀ off len,av ≠ .sl b 2 off len)->K av mu') :
  qF qb mu #[337,337] s (.lst true [cKd k]) K:=by
 have g:b<mu.length:=(qk.1 j).1;have i:=jG (Qn xs).ok;refine .inl ⟨_,_,332,2,16,[cKd k],rfl,zSi,zSi,⟨.agg [aI 0,.sc (.map none)],zSi,rfl,rfl⟩,zOm,zOm,by simp[qO],Qn [k],?_⟩;rcases r with rfl|⟨p,rfl,C⟩
 .refine .inl ⟨xs.map cKd,rfl,Qn xs,zSo,fun h=>by simp at h,fun _=>?_⟩
  refine o _ _ (.inr ⟨mu.length,zSp,zSp⟩) (by rw[qo g];exact j) (fun off len e=>?_);injection e;omega
 .refine .inr ⟨p,xs.length,_,zSp,C,by simp at i⊢;omega,zSo,?_⟩
  have l:p≠b:=fun e=>t 0 _ (by rw[e])
  refine o _ _ (.inr ⟨mu.length,zSp,?_⟩) (by rw[qo (zUs g),qv l];exact j) (fun off len e=>?_)
  .rw [zf zSp]
   have:(List.map cKd xs).flatten.take (xs.length*2)=(List.map cKd xs).flatten:=ye (by simp at i⊢;omega);simp only[List.length_set,Nat.sub_self,List.getElem?_cons_zero,this,zx,List.flatten_append];rfl
  .injection e;omega
theorem Jp(h:Own mu sz s xs)(c:Cell):Own (mu++[c]) sz s xs:=by
 rcases h with rfl|⟨b,rfl,g⟩
 .exact .inl rfl
 .exact .inr ⟨b,rfl,by rw[qo (qk.1 g).1];exact g⟩
theorem qhS(h:Own mu sz s xs):∀ off len,s ≠ .sl mu.length sz off len:=by
 intro off len e;rcases h with rfl|⟨b,rfl,g⟩
 .cases e
 .have:=(qk.1 g).1
  injection e;omega
theorem qhT{fs:List Fld}{k:Nat}(g:k<fs.length)(nm:ByteArray):yB (fs.take (k+1)) nm=yB (fs.take k) nm++(if fs[k].name=nm then [kOf fs[k].sorts] else []):=by
 unfold yB;rw[List.take_add_one,qA g,List.filterMap_append];congr 1;simp only[Option.toList_some,List.filterMap_cons,List.filterMap_nil];split<;>rename_i h<;>split at h<;>simp_all
theorem gZ(fs:List Fld)(nm:ByteArray):(yB fs nm).length<=fs.length:=List.length_filterMap_le ..
theorem g7:∀{so:List (ByteArray×Bool)} {i k:Nat} (g:k<so.length) (nm:ByteArray),yC i (so.take (k+1)) nm=yC i (so.take k) nm++vS (i+k) so[k] nm
 | [],_,_,h,_=>by simp at h
 |s :: so,i,0,_,nm=>by simp[yC]
 |s :: so,i,k+1,h,nm=>by
  have:=g7 (so:=so) (i:=i+1) (k:=k) (zUs h) nm;simp only[List.take_succ_cons,yC,List.getElem_cons_succ]at this⊢;rw[this,zE,show i+1+k=i+(k+1) by omega]
theorem qhU(i:Nat)(s:ByteArray×Bool)(nm:ByteArray):(vS i s nm).length<=3:=by
 unfold vS;simp only[zc];have h:∀(p:Prop) [Decidable p] (k:Kd),(if p then [k] else []).length<=1:=fun p _ k=>by split<;>simp
 have g:=h (s.1=nm) (kOf [(i:Int)]);have j:=h (s.2=true/\s.1++yV=nm) (kOf [(i:Int)]);have l:=h (s.2=true/\s.1++jM=nm) (kOf [(i:Int),(i:Int)]);omega
theorem g8:∀(so:List (ByteArray×Bool)) (i:Nat) (nm:ByteArray),(yC i so nm).length<=3*so.length
 | [],_,_=>by simp[yC]
 |s :: so,i,nm=>by
  have:=g8 so (i+1) nm;have:=qhU i s nm;simp only[yC,zc,zG];omega
theorem Xl(ts:TS)(h:okTS ts)(nm:ByteArray):qd qb 268 [eTS ts,aS nm] (.lst false ((means ts nm).map cKd)):=by
  refine qd.of_sound (qe.of_awp call268 func268 rfl (qh zKr) zKr (pl:={}) ?_);have ay:=h.nf;have az:=h.ns;simp[go_sem];refine qn.upK ts.fields.length (fun k U=>U.tm 1=aS nm/\U.tm 2 = .ip (cTS ts)/\U.tm 11=lFl ts.fields/\U.tm 12=aI ts.fields.length/\U.tm 13=aI k/\OwnF 0 U.mu 2 (U.tm 5) ((yB (ts.fields.take k) nm).map cKd)) ?_ ?_
  · exact⟨zSi,zSi,zSi,zSi,zSi,by simp[go_sem];exact OwnF.nil (Nat.zero_le _)⟩
  · rintro k U hk ⟨J,e2,P,o,R,ho⟩
    by_cases he:k=ts.fields.length
    · subst he
      rw[zw]at ho;simp[go_sem,e2,o,R];have a6:=gZ ts.fields nm;refine qn.upK ts.sorts.length (fun k U=>U.tm 1=aS nm/\U.tm 29=lSo ts.sorts/\U.tm 30=aI ts.sorts.length/\U.tm 31=aI k/\Own U.mu 2 (U.tm 5) ((yB ts.fields nm++yC 0 (ts.sorts.take k) nm).map cKd)) ?_ ?_
      · exact⟨zS1 J,zSi,zSi,zSi,by simp[go_sem,yC];simpa using ho.1⟩
      · rintro k U hk ⟨J,a7,a1,a0,ho⟩
        by_cases he:k=ts.sorts.length
        · subst he
          rw[zw]at ho;simp[go_sem,a1,a0];exact ho.rd (Qn _).ok (fun r hr c hc=>by
            obtain⟨x,_,rfl⟩:=qr.1 hr;simp at hc;rcases hc with rfl|rfl
            · exact HF.sc _
            · exact Jf _)
        · have g:k<ts.sorts.length:=by omega
          have w1:qj.wrap ((k:Int)+1)=(k:Int)+1:=qi zOm zOm;have aj:=g8 (ts.sorts.take k) 0 nm;have ak:(ts.sorts.take k).length<=4:=zSo;have a8:=ofU' true [(k:Int)] zSp (fun x hx=>by simp at hx;subst hx;omega);have a9:=ofU' true [(k:Int),(k:Int)] zSp (fun x hx=>by simp at hx;subst hx;omega);have al:HF (.lst true [rI k]):=HF.lst fun r hr c hc=>by simp at hr;subst hr;simp at hc;subst hc;exact HF.sc _
          have an:HF (.lst true [rI k,rI k]):=HF.lst fun r hr c hc=>by simp at hr;subst hr;simp at hc;subst hc;exact HF.sc _
          have I:=g7 (i:=0) g nm;rw[yy]at I;have aa:=h.sl _ (qy g);generalize ao:ts.sorts[k]=so at *
          obtain⟨l,sb⟩:=so;have ab:(yB ts.fields nm++yC 0 (ts.sorts.take k) nm).length<=18:=by simp at aj ak⊢;omega
          have b0:∀ x:Kd,((yB ts.fields nm++yC 0 (ts.sorts.take k) nm)++[x]).length<=19:=fun x=>by simp at ab⊢;omega
          have b1:∀ x y:Kd,(((yB ts.fields nm++yC 0 (ts.sorts.take k) nm)++[x])++[y]).length<=20:=fun x y=>by simp at ab⊢;omega
          generalize hX:yB ts.fields nm++yC 0 (ts.sorts.take k) nm=X at *
          have j:∀(s:AV) (C:Mu) (Y:List Kd),Y=X++vS k (l,sb) nm->Own C 2 s (Y.map cKd)->Own C 2 s ((yB ts.fields nm++yC 0 (ts.sorts.take (k+1)) nm).map cKd):=by
            intro s C Y hY h;rw[I,<-zE,hX,<-hY];exact h
          have b2:∀ b:ByteArray,l++yV=b->(l++yV).toList == b.toList:=fun b h=>by rw[h];simp
          have a2:=fun c=>Jp ho c
          have ax:=qhS ho;have aq:(l++yV=nm)=(l++(⟨#[95,102,105,114,115,116]⟩:ByteArray)=nm):=rfl;have ar:(l++jM=nm)=(l++(⟨#[95,110,101,120,116]⟩:ByteArray)=nm):=rfl;simp only[vS,aq,ar]at j;have ad:l.size<=9223372036854775801:=by simp at aa;omega
          have ae:l.size<=9223372036854775802:=by simp at aa;omega
          simp only[zx]at j;obtain⟨d1,af⟩:∃ d,decide (l=nm)=d:=⟨_,rfl⟩;obtain⟨d2,a3⟩:∃ d,decide (l++(⟨#[95,102,105,114,115,116]⟩:ByteArray)=nm)=d:=⟨_,rfl⟩;obtain⟨d3,a4⟩:∃ d,decide (l++(⟨#[95,110,101,120,116]⟩:ByteArray)=nm)=d:=⟨_,rfl⟩;have p1:(l=nm)=(d1=true):=by rw[<-af];simp
          have p2:(l++(⟨#[95,102,105,114,115,116]⟩:ByteArray)=nm)=(d2=true):=by rw[<-a3];simp
          have p3:(l++(⟨#[95,110,101,120,116]⟩:ByteArray)=nm)=(d3=true):=by rw[<-a4];simp
          simp only[p1,p2,p3]at j;cases d1<;>cases d2<;>cases d3<;>cases sb
          all_goals simp only[if_true,if_false,zV,List.nil_append,and_false,and_true,reduceCtorEq]at j
          all_goals simp[go_sem,u5,J,a7,a1,a0,g,ao,af,a3,a4,w1,ad,ae]
          all_goals repeat' (first
            | (refine qc.pure a8 (.zk al .nil) ?_
               simp[go_sem];refine gY (b:=U.mu.length) (by first|exact a2 _|assumption) (by first|assumption|exact List.getElem?_concat_length) (by assumption) (by first | (simp only[zc,List.length_singleton];omega)|omega) ?_;rintro t ag a5 ah au;simp[go_sem,u5,J,a0,g,a3,a4,w1,ad,ae,ah])
            | (refine qc.pure a9 (.zk an .nil) ?_
               simp[go_sem];refine gY (b:=U.mu.length) (by first|exact a2 _|assumption) (by first|assumption|exact List.getElem?_concat_length) (by assumption) (by first | (simp only[zc,List.length_singleton];omega)|omega) ?_;rintro t ag a5 ah au;simp[go_sem,a0,g,w1]))
          all_goals
            refine Keep.mk' ?_;refine⟨zS1 J,zS1 a7,zS1 a1,zSi,?_⟩;simp only[pG,qP];simp;refine j _ _ _ ?_ (by first|assumption|exact a2 _);simp
    · have g:k<ts.fields.length:=by omega
      have ai:=h.fl _ (qy g);have w1:qj.wrap ((k:Int)+1)=(k:Int)+1:=qi zOm zOm;have aw:=ofU' false ts.fields[k].sorts ai.2.1 (fun x hx=>zW1 (ai.2.2 x hx));have I:=qhT g nm;have a6:=gZ (ts.fields.take k) nm;by_cases hn:ts.fields[k].name=nm
      · simp[go_sem,J,P,o,R,g,hn]
        refine qc.pure aw (.zk (yA _) .nil) ?_;simp[go_sem];refine appK (xs:=yB (ts.fields.take k) nm) (Xk ho (MuLe.push _ _)) (by simp at a6⊢;omega) ?_;intro t ag a5;simp[go_sem,R,g,w1];refine Keep.mk' ?_;refine⟨zS1 J,zS1 e2,zS1 P,zS1 o,zSi,?_⟩;rw[I,if_pos hn];simpa[go_sem] using a5
      · simp[go_sem,J,P,o,R,g,jA hn,w1]
        refine Keep.mk' ?_;refine⟨zS1 J,zS1 e2,zS1 P,zS1 o,zSi,?_⟩;rw[I,if_neg hn,zV];simpa[go_sem] using Xk ho (MuLe.push _ _)
end
end Y10
namespace Y11
open Y1 Y2 Y3 P1 Y7 YS YF Y9 Y10
def cKo:Option Kd->List AV
 |some k=>cKd k
 |none=>[aI 0,.sc (.map none)]
@[go_sem] theorem cKo_some(k:Kd):cKo (some k)=cKd k:=rfl
@[go_sem] theorem cKo_none:cKo none=[aI 0,.sc (.map none)]:=rfl
theorem g9(k:Option Kd):∀ c,c∈cKo k->HF c:=by
 intro c g;cases k with
 |none=>simp[cKo]at g;rcases g with rfl|rfl<;>exact HF.sc _
 |some k=>simp[cKo]at g;rcases g with rfl|rfl;exact HF.sc _;exact Jf _
theorem qhV(k:Option Kd):HF (.agg (cKo k)):=HF.agg (g9 k)
theorem Xm(k:Option Kd):(cKo k).length=2/\(cKo k).all AV.one=true:=by cases k<;>exact⟨rfl,rfl⟩
def endK:Res->AEnd
 | .ok k => .ret (.agg (cKo k))
 | .error e => .pan (jz e.1 e.2)
@[go_sem] theorem endK_ok(k:Option Kd):endK (.ok k) = .ret (.agg (cKo k)):=rfl
@[go_sem] theorem qrQ(e:Dg):endK (.error e) = .pan (jz e.1 e.2):=rfl
theorem Xn(c:Ck)(g:okCk c)(s:Scp)(n:Nd):qU qb 300 [eCk c,aSc s,eNd n] (endK (jg c s n.name n.pos)):=by
 refine za.of_sound ?_;refine qe.of_awp call300 func300 rfl (qh zKr) zKr (pl:={}) ?_;simp[go_sem];refine qc.pure (findU s n.name) (.zk (wL s) (.zs .nil)) ?_;unfold jg;cases hf:y8 n.name s with
 |cons v r =>
  simp[go_sem,aSc];exact .hf _ (zQ v.2)
 |nil =>
  simp[go_sem,aSc];refine qg.intro zKr ?_;simp[go_sem];refine qc.pure (Xl c.ts g.ts n.name) (.zk (zA c.ts) (.zs .nil)) ?_;have i:=zH;cases j:means c.ts n.name with
  |nil =>
   simp[go_sem];refine qc.pans (zH false 40 n) (.zs (.zs (.zk (qz n) .nil))) ?_;simp[go_sem];exact .hf _ (yv _ _)
  |cons k ks =>
   simp[go_sem];refine qc.pure (zH true 40 n).toP (.zs (.zs (.zk (qz n) .nil))) ?_;cases ks with
   |nil =>
    simp[go_sem];refine qc.pure (zH true 44 n).toP (.zs (.zs (.zk (qz n) .nil))) ?_;simp[go_sem];exact .hf _ (zQ k)
   |cons l ks =>
    simp[go_sem];refine qc.pans (zH false 44 n) (.zs (.zs (.zk (qz n) .nil))) ?_;simp[go_sem];exact .hf _ (yv _ _)
theorem qhW(k g:Nat)(t:1<=g)(R:g<=3):kSum (zz k g) (kOf (qZ g (k:Int)))=zz (k+1) g:=by
 have o:∀ k,((qu k).map fun (i:Nat)=>pad (qZ g (i:Int))).Nodup:=by
  intro k;refine List.pairwise_map.2 ((List.pairwise_iff_getElem.2 fun i j T U C=>?_));simp only[List.getElem_range];obtain⟨a,rfl⟩:∃ a,g=a+1:=⟨g-1,zOm⟩;intro e;simp[pad,List.replicate_succ]at e;omega
 have I:∀ l:List Tp,l.Nodup->uni [] l=l:=by
  intro l J;have:∀(b a:List Tp),(a++b).Nodup->uni a b=a++b:=by
   intro b;induction b with
   |nil=>intro a _;simp[uni]
   |cons x b P =>
    intro a h;have hx:x ∉ a:=fun p=>(uL.1 h).2.2 x p x zSp rfl
    show uni (ins a x) b=_;rw[show ins a x=a++[x] by unfold ins;rw[if_neg hx],P (a++[x]) (zUs h)];simp
  simpa using this l [] (zUs J)
 unfold kSum zz kOf;simp only;rw[I _ (o k)];have r:=o (k+1);rw[List.range_succ,zx,List.map_singleton]at r⊢;have hx:pad (qZ g (k:Int)) ∉ (qu k).map fun (i:Nat)=>pad (qZ g (i:Int)):=fun p=>(uL.1 r).2.2 _ p _ zSp rfl
 congr 1;show ins _ _=_;unfold ins;rw[if_neg hx]
theorem Xo(c:Ck)(I:okCk c)(g:Nat)(h1:1<=g)(h3:g<=3):qd qb 325 [eCk c,aI g] (eKd (zz c.ts.sorts.length g)):=by
 refine qd.of_sound (qe.of_awp call325 func325 rfl (qh zKr) zKr (pl:={}) ?_);have a1:=I.ts.ns;simp[go_sem];refine qc.pure (pP g) (.zs .nil) ?_;simp[go_sem];refine qn.up c.ts.sorts.length (fun k U=>U.tm 1=aI g/\U.tm 4 = .ptr 0 0/\U.tm 5 = .ptr 1 0/\U.tm 13=lSo c.ts.sorts/\U.tm 14=aI c.ts.sorts.length/\U.tm 15=aI k/\U.mu=[.arr [aI 0,.sc (.map none)],.arr (cKd (zz k g))]) ?_ ?_
 .simp [go_sem,zz]
 .rintro k U hk ⟨e1,e4,P,R,l,o,hm⟩
  by_cases he:k=c.ts.sorts.length
  .subst he
   simp[go_sem,e4,P,l,o,hm];exact .hf _ (zQ _)
  .have p:k<c.ts.sorts.length:=by omega
   have w1:qj.wrap ((k:Int)+1)=(k:Int)+1:=qi zOm zOm;have J:=qgB k g zOm;have a0:=ofU' false (qZ g (k:Int)) (zUs h3) (fun x hx=>by rw[List.eq_of_mem_replicate hx];omega);have C:=sumU true (zz k g) (kOf (qZ g (k:Int))) (fun t j=>by
    have j:t∈(qu k).map fun (i:Nat)=>pad (qZ g (i:Int)):=j
    obtain⟨i,_,rfl⟩:=qr.1 j;rfl) (fun t j=>by
    have j:t∈[pad (qZ g (k:Int))]:=j;simp at j;subst j;rfl)
   rw[qhW k g h1 h3]at C;simp[go_sem,l,o,hm,p];refine qg.intro zKr ?_;simp[go_sem,e1,P];refine qc.pure J (.cons (WK.lst fun r J c I=>by simp at J;subst J;simp at I;subst I;exact HF.sc _) (.zs .nil)) ?_;simp[go_sem];refine qc.pure a0 (.zk (yA _) .nil) ?_;simp[go_sem];refine qc.pure C (.zk (zQ _) (.zk (Jh _ [_]) .nil)) ?_;simp[go_sem,e1,e4,P,R,l,o,p,w1]
end Y11
namespace Y12
open Y1 Y2 Y3 P1 YM Y5 Y6 Y7 Y8 Y9 Y11
def trF(t:Tp):Tp:=[t.getD 1 0,t.getD 0 0,0]
theorem V5{a:List Tp}{t:Tp}:t∈uni [] (a.map fun t=>[t.getD 1 0,t.getD 0 0,0])↔∃ x,x∈a/\trF x=t:=by
 rw[vE];simp[trF]
theorem qhX(ns:Nat)(h:ns<=4):ok2 (zz ns 2):=by
 have g:((qu ns).map fun (i:Nat)=>pad (qZ 2 (i:Int))).Nodup:=by
  refine List.pairwise_map.2 (List.pairwise_iff_getElem.2 fun i j o r p=>?_);simp only[List.getElem_range];intro e;simp[pad,List.replicate_succ]at e;omega
 refine⟨rfl,g,fun t l=>?_⟩;have l:t∈(qu ns).map fun (i:Nat)=>pad (qZ 2 (i:Int)):=l
 obtain⟨i,o,rfl⟩:=qr.1 l;rw[yx]at o;exact⟨i,i,rfl,zOm,zOm,zOm,zOm⟩
theorem qhY{a:Kd}(h:ok2 a):ok2 (kClo a):=by
 have:∀(f n:Nat) (a:Kd),ok2 a->ok2 (cloN f n a):=by
  intro f;induction f with
  |zero=>intro n a h;exact h
  |succ f g =>
   intro n a h;unfold cloN;split
   .exact g _ _ (h.sum h.join)
   .exact h
 exact this 70 0 a h
theorem qhZ(c:Ck)(hc:okCk c)(op:Int)(a:Kd)(R:ok2 a)(a0:op=11\/op=12\/op=13):qd qb 329 [eCk c,aI op,eKd a] (eKd (binK c.ts.sorts.length op a)):=by
 refine qd.of_sound (qe.of_awp call329 func329 rfl (qh zKr) zKr (pl:={}) ?_);have C:=hc.ts.ns;unfold binK;rcases a0 with rfl|rfl|rfl
 .simp [go_sem]
  refine qc.eff0 (Jg _ _) ?_ (by rintro r m ⟨e,_⟩;cases e);rintro r m ⟨e,c,rfl⟩;cases e;simp[go_sem];refine qn.seen a.ts.length (fun seen U=>U.tm 5 = .ip (cKd a)/\U.tm 6 = .ptr 0 0/\U.tm 7 = .ptr 3 0/\U.tm 25 = .ptr 4 0 /\
   ColS 2 (.arr [aI 0,.sc (.map none)]) c (.it (eT a.ts) seen) (fun t=>∃ x,(∃ i,i∈seen/\a.ts[i]?=some x)/\trF x=t) U.mu) ?_ ?_
  .exact ⟨zSi,zSi,zSi,zSi,[],rfl,rfl,rfl,rfl,rfl,zSp,zSp,zSp⟩
  .rintro seen U a5 a6 ⟨e5,e6,e7,I,l,k0,k1,k2,k3,k4,h1,h2,h3⟩
   simp[go_sem,I];refine⟨4,eT a.ts,seen,rfl,k4,fun i e hi C=>?_,fun p=>?_⟩
   .obtain ⟨x,hx,rfl⟩:=Zw hi
    have a1:okT x:=R.okK.len x (qV hx);have a2:i<a.ts.length:=(qk.1 hx).1;have a3:x.length=3:=a1;have o:4<U.mu.length:=(qk.1 k4).1;have g:∀(c:Cell) (l:List Cell) (j:Nat),j<4->((U.mu.set 4 c)++l)[j]?=U.mu[j]?:=fun c l j hj=>by
     rw[qo zSo,qv zOm]
    have q2:=fun c l=>(g c l 2 zOm).trans k2
    have q3:=fun c l=>(g c l 3 zOm).trans k3
    obtain⟨J,P,x2,rfl⟩:∃ J P x2,x=[J,P,x2]:=by
     match x,a3 with
     | [J,P,x2],_=>exact⟨_,_,_,rfl⟩
    simp[go_sem,e7,I,hi,o,q3];refine OptK.intro _ (updT (t:=[P,J,0]) (q2 _ _) rfl h2) ?_;simp[go_sem];refine⟨i,a2,C,zS1 e5,zS1 e6,zS1 e7,zS1 I,ins l [P,J,0],?_,?_,?_,?_,?_,Z4 h1,fun t ht=>?_,fun t=>?_⟩
    .simp only[qP]
     rw[qv zOm,g _ _ 0 zOm,k0]
    .simp only[qP]
     rw[qv zOm,g _ _ 1 zOm,k1]
    .simp only[qP]
     rw[qJ zSo]
    .simp only[qP]
     rw[qv zOm,g _ _ 3 zOm,k3]
    .simp only[qP]
     rw[qv zOm,qo (zUs o),qJ o]
    .rcases uw.1 ht with h|rfl
     .exact h2 t h
     .rfl
    .simp only[uw,h3,WV hx]
     constructor
     .rintro (⟨y,h,e⟩|rfl)
      .exact ⟨y,.inl h,e⟩
      .exact ⟨[J,P,x2],.inr rfl,rfl⟩
     .rintro ⟨y,h|rfl,e⟩
      .exact .inl ⟨y,h,e⟩
      .exact .inr e.symm
   .obtain ⟨a4,hm⟩:=four k0 k1 k2 k3
    simp[go_sem,e6,e7,hm];refine Rd.aggs ⟨.hf _ (HF.sc _),Rd.setT (k:=(kTr a).ts) rfl h1 (uU zSp) (fun t=>?_),trivial⟩;refine(h3 t).trans (Iff.trans ?_ V5.symm);constructor
    .rintro ⟨y,h,e⟩;exact⟨y,(WW (zUs p)).1 h,e⟩
    .rintro ⟨y,h,e⟩;exact⟨y,(WW (zUs p)).2 h,e⟩
 .simp [go_sem]
  refine qc.pure (VN a R) (.zk (zQ _) .nil) ?_;simp[go_sem];exact .hf _ (zQ _)
 .simp [go_sem]
  refine qc.pure (VN a R) (.zk (zQ _) .nil) ?_;simp[go_sem];refine qc.pure (Xo c hc 2 zOm zOm) (.zk (ji _) (.zs .nil)) ?_;simp[go_sem];refine qc.pure (sumU true (kClo a) (zz c.ts.sorts.length 2) (qhY R).okK.len (qhX _ C).okK.len) (.zk (zQ _) (.zk (Jh _ [_]) .nil)) ?_;simp[go_sem];exact .hf _ (zQ _)
theorem hfK2(n:Int)(ts:List Tp):HF (.agg [aI n,mKd ts]):=zQ ⟨n,ts⟩
theorem hfKn:HF (.agg [aI 0,.sc (.map none)]):=qhV none
theorem wkR(n:Nd)(b:Bool)(e:Int):WKs [aB b,aI e,eNd n] [aB b,aI e,eNd n] := .zs (.zs (.zk (qz n) .nil))
structure ApOk (op:Int) (l:List (Option Kd)):Prop where
 one:op=5->∃ a,l=[a]
 bin:op=11\/op=12\/op=13->∃ a,l=[some a]/\okK a/\(a.ar=2->ok2 a)
 two:op=6\/op=14\/op=7\/op=8\/op=32\/op=33\/op=9\/op=10->∃ a b,l=[some a,some b]/\okK a/\okK b
theorem V6{ns:Nat}{op n pos:Int}{l:List (Option Kd)}(i:op≠2)(j:op≠3)(o:op≠4)(p:op≠5)(r:op≠11)(t:op≠12)(C:op≠13)(t1:op≠6)(t2:op≠14)(t3:op≠7)(t4:op≠8)(t5:op≠32)(t6:op≠33)(I:op≠9)(g:op≠10):z7 ns op n pos l = .ok none:=by
 unfold z7;rw[if_neg i,if_neg j,if_neg o];split
 .simp only[p,r,t,C,or_self,if_false]
  split<;>rfl
 .simp only[t1,t2,t3,t4,t5,t6,I,g,or_self,if_false]
 .rfl
theorem qh0(c:Ck)(hc:okCk c)(full:Bool)(n:Nd)(l:List (Option Kd))(P:ApOk n.op l):qU qb 302 [eCk c,eNd n,.lst full (l.map cKo)] (endK (z7 c.ts.sorts.length n.op n.n n.pos l)):=by
 refine za.of_sound ?_;refine qe.of_awp call302 func302 rfl (qh zKr) zKr (pl:={}) ?_;by_cases ho:n.op=2\/n.op=3\/n.op=4\/n.op=5\/n.op=11\/n.op=12\/n.op=13\/n.op=6\/n.op=14\/n.op=7\/n.op=8\/n.op=32\/n.op=33\/n.op=9\/n.op=10
 case neg =>
  simp only[not_or]at ho;obtain⟨U,h3,h4,C,b1,b2,b3,t1,t2,t3,t4,t5,t6,h9,p⟩:=ho;rw[V6 U h3 h4 C b1 b2 b3 t1 t2 t3 t4 t5 t6 h9 p];simp[go_sem,U,h3,h4,C,b1,b2,b3,t1,t2,t3,t4,t5,t6,h9,p];exact .hf _ hfKn
 unfold z7;by_cases U:n.op=2
 .simp [go_sem,U]
  refine qc.pure (pP n.n) (.zs .nil) ?_;simp[go_sem];exact .hf _ (hfK2 _ _)
 by_cases h3:n.op=3
 .simp [go_sem,h3]
  refine qc.pure (Xo c hc 1 zOm zOm) (.zk (ji _) (.zs .nil)) ?_;simp[go_sem];exact .hf _ (zQ _)
 by_cases h4:n.op=4
 .simp [go_sem,h4]
  refine qc.pure (Xo c hc 2 zOm zOm) (.zk (ji _) (.zs .nil)) ?_;simp[go_sem];exact .hf _ (zQ _)
 by_cases C:n.op=5
 .obtain ⟨a,rfl⟩:=P.one C
  cases a with
  |none=>simp[go_sem,C];exact .hf _ hfKn
  |some a=>simp[go_sem,C];exact .hf _ (hfK2 _ _)
 by_cases I:n.op=11\/n.op=12\/n.op=13
 .obtain ⟨a,rfl,o,a0⟩:=P.bin I
  have r:=fun h=>qhZ c hc n.op a (a0 h) I
  by_cases i:a.ar=2
  .have r:=r i
   rcases I with h|h|h<;>rw[h]at r
   all_goals
    simp[go_sem,h,i];refine qg.intro zKr ?_;simp[go_sem,i];refine qc.pure (zH true 42 n).toP (wkR n true 42) ?_;simp[go_sem];refine qg.intro zKr ?_;simp[go_sem,h];refine qc.pure r (.zk (ji _) (.zs (.zk (zQ _) .nil))) ?_;simp[go_sem];exact .hf _ (zQ _)
  .rcases I with h|h|h
   all_goals
    simp[go_sem,h,i];refine qg.tail 6 zKr ?_;simp[go_sem,i];refine qc.pans (zH false 42 n) (wkR n false 42) ?_;simp[go_sem];exact .hf _ (yv _ _)
 by_cases ht:n.op=6\/n.op=14\/n.op=7\/n.op=8\/n.op=32\/n.op=33
 .obtain ⟨a,b,rfl,o,g⟩:=P.two zOm
  have R:=qf4 n.op a b o g;simp only[not_or]at I;by_cases i:a.ar=b.ar
  .rcases ht with h|h|h|h|h|h<;>rw[h]at R
   all_goals
    simp[go_sem,h,i];refine qg.intro zKr ?_;simp[go_sem,i];refine qc.pure (zH true 42 n).toP (wkR n true 42) ?_;simp[go_sem];refine qg.intro zKr ?_;simp[go_sem,h];refine qc.pure R (.zs (.zk (zQ _) (.zk (zQ _) .nil))) ?_;simp[go_sem];exact .hf _ (zQ _)
  .rcases ht with h|h|h|h|h|h
   all_goals
    simp[go_sem,h,i];refine qg.tail 10 zKr ?_;simp[go_sem,i];refine qc.pans (zH false 42 n) (wkR n false 42) ?_;simp[go_sem];exact .hf _ (yv _ _)
 simp only[not_or]at I ht;by_cases h9:n.op=9
 .obtain ⟨a,b,rfl,o,g⟩:=P.two zOm
  have hj:=uX a b o g;have J:qj.wrap (a.ar+b.ar)=a.ar+b.ar:=qi (zW2 o.ar g.ar) (zW2 o.ar g.ar);have w2:qj.wrap (a.ar+b.ar-2)=a.ar+b.ar-2:=qi (zW2 o.ar g.ar) (zW2 o.ar g.ar);simp[go_sem,h9];refine qg.intro zKr ?_;by_cases t:1<=a.ar+b.ar-2
  .by_cases j:a.ar+b.ar-2<=3
   .simp [go_sem,J,w2,t,j]
    refine qc.pure (zH true 42 n).toP (wkR n true 42) ?_;simp[go_sem];refine qg.intro zKr ?_;simp[go_sem];refine qc.pure hj (.zk (zQ _) (.zk (zQ _) .nil)) ?_;simp[go_sem];exact .hf _ (zQ _)
   .simp [go_sem,J,w2,t,j]
    refine qc.pans (zH false 42 n) (wkR n false 42) ?_;simp[go_sem];exact .hf _ (yv _ _)
  .simp [go_sem,J,w2,t]
   refine qc.pans (zH false 42 n) (wkR n false 42) ?_;simp[go_sem];exact .hf _ (yv _ _)
 by_cases p:n.op=10
 .obtain ⟨a,b,rfl,o,g⟩:=P.two zOm
  have J:qj.wrap (a.ar+b.ar)=a.ar+b.ar:=qi (zW2 o.ar g.ar) (zW2 o.ar g.ar);by_cases j:a.ar+b.ar<=3
  .have hj:=WU a b o g j
   simp[go_sem,p];refine qg.intro zKr ?_;simp[go_sem,J,j];refine qc.pure (zH true 42 n).toP (wkR n true 42) ?_;simp[go_sem];refine qg.intro zKr ?_;simp[go_sem];refine qc.pure hj (.zk (zQ _) (.zk (zQ _) .nil)) ?_;simp[go_sem];exact .hf _ (zQ _)
  .simp [go_sem,p]
   refine qg.tail 11 zKr ?_;simp[go_sem,J,j];refine qc.pans (zH false 42 n) (wkR n false 42) ?_;simp[go_sem];exact .hf _ (yv _ _)
 exact absurd ho zOm
end Y12
namespace P2
open Y1 Y2 Y3 P1 Y6 Y8 Y9 Y12
section
variable {a b k:Kd}{l:List Int}{ns:Nat}
def kd(op:Int):Int:=if 1<=op/\op<=15 then 101 else if 20<=op/\op<=23 then 105 else if 30<=op/\op<=51 then 102 else 0
def shp(op:Int)(nk:Nat):Option (List Int):=
 if op=1\/op=2\/op=3\/op=4\/op=20\/op=30\/op=31 then some []
 else if op=5\/op=11\/op=12\/op=13\/op=21\/op=34\/op=35\/op=36\/op=37 then some [101]
 else if op=6\/op=7\/op=8\/op=9\/op=10\/op=14\/op=32\/op=33 then some [101,101]
 else if op=15\/op=45\/op=46 then some [101,102]
 else if op=22\/op=23\/op=38\/op=39 then some [105,105]
 else if op=40\/op=48\/op=49\/op=50 then some [102]
 else if op=41\/op=42\/op=43\/op=44\/op=51 then some [102,102]
 else if op=47 then some (qZ (min nk 401) 101)
 else none
inductive WfN:Nd->Prop where
 |mk (n:Nd) (h:shp n.op n.kids.length=some (n.kids.map fun k=>kd k.op)) (hn:n.op=2->1<=n.n/\n.n<=3) (hk:∀ k,k∈n.kids->WfN k):WfN n
theorem WfN.shape{n:Nd}(h:WfN n):shp n.op n.kids.length=some (n.kids.map fun k=>kd k.op):=by cases h;assumption
theorem WfN.num{n:Nd}(h:WfN n):n.op=2->1<=n.n/\n.n<=3:=by cases h;assumption
theorem WfN.kid{n k:Nd}(h:WfN n)(g:k∈n.kids):WfN k:=by
 cases h with
 |mk _ _ _ h=>exact h k g
theorem ng{op:Int}{nk:Nat}(h:shp op nk=some l):l.length<=401:=by
 unfold shp at h
 repeat' (split at h)
 all_goals try cases h
 all_goals try simp
 all_goals try omega
theorem WfN.len{n:Nd}(h:WfN n):n.kids.length<=401:=by
 have:=ng h.shape;simpa using this
theorem WfN.small{n:Nd}(h:WfN n):Small n:=by
 induction h with
 |mk n g j l i=>exact .mk n (by have:=ng g;simp at this;omega) i
structure okKd (ns:Nat) (k:Kd):Prop where
 ar:1<=k.ar/\k.ar<=3
 nd:k.ts.Nodup
 ts:∀ t,t∈k.ts->∃ l,t=pad l/\(l.length:Int)=k.ar/\∀ x,x∈l->0<=x/\x<ns
theorem okKd.okK(h:okKd ns k):okK k:=⟨h.ar,fun t g=>by obtain⟨l,rfl,_⟩:=h.ts t g;rfl,h.nd⟩
theorem okKd.ok2(h:okKd ns k)(o:ns<=4)(g:k.ar=2):ok2 k:=⟨g,h.nd,fun t p=>by
 obtain⟨l,rfl,i,j⟩:=h.ts t p;rw[g]at i
 match l,i with
 | [x,y],_ =>
  have r:=j x zSp;have g:=j y zSp;exact⟨x,y,rfl,zOm,zOm,zOm,zOm⟩⟩
theorem okKd.of2(j:k.ar=2)(g:k.ts.Nodup)(h:∀ t,t∈k.ts->∃ x y:Int,t=[x,y,0]/\0<=x/\x<ns/\0<=y/\y<ns):okKd ns k:=⟨zOm,g,fun t l=>by
 obtain⟨x,y,rfl,o,p,r,C⟩:=h t l;exact⟨[x,y],rfl,by rw[j];rfl,fun z i=>by simp at i;rcases i with rfl|rfl<;>omega⟩⟩
theorem okKd.pairs(h:okKd ns k)(g:k.ar=2):∀ t,t∈k.ts->∃ x y:Int,t=[x,y,0]/\0<=x/\x<ns/\0<=y/\y<ns:=fun t p=>by
 obtain⟨l,rfl,i,j⟩:=h.ts t p;rw[g]at i
 match l,i with
 | [x,y],_ =>
  have o:=j x zSp;have g:=j y zSp;exact⟨x,y,rfl,o.1,o.2,g.1,g.2⟩
theorem V7(j:1<=l.length)(o:l.length<=3)(i:∀ x,x∈l->0<=x/\x<ns):okKd ns (kOf l):=
 ⟨by simp only[kOf];omega,by simp[kOf],fun t g=>by
  have g:t∈[pad l]:=g;rw[qL]at g;exact⟨l,g,rfl,i⟩⟩
theorem qh1{n:Int}(h:1<=n/\n<=3):okKd ns ⟨n,[]⟩:=⟨h,zSp,fun t g=>by simp at g⟩
theorem Xp(ns g:Nat)(r:1<=g)(C:g<=3):okKd ns (zz ns g):=by
 refine⟨by simp only[zz];omega,?_,fun t l=>?_⟩
 .refine List.pairwise_map.2 ((List.pairwise_iff_getElem.2 fun i j o I p=>?_))
  simp only[List.getElem_range];obtain⟨a,rfl⟩:∃ a,g=a+1:=⟨g-1,zOm⟩;intro e;simp[pad,List.replicate_succ]at e;omega
 .have l:t∈(qu ns).map fun (i:Nat)=>pad (qZ g (i:Int)):=l
  obtain⟨i,o,rfl⟩:=qr.1 l;rw[yx]at o;exact⟨_,rfl,by simp[zz],fun x hx=>by rw[List.eq_of_mem_replicate hx];omega⟩
theorem Jq(i:okKd ns a)(j:okKd ns b)(h:a.ar=b.ar):okKd ns (kSum a b):=by
 refine⟨i.ar,uU (uU zSp),fun t g=>?_⟩;have g:t∈uni (uni [] a.ts) b.ts:=g;simp only[vE,qE,false_or]at g;rcases g with g|g
 .exact i.ts t g
 .obtain ⟨l,e,o,p⟩:=j.ts t g
  exact⟨l,e,by rw[o,<-h];rfl,p⟩
theorem qh2(g:okKd ns a):okKd ns (Z6 a b):=
 ⟨g.ar,g.nd.filter _,fun t i=>g.ts t (vt.1 i).1⟩
theorem qh3{op:Int}(g:okKd ns a)(i:okKd ns b)(h:a.ar=b.ar):okKd ns (vT op a b):=by
 unfold vT;split
 .exact Jq g i h
 .split
  .exact qh2 g
  .exact g
theorem Qt(h:l.length<=3)(k:Nat)(g:k<=l.length):(pad l).take k=l.take k:=by
 match l,h with
 | [],_=>simp at g;subst g;rfl
 | [a],_=>match k,g with
  | 0,_=>rfl
  | 1,_=>rfl
 | [a,b],_=>match k,g with
  | 0,_=>rfl
  | 1,_=>rfl
  | 2,_=>rfl
 | [a,b,c],_=>match k,g with
  | 0,_=>rfl
  | 1,_=>rfl
  | 2,_=>rfl
  | 3,_=>rfl
theorem Jr{g i:List Int}(hx:g.length<=3)(j:i.length<=3)(s:Nat):conc (pad g) g.length (pad i) i.length s=pad (g.take (g.length-s)++i.drop s):=by
 unfold conc;rw[Qt hx _ zOm,Qt j _ (qm _),zw]
theorem Js(o:okKd ns a)(p:okKd ns b)(C:1<=a.ar+b.ar-2)(I:a.ar+b.ar-2<=3):okKd ns (zI a b):=by
 refine⟨⟨C,I⟩,WT,fun t J=>?_⟩;obtain⟨x,y,⟨hx,P⟩,hf⟩:=wP.1 J;obtain⟨i,rfl,R,j⟩:=o.ts x hx;obtain⟨r,rfl,T,l⟩:=p.ts y P;have U:=o.ar;have a0:=p.ar;unfold Zx at hf;split at hf
 .simp only[qp]at hf
  rw[show a.ar.toNat=i.length by omega,show b.ar.toNat=r.length by omega,Jr zOm zOm]at hf;refine⟨_,hf.symm,?_,fun z g=>?_⟩
  .show ((i.take (i.length-1)++r.drop 1).length:Int)=a.ar+b.ar-2
   simp only[zc,vM,List.length_drop];omega
  .rcases qM.1 g with g|g
   .exact j z (uK g)
   .exact l z (List.mem_of_mem_drop g)
 .exact absurd hf zSp
theorem qh4(o:okKd ns a)(p:okKd ns b)(C:a.ar+b.ar<=3):okKd ns (uy a b):=by
 have I:=o.ar;have J:=p.ar;refine⟨⟨by simp only[uy];omega,C⟩,pY,fun t P=>?_⟩;obtain⟨x,y,⟨hx,R⟩,hf⟩:=Z7.1 P;obtain⟨i,rfl,T,j⟩:=o.ts x hx;obtain⟨r,rfl,U,l⟩:=p.ts y R;unfold wQ at hf;simp only[qp]at hf;rw[show a.ar.toNat=i.length by omega,show b.ar.toNat=r.length by omega,Jr zOm zOm]at hf;refine⟨_,hf.symm,?_,fun z g=>?_⟩
 .show ((i.take (i.length-0)++r.drop 0).length:Int)=a.ar+b.ar
  simp only[zc,vM,List.length_drop];omega
 .rcases qM.1 g with g|g
  .exact j z (uK g)
  .exact l z (List.mem_of_mem_drop g)
theorem qh5(g:okKd ns a)(i:a.ar=2):okKd ns (kTr a):=by
 refine okKd.of2 rfl (uU zSp) (fun t j=>?_);obtain⟨x,hx,rfl⟩:=V5.1 j;obtain⟨p,q,rfl,l,o,r,C⟩:=g.pairs i x hx;exact⟨q,p,rfl,r,C,l,o⟩
theorem V8(i:okKd ns a)(g:a.ar=2):okKd ns (kClo a)/\(kClo a).ar=2:=by
 have:∀(f n:Nat) (a:Kd),okKd ns a->a.ar=2->okKd ns (cloN f n a)/\(cloN f n a).ar=2:=by
  intro f;induction f with
  |zero=>intro n a h g;exact⟨h,g⟩
  |succ f j =>
   intro n a h g;unfold cloN;split
   .exact j _ _ (Jq h (Js h h zOm zOm) (by simp only[zI];omega)) g
   .exact ⟨h,g⟩
 exact this 70 0 a i g
theorem qh6{op:Int}(g:okKd ns a)(i:a.ar=2):okKd ns (binK ns op a):=by
 unfold binK;split
 .exact (V8 g i).1
 .split
  .exact Jq (V8 g i).1 (Xp ns 2 zOm zOm) (by rw[(V8 g i).2];rfl)
  .exact qh5 g i
def ScOk(ns:Nat)(s:Scp):Prop:=∀ v,v∈s->okKd ns v.2/\v.2.ar=1
theorem nh{nm:ByteArray}:∀{s:Scp} {v:ByteArray×Kd} {r:Scp},y8 nm s=v :: r->v∈s
 | [],v,r,h=>by simp[y8]at h
 |w :: s,v,r,h=>by
  unfold y8 at h;split at h
  .cases h;exact q8
  .exact qY _ (nh h)
theorem qh7{ts:TS}(h:okTS ts){nm:ByteArray}{k:Kd}(g:k∈means ts nm):okKd ts.sorts.length k:=by
 unfold means at g;rcases qM.1 g with g|g
 .unfold yB at g
  obtain⟨f,hf,e⟩:=List.mem_filterMap.1 g;split at e
  .cases e
   have:=h.fl f hf;exact V7 this.1 this.2.1 this.2.2
  .exact absurd e zSp
 .have:∀(j:List (ByteArray×Bool)) (i:Nat),i+j.length<=ts.sorts.length->∀ k,k∈yC i j nm->okKd ts.sorts.length k:=by
   intro j;induction j with
   |nil=>intro i _ k g;simp[yC]at g
   |cons s j o =>
    intro i p k g;simp only[zG]at p;have l:okKd ts.sorts.length (kOf [(i:Int)]):=V7 zSp zSp (fun x hx=>by simp at hx;subst hx;omega);have r:okKd ts.sorts.length (kOf [(i:Int),(i:Int)]):=V7 zSp zSp (fun x hx=>by simp at hx;subst hx;omega);simp only[yC,vS,qM]at g;rcases g with (g|g|g)|g
    .split at g<;>simp at g;subst g;exact l
    .split at g<;>simp at g;subst g;exact l
    .split at g<;>simp at g;subst g;exact r
    .exact o (i+1) zOm k g
  exact this ts.sorts 0 zOm k g
theorem yD(c:Ck)(s:Scp)(inn:Bool)(n:Nd):exam c s inn n =
  if (inn&&zL c n.op n.name)=true then .error (46,n.pos)
  else if n.op=1 then jg c s n.name n.pos
  else if n.op=47 then
   if (c.ts.preds.any fun p=>decide (p.name=n.name))=true then
    match zn c n.name with
    |none => .error (45,n.pos)
    |some p=>match c.ts.preds[p]? with
     |none => .error (45,n.pos)
     |some g=>if g.params.length=n.kids.length then zN c s n.pos g.params n.kids else .error (45,n.pos)
   else .error (40,n.pos)
  else if n.op=15\/n.op=45\/n.op=46 then z8 c s (inn||decide (n.op=15)) n.name n.pos n.kids
  else match qQ c s (inn||decide (n.op=12)||decide (n.op=13)) n.kids with
   | .error e => .error e
   | .ok l=>z7 c.ts.sorts.length n.op n.n n.pos l:=by
 obtain⟨op,nm,k,ks,pos⟩:=n;simp only[exam,Nd.op,Nd.name,Nd.n,Nd.kids,Nd.pos];rfl
theorem Jt{c:Ck}{s:Scp}{inn:Bool}:∀{ks:List Nd} {l:List (Option Kd)},qQ c s inn ks = .ok l->l.length=ks.length/\∀(i:Nat) k a,ks[i]?=some k->l[i]?=some a->exam c s inn k = .ok a
 | [],l,h=>by simp only[qQ,vu]at h;subst h;simp
 |k :: ks,l,h=>by
  simp only[qQ]at h;cases g:exam c s inn k with
  |error e=>rw[g]at h;exact absurd h zSp
  |ok a =>
   rw[g]at h;simp only at h;cases j:qQ c s inn ks with
   |error e=>rw[j]at h;exact absurd h zSp
   |ok r =>
    rw[j]at h;simp only[vu]at h;subst h;obtain⟨t,C⟩:=Jt j;refine⟨zP1 t,fun i I J o p=>?_⟩;cases i with
    |zero=>simp at o p;subst o;subst p;exact g
    |succ i=>exact C i I J (zUs o) (zUs p)
theorem V9{op:Int}(h:kd op=101):1<=op/\op<=15:=by
 unfold kd at h;split at h
 .assumption
 .split at h
  .exact absurd h zOm
  .split at h<;>exact absurd h zOm
theorem Xq(C:ns<=4){n:Nd}(R:WfN n){l:List (Option Kd)}(p:l.length=n.kids.length)(h:∀(i:Nat) k a,n.kids[i]?=some k->l[i]?=some a->kd k.op=101->∃ q,a=some q/\okKd ns q) :
  ApOk n.op l/\(n.op=5->∃ a,l=[some a]/\okKd ns a)/\(n.op=11\/n.op=12\/n.op=13->∃ a,l=[some a]/\okKd ns a)/\(n.op=6\/n.op=14\/n.op=7\/n.op=8\/n.op=32\/n.op=33\/n.op=9\/n.op=10->∃ a b,l=[some a,some b]/\okKd ns a/\okKd ns b):=by
 have g:=R.shape;have r:n.op=5\/n.op=11\/n.op=12\/n.op=13->∃ a,l=[some a]/\okKd ns a:=by
  intro j;have e:shp n.op n.kids.length=some [101]:=by
   unfold shp;rw[if_neg zOm,if_pos zOm]
  rw[e]at g;simp only[qp]at g
  match o:n.kids,g with
  | [k],g =>
   simp at g;rw[o]at p
   match l,p with
   | [a],_ =>
    obtain⟨q,rfl,I⟩:=h 0 k a (by rw[o];rfl) rfl g.symm;exact⟨q,rfl,I⟩
  | [],g=>simp at g
  |_ :: _ :: _,g=>simp at g
 have P:n.op=6\/n.op=14\/n.op=7\/n.op=8\/n.op=32\/n.op=33\/n.op=9\/n.op=10->∃ a b,l=[some a,some b]/\okKd ns a/\okKd ns b:=by
  intro j;have e:shp n.op n.kids.length=some [101,101]:=by
   unfold shp;rw[if_neg zOm,if_neg zOm,if_pos zOm]
  rw[e]at g;simp only[qp]at g
  match o:n.kids,g with
  | [k,T],g =>
   simp at g;rw[o]at p
   match l,p with
   | [a,b],_ =>
    obtain⟨q,rfl,I⟩:=h 0 k a (by rw[o];rfl) rfl g.1.symm;obtain⟨U,rfl,J⟩:=h 1 T b (by rw[o];rfl) rfl g.2.symm;exact⟨q,U,rfl,I,J⟩
  | [],g=>simp at g
  | [_],g=>simp at g
  |_ :: _ :: _ :: _,g=>simp at g
 refine⟨⟨fun j=>?_,fun j=>?_,fun j=>?_⟩,fun j=>r (.inl j),fun j=>r (.inr j),P⟩
 .obtain ⟨a,rfl,_⟩:=r (.inl j);exact⟨_,rfl⟩
 .obtain ⟨a,rfl,t⟩:=r (.inr j);exact⟨a,rfl,t.okK,t.ok2 C⟩
 .obtain ⟨a,b,rfl,t,hb⟩:=P j;exact⟨a,b,rfl,t.okK,hb.okK⟩
theorem vj{c:Ck}(P:okCk c):∀(m:Nat) (n:Nd) (s:Scp) (inn:Bool) (T:Option Kd),szN n<=m->WfN n->ScOk c.ts.sorts.length s->exam c s inn n = .ok T->kd n.op=101->∃ k,T=some k/\okKd c.ts.sorts.length k
 | 0,n,_,_,_,hm,_,_,_,_=>by obtain⟨op,nm,i,ks,p⟩:=n;simp[szN]at hm
 |m+1,n,s,inn,T,hm,C,U,h,a0=>by
  have ho:=V9 a0;have a3:=P.ts.ns;rw[yD]at h;split at h
  .exact absurd h zSp
  split at h
  .unfold jg at h
   split at h
   .rename_i v r hf
    simp only[vu]at h;exact⟨v.2,h.symm,(U v (nh hf)).1⟩
   .split at h
    .exact absurd h zSp
    .rename_i k I
     simp only[vu]at h;exact⟨k,h.symm,qh7 P.ts (by rw[I];simp)⟩
    .exact absurd h zSp
  split at h
  .omega
  split at h
  .rename_i R
   have g:=C.shape;have e:shp n.op n.kids.length=some [101,102]:=by
    unfold shp;rw[if_neg zOm,if_neg zOm,if_neg zOm,if_pos zOm]
   rw[e]at g;simp only[qp]at g
   match I:n.kids,g with
   | [a,f],g =>
    simp at g;rw[I]at h;simp only[z8]at h;cases hq:exam c s (inn||decide (n.op=15)) a with
    |error e=>rw[hq]at h;exact absurd h zSp
    |ok q =>
     obtain⟨k,rfl,a4⟩:=vj P m a s _ q (by have:=zS (n:=n) (k:=a) (by rw[I];simp);omega) (C.kid (by rw[I];simp)) U hq g.1.symm;rw[hq]at h;simp only at h;split at h
     .split at h
      .exact absurd h zSp
      .simp only[vu]at h
       exact⟨k,h.symm,a4⟩
     .exact absurd h zSp
   | [],g=>simp at g
   | [_],g=>simp at g
   |_ :: _ :: _ :: _,g=>simp at g
  .rename_i n1 a8 nb
   cases hl:qQ c s (inn||decide (n.op=12)||decide (n.op=13)) n.kids with
   |error e=>rw[hl]at h;exact absurd h zSp
   |ok l =>
    rw[hl]at h;simp only at h;obtain⟨J,a6⟩:=Jt hl;obtain⟨_,a5,a1,a2⟩:=Xq (ns:=c.ts.sorts.length) a3 C J (fun i k a hi j a7=>vj P m k s _ a (zW1 (zS (n:=n) (qV hi))) (C.kid (qV hi)) U (a6 i k a hi j) a7);unfold z7 at h;split at h
    .rename_i h2
     simp only[vu]at h;exact⟨_,h.symm,qh1 (C.num h2)⟩
    split at h
    .simp only[vu]at h
     exact⟨_,h.symm,Xp _ 1 zOm zOm⟩
    split at h
    .simp only[vu]at h
     exact⟨_,h.symm,Xp _ 2 zOm zOm⟩
    have t:n.op=5\/(n.op=11\/n.op=12\/n.op=13)\/(n.op=6\/n.op=14\/n.op=7\/n.op=8\/n.op=32\/n.op=33\/n.op=9\/n.op=10):=zOm;rcases t with h5|h1|h2
    .obtain ⟨a,rfl,j⟩:=a5 h5
     simp only[if_pos h5,vu]at h;exact⟨a,h.symm,j⟩
    .obtain ⟨a,rfl,j⟩:=a1 h1
     have n5:n.op≠5:=zOm;simp only[if_neg n5,if_pos h1]at h;split at h
     .simp only[vu]at h
      exact⟨_,h.symm,qh6 j (by assumption)⟩
     .exact absurd h zSp
    .obtain ⟨a,b,rfl,j,R⟩:=a2 h2
     simp only at h;split at h
     .split at h
      .simp only[vu]at h
       exact⟨_,h.symm,qh3 j R (by assumption)⟩
      .exact absurd h zSp
     .split at h
      .split at h
       .rename_i hj
        simp only[vu]at h;exact⟨_,h.symm,Js j R hj.1 hj.2⟩
       .exact absurd h zSp
      .split at h
       .split at h
        .simp only[vu]at h
         exact⟨_,h.symm,qh4 j R (by assumption)⟩
        .exact absurd h zSp
       .omega
end
end P2
namespace EA
open Y1 Y9 P2 E1 E2 E3 E7
section
variable {ds:List Den}{x:Mo}{N:Nat}{p:Pl}
structure OkM (x:Mo) (N:Nat):Prop extends OkX x N where
 n0:0<=x.n
 n12:x.n<=12
 st:∀ s,s<N->(x.m.states.getD s []).length=x.ts.fields.length/\∀ r,r∈x.m.states.getD s []->GR x.n r
 at0:∀ i,i<x.ts.sorts.length->0<=gI x.m.sc.atoms i/\0<=sumI (x.m.sc.atoms.take i)/\sumI (x.m.sc.atoms.take i)+gI x.m.sc.atoms i<=x.n
structure OkP (x:Mo) (N:Nat) (p:Pl):Prop where
 st:p.st<N
 env:∀ e,e∈p.env->0<=e.2/\e.2<x.n
theorem OkP.nx(h:OkM x N)(k:OkP x N p):OkP x N ⟨x.nx p.st,p.env⟩:=⟨h.nx _ k.st,k.env⟩
theorem OkP.bind(k:OkP x N p){nm:ByteArray}{a:Int}(i:0<=a/\a<x.n):OkP x N ⟨p.st,p.env++[(nm,a)]⟩:=⟨k.st,fun e g=>by
 rcases qM.1 g with g|g
 .exact k.env e g
 .rw [qL]at g;subst g;exact i⟩
theorem yX{J i:Type}{q:XE J}{g:J->XE i}{r:i}(h:bX q g = .ok r):∃ a,q = .ok a/\g a = .ok r:=by
 cases q with
 |error e=>cases h
 |ok a=>exact⟨a,rfl,h⟩
theorem nj{nm:ByteArray}{a:Int}:∀{env:List (ByteArray×Int)} {r:Option Int},env.foldl (fun r e=>if e.1=nm then some e.2 else r) r=some a->r=some a\/∃ e,e∈env/\e.2=a
 | [],r,h => .inl h
 |e :: env,r,h=>by
  rw[List.foldl_cons]at h;rcases nj h with h|⟨g,i,j⟩
  .split at h
   .cases h;exact .inr ⟨e,q8 ..,rfl⟩
   .exact .inl h
  .exact .inr ⟨g,qY _ i,j⟩
theorem qh8{fs:List Fld}{i:List Rl}{nm:ByteArray}{r:Rl}(h:r∈jY fs i nm):r∈i:=by
 unfold jY at h;obtain⟨e,j,g⟩:=List.mem_filterMap.1 h;split at g
 .cases g;exact(List.of_mem_zip (a:=e.1) (b:=e.2) j).2
 .cases g
theorem nq(h:OkM x N)(nm:ByteArray):∀(so:List (ByteArray×Bool)) (i:Nat),i+so.length<=x.ts.sorts.length->∀ r,r∈yj x nm i so->GR x.n r
 | [],i,_,r,g=>by cases g
 |s :: so,i,l,r,g=>by
  simp only[zG]at l;obtain⟨C,j,I⟩:=h.at0 i zOm;rw[yj]at g;simp only[qM]at g;have hA:GR x.n ⟨1,zB x i⟩:=GR.run _ j zOm;rcases g with g|g|g|g
  .split at g
   .rw [qL]at g;subst g;exact hA
   .cases g
  .split at g
   .rw [qL]at g;subst g
    exact⟨hA.ar1,hA.ar3,fun t o=>hA.val t (uK o),List.Pairwise.sublist (List.take_sublist _ _) hA.srt⟩
   .cases g
  .split at g
   .rw [qL]at g;subst g
    by_cases p:(gI x.m.sc.atoms i).toNat=0
    .have e:uY x i=[]:=by unfold uY;rw[p];rfl
     rw[e];exact GR.nil zOm zOm
    .exact GR.steps h.n0 _ j zOm
   .cases g
  .exact nq h nm so (i+1) zOm r g
theorem qh9{l:List Rl}{r:Rl}(h:Qq l = .ok r):r∈l:=by
 match l,h with
 | [q],h=>cases h;exact q8 ..
theorem qiA(h:OkM x N){p:Pl}(k:OkP x N p){nm:ByteArray}{r:Rl}(e:jC x p nm = .ok r):GR x.n r:=by
 unfold jC at e;cases i:zF nm p.env with
 |some a =>
  rw[i]at e;cases e;rcases nj i with g|⟨b,j,rfl⟩
  .cases g
  .exact GR.one (k.env b j).1 (k.env b j).2
 |none =>
  rw[i]at e;rcases qM.1 (qh9 e) with g|g
  .exact (h.st _ k.st).2 r (qh8 g)
  .exact nq h nm _ 0 zOm r g
theorem Xr{J:Type}{g:Int->XE J}:∀{ts:List Int} {l:List (Int×J)},mapX (fun a=>bX (g a) fun b => .ok (a,b)) ts = .ok l->l.map Prod.fst=ts
 | [],l,h=>by cases h;rfl
 |t :: ts,l,h=>by
  rw[mapX]at h;obtain⟨b,i,j⟩:=yX h;obtain⟨c,I,o⟩:=yX i;cases o;obtain⟨r,p,C⟩:=yX j;cases C;rw[yc,Xr p]
theorem nr{nm:ByteArray}{l:List (Int×Bool)}(h:yW ds nm p = .ok l):∃ d,(kD ds 0).E p = .ok d/\d.ar=1/\l.map Prod.fst=d.ts:=by
 unfold yW at h;obtain⟨d,i,g⟩:=yX h;split at g
 .rename_i j;exact⟨d,i,j,Xr g⟩
 .cases g
theorem u6{q:Rl×Rl}(h:zY ds p = .ok q):(kD ds 0).E p = .ok q.1/\(kD ds 1).E p = .ok q.2/\q.1.ar=q.2.ar:=by
 unfold zY at h;obtain⟨a,i,j⟩:=yX h;obtain⟨b,l,g⟩:=yX j;split at g
 .rename_i o;cases g;exact⟨i,l,o⟩
 .cases g
theorem Yb{a:Rl}(h:binE ds p = .ok a):(kD ds 0).E p = .ok a/\a.ar=2:=by
 unfold binE at h;obtain⟨b,i,g⟩:=yX h;split at g
 .rename_i j;cases g;exact⟨i,j⟩
 .cases g
theorem qiB(h:OkM x N){op:Int}{nm:ByteArray}{i:Int}{ds:List Den}(hi:op=2->1<=i/\i<=3)(C:∀ j p r,OkP x N p->(kD ds j).E p = .ok r->GR x.n r){p:Pl}(k:OkP x N p){r:Rl}(e:opE x op nm i ds p = .ok r):GR x.n r:=by
 have P:=h.n0;unfold opE at e;by_cases o1:op=1
 .rw [if_pos o1]at e
  exact qiA h k e
 rw[if_neg o1]at e;by_cases o2:op=2
 .rw [if_pos o2]at e
  cases e;exact GR.nil (hi o2).1 (hi o2).2
 rw[if_neg o2]at e;by_cases o3:op=3
 .rw [if_pos o3]at e
  cases e;have:=GR.run (n:=x.n) (a:=0) x.n.toNat zOm zOm;simpa using this
 rw[if_neg o3]at e;by_cases o4:op=4
 .rw [if_pos o4]at e
  cases e;exact GR.iden P
 rw[if_neg o4]at e;by_cases o5:op=5
 .rw [if_pos o5]at e
  exact C 0 _ r (k.nx h) e
 rw[if_neg o5]at e;by_cases o6:op=6
 .rw [if_pos o6]at e
  obtain⟨q,g,o⟩:=yX e;obtain⟨g1,I,R⟩:=u6 g;cases o;exact GR.union (C 0 p _ k g1) (C 1 p _ k I) R
 rw[if_neg o6]at e;by_cases o7:op=7
 .rw [if_pos o7]at e
  obtain⟨q,g,o⟩:=yX e;obtain⟨g1,I,R⟩:=u6 g;cases o;exact GR.filter (C 0 p _ k g1) _
 rw[if_neg o7]at e;by_cases o8:op=8
 .rw [if_pos o8]at e
  obtain⟨q,g,o⟩:=yX e;obtain⟨g1,I,R⟩:=u6 g;cases o;exact GR.filter (C 0 p _ k g1) _
 rw[if_neg o8]at e;by_cases o9:op=9
 .rw [if_pos o9]at e
  obtain⟨a,g,o⟩:=yX e;obtain⟨b,h3,J⟩:=yX o;unfold uZ at J;split at J
  .rename_i h5;cases J;exact GR.join P (C 0 p _ k g) (C 1 p _ k h3) h5.1 h5.2
  .cases J
 rw[if_neg o9]at e;by_cases T:op=10
 .rw [if_pos T]at e
  obtain⟨a,g,o⟩:=yX e;obtain⟨b,h3,J⟩:=yX o;unfold Qr at J;split at J
  .rename_i h5;cases J;exact GR.prod P (C 0 p _ k g) (C 1 p _ k h3) h5
  .cases J
 rw[if_neg T]at e;by_cases U:op=11
 .rw [if_pos U]at e
  obtain⟨a,g,o⟩:=yX e;obtain⟨g1,I⟩:=Yb g;cases o;exact GR.trans P (C 0 p _ k g1) I
 rw[if_neg U]at e;by_cases a0:op=12
 .rw [if_pos a0]at e
  obtain⟨a,g,o⟩:=yX e;obtain⟨g1,I⟩:=Yb g;cases o;exact(GR.clos P _ (C 0 p _ k g1) I).1
 rw[if_neg a0]at e;by_cases a1:op=13
 .rw [if_pos a1]at e
  obtain⟨a,g,o⟩:=yX e;obtain⟨g1,I⟩:=Yb g;obtain⟨c1,c2⟩:=GR.clos P 200 (C 0 p _ k g1) I;cases o;exact GR.union c1 (GR.iden P) c2
 rw[if_neg a1]at e;by_cases a2:op=14
 .rw [if_pos a2]at e
  obtain⟨q,g,o⟩:=yX e;obtain⟨g1,I,R⟩:=u6 g;cases o;exact GR.over (C 0 p _ k g1) (C 1 p _ k I) R
 rw[if_neg a2]at e;by_cases a3:op=15
 .rw [if_pos a3]at e
  obtain⟨l,g,o⟩:=yX e;obtain⟨d,g1,I,R⟩:=nr g;cases o;have gd:=C 0 p d k g1;have hs:List.Sublist ((l.filter fun e=>e.2).map fun e=>e.1) d.ts:=by rw[<-R];exact List.Sublist.map _ List.filter_sublist
  refine⟨by show (1:Int)<=1;omega,by show (1:Int)<=3;omega,fun t ht=>?_,List.Pairwise.sublist hs gd.srt⟩;have:=gd.val t (hs.subset ht);rw[I]at this;exact this
 rw[if_neg a3]at e;cases e
theorem nu(h:OkM x N):∀(m:Nat) (n:Nd),szN n<=m->WfN n->∀(p:Pl) (r:Rl),OkP x N p->(den x n).E p = .ok r->GR x.n r
 | 0,n,o,_,_,_,_,_=>by obtain⟨op,nm,i,ks,p⟩:=n;simp[szN]at o
 |m+1,n,o,t,p,r,k,e=>by
  rw[jO]at e;refine qiB h t.num (fun j p r k e=>?_) k e;unfold kD at e;by_cases g:j<n.kids.length
  .have l:(n.kids.map (den x)).getD j noD=den x n.kids[j]:=by simp[List.getD,g]
   rw[l]at e;exact nu h m n.kids[j] (zW1 (zS (qy g))) (t.kid (qy g)) p r k e
  .have l:(n.kids.map (den x)).getD j noD=noD:=by simp[List.getD,g]
   rw[l]at e;cases e
end
end EA
namespace F2
open Y1 Y9 E1 E2 E3 EA EQ ER EY EZ F1
structure Ev3 (x:Mo) (p:Pl) (n:Nd):Prop where
 E:qU qb 127 [eMa x,ePl p,eNd n] (endE ((den x n).E p))
 N:qU qb 128 [eMa x,ePl p,eNd n] (endN ((den x n).N p))
 F:qU qb 71 [eMa x,ePl p,eNd n] (endB ((den x n).F p))
 G:∀ r,(den x n).E p = .ok r->GR x.n r
structure OkMa (x:Mo) (N:Nat):Prop extends OkM x N where
 gsc:GSc x.m.sc
 pos:∀ a,a∈x.m.sc.atoms->0<=a
 al:x.m.sc.atoms.length=x.ts.sorts.length
 loop:0<=x.m.loop
 N1:N<=1000
 ts:okTS x.ts
mutual
def dN:Nd->Nat
 | .mk _ _ _ ks _=>dNs ks+1
def dNs:List Nd->Nat
 | []=>0
 |k :: ks=>max (dN k) (dNs ks)
end
theorem ny(n:Nd):dN n=dNs n.kids+1:=by
 obtain⟨op,nm,i,ks,p⟩:=n;rfl
theorem qiC{ks:List Nd}{k:Nd}(h:k∈ks):dN k<=dNs ks:=by
 induction ks with
 |nil=>simp at h
 |cons a l g =>
  simp only[dNs];rcases qt.1 h with rfl|h
  .omega
  .have:=g h;omega
theorem qiD{n k:Nd}(h:k∈n.kids):dN k<dN n:=by
 have:=qiC h;rw[ny n];omega
abbrev IH(x:Mo)(N:Nat)(n:Nd):Prop:=∀ k,k∈n.kids->∀ p:Pl,OkP x N p->p.env.length+dN n<=1000001->Ev3 x p k
abbrev bd(p:Pl)(n:Nd):Prop:=p.env.length+dN n<=1000000
theorem qiE{mu:Mu}{r s:Rl}{x y:AV}(h:Rd mu x (eRel r))(j:Rd mu y (eRel s)):Rd mu (.tup [x,y]) (.tup [eRel r,eRel s]):=by
 refine .tup _ _ rfl fun k u v g i=>?_
 match k with
 | 0=>simp at g i;subst g;subst i;exact h
 | 1=>simp at g i;subst g;subst i;exact j
 |k+2=>simp at g
theorem Yc(x:Mo)(N:Nat)(n a b:Nd)(i:n.kids=[a,b])(t:IH x N n)(p:Pl)(hp:OkP x N p)(U:bd p n) :
  qU qb 147 [eMa x,ePl p,eNd n] (end2 (zY [den x a,den x b] p)):=by
 refine za.of_sound ?_;refine qe.of_awp call147 func147 rfl (qh zKr) zKr (pl:={}) ?_;have j:=(t a (by rw[i];simp) p hp zOm).E;have l:=(t b (by rw[i];simp) p hp zOm).E;have C:=wk3 x p a;have I:=wk3 x p b;have hM:=zO x;generalize g:zY [den x a,den x b] p=E;unfold zY at g;simp only[kD,uj,List.getD_cons_succ]at g;generalize eMa x=M at *
 simp[go_sem];refine qg.seg [0,1,2,3,4,5,7,8,9,10,11,12,6,13,14,15,16,17] [(0,0,[]),(1,0,[]),(2,0,[]),(3,0,[]),(4,0,[]),(5,0,[]),(7,0,[]),(8,0,[]),(9,0,[]),(10,0,[]),(11,0,[]),(12,0,[]),(6,1,[8,10,12]),(13,1,[]),(14,2,[1,3,5,8,10,12]),(15,2,[1,3,5,8,10,12]),(16,1,[]),(17,1,[])] zKr zKr zSi ?_;simp[go_sem,i];cases J:(den x a).E p with
 |error e =>
  rw[J]at j g;subst g;refine qc.pans j C ?_;simp[go_sem];exact .hf _ (qR _)
 |ok r =>
  rw[J]at j g;rw[zi]at g;refine qc.pure j.toP C ?_;simp[go_sem,i];cases P:(den x b).E p with
  |error e =>
   rw[P]at l g;subst g;refine qc.pans l I ?_;simp[go_sem];exact .hf _ (qR _)
  |ok s =>
   rw[P]at l g;rw[zi]at g;refine qc.pure l.toP I ?_;by_cases o:r.ar=s.ar
   .rw [if_pos o]at g
    subst g;have R:(r.ar=s.ar)=True:=eq_true o;simp[go_sem,i,R];refine qg.seg [0,1,2,3] [(0,0,[]),(1,0,[]),(2,1,[1]),(3,1,[])] zKr zKr zSi ?_;simp[go_sem];exact qiE (.hf _ (q9 r)) (.hf _ (q9 s))
   .rw [if_neg o]at g
    subst g;simp[go_sem,i,o];refine qc.pans (u3 42) (wkI 42) ?_;simp[go_sem];exact .hf _ (qR _)
theorem qiF(x:Mo)(N:Nat)(n a b:Nd)(i:OkMa x N)(j:n.kids=[a,b])(l:IH x N n)(p:Pl)(hp:OkP x N p)(J:bd p n) :
  qU qb 193 [eMa x,ePl p,eNd n] (endE (bX (zY [den x a,den x b] p) fun q => .ok (unR q.1 q.2))):=by
 refine za.of_sound ?_;refine qe.of_awp call193 func193 rfl (qh zKr) zKr (pl:={}) ?_;have g:=Yc x N n a b j l p hp J;have t:=wk3 x p n;have P:=zO x;cases o:zY [den x a,den x b] p with
 |error e =>
  rw[o]at g;rw[zC];simp[go_sem];refine qc.pans g t ?_;simp[go_sem];exact .hf _ (qR _)
 |ok q =>
  obtain⟨r,s⟩:=q;obtain⟨C,I,h3⟩:=u6 o;simp only[kD,uj,List.getD_cons_succ]at C I;have R:=(l a (by rw[j];simp) p hp zOm).G _ C;have U:=(l b (by rw[j];simp) p hp zOm).G _ I;have lr:=R.len i.n0 (zW1 i.n12);have ls:=U.len i.n0 (zW1 i.n12);rw[o]at g;rw[zi];simp[go_sem];refine qc.pure g.toP t ?_;simp[go_sem];refine qc.pure (ve r s zOm zOm) (wkR2 r s) ?_;simp[go_sem];exact .hf _ (q9 _)
theorem qiG(x:Mo)(N:Nat)(n a b:Nd)(i:OkMa x N)(j:n.kids=[a,b])(l:IH x N n)(p:Pl)(hp:OkP x N p)(J:bd p n) :
  qU qb 194 [eMa x,ePl p,eNd n] (endE (bX (zY [den x a,den x b] p) fun q => .ok (inR q.1 q.2))):=by
 refine za.of_sound ?_;refine qe.of_awp call194 func194 rfl (qh zKr) zKr (pl:={}) ?_;have g:=Yc x N n a b j l p hp J;have t:=wk3 x p n;have P:=zO x;cases o:zY [den x a,den x b] p with
 |error e =>
  rw[o]at g;rw[zC];simp[go_sem];refine qc.pans g t ?_;simp[go_sem];exact .hf _ (qR _)
 |ok q =>
  obtain⟨r,s⟩:=q;obtain⟨C,I,h3⟩:=u6 o;simp only[kD,uj,List.getD_cons_succ]at C I;have R:=(l a (by rw[j];simp) p hp zOm).G _ C;have U:=(l b (by rw[j];simp) p hp zOm).G _ I;have lr:=R.len i.n0 (zW1 i.n12);have ls:=U.len i.n0 (zW1 i.n12);rw[o]at g;rw[zi];simp[go_sem];refine qc.pure g.toP t ?_;simp[go_sem];refine qc.pure (V3 r s zOm zOm) (wkR2 r s) ?_;simp[go_sem];exact .hf _ (q9 _)
theorem diffX(x:Mo)(N:Nat)(n a b:Nd)(i:OkMa x N)(j:n.kids=[a,b])(l:IH x N n)(p:Pl)(hp:OkP x N p)(J:bd p n) :
  qU qb 195 [eMa x,ePl p,eNd n] (endE (bX (zY [den x a,den x b] p) fun q => .ok (diR q.1 q.2))):=by
 refine za.of_sound ?_;refine qe.of_awp call195 func195 rfl (qh zKr) zKr (pl:={}) ?_;have g:=Yc x N n a b j l p hp J;have t:=wk3 x p n;have P:=zO x;cases o:zY [den x a,den x b] p with
 |error e =>
  rw[o]at g;rw[zC];simp[go_sem];refine qc.pans g t ?_;simp[go_sem];exact .hf _ (qR _)
 |ok q =>
  obtain⟨r,s⟩:=q;obtain⟨C,I,h3⟩:=u6 o;simp only[kD,uj,List.getD_cons_succ]at C I;have R:=(l a (by rw[j];simp) p hp zOm).G _ C;have U:=(l b (by rw[j];simp) p hp zOm).G _ I;have lr:=R.len i.n0 (zW1 i.n12);have ls:=U.len i.n0 (zW1 i.n12);rw[o]at g;rw[zi];simp[go_sem];refine qc.pure g.toP t ?_;simp[go_sem];refine qc.pure (gQ r s zOm zOm) (wkR2 r s) ?_;simp[go_sem];exact .hf _ (q9 _)
theorem overX(x:Mo)(N:Nat)(n a b:Nd)(i:OkMa x N)(j:n.kids=[a,b])(l:IH x N n)(p:Pl)(hp:OkP x N p)(R:bd p n) :
  qU qb 196 [eMa x,ePl p,eNd n] (endE (bX (zY [den x a,den x b] p) fun q => .ok (ovR x.n q.1 q.2))):=by
 refine za.of_sound ?_;refine qe.of_awp call196 func196 rfl (qh zKr) zKr (pl:={}) ?_;have g:=Yc x N n a b j l p hp R;have t:=wk3 x p n;have U:=zO x;cases o:zY [den x a,den x b] p with
 |error e =>
  rw[o]at g;rw[zC];simp[go_sem];refine qc.pans g t ?_;simp[go_sem];exact .hf _ (qR _)
 |ok q =>
  obtain⟨r,s⟩:=q;obtain⟨C,I,h3⟩:=u6 o;simp only[kD,uj,List.getD_cons_succ]at C I;have J:=(l a (by rw[j];simp) p hp zOm).G _ C;have P:=(l b (by rw[j];simp) p hp zOm).G _ I;have lr:=J.len i.n0 (zW1 i.n12);have ls:=P.len i.n0 (zW1 i.n12);rw[o]at g;rw[zi];simp[go_sem];refine qc.pure g.toP t ?_;simp[go_sem];refine qg.intro zKr ?_;simp[go_sem];refine qc.pure (overU x.n i.n0 i.n12 r s J P h3) (wkJ x.n r s) ?_;simp[go_sem];exact .hf _ (q9 _)
end F2
end Go.Proofs.YtpagnklaanbmbaaGreatDoor
