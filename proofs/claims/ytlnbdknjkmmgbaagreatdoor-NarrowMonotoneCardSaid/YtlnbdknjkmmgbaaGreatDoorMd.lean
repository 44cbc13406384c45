/-
  Own library, part 4: an abstract reading of values and a calculus over it; contracts of functions; plain lemmas.
-/
import Derived.Test.YtlnbdknjkmmgbaaGreatDoorMc
set_option linter.unusedVariables false
set_option linter.unusedSimpArgs false
set_option maxRecDepth 100000
open Go renaming Program->qb,TypeId->qd,Operand->zK,FuncId->zZ
open Go.Proofs.Tryz renaming prog->qc
open List renaming getElem?_eq_some_iff->qh,mem_map->qn,range->qs,getElem_mem->qt,mem_cons->qy,getElem?_set_self->qz,getElem?_eq_getElem->qB,getElem?_append_left->qG,not_mem_nil->qK,replicate->qM,mem_cons_of_mem->qN,mem_append->qO,mem_of_getElem?->qQ,mem_singleton->qS,mem_cons_self->qZ,all_eq_true->q8,drop_eq_getElem_cons->zg,length_append->zh,take_length->zi,map_append->zx,getElem?_map->zB,append_assoc->zG,getElem?_set_ne->zH,drop_length->zU,take_of_length_le->zY,getElem?_append_right->yd,mem_range->ye,append_nil->yg,length_cons->yh,length_map->yu,cons_append->yL,mem_filter->y5,mem_append_left->y6,getElem?_take->jY,ext_getElem?->jZ,mem_flatMap->vZ,length_take->ub,foldl_append->ul,flatMap_cons->uM,getElem?_drop->uO,pairwise_cons->wI,getElem?_range->Jl,getElem_of_mem->Vz
open Nat renaming le_refl->qj,le_trans->zS,zero_le->uN,lt_succ_iff_lt_or_eq->Jm
open Go.IntKind renaming i64->ql
open Option.some renaming injEq->qo
open Bool renaming and_eq_true->qD
open Option renaming map_some->zd,map_eq_some_iff->um
open Int renaming mul_le_mul->jl,tmod_eq_emod_of_nonneg->uq
open List.Nodup renaming length_le_of_subset->jm
open Except.ok renaming injEq->jN
open List.cons renaming injEq->uc
namespace Go.Proofs.YtlnbdknjkmmgbaaGreatDoor
open Go Go.Ev Go.Proofs Tryz
namespace Y12
open Y1 Y2 Y3 P1 YM Y5 Y6 Y7 Y8 Y9 Y11
def trF(t:Tp):Tp:=[t.getD 1 0,t.getD 0 0,0]
theorem Uu{a:List Tp}{t}:t∈uni [] (a.map fun t=>[t.getD 1 0,t.getD 0 0,0])↔∃ x,x∈a/\trF x=t:=by
 rw[vL];simp[trF]
theorem qjX(ns)(h:ns<=4):ok2 (zu ns 2):=by
 have g:((qs ns).map fun (i:Nat)=>pad (qM 2 (i:Int))).Nodup:=by
  refine List.pairwise_map.2 (List.pairwise_iff_getElem.2 fun i j o C p=>?_);simp only[List.getElem_range];intro e;simp[pad,List.replicate_succ]at e;omega
 refine⟨rfl,g,fun t l=>?_⟩;have l:t∈(qs ns).map fun (i:Nat)=>pad (qM 2 (i:Int)):=l
 obtain⟨i,o,rfl⟩:=qn.1 l;rw[ye]at o;exact⟨i,i,rfl,zOm,zOm,zOm,zOm⟩
theorem qjY{a}(h:ok2 a):ok2 (kClo a):=by
 have:∀(f n:Nat)(a:Kd),ok2 a->ok2 (cloN f n a):=by
  intro f;induction f with
  |zero=>intro n a h;exact h
  |succ f g =>
   intro n a h;unfold cloN;split
   .exact g _ _ (h.sum h.join)
   .exact h
 exact this 70 0 a h
theorem qjZ(c)(hc:okCk c)(op a)(R:ok2 a)(a0:op=11\/op=12\/op=13):qg qc 213 [eCk c,aI op,eKd a] (eKd (binK c.ts.sS.length op a)):=by
 refine qSV call213 func213 rfl ?_;have C:=hc.ts.ns;unfold binK;rcases a0 with rfl|rfl|rfl
 .simp [go_sem]
  refine fZ (JK _ _) ?_ (by rintro r m ⟨e,_⟩;cases e);rintro r m ⟨e,c,rfl⟩;cases e;simp[go_sem];refine qk.seen a.ts.length (fun seen U=>U.tm 5 = .ip (cKd a)/\U.tm 6 = .ptr 0 0/\U.tm 7 = .ptr 3 0/\U.tm 25 = .ptr 4 0 /\
   ColS 2 (.arr [aI 0,.sc (.map none)]) c (.it (eT a.ts) seen) (fun t=>∃ x,(∃ i,i∈seen/\a.ts[i]?=some x)/\trF x=t) U.mu) ?_ ?_
  .exact ⟨zSi,zSi,zSi,zSi,[],rfl,rfl,rfl,rfl,rfl,zSp,zSp,zSp⟩
  .rintro seen U a5 a6 ⟨e5,e6,e7,I,l,k0,k1,k2,k3,k4,h1,h2,h3⟩
   simp[go_sem,I];refine⟨4,eT a.ts,seen,rfl,k4,fun i e hi C=>?_,fun p=>?_⟩
   .obtain ⟨x,hx,rfl⟩:=Qu hi
    have a1:okT x:=R.okK.len x (qQ hx);have a2:i<a.ts.length:=(qh.1 hx).1;have a3:x.length=3:=a1;have o:4<U.mu.length:=(qh.1 k4).1;have g:∀(c:Cell)(l:List Cell)(j:Nat),j<4->((U.mu.set 4 c)++l)[j]?=U.mu[j]?:=fun c l j hj=>by
     rw[qG zSo,zGl]
    have q2:=fun c l=>(g c l 2 zOm).trans k2
    have q3:=fun c l=>(g c l 3 zOm).trans k3
    obtain⟨J,P,T,rfl⟩:∃ J P T,x=[J,P,T]:=by
     match x,a3 with
     | [J,P,T],_=>exact⟨_,_,_,rfl⟩
    simp[go_sem,e7,I,hi,o,q3];refine tH _ (updT (t:=[P,J,0]) (q2 _ _) rfl h2) ?_;simp[go_sem];refine⟨i,a2,C,zS1 e5,zS1 e6,by simp[go_sem,e7],zS1 I,ins l [P,J,0],?_,?_,?_,?_,?_,Yi h1,fun t ht=>?_,fun t=>?_⟩
    .simp only[qI]
     rw[zGl,g _ _ 0 zOm,k0]
    .simp only[qI]
     rw[zGl,g _ _ 1 zOm,k1]
    .simp only[qI]
     rw[qz zSo]
    .simp only[qI]
     rw[zGl,g _ _ 3 zOm,k3]
    .simp only[qI]
     rw[zGl,qG (zUs o),qz o]
    .rcases uz.1 ht with h|rfl
     .exact h2 t h
     .rfl
    .simp only[uz,h3,XG hx]
     constructor
     .rintro (⟨y,h,e⟩|rfl)
      .exact ⟨y,.inl h,e⟩
      .exact ⟨[J,P,T],.inr rfl,rfl⟩
     .rintro ⟨y,h|rfl,e⟩
      .exact .inl ⟨y,h,e⟩
      .exact .inr e.symm
   .obtain ⟨a4,hm⟩:=four k0 k1 k2 k3
    simp[go_sem,e6,e7,hm];refine Rd.aggs ⟨.hf _ (HF.sc _),Rd.setT (k:=(kTr a).ts) rfl h1 (u5 zSp) (fun t=>?_),trivial⟩;refine(h3 t).trans (Iff.trans ?_ Uu.symm);constructor
    .rintro ⟨y,h,e⟩;exact⟨y,(XH (zUs p)).1 h,e⟩
    .rintro ⟨y,h,e⟩;exact⟨y,(XH (zUs p)).2 h,e⟩
 .simp [go_sem]
  refine fR (Ul a R) (.zk (zW _) .nil) ?_;exact .hf _ (zW _)
 .simp [go_sem]
  refine fR (Ul a R) (.zk (zW _) .nil) ?_;refine fR (XS c hc 2 zOm zOm) (.zk (jf _) (.zs .nil)) ?_;refine fR (sumU true (kClo a) (zu c.ts.sS.length 2) (qjY R).okK.len (qjX _ C).okK.len) (.zk (zW _) (.zk (JM _ [_]) .nil)) ?_;exact .hf _ (zW _)
theorem hfK2(n)(ts:List Tp):HF (.agg [aI n,mKd ts]):=zW ⟨n,ts⟩
theorem hfKn:HF (.agg [aI 0,.sc (.map none)]):=qjV none
theorem wkR(n b e):WKs [aB b,aI e,eNd n] [aB b,aI e,eNd n] := .zs (.zs (.zk (qE n) .nil))
structure ApOk (op:Int) (l:List (Option Kd)):Prop where
 one:op=5->∃ a,l=[a]
 bin:op=11\/op=12\/op=13->∃ a,l=[some a]/\okK a/\(a.ar=2->ok2 a)
 two:op=6\/op=14\/op=7\/op=8\/op=32\/op=33\/op=9\/op=10->∃ a b,l=[some a,some b]/\okK a/\okK b
theorem Uv{ns op n pos l}(i:op≠2)(j:op≠3)(o:op≠4)(p:op≠5)(t:op≠11)(C:op≠12)(I:op≠13)(t1:op≠6)(t2:op≠14)(t3:op≠7)(t4:op≠8)(t5:op≠32)(t6:op≠33)(J:op≠9)(g:op≠10):zy ns op n pos l = .ok none:=by
 unfold zy;rw[if_neg i,if_neg j,if_neg o];split
 .simp only[p,t,C,I,or_self,if_false]
  split<;>rfl
 .simp only[t1,t2,t3,t4,t5,t6,J,g,or_self,if_false]
 .rfl
theorem qj0(c)(hc:okCk c)(full n l)(R:ApOk n.op l):jS qc 145 [eCk c,eNd n,.lst full (l.map cKo)] (endK (zy c.ts.sS.length n.op n.n n.pos l)):=by
 refine vd.of_sound ?_;refine qSW call145 func145 rfl {} ?_;by_cases ho:n.op=2\/n.op=3\/n.op=4\/n.op=5\/n.op=11\/n.op=12\/n.op=13\/n.op=6\/n.op=14\/n.op=7\/n.op=8\/n.op=32\/n.op=33\/n.op=9\/n.op=10
 case neg =>
  simp only[not_or]at ho;obtain⟨U,h3,h4,I,b1,b2,b3,t1,t2,t3,t4,t5,t6,h9,p⟩:=ho;rw[Uv U h3 h4 I b1 b2 b3 t1 t2 t3 t4 t5 t6 h9 p];simp[go_sem,U,h3,h4,I,b1,b2,b3,t1,t2,t3,t4,t5,t6,h9,p];exact .hf _ hfKn
 unfold zy;by_cases U:n.op=2
 .simp [go_sem,U]
  refine fR (nJ n.n) (.zs .nil) ?_;exact .hf _ (hfK2 _ _)
 by_cases h3:n.op=3
 .simp [go_sem,h3]
  refine fR (XS c hc 1 zOm zOm) (.zk (jf _) (.zs .nil)) ?_;exact .hf _ (zW _)
 by_cases h4:n.op=4
 .simp [go_sem,h4]
  refine fR (XS c hc 2 zOm zOm) (.zk (jf _) (.zs .nil)) ?_;exact .hf _ (zW _)
 by_cases I:n.op=5
 .obtain ⟨a,rfl⟩:=R.one I
  cases a with
  |none=>simp[go_sem,I];exact .hf _ hfKn
  |some a=>simp[go_sem,I];exact .hf _ (hfK2 _ _)
 by_cases J:n.op=11\/n.op=12\/n.op=13
 .obtain ⟨a,rfl,o,a0⟩:=R.bin J
  have t:=fun h=>qjZ c hc n.op a (a0 h) J
  by_cases i:a.ar=2
  .have t:=t i
   rcases J with h|h|h<;>rw[h]at t
   all_goals
    simp[go_sem,h,i];refine tR zKr ?_;simp[go_sem,i];refine fR (zJ true 42 n).toP (wkR n true 42) ?_;refine tR zKr ?_;simp[go_sem,h];refine fR t (.zk (jf _) (.zs (.zk (zW _) .nil))) ?_;exact .hf _ (zW _)
  .rcases J with h|h|h
   all_goals
    simp[go_sem,h,i];refine qi.tail 6 zKr ?_;simp[go_sem,i];refine aK (zJ false 42 n) (wkR n false 42) ?_;simp[go_sem];exact .hf _ (yC _ _)
 by_cases ht:n.op=6\/n.op=14\/n.op=7\/n.op=8\/n.op=32\/n.op=33
 .obtain ⟨a,b,rfl,o,g⟩:=R.two zOm
  have T:=qjA n.op a b o g;simp only[not_or]at J;by_cases i:a.ar=b.ar
  .rcases ht with h|h|h|h|h|h<;>rw[h]at T
   all_goals
    simp[go_sem,h,i];refine tR zKr ?_;simp[go_sem,i];refine fR (zJ true 42 n).toP (wkR n true 42) ?_;refine tR zKr ?_;simp[go_sem,h];refine fR T (.zs (.zk (zW _) (.zk (zW _) .nil))) ?_;exact .hf _ (zW _)
  .rcases ht with h|h|h|h|h|h
   all_goals
    simp[go_sem,h,i];refine qi.tail 10 zKr ?_;simp[go_sem,i];refine aK (zJ false 42 n) (wkR n false 42) ?_;simp[go_sem];exact .hf _ (yC _ _)
 simp only[not_or]at J ht;by_cases h9:n.op=9
 .obtain ⟨a,b,rfl,o,g⟩:=R.two zOm
  have hj:=u7 a b o g;have P:ql.wrap (a.ar+b.ar)=a.ar+b.ar:=yi (zW2 o.ar g.ar) (zW2 o.ar g.ar);have w2:ql.wrap (a.ar+b.ar-2)=a.ar+b.ar-2:=yi (zW2 o.ar g.ar) (zW2 o.ar g.ar);simp[go_sem,h9];refine tR zKr ?_;by_cases C:1<=a.ar+b.ar-2
  .by_cases j:a.ar+b.ar-2<=3
   .simp [go_sem,P,w2,C,j]
    refine fR (zJ true 42 n).toP (wkR n true 42) ?_;refine fD ?_;refine fR hj (.zk (zW _) (.zk (zW _) .nil)) ?_;exact .hf _ (zW _)
   .simp [go_sem,P,w2,C,j]
    refine aK (zJ false 42 n) (wkR n false 42) ?_;simp[go_sem];exact .hf _ (yC _ _)
  .simp [go_sem,P,w2,C]
   refine aK (zJ false 42 n) (wkR n false 42) ?_;simp[go_sem];exact .hf _ (yC _ _)
 by_cases p:n.op=10
 .obtain ⟨a,b,rfl,o,g⟩:=R.two zOm
  have P:ql.wrap (a.ar+b.ar)=a.ar+b.ar:=yi (zW2 o.ar g.ar) (zW2 o.ar g.ar);by_cases j:a.ar+b.ar<=3
  .have hj:=XF a b o g j
   simp[go_sem,p];refine tR zKr ?_;simp[go_sem,P,j];refine fR (zJ true 42 n).toP (wkR n true 42) ?_;refine fD ?_;refine fR hj (.zk (zW _) (.zk (zW _) .nil)) ?_;exact .hf _ (zW _)
  .simp [go_sem,p]
   refine qi.tail 11 zKr ?_;simp[go_sem,P,j];refine aK (zJ false 42 n) (wkR n false 42) ?_;simp[go_sem];exact .hf _ (yC _ _)
 exact absurd ho zOm
end Y12
namespace P2
open Y1 Y2 Y3 P1 Y6 Y8 Y9 Y12
section
variable {a b k:Kd}{l:List Int}{ns:Nat}
def kd(op:Int):Int:=if 1<=op/\op<=15 then 101 else if 20<=op/\op<=23 then 105 else if 30<=op/\op<=51 then 102 else 0
def shp(op:Int)(nk:Nat):Option (List Int):=
 if op=1\/op=2\/op=3\/op=4\/op=20\/op=30\/op=31 then some []
 else if op=5\/op=11\/op=12\/op=13\/op=21\/op=34\/op=35\/op=36\/op=37 then some [101]
 else if op=6\/op=7\/op=8\/op=9\/op=10\/op=14\/op=32\/op=33 then some [101,101]
 else if op=15\/op=45\/op=46 then some [101,102]
 else if op=22\/op=23\/op=38\/op=39 then some [105,105]
 else if op=40\/op=48\/op=49\/op=50 then some [102]
 else if op=41\/op=42\/op=43\/op=44\/op=51 then some [102,102]
 else if op=47 then some (qM (min nk 401) 101)
 else none
inductive WfN:Nd->Prop where
 |mk (n:Nd) (h:shp n.op n.sD.length=some (n.sD.map fun k=>kd k.op)) (hn:n.op=2->1<=n.n/\n.n<=3) (hk:∀ k,k∈n.sD->WfN k):WfN n
theorem WfN.shape{n}(h:WfN n):shp n.op n.sD.length=some (n.sD.map fun k=>kd k.op):=by cases h;assumption
theorem WfN.num{n}(h:WfN n):n.op=2->1<=n.n/\n.n<=3:=by cases h;assumption
theorem WfN.kid{n k}(h:WfN n)(g:k∈n.sD):WfN k:=by
 cases h with
 |mk _ _ _ h=>exact h k g
theorem mD{op nk}(h:shp op nk=some l):l.length<=401:=by
 grind [shp]
theorem WfN.len{n}(h:WfN n):n.sD.length<=401:=by
 have:=mD h.shape;simpa using this
theorem WfN.small{n}(h:WfN n):Small n:=by
 induction h with
 |mk n g j l i=>exact .mk n (by have:=mD g;simp at this;omega) i
structure okKd (ns:Nat) (k:Kd):Prop where
 ar:1<=k.ar/\k.ar<=3
 nd:k.ts.Nodup
 ts:∀ t,t∈k.ts->∃ l,t=pad l/\(l.length:Int)=k.ar/\∀ x,x∈l->0<=x/\x<ns
theorem okKd.okK(h:okKd ns k):okK k:=⟨h.ar,fun t g=>by obtain⟨l,rfl,_⟩:=h.ts t g;rfl,h.nd⟩
theorem okKd.ok2(h:okKd ns k)(o:ns<=4)(g:k.ar=2):ok2 k:=⟨g,h.nd,fun t p=>by
 obtain⟨l,rfl,i,j⟩:=h.ts t p;rw[g]at i
 match l,i with
 | [x,y],_ =>
  have C:=j x zSp;have g:=j y zSp;exact⟨x,y,rfl,zOm,zOm,zOm,zOm⟩⟩
theorem aR(i:k.ar=2)(g:k.ts.Nodup)(h:∀ t,t∈k.ts->∃ x y,t=[x,y,0]/\0<=x/\x<ns/\0<=y/\y<ns):okKd ns k:=⟨zOm,g,fun t j=>by
 obtain⟨x,y,rfl,o,p,C,I⟩:=h t j;exact⟨[x,y],rfl,by rw[i];rfl,fun z l=>by simp at l;omega⟩⟩
theorem okKd.pairs(h:okKd ns k)(g:k.ar=2):∀ t,t∈k.ts->∃ x y,t=[x,y,0]/\0<=x/\x<ns/\0<=y/\y<ns:=fun t p=>by
 obtain⟨l,rfl,i,j⟩:=h.ts t p;rw[g]at i
 match l,i with
 | [x,y],_ =>
  have o:=j x zSp;have g:=j y zSp;exact⟨x,y,rfl,o.1,o.2,g.1,g.2⟩
theorem XT(j:1<=l.length)(o:l.length<=3)(i:∀ x,x∈l->0<=x/\x<ns):okKd ns (kOf l):=
 ⟨by grind [kOf],by simp[kOf],fun t g=>by
  have g:t∈[pad l]:=g;rw[qS]at g;exact⟨l,g,rfl,i⟩⟩
theorem qj1{n}(h:1<=n/\n<=3):okKd ns ⟨n,[]⟩:=⟨h,zSp,fun t g=>by simp at g⟩
theorem XU(ns g)(I:1<=g)(J:g<=3):okKd ns (zu ns g):=by
 refine⟨by grind [zu],?_,fun t l=>?_⟩
 .refine List.pairwise_map.2 ((List.pairwise_iff_getElem.2 fun i j o P p=>?_))
  simp only[List.getElem_range];obtain⟨a,rfl⟩:∃ a,g=a+1:=⟨g-1,zOm⟩
  grind [pad]
 .have l:t∈(qs ns).map fun (i:Nat)=>pad (qM g (i:Int)):=l
  obtain⟨i,o,rfl⟩:=qn.1 l;rw[ye]at o;exact⟨_,rfl,by simp[zu],fun x C=>by rw[List.eq_of_mem_replicate C];omega⟩
theorem JR(i:okKd ns a)(j:okKd ns b)(h:a.ar=b.ar):okKd ns (kSum a b):=by
 refine⟨i.ar,u5 (u5 zSp),fun t g=>?_⟩;have g:t∈uni (uni [] a.ts) b.ts:=g;simp only[vL,qK,false_or]at g;rcases g with g|g
 .exact i.ts t g
 .obtain ⟨l,e,o,p⟩:=j.ts t g
  exact⟨l,e,by rw[o,<-h];rfl,p⟩
theorem qj2(g:okKd ns a):okKd ns (ZE a b):=
 ⟨g.ar,g.nd.filter _,fun t i=>g.ts t (y5.1 i).1⟩
theorem qj3{op}(g:okKd ns a)(i:okKd ns b)(h:a.ar=b.ar):okKd ns (vt op a b):=by
 grind [vt,JR,qj2]
theorem ZJ(h:l.length<=3)(k)(g:k<=l.length):(pad l).take k=l.take k:=by
 match l,h with
 | [],_=>grind
 | [a],_=>match k,g with
  | 0,_=>rfl
  | 1,_=>rfl
 | [a,b],_=>match k,g with
  | 0,_=>rfl
  | 1,_=>rfl
  | 2,_=>rfl
 | [a,b,c],_=>match k,g with
  | 0,_=>rfl
  | 1,_=>rfl
  | 2,_=>rfl
  | 3,_=>rfl
theorem JS{g i}(j:g.length<=3)(l:i.length<=3)(s):conc (pad g) g.length (pad i) i.length s=pad (g.take (g.length-s)++i.drop s):=by
 simp_all[conc,ZJ,qj,zi]
theorem JT(i:okKd ns a)(j:okKd ns b)(o:1<=a.ar+b.ar-2)(p:a.ar+b.ar-2<=3):okKd ns (zL a b):=by
 refine⟨⟨o,p⟩,XD,fun t C=>?_⟩;obtain⟨x,y,⟨I,J⟩,hf⟩:=Qw.1 C;obtain⟨g,rfl,P,R⟩:=i.ts x I;obtain⟨l,rfl,T,U⟩:=j.ts y J;have a0:=i.ar;have a1:=j.ar;unfold ZG at hf;split at hf
 .simp only[qo]at hf
  rw[show a.ar.toNat=g.length by omega,show b.ar.toNat=l.length by omega,JS zOm zOm]at hf;refine⟨_,hf.symm,?_,fun z hz=>?_⟩
  .show ((g.take (g.length-1)++l.drop 1).length:Int)=a.ar+b.ar-2
   simp only[zh,ub,List.length_drop];omega
  grind
 grind
theorem qj4(i:okKd ns a)(j:okKd ns b)(o:a.ar+b.ar<=3):okKd ns (uB a b):=by
 have p:=i.ar;have C:=j.ar;refine⟨⟨by grind [uB],o⟩,nT,fun t I=>?_⟩;obtain⟨x,y,⟨J,P⟩,hf⟩:=JL.1 I;obtain⟨g,rfl,R,T⟩:=i.ts x J;obtain⟨l,rfl,U,a0⟩:=j.ts y P;unfold wW at hf;simp only[qo]at hf;rw[show a.ar.toNat=g.length by omega,show b.ar.toNat=l.length by omega,JS zOm zOm]at hf;refine⟨_,hf.symm,?_,fun z hz=>?_⟩
 .show ((g.take (g.length-0)++l.drop 0).length:Int)=a.ar+b.ar
  simp only[zh,ub,List.length_drop];omega
 grind
theorem qj5(g:okKd ns a)(i:a.ar=2):okKd ns (kTr a):=by
 refine aR rfl (u5 zSp) (fun t j=>?_);obtain⟨x,l,rfl⟩:=Uu.1 j;obtain⟨p,q,rfl,o,C,I,J⟩:=g.pairs i x l;exact⟨q,p,rfl,I,J,o,C⟩
theorem JU(i:okKd ns a)(g:a.ar=2):okKd ns (kClo a)/\(kClo a).ar=2:=by
 have:∀(f n:Nat)(a:Kd),okKd ns a->a.ar=2->okKd ns (cloN f n a)/\(cloN f n a).ar=2:=by
  intro f;induction f with
  |zero=>intro n a h g;exact⟨h,g⟩
  |succ f j =>
   intro n a h g;unfold cloN;split
   .exact j _ _ (JR h (JT h h zOm zOm) (by grind [zL])) g
   grind
 exact this 70 0 a i g
theorem qj6{op}(g:okKd ns a)(i:a.ar=2):okKd ns (binK ns op a):=by
 unfold binK;split
 .grind [JU]
 .split
  .exact JR (JU g i).1 (XU ns 2 zOm zOm) (by rw[(JU g i).2];rfl)
  .exact qj5 g i
def ScOk(ns:Nat)(s:Scp):Prop:=∀ v,v∈s->okKd ns v.2/\v.2.ar=1
theorem mE{nm}:∀{s:Scp}{v}{r:Scp},y9 nm s=v :: r->v∈s
 | [],v,r,h=>by simp[y9]at h
 |w :: s,v,r,h=>by
  unfold y9 at h;split at h
  .cases h;exact qZ
  .exact qN _ (mE h)
theorem qj7{ts}(h:okTS ts){nm k}(g:k∈means ts nm):okKd ts.sS.length k:=by
 unfold means at g;rcases qO.1 g with g|g
 .unfold z6 at g
  obtain⟨f,hf,e⟩:=List.mem_filterMap.1 g;split at e
  .cases e
   have:=h.fl f hf
   grind [XT]
  grind
 .have:∀(j:List (tZ×Bool))(i:Nat),i+j.length<=ts.sS.length->∀ k,k∈yo i j nm->okKd ts.sS.length k:=by
   intro j;induction j with
   |nil=>grind [yo]
   |cons s j l =>
    grind [yh,kOf,XT,yo,vM]
  grind
theorem yI(c s inn n):exam c s inn n =
  if (inn&&zX c n.op n.name)=true then .error (46,n.pos)
  else if n.op=1 then yH c s n.name n.pos
  else if n.op=47 then
   if (c.ts.sT.any fun p=>decide (p.name=n.name))=true then
    match zl c n.name with
    |none => .error (45,n.pos)
    |some p=>match c.ts.sT[p]? with
     |none => .error (45,n.pos)
     |some g=>if g.params.length=n.sD.length then zO c s n.pos g.params n.sD else .error (45,n.pos)
   else .error (40,n.pos)
  else if n.op=15\/n.op=45\/n.op=46 then z7 c s (inn||decide (n.op=15)) n.name n.pos n.sD
  else match qL c s (inn||decide (n.op=12)||decide (n.op=13)) n.sD with
   | .error e => .error e
   | .ok l=>zy c.ts.sS.length n.op n.n n.pos l:=by
 obtain⟨op,nm,k,ks,pos⟩:=n;simp only[exam,Nd.op,Nd.name,Nd.n,Nd.sD,Nd.pos];rfl
theorem ZK{c s inn}:∀{ks l},qL c s inn ks = .ok l->l.length=ks.length/\∀(i:Nat) k a,ks[i]?=some k->l[i]?=some a->exam c s inn k = .ok a
 | [],l,h=>by grind [qL,jN]
 |k :: ks,l,h=>by
  simp only[qL]at h;cases g:exam c s inn k with
  |error e=>rw[g]at h;exact absurd h zSp
  |ok a =>
   rw[g]at h;simp only at h;cases j:qL c s inn ks with
   |error e=>rw[j]at h;exact absurd h zSp
   |ok r =>
    rw[j]at h;simp only[jN]at h;subst h;obtain⟨t,C⟩:=ZK j;refine⟨zP1 t,fun i I J o p=>?_⟩;cases i with
    |zero=>simp at o p;subst o;subst p;exact g
    |succ i=>exact C i I J (zUs o) (zUs p)
theorem qj8{op}(h:1<=op/\op<=15):kd op=101:=by unfold kd;rw[if_pos h]
theorem JV{op}(h:kd op=101):1<=op/\op<=15:=by
 grind [kd,absurd]
theorem XV(I:ns<=4){n}(T:WfN n){l}(p:l.length=n.sD.length)(h:∀(i:Nat) k a,n.sD[i]?=some k->l[i]?=some a->kd k.op=101->∃ q,a=some q/\okKd ns q) :
  ApOk n.op l/\(n.op=5->∃ a,l=[some a]/\okKd ns a)/\(n.op=11\/n.op=12\/n.op=13->∃ a,l=[some a]/\okKd ns a)/\(n.op=6\/n.op=14\/n.op=7\/n.op=8\/n.op=32\/n.op=33\/n.op=9\/n.op=10->∃ a b,l=[some a,some b]/\okKd ns a/\okKd ns b):=by
 have g:=T.shape;have t:n.op=5\/n.op=11\/n.op=12\/n.op=13->∃ a,l=[some a]/\okKd ns a:=by
  intro j;have e:shp n.op n.sD.length=some [101]:=by
   unfold shp;rw[zIn,if_pos zOm]
  rw[e]at g;simp only[qo]at g
  match o:n.sD,g with
  | [k],g =>
   simp at g;rw[o]at p
   match l,p with
   | [a],_ =>
    obtain⟨q,rfl,P⟩:=h 0 k a (by rw[o];rfl) rfl g.symm
    grind
  | [],g=>simp at g
  |_ :: _ :: _,g=>simp at g
 have R:n.op=6\/n.op=14\/n.op=7\/n.op=8\/n.op=32\/n.op=33\/n.op=9\/n.op=10->∃ a b,l=[some a,some b]/\okKd ns a/\okKd ns b:=by
  intro j;have e:shp n.op n.sD.length=some [101,101]:=by
   unfold shp;rw[zIn,zIn,if_pos zOm]
  rw[e]at g;simp only[qo]at g
  match o:n.sD,g with
  | [k,U],g =>
   simp at g;rw[o]at p
   match l,p with
   | [a,b],_ =>
    obtain⟨q,rfl,P⟩:=h 0 k a (by rw[o];rfl) rfl g.1.symm;obtain⟨q',rfl,J⟩:=h 1 U b (by rw[o];rfl) rfl g.2.symm;exact⟨q,q',rfl,P,J⟩
  | [],g=>simp at g
  | [_],g=>simp at g
  |_ :: _ :: _ :: _,g=>simp at g
 refine⟨⟨fun j=>?_,fun j=>?_,fun j=>?_⟩,fun j=>t (.inl j),fun j=>t (.inr j),R⟩
 .obtain ⟨a,rfl,_⟩:=t (.inl j);exact⟨_,rfl⟩
 .obtain ⟨a,rfl,C⟩:=t (.inr j);exact⟨a,rfl,C.okK,C.ok2 I⟩
 .obtain ⟨a,b,rfl,C,hb⟩:=R j;exact⟨a,b,rfl,C.okK,hb.okK⟩
theorem jA{c}(I:okCk c):∀ m n s inn R,szN n<=m->WfN n->ScOk c.ts.sS.length s->exam c s inn n = .ok R->kd n.op=101->∃ k,R=some k/\okKd c.ts.sS.length k
 | 0,n,_,_,_,hm,_,_,_,_=>by obtain⟨op,nm,i,ks,p⟩:=n;simp[szN]at hm
 |m+1,n,s,inn,R,hm,o,T,h,U=>by
  have ho:=JV U;have a0:=I.ts.ns;rw[yI]at h;split at h
  .grind
  split at h
  .unfold yH at h
   split at h
   .rename_i v r hf
    simp only[jN]at h;exact⟨v.2,h.symm,(T v (mE hf)).1⟩
   .split at h
    .grind
    .rename_i k t
     simp only[jN]at h;exact⟨k,h.symm,qj7 I.ts (by rw[t];simp)⟩
    grind
  split at h
  .omega
  split at h
  .rename_i hb
   have g:=o.shape;have e:shp n.op n.sD.length=some [101,102]:=by
    unfold shp;rw[zIn,zIn,zIn,if_pos zOm]
   rw[e]at g;simp only[qo]at g
   match t:n.sD,g with
   | [a,f],g =>
    simp at g;rw[t]at h;simp only[z7]at h;cases hq:exam c s (inn||decide (n.op=15)) a with
    |error e=>grind
    |ok q =>
     obtain⟨k,rfl,a6⟩:=jA I m a s _ q (by have:=zf (n:=n) (k:=a) (by rw[t];simp);omega) (o.kid (by rw[t];simp)) T hq g.1.symm
     grind
   | [],g=>simp at g
   | [_],g=>simp at g
   |_ :: _ :: _ :: _,g=>simp at g
  .rename_i n1 a7 nb
   cases hl:qL c s (inn||decide (n.op=12)||decide (n.op=13)) n.sD with
   |error e=>grind
   |ok l =>
    rw[hl]at h;simp only at h;obtain⟨C,a3⟩:=ZK hl;obtain⟨_,a5,a1,a2⟩:=XV (ns:=c.ts.sS.length) a0 o C (fun i k a hi J a4=>jA I m k s _ a (zW1 (zf (n:=n) (qQ hi))) (o.kid (qQ hi)) T (a3 i k a hi J) a4);unfold zy at h;split at h
    .rename_i h2
     simp only[jN]at h;exact⟨_,h.symm,qj1 (o.num h2)⟩
    split at h
    .grind [jN,XU]
    split at h
    .grind [jN,XU]
    have j:n.op=5\/(n.op=11\/n.op=12\/n.op=13)\/(n.op=6\/n.op=14\/n.op=7\/n.op=8\/n.op=32\/n.op=33\/n.op=9\/n.op=10):=zOm;rcases j with h5|h1|h2
    .obtain ⟨a,rfl,J⟩:=a5 h5
     simp only[if_pos h5,jN]at h
     grind
    .obtain ⟨a,rfl,J⟩:=a1 h1
     have n5:n.op≠5:=zOm;simp only[if_neg n5,if_pos h1]at h
     grind [jN,qj6,absurd]
    .obtain ⟨a,b,rfl,J,hb⟩:=a2 h2
     simp only at h;split at h
     .grind [jN,qj3,absurd]
     grind [jN,JT,absurd,qj4]
end
end P2
namespace EA
end EA
namespace GA
theorem qj9{a:List Int}(h:a.Pairwise (·<·)):a.Nodup:=h.imp fun h=>by omega
theorem mF:∀{a b:List Int},a.Pairwise (·<·)->b.Pairwise (·<·)->(∀ x,x∈a↔x∈b)->a=b
 | [],[],_,_,_=>rfl
 | [],y :: b,_,_,h=>absurd ((h y).2 zSp) zSp
 |x :: a,[],_,_,h=>absurd ((h x).1 zSp) zSp
 |x :: a,y :: b,j,l,h=>by
  rw[wI]at j l;have e:x=y:=by
   have o:=(h x).1 zSp;have p:=(h y).2 zSp;rcases qy.1 o with e|o
   .exact e
   .rcases qy.1 p with e|p
    .exact e.symm
    .have:=l.1 x o;have:=j.1 y p;omega
  subst e;congr 1;refine mF j.2 l.2 fun z=>?_
  have C:=h z;constructor
  .intro g
   rcases qy.1 (C.1 (qN _ g)) with e|t
   .subst e;have:=j.1 z g;omega
   .exact t
  .intro i
   rcases qy.1 (C.2 (qN _ i)) with e|t
   .subst e;have:=l.1 z i;omega
   .exact t
section
variable {α:Type} {f:α->α->Int} {P:α->Prop}
end
end GA
namespace GB
structure Ed where
 kind:Int
 state:Int
 field:Int
 tup:Int
def noR:Rl:=⟨0,[]⟩
end GB
namespace GC
end GC
namespace EL
open E1
theorem mG(n)(t:0<=n)(C:n<=20)(k:Nat)(R:k<=3):qg qc 123 [aI n,aI k] (aI (n ^ k)):=by
 refine qSU call123 func123 rfl ?_;refine qk.up k (fun i U=>U.tm 0=aI n/\U.tm 5=aI (n ^ i)/\U.tm 6=aI k/\U.tm 7=aI i/\U.mu=[]) ?_ ?_
 .simp [go_sem]
 rintro i U T ⟨I,l,o,e7,p⟩;by_cases g:i<k
 .have J:=Yl t C (i+1) zOm
  have P:=zWk i;rw[Int.pow_succ]at J;have w2:ql.wrap (n ^ i*n)=n ^ i*n:=zWr;simp[go_sem,I,l,o,e7,p,g,P,w2];rw[Int.pow_succ]
 .have j:i=k:=by omega
  subst j;simp[go_sem,l,o,e7,p];exact .zsc _
theorem idenU(n:Nat)(hn:n<=20):qg qc 83 [aI n] (eRel (idR n)):=by
 refine qSU call83 func83 rfl ?_;refine tV (fun m U=>∃ k t g,m=n-k/\k<=n/\U.tm 0=aI n/\U.tm 2 = .ptr 0 0/\U.tm 3 = .ptr 1 0/\U.tm 6=aI n/\U.tm 7=aI (k:Nat)/\U.mu=[.arr [aI 0,.lst true []],.arr [aI 2,t]]++g/\OwnF 2 ([.dead,.dead]++g) 1 t (((qs k).map fun x:Nat=>(x:Int)*n+x).map rI)) n ?_ ?_
 .exact ⟨0,.lst true [],[],zOm,zOm,zSi,zSi,zSi,zSi,zSi,zSi,by simpa using OwnF.nil zSp⟩
 rintro m U ⟨k,t,g,rfl,hk,e0,e2,I,J,e7,hm,C⟩;have C:=C.low (low:=[.dead,.dead]) (low':=[.arr [aI 0,.lst true []],.arr [aI 2,t]]) rfl;by_cases P:k<n
 .have hp:0<=(k:Int)*n/\(k:Int)*n<=400:=⟨Int.mul_nonneg zOm zOm,by have:(k:Int)*n<=20*20:=jl zOm zOm zOm zOm;omega⟩
  have w1:ql.wrap ((k:Int)*n)=(k:Int)*n:=zWr;have w2:ql.wrap ((k:Int)*n+k)=(k:Int)*n+k:=zWr;have w3:=zWk k;simp[go_sem,e0,I,J,e7,P,hm,w1,w2];refine fU (low:=[.arr [aI 0,.lst true []],.arr [aI 2,t]]) (e:=3) (bt:=8) (z:=0) (xs:=(qs k).map fun x:Nat=>(x:Int)*n+x) (ys:=[(k:Int)*n+k]) zSi zSi zSi zOm C (by simp[qA]) zSo ?_;intro R j o;simp[go_sem,I,e7,w3,o.cells,o.one];refine Keep.loop (n-(k+1)) zOm ⟨k+1,R,j,rfl,zOm,zS1 e0,zS1 e2,zS1 I,zS1 J,zSi,zSi,?_⟩;rw[List.range_succ,zx];simpa using o.low (low':=[.dead,.dead]) rfl
 .have T:k=n:=by omega
  subst T;simp[go_sem,e2,I,J,e7,hm,C.one];exact Rd.rel (r:=idR k) (C.low (low:=[.arr [aI 0,.lst true []],.arr [aI 2,t]]) (low':=[.arr [aI 2,t],.arr [aI 2,t]]) rfl).rdI
end EL
namespace EJ
open E1
section
variable {g:Type}
def jU(p:g->g->Bool):g->List g->List g
 |_,[]=>[]
 |x,y :: l=>if p y x=true then jU p y l else y :: jU p y l
def cmpc(p:g->g->Bool):List g->List g
 | []=>[]
 |x :: l=>x :: jU p x l
theorem mH(p):∀(l)(x y:g),jU p x (l++[y])=jU p x l++(if p y ((x :: l).getLast zSp)=true then [] else [y])
 | [],x,y=>by
  by_cases i:p y x=true<;>simp[jU,i]
 |z :: l,x,y=>by
  have j:=mH p l z y;have e:(x :: z :: l).getLast zSp=(z :: l).getLast zSp:=List.getLast_cons zSp;simp only[yL,jU,e,j];split
  .rfl
  .rfl
theorem mI{j}(p)(l:List j)(k)(I:1<=k)(C):cmpc p (l.take (k+1))=cmpc p (l.take k)++(if p l[k] (l[k-1]' zOm)=true then [] else [l[k]]):=by
 have o:l.take (k+1)=l.take k++[l[k]]:=by rw[List.take_add_one,qB C];rfl
 have g:∀(q:l.take k≠[]),(l.take k).getLast q=l[k-1]' zOm:=by
  intro q;rw[List.getLast_eq_getElem,List.getElem_take];congr 1;simp;omega
 rw[o];cases t:l.take k with
 |nil =>
  have i:=congrArg List.length t;rw[ub,List.length_nil]at i;omega
 |cons x r =>
  have:=g (by rw[t];simp);simp only[t]at this;simp only[yL,cmpc,mH,this]
abbrev eqI:Int->Int->Bool:=fun y x=>decide (y=x)
theorem XW:∀ l x,(x :: l).Pairwise (·<=·)->zq (x :: jU eqI x l)/\∀ t,t∈x :: jU eqI x l↔t∈x :: l
 | [],x,_=>⟨List.pairwise_singleton _ _,fun t=>Iff.rfl⟩
 |y :: l,x,h=>by
  obtain⟨C,g⟩:=wI.1 h;have I:=C y (qZ ..);by_cases e:y=x
  .have j:jU eqI x (y :: l)=jU eqI y l:=by simp[jU,e]
   rw[j,e];have J:(x :: l).Pairwise (·<=·):=by rw[e]at g;exact g
   obtain⟨o,i⟩:=XW l x J;refine⟨o,fun t=>?_⟩;rw[i];simp
  .have j:jU eqI x (y :: l)=y :: jU eqI y l:=by simp[jU,e]
   rw[j];obtain⟨o,i⟩:=XW l y g;refine⟨wI.2 ⟨fun t p=>?_,o⟩,fun t=>?_⟩
   .rcases qy.1 ((i t).1 p) with rfl|p
    .omega
    .have:=(wI.1 g).1 t p;omega
   .rw [qy,i,qy (l:=y :: l)]
theorem qkA(l)(h:l.Pairwise (·<=·)):zq (cmpc eqI l)/\∀ t,t∈cmpc eqI l↔t∈l:=by
 cases l with
 |nil=>exact⟨List.Pairwise.nil,fun t=>Iff.rfl⟩
 |cons x l=>exact XW l x h
theorem qkB(l):(srtI l).Pairwise (·<=·):=by
 have:=List.pairwise_mergeSort (le:=fun x y:Int=>decide (x<=y)) (fun a b c g i=>by simp at *;omega) (fun a b=>zSo) l;exact this.imp fun h=>zUs h
theorem qkC(l t):t∈srtI l↔t∈l:=(List.mergeSort_perm l _).mem_iff
theorem qkD(l):cmpc eqI (srtI l)=ofL l:=by
 obtain⟨g,i⟩:=qkA _ (qkB l);obtain⟨j,o⟩:=vO l;exact Us g j fun t=>by rw[i,o,qkC]
end
end EJ
namespace EM
theorem sortE{mu b zs}(i:mu[b]?=some (.arr (zs.map aI)))(p:zs.length<=1000000000) :
  qv qc 226 [.sl b 1 0 zs.length] mu fun e m=>e = .ret (.tup [])/\m=mu.set b (.arr ((srtI zs).map aI)):=by
 have:=qjC (P:=qc) call226 (fun g off cap zs w j l o=>Tryz.slices_Sort_int g off cap zs w j l o) (mu:=mu) (b:=b) (off:=0) (cells:=zs.map aI) (zs:=zs) i
  (fun k n h=>by rw[Nat.zero_add,zB,h];rfl) zOm zSp
 have e:putCells (zs.map aI) 0 ((srtI zs).map fun n => .sc (.int .i64 n))=(srtI zs).map aI:=by
  rw[y7 _ _ _ (by simp[JN])];simp[JN]
 rw[e]at this;exact this
end EM
end Go.Proofs.YtlnbdknjkmmgbaaGreatDoor
namespace Go.Ev
open Go Go.RowKit
@[go_sem ↓] theorem qvT(P pl det i ev mu K j l g):qF P pl det i (.call ⟨.builtin .clear,l.toArray,g⟩) ev mu K j=uu P mu .clear g (evs ev l) K:=eqS rfl
theorem qkE{P mu K t e sz bt b off len cells zv}(o:qH P t=some (e,sz,bt))(p:qC P e=some zv)(g:zv.cells.length=sz)(j:zv.cells.all AV.one=true)(l:sz≠0)
  (C:mu[b]?=some (.arr cells)) (I:off+len*sz<=cells.length) (J:0<len) (k:K (.tup []) (mu.set b (.arr (putCells cells off ((qs (len*sz)).map fun i=>zv.cells.getD (i % sz) .any))))):uu P mu .clear #[t] [.sl b sz off len] K:=
 ⟨_,_,.clear o p g j l C I J,k⟩
end Go.Ev
namespace Go.Proofs.YtlnbdknjkmmgbaaGreatDoor
open Go Go.Ev Go.Proofs Tryz
namespace EN
open EJ
theorem XX{mu:Mu}{b c}(h:mu[b]?=some c):mu.set b c=mu:=by
 obtain⟨i,g⟩:=qh.1 h;rw[<-g];simp
theorem Uw(l:List Int)(i h):List.take 1 (List.drop i (l.map aI))=[aI l[i]]:=by
 grind [zg]
theorem qkF(mu b g)(hl:g.length<=1000000)(hb:mu[b]?=some (.arr (g.map aI))) :
  qv qc 227 [.sl b 1 0 g.length] mu fun e m=>∃ cells,e = .ret (.sl b 1 0 (cmpc eqI g).length)/\m=mu.set b (.arr cells)/\cells.length=g.length/\cells.take (cmpc eqI g).length=(cmpc eqI g).map aI:=by
 refine qSW call227 func227 rfl {} ?_;simp[go_sem];by_cases h2:g.length<2
 .have hc:cmpc eqI g=g:=by
   match g,h2 with
   | [],_=>rfl
   | [x],_=>rfl
   |_ :: _ :: _,h=>grind
  simp[go_sem,show (g.length:Int)<2 by omega];rw[hc];exact⟨rfl,g.map aI,(XX hb).symm,zSp,by rw[zY zSp]⟩
 simp[go_sem,show ¬(g.length:Int)<2 by omega];refine tV (fun m U=>∃ k,m=g.length-k/\1<=k/\k<=g.length/\U.tm 0 = .sl b 1 0 g.length/\U.tm 3=aI (k:Nat)/\U.mu=mu/\cmpc eqI (g.take k)=g.take k) (g.length-1) ?_ ?_
 .refine ⟨1,zOm,zOm,zOm,zSi,zSi,zSi,?_⟩
  match g,h2 with
  | [],h=>simp at h
  |x :: l,_=>simp[cmpc,jU]
 rintro m U ⟨k,rfl,a6,hk,e0,e3,hm,hi⟩;by_cases p:k<g.length
 .have hw:ql.wrap ((k:Int)-1)=((k-1:Nat):Int):=by grind [yi]
  have C:k-1<g.length:=zOm;have r1:=Uw g k p;have r2:=Uw g (k-1) C;have g1:k+1<=g.length:=p;have g2:k-1+1<=g.length:=C;have o:=mI eqI g k a6 p;rw[hi]at o;simp[go_sem,e0,e3,hm,p];refine tR zKr ?_;by_cases hp:g[k]=g[k-1]
  .simp [go_sem,e0,e3,p,hb,hw,C,hp,r1,r2,g1,g2]
   rw[if_pos (zUs hp),yg]at o;simp[go_sem,hk];refine tV (fun m2 st2=>∃(j i:Nat) (cur:List Int),m2=g.length-(k+j)/\1<=j/\k+j<=g.length/\st2.tm 0 = .sl b 1 0 g.length/\st2.tm 3=aI (i:Nat)/\st2.tm 4 = .sl b 1 k (g.length-k)/\st2.tm 5=aI (j:Nat)/\cur.length=g.length/\st2.mu=mu.set b (.arr (cur.map aI))/\i=(cmpc eqI (g.take (k+j))).length/\i<=k+j-1/\cur.take i=cmpc eqI (g.take (k+j))/\cur.drop (k+j-1)=g.drop (k+j-1)) (g.length-(k+1)) ?_ ?_
   .refine ⟨1,k,g,zOm,zOm,zOm,zS1 e0,zS1 e3,zSi,zSi,rfl,?_,?_,zOm,?_,rfl⟩
    .simp_all [go_sem,XX]
    .grind
    grind
   rintro m2 st2 ⟨j,i,cur,rfl,ag,hj,f0,f3,f4,f5,a1,a2,I,ah,J,T⟩;have a0:b<mu.length:=(qh.1 hb).1;by_cases P:j<g.length-k
   .have a7:k+j<g.length:=by omega
    have c1:cur[k+j]' zOm=g[k+j]:=by
     have:=congrArg (fun l=>l[1]?) T
     grind
    have c2:cur[k+j-1]' zOm=g[k+j-1]:=by
     have:=congrArg (fun l=>l[0]?) T;simp only[uO,Nat.add_zero]at this
     grind
    have r1:=Uw cur (k+j) zOm;have r2:List.take 1 (List.drop (k+(j-1)) (cur.map aI))=[aI (g[k+j-1]' zOm)]:=by rw[show k+(j-1)=k+j-1 by omega,Uw cur (k+j-1) zOm,c2]
    rw[c1]at r1;have a3:ql.wrap ((j:Int)-1)=((j-1:Nat):Int):=by rw[zWr];omega
    have a4:ql.wrap ((j:Int)+1)=((j+1:Nat):Int):=by rw[zWr];omega
    have g3:j-1<g.length-k:=zOm;have g4:k+j+1<=cur.length:=zOm;have g5:k+(j-1)+1<=cur.length:=zOm;have t:=mI eqI g (k+j) zOm a7;have a5:cur.drop (k+j)=g.drop (k+j):=by
     have:=congrArg (List.drop 1) T;rw[List.drop_drop,List.drop_drop,show k+j-1+1=k+j by omega]at this;exact this
    simp[go_sem,f4,f5,a2,P];refine tR zKr ?_;by_cases R:g[k+j]=g[k+j-1]
    .rw [if_pos (zUs R),yg]at t
     simp[go_sem,f4,f5,P,a0,r1,r2,a3,a4,g3,g4,g5,R];refine Keep.loop (g.length-(k+(j+1))) zOm ⟨j+1,i,cur,rfl,zOm,zOm,zS1 f0,zS1 f3,zS1 f4,zSi,a1,zSi,?_,zOm,?_,?_⟩
     .rw [show k+(j+1)=k+j+1 by omega,t];exact I
     .rw [show k+(j+1)=k+j+1 by omega,t];exact J
     .rw [show k+(j+1)-1=k+j by omega];exact a5
    .rw [if_neg (zUs R)]at t
     have a8:i<g.length:=zOm;have a9:i+1<=cur.length:=zOm;have af:i<cur.length:=zOm;have aa:ql.wrap ((i:Int)+1)=((i+1:Nat):Int):=by rw[zWr];omega
     simp[go_sem,f0,f3,f4,f5,P,a0,r1,r2,a3,a4,aa,g3,g4,g5,R,a8,a9];refine Keep.loop (g.length-(k+(j+1))) zOm ⟨j+1,i+1,cur.set i g[k+j],rfl,zOm,zOm,zS1 f0,zSi,zS1 f4,zSi,zP1 a1,?_,?_,zOm,?_,?_⟩
     .simp [go_sem,List.map_set]
     .rw [show k+(j+1)=k+j+1 by omega,t,zh];simp;omega
     .rw [show k+(j+1)=k+j+1 by omega,t,<-J,List.take_add_one,qz zOm,List.take_set_of_le zOm];rfl
     .rw [show k+(j+1)-1=k+j by omega,List.drop_set_of_lt zOm];exact a5
   .have ab:k+j=g.length:=by omega
    rw[ab,zi]at I J;simp[go_sem,f0,f3,f4,f5,a2,P,show i<g.length by omega,show i<=g.length by omega];refine qkE (e:=3) (bt:=8) (zv:=aI 0) (cells:=cur.map aI) zSi zSi rfl rfl zOm (zP1 a0) zSo zOm ?_;have hZ:∀ zs:List AV,zs.length=g.length-i->(putCells (cur.map aI) i zs).length=g.length/\(putCells (cur.map aI) i zs).take i=(cur.map aI).take i:=by
     intro zs hz;rw[y7 _ _ _ zSo];refine⟨zSo,?_⟩;rw[zG,List.take_append,ub,Nat.min_eq_left zSo,Nat.sub_self,List.take_zero,yg,List.take_take,Nat.min_self]
    have hz:=hZ ((qs ((g.length-i)*1)).map fun j=>(aI 0).cells.getD (j % 1) .any) zSp;generalize putCells (cur.map aI) i _=Z at hz⊢;simp[go_sem,f0,f3,show i<=g.length by omega];refine⟨I,Z,rfl,hz.1,?_⟩;rw[<-I,hz.2,<-List.map_take,J]
  .rw [if_neg (zUs hp)]at o
   have ad:g.take (k+1)=g.take k++[g[k]]:=by rw[List.take_add_one,qB p];rfl
   simp[go_sem,e0,e3,p,hb,hw,C,hp,r1,r2,g1,g2];refine Keep.loop (g.length-(k+1)) zOm ⟨k+1,rfl,zOm,zOm,zS1 e0,?_,zSi,by rw[o,ad]⟩;simp[go_sem];exact zWr
 .have ae:k=g.length:=by omega
  subst ae;rw[zi]at hi;simp[go_sem,e0,e3,hm];rw[hi];exact⟨rfl,g.map aI,(XX hb).symm,zSp,by rw[zY zSp]⟩
end EN
namespace E4
open E1
theorem qkG(n k)(J:0<=n)(P:n<=20):qg qc 133 [aI n,aI k] (aI (powI n k)):=by
 refine qSU call133 func133 rfl ?_;refine qk.up (powN k) (fun i U=>U.tm 0=aI n/\U.tm 1=aI k/\U.tm 5=aI (n ^ i)/\U.tm 6=aI i/\U.mu=[]) ?_ ?_
 .simp [go_sem]
 rintro i U hi ⟨R,o,p,t,C⟩;by_cases g:i<powN k
 .have l:(i:Int)<k:=by unfold powN at g;omega
  have I:(i:Int)<3:=by unfold powN at g;omega
  have T:=Yl J P (i+1) zOm;rw[Int.pow_succ]at T;simp[go_sem,R,o,p,t,C,l,I];refine⟨g,?_,zWr⟩;rw[Int.pow_succ,zWr]
 .have j:i=powN k:=by omega
  by_cases l:(i:Int)<k
  .have I:¬(i:Int)<3:=by unfold powN at g;omega
   simp[go_sem,o,p,t,C,l,I];rw[powI,j];exact .zsc _
  .simp [go_sem,o,p,t,C,l]
   rw[powI,j];exact .zsc _
theorem mJ(n r)(hl:r.ts.length<=9223372036854775807):qg qc 66 [aI n,eRel r] (aB (jz n r)):=by
 refine qSV call66 func66 rfl ?_;by_cases R:n<0
 case pos =>
  simp[go_sem,R,jz,show ¬ 0<=n by omega];exact .zsc _
 by_cases o:12<n
 case pos =>
  simp[go_sem,R,o,jz,show ¬n<=12 by omega];exact .zsc _
 by_cases h3:r.ar<1
 case pos =>
  simp[go_sem,R,o,h3,jz,show ¬ 1<=r.ar by omega];exact .zsc _
 by_cases h4:3<r.ar
 case pos =>
  simp[go_sem,R,o,h3,h4,jz,show ¬r.ar<=3 by omega];exact .zsc _
 simp[go_sem,R,o,h3,h4];refine qk.up r.ts.length (fun k U=>U.tm 0=aI n/\U.tm 3 = .ip [aI r.ar,lI r.ts]/\U.tm 5=aI k/\U.mu=[]/\∀(i:Nat)(h:i<r.ts.length),i<k->0<=r.ts[i]/\r.ts[i]<powI n r.ar/\(0<i->r.ts[i-1]<r.ts[i])) ?_ ?_
 .simp [go_sem]
 rintro k U hk ⟨e0,I,J,hm,he⟩;by_cases g:k<r.ts.length
 .have p:¬(0<=r.ts[k]/\r.ts[k]<powI n r.ar)->jz n r=false:=by
   intro C;have:r.ts.all (fun t=>decide (0<=t)&&decide (t<powI n r.ar))=false:=by
    rw[<-Bool.not_eq_true,q8];intro j;have:=j _ (qt g);simp at this;exact C this
   simp only[jz,this,Bool.and_false,Bool.false_and]
  have T:0<k->¬(r.ts[k-1]<r.ts[k])->jz n r=false:=by
   intro hk C;have:¬zq r.ts:=fun h=>C (Ur h zOm g)
   simp only[jz,this,decide_false,Bool.and_false]
  have hw:0<k->ql.wrap ((k:Int)-1)=((k-1:Nat):Int):=fun h=>by rw[zWr];omega
  have next:0<=r.ts[k]->r.ts[k]<powI n r.ar->(0<k->r.ts[k-1]<r.ts[k])->k<r.ts.length/\ql.wrap ((k:Int)+1)=(k:Int)+1/\∀(i:Nat)(h:i<r.ts.length),i<k+1->0<=r.ts[i]/\r.ts[i]<powI n r.ar/\(0<i->r.ts[i-1]<r.ts[i]):=by
   intro n1 n2 n3;refine⟨g,zWr,fun i h P=>?_⟩;rcases Jm.1 P with o|o
   .exact he i h o
   .subst o;exact⟨n1,n2,n3⟩
  simp[go_sem,I,J,hm,g];refine tR zKr ?_;simp[go_sem,I,J,g];by_cases ha:r.ts[k]<0
  .simp [go_sem,ha]
   rw[p zOm];exact .zsc _
  simp[go_sem,e0,I,J,g,ha];refine tU (qkG n r.ar zOm zOm) (.zs (.zs .nil)) ?_;by_cases C:powI n r.ar<=r.ts[k]
  .simp [go_sem,C]
   rw[p zOm];exact .zsc _
  by_cases l:0<k
  .have hw:=hw l
   have a0:k-1<r.ts.length:=zOm;by_cases hc:r.ts[k]<=r.ts[k-1]
   .simp [go_sem,I,J,g,C,l,hw,a0,hc]
    rw[T l zOm];exact .zsc _
   .simp [go_sem,e0,I,J,g,C,l,hw,a0,hc]
    exact(next zOm zOm (fun _=>zOm)).2
  .simp [go_sem,e0,I,J,g,C,l]
   exact(next zOm zOm (fun _=>zOm)).2
 .have a1:k=r.ts.length:=by omega
  subst a1;have j:r.ts.all (fun t=>decide (0<=t)&&decide (t<powI n r.ar))=true:=by
   rw[q8];intro t ht;obtain⟨i,P,rfl⟩:=Vz ht;have:=he i P P;simp;omega
  have a2:zq r.ts:=qjN fun i P=>by simpa using (he (i+1) P P).2.2 zOm
  simp[go_sem,I,J,hm];simp only[jz,j,a2,show 0<=n by omega,show n<=12 by omega,show 1<=r.ar by omega,show r.ar<=3 by omega];exact .zsc _
theorem mK(r x)(hl:r.ts.length<=1000000000)(hs:zq r.ts):qg qc 57 [eRel r,aI x] (aB (decide (x∈r.ts))):=by
 refine qSU call57 func57 rfl ?_;refine tV (fun n U=>∃ j g:Nat,n=g-j/\U.tm 1=aI x/\U.tm 2 = .ip [aI r.ar,lI r.ts]/\U.tm 5=aI j/\U.tm 6=aI g/\U.mu=[]/\j<=g/\g<=r.ts.length/\(∀(i:Nat)(h:i<r.ts.length),i<j->r.ts[i]<x)/\(∀(i:Nat)(h:i<r.ts.length),g<=i->x<=r.ts[i])) r.ts.length ?_ ?_
 .exact ⟨0,r.ts.length,zOm,zSi,zSi,zSi,zSi,zSi,zOm,zOm,fun i h h'=>zOm,fun i h h'=>zOm⟩
 rintro n U ⟨j,g,hn,J,C,P,R,T,a4,a5,I,a0⟩;by_cases a1:j<g
 .have hw:ql.wrap (ql.wrap ((j:Int)+g) / 2)=(((j+g) / 2:Nat):Int):=by
   rw[yi (n:=(j:Int)+g) zOm zOm,zWr];omega
  have a2:(ql.wrap ((j:Int)+g)).tdiv 2=ql.wrap ((j:Int)+g) / 2:=Int.tdiv_eq_ediv_of_nonneg (by rw[zWr];omega);have l:(j+g) / 2<r.ts.length:=zOm;generalize a6:(j+g) / 2=mid at *
  by_cases hb:r.ts[mid]<x
  .simp [go_sem,J,C,P,R,T,a1,a2,hw,l,hb]
   refine Keep.loop (g-(mid+1)) zOm ⟨mid+1,g,rfl,zS1 J,zS1 C,?_,zS1 R,zSi,zOm,zOm,fun i h h'=>?_,a0⟩
   .simp [go_sem]
    exact zWr
   .rcases Nat.lt_or_ge i mid with t|t
    .exact Int.lt_trans (Ur hs t l) hb
    .have:i=mid:=by omega
     subst this;exact hb
  .simp [go_sem,J,C,P,R,T,a1,a2,hw,l,hb]
   refine Keep.loop (mid-j) zOm ⟨j,mid,rfl,zS1 J,zS1 C,zS1 P,zSi,zSi,zOm,zOm,I,fun i h h'=>?_⟩;rcases Nat.lt_or_ge mid i with t|t
   .have:=Ur hs t h;omega
   .have:i=mid:=by omega
    subst this;omega
 .have a3:g=j:=by omega
  subst a3;by_cases o:g<r.ts.length
  .by_cases he:r.ts[g]=x
   .simp [go_sem,J,C,P,R,T,o,he]
    have:x∈r.ts:=he ▸ qt o;simp[this];exact .zsc _
   .simp [go_sem,J,C,P,R,T,o,he]
    have:¬x∈r.ts:=fun h=>by
     obtain⟨i,p,rfl⟩:=Vz h;rcases Nat.lt_or_ge i g with t|t
     .have:=I i p t;omega
     .rcases Nat.lt_or_ge g i with h4|h4
      .have:=Ur hs h4 p
       have:=a0 g o zOm;omega
      .have:i=g:=by omega
       subst this;exact he rfl
    simp[this];exact .zsc _
  .simp [go_sem,C,P,R,T,o]
   have:¬x∈r.ts:=fun h=>by
    obtain⟨i,p,rfl⟩:=Vz h;have:=I i p zOm;omega
   simp[this];exact .zsc _
theorem qkH(a b)(hl:a.ts.length<=1000000000)(a1:b.ts.length<=1000000000)(hs:zq b.ts):qg qc 107 [eRel a,eRel b] (eRel ⟨a.ar,a.ts.filter (fun t=>decide (¬t∈b.ts))⟩):=by
 refine qSU call107 func107 rfl ?_;refine tV (fun m U=>∃ k j g,m=a.ts.length-k/\k<=a.ts.length/\U.tm 2 = .ip [aI a.ar,lI a.ts]/\U.tm 3 = .ip [aI b.ar,lI b.ts]/\U.tm 4 = .ptr 0 0/\U.tm 5 = .ptr 1 0/\U.tm 6=aI (k:Nat) /\
  U.mu=[.arr [aI 0,.lst true []],.arr [aI a.ar,j]]++g/\OwnF 2 ([.dead,.dead]++g) 1 j (((a.ts.take k).filter (fun t=>decide (¬t∈b.ts))).map rI)) a.ts.length ?_ ?_
 .exact ⟨0,.lst true [],[],zOm,zOm,zSi,zSi,zSi,zSi,zSi,zSi,by simpa using OwnF.nil zSp⟩
 rintro m U ⟨k,j,g,rfl,hk,P,e3,e4,T,R,hm,C⟩;have C:=C.low (low:=[.dead,.dead]) (low':=[.arr [aI 0,.lst true []],.arr [aI a.ar,j]]) rfl;by_cases o:k<a.ts.length
 .simp [go_sem,P,R,o]
  refine tR zKr ?_;simp[go_sem,P,e3,R,o];refine tU (mK b a.ts[k] a1 hs) (.zk (qx b) (.zs .nil)) ?_;have a0:a.ts.take (k+1)=a.ts.take k++[a.ts[k]]:=by rw[List.take_add_one,qB o];rfl
  by_cases hb:a.ts[k]∈b.ts
  .simp [go_sem,R,hb]
   refine Keep.loop (a.ts.length-(k+1)) zOm ⟨k+1,j,g,rfl,zOm,zS1 P,zS1 e3,zS1 e4,zS1 T,?_,zS1 hm,?_⟩
   .simp [go_sem];exact zWr
   .rw [a0,List.filter_append];simpa[go_sem,hb] using C.low (low':=[.dead,.dead]) rfl
  .simp [go_sem,hb]
   refine tR zKr ?_;simp[go_sem,P,T,R,o,hm];refine fU (low:=[.arr [aI 0,.lst true []],.arr [aI a.ar,j]]) (e:=3) (bt:=8) (z:=0) (xs:=(a.ts.take k).filter (fun t=>decide (¬t∈b.ts))) (ys:=[a.ts[k]]) zSi zSi zSi zOm C (by simp[qA]) ?_ ?_
   .have:=List.length_filter_le (fun t=>decide (¬t∈b.ts)) (a.ts.take k)
    have:=List.length_take_le k a.ts;have h3:[a.ts[k]].length=1:=rfl;omega
   intro a2 I J;simp[go_sem,T,R,J.cells,J.one];refine Keep.loop (a.ts.length-(k+1)) zOm ⟨k+1,a2,I,rfl,zOm,zS1 P,zS1 e3,zS1 e4,zS1 T,?_,zSi,?_⟩
   .simp [go_sem];exact zWr
   .rw [a0,List.filter_append]
    simpa[go_sem,hb] using J.low (low':=[.dead,.dead]) rfl
 .have a3:k=a.ts.length:=by omega
  subst a3;simp[go_sem,P,e4,T,R,hm,C.one];rw[zi]at C;simp at C;exact Rd.rel (r:=⟨a.ar,a.ts.filter (fun t=>!decide (t∈b.ts))⟩) (C.low (low:=[.arr [aI 0,.lst true []],.arr [aI a.ar,j]]) (low':=[.arr [aI a.ar,j],.arr [aI a.ar,j]]) rfl).rdI
theorem in06(a b)(i:a.ts.length<=1000000000)(g:b.ts.length<=1000000000)(j:zq b.ts):qg qc 59 [eRel a,eRel b] (aB (inOk a b)):=by
 refine qSU call59 func59 rfl ?_;refine fR (qkH a b i g j) (.zk (qx a) (.zk (qx b) .nil)) ?_;have e:inOk a b=decide (∀ t,t∈a.ts->t∈b.ts):=by
  rw[Bool.eq_iff_iff];simp[inOk]
 rw[e];exact .zsc _
theorem qkI(a b)(ha:a.length<=9223372036854775807):qg qc 277 [lI a,lI b] (aB (decide (a=b))):=by
 refine qSV call277 func277 rfl ?_;by_cases p:a.length=b.length
 case neg =>
  simp[go_sem,p];rw[decide_eq_false (by rintro rfl;exact p rfl)];exact .zsc _
 simp[go_sem,p];refine qk.up a.length (fun k U=>U.tm 0=lI a/\U.tm 1=lI b/\U.tm 12=aI a.length/\U.tm 13=aI k/\U.mu=[]/\∀(i:Nat)(h:i<a.length)(t:i<b.length),i<k->a[i]=b[i]) ?_ ?_
 .simp [go_sem,p]
 rintro k U hk ⟨P,R,j,l,T,he⟩;by_cases o:k<a.length
 .have g:k<b.length:=by omega
  simp[go_sem,j,l,T,o]
  try refine tR zKr ?_
  by_cases C:a[k]=b[k]
  .simp [go_sem,P,R,j,l,o,g,C]
   refine⟨zWr,fun i h t hi=>?_⟩;rcases Jm.1 hi with I|I
   .exact he i h t I
   .subst I;exact C
  .simp [go_sem,P,R,o,g,C]
   rw[decide_eq_false (by rintro rfl;simp at C)];exact .zsc _
 .have J:k=a.length:=by omega
  subst J;simp[go_sem,j,l,T];rw[decide_eq_true (List.ext_getElem p fun i h t=>he i h t h)];exact .zsc _
theorem mL(a b)(j:a.ts.length<=9223372036854775807):qg qc 262 [eRel a,eRel b] (aB (decide (a=b))):=by
 have g:(a=b)=(a.ar=b.ar/\a.ts=b.ts):=by cases a;cases b;simp
 refine qSV call262 func262 rfl ?_;by_cases i:a.ar=b.ar
 case neg =>
  simp[go_sem,i,g];exact .zsc _
 simp[go_sem,i];refine tU (qkI a.ts b.ts j) (.zk (zC _) (.zk (zC _) .nil)) ?_;simp[go_sem,i,g];exact .zsc _
theorem WK.ints{full}(l):WK (.lst full (l.map rI)) (lI l):=WK.lst fun r i c g=>by
 obtain⟨n,_,rfl⟩:=qn.1 i;simp at g;subst g;exact HF.sc _
theorem mM(a b)(hl:a.ts.length<=4611686018427387904):qg qc 11 [eRel a,eRel b] (aB (decide (a=b))):=by
 have o:(a=b)=(a.ar=b.ar/\a.ts=b.ts):=by cases a;cases b;simp
 refine qSV call11 func11 rfl ?_;by_cases p:a.ar=b.ar
 case neg =>
  simp[go_sem,p,o];exact .zsc _
 by_cases j:a.ts.length=b.ts.length
 case neg =>
  simp[go_sem,p,j];rw[decide_eq_false (by rintro rfl;exact j rfl)];exact .zsc _
 simp[go_sem,p,j];refine qk.up a.ts.length (fun k U=>U.tm 2 = .ip [aI a.ar,lI a.ts]/\U.tm 3 = .ip [aI b.ar,lI b.ts]/\U.tm 5=aI k/\U.mu=[]/\∀(i:Nat)(h:i<a.ts.length)(I:i<b.ts.length),i<k->a.ts[i]=b.ts[i]) ?_ ?_
 .simp [go_sem,p]
 rintro k U hk ⟨t,T,C,P,he⟩;by_cases g:k<a.ts.length
 .have l:k<b.ts.length:=by omega
  by_cases J:a.ts[k]=b.ts[k]
  .simp [go_sem,t,C,P,g]
   refine tR zKr ?_;simp[go_sem,t,T,C,g,l,J];refine⟨zWr,fun i h I hi=>?_⟩;rcases Jm.1 hi with j|j
   .exact he i h I j
   .subst j;exact J
  .simp [go_sem,t,C,P,g]
   refine tR zKr ?_;simp[go_sem,t,T,C,g,l,J];rw[decide_eq_false (by rintro rfl;exact J rfl)];exact .zsc _
 .have R:k=a.ts.length:=by omega
  subst R;simp[go_sem,t,C,P];rw[decide_eq_true (o ▸ ⟨p,List.ext_getElem j fun i h I=>he i h I h⟩)];exact .zsc _
theorem add06(l r)(hl:l.length<=1000000):qg qc 125 [lI l,aI r] (lI (addL l r)):=by
 refine qSU call125 func125 rfl ?_;refine qk.up l.length (fun k U=>U.tm 0=lI l/\U.tm 1=aI r/\U.tm 5=aI ((l.length-k:Nat):Int)/\U.mu=[]/\atN l r l.length=atN l r (l.length-k)) ?_ ?_
 .simp [go_sem]
 rintro k U hk ⟨o,t,C,I,he⟩;have J:l.length-k<=l.length:=zOm;have a9:l.length-(k+1)=l.length-k-1:=zOm;have aa:0<l.length-k->k<l.length:=zOm;generalize hn:l.length-k=n at *
 have g:atN l r l.length=n->addL l r=if l[n]?=some r then l else l.take n++[r]++l.drop n:=fun h=>by unfold addL;rw[h]
 by_cases ab:n=0
 .have g:=g (by rw[he,ab];rfl)
  have z1:¬ 0<n:=zOm;by_cases hc:l[n]?=some r
  .rw [if_pos hc]at g
   obtain⟨j,a2⟩:=qh.1 hc;simp[go_sem,o,t,C,I,z1,j,a2];rw[g];exact .hf _ (zC _)
  rw[if_neg hc]at g;have P:∀ h:n<l.length,¬l[n]=r:=fun h e=>hc (by rw[qB h,e])
  by_cases j:n<l.length
  .have P:=P j
   simp[go_sem,o,t,C,I,z1,j,P];refine⟨⟨_,_,⟨rfl,rfl⟩,(je l).ok⟩,?_⟩;simp only[if_pos J];simp[go_sem];refine qw.ints (lo:=0) (e:=3) (bt:=8) (z:=0) (xs:=[]) (ys:=l.take n) zSi zSi zSi zOm (OwnF.lit [] (uN _)) (by simp[qA]) zSo ?_;intro a3 a4 R _;simp[go_sem,o,t,C,I];refine qw.ints (lo:=0) (e:=3) (bt:=8) (z:=0) (xs:=l.take n) (ys:=[r]) zSi zSi zSi zOm R (by simp[qA]) zSo ?_;intro a5 a6 T _;simp[go_sem,o,t,C,I];refine⟨⟨_,_,⟨rfl,rfl⟩,(je l).ok⟩,?_⟩;simp only[if_pos J];simp[go_sem];refine qw.ints (lo:=0) (e:=3) (bt:=8) (z:=0) (xs:=l.take n++[r]) (ys:=l.drop n) zSi zSi zSi zOm T (by rw[zY zSp];simp[qA]) zSo ?_;intro a7 a8 a0 _;simp[go_sem,o,t,C,I];rw[g];exact a0.rdI
  .simp [go_sem,o,t,C,I,z1,j]
   refine⟨⟨_,_,⟨rfl,rfl⟩,(je l).ok⟩,?_⟩;simp only[if_pos J];simp[go_sem];refine qw.ints (lo:=0) (e:=3) (bt:=8) (z:=0) (xs:=[]) (ys:=l.take n) zSi zSi zSi zOm (OwnF.lit [] (uN _)) (by simp[qA]) zSo ?_;intro a3 a4 R _;simp[go_sem,o,t,C,I];refine qw.ints (lo:=0) (e:=3) (bt:=8) (z:=0) (xs:=l.take n) (ys:=[r]) zSi zSi zSi zOm R (by simp[qA]) zSo ?_;intro a5 a6 T _;simp[go_sem,o,t,C,I];refine⟨⟨_,_,⟨rfl,rfl⟩,(je l).ok⟩,?_⟩;simp only[if_pos J];simp[go_sem];refine qw.ints (lo:=0) (e:=3) (bt:=8) (z:=0) (xs:=l.take n++[r]) (ys:=l.drop n) zSi zSi zSi zOm T (by rw[zY zSp];simp[qA]) zSo ?_;intro a7 a8 a0 _;simp[go_sem,o,t,C,I];rw[g];exact a0.rdI
 have z1:0<n:=zOm;have a1:n-1<l.length:=zOm;have hw:ql.wrap ((n:Int)-1)=((n-1:Nat):Int):=by rw[zWr];omega
 have ad:atN l r n=if r<=l[n-1] then atN l r (n-1) else n:=by
  rw[<-j9 a1]
  conv=>lhs;rw[show n=(n-1)+1 by omega,atN]
  split
  .rfl
  .omega
 rw[ad]at he;by_cases hr:r<=l[n-1]
 .rw [if_pos hr]at he
  simp[go_sem,o,t,C,I,z1,hw,a1,hr];exact⟨aa z1,a9.symm,by rw[a9];exact he⟩
 .rw [if_neg hr]at he
  have g:=g he;by_cases hc:l[n]?=some r
  .rw [if_pos hc]at g
   obtain⟨j,a2⟩:=qh.1 hc;simp[go_sem,o,t,C,I,z1,hw,a1,hr,j,a2];rw[g];exact .hf _ (zC _)
  rw[if_neg hc]at g;have P:∀ h:n<l.length,¬l[n]=r:=fun h e=>hc (by rw[qB h,e])
  by_cases j:n<l.length
  .have P:=P j
   simp[go_sem,o,t,C,I,z1,hw,a1,hr,j,P];refine⟨⟨_,_,⟨rfl,rfl⟩,(je l).ok⟩,?_⟩;simp only[if_pos J];simp[go_sem];refine qw.ints (lo:=0) (e:=3) (bt:=8) (z:=0) (xs:=[]) (ys:=l.take n) zSi zSi zSi zOm (OwnF.lit [] (uN _)) (by simp[qA]) zSo ?_;intro a3 a4 R _;simp[go_sem,o,t,C,I];refine qw.ints (lo:=0) (e:=3) (bt:=8) (z:=0) (xs:=l.take n) (ys:=[r]) zSi zSi zSi zOm R (by simp[qA]) zSo ?_;intro a5 a6 T _;simp[go_sem,o,t,C,I];refine⟨⟨_,_,⟨rfl,rfl⟩,(je l).ok⟩,?_⟩;simp only[if_pos J];simp[go_sem];refine qw.ints (lo:=0) (e:=3) (bt:=8) (z:=0) (xs:=l.take n++[r]) (ys:=l.drop n) zSi zSi zSi zOm T (by rw[zY zSp];simp[qA]) zSo ?_;intro a7 a8 a0 _;simp[go_sem,o,t,C,I];rw[g];exact a0.rdI
  .simp [go_sem,o,t,C,I,z1,hw,a1,hr,j]
   refine⟨⟨_,_,⟨rfl,rfl⟩,(je l).ok⟩,?_⟩;simp only[if_pos J];simp[go_sem];refine qw.ints (lo:=0) (e:=3) (bt:=8) (z:=0) (xs:=[]) (ys:=l.take n) zSi zSi zSi zOm (OwnF.lit [] (uN _)) (by simp[qA]) zSo ?_;intro a3 a4 R _;simp[go_sem,o,t,C,I];refine qw.ints (lo:=0) (e:=3) (bt:=8) (z:=0) (xs:=l.take n) (ys:=[r]) zSi zSi zSi zOm R (by simp[qA]) zSo ?_;intro a5 a6 T _;simp[go_sem,o,t,C,I];refine⟨⟨_,_,⟨rfl,rfl⟩,(je l).ok⟩,?_⟩;simp only[if_pos J];simp[go_sem];refine qw.ints (lo:=0) (e:=3) (bt:=8) (z:=0) (xs:=l.take n++[r]) (ys:=l.drop n) zSi zSi zSi zOm T (by rw[zY zSp];simp[qA]) zSo ?_;intro a7 a8 a0 _;simp[go_sem,o,t,C,I];rw[g];exact a0.rdI
theorem aW{mu j ts full}:Rd mu (.agg [aI j,.lst full (ts.map rI)]) (eRel ⟨j,ts⟩):=by
 refine .agg _ _ rfl (fun k x y g i=>?_)
 match k with
 | 0=>simp at g i;subst g;subst i;exact .zsc _
 | 1=>simp at g i;subst g;subst i;exact .wk _ full _ (.hf _ (HF.lst fun r o c l=>by
   obtain⟨n,_,rfl⟩:=qn.1 o;simp at l;subst l;exact HF.sc _))
 |k+2=>simp at g
theorem of06(t ts)(P:ts.length<=100000):qg qc 58 [aI t,lI ts] (eRel ⟨t,ofL ts⟩):=by
 refine qSU call58 func58 rfl ?_;refine qk.up ts.length (fun k U=>U.tm 1=lI ts/\U.tm 4 = .ptr 0 0/\U.tm 5 = .ptr 1 0/\U.tm 6=aI k/\∃ full,U.mu=[.arr [aI 0,.lst true []],.arr [aI t,.lst full ((ofL (ts.take k)).map rI)]]) ?_ ?_
 .simp [go_sem,ofL]
 rintro k U R ⟨j,l,o,p,full,i⟩;have I:=mj ts k;by_cases g:k<ts.length
 .have J:=mh ts k g
  generalize ofL (ts.take k)=cur at *
  simp[go_sem,j,l,o,p,i,g];refine tR zKr ?_;simp[go_sem,j,l,o,p,i,g];refine tU (add06 cur ts[k] zOm) (.cons (WK.ints cur) (.zs .nil)) ?_;simp[go_sem,j,l,o,p,i,g];exact⟨zWr,by rw[J]⟩
 .have C:k=ts.length:=by omega
  subst C;rw[zi]at i;simp[go_sem,j,l,o,p,i];exact aW
end E4
namespace EO
open YS
section
variable {s:AV}{K:AV->Mu->Prop}{l:List Int}{mu:Mu}{P:qb}
def FnOk(P:qb)(o:AV){J:Type}(enc:J->AV)(ok:J->Prop)(g:J->AV):Prop:=
 HF o/\∃ l first j,o = .fn (.func l) first j/\∀ x,ok x->∃ i,WKs (first++[enc x]++j) i/\qg P l i (g x)
theorem FnOk.call{o J enc ok g}(h:FnOk P o enc ok g){x:J}(p:ok x){det mu K t}(k:K (g x) mu):qe P det mu o [enc x] K t:=by
 obtain⟨_,l,first,j,rfl,h⟩:=h;obtain⟨i,C,I⟩:=h x p;exact .inl ⟨g x,.inl ⟨l,first,j,i,rfl,I,.inl C⟩,k⟩
def qu:AV->Option Nat
 | .sl b _ _ _=>some b
 |_=>none
def OwnI(mu:Mu)(s:AV)(l:List Int):Prop:=(s = .lst true []/\l=[])\/∃ b,s = .sl b 1 0 l.length/\mu[b]?=some (.arr (l.map aI))
def OwnV(mu:Mu)(s:AV)(l:List Int):Prop:=(s = .lst true []/\l=[])\/∃ b cells,s = .sl b 1 0 l.length/\mu[b]?=some (.arr cells)/\l.length<=cells.length/\cells.take l.length=l.map aI
theorem OwnI.v(h:OwnI mu s l):OwnV mu s l:=by
 rcases h with h|⟨b,g,i⟩
 .exact .inl h
 .exact .inr ⟨b,_,g,i,zSp,by rw[zY zSp]⟩
theorem OwnV.one(h:OwnV mu s l):s.one=true:=by
 rcases h with ⟨rfl,_⟩|⟨b,c,rfl,_⟩<;>rfl
theorem OwnV.cells(h:OwnV mu s l):s.cells=[s]:=by
 rcases h with ⟨rfl,_⟩|⟨b,c,rfl,_⟩<;>rfl
theorem OwnV.same{mu'}(h:OwnV mu s l)(g:∀ b,qu s=some b->mu'[b]?=mu[b]?):OwnV mu' s l:=by
 rcases h with h|⟨b,c,rfl,i,j,o⟩
 .exact .inl h
 .exact .inr ⟨b,c,rfl,by rw[g b rfl];exact i,j,o⟩
theorem OwnI.same{mu'}(h:OwnI mu s l)(g:∀ b,qu s=some b->mu'[b]?=mu[b]?):OwnI mu' s l:=by
 rcases h with h|⟨b,rfl,i⟩
 .exact .inl h
 .exact .inr ⟨b,rfl,by rw[g b rfl];exact i⟩
theorem OwnV.lt(h:OwnV mu s l){b}(g:qu s=some b):b<mu.length:=by
 rcases h with ⟨rfl,_⟩|⟨j,c,rfl,i,_⟩
 .cases g
 .cases g;exact(qh.1 i).1
theorem OwnV.rd(h:OwnV mu s l):Rd mu s (lI l):=by
 rcases h with ⟨rfl,rfl⟩|⟨b,cells,rfl,p,t,o⟩
 .exact .wk _ true _ (.hf _ (HF.lst fun r C=>by simp at C))
 .refine .sl b 1 0 _ cells _ p (zUs t) zSp (fun x g=>by
   obtain⟨l,_,rfl⟩:=qn.1 g;rfl) (fun k x y g j=>?_)
  rw[Nat.zero_add]at g;rw[u9,<-o,jY]at j;split at j
  .rw [g]at j;cases j
   have:x∈cells.take l.length:=by
    refine qQ (i:=k) ?_;rw[jY,if_pos (by assumption)];exact g
   rw[o]at this;obtain⟨z,_,rfl⟩:=qn.1 this;exact .zsc _
  grind
theorem aX{t g e bt:Nat}{x ys z}(I:qH P t=some (e,1,bt))(j:(qH P g).isSome=true)(J:qC P e=some (aI z))
  (R:bt<=16384) (T:OwnV mu s l) (U:qA mu x=some (ys.map rI)) (C:l.length+ys.length<=4294967296)
  (k:∀ av mu',OwnI mu' av (l++ys)->(∀ i,i<mu.length->qu s≠some i->mu'[i]?=mu[i]?)->mu.length<=mu'.length->(∀ b,qu av=some b->b=mu.length)->K av mu'):qw P mu #[t,g] s x K:=by
 refine .inl ⟨t,g,e,1,bt,ys.map rI,rfl,I,j,⟨_,J,rfl,rfl⟩,zOm,R,U,je ys,?_⟩;rcases T with ⟨rfl,rfl⟩|⟨b,cells,rfl,hc,h1,h2⟩
 .refine .inl ⟨[],rfl,fun r hr=>by simp at hr,zUs C,fun h=>?_,fun h=>?_⟩
  .have:ys=[]:=by simpa using h
   subst this;exact k _ _ (.inl ⟨rfl,rfl⟩) (fun _ _ _=>rfl) (qj _) (fun _ h=>by cases h)
  .refine k _ _ (.inr ⟨mu.length,zSp,by simp[u9]⟩) (fun i o _=>?_) zSp (fun b h=>by cases h;rfl)
   rw[qG o]
 .refine .inr ⟨b,l.length,cells,rfl,hc,zUs h1,zUs C,?_⟩
  have e1:cells.take (l.length*1)++(ys.map rI).flatten=(l++ys).map aI:=by rw[Nat.mul_one,h2,zx,u9]
  have e2:l.length+(ys.map rI).length=(l++ys).length:=zSp;rw[e1,e2];refine k _ _ (.inr ⟨mu.length,rfl,?_⟩) (fun i o p=>?_) zSp (fun b h=>by cases h;rfl)
  .simp
  .rw [qG (zUs o),zH (fun h=>p (by rw[h];rfl))]
theorem aY{t j e bt:Nat}{x z}(o:qH P t=some (e,1,bt))(g:(qH P j).isSome=true)(p:qC P e=some (aI z))
  (C:bt<=16384) (I:OwnV mu s l) (J:l.length+1<=4294967296)
  (k:∀ av mu',OwnI mu' av (l++[x])->(∀ i,i<mu.length->qu s≠some i->mu'[i]?=mu[i]?)->mu.length<=mu'.length->(∀ b,qu av=some b->b=mu.length)->K av mu'):qw P mu #[t,j] s (.lst true [[aI x]]) K:=
 aX (ys:=[x]) o g p C I rfl J k
theorem sumG(l)(P:l.length<=1000000)(C:∀ k,0<=sumI (l.take k)/\sumI (l.take k)<=1000000):qg qc 79 [lI l] (aI (sumI l)):=by
 refine qSU call79 func79 rfl ?_;refine qk.up l.length (fun k U=>U.tm 6=lI l/\U.tm 7=aI l.length/\U.tm 3=aI (sumI (l.take k))/\U.tm 8=aI k/\U.mu=[]) ?_ ?_
 .simp [go_sem,sumI]
 rintro k U R ⟨I,e7,o,p,t⟩;by_cases g:k<l.length
 .have J:=Qr l k g
  have i:=C (k+1);rw[J]at i;simp[go_sem,I,e7,o,p,t,g]
  grind [yi]
 .have j:k=l.length:=by omega
  subst j;simp[go_sem,e7,o,p,t];exact .zsc _
theorem ZL(sc)(g:GSc sc):qg qc 40 [eSc sc] (aI (sumI sc.sC)):=by
 refine qSU call40 func40 rfl ?_;refine fR (sumG _ (zS g.1 zOm) fun k=>zW1 (g.sum k)) (.zk (zC _) .nil) ?_;exact .zsc _
theorem XY(sc)(g:GSc sc)(s)(i:s<=sc.sC.length):qg qc 152 [eSc sc,aI s] (aI (sumI (sc.sC.take s))):=by
 refine qSV call152 func152 rfl ?_;have j:WKs [.lst false ((sc.sC.map rI).take s)] [lI (sc.sC.take s)] := .cons (by rw[<-List.map_take];exact .hf (zC _)) .nil;simp[go_sem,i];refine⟨⟨_,_,⟨rfl,rfl⟩,(je sc.sC).ok⟩,?_⟩;refine fR (sumG (sc.sC.take s) (by simp;have:=g.1;omega) fun k=>by rw[List.take_take];have:=g.sum (min k s);omega) j ?_;exact .zsc _
abbrev lB(xs:List Bool):AV := .lst false (xs.map fun b=>[aB b])
theorem hf_lB(xs):HF (lB xs):=HF.lst fun r g c i=>by
 obtain⟨n,_,rfl⟩:=qn.1 g
 grind [HF.sc]
end
end EO
namespace F1
open E3
abbrev errV(e:Int):AV := .ifc 43 (aI e)
def endE:XE Rl->AEnd
 | .ok r => .ret (eRel r)
 | .error e => .pan (errV e)
def endN:XE Int->AEnd
 | .ok r => .ret (aI r)
 | .error e => .pan (errV e)
def endB:XE Bool->AEnd
 | .ok r => .ret (aB r)
 | .error e => .pan (errV e)
def end2:XE (Rl×Rl)->AEnd
 | .ok r => .ret (.tup [eRel r.1,eRel r.2])
 | .error e => .pan (errV e)
@[go_sem] theorem endE_ok(r):endE (.ok r) = .ret (eRel r):=rfl
@[go_sem] theorem endE_err(e):endE (.error e) = .pan (errV e):=rfl
@[go_sem] theorem endN_ok(r):endN (.ok r) = .ret (aI r):=rfl
@[go_sem] theorem endN_err(e):endN (.error e) = .pan (errV e):=rfl
@[go_sem] theorem endB_ok(r):endB (.ok r) = .ret (aB r):=rfl
@[go_sem] theorem endB_err(e):endB (.error e) = .pan (errV e):=rfl
@[go_sem] theorem end2_ok(r):end2 (.ok r) = .ret (.tup [eRel r.1,eRel r.2]):=rfl
@[go_sem] theorem end2_err(e):end2 (.error e) = .pan (errV e):=rfl
end F1
namespace EP
open E1 EO
section
variable {J:Type}{cs:List (Int×AV)}{g:List (Int×List Int)}{mu:Mu}{b:Nat}
theorem keyI:KeyT qc 3 (fun n:Int=>aI n) (fun _=>True):=by
 refine⟨fun a b _ _=>?_,fun a _=>zSi⟩;simp[go_sem]
theorem jg{l:List J}{n}(h):l.take (n+1)=l.take n++[l[n]]:=by rw[List.take_add_one,qB h];rfl
def cntK(f:Int->Int)(ts:List Int):List (Int×Int):=ts.foldl (fun m t=>setK (f t) ((getK (f t) m).getD 0+1) m) []
theorem mN(f ts t):cntK f (ts++[t])=setK (f t) ((getK (f t) (cntK f ts)).getD 0+1) (cntK f ts):=by simp[cntK,ul]
theorem Ux(f)(ts:List Int):∀ n,n<=ts.length->∀ k,0<=(getK k (cntK f (ts.take n))).getD 0/\(getK k (cntK f (ts.take n))).getD 0<=n/\(0<(getK k (cntK f (ts.take n))).getD 0↔∃ t,t∈ts.take n/\f t=k)
 | 0,_,k=>by simp[cntK,getK]
 |n+1,h,k=>by
  obtain⟨l,p,o⟩:=Ux f ts n zOm k;have i:n<ts.length:=zOm;obtain⟨g1,C,_⟩:=Ux f ts n zOm (f ts[n]);rw[jg i,mN,jy];by_cases j:k=f ts[n]
  .rw [if_pos j]
   simp only[Option.getD_some];exact⟨zOm,zOm,fun _=>⟨ts[n],List.mem_append_right _ (qS.2 rfl),j.symm⟩,fun _=>zOm⟩
  .rw [if_neg j]
   refine⟨l,zOm,o.trans ⟨fun⟨t,g,e⟩=>⟨t,y6 _ g,e⟩,fun⟨t,g,e⟩=>?_⟩⟩;rcases qO.1 g with g|g
   .grind
   grind
theorem qkJ(f ts k):0<=(getK k (cntK f ts)).getD 0/\(0<(getK k (cntK f ts)).getD 0↔∃ t,t∈ts/\f t=k):=by
 have:=Ux f ts ts.length (qj _) k
 grind
def grpK(m:Int)(ys:List Int):List (Int×List Int):=ys.foldl (fun g y=>setK (y / m) ((getK (y / m) g).getD []++[y % m]) g) []
theorem mO(m ys y):grpK m (ys++[y])=setK (y / m) ((getK (y / m) (grpK m ys)).getD []++[y % m]) (grpK m ys):=by simp[grpK,ul]
theorem Uy(m)(ys:List Int):∀ n,n<=ys.length->∀ k,(getK k (grpK m (ys.take n))).getD []=((ys.take n).filter fun y=>decide (y / m=k)).map fun y=>y % m
 | 0,_,k=>by simp[grpK,getK]
 |n+1,h,k=>by
  have j:=Uy m ys n zOm;have i:n<ys.length:=zOm;rw[jg i,mO,jy,List.filter_append,zx];by_cases g:k=ys[n] / m
  .rw [if_pos g,Option.getD_some,<-g,j k]
   simp[g]
  .rw [if_neg g,j k]
   have:¬ys[n] / m=k:=fun e=>g e.symm
   simp[this]
theorem mP{i}(q:Int->Int)(v:List (Int×i)->Int->i):∀(l:List Int)(g),(g.map Prod.fst).Nodup->((l.foldl (fun g y=>setK (q y) (v g y) g) g).map Prod.fst).Nodup
 | [],g,h=>h
 |y :: l,g,h=>mP q v l _ (u6 h)
theorem qkK(m ys):((grpK m ys).map Prod.fst).Nodup:=mP (fun y=>y / m) (fun g y=>(getK (y / m) g).getD []++[y % m]) ys [] zSp
theorem mQ{g}(k v w):∀{es:List (Int×J)}{fs:List (Int×g)},es.map Prod.fst=fs.map Prod.fst->(setK k v es).map Prod.fst=(setK k w fs).map Prod.fst
 | [],[],_=>rfl
 |e :: es,f :: fs,h=>by
  simp only[List.map_cons,uc]at h;unfold setK;rw[<-h.1];split
  .simp [h.2]
  .simp [h.1,mQ k v w h.2]
 | [],_ :: _,h=>by simp at h
 |_ :: _,[],h=>by simp at h
theorem mR{g}(k):∀{es:List (Int×J)}{fs:List (Int×g)},es.map Prod.fst=fs.map Prod.fst->(getK k es=none↔getK k fs=none)
 | [],[],_=>by simp[getK]
 |e :: es,f :: fs,h=>by
  simp only[List.map_cons,uc]at h;unfold getK;rw[<-h.1];split
  .simp
  .exact mR k h.2
 | [],_ :: _,h=>by simp at h
 |_ :: _,[],h=>by simp at h
structure GrpM (mu:Mu) (b:Nat) (g:List (Int×List Int)) (cs:List (Int×AV)):Prop where
 at0:mu[b]?=some (.mp (encK (fun n:Int=>aI n) id cs))
 keys:cs.map Prod.fst=g.map Prod.fst
 own:∀ k v,getK k cs=some v->∃ l,getK k g=some l/\OwnI mu v l
 inj:∀ k k' v v' x,getK k cs=some v->getK k' cs=some v'->qu v=some x->qu v'=some x->k=k'
 ne:∀ k v,getK k cs=some v->qu v≠some b
theorem GrpM.cur(h:GrpM mu b g cs)(k):OwnI mu ((getK k cs).getD (.lst true [])) ((getK k g).getD []):=by
 cases i:getK k cs with
 |none=>rw[(mR k h.keys).1 i];exact .inl ⟨rfl,rfl⟩
 |some v=>obtain⟨l,j,o⟩:=h.own k v i;rw[j];exact o
theorem GrpM.step{mu'}(h:GrpM mu b g cs){k av l}(ho:OwnI mu' av l)(hs:∀ i,i<mu.length->qu ((getK k cs).getD (.lst true []))≠some i->mu'[i]?=mu[i]?)(hb:∀ x,qu av=some x->x=mu.length) :
  mu'[b]?=some (.mp (encK (fun n:Int=>aI n) id cs))/\GrpM (mu'.set b (.mp (encK (fun n:Int=>aI n) id (setK k av cs)))) b (setK k l g) (setK k av cs):=by
 have T:b<mu.length:=(qh.1 h.at0).1;have U:qu ((getK k cs).getD (.lst true []))≠some b:=by
  cases j:getK k cs with
  |none=>simp[qu]
  |some v=>exact h.ne k v j
 have a0:=hs b T U;have I:b<mu'.length:=by
  grind
 have a4:qu av≠some b:=fun e=>by grind
 have keep:∀{v:AV}{l:List Int},OwnI mu' v l->qu v≠some b->OwnI (mu'.set b (.mp (encK (fun n:Int=>aI n) id (setK k av cs)))) v l:=fun o hn=>o.same fun x J=>by
  grind
 have a1:∀{p:Int}{v:AV}{l:List Int},p≠k->getK p cs=some v->OwnI mu v l->OwnI mu' v l:=fun a2 j o=>o.same fun x J=>by
  have a3:=o.v.lt J;refine hs x a3 fun e=>?_
  cases hc:getK k cs with
  |none=>grind [qu]
  |some w=>rw[hc]at e;exact a2 (h.inj _ _ _ _ x j hc J e)
 refine⟨by rw[a0];exact h.at0,by rw[qz I],mQ k _ _ h.keys,fun p v j=>?_,fun k1 k2 v1 v2 x t C h1 h2=>?_,fun p v j=>?_⟩
 .rw [jy]at j⊢
  by_cases e:p=k
  .grind
  .rw [if_neg e]at j⊢
   obtain⟨l',h1,h2⟩:=h.own p v j;exact⟨l',h1,keep (a1 e j h2) (h.ne p v j)⟩
 .rw [jy]at t C
  have lt:∀{p v},getK p cs=some v->qu v=some x->x<mu.length:=fun j J=>by
   obtain⟨l',_,o⟩:=h.own _ _ j;exact o.v.lt J
  by_cases R:k1=k
  .by_cases P:k2=k
   .rw [R,P]
   .rw [if_pos R]at t;rw[if_neg P]at C;grind
  .by_cases P:k2=k
   .rw [if_neg R]at t;rw[if_pos P]at C;grind
   .rw [if_neg R]at t;rw[if_neg P]at C
    exact h.inj _ _ _ _ x t C h1 h2
 .rw [jy]at j
  by_cases e:p=k
  .grind
  .rw [if_neg e]at j;exact h.ne p v j
theorem GrpM.nil(h:mu[b]?=some (.mp [])):GrpM mu b [] []:=⟨h,rfl,fun k v g=>by simp[getK]at g,fun k i v j x g=>by simp[getK]at g,fun k v g=>by simp[getK]at g⟩
theorem GrpM.rd(h:GrpM mu b g cs)(I:(g.map Prod.fst).Nodup):Rd mu (.mp b) (.im (encK (fun n:Int=>aI n) lI g)):=by
 have t:cs.length=g.length:=by have:=congrArg List.length h.keys;grind
 have C:(cs.map Prod.fst).Nodup:=by rw[h.keys];exact I
 refine .mp b _ _ h.at0 (by simp[encK,t]) (fun k x y i j=>?_) (fun k x y i j=>?_)
 .have e:=congrArg (fun l=>l[k]?) h.keys
  simp only[zB]at e i j;cases o:cs[k]? with
  |none=>grind
  |some c =>
   cases p:g[k]? with
   |none=>grind
   |some d =>
    rw[o]at i;rw[p]at j;rw[o,p]at e;cases i;cases j;simp only[zd,qo]at e;simp only[e];exact .zsc _
 .have e:=congrArg (fun l=>l[k]?) h.keys
  simp only[zB]at e i j;cases o:cs[k]? with
  |none=>grind
  |some c =>
   cases p:g[k]? with
   |none=>grind
   |some d =>
    rw[o]at i;rw[p]at j;rw[o,p]at e;cases i;cases j;simp only[zd,qo]at e;obtain⟨l,J,P⟩:=h.own c.1 c.2 ((Qs C).2 (qQ o));rw[e]at J;have:=(Qs I).2 (qQ p:(d.1,d.2)∈g);rw[J]at this;cases this;exact P.v.rd
theorem qkL(n m x y):(x.flatMap fun s=>((getK (s % n) (grpK m y)).getD []).map fun t=>s / n*m+t)=joL n m x y:=by
 unfold joL;congr 1;funext s;have:=Uy m y y.length (qj _) (s % n);simp_all
end
end EP
namespace EQ
open E1 EJ EM EN EO
theorem aH{P mu}{t g e bt n:Nat}{z K}(i:qH P t=some (e,1,bt))(j:P.underlying g=some (.int .i64))(l:qC P e=some (aI z))(o:bt<=16384)(p:0<n)(C:n<=4294967296)
  (k:∀ c,K (.sl mu.length 1 0 n) (mu++[.arr c])):qw P mu #[t,g] (.lst true []) (aI n) K:=
 .inr (.inr ⟨t,g,e,1,bt,_,n,[],rfl,i,j,l,rfl,rfl,zOm,o,rfl,p,rfl,fun r I=>by simp at I,zUs C,by simpa using k _⟩)
theorem growE(mu)(n:Nat)(I:n<=1000000):qv qc 228 [.lst true [],aI n] mu fun e m=>∃ av,e = .ret av/\OwnV m av []/\(∀ i,i<mu.length->m[i]?=mu[i]?)/\mu.length<=m.length/\∀ b,qu av=some b->mu.length<=b:=by
 refine qSW call228 func228 rfl {} ?_;have j:ql.wrap 0=0:=zWr;have o:ql.wrap (n:Int)=n:=zWr;have g:¬(n:Int)<0:=zOm;by_cases p:n=0
 .subst p
  simp[go_sem,j];exact⟨.inl ⟨rfl,rfl⟩,by simp[qu]⟩
 .have l:0<n:=by omega
  simp[go_sem,j,o,g,l];refine⟨⟨_,_,⟨rfl,rfl⟩,fun r t=>by simp at t⟩,?_⟩;refine aH (e:=3) (bt:=8) (z:=0) zSi zSi zSi zOm l zOm ?_;intro c;simp[go_sem];refine⟨.inr ⟨mu.length,c,rfl,zSp,zSp,zSp⟩,fun i C=>by rw[qG C],by simp[qu]⟩
theorem qkM(mu a b)(ha:a.length<=100000)(hb:b.length<=100000):qv qc 156 [.lst true [[lI a],[lI b]]] mu fun e m=>∃ av,e = .ret av/\OwnI m av (a++b)/\(∀ i,i<mu.length->m[i]?=mu[i]?)/\mu.length<=m.length/\∀ x,qu av=some x->mu.length<=x:=by
 refine qSW call156 func156 rfl {} ?_;have v1:ql.wrap 1=1:=zWr;have v2:ql.wrap 2=2:=zWr;simp[go_sem];have n0:¬((a.length:Int)+b.length)<0:=zOm;refine qk.up 2 (fun k U=>U.tm 0 = .lst true [[lI a],[lI b]]/\U.tm 3=aI ((if 0<k then (a.length:Int) else 0)+(if 1<k then (b.length:Int) else 0))/\U.tm 9 = .lst true [[lI a],[lI b]]/\U.tm 10=aI 2/\U.tm 11=aI k/\U.mu=mu) ?_ ?_
 .simp [go_sem]
 rintro k U hk ⟨e0,e3,e9,t,C,hm⟩;by_cases I:k<2
 .have:k=0\/k=1:=by omega
  rcases this with rfl|rfl
  .have w1:ql.wrap (a.length:Int)=a.length:=zWr
   have n1:¬(a.length:Int)<0:=zOm;simp[go_sem, *]
  .have w1:ql.wrap ((a.length:Int)+b.length)=a.length+b.length:=zWr
   simp[go_sem, *]
 .have:k=2:=by omega
  subst this;have g:=growE mu (a.length+b.length) zOm;simp[go_sem,e3,t,C,hm];refine fZ (zUs g) ?_ ?_
  .rintro r m ⟨av,h,p,hs,hl,J⟩
   cases h;simp[go_sem,e0];refine qk.up 2 (fun k U=>U.tm 25 = .lst true [[lI a],[lI b]]/\U.tm 26=aI 2/\U.tm 27=aI k/\(if k=0 then OwnV U.mu (U.tm 6) [] else OwnI U.mu (U.tm 6) (if k=1 then a else a++b))/\(∀ i,i<mu.length->U.mu[i]?=mu[i]?)/\mu.length<=U.mu.length/\∀ x,qu (U.tm 6)=some x->mu.length<=x) ?_ ?_
   .simp_all [go_sem]
   rintro k a1 hk ⟨f25,f26,f27,p,hs,hl,J⟩;by_cases I:k<2
   .have:k=0\/k=1:=by omega
    rcases this with rfl|rfl
    .rw [if_pos rfl]at p
     simp[go_sem,f25,f26,f27];refine aX (e:=3) (bt:=8) (z:=0) (l:=[]) (ys:=a) zSi zSi zSi zOm p (by simp[qA]) zSo ?_;intro P o j R T a0;simp at j;simp[go_sem,f25,f26,f27,v1];refine⟨j,fun i hi=>?_,zOm,fun x hx=>?_⟩
     .grind
     grind
    .rw [zIn,if_pos rfl]at p
     simp[go_sem,f25,f26,f27];refine aX (e:=3) (bt:=8) (z:=0) (l:=a) (ys:=b) zSi zSi zSi zOm p.v (by simp[qA]) zOm ?_;intro P o j R T a0;simp[go_sem,f25,f26,f27,v2];refine⟨j,fun i hi=>?_,zOm,fun x hx=>?_⟩
     .grind
     grind
   .have:k=2:=by omega
    simp_all[go_sem]
  grind
theorem qkN(mu):qv qc 226 [.lst true []] mu fun e m=>e = .ret (.tup [])/\m=mu:=by
 refine⟨call226,fun G w o s g=>?_⟩;obtain⟨v,rfl,i⟩:=g.one_inv;obtain⟨p,cap,rfl⟩:∃ p cap,v = .slice p 0 cap:=by cases i<;>exact⟨_,_,rfl⟩
 refine(Tryz.slices_Sort_int_none p cap w).mono fun e t ⟨j,l⟩=>?_
 subst l;exact⟨G,mu,.refl s,.inl ⟨_,_,⟨rfl,rfl⟩,j,.tup [] #[] rfl zSp⟩⟩
theorem sortA(mu av l)(t:l.length<=1000000)(j:OwnI mu av l):qv qc 226 [av] mu fun e m=>e = .ret (.tup [])/\OwnI m av (srtI l)/\(∀ i,qu av≠some i->m[i]?=mu[i]?)/\m.length=mu.length:=by
 rcases j with ⟨rfl,rfl⟩|⟨b,rfl,g⟩
 .refine (qkN mu).monoR ?_
  rintro e m ⟨rfl,rfl⟩;exact⟨rfl,.inl ⟨rfl,by simp[srtI]⟩,fun _ _=>rfl,rfl⟩
 .refine (sortE g zOm).monoR ?_
  rintro e m ⟨rfl,rfl⟩;have o:b<mu.length:=(qh.1 g).1;exact⟨rfl,.inr ⟨b,by rw[JN],by rw[qz o]⟩,fun i p=>by rw[zH (fun e=>p (by rw[e];rfl))],zSp⟩
theorem qkP(mu av l)(o:l.length<=1000000)(p:OwnI mu av l):qv qc 227 [av] mu fun e m=>∃ x,e = .ret x/\OwnV m x (cmpc eqI l)/\(∀ i,qu av≠some i->m[i]?=mu[i]?)/\m.length=mu.length/\∀ b,qu x=some b->qu av=some b:=by
 rcases p with ⟨rfl,rfl⟩|⟨b,rfl,g⟩
 .refine qSW call227 func227 rfl {} ?_
  simp[go_sem];exact .inl ⟨rfl,rfl⟩
 .refine (qkF mu b l o g).monoR ?_
  rintro e m ⟨cells,rfl,rfl,J,j⟩;have t:b<mu.length:=(qh.1 g).1;refine⟨_,rfl,.inr ⟨b,cells,rfl,by rw[qz t],?_,j⟩,fun i C=>by rw[zH (fun e=>C (by rw[e];rfl))],zSp,fun x I=>I⟩;have:=congrArg List.length j;simp at this;omega
theorem XZ(mu P av l)(R:l.length<=1000000)(p:OwnI mu av l):qv qc 154 [aI P,av] mu fun e m=>∃ x,e = .ret (.agg [aI P,x])/\OwnV m x (ofL l)/\(∀ i,i<mu.length->qu av≠some i->m[i]?=mu[i]?)/\mu.length<=m.length/\∀ b,qu x=some b->qu av=some b:=by
 refine qSW call154 func154 rfl {} ?_;have t:OwnI (mu++[.arr [aI 0,.lst true []]]) av l:=p.same fun b T=>by rw[qG (p.v.lt T)]
 have C:qu av≠some mu.length:=fun h=>zW1 (p.v.lt h)
 simp[go_sem];refine fZ (sortA _ av l R t) ?_ ?_
 .rintro r m ⟨h,I,a0,J⟩
  cases h;have a1:m.length=mu.length+1:=zUs J;simp[go_sem];refine fZ (qkP _ av _ (by rw[JN];exact R) I) ?_ ?_
  .rintro r U ⟨x,h,g,a2,a3,j⟩
   cases h;rw[qkD]at g;have hc:U[mu.length]?=some (.arr [aI 0,.lst true []]):=by grind
   have o:∀ c,(U.set mu.length c)[mu.length]?=some c:=fun c=>qz zOm
   have hx:qu r≠some mu.length:=fun h=>C (j _ h)
   simp[go_sem,hc,o,g.one,g.cells];refine⟨?_,fun i hi hn=>?_,zOm,j⟩
   .exact g.same fun b T=>by grind
   grind
  grind
 grind
theorem aV{mu j av l}(h:OwnV mu av l):Rd mu (.agg [aI j,av]) (eRel ⟨j,l⟩):=by
 refine .agg _ _ rfl fun k u v g i=>?_
 match k with
 | 0=>simp at g i;subst g;subst i;exact .zsc _
 | 1=>simp at g i;subst g;subst i;exact h.rd
 |k+2=>simp at g
theorem jV(a b)(J:a.ts.length<=100000)(l:b.ts.length<=100000):qg qc 90 [eRel a,eRel b] (eRel (unR a b)):=by
 refine qSU call90 func90 rfl ?_;refine fG [0,1,2,3,4,5,6,7,8,9] [(0,0,[]),(1,0,[]),(2,0,[]),(3,0,[]),(4,0,[]),(5,0,[]),(6,0,[]),(7,1,[1]),(8,1,[]),(9,1,[])] zKr zKr zSi ?_;simp[go_sem];refine fZ (qkM _ a.ts b.ts J l) ?_ ?_
 .rintro r m ⟨t,h,P,R,hl,T⟩
  cases h;have o:=R 0 zSp;simp at o;have g:qu r≠some 0:=fun h=>by grind
  simp[go_sem];refine fZ (XZ m a.ar r _ zSo P) ?_ ?_
  .rintro r U ⟨x,h,i,p,a0,C⟩
   cases h;have I:=p 0 (qh.1 o).1 g;rw[o]at I;have j:∀ c,(U.set 0 c)[0]?=some c:=fun c=>qz (qh.1 I).1
   have hx:qu x≠some 0:=fun h=>g (C _ h)
   simp[go_sem,I,j,i.one];refine aV ?_;exact i.same fun b l=>by rw[zH (fun e=>hx (by rw[e];exact l))]
  grind
 grind
end EQ
namespace ER
open E1 EO EP EQ
theorem mS(l I p)(hf:FnOk qc I (fun x:Int=>aI x) (·∈l) (fun x=>aB (p x)))(hl:l.length<=1000000):qg qc 159 [lI l,I] (lI (l.filter p)):=by
 refine qSU call159 func159 rfl ?_;refine tV (fun m U=>∃ k,m=l.length-k/\k<=l.length/\U.tm 1=I/\U.tm 8=lI l/\U.tm 9=aI l.length/\U.tm 10=aI (k:Nat)/\OwnI U.mu (U.tm 5) ((l.take k).filter p)) l.length ?_ ?_
 .exact ⟨0,zOm,zOm,zSi,zSi,zSi,zSi,.inl ⟨zSi,rfl⟩⟩
 rintro m U ⟨k,rfl,hk,J,P,j,g,C⟩;by_cases i:k<l.length
 .have w1:=zWk k
  have a1:((l.take k).filter p).length<=k:=zS (List.length_filter_le _ _) zSo;simp[go_sem,J,P,j,g,i];refine FnOk.call (enc:=fun x:Int=>aI x) hf (qt i) ?_;cases hp:p l[k] with
  |true =>
   have R:(l.take (k+1)).filter p=(l.take k).filter p++[l[k]]:=by rw[jg i,List.filter_append];simp[hp]
   simp[go_sem];refine aY (e:=3) (bt:=8) (z:=0) (l:=(l.take k).filter p) zSi zSi zSi zOm C.v zOm ?_;intro t o T _ _ _;simp[go_sem,g,w1];refine Keep.loop (l.length-(k+1)) zOm ⟨k+1,rfl,zOm,zS1 J,zS1 P,zS1 j,zSi,?_⟩;rw[R];simpa[go_sem] using T
  |false =>
   have R:(l.take (k+1)).filter p=(l.take k).filter p:=by rw[jg i,List.filter_append];simp[hp]
   simp[go_sem,g,w1];refine Keep.loop (l.length-(k+1)) zOm ⟨k+1,rfl,zOm,zS1 J,zS1 P,zS1 j,zSi,?_⟩;rw[R];simpa[go_sem] using C
 .have a0:k=l.length:=by omega
  subst a0;rw[zi]at C;simp[go_sem,j,g];exact C.v.rd
theorem sameU(x):qg qc 158 [aI x] (aI x):=by
 refine qSU call158 func158 rfl ?_;exact .zsc _
abbrev imC(l:List (Int×Int)):AV := .im (encK (fun n:Int=>aI n) (fun n:Int=>aI n) l)
theorem Yo(l):HF (imC l):=HF.im fun p g=>by
 obtain⟨q,_,rfl⟩:=qn.1 g;exact⟨HF.sc _,HF.sc _⟩
theorem setU(r fv f)(hf:FnOk qc fv (fun x:Int=>aI x) (·∈r.ts) (fun x=>aI (f x)))(hl:r.ts.length<=1000000):qg qc 157 [eRel r,fv] (imC (cntK f r.ts)):=by
 refine qSU call157 func157 rfl ?_;obtain⟨B,hB⟩:∃ B,B=AV.mp 0:=⟨_,rfl⟩;refine qk.up r.ts.length (fun k U=>U.tm 1=fv/\U.tm 5=B/\U.tm 10=lI r.ts/\U.tm 11=aI r.ts.length/\U.tm 12=aI k/\U.mu[0]?=some (.mp (encK (fun n:Int=>aI n) (fun n:Int=>aI n) (cntK f (r.ts.take k))))) ?_ ?_
 .simp [go_sem,cntK,encK,hB]
 rintro k U hk ⟨e1,e5,p,j,l,J⟩;by_cases g:k<r.ts.length
 .have w1:=zWk k
  obtain⟨c1,c2,_⟩:=Ux f r.ts k zOm (f r.ts[k]);have hs:=mN f (r.ts.take k) r.ts[k];rw[<-jg g]at hs;have a0:=keyI.look (et:=3) (t:=221) zSi (mu:=U.mu) (m := .mp 0) (venc:=fun n:Int=>aI n) (es:=cntK f (r.ts.take k)) (by simp only[jD,J]) (k:=f r.ts[k]) trivial (fun _ _=>trivial) (z:=aI 0) zSi false;have o:yj qc U.mu 221 B (aI (f r.ts[k])) false=some (aI ((getK (f r.ts[k]) (cntK f (r.ts.take k))).getD 0)):=by
   rw[hB];refine Eq.trans a0 ?_;cases getK (f r.ts[k]) (cntK f (r.ts.take k))<;>rfl
  have i:ju qc U.mu 221 (.mp 0) (aI (f r.ts[k])) (aI ((getK (f r.ts[k]) (cntK f (r.ts.take k))).getD 0+1))=_:=keyI.update (et:=3) (t:=221) zSi (mu:=U.mu) (b:=0) (venc:=fun n:Int=>aI n) (es:=cntK f (r.ts.take k)) J (k:=f r.ts[k]) (v:=(getK (f r.ts[k]) (cntK f (r.ts.take k))).getD 0+1) trivial (fun _ _=>trivial);rw[<-hs,<-hB]at i;have R:0<U.mu.length:=(qh.1 J).1;generalize (getK (f r.ts[k]) (cntK f (r.ts.take k))).getD 0=c at *
  have w2:ql.wrap (c+1)=c+1:=zWr;simp[go_sem,e1,e5,p,j,l,g];refine FnOk.call (enc:=fun x:Int=>aI x) hf (qt g) ?_;simp[go_sem,o,w2];subst hB;refine tH _ i ?_;simp[go_sem,e1,e5,p,j,l,g,w1,R]
 .have a1:k=r.ts.length:=by omega
  subst a1;rw[zi]at J;simp[go_sem,e5,j,l];rw[hB];exact .mp 0 _ _ J rfl (fun k x y T hy=>by rw[T]at hy;cases hy;obtain⟨q,_,e⟩:=qn.1 (qQ T);rw[<-e];exact .zsc _) (fun k x y T hy=>by rw[T]at hy;cases hy;obtain⟨q,_,e⟩:=qn.1 (qQ T);rw[<-e];exact .zsc _)
theorem FnOk.same(ok):FnOk qc (.fn (.func 158) [] []) (fun x:Int=>aI x) ok (fun x=>aI x):=
 ⟨HF.fn zSp zSp,_,[],[],rfl,fun x _=>⟨_,.zs .nil,sameU x⟩⟩
theorem mT(mu f ts k):yj qc mu 221 (imC (cntK f ts)) (aI k) false=some (aI ((getK k (cntK f ts)).getD 0)):=by
 have:=keyI.look (et:=3) (t:=221) zSi (mu:=mu) (m:=imC (cntK f ts)) (venc:=fun n:Int=>aI n) (es:=cntK f ts) rfl (k:=k) trivial (fun _ _=>trivial) (z:=aI 0) zSi false;simp only[yj];refine Eq.trans this ?_;cases getK k (cntK f ts)<;>rfl
theorem qkQ(f ts x):qg qc 160 [aI x,.ip [imC (cntK f ts)]] (aB (decide (0<(getK x (cntK f ts)).getD 0))):=by
 refine qSV call160 func160 rfl ?_;have g:=fun I=>mT I f ts x
 generalize imC (cntK f ts)=B at *
 simp[go_sem,g];exact .zsc _
theorem qkR(f ts x):qg qc 161 [aI x,.ip [imC (cntK f ts)]] (aB (decide ((getK x (cntK f ts)).getD 0=0))):=by
 refine qSV call161 func161 rfl ?_;have g:=fun I=>mT I f ts x
 generalize imC (cntK f ts)=B at *
 simp[go_sem,g];exact .zsc _
theorem wq{x}(h:HF x):HF (.ip [x]):=HF.ip fun c g=>by simp at g;subst g;exact h
theorem mV(ts x):(0<(getK x (cntK (fun x=>x) ts)).getD 0↔x∈ts)/\((getK x (cntK (fun x=>x) ts)).getD 0=0↔¬x∈ts):=by
 obtain⟨l,g⟩:=qkJ (fun x=>x) ts x;have i:(∃ t,t∈ts/\t=x)↔x∈ts:=⟨fun⟨t,j,e⟩=>e ▸ j,fun h=>⟨x,h,rfl⟩⟩;rw[i]at g;exact⟨g,by rw[<-g];omega⟩
theorem Rd.ip1{mu b x y}(j:mu[b]?=some (.arr [x]))(h:Rd mu x y):Rd mu (.ptr b 0) (.ip [y]):=by
 refine .ptr b 0 [x] [y] j zSp fun k u v i g=>?_
 match k with
 | 0=>simp at i g;subst i;subst g;exact h
 |k+1=>simp at g
theorem JW(a b)(o:a.ts.length<=1000000)(p:b.ts.length<=1000000):qg qc 92 [eRel a,eRel b] (eRel (inR a b)):=by
 refine qSV call92 func92 rfl ?_;have C:=setU b _ _ (FnOk.same (·∈b.ts)) p;have I:=mS a.ts (.fn (.func 160) [] [.ip [imC (cntK (fun x=>x) b.ts)]]) (fun t=>decide (t∈b.ts)) ⟨HF.fn zSp (by simp;exact wq (Yo _)),_,[],_,rfl,fun x _=>⟨_,.zs (.zk (wq (Yo _)) .nil),by have:=qkQ (fun x=>x) b.ts x;simp only[(mV b.ts x).1]at this;exact this⟩⟩ o;have J:WKs [eRel b,.fn (.func 158) [] []] [eRel b,.fn (.func 158) [] []] := .zk (qx b) (.zk (HF.fn zSp zSp) .nil);have g:=Yo (cntK (fun x=>x) b.ts);have i:(imC (cntK (fun x=>x) b.ts)).cells=[imC (cntK (fun x=>x) b.ts)]:=rfl;have j:(imC (cntK (fun x=>x) b.ts)).one=true:=rfl;generalize imC (cntK (fun x=>x) b.ts)=B at *
 have l:WKs [lI a.ts,.fn (.func 160) [] [.ip [B]]] [lI a.ts,.fn (.func 160) [] [.ip [B]]] := .zk (zC _) (.zk (HF.fn zSp (by simp;exact wq g)) .nil);simp[go_sem];refine tU C J ?_;simp[go_sem,i,j];refine qi.fz (FzQ.one (d:=5) (b:=1) (x := .ip [B]) (Rd.ip1 rfl (.hf _ g)) ?_);simp[go_sem,cutM];refine fD ?_;refine fR I l ?_;exact .hf _ (qx (inR a b))
theorem Yp(a b)(o:a.ts.length<=1000000)(p:b.ts.length<=1000000):qg qc 93 [eRel a,eRel b] (eRel (diR a b)):=by
 refine qSV call93 func93 rfl ?_;have C:=setU b _ _ (FnOk.same (·∈b.ts)) p;have I:=mS a.ts (.fn (.func 161) [] [.ip [imC (cntK (fun x=>x) b.ts)]]) (fun t=>decide (¬t∈b.ts)) ⟨HF.fn zSp (by simp;exact wq (Yo _)),_,[],_,rfl,fun x _=>⟨_,.zs (.zk (wq (Yo _)) .nil),by have:=qkR (fun x=>x) b.ts x;simp only[(mV b.ts x).2]at this;exact this⟩⟩ o;have J:WKs [eRel b,.fn (.func 158) [] []] [eRel b,.fn (.func 158) [] []] := .zk (qx b) (.zk (HF.fn zSp zSp) .nil);have g:=Yo (cntK (fun x=>x) b.ts);have i:(imC (cntK (fun x=>x) b.ts)).cells=[imC (cntK (fun x=>x) b.ts)]:=rfl;have j:(imC (cntK (fun x=>x) b.ts)).one=true:=rfl;generalize imC (cntK (fun x=>x) b.ts)=B at *
 have l:WKs [lI a.ts,.fn (.func 161) [] [.ip [B]]] [lI a.ts,.fn (.func 161) [] [.ip [B]]] := .zk (zC _) (.zk (HF.fn zSp (by simp;exact wq g)) .nil);simp[go_sem];refine tU C J ?_;simp[go_sem,i,j];refine qi.fz (FzQ.one (d:=5) (b:=1) (x := .ip [B]) (Rd.ip1 rfl (.hf _ g)) ?_);simp[go_sem,cutM];refine fD ?_;refine fR I l ?_;have e:diR a b=⟨a.ar,a.ts.filter fun t=>!decide (t∈b.ts)⟩:=by simp[diR]
 have h:=qx (diR a b);rw[e]at h⊢;exact .hf _ h
theorem inU(a b)(g:a.ts.length<=1000000)(i:b.ts.length<=1000000):qg qc 55 [eRel a,eRel b] (aB (decide ((diR a b).ts=[]))):=by
 refine qSU call55 func55 rfl ?_;refine fR (Yp a b g i) (.zk (qx a) (.zk (qx b) .nil)) ?_;exact .zsc _
end ER
namespace ET
open E1 E2 E3 EL EO EP EQ ER
section
variable {mu:Mu}
theorem mW(n)(g:0<=n)(i:n<=20)(k)(j:0<=k)(l:k<=3):qg qc 123 [aI n,aI k] (aI (powI n k)):=by
 grind [mG,wd]
def RelM(mu:Mu)(g:Int)(l:List Int):Prop:=∃ t,mu[0]?=some (.arr [aI 0,.lst true []])/\mu[1]?=some (.arr [aI g,t])/\OwnI mu t l/\qu t≠some 0/\qu t≠some 1
theorem RelM.step{mu' j av g l}(J:mu[0]?=some (.arr [aI 0,.lst true []]))(o:mu[1]?=some (.arr [aI j,av]))(n0:qu av≠some 0)(P:qu av≠some 1)(p:OwnI mu' g l)
  (R:∀ i,i<mu.length->qu av≠some i->mu'[i]?=mu[i]?) (T:mu.length<=mu'.length) (U:∀ b,qu g=some b->b=mu.length):mu'[1]?=some (.arr [aI j,av])/\RelM (mu'.set 1 (.arr [aI j,g])) j l:=by
 have l1:1<mu.length:=(qh.1 o).1;have t:qu g≠some 0:=fun e=>by grind
 have C:qu g≠some 1:=fun e=>by grind
 refine⟨by grind,g,by grind,by grind,p.same fun b I=>?_,t,C⟩
 grind
theorem qkS(m x y s):prL m (x++[s]) y=prL m x y++y.map fun t=>s*m+t:=by simp[prL]
theorem X0{a m x y:Int}(i:0<=a)(j:a<=x)(g:0<=m)(l:m<=y)(o:0<=x):0<=a*m/\a*m<=x*y:=⟨Int.mul_nonneg i g,jl j l g o⟩
theorem Yq{r e x}(h:Rd mu x (eRel r)):Rd mu (.tup [x,aI e]) (.tup [eRel r,aI e]):=by
 refine .tup _ _ rfl fun k u v g i=>?_
 match k with
 | 0=>grind
 | 1=>simp at g i;subst g;subst i;exact .zsc _
 |k+2=>simp at g
theorem Uz{g}:Rd mu (.agg [aI g,.lst true []]) (eRel ⟨g,[]⟩):=aV (.inl ⟨rfl,rfl⟩)
theorem qkT(m x y):(prL m x y).length=x.length*y.length:=by
 induction x with
 |nil=>simp[prL]
 |cons s x g=>simp only[prL,uM,zh,yu,yh]at g⊢;rw[g,Nat.add_mul];omega
theorem XF(n)(h0:0<=n)(a8:n<=12)(a b)(ha:GR n a)(T:GR n b):qg qc 98 [aI n,eRel a,eRel b] (match wh n a b with | .ok r => .tup [eRel r,aI 0] | .error e => .tup [eRel ⟨0,[]⟩,aI e]):=by
 refine qSV call98 func98 rfl ?_;have a1:=ha.ar1;have a3:=ha.ar3;have b1:=T.ar1;have b3:=T.ar3;have la:=ha.len h0 zOm;have lb:=T.len h0 zOm;have w0:ql.wrap (a.ar+b.ar)=a.ar+b.ar:=zWr;unfold wh;by_cases hc:a.ar+b.ar<=3
 .have hn:¬(3:Int)<a.ar+b.ar:=by omega
  obtain⟨p0,p1⟩:=Yn (k:=b.ar) h0 (by omega:n<=20);rw[if_pos hc];simp[go_sem,w0,hn];refine fR (mW n h0 zOm b.ar zOm b3) (.zs (.zs .nil)) ?_;generalize hM:powI n b.ar=M at *
  have g:∀ i j,i<a.ts.length->j<=b.ts.length->(prL M (a.ts.take i) b.ts++(b.ts.take j).map fun t=>a.ts.getD i 0*M+t).length<=64000000:=fun i j hi hj=>by
   rw[zh,qkT,yu,ub,ub];have:(min i a.ts.length)*b.ts.length<=7999*8000:=Nat.mul_le_mul zOm lb;omega
  refine aA a.ts.length (fun i U=>U.tm 5 = .ip (cRel b)/\U.tm 6 = .ptr 0 0/\U.tm 8 = .ptr 1 0/\U.tm 9=aI M/\U.tm 32=lI a.ts/\U.tm 33=aI a.ts.length/\U.tm 34=aI i/\RelM U.mu (a.ar+b.ar) (prL M (a.ts.take i) b.ts)) ?_ ?_
  .refine ⟨zSi,zSi,zSi,zSi,zSi,zSi,zSi,.lst true [],zSi,zSi,.inl ⟨rfl,by simp[prL]⟩,by simp[qu],by simp[qu]⟩
  rintro i U hi ⟨e5,e6,e8,e9,a0,C,I,hr⟩;by_cases p:i<a.ts.length
  .have w1:=zWk i
   obtain⟨v0,v1⟩:=ha.val _ (qt p);obtain⟨q0,q1⟩:=Yn (k:=a.ar) h0 (by omega:n<=20);obtain⟨m0,m1⟩:=X0 (x:=8000) (y:=8000) v0 zOm p0 p1 zOm;have a4:a.ts.getD i 0=a.ts[i]:=by rw[List.getD_eq_getElem?_getD,qB p];rfl
   have g:=g i;rw[a4]at g;simp[go_sem,e5,a0,C,I,p];refine aA b.ts.length (fun j U=>U.tm 5 = .ip (cRel b)/\U.tm 6 = .ptr 0 0/\U.tm 8 = .ptr 1 0/\U.tm 9=aI M/\U.tm 11=aI a.ts[i]/\U.tm 32=lI a.ts/\U.tm 33=aI a.ts.length/\U.tm 34=aI i/\U.tm 39=lI b.ts/\U.tm 40=aI b.ts.length/\U.tm 41=aI j/\RelM U.mu (a.ar+b.ar) (prL M (a.ts.take i) b.ts++(b.ts.take j).map fun t=>a.ts[i] * M+t)) ?_ ?_
   .refine ⟨zS1 e5,zS1 e6,zS1 e8,zS1 e9,zSi,zS1 a0,zS1 C,zS1 I,zSi,zSi,zSi,zVs hr⟩
   rintro j U hj ⟨f5,f6,f8,f9,f11,f32,f33,f34,f39,f40,f41,av,g0,g1,J,n0,n1⟩;by_cases l:j<b.ts.length
   .have w2:=zWk j
    obtain⟨u0,u1⟩:=T.val _ (qt l);rw[hM]at u1;have w3:ql.wrap (a.ts[i] * M)=a.ts[i] * M:=zWr;have w4:ql.wrap (a.ts[i] * M+b.ts[j])=a.ts[i] * M+b.ts[j]:=zWr;simp[go_sem,f8,f9,f11,f39,f40,f41,l,g1,w3,w4];refine aY (e:=3) (bt:=8) (z:=0) zSi zSi zSi zOm J.v (by have:=g j p (by omega);omega) ?_;intro a9 o P a5 a6 a7;obtain⟨k1,k2⟩:=RelM.step g0 g1 n0 n1 P a5 a6 a7;simp[go_sem,f8,f41,k1,P.v.one,P.v.cells,w2];refine⟨l,aC ⟨zS1 f5,zS1 f6,zS1 f8,zS1 f9,zS1 f11,zS1 f32,zS1 f33,zS1 f34,zS1 f39,zS1 f40,zSi,?_⟩⟩;rw[jg l,zx,<-zG];exact k2
   .have R:j=b.ts.length:=by omega
    subst R;simp[go_sem,f34,f40,f41,w1];refine⟨p,aC ⟨zS1 f5,zS1 f6,zS1 f8,zS1 f9,zS1 f32,zS1 f33,zSi,?_⟩⟩;rw[jg p,qkS];rw[zi]at J;exact⟨av,g0,g1,J,n0,n1⟩
  .have R:i=a.ts.length:=by omega
   subst R;obtain⟨av,g0,g1,J,n0,n1⟩:=hr;rw[zi]at J;have a2:∀ c,(U.mu.set 0 c)[0]?=some c:=fun c=>qz (qh.1 g0).1
   simp[go_sem,e6,e8,C,I,g0,g1,a2,J.v.one];refine Yq (r:=prR n a b) ?_;unfold prR;rw[hM];refine aV (J.v.same fun b T=>?_);rw[zH (fun e=>n0 (by rw[e];exact T))]
 simp_all[go_sem,if_neg,Yq,Uz]
theorem X1(n)(J:0<=n)(o:n<=12)(a)(ha:GR n a)(h2:a.ar=2):qg qc 86 [aI n,eRel a] (eRel (trR n a)):=by
 refine qSV call86 func86 rfl ?_;have hl:=ha.len J zOm;have e2:powI n 2=n*n:=by
  have:=we (n:=n) (i:=1) (j:=1) zOm zOm zOm;rw[uD]at this;exact this
 have a8:n*n<=12*12:=jl o o J zOm;simp[go_sem,show (a.ts.length:Int)<=4294967296 by omega];refine aA a.ts.length (fun k U=>U.tm 0=aI n/\U.tm 4 = .ptr 0 0/\U.tm 5 = .sl 1 1 0 a.ts.length/\U.tm 13=lI a.ts/\U.tm 14=aI a.ts.length/\U.tm 15=aI k/\U.mu=[.arr [aI 0,.lst true []],.arr ((((a.ts.take k).map fun t=>t % n*n+t / n)++qM (a.ts.length-k) 0).map aI)]) ?_ ?_
 .simp [go_sem]
 rintro k U hk ⟨e0,e4,T,P,p,I,hm⟩;by_cases l:k<a.ts.length
 .have w1:=zWk k
  obtain⟨v0,v1⟩:=ha.val _ (qt l);rw[h2,e2]at v1;have hn:0<n:=by
   rcases Int.lt_or_eq_of_le J with h|h
   .exact h
   .exfalso;rw[<-h,Int.mul_zero]at v1;omega
  have a9:0<=a.ts[k] / n:=Int.ediv_nonneg v0 J;have aa:a.ts[k] / n<n:=Int.ediv_lt_of_lt_mul hn v1;have a0:0<=a.ts[k] % n:=Int.emod_nonneg _ zOm;have ab:a.ts[k] % n<n:=Int.emod_lt_of_pos _ hn;obtain⟨m0,m1⟩:=X0 (x:=12) (y:=12) a0 zOm J o zOm;have d1:a.ts[k].tdiv n=a.ts[k] / n:=Int.tdiv_eq_ediv_of_nonneg v0;have d2:a.ts[k].tmod n=a.ts[k] % n:=uq v0;have w2:ql.wrap (a.ts[k] / n)=a.ts[k] / n:=zWr;have w3:ql.wrap (a.ts[k] % n*n)=a.ts[k] % n*n:=zWr;have w4:ql.wrap (a.ts[k] % n*n+a.ts[k] / n)=a.ts[k] % n*n+a.ts[k] / n:=zWr;have a1:¬n=0:=zOm;have a6:qM (a.ts.length-k) (0:Int)=0 :: qM (a.ts.length-(k+1)) 0:=by
   rw[<-List.replicate_succ];congr 1;omega
  have g:∀ v:Int,((((a.ts.take k).map fun t=>t % n*n+t / n)++qM (a.ts.length-k) 0).map aI).set k (aI v)=(((a.ts.take k).map fun t=>t % n*n+t / n)++v :: qM (a.ts.length-(k+1)) 0).map aI:=fun v=>by
   simp_all
  have R:((((a.ts.take k).map fun t=>t % n*n+t / n)++qM (a.ts.length-k) 0).map aI).length=a.ts.length:=zSo;generalize hC:(((a.ts.take k).map fun t=>t % n*n+t / n)++qM (a.ts.length-k) 0).map aI=C at *
  simp[go_sem,P,p,I,hm,l];refine tR zKr ?_;simp[go_sem,e0,T,I,l,a1,d1,d2,w2,w3,w4,g,R,show k+1<=a.ts.length by omega,w1];refine aC ⟨zS1 e0,zS1 e4,zS1 T,zS1 P,zS1 p,zSi,?_⟩;simp only[qI];have e:(((a.ts.take (k+1)).map fun t=>t % n*n+t / n)++qM (a.ts.length-(k+1)) 0).map aI=(((a.ts.take k).map fun t=>t % n*n+t / n)++(a.ts[k] % n*n+a.ts[k] / n) :: qM (a.ts.length-(k+1)) 0).map aI:=by
   rw[jg l,zx (l₂:=[a.ts[k]]),zG];rfl
  rw[e];simp
 .have a2:k=a.ts.length:=by omega
  subst a2;rw[zi,Nat.sub_self,List.replicate_zero,yg]at hm;generalize hL:a.ts.map (fun t=>t % n*n+t / n)=L at *
  have a3:L.length=a.ts.length:=by rw[<-hL];simp
  simp only[p,I,hm,go_sem];have hs:=XZ [.arr [aI 0,.lst true []],.arr (L.map aI)] 2 (.sl 1 1 0 a.ts.length) L zOm (.inr ⟨1,by rw[a3],rfl⟩);simp[go_sem,T];refine fZ hs ?_ ?_
  .rintro r m ⟨x,h,ho,a4,ad,a5⟩
   cases h;have g0:=a4 0 zSp (by simp[qu]);have g:∀ c,(m.set 0 c)[0]?=some c:=fun c=>qz (qh.1 g0).1
   simp at g0;have hx:qu x≠some 0:=fun h=>by have:=a5 _ h;simp[qu]at this
   simp[go_sem,e4,g0,g,ho.one];unfold trR;rw[hL];refine aV (ho.same fun b hb=>?_);rw[zH (fun e=>hx (by rw[e];exact hb))]
  .rintro r m ⟨x,h,_⟩
   cases h
end
end ET
namespace EW
open EO EP EQ ER ET
inductive TagM (p:Mu->Prop):Type where
 |mk:TagM p
def Za(p:Mu->Prop)(_:TagM p)(mu:Mu):Prop:=p mu
theorem tL{p mu}(h:p mu):Za p .mk mu:=h
theorem tQ{P pl l caps ps g body Q st rows}(j:vJ P l caps rows)(I:Nat->Mu->Prop)(i:qX->Mu->Prop)
  (o:I 0 (st.mu++[.dead])) (p:∀ k mu,I k mu->I k (mu++[.dead])) (t:∀ e mu,i e mu->i e (mu++[.dead]))
  (C:∀ k x mu,rows[k]?=some x->I k mu->x.length=ps.size/\awp P pl g (asQ (fun st=>awp P pl body (rndQ (fun k=>Za (I k) .mk) (fun e=>Za (i e) .mk) k) st)) ⟨uy st.tm ps.toList x,mu⟩)
  (J:∀ mu,I rows.length mu->Q .normal ⟨st.tm,mu⟩) (R:∀ e mu,i e mu->Q e ⟨st.tm,mu⟩):wU P pl (.fn (.func l) [] caps) ps g body Q st:=
 tX j I i o p t C J R
abbrev tupCl(sc:Sc)(p:Int)(l:List Int):AV := .fn (.func 151) [] [.ip [lI l],.ip [aI p],.ip [lI sc.sC,aI sc.sN]]
theorem mX(sc p l):qg qc 78 [eSc sc,aI p,lI l] (tupCl sc p l):=by
 refine qSU call78 func78 rfl ?_;refine .hf _ (HF.fn (fun c g=>by simp at g) (fun c g=>?_));simp at g;rcases g with rfl|rfl|rfl
 .exact wq (zC _)
 .exact wq (HF.sc _)
 .exact HF.ip fun c g=>by simp at g;rcases g with rfl|rfl<;>first|exact zC _|exact HF.sc _
def tupR(sc:Sc):List Int->Int->List Int
 | [],p=>[p]
 |s :: l,p=>(qs (gI sc.sC s.toNat).toNat).flatMap fun k:Nat=>tupR sc l (p*sumI sc.sC+(sumI (sc.sC.take s.toNat)+k))
@[go_sem] theorem yl_cells(i):(AV.yl i).cells=[.yl i]:=rfl
@[go_sem] theorem yl_one(i):(AV.yl i).one=true:=rfl
theorem qkU(sc:Sc)(p):vJ qc 151 [.ip [lI []],.ip [aI p],.ip [lI sc.sC,aI sc.sN]] [[aI p]]:=by
 refine vJ.of call151 fun i I o t C g j l=>?_
 refine qSW call151 func151 rfl {} ?_;simp[go_sem];refine qe.yield (g 0 [aI p] j rfl l) ?_;simp_all[go_sem]
theorem qkV{i r}(h:i<r):∃ l,qs r=qs i++i :: l:=by
 refine⟨(qs r).drop (i+1),?_⟩;apply jZ;intro j;by_cases g:j<i
 .rw [qG (zUs g),Jl g,Jl zOm]
 .rw [yd zSo,List.length_range]
  by_cases e:j=i
  .subst e;simp[h]
  .obtain ⟨d,o⟩:∃ d,j-i=d+1:=⟨j-i-1,zOm⟩
   rw[o,List.getElem?_cons_succ,uO];congr 1;omega
theorem qkW{J:Type}(f){N k j}{x:J}(g:k<N)(h:(f k)[j]?=some x):((qs N).flatMap f)[((qs k).flatMap f).length+j]?=some x:=by
 obtain⟨l,e⟩:=qkV g;rw[e,List.flatMap_append,yd zOm,Nat.add_sub_cancel_left,uM,qG (qh.1 h).1];exact h
theorem JY{J:Type}(f:Nat->List J)(k):(qs (k+1)).flatMap f=(qs k).flatMap f++f k:=by
 rw[List.range_succ,List.flatMap_append];simp
theorem qkX(sc)(g:GSc sc)(hA:∀ a,a∈sc.sC->0<=a)(s)(P:s<sc.sC.length)(l)(hl:l.length<=10)(p)(hp:0<=p/\p<=1000000)
  (ih:∀ k,k<(gI sc.sC s).toNat->vJ qc 151 [.ip [lI l],.ip [aI (p*sumI sc.sC+(sumI (sc.sC.take s)+k))],.ip [lI sc.sC,aI sc.sN]] ((tupR sc l (p*sumI sc.sC+(sumI (sc.sC.take s)+k))).map fun t=>[aI t])) :
  vJ qc 151 [.ip [lI (s :: l)],.ip [aI p],.ip [lI sc.sC,aI sc.sN]] ((tupR sc (s :: l) p).map fun t=>[aI t]):=by
 refine vJ.of call151 fun i I Ix hS hX hY mu h0=>?_
 refine qSW call151 func151 rfl {} ?_;have hz:¬(l.length:Int)+1=0:=zOm;have a0:=XY sc g s zOm;have a1:WKs [eSc sc,aI s] [eSc sc,aI s] := .zk (zD sc) (.zs .nil);obtain⟨s0,s1⟩:=g.sum s;obtain⟨t0,t1⟩:=g.sum sc.sC.length;rw[zi]at t0 t1;have a2:gI sc.sC s=sc.sC[s]:=j9 P;have af:=hA _ (qt P);obtain⟨u0,u1⟩:=g.sum (s+1);rw[Qr _ _ P]at u1;have a3:=ZL sc g;have a4:WKs [eSc sc] [eSc sc] := .zk (zD sc) .nil;have C:tupR sc (s :: l) p=(qs (sc.sC[s]).toNat).flatMap fun k:Nat=>tupR sc l (p*sumI sc.sC+(sumI (sc.sC.take s)+k)):=by
  simp_all[tupR]
 rw[a2]at ih;obtain⟨m0,m1⟩:0<=p*sumI sc.sC/\p*sumI sc.sC<=1000000*20:=⟨Int.mul_nonneg hp.1 t0,jl hp.2 t1 t0 zOm⟩;have w2:ql.wrap (p*sumI sc.sC)=p*sumI sc.sC:=zWr;have w3:ql.wrap (sumI (sc.sC.take s)+sc.sC[s])=sumI (sc.sC.take s)+sc.sC[s]:=zWr;generalize hF:(fun k:Nat=>tupR sc l (p*sumI sc.sC+(sumI (sc.sC.take s)+k)))=F at *
 have a5:∀ k:Nat,tupR sc l (p*sumI sc.sC+(sumI (sc.sC.take s)+k))=F k:=fun k=>by rw[<-hF]
 simp only[a5]at ih;simp[go_sem,hz];refine fD ?_;refine tU a0 a1 ?_;generalize hn:sumI sc.sC=n at *
 generalize hf:sumI (sc.sC.take s)=f at *
 simp[go_sem];refine tV (fun m U=>∃ k,m=(sc.sC[s]).toNat-k/\k<=(sc.sC[s]).toNat/\U.tm 1 = .ip [lI (s :: l)]/\U.tm 2 = .ip [aI p]/\U.tm 3 = .ip [lI sc.sC,aI sc.sN]/\U.tm 4 = .ip [.yl i]/\U.tm 5=aI f/\U.tm 6=aI (f+(k:Nat))/\I ((qs k).flatMap F).length U.mu) (sc.sC[s]).toNat ?_ ?_
 .exact ⟨0,zOm,zOm,zSi,zSi,zSi,zSi,zSi,zSi,zVs h0⟩
 rintro m U ⟨k,rfl,hk,e1,e2,e3,e4,e5,e6,hI⟩;simp[go_sem];refine tR zKr ?_;by_cases R:k<(sc.sC[s]).toNat
 .have hb:f+(k:Int)<f+sc.sC[s]:=by omega
  have w4:ql.wrap (p*n+(f+k))=p*n+(f+k):=zWr;have w5:ql.wrap (f+(k:Int)+1)=f+((k+1:Nat):Int):=by rw[zWr];omega
  have T:WKs [eSc sc,aI (p*n+(f+k)),.lst false (l.map rI)] [eSc sc,aI (p*n+(f+k)),lI l] := .zk (zD sc) (.zs (.zk (zC l) .nil));have a6:=mX sc (p*n+(f+k)) l;simp[go_sem,e1,e3,e5,e6,P,w3,hb];refine tR zKr ?_;simp[go_sem,e2,e3];refine tU a3 a4 ?_;have a7:(1:Int)<=l.length+1:=zOm;have a8:List.take l.length (l.map rI)=l.map rI:=zY zSp;simp[go_sem,e1,e6,w2,w4,a7,a8];refine⟨⟨_,_,⟨rfl,rfl⟩,(je (s :: l)).ok⟩,?_⟩;refine fR a6 T ?_;refine tQ (ih k R) (fun j M=>I (((qs k).flatMap F).length+j) M) (fun e M=>e = .ret/\Ix M) ?_ ?_ ?_ ?_ ?_ ?_
  .simpa [go_sem] using hS _ _ hI
  .intro j M h;exact hS _ _ h
  .rintro e M ⟨h1,h2⟩;exact⟨h1,hX _ h2⟩
  .rintro j x M hj a9
   rw[zB,um]at hj;obtain⟨t,ht,rfl⟩:=hj;have J:(((qs (sc.sC[s]).toNat).flatMap F).map fun t=>[aI t])[((qs k).flatMap F).length+j]?=some [aI t]:=by
    rw[zB,qkW F R ht];rfl
   rw[<-C]at J;refine⟨rfl,?_⟩;simp[go_sem,e4];refine qe.yield (hY _ _ _ J a9) ?_;rintro b o (⟨rfl,aa⟩|⟨rfl,ab⟩)
   .simp [go_sem]
    exact tL aa
   .simp [go_sem]
    exact tL ⟨rfl,ab⟩
  .rintro M ad
   simp[go_sem,e6,w5];refine Keep.loop ((sc.sC[s]).toNat-(k+1)) zOm ⟨k+1,rfl,zOm,zS1 e1,zS1 e2,zS1 e3,zS1 e4,zS1 e5,zSi,?_⟩;rw[JY,zh];simpa[go_sem] using ad
  .rintro e M ⟨rfl,h2⟩
   simp[go_sem];exact .inr h2
 .have ae:k=(sc.sC[s]).toNat:=by omega
  have hb:¬f+(k:Int)<f+sc.sC[s]:=zOm;simp[go_sem,e1,e3,e5,e6,P,w3,hb];rw[C,<-ae];exact .inl hI
def bdT:Nat->Int
 | 0=>1000000000
 | 1=>1000000
 | 2=>40000
 |_=>1000
theorem mY(d)(g:d<3){p q n}(i:0<=p)(j:p<=bdT (d+1))(n0:0<=n)(l:n<=20)(o:0<=q)(q1:q<=20):0<=p*n+q/\p*n+q<=bdT d/\p<=1000000:=by
 have a:0<=p*n:=Int.mul_nonneg i n0;have b:p*n<=bdT (d+1)*20:=jl j l n0 zOm
 match d,g with
 | 0,_=>grind [bdT]
 | 1,_=>grind [bdT]
 | 2,_=>grind [bdT]
def OkS(sc:Sc)(l:List Int):Prop:=∀ s,s∈l->0<=s/\s<sc.sC.length
theorem mZ(sc)(g:GSc sc)(I:∀ a,a∈sc.sC->0<=a):∀ l,OkS sc l->l.length<=3->∀ p,0<=p->p<=bdT l.length->vJ qc 151 [.ip [lI l],.ip [aI p],.ip [lI sc.sC,aI sc.sN]] ((tupR sc l p).map fun t=>[aI t])
 | [],_,_,p,_,_=>qkU sc p
 |s :: l,i,J,p,j,o=>by
  obtain⟨n,rfl⟩:∃ n:Nat,s=n:=⟨s.toNat,zW1 ((i s zSp).1)⟩;have C:n<sc.sC.length:=zW1 ((i n zSp).2);simp only[yh]at J o;obtain⟨t0,t1⟩:=g.sum sc.sC.length;rw[zi]at t0 t1;refine qkX sc g I n C l zOm p ⟨j,(mY l.length zOm j o t0 t1 (q:=0) zOm zOm).2.2⟩ fun k P=>?_
  obtain⟨u0,R⟩:=g.sum (n+1);rw[Qr _ _ C]at R;rw[j9 C]at P;obtain⟨s0,s1⟩:=g.sum n;obtain⟨T,U,_⟩:=mY l.length zOm j o t0 t1 (q:=sumI (sc.sC.take n)+k) zOm zOm;exact mZ sc g I l (fun x hx=>i x (zP1 hx)) zOm _ T U
theorem X2(sc)(g:GSc sc)(o:∀ a,a∈sc.sC->0<=a):∀ l,OkS sc l->∀ p,(tupR sc l p).length<=20 ^ l.length
 | [],_,p=>by simp[tupR]
 |s :: l,i,p=>by
  obtain⟨n,rfl⟩:∃ n:Nat,s=n:=⟨s.toNat,zW1 ((i s zSp).1)⟩;have j:n<sc.sC.length:=zW1 ((i n zSp).2);obtain⟨P,t⟩:=g.sum (n+1);obtain⟨R,s1⟩:=g.sum n;rw[Qr _ _ j]at t;have C:=X2 sc g o l (fun x I=>i x (zP1 I));rw[tupR,show (n:Int).toNat=n by omega,j9 j];have key:∀ m:Nat,((qs m).flatMap fun k:Nat=>tupR sc l (p*sumI sc.sC+(sumI (sc.sC.take n)+k))).length<=m*20 ^ l.length:=by
   intro m;induction m with
   |zero=>simp
   |succ m J =>
    rw[JY,zh,Nat.succ_mul];have:=C (p*sumI sc.sC+(sumI (sc.sC.take n)+m));omega
  refine zS (key _) ?_;rw[yh,Nat.pow_succ,Nat.mul_comm];exact Nat.mul_le_mul_left _ zOm
theorem UA(n a b):qg qc 77 [aI n,aI a,aI b] (aB (decide (a<=n)&&decide (n<=b))):=by
 refine qSV call77 func77 rfl ?_;by_cases g:a<=n
 .simp [go_sem,g]
  exact .zsc _
 .simp [go_sem,g]
  exact .zsc _
theorem wk3I(a b c):WKs [aI a,aI b,aI c] [aI a,aI b,aI c] := .zs (.zs (.zs .nil))
theorem X3(sc)(g:GSc sc)(hA:∀ a,a∈sc.sC->0<=a)(l)(hs:OkS sc l)(h1:1<=l.length)(h3:l.length<=3):qg qc 39 [eSc sc,lI l] (eRel ⟨l.length,tupR sc l 0⟩):=by
 refine qSV call39 func39 rfl ?_;have b1:(1:Int)<=l.length:=zOm;have b3:(l.length:Int)<=3:=zOm;have hg:=g.1;have w1:=UA l.length 1 3;rw[decide_eq_true b1,decide_eq_true b3]at w1;simp[go_sem];refine fR w1 (wk3I _ _ _) ?_;refine aA l.length (fun k U=>U.tm 1=lI l/\U.tm 2 = .ip [lI sc.sC,aI sc.sN]/\U.tm 4 = .ptr 0 0/\U.tm 14=lI l/\U.tm 15=aI l.length/\U.tm 16=aI k/\U.mu=[.arr [aI 0,.lst true []]]) ?_ ?_
 .simp [go_sem]
 rintro k U hk ⟨e1,e2,e4,a0,C,I,hm⟩;by_cases J:k<l.length
 .have wk:=zWk k
  have wl:ql.wrap ((sc.sC.length:Int)-1)=(sc.sC.length:Int)-1:=zWr;obtain⟨q0,q1⟩:=hs _ (qt J);have w2:=UA l[k] 0 ((sc.sC.length:Int)-1);rw[decide_eq_true q0,decide_eq_true (by omega:l[k]<=(sc.sC.length:Int)-1)]at w2;simp[go_sem,e2,a0,C,I,hm,J,wl];refine tU w2 (wk3I _ _ _) ?_;simp_all[go_sem,aC]
 .have a1:k=l.length:=by omega
  subst a1;have a6:=X2 sc g hA l hs 0;have hp:20 ^ l.length<=8000:=by
   have:l.length=1\/l.length=2\/l.length=3:=zOm
   grind
  have a2:(0:Int)<=bdT l.length:=by
   have:l.length=1\/l.length=2\/l.length=3:=zOm
   grind [bdT]
  simp[go_sem,e1,e2,C,I,hm];refine fR (mX sc 0 l) (.zk (zD sc) (.zs (.zk (zC l) .nil))) ?_;refine tQ (mZ sc g hA l hs h3 0 zOm a2) (fun j M=>RelM M l.length ((tupR sc l 0).take j)) (fun _ _=>False) ?_ ?_ ?_ ?_ ?_ ?_
  .exact ⟨.lst true [],zSi,zSi,.inl ⟨rfl,rfl⟩,by simp[qu],by simp[qu]⟩
  .rintro j M ⟨av,P,g1,i,n0,T⟩
   exact⟨av,by grind,by grind,i.same fun b hb=>by rw[qG (i.v.lt hb)],n0,T⟩
  .grind
  .rintro j x M hj ⟨av,P,g1,i,n0,T⟩
   rw[zB,um]at hj;obtain⟨t,ht,rfl⟩:=hj;obtain⟨a7,a8⟩:=qh.1 ht;refine⟨rfl,?_⟩;simp[go_sem,g1];refine aY (e:=3) (bt:=8) (z:=0) zSi zSi zSi zOm i.v zSo ?_;intro a9 o p a3 a4 a5;obtain⟨k1,k2⟩:=RelM.step P g1 n0 T p a3 a4 a5;simp[go_sem,k1,p.v.one,p.v.cells]
   grind [tL,jg]
  .rintro M ⟨av,P,g1,i,n0,T⟩
   rw[yu,zi]at i;have R:∀ c,(M.set 0 c)[0]?=some c:=fun c=>qz (qh.1 P).1
   simp[go_sem,e4,P,g1,R,i.v.one];refine aV (i.v.same fun b hb=>?_);rw[zH (fun e=>n0 (by rw[e];exact hb))]
  grind
end EW
namespace EU
open E1 EO EP EQ ER ET
abbrev imG(g:List (Int×List Int)):AV := .im (encK (fun n:Int=>aI n) lI g)
abbrev matC(n m:Int)(a b:Rl):List AV:=[.ip (cRel a),.ip [imG (grpK m b.ts)],.ip [aI n],.ip [aI m]]
theorem qkY(n m)(hm:0<m)(ae:m<=8000)(a b)(hb:∀ t,t∈b.ts->0<=t/\t<=1000000)(hl:b.ts.length<=1000000):qg qc 162 [aI n,aI m,eRel a,eRel b] (.fn (.func 229) [] (matC n m a b)):=by
 refine qSV call162 func162 rfl ?_;obtain⟨B,hB⟩:∃ B,B=AV.mp 0:=⟨_,rfl⟩;have af:B.cells=[B]:=by rw[hB];rfl
 have ag:B.one=true:=by rw[hB];rfl
 simp[go_sem];refine aA b.ts.length (fun k U=>U.tm 4 = .ip [aI n]/\U.tm 5 = .ip [aI m]/\U.tm 6 = .ip (cRel a)/\U.tm 9 = .ptr 1 0/\U.tm 14=lI b.ts/\U.tm 15=aI b.ts.length/\U.tm 16=aI k/\U.mu[1]?=some (.arr [B])/\∃ i,GrpM U.mu 0 (grpK m (b.ts.take k)) i/\∀ q v,getK q i=some v->∀ x,qu v=some x->2<=x) ?_ ?_
 .refine ⟨zSi,zSi,zSi,zSi,zSi,zSi,zSi,by simp[go_sem,hB],[],GrpM.nil zSi,fun q v h=>by simp[getK]at h⟩
 rintro k U hk ⟨e4,e5,e6,e9,a1,J,P,g1,i,hG,h2⟩;by_cases j:k<b.ts.length
 .have w1:=zWk k
  obtain⟨v0,v1⟩:=hb _ (qt j);have d1:b.ts[k].tdiv m=b.ts[k] / m:=Int.tdiv_eq_ediv_of_nonneg v0;have d2:b.ts[k].tmod m=b.ts[k] % m:=uq v0;have q0:0<=b.ts[k] / m:=Int.ediv_nonneg v0 zOm;have q1:b.ts[k] / m<=b.ts[k]:=Int.ediv_le_self _ v0;have w2:ql.wrap (b.ts[k] / m)=b.ts[k] / m:=zWr;have a8:¬m=0:=zOm;have hs:=mO m (b.ts.take k) b.ts[k];rw[<-jg j]at hs;have a2:=hG.cur (b.ts[k] / m);have a9:=keyI.look (et:=28) (t:=284) zSi (mu:=U.mu) (m := .mp 0) (venc:=id) (es:=i) (by simp only[jD,hG.at0]) (k:=b.ts[k] / m) trivial (fun _ _=>trivial) (z := .lst true []) zSi false;have R:yj qc U.mu 284 B (aI (b.ts[k] / m)) false=some ((getK (b.ts[k] / m) i).getD (.lst true [])):=by
   rw[hB];refine Eq.trans a9 ?_;cases getK (b.ts[k] / m) i<;>rfl
  have T:=fun (o:Mu) (av:AV) (l:List Int)=>GrpM.step (mu':=o) (av:=av) (l:=l) (k:=b.ts[k] / m) hG
  have aa:∀ x,qu ((getK (b.ts[k] / m) i).getD (.lst true []))=some x->2<=x:=by
   intro x g;cases hc:getK (b.ts[k] / m) i with
   |none=>rw[hc]at g;simp[qu]at g
   |some v=>rw[hc]at g;exact h2 _ _ hc x g
  have ah:((getK (b.ts[k] / m) (grpK m (b.ts.take k))).getD []).length<=k:=by
   rw[Uy m b.ts k zOm,yu];exact zS (List.length_filter_le _ _) zSo
  simp[go_sem,a1,J,P,j];refine fG [0,1,2,3,4,5,6,7,8,9,10,11,12,13,14] [(0,0,[]),(1,0,[]),(2,0,[]),(3,0,[]),(4,0,[]),(5,0,[]),(6,0,[]),(7,0,[]),(8,0,[]),(9,0,[]),(10,0,[]),(11,0,[]),(12,0,[]),(13,1,[0,2]),(14,1,[])] zKr zKr zSi ?_;simp[go_sem,e5,e9,g1,a8,d1,d2,w2,R];refine aY (e:=3) (bt:=8) (z:=0) (l:=(getK (b.ts[k] / m) (grpK m (b.ts.take k))).getD []) zSi zSi zSi zOm a2.v zOm ?_;intro a0 o ab a4 ai a5;obtain⟨k1,k2⟩:=T o a0 _ ab a4 a5;rw[<-hs]at k2;have a6:ju qc o 284 (.mp 0) (aI (b.ts[k] / m)) a0=_:=keyI.update (et:=28) (t:=284) zSi (mu:=o) (b:=0) (venc:=id) (es:=i) k1 (k:=b.ts[k] / m) (v:=a0) trivial (fun _ _=>trivial);have l1:1<U.mu.length:=(qh.1 g1).1;have a7:o[1]?=some (.arr [B]):=by rw[a4 1 l1 (fun e=>zW1 (aa 1 e))];exact g1
  simp[go_sem,e5,e9,a7];subst hB;refine tH _ a6 ?_;simp[go_sem,P,j,w1];refine aC ⟨zS1 e4,zS1 e5,zS1 e6,zS1 e9,zS1 a1,zS1 J,zSi,?_,_,zVs k2,fun q v hq x g=>?_⟩
  .simp only[qI]
   rw[zGl];exact a7
  .rw [jy]at hq
   split at hq
   .cases hq;have:=a5 x g;omega
   .exact h2 q v hq x g
 .have ad:k=b.ts.length:=by omega
  subst ad;rw[zi]at hG;simp[go_sem,e4,e5,e6,e9,J,P];refine .fn _ _ _ _ _ rfl rfl (fun k x y g=>by simp at g) (fun k x y g p=>?_)
  match k with
  | 0=>simp at g p;subst g;subst p;exact .hf _ (HF.ip (Ua a))
  | 1=>simp at g p;subst g;subst p;rw[hB]at g1;exact Rd.ip1 g1 (hG.rd (qkK m b.ts))
  | 2=>simp at g p;subst g;subst p;exact .hf _ (wq (HF.sc _))
  | 3=>simp at g p;subst g;subst p;exact .hf _ (wq (HF.sc _))
  |k+4=>simp at g
theorem lookG(mu m ys k):∃ f,yj qc mu 284 (imG (grpK m ys)) (aI k) false=some (.lst f (((getK k (grpK m ys)).getD []).map rI)):=by
 have:=keyI.look (et:=28) (t:=284) zSi (mu:=mu) (m:=imG (grpK m ys)) (venc:=lI) (es:=grpK m ys) rfl (k:=k) trivial (fun _ _=>trivial) (z := .lst true []) zSi false;simp only[yj];cases h:getK k (grpK m ys) with
 |none=>rw[h]at this;exact⟨true,this⟩
 |some l=>rw[h]at this;exact⟨false,this⟩
theorem qkZ{J g:Type}(f){l:List J}{k j}{x:g}(i)(h:(f l[k])[j]?=some x):(l.flatMap f)[((l.take k).flatMap f).length+j]?=some x:=by
 have e:l=l.take k++l[k] :: l.drop (k+1):=by rw[<-zg i,List.take_append_drop]
 have o:l.flatMap f=(l.take k).flatMap f++(f l[k]++(l.drop (k+1)).flatMap f):=by
  conv=>lhs;rw[e]
  rw[List.flatMap_append,uM]
 rw[o,yd zOm,Nat.add_sub_cancel_left,qG (qh.1 h).1];exact h
theorem qk0(n m)(hn:0<n)(aa:n<=20)(hm:0<m)(a4:m<=8000)(a b)(ha:∀ t,t∈a.ts->0<=t/\t<=1000000)(ab:a.ts.length<=1000000)(a5:b.ts.length<=1000000) :
  vJ qc 229 (matC n m a b) ((joL n m a.ts b.ts).map fun t=>[aI t]):=by
 refine vJ.of call229 fun i I Ix hS hX hY mu h0=>?_
 refine qSW call229 func229 rfl {} ?_;have T:=fun mu=>lookG mu m b.ts
 obtain⟨B,hB⟩:∃ B,B=imG (grpK m b.ts):=⟨_,rfl⟩;have ad:B.cells=[B]:=by rw[hB];rfl
 have ae:B.one=true:=by rw[hB];rfl
 simp only[<-hB]at T⊢;rw[<-qkL]at hY⊢;generalize hF:(fun s=>((getK (s % n) (grpK m b.ts)).getD []).map fun t=>s / n*m+t)=F at *
 have a6:∀ s,F s=((getK (s % n) (grpK m b.ts)).getD []).map fun t=>s / n*m+t:=fun s=>by rw[<-hF]
 simp[go_sem];refine aA a.ts.length (fun k U=>U.tm 0 = .yl i/\U.tm 2 = .ip [B]/\U.tm 3 = .ip [aI n]/\U.tm 4 = .ip [aI m]/\U.tm 11=lI a.ts/\U.tm 12=aI a.ts.length/\U.tm 13=aI k/\I ((a.ts.take k).flatMap F).length U.mu) ?_ ?_
 .exact ⟨zSi,by simp[go_sem,hB],zSi,zSi,zSi,zSi,zSi,zVs h0⟩
 rintro k U hk ⟨e0,e2,e3,e4,a0,p,C,R⟩;by_cases l:k<a.ts.length
 .have w1:=zWk k
  obtain⟨v0,v1⟩:=ha _ (qt l);have d1:a.ts[k].tdiv n=a.ts[k] / n:=Int.tdiv_eq_ediv_of_nonneg v0;have d2:a.ts[k].tmod n=a.ts[k] % n:=uq v0;have q0:0<=a.ts[k] / n:=Int.ediv_nonneg v0 zOm;have q1:a.ts[k] / n<=a.ts[k]:=Int.ediv_le_self _ v0;have w2:ql.wrap (a.ts[k] / n)=a.ts[k] / n:=zWr;have a1:¬n=0:=zOm;obtain⟨f,J⟩:=T U.mu (a.ts[k] % n);have a7:((getK (a.ts[k] % n) (grpK m b.ts)).getD []).length<=1000000/\∀ t,t∈(getK (a.ts[k] % n) (grpK m b.ts)).getD []->0<=t/\t<m:=by
   have:=Uy m b.ts b.ts.length (qj _) (a.ts[k] % n);rw[zi]at this;rw[this];refine⟨by rw[yu];exact zS (List.length_filter_le _ _) a5,fun t ht=>?_⟩;obtain⟨u,_,rfl⟩:=qn.1 ht;exact⟨Int.emod_nonneg _ zOm,Int.emod_lt_of_pos _ hm⟩
  have a2:=a6 a.ts[k];generalize (getK (a.ts[k] % n) (grpK m b.ts)).getD []=L at *
  obtain⟨m0,m1⟩:=X0 (x:=1000000) (y:=8000) q0 zOm (by omega:0<=m) a4 zOm;have w3:ql.wrap (a.ts[k] / n*m)=a.ts[k] / n*m:=zWr;simp[go_sem,a0,p,C,l];refine tR zKr ?_;simp[go_sem,e2,e3,a1,d2,J];refine aA L.length (fun j U=>U.tm 0 = .yl i/\U.tm 2 = .ip [B]/\U.tm 3 = .ip [aI n]/\U.tm 4 = .ip [aI m]/\U.tm 7=aI a.ts[k]/\U.tm 11=lI a.ts/\U.tm 12=aI a.ts.length/\U.tm 13=aI k/\U.tm 21 = .lst f (L.map rI)/\U.tm 22=aI L.length/\U.tm 23=aI j/\I (((a.ts.take k).flatMap F).length+j) U.mu) ?_ ?_
  .exact ⟨zS1 e0,zS1 e2,zS1 e3,zS1 e4,zSi,zS1 a0,zS1 p,zS1 C,zSi,zSi,zSi,zVs R⟩
  rintro j U hj ⟨f0,f2,f3,f4,f7,f11,f12,f13,f21,f22,f23,R⟩;by_cases g:j<L.length
  .have w4:=zWk j
   obtain⟨u0,u1⟩:=a7.2 _ (qt g);have w5:ql.wrap (a.ts[k] / n*m+L[j])=a.ts[k] / n*m+L[j]:=zWr;have a3:((a.ts.flatMap F).map fun t=>[aI t])[((a.ts.take k).flatMap F).length+j]?=some [aI (a.ts[k] / n*m+L[j])]:=by
    rw[zB,qkZ F l (x:=a.ts[k] / n*m+L[j]) (by rw[a2,zB,qB g];rfl)];rfl
   simp[go_sem,f21,f22,f23,g];refine qi.tail 8 zKr ?_;simp[go_sem,f0,f3,f4,f7,a1,d1,w2,w3,w5];refine qe.yield (hY _ _ _ a3 R) ?_;rintro b o (⟨rfl,a8⟩|⟨rfl,a9⟩)
   .simp [go_sem,f23,g,w4]
    exact aC ⟨zS1 f0,zS1 f2,zS1 f3,zS1 f4,zS1 f7,zS1 f11,zS1 f12,zS1 f13,zS1 f21,zS1 f22,zSi,a8⟩
   .simp [go_sem]
    exact .inr a9
  .have P:j=L.length:=by omega
   subst P;simp[go_sem,f13,f22,f23,w1];refine⟨l,aC ⟨zS1 f0,zS1 f2,zS1 f3,zS1 f4,zS1 f11,zS1 f12,zSi,?_⟩⟩;rw[jg l,List.flatMap_append,zh];simpa[go_sem,a2] using R
 .have P:k=a.ts.length:=by omega
  subst P;rw[zi]at R;simp[go_sem,p,C];exact .inl (by simpa[List.length_flatMap] using R)
end EU
namespace EC
open E1 E2
theorem Yr{n u v:Int}(g:0<n)(i:0<=v)(j:v<n):(u*n+v) / n=u/\(u*n+v) % n=v:=
 (Int.ediv_emod_unique g).2 ⟨by grind,i,j⟩
theorem qk1{n u v i g:Int}(j:0<n)(l:0<=v)(o:v<n)(p:0<=g)(t:g<n)(e:u*n+v=i * n+g):u=i/\v=g:=by
 obtain⟨a,b⟩:=Yr (u:=u) j l o;simp_all[Yr]
theorem UB(n):powI n 2=n*n:=by
 have:=we (n:=n) (i:=1) (j:=1) zOm zOm zOm;rw[uD]at this;exact this
theorem aJ{n a}(j:0<=n)(g:GR n a)(l:a.ar=2){t}(o:t∈a.ts):0<n/\∃ u v,0<=u/\u<n/\0<=v/\v<n/\t=u*n+v:=by
 obtain⟨t0,t1⟩:=g.val t o;rw[l,UB]at t1;have i:0<n:=by
  rcases Int.lt_or_eq_of_le j with h|h
  .exact h
  .exfalso;rw[<-h,Int.mul_zero]at t1;omega
 refine⟨i,t / n,t % n,Int.ediv_nonneg t0 j,Int.ediv_lt_of_lt_mul i t1,Int.emod_nonneg _ zOm,Int.emod_lt_of_pos _ i,?_⟩
 grind [Int.mul_ediv_add_emod,Int.mul_comm]
theorem m5{n a b}(R:0<=n)(U:GR n a)(hb:GR n b)(ea:a.ar=2)(eb:b.ar=2)(t):t∈(joR n a b).ts↔∃ u w v,0<=w/\w<n/\0<=v/\v<n/\u*n+w∈a.ts/\w*n+v∈b.ts/\t=u*n+v:=by
 have hm:powI n (b.ar-1)=n:=by grind [uD]
 have g:t∈(joR n a b).ts↔t∈joL n n a.ts b.ts:=by
  grind [joR,vO]
 rw[g];unfold joL;rw[vZ];constructor
 .rintro ⟨s,T,ht⟩
  obtain⟨r,hr,rfl⟩:=qn.1 ht;obtain⟨i,l⟩:=y5.1 hr;obtain⟨j,u,w,u0,u1,o,p,rfl⟩:=aJ R U ea T;obtain⟨_,y,v,y0,y1,v0,v1,rfl⟩:=aJ R hb eb i;obtain⟨C,I⟩:=Yr (u:=u) j o p;obtain⟨J,P⟩:=Yr (u:=y) j v0 v1;rw[J,I]at l;have l:y=w:=zUs l;subst l;exact⟨u,y,v,o,p,v0,v1,T,i,by rw[C,P]⟩
 .rintro ⟨u,w,v,o,p,v0,v1,h1,h2,rfl⟩
  have j:0<n:=zOm;obtain⟨C,I⟩:=Yr (u:=u) j o p;obtain⟨J,P⟩:=Yr (u:=w) j v0 v1;exact⟨_,h1,qn.2 ⟨_,y5.2 ⟨h2,by rw[J,I];simp⟩,by rw[C,P]⟩⟩
theorem ZM(a b t):t∈(unR a b).ts↔t∈a.ts\/t∈b.ts:=by
 have:=(vO (a.ts++b.ts)).2 t;rw[qO]at this;exact this
inductive Tc (A:Int->Int->Prop):Int->Int->Prop
 |base {u v:Int} (h:A u v):Tc A u v
 |trans {u w v:Int} (h1:Tc A u w) (h2:Tc A w v):Tc A u v
def Pr(n:Int)(l:List Int)(u v:Int):Prop:=0<=u/\u<n/\0<=v/\v<n/\u*n+v∈l
theorem m8{l m}(o:zq l)(I:zq m)(J:∀ t,t∈l->t∈m)(e:m.length=l.length):∀ t,t∈m->t∈l:=fun t p =>
 Classical.byContradiction fun C=>by
  have:=jm (l₁:=t :: l) (l₂:=m) (List.nodup_cons.2 ⟨C,Q0 o⟩) fun x j=>by
   rcases qy.1 j with rfl|j
   .exact p
   grind
  simp at this;omega
theorem m9{n}(l:0<=n)(i:n<=12)(A):∀(f){c},145<=f+c.ts.length->GR n c->c.ar=2->(∀ u v,Pr n c.ts u v->Tc A u v) ->
  (∀ t,t∈c.ts->t∈(clR n f c).ts)/\(∀ u v,Pr n (clR n f c).ts u v->Tc A u v)/\∀ u w v,Pr n (clR n f c).ts u w->Pr n (clR n f c).ts w v->Pr n (clR n f c).ts u v
 | 0,c,hf,g,j,o=>by
  exfalso;have:=Ym (m:=144) g.srt fun t p=>by
   obtain⟨a,b⟩:=g.val t p;rw[j,UB]at b;have:n*n<=12*12:=jl i i l zOm;omega
  omega
 |f+1,c,hf,g,j,o=>by
  have gj:=GR.join l g g zOm zOm;have gu:=aM g gj (by show c.ar=c.ar+c.ar-2;omega);rw[clR];by_cases T:(unR c (joR n c c)).ts.length=c.ts.length
  .rw [if_pos T]
   refine⟨fun t h=>h,o,fun u w v U C=>?_⟩;obtain⟨I,J,P,R,U⟩:=U;obtain⟨_,_,v0,v1,C⟩:=C;refine⟨I,J,v0,v1,m8 g.srt gu.srt (fun t p=>(ZM _ _ t).2 (.inl p)) T _ ((ZM _ _ _).2 (.inr ?_))⟩;exact(m5 l g g j j _).2 ⟨u,w,v,P,R,v0,v1,U,C,rfl⟩
  .rw [if_neg T]
   have a2:c.ts.length<=(unR c (joR n c c)).ts.length:=jm (Q0 g.srt) fun t p=>(ZM _ _ t).2 (.inl p)
   obtain⟨r1,r2,r3⟩:=m9 l i A f (c:=unR c (joR n c c)) zOm gu j fun u v hp=>by
    obtain⟨I,J,v0,v1,hp⟩:=hp;rcases (ZM _ _ _).1 hp with h|h
    .exact o u v ⟨I,J,v0,v1,h⟩
    .obtain ⟨u',w,v',P,R,a0,a1,C,h4,e⟩:=(m5 l g g j j _).1 h
     obtain⟨rfl,rfl⟩:=qk1 zOm v0 v1 a0 a1 e;exact .trans (o u w ⟨I,J,P,R,C⟩) (o w v ⟨P,R,v0,v1,h4⟩)
   grind [ZM]
theorem qaA{n}(j:0<=n)(i:n<=12){a}(g:GR n a)(l:a.ar=2)(u v):Pr n (clR n 200 a).ts u v↔Tc (Pr n a.ts) u v:=by
 obtain⟨o,p,I⟩:=m9 j i (Pr n a.ts) 200 zOm g l fun u v h => .base h
 refine⟨p u v,fun h=>?_⟩;induction h with
 |base h=>obtain⟨t,C,v0,v1,h⟩:=h;exact⟨t,C,v0,v1,o _ h⟩
 |trans _ _ J P=>grind
end EC
namespace EY
open E1 E2 E3 EO EP EQ ET EW EU EC
def GatM(mu:Mu)(l:List Int):Prop:=∃ t,mu[0]?=some (.arr [aI 0,.lst true []])/\mu[1]?=some (.arr [t])/\OwnI mu t l/\qu t≠some 0/\qu t≠some 1
theorem GatM.step{mu mu':Mu}{av g l}(I:mu[0]?=some (.arr [aI 0,.lst true []]))(j:mu[1]?=some (.arr [av]))(n0:qu av≠some 0)(J:qu av≠some 1)(o:OwnI mu' g l)
  (P:∀ i,i<mu.length->qu av≠some i->mu'[i]?=mu[i]?) (R:mu.length<=mu'.length) (T:∀ b,qu g=some b->b=mu.length):mu'[1]?=some (.arr [av])/\GatM (mu'.set 1 (.arr [g])) l:=by
 have U:1<mu.length:=(qh.1 j).1;have p:qu g≠some 0:=fun e=>by grind
 have t:qu g≠some 1:=fun e=>by grind
 refine⟨by grind,g,by grind,by grind,o.same fun b C=>?_,p,t⟩
 grind
theorem GatM.push{mu l}(h:GatM mu l):GatM (mu++[.dead]) l:=by
 obtain⟨t,o,g1,g,n0,i⟩:=h;exact⟨t,by grind,by grind,g.same fun b j=>by rw[qG (g.v.lt j)],n0,i⟩
theorem GR.none{n}(h:n=0){a}(g:GR n a):a.ts=[]:=by
 cases i:a.ts with
 |nil=>rfl
 |cons t l =>
  exfalso;obtain⟨v0,v1⟩:=g.val t (by rw[i];simp);have o:=g.ar1;rw[wd zOm g.ar3,h]at v1;have:(0:Int) ^ a.ar.toNat=0:=by
   obtain⟨k,j⟩:∃ k,a.ar.toNat=k+1:=⟨a.ar.toNat-1,zOm⟩;rw[j,Int.pow_succ,Int.mul_zero]
  omega
theorem qk2(n m x y):(joL n m x y).length<=x.length*y.length:=by
 induction x with
 |nil=>simp[joL]
 |cons s x g =>
  simp only[joL,uM,zh,yu,yh]at g⊢;have:=List.length_filter_le (fun t=>decide (t / m=s % n)) y;rw[Nat.add_mul];omega
theorem u7(n)(l:0<=n)(ah:n<=12)(a b)(C:GR n a)(p:GR n b)(hs:a.ar+b.ar<=5->a.ts.length*b.ts.length<=1000000):qg qc 96 [aI n,eRel a,eRel b] (match uf n a b with | .ok r => .tup [eRel r,aI 0] | .error e => .tup [eRel ⟨0,[]⟩,aI e]):=by
 refine qSV call96 func96 rfl ?_;have a1:=C.ar1;have a3:=C.ar3;have b1:=p.ar1;have b3:=p.ar3;have la:=C.len l zOm;have lb:=p.len l zOm;have w0:ql.wrap (a.ar+b.ar)=a.ar+b.ar:=zWr;have w1:ql.wrap (a.ar+b.ar-2)=a.ar+b.ar-2:=zWr;unfold uf;by_cases a0:1<=a.ar+b.ar-2
 case neg =>
  have I:a.ar+b.ar-2<1:=zOm;rw[zIn];simp_all[go_sem,Yq,Uz]
 by_cases a2:a.ar+b.ar-2<=3
 case neg =>
  have I:¬a.ar+b.ar-2<1:=zOm;have g:3<a.ar+b.ar-2:=zOm;rw[zIn];simp[go_sem,w0,w1,I,g];exact Yq Uz
 have I:¬a.ar+b.ar-2<1:=zOm;have g:¬ 3<a.ar+b.ar-2:=zOm;rw[if_pos ⟨a0,a2⟩];by_cases hz:n=0
 .have e:joR n a b=⟨a.ar+b.ar-2,[]⟩:=by
   unfold joR;rw[GR.none hz C];rfl
  simp[go_sem,w0,w1,I,g,hz]
  grind [Yq,Uz]
 have ai:1<=n:=zOm;have w2:ql.wrap (b.ar-1)=b.ar-1:=zWr;have hp:0<powI n (b.ar-1):=Int.pow_pos zOm;obtain⟨p0,p1⟩:=Yn (k:=b.ar-1) l (by omega:n<=20);obtain⟨q0,q1⟩:=Yn (k:=b.ar) l (by omega:n<=20);obtain⟨r0,r1⟩:=Yn (k:=a.ar) l (by omega:n<=20);have a4:∀ t,t∈a.ts->0<=t/\t<=1000000:=fun t P=>zW1 (C.val t P)
 have a5:∀ t,t∈b.ts->0<=t/\t<=1000000:=fun t P=>zW1 (p.val t P)
 have a6:=mW n l zOm (b.ar-1) zOm zOm;have hJ:joR n a b=⟨a.ar+b.ar-2,ofL (joL n (powI n (b.ar-1)) a.ts b.ts)⟩:=rfl;have aj:=qk2 n (powI n (b.ar-1)) a.ts b.ts;have hs:=hs zOm;have a7:=qkY n (powI n (b.ar-1)) hp p1 a b a5 zOm;have a8:=qk0 n (powI n (b.ar-1)) zOm zOm hp p1 a b a4 zOm zOm;have a9:WKs [aI n,aI (powI n (b.ar-1)),eRel a,eRel b] [aI n,aI (powI n (b.ar-1)),eRel a,eRel b] := .zs (.zs (.zk (qx a) (.zk (qx b) .nil)));simp only[hJ];generalize powI n (b.ar-1)=m at *
 generalize joL n m a.ts b.ts=J at *
 simp[go_sem,w0,w1,I,g,hz];refine tR zKr ?_;simp[go_sem,w2];refine fR a6 (.zs (.zs .nil)) ?_;refine fR a7 a9 ?_;refine tQ a8 (fun j M=>GatM M (J.take j)) (fun _ _=>False) ?_ ?_ ?_ ?_ ?_ ?_
 .exact ⟨.lst true [],zSi,zSi,.inl ⟨rfl,rfl⟩,by simp[qu],by simp[qu]⟩
 .exact fun j M h=>h.push
 .grind
 .rintro j x M hj ⟨av,U,g1,ho,n0,n1⟩
  rw[zB,um]at hj;obtain⟨t,P,rfl⟩:=hj;obtain⟨ag,ak⟩:=qh.1 P;refine⟨rfl,?_⟩;simp[go_sem,g1];refine aY (e:=3) (bt:=8) (z:=0) zSi zSi zSi zOm ho.v zSo ?_;intro al o i aa ab ad;obtain⟨k1,k2⟩:=GatM.step U g1 n0 n1 i aa ab ad;simp[go_sem,k1,i.v.one,i.v.cells]
  grind [tL,jg]
 .rintro M ⟨av,U,g1,ho,n0,n1⟩
  rw[yu,zi]at ho;simp[go_sem,g1];refine fZ (XZ M _ av J zOm ho) ?_ ?_
  .rintro r m' ⟨x,h,R,ae,an,af⟩
   cases h;have h1:=ae 0 (qh.1 U).1 n0;rw[U]at h1;have T:∀ c,(m'.set 0 c)[0]?=some c:=fun c=>qz (qh.1 h1).1
   have hx:qu x≠some 0:=fun h=>n0 (af _ h)
   simp[go_sem,h1,T,R.one];refine Yq (r:=⟨a.ar+b.ar-2,ofL J⟩) (aV (R.same fun b p=>?_));rw[zH (fun e=>hx (by rw[e];exact p))]
  grind
 grind
theorem qk3(p)(I:p.length<=1000000000):qg qc 155 [lI p] (lI p):=by
 refine qSV call155 func155 rfl ?_;cases p with
 |nil =>
  simp[go_sem,lI];refine⟨.wk _ true _ (.hf _ (HF.lst (full:=true) (xs:=[]) fun r i=>by simp at i)),?_⟩;refine aX (e:=3) (bt:=8) (z:=0) (l:=[]) (ys:=[]) zSi zSi zSi zOm (.inl ⟨rfl,rfl⟩) (by simp[qA]) zSp ?_;intro t o g _ _ _;simp[go_sem];exact g.v.rd
 |cons x l =>
  simp[go_sem,lI];refine aX (e:=3) (bt:=8) (z:=0) (l:=[]) (ys:=x :: l) zSi zSi zSi zOm (.inl ⟨rfl,rfl⟩) (by simp[qA]) (by grind) ?_;intro t o g _ _ _;simp[go_sem];exact g.v.rd
theorem UC{n}(j:0<=n)(i:n<=12){a}(g:GR n a)(l:a.ar=2):a.ts.length<=144:=by
 have e:=UB n;have p:n*n<=12*12:=jl i i j zOm;exact Ym g.srt fun t o=>by have:=g.val t o;rw[l,e]at this;omega
theorem qk4{a b}(g:zq a.ts):a.ts.length<=(unR a b).ts.length:=by
 refine jm (Q0 g) fun x i=>?_
 exact(vO (a.ts++b.ts)).2 x |>.2 (y6 _ i)
theorem wkJ(n a b):WKs [aI n,eRel a,eRel b] [aI n,eRel a,eRel b] := .zs (.zk (qx a) (.zk (qx b) .nil))
theorem wkR2(a b):WKs [eRel a,eRel b] [eRel a,eRel b] := .zk (qx a) (.zk (qx b) .nil)
theorem qaB(n)(l:0<=n)(g:n<=12)(a)(ha:GR n a)(J:a.ar=2):qg qc 88 [aI n,eRel a] (eRel (clR n 200 a)):=by
 refine qSV call88 func88 rfl ?_;have a0:=UC l g ha J;simp[go_sem];refine fR (qk3 a.ts zOm) (.zk (zC _) .nil) ?_;refine tV (fun m o=>∃ c,m=145-c.ts.length/\GR n c/\c.ar=2/\(∃ f,145<=f+c.ts.length/\clR n f c=clR n 200 a)/\o.tm 0=aI n/\o.tm 4 = .ptr 0 0/\o.tm 5 = .ptr 1 0/\∃ i,o.mu = .arr [aI 0,.lst true []] :: .arr (cRel c) :: i) (145-a.ts.length) ?_ ?_
 .exact ⟨a,rfl,ha,J,⟨200,zOm,rfl⟩,zSi,zSi,zSi,[],zS1 J⟩
 rintro m o ⟨c,rfl,gc,c2,⟨f,hf,j⟩,e0,e4,p,i,hm⟩;have t:=UC l g gc c2;have gj:=GR.join l gc gc zOm zOm;have gu:=aM gc gj (by show c.ar=c.ar+c.ar-2;omega);have a1:=UC l g gu c2;have a2:=qk4 (b:=joR n c c) gc.srt;have hj:=u7 n l g c c gc gc fun _=>zS (Nat.mul_le_mul t t) zOm
 have P:uf n c c = .ok (joR n c c):=by simp_all[uf,if_pos]
 rw[P]at hj;have a3:=UC l g gj (by show c.ar+c.ar-2=2;omega);have hu:=jV c (joR n c c) zOm zOm;simp[go_sem,e0,p,hm];refine tU hj (wkJ n c c) ?_;simp[go_sem,p];refine tU hu (wkR2 c (joR n c c)) ?_;generalize R:unR c (joR n c c)=U at *
 by_cases I:U.ts.length=c.ts.length
 .have hr:clR n 200 a=c:=by
   rw[<-j];cases f with
   |zero=>omega
   |succ f=>rw[clR,R,if_pos I]
  rw[hr];simp[go_sem,e4,p,I];exact .hf _ (qx c)
 .have C:∃ f,145<=f+U.ts.length/\clR n f U=clR n 200 a:=by
   cases f with
   |zero=>omega
   |succ f =>
    rw[clR,R,if_neg I]at j;exact⟨f,zOm,j⟩
  have T:U.ar=2:=by rw[<-R];exact c2
  simp[go_sem,p,I];exact Keep.loop (145-U.ts.length) zOm ⟨U,rfl,gu,T,C,zS1 e0,zS1 e4,zS1 p,_,by simp[go_sem];rfl⟩
end EY
namespace GD
theorem u9(xs:List Int):(xs.map rI).flatten=xs.map aI:=by
 induction xs with
 |nil=>rfl
 |cons x xs g=>simp[g]
end GD
namespace EZ
end EZ
namespace F2
end F2
namespace F3
open E1 E2 EL EY
theorem aL{n}(p:0<=n)(l:n<=12){a b}(I:GR n a)(J:GR n b)(h:a.ar+b.ar<=5):a.ts.length*b.ts.length<=1000000:=by
 have key:∀{c:Rl},GR n c->(c.ar=1->c.ts.length<=12)/\(c.ar=2->c.ts.length<=144)/\c.ts.length<=1728:=fun {c} g=>by
  have e2:n*n<=12*12:=jl l l p zOm;have a0:0<=n*n:=Int.mul_nonneg p p;have e3:n*n*n<=12*12*12:=jl e2 l p zOm;have P:powI n 1=n:=uD n;have R:powI n 2=n*n:=EC.UB n;have p3:powI n 3=n*n*n:=by
   have:=we (n:=n) (i:=2) (j:=1) zOm zOm zOm;rw[P,R]at this;exact this
  have c1:=g.ar1;have c3:=g.ar3;refine⟨fun e=>Ym g.srt fun t o=>?_,fun e=>Ym g.srt fun t o=>?_,Ym g.srt fun t o=>?_⟩
  .have:=g.val t o;rw[e,P]at this;omega
  .have:=g.val t o;rw[e,R]at this;omega
  .have hv:=g.val t o
   have:c.ar=1\/c.ar=2\/c.ar=3:=zOm;rcases this with e|e|e
   .grind
   .grind
   grind
 obtain⟨a1,a2,T⟩:=key I;obtain⟨b1,b2,U⟩:=key J;have:=I.ar1;have:=J.ar1;by_cases ea:a.ar=1
 .exact zS (Nat.mul_le_mul (a1 ea) U) zOm
 .by_cases eb:b.ar=1
  .exact zS (Nat.mul_le_mul T (b1 eb)) zOm
  .by_cases C:a.ar=2
   .exact zS (Nat.mul_le_mul (a2 C) U) zOm
   .exact zS (Nat.mul_le_mul T (b2 zOm)) zOm
theorem qaC(n)(g:0<=n)(i:n<=12):qg qc 83 [aI n] (eRel (idR n)):=by
 have:=idenU n.toNat zOm;rw[show ((n.toNat:Nat):Int)=n by omega]at this;exact this
end F3
namespace F4
open E3 EO EQ F1
section
variable {av:AV}{xs:List (List AV)}{mu:Mu}
theorem Own.one{sz}(h:Own mu sz av xs):av.one=true:=by
 rcases h with rfl|⟨b,rfl,_⟩<;>rfl
theorem Own.cells{sz}(h:Own mu sz av xs):av.cells=[av]:=by
 rcases h with rfl|⟨b,rfl,_⟩<;>rfl
theorem Own.push{sz}(h:Own mu sz av xs)(c:List Cell):Own (mu++c) sz av xs:=by
 rcases h with rfl|⟨b,rfl,g⟩
 .exact .inl rfl
 .exact .inr ⟨b,rfl,by grind⟩
theorem Own.set{sz}(h:Own mu sz av xs){i}(c)(g:qu av≠some i):Own (mu.set i c) sz av xs:=by
 rcases h with rfl|⟨b,rfl,j⟩
 .exact .inl rfl
 .exact .inr ⟨b,rfl,by rw[zH (fun e=>g (by rw[e];rfl))];exact j⟩
theorem Own.lt{sz}(h:Own mu sz av xs){b}(g:qu av=some b):b<mu.length:=by
 rcases h with rfl|⟨j,rfl,i⟩
 .cases g
 .cases g;exact(qh.1 i).1
theorem qw.ownB{P}{t g e sz bt:Nat}{s x ys zv K}(T:qH P t=some (e,sz,bt))(j:(qH P g).isSome=true)(U:qC P e=some zv)
  (l:zv.cells.length=sz) (o:zv.cells.all AV.one=true) (p:sz≠0) (hb:bt<=16384) (ho:Own mu sz s xs) (hx:qA mu x=some ys) (J:qW sz xs) (wy:qW sz ys) (R:xs.length+ys.length<=4294967296)
  (k:∀ av mu',Own mu' sz av (xs++ys)->(∀ i,i<mu.length->qu s≠some i->mu'[i]?=mu[i]?)->(∀ b,qu av=some b->b=mu.length)->mu.length<=mu'.length->K av mu'):qw P mu #[t,g] s x K:=by
 refine .inl ?_;refine⟨t,g,e,sz,bt,ys,rfl,T,j,⟨zv,U,l,o⟩,p,hb,hx,wy,?_⟩;rcases ho with rfl|⟨b,rfl,hc⟩
 .refine .inl ⟨xs,rfl,J,R,fun h=>?_,fun h=>?_⟩
  .subst h
   exact k _ _ (.inl zSp) (fun _ _ _=>rfl) (fun b h=>by cases h) (qj _)
  .refine k _ _ (.inr ⟨mu.length,zSp,zSp⟩) (fun i C _=>?_) (fun b h=>by cases h;rfl) zSp
   rw[qG C]
 .have a0:=ym J.ok
  refine .inr ⟨b,xs.length,xs.flatten,rfl,hc,zOm,R,?_⟩;have a1:xs.flatten.take (xs.length*sz)=xs.flatten:=zY zOm;refine k _ _ (.inr ⟨mu.length,zSp,?_⟩) (fun i C I=>?_) (fun b h=>by cases h;rfl) zSp
  .grind
  .rw [qG (zUs C)]
   rw[zH (fun e=>I (by rw[e];rfl))]
theorem FzQ.ownB{Q i d sz st}(l:st.tm d=av)(p:Own st.mu sz av xs)(wf:qW sz xs)(hf:∀ r,r∈xs->∀ c,c∈r->HF c)
  (k:∀ mu' full,mu'.length=st.mu.length->(∀ j,qu av≠some j->mu'[j]?=st.mu[j]?)->Q (.exit i) (st.put (some d) (.lst full xs) mu')):FzQ Q (.exit i) st:=by
 rcases p with h|⟨b,h,t⟩
 .refine FzQ.one (b:=st.mu.length) (d:=d) (x := .lst true xs) ?_ (k _ _ (jC _ _ _) fun j o=>?_)
  .rw [l,h]
   exact .hf _ (HF.lst hf)
  .by_cases g:j=st.mu.length
   .simp_all [List.getElem?_eq_none,jC,qj]
   .exact Ub g _
 .refine FzQ.one (b:=b) (d:=d) (x := .lst false xs) ?_ (k _ _ (jC _ _ _) fun j o=>Ub (fun e=>o (by rw[h,e];rfl)) _)
  rw[l];exact Own.rd (.inr ⟨b,h,by rw[nG];exact t⟩) wf.ok hf
def endL:XE (List Bool)->AEnd
 | .ok l => .ret (lB l)
 | .error e => .pan (errV e)
@[go_sem] theorem endL_ok(l):endL (.ok l) = .ret (lB l):=rfl
@[go_sem] theorem endL_err(e):endL (.error e) = .pan (errV e):=rfl
end
end F4
namespace F5
end F5
namespace F6
open EO EW
theorem qk5(sc)(i:Nat):tupR sc [(i:Int)] 0=(qs (gI sc.sC i).toNat).map fun k:Nat=>sumI (sc.sC.take i)+k:=by
 rw[tupR];simp only[tupR,Int.zero_mul,Int.zero_add,show (i:Int).toNat=i by omega];exact List.map_eq_flatMap.symm
def bR:Nat->Int
 | 0=>0
 |k+1=>bR k*20+20
theorem bR_ok:∀ k,k<=3->bR k<=100000
 | 0,_=>zDe
 | 1,_=>zDe
 | 2,_=>zDe
 | 3,_=>zDe
def ug(n:Int)(tuple:List Int):Int:=tuple.foldl (fun o t=>o*n+t) 0
theorem qk6(n)(tuple:List Int)(k h):ug n (tuple.take (k+1))=ug n (tuple.take k)*n+tuple[k]:=by
 rw[List.take_add_one,qB h,ug,ug,ul];rfl
theorem rankU(sc)(g:GSc sc)(tuple)(ht:tuple.length<=3)(hd:∀ d,d∈tuple->0<=d/\d<sumI sc.sC):qg qc 225 [eSc sc,lI tuple] (aI (ug (sumI sc.sC) tuple)):=by
 refine qSV call225 func225 rfl ?_;simp[go_sem,show ¬(3:Int)<tuple.length by omega];refine tU (ZL sc g) (.zk (zD sc) .nil) ?_;have o:=g.sum sc.sC.length;rw[zi]at o;generalize sumI sc.sC=n at *
 simp[go_sem];refine qk.up tuple.length (fun k U=>U.tm 5=aI n/\U.tm 14=lI tuple/\U.tm 15=aI tuple.length/\U.tm 6=aI (ug n (tuple.take k))/\U.tm 16=aI k/\U.mu=[]/\0<=ug n (tuple.take k)/\ug n (tuple.take k)<=bR k) ?_ ?_
 .simp [go_sem,ug,bR]
 rintro k U hk ⟨P,p,j,R,l,T,t,C⟩;by_cases i:k<tuple.length
 .have I:=hd _ (qt i)
  have hs:=qk6 n tuple k i;have hb:=bR_ok k zOm;have a0:bR (k+1)=bR k*20+20:=rfl;generalize a1:ug n (tuple.take k)=r at *
  have m0:0<=r*n:=Int.mul_nonneg t zOm;have m1:r*n<=bR k*20:=jl C zOm zOm zOm;have hw:ql.wrap (n-1)=n-1:=zWr;simp[go_sem,P,p,j,l,T,i,hw];refine tU (UA tuple[k] 0 (n-1)) (.zs (.zs (.zs .nil))) ?_;simp[go_sem,P,p,j,R,l,i,I.1,show tuple[k]<=n-1 by omega];rw[hs,yi (n:=r*n) zOm zOm,yi (n:=r*n+tuple[k]) zOm zOm,yi (n:=(k:Int)+1) zOm zOm];omega
 .have J:k=tuple.length:=by omega
  subst J;simp[go_sem,j,R,l,T];exact .zsc _
theorem aQ{full}(l):WK (.lst full (l.map rI)) (lI l):=WK.lst fun r g c i=>by
 obtain⟨n,_,rfl⟩:=qn.1 g
 grind [HF.sc]
end F6
namespace F7
end F7
namespace F8
end F8
namespace E8
end E8
namespace EB
end EB
namespace EK
end EK
namespace F9
end F9
namespace FA
end FA
namespace FB
end FB
namespace FC
end FC
namespace E9
open P1 YF E1
theorem qaD(sc)(g:GSc sc):qg qc 32 [eSc sc] (aI (sumI sc.sC)):=by
 refine qSU call32 func32 rfl ?_;refine qk.up sc.sC.length (fun k U=>U.tm 1 = .ip [lI sc.sC,aI sc.sN]/\U.tm 3=aI (sumI (sc.sC.take k))/\U.tm 4=aI k/\U.mu=[]) ?_ ?_
 .simp [go_sem,sumI]
 rintro k U J ⟨o,p,t,C⟩;have P:=g.1;simp[go_sem,o,t,C];refine tY (fun i=>?_) (fun j=>?_)
 .have i:k<sc.sC.length:=by simpa using i
  have I:=Qr sc.sC k i;have l:=g.sum (k+1);rw[I]at l;simp[go_sem,o,p,t,i]
  grind [yi]
 .have j:k=sc.sC.length:=by simp at j;omega
  subst j;simp[go_sem,p];exact .zsc _
def vP:List Int->Int->Int->Int
 | [],_,_ => -1
 |a :: l,x,i=>if x<a then i else vP l (x-a) (i+1)
def vQ(sc:Sc)(x:Int):Int:=vP sc.sC x 0
theorem qaE(l:List Int)(k x i h):vP (l.drop k) x i=if x<l[k] then i else vP (l.drop (k+1)) (x-l[k]) (i+1):=by
 rw[zg h,vP]
def jI(g:Sp)(sc:Sc):Bool:=decide (sc.sC.length=g.sS.length)&&decide (g.sS.length<=4)&&decide (1<=sc.sN)&&decide (sc.sN<=4)&&sc.sC.all (fun a=>decide (1<=a)&&decide (a<=5))&&decide (sumI sc.sC<=12)
theorem qk7(p sc)(I:sc.sC.length<=9223372036854775807):qg qc 31 [eSp p,eSc sc] (aB (jI p sc)):=by
 refine qSV call31 func31 rfl ?_;by_cases t:sc.sC.length=p.sS.length
 case neg =>
  simp[go_sem,t,jI];exact .zsc _
 by_cases o:(4:Int)<p.sS.length
 case pos =>
  simp[go_sem,t,o,jI,show ¬p.sS.length<=4 by omega];exact .zsc _
 by_cases h3:sc.sN<1
 case pos =>
  simp[go_sem,t,o,h3,jI,show ¬ 1<=sc.sN by omega];exact .zsc _
 by_cases h4:4<sc.sN
 case pos =>
  simp[go_sem,t,o,h3,h4,jI,show ¬sc.sN<=4 by omega];exact .zsc _
 simp[go_sem,t,o,h3,h4];refine qk.up sc.sC.length (fun k U=>U.tm 3 = .ip [lI sc.sC,aI sc.sN]/\U.tm 5=aI k/\U.mu=[]/\∀(i:Nat)(h:i<sc.sC.length),i<k->1<=sc.sC[i]/\sc.sC[i]<=5) ?_ ?_
 .simp [go_sem]
 rintro k U hk ⟨J,P,R,he⟩;by_cases l:k<sc.sC.length
 .by_cases hb:sc.sC[k]<1\/5<sc.sC[k]
  .have:sc.sC.all (fun a=>decide (1<=a)&&decide (a<=5))=false:=by
    rw[<-Bool.not_eq_true,q8];intro j;have:=j _ (qt l);simp at this;omega
   have:jI p sc=false:=by simp only[jI,this,Bool.and_false,Bool.false_and]
   rw[this];by_cases C:sc.sC[k]<1
   .simp [go_sem,J,P,R,l,C]
    exact .zsc _
   .simp [go_sem,J,P,R,l,C,show 5<sc.sC[k] by omega]
    exact .zsc _
  .simp [go_sem,J,P,R,l,show ¬sc.sC[k]<1 by omega,show ¬ 5<sc.sC[k] by omega]
   refine⟨zWr,fun i h T=>?_⟩;rcases Jm.1 T with o|o
   .exact he i h o
   .subst o;exact⟨zOm,zOm⟩
 .have a0:k=sc.sC.length:=by omega
  subst a0;have j:sc.sC.all (fun a=>decide (1<=a)&&decide (a<=5))=true:=by
   rw[q8];intro a I;obtain⟨i,T,rfl⟩:=Vz I;have:=he i T T;simp;omega
  have g:GSc sc:=⟨zOm,fun a I=>by
   have:=q8.1 j a I;simp at this;omega⟩
  simp[go_sem,J,P,R];refine fR (qaD sc g) (.zk (zD sc) .nil) ?_;simp only[jI,t,j,show p.sS.length<=4 by omega,show 1<=sc.sN by omega,show sc.sN<=4 by omega];simp;exact .zsc _
def divN(n x:Int):Nat->Int
 | 0=>x
 |j+1=>divN n x j / n
theorem qvU{n r}(h:jz n r=true):∀ t,t∈r.ts->0<=t/\t<=1000000:=by
 intro t g;simp only[jz,qD,decide_eq_true_eq,q8]at h;obtain⟨⟨⟨⟨⟨i,o⟩,p⟩,C⟩,j⟩,_⟩:=h;have l:=j t g;have I:=Yl i zOm (powN r.ar) (by unfold powN;omega);unfold powI at l;omega
theorem JZ{g sc}(h:jI g sc=true):GSc sc:=by
 simp only[jI,qD,decide_eq_true_eq,q8]at h;obtain⟨⟨⟨⟨⟨i,j⟩,l⟩,o⟩,p⟩,_⟩:=h;exact⟨zOm,fun a t=>by grind⟩
def spOf(ts:TS):Sp:=⟨ts.sS,ts.sA,ts.sT.map cPd,ts.sP.map cFa,wX ts.sT,JO ts.sP⟩
end E9
namespace Y13
open Y1 Y2 Y3 P1 YM Y5 Y6 Y7 YF Y9 Y10 Y11 Y12 P2
theorem qk8(p n):qg qc 206 [.agg (cPd p),.ip (cNd n)] (aB (decide (p.name=n.name))):=by
 refine qSV call206 func206 rfl ?_;simp[go_sem,jH];exact .zsc _
def uE(c:Ck)(s:Scp)(n:Nd):Res:=
 if (c.ts.sT.any fun p=>decide (p.name=n.name))=true then
  match zl c n.name with
  |none => .error (45,n.pos)
  |some p=>match c.ts.sT[p]? with
   |none => .error (45,n.pos)
   |some g=>if g.params.length=n.sD.length then zO c s n.pos g.params n.sD else .error (45,n.pos)
 else .error (40,n.pos)
def endC:Res->AEnd
 | .ok _ => .ret (.tup [])
 | .error e => .pan (jx e.1 e.2)
@[go_sem] theorem endC_ok(k):endC (.ok k) = .ret (.tup []):=rfl
@[go_sem] theorem qvV(e):endC (.error e) = .pan (jx e.1 e.2):=rfl
theorem J0(n):HF (.ip (cNd n)):=HF.ip (y8 n)
theorem hf_t0:HF (.tup []):=HF.tup zSp
theorem callU(c)(hc:okCk c)(s)(hs:ScOk c.ts.sS.length s)(n)(hw:WfN n)(az:n.op=47)
  (ih:∀ k,k∈n.sD->jS qc 72 [eCk c,aSc s,eNd k,aB true] (endK (exam c s true k))) :
  jS qc 144 [eCk c,aSc s,eNd n] (endC (uE c s n)):=by
 refine vd.of_sound ?_;refine qSW call144 func144 rfl {} ?_;have b0:=hc.ts.np;have b1:=hw.len;have J:=hasPd false c.ts.sT (.fn (.func 206) [] [.ip (cNd n)]) (fun p=>decide (p.name=n.name)) ⟨_,_,_,rfl,fun p hp=>⟨_,qk8 p n,.zk (HF.agg (Um p)) (.zk (J0 n) .nil)⟩⟩ (HF.fn zSp (fun x hx=>by grind [J0])) (wX _) zOm;have a7:WKs [lPd c.ts.sT,.fn (.func 206) [] [.ip (cNd n)]] [lPd c.ts.sT,.fn (.func 206) [] [.ip (cNd n)]] := .zk (wX _) (.zk (HF.fn zSp (fun x hx=>by grind [J0])) .nil);generalize P:uE c s n=R;unfold uE at P;simp[go_sem];cases hA:c.ts.sT.any (fun p=>decide (p.name=n.name)) with
 |false =>
  rw[hA]at J P;subst P;refine qi.tail 8 zKr ?_;simp[go_sem];refine fR J a7 ?_;refine aK (zJ false 40 n) (wkR n false 40) ?_;simp[go_sem];exact .hf _ (yC _ _)
 |true =>
  rw[hA]at J P;rw[if_pos rfl]at P;refine fD ?_;refine fR J a7 ?_;refine fR (zJ true 40 n).toP (wkR n true 40) ?_;refine tU (n6 c hc n.name) (.zk (jf c) (.zs .nil)) ?_;cases T:zl c n.name with
  |none =>
   rw[T]at P;subst P;simp[go_sem];refine qi.tail 19 zKr ?_;simp[go_sem];refine aK (zJ false 45 n) (wkR n false 45) ?_;simp[go_sem];exact .hf _ (yC _ _)
  |some p =>
   obtain⟨b2,a0⟩:=Qz hc T;have b3:=hc.ts.pl _ (qt a0);rw[T]at P;simp only[qB a0]at P;simp[go_sem];generalize a5:c.ts.sT[p]=j at *
   by_cases C:j.params.length=n.sD.length
   .rw [if_pos C]at P
    refine tR zKr ?_;simp[go_sem,a0,a5,C];refine tU (zJ true 45 n).toP (wkR n true 45) ?_;simp[go_sem,a0,a5,C];have a8:=hw.shape;have ah:∀(k:Nat)(h:k<n.sD.length),kd n.sD[k].op=101:=by
     have e:shp n.op n.sD.length=some (qM (min n.sD.length 401) 101):=by
      simp_all[shp,if_neg,if_pos]
     rw[e]at a8;simp only[qo]at a8;intro k h;have h2:(n.sD.map fun k=>kd k.op)[k]?=some (kd n.sD[k].op):=by rw[zB,qB h];rfl
     grind
    refine aA j.params.length (fun k U=>U.tm 0=eCk c/\U.tm 1=aSc s/\U.tm 5 = .ip (cNd n)/\U.tm 54=lPm j.params/\U.tm 55=aI n.sD.length/\U.tm 56=aI k/\zO c s n.pos (j.params.drop k) (n.sD.drop k)=R) ?_ ?_
    .simp [go_sem, *]
    .rintro k U hk ⟨e0,e1,e5,ai,a9,aa,I⟩
     by_cases ab:k=j.params.length
     .subst ab
      rw[zU,C,zU]at I;simp only[zO]at I;subst I;simp[go_sem,a9,aa,C];exact .hf _ hf_t0
     .have ad:k<j.params.length:=by omega
      have o:k<n.sD.length:=zOm;have w1:=zWk k;have hi:=ih n.sD[k] (qt o);rw[zg ad,zg o]at I;simp only[zO]at I;have aj:=jA hc (szN n.sD[k]) n.sD[k] s true;have ak:=ah k o;have ae:=hw.kid (qt o);simp[go_sem,e0,e1,e5,ai,a9,aa,ad,o];cases hx:exam c s true n.sD[k] with
      |error e =>
       rw[hx]at hi I;subst I;refine aK hi (.zk (jf c) (.zk (u4 s) (.zk (qE _) (.zs .nil)))) ?_;simp[go_sem];exact .hf _ (yC _ _)
      |ok ko =>
       obtain⟨kk,rfl,a2⟩:=aj ko (qj _) ae hs hx ak;rw[hx]at hi I;simp only at I;refine tU hi.toP (.zk (jf c) (.zk (u4 s) (.zk (qE _) (.zs .nil)))) ?_;by_cases a1:kk.ar=1
       .rw [if_pos a1]at I
        simp[go_sem,e5,a1];refine fR (zJ true 42 n).toP (wkR n true 42) ?_;refine qk.seen kk.ts.length (fun seen g=>g.tm 0=eCk c/\g.tm 1=aSc s/\g.tm 5 = .ip (cNd n)/\g.tm 54=lPm j.params/\g.tm 55=aI n.sD.length/\g.tm 56=aI k/\g.tm 9 = .ptr U.mu.length 0/\g.tm 76 = .ptr (U.mu.length+2) 0 /\
         g.mu[U.mu.length]?=some (.arr [aS j.params[k].1,aI j.params[k].2])/\g.mu[U.mu.length+2]?=some (.it (eT kk.ts) seen)/\∀ i t,i∈seen->kk.ts[i]?=some t->t.getD 0 0=j.params[k].2) ?_ ?_
        .simp [go_sem, *]
        .rintro seen g b4 ax ⟨f0,f1,f5,f54,f55,f56,f9,f76,g0,g2,ay⟩
         simp[go_sem,f76];refine⟨U.mu.length+2,eT kk.ts,seen,rfl,g2,fun i e hi al=>?_,fun an=>?_⟩
         .obtain ⟨x,a6,rfl⟩:=Qu hi
          have ao:okT x:=a2.okK.len x (qQ a6);have aq:i<kk.ts.length:=(qh.1 a6).1;have au:x.length=3:=ao;have av:x∈kk.ts:=qQ a6;have a3:U.mu.length+2<g.mu.length:=(qh.1 g2).1;have a4:∀(c:Cell)(l:List Cell),((g.mu.set (U.mu.length+2) c)++l)[U.mu.length]?=some (.arr [aS j.params[k].1,aI j.params[k].2]):=fun c l=>by
           grind
          obtain⟨x0,x1,x2,rfl⟩:∃ x0 x1 x2,x=[x0,x1,x2]:=by
           match x,au with
           | [x0,x1,x2],_=>simp
          have ag:0<=x0/\x0<128:=by
           obtain⟨l,el,hl,hr⟩:=a2.ts _ av;rw[a1]at hl
           match l,hl with
           | [y],_ =>
            have:=hr y zSp;simp[pad]at el;have:=hc.ts.ns;omega
          have w8:ql.wrap x0=x0:=zWr;by_cases hq:x0=j.params[k].2
          .have w9:ql.wrap j.params[k].2=j.params[k].2:=by grind
           simp[go_sem,f5,f9,f76,hi,a3,a4,w9,hq];refine fR (zJ true 43 n).toP (wkR n true 43) ?_;refine⟨i,aq,al,zS1 f0,zS1 f1,zS1 f5,zS1 f54,zS1 f55,zS1 f56,zS1 f9,zS1 f76,?_,?_,?_⟩
           .grind [qI]
           .grind [qI,qG,qz]
           grind
          .have af:uC j.params[k].2 kk=false:=by
            unfold uC;rw[<-Bool.not_eq_true,q8]
            grind
           rw[af]at I;simp only[Bool.false_eq_true,if_false]at I;subst I;simp[go_sem,f5,f9,f76,hi,a3,a4,w8,hq];refine aK (zJ false 43 n) (wkR n false 43) ?_;simp[go_sem];exact .hf _ (yC _ _)
         .have aw:uC j.params[k].2 kk=true:=by
           grind [uC,q8,List.mem_iff_getElem?,qh]
          simp_all[go_sem,if_pos,aC]
       .rw [if_neg a1]at I
        subst I;simp[go_sem,e5,a1];refine aK (zJ false 42 n) (wkR n false 42) ?_;simp[go_sem];exact .hf _ (yC _ _)
   .rw [if_neg C]at P
    subst P;refine qi.tail 19 zKr ?_;simp[go_sem,a0,a5,C];refine aK (zJ false 45 n) (wkR n false 45) ?_;simp[go_sem];exact .hf _ (yC _ _)
theorem UD{lo sz mu av xs}(h:OwnF lo mu sz av xs)(w:ja sz xs)(hf:∀ r,r∈xs->∀ c,c∈r->HF c):Rd (cutM (fun i=>decide (lo<=i)) mu 0) av (.lst false xs):=by
 obtain⟨g,j,o⟩:=h;refine Own.rd (sz:=sz) ?_ w hf;rcases g with rfl|⟨b,rfl,l⟩
 .exact .inl rfl
 .refine .inr ⟨b,rfl,?_⟩
  rw[j5,l];simp[j b _ _ _ rfl]
theorem qk9{c s n g}(h:uE c s n = .ok g):g=none:=by
 have j:∀(ks:List Nd)(i:List (tZ×Int))(g:Option Kd),zO c s n.pos i ks = .ok g->g=none:=by
  intro ks;induction ks with
  |nil=>grind [zO]
  |cons k ks l =>
   intro i g h;cases i with
   |nil=>grind [zO]
   |cons p i =>
    grind [zO,absurd]
 unfold uE at h;split at h
 .grind
 grind
theorem appKo{mu lo s xs k K}(j:OwnF lo mu 2 s (xs.map cKo))(p:xs.length<=100000)(t:∀ av mu',OwnF lo mu' 2 av ((xs++[k]).map cKo)->(∀ i,i<lo->mu'[i]?=mu[i]?)->K av mu') :
  qw qc mu #[211,211] s (.lst true [cKo k]) K:=by
 have g:∀ l:List (Option Kd),qW 2 (l.map cKo):=fun l r o=>by
  obtain⟨n,_,rfl⟩:=qn.1 o;exact XQ n
 refine qw.ownF (lo:=lo) (e:=125) (sz:=2) (bt:=16) (zv := .agg [aI 0,.sc (.map none)]) (xs:=xs.map cKo) (ys:=[cKo k]) zSi zSi zSi rfl rfl zOm zOm j (by simp[qA]) (g xs) (g [k]) zSo ?_
 grind
theorem X4(c)(hc:okCk c):∀ m n,szN n<=m->WfN n->∀ s,ScOk c.ts.sS.length s->∀ inn,jS qc 72 [eCk c,aSc s,eNd n,aB inn] (endK (exam c s inn n))
 | 0,n,hm,_,_,_,_=>by obtain⟨op,nm,i,ks,p⟩:=n;simp[szN]at hm
 |m+1,n,hm,hw,s,hs,inn=>by
  have ih:∀ k,k∈n.sD->∀ P,ScOk c.ts.sS.length P->∀ T,jS qc 72 [eCk c,aSc P,eNd k,aB T] (endK (exam c P T k)):=fun k hk P ae T =>
   X4 c hc m k (zW1 (zf hk)) (hw.kid hk) P ae T
  refine vd.of_sound ?_;refine qSW call72 func72 rfl {} ?_;generalize g:exam c s inn n=E;rw[yI]at g;have a6:=n7 c hc n;simp[go_sem];by_cases hT:(inn&&zX c n.op n.name)=true
  .rw [if_pos hT]at g
   subst g;rw[qD]at hT;obtain⟨rfl,hT⟩:=hT;rw[hT]at a6;refine qi.tail 9 zKr ?_;simp[go_sem];refine fR a6 (.zk (jf c) (.zk (qE n) .nil)) ?_;refine aK (zJ false 46 n) (wkR n false 46) ?_;simp[go_sem];exact .hf _ (yC _ _)
  rw[if_neg hT]at g;have af:=wo c hc s n;have a3:=fun h=>callU c hc s hs n hw h (fun k hk=>ih k hk s hs true)
  have a7:WKs [eCk c,aSc s,eNd n] [eCk c,aSc s,eNd n] := .zk (jf c) (.zk (u4 s) (.zk (qE n) .nil));have a0:∀(P:Scp)(k:Nd)(b:Bool),WKs [eCk c,aSc P,eNd k,aB b] [eCk c,aSc P,eNd k,aB b]:=fun P k b => .zk (jf c) (.zk (u4 P) (.zk (qE k) (.zs .nil)))
  have a4:n.op=15\/n.op=45\/n.op=46->∃ a f,n.sD=[a,f]/\kd a.op=101:=fun ho=>by
   have J:=hw.shape;have e:shp n.op n.sD.length=some [101,102]:=by
    unfold shp;rw[zIn,zIn,zIn,if_pos zOm]
   rw[e]at J;simp only[qo]at J
   match hk:n.sD,J with
   | [a,f],J=>grind
   | [],J=>simp at J
   | [_],J=>simp at J
   |_ :: _ :: _ :: _,J=>simp at J
  cases inn
  case' false =>
   refine fD ?_;refine fR (zJ true 46 n).toP (wkR n true 46) ?_
  case' true =>
   have ay:zX c n.op n.name=false:=zUs hT;rw[ay]at a6;refine fD ?_;refine fR a6 (.zk (jf c) (.zk (qE n) .nil)) ?_;refine fR (zJ true 46 n).toP (wkR n true 46) ?_
  all_goals
   by_cases h1:n.op=1
   .rw [if_pos h1]at g
    rw[g]at af;simp[go_sem,h1];cases E with
    |error e =>
     refine aK af a7 ?_;simp[go_sem];exact .hf _ (yC _ _)
    |ok ko =>
     refine tU af.toP a7 ?_;cases ko with
     |none=>simp[go_sem];exact .hf _ hfKn
     |some k=>simp[go_sem];exact .hf _ (hfK2 _ _)
   rw[if_neg h1]at g;by_cases h47:n.op=47
   .rw [if_pos h47]at g
    have g:uE c s n=E:=g;have a3:=a3 h47;rw[g]at a3;simp[go_sem,h47];cases E with
    |error e =>
     refine aK a3 a7 ?_;simp[go_sem];exact .hf _ (yC _ _)
    |ok ko =>
     obtain rfl:=qk9 g;refine fR a3.toP a7 ?_;exact .hf _ hfKn
   rw[if_neg h47]at g;by_cases hb:n.op=15\/n.op=45\/n.op=46
   .rw [if_pos hb]at g
    obtain⟨a,f,a1,ha⟩:=a4 hb;rw[a1]at g;have an:∀ b r,exam c s b a=r->jS qc 72 [eCk c,aSc s,eNd a,aB b] (endK r):=fun b r h=>h ▸ ih a (by rw[a1];simp) s hs b
    have az:∀ P,ScOk c.ts.sS.length P->∀ b r,exam c P b f=r->jS qc 72 [eCk c,aSc P,eNd f,aB b] (endK r):=fun P ae b r h=>h ▸ ih f (by rw[a1];simp) P ae b
    have aa:=jA hc (szN a) a s;have ao:=hw.kid (k:=a) (by rw[a1];simp);rcases hb with h|h|h
    all_goals
     simp[go_sem,h,a1];simp only[h,z7,qL]at g;simp at g;split at g
     .rename_i e hx
      have hi:=an _ _ hx;subst g;refine aK hi (a0 _ _ _) ?_;simp[go_sem];exact .hf _ (yC _ _)
     .rename_i hx
      obtain⟨q,hq,_⟩:=aa _ _ (qj _) ao hs hx ha;exact absurd hq zSp
     .rename_i k hx
      have hi:=an _ _ hx;obtain⟨q,hq,b0⟩:=aa _ _ (qj _) ao hs hx ha;simp only[qo]at hq;subst hq;refine tU hi.toP (a0 _ _ _) ?_;by_cases a8:k.ar=1
      .rw [if_pos a8]at g
       obtain⟨ka,kt⟩:=k;obtain rfl:ka=1:=a8;simp[go_sem];refine fR (zJ true 42 n).toP (wkR n true 42) ?_;have b4:ScOk c.ts.sS.length ((n.name,⟨1,kt⟩) :: s):=fun v R=>by
        rcases qy.1 R with rfl|R
        .exact ⟨b0,rfl⟩
        .exact hs v R
       have aq:=az _ b4;refine qi.tail 12 zKr ?_;simp[go_sem,a1];split at g
       .rename_i e a2
        split at a2
        .rename_i e' ag
         simp only[Except.error.injEq]at a2;subst a2;subst g;have ah:=aq _ _ ag;refine aK ah (a0 ((n.name,⟨1,kt⟩) :: s) _ _) ?_;simp[go_sem];exact .hf _ (yC _ _)
        grind
       .rename_i l a2
        split at a2
        .exact absurd a2 zSp
        .rename_i a' ag
         have ah:=aq _ _ ag;subst g;refine fR ah.toP (a0 ((n.name,⟨1,kt⟩) :: s) _ _) ?_;exact .hf _ (hfK2 _ _)
      .rw [if_neg a8]at g
       subst g;simp[go_sem,a8];refine aK (zJ false 42 n) (wkR n false 42) ?_;simp[go_sem];exact .hf _ (yC _ _)
   .rw [if_neg hb]at g
    simp only[not_or]at hb;obtain⟨b1,b2,b3⟩:=hb;simp[go_sem,h1,h47,b1,b2,b3];have b5:=hw.len;generalize hB:(_||decide (n.op=12)||decide (n.op=13))=B at g;by_cases ai:n.op=12
    case' pos=>simp[go_sem,ai]
    case' neg =>
     by_cases aj:n.op=13
     case' pos=>simp[go_sem,aj]
     case' neg=>simp[go_sem,ai,aj]
    all_goals
     refine aA n.sD.length (fun k U=>∃ I:List (Option Kd),I.length=k/\U.tm 0=eCk c/\U.tm 1=aSc s/\U.tm 3=aB B/\U.tm 6 = .ip (cNd n)/\U.tm 8 = .ptr 0 0/\U.tm 79=lNd n.sD/\U.tm 80=aI n.sD.length/\U.tm 81=aI k/\U.mu[0]?=some (.arr [aI 0,.sc (.map none)])/\OwnF 1 U.mu 2 (U.tm 10) (I.map cKo) /\
      qL c s B n.sD=(match qL c s B (n.sD.drop k) with | .error e => .error e | .ok l => .ok (I++l))) ?_ ?_
     .refine ⟨[],rfl,zSi,zSi,?_,zSi,zSi,zSi,zSi,zSi,zSi,?_,?_⟩
      .rw [<-hB];simp[go_sem,ai];try simp[aj]
      .simp [go_sem];exact OwnF.nil zSp
      .simp only[List.drop_zero,List.nil_append]
       cases qL c s B n.sD<;>rfl
     .rintro k U hk ⟨I,hl,e0,e1,e3,e6,e8,au,ak,al,m0,ho,C⟩
      by_cases a5:k=n.sD.length
      .rw [a5,zU]at C
       simp only[qL,yg]at C;rw[C]at g;simp only at g;simp[go_sem,e0,e6,ak,al,a5];have b6:ApOk n.op I:=(XV hc.ts.ns hw (by rw[hl,a5]) (fun i k' a hi ha b7=>jA hc (szN k') k' s B a (qj _) (hw.kid (qQ hi)) hs ((ZK C).2 i k' a hi ha) b7)).1;have ab:=qj0 c hc false n I b6;rw[g]at ab;have aw:∀ r,r∈I.map cKo->∀ c,c∈r->HF c:=fun r hr c b8=>by
        obtain⟨q,_,rfl⟩:=qn.1 hr;exact mC q c b8
       have b9:ja 2 (I.map cKo):=fun r hr=>by
        obtain⟨q,_,rfl⟩:=qn.1 hr;exact(XQ q).1
       have g0:(cutM (fun i=>!decide (1<=i)) U.mu 0)[0]?=some (.arr [aI 0,.sc (.map none)]):=by rw[j5,m0];simp
       refine fZ (qv.freeze (args1:=[eCk c,eNd n,.lst false (I.map cKo)]) (fun j=>decide (1<=j)) ⟨.inl rfl,.inl rfl,.inr (UD ho b9 aw),trivial⟩ (ab.toSound _ (.zk (jf c) (.zk (qE n) (.zk (HF.lst aw) .nil))))) ?_ ?_
       .rintro r m ⟨R,rfl⟩
        have R:AEnd.ret r=endK E:=R;cases E with
        |error e=>exact absurd R zSi
        |ok q =>
         simp[go_sem]at R;subst R;generalize cutM (fun i=>!decide (1<=i)) U.mu 0=M at g0;have bc:0<M.length:=(qh.1 g0).1;have ad:∀ c,(M.set 0 c)[0]?=some c:=fun c=>qz bc
         cases q with
         |none=>simp[go_sem,e8,g0,ad];exact .hf _ hfKn
         |some k=>simp[go_sem,e8,g0,ad];exact .hf _ (hfK2 _ _)
       .rintro r m ⟨R,rfl⟩
        have R:AEnd.pan r=endK E:=R;cases E with
        |ok q=>exact absurd R zSi
        |error e =>
         simp[go_sem]at R;subst R;simp[go_sem];exact .hf _ (yC _ _)
      .have a9:k<n.sD.length:=by omega
       have w1:=zWk k;rw[zg a9]at C;simp only[qL]at C;have hi:=ih n.sD[k] (qt a9) s hs B;simp[go_sem,e0,e1,e3,au,ak,al,a9];cases hx:exam c s B n.sD[k] with
       |error e =>
        rw[hx]at hi C;simp only at C;rw[C]at g;simp only at g;subst g;refine aK hi (a0 s n.sD[k] B) ?_;simp[go_sem];exact .hf _ (yC _ _)
       |ok ko =>
        rw[hx]at hi C;simp only at C;refine tU hi.toP (a0 s n.sD[k] B) ?_;have ax:=XQ ko;rw[q8]at ax;simp[go_sem];rw[if_pos ax];simp[go_sem];refine appKo (xs:=I) (k:=ko) (lo:=1) ⟨JQ ho.1 _,ho.2.1,by have:=ho.2.2;simp⟩ zOm fun t o be bg=>?_
        simp[go_sem,al,w1];refine⟨a9,aC ?_⟩;refine⟨I++[ko],zP1 hl,zS1 e0,zS1 e1,zS1 e3,zS1 e6,zS1 e8,zS1 au,zS1 ak,zSi,?_,zVs be,?_⟩
        .simp only[qI]
         rw[bg 0 zOm,qG (zW1 ho.2.2)];exact m0
        .rw [C]
         cases qL c s B (n.sD.drop (k+1)) with
         |error e=>rfl
         |ok l=>simp
end Y13
namespace Y14
open YF P1 P2 Y1 Y2 Y9 Y10 Y12 Y13
structure Zb (ns:Nat) (env:List (tZ×Int)):Prop where
 len:env.length<=1000000
 r:∀ p,p∈env->0<=p.2/\p.2<ns
theorem J2{ns env}(h:Zb ns env):ScOk ns (zz env):=by
 have:∀(l:List (tZ×Int))(s:Scp),(∀ p,p∈l->0<=p.2/\p.2<(ns:Int))->ScOk ns s->ScOk ns (l.foldl (fun s p=>(p.1,kOf [p.2]) :: s) s):=by
  intro l;induction l with
  |nil=>intro s _ i;exact i
  |cons a l t =>
   intro s j i;refine t _ (fun p C=>j p (qN _ C)) fun v g=>?_
   rcases qy.1 g with rfl|g
   .exact ⟨XT zSp zSp (fun x o=>by rw[qS]at o;subst o;exact j a (qZ ..)),rfl⟩
   .exact i v g
 exact this env [] h.r fun v g=>absurd g qK
theorem qlA(c)(l:okCk c)(n)(p:WfN n)(env)(j:Zb c.ts.sS.length env) :
  jS qc 238 [.ip (cNd n),.ip [eCk c],.ip [lPm env]] (if 30<=n.op then (match exam c (zz env) false n with | .ok _ => .ret (.tup []) | .error e => .pan (jx e.1 e.2)) else .pan (jx 43 n.pos)):=by
 refine vd.of_sound ?_;refine qSW call238 func238 rfl {} ?_;have i:=X4 c l (szN n) n (qj _) p (zz env) (J2 j) false;have g:WKs [eCk c,aSc (zz env),eNd n,aB false] [eCk c,aSc (zz env),eNd n,aB false] := .zk (jf c) (.zk (u4 _) (.zk (qE n) (.zs .nil)));by_cases h:30<=n.op
 .rw [if_pos h]
  simp[go_sem,h];refine fR (zJ true 43 n).toP (wkR n true 43) ?_;refine qi.tail 4 zKr ?_;simp[go_sem];refine fR (mv _ l.ts.ns env j.len j.r) (.zk (wc env) .nil) ?_;cases o:exam c (zz env) false n with
  |error e =>
   rw[o]at i;refine aK i g ?_;simp[go_sem];exact .hf _ (yC _ _)
  |ok k =>
   rw[o]at i;refine fR i.toP g ?_;exact .hf _ (HF.tup zSp)
 .rw [if_neg h]
  simp[go_sem,h];refine aK (zJ false 43 n) (wkR n false 43) ?_;simp[go_sem];exact .hf _ (yC _ _)
theorem qlB(c)(i:okCk c)(n)(P:WfN n)(env)(R:Zb c.ts.sS.length env):qg qc 181 [eCk c,lPm env,eNd n] (.agg [aI (jp c env n).1,aI (jp c env n).2]):=by
 refine jS.toP ?_;refine vd.of_sound ?_;refine qSW call181 func181 rfl {} ?_;simp[go_sem];have o:WKs [.ip (cNd n),.ip [eCk c],.ip [lPm env]] [.ip (cNd n),.ip [eCk c],.ip [lPm env]] := .zk (HF.ip (y8 n)) (.zk (HF.ip (by simp;exact jf c)) (.zk (HF.ip (by simp;exact wc env)) .nil));have T:=(qlA c i n P env R).toSound ([.arr [aI 0,aI 0]]++[.dead]) o;refine fZ (Xu (mu:=[.arr [aI 0,aI 0]]) T ?_) ?_ ?_
 .rintro v m ⟨g,_⟩
  have g:AEnd.pan v=_:=g;split at g
  .split at g
   .exact absurd g zSp
   .cases g;exact⟨_,_,rfl⟩
  .cases g;exact⟨_,_,rfl⟩
 .rintro r m ⟨U,x,⟨l,rfl⟩,⟨J,⟨g,rfl⟩,j⟩|⟨t,p,⟨g,rfl⟩,j⟩⟩
  .have g:AEnd.ret J=_:=g
   cases j;have hf:jp c env n=(0,0):=by
    unfold jp dgOf;split at g
    .rename_i h
     rw[if_pos h];split at g
     .rename_i C;first | (rw[C];done)|rfl
     .cases g
    .cases g
   rw[hf];simp[go_sem];exact .hf _ (HF.agg fun c i=>by simp at i;rcases i with rfl|rfl<;>exact HF.sc _)
  .have g:AEnd.pan (jx t p)=_:=g
   cases j;have hf:jp c env n=(t,p):=by
    unfold jp dgOf;split at g
    .rename_i h
     rw[if_pos h];split at g
     .cases g
     .rename_i e C;(try rw[C]);cases g;rfl
    .rename_i h
     rw[if_neg h];cases g;rfl
   rw[hf];simp[go_sem];exact .hf _ (HF.agg fun c i=>by simp at i;rcases i with rfl|rfl<;>exact HF.sc _)
 .rintro r m ⟨U,x,⟨l,rfl⟩,⟨J,⟨g,rfl⟩,j⟩|⟨t,p,⟨g,rfl⟩,j⟩⟩<;>cases j
theorem qlC(ts)(h:okTS ts)(i:∀ p,p∈ts.sT->WfN p.body)(n)(j:WfN n)(env)(l:Zb ts.sS.length env):qg qc 111 [eTS ts,lPm env,eNd n] (.agg [aI (zQ ts env n).1,aI (zQ ts env n).2]):=by
 refine qSU call111 func111 rfl ?_;refine fD ?_;refine fR (mr ts h (fun p o=>(i p o).small) _ (qj _)) (.zk (zw ts) (.zs .nil)) ?_;refine fR (qlB _ (vu h (qj _)) n j env l) (.zk (jf _) (.zk (wc env) (.zk (qE n) .nil))) ?_;exact .hf _ (HF.agg fun c g=>by simp at g;rcases g with rfl|rfl<;>exact HF.sc _)
end Y14
namespace Y15
open Y1
section
variable {J:Type}
def repL(g:J->J->Bool)(l:List J):List Bool:=(qs l.length).map fun i=>match l[i]? with|some x=>(l.take i).any fun y=>g x y|none=>false
theorem wY(g)(l:List J):(repL g l).length=l.length:=by simp[repL]
theorem qaF(g)(l:List J){i}(h):(repL g l)[i]?=some ((l.take i).any fun y=>g l[i] y):=by
 simp[repL,h]
@[go_sem] theorem put_cFa(a b c d e f s n):putCells [a,b,c,d,e,f] 0 (s :: cNd n)=s :: cNd n:=by
 rw[yP];simp[putCells]
end
end Y15
namespace Y16
open P1 Y1 Y9 Y15
abbrev cDg(d:Dg):List AV:=[aI d.1,aI d.2]
def dups(l:List Bool):List Dg:=(l.filter id).map fun _=>(41,0)
def repB{J:Type}(g:J->J->Bool)(l:List J)(i:Nat):List Bool:=((repL g l).take (i+1)).drop i
def rp(d:Dg):List Dg:=if d.1=0 then [] else [d]
def vR(ts:TS)(i:Nat):List Dg:=match ts.sT[i]? with
 |some p=>dups (repB (fun x y:Pd=>decide (x.name=y.name)) ts.sT i)++(dups (repL (fun x y:tZ×Int=>decide (x.1=y.1)) p.params)++rp (jp (mkCk ts i) p.params p.body))
 |none=>[]
def wZ(ts:TS)(g:List (tZ×Nd))(i:Nat):List Dg:=match g[i]? with
 |some f=>dups (repB (fun x y:tZ×Nd=>decide (x.1=y.1)) g i)++rp (zQ ts [] f.2)
 |none=>[]
def yY(ts:TS):List Dg:=
 dups (repL (fun x y:tZ×Bool=>decide (x.1=y.1)) ts.sS)++(dups (repL (fun x y:Fld=>decide (x.name=y.name)&&decide (x.sS=y.sS)) ts.sA) ++
  ((qs ts.sT.length).flatMap (vR ts)++(qs ts.sP.length).flatMap (wZ ts ts.sP)))
abbrev lDg(l:List Dg):AV := .lst false (l.map cDg)
theorem w6(l):(dups l).length<=l.length:=by
 grind [dups,yu,List.length_filter_le]
theorem qaG(d):(rp d).length<=1:=by unfold rp;split<;>simp
theorem X5(f:Nat->List Dg)(hf:∀ i,(f i).length<=10):∀ k,((qs k).flatMap f).length<=10*k
 | 0=>zSp
 |k+1=>by
  rw[List.range_succ,List.flatMap_append,zh];have:=X5 f hf k;have:=hf k;simp only[uM,List.flatMap_nil,yg];omega
theorem qaH{J}(g)(l:List J)(i):(repB g l i).length<=1:=by
 grind [repB,List.length_drop,ub]
theorem qaI{ts}(h:okTS ts)(i):(vR ts i).length<=10:=by
 unfold vR;split
 .rename_i p g
  have j:=(h.pl p (qQ g)).1
  grind [w6,repB,decide,qaH,repL,wY,qaG]
 .simp
theorem qlD(ts g i):(wZ ts g i).length<=10:=by
 grind [wZ,w6,repB,decide,qaH,qaG,zQ]
end Y16
namespace YU
open Go.RowKit
end YU
namespace YV
def cmpI(x y:Int):Int:=if x<y then -1 else if y<x then 1 else 0
def cmpL:List Int->List Int->Int
 | [],[]=>0
 | [],_ :: _ => -1
 |_ :: _,[]=>1
 |x :: a,y :: b=>if cmpI x y=0 then cmpL a b else cmpI x y
theorem qaJ:∀ a b,cmpL a b<0↔a<b
 | [],[]=>by simp[cmpL]
 | [],_ :: _=>by simp[cmpL]
 |_ :: _,[]=>by simp[cmpL]
 |x :: a,y :: b=>by
  rw[List.cons_lt_cons_iff,<-qaJ a b];simp only[cmpL,cmpI];by_cases g:x<y
  .simp [g]
  .by_cases i:y<x
   .have:x≠y:=by omega
    simp[g,i,this]
   .have:x=y:=by omega
    simp[this]
def insL(x:List Int):List (List Int)->List (List Int)
 | []=>[x]
 |y :: l=>if y<x then y :: insL x l else x :: y :: l
def srt(l:List (List Int)):List (List Int):=l.foldr insL []
theorem X6(x):∀ l,(insL x l).Perm (x :: l)
 | [] => .refl _
 |y :: l=>by
  simp only[insL];split
  .exact ((X6 x l).cons y).trans (.swap x y l)
  .exact .refl _
theorem qaK:∀ l,(srt l).Perm l
 | [] => .refl _
 |x :: l=>(X6 x (srt l)).trans ((qaK l).cons x)
theorem qaL(x):∀ l,l.Pairwise (·<=·)->(insL x l).Pairwise (·<=·)
 | [],_=>by simp[insL]
 |y :: l,h=>by
  rw[wI]at h;simp only[insL];split
  .rename_i g
   rw[wI];refine⟨fun z i=>?_,qaL x l h.2⟩;rcases qy.1 ((X6 x l).mem_iff.1 i) with rfl|i
   .exact List.le_of_lt g
   .exact h.1 z i
  .rename_i g
   have j:x<=y:=List.not_lt.1 g;rw[wI,wI];refine⟨fun z i=>?_,h⟩;rcases qy.1 i with rfl|i
   .exact j
   .exact List.le_trans j (h.1 z i)
theorem qaM:∀ l,(srt l).Pairwise (·<=·)
 | [] => .nil
 |x :: l=>qaL x (srt l) (qaM l)
theorem Us{l l'}(g:l'.Perm l)(i:l'.Pairwise fun x y=>¬cmpL y x<0):l'=srt l:=by
 refine List.Perm.eq_of_pairwise (le:=(·<=·)) (fun a b _ _ j o=>List.le_antisymm j o) (i.imp fun h=>?_) (qaM l) (g.trans (qaK l).symm);rw[qaJ]at h;exact List.not_lt.1 h
end YV
namespace YW
open YF P1 P2 Y1 Y2 Y3 Y6 Y7 Y9 Y10 Y11 Y13 Y14 YV
theorem aZ{ns k}(h:okKd ns k)(I:ns<=4):k.ts.length<=64:=by
 have o:∀ t,t∈k.ts->t∈([0,1,2,3]:List Int).flatMap fun a=>([0,1,2,3]:List Int).flatMap fun b=>([0,1,2,3]:List Int).map fun c=>[a,b,c]:=fun t J=>by
  obtain⟨l,rfl,j,i⟩:=h.ts t J;have P:=h.ar.2;have g:∀ x:Int,0<=x->x<ns->x∈([0,1,2,3]:List Int):=fun x p C=>zSo
  match l,j,i with
  | [],j,i=>simp[pad]
  | [a],j,i =>
   have:=g a (i a zSp).1 (i a zSp).2;simp only[vZ,qn];exact⟨a,this,0,zSp,0,zSp,by simp[pad]⟩
  | [a,b],j,i =>
   have p:=g a (i a zSp).1 (i a zSp).2;have C:=g b (i b zSp).1 (i b zSp).2;simp only[vZ,qn];exact⟨a,p,b,C,0,zSp,by simp[pad]⟩
  | [a,b,c],j,i =>
   have p:=g a (i a zSp).1 (i a zSp).2;have C:=g b (i b zSp).1 (i b zSp).2;have R:=g c (i c zSp).1 (i c zSp).2;simp only[vZ,qn];exact⟨a,p,b,C,c,R,by simp[pad]⟩
  |_ :: _ :: _ :: _ :: _,j,i=>simp at j;omega
 have:=jm h.nd o;simp_all
theorem cS{ns k}(h:okKd ns k)(j:ns<=4){t:Tp}(o:t∈k.ts):∀ x,x∈t->0<=x/\x<128:=fun x C=>by
 obtain⟨l,rfl,g,i⟩:=h.ts t o;have p:=h.ar.2
 match l,g,i with
 | [],g,i=>grind [pad]
 | [a],g,i =>
  grind [pad]
 | [a,b],g,i =>
  grind [pad]
 | [a,b,c],g,i =>
  grind [pad]
 |_ :: _ :: _ :: _ :: _,g,i=>simp at g;omega
theorem qlE{n}(i:WfN n)(h:¬ 20<=n.op):kd n.op=101:=by
 have g:=i.shape;refine qj8 ?_;unfold shp at g
 repeat' split at g
 all_goals grind
theorem Ys(c s inn){ks}(g:∀ k,k∈ks->∀ e,exam c s inn k = .error e->e.1≠0){e}(h:qL c s inn ks = .error e):e.1≠0:=by
 induction ks with
 |nil=>simp[qL]at h
 |cons k ks i =>
  grind [qL,qZ,qN]
theorem UE(c s pos){ks}(g:∀ k,k∈ks->∀ e,exam c s true k = .error e->e.1≠0):∀{ps e},zO c s pos ps ks = .error e->e.1≠0:=by
 induction ks with
 |nil=>grind [zO]
 |cons k ks i =>
  intro ps e h;cases ps with
  |nil=>simp[zO]at h
  |cons p ps =>
   grind [zO,qZ,qN]
theorem w7(c):∀ m n s inn e,szN n<=m->exam c s inn n = .error e->e.1≠0
 | 0,n,_,_,_,l,_=>by obtain⟨op,nm,i,ks,p⟩:=n;simp[szN]at l
 |m+1,n,s,inn,e,l,h=>by
  have o:∀ k,k∈n.sD->∀ s inn e,exam c s inn k = .error e->e.1≠0:=fun k j s inn e g=>w7 c m k s inn e (zW1 (zf j)) g
  rw[yI]at h;split at h
  .cases h;simp
  split at h
  .grind [yH]
  split at h
  .grind [UE]
  split at h
  .revert h o
   match n.sD with
   | []=>grind [z7]
   |k :: ks =>
    grind [z7,qZ,Ys,qN]
  .split at h
   .rename_i t g
    cases h;exact Ys c _ _ (fun k j e g=>o k j _ _ e g) g
   .unfold zy at h
    repeat' split at h
    all_goals first | (cases h;done) | (cases h;simp)
theorem qlF(ts)(h:okTS ts)(I:∀ p,p∈ts.sT->WfN p.body)(n)(J:WfN n)(env)(i:Zb ts.sS.length env){mu b}(C:mu[b]?=some (.arr (cKo none))) :
  qv qc 70 [.ip (cTS ts),.ip [lPm env],.ip (cNd n),.ptr b 0] mu fun e m=>match exam (mkCk ts ts.sT.length) (zz env) false n with
   | .ok j=>e = .ret (.tup [])/\m=mu.set b (.arr (cKo j))
   | .error d=>e = .pan (jx d.1 d.2)/\m=mu:=by
 refine qSW call70 func70 rfl {} ?_;have l:=vu h (qj ts.sT.length);have o:=X4 (mkCk ts ts.sT.length) l (szN n) n (qj _) J (zz env) (J2 i) false;generalize T:exam (mkCk ts ts.sT.length) (zz env) false n=E at o;have P:b<mu.length:=(qh.1 C).1;simp[go_sem];refine qi.tail 8 zKr ?_;simp[go_sem];refine fR (mr ts h (fun p R=>(I p R).small) _ (qj _)) (.zk (zw ts) (.zs .nil)) ?_;refine fR (mv _ h.ns env i.len i.r) (.zk (wc env) .nil) ?_;have g:WKs [eCk (mkCk ts ts.sT.length),aSc (zz env),eNd n,aB false] [eCk (mkCk ts ts.sT.length),aSc (zz env),eNd n,aB false] := .zk (jf _) (.zk (u4 _) (.zk (qE n) (.zs .nil)));cases E with
 |error d =>
  refine aK o g ?_;simp[go_sem]
 |ok j =>
  refine tU o.toP g ?_;have t:mu[b]?=some (.arr [aI 0,.sc (.map none)]):=C;cases j<;>simp[go_sem,t,cKo]
def rowT(k:Kd)(t:Tp):List Int:=t.take k.ar.toNat
def X7(k:Kd):List (List Int):=srt (k.ts.map (rowT k))
def Zc(ts:TS)(env:List (tZ×Int))(n:Nd):List (List Int)×Int:=
 if 20<=n.op then ([],43) else
 match exam (mkCk ts ts.sT.length) (zz env) false n with
 | .error d=>([],d.1)
 | .ok (some k)=>(X7 k,0)
 | .ok none=>([],0)
theorem qaN(mu e):Rd mu (.tup [.lst true [],aI e]) (.tup [lL [],aI e]) := .tup _ _ rfl fun k x y g i=>by
 match k,g,i with
 | 0,g,i=>simp at g i;subst g;subst i;exact .wk _ true _ (.hf _ (HF.lst fun r j=>absurd j qK))
 | 1,g,i=>simp at g i;subst g;subst i;exact .zsc _
 |k+2,g,i=>simp at g
theorem qlG{P x'}(give){lo mu}{t g e sz bt:Nat}{s x xs ys zv K}(hs:qH P t=some (e,sz,bt))(j:(qH P g).isSome=true)(hz:qC P e=some zv)
  (p:zv.cells.length=sz) (C:zv.cells.all AV.one=true) (I:sz≠0) (hb:bt<=16384) (J:Rd (cutM give mu 0) x x') (R:OwnF lo (cutM (fun i=>!give i) mu 0) sz s xs) (hx:qA (cutM (fun i=>!give i) mu 0) x'=some ys) (wx:qW sz xs) (wy:qW sz ys) (hl:xs.length+ys.length<=4294967296) (T:ys≠[])
  (k:∀ b mu',OwnF lo mu' sz (.sl b sz 0 (xs++ys).length) (xs++ys)->(∀ i,i<lo->mu'[i]?=(cutM (fun i=>!give i) mu 0)[i]?)->K (.sl b sz 0 (xs++ys).length) mu'):qw P mu #[t,g] s x K:=by
 refine .inr (.inl ⟨give,x',J,?_⟩);generalize cutM (fun i=>!give i) mu 0=mu at *
 obtain⟨R,U,a0⟩:=R;refine⟨t,g,e,sz,bt,ys,rfl,hs,j,⟨zv,hz,p,C⟩,I,hb,hx,wy,?_⟩;rcases R with rfl|⟨b,rfl,hc⟩
 .refine .inl ⟨xs,rfl,wx,hl,fun h=>absurd h T,fun h=>?_⟩
  rw[<-zh];refine k _ _ ⟨.inr ⟨mu.length,rfl,zSp⟩,fun b s o l e=>?_,zSo⟩ (fun i hi=>?_)
  .grind
  grind
 .have a1:=ym wx.ok
  have a2:=U _ _ _ _ rfl;refine .inr ⟨b,xs.length,xs.flatten,rfl,hc,zOm,hl,?_⟩;have a3:xs.flatten.take (xs.length*sz)=xs.flatten:=zY zOm;rw[<-zh];refine k _ _ ⟨.inr ⟨mu.length,rfl,?_⟩,fun b s o l e=>?_,zSo⟩ (fun i hi=>?_)
  .grind
  .grind
  grind
theorem qlH{mu x y}(h:Rd mu x y):Rd mu (.lst true [[x]]) (.lst true [[y]]):=by
 refine .lst true _ _ rfl (fun k a b g i=>?_) (fun k a b g i=>?_)
 .grind
 grind
theorem qaO(f:Nat->List Int)(l:List Nat):qW 1 (l.map fun i=>rL (f i)):=fun r g=>by
 obtain⟨i,_,rfl⟩:=qn.1 g;exact⟨rfl,rfl⟩
theorem qlI{mu av x}(h:Rd mu av x)(e):Rd mu (.tup [av,aI e]) (.tup [x,aI e]) := .tup _ _ rfl fun k x y g i=>by
 match k,g,i with
 | 0,g,i=>grind
 | 1,g,i=>simp at g i;subst g;subst i;exact .zsc _
 |k+2,g,i=>simp at g
theorem qlJ{J o:Type}{l:List J}{d}(f:J->o){seen:List Nat}(p:seen.Nodup)(t:∀ i,i∈seen->i<l.length)(g:∀ i,i<l.length->i∈seen):(seen.map fun i=>f (l.getD i d)).Perm (l.map f):=by
 have C:seen.Perm (qs l.length):=by
  grind
 have I:=C.map fun i=>f (l.getD i d)
 have P:((qs l.length).map fun i=>f (l.getD i d))=l.map f:=by
  apply jZ;intro i;by_cases j:i<l.length
  .simp [j]
  .simp [j]
 grind
end YW
namespace YX
open YM YF P1 Y1
structure IV where
 arg:Option Nd
 size:Int
 name:tZ
abbrev IEnv:=List (tZ×IV)
def aArg:Option Nd->AV
 |some n => .ip (cNd n)
 |none => .sc (.pointer none)
abbrev cIV(v:IV):List AV:=[aArg v.arg,aI v.size,aS v.name]
abbrev eIV(v:IV):AV := .agg (cIV v)
abbrev eEnv(env:IEnv):AV := .ims (encK aS eIV env)
structure ISt where
 last:Int
 sM:Int
abbrev cIn(ts:TS)(tb:Nat)(s:ISt):List AV:=cTS ts++[.mp tb,aI s.last,aI s.sM]
theorem qlK(a):HF (aArg a):=by
 cases a with
 |none=>exact HF.sc _
 |some n=>exact HF.ip (y8 n)
theorem qlL(v):HF (eIV v):=HF.agg fun c g=>by
 simp only[cIV,qy,qK,or_false]at g;rcases g with rfl|rfl|rfl
 .exact qlK _
 .exact HF.sc _
 .exact HF.sc _
theorem qaP(op):qg qc 186 [aI op] (aB (decide (op=15\/op=45\/op=46))):=by
 refine qSV call186 func186 rfl ?_;by_cases g:op=15
 .simp [go_sem,g];exact .zsc _
 by_cases i:op=45
 .simp [go_sem,i];exact .zsc _
 by_cases j:op=46
 .simp [go_sem,j];exact .zsc _
 simp[go_sem,g,i,j];exact .zsc _
def nd0:Nd := .mk 0 ⟨#[]⟩ 0 [] 0
abbrev eN0:AV := .agg [aI 0,aS ⟨#[]⟩,aI 0,.lst true [],aI 0]
theorem qaQ:WK eN0 (eNd nd0):=WK.aggs (.zs (.zs (.zs (.cons (WK.lst fun r g=>absurd g qK) (.zs .nil)))))
def payS(n:Int)(s:ISt):ISt:=⟨s.last,s.sM+n⟩
theorem payU(ts tb s n)(p : -1000000<=s.sM/\s.sM<=1000000)(t:0<=n/\n<=1000000){mu xb}(j:mu[xb]?=some (.arr (cIn ts tb s))) :
  qv qc 182 [.ptr xb 0,aI n] mu fun e m=>m=mu.set xb (.arr (cIn ts tb (payS n s)))/\e=if s.sM+n<=4000 then .ret (.tup []) else .pan (jx 2 0):=by
 refine qSW call182 func182 rfl {} ?_;have o:ql.wrap (s.sM+n)=s.sM+n:=zWr;have g:xb<mu.length:=(qh.1 j).1;have i:∀ c,(mu.set xb c)[xb]?=some c:=fun c=>qz g
 simp[go_sem,j,i,o];by_cases l:s.sM+n<=4000
 .simp [go_sem,l]
  refine fR (zJ true 2 nd0).toP (.zs (.zs (.cons qaQ .nil))) ?_;rfl
 .simp [go_sem,l]
  refine aK (zJ false 2 nd0) (.zs (.zs (.cons qaQ .nil))) ?_;simp[go_sem];exact⟨rfl,rfl⟩
theorem lookE{mu}(env nm):yj qc mu 179 (eEnv env) (aS nm) true=some (match getK nm env with|some v => .tup [eIV v,aB true] | none => .tup [eIV ⟨none,0,⟨#[]⟩⟩,aB false]):=by
 have:=keyS.lookS (et:=248) (t:=179) zSi (mu:=mu) (venc:=eIV) (es:=env) (k:=nm) trivial (fun _ _=>trivial) (z:=eIV ⟨none,0,⟨#[]⟩⟩) (by simp[go_sem,aArg]) true;rw[this];cases getK nm env<;>rfl
def ve(env:IEnv)(n:Nd)(s:ISt):Except Dg ((Nd×Int)×ISt):=
 match getK n.name env with
 |none => .ok ((n,1),s)
 |some v=>match v.arg with
  |none => .ok ((.mk n.op v.name n.n n.sD n.pos,1),s)
  |some a=>if s.sM+v.size<=4000 then .ok ((a,v.size),payS v.size s) else .error (2,0)
def endI(ts:TS)(tb:Nat)(mu:Mu)(xb:Nat)(r:Except Dg ((Nd×Int)×ISt))(e:AEnd)(m:Mu):Prop:=
 match r with
 | .ok ((n,k),s)=>e = .ret (.tup [eNd n,aI k])/\m[xb]?=some (.arr (cIn ts tb s))/\(∀ i,i<mu.length->i≠xb->m[i]?=mu[i]?)/\mu.length<=m.length
 | .error d=>e = .pan (jx d.1 d.2)/\(∀ i,i<mu.length->i≠xb->m[i]?=mu[i]?)/\mu.length<=m.length
theorem qlM(ts tb s)(hs : -1000000<=s.sM/\s.sM<=500000)(env)(U:(env.map Prod.fst).Nodup)(hz:∀ e,e∈env->0<=e.2.size/\e.2.size<=500000)(n){mu xb}(I:mu[xb]?=some (.arr (cIn ts tb s))) :
  qv qc 183 [.ptr xb 0,eEnv env,eNd n] mu (endI ts tb mu xb (ve env n s)):=by
 refine qSW call183 func183 rfl { mt:=[5] } ?_;have p:=fun mu=>lookE (mu:=mu) env n.name
 have g:xb<mu.length:=(qh.1 I).1;obtain⟨B,hB⟩:∃ B,B=eEnv env:=⟨_,rfl⟩;rw[<-hB];simp only[<-hB]at p;unfold ve;cases J:getK n.name env with
 |none =>
  simp only[J]at p;simp[go_sem];refine tH _ (p _) ?_;simp[go_sem,aArg];exact⟨rfl,by rw[qG g];exact I,fun i j _=>qG j,zSp⟩
 |some v =>
  simp only[J]at p;have P:=hz (n.name,v) ((Qs U).1 J);obtain⟨va,t,R⟩:=v;cases va with
  |none =>
   simp[go_sem];refine tH _ (p _) ?_;have C:(cNd n).set 1 (AV.sc (Value.string R))=cNd (.mk n.op R n.n n.sD n.pos):=by
    obtain⟨op,nm,nn,ks,pos⟩:=n;simp[yP,Nd.op,Nd.name,Nd.n,Nd.sD,Nd.pos]
   simp[go_sem,aArg,C];exact⟨rfl,by rw[qG g];exact I,fun i j _=>qG j,zSp⟩
  |some a =>
   simp[go_sem];refine tH _ (p _) ?_;simp[go_sem,aArg];have T:0<=t/\t<=500000:=P;refine fZ (payU ts tb s t ⟨zOm,zOm⟩ ⟨zOm,zOm⟩ (by rw[qG g];exact I)) ?_ ?_
   .rintro r m ⟨rfl,e⟩
    by_cases l:s.sM+t<=4000
    .rw [if_pos l]at e
     cases e;rw[List.set_append_left _ _ g];simp[go_sem,l];refine fG [0,1,2,3,4,5,7,6] [(0,0,[]),(1,0,[]),(2,0,[]),(3,0,[]),(4,0,[]),(5,0,[]),(7,0,[]),(6,1,[5])] zKr zKr zSi ?_
     all_goals
      simp[go_sem];refine⟨rfl,?_,fun i j o=>?_,zSp⟩
      .rw [qG (zUs g),qz g];rfl
      .rw [qG (zUs j),zH (fun e=>o e.symm)]
    .rw [if_neg l]at e;cases e
   .rintro r m ⟨rfl,e⟩
    by_cases l:s.sM+t<=4000
    .rw [if_pos l]at e;cases e
    .rw [if_neg l]at e
     cases e;simp[go_sem,l];refine⟨rfl,fun i j o=>?_,zSp⟩;rw[zH (fun e=>o e.symm),qG j]
end YX
namespace Q1
open P2 Y1 Y2 Y6
abbrev aU(x:Int):AV := .sc (.int .u8 x)
theorem kindU(op):qg qc 12 [aI op] (aU (kd op)):=by
 refine qSU call12 func12 rfl ?_;unfold kd;by_cases g:1<=op<;>by_cases i:op<=15<;>by_cases j:20<=op<;>by_cases l:op<=23<;>by_cases o:30<=op<;>by_cases p:op<=51<;>first|omega | (simp[go_sem,g,i,j,l,o,p];exact .zsc _)
def kwL:List tZ:=[⟨#[115,111,114,116]⟩,⟨#[111,114,100,101,114,101,100]⟩,⟨#[118,97,114]⟩,⟨#[102,105,101,108,100]⟩,⟨#[112,114,101,100]⟩,⟨#[102,97,99,116]⟩,⟨#[97,108,108]⟩,⟨#[115,111,109,101]⟩,⟨#[110,111]⟩,⟨#[111,110,101]⟩,⟨#[108,111,110,101]⟩,⟨#[97,108,119,97,121,115]⟩,⟨#[101,118,101,110,116,117,97,108,108,121]⟩,⟨#[97,102,116,101,114]⟩,⟨#[117,110,116,105,108]⟩,⟨#[110,111,110,101]⟩,⟨#[117,110,105,118]⟩,⟨#[105,100,101,110]⟩,⟨#[105,110]⟩,⟨#[110,111,116]⟩,⟨#[116,114,117,101]⟩,⟨#[102,97,108,115,101]⟩]
def kwB(s:tZ):Bool:=kwL.any fun x=>decide (x=s)
theorem qlN(s):qg qc 263 [aS s] (aB (kwB s)):=by
 refine qSU call263 func263 rfl ?_;have g:kwL.length=22:=rfl;refine aA 22 (fun k U=>U.tm 0=aS s/\U.tm 3 = .lst true (kwL.map fun s=>[aS s])/\U.tm 4=aI k/\U.mu=[]/\∀ j x,j<k->kwL[j]?=some x->x≠s) ?_ ?_
 .refine ⟨zSi,?_,zSi,zSi,fun j x t=>absurd t zOm⟩
  simp[go_sem,kwL]
 .rintro k U hk ⟨J,I,P,R,hI⟩
  unfold kwB;generalize hK:kwL=K at *
  by_cases T:k=22
  .subst T
   have a0:(K.any fun x=>decide (x=s))=false:=by
    rw[List.any_eq_false];intro x p;obtain⟨j,t⟩:=List.mem_iff_getElem?.1 p;simpa using hI j x (by have:=(qh.1 t).1;omega) t
   rw[a0];simp[go_sem,I,P,R,g];exact .zsc _
  .have C:k<K.length:=by omega
   have i:k<22:=zOm;have l:(k:Int)<22:=zOm;have w1:=zWk k;by_cases p:K[k]=s
   .have a1:(K.any fun x=>decide (x=s))=true:=List.any_eq_true.2 ⟨K[k],qt C,zUs p⟩
    rw[a1];simp[go_sem,J,I,P,R,g,i,l,p];exact .zsc _
   .simp [go_sem,J,I,P,R,g,i,l,jG p,w1]
    try refine⟨i,aC ?_⟩
    try refine aC ?_
    refine⟨zS1 J,zS1 I,zSi,zSi,fun j x t o=>?_⟩;by_cases a2:j=k
    .subst a2
     rw[qB C]at o;cases o;exact p
    .exact hI j x zOm o
def bys(l:List Int):tZ:=⟨(l.map fun x=>UInt8.ofNat x.toNat).toArray⟩
theorem qlO(l x):bys (l++[x])=bys l++⟨#[UInt8.ofNat x.toNat]⟩:=by
 apply ByteArray.ext;simp[bys]
theorem qaR(l):(bys l).size=l.length:=by simp[bys,ByteArray.size]
def shpV(op:Int)(nk:Nat):AV:=match shp op nk with
 |some l => .tup [aS (bys l),aB true]
 |none => .tup [aS ⟨#[]⟩,aB false]
theorem UF(mu a b):Rd mu (.tup [aS a,aB b]) (.tup [aS a,aB b]) := .hf _ (HF.tup fun c g=>by simp at g;rcases g with rfl|rfl<;>exact HF.sc _)
theorem qlP(nk:Nat)(J:nk<=100000):qg qc 244 [aI 47,aI nk] (shpV 47 nk):=by
 refine qSU call244 func244 rfl ?_;refine aA (min nk 401) (fun k U=>U.tm 1=aI nk/\U.tm 6=aS (bys (qM k 101))/\U.tm 7=aI k) ?_ ?_
 .exact ⟨zSi,by simp[go_sem,bys],zSi⟩
 .rintro k U hk ⟨i,j,e7⟩
  by_cases l:k=min nk 401
  .have P:shpV 47 nk = .tup [aS (bys (qM k 101)),aB true]:=by
    rw[l];rfl
   rw[P];by_cases h1:nk<=k
   .have o:¬k<nk:=by omega
    simp[go_sem,i,j,e7,o];exact UF _ _ _
   .have R:k=401:=by omega
    subst R;have h3:401<nk:=zOm;have T:(401:Int)<nk:=zOm;simp[go_sem,i,j,e7,T];exact UF _ _ _
  .have p:k<nk:=by omega
   have I:k<401:=zOm;have g:(k:Int)<401:=zOm;have w1:=zWk k;have t:(bys (qM k 101)).size+1<=9223372036854775807:=by rw[qaR,List.length_replicate];omega
   have C:bys (qM k 101)++⟨#[101]⟩=bys (qM (k+1) 101):=by
    rw[List.replicate_succ',qlO];rfl
   generalize bys (qM k 101)=B at *
   simp[go_sem,i,j,e7,p,g,t,w1];refine⟨zOm,aC ?_⟩;exact⟨zS1 i,zS1 C,zSi⟩
theorem qlQ(op)(nk:Nat)(g:nk<=100000):qg qc 244 [aI op,aI nk] (shpV op nk):=by
 by_cases h47:op=47
 .subst h47;exact qlP nk g
 by_cases o:1<=op/\op<=51
 .have j:op=1\/op=2\/op=3\/op=4\/op=5\/op=6\/op=7\/op=8\/op=9\/op=10\/op=11\/op=12\/op=13\/op=14\/op=15\/op=16\/op=17\/op=18\/op=19\/op=20\/op=21\/op=22\/op=23\/op=24\/op=25\/op=26\/op=27\/op=28\/op=29\/op=30\/op=31\/op=32\/op=33\/op=34\/op=35\/op=36\/op=37\/op=38\/op=39\/op=40\/op=41\/op=42\/op=43\/op=44\/op=45\/op=46\/op=48\/op=49\/op=50\/op=51:=by omega
  rcases j with rfl|rfl|rfl|rfl|rfl|rfl|rfl|rfl|rfl|rfl|rfl|rfl|rfl|rfl|rfl|rfl|rfl|rfl|rfl|rfl|rfl|rfl|rfl|rfl|rfl|rfl|rfl|rfl|rfl|rfl|rfl|rfl|rfl|rfl|rfl|rfl|rfl|rfl|rfl|rfl|rfl|rfl|rfl|rfl|rfl|rfl|rfl|rfl|rfl|rfl
  all_goals
   refine qSV call244 func244 rfl ?_;simp[go_sem,shpV,shp];exact UF _ _ _
 .have i:∀ c:Int,1<=c->c<=51->(op=c)=False:=fun c p t=>eq_false zOm
  have l:shp op nk=none:=by
   unfold shp
   repeat rw[zIn]
  rw[shpV,l];refine qSV call244 func244 rfl ?_;simp[go_sem,i];exact UF _ _ _
end Q1
end Go.Proofs.YtlnbdknjkmmgbaaGreatDoor
