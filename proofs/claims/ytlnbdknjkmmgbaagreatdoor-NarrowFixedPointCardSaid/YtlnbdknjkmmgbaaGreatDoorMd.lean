/-
  Own library, part 4: an abstract reading of values and a calculus over it; contracts of functions; plain lemmas.
-/
import Derived.Test.YtlnbdknjkmmgbaaGreatDoorMc
set_option linter.unusedVariables false
set_option linter.unusedSimpArgs false
set_option maxRecDepth 100000
open Go renaming Program->qf,TypeId->j1,Operand->wg,FuncId->xa
open Go.Proofs.Tryz renaming prog->qb
open List renaming getElem?_eq_some_iff->qg,mem_map->qn,range->qp,getElem_mem->qq,mem_cons->qs,getElem?_set_self->qv,getElem?_append_left->qB,getElem?_eq_getElem->qC,not_mem_nil->qG,replicate->qI,mem_append->qL,mem_of_getElem?->qN,mem_singleton->qO,mem_cons_of_mem->qP,all_eq_true->qR,mem_cons_self->qX,drop_eq_getElem_cons->qY,length_append->qZ,take_length->zi,getElem?_set_ne->zA,getElem?_map->zB,drop_length->zF,append_assoc->zL,mem_range->zO,getElem?_append_right->zY,append_nil->zZ,map_append->z6,length_cons->yh,take_of_length_le->yr,length_map->yB,mem_append_left->yQ,cons_append->yW,getElem?_take->jE,ext_getElem?->vJ,flatMap_cons->uj,foldl_append->ul,getElem?_drop->um,length_take->uo,mem_flatMap->uV,pairwise_cons->uW,getElem?_eq_none->Qn,getElem_of_mem->JO,getElem?_range->JP
open Nat renaming le_refl->qh,le_trans->zM,lt_succ_iff_lt_or_eq->JQ
open Go.IntKind renaming i64->qj
open Option.some renaming injEq->qm
open Bool renaming and_eq_true->qx
open Option renaming map_some->zb,map_eq_some_iff->vH
open Int renaming mul_le_mul->yX,tmod_eq_emod_of_nonneg->uZ
open List.Nodup renaming length_le_of_subset->yY
open Except.ok renaming injEq->jp
open List.cons renaming injEq->vK
namespace Go.Proofs.YtlnbdknjkmmgbaaGreatDoor
open Go Go.Ev Go.Proofs Tryz
namespace Y12
open Y1 Y2 Y3 P1 YM Y5 Y6 Y7 Y8 Y9 Y11
def trF(t:Tp):Tp:=[t.getD 1 0,t.getD 0 0,0]
theorem VK{a:List Tp}{t}:t∈uni [] (a.map fun t=>[t.getD 1 0,t.getD 0 0,0])↔∃ x,x∈a/\trF x=t:=by
 rw[j8];simp[trF]
theorem qg6(ns)(h:ns<=4):ok2 (zj ns 2):=by
 have g:((qp ns).map fun (i:Nat)=>pad (qI 2 (i:Int))).Nodup:=by
  refine List.pairwise_map.2 (List.pairwise_iff_getElem.2 fun i j o C p=>?_);simp only[List.getElem_range];intro e;simp[pad,List.replicate_succ]at e;omega
 refine⟨rfl,g,fun t l=>?_⟩;have l:t∈(qp ns).map fun (i:Nat)=>pad (qI 2 (i:Int)):=l
 obtain⟨i,o,rfl⟩:=qn.1 l;rw[zO]at o;exact⟨i,i,rfl,zOm,zOm,zOm,zOm⟩
theorem qg7{a}(h:ok2 a):ok2 (kClo a):=by
 have:∀(f n:Nat)(a:Kd),ok2 a->ok2 (cloN f n a):=by
  intro f;induction f with
  |zero=>intro n a h;exact h
  |succ f g =>
   intro n a h;unfold cloN;split
   .exact g _ _ (h.sum h.join)
   .exact h
 exact this 70 0 a h
theorem qg8(c)(hc:okCk c)(op a)(R:ok2 a)(a0:op=11\/op=12\/op=13):qd qb 213 [eCk c,aI op,eKd a] (eKd (binK c.ts.sS.length op a)):=by
 refine qSV call213 func213 rfl ?_;have C:=hc.ts.ns;unfold binK;rcases a0 with rfl|rfl|rfl
 .simp [go_sem]
  refine fL (YN _ _) ?_ (by rintro r m ⟨e,_⟩;cases e);rintro r m ⟨e,c,rfl⟩;cases e;simp[go_sem];refine qi.seen a.ts.length (fun seen U=>U.tm 5 = .ip (cKd a)/\U.tm 6 = .ptr 0 0/\U.tm 7 = .ptr 3 0/\U.tm 25 = .ptr 4 0 /\
   ColS 2 (.arr [aI 0,.sc (.map none)]) c (.it (eT a.ts) seen) (fun t=>∃ x,(∃ i,i∈seen/\a.ts[i]?=some x)/\trF x=t) U.mu) ?_ ?_
  .exact ⟨zSi,zSi,zSi,zSi,[],rfl,rfl,rfl,rfl,rfl,zSp,zSp,zSp⟩
  .rintro seen U a5 a6 ⟨e5,e6,e7,I,l,k0,k1,k2,k3,k4,h1,h2,h3⟩
   simp[go_sem,I];refine⟨4,eT a.ts,seen,rfl,k4,fun i e hi C=>?_,fun p=>?_⟩
   .obtain ⟨x,hx,rfl⟩:=wU hi
    have a1:okT x:=R.okK.len x (qN hx);have a2:i<a.ts.length:=(qg.1 hx).1;have a3:x.length=3:=a1;have o:4<U.mu.length:=(qg.1 k4).1;have g:∀(c:Cell)(l:List Cell)(j:Nat),j<4->((U.mu.set 4 c)++l)[j]?=U.mu[j]?:=fun c l j hj=>by
     rw[qB zSo,zGl]
    have q2:=fun c l=>(g c l 2 zOm).trans k2
    have q3:=fun c l=>(g c l 3 zOm).trans k3
    obtain⟨J,P,T,rfl⟩:∃ J P T,x=[J,P,T]:=by
     match x,a3 with
     | [J,P,T],_=>exact⟨_,_,_,rfl⟩
    simp[go_sem,e7,I,hi,o,q3];refine tB _ (updT (t:=[P,J,0]) (q2 _ _) rfl h2) ?_;simp[go_sem];refine⟨i,a2,C,zS1 e5,zS1 e6,by simp[go_sem,e7],zS1 I,ins l [P,J,0],?_,?_,?_,?_,?_,ZP h1,fun t ht=>?_,fun t=>?_⟩
    .simp only[qH]
     rw[zGl,g _ _ 0 zOm,k0]
    .simp only[qH]
     rw[zGl,g _ _ 1 zOm,k1]
    .simp only[qH]
     rw[qv zSo]
    .simp only[qH]
     rw[zGl,g _ _ 3 zOm,k3]
    .simp only[qH]
     rw[zGl,qB (zUs o),qv o]
    .rcases vR.1 ht with h|rfl
     .exact h2 t h
     .rfl
    .simp only[vR,h3,WD hx]
     constructor
     .rintro (⟨y,h,e⟩|rfl)
      .exact ⟨y,.inl h,e⟩
      .exact ⟨[J,P,T],.inr rfl,rfl⟩
     .rintro ⟨y,h|rfl,e⟩
      .exact .inl ⟨y,h,e⟩
      .exact .inr e.symm
   .obtain ⟨a4,hm⟩:=four k0 k1 k2 k3
    simp[go_sem,e6,e7,hm];refine Rd.aggs ⟨.hf _ (HF.sc _),Rd.setT (k:=(kTr a).ts) rfl h1 (uB zSp) (fun t=>?_),trivial⟩;refine(h3 t).trans (Iff.trans ?_ VK.symm);constructor
    .rintro ⟨y,h,e⟩;exact⟨y,(WE (zUs p)).1 h,e⟩
    .rintro ⟨y,h,e⟩;exact⟨y,(WE (zUs p)).2 h,e⟩
 .simp [go_sem]
  refine fB (VC a R) (.zk (zD _) .nil) ?_;exact .hf _ (zD _)
 .simp [go_sem]
  refine fB (VC a R) (.zk (zD _) .nil) ?_;refine fB (WP c hc 2 zOm zOm) (.zk (yO _) (.zs .nil)) ?_;refine fB (sumU true (kClo a) (zj c.ts.sS.length 2) (qg7 R).okK.len (qg6 _ C).okK.len) (.zk (zD _) (.zk (YP _ [_]) .nil)) ?_;exact .hf _ (zD _)
theorem hfK2(n)(ts:List Tp):HF (.agg [aI n,mKd ts]):=zD ⟨n,ts⟩
theorem hfKn:HF (.agg [aI 0,.sc (.map none)]):=qg4 none
theorem wkR(n b e):WKs [aB b,aI e,eNd n] [aB b,aI e,eNd n] := .zs (.zs (.zk (qz n) .nil))
structure ApOk (op:Int) (l:List (Option Kd)):Prop where
 one:op=5->∃ a,l=[a]
 bin:op=11\/op=12\/op=13->∃ a,l=[some a]/\okK a/\(a.ar=2->ok2 a)
 two:op=6\/op=14\/op=7\/op=8\/op=32\/op=33\/op=9\/op=10->∃ a b,l=[some a,some b]/\okK a/\okK b
theorem VL{ns op n pos l}(i:op≠2)(j:op≠3)(o:op≠4)(p:op≠5)(t:op≠11)(C:op≠12)(I:op≠13)(t1:op≠6)(t2:op≠14)(t3:op≠7)(t4:op≠8)(t5:op≠32)(t6:op≠33)(J:op≠9)(g:op≠10):zn ns op n pos l = .ok none:=by
 unfold zn;rw[if_neg i,if_neg j,if_neg o];split
 .simp only[p,t,C,I,or_self,if_false]
  split<;>rfl
 .simp only[t1,t2,t3,t4,t5,t6,J,g,or_self,if_false]
 .rfl
theorem qg9(c)(hc:okCk c)(full n l)(R:ApOk n.op l):ju qb 145 [eCk c,eNd n,.lst full (l.map cKo)] (endK (zn c.ts.sS.length n.op n.n n.pos l)):=by
 refine jK.of_sound ?_;refine qSW call145 func145 rfl {} ?_;by_cases ho:n.op=2\/n.op=3\/n.op=4\/n.op=5\/n.op=11\/n.op=12\/n.op=13\/n.op=6\/n.op=14\/n.op=7\/n.op=8\/n.op=32\/n.op=33\/n.op=9\/n.op=10
 case neg =>
  simp only[not_or]at ho;obtain⟨U,h3,h4,I,b1,b2,b3,t1,t2,t3,t4,t5,t6,h9,p⟩:=ho;rw[VL U h3 h4 I b1 b2 b3 t1 t2 t3 t4 t5 t6 h9 p];simp[go_sem,U,h3,h4,I,b1,b2,b3,t1,t2,t3,t4,t5,t6,h9,p];exact .hf _ hfKn
 unfold zn;by_cases U:n.op=2
 .simp [go_sem,U]
  refine fB (pD n.n) (.zs .nil) ?_;exact .hf _ (hfK2 _ _)
 by_cases h3:n.op=3
 .simp [go_sem,h3]
  refine fB (WP c hc 1 zOm zOm) (.zk (yO _) (.zs .nil)) ?_;exact .hf _ (zD _)
 by_cases h4:n.op=4
 .simp [go_sem,h4]
  refine fB (WP c hc 2 zOm zOm) (.zk (yO _) (.zs .nil)) ?_;exact .hf _ (zD _)
 by_cases I:n.op=5
 .obtain ⟨a,rfl⟩:=R.one I
  cases a with
  |none=>simp[go_sem,I];exact .hf _ hfKn
  |some a=>simp[go_sem,I];exact .hf _ (hfK2 _ _)
 by_cases J:n.op=11\/n.op=12\/n.op=13
 .obtain ⟨a,rfl,o,a0⟩:=R.bin J
  have t:=fun h=>qg8 c hc n.op a (a0 h) J
  by_cases i:a.ar=2
  .have t:=t i
   rcases J with h|h|h<;>rw[h]at t
   all_goals
    simp[go_sem,h,i];refine tN zKr ?_;simp[go_sem,i];refine fB (zu true 42 n).toP (wkR n true 42) ?_;refine tN zKr ?_;simp[go_sem,h];refine fB t (.zk (yO _) (.zs (.zk (zD _) .nil))) ?_;exact .hf _ (zD _)
  .rcases J with h|h|h
   all_goals
    simp[go_sem,h,i];refine qe.tail 6 zKr ?_;simp[go_sem,i];refine fQ (zu false 42 n) (wkR n false 42) ?_;simp[go_sem];exact .hf _ (ye _ _)
 by_cases ht:n.op=6\/n.op=14\/n.op=7\/n.op=8\/n.op=32\/n.op=33
 .obtain ⟨a,b,rfl,o,g⟩:=R.two zOm
  have T:=qgJ n.op a b o g;simp only[not_or]at J;by_cases i:a.ar=b.ar
  .rcases ht with h|h|h|h|h|h<;>rw[h]at T
   all_goals
    simp[go_sem,h,i];refine tN zKr ?_;simp[go_sem,i];refine fB (zu true 42 n).toP (wkR n true 42) ?_;refine tN zKr ?_;simp[go_sem,h];refine fB T (.zs (.zk (zD _) (.zk (zD _) .nil))) ?_;exact .hf _ (zD _)
  .rcases ht with h|h|h|h|h|h
   all_goals
    simp[go_sem,h,i];refine qe.tail 10 zKr ?_;simp[go_sem,i];refine fQ (zu false 42 n) (wkR n false 42) ?_;simp[go_sem];exact .hf _ (ye _ _)
 simp only[not_or]at J ht;by_cases h9:n.op=9
 .obtain ⟨a,b,rfl,o,g⟩:=R.two zOm
  have hj:=uD a b o g;have P:qj.wrap (a.ar+b.ar)=a.ar+b.ar:=zS (zW2 o.ar g.ar) (zW2 o.ar g.ar);have w2:qj.wrap (a.ar+b.ar-2)=a.ar+b.ar-2:=zS (zW2 o.ar g.ar) (zW2 o.ar g.ar);simp[go_sem,h9];refine tN zKr ?_;by_cases C:1<=a.ar+b.ar-2
  .by_cases j:a.ar+b.ar-2<=3
   .simp [go_sem,P,w2,C,j]
    refine fB (zu true 42 n).toP (wkR n true 42) ?_;refine fD ?_;refine fB hj (.zk (zD _) (.zk (zD _) .nil)) ?_;exact .hf _ (zD _)
   .simp [go_sem,P,w2,C,j]
    refine fQ (zu false 42 n) (wkR n false 42) ?_;simp[go_sem];exact .hf _ (ye _ _)
  .simp [go_sem,P,w2,C]
   refine fQ (zu false 42 n) (wkR n false 42) ?_;simp[go_sem];exact .hf _ (ye _ _)
 by_cases p:n.op=10
 .obtain ⟨a,b,rfl,o,g⟩:=R.two zOm
  have P:qj.wrap (a.ar+b.ar)=a.ar+b.ar:=zS (zW2 o.ar g.ar) (zW2 o.ar g.ar);by_cases j:a.ar+b.ar<=3
  .have hj:=WC a b o g j
   simp[go_sem,p];refine tN zKr ?_;simp[go_sem,P,j];refine fB (zu true 42 n).toP (wkR n true 42) ?_;refine fD ?_;refine fB hj (.zk (zD _) (.zk (zD _) .nil)) ?_;exact .hf _ (zD _)
  .simp [go_sem,p]
   refine qe.tail 11 zKr ?_;simp[go_sem,P,j];refine fQ (zu false 42 n) (wkR n false 42) ?_;simp[go_sem];exact .hf _ (ye _ _)
 exact absurd ho zOm
end Y12
namespace P2
open Y1 Y2 Y3 P1 Y6 Y8 Y9 Y12
section
variable {a b k:Kd}{l:List Int}{ns:Nat}
def kd(op:Int):Int:=if 1<=op/\op<=15 then 101 else if 20<=op/\op<=23 then 105 else if 30<=op/\op<=51 then 102 else 0
def shp(op:Int)(nk:Nat):Option (List Int):=
 if op=1\/op=2\/op=3\/op=4\/op=20\/op=30\/op=31 then some []
 else if op=5\/op=11\/op=12\/op=13\/op=21\/op=34\/op=35\/op=36\/op=37 then some [101]
 else if op=6\/op=7\/op=8\/op=9\/op=10\/op=14\/op=32\/op=33 then some [101,101]
 else if op=15\/op=45\/op=46 then some [101,102]
 else if op=22\/op=23\/op=38\/op=39 then some [105,105]
 else if op=40\/op=48\/op=49\/op=50 then some [102]
 else if op=41\/op=42\/op=43\/op=44\/op=51 then some [102,102]
 else if op=47 then some (qI (min nk 401) 101)
 else none
inductive WfN:Nd->Prop where
 |mk (n:Nd) (h:shp n.op n.sD.length=some (n.sD.map fun k=>kd k.op)) (hn:n.op=2->1<=n.n/\n.n<=3) (hk:∀ k,k∈n.sD->WfN k):WfN n
theorem WfN.shape{n}(h:WfN n):shp n.op n.sD.length=some (n.sD.map fun k=>kd k.op):=by cases h;assumption
theorem WfN.num{n}(h:WfN n):n.op=2->1<=n.n/\n.n<=3:=by cases h;assumption
theorem WfN.kid{n k}(h:WfN n)(g:k∈n.sD):WfN k:=by
 cases h with
 |mk _ _ _ h=>exact h k g
theorem gi{op nk}(h:shp op nk=some l):l.length<=401:=by
 grind [shp]
theorem WfN.len{n}(h:WfN n):n.sD.length<=401:=by
 have:=gi h.shape;simpa using this
theorem WfN.small{n}(h:WfN n):Small n:=by
 induction h with
 |mk n g j l i=>exact .mk n (by have:=gi g;simp at this;omega) i
structure okKd (ns:Nat) (k:Kd):Prop where
 ar:1<=k.ar/\k.ar<=3
 nd:k.ts.Nodup
 ts:∀ t,t∈k.ts->∃ l,t=pad l/\(l.length:Int)=k.ar/\∀ x,x∈l->0<=x/\x<ns
theorem okKd.okK(h:okKd ns k):okK k:=⟨h.ar,fun t g=>by obtain⟨l,rfl,_⟩:=h.ts t g;rfl,h.nd⟩
theorem okKd.ok2(h:okKd ns k)(o:ns<=4)(g:k.ar=2):ok2 k:=⟨g,h.nd,fun t p=>by
 obtain⟨l,rfl,i,j⟩:=h.ts t p;rw[g]at i
 match l,i with
 | [x,y],_ =>
  have C:=j x zSp;have g:=j y zSp;exact⟨x,y,rfl,zOm,zOm,zOm,zOm⟩⟩
theorem aD(i:k.ar=2)(g:k.ts.Nodup)(h:∀ t,t∈k.ts->∃ x y,t=[x,y,0]/\0<=x/\x<ns/\0<=y/\y<ns):okKd ns k:=⟨zOm,g,fun t j=>by
 obtain⟨x,y,rfl,o,p,C,I⟩:=h t j;exact⟨[x,y],rfl,by rw[i];rfl,fun z l=>by simp at l;omega⟩⟩
theorem okKd.pairs(h:okKd ns k)(g:k.ar=2):∀ t,t∈k.ts->∃ x y,t=[x,y,0]/\0<=x/\x<ns/\0<=y/\y<ns:=fun t p=>by
 obtain⟨l,rfl,i,j⟩:=h.ts t p;rw[g]at i
 match l,i with
 | [x,y],_ =>
  have o:=j x zSp;have g:=j y zSp;exact⟨x,y,rfl,o.1,o.2,g.1,g.2⟩
theorem WQ(j:1<=l.length)(o:l.length<=3)(i:∀ x,x∈l->0<=x/\x<ns):okKd ns (kOf l):=
 ⟨by grind [kOf],by simp[kOf],fun t g=>by
  have g:t∈[pad l]:=g;rw[qO]at g;exact⟨l,g,rfl,i⟩⟩
theorem qhA{n}(h:1<=n/\n<=3):okKd ns ⟨n,[]⟩:=⟨h,zSp,fun t g=>by simp at g⟩
theorem WR(ns g)(I:1<=g)(J:g<=3):okKd ns (zj ns g):=by
 refine⟨by grind [zj],?_,fun t l=>?_⟩
 .refine List.pairwise_map.2 ((List.pairwise_iff_getElem.2 fun i j o P p=>?_))
  simp only[List.getElem_range];obtain⟨a,rfl⟩:∃ a,g=a+1:=⟨g-1,zOm⟩
  grind [pad]
 .have l:t∈(qp ns).map fun (i:Nat)=>pad (qI g (i:Int)):=l
  obtain⟨i,o,rfl⟩:=qn.1 l;rw[zO]at o;exact⟨_,rfl,by simp[zj],fun x C=>by rw[List.eq_of_mem_replicate C];omega⟩
theorem Jb(i:okKd ns a)(j:okKd ns b)(h:a.ar=b.ar):okKd ns (kSum a b):=by
 refine⟨i.ar,uB (uB zSp),fun t g=>?_⟩;have g:t∈uni (uni [] a.ts) b.ts:=g;simp only[j8,qG,false_or]at g;rcases g with g|g
 .exact i.ts t g
 .obtain ⟨l,e,o,p⟩:=j.ts t g
  exact⟨l,e,by rw[o,<-h];rfl,p⟩
theorem qhB(g:okKd ns a):okKd ns (Zc a b):=
 ⟨g.ar,g.nd.filter _,fun t i=>g.ts t (List.mem_filter.1 i).1⟩
theorem qhC{op}(g:okKd ns a)(i:okKd ns b)(h:a.ar=b.ar):okKd ns (jR op a b):=by
 grind [jR,Jb,qhB]
theorem Zi(h:l.length<=3)(k)(g:k<=l.length):(pad l).take k=l.take k:=by
 match l,h with
 | [],_=>grind
 | [a],_=>match k,g with
  | 0,_=>rfl
  | 1,_=>rfl
 | [a,b],_=>match k,g with
  | 0,_=>rfl
  | 1,_=>rfl
  | 2,_=>rfl
 | [a,b,c],_=>match k,g with
  | 0,_=>rfl
  | 1,_=>rfl
  | 2,_=>rfl
  | 3,_=>rfl
theorem Jc{g i}(j:g.length<=3)(l:i.length<=3)(s):conc (pad g) g.length (pad i) i.length s=pad (g.take (g.length-s)++i.drop s):=by
 simp_all[conc,Zi,qh,zi]
theorem Jd(i:okKd ns a)(j:okKd ns b)(o:1<=a.ar+b.ar-2)(p:a.ar+b.ar-2<=3):okKd ns (zw a b):=by
 refine⟨⟨o,p⟩,WB,fun t C=>?_⟩;obtain⟨x,y,⟨I,J⟩,hf⟩:=wW.1 C;obtain⟨g,rfl,P,R⟩:=i.ts x I;obtain⟨l,rfl,T,U⟩:=j.ts y J;have a0:=i.ar;have a1:=j.ar;unfold Ze at hf;split at hf
 .simp only[qm]at hf
  rw[show a.ar.toNat=g.length by omega,show b.ar.toNat=l.length by omega,Jc zOm zOm]at hf;refine⟨_,hf.symm,?_,fun z hz=>?_⟩
  .show ((g.take (g.length-1)++l.drop 1).length:Int)=a.ar+b.ar-2
   simp only[qZ,uo,List.length_drop];omega
  grind
 grind
theorem qhD(i:okKd ns a)(j:okKd ns b)(o:a.ar+b.ar<=3):okKd ns (vT a b):=by
 have p:=i.ar;have C:=j.ar;refine⟨⟨by grind [vT],o⟩,pN,fun t I=>?_⟩;obtain⟨x,y,⟨J,P⟩,hf⟩:=YO.1 I;obtain⟨g,rfl,R,T⟩:=i.ts x J;obtain⟨l,rfl,U,a0⟩:=j.ts y P;unfold wv at hf;simp only[qm]at hf;rw[show a.ar.toNat=g.length by omega,show b.ar.toNat=l.length by omega,Jc zOm zOm]at hf;refine⟨_,hf.symm,?_,fun z hz=>?_⟩
 .show ((g.take (g.length-0)++l.drop 0).length:Int)=a.ar+b.ar
  simp only[qZ,uo,List.length_drop];omega
 grind
theorem qhE(g:okKd ns a)(i:a.ar=2):okKd ns (kTr a):=by
 refine aD rfl (uB zSp) (fun t j=>?_);obtain⟨x,l,rfl⟩:=VK.1 j;obtain⟨p,q,rfl,o,C,I,J⟩:=g.pairs i x l;exact⟨q,p,rfl,I,J,o,C⟩
theorem Je(i:okKd ns a)(g:a.ar=2):okKd ns (kClo a)/\(kClo a).ar=2:=by
 have:∀(f n:Nat)(a:Kd),okKd ns a->a.ar=2->okKd ns (cloN f n a)/\(cloN f n a).ar=2:=by
  intro f;induction f with
  |zero=>intro n a h g;exact⟨h,g⟩
  |succ f j =>
   intro n a h g;unfold cloN;split
   .exact j _ _ (Jb h (Jd h h zOm zOm) (by grind [zw])) g
   grind
 exact this 70 0 a i g
theorem qhF{op}(g:okKd ns a)(i:a.ar=2):okKd ns (binK ns op a):=by
 unfold binK;split
 .grind [Je]
 .split
  .exact Jb (Je g i).1 (WR ns 2 zOm zOm) (by rw[(Je g i).2];rfl)
  .exact qhE g i
def ScOk(ns:Nat)(s:Scp):Prop:=∀ v,v∈s->okKd ns v.2/\v.2.ar=1
theorem gk{nm}:∀{s:Scp}{v}{r:Scp},yL nm s=v :: r->v∈s
 | [],v,r,h=>by simp[yL]at h
 |w :: s,v,r,h=>by
  unfold yL at h;split at h
  .cases h;exact qX
  .exact qP _ (gk h)
theorem qhG{ts}(h:okTS ts){nm k}(g:k∈means ts nm):okKd ts.sS.length k:=by
 unfold means at g;rcases qL.1 g with g|g
 .unfold zG at g
  obtain⟨f,hf,e⟩:=List.mem_filterMap.1 g;split at e
  .cases e
   have:=h.fl f hf
   grind [WQ]
  grind
 .have:∀(j:List (tV×Bool))(i:Nat),i+j.length<=ts.sS.length->∀ k,k∈zV i j nm->okKd ts.sS.length k:=by
   intro j;induction j with
   |nil=>grind [zV]
   |cons s j l =>
    grind [yh,kOf,WQ,zV,j9]
  grind
theorem yn(c s inn n):exam c s inn n =
  if (inn&&zE c n.op n.name)=true then .error (46,n.pos)
  else if n.op=1 then yk c s n.name n.pos
  else if n.op=47 then
   if (c.ts.sT.any fun p=>decide (p.name=n.name))=true then
    match zd c n.name with
    |none => .error (45,n.pos)
    |some p=>match c.ts.sT[p]? with
     |none => .error (45,n.pos)
     |some g=>if g.params.length=n.sD.length then zz c s n.pos g.params n.sD else .error (45,n.pos)
   else .error (40,n.pos)
  else if n.op=15\/n.op=45\/n.op=46 then zH c s (inn||decide (n.op=15)) n.name n.pos n.sD
  else match qK c s (inn||decide (n.op=12)||decide (n.op=13)) n.sD with
   | .error e => .error e
   | .ok l=>zn c.ts.sS.length n.op n.n n.pos l:=by
 obtain⟨op,nm,k,ks,pos⟩:=n;simp only[exam,Nd.op,Nd.name,Nd.n,Nd.sD,Nd.pos];rfl
theorem Zj{c s inn}:∀{ks l},qK c s inn ks = .ok l->l.length=ks.length/\∀(i:Nat) k a,ks[i]?=some k->l[i]?=some a->exam c s inn k = .ok a
 | [],l,h=>by grind [qK,jp]
 |k :: ks,l,h=>by
  simp only[qK]at h;cases g:exam c s inn k with
  |error e=>rw[g]at h;exact absurd h zSp
  |ok a =>
   rw[g]at h;simp only at h;cases j:qK c s inn ks with
   |error e=>rw[j]at h;exact absurd h zSp
   |ok r =>
    rw[j]at h;simp only[jp]at h;subst h;obtain⟨t,C⟩:=Zj j;refine⟨zP1 t,fun i I J o p=>?_⟩;cases i with
    |zero=>simp at o p;subst o;subst p;exact g
    |succ i=>exact C i I J (zUs o) (zUs p)
theorem qhH{op}(h:1<=op/\op<=15):kd op=101:=by unfold kd;rw[if_pos h]
theorem Jf{op}(h:kd op=101):1<=op/\op<=15:=by
 grind [kd,absurd]
theorem WS(I:ns<=4){n}(T:WfN n){l}(p:l.length=n.sD.length)(h:∀(i:Nat) k a,n.sD[i]?=some k->l[i]?=some a->kd k.op=101->∃ q,a=some q/\okKd ns q) :
  ApOk n.op l/\(n.op=5->∃ a,l=[some a]/\okKd ns a)/\(n.op=11\/n.op=12\/n.op=13->∃ a,l=[some a]/\okKd ns a)/\(n.op=6\/n.op=14\/n.op=7\/n.op=8\/n.op=32\/n.op=33\/n.op=9\/n.op=10->∃ a b,l=[some a,some b]/\okKd ns a/\okKd ns b):=by
 have g:=T.shape;have t:n.op=5\/n.op=11\/n.op=12\/n.op=13->∃ a,l=[some a]/\okKd ns a:=by
  intro j;have e:shp n.op n.sD.length=some [101]:=by
   unfold shp;rw[zIn,if_pos zOm]
  rw[e]at g;simp only[qm]at g
  match o:n.sD,g with
  | [k],g =>
   simp at g;rw[o]at p
   match l,p with
   | [a],_ =>
    obtain⟨q,rfl,P⟩:=h 0 k a (by rw[o];rfl) rfl g.symm
    grind
  | [],g=>simp at g
  |_ :: _ :: _,g=>simp at g
 have R:n.op=6\/n.op=14\/n.op=7\/n.op=8\/n.op=32\/n.op=33\/n.op=9\/n.op=10->∃ a b,l=[some a,some b]/\okKd ns a/\okKd ns b:=by
  intro j;have e:shp n.op n.sD.length=some [101,101]:=by
   unfold shp;rw[zIn,zIn,if_pos zOm]
  rw[e]at g;simp only[qm]at g
  match o:n.sD,g with
  | [k,U],g =>
   simp at g;rw[o]at p
   match l,p with
   | [a,b],_ =>
    obtain⟨q,rfl,P⟩:=h 0 k a (by rw[o];rfl) rfl g.1.symm;obtain⟨q',rfl,J⟩:=h 1 U b (by rw[o];rfl) rfl g.2.symm;exact⟨q,q',rfl,P,J⟩
  | [],g=>simp at g
  | [_],g=>simp at g
  |_ :: _ :: _ :: _,g=>simp at g
 refine⟨⟨fun j=>?_,fun j=>?_,fun j=>?_⟩,fun j=>t (.inl j),fun j=>t (.inr j),R⟩
 .obtain ⟨a,rfl,_⟩:=t (.inl j);exact⟨_,rfl⟩
 .obtain ⟨a,rfl,C⟩:=t (.inr j);exact⟨a,rfl,C.okK,C.ok2 I⟩
 .obtain ⟨a,b,rfl,C,hb⟩:=R j;exact⟨a,b,rfl,C.okK,hb.okK⟩
theorem jc{c}(I:okCk c):∀ m n s inn R,szN n<=m->WfN n->ScOk c.ts.sS.length s->exam c s inn n = .ok R->kd n.op=101->∃ k,R=some k/\okKd c.ts.sS.length k
 | 0,n,_,_,_,hm,_,_,_,_=>by obtain⟨op,nm,i,ks,p⟩:=n;simp[szN]at hm
 |m+1,n,s,inn,R,hm,o,T,h,U=>by
  have ho:=Jf U;have a0:=I.ts.ns;rw[yn]at h;split at h
  .grind
  split at h
  .unfold yk at h
   split at h
   .rename_i v r hf
    simp only[jp]at h;exact⟨v.2,h.symm,(T v (gk hf)).1⟩
   .split at h
    .grind
    .rename_i k t
     simp only[jp]at h;exact⟨k,h.symm,qhG I.ts (by rw[t];simp)⟩
    grind
  split at h
  .omega
  split at h
  .rename_i hb
   have g:=o.shape;have e:shp n.op n.sD.length=some [101,102]:=by
    unfold shp;rw[zIn,zIn,zIn,if_pos zOm]
   rw[e]at g;simp only[qm]at g
   match t:n.sD,g with
   | [a,f],g =>
    simp at g;rw[t]at h;simp only[zH]at h;cases hq:exam c s (inn||decide (n.op=15)) a with
    |error e=>grind
    |ok q =>
     obtain⟨k,rfl,a6⟩:=jc I m a s _ q (by have:=q9 (n:=n) (k:=a) (by rw[t];simp);omega) (o.kid (by rw[t];simp)) T hq g.1.symm
     grind
   | [],g=>simp at g
   | [_],g=>simp at g
   |_ :: _ :: _ :: _,g=>simp at g
  .rename_i n1 a7 nb
   cases hl:qK c s (inn||decide (n.op=12)||decide (n.op=13)) n.sD with
   |error e=>grind
   |ok l =>
    rw[hl]at h;simp only at h;obtain⟨C,a3⟩:=Zj hl;obtain⟨_,a5,a1,a2⟩:=WS (ns:=c.ts.sS.length) a0 o C (fun i k a hi J a4=>jc I m k s _ a (zW1 (q9 (n:=n) (qN hi))) (o.kid (qN hi)) T (a3 i k a hi J) a4);unfold zn at h;split at h
    .rename_i h2
     simp only[jp]at h;exact⟨_,h.symm,qhA (o.num h2)⟩
    split at h
    .grind [jp,WR]
    split at h
    .grind [jp,WR]
    have j:n.op=5\/(n.op=11\/n.op=12\/n.op=13)\/(n.op=6\/n.op=14\/n.op=7\/n.op=8\/n.op=32\/n.op=33\/n.op=9\/n.op=10):=zOm;rcases j with h5|h1|h2
    .obtain ⟨a,rfl,J⟩:=a5 h5
     simp only[if_pos h5,jp]at h
     grind
    .obtain ⟨a,rfl,J⟩:=a1 h1
     have n5:n.op≠5:=zOm;simp only[if_neg n5,if_pos h1]at h
     grind [jp,qhF,absurd]
    .obtain ⟨a,b,rfl,J,hb⟩:=a2 h2
     simp only at h;split at h
     .grind [jp,qhC,absurd]
     grind [jp,Jd,absurd,qhD]
end
end P2
namespace EA
end EA
namespace GA
theorem qhI{a:List Int}(h:a.Pairwise (·<·)):a.Nodup:=h.imp fun h=>by omega
theorem gq:∀{a b:List Int},a.Pairwise (·<·)->b.Pairwise (·<·)->(∀ x,x∈a↔x∈b)->a=b
 | [],[],_,_,_=>rfl
 | [],y :: b,_,_,h=>absurd ((h y).2 zSp) zSp
 |x :: a,[],_,_,h=>absurd ((h x).1 zSp) zSp
 |x :: a,y :: b,j,l,h=>by
  rw[uW]at j l;have e:x=y:=by
   have o:=(h x).1 zSp;have p:=(h y).2 zSp;rcases qs.1 o with e|o
   .exact e
   .rcases qs.1 p with e|p
    .exact e.symm
    .have:=l.1 x o;have:=j.1 y p;omega
  subst e;congr 1;refine gq j.2 l.2 fun z=>?_
  have C:=h z;constructor
  .intro g
   rcases qs.1 (C.1 (qP _ g)) with e|t
   .subst e;have:=j.1 z g;omega
   .exact t
  .intro i
   rcases qs.1 (C.2 (qP _ i)) with e|t
   .subst e;have:=l.1 z i;omega
   .exact t
section
variable {α:Type} {f:α->α->Int} {P:α->Prop}
end
end GA
namespace GB
structure Ed where
 kind:Int
 state:Int
 field:Int
 tup:Int
end GB
namespace GC
end GC
namespace EL
open E1
theorem gw(n)(t:0<=n)(C:n<=20)(k:Nat)(R:k<=3):qd qb 123 [aI n,aI k] (aI (n ^ k)):=by
 refine qSU call123 func123 rfl ?_;refine qi.up k (fun i U=>U.tm 0=aI n/\U.tm 5=aI (n ^ i)/\U.tm 6=aI k/\U.tm 7=aI i/\U.mu=[]) ?_ ?_
 .simp [go_sem]
 rintro i U T ⟨I,l,o,e7,p⟩;by_cases g:i<k
 .have J:=ZS t C (i+1) zOm
  have P:=zWk i;rw[Int.pow_succ]at J;have w2:qj.wrap (n ^ i*n)=n ^ i*n:=zWr;simp[go_sem,I,l,o,e7,p,g,P,w2];rw[Int.pow_succ]
 .have j:i=k:=by omega
  subst j;simp[go_sem,l,o,e7,p];exact .zsc _
theorem idenU(n:Nat)(hn:n<=20):qd qb 83 [aI n] (eRel (idR n)):=by
 refine qSU call83 func83 rfl ?_;refine tW (fun m U=>∃ k i g,m=n-k/\k<=n/\U.tm 0=aI n/\U.tm 2 = .ptr 0 0/\U.tm 3 = .ptr 1 0/\U.tm 6=aI n/\U.tm 7=aI (k:Nat)/\U.mu=[.arr [aI 0,.lst true []],.arr [aI 2,i]]++g/\OwnF 2 ([.dead,.dead]++g) 1 i (((qp k).map fun x:Nat=>(x:Int)*n+x).map rI)) n ?_ ?_
 .exact ⟨0,.lst true [],[],zOm,zOm,zSi,zSi,zSi,zSi,zSi,zSi,by simpa using OwnF.nil zSp⟩
 rintro m U ⟨k,i,g,rfl,hk,e0,e2,I,J,e7,hm,C⟩;have C:=C.low (low:=[.dead,.dead]) (low':=[.arr [aI 0,.lst true []],.arr [aI 2,i]]) rfl;by_cases P:k<n
 .have hp:0<=(k:Int)*n/\(k:Int)*n<=400:=⟨Int.mul_nonneg zOm zOm,by have:(k:Int)*n<=20*20:=yX zOm zOm zOm zOm;omega⟩
  have w1:qj.wrap ((k:Int)*n)=(k:Int)*n:=zWr;have w2:qj.wrap ((k:Int)*n+k)=(k:Int)*n+k:=zWr;have w3:=zWk k;simp[go_sem,e0,I,J,e7,P,hm,w1,w2];refine fH (low:=[.arr [aI 0,.lst true []],.arr [aI 2,i]]) (e:=3) (bt:=8) (z:=0) (xs:=(qp k).map fun x:Nat=>(x:Int)*n+x) (ys:=[(k:Int)*n+k]) zSi zSi zSi zOm C (by simp[qE]) zSo ?_;intro R o t;simp[go_sem,I,e7,w3,t.cells,t.one];refine Keep.loop (n-(k+1)) zOm ⟨k+1,R,o,rfl,zOm,zS1 e0,zS1 e2,zS1 I,zS1 J,zSi,zSi,?_⟩;rw[List.range_succ,z6];simpa using t.low (low':=[.dead,.dead]) rfl
 .have T:k=n:=by omega
  subst T;simp[go_sem,e2,I,J,e7,hm,C.one];exact Rd.rel (r:=idR k) (C.low (low:=[.arr [aI 0,.lst true []],.arr [aI 2,i]]) (low':=[.arr [aI 2,i],.arr [aI 2,i]]) rfl).rdI
end EL
namespace EJ
open E1
section
variable {g:Type}
def jx(p:g->g->Bool):g->List g->List g
 |_,[]=>[]
 |x,y :: l=>if p y x=true then jx p y l else y :: jx p y l
def cmpc(p:g->g->Bool):List g->List g
 | []=>[]
 |x :: l=>x :: jx p x l
theorem gA(p):∀(l)(x y:g),jx p x (l++[y])=jx p x l++(if p y ((x :: l).getLast zSp)=true then [] else [y])
 | [],x,y=>by
  by_cases i:p y x=true<;>simp[jx,i]
 |z :: l,x,y=>by
  have j:=gA p l z y;have e:(x :: z :: l).getLast zSp=(z :: l).getLast zSp:=List.getLast_cons zSp;simp only[yW,jx,e,j];split
  .rfl
  .rfl
theorem gB{j}(p)(l:List j)(k)(I:1<=k)(C):cmpc p (l.take (k+1))=cmpc p (l.take k)++(if p l[k] (l[k-1]' zOm)=true then [] else [l[k]]):=by
 have o:l.take (k+1)=l.take k++[l[k]]:=by rw[List.take_add_one,qC C];rfl
 have g:∀(q:l.take k≠[]),(l.take k).getLast q=l[k-1]' zOm:=by
  intro q;rw[List.getLast_eq_getElem,List.getElem_take];congr 1;simp;omega
 rw[o];cases t:l.take k with
 |nil =>
  have i:=congrArg List.length t;rw[uo,List.length_nil]at i;omega
 |cons x r =>
  have:=g (by rw[t];simp);simp only[t]at this;simp only[yW,cmpc,gA,this]
abbrev eqI:Int->Int->Bool:=fun y x=>decide (y=x)
theorem WT:∀ l x,(x :: l).Pairwise (·<=·)->zr (x :: jx eqI x l)/\∀ t,t∈x :: jx eqI x l↔t∈x :: l
 | [],x,_=>⟨List.pairwise_singleton _ _,fun t=>Iff.rfl⟩
 |y :: l,x,h=>by
  obtain⟨C,g⟩:=uW.1 h;have I:=C y (qX ..);by_cases e:y=x
  .have j:jx eqI x (y :: l)=jx eqI y l:=by simp[jx,e]
   rw[j,e];have J:(x :: l).Pairwise (·<=·):=by rw[e]at g;exact g
   obtain⟨o,i⟩:=WT l x J;refine⟨o,fun t=>?_⟩;rw[i];simp
  .have j:jx eqI x (y :: l)=y :: jx eqI y l:=by simp[jx,e]
   rw[j];obtain⟨o,i⟩:=WT l y g;refine⟨uW.2 ⟨fun t p=>?_,o⟩,fun t=>?_⟩
   .rcases qs.1 ((i t).1 p) with rfl|p
    .omega
    .have:=(uW.1 g).1 t p;omega
   .rw [qs,i,qs (l:=y :: l)]
theorem qhJ(l)(h:l.Pairwise (·<=·)):zr (cmpc eqI l)/\∀ t,t∈cmpc eqI l↔t∈l:=by
 cases l with
 |nil=>exact⟨List.Pairwise.nil,fun t=>Iff.rfl⟩
 |cons x l=>exact WT l x h
theorem qhK(l):(srtI l).Pairwise (·<=·):=by
 have:=List.pairwise_mergeSort (le:=fun x y:Int=>decide (x<=y)) (fun a b c g i=>by simp at *;omega) (fun a b=>zSo) l;exact this.imp fun h=>zUs h
theorem qhL(l t):t∈srtI l↔t∈l:=(List.mergeSort_perm l _).mem_iff
theorem qhM(l):cmpc eqI (srtI l)=ofL l:=by
 obtain⟨g,i⟩:=qhJ _ (qhK l);obtain⟨j,o⟩:=YT l;exact VJ g j fun t=>by rw[i,o,qhL]
end
end EJ
namespace EM
theorem sortE{mu b zs}(i:mu[b]?=some (.arr (zs.map aI)))(p:zs.length<=1000000000) :
  qr qb 226 [.sl b 1 0 zs.length] mu fun e m=>e = .ret (.tup [])/\m=mu.set b (.arr ((srtI zs).map aI)):=by
 have:=qgL (P:=qb) call226 (fun g off cap zs w j l o=>Tryz.slices_Sort_int g off cap zs w j l o) (mu:=mu) (b:=b) (off:=0) (cells:=zs.map aI) (zs:=zs) i
  (fun k n h=>by rw[Nat.zero_add,zB,h];rfl) zOm zSp
 have e:putCells (zs.map aI) 0 ((srtI zs).map fun n => .sc (.int .i64 n))=(srtI zs).map aI:=by
  rw[y5 _ _ _ (by simp[YQ])];simp[YQ]
 rw[e]at this;exact this
end EM
end Go.Proofs.YtlnbdknjkmmgbaaGreatDoor
namespace Go.Ev
open Go Go.RowKit
@[go_sem ↓] theorem qsA(P pl det i ev mu K j l g):qA P pl det i (.call ⟨.builtin .clear,l.toArray,g⟩) ev mu K j=vM P mu .clear g (evs ev l) K:=eqS rfl
theorem qhN{P mu K t e sz bt b off len cells zv}(o:qF P t=some (e,sz,bt))(p:qy P e=some zv)(g:zv.cells.length=sz)(j:zv.cells.all AV.one=true)(l:sz≠0)
  (C:mu[b]?=some (.arr cells)) (I:off+len*sz<=cells.length) (J:0<len) (k:K (.tup []) (mu.set b (.arr (putCells cells off ((qp (len*sz)).map fun i=>zv.cells.getD (i % sz) .any))))):vM P mu .clear #[t] [.sl b sz off len] K:=
 ⟨_,_,.clear o p g j l C I J,k⟩
end Go.Ev
namespace Go.Proofs.YtlnbdknjkmmgbaaGreatDoor
open Go Go.Ev Go.Proofs Tryz
namespace EN
open EJ
theorem WU{mu:Mu}{b c}(h:mu[b]?=some c):mu.set b c=mu:=by
 obtain⟨i,g⟩:=qg.1 h;rw[<-g];simp
theorem VM(l:List Int)(i h):List.take 1 (List.drop i (l.map aI))=[aI l[i]]:=by
 grind [qY]
theorem qhO(mu b g)(hl:g.length<=1000000)(hb:mu[b]?=some (.arr (g.map aI))) :
  qr qb 227 [.sl b 1 0 g.length] mu fun e m=>∃ cells,e = .ret (.sl b 1 0 (cmpc eqI g).length)/\m=mu.set b (.arr cells)/\cells.length=g.length/\cells.take (cmpc eqI g).length=(cmpc eqI g).map aI:=by
 refine qSW call227 func227 rfl {} ?_;simp[go_sem];by_cases h2:g.length<2
 .have hc:cmpc eqI g=g:=by
   match g,h2 with
   | [],_=>rfl
   | [x],_=>rfl
   |_ :: _ :: _,h=>grind
  simp[go_sem,show (g.length:Int)<2 by omega];rw[hc];exact⟨rfl,g.map aI,(WU hb).symm,zSp,by rw[yr zSp]⟩
 simp[go_sem,show ¬(g.length:Int)<2 by omega];refine tW (fun m U=>∃ k,m=g.length-k/\1<=k/\k<=g.length/\U.tm 0 = .sl b 1 0 g.length/\U.tm 3=aI (k:Nat)/\U.mu=mu/\cmpc eqI (g.take k)=g.take k) (g.length-1) ?_ ?_
 .refine ⟨1,zOm,zOm,zOm,zSi,zSi,zSi,?_⟩
  match g,h2 with
  | [],h=>simp at h
  |x :: l,_=>simp[cmpc,jx]
 rintro m U ⟨k,rfl,a6,hk,e0,e3,hm,hi⟩;by_cases p:k<g.length
 .have hw:qj.wrap ((k:Int)-1)=((k-1:Nat):Int):=by grind [zS]
  have C:k-1<g.length:=zOm;have r1:=VM g k p;have r2:=VM g (k-1) C;have g1:k+1<=g.length:=p;have g2:k-1+1<=g.length:=C;have o:=gB eqI g k a6 p;rw[hi]at o;simp[go_sem,e0,e3,hm,p];refine tN zKr ?_;by_cases hp:g[k]=g[k-1]
  .simp [go_sem,e0,e3,p,hb,hw,C,hp,r1,r2,g1,g2]
   rw[if_pos (zUs hp),zZ]at o;simp[go_sem,hk];refine tW (fun m2 st2=>∃(j i:Nat) (cur:List Int),m2=g.length-(k+j)/\1<=j/\k+j<=g.length/\st2.tm 0 = .sl b 1 0 g.length/\st2.tm 3=aI (i:Nat)/\st2.tm 4 = .sl b 1 k (g.length-k)/\st2.tm 5=aI (j:Nat)/\cur.length=g.length/\st2.mu=mu.set b (.arr (cur.map aI))/\i=(cmpc eqI (g.take (k+j))).length/\i<=k+j-1/\cur.take i=cmpc eqI (g.take (k+j))/\cur.drop (k+j-1)=g.drop (k+j-1)) (g.length-(k+1)) ?_ ?_
   .refine ⟨1,k,g,zOm,zOm,zOm,zS1 e0,zS1 e3,zSi,zSi,rfl,?_,?_,zOm,?_,rfl⟩
    .simp_all [go_sem,WU]
    .grind
    grind
   rintro m2 st2 ⟨j,i,cur,rfl,ag,hj,f0,f3,f4,f5,a1,a2,I,ah,J,T⟩;have a0:b<mu.length:=(qg.1 hb).1;by_cases P:j<g.length-k
   .have a7:k+j<g.length:=by omega
    have c1:cur[k+j]' zOm=g[k+j]:=by
     have:=congrArg (fun l=>l[1]?) T
     grind
    have c2:cur[k+j-1]' zOm=g[k+j-1]:=by
     have:=congrArg (fun l=>l[0]?) T;simp only[um,Nat.add_zero]at this
     grind
    have r1:=VM cur (k+j) zOm;have r2:List.take 1 (List.drop (k+(j-1)) (cur.map aI))=[aI (g[k+j-1]' zOm)]:=by rw[show k+(j-1)=k+j-1 by omega,VM cur (k+j-1) zOm,c2]
    rw[c1]at r1;have a3:qj.wrap ((j:Int)-1)=((j-1:Nat):Int):=by rw[zWr];omega
    have a4:qj.wrap ((j:Int)+1)=((j+1:Nat):Int):=by rw[zWr];omega
    have g3:j-1<g.length-k:=zOm;have g4:k+j+1<=cur.length:=zOm;have g5:k+(j-1)+1<=cur.length:=zOm;have t:=gB eqI g (k+j) zOm a7;have a5:cur.drop (k+j)=g.drop (k+j):=by
     have:=congrArg (List.drop 1) T;rw[List.drop_drop,List.drop_drop,show k+j-1+1=k+j by omega]at this;exact this
    simp[go_sem,f4,f5,a2,P];refine tN zKr ?_;by_cases R:g[k+j]=g[k+j-1]
    .rw [if_pos (zUs R),zZ]at t
     simp[go_sem,f4,f5,P,a0,r1,r2,a3,a4,g3,g4,g5,R];refine Keep.loop (g.length-(k+(j+1))) zOm ⟨j+1,i,cur,rfl,zOm,zOm,zS1 f0,zS1 f3,zS1 f4,zSi,a1,zSi,?_,zOm,?_,?_⟩
     .rw [show k+(j+1)=k+j+1 by omega,t];exact I
     .rw [show k+(j+1)=k+j+1 by omega,t];exact J
     .rw [show k+(j+1)-1=k+j by omega];exact a5
    .rw [if_neg (zUs R)]at t
     have a8:i<g.length:=zOm;have a9:i+1<=cur.length:=zOm;have af:i<cur.length:=zOm;have aa:qj.wrap ((i:Int)+1)=((i+1:Nat):Int):=by rw[zWr];omega
     simp[go_sem,f0,f3,f4,f5,P,a0,r1,r2,a3,a4,aa,g3,g4,g5,R,a8,a9];refine Keep.loop (g.length-(k+(j+1))) zOm ⟨j+1,i+1,cur.set i g[k+j],rfl,zOm,zOm,zS1 f0,zSi,zS1 f4,zSi,zP1 a1,?_,?_,zOm,?_,?_⟩
     .simp [go_sem,List.map_set]
     .rw [show k+(j+1)=k+j+1 by omega,t,qZ];simp;omega
     .rw [show k+(j+1)=k+j+1 by omega,t,<-J,List.take_add_one,qv zOm,List.take_set_of_le zOm];rfl
     .rw [show k+(j+1)-1=k+j by omega,List.drop_set_of_lt zOm];exact a5
   .have ab:k+j=g.length:=by omega
    rw[ab,zi]at I J;simp[go_sem,f0,f3,f4,f5,a2,P,show i<g.length by omega,show i<=g.length by omega];refine qhN (e:=3) (bt:=8) (zv:=aI 0) (cells:=cur.map aI) zSi zSi rfl rfl zOm (zP1 a0) zSo zOm ?_;have hZ:∀ zs:List AV,zs.length=g.length-i->(putCells (cur.map aI) i zs).length=g.length/\(putCells (cur.map aI) i zs).take i=(cur.map aI).take i:=by
     intro zs hz;rw[y5 _ _ _ zSo];refine⟨zSo,?_⟩;rw[zL,List.take_append,uo,Nat.min_eq_left zSo,Nat.sub_self,List.take_zero,zZ,List.take_take,Nat.min_self]
    have hz:=hZ ((qp ((g.length-i)*1)).map fun j=>(aI 0).cells.getD (j % 1) .any) zSp;generalize putCells (cur.map aI) i _=Z at hz⊢;simp[go_sem,f0,f3,show i<=g.length by omega];refine⟨I,Z,rfl,hz.1,?_⟩;rw[<-I,hz.2,<-List.map_take,J]
  .rw [if_neg (zUs hp)]at o
   have ad:g.take (k+1)=g.take k++[g[k]]:=by rw[List.take_add_one,qC p];rfl
   simp[go_sem,e0,e3,p,hb,hw,C,hp,r1,r2,g1,g2];refine Keep.loop (g.length-(k+1)) zOm ⟨k+1,rfl,zOm,zOm,zS1 e0,?_,zSi,by rw[o,ad]⟩;simp[go_sem];exact zWr
 .have ae:k=g.length:=by omega
  subst ae;rw[zi]at hi;simp[go_sem,e0,e3,hm];rw[hi];exact⟨rfl,g.map aI,(WU hb).symm,zSp,by rw[yr zSp]⟩
end EN
namespace E4
open E1
theorem qhP(n k)(J:0<=n)(P:n<=20):qd qb 133 [aI n,aI k] (aI (powI n k)):=by
 refine qSU call133 func133 rfl ?_;refine qi.up (powN k) (fun i U=>U.tm 0=aI n/\U.tm 1=aI k/\U.tm 5=aI (n ^ i)/\U.tm 6=aI i/\U.mu=[]) ?_ ?_
 .simp [go_sem]
 rintro i U hi ⟨R,o,p,t,C⟩;by_cases g:i<powN k
 .have l:(i:Int)<k:=by unfold powN at g;omega
  have I:(i:Int)<3:=by unfold powN at g;omega
  have T:=ZS J P (i+1) zOm;rw[Int.pow_succ]at T;simp[go_sem,R,o,p,t,C,l,I];refine⟨g,?_,zWr⟩;rw[Int.pow_succ,zWr]
 .have j:i=powN k:=by omega
  by_cases l:(i:Int)<k
  .have I:¬(i:Int)<3:=by unfold powN at g;omega
   simp[go_sem,o,p,t,C,l,I];rw[powI,j];exact .zsc _
  .simp [go_sem,o,p,t,C,l]
   rw[powI,j];exact .zsc _
theorem gC(n r)(hl:r.ts.length<=9223372036854775807):qd qb 66 [aI n,eRel r] (aB (jb n r)):=by
 refine qSV call66 func66 rfl ?_;by_cases R:n<0
 case pos =>
  simp[go_sem,R,jb,show ¬ 0<=n by omega];exact .zsc _
 by_cases o:12<n
 case pos =>
  simp[go_sem,R,o,jb,show ¬n<=12 by omega];exact .zsc _
 by_cases h3:r.ar<1
 case pos =>
  simp[go_sem,R,o,h3,jb,show ¬ 1<=r.ar by omega];exact .zsc _
 by_cases h4:3<r.ar
 case pos =>
  simp[go_sem,R,o,h3,h4,jb,show ¬r.ar<=3 by omega];exact .zsc _
 simp[go_sem,R,o,h3,h4];refine qi.up r.ts.length (fun k U=>U.tm 0=aI n/\U.tm 3 = .ip [aI r.ar,lI r.ts]/\U.tm 5=aI k/\U.mu=[]/\∀(i:Nat)(h:i<r.ts.length),i<k->0<=r.ts[i]/\r.ts[i]<powI n r.ar/\(0<i->r.ts[i-1]<r.ts[i])) ?_ ?_
 .simp [go_sem]
 rintro k U hk ⟨e0,I,J,hm,he⟩;by_cases g:k<r.ts.length
 .have p:¬(0<=r.ts[k]/\r.ts[k]<powI n r.ar)->jb n r=false:=by
   intro C;have:r.ts.all (fun t=>decide (0<=t)&&decide (t<powI n r.ar))=false:=by
    rw[<-Bool.not_eq_true,qR];intro j;have:=j _ (qq g);simp at this;exact C this
   simp only[jb,this,Bool.and_false,Bool.false_and]
  have T:0<k->¬(r.ts[k-1]<r.ts[k])->jb n r=false:=by
   intro hk C;have:¬zr r.ts:=fun h=>C (VI h zOm g)
   simp only[jb,this,decide_false,Bool.and_false]
  have hw:0<k->qj.wrap ((k:Int)-1)=((k-1:Nat):Int):=fun h=>by rw[zWr];omega
  have next:0<=r.ts[k]->r.ts[k]<powI n r.ar->(0<k->r.ts[k-1]<r.ts[k])->k<r.ts.length/\qj.wrap ((k:Int)+1)=(k:Int)+1/\∀(i:Nat)(h:i<r.ts.length),i<k+1->0<=r.ts[i]/\r.ts[i]<powI n r.ar/\(0<i->r.ts[i-1]<r.ts[i]):=by
   intro n1 n2 n3;refine⟨g,zWr,fun i h P=>?_⟩;rcases JQ.1 P with o|o
   .exact he i h o
   .subst o;exact⟨n1,n2,n3⟩
  simp[go_sem,I,J,hm,g];refine tN zKr ?_;simp[go_sem,I,J,g];by_cases ha:r.ts[k]<0
  .simp [go_sem,ha]
   rw[p zOm];exact .zsc _
  simp[go_sem,e0,I,J,g,ha];refine tR (qhP n r.ar zOm zOm) (.zs (.zs .nil)) ?_;by_cases C:powI n r.ar<=r.ts[k]
  .simp [go_sem,C]
   rw[p zOm];exact .zsc _
  by_cases l:0<k
  .have hw:=hw l
   have a0:k-1<r.ts.length:=zOm;by_cases hc:r.ts[k]<=r.ts[k-1]
   .simp [go_sem,I,J,g,C,l,hw,a0,hc]
    rw[T l zOm];exact .zsc _
   .simp [go_sem,e0,I,J,g,C,l,hw,a0,hc]
    exact(next zOm zOm (fun _=>zOm)).2
  .simp [go_sem,e0,I,J,g,C,l]
   exact(next zOm zOm (fun _=>zOm)).2
 .have a1:k=r.ts.length:=by omega
  subst a1;have j:r.ts.all (fun t=>decide (0<=t)&&decide (t<powI n r.ar))=true:=by
   rw[qR];intro t ht;obtain⟨i,P,rfl⟩:=JO ht;have:=he i P P;simp;omega
  have a2:zr r.ts:=qgW fun i P=>by simpa using (he (i+1) P P).2.2 zOm
  simp[go_sem,I,J,hm];simp only[jb,j,a2,show 0<=n by omega,show n<=12 by omega,show 1<=r.ar by omega,show r.ar<=3 by omega];exact .zsc _
theorem has06(r x)(hl:r.ts.length<=1000000000)(hs:zr r.ts):qd qb 57 [eRel r,aI x] (aB (decide (x∈r.ts))):=by
 refine qSU call57 func57 rfl ?_;refine tW (fun n U=>∃ l g:Nat,n=g-l/\U.tm 1=aI x/\U.tm 2 = .ip [aI r.ar,lI r.ts]/\U.tm 5=aI l/\U.tm 6=aI g/\U.mu=[]/\l<=g/\g<=r.ts.length/\(∀(i:Nat)(h:i<r.ts.length),i<l->r.ts[i]<x)/\(∀(i:Nat)(h:i<r.ts.length),g<=i->x<=r.ts[i])) r.ts.length ?_ ?_
 .exact ⟨0,r.ts.length,zOm,zSi,zSi,zSi,zSi,zSi,zOm,zOm,fun i h h'=>zOm,fun i h h'=>zOm⟩
 rintro n U ⟨l,g,hn,J,C,P,R,T,a4,a5,I,a0⟩;by_cases a1:l<g
 .have hw:qj.wrap (qj.wrap ((l:Int)+g) / 2)=(((l+g) / 2:Nat):Int):=by
   rw[zS (n:=(l:Int)+g) zOm zOm,zWr];omega
  have a2:(qj.wrap ((l:Int)+g)).tdiv 2=qj.wrap ((l:Int)+g) / 2:=Int.tdiv_eq_ediv_of_nonneg (by rw[zWr];omega);have j:(l+g) / 2<r.ts.length:=zOm;generalize a6:(l+g) / 2=mid at *
  by_cases hb:r.ts[mid]<x
  .simp [go_sem,J,C,P,R,T,a1,a2,hw,j,hb]
   refine Keep.loop (g-(mid+1)) zOm ⟨mid+1,g,rfl,zS1 J,zS1 C,?_,zS1 R,zSi,zOm,zOm,fun i h h'=>?_,a0⟩
   .simp [go_sem]
    exact zWr
   .rcases Nat.lt_or_ge i mid with t|t
    .exact Int.lt_trans (VI hs t j) hb
    .have:i=mid:=by omega
     subst this;exact hb
  .simp [go_sem,J,C,P,R,T,a1,a2,hw,j,hb]
   refine Keep.loop (mid-l) zOm ⟨l,mid,rfl,zS1 J,zS1 C,zS1 P,zSi,zSi,zOm,zOm,I,fun i h h'=>?_⟩;rcases Nat.lt_or_ge mid i with t|t
   .have:=VI hs t h;omega
   .have:i=mid:=by omega
    subst this;omega
 .have a3:g=l:=by omega
  subst a3;by_cases o:g<r.ts.length
  .by_cases he:r.ts[g]=x
   .simp [go_sem,J,C,P,R,T,o,he]
    have:x∈r.ts:=he ▸ qq o;simp[this];exact .zsc _
   .simp [go_sem,J,C,P,R,T,o,he]
    have:¬x∈r.ts:=fun h=>by
     obtain⟨i,p,rfl⟩:=JO h;rcases Nat.lt_or_ge i g with t|t
     .have:=I i p t;omega
     .rcases Nat.lt_or_ge g i with h4|h4
      .have:=VI hs h4 p
       have:=a0 g o zOm;omega
      .have:i=g:=by omega
       subst this;exact he rfl
    simp[this];exact .zsc _
  .simp [go_sem,C,P,R,T,o]
   have:¬x∈r.ts:=fun h=>by
    obtain⟨i,p,rfl⟩:=JO h;have:=I i p zOm;omega
   simp[this];exact .zsc _
theorem qhQ(a b)(hl:a.ts.length<=1000000000)(a1:b.ts.length<=1000000000)(hs:zr b.ts):qd qb 107 [eRel a,eRel b] (eRel ⟨a.ar,a.ts.filter (fun t=>decide (¬t∈b.ts))⟩):=by
 refine qSU call107 func107 rfl ?_;refine tW (fun m U=>∃ k i g,m=a.ts.length-k/\k<=a.ts.length/\U.tm 2 = .ip [aI a.ar,lI a.ts]/\U.tm 3 = .ip [aI b.ar,lI b.ts]/\U.tm 4 = .ptr 0 0/\U.tm 5 = .ptr 1 0/\U.tm 6=aI (k:Nat) /\
  U.mu=[.arr [aI 0,.lst true []],.arr [aI a.ar,i]]++g/\OwnF 2 ([.dead,.dead]++g) 1 i (((a.ts.take k).filter (fun t=>decide (¬t∈b.ts))).map rI)) a.ts.length ?_ ?_
 .exact ⟨0,.lst true [],[],zOm,zOm,zSi,zSi,zSi,zSi,zSi,zSi,by simpa using OwnF.nil zSp⟩
 rintro m U ⟨k,i,g,rfl,hk,P,e3,e4,T,R,hm,C⟩;have C:=C.low (low:=[.dead,.dead]) (low':=[.arr [aI 0,.lst true []],.arr [aI a.ar,i]]) rfl;by_cases o:k<a.ts.length
 .simp [go_sem,P,R,o]
  refine tN zKr ?_;simp[go_sem,P,e3,R,o];refine tR (has06 b a.ts[k] a1 hs) (.zk (qt b) (.zs .nil)) ?_;have a0:a.ts.take (k+1)=a.ts.take k++[a.ts[k]]:=by rw[List.take_add_one,qC o];rfl
  by_cases hb:a.ts[k]∈b.ts
  .simp [go_sem,R,hb]
   refine Keep.loop (a.ts.length-(k+1)) zOm ⟨k+1,i,g,rfl,zOm,zS1 P,zS1 e3,zS1 e4,zS1 T,?_,zS1 hm,?_⟩
   .simp [go_sem];exact zWr
   .rw [a0,List.filter_append];simpa[go_sem,hb] using C.low (low':=[.dead,.dead]) rfl
  .simp [go_sem,hb]
   refine tN zKr ?_;simp[go_sem,P,T,R,o,hm];refine fH (low:=[.arr [aI 0,.lst true []],.arr [aI a.ar,i]]) (e:=3) (bt:=8) (z:=0) (xs:=(a.ts.take k).filter (fun t=>decide (¬t∈b.ts))) (ys:=[a.ts[k]]) zSi zSi zSi zOm C (by simp[qE]) ?_ ?_
   .have:=List.length_filter_le (fun t=>decide (¬t∈b.ts)) (a.ts.take k)
    have:=List.length_take_le k a.ts;have h3:[a.ts[k]].length=1:=rfl;omega
   intro a2 I J;simp[go_sem,T,R,J.cells,J.one];refine Keep.loop (a.ts.length-(k+1)) zOm ⟨k+1,a2,I,rfl,zOm,zS1 P,zS1 e3,zS1 e4,zS1 T,?_,zSi,?_⟩
   .simp [go_sem];exact zWr
   .rw [a0,List.filter_append]
    simpa[go_sem,hb] using J.low (low':=[.dead,.dead]) rfl
 .have a3:k=a.ts.length:=by omega
  subst a3;simp[go_sem,P,e4,T,R,hm,C.one];rw[zi]at C;simp at C;exact Rd.rel (r:=⟨a.ar,a.ts.filter (fun t=>!decide (t∈b.ts))⟩) (C.low (low:=[.arr [aI 0,.lst true []],.arr [aI a.ar,i]]) (low':=[.arr [aI a.ar,i],.arr [aI a.ar,i]]) rfl).rdI
theorem in06(a b)(i:a.ts.length<=1000000000)(g:b.ts.length<=1000000000)(j:zr b.ts):qd qb 59 [eRel a,eRel b] (aB (inOk a b)):=by
 refine qSU call59 func59 rfl ?_;refine fB (qhQ a b i g j) (.zk (qt a) (.zk (qt b) .nil)) ?_;have e:inOk a b=decide (∀ t,t∈a.ts->t∈b.ts):=by
  rw[Bool.eq_iff_iff];simp[inOk]
 rw[e];exact .zsc _
theorem qhR(a b)(ha:a.length<=9223372036854775807):qd qb 277 [lI a,lI b] (aB (decide (a=b))):=by
 refine qSV call277 func277 rfl ?_;by_cases p:a.length=b.length
 case neg =>
  simp[go_sem,p];rw[decide_eq_false (by rintro rfl;exact p rfl)];exact .zsc _
 simp[go_sem,p];refine qi.up a.length (fun k U=>U.tm 0=lI a/\U.tm 1=lI b/\U.tm 12=aI a.length/\U.tm 13=aI k/\U.mu=[]/\∀(i:Nat)(h:i<a.length)(t:i<b.length),i<k->a[i]=b[i]) ?_ ?_
 .simp [go_sem,p]
 rintro k U hk ⟨P,R,j,l,T,he⟩;by_cases o:k<a.length
 .have g:k<b.length:=by omega
  simp[go_sem,j,l,T,o]
  try refine tN zKr ?_
  by_cases C:a[k]=b[k]
  .simp [go_sem,P,R,j,l,o,g,C]
   refine⟨zWr,fun i h t hi=>?_⟩;rcases JQ.1 hi with I|I
   .exact he i h t I
   .subst I;exact C
  .simp [go_sem,P,R,o,g,C]
   rw[decide_eq_false (by rintro rfl;simp at C)];exact .zsc _
 .have J:k=a.length:=by omega
  subst J;simp[go_sem,j,l,T];rw[decide_eq_true (List.ext_getElem p fun i h t=>he i h t h)];exact .zsc _
theorem gD(a b)(j:a.ts.length<=9223372036854775807):qd qb 262 [eRel a,eRel b] (aB (decide (a=b))):=by
 have g:(a=b)=(a.ar=b.ar/\a.ts=b.ts):=by cases a;cases b;simp
 refine qSV call262 func262 rfl ?_;by_cases i:a.ar=b.ar
 case neg =>
  simp[go_sem,i,g];exact .zsc _
 simp[go_sem,i];refine tR (qhR a.ts b.ts j) (.zk (zy _) (.zk (zy _) .nil)) ?_;simp[go_sem,i,g];exact .zsc _
theorem WK.ints{full}(l):WK (.lst full (l.map rI)) (lI l):=WK.lst fun r i c g=>by
 obtain⟨n,_,rfl⟩:=qn.1 i;simp at g;subst g;exact HF.sc _
theorem gE(a b)(hl:a.ts.length<=4611686018427387904):qd qb 11 [eRel a,eRel b] (aB (decide (a=b))):=by
 have o:(a=b)=(a.ar=b.ar/\a.ts=b.ts):=by cases a;cases b;simp
 refine qSV call11 func11 rfl ?_;by_cases p:a.ar=b.ar
 case neg =>
  simp[go_sem,p,o];exact .zsc _
 by_cases j:a.ts.length=b.ts.length
 case neg =>
  simp[go_sem,p,j];rw[decide_eq_false (by rintro rfl;exact j rfl)];exact .zsc _
 simp[go_sem,p,j];refine qi.up a.ts.length (fun k U=>U.tm 2 = .ip [aI a.ar,lI a.ts]/\U.tm 3 = .ip [aI b.ar,lI b.ts]/\U.tm 5=aI k/\U.mu=[]/\∀(i:Nat)(h:i<a.ts.length)(I:i<b.ts.length),i<k->a.ts[i]=b.ts[i]) ?_ ?_
 .simp [go_sem,p]
 rintro k U hk ⟨t,T,C,P,he⟩;by_cases g:k<a.ts.length
 .have l:k<b.ts.length:=by omega
  by_cases J:a.ts[k]=b.ts[k]
  .simp [go_sem,t,C,P,g]
   refine tN zKr ?_;simp[go_sem,t,T,C,g,l,J];refine⟨zWr,fun i h I hi=>?_⟩;rcases JQ.1 hi with j|j
   .exact he i h I j
   .subst j;exact J
  .simp [go_sem,t,C,P,g]
   refine tN zKr ?_;simp[go_sem,t,T,C,g,l,J];rw[decide_eq_false (by rintro rfl;exact J rfl)];exact .zsc _
 .have R:k=a.ts.length:=by omega
  subst R;simp[go_sem,t,C,P];rw[decide_eq_true (o ▸ ⟨p,List.ext_getElem j fun i h I=>he i h I h⟩)];exact .zsc _
end E4
namespace EO
open YS
section
variable {s:AV}{K:AV->Mu->Prop}{l:List Int}{mu:Mu}{P:qf}
def FnOk(P:qf)(o:AV){J:Type}(enc:J->AV)(ok:J->Prop)(g:J->AV):Prop:=
 HF o/\∃ l first j,o = .fn (.func l) first j/\∀ x,ok x->∃ i,WKs (first++[enc x]++j) i/\qd P l i (g x)
theorem FnOk.call{o J enc ok g}(h:FnOk P o enc ok g){x:J}(p:ok x){det mu K t}(k:K (g x) mu):qc P det mu o [enc x] K t:=by
 obtain⟨_,l,first,j,rfl,h⟩:=h;obtain⟨i,C,I⟩:=h x p;exact .inl ⟨g x,.inl ⟨l,first,j,i,rfl,I,.inl C⟩,k⟩
def qw:AV->Option Nat
 | .sl b _ _ _=>some b
 |_=>none
def OwnI(mu:Mu)(s:AV)(l:List Int):Prop:=(s = .lst true []/\l=[])\/∃ b,s = .sl b 1 0 l.length/\mu[b]?=some (.arr (l.map aI))
def OwnV(mu:Mu)(s:AV)(l:List Int):Prop:=(s = .lst true []/\l=[])\/∃ b cells,s = .sl b 1 0 l.length/\mu[b]?=some (.arr cells)/\l.length<=cells.length/\cells.take l.length=l.map aI
theorem OwnI.v(h:OwnI mu s l):OwnV mu s l:=by
 rcases h with h|⟨b,g,i⟩
 .exact .inl h
 .exact .inr ⟨b,_,g,i,zSp,by rw[yr zSp]⟩
theorem OwnV.one(h:OwnV mu s l):s.one=true:=by
 rcases h with ⟨rfl,_⟩|⟨b,c,rfl,_⟩<;>rfl
theorem OwnV.cells(h:OwnV mu s l):s.cells=[s]:=by
 rcases h with ⟨rfl,_⟩|⟨b,c,rfl,_⟩<;>rfl
theorem OwnV.same{mu'}(h:OwnV mu s l)(g:∀ b,qw s=some b->mu'[b]?=mu[b]?):OwnV mu' s l:=by
 rcases h with h|⟨b,c,rfl,i,j,o⟩
 .exact .inl h
 .exact .inr ⟨b,c,rfl,by rw[g b rfl];exact i,j,o⟩
theorem OwnI.same{mu'}(h:OwnI mu s l)(g:∀ b,qw s=some b->mu'[b]?=mu[b]?):OwnI mu' s l:=by
 rcases h with h|⟨b,rfl,i⟩
 .exact .inl h
 .exact .inr ⟨b,rfl,by rw[g b rfl];exact i⟩
theorem OwnV.lt(h:OwnV mu s l){b}(g:qw s=some b):b<mu.length:=by
 rcases h with ⟨rfl,_⟩|⟨j,c,rfl,i,_⟩
 .cases g
 .cases g;exact(qg.1 i).1
theorem OwnV.rd(h:OwnV mu s l):Rd mu s (lI l):=by
 rcases h with ⟨rfl,rfl⟩|⟨b,cells,rfl,p,t,o⟩
 .exact .wk _ true _ (.hf _ (HF.lst fun r C=>by simp at C))
 .refine .sl b 1 0 _ cells _ p (zUs t) zSp (fun x g=>by
   obtain⟨l,_,rfl⟩:=qn.1 g;rfl) (fun k x y g j=>?_)
  rw[Nat.zero_add]at g;rw[uE,<-o,jE]at j;split at j
  .rw [g]at j;cases j
   have:x∈cells.take l.length:=by
    refine qN (i:=k) ?_;rw[jE,if_pos (by assumption)];exact g
   rw[o]at this;obtain⟨z,_,rfl⟩:=qn.1 this;exact .zsc _
  grind
theorem aG{t g e bt:Nat}{x ys z}(I:qF P t=some (e,1,bt))(j:(qF P g).isSome=true)(J:qy P e=some (aI z))
  (R:bt<=16384) (T:OwnV mu s l) (U:qE mu x=some (ys.map rI)) (C:l.length+ys.length<=4294967296)
  (k:∀ av mu',OwnI mu' av (l++ys)->(∀ i,i<mu.length->qw s≠some i->mu'[i]?=mu[i]?)->mu.length<=mu'.length->(∀ b,qw av=some b->b=mu.length)->K av mu'):qu P mu #[t,g] s x K:=by
 refine .inl ⟨t,g,e,1,bt,ys.map rI,rfl,I,j,⟨_,J,rfl,rfl⟩,zOm,R,U,wt ys,?_⟩;rcases T with ⟨rfl,rfl⟩|⟨b,cells,rfl,hc,h1,h2⟩
 .refine .inl ⟨[],rfl,fun r hr=>by simp at hr,zUs C,fun h=>?_,fun h=>?_⟩
  .have:ys=[]:=by simpa using h
   subst this;exact k _ _ (.inl ⟨rfl,rfl⟩) (fun _ _ _=>rfl) (qh _) (fun _ h=>by cases h)
  .refine k _ _ (.inr ⟨mu.length,zSp,by simp[uE]⟩) (fun i o _=>?_) zSp (fun b h=>by cases h;rfl)
   rw[qB o]
 .refine .inr ⟨b,l.length,cells,rfl,hc,zUs h1,zUs C,?_⟩
  have e1:cells.take (l.length*1)++(ys.map rI).flatten=(l++ys).map aI:=by rw[Nat.mul_one,h2,z6,uE]
  have e2:l.length+(ys.map rI).length=(l++ys).length:=zSp;rw[e1,e2];refine k _ _ (.inr ⟨mu.length,rfl,?_⟩) (fun i o p=>?_) zSp (fun b h=>by cases h;rfl)
  .simp
  .rw [qB (zUs o),zA (fun h=>p (by rw[h];rfl))]
theorem aR{t o e bt:Nat}{x z}(p:qF P t=some (e,1,bt))(g:(qF P o).isSome=true)(C:qy P e=some (aI z))
  (I:bt<=16384) (J:OwnV mu s l) (R:l.length+1<=4294967296)
  (k:∀ av mu',OwnI mu' av (l++[x])->(∀ i,i<mu.length->qw s≠some i->mu'[i]?=mu[i]?)->mu.length<=mu'.length->(∀ b,qw av=some b->b=mu.length)->K av mu'):qu P mu #[t,o] s (.lst true [[aI x]]) K:=
 aG (ys:=[x]) p g C I J rfl R k
theorem sumG(l)(P:l.length<=1000000)(C:∀ k,0<=sumI (l.take k)/\sumI (l.take k)<=1000000):qd qb 79 [lI l] (aI (sumI l)):=by
 refine qSU call79 func79 rfl ?_;refine qi.up l.length (fun k U=>U.tm 6=lI l/\U.tm 7=aI l.length/\U.tm 3=aI (sumI (l.take k))/\U.tm 8=aI k/\U.mu=[]) ?_ ?_
 .simp [go_sem,sumI]
 rintro k U R ⟨I,e7,o,p,t⟩;by_cases g:k<l.length
 .have J:=wR l k g
  have i:=C (k+1);rw[J]at i;simp[go_sem,I,e7,o,p,t,g]
  grind [zS]
 .have j:k=l.length:=by omega
  subst j;simp[go_sem,e7,o,p,t];exact .zsc _
theorem Zk(sc)(g:GSc sc):qd qb 40 [eSc sc] (aI (sumI sc.sC)):=by
 refine qSU call40 func40 rfl ?_;refine fB (sumG _ (zM g.1 zOm) fun k=>zW1 (g.sum k)) (.zk (zy _) .nil) ?_;exact .zsc _
theorem WV(sc)(g:GSc sc)(s)(i:s<=sc.sC.length):qd qb 152 [eSc sc,aI s] (aI (sumI (sc.sC.take s))):=by
 refine qSV call152 func152 rfl ?_;have j:WKs [.lst false ((sc.sC.map rI).take s)] [lI (sc.sC.take s)] := .cons (by rw[<-List.map_take];exact .hf (zy _)) .nil;simp[go_sem,i];refine⟨⟨_,_,⟨rfl,rfl⟩,(wt sc.sC).ok⟩,?_⟩;refine fB (sumG (sc.sC.take s) (by simp;have:=g.1;omega) fun k=>by rw[List.take_take];have:=g.sum (min k s);omega) j ?_;exact .zsc _
abbrev lB(xs:List Bool):AV := .lst false (xs.map fun b=>[aB b])
end
end EO
namespace F1
open E3
abbrev errV(e:Int):AV := .ifc 43 (aI e)
def endE:XE Rl->AEnd
 | .ok r => .ret (eRel r)
 | .error e => .pan (errV e)
def endN:XE Int->AEnd
 | .ok r => .ret (aI r)
 | .error e => .pan (errV e)
def endB:XE Bool->AEnd
 | .ok r => .ret (aB r)
 | .error e => .pan (errV e)
def end2:XE (Rl×Rl)->AEnd
 | .ok r => .ret (.tup [eRel r.1,eRel r.2])
 | .error e => .pan (errV e)
@[go_sem] theorem endE_ok(r):endE (.ok r) = .ret (eRel r):=rfl
@[go_sem] theorem endE_err(e):endE (.error e) = .pan (errV e):=rfl
@[go_sem] theorem endN_ok(r):endN (.ok r) = .ret (aI r):=rfl
@[go_sem] theorem endN_err(e):endN (.error e) = .pan (errV e):=rfl
@[go_sem] theorem endB_ok(r):endB (.ok r) = .ret (aB r):=rfl
@[go_sem] theorem endB_err(e):endB (.error e) = .pan (errV e):=rfl
@[go_sem] theorem end2_ok(r):end2 (.ok r) = .ret (.tup [eRel r.1,eRel r.2]):=rfl
@[go_sem] theorem end2_err(e):end2 (.error e) = .pan (errV e):=rfl
end F1
namespace EP
open E1 EO
section
variable {J:Type}{cs:List (Int×AV)}{g:List (Int×List Int)}{mu:Mu}{b:Nat}
theorem keyI:KeyT qb 3 (fun n:Int=>aI n) (fun _=>True):=by
 refine⟨fun a b _ _=>?_,fun a _=>zSi⟩;simp[go_sem]
theorem jy{l:List J}{n}(h):l.take (n+1)=l.take n++[l[n]]:=by rw[List.take_add_one,qC h];rfl
def cntK(f:Int->Int)(ts:List Int):List (Int×Int):=ts.foldl (fun m t=>setK (f t) ((getK (f t) m).getD 0+1) m) []
theorem gF(f ts t):cntK f (ts++[t])=setK (f t) ((getK (f t) (cntK f ts)).getD 0+1) (cntK f ts):=by simp[cntK,ul]
theorem VN(f)(ts:List Int):∀ n,n<=ts.length->∀ k,0<=(getK k (cntK f (ts.take n))).getD 0/\(getK k (cntK f (ts.take n))).getD 0<=n/\(0<(getK k (cntK f (ts.take n))).getD 0↔∃ t,t∈ts.take n/\f t=k)
 | 0,_,k=>by simp[cntK,getK]
 |n+1,h,k=>by
  obtain⟨l,p,o⟩:=VN f ts n zOm k;have i:n<ts.length:=zOm;obtain⟨g1,C,_⟩:=VN f ts n zOm (f ts[n]);rw[jy i,gF,jw];by_cases j:k=f ts[n]
  .rw [if_pos j]
   simp only[Option.getD_some];exact⟨zOm,zOm,fun _=>⟨ts[n],List.mem_append_right _ (qO.2 rfl),j.symm⟩,fun _=>zOm⟩
  .rw [if_neg j]
   refine⟨l,zOm,o.trans ⟨fun⟨t,g,e⟩=>⟨t,yQ _ g,e⟩,fun⟨t,g,e⟩=>?_⟩⟩;rcases qL.1 g with g|g
   .grind
   grind
theorem qhS(f ts k):0<=(getK k (cntK f ts)).getD 0/\(0<(getK k (cntK f ts)).getD 0↔∃ t,t∈ts/\f t=k):=by
 have:=VN f ts ts.length (qh _) k
 grind
def grpK(m:Int)(ys:List Int):List (Int×List Int):=ys.foldl (fun g y=>setK (y / m) ((getK (y / m) g).getD []++[y % m]) g) []
theorem gG(m ys y):grpK m (ys++[y])=setK (y / m) ((getK (y / m) (grpK m ys)).getD []++[y % m]) (grpK m ys):=by simp[grpK,ul]
theorem VO(m)(ys:List Int):∀ n,n<=ys.length->∀ k,(getK k (grpK m (ys.take n))).getD []=((ys.take n).filter fun y=>decide (y / m=k)).map fun y=>y % m
 | 0,_,k=>by simp[grpK,getK]
 |n+1,h,k=>by
  have j:=VO m ys n zOm;have i:n<ys.length:=zOm;rw[jy i,gG,jw,List.filter_append,z6];by_cases g:k=ys[n] / m
  .rw [if_pos g,Option.getD_some,<-g,j k]
   simp[g]
  .rw [if_neg g,j k]
   have:¬ys[n] / m=k:=fun e=>g e.symm
   simp[this]
theorem gH{i}(q:Int->Int)(v:List (Int×i)->Int->i):∀(l:List Int)(g),(g.map Prod.fst).Nodup->((l.foldl (fun g y=>setK (q y) (v g y) g) g).map Prod.fst).Nodup
 | [],g,h=>h
 |y :: l,g,h=>gH q v l _ (uC h)
theorem qhT(m ys):((grpK m ys).map Prod.fst).Nodup:=gH (fun y=>y / m) (fun g y=>(getK (y / m) g).getD []++[y % m]) ys [] zSp
theorem gJ{g}(k v w):∀{es:List (Int×J)}{fs:List (Int×g)},es.map Prod.fst=fs.map Prod.fst->(setK k v es).map Prod.fst=(setK k w fs).map Prod.fst
 | [],[],_=>rfl
 |e :: es,f :: fs,h=>by
  simp only[List.map_cons,vK]at h;unfold setK;rw[<-h.1];split
  .simp [h.2]
  .simp [h.1,gJ k v w h.2]
 | [],_ :: _,h=>by simp at h
 |_ :: _,[],h=>by simp at h
theorem gK{g}(k):∀{es:List (Int×J)}{fs:List (Int×g)},es.map Prod.fst=fs.map Prod.fst->(getK k es=none↔getK k fs=none)
 | [],[],_=>by simp[getK]
 |e :: es,f :: fs,h=>by
  simp only[List.map_cons,vK]at h;unfold getK;rw[<-h.1];split
  .simp
  .exact gK k h.2
 | [],_ :: _,h=>by simp at h
 |_ :: _,[],h=>by simp at h
structure GrpM (mu:Mu) (b:Nat) (g:List (Int×List Int)) (cs:List (Int×AV)):Prop where
 at0:mu[b]?=some (.mp (encK (fun n:Int=>aI n) id cs))
 keys:cs.map Prod.fst=g.map Prod.fst
 own:∀ k v,getK k cs=some v->∃ l,getK k g=some l/\OwnI mu v l
 inj:∀ k k' v v' x,getK k cs=some v->getK k' cs=some v'->qw v=some x->qw v'=some x->k=k'
 ne:∀ k v,getK k cs=some v->qw v≠some b
theorem GrpM.cur(h:GrpM mu b g cs)(k):OwnI mu ((getK k cs).getD (.lst true [])) ((getK k g).getD []):=by
 cases i:getK k cs with
 |none=>rw[(gK k h.keys).1 i];exact .inl ⟨rfl,rfl⟩
 |some v=>obtain⟨l,j,o⟩:=h.own k v i;rw[j];exact o
theorem GrpM.step{mu'}(h:GrpM mu b g cs){k av l}(ho:OwnI mu' av l)(hs:∀ i,i<mu.length->qw ((getK k cs).getD (.lst true []))≠some i->mu'[i]?=mu[i]?)(hb:∀ x,qw av=some x->x=mu.length) :
  mu'[b]?=some (.mp (encK (fun n:Int=>aI n) id cs))/\GrpM (mu'.set b (.mp (encK (fun n:Int=>aI n) id (setK k av cs)))) b (setK k l g) (setK k av cs):=by
 have T:b<mu.length:=(qg.1 h.at0).1;have U:qw ((getK k cs).getD (.lst true []))≠some b:=by
  cases j:getK k cs with
  |none=>simp[qw]
  |some v=>exact h.ne k v j
 have a0:=hs b T U;have I:b<mu'.length:=by
  grind
 have a4:qw av≠some b:=fun e=>by grind
 have keep:∀{v:AV}{l:List Int},OwnI mu' v l->qw v≠some b->OwnI (mu'.set b (.mp (encK (fun n:Int=>aI n) id (setK k av cs)))) v l:=fun o hn=>o.same fun x J=>by
  grind
 have a1:∀{p:Int}{v:AV}{l:List Int},p≠k->getK p cs=some v->OwnI mu v l->OwnI mu' v l:=fun a2 j o=>o.same fun x J=>by
  have a3:=o.v.lt J;refine hs x a3 fun e=>?_
  cases hc:getK k cs with
  |none=>grind [qw]
  |some w=>rw[hc]at e;exact a2 (h.inj _ _ _ _ x j hc J e)
 refine⟨by rw[a0];exact h.at0,by rw[qv I],gJ k _ _ h.keys,fun p v j=>?_,fun k1 k2 v1 v2 x t C h1 h2=>?_,fun p v j=>?_⟩
 .rw [jw]at j⊢
  by_cases e:p=k
  .grind
  .rw [if_neg e]at j⊢
   obtain⟨l',h1,h2⟩:=h.own p v j;exact⟨l',h1,keep (a1 e j h2) (h.ne p v j)⟩
 .rw [jw]at t C
  have lt:∀{p v},getK p cs=some v->qw v=some x->x<mu.length:=fun j J=>by
   obtain⟨l',_,o⟩:=h.own _ _ j;exact o.v.lt J
  by_cases R:k1=k
  .by_cases P:k2=k
   .rw [R,P]
   .rw [if_pos R]at t;rw[if_neg P]at C;grind
  .by_cases P:k2=k
   .rw [if_neg R]at t;rw[if_pos P]at C;grind
   .rw [if_neg R]at t;rw[if_neg P]at C
    exact h.inj _ _ _ _ x t C h1 h2
 .rw [jw]at j
  by_cases e:p=k
  .grind
  .rw [if_neg e]at j;exact h.ne p v j
theorem GrpM.nil(h:mu[b]?=some (.mp [])):GrpM mu b [] []:=⟨h,rfl,fun k v g=>by simp[getK]at g,fun k i v j x g=>by simp[getK]at g,fun k v g=>by simp[getK]at g⟩
theorem GrpM.rd(h:GrpM mu b g cs)(I:(g.map Prod.fst).Nodup):Rd mu (.mp b) (.im (encK (fun n:Int=>aI n) lI g)):=by
 have t:cs.length=g.length:=by have:=congrArg List.length h.keys;grind
 have C:(cs.map Prod.fst).Nodup:=by rw[h.keys];exact I
 refine .mp b _ _ h.at0 (by simp[encK,t]) (fun k x y i j=>?_) (fun k x y i j=>?_)
 .have e:=congrArg (fun l=>l[k]?) h.keys
  simp only[zB]at e i j;cases o:cs[k]? with
  |none=>grind
  |some c =>
   cases p:g[k]? with
   |none=>grind
   |some d =>
    rw[o]at i;rw[p]at j;rw[o,p]at e;cases i;cases j;simp only[zb,qm]at e;simp only[e];exact .zsc _
 .have e:=congrArg (fun l=>l[k]?) h.keys
  simp only[zB]at e i j;cases o:cs[k]? with
  |none=>grind
  |some c =>
   cases p:g[k]? with
   |none=>grind
   |some d =>
    rw[o]at i;rw[p]at j;rw[o,p]at e;cases i;cases j;simp only[zb,qm]at e;obtain⟨l,J,P⟩:=h.own c.1 c.2 ((wS C).2 (qN o));rw[e]at J;have:=(wS I).2 (qN p:(d.1,d.2)∈g);rw[J]at this;cases this;exact P.v.rd
theorem qhU(n m x y):(x.flatMap fun s=>((getK (s % n) (grpK m y)).getD []).map fun t=>s / n*m+t)=joL n m x y:=by
 unfold joL;congr 1;funext s;have:=VO m y y.length (qh _) (s % n);simp_all
end
end EP
namespace EQ
open E1 EJ EM EN EO
theorem aW{P mu}{t g e bt n:Nat}{z K}(i:qF P t=some (e,1,bt))(j:P.underlying g=some (.int .i64))(l:qy P e=some (aI z))(o:bt<=16384)(p:0<n)(C:n<=4294967296)
  (k:∀ c,K (.sl mu.length 1 0 n) (mu++[.arr c])):qu P mu #[t,g] (.lst true []) (aI n) K:=
 .inr (.inr ⟨t,g,e,1,bt,_,n,[],rfl,i,j,l,rfl,rfl,zOm,o,rfl,p,rfl,fun r I=>by simp at I,zUs C,by simpa using k _⟩)
theorem growE(mu)(n:Nat)(I:n<=1000000):qr qb 228 [.lst true [],aI n] mu fun e m=>∃ av,e = .ret av/\OwnV m av []/\(∀ i,i<mu.length->m[i]?=mu[i]?)/\mu.length<=m.length/\∀ b,qw av=some b->mu.length<=b:=by
 refine qSW call228 func228 rfl {} ?_;have j:qj.wrap 0=0:=zWr;have o:qj.wrap (n:Int)=n:=zWr;have g:¬(n:Int)<0:=zOm;by_cases p:n=0
 .subst p
  simp[go_sem,j];exact⟨.inl ⟨rfl,rfl⟩,by simp[qw]⟩
 .have l:0<n:=by omega
  simp[go_sem,j,o,g,l];refine⟨⟨_,_,⟨rfl,rfl⟩,fun r t=>by simp at t⟩,?_⟩;refine aW (e:=3) (bt:=8) (z:=0) zSi zSi zSi zOm l zOm ?_;intro c;simp[go_sem];refine⟨.inr ⟨mu.length,c,rfl,zSp,zSp,zSp⟩,fun i C=>by rw[qB C],by simp[qw]⟩
theorem qhV(mu a b)(ha:a.length<=100000)(hb:b.length<=100000):qr qb 156 [.lst true [[lI a],[lI b]]] mu fun e m=>∃ av,e = .ret av/\OwnI m av (a++b)/\(∀ i,i<mu.length->m[i]?=mu[i]?)/\mu.length<=m.length/\∀ x,qw av=some x->mu.length<=x:=by
 refine qSW call156 func156 rfl {} ?_;have v1:qj.wrap 1=1:=zWr;have v2:qj.wrap 2=2:=zWr;simp[go_sem];have n0:¬((a.length:Int)+b.length)<0:=zOm;refine qi.up 2 (fun k U=>U.tm 0 = .lst true [[lI a],[lI b]]/\U.tm 3=aI ((if 0<k then (a.length:Int) else 0)+(if 1<k then (b.length:Int) else 0))/\U.tm 9 = .lst true [[lI a],[lI b]]/\U.tm 10=aI 2/\U.tm 11=aI k/\U.mu=mu) ?_ ?_
 .simp [go_sem]
 rintro k U hk ⟨e0,e3,e9,C,I,hm⟩;by_cases J:k<2
 .have:k=0\/k=1:=by omega
  rcases this with rfl|rfl
  .have w1:qj.wrap (a.length:Int)=a.length:=zWr
   have n1:¬(a.length:Int)<0:=zOm;simp[go_sem, *]
  .have w1:qj.wrap ((a.length:Int)+b.length)=a.length+b.length:=zWr
   simp[go_sem, *]
 .have:k=2:=by omega
  subst this;have g:=growE mu (a.length+b.length) zOm;simp[go_sem,e3,C,I,hm];refine fL (zUs g) ?_ ?_
  .rintro r m ⟨av,h,t,hs,hl,P⟩
   cases h;simp[go_sem,e0];refine qi.up 2 (fun k U=>U.tm 25 = .lst true [[lI a],[lI b]]/\U.tm 26=aI 2/\U.tm 27=aI k/\(if k=0 then OwnV U.mu (U.tm 6) [] else OwnI U.mu (U.tm 6) (if k=1 then a else a++b))/\(∀ i,i<mu.length->U.mu[i]?=mu[i]?)/\mu.length<=U.mu.length/\∀ x,qw (U.tm 6)=some x->mu.length<=x) ?_ ?_
   .simp_all [go_sem]
   rintro k a2 hk ⟨f25,f26,f27,t,hs,hl,P⟩;by_cases J:k<2
   .have:k=0\/k=1:=by omega
    rcases this with rfl|rfl
    .rw [if_pos rfl]at t
     simp[go_sem,f25,f26,f27];refine aG (e:=3) (bt:=8) (z:=0) (l:=[]) (ys:=a) zSi zSi zSi zOm t (by simp[qE]) zSo ?_;intro R o p T a0 a1;simp at p;simp[go_sem,f25,f26,f27,v1];refine⟨p,fun i hi=>?_,zOm,fun x hx=>?_⟩
     .grind
     grind
    .rw [zIn,if_pos rfl]at t
     simp[go_sem,f25,f26,f27];refine aG (e:=3) (bt:=8) (z:=0) (l:=a) (ys:=b) zSi zSi zSi zOm t.v (by simp[qE]) zOm ?_;intro R o p T a0 a1;simp[go_sem,f25,f26,f27,v2];refine⟨p,fun i hi=>?_,zOm,fun x hx=>?_⟩
     .grind
     grind
   .have:k=2:=by omega
    simp_all[go_sem]
  grind
theorem qhW(mu):qr qb 226 [.lst true []] mu fun e m=>e = .ret (.tup [])/\m=mu:=by
 refine⟨call226,fun G w o s g=>?_⟩;obtain⟨v,rfl,i⟩:=g.one_inv;obtain⟨p,cap,rfl⟩:∃ p cap,v = .slice p 0 cap:=by cases i<;>exact⟨_,_,rfl⟩
 refine(Tryz.slices_Sort_int_none p cap w).mono fun e t ⟨j,l⟩=>?_
 subst l;exact⟨G,mu,.refl s,.inl ⟨_,_,⟨rfl,rfl⟩,j,.tup [] #[] rfl zSp⟩⟩
theorem sortA(mu av l)(t:l.length<=1000000)(j:OwnI mu av l):qr qb 226 [av] mu fun e m=>e = .ret (.tup [])/\OwnI m av (srtI l)/\(∀ i,qw av≠some i->m[i]?=mu[i]?)/\m.length=mu.length:=by
 rcases j with ⟨rfl,rfl⟩|⟨b,rfl,g⟩
 .refine (qhW mu).monoR ?_
  rintro e m ⟨rfl,rfl⟩;exact⟨rfl,.inl ⟨rfl,by simp[srtI]⟩,fun _ _=>rfl,rfl⟩
 .refine (sortE g zOm).monoR ?_
  rintro e m ⟨rfl,rfl⟩;have o:b<mu.length:=(qg.1 g).1;exact⟨rfl,.inr ⟨b,by rw[YQ],by rw[qv o]⟩,fun i p=>by rw[zA (fun e=>p (by rw[e];rfl))],zSp⟩
theorem qhX(mu av l)(o:l.length<=1000000)(p:OwnI mu av l):qr qb 227 [av] mu fun e m=>∃ x,e = .ret x/\OwnV m x (cmpc eqI l)/\(∀ i,qw av≠some i->m[i]?=mu[i]?)/\m.length=mu.length/\∀ b,qw x=some b->qw av=some b:=by
 rcases p with ⟨rfl,rfl⟩|⟨b,rfl,g⟩
 .refine qSW call227 func227 rfl {} ?_
  simp[go_sem];exact .inl ⟨rfl,rfl⟩
 .refine (qhO mu b l o g).monoR ?_
  rintro e m ⟨cells,rfl,rfl,J,j⟩;have t:b<mu.length:=(qg.1 g).1;refine⟨_,rfl,.inr ⟨b,cells,rfl,by rw[qv t],?_,j⟩,fun i C=>by rw[zA (fun e=>C (by rw[e];rfl))],zSp,fun x I=>I⟩;have:=congrArg List.length j;simp at this;omega
theorem WW(mu P av l)(R:l.length<=1000000)(p:OwnI mu av l):qr qb 154 [aI P,av] mu fun e m=>∃ x,e = .ret (.agg [aI P,x])/\OwnV m x (ofL l)/\(∀ i,i<mu.length->qw av≠some i->m[i]?=mu[i]?)/\mu.length<=m.length/\∀ b,qw x=some b->qw av=some b:=by
 refine qSW call154 func154 rfl {} ?_;have t:OwnI (mu++[.arr [aI 0,.lst true []]]) av l:=p.same fun b T=>by rw[qB (p.v.lt T)]
 have C:qw av≠some mu.length:=fun h=>zW1 (p.v.lt h)
 simp[go_sem];refine fL (sortA _ av l R t) ?_ ?_
 .rintro r m ⟨h,I,a0,J⟩
  cases h;have a1:m.length=mu.length+1:=zUs J;simp[go_sem];refine fL (qhX _ av _ (by rw[YQ];exact R) I) ?_ ?_
  .rintro r U ⟨x,h,g,a2,a3,j⟩
   cases h;rw[qhM]at g;have hc:U[mu.length]?=some (.arr [aI 0,.lst true []]):=by grind
   have o:∀ c,(U.set mu.length c)[mu.length]?=some c:=fun c=>qv zOm
   have hx:qw r≠some mu.length:=fun h=>C (j _ h)
   simp[go_sem,hc,o,g.one,g.cells];refine⟨?_,fun i hi hn=>?_,zOm,j⟩
   .exact g.same fun b T=>by grind
   grind
  grind
 grind
theorem aX{mu j av l}(h:OwnV mu av l):Rd mu (.agg [aI j,av]) (eRel ⟨j,l⟩):=by
 refine .agg _ _ rfl fun k u v g i=>?_
 match k with
 | 0=>simp at g i;subst g;subst i;exact .zsc _
 | 1=>simp at g i;subst g;subst i;exact h.rd
 |k+2=>simp at g
theorem jz(a b)(J:a.ts.length<=100000)(o:b.ts.length<=100000):qd qb 90 [eRel a,eRel b] (eRel (unR a b)):=by
 refine qSU call90 func90 rfl ?_;refine fG [0,1,2,3,4,5,6,7,8,9] [(0,0,[]),(1,0,[]),(2,0,[]),(3,0,[]),(4,0,[]),(5,0,[]),(6,0,[]),(7,1,[1]),(8,1,[]),(9,1,[])] zKr zKr zSi ?_;simp[go_sem];refine fL (qhV _ a.ts b.ts J o) ?_ ?_
 .rintro r m ⟨i,h,P,R,hl,T⟩
  cases h;have p:=R 0 zSp;simp at p;have g:qw r≠some 0:=fun h=>by grind
  simp[go_sem];refine fL (WW m a.ar r _ zSo P) ?_ ?_
  .rintro r U ⟨x,h,j,t,a0,C⟩
   cases h;have I:=t 0 (qg.1 p).1 g;rw[p]at I;have l:∀ c,(U.set 0 c)[0]?=some c:=fun c=>qv (qg.1 I).1
   have hx:qw x≠some 0:=fun h=>g (C _ h)
   simp[go_sem,I,l,j.one];refine aX ?_;exact j.same fun b o=>by rw[zA (fun e=>hx (by rw[e];exact o))]
  grind
 grind
end EQ
namespace ER
open E1 EO EP EQ
theorem gL(l I p)(hf:FnOk qb I (fun x:Int=>aI x) (·∈l) (fun x=>aB (p x)))(hl:l.length<=1000000):qd qb 159 [lI l,I] (lI (l.filter p)):=by
 refine qSU call159 func159 rfl ?_;refine tW (fun m U=>∃ k,m=l.length-k/\k<=l.length/\U.tm 1=I/\U.tm 8=lI l/\U.tm 9=aI l.length/\U.tm 10=aI (k:Nat)/\OwnI U.mu (U.tm 5) ((l.take k).filter p)) l.length ?_ ?_
 .exact ⟨0,zOm,zOm,zSi,zSi,zSi,zSi,.inl ⟨zSi,rfl⟩⟩
 rintro m U ⟨k,rfl,hk,J,P,t,g,C⟩;by_cases j:k<l.length
 .have w1:=zWk k
  have a1:((l.take k).filter p).length<=k:=zM (List.length_filter_le _ _) zSo;simp[go_sem,J,P,t,g,j];refine FnOk.call (enc:=fun x:Int=>aI x) hf (qq j) ?_;cases hp:p l[k] with
  |true =>
   have R:(l.take (k+1)).filter p=(l.take k).filter p++[l[k]]:=by rw[jy j,List.filter_append];simp[hp]
   simp[go_sem];refine aR (e:=3) (bt:=8) (z:=0) (l:=(l.take k).filter p) zSi zSi zSi zOm C.v zOm ?_;intro i o T _ _ _;simp[go_sem,g,w1];refine Keep.loop (l.length-(k+1)) zOm ⟨k+1,rfl,zOm,zS1 J,zS1 P,zS1 t,zSi,?_⟩;rw[R];simpa[go_sem] using T
  |false =>
   have R:(l.take (k+1)).filter p=(l.take k).filter p:=by rw[jy j,List.filter_append];simp[hp]
   simp[go_sem,g,w1];refine Keep.loop (l.length-(k+1)) zOm ⟨k+1,rfl,zOm,zS1 J,zS1 P,zS1 t,zSi,?_⟩;rw[R];simpa[go_sem] using C
 .have a0:k=l.length:=by omega
  subst a0;rw[zi]at C;simp[go_sem,t,g];exact C.v.rd
theorem sameU(x):qd qb 158 [aI x] (aI x):=by
 refine qSU call158 func158 rfl ?_;exact .zsc _
abbrev imC(l:List (Int×Int)):AV := .im (encK (fun n:Int=>aI n) (fun n:Int=>aI n) l)
theorem ZU(l):HF (imC l):=HF.im fun p g=>by
 obtain⟨q,_,rfl⟩:=qn.1 g;exact⟨HF.sc _,HF.sc _⟩
theorem setU(r fv f)(hf:FnOk qb fv (fun x:Int=>aI x) (·∈r.ts) (fun x=>aI (f x)))(hl:r.ts.length<=1000000):qd qb 157 [eRel r,fv] (imC (cntK f r.ts)):=by
 refine qSU call157 func157 rfl ?_;obtain⟨B,hB⟩:∃ B,B=AV.mp 0:=⟨_,rfl⟩;refine qi.up r.ts.length (fun k U=>U.tm 1=fv/\U.tm 5=B/\U.tm 10=lI r.ts/\U.tm 11=aI r.ts.length/\U.tm 12=aI k/\U.mu[0]?=some (.mp (encK (fun n:Int=>aI n) (fun n:Int=>aI n) (cntK f (r.ts.take k))))) ?_ ?_
 .simp [go_sem,cntK,encK,hB]
 rintro k U hk ⟨e1,e5,p,j,l,J⟩;by_cases g:k<r.ts.length
 .have w1:=zWk k
  obtain⟨c1,c2,_⟩:=VN f r.ts k zOm (f r.ts[k]);have hs:=gF f (r.ts.take k) r.ts[k];rw[<-jy g]at hs;have a0:=keyI.look (et:=3) (t:=221) zSi (mu:=U.mu) (m := .mp 0) (venc:=fun n:Int=>aI n) (es:=cntK f (r.ts.take k)) (by simp only[jf,J]) (k:=f r.ts[k]) trivial (fun _ _=>trivial) (z:=aI 0) zSi false;have o:zT qb U.mu 221 B (aI (f r.ts[k])) false=some (aI ((getK (f r.ts[k]) (cntK f (r.ts.take k))).getD 0)):=by
   rw[hB];refine Eq.trans a0 ?_;cases getK (f r.ts[k]) (cntK f (r.ts.take k))<;>rfl
  have i:y6 qb U.mu 221 (.mp 0) (aI (f r.ts[k])) (aI ((getK (f r.ts[k]) (cntK f (r.ts.take k))).getD 0+1))=_:=keyI.update (et:=3) (t:=221) zSi (mu:=U.mu) (b:=0) (venc:=fun n:Int=>aI n) (es:=cntK f (r.ts.take k)) J (k:=f r.ts[k]) (v:=(getK (f r.ts[k]) (cntK f (r.ts.take k))).getD 0+1) trivial (fun _ _=>trivial);rw[<-hs,<-hB]at i;have R:0<U.mu.length:=(qg.1 J).1;generalize (getK (f r.ts[k]) (cntK f (r.ts.take k))).getD 0=c at *
  have w2:qj.wrap (c+1)=c+1:=zWr;simp[go_sem,e1,e5,p,j,l,g];refine FnOk.call (enc:=fun x:Int=>aI x) hf (qq g) ?_;simp[go_sem,o,w2];subst hB;refine tB _ i ?_;simp[go_sem,e1,e5,p,j,l,g,w1,R]
 .have a1:k=r.ts.length:=by omega
  subst a1;rw[zi]at J;simp[go_sem,e5,j,l];rw[hB];exact .mp 0 _ _ J rfl (fun k x y T hy=>by rw[T]at hy;cases hy;obtain⟨q,_,e⟩:=qn.1 (qN T);rw[<-e];exact .zsc _) (fun k x y T hy=>by rw[T]at hy;cases hy;obtain⟨q,_,e⟩:=qn.1 (qN T);rw[<-e];exact .zsc _)
theorem FnOk.same(ok):FnOk qb (.fn (.func 158) [] []) (fun x:Int=>aI x) ok (fun x=>aI x):=
 ⟨HF.fn zSp zSp,_,[],[],rfl,fun x _=>⟨_,.zs .nil,sameU x⟩⟩
theorem gM(mu f ts k):zT qb mu 221 (imC (cntK f ts)) (aI k) false=some (aI ((getK k (cntK f ts)).getD 0)):=by
 have:=keyI.look (et:=3) (t:=221) zSi (mu:=mu) (m:=imC (cntK f ts)) (venc:=fun n:Int=>aI n) (es:=cntK f ts) rfl (k:=k) trivial (fun _ _=>trivial) (z:=aI 0) zSi false;simp only[zT];refine Eq.trans this ?_;cases getK k (cntK f ts)<;>rfl
theorem qhY(f ts x):qd qb 160 [aI x,.ip [imC (cntK f ts)]] (aB (decide (0<(getK x (cntK f ts)).getD 0))):=by
 refine qSV call160 func160 rfl ?_;have g:=fun I=>gM I f ts x
 generalize imC (cntK f ts)=B at *
 simp[go_sem,g];exact .zsc _
theorem qhZ(f ts x):qd qb 161 [aI x,.ip [imC (cntK f ts)]] (aB (decide ((getK x (cntK f ts)).getD 0=0))):=by
 refine qSV call161 func161 rfl ?_;have g:=fun I=>gM I f ts x
 generalize imC (cntK f ts)=B at *
 simp[go_sem,g];exact .zsc _
theorem uK{x}(h:HF x):HF (.ip [x]):=HF.ip fun c g=>by simp at g;subst g;exact h
theorem gO(ts x):(0<(getK x (cntK (fun x=>x) ts)).getD 0↔x∈ts)/\((getK x (cntK (fun x=>x) ts)).getD 0=0↔¬x∈ts):=by
 obtain⟨l,g⟩:=qhS (fun x=>x) ts x;have i:(∃ t,t∈ts/\t=x)↔x∈ts:=⟨fun⟨t,j,e⟩=>e ▸ j,fun h=>⟨x,h,rfl⟩⟩;rw[i]at g;exact⟨g,by rw[<-g];omega⟩
theorem Rd.ip1{mu b x y}(j:mu[b]?=some (.arr [x]))(h:Rd mu x y):Rd mu (.ptr b 0) (.ip [y]):=by
 refine .ptr b 0 [x] [y] j zSp fun k u v i g=>?_
 match k with
 | 0=>simp at i g;subst i;subst g;exact h
 |k+1=>simp at g
theorem Jg(a b)(o:a.ts.length<=1000000)(p:b.ts.length<=1000000):qd qb 92 [eRel a,eRel b] (eRel (inR a b)):=by
 refine qSV call92 func92 rfl ?_;have C:=setU b _ _ (FnOk.same (·∈b.ts)) p;have I:=gL a.ts (.fn (.func 160) [] [.ip [imC (cntK (fun x=>x) b.ts)]]) (fun t=>decide (t∈b.ts)) ⟨HF.fn zSp (by simp;exact uK (ZU _)),_,[],_,rfl,fun x _=>⟨_,.zs (.zk (uK (ZU _)) .nil),by have:=qhY (fun x=>x) b.ts x;simp only[(gO b.ts x).1]at this;exact this⟩⟩ o;have J:WKs [eRel b,.fn (.func 158) [] []] [eRel b,.fn (.func 158) [] []] := .zk (qt b) (.zk (HF.fn zSp zSp) .nil);have g:=ZU (cntK (fun x=>x) b.ts);have i:(imC (cntK (fun x=>x) b.ts)).cells=[imC (cntK (fun x=>x) b.ts)]:=rfl;have j:(imC (cntK (fun x=>x) b.ts)).one=true:=rfl;generalize imC (cntK (fun x=>x) b.ts)=B at *
 have l:WKs [lI a.ts,.fn (.func 160) [] [.ip [B]]] [lI a.ts,.fn (.func 160) [] [.ip [B]]] := .zk (zy _) (.zk (HF.fn zSp (by simp;exact uK g)) .nil);simp[go_sem];refine tR C J ?_;simp[go_sem,i,j];refine qe.fz (FzQ.one (d:=5) (b:=1) (x := .ip [B]) (Rd.ip1 rfl (.hf _ g)) ?_);simp[go_sem,cutM];refine fD ?_;refine fB I l ?_;exact .hf _ (qt (inR a b))
theorem ZV(a b)(o:a.ts.length<=1000000)(p:b.ts.length<=1000000):qd qb 93 [eRel a,eRel b] (eRel (diR a b)):=by
 refine qSV call93 func93 rfl ?_;have C:=setU b _ _ (FnOk.same (·∈b.ts)) p;have I:=gL a.ts (.fn (.func 161) [] [.ip [imC (cntK (fun x=>x) b.ts)]]) (fun t=>decide (¬t∈b.ts)) ⟨HF.fn zSp (by simp;exact uK (ZU _)),_,[],_,rfl,fun x _=>⟨_,.zs (.zk (uK (ZU _)) .nil),by have:=qhZ (fun x=>x) b.ts x;simp only[(gO b.ts x).2]at this;exact this⟩⟩ o;have J:WKs [eRel b,.fn (.func 158) [] []] [eRel b,.fn (.func 158) [] []] := .zk (qt b) (.zk (HF.fn zSp zSp) .nil);have g:=ZU (cntK (fun x=>x) b.ts);have i:(imC (cntK (fun x=>x) b.ts)).cells=[imC (cntK (fun x=>x) b.ts)]:=rfl;have j:(imC (cntK (fun x=>x) b.ts)).one=true:=rfl;generalize imC (cntK (fun x=>x) b.ts)=B at *
 have l:WKs [lI a.ts,.fn (.func 161) [] [.ip [B]]] [lI a.ts,.fn (.func 161) [] [.ip [B]]] := .zk (zy _) (.zk (HF.fn zSp (by simp;exact uK g)) .nil);simp[go_sem];refine tR C J ?_;simp[go_sem,i,j];refine qe.fz (FzQ.one (d:=5) (b:=1) (x := .ip [B]) (Rd.ip1 rfl (.hf _ g)) ?_);simp[go_sem,cutM];refine fD ?_;refine fB I l ?_;have e:diR a b=⟨a.ar,a.ts.filter fun t=>!decide (t∈b.ts)⟩:=by simp[diR]
 have h:=qt (diR a b);rw[e]at h⊢;exact .hf _ h
theorem inU(a b)(g:a.ts.length<=1000000)(i:b.ts.length<=1000000):qd qb 55 [eRel a,eRel b] (aB (decide ((diR a b).ts=[]))):=by
 refine qSU call55 func55 rfl ?_;refine fB (ZV a b g i) (.zk (qt a) (.zk (qt b) .nil)) ?_;exact .zsc _
end ER
namespace ET
open E1 E2 E3 EL EO EP EQ ER
section
variable {mu:Mu}
theorem gP(n)(g:0<=n)(i:n<=20)(k)(j:0<=k)(l:k<=3):qd qb 123 [aI n,aI k] (aI (powI n k)):=by
 grind [gw,uG]
def RelM(mu:Mu)(g:Int)(l:List Int):Prop:=∃ i,mu[0]?=some (.arr [aI 0,.lst true []])/\mu[1]?=some (.arr [aI g,i])/\OwnI mu i l/\qw i≠some 0/\qw i≠some 1
theorem RelM.step{mu' j av g l}(J:mu[0]?=some (.arr [aI 0,.lst true []]))(o:mu[1]?=some (.arr [aI j,av]))(n0:qw av≠some 0)(P:qw av≠some 1)(p:OwnI mu' g l)
  (R:∀ i,i<mu.length->qw av≠some i->mu'[i]?=mu[i]?) (T:mu.length<=mu'.length) (U:∀ b,qw g=some b->b=mu.length):mu'[1]?=some (.arr [aI j,av])/\RelM (mu'.set 1 (.arr [aI j,g])) j l:=by
 have l1:1<mu.length:=(qg.1 o).1;have t:qw g≠some 0:=fun e=>by grind
 have C:qw g≠some 1:=fun e=>by grind
 refine⟨by grind,g,by grind,by grind,p.same fun b I=>?_,t,C⟩
 grind
theorem qh0(m x y s):prL m (x++[s]) y=prL m x y++y.map fun t=>s*m+t:=by simp[prL]
theorem WX{a m x y:Int}(i:0<=a)(j:a<=x)(g:0<=m)(l:m<=y)(o:0<=x):0<=a*m/\a*m<=x*y:=⟨Int.mul_nonneg i g,yX j l g o⟩
theorem ZW{r e x}(h:Rd mu x (eRel r)):Rd mu (.tup [x,aI e]) (.tup [eRel r,aI e]):=by
 refine .tup _ _ rfl fun k u v g i=>?_
 match k with
 | 0=>grind
 | 1=>simp at g i;subst g;subst i;exact .zsc _
 |k+2=>simp at g
theorem VP{g}:Rd mu (.agg [aI g,.lst true []]) (eRel ⟨g,[]⟩):=aX (.inl ⟨rfl,rfl⟩)
theorem qh1(m x y):(prL m x y).length=x.length*y.length:=by
 induction x with
 |nil=>simp[prL]
 |cons s x g=>simp only[prL,uj,qZ,yB,yh]at g⊢;rw[g,Nat.add_mul];omega
theorem WC(n)(h0:0<=n)(a8:n<=12)(a b)(ha:GR n a)(T:GR n b):qd qb 98 [aI n,eRel a,eRel b] (match wB n a b with | .ok r => .tup [eRel r,aI 0] | .error e => .tup [eRel ⟨0,[]⟩,aI e]):=by
 refine qSV call98 func98 rfl ?_;have a1:=ha.ar1;have a3:=ha.ar3;have b1:=T.ar1;have b3:=T.ar3;have la:=ha.len h0 zOm;have lb:=T.len h0 zOm;have w0:qj.wrap (a.ar+b.ar)=a.ar+b.ar:=zWr;unfold wB;by_cases hc:a.ar+b.ar<=3
 .have hn:¬(3:Int)<a.ar+b.ar:=by omega
  obtain⟨p0,p1⟩:=ZT (k:=b.ar) h0 (by omega:n<=20);rw[if_pos hc];simp[go_sem,w0,hn];refine fB (gP n h0 zOm b.ar zOm b3) (.zs (.zs .nil)) ?_;generalize hM:powI n b.ar=M at *
  have g:∀ i j,i<a.ts.length->j<=b.ts.length->(prL M (a.ts.take i) b.ts++(b.ts.take j).map fun t=>a.ts.getD i 0*M+t).length<=64000000:=fun i j hi hj=>by
   rw[qZ,qh1,yB,uo,uo];have:(min i a.ts.length)*b.ts.length<=7999*8000:=Nat.mul_le_mul zOm lb;omega
  refine fZ a.ts.length (fun i U=>U.tm 5 = .ip (cRel b)/\U.tm 6 = .ptr 0 0/\U.tm 8 = .ptr 1 0/\U.tm 9=aI M/\U.tm 32=lI a.ts/\U.tm 33=aI a.ts.length/\U.tm 34=aI i/\RelM U.mu (a.ar+b.ar) (prL M (a.ts.take i) b.ts)) ?_ ?_
  .refine ⟨zSi,zSi,zSi,zSi,zSi,zSi,zSi,.lst true [],zSi,zSi,.inl ⟨rfl,by simp[prL]⟩,by simp[qw],by simp[qw]⟩
  rintro i U hi ⟨e5,e6,e8,e9,a0,C,I,hr⟩;by_cases p:i<a.ts.length
  .have w1:=zWk i
   obtain⟨v0,v1⟩:=ha.val _ (qq p);obtain⟨q0,q1⟩:=ZT (k:=a.ar) h0 (by omega:n<=20);obtain⟨m0,m1⟩:=WX (x:=8000) (y:=8000) v0 zOm p0 p1 zOm;have a4:a.ts.getD i 0=a.ts[i]:=by rw[List.getD_eq_getElem?_getD,qC p];rfl
   have g:=g i;rw[a4]at g;simp[go_sem,e5,a0,C,I,p];refine fZ b.ts.length (fun j U=>U.tm 5 = .ip (cRel b)/\U.tm 6 = .ptr 0 0/\U.tm 8 = .ptr 1 0/\U.tm 9=aI M/\U.tm 11=aI a.ts[i]/\U.tm 32=lI a.ts/\U.tm 33=aI a.ts.length/\U.tm 34=aI i/\U.tm 39=lI b.ts/\U.tm 40=aI b.ts.length/\U.tm 41=aI j/\RelM U.mu (a.ar+b.ar) (prL M (a.ts.take i) b.ts++(b.ts.take j).map fun t=>a.ts[i] * M+t)) ?_ ?_
   .refine ⟨zS1 e5,zS1 e6,zS1 e8,zS1 e9,zSi,zS1 a0,zS1 C,zS1 I,zSi,zSi,zSi,zVs hr⟩
   rintro j U hj ⟨f5,f6,f8,f9,f11,f32,f33,f34,f39,f40,f41,av,g0,g1,J,n0,n1⟩;by_cases l:j<b.ts.length
   .have w2:=zWk j
    obtain⟨u0,u1⟩:=T.val _ (qq l);rw[hM]at u1;have w3:qj.wrap (a.ts[i] * M)=a.ts[i] * M:=zWr;have w4:qj.wrap (a.ts[i] * M+b.ts[j])=a.ts[i] * M+b.ts[j]:=zWr;simp[go_sem,f8,f9,f11,f39,f40,f41,l,g1,w3,w4];refine aR (e:=3) (bt:=8) (z:=0) zSi zSi zSi zOm J.v (by have:=g j p (by omega);omega) ?_;intro a9 o P a5 a6 a7;obtain⟨k1,k2⟩:=RelM.step g0 g1 n0 n1 P a5 a6 a7;simp[go_sem,f8,f41,k1,P.v.one,P.v.cells,w2];refine⟨l,aK ⟨zS1 f5,zS1 f6,zS1 f8,zS1 f9,zS1 f11,zS1 f32,zS1 f33,zS1 f34,zS1 f39,zS1 f40,zSi,?_⟩⟩;rw[jy l,z6,<-zL];exact k2
   .have R:j=b.ts.length:=by omega
    subst R;simp[go_sem,f34,f40,f41,w1];refine⟨p,aK ⟨zS1 f5,zS1 f6,zS1 f8,zS1 f9,zS1 f32,zS1 f33,zSi,?_⟩⟩;rw[jy p,qh0];rw[zi]at J;exact⟨av,g0,g1,J,n0,n1⟩
  .have R:i=a.ts.length:=by omega
   subst R;obtain⟨av,g0,g1,J,n0,n1⟩:=hr;rw[zi]at J;have a2:∀ c,(U.mu.set 0 c)[0]?=some c:=fun c=>qv (qg.1 g0).1
   simp[go_sem,e6,e8,C,I,g0,g1,a2,J.v.one];refine ZW (r:=prR n a b) ?_;unfold prR;rw[hM];refine aX (J.v.same fun b T=>?_);rw[zA (fun e=>n0 (by rw[e];exact T))]
 simp_all[go_sem,if_neg,ZW,VP]
theorem WY(n)(J:0<=n)(o:n<=12)(a)(ha:GR n a)(h2:a.ar=2):qd qb 86 [aI n,eRel a] (eRel (trR n a)):=by
 refine qSV call86 func86 rfl ?_;have hl:=ha.len J zOm;have e2:powI n 2=n*n:=by
  have:=uH (n:=n) (i:=1) (j:=1) zOm zOm zOm;rw[uI]at this;exact this
 have a8:n*n<=12*12:=yX o o J zOm;simp[go_sem,show (a.ts.length:Int)<=4294967296 by omega];refine fZ a.ts.length (fun k U=>U.tm 0=aI n/\U.tm 4 = .ptr 0 0/\U.tm 5 = .sl 1 1 0 a.ts.length/\U.tm 13=lI a.ts/\U.tm 14=aI a.ts.length/\U.tm 15=aI k/\U.mu=[.arr [aI 0,.lst true []],.arr ((((a.ts.take k).map fun t=>t % n*n+t / n)++qI (a.ts.length-k) 0).map aI)]) ?_ ?_
 .simp [go_sem]
 rintro k U hk ⟨e0,e4,T,P,p,I,hm⟩;by_cases l:k<a.ts.length
 .have w1:=zWk k
  obtain⟨v0,v1⟩:=ha.val _ (qq l);rw[h2,e2]at v1;have hn:0<n:=by
   rcases Int.lt_or_eq_of_le J with h|h
   .exact h
   .exfalso;rw[<-h,Int.mul_zero]at v1;omega
  have a9:0<=a.ts[k] / n:=Int.ediv_nonneg v0 J;have aa:a.ts[k] / n<n:=Int.ediv_lt_of_lt_mul hn v1;have a0:0<=a.ts[k] % n:=Int.emod_nonneg _ zOm;have ab:a.ts[k] % n<n:=Int.emod_lt_of_pos _ hn;obtain⟨m0,m1⟩:=WX (x:=12) (y:=12) a0 zOm J o zOm;have d1:a.ts[k].tdiv n=a.ts[k] / n:=Int.tdiv_eq_ediv_of_nonneg v0;have d2:a.ts[k].tmod n=a.ts[k] % n:=uZ v0;have w2:qj.wrap (a.ts[k] / n)=a.ts[k] / n:=zWr;have w3:qj.wrap (a.ts[k] % n*n)=a.ts[k] % n*n:=zWr;have w4:qj.wrap (a.ts[k] % n*n+a.ts[k] / n)=a.ts[k] % n*n+a.ts[k] / n:=zWr;have a1:¬n=0:=zOm;have a6:qI (a.ts.length-k) (0:Int)=0 :: qI (a.ts.length-(k+1)) 0:=by
   rw[<-List.replicate_succ];congr 1;omega
  have g:∀ v:Int,((((a.ts.take k).map fun t=>t % n*n+t / n)++qI (a.ts.length-k) 0).map aI).set k (aI v)=(((a.ts.take k).map fun t=>t % n*n+t / n)++v :: qI (a.ts.length-(k+1)) 0).map aI:=fun v=>by
   simp_all
  have R:((((a.ts.take k).map fun t=>t % n*n+t / n)++qI (a.ts.length-k) 0).map aI).length=a.ts.length:=zSo;generalize hC:(((a.ts.take k).map fun t=>t % n*n+t / n)++qI (a.ts.length-k) 0).map aI=C at *
  simp[go_sem,P,p,I,hm,l];refine tN zKr ?_;simp[go_sem,e0,T,I,l,a1,d1,d2,w2,w3,w4,g,R,show k+1<=a.ts.length by omega,w1];refine aK ⟨zS1 e0,zS1 e4,zS1 T,zS1 P,zS1 p,zSi,?_⟩;simp only[qH];have e:(((a.ts.take (k+1)).map fun t=>t % n*n+t / n)++qI (a.ts.length-(k+1)) 0).map aI=(((a.ts.take k).map fun t=>t % n*n+t / n)++(a.ts[k] % n*n+a.ts[k] / n) :: qI (a.ts.length-(k+1)) 0).map aI:=by
   rw[jy l,z6 (l₂:=[a.ts[k]]),zL];rfl
  rw[e];simp
 .have a2:k=a.ts.length:=by omega
  subst a2;rw[zi,Nat.sub_self,List.replicate_zero,zZ]at hm;generalize hL:a.ts.map (fun t=>t % n*n+t / n)=L at *
  have a3:L.length=a.ts.length:=by rw[<-hL];simp
  simp only[p,I,hm,go_sem];have hs:=WW [.arr [aI 0,.lst true []],.arr (L.map aI)] 2 (.sl 1 1 0 a.ts.length) L zOm (.inr ⟨1,by rw[a3],rfl⟩);simp[go_sem,T];refine fL hs ?_ ?_
  .rintro r m ⟨x,h,ho,a4,ad,a5⟩
   cases h;have g0:=a4 0 zSp (by simp[qw]);have g:∀ c,(m.set 0 c)[0]?=some c:=fun c=>qv (qg.1 g0).1
   simp at g0;have hx:qw x≠some 0:=fun h=>by have:=a5 _ h;simp[qw]at this
   simp[go_sem,e4,g0,g,ho.one];unfold trR;rw[hL];refine aX (ho.same fun b hb=>?_);rw[zA (fun e=>hx (by rw[e];exact hb))]
  .rintro r m ⟨x,h,_⟩
   cases h
end
end ET
namespace EW
open EO EP EQ ER ET
inductive TagM (p:Mu->Prop):Type where
 |mk:TagM p
def w6(p:Mu->Prop)(_:TagM p)(mu:Mu):Prop:=p mu
theorem tH{p mu}(h:p mu):w6 p .mk mu:=h
theorem tU{P pl l caps ps g body Q st rows}(j:j6 P l caps rows)(I:Nat->Mu->Prop)(i:qT->Mu->Prop)
  (o:I 0 (st.mu++[.dead])) (p:∀ k mu,I k mu->I k (mu++[.dead])) (t:∀ e mu,i e mu->i e (mu++[.dead]))
  (C:∀ k x mu,rows[k]?=some x->I k mu->x.length=ps.size/\awp P pl g (asQ (fun st=>awp P pl body (rndQ (fun k=>w6 (I k) .mk) (fun e=>w6 (i e) .mk) k) st)) ⟨vQ st.tm ps.toList x,mu⟩)
  (J:∀ mu,I rows.length mu->Q .normal ⟨st.tm,mu⟩) (R:∀ e mu,i e mu->Q e ⟨st.tm,mu⟩):wq P pl (.fn (.func l) [] caps) ps g body Q st:=
 tD j I i o p t C J R
abbrev tupCl(sc:Sc)(p:Int)(l:List Int):AV := .fn (.func 151) [] [.ip [lI l],.ip [aI p],.ip [lI sc.sC,aI sc.sN]]
theorem gQ(sc p l):qd qb 78 [eSc sc,aI p,lI l] (tupCl sc p l):=by
 refine qSU call78 func78 rfl ?_;refine .hf _ (HF.fn (fun c g=>by simp at g) (fun c g=>?_));simp at g;rcases g with rfl|rfl|rfl
 .exact uK (zy _)
 .exact uK (HF.sc _)
 .exact HF.ip fun c g=>by simp at g;rcases g with rfl|rfl<;>first|exact zy _|exact HF.sc _
def tupR(sc:Sc):List Int->Int->List Int
 | [],p=>[p]
 |s :: l,p=>(qp (gI sc.sC s.toNat).toNat).flatMap fun k:Nat=>tupR sc l (p*sumI sc.sC+(sumI (sc.sC.take s.toNat)+k))
@[go_sem] theorem yl_cells(i):(AV.yl i).cells=[.yl i]:=rfl
@[go_sem] theorem yl_one(i):(AV.yl i).one=true:=rfl
theorem qh2(sc:Sc)(p):j6 qb 151 [.ip [lI []],.ip [aI p],.ip [lI sc.sC,aI sc.sN]] [[aI p]]:=by
 refine j6.of call151 fun i I o t C g j l=>?_
 refine qSW call151 func151 rfl {} ?_;simp[go_sem];refine qc.yield (g 0 [aI p] j rfl l) ?_;simp_all[go_sem]
theorem qh3{i r}(h:i<r):∃ l,qp r=qp i++i :: l:=by
 refine⟨(qp r).drop (i+1),?_⟩;apply vJ;intro j;by_cases g:j<i
 .rw [qB (zUs g),JP g,JP zOm]
 .rw [zY zSo,List.length_range]
  by_cases e:j=i
  .subst e;simp[h]
  .obtain ⟨d,o⟩:∃ d,j-i=d+1:=⟨j-i-1,zOm⟩
   rw[o,List.getElem?_cons_succ,um];congr 1;omega
theorem qh4{J:Type}(f){N k j}{x:J}(g:k<N)(h:(f k)[j]?=some x):((qp N).flatMap f)[((qp k).flatMap f).length+j]?=some x:=by
 obtain⟨l,e⟩:=qh3 g;rw[e,List.flatMap_append,zY zOm,Nat.add_sub_cancel_left,uj,qB (qg.1 h).1];exact h
theorem Jh{J:Type}(f:Nat->List J)(k):(qp (k+1)).flatMap f=(qp k).flatMap f++f k:=by
 rw[List.range_succ,List.flatMap_append];simp
theorem qh5(sc)(g:GSc sc)(hA:∀ a,a∈sc.sC->0<=a)(s)(P:s<sc.sC.length)(l)(hl:l.length<=10)(p)(hp:0<=p/\p<=1000000)
  (ih:∀ k,k<(gI sc.sC s).toNat->j6 qb 151 [.ip [lI l],.ip [aI (p*sumI sc.sC+(sumI (sc.sC.take s)+k))],.ip [lI sc.sC,aI sc.sN]] ((tupR sc l (p*sumI sc.sC+(sumI (sc.sC.take s)+k))).map fun t=>[aI t])) :
  j6 qb 151 [.ip [lI (s :: l)],.ip [aI p],.ip [lI sc.sC,aI sc.sN]] ((tupR sc (s :: l) p).map fun t=>[aI t]):=by
 refine j6.of call151 fun i I Ix hS hX hY mu h0=>?_
 refine qSW call151 func151 rfl {} ?_;have hz:¬(l.length:Int)+1=0:=zOm;have a0:=WV sc g s zOm;have a1:WKs [eSc sc,aI s] [eSc sc,aI s] := .zk (zp sc) (.zs .nil);obtain⟨s0,s1⟩:=g.sum s;obtain⟨t0,t1⟩:=g.sum sc.sC.length;rw[zi]at t0 t1;have a2:gI sc.sC s=sc.sC[s]:=jP P;have af:=hA _ (qq P);obtain⟨u0,u1⟩:=g.sum (s+1);rw[wR _ _ P]at u1;have a3:=Zk sc g;have a4:WKs [eSc sc] [eSc sc] := .zk (zp sc) .nil;have C:tupR sc (s :: l) p=(qp (sc.sC[s]).toNat).flatMap fun k:Nat=>tupR sc l (p*sumI sc.sC+(sumI (sc.sC.take s)+k)):=by
  simp_all[tupR]
 rw[a2]at ih;obtain⟨m0,m1⟩:0<=p*sumI sc.sC/\p*sumI sc.sC<=1000000*20:=⟨Int.mul_nonneg hp.1 t0,yX hp.2 t1 t0 zOm⟩;have w2:qj.wrap (p*sumI sc.sC)=p*sumI sc.sC:=zWr;have w3:qj.wrap (sumI (sc.sC.take s)+sc.sC[s])=sumI (sc.sC.take s)+sc.sC[s]:=zWr;generalize hF:(fun k:Nat=>tupR sc l (p*sumI sc.sC+(sumI (sc.sC.take s)+k)))=F at *
 have a5:∀ k:Nat,tupR sc l (p*sumI sc.sC+(sumI (sc.sC.take s)+k))=F k:=fun k=>by rw[<-hF]
 simp only[a5]at ih;simp[go_sem,hz];refine fD ?_;refine tR a0 a1 ?_;generalize hn:sumI sc.sC=n at *
 generalize hf:sumI (sc.sC.take s)=f at *
 simp[go_sem];refine tW (fun m U=>∃ k,m=(sc.sC[s]).toNat-k/\k<=(sc.sC[s]).toNat/\U.tm 1 = .ip [lI (s :: l)]/\U.tm 2 = .ip [aI p]/\U.tm 3 = .ip [lI sc.sC,aI sc.sN]/\U.tm 4 = .ip [.yl i]/\U.tm 5=aI f/\U.tm 6=aI (f+(k:Nat))/\I ((qp k).flatMap F).length U.mu) (sc.sC[s]).toNat ?_ ?_
 .exact ⟨0,zOm,zOm,zSi,zSi,zSi,zSi,zSi,zSi,zVs h0⟩
 rintro m U ⟨k,rfl,hk,e1,e2,e3,e4,e5,e6,hI⟩;simp[go_sem];refine tN zKr ?_;by_cases R:k<(sc.sC[s]).toNat
 .have hb:f+(k:Int)<f+sc.sC[s]:=by omega
  have w4:qj.wrap (p*n+(f+k))=p*n+(f+k):=zWr;have w5:qj.wrap (f+(k:Int)+1)=f+((k+1:Nat):Int):=by rw[zWr];omega
  have T:WKs [eSc sc,aI (p*n+(f+k)),.lst false (l.map rI)] [eSc sc,aI (p*n+(f+k)),lI l] := .zk (zp sc) (.zs (.zk (zy l) .nil));have a6:=gQ sc (p*n+(f+k)) l;simp[go_sem,e1,e3,e5,e6,P,w3,hb];refine tN zKr ?_;simp[go_sem,e2,e3];refine tR a3 a4 ?_;have a7:(1:Int)<=l.length+1:=zOm;have a8:List.take l.length (l.map rI)=l.map rI:=yr zSp;simp[go_sem,e1,e6,w2,w4,a7,a8];refine⟨⟨_,_,⟨rfl,rfl⟩,(wt (s :: l)).ok⟩,?_⟩;refine fB a6 T ?_;refine tU (ih k R) (fun j M=>I (((qp k).flatMap F).length+j) M) (fun e M=>e = .ret/\Ix M) ?_ ?_ ?_ ?_ ?_ ?_
  .simpa [go_sem] using hS _ _ hI
  .intro j M h;exact hS _ _ h
  .rintro e M ⟨h1,h2⟩;exact⟨h1,hX _ h2⟩
  .rintro j x M hj a9
   rw[zB,vH]at hj;obtain⟨t,ht,rfl⟩:=hj;have J:(((qp (sc.sC[s]).toNat).flatMap F).map fun t=>[aI t])[((qp k).flatMap F).length+j]?=some [aI t]:=by
    rw[zB,qh4 F R ht];rfl
   rw[<-C]at J;refine⟨rfl,?_⟩;simp[go_sem,e4];refine qc.yield (hY _ _ _ J a9) ?_;rintro b o (⟨rfl,aa⟩|⟨rfl,ab⟩)
   .simp [go_sem]
    exact tH aa
   .simp [go_sem]
    exact tH ⟨rfl,ab⟩
  .rintro M ad
   simp[go_sem,e6,w5];refine Keep.loop ((sc.sC[s]).toNat-(k+1)) zOm ⟨k+1,rfl,zOm,zS1 e1,zS1 e2,zS1 e3,zS1 e4,zS1 e5,zSi,?_⟩;rw[Jh,qZ];simpa[go_sem] using ad
  .rintro e M ⟨rfl,h2⟩
   simp[go_sem];exact .inr h2
 .have ae:k=(sc.sC[s]).toNat:=by omega
  have hb:¬f+(k:Int)<f+sc.sC[s]:=zOm;simp[go_sem,e1,e3,e5,e6,P,w3,hb];rw[C,<-ae];exact .inl hI
def bdT:Nat->Int
 | 0=>1000000000
 | 1=>1000000
 | 2=>40000
 |_=>1000
theorem gR(d)(g:d<3){p q n}(i:0<=p)(j:p<=bdT (d+1))(n0:0<=n)(l:n<=20)(o:0<=q)(q1:q<=20):0<=p*n+q/\p*n+q<=bdT d/\p<=1000000:=by
 have a:0<=p*n:=Int.mul_nonneg i n0;have b:p*n<=bdT (d+1)*20:=yX j l n0 zOm
 match d,g with
 | 0,_=>grind [bdT]
 | 1,_=>grind [bdT]
 | 2,_=>grind [bdT]
def OkS(sc:Sc)(l:List Int):Prop:=∀ s,s∈l->0<=s/\s<sc.sC.length
theorem gS(sc)(g:GSc sc)(I:∀ a,a∈sc.sC->0<=a):∀ l,OkS sc l->l.length<=3->∀ p,0<=p->p<=bdT l.length->j6 qb 151 [.ip [lI l],.ip [aI p],.ip [lI sc.sC,aI sc.sN]] ((tupR sc l p).map fun t=>[aI t])
 | [],_,_,p,_,_=>qh2 sc p
 |s :: l,i,J,p,j,o=>by
  obtain⟨n,rfl⟩:∃ n:Nat,s=n:=⟨s.toNat,zW1 ((i s zSp).1)⟩;have C:n<sc.sC.length:=zW1 ((i n zSp).2);simp only[yh]at J o;obtain⟨t0,t1⟩:=g.sum sc.sC.length;rw[zi]at t0 t1;refine qh5 sc g I n C l zOm p ⟨j,(gR l.length zOm j o t0 t1 (q:=0) zOm zOm).2.2⟩ fun k P=>?_
  obtain⟨u0,R⟩:=g.sum (n+1);rw[wR _ _ C]at R;rw[jP C]at P;obtain⟨s0,s1⟩:=g.sum n;obtain⟨T,U,_⟩:=gR l.length zOm j o t0 t1 (q:=sumI (sc.sC.take n)+k) zOm zOm;exact gS sc g I l (fun x hx=>i x (zP1 hx)) zOm _ T U
theorem WZ(sc)(g:GSc sc)(o:∀ a,a∈sc.sC->0<=a):∀ l,OkS sc l->∀ p,(tupR sc l p).length<=20 ^ l.length
 | [],_,p=>by simp[tupR]
 |s :: l,i,p=>by
  obtain⟨n,rfl⟩:∃ n:Nat,s=n:=⟨s.toNat,zW1 ((i s zSp).1)⟩;have j:n<sc.sC.length:=zW1 ((i n zSp).2);obtain⟨P,t⟩:=g.sum (n+1);obtain⟨R,s1⟩:=g.sum n;rw[wR _ _ j]at t;have C:=WZ sc g o l (fun x I=>i x (zP1 I));rw[tupR,show (n:Int).toNat=n by omega,jP j];have key:∀ m:Nat,((qp m).flatMap fun k:Nat=>tupR sc l (p*sumI sc.sC+(sumI (sc.sC.take n)+k))).length<=m*20 ^ l.length:=by
   intro m;induction m with
   |zero=>simp
   |succ m J =>
    rw[Jh,qZ,Nat.succ_mul];have:=C (p*sumI sc.sC+(sumI (sc.sC.take n)+m));omega
  refine zM (key _) ?_;rw[yh,Nat.pow_succ,Nat.mul_comm];exact Nat.mul_le_mul_left _ zOm
theorem VQ(n a b):qd qb 77 [aI n,aI a,aI b] (aB (decide (a<=n)&&decide (n<=b))):=by
 refine qSV call77 func77 rfl ?_;by_cases g:a<=n
 .simp [go_sem,g]
  exact .zsc _
 .simp [go_sem,g]
  exact .zsc _
theorem wk3I(a b c):WKs [aI a,aI b,aI c] [aI a,aI b,aI c] := .zs (.zs (.zs .nil))
theorem W0(sc)(g:GSc sc)(hA:∀ a,a∈sc.sC->0<=a)(l)(hs:OkS sc l)(h1:1<=l.length)(h3:l.length<=3):qd qb 39 [eSc sc,lI l] (eRel ⟨l.length,tupR sc l 0⟩):=by
 refine qSV call39 func39 rfl ?_;have b1:(1:Int)<=l.length:=zOm;have b3:(l.length:Int)<=3:=zOm;have hg:=g.1;have w1:=VQ l.length 1 3;rw[decide_eq_true b1,decide_eq_true b3]at w1;simp[go_sem];refine fB w1 (wk3I _ _ _) ?_;refine fZ l.length (fun k U=>U.tm 1=lI l/\U.tm 2 = .ip [lI sc.sC,aI sc.sN]/\U.tm 4 = .ptr 0 0/\U.tm 14=lI l/\U.tm 15=aI l.length/\U.tm 16=aI k/\U.mu=[.arr [aI 0,.lst true []]]) ?_ ?_
 .simp [go_sem]
 rintro k U hk ⟨e1,e2,e4,a0,I,J,hm⟩;by_cases P:k<l.length
 .have wk:=zWk k
  have wl:qj.wrap ((sc.sC.length:Int)-1)=(sc.sC.length:Int)-1:=zWr;obtain⟨q0,q1⟩:=hs _ (qq P);have w2:=VQ l[k] 0 ((sc.sC.length:Int)-1);rw[decide_eq_true q0,decide_eq_true (by omega:l[k]<=(sc.sC.length:Int)-1)]at w2;simp[go_sem,e2,a0,I,J,hm,P,wl];refine tR w2 (wk3I _ _ _) ?_;simp_all[go_sem,aK]
 .have a1:k=l.length:=by omega
  subst a1;have a6:=WZ sc g hA l hs 0;have hp:20 ^ l.length<=8000:=by
   have:l.length=1\/l.length=2\/l.length=3:=zOm
   grind
  have a2:(0:Int)<=bdT l.length:=by
   have:l.length=1\/l.length=2\/l.length=3:=zOm
   grind [bdT]
  simp[go_sem,e1,e2,I,J,hm];refine fB (gQ sc 0 l) (.zk (zp sc) (.zs (.zk (zy l) .nil))) ?_;refine tU (gS sc g hA l hs h3 0 zOm a2) (fun j M=>RelM M l.length ((tupR sc l 0).take j)) (fun _ _=>False) ?_ ?_ ?_ ?_ ?_ ?_
  .exact ⟨.lst true [],zSi,zSi,.inl ⟨rfl,rfl⟩,by simp[qw],by simp[qw]⟩
  .rintro j M ⟨i,R,g1,p,n0,n1⟩
   exact⟨i,by grind,by grind,p.same fun b hb=>by rw[qB (p.v.lt hb)],n0,n1⟩
  .grind
  .rintro j x M hj ⟨i,R,g1,p,n0,n1⟩
   rw[zB,vH]at hj;obtain⟨t,ht,rfl⟩:=hj;obtain⟨a7,a8⟩:=qg.1 ht;refine⟨rfl,?_⟩;simp[go_sem,g1];refine aR (e:=3) (bt:=8) (z:=0) zSi zSi zSi zOm p.v zSo ?_;intro a9 o C a3 a4 a5;obtain⟨k1,k2⟩:=RelM.step R g1 n0 n1 C a3 a4 a5;simp[go_sem,k1,C.v.one,C.v.cells]
   grind [tH,jy]
  .rintro M ⟨i,R,g1,p,n0,n1⟩
   rw[yB,zi]at p;have T:∀ c,(M.set 0 c)[0]?=some c:=fun c=>qv (qg.1 R).1
   simp[go_sem,e4,R,g1,T,p.v.one];refine aX (p.v.same fun b hb=>?_);rw[zA (fun e=>n0 (by rw[e];exact hb))]
  grind
end EW
namespace EU
open E1 EO EP EQ ER ET
abbrev imG(g:List (Int×List Int)):AV := .im (encK (fun n:Int=>aI n) lI g)
abbrev matC(n m:Int)(a b:Rl):List AV:=[.ip (cRel a),.ip [imG (grpK m b.ts)],.ip [aI n],.ip [aI m]]
theorem qh6(n m)(hm:0<m)(af:m<=8000)(a b)(hb:∀ t,t∈b.ts->0<=t/\t<=1000000)(hl:b.ts.length<=1000000):qd qb 162 [aI n,aI m,eRel a,eRel b] (.fn (.func 229) [] (matC n m a b)):=by
 refine qSV call162 func162 rfl ?_;obtain⟨B,hB⟩:∃ B,B=AV.mp 0:=⟨_,rfl⟩;have ag:B.cells=[B]:=by rw[hB];rfl
 have ah:B.one=true:=by rw[hB];rfl
 simp[go_sem];refine fZ b.ts.length (fun k U=>U.tm 4 = .ip [aI n]/\U.tm 5 = .ip [aI m]/\U.tm 6 = .ip (cRel a)/\U.tm 9 = .ptr 1 0/\U.tm 14=lI b.ts/\U.tm 15=aI b.ts.length/\U.tm 16=aI k/\U.mu[1]?=some (.arr [B])/\∃ j,GrpM U.mu 0 (grpK m (b.ts.take k)) j/\∀ q v,getK q j=some v->∀ x,qw v=some x->2<=x) ?_ ?_
 .refine ⟨zSi,zSi,zSi,zSi,zSi,zSi,zSi,by simp[go_sem,hB],[],GrpM.nil zSi,fun q v h=>by simp[getK]at h⟩
 rintro k U hk ⟨e4,e5,e6,e9,a2,P,R,g1,j,hG,h2⟩;by_cases p:k<b.ts.length
 .have w1:=zWk k
  obtain⟨v0,v1⟩:=hb _ (qq p);have d1:b.ts[k].tdiv m=b.ts[k] / m:=Int.tdiv_eq_ediv_of_nonneg v0;have d2:b.ts[k].tmod m=b.ts[k] % m:=uZ v0;have q0:0<=b.ts[k] / m:=Int.ediv_nonneg v0 zOm;have q1:b.ts[k] / m<=b.ts[k]:=Int.ediv_le_self _ v0;have w2:qj.wrap (b.ts[k] / m)=b.ts[k] / m:=zWr;have a9:¬m=0:=zOm;have hs:=gG m (b.ts.take k) b.ts[k];rw[<-jy p]at hs;have a3:=hG.cur (b.ts[k] / m);have aa:=keyI.look (et:=28) (t:=284) zSi (mu:=U.mu) (m := .mp 0) (venc:=id) (es:=j) (by simp only[jf,hG.at0]) (k:=b.ts[k] / m) trivial (fun _ _=>trivial) (z := .lst true []) zSi false;have T:zT qb U.mu 284 B (aI (b.ts[k] / m)) false=some ((getK (b.ts[k] / m) j).getD (.lst true [])):=by
   rw[hB];refine Eq.trans aa ?_;cases getK (b.ts[k] / m) j<;>rfl
  have a0:=fun (o:Mu) (i:AV) (l:List Int)=>GrpM.step (mu':=o) (av:=i) (l:=l) (k:=b.ts[k] / m) hG
  have ab:∀ x,qw ((getK (b.ts[k] / m) j).getD (.lst true []))=some x->2<=x:=by
   intro x g;cases hc:getK (b.ts[k] / m) j with
   |none=>rw[hc]at g;simp[qw]at g
   |some v=>rw[hc]at g;exact h2 _ _ hc x g
  have ai:((getK (b.ts[k] / m) (grpK m (b.ts.take k))).getD []).length<=k:=by
   rw[VO m b.ts k zOm,yB];exact zM (List.length_filter_le _ _) zSo
  simp[go_sem,a2,P,R,p];refine fG [0,1,2,3,4,5,6,7,8,9,10,11,12,13,14] [(0,0,[]),(1,0,[]),(2,0,[]),(3,0,[]),(4,0,[]),(5,0,[]),(6,0,[]),(7,0,[]),(8,0,[]),(9,0,[]),(10,0,[]),(11,0,[]),(12,0,[]),(13,1,[0,2]),(14,1,[])] zKr zKr zSi ?_;simp[go_sem,e5,e9,g1,a9,d1,d2,w2,T];refine aR (e:=3) (bt:=8) (z:=0) (l:=(getK (b.ts[k] / m) (grpK m (b.ts.take k))).getD []) zSi zSi zSi zOm a3.v zOm ?_;intro a1 o ad a5 aj a6;obtain⟨k1,k2⟩:=a0 o a1 _ ad a5 a6;rw[<-hs]at k2;have a7:y6 qb o 284 (.mp 0) (aI (b.ts[k] / m)) a1=_:=keyI.update (et:=28) (t:=284) zSi (mu:=o) (b:=0) (venc:=id) (es:=j) k1 (k:=b.ts[k] / m) (v:=a1) trivial (fun _ _=>trivial);have l1:1<U.mu.length:=(qg.1 g1).1;have a8:o[1]?=some (.arr [B]):=by rw[a5 1 l1 (fun e=>zW1 (ab 1 e))];exact g1
  simp[go_sem,e5,e9,a8];subst hB;refine tB _ a7 ?_;simp[go_sem,R,p,w1];refine aK ⟨zS1 e4,zS1 e5,zS1 e6,zS1 e9,zS1 a2,zS1 P,zSi,?_,_,zVs k2,fun q v hq x g=>?_⟩
  .simp only[qH]
   rw[zGl];exact a8
  .rw [jw]at hq
   split at hq
   .cases hq;have:=a6 x g;omega
   .exact h2 q v hq x g
 .have ae:k=b.ts.length:=by omega
  subst ae;rw[zi]at hG;simp[go_sem,e4,e5,e6,e9,P,R];refine .fn _ _ _ _ _ rfl rfl (fun k x y g=>by simp at g) (fun k x y g J=>?_)
  match k with
  | 0=>simp at g J;subst g;subst J;exact .hf _ (HF.ip (py a))
  | 1=>simp at g J;subst g;subst J;rw[hB]at g1;exact Rd.ip1 g1 (hG.rd (qhT m b.ts))
  | 2=>simp at g J;subst g;subst J;exact .hf _ (uK (HF.sc _))
  | 3=>simp at g J;subst g;subst J;exact .hf _ (uK (HF.sc _))
  |k+4=>simp at g
theorem lookG(mu m ys k):∃ f,zT qb mu 284 (imG (grpK m ys)) (aI k) false=some (.lst f (((getK k (grpK m ys)).getD []).map rI)):=by
 have:=keyI.look (et:=28) (t:=284) zSi (mu:=mu) (m:=imG (grpK m ys)) (venc:=lI) (es:=grpK m ys) rfl (k:=k) trivial (fun _ _=>trivial) (z := .lst true []) zSi false;simp only[zT];cases h:getK k (grpK m ys) with
 |none=>rw[h]at this;exact⟨true,this⟩
 |some l=>rw[h]at this;exact⟨false,this⟩
theorem qh7{J g:Type}(f){l:List J}{k j}{x:g}(i)(h:(f l[k])[j]?=some x):(l.flatMap f)[((l.take k).flatMap f).length+j]?=some x:=by
 have e:l=l.take k++l[k] :: l.drop (k+1):=by rw[<-qY i,List.take_append_drop]
 have o:l.flatMap f=(l.take k).flatMap f++(f l[k]++(l.drop (k+1)).flatMap f):=by
  conv=>lhs;rw[e]
  rw[List.flatMap_append,uj]
 rw[o,zY zOm,Nat.add_sub_cancel_left,qB (qg.1 h).1];exact h
theorem qh8(n m)(hn:0<n)(aa:n<=20)(hm:0<m)(a4:m<=8000)(a b)(ha:∀ t,t∈a.ts->0<=t/\t<=1000000)(ab:a.ts.length<=1000000)(a5:b.ts.length<=1000000) :
  j6 qb 229 (matC n m a b) ((joL n m a.ts b.ts).map fun t=>[aI t]):=by
 refine j6.of call229 fun i I Ix hS hX hY mu h0=>?_
 refine qSW call229 func229 rfl {} ?_;have T:=fun mu=>lookG mu m b.ts
 obtain⟨B,hB⟩:∃ B,B=imG (grpK m b.ts):=⟨_,rfl⟩;have ad:B.cells=[B]:=by rw[hB];rfl
 have ae:B.one=true:=by rw[hB];rfl
 simp only[<-hB]at T⊢;rw[<-qhU]at hY⊢;generalize hF:(fun s=>((getK (s % n) (grpK m b.ts)).getD []).map fun t=>s / n*m+t)=F at *
 have a6:∀ s,F s=((getK (s % n) (grpK m b.ts)).getD []).map fun t=>s / n*m+t:=fun s=>by rw[<-hF]
 simp[go_sem];refine fZ a.ts.length (fun k U=>U.tm 0 = .yl i/\U.tm 2 = .ip [B]/\U.tm 3 = .ip [aI n]/\U.tm 4 = .ip [aI m]/\U.tm 11=lI a.ts/\U.tm 12=aI a.ts.length/\U.tm 13=aI k/\I ((a.ts.take k).flatMap F).length U.mu) ?_ ?_
 .exact ⟨zSi,by simp[go_sem,hB],zSi,zSi,zSi,zSi,zSi,zVs h0⟩
 rintro k U hk ⟨e0,e2,e3,e4,a0,p,C,R⟩;by_cases l:k<a.ts.length
 .have w1:=zWk k
  obtain⟨v0,v1⟩:=ha _ (qq l);have d1:a.ts[k].tdiv n=a.ts[k] / n:=Int.tdiv_eq_ediv_of_nonneg v0;have d2:a.ts[k].tmod n=a.ts[k] % n:=uZ v0;have q0:0<=a.ts[k] / n:=Int.ediv_nonneg v0 zOm;have q1:a.ts[k] / n<=a.ts[k]:=Int.ediv_le_self _ v0;have w2:qj.wrap (a.ts[k] / n)=a.ts[k] / n:=zWr;have a1:¬n=0:=zOm;obtain⟨f,J⟩:=T U.mu (a.ts[k] % n);have a7:((getK (a.ts[k] % n) (grpK m b.ts)).getD []).length<=1000000/\∀ t,t∈(getK (a.ts[k] % n) (grpK m b.ts)).getD []->0<=t/\t<m:=by
   have:=VO m b.ts b.ts.length (qh _) (a.ts[k] % n);rw[zi]at this;rw[this];refine⟨by rw[yB];exact zM (List.length_filter_le _ _) a5,fun t ht=>?_⟩;obtain⟨u,_,rfl⟩:=qn.1 ht;exact⟨Int.emod_nonneg _ zOm,Int.emod_lt_of_pos _ hm⟩
  have a2:=a6 a.ts[k];generalize (getK (a.ts[k] % n) (grpK m b.ts)).getD []=L at *
  obtain⟨m0,m1⟩:=WX (x:=1000000) (y:=8000) q0 zOm (by omega:0<=m) a4 zOm;have w3:qj.wrap (a.ts[k] / n*m)=a.ts[k] / n*m:=zWr;simp[go_sem,a0,p,C,l];refine tN zKr ?_;simp[go_sem,e2,e3,a1,d2,J];refine fZ L.length (fun j U=>U.tm 0 = .yl i/\U.tm 2 = .ip [B]/\U.tm 3 = .ip [aI n]/\U.tm 4 = .ip [aI m]/\U.tm 7=aI a.ts[k]/\U.tm 11=lI a.ts/\U.tm 12=aI a.ts.length/\U.tm 13=aI k/\U.tm 21 = .lst f (L.map rI)/\U.tm 22=aI L.length/\U.tm 23=aI j/\I (((a.ts.take k).flatMap F).length+j) U.mu) ?_ ?_
  .exact ⟨zS1 e0,zS1 e2,zS1 e3,zS1 e4,zSi,zS1 a0,zS1 p,zS1 C,zSi,zSi,zSi,zVs R⟩
  rintro j U hj ⟨f0,f2,f3,f4,f7,f11,f12,f13,f21,f22,f23,R⟩;by_cases g:j<L.length
  .have w4:=zWk j
   obtain⟨u0,u1⟩:=a7.2 _ (qq g);have w5:qj.wrap (a.ts[k] / n*m+L[j])=a.ts[k] / n*m+L[j]:=zWr;have a3:((a.ts.flatMap F).map fun t=>[aI t])[((a.ts.take k).flatMap F).length+j]?=some [aI (a.ts[k] / n*m+L[j])]:=by
    rw[zB,qh7 F l (x:=a.ts[k] / n*m+L[j]) (by rw[a2,zB,qC g];rfl)];rfl
   simp[go_sem,f21,f22,f23,g];refine qe.tail 8 zKr ?_;simp[go_sem,f0,f3,f4,f7,a1,d1,w2,w3,w5];refine qc.yield (hY _ _ _ a3 R) ?_;rintro b o (⟨rfl,a8⟩|⟨rfl,a9⟩)
   .simp [go_sem,f23,g,w4]
    exact aK ⟨zS1 f0,zS1 f2,zS1 f3,zS1 f4,zS1 f7,zS1 f11,zS1 f12,zS1 f13,zS1 f21,zS1 f22,zSi,a8⟩
   .simp [go_sem]
    exact .inr a9
  .have P:j=L.length:=by omega
   subst P;simp[go_sem,f13,f22,f23,w1];refine⟨l,aK ⟨zS1 f0,zS1 f2,zS1 f3,zS1 f4,zS1 f11,zS1 f12,zSi,?_⟩⟩;rw[jy l,List.flatMap_append,qZ];simpa[go_sem,a2] using R
 .have P:k=a.ts.length:=by omega
  subst P;rw[zi]at R;simp[go_sem,p,C];exact .inl (by simpa[List.length_flatMap] using R)
end EU
namespace EC
open E1 E2
theorem gT(n):powI n 2=n*n:=by
 have:=uH (n:=n) (i:=1) (j:=1) zOm zOm zOm;rw[uI]at this;exact this
theorem qh9(a b t):t∈(unR a b).ts↔t∈a.ts\/t∈b.ts:=by
 have:=(YT (a.ts++b.ts)).2 t;rw[qL]at this;exact this
theorem qiA{l m}(o:zr l)(I:zr m)(J:∀ t,t∈l->t∈m)(e:m.length=l.length):∀ t,t∈m->t∈l:=fun t p =>
 Classical.byContradiction fun C=>by
  have:=yY (l₁:=t :: l) (l₂:=m) (List.nodup_cons.2 ⟨C,Zg o⟩) fun x j=>by
   rcases qs.1 j with rfl|j
   .exact p
   grind
  simp at this;omega
end EC
namespace EY
open E1 E2 E3 EO EP EQ ET EW EU EC
def GatM(mu:Mu)(l:List Int):Prop:=∃ i,mu[0]?=some (.arr [aI 0,.lst true []])/\mu[1]?=some (.arr [i])/\OwnI mu i l/\qw i≠some 0/\qw i≠some 1
theorem GatM.step{mu mu':Mu}{av g l}(I:mu[0]?=some (.arr [aI 0,.lst true []]))(j:mu[1]?=some (.arr [av]))(n0:qw av≠some 0)(J:qw av≠some 1)(o:OwnI mu' g l)
  (P:∀ i,i<mu.length->qw av≠some i->mu'[i]?=mu[i]?) (R:mu.length<=mu'.length) (T:∀ b,qw g=some b->b=mu.length):mu'[1]?=some (.arr [av])/\GatM (mu'.set 1 (.arr [g])) l:=by
 have U:1<mu.length:=(qg.1 j).1;have p:qw g≠some 0:=fun e=>by grind
 have t:qw g≠some 1:=fun e=>by grind
 refine⟨by grind,g,by grind,by grind,o.same fun b C=>?_,p,t⟩
 grind
theorem GatM.push{mu l}(h:GatM mu l):GatM (mu++[.dead]) l:=by
 obtain⟨i,p,g1,g,n0,j⟩:=h;exact⟨i,by grind,by grind,g.same fun b o=>by rw[qB (g.v.lt o)],n0,j⟩
theorem GR.none{n}(h:n=0){a}(g:GR n a):a.ts=[]:=by
 cases i:a.ts with
 |nil=>rfl
 |cons t l =>
  exfalso;obtain⟨v0,v1⟩:=g.val t (by rw[i];simp);have o:=g.ar1;rw[uG zOm g.ar3,h]at v1;have:(0:Int) ^ a.ar.toNat=0:=by
   obtain⟨k,j⟩:∃ k,a.ar.toNat=k+1:=⟨a.ar.toNat-1,zOm⟩;rw[j,Int.pow_succ,Int.mul_zero]
  omega
theorem qiB(n m x y):(joL n m x y).length<=x.length*y.length:=by
 induction x with
 |nil=>simp[joL]
 |cons s x g =>
  simp only[joL,uj,qZ,yB,yh]at g⊢;have:=List.length_filter_le (fun t=>decide (t / m=s % n)) y;rw[Nat.add_mul];omega
theorem uD(n)(p:0<=n)(ah:n<=12)(a b)(I:GR n a)(C:GR n b)(hs:a.ar+b.ar<=5->a.ts.length*b.ts.length<=1000000):qd qb 96 [aI n,eRel a,eRel b] (match vV n a b with | .ok r => .tup [eRel r,aI 0] | .error e => .tup [eRel ⟨0,[]⟩,aI e]):=by
 refine qSV call96 func96 rfl ?_;have a1:=I.ar1;have a3:=I.ar3;have b1:=C.ar1;have b3:=C.ar3;have la:=I.len p zOm;have lb:=C.len p zOm;have w0:qj.wrap (a.ar+b.ar)=a.ar+b.ar:=zWr;have w1:qj.wrap (a.ar+b.ar-2)=a.ar+b.ar-2:=zWr;unfold vV;by_cases a0:1<=a.ar+b.ar-2
 case neg =>
  have P:a.ar+b.ar-2<1:=zOm;rw[zIn];simp_all[go_sem,ZW,VP]
 by_cases a2:a.ar+b.ar-2<=3
 case neg =>
  have P:¬a.ar+b.ar-2<1:=zOm;have g:3<a.ar+b.ar-2:=zOm;rw[zIn];simp[go_sem,w0,w1,P,g];exact ZW VP
 have P:¬a.ar+b.ar-2<1:=zOm;have g:¬ 3<a.ar+b.ar-2:=zOm;rw[if_pos ⟨a0,a2⟩];by_cases hz:n=0
 .have e:joR n a b=⟨a.ar+b.ar-2,[]⟩:=by
   unfold joR;rw[GR.none hz I];rfl
  simp[go_sem,w0,w1,P,g,hz]
  grind [ZW,VP]
 have ai:1<=n:=zOm;have w2:qj.wrap (b.ar-1)=b.ar-1:=zWr;have hp:0<powI n (b.ar-1):=Int.pow_pos zOm;obtain⟨p0,p1⟩:=ZT (k:=b.ar-1) p (by omega:n<=20);obtain⟨q0,q1⟩:=ZT (k:=b.ar) p (by omega:n<=20);obtain⟨r0,r1⟩:=ZT (k:=a.ar) p (by omega:n<=20);have a4:∀ t,t∈a.ts->0<=t/\t<=1000000:=fun t R=>zW1 (I.val t R)
 have a5:∀ t,t∈b.ts->0<=t/\t<=1000000:=fun t R=>zW1 (C.val t R)
 have a6:=gP n p zOm (b.ar-1) zOm zOm;have hJ:joR n a b=⟨a.ar+b.ar-2,ofL (joL n (powI n (b.ar-1)) a.ts b.ts)⟩:=rfl;have aj:=qiB n (powI n (b.ar-1)) a.ts b.ts;have hs:=hs zOm;have a7:=qh6 n (powI n (b.ar-1)) hp p1 a b a5 zOm;have a8:=qh8 n (powI n (b.ar-1)) zOm zOm hp p1 a b a4 zOm zOm;have a9:WKs [aI n,aI (powI n (b.ar-1)),eRel a,eRel b] [aI n,aI (powI n (b.ar-1)),eRel a,eRel b] := .zs (.zs (.zk (qt a) (.zk (qt b) .nil)));simp only[hJ];generalize powI n (b.ar-1)=m at *
 generalize joL n m a.ts b.ts=J at *
 simp[go_sem,w0,w1,P,g,hz];refine tN zKr ?_;simp[go_sem,w2];refine fB a6 (.zs (.zs .nil)) ?_;refine fB a7 a9 ?_;refine tU a8 (fun j M=>GatM M (J.take j)) (fun _ _=>False) ?_ ?_ ?_ ?_ ?_ ?_
 .exact ⟨.lst true [],zSi,zSi,.inl ⟨rfl,rfl⟩,by simp[qw],by simp[qw]⟩
 .exact fun j M h=>h.push
 .grind
 .rintro j x M hj ⟨i,g0,g1,ho,n0,n1⟩
  rw[zB,vH]at hj;obtain⟨t,R,rfl⟩:=hj;obtain⟨ag,ak⟩:=qg.1 R;refine⟨rfl,?_⟩;simp[go_sem,g1];refine aR (e:=3) (bt:=8) (z:=0) zSi zSi zSi zOm ho.v zSo ?_;intro al o l aa ab ad;obtain⟨k1,k2⟩:=GatM.step g0 g1 n0 n1 l aa ab ad;simp[go_sem,k1,l.v.one,l.v.cells]
  grind [tH,jy]
 .rintro M ⟨i,g0,g1,ho,n0,n1⟩
  rw[yB,zi]at ho;simp[go_sem,g1];refine fL (WW M _ i J zOm ho) ?_ ?_
  .rintro r m' ⟨x,h,T,ae,an,af⟩
   cases h;have h1:=ae 0 (qg.1 g0).1 n0;rw[g0]at h1;have U:∀ c,(m'.set 0 c)[0]?=some c:=fun c=>qv (qg.1 h1).1
   have hx:qw x≠some 0:=fun h=>n0 (af _ h)
   simp[go_sem,h1,U,T.one];refine ZW (r:=⟨a.ar+b.ar-2,ofL J⟩) (aX (T.same fun b C=>?_));rw[zA (fun e=>hx (by rw[e];exact C))]
  grind
 grind
theorem qiC(p)(I:p.length<=1000000000):qd qb 155 [lI p] (lI p):=by
 refine qSV call155 func155 rfl ?_;cases p with
 |nil =>
  simp[go_sem,lI];refine⟨.wk _ true _ (.hf _ (HF.lst (full:=true) (xs:=[]) fun r t=>by simp at t)),?_⟩;refine aG (e:=3) (bt:=8) (z:=0) (l:=[]) (ys:=[]) zSi zSi zSi zOm (.inl ⟨rfl,rfl⟩) (by simp[qE]) zSp ?_;intro i o g _ _ _;simp[go_sem];exact g.v.rd
 |cons x l =>
  simp[go_sem,lI];refine aG (e:=3) (bt:=8) (z:=0) (l:=[]) (ys:=x :: l) zSi zSi zSi zOm (.inl ⟨rfl,rfl⟩) (by simp[qE]) (by grind) ?_;intro i o g _ _ _;simp[go_sem];exact g.v.rd
theorem VR{n}(j:0<=n)(i:n<=12){a}(g:GR n a)(l:a.ar=2):a.ts.length<=144:=by
 have e:=gT n;have p:n*n<=12*12:=yX i i j zOm;exact YY g.srt fun t o=>by have:=g.val t o;rw[l,e]at this;omega
theorem qiD{a b}(g:zr a.ts):a.ts.length<=(unR a b).ts.length:=by
 refine yY (Zg g) fun x i=>?_
 exact(YT (a.ts++b.ts)).2 x |>.2 (yQ _ i)
theorem wkJ(n a b):WKs [aI n,eRel a,eRel b] [aI n,eRel a,eRel b] := .zs (.zk (qt a) (.zk (qt b) .nil))
theorem wkR2(a b):WKs [eRel a,eRel b] [eRel a,eRel b] := .zk (qt a) (.zk (qt b) .nil)
theorem gU(n)(l:0<=n)(g:n<=12)(a)(ha:GR n a)(J:a.ar=2):qd qb 88 [aI n,eRel a] (eRel (clR n 200 a)):=by
 refine qSV call88 func88 rfl ?_;have a0:=VR l g ha J;simp[go_sem];refine fB (qiC a.ts zOm) (.zk (zy _) .nil) ?_;refine tW (fun m o=>∃ c,m=145-c.ts.length/\GR n c/\c.ar=2/\(∃ f,145<=f+c.ts.length/\clR n f c=clR n 200 a)/\o.tm 0=aI n/\o.tm 4 = .ptr 0 0/\o.tm 5 = .ptr 1 0/\∃ i,o.mu = .arr [aI 0,.lst true []] :: .arr (cRel c) :: i) (145-a.ts.length) ?_ ?_
 .exact ⟨a,rfl,ha,J,⟨200,zOm,rfl⟩,zSi,zSi,zSi,[],zS1 J⟩
 rintro m o ⟨c,rfl,gc,c2,⟨f,hf,j⟩,e0,e4,p,i,hm⟩;have t:=VR l g gc c2;have gj:=GR.join l gc gc zOm zOm;have gu:=aC gc gj (by show c.ar=c.ar+c.ar-2;omega);have a1:=VR l g gu c2;have a2:=qiD (b:=joR n c c) gc.srt;have hj:=uD n l g c c gc gc fun _=>zM (Nat.mul_le_mul t t) zOm
 have P:vV n c c = .ok (joR n c c):=by simp_all[vV,if_pos]
 rw[P]at hj;have a3:=VR l g gj (by show c.ar+c.ar-2=2;omega);have hu:=jz c (joR n c c) zOm zOm;simp[go_sem,e0,p,hm];refine tR hj (wkJ n c c) ?_;simp[go_sem,p];refine tR hu (wkR2 c (joR n c c)) ?_;generalize R:unR c (joR n c c)=U at *
 by_cases I:U.ts.length=c.ts.length
 .have hr:clR n 200 a=c:=by
   rw[<-j];cases f with
   |zero=>omega
   |succ f=>rw[clR,R,if_pos I]
  rw[hr];simp[go_sem,e4,p,I];exact .hf _ (qt c)
 .have C:∃ f,145<=f+U.ts.length/\clR n f U=clR n 200 a:=by
   cases f with
   |zero=>omega
   |succ f =>
    rw[clR,R,if_neg I]at j;exact⟨f,zOm,j⟩
  have T:U.ar=2:=by rw[<-R];exact c2
  simp[go_sem,p,I];exact Keep.loop (145-U.ts.length) zOm ⟨U,rfl,gu,T,C,zS1 e0,zS1 e4,zS1 p,_,by simp[go_sem];rfl⟩
end EY
namespace GD
theorem uE(xs:List Int):(xs.map rI).flatten=xs.map aI:=by
 induction xs with
 |nil=>rfl
 |cons x xs g=>simp[g]
end GD
namespace EZ
end EZ
namespace F2
end F2
namespace F3
open E1 E2 EL EY
theorem aY{n}(p:0<=n)(l:n<=12){a b}(I:GR n a)(J:GR n b)(h:a.ar+b.ar<=5):a.ts.length*b.ts.length<=1000000:=by
 have key:∀{c:Rl},GR n c->(c.ar=1->c.ts.length<=12)/\(c.ar=2->c.ts.length<=144)/\c.ts.length<=1728:=fun {c} g=>by
  have e2:n*n<=12*12:=yX l l p zOm;have a0:0<=n*n:=Int.mul_nonneg p p;have e3:n*n*n<=12*12*12:=yX e2 l p zOm;have P:powI n 1=n:=uI n;have R:powI n 2=n*n:=EC.gT n;have p3:powI n 3=n*n*n:=by
   have:=uH (n:=n) (i:=2) (j:=1) zOm zOm zOm;rw[P,R]at this;exact this
  have c1:=g.ar1;have c3:=g.ar3;refine⟨fun e=>YY g.srt fun t o=>?_,fun e=>YY g.srt fun t o=>?_,YY g.srt fun t o=>?_⟩
  .have:=g.val t o;rw[e,P]at this;omega
  .have:=g.val t o;rw[e,R]at this;omega
  .have hv:=g.val t o
   have:c.ar=1\/c.ar=2\/c.ar=3:=zOm;rcases this with e|e|e
   .grind
   .grind
   grind
 obtain⟨a1,a2,T⟩:=key I;obtain⟨b1,b2,U⟩:=key J;have:=I.ar1;have:=J.ar1;by_cases ea:a.ar=1
 .exact zM (Nat.mul_le_mul (a1 ea) U) zOm
 .by_cases eb:b.ar=1
  .exact zM (Nat.mul_le_mul T (b1 eb)) zOm
  .by_cases C:a.ar=2
   .exact zM (Nat.mul_le_mul (a2 C) U) zOm
   .exact zM (Nat.mul_le_mul T (b2 zOm)) zOm
theorem gV(n)(g:0<=n)(i:n<=12):qd qb 83 [aI n] (eRel (idR n)):=by
 have:=idenU n.toNat zOm;rw[show ((n.toNat:Nat):Int)=n by omega]at this;exact this
end F3
namespace F4
open E3 EO EQ F1
section
variable {av:AV}{xs:List (List AV)}{mu:Mu}
theorem Own.one{sz}(h:Own mu sz av xs):av.one=true:=by
 rcases h with rfl|⟨b,rfl,_⟩<;>rfl
theorem Own.cells{sz}(h:Own mu sz av xs):av.cells=[av]:=by
 rcases h with rfl|⟨b,rfl,_⟩<;>rfl
theorem Own.push{sz}(h:Own mu sz av xs)(c:List Cell):Own (mu++c) sz av xs:=by
 rcases h with rfl|⟨b,rfl,g⟩
 .exact .inl rfl
 .exact .inr ⟨b,rfl,by grind⟩
theorem aH{P}{t g e sz bt:Nat}{s x ys zv K}(T:qF P t=some (e,sz,bt))(j:(qF P g).isSome=true)(U:qy P e=some zv)
  (l:zv.cells.length=sz) (o:zv.cells.all AV.one=true) (p:sz≠0) (hb:bt<=16384) (ho:Own mu sz s xs) (hx:qE mu x=some ys) (J:qW sz xs) (wy:qW sz ys) (R:xs.length+ys.length<=4294967296)
  (k:∀ av mu',Own mu' sz av (xs++ys)->(∀ i,i<mu.length->qw s≠some i->mu'[i]?=mu[i]?)->(∀ b,qw av=some b->b=mu.length)->mu.length<=mu'.length->K av mu'):qu P mu #[t,g] s x K:=by
 refine .inl ?_;refine⟨t,g,e,sz,bt,ys,rfl,T,j,⟨zv,U,l,o⟩,p,hb,hx,wy,?_⟩;rcases ho with rfl|⟨b,rfl,hc⟩
 .refine .inl ⟨xs,rfl,J,R,fun h=>?_,fun h=>?_⟩
  .subst h
   exact k _ _ (.inl zSp) (fun _ _ _=>rfl) (fun b h=>by cases h) (qh _)
  .refine k _ _ (.inr ⟨mu.length,zSp,zSp⟩) (fun i C _=>?_) (fun b h=>by cases h;rfl) zSp
   rw[qB C]
 .have a0:=yD J.ok
  refine .inr ⟨b,xs.length,xs.flatten,rfl,hc,zOm,R,?_⟩;have a1:xs.flatten.take (xs.length*sz)=xs.flatten:=yr zOm;refine k _ _ (.inr ⟨mu.length,zSp,?_⟩) (fun i C I=>?_) (fun b h=>by cases h;rfl) zSp
  .grind
  .rw [qB (zUs C)]
   rw[zA (fun e=>I (by rw[e];rfl))]
def endL:XE (List Bool)->AEnd
 | .ok l => .ret (lB l)
 | .error e => .pan (errV e)
@[go_sem] theorem endL_ok(l):endL (.ok l) = .ret (lB l):=rfl
@[go_sem] theorem endL_err(e):endL (.error e) = .pan (errV e):=rfl
end
end F4
namespace F5
end F5
namespace F6
open EO EW
theorem qiE(sc)(i:Nat):tupR sc [(i:Int)] 0=(qp (gI sc.sC i).toNat).map fun k:Nat=>sumI (sc.sC.take i)+k:=by
 rw[tupR];simp only[tupR,Int.zero_mul,Int.zero_add,show (i:Int).toNat=i by omega];exact List.map_eq_flatMap.symm
def bR:Nat->Int
 | 0=>0
 |k+1=>bR k*20+20
theorem bR_ok:∀ k,k<=3->bR k<=100000
 | 0,_=>zDe
 | 1,_=>zDe
 | 2,_=>zDe
 | 3,_=>zDe
def vA(n:Int)(tuple:List Int):Int:=tuple.foldl (fun o t=>o*n+t) 0
theorem qiF(n)(tuple:List Int)(k h):vA n (tuple.take (k+1))=vA n (tuple.take k)*n+tuple[k]:=by
 rw[List.take_add_one,qC h,vA,vA,ul];rfl
theorem rankU(sc)(g:GSc sc)(tuple)(ht:tuple.length<=3)(hd:∀ d,d∈tuple->0<=d/\d<sumI sc.sC):qd qb 225 [eSc sc,lI tuple] (aI (vA (sumI sc.sC) tuple)):=by
 refine qSV call225 func225 rfl ?_;simp[go_sem,show ¬(3:Int)<tuple.length by omega];refine tR (Zk sc g) (.zk (zp sc) .nil) ?_;have o:=g.sum sc.sC.length;rw[zi]at o;generalize sumI sc.sC=n at *
 simp[go_sem];refine qi.up tuple.length (fun k U=>U.tm 5=aI n/\U.tm 14=lI tuple/\U.tm 15=aI tuple.length/\U.tm 6=aI (vA n (tuple.take k))/\U.tm 16=aI k/\U.mu=[]/\0<=vA n (tuple.take k)/\vA n (tuple.take k)<=bR k) ?_ ?_
 .simp [go_sem,vA,bR]
 rintro k U hk ⟨P,p,j,R,l,T,t,C⟩;by_cases i:k<tuple.length
 .have I:=hd _ (qq i)
  have hs:=qiF n tuple k i;have hb:=bR_ok k zOm;have a0:bR (k+1)=bR k*20+20:=rfl;generalize a1:vA n (tuple.take k)=r at *
  have m0:0<=r*n:=Int.mul_nonneg t zOm;have m1:r*n<=bR k*20:=yX C zOm zOm zOm;have hw:qj.wrap (n-1)=n-1:=zWr;simp[go_sem,P,p,j,l,T,i,hw];refine tR (VQ tuple[k] 0 (n-1)) (.zs (.zs (.zs .nil))) ?_;simp[go_sem,P,p,j,R,l,i,I.1,show tuple[k]<=n-1 by omega];rw[hs,zS (n:=r*n) zOm zOm,zS (n:=r*n+tuple[k]) zOm zOm,zS (n:=(k:Int)+1) zOm zOm];omega
 .have J:k=tuple.length:=by omega
  subst J;simp[go_sem,j,R,l,T];exact .zsc _
theorem aV{full}(l):WK (.lst full (l.map rI)) (lI l):=WK.lst fun r g c i=>by
 obtain⟨n,_,rfl⟩:=qn.1 g
 grind [HF.sc]
end F6
namespace F7
end F7
namespace F8
end F8
namespace E8
end E8
namespace EB
end EB
namespace EK
end EK
namespace F9
end F9
namespace FA
end FA
namespace FB
end FB
namespace FC
end FC
namespace E9
open P1 YF E1
theorem gW(sc)(g:GSc sc):qd qb 32 [eSc sc] (aI (sumI sc.sC)):=by
 refine qSU call32 func32 rfl ?_;refine qi.up sc.sC.length (fun k U=>U.tm 1 = .ip [lI sc.sC,aI sc.sN]/\U.tm 3=aI (sumI (sc.sC.take k))/\U.tm 4=aI k/\U.mu=[]) ?_ ?_
 .simp [go_sem,sumI]
 rintro k U J ⟨o,p,t,C⟩;have P:=g.1;simp[go_sem,o,t,C];refine tG (fun i=>?_) (fun j=>?_)
 .have i:k<sc.sC.length:=by simpa using i
  have I:=wR sc.sC k i;have l:=g.sum (k+1);rw[I]at l;simp[go_sem,o,p,t,i]
  grind [zS]
 .have j:k=sc.sC.length:=by simp at j;omega
  subst j;simp[go_sem,p];exact .zsc _
def vd:List Int->Int->Int->Int
 | [],_,_ => -1
 |a :: l,x,i=>if x<a then i else vd l (x-a) (i+1)
def ve(sc:Sc)(x:Int):Int:=vd sc.sC x 0
theorem gX(l:List Int)(k x i h):vd (l.drop k) x i=if x<l[k] then i else vd (l.drop (k+1)) (x-l[k]) (i+1):=by
 rw[qY h,vd]
def jk(g:Sp)(sc:Sc):Bool:=decide (sc.sC.length=g.sS.length)&&decide (g.sS.length<=4)&&decide (1<=sc.sN)&&decide (sc.sN<=4)&&sc.sC.all (fun a=>decide (1<=a)&&decide (a<=5))&&decide (sumI sc.sC<=12)
theorem qiG(p sc)(I:sc.sC.length<=9223372036854775807):qd qb 31 [eSp p,eSc sc] (aB (jk p sc)):=by
 refine qSV call31 func31 rfl ?_;by_cases t:sc.sC.length=p.sS.length
 case neg =>
  simp[go_sem,t,jk];exact .zsc _
 by_cases o:(4:Int)<p.sS.length
 case pos =>
  simp[go_sem,t,o,jk,show ¬p.sS.length<=4 by omega];exact .zsc _
 by_cases h3:sc.sN<1
 case pos =>
  simp[go_sem,t,o,h3,jk,show ¬ 1<=sc.sN by omega];exact .zsc _
 by_cases h4:4<sc.sN
 case pos =>
  simp[go_sem,t,o,h3,h4,jk,show ¬sc.sN<=4 by omega];exact .zsc _
 simp[go_sem,t,o,h3,h4];refine qi.up sc.sC.length (fun k U=>U.tm 3 = .ip [lI sc.sC,aI sc.sN]/\U.tm 5=aI k/\U.mu=[]/\∀(i:Nat)(h:i<sc.sC.length),i<k->1<=sc.sC[i]/\sc.sC[i]<=5) ?_ ?_
 .simp [go_sem]
 rintro k U hk ⟨J,P,R,he⟩;by_cases l:k<sc.sC.length
 .by_cases hb:sc.sC[k]<1\/5<sc.sC[k]
  .have:sc.sC.all (fun a=>decide (1<=a)&&decide (a<=5))=false:=by
    rw[<-Bool.not_eq_true,qR];intro j;have:=j _ (qq l);simp at this;omega
   have:jk p sc=false:=by simp only[jk,this,Bool.and_false,Bool.false_and]
   rw[this];by_cases C:sc.sC[k]<1
   .simp [go_sem,J,P,R,l,C]
    exact .zsc _
   .simp [go_sem,J,P,R,l,C,show 5<sc.sC[k] by omega]
    exact .zsc _
  .simp [go_sem,J,P,R,l,show ¬sc.sC[k]<1 by omega,show ¬ 5<sc.sC[k] by omega]
   refine⟨zWr,fun i h T=>?_⟩;rcases JQ.1 T with o|o
   .exact he i h o
   .subst o;exact⟨zOm,zOm⟩
 .have a0:k=sc.sC.length:=by omega
  subst a0;have j:sc.sC.all (fun a=>decide (1<=a)&&decide (a<=5))=true:=by
   rw[qR];intro a I;obtain⟨i,T,rfl⟩:=JO I;have:=he i T T;simp;omega
  have g:GSc sc:=⟨zOm,fun a I=>by
   have:=qR.1 j a I;simp at this;omega⟩
  simp[go_sem,J,P,R];refine fB (gW sc g) (.zk (zp sc) .nil) ?_;simp only[jk,t,j,show p.sS.length<=4 by omega,show 1<=sc.sN by omega,show sc.sN<=4 by omega];simp;exact .zsc _
def divN(n x:Int):Nat->Int
 | 0=>x
 |j+1=>divN n x j / n
theorem qsB{n r}(h:jb n r=true):∀ t,t∈r.ts->0<=t/\t<=1000000:=by
 intro t g;simp only[jb,qx,decide_eq_true_eq,qR]at h;obtain⟨⟨⟨⟨⟨i,o⟩,p⟩,C⟩,j⟩,_⟩:=h;have l:=j t g;have I:=ZS i zOm (powN r.ar) (by unfold powN;omega);unfold powI at l;omega
theorem Ji{g sc}(h:jk g sc=true):GSc sc:=by
 simp only[jk,qx,decide_eq_true_eq,qR]at h;obtain⟨⟨⟨⟨⟨i,j⟩,l⟩,o⟩,p⟩,_⟩:=h;exact⟨zOm,fun a t=>by grind⟩
def spOf(ts:TS):Sp:=⟨ts.sS,ts.sA,ts.sT.map cPd,ts.sP.map cFa,wA ts.sT,YR ts.sP⟩
end E9
namespace Y13
open Y1 Y2 Y3 P1 YM Y5 Y6 Y7 YF Y9 Y10 Y11 Y12 P2
theorem qiH(p n):qd qb 206 [.agg (cPd p),.ip (cNd n)] (aB (decide (p.name=n.name))):=by
 refine qSV call206 func206 rfl ?_;simp[go_sem,jj];exact .zsc _
def vW(c:Ck)(s:Scp)(n:Nd):Res:=
 if (c.ts.sT.any fun p=>decide (p.name=n.name))=true then
  match zd c n.name with
  |none => .error (45,n.pos)
  |some p=>match c.ts.sT[p]? with
   |none => .error (45,n.pos)
   |some g=>if g.params.length=n.sD.length then zz c s n.pos g.params n.sD else .error (45,n.pos)
 else .error (40,n.pos)
def endC:Res->AEnd
 | .ok _ => .ret (.tup [])
 | .error e => .pan (y9 e.1 e.2)
@[go_sem] theorem endC_ok(k):endC (.ok k) = .ret (.tup []):=rfl
@[go_sem] theorem qsC(e):endC (.error e) = .pan (y9 e.1 e.2):=rfl
theorem Jj(n):HF (.ip (cNd n)):=HF.ip (yK n)
theorem hf_t0:HF (.tup []):=HF.tup zSp
theorem callU(c)(hc:okCk c)(s)(hs:ScOk c.ts.sS.length s)(n)(hw:WfN n)(az:n.op=47)
  (ih:∀ k,k∈n.sD->ju qb 72 [eCk c,aSc s,eNd k,aB true] (endK (exam c s true k))) :
  ju qb 144 [eCk c,aSc s,eNd n] (endC (vW c s n)):=by
 refine jK.of_sound ?_;refine qSW call144 func144 rfl {} ?_;have b0:=hc.ts.np;have b1:=hw.len;have J:=hasPd false c.ts.sT (.fn (.func 206) [] [.ip (cNd n)]) (fun p=>decide (p.name=n.name)) ⟨_,_,_,rfl,fun p hp=>⟨_,qiH p n,.zk (HF.agg (VD p)) (.zk (Jj n) .nil)⟩⟩ (HF.fn zSp (fun x hx=>by grind [Jj])) (wA _) zOm;have a7:WKs [lPd c.ts.sT,.fn (.func 206) [] [.ip (cNd n)]] [lPd c.ts.sT,.fn (.func 206) [] [.ip (cNd n)]] := .zk (wA _) (.zk (HF.fn zSp (fun x hx=>by grind [Jj])) .nil);generalize P:vW c s n=R;unfold vW at P;simp[go_sem];cases hA:c.ts.sT.any (fun p=>decide (p.name=n.name)) with
 |false =>
  rw[hA]at J P;subst P;refine qe.tail 8 zKr ?_;simp[go_sem];refine fB J a7 ?_;refine fQ (zu false 40 n) (wkR n false 40) ?_;simp[go_sem];exact .hf _ (ye _ _)
 |true =>
  rw[hA]at J P;rw[if_pos rfl]at P;refine fD ?_;refine fB J a7 ?_;refine fB (zu true 40 n).toP (wkR n true 40) ?_;refine tR (pU c hc n.name) (.zk (yO c) (.zs .nil)) ?_;cases T:zd c n.name with
  |none =>
   rw[T]at P;subst P;simp[go_sem];refine qe.tail 19 zKr ?_;simp[go_sem];refine fQ (zu false 45 n) (wkR n false 45) ?_;simp[go_sem];exact .hf _ (ye _ _)
  |some p =>
   obtain⟨b2,a0⟩:=wZ hc T;have b3:=hc.ts.pl _ (qq a0);rw[T]at P;simp only[qC a0]at P;simp[go_sem];generalize a5:c.ts.sT[p]=j at *
   by_cases C:j.params.length=n.sD.length
   .rw [if_pos C]at P
    refine tN zKr ?_;simp[go_sem,a0,a5,C];refine tR (zu true 45 n).toP (wkR n true 45) ?_;simp[go_sem,a0,a5,C];have a8:=hw.shape;have ah:∀(k:Nat)(h:k<n.sD.length),kd n.sD[k].op=101:=by
     have e:shp n.op n.sD.length=some (qI (min n.sD.length 401) 101):=by
      simp_all[shp,if_neg,if_pos]
     rw[e]at a8;simp only[qm]at a8;intro k h;have h2:(n.sD.map fun k=>kd k.op)[k]?=some (kd n.sD[k].op):=by rw[zB,qC h];rfl
     grind
    refine fZ j.params.length (fun k U=>U.tm 0=eCk c/\U.tm 1=aSc s/\U.tm 5 = .ip (cNd n)/\U.tm 54=lPm j.params/\U.tm 55=aI n.sD.length/\U.tm 56=aI k/\zz c s n.pos (j.params.drop k) (n.sD.drop k)=R) ?_ ?_
    .simp [go_sem, *]
    .rintro k U hk ⟨e0,e1,e5,ai,a9,aa,I⟩
     by_cases ab:k=j.params.length
     .subst ab
      rw[zF,C,zF]at I;simp only[zz]at I;subst I;simp[go_sem,a9,aa,C];exact .hf _ hf_t0
     .have ad:k<j.params.length:=by omega
      have o:k<n.sD.length:=zOm;have w1:=zWk k;have hi:=ih n.sD[k] (qq o);rw[qY ad,qY o]at I;simp only[zz]at I;have aj:=jc hc (szN n.sD[k]) n.sD[k] s true;have ak:=ah k o;have ae:=hw.kid (qq o);simp[go_sem,e0,e1,e5,ai,a9,aa,ad,o];cases hx:exam c s true n.sD[k] with
      |error e =>
       rw[hx]at hi I;subst I;refine fQ hi (.zk (yO c) (.zk (uA s) (.zk (qz _) (.zs .nil)))) ?_;simp[go_sem];exact .hf _ (ye _ _)
      |ok ko =>
       obtain⟨kk,rfl,a2⟩:=aj ko (qh _) ae hs hx ak;rw[hx]at hi I;simp only at I;refine tR hi.toP (.zk (yO c) (.zk (uA s) (.zk (qz _) (.zs .nil)))) ?_;by_cases a1:kk.ar=1
       .rw [if_pos a1]at I
        simp[go_sem,e5,a1];refine fB (zu true 42 n).toP (wkR n true 42) ?_;refine qi.seen kk.ts.length (fun seen g=>g.tm 0=eCk c/\g.tm 1=aSc s/\g.tm 5 = .ip (cNd n)/\g.tm 54=lPm j.params/\g.tm 55=aI n.sD.length/\g.tm 56=aI k/\g.tm 9 = .ptr U.mu.length 0/\g.tm 76 = .ptr (U.mu.length+2) 0 /\
         g.mu[U.mu.length]?=some (.arr [aS j.params[k].1,aI j.params[k].2])/\g.mu[U.mu.length+2]?=some (.it (eT kk.ts) seen)/\∀ i t,i∈seen->kk.ts[i]?=some t->t.getD 0 0=j.params[k].2) ?_ ?_
        .simp [go_sem, *]
        .rintro seen g b4 ax ⟨f0,f1,f5,f54,f55,f56,f9,f76,g0,g2,ay⟩
         simp[go_sem,f76];refine⟨U.mu.length+2,eT kk.ts,seen,rfl,g2,fun i e hi al=>?_,fun an=>?_⟩
         .obtain ⟨x,a6,rfl⟩:=wU hi
          have ao:okT x:=a2.okK.len x (qN a6);have aq:i<kk.ts.length:=(qg.1 a6).1;have au:x.length=3:=ao;have av:x∈kk.ts:=qN a6;have a3:U.mu.length+2<g.mu.length:=(qg.1 g2).1;have a4:∀(c:Cell)(l:List Cell),((g.mu.set (U.mu.length+2) c)++l)[U.mu.length]?=some (.arr [aS j.params[k].1,aI j.params[k].2]):=fun c l=>by
           grind
          obtain⟨x0,x1,x2,rfl⟩:∃ x0 x1 x2,x=[x0,x1,x2]:=by
           match x,au with
           | [x0,x1,x2],_=>simp
          have ag:0<=x0/\x0<128:=by
           obtain⟨l,el,hl,hr⟩:=a2.ts _ av;rw[a1]at hl
           match l,hl with
           | [y],_ =>
            have:=hr y zSp;simp[pad]at el;have:=hc.ts.ns;omega
          have w8:qj.wrap x0=x0:=zWr;by_cases hq:x0=j.params[k].2
          .have w9:qj.wrap j.params[k].2=j.params[k].2:=by grind
           simp[go_sem,f5,f9,f76,hi,a3,a4,w9,hq];refine fB (zu true 43 n).toP (wkR n true 43) ?_;refine⟨i,aq,al,zS1 f0,zS1 f1,zS1 f5,zS1 f54,zS1 f55,zS1 f56,zS1 f9,zS1 f76,?_,?_,?_⟩
           .grind [qH]
           .grind [qH,qB,qv]
           grind
          .have af:vU j.params[k].2 kk=false:=by
            unfold vU;rw[<-Bool.not_eq_true,qR]
            grind
           rw[af]at I;simp only[Bool.false_eq_true,if_false]at I;subst I;simp[go_sem,f5,f9,f76,hi,a3,a4,w8,hq];refine fQ (zu false 43 n) (wkR n false 43) ?_;simp[go_sem];exact .hf _ (ye _ _)
         .have aw:vU j.params[k].2 kk=true:=by
           grind [vU,qR,List.mem_iff_getElem?,qg]
          simp_all[go_sem,if_pos,aK]
       .rw [if_neg a1]at I
        subst I;simp[go_sem,e5,a1];refine fQ (zu false 42 n) (wkR n false 42) ?_;simp[go_sem];exact .hf _ (ye _ _)
   .rw [if_neg C]at P
    subst P;refine qe.tail 19 zKr ?_;simp[go_sem,a0,a5,C];refine fQ (zu false 45 n) (wkR n false 45) ?_;simp[go_sem];exact .hf _ (ye _ _)
theorem VS{lo sz mu av xs}(h:OwnF lo mu sz av xs)(w:yR sz xs)(hf:∀ r,r∈xs->∀ c,c∈r->HF c):Rd (cutM (fun i=>decide (lo<=i)) mu 0) av (.lst false xs):=by
 obtain⟨g,j,o⟩:=h;refine Own.rd (sz:=sz) ?_ w hf;rcases g with rfl|⟨b,rfl,l⟩
 .exact .inl rfl
 .refine .inr ⟨b,rfl,?_⟩
  rw[vw,l];simp[j b _ _ _ rfl]
theorem qiI{c s n g}(h:vW c s n = .ok g):g=none:=by
 have j:∀(ks:List Nd)(i:List (tV×Int))(g:Option Kd),zz c s n.pos i ks = .ok g->g=none:=by
  intro ks;induction ks with
  |nil=>grind [zz]
  |cons k ks l =>
   intro i g h;cases i with
   |nil=>grind [zz]
   |cons p i =>
    grind [zz,absurd]
 unfold vW at h;split at h
 .grind
 grind
theorem appKo{mu lo s xs k K}(o:OwnF lo mu 2 s (xs.map cKo))(t:xs.length<=100000)(C:∀ av mu',OwnF lo mu' 2 av ((xs++[k]).map cKo)->(∀ i,i<lo->mu'[i]?=mu[i]?)->K av mu') :
  qu qb mu #[211,211] s (.lst true [cKo k]) K:=by
 have g:∀ l:List (Option Kd),qW 2 (l.map cKo):=fun l r p=>by
  obtain⟨n,_,rfl⟩:=qn.1 p;exact WO n
 refine qu.ownF (lo:=lo) (e:=125) (sz:=2) (bt:=16) (zv := .agg [aI 0,.sc (.map none)]) (xs:=xs.map cKo) (ys:=[cKo k]) zSi zSi zSi rfl rfl zOm zOm o (by simp[qE]) (g xs) (g [k]) zSo ?_
 grind
theorem W3(c)(hc:okCk c):∀ m n,szN n<=m->WfN n->∀ s,ScOk c.ts.sS.length s->∀ inn,ju qb 72 [eCk c,aSc s,eNd n,aB inn] (endK (exam c s inn n))
 | 0,n,hm,_,_,_,_=>by obtain⟨op,nm,i,ks,p⟩:=n;simp[szN]at hm
 |m+1,n,hm,hw,s,hs,inn=>by
  have ih:∀ k,k∈n.sD->∀ J,ScOk c.ts.sS.length J->∀ R,ju qb 72 [eCk c,aSc J,eNd k,aB R] (endK (exam c J R k)):=fun k hk J ad R =>
   W3 c hc m k (zW1 (q9 hk)) (hw.kid hk) J ad R
  refine jK.of_sound ?_;refine qSW call72 func72 rfl {} ?_;generalize g:exam c s inn n=E;rw[yn]at g;have a5:=pV c hc n;simp[go_sem];by_cases hT:(inn&&zE c n.op n.name)=true
  .rw [if_pos hT]at g
   subst g;rw[qx]at hT;obtain⟨rfl,hT⟩:=hT;rw[hT]at a5;refine qe.tail 9 zKr ?_;simp[go_sem];refine fB a5 (.zk (yO c) (.zk (qz n) .nil)) ?_;refine fQ (zu false 46 n) (wkR n false 46) ?_;simp[go_sem];exact .hf _ (ye _ _)
  rw[if_neg hT]at g;have ae:=uJ c hc s n;have a2:=fun h=>callU c hc s hs n hw h (fun k hk=>ih k hk s hs true)
  have a6:WKs [eCk c,aSc s,eNd n] [eCk c,aSc s,eNd n] := .zk (yO c) (.zk (uA s) (.zk (qz n) .nil));have T:∀(J:Scp)(k:Nd)(b:Bool),WKs [eCk c,aSc J,eNd k,aB b] [eCk c,aSc J,eNd k,aB b]:=fun J k b => .zk (yO c) (.zk (uA J) (.zk (qz k) (.zs .nil)))
  have a3:n.op=15\/n.op=45\/n.op=46->∃ a f,n.sD=[a,f]/\kd a.op=101:=fun ho=>by
   have I:=hw.shape;have e:shp n.op n.sD.length=some [101,102]:=by
    unfold shp;rw[zIn,zIn,zIn,if_pos zOm]
   rw[e]at I;simp only[qm]at I
   match hk:n.sD,I with
   | [a,f],I=>grind
   | [],I=>simp at I
   | [_],I=>simp at I
   |_ :: _ :: _ :: _,I=>simp at I
  cases inn
  case' false =>
   refine fD ?_;refine fB (zu true 46 n).toP (wkR n true 46) ?_
  case' true =>
   have ax:zE c n.op n.name=false:=zUs hT;rw[ax]at a5;refine fD ?_;refine fB a5 (.zk (yO c) (.zk (qz n) .nil)) ?_;refine fB (zu true 46 n).toP (wkR n true 46) ?_
  all_goals
   by_cases h1:n.op=1
   .rw [if_pos h1]at g
    rw[g]at ae;simp[go_sem,h1];cases E with
    |error e =>
     refine fQ ae a6 ?_;simp[go_sem];exact .hf _ (ye _ _)
    |ok ko =>
     refine tR ae.toP a6 ?_;cases ko with
     |none=>simp[go_sem];exact .hf _ hfKn
     |some k=>simp[go_sem];exact .hf _ (hfK2 _ _)
   rw[if_neg h1]at g;by_cases h47:n.op=47
   .rw [if_pos h47]at g
    have g:vW c s n=E:=g;have a2:=a2 h47;rw[g]at a2;simp[go_sem,h47];cases E with
    |error e =>
     refine fQ a2 a6 ?_;simp[go_sem];exact .hf _ (ye _ _)
    |ok ko =>
     obtain rfl:=qiI g;refine fB a2.toP a6 ?_;exact .hf _ hfKn
   rw[if_neg h47]at g;by_cases hb:n.op=15\/n.op=45\/n.op=46
   .rw [if_pos hb]at g
    obtain⟨a,f,a0,ha⟩:=a3 hb;rw[a0]at g;have al:∀ b r,exam c s b a=r->ju qb 72 [eCk c,aSc s,eNd a,aB b] (endK r):=fun b r h=>h ▸ ih a (by rw[a0];simp) s hs b
    have ay:∀ J,ScOk c.ts.sS.length J->∀ b r,exam c J b f=r->ju qb 72 [eCk c,aSc J,eNd f,aB b] (endK r):=fun J ad b r h=>h ▸ ih f (by rw[a0];simp) J ad b
    have a9:=jc hc (szN a) a s;have an:=hw.kid (k:=a) (by rw[a0];simp);rcases hb with h|h|h
    all_goals
     simp[go_sem,h,a0];simp only[h,zH,qK]at g;simp at g;split at g
     .rename_i e hx
      have hi:=al _ _ hx;subst g;refine fQ hi (T _ _ _) ?_;simp[go_sem];exact .hf _ (ye _ _)
     .rename_i hx
      obtain⟨q,hq,_⟩:=a9 _ _ (qh _) an hs hx ha;exact absurd hq zSp
     .rename_i k hx
      have hi:=al _ _ hx;obtain⟨q,hq,az⟩:=a9 _ _ (qh _) an hs hx ha;simp only[qm]at hq;subst hq;refine tR hi.toP (T _ _ _) ?_;by_cases a7:k.ar=1
      .rw [if_pos a7]at g
       obtain⟨ka,kt⟩:=k;obtain rfl:ka=1:=a7;simp[go_sem];refine fB (zu true 42 n).toP (wkR n true 42) ?_;have b0:ScOk c.ts.sS.length ((n.name,⟨1,kt⟩) :: s):=fun v P=>by
        rcases qs.1 P with rfl|P
        .exact ⟨az,rfl⟩
        .exact hs v P
       have ao:=ay _ b0;refine qe.tail 12 zKr ?_;simp[go_sem,a0];split at g
       .rename_i e a1
        split at a1
        .rename_i e' af
         simp only[Except.error.injEq]at a1;subst a1;subst g;have ag:=ao _ _ af;refine fQ ag (T ((n.name,⟨1,kt⟩) :: s) _ _) ?_;simp[go_sem];exact .hf _ (ye _ _)
        grind
       .rename_i l a1
        split at a1
        .exact absurd a1 zSp
        .rename_i a' af
         have ag:=ao _ _ af;subst g;refine fB ag.toP (T ((n.name,⟨1,kt⟩) :: s) _ _) ?_;exact .hf _ (hfK2 _ _)
      .rw [if_neg a7]at g
       subst g;simp[go_sem,a7];refine fQ (zu false 42 n) (wkR n false 42) ?_;simp[go_sem];exact .hf _ (ye _ _)
   .rw [if_neg hb]at g
    simp only[not_or]at hb;obtain⟨b1,b2,b3⟩:=hb;simp[go_sem,h1,h47,b1,b2,b3];have b4:=hw.len;generalize hB:(_||decide (n.op=12)||decide (n.op=13))=B at g;by_cases ah:n.op=12
    case' pos=>simp[go_sem,ah]
    case' neg =>
     by_cases ai:n.op=13
     case' pos=>simp[go_sem,ai]
     case' neg=>simp[go_sem,ah,ai]
    all_goals
     refine fZ n.sD.length (fun k U=>∃ C:List (Option Kd),C.length=k/\U.tm 0=eCk c/\U.tm 1=aSc s/\U.tm 3=aB B/\U.tm 6 = .ip (cNd n)/\U.tm 8 = .ptr 0 0/\U.tm 79=lNd n.sD/\U.tm 80=aI n.sD.length/\U.tm 81=aI k/\U.mu[0]?=some (.arr [aI 0,.sc (.map none)])/\OwnF 1 U.mu 2 (U.tm 10) (C.map cKo) /\
      qK c s B n.sD=(match qK c s B (n.sD.drop k) with | .error e => .error e | .ok l => .ok (C++l))) ?_ ?_
     .refine ⟨[],rfl,zSi,zSi,?_,zSi,zSi,zSi,zSi,zSi,zSi,?_,?_⟩
      .rw [<-hB];simp[go_sem,ah];try simp[ai]
      .simp [go_sem];exact OwnF.nil zSp
      .simp only[List.drop_zero,List.nil_append]
       cases qK c s B n.sD<;>rfl
     .rintro k U hk ⟨C,hl,e0,e1,e3,e6,e8,aq,aj,ak,m0,ho,t⟩
      by_cases a4:k=n.sD.length
      .rw [a4,zF]at t
       simp only[qK,zZ]at t;rw[t]at g;simp only at g;simp[go_sem,e0,e6,aj,ak,a4];have b5:ApOk n.op C:=(WS hc.ts.ns hw (by rw[hl,a4]) (fun i k' a hi ha b6=>jc hc (szN k') k' s B a (qh _) (hw.kid (qN hi)) hs ((Zj t).2 i k' a hi ha) b6)).1;have aa:=qg9 c hc false n C b5;rw[g]at aa;have au:∀ r,r∈C.map cKo->∀ c,c∈r->HF c:=fun r hr c b7=>by
        obtain⟨q,_,rfl⟩:=qn.1 hr;exact gh q c b7
       have b8:yR 2 (C.map cKo):=fun r hr=>by
        obtain⟨q,_,rfl⟩:=qn.1 hr;exact(WO q).1
       have g0:(cutM (fun i=>!decide (1<=i)) U.mu 0)[0]?=some (.arr [aI 0,.sc (.map none)]):=by rw[vw,m0];simp
       refine fL (qr.freeze (args1:=[eCk c,eNd n,.lst false (C.map cKo)]) (fun j=>decide (1<=j)) ⟨.inl rfl,.inl rfl,.inr (VS ho b8 au),trivial⟩ (aa.toSound _ (.zk (yO c) (.zk (qz n) (.zk (HF.lst au) .nil))))) ?_ ?_
       .rintro r m ⟨P,rfl⟩
        have P:AEnd.ret r=endK E:=P;cases E with
        |error e=>exact absurd P zSi
        |ok q =>
         simp[go_sem]at P;subst P;generalize cutM (fun i=>!decide (1<=i)) U.mu 0=M at g0;have bb:0<M.length:=(qg.1 g0).1;have ab:∀ c,(M.set 0 c)[0]?=some c:=fun c=>qv bb
         cases q with
         |none=>simp[go_sem,e8,g0,ab];exact .hf _ hfKn
         |some k=>simp[go_sem,e8,g0,ab];exact .hf _ (hfK2 _ _)
       .rintro r m ⟨P,rfl⟩
        have P:AEnd.pan r=endK E:=P;cases E with
        |ok q=>exact absurd P zSi
        |error e =>
         simp[go_sem]at P;subst P;simp[go_sem];exact .hf _ (ye _ _)
      .have a8:k<n.sD.length:=by omega
       have w1:=zWk k;rw[qY a8]at t;simp only[qK]at t;have hi:=ih n.sD[k] (qq a8) s hs B;simp[go_sem,e0,e1,e3,aq,aj,ak,a8];cases hx:exam c s B n.sD[k] with
       |error e =>
        rw[hx]at hi t;simp only at t;rw[t]at g;simp only at g;subst g;refine fQ hi (T s n.sD[k] B) ?_;simp[go_sem];exact .hf _ (ye _ _)
       |ok ko =>
        rw[hx]at hi t;simp only at t;refine tR hi.toP (T s n.sD[k] B) ?_;have aw:=WO ko;rw[qR]at aw;simp[go_sem];rw[if_pos aw];simp[go_sem];refine appKo (xs:=C) (k:=ko) (lo:=1) ⟨Ja ho.1 _,ho.2.1,by have:=ho.2.2;simp⟩ zOm fun av o bc be=>?_
        simp[go_sem,ak,w1];refine⟨a8,aK ?_⟩;refine⟨C++[ko],zP1 hl,zS1 e0,zS1 e1,zS1 e3,zS1 e6,zS1 e8,zS1 aq,zS1 aj,zSi,?_,zVs bc,?_⟩
        .simp only[qH]
         rw[be 0 zOm,qB (zW1 ho.2.2)];exact m0
        .rw [t]
         cases qK c s B (n.sD.drop (k+1)) with
         |error e=>rfl
         |ok l=>simp
end Y13
namespace Y14
open YF P1 P2 Y1 Y2 Y9 Y10 Y12 Y13
structure w7 (ns:Nat) (env:List (tV×Int)):Prop where
 len:env.length<=1000000
 r:∀ p,p∈env->0<=p.2/\p.2<ns
theorem Jk{ns env}(h:w7 ns env):ScOk ns (zq env):=by
 have:∀(l:List (tV×Int))(s:Scp),(∀ p,p∈l->0<=p.2/\p.2<(ns:Int))->ScOk ns s->ScOk ns (l.foldl (fun s p=>(p.1,kOf [p.2]) :: s) s):=by
  intro l;induction l with
  |nil=>intro s _ i;exact i
  |cons a l t =>
   intro s j i;refine t _ (fun p C=>j p (qP _ C)) fun v g=>?_
   rcases qs.1 g with rfl|g
   .exact ⟨WQ zSp zSp (fun x o=>by rw[qO]at o;subst o;exact j a (qX ..)),rfl⟩
   .exact i v g
 exact this env [] h.r fun v g=>absurd g qG
theorem qiJ(c)(l:okCk c)(n)(p:WfN n)(env)(j:w7 c.ts.sS.length env) :
  ju qb 238 [.ip (cNd n),.ip [eCk c],.ip [lPm env]] (if 30<=n.op then (match exam c (zq env) false n with | .ok _ => .ret (.tup []) | .error e => .pan (y9 e.1 e.2)) else .pan (y9 43 n.pos)):=by
 refine jK.of_sound ?_;refine qSW call238 func238 rfl {} ?_;have i:=W3 c l (szN n) n (qh _) p (zq env) (Jk j) false;have g:WKs [eCk c,aSc (zq env),eNd n,aB false] [eCk c,aSc (zq env),eNd n,aB false] := .zk (yO c) (.zk (uA _) (.zk (qz n) (.zs .nil)));by_cases h:30<=n.op
 .rw [if_pos h]
  simp[go_sem,h];refine fB (zu true 43 n).toP (wkR n true 43) ?_;refine qe.tail 4 zKr ?_;simp[go_sem];refine fB (p7 _ l.ts.ns env j.len j.r) (.zk (uF env) .nil) ?_;cases o:exam c (zq env) false n with
  |error e =>
   rw[o]at i;refine fQ i g ?_;simp[go_sem];exact .hf _ (ye _ _)
  |ok k =>
   rw[o]at i;refine fB i.toP g ?_;exact .hf _ (HF.tup zSp)
 .rw [if_neg h]
  simp[go_sem,h];refine fQ (zu false 43 n) (wkR n false 43) ?_;simp[go_sem];exact .hf _ (ye _ _)
theorem qiK(c)(i:okCk c)(n)(P:WfN n)(env)(R:w7 c.ts.sS.length env):qd qb 181 [eCk c,lPm env,eNd n] (.agg [aI (ja c env n).1,aI (ja c env n).2]):=by
 refine ju.toP ?_;refine jK.of_sound ?_;refine qSW call181 func181 rfl {} ?_;simp[go_sem];have o:WKs [.ip (cNd n),.ip [eCk c],.ip [lPm env]] [.ip (cNd n),.ip [eCk c],.ip [lPm env]] := .zk (HF.ip (yK n)) (.zk (HF.ip (by simp;exact yO c)) (.zk (HF.ip (by simp;exact uF env)) .nil));have T:=(qiJ c i n P env R).toSound ([.arr [aI 0,aI 0]]++[.dead]) o;refine fL (Wu (mu:=[.arr [aI 0,aI 0]]) T ?_) ?_ ?_
 .rintro v m ⟨g,_⟩
  have g:AEnd.pan v=_:=g;split at g
  .split at g
   .exact absurd g zSp
   .cases g;exact⟨_,_,rfl⟩
  .cases g;exact⟨_,_,rfl⟩
 .rintro r m ⟨U,x,⟨l,rfl⟩,⟨J,⟨g,rfl⟩,j⟩|⟨t,p,⟨g,rfl⟩,j⟩⟩
  .have g:AEnd.ret J=_:=g
   cases j;have hf:ja c env n=(0,0):=by
    unfold ja dgOf;split at g
    .rename_i h
     rw[if_pos h];split at g
     .rename_i C;first | (rw[C];done)|rfl
     .cases g
    .cases g
   rw[hf];simp[go_sem];exact .hf _ (HF.agg fun c i=>by simp at i;rcases i with rfl|rfl<;>exact HF.sc _)
  .have g:AEnd.pan (y9 t p)=_:=g
   cases j;have hf:ja c env n=(t,p):=by
    unfold ja dgOf;split at g
    .rename_i h
     rw[if_pos h];split at g
     .cases g
     .rename_i e C;(try rw[C]);cases g;rfl
    .rename_i h
     rw[if_neg h];cases g;rfl
   rw[hf];simp[go_sem];exact .hf _ (HF.agg fun c i=>by simp at i;rcases i with rfl|rfl<;>exact HF.sc _)
 .rintro r m ⟨U,x,⟨l,rfl⟩,⟨J,⟨g,rfl⟩,j⟩|⟨t,p,⟨g,rfl⟩,j⟩⟩<;>cases j
theorem qiL(ts)(h:okTS ts)(i:∀ p,p∈ts.sT->WfN p.body)(n)(j:WfN n)(env)(l:w7 ts.sS.length env):qd qb 111 [eTS ts,lPm env,eNd n] (.agg [aI (ym ts env n).1,aI (ym ts env n).2]):=by
 refine qSU call111 func111 rfl ?_;refine fD ?_;refine fB (p6 ts h (fun p o=>(i p o).small) _ (qh _)) (.zk (zl ts) (.zs .nil)) ?_;refine fB (qiK _ (jS h (qh _)) n j env l) (.zk (yO _) (.zk (uF env) (.zk (qz n) .nil))) ?_;exact .hf _ (HF.agg fun c g=>by simp at g;rcases g with rfl|rfl<;>exact HF.sc _)
end Y14
namespace Y15
open Y1
section
variable {J:Type}
def repL(g:J->J->Bool)(l:List J):List Bool:=(qp l.length).map fun i=>match l[i]? with|some x=>(l.take i).any fun y=>g x y|none=>false
theorem wC(g)(l:List J):(repL g l).length=l.length:=by simp[repL]
theorem gY(g)(l:List J){i}(h):(repL g l)[i]?=some ((l.take i).any fun y=>g l[i] y):=by
 simp[repL,h]
@[go_sem] theorem put_cFa(a b c d e f s n):putCells [a,b,c,d,e,f] 0 (s :: cNd n)=s :: cNd n:=by
 rw[yw];simp[putCells]
end
end Y15
namespace Y16
open P1 Y1 Y9 Y15
abbrev cDg(d:Dg):List AV:=[aI d.1,aI d.2]
def dups(l:List Bool):List Dg:=(l.filter id).map fun _=>(41,0)
def repB{J:Type}(g:J->J->Bool)(l:List J)(i:Nat):List Bool:=((repL g l).take (i+1)).drop i
def rp(d:Dg):List Dg:=if d.1=0 then [] else [d]
def vf(ts:TS)(i:Nat):List Dg:=match ts.sT[i]? with
 |some p=>dups (repB (fun x y:Pd=>decide (x.name=y.name)) ts.sT i)++(dups (repL (fun x y:tV×Int=>decide (x.1=y.1)) p.params)++rp (ja (mkCk ts i) p.params p.body))
 |none=>[]
def wD(ts:TS)(g:List (tV×Nd))(i:Nat):List Dg:=match g[i]? with
 |some f=>dups (repB (fun x y:tV×Nd=>decide (x.1=y.1)) g i)++rp (ym ts [] f.2)
 |none=>[]
def yG(ts:TS):List Dg:=
 dups (repL (fun x y:tV×Bool=>decide (x.1=y.1)) ts.sS)++(dups (repL (fun x y:Fld=>decide (x.name=y.name)&&decide (x.sS=y.sS)) ts.sA) ++
  ((qp ts.sT.length).flatMap (vf ts)++(qp ts.sP.length).flatMap (wD ts ts.sP)))
abbrev lDg(l:List Dg):AV := .lst false (l.map cDg)
theorem wE(l):(dups l).length<=l.length:=by
 grind [dups,yB,List.length_filter_le]
theorem gZ(d):(rp d).length<=1:=by unfold rp;split<;>simp
theorem W4(f:Nat->List Dg)(hf:∀ i,(f i).length<=10):∀ k,((qp k).flatMap f).length<=10*k
 | 0=>zSp
 |k+1=>by
  rw[List.range_succ,List.flatMap_append,qZ];have:=W4 f hf k;have:=hf k;simp only[uj,List.flatMap_nil,zZ];omega
theorem g7{J}(g)(l:List J)(i):(repB g l i).length<=1:=by
 grind [repB,List.length_drop,uo]
theorem g8{ts}(h:okTS ts)(i):(vf ts i).length<=10:=by
 unfold vf;split
 .rename_i p g
  have j:=(h.pl p (qN g)).1
  grind [wE,repB,decide,g7,repL,wC,gZ]
 .simp
theorem qiM(ts g i):(wD ts g i).length<=10:=by
 grind [wD,wE,repB,decide,g7,gZ,ym]
end Y16
namespace YU
open Go.RowKit
end YU
namespace YV
def cmpI(x y:Int):Int:=if x<y then -1 else if y<x then 1 else 0
def cmpL:List Int->List Int->Int
 | [],[]=>0
 | [],_ :: _ => -1
 |_ :: _,[]=>1
 |x :: a,y :: b=>if cmpI x y=0 then cmpL a b else cmpI x y
theorem g9:∀ a b,cmpL a b<0↔a<b
 | [],[]=>by simp[cmpL]
 | [],_ :: _=>by simp[cmpL]
 |_ :: _,[]=>by simp[cmpL]
 |x :: a,y :: b=>by
  rw[List.cons_lt_cons_iff,<-g9 a b];simp only[cmpL,cmpI];by_cases g:x<y
  .simp [g]
  .by_cases i:y<x
   .have:x≠y:=by omega
    simp[g,i,this]
   .have:x=y:=by omega
    simp[this]
def insL(x:List Int):List (List Int)->List (List Int)
 | []=>[x]
 |y :: l=>if y<x then y :: insL x l else x :: y :: l
def srt(l:List (List Int)):List (List Int):=l.foldr insL []
theorem W5(x):∀ l,(insL x l).Perm (x :: l)
 | [] => .refl _
 |y :: l=>by
  simp only[insL];split
  .exact ((W5 x l).cons y).trans (.swap x y l)
  .exact .refl _
theorem na:∀ l,(srt l).Perm l
 | [] => .refl _
 |x :: l=>(W5 x (srt l)).trans ((na l).cons x)
theorem ng(x):∀ l,l.Pairwise (·<=·)->(insL x l).Pairwise (·<=·)
 | [],_=>by simp[insL]
 |y :: l,h=>by
  rw[uW]at h;simp only[insL];split
  .rename_i g
   rw[uW];refine⟨fun z i=>?_,ng x l h.2⟩;rcases qs.1 ((W5 x l).mem_iff.1 i) with rfl|i
   .exact List.le_of_lt g
   .exact h.1 z i
  .rename_i g
   have j:x<=y:=List.not_lt.1 g;rw[uW,uW];refine⟨fun z i=>?_,h⟩;rcases qs.1 i with rfl|i
   .exact j
   .exact List.le_trans j (h.1 z i)
theorem nh:∀ l,(srt l).Pairwise (·<=·)
 | [] => .nil
 |x :: l=>ng x (srt l) (nh l)
theorem VJ{l l'}(g:l'.Perm l)(i:l'.Pairwise fun x y=>¬cmpL y x<0):l'=srt l:=by
 refine List.Perm.eq_of_pairwise (le:=(·<=·)) (fun a b _ _ j o=>List.le_antisymm j o) (i.imp fun h=>?_) (nh l) (g.trans (na l).symm);rw[g9]at h;exact List.not_lt.1 h
end YV
namespace YW
open YF P1 P2 Y1 Y2 Y3 Y6 Y7 Y9 Y10 Y11 Y13 Y14 YV
theorem aJ{ns k}(h:okKd ns k)(I:ns<=4):k.ts.length<=64:=by
 have o:∀ t,t∈k.ts->t∈([0,1,2,3]:List Int).flatMap fun a=>([0,1,2,3]:List Int).flatMap fun b=>([0,1,2,3]:List Int).map fun c=>[a,b,c]:=fun t J=>by
  obtain⟨l,rfl,j,i⟩:=h.ts t J;have P:=h.ar.2;have g:∀ x:Int,0<=x->x<ns->x∈([0,1,2,3]:List Int):=fun x p C=>zSo
  match l,j,i with
  | [],j,i=>simp[pad]
  | [a],j,i =>
   have:=g a (i a zSp).1 (i a zSp).2;simp only[uV,qn];exact⟨a,this,0,zSp,0,zSp,by simp[pad]⟩
  | [a,b],j,i =>
   have p:=g a (i a zSp).1 (i a zSp).2;have C:=g b (i b zSp).1 (i b zSp).2;simp only[uV,qn];exact⟨a,p,b,C,0,zSp,by simp[pad]⟩
  | [a,b,c],j,i =>
   have p:=g a (i a zSp).1 (i a zSp).2;have C:=g b (i b zSp).1 (i b zSp).2;have R:=g c (i c zSp).1 (i c zSp).2;simp only[uV,qn];exact⟨a,p,b,C,c,R,by simp[pad]⟩
  |_ :: _ :: _ :: _ :: _,j,i=>simp at j;omega
 have:=yY h.nd o;simp_all
theorem aL{ns k}(h:okKd ns k)(j:ns<=4){t:Tp}(o:t∈k.ts):∀ x,x∈t->0<=x/\x<128:=fun x C=>by
 obtain⟨l,rfl,g,i⟩:=h.ts t o;have p:=h.ar.2
 match l,g,i with
 | [],g,i=>grind [pad]
 | [a],g,i =>
  grind [pad]
 | [a,b],g,i =>
  grind [pad]
 | [a,b,c],g,i =>
  grind [pad]
 |_ :: _ :: _ :: _ :: _,g,i=>simp at g;omega
theorem qiN{n}(i:WfN n)(h:¬ 20<=n.op):kd n.op=101:=by
 have g:=i.shape;refine qhH ?_;unfold shp at g
 repeat' split at g
 all_goals grind
theorem ZX(c s inn){ks}(g:∀ k,k∈ks->∀ e,exam c s inn k = .error e->e.1≠0){e}(h:qK c s inn ks = .error e):e.1≠0:=by
 induction ks with
 |nil=>simp[qK]at h
 |cons k ks i =>
  grind [qK,qX,qP]
theorem VT(c s pos){ks}(g:∀ k,k∈ks->∀ e,exam c s true k = .error e->e.1≠0):∀{ps e},zz c s pos ps ks = .error e->e.1≠0:=by
 induction ks with
 |nil=>grind [zz]
 |cons k ks i =>
  intro ps e h;cases ps with
  |nil=>simp[zz]at h
  |cons p ps =>
   grind [zz,qX,qP]
theorem Qa(c):∀ m n s inn e,szN n<=m->exam c s inn n = .error e->e.1≠0
 | 0,n,_,_,_,l,_=>by obtain⟨op,nm,i,ks,p⟩:=n;simp[szN]at l
 |m+1,n,s,inn,e,l,h=>by
  have o:∀ k,k∈n.sD->∀ s inn e,exam c s inn k = .error e->e.1≠0:=fun k j s inn e g=>Qa c m k s inn e (zW1 (q9 j)) g
  rw[yn]at h;split at h
  .cases h;simp
  split at h
  .grind [yk]
  split at h
  .grind [VT]
  split at h
  .revert h o
   match n.sD with
   | []=>grind [zH]
   |k :: ks =>
    grind [zH,qX,ZX,qP]
  .split at h
   .rename_i t g
    cases h;exact ZX c _ _ (fun k j e g=>o k j _ _ e g) g
   .unfold zn at h
    repeat' split at h
    all_goals first | (cases h;done) | (cases h;simp)
theorem qiO(ts)(h:okTS ts)(I:∀ p,p∈ts.sT->WfN p.body)(n)(J:WfN n)(env)(i:w7 ts.sS.length env){mu b}(C:mu[b]?=some (.arr (cKo none))) :
  qr qb 70 [.ip (cTS ts),.ip [lPm env],.ip (cNd n),.ptr b 0] mu fun e m=>match exam (mkCk ts ts.sT.length) (zq env) false n with
   | .ok j=>e = .ret (.tup [])/\m=mu.set b (.arr (cKo j))
   | .error d=>e = .pan (y9 d.1 d.2)/\m=mu:=by
 refine qSW call70 func70 rfl {} ?_;have l:=jS h (qh ts.sT.length);have o:=W3 (mkCk ts ts.sT.length) l (szN n) n (qh _) J (zq env) (Jk i) false;generalize T:exam (mkCk ts ts.sT.length) (zq env) false n=E at o;have P:b<mu.length:=(qg.1 C).1;simp[go_sem];refine qe.tail 8 zKr ?_;simp[go_sem];refine fB (p6 ts h (fun p R=>(I p R).small) _ (qh _)) (.zk (zl ts) (.zs .nil)) ?_;refine fB (p7 _ h.ns env i.len i.r) (.zk (uF env) .nil) ?_;have g:WKs [eCk (mkCk ts ts.sT.length),aSc (zq env),eNd n,aB false] [eCk (mkCk ts ts.sT.length),aSc (zq env),eNd n,aB false] := .zk (yO _) (.zk (uA _) (.zk (qz n) (.zs .nil)));cases E with
 |error d =>
  refine fQ o g ?_;simp[go_sem]
 |ok j =>
  refine tR o.toP g ?_;have t:mu[b]?=some (.arr [aI 0,.sc (.map none)]):=C;cases j<;>simp[go_sem,t,cKo]
def rowT(k:Kd)(t:Tp):List Int:=t.take k.ar.toNat
def W6(k:Kd):List (List Int):=srt (k.ts.map (rowT k))
def Qb(ts:TS)(env:List (tV×Int))(n:Nd):List (List Int)×Int:=
 if 20<=n.op then ([],43) else
 match exam (mkCk ts ts.sT.length) (zq env) false n with
 | .error d=>([],d.1)
 | .ok (some k)=>(W6 k,0)
 | .ok none=>([],0)
theorem nj(mu e):Rd mu (.tup [.lst true [],aI e]) (.tup [lL [],aI e]) := .tup _ _ rfl fun k x y g i=>by
 match k,g,i with
 | 0,g,i=>simp at g i;subst g;subst i;exact .wk _ true _ (.hf _ (HF.lst fun r j=>absurd j qG))
 | 1,g,i=>simp at g i;subst g;subst i;exact .zsc _
 |k+2,g,i=>simp at g
theorem qiP{P x'}(give){lo mu}{t g e sz bt:Nat}{s x xs ys zv K}(hs:qF P t=some (e,sz,bt))(j:(qF P g).isSome=true)(hz:qy P e=some zv)
  (p:zv.cells.length=sz) (C:zv.cells.all AV.one=true) (I:sz≠0) (hb:bt<=16384) (J:Rd (cutM give mu 0) x x') (R:OwnF lo (cutM (fun i=>!give i) mu 0) sz s xs) (hx:qE (cutM (fun i=>!give i) mu 0) x'=some ys) (wx:qW sz xs) (wy:qW sz ys) (hl:xs.length+ys.length<=4294967296) (T:ys≠[])
  (k:∀ b mu',OwnF lo mu' sz (.sl b sz 0 (xs++ys).length) (xs++ys)->(∀ i,i<lo->mu'[i]?=(cutM (fun i=>!give i) mu 0)[i]?)->K (.sl b sz 0 (xs++ys).length) mu'):qu P mu #[t,g] s x K:=by
 refine .inr (.inl ⟨give,x',J,?_⟩);generalize cutM (fun i=>!give i) mu 0=mu at *
 obtain⟨R,U,a0⟩:=R;refine⟨t,g,e,sz,bt,ys,rfl,hs,j,⟨zv,hz,p,C⟩,I,hb,hx,wy,?_⟩;rcases R with rfl|⟨b,rfl,hc⟩
 .refine .inl ⟨xs,rfl,wx,hl,fun h=>absurd h T,fun h=>?_⟩
  rw[<-qZ];refine k _ _ ⟨.inr ⟨mu.length,rfl,zSp⟩,fun b s o l e=>?_,zSo⟩ (fun i hi=>?_)
  .grind
  grind
 .have a1:=yD wx.ok
  have a2:=U _ _ _ _ rfl;refine .inr ⟨b,xs.length,xs.flatten,rfl,hc,zOm,hl,?_⟩;have a3:xs.flatten.take (xs.length*sz)=xs.flatten:=yr zOm;rw[<-qZ];refine k _ _ ⟨.inr ⟨mu.length,rfl,?_⟩,fun b s o l e=>?_,zSo⟩ (fun i hi=>?_)
  .grind
  .grind
  grind
theorem qiQ{mu x y}(h:Rd mu x y):Rd mu (.lst true [[x]]) (.lst true [[y]]):=by
 refine .lst true _ _ rfl (fun k a b g i=>?_) (fun k a b g i=>?_)
 .grind
 grind
theorem nq(f:Nat->List Int)(l:List Nat):qW 1 (l.map fun i=>rL (f i)):=fun r g=>by
 obtain⟨i,_,rfl⟩:=qn.1 g;exact⟨rfl,rfl⟩
theorem qiR{mu av x}(h:Rd mu av x)(e):Rd mu (.tup [av,aI e]) (.tup [x,aI e]) := .tup _ _ rfl fun k x y g i=>by
 match k,g,i with
 | 0,g,i=>grind
 | 1,g,i=>simp at g i;subst g;subst i;exact .zsc _
 |k+2,g,i=>simp at g
theorem qiS{J o:Type}{l:List J}{d}(f:J->o){seen:List Nat}(p:seen.Nodup)(t:∀ i,i∈seen->i<l.length)(g:∀ i,i<l.length->i∈seen):(seen.map fun i=>f (l.getD i d)).Perm (l.map f):=by
 have C:seen.Perm (qp l.length):=by
  grind
 have I:=C.map fun i=>f (l.getD i d)
 have P:((qp l.length).map fun i=>f (l.getD i d))=l.map f:=by
  apply vJ;intro i;by_cases j:i<l.length
  .simp [j]
  .simp [j]
 grind
end YW
namespace YX
open YM YF P1 Y1
structure IV where
 arg:Option Nd
 size:Int
 name:tV
abbrev IEnv:=List (tV×IV)
def aArg:Option Nd->AV
 |some n => .ip (cNd n)
 |none => .sc (.pointer none)
abbrev cIV(v:IV):List AV:=[aArg v.arg,aI v.size,aS v.name]
abbrev eIV(v:IV):AV := .agg (cIV v)
abbrev eEnv(env:IEnv):AV := .ims (encK aS eIV env)
structure ISt where
 last:Int
 sM:Int
abbrev cIn(ts:TS)(tb:Nat)(s:ISt):List AV:=cTS ts++[.mp tb,aI s.last,aI s.sM]
theorem qiT(a):HF (aArg a):=by
 cases a with
 |none=>exact HF.sc _
 |some n=>exact HF.ip (yK n)
theorem qiU(v):HF (eIV v):=HF.agg fun c g=>by
 simp only[cIV,qs,qG,or_false]at g;rcases g with rfl|rfl|rfl
 .exact qiT _
 .exact HF.sc _
 .exact HF.sc _
theorem nr(op):qd qb 186 [aI op] (aB (decide (op=15\/op=45\/op=46))):=by
 refine qSV call186 func186 rfl ?_;by_cases g:op=15
 .simp [go_sem,g];exact .zsc _
 by_cases i:op=45
 .simp [go_sem,i];exact .zsc _
 by_cases j:op=46
 .simp [go_sem,j];exact .zsc _
 simp[go_sem,g,i,j];exact .zsc _
def nd0:Nd := .mk 0 ⟨#[]⟩ 0 [] 0
abbrev eN0:AV := .agg [aI 0,aS ⟨#[]⟩,aI 0,.lst true [],aI 0]
theorem nt:WK eN0 (eNd nd0):=WK.aggs (.zs (.zs (.zs (.cons (WK.lst fun r g=>absurd g qG) (.zs .nil)))))
def payS(n:Int)(s:ISt):ISt:=⟨s.last,s.sM+n⟩
theorem payU(ts tb s n)(p : -1000000<=s.sM/\s.sM<=1000000)(t:0<=n/\n<=1000000){mu xb}(j:mu[xb]?=some (.arr (cIn ts tb s))) :
  qr qb 182 [.ptr xb 0,aI n] mu fun e m=>m=mu.set xb (.arr (cIn ts tb (payS n s)))/\e=if s.sM+n<=4000 then .ret (.tup []) else .pan (y9 2 0):=by
 refine qSW call182 func182 rfl {} ?_;have o:qj.wrap (s.sM+n)=s.sM+n:=zWr;have g:xb<mu.length:=(qg.1 j).1;have i:∀ c,(mu.set xb c)[xb]?=some c:=fun c=>qv g
 simp[go_sem,j,i,o];by_cases l:s.sM+n<=4000
 .simp [go_sem,l]
  refine fB (zu true 2 nd0).toP (.zs (.zs (.cons nt .nil))) ?_;rfl
 .simp [go_sem,l]
  refine fQ (zu false 2 nd0) (.zs (.zs (.cons nt .nil))) ?_;simp[go_sem];exact⟨rfl,rfl⟩
theorem lookE{mu}(env nm):zT qb mu 179 (eEnv env) (aS nm) true=some (match getK nm env with|some v => .tup [eIV v,aB true] | none => .tup [eIV ⟨none,0,⟨#[]⟩⟩,aB false]):=by
 have:=keyS.lookS (et:=248) (t:=179) zSi (mu:=mu) (venc:=eIV) (es:=env) (k:=nm) trivial (fun _ _=>trivial) (z:=eIV ⟨none,0,⟨#[]⟩⟩) (by simp[go_sem,aArg]) true;rw[this];cases getK nm env<;>rfl
def vg(env:IEnv)(n:Nd)(s:ISt):Except Dg ((Nd×Int)×ISt):=
 match getK n.name env with
 |none => .ok ((n,1),s)
 |some v=>match v.arg with
  |none => .ok ((.mk n.op v.name n.n n.sD n.pos,1),s)
  |some a=>if s.sM+v.size<=4000 then .ok ((a,v.size),payS v.size s) else .error (2,0)
def endI(ts:TS)(tb:Nat)(mu:Mu)(xb:Nat)(r:Except Dg ((Nd×Int)×ISt))(e:AEnd)(m:Mu):Prop:=
 match r with
 | .ok ((n,k),s)=>e = .ret (.tup [eNd n,aI k])/\m[xb]?=some (.arr (cIn ts tb s))/\(∀ i,i<mu.length->i≠xb->m[i]?=mu[i]?)/\mu.length<=m.length
 | .error d=>e = .pan (y9 d.1 d.2)/\(∀ i,i<mu.length->i≠xb->m[i]?=mu[i]?)/\mu.length<=m.length
theorem qiV(ts tb s)(hs : -1000000<=s.sM/\s.sM<=500000)(env)(U:(env.map Prod.fst).Nodup)(hz:∀ e,e∈env->0<=e.2.size/\e.2.size<=500000)(n){mu xb}(I:mu[xb]?=some (.arr (cIn ts tb s))) :
  qr qb 183 [.ptr xb 0,eEnv env,eNd n] mu (endI ts tb mu xb (vg env n s)):=by
 refine qSW call183 func183 rfl { mt:=[5] } ?_;have p:=fun mu=>lookE (mu:=mu) env n.name
 have g:xb<mu.length:=(qg.1 I).1;obtain⟨B,hB⟩:∃ B,B=eEnv env:=⟨_,rfl⟩;rw[<-hB];simp only[<-hB]at p;unfold vg;cases J:getK n.name env with
 |none =>
  simp only[J]at p;simp[go_sem];refine tB _ (p _) ?_;simp[go_sem,aArg];exact⟨rfl,by rw[qB g];exact I,fun i j _=>qB j,zSp⟩
 |some v =>
  simp only[J]at p;have P:=hz (n.name,v) ((wS U).1 J);obtain⟨va,t,R⟩:=v;cases va with
  |none =>
   simp[go_sem];refine tB _ (p _) ?_;have C:(cNd n).set 1 (AV.sc (Value.string R))=cNd (.mk n.op R n.n n.sD n.pos):=by
    obtain⟨op,nm,nn,ks,pos⟩:=n;simp[yw,Nd.op,Nd.name,Nd.n,Nd.sD,Nd.pos]
   simp[go_sem,aArg,C];exact⟨rfl,by rw[qB g];exact I,fun i j _=>qB j,zSp⟩
  |some a =>
   simp[go_sem];refine tB _ (p _) ?_;simp[go_sem,aArg];have T:0<=t/\t<=500000:=P;refine fL (payU ts tb s t ⟨zOm,zOm⟩ ⟨zOm,zOm⟩ (by rw[qB g];exact I)) ?_ ?_
   .rintro r m ⟨rfl,e⟩
    by_cases l:s.sM+t<=4000
    .rw [if_pos l]at e
     cases e;rw[List.set_append_left _ _ g];simp[go_sem,l];refine fG [0,1,2,3,4,5,7,6] [(0,0,[]),(1,0,[]),(2,0,[]),(3,0,[]),(4,0,[]),(5,0,[]),(7,0,[]),(6,1,[5])] zKr zKr zSi ?_
     all_goals
      simp[go_sem];refine⟨rfl,?_,fun i j o=>?_,zSp⟩
      .rw [qB (zUs g),qv g];rfl
      .rw [qB (zUs j),zA (fun e=>o e.symm)]
    .rw [if_neg l]at e;cases e
   .rintro r m ⟨rfl,e⟩
    by_cases l:s.sM+t<=4000
    .rw [if_pos l]at e;cases e
    .rw [if_neg l]at e
     cases e;simp[go_sem,l];refine⟨rfl,fun i j o=>?_,zSp⟩;rw[zA (fun e=>o e.symm),qB j]
end YX
namespace Q1
open P2 Y1 Y2 Y6
abbrev aU(x:Int):AV := .sc (.int .u8 x)
theorem nu(op):qd qb 12 [aI op] (aU (kd op)):=by
 refine qSU call12 func12 rfl ?_;unfold kd;by_cases g:1<=op<;>by_cases i:op<=15<;>by_cases j:20<=op<;>by_cases l:op<=23<;>by_cases o:30<=op<;>by_cases p:op<=51<;>first|omega | (simp[go_sem,g,i,j,l,o,p];exact .zsc _)
def kwL:List tV:=[⟨#[115,111,114,116]⟩,⟨#[111,114,100,101,114,101,100]⟩,⟨#[118,97,114]⟩,⟨#[102,105,101,108,100]⟩,⟨#[112,114,101,100]⟩,⟨#[102,97,99,116]⟩,⟨#[97,108,108]⟩,⟨#[115,111,109,101]⟩,⟨#[110,111]⟩,⟨#[111,110,101]⟩,⟨#[108,111,110,101]⟩,⟨#[97,108,119,97,121,115]⟩,⟨#[101,118,101,110,116,117,97,108,108,121]⟩,⟨#[97,102,116,101,114]⟩,⟨#[117,110,116,105,108]⟩,⟨#[110,111,110,101]⟩,⟨#[117,110,105,118]⟩,⟨#[105,100,101,110]⟩,⟨#[105,110]⟩,⟨#[110,111,116]⟩,⟨#[116,114,117,101]⟩,⟨#[102,97,108,115,101]⟩]
def kwB(s:tV):Bool:=kwL.any fun x=>decide (x=s)
theorem qiW(s):qd qb 263 [aS s] (aB (kwB s)):=by
 refine qSU call263 func263 rfl ?_;have g:kwL.length=22:=rfl;refine fZ 22 (fun k U=>U.tm 0=aS s/\U.tm 3 = .lst true (kwL.map fun s=>[aS s])/\U.tm 4=aI k/\U.mu=[]/\∀ j x,j<k->kwL[j]?=some x->x≠s) ?_ ?_
 .refine ⟨zSi,?_,zSi,zSi,fun j x t=>absurd t zOm⟩
  simp[go_sem,kwL]
 .rintro k U hk ⟨J,I,P,R,hI⟩
  unfold kwB;generalize hK:kwL=K at *
  by_cases T:k=22
  .subst T
   have a0:(K.any fun x=>decide (x=s))=false:=by
    rw[List.any_eq_false];intro x p;obtain⟨j,t⟩:=List.mem_iff_getElem?.1 p;simpa using hI j x (by have:=(qg.1 t).1;omega) t
   rw[a0];simp[go_sem,I,P,R,g];exact .zsc _
  .have C:k<K.length:=by omega
   have i:k<22:=zOm;have l:(k:Int)<22:=zOm;have w1:=zWk k;by_cases p:K[k]=s
   .have a1:(K.any fun x=>decide (x=s))=true:=List.any_eq_true.2 ⟨K[k],qq C,zUs p⟩
    rw[a1];simp[go_sem,J,I,P,R,g,i,l,p];exact .zsc _
   .simp [go_sem,J,I,P,R,g,i,l,ji p,w1]
    try refine⟨i,aK ?_⟩
    try refine aK ?_
    refine⟨zS1 J,zS1 I,zSi,zSi,fun j x t o=>?_⟩;by_cases a2:j=k
    .subst a2
     rw[qC C]at o;cases o;exact p
    .exact hI j x zOm o
def bys(l:List Int):tV:=⟨(l.map fun x=>UInt8.ofNat x.toNat).toArray⟩
theorem qiX(l x):bys (l++[x])=bys l++⟨#[UInt8.ofNat x.toNat]⟩:=by
 apply ByteArray.ext;simp[bys]
theorem nv(l):(bys l).size=l.length:=by simp[bys,ByteArray.size]
def shpV(op:Int)(nk:Nat):AV:=match shp op nk with
 |some l => .tup [aS (bys l),aB true]
 |none => .tup [aS ⟨#[]⟩,aB false]
theorem VU(mu a b):Rd mu (.tup [aS a,aB b]) (.tup [aS a,aB b]) := .hf _ (HF.tup fun c g=>by simp at g;rcases g with rfl|rfl<;>exact HF.sc _)
theorem qiY(nk:Nat)(J:nk<=100000):qd qb 244 [aI 47,aI nk] (shpV 47 nk):=by
 refine qSU call244 func244 rfl ?_;refine fZ (min nk 401) (fun k U=>U.tm 1=aI nk/\U.tm 6=aS (bys (qI k 101))/\U.tm 7=aI k) ?_ ?_
 .exact ⟨zSi,by simp[go_sem,bys],zSi⟩
 .rintro k U hk ⟨i,j,e7⟩
  by_cases l:k=min nk 401
  .have P:shpV 47 nk = .tup [aS (bys (qI k 101)),aB true]:=by
    rw[l];rfl
   rw[P];by_cases h1:nk<=k
   .have o:¬k<nk:=by omega
    simp[go_sem,i,j,e7,o];exact VU _ _ _
   .have R:k=401:=by omega
    subst R;have h3:401<nk:=zOm;have T:(401:Int)<nk:=zOm;simp[go_sem,i,j,e7,T];exact VU _ _ _
  .have p:k<nk:=by omega
   have I:k<401:=zOm;have g:(k:Int)<401:=zOm;have w1:=zWk k;have t:(bys (qI k 101)).size+1<=9223372036854775807:=by rw[nv,List.length_replicate];omega
   have C:bys (qI k 101)++⟨#[101]⟩=bys (qI (k+1) 101):=by
    rw[List.replicate_succ',qiX];rfl
   generalize bys (qI k 101)=B at *
   simp[go_sem,i,j,e7,p,g,t,w1];refine⟨zOm,aK ?_⟩;exact⟨zS1 i,zS1 C,zSi⟩
theorem qiZ(op)(nk:Nat)(g:nk<=100000):qd qb 244 [aI op,aI nk] (shpV op nk):=by
 by_cases h47:op=47
 .subst h47;exact qiY nk g
 by_cases o:1<=op/\op<=51
 .have j:op=1\/op=2\/op=3\/op=4\/op=5\/op=6\/op=7\/op=8\/op=9\/op=10\/op=11\/op=12\/op=13\/op=14\/op=15\/op=16\/op=17\/op=18\/op=19\/op=20\/op=21\/op=22\/op=23\/op=24\/op=25\/op=26\/op=27\/op=28\/op=29\/op=30\/op=31\/op=32\/op=33\/op=34\/op=35\/op=36\/op=37\/op=38\/op=39\/op=40\/op=41\/op=42\/op=43\/op=44\/op=45\/op=46\/op=48\/op=49\/op=50\/op=51:=by omega
  rcases j with rfl|rfl|rfl|rfl|rfl|rfl|rfl|rfl|rfl|rfl|rfl|rfl|rfl|rfl|rfl|rfl|rfl|rfl|rfl|rfl|rfl|rfl|rfl|rfl|rfl|rfl|rfl|rfl|rfl|rfl|rfl|rfl|rfl|rfl|rfl|rfl|rfl|rfl|rfl|rfl|rfl|rfl|rfl|rfl|rfl|rfl|rfl|rfl|rfl|rfl
  all_goals
   refine qSV call244 func244 rfl ?_;simp[go_sem,shpV,shp];exact VU _ _ _
 .have i:∀ c:Int,1<=c->c<=51->(op=c)=False:=fun c p t=>eq_false zOm
  have l:shp op nk=none:=by
   unfold shp
   repeat rw[zIn]
  rw[shpV,l];refine qSV call244 func244 rfl ?_;simp[go_sem,i];exact VU _ _ _
end Q1
namespace Q2
open P2 Y1 Q1
def fitB(op:Int)(ks:List Nd):Bool:=decide (shp op ks.length=some (ks.map fun k=>kd k.op))
theorem qi0(l)(g:∀ x,x∈l->0<=x/\x<256)(i h)(j:i<(bys l).data.size):(((bys l).data[i]).toNat:Int)=l[i]:=by
 have o:=g l[i] (qq h);simp only[bys,List.getElem_toArray,List.getElem_map,UInt8.toNat_ofNat'];omega
theorem qi1{op nk l}(h:shp op nk=some l):∀ x,x∈l->0<=x/\x<256:=by
 unfold shp at h
 repeat' split at h
 all_goals first
  | (cases h;done)
  | (cases h;intro x g;cases g;done)
  | (cases h;intro x g;rw[List.mem_replicate]at g;omega)
  | (cases h;intro x g;simp at g;omega)
theorem W7(op ks)(hk:ks.length<=1000):qd qb 195 [aI op,lNd ks] (aB (fitB op ks)):=by
 have I:=qiZ op ks.length zOm;unfold shpV at I;cases o:shp op ks.length with
 |none =>
  simp only[o]at I;have hf:fitB op ks=false:=by simp[fitB,o]
  rw[hf];refine qSU call195 func195 rfl ?_;refine fB I (.zs (.zs .nil)) ?_;exact .zsc _
 |some l =>
  simp only[o]at I;have i:=nv l;have J:=qi0 l (qi1 o);generalize bys l=B at *
  refine qSU call195 func195 rfl ?_;refine tR I (.zs (.zs .nil)) ?_;by_cases C:l.length=ks.length
  .simp [go_sem,i,C]
   refine fZ ks.length (fun k U=>U.tm 1=lNd ks/\U.tm 5=aS B/\U.tm 7=aI k/\∀ j,j<k->(ks[j]?).map (fun k=>kd k.op)=l[j]?) ?_ ?_
   .exact ⟨zSi,zSi,zSi,fun j P=>absurd P zOm⟩
   .rintro k U hk ⟨R,e5,e7,hI⟩
    by_cases a0:k=ks.length
    .subst a0
     have hf:fitB op ks=true:=by
      rw[fitB,o,decide_eq_true];congr 1;apply vJ;intro j;by_cases P:j<ks.length
      .rw [zB,hI j P]
      .rw [Qn zOm,Qn zSo]
     rw[hf];simp[go_sem,R,e7];exact .zsc _
    .have g:k<ks.length:=by omega
     have w1:=zWk k;simp[go_sem,R,e7,g];refine tN zKr ?_;simp[go_sem,R,e7,g];refine tR (nu ks[k].op) (.zs .nil) ?_;have p:k<l.length:=zOm;have a1:k<B.data.size:=by have:B.data.size=l.length:=i;omega
     have hg:=J k p a1;by_cases T:kd ks[k].op=l[k]
     .have t:kd ks[k].op=((B.data[k]).toNat:Int):=by rw[hg];exact T
      simp[go_sem,e5,e7,g,i,C,t,w1];refine aK ?_;refine⟨zS1 R,zS1 e5,zSi,fun j P=>?_⟩;by_cases a2:j=k
      .subst a2
       rw[qC g,qC p,zb,T]
      .exact hI j zOm
     .have t:¬kd ks[k].op=((B.data[k]).toNat:Int):=by rw[hg];exact T
      have hf:fitB op ks=false:=by
       rw[fitB,o,decide_eq_false];intro e;injection e with e;apply T;have:l[k]?=some (kd ks[k].op):=by rw[e,zB,qC g,zb]
       rw[qC p]at this;simpa using this.symm
      rw[hf];simp[go_sem,e5,e7,g,i,C,t];exact .zsc _
  .have hf:fitB op ks=false:=by
    rw[fitB,o,decide_eq_false];intro e;injection e with e;rw[e]at C;simp at C
   rw[hf];simp[go_sem,i,C];exact .zsc _
end Q2
namespace Q3
open Y1 Q1
def letC(c:Int):Bool:=(decide (97<=c)&&decide (c<=122))||(decide (65<=c)&&decide (c<=90))
def chB(i:Nat)(c:Int):Bool:=letC c||(!decide (i=0)&&(decide (c=95)||(decide (48<=c)&&decide (c<=57))))
def zt(s:tV):Bool:=decide (1<=s.size)&&decide (s.size<=16)&&!kwB s&&(qp s.size).all fun i=>match s.data[i]? with|some c=>chB i c.toNat|none=>true
theorem qi2(s):qd qb 243 [aS s] (aB (zt s)):=by
 refine qSV call243 func243 rfl ?_;by_cases h0:s.size=0
 .have t:zt s=false:=by simp[zt,h0]
  rw[t];simp[go_sem,h0];exact .zsc _
 by_cases ad:16<s.size
 .have t:zt s=false:=by
   have:¬s.size<=16:=zOm;simp[zt,this]
  rw[t];have l:(16:Int)<s.size:=zOm;simp[go_sem,h0,l];exact .zsc _
 have l:¬(16:Int)<s.size:=zOm;simp[go_sem,h0,l];refine tR (qiW s) (.zs .nil) ?_;cases hk:kwB s with
 |true =>
  have t:zt s=false:=by simp[zt,hk]
  rw[t];simp[go_sem];exact .zsc _
 |false =>
  simp[go_sem];refine fZ s.size (fun k U=>U.tm 0=aS s/\U.tm 3=aI k/\∀ j c,j<k->s.data[j]?=some c->chB j c.toNat=true) ?_ ?_
  .exact ⟨zSi,zSi,fun j c hj=>absurd hj zOm⟩
  .rintro k U ae ⟨e0,e2,hI⟩
   by_cases aa:k=s.size
   .have t:zt s=true:=by
     simp only[zt,hk,Bool.not_false,Bool.and_true,qx,decide_eq_true_eq,qR,zO];refine⟨⟨zOm,zOm⟩,fun i hi=>?_⟩;cases hc:s.data[i]? with
     |none=>rfl
     |some c=>exact hI i c zOm hc
    rw[t];simp[go_sem,e0,e2,aa];exact .zsc _
   .have o:k<s.size:=by omega
    have a0:k<s.data.size:=o;have w1:=zWk k;have z1:qj.wrap 1=1:=rfl;have a9:s.data[k]?=some s.data[k]:=Array.getElem?_eq_getElem a0;simp[go_sem,e0,e2,o];generalize hc:((s.data[k]).toNat:Int)=c at *
    cases g:chB k c with
    |false =>
     have t:zt s=false:=by
      rw[zt,Bool.and_eq_false_iff];refine .inr (List.all_eq_false.2 ⟨k,zO.2 o,?_⟩);simp only[a9,hc,g];simp
     rw[t];by_cases I:97<=c<;>by_cases J:c<=122<;>by_cases P:65<=c<;>by_cases R:c<=90<;>by_cases T:c=95<;>by_cases a6:c<48<;>by_cases a7:57<c<;>by_cases C:k=0<;>first|omega | (exfalso;simp[chB,letC,I,J,P,R,T,a6,a7,C]at g;done) | (exfalso;simp[chB,letC,I,J,P,R,T,a6,a7,C]at g;omega)|skip
     all_goals
      simp[go_sem,e2,I,J,P,R,T,a6,a7,C];exact .zsc _
    |true =>
     have p:∀ j d,j<k+1->s.data[j]?=some d->chB j d.toNat=true:=fun j d hj hd=>by
      by_cases ab:j=k
      .subst ab
       rw[a9]at hd;cases hd;rw[hc];exact g
      .exact hI j d zOm hd
     by_cases I:97<=c<;>by_cases J:c<=122<;>by_cases P:65<=c<;>by_cases R:c<=90<;>by_cases T:c=95<;>by_cases a6:c<48<;>by_cases a7:57<c<;>by_cases C:k=0<;>first|omega | (exfalso;simp[chB,letC,I,J,P,R,T,C]at g;done) | (exfalso;simp[chB,letC,I,J,P,R,T,C]at g;omega)|skip
     all_goals
      simp[go_sem,e2,I,J,P,R,T,a6,a7,C,w1,z1]
      first
       |exact⟨o,aK ⟨zS1 e0,zSi,p⟩⟩
       | (subst C;exact⟨o,aK ⟨zS1 e0,zSi,fun j d hj hd=>p j d zOm hd⟩⟩)
end Q3
end Go.Proofs.YtlnbdknjkmmgbaaGreatDoor
