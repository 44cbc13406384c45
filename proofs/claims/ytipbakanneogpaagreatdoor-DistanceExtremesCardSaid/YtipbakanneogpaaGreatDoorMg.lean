/-
  Own library, part 7: an abstract reading of values and a calculus over it; contracts of functions; plain lemmas.
-/
import Derived.Handed
import Derived.WideKeyArgs
import Derived.ProofKit
import Derived.OpenShut
import Derived.JoinedCond
import Derived.KernelRfl
import Derived.Test.YtipbakanneogpaaGreatDoorMf
set_option linter.unusedVariables false
set_option linter.unusedSimpArgs false
set_option maxRecDepth 100000
open Go renaming Program->qb,TypeId->qc,World->qd,Value->qf,undef->qU,FuncId->qx
open Go.Proofs.Tryz renaming prog->qe
open List renaming getElem?_eq_some_iff->qk,mem_map->qn,getElem_mem->qs,range->qu,mem_cons->qy,getElem?_eq_getElem->qA,not_mem_nil->qH,mem_append->qK,getElem?_set_self->qM,getElem?_append_left->qN,replicate->qO,take_length->qP,mem_singleton->qV,mem_of_getElem?->q8,length_append->za,map_append->zb,mem_cons_of_mem->zc,getElem?_map->zj,mem_cons_self->zl,drop_eq_getElem_cons->zp,length_cons->zu,all_eq_true->zA,length_map->zF,getD_eq_getElem?_getD->zG,getElem?_append_right->zJ,append_nil->zO,take_of_length_le->zV,drop_length->zZ,mem_range->yb,mem_filter->jM,getElem?_cons_succ->vP,foldl_append->vQ,eq_nil_of_length_eq_zero->wS,flatten_cons->wT
open Go.IntKind renaming i64->qp
open Nat renaming le_refl->qr,zero_add->yf,le_of_ble_eq_true->ue,zero_le->Z9
open Option.some renaming injEq->qv
open Bool renaming and_eq_true->qI,eq_iff_iff->j0
open Array renaming getD_eq_getD_getElem?->q9
open List.Nodup renaming length_le_of_subset->j5
open Int renaming le_refl->vh,tmod_eq_emod_of_nonneg->u3
namespace Go.Proofs.YtipbakanneogpaaGreatDoor
open Go Go.Ev Go.Proofs Tryz
namespace YH
open YF P1 P2 Y1 Y6 Y9 Y14 YX YZ YB YC YE YG Q6
section
variable {b:Bool}{es:List (tA×Bool)}{mu:Mu}{ts:TS}
structure InM (ts:TS) (es:List (tA×Bool)) (b:Bool) (mu:Mu):Prop where
 r:mu[0]?=some (.arr [aI 0,aS ⟨#[]⟩,aI 0,.lst true [],aI 0])
 t:mu[2]?=some (.mp (eSet es))
 x:mu[3]?=some (.arr (cIn ts 2 ⟨0,0⟩))
 p:mu[4]?=some (.arr [.ptr 3 0])
 c:mu[5]?=some (.arr [aB b])
theorem InM.len(h:InM ts es b mu):5<mu.length:=(qk.1 h.c).1
theorem InM.push(h:InM ts es b mu)(l):InM ts es b (mu++l):=by
 have g:=h.len;exact⟨by rw[zGa];exact h.r,by rw[zGa];exact h.t,by rw[zGa];exact h.x,by rw[zGa];exact h.p,by rw[zGa];exact h.c⟩
theorem InM.setT{g}(h:InM ts es b mu):InM ts g b (mu.set 2 (.mp (eSet g))):=by
 have i:=h.len;exact⟨by rw[zGl];exact h.r,qM zOm,by rw[zGl];exact h.x,by rw[zGl];exact h.p,by rw[zGl];exact h.c⟩
theorem InM.setC{b'}(h:InM ts es b mu):InM ts es b' (mu.set 5 (.arr [aB b'])):=by
 have g:=h.len;exact⟨by rw[zGl];exact h.r,by rw[zGl];exact h.t,by rw[zGl];exact h.x,by rw[zGl];exact h.p,qM zOm⟩
theorem qoZ(mu):Rd mu eN0 (eNd nd0) := .agg _ _ rfl fun k x y g i=>by
 match k with
 | 0=>simp[nd0,cNd]at g i;subst g;subst i;exact .zsc _
 | 1=>simp[nd0,cNd]at g i;subst g;subst i;exact .zsc _
 | 2=>simp[nd0,cNd]at g i;subst g;subst i;exact .zsc _
 | 3=>simp[nd0,cNd,cNds]at g i;subst g;subst i;exact .wk _ true [] (.hf _ (HF.lst fun r j=>absurd j qH))
 | 4=>simp[nd0,cNd]at g i;subst g;subst i;exact .zsc _
 |k+5=>simp at g
theorem Jc(mu d):Rd mu (.tup [eN0,aI d]) (.tup [eNd nd0,aI d]) := .tup _ _ rfl fun k x y g i=>by
 match k with
 | 0=>grind [qoZ]
 | 1=>simp at g i;subst g;subst i;exact .zsc _
 |k+2=>simp at g
theorem qo0(ts)(h:okTS ts)(hb:∀ p,p∈ts.sT->WfN p.body/\yS ts p.body)(n)(hw:WfN n)(ai:(yi ts [] n).1=0->yS ts n)(hF:qq ts (yX ts n)<=200000):qi qe 34 [eTS ts,eNd n] (.tup [eNd (yq ts n).1,aI (yq ts n).2]):=by
 generalize j:yq ts n=R;unfold yq at j;refine qSQ call34 func34 rfl { mt:=[25] } ?_;simp[go_sem];have a6:∀ p,p∈ts.sT->WfN p.body:=fun p hp=>(hb p hp).1
 refine fR (qlT ts h a6 n hw [] ⟨zSp,zSp⟩) (.zk (zn ts) (.cons (WK.lst fun r hr=>absurd hr qH) (.zk (qL n) .nil))) ?_;by_cases o:(yi ts [] n).1=0
 case neg =>
  rw[if_pos o]at j;subst j;simp[go_sem,o];refine fD [0,1,2,4,3] [(0,0,[]),(1,0,[]),(2,0,[]),(4,0,[]),(3,1,[2])] zKr zKr zSi ?_;simp_all[go_sem,Jc]
 case pos =>
  rw[if_neg (zUs o)]at j;simp[go_sem,o];have aj:∀(v:List Nd)(k:Nd)(C:Mu),InM ts (putN [] v) (v.any fun n=>decide (n.op=47)) C->qE qe 69 (eNd k :: [.ptr 4 0,.ptr 5 0]) C fun e m=>e = .ret (.tup [])/\InM ts (putN [] (v++[k])) ((v++[k]).any fun n=>decide (n.op=47)) m:=fun v k C g=>by
   refine(qn9 ts ⟨0,0⟩ 2 _ _ k g.p g.x g.c g.t).monoR ?_;rintro e m ⟨rfl,rfl⟩;refine⟨rfl,?_⟩;rw[List.any_append];simp only[putN,vQ,List.foldl_cons,List.foldl_nil,List.any_cons,List.any_nil,Bool.or_false];exact g.setT.setC
  refine fQ (KO (caps:=[.ptr 4 0,.ptr 5 0]) (fun v C=>InM ts (putN [] v) (v.any fun n=>decide (n.op=47)) C) (fun v C l h=>h.push l) aj (szN n) n (qr _) hw.small [] _ ⟨rfl,rfl,rfl,rfl,rfl⟩) ?_ (by grind);rintro r m ⟨e,g⟩;cases e;rw[List.nil_append,<-U2 _ (szN n) n (qr _)]at g;have au:=g.len;have a8:∀ c,(m.set 0 c)[0]?=some c:=fun c=>qM zOm
  cases J:anyN (fun n=>decide (n.op=47)) n with
  |false =>
   rw[J]at g j;rw[if_pos rfl]at j;subst j;simp[go_sem,g.c,g.r,a8];exact .hf _ (HF.tup fun c o=>by simp at o;rcases o with rfl|rfl;exact qL n;exact HF.sc _)
  |true =>
   rw[J]at g j;rw[if_neg zSp]at j;have av:=h.np;simp[go_sem,g.c];refine kL ts.sT.length (fun k U=>U.tm 3 = .ip (cNd n)/\U.tm 4 = .ptr 0 0/\U.tm 7 = .ptr 4 0/\U.tm 33=lPd ts.sT/\U.tm 34=aI ts.sT.length/\U.tm 35=aI k/\InM ts ((ts.sT.take k).foldl (fun I p=>putN I (preN p.body)) (putN [] (preN n))) true U.mu) ?_ ?_
   .simp [go_sem, *]
   .rintro k U hk ⟨e3,e4,e7,a9,a2,a3,hM⟩
    by_cases ak:k=ts.sT.length
    .subst ak
     simp[go_sem,e3,e7,a2,a3];rw[qP]at hM;have hM:InM ts (yX ts n) true U.mu:=hM;have aw:=hM.len;have a0:InM ts (yX ts n) true (U.mu++[Cell.arr [aI 0,aS ⟨#[]⟩,aI 0,.lst true [],aI 0]]++[.dead]):=(hM.push _).push _;have aa:=qoT ts h hb (yX ts n) hF (K1 ts _) n hw (ai o) (mu:=U.mu++[Cell.arr [aI 0,aS ⟨#[]⟩,aI 0,.lst true [],aI 0]]++[.dead]) (ob:=U.mu.length) a0.p a0.x a0.t zSp;have al:=j;clear j;generalize hQ:outI ts (yX ts n) n=Q at *
     refine fQ (nu aa ?_) ?_ ?_
     .grind
     .rintro r m ⟨P,c,⟨l,rfl⟩,a4⟩
      have ab:U.mu.length+2<=P.length/\∀ i,i<U.mu.length+2->i≠3->i≠U.mu.length->P[i]?=(U.mu++[Cell.arr [aI 0,aS ⟨#[]⟩,aI 0,.lst true [],aI 0]]++[.dead])[i]?:=by
       grind
      have ad:∀(c:Cell)(l:List Cell),(P.set (U.mu.length+1) c++l)[0]?=some (.arr [aI 0,aS ⟨#[]⟩,aI 0,.lst true [],aI 0]):=fun c l=>by
       rw[qN zSo,zGl,ab.2 0 zOm zOm zOm];exact a0.r
      have T:∀(c c2:Cell)(l:List Cell),((P.set (U.mu.length+1) c++l).set 0 c2)[0]?=some c2:=fun c c2 l=>qM zSo
      have ae:∀(c c':Cell)(l:List Cell),(P.set (U.mu.length+1) c++(l++[c']))[P.length+l.length]?=some c':=fun c c' l=>by
       simp
      have a5:∀(c c' c2:Cell)(l:List Cell),((P.set (U.mu.length+1) c++(l++[c'])).set 0 c2)[P.length+l.length]?=some c':=fun c c' c2 l=>by
       grind
      rcases a4 with ⟨r',j,e⟩|⟨er,p,j,e⟩
      .cases Q with
       |error d=>grind
       |ok n' =>
        cases e;have an:∀(c:Cell)(l:List Cell),(P.set (U.mu.length+1) c++l)[U.mu.length]?=some (.arr (cNd n')):=fun c l=>by
         grind
        simp[go_sem,e4,an,ad,T];subst al;exact .hf _ (HF.tup fun c o=>by simp at o;rcases o with rfl|rfl;exact qL _;exact HF.sc _)
      .cases Q with
       |ok n'=>grind
       |error d =>
        have af:=qcC hQ;have e1:er=d.1:=by grind
        subst e1;cases e;simp[go_sem,af];have n0:=ad c (l++[Cell.arr [aI d.1,aI p]]);have n1:=ae c (Cell.arr [aI d.1,aI p]) l;have n2:=fun c2=>a5 c (Cell.arr [aI d.1,aI p]) c2 l
        have n3:=fun c2=>T c c2 (l++[Cell.arr [aI d.1,aI p]])
        rw[af]at n0 n1 n2 n3;generalize P.set (U.mu.length+1) c++(l++[Cell.arr [aI 2,aI p]])=N at *
        generalize P.length+l.length=b at *
        refine fD [0,1,2,4,3] [(0,0,[]),(1,0,[]),(2,0,[]),(4,0,[]),(3,1,[2])] zKr zKr zSi ?_
        all_goals
         simp[go_sem,e4,n0,n1,n2,n3]
         grind [Jc]
     simp
    .have a1:k<ts.sT.length:=by omega
     have w1:=zWk k;have ag:=Zh ts.sT[k];simp[go_sem,e7,a9,a2,a3,a1,ag];have ao:ts.sT[k]∈ts.sT:=qs a1;generalize aq:(ts.sT.take k).foldl (fun I p=>putN I (preN p.body)) (putN [] (preN n))=E0 at *
     have ah:∀(v:List Nd)(x:Nd)(C:Mu),InM ts (putN E0 v) true C->qE qe 70 (eNd x :: [.ptr 4 0]) C fun e m=>e = .ret (.tup [])/\InM ts (putN E0 (v++[x])) true m:=fun v x C g=>by
      refine(qoA ts ⟨0,0⟩ 2 _ x g.p g.x g.t).monoR ?_;rintro e m ⟨rfl,rfl⟩;refine⟨rfl,?_⟩;simp only[putN,vQ,List.foldl_cons,List.foldl_nil];exact g.setT
     refine fQ (KO (caps:=[.ptr 4 0]) (fun v C=>InM ts (putN E0 v) true C) (fun v C l h=>h.push l) ah (szN ts.sT[k].body) ts.sT[k].body (qr _) (a6 _ ao).small [] _ (hM.push _)) ?_ (by rintro r m ⟨e,_⟩;cases e);rintro r m ⟨e,ar⟩;cases e;simp[go_sem,a3,w1];refine⟨a1,aK ?_⟩;refine⟨zS1 e3,zS1 e4,zS1 e7,zS1 a9,zS1 a2,zSi,?_⟩;rw[List.take_add_one,qA a1,vQ,aq];simpa[go_sem] using ar
end
end YH
end Go.Proofs.YtipbakanneogpaaGreatDoor
namespace Go.EvW
open Go Go.Ev Go.RowKit Go.ChangeShapes Go.WideShapes
section
variable {H J:Type}{c:J->List AV}{fs:List (qc×Nat)}{cs:List qf}{N:Nat}{P:qb}{t:qc}{w:qd}
def CR(w:qd)(xs:List AV)(cs:List qf):Prop:=
 cs.length=xs.length/\∀(k:Nat) x,xs[k]?=some x->VRel ⟨(·<w.heap.size),[]⟩ w.heap x (cs.getD k qU)
theorem CR.nil(w):CR w [] []:=⟨rfl,zSp⟩
theorem CR.one{x v}(h:VRel ⟨(·<w.heap.size),[]⟩ w.heap x v):CR w [x] [v]:=⟨rfl,fun k y g=>by
 grind⟩
theorem CR.app{xs ys ds}(h:CR w xs cs)(k:CR w ys ds):CR w (xs++ys) (cs++ds):=by
 refine⟨by simp[h.1,k.1],fun i x g=>?_⟩;by_cases j:i<xs.length
 .rw [qN j]at g
  have:=h.2 i x g;rw[zG]at this⊢;rw[qN (by rw[h.1];exact j)];exact this
 .rw [zJ zOm]at g
  have:=k.2 _ x g;rw[zG]at this⊢;rw[zJ (by rw[h.1];omega),h.1];exact this
def jX(P:qb)(t:qc)(d:DataW H):Prop:=(d.weights P t).all (·<=reachBytes)=true
theorem jX.all{e}:∀{ds:List (DataW H)},(DataW.weightsAll P e ds).all (·<=reachBytes)=true->∀(i:Nat) d,ds[i]?=some d->jX P e d
 | [],_,i,d,g=>by simp at g
 |x :: r,h,i,d,g=>by
  simp only[DataW.weightsAll,List.all_append,qI]at h;cases i with
  |zero=>simp at g;subst g;exact h.1
  |succ i=>exact jX.all h.2 i d (zUs g)
theorem cD:∀{ts}{ds:List (DataW H)},(DataW.weightsEach P ts ds).all (·<=reachBytes)=true->∀(i:Nat) t d,ts[i]?=some t->ds[i]?=some d->jX P t d
 | [],ds,_,i,t,d,g,_=>by simp at g
 |t0 :: ts,[],_,i,t,d,_,j=>by simp at j
 |t0 :: ts,x :: r,h,i,t,d,g,j=>by
  simp only[DataW.weightsEach,List.all_append,qI]at h;cases i with
  |zero=>simp at g j;subst g;subst j;exact h.1
  |succ i=>exact cD h.2 i t d (zUs g) (zUs j)
def ShT(P:qb)(n:Nat)(t:qc){J:Type}(c:J->List AV)(ok:J->Prop):Prop:=
 ∀(H:Type)(g:qc×qf->H)(w:qd)(i:List qf)(x:DataW H×List MemPlace),
  DataW.trod g P w 0 (fun _=>true) true n t i=some x->jX P t x.1->∃ a,ok a/\CR w (c a) i
def ShU(P:qb)(N:Nat)(t:qc){J:Type}(c:J->List AV)(ok:J->Prop):Prop:=∀ n,n<N->ShT P n t c ok
theorem ShU.le{M ok}(h:ShU P N t c ok)(g:M<=N):ShU P M t c ok:=fun n i=>h n zOm
theorem ShU.map{i ok c' g}(h:ShU P N t c ok)(f:J->i)(C:∀ a,c' (f a)=c a)(I:∀ a,ok a->g (f a)):ShU P N t c' g:=by
 intro n l H j w o x p r;obtain⟨a,R,T⟩:=h n l H j w o x p r
 grind
theorem ShU.int{k}(g:P.underlying t=some (.int k))(N):ShU P N t (fun n:Int=>[.sc (.int k n)]) (fun n=>(Lit.int k n).wf=true):=by
 intro n o H j w p x h _;obtain⟨i,rfl,_,l⟩:=DataW.trod_int g h;exact⟨i,l,.one (.sc _ rfl)⟩
theorem ShU.bool(g:P.underlying t=some .bool)(N):ShU P N t (fun b:Bool=>[.sc (.bool b)]) (fun _=>True):=by
 intro n l H j w o x h _;obtain⟨i,rfl,_⟩:=DataW.trod_bool g h;exact⟨i,trivial,.one (.sc _ rfl)⟩
theorem ShU.string(j:P.underlying t=some .string)(N):ShU P N t (fun s:tA=>[.sc (.string s)]) (fun s=>s.size<=140737488351232):=by
 intro n p H l w r x h g;obtain⟨i,rfl,rfl,C⟩:=DataW.trod_string j h;refine⟨i,?_,.one (.sc _ rfl)⟩;unfold jX at g;simp only[DataW.weights,List.all_cons,List.all_nil,Bool.and_true,decide_eq_true_eq]at g;have e:i.data.toList.length=i.size:=Array.length_toList;have o:i.size<=reachBytes:=by rw[<-e];exact g
 exact Nat.le_trans o (ue rfl)
theorem qcE{a n}(h:w.cells? 0 a n=some cs):cs.length=n/\∀ i,i<n->w.cell? (a.add i)=some (cs.getD i qU):=by
 unfold World.cells? at h;rw[if_pos (Z9 _)]at h;have g:=mapM_some_length h;refine⟨zUs g,fun i j=>?_⟩;have:=mapM_some_get h i i (zP1 j)
 grind
theorem qcF{a v}(h:w.cell? a=some v):∃ arr e g,w.heap[a.block]?=some (.cells arr e g)/\a.spot=none/\arr[a.off]?=some v:=by
 unfold World.cell? at h;split at h
 .simp_all
 .cases h
theorem qo1[Inhabited J]{p:Nat->J->Prop}(n)(h:∀ i,i<n->∃ a,p i a):∃ l:List J,l.length=n/\∀(i) a,l[i]?=some a->p i a:=by
 induction n with
 |zero=>simp
 |succ n g =>
  obtain⟨l,j,o⟩:=g (fun i r=>h i zOm);obtain⟨a,t⟩:=h n zOm;refine⟨l++[a],zP1 j,fun i b C=>?_⟩
  grind
theorem ShU.slice{e}[Inhabited J]{c ok}(ht:P.underlying t=some (.slice e))(he:ShU P N e c ok)(ak:∀ a,ok a->(c a).length=P.cellsOf e)(p:0<P.cellsOf e)(a5:Nat.blt 0 (P.bytesOf e)=true) :
  ShU P (N+1) t (fun l:List J=>[.lst false (l.map c)]) (fun l=>l.length<=140737488351232/\∀ a,a∈l->ok a):=by
 intro n hn H a6 w cs x h hw;rcases DataW.trod_slice ht h with ⟨rfl,_⟩|⟨a,len,cap,g,C,m,rfl,rfl,rfl,_,hl,hc,al,T,_,_⟩
 .exact ⟨[],⟨zSp,zSp⟩,.one (.nil _)⟩
 .have a7:(DataW.weightsAll P e (g.map (·.1))).all (·<=reachBytes)=true:=by
   simp_all[jX,DataW.weights,List.all_cons,List.all_append,qI]
  have an:len<=140737488351232:=by
   unfold jX at hw;simp only[DataW.weights,ht,List.all_cons,List.all_append,qI,decide_eq_true_eq]at hw;have I:=hw.1;have a8:1<=P.bytesOf e:=ue a5;have h2:((g.map (·.1)).length+(C.map (·.1)).length)*1<=((g.map (·.1)).length+(C.map (·.1)).length)*P.bytesOf e:=Nat.mul_le_mul_left _ a8;simp only[zF]at I h2;have h3:reachBytes<=140737488351232:=ue rfl;omega
  have key:∀ i,i<len->∃ b,ok b/\∃ o,w.cells? 0 (a.add (i*P.cellsOf e)) (P.cellsOf e)=some o/\CR w (c b) o:=by
   intro i hi;have I:=T i hi;have U:i<g.length:=zOm;rw[qA U]at I;obtain⟨o,h2,h3⟩:=Option.bind_eq_some_iff.1 I;obtain⟨b,h4,h5⟩:=he m zOm H a6 w o _ h3 (jX.all a7 i _ (by rw[zj,qA U];rfl))
   grind
  obtain⟨l,a9,a0⟩:=qo1 len key;refine⟨l,⟨zOm,fun b hb=>?_⟩,.one ?_⟩
  .grind [List.mem_iff_getElem?]
  .have aa:(l.map c).length=len:=by simp[a9]
   rw[<-aa];cases Nat.eq_zero_or_pos len with
   |inl h0 =>
    have:l=[]:=wS zOm;subst this;exact .emp _ a cap zSp
   |inr hp =>
    have ab:0<l.length:=zOm;obtain⟨_,ao,I,_⟩:=a0 0 l[0] (qA ab);obtain⟨ad,R⟩:=qcE I;have ae:=R 0 p;obtain⟨arr,el,fr,hb,hs,_⟩:=qcF ae;have ai:∀ k:Nat,a.spot=none->(a.add k).spot=none/\(a.add k).off=a.off+k:=by
     grind [Addr.add]
    have a1:∀(b:Addr)(j:Nat),(b.add j).block=b.block:=by
     grind [Addr.add]
    have e0:((a.add (0*P.cellsOf e)).add 0).block=a.block/\((a.add (0*P.cellsOf e)).add 0).spot=a.spot:=by
     grind [Addr.add]
    rw[e0.1]at hb;rw[e0.2]at hs;have hz:yM (P.cellsOf e) (l.map c):=fun r hr=>by
     obtain⟨b,aq,rfl⟩:=qn.1 hr
     grind [List.mem_iff_getElem?]
    have ar:=yL hz;refine .lst false (l.map c) (P.cellsOf e) a cap arr el fr (fun k=>arr.getD (a.off+k) qU) hb hs zOm zSp (Array.getElem?_eq_some_iff.1 hb).1 hz ?_ ?_
    all_goals
     intro k x hk;have au:k<(l.map c).length*P.cellsOf e:=by grind
     have hq:k / P.cellsOf e<l.length:=by
      simp_all[zF,Nat.div_lt_of_lt_mul,Nat.mul_comm]
     have hr:k % P.cellsOf e<P.cellsOf e:=Nat.mod_lt _ p;have av:k / P.cellsOf e*P.cellsOf e+k % P.cellsOf e=k:=by
      grind [Nat.div_add_mod,Nat.mul_comm]
     obtain⟨_,o,I,h2⟩:=a0 (k / P.cellsOf e) _ (qA hq);obtain⟨ad,R⟩:=qcE I;have af:=R _ hr;have a2:(l.map c)[k / P.cellsOf e]?=some (c l[k / P.cellsOf e]):=by rw[zj,qA hq];rfl
     have hx:(c l[k / P.cellsOf e])[k % P.cellsOf e]?=some x:=by
      have ag:k % P.cellsOf e<(c l[k / P.cellsOf e]).length:=by grind
      have:=WA hz a2 (qA ag)
      grind
     obtain⟨aj,aw,ax,a3,ay,a4⟩:=qcF af;have e1:((a.add (k / P.cellsOf e*P.cellsOf e)).add (k % P.cellsOf e)).block=a.block:=by rw[a1,a1]
     have e2:((a.add (k / P.cellsOf e*P.cellsOf e)).add (k % P.cellsOf e)).off=a.off+k:=by
      grind [Addr.add]
     rw[e1,hb]at a3;cases a3;rw[e2]at a4;have ah:arr.getD (a.off+k) qU=o.getD (k % P.cellsOf e) qU:=by
      rw[q9,a4];rfl
    .grind
    .show VRel _ _ x (arr.getD (a.off+k) qU)
     rw[ah];exact h2.2 _ x hx
def U3(P:qb)(t:qc):Option (List (qc×Nat)):=match P.underlying t with|some (.struct g)=>some (g.toList.map fun f=>(f.type,f.offset))|_=>none
inductive ShF (P:qb) (N:Nat):Nat->List (qc×Nat)->{α:Type}->(α->List AV)->(α->Prop)->Prop where
 |nil (o:Nat):ShF P N o [] (fun _:Unit=>[]) (fun _=>True)
 |cons {o:Nat} {t:qc} {fs:List (qc×Nat)} {α β:Type} {c:α->List AV} {ok:α->Prop} {c':β->List AV} {ok':β->Prop} (h:ShU P N t c ok) (k:ShF P N (o+P.cellsOf t) fs c' ok') :
   ShF P N o ((t,o) :: fs) (fun x:α×β=>c x.1++c' x.2) (fun x=>ok x.1/\ok' x.2)
def Vk(P:qb)(fs:List (qc×Nat)):Nat:=(fs.map fun f=>P.cellsOf f.1).foldr (·+·) 0
theorem ShF.read{n o ok}(h:ShF P N o fs c ok)(C:n<N){H}{enc:qc×qf->H}{w}(cs:List qf)
  (p:cs.length=o+Vk P fs) (r:∀(i:Nat) f,fs[i]?=some f->∃ x,DataW.trod enc P w 0 (fun _=>true) true n f.1 ((cs.drop f.2).take (P.cellsOf f.1))=some x/\jX P f.1 x.1) :
  ∃ a,ok a/\CR w (c a) (cs.drop o):=by
 induction h with
 |nil o =>
  refine⟨(),trivial,?_⟩;rw[List.drop_of_length_le (by grind [Vk])];exact .nil w
 | @cons o t fs J β c ok c' I h k R =>
  obtain⟨x,j,l⟩:=r 0 _ rfl;obtain⟨a,T,U⟩:=h n C H enc w _ x j l;have a0:Vk P ((t,o) :: fs)=P.cellsOf t+Vk P fs:=rfl;obtain⟨b,hb,hs⟩:=R zOm (fun i g hg=>r (i+1) g hg);refine⟨(a,b),⟨T,hb⟩,?_⟩;have e:cs.drop o=(cs.drop o).take (P.cellsOf t)++cs.drop (o+P.cellsOf t):=by
   rw[<-List.drop_drop,List.take_append_drop]
  rw[e];exact U.app hs
theorem ShU.struct{ok}(j:U3 P t=some fs)(hf:ShF P N 0 fs c ok)(R:P.cellsOf t=Vk P fs):ShU P (N+1) t c ok:=by
 intro n hn H l w U x h hw;unfold U3 at j;split at j
 .rename_i gs hu
  simp only[qv]at j;subst j;obtain⟨T,m,rfl,rfl,hl,a0,hg⟩:=DataW.trod_struct hu h;have r:(DataW.weightsEach P (gs.toList.map (·.type)) (T.map (·.1))).all (·<=reachBytes)=true:=by
   grind [jX,DataW.weights]
  obtain⟨a,ha,hr⟩:=hf.read (n:=m) zOm (w:=w) (enc:=l) U zOm (fun i f C=>by
   simp only[zj,Option.map_eq_some_iff]at C;obtain⟨g,o,rfl⟩:=C;have I:=hg i g (zUs o);have p:i<T.length:=by
    grind
   rw[qA p]at I;exact⟨_,I,cD r i _ _ (by rw[zj,o];rfl) (by rw[zj,qA p];rfl)⟩)
  grind
 .cases j
theorem ShU.arg1{c:J->AV}{ok}(h:∀ N,ShU P N t (fun a=>[c a]) ok)(g:∀ w r b v,Value.okWide P w r b t v->v.cells=#[v])
  {H} {enc} {w} {r} {b} {v} {d:DataW H} {ps} (i:Value.okWide P w r b t v) (l:DataW.Trod enc P w 0 (fun _=>true) true t v d ps) (o:jX P t d) :
  ∃ a,ok a/\VRel ⟨(·<w.heap.size),[]⟩ w.heap (c a) v:=by
 obtain⟨n,p⟩:=l;obtain⟨a,C,j⟩:=h (n+1) n zOm H enc w _ _ p o;rw[g w r b v i]at j;have:=j.2 0 (c a) rfl
 grind
theorem cG{ok fs}(h:∀ N,ShU P N t c ok)(j:P.underlying t=some (.struct fs))
  {H} {enc} {w} {r} {b} {v} {d:DataW H} {ps} (g:Value.okWide P w r b t v) (l:DataW.Trod enc P w 0 (fun _=>true) true t v d ps) (o:jX P t d) :
  ∃ a,ok a/\VRel ⟨(·<w.heap.size),[]⟩ w.heap (.agg (c a)) v:=by
 obtain⟨n,p⟩:=l;obtain⟨a,C,i⟩:=h (n+1) n zOm H enc w _ _ p o;unfold Value.okWide at g;rw[j]at g;obtain⟨R,rfl,_,_⟩:=g;refine⟨a,C,.agg _ _ (by simpa[Value.cells] using i.1) (fun k x I=>?_)⟩;have:=i.2 k x I
 grind [Value.cells,q9]
end
end Go.EvW
namespace Go.EvW
open Go Go.Ev Go.RowKit Go.ChangeShapes Go.WideShapes
section
variable {J:Type}{c:J->List AV}{ts:List qc}{P:qb}{t:qc}{w:qd}
def Vl(P:qb)(t:qc){J:Type}(c:J->AV)(ok:J->Prop):Prop:=
 ∀(H:Type)(g:qc×qf->H)(w:qd)(r:Reach)(b:Nat)(v:qf)(d:DataW H)(i:List MemPlace),Value.okWide P w r b t v->DataW.Trod g P w 0 (fun _=>true) true t v d i->jX P t d ->
  ∃ a,ok a/\VRel ⟨(·<w.heap.size),[]⟩ w.heap (c a) v
theorem Vl.struct{ok}(g:(U3 P t).isSome=true)(h:∀ N,ShU P N t c ok):Vl P t (fun a => .agg (c a)) ok:=by
 intro H i w r b v d C j l o;unfold U3 at g;split at g
 .rename_i I p;exact cG h p j l o
 grind
inductive ArgF (P:qb):List qc->{α:Type}->(α->List AV)->(α->Prop)->Prop where
 |nil:ArgF P [] (fun _:Unit=>[]) (fun _=>True)
 |cons {t:qc} {ts:List qc} {α β:Type} {c:α->AV} {ok:α->Prop} {c':β->List AV} {ok':β->Prop} (h:Vl P t c ok) (k:ArgF P ts c' ok'):ArgF P (t :: ts) (fun x:α×β=>c x.1 :: c' x.2) (fun x=>ok x.1/\ok' x.2)
theorem ArgF.read{ok}(h:ArgF P ts c ok){H enc w r b} :
  ∀{g}{ds:List (DataW H)}{ps},DataW.TrodAll enc P w 0 (fun _=>true) true ts g ds ps->(∀(j:Nat) t v,ts[j]?=some t->g[j]?=some v->Value.okWide P w r b t v)->(DataW.weightsEach P ts ds).all (·<=reachBytes)=true ->
  ∃ a,ok a/\ds.length=ts.length/\g.length=(c a).length/\∀(k) x,(c a)[k]?=some x->VRel ⟨(·<w.heap.size),[]⟩ w.heap x (g.getD k qU):=by
 induction h with
 |nil =>
  intro g ds ps i _ _;obtain⟨rfl,rfl,rfl⟩:=trodAll_nil i;simp
 | @cons t ts J β c ok c' R h k T =>
  intro g ds ps i I l;obtain⟨v,U,d,a0,p,q,rfl,rfl,rfl,h1,h2⟩:=trodAll_cons i;simp only[DataW.weightsEach,List.all_append,qI]at l;obtain⟨a,ha,hr⟩:=h H enc w r b v d p (I 0 t v rfl rfl) h1 l.1;obtain⟨a',o,C,hl,hg⟩:=T h2 (fun j t v=>I (j+1) t v) l.2;refine⟨(a,a'),⟨ha,o⟩,zP1 C,zP1 hl,fun k x hx=>?_⟩
  grind
theorem qcG(l:laidOutB P=true){H enc W o r}:∀{ts i}{ds:List (DataW H)}{ps},
  (∀ t,t∈ts->P.readableRec t=true/\t<P.types.size)->DataW.TrodAll enc P W 0 (fun _=>true) true ts i ds ps->(∀ p∈ps,W.sameAt o p)->(∀ p∈ps,r p.block=true)->DataW.TrodAll enc P o 0 r true ts i ds ps
 | [],i,ds,ps,_,h,_,_=>by
  obtain⟨rfl,rfl,rfl⟩:=trodAll_nil h;exact trodAll_mk0
 |t :: ts,i,ds,ps,C,h,I,J=>by
  obtain⟨v,R,d,T,p,q,rfl,rfl,rfl,g1,U⟩:=trodAll_cons h;have j:=C t zSp;exact trodAll_cons_mk (WideElems.Trod_stays l j.1 j.2 g1 (fun x g=>I x (zP1 g)) (fun x g=>J x (zP1 g)))
   (qcG l (fun t j=>C t (zP1 j)) U (fun x g=>I x (zP1 g)) (fun x g=>J x (zP1 g)))
theorem qo2{f fn}{s:ChangeSpec}{tb ok}(hp:fn.params=ts.toArray)(hF:ArgF P ts c ok)(hv:s.vars=[])
  (T:∀ H ds,ds.length=ts.length->s.fn H ds={ results:=[.lit (.bool true)],args:=ds }) (hr:fn.resultTypes=#[tb]) (U:P.underlying tb=some .bool)
  (hl:laidOutB P=true) (a7:(ts.all fun t=>P.readableRec t&&decide (t<P.types.size))=true) (hS:∀ a,ok a->qi P f (c a) (aB true))
  (H) (C) (W) (base) (args) (ds gs:List (DataW H)) (g)
  (i:∀(j:Nat) t v,fn.params[j]?=some t->args[j]?=some v->Value.okWide P W .any base t v) (hW:DataW.Whole C P fn.params.toList s.vars false W args.toList ds gs g) (a8:(DataW.weightsEach P fn.params.toList ds).all (·<=reachBytes)=true) (hT:Zz (·<W.heap.size) W.heap) :
  Calls P f args W fun e W'=>∃ v,e = .returned v/\s.post C P fn false true false false W args v W':=by
 have a0:=hW;obtain⟨p,q,R,hV,I,a9,_⟩:=hW;rw[hv]at hV;obtain⟨hg,hq⟩:=trodVars_none hV;subst hg;subst hq;rw[zO]at I;subst I;rw[hp]at R i;obtain⟨a,ha,a1,a2,aa⟩:=hF.read (r := .any) (b:=base) R (fun j t v h1 h2=>i j t v (zUs h1) (zUs h2)) (by grind);have a3:∀ x,x∈g->x.block<W.heap.size:=fun x l=>R.lt x l
 obtain⟨_,o⟩:=hS a ha;refine(o (·<W.heap.size) W args (Sim.empty (fun _ h=>h) hT) ⟨zUs a2,fun k x hk=>?_⟩).mono fun e W' ⟨a6,v,he,_,_,hb,a4⟩=>?_
 .simp_all
 .have a5:v = .bool true:=by cases a4;rfl
  subst a5;refine⟨_,he,ds,[],g,[],g,[],a0,?_,?_,?_,World.keptBut_mono (fun x l=>⟨l,.inr (.inl l)⟩) (hb.frame (·∈g)),fun h=>by cases h⟩
  all_goals try rw[zO]
  all_goals try rw[T H ds a1]
  .rw [hr]
   exact trodAll_cons_mk (p':=[]) (shut_bool U true) trodAll_mk0
  .rw [hp]
   refine qcG hl (fun t ht=>?_) R (fun x l=>hb.same (a3 x l)) (fun x l=>by grind)
   grind
  .rw [hv];rfl
theorem ShF.cons'{N o o' fs i ok c' g}(j:o+P.cellsOf t=o')(h:ShU P N t c ok)(k:ShF P N o' fs c' g) :
  ShF P N o ((t,o) :: fs) (fun x:J×i=>c x.1++c' x.2) (fun x=>ok x.1/\g x.2):=by
 subst j;exact .cons h k
theorem qcH:∀{laid ps},DataW.LaidVars P w laid ps->∀ x,x∈laid->∃ g t cs fuel p,P.globalNamed x.1=some g/\(P.globals[g]?).map (·.type)=some t/\w.var? P x.1=some cs/\DataW.trod (fun _=>()) P w 0 (fun _=>true) false fuel t cs.toList=some (x.2,p)
 | [],_,_,x,i=>by simp at i
 | (n,d) :: r,ps,h,x,i=>by
  obtain⟨g,t,cs,fuel,p,q,l,o,C,I,j,_⟩:=h;rcases qy.1 i with rfl|i
  .grind
  .exact qcH j x i
theorem qo3{e n fuel k}(R:P.underlying t=some (.array n e))(U:P.underlying e=some (.int k))(hc:P.cellsOf e=1)(r:P.cellsOf t=n){cs}{ns:List Int}{p}
  (h:DataW.trod (fun _=>()) P w 0 (fun _=>true) false fuel t cs=some (.agg (ns.map fun i => .lit (.int k i)),p)):cs=ns.map fun i => .int k i:=by
 obtain⟨T,m,_,g,J,hn,j⟩:=DataW.trod_array R h;simp only[Prod.mk.injEq,DataW.agg.injEq]at g;have g:=g.1;have C:ns.length=n:=by have:=congrArg List.length g;simp at this;omega
 rw[r]at J;rw[hc]at j;apply List.ext_getElem
 .simp [J,C]
 .intro i h1 h2
  have I:=j i zOm;rw[Nat.mul_one]at I;have l:i<T.length:=zOm;rw[qA l]at I;obtain⟨z,e1,e2,_⟩:=DataW.trod_int U I;have h4:(T[i]).1=DataW.lit (.int k z):=by rw[e2]
  have o:(ns.map fun i=>(DataW.lit (.int k i):DataW Unit))[i]?=(T.map (·.1))[i]?:=by rw[g]
  rw[zj,zj,qA l,qA zOm]at o;simp only[Option.map_some,qv]at o;rw[h4]at o;simp only[DataW.lit.injEq,Lit.int.injEq,true_and]at o;have h6:(cs.drop i).take 1=[cs[i]]:=by rw[zp h1];rfl
  grind
theorem qo4{name g cs}(j:P.globalNamed name=some g)(h:w.var? P name=some cs):∃ e i,w.heap[g]?=some (.cells cs e i):=by
 grind [World.var?]
end
end Go.EvW
namespace Go.Proofs.YtipbakanneogpaaGreatDoor
open Go Go.Ev Go.Proofs Tryz
namespace DT
open Go.EvW Y1 P1 YF
theorem unInt:qe.underlying 3=some (.int .i64):=by kernel_rfl
theorem qcI:qe.underlying 4=some .bool:=by kernel_rfl
theorem qo5:qe.underlying 9=some .string:=by kernel_rfl
theorem qo6:qe.underlying 28=some (.slice 3):=by kernel_rfl
theorem qo7:qe.underlying 22=some (.slice 65):=by kernel_rfl
theorem qo8:qe.underlying 23=some (.slice 67):=by kernel_rfl
theorem qo9:qe.underlying 33=some (.slice 35):=by kernel_rfl
theorem qpA:qe.underlying 107=some (.slice 159):=by kernel_rfl
theorem qpB:qe.underlying 24=some (.slice 109):=by kernel_rfl
theorem qpC:qe.underlying 25=some (.slice 89):=by kernel_rfl
abbrev okI(n:Int):Prop := -9223372036854775808<=n/\n<=9223372036854775807
abbrev okS(s:tA):Prop:=s.size<=140737488351232
instance:Inhabited Nd:=⟨.mk 0 ⟨#[]⟩ 0 [] 0⟩
instance:Inhabited Pd:=⟨⟨⟨#[]⟩,[],default⟩⟩
instance:Inhabited Fld:=⟨⟨⟨#[]⟩,[],false⟩⟩
theorem Z2(N):ShU qe N 3 (fun n:Int=>[aI n]) okI:=
 (ShU.int unInt N).map (fun n=>n) (fun _=>rfl) (fun n h=>by
  grind [Lit.wf,IntKind.min,IntKind.max,IntKind.signed,IntKind.bits])
theorem K2(N):ShU qe N 4 (fun b:Bool=>[aB b]) (fun _=>True):=ShU.bool qcI N
theorem Jd(N):ShU qe N 9 (fun s:tA=>[aS s]) okS:=ShU.string qo5 N
theorem K3(N):ShU qe N 28 (fun xs:List Int=>[lI xs]) (fun l=>l.length<=140737488351232/\∀ x,x∈l->okI x):=
 ((ShU.slice qo6 (Z2 N) (fun _ _=>zKr) (Nat.lt_of_lt_of_eq Nat.zero_lt_one zKr) zKr).le zOm).map (fun l=>l) (fun _=>rfl) fun _ h=>h
theorem qpD(N):ShU qe N 67 jq (fun f=>f.sS.length<=140737488351232/\∀ x,x∈f.sS->okI x):=
 ((ShU.struct (fs:=[(9,0),(28,1),(4,2)]) zKr (.cons' (o':=1) zKr (Jd N) (.cons' (o':=2) zKr (K3 N) (.cons' (o':=3) zKr (K2 N) (.nil 3)))) zKr).map
  (fun x=>(⟨x.1,x.2.1,x.2.2.1⟩:Fld)) (fun _=>rfl) (fun x h=>h.2.1)).le zOm
theorem qpE(N):ShU qe N 65 vH (fun s=>okS s.1):=
 ((ShU.struct (fs:=[(9,0),(4,1)]) zKr (.cons' (o':=1) zKr (Jd N) (.cons' (o':=2) zKr (K2 N) (.nil 2))) zKr).map
  (fun x=>((x.1,x.2.1):tA×Bool)) (fun _=>rfl) (fun x h=>h.1)).le zOm
theorem U4:∀ N,ShU qe N 35 cNd (fun _=>True)
 | 0=>fun n i=>absurd i zOm
 | N+1 =>
  have ks:ShU qe N 33 (fun l:List Nd=>[.lst false (l.map cNd)]) (fun _=>True):=((ShU.slice qo9 (U4 N) (fun a _=>(Yo a).trans zKr) (Nat.lt_of_lt_of_eq (show 0<5 by omega) zKr) zKr).le zOm).map (fun l=>l) (fun _=>rfl) fun _ _=>trivial
  ((ShU.struct (fs:=[(3,0),(9,1),(3,2),(33,3),(3,4)]) zKr
   (.cons' (o':=1) zKr (Z2 N) (.cons' (o':=2) zKr (Jd N) (.cons' (o':=3) zKr (Z2 N) (.cons' (o':=4) zKr ks (.cons' (o':=5) zKr (Z2 N) (.nil 5)))))) zKr)).map
   (fun x=>Nd.mk x.1 x.2.1 x.2.2.1 x.2.2.2.1 x.2.2.2.2.1) (fun x=>by rw[yB];rfl) fun _ _=>trivial
theorem qpF(N):ShU qe N 159 cPm (fun p=>okI p.2):=
 ((ShU.struct (fs:=[(9,0),(3,1)]) zKr (.cons' (o':=1) zKr (Jd N) (.cons' (o':=2) zKr (Z2 N) (.nil 2))) zKr).map
  (fun x=>((x.1,x.2.1):tA×Int)) (fun _=>rfl) (fun x h=>h.2.1)).le zOm
theorem qpG(N):ShU qe N 107 (fun l:List (tA×Int)=>[lPm l]) (fun l=>l.length<=140737488351232):=
 ((ShU.slice qpA (qpF N) (fun _ _=>zKr) (Nat.lt_of_lt_of_eq (show 0<2 by omega) zKr) zKr).le zOm).map (fun l=>l) (fun _=>rfl) fun _ h=>h.1
theorem qpH(N):ShU qe N 109 cPd (fun _=>True):=
 ((ShU.struct (fs:=[(9,0),(107,1),(35,2)]) zKr (.cons' (o':=1) zKr (Jd N) (.cons' (o':=2) zKr (qpG N) (.cons' (o':=7) zKr (U4 N) (.nil 7)))) zKr).map
  (fun x=>(⟨x.1,x.2.1,x.2.2.1⟩:Pd)) (fun x=>by simp[cPd]) fun _ _=>trivial).le zOm
theorem qpI(N):ShU qe N 89 cFa (fun _=>True):=
 ((ShU.struct (fs:=[(9,0),(35,1)]) zKr (.cons' (o':=1) zKr (Jd N) (.cons' (o':=6) zKr (U4 N) (.nil 6))) zKr).map
  (fun x=>((x.1,x.2.1):tA×Nd)) (fun x=>by simp[cFa]) fun _ _=>trivial).le zOm
structure okTA (ts:TS):Prop where
 so:∀ x,x∈ts.sS->okS x.1
 nso:ts.sS.length<=140737488351232
 nf:ts.sA.length<=140737488351232
 fl:∀ f,f∈ts.sA->f.sS.length<=140737488351232/\∀ x,x∈f.sS->okI x
theorem qpJ(N):ShU qe N 27 cTS okTA:=by
 have s1:=(ShU.slice qo7 (qpE N) (fun _ _=>zKr) (Nat.lt_of_lt_of_eq (show 0<2 by omega) zKr) zKr).le (M:=N) zOm;have i:=(ShU.slice qo8 (qpD N) (fun _ _=>zKr) (Nat.lt_of_lt_of_eq (show 0<3 by omega) zKr) zKr).le (M:=N) zOm;have j:=(ShU.slice qpB (qpH N) (fun a h=>(Zh a).1.trans zKr) (Nat.lt_of_lt_of_eq (show 0<7 by omega) zKr) zKr).le (M:=N) zOm;have l:=(ShU.slice qpC (qpI N) (fun a h=>(nL a).1.trans zKr) (Nat.lt_of_lt_of_eq (show 0<6 by omega) zKr) zKr).le (M:=N) zOm;have U:=ShU.struct (t:=27) (fs:=[(22,0),(23,1),(24,2),(25,3)]) zKr (.cons' (o':=1) zKr s1 (.cons' (o':=2) zKr i (.cons' (o':=3) zKr j (.cons' (o':=4) zKr l (.nil 4))))) zKr;exact(U.map (fun x=>(⟨x.1,x.2.1,x.2.2.1,x.2.2.2.1⟩:TS)) (fun _=>rfl) fun x h=>⟨h.1.2,h.1.1,h.2.1.1,h.2.1.2⟩).le zOm
theorem unU8:qe.underlying 5=some (.int .u8):=by kernel_rfl
theorem shU8(N):ShU qe N 5 (fun n:Int=>[.sc (.int .u8 n)]) (fun n=>0<=n/\n<=255):=
 (ShU.int unU8 N).map (fun n=>n) (fun _=>rfl) (fun n h=>by
  simp[Lit.wf,IntKind.min,IntKind.max,IntKind.signed,IntKind.bits]at h;exact h)
end DT
namespace QA
open P1 Q9
def bA:tA:=⟨#[65]⟩
def bB:tA:=⟨#[66]⟩
def bf:tA:=⟨#[102]⟩
def bp:tA:=⟨#[112]⟩
def bx:tA:=⟨#[120]⟩
def qpK:TS:=⟨[(bA,false),(bB,true)],[⟨bf,[0,1],false⟩],[⟨bp,[(bx,0)],ndOp 34 [ndOp 9 [UV bx 7,UV bf 9]]⟩],[]⟩
end QA
namespace QB
open P1 Y1 Q6 Q9 QA
def nC:Nd := .mk 45 bf 0 [UV bA 2,.mk 47 bp 0 [UV bf 5] 3] 1
theorem c0:(yi qpK [] nC).1=0:=by decide +kernel
theorem h47:anyN (fun n=>decide (n.op=47)) nC=true:=by decide +kernel
def WkR:List (List AV)->List (List AV)->Prop
 | [],[]=>True
 |x :: T,y :: i=>WKs x y/\WkR T i
 |_,_=>False
theorem qcJ:∀{xs ys g i},WKs xs ys->WKs g i->WKs (xs++g) (ys++i)
 | [],[],_,_,_,j=>j
 |_ :: _,_ :: _,_,_,⟨h,t⟩,j=>⟨h,qcJ t j⟩
 | [],_ :: _,_,_,h,_=>h.elim
 |_ :: _,[],_,_,h,_=>h.elim
theorem qcK:∀{xs ys},WkR xs ys->ys.length=xs.length/\(∀(k:Nat) x y,xs[k]?=some x->ys[k]?=some y->x.length=y.length)/\WKs xs.flatten ys.flatten
 | [],[],_=>⟨rfl,fun k x y h=>by simp at h,trivial⟩
 |x :: xs,y :: ys,⟨h,t⟩=>by
  obtain⟨j,l,o⟩:=qcK t;refine⟨zP1 j,fun k a b g i=>?_,by rw[wT,wT];exact qcJ h o⟩;cases k with
  |zero=>simp at g i;subst g;subst i;exact h.get.1.symm
  |succ k=>exact l k a b (zUs g) (zUs i)
 | [],_ :: _,h=>h.elim
 |_ :: _,[],h=>h.elim
theorem wF{full xs ys}(h:WkR xs ys):WK (.lst full xs) (.lst false ys):=by
 obtain⟨o,I,J⟩:=qcK h;have P:=pL o I;have R:=J.get.2;intro G T v r;cases r with
 |nil=>cases ys with
  |nil=>exact .nil _
  |cons=>simp at o
 |emp _ a cap U=>cases ys with
  |nil=>exact .emp _ a cap zSp
  |cons=>simp at o
 |lst _ _ g a cap cs e fr rd hb hs hl U hi p hr hv =>
  rw[<-o];have i:∀(k:Nat) y,ys.flatten[k]?=some y->∃ x,xs.flatten[k]?=some x:=by
   intro k y l;have t:k<ys.flatten.length:=(qk.1 l).1;exact⟨xs.flatten[k]' zOm,by simp only[qA (show k<xs.flatten.length by omega)]⟩
  refine .lst false ys g a cap cs e fr rd hb hs zOm zSp hi ?_ ?_ ?_
  .intro r C
   obtain⟨k,t⟩:=List.mem_iff_getElem?.1 C;have a0:k<ys.length:=(qk.1 t).1;have j:xs[k]?=some (xs[k]' zOm):=by simp[show k<xs.length by omega]
   rw[<-I k _ r j t];exact p _ (q8 j)
  .intro k y l
   obtain⟨x,j⟩:=i k y l;exact hr k x j
  .intro k y l
   obtain⟨x,j⟩:=i k y l;exact R k x y j l G T _ (hv k x j)
theorem U5(op nm n){ks l}(p)(h:WK ks (lNd l)):WKs [aI op,aS nm,aI n,ks,aI p] (cNd (.mk op nm n l p)):=by
 rw[yB];exact⟨.hf (HF.sc _),.hf (HF.sc _),.hf (HF.sc _),h,.hf (HF.sc _),trivial⟩
theorem qcL(op nm n){ks l}(p)(h:WK ks (lNd l)):WK (.agg [aI op,aS nm,aI n,ks,aI p]) (eNd (.mk op nm n l p)):=WK.aggs (U5 op nm n p h)
end QB
namespace PB
open P1 P2 Y1 Y2 Y6 Y9 Y12 YW QB
section
variable {b':Kd}
def Sub(a b:Kd):Prop:=a.ar=b.ar/\∀ t,t∈a.ts->t∈b.ts
theorem qpL{n m a g b b'}(i:∀ t,t∈a->t∈g)(j:∀ t,t∈b->t∈b'):∀ t,t∈uL n m a b->t∈uL n m g b':=fun t l=>by
 grind [Ze]
theorem qpM{n m a g b b'}(i:∀ t,t∈a->t∈g)(j:∀ t,t∈b->t∈b'):∀ t,t∈Qe n m a b->t∈Qe n m g b':=fun t l=>by
 grind [JI]
theorem U6{a j b}(g:Sub a j)(i:Sub b b'):Sub (zT a b) (zT j b'):=by
 refine⟨by simp only[zT];rw[g.1,i.1],fun t l=>?_⟩;simp only[zT]at l⊢;rw[<-g.1,<-i.1];exact qpL g.2 i.2 t l
theorem qpN{a j b}(g:Sub a j)(i:Sub b b'):Sub (uM a b) (uM j b'):=by
 refine⟨by simp only[uM];rw[g.1,i.1],fun t l=>?_⟩;simp only[uM]at l⊢;rw[<-g.1,<-i.1];exact qpM g.2 i.2 t l
theorem Zt{a b}{t:Tp}:t∈(kSum a b).ts↔t∈a.ts\/t∈b.ts:=by
 show t∈uni (uni [] a.ts) b.ts↔_;rw[vY,vY];simp
theorem qcM{a g b}(i:Sub a g)(j:∀ t,t∈b.ts->t∈b'.ts):Sub (kSum a b) (kSum g b'):=
 ⟨i.1,fun t l=>Zt.2 ((Zt.1 l).imp (i.2 t) (j t))⟩
theorem Sub.refl(a):Sub a a:=⟨rfl,fun _ h=>h⟩
theorem Sub.trans{a b c}(h:Sub a b)(k:Sub b c):Sub a c:=⟨h.1.trans k.1,fun t g=>k.2 t (h.2 t g)⟩
theorem K4(a b):Sub a (kSum a b):=⟨rfl,fun t g=>Zt.2 (.inl g)⟩
theorem qpO{a g}(i:Sub a g):Sub (kTr a) (kTr g):=⟨rfl,fun t j=>by
 obtain⟨x,l,e⟩:=UG.1 j;exact UG.2 ⟨x,i.2 x l,e⟩⟩
def U7(k:Kd):Prop:=∀ t,t∈(zT k k).ts->t∈k.ts
theorem K5:∀ f n a,Sub a (cloN f n a)
 | 0,n,a => .refl a
 |f+1,n,a=>by
  unfold cloN;split
  .exact (K4 a _).trans (K5 f _ _)
  .exact .refl a
theorem K6{S}(i:U7 S):∀ f n a,Sub a S->Sub (cloN f n a) S
 | 0,n,a,h=>h
 |f+1,n,a,h=>by
  unfold cloN;split
  .refine K6 i f _ _ ⟨h.1,fun t g=>?_⟩
   rcases Zt.1 g with g|g
   .exact h.2 t g
   .exact i t ((U6 h h).2 t g)
  .exact h
theorem K7{ns}(o:ns<=4):∀ f n a,okKd ns a->a.ar=2->70<=f+n->(n=0\/∃ p,okKd ns p/\p.ar=2/\n=p.ts.length/\a=kSum p (zT p p))->U7 (cloN f n a)
 | 0,n,a,g,r,hf,C=>by
  rcases C with rfl|⟨p,J,_,rfl,_⟩
  .omega
  grind [aH]
 |f+1,n,a,g,r,hf,C=>by
  unfold cloN;split
  .rename_i T
   have U:okKd ns (zT a a):=J5 g g zOm zOm;refine K7 o f _ _ (J3 g U (by grind [zT])) r zOm (.inr ⟨a,g,r,rfl,rfl⟩)
  .rename_i a0
   rcases C with rfl|⟨p,J,a1,rfl,rfl⟩
   .have:a.ts=[]:=wS zOm
    intro t i;obtain⟨x,y,⟨I,_⟩,_⟩:=Ze.1 i
    grind
   .have j:∀ t,t∈(kSum p (zT p p)).ts->t∈p.ts:=by
     have a2:(kSum p (zT p p)).ts.Nodup:=g.nd;have a3:∀ t,t∈p.ts->t∈(kSum p (zT p p)).ts:=(K4 p _).2;intro t i;by_cases P:t∈p.ts
     .exact P
     .exfalso
      have l:(t :: p.ts).Nodup:=List.nodup_cons.2 ⟨P,J.nd⟩;have:=j5 l (l₂:=(kSum p (zT p p)).ts) (fun x I=>by
       rcases qy.1 I with rfl|I
       .exact i
       grind)
      grind
    intro t i;have R:Sub (kSum p (zT p p)) p:=⟨rfl,j⟩;exact Zt.2 (.inr ((U6 R R).2 t i))
theorem qpP{ns}(g:ns<=4){a u}(h:Sub a u)(i:okKd ns u)(j:u.ar=2):Sub (kClo a) (kClo u):=
 K6 (K7 g 70 0 u i j zOm (.inl rfl)) 70 0 a (h.trans (K5 70 0 u))
theorem qcN(c):∀ m n s k,szN n<=m->exam c s true n = .ok k->exam c s false n = .ok k
 | 0,n,_,_,I,_=>by obtain⟨op,nm,i,ks,p⟩:=n;simp[szN]at I
 |m+1,n,s,k,I,h=>by
  have P:∀ x,x∈n.sD->∀(s:Scp)(g:Bool)(k:Option Kd),exam c s true x = .ok k->exam c s g x = .ok k:=fun x t s g k h=>by
   cases g with
   |true=>exact h
   |false=>exact qcN c m x s k (zW1 (yw t)) h
  have U:∀(l:List Nd),(∀ x,x∈l->x∈n.sD)->∀(s:Scp)(g:Bool)(r:List (Option Kd)),ze c s true l = .ok r->ze c s g l = .ok r:=by
   intro l;induction l with
   |nil=>intro _ s g r h;exact h
   |cons x l R =>
    grind [ze,exam,zl,zc]
  rw[jh]at h⊢;simp only[Bool.true_and,Bool.false_and,Bool.true_or,Bool.false_or,Bool.false_eq_true,if_false]at h⊢;split at h
  .cases h
  by_cases T:n.op=1
  .grind
  rw[if_neg T]at h⊢;by_cases h47:n.op=47
  .grind
  rw[if_neg h47]at h⊢;by_cases J:n.op=15\/n.op=45\/n.op=46
  .rw [if_pos J]at h⊢
   cases j:n.sD with
   |nil=>rw[j]at h;exact h
   |cons x l =>
    have o:∀ y,y∈x :: l->y∈n.sD:=fun y hy=>by grind
    rw[j]at h;simp only[ym]at h⊢;cases t:exam c s true x with
    |error e=>grind
    |ok a =>
     rw[t]at h;rw[P x (o x (zl ..)) s _ a t];cases a with
     |none=>cases h
     |some a =>
      simp only at h⊢;split at h
      .rename_i C
       rw[if_pos C]
       grind
      .cases h
  rw[if_neg J]at h⊢
  grind
section
variable {ts:TS} (ok:okTS ts) (a b d:Nd)
include ok
end
end
end PB
namespace PC
open YS P1 P2 Y1 Y2 Y9 Y10 Y12 YZ YA PA YC YG Q1 Q3 Q4 PB
section
variable {nm:tA}{es:List (tA×Bool)}
theorem qpQ{a i b b'}(j:Sub i a)(l:Sub b' b):Sub (Ys i b') (Ys a b):=⟨j.1,fun t g=>by
 simp only[Ys,jM,decide_eq_true_eq]at g⊢;exact⟨j.2 t g.1,l.2 t g.2⟩⟩
theorem qpR{op a g b b'}(i:Sub g a)(j:Sub b' b):Sub (ul op g b') (ul op a b):=by
 unfold ul;split
 .exact qcM i j.2
 grind [qpQ]
theorem qpS{ns}(i:ns<=4){op a g}(h:Sub g a)(ok:okKd ns a)(j:a.ar=2):Sub (binK ns op g) (binK ns op a):=by
 grind [binK,qpP,qcM,qpO]
theorem apK1(ns op n pos a):yh ns op n pos [some a]=if op=2 then .ok (some ⟨n,[]⟩) else if op=3 then .ok (some (zB ns 1)) else if op=4 then .ok (some (zB ns 2)) else
  if op=5 then .ok (some a) else if op=11\/op=12\/op=13 then (if a.ar=2 then .ok (some (binK ns op a)) else .error (42,pos)) else .ok none:=rfl
theorem apK2(ns op n pos a b) : yh ns op n pos [some a, some b] = if op = 2 then .ok (some ⟨n, []⟩) else if op = 3 then .ok (some (zB ns 1)) else if op = 4 then .ok (some (zB ns 2)) else
      if op=6\/op=14\/op=7\/op=8\/op=32\/op=33 then (if a.ar=b.ar then .ok (some (ul op a b)) else .error (42,pos))
      else if op=9 then (if 1<=a.ar+b.ar-2/\a.ar+b.ar-2<=3 then .ok (some (zT a b)) else .error (42,pos))
      else if op=10 then (if a.ar+b.ar<=3 then .ok (some (uM a b)) else .error (42,pos))
      else .ok none:=rfl
theorem qpT{ns}(J:ns<=4){op num pos l l' R}(e1:op≠1)(a0:op≠15)
  (h1:op=5\/op=11\/op=12\/op=13->∃ a j,l=[some a]/\l'=[some j]/\Sub j a/\okKd ns a)
  (h2:op=6\/op=14\/op=7\/op=8\/op=32\/op=33\/op=9\/op=10->∃ a b j b',l=[some a,some b]/\l'=[some j,some b']/\Sub j a/\Sub b' b)
  (h:yh ns op num pos l = .ok R):∃ p,yh ns op num pos l' = .ok p/\(kd op=101->∃ k k',R=some k/\p=some k'/\Sub k' k):=by
 by_cases o:op=2
 .unfold yh at h⊢
  rw[if_pos o]at h⊢;cases h;exact⟨_,rfl,fun _=>⟨_,_,rfl,rfl,Sub.refl _⟩⟩
 by_cases r:op=3
 .unfold yh at h⊢
  rw[if_neg o,if_pos r]at h⊢;cases h;exact⟨_,rfl,fun _=>⟨_,_,rfl,rfl,Sub.refl _⟩⟩
 by_cases t:op=4
 .unfold yh at h⊢
  rw[if_neg o,if_neg r,if_pos t]at h⊢;cases h;exact⟨_,rfl,fun _=>⟨_,_,rfl,rfl,Sub.refl _⟩⟩
 by_cases g1:op=5\/op=11\/op=12\/op=13
 .obtain ⟨a,j,rfl,rfl,T,ok⟩:=h1 g1
  rw[apK1,if_neg o,if_neg r,if_neg t]at h⊢;by_cases U:op=5
  .rw [if_pos U]at h⊢
   cases h
   grind
  have g:op=11\/op=12\/op=13:=zOm;rw[if_neg U,if_pos g]at h⊢;by_cases i:a.ar=2
  .rw [if_pos i]at h
   rw[if_pos (T.1.trans i)];cases h;exact⟨_,rfl,fun _=>⟨_,_,rfl,rfl,qpS J T ok i⟩⟩
  grind
 by_cases g2:op=6\/op=14\/op=7\/op=8\/op=32\/op=33\/op=9\/op=10
 .obtain ⟨a,b,j,b',rfl,rfl,C,I⟩:=h2 g2
  have q1:=C.1;have q2:=I.1;rw[apK2,if_neg o,if_neg r,if_neg t]at h⊢;by_cases g3:op=6\/op=14\/op=7\/op=8\/op=32\/op=33
  .rw [if_pos g3]at h⊢
   by_cases i:a.ar=b.ar
   .rw [if_pos i]at h
    rw[if_pos zOm];cases h;exact⟨_,rfl,fun _=>⟨_,_,rfl,rfl,qpR C I⟩⟩
   grind
  rw[if_neg g3]at h⊢;by_cases e9:op=9
  .rw [if_pos e9]at h⊢
   by_cases i:1<=a.ar+b.ar-2/\a.ar+b.ar-2<=3
   .rw [if_pos i]at h
    rw[if_pos zOm];cases h;exact⟨_,rfl,fun _=>⟨_,_,rfl,rfl,U6 C I⟩⟩
   grind
  have P:op=10:=zOm;rw[if_neg e9,if_pos P]at h⊢;by_cases i:a.ar+b.ar<=3
  .rw [if_pos i]at h
   rw[if_pos zOm];cases h;exact⟨_,rfl,fun _=>⟨_,_,rfl,rfl,qpN C I⟩⟩
  grind
 refine⟨none,UH o r t zOm zOm zOm zOm zOm zOm zOm zOm zOm zOm zOm zOm,fun hk=>?_⟩;have:=UJ hk;omega
theorem qpU{c n k}(h:yD c n=false)(g:k∈n.sD):yD c k=false:=by
 grind [Uq,Bool.or_eq_false_iff,List.any_eq_false]
theorem K8{c b b'}:∀{ks s},(∀ k,k∈ks->∀ s,exam c s b k=exam c s b' k)->ze c s b ks=ze c s b' ks
 | [],s,_=>by simp only[ze]
 |k :: ks,s,h=>by
  simp only[ze];rw[h k (zl ..) s,K8 fun k g s=>h k (zc _ g) s]
theorem qpV{c b b' pos}:∀{ks s},(∀ k,k∈ks->∀ s,exam c s b k=exam c s b' k)->ym c s b nm pos ks=ym c s b' nm pos ks
 | [],s,_=>by simp only[ym]
 |k :: ks,s,h=>by
  grind [ym,zl,exam,K8,zc]
theorem qcO(c):∀ m n s b b',szN n<=m->yD c n=false->exam c s b n=exam c s b' n
 | 0,n,_,_,_,g,_=>by obtain⟨op,nm,i,ks,p⟩:=n;simp[szN]at g
 |m+1,n,s,b,b',g,h=>by
  have j:∀ b b' k,k∈n.sD->∀ s,exam c s b k=exam c s b' k:=fun b b' k l s=>qcO c m k s b b' (zW1 (yw l)) (qpU h l)
  have o:z7 c n.op n.name=false:=by rw[Uq,Bool.or_eq_false_iff]at h;exact h.1
  rw[jh,jh,o,Bool.and_false,Bool.and_false];rw[qpV (b:=b||decide (n.op=15)) (b':=b'||decide (n.op=15)) (j _ _),K8 (b:=b||decide (n.op=12)||decide (n.op=13)) (b':=b'||decide (n.op=12)||decide (n.op=13)) (j _ _)]
theorem U8(ts i):∀ m,i<m->m<=ts.sT.length->∀ j,(tmsL ts m).getD i false=yD (mkCk ts i) ts.sT[i].body
 | 0,h,_,_=>absurd h zOm
 |m+1,h,r,j=>by
  have l:=ZV ts m zOm;have g:m<ts.sT.length:=zOm;have e:tmsL ts (m+1)=tmsL ts m++[yD (mkCk ts m) ts.sT[m].body]:=by
   show tmsL ts m++(match ts.sT[m]? with|some p=>[yD ⟨ts,m,tmsL ts m⟩ p.body] | none=>[])=_;rw[qA g];rfl
  rw[e];by_cases o:i<m
  .rw [<-U8 ts i m o zOm j]
   simp only[zG];rw[zGa]
  .have:i=m:=by omega
   subst this;simp only[zG];rw[zJ zOm,l];simp
abbrev tkn(es:List (tA×Bool))(nm:tA):Prop:=getK nm es=some true
def Tk(es:List (tA×Bool))(n:Nd):Prop:=∀ x,x∈preN n->tkn es x.name
def OwnT(n:Nd):Prop:=∀ x,x∈preN n->ownB x=true
def vLe(es:List (tA×Bool))(L:Int)(nm:tA):Prop:=∃ j:Nat,(j:Int)<=L/\nm=vN j/\¬tkn es nm/\ji nm=true
structure qpW (es:List (tA×Bool)) (L:Int) (x:Nd):Prop where
 nc:x.op≠47
 own:ownB x=true
 nm:tkn es x.name\/vLe es L x.name
structure vL (es:List (tA×Bool)) (L:Int) (n:Nd):Prop where
 wf:WfN n
 all:∀ x,x∈preN n->qpW es L x
theorem vLe.mono{L L'}(h:vLe es L nm)(g:L<=L'):vLe es L' nm:=by
 obtain⟨j,a,b⟩:=h;exact⟨j,zOm,b⟩
theorem vL.mono{L L' n}(h:vL es L n)(i:L<=L'):vL es L' n:=
 ⟨h.wf,fun x g=>⟨(h.all x g).nc,(h.all x g).own,(h.all x g).nm.imp id fun v=>v.mono i⟩⟩
theorem Tk.kid{n k}(h:Tk es n)(g:k∈n.sD):Tk es k:=fun x i=>h x (KR g i)
theorem OwnT.kid{n k}(h:OwnT n)(g:k∈n.sD):OwnT k:=fun x i=>h x (KR g i)
theorem U9{ks x}(h:x∈zy ks):∃ k,k∈ks/\x∈preN k:=by
 induction ks with
 |nil=>simp[zy]at h
 |cons a l g =>
  simp only[zy,qK]at h;rcases h with h|h
  .exact ⟨a,zl ..,h⟩
  .obtain ⟨k,i,j⟩:=g h
   exact⟨k,zc _ i,j⟩
theorem qpX{n}(h:wD nm n):∃ x,x∈preN n/\x.name=nm:=by
 unfold wD at h;rw[U2 _ (szN n) n (qr _),List.any_eq_true]at h
 grind
theorem K9{ts es}:∀{f k},(∃ j:Nat,1<=j/\j<=f/\yJ ts es (vN (k+j))=true)->yJ ts es (vN (zz ts es f k))=true
 | 0,k,⟨j,i,l,_⟩=>zOm
 |f+1,k,⟨j,i,l,g⟩=>by
  simp only[zz];split
  .rename_i h;exact h
  .rename_i o
   have p:j≠1:=fun e=>by subst e;exact o g
   exact K9 (ts:=ts) (es:=es) (f:=f) (k:=k+1) ⟨j-1,zOm,zOm,by rw[show k+1+((j-1:Nat):Int)=k+j by omega];exact g⟩
theorem qcP:∀ m u,u<10 ^ (m+1)->(Lib.decDigits u).length<=m+1
 | 0,u,h=>by
  grind [Lib.decDigits]
 |m+1,u,h=>by
  rw[Lib.decDigits];split
  .simp
  .rw [za]
   have:=qcP m (u / 10) (by rw[Nat.pow_succ]at h;omega);simp only[zu,List.length_nil];omega
theorem qcQ:∀ m u,u<=m->∀ x,x∈Lib.decDigits u->48<=x.toNat/\x.toNat<=57
 |m,u,i,x,g=>by
  rw[Lib.decDigits]at g;split at g
  .rename_i h
   rw[qV]at g;subst g;rw[UInt8.toNat_ofNat_of_lt' (by simp[UInt8.size];omega)];omega
  .rename_i h
   rcases qK.1 g with g|g
   .match m with
    | 0=>omega
    |m+1=>exact qcQ m (u / 10) zOm x g
   .rw [qV]at g
    subst g;rw[UInt8.toNat_ofNat_of_lt' (by simp[UInt8.size];omega)];omega
theorem qpY(u):Lib.decDigits u≠[]:=by
 rw[Lib.decDigits];split<;>simp
theorem qpZ(j:Nat):(vN (j:Int)).data.toList=118 :: Lib.decDigits j:=by
 simp_all[vN,jA,Lib.itoa,if_neg]
theorem qp0:∀ x,x∈kwL->∀ c,x.data.toList[1]?=some c->¬(48<=c.toNat/\c.toNat<=57):=by decide +kernel
theorem qp1{j:Nat}(h:j<1000000000000):ji (vN (j:Int))=true:=by
 have l:=qpZ j;have J:=qcP 11 j zOm;have p:=qcQ j j (qr _);have t:=qpY j;obtain⟨d,r,e⟩:=List.exists_cons_of_ne_nil t;have C:(vN (j:Int)).size=1+(Lib.decDigits j).length:=by
  have e:(vN (j:Int)).size=(vN (j:Int)).data.toList.length:=by rw[Array.length_toList];rfl
  rw[e,l,zu,Nat.add_comm]
 have o:kwB (vN (j:Int))=false:=by
  unfold kwB;rw[List.any_eq_false];intro x I g;have g:x=vN (j:Int):=zUs g;refine qp0 x I d ?_ (p d (by rw[e];exact zl ..));rw[g,l,e];rfl
 unfold ji;simp only[qI,decide_eq_true_eq,o,Bool.not_false,and_true];refine⟨⟨zOm,zOm⟩,?_⟩;rw[zA];intro i _;rw[<-Array.getElem?_toList,l];cases i with
 |zero=>show chB 0 ((118:UInt8).toNat:Int)=true;decide
 |succ i =>
  rw[vP];cases g:(Lib.decDigits j)[i]? with
  |none=>rfl
  |some c =>
   have:=p c (q8 g);simp[chB];right;right;omega
end
end PC
namespace PD
open P1 P2 Y1 Y2 Y9 YX YZ YA YB PA YC YG Q3 Q4 PB PC
section
variable {body:Bool}{nm:tA}{env:IEnv}{L:Int}{es:List (tA×Bool)}{l l':List (Option Kd)}{s s':Scp}
structure ArgR (c0:Ck) (es:List (tA×Bool)) (L:Int) (s':Scp) (k:Kd) (a:Nd):Prop where
 ex:∃ k',exam c0 s' true a = .ok (some k')/\Sub k' k
 good:vL es L a
 kd:kd a.op=101
def RlV(c0:Ck)(es:List (tA×Bool))(L:Int)(s':Scp)(v:tA):Option Kd->Option IV->Prop
 |none,none=>True
 |none,some _=>False
 |some k,none=>∃ g,lookS v s'=some g/\Sub g k
 |some k,some ⟨some a,_,_⟩=>ArgR c0 es L s' k a
 |some k,some ⟨none,_,i⟩=>(∃ g,lookS i s'=some g/\Sub g k)/\vLe es L i
structure Rl (c0:Ck) (es:List (tA×Bool)) (L:Int) (body:Bool) (s s':Scp) (env:IEnv):Prop where
 mean:∀ v,v∈s'->means c0.ts v.1=[]
 rel:∀ v,tkn es v->RlV c0 es L s' v (lookS v s) (getK v env)
 arg:body=false->∀ v iv,getK v env=some iv->iv.arg=none
theorem RlV.mono{c0 L' v g i}(h:RlV c0 es L s' v g i)(j:L<=L'):RlV c0 es L' s' v g i:=by
 match g,i with
 |none,none=>exact h
 |none,some _=>exact h
 |some k,none=>exact h
 |some k,some ⟨some a,_,_⟩ =>
  have h:ArgR c0 es L s' k a:=h;exact(⟨h.ex,h.good.mono j,h.kd⟩:ArgR c0 es L' s' k a)
 |some k,some ⟨none,_,l⟩=>exact⟨h.1,h.2.mono j⟩
theorem Rl.mono{c0 L'}(h:Rl c0 es L body s s' env)(g:L<=L'):Rl c0 es L' body s s' env:=
 ⟨h.mean,fun v i=>(h.rel v i).mono g,h.arg⟩
theorem Wa:∀{s k},lookS nm s=some k->(nm,k)∈s
 | [],k,h=>by simp[qoJ]at h
 |v :: s,k,h=>by
  rw[Zr]at h;split at h
  .rename_i e
   cases h;rw[<-e];exact zl ..
  .exact zc _ (Wa h)
theorem Rl.bind{c0}{st:ISt}{k k'}(a4:Free c0.ts es)(a0:(env.map Prod.fst).Nodup)(h:Rl c0 es st.last body s s' env)(h0:0<=st.last)(hb:st.last+(qq c0.ts es:Nat)<1000000000000)(ht:tkn es nm)(hs:Sub k' k) :
  Rl c0 es (renI c0.ts es env nm body st).2.last body ((nm,k) :: s) (((renI c0.ts es env nm body st).1.2,k') :: s') (renI c0.ts es env nm body st).1.1/\st.last<=(renI c0.ts es env nm body st).2.last/\(tkn es (renI c0.ts es env nm body st).1.2\/vLe es (renI c0.ts es env nm body st).2.last (renI c0.ts es env nm body st).1.2):=by
 have a1:∀ v,lookS v ((nm,k) :: s)=if nm=v then some k else lookS v s:=fun v=>Zr v _ _
 unfold renI;by_cases hc:body=true\/means c0.ts nm≠[]
 .rw [if_pos hc]
  have a2:=a4 st.last h0;have o:=K9 a2;have a9:=KS c0.ts es (qq c0.ts es) st.last;have a7:=KT a2;generalize zz c0.ts es (qq c0.ts es) st.last=J at *
  obtain⟨j,rfl⟩:∃ j:Nat,J=j:=⟨J.toNat,zOm⟩;simp only[yJ,qI,decide_eq_true_eq]at o;obtain⟨f1,f2⟩:=o;have hv:vLe es (j:Int) (vN j):=⟨j,vh _,rfl,f1,qp1 zOm⟩;have T:∀ v,v≠vN (j:Int)->lookS v ((vN (j:Int),k') :: s')=lookS v s':=fun v hv=>by
   rw[Zr,if_neg (fun e=>hv e.symm)]
  have a5:∀{v:tA},vLe es st.last v->v≠vN (j:Int):=fun⟨i,hi,e,_⟩ r=>by
   grind [qcD]
  have a3:∀ v,getK v (setK nm ⟨none,0,vN (j:Int)⟩ (delK nm env))=if v=nm then some ⟨none,0,vN (j:Int)⟩ else getK v env:=fun v=>by
   grind [vw,Zc]
  refine⟨⟨fun v U=>?_,fun v C=>?_,fun p v I g=>?_⟩,by grind,.inr hv⟩
  .rcases qy.1 U with rfl|U
   .exact f2
   .exact h.mean v U
  .show RlV c0 es (j:Int) ((vN (j:Int),k') :: s') v (lookS v ((nm,k) :: s)) (getK v (setK nm ⟨none,0,vN (j:Int)⟩ (delK nm env)))
   rw[a1,a3];by_cases t:nm=v
   .rw [if_pos t,if_pos t.symm]
    exact⟨⟨k',by rw[Zr,if_pos rfl],hs⟩,hv⟩
   .rw [if_neg t,if_neg (fun e=>t e.symm)]
    have l:=(h.rel v C).mono (L':=(j:Int)) zOm;have P:=h.rel v C;generalize lookS v s=lk at *
    generalize getK v env=I at *
    match lk,I with
    |none,none=>trivial
    |none,some _=>exact l
    |some q,none =>
     obtain⟨R,e1,r⟩:=l;exact⟨R,by grind,r⟩
    |some q,some ⟨some a,_,_⟩ =>
     have l:ArgR c0 es (j:Int) s' q a:=l;have P:ArgR c0 es st.last s' q a:=P;refine(⟨?_,l.good,l.kd⟩:ArgR c0 es (j:Int) ((vN (j:Int),k') :: s') q a);obtain⟨R,e1,r⟩:=l.ex;refine⟨R,?_,r⟩;rw[<-e1];refine qb0 (wE.refl c0) (szN a) a _ _ true (qr _) fun x hx=>?_
     obtain⟨y,hy,rfl⟩:=qpX hx;rcases (P.good.all y hy).nm with h1|h1
     .grind
     grind
    |some q,some ⟨none,_,to⟩ =>
     obtain⟨⟨R,e1,r⟩,e3⟩:=l;exact⟨⟨R,by rw[T to (a5 P.2)];exact e1,r⟩,e3⟩
  .have g:getK v (setK nm ⟨none,0,vN (j:Int)⟩ (delK nm env))=some I:=g
   rw[a3]at g;split at g
   .cases g;rfl
   .exact h.arg p v I g
 .rw [if_neg hc]
  have p:body=false:=by
   grind
  have a6:means c0.ts nm=[]:=by
   grind
  have T:∀ v,v≠nm->lookS v ((nm,k') :: s')=lookS v s':=fun v hv=>by
   rw[Zr,if_neg (fun e=>hv e.symm)]
  refine⟨⟨fun v U=>?_,fun v C=>?_,fun p v I g=>?_⟩,vh _,.inl ht⟩
  .rcases qy.1 U with rfl|U
   .exact a6
   .exact h.mean v U
  .show RlV c0 es st.last ((nm,k') :: s') v (lookS v ((nm,k) :: s)) (getK v (delK nm env))
   rw[a1,Zc a0];by_cases t:nm=v
   .rw [if_pos t,if_pos t.symm]
    exact⟨k',by rw[Zr,if_pos t],hs⟩
   .rw [if_neg t,if_neg (fun e=>t e.symm)]
    have l:=h.rel v C;have a8:=h.arg p v;generalize lookS v s=lk at *
    generalize getK v env=I at *
    match lk,I with
    |none,none=>trivial
    |none,some _=>exact l
    |some q,none =>
     obtain⟨R,e1,r⟩:=l;exact⟨R,by grind,r⟩
    |some q,some ⟨some a,_,_⟩=>grind
    |some q,some ⟨none,_,to⟩ =>
     obtain⟨⟨R,e1,r⟩,e3⟩:=l;refine⟨⟨R,?_,r⟩,e3⟩;rw[T to fun e=>?_]
     .exact e1
     .obtain ⟨_,_,_,hn,_⟩:=e3
      grind
  .have g:getK v (delK nm env)=some I:=g
   rw[Zc a0]at g;split at g
   .cases g
   .exact h.arg p v I g
structure Out (c0:Ck) (es:List (tA×Bool)) (s':Scp) (inn:Bool) (n n':Nd) (ko:Option Kd) (L L':Int):Prop where
 ex:∃ ko',exam c0 s' inn n' = .ok ko'/\(kd n.op=101->∃ k k',ko=some k/\ko'=some k'/\Sub k' k)
 good:vL es L' n'
 kd:kd n'.op=kd n.op
 le:L<=L'
def Pt(es:List (tA×Bool))(L:Int):List Nd->List Nd->List (Option Kd)->List (Option Kd)->Prop
 | [],[],[],[]=>True
 |k :: ks,i :: g,a :: l,o :: p=>((kd k.op=101->∃ q j,a=some q/\o=some j/\Sub j q)/\kd i.op=kd k.op/\vL es L i)/\Pt es L ks g l p
 |_,_,_,_=>False
theorem Pt.spec:∀{ks g l l'},Pt es L ks g l l'->(g.map fun k=>kd k.op)=(ks.map fun k=>kd k.op)/\∀ k,k∈g->vL es L k
 | [],[],[],[],_=>⟨rfl,fun k j=>absurd j qH⟩
 |k :: ks,k' :: g,a :: l,r :: l',h=>by
  obtain⟨⟨t,C,o⟩,p⟩:=h;obtain⟨I,J⟩:=Pt.spec p;refine⟨by grind,fun x i=>?_⟩;rcases qy.1 i with rfl|i
  .exact o
  grind
theorem Pt.cons{es L k ks j l l'}(h:Pt es L (k :: ks) j l l'):∃ k' g a l2 o i,j=k' :: g/\l=a :: l2/\l'=o :: i/\(kd k.op=101->∃ q p,a=some q/\o=some p/\Sub p q)/\Pt es L ks g l2 i:=by
 cases j with
 |nil=>cases l<;>cases l'<;>exact h.elim
 |cons k' g =>
  cases l with
  |nil=>cases l'<;>exact h.elim
  |cons a l2 =>
   cases l' with
   |nil=>exact h.elim
   |cons o i=>exact⟨k',g,a,l2,o,i,rfl,rfl,rfl,h.1.1,h.2⟩
theorem Pt.nil{g}(h:Pt es L [] g l l'):l=[]/\l'=[]:=by
 cases g with
 |nil =>
  cases l with
  |nil=>cases l' with
   |nil=>exact⟨rfl,rfl⟩
   |cons a l=>exact h.elim
  |cons a l=>cases l'<;>exact h.elim
 |cons k ks=>cases l<;>cases l'<;>exact h.elim
theorem Pt.one{ks i}(h:Pt es L ks i l l')(g:(ks.map fun k=>kd k.op)=[101]):∃ a j,l=[some a]/\l'=[some j]/\Sub j a:=by
 match ks,g with
 | [k],g =>
  obtain⟨t,o,a,C,j,p,rfl,rfl,rfl,I,r⟩:=h.cons;obtain⟨rfl,rfl⟩:=r.nil
  grind
 | [],g=>simp at g
 |_ :: _ :: _,g=>simp at g
theorem Pt.two{ks i}(h:Pt es L ks i l l')(g:(ks.map fun k=>kd k.op)=[101,101]):∃ a b o b',l=[some a,some b]/\l'=[some o,some b']/\Sub o a/\Sub b' b:=by
 match ks,g with
 | [k,j],g =>
  have g:kd k.op=101/\kd j.op=101:=zUs g;obtain⟨k',r,a,l2,o,t,rfl,rfl,rfl,C,I⟩:=h.cons;obtain⟨_,_,b,l3,b',J,rfl,rfl,rfl,P,R⟩:=I.cons;obtain⟨rfl,rfl⟩:=R.nil;obtain⟨q,T,rfl,rfl,e⟩:=C g.1;obtain⟨p,U,rfl,rfl,e2⟩:=P g.2;exact⟨q,p,T,U,rfl,rfl,e,e2⟩
 | [],g=>simp at g
 | [_],g=>simp at g
 |_ :: _ :: _ :: _,g=>simp at g
theorem qcR{c c0 F inn E R} :
  ∀{ks i nm o st g j J l},
  (∀ k,k∈ks->∀ st n' z g I,StOk F st->Rl c0 es st.last body s s' env->E env k st = .ok ((n',z),g)->exam c s inn k = .ok I->Out c0 es s' inn k n' I st.last g.last/\StOk F g) ->
  StOk F st->Rl c0 es st.last body s s' env->yR E R false i env nm ks st = .ok ((o,j,J),g)->ze c s inn ks = .ok l ->
  o=nm/\st.last<=g.last/\∃ l',ze c0 s' inn j = .ok l'/\Pt es g.last ks j l l'
 | [],i,nm,o,st,g,j,J,l,_,p,P,e,el=>by
  cases e;simp only[ze,Except.ok.injEq]at el;subst el;exact⟨rfl,vh _,[],by simp only[ze],trivial⟩
 |k :: ks,i,nm,o,st,g,j,J,l,U,p,P,e,el=>by
  simp only[yR,Bool.false_eq_true,false_and,if_false]at e;simp only[ze]at el;split at e
  .cases e
  .rename_i k' m1 s1 h1
   cases hx:exam c s inn k with
   |error er=>grind
   |ok I =>
    rw[hx]at el;simp only at el;obtain⟨r,t⟩:=U k (zl ..) st k' m1 s1 I p P h1 hx;cases C:ze c s inn ks with
    |error er=>grind
    |ok l1 =>
     rw[C]at el;cases el;split at e
     .cases e
     .rename_i a0 a1 m2 s2 h2
      obtain⟨e1,e2,l',e3,e4⟩:=qcR (fun k hk=>U k (zc _ hk)) t (P.mono r.le) h2 C;cases e;obtain⟨T,x1,x2⟩:=r.ex;refine⟨e1,zW1 r.le,T :: l',?_,⟨⟨x2,r.kd,r.good.mono e2⟩,e4⟩⟩;simp only[ze];rw[x1,e3]
theorem Je{c op}(h:op≠47):z7 c op nm=yC op:=by
 simp[z7,h]
theorem cB{n ks}(C:WfN n)(g:(ks.map fun k=>kd k.op)=(n.sD.map fun k=>kd k.op))(I:∀ k,k∈ks->vL es L k)(h47:n.op≠47)(o:ownB n=true)
  (J:nm=n.name/\tkn es nm\/vLe es L nm/\ji n.name=true):vL es L (.mk n.op nm n.n ks n.pos):=by
 have l:ks.length=n.sD.length:=by have:=congrArg List.length g;grind
 have p:ji nm=ji n.name/\(nm=⟨#[]⟩↔n.name=⟨#[]⟩):=by
  rcases J with ⟨rfl,_⟩|⟨P,r⟩
  .exact ⟨rfl,Iff.rfl⟩
  .obtain ⟨j,_,_,_,t⟩:=P
   refine⟨t.trans r.symm,fun e=>?_,fun e=>?_⟩
   .rw [e]at t;exact absurd t zDe
   .rw [e]at r;exact absurd r zDe
 refine⟨.mk _ ?_ (fun h=>?_) fun k g=>(I k g).wf,fun x i=>?_⟩
 .show shp n.op ks.length=some (ks.map fun k=>kd k.op)
  rw[l,g];exact C.shape
 .exact C.num h
 .rw [wC]at i
  rcases qy.1 i with rfl|i
  .refine ⟨h47,?_,?_⟩
   .unfold ownB at o⊢
    show (if wA n.op=ji nm/\(wA n.op=true\/nm=⟨#[]⟩) then numB n.op n.n else false)=true;split at o
    .rename_i R
     rw[if_pos ⟨by grind,R.2.imp id p.2.2⟩];exact o
    .cases o
   .rcases J with ⟨_,h⟩|⟨h,_⟩
    .exact .inl h
    .exact .inr h
  .obtain ⟨k,g,i⟩:=U9 i
   exact(I k g).all x i
end
end PD
namespace PE
open P1 P2 Y1 Y2 Y3 Y9 Y10 Y14 YX YZ YA YB PA YC Q3 Q4 PB PC PD
section
variable {inn:Bool}{c:Ck}{es:List (tA×Bool)}{s s':Scp}
theorem Wb{n}(h:n.op=1):exam c s inn n=jz c s n.name n.pos:=by
 rw[jh,Je zOm,h,show yC 1=false from rfl,Bool.and_false,if_neg zSp,if_pos rfl]
theorem qp2{n k}(h:exam c s true n = .ok k):exam c s inn n = .ok k:=by
 cases inn with
 |true=>exact h
 |false=>exact qcN c (szN n) n s k (qr _) h
theorem kc{n}(g:WfN n)(h:n.op=1):n.sD=[]:=by
 have i:=g.shape;simp_all[shp,if_pos,qv,List.map_eq_nil_iff]
theorem qcS{L n}(i:WfN n)(h:n.op=1)(j:tkn es n.name)(l:ownB n=true):vL es L n:=
 ⟨i,fun x g=>by
  rw[wC,kc i h]at g;simp[zy]at g;subst g;exact⟨zOm,l,.inl j⟩⟩
theorem qcT{n}(g:ownB n=true)(h:wA n.op=true):ji n.name=true:=by
 grind [ownB]
theorem qp3{c0 body env n n' z st l J}(P:c.ts=c0.ts)(j:n.op=1)(C:WfN n)(R:tkn es n.name)(I:ownB n=true)(T:Rl c0 es st.last body s s' env)
  (e:v7 env n st = .ok ((n',z),l)) (x:exam c s inn n = .ok J):Out c0 es s' inn n n' J st.last l.last:=by
 rw[Wb j,ZZ]at x;have i:=T.rel n.name R;unfold v7 at e;cases U:getK n.name env with
 |none =>
  rw[U]at e i;cases e;cases o:lookS n.name s with
  |some k =>
   rw[o]at i x;obtain⟨p,r,t⟩:=i;cases x;exact⟨⟨some p,by rw[Wb j,ZZ,r],fun _=>⟨_,_,rfl,rfl,t⟩⟩,qcS C j R I,rfl,vh _⟩
  |none =>
   rw[o]at x;simp only at x;have hq:lookS n.name s'=none:=by
    cases hq:lookS n.name s' with
    |none=>rfl
    |some q =>
     have:=T.mean _ (Wa hq);rw[P,this]at x;cases x
   refine⟨⟨J,by grind [Wb,ZZ],fun _=>?_⟩,qcS C j R I,rfl,vh _⟩;split at x
   .cases x
   .cases x;exact⟨_,_,rfl,rfl,Sub.refl _⟩
   .cases x
 |some iv =>
  obtain⟨a,g,to⟩:=iv;rw[U]at e i;simp only at e;cases o:lookS n.name s with
  |none=>rw[o]at i;exact i.elim
  |some k =>
   rw[o]at i x;cases x;cases a with
   |none =>
    cases e;obtain⟨⟨p,r,t⟩,e3⟩:=i;refine⟨⟨some p,by rw[Wb (n := .mk n.op to n.n n.sD n.pos) j,ZZ];show (match lookS to s' with|some k=>_|none=>_)=_;rw[r],fun _=>⟨_,_,rfl,rfl,t⟩⟩,?_,rfl,vh _⟩;refine cB C rfl (fun k hk=>?_) zOm I (.inr ⟨e3,qcT I (by rw[j];rfl)⟩);rw[kc C j]at hk;exact absurd hk qH
   |some a =>
    simp only at e;have i:ArgR c0 es st.last s' k a:=i;obtain⟨p,r,t⟩:=i.ex;split at e
    .cases e
     exact⟨⟨some p,qp2 r,fun _=>⟨_,_,rfl,rfl,t⟩⟩,i.good,by rw[i.kd,j];rfl,vh _⟩
    .cases e
def OwnV(c0:Ck)(es:List (tA×Bool))(L:Int)(s':Scp):Option Kd->Option IV->Prop
 |none,none=>True
 |some k,some ⟨some a,_,_⟩=>ArgR c0 es L s' k a
 |_,_=>False
theorem OwnV.mono{c0 L L' g i}(h:OwnV c0 es L s' g i)(j:L<=L'):OwnV c0 es L' s' g i:=by
 match g,i with
 |none,none=>exact h
 |none,some _=>exact h.elim
 |some k,none=>exact h.elim
 |some k,some ⟨some a,_,_⟩ =>
  have h:ArgR c0 es L s' k a:=h;exact(⟨h.ex,h.good.mono j,h.kd⟩:ArgR c0 es L' s' k a)
 |some k,some ⟨none,_,l⟩=>exact h.elim
theorem qp4{ns i a}(h:okKd ns a)(g:a.ar=1)(p:uN i a=true):Sub a (kOf [i]):=⟨by rw[g];rfl,fun t j=>by
 obtain⟨l,rfl,o,_⟩:=h.ts t j;rw[g]at o
 match l,o with
 | [y],_ =>
  have:=zA.1 p _ j;simp[pad]at this;subst this;exact qV.2 rfl⟩
theorem qcU{c0 ns F body env pos E P} :
  ∀{ks ps}{own i:IEnv}{sc st g},
  (∀ k,k∈ks->∀ st n' z g P,StOk F st->Rl c0 es st.last body s s' env->E k st = .ok ((n',z),g)->exam c s true k = .ok P->Out c0 es s' true k n' P st.last g.last/\StOk F g) ->
  (∀ k,k∈ks->kd k.op=101)->(∀ k,k∈ks->∀ a,exam c s true k = .ok (some a)->okKd ns a)->StOk F st->Rl c0 es st.last body s s' env ->
  (∀ v,OwnV c0 es st.last s' (lookS v sc) (getK v own))->ps.length=ks.length->ye c s pos ps ks = .ok P->jx E ps ks own st = .ok (i,g) ->
  st.last<=g.last/\∀ v,OwnV c0 es g.last s' (lookS v (ps.foldl (fun s p=>(p.1,kOf [p.2]) :: s) sc)) (getK v i)
 | [],[],own,i,sc,st,g,_,_,_,_,_,U,_,_,e=>by
  cases e;exact⟨vh _,U⟩
 |k :: ks,p :: ps,own,i,sc,st,g,hE,R,j,a0,hr,U,l,x,e=>by
  simp only[ye]at x;simp only[jx]at e;cases hx:exam c s true k with
  |error er=>grind
  |ok ka =>
   cases ka with
   |none=>grind
   |some a =>
    rw[hx]at x;simp only at x;by_cases o:a.ar=1
    .rw [if_pos o]at x
     by_cases r:uN p.2 a=true
     .rw [if_pos r]at x
      split at e
      .cases e
      .rename_i k' m s1 h1
       obtain⟨out,t⟩:=hE k (zl ..) st k' m s1 _ a0 hr h1 hx;obtain⟨a1,x1,x2⟩:=out.ex;have C:=R k (zl ..);obtain⟨q,q',y1,y2,y3⟩:=x2 C;cases y1;subst y2;have hs:=y3.trans (qp4 (j k (zl ..) a hx) o r);have I:ArgR c0 es s1.last s' (kOf [p.2]) k':=⟨⟨q',x1,hs⟩,out.good,by rw[out.kd];exact C⟩;have J:∀ v,OwnV c0 es s1.last s' (lookS v ((p.1,kOf [p.2]) :: sc)) (getK v (setK p.1 ⟨some k',m,⟨#[]⟩⟩ own)):=fun v=>by
        rw[Zr,vw];by_cases T:p.1=v
        .rw [if_pos T,if_pos T.symm]
         exact I
        .rw [if_neg T,if_neg (fun e=>T e.symm)]
         exact(U v).mono out.le
       obtain⟨r1,r2⟩:=qcU (sc:=(p.1,kOf [p.2]) :: sc) (fun k R=>hE k (zc _ R)) (fun k h=>R k (zc _ h)) (fun k h=>j k (zc _ h)) t (hr.mono out.le) J (zUs l) x e;exact⟨zW1 out.le,r2⟩
     grind
    grind
 | [],_ :: _,_,_,_,_,_,_,_,_,_,_,_,l,_,_=>by simp at l
 |_ :: _,[],_,_,_,_,_,_,_,_,_,_,_,l,_,_=>by simp at l
def kf(ts:TS)(es:List (tA×Bool)):Prop:=∀(i:Nat)(j:i<ts.sT.length),(∃ g,exam (mkCk ts i) (yn ts.sT[i].params) false ts.sT[i].body = .ok g)/\30<=ts.sT[i].body.op/\WfN ts.sT[i].body/\Tk es ts.sT[i].body/\OwnT ts.sT[i].body
abbrev ckF(ts:TS):Ck:=mkCk ts ts.sT.length
def IHx(ts:TS)(es:List (tA×Bool))(f:Nat):Prop:=∀(env:IEnv)(n:Nd)(g:Bool)(U:ISt)(l:Nd)(z:Int)(i:ISt)(s o:Scp)(j:Bool)(m:Nat)(p:Option Kd),
 m<=ts.sT.length->WfN n->Tk es n->OwnT n->ScOk ts.sS.length s->StOk (qq ts es) U->zx env->Rl (ckF ts) es U.last g s o env ->
 expI ts es f env n g U = .ok ((l,z),i)->exam (mkCk ts m) s j n = .ok p->Out (ckF ts) es o j n l p U.last i.last
theorem qcV{n}(i:WfN n)(h:30<=n.op):kd n.op=102:=by
 have g:=i.shape;have:n.op<=51:=by
  by_cases j:n.op<=51
  .exact j
  .exfalso
   unfold shp at g;rw[zIn,zIn,zIn,zIn,zIn,zIn,zIn,zIn]at g;cases g
 unfold kd;omega
theorem kh{n}(i:WfN n)(h:n.op=47):∀ k,k∈n.sD->kd k.op=101:=by
 have g:=i.shape;have e:shp n.op n.sD.length=some (qO (min n.sD.length 401) 101):=by
  unfold shp;rw[zIn,zIn,zIn,zIn,zIn,zIn,zIn,if_pos h]
 rw[e]at g;simp only[qv]at g;intro k j;have:kd k.op∈n.sD.map fun k=>kd k.op:=qn.2 ⟨k,j,rfl⟩
 grind
theorem qp5(ts)(h:okTS ts)(es)(hP:kf ts es)(a3:Free ts es)(f)(ih:IHx ts es f)(env n body st n' z g s s' inn m ko)
  (hm:m<=ts.sT.length) (hw:WfN n) (ht:Tk es n) (ho:OwnT n) (hs:ScOk ts.sS.length s) (o:StOk (qq ts es) st) (R:zx env) (hr:Rl (ckF ts) es st.last body s s' env) (h47:n.op=47)
  (e:((match ts.sT.find? fun p=>decide (p.name=n.name) with
    |none=>Except.error (2,0)
    |some p=>uc (jx (fun k s=>expI ts es f env k body s) p.params n.sD [] st) fun own s'=>expI ts es f own p.body true s'):XR (Nd×Int)) = .ok ((n',z),g))
  (x:exam (mkCk ts m) s inn n = .ok ko):Out (ckF ts) es s' inn n n' ko st.last g.last:=by
 have hc:okCk (mkCk ts m):=uQ h hm;rw[jh,if_neg (show ¬n.op=1 by omega),if_pos h47]at x;split at x
 .cases x
 rename_i I;split at x
 .cases l:zw (mkCk ts m) n.name with
  |none=>grind
  |some i =>
   obtain⟨T,t⟩:=Zi hc l;have T:i<m:=T;have t:i<ts.sT.length:=t;rw[l]at x;simp only at x;have x:((match ts.sT[i]? with|none=>Except.error (45,n.pos)|some C=>if C.params.length=n.sD.length then ye (mkCk ts m) s n.pos C.params n.sD else .error (45,n.pos)):Res) = .ok ko:=x;rw[qA t]at x;simp only at x;have U:(ts.sT.find? fun p=>decide (p.name=n.name))=some ts.sT[i]:=by
    unfold zw at l;rw[List.findIdx?_eq_some_iff_getElem]at l;obtain⟨hi,a1,a2⟩:=l;rw[List.find?_eq_some_iff_getElem];refine⟨?_,i,t,rfl,fun j hj=>?_⟩
    .have:=a1
     simp only[List.getElem_take]at this;exact this
    .have:=a2 j hj
     simp only[List.getElem_take]at this;have h3:¬decide (ts.sT[j].name=n.name)=true:=this
     grind
   rw[U]at e;simp only at e;obtain⟨⟨kb,hb⟩,a4,a5,ad,ae⟩:=hP i t;have af:=h.pl _ (qs t);generalize ag:ts.sT[i]=C at *
   by_cases P:C.params.length=n.sD.length
   .rw [if_pos P]at x
    obtain⟨own,s1,h1,e⟩:=Ja e;have a6:=kh hw h47;have a7:∀ k,k∈n.sD->∀ st n' z g,StOk (qq ts es) st->expI ts es f env k body st = .ok ((n',z),g)->StOk (qq ts es) g:=fun k J st n' z g o e=>(jW ts a3 f o R e).ok o
    obtain⟨g1,g2⟩:=qcU (c:=mkCk ts m) (c0:=ckF ts) (ns:=ts.sS.length) (F:=qq ts es) (body:=body) (s:=s) (s':=s') (env:=env) (sc:=[]) (own:=[])
     (fun k J st n' z g ko o hr e x=>⟨ih env k body st n' z g s s' true m ko hm (hw.kid J) (ht.kid J) (ho.kid J) hs o R hr e x,a7 k J st n' z g o e⟩)
     a6 (fun k J a hx=>by
      obtain⟨q,e1,e2⟩:=uo hc (szN k) k s true _ (qr _) (hw.kid J) hs hx (a6 k J);cases e1;exact e2)
     o hr (fun v=>trivial) P x h1
    obtain⟨a8,ah⟩:=KU (F:=qq ts es) (fun k n' z s s' _ hs hE=>jW ts a3 f hs R hE) o .nil h1;have a9:=ah.ok o;have ai:Rl (ckF ts) es s1.last true (yn C.params) s' own:=⟨hr.mean,fun v hv=>by
     have:=g2 v;have:OwnV (ckF ts) es s1.last s' (lookS v (yn C.params)) (getK v own):=this;generalize lookS v (yn C.params)=lk at *
     generalize getK v own=iv at *
     match lk,iv with
     |none,none=>trivial
     |some k,some ⟨some a,_,_⟩=>exact this
     |none,some _=>exact this.elim
     |some k,none=>exact this.elim
     |some k,some ⟨none,_,_⟩=>exact this.elim,fun aj=>by cases aj⟩
    have aa:ScOk ts.sS.length (yn C.params):=Km ⟨zOm,af.2⟩;have ak:exam (mkCk ts i) (yn C.params) inn C.body = .ok kb:=by
     cases ab:inn with
     |false=>exact hb
     |true =>
      rw[<-hb];refine qcO _ (szN C.body) C.body _ _ _ (qr _) ?_;rw[ab]at I;have a0:z7 (mkCk ts m) n.op n.name=false:=by simpa using I
      unfold z7 at a0;rw[l,h47]at a0;have:=U8 ts i m T hm t;rw[ag]at this;rw[<-this];have an:(yC 47||(decide ((47:Int)=47)&&(tmsL ts m).getD i false))=false:=a0
      grind
    have out:=ih own C.body true s1 n' z g (yn C.params) s' inn i kb zOm a5 ad ae aa a9 a8 ai e ak;obtain⟨al,x1,_⟩:=out.ex;refine⟨⟨al,x1,fun J=>?_⟩,out.good,?_,zW1 out.le⟩
    .rw [h47]at J;exact absurd J zDe
    .rw [out.kd,qcV a5 a4,h47];rfl
   grind
 .cases x
theorem qcW{n}(i:WfN n)(h:n.op=5\/n.op=11\/n.op=12\/n.op=13):(n.sD.map fun k=>kd k.op)=[101]:=by
 have g:=i.shape;unfold shp at g;rw[zIn,if_pos zOm]at g
 grind
theorem qp6{n}(i:WfN n)(h:n.op=6\/n.op=14\/n.op=7\/n.op=8\/n.op=32\/n.op=33\/n.op=9\/n.op=10):(n.sD.map fun k=>kd k.op)=[101,101]:=by
 have g:=i.shape;unfold shp at g;rw[zIn,zIn,if_pos zOm]at g
 grind
theorem Wc{n}(i:WfN n)(h:n.op=15\/n.op=45\/n.op=46):∃ a f,n.sD=[a,f]/\kd a.op=101:=by
 have g:=i.shape;unfold shp at g;rw[zIn,zIn,zIn,if_pos zOm]at g;simp only[qv]at g
 match j:n.sD,g with
 | [a,f],g =>
  grind
 | [],g=>simp at g
 | [_],g=>simp at g
 |_ :: _ :: _ :: _,g=>simp at g
theorem qp7(ts)(h:okTS ts)(es)(a1:Free ts es)(f)(ih:IHx ts es f)(env n body st P t z o s s' inn m ko)
  (hm:m<=ts.sT.length) (J:WfN n) (ht:Tk es n) (ho:OwnT n) (hs:ScOk ts.sS.length s) (j:StOk (qq ts es) st) (R:zx env) (hr:Rl (ckF ts) es st.last body s s' env) (h47:n.op≠47) (h1:n.op≠1) (hb:¬(n.op=15\/n.op=45\/n.op=46))
  (e:yR (fun env k s=>expI ts es f env k body s) (fun env nm s=>renI ts es env nm body s) (binB n.op) 0 env n.name n.sD st = .ok ((P,t,z),o))
  (x:exam (mkCk ts m) s inn n = .ok ko):Out (ckF ts) es s' inn n (.mk n.op P n.n t n.pos) ko st.last o.last:=by
 have hc:okCk (mkCk ts m):=uQ h hm;have a2:binB n.op=false:=by
  simp_all[binB,not_or]
 rw[a2]at e;rw[jh,Je h47,if_neg h1,if_neg h47,if_neg hb]at x;split at x
 .cases x
 rename_i a3;have p:=x;clear x;generalize hB:(inn||decide (n.op=12)||decide (n.op=13))=B at p;cases hl:ze (mkCk ts m) s B n.sD with
 |error er=>grind
 |ok l =>
  rw[hl]at p;simp only at p;obtain⟨rfl,a4,l',a6,C⟩:=qcR (c:=mkCk ts m) (c0:=ckF ts) (F:=qq ts es) (body:=body) (s:=s) (s':=s') (env:=env)
   (fun k hk st n' z o ko j hr e x=>⟨ih env k body st n' z o s s' B m ko hm (J.kid hk) (ht.kid hk) (ho.kid hk) hs j R hr e x,(jW ts a1 f j R e).ok j⟩) j hr e hl
  obtain⟨T,I⟩:=C.spec;have U:=J6 hl;obtain⟨a5,y1,y2⟩:=qpT (ns:=ts.sS.length) h.ns (op:=n.op) (num:=n.n) (pos:=n.pos) (l:=l) (l':=l') h1 (fun e=>hb (.inl e)) (fun g=>by
    obtain⟨a,a',rfl,rfl,e3⟩:=C.one (qcW J g);refine⟨a,a',rfl,rfl,e3,?_⟩;have i:=qcW J g
    match a0:n.sD,i with
    | [k],i =>
     rw[a0]at U;have hx:=U.2 0 k (some a) rfl rfl;obtain⟨q,e1,e2⟩:=uo hc (szN k) k s B _ (qr _) (J.kid (by rw[a0];simp)) hs hx (zUs i);cases e1;exact e2
    | [],i=>simp at i
    |_ :: _ :: _,i=>simp at i)
   (fun g=>C.two (qp6 J g)) p
  refine⟨⟨a5,?_,y2⟩,cB J T I h47 (ho n (ux n)) (.inl ⟨rfl,ht n (ux n)⟩),rfl,a4⟩;rw[jh];show (if (inn&&z7 (ckF ts) n.op n.name)=true then _ else if n.op=1 then _ else if n.op=47 then _ else if n.op=15\/n.op=45\/n.op=46 then _ else match ze (ckF ts) s' (inn||decide (n.op=12)||decide (n.op=13)) t with | .error e=>_ | .ok l=>yh ts.sS.length n.op n.n n.pos l)=_;simp_all[Je,if_neg]
theorem qp8(ts)(h:okTS ts)(es)(hF:qq ts es<=200000)(o:Free ts es)(f)(ih:IHx ts es f)(env n body st l a0 z J s s' inn m ko)
  (hm:m<=ts.sT.length) (hw:WfN n) (ht:Tk es n) (ho:OwnT n) (hs:ScOk ts.sS.length s) (P:StOk (qq ts es) st) (ag:(qq ts es:Nat)<=pot (qq ts es) st) (r:zx env) (hr:Rl (ckF ts) es st.last body s s' env) (hb:n.op=15\/n.op=45\/n.op=46)
  (e:yR (fun env k s=>expI ts es f env k body s) (fun env nm s=>renI ts es env nm body s) (binB n.op) 0 env n.name n.sD st = .ok ((l,a0,z),J))
  (x:exam (mkCk ts m) s inn n = .ok ko):Out (ckF ts) es s' inn n (.mk n.op l n.n a0 n.pos) ko st.last J.last:=by
 have hc:okCk (mkCk ts m):=uQ h hm;have a7:binB n.op=true:=by
  grind [binB]
 have h47:n.op≠47:=zOm;have h1:n.op≠1:=zOm;rw[a7]at e;rw[jh,Je h47,if_neg h1,if_neg h47,if_pos hb]at x;split at x
 .cases x
 rename_i R;obtain⟨a,g,t,a1⟩:=Wc hw hb;have ma:a∈n.sD:=by rw[t];simp
 have mg:g∈n.sD:=by rw[t];simp
 rw[t]at e x;generalize hB:(inn||decide (n.op=15))=B at x;simp only[ym,ze]at x;simp only[yR,yf,true_and,Nat.zero_ne_one,if_false,if_true]at e;cases T:exam (mkCk ts m) s B a with
 |error er=>grind
 |ok ka =>
  cases ka with
  |none=>grind
  |some k =>
   rw[T]at x;simp only at x;by_cases U:k.ar=1
   .rw [if_pos U]at x
    split at e
    .cases e
    .rename_i a' m1 s1 e1
     have out:=ih env a body st a' m1 s1 s s' B m _ hm (hw.kid ma) (ht.kid ma) (ho.kid ma) hs P r hr e1 T;have a2:=jW ts o f P r e1;have i:=a2.ok P;obtain⟨ai,x1,x2⟩:=out.ex;obtain⟨q,k',y1,y2,y3⟩:=x2 a1;cases y1;subst y2;obtain⟨q,y4,a8⟩:=uo hc (szN a) a s B _ (qr _) (hw.kid ma) hs T a1;cases y4;have C:=Vi o (env:=env) (nm:=n.name) (body:=body) i.l0;have a3:=Vh (ts:=ts) (es:=es) (nm:=n.name) (body:=body) (s:=s1) r;have a9:=i.last;obtain⟨w1,w2,I⟩:=Rl.bind (c0:=ckF ts) (st:=s1) (nm:=n.name) (k:=k) (k':=k') o r.nd (hr.mono out.le) i.l0 (by show s1.last+(qq ts es:Nat)<_;omega) (ht n (ux n)) y3;have w1:Rl (ckF ts) es (renI ts es env n.name body s1).2.last body ((n.name,k) :: s) (((renI ts es env n.name body s1).1.2,k') :: s') (renI ts es env n.name body s1).1.1:=w1;have w2:s1.last<=(renI ts es env n.name body s1).2.last:=w2;have I:tkn es (renI ts es env n.name body s1).1.2\/vLe es (renI ts es env n.name body s1).2.last (renI ts es env n.name body s1).1.2:=I;have w4:(renI ts es env n.name body s1).1.2=n.name\/vLe es (renI ts es env n.name body s1).2.last (renI ts es env n.name body s1).1.2:=by
      rcases I with I|I
      .left
       unfold renI at I⊢;split
       .rename_i aa
        rw[if_pos aa]at I;exfalso;have ab:=o s1.last i.l0;have ad:=K9 ab;simp_all[yJ,qI,decide_eq_true_eq]
       .rfl
      grind
     generalize ah:renI ts es env n.name body s1=ae at *
     obtain⟨⟨a4,aj⟩,s2⟩:=ae;simp only at C a3 w1 w2 I w4 e;have a5:StOk (qq ts es) s2:=⟨C.1,by rw[C.2.2];exact i.c0,by rw[C.2.2];exact i.c1,by
      have:=a2.p
      grind [pot]⟩
     split at e
     .cases e
     .rename_i ak al m3 s3 e3
      split at e3
      .cases e3
      .rename_i g' m2 s4 e2
       cases e3;cases e;cases a6:exam (mkCk ts m) ((n.name,k) :: s) B g with
       |error er=>grind
       |ok kg =>
        rw[a6]at x;cases x;have af:ScOk ts.sS.length ((n.name,k) :: s):=fun v hv=>by
         rcases qy.1 hv with rfl|hv
         .exact ⟨a8,U⟩
         .exact hs v hv
        have j:=ih a4 g body s2 g' m2 J ((n.name,k) :: s) ((l,k') :: s') B m _ hm (hw.kid mg) (ht.kid mg) (ho.kid mg) af a5 a3 w1 e2 a6;obtain⟨an,z1,_⟩:=j.ex;refine⟨⟨some k',?_,fun _=>⟨k,k',rfl,rfl,y3⟩⟩,?_,rfl,zW2 out.le j.le⟩
        .rw [jh]
         show (if (inn&&z7 (ckF ts) n.op l)=true then _ else if n.op=1 then _ else if n.op=47 then _ else if n.op=15\/n.op=45\/n.op=46 then ym (ckF ts) s' (inn||decide (n.op=15)) l n.pos [a',g'] else _)=_;rw[Je h47,if_neg R,if_neg h1,if_neg h47,if_pos hb,hB];simp only[ym,ze];rw[x1];simp only;rw[if_pos (by rw[y3.1];exact U),z1]
        .refine cB hw (by rw[t];simp[out.kd,j.kd]) (fun y hy=>?_) h47 (ho n (ux n)) ?_
         .rcases qy.1 hy with rfl|hy
          .exact out.good.mono (zW1 j.le)
          .rw [qV]at hy;subst hy;exact j.good
         .rcases w4 with w4|w4
          .exact .inl ⟨w4,by rw[w4];exact ht n (ux n)⟩
          .exact .inr ⟨w4.mono j.le,qcT (ho n (ux n)) (by unfold wA;rcases hb with h|h|h<;>simp[h])⟩
   grind
theorem qcX(ts)(h:okTS ts)(es)(hP:kf ts es)(J:qq ts es<=200000)(i:Free ts es):∀ f,IHx ts es f
 | 0=>fun env n body st n' z j s s' inn m P _ _ _ _ _ _ _ _ e _=>by cases e
 |f+1=>fun env n body st n' z j s s' inn m P hm R T U hs g r hr e x=>by
  have ih:=qcX ts h es hP J i f;simp only[expI]at e;split at e
  .rename_i hc
   have hp:=Qo g (n:=1) zOm hc;have l:=hp.ok g;have o:Rl (ckF ts) es (payS 1 st).last body s s' env:=hr;have t:st.last=(payS 1 st).last:=rfl;rw[t];split at e
   .rename_i h1
    exact qp3 (c:=mkCk ts m) (c0:=ckF ts) rfl h1 R (T n (ux n)) (U n (ux n)) o e x
   .rename_i h1
    split at e
    .grind [qp5,payS]
    .rename_i h47
     obtain⟨⟨C,I,z'⟩,s1,e1,e2⟩:=Ja e;cases e2;by_cases hb:n.op=15\/n.op=45\/n.op=46
     .refine qp8 ts h es J i f ih env n body (payS 1 st) C I z' j s s' inn m P hm R T U hs l ?_ r o hb e1 x
      rw[Z0];have:=g.p;omega
     grind [qp7,payS]
  .cases e
end
end PE
namespace ED
end ED
namespace EG
end EG
namespace PG
open Y1 Y2 P1 P2 Y9 YZ
section
variable {nm:tA}
theorem qp9{ns op n pos l e}(h:yh ns op n pos l = .error e):40<=e.1:=by
 unfold yh at h
 repeat' split at h
 all_goals first
  | (cases h;done)
  | (cases h;simp)
theorem qqA{c s pos e}(h:jz c s nm pos = .error e):40<=e.1:=by
 unfold jz at h
 repeat' split at h
 all_goals first
  | (cases h;done)
  | (cases h;simp)
section
variable {c:Ck}
theorem ki{inn}:∀{ks s e},(∀ k,k∈ks->∀ s e,exam c s inn k = .error e->40<=e.1)->ze c s inn ks = .error e->40<=e.1
 | [],s,e,_,h=>by simp only[ze]at h;cases h
 |k :: ks,s,e,i,h=>by
  simp only[ze]at h;split at h
  .rename_i j g
   cases h;exact i k (zl ..) s _ g
  .split at h
   .rename_i j g
    cases h;exact ki (fun k l=>i k (zc _ l)) g
   .cases h
theorem qcY{pos}:∀{ks ps s e},(∀ k,k∈ks->∀ s e,exam c s true k = .error e->40<=e.1)->ye c s pos ps ks = .error e->40<=e.1
 | [],ps,s,e,_,h=>by cases ps<;>(simp only[ye]at h;cases h)
 |k :: ks,[],s,e,_,h=>by simp only[ye]at h;cases h
 |k :: ks,p :: ps,s,e,g,h=>by
  simp only[ye]at h;split at h
  .rename_i l i
   cases h;exact g k (zl ..) s _ i
  .cases h;simp
  .split at h
   .split at h
    .exact qcY (fun k j=>g k (zc _ j)) h
    .cases h;simp
   .cases h;simp
theorem qqB{inn pos}:∀{ks s e},(∀ k,k∈ks->∀ s e,exam c s inn k = .error e->40<=e.1)->ym c s inn nm pos ks = .error e->40<=e.1
 | [],s,e,_,h=>by simp only[ym]at h;cases h
 |k :: ks,s,e,i,h=>by
  simp only[ym]at h;split at h
  .rename_i j g
   cases h;exact i k (zl ..) s _ g
  .cases h;simp
  .split at h
   .split at h
    .rename_i j g
     cases h;exact ki (fun k l=>i k (zc _ l)) g
    .cases h
   .cases h;simp
theorem Vm(c):∀ m n s inn e,szN n<=m->exam c s inn n = .error e->40<=e.1
 | 0,n,_,_,_,j,_=>by obtain⟨op,nm,i,ks,p⟩:=n;simp[szN]at j
 |m+1,n,s,inn,e,j,h=>by
  have g:∀ inn k,k∈n.sD->∀ s e,exam c s inn k = .error e->40<=e.1:=fun inn k l s e h=>Vm c m k s inn e (zW1 (yw l)) h
  rw[jh]at h;split at h
  .cases h;simp
  split at h
  .exact qqA h
  split at h
  .split at h
   .split at h
    .cases h;simp
    .split at h
     .cases h;simp
     .split at h
      .exact qcY (g true) h
      .cases h;simp
   .cases h;simp
  split at h
  .exact qqB (g _) h
  .split at h
   .rename_i r o
    cases h;exact ki (g _) o
   .exact qp9 h
end
end
theorem qcZ{ks k}(h:k∈ks):depN k<=yz ks:=by
 induction ks with
 |nil=>simp at h
 |cons a l g =>
  simp only[yz];rcases qy.1 h with rfl|h
  .omega
  .have:=g h;omega
theorem qc0(n):1<=depN n:=by
 rw[Zp];have:∀ ks:List Nd,0<=yz ks:=by
  intro ks;induction ks with
  |nil=>simp[yz]
  |cons a l g=>simp only[yz];omega
 have:=this n.sD;omega
end PG
namespace PF
open P1 P2 Y1 Y2 Y9 Y16 YZ YB YC YE YG Q2 Q4 Q6 PC PE PG
mutual
theorem kj:∀(n:Nd)(left:Int),cntT n<=left->cntN n left=cntT n
 | .mk op o i ks p,left,h=>by
  simp only[cntT,cntN]at h⊢;exact qc1 ks left 1 h
theorem qc1:∀(ks:List Nd)(left sum:Int),sum+jm ks<=left->ja ks left sum=sum+jm ks
 | [],left,sum,h=>by simp only[jm,ja];omega
 |k :: ks,left,sum,h=>by
  simp only[jm,ja]at h⊢;have g:=KY k;have i:=U0 ks;rw[if_pos zOm,kj k (left-sum) zOm,qc1 ks left _ zOm];omega
end
mutual
theorem qc2:∀(n:Nd)(left:Int),cntN n left<=left->cntT n<=left
 | .mk op o i ks p,left,h=>by
  simp only[cntT,cntN]at h⊢;exact qc3 ks left 1 h
theorem qc3:∀(ks:List Nd)(left sum:Int),ja ks left sum<=left->sum+jm ks<=left
 | [],left,sum,h=>by simp only[jm,ja]at h⊢;omega
 |k :: ks,left,sum,h=>by
  simp only[jm,ja]at h⊢;split at h
  .have i:=(Kq ks left (sum+cntN k (left-sum))).1
   have g:cntN k (left-sum)<=left-sum:=zOm;have j:=kj k (left-sum) (qc2 k _ g);have l:=qc3 ks left _ h;omega
  .omega
end
section
variable {c:Ck}
theorem qqC{ks d}(g:0<=d)(h:∀ k,k∈ks->depN k<=d):yz ks<=d:=by
 induction ks with
 |nil=>grind [yz]
 |cons a l i =>
  grind [yz,zl,zc]
theorem qqD{ks g}(h:∀ k,k∈ks->forN k g=true):uS ks g=true:=by
 induction ks with
 |nil=>rfl
 |cons a l i =>
  simp_all[uS,qI,zl,zc]
theorem qc4:∀ m n g,szN n<=m->WfN n->OwnT n->depN n<=g->forN n g=true
 | 0,n,_,l,_,_,_=>by obtain⟨op,nm,i,ks,p⟩:=n;simp[szN]at l
 |m+1,n,g,l,o,r,t=>by
  have C:=qc0 n;rw[J8,zIn,r n (ux n),Bool.true_and,qI];refine⟨?_,qqD fun k j=>qc4 m k (g-1) (zW1 (yw j)) (o.kid j) (r.kid j) ?_⟩
  .unfold fitB
   rw[decide_eq_true_eq];exact o.shape
  .have:=qcZ j
   rw[Zp]at t;omega
theorem qc5:∀ m n l,szN n<=m->forN n l=true->OwnT n/\depN n<=l
 | 0,n,_,o,_=>by obtain⟨op,nm,i,ks,p⟩:=n;simp[szN]at o
 |m+1,n,l,o,h=>by
  rw[J8]at h;split at h
  .cases h
  .rename_i I
   simp only[qI]at h;obtain⟨t,J,C⟩:=h;have r:=fun k (g:k∈n.sD)=>qc5 m k (l-1) (zW1 (yw g)) (Ks C k g)
   refine⟨fun x j=>?_,?_⟩
   .rw [wC]at j
    rcases qy.1 j with rfl|j
    .exact t
    .obtain ⟨k,g,j⟩:=U9 j
     exact(r k g).1 x j
   .rw [Zp]
    have:=qqC (ks:=n.sD) (d:=l-1) zOm fun k g=>(r k g).2
    omega
theorem wG{n}:zd n=true↔WfN n/\OwnT n/\cntT n<=400/\depN n<=24:=by
 constructor
 .intro h
  have l:=uq h;simp only[zd,qI,decide_eq_true_eq]at h;obtain⟨a,b⟩:=qc5 (szN n) n 24 (qr _) h.2;simp_all[qc2]
 .rintro ⟨g,i,o,j⟩
  simp only[zd,qI,decide_eq_true_eq];exact⟨by grind [kj],qc4 (szN n) n 24 (qr _) g i j⟩
theorem qc6{nm i}(h:zw c nm=some i)(g):(c.ts.sT.find? fun p=>decide (p.name=nm))=some c.ts.sT[i]:=by
 unfold zw at h;rw[List.findIdx?_eq_some_iff_getElem]at h;obtain⟨l,o,r⟩:=h;rw[List.find?_eq_some_iff_getElem];refine⟨?_,i,g,rfl,fun j t=>?_⟩
 .grind
 grind
theorem qc7{s pos}:∀{ks ps l},ps.length=ks.length->ye c s pos ps ks = .ok l->∀ k,k∈ks->∃ a,exam c s true k = .ok a
 | [],_,_,_,_,k,g=>absurd g qH
 |k :: ks,[],_,i,_,_,_=>by simp at i
 |k :: ks,p :: ps,l,i,h,x,j=>by
  simp only[ye]at h;split at h
  .cases h
  .cases h
  .rename_i a g
   split at h
   .split at h
    .rcases qy.1 j with rfl|j
     .exact ⟨_,g⟩
     .exact qc7 (zUs i) h x j
    .cases h
   .cases h
theorem kl{s inn}:∀{ks l},ze c s inn ks = .ok l->∀ k,k∈ks->∃ a,exam c s inn k = .ok a
 | [],_,_,k,g=>absurd g qH
 |k :: ks,l,h,x,i=>by
  simp only[ze]at h;split at h
  .cases h
  .rename_i a g
   split at h
   .cases h
   .rename_i o j
    rcases qy.1 i with rfl|i
    .exact ⟨_,g⟩
    .exact kl j x i
theorem kn(hc:okCk c):∀ m n s inn o,szN n<=m->exam c s inn n = .ok o->WfN n->yS c.ts n
 | 0,n,_,_,_,hm,_,_=>by obtain⟨op,nm,i,ks,p⟩:=n;simp[szN]at hm
 |m+1,n,s,inn,o,hm,h,U=>fun x j ho=>by
  have ih:∀ k,k∈n.sD->∀ s inn o,exam c s inn k = .ok o->yS c.ts k:=fun k t s inn o h=>kn hc m k s inn o (zW1 (yw t)) h (U.kid t)
  rw[jh]at h;rw[wC]at j;split at h
  .cases h
  by_cases h1:n.op=1
  .rw [kc U h1]at j
   rcases qy.1 j with rfl|j
   .omega
   .simp [zy]at j
  rw[if_neg h1]at h;have C:∀(s:Nd->Scp)(inn:Nd->Bool),(∀ k,k∈n.sD->∃ o,exam c (s k) (inn k) k = .ok o)->x∈zy n.sD->∃ p,(c.ts.sT.find? fun p=>decide (p.name=x.name))=some p/\p.params.length=x.sD.length:=fun s inn t j=>by
   obtain⟨k,I,j⟩:=U9 j;obtain⟨o,a0⟩:=t k I;exact ih k I _ _ _ a0 x j ho
  by_cases h47:n.op=47
  .rw [if_pos h47]at h
   split at h
   .split at h
    .cases h
    .rename_i i J
     obtain⟨_,a1⟩:=Zi hc J;rw[qA a1]at h;simp only at h;split at h
     .rename_i P
      rcases qy.1 j with rfl|j
      .grind [qc6]
      .exact C (fun _=>s) (fun _=>true) (qc7 P h) j
     .cases h
   .cases h
  rw[if_neg h47]at h;have j:x∈zy n.sD:=by
   rcases qy.1 j with rfl|j
   .omega
   .exact j
  by_cases R:n.op=15\/n.op=45\/n.op=46
  .rw [if_pos R]at h
   obtain⟨a,g,r,_⟩:=Wc U R;rw[r]at h;simp only[ym]at h;split at h
   .cases h
   .cases h
   .rename_i k t
    split at h
    .split at h
     .cases h
     .rename_i l hl
      obtain⟨y,T,j⟩:=U9 j;rw[r]at T;rcases qy.1 T with rfl|T
      .exact ih y (by rw[r];simp) _ _ _ t x j ho
      .rw [qV]at T
       subst T;obtain⟨b,R⟩:=kl hl y zSp;exact ih y (by rw[r];simp) _ _ _ R x j ho
    .cases h
  .rw [if_neg R]at h
   split at h
   .cases h
   .rename_i l hl
    exact C (fun _=>s) (fun _=>_) (fun k t=>kl hl k t) j
theorem Wd{env n}(h:(jJ c env n).1=0):30<=n.op/\∃ g,exam c (yn env) false n = .ok g:=by
 unfold jJ at h;split at h
 .rename_i i
  refine⟨i,?_⟩;cases j:exam c (yn env) false n with
  |ok g=>exact⟨g,rfl⟩
  |error e =>
   rw[j]at h;have:=PG.Vm c (szN n) n _ _ e (qr _) j;have h:e.1=0:=h;omega
 omega
theorem qc8{ts}(h:ju ts=[])(i g):(jJ (mkCk ts i) ts.sT[i].params ts.sT[i].body).1=0:=by
 simp_all[ju,List.append_eq_nil_iff,List.flatMap_eq_nil_iff,yb,v6,qA,rp]
theorem kq(l):∀ es nm,(getK nm es=some true\/∃ x,x∈l/\x.name=nm)->getK nm (putN es l)=some true:=by
 induction l with
 |nil =>
  intro es nm h;rcases h with h|⟨x,g,_⟩
  .exact h
  .exact absurd g qH
 |cons a l i =>
  intro es nm h;refine i _ nm ?_;rw[vw];by_cases e:nm=a.name
  .rw [if_pos e];exact .inl rfl
  .rw [if_neg e]
   rcases h with h|⟨x,g,j⟩
   .exact .inl h
   .rcases qy.1 g with rfl|g
    .grind
    grind
theorem qqE(ts n):Tk (yX ts n) n/\∀ p,p∈ts.sT->Tk (yX ts n) p.body:=by
 have j:∀(l:List Pd)(I:List (tA×Bool))(o:tA),(getK o I=some true\/∃ p,p∈l/\∃ x,x∈preN p.body/\x.name=o)->getK o (l.foldl (fun I p=>putN I (preN p.body)) I)=some true:=by
  intro l;induction l with
  |nil =>
   simp
  |cons a l r =>
   intro I o h;refine r _ o ?_;rcases h with h|⟨p,g,i⟩
   .grind [kq]
   .rcases qy.1 g with rfl|g
    .grind [kq]
    grind
 refine⟨fun x i=>j _ _ _ (.inl (kq _ _ _ (.inr ⟨x,i,rfl⟩))),fun p g x i=>j _ _ _ (.inr ⟨p,g,x,i,rfl⟩)⟩
theorem qc9(l):∀ es,(putN es l).length<=es.length+l.length:=by
 have i:∀(es:List (tA×Bool))(k:tA),(setK k true es).length<=es.length+1:=by
  intro es k;induction es with
  |nil=>simp[setK]
  |cons a es g=>grind [setK]
 induction l with
 |nil=>grind [putN]
 |cons a l g =>
  grind [setK,putN,zu]
mutual
theorem Vn:∀ n:Nd,((preN n).length:Int)=cntT n
 | .mk op nm i ks p=>by simp only[preN,cntT,zu];have:=qdA ks;omega
theorem qdA:∀ ks:List Nd,((zy ks).length:Int)=jm ks
 | []=>rfl
 |k :: ks=>by simp only[zy,jm,za];have:=Vn k;have:=qdA ks;omega
end
end
theorem ku{ts}(h:okTS ts)(g:∀ p,p∈ts.sT->zd p.body=true){n}(i:zd n=true):qq ts (yX ts n)<=200000:=by
 have j:∀(l:List Pd)(I:List (tA×Bool)),(∀ p,p∈l->zd p.body=true)->(l.foldl (fun I p=>putN I (preN p.body)) I).length<=I.length+400*l.length:=by
  intro l;induction l with
  |nil=>intro I _;simp
  |cons a l o =>
   grind [putN,preN,zc,qc9,Vn,wG,zl]
 have r:=j ts.sT (putN [] (preN n)) g;have t:=qc9 (preN n) [];have C:=Vn n;have J:=(wG.1 i).2.2.1;have:=h.np;have:=h.nf;have:=h.ns
 grind [qq,yX,List.length_nil]
theorem qqF{ts}(h:okTS ts)(hb:∀ p,p∈ts.sT->zd p.body=true)(hk:ju ts=[]){n x}(R:zd n=true)(hc:(yi ts [] n).1=0)(o:anyN (fun n=>decide (n.op=47)) n=true)(l:yq ts n=(x,0)) :
  zd x=true/\anyN (fun n=>decide (n.op=47)) x=false/\yi ts [] x=(0,0)/\yq ts x=(x,0):=by
 have T:=uq R;have U:=(wG.1 R).2.1;have hF:=ku h hb R;obtain⟨t1,t2⟩:=qqE ts n;generalize a0:yX ts n=I at *
 have hP:kf ts I:=fun i l=>by
  have hm:=qs l;obtain⟨a,b⟩:=Wd (qc8 hk i l)
  grind [uq,wG]
 unfold yq at l;rw[if_neg (zUs hc),if_neg (by simp[o]),a0]at l;unfold outI at l;split at l
 .rename_i d hd
  exfalso;have h1:=qcC hd
  grind
 .rename_i j g
  have e:j=x:=congrArg Prod.fst l;subst e;split at g
  .cases g
  .rename_i n2 z a1 J
   split at g
   .rename_i hz
    cases g;obtain⟨a2,ko,t⟩:=Wd (c:=mkCk ts ts.sT.length) (env:=[]) hc;have a3:StOk (qq ts I) ⟨0,0⟩:=⟨zSp,zSp,zSp,by simp[pot]⟩;have out:=qcX ts h I hP hF (K1 ts I) 4001 [] n false ⟨0,0⟩ j z a1 [] [] false ts.sT.length ko (qr _) T t1 U (fun v P=>absurd P qH) a3 .nil
     ⟨fun v P=>absurd P qH,fun v _=>trivial,fun _ v iv e=>by cases e⟩ J t
    obtain⟨a6,a7⟩:=Jb ts (fun p hp=>uq (hb p hp)) I 4001 (env:=[]) (fun e J=>absurd J qH) T J;have P:zd j=true:=wG.2 ⟨out.good.wf,fun x t=>(out.good.all x t).own,zOm,hz.2⟩;have a8:anyN (fun n=>decide (n.op=47)) j=false:=by
     rw[U2 _ (szN j) j (qr _),List.any_eq_false];intro x t;have:=(out.good.all x t).nc
     grind
    have a5:kd j.op=102:=by rw[out.kd];exact qcV T a2
    have C:30<=j.op:=by
     grind [kd]
    obtain⟨a4,r,_⟩:=out.ex;have a9:yi ts [] j=(0,0):=by
     unfold yi jJ;rw[if_pos C];have r:exam (mkCk ts ts.sT.length) (yn []) false j = .ok a4:=r;rw[r];rfl
    simp_all[yq,if_neg,if_pos]
   .cases g
end PF
namespace EH
end EH
namespace FJ
end FJ
namespace IA
open Y1 YG E3 FC
def hV(x:Mo)(n:Nd):Bool×Int:=Zn (yq x.ts) x (x.ts.sP.map Prod.snd++[n]) true
end IA
namespace QC
end QC
namespace QD
open YF P1 Y1 Y2
section
variable {nm:tA}{x:tA×Bool}{c:List AV}{i:Nat}
def atF(a:Int):List Int->Int
 | []=>a
 |x :: l=>atF (qp.wrap (qp.wrap (4*a)+x)) l
def zs:List AV:=qO 64 (aB false)
def oneC(l:List Int):List AV:=aI l.length :: (if 0<=atF 0 l/\atF 0 l<64 then zs.set (atF 0 l).toNat (aB true) else zs)
structure SetC (c:List AV):Prop where
 len:c.length=65
 sc:∀ x,x∈c->x.one=true/\HF x
theorem SetC.one(h:SetC c):∀ x,x∈c->x.one=true:=fun x g=>(h.sc x g).1
theorem SetC.hf(h:SetC c):HF (.agg c):=HF.agg fun x g=>(h.sc x g).2
theorem SetC.take(h:SetC c):List.take 65 c=c:=zV (by rw[h.len];omega)
theorem SetC.put{d}(h:SetC c)(g:SetC d):putCells c 0 d=d:=by
 rw[jb _ _ _ (by rw[h.len,g.len];omega)];simp[h.len,g.len,List.drop_of_length_le]
theorem SetC.zero:SetC (aI 0 :: zs):=⟨rfl,fun x g=>by
 rcases qy.1 g with rfl|g
 .exact ⟨rfl,HF.sc _⟩
 .rw [List.eq_of_mem_replicate g];exact⟨rfl,HF.sc _⟩⟩
theorem SetC.oneC(l):SetC (oneC l):=by
 have i:∀ x:AV,x∈zs->x.one=true/\HF x:=fun x g=>by rw[List.eq_of_mem_replicate g];exact⟨rfl,HF.sc _⟩
 unfold QD.oneC;split
 .refine ⟨by simp[zs],fun x g=>?_⟩
  rcases qy.1 g with rfl|g
  .exact ⟨rfl,HF.sc _⟩
  .rcases List.mem_or_eq_of_mem_set g with h|rfl
   .exact i x h
   .exact ⟨rfl,HF.sc _⟩
 .refine ⟨by simp[zs],fun x g=>?_⟩
  rcases qy.1 g with rfl|g
  .exact ⟨rfl,HF.sc _⟩
  .exact i x g
theorem oneU(l)(hl:l.length<=140737488351232):qi qe 149 [lI l] (.agg (oneC l)):=by
 have g:=SetC.oneC l;generalize C:oneC l=R at *
 unfold oneC at C;refine qSU call149 func149 rfl ?_;have i:zs.length=64:=rfl;refine kL l.length (fun k U=>∃ a:Int,U.tm 0=lI l/\U.tm 2 = .ptr 0 0/\U.tm 3 = .ptr 1 0/\U.tm 4=aI a/\U.tm 5=aI k/\U.mu=[.arr (aI 0 :: zs),.arr (aI l.length :: zs)]/\atF a (l.drop k)=atF 0 l) ?_ ?_
 .exact ⟨0,zSi,zSi,zSi,zSi,zSi,by simp[go_sem,zs,qO],rfl⟩
 rintro k U hk ⟨a,I,r,e3,e4,e5,hm,hI⟩;by_cases J:k<l.length
 .have w1:=zWk k
  rw[zp J]at hI;simp[go_sem,I,e4,e5,hm,J,w1];exact aK ⟨_,zS1 I,zS1 r,zS1 e3,zSi,zSi,zSi,hI⟩
 have a0:k=l.length:=zOm;subst a0;rw[zZ]at hI;have ha:a=atF 0 l:=hI;rw[<-ha]at C;have z1:∀ x:AV,(x :: zs).length=65:=fun x=>rfl
 have o:∀ x:AV,x∈zs->x.one=true:=fun x hx=>by rw[List.eq_of_mem_replicate hx];rfl
 have tk:List.take 64 zs=zs:=rfl;have pc:∀(x y:AV)(Z:List AV),Z.length=64->putCells (x :: zs) 0 (y :: Z)=y :: Z:=fun x y Z hZ=>by
  grind [jb,List.drop_of_length_le]
 by_cases h0:0<=a
 .obtain ⟨j,rfl⟩:∃ j:Nat,a=j:=⟨a.toNat,zOm⟩
  by_cases t:(j:Int)<64
  .have hj:1+j<=64:=by omega
   have a1:∀ x:AV,(x :: zs).set (1+j) (AV.sc (Value.bool true))=x :: zs.set j (AV.sc (Value.bool true)):=fun x=>by rw[Nat.add_comm];rfl
   have sl:(zs.set j (AV.sc (Value.bool true))).length=64:=zP1 i;have P:∀ x:AV,x∈zs.set j (AV.sc (Value.bool true))->x.one=true:=fun x hx=>by
    rcases List.mem_or_eq_of_mem_set hx with h|rfl
    .exact o x h
    .rfl
   have T:List.take 64 (zs.set j (AV.sc (Value.bool true)))=zs.set j (AV.sc (Value.bool true)):=zV zOm;have p:R=aI l.length :: zs.set j (AV.sc (Value.bool true)):=by rw[<-C,if_pos ⟨h0,t⟩];rfl
   generalize zs.set j (AV.sc (Value.bool true))=Z at *
   simp[go_sem,I,r,e3,e4,e5,hm,h0,t,i,hj,a1,sl,T,pc _ _ _ sl];rw[if_pos P];simp[go_sem,r,sl,T];rw[p]at g⊢;exact .hf _ g.hf
  .simp [go_sem,I,r,e3,e4,e5,hm,h0,t,i,tk,pc _ _ _ i]
   rw[if_pos o];simp[go_sem,r,i,tk];have p:R=aI l.length :: zs:=by rw[<-C,zIn]
   rw[p]at g⊢;exact .hf _ g.hf
 .simp [go_sem,I,r,e3,e4,e5,hm,h0,i,tk,pc _ _ _ i]
  rw[if_pos o];simp[go_sem,r,i,tk];have p:R=aI l.length :: zs:=by rw[<-C,zIn]
  rw[p]at g⊢;exact .hf _ g.hf
abbrev NS:=List AV×Nat
variable {s:NS}
def stF(nm:tA)(f:Fld)(s:NS):NS:=if f.name=nm then (oneC f.sS,s.2+1) else s
def nmF(nm:tA):List Fld->NS->NS
 | [],s=>s
 |f :: l,s=>nmF nm l (stF nm f s)
def st1(nm:tA)(i:Nat)(x:tA×Bool)(s:NS):NS:=if x.1=nm then (oneC [(i:Int)],s.2+1) else s
def st2(nm:tA)(i:Nat)(x:tA×Bool)(s:NS):NS:=if x.2=true/\x.1++je=nm then (oneC [(i:Int)],s.2+1) else s
def st3(nm:tA)(i:Nat)(x:tA×Bool)(s:NS):NS:=if x.2=true/\x.1++vd=nm then (oneC [(i:Int),(i:Int)],s.2+1) else s
def nmS(nm:tA):Nat->List (tA×Bool)->NS->NS
 |_,[],s=>s
 |i,x :: l,s=>nmS nm (i+1) l (st3 nm i x (st2 nm i x (st1 nm i x s)))
def named(ts:TS)(nm:tA):NS:=nmS nm 0 ts.sS (nmF nm ts.sA (aI 0 :: zs,0))
theorem qqG{f}(h:SetC s.1):SetC (stF nm f s).1:=by
 grind [stF,SetC.oneC]
theorem qdB(h:SetC s.1):SetC (st1 nm i x s).1:=by
 grind [st1,SetC.oneC]
theorem qdD(h:SetC s.1):SetC (st2 nm i x s).1:=by
 grind [st2,SetC.oneC]
theorem qdE(h:SetC s.1):SetC (st3 nm i x s).1:=by
 grind [st3,SetC.oneC]
theorem st_le:(st3 nm i x (st2 nm i x (st1 nm i x s))).2<=s.2+3:=by
 have g:(st1 nm i x s).2<=s.2+1:=by grind [st1]
 have j:∀ s:NS,(st2 nm i x s).2<=s.2+1:=fun s=>by grind [st2]
 have l:∀ s:NS,(st3 nm i x s).2<=s.2+1:=fun s=>by grind [st3]
 grind
theorem qdF(nm):∀ l s,SetC s.1->SetC (nmF nm l s).1
 | [],_,h=>h
 |f :: l,s,h=>qdF nm l _ (qqG h)
theorem qdG(nm):∀ l i s,SetC s.1->SetC (nmS nm i l s).1
 | [],_,_,h=>h
 |x :: l,i,s,h=>qdG nm l _ _ (qdE (qdD (qdB h)))
theorem kv(ts nm):SetC (named ts nm).1:=qdG nm _ _ _ (qdF nm _ _ SetC.zero)
theorem wk1(i):WK (.lst true [rI i]) (lI [i]):=WK.lst fun r g c j=>by
 grind [qV,HF.sc]
theorem wk2(i j):WK (.lst true [rI i,rI j]) (lI [i,j]):=WK.lst fun r g c l=>by
 rcases qy.1 g with rfl|g
 .grind [qV,HF.sc]
 grind [qV,HF.sc]
structure okNm (ts:TS):Prop where
 so:∀ x,x∈ts.sS->x.1.size<=4611686018427387904
 nso:ts.sS.length<=140737488351232
 nf:ts.sA.length<=140737488351232
 fl:∀ f,f∈ts.sA->f.sS.length<=140737488351232
theorem kw(ts)(ha:okNm ts)(nm):qi qe 152 [eTS ts,aS nm] (.tup [.agg (named ts nm).1,aI (named ts nm).2]):=by
  generalize hR:named ts nm=R;unfold named at hR;refine qSV call152 func152 rfl ?_;have ar:=ha.nf;have au:zs.length=64:=rfl;have av:=ha.nso;simp[go_sem];refine kL ts.sA.length (fun i U=>∃ s:NS,U.tm 1=aS nm/\U.tm 2 = .ip (cTS ts)/\U.tm 4 = .ptr 0 0/\U.tm 6 = .ptr 1 0/\U.tm 7=aI s.2/\U.tm 8=aI i/\U.mu=[.arr (aI 0 :: zs),.arr s.1]/\SetC s.1/\s.2<=i/\nmS nm 0 ts.sS (nmF nm (ts.sA.drop i) s)=R) ?_ ?_
  · exact⟨(aI 0 :: zs,0),zSi,zSi,zSi,zSi,zSi,zSi,by simp[go_sem,zs,qO],SetC.zero,zSp,zUs hR⟩
  clear hR;rintro i U hi ⟨⟨c,k⟩,J,t,e4,P,T,e8,hm,j,hk,r⟩;have hk:k<=i:=hk;have j:SetC c:=j;by_cases g:i<ts.sA.length
  · have w1:=zWk i
    have w2:=zWk k;rw[zp g]at r;have ho:=oneU ts.sA[i].sS (ha.fl _ (qs g));have C:=SetC.oneC ts.sA[i].sS;by_cases hq:ts.sA[i].name=nm
    · simp[go_sem,J,t,e8,hm,g,hq]
      refine cQ ho (.zk (zh _) .nil) ?_;simp[go_sem,P,C.len,j.len,j.put C];rw[if_pos C.one];simp[go_sem,T,e8,g,w1,w2];exact aK ⟨(oneC ts.sA[i].sS,k+1),zS1 J,zS1 t,zS1 e4,zS1 P,zSi,zSi,zSi,C,zOm,by grind [nmF,stF]⟩
    · simp[go_sem,J,t,e8,hm,g,jV hq,w1]
      exact aK ⟨(c,k),zS1 J,zS1 t,zS1 e4,zS1 P,zS1 T,zSi,zSi,j,zOm,by grind [nmF,stF]⟩
  have a0:i=ts.sA.length:=zOm;subst a0;rw[zZ]at r;simp only[nmF]at r;simp[go_sem,t,e8,hm];refine kL ts.sS.length (fun i U=>∃ s:NS,U.tm 1=aS nm/\U.tm 2 = .ip (cTS ts)/\U.tm 4 = .ptr 0 0/\U.tm 6 = .ptr 1 0/\U.tm 7=aI s.2/\U.tm 9=aI i/\U.mu=[.arr (aI 0 :: zs),.arr s.1]/\SetC s.1/\s.2<=ts.sA.length+3*i/\nmS nm i (ts.sS.drop i) s=R) ?_ ?_
  · simp[go_sem, *]
  clear J t e4 P T e8 hm j hk r g;rintro i U hi ⟨⟨c,k⟩,J,t,e4,P,T,e9,hm,j,hk,r⟩;have hk:k<=ts.sA.length+3*i:=hk;have j:SetC c:=j;by_cases g:i<ts.sS.length
  · have w1:=zWk i
    have w2:=zWk k;have w3:qp.wrap ((k:Int)+1+1)=(k:Int)+1+1:=zWr;have w4:qp.wrap ((k:Int)+1+1+1)=(k:Int)+1+1+1:=zWr;rw[zp g]at r;simp only[nmS]at r;have af:=oneU [(i:Int)] zSp;have ag:=oneU [(i:Int),(i:Int)] zSp;have p:=SetC.oneC [(i:Int)];have I:=SetC.oneC [(i:Int),(i:Int)];have ah:=j.put p;have ai:=j.put I;have aj:=p.put p;have ak:=p.put I;have l1:=p.len;have l2:=I.len;have l0:=j.len;have aw:=st_le (nm:=nm) (i:=i) (x:=ts.sS[i]) (s:=(c,k));have al:=qdE (nm:=nm) (i:=i) (x:=ts.sS[i]) (qdD (nm:=nm) (i:=i) (x:=ts.sS[i]) (qdB (nm:=nm) (i:=i) (x:=ts.sS[i]) (s:=(c,k)) j));have a8:=ha.so _ (qs g);have a8:ts.sS[i].1.size<=4611686018427387904:=a8;generalize a9:ts.sS[i]=so at *
    obtain⟨o,sb⟩:=so;have aa:o.size<=9223372036854775801:=by grind
    have ab:o.size<=9223372036854775802:=zOm;generalize hN:st3 nm i (o,sb) (st2 nm i (o,sb) (st1 nm i (o,sb) (c,k)))=N at *
    have an:(o++je=nm)=(o++(⟨#[95,102,105,114,115,116]⟩:tA)=nm):=rfl;have ao:(o++vd=nm)=(o++(⟨#[95,110,101,120,116]⟩:tA)=nm):=rfl;simp only[st1,st2,st3,an,ao]at hN;obtain⟨d1,aq⟩:∃ d,decide (o=nm)=d:=⟨_,rfl⟩;obtain⟨d2,ad⟩:∃ d,decide (o++(⟨#[95,102,105,114,115,116]⟩:tA)=nm)=d:=⟨_,rfl⟩;obtain⟨d3,ae⟩:∃ d,decide (o++(⟨#[95,110,101,120,116]⟩:tA)=nm)=d:=⟨_,rfl⟩;have p1:(o=nm)=(d1=true):=by grind
    have p2:(o++(⟨#[95,102,105,114,115,116]⟩:tA)=nm)=(d2=true):=by grind
    have p3:(o++(⟨#[95,110,101,120,116]⟩:tA)=nm)=(d3=true):=by grind
    simp only[p1,p2,p3]at hN;have done:∀ l:St,l.tm 1=aS nm->l.tm 2 = .ip (cTS ts)->l.tm 4 = .ptr 0 0->l.tm 6 = .ptr 1 0->l.tm 7=aI N.2->l.tm 9=aI (i+1:Nat)->l.mu=[.arr (aI 0 :: zs),.arr N.1] ->
        Keep (fun U=>∃ s:NS,U.tm 1=aS nm/\U.tm 2 = .ip (cTS ts)/\U.tm 4 = .ptr 0 0/\U.tm 6 = .ptr 1 0/\U.tm 7=aI s.2/\U.tm 9=aI (i+1:Nat)/\U.mu=[.arr (aI 0 :: zs),.arr s.1]/\SetC s.1/\s.2<=ts.sA.length+3*(i+1)/\nmS nm (i+1) (ts.sS.drop (i+1)) s=R) .mk l:=
      fun l a1 a2 a3 a4 a5 a6 a7=>aK ⟨N,a1,a2,a3,a4,a5,a6,a7,al,zOm,r⟩
    cases d1<;>cases d2<;>cases d3<;>cases sb
    all_goals simp only[if_true,if_false,and_false,and_true,reduceCtorEq]at hN
    all_goals simp[go_sem,Y10.wv,J,t,e9,hm,g,a9,aq,ad,ae,w1,aa,ab]
    all_goals repeat' (first
      | (refine cQ af (.cons (wk1 _) .nil) ?_
         simp[go_sem,P,ah,aj,l0,l1];rw[if_pos p.one];simp[go_sem,Y10.wv,J,t,T,e9,g,a9,ad,ae,w1,w2,w3,aa,ab])
      | (refine cQ ag (.cons (wk2 _ _) .nil) ?_
         simp[go_sem,P,ai,ak,l0,l1,l2];rw[if_pos I.one];simp[go_sem,T,e9,g,w1,w2,w3,w4]))
    all_goals try subst hN
    all_goals simp_all[go_sem]
  have a0:i=ts.sS.length:=zOm;subst a0;rw[zZ]at r;simp only[nmS]at r;subst r;simp[go_sem,t,e4,P,T,e9,hm,j.len,j.take,SetC.zero.put j,SetC.zero.len];rw[if_pos j.one];simp[go_sem,e4,j.len,j.take];refine .hf _ (HF.tup fun x hx=>?_);rcases qy.1 hx with rfl|hx
  · exact j.hf
  grind [qV,HF.sc]
end
end QD
namespace QE
open Y6 QD
abbrev RS:=Int×(Nat->Bool)
def hB(g:Nat->Bool):List AV:=(qu 64).map fun i=>aB (g i)
abbrev cRS(s:RS):List AV:=aI s.1 :: hB s.2
abbrev eRS(s:RS):AV := .agg (cRS s)
theorem qw(g):(hB g).length=64:=by simp[hB]
theorem qdH(g i v):(hB g).set i (aB v)=hB fun j=>if j=i then v else g j:=by
 refine List.ext_getElem (by simp[hB]) fun j l o=>?_
 rw[List.getElem_set];simp only[hB,List.getElem_map,List.getElem_range];by_cases h:i=j
 .rw [if_pos h,if_pos h.symm]
 .rw [if_neg h,if_neg (fun e=>h e.symm)]
theorem qqH(g i)(h:i<64):(hB g)[i]?=some (aB (g i)):=by
 simp[hB,h]
theorem uX{g i}(h:∀ j,j<64->g j=i j):hB g=hB i:=by
 refine List.map_congr_left fun j l=>?_
 rw[h j (yb.1 l)]
theorem setC(s):SetC (cRS s):=⟨by simp[hB],fun x g=>by
 rcases qy.1 g with rfl|g
 .exact ⟨rfl,HF.sc _⟩
 .obtain ⟨j,_,rfl⟩:=qn.1 g
  exact⟨rfl,HF.sc _⟩⟩
theorem yK(s):HF (eRS s):=(setC s).hf
theorem qdI:hB (fun _=>false)=zs:=rfl
def oneS(l:List Int):RS:=(l.length,fun j=>decide ((j:Int)=atF 0 l))
theorem kx(l):oneC l=cRS (oneS l):=by
 unfold oneC oneS;simp only[cRS];split
 .rename_i h
  have e:aB true=aB true:=rfl;rw[<-qdI,qdH];congr 1;refine uX fun j i=>?_
  by_cases g:j=(atF 0 l).toNat
  .rw [if_pos g];exact(decide_eq_true zOm).symm
  .rw [if_neg g];exact(decide_eq_false zOm).symm
 .rename_i h
  rw[<-qdI];congr 1;refine uX fun j i=>?_
  exact(decide_eq_false zOm).symm
def szA(k:Int):Nat:=if k<1 then 1 else if k=1 then 4 else if k=2 then 16 else 64
theorem Vo(k):szA k<=64/\1<=szA k:=by unfold szA;split<;>(try split)<;>(try split)<;>omega
theorem Z3(k):qi qe 224 [aI k] (aI (szA k)):=by
 refine qSV call224 func224 rfl ?_;unfold szA;by_cases g:k<1
 .simp [go_sem,g];exact .zsc _
 by_cases i:k=1
 .simp [go_sem,i];exact .zsc _
 by_cases j:k=2
 .simp [go_sem,j];exact .zsc _
 simp[go_sem,g,i,j];exact .zsc _
def uniS(a b:RS):RS:=(a.1,fun j=>a.2 j||b.2 j)
def intS(a b:RS):RS:=(a.1,fun j=>a.2 j&&b.2 j)
theorem g1(x g i)(h:i<64):(x :: hB g)[1+i]?=some (aB (g i)):=by
 rw[Nat.add_comm,vP,qqH g i h]
theorem d1(x g i)(h:i<64):List.take 1 (List.drop (1+i) (x :: hB g))=[aB (g i)]:=by
 rw[Nat.add_comm,List.drop_succ_cons,zp (by rw[qw];exact h)];simp[hB]
theorem d0(g i)(h:i<64):List.take 1 (List.drop i (hB g))=[aB (g i)]:=by
 rw[zp (by rw[qw];exact h)];simp[hB]
theorem s1(x g i v):(x :: hB g).set (1+i) (aB v)=x :: hB fun j=>if j=i then v else g j:=by
 rw[Nat.add_comm,List.set_cons_succ,qdH]
theorem zg(g):∀ x,x∈hB g->x.one=true:=fun x i=>by
 obtain⟨j,_,rfl⟩:=qn.1 i;rfl
theorem tk(g):List.take 64 (hB g)=hB g:=zV (by rw[qw];exact qr _)
theorem pc(x y g i):putCells (x :: hB g) 0 (y :: hB i)=y :: hB i:=by
 rw[jb _ _ _ (by simp[qw])];simp[qw,List.drop_of_length_le]
theorem vB(a b):qi qe 193 [eRS a,eRS b] (eRS (uniS a b)):=by
 refine qSQ call193 func193 rfl { mt:=[2] } ?_;simp[go_sem];refine⟨zg _,zg _,?_⟩;refine kL 64 (fun i U=>U.tm 2 = .ptr 0 0/\U.tm 3 = .ip (cRS b)/\U.tm 4 = .ptr 1 0/\U.tm 5=aI i/\U.mu=[.arr (aI a.1 :: hB (fun j=>if j<i then a.2 j||b.2 j else a.2 j)),.arr (aI 0 :: hB fun _=>false)]) ?_ ?_
 .exact ⟨zSi,zSi,zSi,zSi,by simp[go_sem];rfl⟩
 rintro i U hi ⟨p,I,C,J,P⟩;by_cases l:i<64
 .have o:(i:Int)<64:=by omega
  have r:1+i<=64:=zOm;have w1:=zWk i;generalize hG:(fun j=>if j<i then a.2 j||b.2 j else a.2 j)=G at *
  have R:G i=a.2 i:=by rw[<-hG];simp
  have g:∀ v:Bool,v=(a.2 i||b.2 i)->(aI a.1 :: hB G).set (1+i) (aB v)=aI a.1 :: hB (fun j=>if j<i+1 then a.2 j||b.2 j else a.2 j):=fun v hv=>by
   rw[s1];congr 2;funext j;rw[<-hG,hv];by_cases T:j=i
   .subst T;simp
   .by_cases h2:j<i
    .simp [T,h2,show j<i+1 by omega]
    .simp [T,h2,show ¬j<i+1 by omega]
  have t:=d1 (aI a.1) G i l;have m2:=d0 b.2 i l;have a0:1<=64-i:=zOm;rw[R]at t;cases ha:a.2 i with
  |true =>
   rw[ha]at t g;have hn:=g true zSp;simp[go_sem,p,J,P,l,o,r,qw,t,hn,w1];exact aK ⟨zS1 p,zS1 I,zS1 C,zSi,zSi⟩
  |false =>
   rw[ha]at t g;have hn:=g (b.2 i) zSp;simp[go_sem,p,I,J,P,l,o,r,a0,qw,t,m2,hn,w1];exact aK ⟨zS1 p,zS1 I,zS1 C,zSi,zSi⟩
 .have a1:i=64:=by omega
  subst a1;simp[go_sem,p,C,J,P,qw,tk,pc];rw[if_pos (zg _)];simp[go_sem,C,qw,tk];have e:(aI a.1 :: hB fun j=>if j<64 then a.2 j||b.2 j else a.2 j)=cRS (uniS a b):=by
   exact congrArg (aI a.1 :: ·) (uX fun j hj=>if_pos hj)
  rw[e];exact .hf _ (yK _)
theorem Uz(a b):qi qe 194 [eRS a,eRS b] (eRS (intS a b)):=by
 refine qSQ call194 func194 rfl { mt:=[2] } ?_;simp[go_sem];refine⟨zg _,zg _,?_⟩;refine kL 64 (fun i U=>U.tm 2 = .ptr 0 0/\U.tm 3 = .ip (cRS b)/\U.tm 4 = .ptr 1 0/\U.tm 5=aI i/\U.mu=[.arr (aI a.1 :: hB (fun j=>if j<i then a.2 j&&b.2 j else a.2 j)),.arr (aI 0 :: hB fun _=>false)]) ?_ ?_
 .exact ⟨zSi,zSi,zSi,zSi,by simp[go_sem];rfl⟩
 rintro i U hi ⟨p,I,C,J,P⟩;by_cases l:i<64
 .have o:(i:Int)<64:=by omega
  have r:1+i<=64:=zOm;have w1:=zWk i;generalize hG:(fun j=>if j<i then a.2 j&&b.2 j else a.2 j)=G at *
  have R:G i=a.2 i:=by rw[<-hG];simp
  have g:∀ v:Bool,v=(a.2 i&&b.2 i)->(aI a.1 :: hB G).set (1+i) (aB v)=aI a.1 :: hB (fun j=>if j<i+1 then a.2 j&&b.2 j else a.2 j):=fun v hv=>by
   rw[s1];congr 2;funext j;rw[<-hG,hv];by_cases T:j=i
   .subst T;simp
   .by_cases h2:j<i
    .simp [T,h2,show j<i+1 by omega]
    .simp [T,h2,show ¬j<i+1 by omega]
  have t:=d1 (aI a.1) G i l;have m2:=d0 b.2 i l;have a0:1<=64-i:=zOm;rw[R]at t;cases ha:a.2 i with
  |false =>
   rw[ha]at t g;have hn:=g false zSp;simp[go_sem,p,J,P,l,o,r,qw,t,hn,w1];exact aK ⟨zS1 p,zS1 I,zS1 C,zSi,zSi⟩
  |true =>
   rw[ha]at t g;have hn:=g (b.2 i) zSp;simp[go_sem,p,I,J,P,l,o,r,a0,qw,t,m2,hn,w1];exact aK ⟨zS1 p,zS1 I,zS1 C,zSi,zSi⟩
 .have a1:i=64:=by omega
  subst a1;simp[go_sem,p,C,J,P,qw,tk,pc];rw[if_pos (zg _)];simp[go_sem,C,qw,tk];have e:(aI a.1 :: hB fun j=>if j<64 then a.2 j&&b.2 j else a.2 j)=cRS (intS a b):=by
   exact congrArg (aI a.1 :: ·) (uX fun j hj=>if_pos hj)
  rw[e];exact .hf _ (yK _)
def trS(a:RS):RS:=(2,fun j=>decide (j<16)&&a.2 (j % 4*4+j / 4))
theorem qdJ(a):qi qe 197 [eRS a] (eRS (trS a)):=by
 refine qSU call197 func197 rfl ?_;refine⟨zg _,?_⟩;refine kL 16 (fun i U=>U.tm 1 = .ip (cRS a)/\U.tm 2 = .ptr 0 0/\U.tm 3 = .ptr 1 0/\U.tm 4=aI i/\U.mu=[.arr (aI 0 :: hB fun _=>false),.arr (aI 2 :: hB (fun j=>decide (j<16/\j % 4*4+j / 4<i)&&a.2 (j % 4*4+j / 4)))]) ?_ ?_
 .exact ⟨zSi,zSi,zSi,zSi,by simp[go_sem];first|rfl|exact⟨rfl,rfl⟩⟩
 rintro i U hi ⟨R,o,p,e4,r⟩;by_cases t:i<16
 .have l:(i:Int)<16:=by omega
  have w1:=zWk i;obtain⟨q,hq⟩:∃ q:Nat,q=i % 4*4+i / 4:=⟨_,rfl⟩;have a0:q<16:=zOm;have w2:qp.wrap ((i:Int).tmod 4)=((i % 4:Nat):Int):=by
   rw[u3 zOm];rw[zWr];omega
  have w3:qp.wrap (qp.wrap ((i:Int).tmod 4*4)+qp.wrap ((i:Int) / 4))=(q:Int):=by
   have x1:qp.wrap ((i:Int) % 4*4)=(i:Int) % 4*4:=zWr;have x2:qp.wrap ((i:Int) / 4)=(i:Int) / 4:=zWr;rw[u3 zOm,x1,x2,zWr];omega
  generalize hG:(fun j=>decide (j<16/\j % 4*4+j / 4<i)&&a.2 (j % 4*4+j / 4))=G at *
  have g:(aI 2 :: hB G).set (1+q) (aB (a.2 i))=aI 2 :: hB (fun j=>decide (j<16/\j % 4*4+j / 4<i+1)&&a.2 (j % 4*4+j / 4)):=by
   rw[s1];refine congrArg (aI 2 :: ·) (uX fun j hj=>?_);rw[<-hG];by_cases C:j=q
   .have h2:j % 4*4+j / 4=i:=by omega
    rw[if_pos C,h2,decide_eq_true ⟨zOm,zOm⟩];rfl
   .have h2:¬(j<16/\j % 4*4+j / 4=i):=fun h=>C zOm
    rw[if_neg C];have h3:(j<16/\j % 4*4+j / 4<i+1)=(j<16/\j % 4*4+j / 4<i):=propext ⟨fun h=>⟨h.1,zOm⟩,fun h=>⟨h.1,zOm⟩⟩;rw[show decide (j<16/\j % 4*4+j / 4<i+1)=decide (j<16/\j % 4*4+j / 4<i) from decide_eq_decide.2 (by rw[h3])]
  have m2:=d0 a.2 i zOm;have I:(i:Int)<64:=zOm;have J:1<=64-i:=zOm;simp[go_sem,R,p,e4,r,t,l,I,J,m2,qw,w1,w3,show (q:Int)<64 by omega,show 1+q<=64 by omega,g];exact aK ⟨zS1 R,zS1 o,zS1 p,zSi,zSi⟩
 .have P:i=16:=by omega
  subst P;have e:hB (fun j=>decide (j<16/\j % 4*4+j / 4<16)&&a.2 (j % 4*4+j / 4))=hB (trS a).2:=by
   refine uX fun j hj=>?_
   rw[show decide (j<16/\j % 4*4+j / 4<16)=decide (j<16) from decide_eq_decide.2 ⟨fun h=>h.1,fun h=>⟨h,zOm⟩⟩];rfl
  rw[e]at r;have hT:eRS (trS a) = .agg (aI 2 :: hB (trS a).2):=rfl;rw[hT];generalize (trS a).2=T at *
  simp[go_sem,o,p,e4,r,qw,tk,pc];rw[if_pos (zg _)];simp[go_sem,o,qw,tk];exact .hf _ (yK (2,T))
def Qf(a b:RS)(j:Nat):Bool:=a.2 (j / szA b.1)&&b.2 (j % szA b.1)
def ky(a b:RS):RS:=(a.1+b.1,fun j=>decide (j<szA a.1*szA b.1)&&Qf a b j)
theorem qqI(f:Nat->Bool)(p v)(i:v=f p):∀ j,(if j=p then v else decide (j<p)&&f j)=(decide (j<p+1)&&f j):=fun j=>by
 by_cases g:j=p
 .subst g;simp[i]
 .rw [if_neg g,show decide (j<p+1)=decide (j<p) from decide_eq_decide.2 zOm]
theorem qdK(a b)(ha:0<=a.1/\a.1<=1000)(hb:0<=b.1/\b.1<=1000):qi qe 196 [eRS a,eRS b] (eRS (ky a b)):=by
 refine qSV call196 func196 rfl ?_;have w0:qp.wrap (a.1+b.1)=a.1+b.1:=zWr;have ag:=Vo a.1;have ah:=Vo b.1;have ca:=Z3 a.1;have cb:=Z3 b.1;have hf:∀ j,Qf a b j=(a.2 (j / szA b.1)&&b.2 (j % szA b.1)):=fun _=>rfl
 simp[go_sem,qw];refine⟨zg _,zg _,?_⟩;simp[go_sem,w0];refine cQ cb (.zs .nil) ?_;generalize hE:ky a b=E;have aa:E=(a.1+b.1,fun j=>decide (j<szA a.1*szA b.1)&&Qf a b j):=hE.symm;clear hE;generalize Qf a b=F at *
 generalize szA a.1=sa at *
 generalize szA b.1=n at *
 simp[go_sem];refine kL sa (fun i U=>U.tm 2 = .ip (cRS a)/\U.tm 3 = .ip (cRS b)/\U.tm 4 = .ptr 0 0/\U.tm 5 = .ptr 1 0/\U.tm 6=aI n/\U.tm 7=aI i/\U.mu=[.arr (aI 0 :: hB fun _=>false),.arr (aI (a.1+b.1) :: hB (fun j=>decide (j<i*n)&&F j))]) ?_ ?_
 .exact ⟨zSi,zSi,zSi,zSi,zSi,zSi,by simp[go_sem];first|rfl|exact⟨rfl,rfl⟩⟩
 rintro i U hi ⟨l,C,J,P,o,r,R⟩;simp[go_sem,l,r,R];refine cQ ca (.zs .nil) ?_;by_cases a7:i<sa
 .have w1:=zWk i
  simp[go_sem,a7];refine kL n (fun k U=>U.tm 2 = .ip (cRS a)/\U.tm 3 = .ip (cRS b)/\U.tm 4 = .ptr 0 0/\U.tm 5 = .ptr 1 0/\U.tm 6=aI n/\U.tm 7=aI i/\U.tm 8=aI k/\U.mu=[.arr (aI 0 :: hB fun _=>false),.arr (aI (a.1+b.1) :: hB (fun j=>decide (j<i*n+k)&&F j))]) ?_ ?_
  .exact ⟨zS1 l,zS1 C,zS1 J,zS1 P,zS1 o,zS1 r,zSi,zSi⟩
  clear l C J P o r R;rintro k U hk ⟨l,C,J,P,o,r,e8,R⟩;by_cases t:k<n
  .have w2:=zWk k
   obtain⟨p,hp⟩:∃ p:Nat,p=i*n+k:=⟨_,rfl⟩;have a8:((i:Int)*n+k)=(p:Int):=by rw[hp];push_cast;rfl
   have ai:i*n<=63*64:=Nat.mul_le_mul zOm zOm;have w3:qp.wrap ((i:Int)*n)=(i:Int)*n:=by
    have:((i*n:Nat):Int)=(i:Int)*n:=by push_cast;rfl
    rw[<-this];exact zWr
   have w4:qp.wrap (p:Int)=(p:Int):=zWr;have a3:F p=(a.2 i&&b.2 k):=by
    rw[hf,hp,Nat.add_comm,Nat.add_mul_div_right _ _ zOm,Nat.add_mul_mod_self_right,Nat.div_eq_of_lt t,Nat.mod_eq_of_lt t,yf]
   have m1:=d0 a.2 i zOm;have m2:=d0 b.2 k zOm;have a0:1<=64-i:=zOm;have a4:1<=64-k:=zOm;have a1:(i:Int)<64:=zOm;have a5:(k:Int)<64:=zOm;have hq:∀ x:AV,(x :: hB (fun j=>decide (j<p)&&F j)).set (1+p) (aB true)=x :: hB (fun j=>if j=p then true else decide (j<p)&&F j):=fun x=>s1 x _ p true
   rw[<-hp]at R;have ab:F p=true->(fun j=>if j=p then true else decide (j<p)&&F j)=(fun j=>decide (j<p+1)&&F j):=fun h=>funext (qqI F p true h.symm)
   have ad:F p=true->∀ x:AV,(x :: hB (fun j=>decide (j<p)&&F j)).set (1+p) (AV.sc (Value.bool true))=x :: hB (fun j=>decide (j<p+1)&&F j):=fun h x=>by rw[<-ab h];exact hq x
   have a6:(F p=false\/64<=p)->hB (fun j=>decide (j<p)&&F j)=hB (fun j=>decide (j<p+1)&&F j):=fun h=>uX fun j hj=>by
    by_cases h1:j=p
    .rcases h with h|h
     .rw [h1,h];simp
     .omega
    .rw [show decide (j<p+1)=decide (j<p) from decide_eq_decide.2 zOm]
   have done:∀ g:St,g.tm 2 = .ip (cRS a)->g.tm 3 = .ip (cRS b)->g.tm 4 = .ptr 0 0->g.tm 5 = .ptr 1 0->g.tm 6=aI n->g.tm 7=aI i->g.tm 8=aI (k+1:Nat)->g.mu=[.arr (aI 0 :: hB fun _=>false),.arr (aI (a.1+b.1) :: hB (fun j=>decide (j<p+1)&&F j))]->Keep (fun U=>U.tm 2 = .ip (cRS a)/\U.tm 3 = .ip (cRS b)/\U.tm 4 = .ptr 0 0/\U.tm 5 = .ptr 1 0/\U.tm 6=aI n/\U.tm 7=aI i/\U.tm 8=aI (k+1:Nat)/\U.mu=[.arr (aI 0 :: hB fun _=>false),.arr (aI (a.1+b.1) :: hB (fun j=>decide (j<i*n+(k+1))&&F j))]) .mk g:=
    fun g b1 b2 b3 b4 b5 b6 b7 b8=>aK ⟨b1,b2,b3,b4,b5,b6,b7,by rw[b8,hp];rfl⟩
   cases I:a.2 i with
   |false =>
    rw[I]at m1;simp[go_sem,l,o,r,e8,R,t,qw,m1,a0,a1,w2];exact done _ (zS1 l) (zS1 C) (zS1 J) (zS1 P) (zS1 o) (zS1 r) zSi (by simp[go_sem,a6 (.inl (by rw[a3,I];rfl))])
   |true =>
    rw[I]at m1;cases a2:b.2 k with
    |false =>
     rw[a2]at m2;simp[go_sem,l,C,o,r,e8,R,t,qw,m1,m2,a0,a4,a1,a5,w2];exact done _ (zS1 l) (zS1 C) (zS1 J) (zS1 P) (zS1 o) (zS1 r) zSi (by simp[go_sem,a6 (.inl (by rw[a3,I,a2];rfl))])
    |true =>
     rw[a2]at m2;by_cases a9:(p:Int)<64
     .simp [go_sem,l,C,P,o,r,e8,R,t,qw,m1,m2,a0,a4,a1,a5,w2,w3,a8,w4,a9,show 1+p<=64 by omega,ad (by rw[a3,I,a2];rfl)]
      exact done _ (zS1 l) (zS1 C) (zS1 J) (zS1 P) (zS1 o) (zS1 r) zSi zSi
     .simp [go_sem,l,C,o,r,e8,R,t,qw,m1,m2,a0,a4,a1,a5,w2,w3,a8,w4,a9]
      exact done _ (zS1 l) (zS1 C) (zS1 J) (zS1 P) (zS1 o) (zS1 r) zSi (by simp[go_sem,a6 (.inr zOm)])
  .have ae:k=n:=by omega
   subst ae;rw[show i*k+k=(i+1)*k by rw[Nat.add_mul,Nat.one_mul]]at R;simp[go_sem,o,r,e8,R,w1];exact⟨a7,aK ⟨zS1 l,zS1 C,zS1 J,zS1 P,zS1 o,zSi,zSi⟩⟩
 .have af:i=sa:=by omega
  subst af;rw[aa];generalize (fun j=>decide (j<i*n)&&F j)=T at *
  simp[go_sem,J,P,qw,tk,pc];rw[if_pos (zg _)];simp[go_sem,J,qw,tk];exact .hf _ (yK (_,T))
def rowJ(a b:RS)(i g j:Nat):Bool:=(qu g).any fun k=>decide (i / 4*(szA b.1 / 4)+k % (szA b.1 / 4)=j)&&(decide (i % 4=k / (szA b.1 / 4))&&(a.2 i&&b.2 k))
def Z4(a b:RS):RS:=(a.1+b.1-2,fun j=>(qu (szA a.1)).any fun i=>rowJ a b i (szA b.1) j)
theorem qqJ(a b i k j):rowJ a b i (k+1) j=(rowJ a b i k j||(decide (i / 4*(szA b.1 / 4)+k % (szA b.1 / 4)=j)&&(decide (i % 4=k / (szA b.1 / 4))&&(a.2 i&&b.2 k)))):=by
 unfold rowJ;rw[List.range_succ,List.any_append];simp
theorem qqK{k}(h:1<=k):4<=szA k:=by unfold szA;split<;>(try split)<;>(try split)<;>omega
theorem wm(a b)(ha:0<=a.1/\a.1<=1000)(hb:1<=b.1/\b.1<=1000):qi qe 195 [eRS a,eRS b] (eRS (Z4 a b)):=by
 refine qSV call195 func195 rfl ?_;have w0:qp.wrap (a.1+b.1)=a.1+b.1:=zWr;have ab:qp.wrap (a.1+b.1-2)=a.1+b.1-2:=zWr;have aj:=Vo a.1;have ak:=Vo b.1;have al:=qqK hb.1;have ca:=Z3 a.1;have cb:=Z3 b.1;have hR:∀ i k j,rowJ a b i (k+1) j=(rowJ a b i k j||(decide (i / 4*(szA b.1 / 4)+k % (szA b.1 / 4)=j)&&(decide (i % 4=k / (szA b.1 / 4))&&(a.2 i&&b.2 k)))):=qqJ a b;have ad:∀ i j,rowJ a b i 0 j=false:=fun i j=>rfl
 simp[go_sem,qw];refine⟨zg _,zg _,?_⟩;simp[go_sem,w0,ab];refine cQ cb (.zs .nil) ?_;generalize hE:Z4 a b=E;have ae:E=(a.1+b.1-2,fun j=>(qu (szA a.1)).any fun i=>rowJ a b i (szA b.1) j):=hE.symm;clear hE;generalize rowJ a b=F at *
 generalize szA a.1=sa at *
 generalize szA b.1=sb at *
 obtain⟨n,hn⟩:∃ n:Nat,n=sb / 4:=⟨_,rfl⟩;have an:1<=n/\n<=16:=zOm;have wn:qp.wrap ((sb:Int) / 4)=(n:Int):=by rw[zWr];omega
 rw[<-hn]at hR;simp[go_sem,wn];refine kL sa (fun i U=>U.tm 2 = .ip (cRS a)/\U.tm 3 = .ip (cRS b)/\U.tm 4 = .ptr 0 0/\U.tm 5 = .ptr 1 0/\U.tm 6=aI n/\U.tm 7=aI i/\U.mu=[.arr (aI 0 :: hB fun _=>false),.arr (aI (a.1+b.1-2) :: hB (fun j=>(qu i).any fun i=>F i sb j))]) ?_ ?_
 .exact ⟨zSi,zSi,zSi,zSi,zSi,zSi,by simp[go_sem];first|rfl|exact⟨rfl,rfl⟩⟩
 rintro i U hi ⟨l,r,C,I,t,o,hm⟩;simp[go_sem,l,o,hm];refine cQ ca (.zs .nil) ?_;by_cases a9:i<sa
 .have w1:=zWk i
  generalize hP:(fun j=>(qu i).any fun i=>F i sb j)=P at *
  simp[go_sem,a9];refine kL sb (fun k U=>U.tm 2 = .ip (cRS a)/\U.tm 3 = .ip (cRS b)/\U.tm 4 = .ptr 0 0/\U.tm 5 = .ptr 1 0/\U.tm 6=aI n/\U.tm 7=aI i/\U.tm 8=aI k/\U.mu=[.arr (aI 0 :: hB fun _=>false),.arr (aI (a.1+b.1-2) :: hB (fun j=>P j||F i k j))]) ?_ ?_
  .exact ⟨zS1 l,zS1 r,zS1 C,zS1 I,zS1 t,zS1 o,zSi,zS1 ad⟩
  clear l r C I t o hm;rintro k U hk ⟨l,r,C,I,t,o,e8,hm⟩;simp[go_sem,r,e8,hm];refine cQ cb (.zs .nil) ?_;by_cases J:k<sb
  .have w2:=zWk k
   obtain⟨p,hp⟩:∃ p:Nat,p=i / 4*n+k % n:=⟨_,rfl⟩;have ao:k % n<n:=Nat.mod_lt _ zOm;have aq:i / 4*n<=15*16:=Nat.mul_le_mul zOm zOm;have y1:((i / 4:Nat):Int)=(i:Int) / 4:=zOm;have y2:((i / 4*n:Nat):Int)=(i:Int) / 4*n:=by rw[<-y1];push_cast;rfl
   have y3:((k % n:Nat):Int)=(k:Int) % n:=rfl;have y4:((k / n:Nat):Int)=(k:Int) / n:=rfl;have af:k / n<=64:=Nat.le_trans (Nat.div_le_self k n) zOm;have x1:qp.wrap ((i:Int) / 4)=(i:Int) / 4:=zWr;have x2:qp.wrap ((i:Int) / 4*n)=(i:Int) / 4*n:=by rw[<-y2];exact zWr
   have x4:qp.wrap ((i:Int) / 4*n+(k:Int) % n)=(p:Int):=by rw[<-y2,<-y3,zWr,hp];push_cast;rfl
   have a8:qp.wrap ((i:Int) / 4*n+(k:Int).tmod n)=(p:Int):=by rw[u3 zOm];exact x4
   have x5:qp.wrap ((k:Int) / n)=(k:Int) / n:=by
    rw[<-y4];clear y4;generalize k / n=c at af⊢;exact zWr
   have R:¬n=0:=zOm;have m1:=d0 a.2 i zOm;have m2:=d0 b.2 k zOm;have a0:1<=64-i:=zOm;have a2:1<=64-k:=zOm;have a1:(i:Int)<64:=zOm;have a3:(k:Int)<64:=zOm;have a4:((decide (i % 4=k / n)&&(a.2 i&&b.2 k))=false\/64<=p)->hB (fun j=>P j||F i k j)=hB (fun j=>P j||F i (k+1) j):=fun h=>uX fun j hj=>by
    rw[hR,<-hp];rcases h with h|h
    .rw [h,Bool.and_false,Bool.or_false]
    .rw [decide_eq_false zOm,Bool.false_and,Bool.or_false]
   have ag:(decide (i % 4=k / n)&&(a.2 i&&b.2 k))=true->∀ x:AV,(x :: hB (fun j=>P j||F i k j)).set (1+p) (AV.sc (Value.bool true))=x :: hB (fun j=>P j||F i (k+1) j):=fun h x=>by
    refine(s1 x _ p true).trans (congrArg (x :: ·) (uX fun j hj=>?_));rw[hR,<-hp,h,Bool.and_true];by_cases h1:j=p
    .rw [if_pos h1,h1];simp
    .rw [if_neg h1,decide_eq_false (fun e=>h1 e.symm),Bool.or_false]
   have done:∀ g:St,g.tm 2 = .ip (cRS a)->g.tm 3 = .ip (cRS b)->g.tm 4 = .ptr 0 0->g.tm 5 = .ptr 1 0->g.tm 6=aI n->g.tm 7=aI i->g.tm 8=aI (k+1:Nat)->g.mu=[.arr (aI 0 :: hB fun _=>false),.arr (aI (a.1+b.1-2) :: hB (fun j=>P j||F i (k+1) j))]->Keep (fun U=>U.tm 2 = .ip (cRS a)/\U.tm 3 = .ip (cRS b)/\U.tm 4 = .ptr 0 0/\U.tm 5 = .ptr 1 0/\U.tm 6=aI n/\U.tm 7=aI i/\U.tm 8=aI (k+1:Nat)/\U.mu=[.arr (aI 0 :: hB fun _=>false),.arr (aI (a.1+b.1-2) :: hB (fun j=>P j||F i (k+1) j))]) .mk g:=
    fun g b1 b2 b3 b4 b5 b6 b7 b8=>aK ⟨b1,b2,b3,b4,b5,b6,b7,b8⟩
   cases a5:a.2 i with
   |false =>
    rw[a5]at m1;simp[go_sem,l,t,o,e8,J,qw,x1,x2,R,m1,a0,a1,w2];exact done _ (zS1 l) (zS1 r) (zS1 C) (zS1 I) (zS1 t) (zS1 o) zSi (by simp[go_sem,a4 (.inl (by rw[a5];simp))])
   |true =>
    rw[a5]at m1;cases a6:b.2 k with
    |false =>
     rw[a6]at m2;simp[go_sem,l,r,t,o,e8,J,qw,x1,x2,R,m1,m2,a0,a1,a2,a3,w2];exact done _ (zS1 l) (zS1 r) (zS1 C) (zS1 I) (zS1 t) (zS1 o) zSi (by simp[go_sem,a4 (.inl (by rw[a6];simp))])
    |true =>
     rw[a6]at m2;by_cases hq:i % 4=k / n
     .have a7:(i:Int).tmod 4=(k:Int) / n:=by rw[u3 zOm,<-y4,<-hq];rfl
      by_cases aa:(p:Int)<64
      .simp [go_sem,l,r,I,t,o,e8,J,qw,x1,x2,a8,x5,R,m1,m2,a0,a1,a2,a3,w2,a7,aa,show 1+p<=64 by omega,ag (by rw[decide_eq_true hq,a5,a6];rfl)]
       exact done _ (zS1 l) (zS1 r) (zS1 C) (zS1 I) (zS1 t) (zS1 o) zSi zSi
      .simp [go_sem,l,r,t,o,e8,J,qw,x1,x2,a8,x5,R,m1,m2,a0,a1,a2,a3,w2,a7,aa]
       exact done _ (zS1 l) (zS1 r) (zS1 C) (zS1 I) (zS1 t) (zS1 o) zSi (by simp[go_sem,a4 (.inr zOm)])
     .have a7:¬(i:Int).tmod 4=(k:Int) / n:=fun e=>hq (by rw[u3 zOm,<-y4]at e;exact Int.ofNat.inj e)
      simp[go_sem,l,r,t,o,e8,J,qw,x1,x2,a8,x5,R,m1,m2,a0,a1,a2,a3,w2,a7];exact done _ (zS1 l) (zS1 r) (zS1 C) (zS1 I) (zS1 t) (zS1 o) zSi (by simp[go_sem,a4 (.inl (by rw[decide_eq_false hq];rfl))])
  .have ah:k=sb:=by omega
   subst ah;simp[go_sem,o,w1];exact⟨a9,aK ⟨zS1 l,zS1 r,zS1 C,zS1 I,zS1 t,zSi,by simp[go_sem];rw[<-hP]⟩⟩
 .have ai:i=sa:=by omega
  subst ai;rw[ae];generalize (fun j=>(qu i).any fun i=>F i sb j)=T at *
  simp[go_sem,C,I,qw,tk,pc];rw[if_pos (zg _)];simp[go_sem,C,qw,tk];exact .hf _ (yK (_,T))
end QE
namespace QF
open Y2 Y3 P1 P2 QD QE
section
variable {p q:Int}{a b:Kd}{l:List Int}{m ns:Nat}
def dig(k:Int)(j:Nat):List Int:=if k=0 then [] else if k=1 then [(j:Int)] else if k=2 then [((j / 4:Nat):Int),((j % 4:Nat):Int)] else [((j / 16:Nat):Int),((j / 4 % 4:Nat):Int),((j % 4:Nat):Int)]
theorem Z5{k}(h:0<=k/\k<=3)(j):((dig k j).length:Int)=k:=by
 grind [dig]
theorem szA1:szA 1=4:=rfl
theorem szA2:szA 2=16:=rfl
theorem szA3:szA 3=64:=rfl
theorem Vp(h:0<=p/\p<=3):p=0\/p=1\/p=2\/p=3:=by omega
theorem qdL(g:0<=p)(i:0<=q)(h:p+q<=3){j}(l:j<szA (p+q)):j / szA q<szA p/\j % szA q<szA q/\dig (p+q) j=dig p (j / szA q)++dig q (j % szA q):=by
 rcases Vp (p:=p) ⟨g,zOm⟩ with rfl|rfl|rfl|rfl<;>rcases Vp (p:=q) ⟨i,zOm⟩ with rfl|rfl|rfl|rfl<;>first | (exfalso;omega)|skip
 all_goals simp[dig,szA]at l⊢
 all_goals omega
theorem kA(g:0<=p)(j:0<=q)(h:p+q<=3){i k}(l:i<szA p)(o:k<szA q):i*szA q+k<szA (p+q)/\dig (p+q) (i*szA q+k)=dig p i++dig q k:=by
 rcases Vp (p:=p) ⟨g,zOm⟩ with rfl|rfl|rfl|rfl<;>rcases Vp (p:=q) ⟨j,zOm⟩ with rfl|rfl|rfl|rfl<;>first | (exfalso;omega)|skip
 all_goals simp[dig,szA]at l o⊢
 all_goals omega
theorem kB(h:0<=p/\p<=3){i j}(g:i<szA p)(l:j<szA p)(e:dig p i=dig p j):i=j:=by
 rcases Vp h with rfl|rfl|rfl|rfl
 all_goals grind [dig,szA]
 all_goals omega
theorem qdM(h:1<=p/\p<=3){l}(j:(l.length:Int)=p)(g:∀ x,x∈l->0<=x/\x<4):∃ i,i<szA p/\l=dig p i:=by
 match l,j,g with
 | [],j,_=>simp at j;omega
 | [a],j,g =>
  obtain rfl:p=1:=by grind
  have:=g a zSp;exact⟨a.toNat,by rw[szA1];omega,by simp[dig];omega⟩
 | [a,b],j,g =>
  obtain rfl:p=2:=by grind
  have:=g a zSp;have:=g b zSp;exact⟨(a*4+b).toNat,by rw[szA2];omega,by simp[dig];omega⟩
 | [a,b,c],j,g =>
  obtain rfl:p=3:=by grind
  have:=g a zSp;have:=g b zSp;have:=g c zSp;exact⟨(a*16+b*4+c).toNat,by rw[szA3];omega,by simp[dig];omega⟩
 |a :: b :: c :: d :: l,j,_=>simp at j;omega
theorem kC{l'}(h:l.length=l'.length)(g:l.length<=3)(e:pad l=pad l'):l=l':=by
 have i:=ZW g l.length (qr _);have j:=ZW (l:=l') zOm l'.length (qr _)
 grind
theorem Jf{k}(h:okKd ns k)(g:ns<=4){t:Tp}(j:t∈k.ts):∃ i,i<szA k.ar/\t=pad (dig k.ar i):=by
 obtain⟨l,rfl,o,p⟩:=h.ts t j;obtain⟨i,r,e⟩:=qdM h.ar o fun x C=>by grind
 grind
def qt(k:Kd):RS:=(k.ar,fun j=>decide (j<szA k.ar/\pad (dig k.ar j)∈k.ts))
theorem yY(k j):(qt k).2 j=true↔j<szA k.ar/\pad (dig k.ar j)∈k.ts:=decide_eq_true_iff
theorem Qq{a b}(g:a.1=b.1)(i:∀ j,j<64->a.2 j=b.2 j):eRS a=eRS b:=by
 simp only[eRS,cRS,g,uX i]
theorem Vq(h:a.ar=b.ar):eRS (uniS (qt a) (qt b))=eRS (qt (kSum a b)):=by
 refine Qq rfl fun j g=>?_
 rw[j0,yY];show ((qt a).2 j||(qt b).2 j)=true↔j<szA a.ar/\pad (dig a.ar j)∈uni (uni [] a.ts) b.ts;rw[Bool.or_eq_true,yY,yY,<-h,vY,vY]
 grind
theorem qqL(h:a.ar=b.ar):eRS (intS (qt a) (qt b))=eRS (qt (Ys a b)):=by
 refine Qq rfl fun j g=>?_
 rw[j0,yY];show ((qt a).2 j&&(qt b).2 j)=true↔j<szA a.ar/\pad (dig a.ar j)∈a.ts.filter fun t=>decide (t∈b.ts)
 rw[qI,yY,yY,<-h,jM,decide_eq_true_eq]
 grind
theorem JI{n a b t}:t∈Qe n m a b↔∃ x y,x∈a/\y∈b/\conc x n y m 0=t:=by
 unfold Qe;rw[vY];simp only[qH,false_or,qn,Prod.exists,Yr]
 grind
theorem J4{l' n}(h:l.length=n)(g:l'.length=m)(i:n<=3)(j:m<=3):conc (pad l) n (pad l') m 0=pad (l++l'):=by
 unfold conc;rw[Nat.sub_zero,List.drop_zero,ZW zOm n zOm,ZW zOm m zOm,<-h,<-g,qP,qP]
theorem qqM(J:okKd ns a)(P:okKd ns b)(l:ns<=4)(R:a.ar+b.ar<=3):eRS (ky (qt a) (qt b))=eRS (qt (uM a b)):=by
 have a0:=J.ar;have a1:=P.ar;have la:=fun i=>Z5 (k:=a.ar) zOm i
 have lb:=fun i=>Z5 (k:=b.ar) zOm i
 have g:=fun i=>Z5 (k:=a.ar+b.ar) zOm i
 refine Qq rfl fun j hj=>?_
 rw[j0,yY];show (decide (j<szA a.ar*szA b.ar)&&((qt a).2 (j / szA b.ar)&&(qt b).2 (j % szA b.ar)))=true↔j<szA (a.ar+b.ar)/\pad (dig (a.ar+b.ar) j)∈Qe a.ar.toNat b.ar.toNat a.ts b.ts;rw[qI,qI,yY,yY,JI,decide_eq_true_eq];constructor
 .rintro ⟨_,⟨r,h2⟩,h4,h5⟩
  have t:=kA (p:=a.ar) (q:=b.ar) zOm zOm R r h4
  grind [szA,Nat.div_add_mod',J4]
 .rintro ⟨r,x,y,T,U,e⟩
  obtain⟨i,C,rfl⟩:=Jf J l T;obtain⟨k,o,rfl⟩:=Jf P l U;rw[J4 (zW1 (la i)) (zW1 (lb k)) zOm zOm]at e;have t:=kA (p:=a.ar) (q:=b.ar) zOm zOm R C o;rw[<-t.2]at e;have e2:=kC (zW2 (g (i*szA b.ar+k)) (g j)) (zW1 (g (i*szA b.ar+k))) e;have I:=kB zOm t.1 r e2;have a2:=Vo b.ar;have d1:j / szA b.ar=i:=by rw[<-I,Nat.add_comm,Nat.add_mul_div_right _ _ zOm,Nat.div_eq_of_lt o,yf]
  have d2:j % szA b.ar=k:=by rw[<-I,Nat.add_comm,Nat.add_mul_mod_self_right,Nat.mod_eq_of_lt o]
  rw[d1,d2];refine⟨?_,⟨C,T⟩,o,U⟩;rw[<-I]
  calc i*szA b.ar+k<i*szA b.ar+szA b.ar:=by omega
   _=(i+1)*szA b.ar:=by rw[Nat.add_mul,Nat.one_mul]
   _<=szA a.ar*szA b.ar:=Nat.mul_le_mul_right _ C
theorem Ze{n a b t}:t∈uL n m a b↔∃ x y,x∈a/\y∈b/\x.getD (n-1) 0=y.getD 0 0/\conc x n y m 1=t:=by
 unfold uL;rw[vY];simp only[qH,false_or,List.mem_filterMap,Prod.exists,Yr];constructor
 .rintro ⟨x,y,⟨i,j⟩,g⟩
  split at g
  .rename_i h;cases g;exact⟨x,y,i,j,h,rfl⟩
  .cases g
 .rintro ⟨x,y,i,j,g,l⟩;exact⟨x,y,⟨i,j⟩,by rw[if_pos g,l]⟩
theorem qqN{u v e f n}(h:u.length+1=n)(g:v.length+1=m)(i:n<=3)(j:m<=3):conc (pad (u++[e])) n (pad ([f]++v)) m 1=pad (u++v):=by
 unfold conc;rw[ZW zSo (n-1) zSo,ZW zSo m zSo,List.take_append_of_le_length zOm,zV zOm,zV zSo];rfl
theorem qdN{k}(h:k<3):(pad l).getD k 0=l.getD k 0:=by
 match k,h with
 | 0,_=>rfl
 | 1,_=>rfl
 | 2,_=>rfl
theorem qqO(g:0<=p/\p<=2){i}(j:i<szA (p+1)):i / 4<szA p/\dig (p+1) i=dig p (i / 4)++[((i % 4:Nat):Int)]:=by
 have:=qdL (p:=p) (q:=1) g.1 zOm zOm j;rw[szA1]at this;exact⟨this.1,this.2.2⟩
theorem qqP(g:0<=q/\q<=2){k}(i:k<szA (1+q)):k % szA q<szA q/\dig (1+q) k=[((k / szA q:Nat):Int)]++dig q (k % szA q):=by
 have:=qdL (p:=1) (q:=q) zOm g.1 zOm i;exact⟨this.2.1,this.2.2⟩
theorem qqQ(g:0<=q/\q<=2):szA (q+1) / 4=szA q/\szA (q+1)=4*szA q:=by
 rcases (show q=0\/q=1\/q=2 by omega) with rfl|rfl|rfl<;>exact⟨rfl,rfl⟩
theorem qdO(ha:okKd ns a)(hb:okKd ns b)(r:ns<=4)(h3:1<=a.ar+b.ar-2/\a.ar+b.ar-2<=3):eRS (Z4 (qt a) (qt b))=eRS (qt (zT a b)):=by
 have a0:=ha.ar;have a3:=hb.ar;obtain⟨p,hp⟩:∃ p,p=a.ar-1:=⟨_,rfl⟩;obtain⟨q,hq⟩:∃ q,q=b.ar-1:=⟨_,rfl⟩;have ea:a.ar=p+1:=zOm;have eb:b.ar=1+q:=zOm;have t:b.ar=q+1:=zOm;have C:a.ar+b.ar-2=p+q:=zOm;have I:=qqQ (q:=q) zOm;have hn:szA b.ar / 4=szA q:=by rw[t];exact I.1
 have lp:=fun i=>Z5 (k:=p) zOm i
 have lq:=fun i=>Z5 (k:=q) zOm i
 have o:=fun i=>Z5 (k:=p+q) zOm i
 have A:∀ i,i<szA a.ar->i / 4<szA p/\dig a.ar i=dig p (i / 4)++[((i % 4:Nat):Int)]:=fun i g=>by rw[ea]at g⊢;exact qqO zOm g
 have B:∀ k,k<szA b.ar->k % szA q<szA q/\dig b.ar k=[((k / szA q:Nat):Int)]++dig q (k % szA q):=fun k l=>by rw[eb]at l⊢;exact qqP zOm l
 have J:∀ i k,i<szA a.ar->k<szA b.ar->i / 4*szA q+k % szA q<szA (p+q)/\(pad (dig a.ar i)).getD (a.ar.toNat-1) 0=((i % 4:Nat):Int)/\(pad (dig b.ar k)).getD 0 0=((k / szA q:Nat):Int)/\conc (pad (dig a.ar i)) a.ar.toNat (pad (dig b.ar k)) b.ar.toNat 1=pad (dig (p+q) (i / 4*szA q+k % szA q)):=fun i k g l=>by
  obtain⟨a1,a2⟩:=A i g;obtain⟨b1,b2⟩:=B k l;have hm:=kA (p:=p) (q:=q) zOm zOm zOm a1 b1;have l1:=lp (i / 4);have l2:=lq (k % szA q);refine⟨hm.1,?_,?_,?_⟩
  .rw [qdN zOm,a2,show a.ar.toNat-1=(dig p (i / 4)).length by omega];simp
  .rw [qdN zOm,b2];rfl
  .rw [a2,b2,hm.2];exact qqN zOm zOm zOm zOm
 refine Qq rfl fun j hj=>?_
 rw[j0,yY];show ((qu (szA a.ar)).any fun i=>(qu (szA b.ar)).any fun k=>decide (i / 4*(szA b.ar / 4)+k % (szA b.ar / 4)=j)&&(decide (i % 4=k / (szA b.ar / 4))&&((qt a).2 i&&(qt b).2 k)))=true↔j<szA (a.ar+b.ar-2)/\pad (dig (a.ar+b.ar-2) j)∈uL a.ar.toNat b.ar.toNat a.ts b.ts;rw[Ze,List.any_eq_true,hn,C];constructor
 .rintro ⟨i,g,h⟩
  obtain⟨k,l,h⟩:=List.any_eq_true.1 h;rw[yb]at g l;rw[qI,qI,qI,decide_eq_true_eq,decide_eq_true_eq,yY,yY]at h;obtain⟨rfl,P,⟨_,h4⟩,_,h5⟩:=h;obtain⟨R,T,U,j4⟩:=J i k g l;exact⟨R,_,_,h4,h5,by rw[T,U,P],j4⟩
 .rintro ⟨h1,x,y,hx,hy,P,e⟩
  obtain⟨i,g,rfl⟩:=Jf ha r hx;obtain⟨k,l,rfl⟩:=Jf hb r hy;obtain⟨R,T,U,j4⟩:=J i k g l;rw[j4]at e;have e2:=kC (zW2 (o (i / 4*szA q+k % szA q)) (o j)) (zW1 (o (i / 4*szA q+k % szA q))) e;have e3:=kB zOm R h1 e2;rw[T,U]at P;refine⟨i,yb.2 g,List.any_eq_true.2 ⟨k,yb.2 l,?_⟩⟩;rw[qI,qI,qI,decide_eq_true_eq,decide_eq_true_eq,yY,yY];exact⟨e3,zOm,⟨g,hx⟩,l,hy⟩
theorem qqR(o:okKd ns a)(g:ns<=4)(p:a.ar=2):eRS (trS (qt a))=eRS (qt (kTr a)):=by
 refine Qq rfl fun j I=>?_
 rw[j0,yY];show (decide (j<16)&&(qt a).2 (j % 4*4+j / 4))=true↔j<16/\pad (dig 2 j)∈uni [] (a.ts.map fun t=>[t.getD 1 0,t.getD 0 0,0]);rw[qI,yY,vY,decide_eq_true_eq,p,szA2];simp only[qH,false_or,qn];constructor
 .rintro ⟨l,J,r⟩
  refine⟨l,_,r,?_⟩
  grind [dig,pad]
 .rintro ⟨l,t,C,e⟩
  obtain⟨i,P,rfl⟩:=Jf o g C
  grind [szA2,dig,pad]
theorem kE(h:1<=l.length/\l.length<=3)(g:∀ x,x∈l->0<=x/\x<4):eRS (oneS l)=eRS (qt (kOf l)):=by
 refine Qq rfl fun j P=>?_
 obtain⟨i,o,e⟩:=qdM (p:=(l.length:Int)) zOm rfl g;have r:atF 0 l=i:=by
  match l,h,g,o,e with
  | [x],_,g,o,e =>
   have:=g x zSp;simp[dig]at e;simp[atF,IntKind.wrap,IntKind.signed,IntKind.bits];omega
  | [x,y],_,g,o,e =>
   have:=g x zSp;have:=g y zSp;simp[dig]at e;simp[atF,IntKind.wrap,IntKind.signed,IntKind.bits];omega
  | [x,y,z],_,g,o,e =>
   have:=g x zSp;have:=g y zSp;have:=g z zSp;simp[dig]at e;simp[atF,IntKind.wrap,IntKind.signed,IntKind.bits];omega
 rw[j0,yY];show decide ((j:Int)=atF 0 l)=true↔j<szA (l.length:Int)/\pad (dig (l.length:Int) j)∈[pad l];rw[decide_eq_true_eq,r,qV];have C:=fun j=>Z5 (k:=(l.length:Int)) zOm j
 constructor
 .intro I
  obtain rfl:j=i:=zOm
  grind
 .rintro ⟨I,J⟩
  have t:=kC (zW1 (C j)) (zW1 (C j)) J;rw[e]at t;have:=kB (p:=(l.length:Int)) zOm I o (by rw[<-e]at t⊢;exact t);omega
end
end QF
namespace QG
open Y2 P1 P2 PB QE QF
section
variable {k:Kd}{ns:Nat}
def Vs(k:Kd):Kd:=kSum k (zT k k)
def itK:Nat->Kd->Kd
 | 0,k=>k
 |i+1,k=>Vs (itK i k)
theorem qqS(h:okKd ns k)(g:k.ar=2):okKd ns (Vs k)/\(Vs k).ar=2:=
 ⟨J3 h (J5 h h zOm zOm) (by grind [zT]),g⟩
theorem okIt(h:okKd ns k)(g:k.ar=2):∀ i,okKd ns (itK i k)/\(itK i k).ar=2
 | 0=>⟨h,g⟩
 |i+1=>qqS (okIt h g i).1 (okIt h g i).2
abbrev Ed(k:Kd)(u v:Int):Prop:=[u,v,0]∈k.ts
theorem We(h:okKd ns k)(o:k.ar=2){t:Tp}(j:t∈k.ts):∃ u v,t=[u,v,0]/\(0<=u/\u<ns)/\(0<=v/\v<ns):=by
 obtain⟨l,rfl,g,i⟩:=h.ts t j
 match l,g,i with
 | [u,v],_,i=>exact⟨u,v,rfl,i u zSp,i v zSp⟩
 | [],g,_=>simp at g;omega
 | [_],g,_=>simp at g;omega
 |_ :: _ :: _ :: _,g,_=>simp at g;omega
theorem qdP(h:okKd ns k)(j:k.ar=2){u v}:[u,v,0]∈(zT k k).ts↔∃ w,Ed k u w/\Ed k w v:=by
 show [u,v,0]∈uL k.ar.toNat k.ar.toNat k.ts k.ts↔_;rw[QF.Ze,j];constructor
 .rintro ⟨x,y,l,o,g,i⟩
  obtain⟨a,b,rfl,_,_⟩:=We h j l;obtain⟨c,d,rfl,_,_⟩:=We h j o;have g:b=c:=g;have i:[a,d,0]=[u,v,0]:=i
  grind
 .rintro ⟨w,g,i⟩
  exact⟨[u,w,0],[w,v,0],g,i,rfl,rfl⟩
theorem kF(h:okKd ns k)(g:k.ar=2){u v}:Ed (Vs k) u v↔Ed k u v\/∃ w,Ed k u w/\Ed k w v:=by
 unfold Ed Vs;rw[Zt,qdP h g]
def Path(k:Kd)(n:Nat)(u v:Int):Prop:=∃ f:Nat->Int,f 0=u/\f n=v/\∀ i,i<n->Ed k (f i) (f (i+1))
theorem Path.one{u v}(h:Ed k u v):Path k 1 u v:=⟨fun i=>if i=0 then u else v,rfl,rfl,fun i g=>by
 grind⟩
theorem Path.comp{n m u w v}(h:Path k n u w)(o:Path k m w v):Path k (n+m) u v:=by
 obtain⟨f,f0,fn,hf⟩:=h;obtain⟨g,p,r,t⟩:=o;refine⟨fun i=>if i<n then f i else g (i-n),?_,?_,fun i C=>?_⟩
 .grind
 .grind
 .by_cases j:i+1<n
  .simp only[if_pos j,if_pos (show i<n by omega)];grind
  .by_cases l:i<n
   .have e:i+1=n:=by omega
    simp only[if_neg j,if_pos l]
    grind
   .simp only[if_neg j,if_neg l,show i+1-n=(i-n)+1 by omega]
    grind
theorem cR(h:okKd ns k)(J:k.ar=2)(g:ns<=4):∀ N n u v,n<=N->1<=n->Path k n u v->∃ m,1<=m/\m<=4/\Path k m u v
 | 0,n,u,v,P,R,_=>zOm
 | N+1,n,u,v,P,R,T=>by
  by_cases h4:n<=4
  .grind
  obtain⟨f,f0,fn,hf⟩:=T;have U:∀ i,i<5->0<=f i/\f i<4:=fun i t=>by
   grind [We]
  obtain⟨i,j,a0,hj,e⟩:∃ i j,i<j/\j<5/\f i=f j:=by
   apply Classical.byContradiction;intro l;have o:((qu 5).map f).Nodup:=List.pairwise_map.2 (List.pairwise_lt_range.imp_of_mem fun {a b} ha hb p e=>l ⟨a,b,p,yb.1 hb,e⟩);have:=j5 o (l₂:=[0,1,2,3]) fun x C=>by
    obtain⟨i,t,rfl⟩:=qn.1 C;have:=U i (yb.1 t);simp;omega
   simp at this
  refine cR h J g N (n-(j-i)) u v zOm zOm ⟨fun x=>if x<i then f x else f (x+(j-i)),?_,?_,fun x C=>?_⟩
  .grind
  .simp only[if_neg (show ¬n-(j-i)<i by omega),show n-(j-i)+(j-i)=n by omega,fn]
  .by_cases r:x+1<i
   .simp only[if_pos r,if_pos (show x<i by omega)];grind
   .by_cases I:x<i
    .have e1:x+1=i:=by omega
     simp only[if_neg r,if_pos I]
     grind
    .simp only[if_neg r,if_neg I,show x+1+(j-i)=(x+(j-i))+1 by omega]
     exact hf _ zOm
theorem Vt(h:okKd ns k)(g:k.ar=2):∀ i u v,Ed (itK i k) u v->∃ n,1<=n/\Path k n u v
 | 0,u,v,j=>⟨1,zOm,.one j⟩
 |i+1,u,v,j=>by
  rcases (kF (okIt h g i).1 (okIt h g i).2).1 j with j|⟨w,l,o⟩
  .exact Vt h g i u v j
  .obtain ⟨n,r,p⟩:=Vt h g i u w l
   obtain⟨m,t,q⟩:=Vt h g i w v o;exact⟨n+m,zOm,p.comp q⟩
theorem Jg(i):Sub (itK i k) (itK (i+1) k):=K4 _ _
theorem qqT(h:okKd ns k)(g:k.ar=2){m u v}(p:1<=m)(r:m<=4)(o:Path k m u v):Ed (itK 4 k) u v:=by
 obtain⟨f,rfl,rfl,hf⟩:=o;have up:∀{u v},Ed (itK 2 k) u v->Ed (itK 4 k) u v:=fun i=>(Jg 3).2 _ ((Jg 2).2 _ i)
 have s1:∀{u w v},Ed (itK 0 k) u w->Ed (itK 0 k) w v->Ed (itK 1 k) u v:=fun a b=>(kF (okIt h g 0).1 (okIt h g 0).2).2 (.inr ⟨_,a,b⟩)
 have j:∀{u w v},Ed (itK 1 k) u w->Ed (itK 1 k) w v->Ed (itK 2 k) u v:=fun a b=>(kF (okIt h g 1).1 (okIt h g 1).2).2 (.inr ⟨_,a,b⟩)
 have l:∀{u v},Ed (itK 0 k) u v->Ed (itK 1 k) u v:=fun i=>(Jg 0).2 _ i
 refine up ?_;rcases (show m=1\/m=2\/m=3\/m=4 by omega) with rfl|rfl|rfl|rfl
 .exact (Jg 1).2 _ (l (hf 0 zOm))
 .exact (Jg 1).2 _ (s1 (hf 0 zOm) (hf 1 zOm))
 .exact j (s1 (hf 0 zOm) (hf 1 zOm)) (l (hf 2 zOm))
 .exact j (s1 (hf 0 zOm) (hf 1 zOm)) (s1 (hf 2 zOm) (hf 3 zOm))
theorem qqU(h:okKd ns k)(g:k.ar=2)(i:ns<=4):U7 (itK 4 k):=fun t l=>by
 have ok:=okIt h g 4;have j:=J5 ok.1 ok.1 (by rw[ok.2];omega) (by rw[ok.2];omega);obtain⟨u,v,rfl,_,_⟩:=We j (by grind [zT]) l;obtain⟨w,o,r⟩:=(qdP ok.1 ok.2).1 l;obtain⟨n,C,p⟩:=Vt h g 4 u w o;obtain⟨m,I,q⟩:=Vt h g 4 w v r;obtain⟨c,c1,c4,J⟩:=cR h g i (n+m) (n+m) u v (qr _) zOm (p.comp q)
 grind [qqT]
theorem Vu{S}(g:U7 S){k}(h:Sub k S):∀ i,Sub (itK i k) S
 | 0=>h
 |i+1=>⟨(Vu g h i).1,fun t j=>by
  rcases Zt.1 j with j|j
  .exact (Vu g h i).2 t j
  .exact g t ((U6 (Vu g h i) (Vu g h i)).2 t j)⟩
theorem qdQ:∀ i,Sub k (itK i k)
 | 0 => .refl k
 |i+1=>(qdQ i).trans (Jg i)
theorem qqV(h:okKd ns k)(l:k.ar=2)(g:ns<=4):eRS (qt (itK 4 k))=eRS (qt (kClo k)):=by
 have o:Sub (kClo k) (itK 4 k):=K6 (qqU h l g) 70 0 k (qdQ 4);have i:Sub (itK 4 k) (kClo k):=Vu (K7 g 70 0 k h l zOm (.inl rfl)) (K5 70 0 k) 4;refine Qq i.1 fun j p=>?_
 rw[j0,yY,yY,i.1];exact⟨fun x=>⟨x.1,i.2 _ x.2⟩,fun x=>⟨x.1,o.2 _ x.2⟩⟩
end
end QG
namespace QH
open YF Y9 Y2 Y3 P1 P2 PB QD QE QF QG
theorem Ul{ns a}(h:okKd ns a)(I:a.ar=2)(g:ns<=4):qi qe 198 [eRS (qt a)] (eRS (qt (kClo a))):=by
 refine qSQ call198 func198 rfl { mt:=[1] } ?_;rw[<-qqV h I g];simp[go_sem];refine⟨zg _,?_⟩;refine kL 4 (fun i U=>U.tm 1 = .ptr 0 0/\U.tm 2 = .ptr 1 0/\U.tm 3=aI i/\U.mu=[.arr (cRS (qt (itK i a))),.arr (aI 0 :: hB fun _=>false)]) ?_ ?_
 .exact ⟨zSi,zSi,zSi,by simp[go_sem];exact⟨⟨rfl,rfl⟩,rfl⟩⟩
 rintro i U hi ⟨l,o,p,J⟩;by_cases r:i<4
 .have j:(i:Int)<4:=by omega
  have P:=zWk i;obtain⟨ok,o2⟩:=okIt h I i;have R:qi qe 195 [eRS (qt (itK i a)),eRS (qt (itK i a))] (eRS (qt (zT (itK i a) (itK i a)))):=by
   rw[<-qdO ok ok g zOm];exact wm _ _ (by show 0<=(itK i a).ar/\(itK i a).ar<=1000;omega) (by show 1<=(itK i a).ar/\(itK i a).ar<=1000;omega)
  have T:qi qe 193 [eRS (qt (itK i a)),eRS (qt (zT (itK i a) (itK i a)))] (eRS (qt (itK (i+1) a))):=by
   have:=vB (qt (itK i a)) (qt (zT (itK i a) (itK i a)));rw[Vq (by simp only[zT];omega)]at this;exact this
  generalize t:qt (itK (i+1) a)=s' at *
  generalize qt (zT (itK i a) (itK i a))=q at *
  generalize qt (itK i a)=s at *
  simp[go_sem,p,J,j];refine cH zKr ?_;simp[go_sem,l,qw,tk];refine fR R (.zk (yK _) (.zk (yK _) .nil)) ?_;refine cQ T (.zk (yK _) (.zk (yK _) .nil)) ?_;simp[go_sem,l,qw,pc];rw[if_pos (zg _)];simp[go_sem,p,P];exact⟨r,aK ⟨zS1 l,zS1 o,zSi,zS1 t⟩⟩
 .have C:i=4:=by omega
  subst C;generalize qt (itK 4 a)=s at *
  simp[go_sem,l,o,p,J,qw,tk,pc];rw[if_pos (zg _)];simp[go_sem,o,qw,tk];exact .hf _ (yK s)
theorem qqW(i k)(g:k=1\/k=2):eRS (qt (kSum (zB i k) (kOf (qO k (i:Int)))))=eRS (qt (zB (i+1) k)):=by
 refine Qq rfl fun j l=>?_
 rw[j0,yY,yY];show j<szA (k:Int)/\pad (dig (k:Int) j)∈(kSum (zB i k) (kOf (qO k (i:Int)))).ts↔j<szA (k:Int)/\pad (dig (k:Int) j)∈(qu (i+1)).map fun (x:Nat)=>pad (qO k (x:Int))
 rw[Zt,List.range_succ,zb,qK];rfl
theorem qqX(k):hB (qt (zB 0 k)).2=hB fun _=>false:=uX fun j _=>decide_eq_false fun h=>absurd h.2 qH
theorem allU(ts)(h:okTS ts)(k:Nat)(R:k=1\/k=2):qi qe 192 [eTS ts,aI k] (eRS (qt (zB ts.sS.length k))):=by
 refine qSV call192 func192 rfl ?_;have a1:=h.ns;have hz:=qqX k;simp[go_sem];refine kL ts.sS.length (fun i U=>U.tm 1=aI k/\U.tm 2 = .ip (cTS ts)/\U.tm 4 = .ptr 0 0/\U.tm 5 = .ptr 1 0/\U.tm 6=aI i/\U.mu=[.arr (aI 0 :: hB fun _=>false),.arr (cRS (qt (zB i k)))]) ?_ ?_
 .exact ⟨zSi,zSi,zSi,zSi,zSi,by
   have e:cRS (qt (zB 0 k))=aI k :: hB fun _=>false:=by simp only[cRS,hz];rfl
   rw[e];simp[go_sem];first|rfl|exact⟨rfl,rfl⟩⟩
 rintro i U hi ⟨C,r,I,j,o,J⟩;by_cases g:i<ts.sS.length
 .have T:=zWk i
  have c1:∀ l:List Int,l=qO k (i:Int)->qi qe 149 [lI l] (eRS (qt (kOf l))):=fun l p=>by
   have a0:l.length=k:=by rw[p,List.length_replicate]
   have:=oneU l zOm;rw[kx]at this;rw[<-QF.kE (l:=l) zOm (fun x hx=>by rw[p]at hx;rw[List.eq_of_mem_replicate hx];omega)];exact this
  have cu:∀ l:List Int,l=qO k (i:Int)->qi qe 193 [eRS (qt (zB i k)),eRS (qt (kOf l))] (eRS (qt (zB (i+1) k))):=fun l p=>by
   have:=vB (qt (zB i k)) (qt (kOf l));rw[Vq (by show (k:Int)=l.length;rw[p,List.length_replicate]),p,qqW i k R]at this;rw[p];exact this
  generalize t:qt (zB (i+1) k)=s' at *
  generalize qt (zB i k)=s at *
  rcases R with rfl|rfl
  .have d1:=c1 [(i:Int)] rfl
   have d2:=cu [(i:Int)] rfl;generalize qt (kOf [(i:Int)])=q at *
   simp[go_sem,C,r,o,J,g];refine cH zKr ?_;simp[go_sem,j,o,qw,tk];refine fR d1 (.cons (QD.wk1 _) .nil) ?_;refine cQ d2 (.zk (yK _) (.zk (yK _) .nil)) ?_;simp[go_sem,j,qw,pc];rw[if_pos (zg _)];simp[go_sem,o,T];exact⟨g,aK ⟨zS1 C,zS1 r,zS1 I,zS1 j,zSi,zS1 t⟩⟩
  .have d1:=c1 [(i:Int),(i:Int)] rfl
   have d2:=cu [(i:Int),(i:Int)] rfl;generalize qt (kOf [(i:Int),(i:Int)])=q at *
   simp[go_sem,C,r,o,J,g];refine cH zKr ?_;simp[go_sem,j,o,qw,tk];refine fR d1 (.cons (QD.wk2 _ _) .nil) ?_;refine cQ d2 (.zk (yK _) (.zk (yK _) .nil)) ?_;simp[go_sem,j,qw,pc];rw[if_pos (zg _)];simp[go_sem,o,T];exact⟨g,aK ⟨zS1 C,zS1 r,zS1 I,zS1 j,zSi,zS1 t⟩⟩
 .have P:i=ts.sS.length:=by omega
  subst P;generalize qt (zB ts.sS.length k)=s at *
  simp[go_sem,r,I,j,o,J,qw,tk,pc];rw[if_pos (zg _)];simp[go_sem,I,qw,tk];exact .hf _ (yK s)
end QH
namespace QI
open YF Y9 Y10 Y1 Y2 P1 P2
section
variable {nm:tA}
theorem qqY{c k}(l:k<c.calls)(o)(h:c.ts.sT[k].name=nm)(i:∀(j) (g),j<k->c.ts.sT[j].name≠nm):zw c nm=some k:=by
 unfold zw;rw[List.findIdx?_eq_some_iff_getElem];refine⟨zSo,zP1 h,fun j g=>?_⟩;simp[i j zOm g]
theorem qqZ{c}(i:∀ j g,j<c.calls->c.ts.sT[j].name≠nm):zw c nm=none:=by
 unfold zw;rw[List.findIdx?_eq_none_iff];intro p l;obtain⟨j,g,e⟩:=List.mem_iff_getElem.1 l;simp at g;rw[List.getElem_take]at e;rw[<-e];exact decide_eq_false (i j zOm zOm)
abbrev idxO:Option Nat->Int
 |some i=>i
 |none => -1
theorem Vv(c)(P:okCk c)(nm):qi qe 90 [eTS c.ts,aI c.calls,aS nm] (aI (idxO (zw c nm))):=by
 refine qSV call90 func90 rfl ?_;have R:=P.calls;have T:=P.ts.np;simp[go_sem];refine kL c.calls (fun k U=>U.tm 1=aI c.calls/\U.tm 2=aS nm/\U.tm 3 = .ip (cTS c.ts)/\U.tm 7=aI k/\∀(j:Nat)(p:j<c.ts.sT.length),j<k->c.ts.sT[j].name≠nm) ?_ ?_
 .exact ⟨zSi,zSi,zSi,zSi,fun j p h=>zOm⟩
 rintro k U hk ⟨l,r,t,C,I⟩;by_cases g:k<c.calls
 .have w1:=zWk k
  have i:k<c.ts.sT.length:=zOm;by_cases o:c.ts.sT[k].name=nm
  .rw [qqY g i o I]
   simp[go_sem,l,r,t,C,g,i,o];exact .zsc _
  .simp [go_sem,l,r,t,C,g,i,jV o,w1]
   refine aK ⟨zS1 l,zS1 r,zS1 t,zSi,fun j p a0=>?_⟩;by_cases he:j=k
   .subst he;exact o
   .exact I j p zOm
 .have J:k=c.calls:=by omega
  subst J;rw[qqZ I];simp[go_sem,l,C];exact .zsc _
theorem Jh(op):qi qe 142 [aI op] (aB (yC op)):=by
 refine qSV call142 func142 rfl ?_;by_cases g:op=5
 .rw [show yC op=true by simp[yC,g]]
  simp[go_sem,g];exact .zsc _
 by_cases i:48<=op
 .by_cases j:op<=51
  .rw [show yC op=true by unfold yC;rcases (show op=48\/op=49\/op=50\/op=51 by omega) with h|h|h|h<;>simp[h]]
   simp[go_sem,g,i,j];exact .zsc _
  .rw [show yC op=false by simp[yC,g,show ¬op=48 by omega,show ¬op=49 by omega,show ¬op=50 by omega,show ¬op=51 by omega]]
   simp[go_sem,g,i,j];exact .zsc _
 .rw [show yC op=false by simp[yC,g,show ¬op=48 by omega,show ¬op=49 by omega,show ¬op=50 by omega,show ¬op=51 by omega]]
  simp[go_sem,g,i];exact .zsc _
abbrev rBo(b:Bool):List AV:=[aB b]
abbrev lBo(l:List Bool):AV := .lst false (l.map rBo)
theorem Vw(l):HF (lBo l):=HF.lst fun r i c g=>by
 obtain⟨b,_,rfl⟩:=qn.1 i;rw[qV]at g;subst g;exact HF.sc _
def tpB(c:Ck)(nm:tA):Bool:=match zw c nm with|some p=>c.timed.getD p false|none=>false
theorem Ji(c)(o:okCk c)(nm):qi qe 143 [eTS c.ts,lBo c.timed,aI c.calls,aS nm] (aB (tpB c nm)):=by
 generalize i:tpB c nm=r;unfold tpB at i;refine qSU call143 func143 rfl ?_;refine cQ (Vv c o nm) (.zk (zn _) (.zs (.zs .nil))) ?_;cases j:zw c nm with
 |none =>
  rw[j]at i;subst i;simp[go_sem,idxO];exact .zsc _
 |some p =>
  rw[j]at i;by_cases l:p<c.timed.length
  .have g:r=c.timed[p]:=by rw[<-i];simp[List.getD,l]
   subst g;simp[go_sem,idxO,l];exact .zsc _
  .have g:r=false:=by rw[<-i];simp[List.getD,l]
   subst g;simp[go_sem,idxO,l];exact .zsc _
theorem qdR(c)(hc:okCk c)(hl:c.timed.length=c.calls):∀ m n,szN n<=m->Small n->qi qe 148 [eTS c.ts,lBo c.timed,eNd n] (aB (yD c n))
 | 0,n,hm,_=>by obtain⟨op,nm,i,ks,p⟩:=n;simp[szN]at hm
 |m+1,n,hm,hs=>by
  have ih:∀ k,k∈n.sD->qi qe 148 [eTS c.ts,lBo c.timed,eNd k] (aB (yD c k)):=fun k J =>
   qdR c hc hl m k (zW1 (yw J)) (hs.kid J)
  have a0:=hs.len;have P:z7 c n.op n.name=(yC n.op||(decide (n.op=47)&&tpB c n.name)):=rfl;rw[Uq,P];generalize hR:n.sD.any (yD c)=R;have ct:=Jh n.op;have cp:=Ji c hc n.name;generalize yC n.op=T at *
  generalize tpB c n.name=B at *
  refine qSU call148 func148 rfl ?_;refine cQ ct (.zs .nil) ?_;cases T with
  |true =>
   simp[go_sem];exact .zsc _
  |false =>
  rw[Bool.false_or];by_cases h47:n.op=47
  .rw [decide_eq_true h47,Bool.true_and]
   simp[go_sem,h47,hl];refine cQ cp (.zk (zn _) (.zk (Vw _) (.zs (.zs .nil)))) ?_;cases B with
   |true =>
    simp[go_sem];exact .zsc _
   |false =>
   rw[Bool.false_or];simp[go_sem];refine kL n.sD.length (fun k U=>U.tm 1=lBo c.timed/\U.tm 3 = .ip (cTS c.ts)/\U.tm 5 = .ip (cNd n)/\U.tm 7=aI k/\(n.sD.drop k).any (yD c)=R) ?_ ?_
   .exact ⟨zSi,zSi,zSi,zSi,zUs hR⟩
   rintro k U J ⟨t,C,l,o,j⟩;by_cases r:k=n.sD.length
   .subst r
    rw[zZ]at j;have j:R=false:=by rw[<-j];rfl
    subst j;simp[go_sem,l,o];exact .zsc _
   have g:k<n.sD.length:=zOm;have w1:=zWk k;rw[zp g,List.any_cons]at j;have hi:=ih n.sD[k] (qs g);simp[go_sem,l,o,g];refine cH zKr ?_;simp[go_sem,t,C,l,o,g];refine cQ hi (.zk (zn _) (.zk (Vw _) (.zk (qL _) .nil))) ?_;cases I:yD c n.sD[k] with
   |true =>
    rw[I,Bool.true_or]at j;subst j;simp[go_sem];exact .zsc _
   |false =>
    rw[I,Bool.false_or]at j;simp[go_sem,o,g,w1];exact aK ⟨zS1 t,zS1 C,zS1 l,zSi,j⟩
  .rw [decide_eq_false h47,Bool.false_and,Bool.false_or]
   simp[go_sem,h47];refine kL n.sD.length (fun k U=>U.tm 1=lBo c.timed/\U.tm 3 = .ip (cTS c.ts)/\U.tm 5 = .ip (cNd n)/\U.tm 7=aI k/\(n.sD.drop k).any (yD c)=R) ?_ ?_
   .exact ⟨zSi,zSi,zSi,zSi,zUs hR⟩
   rintro k U J ⟨t,C,l,o,j⟩;by_cases r:k=n.sD.length
   .subst r
    rw[zZ]at j;have j:R=false:=by rw[<-j];rfl
    subst j;simp[go_sem,l,o];exact .zsc _
   have g:k<n.sD.length:=zOm;have w1:=zWk k;rw[zp g,List.any_cons]at j;have hi:=ih n.sD[k] (qs g);simp[go_sem,l,o,g];refine cH zKr ?_;simp[go_sem,t,C,l,o,g];refine cQ hi (.zk (zn _) (.zk (Vw _) (.zk (qL _) .nil))) ?_;cases I:yD c n.sD[k] with
   |true =>
    rw[I,Bool.true_or]at j;subst j;simp[go_sem];exact .zsc _
   |false =>
    rw[I,Bool.false_or]at j;simp[go_sem,o,g,w1];exact aK ⟨zS1 t,zS1 C,zS1 l,zSi,j⟩
theorem kG(l:List Bool):zm 1 (l.map rBo):=fun r g=>by
 obtain⟨b,_,rfl⟩:=qn.1 g;exact⟨rfl,rfl⟩
theorem appBo{mu lo s xs b K}(j:OwnF lo mu 1 s (xs.map rBo))(p:xs.length<=100000)(l:∀ av mu',OwnF lo mu' 1 av ((xs++[b]).map rBo)->(∀ i,i<lo->mu'[i]?=mu[i]?)->K av mu') :
  qz qe mu #[58,58] s (.lst true [[aB b]]) K:=by
 refine qz.ownF (lo:=lo) (e:=4) (sz:=1) (bt:=1) (zv:=aB false) (xs:=xs.map rBo) (ys:=[rBo b]) zSi zSi zSi rfl rfl zOm zOm j (by simp[qD]) (kG xs) (kG [b]) zSo ?_;intro av mu' h o;exact l av mu' (by rw[zb];exact h) o
theorem rdBo{lo mu av l}(j:OwnF lo mu 1 av (l.map rBo)):Rd mu av (lBo l):=
 Own.rd (sz:=1) j.1 (kG l).ok fun r o c i=>by
  obtain⟨b,_,rfl⟩:=qn.1 o;rw[qV]at i;subst i;exact HF.sc _
theorem qq0(ts)(h:okTS ts)(T:∀ p,p∈ts.sT->WfN p.body):qi qe 93 [eTS ts] (lBo (tmsL ts ts.sT.length)):=by
 refine qSV call93 func93 rfl ?_;have a0:=h.np;simp[go_sem];refine kL ts.sT.length (fun k U=>U.tm 1 = .ip (cTS ts)/\U.tm 4=aI k/\OwnF 0 U.mu 1 (U.tm 3) ((tmsL ts k).map rBo)) ?_ ?_
 .exact ⟨zSi,zSi,by simp[go_sem,tmsL];exact OwnF.nil (Z9 _)⟩
 rintro k U hk ⟨j,l,o⟩;by_cases g:k<ts.sT.length
 .have w1:=zWk k
  generalize r:U.tm 3=t at *
  have C:=rdBo o;have ht:=qdR (mkCk ts k) (uQ h zOm) (ZV ts k zOm) (szN ts.sT[k].body) ts.sT[k].body (qr _) (T _ (qs g)).small;have R:=ZV ts k zOm;have i:tmsL ts (k+1)=tmsL ts k++[yD (mkCk ts k) ts.sT[k].body]:=by
   show tmsL ts k++(match ts.sT[k]? with|some p=>[yD ⟨ts,k,tmsL ts k⟩ p.body] | none=>[])=_;rw[qA g];rfl
  simp[go_sem,j,l,g];refine cH zKr ?_;simp[go_sem,j,l,r,g];refine fX (args':=[eTS ts,lBo (tmsL ts k),eNd ts.sT[k].body]) ht ⟨.hf _ (zn ts),C,.hf _ (qL _),trivial⟩ (FL.sc _) ?_;simp[go_sem];refine appBo o zOm fun a1 m' J _=>?_
  simp[go_sem,l,g,w1];exact aK ⟨zS1 j,zSi,by rw[i];simpa[go_sem] using J⟩
 .have P:k=ts.sT.length:=by omega
  subst P;generalize r:U.tm 3=t at *
  simp[go_sem,j,l,r];exact rdBo o
end
end QI
namespace QJ
open YF Y10 Y1 P1 QD QE QF
abbrev Vr:=tA×RS
abbrev cVr(v:Vr):List AV:=aS v.1 :: cRS v.2
abbrev lVr(l:List Vr):AV := .lst false (l.map cVr)
theorem qdS(v):∀ c,c∈cVr v->HF c:=fun c g=>by
 rcases qy.1 g with rfl|g
 .exact HF.sc _
 .exact ((setC v.2).sc c g).2
theorem qq1(l):HF (lVr l):=HF.lst fun r g c i=>by
 obtain⟨v,_,rfl⟩:=qn.1 g;exact qdS v c i
theorem kH(v):∀ c,c∈cVr v->c.one=true:=fun c g=>by
 rcases qy.1 g with rfl|g
 .rfl
 .exact ((setC v.2).sc c g).1
theorem kI(l:List Vr):zm 66 (l.map cVr):=fun r g=>by
 obtain⟨v,_,rfl⟩:=qn.1 g;exact⟨by simp[hB],zA.2 (kH v)⟩
theorem kJ{mu lo s x}{xs ys:List Vr}{K}(j:OwnF lo mu 66 s (xs.map cVr))(l:qD mu x=some (ys.map cVr))(r:xs.length+ys.length<=100000)(o:∀ av mu',OwnF lo mu' 66 av ((xs++ys).map cVr)->(∀ i,i<lo->mu'[i]?=mu[i]?)->K av mu') :
  qz qe mu #[171,171] s x K:=by
 refine qz.ownF (lo:=lo) (e:=238) (sz:=66) (bt:=88) (zv := .agg (aS ⟨#[]⟩ :: aI 0 :: zs)) (xs:=xs.map cVr) (ys:=ys.map cVr) zSi zSi (by simp[go_sem];rfl) rfl rfl zOm zOm j l (kI xs) (kI ys) zSo ?_;intro av mu' h p;exact o av mu' (by rw[zb];exact h) p
theorem rdVr{lo mu av l}(i:OwnF lo mu 66 av (l.map cVr)):Rd mu av (lVr l):=
 Own.rd (sz:=66) i.1 (kI l).ok fun r j c o=>by
  obtain⟨v,_,rfl⟩:=qn.1 j;exact qdS v c o
theorem pcV(n q):putCells (aS n :: aI 0 :: zs) 1 (aI q.1 :: hB q.2)=cVr (n,q):=by
 have g:zs.length=64:=rfl;rw[jb _ _ _ (by simp[qw,g])];simp[qw,g,List.drop_of_length_le]
def envV(env:List (tA×Int)):List Vr:=env.map fun p=>(p.1,qt (kOf [p.2]))
theorem envU(env)(hl:env.length<=1000)(hr:∀ p,p∈env->0<=p.2/\p.2<4):qi qe 94 [lPm env] (lVr (envV env)):=by
 refine qSU call94 func94 rfl ?_;refine kL env.length (fun k U=>U.tm 0=lPm env/\U.tm 4=aI k/\OwnF 0 U.mu 66 (U.tm 3) ((envV (env.take k)).map cVr)) ?_ ?_
 .exact ⟨zSi,zSi,by simp[go_sem,envV];exact OwnF.nil (Z9 _)⟩
 rintro k U hk ⟨o,r,I⟩;by_cases g:k<env.length
 .have w1:=zWk k
  generalize J:U.tm 3=t at *
  have hp:=hr _ (qs g);have c1:qi qe 149 [lI [env[k].2]] (eRS (qt (kOf [env[k].2]))):=by
   have:=oneU [env[k].2] zSp;rw[kx]at this;rw[<-QF.kE (l:=[env[k].2]) zSp (fun x hx=>by rw[qV]at hx;subst hx;exact hp)];exact this
  have j:envV (env.take (k+1))=envV (env.take k)++[(env[k].1,qt (kOf [env[k].2]))]:=by
   unfold envV;rw[List.take_succ_eq_append_getElem g,zb];rfl
  have a2:(envV (env.take k)).length=k:=by simp[envV];omega
  generalize qt (kOf [env[k].2])=q at *
  simp[go_sem,o,r,g];refine cH zKr ?_;simp[go_sem,o,r,J,g];refine fR c1 (.cons (QD.wk1 _) .nil) ?_;rw[if_pos ⟨qw _,zg _⟩];generalize hC:putCells _ 1 _=C;have P:C=cVr (env[k].1,q):=by rw[<-hC];exact pcV _ _
  subst P;clear hC;have R:(cVr (env[k].1,q)).length=66:=by simp[qw]
  have T:=kH (env[k].1,q);generalize hV:cVr (env[k].1,q)=V at *
  simp[go_sem,R];rw[if_pos T];simp[go_sem];refine kJ (ys:=[(env[k].1,q)]) I (by simp[qD,hV]) zSo fun a3 m' a0 _=>?_
  simp[go_sem,r,g,w1];exact aK ⟨zS1 o,zSi,by rw[j];simpa[go_sem] using a0⟩
 .have a1:k=env.length:=by omega
  subst a1;rw[qP]at I;generalize J:U.tm 3=t at *
  simp[go_sem,o,r,J];exact rdVr I
end QJ
namespace QK
open Y9 Y2 P1 QD QE QF
def fin(c:List AV)(l:List Kd):List AV:=match l.getLast? with|some k=>cRS (qt k)|none=>c
theorem Vx(c l m):fin c (l++m)=fin (fin c l) m:=by
 unfold fin;rw[List.getLast?_append];cases m.getLast?<;>rfl
theorem Wf(c k):fin c [k]=cRS (qt k):=rfl
theorem oneK{l}(h:1<=l.length/\l.length<=3)(g:∀ x,x∈l->0<=x/\x<4):oneC l=cRS (qt (kOf l)):=by
 rw[kx];exact AV.agg.inj (QF.kE h g)
theorem qdT(nm):∀ l c k,(∀ f,f∈l->(1<=f.sS.length/\f.sS.length<=3)/\∀ x,x∈f.sS->0<=x/\x<4)->nmF nm l (c,k)=(fin c (yN l nm),k+(yN l nm).length)
 | [],c,k,_=>rfl
 |f :: l,c,k,h=>by
  have hf:=h f (zl ..);have j:=fun c k=>qdT nm l c k fun g o=>h g (zc _ o)
  by_cases i:f.name=nm
  .have e:yN (f :: l) nm=[kOf f.sS]++yN l nm:=by simp[yN,i]
   rw[e,Vx,Wf];simp only[nmF,stF,if_pos i];rw[j,oneK hf.1 hf.2];simp;omega
  .have e:yN (f :: l) nm=yN l nm:=by simp[yN,i]
   rw[e];simp only[nmF,stF,if_neg i];exact j c k
theorem st_eq(nm i)(C:i<4)(x c k):st3 nm i x (st2 nm i x (st1 nm i x (c,k)))=(fin c (uj i x nm),k+(uj i x nm).length):=by
 have j:=oneK (l:=[(i:Int)]) zSp (fun y g=>by simp at g;subst g;omega);have o:=oneK (l:=[(i:Int),(i:Int)]) zSp (fun y g=>by simp at g;rcases g with rfl|rfl<;>omega);have p:∀ c k,st1 nm i x (c,k)=(fin c (if x.1=nm then [kOf [(i:Int)]] else []),k+(if x.1=nm then [kOf [(i:Int)]] else []).length):=fun c k=>by
  unfold st1;split
  .rw [Wf,j];rfl
  .rfl
 have r:∀ c k,st2 nm i x (c,k)=(fin c (if x.2=true/\x.1++je=nm then [kOf [(i:Int)]] else []),k+(if x.2=true/\x.1++je=nm then [kOf [(i:Int)]] else []).length):=fun c k=>by
  unfold st2;split
  .rw [Wf,j];rfl
  .rfl
 have t:∀ c k,st3 nm i x (c,k)=(fin c (if x.2=true/\x.1++vd=nm then [kOf [(i:Int),(i:Int)]] else []),k+(if x.2=true/\x.1++vd=nm then [kOf [(i:Int),(i:Int)]] else []).length):=fun c k=>by
  unfold st3;split
  .rw [Wf,o];rfl
  .rfl
 unfold uj;rw[p,r,t,Vx,Vx,za,za];simp only[Nat.add_assoc]
theorem qdU(nm):∀ l i c k,i+l.length<=4->nmS nm i l (c,k)=(fin c (yO i l nm),k+(yO i l nm).length)
 | [],i,c,k,_=>rfl
 |x :: l,i,c,k,h=>by
  simp only[zu]at h;have g:=fun c k=>qdU nm l (i+1) c k zOm
  simp only[nmS,yO];rw[st_eq nm i zOm,g,Vx,za,Nat.add_assoc]
theorem kK{ts}(h:okTS ts)(nm):named ts nm=(fin (aI 0 :: zs) (means ts nm),(means ts nm).length):=by
 unfold named means;rw[qdT nm ts.sA _ _ fun f hf=>?_,qdU nm ts.sS _ _ _ (zW1 h.ns),Vx,za,yf];have:=h.fl f hf;have g:=h.ns;exact⟨zOm,fun x i=>zW1 (this.2.2 x i)⟩
end QK
namespace QL
open YF Y9 Y1 Y2 P1 QD QE QF QI QJ QK
abbrev cVw(c:Ck)(inn:Bool):List AV:=[lSo c.ts.sS,lFl c.ts.sA,lPd c.ts.sT,lFa c.ts.sP,lBo c.timed,aI c.calls,aB inn]
abbrev eVw(c:Ck)(inn:Bool):AV := .agg (cVw c inn)
def envS(s:Scp):List Vr:=s.reverse.map fun v=>(v.1,qt v.2)
theorem Wg(s):(envS s).length=s.length:=by simp[envS]
theorem qdV(env):envV env=envS (yn env):=by
 have h:∀(l:List (tA×Int))(a:Scp),l.foldl (fun s p=>(p.1,kOf [p.2]) :: s) a=(l.map fun p=>(p.1,kOf [p.2])).reverse++a:=by
  intro l;induction l with
  |nil=>intro a;rfl
  |cons p l g=>intro a;rw[List.foldl_cons,g];simp
 unfold envV envS yn;rw[h,zO,List.reverse_reverse,List.map_map];rfl
theorem qq2(s d h g):(envS s)[s.length-1-d]=(s[d].1,qt s[d].2):=by
 have e:s.length-1-(s.length-1-d)=d:=zOm;simp[envS,List.getElem_reverse,e]
abbrev zR:RS:=(0,fun _=>false)
abbrev eDg(d:Dg):AV := .agg [aI d.1,aI d.2]
def endR(z:RS):Res->AV
 | .error e => .tup [eRS z,eDg e]
 | .ok (some k) => .tup [eRS (qt k),eDg (0,0)]
 | .ok none => .tup [eRS zR,eDg (0,0)]
theorem vD(s d):HF (.tup [eRS s,eDg d]):=HF.tup fun x g=>by
 rcases qy.1 g with rfl|g
 .exact yK s
 .rw [qV]at g;subst g
  exact HF.agg fun c i=>by
   rcases qy.1 i with rfl|i
   .exact HF.sc _
   .rw [qV]at i;subst i;exact HF.sc _
theorem cW{ts}(h:okTS ts):okNm ts:=⟨h.sl,zW1 h.ns,zW1 h.nf,fun f hf=>zW1 (h.fl f hf)⟩
theorem Kg(c)(hc:okCk c)(inn s n)(hs:s.length<=100000):qi qe 144 [eVw c inn,lVr (envS s),eNd n] (endR zR (jz c s n.name n.pos)):=by
 generalize i:endR zR (jz c s n.name n.pos)=R;unfold jz at i;refine qSV call144 func144 rfl ?_;have a1:=Wg s;have w0:qp.wrap ((s.length:Int)-1)=(s.length:Int)-1:=zWr;simp[go_sem,a1,w0];refine kL s.length (fun d U=>U.tm 1=lVr (envS s)/\U.tm 3 = .ip (cVw c inn)/\U.tm 5 = .ip (cNd n)/\U.tm 6 = .ptr 0 0/\U.tm 7 = .ptr 1 0/\U.tm 8=aI ((s.length:Int)-1-d)/\U.mu=[.arr (aI 0 :: hB fun _=>false),.arr [aI 0,aI 0]]/\js n.name (s.drop d)=js n.name s) ?_ ?_
 .exact ⟨zSi,zSi,zSi,zSi,zSi,zSi,by simp[go_sem];first|rfl|exact⟨rfl,rfl⟩,rfl⟩
 rintro d U hd ⟨e1,e3,r,p,I,j,hm,t⟩;by_cases J:d<s.length
 .have T:s.length-1-d<(envS s).length:=by omega
  have g:=qq2 s d J T;obtain⟨e,he⟩:∃ e:Nat,e=s.length-1-d:=⟨_,rfl⟩;have a2:(s.length:Int)-1-d=(e:Int):=zOm;rw[a2]at j;rw[<-he]at T;have g:(envS s)[e]=(s[d].1,qt s[d].2):=by simp only[he];exact g
  have w1:qp.wrap ((e:Int)-1)=(s.length:Int)-1-((d+1:Nat):Int):=by rw[zWr];omega
  rw[zp J]at t;have h0:(0:Int)<=(e:Int):=zOm;by_cases hq:s[d].1=n.name
  .have hf:js n.name s=s[d] :: s.drop (d+1):=by rw[<-t,js,if_pos hq]
   rw[hf]at i;simp only[endR]at i;have i:R = .tup [eRS (qt s[d].2),eDg (0,0)]:=i.symm;subst i;simp[go_sem,j,hm];refine cH zKr ?_;simp[go_sem,e1,j,T,g,hq];generalize qt s[d].2=q at *
   simp[go_sem,e1,r,p,j,T,g,qw,tk,pc];rw[if_pos (zg _)];simp[go_sem,p,I,qw,tk];exact .hf _ (vD q (0,0))
  .rw [js,if_neg hq]at t
   simp[go_sem,j,hm];refine cH zKr ?_;simp[go_sem,e1,r,j,T,g,jV hq,w1,qw];exact⟨zOm,aK ⟨zS1 e1,zS1 e3,zS1 r,zS1 p,zS1 I,zSi,zSi,t⟩⟩
 .have a3:d=s.length:=by omega
  subst a3;have j:U.tm 8=aI (-1):=by rw[j];congr 2;omega
  rw[zZ]at t;rw[<-t]at i;simp only[js]at i;have hN:=kw c.ts (cW hc.ts) n.name;have a0:=kv c.ts n.name;rw[kK hc.ts]at hN a0;simp[go_sem,e3,r,j,hm];refine cQ hN (.zk (zn _) (.zs .nil)) ?_;have o:SetC (fin (aI 0 :: zs) (means c.ts n.name)):=a0;generalize a4:means c.ts n.name=ms at *
  match ms,a4 with
  | [],_ =>
   simp only[endR]at i;subst i;generalize fin (aI 0 :: zs) []=C at *
   simp[go_sem,o.len];rw[if_pos o.one];simp[go_sem];refine fD [0,1,2,3,4,5] [(0,0,[]),(1,0,[]),(2,0,[]),(3,0,[]),(4,1,[2]),(5,1,[])] zKr zKr zSi ?_;simp[go_sem,r,p,I,nr,qw];exact .hf _ (vD zR (_,n.pos))
  | [k],_ =>
   simp only[endR]at i;subst i;have e:fin (aI 0 :: zs) [k]=aI (qt k).1 :: hB (qt k).2:=rfl;rw[e]at o⊢;generalize qt k=q at *
   simp[go_sem,o.len];rw[if_pos (zg _)];generalize hP:putCells _ 0 (aI q.1 :: hB q.2)=P;have a5:P=aI q.1 :: hB q.2:=by rw[<-hP];exact pc (aI 0) _ (fun _=>false) _
   subst a5;clear hP;simp[go_sem,p,o.len,qw,tk,pc];rw[if_pos (zg _)];simp[go_sem,p,I,o.len,tk];exact .hf _ (vD q (0,0))
  |k1 :: k2 :: l,_ =>
   simp only[endR]at i;subst i;generalize fin (aI 0 :: zs) (k1 :: k2 :: l)=C at *
   simp[go_sem,o.len];rw[if_pos o.one];simp[go_sem];have a6:¬((l.length:Int)+1+1=0):=zOm;have a7:(1:Int)<(l.length:Int)+1+1:=zOm;simp[go_sem,a6,a7];refine fD [0,1,2,3,4,5] [(0,0,[]),(1,0,[]),(2,0,[]),(3,0,[]),(4,1,[2]),(5,1,[])] zKr zKr zSi ?_;simp[go_sem,r,p,I,nr,qw];exact .hf _ (vD zR (_,n.pos))
end QL
namespace QM
open Y1
theorem qq3(n):qi qe 91 [eNd n] (aB (decide (30<=n.op))):=by
 refine qSV call91 func91 rfl ?_;by_cases h:30<=n.op
 .simp [go_sem,h];exact .zsc _
 .simp [go_sem,h];exact .zsc _
end QM
namespace QN
open Y1 Y2 YF Y9 Y10 P1 P2 QD QE QF QH QL
def setO:Option Kd->RS
 |some k=>qt k
 |none=>zR
abbrev lRS(l:List RS):AV := .lst false (l.map cRS)
theorem qq4(v):∀ c,c∈cRS v->HF c:=fun c g=>((setC v).sc c g).2
theorem qq5(v):∀ c,c∈cRS v->c.one=true:=fun c g=>((setC v).sc c g).1
theorem kM(l:List RS):zm 65 (l.map cRS):=fun r g=>by
 obtain⟨v,_,rfl⟩:=qn.1 g
 grind [hB,zA,qq5]
theorem appRS{mu lo s x}{xs ys:List RS}{K}(j:OwnF lo mu 65 s (xs.map cRS))(l:qD mu x=some (ys.map cRS))(o:xs.length+ys.length<=100000)(p:∀ av mu',OwnF lo mu' 65 av ((xs++ys).map cRS)->(∀ i,i<lo->mu'[i]?=mu[i]?)->K av mu') :
  qz qe mu #[232,232] s x K:=by
 refine qz.ownF (lo:=lo) (e:=165) (sz:=65) (bt:=72) (zv := .agg (aI 0 :: zs)) (xs:=xs.map cRS) (ys:=ys.map cRS) zSi zSi (by simp[go_sem];rfl) rfl rfl zOm zOm j l (kM xs) (kM ys) zSo ?_
 grind
theorem rdRS{lo mu av l}(i:OwnF lo mu 65 av (l.map cRS)):Rd mu av (lRS l):=
 Own.rd (sz:=65) i.1 (kM l).ok fun r j c o=>by
  obtain⟨v,_,rfl⟩:=qn.1 j;exact qq4 v c o
theorem jY(s b):HF (.tup [eRS s,aB b]):=HF.tup fun x g=>by
 rcases qy.1 g with rfl|g
 .exact yK s
 grind [qV,HF.sc]
def ApE(op:Int):Res->RS->Bool->Prop
 | .ok k,S,b=>b=true/\(kd op=101->∃ q,k=some q/\S=qt q)
 | .error _,S,b=>b=false
theorem wkS1(a):WKs [eRS a] [eRS a] := .zk (yK _) .nil
theorem wkS2(a b):WKs [eRS a,eRS b] [eRS a,eRS b] := .zk (yK _) (.zk (yK _) .nil)
theorem wkTI(ts k):WKs [eTS ts,aI k] [eTS ts,aI k] := .zk (zn _) (.zs .nil)
theorem qdW(n):eRS (n,fun _=>false)=eRS (qt ⟨n,[]⟩):=Qq rfl fun j _=>(decide_eq_false fun h=>absurd h.2 qH).symm
def itS:Nat->RS->RS
 | 0,s=>s
 |i+1,s=>uniS (itS i s) (Z4 (itS i s) (itS i s))
theorem qdX(s):∀ i,(itS i s).1=s.1
 | 0=>rfl
 |i+1=>qdX s i
theorem qdY(g)(h:1<=g.1/\g.1<=3):qi qe 198 [eRS g] (eRS (itS 4 g)):=by
 refine qSQ call198 func198 rfl { mt:=[1] } ?_;simp[go_sem];refine⟨zg _,?_⟩;refine kL 4 (fun i U=>U.tm 1 = .ptr 0 0/\U.tm 2 = .ptr 1 0/\U.tm 3=aI i/\U.mu=[.arr (cRS (itS i g)),.arr (aI 0 :: hB fun _=>false)]) ?_ ?_
 .exact ⟨zSi,zSi,zSi,by simp[go_sem];exact⟨⟨rfl,rfl⟩,rfl⟩⟩
 rintro i U hi ⟨l,p,r,t⟩;by_cases J:i<4
 .have j:(i:Int)<4:=by omega
  have w1:=zWk i;have P:=qdX g i;have R:=wm (itS i g) (itS i g) zOm zOm;have C:=vB (itS i g) (Z4 (itS i g) (itS i g));have I:uniS (itS i g) (Z4 (itS i g) (itS i g))=itS (i+1) g:=rfl;rw[I]at C;clear I;generalize T:itS (i+1) g=s' at *
  generalize Z4 (itS i g) (itS i g)=q at *
  generalize itS i g=s at *
  simp[go_sem,r,t,j];refine cH zKr ?_;simp[go_sem,l,qw,tk];refine fR R (.zk (yK _) (.zk (yK _) .nil)) ?_;refine cQ C (.zk (yK _) (.zk (yK _) .nil)) ?_;simp[go_sem,l,qw,pc];rw[if_pos (zg _)];simp_all[go_sem,aK]
 .have o:i=4:=by omega
  subst o;generalize itS 4 g=s at *
  simp[go_sem,l,p,r,t,qw,tk,pc];rw[if_pos (zg _)];simp[go_sem,p,qw,tk];exact .hf _ (yK s)
def prC(ts:TS)(n:Nd)(l:List RS)(S:RS)(b:Bool):Prop:=qi qe 147 [eTS ts,eNd n,lRS l] (.tup [eRS S,aB b])
theorem ap2(ts n L)(h:n.op=2):prC ts n L (n.n,fun _=>false) true:=by
 unfold prC;refine qSV call147 func147 rfl ?_;simp[go_sem,h];exact .hf _ (jY (n.n,fun _=>false) true)
theorem ap3(ts)(ok:okTS ts)(n L)(h:n.op=3):prC ts n L (qt (zB ts.sS.length 1)) true:=by
 unfold prC;refine qSV call147 func147 rfl ?_;have c1:=allU ts ok 1 zOm;generalize qt (zB ts.sS.length 1)=q at *
 simp[go_sem,h];refine cQ c1 (wkTI ts 1) ?_;simp[go_sem,qw];rw[if_pos (zg _)];generalize i:putCells _ 0 (aI q.1 :: hB q.2)=P;have g:P=aI q.1 :: hB q.2:=by rw[<-i];exact pc (aI 0) _ (fun _=>false) _
 subst g;clear i;simp[go_sem,qw,tk];exact .hf _ (jY q _)
theorem ap4(ts)(ok:okTS ts)(n L)(h:n.op=4):prC ts n L (qt (zB ts.sS.length 2)) true:=by
 unfold prC;refine qSV call147 func147 rfl ?_;have c1:=allU ts ok 2 zOm;generalize qt (zB ts.sS.length 2)=q at *
 simp[go_sem,h];refine cQ c1 (wkTI ts 2) ?_;simp[go_sem,qw];rw[if_pos (zg _)];generalize i:putCells _ 0 (aI q.1 :: hB q.2)=P;have g:P=aI q.1 :: hB q.2:=by rw[<-i];exact pc (aI 0) _ (fun _=>false) _
 subst g;clear i;simp[go_sem,qw,tk];exact .hf _ (jY q _)
theorem ap5(ts n q)(h:n.op=5):prC ts n [q] q true:=by
 unfold prC;refine qSV call147 func147 rfl ?_;simp[go_sem,h,qw,tk];rw[if_pos (zg _)];generalize i:putCells _ 0 (aI q.1 :: hB q.2)=P;have g:P=aI q.1 :: hB q.2:=by rw[<-i];exact pc (aI 0) _ (fun _=>false) _
 subst g;clear i;simp[go_sem,qw,tk];exact .hf _ (jY q _)
theorem ap6(ts n q r S)(h:n.op=6)(c:qi qe 193 [eRS q,eRS r] (eRS S)):prC ts n [q,r] S (decide (q.1=r.1)):=by
 unfold prC;refine qSV call147 func147 rfl ?_;simp[go_sem,h];refine fD [0,1,2,3,4,5,7,8,9,10,11,12,13,14,15,17,6,16] [(0,0,[]),(1,0,[]),(2,0,[]),(3,0,[]),(4,0,[]),(5,0,[]),(7,0,[]),(8,0,[]),(9,0,[]),(10,0,[]),(11,0,[]),(12,0,[]),(13,0,[]),(14,0,[]),(15,0,[]),(17,0,[]),(6,1,[10,14]),(16,1,[10,14])] zKr zKr zSi ?_;simp[go_sem,qw,tk];refine cQ c (wkS2 q r) ?_;simp[go_sem,qw];rw[if_pos (zg _)];generalize i:putCells _ 0 (aI S.1 :: hB S.2)=P;have g:P=aI S.1 :: hB S.2:=by rw[<-i];exact pc (aI 0) _ (fun _=>false) _
 subst g;clear i;simp[go_sem,qw,tk];exact .hf _ (jY S _)
theorem ap14(ts n q r S)(h:n.op=14)(c:qi qe 193 [eRS q,eRS r] (eRS S)):prC ts n [q,r] S (decide (q.1=r.1)):=by
 unfold prC;refine qSV call147 func147 rfl ?_;simp[go_sem,h];refine fD [0,1,2,3,4,5,7,8,9,10,11,12,13,14,15,17,6,16] [(0,0,[]),(1,0,[]),(2,0,[]),(3,0,[]),(4,0,[]),(5,0,[]),(7,0,[]),(8,0,[]),(9,0,[]),(10,0,[]),(11,0,[]),(12,0,[]),(13,0,[]),(14,0,[]),(15,0,[]),(17,0,[]),(6,1,[10,14]),(16,1,[10,14])] zKr zKr zSi ?_;simp[go_sem,qw,tk];refine cQ c (wkS2 q r) ?_;simp[go_sem,qw];rw[if_pos (zg _)];generalize i:putCells _ 0 (aI S.1 :: hB S.2)=P;have g:P=aI S.1 :: hB S.2:=by rw[<-i];exact pc (aI 0) _ (fun _=>false) _
 subst g;clear i;simp[go_sem,qw,tk];exact .hf _ (jY S _)
theorem ap7(ts n q r S)(h:n.op=7)(c:qi qe 194 [eRS q,eRS r] (eRS S)):prC ts n [q,r] S (decide (q.1=r.1)):=by
 unfold prC;refine qSV call147 func147 rfl ?_;simp[go_sem,h];refine fD [0,1,2,3,4,5,7,8,9,10,11,12,13,14,15,17,6,16] [(0,0,[]),(1,0,[]),(2,0,[]),(3,0,[]),(4,0,[]),(5,0,[]),(7,0,[]),(8,0,[]),(9,0,[]),(10,0,[]),(11,0,[]),(12,0,[]),(13,0,[]),(14,0,[]),(15,0,[]),(17,0,[]),(6,1,[10,14]),(16,1,[10,14])] zKr zKr zSi ?_;simp[go_sem,qw,tk];refine cQ c (wkS2 q r) ?_;simp[go_sem,qw];rw[if_pos (zg _)];generalize i:putCells _ 0 (aI S.1 :: hB S.2)=P;have g:P=aI S.1 :: hB S.2:=by rw[<-i];exact pc (aI 0) _ (fun _=>false) _
 subst g;clear i;simp[go_sem,qw,tk];exact .hf _ (jY S _)
theorem ap8(ts n q r)(h:n.op=8):prC ts n [q,r] q (decide (q.1=r.1)):=by
 unfold prC;refine qSV call147 func147 rfl ?_;simp[go_sem,h];refine fD [0,1,2,3,4,5,6,7,8,9,10,11,13,12] [(0,0,[]),(1,0,[]),(2,0,[]),(3,0,[]),(4,0,[]),(5,0,[]),(6,0,[]),(7,0,[]),(8,0,[]),(9,0,[]),(10,0,[]),(11,0,[]),(13,0,[]),(12,1,[6,10])] zKr zKr zSi ?_;simp[go_sem,qw,tk];rw[if_pos (zg _)];generalize i:putCells _ 0 (aI q.1 :: hB q.2)=P;have g:P=aI q.1 :: hB q.2:=by rw[<-i];exact pc (aI 0) _ (fun _=>false) _
 subst g;clear i;simp[go_sem,qw,tk];exact .hf _ (jY q _)
theorem ap32(ts n q r)(h:n.op=32):prC ts n [q,r] zR (decide (q.1=r.1)):=by
 unfold prC;refine qSV call147 func147 rfl ?_;simp[go_sem,h];refine fD [0,1,2,3,4,5,6,7,8,9,11,10] [(0,0,[]),(1,0,[]),(2,0,[]),(3,0,[]),(4,0,[]),(5,0,[]),(6,0,[]),(7,0,[]),(8,0,[]),(9,0,[]),(11,0,[]),(10,1,[4,8])] zKr zKr zSi ?_;simp[go_sem,qw];exact .hf _ (jY zR _)
theorem ap33(ts n q r)(h:n.op=33):prC ts n [q,r] zR (decide (q.1=r.1)):=by
 unfold prC;refine qSV call147 func147 rfl ?_;simp[go_sem,h];refine fD [0,1,2,3,4,5,6,7,8,9,11,10] [(0,0,[]),(1,0,[]),(2,0,[]),(3,0,[]),(4,0,[]),(5,0,[]),(6,0,[]),(7,0,[]),(8,0,[]),(9,0,[]),(11,0,[]),(10,1,[4,8])] zKr zKr zSi ?_;simp[go_sem,qw];exact .hf _ (jY zR _)
theorem ap9(ts n q r S)(h:n.op=9)(p:0<=q.1/\q.1<=1000)(t:0<=r.1/\r.1<=1000)(c:qi qe 195 [eRS q,eRS r] (eRS S)):prC ts n [q,r] S (decide (1<=q.1+r.1-2/\q.1+r.1-2<=3)):=by
 unfold prC;refine qSV call147 func147 rfl ?_;have l:qp.wrap (q.1+r.1)=q.1+r.1:=zWr;have o:qp.wrap (q.1+r.1-2)=q.1+r.1-2:=zWr;simp[go_sem,h];refine cH zKr ?_;simp[go_sem,qw,l,o];refine cH zKr ?_;by_cases j:1<=q.1+r.1-2
 .simp [go_sem,qw,tk,j]
  refine cQ c (wkS2 q r) ?_;simp[go_sem,qw,j];rw[if_pos (zg _)];generalize i:putCells _ 0 (aI S.1 :: hB S.2)=P;have g:P=aI S.1 :: hB S.2:=by rw[<-i];exact pc (aI 0) _ (fun _=>false) _
  subst g;clear i;simp[go_sem,qw,tk];exact .hf _ (jY S _)
 .simp [go_sem,qw,tk,j]
  refine cQ c (wkS2 q r) ?_;simp[go_sem,qw,j];rw[if_pos (zg _)];generalize i:putCells _ 0 (aI S.1 :: hB S.2)=P;have g:P=aI S.1 :: hB S.2:=by rw[<-i];exact pc (aI 0) _ (fun _=>false) _
  subst g;clear i;simp[go_sem,qw,tk];exact .hf _ (jY S _)
theorem ap10(ts n q r S)(h:n.op=10)(l:0<=q.1/\q.1<=1000)(o:0<=r.1/\r.1<=1000)(c:qi qe 196 [eRS q,eRS r] (eRS S)):prC ts n [q,r] S (decide (q.1+r.1<=3)):=by
 unfold prC;refine qSV call147 func147 rfl ?_;have j:qp.wrap (q.1+r.1)=q.1+r.1:=zWr;simp[go_sem,h];refine fD [0,1,2,3,4,5,7,8,9,10,11,12,13,14,15,16,18,6,17] [(0,0,[]),(1,0,[]),(2,0,[]),(3,0,[]),(4,0,[]),(5,0,[]),(7,0,[]),(8,0,[]),(9,0,[]),(10,0,[]),(11,0,[]),(12,0,[]),(13,0,[]),(14,0,[]),(15,0,[]),(16,0,[]),(18,0,[]),(6,1,[10,14]),(17,1,[10,14])] zKr zKr zSi ?_;simp[go_sem,qw,tk,j];refine cQ c (wkS2 q r) ?_;simp[go_sem,qw];rw[if_pos (zg _)];generalize i:putCells _ 0 (aI S.1 :: hB S.2)=P;have g:P=aI S.1 :: hB S.2:=by rw[<-i];exact pc (aI 0) _ (fun _=>false) _
 subst g;clear i;simp[go_sem,qw,tk];exact .hf _ (jY S _)
theorem ap11(ts n q S)(h:n.op=11)(c:qi qe 197 [eRS q] (eRS S)):prC ts n [q] S (decide (q.1=2)):=by
 unfold prC;refine qSV call147 func147 rfl ?_;simp[go_sem,h];refine fD [0,1,2,4,5,6,7,8,10,3,9] [(0,0,[]),(1,0,[]),(2,0,[]),(4,0,[]),(5,0,[]),(6,0,[]),(7,0,[]),(8,0,[]),(10,0,[]),(3,1,[7]),(9,1,[7])] zKr zKr zSi ?_;simp[go_sem,qw,tk];refine cQ c (wkS1 q) ?_;simp[go_sem,qw];rw[if_pos (zg _)];generalize i:putCells _ 0 (aI S.1 :: hB S.2)=P;have g:P=aI S.1 :: hB S.2:=by rw[<-i];exact pc (aI 0) _ (fun _=>false) _
 subst g;clear i;simp[go_sem,qw,tk];exact .hf _ (jY S _)
theorem ap12(ts n q S)(h:n.op=12)(c:qi qe 198 [eRS q] (eRS S)):prC ts n [q] S (decide (q.1=2)):=by
 unfold prC;refine qSV call147 func147 rfl ?_;simp[go_sem,h];refine fD [0,1,2,4,5,6,7,8,10,3,9] [(0,0,[]),(1,0,[]),(2,0,[]),(4,0,[]),(5,0,[]),(6,0,[]),(7,0,[]),(8,0,[]),(10,0,[]),(3,1,[7]),(9,1,[7])] zKr zKr zSi ?_;simp[go_sem,qw,tk];refine cQ c (wkS1 q) ?_;simp[go_sem,qw];rw[if_pos (zg _)];generalize i:putCells _ 0 (aI S.1 :: hB S.2)=P;have g:P=aI S.1 :: hB S.2:=by rw[<-i];exact pc (aI 0) _ (fun _=>false) _
 subst g;clear i;simp[go_sem,qw,tk];exact .hf _ (jY S _)
theorem ap13(ts)(ok:okTS ts)(n q C S)(h:n.op=13)(c:qi qe 198 [eRS q] (eRS C))(c2:qi qe 193 [eRS C,eRS (qt (zB ts.sS.length 2))] (eRS S)):prC ts n [q] S (decide (q.1=2)):=by
 unfold prC;refine qSV call147 func147 rfl ?_;have c1:=allU ts ok 2 zOm;generalize qt (zB ts.sS.length 2)=D at *
 simp[go_sem,h];refine fD [0,1,2,4,7,8,9,10,11,13,3,5,6,12] [(0,0,[]),(1,0,[]),(2,0,[]),(4,0,[]),(7,0,[]),(8,0,[]),(9,0,[]),(10,0,[]),(11,0,[]),(13,0,[]),(3,1,[4,10]),(5,1,[10]),(6,1,[10]),(12,1,[10])] zKr zKr zSi ?_;simp[go_sem,qw,tk];refine cQ c (wkS1 q) ?_;simp[go_sem,qw];refine cQ c1 (wkTI ts 2) ?_;simp[go_sem,qw];refine cQ c2 (wkS2 C D) ?_;simp[go_sem,qw];rw[if_pos (zg _)];generalize i:putCells _ 0 (aI S.1 :: hB S.2)=P;have g:P=aI S.1 :: hB S.2:=by rw[<-i];exact pc (aI 0) _ (fun _=>false) _
 subst g;clear i;simp[go_sem,qw,tk];exact .hf _ (jY S _)
theorem apO(ts n L)(t:n.op≠2)(C:n.op≠3)(I:n.op≠4)(J:n.op≠5)(P:n.op≠6)(g:n.op≠14)(R:n.op≠7)(T:n.op≠8)(i:n.op≠32)(j:n.op≠33)(U:n.op≠9)(l:n.op≠10)(o:n.op≠11)(p:n.op≠12)(r:n.op≠13):prC ts n L zR true:=by
 unfold prC;refine qSV call147 func147 rfl ?_;simp[go_sem,t,C,I,J,P,g,R,T,i,j,U,l,o,p,r];exact .hf _ (jY zR true)
end QN
end Go.Proofs.YtipbakanneogpaaGreatDoor
