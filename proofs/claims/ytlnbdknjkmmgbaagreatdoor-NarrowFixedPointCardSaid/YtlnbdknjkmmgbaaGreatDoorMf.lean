/-
  Own library, part 6: an abstract reading of values and a calculus over it; contracts of functions; plain lemmas.
-/
import Derived.KernelRfl
import Derived.Test.YtlnbdknjkmmgbaaGreatDoorMe
set_option linter.unusedVariables false
set_option linter.unusedSimpArgs false
set_option maxRecDepth 100000
open Go renaming Program->qf,TypeId->j1,World->uk,Value->us,undef->xc,FuncId->xa
open Go.Proofs.Tryz renaming prog->qb
open List renaming getElem?_eq_some_iff->qg,mem_map->qn,range->qp,getElem_mem->qq,mem_cons->qs,getElem?_set_self->qv,getElem?_append_left->qB,getElem?_eq_getElem->qC,not_mem_nil->qG,replicate->qI,mem_append->qL,mem_of_getElem?->qN,mem_singleton->qO,mem_cons_of_mem->qP,all_eq_true->qR,mem_cons_self->qX,drop_eq_getElem_cons->qY,length_append->qZ,take_length->zi,getElem?_map->zB,drop_length->zF,mem_range->zO,append_nil->zZ,map_append->z6,length_cons->yh,take_of_length_le->yr,getD_eq_getElem?_getD->yI,mem_filter->jC,getElem?_cons_succ->vG,flatten_cons->uY
open Nat renaming le_refl->qh,zero_add->yJ
open Go.IntKind renaming i64->qj
open Option.some renaming injEq->qm
open Bool renaming and_eq_true->qx,eq_iff_iff->wM
open List.Nodup renaming length_le_of_subset->yY
open Int renaming le_refl->jO,tmod_eq_emod_of_nonneg->uZ
namespace Go.EvW
open Go Go.Ev Go.RowKit Go.ChangeShapes Go.WideShapes
section
variable {J:Type}{c:J->List AV}{ts:List j1}{P:qf}{t:j1}{w:uk}
def vo(P:qf)(t:j1){J:Type}(c:J->AV)(ok:J->Prop):Prop:=
 ∀(H:Type)(g:j1×us->H)(w:uk)(r:Reach)(b:Nat)(v:us)(d:DataW H)(i:List MemPlace),Value.okWide P w r b t v->DataW.Trod g P w 0 (fun _=>true) true t v d i->jm P t d ->
  ∃ a,ok a/\VRel ⟨(·<w.heap.size),[]⟩ w.heap (c a) v
theorem vo.struct{ok}(g:(Ua P t).isSome=true)(h:∀ N,ShU P N t c ok):vo P t (fun a => .agg (c a)) ok:=by
 intro H i w r b v d C j l o;unfold Ua at g;split at g
 .rename_i I p;exact cD h p j l o
 grind
theorem vo.slice{e c}{ok:J->Prop}(g:P.underlying t=some (.slice e))(h:∀ N,ShU P N t (fun a=>[c a]) ok):vo P t c ok:=
 fun H i w r b v d p j l o=>cM h (qkN g) j l o
inductive ArgF (P:qf):List j1->{α:Type}->(α->List AV)->(α->Prop)->Prop where
 |nil:ArgF P [] (fun _:Unit=>[]) (fun _=>True)
 |cons {t:j1} {ts:List j1} {α β:Type} {c:α->AV} {ok:α->Prop} {c':β->List AV} {ok':β->Prop} (h:vo P t c ok) (k:ArgF P ts c' ok'):ArgF P (t :: ts) (fun x:α×β=>c x.1 :: c' x.2) (fun x=>ok x.1/\ok' x.2)
theorem ArgF.read{ok}(h:ArgF P ts c ok){H enc w r b} :
  ∀{g}{ds:List (DataW H)}{ps},DataW.TrodAll enc P w 0 (fun _=>true) true ts g ds ps->(∀(j:Nat) t v,ts[j]?=some t->g[j]?=some v->Value.okWide P w r b t v)->(DataW.weightsEach P ts ds).all (·<=reachBytes)=true ->
  ∃ a,ok a/\ds.length=ts.length/\g.length=(c a).length/\∀(k) x,(c a)[k]?=some x->VRel ⟨(·<w.heap.size),[]⟩ w.heap x (g.getD k xc):=by
 induction h with
 |nil =>
  intro g ds ps i _ _;obtain⟨rfl,rfl,rfl⟩:=trodAll_nil i;simp
 | @cons t ts J β c ok c' R h k T =>
  intro g ds ps i I l;obtain⟨v,U,d,a0,p,q,rfl,rfl,rfl,h1,h2⟩:=trodAll_cons i;simp only[DataW.weightsEach,List.all_append,qx]at l;obtain⟨a,ha,hr⟩:=h H enc w r b v d p (I 0 t v rfl rfl) h1 l.1;obtain⟨a',o,C,hl,hg⟩:=T h2 (fun j t v=>I (j+1) t v) l.2;refine⟨(a,a'),⟨ha,o⟩,zP1 C,zP1 hl,fun k x hx=>?_⟩
  grind
theorem mS(l:laidOutB P=true){H enc W o C}:∀{ts i}{ds:List (DataW H)}{ps},
  (∀ t,t∈ts->P.readableRec t=true/\t<P.types.size)->DataW.TrodAll enc P W 0 (fun _=>true) true ts i ds ps->(∀ p∈ps,W.sameAt o p)->(∀ p∈ps,C p.block=true)->DataW.TrodAll enc P o 0 C true ts i ds ps
 | [],i,ds,ps,_,h,_,_=>by
  obtain⟨rfl,rfl,rfl⟩:=trodAll_nil h;exact trodAll_mk0
 |t :: ts,i,ds,ps,I,h,J,R=>by
  obtain⟨v,T,d,U,p,q,rfl,rfl,rfl,g1,g2⟩:=trodAll_cons h;have j:=I t zSp;exact trodAll_cons_mk (WideElems.Trod_stays l j.1 j.2 g1 (fun x g=>J x (zP1 g)) (fun x g=>R x (zP1 g)))
   (mS l (fun t j=>I t (zP1 j)) g2 (fun x g=>J x (zP1 g)) (fun x g=>R x (zP1 g)))
theorem qkO{f fn}{s:ChangeSpec}{tb ok}(hp:fn.params=ts.toArray)(hF:ArgF P ts c ok)(hv:s.vars=[])
  (T:∀ H ds,ds.length=ts.length->s.fn H ds={ results:=[.lit (.bool true)],args:=ds }) (hr:fn.resultTypes=#[tb]) (U:P.underlying tb=some .bool)
  (hl:laidOutB P=true) (a7:(ts.all fun t=>P.readableRec t&&decide (t<P.types.size))=true) (hS:∀ a,ok a->qd P f (c a) (aB true))
  (H) (C) (W) (base) (args) (ds gs:List (DataW H)) (g)
  (i:∀(j:Nat) t v,fn.params[j]?=some t->args[j]?=some v->Value.okWide P W .any base t v) (hW:DataW.Whole C P fn.params.toList s.vars false W args.toList ds gs g) (a8:(DataW.weightsEach P fn.params.toList ds).all (·<=reachBytes)=true) (hT:Qs (·<W.heap.size) W.heap) :
  Calls P f args W fun e W'=>∃ v,e = .returned v/\s.post C P fn false true false false W args v W':=by
 have a0:=hW;obtain⟨p,q,R,hV,I,a9,_⟩:=hW;rw[hv]at hV;obtain⟨hg,hq⟩:=trodVars_none hV;subst hg;subst hq;rw[zZ]at I;subst I;rw[hp]at R i;obtain⟨a,ha,a1,a2,aa⟩:=hF.read (r := .any) (b:=base) R (fun j t v h1 h2=>i j t v (zUs h1) (zUs h2)) (by grind);have a3:∀ x,x∈g->x.block<W.heap.size:=fun x l=>R.lt x l
 obtain⟨_,o⟩:=hS a ha;refine(o (·<W.heap.size) W args (Sim.empty (fun _ h=>h) hT) ⟨zUs a2,fun k x hk=>?_⟩).mono fun e W' ⟨a6,v,he,_,_,hb,a4⟩=>?_
 .simp_all
 .have a5:v = .bool true:=by cases a4;rfl
  subst a5;refine⟨_,he,ds,[],g,[],g,[],a0,?_,?_,?_,World.keptBut_mono (fun x l=>⟨l,.inr (.inl l)⟩) (hb.frame (·∈g)),fun h=>by cases h⟩
  all_goals try rw[zZ]
  all_goals try rw[T H ds a1]
  .rw [hr]
   exact trodAll_cons_mk (p':=[]) (shut_bool U true) trodAll_mk0
  .rw [hp]
   refine mS hl (fun t ht=>?_) R (fun x l=>hb.same (a3 x l)) (fun x l=>by grind)
   grind
  .rw [hv];rfl
theorem ShF.cons'{N o o' fs i ok c' g}(j:o+P.cellsOf t=o')(h:ShU P N t c ok)(k:ShF P N o' fs c' g) :
  ShF P N o ((t,o) :: fs) (fun x:J×i=>c x.1++c' x.2) (fun x=>ok x.1/\g x.2):=by
 subst j;exact .cons h k
theorem mT:∀{laid ps},DataW.LaidVars P w laid ps->∀ x,x∈laid->∃ g t cs fuel p,P.globalNamed x.1=some g/\(P.globals[g]?).map (·.type)=some t/\w.var? P x.1=some cs/\DataW.trod (fun _=>()) P w 0 (fun _=>true) false fuel t cs.toList=some (x.2,p)
 | [],_,_,x,i=>by simp at i
 | (n,d) :: r,ps,h,x,i=>by
  obtain⟨g,t,cs,fuel,p,q,l,o,C,I,j,_⟩:=h;rcases qs.1 i with rfl|i
  .grind
  .exact mT j x i
theorem qkP{e n fuel k}(U:P.underlying t=some (.array n e))(he:P.underlying e=some (.int k))(hc:P.cellsOf e=1)(C:P.cellsOf t=n){cs}{ns:List Int}{p}
  (h:DataW.trod (fun _=>()) P w 0 (fun _=>true) false fuel t cs=some (.agg (ns.map fun i => .lit (.int k i)),p)):cs=ns.map fun i => .int k i:=by
 obtain⟨I,m,_,g,T,hn,j⟩:=DataW.trod_array U h;simp only[Prod.mk.injEq,DataW.agg.injEq]at g;have g:=g.1;have J:ns.length=n:=by have:=congrArg List.length g;simp at this;omega
 rw[C]at T;rw[hc]at j;apply List.ext_getElem
 .simp [T,J]
 .intro i h1 h2
  have R:=j i zOm;rw[Nat.mul_one]at R;have l:i<I.length:=zOm;rw[qC l]at R;obtain⟨z,e1,e2,_⟩:=DataW.trod_int he R;have h4:(I[i]).1=DataW.lit (.int k z):=by rw[e2]
  have o:(ns.map fun i=>(DataW.lit (.int k i):DataW Unit))[i]?=(I.map (·.1))[i]?:=by rw[g]
  rw[zB,zB,qC l,qC zOm]at o;simp only[Option.map_some,qm]at o;rw[h4]at o;simp only[DataW.lit.injEq,Lit.int.injEq,true_and]at o;have h6:(cs.drop i).take 1=[cs[i]]:=by rw[qY h1];rfl
  grind
theorem qkQ{name g cs}(j:P.globalNamed name=some g)(h:w.var? P name=some cs):∃ e i,w.heap[g]?=some (.cells cs e i):=by
 grind [World.var?]
end
end Go.EvW
namespace Go.Proofs.YtlnbdknjkmmgbaaGreatDoor
open Go Go.Ev Go.Proofs Tryz
namespace DT
open Go.EvW Y1 P1 YF
theorem unInt:qb.underlying 3=some (.int .i64):=by kernel_rfl
theorem mU:qb.underlying 4=some .bool:=by kernel_rfl
theorem qkR:qb.underlying 9=some .string:=by kernel_rfl
theorem qkS:qb.underlying 28=some (.slice 3):=by kernel_rfl
theorem qkT:qb.underlying 22=some (.slice 65):=by kernel_rfl
theorem qkU:qb.underlying 23=some (.slice 67):=by kernel_rfl
theorem qkV:qb.underlying 32=some (.slice 34):=by kernel_rfl
theorem qkW:qb.underlying 35=some (.slice 85):=by kernel_rfl
theorem qkX:qb.underlying 24=some (.slice 73):=by kernel_rfl
theorem qkY:qb.underlying 25=some (.slice 75):=by kernel_rfl
abbrev okI(n:Int):Prop := -9223372036854775808<=n/\n<=9223372036854775807
abbrev okS(s:tV):Prop:=s.size<=140737488351232
instance:Inhabited Nd:=⟨.mk 0 ⟨#[]⟩ 0 [] 0⟩
instance:Inhabited Pd:=⟨⟨⟨#[]⟩,[],default⟩⟩
instance:Inhabited Fld:=⟨⟨⟨#[]⟩,[],false⟩⟩
theorem Zp(N):ShU qb N 3 (fun n:Int=>[aI n]) okI:=
 (ShU.int unInt N).map (fun n=>n) (fun _=>rfl) (fun n h=>by
  grind [Lit.wf,IntKind.min,IntKind.max,IntKind.signed,IntKind.bits])
theorem mV(N):ShU qb N 4 (fun b:Bool=>[aB b]) (fun _=>True):=ShU.bool mU N
theorem Z8(N):ShU qb N 9 (fun s:tV=>[aS s]) okS:=ShU.string qkR N
theorem Xx(N):ShU qb N 28 (fun xs:List Int=>[lI xs]) (fun l=>l.length<=140737488351232/\∀ x,x∈l->okI x):=
 ((ShU.slice qkS (Zp N) (fun _ _=>zKr) (Nat.lt_of_lt_of_eq Nat.zero_lt_one zKr) zKr).le zOm).map (fun l=>l) (fun _=>rfl) fun _ h=>h
theorem qkZ(N):ShU qb N 67 yT (fun f=>f.sS.length<=140737488351232/\∀ x,x∈f.sS->okI x):=
 ((ShU.struct (fs:=[(9,0),(28,1),(4,2)]) zKr (.cons' (o':=1) zKr (Z8 N) (.cons' (o':=2) zKr (Xx N) (.cons' (o':=3) zKr (mV N) (.nil 3)))) zKr).map
  (fun x=>(⟨x.1,x.2.1,x.2.2.1⟩:Fld)) (fun _=>rfl) (fun x h=>h.2.1)).le zOm
theorem qk0(N):ShU qb N 65 YI (fun s=>okS s.1):=
 ((ShU.struct (fs:=[(9,0),(4,1)]) zKr (.cons' (o':=1) zKr (Z8 N) (.cons' (o':=2) zKr (mV N) (.nil 2))) zKr).map
  (fun x=>((x.1,x.2.1):tV×Bool)) (fun _=>rfl) (fun x h=>h.1)).le zOm
theorem Ub:∀ N,ShU qb N 34 cNd (fun _=>True)
 | 0=>fun n i=>absurd i zOm
 | N+1 =>
  have ks:ShU qb N 32 (fun l:List Nd=>[.lst false (l.map cNd)]) (fun _=>True):=((ShU.slice qkV (Ub N) (fun a _=>(ZN a).trans zKr) (Nat.lt_of_lt_of_eq (show 0<5 by omega) zKr) zKr).le zOm).map (fun l=>l) (fun _=>rfl) fun _ _=>trivial
  ((ShU.struct (fs:=[(3,0),(9,1),(3,2),(32,3),(3,4)]) zKr
   (.cons' (o':=1) zKr (Zp N) (.cons' (o':=2) zKr (Z8 N) (.cons' (o':=3) zKr (Zp N) (.cons' (o':=4) zKr ks (.cons' (o':=5) zKr (Zp N) (.nil 5)))))) zKr)).map
   (fun x=>Nd.mk x.1 x.2.1 x.2.2.1 x.2.2.2.1 x.2.2.2.2.1) (fun x=>by rw[yw];rfl) fun _ _=>trivial
theorem qk1(N):ShU qb N 85 cPm (fun p=>okI p.2):=
 ((ShU.struct (fs:=[(9,0),(3,1)]) zKr (.cons' (o':=1) zKr (Z8 N) (.cons' (o':=2) zKr (Zp N) (.nil 2))) zKr).map
  (fun x=>((x.1,x.2.1):tV×Int)) (fun _=>rfl) (fun x h=>h.2.1)).le zOm
theorem qk2(N):ShU qb N 35 (fun l:List (tV×Int)=>[lPm l]) (fun l=>l.length<=140737488351232):=
 ((ShU.slice qkW (qk1 N) (fun _ _=>zKr) (Nat.lt_of_lt_of_eq (show 0<2 by omega) zKr) zKr).le zOm).map (fun l=>l) (fun _=>rfl) fun _ h=>h.1
theorem qk3(N):ShU qb N 73 cPd (fun _=>True):=
 ((ShU.struct (fs:=[(9,0),(35,1),(34,2)]) zKr (.cons' (o':=1) zKr (Z8 N) (.cons' (o':=2) zKr (qk2 N) (.cons' (o':=7) zKr (Ub N) (.nil 7)))) zKr).map
  (fun x=>(⟨x.1,x.2.1,x.2.2.1⟩:Pd)) (fun x=>by simp[cPd]) fun _ _=>trivial).le zOm
theorem qk4(N):ShU qb N 75 cFa (fun _=>True):=
 ((ShU.struct (fs:=[(9,0),(34,1)]) zKr (.cons' (o':=1) zKr (Z8 N) (.cons' (o':=6) zKr (Ub N) (.nil 6))) zKr).map
  (fun x=>((x.1,x.2.1):tV×Nd)) (fun x=>by simp[cFa]) fun _ _=>trivial).le zOm
structure okTA (ts:TS):Prop where
 so:∀ x,x∈ts.sS->okS x.1
 nso:ts.sS.length<=140737488351232
 nf:ts.sA.length<=140737488351232
 fl:∀ f,f∈ts.sA->f.sS.length<=140737488351232/\∀ x,x∈f.sS->okI x
theorem qk5(N):ShU qb N 27 cTS okTA:=by
 have s1:=(ShU.slice qkT (qk0 N) (fun _ _=>zKr) (Nat.lt_of_lt_of_eq (show 0<2 by omega) zKr) zKr).le (M:=N) zOm;have i:=(ShU.slice qkU (qkZ N) (fun _ _=>zKr) (Nat.lt_of_lt_of_eq (show 0<3 by omega) zKr) zKr).le (M:=N) zOm;have j:=(ShU.slice qkX (qk3 N) (fun a h=>(wY a).1.trans zKr) (Nat.lt_of_lt_of_eq (show 0<7 by omega) zKr) zKr).le (M:=N) zOm;have l:=(ShU.slice qkY (qk4 N) (fun a h=>(pR a).1.trans zKr) (Nat.lt_of_lt_of_eq (show 0<6 by omega) zKr) zKr).le (M:=N) zOm;have U:=ShU.struct (t:=27) (fs:=[(22,0),(23,1),(24,2),(25,3)]) zKr (.cons' (o':=1) zKr s1 (.cons' (o':=2) zKr i (.cons' (o':=3) zKr j (.cons' (o':=4) zKr l (.nil 4))))) zKr;exact(U.map (fun x=>(⟨x.1,x.2.1,x.2.2.1,x.2.2.2.1⟩:TS)) (fun _=>rfl) fun x h=>⟨h.1.2,h.1.1,h.2.1.1,h.2.1.2⟩).le zOm
theorem aSpec:vo qb 27 eTS okTA:=vo.struct zKr qk5
theorem aNode:vo qb 34 eNd (fun _=>True):=vo.struct zKr Ub
end DT
namespace QA
def bA:tV:=⟨#[65]⟩
def bf:tV:=⟨#[102]⟩
def bp:tV:=⟨#[112]⟩
end QA
namespace QB
open Y1 Q6 Q9 QA
def nC:Nd := .mk 45 bf 0 [mv bA 2,.mk 47 bp 0 [mv bf 5] 3] 1
theorem h47:anyN (fun n=>decide (n.op=47)) nC=true:=by decide +kernel
def WkR:List (List AV)->List (List AV)->Prop
 | [],[]=>True
 |x :: p,y :: j=>WKs x y/\WkR p j
 |_,_=>False
theorem mW:∀{xs ys g i},WKs xs ys->WKs g i->WKs (xs++g) (ys++i)
 | [],[],_,_,_,j=>j
 |_ :: _,_ :: _,_,_,⟨h,t⟩,j=>⟨h,mW t j⟩
 | [],_ :: _,_,_,h,_=>h.elim
 |_ :: _,[],_,_,h,_=>h.elim
theorem mX:∀{xs ys},WkR xs ys->ys.length=xs.length/\(∀(k:Nat) x y,xs[k]?=some x->ys[k]?=some y->x.length=y.length)/\WKs xs.flatten ys.flatten
 | [],[],_=>⟨rfl,fun k x y h=>by simp at h,trivial⟩
 |x :: xs,y :: ys,⟨h,t⟩=>by
  obtain⟨j,l,o⟩:=mX t;refine⟨zP1 j,fun k a b g i=>?_,by rw[uY,uY];exact mW h o⟩;cases k with
  |zero=>simp at g i;subst g;subst i;exact h.get.1.symm
  |succ k=>exact l k a b (zUs g) (zUs i)
 | [],_ :: _,h=>h.elim
 |_ :: _,[],h=>h.elim
theorem Qj{full xs ys}(h:WkR xs ys):WK (.lst full xs) (.lst false ys):=by
 obtain⟨l,C,I⟩:=mX h;have J:=kq l C;have P:=I.get.2;intro G R v r;cases r with
 |nil=>cases ys with
  |nil=>exact .nil _
  |cons=>simp at l
 |emp _ a cap T=>cases ys with
  |nil=>exact .emp _ a cap zSp
  |cons=>simp at l
 |lst _ _ sz a cap U e fr rd hb hs hl T hi o hr hv =>
  rw[<-l];have g:∀(k:Nat) y,ys.flatten[k]?=some y->∃ x,xs.flatten[k]?=some x:=by
   intro k y j;have p:k<ys.flatten.length:=(qg.1 j).1;exact⟨xs.flatten[k]' zOm,by simp only[qC (show k<xs.flatten.length by omega)]⟩
  refine .lst false ys sz a cap U e fr rd hb hs zOm zSp hi ?_ ?_ ?_
  .intro r t
   obtain⟨k,p⟩:=List.mem_iff_getElem?.1 t;have a0:k<ys.length:=(qg.1 p).1;have i:xs[k]?=some (xs[k]' zOm):=by simp[show k<xs.length by omega]
   rw[<-C k _ r i p];exact o _ (qN i)
  .intro k y j
   obtain⟨x,i⟩:=g k y j;exact hr k x i
  .intro k y j
   obtain⟨x,i⟩:=g k y j;exact P k x y i j G R _ (hv k x i)
end QB
namespace PB
open P1 P2 Y1 Y2 Y6 Y9 Y12 YW QB
section
variable {b':Kd}
def Sub(a b:Kd):Prop:=a.ar=b.ar/\∀ t,t∈a.ts->t∈b.ts
theorem qk6{n m a g b b'}(i:∀ t,t∈a->t∈g)(j:∀ t,t∈b->t∈b'):∀ t,t∈vS n m a b->t∈vS n m g b':=fun t l=>by
 grind [wW]
theorem qk7{n m a g b b'}(i:∀ t,t∈a->t∈g)(j:∀ t,t∈b->t∈b'):∀ t,t∈wu n m a b->t∈wu n m g b':=fun t l=>by
 grind [YO]
theorem Uc{a j b}(g:Sub a j)(i:Sub b b'):Sub (zw a b) (zw j b'):=by
 refine⟨by simp only[zw];rw[g.1,i.1],fun t l=>?_⟩;simp only[zw]at l⊢;rw[<-g.1,<-i.1];exact qk6 g.2 i.2 t l
theorem qk8{a j b}(g:Sub a j)(i:Sub b b'):Sub (vT a b) (vT j b'):=by
 refine⟨by simp only[vT];rw[g.1,i.1],fun t l=>?_⟩;simp only[vT]at l⊢;rw[<-g.1,<-i.1];exact qk7 g.2 i.2 t l
theorem Qk{a b}{t:Tp}:t∈(kSum a b).ts↔t∈a.ts\/t∈b.ts:=by
 show t∈uni (uni [] a.ts) b.ts↔_;rw[j8,j8];simp
theorem mY{a g b}(i:Sub a g)(j:∀ t,t∈b.ts->t∈b'.ts):Sub (kSum a b) (kSum g b'):=
 ⟨i.1,fun t l=>Qk.2 ((Qk.1 l).imp (i.2 t) (j t))⟩
theorem Sub.refl(a):Sub a a:=⟨rfl,fun _ h=>h⟩
theorem Sub.trans{a b c}(h:Sub a b)(k:Sub b c):Sub a c:=⟨h.1.trans k.1,fun t g=>k.2 t (h.2 t g)⟩
theorem Xy(a b):Sub a (kSum a b):=⟨rfl,fun t g=>Qk.2 (.inl g)⟩
theorem qk9{a g}(i:Sub a g):Sub (kTr a) (kTr g):=⟨rfl,fun t j=>by
 obtain⟨x,l,e⟩:=VK.1 j;exact VK.2 ⟨x,i.2 x l,e⟩⟩
def Ud(k:Kd):Prop:=∀ t,t∈(zw k k).ts->t∈k.ts
theorem Xz:∀ f n a,Sub a (cloN f n a)
 | 0,n,a => .refl a
 |f+1,n,a=>by
  unfold cloN;split
  .exact (Xy a _).trans (Xz f _ _)
  .exact .refl a
theorem XC{S}(i:Ud S):∀ f n a,Sub a S->Sub (cloN f n a) S
 | 0,n,a,h=>h
 |f+1,n,a,h=>by
  unfold cloN;split
  .refine XC i f _ _ ⟨h.1,fun t g=>?_⟩
   rcases Qk.1 g with g|g
   .exact h.2 t g
   .exact i t ((Uc h h).2 t g)
  .exact h
theorem XD{ns}(o:ns<=4):∀ f n a,okKd ns a->a.ar=2->70<=f+n->(n=0\/∃ p,okKd ns p/\p.ar=2/\n=p.ts.length/\a=kSum p (zw p p))->Ud (cloN f n a)
 | 0,n,a,g,C,hf,I=>by
  rcases I with rfl|⟨p,P,_,rfl,_⟩
  .omega
  grind [aJ]
 |f+1,n,a,g,C,hf,I=>by
  unfold cloN;split
  .rename_i U
   have hj:okKd ns (zw a a):=Jd g g zOm zOm;refine XD o f _ _ (Jb g hj (by grind [zw])) C zOm (.inr ⟨a,g,C,rfl,rfl⟩)
  .rename_i a0
   rcases I with rfl|⟨p,P,a1,rfl,rfl⟩
   .have:a.ts=[]:=List.eq_nil_of_length_eq_zero zOm
    intro t i;obtain⟨x,y,⟨J,_⟩,_⟩:=wW.1 i
    grind
   .have j:∀ t,t∈(kSum p (zw p p)).ts->t∈p.ts:=by
     have a2:(kSum p (zw p p)).ts.Nodup:=g.nd;have a3:∀ t,t∈p.ts->t∈(kSum p (zw p p)).ts:=(Xy p _).2;intro t i;by_cases R:t∈p.ts
     .exact R
     .exfalso
      have l:(t :: p.ts).Nodup:=List.nodup_cons.2 ⟨R,P.nd⟩;have:=yY l (l₂:=(kSum p (zw p p)).ts) (fun x J=>by
       rcases qs.1 J with rfl|J
       .exact i
       grind)
      grind
    intro t i;have T:Sub (kSum p (zw p p)) p:=⟨rfl,j⟩;exact Qk.2 (.inr ((Uc T T).2 t i))
theorem qlA{ns}(g:ns<=4){a u}(h:Sub a u)(i:okKd ns u)(j:u.ar=2):Sub (kClo a) (kClo u):=
 XC (XD g 70 0 u i j zOm (.inl rfl)) 70 0 a (h.trans (Xz 70 0 u))
theorem mZ(c):∀ m n s k,szN n<=m->exam c s true n = .ok k->exam c s false n = .ok k
 | 0,n,_,_,I,_=>by obtain⟨op,nm,i,ks,p⟩:=n;simp[szN]at I
 |m+1,n,s,k,I,h=>by
  have P:∀ x,x∈n.sD->∀(s:Scp)(g:Bool)(k:Option Kd),exam c s true x = .ok k->exam c s g x = .ok k:=fun x t s g k h=>by
   cases g with
   |true=>exact h
   |false=>exact mZ c m x s k (zW1 (q9 t)) h
  have U:∀(l:List Nd),(∀ x,x∈l->x∈n.sD)->∀(s:Scp)(g:Bool)(r:List (Option Kd)),qK c s true l = .ok r->qK c s g l = .ok r:=by
   intro l;induction l with
   |nil=>intro _ s g r h;exact h
   |cons x l R =>
    grind [qK,exam,qX,qP]
  rw[yn]at h⊢;simp only[Bool.true_and,Bool.false_and,Bool.true_or,Bool.false_or,Bool.false_eq_true,if_false]at h⊢;split at h
  .cases h
  by_cases T:n.op=1
  .grind
  rw[if_neg T]at h⊢;by_cases h47:n.op=47
  .grind
  rw[if_neg h47]at h⊢;by_cases J:n.op=15\/n.op=45\/n.op=46
  .rw [if_pos J]at h⊢
   cases j:n.sD with
   |nil=>rw[j]at h;exact h
   |cons x l =>
    have o:∀ y,y∈x :: l->y∈n.sD:=fun y hy=>by grind
    rw[j]at h;simp only[zH]at h⊢;cases t:exam c s true x with
    |error e=>grind
    |ok a =>
     rw[t]at h;rw[P x (o x (qX ..)) s _ a t];cases a with
     |none=>cases h
     |some a =>
      simp only at h⊢;split at h
      .rename_i C
       rw[if_pos C]
       grind
      .cases h
  rw[if_neg J]at h⊢
  grind
section
variable {ts:TS} (ok:okTS ts) (a b d:Nd)
include ok
end
end
end PB
namespace PC
open YS P1 P2 Y1 Y2 Y9 Y10 Y12 YZ YA PA YC YG Q1 Q3 Q4 PB
section
variable {es:List (tV×Bool)}
theorem qlB{a i b b'}(j:Sub i a)(l:Sub b' b):Sub (Zc i b') (Zc a b):=⟨j.1,fun t g=>by
 simp only[Zc,jC,decide_eq_true_eq]at g⊢;exact⟨j.2 t g.1,l.2 t g.2⟩⟩
theorem qlC{op a g b b'}(i:Sub g a)(j:Sub b' b):Sub (jR op g b') (jR op a b):=by
 unfold jR;split
 .exact mY i j.2
 grind [qlB]
theorem qlD{ns}(i:ns<=4){op a g}(h:Sub g a)(ok:okKd ns a)(j:a.ar=2):Sub (binK ns op g) (binK ns op a):=by
 grind [binK,qlA,mY,qk9]
theorem apK1(ns op n pos a):zn ns op n pos [some a]=if op=2 then .ok (some ⟨n,[]⟩) else if op=3 then .ok (some (zj ns 1)) else if op=4 then .ok (some (zj ns 2)) else
  if op=5 then .ok (some a) else if op=11\/op=12\/op=13 then (if a.ar=2 then .ok (some (binK ns op a)) else .error (42,pos)) else .ok none:=rfl
theorem apK2(ns op n pos a b) : zn ns op n pos [some a, some b] = if op = 2 then .ok (some ⟨n, []⟩) else if op = 3 then .ok (some (zj ns 1)) else if op = 4 then .ok (some (zj ns 2)) else
      if op=6\/op=14\/op=7\/op=8\/op=32\/op=33 then (if a.ar=b.ar then .ok (some (jR op a b)) else .error (42,pos))
      else if op=9 then (if 1<=a.ar+b.ar-2/\a.ar+b.ar-2<=3 then .ok (some (zw a b)) else .error (42,pos))
      else if op=10 then (if a.ar+b.ar<=3 then .ok (some (vT a b)) else .error (42,pos))
      else .ok none:=rfl
theorem qlE{ns}(P:ns<=4){op num pos l l' T}(e1:op≠1)(a0:op≠15)
  (h1:op=5\/op=11\/op=12\/op=13->∃ a j,l=[some a]/\l'=[some j]/\Sub j a/\okKd ns a)
  (h2:op=6\/op=14\/op=7\/op=8\/op=32\/op=33\/op=9\/op=10->∃ a b j b',l=[some a,some b]/\l'=[some j,some b']/\Sub j a/\Sub b' b)
  (h:zn ns op num pos l = .ok T):∃ p,zn ns op num pos l' = .ok p/\(kd op=101->∃ k k',T=some k/\p=some k'/\Sub k' k):=by
 by_cases o:op=2
 .unfold zn at h⊢
  rw[if_pos o]at h⊢;cases h;exact⟨_,rfl,fun _=>⟨_,_,rfl,rfl,Sub.refl _⟩⟩
 by_cases t:op=3
 .unfold zn at h⊢
  rw[if_neg o,if_pos t]at h⊢;cases h;exact⟨_,rfl,fun _=>⟨_,_,rfl,rfl,Sub.refl _⟩⟩
 by_cases C:op=4
 .unfold zn at h⊢
  rw[if_neg o,if_neg t,if_pos C]at h⊢;cases h;exact⟨_,rfl,fun _=>⟨_,_,rfl,rfl,Sub.refl _⟩⟩
 by_cases g1:op=5\/op=11\/op=12\/op=13
 .obtain ⟨a,j,rfl,rfl,U,ok⟩:=h1 g1
  rw[apK1,if_neg o,if_neg t,if_neg C]at h⊢;by_cases e5:op=5
  .rw [if_pos e5]at h⊢
   cases h
   grind
  have g:op=11\/op=12\/op=13:=zOm;rw[if_neg e5,if_pos g]at h⊢;by_cases i:a.ar=2
  .rw [if_pos i]at h
   rw[if_pos (U.1.trans i)];cases h;exact⟨_,rfl,fun _=>⟨_,_,rfl,rfl,qlD P U ok i⟩⟩
  grind
 by_cases g2:op=6\/op=14\/op=7\/op=8\/op=32\/op=33\/op=9\/op=10
 .obtain ⟨a,b,j,b',rfl,rfl,I,J⟩:=h2 g2
  have q1:=I.1;have q2:=J.1;rw[apK2,if_neg o,if_neg t,if_neg C]at h⊢;by_cases g3:op=6\/op=14\/op=7\/op=8\/op=32\/op=33
  .rw [if_pos g3]at h⊢
   by_cases i:a.ar=b.ar
   .rw [if_pos i]at h
    rw[if_pos zOm];cases h;exact⟨_,rfl,fun _=>⟨_,_,rfl,rfl,qlC I J⟩⟩
   grind
  rw[if_neg g3]at h⊢;by_cases e9:op=9
  .rw [if_pos e9]at h⊢
   by_cases i:1<=a.ar+b.ar-2/\a.ar+b.ar-2<=3
   .rw [if_pos i]at h
    rw[if_pos zOm];cases h;exact⟨_,rfl,fun _=>⟨_,_,rfl,rfl,Uc I J⟩⟩
   grind
  have R:op=10:=zOm;rw[if_neg e9,if_pos R]at h⊢;by_cases i:a.ar+b.ar<=3
  .rw [if_pos i]at h
   rw[if_pos zOm];cases h;exact⟨_,rfl,fun _=>⟨_,_,rfl,rfl,qk8 I J⟩⟩
  grind
 refine⟨none,VL o t C zOm zOm zOm zOm zOm zOm zOm zOm zOm zOm zOm zOm,fun hk=>?_⟩;have:=Jf hk;omega
theorem qlF{c n k}(h:z8 c n=false)(g:k∈n.sD):z8 c k=false:=by
 grind [VH,Bool.or_eq_false_iff,List.any_eq_false]
theorem XF{c b b'}:∀{ks s},(∀ k,k∈ks->∀ s,exam c s b k=exam c s b' k)->qK c s b ks=qK c s b' ks
 | [],s,_=>by simp only[qK]
 |k :: ks,s,h=>by
  simp only[qK];rw[h k (qX ..) s,XF fun k g s=>h k (qP _ g) s]
theorem qlG{c b b' nm pos}:∀{ks s},(∀ k,k∈ks->∀ s,exam c s b k=exam c s b' k)->zH c s b nm pos ks=zH c s b' nm pos ks
 | [],s,_=>by simp only[zH]
 |k :: ks,s,h=>by
  grind [zH,qX,exam,XF,qP]
theorem m5(c):∀ m n s b b',szN n<=m->z8 c n=false->exam c s b n=exam c s b' n
 | 0,n,_,_,_,g,_=>by obtain⟨op,nm,i,ks,p⟩:=n;simp[szN]at g
 |m+1,n,s,b,b',g,h=>by
  have j:∀ b b' k,k∈n.sD->∀ s,exam c s b k=exam c s b' k:=fun b b' k l s=>m5 c m k s b b' (zW1 (q9 l)) (qlF h l)
  have o:zE c n.op n.name=false:=by rw[VH,Bool.or_eq_false_iff]at h;exact h.1
  rw[yn,yn,o,Bool.and_false,Bool.and_false];rw[qlG (b:=b||decide (n.op=15)) (b':=b'||decide (n.op=15)) (j _ _),XF (b:=b||decide (n.op=12)||decide (n.op=13)) (b':=b'||decide (n.op=12)||decide (n.op=13)) (j _ _)]
theorem Ue(ts i):∀ m,i<m->m<=ts.sT.length->∀ j,(tmsL ts m).getD i false=z8 (mkCk ts i) ts.sT[i].body
 | 0,h,_,_=>absurd h zOm
 |m+1,h,t,j=>by
  have l:=Zh ts m zOm;have g:m<ts.sT.length:=zOm;have e:tmsL ts (m+1)=tmsL ts m++[z8 (mkCk ts m) ts.sT[m].body]:=by
   show tmsL ts m++(match ts.sT[m]? with|some p=>[z8 ⟨ts,m,tmsL ts m⟩ p.body] | none=>[])=_;rw[qC g];rfl
  rw[e];by_cases o:i<m
  .rw [<-Ue ts i m o zOm j]
   simp only[yI];rw[zGa]
  .have:i=m:=by omega
   subst this;simp only[yI];rw[List.getElem?_append_right zOm,l];simp
abbrev tkn(es:List (tV×Bool))(nm:tV):Prop:=getK nm es=some true
def Tk(es:List (tV×Bool))(n:Nd):Prop:=∀ x,x∈preN n->tkn es x.name
def OwnT(n:Nd):Prop:=∀ x,x∈preN n->ownB x=true
def vLe(es:List (tV×Bool))(L:Int)(nm:tV):Prop:=∃ j:Nat,(j:Int)<=L/\nm=vN j/\¬tkn es nm/\zt nm=true
structure qlH (es:List (tV×Bool)) (L:Int) (x:Nd):Prop where
 nc:x.op≠47
 own:ownB x=true
 nm:tkn es x.name\/vLe es L x.name
structure jW (es:List (tV×Bool)) (L:Int) (n:Nd):Prop where
 wf:WfN n
 all:∀ x,x∈preN n->qlH es L x
theorem vLe.mono{L L' nm}(h:vLe es L nm)(g:L<=L'):vLe es L' nm:=by
 obtain⟨j,a,b⟩:=h;exact⟨j,zOm,b⟩
theorem jW.mono{L L' n}(h:jW es L n)(i:L<=L'):jW es L' n:=
 ⟨h.wf,fun x g=>⟨(h.all x g).nc,(h.all x g).own,(h.all x g).nm.imp id fun v=>v.mono i⟩⟩
theorem Tk.kid{n k}(h:Tk es n)(g:k∈n.sD):Tk es k:=fun x i=>h x (Xo g i)
theorem OwnT.kid{n k}(h:OwnT n)(g:k∈n.sD):OwnT k:=fun x i=>h x (Xo g i)
theorem Uf{ks x}(h:x∈zg ks):∃ k,k∈ks/\x∈preN k:=by
 induction ks with
 |nil=>simp[zg]at h
 |cons a l g =>
  simp only[zg,qL]at h;rcases h with h|h
  .exact ⟨a,qX ..,h⟩
  .obtain ⟨k,i,j⟩:=g h
   exact⟨k,qP _ i,j⟩
theorem qlI{nm n}(h:uP nm n):∃ x,x∈preN n/\x.name=nm:=by
 unfold uP at h;rw[Jt _ (szN n) n (qh _),List.any_eq_true]at h
 grind
theorem XG{ts es}:∀{f k},(∃ j:Nat,1<=j/\j<=f/\yf ts es (vN (k+j))=true)->yf ts es (vN (zh ts es f k))=true
 | 0,k,⟨j,i,l,_⟩=>zOm
 |f+1,k,⟨j,i,l,g⟩=>by
  simp only[zh];split
  .rename_i h;exact h
  .rename_i o
   have p:j≠1:=fun e=>by subst e;exact o g
   exact XG (ts:=ts) (es:=es) (f:=f) (k:=k+1) ⟨j-1,zOm,zOm,by rw[show k+1+((j-1:Nat):Int)=k+j by omega];exact g⟩
theorem m8:∀ m u,u<10 ^ (m+1)->(Lib.decDigits u).length<=m+1
 | 0,u,h=>by
  grind [Lib.decDigits]
 |m+1,u,h=>by
  rw[Lib.decDigits];split
  .simp
  .rw [qZ]
   have:=m8 m (u / 10) (by rw[Nat.pow_succ]at h;omega);simp only[yh,List.length_nil];omega
theorem m9:∀ m u,u<=m->∀ x,x∈Lib.decDigits u->48<=x.toNat/\x.toNat<=57
 |m,u,i,x,g=>by
  rw[Lib.decDigits]at g;split at g
  .rename_i h
   rw[qO]at g;subst g;rw[UInt8.toNat_ofNat_of_lt' (by simp[UInt8.size];omega)];omega
  .rename_i h
   rcases qL.1 g with g|g
   .match m with
    | 0=>omega
    |m+1=>exact m9 m (u / 10) zOm x g
   .rw [qO]at g
    subst g;rw[UInt8.toNat_ofNat_of_lt' (by simp[UInt8.size];omega)];omega
theorem qlJ(u):Lib.decDigits u≠[]:=by
 rw[Lib.decDigits];split<;>simp
theorem qlK(j:Nat):(vN (j:Int)).data.toList=118 :: Lib.decDigits j:=by
 simp_all[vN,yU,Lib.itoa,if_neg]
theorem qlL:∀ x,x∈kwL->∀ c,x.data.toList[1]?=some c->¬(48<=c.toNat/\c.toNat<=57):=by decide +kernel
theorem qlM{j:Nat}(h:j<1000000000000):zt (vN (j:Int))=true:=by
 have l:=qlK j;have J:=m8 11 j zOm;have p:=m9 j j (qh _);have t:=qlJ j;obtain⟨d,r,e⟩:=List.exists_cons_of_ne_nil t;have C:(vN (j:Int)).size=1+(Lib.decDigits j).length:=by
  have e:(vN (j:Int)).size=(vN (j:Int)).data.toList.length:=by rw[Array.length_toList];rfl
  rw[e,l,yh,Nat.add_comm]
 have o:kwB (vN (j:Int))=false:=by
  unfold kwB;rw[List.any_eq_false];intro x I g;have g:x=vN (j:Int):=zUs g;refine qlL x I d ?_ (p d (by rw[e];exact qX ..));rw[g,l,e];rfl
 unfold zt;simp only[qx,decide_eq_true_eq,o,Bool.not_false,and_true];refine⟨⟨zOm,zOm⟩,?_⟩;rw[qR];intro i _;rw[<-Array.getElem?_toList,l];cases i with
 |zero=>show chB 0 ((118:UInt8).toNat:Int)=true;decide
 |succ i =>
  rw[vG];cases g:(Lib.decDigits j)[i]? with
  |none=>rfl
  |some c =>
   have:=p c (qN g);simp[chB];right;right;omega
end
end PC
namespace PD
open P1 P2 Y1 Y2 Y9 YX YZ YA YB PA YC YG Q3 Q4 PB PC
section
variable {body:Bool}{c0:Ck}{env:IEnv}{L:Int}{es:List (tV×Bool)}{l l':List (Option Kd)}{s s':Scp}
structure ArgR (c0:Ck) (es:List (tV×Bool)) (L:Int) (s':Scp) (k:Kd) (a:Nd):Prop where
 ex:∃ k',exam c0 s' true a = .ok (some k')/\Sub k' k
 good:jW es L a
 kd:kd a.op=101
def RlV(c0:Ck)(es:List (tV×Bool))(L:Int)(s':Scp)(v:tV):Option Kd->Option IV->Prop
 |none,none=>True
 |none,some _=>False
 |some k,none=>∃ g,lookS v s'=some g/\Sub g k
 |some k,some ⟨some a,_,_⟩=>ArgR c0 es L s' k a
 |some k,some ⟨none,_,i⟩=>(∃ g,lookS i s'=some g/\Sub g k)/\vLe es L i
structure Rl (c0:Ck) (es:List (tV×Bool)) (L:Int) (body:Bool) (s s':Scp) (env:IEnv):Prop where
 mean:∀ v,v∈s'->means c0.ts v.1=[]
 rel:∀ v,tkn es v->RlV c0 es L s' v (lookS v s) (getK v env)
 arg:body=false->∀ v iv,getK v env=some iv->iv.arg=none
theorem RlV.mono{L' v g iv}(h:RlV c0 es L s' v g iv)(i:L<=L'):RlV c0 es L' s' v g iv:=by
 match g,iv with
 |none,none=>exact h
 |none,some _=>exact h
 |some k,none=>exact h
 |some k,some ⟨some a,_,_⟩ =>
  have h:ArgR c0 es L s' k a:=h;exact(⟨h.ex,h.good.mono i,h.kd⟩:ArgR c0 es L' s' k a)
 |some k,some ⟨none,_,j⟩=>exact⟨h.1,h.2.mono i⟩
theorem Rl.mono{L'}(h:Rl c0 es L body s s' env)(g:L<=L'):Rl c0 es L' body s s' env:=
 ⟨h.mean,fun v i=>(h.rel v i).mono g,h.arg⟩
theorem Ug{nm}:∀{s k},lookS nm s=some k->(nm,k)∈s
 | [],k,h=>by simp[qj4]at h
 |v :: s,k,h=>by
  rw[Qh]at h;split at h
  .rename_i e
   cases h;rw[<-e];exact qX ..
  .exact qP _ (Ug h)
theorem Rl.bind{st:ISt}{nm k k'}(a4:Free c0.ts es)(a0:(env.map Prod.fst).Nodup)(h:Rl c0 es st.last body s s' env)(h0:0<=st.last)(hb:st.last+(qk c0.ts es:Nat)<1000000000000)(ht:tkn es nm)(hs:Sub k' k) :
  Rl c0 es (renI c0.ts es env nm body st).2.last body ((nm,k) :: s) (((renI c0.ts es env nm body st).1.2,k') :: s') (renI c0.ts es env nm body st).1.1/\st.last<=(renI c0.ts es env nm body st).2.last/\(tkn es (renI c0.ts es env nm body st).1.2\/vLe es (renI c0.ts es env nm body st).2.last (renI c0.ts es env nm body st).1.2):=by
 have a1:∀ v,lookS v ((nm,k) :: s)=if nm=v then some k else lookS v s:=fun v=>Qh v _ _
 unfold renI;by_cases hc:body=true\/means c0.ts nm≠[]
 .rw [if_pos hc]
  have a2:=a4 st.last h0;have o:=XG a2;have a9:=Xp c0.ts es (qk c0.ts es) st.last;have a7:=Xq a2;generalize zh c0.ts es (qk c0.ts es) st.last=J at *
  obtain⟨j,rfl⟩:∃ j:Nat,J=j:=⟨J.toNat,zOm⟩;simp only[yf,qx,decide_eq_true_eq]at o;obtain⟨f1,f2⟩:=o;have hv:vLe es (j:Int) (vN j):=⟨j,jO _,rfl,f1,qlM zOm⟩;have T:∀ v,v≠vN (j:Int)->lookS v ((vN (j:Int),k') :: s')=lookS v s':=fun v hv=>by
   rw[Qh,if_neg (fun e=>hv e.symm)]
  have a5:∀{v:tV},vLe es st.last v->v≠vN (j:Int):=fun⟨i,hi,e,_⟩ t=>by
   grind [mP]
  have a3:∀ v,getK v (setK nm ⟨none,0,vN (j:Int)⟩ (delK nm env))=if v=nm then some ⟨none,0,vN (j:Int)⟩ else getK v env:=fun v=>by
   grind [jw,wT]
  refine⟨⟨fun v U=>?_,fun v I=>?_,fun p v iv g=>?_⟩,by grind,.inr hv⟩
  .rcases qs.1 U with rfl|U
   .exact f2
   .exact h.mean v U
  .show RlV c0 es (j:Int) ((vN (j:Int),k') :: s') v (lookS v ((nm,k) :: s)) (getK v (setK nm ⟨none,0,vN (j:Int)⟩ (delK nm env)))
   rw[a1,a3];by_cases C:nm=v
   .rw [if_pos C,if_pos C.symm]
    exact⟨⟨k',by rw[Qh,if_pos rfl],hs⟩,hv⟩
   .rw [if_neg C,if_neg (fun e=>C e.symm)]
    have l:=(h.rel v I).mono (L':=(j:Int)) zOm;have P:=h.rel v I;generalize lookS v s=lk at *
    generalize getK v env=iv at *
    match lk,iv with
    |none,none=>trivial
    |none,some _=>exact l
    |some q,none =>
     obtain⟨R,e1,t⟩:=l;exact⟨R,by grind,t⟩
    |some q,some ⟨some a,_,_⟩ =>
     have l:ArgR c0 es (j:Int) s' q a:=l;have P:ArgR c0 es st.last s' q a:=P;refine(⟨?_,l.good,l.kd⟩:ArgR c0 es (j:Int) ((vN (j:Int),k') :: s') q a);obtain⟨R,e1,t⟩:=l.ex;refine⟨R,?_,t⟩;rw[<-e1];refine mC (uQ.refl c0) (szN a) a _ _ true (qh _) fun x hx=>?_
     obtain⟨y,hy,rfl⟩:=qlI hx;rcases (P.good.all y hy).nm with h1|h1
     .grind
     grind
    |some q,some ⟨none,_,to⟩ =>
     obtain⟨⟨R,e1,t⟩,e3⟩:=l;exact⟨⟨R,by rw[T to (a5 P.2)];exact e1,t⟩,e3⟩
  .have g:getK v (setK nm ⟨none,0,vN (j:Int)⟩ (delK nm env))=some iv:=g
   rw[a3]at g;split at g
   .cases g;rfl
   .exact h.arg p v iv g
 .rw [if_neg hc]
  have p:body=false:=by
   grind
  have a6:means c0.ts nm=[]:=by
   grind
  have T:∀ v,v≠nm->lookS v ((nm,k') :: s')=lookS v s':=fun v hv=>by
   rw[Qh,if_neg (fun e=>hv e.symm)]
  refine⟨⟨fun v U=>?_,fun v I=>?_,fun p v iv g=>?_⟩,jO _,.inl ht⟩
  .rcases qs.1 U with rfl|U
   .exact a6
   .exact h.mean v U
  .show RlV c0 es st.last ((nm,k') :: s') v (lookS v ((nm,k) :: s)) (getK v (delK nm env))
   rw[a1,wT a0];by_cases C:nm=v
   .rw [if_pos C,if_pos C.symm]
    exact⟨k',by rw[Qh,if_pos C],hs⟩
   .rw [if_neg C,if_neg (fun e=>C e.symm)]
    have l:=h.rel v I;have a8:=h.arg p v;generalize lookS v s=lk at *
    generalize getK v env=iv at *
    match lk,iv with
    |none,none=>trivial
    |none,some _=>exact l
    |some q,none =>
     obtain⟨R,e1,t⟩:=l;exact⟨R,by grind,t⟩
    |some q,some ⟨some a,_,_⟩=>grind
    |some q,some ⟨none,_,to⟩ =>
     obtain⟨⟨R,e1,t⟩,e3⟩:=l;refine⟨⟨R,?_,t⟩,e3⟩;rw[T to fun e=>?_]
     .exact e1
     .obtain ⟨_,_,_,hn,_⟩:=e3
      grind
  .have g:getK v (delK nm env)=some iv:=g
   rw[wT a0]at g;split at g
   .cases g
   .exact h.arg p v iv g
structure Out (c0:Ck) (es:List (tV×Bool)) (s':Scp) (inn:Bool) (n n':Nd) (ko:Option Kd) (L L':Int):Prop where
 ex:∃ ko',exam c0 s' inn n' = .ok ko'/\(kd n.op=101->∃ k k',ko=some k/\ko'=some k'/\Sub k' k)
 good:jW es L' n'
 kd:kd n'.op=kd n.op
 le:L<=L'
def Pt(es:List (tV×Bool))(L:Int):List Nd->List Nd->List (Option Kd)->List (Option Kd)->Prop
 | [],[],[],[]=>True
 |k :: ks,i :: g,a :: l,o :: p=>((kd k.op=101->∃ q j,a=some q/\o=some j/\Sub j q)/\kd i.op=kd k.op/\jW es L i)/\Pt es L ks g l p
 |_,_,_,_=>False
theorem Pt.spec:∀{ks g l l'},Pt es L ks g l l'->(g.map fun k=>kd k.op)=(ks.map fun k=>kd k.op)/\∀ k,k∈g->jW es L k
 | [],[],[],[],_=>⟨rfl,fun k j=>absurd j qG⟩
 |k :: ks,k' :: g,a :: l,t :: l',h=>by
  obtain⟨⟨C,I,o⟩,p⟩:=h;obtain⟨J,P⟩:=Pt.spec p;refine⟨by grind,fun x i=>?_⟩;rcases qs.1 i with rfl|i
  .exact o
  grind
theorem Pt.cons{es L k ks j l l'}(h:Pt es L (k :: ks) j l l'):∃ k' g a l2 o i,j=k' :: g/\l=a :: l2/\l'=o :: i/\(kd k.op=101->∃ q p,a=some q/\o=some p/\Sub p q)/\Pt es L ks g l2 i:=by
 cases j with
 |nil=>cases l<;>cases l'<;>exact h.elim
 |cons k' g =>
  cases l with
  |nil=>cases l'<;>exact h.elim
  |cons a l2 =>
   cases l' with
   |nil=>exact h.elim
   |cons o i=>exact⟨k',g,a,l2,o,i,rfl,rfl,rfl,h.1.1,h.2⟩
theorem Pt.nil{g}(h:Pt es L [] g l l'):l=[]/\l'=[]:=by
 cases g with
 |nil =>
  cases l with
  |nil=>cases l' with
   |nil=>exact⟨rfl,rfl⟩
   |cons a l=>exact h.elim
  |cons a l=>cases l'<;>exact h.elim
 |cons k ks=>cases l<;>cases l'<;>exact h.elim
theorem Pt.one{ks i}(h:Pt es L ks i l l')(g:(ks.map fun k=>kd k.op)=[101]):∃ a j,l=[some a]/\l'=[some j]/\Sub j a:=by
 match ks,g with
 | [k],g =>
  obtain⟨C,o,a,I,j,p,rfl,rfl,rfl,J,t⟩:=h.cons;obtain⟨rfl,rfl⟩:=t.nil
  grind
 | [],g=>simp at g
 |_ :: _ :: _,g=>simp at g
theorem Pt.two{ks i}(h:Pt es L ks i l l')(g:(ks.map fun k=>kd k.op)=[101,101]):∃ a b o b',l=[some a,some b]/\l'=[some o,some b']/\Sub o a/\Sub b' b:=by
 match ks,g with
 | [k,j],g =>
  have g:kd k.op=101/\kd j.op=101:=zUs g;obtain⟨k',t,a,l2,o,C,rfl,rfl,rfl,I,J⟩:=h.cons;obtain⟨_,_,b,l3,b',P,rfl,rfl,rfl,R,T⟩:=J.cons;obtain⟨rfl,rfl⟩:=T.nil;obtain⟨q,U,rfl,rfl,e⟩:=I g.1;obtain⟨p,p',rfl,rfl,e2⟩:=R g.2;exact⟨q,p,U,p',rfl,rfl,e,e2⟩
 | [],g=>simp at g
 | [_],g=>simp at g
 |_ :: _ :: _ :: _,g=>simp at g
theorem qaA{c F inn E R} :
  ∀{ks i nm o st g j P l},
  (∀ k,k∈ks->∀ st n' z g J,StOk F st->Rl c0 es st.last body s s' env->E env k st = .ok ((n',z),g)->exam c s inn k = .ok J->Out c0 es s' inn k n' J st.last g.last/\StOk F g) ->
  StOk F st->Rl c0 es st.last body s s' env->yp E R false i env nm ks st = .ok ((o,j,P),g)->qK c s inn ks = .ok l ->
  o=nm/\st.last<=g.last/\∃ l',qK c0 s' inn j = .ok l'/\Pt es g.last ks j l l'
 | [],i,nm,o,st,g,j,P,l,_,p,T,e,el=>by
  cases e;simp only[qK,Except.ok.injEq]at el;subst el;exact⟨rfl,jO _,[],by simp only[qK],trivial⟩
 |k :: ks,i,nm,o,st,g,j,P,l,hE,p,T,e,el=>by
  simp only[yp,Bool.false_eq_true,false_and,if_false]at e;simp only[qK]at el;split at e
  .cases e
  .rename_i k' m1 s1 h1
   cases hx:exam c s inn k with
   |error er=>grind
   |ok J =>
    rw[hx]at el;simp only at el;obtain⟨t,C⟩:=hE k (qX ..) st k' m1 s1 J p T h1 hx;cases I:qK c s inn ks with
    |error er=>grind
    |ok l1 =>
     rw[I]at el;cases el;split at e
     .cases e
     .rename_i a0 a1 m2 s2 h2
      obtain⟨e1,e2,l',e3,e4⟩:=qaA (fun k hk=>hE k (qP _ hk)) C (T.mono t.le) h2 I;cases e;obtain⟨U,x1,x2⟩:=t.ex;refine⟨e1,zW1 t.le,U :: l',?_,⟨⟨x2,t.kd,t.good.mono e2⟩,e4⟩⟩;simp only[qK];rw[x1,e3]
theorem Z9{c op nm}(h:op≠47):zE c op nm=z7 op:=by
 simp[zE,h]
theorem cG{n nm ks}(I:WfN n)(g:(ks.map fun k=>kd k.op)=(n.sD.map fun k=>kd k.op))(J:∀ k,k∈ks->jW es L k)(h47:n.op≠47)(o:ownB n=true)
  (P:nm=n.name/\tkn es nm\/vLe es L nm/\zt n.name=true):jW es L (.mk n.op nm n.n ks n.pos):=by
 have l:ks.length=n.sD.length:=by have:=congrArg List.length g;grind
 have p:zt nm=zt n.name/\(nm=⟨#[]⟩↔n.name=⟨#[]⟩):=by
  rcases P with ⟨rfl,_⟩|⟨R,t⟩
  .exact ⟨rfl,Iff.rfl⟩
  .obtain ⟨j,_,_,_,C⟩:=R
   refine⟨C.trans t.symm,fun e=>?_,fun e=>?_⟩
   .rw [e]at C;exact absurd C zDe
   .rw [e]at t;exact absurd t zDe
 refine⟨.mk _ ?_ (fun h=>?_) fun k g=>(J k g).wf,fun x i=>?_⟩
 .show shp n.op ks.length=some (ks.map fun k=>kd k.op)
  rw[l,g];exact I.shape
 .exact I.num h
 .rw [uO]at i
  rcases qs.1 i with rfl|i
  .refine ⟨h47,?_,?_⟩
   .unfold ownB at o⊢
    show (if uL n.op=zt nm/\(uL n.op=true\/nm=⟨#[]⟩) then numB n.op n.n else false)=true;split at o
    .rename_i T
     rw[if_pos ⟨by grind,T.2.imp id p.2.2⟩];exact o
    .cases o
   .rcases P with ⟨_,h⟩|⟨h,_⟩
    .exact .inl h
    .exact .inr h
  .obtain ⟨k,g,i⟩:=Uf i
   exact(J k g).all x i
end
end PD
namespace PE
open P1 P2 Y1 Y2 Y3 Y9 Y10 Y14 YX YZ YA YB PA YC Q3 Q4 PB PC PD
section
variable {inn:Bool}{c c0:Ck}{es:List (tV×Bool)}{s s':Scp}
theorem Uh{n}(h:n.op=1):exam c s inn n=yk c s n.name n.pos:=by
 rw[yn,Z9 zOm,h,show z7 1=false from rfl,Bool.and_false,if_neg zSp,if_pos rfl]
theorem qlN{n k}(h:exam c s true n = .ok k):exam c s inn n = .ok k:=by
 cases inn with
 |true=>exact h
 |false=>exact mZ c (szN n) n s k (qh _) h
theorem XH{n}(g:WfN n)(h:n.op=1):n.sD=[]:=by
 have i:=g.shape;simp_all[shp,if_pos,qm,List.map_eq_nil_iff]
theorem qaB{L n}(i:WfN n)(h:n.op=1)(j:tkn es n.name)(l:ownB n=true):jW es L n:=
 ⟨i,fun x g=>by
  rw[uO,XH i h]at g;simp[zg]at g;subst g;exact⟨zOm,l,.inl j⟩⟩
theorem qaC{n}(g:ownB n=true)(h:uL n.op=true):zt n.name=true:=by
 grind [ownB]
theorem qlO{body env n n' z st j J}(P:c.ts=c0.ts)(i:n.op=1)(C:WfN n)(R:tkn es n.name)(I:ownB n=true)(T:Rl c0 es st.last body s s' env)
  (e:vg env n st = .ok ((n',z),j)) (x:exam c s inn n = .ok J):Out c0 es s' inn n n' J st.last j.last:=by
 rw[Uh i,Zm]at x;have g:=T.rel n.name R;unfold vg at e;cases U:getK n.name env with
 |none =>
  rw[U]at e g;cases e;cases l:lookS n.name s with
  |some k =>
   rw[l]at g x;obtain⟨o,p,t⟩:=g;cases x;exact⟨⟨some o,by rw[Uh i,Zm,p],fun _=>⟨_,_,rfl,rfl,t⟩⟩,qaB C i R I,rfl,jO _⟩
  |none =>
   rw[l]at x;simp only at x;have hq:lookS n.name s'=none:=by
    cases hq:lookS n.name s' with
    |none=>rfl
    |some q =>
     have:=T.mean _ (Ug hq);rw[P,this]at x;cases x
   refine⟨⟨J,by grind [Uh,Zm],fun _=>?_⟩,qaB C i R I,rfl,jO _⟩;split at x
   .cases x
   .cases x;exact⟨_,_,rfl,rfl,Sub.refl _⟩
   .cases x
 |some iv =>
  obtain⟨a,sz,to⟩:=iv;rw[U]at e g;simp only at e;cases l:lookS n.name s with
  |none=>rw[l]at g;exact g.elim
  |some k =>
   rw[l]at g x;cases x;cases a with
   |none =>
    cases e;obtain⟨⟨o,p,t⟩,e3⟩:=g;refine⟨⟨some o,by rw[Uh (n := .mk n.op to n.n n.sD n.pos) i,Zm];show (match lookS to s' with|some k=>_|none=>_)=_;rw[p],fun _=>⟨_,_,rfl,rfl,t⟩⟩,?_,rfl,jO _⟩;refine cG C rfl (fun k hk=>?_) zOm I (.inr ⟨e3,qaC I (by rw[i];rfl)⟩);rw[XH C i]at hk;exact absurd hk qG
   |some a =>
    simp only at e;have g:ArgR c0 es st.last s' k a:=g;obtain⟨o,p,t⟩:=g.ex;split at e
    .cases e
     exact⟨⟨some o,qlN p,fun _=>⟨_,_,rfl,rfl,t⟩⟩,g.good,by rw[g.kd,i];rfl,jO _⟩
    .cases e
def OwnV(c0:Ck)(es:List (tV×Bool))(L:Int)(s':Scp):Option Kd->Option IV->Prop
 |none,none=>True
 |some k,some ⟨some a,_,_⟩=>ArgR c0 es L s' k a
 |_,_=>False
theorem OwnV.mono{L L' g iv}(h:OwnV c0 es L s' g iv)(i:L<=L'):OwnV c0 es L' s' g iv:=by
 match g,iv with
 |none,none=>exact h
 |none,some _=>exact h.elim
 |some k,none=>exact h.elim
 |some k,some ⟨some a,_,_⟩ =>
  have h:ArgR c0 es L s' k a:=h;exact(⟨h.ex,h.good.mono i,h.kd⟩:ArgR c0 es L' s' k a)
 |some k,some ⟨none,_,j⟩=>exact h.elim
theorem qlP{ns i a}(h:okKd ns a)(g:a.ar=1)(p:vU i a=true):Sub a (kOf [i]):=⟨by rw[g];rfl,fun t j=>by
 obtain⟨l,rfl,o,_⟩:=h.ts t j;rw[g]at o
 match l,o with
 | [y],_ =>
  have:=qR.1 p _ j;simp[pad]at this;subst this;exact qO.2 rfl⟩
theorem qaD{ns F body env pos E R} :
  ∀{ks ps}{own i:IEnv}{sc st g},
  (∀ k,k∈ks->∀ st n' z g R,StOk F st->Rl c0 es st.last body s s' env->E k st = .ok ((n',z),g)->exam c s true k = .ok R->Out c0 es s' true k n' R st.last g.last/\StOk F g) ->
  (∀ k,k∈ks->kd k.op=101)->(∀ k,k∈ks->∀ a,exam c s true k = .ok (some a)->okKd ns a)->StOk F st->Rl c0 es st.last body s s' env ->
  (∀ v,OwnV c0 es st.last s' (lookS v sc) (getK v own))->ps.length=ks.length->zz c s pos ps ks = .ok R->yP E ps ks own st = .ok (i,g) ->
  st.last<=g.last/\∀ v,OwnV c0 es g.last s' (lookS v (ps.foldl (fun s p=>(p.1,kOf [p.2]) :: s) sc)) (getK v i)
 | [],[],own,i,sc,st,g,_,_,_,_,_,ho,_,_,e=>by
  cases e;exact⟨jO _,ho⟩
 |k :: ks,p :: ps,own,i,sc,st,g,hE,T,j,a0,hr,ho,l,x,e=>by
  simp only[zz]at x;simp only[yP]at e;cases hx:exam c s true k with
  |error er=>grind
  |ok ka =>
   cases ka with
   |none=>grind
   |some a =>
    rw[hx]at x;simp only at x;by_cases o:a.ar=1
    .rw [if_pos o]at x
     by_cases t:vU p.2 a=true
     .rw [if_pos t]at x
      split at e
      .cases e
      .rename_i k' m s1 h1
       obtain⟨out,C⟩:=hE k (qX ..) st k' m s1 _ a0 hr h1 hx;obtain⟨a1,x1,x2⟩:=out.ex;have I:=T k (qX ..);obtain⟨q,q',y1,y2,y3⟩:=x2 I;cases y1;subst y2;have hs:=y3.trans (qlP (j k (qX ..) a hx) o t);have J:ArgR c0 es s1.last s' (kOf [p.2]) k':=⟨⟨q',x1,hs⟩,out.good,by rw[out.kd];exact I⟩;have P:∀ v,OwnV c0 es s1.last s' (lookS v ((p.1,kOf [p.2]) :: sc)) (getK v (setK p.1 ⟨some k',m,⟨#[]⟩⟩ own)):=fun v=>by
        rw[Qh,jw];by_cases U:p.1=v
        .rw [if_pos U,if_pos U.symm]
         exact J
        .rw [if_neg U,if_neg (fun e=>U e.symm)]
         exact(ho v).mono out.le
       obtain⟨r1,r2⟩:=qaD (sc:=(p.1,kOf [p.2]) :: sc) (fun k T=>hE k (qP _ T)) (fun k h=>T k (qP _ h)) (fun k h=>j k (qP _ h)) C (hr.mono out.le) P (zUs l) x e;exact⟨zW1 out.le,r2⟩
     grind
    grind
 | [],_ :: _,_,_,_,_,_,_,_,_,_,_,_,l,_,_=>by simp at l
 |_ :: _,[],_,_,_,_,_,_,_,_,_,_,_,l,_,_=>by simp at l
def XI(ts:TS)(es:List (tV×Bool)):Prop:=∀(i:Nat)(j:i<ts.sT.length),(∃ g,exam (mkCk ts i) (zq ts.sT[i].params) false ts.sT[i].body = .ok g)/\30<=ts.sT[i].body.op/\WfN ts.sT[i].body/\Tk es ts.sT[i].body/\OwnT ts.sT[i].body
abbrev ckF(ts:TS):Ck:=mkCk ts ts.sT.length
def IHx(ts:TS)(es:List (tV×Bool))(f:Nat):Prop:=∀(env:IEnv)(n:Nd)(g:Bool)(U:ISt)(l:Nd)(z:Int)(i:ISt)(s o:Scp)(j:Bool)(m:Nat)(p:Option Kd),
 m<=ts.sT.length->WfN n->Tk es n->OwnT n->ScOk ts.sS.length s->StOk (qk ts es) U->ze env->Rl (ckF ts) es U.last g s o env ->
 expI ts es f env n g U = .ok ((l,z),i)->exam (mkCk ts m) s j n = .ok p->Out (ckF ts) es o j n l p U.last i.last
theorem XJ{n}(i:WfN n)(h:30<=n.op):kd n.op=102:=by
 have g:=i.shape;have:n.op<=51:=by
  by_cases j:n.op<=51
  .exact j
  .exfalso
   unfold shp at g;rw[zIn,zIn,zIn,zIn,zIn,zIn,zIn,zIn]at g;cases g
 unfold kd;omega
theorem XK{n}(i:WfN n)(h:n.op=47):∀ k,k∈n.sD->kd k.op=101:=by
 have g:=i.shape;have e:shp n.op n.sD.length=some (qI (min n.sD.length 401) 101):=by
  unfold shp;rw[zIn,zIn,zIn,zIn,zIn,zIn,zIn,if_pos h]
 rw[e]at g;simp only[qm]at g;intro k j;have:kd k.op∈n.sD.map fun k=>kd k.op:=qn.2 ⟨k,j,rfl⟩
 grind
theorem qlQ(ts)(h:okTS ts)(es)(hP:XI ts es)(a4:Free ts es)(f)(ih:IHx ts es f)(env n body st n' z g s s' inn m ko)
  (hm:m<=ts.sT.length) (hw:WfN n) (ht:Tk es n) (ho:OwnT n) (hs:ScOk ts.sS.length s) (o:StOk (qk ts es) st) (T:ze env) (hr:Rl (ckF ts) es st.last body s s' env) (h47:n.op=47)
  (e:((match ts.sT.find? fun p=>decide (p.name=n.name) with
    |none=>Except.error (2,0)
    |some p=>vj (yP (fun k s=>expI ts es f env k body s) p.params n.sD [] st) fun own s'=>expI ts es f own p.body true s'):XR (Nd×Int)) = .ok ((n',z),g))
  (x:exam (mkCk ts m) s inn n = .ok ko):Out (ckF ts) es s' inn n n' ko st.last g.last:=by
 have hc:okCk (mkCk ts m):=jS h hm;rw[yn,if_neg (show ¬n.op=1 by omega),if_pos h47]at x;split at x
 .cases x
 rename_i I;split at x
 .cases l:zd (mkCk ts m) n.name with
  |none=>grind
  |some i =>
   obtain⟨U,t⟩:=wZ hc l;have U:i<m:=U;have t:i<ts.sT.length:=t;rw[l]at x;simp only at x;have x:((match ts.sT[i]? with|none=>Except.error (45,n.pos)|some C=>if C.params.length=n.sD.length then zz (mkCk ts m) s n.pos C.params n.sD else .error (45,n.pos)):Res) = .ok ko:=x;rw[qC t]at x;simp only at x;have a0:(ts.sT.find? fun p=>decide (p.name=n.name))=some ts.sT[i]:=by
    unfold zd at l;rw[List.findIdx?_eq_some_iff_getElem]at l;obtain⟨hi,a1,a2⟩:=l;rw[List.find?_eq_some_iff_getElem];refine⟨?_,i,t,rfl,fun j hj=>?_⟩
    .have:=a1
     simp only[List.getElem_take]at this;exact this
    .have:=a2 j hj
     simp only[List.getElem_take]at this;have h3:¬decide (ts.sT[j].name=n.name)=true:=this
     grind
   rw[a0]at e;simp only at e;obtain⟨⟨kb,hb⟩,a5,a6,ae,af⟩:=hP i t;have ag:=h.pl _ (qq t);generalize ah:ts.sT[i]=C at *
   by_cases R:C.params.length=n.sD.length
   .rw [if_pos R]at x
    obtain⟨own,s1,h1,e⟩:=Z5 e;have a7:=XK hw h47;have a8:∀ k,k∈n.sD->∀ st n' z g,StOk (qk ts es) st->expI ts es f env k body st = .ok ((n',z),g)->StOk (qk ts es) g:=fun k J st n' z g o e=>(jl ts a4 f o T e).ok o
    obtain⟨g1,g2⟩:=qaD (c:=mkCk ts m) (c0:=ckF ts) (ns:=ts.sS.length) (F:=qk ts es) (body:=body) (s:=s) (s':=s') (env:=env) (sc:=[]) (own:=[])
     (fun k J st n' z g ko o hr e x=>⟨ih env k body st n' z g s s' true m ko hm (hw.kid J) (ht.kid J) (ho.kid J) hs o T hr e x,a8 k J st n' z g o e⟩)
     a7 (fun k J a hx=>by
      obtain⟨q,e1,e2⟩:=jc hc (szN k) k s true _ (qh _) (hw.kid J) hs hx (a7 k J);cases e1;exact e2)
     o hr (fun v=>trivial) R x h1
    obtain⟨a9,ai⟩:=Xr (F:=qk ts es) (fun k n' z s s' _ hs hE=>jl ts a4 f hs T hE) o .nil h1;have aa:=ai.ok o;have aj:Rl (ckF ts) es s1.last true (zq C.params) s' own:=⟨hr.mean,fun v hv=>by
     have:=g2 v;have:OwnV (ckF ts) es s1.last s' (lookS v (zq C.params)) (getK v own):=this;generalize lookS v (zq C.params)=lk at *
     generalize getK v own=iv at *
     match lk,iv with
     |none,none=>trivial
     |some k,some ⟨some a,_,_⟩=>exact this
     |none,some _=>exact this.elim
     |some k,none=>exact this.elim
     |some k,some ⟨none,_,_⟩=>exact this.elim,fun ak=>by cases ak⟩
    have ab:ScOk ts.sS.length (zq C.params):=Jk ⟨zOm,ag.2⟩;have al:exam (mkCk ts i) (zq C.params) inn C.body = .ok kb:=by
     cases ad:inn with
     |false=>exact hb
     |true =>
      rw[<-hb];refine m5 _ (szN C.body) C.body _ _ _ (qh _) ?_;rw[ad]at I;have a3:zE (mkCk ts m) n.op n.name=false:=by simpa using I
      unfold zE at a3;rw[l,h47]at a3;have:=Ue ts i m U hm t;rw[ah]at this;rw[<-this];have ao:(z7 47||(decide ((47:Int)=47)&&(tmsL ts m).getD i false))=false:=a3
      grind
    have out:=ih own C.body true s1 n' z g (zq C.params) s' inn i kb zOm a6 ae af ab aa a9 aj e al;obtain⟨an,x1,_⟩:=out.ex;refine⟨⟨an,x1,fun J=>?_⟩,out.good,?_,zW1 out.le⟩
    .rw [h47]at J;exact absurd J zDe
    .rw [out.kd,XJ a6 a5,h47];rfl
   grind
 .cases x
theorem qaE{n}(i:WfN n)(h:n.op=5\/n.op=11\/n.op=12\/n.op=13):(n.sD.map fun k=>kd k.op)=[101]:=by
 have g:=i.shape;unfold shp at g;rw[zIn,if_pos zOm]at g
 grind
theorem qlR{n}(i:WfN n)(h:n.op=6\/n.op=14\/n.op=7\/n.op=8\/n.op=32\/n.op=33\/n.op=9\/n.op=10):(n.sD.map fun k=>kd k.op)=[101,101]:=by
 have g:=i.shape;unfold shp at g;rw[zIn,zIn,if_pos zOm]at g
 grind
theorem Ui{n}(i:WfN n)(h:n.op=15\/n.op=45\/n.op=46):∃ a f,n.sD=[a,f]/\kd a.op=101:=by
 have g:=i.shape;unfold shp at g;rw[zIn,zIn,zIn,if_pos zOm]at g;simp only[qm]at g
 match j:n.sD,g with
 | [a,f],g =>
  grind
 | [],g=>simp at g
 | [_],g=>simp at g
 |_ :: _ :: _ :: _,g=>simp at g
theorem qlS(ts)(h:okTS ts)(es)(a2:Free ts es)(f)(ih:IHx ts es f)(env n body st R t z o s s' inn m ko)
  (hm:m<=ts.sT.length) (J:WfN n) (ht:Tk es n) (ho:OwnT n) (hs:ScOk ts.sS.length s) (j:StOk (qk ts es) st) (T:ze env) (hr:Rl (ckF ts) es st.last body s s' env) (h47:n.op≠47) (h1:n.op≠1) (hb:¬(n.op=15\/n.op=45\/n.op=46))
  (e:yp (fun env k s=>expI ts es f env k body s) (fun env nm s=>renI ts es env nm body s) (binB n.op) 0 env n.name n.sD st = .ok ((R,t,z),o))
  (x:exam (mkCk ts m) s inn n = .ok ko):Out (ckF ts) es s' inn n (.mk n.op R n.n t n.pos) ko st.last o.last:=by
 have hc:okCk (mkCk ts m):=jS h hm;have a3:binB n.op=false:=by
  simp_all[binB,not_or]
 rw[a3]at e;rw[yn,Z9 h47,if_neg h1,if_neg h47,if_neg hb]at x;split at x
 .cases x
 rename_i a4;have p:=x;clear x;generalize hB:(inn||decide (n.op=12)||decide (n.op=13))=B at p;cases hl:qK (mkCk ts m) s B n.sD with
 |error er=>grind
 |ok l =>
  rw[hl]at p;simp only at p;obtain⟨rfl,a5,l',a7,C⟩:=qaA (c:=mkCk ts m) (c0:=ckF ts) (F:=qk ts es) (body:=body) (s:=s) (s':=s') (env:=env)
   (fun k hk st n' z o ko j hr e x=>⟨ih env k body st n' z o s s' B m ko hm (J.kid hk) (ht.kid hk) (ho.kid hk) hs j T hr e x,(jl ts a2 f j T e).ok j⟩) j hr e hl
  obtain⟨U,I⟩:=C.spec;have a0:=Zj hl;obtain⟨a6,y1,y2⟩:=qlE (ns:=ts.sS.length) h.ns (op:=n.op) (num:=n.n) (pos:=n.pos) (l:=l) (l':=l') h1 (fun e=>hb (.inl e)) (fun g=>by
    obtain⟨a,a',rfl,rfl,e3⟩:=C.one (qaE J g);refine⟨a,a',rfl,rfl,e3,?_⟩;have i:=qaE J g
    match a1:n.sD,i with
    | [k],i =>
     rw[a1]at a0;have hx:=a0.2 0 k (some a) rfl rfl;obtain⟨q,e1,e2⟩:=jc hc (szN k) k s B _ (qh _) (J.kid (by rw[a1];simp)) hs hx (zUs i);cases e1;exact e2
    | [],i=>simp at i
    |_ :: _ :: _,i=>simp at i)
   (fun g=>C.two (qlR J g)) p
  refine⟨⟨a6,?_,y2⟩,cG J U I h47 (ho n (vD n)) (.inl ⟨rfl,ht n (vD n)⟩),rfl,a5⟩;rw[yn];show (if (inn&&zE (ckF ts) n.op n.name)=true then _ else if n.op=1 then _ else if n.op=47 then _ else if n.op=15\/n.op=45\/n.op=46 then _ else match qK (ckF ts) s' (inn||decide (n.op=12)||decide (n.op=13)) t with | .error e=>_ | .ok l=>zn ts.sS.length n.op n.n n.pos l)=_;simp_all[Z9,if_neg]
theorem qlT(ts)(h:okTS ts)(es)(hF:qk ts es<=200000)(o:Free ts es)(f)(ih:IHx ts es f)(env n body st l a1 z P s s' inn m ko)
  (hm:m<=ts.sT.length) (hw:WfN n) (ht:Tk es n) (ho:OwnT n) (hs:ScOk ts.sS.length s) (R:StOk (qk ts es) st) (ah:(qk ts es:Nat)<=pot (qk ts es) st) (t:ze env) (hr:Rl (ckF ts) es st.last body s s' env) (hb:n.op=15\/n.op=45\/n.op=46)
  (e:yp (fun env k s=>expI ts es f env k body s) (fun env nm s=>renI ts es env nm body s) (binB n.op) 0 env n.name n.sD st = .ok ((l,a1,z),P))
  (x:exam (mkCk ts m) s inn n = .ok ko):Out (ckF ts) es s' inn n (.mk n.op l n.n a1 n.pos) ko st.last P.last:=by
 have hc:okCk (mkCk ts m):=jS h hm;have a8:binB n.op=true:=by
  grind [binB]
 have h47:n.op≠47:=zOm;have h1:n.op≠1:=zOm;rw[a8]at e;rw[yn,Z9 h47,if_neg h1,if_neg h47,if_pos hb]at x;split at x
 .cases x
 rename_i T;obtain⟨a,g,C,a2⟩:=Ui hw hb;have ma:a∈n.sD:=by rw[C];simp
 have mg:g∈n.sD:=by rw[C];simp
 rw[C]at e x;generalize hB:(inn||decide (n.op=15))=B at x;simp only[zH,qK]at x;simp only[yp,yJ,true_and,Nat.zero_ne_one,if_false,if_true]at e;cases U:exam (mkCk ts m) s B a with
 |error er=>grind
 |ok ka =>
  cases ka with
  |none=>grind
  |some k =>
   rw[U]at x;simp only at x;by_cases a0:k.ar=1
   .rw [if_pos a0]at x
    split at e
    .cases e
    .rename_i a' m1 s1 e1
     have out:=ih env a body st a' m1 s1 s s' B m _ hm (hw.kid ma) (ht.kid ma) (ho.kid ma) hs R t hr e1 U;have a3:=jl ts o f R t e1;have i:=a3.ok R;obtain⟨aj,x1,x2⟩:=out.ex;obtain⟨q,k',y1,y2,y3⟩:=x2 a2;cases y1;subst y2;obtain⟨q,y4,a9⟩:=jc hc (szN a) a s B _ (qh _) (hw.kid ma) hs U a2;cases y4;have I:=Jq o (env:=env) (nm:=n.name) (body:=body) i.l0;have a4:=Jp (ts:=ts) (es:=es) (nm:=n.name) (body:=body) (s:=s1) t;have aa:=i.last;obtain⟨w1,w2,J⟩:=Rl.bind (c0:=ckF ts) (st:=s1) (nm:=n.name) (k:=k) (k':=k') o t.nd (hr.mono out.le) i.l0 (by show s1.last+(qk ts es:Nat)<_;omega) (ht n (vD n)) y3;have w1:Rl (ckF ts) es (renI ts es env n.name body s1).2.last body ((n.name,k) :: s) (((renI ts es env n.name body s1).1.2,k') :: s') (renI ts es env n.name body s1).1.1:=w1;have w2:s1.last<=(renI ts es env n.name body s1).2.last:=w2;have J:tkn es (renI ts es env n.name body s1).1.2\/vLe es (renI ts es env n.name body s1).2.last (renI ts es env n.name body s1).1.2:=J;have w4:(renI ts es env n.name body s1).1.2=n.name\/vLe es (renI ts es env n.name body s1).2.last (renI ts es env n.name body s1).1.2:=by
      rcases J with J|J
      .left
       unfold renI at J⊢;split
       .rename_i ab
        rw[if_pos ab]at J;exfalso;have ad:=o s1.last i.l0;have ae:=XG ad;simp_all[yf,qx,decide_eq_true_eq]
       .rfl
      grind
     generalize ai:renI ts es env n.name body s1=af at *
     obtain⟨⟨a5,ak⟩,s2⟩:=af;simp only at I a4 w1 w2 J w4 e;have a6:StOk (qk ts es) s2:=⟨I.1,by rw[I.2.2];exact i.c0,by rw[I.2.2];exact i.c1,by
      have:=a3.p
      grind [pot]⟩
     split at e
     .cases e
     .rename_i al an m3 s3 e3
      split at e3
      .cases e3
      .rename_i g' m2 s4 e2
       cases e3;cases e;cases a7:exam (mkCk ts m) ((n.name,k) :: s) B g with
       |error er=>grind
       |ok kg =>
        rw[a7]at x;cases x;have ag:ScOk ts.sS.length ((n.name,k) :: s):=fun v hv=>by
         rcases qs.1 hv with rfl|hv
         .exact ⟨a9,a0⟩
         .exact hs v hv
        have j:=ih a5 g body s2 g' m2 P ((n.name,k) :: s) ((l,k') :: s') B m _ hm (hw.kid mg) (ht.kid mg) (ho.kid mg) ag a6 a4 w1 e2 a7;obtain⟨ao,z1,_⟩:=j.ex;refine⟨⟨some k',?_,fun _=>⟨k,k',rfl,rfl,y3⟩⟩,?_,rfl,zW2 out.le j.le⟩
        .rw [yn]
         show (if (inn&&zE (ckF ts) n.op l)=true then _ else if n.op=1 then _ else if n.op=47 then _ else if n.op=15\/n.op=45\/n.op=46 then zH (ckF ts) s' (inn||decide (n.op=15)) l n.pos [a',g'] else _)=_;rw[Z9 h47,if_neg T,if_neg h1,if_neg h47,if_pos hb,hB];simp only[zH,qK];rw[x1];simp only;rw[if_pos (by rw[y3.1];exact a0),z1]
        .refine cG hw (by rw[C];simp[out.kd,j.kd]) (fun y hy=>?_) h47 (ho n (vD n)) ?_
         .rcases qs.1 hy with rfl|hy
          .exact out.good.mono (zW1 j.le)
          .rw [qO]at hy;subst hy;exact j.good
         .rcases w4 with w4|w4
          .exact .inl ⟨w4,by rw[w4];exact ht n (vD n)⟩
          .exact .inr ⟨w4.mono j.le,qaC (ho n (vD n)) (by unfold uL;rcases hb with h|h|h<;>simp[h])⟩
   grind
theorem qaF(ts)(h:okTS ts)(es)(hP:XI ts es)(P:qk ts es<=200000)(i:Free ts es):∀ f,IHx ts es f
 | 0=>fun env n body st n' z j s s' inn m R _ _ _ _ _ _ _ _ e _=>by cases e
 |f+1=>fun env n body st n' z j s s' inn m R hm T U ho hs g t hr e x=>by
  have ih:=qaF ts h es hP P i f;simp only[expI]at e;split at e
  .rename_i hc
   have hp:=wG g (n:=1) zOm hc;have l:=hp.ok g;have o:Rl (ckF ts) es (payS 1 st).last body s s' env:=hr;have C:st.last=(payS 1 st).last:=rfl;rw[C];split at e
   .rename_i h1
    exact qlO (c:=mkCk ts m) (c0:=ckF ts) rfl h1 T (U n (vD n)) (ho n (vD n)) o e x
   .rename_i h1
    split at e
    .grind [qlQ,payS]
    .rename_i h47
     obtain⟨⟨I,J,z'⟩,s1,e1,e2⟩:=Z5 e;cases e2;by_cases hb:n.op=15\/n.op=45\/n.op=46
     .refine qlT ts h es P i f ih env n body (payS 1 st) I J z' j s s' inn m R hm T U ho hs l ?_ t o hb e1 x
      rw[Zn];have:=g.p;omega
     grind [qlS,payS]
  .cases e
end
end PE
namespace PG
open Y1 Y2 P1 P2 Y9 YZ
theorem qlU{ns op n pos l e}(h:zn ns op n pos l = .error e):40<=e.1:=by
 unfold zn at h
 repeat' split at h
 all_goals first
  | (cases h;done)
  | (cases h;simp)
theorem qlV{c s nm pos e}(h:yk c s nm pos = .error e):40<=e.1:=by
 unfold yk at h
 repeat' split at h
 all_goals first
  | (cases h;done)
  | (cases h;simp)
section
variable {c:Ck}
theorem ZX{inn}:∀{ks s e},(∀ k,k∈ks->∀ s e,exam c s inn k = .error e->40<=e.1)->qK c s inn ks = .error e->40<=e.1
 | [],s,e,_,h=>by simp only[qK]at h;cases h
 |k :: ks,s,e,i,h=>by
  simp only[qK]at h;split at h
  .rename_i j g
   cases h;exact i k (qX ..) s _ g
  .split at h
   .rename_i j g
    cases h;exact ZX (fun k l=>i k (qP _ l)) g
   .cases h
theorem VT{pos}:∀{ks ps s e},(∀ k,k∈ks->∀ s e,exam c s true k = .error e->40<=e.1)->zz c s pos ps ks = .error e->40<=e.1
 | [],ps,s,e,_,h=>by cases ps<;>(simp only[zz]at h;cases h)
 |k :: ks,[],s,e,_,h=>by simp only[zz]at h;cases h
 |k :: ks,p :: ps,s,e,g,h=>by
  simp only[zz]at h;split at h
  .rename_i l i
   cases h;exact g k (qX ..) s _ i
  .cases h;simp
  .split at h
   .split at h
    .exact VT (fun k j=>g k (qP _ j)) h
    .cases h;simp
   .cases h;simp
theorem qlW{inn nm pos}:∀{ks s e},(∀ k,k∈ks->∀ s e,exam c s inn k = .error e->40<=e.1)->zH c s inn nm pos ks = .error e->40<=e.1
 | [],s,e,_,h=>by simp only[zH]at h;cases h
 |k :: ks,s,e,i,h=>by
  simp only[zH]at h;split at h
  .rename_i j g
   cases h;exact i k (qX ..) s _ g
  .cases h;simp
  .split at h
   .split at h
    .rename_i j g
     cases h;exact ZX (fun k l=>i k (qP _ l)) g
    .cases h
   .cases h;simp
theorem Qa(c):∀ m n s inn e,szN n<=m->exam c s inn n = .error e->40<=e.1
 | 0,n,_,_,_,j,_=>by obtain⟨op,nm,i,ks,p⟩:=n;simp[szN]at j
 |m+1,n,s,inn,e,j,h=>by
  have g:∀ inn k,k∈n.sD->∀ s e,exam c s inn k = .error e->40<=e.1:=fun inn k l s e h=>Qa c m k s inn e (zW1 (q9 l)) h
  rw[yn]at h;split at h
  .cases h;simp
  split at h
  .exact qlV h
  split at h
  .split at h
   .split at h
    .cases h;simp
    .split at h
     .cases h;simp
     .split at h
      .exact VT (g true) h
      .cases h;simp
   .cases h;simp
  split at h
  .exact qlW (g _) h
  .split at h
   .rename_i t o
    cases h;exact ZX (g _) o
   .exact qlU h
end
theorem qaG{ks k}(h:k∈ks):depN k<=zW ks:=by
 induction ks with
 |nil=>simp at h
 |cons a l g =>
  simp only[zW];rcases qs.1 h with rfl|h
  .omega
  .have:=g h;omega
theorem qaH(n):1<=depN n:=by
 rw[Qf];have:∀ ks:List Nd,0<=zW ks:=by
  intro ks;induction ks with
  |nil=>simp[zW]
  |cons a l g=>simp only[zW];omega
 have:=this n.sD;omega
end PG
namespace PF
open P1 P2 Y1 Y2 Y9 Y16 YZ YB YC YE YG Q2 Q4 Q6 PC PE PG
mutual
theorem XL:∀(n:Nd)(left:Int),cntT n<=left->cntN n left=cntT n
 | .mk op nm i ks p,left,h=>by
  simp only[cntT,cntN]at h⊢;exact qaI ks left 1 h
theorem qaI:∀(ks:List Nd)(left sum:Int),sum+yy ks<=left->ya ks left sum=sum+yy ks
 | [],left,sum,h=>by simp only[yy,ya];omega
 |k :: ks,left,sum,h=>by
  simp only[yy,ya]at h⊢;have g:=V7 k;have i:=V8 ks;rw[if_pos zOm,XL k (left-sum) zOm,qaI ks left _ zOm];omega
end
mutual
theorem qaJ:∀(n:Nd)(left:Int),cntN n left<=left->cntT n<=left
 | .mk op nm i ks p,left,h=>by
  simp only[cntT,cntN]at h⊢;exact qaK ks left 1 h
theorem qaK:∀(ks:List Nd)(left sum:Int),ya ks left sum<=left->sum+yy ks<=left
 | [],left,sum,h=>by simp only[yy,ya]at h⊢;omega
 |k :: ks,left,sum,h=>by
  simp only[yy,ya]at h⊢;split at h
  .have i:=(W9 ks left (sum+cntN k (left-sum))).1
   have g:cntN k (left-sum)<=left-sum:=zOm;have j:=XL k (left-sum) (qaJ k _ g);have l:=qaK ks left _ h;omega
  .omega
end
section
variable {c:Ck}
theorem qlX{ks d}(g:0<=d)(h:∀ k,k∈ks->depN k<=d):zW ks<=d:=by
 induction ks with
 |nil=>grind [zW]
 |cons a l i =>
  grind [zW,qX,qP]
theorem qlY{ks g}(h:∀ k,k∈ks->forN k g=true):vX ks g=true:=by
 induction ks with
 |nil=>rfl
 |cons a l i =>
  simp_all[vX,qx,qX,qP]
theorem qaL:∀ m n g,szN n<=m->WfN n->OwnT n->depN n<=g->forN n g=true
 | 0,n,_,l,_,_,_=>by obtain⟨op,nm,i,ks,p⟩:=n;simp[szN]at l
 |m+1,n,g,l,o,t,C=>by
  have I:=qaH n;rw[VW,zIn,t n (vD n),Bool.true_and,qx];refine⟨?_,qlY fun k j=>qaL m k (g-1) (zW1 (q9 j)) (o.kid j) (t.kid j) ?_⟩
  .unfold fitB
   rw[decide_eq_true_eq];exact o.shape
  .have:=qaG j
   rw[Qf]at C;omega
theorem qaM:∀ m n l,szN n<=m->forN n l=true->OwnT n/\depN n<=l
 | 0,n,_,o,_=>by obtain⟨op,nm,i,ks,p⟩:=n;simp[szN]at o
 |m+1,n,l,o,h=>by
  rw[VW]at h;split at h
  .cases h
  .rename_i J
   simp only[qx]at h;obtain⟨C,P,I⟩:=h;have t:=fun k (g:k∈n.sD)=>qaM m k (l-1) (zW1 (q9 g)) (nD I k g)
   refine⟨fun x j=>?_,?_⟩
   .rw [uO]at j
    rcases qs.1 j with rfl|j
    .exact C
    .obtain ⟨k,g,j⟩:=Uf j
     exact(t k g).1 x j
   .rw [Qf]
    have:=qlX (ks:=n.sD) (d:=l-1) zOm fun k g=>(t k g).2
    omega
theorem ue{n}:qV n=true↔WfN n/\OwnT n/\cntT n<=400/\depN n<=24:=by
 constructor
 .intro h
  have l:=jd h;simp only[qV,qx,decide_eq_true_eq]at h;obtain⟨a,b⟩:=qaM (szN n) n 24 (qh _) h.2;simp_all[qaJ]
 .rintro ⟨g,i,o,j⟩
  simp only[qV,qx,decide_eq_true_eq];exact⟨by grind [XL],qaL (szN n) n 24 (qh _) g i j⟩
theorem qaN{nm i}(h:zd c nm=some i)(g):(c.ts.sT.find? fun p=>decide (p.name=nm))=some c.ts.sT[i]:=by
 unfold zd at h;rw[List.findIdx?_eq_some_iff_getElem]at h;obtain⟨l,o,t⟩:=h;rw[List.find?_eq_some_iff_getElem];refine⟨?_,i,g,rfl,fun j C=>?_⟩
 .grind
 grind
theorem qaO{s pos}:∀{ks ps l},ps.length=ks.length->zz c s pos ps ks = .ok l->∀ k,k∈ks->∃ a,exam c s true k = .ok a
 | [],_,_,_,_,k,g=>absurd g qG
 |k :: ks,[],_,i,_,_,_=>by simp at i
 |k :: ks,p :: ps,l,i,h,x,j=>by
  simp only[zz]at h;split at h
  .cases h
  .cases h
  .rename_i a g
   split at h
   .split at h
    .rcases qs.1 j with rfl|j
     .exact ⟨_,g⟩
     .exact qaO (zUs i) h x j
    .cases h
   .cases h
theorem Uj{s inn}:∀{ks l},qK c s inn ks = .ok l->∀ k,k∈ks->∃ a,exam c s inn k = .ok a
 | [],_,_,k,g=>absurd g qG
 |k :: ks,l,h,x,i=>by
  simp only[qK]at h;split at h
  .cases h
  .rename_i a g
   split at h
   .cases h
   .rename_i o j
    rcases qs.1 i with rfl|i
    .exact ⟨_,g⟩
    .exact Uj j x i
theorem XM(hc:okCk c):∀ m n s inn o,szN n<=m->exam c s inn n = .ok o->WfN n->yq c.ts n
 | 0,n,_,_,_,hm,_,_=>by obtain⟨op,nm,i,ks,p⟩:=n;simp[szN]at hm
 |m+1,n,s,inn,o,hm,h,hw=>fun x j ho=>by
  have ih:∀ k,k∈n.sD->∀ s inn o,exam c s inn k = .ok o->yq c.ts k:=fun k C s inn o h=>XM hc m k s inn o (zW1 (q9 C)) h (hw.kid C)
  rw[yn]at h;rw[uO]at j;split at h
  .cases h
  by_cases h1:n.op=1
  .rw [XH hw h1]at j
   rcases qs.1 j with rfl|j
   .omega
   .simp [zg]at j
  rw[if_neg h1]at h;have I:∀(s:Nd->Scp)(inn:Nd->Bool),(∀ k,k∈n.sD->∃ o,exam c (s k) (inn k) k = .ok o)->x∈zg n.sD->∃ p,(c.ts.sT.find? fun p=>decide (p.name=x.name))=some p/\p.params.length=x.sD.length:=fun s inn C j=>by
   obtain⟨k,J,j⟩:=Uf j;obtain⟨o,a0⟩:=C k J;exact ih k J _ _ _ a0 x j ho
  by_cases h47:n.op=47
  .rw [if_pos h47]at h
   split at h
   .split at h
    .cases h
    .rename_i i P
     obtain⟨_,a1⟩:=wZ hc P;rw[qC a1]at h;simp only at h;split at h
     .rename_i R
      rcases qs.1 j with rfl|j
      .grind [qaN]
      .exact I (fun _=>s) (fun _=>true) (qaO R h) j
     .cases h
   .cases h
  rw[if_neg h47]at h;have j:x∈zg n.sD:=by
   rcases qs.1 j with rfl|j
   .omega
   .exact j
  by_cases T:n.op=15\/n.op=45\/n.op=46
  .rw [if_pos T]at h
   obtain⟨a,g,t,_⟩:=Ui hw T;rw[t]at h;simp only[zH]at h;split at h
   .cases h
   .cases h
   .rename_i k C
    split at h
    .split at h
     .cases h
     .rename_i l hl
      obtain⟨y,U,j⟩:=Uf j;rw[t]at U;rcases qs.1 U with rfl|U
      .exact ih y (by rw[t];simp) _ _ _ C x j ho
      .rw [qO]at U
       subst U;obtain⟨b,T⟩:=Uj hl y zSp;exact ih y (by rw[t];simp) _ _ _ T x j ho
    .cases h
  .rw [if_neg T]at h
   split at h
   .cases h
   .rename_i l hl
    exact I (fun _=>s) (fun _=>_) (fun k C=>Uj hl k C) j
theorem Jv{env n}(h:(ja c env n).1=0):30<=n.op/\∃ g,exam c (zq env) false n = .ok g:=by
 unfold ja at h;split at h
 .rename_i i
  refine⟨i,?_⟩;cases j:exam c (zq env) false n with
  |ok g=>exact⟨g,rfl⟩
  |error e =>
   rw[j]at h;have:=PG.Qa c (szN n) n _ _ e (qh _) j;have h:e.1=0:=h;omega
 omega
theorem qaP{ts}(h:yG ts=[])(i g):(ja (mkCk ts i) ts.sT[i].params ts.sT[i].body).1=0:=by
 simp_all[yG,List.append_eq_nil_iff,List.flatMap_eq_nil_iff,zO,vf,qC,rp]
theorem XN(l):∀ es nm,(getK nm es=some true\/∃ x,x∈l/\x.name=nm)->getK nm (putN es l)=some true:=by
 induction l with
 |nil =>
  intro es nm h;rcases h with h|⟨x,g,_⟩
  .exact h
  .exact absurd g qG
 |cons a l i =>
  intro es nm h;refine i _ nm ?_;rw[jw];by_cases e:nm=a.name
  .rw [if_pos e];exact .inl rfl
  .rw [if_neg e]
   rcases h with h|⟨x,g,j⟩
   .exact .inl h
   .rcases qs.1 g with rfl|g
    .grind
    grind
theorem qlZ(ts n):Tk (yz ts n) n/\∀ p,p∈ts.sT->Tk (yz ts n) p.body:=by
 have j:∀(l:List Pd)(C:List (tV×Bool))(nm:tV),(getK nm C=some true\/∃ p,p∈l/\∃ x,x∈preN p.body/\x.name=nm)->getK nm (l.foldl (fun C p=>putN C (preN p.body)) C)=some true:=by
  intro l;induction l with
  |nil =>
   simp
  |cons a l o =>
   intro C nm h;refine o _ nm ?_;rcases h with h|⟨p,g,i⟩
   .grind [XN]
   .rcases qs.1 g with rfl|g
    .grind [XN]
    grind
 refine⟨fun x i=>j _ _ _ (.inl (XN _ _ _ (.inr ⟨x,i,rfl⟩))),fun p g x i=>j _ _ _ (.inr ⟨p,g,x,i,rfl⟩)⟩
theorem qaQ(l):∀ es,(putN es l).length<=es.length+l.length:=by
 have i:∀(es:List (tV×Bool))(k:tV),(setK k true es).length<=es.length+1:=by
  intro es k;induction es with
  |nil=>simp[setK]
  |cons a es g=>grind [setK]
 induction l with
 |nil=>grind [putN]
 |cons a l g =>
  grind [setK,putN,yh]
mutual
theorem Jw:∀ n:Nd,((preN n).length:Int)=cntT n
 | .mk op nm i ks p=>by simp only[preN,cntT,yh];have:=qaR ks;omega
theorem qaR:∀ ks:List Nd,((zg ks).length:Int)=yy ks
 | []=>rfl
 |k :: ks=>by simp only[zg,yy,qZ];have:=Jw k;have:=qaR ks;omega
end
end
theorem XP{ts}(h:okTS ts)(g:∀ p,p∈ts.sT->qV p.body=true){n}(i:qV n=true):qk ts (yz ts n)<=200000:=by
 have j:∀(l:List Pd)(C:List (tV×Bool)),(∀ p,p∈l->qV p.body=true)->(l.foldl (fun C p=>putN C (preN p.body)) C).length<=C.length+400*l.length:=by
  intro l;induction l with
  |nil=>intro C _;simp
  |cons a l o =>
   grind [putN,preN,qP,qaQ,Jw,ue,qX]
 have t:=j ts.sT (putN [] (preN n)) g;have I:=qaQ (preN n) [];have J:=Jw n;have P:=(ue.1 i).2.2.1;have:=h.np;have:=h.nf;have:=h.ns
 grind [qk,yz,List.length_nil]
theorem qaS{ts}(h:okTS ts)(hb:∀ p,p∈ts.sT->qV p.body=true)(hk:yG ts=[]){n x}(T:qV n=true)(hc:(ym ts [] n).1=0)(o:anyN (fun n=>decide (n.op=47)) n=true)(l:za ts n=(x,0)) :
  qV x=true/\anyN (fun n=>decide (n.op=47)) x=false/\ym ts [] x=(0,0)/\za ts x=(x,0):=by
 have U:=jd T;have a0:=(ue.1 T).2.1;have hF:=XP h hb T;obtain⟨t1,t2⟩:=qlZ ts n;generalize a1:yz ts n=C at *
 have hP:XI ts C:=fun i l=>by
  have hm:=qq l;obtain⟨a,b⟩:=Jv (qaP hk i l)
  grind [jd,ue]
 unfold za at l;rw[if_neg (zUs hc),if_neg (by simp[o]),a1]at l;unfold outI at l;split at l
 .rename_i d hd
  exfalso;have h1:=mO hd
  grind
 .rename_i j g
  have e:j=x:=congrArg Prod.fst l;subst e;split at g
  .cases g
  .rename_i n2 z a2 P
   split at g
   .rename_i hz
    cases g;obtain⟨a3,ko,I⟩:=Jv (c:=mkCk ts ts.sT.length) (env:=[]) hc;have a4:StOk (qk ts C) ⟨0,0⟩:=⟨zSp,zSp,zSp,by simp[pot]⟩;have out:=qaF ts h C hP hF (Xw ts C) 4001 [] n false ⟨0,0⟩ j z a2 [] [] false ts.sT.length ko (qh _) U t1 a0 (fun v R=>absurd R qG) a4 .nil
     ⟨fun v R=>absurd R qG,fun v _=>trivial,fun _ v iv e=>by cases e⟩ P I
    obtain⟨a7,a8⟩:=Z6 ts (fun p hp=>jd (hb p hp)) C 4001 (env:=[]) (fun e P=>absurd P qG) U P;have R:qV j=true:=ue.2 ⟨out.good.wf,fun x I=>(out.good.all x I).own,zOm,hz.2⟩;have a9:anyN (fun n=>decide (n.op=47)) j=false:=by
     rw[Jt _ (szN j) j (qh _),List.any_eq_false];intro x I;have:=(out.good.all x I).nc
     grind
    have a6:kd j.op=102:=by rw[out.kd];exact XJ U a3
    have J:30<=j.op:=by
     grind [kd]
    obtain⟨a5,t,_⟩:=out.ex;have aa:ym ts [] j=(0,0):=by
     unfold ym ja;rw[if_pos J];have t:exam (mkCk ts ts.sT.length) (zq []) false j = .ok a5:=t;rw[t];rfl
    simp_all[za,if_neg,if_pos]
   .cases g
end PF
namespace QC
end QC
namespace QD
open YF P1 Y1 Y2
section
variable {x:tV×Bool}{c:List AV}{i:Nat}
def atF(a:Int):List Int->Int
 | []=>a
 |x :: l=>atF (qj.wrap (qj.wrap (4*a)+x)) l
def zs:List AV:=qI 64 (aB false)
def oneC(l:List Int):List AV:=aI l.length :: (if 0<=atF 0 l/\atF 0 l<64 then zs.set (atF 0 l).toNat (aB true) else zs)
structure SetC (c:List AV):Prop where
 len:c.length=65
 sc:∀ x,x∈c->x.one=true/\HF x
theorem SetC.one(h:SetC c):∀ x,x∈c->x.one=true:=fun x g=>(h.sc x g).1
theorem SetC.hf(h:SetC c):HF (.agg c):=HF.agg fun x g=>(h.sc x g).2
theorem SetC.take(h:SetC c):List.take 65 c=c:=yr (by rw[h.len];omega)
theorem SetC.put{d}(h:SetC c)(g:SetC d):putCells c 0 d=d:=by
 rw[y5 _ _ _ (by rw[h.len,g.len];omega)];simp[h.len,g.len,List.drop_of_length_le]
theorem SetC.zero:SetC (aI 0 :: zs):=⟨rfl,fun x g=>by
 rcases qs.1 g with rfl|g
 .exact ⟨rfl,HF.sc _⟩
 .rw [List.eq_of_mem_replicate g];exact⟨rfl,HF.sc _⟩⟩
theorem SetC.oneC(l):SetC (oneC l):=by
 have i:∀ x:AV,x∈zs->x.one=true/\HF x:=fun x g=>by rw[List.eq_of_mem_replicate g];exact⟨rfl,HF.sc _⟩
 unfold QD.oneC;split
 .refine ⟨by simp[zs],fun x g=>?_⟩
  rcases qs.1 g with rfl|g
  .exact ⟨rfl,HF.sc _⟩
  .rcases List.mem_or_eq_of_mem_set g with h|rfl
   .exact i x h
   .exact ⟨rfl,HF.sc _⟩
 .refine ⟨by simp[zs],fun x g=>?_⟩
  rcases qs.1 g with rfl|g
  .exact ⟨rfl,HF.sc _⟩
  .exact i x g
theorem oneU(l)(hl:l.length<=140737488351232):qd qb 171 [lI l] (.agg (oneC l)):=by
 have g:=SetC.oneC l;generalize I:oneC l=R at *
 unfold oneC at I;refine qSU call171 func171 rfl ?_;have i:zs.length=64:=rfl;refine fZ l.length (fun k U=>∃ a:Int,U.tm 0=lI l/\U.tm 2 = .ptr 0 0/\U.tm 3 = .ptr 1 0/\U.tm 4=aI a/\U.tm 5=aI k/\U.mu=[.arr (aI 0 :: zs),.arr (aI l.length :: zs)]/\atF a (l.drop k)=atF 0 l) ?_ ?_
 .exact ⟨0,zSi,zSi,zSi,zSi,zSi,by simp[go_sem,zs,qI],rfl⟩
 rintro k U hk ⟨a,J,t,e3,e4,e5,hm,hI⟩;by_cases P:k<l.length
 .have w1:=zWk k
  rw[qY P]at hI;simp[go_sem,J,e4,e5,hm,P,w1];exact aK ⟨_,zS1 J,zS1 t,zS1 e3,zSi,zSi,zSi,hI⟩
 have a1:k=l.length:=zOm;subst a1;rw[zF]at hI;have ha:a=atF 0 l:=hI;rw[<-ha]at I;have z1:∀ x:AV,(x :: zs).length=65:=fun x=>rfl
 have o:∀ x:AV,x∈zs->x.one=true:=fun x hx=>by rw[List.eq_of_mem_replicate hx];rfl
 have tk:List.take 64 zs=zs:=rfl;have pc:∀(x y:AV)(Z:List AV),Z.length=64->putCells (x :: zs) 0 (y :: Z)=y :: Z:=fun x y Z hZ=>by
  grind [y5,List.drop_of_length_le]
 by_cases h0:0<=a
 .obtain ⟨j,rfl⟩:∃ j:Nat,a=j:=⟨a.toNat,zOm⟩
  by_cases C:(j:Int)<64
  .have hj:1+j<=64:=by omega
   have a2:∀ x:AV,(x :: zs).set (1+j) (AV.sc (Value.bool true))=x :: zs.set j (AV.sc (Value.bool true)):=fun x=>by rw[Nat.add_comm];rfl
   have sl:(zs.set j (AV.sc (Value.bool true))).length=64:=zP1 i;have T:∀ x:AV,x∈zs.set j (AV.sc (Value.bool true))->x.one=true:=fun x hx=>by
    rcases List.mem_or_eq_of_mem_set hx with h|rfl
    .exact o x h
    .rfl
   have a0:List.take 64 (zs.set j (AV.sc (Value.bool true)))=zs.set j (AV.sc (Value.bool true)):=yr zOm;have p:R=aI l.length :: zs.set j (AV.sc (Value.bool true)):=by rw[<-I,if_pos ⟨h0,C⟩];rfl
   generalize zs.set j (AV.sc (Value.bool true))=Z at *
   simp[go_sem,J,t,e3,e4,e5,hm,h0,C,i,hj,a2,sl,a0,pc _ _ _ sl];rw[if_pos T];simp[go_sem,t,sl,a0];rw[p]at g⊢;exact .hf _ g.hf
  .simp [go_sem,J,t,e3,e4,e5,hm,h0,C,i,tk,pc _ _ _ i]
   rw[if_pos o];simp[go_sem,t,i,tk];have p:R=aI l.length :: zs:=by rw[<-I,zIn]
   rw[p]at g⊢;exact .hf _ g.hf
 .simp [go_sem,J,t,e3,e4,e5,hm,h0,i,tk,pc _ _ _ i]
  rw[if_pos o];simp[go_sem,t,i,tk];have p:R=aI l.length :: zs:=by rw[<-I,zIn]
  rw[p]at g⊢;exact .hf _ g.hf
abbrev NS:=List AV×Nat
variable {s:NS}
def stF(nm:tV)(f:Fld)(s:NS):NS:=if f.name=nm then (oneC f.sS,s.2+1) else s
def nmF(nm:tV):List Fld->NS->NS
 | [],s=>s
 |f :: l,s=>nmF nm l (stF nm f s)
def st1(nm:tV)(i:Nat)(x:tV×Bool)(s:NS):NS:=if x.1=nm then (oneC [(i:Int)],s.2+1) else s
def st2(nm:tV)(i:Nat)(x:tV×Bool)(s:NS):NS:=if x.2=true/\x.1++jv=nm then (oneC [(i:Int)],s.2+1) else s
def st3(nm:tV)(i:Nat)(x:tV×Bool)(s:NS):NS:=if x.2=true/\x.1++jQ=nm then (oneC [(i:Int),(i:Int)],s.2+1) else s
def nmS(nm:tV):Nat->List (tV×Bool)->NS->NS
 |_,[],s=>s
 |i,x :: l,s=>nmS nm (i+1) l (st3 nm i x (st2 nm i x (st1 nm i x s)))
def named(ts:TS)(nm:tV):NS:=nmS nm 0 ts.sS (nmF nm ts.sA (aI 0 :: zs,0))
theorem ql0{nm f}(h:SetC s.1):SetC (stF nm f s).1:=by
 grind [stF,SetC.oneC]
theorem qaT{nm}(h:SetC s.1):SetC (st1 nm i x s).1:=by
 grind [st1,SetC.oneC]
theorem qaU{nm}(h:SetC s.1):SetC (st2 nm i x s).1:=by
 grind [st2,SetC.oneC]
theorem qaV{nm}(h:SetC s.1):SetC (st3 nm i x s).1:=by
 grind [st3,SetC.oneC]
theorem st_le{nm}:(st3 nm i x (st2 nm i x (st1 nm i x s))).2<=s.2+3:=by
 have g:(st1 nm i x s).2<=s.2+1:=by grind [st1]
 have j:∀ s:NS,(st2 nm i x s).2<=s.2+1:=fun s=>by grind [st2]
 have l:∀ s:NS,(st3 nm i x s).2<=s.2+1:=fun s=>by grind [st3]
 grind
theorem qaW(nm):∀ l s,SetC s.1->SetC (nmF nm l s).1
 | [],_,h=>h
 |f :: l,s,h=>qaW nm l _ (ql0 h)
theorem qaX(nm):∀ l i s,SetC s.1->SetC (nmS nm i l s).1
 | [],_,_,h=>h
 |x :: l,i,s,h=>qaX nm l _ _ (qaV (qaU (qaT h)))
theorem XQ(ts nm):SetC (named ts nm).1:=qaX nm _ _ _ (qaW nm _ _ SetC.zero)
theorem wk1(i):WK (.lst true [rI i]) (lI [i]):=WK.lst fun r g c j=>by
 grind [qO,HF.sc]
theorem wk2(i j):WK (.lst true [rI i,rI j]) (lI [i,j]):=WK.lst fun r g c l=>by
 rcases qs.1 g with rfl|g
 .grind [qO,HF.sc]
 grind [qO,HF.sc]
structure okNm (ts:TS):Prop where
 so:∀ x,x∈ts.sS->x.1.size<=4611686018427387904
 nso:ts.sS.length<=140737488351232
 nf:ts.sA.length<=140737488351232
 fl:∀ f,f∈ts.sA->f.sS.length<=140737488351232
theorem XS(ts)(ha:okNm ts)(nm):qd qb 200 [eTS ts,aS nm] (.tup [.agg (named ts nm).1,aI (named ts nm).2]):=by
  generalize hR:named ts nm=R;unfold named at hR;refine qSV call200 func200 rfl ?_;have ar:=ha.nf;have au:zs.length=64:=rfl;have av:=ha.nso;simp[go_sem];refine fZ ts.sA.length (fun i U=>∃ s:NS,U.tm 1=aS nm/\U.tm 2 = .ip (cTS ts)/\U.tm 4 = .ptr 0 0/\U.tm 6 = .ptr 1 0/\U.tm 7=aI s.2/\U.tm 8=aI i/\U.mu=[.arr (aI 0 :: zs),.arr s.1]/\SetC s.1/\s.2<=i/\nmS nm 0 ts.sS (nmF nm (ts.sA.drop i) s)=R) ?_ ?_
  · exact⟨(aI 0 :: zs,0),zSi,zSi,zSi,zSi,zSi,zSi,by simp[go_sem,zs,qI],SetC.zero,zSp,zUs hR⟩
  clear hR;rintro i U hi ⟨⟨c,k⟩,P,C,e4,T,e7,e8,hm,j,hk,t⟩;have hk:k<=i:=hk;have j:SetC c:=j;by_cases g:i<ts.sA.length
  · have w1:=zWk i
    have w2:=zWk k;rw[qY g]at t;have ho:=oneU ts.sA[i].sS (ha.fl _ (qq g));have I:=SetC.oneC ts.sA[i].sS;by_cases hq:ts.sA[i].name=nm
    · simp[go_sem,P,C,e8,hm,g,hq]
      refine tR ho (.zk (zy _) .nil) ?_;simp[go_sem,T,I.len,j.len,j.put I];rw[if_pos I.one];simp[go_sem,e7,e8,g,w1,w2];exact aK ⟨(oneC ts.sA[i].sS,k+1),zS1 P,zS1 C,zS1 e4,zS1 T,zSi,zSi,zSi,I,zOm,by grind [nmF,stF]⟩
    · simp[go_sem,P,C,e8,hm,g,ji hq,w1]
      exact aK ⟨(c,k),zS1 P,zS1 C,zS1 e4,zS1 T,by simp[go_sem,e7],zSi,zSi,j,zOm,by grind [nmF,stF]⟩
  have a0:i=ts.sA.length:=zOm;subst a0;rw[zF]at t;simp only[nmF]at t;simp[go_sem,C,e8,hm];refine fZ ts.sS.length (fun i U=>∃ s:NS,U.tm 1=aS nm/\U.tm 2 = .ip (cTS ts)/\U.tm 4 = .ptr 0 0/\U.tm 6 = .ptr 1 0/\U.tm 7=aI s.2/\U.tm 9=aI i/\U.mu=[.arr (aI 0 :: zs),.arr s.1]/\SetC s.1/\s.2<=ts.sA.length+3*i/\nmS nm i (ts.sS.drop i) s=R) ?_ ?_
  · simp[go_sem, *]
  clear P C e4 T e7 e8 hm j hk t g;rintro i U hi ⟨⟨c,k⟩,P,C,e4,T,e7,e9,hm,j,hk,t⟩;have hk:k<=ts.sA.length+3*i:=hk;have j:SetC c:=j;by_cases g:i<ts.sS.length
  · have w1:=zWk i
    have w2:=zWk k;have w3:qj.wrap ((k:Int)+1+1)=(k:Int)+1+1:=zWr;have w4:qj.wrap ((k:Int)+1+1+1)=(k:Int)+1+1+1:=zWr;rw[qY g]at t;simp only[nmS]at t;have af:=oneU [(i:Int)] zSp;have ag:=oneU [(i:Int),(i:Int)] zSp;have p:=SetC.oneC [(i:Int)];have J:=SetC.oneC [(i:Int),(i:Int)];have ah:=j.put p;have ai:=j.put J;have aj:=p.put p;have ak:=p.put J;have l1:=p.len;have l2:=J.len;have l0:=j.len;have aw:=st_le (nm:=nm) (i:=i) (x:=ts.sS[i]) (s:=(c,k));have al:=qaV (nm:=nm) (i:=i) (x:=ts.sS[i]) (qaU (nm:=nm) (i:=i) (x:=ts.sS[i]) (qaT (nm:=nm) (i:=i) (x:=ts.sS[i]) (s:=(c,k)) j));have a8:=ha.so _ (qq g);have a8:ts.sS[i].1.size<=4611686018427387904:=a8;generalize a9:ts.sS[i]=so at *
    obtain⟨o,sb⟩:=so;have aa:o.size<=9223372036854775801:=by grind
    have ab:o.size<=9223372036854775802:=zOm;generalize hN:st3 nm i (o,sb) (st2 nm i (o,sb) (st1 nm i (o,sb) (c,k)))=N at *
    have an:(o++jv=nm)=(o++(⟨#[95,102,105,114,115,116]⟩:tV)=nm):=rfl;have ao:(o++jQ=nm)=(o++(⟨#[95,110,101,120,116]⟩:tV)=nm):=rfl;simp only[st1,st2,st3,an,ao]at hN;obtain⟨d1,aq⟩:∃ d,decide (o=nm)=d:=⟨_,rfl⟩;obtain⟨d2,ad⟩:∃ d,decide (o++(⟨#[95,102,105,114,115,116]⟩:tV)=nm)=d:=⟨_,rfl⟩;obtain⟨d3,ae⟩:∃ d,decide (o++(⟨#[95,110,101,120,116]⟩:tV)=nm)=d:=⟨_,rfl⟩;have p1:(o=nm)=(d1=true):=by grind
    have p2:(o++(⟨#[95,102,105,114,115,116]⟩:tV)=nm)=(d2=true):=by grind
    have p3:(o++(⟨#[95,110,101,120,116]⟩:tV)=nm)=(d3=true):=by grind
    simp only[p1,p2,p3]at hN;have done:∀ l:St,l.tm 1=aS nm->l.tm 2 = .ip (cTS ts)->l.tm 4 = .ptr 0 0->l.tm 6 = .ptr 1 0->l.tm 7=aI N.2->l.tm 9=aI (i+1:Nat)->l.mu=[.arr (aI 0 :: zs),.arr N.1] ->
        Keep (fun U=>∃ s:NS,U.tm 1=aS nm/\U.tm 2 = .ip (cTS ts)/\U.tm 4 = .ptr 0 0/\U.tm 6 = .ptr 1 0/\U.tm 7=aI s.2/\U.tm 9=aI (i+1:Nat)/\U.mu=[.arr (aI 0 :: zs),.arr s.1]/\SetC s.1/\s.2<=ts.sA.length+3*(i+1)/\nmS nm (i+1) (ts.sS.drop (i+1)) s=R) .mk l:=
      fun l a1 a2 a3 a4 a5 a6 a7=>aK ⟨N,a1,a2,a3,a4,a5,a6,a7,al,zOm,t⟩
    cases d1<;>cases d2<;>cases d3<;>cases sb
    all_goals simp only[if_true,if_false,and_false,and_true,reduceCtorEq]at hN
    all_goals simp[go_sem,Y10.jj,P,C,e9,hm,g,a9,aq,ad,ae,w1,aa,ab]
    all_goals repeat' (first
      | (refine tR af (.cons (wk1 _) .nil) ?_
         simp[go_sem,T,ah,aj,l0,l1];rw[if_pos p.one];simp[go_sem,Y10.jj,P,C,e7,e9,g,a9,ad,ae,w1,w2,w3,aa,ab])
      | (refine tR ag (.cons (wk2 _ _) .nil) ?_
         simp[go_sem,T,ai,ak,l0,l1,l2];rw[if_pos J.one];simp[go_sem,e7,e9,g,w1,w2,w3,w4]))
    all_goals try subst hN
    all_goals simp_all[go_sem]
  have a0:i=ts.sS.length:=zOm;subst a0;rw[zF]at t;simp only[nmS]at t;subst t;simp[go_sem,C,e4,T,e7,e9,hm,j.len,j.take,SetC.zero.put j,SetC.zero.len];rw[if_pos j.one];simp[go_sem,e4,j.len,j.take];refine .hf _ (HF.tup fun x hx=>?_);rcases qs.1 hx with rfl|hx
  · exact j.hf
  grind [qO,HF.sc]
end
end QD
namespace QE
open Y6 QD
abbrev RS:=Int×(Nat->Bool)
def hB(g:Nat->Bool):List AV:=(qp 64).map fun i=>aB (g i)
abbrev cRS(s:RS):List AV:=aI s.1 :: hB s.2
abbrev eRS(s:RS):AV := .agg (cRS s)
theorem qo(g):(hB g).length=64:=by simp[hB]
theorem qaY(g i v):(hB g).set i (aB v)=hB fun j=>if j=i then v else g j:=by
 refine List.ext_getElem (by simp[hB]) fun j l o=>?_
 rw[List.getElem_set];simp only[hB,List.getElem_map,List.getElem_range];by_cases h:i=j
 .rw [if_pos h,if_pos h.symm]
 .rw [if_neg h,if_neg (fun e=>h e.symm)]
theorem ql1(g i)(h:i<64):(hB g)[i]?=some (aB (g i)):=by
 simp[hB,h]
theorem uf{g i}(h:∀ j,j<64->g j=i j):hB g=hB i:=by
 refine List.map_congr_left fun j l=>?_
 rw[h j (zO.1 l)]
theorem setC(s):SetC (cRS s):=⟨by simp[hB],fun x g=>by
 rcases qs.1 g with rfl|g
 .exact ⟨rfl,HF.sc _⟩
 .obtain ⟨j,_,rfl⟩:=qn.1 g
  exact⟨rfl,HF.sc _⟩⟩
theorem yg(s):HF (eRS s):=(setC s).hf
theorem qaZ:hB (fun _=>false)=zs:=rfl
def oneS(l:List Int):RS:=(l.length,fun j=>decide ((j:Int)=atF 0 l))
theorem XT(l):oneC l=cRS (oneS l):=by
 unfold oneC oneS;simp only[cRS];split
 .rename_i h
  have e:aB true=aB true:=rfl;rw[<-qaZ,qaY];congr 1;refine uf fun j i=>?_
  by_cases g:j=(atF 0 l).toNat
  .rw [if_pos g];exact(decide_eq_true zOm).symm
  .rw [if_neg g];exact(decide_eq_false zOm).symm
 .rename_i h
  rw[<-qaZ];congr 1;refine uf fun j i=>?_
  exact(decide_eq_false zOm).symm
def szA(k:Int):Nat:=if k<1 then 1 else if k=1 then 4 else if k=2 then 16 else 64
theorem Jx(k):szA k<=64/\1<=szA k:=by unfold szA;split<;>(try split)<;>(try split)<;>omega
theorem Uk(k):qd qb 172 [aI k] (aI (szA k)):=by
 refine qSV call172 func172 rfl ?_;unfold szA;by_cases g:k<1
 .simp [go_sem,g];exact .zsc _
 by_cases i:k=1
 .simp [go_sem,i];exact .zsc _
 by_cases j:k=2
 .simp [go_sem,j];exact .zsc _
 simp[go_sem,g,i,j];exact .zsc _
def uniS(a b:RS):RS:=(a.1,fun j=>a.2 j||b.2 j)
def intS(a b:RS):RS:=(a.1,fun j=>a.2 j&&b.2 j)
theorem g1(x g i)(h:i<64):(x :: hB g)[1+i]?=some (aB (g i)):=by
 rw[Nat.add_comm,vG,ql1 g i h]
theorem d1(x g i)(h:i<64):List.take 1 (List.drop (1+i) (x :: hB g))=[aB (g i)]:=by
 rw[Nat.add_comm,List.drop_succ_cons,qY (by rw[qo];exact h)];simp[hB]
theorem d0(g i)(h:i<64):List.take 1 (List.drop i (hB g))=[aB (g i)]:=by
 rw[qY (by rw[qo];exact h)];simp[hB]
theorem s1(x g i v):(x :: hB g).set (1+i) (aB v)=x :: hB fun j=>if j=i then v else g j:=by
 rw[Nat.add_comm,List.set_cons_succ,qaY]
theorem qU(g):∀ x,x∈hB g->x.one=true:=fun x i=>by
 obtain⟨j,_,rfl⟩:=qn.1 i;rfl
theorem tk(g):List.take 64 (hB g)=hB g:=yr (by rw[qo];exact qh _)
theorem pc(x y g i):putCells (x :: hB g) 0 (y :: hB i)=y :: hB i:=by
 rw[y5 _ _ _ (by simp[qo])];simp[qo,List.drop_of_length_le]
theorem jz(a b):qd qb 231 [eRS a,eRS b] (eRS (uniS a b)):=by
 refine qSQ call231 func231 rfl { mt:=[2] } ?_;simp[go_sem];refine⟨qU _,qU _,?_⟩;refine fZ 64 (fun i U=>U.tm 2 = .ptr 0 0/\U.tm 3 = .ip (cRS b)/\U.tm 4 = .ptr 1 0/\U.tm 5=aI i/\U.mu=[.arr (aI a.1 :: hB (fun j=>if j<i then a.2 j||b.2 j else a.2 j)),.arr (aI 0 :: hB fun _=>false)]) ?_ ?_
 .exact ⟨zSi,zSi,zSi,zSi,by simp[go_sem];rfl⟩
 rintro i U hi ⟨p,J,I,P,R⟩;by_cases l:i<64
 .have o:(i:Int)<64:=by omega
  have t:1+i<=64:=zOm;have w1:=zWk i;generalize hG:(fun j=>if j<i then a.2 j||b.2 j else a.2 j)=G at *
  have T:G i=a.2 i:=by rw[<-hG];simp
  have g:∀ v:Bool,v=(a.2 i||b.2 i)->(aI a.1 :: hB G).set (1+i) (aB v)=aI a.1 :: hB (fun j=>if j<i+1 then a.2 j||b.2 j else a.2 j):=fun v hv=>by
   rw[s1];congr 2;funext j;rw[<-hG,hv];by_cases h1:j=i
   .subst h1;simp
   .by_cases h2:j<i
    .simp [h1,h2,show j<i+1 by omega]
    .simp [h1,h2,show ¬j<i+1 by omega]
  have C:=d1 (aI a.1) G i l;have m2:=d0 b.2 i l;have a0:1<=64-i:=zOm;rw[T]at C;cases ha:a.2 i with
  |true =>
   rw[ha]at C g;have hn:=g true zSp;simp[go_sem,p,P,R,l,o,t,qo,C,hn,w1];exact aK ⟨zS1 p,zS1 J,zS1 I,zSi,zSi⟩
  |false =>
   rw[ha]at C g;have hn:=g (b.2 i) zSp;simp[go_sem,p,J,P,R,l,o,t,a0,qo,C,m2,hn,w1];exact aK ⟨zS1 p,zS1 J,zS1 I,zSi,zSi⟩
 .have a1:i=64:=by omega
  subst a1;simp[go_sem,p,I,P,R,qo,tk,pc];rw[if_pos (qU _)];simp[go_sem,I,qo,tk];have e:(aI a.1 :: hB fun j=>if j<64 then a.2 j||b.2 j else a.2 j)=cRS (uniS a b):=by
   exact congrArg (aI a.1 :: ·) (uf fun j hj=>if_pos hj)
  rw[e];exact .hf _ (yg _)
theorem Jg(a b):qd qb 232 [eRS a,eRS b] (eRS (intS a b)):=by
 refine qSQ call232 func232 rfl { mt:=[2] } ?_;simp[go_sem];refine⟨qU _,qU _,?_⟩;refine fZ 64 (fun i U=>U.tm 2 = .ptr 0 0/\U.tm 3 = .ip (cRS b)/\U.tm 4 = .ptr 1 0/\U.tm 5=aI i/\U.mu=[.arr (aI a.1 :: hB (fun j=>if j<i then a.2 j&&b.2 j else a.2 j)),.arr (aI 0 :: hB fun _=>false)]) ?_ ?_
 .exact ⟨zSi,zSi,zSi,zSi,by simp[go_sem];rfl⟩
 rintro i U hi ⟨p,J,I,P,R⟩;by_cases l:i<64
 .have o:(i:Int)<64:=by omega
  have t:1+i<=64:=zOm;have w1:=zWk i;generalize hG:(fun j=>if j<i then a.2 j&&b.2 j else a.2 j)=G at *
  have T:G i=a.2 i:=by rw[<-hG];simp
  have g:∀ v:Bool,v=(a.2 i&&b.2 i)->(aI a.1 :: hB G).set (1+i) (aB v)=aI a.1 :: hB (fun j=>if j<i+1 then a.2 j&&b.2 j else a.2 j):=fun v hv=>by
   rw[s1];congr 2;funext j;rw[<-hG,hv];by_cases h1:j=i
   .subst h1;simp
   .by_cases h2:j<i
    .simp [h1,h2,show j<i+1 by omega]
    .simp [h1,h2,show ¬j<i+1 by omega]
  have C:=d1 (aI a.1) G i l;have m2:=d0 b.2 i l;have a0:1<=64-i:=zOm;rw[T]at C;cases ha:a.2 i with
  |false =>
   rw[ha]at C g;have hn:=g false zSp;simp[go_sem,p,P,R,l,o,t,qo,C,hn,w1];exact aK ⟨zS1 p,zS1 J,zS1 I,zSi,zSi⟩
  |true =>
   rw[ha]at C g;have hn:=g (b.2 i) zSp;simp[go_sem,p,J,P,R,l,o,t,a0,qo,C,m2,hn,w1];exact aK ⟨zS1 p,zS1 J,zS1 I,zSi,zSi⟩
 .have a1:i=64:=by omega
  subst a1;simp[go_sem,p,I,P,R,qo,tk,pc];rw[if_pos (qU _)];simp[go_sem,I,qo,tk];have e:(aI a.1 :: hB fun j=>if j<64 then a.2 j&&b.2 j else a.2 j)=cRS (intS a b):=by
   exact congrArg (aI a.1 :: ·) (uf fun j hj=>if_pos hj)
  rw[e];exact .hf _ (yg _)
def trS(a:RS):RS:=(2,fun j=>decide (j<16)&&a.2 (j % 4*4+j / 4))
theorem qa0(a):qd qb 235 [eRS a] (eRS (trS a)):=by
 refine qSU call235 func235 rfl ?_;refine⟨qU _,?_⟩;refine fZ 16 (fun i U=>U.tm 1 = .ip (cRS a)/\U.tm 2 = .ptr 0 0/\U.tm 3 = .ptr 1 0/\U.tm 4=aI i/\U.mu=[.arr (aI 0 :: hB fun _=>false),.arr (aI 2 :: hB (fun j=>decide (j<16/\j % 4*4+j / 4<i)&&a.2 (j % 4*4+j / 4)))]) ?_ ?_
 .exact ⟨zSi,zSi,zSi,zSi,by simp[go_sem];first|rfl|exact⟨rfl,rfl⟩⟩
 rintro i U hi ⟨e1,o,p,e4,t⟩;by_cases C:i<16
 .have l:(i:Int)<16:=by omega
  have w1:=zWk i;obtain⟨q,hq⟩:∃ q:Nat,q=i % 4*4+i / 4:=⟨_,rfl⟩;have a0:q<16:=zOm;have w2:qj.wrap ((i:Int).tmod 4)=((i % 4:Nat):Int):=by
   rw[uZ zOm];rw[zWr];omega
  have w3:qj.wrap (qj.wrap ((i:Int).tmod 4*4)+qj.wrap ((i:Int) / 4))=(q:Int):=by
   have x1:qj.wrap ((i:Int) % 4*4)=(i:Int) % 4*4:=zWr;have x2:qj.wrap ((i:Int) / 4)=(i:Int) / 4:=zWr;rw[uZ zOm,x1,x2,zWr];omega
  generalize hG:(fun j=>decide (j<16/\j % 4*4+j / 4<i)&&a.2 (j % 4*4+j / 4))=G at *
  have g:(aI 2 :: hB G).set (1+q) (aB (a.2 i))=aI 2 :: hB (fun j=>decide (j<16/\j % 4*4+j / 4<i+1)&&a.2 (j % 4*4+j / 4)):=by
   rw[s1];refine congrArg (aI 2 :: ·) (uf fun j hj=>?_);rw[<-hG];by_cases I:j=q
   .have h2:j % 4*4+j / 4=i:=by omega
    rw[if_pos I,h2,decide_eq_true ⟨zOm,zOm⟩];rfl
   .have h2:¬(j<16/\j % 4*4+j / 4=i):=fun h=>I zOm
    rw[if_neg I];have h3:(j<16/\j % 4*4+j / 4<i+1)=(j<16/\j % 4*4+j / 4<i):=propext ⟨fun h=>⟨h.1,zOm⟩,fun h=>⟨h.1,zOm⟩⟩;rw[show decide (j<16/\j % 4*4+j / 4<i+1)=decide (j<16/\j % 4*4+j / 4<i) from decide_eq_decide.2 (by rw[h3])]
  have m2:=d0 a.2 i zOm;have J:(i:Int)<64:=zOm;have P:1<=64-i:=zOm;simp[go_sem,e1,p,e4,t,C,l,J,P,m2,qo,w1,w3,show (q:Int)<64 by omega,show 1+q<=64 by omega,g];exact aK ⟨zS1 e1,zS1 o,zS1 p,zSi,zSi⟩
 .have R:i=16:=by omega
  subst R;have e:hB (fun j=>decide (j<16/\j % 4*4+j / 4<16)&&a.2 (j % 4*4+j / 4))=hB (trS a).2:=by
   refine uf fun j hj=>?_
   rw[show decide (j<16/\j % 4*4+j / 4<16)=decide (j<16) from decide_eq_decide.2 ⟨fun h=>h.1,fun h=>⟨h,zOm⟩⟩];rfl
  rw[e]at t;have hT:eRS (trS a) = .agg (aI 2 :: hB (trS a).2):=rfl;rw[hT];generalize (trS a).2=T at *
  simp[go_sem,o,p,e4,t,qo,tk,pc];rw[if_pos (qU _)];simp[go_sem,o,qo,tk];exact .hf _ (yg (2,T))
def wv(a b:RS)(j:Nat):Bool:=a.2 (j / szA b.1)&&b.2 (j % szA b.1)
def XU(a b:RS):RS:=(a.1+b.1,fun j=>decide (j<szA a.1*szA b.1)&&wv a b j)
theorem ql2(f:Nat->Bool)(p v)(i:v=f p):∀ j,(if j=p then v else decide (j<p)&&f j)=(decide (j<p+1)&&f j):=fun j=>by
 by_cases g:j=p
 .subst g;simp[i]
 .rw [if_neg g,show decide (j<p+1)=decide (j<p) from decide_eq_decide.2 zOm]
theorem qa1(a b)(ha:0<=a.1/\a.1<=1000)(hb:0<=b.1/\b.1<=1000):qd qb 234 [eRS a,eRS b] (eRS (XU a b)):=by
 refine qSV call234 func234 rfl ?_;have w0:qj.wrap (a.1+b.1)=a.1+b.1:=zWr;have ag:=Jx a.1;have ah:=Jx b.1;have ca:=Uk a.1;have cb:=Uk b.1;have hf:∀ j,wv a b j=(a.2 (j / szA b.1)&&b.2 (j % szA b.1)):=fun _=>rfl
 simp[go_sem,qo];refine⟨qU _,qU _,?_⟩;simp[go_sem,w0];refine tR cb (.zs .nil) ?_;generalize hE:XU a b=E;have aa:E=(a.1+b.1,fun j=>decide (j<szA a.1*szA b.1)&&wv a b j):=hE.symm;clear hE;generalize wv a b=F at *
 generalize szA a.1=sa at *
 generalize szA b.1=n at *
 simp[go_sem];refine fZ sa (fun i U=>U.tm 2 = .ip (cRS a)/\U.tm 3 = .ip (cRS b)/\U.tm 4 = .ptr 0 0/\U.tm 5 = .ptr 1 0/\U.tm 6=aI n/\U.tm 7=aI i/\U.mu=[.arr (aI 0 :: hB fun _=>false),.arr (aI (a.1+b.1) :: hB (fun j=>decide (j<i*n)&&F j))]) ?_ ?_
 .exact ⟨zSi,zSi,zSi,zSi,zSi,zSi,by simp[go_sem];first|rfl|exact⟨rfl,rfl⟩⟩
 rintro i U hi ⟨l,C,J,P,o,e7,R⟩;simp[go_sem,l,e7,R];refine tR ca (.zs .nil) ?_;by_cases a7:i<sa
 .have w1:=zWk i
  simp[go_sem,a7];refine fZ n (fun k U=>U.tm 2 = .ip (cRS a)/\U.tm 3 = .ip (cRS b)/\U.tm 4 = .ptr 0 0/\U.tm 5 = .ptr 1 0/\U.tm 6=aI n/\U.tm 7=aI i/\U.tm 8=aI k/\U.mu=[.arr (aI 0 :: hB fun _=>false),.arr (aI (a.1+b.1) :: hB (fun j=>decide (j<i*n+k)&&F j))]) ?_ ?_
  .exact ⟨zS1 l,zS1 C,zS1 J,zS1 P,zS1 o,by simp[go_sem,e7],zSi,zSi⟩
  clear l C J P o e7 R;rintro k U hk ⟨l,C,J,P,o,e7,e8,R⟩;by_cases t:k<n
  .have w2:=zWk k
   obtain⟨p,hp⟩:∃ p:Nat,p=i*n+k:=⟨_,rfl⟩;have a8:((i:Int)*n+k)=(p:Int):=by rw[hp];push_cast;rfl
   have ai:i*n<=63*64:=Nat.mul_le_mul zOm zOm;have w3:qj.wrap ((i:Int)*n)=(i:Int)*n:=by
    have:((i*n:Nat):Int)=(i:Int)*n:=by push_cast;rfl
    rw[<-this];exact zWr
   have w4:qj.wrap (p:Int)=(p:Int):=zWr;have a3:F p=(a.2 i&&b.2 k):=by
    rw[hf,hp,Nat.add_comm,Nat.add_mul_div_right _ _ zOm,Nat.add_mul_mod_self_right,Nat.div_eq_of_lt t,Nat.mod_eq_of_lt t,yJ]
   have m1:=d0 a.2 i zOm;have m2:=d0 b.2 k zOm;have a0:1<=64-i:=zOm;have a4:1<=64-k:=zOm;have a1:(i:Int)<64:=zOm;have a5:(k:Int)<64:=zOm;have hq:∀ x:AV,(x :: hB (fun j=>decide (j<p)&&F j)).set (1+p) (aB true)=x :: hB (fun j=>if j=p then true else decide (j<p)&&F j):=fun x=>s1 x _ p true
   rw[<-hp]at R;have ab:F p=true->(fun j=>if j=p then true else decide (j<p)&&F j)=(fun j=>decide (j<p+1)&&F j):=fun h=>funext (ql2 F p true h.symm)
   have ad:F p=true->∀ x:AV,(x :: hB (fun j=>decide (j<p)&&F j)).set (1+p) (AV.sc (Value.bool true))=x :: hB (fun j=>decide (j<p+1)&&F j):=fun h x=>by rw[<-ab h];exact hq x
   have a6:(F p=false\/64<=p)->hB (fun j=>decide (j<p)&&F j)=hB (fun j=>decide (j<p+1)&&F j):=fun h=>uf fun j hj=>by
    by_cases h1:j=p
    .rcases h with h|h
     .rw [h1,h];simp
     .omega
    .rw [show decide (j<p+1)=decide (j<p) from decide_eq_decide.2 zOm]
   have done:∀ g:St,g.tm 2 = .ip (cRS a)->g.tm 3 = .ip (cRS b)->g.tm 4 = .ptr 0 0->g.tm 5 = .ptr 1 0->g.tm 6=aI n->g.tm 7=aI i->g.tm 8=aI (k+1:Nat)->g.mu=[.arr (aI 0 :: hB fun _=>false),.arr (aI (a.1+b.1) :: hB (fun j=>decide (j<p+1)&&F j))]->Keep (fun U=>U.tm 2 = .ip (cRS a)/\U.tm 3 = .ip (cRS b)/\U.tm 4 = .ptr 0 0/\U.tm 5 = .ptr 1 0/\U.tm 6=aI n/\U.tm 7=aI i/\U.tm 8=aI (k+1:Nat)/\U.mu=[.arr (aI 0 :: hB fun _=>false),.arr (aI (a.1+b.1) :: hB (fun j=>decide (j<i*n+(k+1))&&F j))]) .mk g:=
    fun g b1 b2 b3 b4 b5 b6 b7 b8=>aK ⟨b1,b2,b3,b4,b5,b6,b7,by rw[b8,hp];rfl⟩
   cases I:a.2 i with
   |false =>
    rw[I]at m1;simp[go_sem,l,o,e7,e8,R,t,qo,m1,a0,a1,w2];exact done _ (zS1 l) (zS1 C) (zS1 J) (zS1 P) (zS1 o) (by simp[go_sem,e7]) zSi (by simp[go_sem,a6 (.inl (by rw[a3,I];rfl))])
   |true =>
    rw[I]at m1;cases a2:b.2 k with
    |false =>
     rw[a2]at m2;simp[go_sem,l,C,o,e7,e8,R,t,qo,m1,m2,a0,a4,a1,a5,w2];exact done _ (zS1 l) (zS1 C) (zS1 J) (zS1 P) (zS1 o) (by simp[go_sem,e7]) zSi (by simp[go_sem,a6 (.inl (by rw[a3,I,a2];rfl))])
    |true =>
     rw[a2]at m2;by_cases a9:(p:Int)<64
     .simp [go_sem,l,C,P,o,e7,e8,R,t,qo,m1,m2,a0,a4,a1,a5,w2,w3,a8,w4,a9,show 1+p<=64 by omega,ad (by rw[a3,I,a2];rfl)]
      exact done _ (zS1 l) (zS1 C) (zS1 J) (zS1 P) (zS1 o) (by simp[go_sem,e7]) zSi zSi
     .simp [go_sem,l,C,o,e7,e8,R,t,qo,m1,m2,a0,a4,a1,a5,w2,w3,a8,w4,a9]
      exact done _ (zS1 l) (zS1 C) (zS1 J) (zS1 P) (zS1 o) (by simp[go_sem,e7]) zSi (by simp[go_sem,a6 (.inr zOm)])
  .have ae:k=n:=by omega
   subst ae;rw[show i*k+k=(i+1)*k by rw[Nat.add_mul,Nat.one_mul]]at R;simp[go_sem,o,e7,e8,R,w1];exact⟨a7,aK ⟨zS1 l,zS1 C,zS1 J,zS1 P,zS1 o,zSi,zSi⟩⟩
 .have af:i=sa:=by omega
  subst af;rw[aa];generalize (fun j=>decide (j<i*n)&&F j)=T at *
  simp[go_sem,J,P,qo,tk,pc];rw[if_pos (qU _)];simp[go_sem,J,qo,tk];exact .hf _ (yg (_,T))
def rowJ(a b:RS)(i g j:Nat):Bool:=(qp g).any fun k=>decide (i / 4*(szA b.1 / 4)+k % (szA b.1 / 4)=j)&&(decide (i % 4=k / (szA b.1 / 4))&&(a.2 i&&b.2 k))
def Zq(a b:RS):RS:=(a.1+b.1-2,fun j=>(qp (szA a.1)).any fun i=>rowJ a b i (szA b.1) j)
theorem ql3(a b i k j):rowJ a b i (k+1) j=(rowJ a b i k j||(decide (i / 4*(szA b.1 / 4)+k % (szA b.1 / 4)=j)&&(decide (i % 4=k / (szA b.1 / 4))&&(a.2 i&&b.2 k)))):=by
 unfold rowJ;rw[List.range_succ,List.any_append];simp
theorem ql4{k}(h:1<=k):4<=szA k:=by unfold szA;split<;>(try split)<;>(try split)<;>omega
theorem uD(a b)(ha:0<=a.1/\a.1<=1000)(hb:1<=b.1/\b.1<=1000):qd qb 233 [eRS a,eRS b] (eRS (Zq a b)):=by
 refine qSV call233 func233 rfl ?_;have w0:qj.wrap (a.1+b.1)=a.1+b.1:=zWr;have ab:qj.wrap (a.1+b.1-2)=a.1+b.1-2:=zWr;have aj:=Jx a.1;have ak:=Jx b.1;have al:=ql4 hb.1;have ca:=Uk a.1;have cb:=Uk b.1;have hR:∀ i k j,rowJ a b i (k+1) j=(rowJ a b i k j||(decide (i / 4*(szA b.1 / 4)+k % (szA b.1 / 4)=j)&&(decide (i % 4=k / (szA b.1 / 4))&&(a.2 i&&b.2 k)))):=ql3 a b;have ad:∀ i j,rowJ a b i 0 j=false:=fun i j=>rfl
 simp[go_sem,qo];refine⟨qU _,qU _,?_⟩;simp[go_sem,w0,ab];refine tR cb (.zs .nil) ?_;generalize hE:Zq a b=E;have ae:E=(a.1+b.1-2,fun j=>(qp (szA a.1)).any fun i=>rowJ a b i (szA b.1) j):=hE.symm;clear hE;generalize rowJ a b=F at *
 generalize szA a.1=sa at *
 generalize szA b.1=sb at *
 obtain⟨n,hn⟩:∃ n:Nat,n=sb / 4:=⟨_,rfl⟩;have an:1<=n/\n<=16:=zOm;have wn:qj.wrap ((sb:Int) / 4)=(n:Int):=by rw[zWr];omega
 rw[<-hn]at hR;simp[go_sem,wn];refine fZ sa (fun i U=>U.tm 2 = .ip (cRS a)/\U.tm 3 = .ip (cRS b)/\U.tm 4 = .ptr 0 0/\U.tm 5 = .ptr 1 0/\U.tm 6=aI n/\U.tm 7=aI i/\U.mu=[.arr (aI 0 :: hB fun _=>false),.arr (aI (a.1+b.1-2) :: hB (fun j=>(qp i).any fun i=>F i sb j))]) ?_ ?_
 .exact ⟨zSi,zSi,zSi,zSi,zSi,zSi,by simp[go_sem];first|rfl|exact⟨rfl,rfl⟩⟩
 rintro i U hi ⟨l,o,C,I,t,e7,hm⟩;simp[go_sem,l,e7,hm];refine tR ca (.zs .nil) ?_;by_cases a9:i<sa
 .have w1:=zWk i
  generalize hP:(fun j=>(qp i).any fun i=>F i sb j)=P at *
  simp[go_sem,a9];refine fZ sb (fun k U=>U.tm 2 = .ip (cRS a)/\U.tm 3 = .ip (cRS b)/\U.tm 4 = .ptr 0 0/\U.tm 5 = .ptr 1 0/\U.tm 6=aI n/\U.tm 7=aI i/\U.tm 8=aI k/\U.mu=[.arr (aI 0 :: hB fun _=>false),.arr (aI (a.1+b.1-2) :: hB (fun j=>P j||F i k j))]) ?_ ?_
  .exact ⟨zS1 l,zS1 o,zS1 C,zS1 I,zS1 t,by simp[go_sem,e7],zSi,zS1 ad⟩
  clear l o C I t e7 hm;rintro k U hk ⟨l,o,C,I,t,e7,e8,hm⟩;simp[go_sem,o,e8,hm];refine tR cb (.zs .nil) ?_;by_cases J:k<sb
  .have w2:=zWk k
   obtain⟨p,hp⟩:∃ p:Nat,p=i / 4*n+k % n:=⟨_,rfl⟩;have ao:k % n<n:=Nat.mod_lt _ zOm;have aq:i / 4*n<=15*16:=Nat.mul_le_mul zOm zOm;have y1:((i / 4:Nat):Int)=(i:Int) / 4:=zOm;have y2:((i / 4*n:Nat):Int)=(i:Int) / 4*n:=by rw[<-y1];push_cast;rfl
   have y3:((k % n:Nat):Int)=(k:Int) % n:=rfl;have y4:((k / n:Nat):Int)=(k:Int) / n:=rfl;have af:k / n<=64:=Nat.le_trans (Nat.div_le_self k n) zOm;have x1:qj.wrap ((i:Int) / 4)=(i:Int) / 4:=zWr;have x2:qj.wrap ((i:Int) / 4*n)=(i:Int) / 4*n:=by rw[<-y2];exact zWr
   have x4:qj.wrap ((i:Int) / 4*n+(k:Int) % n)=(p:Int):=by rw[<-y2,<-y3,zWr,hp];push_cast;rfl
   have a8:qj.wrap ((i:Int) / 4*n+(k:Int).tmod n)=(p:Int):=by rw[uZ zOm];exact x4
   have x5:qj.wrap ((k:Int) / n)=(k:Int) / n:=by
    rw[<-y4];clear y4;generalize k / n=c at af⊢;exact zWr
   have R:¬n=0:=zOm;have m1:=d0 a.2 i zOm;have m2:=d0 b.2 k zOm;have a0:1<=64-i:=zOm;have a2:1<=64-k:=zOm;have a1:(i:Int)<64:=zOm;have a3:(k:Int)<64:=zOm;have a4:((decide (i % 4=k / n)&&(a.2 i&&b.2 k))=false\/64<=p)->hB (fun j=>P j||F i k j)=hB (fun j=>P j||F i (k+1) j):=fun h=>uf fun j hj=>by
    rw[hR,<-hp];rcases h with h|h
    .rw [h,Bool.and_false,Bool.or_false]
    .rw [decide_eq_false zOm,Bool.false_and,Bool.or_false]
   have ag:(decide (i % 4=k / n)&&(a.2 i&&b.2 k))=true->∀ x:AV,(x :: hB (fun j=>P j||F i k j)).set (1+p) (AV.sc (Value.bool true))=x :: hB (fun j=>P j||F i (k+1) j):=fun h x=>by
    refine(s1 x _ p true).trans (congrArg (x :: ·) (uf fun j hj=>?_));rw[hR,<-hp,h,Bool.and_true];by_cases h1:j=p
    .rw [if_pos h1,h1];simp
    .rw [if_neg h1,decide_eq_false (fun e=>h1 e.symm),Bool.or_false]
   have done:∀ g:St,g.tm 2 = .ip (cRS a)->g.tm 3 = .ip (cRS b)->g.tm 4 = .ptr 0 0->g.tm 5 = .ptr 1 0->g.tm 6=aI n->g.tm 7=aI i->g.tm 8=aI (k+1:Nat)->g.mu=[.arr (aI 0 :: hB fun _=>false),.arr (aI (a.1+b.1-2) :: hB (fun j=>P j||F i (k+1) j))]->Keep (fun U=>U.tm 2 = .ip (cRS a)/\U.tm 3 = .ip (cRS b)/\U.tm 4 = .ptr 0 0/\U.tm 5 = .ptr 1 0/\U.tm 6=aI n/\U.tm 7=aI i/\U.tm 8=aI (k+1:Nat)/\U.mu=[.arr (aI 0 :: hB fun _=>false),.arr (aI (a.1+b.1-2) :: hB (fun j=>P j||F i (k+1) j))]) .mk g:=
    fun g b1 b2 b3 b4 b5 b6 b7 b8=>aK ⟨b1,b2,b3,b4,b5,b6,b7,b8⟩
   cases a5:a.2 i with
   |false =>
    rw[a5]at m1;simp[go_sem,l,t,e7,e8,J,qo,x1,x2,R,m1,a0,a1,w2];exact done _ (zS1 l) (zS1 o) (zS1 C) (zS1 I) (zS1 t) (by simp[go_sem,e7]) zSi (by simp[go_sem,a4 (.inl (by rw[a5];simp))])
   |true =>
    rw[a5]at m1;cases a6:b.2 k with
    |false =>
     rw[a6]at m2;simp[go_sem,l,o,t,e7,e8,J,qo,x1,x2,R,m1,m2,a0,a1,a2,a3,w2];exact done _ (zS1 l) (zS1 o) (zS1 C) (zS1 I) (zS1 t) (by simp[go_sem,e7]) zSi (by simp[go_sem,a4 (.inl (by rw[a6];simp))])
    |true =>
     rw[a6]at m2;by_cases hq:i % 4=k / n
     .have a7:(i:Int).tmod 4=(k:Int) / n:=by rw[uZ zOm,<-y4,<-hq];rfl
      by_cases aa:(p:Int)<64
      .simp [go_sem,l,o,I,t,e7,e8,J,qo,x1,x2,a8,x5,R,m1,m2,a0,a1,a2,a3,w2,a7,aa,show 1+p<=64 by omega,ag (by rw[decide_eq_true hq,a5,a6];rfl)]
       exact done _ (zS1 l) (zS1 o) (zS1 C) (zS1 I) (zS1 t) (by simp[go_sem,e7]) zSi zSi
      .simp [go_sem,l,o,t,e7,e8,J,qo,x1,x2,a8,x5,R,m1,m2,a0,a1,a2,a3,w2,a7,aa]
       exact done _ (zS1 l) (zS1 o) (zS1 C) (zS1 I) (zS1 t) (by simp[go_sem,e7]) zSi (by simp[go_sem,a4 (.inr zOm)])
     .have a7:¬(i:Int).tmod 4=(k:Int) / n:=fun e=>hq (by rw[uZ zOm,<-y4]at e;exact Int.ofNat.inj e)
      simp[go_sem,l,o,t,e7,e8,J,qo,x1,x2,a8,x5,R,m1,m2,a0,a1,a2,a3,w2,a7];exact done _ (zS1 l) (zS1 o) (zS1 C) (zS1 I) (zS1 t) (by simp[go_sem,e7]) zSi (by simp[go_sem,a4 (.inl (by rw[decide_eq_false hq];rfl))])
  .have ah:k=sb:=by omega
   subst ah;simp[go_sem,e7,w1];exact⟨a9,aK ⟨zS1 l,zS1 o,zS1 C,zS1 I,zS1 t,zSi,by simp[go_sem];rw[<-hP]⟩⟩
 .have ai:i=sa:=by omega
  subst ai;rw[ae];generalize (fun j=>(qp i).any fun i=>F i sb j)=T at *
  simp[go_sem,C,I,qo,tk,pc];rw[if_pos (qU _)];simp[go_sem,C,qo,tk];exact .hf _ (yg (_,T))
end QE
namespace QF
open Y2 Y3 P1 P2 QD QE
section
variable {p q:Int}{a b:Kd}{l:List Int}{m ns:Nat}
def dig(k:Int)(j:Nat):List Int:=if k=0 then [] else if k=1 then [(j:Int)] else if k=2 then [((j / 4:Nat):Int),((j % 4:Nat):Int)] else [((j / 16:Nat):Int),((j / 4 % 4:Nat):Int),((j % 4:Nat):Int)]
theorem Zr{k}(h:0<=k/\k<=3)(j):((dig k j).length:Int)=k:=by
 grind [dig]
theorem szA1:szA 1=4:=rfl
theorem szA2:szA 2=16:=rfl
theorem szA3:szA 3=64:=rfl
theorem Jy(h:0<=p/\p<=3):p=0\/p=1\/p=2\/p=3:=by omega
theorem qa2(g:0<=p)(i:0<=q)(h:p+q<=3){j}(l:j<szA (p+q)):j / szA q<szA p/\j % szA q<szA q/\dig (p+q) j=dig p (j / szA q)++dig q (j % szA q):=by
 rcases Jy (p:=p) ⟨g,zOm⟩ with rfl|rfl|rfl|rfl<;>rcases Jy (p:=q) ⟨i,zOm⟩ with rfl|rfl|rfl|rfl<;>first | (exfalso;omega)|skip
 all_goals simp[dig,szA]at l⊢
 all_goals omega
theorem XV(g:0<=p)(j:0<=q)(h:p+q<=3){i k}(l:i<szA p)(o:k<szA q):i*szA q+k<szA (p+q)/\dig (p+q) (i*szA q+k)=dig p i++dig q k:=by
 rcases Jy (p:=p) ⟨g,zOm⟩ with rfl|rfl|rfl|rfl<;>rcases Jy (p:=q) ⟨j,zOm⟩ with rfl|rfl|rfl|rfl<;>first | (exfalso;omega)|skip
 all_goals simp[dig,szA]at l o⊢
 all_goals omega
theorem XW(h:0<=p/\p<=3){i j}(g:i<szA p)(l:j<szA p)(e:dig p i=dig p j):i=j:=by
 rcases Jy h with rfl|rfl|rfl|rfl
 all_goals grind [dig,szA]
 all_goals omega
theorem qa3(h:1<=p/\p<=3){l}(j:(l.length:Int)=p)(g:∀ x,x∈l->0<=x/\x<4):∃ i,i<szA p/\l=dig p i:=by
 match l,j,g with
 | [],j,_=>simp at j;omega
 | [a],j,g =>
  obtain rfl:p=1:=by grind
  have:=g a zSp;exact⟨a.toNat,by rw[szA1];omega,by simp[dig];omega⟩
 | [a,b],j,g =>
  obtain rfl:p=2:=by grind
  have:=g a zSp;have:=g b zSp;exact⟨(a*4+b).toNat,by rw[szA2];omega,by simp[dig];omega⟩
 | [a,b,c],j,g =>
  obtain rfl:p=3:=by grind
  have:=g a zSp;have:=g b zSp;have:=g c zSp;exact⟨(a*16+b*4+c).toNat,by rw[szA3];omega,by simp[dig];omega⟩
 |a :: b :: c :: d :: l,j,_=>simp at j;omega
theorem XX{l'}(h:l.length=l'.length)(g:l.length<=3)(e:pad l=pad l'):l=l':=by
 have i:=Zi g l.length (qh _);have j:=Zi (l:=l') zOm l'.length (qh _)
 grind
theorem Ya{k}(h:okKd ns k)(g:ns<=4){t:Tp}(j:t∈k.ts):∃ i,i<szA k.ar/\t=pad (dig k.ar i):=by
 obtain⟨l,rfl,o,p⟩:=h.ts t j;obtain⟨i,C,e⟩:=qa3 h.ar o fun x I=>by grind
 grind
def ql(k:Kd):RS:=(k.ar,fun j=>decide (j<szA k.ar/\pad (dig k.ar j)∈k.ts))
theorem yA(k j):(ql k).2 j=true↔j<szA k.ar/\pad (dig k.ar j)∈k.ts:=decide_eq_true_iff
theorem wH{a b}(g:a.1=b.1)(i:∀ j,j<64->a.2 j=b.2 j):eRS a=eRS b:=by
 simp only[eRS,cRS,g,uf i]
theorem Jz(h:a.ar=b.ar):eRS (uniS (ql a) (ql b))=eRS (ql (kSum a b)):=by
 refine wH rfl fun j g=>?_
 rw[wM,yA];show ((ql a).2 j||(ql b).2 j)=true↔j<szA a.ar/\pad (dig a.ar j)∈uni (uni [] a.ts) b.ts;rw[Bool.or_eq_true,yA,yA,<-h,j8,j8]
 grind
theorem ql5(h:a.ar=b.ar):eRS (intS (ql a) (ql b))=eRS (ql (Zc a b)):=by
 refine wH rfl fun j g=>?_
 rw[wM,yA];show ((ql a).2 j&&(ql b).2 j)=true↔j<szA a.ar/\pad (dig a.ar j)∈a.ts.filter fun t=>decide (t∈b.ts)
 rw[qx,yA,yA,<-h,jC,decide_eq_true_eq]
 grind
theorem YO{n a b t}:t∈wu n m a b↔∃ x y,x∈a/\y∈b/\conc x n y m 0=t:=by
 unfold wu;rw[j8];simp only[qG,false_or,qn,Prod.exists,ZQ]
 grind
theorem Jc{l' n}(h:l.length=n)(g:l'.length=m)(i:n<=3)(j:m<=3):conc (pad l) n (pad l') m 0=pad (l++l'):=by
 unfold conc;rw[Nat.sub_zero,List.drop_zero,Zi zOm n zOm,Zi zOm m zOm,<-h,<-g,zi,zi]
theorem ql6(P:okKd ns a)(R:okKd ns b)(l:ns<=4)(T:a.ar+b.ar<=3):eRS (XU (ql a) (ql b))=eRS (ql (vT a b)):=by
 have a0:=P.ar;have a1:=R.ar;have la:=fun i=>Zr (k:=a.ar) zOm i
 have lb:=fun i=>Zr (k:=b.ar) zOm i
 have g:=fun i=>Zr (k:=a.ar+b.ar) zOm i
 refine wH rfl fun j hj=>?_
 rw[wM,yA];show (decide (j<szA a.ar*szA b.ar)&&((ql a).2 (j / szA b.ar)&&(ql b).2 (j % szA b.ar)))=true↔j<szA (a.ar+b.ar)/\pad (dig (a.ar+b.ar) j)∈wu a.ar.toNat b.ar.toNat a.ts b.ts;rw[qx,qx,yA,yA,YO,decide_eq_true_eq];constructor
 .rintro ⟨_,⟨t,h2⟩,h4,h5⟩
  have C:=XV (p:=a.ar) (q:=b.ar) zOm zOm T t h4
  grind [szA,Nat.div_add_mod',Jc]
 .rintro ⟨t,x,y,U,hy,e⟩
  obtain⟨i,I,rfl⟩:=Ya P l U;obtain⟨k,o,rfl⟩:=Ya R l hy;rw[Jc (zW1 (la i)) (zW1 (lb k)) zOm zOm]at e;have C:=XV (p:=a.ar) (q:=b.ar) zOm zOm T I o;rw[<-C.2]at e;have e2:=XX (zW2 (g (i*szA b.ar+k)) (g j)) (zW1 (g (i*szA b.ar+k))) e;have J:=XW zOm C.1 t e2;have a2:=Jx b.ar;have d1:j / szA b.ar=i:=by rw[<-J,Nat.add_comm,Nat.add_mul_div_right _ _ zOm,Nat.div_eq_of_lt o,yJ]
  have d2:j % szA b.ar=k:=by rw[<-J,Nat.add_comm,Nat.add_mul_mod_self_right,Nat.mod_eq_of_lt o]
  rw[d1,d2];refine⟨?_,⟨I,U⟩,o,hy⟩;rw[<-J]
  calc i*szA b.ar+k<i*szA b.ar+szA b.ar:=by omega
   _=(i+1)*szA b.ar:=by rw[Nat.add_mul,Nat.one_mul]
   _<=szA a.ar*szA b.ar:=Nat.mul_le_mul_right _ I
theorem wW{n a b t}:t∈vS n m a b↔∃ x y,x∈a/\y∈b/\x.getD (n-1) 0=y.getD 0 0/\conc x n y m 1=t:=by
 unfold vS;rw[j8];simp only[qG,false_or,List.mem_filterMap,Prod.exists,ZQ];constructor
 .rintro ⟨x,y,⟨i,j⟩,g⟩
  split at g
  .rename_i h;cases g;exact⟨x,y,i,j,h,rfl⟩
  .cases g
 .rintro ⟨x,y,i,j,g,l⟩;exact⟨x,y,⟨i,j⟩,by rw[if_pos g,l]⟩
theorem ql7{u v e f n}(h:u.length+1=n)(g:v.length+1=m)(i:n<=3)(j:m<=3):conc (pad (u++[e])) n (pad ([f]++v)) m 1=pad (u++v):=by
 unfold conc;rw[Zi zSo (n-1) zSo,Zi zSo m zSo,List.take_append_of_le_length zOm,yr zOm,yr zSo];rfl
theorem qa4{k}(h:k<3):(pad l).getD k 0=l.getD k 0:=by
 match k,h with
 | 0,_=>rfl
 | 1,_=>rfl
 | 2,_=>rfl
theorem ql8(g:0<=p/\p<=2){i}(j:i<szA (p+1)):i / 4<szA p/\dig (p+1) i=dig p (i / 4)++[((i % 4:Nat):Int)]:=by
 have:=qa2 (p:=p) (q:=1) g.1 zOm zOm j;rw[szA1]at this;exact⟨this.1,this.2.2⟩
theorem ql9(g:0<=q/\q<=2){k}(i:k<szA (1+q)):k % szA q<szA q/\dig (1+q) k=[((k / szA q:Nat):Int)]++dig q (k % szA q):=by
 have:=qa2 (p:=1) (q:=q) zOm g.1 zOm i;exact⟨this.2.1,this.2.2⟩
theorem qmA(g:0<=q/\q<=2):szA (q+1) / 4=szA q/\szA (q+1)=4*szA q:=by
 rcases (show q=0\/q=1\/q=2 by omega) with rfl|rfl|rfl<;>exact⟨rfl,rfl⟩
theorem qa5(ha:okKd ns a)(hb:okKd ns b)(t:ns<=4)(h3:1<=a.ar+b.ar-2/\a.ar+b.ar-2<=3):eRS (Zq (ql a) (ql b))=eRS (ql (zw a b)):=by
 have a0:=ha.ar;have a3:=hb.ar;obtain⟨p,hp⟩:∃ p,p=a.ar-1:=⟨_,rfl⟩;obtain⟨q,hq⟩:∃ q,q=b.ar-1:=⟨_,rfl⟩;have ea:a.ar=p+1:=zOm;have eb:b.ar=1+q:=zOm;have C:b.ar=q+1:=zOm;have I:a.ar+b.ar-2=p+q:=zOm;have P:=qmA (q:=q) zOm;have hn:szA b.ar / 4=szA q:=by rw[C];exact P.1
 have lp:=fun i=>Zr (k:=p) zOm i
 have lq:=fun i=>Zr (k:=q) zOm i
 have o:=fun i=>Zr (k:=p+q) zOm i
 have A:∀ i,i<szA a.ar->i / 4<szA p/\dig a.ar i=dig p (i / 4)++[((i % 4:Nat):Int)]:=fun i g=>by rw[ea]at g⊢;exact ql8 zOm g
 have B:∀ k,k<szA b.ar->k % szA q<szA q/\dig b.ar k=[((k / szA q:Nat):Int)]++dig q (k % szA q):=fun k l=>by rw[eb]at l⊢;exact ql9 zOm l
 have J:∀ i k,i<szA a.ar->k<szA b.ar->i / 4*szA q+k % szA q<szA (p+q)/\(pad (dig a.ar i)).getD (a.ar.toNat-1) 0=((i % 4:Nat):Int)/\(pad (dig b.ar k)).getD 0 0=((k / szA q:Nat):Int)/\conc (pad (dig a.ar i)) a.ar.toNat (pad (dig b.ar k)) b.ar.toNat 1=pad (dig (p+q) (i / 4*szA q+k % szA q)):=fun i k g l=>by
  obtain⟨a1,a2⟩:=A i g;obtain⟨b1,b2⟩:=B k l;have hm:=XV (p:=p) (q:=q) zOm zOm zOm a1 b1;have l1:=lp (i / 4);have l2:=lq (k % szA q);refine⟨hm.1,?_,?_,?_⟩
  .rw [qa4 zOm,a2,show a.ar.toNat-1=(dig p (i / 4)).length by omega];simp
  .rw [qa4 zOm,b2];rfl
  .rw [a2,b2,hm.2];exact ql7 zOm zOm zOm zOm
 refine wH rfl fun j hj=>?_
 rw[wM,yA];show ((qp (szA a.ar)).any fun i=>(qp (szA b.ar)).any fun k=>decide (i / 4*(szA b.ar / 4)+k % (szA b.ar / 4)=j)&&(decide (i % 4=k / (szA b.ar / 4))&&((ql a).2 i&&(ql b).2 k)))=true↔j<szA (a.ar+b.ar-2)/\pad (dig (a.ar+b.ar-2) j)∈vS a.ar.toNat b.ar.toNat a.ts b.ts;rw[wW,List.any_eq_true,hn,I];constructor
 .rintro ⟨i,g,h⟩
  obtain⟨k,l,h⟩:=List.any_eq_true.1 h;rw[zO]at g l;rw[qx,qx,qx,decide_eq_true_eq,decide_eq_true_eq,yA,yA]at h;obtain⟨rfl,R,⟨_,h4⟩,_,h5⟩:=h;obtain⟨T,U,j3,j4⟩:=J i k g l;exact⟨T,_,_,h4,h5,by rw[U,j3,R],j4⟩
 .rintro ⟨h1,x,y,hx,hy,R,e⟩
  obtain⟨i,g,rfl⟩:=Ya ha t hx;obtain⟨k,l,rfl⟩:=Ya hb t hy;obtain⟨T,U,j3,j4⟩:=J i k g l;rw[j4]at e;have e2:=XX (zW2 (o (i / 4*szA q+k % szA q)) (o j)) (zW1 (o (i / 4*szA q+k % szA q))) e;have e3:=XW zOm T h1 e2;rw[U,j3]at R;refine⟨i,zO.2 g,List.any_eq_true.2 ⟨k,zO.2 l,?_⟩⟩;rw[qx,qx,qx,decide_eq_true_eq,decide_eq_true_eq,yA,yA];exact⟨e3,zOm,⟨g,hx⟩,l,hy⟩
theorem qmB(o:okKd ns a)(g:ns<=4)(p:a.ar=2):eRS (trS (ql a))=eRS (ql (kTr a)):=by
 refine wH rfl fun j J=>?_
 rw[wM,yA];show (decide (j<16)&&(ql a).2 (j % 4*4+j / 4))=true↔j<16/\pad (dig 2 j)∈uni [] (a.ts.map fun t=>[t.getD 1 0,t.getD 0 0,0]);rw[qx,yA,j8,decide_eq_true_eq,p,szA2];simp only[qG,false_or,qn];constructor
 .rintro ⟨l,P,C⟩
  refine⟨l,_,C,?_⟩
  grind [dig,pad]
 .rintro ⟨l,t,I,e⟩
  obtain⟨i,R,rfl⟩:=Ya o g I
  grind [szA2,dig,pad]
theorem XY(h:1<=l.length/\l.length<=3)(g:∀ x,x∈l->0<=x/\x<4):eRS (oneS l)=eRS (ql (kOf l)):=by
 refine wH rfl fun j R=>?_
 obtain⟨i,o,e⟩:=qa3 (p:=(l.length:Int)) zOm rfl g;have t:atF 0 l=i:=by
  match l,h,g,o,e with
  | [x],_,g,o,e =>
   have:=g x zSp;simp[dig]at e;simp[atF,IntKind.wrap,IntKind.signed,IntKind.bits];omega
  | [x,y],_,g,o,e =>
   have:=g x zSp;have:=g y zSp;simp[dig]at e;simp[atF,IntKind.wrap,IntKind.signed,IntKind.bits];omega
  | [x,y,z],_,g,o,e =>
   have:=g x zSp;have:=g y zSp;have:=g z zSp;simp[dig]at e;simp[atF,IntKind.wrap,IntKind.signed,IntKind.bits];omega
 rw[wM,yA];show decide ((j:Int)=atF 0 l)=true↔j<szA (l.length:Int)/\pad (dig (l.length:Int) j)∈[pad l];rw[decide_eq_true_eq,t,qO];have I:=fun j=>Zr (k:=(l.length:Int)) zOm j
 constructor
 .intro J
  obtain rfl:j=i:=zOm
  grind
 .rintro ⟨J,P⟩
  have C:=XX (zW1 (I j)) (zW1 (I j)) P;rw[e]at C;have:=XW (p:=(l.length:Int)) zOm J o (by rw[<-e]at C⊢;exact C);omega
end
end QF
namespace QG
open Y2 P1 P2 PB QE QF
section
variable {k:Kd}{ns:Nat}
def JA(k:Kd):Kd:=kSum k (zw k k)
def itK:Nat->Kd->Kd
 | 0,k=>k
 |i+1,k=>JA (itK i k)
theorem qmC(h:okKd ns k)(g:k.ar=2):okKd ns (JA k)/\(JA k).ar=2:=
 ⟨Jb h (Jd h h zOm zOm) (by grind [zw]),g⟩
theorem okIt(h:okKd ns k)(g:k.ar=2):∀ i,okKd ns (itK i k)/\(itK i k).ar=2
 | 0=>⟨h,g⟩
 |i+1=>qmC (okIt h g i).1 (okIt h g i).2
abbrev Ed(k:Kd)(u v:Int):Prop:=[u,v,0]∈k.ts
theorem Ul(h:okKd ns k)(o:k.ar=2){t:Tp}(j:t∈k.ts):∃ u v,t=[u,v,0]/\(0<=u/\u<ns)/\(0<=v/\v<ns):=by
 obtain⟨l,rfl,g,i⟩:=h.ts t j
 match l,g,i with
 | [u,v],_,i=>exact⟨u,v,rfl,i u zSp,i v zSp⟩
 | [],g,_=>simp at g;omega
 | [_],g,_=>simp at g;omega
 |_ :: _ :: _ :: _,g,_=>simp at g;omega
theorem qa6(h:okKd ns k)(j:k.ar=2){u v}:[u,v,0]∈(zw k k).ts↔∃ w,Ed k u w/\Ed k w v:=by
 show [u,v,0]∈vS k.ar.toNat k.ar.toNat k.ts k.ts↔_;rw[QF.wW,j];constructor
 .rintro ⟨x,y,l,o,g,i⟩
  obtain⟨a,b,rfl,_,_⟩:=Ul h j l;obtain⟨c,d,rfl,_,_⟩:=Ul h j o;have g:b=c:=g;have i:[a,d,0]=[u,v,0]:=i
  grind
 .rintro ⟨w,g,i⟩
  exact⟨[u,w,0],[w,v,0],g,i,rfl,rfl⟩
theorem XZ(h:okKd ns k)(g:k.ar=2){u v}:Ed (JA k) u v↔Ed k u v\/∃ w,Ed k u w/\Ed k w v:=by
 unfold Ed JA;rw[Qk,qa6 h g]
def Path(k:Kd)(n:Nat)(u v:Int):Prop:=∃ f:Nat->Int,f 0=u/\f n=v/\∀ i,i<n->Ed k (f i) (f (i+1))
theorem Path.one{u v}(h:Ed k u v):Path k 1 u v:=⟨fun i=>if i=0 then u else v,rfl,rfl,fun i g=>by
 grind⟩
theorem Path.comp{n m u w v}(h:Path k n u w)(o:Path k m w v):Path k (n+m) u v:=by
 obtain⟨f,f0,fn,hf⟩:=h;obtain⟨g,p,t,C⟩:=o;refine⟨fun i=>if i<n then f i else g (i-n),?_,?_,fun i I=>?_⟩
 .grind
 .grind
 .by_cases j:i+1<n
  .simp only[if_pos j,if_pos (show i<n by omega)];grind
  .by_cases l:i<n
   .have e:i+1=n:=by omega
    simp only[if_neg j,if_pos l]
    grind
   .simp only[if_neg j,if_neg l,show i+1-n=(i-n)+1 by omega]
    grind
theorem cY(h:okKd ns k)(P:k.ar=2)(g:ns<=4):∀ N n u v,n<=N->1<=n->Path k n u v->∃ m,1<=m/\m<=4/\Path k m u v
 | 0,n,u,v,R,T,_=>zOm
 | N+1,n,u,v,R,T,U=>by
  by_cases h4:n<=4
  .grind
  obtain⟨f,f0,fn,hf⟩:=U;have hr:∀ i,i<5->0<=f i/\f i<4:=fun i C=>by
   grind [Ul]
  obtain⟨i,j,a0,hj,e⟩:∃ i j,i<j/\j<5/\f i=f j:=by
   apply Classical.byContradiction;intro l;have o:((qp 5).map f).Nodup:=List.pairwise_map.2 (List.pairwise_lt_range.imp_of_mem fun {a b} ha hb p e=>l ⟨a,b,p,zO.1 hb,e⟩);have:=yY o (l₂:=[0,1,2,3]) fun x I=>by
    obtain⟨i,C,rfl⟩:=qn.1 I;have:=hr i (zO.1 C);simp;omega
   simp at this
  refine cY h P g N (n-(j-i)) u v zOm zOm ⟨fun x=>if x<i then f x else f (x+(j-i)),?_,?_,fun x I=>?_⟩
  .grind
  .simp only[if_neg (show ¬n-(j-i)<i by omega),show n-(j-i)+(j-i)=n by omega,fn]
  .by_cases t:x+1<i
   .simp only[if_pos t,if_pos (show x<i by omega)];grind
   .by_cases J:x<i
    .have e1:x+1=i:=by omega
     simp only[if_neg t,if_pos J]
     grind
    .simp only[if_neg t,if_neg J,show x+1+(j-i)=(x+(j-i))+1 by omega]
     exact hf _ zOm
theorem JB(h:okKd ns k)(g:k.ar=2):∀ i u v,Ed (itK i k) u v->∃ n,1<=n/\Path k n u v
 | 0,u,v,j=>⟨1,zOm,.one j⟩
 |i+1,u,v,j=>by
  rcases (XZ (okIt h g i).1 (okIt h g i).2).1 j with j|⟨w,l,o⟩
  .exact JB h g i u v j
  .obtain ⟨n,t,p⟩:=JB h g i u w l
   obtain⟨m,C,q⟩:=JB h g i w v o;exact⟨n+m,zOm,p.comp q⟩
theorem Yb(i):Sub (itK i k) (itK (i+1) k):=Xy _ _
theorem qmD(h:okKd ns k)(g:k.ar=2){m u v}(p:1<=m)(t:m<=4)(o:Path k m u v):Ed (itK 4 k) u v:=by
 obtain⟨f,rfl,rfl,hf⟩:=o;have up:∀{u v},Ed (itK 2 k) u v->Ed (itK 4 k) u v:=fun i=>(Yb 3).2 _ ((Yb 2).2 _ i)
 have s1:∀{u w v},Ed (itK 0 k) u w->Ed (itK 0 k) w v->Ed (itK 1 k) u v:=fun a b=>(XZ (okIt h g 0).1 (okIt h g 0).2).2 (.inr ⟨_,a,b⟩)
 have j:∀{u w v},Ed (itK 1 k) u w->Ed (itK 1 k) w v->Ed (itK 2 k) u v:=fun a b=>(XZ (okIt h g 1).1 (okIt h g 1).2).2 (.inr ⟨_,a,b⟩)
 have l:∀{u v},Ed (itK 0 k) u v->Ed (itK 1 k) u v:=fun i=>(Yb 0).2 _ i
 refine up ?_;rcases (show m=1\/m=2\/m=3\/m=4 by omega) with rfl|rfl|rfl|rfl
 .exact (Yb 1).2 _ (l (hf 0 zOm))
 .exact (Yb 1).2 _ (s1 (hf 0 zOm) (hf 1 zOm))
 .exact j (s1 (hf 0 zOm) (hf 1 zOm)) (l (hf 2 zOm))
 .exact j (s1 (hf 0 zOm) (hf 1 zOm)) (s1 (hf 2 zOm) (hf 3 zOm))
theorem qmE(h:okKd ns k)(g:k.ar=2)(i:ns<=4):Ud (itK 4 k):=fun t l=>by
 have ok:=okIt h g 4;have j:=Jd ok.1 ok.1 (by rw[ok.2];omega) (by rw[ok.2];omega);obtain⟨u,v,rfl,_,_⟩:=Ul j (by grind [zw]) l;obtain⟨w,o,C⟩:=(qa6 ok.1 ok.2).1 l;obtain⟨n,I,p⟩:=JB h g 4 u w o;obtain⟨m,J,q⟩:=JB h g 4 w v C;obtain⟨c,c1,c4,P⟩:=cY h g i (n+m) (n+m) u v (qh _) zOm (p.comp q)
 grind [qmD]
theorem JC{S}(g:Ud S){k}(h:Sub k S):∀ i,Sub (itK i k) S
 | 0=>h
 |i+1=>⟨(JC g h i).1,fun t j=>by
  rcases Qk.1 j with j|j
  .exact (JC g h i).2 t j
  .exact g t ((Uc (JC g h i) (JC g h i)).2 t j)⟩
theorem qa7:∀ i,Sub k (itK i k)
 | 0 => .refl k
 |i+1=>(qa7 i).trans (Yb i)
theorem qmF(h:okKd ns k)(l:k.ar=2)(g:ns<=4):eRS (ql (itK 4 k))=eRS (ql (kClo k)):=by
 have o:Sub (kClo k) (itK 4 k):=XC (qmE h l g) 70 0 k (qa7 4);have i:Sub (itK 4 k) (kClo k):=JC (XD g 70 0 k h l zOm (.inl rfl)) (Xz 70 0 k) 4;refine wH i.1 fun j p=>?_
 rw[wM,yA,yA,i.1];exact⟨fun x=>⟨x.1,i.2 _ x.2⟩,fun x=>⟨x.1,o.2 _ x.2⟩⟩
end
end QG
namespace QH
open YF Y9 Y2 Y3 P1 P2 PB QD QE QF QG
theorem VC{ns a}(h:okKd ns a)(J:a.ar=2)(g:ns<=4):qd qb 236 [eRS (ql a)] (eRS (ql (kClo a))):=by
 refine qSQ call236 func236 rfl { mt:=[1] } ?_;rw[<-qmF h J g];simp[go_sem];refine⟨qU _,?_⟩;refine fZ 4 (fun i U=>U.tm 1 = .ptr 0 0/\U.tm 2 = .ptr 1 0/\U.tm 3=aI i/\U.mu=[.arr (cRS (ql (itK i a))),.arr (aI 0 :: hB fun _=>false)]) ?_ ?_
 .exact ⟨zSi,zSi,zSi,by simp[go_sem];exact⟨⟨rfl,rfl⟩,rfl⟩⟩
 rintro i U hi ⟨l,o,p,P⟩;by_cases t:i<4
 .have j:(i:Int)<4:=by omega
  have R:=zWk i;obtain⟨ok,o2⟩:=okIt h J i;have T:qd qb 233 [eRS (ql (itK i a)),eRS (ql (itK i a))] (eRS (ql (zw (itK i a) (itK i a)))):=by
   rw[<-qa5 ok ok g zOm];exact uD _ _ (by show 0<=(itK i a).ar/\(itK i a).ar<=1000;omega) (by show 1<=(itK i a).ar/\(itK i a).ar<=1000;omega)
  have cu:qd qb 231 [eRS (ql (itK i a)),eRS (ql (zw (itK i a) (itK i a)))] (eRS (ql (itK (i+1) a))):=by
   have:=jz (ql (itK i a)) (ql (zw (itK i a) (itK i a)));rw[Jz (by simp only[zw];omega)]at this;exact this
  generalize C:ql (itK (i+1) a)=s' at *
  generalize ql (zw (itK i a) (itK i a))=q at *
  generalize ql (itK i a)=s at *
  simp[go_sem,p,P,j];refine tN zKr ?_;simp[go_sem,l,qo,tk];refine fB T (.zk (yg _) (.zk (yg _) .nil)) ?_;refine tR cu (.zk (yg _) (.zk (yg _) .nil)) ?_;simp[go_sem,l,qo,pc];rw[if_pos (qU _)];simp[go_sem,p,R];exact⟨t,aK ⟨zS1 l,zS1 o,zSi,zS1 C⟩⟩
 .have I:i=4:=by omega
  subst I;generalize ql (itK 4 a)=s at *
  simp[go_sem,l,o,p,P,qo,tk,pc];rw[if_pos (qU _)];simp[go_sem,o,qo,tk];exact .hf _ (yg s)
theorem qmG(i k)(g:k=1\/k=2):eRS (ql (kSum (zj i k) (kOf (qI k (i:Int)))))=eRS (ql (zj (i+1) k)):=by
 refine wH rfl fun j l=>?_
 rw[wM,yA,yA];show j<szA (k:Int)/\pad (dig (k:Int) j)∈(kSum (zj i k) (kOf (qI k (i:Int)))).ts↔j<szA (k:Int)/\pad (dig (k:Int) j)∈(qp (i+1)).map fun (x:Nat)=>pad (qI k (x:Int))
 rw[Qk,List.range_succ,z6,qL];rfl
theorem qmH(k):hB (ql (zj 0 k)).2=hB fun _=>false:=uf fun j _=>decide_eq_false fun h=>absurd h.2 qG
theorem allU(ts)(h:okTS ts)(k:Nat)(T:k=1\/k=2):qd qb 230 [eTS ts,aI k] (eRS (ql (zj ts.sS.length k))):=by
 refine qSV call230 func230 rfl ?_;have a1:=h.ns;have hz:=qmH k;simp[go_sem];refine fZ ts.sS.length (fun i U=>U.tm 1=aI k/\U.tm 2 = .ip (cTS ts)/\U.tm 4 = .ptr 0 0/\U.tm 5 = .ptr 1 0/\U.tm 6=aI i/\U.mu=[.arr (aI 0 :: hB fun _=>false),.arr (cRS (ql (zj i k)))]) ?_ ?_
 .exact ⟨zSi,zSi,zSi,zSi,zSi,by
   have e:cRS (ql (zj 0 k))=aI k :: hB fun _=>false:=by simp only[cRS,hz];rfl
   rw[e];simp[go_sem];first|rfl|exact⟨rfl,rfl⟩⟩
 rintro i U hi ⟨I,t,J,j,o,P⟩;by_cases g:i<ts.sS.length
 .have w1:=zWk i
  have c1:∀ l:List Int,l=qI k (i:Int)->qd qb 171 [lI l] (eRS (ql (kOf l))):=fun l p=>by
   have a0:l.length=k:=by rw[p,List.length_replicate]
   have:=oneU l zOm;rw[XT]at this;rw[<-QF.XY (l:=l) zOm (fun x hx=>by rw[p]at hx;rw[List.eq_of_mem_replicate hx];omega)];exact this
  have cu:∀ l:List Int,l=qI k (i:Int)->qd qb 231 [eRS (ql (zj i k)),eRS (ql (kOf l))] (eRS (ql (zj (i+1) k))):=fun l p=>by
   have:=jz (ql (zj i k)) (ql (kOf l));rw[Jz (by show (k:Int)=l.length;rw[p,List.length_replicate]),p,qmG i k T]at this;rw[p];exact this
  generalize C:ql (zj (i+1) k)=s' at *
  generalize ql (zj i k)=s at *
  rcases T with rfl|rfl
  .have d1:=c1 [(i:Int)] rfl
   have d2:=cu [(i:Int)] rfl;generalize ql (kOf [(i:Int)])=q at *
   simp[go_sem,I,t,o,P,g];refine tN zKr ?_;simp[go_sem,j,o,qo,tk];refine fB d1 (.cons (QD.wk1 _) .nil) ?_;refine tR d2 (.zk (yg _) (.zk (yg _) .nil)) ?_;simp[go_sem,j,qo,pc];rw[if_pos (qU _)];simp[go_sem,o,w1];exact⟨g,aK ⟨zS1 I,zS1 t,zS1 J,zS1 j,zSi,zS1 C⟩⟩
  .have d1:=c1 [(i:Int),(i:Int)] rfl
   have d2:=cu [(i:Int),(i:Int)] rfl;generalize ql (kOf [(i:Int),(i:Int)])=q at *
   simp[go_sem,I,t,o,P,g];refine tN zKr ?_;simp[go_sem,j,o,qo,tk];refine fB d1 (.cons (QD.wk2 _ _) .nil) ?_;refine tR d2 (.zk (yg _) (.zk (yg _) .nil)) ?_;simp[go_sem,j,qo,pc];rw[if_pos (qU _)];simp[go_sem,o,w1];exact⟨g,aK ⟨zS1 I,zS1 t,zS1 J,zS1 j,zSi,zS1 C⟩⟩
 .have R:i=ts.sS.length:=by omega
  subst R;generalize ql (zj ts.sS.length k)=s at *
  simp[go_sem,t,J,j,o,P,qo,tk,pc];rw[if_pos (qU _)];simp[go_sem,J,qo,tk];exact .hf _ (yg s)
end QH
namespace QI
open YF Y9 Y10 Y1 Y2 P1 P2
theorem qmI{c nm k}(l:k<c.calls)(o)(h:c.ts.sT[k].name=nm)(i:∀(j) (g),j<k->c.ts.sT[j].name≠nm):zd c nm=some k:=by
 unfold zd;rw[List.findIdx?_eq_some_iff_getElem];refine⟨zSo,zP1 h,fun j g=>?_⟩;simp[i j zOm g]
theorem qmJ{c nm}(i:∀(j) (g),j<c.calls->c.ts.sT[j].name≠nm):zd c nm=none:=by
 unfold zd;rw[List.findIdx?_eq_none_iff];intro p l;obtain⟨j,g,e⟩:=List.mem_iff_getElem.1 l;simp at g;rw[List.getElem_take]at e;rw[<-e];exact decide_eq_false (i j zOm zOm)
abbrev idxO:Option Nat->Int
 |some i=>i
 |none => -1
theorem JD(c)(P:okCk c)(nm):qd qb 130 [eTS c.ts,aI c.calls,aS nm] (aI (idxO (zd c nm))):=by
 refine qSV call130 func130 rfl ?_;have R:=P.calls;have T:=P.ts.np;simp[go_sem];refine fZ c.calls (fun k U=>U.tm 1=aI c.calls/\U.tm 2=aS nm/\U.tm 3 = .ip (cTS c.ts)/\U.tm 7=aI k/\∀(j:Nat)(p:j<c.ts.sT.length),j<k->c.ts.sT[j].name≠nm) ?_ ?_
 .exact ⟨zSi,zSi,zSi,zSi,fun j p h=>zOm⟩
 rintro k U hk ⟨l,t,C,e7,I⟩;by_cases g:k<c.calls
 .have w1:=zWk k
  have i:k<c.ts.sT.length:=zOm;by_cases o:c.ts.sT[k].name=nm
  .rw [qmI g i o I]
   simp[go_sem,l,t,C,e7,g,i,o];exact .zsc _
  .simp [go_sem,l,t,C,e7,g,i,ji o,w1]
   refine aK ⟨zS1 l,zS1 t,zS1 C,zSi,fun j p a0=>?_⟩;by_cases he:j=k
   .subst he;exact o
   .exact I j p zOm
 .have J:k=c.calls:=by omega
  subst J;rw[qmJ I];simp[go_sem,l,e7];exact .zsc _
theorem Yc(op):qd qb 164 [aI op] (aB (z7 op)):=by
 refine qSV call164 func164 rfl ?_;by_cases g:op=5
 .rw [show z7 op=true by simp[z7,g]]
  simp[go_sem,g];exact .zsc _
 by_cases i:48<=op
 .by_cases j:op<=51
  .rw [show z7 op=true by unfold z7;rcases (show op=48\/op=49\/op=50\/op=51 by omega) with h|h|h|h<;>simp[h]]
   simp[go_sem,g,i,j];exact .zsc _
  .rw [show z7 op=false by simp[z7,g,show ¬op=48 by omega,show ¬op=49 by omega,show ¬op=50 by omega,show ¬op=51 by omega]]
   simp[go_sem,g,i,j];exact .zsc _
 .rw [show z7 op=false by simp[z7,g,show ¬op=48 by omega,show ¬op=49 by omega,show ¬op=50 by omega,show ¬op=51 by omega]]
  simp[go_sem,g,i];exact .zsc _
abbrev rBo(b:Bool):List AV:=[aB b]
abbrev lBo(l:List Bool):AV := .lst false (l.map rBo)
theorem JE(l):HF (lBo l):=HF.lst fun r i c g=>by
 obtain⟨b,_,rfl⟩:=qn.1 i;rw[qO]at g;subst g;exact HF.sc _
def tpB(c:Ck)(nm:tV):Bool:=match zd c nm with|some p=>c.timed.getD p false|none=>false
theorem Yd(c)(o:okCk c)(nm):qd qb 165 [eTS c.ts,lBo c.timed,aI c.calls,aS nm] (aB (tpB c nm)):=by
 generalize i:tpB c nm=r;unfold tpB at i;refine qSU call165 func165 rfl ?_;refine tR (JD c o nm) (.zk (zl _) (.zs (.zs .nil))) ?_;cases j:zd c nm with
 |none =>
  rw[j]at i;subst i;simp[go_sem,idxO];exact .zsc _
 |some p =>
  rw[j]at i;by_cases l:p<c.timed.length
  .have g:r=c.timed[p]:=by rw[<-i];simp[List.getD,l]
   subst g;simp[go_sem,idxO,l];exact .zsc _
  .have g:r=false:=by rw[<-i];simp[List.getD,l]
   subst g;simp[go_sem,idxO,l];exact .zsc _
theorem qa8(c)(hc:okCk c)(hl:c.timed.length=c.calls):∀ m n,szN n<=m->Small n->qd qb 170 [eTS c.ts,lBo c.timed,eNd n] (aB (z8 c n))
 | 0,n,hm,_=>by obtain⟨op,nm,i,ks,p⟩:=n;simp[szN]at hm
 |m+1,n,hm,hs=>by
  have ih:∀ k,k∈n.sD->qd qb 170 [eTS c.ts,lBo c.timed,eNd k] (aB (z8 c k)):=fun k J =>
   qa8 c hc hl m k (zW1 (q9 J)) (hs.kid J)
  have a0:=hs.len;have P:zE c n.op n.name=(z7 n.op||(decide (n.op=47)&&tpB c n.name)):=rfl;rw[VH,P];generalize hR:n.sD.any (z8 c)=R;have ct:=Yc n.op;have cp:=Yd c hc n.name;generalize z7 n.op=T at *
  generalize tpB c n.name=B at *
  refine qSU call170 func170 rfl ?_;refine tR ct (.zs .nil) ?_;cases T with
  |true =>
   simp[go_sem];exact .zsc _
  |false =>
  rw[Bool.false_or];by_cases h47:n.op=47
  .rw [decide_eq_true h47,Bool.true_and]
   simp[go_sem,h47,hl];refine tR cp (.zk (zl _) (.zk (JE _) (.zs (.zs .nil)))) ?_;cases B with
   |true =>
    simp[go_sem];exact .zsc _
   |false =>
   rw[Bool.false_or];simp[go_sem];refine fZ n.sD.length (fun k U=>U.tm 1=lBo c.timed/\U.tm 3 = .ip (cTS c.ts)/\U.tm 5 = .ip (cNd n)/\U.tm 7=aI k/\(n.sD.drop k).any (z8 c)=R) ?_ ?_
   .exact ⟨zSi,zSi,zSi,zSi,zUs hR⟩
   rintro k U J ⟨t,C,l,e7,j⟩;by_cases o:k=n.sD.length
   .subst o
    rw[zF]at j;have j:R=false:=by rw[<-j];rfl
    subst j;simp[go_sem,l,e7];exact .zsc _
   have g:k<n.sD.length:=zOm;have w1:=zWk k;rw[qY g,List.any_cons]at j;have hi:=ih n.sD[k] (qq g);simp[go_sem,l,e7,g];refine tN zKr ?_;simp[go_sem,t,C,l,e7,g];refine tR hi (.zk (zl _) (.zk (JE _) (.zk (qz _) .nil))) ?_;cases I:z8 c n.sD[k] with
   |true =>
    rw[I,Bool.true_or]at j;subst j;simp[go_sem];exact .zsc _
   |false =>
    rw[I,Bool.false_or]at j;simp[go_sem,e7,g,w1];exact aK ⟨zS1 t,zS1 C,zS1 l,zSi,j⟩
  .rw [decide_eq_false h47,Bool.false_and,Bool.false_or]
   simp[go_sem,h47];refine fZ n.sD.length (fun k U=>U.tm 1=lBo c.timed/\U.tm 3 = .ip (cTS c.ts)/\U.tm 5 = .ip (cNd n)/\U.tm 7=aI k/\(n.sD.drop k).any (z8 c)=R) ?_ ?_
   .exact ⟨zSi,zSi,zSi,zSi,zUs hR⟩
   rintro k U J ⟨t,C,l,e7,j⟩;by_cases o:k=n.sD.length
   .subst o
    rw[zF]at j;have j:R=false:=by rw[<-j];rfl
    subst j;simp[go_sem,l,e7];exact .zsc _
   have g:k<n.sD.length:=zOm;have w1:=zWk k;rw[qY g,List.any_cons]at j;have hi:=ih n.sD[k] (qq g);simp[go_sem,l,e7,g];refine tN zKr ?_;simp[go_sem,t,C,l,e7,g];refine tR hi (.zk (zl _) (.zk (JE _) (.zk (qz _) .nil))) ?_;cases I:z8 c n.sD[k] with
   |true =>
    rw[I,Bool.true_or]at j;subst j;simp[go_sem];exact .zsc _
   |false =>
    rw[I,Bool.false_or]at j;simp[go_sem,e7,g,w1];exact aK ⟨zS1 t,zS1 C,zS1 l,zSi,j⟩
theorem X0(l:List Bool):qW 1 (l.map rBo):=fun r g=>by
 obtain⟨b,_,rfl⟩:=qn.1 g;exact⟨rfl,rfl⟩
theorem appBo{mu lo s xs b K}(g:OwnF lo mu 1 s (xs.map rBo))(p:xs.length<=100000)(l:∀ av mu',OwnF lo mu' 1 av ((xs++[b]).map rBo)->(∀ i,i<lo->mu'[i]?=mu[i]?)->K av mu') :
  qu qb mu #[55,55] s (.lst true [[aB b]]) K:=by
 refine qu.ownF (lo:=lo) (e:=4) (sz:=1) (bt:=1) (zv:=aB false) (xs:=xs.map rBo) (ys:=[rBo b]) zSi zSi zSi rfl rfl zOm zOm g (by simp[qE]) (X0 xs) (X0 [b]) zSo ?_;intro av mu' h o;exact l av mu' (by rw[z6];exact h) o
theorem rdBo{lo mu av l}(i:OwnF lo mu 1 av (l.map rBo)):Rd mu av (lBo l):=
 Own.rd (sz:=1) i.1 (X0 l).ok fun r j c g=>by
  obtain⟨b,_,rfl⟩:=qn.1 j;rw[qO]at g;subst g;exact HF.sc _
theorem qmK(ts)(h:okTS ts)(hp:∀ p,p∈ts.sT->WfN p.body):qd qb 101 [eTS ts] (lBo (tmsL ts ts.sT.length)):=by
 refine qSV call101 func101 rfl ?_;have a0:=h.np;simp[go_sem];refine fZ ts.sT.length (fun k U=>U.tm 1 = .ip (cTS ts)/\U.tm 4=aI k/\OwnF 0 U.mu 1 (U.tm 3) ((tmsL ts k).map rBo)) ?_ ?_
 .exact ⟨zSi,zSi,by simp[go_sem,tmsL];exact OwnF.nil (Nat.zero_le _)⟩
 rintro k U hk ⟨l,o,t⟩;by_cases g:k<ts.sT.length
 .have w1:=zWk k
  generalize C:U.tm 3=i at *
  have I:=rdBo t;have ht:=qa8 (mkCk ts k) (jS h zOm) (Zh ts k zOm) (szN ts.sT[k].body) ts.sT[k].body (qh _) (hp _ (qq g)).small;have T:=Zh ts k zOm;have j:tmsL ts (k+1)=tmsL ts k++[z8 (mkCk ts k) ts.sT[k].body]:=by
   show tmsL ts k++(match ts.sT[k]? with|some p=>[z8 ⟨ts,k,tmsL ts k⟩ p.body] | none=>[])=_;rw[qC g];rfl
  simp[go_sem,l,o,g];refine tN zKr ?_;simp[go_sem,l,o,C,g];refine fR (args':=[eTS ts,lBo (tmsL ts k),eNd ts.sT[k].body]) ht ⟨.hf _ (zl ts),I,.hf _ (qz _),trivial⟩ (FL.sc _) ?_;simp[go_sem];refine appBo t zOm fun a1 m' P _=>?_
  simp[go_sem,o,g,w1];exact aK ⟨zS1 l,zSi,by rw[j];simpa[go_sem] using P⟩
 .have R:k=ts.sT.length:=by omega
  subst R;generalize C:U.tm 3=i at *
  simp[go_sem,l,o,C];exact rdBo t
end QI
namespace QJ
open YF Y10 Y1 P1 QD QE QF
abbrev Vr:=tV×RS
abbrev cVr(v:Vr):List AV:=aS v.1 :: cRS v.2
abbrev lVr(l:List Vr):AV := .lst false (l.map cVr)
theorem qa9(v):∀ c,c∈cVr v->HF c:=fun c g=>by
 rcases qs.1 g with rfl|g
 .exact HF.sc _
 .exact ((setC v.2).sc c g).2
theorem qmL(l):HF (lVr l):=HF.lst fun r g c i=>by
 obtain⟨v,_,rfl⟩:=qn.1 g;exact qa9 v c i
theorem X1(v):∀ c,c∈cVr v->c.one=true:=fun c g=>by
 rcases qs.1 g with rfl|g
 .rfl
 .exact ((setC v.2).sc c g).1
theorem X2(l:List Vr):qW 66 (l.map cVr):=fun r g=>by
 obtain⟨v,_,rfl⟩:=qn.1 g;exact⟨by simp[hB],qR.2 (X1 v)⟩
theorem X3{mu lo s x}{xs ys:List Vr}{K}(g:OwnF lo mu 66 s (xs.map cVr))(j:qE mu x=some (ys.map cVr))(p:xs.length+ys.length<=100000)(l:∀ av mu',OwnF lo mu' 66 av ((xs++ys).map cVr)->(∀ i,i<lo->mu'[i]?=mu[i]?)->K av mu') :
  qu qb mu #[162,162] s x K:=by
 refine qu.ownF (lo:=lo) (e:=235) (sz:=66) (bt:=88) (zv := .agg (aS ⟨#[]⟩ :: aI 0 :: zs)) (xs:=xs.map cVr) (ys:=ys.map cVr) zSi zSi (by simp[go_sem];rfl) rfl rfl zOm zOm g j (X2 xs) (X2 ys) zSo ?_;intro av mu' h o;exact l av mu' (by rw[z6];exact h) o
theorem rdVr{lo mu av l}(g:OwnF lo mu 66 av (l.map cVr)):Rd mu av (lVr l):=
 Own.rd (sz:=66) g.1 (X2 l).ok fun r i c j=>by
  obtain⟨v,_,rfl⟩:=qn.1 i;exact qa9 v c j
theorem pcV(n q):putCells (aS n :: aI 0 :: zs) 1 (aI q.1 :: hB q.2)=cVr (n,q):=by
 have g:zs.length=64:=rfl;rw[y5 _ _ _ (by simp[qo,g])];simp[qo,g,List.drop_of_length_le]
def envV(env:List (tV×Int)):List Vr:=env.map fun p=>(p.1,ql (kOf [p.2]))
theorem envU(env)(hl:env.length<=1000)(hr:∀ p,p∈env->0<=p.2/\p.2<4):qd qb 102 [lPm env] (lVr (envV env)):=by
 refine qSU call102 func102 rfl ?_;refine fZ env.length (fun k U=>U.tm 0=lPm env/\U.tm 4=aI k/\OwnF 0 U.mu 66 (U.tm 3) ((envV (env.take k)).map cVr)) ?_ ?_
 .exact ⟨zSi,zSi,by simp[go_sem,envV];exact OwnF.nil (Nat.zero_le _)⟩
 rintro k U hk ⟨t,I,J⟩;by_cases g:k<env.length
 .have w1:=zWk k
  generalize P:U.tm 3=i at *
  have hp:=hr _ (qq g);have c1:qd qb 171 [lI [env[k].2]] (eRS (ql (kOf [env[k].2]))):=by
   have:=oneU [env[k].2] zSp;rw[XT]at this;rw[<-QF.XY (l:=[env[k].2]) zSp (fun x hx=>by rw[qO]at hx;subst hx;exact hp)];exact this
  have o:envV (env.take (k+1))=envV (env.take k)++[(env[k].1,ql (kOf [env[k].2]))]:=by
   unfold envV;rw[List.take_succ_eq_append_getElem g,z6];rfl
  have a3:(envV (env.take k)).length=k:=by simp[envV];omega
  generalize ql (kOf [env[k].2])=q at *
  simp[go_sem,t,I,g];refine tN zKr ?_;simp[go_sem,t,I,P,g];refine fB c1 (.cons (QD.wk1 _) .nil) ?_;rw[if_pos ⟨qo _,qU _⟩];generalize hC:putCells _ 1 _=C;have R:C=cVr (env[k].1,q):=by rw[<-hC];exact pcV _ _
  subst R;clear hC;have T:(cVr (env[k].1,q)).length=66:=by simp[qo]
  have a0:=X1 (env[k].1,q);generalize hV:cVr (env[k].1,q)=V at *
  simp[go_sem,T];rw[if_pos a0];simp[go_sem];refine X3 (ys:=[(env[k].1,q)]) J (by simp[qE,hV]) zSo fun a4 m' a1 _=>?_
  simp[go_sem,I,g,w1];exact aK ⟨zS1 t,zSi,by rw[o];simpa[go_sem] using a1⟩
 .have a2:k=env.length:=by omega
  subst a2;rw[zi]at J;generalize P:U.tm 3=i at *
  simp[go_sem,t,I,P];exact rdVr J
end QJ
namespace QK
open Y9 Y2 P1 QD QE QF
def fin(c:List AV)(l:List Kd):List AV:=match l.getLast? with|some k=>cRS (ql k)|none=>c
theorem JF(c l m):fin c (l++m)=fin (fin c l) m:=by
 unfold fin;rw[List.getLast?_append];cases m.getLast?<;>rfl
theorem Um(c k):fin c [k]=cRS (ql k):=rfl
theorem oneK{l}(h:1<=l.length/\l.length<=3)(g:∀ x,x∈l->0<=x/\x<4):oneC l=cRS (ql (kOf l)):=by
 rw[XT];exact AV.agg.inj (QF.XY h g)
theorem qbA(nm):∀ l c k,(∀ f,f∈l->(1<=f.sS.length/\f.sS.length<=3)/\∀ x,x∈f.sS->0<=x/\x<4)->nmF nm l (c,k)=(fin c (zG l nm),k+(zG l nm).length)
 | [],c,k,_=>rfl
 |f :: l,c,k,h=>by
  have hf:=h f (qX ..);have j:=fun c k=>qbA nm l c k fun g o=>h g (qP _ o)
  by_cases i:f.name=nm
  .have e:zG (f :: l) nm=[kOf f.sS]++zG l nm:=by simp[zG,i]
   rw[e,JF,Um];simp only[nmF,stF,if_pos i];rw[j,oneK hf.1 hf.2];simp;omega
  .have e:zG (f :: l) nm=zG l nm:=by simp[zG,i]
   rw[e];simp only[nmF,stF,if_neg i];exact j c k
theorem st_eq(nm i)(I:i<4)(x c k):st3 nm i x (st2 nm i x (st1 nm i x (c,k)))=(fin c (j9 i x nm),k+(j9 i x nm).length):=by
 have j:=oneK (l:=[(i:Int)]) zSp (fun y g=>by simp at g;subst g;omega);have o:=oneK (l:=[(i:Int),(i:Int)]) zSp (fun y g=>by simp at g;rcases g with rfl|rfl<;>omega);have p:∀ c k,st1 nm i x (c,k)=(fin c (if x.1=nm then [kOf [(i:Int)]] else []),k+(if x.1=nm then [kOf [(i:Int)]] else []).length):=fun c k=>by
  unfold st1;split
  .rw [Um,j];rfl
  .rfl
 have t:∀ c k,st2 nm i x (c,k)=(fin c (if x.2=true/\x.1++jv=nm then [kOf [(i:Int)]] else []),k+(if x.2=true/\x.1++jv=nm then [kOf [(i:Int)]] else []).length):=fun c k=>by
  unfold st2;split
  .rw [Um,j];rfl
  .rfl
 have C:∀ c k,st3 nm i x (c,k)=(fin c (if x.2=true/\x.1++jQ=nm then [kOf [(i:Int),(i:Int)]] else []),k+(if x.2=true/\x.1++jQ=nm then [kOf [(i:Int),(i:Int)]] else []).length):=fun c k=>by
  unfold st3;split
  .rw [Um,o];rfl
  .rfl
 unfold j9;rw[p,t,C,JF,JF,qZ,qZ];simp only[Nat.add_assoc]
theorem qbB(nm):∀ l i c k,i+l.length<=4->nmS nm i l (c,k)=(fin c (zV i l nm),k+(zV i l nm).length)
 | [],i,c,k,_=>rfl
 |x :: l,i,c,k,h=>by
  simp only[yh]at h;have g:=fun c k=>qbB nm l (i+1) c k zOm
  simp only[nmS,zV];rw[st_eq nm i zOm,g,JF,qZ,Nat.add_assoc]
theorem X4{ts}(h:okTS ts)(nm):named ts nm=(fin (aI 0 :: zs) (means ts nm),(means ts nm).length):=by
 unfold named means;rw[qbA nm ts.sA _ _ fun f hf=>?_,qbB nm ts.sS _ _ _ (zW1 h.ns),JF,qZ,yJ];have:=h.fl f hf;have g:=h.ns;exact⟨zOm,fun x i=>zW1 (this.2.2 x i)⟩
end QK
namespace QL
open YF Y9 Y1 Y2 P1 QD QE QF QI QJ QK
abbrev cVw(c:Ck)(inn:Bool):List AV:=[lSo c.ts.sS,lFl c.ts.sA,lPd c.ts.sT,lFa c.ts.sP,lBo c.timed,aI c.calls,aB inn]
abbrev eVw(c:Ck)(inn:Bool):AV := .agg (cVw c inn)
def envS(s:Scp):List Vr:=s.reverse.map fun v=>(v.1,ql v.2)
theorem Un(s):(envS s).length=s.length:=by simp[envS]
theorem qbC(env):envV env=envS (zq env):=by
 have h:∀(l:List (tV×Int))(a:Scp),l.foldl (fun s p=>(p.1,kOf [p.2]) :: s) a=(l.map fun p=>(p.1,kOf [p.2])).reverse++a:=by
  intro l;induction l with
  |nil=>intro a;rfl
  |cons p l g=>intro a;rw[List.foldl_cons,g];simp
 unfold envV envS zq;rw[h,zZ,List.reverse_reverse,List.map_map];rfl
theorem qmM(s d h g):(envS s)[s.length-1-d]=(s[d].1,ql s[d].2):=by
 have e:s.length-1-(s.length-1-d)=d:=zOm;simp[envS,List.getElem_reverse,e]
abbrev zR:RS:=(0,fun _=>false)
abbrev eDg(d:Dg):AV := .agg [aI d.1,aI d.2]
def endR(z:RS):Res->AV
 | .error e => .tup [eRS z,eDg e]
 | .ok (some k) => .tup [eRS (ql k),eDg (0,0)]
 | .ok none => .tup [eRS zR,eDg (0,0)]
theorem jL(s d):HF (.tup [eRS s,eDg d]):=HF.tup fun x g=>by
 rcases qs.1 g with rfl|g
 .exact yg s
 .rw [qO]at g;subst g
  exact HF.agg fun c i=>by
   rcases qs.1 i with rfl|i
   .exact HF.sc _
   .rw [qO]at i;subst i;exact HF.sc _
theorem cH{ts}(h:okTS ts):okNm ts:=⟨h.sl,zW1 h.ns,zW1 h.nf,fun f hf=>zW1 (h.fl f hf)⟩
theorem uJ(c)(hc:okCk c)(inn s n)(hs:s.length<=100000):qd qb 166 [eVw c inn,lVr (envS s),eNd n] (endR zR (yk c s n.name n.pos)):=by
 generalize i:endR zR (yk c s n.name n.pos)=R;unfold yk at i;refine qSV call166 func166 rfl ?_;have a1:=Un s;have w0:qj.wrap ((s.length:Int)-1)=(s.length:Int)-1:=zWr;simp[go_sem,a1,w0];refine fZ s.length (fun d U=>U.tm 1=lVr (envS s)/\U.tm 3 = .ip (cVw c inn)/\U.tm 5 = .ip (cNd n)/\U.tm 6 = .ptr 0 0/\U.tm 7 = .ptr 1 0/\U.tm 8=aI ((s.length:Int)-1-d)/\U.mu=[.arr (aI 0 :: hB fun _=>false),.arr [aI 0,aI 0]]/\yL n.name (s.drop d)=yL n.name s) ?_ ?_
 .exact ⟨zSi,zSi,zSi,zSi,zSi,zSi,by simp[go_sem];first|rfl|exact⟨rfl,rfl⟩,rfl⟩
 rintro d U hd ⟨e1,e3,t,p,e7,j,hm,I⟩;by_cases J:d<s.length
 .have T:s.length-1-d<(envS s).length:=by omega
  have g:=qmM s d J T;obtain⟨e,he⟩:∃ e:Nat,e=s.length-1-d:=⟨_,rfl⟩;have a2:(s.length:Int)-1-d=(e:Int):=zOm;rw[a2]at j;rw[<-he]at T;have g:(envS s)[e]=(s[d].1,ql s[d].2):=by simp only[he];exact g
  have w1:qj.wrap ((e:Int)-1)=(s.length:Int)-1-((d+1:Nat):Int):=by rw[zWr];omega
  rw[qY J]at I;have h0:(0:Int)<=(e:Int):=zOm;by_cases hq:s[d].1=n.name
  .have hf:yL n.name s=s[d] :: s.drop (d+1):=by rw[<-I,yL,if_pos hq]
   rw[hf]at i;simp only[endR]at i;have i:R = .tup [eRS (ql s[d].2),eDg (0,0)]:=i.symm;subst i;simp[go_sem,j,hm];refine tN zKr ?_;simp[go_sem,e1,j,T,g,hq];generalize ql s[d].2=q at *
   simp[go_sem,e1,t,p,j,T,g,qo,tk,pc];rw[if_pos (qU _)];simp[go_sem,p,e7,qo,tk];exact .hf _ (jL q (0,0))
  .rw [yL,if_neg hq]at I
   simp[go_sem,j,hm];refine tN zKr ?_;simp[go_sem,e1,t,j,T,g,ji hq,w1,qo];exact⟨zOm,aK ⟨zS1 e1,zS1 e3,zS1 t,zS1 p,by simp[go_sem,e7],zSi,zSi,I⟩⟩
 .have a3:d=s.length:=by omega
  subst a3;have j:U.tm 8=aI (-1):=by rw[j];congr 2;omega
  rw[zF]at I;rw[<-I]at i;simp only[yL]at i;have hN:=XS c.ts (cH hc.ts) n.name;have a0:=XQ c.ts n.name;rw[X4 hc.ts]at hN a0;simp[go_sem,e3,t,j,hm];refine tR hN (.zk (zl _) (.zs .nil)) ?_;have o:SetC (fin (aI 0 :: zs) (means c.ts n.name)):=a0;generalize a4:means c.ts n.name=ms at *
  match ms,a4 with
  | [],_ =>
   simp only[endR]at i;subst i;generalize fin (aI 0 :: zs) []=C at *
   simp[go_sem,o.len];rw[if_pos o.one];simp[go_sem];refine fG [0,1,2,3,4,5] [(0,0,[]),(1,0,[]),(2,0,[]),(3,0,[]),(4,1,[2]),(5,1,[])] zKr zKr zSi ?_;simp[go_sem,t,p,e7,pC,qo];exact .hf _ (jL zR (_,n.pos))
  | [k],_ =>
   simp only[endR]at i;subst i;have e:fin (aI 0 :: zs) [k]=aI (ql k).1 :: hB (ql k).2:=rfl;rw[e]at o⊢;generalize ql k=q at *
   simp[go_sem,o.len];rw[if_pos (qU _)];generalize hP:putCells _ 0 (aI q.1 :: hB q.2)=P;have a5:P=aI q.1 :: hB q.2:=by rw[<-hP];exact pc (aI 0) _ (fun _=>false) _
   subst a5;clear hP;simp[go_sem,p,o.len,qo,tk,pc];rw[if_pos (qU _)];simp[go_sem,p,e7,o.len,tk];exact .hf _ (jL q (0,0))
  |k1 :: k2 :: l,_ =>
   simp only[endR]at i;subst i;generalize fin (aI 0 :: zs) (k1 :: k2 :: l)=C at *
   simp[go_sem,o.len];rw[if_pos o.one];simp[go_sem];have a6:¬((l.length:Int)+1+1=0):=zOm;have a7:(1:Int)<(l.length:Int)+1+1:=zOm;simp[go_sem,a6,a7];refine fG [0,1,2,3,4,5] [(0,0,[]),(1,0,[]),(2,0,[]),(3,0,[]),(4,1,[2]),(5,1,[])] zKr zKr zSi ?_;simp[go_sem,t,p,e7,pC,qo];exact .hf _ (jL zR (_,n.pos))
end QL
namespace QM
open Y1
theorem qmN(n):qd qb 196 [eNd n] (aB (decide (30<=n.op))):=by
 refine qSV call196 func196 rfl ?_;by_cases h:30<=n.op
 .simp [go_sem,h];exact .zsc _
 .simp [go_sem,h];exact .zsc _
end QM
namespace QN
open Y1 Y2 YF Y9 Y10 P1 P2 QD QE QF QH QL
def setO:Option Kd->RS
 |some k=>ql k
 |none=>zR
abbrev lRS(l:List RS):AV := .lst false (l.map cRS)
theorem qmO(v):∀ c,c∈cRS v->HF c:=fun c g=>((setC v).sc c g).2
theorem qmP(v):∀ c,c∈cRS v->c.one=true:=fun c g=>((setC v).sc c g).1
theorem X5(l:List RS):qW 65 (l.map cRS):=fun r g=>by
 obtain⟨v,_,rfl⟩:=qn.1 g
 grind [hB,qR,qmP]
theorem appRS{mu lo s x}{xs ys:List RS}{K}(g:OwnF lo mu 65 s (xs.map cRS))(j:qE mu x=some (ys.map cRS))(l:xs.length+ys.length<=100000)(o:∀ av mu',OwnF lo mu' 65 av ((xs++ys).map cRS)->(∀ i,i<lo->mu'[i]?=mu[i]?)->K av mu') :
  qu qb mu #[229,229] s x K:=by
 refine qu.ownF (lo:=lo) (e:=156) (sz:=65) (bt:=72) (zv := .agg (aI 0 :: zs)) (xs:=xs.map cRS) (ys:=ys.map cRS) zSi zSi (by simp[go_sem];rfl) rfl rfl zOm zOm g j (X5 xs) (X5 ys) zSo ?_
 grind
theorem rdRS{lo mu av l}(g:OwnF lo mu 65 av (l.map cRS)):Rd mu av (lRS l):=
 Own.rd (sz:=65) g.1 (X5 l).ok fun r i c j=>by
  obtain⟨v,_,rfl⟩:=qn.1 i;exact qmO v c j
theorem jn(s b):HF (.tup [eRS s,aB b]):=HF.tup fun x g=>by
 rcases qs.1 g with rfl|g
 .exact yg s
 grind [qO,HF.sc]
def ApE(op:Int):Res->RS->Bool->Prop
 | .ok k,S,b=>b=true/\(kd op=101->∃ q,k=some q/\S=ql q)
 | .error _,S,b=>b=false
theorem wkS1(a):WKs [eRS a] [eRS a] := .zk (yg _) .nil
theorem wkS2(a b):WKs [eRS a,eRS b] [eRS a,eRS b] := .zk (yg _) (.zk (yg _) .nil)
theorem wkTI(ts k):WKs [eTS ts,aI k] [eTS ts,aI k] := .zk (zl _) (.zs .nil)
theorem qbD(n):eRS (n,fun _=>false)=eRS (ql ⟨n,[]⟩):=wH rfl fun j _=>(decide_eq_false fun h=>absurd h.2 qG).symm
def itS:Nat->RS->RS
 | 0,s=>s
 |i+1,s=>uniS (itS i s) (Zq (itS i s) (itS i s))
theorem qbE(s):∀ i,(itS i s).1=s.1
 | 0=>rfl
 |i+1=>qbE s i
theorem qbF(g)(h:1<=g.1/\g.1<=3):qd qb 236 [eRS g] (eRS (itS 4 g)):=by
 refine qSQ call236 func236 rfl { mt:=[1] } ?_;simp[go_sem];refine⟨qU _,?_⟩;refine fZ 4 (fun i U=>U.tm 1 = .ptr 0 0/\U.tm 2 = .ptr 1 0/\U.tm 3=aI i/\U.mu=[.arr (cRS (itS i g)),.arr (aI 0 :: hB fun _=>false)]) ?_ ?_
 .exact ⟨zSi,zSi,zSi,by simp[go_sem];exact⟨⟨rfl,rfl⟩,rfl⟩⟩
 rintro i U hi ⟨l,p,t,C⟩;by_cases P:i<4
 .have j:(i:Int)<4:=by omega
  have w1:=zWk i;have R:=qbE g i;have T:=uD (itS i g) (itS i g) zOm zOm;have I:=jz (itS i g) (Zq (itS i g) (itS i g));have J:uniS (itS i g) (Zq (itS i g) (itS i g))=itS (i+1) g:=rfl;rw[J]at I;clear J;generalize a0:itS (i+1) g=s' at *
  generalize Zq (itS i g) (itS i g)=q at *
  generalize itS i g=s at *
  simp[go_sem,t,C,j];refine tN zKr ?_;simp[go_sem,l,qo,tk];refine fB T (.zk (yg _) (.zk (yg _) .nil)) ?_;refine tR I (.zk (yg _) (.zk (yg _) .nil)) ?_;simp[go_sem,l,qo,pc];rw[if_pos (qU _)];simp_all[go_sem,aK]
 .have o:i=4:=by omega
  subst o;generalize itS 4 g=s at *
  simp[go_sem,l,p,t,C,qo,tk,pc];rw[if_pos (qU _)];simp[go_sem,p,qo,tk];exact .hf _ (yg s)
def prC(ts:TS)(n:Nd)(l:List RS)(S:RS)(b:Bool):Prop:=qd qb 169 [eTS ts,eNd n,lRS l] (.tup [eRS S,aB b])
theorem ap2(ts n L)(h:n.op=2):prC ts n L (n.n,fun _=>false) true:=by
 unfold prC;refine qSV call169 func169 rfl ?_;simp[go_sem,h];exact .hf _ (jn (n.n,fun _=>false) true)
theorem ap3(ts)(ok:okTS ts)(n L)(h:n.op=3):prC ts n L (ql (zj ts.sS.length 1)) true:=by
 unfold prC;refine qSV call169 func169 rfl ?_;have c1:=allU ts ok 1 zOm;generalize ql (zj ts.sS.length 1)=q at *
 simp[go_sem,h];refine tR c1 (wkTI ts 1) ?_;simp[go_sem,qo];rw[if_pos (qU _)];generalize i:putCells _ 0 (aI q.1 :: hB q.2)=P;have g:P=aI q.1 :: hB q.2:=by rw[<-i];exact pc (aI 0) _ (fun _=>false) _
 subst g;clear i;simp[go_sem,qo,tk];exact .hf _ (jn q _)
theorem ap4(ts)(ok:okTS ts)(n L)(h:n.op=4):prC ts n L (ql (zj ts.sS.length 2)) true:=by
 unfold prC;refine qSV call169 func169 rfl ?_;have c1:=allU ts ok 2 zOm;generalize ql (zj ts.sS.length 2)=q at *
 simp[go_sem,h];refine tR c1 (wkTI ts 2) ?_;simp[go_sem,qo];rw[if_pos (qU _)];generalize i:putCells _ 0 (aI q.1 :: hB q.2)=P;have g:P=aI q.1 :: hB q.2:=by rw[<-i];exact pc (aI 0) _ (fun _=>false) _
 subst g;clear i;simp[go_sem,qo,tk];exact .hf _ (jn q _)
theorem ap5(ts n q)(h:n.op=5):prC ts n [q] q true:=by
 unfold prC;refine qSV call169 func169 rfl ?_;simp[go_sem,h,qo,tk];rw[if_pos (qU _)];generalize i:putCells _ 0 (aI q.1 :: hB q.2)=P;have g:P=aI q.1 :: hB q.2:=by rw[<-i];exact pc (aI 0) _ (fun _=>false) _
 subst g;clear i;simp[go_sem,qo,tk];exact .hf _ (jn q _)
theorem ap6(ts n q r S)(h:n.op=6)(c:qd qb 231 [eRS q,eRS r] (eRS S)):prC ts n [q,r] S (decide (q.1=r.1)):=by
 unfold prC;refine qSV call169 func169 rfl ?_;simp[go_sem,h];refine fG [0,1,2,3,4,5,7,8,9,10,11,12,13,14,15,17,6,16] [(0,0,[]),(1,0,[]),(2,0,[]),(3,0,[]),(4,0,[]),(5,0,[]),(7,0,[]),(8,0,[]),(9,0,[]),(10,0,[]),(11,0,[]),(12,0,[]),(13,0,[]),(14,0,[]),(15,0,[]),(17,0,[]),(6,1,[10,14]),(16,1,[10,14])] zKr zKr zSi ?_;simp[go_sem,qo,tk];refine tR c (wkS2 q r) ?_;simp[go_sem,qo];rw[if_pos (qU _)];generalize i:putCells _ 0 (aI S.1 :: hB S.2)=P;have g:P=aI S.1 :: hB S.2:=by rw[<-i];exact pc (aI 0) _ (fun _=>false) _
 subst g;clear i;simp[go_sem,qo,tk];exact .hf _ (jn S _)
theorem ap14(ts n q r S)(h:n.op=14)(c:qd qb 231 [eRS q,eRS r] (eRS S)):prC ts n [q,r] S (decide (q.1=r.1)):=by
 unfold prC;refine qSV call169 func169 rfl ?_;simp[go_sem,h];refine fG [0,1,2,3,4,5,7,8,9,10,11,12,13,14,15,17,6,16] [(0,0,[]),(1,0,[]),(2,0,[]),(3,0,[]),(4,0,[]),(5,0,[]),(7,0,[]),(8,0,[]),(9,0,[]),(10,0,[]),(11,0,[]),(12,0,[]),(13,0,[]),(14,0,[]),(15,0,[]),(17,0,[]),(6,1,[10,14]),(16,1,[10,14])] zKr zKr zSi ?_;simp[go_sem,qo,tk];refine tR c (wkS2 q r) ?_;simp[go_sem,qo];rw[if_pos (qU _)];generalize i:putCells _ 0 (aI S.1 :: hB S.2)=P;have g:P=aI S.1 :: hB S.2:=by rw[<-i];exact pc (aI 0) _ (fun _=>false) _
 subst g;clear i;simp[go_sem,qo,tk];exact .hf _ (jn S _)
theorem ap7(ts n q r S)(h:n.op=7)(c:qd qb 232 [eRS q,eRS r] (eRS S)):prC ts n [q,r] S (decide (q.1=r.1)):=by
 unfold prC;refine qSV call169 func169 rfl ?_;simp[go_sem,h];refine fG [0,1,2,3,4,5,7,8,9,10,11,12,13,14,15,17,6,16] [(0,0,[]),(1,0,[]),(2,0,[]),(3,0,[]),(4,0,[]),(5,0,[]),(7,0,[]),(8,0,[]),(9,0,[]),(10,0,[]),(11,0,[]),(12,0,[]),(13,0,[]),(14,0,[]),(15,0,[]),(17,0,[]),(6,1,[10,14]),(16,1,[10,14])] zKr zKr zSi ?_;simp[go_sem,qo,tk];refine tR c (wkS2 q r) ?_;simp[go_sem,qo];rw[if_pos (qU _)];generalize i:putCells _ 0 (aI S.1 :: hB S.2)=P;have g:P=aI S.1 :: hB S.2:=by rw[<-i];exact pc (aI 0) _ (fun _=>false) _
 subst g;clear i;simp[go_sem,qo,tk];exact .hf _ (jn S _)
theorem ap8(ts n q r)(h:n.op=8):prC ts n [q,r] q (decide (q.1=r.1)):=by
 unfold prC;refine qSV call169 func169 rfl ?_;simp[go_sem,h];refine fG [0,1,2,3,4,5,6,7,8,9,10,11,13,12] [(0,0,[]),(1,0,[]),(2,0,[]),(3,0,[]),(4,0,[]),(5,0,[]),(6,0,[]),(7,0,[]),(8,0,[]),(9,0,[]),(10,0,[]),(11,0,[]),(13,0,[]),(12,1,[6,10])] zKr zKr zSi ?_;simp[go_sem,qo,tk];rw[if_pos (qU _)];generalize i:putCells _ 0 (aI q.1 :: hB q.2)=P;have g:P=aI q.1 :: hB q.2:=by rw[<-i];exact pc (aI 0) _ (fun _=>false) _
 subst g;clear i;simp[go_sem,qo,tk];exact .hf _ (jn q _)
theorem ap32(ts n q r)(h:n.op=32):prC ts n [q,r] zR (decide (q.1=r.1)):=by
 unfold prC;refine qSV call169 func169 rfl ?_;simp[go_sem,h];refine fG [0,1,2,3,4,5,6,7,8,9,11,10] [(0,0,[]),(1,0,[]),(2,0,[]),(3,0,[]),(4,0,[]),(5,0,[]),(6,0,[]),(7,0,[]),(8,0,[]),(9,0,[]),(11,0,[]),(10,1,[4,8])] zKr zKr zSi ?_;simp[go_sem,qo];exact .hf _ (jn zR _)
theorem ap33(ts n q r)(h:n.op=33):prC ts n [q,r] zR (decide (q.1=r.1)):=by
 unfold prC;refine qSV call169 func169 rfl ?_;simp[go_sem,h];refine fG [0,1,2,3,4,5,6,7,8,9,11,10] [(0,0,[]),(1,0,[]),(2,0,[]),(3,0,[]),(4,0,[]),(5,0,[]),(6,0,[]),(7,0,[]),(8,0,[]),(9,0,[]),(11,0,[]),(10,1,[4,8])] zKr zKr zSi ?_;simp[go_sem,qo];exact .hf _ (jn zR _)
theorem ap9(ts n q r S)(h:n.op=9)(o:0<=q.1/\q.1<=1000)(p:0<=r.1/\r.1<=1000)(c:qd qb 233 [eRS q,eRS r] (eRS S)):prC ts n [q,r] S (decide (1<=q.1+r.1-2/\q.1+r.1-2<=3)):=by
 unfold prC;refine qSV call169 func169 rfl ?_;have l:qj.wrap (q.1+r.1)=q.1+r.1:=zWr;have w2:qj.wrap (q.1+r.1-2)=q.1+r.1-2:=zWr;simp[go_sem,h];refine tN zKr ?_;simp[go_sem,qo,l,w2];refine tN zKr ?_;by_cases j:1<=q.1+r.1-2
 .simp [go_sem,qo,tk,j]
  refine tR c (wkS2 q r) ?_;simp[go_sem,qo,j];rw[if_pos (qU _)];generalize i:putCells _ 0 (aI S.1 :: hB S.2)=P;have g:P=aI S.1 :: hB S.2:=by rw[<-i];exact pc (aI 0) _ (fun _=>false) _
  subst g;clear i;simp[go_sem,qo,tk];exact .hf _ (jn S _)
 .simp [go_sem,qo,tk,j]
  refine tR c (wkS2 q r) ?_;simp[go_sem,qo,j];rw[if_pos (qU _)];generalize i:putCells _ 0 (aI S.1 :: hB S.2)=P;have g:P=aI S.1 :: hB S.2:=by rw[<-i];exact pc (aI 0) _ (fun _=>false) _
  subst g;clear i;simp[go_sem,qo,tk];exact .hf _ (jn S _)
theorem ap10(ts n q r S)(h:n.op=10)(l:0<=q.1/\q.1<=1000)(o:0<=r.1/\r.1<=1000)(c:qd qb 234 [eRS q,eRS r] (eRS S)):prC ts n [q,r] S (decide (q.1+r.1<=3)):=by
 unfold prC;refine qSV call169 func169 rfl ?_;have j:qj.wrap (q.1+r.1)=q.1+r.1:=zWr;simp[go_sem,h];refine fG [0,1,2,3,4,5,7,8,9,10,11,12,13,14,15,16,18,6,17] [(0,0,[]),(1,0,[]),(2,0,[]),(3,0,[]),(4,0,[]),(5,0,[]),(7,0,[]),(8,0,[]),(9,0,[]),(10,0,[]),(11,0,[]),(12,0,[]),(13,0,[]),(14,0,[]),(15,0,[]),(16,0,[]),(18,0,[]),(6,1,[10,14]),(17,1,[10,14])] zKr zKr zSi ?_;simp[go_sem,qo,tk,j];refine tR c (wkS2 q r) ?_;simp[go_sem,qo];rw[if_pos (qU _)];generalize i:putCells _ 0 (aI S.1 :: hB S.2)=P;have g:P=aI S.1 :: hB S.2:=by rw[<-i];exact pc (aI 0) _ (fun _=>false) _
 subst g;clear i;simp[go_sem,qo,tk];exact .hf _ (jn S _)
theorem ap11(ts n q S)(h:n.op=11)(c:qd qb 235 [eRS q] (eRS S)):prC ts n [q] S (decide (q.1=2)):=by
 unfold prC;refine qSV call169 func169 rfl ?_;simp[go_sem,h];refine fG [0,1,2,4,5,6,7,8,10,3,9] [(0,0,[]),(1,0,[]),(2,0,[]),(4,0,[]),(5,0,[]),(6,0,[]),(7,0,[]),(8,0,[]),(10,0,[]),(3,1,[7]),(9,1,[7])] zKr zKr zSi ?_;simp[go_sem,qo,tk];refine tR c (wkS1 q) ?_;simp[go_sem,qo];rw[if_pos (qU _)];generalize i:putCells _ 0 (aI S.1 :: hB S.2)=P;have g:P=aI S.1 :: hB S.2:=by rw[<-i];exact pc (aI 0) _ (fun _=>false) _
 subst g;clear i;simp[go_sem,qo,tk];exact .hf _ (jn S _)
theorem ap12(ts n q S)(h:n.op=12)(c:qd qb 236 [eRS q] (eRS S)):prC ts n [q] S (decide (q.1=2)):=by
 unfold prC;refine qSV call169 func169 rfl ?_;simp[go_sem,h];refine fG [0,1,2,4,5,6,7,8,10,3,9] [(0,0,[]),(1,0,[]),(2,0,[]),(4,0,[]),(5,0,[]),(6,0,[]),(7,0,[]),(8,0,[]),(10,0,[]),(3,1,[7]),(9,1,[7])] zKr zKr zSi ?_;simp[go_sem,qo,tk];refine tR c (wkS1 q) ?_;simp[go_sem,qo];rw[if_pos (qU _)];generalize i:putCells _ 0 (aI S.1 :: hB S.2)=P;have g:P=aI S.1 :: hB S.2:=by rw[<-i];exact pc (aI 0) _ (fun _=>false) _
 subst g;clear i;simp[go_sem,qo,tk];exact .hf _ (jn S _)
theorem ap13(ts)(ok:okTS ts)(n q C S)(h:n.op=13)(c:qd qb 236 [eRS q] (eRS C))(c2:qd qb 231 [eRS C,eRS (ql (zj ts.sS.length 2))] (eRS S)):prC ts n [q] S (decide (q.1=2)):=by
 unfold prC;refine qSV call169 func169 rfl ?_;have c1:=allU ts ok 2 zOm;generalize ql (zj ts.sS.length 2)=D at *
 simp[go_sem,h];refine fG [0,1,2,4,7,8,9,10,11,13,3,5,6,12] [(0,0,[]),(1,0,[]),(2,0,[]),(4,0,[]),(7,0,[]),(8,0,[]),(9,0,[]),(10,0,[]),(11,0,[]),(13,0,[]),(3,1,[4,10]),(5,1,[10]),(6,1,[10]),(12,1,[10])] zKr zKr zSi ?_;simp[go_sem,qo,tk];refine tR c (wkS1 q) ?_;simp[go_sem,qo];refine tR c1 (wkTI ts 2) ?_;simp[go_sem,qo];refine tR c2 (wkS2 C D) ?_;simp[go_sem,qo];rw[if_pos (qU _)];generalize i:putCells _ 0 (aI S.1 :: hB S.2)=P;have g:P=aI S.1 :: hB S.2:=by rw[<-i];exact pc (aI 0) _ (fun _=>false) _
 subst g;clear i;simp[go_sem,qo,tk];exact .hf _ (jn S _)
theorem apO(ts n L)(C:n.op≠2)(I:n.op≠3)(J:n.op≠4)(P:n.op≠5)(R:n.op≠6)(g:n.op≠14)(T:n.op≠7)(U:n.op≠8)(i:n.op≠32)(j:n.op≠33)(h9:n.op≠9)(l:n.op≠10)(o:n.op≠11)(p:n.op≠12)(t:n.op≠13):prC ts n L zR true:=by
 unfold prC;refine qSV call169 func169 rfl ?_;simp[go_sem,C,I,J,P,R,g,T,U,i,j,h9,l,o,p,t];exact .hf _ (jn zR true)
end QN
namespace QO
open YF Y9 Y10 Y1 Y2 Y3 Y12 Y13 P1 P2 QD QE QF QH QI QJ QL QN PG PC
section
variable {ts:TS}
theorem qbG{n L S g b}(e:eRS S=eRS g)(h:prC ts n L S b):prC ts n L g b:=by
 grind [prC]
theorem qmQ{n a b}(j:n.op=6\/n.op=14\/n.op=7\/n.op=8\/n.op=32\/n.op=33):∃ S,prC ts n [ql a,ql b] S (decide (a.ar=b.ar))/\(a.ar=b.ar->kd n.op=101->S=ql (jR n.op a b)):=by
 have l:∀ op:Int,op=6\/op=14->jR op a b=kSum a b:=fun op h=>by unfold jR;rw[if_pos h]
 by_cases g:a.ar=b.ar
 .rcases j with h|h|h|h|h|h
  .exact ⟨_,ap6 ts n _ _ _ h (by have:=jz (ql a) (ql b);rw[Jz g]at this;exact this),fun _ _=>by grind⟩
  .exact ⟨_,ap14 ts n _ _ _ h (by have:=jz (ql a) (ql b);rw[Jz g]at this;exact this),fun _ _=>by grind⟩
  .exact ⟨_,ap7 ts n _ _ _ h (by have:=Jg (ql a) (ql b);rw[ql5 g]at this;exact this),fun _ _=>by rw[h];rfl⟩
  .exact ⟨_,ap8 ts n _ _ h,fun _ _=>by rw[h];rfl⟩
  .exact ⟨_,ap32 ts n _ _ h,fun _ i=>by rw[h]at i;exact absurd i zDe⟩
  .exact ⟨_,ap33 ts n _ _ h,fun _ i=>by rw[h]at i;exact absurd i zDe⟩
 .rcases j with h|h|h|h|h|h
  .exact ⟨_,ap6 ts n _ _ _ h (jz (ql a) (ql b)),fun e=>absurd e g⟩
  .exact ⟨_,ap14 ts n _ _ _ h (jz (ql a) (ql b)),fun e=>absurd e g⟩
  .exact ⟨_,ap7 ts n _ _ _ h (Jg (ql a) (ql b)),fun e=>absurd e g⟩
  .exact ⟨_,ap8 ts n _ _ h,fun e=>absurd e g⟩
  .exact ⟨_,ap32 ts n _ _ h,fun e=>absurd e g⟩
  .exact ⟨_,ap33 ts n _ _ h,fun e=>absurd e g⟩
theorem qmR(ok:okTS ts){n a}(l:okKd ts.sS.length a)(o:n.op=11\/n.op=12\/n.op=13):∃ S,prC ts n [ql a] S (decide (a.ar=2))/\(a.ar=2->S=ql (binK ts.sS.length n.op a)):=by
 have i:=ok.ns;by_cases g:a.ar=2
 .have p:=VC l g i
  rcases o with h|h|h
  .exact ⟨_,ap11 ts n _ _ h (by have:=qa0 (ql a);rw[qmB l i g]at this;exact this),fun _=>by rw[h];rfl⟩
  .exact ⟨_,ap12 ts n _ _ h p,fun _=>by rw[h];rfl⟩
  .refine ⟨_,ap13 ts ok n _ _ (ql (kSum (kClo a) (zj ts.sS.length 2))) h p ?_,fun _=>by rw[h];rfl⟩
   have:=jz (ql (kClo a)) (ql (zj ts.sS.length 2));rw[Jz (show (kClo a).ar=2 from (Je l g).2)]at this;exact this
 .have j:=l.ar
  rcases o with h|h|h
  .exact ⟨_,ap11 ts n _ _ h (qa0 (ql a)),fun e=>absurd e g⟩
  .exact ⟨_,ap12 ts n _ _ h (qbF (ql a) j),fun e=>absurd e g⟩
  .exact ⟨_,ap13 ts ok n _ _ _ h (qbF (ql a) j) (jz _ _),fun e=>absurd e g⟩
theorem qmS(ts)(ok:okTS ts)(n l L)(e1:n.op≠1)(a0:n.op≠15)
  (h1:n.op=5\/n.op=11\/n.op=12\/n.op=13->∃ a,l=[some a]/\L=[ql a]/\okKd ts.sS.length a)
  (h2:n.op=6\/n.op=14\/n.op=7\/n.op=8\/n.op=32\/n.op=33\/n.op=9\/n.op=10->∃ a b,l=[some a,some b]/\L=[ql a,ql b]/\okKd ts.sS.length a/\okKd ts.sS.length b) :
  ∃ S b,prC ts n L S b/\ApE n.op (zn ts.sS.length n.op n.n n.pos l) S b:=by
 have C:=ok.ns;by_cases j:n.op=2
 .refine ⟨ql ⟨n.n,[]⟩,true,qbG (qbD n.n) (ap2 ts n L j),?_⟩
  unfold zn;rw[if_pos j];exact⟨rfl,fun _=>⟨_,rfl,rfl⟩⟩
 by_cases o:n.op=3
 .refine ⟨_,true,ap3 ts ok n L o,?_⟩
  unfold zn;rw[if_neg j,if_pos o];exact⟨rfl,fun _=>⟨_,rfl,rfl⟩⟩
 by_cases t:n.op=4
 .refine ⟨_,true,ap4 ts ok n L t,?_⟩
  unfold zn;rw[if_neg j,if_neg o,if_pos t];exact⟨rfl,fun _=>⟨_,rfl,rfl⟩⟩
 by_cases g1:n.op=5\/n.op=11\/n.op=12\/n.op=13
 .obtain ⟨a,rfl,rfl,I⟩:=h1 g1
  rw[apK1,if_neg j,if_neg o,if_neg t];by_cases P:n.op=5
  .rw [if_pos P]
   exact⟨_,true,ap5 ts n _ P,rfl,fun _=>⟨_,rfl,rfl⟩⟩
  have g:n.op=11\/n.op=12\/n.op=13:=zOm;rw[if_neg P,if_pos g];obtain⟨S,R,T⟩:=qmR ok I g;refine⟨S,_,R,?_⟩;by_cases i:a.ar=2
  .rw [if_pos i]
   exact⟨decide_eq_true i,fun _=>⟨_,rfl,T i⟩⟩
  .rw [if_neg i]
   exact decide_eq_false i
 by_cases g2:n.op=6\/n.op=14\/n.op=7\/n.op=8\/n.op=32\/n.op=33\/n.op=9\/n.op=10
 .obtain ⟨a,b,rfl,rfl,I,U⟩:=h2 g2
  have ra:=I.ar;have rb:=U.ar;rw[apK2,if_neg j,if_neg o,if_neg t];by_cases g3:n.op=6\/n.op=14\/n.op=7\/n.op=8\/n.op=32\/n.op=33
  .rw [if_pos g3]
   obtain⟨S,R,T⟩:=qmQ (ts:=ts) (n:=n) (a:=a) (b:=b) g3;refine⟨S,_,R,?_⟩;by_cases i:a.ar=b.ar
   .rw [if_pos i]
    exact⟨decide_eq_true i,fun hk=>⟨_,rfl,T i hk⟩⟩
   .rw [if_neg i]
    exact decide_eq_false i
  rw[if_neg g3];by_cases J:n.op=9
  .rw [if_pos J]
   by_cases i:1<=a.ar+b.ar-2/\a.ar+b.ar-2<=3
   .rw [if_pos i]
    refine⟨_,_,ap9 ts n _ _ (ql (zw a b)) J (by show 0<=a.ar/\a.ar<=1000;omega) (by show 0<=b.ar/\b.ar<=1000;omega) ?_,decide_eq_true i,fun _=>⟨_,rfl,rfl⟩⟩;rw[<-qa5 I U C i];exact uD _ _ (by show 0<=a.ar/\a.ar<=1000;omega) (by show 1<=b.ar/\b.ar<=1000;omega)
   .rw [if_neg i]
    exact⟨_,_,ap9 ts n _ _ _ J (by show 0<=a.ar/\a.ar<=1000;omega) (by show 0<=b.ar/\b.ar<=1000;omega) (uD _ _ (by show 0<=a.ar/\a.ar<=1000;omega) (by show 1<=b.ar/\b.ar<=1000;omega)),decide_eq_false i⟩
  have p:n.op=10:=zOm;rw[if_neg J,if_pos p];by_cases i:a.ar+b.ar<=3
  .rw [if_pos i]
   refine⟨_,_,ap10 ts n _ _ (ql (vT a b)) p (by show 0<=a.ar/\a.ar<=1000;omega) (by show 0<=b.ar/\b.ar<=1000;omega) ?_,decide_eq_true i,fun _=>⟨_,rfl,rfl⟩⟩;rw[<-ql6 I U C i];exact qa1 _ _ (by show 0<=a.ar/\a.ar<=1000;omega) (by show 0<=b.ar/\b.ar<=1000;omega)
  .rw [if_neg i]
   exact⟨_,_,ap10 ts n _ _ _ p (by show 0<=a.ar/\a.ar<=1000;omega) (by show 0<=b.ar/\b.ar<=1000;omega) (qa1 _ _ (by show 0<=a.ar/\a.ar<=1000;omega) (by show 0<=b.ar/\b.ar<=1000;omega)),decide_eq_false i⟩
 refine⟨zR,true,apO ts n L j o t zOm zOm zOm zOm zOm zOm zOm zOm zOm zOm zOm zOm,?_⟩;rw[VL j o t zOm zOm zOm zOm zOm zOm zOm zOm zOm zOm zOm zOm];refine⟨rfl,fun hk=>?_⟩;have:=Jf hk;omega
theorem qmT{ns}(o:ns<=4){q}(h:okKd ns q)(l:q.ar=1)(i):vU i q=true↔∀ k,k<4->(ql q).2 k=true->(k:Int)=i:=by
 unfold vU;rw[qR];constructor
 .intro p k P C
  rw[yA,l]at C;have:=p _ C.2;simpa[dig,pad] using this
 .intro p t I
  obtain⟨j,J,e⟩:=Ya h o I;rw[l]at J e;have g:j<4:=J;have:=p j g ((yA q j).2 ⟨by rw[l];exact g,by rw[l,<-e];exact I⟩);rw[e];simp[dig,pad,this]
def ExR(c:Ck)(s:Scp)(inn:Bool)(n:Nd):Prop:=∃ S:RS,qd qb 100 [eVw c inn,lVr (envS s),eNd n] (.tup [eRS S,eDg (dgOf (exam c s inn n))])/\(kd n.op=101->∀ q,exam c s inn n = .ok (some q)->S=ql q)
theorem qbH(c inn):HF (eVw c inn):=HF.agg fun x g=>by
 simp only[qs,qG,or_false]at g;rcases g with rfl|rfl|rfl|rfl|rfl|rfl|rfl
 .exact VE _
 .exact Zf _
 .exact wA _
 .exact YR _
 .exact JE _
 .exact HF.sc _
 .exact HF.sc _
theorem wkE(c inn l n):WKs [eVw c inn,lVr l,eNd n] [eVw c inn,lVr l,eNd n] := .zk (qbH c inn) (.zk (qmL _) (.zk (qz n) .nil))
theorem uR(d):HF (eDg d):=HF.agg fun x g=>by
 simp only[qs,qG,or_false]at g;rcases g with rfl|rfl<;>exact HF.sc _
theorem qbI{c nm p}(i:okCk c)(h:zd c nm=some p):(c.ts.sT.any fun p=>decide (p.name=nm))=true:=by
 obtain⟨_,j⟩:=wZ i h;unfold zd at h;rw[List.findIdx?_eq_some_iff_getElem]at h;obtain⟨l,g,_⟩:=h;simp only[List.getElem_take]at g;exact List.any_eq_true.2 ⟨_,qq j,g⟩
theorem qmU{nm}(h:zd (mkCk ts ts.sT.length) nm=none):(ts.sT.any fun p=>decide (p.name=nm))=false:=by
 unfold zd at h;rw[List.findIdx?_eq_none_iff]at h;rw[List.any_eq_false];intro p g;have:p∈ts.sT.take ts.sT.length:=by rw[zi];exact g
 have:=h p this
 grind
theorem XK{n}(i:WfN n)(h:n.op=47):∀ k,k∈n.sD->kd k.op=101:=by
 have g:=i.shape;have e:shp n.op n.sD.length=some (qI (min n.sD.length 401) 101):=by
  unfold shp;rw[zIn,zIn,zIn,zIn,zIn,zIn,zIn,if_pos h]
 rw[e]at g;simp only[qm]at g;intro k j;have:kd k.op∈n.sD.map fun k=>kd k.op:=qn.2 ⟨k,j,rfl⟩
 grind
theorem qmV(c)(hc:okCk c)(s)(hs:ScOk c.ts.sS.length s)(n)(hw:WfN n)(b2:n.op=47)(ih:∀ k,k∈n.sD->ExR c s true k)(inn) :
  qd qb 167 [eVw c inn,lVr (envS s),eNd n] (eDg (dgOf (vW c s n))):=by
 generalize hR:vW c s n=R;unfold vW at hR;refine qSQ call167 func167 rfl { mt:=[3] } ?_;have bg:=hc.ts.np;have bh:=hw.len;have b3:=JD c hc n.name;have b4:=JD (mkCk c.ts c.ts.sT.length) (jS hc.ts (qh _)) n.name;have aq:∀ k:Int,WKs [eTS c.ts,aI k,aS n.name] [eTS c.ts,aI k,aS n.name]:=fun k => .zk (zl _) (.zs (.zs .nil))
 simp[go_sem];refine tR b3 (aq _) ?_;cases a0:zd c n.name with
 |none =>
  rw[a0]at hR;simp[go_sem,idxO];refine tR b4 (aq _) ?_;cases a4:zd (mkCk c.ts c.ts.sT.length) n.name with
  |none =>
   rw[qmU a4]at hR;subst hR;simp[go_sem,idxO,dgOf];exact .hf _ (uR (40,n.pos))
  |some p =>
   have ha:(c.ts.sT.any fun p=>decide (p.name=n.name))=true:=qbI (c:=mkCk c.ts c.ts.sT.length) (jS hc.ts (qh _)) a4;rw[ha]at hR;subst hR;have ad:¬(p:Int)<0:=zOm;simp[go_sem,idxO,dgOf,ad];exact .hf _ (uR (45,n.pos))
 |some p =>
  obtain⟨_,ae⟩:=wZ hc a0;rw[qbI hc a0,if_pos rfl,a0]at hR;simp only[qC ae]at hR;have ad:¬(p:Int)<0:=zOm;have bi:=hc.ts.pl _ (qq ae);simp[go_sem,idxO,ae,ad];generalize bj:c.ts.sT[p]=I at *
  by_cases a2:I.params.length=n.sD.length
  .rw [if_pos a2]at hR
   simp[go_sem,a2];have b5:=XK hw b2;refine fZ I.params.length (fun k U=>U.tm 1=lVr (envS s)/\U.tm 3 = .ptr 0 0/\U.tm 5 = .ip (cNd n)/\U.tm 6 = .ptr 1 0/\U.tm 8=lPm I.params/\U.tm 9=aI k/\U.mu[0]?=some (.arr (cVw c true))/\U.mu[1]?=some (.arr [aI 0,aI 0])/\zz c s n.pos (I.params.drop k) (n.sD.drop k)=R) ?_ ?_
   .simp [go_sem, *]
   rintro k U hk ⟨e1,e3,e5,e6,e8,e9,m0,m1,C⟩;have a9:1<U.mu.length:=(qg.1 m1).1;have J:∀(l:List Cell)(i:Nat),i<U.mu.length->(U.mu++l)[i]?=U.mu[i]?:=fun l i hi=>qB hi
   have a1:∀ c,(U.mu.set 1 c)[1]?=some c:=fun c=>qv a9
   have af:∀ c (l:List Cell),((U.mu++l).set 1 c)[1]?=some c:=fun c l=>qv zSo
   have ag:∀(l:List Cell)(h:0<(U.mu++l).length),(U.mu++l)[0] = .arr (cVw c true):=fun l h=>by
    grind
   have ah:∀(l:List Cell)(h:1<(U.mu++l).length),(U.mu++l)[1] = .arr [aI 0,aI 0]:=fun l h=>by
    grind
   by_cases au:k=I.params.length
   .subst au
    rw[zF,a2,zF]at C;simp only[zz]at C;subst C;simp[go_sem,e6,e8,e9,m1,a2,dgOf,a1];exact .hf _ (uR (0,0))
   have o:k<I.params.length:=zOm;have t:k<n.sD.length:=zOm;have w1:=zWk k;obtain⟨S,hi,hS⟩:=ih n.sD[k] (qq t);rw[qY o,qY t]at C;simp only[zz]at C;have b6:=jc hc (szN n.sD[k]) n.sD[k] s true;have av:=b5 n.sD[k] (qq t);have aw:=hw.kid (qq t);simp[go_sem,e8,e9,o];refine fG [0,1,2,3,4,5,6,7,8,9,10,11,12,13,14] [(0,0,[]),(1,0,[]),(2,0,[]),(3,0,[]),(4,0,[]),(5,0,[]),(6,0,[]),(7,1,[]),(8,0,[]),(9,0,[]),(10,0,[]),(11,2,[0,3,6]),(12,2,[0,3,6]),(13,1,[]),(14,1,[])] zKr zKr zSi ?_;simp[go_sem,e1,e3,e5,e9,m0,t];refine tR hi (wkE c true _ _) ?_;cases hx:exam c s true n.sD[k] with
   |error e =>
    rw[hx]at C;subst C;have he:=Qa c (szN n.sD[k]) n.sD[k] s true e (qh _) hx;have b7:¬e.1=0:=zOm;simp[go_sem,e3,qo,ag,dgOf];rw[if_pos (qU _)];generalize hP:putCells _ 0 (aI S.1 :: hB S.2)=P;have ai:P=aI S.1 :: hB S.2:=by rw[<-hP];exact pc (aI 0) _ (fun _=>false) _
    subst ai;clear hP;simp[go_sem,e6,b7];simp[go_sem,ah,e6];exact .hf _ (uR e)
   |ok ko =>
    obtain⟨q,rfl,hq⟩:=b6 ko (qh _) aw hs hx av;have b8:=hS av q hx;subst b8;rw[hx]at C;simp only at C;have b9:=hc.ts.ns;have ax:(ql q).1=q.ar:=rfl;have ay:=fun h=>qmT b9 hq h I.params[k].2
    generalize ql q=Q at *
    simp[go_sem,e3,qo,ag,dgOf];rw[if_pos (qU _)];generalize hP:putCells _ 0 (aI Q.1 :: hB Q.2)=P;have ai:P=aI Q.1 :: hB Q.2:=by rw[<-hP];exact pc (aI 0) _ (fun _=>false) _
    subst ai;clear hP;by_cases a3:q.ar=1
    .rw [if_pos a3]at C
     have a5:Q.1=1:=ax.trans a3;simp[go_sem,qo,a5];have be:I.params[k].2<4/\0<=I.params[k].2:=by grind
     refine fZ 4 (fun j g=>∃ b,2<=b/\g.tm 10 = .ptr b 0/\g.mu[b]?=some (.arr (aI 1 :: hB Q.2))/\g.tm 1=lVr (envS s)/\g.tm 3 = .ptr 0 0/\g.tm 5 = .ip (cNd n)/\g.tm 6 = .ptr 1 0/\g.tm 8=lPm I.params/\g.tm 9=aI k/\g.tm 12=aI j/\g.mu[0]?=some (.arr (cVw c true))/\g.mu[1]?=some (.arr [aI 0,aI 0]) /\
      ∀ i:Nat,i<j->Q.2 i=true->(i:Int)=I.params[k].2) ?_ ?_
     .exact ⟨U.mu.length,zOm,zSi,zSi,zS1 e1,zS1 e3,zS1 e5,zS1 e6,zS1 e8,zS1 e9,zSi,by simp only[qH];rw[J _ _ zOm];exact m0,by simp only[qH];rw[J _ _ zOm];exact m1,fun i hi=>zOm⟩
     .clear e1 e3 e5 e6 e8 e9 m0 m1 J a1 af ag ah a9
      rintro j st2 hj ⟨b,hb,a6,mb,e1,e3,e5,e6,e8,e9,aa,m0,m1,a7⟩;have a9:1<st2.mu.length:=(qg.1 m1).1;have a1:∀ c,(st2.mu.set 1 c)[1]?=some c:=fun c=>qv a9
      by_cases aj:j<4
      .have ak:(j:Int)<4:=by omega
       have az:j<64:=zOm;have T:(j:Int)<64:=zOm;have wj:=zWk j;have a8:=d1 (aI 1) Q.2 j az;have al:1+j<=64:=zOm;by_cases hQ:Q.2 j=true
       .rw [hQ]at a8
        by_cases ab:(j:Int)=I.params[k].2
        .have bb:=eq_true ab
         simp[go_sem,a6,mb,e8,e9,aa,ak,T,a8,al,qo,o,bb,wj];refine⟨aj,aK ⟨b,hb,zS1 a6,zS1 mb,zS1 e1,zS1 e3,zS1 e5,zS1 e6,zS1 e8,zS1 e9,zSi,zS1 m0,zS1 m1,fun i hi h=>?_⟩⟩;by_cases an:i=j
         .subst an;exact ab
         .exact a7 i zOm h
        .have b0:¬vU I.params[k].2 q=true:=fun h=>ab ((ay a3).1 h j aj hQ)
         rw[if_neg b0]at C;subst C;simp[go_sem,a6,mb,e5,e6,e8,e9,aa,ak,T,a8,al,qo,o,ab,m1,a1];exact .hf _ (uR (43,n.pos))
       .have hQ:Q.2 j=false:=by simpa using hQ
        rw[hQ]at a8;simp[go_sem,a6,mb,aa,ak,T,a8,al,qo,wj];refine⟨aj,aK ⟨b,hb,zS1 a6,zS1 mb,zS1 e1,zS1 e3,zS1 e5,zS1 e6,zS1 e8,zS1 e9,zSi,zS1 m0,zS1 m1,fun i hi h=>?_⟩⟩;by_cases an:i=j
        .subst an;rw[hQ]at h;cases h
        .exact a7 i zOm h
      .have bc:j=4:=by omega
       subst bc;have ao:vU I.params[k].2 q=true:=(ay a3).2 fun i hi h=>a7 i hi h
       rw[if_pos ao]at C;simp[go_sem,e9,aa,w1];exact⟨o,aK ⟨zS1 e1,zS1 e3,zS1 e5,zS1 e6,zS1 e8,zSi,zS1 m0,zS1 m1,C⟩⟩
    .rw [if_neg a3]at C
     subst C;have a5:¬Q.1=1:=fun e=>a3 (ax.symm.trans e)
     simp[go_sem,e5,qo,a5,ah,e6];exact .hf _ (uR (42,n.pos))
  .rw [if_neg a2]at hR
   subst hR;have b1:¬n.sD.length=I.params.length:=fun e=>a2 e.symm
   simp[go_sem,b1,dgOf];exact .hf _ (uR (45,n.pos))
end
end QO
namespace QR
open Y9 Y10 Y1 Y2 Y12 P1 P2 QE QF QJ QL QN PG QO
theorem Ui{n}(i:WfN n)(h:n.op=15\/n.op=45\/n.op=46):∃ a f,n.sD=[a,f]/\kd a.op=101:=by
 have g:=i.shape;unfold shp at g;rw[zIn,zIn,zIn,if_pos zOm]at g;simp only[qm]at g
 match j:n.sD,g with
 | [a,f],g =>
  grind
 | [],g=>simp at g
 | [_],g=>simp at g
 |_ :: _ :: _ :: _,g=>simp at g
theorem five{J:Type}{l}{a b c d e:J}(g:l[0]?=some a)(i:l[1]?=some b)(j:l[2]?=some c)(o:l[3]?=some d)(p:l[4]?=some e):∃ r,l=a :: b :: c :: d :: e :: r:=by
 match l,g,i,j,o,p with
 |_ :: _ :: _ :: _ :: _ :: r,g,i,j,o,p =>
  simp_all
def JG:Res->RS
 | .ok (some k)=>if k.ar=1 then ql k else zR
 |_=>zR
theorem qmW(s d):FL (.tup [eRS s,eDg d]):=FL.tup fun x i=>by
 rcases qs.1 i with rfl|i
 .exact FL.agg fun c g=>by
   rcases qs.1 g with rfl|g
   .exact FL.sc _
   .obtain ⟨j,_,rfl⟩:=qn.1 g
    exact FL.sc _
 .rw [qO]at i;subst i
  exact FL.agg fun c g=>by
   rcases qs.1 g with rfl|g
   .exact FL.sc _
   .rw [qO]at g;subst g;exact FL.sc _
theorem qmX(c)(hc:okCk c)(s)(hs:ScOk c.ts.sS.length s)(az:s.length<=90000)(n a g)(hw:WfN n)(hb:n.op=15\/n.op=45\/n.op=46)(I:n.sD=[a,g])(a7:kd a.op=101)(inn)
  (ag:ExR c s (inn||decide (n.op=15)) a) (ah:∀ k,okKd c.ts.sS.length k->k.ar=1->ExR c ((n.name,k) :: s) (inn||decide (n.op=15)) g) :
  qd qb 168 [eVw c inn,lVr (envS s),eNd n] (.tup [eRS (JG (exam c s (inn||decide (n.op=15)) a)),eDg (dgOf (zH c s (inn||decide (n.op=15)) n.name n.pos n.sD))]):=by
 have wa:=hw.kid (k:=a) (by rw[I];simp);obtain⟨S,ca,hS⟩:=ag;have ai:=jc hc (szN a) a s (inn||decide (n.op=15));have a8:=Qa c (szN a) a s (inn||decide (n.op=15));rw[I];have w1:=wkE c (inn||decide (n.op=15)) (envS s) a;have aj:n.op=15->(inn||decide (n.op=15))=true:=fun h=>zP1 h
 have ak:¬n.op=15->(inn||decide (n.op=15))=inn:=fun h=>zP1 h
 generalize (inn||decide (n.op=15))=B at *
 generalize hE:dgOf (zH c s B n.name n.pos [a,g])=E;generalize hX:exam c s B a=X at *
 have a9:∀ k,okKd c.ts.sS.length k->k.ar=1->X = .ok (some k)->∃ S2,qd qb 100 [eVw c B,lVr (envS ((n.name,k) :: s)),eNd g] (.tup [eRS S2,eDg E]):=fun k hk t al=>by
  obtain⟨S2,cg,_⟩:=ah k hk t;refine⟨S2,?_⟩;have a1:E=dgOf (exam c ((n.name,k) :: s) B g):=by
   rw[<-hE];simp only[zH,qK];rw[hX,al];simp only;rw[if_pos t];cases exam c ((n.name,k) :: s) B g<;>rfl
  grind
 refine qSQ call168 func168 rfl { mt:=[3] } ?_;by_cases a3:n.op=15
 case' pos =>
  have a4:=aj a3;subst a4
 case' neg =>
  have a4:=ak a3;subst a4
 all_goals
  simp[go_sem,a3];refine fG [0,1,2,3,4,5,6,7,8,9,10,11,12,13] [(0,0,[]),(1,0,[]),(2,0,[]),(3,0,[]),(4,0,[]),(5,0,[]),(6,1,[]),(7,0,[]),(8,0,[]),(9,0,[]),(10,2,[0,3,5]),(11,2,[0,3,5]),(12,1,[]),(13,1,[])] zKr zKr zSi ?_;simp[go_sem,I];refine tR ca w1 ?_;simp[go_sem,qo,I];rw[if_pos (qU _)];generalize hP:putCells _ 0 (aI S.1 :: hB S.2)=P;have R:P=aI S.1 :: hB S.2:=by rw[<-hP];exact pc (aI 0) _ (fun _=>false) _
  subst R;clear hP;simp[go_sem]
 all_goals
  cases X with
  |error e =>
   have he:=a8 e (qh _) rfl;have an:¬e.1=0:=zOm;have a1:E=e:=by rw[<-hE];simp only[zH];rw[hX];rfl
   subst a1;clear hE;simp[go_sem,dgOf,an];refine fG [0,1,2,3] [(0,0,[]),(1,0,[]),(2,1,[1]),(3,1,[])] zKr zKr zSi ?_;simp[go_sem];exact .hf _ (jL zR E)
  |ok ko =>
   obtain⟨q,rfl,hq⟩:=ai ko (qh _) wa hs rfl a7;have ao:=hS a7 q rfl;subst ao;have aa:(ql q).1=q.ar:=rfl;by_cases t:q.ar=1
   .have T:(ql q).1=1:=aa.trans t
    obtain⟨S2,cg⟩:=a9 q hq t rfl;have a5:JG (.ok (some q))=ql q:=if_pos t;rw[a5];have ab:envS ((n.name,q) :: s)=envS s++[(n.name,ql q)]:=by simp[envS]
    rw[ab]at cg;generalize ql q=Q at *
    obtain⟨qa,U⟩:=Q;have a6:qa=1:=T;subst a6;simp[go_sem,dgOf];refine fG [0,1,2,4,5,6,7,8,10,11,12,13,3,9,14,15,16,17,18,19,20,21] [(0,0,[]),(1,0,[]),(2,0,[]),(4,0,[]),(5,0,[]),(6,0,[]),(7,0,[]),(8,0,[]),(10,0,[]),(11,0,[]),(12,0,[]),(13,0,[]),(3,1,[0,5,6,11,13]),(9,1,[0,11,13]),(14,1,[]),(15,0,[]),(16,0,[]),(17,0,[]),(18,2,[0,5,6,11,13]),(19,2,[0,5,6,11,13]),(20,1,[]),(21,1,[])] zKr zKr zSi ?_;simp[go_sem,qo,tk];rw[if_pos (qU _)];generalize hC:putCells _ 1 _=C;have aq:C=cVr (n.name,(1,U)):=by rw[<-hC];exact pcV n.name (1,U)
    subst aq;clear hC;have au:(cVr (n.name,((1:Int),U))).length=66:=by simp[qo]
    have av:=X1 (n.name,((1:Int),U));generalize hV:cVr (n.name,((1:Int),U))=V at *
    simp[go_sem,au];rw[if_pos av];simp[go_sem,I];refine X3 (lo:=5) (xs:=[]) (ys:=envS s) (OwnF.nil zSp) (by simp[qE]) (by simp[Un];omega) fun b0 m1 aw a0=>?_
    have k0:=a0 0 zOm;have k1:=a0 1 zOm;have k2:=a0 2 zOm;have k3:=a0 3 zOm;have k4:=a0 4 zOm;simp at k0 k1 k2 k3 k4;simp[go_sem,qo,tk,I,k0,k3];refine X3 (xs:=[]++envS s) (ys:=[(n.name,(1,U))]) aw (by simp[qE,hV]) (by simp[Un];omega) fun b1 m2 a2 J=>?_
    rw[List.nil_append]at a2;have ax:=a2.2.2;replace k0:=(J 0 zOm).trans k0;replace k1:=(J 1 zOm).trans k1;replace k2:=(J 2 zOm).trans k2;replace k3:=(J 3 zOm).trans k3;replace k4:=(J 4 zOm).trans k4;have o:∀(l:List Cell)(i:Nat),i<m2.length->(m2++l)[i]?=m2[i]?:=fun l i hi=>qB hi
    have g0:=(qg.1 k0).2;have g1:=(qg.1 k1).2;have g2:=(qg.1 k2).2;have g3:=(qg.1 k3).2;simp[go_sem,I,k0];refine fR (args':=[eVw c _,lVr (envS s++[(n.name,(1,U))]),eNd g]) cg ⟨.hf _ (qbH c _),rdVr a2,.hf _ (qz g),trivial⟩ (qmW S2 _) ?_;have p0:=fun l=>(o l 0 zOm).trans k0
    have p1:=fun l=>(o l 1 zOm).trans k1
    have p2:=fun l=>(o l 2 zOm).trans k2
    have p3:=fun l=>(o l 3 zOm).trans k3
    have p4:=fun l=>(o l 4 zOm).trans k4
    have ad:0<m2.length:=zOm;have ae:3<m2.length:=zOm;simp[go_sem,qo,tk,I,g0,g3,ad,ae,p3];rw[if_pos (qU _)];generalize hP:putCells _ 0 (cRS S2)=P;have R:P=cRS S2:=by rw[<-hP];exact pc (aI 0) _ (fun _=>false) _
    subst R;clear hP;simp[go_sem];obtain⟨rr,af⟩:=five k0 k1 k2 k3 k4;have b2:m2.length=rr.length+5:=by rw[af];rfl
    clear g0 g1 g2 g3 p0 p1 p2 p3 p4 o a2 J k0 k1 k2 k3 k4 ax ad ae;refine fG [0,1,2,3] [(0,0,[]),(1,0,[]),(2,1,[1]),(3,1,[])] zKr zKr zSi ?_;simp[go_sem,qo,tk,af];rw[if_pos (qU _)];generalize hP:putCells _ 0 (aI 1 :: hB U)=P;have R:P=aI 1 :: hB U:=by rw[<-hP];exact pc (aI 0) (aI 1) (fun _=>false) U
    subst R;clear hP;simp[go_sem,qo,tk];exact .hf _ (jL (1,U) E)
   .have T:¬(ql q).1=1:=fun e=>t (aa.symm.trans e)
    have a5:JG (.ok (some q))=zR:=if_neg t;rw[a5];have a1:E=(42,n.pos):=by
     rw[<-hE];simp only[zH];rw[hX];simp only;rw[if_neg t];rfl
    subst a1;clear hE;generalize ql q=Q at *
    simp[go_sem,dgOf,T];refine fG [0,1,2,3,4,5] [(0,0,[]),(1,0,[]),(2,0,[]),(3,0,[]),(4,1,[2]),(5,1,[])] zKr zKr zSi ?_;simp[go_sem];exact .hf _ (jL zR (42,n.pos))
theorem qmY(ts)(ok:okTS ts)(n l)(t:n.op≠1)(o:n.op≠15)
  (C:n.op=5\/n.op=11\/n.op=12\/n.op=13->∃ a,l=[some a]/\okKd ts.sS.length a)
  (I:n.op=6\/n.op=14\/n.op=7\/n.op=8\/n.op=32\/n.op=33\/n.op=9\/n.op=10->∃ a b,l=[some a,some b]/\okKd ts.sS.length a/\okKd ts.sS.length b) :
  ∃ S b,(∀ L,((n.op=5\/n.op=11\/n.op=12\/n.op=13)\/(n.op=6\/n.op=14\/n.op=7\/n.op=8\/n.op=32\/n.op=33\/n.op=9\/n.op=10)->L=l.map setO)->prC ts n L S b)/\ApE n.op (zn ts.sS.length n.op n.n n.pos l) S b:=by
 by_cases R:(n.op=5\/n.op=11\/n.op=12\/n.op=13)\/(n.op=6\/n.op=14\/n.op=7\/n.op=8\/n.op=32\/n.op=33\/n.op=9\/n.op=10)
 .obtain ⟨S,b,c,a⟩:=qmS ts ok n l (l.map setO) t o (fun h=>by obtain⟨a,rfl,p⟩:=C h;exact⟨a,rfl,rfl,p⟩) (fun h=>by obtain⟨a,b,rfl,p,J⟩:=I h;exact⟨a,b,rfl,rfl,p,J⟩)
  grind
 by_cases g:n.op=2
 .refine ⟨ql ⟨n.n,[]⟩,true,fun L _=>qbG (qbD n.n) (ap2 ts n L g),?_⟩
  unfold zn;rw[if_pos g];exact⟨rfl,fun _=>⟨_,rfl,rfl⟩⟩
 by_cases i:n.op=3
 .refine ⟨_,true,fun L _=>ap3 ts ok n L i,?_⟩
  unfold zn;rw[if_neg g,if_pos i];exact⟨rfl,fun _=>⟨_,rfl,rfl⟩⟩
 by_cases j:n.op=4
 .refine ⟨_,true,fun L _=>ap4 ts ok n L j,?_⟩
  unfold zn;rw[if_neg g,if_neg i,if_pos j];exact⟨rfl,fun _=>⟨_,rfl,rfl⟩⟩
 refine⟨zR,true,fun L _=>apO ts n L g i j zOm zOm zOm zOm zOm zOm zOm zOm zOm zOm zOm zOm,?_⟩;rw[VL g i j zOm zOm zOm zOm zOm zOm zOm zOm zOm zOm zOm zOm];refine⟨rfl,fun P=>?_⟩;have:=Jf P;omega
def resS:Res->RS
 | .ok (some k)=>ql k
 |_=>zR
theorem qmZ(R):endR zR R = .tup [eRS (resS R),eDg (dgOf R)]:=by
 cases R with
 |error e=>rfl
 |ok k=>cases k<;>rfl
end QR
end Go.Proofs.YtlnbdknjkmmgbaaGreatDoor
