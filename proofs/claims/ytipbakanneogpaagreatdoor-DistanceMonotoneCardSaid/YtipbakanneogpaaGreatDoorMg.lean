/-
  Own library, part 7: an abstract reading of values and a calculus over it; contracts of functions; plain lemmas.
-/
import Derived.Handed
import Derived.WideKeyArgs
import Derived.ProofKit
import Derived.OpenShut
import Derived.JoinedCond
import Derived.KernelRfl
import Derived.Test.YtipbakanneogpaaGreatDoorMf
set_option linter.unusedVariables false
set_option linter.unusedSimpArgs false
set_option maxRecDepth 100000
open Go renaming Program->qb,TypeId->qc,World->qd,Value->qf,undef->qU,FuncId->qx
open Go.Proofs.Tryz renaming prog->qe
open List renaming getElem?_eq_some_iff->qk,mem_map->qn,getElem_mem->qs,range->qu,mem_cons->qy,getElem?_eq_getElem->qA,not_mem_nil->qG,mem_append->qM,getElem?_append_left->qN,take_length->qO,mem_singleton->qV,mem_cons_of_mem->q8,replicate->q9,mem_of_getElem?->zb,length_append->zd,map_append->ze,mem_cons_self->zg,getElem?_map->zn,drop_eq_getElem_cons->zu,all_eq_true->zF,length_cons->zG,getElem?_append_right->zM,append_nil->zO,getD_eq_getElem?_getD->zS,length_map->zT,take_of_length_le->z6,drop_length->yd,mem_range->yi,mem_filter->jH,getElem?_cons_succ->v6,eq_nil_of_length_eq_zero->Qd,flatten_cons->Qe
open Go.IntKind renaming i64->qq
open Nat renaming le_refl->qr,zero_add->yj,le_of_ble_eq_true->ur,zero_le->Yl
open Option.some renaming injEq->qv
open Bool renaming and_eq_true->qH,eq_iff_iff->j9
open Array renaming getD_eq_getD_getElem?->zc
open List.Nodup renaming length_le_of_subset->vb
open Int renaming le_refl->v7,tmod_eq_emod_of_nonneg->wq
namespace Go.EvW
open Go Go.Ev Go.RowKit Go.ChangeShapes Go.WideShapes
section
variable {H I:Type}{c:I->List AV}{fs:List (qc×Nat)}{cs:List qf}{N:Nat}{P:qb}{t:qc}{w:qd}
def CR(w:qd)(xs:List AV)(cs:List qf):Prop:=
 cs.length=xs.length/\∀(k:Nat) x,xs[k]?=some x->VRel ⟨(·<w.heap.size),[]⟩ w.heap x (cs.getD k qU)
theorem CR.nil(w):CR w [] []:=⟨rfl,zSp⟩
theorem CR.one{x v}(h:VRel ⟨(·<w.heap.size),[]⟩ w.heap x v):CR w [x] [v]:=⟨rfl,fun k y g=>by
 grind⟩
theorem CR.app{xs ys ds}(h:CR w xs cs)(k:CR w ys ds):CR w (xs++ys) (cs++ds):=by
 refine⟨by simp[h.1,k.1],fun i x g=>?_⟩;by_cases j:i<xs.length
 .rw [qN j]at g
  have:=h.2 i x g;rw[zS]at this⊢;rw[qN (by rw[h.1];exact j)];exact this
 .rw [zM zOm]at g
  have:=k.2 _ x g;rw[zS]at this⊢;rw[zM (by rw[h.1];omega),h.1];exact this
def j6(P:qb)(t:qc)(d:DataW H):Prop:=(d.weights P t).all (·<=reachBytes)=true
theorem j6.all{e}:∀{ds:List (DataW H)},(DataW.weightsAll P e ds).all (·<=reachBytes)=true->∀(i:Nat) d,ds[i]?=some d->j6 P e d
 | [],_,i,d,g=>by simp at g
 |x :: r,h,i,d,g=>by
  simp only[DataW.weightsAll,List.all_append,qH]at h;cases i with
  |zero=>simp at g;subst g;exact h.1
  |succ i=>exact j6.all h.2 i d (zUs g)
theorem cR:∀{ts}{ds:List (DataW H)},(DataW.weightsEach P ts ds).all (·<=reachBytes)=true->∀(i:Nat) t d,ts[i]?=some t->ds[i]?=some d->j6 P t d
 | [],ds,_,i,t,d,g,_=>by simp at g
 |t0 :: ts,[],_,i,t,d,_,j=>by simp at j
 |t0 :: ts,x :: r,h,i,t,d,g,j=>by
  simp only[DataW.weightsEach,List.all_append,qH]at h;cases i with
  |zero=>simp at g j;subst g;subst j;exact h.1
  |succ i=>exact cR h.2 i t d (zUs g) (zUs j)
def ShT(P:qb)(n:Nat)(t:qc){I:Type}(c:I->List AV)(ok:I->Prop):Prop:=
 ∀(H:Type)(g:qc×qf->H)(w:qd)(i:List qf)(x:DataW H×List MemPlace),
  DataW.trod g P w 0 (fun _=>true) true n t i=some x->j6 P t x.1->∃ a,ok a/\CR w (c a) i
def ShU(P:qb)(N:Nat)(t:qc){I:Type}(c:I->List AV)(ok:I->Prop):Prop:=∀ n,n<N->ShT P n t c ok
theorem ShU.le{M ok}(h:ShU P N t c ok)(g:M<=N):ShU P M t c ok:=fun n i=>h n zOm
theorem ShU.map{i ok c' g}(h:ShU P N t c ok)(f:I->i)(C:∀ a,c' (f a)=c a)(J:∀ a,ok a->g (f a)):ShU P N t c' g:=by
 intro n l H j w o x p r;obtain⟨a,R,T⟩:=h n l H j w o x p r
 grind
theorem ShU.int{k}(g:P.underlying t=some (.int k))(N):ShU P N t (fun n:Int=>[.sc (.int k n)]) (fun n=>(Lit.int k n).wf=true):=by
 intro n o H j w p x h _;obtain⟨i,rfl,_,l⟩:=DataW.trod_int g h;exact⟨i,l,.one (.sc _ rfl)⟩
theorem ShU.bool(g:P.underlying t=some .bool)(N):ShU P N t (fun b:Bool=>[.sc (.bool b)]) (fun _=>True):=by
 intro n l H j w o x h _;obtain⟨i,rfl,_⟩:=DataW.trod_bool g h;exact⟨i,trivial,.one (.sc _ rfl)⟩
theorem ShU.string(j:P.underlying t=some .string)(N):ShU P N t (fun s:tP=>[.sc (.string s)]) (fun s=>s.size<=140737488351232):=by
 intro n p H l w r x h g;obtain⟨i,rfl,rfl,C⟩:=DataW.trod_string j h;refine⟨i,?_,.one (.sc _ rfl)⟩;unfold j6 at g;simp only[DataW.weights,List.all_cons,List.all_nil,Bool.and_true,decide_eq_true_eq]at g;have e:i.data.toList.length=i.size:=Array.length_toList;have o:i.size<=reachBytes:=by rw[<-e];exact g
 exact Nat.le_trans o (ur rfl)
theorem qc3{a n}(h:w.cells? 0 a n=some cs):cs.length=n/\∀ i,i<n->w.cell? (a.add i)=some (cs.getD i qU):=by
 unfold World.cells? at h;rw[if_pos (Yl _)]at h;have g:=mapM_some_length h;refine⟨zUs g,fun i j=>?_⟩;have:=mapM_some_get h i i (zP1 j)
 grind
theorem qc4{a v}(h:w.cell? a=some v):∃ arr e g,w.heap[a.block]?=some (.cells arr e g)/\a.spot=none/\arr[a.off]?=some v:=by
 unfold World.cell? at h;split at h
 .simp_all
 .cases h
theorem qpM[Inhabited I]{p:Nat->I->Prop}(n)(h:∀ i,i<n->∃ a,p i a):∃ l:List I,l.length=n/\∀(i) a,l[i]?=some a->p i a:=by
 induction n with
 |zero=>simp
 |succ n g =>
  obtain⟨l,j,o⟩:=g (fun i r=>h i zOm);obtain⟨a,t⟩:=h n zOm;refine⟨l++[a],zP1 j,fun i b C=>?_⟩
  grind
theorem ShU.slice{e}[Inhabited I]{c ok}(ht:P.underlying t=some (.slice e))(he:ShU P N e c ok)(ak:∀ a,ok a->(c a).length=P.cellsOf e)(p:0<P.cellsOf e)(a5:Nat.blt 0 (P.bytesOf e)=true) :
  ShU P (N+1) t (fun l:List I=>[.lst false (l.map c)]) (fun l=>l.length<=140737488351232/\∀ a,a∈l->ok a):=by
 intro n hn H a6 w cs x h hw;rcases DataW.trod_slice ht h with ⟨rfl,_⟩|⟨a,len,cap,g,C,m,rfl,rfl,rfl,_,hl,hc,al,T,_,_⟩
 .exact ⟨[],⟨zSp,zSp⟩,.one (.nil _)⟩
 .have a7:(DataW.weightsAll P e (g.map (·.1))).all (·<=reachBytes)=true:=by
   simp_all[j6,DataW.weights,List.all_cons,List.all_append,qH]
  have an:len<=140737488351232:=by
   unfold j6 at hw;simp only[DataW.weights,ht,List.all_cons,List.all_append,qH,decide_eq_true_eq]at hw;have J:=hw.1;have a8:1<=P.bytesOf e:=ur a5;have h2:((g.map (·.1)).length+(C.map (·.1)).length)*1<=((g.map (·.1)).length+(C.map (·.1)).length)*P.bytesOf e:=Nat.mul_le_mul_left _ a8;simp only[zT]at J h2;have h3:reachBytes<=140737488351232:=ur rfl;omega
  have key:∀ i,i<len->∃ b,ok b/\∃ o,w.cells? 0 (a.add (i*P.cellsOf e)) (P.cellsOf e)=some o/\CR w (c b) o:=by
   intro i hi;have J:=T i hi;have U:i<g.length:=zOm;rw[qA U]at J;obtain⟨o,h2,h3⟩:=Option.bind_eq_some_iff.1 J;obtain⟨b,h4,h5⟩:=he m zOm H a6 w o _ h3 (j6.all a7 i _ (by rw[zn,qA U];rfl))
   grind
  obtain⟨l,a9,a0⟩:=qpM len key;refine⟨l,⟨zOm,fun b hb=>?_⟩,.one ?_⟩
  .grind [List.mem_iff_getElem?]
  .have aa:(l.map c).length=len:=by simp[a9]
   rw[<-aa];cases Nat.eq_zero_or_pos len with
   |inl h0 =>
    have:l=[]:=Qd zOm;subst this;exact .emp _ a cap zSp
   |inr hp =>
    have ab:0<l.length:=zOm;obtain⟨_,ao,J,_⟩:=a0 0 l[0] (qA ab);obtain⟨ad,R⟩:=qc3 J;have ae:=R 0 p;obtain⟨arr,el,fr,hb,hs,_⟩:=qc4 ae;have ai:∀ k:Nat,a.spot=none->(a.add k).spot=none/\(a.add k).off=a.off+k:=by
     grind [Addr.add]
    have a1:∀(b:Addr)(j:Nat),(b.add j).block=b.block:=by
     grind [Addr.add]
    have e0:((a.add (0*P.cellsOf e)).add 0).block=a.block/\((a.add (0*P.cellsOf e)).add 0).spot=a.spot:=by
     grind [Addr.add]
    rw[e0.1]at hb;rw[e0.2]at hs;have hz:yR (P.cellsOf e) (l.map c):=fun r hr=>by
     obtain⟨b,aq,rfl⟩:=qn.1 hr
     grind [List.mem_iff_getElem?]
    have ar:=yQ hz;refine .lst false (l.map c) (P.cellsOf e) a cap arr el fr (fun k=>arr.getD (a.off+k) qU) hb hs zOm zSp (Array.getElem?_eq_some_iff.1 hb).1 hz ?_ ?_
    all_goals
     intro k x hk;have au:k<(l.map c).length*P.cellsOf e:=by grind
     have hq:k / P.cellsOf e<l.length:=by
      simp_all[zT,Nat.div_lt_of_lt_mul,Nat.mul_comm]
     have hr:k % P.cellsOf e<P.cellsOf e:=Nat.mod_lt _ p;have av:k / P.cellsOf e*P.cellsOf e+k % P.cellsOf e=k:=by
      grind [Nat.div_add_mod,Nat.mul_comm]
     obtain⟨_,o,J,h2⟩:=a0 (k / P.cellsOf e) _ (qA hq);obtain⟨ad,R⟩:=qc3 J;have af:=R _ hr;have a2:(l.map c)[k / P.cellsOf e]?=some (c l[k / P.cellsOf e]):=by rw[zn,qA hq];rfl
     have hx:(c l[k / P.cellsOf e])[k % P.cellsOf e]?=some x:=by
      have ag:k % P.cellsOf e<(c l[k / P.cellsOf e]).length:=by grind
      have:=WW hz a2 (qA ag)
      grind
     obtain⟨aj,aw,ax,a3,ay,a4⟩:=qc4 af;have e1:((a.add (k / P.cellsOf e*P.cellsOf e)).add (k % P.cellsOf e)).block=a.block:=by rw[a1,a1]
     have e2:((a.add (k / P.cellsOf e*P.cellsOf e)).add (k % P.cellsOf e)).off=a.off+k:=by
      grind [Addr.add]
     rw[e1,hb]at a3;cases a3;rw[e2]at a4;have ah:arr.getD (a.off+k) qU=o.getD (k % P.cellsOf e) qU:=by
      rw[zc,a4];rfl
    .grind
    .show VRel _ _ x (arr.getD (a.off+k) qU)
     rw[ah];exact h2.2 _ x hx
def Wp(P:qb)(t:qc):Option (List (qc×Nat)):=match P.underlying t with|some (.struct g)=>some (g.toList.map fun f=>(f.type,f.offset))|_=>none
inductive ShF (P:qb) (N:Nat):Nat->List (qc×Nat)->{α:Type}->(α->List AV)->(α->Prop)->Prop where
 |nil (o:Nat):ShF P N o [] (fun _:Unit=>[]) (fun _=>True)
 |cons {o:Nat} {t:qc} {fs:List (qc×Nat)} {α β:Type} {c:α->List AV} {ok:α->Prop} {c':β->List AV} {ok':β->Prop} (h:ShU P N t c ok) (k:ShF P N (o+P.cellsOf t) fs c' ok') :
   ShF P N o ((t,o) :: fs) (fun x:α×β=>c x.1++c' x.2) (fun x=>ok x.1/\ok' x.2)
def Vx(P:qb)(fs:List (qc×Nat)):Nat:=(fs.map fun f=>P.cellsOf f.1).foldr (·+·) 0
theorem ShF.read{n o ok}(h:ShF P N o fs c ok)(C:n<N){H}{enc:qc×qf->H}{w}(cs:List qf)
  (p:cs.length=o+Vx P fs) (r:∀(i:Nat) f,fs[i]?=some f->∃ x,DataW.trod enc P w 0 (fun _=>true) true n f.1 ((cs.drop f.2).take (P.cellsOf f.1))=some x/\j6 P f.1 x.1) :
  ∃ a,ok a/\CR w (c a) (cs.drop o):=by
 induction h with
 |nil o =>
  refine⟨(),trivial,?_⟩;rw[List.drop_of_length_le (by grind [Vx])];exact .nil w
 | @cons o t fs I β c ok c' J h k R =>
  obtain⟨x,j,l⟩:=r 0 _ rfl;obtain⟨a,T,U⟩:=h n C H enc w _ x j l;have a0:Vx P ((t,o) :: fs)=P.cellsOf t+Vx P fs:=rfl;obtain⟨b,hb,hs⟩:=R zOm (fun i g hg=>r (i+1) g hg);refine⟨(a,b),⟨T,hb⟩,?_⟩;have e:cs.drop o=(cs.drop o).take (P.cellsOf t)++cs.drop (o+P.cellsOf t):=by
   rw[<-List.drop_drop,List.take_append_drop]
  rw[e];exact U.app hs
theorem ShU.struct{ok}(j:Wp P t=some fs)(hf:ShF P N 0 fs c ok)(T:P.cellsOf t=Vx P fs):ShU P (N+1) t c ok:=by
 intro n hn H l w U x h hw;unfold Wp at j;split at j
 .rename_i gs hu
  simp only[qv]at j;subst j;obtain⟨J,m,rfl,rfl,hl,a0,hg⟩:=DataW.trod_struct hu h;have r:(DataW.weightsEach P (gs.toList.map (·.type)) (J.map (·.1))).all (·<=reachBytes)=true:=by
   grind [j6,DataW.weights]
  obtain⟨a,ha,hr⟩:=hf.read (n:=m) zOm (w:=w) (enc:=l) U zOm (fun i f C=>by
   simp only[zn,Option.map_eq_some_iff]at C;obtain⟨g,o,rfl⟩:=C;have R:=hg i g (zUs o);have p:i<J.length:=by
    grind
   rw[qA p]at R;exact⟨_,R,cR r i _ _ (by rw[zn,o];rfl) (by rw[zn,qA p];rfl)⟩)
  grind
 .cases j
theorem ShU.arg1{c:I->AV}{ok}(h:∀ N,ShU P N t (fun a=>[c a]) ok)(g:∀ w r b v,Value.okWide P w r b t v->v.cells=#[v])
  {H} {enc} {w} {r} {b} {v} {d:DataW H} {ps} (i:Value.okWide P w r b t v) (l:DataW.Trod enc P w 0 (fun _=>true) true t v d ps) (o:j6 P t d) :
  ∃ a,ok a/\VRel ⟨(·<w.heap.size),[]⟩ w.heap (c a) v:=by
 obtain⟨n,p⟩:=l;obtain⟨a,C,j⟩:=h (n+1) n zOm H enc w _ _ p o;rw[g w r b v i]at j;have:=j.2 0 (c a) rfl
 grind
theorem cW{ok fs}(h:∀ N,ShU P N t c ok)(j:P.underlying t=some (.struct fs))
  {H} {enc} {w} {r} {b} {v} {d:DataW H} {ps} (g:Value.okWide P w r b t v) (l:DataW.Trod enc P w 0 (fun _=>true) true t v d ps) (o:j6 P t d) :
  ∃ a,ok a/\VRel ⟨(·<w.heap.size),[]⟩ w.heap (.agg (c a)) v:=by
 obtain⟨n,p⟩:=l;obtain⟨a,C,i⟩:=h (n+1) n zOm H enc w _ _ p o;unfold Value.okWide at g;rw[j]at g;obtain⟨R,rfl,_,_⟩:=g;refine⟨a,C,.agg _ _ (by simpa[Value.cells] using i.1) (fun k x J=>?_)⟩;have:=i.2 k x J
 grind [Value.cells,zc]
end
end Go.EvW
namespace Go.EvW
open Go Go.Ev Go.RowKit Go.ChangeShapes Go.WideShapes
section
variable {I:Type}{c:I->List AV}{ts:List qc}{P:qb}{t:qc}{w:qd}
def Yf(P:qb)(t:qc){I:Type}(c:I->AV)(ok:I->Prop):Prop:=
 ∀(H:Type)(g:qc×qf->H)(w:qd)(r:Reach)(b:Nat)(v:qf)(d:DataW H)(i:List MemPlace),Value.okWide P w r b t v->DataW.Trod g P w 0 (fun _=>true) true t v d i->j6 P t d ->
  ∃ a,ok a/\VRel ⟨(·<w.heap.size),[]⟩ w.heap (c a) v
theorem Yf.struct{ok}(g:(Wp P t).isSome=true)(h:∀ N,ShU P N t c ok):Yf P t (fun a => .agg (c a)) ok:=by
 intro H i w r b v d C j l o;unfold Wp at g;split at g
 .rename_i J p;exact cW h p j l o
 grind
inductive ArgF (P:qb):List qc->{α:Type}->(α->List AV)->(α->Prop)->Prop where
 |nil:ArgF P [] (fun _:Unit=>[]) (fun _=>True)
 |cons {t:qc} {ts:List qc} {α β:Type} {c:α->AV} {ok:α->Prop} {c':β->List AV} {ok':β->Prop} (h:Yf P t c ok) (k:ArgF P ts c' ok'):ArgF P (t :: ts) (fun x:α×β=>c x.1 :: c' x.2) (fun x=>ok x.1/\ok' x.2)
theorem ArgF.read{ok}(h:ArgF P ts c ok){H enc w r b} :
  ∀{g}{ds:List (DataW H)}{ps},DataW.TrodAll enc P w 0 (fun _=>true) true ts g ds ps->(∀(j:Nat) t v,ts[j]?=some t->g[j]?=some v->Value.okWide P w r b t v)->(DataW.weightsEach P ts ds).all (·<=reachBytes)=true ->
  ∃ a,ok a/\ds.length=ts.length/\g.length=(c a).length/\∀(k) x,(c a)[k]?=some x->VRel ⟨(·<w.heap.size),[]⟩ w.heap x (g.getD k qU):=by
 induction h with
 |nil =>
  intro g ds ps i _ _;obtain⟨rfl,rfl,rfl⟩:=trodAll_nil i;simp
 | @cons t ts I β c ok c' R h k T =>
  intro g ds ps i J l;obtain⟨v,U,d,a0,p,q,rfl,rfl,rfl,h1,h2⟩:=trodAll_cons i;simp only[DataW.weightsEach,List.all_append,qH]at l;obtain⟨a,ha,hr⟩:=h H enc w r b v d p (J 0 t v rfl rfl) h1 l.1;obtain⟨a',o,C,hl,hg⟩:=T h2 (fun j t v=>J (j+1) t v) l.2;refine⟨(a,a'),⟨ha,o⟩,zP1 C,zP1 hl,fun k x hx=>?_⟩
  grind
theorem qc5(l:laidOutB P=true){H enc W o sp}:∀{ts i}{ds:List (DataW H)}{ps},
  (∀ t,t∈ts->P.readableRec t=true/\t<P.types.size)->DataW.TrodAll enc P W 0 (fun _=>true) true ts i ds ps->(∀ p∈ps,W.sameAt o p)->(∀ p∈ps,sp p.block=true)->DataW.TrodAll enc P o 0 sp true ts i ds ps
 | [],i,ds,ps,_,h,_,_=>by
  obtain⟨rfl,rfl,rfl⟩:=trodAll_nil h;exact trodAll_mk0
 |t :: ts,i,ds,ps,r,h,C,I=>by
  obtain⟨v,J,d,R,p,q,rfl,rfl,rfl,g1,T⟩:=trodAll_cons h;have j:=r t zSp;exact trodAll_cons_mk (WideElems.Trod_stays l j.1 j.2 g1 (fun x g=>C x (zP1 g)) (fun x g=>I x (zP1 g)))
   (qc5 l (fun t j=>r t (zP1 j)) T (fun x g=>C x (zP1 g)) (fun x g=>I x (zP1 g)))
theorem qpN{f fn}{s:ChangeSpec}{tb ok}(hp:fn.params=ts.toArray)(hF:ArgF P ts c ok)(hv:s.vars=[])
  (T:∀ H ds,ds.length=ts.length->s.fn H ds={ results:=[.lit (.bool true)],args:=ds }) (hr:fn.resultTypes=#[tb]) (U:P.underlying tb=some .bool)
  (hl:laidOutB P=true) (a7:(ts.all fun t=>P.readableRec t&&decide (t<P.types.size))=true) (hS:∀ a,ok a->qi P f (c a) (aB true))
  (H) (C) (W) (base) (args) (ds gs:List (DataW H)) (g)
  (i:∀(j:Nat) t v,fn.params[j]?=some t->args[j]?=some v->Value.okWide P W .any base t v) (hW:DataW.Whole C P fn.params.toList s.vars false W args.toList ds gs g) (a8:(DataW.weightsEach P fn.params.toList ds).all (·<=reachBytes)=true) (hT:ZO (·<W.heap.size) W.heap) :
  Calls P f args W fun e W'=>∃ v,e = .returned v/\s.post C P fn false true false false W args v W':=by
 have a0:=hW;obtain⟨p,q,R,hV,J,a9,_⟩:=hW;rw[hv]at hV;obtain⟨hg,hq⟩:=trodVars_none hV;subst hg;subst hq;rw[zO]at J;subst J;rw[hp]at R i;obtain⟨a,ha,a1,a2,aa⟩:=hF.read (r := .any) (b:=base) R (fun j t v h1 h2=>i j t v (zUs h1) (zUs h2)) (by grind);have a3:∀ x,x∈g->x.block<W.heap.size:=fun x l=>R.lt x l
 obtain⟨_,o⟩:=hS a ha;refine(o (·<W.heap.size) W args (Sim.empty (fun _ h=>h) hT) ⟨zUs a2,fun k x hk=>?_⟩).mono fun e W' ⟨a6,v,he,_,_,hb,a4⟩=>?_
 .simp_all
 .have a5:v = .bool true:=by cases a4;rfl
  subst a5;refine⟨_,he,ds,[],g,[],g,[],a0,?_,?_,?_,World.keptBut_mono (fun x l=>⟨l,.inr (.inl l)⟩) (hb.frame (·∈g)),fun h=>by cases h⟩
  all_goals try rw[zO]
  all_goals try rw[T H ds a1]
  .rw [hr]
   exact trodAll_cons_mk (p':=[]) (shut_bool U true) trodAll_mk0
  .rw [hp]
   refine qc5 hl (fun t ht=>?_) R (fun x l=>hb.same (a3 x l)) (fun x l=>by grind)
   grind
  .rw [hv];rfl
theorem ShF.cons'{N o o' fs i ok c' g}(j:o+P.cellsOf t=o')(h:ShU P N t c ok)(k:ShF P N o' fs c' g) :
  ShF P N o ((t,o) :: fs) (fun x:I×i=>c x.1++c' x.2) (fun x=>ok x.1/\g x.2):=by
 subst j;exact .cons h k
theorem qc6:∀{laid ps},DataW.LaidVars P w laid ps->∀ x,x∈laid->∃ g t cs fuel p,P.globalNamed x.1=some g/\(P.globals[g]?).map (·.type)=some t/\w.var? P x.1=some cs/\DataW.trod (fun _=>()) P w 0 (fun _=>true) false fuel t cs.toList=some (x.2,p)
 | [],_,_,x,i=>by simp at i
 | (n,d) :: r,ps,h,x,i=>by
  obtain⟨g,t,cs,fuel,p,q,l,o,C,I,j,_⟩:=h;rcases qy.1 i with rfl|i
  .grind
  .exact qc6 j x i
theorem qpO{e n fuel k}(T:P.underlying t=some (.array n e))(U:P.underlying e=some (.int k))(hc:P.cellsOf e=1)(r:P.cellsOf t=n){cs}{ns:List Int}{p}
  (h:DataW.trod (fun _=>()) P w 0 (fun _=>true) false fuel t cs=some (.agg (ns.map fun i => .lit (.int k i)),p)):cs=ns.map fun i => .int k i:=by
 obtain⟨J,m,_,g,R,hn,j⟩:=DataW.trod_array T h;simp only[Prod.mk.injEq,DataW.agg.injEq]at g;have g:=g.1;have C:ns.length=n:=by have:=congrArg List.length g;simp at this;omega
 rw[r]at R;rw[hc]at j;apply List.ext_getElem
 .simp [R,C]
 .intro i h1 h2
  have I:=j i zOm;rw[Nat.mul_one]at I;have l:i<J.length:=zOm;rw[qA l]at I;obtain⟨z,e1,e2,_⟩:=DataW.trod_int U I;have h4:(J[i]).1=DataW.lit (.int k z):=by rw[e2]
  have o:(ns.map fun i=>(DataW.lit (.int k i):DataW Unit))[i]?=(J.map (·.1))[i]?:=by rw[g]
  rw[zn,zn,qA l,qA zOm]at o;simp only[Option.map_some,qv]at o;rw[h4]at o;simp only[DataW.lit.injEq,Lit.int.injEq,true_and]at o;have h6:(cs.drop i).take 1=[cs[i]]:=by rw[zu h1];rfl
  grind
theorem qpP{name g cs}(j:P.globalNamed name=some g)(h:w.var? P name=some cs):∃ e i,w.heap[g]?=some (.cells cs e i):=by
 grind [World.var?]
end
end Go.EvW
namespace Go.Proofs.YtipbakanneogpaaGreatDoor
open Go Go.Ev Go.Proofs Tryz
namespace DT
open Go.EvW Y1 P1 YF
theorem unInt:qe.underlying 3=some (.int .i64):=by kernel_rfl
theorem qc7:qe.underlying 4=some .bool:=by kernel_rfl
theorem qpQ:qe.underlying 9=some .string:=by kernel_rfl
theorem qpR:qe.underlying 28=some (.slice 3):=by kernel_rfl
theorem qpS:qe.underlying 22=some (.slice 65):=by kernel_rfl
theorem qpT:qe.underlying 23=some (.slice 67):=by kernel_rfl
theorem qpU:qe.underlying 33=some (.slice 35):=by kernel_rfl
theorem qpV:qe.underlying 107=some (.slice 159):=by kernel_rfl
theorem qpW:qe.underlying 24=some (.slice 109):=by kernel_rfl
theorem qpX:qe.underlying 25=some (.slice 89):=by kernel_rfl
abbrev okI(n:Int):Prop := -9223372036854775808<=n/\n<=9223372036854775807
abbrev okS(s:tP):Prop:=s.size<=140737488351232
instance:Inhabited Nd:=⟨.mk 0 ⟨#[]⟩ 0 [] 0⟩
instance:Inhabited Pd:=⟨⟨⟨#[]⟩,[],default⟩⟩
instance:Inhabited Fld:=⟨⟨⟨#[]⟩,[],false⟩⟩
theorem Yg(N):ShU qe N 3 (fun n:Int=>[aI n]) okI:=
 (ShU.int unInt N).map (fun n=>n) (fun _=>rfl) (fun n h=>by
  grind [Lit.wf,IntKind.min,IntKind.max,IntKind.signed,IntKind.bits])
theorem kw(N):ShU qe N 4 (fun b:Bool=>[aB b]) (fun _=>True):=ShU.bool qc7 N
theorem Jq(N):ShU qe N 9 (fun s:tP=>[aS s]) okS:=ShU.string qpQ N
theorem kx(N):ShU qe N 28 (fun xs:List Int=>[lI xs]) (fun l=>l.length<=140737488351232/\∀ x,x∈l->okI x):=
 ((ShU.slice qpR (Yg N) (fun _ _=>zKr) (Nat.lt_of_lt_of_eq Nat.zero_lt_one zKr) zKr).le zOm).map (fun l=>l) (fun _=>rfl) fun _ h=>h
theorem qpY(N):ShU qe N 67 jY (fun f=>f.sS.length<=140737488351232/\∀ x,x∈f.sS->okI x):=
 ((ShU.struct (fs:=[(9,0),(28,1),(4,2)]) zKr (.cons' (o':=1) zKr (Jq N) (.cons' (o':=2) zKr (kx N) (.cons' (o':=3) zKr (kw N) (.nil 3)))) zKr).map
  (fun x=>(⟨x.1,x.2.1,x.2.2.1⟩:Fld)) (fun _=>rfl) (fun x h=>h.2.1)).le zOm
theorem qpZ(N):ShU qe N 65 uT (fun s=>okS s.1):=
 ((ShU.struct (fs:=[(9,0),(4,1)]) zKr (.cons' (o':=1) zKr (Jq N) (.cons' (o':=2) zKr (kw N) (.nil 2))) zKr).map
  (fun x=>((x.1,x.2.1):tP×Bool)) (fun _=>rfl) (fun x h=>h.1)).le zOm
theorem Vy:∀ N,ShU qe N 35 cNd (fun _=>True)
 | 0=>fun n i=>absurd i zOm
 | N+1 =>
  have ks:ShU qe N 33 (fun l:List Nd=>[.lst false (l.map cNd)]) (fun _=>True):=((ShU.slice qpU (Vy N) (fun a _=>(YI a).trans zKr) (Nat.lt_of_lt_of_eq (show 0<5 by omega) zKr) zKr).le zOm).map (fun l=>l) (fun _=>rfl) fun _ _=>trivial
  ((ShU.struct (fs:=[(3,0),(9,1),(3,2),(33,3),(3,4)]) zKr
   (.cons' (o':=1) zKr (Yg N) (.cons' (o':=2) zKr (Jq N) (.cons' (o':=3) zKr (Yg N) (.cons' (o':=4) zKr ks (.cons' (o':=5) zKr (Yg N) (.nil 5)))))) zKr)).map
   (fun x=>Nd.mk x.1 x.2.1 x.2.2.1 x.2.2.2.1 x.2.2.2.2.1) (fun x=>by rw[yp];rfl) fun _ _=>trivial
theorem qp0(N):ShU qe N 159 cPm (fun p=>okI p.2):=
 ((ShU.struct (fs:=[(9,0),(3,1)]) zKr (.cons' (o':=1) zKr (Jq N) (.cons' (o':=2) zKr (Yg N) (.nil 2))) zKr).map
  (fun x=>((x.1,x.2.1):tP×Int)) (fun _=>rfl) (fun x h=>h.2.1)).le zOm
theorem qp1(N):ShU qe N 107 (fun l:List (tP×Int)=>[lPm l]) (fun l=>l.length<=140737488351232):=
 ((ShU.slice qpV (qp0 N) (fun _ _=>zKr) (Nat.lt_of_lt_of_eq (show 0<2 by omega) zKr) zKr).le zOm).map (fun l=>l) (fun _=>rfl) fun _ h=>h.1
theorem qp2(N):ShU qe N 109 cPd (fun _=>True):=
 ((ShU.struct (fs:=[(9,0),(107,1),(35,2)]) zKr (.cons' (o':=1) zKr (Jq N) (.cons' (o':=2) zKr (qp1 N) (.cons' (o':=7) zKr (Vy N) (.nil 7)))) zKr).map
  (fun x=>(⟨x.1,x.2.1,x.2.2.1⟩:Pd)) (fun x=>by simp[cPd]) fun _ _=>trivial).le zOm
theorem qp3(N):ShU qe N 89 cFa (fun _=>True):=
 ((ShU.struct (fs:=[(9,0),(35,1)]) zKr (.cons' (o':=1) zKr (Jq N) (.cons' (o':=6) zKr (Vy N) (.nil 6))) zKr).map
  (fun x=>((x.1,x.2.1):tP×Nd)) (fun x=>by simp[cFa]) fun _ _=>trivial).le zOm
structure okTA (ts:TS):Prop where
 so:∀ x,x∈ts.sS->okS x.1
 nso:ts.sS.length<=140737488351232
 nf:ts.sA.length<=140737488351232
 fl:∀ f,f∈ts.sA->f.sS.length<=140737488351232/\∀ x,x∈f.sS->okI x
theorem qp4(N):ShU qe N 27 cTS okTA:=by
 have s1:=(ShU.slice qpS (qpZ N) (fun _ _=>zKr) (Nat.lt_of_lt_of_eq (show 0<2 by omega) zKr) zKr).le (M:=N) zOm;have i:=(ShU.slice qpT (qpY N) (fun _ _=>zKr) (Nat.lt_of_lt_of_eq (show 0<3 by omega) zKr) zKr).le (M:=N) zOm;have j:=(ShU.slice qpW (qp2 N) (fun a h=>(Zv a).1.trans zKr) (Nat.lt_of_lt_of_eq (show 0<7 by omega) zKr) zKr).le (M:=N) zOm;have l:=(ShU.slice qpX (qp3 N) (fun a h=>(mv a).1.trans zKr) (Nat.lt_of_lt_of_eq (show 0<6 by omega) zKr) zKr).le (M:=N) zOm;have T:=ShU.struct (t:=27) (fs:=[(22,0),(23,1),(24,2),(25,3)]) zKr (.cons' (o':=1) zKr s1 (.cons' (o':=2) zKr i (.cons' (o':=3) zKr j (.cons' (o':=4) zKr l (.nil 4))))) zKr;exact(T.map (fun x=>(⟨x.1,x.2.1,x.2.2.1,x.2.2.2.1⟩:TS)) (fun _=>rfl) fun x h=>⟨h.1.2,h.1.1,h.2.1.1,h.2.1.2⟩).le zOm
theorem aNode:Yf qe 35 eNd (fun _=>True):=Yf.struct zKr Vy
theorem unU8:qe.underlying 5=some (.int .u8):=by kernel_rfl
theorem shU8(N):ShU qe N 5 (fun n:Int=>[.sc (.int .u8 n)]) (fun n=>0<=n/\n<=255):=
 (ShU.int unU8 N).map (fun n=>n) (fun _=>rfl) (fun n h=>by
  simp[Lit.wf,IntKind.min,IntKind.max,IntKind.signed,IntKind.bits]at h;exact h)
end DT
namespace QA
def bA:tP:=⟨#[65]⟩
def bf:tP:=⟨#[102]⟩
def bp:tP:=⟨#[112]⟩
end QA
namespace QB
open Y1 Q6 Q9 QA
def nC:Nd := .mk 45 bf 0 [qcJ bA 2,.mk 47 bp 0 [qcJ bf 5] 3] 1
theorem h47:anyN (fun n=>decide (n.op=47)) nC=true:=by decide +kernel
theorem wkNd(l):WK (.lst true (l.map cNd)) (lNd l):=WK.lst fun r g c i=>by
 obtain⟨n,_,rfl⟩:=qn.1 g;exact vE n c i
def WkR:List (List AV)->List (List AV)->Prop
 | [],[]=>True
 |x :: J,y :: i=>WKs x y/\WkR J i
 |_,_=>False
theorem qc8:∀{xs ys g i},WKs xs ys->WKs g i->WKs (xs++g) (ys++i)
 | [],[],_,_,_,j=>j
 |_ :: _,_ :: _,_,_,⟨h,t⟩,j=>⟨h,qc8 t j⟩
 | [],_ :: _,_,_,h,_=>h.elim
 |_ :: _,[],_,_,h,_=>h.elim
theorem qc9:∀{xs ys},WkR xs ys->ys.length=xs.length/\(∀(k:Nat) x y,xs[k]?=some x->ys[k]?=some y->x.length=y.length)/\WKs xs.flatten ys.flatten
 | [],[],_=>⟨rfl,fun k x y h=>by simp at h,trivial⟩
 |x :: xs,y :: ys,⟨h,t⟩=>by
  obtain⟨j,l,o⟩:=qc9 t;refine⟨zP1 j,fun k a b g i=>?_,by rw[Qe,Qe];exact qc8 h o⟩;cases k with
  |zero=>simp at g i;subst g;subst i;exact h.get.1.symm
  |succ k=>exact l k a b (zUs g) (zUs i)
 | [],_ :: _,h=>h.elim
 |_ :: _,[],h=>h.elim
theorem Zd{full xs ys}(h:WkR xs ys):WK (.lst full xs) (.lst false ys):=by
 obtain⟨o,I,J⟩:=qc9 h;have P:=gy o I;have R:=J.get.2;intro G T v r;cases r with
 |nil=>cases ys with
  |nil=>exact .nil _
  |cons=>simp at o
 |emp _ a cap U=>cases ys with
  |nil=>exact .emp _ a cap zSp
  |cons=>simp at o
 |lst _ _ g a cap cs e fr rd hb hs hl U hi p hr hv =>
  rw[<-o];have i:∀(k:Nat) y,ys.flatten[k]?=some y->∃ x,xs.flatten[k]?=some x:=by
   intro k y l;have t:k<ys.flatten.length:=(qk.1 l).1;exact⟨xs.flatten[k]' zOm,by simp only[qA (show k<xs.flatten.length by omega)]⟩
  refine .lst false ys g a cap cs e fr rd hb hs zOm zSp hi ?_ ?_ ?_
  .intro r C
   obtain⟨k,t⟩:=List.mem_iff_getElem?.1 C;have a0:k<ys.length:=(qk.1 t).1;have j:xs[k]?=some (xs[k]' zOm):=by simp[show k<xs.length by omega]
   rw[<-I k _ r j t];exact p _ (zb j)
  .intro k y l
   obtain⟨x,j⟩:=i k y l;exact hr k x j
  .intro k y l
   obtain⟨x,j⟩:=i k y l;exact R k x y j l G T _ (hv k x j)
theorem Wq(op nm n){ks l}(p)(h:WK ks (lNd l)):WKs [aI op,aS nm,aI n,ks,aI p] (cNd (.mk op nm n l p)):=by
 rw[yp];exact⟨.hf (HF.sc _),.hf (HF.sc _),.hf (HF.sc _),h,.hf (HF.sc _),trivial⟩
theorem ky(op nm n){ks l}(p)(h:WK ks (lNd l)):WK (.agg [aI op,aS nm,aI n,ks,aI p]) (eNd (.mk op nm n l p)):=WK.aggs (Wq op nm n p h)
end QB
namespace PB
open P1 P2 Y1 Y2 Y6 Y9 Y12 YW QB
section
variable {b':Kd}
def Sub(a b:Kd):Prop:=a.ar=b.ar/\∀ t,t∈a.ts->t∈b.ts
theorem qp5{n m a g b b'}(i:∀ t,t∈a->t∈g)(j:∀ t,t∈b->t∈b'):∀ t,t∈uX n m a b->t∈uX n m g b':=fun t l=>by
 grind [Zs]
theorem qp6{n m a g b b'}(i:∀ t,t∈a->t∈g)(j:∀ t,t∈b->t∈b'):∀ t,t∈Qs n m a b->t∈Qs n m g b':=fun t l=>by
 grind [J2]
theorem Wr{a j b}(g:Sub a j)(i:Sub b b'):Sub (zV a b) (zV j b'):=by
 refine⟨by simp only[zV];rw[g.1,i.1],fun t l=>?_⟩;simp only[zV]at l⊢;rw[<-g.1,<-i.1];exact qp5 g.2 i.2 t l
theorem qp7{a j b}(g:Sub a j)(i:Sub b b'):Sub (uY a b) (uY j b'):=by
 refine⟨by simp only[uY];rw[g.1,i.1],fun t l=>?_⟩;simp only[uY]at l⊢;rw[<-g.1,<-i.1];exact qp6 g.2 i.2 t l
theorem ZG{a b}{t:Tp}:t∈(kSum a b).ts↔t∈a.ts\/t∈b.ts:=by
 show t∈uni (uni [] a.ts) b.ts↔_;rw[ug,ug];simp
theorem qdA{a g b}(i:Sub a g)(j:∀ t,t∈b.ts->t∈b'.ts):Sub (kSum a b) (kSum g b'):=
 ⟨i.1,fun t l=>ZG.2 ((ZG.1 l).imp (i.2 t) (j t))⟩
theorem Sub.refl(a):Sub a a:=⟨rfl,fun _ h=>h⟩
theorem Sub.trans{a b c}(h:Sub a b)(k:Sub b c):Sub a c:=⟨h.1.trans k.1,fun t g=>k.2 t (h.2 t g)⟩
theorem kA(a b):Sub a (kSum a b):=⟨rfl,fun t g=>ZG.2 (.inl g)⟩
theorem qp8{a g}(i:Sub a g):Sub (kTr a) (kTr g):=⟨rfl,fun t j=>by
 obtain⟨x,l,e⟩:=UY.1 j;exact UY.2 ⟨x,i.2 x l,e⟩⟩
def Ws(k:Kd):Prop:=∀ t,t∈(zV k k).ts->t∈k.ts
theorem kB:∀ f n a,Sub a (cloN f n a)
 | 0,n,a => .refl a
 |f+1,n,a=>by
  unfold cloN;split
  .exact (kA a _).trans (kB f _ _)
  .exact .refl a
theorem kC{S}(i:Ws S):∀ f n a,Sub a S->Sub (cloN f n a) S
 | 0,n,a,h=>h
 |f+1,n,a,h=>by
  unfold cloN;split
  .refine kC i f _ _ ⟨h.1,fun t g=>?_⟩
   rcases ZG.1 g with g|g
   .exact h.2 t g
   .exact i t ((Wr h h).2 t g)
  .exact h
theorem kE{ns}(o:ns<=4):∀ f n a,okKd ns a->a.ar=2->70<=f+n->(n=0\/∃ p,okKd ns p/\p.ar=2/\n=p.ts.length/\a=kSum p (zV p p))->Ws (cloN f n a)
 | 0,n,a,g,r,hf,C=>by
  rcases C with rfl|⟨p,J,_,rfl,_⟩
  .omega
  grind [aV]
 |f+1,n,a,g,r,hf,C=>by
  unfold cloN;split
  .rename_i T
   have U:okKd ns (zV a a):=Vh g g zOm zOm;refine kE o f _ _ (Vf g U (by grind [zV])) r zOm (.inr ⟨a,g,r,rfl,rfl⟩)
  .rename_i a0
   rcases C with rfl|⟨p,J,a1,rfl,rfl⟩
   .have:a.ts=[]:=Qd zOm
    intro t i;obtain⟨x,y,⟨I,_⟩,_⟩:=Zs.1 i
    grind
   .have j:∀ t,t∈(kSum p (zV p p)).ts->t∈p.ts:=by
     have a2:(kSum p (zV p p)).ts.Nodup:=g.nd;have a3:∀ t,t∈p.ts->t∈(kSum p (zV p p)).ts:=(kA p _).2;intro t i;by_cases P:t∈p.ts
     .exact P
     .exfalso
      have l:(t :: p.ts).Nodup:=List.nodup_cons.2 ⟨P,J.nd⟩;have:=vb l (l₂:=(kSum p (zV p p)).ts) (fun x I=>by
       rcases qy.1 I with rfl|I
       .exact i
       grind)
      grind
    intro t i;have R:Sub (kSum p (zV p p)) p:=⟨rfl,j⟩;exact ZG.2 (.inr ((Wr R R).2 t i))
theorem qp9{ns}(g:ns<=4){a u}(h:Sub a u)(i:okKd ns u)(j:u.ar=2):Sub (kClo a) (kClo u):=
 kC (kE g 70 0 u i j zOm (.inl rfl)) 70 0 a (h.trans (kB 70 0 u))
theorem qdB(c):∀ m n s k,szN n<=m->exam c s true n = .ok k->exam c s false n = .ok k
 | 0,n,_,_,I,_=>by obtain⟨op,nm,i,ks,p⟩:=n;simp[szN]at I
 |m+1,n,s,k,I,h=>by
  have P:∀ x,x∈n.sD->∀(s:Scp)(g:Bool)(k:Option Kd),exam c s true x = .ok k->exam c s g x = .ok k:=fun x t s g k h=>by
   cases g with
   |true=>exact h
   |false=>exact qdB c m x s k (zW1 (yu t)) h
  have U:∀(l:List Nd),(∀ x,x∈l->x∈n.sD)->∀(s:Scp)(g:Bool)(r:List (Option Kd)),za c s true l = .ok r->za c s g l = .ok r:=by
   intro l;induction l with
   |nil=>intro _ s g r h;exact h
   |cons x l R =>
    grind [za,exam,zg,q8]
  rw[yU]at h⊢;simp only[Bool.true_and,Bool.false_and,Bool.true_or,Bool.false_or,Bool.false_eq_true,if_false]at h⊢;split at h
  .cases h
  by_cases T:n.op=1
  .grind
  rw[if_neg T]at h⊢;by_cases h47:n.op=47
  .grind
  rw[if_neg h47]at h⊢;by_cases J:n.op=15\/n.op=45\/n.op=46
  .rw [if_pos J]at h⊢
   cases j:n.sD with
   |nil=>rw[j]at h;exact h
   |cons x l =>
    have o:∀ y,y∈x :: l->y∈n.sD:=fun y hy=>by grind
    rw[j]at h;simp only[yr]at h⊢;cases t:exam c s true x with
    |error e=>grind
    |ok a =>
     rw[t]at h;rw[P x (o x (zg ..)) s _ a t];cases a with
     |none=>cases h
     |some a =>
      simp only at h⊢;split at h
      .rename_i C
       rw[if_pos C]
       grind
      .cases h
  rw[if_neg J]at h⊢
  grind
section
variable {ts:TS} (ok:okTS ts) (a b d:Nd)
include ok
end
end
end PB
namespace PC
open YS P1 P2 Y1 Y2 Y9 Y10 Y12 YZ YA PA YC YG Q1 Q3 Q4 PB
section
variable {nm:tP}{es:List (tP×Bool)}
theorem qqA{a i b b'}(j:Sub i a)(l:Sub b' b):Sub (YN i b') (YN a b):=⟨j.1,fun t g=>by
 simp only[YN,jH,decide_eq_true_eq]at g⊢;exact⟨j.2 t g.1,l.2 t g.2⟩⟩
theorem qqB{op a g b b'}(i:Sub g a)(j:Sub b' b):Sub (uz op g b') (uz op a b):=by
 unfold uz;split
 .exact qdA i j.2
 grind [qqA]
theorem qqC{ns}(i:ns<=4){op a g}(h:Sub g a)(ok:okKd ns a)(j:a.ar=2):Sub (binK ns op g) (binK ns op a):=by
 grind [binK,qp9,qdA,qp8]
theorem apK1(ns op n pos a):yq ns op n pos [some a]=if op=2 then .ok (some ⟨n,[]⟩) else if op=3 then .ok (some (zH ns 1)) else if op=4 then .ok (some (zH ns 2)) else
  if op=5 then .ok (some a) else if op=11\/op=12\/op=13 then (if a.ar=2 then .ok (some (binK ns op a)) else .error (42,pos)) else .ok none:=rfl
theorem apK2(ns op n pos a b) : yq ns op n pos [some a, some b] = if op = 2 then .ok (some ⟨n, []⟩) else if op = 3 then .ok (some (zH ns 1)) else if op = 4 then .ok (some (zH ns 2)) else
      if op=6\/op=14\/op=7\/op=8\/op=32\/op=33 then (if a.ar=b.ar then .ok (some (uz op a b)) else .error (42,pos))
      else if op=9 then (if 1<=a.ar+b.ar-2/\a.ar+b.ar-2<=3 then .ok (some (zV a b)) else .error (42,pos))
      else if op=10 then (if a.ar+b.ar<=3 then .ok (some (uY a b)) else .error (42,pos))
      else .ok none:=rfl
theorem qqD{ns}(J:ns<=4){op num pos l l' R}(e1:op≠1)(a0:op≠15)
  (h1:op=5\/op=11\/op=12\/op=13->∃ a j,l=[some a]/\l'=[some j]/\Sub j a/\okKd ns a)
  (h2:op=6\/op=14\/op=7\/op=8\/op=32\/op=33\/op=9\/op=10->∃ a b j b',l=[some a,some b]/\l'=[some j,some b']/\Sub j a/\Sub b' b)
  (h:yq ns op num pos l = .ok R):∃ p,yq ns op num pos l' = .ok p/\(kd op=101->∃ k k',R=some k/\p=some k'/\Sub k' k):=by
 by_cases o:op=2
 .unfold yq at h⊢
  rw[if_pos o]at h⊢;cases h;exact⟨_,rfl,fun _=>⟨_,_,rfl,rfl,Sub.refl _⟩⟩
 by_cases r:op=3
 .unfold yq at h⊢
  rw[if_neg o,if_pos r]at h⊢;cases h;exact⟨_,rfl,fun _=>⟨_,_,rfl,rfl,Sub.refl _⟩⟩
 by_cases t:op=4
 .unfold yq at h⊢
  rw[if_neg o,if_neg r,if_pos t]at h⊢;cases h;exact⟨_,rfl,fun _=>⟨_,_,rfl,rfl,Sub.refl _⟩⟩
 by_cases g1:op=5\/op=11\/op=12\/op=13
 .obtain ⟨a,j,rfl,rfl,T,ok⟩:=h1 g1
  rw[apK1,if_neg o,if_neg r,if_neg t]at h⊢;by_cases U:op=5
  .rw [if_pos U]at h⊢
   cases h
   grind
  have g:op=11\/op=12\/op=13:=zOm;rw[if_neg U,if_pos g]at h⊢;by_cases i:a.ar=2
  .rw [if_pos i]at h
   rw[if_pos (T.1.trans i)];cases h;exact⟨_,rfl,fun _=>⟨_,_,rfl,rfl,qqC J T ok i⟩⟩
  grind
 by_cases g2:op=6\/op=14\/op=7\/op=8\/op=32\/op=33\/op=9\/op=10
 .obtain ⟨a,b,j,b',rfl,rfl,C,I⟩:=h2 g2
  have q1:=C.1;have q2:=I.1;rw[apK2,if_neg o,if_neg r,if_neg t]at h⊢;by_cases g3:op=6\/op=14\/op=7\/op=8\/op=32\/op=33
  .rw [if_pos g3]at h⊢
   by_cases i:a.ar=b.ar
   .rw [if_pos i]at h
    rw[if_pos zOm];cases h;exact⟨_,rfl,fun _=>⟨_,_,rfl,rfl,qqB C I⟩⟩
   grind
  rw[if_neg g3]at h⊢;by_cases e9:op=9
  .rw [if_pos e9]at h⊢
   by_cases i:1<=a.ar+b.ar-2/\a.ar+b.ar-2<=3
   .rw [if_pos i]at h
    rw[if_pos zOm];cases h;exact⟨_,rfl,fun _=>⟨_,_,rfl,rfl,Wr C I⟩⟩
   grind
  have P:op=10:=zOm;rw[if_neg e9,if_pos P]at h⊢;by_cases i:a.ar+b.ar<=3
  .rw [if_pos i]at h
   rw[if_pos zOm];cases h;exact⟨_,rfl,fun _=>⟨_,_,rfl,rfl,qp7 C I⟩⟩
  grind
 refine⟨none,UZ o r t zOm zOm zOm zOm zOm zOm zOm zOm zOm zOm zOm zOm,fun hk=>?_⟩;have:=U1 hk;omega
theorem qqE{c n k}(h:yH c n=false)(g:k∈n.sD):yH c k=false:=by
 grind [UK,Bool.or_eq_false_iff,List.any_eq_false]
theorem kF{c b b'}:∀{ks s},(∀ k,k∈ks->∀ s,exam c s b k=exam c s b' k)->za c s b ks=za c s b' ks
 | [],s,_=>by simp only[za]
 |k :: ks,s,h=>by
  simp only[za];rw[h k (zg ..) s,kF fun k g s=>h k (q8 _ g) s]
theorem qqF{c b b' pos}:∀{ks s},(∀ k,k∈ks->∀ s,exam c s b k=exam c s b' k)->yr c s b nm pos ks=yr c s b' nm pos ks
 | [],s,_=>by simp only[yr]
 |k :: ks,s,h=>by
  grind [yr,zg,exam,kF,q8]
theorem kG(c):∀ m n s b b',szN n<=m->yH c n=false->exam c s b n=exam c s b' n
 | 0,n,_,_,_,g,_=>by obtain⟨op,nm,i,ks,p⟩:=n;simp[szN]at g
 |m+1,n,s,b,b',g,h=>by
  have j:∀ b b' k,k∈n.sD->∀ s,exam c s b k=exam c s b' k:=fun b b' k l s=>kG c m k s b b' (zW1 (yu l)) (qqE h l)
  have o:zY c n.op n.name=false:=by rw[UK,Bool.or_eq_false_iff]at h;exact h.1
  rw[yU,yU,o,Bool.and_false,Bool.and_false];rw[qqF (b:=b||decide (n.op=15)) (b':=b'||decide (n.op=15)) (j _ _),kF (b:=b||decide (n.op=12)||decide (n.op=13)) (b':=b'||decide (n.op=12)||decide (n.op=13)) (j _ _)]
theorem Vz(ts i):∀ m,i<m->m<=ts.sT.length->∀ j,(tmsL ts m).getD i false=yH (mkCk ts i) ts.sT[i].body
 | 0,h,_,_=>absurd h zOm
 |m+1,h,r,j=>by
  have l:=Ya ts m zOm;have g:m<ts.sT.length:=zOm;have e:tmsL ts (m+1)=tmsL ts m++[yH (mkCk ts m) ts.sT[m].body]:=by
   show tmsL ts m++(match ts.sT[m]? with|some p=>[yH ⟨ts,m,tmsL ts m⟩ p.body] | none=>[])=_;rw[qA g];rfl
  rw[e];by_cases o:i<m
  .rw [<-Vz ts i m o zOm j]
   simp only[zS];rw[zGa]
  .have:i=m:=by omega
   subst this;simp only[zS];rw[zM zOm,l];simp
abbrev tkn(es:List (tP×Bool))(nm:tP):Prop:=getK nm es=some true
def Tk(es:List (tP×Bool))(n:Nd):Prop:=∀ x,x∈preN n->tkn es x.name
def OwnT(n:Nd):Prop:=∀ x,x∈preN n->ownB x=true
def vLe(es:List (tP×Bool))(L:Int)(nm:tP):Prop:=∃ j:Nat,(j:Int)<=L/\nm=vN j/\¬tkn es nm/\jm nm=true
structure qqG (es:List (tP×Bool)) (L:Int) (x:Nd):Prop where
 nc:x.op≠47
 own:ownB x=true
 nm:tkn es x.name\/vLe es L x.name
structure vY (es:List (tP×Bool)) (L:Int) (n:Nd):Prop where
 wf:WfN n
 all:∀ x,x∈preN n->qqG es L x
theorem vLe.mono{L L'}(h:vLe es L nm)(g:L<=L'):vLe es L' nm:=by
 obtain⟨j,a,b⟩:=h;exact⟨j,zOm,b⟩
theorem vY.mono{L L' n}(h:vY es L n)(i:L<=L'):vY es L' n:=
 ⟨h.wf,fun x g=>⟨(h.all x g).nc,(h.all x g).own,(h.all x g).nm.imp id fun v=>v.mono i⟩⟩
theorem Tk.kid{n k}(h:Tk es n)(g:k∈n.sD):Tk es k:=fun x i=>h x (We g i)
theorem OwnT.kid{n k}(h:OwnT n)(g:k∈n.sD):OwnT k:=fun x i=>h x (We g i)
theorem Wt{ks x}(h:x∈zD ks):∃ k,k∈ks/\x∈preN k:=by
 induction ks with
 |nil=>simp[zD]at h
 |cons a l g =>
  simp only[zD,qM]at h;rcases h with h|h
  .exact ⟨a,zg ..,h⟩
  .obtain ⟨k,i,j⟩:=g h
   exact⟨k,q8 _ i,j⟩
theorem qqH{n}(h:wR nm n):∃ x,x∈preN n/\x.name=nm:=by
 unfold wR at h;rw[Vw _ (szN n) n (qr _),List.any_eq_true]at h
 grind
theorem Wu{ts es}:∀{f k},(∃ j:Nat,1<=j/\j<=f/\yI ts es (vN (k+j))=true)->yI ts es (vN (zC ts es f k))=true
 | 0,k,⟨j,i,l,_⟩=>zOm
 |f+1,k,⟨j,i,l,g⟩=>by
  simp only[zC];split
  .rename_i h;exact h
  .rename_i o
   have p:j≠1:=fun e=>by subst e;exact o g
   exact Wu (ts:=ts) (es:=es) (f:=f) (k:=k+1) ⟨j-1,zOm,zOm,by rw[show k+1+((j-1:Nat):Int)=k+j by omega];exact g⟩
theorem qdD:∀ m u,u<10 ^ (m+1)->(Lib.decDigits u).length<=m+1
 | 0,u,h=>by
  grind [Lib.decDigits]
 |m+1,u,h=>by
  rw[Lib.decDigits];split
  .simp
  .rw [zd]
   have:=qdD m (u / 10) (by rw[Nat.pow_succ]at h;omega);simp only[zG,List.length_nil];omega
theorem qdE:∀ m u,u<=m->∀ x,x∈Lib.decDigits u->48<=x.toNat/\x.toNat<=57
 |m,u,i,x,g=>by
  rw[Lib.decDigits]at g;split at g
  .rename_i h
   rw[qV]at g;subst g;rw[UInt8.toNat_ofNat_of_lt' (by simp[UInt8.size];omega)];omega
  .rename_i h
   rcases qM.1 g with g|g
   .match m with
    | 0=>omega
    |m+1=>exact qdE m (u / 10) zOm x g
   .rw [qV]at g
    subst g;rw[UInt8.toNat_ofNat_of_lt' (by simp[UInt8.size];omega)];omega
theorem qqI(u):Lib.decDigits u≠[]:=by
 rw[Lib.decDigits];split<;>simp
theorem qqJ(j:Nat):(vN (j:Int)).data.toList=118 :: Lib.decDigits j:=by
 simp_all[vN,jE,Lib.itoa,if_neg]
theorem qqK:∀ x,x∈kwL->∀ c,x.data.toList[1]?=some c->¬(48<=c.toNat/\c.toNat<=57):=by decide +kernel
theorem qqL{j:Nat}(h:j<1000000000000):jm (vN (j:Int))=true:=by
 have l:=qqJ j;have J:=qdD 11 j zOm;have p:=qdE j j (qr _);have t:=qqI j;obtain⟨d,r,e⟩:=List.exists_cons_of_ne_nil t;have C:(vN (j:Int)).size=1+(Lib.decDigits j).length:=by
  have e:(vN (j:Int)).size=(vN (j:Int)).data.toList.length:=by rw[Array.length_toList];rfl
  rw[e,l,zG,Nat.add_comm]
 have o:kwB (vN (j:Int))=false:=by
  unfold kwB;rw[List.any_eq_false];intro x I g;have g:x=vN (j:Int):=zUs g;refine qqK x I d ?_ (p d (by rw[e];exact zg ..));rw[g,l,e];rfl
 unfold jm;simp only[qH,decide_eq_true_eq,o,Bool.not_false,and_true];refine⟨⟨zOm,zOm⟩,?_⟩;rw[zF];intro i _;rw[<-Array.getElem?_toList,l];cases i with
 |zero=>show chB 0 ((118:UInt8).toNat:Int)=true;decide
 |succ i =>
  rw[v6];cases g:(Lib.decDigits j)[i]? with
  |none=>rfl
  |some c =>
   have:=p c (zb g);simp[chB];right;right;omega
end
end PC
namespace PD
open P1 P2 Y1 Y2 Y9 YX YZ YA YB PA YC YG Q3 Q4 PB PC
section
variable {body:Bool}{nm:tP}{c0:Ck}{env:IEnv}{L:Int}{es:List (tP×Bool)}{l l':List (Option Kd)}{s s':Scp}
structure ArgR (c0:Ck) (es:List (tP×Bool)) (L:Int) (s':Scp) (k:Kd) (a:Nd):Prop where
 ex:∃ k',exam c0 s' true a = .ok (some k')/\Sub k' k
 good:vY es L a
 kd:kd a.op=101
def RlV(c0:Ck)(es:List (tP×Bool))(L:Int)(s':Scp)(v:tP):Option Kd->Option IV->Prop
 |none,none=>True
 |none,some _=>False
 |some k,none=>∃ g,lookS v s'=some g/\Sub g k
 |some k,some ⟨some a,_,_⟩=>ArgR c0 es L s' k a
 |some k,some ⟨none,_,i⟩=>(∃ g,lookS i s'=some g/\Sub g k)/\vLe es L i
structure Rl (c0:Ck) (es:List (tP×Bool)) (L:Int) (body:Bool) (s s':Scp) (env:IEnv):Prop where
 mean:∀ v,v∈s'->means c0.ts v.1=[]
 rel:∀ v,tkn es v->RlV c0 es L s' v (lookS v s) (getK v env)
 arg:body=false->∀ v iv,getK v env=some iv->iv.arg=none
theorem RlV.mono{L' v g i}(h:RlV c0 es L s' v g i)(j:L<=L'):RlV c0 es L' s' v g i:=by
 match g,i with
 |none,none=>exact h
 |none,some _=>exact h
 |some k,none=>exact h
 |some k,some ⟨some a,_,_⟩ =>
  have h:ArgR c0 es L s' k a:=h;exact(⟨h.ex,h.good.mono j,h.kd⟩:ArgR c0 es L' s' k a)
 |some k,some ⟨none,_,l⟩=>exact⟨h.1,h.2.mono j⟩
theorem Rl.mono{L'}(h:Rl c0 es L body s s' env)(g:L<=L'):Rl c0 es L' body s s' env:=
 ⟨h.mean,fun v i=>(h.rel v i).mono g,h.arg⟩
theorem VA:∀{s k},lookS nm s=some k->(nm,k)∈s
 | [],k,h=>by simp[qo4]at h
 |v :: s,k,h=>by
  rw[uH]at h;split at h
  .rename_i e
   cases h;rw[<-e];exact zg ..
  .exact q8 _ (VA h)
theorem Rl.bind{st:ISt}{k k'}(a4:Free c0.ts es)(a0:(env.map Prod.fst).Nodup)(h:Rl c0 es st.last body s s' env)(h0:0<=st.last)(hb:st.last+(qo c0.ts es:Nat)<1000000000000)(ht:tkn es nm)(hs:Sub k' k) :
  Rl c0 es (renI c0.ts es env nm body st).2.last body ((nm,k) :: s) (((renI c0.ts es env nm body st).1.2,k') :: s') (renI c0.ts es env nm body st).1.1/\st.last<=(renI c0.ts es env nm body st).2.last/\(tkn es (renI c0.ts es env nm body st).1.2\/vLe es (renI c0.ts es env nm body st).2.last (renI c0.ts es env nm body st).1.2):=by
 have a1:∀ v,lookS v ((nm,k) :: s)=if nm=v then some k else lookS v s:=fun v=>uH v _ _
 unfold renI;by_cases hc:body=true\/means c0.ts nm≠[]
 .rw [if_pos hc]
  have a2:=a4 st.last h0;have o:=Wu a2;have a9:=Wf c0.ts es (qo c0.ts es) st.last;have a7:=kh a2;generalize zC c0.ts es (qo c0.ts es) st.last=J at *
  obtain⟨j,rfl⟩:∃ j:Nat,J=j:=⟨J.toNat,zOm⟩;simp only[yI,qH,decide_eq_true_eq]at o;obtain⟨f1,f2⟩:=o;have hv:vLe es (j:Int) (vN j):=⟨j,v7 _,rfl,f1,qqL zOm⟩;have T:∀ v,v≠vN (j:Int)->lookS v ((vN (j:Int),k') :: s')=lookS v s':=fun v hv=>by
   rw[uH,if_neg (fun e=>hv e.symm)]
  have a5:∀{v:tP},vLe es st.last v->v≠vN (j:Int):=fun⟨i,hi,e,_⟩ r=>by
   grind [kv]
  have a3:∀ v,getK v (setK nm ⟨none,0,vN (j:Int)⟩ (delK nm env))=if v=nm then some ⟨none,0,vN (j:Int)⟩ else getK v env:=fun v=>by
   grind [j5,wF]
  refine⟨⟨fun v U=>?_,fun v C=>?_,fun p v I g=>?_⟩,by grind,.inr hv⟩
  .rcases qy.1 U with rfl|U
   .exact f2
   .exact h.mean v U
  .show RlV c0 es (j:Int) ((vN (j:Int),k') :: s') v (lookS v ((nm,k) :: s)) (getK v (setK nm ⟨none,0,vN (j:Int)⟩ (delK nm env)))
   rw[a1,a3];by_cases t:nm=v
   .rw [if_pos t,if_pos t.symm]
    exact⟨⟨k',by rw[uH,if_pos rfl],hs⟩,hv⟩
   .rw [if_neg t,if_neg (fun e=>t e.symm)]
    have l:=(h.rel v C).mono (L':=(j:Int)) zOm;have P:=h.rel v C;generalize lookS v s=lk at *
    generalize getK v env=I at *
    match lk,I with
    |none,none=>trivial
    |none,some _=>exact l
    |some q,none =>
     obtain⟨R,e1,r⟩:=l;exact⟨R,by grind,r⟩
    |some q,some ⟨some a,_,_⟩ =>
     have l:ArgR c0 es (j:Int) s' q a:=l;have P:ArgR c0 es st.last s' q a:=P;refine(⟨?_,l.good,l.kd⟩:ArgR c0 es (j:Int) ((vN (j:Int),k') :: s') q a);obtain⟨R,e1,r⟩:=l.ex;refine⟨R,?_,r⟩;rw[<-e1];refine qcP (wS.refl c0) (szN a) a _ _ true (qr _) fun x hx=>?_
     obtain⟨y,hy,rfl⟩:=qqH hx;rcases (P.good.all y hy).nm with h1|h1
     .grind
     grind
    |some q,some ⟨none,_,to⟩ =>
     obtain⟨⟨R,e1,r⟩,e3⟩:=l;exact⟨⟨R,by rw[T to (a5 P.2)];exact e1,r⟩,e3⟩
  .have g:getK v (setK nm ⟨none,0,vN (j:Int)⟩ (delK nm env))=some I:=g
   rw[a3]at g;split at g
   .cases g;rfl
   .exact h.arg p v I g
 .rw [if_neg hc]
  have p:body=false:=by
   grind
  have a6:means c0.ts nm=[]:=by
   grind
  have T:∀ v,v≠nm->lookS v ((nm,k') :: s')=lookS v s':=fun v hv=>by
   rw[uH,if_neg (fun e=>hv e.symm)]
  refine⟨⟨fun v U=>?_,fun v C=>?_,fun p v I g=>?_⟩,v7 _,.inl ht⟩
  .rcases qy.1 U with rfl|U
   .exact a6
   .exact h.mean v U
  .show RlV c0 es st.last ((nm,k') :: s') v (lookS v ((nm,k) :: s)) (getK v (delK nm env))
   rw[a1,wF a0];by_cases t:nm=v
   .rw [if_pos t,if_pos t.symm]
    exact⟨k',by rw[uH,if_pos t],hs⟩
   .rw [if_neg t,if_neg (fun e=>t e.symm)]
    have l:=h.rel v C;have a8:=h.arg p v;generalize lookS v s=lk at *
    generalize getK v env=I at *
    match lk,I with
    |none,none=>trivial
    |none,some _=>exact l
    |some q,none =>
     obtain⟨R,e1,r⟩:=l;exact⟨R,by grind,r⟩
    |some q,some ⟨some a,_,_⟩=>grind
    |some q,some ⟨none,_,to⟩ =>
     obtain⟨⟨R,e1,r⟩,e3⟩:=l;refine⟨⟨R,?_,r⟩,e3⟩;rw[T to fun e=>?_]
     .exact e1
     .obtain ⟨_,_,_,hn,_⟩:=e3
      grind
  .have g:getK v (delK nm env)=some I:=g
   rw[wF a0]at g;split at g
   .cases g
   .exact h.arg p v I g
structure Out (c0:Ck) (es:List (tP×Bool)) (s':Scp) (inn:Bool) (n n':Nd) (ko:Option Kd) (L L':Int):Prop where
 ex:∃ ko',exam c0 s' inn n' = .ok ko'/\(kd n.op=101->∃ k k',ko=some k/\ko'=some k'/\Sub k' k)
 good:vY es L' n'
 kd:kd n'.op=kd n.op
 le:L<=L'
def Pt(es:List (tP×Bool))(L:Int):List Nd->List Nd->List (Option Kd)->List (Option Kd)->Prop
 | [],[],[],[]=>True
 |k :: ks,i :: g,a :: l,o :: p=>((kd k.op=101->∃ q j,a=some q/\o=some j/\Sub j q)/\kd i.op=kd k.op/\vY es L i)/\Pt es L ks g l p
 |_,_,_,_=>False
theorem Pt.spec:∀{ks g l l'},Pt es L ks g l l'->(g.map fun k=>kd k.op)=(ks.map fun k=>kd k.op)/\∀ k,k∈g->vY es L k
 | [],[],[],[],_=>⟨rfl,fun k j=>absurd j qG⟩
 |k :: ks,k' :: g,a :: l,r :: l',h=>by
  obtain⟨⟨t,C,o⟩,p⟩:=h;obtain⟨I,J⟩:=Pt.spec p;refine⟨by grind,fun x i=>?_⟩;rcases qy.1 i with rfl|i
  .exact o
  grind
theorem Pt.cons{es L k ks j l l'}(h:Pt es L (k :: ks) j l l'):∃ k' g a l2 o i,j=k' :: g/\l=a :: l2/\l'=o :: i/\(kd k.op=101->∃ q p,a=some q/\o=some p/\Sub p q)/\Pt es L ks g l2 i:=by
 cases j with
 |nil=>cases l<;>cases l'<;>exact h.elim
 |cons k' g =>
  cases l with
  |nil=>cases l'<;>exact h.elim
  |cons a l2 =>
   cases l' with
   |nil=>exact h.elim
   |cons o i=>exact⟨k',g,a,l2,o,i,rfl,rfl,rfl,h.1.1,h.2⟩
theorem Pt.nil{g}(h:Pt es L [] g l l'):l=[]/\l'=[]:=by
 cases g with
 |nil =>
  cases l with
  |nil=>cases l' with
   |nil=>exact⟨rfl,rfl⟩
   |cons a l=>exact h.elim
  |cons a l=>cases l'<;>exact h.elim
 |cons k ks=>cases l<;>cases l'<;>exact h.elim
theorem Pt.one{ks i}(h:Pt es L ks i l l')(g:(ks.map fun k=>kd k.op)=[101]):∃ a j,l=[some a]/\l'=[some j]/\Sub j a:=by
 match ks,g with
 | [k],g =>
  obtain⟨t,o,a,C,j,p,rfl,rfl,rfl,I,r⟩:=h.cons;obtain⟨rfl,rfl⟩:=r.nil
  grind
 | [],g=>simp at g
 |_ :: _ :: _,g=>simp at g
theorem Pt.two{ks i}(h:Pt es L ks i l l')(g:(ks.map fun k=>kd k.op)=[101,101]):∃ a b o b',l=[some a,some b]/\l'=[some o,some b']/\Sub o a/\Sub b' b:=by
 match ks,g with
 | [k,j],g =>
  have g:kd k.op=101/\kd j.op=101:=zUs g;obtain⟨k',r,a,l2,o,t,rfl,rfl,rfl,C,I⟩:=h.cons;obtain⟨_,_,b,l3,b',J,rfl,rfl,rfl,P,R⟩:=I.cons;obtain⟨rfl,rfl⟩:=R.nil;obtain⟨q,T,rfl,rfl,e⟩:=C g.1;obtain⟨p,U,rfl,rfl,e2⟩:=P g.2;exact⟨q,p,T,U,rfl,rfl,e,e2⟩
 | [],g=>simp at g
 | [_],g=>simp at g
 |_ :: _ :: _ :: _,g=>simp at g
theorem qdF{c F inn E R} :
  ∀{ks i nm nm' st g j I l},
  (∀ k,k∈ks->∀ st n' z g C,StOk F st->Rl c0 es st.last body s s' env->E env k st = .ok ((n',z),g)->exam c s inn k = .ok C->Out c0 es s' inn k n' C st.last g.last/\StOk F g) ->
  StOk F st->Rl c0 es st.last body s s' env->yx E R false i env nm ks st = .ok ((nm',j,I),g)->za c s inn ks = .ok l ->
  nm'=nm/\st.last<=g.last/\∃ l',za c0 s' inn j = .ok l'/\Pt es g.last ks j l l'
 | [],i,nm,nm',st,g,j,I,l,_,o,J,e,el=>by
  cases e;simp only[za,Except.ok.injEq]at el;subst el;exact⟨rfl,v7 _,[],by simp only[za],trivial⟩
 |k :: ks,i,nm,nm',st,g,j,I,l,T,o,J,e,el=>by
  simp only[yx,Bool.false_eq_true,false_and,if_false]at e;simp only[za]at el;split at e
  .cases e
  .rename_i k' m1 s1 h1
   cases U:exam c s inn k with
   |error er=>grind
   |ok C =>
    rw[U]at el;simp only at el;obtain⟨p,r⟩:=T k (zg ..) st k' m1 s1 C o J h1 U;cases t:za c s inn ks with
    |error er=>grind
    |ok l1 =>
     rw[t]at el;cases el;split at e
     .cases e
     .rename_i a0 a1 m2 s2 h2
      obtain⟨e1,e2,l',e3,e4⟩:=qdF (fun k hk=>T k (q8 _ hk)) r (J.mono p.le) h2 t;cases e;obtain⟨P,x1,x2⟩:=p.ex;refine⟨e1,zW1 p.le,P :: l',?_,⟨⟨x2,p.kd,p.good.mono e2⟩,e4⟩⟩;simp only[za];rw[x1,e3]
theorem ZH{c op}(h:op≠47):zY c op nm=yD op:=by
 simp[zY,h]
theorem cX{n ks}(C:WfN n)(g:(ks.map fun k=>kd k.op)=(n.sD.map fun k=>kd k.op))(I:∀ k,k∈ks->vY es L k)(h47:n.op≠47)(o:ownB n=true)
  (J:nm=n.name/\tkn es nm\/vLe es L nm/\jm n.name=true):vY es L (.mk n.op nm n.n ks n.pos):=by
 have l:ks.length=n.sD.length:=by have:=congrArg List.length g;grind
 have p:jm nm=jm n.name/\(nm=⟨#[]⟩↔n.name=⟨#[]⟩):=by
  rcases J with ⟨rfl,_⟩|⟨P,r⟩
  .exact ⟨rfl,Iff.rfl⟩
  .obtain ⟨j,_,_,_,t⟩:=P
   refine⟨t.trans r.symm,fun e=>?_,fun e=>?_⟩
   .rw [e]at t;exact absurd t zDe
   .rw [e]at r;exact absurd r zDe
 refine⟨.mk _ ?_ (fun h=>?_) fun k g=>(I k g).wf,fun x i=>?_⟩
 .show shp n.op ks.length=some (ks.map fun k=>kd k.op)
  rw[l,g];exact C.shape
 .exact C.num h
 .rw [uG]at i
  rcases qy.1 i with rfl|i
  .refine ⟨h47,?_,?_⟩
   .unfold ownB at o⊢
    show (if wO n.op=jm nm/\(wO n.op=true\/nm=⟨#[]⟩) then numB n.op n.n else false)=true;split at o
    .rename_i R
     rw[if_pos ⟨by grind,R.2.imp id p.2.2⟩];exact o
    .cases o
   .rcases J with ⟨_,h⟩|⟨h,_⟩
    .exact .inl h
    .exact .inr h
  .obtain ⟨k,g,i⟩:=Wt i
   exact(I k g).all x i
end
end PD
namespace PE
open P1 P2 Y1 Y2 Y3 Y9 Y10 Y14 YX YZ YA YB PA YC Q3 Q4 PB PC PD
section
variable {inn:Bool}{c c0:Ck}{es:List (tP×Bool)}{s s':Scp}
theorem VB{n}(h:n.op=1):exam c s inn n=jD c s n.name n.pos:=by
 rw[yU,ZH zOm,h,show yD 1=false from rfl,Bool.and_false,if_neg zSp,if_pos rfl]
theorem qqM{n k}(h:exam c s true n = .ok k):exam c s inn n = .ok k:=by
 cases inn with
 |true=>exact h
 |false=>exact qdB c (szN n) n s k (qr _) h
theorem kH{n}(g:WfN n)(h:n.op=1):n.sD=[]:=by
 have i:=g.shape;simp_all[shp,if_pos,qv,List.map_eq_nil_iff]
theorem qdG{L n}(i:WfN n)(h:n.op=1)(j:tkn es n.name)(l:ownB n=true):vY es L n:=
 ⟨i,fun x g=>by
  rw[uG,kH i h]at g;simp[zD]at g;subst g;exact⟨zOm,l,.inl j⟩⟩
theorem qdH{n}(g:ownB n=true)(h:wO n.op=true):jm n.name=true:=by
 grind [ownB]
theorem qqN{body env n n' z st l J}(P:c.ts=c0.ts)(j:n.op=1)(C:WfN n)(R:tkn es n.name)(I:ownB n=true)(T:Rl c0 es st.last body s s' env)
  (e:vI env n st = .ok ((n',z),l)) (x:exam c s inn n = .ok J):Out c0 es s' inn n n' J st.last l.last:=by
 rw[VB j,ZC]at x;have i:=T.rel n.name R;unfold vI at e;cases U:getK n.name env with
 |none =>
  rw[U]at e i;cases e;cases o:lookS n.name s with
  |some k =>
   rw[o]at i x;obtain⟨p,r,t⟩:=i;cases x;exact⟨⟨some p,by rw[VB j,ZC,r],fun _=>⟨_,_,rfl,rfl,t⟩⟩,qdG C j R I,rfl,v7 _⟩
  |none =>
   rw[o]at x;simp only at x;have hq:lookS n.name s'=none:=by
    cases hq:lookS n.name s' with
    |none=>rfl
    |some q =>
     have:=T.mean _ (VA hq);rw[P,this]at x;cases x
   refine⟨⟨J,by grind [VB,ZC],fun _=>?_⟩,qdG C j R I,rfl,v7 _⟩;split at x
   .cases x
   .cases x;exact⟨_,_,rfl,rfl,Sub.refl _⟩
   .cases x
 |some iv =>
  obtain⟨a,g,to⟩:=iv;rw[U]at e i;simp only at e;cases o:lookS n.name s with
  |none=>rw[o]at i;exact i.elim
  |some k =>
   rw[o]at i x;cases x;cases a with
   |none =>
    cases e;obtain⟨⟨p,r,t⟩,e3⟩:=i;refine⟨⟨some p,by rw[VB (n := .mk n.op to n.n n.sD n.pos) j,ZC];show (match lookS to s' with|some k=>_|none=>_)=_;rw[r],fun _=>⟨_,_,rfl,rfl,t⟩⟩,?_,rfl,v7 _⟩;refine cX C rfl (fun k hk=>?_) zOm I (.inr ⟨e3,qdH I (by rw[j];rfl)⟩);rw[kH C j]at hk;exact absurd hk qG
   |some a =>
    simp only at e;have i:ArgR c0 es st.last s' k a:=i;obtain⟨p,r,t⟩:=i.ex;split at e
    .cases e
     exact⟨⟨some p,qqM r,fun _=>⟨_,_,rfl,rfl,t⟩⟩,i.good,by rw[i.kd,j];rfl,v7 _⟩
    .cases e
def OwnV(c0:Ck)(es:List (tP×Bool))(L:Int)(s':Scp):Option Kd->Option IV->Prop
 |none,none=>True
 |some k,some ⟨some a,_,_⟩=>ArgR c0 es L s' k a
 |_,_=>False
theorem OwnV.mono{L L' g i}(h:OwnV c0 es L s' g i)(j:L<=L'):OwnV c0 es L' s' g i:=by
 match g,i with
 |none,none=>exact h
 |none,some _=>exact h.elim
 |some k,none=>exact h.elim
 |some k,some ⟨some a,_,_⟩ =>
  have h:ArgR c0 es L s' k a:=h;exact(⟨h.ex,h.good.mono j,h.kd⟩:ArgR c0 es L' s' k a)
 |some k,some ⟨none,_,l⟩=>exact h.elim
theorem qqO{ns i a}(h:okKd ns a)(g:a.ar=1)(p:uA i a=true):Sub a (kOf [i]):=⟨by rw[g];rfl,fun t j=>by
 obtain⟨l,rfl,o,_⟩:=h.ts t j;rw[g]at o
 match l,o with
 | [y],_ =>
  have:=zF.1 p _ j;simp[pad]at this;subst this;exact qV.2 rfl⟩
theorem kI{ns F body env pos E P} :
  ∀{ks ps}{own i:IEnv}{sc st g},
  (∀ k,k∈ks->∀ st n' z g P,StOk F st->Rl c0 es st.last body s s' env->E k st = .ok ((n',z),g)->exam c s true k = .ok P->Out c0 es s' true k n' P st.last g.last/\StOk F g) ->
  (∀ k,k∈ks->kd k.op=101)->(∀ k,k∈ks->∀ a,exam c s true k = .ok (some a)->okKd ns a)->StOk F st->Rl c0 es st.last body s s' env ->
  (∀ v,OwnV c0 es st.last s' (lookS v sc) (getK v own))->ps.length=ks.length->yb c s pos ps ks = .ok P->y7 E ps ks own st = .ok (i,g) ->
  st.last<=g.last/\∀ v,OwnV c0 es g.last s' (lookS v (ps.foldl (fun s p=>(p.1,kOf [p.2]) :: s) sc)) (getK v i)
 | [],[],own,i,sc,st,g,_,_,_,_,_,U,_,_,e=>by
  cases e;exact⟨v7 _,U⟩
 |k :: ks,p :: ps,own,i,sc,st,g,hE,R,j,a0,hr,U,l,x,e=>by
  simp only[yb]at x;simp only[y7]at e;cases hx:exam c s true k with
  |error er=>grind
  |ok ka =>
   cases ka with
   |none=>grind
   |some a =>
    rw[hx]at x;simp only at x;by_cases o:a.ar=1
    .rw [if_pos o]at x
     by_cases r:uA p.2 a=true
     .rw [if_pos r]at x
      split at e
      .cases e
      .rename_i k' m s1 h1
       obtain⟨out,t⟩:=hE k (zg ..) st k' m s1 _ a0 hr h1 hx;obtain⟨a1,x1,x2⟩:=out.ex;have C:=R k (zg ..);obtain⟨q,q',y1,y2,y3⟩:=x2 C;cases y1;subst y2;have hs:=y3.trans (qqO (j k (zg ..) a hx) o r);have I:ArgR c0 es s1.last s' (kOf [p.2]) k':=⟨⟨q',x1,hs⟩,out.good,by rw[out.kd];exact C⟩;have J:∀ v,OwnV c0 es s1.last s' (lookS v ((p.1,kOf [p.2]) :: sc)) (getK v (setK p.1 ⟨some k',m,⟨#[]⟩⟩ own)):=fun v=>by
        rw[uH,j5];by_cases T:p.1=v
        .rw [if_pos T,if_pos T.symm]
         exact I
        .rw [if_neg T,if_neg (fun e=>T e.symm)]
         exact(U v).mono out.le
       obtain⟨r1,r2⟩:=kI (sc:=(p.1,kOf [p.2]) :: sc) (fun k R=>hE k (q8 _ R)) (fun k h=>R k (q8 _ h)) (fun k h=>j k (q8 _ h)) t (hr.mono out.le) J (zUs l) x e;exact⟨zW1 out.le,r2⟩
     grind
    grind
 | [],_ :: _,_,_,_,_,_,_,_,_,_,_,_,l,_,_=>by simp at l
 |_ :: _,[],_,_,_,_,_,_,_,_,_,_,_,l,_,_=>by simp at l
def ZI(ts:TS)(es:List (tP×Bool)):Prop:=∀(i:Nat)(j:i<ts.sT.length),(∃ g,exam (mkCk ts i) (zW ts.sT[i].params) false ts.sT[i].body = .ok g)/\30<=ts.sT[i].body.op/\WfN ts.sT[i].body/\Tk es ts.sT[i].body/\OwnT ts.sT[i].body
abbrev ckF(ts:TS):Ck:=mkCk ts ts.sT.length
def IHx(ts:TS)(es:List (tP×Bool))(f:Nat):Prop:=∀(env:IEnv)(n:Nd)(g:Bool)(T:ISt)(l:Nd)(z:Int)(i:ISt)(s o:Scp)(j:Bool)(m:Nat)(p:Option Kd),
 m<=ts.sT.length->WfN n->Tk es n->OwnT n->ScOk ts.sS.length s->StOk (qo ts es) T->zt env->Rl (ckF ts) es T.last g s o env ->
 expI ts es f env n g T = .ok ((l,z),i)->exam (mkCk ts m) s j n = .ok p->Out (ckF ts) es o j n l p T.last i.last
theorem qdI{n}(i:WfN n)(h:30<=n.op):kd n.op=102:=by
 have g:=i.shape;have:n.op<=51:=by
  by_cases j:n.op<=51
  .exact j
  .exfalso
   unfold shp at g;rw[zIn,zIn,zIn,zIn,zIn,zIn,zIn,zIn]at g;cases g
 unfold kd;omega
theorem Wv{n}(i:WfN n)(h:n.op=47):∀ k,k∈n.sD->kd k.op=101:=by
 have g:=i.shape;have e:shp n.op n.sD.length=some (q9 (min n.sD.length 401) 101):=by
  unfold shp;rw[zIn,zIn,zIn,zIn,zIn,zIn,zIn,if_pos h]
 rw[e]at g;simp only[qv]at g;intro k j;have:kd k.op∈n.sD.map fun k=>kd k.op:=qn.2 ⟨k,j,rfl⟩
 grind
theorem qqP(ts)(h:okTS ts)(es)(hP:ZI ts es)(a3:Free ts es)(f)(ih:IHx ts es f)(env n body st n' z g s s' inn m ko)
  (hm:m<=ts.sT.length) (hw:WfN n) (ht:Tk es n) (ho:OwnT n) (hs:ScOk ts.sS.length s) (o:StOk (qo ts es) st) (R:zt env) (hr:Rl (ckF ts) es st.last body s s' env) (h47:n.op=47)
  (e:((match ts.sT.find? fun p=>decide (p.name=n.name) with
    |none=>Except.error (2,0)
    |some p=>vX (y7 (fun k s=>expI ts es f env k body s) p.params n.sD [] st) fun own s'=>expI ts es f own p.body true s'):XR (Nd×Int)) = .ok ((n',z),g))
  (x:exam (mkCk ts m) s inn n = .ok ko):Out (ckF ts) es s' inn n n' ko st.last g.last:=by
 have hc:okCk (mkCk ts m):=uj h hm;rw[yU,if_neg (show ¬n.op=1 by omega),if_pos h47]at x;split at x
 .cases x
 rename_i I;split at x
 .cases l:zx (mkCk ts m) n.name with
  |none=>grind
  |some i =>
   obtain⟨T,t⟩:=Qu hc l;have T:i<m:=T;have t:i<ts.sT.length:=t;rw[l]at x;simp only at x;have x:((match ts.sT[i]? with|none=>Except.error (45,n.pos)|some C=>if C.params.length=n.sD.length then yb (mkCk ts m) s n.pos C.params n.sD else .error (45,n.pos)):Res) = .ok ko:=x;rw[qA t]at x;simp only at x;have U:(ts.sT.find? fun p=>decide (p.name=n.name))=some ts.sT[i]:=by
    unfold zx at l;rw[List.findIdx?_eq_some_iff_getElem]at l;obtain⟨hi,a1,a2⟩:=l;rw[List.find?_eq_some_iff_getElem];refine⟨?_,i,t,rfl,fun j hj=>?_⟩
    .have:=a1
     simp only[List.getElem_take]at this;exact this
    .have:=a2 j hj
     simp only[List.getElem_take]at this;have h3:¬decide (ts.sT[j].name=n.name)=true:=this
     grind
   rw[U]at e;simp only at e;obtain⟨⟨kb,hb⟩,a4,a5,ad,ae⟩:=hP i t;have af:=h.pl _ (qs t);generalize ag:ts.sT[i]=C at *
   by_cases P:C.params.length=n.sD.length
   .rw [if_pos P]at x
    obtain⟨own,s1,h1,e⟩:=ZD e;have a6:=Wv hw h47;have a7:∀ k,k∈n.sD->∀ st n' z g,StOk (qo ts es) st->expI ts es f env k body st = .ok ((n',z),g)->StOk (qo ts es) g:=fun k J st n' z g o e=>(jq ts a3 f o R e).ok o
    obtain⟨g1,g2⟩:=kI (c:=mkCk ts m) (c0:=ckF ts) (ns:=ts.sS.length) (F:=qo ts es) (body:=body) (s:=s) (s':=s') (env:=env) (sc:=[]) (own:=[])
     (fun k J st n' z g ko o hr e x=>⟨ih env k body st n' z g s s' true m ko hm (hw.kid J) (ht.kid J) (ho.kid J) hs o R hr e x,a7 k J st n' z g o e⟩)
     a6 (fun k J a hx=>by
      obtain⟨q,e1,e2⟩:=vU hc (szN k) k s true _ (qr _) (hw.kid J) hs hx (a6 k J);cases e1;exact e2)
     o hr (fun v=>trivial) P x h1
    obtain⟨a8,ah⟩:=Wg (F:=qo ts es) (fun k n' z s s' _ hs hE=>jq ts a3 f hs R hE) o .nil h1;have a9:=ah.ok o;have ai:Rl (ckF ts) es s1.last true (zW C.params) s' own:=⟨hr.mean,fun v hv=>by
     have:=g2 v;have:OwnV (ckF ts) es s1.last s' (lookS v (zW C.params)) (getK v own):=this;generalize lookS v (zW C.params)=lk at *
     generalize getK v own=iv at *
     match lk,iv with
     |none,none=>trivial
     |some k,some ⟨some a,_,_⟩=>exact this
     |none,some _=>exact this.elim
     |some k,none=>exact this.elim
     |some k,some ⟨none,_,_⟩=>exact this.elim,fun aj=>by cases aj⟩
    have aa:ScOk ts.sS.length (zW C.params):=U2 ⟨zOm,af.2⟩;have ak:exam (mkCk ts i) (zW C.params) inn C.body = .ok kb:=by
     cases ab:inn with
     |false=>exact hb
     |true =>
      rw[<-hb];refine kG _ (szN C.body) C.body _ _ _ (qr _) ?_;rw[ab]at I;have a0:zY (mkCk ts m) n.op n.name=false:=by simpa using I
      unfold zY at a0;rw[l,h47]at a0;have:=Vz ts i m T hm t;rw[ag]at this;rw[<-this];have an:(yD 47||(decide ((47:Int)=47)&&(tmsL ts m).getD i false))=false:=a0
      grind
    have out:=ih own C.body true s1 n' z g (zW C.params) s' inn i kb zOm a5 ad ae aa a9 a8 ai e ak;obtain⟨al,x1,_⟩:=out.ex;refine⟨⟨al,x1,fun J=>?_⟩,out.good,?_,zW1 out.le⟩
    .rw [h47]at J;exact absurd J zDe
    .rw [out.kd,qdI a5 a4,h47];rfl
   grind
 .cases x
theorem qdJ{n}(i:WfN n)(h:n.op=5\/n.op=11\/n.op=12\/n.op=13):(n.sD.map fun k=>kd k.op)=[101]:=by
 have g:=i.shape;unfold shp at g;rw[zIn,if_pos zOm]at g
 grind
theorem qqQ{n}(i:WfN n)(h:n.op=6\/n.op=14\/n.op=7\/n.op=8\/n.op=32\/n.op=33\/n.op=9\/n.op=10):(n.sD.map fun k=>kd k.op)=[101,101]:=by
 have g:=i.shape;unfold shp at g;rw[zIn,zIn,if_pos zOm]at g
 grind
theorem VC{n}(i:WfN n)(h:n.op=15\/n.op=45\/n.op=46):∃ a f,n.sD=[a,f]/\kd a.op=101:=by
 have g:=i.shape;unfold shp at g;rw[zIn,zIn,zIn,if_pos zOm]at g;simp only[qv]at g
 match j:n.sD,g with
 | [a,f],g =>
  grind
 | [],g=>simp at g
 | [_],g=>simp at g
 |_ :: _ :: _ :: _,g=>simp at g
theorem qqR(ts)(h:okTS ts)(es)(a0:Free ts es)(f)(ih:IHx ts es f)(env n body st nm' t z o s s' inn m ko)
  (hm:m<=ts.sT.length) (J:WfN n) (ht:Tk es n) (ho:OwnT n) (hs:ScOk ts.sS.length s) (j:StOk (qo ts es) st) (P:zt env) (hr:Rl (ckF ts) es st.last body s s' env) (h47:n.op≠47) (h1:n.op≠1) (hb:¬(n.op=15\/n.op=45\/n.op=46))
  (e:yx (fun env k s=>expI ts es f env k body s) (fun env nm s=>renI ts es env nm body s) (binB n.op) 0 env n.name n.sD st = .ok ((nm',t,z),o))
  (x:exam (mkCk ts m) s inn n = .ok ko):Out (ckF ts) es s' inn n (.mk n.op nm' n.n t n.pos) ko st.last o.last:=by
 have hc:okCk (mkCk ts m):=uj h hm;have a1:binB n.op=false:=by
  simp_all[binB,not_or]
 rw[a1]at e;rw[yU,ZH h47,if_neg h1,if_neg h47,if_neg hb]at x;split at x
 .cases x
 rename_i a2;have p:=x;clear x;generalize hB:(inn||decide (n.op=12)||decide (n.op=13))=B at p;cases hl:za (mkCk ts m) s B n.sD with
 |error er=>grind
 |ok l =>
  rw[hl]at p;simp only at p;obtain⟨rfl,a3,l',a5,C⟩:=qdF (c:=mkCk ts m) (c0:=ckF ts) (F:=qo ts es) (body:=body) (s:=s) (s':=s') (env:=env)
   (fun k hk st n' z o ko j hr e x=>⟨ih env k body st n' z o s s' B m ko hm (J.kid hk) (ht.kid hk) (ho.kid hk) hs j P hr e x,(jq ts a0 f j P e).ok j⟩) j hr e hl
  obtain⟨R,I⟩:=C.spec;have T:=Vi hl;obtain⟨a4,y1,y2⟩:=qqD (ns:=ts.sS.length) h.ns (op:=n.op) (num:=n.n) (pos:=n.pos) (l:=l) (l':=l') h1 (fun e=>hb (.inl e)) (fun g=>by
    obtain⟨a,a',rfl,rfl,e3⟩:=C.one (qdJ J g);refine⟨a,a',rfl,rfl,e3,?_⟩;have i:=qdJ J g
    match U:n.sD,i with
    | [k],i =>
     rw[U]at T;have hx:=T.2 0 k (some a) rfl rfl;obtain⟨q,e1,e2⟩:=vU hc (szN k) k s B _ (qr _) (J.kid (by rw[U];simp)) hs hx (zUs i);cases e1;exact e2
    | [],i=>simp at i
    |_ :: _ :: _,i=>simp at i)
   (fun g=>C.two (qqQ J g)) p
  refine⟨⟨a4,?_,y2⟩,cX J R I h47 (ho n (vr n)) (.inl ⟨rfl,ht n (vr n)⟩),rfl,a3⟩;rw[yU];show (if (inn&&zY (ckF ts) n.op n.name)=true then _ else if n.op=1 then _ else if n.op=47 then _ else if n.op=15\/n.op=45\/n.op=46 then _ else match za (ckF ts) s' (inn||decide (n.op=12)||decide (n.op=13)) t with | .error e=>_ | .ok l=>yq ts.sS.length n.op n.n n.pos l)=_;simp_all[ZH,if_neg]
theorem qqS(ts)(h:okTS ts)(es)(hF:qo ts es<=200000)(l:Free ts es)(f)(ih:IHx ts es f)(env n body st nm' a0 z I s s' inn m ko)
  (hm:m<=ts.sT.length) (hw:WfN n) (ht:Tk es n) (ho:OwnT n) (hs:ScOk ts.sS.length s) (J:StOk (qo ts es) st) (ag:(qo ts es:Nat)<=pot (qo ts es) st) (o:zt env) (hr:Rl (ckF ts) es st.last body s s' env) (hb:n.op=15\/n.op=45\/n.op=46)
  (e:yx (fun env k s=>expI ts es f env k body s) (fun env nm s=>renI ts es env nm body s) (binB n.op) 0 env n.name n.sD st = .ok ((nm',a0,z),I))
  (x:exam (mkCk ts m) s inn n = .ok ko):Out (ckF ts) es s' inn n (.mk n.op nm' n.n a0 n.pos) ko st.last I.last:=by
 have hc:okCk (mkCk ts m):=uj h hm;have a7:binB n.op=true:=by
  grind [binB]
 have h47:n.op≠47:=zOm;have h1:n.op≠1:=zOm;rw[a7]at e;rw[yU,ZH h47,if_neg h1,if_neg h47,if_pos hb]at x;split at x
 .cases x
 rename_i P;obtain⟨a,g,r,a1⟩:=VC hw hb;have ma:a∈n.sD:=by rw[r];simp
 have mg:g∈n.sD:=by rw[r];simp
 rw[r]at e x;generalize hB:(inn||decide (n.op=15))=B at x;simp only[yr,za]at x;simp only[yx,yj,true_and,Nat.zero_ne_one,if_false,if_true]at e;cases R:exam (mkCk ts m) s B a with
 |error er=>grind
 |ok ka =>
  cases ka with
  |none=>grind
  |some k =>
   rw[R]at x;simp only at x;by_cases T:k.ar=1
   .rw [if_pos T]at x
    split at e
    .cases e
    .rename_i a' m1 s1 e1
     have out:=ih env a body st a' m1 s1 s s' B m _ hm (hw.kid ma) (ht.kid ma) (ho.kid ma) hs J o hr e1 R;have a2:=jq ts l f J o e1;have i:=a2.ok J;obtain⟨ai,x1,x2⟩:=out.ex;obtain⟨q,k',y1,y2,y3⟩:=x2 a1;cases y1;subst y2;obtain⟨q,y4,a8⟩:=vU hc (szN a) a s B _ (qr _) (hw.kid ma) hs R a1;cases y4;have t:=Jn l (env:=env) (nm:=n.name) (body:=body) i.l0;have a3:=Jm (ts:=ts) (es:=es) (nm:=n.name) (body:=body) (s:=s1) o;have a9:=i.last;obtain⟨w1,w2,C⟩:=Rl.bind (c0:=ckF ts) (st:=s1) (nm:=n.name) (k:=k) (k':=k') l o.nd (hr.mono out.le) i.l0 (by show s1.last+(qo ts es:Nat)<_;omega) (ht n (vr n)) y3;have w1:Rl (ckF ts) es (renI ts es env n.name body s1).2.last body ((n.name,k) :: s) (((renI ts es env n.name body s1).1.2,k') :: s') (renI ts es env n.name body s1).1.1:=w1;have w2:s1.last<=(renI ts es env n.name body s1).2.last:=w2;have C:tkn es (renI ts es env n.name body s1).1.2\/vLe es (renI ts es env n.name body s1).2.last (renI ts es env n.name body s1).1.2:=C;have U:(renI ts es env n.name body s1).1.2=n.name\/vLe es (renI ts es env n.name body s1).2.last (renI ts es env n.name body s1).1.2:=by
      rcases C with C|C
      .left
       unfold renI at C⊢;split
       .rename_i aa
        rw[if_pos aa]at C;exfalso;have ab:=l s1.last i.l0;have ad:=Wu ab;simp_all[yI,qH,decide_eq_true_eq]
       .rfl
      grind
     generalize ah:renI ts es env n.name body s1=ae at *
     obtain⟨⟨a4,aj⟩,s2⟩:=ae;simp only at t a3 w1 w2 C U e;have a5:StOk (qo ts es) s2:=⟨t.1,by rw[t.2.2];exact i.c0,by rw[t.2.2];exact i.c1,by
      have:=a2.p
      grind [pot]⟩
     split at e
     .cases e
     .rename_i ak al m3 s3 e3
      split at e3
      .cases e3
      .rename_i g' m2 s4 e2
       cases e3;cases e;cases a6:exam (mkCk ts m) ((n.name,k) :: s) B g with
       |error er=>grind
       |ok kg =>
        rw[a6]at x;cases x;have af:ScOk ts.sS.length ((n.name,k) :: s):=fun v hv=>by
         rcases qy.1 hv with rfl|hv
         .exact ⟨a8,T⟩
         .exact hs v hv
        have j:=ih a4 g body s2 g' m2 I ((n.name,k) :: s) ((nm',k') :: s') B m _ hm (hw.kid mg) (ht.kid mg) (ho.kid mg) af a5 a3 w1 e2 a6;obtain⟨an,z1,_⟩:=j.ex;refine⟨⟨some k',?_,fun _=>⟨k,k',rfl,rfl,y3⟩⟩,?_,rfl,zW2 out.le j.le⟩
        .rw [yU]
         show (if (inn&&zY (ckF ts) n.op nm')=true then _ else if n.op=1 then _ else if n.op=47 then _ else if n.op=15\/n.op=45\/n.op=46 then yr (ckF ts) s' (inn||decide (n.op=15)) nm' n.pos [a',g'] else _)=_;rw[ZH h47,if_neg P,if_neg h1,if_neg h47,if_pos hb,hB];simp only[yr,za];rw[x1];simp only;rw[if_pos (by rw[y3.1];exact T),z1]
        .refine cX hw (by rw[r];simp[out.kd,j.kd]) (fun y hy=>?_) h47 (ho n (vr n)) ?_
         .rcases qy.1 hy with rfl|hy
          .exact out.good.mono (zW1 j.le)
          .rw [qV]at hy;subst hy;exact j.good
         .rcases U with U|U
          .exact .inl ⟨U,by rw[U];exact ht n (vr n)⟩
          .exact .inr ⟨U.mono j.le,qdH (ho n (vr n)) (by unfold wO;rcases hb with h|h|h<;>simp[h])⟩
   grind
theorem Jr(ts)(h:okTS ts)(es)(hP:ZI ts es)(J:qo ts es<=200000)(i:Free ts es):∀ f,IHx ts es f
 | 0=>fun env n body st n' z j s s' inn m P _ _ _ _ _ _ _ _ e _=>by cases e
 |f+1=>fun env n body st n' z j s s' inn m P hm R T U hs g r hr e x=>by
  have ih:=Jr ts h es hP J i f;simp only[expI]at e;split at e
  .rename_i hc
   have hp:=wT g (n:=1) zOm hc;have l:=hp.ok g;have o:Rl (ckF ts) es (payS 1 st).last body s s' env:=hr;have t:st.last=(payS 1 st).last:=rfl;rw[t];split at e
   .rename_i h1
    exact qqN (c:=mkCk ts m) (c0:=ckF ts) rfl h1 R (T n (vr n)) (U n (vr n)) o e x
   .rename_i h1
    split at e
    .grind [qqP,payS]
    .rename_i h47
     obtain⟨⟨C,I,z'⟩,s1,e1,e2⟩:=ZD e;cases e2;by_cases hb:n.op=15\/n.op=45\/n.op=46
     .refine qqS ts h es J i f ih env n body (payS 1 st) C I z' j s s' inn m P hm R T U hs l ?_ r o hb e1 x
      rw[ZE];have:=g.p;omega
     grind [qqR,payS]
  .cases e
end
end PE
namespace ED
open P1 P2 Y1 Y2 Y9 YX YA YB PA YC YG PC PE E3 E6 EB
open PD
section
variable {nm nm':tP}{es:List (tP×Bool)}{e:List (tP×Int)}{ds':List Den}{x:Mo}
abbrev Th:=tP->Option (Nat->XE Ev.Rl)
def globE(x:Mo)(q:Nat)(nm:tP):XE Ev.Rl:=Z7 (vR x.ts.sA (x.m.sK.getD q []) nm++jd x nm 0 x.ts.sS)
def namC(x:Mo)(ρ:Th)(nm:tP)(p:Pl):XE Ev.Rl:=match zZ nm p.env with
 |some a => .ok ⟨1,[a]⟩
 |none=>match ρ nm with
  |some t=>t p.st
  |none=>globE x p.st nm
def VD:List (tP×Int)->List (Nat->XE Ev.Rl)->Th->Th
 |q :: i,t :: R,g=>VD i R fun v=>if v=q.1 then some t else g v
 |_,_,g=>g
def cD(x:Mo):Nat->Th->Nd->Den
 | 0,_,_=>noD
 |f+1,g,n =>
  if n.op=1 then ⟨namC x g n.name,fun _ => .error 43,fun _ => .error 43⟩
  else if n.op=47 then match x.ts.sT.find? fun q=>decide (q.name=n.name) with
   |none=>noD
   |some q=>⟨fun _ => .error 43,fun _ => .error 43,fun p=>(cD x f (VD q.params (n.sD.map fun k=>fun T=>(cD x f g k).E ⟨T,p.env⟩) fun _=>none) q.body).F ⟨p.st,[]⟩⟩
  else opD x n.op n.name n.n (n.sD.map (cD x f g))
def ValV(x:Mo)(ev e:List (tP×Int))(ρ:Th)(v:tP):Option Kd->Option IV->Prop
 |none,_=>zZ v ev=none/\ρ v=none
 |some _,none=>∃ a,zZ v ev=some a/\zZ v e=some a
 |some _,some ⟨some t,_,_⟩=>zZ v ev=none/\∃ g,ρ v=some g/\∀ q,g q=(den x t).E ⟨q,e⟩
 |some _,some ⟨none,_,i⟩=>∃ a,zZ v ev=some a/\zZ i e=some a
structure SV (x:Mo) (es:List (tP×Bool)) (s s':Scp) (env:IEnv) (ρ:Th) (ev e:List (tP×Int)):Prop where
 val:∀ v,tkn es v->ValV x ev e ρ v (lookS v s) (getK v env)
 dom:∀ v,lookS v s'=none->zZ v e=none
theorem qqT{op}(h:kd op=101)(i ds p):opN op i ds p = .error 43:=by
 have j:1<=op/\op<=15:=by
  unfold kd at h;by_cases g:1<=op/\op<=15
  .exact g
  omega
 unfold opN;rw[zIn,zIn,zIn,zIn]
theorem qqU{op}(h:op<=15)(nm ds p):opF x op nm ds p = .error 43:=by
 unfold opF;rw[zIn,zIn,zIn,zIn,zIn,zIn,zIn,zIn,zIn,zIn,zIn,zIn,zIn,zIn,zIn,zIn,zIn,zIn,zIn,zIn,zIn,zIn]
theorem qqV{op}(h:kd op=101):1<=op/\op<=15:=by
 unfold kd at h;by_cases g:1<=op/\op<=15
 .exact g
 omega
theorem Ww(x){t}(h:kd t.op=101)(p):(den x t).N p = .error 43:=by rw[vT];exact qqT h _ _ p
theorem Wx(x){t}(h:kd t.op=101)(p):(den x t).F p = .error 43:=by rw[vT];exact qqU (qqV h).2 _ _ p
theorem kJ(x){n}(h:n.op=1)(p):(den x n).E p=vS x p n.name:=by
 rw[vT];show opE x n.op _ _ _ p=_;unfold opE;rw[if_pos h]
theorem qqW{c c0 body inn s s' env n n' z st J ko ρ ev}(F)(P:c.ts=c0.ts)(o:n.op=1)(ht:tkn es n.name)(hr:PD.Rl c0 es st.last body s s' env)(hS:SV x es s s' env ρ ev e)
  (i:vI env n st = .ok ((n',z),J)) (p:exam c s inn n = .ok ko) (q):uF (cD x (F+1) ρ n) (den x n') ⟨q,ev⟩ ⟨q,e⟩:=by
 rw[VB o,ZC]at p;have j:=hr.rel n.name ht;have l:=hS.val n.name ht;have R:cD x (F+1) ρ n=⟨namC x ρ n.name,fun _ => .error 43,fun _ => .error 43⟩:=by rw[cD,if_pos o]
 rw[R];have T:kd n.op=101:=by rw[o];rfl
 unfold vI at i;cases hg:getK n.name env with
 |none =>
  rw[hg]at i j l;cases i;refine⟨?_,(Ww x T _).symm,(Wx x T _).symm⟩;rw[kJ x o];show namC x ρ n.name ⟨q,ev⟩=vS x ⟨q,e⟩ n.name;unfold namC vS;cases r:lookS n.name s with
  |some k =>
   rw[r]at l;obtain⟨a,C,I⟩:=l
   grind
  |none =>
   rw[r]at l p;obtain⟨C,I⟩:=l;simp only at p⊢;have U:lookS n.name s'=none:=by
    cases U:lookS n.name s' with
    |none=>rfl
    |some q =>
     have:=hr.mean _ (VA U);rw[P,this]at p;cases p
   rw[C,I,hS.dom _ U];rfl
 |some iv =>
  obtain⟨a,g,to⟩:=iv;rw[hg]at i j l;simp only at i;cases r:lookS n.name s with
  |none=>rw[r]at j;exact j.elim
  |some k =>
   rw[r]at j l;cases a with
   |none =>
    cases i;obtain⟨a,C,I⟩:=l;have k2:kd (Nd.mk n.op to n.n n.sD n.pos).op=101:=T;refine⟨?_,(Ww x k2 _).symm,(Wx x k2 _).symm⟩;rw[kJ x (n := .mk n.op to n.n n.sD n.pos) o];show namC x ρ n.name ⟨q,ev⟩=vS x ⟨q,e⟩ to
    grind [namC,vS]
   |some t =>
    simp only at i;have j:ArgR c0 es st.last s' k t:=j;obtain⟨C,th,I,e3⟩:=l;split at i
    .cases i
     refine⟨?_,(Ww x j.kd _).symm,(Wx x j.kd _).symm⟩
     grind [namC]
    .cases i
theorem SV.bind{c0 body s s' env st k k' ρ ev}(a2:Free c0.ts es)(a3:(env.map Prod.fst).Nodup)(h:PD.Rl c0 es st.last body s s' env)(h0:0<=st.last)(ht:tkn es nm)(hS:SV x es s s' env ρ ev e)(a) :
  SV x es ((nm,k) :: s) (((renI c0.ts es env nm body st).1.2,k') :: s') (renI c0.ts es env nm body st).1.1 ρ (ev++[(nm,a)]) (e++[((renI c0.ts es env nm body st).1.2,a)]):=by
 have a0:∀ v,lookS v ((nm,k) :: s)=if nm=v then some k else lookS v s:=fun v=>uH v _ _
 unfold renI;by_cases hc:body=true\/means c0.ts nm≠[]
 .rw [if_pos hc]
  have a4:=a2 st.last h0;have C:=Wu a4;have a8:=Wf c0.ts es (qo c0.ts es) st.last;generalize zC c0.ts es (qo c0.ts es) st.last=J at *
  obtain⟨j,rfl⟩:∃ j:Nat,J=j:=⟨J.toNat,zOm⟩;simp only[yI,qH,decide_eq_true_eq]at C;obtain⟨f1,f2⟩:=C;have a5:∀{v:tP},vLe es st.last v->v≠vN (j:Int):=fun⟨i,hi,e,_⟩ T=>by
   grind [kv]
  have a6:∀ v,getK v (setK nm ⟨none,0,vN (j:Int)⟩ (delK nm env))=if v=nm then some ⟨none,0,vN (j:Int)⟩ else getK v env:=fun v=>by
   grind [j5,wF]
  have o:∀ v,v≠vN (j:Int)->zZ v (e++[(vN (j:Int),a)])=zZ v e:=fun v l=>by rw[wU,if_neg fun x=>l x.symm]
  refine⟨fun v I=>?_,fun v l=>?_⟩
  .show ValV x (ev++[(nm,a)]) (e++[(vN (j:Int),a)]) ρ v (lookS v ((nm,k) :: s)) (getK v (setK nm ⟨none,0,vN (j:Int)⟩ (delK nm env)))
   rw[a0,a6];by_cases p:nm=v
   .rw [if_pos p,if_pos p.symm]
    exact⟨a,by rw[wU,if_pos p],by rw[wU,if_pos rfl]⟩
   .rw [if_neg p,if_neg (fun e=>p e.symm)]
    have P:zZ v (ev++[(nm,a)])=zZ v ev:=by rw[wU,if_neg p]
    have r:=h.rel v I;have g:=hS.val v I;generalize lookS v s=lk at *
    generalize getK v env=iv at *
    match lk,iv with
    |none,iv=>exact⟨by rw[P];exact g.1,g.2⟩
    |some q,none =>
     obtain⟨b,U,T⟩:=g;exact⟨b,by grind,by grind⟩
    |some q,some ⟨some t,_,_⟩ =>
     have r:ArgR c0 es st.last s' q t:=r;obtain⟨U,th,T,e3⟩:=g;refine⟨by grind,th,T,fun q=>?_⟩;rw[e3];refine(qcT x (fun nm=>nm≠vN (j:Int)) (szN t) t (qr _) (fun y hy=>?_) _ _ (fun nm hn=>(o nm hn).symm) q).E;rcases (r.good.all y hy).nm with h1|h1
     .grind
     grind
    |some q,some ⟨none,_,to⟩ =>
     obtain⟨b,U,T⟩:=g;exact⟨b,by grind,by rw[o to (a5 r.2)];exact T⟩
  .have l:lookS v ((vN (j:Int),k') :: s')=none:=l
   rw[uH]at l;split at l
   .cases l
   .rename_i R
    show zZ v (e++[(vN (j:Int),a)])=none;rw[o v fun x=>R x.symm];exact hS.dom v l
 .rw [if_neg hc]
  have a7:body=false:=by
   cases body with
   |false=>rfl
   |true=>exact absurd (.inl rfl) hc
  have o:∀ v,v≠nm->zZ v (e++[(nm,a)])=zZ v e:=fun v l=>by rw[wU,if_neg fun x=>l x.symm]
  refine⟨fun v I=>?_,fun v l=>?_⟩
  .show ValV x (ev++[(nm,a)]) (e++[(nm,a)]) ρ v (lookS v ((nm,k) :: s)) (getK v (delK nm env))
   rw[a0,wF a3];by_cases p:nm=v
   .rw [if_pos p,if_pos p.symm]
    exact⟨a,by rw[wU,if_pos p],by rw[wU,if_pos p]⟩
   .rw [if_neg p,if_neg (fun e=>p e.symm)]
    have P:zZ v (ev++[(nm,a)])=zZ v ev:=by rw[wU,if_neg p]
    have r:=h.rel v I;have g:=hS.val v I;have a1:=h.arg a7 v;generalize lookS v s=lk at *
    generalize getK v env=iv at *
    match lk,iv with
    |none,iv=>exact⟨by rw[P];exact g.1,g.2⟩
    |some q,none =>
     obtain⟨b,U,T⟩:=g;exact⟨b,by rw[P];exact U,by rw[o v (fun e=>p e.symm)];exact T⟩
    |some q,some ⟨some t,_,_⟩=>exact absurd (a1 _ rfl) zSp
    |some q,some ⟨none,_,to⟩ =>
     obtain⟨b,U,T⟩:=g;refine⟨b,by rw[P];exact U,?_⟩;rw[o to fun e=>?_]
     .exact T
     .obtain ⟨_,_,_,hn,_⟩:=r.2
      exact hn (e ▸ ht)
  .have l:lookS v ((nm,k') :: s')=none:=l
   rw[uH]at l;split at l
   .cases l
   .rename_i R
    show zZ v (e++[(nm,a)])=none;rw[o v fun x=>R x.symm];exact hS.dom v l
theorem op_sv{op i ds ev}(C:op≠1)(h47:op≠47)(g:¬(op=15\/op=45\/op=46))(l:∀ j q,uF (kD ds j) (kD ds' j) ⟨q,ev⟩ ⟨q,e⟩)(q):uF (opD x op nm i ds) (opD x op nm' i ds') ⟨q,ev⟩ ⟨q,e⟩:=by
 have t:=fun j q=>(l j q).E
 have I:=fun j q=>(l j q).N
 have J:=fun j q=>(l j q).F
 have o:¬op=15:=fun h=>g (.inl h)
 have p:¬op=45:=fun h=>g (.inr (.inl h))
 have r:¬op=46:=fun h=>g (.inr (.inr h))
 refine⟨?_,?_,?_⟩
 .show opE x op nm i ds ⟨q,ev⟩=opE x op nm' i ds' ⟨q,e⟩
  simp only[opE,if_neg C,if_neg o,yn,binE,t]
 .show opN op i ds ⟨q,ev⟩=opN op i ds' ⟨q,e⟩
  grind [opN]
 .show opF x op nm ds ⟨q,ev⟩=opF x op nm' ds' ⟨q,e⟩
  simp only[opF,if_neg p,if_neg r,if_neg h47,yn,t,I,J]
theorem qqX{op i ds ev}(g:op=15\/op=45\/op=46)(q)(l:(kD ds 0).E ⟨q,ev⟩=(kD ds' 0).E ⟨q,e⟩)(o:∀ a,(kD ds 1).F ⟨q,ev++[(nm,a)]⟩=(kD ds' 1).F ⟨q,e++[(nm',a)]⟩):uF (opD x op nm i ds) (opD x op nm' i ds') ⟨q,ev⟩ ⟨q,e⟩:=by
 have j:jk ds nm ⟨q,ev⟩=jk ds' nm' ⟨q,e⟩:=by
  grind [jk]
 refine⟨?_,?_,?_⟩
 .show opE x op nm i ds ⟨q,ev⟩=opE x op nm' i ds' ⟨q,e⟩
  rcases g with rfl|rfl|rfl
  .simp [opE,j]
  .simp [opE]
  .simp [opE]
 .show opN op i ds ⟨q,ev⟩=opN op i ds' ⟨q,e⟩
  rcases g with rfl|rfl|rfl<;>simp[opN]
 .show opF x op nm ds ⟨q,ev⟩=opF x op nm' ds' ⟨q,e⟩
  rcases g with rfl|rfl|rfl
  .simp [opF]
  .simp [opF,j]
  .simp [opF,j]
end
end ED
namespace EG
open P1 P2 Y1 Y2 Y9 Y10 Y14 YX YB PA YC PC PE E3 EB ED
open PD
section
variable {es:List (tP×Bool)}{e:List (tP×Int)}{x:Mo}
def PS(x:Mo)(G:Nd->Den)(ev e:List (tP×Int)):List Nd->List Nd->Prop
 | [],[]=>True
 |k :: ks,i :: g=>(∀ q,uF (G k) (den x i) ⟨q,ev⟩ ⟨q,e⟩)/\PS x G ev e ks g
 |_,_=>False
theorem PS.get{G ev}:∀{ks g},PS x G ev e ks g->∀ j q,uF (kD (ks.map G) j) (kD (g.map (den x)) j) ⟨q,ev⟩ ⟨q,e⟩
 | [],[],_,j,q=>⟨rfl,rfl,rfl⟩
 |k :: ks,i :: g,h,0,q=>h.1 q
 |k :: ks,i :: g,h,j+1,q=>PS.get h.2 j q
 | [],_ :: _,h,_,_=>h.elim
 |_ :: _,[],h,_,_=>h.elim
theorem qdK{G ev c c0 F body inn s s' env E R} :
  ∀{ks i nm nm' st g j I l},
  (∀ k,k∈ks->∀ st n' z g C,StOk F st->PD.Rl c0 es st.last body s s' env->E env k st = .ok ((n',z),g)->exam c s inn k = .ok C->(Out c0 es s' inn k n' C st.last g.last/\StOk F g)/\∀ q,uF (G k) (den x n') ⟨q,ev⟩ ⟨q,e⟩) ->
  StOk F st->PD.Rl c0 es st.last body s s' env->yx E R false i env nm ks st = .ok ((nm',j,I),g)->za c s inn ks = .ok l->PS x G ev e ks j
 | [],i,nm,nm',st,g,j,I,l,_,p,J,o,el=>by
  cases o;exact trivial
 |k :: ks,i,nm,nm',st,g,j,I,l,T,p,J,o,el=>by
  simp only[yx,Bool.false_eq_true,false_and,if_false]at o;simp only[za]at el;split at o
  .cases o
  .rename_i k' m1 s1 h1
   cases U:exam c s inn k with
   |error er=>grind
   |ok C =>
    rw[U]at el;simp only at el;obtain⟨⟨ho,t⟩,hq⟩:=T k (zg ..) st k' m1 s1 C p J h1 U;cases P:za c s inn ks with
    |error er=>grind
    |ok l1 =>
     split at o
     .cases o
     .rename_i a0 a1 m2 s2 h2
      have r:=qdK (fun k hk=>T k (q8 _ hk)) t (Rl.mono J ho.le) h2 P;cases o;exact⟨hq,r⟩
theorem qdL{T c c0 F body s s' env pos E P} :
  ∀{ks ps}{own i:IEnv}{sc ρ st g},
  (∀ k,k∈ks->∀ st n' z g P,StOk F st->PD.Rl c0 es st.last body s s' env->E k st = .ok ((n',z),g)->exam c s true k = .ok P->(Out c0 es s' true k n' P st.last g.last/\StOk F g)/\∀ q,T k q=(den x n').E ⟨q,e⟩) ->
  StOk F st->PD.Rl c0 es st.last body s s' env->(∀ v,ValV x [] e ρ v (lookS v sc) (getK v own))->ps.length=ks.length->yb c s pos ps ks = .ok P->y7 E ps ks own st = .ok (i,g) ->
  ∀ v,ValV x [] e (VD ps (ks.map T) ρ) v (lookS v (ps.foldl (fun s p=>(p.1,kOf [p.2]) :: s) sc)) (getK v i)
 | [],[],own,i,sc,ρ,st,g,_,_,_,R,_,_,j=>by
  cases j;exact R
 |k :: ks,p :: ps,own,i,sc,ρ,st,g,hE,U,hr,R,r,l,j=>by
  simp only[yb]at l;simp only[y7]at j;cases hx:exam c s true k with
  |error er=>grind
  |ok ka =>
   cases ka with
   |none=>grind
   |some a =>
    rw[hx]at l;simp only at l;by_cases a0:a.ar=1
    .rw [if_pos a0]at l
     by_cases a1:uA p.2 a=true
     .rw [if_pos a1]at l
      split at j
      .cases j
      .rename_i k' m s1 h1
       obtain⟨⟨out,C⟩,hT⟩:=hE k (zg ..) st k' m s1 _ U hr h1 hx;have I:∀ v,ValV x [] e (fun v=>if v=p.1 then some (T k) else ρ v) v (lookS v ((p.1,kOf [p.2]) :: sc)) (getK v (setK p.1 ⟨some k',m,⟨#[]⟩⟩ own)):=fun v=>by
        rw[uH,j5];by_cases o:p.1=v
        .rw [if_pos o,if_pos o.symm]
         exact⟨rfl,T k,if_pos o.symm,hT⟩
        .rw [if_neg o,if_neg (fun e=>o e.symm)]
         have J:=R v;have a2:(if v=p.1 then some (T k) else ρ v)=ρ v:=if_neg fun e=>o e.symm
         generalize lookS v sc=lk at *
         generalize getK v own=iv at *
         match lk,iv with
         |none,iv=>exact⟨J.1,by rw[<-J.2];exact a2⟩
         |some q,none=>exact J
         |some q,some ⟨some t,_,_⟩ =>
          obtain⟨e1,th,e2,e3⟩:=J;exact⟨e1,th,by grind,e3⟩
         |some q,some ⟨none,_,to⟩=>exact J
       exact qdL (ks:=ks) (ps:=ps) (fun k hk=>hE k (q8 _ hk)) C (Rl.mono hr out.le) I (zUs r) l j
     grind
    grind
 | [],_ :: _,_,_,_,_,_,_,_,_,_,_,r,_,_=>by simp at r
 |_ :: _,[],_,_,_,_,_,_,_,_,_,_,r,_,_=>by simp at r
theorem qqY{op}(h:16<=op)(nm i ds p):opE x op nm i ds p = .error 43:=by
 unfold opE;rw[zIn,zIn,zIn,zIn,zIn,zIn,zIn,zIn,zIn,zIn,zIn,zIn,zIn,zIn,zIn]
theorem qqZ{op}(h:24<=op)(i ds p):opN op i ds p = .error 43:=by
 unfold opN;rw[zIn,zIn,zIn,zIn]
theorem qq0{op}(h:kd op=102):30<=op:=by
 grind [kd]
def IHs(x:Mo)(es:List (tP×Bool))(f:Nat):Prop:=∀(env:IEnv)(n:Nd)(g:Bool)(T:ISt)(l:Nd)(z:Int)(i:ISt)(s o:Scp)(j:Bool)(m:Nat)(r:Option Kd)(p:Th)(ev e:List (tP×Int))(F:Nat),
 m<=x.ts.sT.length->WfN n->Tk es n->OwnT n->ScOk x.ts.sS.length s->StOk (qo x.ts es) T->zt env->PD.Rl (ckF x.ts) es T.last g s o env->SV x es s o env p ev e->f<=F ->
 expI x.ts es f env n g T = .ok ((l,z),i)->exam (mkCk x.ts m) s j n = .ok r->∀ q,uF (cD x F p n) (den x l) ⟨q,ev⟩ ⟨q,e⟩
theorem qq1(x)(h:okTS x.ts)(es)(hP:ZI x.ts es)(hF:qo x.ts es<=200000)(a3:Free x.ts es)(f)(ih:IHs x es f)(env n body st n' z g s s' inn m ko ρ ev ee F)
  (hm:m<=x.ts.sT.length) (hw:WfN n) (ht:Tk es n) (ho:OwnT n) (hs:ScOk x.ts.sS.length s) (l:StOk (qo x.ts es) st) (P:zt env) (hr:PD.Rl (ckF x.ts) es st.last body s s' env) (hS:SV x es s s' env ρ ev ee) (a7:f<=F) (h47:n.op=47) (a8:Out (ckF x.ts) es s' inn n n' ko st.last g.last)
  (e:((match x.ts.sT.find? fun p=>decide (p.name=n.name) with
    |none=>Except.error (2,0)
    |some p=>vX (y7 (fun k s=>expI x.ts es f env k body s) p.params n.sD [] st) fun own s'=>expI x.ts es f own p.body true s'):XR (Nd×Int)) = .ok ((n',z),g))
  (J:exam (mkCk x.ts m) s inn n = .ok ko) (q):uF (cD x (F+1) ρ n) (den x n') ⟨q,ev⟩ ⟨q,ee⟩:=by
 have hc:okCk (mkCk x.ts m):=uj h hm;rw[yU,if_neg (show ¬n.op=1 by omega),if_pos h47]at J;split at J
 .cases J
 rename_i R;split at J
 .cases o:zx (mkCk x.ts m) n.name with
  |none=>grind
  |some i =>
   obtain⟨a4,I⟩:=Qu hc o;have a4:i<m:=a4;have I:i<x.ts.sT.length:=I;rw[o]at J;simp only at J;have J:((match x.ts.sT[i]? with|none=>Except.error (45,n.pos)|some t=>if t.params.length=n.sD.length then yb (mkCk x.ts m) s n.pos t.params n.sD else .error (45,n.pos)):Res) = .ok ko:=J;rw[qA I]at J;simp only at J;have a5:(x.ts.sT.find? fun p=>decide (p.name=n.name))=some x.ts.sT[i]:=by
    unfold zx at o;rw[List.findIdx?_eq_some_iff_getElem]at o;obtain⟨hi,a1,a2⟩:=o;rw[List.find?_eq_some_iff_getElem];refine⟨?_,i,I,rfl,fun j hj=>?_⟩
    .have:=a1
     simp only[List.getElem_take]at this;exact this
    .have:=a2 j hj
     simp only[List.getElem_take]at this;have h3:¬decide (x.ts.sT[j].name=n.name)=true:=this
     grind
   have ag:cD x (F+1) ρ n=⟨fun _ => .error 43,fun _ => .error 43,fun p=>(cD x F (VD x.ts.sT[i].params (n.sD.map fun k=>fun st=>(cD x F ρ k).E ⟨st,p.env⟩) fun _=>none) x.ts.sT[i].body).F ⟨p.st,[]⟩⟩:=by
    simp_all[cD,if_neg,if_pos]
   rw[a5]at e;simp only at e;obtain⟨⟨kb,hb⟩,av,ah,ai,aj⟩:=hP i I;have ak:=h.pl _ (qs I);generalize al:x.ts.sT[i]=t at *
   by_cases U:t.params.length=n.sD.length
   .rw [if_pos U]at J
    obtain⟨own,s1,h1,e⟩:=ZD e;have a9:=Wv hw h47;have a0:∀ k,k∈n.sD->∀ st n' z g,StOk (qo x.ts es) st->expI x.ts es f env k body st = .ok ((n',z),g)->StOk (qo x.ts es) g:=fun k C st n' z g l e=>(jq x.ts a3 f l P e).ok l
    have aa:=Jr x.ts h es hP hF a3 f;obtain⟨g1,g2⟩:=kI (c:=mkCk x.ts m) (c0:=ckF x.ts) (ns:=x.ts.sS.length) (F:=qo x.ts es) (body:=body) (s:=s) (s':=s') (env:=env) (sc:=[]) (own:=[])
     (fun k C st n' z g ko l hr e x=>⟨aa env k body st n' z g s s' true m ko hm (hw.kid C) (ht.kid C) (ho.kid C) hs l P hr e x,a0 k C st n' z g l e⟩)
     a9 (fun k C a hx=>by
      obtain⟨q,e1,e2⟩:=vU hc (szN k) k s true _ (qr _) (hw.kid C) hs hx (a9 k C);cases e1;exact e2)
     l hr (fun v=>trivial) U J h1
    have gv:=qdL (x:=x) (e:=ee) (T:=fun k=>fun st=>(cD x F ρ k).E ⟨st,ev⟩) (c:=mkCk x.ts m) (c0:=ckF x.ts) (F:=qo x.ts es) (body:=body) (s:=s) (s':=s') (env:=env) (sc:=[]) (own:=[]) (ρ:=fun _=>none)
     (fun k C st n' z g ko l hr e x2=>⟨⟨aa env k body st n' z g s s' true m ko hm (hw.kid C) (ht.kid C) (ho.kid C) hs l P hr e x2,a0 k C st n' z g l e⟩,fun q=>(ih env k body st n' z g s s' true m ko ρ ev ee F hm (hw.kid C) (ht.kid C) (ho.kid C) hs l P hr hS a7 e x2 q).E⟩)
     l hr (fun v=>⟨rfl,rfl⟩) U J h1
    obtain⟨ab,an⟩:=Wg (F:=qo x.ts es) (fun k n' z s s' _ hs hE=>jq x.ts a3 f hs P hE) l .nil h1;have ad:=an.ok l;have ao:PD.Rl (ckF x.ts) es s1.last true (zW t.params) s' own:=⟨hr.mean,fun v hv=>by
     have:=g2 v;have:OwnV (ckF x.ts) es s1.last s' (lookS v (zW t.params)) (getK v own):=this;generalize lookS v (zW t.params)=lk at *
     generalize getK v own=iv at *
     match lk,iv with
     |none,none=>trivial
     |some k,some ⟨some a,_,_⟩=>exact this
     |none,some _=>exact this.elim
     |some k,none=>exact this.elim
     |some k,some ⟨none,_,_⟩=>exact this.elim,fun aq=>by cases aq⟩
    have ae:ScOk x.ts.sS.length (zW t.params):=U2 ⟨zOm,ak.2⟩;have ar:exam (mkCk x.ts i) (zW t.params) inn t.body = .ok kb:=by
     cases af:inn with
     |false=>exact hb
     |true =>
      rw[<-hb];refine kG _ (szN t.body) t.body _ _ _ (qr _) ?_;rw[af]at R;have a6:zY (mkCk x.ts m) n.op n.name=false:=by simpa using R
      unfold zY at a6;rw[o,h47]at a6;have:=Vz x.ts i m a4 hm I;rw[al]at this;rw[<-this];have aw:(yD 47||(decide ((47:Int)=47)&&(tmsL x.ts m).getD i false))=false:=a6
      grind
    have au:SV x es (zW t.params) s' own (VD t.params (n.sD.map fun k=>fun st=>(cD x F ρ k).E ⟨st,ev⟩) fun _=>none) [] ee:=⟨fun v _=>gv v,hS.dom⟩;have hB:=ih own t.body true s1 n' z g (zW t.params) s' inn i kb _ [] ee F zOm ah ai aj ae ad ab ao au a7 e ar q;have ax:30<=n'.op:=qq0 (by rw[a8.kd,h47];rfl);rw[ag];refine⟨?_,?_,hB.F⟩
    .rw [vT];exact(qqY zOm _ _ _ _).symm
    .rw [vT];exact(qqZ zOm _ _ _).symm
   grind
 .cases J
theorem qq2(x)(h:okTS x.ts)(es)(hP:ZI x.ts es)(hF:qo x.ts es<=200000)(p:Free x.ts es)(f)(ih:IHs x es f)(env n body st nm' r z i s s' inn m C ρ ev I F)
  (hm:m<=x.ts.sT.length) (hw:WfN n) (ht:Tk es n) (ho:OwnT n) (hs:ScOk x.ts.sS.length s) (g:StOk (qo x.ts es) st) (j:zt env) (J:PD.Rl (ckF x.ts) es st.last body s s' env) (hS:SV x es s s' env ρ ev I) (P:f<=F) (h47:n.op≠47) (h1:n.op≠1) (hb:¬(n.op=15\/n.op=45\/n.op=46))
  (e:yx (fun env k s=>expI x.ts es f env k body s) (fun env nm s=>renI x.ts es env nm body s) (binB n.op) 0 env n.name n.sD st = .ok ((nm',r,z),i))
  (t:exam (mkCk x.ts m) s inn n = .ok C) (q):uF (cD x (F+1) ρ n) (den x (.mk n.op nm' n.n r n.pos)) ⟨q,ev⟩ ⟨q,I⟩:=by
 have R:binB n.op=false:=by
  simp_all[binB,not_or]
 rw[R]at e;rw[yU,ZH h47,if_neg h1,if_neg h47,if_neg hb]at t;split at t
 .cases t
 have T:=t;clear t;generalize hB:(inn||decide (n.op=12)||decide (n.op=13))=B at T;have U:=Jr x.ts h es hP hF p f;cases hl:za (mkCk x.ts m) s B n.sD with
 |error er=>grind
 |ok l =>
  have a0:=qdK (x:=x) (G:=cD x F ρ) (ev:=ev) (e:=I) (c:=mkCk x.ts m) (c0:=ckF x.ts) (F:=qo x.ts es) (body:=body) (s:=s) (s':=s') (env:=env)
   (fun k o st n' z i C g J e x2=>⟨⟨U env k body st n' z i s s' B m C hm (hw.kid o) (ht.kid o) (ho.kid o) hs g j J e x2,(jq x.ts p f g j e).ok g⟩,ih env k body st n' z i s s' B m C ρ ev I F hm (hw.kid o) (ht.kid o) (ho.kid o) hs g j J hS P e x2⟩) g J e hl
  have a1:cD x (F+1) ρ n=opD x n.op n.name n.n (n.sD.map (cD x F ρ)):=by simp_all[cD,if_neg]
  rw[a1,vT];exact op_sv h1 h47 hb a0.get q
theorem qq3(x)(h:okTS x.ts)(es)(hP:ZI x.ts es)(hF:qo x.ts es<=200000)(l:Free x.ts es)(f)(ih:IHs x es f)(env n body st nm' T z U s s' inn m ko ρ ev ee F)
  (hm:m<=x.ts.sT.length) (hw:WfN n) (ht:Tk es n) (ho:OwnT n) (hs:ScOk x.ts.sS.length s) (o:StOk (qo x.ts es) st) (ah:(qo x.ts es:Nat)<=pot (qo x.ts es) st) (j:zt env) (hr:PD.Rl (ckF x.ts) es st.last body s s' env) (hS:SV x es s s' env ρ ev ee) (a0:f<=F) (hb:n.op=15\/n.op=45\/n.op=46)
  (e:yx (fun env k s=>expI x.ts es f env k body s) (fun env nm s=>renI x.ts es env nm body s) (binB n.op) 0 env n.name n.sD st = .ok ((nm',T,z),U))
  (r:exam (mkCk x.ts m) s inn n = .ok ko) (q):uF (cD x (F+1) ρ n) (den x (.mk n.op nm' n.n T n.pos)) ⟨q,ev⟩ ⟨q,ee⟩:=by
 have hc:okCk (mkCk x.ts m):=uj h hm;have a7:binB n.op=true:=by
  grind [binB]
 have h47:n.op≠47:=zOm;have h1:n.op≠1:=zOm;have a8:=Jr x.ts h es hP hF l f;have a9:cD x (F+1) ρ n=opD x n.op n.name n.n (n.sD.map (cD x F ρ)):=by simp_all[cD,if_neg]
 rw[a9,vT];rw[a7]at e;rw[yU,ZH h47,if_neg h1,if_neg h47,if_pos hb]at r;split at r
 .cases r
 obtain⟨a,g,I,a1⟩:=VC hw hb;have J:a∈n.sD:=by rw[I];simp
 have mg:g∈n.sD:=by rw[I];simp
 rw[I]at e r⊢;generalize hB:(inn||decide (n.op=15))=B at r;simp only[yr,za]at r;simp only[yx,yj,true_and,Nat.zero_ne_one,if_false,if_true]at e;cases t:exam (mkCk x.ts m) s B a with
 |error er=>grind
 |ok ka =>
  cases ka with
  |none=>grind
  |some k =>
   rw[t]at r;simp only at r;by_cases a2:k.ar=1
   .rw [if_pos a2]at r
    split at e
    .cases e
    .rename_i a' m1 s1 e1
     have out:=a8 env a body st a' m1 s1 s s' B m _ hm (hw.kid J) (ht.kid J) (ho.kid J) hs o j hr e1 t;have aa:=ih env a body st a' m1 s1 s s' B m _ ρ ev ee F hm (hw.kid J) (ht.kid J) (ho.kid J) hs o j hr hS a0 e1 t q;have a3:=jq x.ts l f o j e1;have i:=a3.ok o;obtain⟨aj,x1,x2⟩:=out.ex;obtain⟨q1,P,y1,y2,y3⟩:=x2 a1;cases y1;subst y2;obtain⟨q2,y4,ab⟩:=vU hc (szN a) a s B _ (qr _) (hw.kid J) hs t a1;cases y4;have C:=Jn l (env:=env) (nm:=n.name) (body:=body) i.l0;have a4:=Jm (ts:=x.ts) (es:=es) (nm:=n.name) (body:=body) (s:=s1) j;have ad:=i.last;obtain⟨w1,w2,w3⟩:=Rl.bind (c0:=ckF x.ts) (st:=s1) (nm:=n.name) (k:=k) (k':=P) l j.nd (Rl.mono hr out.le) i.l0 (by show s1.last+(qo x.ts es:Nat)<_;omega) (ht n (vr n)) y3;have w4:=fun a=>SV.bind (x:=x) (c0:=ckF x.ts) (st:=s1) (nm:=n.name) (k:=k) (k':=P) (ρ:=ρ) (ev:=ev) (e:=ee) l j.nd (Rl.mono hr out.le) i.l0 (ht n (vr n)) hS a
     have w1:PD.Rl (ckF x.ts) es (renI x.ts es env n.name body s1).2.last body ((n.name,k) :: s) (((renI x.ts es env n.name body s1).1.2,P) :: s') (renI x.ts es env n.name body s1).1.1:=w1;have w4:∀ a,SV x es ((n.name,k) :: s) (((renI x.ts es env n.name body s1).1.2,P) :: s') (renI x.ts es env n.name body s1).1.1 ρ (ev++[(n.name,a)]) (ee++[((renI x.ts es env n.name body s1).1.2,a)]):=w4;clear w2 w3;generalize ai:renI x.ts es env n.name body s1=ae at *
     obtain⟨⟨a5,ak⟩,s2⟩:=ae;simp only at C a4 w1 w4 e;have a6:StOk (qo x.ts es) s2:=⟨C.1,by rw[C.2.2];exact i.c0,by rw[C.2.2];exact i.c1,by
      have:=a3.p
      grind [pot]⟩
     split at e
     .cases e
     .rename_i al an m3 s3 e3
      split at e3
      .cases e3
      .rename_i g' m2 s4 e2
       cases e3;cases e;cases af:exam (mkCk x.ts m) ((n.name,k) :: s) B g with
       |error er=>grind
       |ok kg =>
        have ag:ScOk x.ts.sS.length ((n.name,k) :: s):=fun v hv=>by
         rcases qy.1 hv with rfl|hv
         .exact ⟨ab,a2⟩
         .exact hs v hv
        refine qqX (nm':=nm') (ds:=[a,g].map (cD x F ρ)) (ds':=[a',g'].map (den x)) hb q aa.E fun v=>?_
        exact(ih a5 g body s2 g' m2 U ((n.name,k) :: s) ((nm',P) :: s') B m _ ρ _ _ F hm (hw.kid mg) (ht.kid mg) (ho.kid mg) ag a6 a4 w1 (w4 v) a0 e2 af q).F
   grind
theorem qdM(x)(h:okTS x.ts)(es)(C:ZI x.ts es)(I:qo x.ts es<=200000)(i:Free x.ts es):∀ f,IHs x es f
 | 0=>fun env n body st n' z j s s' inn m J ρ ev ee F _ _ _ _ _ _ _ _ _ _ e _=>by cases e
 |f+1=>fun env n body st n' z j s s' inn m J ρ ev ee F hm hw P ho hs g l hr hS o e R q=>by
  have ih:=qdM x h es C I i f;have a0:=Jr x.ts h es C I i (f+1) env n body st n' z j s s' inn m J hm hw P ho hs g l hr e R;obtain⟨F,rfl⟩:∃ F',F=F'+1:=⟨F-1,zOm⟩;have o:f<=F:=zOm;simp only[expI]at e;split at e
  .rename_i hc
   have hp:=wT g (n:=1) zOm hc;have r:=hp.ok g;have t:PD.Rl (ckF x.ts) es (payS 1 st).last body s s' env:=hr;split at e
   .rename_i h1
    exact qqW (c:=mkCk x.ts m) (c0:=ckF x.ts) F rfl h1 (P n (vr n)) t hS e R q
   .rename_i h1
    split at e
    .grind [qq1,payS]
    .rename_i h47
     obtain⟨⟨T,U,z'⟩,s1,e1,e2⟩:=ZD e;cases e2;by_cases hb:n.op=15\/n.op=45\/n.op=46
     .refine qq3 x h es C I i f ih env n body (payS 1 st) T U z' j s s' inn m J ρ ev ee F hm hw P ho hs r ?_ l t hS o hb e1 R q
      rw[ZE];have:=g.p;omega
     grind [qq2,payS]
  .cases e
end
end EG
namespace PG
open Y1 Y2 P1 P2 Y9 YZ
section
variable {nm:tP}
theorem qq4{ns op n pos l e}(h:yq ns op n pos l = .error e):40<=e.1:=by
 unfold yq at h
 repeat' split at h
 all_goals first
  | (cases h;done)
  | (cases h;simp)
theorem qq5{c s pos e}(h:jD c s nm pos = .error e):40<=e.1:=by
 unfold jD at h
 repeat' split at h
 all_goals first
  | (cases h;done)
  | (cases h;simp)
section
variable {c:Ck}
theorem kK{inn}:∀{ks s e},(∀ k,k∈ks->∀ s e,exam c s inn k = .error e->40<=e.1)->za c s inn ks = .error e->40<=e.1
 | [],s,e,_,h=>by simp only[za]at h;cases h
 |k :: ks,s,e,i,h=>by
  simp only[za]at h;split at h
  .rename_i j g
   cases h;exact i k (zg ..) s _ g
  .split at h
   .rename_i j g
    cases h;exact kK (fun k l=>i k (q8 _ l)) g
   .cases h
theorem qdN{pos}:∀{ks ps s e},(∀ k,k∈ks->∀ s e,exam c s true k = .error e->40<=e.1)->yb c s pos ps ks = .error e->40<=e.1
 | [],ps,s,e,_,h=>by cases ps<;>(simp only[yb]at h;cases h)
 |k :: ks,[],s,e,_,h=>by simp only[yb]at h;cases h
 |k :: ks,p :: ps,s,e,g,h=>by
  simp only[yb]at h;split at h
  .rename_i l i
   cases h;exact g k (zg ..) s _ i
  .cases h;simp
  .split at h
   .split at h
    .exact qdN (fun k j=>g k (q8 _ j)) h
    .cases h;simp
   .cases h;simp
theorem qq6{inn pos}:∀{ks s e},(∀ k,k∈ks->∀ s e,exam c s inn k = .error e->40<=e.1)->yr c s inn nm pos ks = .error e->40<=e.1
 | [],s,e,_,h=>by simp only[yr]at h;cases h
 |k :: ks,s,e,i,h=>by
  simp only[yr]at h;split at h
  .rename_i j g
   cases h;exact i k (zg ..) s _ g
  .cases h;simp
  .split at h
   .split at h
    .rename_i j g
     cases h;exact kK (fun k l=>i k (q8 _ l)) g
    .cases h
   .cases h;simp
theorem VE(c):∀ m n s inn e,szN n<=m->exam c s inn n = .error e->40<=e.1
 | 0,n,_,_,_,j,_=>by obtain⟨op,nm,i,ks,p⟩:=n;simp[szN]at j
 |m+1,n,s,inn,e,j,h=>by
  have g:∀ inn k,k∈n.sD->∀ s e,exam c s inn k = .error e->40<=e.1:=fun inn k l s e h=>VE c m k s inn e (zW1 (yu l)) h
  rw[yU]at h;split at h
  .cases h;simp
  split at h
  .exact qq5 h
  split at h
  .split at h
   .split at h
    .cases h;simp
    .split at h
     .cases h;simp
     .split at h
      .exact qdN (g true) h
      .cases h;simp
   .cases h;simp
  split at h
  .exact qq6 (g _) h
  .split at h
   .rename_i r o
    cases h;exact kK (g _) o
   .exact qq4 h
end
end
theorem qdO{ks k}(h:k∈ks):depN k<=yF ks:=by
 induction ks with
 |nil=>simp at h
 |cons a l g =>
  simp only[yF];rcases qy.1 h with rfl|h
  .omega
  .have:=g h;omega
theorem qdP(n):1<=depN n:=by
 rw[wQ];have:∀ ks:List Nd,0<=yF ks:=by
  intro ks;induction ks with
  |nil=>simp[yF]
  |cons a l g=>simp only[yF];omega
 have:=this n.sD;omega
end PG
namespace PF
open P1 P2 Y1 Y2 Y9 Y16 YZ YB YC YE YG Q2 Q4 Q6 PC PE PG
mutual
theorem kM:∀(n:Nd)(left:Int),cntT n<=left->cntN n left=cntT n
 | .mk op o i ks p,left,h=>by
  simp only[cntT,cntN]at h⊢;exact qdQ ks left 1 h
theorem qdQ:∀(ks:List Nd)(left sum:Int),sum+jr ks<=left->je ks left sum=sum+jr ks
 | [],left,sum,h=>by simp only[jr,je];omega
 |k :: ks,left,sum,h=>by
  simp only[jr,je]at h⊢;have g:=kn k;have i:=Wl ks;rw[if_pos zOm,kM k (left-sum) zOm,qdQ ks left _ zOm];omega
end
mutual
theorem qdR:∀(n:Nd)(left:Int),cntN n left<=left->cntT n<=left
 | .mk op o i ks p,left,h=>by
  simp only[cntT,cntN]at h⊢;exact qdS ks left 1 h
theorem qdS:∀(ks:List Nd)(left sum:Int),je ks left sum<=left->sum+jr ks<=left
 | [],left,sum,h=>by simp only[jr,je]at h⊢;omega
 |k :: ks,left,sum,h=>by
  simp only[jr,je]at h⊢;split at h
  .have i:=(KL ks left (sum+cntN k (left-sum))).1
   have g:cntN k (left-sum)<=left-sum:=zOm;have j:=kM k (left-sum) (qdR k _ g);have l:=qdS ks left _ h;omega
  .omega
end
section
variable {c:Ck}
theorem qq7{ks d}(g:0<=d)(h:∀ k,k∈ks->depN k<=d):yF ks<=d:=by
 induction ks with
 |nil=>grind [yF]
 |cons a l i =>
  grind [yF,zg,q8]
theorem qq8{ks g}(h:∀ k,k∈ks->forN k g=true):u5 ks g=true:=by
 induction ks with
 |nil=>rfl
 |cons a l i =>
  simp_all[u5,qH,zg,q8]
theorem qdT:∀ m n g,szN n<=m->WfN n->OwnT n->depN n<=g->forN n g=true
 | 0,n,_,l,_,_,_=>by obtain⟨op,nm,i,ks,p⟩:=n;simp[szN]at l
 |m+1,n,g,l,o,r,t=>by
  have C:=qdP n;rw[Vk,zIn,r n (vr n),Bool.true_and,qH];refine⟨?_,qq8 fun k j=>qdT m k (g-1) (zW1 (yu j)) (o.kid j) (r.kid j) ?_⟩
  .unfold fitB
   rw[decide_eq_true_eq];exact o.shape
  .have:=qdO j
   rw[wQ]at t;omega
theorem qdU:∀ m n l,szN n<=m->forN n l=true->OwnT n/\depN n<=l
 | 0,n,_,o,_=>by obtain⟨op,nm,i,ks,p⟩:=n;simp[szN]at o
 |m+1,n,l,o,h=>by
  rw[Vk]at h;split at h
  .cases h
  .rename_i I
   simp only[qH]at h;obtain⟨t,J,C⟩:=h;have r:=fun k (g:k∈n.sD)=>qdU m k (l-1) (zW1 (yu g)) (KN C k g)
   refine⟨fun x j=>?_,?_⟩
   .rw [uG]at j
    rcases qy.1 j with rfl|j
    .exact t
    .obtain ⟨k,g,j⟩:=Wt j
     exact(r k g).1 x j
   .rw [wQ]
    have:=qq7 (ks:=n.sD) (d:=l-1) zOm fun k g=>(r k g).2
    omega
theorem uI{n}:qT n=true↔WfN n/\OwnT n/\cntT n<=400/\depN n<=24:=by
 constructor
 .intro h
  have l:=vV h;simp only[qT,qH,decide_eq_true_eq]at h;obtain⟨a,b⟩:=qdU (szN n) n 24 (qr _) h.2;simp_all[qdR]
 .rintro ⟨g,i,o,j⟩
  simp only[qT,qH,decide_eq_true_eq];exact⟨by grind [kM],qdT (szN n) n 24 (qr _) g i j⟩
theorem qdV{nm i}(h:zx c nm=some i)(g):(c.ts.sT.find? fun p=>decide (p.name=nm))=some c.ts.sT[i]:=by
 unfold zx at h;rw[List.findIdx?_eq_some_iff_getElem]at h;obtain⟨l,o,r⟩:=h;rw[List.find?_eq_some_iff_getElem];refine⟨?_,i,g,rfl,fun j t=>?_⟩
 .grind
 grind
theorem qdW{s pos}:∀{ks ps l},ps.length=ks.length->yb c s pos ps ks = .ok l->∀ k,k∈ks->∃ a,exam c s true k = .ok a
 | [],_,_,_,_,k,g=>absurd g qG
 |k :: ks,[],_,i,_,_,_=>by simp at i
 |k :: ks,p :: ps,l,i,h,x,j=>by
  simp only[yb]at h;split at h
  .cases h
  .cases h
  .rename_i a g
   split at h
   .split at h
    .rcases qy.1 j with rfl|j
     .exact ⟨_,g⟩
     .exact qdW (zUs i) h x j
    .cases h
   .cases h
theorem kN{s inn}:∀{ks l},za c s inn ks = .ok l->∀ k,k∈ks->∃ a,exam c s inn k = .ok a
 | [],_,_,k,g=>absurd g qG
 |k :: ks,l,h,x,i=>by
  simp only[za]at h;split at h
  .cases h
  .rename_i a g
   split at h
   .cases h
   .rename_i o j
    rcases qy.1 i with rfl|i
    .exact ⟨_,g⟩
    .exact kN j x i
theorem kO(hc:okCk c):∀ m n s inn o,szN n<=m->exam c s inn n = .ok o->WfN n->yW c.ts n
 | 0,n,_,_,_,hm,_,_=>by obtain⟨op,nm,i,ks,p⟩:=n;simp[szN]at hm
 |m+1,n,s,inn,o,hm,h,U=>fun x j ho=>by
  have ih:∀ k,k∈n.sD->∀ s inn o,exam c s inn k = .ok o->yW c.ts k:=fun k t s inn o h=>kO hc m k s inn o (zW1 (yu t)) h (U.kid t)
  rw[yU]at h;rw[uG]at j;split at h
  .cases h
  by_cases h1:n.op=1
  .rw [kH U h1]at j
   rcases qy.1 j with rfl|j
   .omega
   .simp [zD]at j
  rw[if_neg h1]at h;have C:∀(s:Nd->Scp)(inn:Nd->Bool),(∀ k,k∈n.sD->∃ o,exam c (s k) (inn k) k = .ok o)->x∈zD n.sD->∃ p,(c.ts.sT.find? fun p=>decide (p.name=x.name))=some p/\p.params.length=x.sD.length:=fun s inn t j=>by
   obtain⟨k,I,j⟩:=Wt j;obtain⟨o,a0⟩:=t k I;exact ih k I _ _ _ a0 x j ho
  by_cases h47:n.op=47
  .rw [if_pos h47]at h
   split at h
   .split at h
    .cases h
    .rename_i i J
     obtain⟨_,a1⟩:=Qu hc J;rw[qA a1]at h;simp only at h;split at h
     .rename_i P
      rcases qy.1 j with rfl|j
      .grind [qdV]
      .exact C (fun _=>s) (fun _=>true) (qdW P h) j
     .cases h
   .cases h
  rw[if_neg h47]at h;have j:x∈zD n.sD:=by
   rcases qy.1 j with rfl|j
   .omega
   .exact j
  by_cases R:n.op=15\/n.op=45\/n.op=46
  .rw [if_pos R]at h
   obtain⟨a,g,r,_⟩:=VC U R;rw[r]at h;simp only[yr]at h;split at h
   .cases h
   .cases h
   .rename_i k t
    split at h
    .split at h
     .cases h
     .rename_i l hl
      obtain⟨y,T,j⟩:=Wt j;rw[r]at T;rcases qy.1 T with rfl|T
      .exact ih y (by rw[r];simp) _ _ _ t x j ho
      .rw [qV]at T
       subst T;obtain⟨b,R⟩:=kN hl y zSp;exact ih y (by rw[r];simp) _ _ _ R x j ho
    .cases h
  .rw [if_neg R]at h
   split at h
   .cases h
   .rename_i l hl
    exact C (fun _=>s) (fun _=>_) (fun k t=>kN hl k t) j
theorem Js{env n}(h:(jO c env n).1=0):30<=n.op/\∃ g,exam c (zW env) false n = .ok g:=by
 unfold jO at h;split at h
 .rename_i i
  refine⟨i,?_⟩;cases j:exam c (zW env) false n with
  |ok g=>exact⟨g,rfl⟩
  |error e =>
   rw[j]at h;have:=PG.VE c (szN n) n _ _ e (qr _) j;have h:e.1=0:=h;omega
 omega
theorem kP{ts}(h:yZ ts=[])(i g):(jO (mkCk ts i) ts.sT[i].params ts.sT[i].body).1=0:=by
 simp_all[yZ,List.append_eq_nil_iff,List.flatMap_eq_nil_iff,yi,ul,qA,rp]
theorem kQ(l):∀ es nm,(getK nm es=some true\/∃ x,x∈l/\x.name=nm)->getK nm (putN es l)=some true:=by
 induction l with
 |nil =>
  intro es nm h;rcases h with h|⟨x,g,_⟩
  .exact h
  .exact absurd g qG
 |cons a l i =>
  intro es nm h;refine i _ nm ?_;rw[j5];by_cases e:nm=a.name
  .rw [if_pos e];exact .inl rfl
  .rw [if_neg e]
   rcases h with h|⟨x,g,j⟩
   .exact .inl h
   .rcases qy.1 g with rfl|g
    .grind
    grind
theorem qdX(ts n):Tk (yX ts n) n/\∀ p,p∈ts.sT->Tk (yX ts n) p.body:=by
 have j:∀(l:List Pd)(U:List (tP×Bool))(o:tP),(getK o U=some true\/∃ p,p∈l/\∃ x,x∈preN p.body/\x.name=o)->getK o (l.foldl (fun U p=>putN U (preN p.body)) U)=some true:=by
  intro l;induction l with
  |nil =>
   simp
  |cons a l r =>
   intro U o h;refine r _ o ?_;rcases h with h|⟨p,g,i⟩
   .grind [kQ]
   .rcases qy.1 g with rfl|g
    .grind [kQ]
    grind
 refine⟨fun x i=>j _ _ _ (.inl (kQ _ _ _ (.inr ⟨x,i,rfl⟩))),fun p g x i=>j _ _ _ (.inr ⟨p,g,x,i,rfl⟩)⟩
theorem qdY(l):∀ es,(putN es l).length<=es.length+l.length:=by
 have i:∀(es:List (tP×Bool))(k:tP),(setK k true es).length<=es.length+1:=by
  intro es k;induction es with
  |nil=>simp[setK]
  |cons a es g=>grind [setK]
 induction l with
 |nil=>grind [putN]
 |cons a l g =>
  grind [setK,putN,zG]
mutual
theorem VF:∀ n:Nd,((preN n).length:Int)=cntT n
 | .mk op nm i ks p=>by simp only[preN,cntT,zG];have:=qdZ ks;omega
theorem qdZ:∀ ks:List Nd,((zD ks).length:Int)=jr ks
 | []=>rfl
 |k :: ks=>by simp only[zD,jr,zd];have:=VF k;have:=qdZ ks;omega
end
end
theorem Wz{ts}(h:okTS ts)(g:∀ p,p∈ts.sT->qT p.body=true){n}(i:qT n=true):qo ts (yX ts n)<=200000:=by
 have j:∀(l:List Pd)(U:List (tP×Bool)),(∀ p,p∈l->qT p.body=true)->(l.foldl (fun U p=>putN U (preN p.body)) U).length<=U.length+400*l.length:=by
  intro l;induction l with
  |nil=>intro U _;simp
  |cons a l o =>
   grind [putN,preN,q8,qdY,VF,uI,zg]
 have r:=j ts.sT (putN [] (preN n)) g;have t:=qdY (preN n) [];have C:=VF n;have I:=(uI.1 i).2.2.1;have:=h.np;have:=h.nf;have:=h.ns
 grind [qo,yX,List.length_nil]
theorem qq9{ts}(h:okTS ts)(hb:∀ p,p∈ts.sT->qT p.body=true)(hk:yZ ts=[]){n x}(P:qT n=true)(hc:(yf ts [] n).1=0)(o:anyN (fun n=>decide (n.op=47)) n=true)(l:zf ts n=(x,0)) :
  qT x=true/\anyN (fun n=>decide (n.op=47)) x=false/\yf ts [] x=(0,0)/\zf ts x=(x,0):=by
 have R:=vV P;have T:=(uI.1 P).2.1;have hF:=Wz h hb P;obtain⟨t1,t2⟩:=qdX ts n;generalize a0:yX ts n=U at *
 have hP:ZI ts U:=fun i l=>by
  have hm:=qs l;obtain⟨a,b⟩:=Js (kP hk i l)
  grind [vV,uI]
 unfold zf at l;rw[if_neg (zUs hc),if_neg (by simp[o]),a0]at l;unfold outI at l;split at l
 .rename_i d hd
  exfalso;have h1:=Wn hd
  grind
 .rename_i j g
  have e:j=x:=congrArg Prod.fst l;subst e;split at g
  .cases g
  .rename_i n2 z a1 I
   split at g
   .rename_i hz
    cases g;obtain⟨a2,ko,t⟩:=Js (c:=mkCk ts ts.sT.length) (env:=[]) hc;have a3:StOk (qo ts U) ⟨0,0⟩:=⟨zSp,zSp,zSp,by simp[pot]⟩;have out:=Jr ts h U hP hF (Wo ts U) 4001 [] n false ⟨0,0⟩ j z a1 [] [] false ts.sT.length ko (qr _) R t1 T (fun v J=>absurd J qG) a3 .nil
     ⟨fun v J=>absurd J qG,fun v _=>trivial,fun _ v iv e=>by cases e⟩ I t
    obtain⟨a6,a7⟩:=Jo ts (fun p hp=>vV (hb p hp)) U 4001 (env:=[]) (fun e I=>absurd I qG) R I;have J:qT j=true:=uI.2 ⟨out.good.wf,fun x t=>(out.good.all x t).own,zOm,hz.2⟩;have a8:anyN (fun n=>decide (n.op=47)) j=false:=by
     rw[Vw _ (szN j) j (qr _),List.any_eq_false];intro x t;have:=(out.good.all x t).nc
     grind
    have a5:kd j.op=102:=by rw[out.kd];exact qdI R a2
    have C:30<=j.op:=by
     grind [kd]
    obtain⟨a4,r,_⟩:=out.ex;have a9:yf ts [] j=(0,0):=by
     unfold yf jO;rw[if_pos C];have r:exam (mkCk ts ts.sT.length) (zW []) false j = .ok a4:=r;rw[r];rfl
    simp_all[zf,if_neg,if_pos]
   .cases g
end PF
namespace EH
open P1 P2 Y1 Y9 Y16 YZ YB YC YE YG Q4 Q6 PE E3 E5 EB ED EG PF
theorem Den.ext{a b:Den}(g:a.E=b.E)(i:a.N=b.N)(j:a.F=b.F):a=b:=by cases a;simp_all
abbrev rho0:Th:=fun _=>none
theorem qd0(x):∀(F:Nat)(n),depN n<=F->(∀ y,y∈preN n->y.op≠47)->cD x F rho0 n=den x n
 | 0,n,i,_=>by
  rw[wQ]at i;have:=Vu n.sD;omega
 | F+1,n,i,j=>by
  have h47:=j n (vr n);by_cases g:n.op=1
  .have e:cD x (F+1) rho0 n=⟨namC x rho0 n.name,fun _ => .error 43,fun _ => .error 43⟩:=by rw[cD,if_pos g]
   have l:kd n.op=101:=by rw[g];rfl
   rw[e];refine Den.ext (funext fun p=>?_) (funext fun p=>(Ww x l p).symm) (funext fun p=>(Wx x l p).symm);rw[kJ x g];rfl
  .have e:cD x (F+1) rho0 n=opD x n.op n.name n.n (n.sD.map (cD x F rho0)):=by rw[cD,if_neg g,if_neg h47]
   rw[e,vT];congr 1;refine List.map_congr_left fun k o=>qd0 x F k ?_ fun y r=>j y (We o r)
   rw[wQ]at i;have:=K8 o;omega
theorem qd1(x)(h:okTS x.ts)(hb:∀ p,p∈x.ts.sT->qT p.body=true)(hk:yZ x.ts=[]){n n'}(o:qT n=true)(j:zf x.ts n=(n',0))(F)(r:4001<=F)(q):uF (cD x F rho0 n) (den x n') ⟨q,[]⟩ ⟨q,[]⟩:=by
 have hw:=vV o;have t:=uI.1 o;have hF:=Wz h hb o;obtain⟨t1,t2⟩:=qdX x.ts n;generalize C:yX x.ts n=U at *
 have hP:ZI x.ts U:=fun i j=>by
  have hm:=qs j;obtain⟨a,b⟩:=Js (kP hk i j)
  grind [vV,uI]
 unfold zf at j;by_cases R:(yf x.ts [] n).1=0
 case neg =>
  grind
 rw[if_neg (zUs R)]at j;cases g:anyN (fun n=>decide (n.op=47)) n with
 |false =>
  rw[if_pos g]at j;have e:n=n':=congrArg Prod.fst j;subst e;rw[qd0 x F n zOm (fun y hy=>by
   rw[Vw _ (szN n) n (qr _),List.any_eq_false]at g
   grind)]
  exact⟨rfl,rfl,rfl⟩
 |true =>
  rw[if_neg (by simp[g]),C]at j;unfold outI at j;split at j
  .rename_i d hd
   exfalso;have h1:=Wn hd
   grind
  .rename_i T l
   have e:T=n':=congrArg Prod.fst j;subst e;split at l
   .cases l
   .rename_i n3 z I he
    split at l
    .rename_i hz
     cases l;obtain⟨a0,ko,hx⟩:=Js (c:=mkCk x.ts x.ts.sT.length) (env:=[]) R;have J:StOk (qo x.ts U) ⟨0,0⟩:=⟨zSp,zSp,zSp,by simp[pot]⟩;exact qdM x h U hP hF (Wo x.ts U) 4001 [] n false ⟨0,0⟩ T z I [] [] false x.ts.sT.length ko rho0 [] [] F (qr _) hw t1 t.2.1 (fun v P=>absurd P qG) J .nil
      ⟨fun v P=>absurd P qG,fun v _=>trivial,fun _ v iv e=>by cases e⟩ ⟨fun v _=>⟨rfl,rfl⟩,fun v _=>rfl⟩ r he hx q
    .cases l
def js(x:Mo):List Nd->XE Bool
 | [] => .ok true
 |b :: l=>if (zf x.ts b).2=0 then bX ((den x (zf x.ts b).1).F ⟨0,[]⟩) fun v=>bX (js x l) fun r => .ok (v&&r) else .error (zf x.ts b).2
theorem qd2(x):∀ a b,js x (a++b)=bX (js x a) fun r=>bX (js x b) fun s => .ok (r&&s)
 | [],b=>by
  rw[List.nil_append,js,zr];cases js x b with
  |error e=>rfl
  |ok s=>simp[zr]
 |n :: a,b=>by
  rw[List.cons_append,js,js];by_cases h:(zf x.ts n).2=0
  .simp_all [if_pos,qd2,qkE,zr,Bool.and_assoc]
  .rw [if_neg h,if_neg h];rfl
theorem qrA(x n):js x [n]=if (zf x.ts n).2=0 then (den x (zf x.ts n).1).F ⟨0,[]⟩ else .error (zf x.ts n).2:=by
 rw[js];split
 .rw [js]
  cases (den x (zf x.ts n).1).F ⟨0,[]⟩ with
  |error e=>rfl
  |ok v=>simp[zr]
 .rfl
end EH
namespace FJ
open Y1 Y9 E3
section
variable {I:Type}{ds:List Den}
def NZ(q:XE I):Prop:=∀ e,q = .error e->e≠0
theorem zy(a):NZ (.ok a:XE I):=fun e h=>by cases h
theorem vt{e}(h:e≠0):NZ (.error e:XE I):=fun i g=>by cases g;exact h
theorem zm{i q}{g:I->XE i}(h:NZ q)(k:∀ a,NZ (g a)):NZ (bX q g):=by
 cases q with
 |error e=>exact vt (h e rfl)
 |ok a=>exact k a
theorem VG{i}{g:I->XE i}:∀{l},(∀ a,a∈l->NZ (g a))->NZ (mapX g l)
 | [],_=>zy _
 |a :: l,h=>zm (h a zSp) fun b=>zm (VG fun y j=>h y (zP1 j)) fun r=>zy _
theorem qd3{g h}(i:∀ s,NZ (g s))(j:∀ s,NZ (h s)):∀ l d q,NZ (untX g h l d q)
 | [],d,q=>zy _
 |s :: l,d,q=>zm (i s) fun a=>zm (j s) fun b=>qd3 i j l _ _
theorem zz{c}[Decidable c]{a b:XE I}(g:NZ a)(i:NZ b):NZ (if c then a else b):=by split<;>assumption
structure NZD (d:Den):Prop where
 E:∀ p,NZ (d.E p)
 N:∀ p,NZ (d.N p)
 F:∀ p,NZ (d.F p)
theorem qrB(x p nm):NZ (vS x p nm):=by
 unfold vS;split
 .exact zy _
 .unfold Z7
  split
  .exact vt zDe
  .exact zy _
  .exact vt zDe
theorem Jt(g:∀ j,NZD (kD ds j))(p):NZ (yn ds p):=zm ((g 0).E p) fun a=>zm ((g 1).E p) fun b=>zz (zy _) (vt zDe)
theorem kR(g:∀ j,NZD (kD ds j))(p):NZ (binE ds p):=zm ((g 0).E p) fun a=>zz (zy _) (vt zDe)
theorem kS(g:∀ j,NZD (kD ds j))(nm p):NZ (jk ds nm p):=zm ((g 0).E p) fun a=>zz (VG fun y _=>zm ((g 1).F _) fun b=>zy _) (vt zDe)
theorem op_nz(x op nm i ds)(g:∀ j,NZD (kD ds j))(o:∀ d,d∈ds->NZD d):NZD (opD x op nm i ds):=by
 refine⟨fun p=>?_,fun p=>?_,fun p=>?_⟩
 .show NZ (opE x op nm i ds p)
  unfold opE;refine zz (qrB x p nm) ?_;refine zz (zy _) ?_;refine zz (zy _) ?_;refine zz (zy _) ?_;refine zz ((g 0).E _) ?_;refine zz (zm (Jt g p) fun _=>zy _) ?_;refine zz (zm (Jt g p) fun _=>zy _) ?_;refine zz (zm (Jt g p) fun _=>zy _) ?_;refine zz (zm ((g 0).E p) fun _=>zm ((g 1).E p) fun _=>zz (zy _) (vt zDe)) ?_;refine zz (zm ((g 0).E p) fun _=>zm ((g 1).E p) fun _=>zz (zy _) (vt zDe)) ?_;refine zz (zm (kR g p) fun _=>zy _) ?_;refine zz (zm (kR g p) fun _=>zy _) ?_;refine zz (zm (kR g p) fun _=>zy _) ?_;refine zz (zm (Jt g p) fun _=>zy _) ?_;refine zz (zm (kS g nm p) fun _=>zy _) ?_;exact vt zDe
 .show NZ (opN op i ds p)
  unfold opN;refine zz (zy _) ?_;refine zz (zm ((g 0).E p) fun _=>zy _) ?_;refine zz (zm ((g 0).N p) fun _=>zm ((g 1).N p) fun _=>zy _) ?_;refine zz (zm ((g 0).N p) fun _=>zm ((g 1).N p) fun _=>zy _) ?_;exact vt zDe
 .show NZ (opF x op nm ds p)
  unfold opF;refine zz (zy _) ?_;refine zz (zy _) ?_;refine zz (zm (Jt g p) fun _=>zy _) ?_;refine zz (zm (Jt g p) fun _=>zy _) ?_;refine zz (zm ((g 0).E p) fun _=>zy _) ?_;refine zz (zm ((g 0).E p) fun _=>zy _) ?_;refine zz (zm ((g 0).E p) fun _=>zy _) ?_;refine zz (zm ((g 0).E p) fun _=>zy _) ?_;refine zz (zm ((g 0).N p) fun _=>zm ((g 1).N p) fun _=>zy _) ?_;refine zz (zm ((g 0).N p) fun _=>zm ((g 1).N p) fun _=>zy _) ?_;refine zz (zm ((g 0).F p) fun _=>zy _) ?_;refine zz (zm ((g 0).F p) fun _=>zm ((g 1).F p) fun _=>zy _) ?_;refine zz (zm ((g 0).F p) fun _=>zm ((g 1).F p) fun _=>zy _) ?_;refine zz (zm ((g 0).F p) fun _=>zm ((g 1).F p) fun _=>zy _) ?_;refine zz (zm ((g 0).F p) fun _=>zm ((g 1).F p) fun _=>zy _) ?_;refine zz (zm (kS g nm p) fun _=>zy _) ?_;refine zz (zm (kS g nm p) fun _=>zy _) ?_;refine zz (zm (VG fun d l=>(o d l).E p) fun _=>vt zDe) ?_;refine zz (zm (VG fun s _=>(g 0).F _) fun _=>zy _) ?_;refine zz (zm (VG fun s _=>(g 0).F _) fun _=>zy _) ?_;refine zz ((g 0).F _) ?_;refine zz (qd3 (fun s=>(g 0).F _) (fun s=>(g 1).F _) _ _ _) ?_;exact vt zDe
theorem qrC:NZD noD:=⟨fun _=>vt zDe,fun _=>vt zDe,fun _=>vt zDe⟩
theorem qd4(x):∀ m n,szN n<=m->NZD (den x n)
 | 0,n,o=>by obtain⟨op,nm,i,ks,p⟩:=n;simp[szN]at o
 |m+1,n,o=>by
  rw[vT];have r:∀ k,k∈n.sD->NZD (den x k):=fun k g=>qd4 x m k (zW1 (yu g))
  refine op_nz x _ _ _ _ (fun j=>?_) fun d t=>?_
  .unfold kD
   by_cases l:j<n.sD.length
   .have:(n.sD.map (den x)).getD j noD=den x n.sD[j]:=by simp[List.getD,l]
    rw[this];exact r _ (qs l)
   .have:(n.sD.map (den x)).getD j noD=noD:=by simp[List.getD,l]
    rw[this];exact qrC
  .obtain ⟨k,g,rfl⟩:=qn.1 t
   exact r k g
end
end FJ
namespace IA
open Y1 Y9 Y16 YG P1 Q4 E3 EH FC FJ
theorem qd5(x n p):NZ ((den x n).F p):=(qd4 x _ n (qr _)).F p
theorem kT(x):∀ l,NZ (js x l)
 | []=>zy _
 |b :: l=>by
  rw[js];split
  .exact zm (qd5 x _ _) fun v=>zm (kT x l) fun r=>zy _
  .rename_i h;exact vt h
theorem qrD(v):fmV (.ok v)=(v,0):=rfl
theorem qrE(e):fmV (.error e)=(false,e):=rfl
theorem qd6(x):∀ l a,u6 (zf x.ts) x l a=fmV (bX (js x l) fun r => .ok (a&&r))
 | [],a=>by simp[u6,js,bX,fmV]
 |b :: l,a=>by
  have g:=qd5 x (zf x.ts b).1 ⟨0,[]⟩;rw[u6,js];by_cases h:(zf x.ts b).2=0
  .rw [if_neg (zUs h),if_pos h]
   cases i:(den x (zf x.ts b).1).F ⟨0,[]⟩ with
   |error e =>
    rw[i]at g;rw[qrE,if_pos (g e rfl)];rfl
   |ok v =>
    rw[qrD,if_neg zSp,qd6 x l,zr];cases js x l with
    |error e=>rfl
    |ok r=>simp[zr,Bool.and_assoc]
  .rw [if_pos h,if_neg h];rfl
def hV(x:Mo)(n:Nd):Bool×Int:=u6 (zf x.ts) x (x.ts.sP.map Prod.snd++[n]) true
def fX(x:Mo):XE Bool:=js x (x.ts.sP.map Prod.snd)
def gX(x:Mo)(n:Nd):XE Bool:=js x [n]
theorem kU(x n):hV x n=fmV (bX (fX x) fun r=>bX (gX x n) fun s => .ok (r&&s)):=by
 rw[hV,qd6,qd2];congr 1;rw[fX,gX];cases js x (x.ts.sP.map Prod.snd) with
 |error e=>rfl
 |ok r=>cases js x [n]<;>rfl
theorem hV_of{x n r s}(g:fX x = .ok r)(i:gX x n = .ok s):hV x n=(r&&s,0):=by rw[kU,g,i];rfl
theorem qd7{x n}(h:(hV x n).2=0):∃ r s,fX x = .ok r/\gX x n = .ok s/\(hV x n).1=(r&&s):=by
 rw[kU]at h⊢;have g:NZ (fX x):=kT x _;have i:NZ (gX x n):=kT x _;cases j:fX x with
 |error e=>rw[j]at h g;exact absurd h (g e rfl)
 |ok r =>
  cases l:gX x n with
  |error e=>rw[j,l]at h;rw[l]at i;exact absurd h (i e rfl)
  |ok s=>exact⟨r,s,rfl,rfl,rfl⟩
theorem kV(x n):gX x n=if (zf x.ts n).2=0 then (den x (zf x.ts n).1).F ⟨0,[]⟩ else .error (zf x.ts n).2:=qrA x n
theorem gX_ok{x n s}(h:gX x n = .ok s):zf x.ts n=((zf x.ts n).1,0)/\(den x (zf x.ts n).1).F ⟨0,[]⟩ = .ok s:=by
 rw[kV]at h;split at h
 .rename_i e;exact⟨Prod.ext rfl e,h⟩
 .cases h
structure OkSp (ts:TS):Prop where
 h:okTS ts
 hb:∀ p,p∈ts.sT->qT p.body=true
 hk:yZ ts=[]
end IA
namespace QC
end QC
namespace QD
open YF P1 Y1 Y2
section
variable {nm:tP}{x:tP×Bool}{c:List AV}{i:Nat}
def atF(a:Int):List Int->Int
 | []=>a
 |x :: l=>atF (qq.wrap (qq.wrap (4*a)+x)) l
def zs:List AV:=q9 64 (aB false)
def oneC(l:List Int):List AV:=aI l.length :: (if 0<=atF 0 l/\atF 0 l<64 then zs.set (atF 0 l).toNat (aB true) else zs)
structure SetC (c:List AV):Prop where
 len:c.length=65
 sc:∀ x,x∈c->x.one=true/\HF x
theorem SetC.one(h:SetC c):∀ x,x∈c->x.one=true:=fun x g=>(h.sc x g).1
theorem SetC.hf(h:SetC c):HF (.agg c):=HF.agg fun x g=>(h.sc x g).2
theorem SetC.take(h:SetC c):List.take 65 c=c:=z6 (by rw[h.len];omega)
theorem SetC.put{d}(h:SetC c)(g:SetC d):putCells c 0 d=d:=by
 rw[jg _ _ _ (by rw[h.len,g.len];omega)];simp[h.len,g.len,List.drop_of_length_le]
theorem SetC.zero:SetC (aI 0 :: zs):=⟨rfl,fun x g=>by
 rcases qy.1 g with rfl|g
 .exact ⟨rfl,HF.sc _⟩
 .rw [List.eq_of_mem_replicate g];exact⟨rfl,HF.sc _⟩⟩
theorem SetC.oneC(l):SetC (oneC l):=by
 have i:∀ x:AV,x∈zs->x.one=true/\HF x:=fun x g=>by rw[List.eq_of_mem_replicate g];exact⟨rfl,HF.sc _⟩
 unfold QD.oneC;split
 .refine ⟨by simp[zs],fun x g=>?_⟩
  rcases qy.1 g with rfl|g
  .exact ⟨rfl,HF.sc _⟩
  .rcases List.mem_or_eq_of_mem_set g with h|rfl
   .exact i x h
   .exact ⟨rfl,HF.sc _⟩
 .refine ⟨by simp[zs],fun x g=>?_⟩
  rcases qy.1 g with rfl|g
  .exact ⟨rfl,HF.sc _⟩
  .exact i x g
theorem oneU(l)(hl:l.length<=140737488351232):qi qe 149 [lI l] (.agg (oneC l)):=by
 have g:=SetC.oneC l;generalize C:oneC l=R at *
 unfold oneC at C;refine qSU call149 func149 rfl ?_;have i:zs.length=64:=rfl;refine aK l.length (fun k T=>∃ a:Int,T.tm 0=lI l/\T.tm 2 = .ptr 0 0/\T.tm 3 = .ptr 1 0/\T.tm 4=aI a/\T.tm 5=aI k/\T.mu=[.arr (aI 0 :: zs),.arr (aI l.length :: zs)]/\atF a (l.drop k)=atF 0 l) ?_ ?_
 .exact ⟨0,zSi,zSi,zSi,zSi,zSi,by simp[go_sem,zs,q9],rfl⟩
 rintro k T hk ⟨a,I,r,e3,e4,e5,hm,hI⟩;by_cases J:k<l.length
 .have w1:=zWk k
  rw[zu J]at hI;simp[go_sem,I,e4,e5,hm,J,w1];exact aA ⟨_,zS1 I,zS1 r,zS1 e3,zSi,zSi,zSi,hI⟩
 have a0:k=l.length:=zOm;subst a0;rw[yd]at hI;have ha:a=atF 0 l:=hI;rw[<-ha]at C;have z1:∀ x:AV,(x :: zs).length=65:=fun x=>rfl
 have o:∀ x:AV,x∈zs->x.one=true:=fun x hx=>by rw[List.eq_of_mem_replicate hx];rfl
 have tk:List.take 64 zs=zs:=rfl;have pc:∀(x y:AV)(Z:List AV),Z.length=64->putCells (x :: zs) 0 (y :: Z)=y :: Z:=fun x y Z hZ=>by
  grind [jg,List.drop_of_length_le]
 by_cases h0:0<=a
 .obtain ⟨j,rfl⟩:∃ j:Nat,a=j:=⟨a.toNat,zOm⟩
  by_cases t:(j:Int)<64
  .have hj:1+j<=64:=by omega
   have a1:∀ x:AV,(x :: zs).set (1+j) (AV.sc (Value.bool true))=x :: zs.set j (AV.sc (Value.bool true)):=fun x=>by rw[Nat.add_comm];rfl
   have sl:(zs.set j (AV.sc (Value.bool true))).length=64:=zP1 i;have P:∀ x:AV,x∈zs.set j (AV.sc (Value.bool true))->x.one=true:=fun x hx=>by
    rcases List.mem_or_eq_of_mem_set hx with h|rfl
    .exact o x h
    .rfl
   have U:List.take 64 (zs.set j (AV.sc (Value.bool true)))=zs.set j (AV.sc (Value.bool true)):=z6 zOm;have p:R=aI l.length :: zs.set j (AV.sc (Value.bool true)):=by rw[<-C,if_pos ⟨h0,t⟩];rfl
   generalize zs.set j (AV.sc (Value.bool true))=Z at *
   simp[go_sem,I,r,e3,e4,e5,hm,h0,t,i,hj,a1,sl,U,pc _ _ _ sl];rw[if_pos P];simp[go_sem,r,sl,U];rw[p]at g⊢;exact .hf _ g.hf
  .simp [go_sem,I,r,e3,e4,e5,hm,h0,t,i,tk,pc _ _ _ i]
   rw[if_pos o];simp[go_sem,r,i,tk];have p:R=aI l.length :: zs:=by rw[<-C,zIn]
   rw[p]at g⊢;exact .hf _ g.hf
 .simp [go_sem,I,r,e3,e4,e5,hm,h0,i,tk,pc _ _ _ i]
  rw[if_pos o];simp[go_sem,r,i,tk];have p:R=aI l.length :: zs:=by rw[<-C,zIn]
  rw[p]at g⊢;exact .hf _ g.hf
abbrev NS:=List AV×Nat
variable {s:NS}
def stF(nm:tP)(f:Fld)(s:NS):NS:=if f.name=nm then (oneC f.sS,s.2+1) else s
def nmF(nm:tP):List Fld->NS->NS
 | [],s=>s
 |f :: l,s=>nmF nm l (stF nm f s)
def st1(nm:tP)(i:Nat)(x:tP×Bool)(s:NS):NS:=if x.1=nm then (oneC [(i:Int)],s.2+1) else s
def st2(nm:tP)(i:Nat)(x:tP×Bool)(s:NS):NS:=if x.2=true/\x.1++jj=nm then (oneC [(i:Int)],s.2+1) else s
def st3(nm:tP)(i:Nat)(x:tP×Bool)(s:NS):NS:=if x.2=true/\x.1++vj=nm then (oneC [(i:Int),(i:Int)],s.2+1) else s
def nmS(nm:tP):Nat->List (tP×Bool)->NS->NS
 |_,[],s=>s
 |i,x :: l,s=>nmS nm (i+1) l (st3 nm i x (st2 nm i x (st1 nm i x s)))
def named(ts:TS)(nm:tP):NS:=nmS nm 0 ts.sS (nmF nm ts.sA (aI 0 :: zs,0))
theorem qrF{f}(h:SetC s.1):SetC (stF nm f s).1:=by
 grind [stF,SetC.oneC]
theorem qd8(h:SetC s.1):SetC (st1 nm i x s).1:=by
 grind [st1,SetC.oneC]
theorem qd9(h:SetC s.1):SetC (st2 nm i x s).1:=by
 grind [st2,SetC.oneC]
theorem qeA(h:SetC s.1):SetC (st3 nm i x s).1:=by
 grind [st3,SetC.oneC]
theorem st_le:(st3 nm i x (st2 nm i x (st1 nm i x s))).2<=s.2+3:=by
 have g:(st1 nm i x s).2<=s.2+1:=by grind [st1]
 have j:∀ s:NS,(st2 nm i x s).2<=s.2+1:=fun s=>by grind [st2]
 have l:∀ s:NS,(st3 nm i x s).2<=s.2+1:=fun s=>by grind [st3]
 grind
theorem qeB(nm):∀ l s,SetC s.1->SetC (nmF nm l s).1
 | [],_,h=>h
 |f :: l,s,h=>qeB nm l _ (qrF h)
theorem qeC(nm):∀ l i s,SetC s.1->SetC (nmS nm i l s).1
 | [],_,_,h=>h
 |x :: l,i,s,h=>qeC nm l _ _ (qeA (qd9 (qd8 h)))
theorem kW(ts nm):SetC (named ts nm).1:=qeC nm _ _ _ (qeB nm _ _ SetC.zero)
theorem wk1(i):WK (.lst true [rI i]) (lI [i]):=WK.lst fun r g c j=>by
 grind [qV,HF.sc]
theorem wk2(i j):WK (.lst true [rI i,rI j]) (lI [i,j]):=WK.lst fun r g c l=>by
 rcases qy.1 g with rfl|g
 .grind [qV,HF.sc]
 grind [qV,HF.sc]
structure okNm (ts:TS):Prop where
 so:∀ x,x∈ts.sS->x.1.size<=4611686018427387904
 nso:ts.sS.length<=140737488351232
 nf:ts.sA.length<=140737488351232
 fl:∀ f,f∈ts.sA->f.sS.length<=140737488351232
theorem kX(ts)(ha:okNm ts)(nm):qi qe 152 [eTS ts,aS nm] (.tup [.agg (named ts nm).1,aI (named ts nm).2]):=by
  generalize hR:named ts nm=R;unfold named at hR;refine qSV call152 func152 rfl ?_;have ar:=ha.nf;have au:zs.length=64:=rfl;have av:=ha.nso;simp[go_sem];refine aK ts.sA.length (fun i T=>∃ s:NS,T.tm 1=aS nm/\T.tm 2 = .ip (cTS ts)/\T.tm 4 = .ptr 0 0/\T.tm 6 = .ptr 1 0/\T.tm 7=aI s.2/\T.tm 8=aI i/\T.mu=[.arr (aI 0 :: zs),.arr s.1]/\SetC s.1/\s.2<=i/\nmS nm 0 ts.sS (nmF nm (ts.sA.drop i) s)=R) ?_ ?_
  · exact⟨(aI 0 :: zs,0),zSi,zSi,zSi,zSi,zSi,zSi,by simp[go_sem,zs,q9],SetC.zero,zSp,zUs hR⟩
  clear hR;rintro i T hi ⟨⟨c,k⟩,J,t,e4,P,U,e8,hm,j,hk,r⟩;have hk:k<=i:=hk;have j:SetC c:=j;by_cases g:i<ts.sA.length
  · have w1:=zWk i
    have w2:=zWk k;rw[zu g]at r;have ho:=oneU ts.sA[i].sS (ha.fl _ (qs g));have C:=SetC.oneC ts.sA[i].sS;by_cases hq:ts.sA[i].name=nm
    · simp[go_sem,J,t,e8,hm,g,hq]
      refine tS ho (.zk (zh _) .nil) ?_;simp[go_sem,P,C.len,j.len,j.put C];rw[if_pos C.one];simp[go_sem,U,e8,g,w1,w2];exact aA ⟨(oneC ts.sA[i].sS,k+1),zS1 J,zS1 t,zS1 e4,zS1 P,zSi,zSi,zSi,C,zOm,by grind [nmF,stF]⟩
    · simp[go_sem,J,t,e8,hm,g,j0 hq,w1]
      exact aA ⟨(c,k),zS1 J,zS1 t,zS1 e4,zS1 P,zS1 U,zSi,zSi,j,zOm,by grind [nmF,stF]⟩
  have a0:i=ts.sA.length:=zOm;subst a0;rw[yd]at r;simp only[nmF]at r;simp[go_sem,t,e8,hm];refine aK ts.sS.length (fun i T=>∃ s:NS,T.tm 1=aS nm/\T.tm 2 = .ip (cTS ts)/\T.tm 4 = .ptr 0 0/\T.tm 6 = .ptr 1 0/\T.tm 7=aI s.2/\T.tm 9=aI i/\T.mu=[.arr (aI 0 :: zs),.arr s.1]/\SetC s.1/\s.2<=ts.sA.length+3*i/\nmS nm i (ts.sS.drop i) s=R) ?_ ?_
  · simp[go_sem, *]
  clear J t e4 P U e8 hm j hk r g;rintro i T hi ⟨⟨c,k⟩,J,t,e4,P,U,e9,hm,j,hk,r⟩;have hk:k<=ts.sA.length+3*i:=hk;have j:SetC c:=j;by_cases g:i<ts.sS.length
  · have w1:=zWk i
    have w2:=zWk k;have w3:qq.wrap ((k:Int)+1+1)=(k:Int)+1+1:=zWr;have w4:qq.wrap ((k:Int)+1+1+1)=(k:Int)+1+1+1:=zWr;rw[zu g]at r;simp only[nmS]at r;have af:=oneU [(i:Int)] zSp;have ag:=oneU [(i:Int),(i:Int)] zSp;have p:=SetC.oneC [(i:Int)];have I:=SetC.oneC [(i:Int),(i:Int)];have ah:=j.put p;have ai:=j.put I;have aj:=p.put p;have ak:=p.put I;have l1:=p.len;have l2:=I.len;have l0:=j.len;have aw:=st_le (nm:=nm) (i:=i) (x:=ts.sS[i]) (s:=(c,k));have al:=qeA (nm:=nm) (i:=i) (x:=ts.sS[i]) (qd9 (nm:=nm) (i:=i) (x:=ts.sS[i]) (qd8 (nm:=nm) (i:=i) (x:=ts.sS[i]) (s:=(c,k)) j));have a8:=ha.so _ (qs g);have a8:ts.sS[i].1.size<=4611686018427387904:=a8;generalize a9:ts.sS[i]=so at *
    obtain⟨o,sb⟩:=so;have aa:o.size<=9223372036854775801:=by grind
    have ab:o.size<=9223372036854775802:=zOm;generalize hN:st3 nm i (o,sb) (st2 nm i (o,sb) (st1 nm i (o,sb) (c,k)))=N at *
    have an:(o++jj=nm)=(o++(⟨#[95,102,105,114,115,116]⟩:tP)=nm):=rfl;have ao:(o++vj=nm)=(o++(⟨#[95,110,101,120,116]⟩:tP)=nm):=rfl;simp only[st1,st2,st3,an,ao]at hN;obtain⟨d1,aq⟩:∃ d,decide (o=nm)=d:=⟨_,rfl⟩;obtain⟨d2,ad⟩:∃ d,decide (o++(⟨#[95,102,105,114,115,116]⟩:tP)=nm)=d:=⟨_,rfl⟩;obtain⟨d3,ae⟩:∃ d,decide (o++(⟨#[95,110,101,120,116]⟩:tP)=nm)=d:=⟨_,rfl⟩;have p1:(o=nm)=(d1=true):=by grind
    have p2:(o++(⟨#[95,102,105,114,115,116]⟩:tP)=nm)=(d2=true):=by grind
    have p3:(o++(⟨#[95,110,101,120,116]⟩:tP)=nm)=(d3=true):=by grind
    simp only[p1,p2,p3]at hN;have done:∀ l:St,l.tm 1=aS nm->l.tm 2 = .ip (cTS ts)->l.tm 4 = .ptr 0 0->l.tm 6 = .ptr 1 0->l.tm 7=aI N.2->l.tm 9=aI (i+1:Nat)->l.mu=[.arr (aI 0 :: zs),.arr N.1] ->
        Keep (fun T=>∃ s:NS,T.tm 1=aS nm/\T.tm 2 = .ip (cTS ts)/\T.tm 4 = .ptr 0 0/\T.tm 6 = .ptr 1 0/\T.tm 7=aI s.2/\T.tm 9=aI (i+1:Nat)/\T.mu=[.arr (aI 0 :: zs),.arr s.1]/\SetC s.1/\s.2<=ts.sA.length+3*(i+1)/\nmS nm (i+1) (ts.sS.drop (i+1)) s=R) .mk l:=
      fun l a1 a2 a3 a4 a5 a6 a7=>aA ⟨N,a1,a2,a3,a4,a5,a6,a7,al,zOm,r⟩
    cases d1<;>cases d2<;>cases d3<;>cases sb
    all_goals simp only[if_true,if_false,and_false,and_true,reduceCtorEq]at hN
    all_goals simp[go_sem,Y10.wL,J,t,e9,hm,g,a9,aq,ad,ae,w1,aa,ab]
    all_goals repeat' (first
      | (refine tS af (.cons (wk1 _) .nil) ?_
         simp[go_sem,P,ah,aj,l0,l1];rw[if_pos p.one];simp[go_sem,Y10.wL,J,t,U,e9,g,a9,ad,ae,w1,w2,w3,aa,ab])
      | (refine tS ag (.cons (wk2 _ _) .nil) ?_
         simp[go_sem,P,ai,ak,l0,l1,l2];rw[if_pos I.one];simp[go_sem,U,e9,g,w1,w2,w3,w4]))
    all_goals try subst hN
    all_goals simp_all[go_sem]
  have a0:i=ts.sS.length:=zOm;subst a0;rw[yd]at r;simp only[nmS]at r;subst r;simp[go_sem,t,e4,P,U,e9,hm,j.len,j.take,SetC.zero.put j,SetC.zero.len];rw[if_pos j.one];simp[go_sem,e4,j.len,j.take];refine .hf _ (HF.tup fun x hx=>?_);rcases qy.1 hx with rfl|hx
  · exact j.hf
  grind [qV,HF.sc]
end
end QD
namespace QE
open Y6 QD
abbrev RS:=Int×(Nat->Bool)
def hB(g:Nat->Bool):List AV:=(qu 64).map fun i=>aB (g i)
abbrev cRS(s:RS):List AV:=aI s.1 :: hB s.2
abbrev eRS(s:RS):AV := .agg (cRS s)
theorem qw(g):(hB g).length=64:=by simp[hB]
theorem qeD(g i v):(hB g).set i (aB v)=hB fun j=>if j=i then v else g j:=by
 refine List.ext_getElem (by simp[hB]) fun j l o=>?_
 rw[List.getElem_set];simp only[hB,List.getElem_map,List.getElem_range];by_cases h:i=j
 .rw [if_pos h,if_pos h.symm]
 .rw [if_neg h,if_neg (fun e=>h e.symm)]
theorem qrG(g i)(h:i<64):(hB g)[i]?=some (aB (g i)):=by
 simp[hB,h]
theorem wh{g i}(h:∀ j,j<64->g j=i j):hB g=hB i:=by
 refine List.map_congr_left fun j l=>?_
 rw[h j (yi.1 l)]
theorem setC(s):SetC (cRS s):=⟨by simp[hB],fun x g=>by
 rcases qy.1 g with rfl|g
 .exact ⟨rfl,HF.sc _⟩
 .obtain ⟨j,_,rfl⟩:=qn.1 g
  exact⟨rfl,HF.sc _⟩⟩
theorem yO(s):HF (eRS s):=(setC s).hf
theorem qeE:hB (fun _=>false)=zs:=rfl
def oneS(l:List Int):RS:=(l.length,fun j=>decide ((j:Int)=atF 0 l))
theorem kY(l):oneC l=cRS (oneS l):=by
 unfold oneC oneS;simp only[cRS];split
 .rename_i h
  have e:aB true=aB true:=rfl;rw[<-qeE,qeD];congr 1;refine wh fun j i=>?_
  by_cases g:j=(atF 0 l).toNat
  .rw [if_pos g];exact(decide_eq_true zOm).symm
  .rw [if_neg g];exact(decide_eq_false zOm).symm
 .rename_i h
  rw[<-qeE];congr 1;refine wh fun j i=>?_
  exact(decide_eq_false zOm).symm
def szA(k:Int):Nat:=if k<1 then 1 else if k=1 then 4 else if k=2 then 16 else 64
theorem VH(k):szA k<=64/\1<=szA k:=by unfold szA;split<;>(try split)<;>(try split)<;>omega
theorem Yh(k):qi qe 224 [aI k] (aI (szA k)):=by
 refine qSV call224 func224 rfl ?_;unfold szA;by_cases g:k<1
 .simp [go_sem,g];exact .zsc _
 by_cases i:k=1
 .simp [go_sem,i];exact .zsc _
 by_cases j:k=2
 .simp [go_sem,j];exact .zsc _
 simp[go_sem,g,i,j];exact .zsc _
def uniS(a b:RS):RS:=(a.1,fun j=>a.2 j||b.2 j)
def intS(a b:RS):RS:=(a.1,fun j=>a.2 j&&b.2 j)
theorem g1(x g i)(h:i<64):(x :: hB g)[1+i]?=some (aB (g i)):=by
 rw[Nat.add_comm,v6,qrG g i h]
theorem d1(x g i)(h:i<64):List.take 1 (List.drop (1+i) (x :: hB g))=[aB (g i)]:=by
 rw[Nat.add_comm,List.drop_succ_cons,zu (by rw[qw];exact h)];simp[hB]
theorem d0(g i)(h:i<64):List.take 1 (List.drop i (hB g))=[aB (g i)]:=by
 rw[zu (by rw[qw];exact h)];simp[hB]
theorem s1(x g i v):(x :: hB g).set (1+i) (aB v)=x :: hB fun j=>if j=i then v else g j:=by
 rw[Nat.add_comm,List.set_cons_succ,qeD]
theorem zj(g):∀ x,x∈hB g->x.one=true:=fun x i=>by
 obtain⟨j,_,rfl⟩:=qn.1 i;rfl
theorem tk(g):List.take 64 (hB g)=hB g:=z6 (by rw[qw];exact qr _)
theorem pc(x y g i):putCells (x :: hB g) 0 (y :: hB i)=y :: hB i:=by
 rw[jg _ _ _ (by simp[qw])];simp[qw,List.drop_of_length_le]
theorem vF(a b):qi qe 193 [eRS a,eRS b] (eRS (uniS a b)):=by
 refine qSQ call193 func193 rfl { mt:=[2] } ?_;simp[go_sem];refine⟨zj _,zj _,?_⟩;refine aK 64 (fun i T=>T.tm 2 = .ptr 0 0/\T.tm 3 = .ip (cRS b)/\T.tm 4 = .ptr 1 0/\T.tm 5=aI i/\T.mu=[.arr (aI a.1 :: hB (fun j=>if j<i then a.2 j||b.2 j else a.2 j)),.arr (aI 0 :: hB fun _=>false)]) ?_ ?_
 .exact ⟨zSi,zSi,zSi,zSi,by simp[go_sem];rfl⟩
 rintro i T hi ⟨p,I,C,J,P⟩;by_cases l:i<64
 .have o:(i:Int)<64:=by omega
  have r:1+i<=64:=zOm;have w1:=zWk i;generalize hG:(fun j=>if j<i then a.2 j||b.2 j else a.2 j)=G at *
  have R:G i=a.2 i:=by rw[<-hG];simp
  have g:∀ v:Bool,v=(a.2 i||b.2 i)->(aI a.1 :: hB G).set (1+i) (aB v)=aI a.1 :: hB (fun j=>if j<i+1 then a.2 j||b.2 j else a.2 j):=fun v hv=>by
   rw[s1];congr 2;funext j;rw[<-hG,hv];by_cases U:j=i
   .subst U;simp
   .by_cases h2:j<i
    .simp [U,h2,show j<i+1 by omega]
    .simp [U,h2,show ¬j<i+1 by omega]
  have t:=d1 (aI a.1) G i l;have m2:=d0 b.2 i l;have a0:1<=64-i:=zOm;rw[R]at t;cases ha:a.2 i with
  |true =>
   rw[ha]at t g;have hn:=g true zSp;simp[go_sem,p,J,P,l,o,r,qw,t,hn,w1];exact aA ⟨zS1 p,zS1 I,zS1 C,zSi,zSi⟩
  |false =>
   rw[ha]at t g;have hn:=g (b.2 i) zSp;simp[go_sem,p,I,J,P,l,o,r,a0,qw,t,m2,hn,w1];exact aA ⟨zS1 p,zS1 I,zS1 C,zSi,zSi⟩
 .have a1:i=64:=by omega
  subst a1;simp[go_sem,p,C,J,P,qw,tk,pc];rw[if_pos (zj _)];simp[go_sem,C,qw,tk];have e:(aI a.1 :: hB fun j=>if j<64 then a.2 j||b.2 j else a.2 j)=cRS (uniS a b):=by
   exact congrArg (aI a.1 :: ·) (wh fun j hj=>if_pos hj)
  rw[e];exact .hf _ (yO _)
theorem US(a b):qi qe 194 [eRS a,eRS b] (eRS (intS a b)):=by
 refine qSQ call194 func194 rfl { mt:=[2] } ?_;simp[go_sem];refine⟨zj _,zj _,?_⟩;refine aK 64 (fun i T=>T.tm 2 = .ptr 0 0/\T.tm 3 = .ip (cRS b)/\T.tm 4 = .ptr 1 0/\T.tm 5=aI i/\T.mu=[.arr (aI a.1 :: hB (fun j=>if j<i then a.2 j&&b.2 j else a.2 j)),.arr (aI 0 :: hB fun _=>false)]) ?_ ?_
 .exact ⟨zSi,zSi,zSi,zSi,by simp[go_sem];rfl⟩
 rintro i T hi ⟨p,I,C,J,P⟩;by_cases l:i<64
 .have o:(i:Int)<64:=by omega
  have r:1+i<=64:=zOm;have w1:=zWk i;generalize hG:(fun j=>if j<i then a.2 j&&b.2 j else a.2 j)=G at *
  have R:G i=a.2 i:=by rw[<-hG];simp
  have g:∀ v:Bool,v=(a.2 i&&b.2 i)->(aI a.1 :: hB G).set (1+i) (aB v)=aI a.1 :: hB (fun j=>if j<i+1 then a.2 j&&b.2 j else a.2 j):=fun v hv=>by
   rw[s1];congr 2;funext j;rw[<-hG,hv];by_cases U:j=i
   .subst U;simp
   .by_cases h2:j<i
    .simp [U,h2,show j<i+1 by omega]
    .simp [U,h2,show ¬j<i+1 by omega]
  have t:=d1 (aI a.1) G i l;have m2:=d0 b.2 i l;have a0:1<=64-i:=zOm;rw[R]at t;cases ha:a.2 i with
  |false =>
   rw[ha]at t g;have hn:=g false zSp;simp[go_sem,p,J,P,l,o,r,qw,t,hn,w1];exact aA ⟨zS1 p,zS1 I,zS1 C,zSi,zSi⟩
  |true =>
   rw[ha]at t g;have hn:=g (b.2 i) zSp;simp[go_sem,p,I,J,P,l,o,r,a0,qw,t,m2,hn,w1];exact aA ⟨zS1 p,zS1 I,zS1 C,zSi,zSi⟩
 .have a1:i=64:=by omega
  subst a1;simp[go_sem,p,C,J,P,qw,tk,pc];rw[if_pos (zj _)];simp[go_sem,C,qw,tk];have e:(aI a.1 :: hB fun j=>if j<64 then a.2 j&&b.2 j else a.2 j)=cRS (intS a b):=by
   exact congrArg (aI a.1 :: ·) (wh fun j hj=>if_pos hj)
  rw[e];exact .hf _ (yO _)
def trS(a:RS):RS:=(2,fun j=>decide (j<16)&&a.2 (j % 4*4+j / 4))
theorem qeF(a):qi qe 197 [eRS a] (eRS (trS a)):=by
 refine qSU call197 func197 rfl ?_;refine⟨zj _,?_⟩;refine aK 16 (fun i l=>l.tm 1 = .ip (cRS a)/\l.tm 2 = .ptr 0 0/\l.tm 3 = .ptr 1 0/\l.tm 4=aI i/\l.mu=[.arr (aI 0 :: hB fun _=>false),.arr (aI 2 :: hB (fun j=>decide (j<16/\j % 4*4+j / 4<i)&&a.2 (j % 4*4+j / 4)))]) ?_ ?_
 .exact ⟨zSi,zSi,zSi,zSi,by simp[go_sem];first|rfl|exact⟨rfl,rfl⟩⟩
 rintro i l hi ⟨U,p,r,e4,t⟩;by_cases C:i<16
 .have o:(i:Int)<16:=by omega
  have w1:=zWk i;obtain⟨q,hq⟩:∃ q:Nat,q=i % 4*4+i / 4:=⟨_,rfl⟩;have a0:q<16:=zOm;have w2:qq.wrap ((i:Int).tmod 4)=((i % 4:Nat):Int):=by
   rw[wq zOm];rw[zWr];omega
  have w3:qq.wrap (qq.wrap ((i:Int).tmod 4*4)+qq.wrap ((i:Int) / 4))=(q:Int):=by
   have x1:qq.wrap ((i:Int) % 4*4)=(i:Int) % 4*4:=zWr;have x2:qq.wrap ((i:Int) / 4)=(i:Int) / 4:=zWr;rw[wq zOm,x1,x2,zWr];omega
  generalize hG:(fun j=>decide (j<16/\j % 4*4+j / 4<i)&&a.2 (j % 4*4+j / 4))=G at *
  have g:(aI 2 :: hB G).set (1+q) (aB (a.2 i))=aI 2 :: hB (fun j=>decide (j<16/\j % 4*4+j / 4<i+1)&&a.2 (j % 4*4+j / 4)):=by
   rw[s1];refine congrArg (aI 2 :: ·) (wh fun j hj=>?_);rw[<-hG];by_cases I:j=q
   .have h2:j % 4*4+j / 4=i:=by omega
    rw[if_pos I,h2,decide_eq_true ⟨zOm,zOm⟩];rfl
   .have h2:¬(j<16/\j % 4*4+j / 4=i):=fun h=>I zOm
    rw[if_neg I];have h3:(j<16/\j % 4*4+j / 4<i+1)=(j<16/\j % 4*4+j / 4<i):=propext ⟨fun h=>⟨h.1,zOm⟩,fun h=>⟨h.1,zOm⟩⟩;rw[show decide (j<16/\j % 4*4+j / 4<i+1)=decide (j<16/\j % 4*4+j / 4<i) from decide_eq_decide.2 (by rw[h3])]
  have m2:=d0 a.2 i zOm;have J:(i:Int)<64:=zOm;have P:1<=64-i:=zOm;simp[go_sem,U,r,e4,t,C,o,J,P,m2,qw,w1,w3,show (q:Int)<64 by omega,show 1+q<=64 by omega,g];exact aA ⟨zS1 U,zS1 p,zS1 r,zSi,zSi⟩
 .have R:i=16:=by omega
  subst R;have e:hB (fun j=>decide (j<16/\j % 4*4+j / 4<16)&&a.2 (j % 4*4+j / 4))=hB (trS a).2:=by
   refine wh fun j hj=>?_
   rw[show decide (j<16/\j % 4*4+j / 4<16)=decide (j<16) from decide_eq_decide.2 ⟨fun h=>h.1,fun h=>⟨h,zOm⟩⟩];rfl
  rw[e]at t;have hT:eRS (trS a) = .agg (aI 2 :: hB (trS a).2):=rfl;rw[hT];generalize (trS a).2=T at *
  simp[go_sem,p,r,e4,t,qw,tk,pc];rw[if_pos (zj _)];simp[go_sem,p,qw,tk];exact .hf _ (yO (2,T))
def Qt(a b:RS)(j:Nat):Bool:=a.2 (j / szA b.1)&&b.2 (j % szA b.1)
def kZ(a b:RS):RS:=(a.1+b.1,fun j=>decide (j<szA a.1*szA b.1)&&Qt a b j)
theorem qrH(f:Nat->Bool)(p v)(i:v=f p):∀ j,(if j=p then v else decide (j<p)&&f j)=(decide (j<p+1)&&f j):=fun j=>by
 by_cases g:j=p
 .subst g;simp[i]
 .rw [if_neg g,show decide (j<p+1)=decide (j<p) from decide_eq_decide.2 zOm]
theorem qeG(a b)(ha:0<=a.1/\a.1<=1000)(hb:0<=b.1/\b.1<=1000):qi qe 196 [eRS a,eRS b] (eRS (kZ a b)):=by
 refine qSV call196 func196 rfl ?_;have w0:qq.wrap (a.1+b.1)=a.1+b.1:=zWr;have ag:=VH a.1;have ah:=VH b.1;have ca:=Yh a.1;have cb:=Yh b.1;have hf:∀ j,Qt a b j=(a.2 (j / szA b.1)&&b.2 (j % szA b.1)):=fun _=>rfl
 simp[go_sem,qw];refine⟨zj _,zj _,?_⟩;simp[go_sem,w0];refine tS cb (.zs .nil) ?_;generalize hE:kZ a b=E;have aa:E=(a.1+b.1,fun j=>decide (j<szA a.1*szA b.1)&&Qt a b j):=hE.symm;clear hE;generalize Qt a b=F at *
 generalize szA a.1=sa at *
 generalize szA b.1=n at *
 simp[go_sem];refine aK sa (fun i g=>g.tm 2 = .ip (cRS a)/\g.tm 3 = .ip (cRS b)/\g.tm 4 = .ptr 0 0/\g.tm 5 = .ptr 1 0/\g.tm 6=aI n/\g.tm 7=aI i/\g.mu=[.arr (aI 0 :: hB fun _=>false),.arr (aI (a.1+b.1) :: hB (fun j=>decide (j<i*n)&&F j))]) ?_ ?_
 .exact ⟨zSi,zSi,zSi,zSi,zSi,zSi,by simp[go_sem];first|rfl|exact⟨rfl,rfl⟩⟩
 rintro i g hi ⟨o,I,P,R,r,t,U⟩;simp[go_sem,o,t,U];refine tS ca (.zs .nil) ?_;by_cases a7:i<sa
 .have w1:=zWk i
  simp[go_sem,a7];refine aK n (fun k g=>g.tm 2 = .ip (cRS a)/\g.tm 3 = .ip (cRS b)/\g.tm 4 = .ptr 0 0/\g.tm 5 = .ptr 1 0/\g.tm 6=aI n/\g.tm 7=aI i/\g.tm 8=aI k/\g.mu=[.arr (aI 0 :: hB fun _=>false),.arr (aI (a.1+b.1) :: hB (fun j=>decide (j<i*n+k)&&F j))]) ?_ ?_
  .exact ⟨zS1 o,zS1 I,zS1 P,zS1 R,zS1 r,zS1 t,zSi,zSi⟩
  clear o I P R r t U;rintro k g hk ⟨o,I,P,R,r,t,e8,U⟩;by_cases C:k<n
  .have w2:=zWk k
   obtain⟨p,hp⟩:∃ p:Nat,p=i*n+k:=⟨_,rfl⟩;have a8:((i:Int)*n+k)=(p:Int):=by rw[hp];push_cast;rfl
   have ai:i*n<=63*64:=Nat.mul_le_mul zOm zOm;have w3:qq.wrap ((i:Int)*n)=(i:Int)*n:=by
    have:((i*n:Nat):Int)=(i:Int)*n:=by push_cast;rfl
    rw[<-this];exact zWr
   have w4:qq.wrap (p:Int)=(p:Int):=zWr;have a3:F p=(a.2 i&&b.2 k):=by
    rw[hf,hp,Nat.add_comm,Nat.add_mul_div_right _ _ zOm,Nat.add_mul_mod_self_right,Nat.div_eq_of_lt C,Nat.mod_eq_of_lt C,yj]
   have m1:=d0 a.2 i zOm;have m2:=d0 b.2 k zOm;have a0:1<=64-i:=zOm;have a4:1<=64-k:=zOm;have a1:(i:Int)<64:=zOm;have a5:(k:Int)<64:=zOm;have hq:∀ x:AV,(x :: hB (fun j=>decide (j<p)&&F j)).set (1+p) (aB true)=x :: hB (fun j=>if j=p then true else decide (j<p)&&F j):=fun x=>s1 x _ p true
   rw[<-hp]at U;have ab:F p=true->(fun j=>if j=p then true else decide (j<p)&&F j)=(fun j=>decide (j<p+1)&&F j):=fun h=>funext (qrH F p true h.symm)
   have ad:F p=true->∀ x:AV,(x :: hB (fun j=>decide (j<p)&&F j)).set (1+p) (AV.sc (Value.bool true))=x :: hB (fun j=>decide (j<p+1)&&F j):=fun h x=>by rw[<-ab h];exact hq x
   have a6:(F p=false\/64<=p)->hB (fun j=>decide (j<p)&&F j)=hB (fun j=>decide (j<p+1)&&F j):=fun h=>wh fun j hj=>by
    by_cases h1:j=p
    .rcases h with h|h
     .rw [h1,h];simp
     .omega
    .rw [show decide (j<p+1)=decide (j<p) from decide_eq_decide.2 zOm]
   have done:∀ l:St,l.tm 2 = .ip (cRS a)->l.tm 3 = .ip (cRS b)->l.tm 4 = .ptr 0 0->l.tm 5 = .ptr 1 0->l.tm 6=aI n->l.tm 7=aI i->l.tm 8=aI (k+1:Nat)->l.mu=[.arr (aI 0 :: hB fun _=>false),.arr (aI (a.1+b.1) :: hB (fun j=>decide (j<p+1)&&F j))]->Keep (fun g=>g.tm 2 = .ip (cRS a)/\g.tm 3 = .ip (cRS b)/\g.tm 4 = .ptr 0 0/\g.tm 5 = .ptr 1 0/\g.tm 6=aI n/\g.tm 7=aI i/\g.tm 8=aI (k+1:Nat)/\g.mu=[.arr (aI 0 :: hB fun _=>false),.arr (aI (a.1+b.1) :: hB (fun j=>decide (j<i*n+(k+1))&&F j))]) .mk l:=
    fun l b1 b2 b3 b4 b5 b6 b7 b8=>aA ⟨b1,b2,b3,b4,b5,b6,b7,by rw[b8,hp];rfl⟩
   cases J:a.2 i with
   |false =>
    rw[J]at m1;simp[go_sem,o,r,t,e8,U,C,qw,m1,a0,a1,w2];exact done _ (zS1 o) (zS1 I) (zS1 P) (zS1 R) (zS1 r) (zS1 t) zSi (by simp[go_sem,a6 (.inl (by rw[a3,J];rfl))])
   |true =>
    rw[J]at m1;cases a2:b.2 k with
    |false =>
     rw[a2]at m2;simp[go_sem,o,I,r,t,e8,U,C,qw,m1,m2,a0,a4,a1,a5,w2];exact done _ (zS1 o) (zS1 I) (zS1 P) (zS1 R) (zS1 r) (zS1 t) zSi (by simp[go_sem,a6 (.inl (by rw[a3,J,a2];rfl))])
    |true =>
     rw[a2]at m2;by_cases a9:(p:Int)<64
     .simp [go_sem,o,I,R,r,t,e8,U,C,qw,m1,m2,a0,a4,a1,a5,w2,w3,a8,w4,a9,show 1+p<=64 by omega,ad (by rw[a3,J,a2];rfl)]
      exact done _ (zS1 o) (zS1 I) (zS1 P) (zS1 R) (zS1 r) (zS1 t) zSi zSi
     .simp [go_sem,o,I,r,t,e8,U,C,qw,m1,m2,a0,a4,a1,a5,w2,w3,a8,w4,a9]
      exact done _ (zS1 o) (zS1 I) (zS1 P) (zS1 R) (zS1 r) (zS1 t) zSi (by simp[go_sem,a6 (.inr zOm)])
  .have ae:k=n:=by omega
   subst ae;rw[show i*k+k=(i+1)*k by rw[Nat.add_mul,Nat.one_mul]]at U;simp[go_sem,r,t,e8,U,w1];exact⟨a7,aA ⟨zS1 o,zS1 I,zS1 P,zS1 R,zS1 r,zSi,zSi⟩⟩
 .have af:i=sa:=by omega
  subst af;rw[aa];generalize (fun j=>decide (j<i*n)&&F j)=T at *
  simp[go_sem,P,R,qw,tk,pc];rw[if_pos (zj _)];simp[go_sem,P,qw,tk];exact .hf _ (yO (_,T))
def rowJ(a b:RS)(i g j:Nat):Bool:=(qu g).any fun k=>decide (i / 4*(szA b.1 / 4)+k % (szA b.1 / 4)=j)&&(decide (i % 4=k / (szA b.1 / 4))&&(a.2 i&&b.2 k))
def Yi(a b:RS):RS:=(a.1+b.1-2,fun j=>(qu (szA a.1)).any fun i=>rowJ a b i (szA b.1) j)
theorem qrI(a b i k j):rowJ a b i (k+1) j=(rowJ a b i k j||(decide (i / 4*(szA b.1 / 4)+k % (szA b.1 / 4)=j)&&(decide (i % 4=k / (szA b.1 / 4))&&(a.2 i&&b.2 k)))):=by
 unfold rowJ;rw[List.range_succ,List.any_append];simp
theorem qrJ{k}(h:1<=k):4<=szA k:=by unfold szA;split<;>(try split)<;>(try split)<;>omega
theorem wG(a b)(ha:0<=a.1/\a.1<=1000)(hb:1<=b.1/\b.1<=1000):qi qe 195 [eRS a,eRS b] (eRS (Yi a b)):=by
 refine qSV call195 func195 rfl ?_;have w0:qq.wrap (a.1+b.1)=a.1+b.1:=zWr;have ab:qq.wrap (a.1+b.1-2)=a.1+b.1-2:=zWr;have aj:=VH a.1;have ak:=VH b.1;have al:=qrJ hb.1;have ca:=Yh a.1;have cb:=Yh b.1;have hR:∀ i k j,rowJ a b i (k+1) j=(rowJ a b i k j||(decide (i / 4*(szA b.1 / 4)+k % (szA b.1 / 4)=j)&&(decide (i % 4=k / (szA b.1 / 4))&&(a.2 i&&b.2 k)))):=qrI a b;have ad:∀ i j,rowJ a b i 0 j=false:=fun i j=>rfl
 simp[go_sem,qw];refine⟨zj _,zj _,?_⟩;simp[go_sem,w0,ab];refine tS cb (.zs .nil) ?_;generalize hE:Yi a b=E;have ae:E=(a.1+b.1-2,fun j=>(qu (szA a.1)).any fun i=>rowJ a b i (szA b.1) j):=hE.symm;clear hE;generalize rowJ a b=F at *
 generalize szA a.1=sa at *
 generalize szA b.1=sb at *
 obtain⟨n,hn⟩:∃ n:Nat,n=sb / 4:=⟨_,rfl⟩;have an:1<=n/\n<=16:=zOm;have wn:qq.wrap ((sb:Int) / 4)=(n:Int):=by rw[zWr];omega
 rw[<-hn]at hR;simp[go_sem,wn];refine aK sa (fun i g=>g.tm 2 = .ip (cRS a)/\g.tm 3 = .ip (cRS b)/\g.tm 4 = .ptr 0 0/\g.tm 5 = .ptr 1 0/\g.tm 6=aI n/\g.tm 7=aI i/\g.mu=[.arr (aI 0 :: hB fun _=>false),.arr (aI (a.1+b.1-2) :: hB (fun j=>(qu i).any fun i=>F i sb j))]) ?_ ?_
 .exact ⟨zSi,zSi,zSi,zSi,zSi,zSi,by simp[go_sem];first|rfl|exact⟨rfl,rfl⟩⟩
 rintro i g hi ⟨o,t,I,J,C,r,hm⟩;simp[go_sem,o,r,hm];refine tS ca (.zs .nil) ?_;by_cases a9:i<sa
 .have w1:=zWk i
  generalize hP:(fun j=>(qu i).any fun i=>F i sb j)=P at *
  simp[go_sem,a9];refine aK sb (fun k g=>g.tm 2 = .ip (cRS a)/\g.tm 3 = .ip (cRS b)/\g.tm 4 = .ptr 0 0/\g.tm 5 = .ptr 1 0/\g.tm 6=aI n/\g.tm 7=aI i/\g.tm 8=aI k/\g.mu=[.arr (aI 0 :: hB fun _=>false),.arr (aI (a.1+b.1-2) :: hB (fun j=>P j||F i k j))]) ?_ ?_
  .exact ⟨zS1 o,zS1 t,zS1 I,zS1 J,zS1 C,zS1 r,zSi,zS1 ad⟩
  clear o t I J C r hm;rintro k g hk ⟨o,t,I,J,C,r,e8,hm⟩;simp[go_sem,t,e8,hm];refine tS cb (.zs .nil) ?_;by_cases R:k<sb
  .have w2:=zWk k
   obtain⟨p,hp⟩:∃ p:Nat,p=i / 4*n+k % n:=⟨_,rfl⟩;have ao:k % n<n:=Nat.mod_lt _ zOm;have aq:i / 4*n<=15*16:=Nat.mul_le_mul zOm zOm;have y1:((i / 4:Nat):Int)=(i:Int) / 4:=zOm;have y2:((i / 4*n:Nat):Int)=(i:Int) / 4*n:=by rw[<-y1];push_cast;rfl
   have y3:((k % n:Nat):Int)=(k:Int) % n:=rfl;have y4:((k / n:Nat):Int)=(k:Int) / n:=rfl;have af:k / n<=64:=Nat.le_trans (Nat.div_le_self k n) zOm;have x1:qq.wrap ((i:Int) / 4)=(i:Int) / 4:=zWr;have x2:qq.wrap ((i:Int) / 4*n)=(i:Int) / 4*n:=by rw[<-y2];exact zWr
   have x4:qq.wrap ((i:Int) / 4*n+(k:Int) % n)=(p:Int):=by rw[<-y2,<-y3,zWr,hp];push_cast;rfl
   have a8:qq.wrap ((i:Int) / 4*n+(k:Int).tmod n)=(p:Int):=by rw[wq zOm];exact x4
   have x5:qq.wrap ((k:Int) / n)=(k:Int) / n:=by
    rw[<-y4];clear y4;generalize k / n=c at af⊢;exact zWr
   have U:¬n=0:=zOm;have m1:=d0 a.2 i zOm;have m2:=d0 b.2 k zOm;have a0:1<=64-i:=zOm;have a2:1<=64-k:=zOm;have a1:(i:Int)<64:=zOm;have a3:(k:Int)<64:=zOm;have a4:((decide (i % 4=k / n)&&(a.2 i&&b.2 k))=false\/64<=p)->hB (fun j=>P j||F i k j)=hB (fun j=>P j||F i (k+1) j):=fun h=>wh fun j hj=>by
    rw[hR,<-hp];rcases h with h|h
    .rw [h,Bool.and_false,Bool.or_false]
    .rw [decide_eq_false zOm,Bool.false_and,Bool.or_false]
   have ag:(decide (i % 4=k / n)&&(a.2 i&&b.2 k))=true->∀ x:AV,(x :: hB (fun j=>P j||F i k j)).set (1+p) (AV.sc (Value.bool true))=x :: hB (fun j=>P j||F i (k+1) j):=fun h x=>by
    refine(s1 x _ p true).trans (congrArg (x :: ·) (wh fun j hj=>?_));rw[hR,<-hp,h,Bool.and_true];by_cases h1:j=p
    .rw [if_pos h1,h1];simp
    .rw [if_neg h1,decide_eq_false (fun e=>h1 e.symm),Bool.or_false]
   have done:∀ l:St,l.tm 2 = .ip (cRS a)->l.tm 3 = .ip (cRS b)->l.tm 4 = .ptr 0 0->l.tm 5 = .ptr 1 0->l.tm 6=aI n->l.tm 7=aI i->l.tm 8=aI (k+1:Nat)->l.mu=[.arr (aI 0 :: hB fun _=>false),.arr (aI (a.1+b.1-2) :: hB (fun j=>P j||F i (k+1) j))]->Keep (fun g=>g.tm 2 = .ip (cRS a)/\g.tm 3 = .ip (cRS b)/\g.tm 4 = .ptr 0 0/\g.tm 5 = .ptr 1 0/\g.tm 6=aI n/\g.tm 7=aI i/\g.tm 8=aI (k+1:Nat)/\g.mu=[.arr (aI 0 :: hB fun _=>false),.arr (aI (a.1+b.1-2) :: hB (fun j=>P j||F i (k+1) j))]) .mk l:=
    fun l b1 b2 b3 b4 b5 b6 b7 b8=>aA ⟨b1,b2,b3,b4,b5,b6,b7,b8⟩
   cases a5:a.2 i with
   |false =>
    rw[a5]at m1;simp[go_sem,o,C,r,e8,R,qw,x1,x2,U,m1,a0,a1,w2];exact done _ (zS1 o) (zS1 t) (zS1 I) (zS1 J) (zS1 C) (zS1 r) zSi (by simp[go_sem,a4 (.inl (by rw[a5];simp))])
   |true =>
    rw[a5]at m1;cases a6:b.2 k with
    |false =>
     rw[a6]at m2;simp[go_sem,o,t,C,r,e8,R,qw,x1,x2,U,m1,m2,a0,a1,a2,a3,w2];exact done _ (zS1 o) (zS1 t) (zS1 I) (zS1 J) (zS1 C) (zS1 r) zSi (by simp[go_sem,a4 (.inl (by rw[a6];simp))])
    |true =>
     rw[a6]at m2;by_cases hq:i % 4=k / n
     .have a7:(i:Int).tmod 4=(k:Int) / n:=by rw[wq zOm,<-y4,<-hq];rfl
      by_cases aa:(p:Int)<64
      .simp [go_sem,o,t,J,C,r,e8,R,qw,x1,x2,a8,x5,U,m1,m2,a0,a1,a2,a3,w2,a7,aa,show 1+p<=64 by omega,ag (by rw[decide_eq_true hq,a5,a6];rfl)]
       exact done _ (zS1 o) (zS1 t) (zS1 I) (zS1 J) (zS1 C) (zS1 r) zSi zSi
      .simp [go_sem,o,t,C,r,e8,R,qw,x1,x2,a8,x5,U,m1,m2,a0,a1,a2,a3,w2,a7,aa]
       exact done _ (zS1 o) (zS1 t) (zS1 I) (zS1 J) (zS1 C) (zS1 r) zSi (by simp[go_sem,a4 (.inr zOm)])
     .have a7:¬(i:Int).tmod 4=(k:Int) / n:=fun e=>hq (by rw[wq zOm,<-y4]at e;exact Int.ofNat.inj e)
      simp[go_sem,o,t,C,r,e8,R,qw,x1,x2,a8,x5,U,m1,m2,a0,a1,a2,a3,w2,a7];exact done _ (zS1 o) (zS1 t) (zS1 I) (zS1 J) (zS1 C) (zS1 r) zSi (by simp[go_sem,a4 (.inl (by rw[decide_eq_false hq];rfl))])
  .have ah:k=sb:=by omega
   subst ah;simp[go_sem,r,w1];exact⟨a9,aA ⟨zS1 o,zS1 t,zS1 I,zS1 J,zS1 C,zSi,by simp[go_sem];rw[<-hP]⟩⟩
 .have ai:i=sa:=by omega
  subst ai;rw[ae];generalize (fun j=>(qu i).any fun i=>F i sb j)=T at *
  simp[go_sem,I,J,qw,tk,pc];rw[if_pos (zj _)];simp[go_sem,I,qw,tk];exact .hf _ (yO (_,T))
end QE
namespace QF
open Y2 Y3 P1 P2 QD QE
section
variable {p q:Int}{a b:Kd}{l:List Int}{m ns:Nat}
def dig(k:Int)(j:Nat):List Int:=if k=0 then [] else if k=1 then [(j:Int)] else if k=2 then [((j / 4:Nat):Int),((j % 4:Nat):Int)] else [((j / 16:Nat):Int),((j / 4 % 4:Nat):Int),((j % 4:Nat):Int)]
theorem Yj{k}(h:0<=k/\k<=3)(j):((dig k j).length:Int)=k:=by
 grind [dig]
theorem szA1:szA 1=4:=rfl
theorem szA2:szA 2=16:=rfl
theorem szA3:szA 3=64:=rfl
theorem VI(h:0<=p/\p<=3):p=0\/p=1\/p=2\/p=3:=by omega
theorem qeH(g:0<=p)(i:0<=q)(h:p+q<=3){j}(l:j<szA (p+q)):j / szA q<szA p/\j % szA q<szA q/\dig (p+q) j=dig p (j / szA q)++dig q (j % szA q):=by
 rcases VI (p:=p) ⟨g,zOm⟩ with rfl|rfl|rfl|rfl<;>rcases VI (p:=q) ⟨i,zOm⟩ with rfl|rfl|rfl|rfl<;>first | (exfalso;omega)|skip
 all_goals simp[dig,szA]at l⊢
 all_goals omega
theorem k7(g:0<=p)(j:0<=q)(h:p+q<=3){i k}(l:i<szA p)(o:k<szA q):i*szA q+k<szA (p+q)/\dig (p+q) (i*szA q+k)=dig p i++dig q k:=by
 rcases VI (p:=p) ⟨g,zOm⟩ with rfl|rfl|rfl|rfl<;>rcases VI (p:=q) ⟨j,zOm⟩ with rfl|rfl|rfl|rfl<;>first | (exfalso;omega)|skip
 all_goals simp[dig,szA]at l o⊢
 all_goals omega
theorem k8(h:0<=p/\p<=3){i j}(g:i<szA p)(l:j<szA p)(e:dig p i=dig p j):i=j:=by
 rcases VI h with rfl|rfl|rfl|rfl
 all_goals grind [dig,szA]
 all_goals omega
theorem qeI(h:1<=p/\p<=3){l}(j:(l.length:Int)=p)(g:∀ x,x∈l->0<=x/\x<4):∃ i,i<szA p/\l=dig p i:=by
 match l,j,g with
 | [],j,_=>simp at j;omega
 | [a],j,g =>
  obtain rfl:p=1:=by grind
  have:=g a zSp;exact⟨a.toNat,by rw[szA1];omega,by simp[dig];omega⟩
 | [a,b],j,g =>
  obtain rfl:p=2:=by grind
  have:=g a zSp;have:=g b zSp;exact⟨(a*4+b).toNat,by rw[szA2];omega,by simp[dig];omega⟩
 | [a,b,c],j,g =>
  obtain rfl:p=3:=by grind
  have:=g a zSp;have:=g b zSp;have:=g c zSp;exact⟨(a*16+b*4+c).toNat,by rw[szA3];omega,by simp[dig];omega⟩
 |a :: b :: c :: d :: l,j,_=>simp at j;omega
theorem k9{l'}(h:l.length=l'.length)(g:l.length<=3)(e:pad l=pad l'):l=l':=by
 have i:=Yb g l.length (qr _);have j:=Yb (l:=l') zOm l'.length (qr _)
 grind
theorem Ju{k}(h:okKd ns k)(g:ns<=4){t:Tp}(j:t∈k.ts):∃ i,i<szA k.ar/\t=pad (dig k.ar i):=by
 obtain⟨l,rfl,o,p⟩:=h.ts t j;obtain⟨i,r,e⟩:=qeI h.ar o fun x C=>by grind
 grind
def qt(k:Kd):RS:=(k.ar,fun j=>decide (j<szA k.ar/\pad (dig k.ar j)∈k.ts))
theorem y8(k j):(qt k).2 j=true↔j<szA k.ar/\pad (dig k.ar j)∈k.ts:=decide_eq_true_iff
theorem Ze{a b}(g:a.1=b.1)(i:∀ j,j<64->a.2 j=b.2 j):eRS a=eRS b:=by
 simp only[eRS,cRS,g,wh i]
theorem VJ(h:a.ar=b.ar):eRS (uniS (qt a) (qt b))=eRS (qt (kSum a b)):=by
 refine Ze rfl fun j g=>?_
 rw[j9,y8];show ((qt a).2 j||(qt b).2 j)=true↔j<szA a.ar/\pad (dig a.ar j)∈uni (uni [] a.ts) b.ts;rw[Bool.or_eq_true,y8,y8,<-h,ug,ug]
 grind
theorem qrK(h:a.ar=b.ar):eRS (intS (qt a) (qt b))=eRS (qt (YN a b)):=by
 refine Ze rfl fun j g=>?_
 rw[j9,y8];show ((qt a).2 j&&(qt b).2 j)=true↔j<szA a.ar/\pad (dig a.ar j)∈a.ts.filter fun t=>decide (t∈b.ts)
 rw[qH,y8,y8,<-h,jH,decide_eq_true_eq]
 grind
theorem J2{n a b t}:t∈Qs n m a b↔∃ x y,x∈a/\y∈b/\conc x n y m 0=t:=by
 unfold Qs;rw[ug];simp only[qG,false_or,qn,Prod.exists,YL]
 grind
theorem Vg{l' n}(h:l.length=n)(g:l'.length=m)(i:n<=3)(j:m<=3):conc (pad l) n (pad l') m 0=pad (l++l'):=by
 unfold conc;rw[Nat.sub_zero,List.drop_zero,Yb zOm n zOm,Yb zOm m zOm,<-h,<-g,qO,qO]
theorem qrL(J:okKd ns a)(P:okKd ns b)(l:ns<=4)(R:a.ar+b.ar<=3):eRS (kZ (qt a) (qt b))=eRS (qt (uY a b)):=by
 have a0:=J.ar;have a1:=P.ar;have la:=fun i=>Yj (k:=a.ar) zOm i
 have lb:=fun i=>Yj (k:=b.ar) zOm i
 have g:=fun i=>Yj (k:=a.ar+b.ar) zOm i
 refine Ze rfl fun j hj=>?_
 rw[j9,y8];show (decide (j<szA a.ar*szA b.ar)&&((qt a).2 (j / szA b.ar)&&(qt b).2 (j % szA b.ar)))=true↔j<szA (a.ar+b.ar)/\pad (dig (a.ar+b.ar) j)∈Qs a.ar.toNat b.ar.toNat a.ts b.ts;rw[qH,qH,y8,y8,J2,decide_eq_true_eq];constructor
 .rintro ⟨_,⟨r,h2⟩,h4,h5⟩
  have t:=k7 (p:=a.ar) (q:=b.ar) zOm zOm R r h4
  grind [szA,Nat.div_add_mod',Vg]
 .rintro ⟨r,x,y,T,U,e⟩
  obtain⟨i,C,rfl⟩:=Ju J l T;obtain⟨k,o,rfl⟩:=Ju P l U;rw[Vg (zW1 (la i)) (zW1 (lb k)) zOm zOm]at e;have t:=k7 (p:=a.ar) (q:=b.ar) zOm zOm R C o;rw[<-t.2]at e;have e2:=k9 (zW2 (g (i*szA b.ar+k)) (g j)) (zW1 (g (i*szA b.ar+k))) e;have I:=k8 zOm t.1 r e2;have a2:=VH b.ar;have d1:j / szA b.ar=i:=by rw[<-I,Nat.add_comm,Nat.add_mul_div_right _ _ zOm,Nat.div_eq_of_lt o,yj]
  have d2:j % szA b.ar=k:=by rw[<-I,Nat.add_comm,Nat.add_mul_mod_self_right,Nat.mod_eq_of_lt o]
  rw[d1,d2];refine⟨?_,⟨C,T⟩,o,U⟩;rw[<-I]
  calc i*szA b.ar+k<i*szA b.ar+szA b.ar:=by omega
   _=(i+1)*szA b.ar:=by rw[Nat.add_mul,Nat.one_mul]
   _<=szA a.ar*szA b.ar:=Nat.mul_le_mul_right _ C
theorem Zs{n a b t}:t∈uX n m a b↔∃ x y,x∈a/\y∈b/\x.getD (n-1) 0=y.getD 0 0/\conc x n y m 1=t:=by
 unfold uX;rw[ug];simp only[qG,false_or,List.mem_filterMap,Prod.exists,YL];constructor
 .rintro ⟨x,y,⟨i,j⟩,g⟩
  split at g
  .rename_i h;cases g;exact⟨x,y,i,j,h,rfl⟩
  .cases g
 .rintro ⟨x,y,i,j,g,l⟩;exact⟨x,y,⟨i,j⟩,by rw[if_pos g,l]⟩
theorem qrM{u v e f n}(h:u.length+1=n)(g:v.length+1=m)(i:n<=3)(j:m<=3):conc (pad (u++[e])) n (pad ([f]++v)) m 1=pad (u++v):=by
 unfold conc;rw[Yb zSo (n-1) zSo,Yb zSo m zSo,List.take_append_of_le_length zOm,z6 zOm,z6 zSo];rfl
theorem qeJ{k}(h:k<3):(pad l).getD k 0=l.getD k 0:=by
 match k,h with
 | 0,_=>rfl
 | 1,_=>rfl
 | 2,_=>rfl
theorem qrN(g:0<=p/\p<=2){i}(j:i<szA (p+1)):i / 4<szA p/\dig (p+1) i=dig p (i / 4)++[((i % 4:Nat):Int)]:=by
 have:=qeH (p:=p) (q:=1) g.1 zOm zOm j;rw[szA1]at this;exact⟨this.1,this.2.2⟩
theorem qrO(g:0<=q/\q<=2){k}(i:k<szA (1+q)):k % szA q<szA q/\dig (1+q) k=[((k / szA q:Nat):Int)]++dig q (k % szA q):=by
 have:=qeH (p:=1) (q:=q) zOm g.1 zOm i;exact⟨this.2.1,this.2.2⟩
theorem qrP(g:0<=q/\q<=2):szA (q+1) / 4=szA q/\szA (q+1)=4*szA q:=by
 rcases (show q=0\/q=1\/q=2 by omega) with rfl|rfl|rfl<;>exact⟨rfl,rfl⟩
theorem qeK(ha:okKd ns a)(hb:okKd ns b)(r:ns<=4)(h3:1<=a.ar+b.ar-2/\a.ar+b.ar-2<=3):eRS (Yi (qt a) (qt b))=eRS (qt (zV a b)):=by
 have a0:=ha.ar;have a3:=hb.ar;obtain⟨p,hp⟩:∃ p,p=a.ar-1:=⟨_,rfl⟩;obtain⟨q,hq⟩:∃ q,q=b.ar-1:=⟨_,rfl⟩;have ea:a.ar=p+1:=zOm;have eb:b.ar=1+q:=zOm;have t:b.ar=q+1:=zOm;have C:a.ar+b.ar-2=p+q:=zOm;have I:=qrP (q:=q) zOm;have hn:szA b.ar / 4=szA q:=by rw[t];exact I.1
 have lp:=fun i=>Yj (k:=p) zOm i
 have lq:=fun i=>Yj (k:=q) zOm i
 have o:=fun i=>Yj (k:=p+q) zOm i
 have A:∀ i,i<szA a.ar->i / 4<szA p/\dig a.ar i=dig p (i / 4)++[((i % 4:Nat):Int)]:=fun i g=>by rw[ea]at g⊢;exact qrN zOm g
 have B:∀ k,k<szA b.ar->k % szA q<szA q/\dig b.ar k=[((k / szA q:Nat):Int)]++dig q (k % szA q):=fun k l=>by rw[eb]at l⊢;exact qrO zOm l
 have J:∀ i k,i<szA a.ar->k<szA b.ar->i / 4*szA q+k % szA q<szA (p+q)/\(pad (dig a.ar i)).getD (a.ar.toNat-1) 0=((i % 4:Nat):Int)/\(pad (dig b.ar k)).getD 0 0=((k / szA q:Nat):Int)/\conc (pad (dig a.ar i)) a.ar.toNat (pad (dig b.ar k)) b.ar.toNat 1=pad (dig (p+q) (i / 4*szA q+k % szA q)):=fun i k g l=>by
  obtain⟨a1,a2⟩:=A i g;obtain⟨b1,b2⟩:=B k l;have hm:=k7 (p:=p) (q:=q) zOm zOm zOm a1 b1;have l1:=lp (i / 4);have l2:=lq (k % szA q);refine⟨hm.1,?_,?_,?_⟩
  .rw [qeJ zOm,a2,show a.ar.toNat-1=(dig p (i / 4)).length by omega];simp
  .rw [qeJ zOm,b2];rfl
  .rw [a2,b2,hm.2];exact qrM zOm zOm zOm zOm
 refine Ze rfl fun j hj=>?_
 rw[j9,y8];show ((qu (szA a.ar)).any fun i=>(qu (szA b.ar)).any fun k=>decide (i / 4*(szA b.ar / 4)+k % (szA b.ar / 4)=j)&&(decide (i % 4=k / (szA b.ar / 4))&&((qt a).2 i&&(qt b).2 k)))=true↔j<szA (a.ar+b.ar-2)/\pad (dig (a.ar+b.ar-2) j)∈uX a.ar.toNat b.ar.toNat a.ts b.ts;rw[Zs,List.any_eq_true,hn,C];constructor
 .rintro ⟨i,g,h⟩
  obtain⟨k,l,h⟩:=List.any_eq_true.1 h;rw[yi]at g l;rw[qH,qH,qH,decide_eq_true_eq,decide_eq_true_eq,y8,y8]at h;obtain⟨rfl,P,⟨_,h4⟩,_,h5⟩:=h;obtain⟨R,T,U,j4⟩:=J i k g l;exact⟨R,_,_,h4,h5,by rw[T,U,P],j4⟩
 .rintro ⟨h1,x,y,hx,hy,P,e⟩
  obtain⟨i,g,rfl⟩:=Ju ha r hx;obtain⟨k,l,rfl⟩:=Ju hb r hy;obtain⟨R,T,U,j4⟩:=J i k g l;rw[j4]at e;have e2:=k9 (zW2 (o (i / 4*szA q+k % szA q)) (o j)) (zW1 (o (i / 4*szA q+k % szA q))) e;have e3:=k8 zOm R h1 e2;rw[T,U]at P;refine⟨i,yi.2 g,List.any_eq_true.2 ⟨k,yi.2 l,?_⟩⟩;rw[qH,qH,qH,decide_eq_true_eq,decide_eq_true_eq,y8,y8];exact⟨e3,zOm,⟨g,hx⟩,l,hy⟩
theorem qrQ(o:okKd ns a)(g:ns<=4)(p:a.ar=2):eRS (trS (qt a))=eRS (qt (kTr a)):=by
 refine Ze rfl fun j I=>?_
 rw[j9,y8];show (decide (j<16)&&(qt a).2 (j % 4*4+j / 4))=true↔j<16/\pad (dig 2 j)∈uni [] (a.ts.map fun t=>[t.getD 1 0,t.getD 0 0,0]);rw[qH,y8,ug,decide_eq_true_eq,p,szA2];simp only[qG,false_or,qn];constructor
 .rintro ⟨l,J,r⟩
  refine⟨l,_,r,?_⟩
  grind [dig,pad]
 .rintro ⟨l,t,C,e⟩
  obtain⟨i,P,rfl⟩:=Ju o g C
  grind [szA2,dig,pad]
theorem pa(h:1<=l.length/\l.length<=3)(g:∀ x,x∈l->0<=x/\x<4):eRS (oneS l)=eRS (qt (kOf l)):=by
 refine Ze rfl fun j P=>?_
 obtain⟨i,o,e⟩:=qeI (p:=(l.length:Int)) zOm rfl g;have r:atF 0 l=i:=by
  match l,h,g,o,e with
  | [x],_,g,o,e =>
   have:=g x zSp;simp[dig]at e;simp[atF,IntKind.wrap,IntKind.signed,IntKind.bits];omega
  | [x,y],_,g,o,e =>
   have:=g x zSp;have:=g y zSp;simp[dig]at e;simp[atF,IntKind.wrap,IntKind.signed,IntKind.bits];omega
  | [x,y,z],_,g,o,e =>
   have:=g x zSp;have:=g y zSp;have:=g z zSp;simp[dig]at e;simp[atF,IntKind.wrap,IntKind.signed,IntKind.bits];omega
 rw[j9,y8];show decide ((j:Int)=atF 0 l)=true↔j<szA (l.length:Int)/\pad (dig (l.length:Int) j)∈[pad l];rw[decide_eq_true_eq,r,qV];have C:=fun j=>Yj (k:=(l.length:Int)) zOm j
 constructor
 .intro I
  obtain rfl:j=i:=zOm
  grind
 .rintro ⟨I,J⟩
  have t:=k9 (zW1 (C j)) (zW1 (C j)) J;rw[e]at t;have:=k8 (p:=(l.length:Int)) zOm I o (by rw[<-e]at t⊢;exact t);omega
end
end QF
namespace QG
open Y2 P1 P2 PB QE QF
section
variable {k:Kd}{ns:Nat}
def VK(k:Kd):Kd:=kSum k (zV k k)
def itK:Nat->Kd->Kd
 | 0,k=>k
 |i+1,k=>VK (itK i k)
theorem qrR(h:okKd ns k)(g:k.ar=2):okKd ns (VK k)/\(VK k).ar=2:=
 ⟨Vf h (Vh h h zOm zOm) (by grind [zV]),g⟩
theorem okIt(h:okKd ns k)(g:k.ar=2):∀ i,okKd ns (itK i k)/\(itK i k).ar=2
 | 0=>⟨h,g⟩
 |i+1=>qrR (okIt h g i).1 (okIt h g i).2
abbrev Ed(k:Kd)(u v:Int):Prop:=[u,v,0]∈k.ts
theorem WA(h:okKd ns k)(o:k.ar=2){t:Tp}(j:t∈k.ts):∃ u v,t=[u,v,0]/\(0<=u/\u<ns)/\(0<=v/\v<ns):=by
 obtain⟨l,rfl,g,i⟩:=h.ts t j
 match l,g,i with
 | [u,v],_,i=>exact⟨u,v,rfl,i u zSp,i v zSp⟩
 | [],g,_=>simp at g;omega
 | [_],g,_=>simp at g;omega
 |_ :: _ :: _ :: _,g,_=>simp at g;omega
theorem qeL(h:okKd ns k)(j:k.ar=2){u v}:[u,v,0]∈(zV k k).ts↔∃ w,Ed k u w/\Ed k w v:=by
 show [u,v,0]∈uX k.ar.toNat k.ar.toNat k.ts k.ts↔_;rw[QF.Zs,j];constructor
 .rintro ⟨x,y,l,o,g,i⟩
  obtain⟨a,b,rfl,_,_⟩:=WA h j l;obtain⟨c,d,rfl,_,_⟩:=WA h j o;have g:b=c:=g;have i:[a,d,0]=[u,v,0]:=i
  grind
 .rintro ⟨w,g,i⟩
  exact⟨[u,w,0],[w,v,0],g,i,rfl,rfl⟩
theorem pb(h:okKd ns k)(g:k.ar=2){u v}:Ed (VK k) u v↔Ed k u v\/∃ w,Ed k u w/\Ed k w v:=by
 unfold Ed VK;rw[ZG,qeL h g]
def Path(k:Kd)(n:Nat)(u v:Int):Prop:=∃ f:Nat->Int,f 0=u/\f n=v/\∀ i,i<n->Ed k (f i) (f (i+1))
theorem Path.one{u v}(h:Ed k u v):Path k 1 u v:=⟨fun i=>if i=0 then u else v,rfl,rfl,fun i g=>by
 grind⟩
theorem Path.comp{n m u w v}(h:Path k n u w)(o:Path k m w v):Path k (n+m) u v:=by
 obtain⟨f,f0,fn,hf⟩:=h;obtain⟨g,p,r,t⟩:=o;refine⟨fun i=>if i<n then f i else g (i-n),?_,?_,fun i C=>?_⟩
 .grind
 .grind
 .by_cases j:i+1<n
  .simp only[if_pos j,if_pos (show i<n by omega)];grind
  .by_cases l:i<n
   .have e:i+1=n:=by omega
    simp only[if_neg j,if_pos l]
    grind
   .simp only[if_neg j,if_neg l,show i+1-n=(i-n)+1 by omega]
    grind
theorem cY(h:okKd ns k)(J:k.ar=2)(g:ns<=4):∀ N n u v,n<=N->1<=n->Path k n u v->∃ m,1<=m/\m<=4/\Path k m u v
 | 0,n,u,v,P,R,_=>zOm
 | N+1,n,u,v,P,R,T=>by
  by_cases h4:n<=4
  .grind
  obtain⟨f,f0,fn,hf⟩:=T;have U:∀ i,i<5->0<=f i/\f i<4:=fun i t=>by
   grind [WA]
  obtain⟨i,j,a0,hj,e⟩:∃ i j,i<j/\j<5/\f i=f j:=by
   apply Classical.byContradiction;intro l;have o:((qu 5).map f).Nodup:=List.pairwise_map.2 (List.pairwise_lt_range.imp_of_mem fun {a b} ha hb p e=>l ⟨a,b,p,yi.1 hb,e⟩);have:=vb o (l₂:=[0,1,2,3]) fun x C=>by
    obtain⟨i,t,rfl⟩:=qn.1 C;have:=U i (yi.1 t);simp;omega
   simp at this
  refine cY h J g N (n-(j-i)) u v zOm zOm ⟨fun x=>if x<i then f x else f (x+(j-i)),?_,?_,fun x C=>?_⟩
  .grind
  .simp only[if_neg (show ¬n-(j-i)<i by omega),show n-(j-i)+(j-i)=n by omega,fn]
  .by_cases r:x+1<i
   .simp only[if_pos r,if_pos (show x<i by omega)];grind
   .by_cases I:x<i
    .have e1:x+1=i:=by omega
     simp only[if_neg r,if_pos I]
     grind
    .simp only[if_neg r,if_neg I,show x+1+(j-i)=(x+(j-i))+1 by omega]
     exact hf _ zOm
theorem VL(h:okKd ns k)(g:k.ar=2):∀ i u v,Ed (itK i k) u v->∃ n,1<=n/\Path k n u v
 | 0,u,v,j=>⟨1,zOm,.one j⟩
 |i+1,u,v,j=>by
  rcases (pb (okIt h g i).1 (okIt h g i).2).1 j with j|⟨w,l,o⟩
  .exact VL h g i u v j
  .obtain ⟨n,r,p⟩:=VL h g i u w l
   obtain⟨m,t,q⟩:=VL h g i w v o;exact⟨n+m,zOm,p.comp q⟩
theorem Jv(i):Sub (itK i k) (itK (i+1) k):=kA _ _
theorem qrS(h:okKd ns k)(g:k.ar=2){m u v}(p:1<=m)(r:m<=4)(o:Path k m u v):Ed (itK 4 k) u v:=by
 obtain⟨f,rfl,rfl,hf⟩:=o;have up:∀{u v},Ed (itK 2 k) u v->Ed (itK 4 k) u v:=fun i=>(Jv 3).2 _ ((Jv 2).2 _ i)
 have s1:∀{u w v},Ed (itK 0 k) u w->Ed (itK 0 k) w v->Ed (itK 1 k) u v:=fun a b=>(pb (okIt h g 0).1 (okIt h g 0).2).2 (.inr ⟨_,a,b⟩)
 have j:∀{u w v},Ed (itK 1 k) u w->Ed (itK 1 k) w v->Ed (itK 2 k) u v:=fun a b=>(pb (okIt h g 1).1 (okIt h g 1).2).2 (.inr ⟨_,a,b⟩)
 have l:∀{u v},Ed (itK 0 k) u v->Ed (itK 1 k) u v:=fun i=>(Jv 0).2 _ i
 refine up ?_;rcases (show m=1\/m=2\/m=3\/m=4 by omega) with rfl|rfl|rfl|rfl
 .exact (Jv 1).2 _ (l (hf 0 zOm))
 .exact (Jv 1).2 _ (s1 (hf 0 zOm) (hf 1 zOm))
 .exact j (s1 (hf 0 zOm) (hf 1 zOm)) (l (hf 2 zOm))
 .exact j (s1 (hf 0 zOm) (hf 1 zOm)) (s1 (hf 2 zOm) (hf 3 zOm))
theorem qrT(h:okKd ns k)(g:k.ar=2)(i:ns<=4):Ws (itK 4 k):=fun t l=>by
 have ok:=okIt h g 4;have j:=Vh ok.1 ok.1 (by rw[ok.2];omega) (by rw[ok.2];omega);obtain⟨u,v,rfl,_,_⟩:=WA j (by grind [zV]) l;obtain⟨w,o,r⟩:=(qeL ok.1 ok.2).1 l;obtain⟨n,C,p⟩:=VL h g 4 u w o;obtain⟨m,I,q⟩:=VL h g 4 w v r;obtain⟨c,c1,c4,J⟩:=cY h g i (n+m) (n+m) u v (qr _) zOm (p.comp q)
 grind [qrS]
theorem VM{S}(g:Ws S){k}(h:Sub k S):∀ i,Sub (itK i k) S
 | 0=>h
 |i+1=>⟨(VM g h i).1,fun t j=>by
  rcases ZG.1 j with j|j
  .exact (VM g h i).2 t j
  .exact g t ((Wr (VM g h i) (VM g h i)).2 t j)⟩
theorem qeM:∀ i,Sub k (itK i k)
 | 0 => .refl k
 |i+1=>(qeM i).trans (Jv i)
theorem qrU(h:okKd ns k)(l:k.ar=2)(g:ns<=4):eRS (qt (itK 4 k))=eRS (qt (kClo k)):=by
 have o:Sub (kClo k) (itK 4 k):=kC (qrT h l g) 70 0 k (qeM 4);have i:Sub (itK 4 k) (kClo k):=VM (kE g 70 0 k h l zOm (.inl rfl)) (kB 70 0 k) 4;refine Ze i.1 fun j p=>?_
 rw[j9,y8,y8,i.1];exact⟨fun x=>⟨x.1,i.2 _ x.2⟩,fun x=>⟨x.1,o.2 _ x.2⟩⟩
end
end QG
namespace QH
open YF Y9 Y2 Y3 P1 P2 PB QD QE QF QG
theorem UF{ns a}(h:okKd ns a)(I:a.ar=2)(g:ns<=4):qi qe 198 [eRS (qt a)] (eRS (qt (kClo a))):=by
 refine qSQ call198 func198 rfl { mt:=[1] } ?_;rw[<-qrU h I g];simp[go_sem];refine⟨zj _,?_⟩;refine aK 4 (fun i T=>T.tm 1 = .ptr 0 0/\T.tm 2 = .ptr 1 0/\T.tm 3=aI i/\T.mu=[.arr (cRS (qt (itK i a))),.arr (aI 0 :: hB fun _=>false)]) ?_ ?_
 .exact ⟨zSi,zSi,zSi,by simp[go_sem];exact⟨⟨rfl,rfl⟩,rfl⟩⟩
 rintro i T hi ⟨l,o,p,J⟩;by_cases r:i<4
 .have j:(i:Int)<4:=by omega
  have P:=zWk i;obtain⟨ok,o2⟩:=okIt h I i;have R:qi qe 195 [eRS (qt (itK i a)),eRS (qt (itK i a))] (eRS (qt (zV (itK i a) (itK i a)))):=by
   rw[<-qeK ok ok g zOm];exact wG _ _ (by show 0<=(itK i a).ar/\(itK i a).ar<=1000;omega) (by show 1<=(itK i a).ar/\(itK i a).ar<=1000;omega)
  have U:qi qe 193 [eRS (qt (itK i a)),eRS (qt (zV (itK i a) (itK i a)))] (eRS (qt (itK (i+1) a))):=by
   have:=vF (qt (itK i a)) (qt (zV (itK i a) (itK i a)));rw[VJ (by simp only[zV];omega)]at this;exact this
  generalize t:qt (itK (i+1) a)=s' at *
  generalize qt (zV (itK i a) (itK i a))=q at *
  generalize qt (itK i a)=s at *
  simp[go_sem,p,J,j];refine cJ zKr ?_;simp[go_sem,l,qw,tk];refine fR R (.zk (yO _) (.zk (yO _) .nil)) ?_;refine tS U (.zk (yO _) (.zk (yO _) .nil)) ?_;simp[go_sem,l,qw,pc];rw[if_pos (zj _)];simp[go_sem,p,P];exact⟨r,aA ⟨zS1 l,zS1 o,zSi,zS1 t⟩⟩
 .have C:i=4:=by omega
  subst C;generalize qt (itK 4 a)=s at *
  simp[go_sem,l,o,p,J,qw,tk,pc];rw[if_pos (zj _)];simp[go_sem,o,qw,tk];exact .hf _ (yO s)
theorem qrV(i k)(g:k=1\/k=2):eRS (qt (kSum (zH i k) (kOf (q9 k (i:Int)))))=eRS (qt (zH (i+1) k)):=by
 refine Ze rfl fun j l=>?_
 rw[j9,y8,y8];show j<szA (k:Int)/\pad (dig (k:Int) j)∈(kSum (zH i k) (kOf (q9 k (i:Int)))).ts↔j<szA (k:Int)/\pad (dig (k:Int) j)∈(qu (i+1)).map fun (x:Nat)=>pad (q9 k (x:Int))
 rw[ZG,List.range_succ,ze,qM];rfl
theorem qrW(k):hB (qt (zH 0 k)).2=hB fun _=>false:=wh fun j _=>decide_eq_false fun h=>absurd h.2 qG
theorem allU(ts)(h:okTS ts)(k:Nat)(R:k=1\/k=2):qi qe 192 [eTS ts,aI k] (eRS (qt (zH ts.sS.length k))):=by
 refine qSV call192 func192 rfl ?_;have a1:=h.ns;have hz:=qrW k;simp[go_sem];refine aK ts.sS.length (fun i T=>T.tm 1=aI k/\T.tm 2 = .ip (cTS ts)/\T.tm 4 = .ptr 0 0/\T.tm 5 = .ptr 1 0/\T.tm 6=aI i/\T.mu=[.arr (aI 0 :: hB fun _=>false),.arr (cRS (qt (zH i k)))]) ?_ ?_
 .exact ⟨zSi,zSi,zSi,zSi,zSi,by
   have e:cRS (qt (zH 0 k))=aI k :: hB fun _=>false:=by simp only[cRS,hz];rfl
   rw[e];simp[go_sem];first|rfl|exact⟨rfl,rfl⟩⟩
 rintro i T hi ⟨C,r,I,j,o,J⟩;by_cases g:i<ts.sS.length
 .have U:=zWk i
  have c1:∀ l:List Int,l=q9 k (i:Int)->qi qe 149 [lI l] (eRS (qt (kOf l))):=fun l p=>by
   have a0:l.length=k:=by rw[p,List.length_replicate]
   have:=oneU l zOm;rw[kY]at this;rw[<-QF.pa (l:=l) zOm (fun x hx=>by rw[p]at hx;rw[List.eq_of_mem_replicate hx];omega)];exact this
  have cu:∀ l:List Int,l=q9 k (i:Int)->qi qe 193 [eRS (qt (zH i k)),eRS (qt (kOf l))] (eRS (qt (zH (i+1) k))):=fun l p=>by
   have:=vF (qt (zH i k)) (qt (kOf l));rw[VJ (by show (k:Int)=l.length;rw[p,List.length_replicate]),p,qrV i k R]at this;rw[p];exact this
  generalize t:qt (zH (i+1) k)=s' at *
  generalize qt (zH i k)=s at *
  rcases R with rfl|rfl
  .have d1:=c1 [(i:Int)] rfl
   have d2:=cu [(i:Int)] rfl;generalize qt (kOf [(i:Int)])=q at *
   simp[go_sem,C,r,o,J,g];refine cJ zKr ?_;simp[go_sem,j,o,qw,tk];refine fR d1 (.cons (QD.wk1 _) .nil) ?_;refine tS d2 (.zk (yO _) (.zk (yO _) .nil)) ?_;simp[go_sem,j,qw,pc];rw[if_pos (zj _)];simp[go_sem,o,U];exact⟨g,aA ⟨zS1 C,zS1 r,zS1 I,zS1 j,zSi,zS1 t⟩⟩
  .have d1:=c1 [(i:Int),(i:Int)] rfl
   have d2:=cu [(i:Int),(i:Int)] rfl;generalize qt (kOf [(i:Int),(i:Int)])=q at *
   simp[go_sem,C,r,o,J,g];refine cJ zKr ?_;simp[go_sem,j,o,qw,tk];refine fR d1 (.cons (QD.wk2 _ _) .nil) ?_;refine tS d2 (.zk (yO _) (.zk (yO _) .nil)) ?_;simp[go_sem,j,qw,pc];rw[if_pos (zj _)];simp[go_sem,o,U];exact⟨g,aA ⟨zS1 C,zS1 r,zS1 I,zS1 j,zSi,zS1 t⟩⟩
 .have P:i=ts.sS.length:=by omega
  subst P;generalize qt (zH ts.sS.length k)=s at *
  simp[go_sem,r,I,j,o,J,qw,tk,pc];rw[if_pos (zj _)];simp[go_sem,I,qw,tk];exact .hf _ (yO s)
end QH
namespace QI
open YF Y9 Y10 Y1 Y2 P1 P2
section
variable {nm:tP}
theorem qrX{c k}(l:k<c.calls)(o)(h:c.ts.sT[k].name=nm)(i:∀(j) (g),j<k->c.ts.sT[j].name≠nm):zx c nm=some k:=by
 unfold zx;rw[List.findIdx?_eq_some_iff_getElem];refine⟨zSo,zP1 h,fun j g=>?_⟩;simp[i j zOm g]
theorem qrY{c}(i:∀ j g,j<c.calls->c.ts.sT[j].name≠nm):zx c nm=none:=by
 unfold zx;rw[List.findIdx?_eq_none_iff];intro p l;obtain⟨j,g,e⟩:=List.mem_iff_getElem.1 l;simp at g;rw[List.getElem_take]at e;rw[<-e];exact decide_eq_false (i j zOm zOm)
abbrev idxO:Option Nat->Int
 |some i=>i
 |none => -1
theorem VN(c)(P:okCk c)(nm):qi qe 90 [eTS c.ts,aI c.calls,aS nm] (aI (idxO (zx c nm))):=by
 refine qSV call90 func90 rfl ?_;have R:=P.calls;have U:=P.ts.np;simp[go_sem];refine aK c.calls (fun k T=>T.tm 1=aI c.calls/\T.tm 2=aS nm/\T.tm 3 = .ip (cTS c.ts)/\T.tm 7=aI k/\∀(j:Nat)(p:j<c.ts.sT.length),j<k->c.ts.sT[j].name≠nm) ?_ ?_
 .exact ⟨zSi,zSi,zSi,zSi,fun j p h=>zOm⟩
 rintro k T hk ⟨l,r,t,C,I⟩;by_cases g:k<c.calls
 .have w1:=zWk k
  have i:k<c.ts.sT.length:=zOm;by_cases o:c.ts.sT[k].name=nm
  .rw [qrX g i o I]
   simp[go_sem,l,r,t,C,g,i,o];exact .zsc _
  .simp [go_sem,l,r,t,C,g,i,j0 o,w1]
   refine aA ⟨zS1 l,zS1 r,zS1 t,zSi,fun j p a0=>?_⟩;by_cases he:j=k
   .subst he;exact o
   .exact I j p zOm
 .have J:k=c.calls:=by omega
  subst J;rw[qrY I];simp[go_sem,l,C];exact .zsc _
theorem Jw(op):qi qe 142 [aI op] (aB (yD op)):=by
 refine qSV call142 func142 rfl ?_;by_cases g:op=5
 .rw [show yD op=true by simp[yD,g]]
  simp[go_sem,g];exact .zsc _
 by_cases i:48<=op
 .by_cases j:op<=51
  .rw [show yD op=true by unfold yD;rcases (show op=48\/op=49\/op=50\/op=51 by omega) with h|h|h|h<;>simp[h]]
   simp[go_sem,g,i,j];exact .zsc _
  .rw [show yD op=false by simp[yD,g,show ¬op=48 by omega,show ¬op=49 by omega,show ¬op=50 by omega,show ¬op=51 by omega]]
   simp[go_sem,g,i,j];exact .zsc _
 .rw [show yD op=false by simp[yD,g,show ¬op=48 by omega,show ¬op=49 by omega,show ¬op=50 by omega,show ¬op=51 by omega]]
  simp[go_sem,g,i];exact .zsc _
abbrev rBo(b:Bool):List AV:=[aB b]
abbrev lBo(l:List Bool):AV := .lst false (l.map rBo)
theorem VO(l):HF (lBo l):=HF.lst fun r i c g=>by
 obtain⟨b,_,rfl⟩:=qn.1 i;rw[qV]at g;subst g;exact HF.sc _
def tpB(c:Ck)(nm:tP):Bool:=match zx c nm with|some p=>c.timed.getD p false|none=>false
theorem Jx(c)(o:okCk c)(nm):qi qe 143 [eTS c.ts,lBo c.timed,aI c.calls,aS nm] (aB (tpB c nm)):=by
 generalize i:tpB c nm=r;unfold tpB at i;refine qSU call143 func143 rfl ?_;refine tS (VN c o nm) (.zk (zp _) (.zs (.zs .nil))) ?_;cases j:zx c nm with
 |none =>
  rw[j]at i;subst i;simp[go_sem,idxO];exact .zsc _
 |some p =>
  rw[j]at i;by_cases l:p<c.timed.length
  .have g:r=c.timed[p]:=by rw[<-i];simp[List.getD,l]
   subst g;simp[go_sem,idxO,l];exact .zsc _
  .have g:r=false:=by rw[<-i];simp[List.getD,l]
   subst g;simp[go_sem,idxO,l];exact .zsc _
theorem qeN(c)(hc:okCk c)(hl:c.timed.length=c.calls):∀ m n,szN n<=m->Small n->qi qe 148 [eTS c.ts,lBo c.timed,eNd n] (aB (yH c n))
 | 0,n,hm,_=>by obtain⟨op,nm,i,ks,p⟩:=n;simp[szN]at hm
 |m+1,n,hm,hs=>by
  have ih:∀ k,k∈n.sD->qi qe 148 [eTS c.ts,lBo c.timed,eNd k] (aB (yH c k)):=fun k P =>
   qeN c hc hl m k (zW1 (yu P)) (hs.kid P)
  have a0:=hs.len;have U:zY c n.op n.name=(yD n.op||(decide (n.op=47)&&tpB c n.name)):=rfl;rw[UK,U];generalize hR:n.sD.any (yH c)=R;have ct:=Jw n.op;have cp:=Jx c hc n.name;generalize yD n.op=T at *
  generalize tpB c n.name=B at *
  refine qSU call148 func148 rfl ?_;refine tS ct (.zs .nil) ?_;cases T with
  |true =>
   simp[go_sem];exact .zsc _
  |false =>
  rw[Bool.false_or];by_cases h47:n.op=47
  .rw [decide_eq_true h47,Bool.true_and]
   simp[go_sem,h47,hl];refine tS cp (.zk (zp _) (.zk (VO _) (.zs (.zs .nil)))) ?_;cases B with
   |true =>
    simp[go_sem];exact .zsc _
   |false =>
   rw[Bool.false_or];simp[go_sem];refine aK n.sD.length (fun k l=>l.tm 1=lBo c.timed/\l.tm 3 = .ip (cTS c.ts)/\l.tm 5 = .ip (cNd n)/\l.tm 7=aI k/\(n.sD.drop k).any (yH c)=R) ?_ ?_
   .exact ⟨zSi,zSi,zSi,zSi,zUs hR⟩
   rintro k l P ⟨C,I,o,r,j⟩;by_cases t:k=n.sD.length
   .subst t
    rw[yd]at j;have j:R=false:=by rw[<-j];rfl
    subst j;simp[go_sem,o,r];exact .zsc _
   have g:k<n.sD.length:=zOm;have w1:=zWk k;rw[zu g,List.any_cons]at j;have hi:=ih n.sD[k] (qs g);simp[go_sem,o,r,g];refine cJ zKr ?_;simp[go_sem,C,I,o,r,g];refine tS hi (.zk (zp _) (.zk (VO _) (.zk (qK _) .nil))) ?_;cases J:yH c n.sD[k] with
   |true =>
    rw[J,Bool.true_or]at j;subst j;simp[go_sem];exact .zsc _
   |false =>
    rw[J,Bool.false_or]at j;simp[go_sem,r,g,w1];exact aA ⟨zS1 C,zS1 I,zS1 o,zSi,j⟩
  .rw [decide_eq_false h47,Bool.false_and,Bool.false_or]
   simp[go_sem,h47];refine aK n.sD.length (fun k l=>l.tm 1=lBo c.timed/\l.tm 3 = .ip (cTS c.ts)/\l.tm 5 = .ip (cNd n)/\l.tm 7=aI k/\(n.sD.drop k).any (yH c)=R) ?_ ?_
   .exact ⟨zSi,zSi,zSi,zSi,zUs hR⟩
   rintro k l P ⟨C,I,o,r,j⟩;by_cases t:k=n.sD.length
   .subst t
    rw[yd]at j;have j:R=false:=by rw[<-j];rfl
    subst j;simp[go_sem,o,r];exact .zsc _
   have g:k<n.sD.length:=zOm;have w1:=zWk k;rw[zu g,List.any_cons]at j;have hi:=ih n.sD[k] (qs g);simp[go_sem,o,r,g];refine cJ zKr ?_;simp[go_sem,C,I,o,r,g];refine tS hi (.zk (zp _) (.zk (VO _) (.zk (qK _) .nil))) ?_;cases J:yH c n.sD[k] with
   |true =>
    rw[J,Bool.true_or]at j;subst j;simp[go_sem];exact .zsc _
   |false =>
    rw[J,Bool.false_or]at j;simp[go_sem,r,g,w1];exact aA ⟨zS1 C,zS1 I,zS1 o,zSi,j⟩
theorem pf(l:List Bool):zo 1 (l.map rBo):=fun r g=>by
 obtain⟨b,_,rfl⟩:=qn.1 g;exact⟨rfl,rfl⟩
theorem appBo{mu lo s xs b K}(j:OwnF lo mu 1 s (xs.map rBo))(p:xs.length<=100000)(l:∀ av mu',OwnF lo mu' 1 av ((xs++[b]).map rBo)->(∀ i,i<lo->mu'[i]?=mu[i]?)->K av mu') :
  qz qe mu #[58,58] s (.lst true [[aB b]]) K:=by
 refine qz.ownF (lo:=lo) (e:=4) (sz:=1) (bt:=1) (zv:=aB false) (xs:=xs.map rBo) (ys:=[rBo b]) zSi zSi zSi rfl rfl zOm zOm j (by simp[qE]) (pf xs) (pf [b]) zSo ?_;intro av mu' h o;exact l av mu' (by rw[ze];exact h) o
theorem rdBo{lo mu av l}(j:OwnF lo mu 1 av (l.map rBo)):Rd mu av (lBo l):=
 Own.rd (sz:=1) j.1 (pf l).ok fun r o c i=>by
  obtain⟨b,_,rfl⟩:=qn.1 o;rw[qV]at i;subst i;exact HF.sc _
theorem qrZ(ts)(h:okTS ts)(U:∀ p,p∈ts.sT->WfN p.body):qi qe 93 [eTS ts] (lBo (tmsL ts ts.sT.length)):=by
 refine qSV call93 func93 rfl ?_;have a0:=h.np;simp[go_sem];refine aK ts.sT.length (fun k T=>T.tm 1 = .ip (cTS ts)/\T.tm 4=aI k/\OwnF 0 T.mu 1 (T.tm 3) ((tmsL ts k).map rBo)) ?_ ?_
 .exact ⟨zSi,zSi,by simp[go_sem,tmsL];exact OwnF.nil (Yl _)⟩
 rintro k T hk ⟨j,l,o⟩;by_cases g:k<ts.sT.length
 .have w1:=zWk k
  generalize r:T.tm 3=t at *
  have C:=rdBo o;have ht:=qeN (mkCk ts k) (uj h zOm) (Ya ts k zOm) (szN ts.sT[k].body) ts.sT[k].body (qr _) (U _ (qs g)).small;have R:=Ya ts k zOm;have i:tmsL ts (k+1)=tmsL ts k++[yH (mkCk ts k) ts.sT[k].body]:=by
   show tmsL ts k++(match ts.sT[k]? with|some p=>[yH ⟨ts,k,tmsL ts k⟩ p.body] | none=>[])=_;rw[qA g];rfl
  simp[go_sem,j,l,g];refine cJ zKr ?_;simp[go_sem,j,l,r,g];refine fY (args':=[eTS ts,lBo (tmsL ts k),eNd ts.sT[k].body]) ht ⟨.hf _ (zp ts),C,.hf _ (qK _),trivial⟩ (FL.sc _) ?_;simp[go_sem];refine appBo o zOm fun a1 m' J _=>?_
  simp[go_sem,l,g,w1];exact aA ⟨zS1 j,zSi,by rw[i];simpa[go_sem] using J⟩
 .have P:k=ts.sT.length:=by omega
  subst P;generalize r:T.tm 3=t at *
  simp[go_sem,j,l,r];exact rdBo o
end
end QI
namespace QJ
open YF Y10 Y1 P1 QD QE QF
abbrev Vr:=tP×RS
abbrev cVr(v:Vr):List AV:=aS v.1 :: cRS v.2
abbrev lVr(l:List Vr):AV := .lst false (l.map cVr)
theorem qeO(v):∀ c,c∈cVr v->HF c:=fun c g=>by
 rcases qy.1 g with rfl|g
 .exact HF.sc _
 .exact ((setC v.2).sc c g).2
theorem qr0(l):HF (lVr l):=HF.lst fun r g c i=>by
 obtain⟨v,_,rfl⟩:=qn.1 g;exact qeO v c i
theorem pg(v):∀ c,c∈cVr v->c.one=true:=fun c g=>by
 rcases qy.1 g with rfl|g
 .rfl
 .exact ((setC v.2).sc c g).1
theorem ph(l:List Vr):zo 66 (l.map cVr):=fun r g=>by
 obtain⟨v,_,rfl⟩:=qn.1 g;exact⟨by simp[hB],zF.2 (pg v)⟩
theorem pi{mu lo s x}{xs ys:List Vr}{K}(j:OwnF lo mu 66 s (xs.map cVr))(l:qE mu x=some (ys.map cVr))(r:xs.length+ys.length<=100000)(o:∀ av mu',OwnF lo mu' 66 av ((xs++ys).map cVr)->(∀ i,i<lo->mu'[i]?=mu[i]?)->K av mu') :
  qz qe mu #[171,171] s x K:=by
 refine qz.ownF (lo:=lo) (e:=238) (sz:=66) (bt:=88) (zv := .agg (aS ⟨#[]⟩ :: aI 0 :: zs)) (xs:=xs.map cVr) (ys:=ys.map cVr) zSi zSi (by simp[go_sem];rfl) rfl rfl zOm zOm j l (ph xs) (ph ys) zSo ?_;intro av mu' h p;exact o av mu' (by rw[ze];exact h) p
theorem rdVr{lo mu av l}(i:OwnF lo mu 66 av (l.map cVr)):Rd mu av (lVr l):=
 Own.rd (sz:=66) i.1 (ph l).ok fun r j c o=>by
  obtain⟨v,_,rfl⟩:=qn.1 j;exact qeO v c o
theorem pcV(n q):putCells (aS n :: aI 0 :: zs) 1 (aI q.1 :: hB q.2)=cVr (n,q):=by
 have g:zs.length=64:=rfl;rw[jg _ _ _ (by simp[qw,g])];simp[qw,g,List.drop_of_length_le]
def envV(env:List (tP×Int)):List Vr:=env.map fun p=>(p.1,qt (kOf [p.2]))
theorem envU(env)(hl:env.length<=1000)(hr:∀ p,p∈env->0<=p.2/\p.2<4):qi qe 94 [lPm env] (lVr (envV env)):=by
 refine qSU call94 func94 rfl ?_;refine aK env.length (fun k T=>T.tm 0=lPm env/\T.tm 4=aI k/\OwnF 0 T.mu 66 (T.tm 3) ((envV (env.take k)).map cVr)) ?_ ?_
 .exact ⟨zSi,zSi,by simp[go_sem,envV];exact OwnF.nil (Yl _)⟩
 rintro k T hk ⟨o,r,I⟩;by_cases g:k<env.length
 .have w1:=zWk k
  generalize J:T.tm 3=t at *
  have hp:=hr _ (qs g);have c1:qi qe 149 [lI [env[k].2]] (eRS (qt (kOf [env[k].2]))):=by
   have:=oneU [env[k].2] zSp;rw[kY]at this;rw[<-QF.pa (l:=[env[k].2]) zSp (fun x hx=>by rw[qV]at hx;subst hx;exact hp)];exact this
  have j:envV (env.take (k+1))=envV (env.take k)++[(env[k].1,qt (kOf [env[k].2]))]:=by
   unfold envV;rw[List.take_succ_eq_append_getElem g,ze];rfl
  have a2:(envV (env.take k)).length=k:=by simp[envV];omega
  generalize qt (kOf [env[k].2])=q at *
  simp[go_sem,o,r,g];refine cJ zKr ?_;simp[go_sem,o,r,J,g];refine fR c1 (.cons (QD.wk1 _) .nil) ?_;rw[if_pos ⟨qw _,zj _⟩];generalize hC:putCells _ 1 _=C;have P:C=cVr (env[k].1,q):=by rw[<-hC];exact pcV _ _
  subst P;clear hC;have R:(cVr (env[k].1,q)).length=66:=by simp[qw]
  have U:=pg (env[k].1,q);generalize hV:cVr (env[k].1,q)=V at *
  simp[go_sem,R];rw[if_pos U];simp[go_sem];refine pi (ys:=[(env[k].1,q)]) I (by simp[qE,hV]) zSo fun a3 m' a0 _=>?_
  simp[go_sem,r,g,w1];exact aA ⟨zS1 o,zSi,by rw[j];simpa[go_sem] using a0⟩
 .have a1:k=env.length:=by omega
  subst a1;rw[qO]at I;generalize J:T.tm 3=t at *
  simp[go_sem,o,r,J];exact rdVr I
end QJ
namespace QK
open Y9 Y2 P1 QD QE QF
def fin(c:List AV)(l:List Kd):List AV:=match l.getLast? with|some k=>cRS (qt k)|none=>c
theorem VP(c l m):fin c (l++m)=fin (fin c l) m:=by
 unfold fin;rw[List.getLast?_append];cases m.getLast?<;>rfl
theorem WB(c k):fin c [k]=cRS (qt k):=rfl
theorem oneK{l}(h:1<=l.length/\l.length<=3)(g:∀ x,x∈l->0<=x/\x<4):oneC l=cRS (qt (kOf l)):=by
 rw[kY];exact AV.agg.inj (QF.pa h g)
theorem qeP(nm):∀ l c k,(∀ f,f∈l->(1<=f.sS.length/\f.sS.length<=3)/\∀ x,x∈f.sS->0<=x/\x<4)->nmF nm l (c,k)=(fin c (yS l nm),k+(yS l nm).length)
 | [],c,k,_=>rfl
 |f :: l,c,k,h=>by
  have hf:=h f (zg ..);have j:=fun c k=>qeP nm l c k fun g o=>h g (q8 _ o)
  by_cases i:f.name=nm
  .have e:yS (f :: l) nm=[kOf f.sS]++yS l nm:=by simp[yS,i]
   rw[e,VP,WB];simp only[nmF,stF,if_pos i];rw[j,oneK hf.1 hf.2];simp;omega
  .have e:yS (f :: l) nm=yS l nm:=by simp[yS,i]
   rw[e];simp only[nmF,stF,if_neg i];exact j c k
theorem st_eq(nm i)(C:i<4)(x c k):st3 nm i x (st2 nm i x (st1 nm i x (c,k)))=(fin c (uy i x nm),k+(uy i x nm).length):=by
 have j:=oneK (l:=[(i:Int)]) zSp (fun y g=>by simp at g;subst g;omega);have o:=oneK (l:=[(i:Int),(i:Int)]) zSp (fun y g=>by simp at g;rcases g with rfl|rfl<;>omega);have p:∀ c k,st1 nm i x (c,k)=(fin c (if x.1=nm then [kOf [(i:Int)]] else []),k+(if x.1=nm then [kOf [(i:Int)]] else []).length):=fun c k=>by
  unfold st1;split
  .rw [WB,j];rfl
  .rfl
 have r:∀ c k,st2 nm i x (c,k)=(fin c (if x.2=true/\x.1++jj=nm then [kOf [(i:Int)]] else []),k+(if x.2=true/\x.1++jj=nm then [kOf [(i:Int)]] else []).length):=fun c k=>by
  unfold st2;split
  .rw [WB,j];rfl
  .rfl
 have t:∀ c k,st3 nm i x (c,k)=(fin c (if x.2=true/\x.1++vj=nm then [kOf [(i:Int),(i:Int)]] else []),k+(if x.2=true/\x.1++vj=nm then [kOf [(i:Int),(i:Int)]] else []).length):=fun c k=>by
  unfold st3;split
  .rw [WB,o];rfl
  .rfl
 unfold uy;rw[p,r,t,VP,VP,zd,zd];simp only[Nat.add_assoc]
theorem qeQ(nm):∀ l i c k,i+l.length<=4->nmS nm i l (c,k)=(fin c (yT i l nm),k+(yT i l nm).length)
 | [],i,c,k,_=>rfl
 |x :: l,i,c,k,h=>by
  simp only[zG]at h;have g:=fun c k=>qeQ nm l (i+1) c k zOm
  simp only[nmS,yT];rw[st_eq nm i zOm,g,VP,zd,Nat.add_assoc]
theorem pj{ts}(h:okTS ts)(nm):named ts nm=(fin (aI 0 :: zs) (means ts nm),(means ts nm).length):=by
 unfold named means;rw[qeP nm ts.sA _ _ fun f hf=>?_,qeQ nm ts.sS _ _ _ (zW1 h.ns),VP,zd,yj];have:=h.fl f hf;have g:=h.ns;exact⟨zOm,fun x i=>zW1 (this.2.2 x i)⟩
end QK
end Go.Proofs.YtipbakanneogpaaGreatDoor
