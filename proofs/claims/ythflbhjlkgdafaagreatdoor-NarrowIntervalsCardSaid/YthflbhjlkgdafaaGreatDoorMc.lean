/-
  Own library, part 3: an abstract reading of values and a calculus over it; contracts of functions; plain lemmas.
-/
import Derived.Test.YthflbhjlkgdafaaGreatDoorProg
import Derived.KernelRfl
import Derived.RecoverIn
import Derived.Sort.Grow
import Derived.Shelf.Small.Bits
import Derived.Shelf.Small.Wraps
import Derived.Shelf.Strconv.Itoa0
import Derived.Shelf.Strconv.Itoa1
import Derived.Shelf.LaysM
import Derived.Shelf.Strconv.Itoa2
import Derived.Shelf.Strconv.Itoa3
import Derived.Shelf.Sort.Plain
import Derived.Shelf.Bits.Mul64
import Derived.Shelf.Slices.Equal
import Derived.Ground.Names2Prog
import Derived.Shelf.Slices.Clone
import Derived.Shelf.Slices.CompactI
import Derived.Shelf.Slices.SearchI
import Derived.Shelf.Slices.Cells
import Derived.Shelf.Slices.In.SortNone
import Derived.Ground.SlgnProg
import Derived.Shelf.SlicesE.Clone
import Derived.Ground.SlsfProg
import Derived.Shelf.SlSortCmp.Insertion
import Derived.Shelf.SlSortCmp.SiftDown1
import Derived.Shelf.SlSortCmp.HeapSort1
import Derived.Shelf.SlSortCmp.Insertion1
import Derived.Shelf.SlSortCmp.Median1
import Derived.Shelf.SlSortCmp.Pivot1
import Derived.Shelf.SlSortCmp.ReverseRange1
import Derived.Shelf.SlSortCmp.PartialInsertion1
import Derived.Shelf.SlSortCmp.PartitionEqual1
import Derived.Shelf.SlSortCmp.Partition1
import Derived.Shelf.SlSortCmp.Pdq1
import Derived.Shelf.SlSortCmp.Whole1
import Derived.Shelf.SlSortCmp.NoneTotal
import Derived.Test.YthflbhjlkgdafaaGreatDoorMb
set_option linter.unusedVariables false
set_option linter.unusedSimpArgs false
set_option maxRecDepth 100000
open Go renaming Program->qc,Oper->yj,Operand->qh,FuncId->zV,Value->qf,World->qe,undef->z6,TypeId->qd
open Go.Proofs.Tryz renaming prog->qg
open List renaming getElem?_eq_some_iff->ql,mem_map->qp,range->qu,getElem_mem->qv,getElem?_eq_getElem->qy,mem_cons->qz,getElem?_set_self->qJ,getElem?_append_left->qL,replicate->qM,not_mem_nil->qO,mem_append->qP,mem_singleton->qX,all_eq_true->qY,mem_of_getElem?->q8,drop_eq_getElem_cons->ze,map_cons->zf,map_append->zi,getElem?_map->zz,append_assoc->zL,take_of_length_le->zU,mem_range->zW,getElem?_append_right->zZ,length_cons->yy,mem_filter->jg,nodup_cons->ve,getElem?_take->vf,ext_getElem?->vg,mem_flatMap->vY,mem_iff_getElem->uA,take_append_drop->uJ,getElem?_drop->uK,flatten_cons->wm,getElem?_eq_none->w6,pairwise_cons->w7,getElem?_range->Qa,nodup_append->ZE
open Nat renaming le_refl->qn,zero_add->yJ,le_of_ble_eq_true->vd,lt_of_lt_of_le->ZC
open Go.IntKind renaming i64->qo
open Option.some renaming injEq->qs
open Bool renaming and_eq_true->qD
open Array renaming getD_eq_getD_getElem?->qU,getElem?_eq_some_iff->yI,getElem?_eq_getElem->Qc
open Option renaming map_some->zh
open List.Nodup renaming length_le_of_subset->jl
namespace Go.Ev
open Go Go.RowKit
section
variable {g:AV->St->Prop}{ops:Array yj}{pl:Pol}{P:qc}
theorem qH.mono{det C op ev mu K K' Kp I}(h:qH P pl det C op ev mu K Kp)
  (o:∀ v m,K v m->K' v m) (U:∀ v m,Kp v m->I v m):qH P pl det C op ev mu K' I:=by
 cases op<;>simp only[qH]at h⊢<;>try (exact h.elim)
 case move=>exact o _ _ h
 case assign=>exact o _ _ h
 case makeFunc=>exact o _ _ h
 case pick=>grind
 case alloc=>obtain⟨z,j,l,p⟩:=h;exact⟨z,j,l,o _ _ p⟩
 case box =>
  obtain⟨j,l⟩:=h;refine⟨j,?_⟩;split at l
  .grind
  grind
 case build=>obtain⟨t,z,j,l⟩:=h;exact⟨t,z,j,o _ _ l⟩
 case buildSlice=>obtain⟨z,j,l⟩:=h;exact⟨z,j,o _ _ l⟩
 case load=>obtain⟨z,j,l⟩:=h;exact⟨z,j,o _ _ l⟩
 case store=>obtain⟨z,j,l⟩:=h;exact⟨z,j,o _ _ l⟩
 case nilCheck=>obtain⟨z,j,l⟩:=h;exact⟨z,j,o _ _ l⟩
 case binOp =>
  split at h
  .rename_i hy
   simp only[if_pos hy];exact h.mono fun z hz=>o _ _ hz
  .rename_i hy
   simp only[if_neg hy];obtain⟨z,j,l⟩:=h;exact⟨z,j,o _ _ l⟩
 case unOp=>obtain⟨z,j,l⟩:=h;exact⟨z,j,o _ _ l⟩
 case convert=>obtain⟨t,z,j,l⟩:=h;exact⟨t,z,j,o _ _ l⟩
 case makeInterface=>grind
 case makeSlice=>obtain⟨z,j,l⟩:=h;exact⟨z,j,o _ _ l⟩
 case slice=>obtain⟨t,z,j,l⟩:=h;exact⟨t,z,j,o _ _ l⟩
 case fieldAddr=>obtain⟨z,j,l⟩:=h;exact⟨z,j,o _ _ l⟩
 case field=>obtain⟨z,j,l⟩:=h;exact⟨z,j,o _ _ l⟩
 case indexAddr=>obtain⟨z,j,l⟩:=h;exact⟨z,j,o _ _ l⟩
 case index=>obtain⟨z,j,l⟩:=h;exact⟨z,j,o _ _ l⟩
 case extract=>obtain⟨z,j,l⟩:=h;exact⟨z,j,o _ _ l⟩
 case typeAssert=>obtain⟨z,j,l⟩:=h;exact⟨z,j,o _ _ l⟩
 case makeMap=>grind
 case lookup=>obtain⟨z,j,l⟩:=h;exact⟨z,j,o _ _ l⟩
 case mapUpdate=>obtain⟨z,j,l⟩:=h;exact⟨z,j,o _ _ l⟩
 case insert=>obtain⟨z,j,l⟩:=h;exact⟨z,j,o _ _ l⟩
 case mapEntry=>obtain⟨z,j,l⟩:=h;exact⟨z,j,o _ _ l⟩
 case entryStore=>obtain⟨z,j,l⟩:=h;exact⟨z,j,o _ _ l⟩
 case range=>obtain⟨z,j,l⟩:=h;exact⟨z,j,o _ _ l⟩
 case next=>obtain⟨t,a0,b,J,seen,j,l,p,T⟩:=h;exact⟨t,a0,b,J,seen,j,l,fun i e a c=>o _ _ (p i e a c),fun a=>o _ _ (T a)⟩
 case entry=>obtain⟨z,j,l⟩:=h;exact⟨z,j,o _ _ l⟩
 case panic=>grind
 case call c =>
  obtain⟨callee,args,a1⟩:=c;cases callee with
  |invoke r m=>exact h.elim
  |value f =>
   rcases h with ⟨v,j,l⟩|⟨j,⟨g,fi,ca,R,l,p,T,h5⟩|⟨i,R,l,p,T⟩⟩
   .exact .inl ⟨v,j,o _ _ l⟩
   .exact .inr ⟨j,.inl ⟨g,fi,ca,R,l,p,fun r m h=>o _ _ (T r m h),fun r m h=>U _ _ (h5 r m h)⟩⟩
   .exact .inr ⟨j,.inr ⟨i,R,l,p,fun b m h=>o _ _ (T b m h)⟩⟩
  |builtin b =>
   cases b<;>simp only at h⊢<;>try (first | (obtain⟨z,m,j,l⟩:=h;exact⟨z,m,j,o _ _ l⟩) | (obtain⟨z,j,l⟩:=h;exact⟨z,j,o _ _ l⟩))
   obtain⟨s,x,j,h⟩:=h;exact⟨s,x,j,h.mono o⟩
theorem awpS.mono{det Q j p}(C:∀ st,Q st->j st)(i:∀ v st,p v st->g v st) :
  ∀ l st,awpS P pl det ops l Q p st->awpS P pl det ops l j g st:=by
 intro l;induction l with
 |nil=>intro st h;exact C st h
 |cons o l t =>
  intro st ⟨b,I,J,R⟩;exact⟨b,I,fun e=>(J e).mono (fun v m h=>t _ h) (fun v m h=>i _ _ h),fun e=>t _ (R e)⟩
theorem awpT.mono{Q p t}(I:∀ st,Q st->p st)(i:∀ v st,t v st->g v st) :
  ∀ l st,awpT P pl ops Q t l st->awpT P pl ops p g l st:=by
 intro l;induction l with
 |nil=>intro st h;exact I st h
 |cons e l C =>
  obtain⟨j,k,r⟩:=e;intro st h;simp only[awpT]at h⊢;cases J:ops[j]? with
  |none=>grind
  |some o =>
   rw[J]at h;simp only at h⊢;obtain⟨b,R,T,U⟩:=h;exact⟨b,R,fun e=>qH.mono (T e) (fun v m h=>⟨h.1,C _ h.2⟩) (fun v m h=>⟨h.1,fun tm=>i _ _ (h.2 tm)⟩),fun e=>C _ (U e)⟩
theorem awp.mono:∀(c){Q j st},awp P pl c Q st->(∀ e st,Q e st->j e st)->awp P pl c j st:=by
 intro c;induction c with
 |skip=>intro Q j st h g;exact g _ _ h
 |label l=>intro Q j st h g;exact g _ _ h
 |exit i=>intro Q j st h g;exact g _ _ h
 |ret=>intro Q j st h g;exact g _ _ h
 |region id a4 a3 =>
  intro Q j st h g;rcases h with ⟨o,p⟩|⟨o,p⟩
  .exact .inl ⟨o,awpS.mono (fun st h=>g _ _ h) (fun v st h=>g _ _ h) _ _ p⟩
  .obtain ⟨st1,C,p⟩:=p
   refine .inr ⟨o,st1,C,?_⟩;rcases p with (⟨J,U⟩|⟨n,J,U⟩|⟨a0,d,g1,g2,g3,g4,g5⟩)|⟨O,J,a2,U⟩
   .exact .inl (.inl ⟨J,awpS.mono (fun st h=>g _ _ h) (fun v st h=>g _ _ h) _ _ U⟩)
   .exact .inl (.inr (.inl ⟨n,J,awpS.mono (fun st h=>awpS.mono (fun st h=>g _ _ h) (fun v st h=>g _ _ h) _ _ h) (fun v st h=>g _ _ h) _ _ U⟩))
   .exact .inl (.inr (.inr ⟨a0,d,g1,g2,g3,awpS.mono (fun st h=>g _ _ h) (fun v st h=>g _ _ h) _ _ g4,awpS.mono (fun st h=>g _ _ h) (fun v st h=>g _ _ h) _ _ g5⟩))
   .exact .inr ⟨O,J,a2,awpT.mono (fun st h=>g _ _ h) (fun v st h=>g _ _ h) _ _ U⟩
 |seq a b R T =>
  intro Q j st h g;refine R (Q:=seqQ (awp P pl b Q) Q) h (fun e st h=>?_);cases e with
  |normal=>exact T h g
  |exit i=>exact g _ _ h
  |ret=>exact g _ _ h
  |pan v=>exact g _ _ h
 |cond a5 a b R T=>intro Q j st ⟨t,h0,o,p⟩ g;exact⟨t,h0,fun e=>R (o e) g,fun e=>T (p e) g⟩
 |block id b ih =>
  intro Q j st h g;refine ih (Q:=ui id Q) h (fun e st h=>?_);cases e with
  |normal=>exact g _ _ h
  |exit i =>
   simp only[ui]at h⊢;split at h
   .grind
   grind
  |ret=>exact g _ _ h
  |pan v=>exact g _ _ h
 |loop b ih =>
  intro Q j st ⟨z,I,n,st1,C,h0,o⟩ g;have g:∀ e st,fzQ z Q e st->fzQ z j e st:=fun e st h=>by
   cases z with
   |false=>exact g e st h
   |true=>exact⟨h.choose,h.choose_spec.1,h.choose_spec.2.1,g e _ h.choose_spec.2.2⟩
  refine⟨z,I,n,st1,C,h0,fun n st hI=>ih (Q:=wE I n (fzQ z Q)) (o n st hI) (fun e st h=>?_)⟩;cases e with
  |normal=>exact h
  |exit i=>exact g _ _ h
  |ret=>exact g _ _ h
  |pan v=>exact g _ _ h
 |scope b ih=>intro Q j st h g;exact ih h g
 |rangeFunc f ps a6 b a7 a8 =>
  intro Q j st ⟨z,gf,a1,rows,I,Ix,o,p,J,h6,h7,h8⟩ g;have g:∀ e st,fzQ z Q e st->fzQ z j e st:=fun e st h=>by
   cases z with
   |false=>exact g e st h
   |true=>exact⟨h.choose,h.choose_spec.1,h.choose_spec.2.1,g e _ h.choose_spec.2.2⟩
  exact⟨z,gf,a1,rows,I,Ix,o,p,J,h6,fun mu h=>g _ _ (h7 mu h),fun e mu h=>g _ _ (h8 e mu h)⟩
 |goto l=>intro Q j st h g;exact h.elim
 |refuse w=>intro Q j st h g;exact h.elim
def upQ(I:Nat->St->Prop)(N k:Nat)(Q:qW->St->Prop):qW->St->Prop
 | .normal,U=>k<N/\I (k+1) U
 |e,U=>Q e U
section
variable (Q:qW->St->Prop) (st:St) (I:Nat->St->Prop) (N k:Nat)
@[go_sem ↓] theorem qv5:(upQ I N k Q .normal st=(k<N/\I (k+1) st))/\(∀ i,upQ I N k Q (.exit i) st=Q (.exit i) st)/\(upQ I N k Q .ret st=Q .ret st)/\(∀ v,upQ I N k Q (.pan v) st=Q (.pan v) st):=by and_intros<;>intros<;>exact eqS rfl
end
end
section
variable {x:AV}{K i:AV->Mu->Prop}{g:zV}{args args' caps xs ys:List AV}{mu:Mu}{P:qc}{st:St}{Q:qW->St->Prop}
theorem qm.up{pl body}(N I)(j:I 0 st)(h:∀ k st,k<=N->I k st->awp P pl body (upQ I N k Q) st):qm P pl body Q st:=by
 refine tL (fun n st=>∃ k,n=N-k/\k<=N/\I k st) N ⟨0,zOm,zOm,j⟩ ?_;rintro n st ⟨k,rfl,l,o⟩;refine awp.mono body (h k st l o) (fun e st g=>?_);cases e with
 |normal=>exact⟨N-(k+1),zW1 g.1,k+1,rfl,g.1,g.2⟩
 |exit i=>exact g
 |ret=>exact g
 |pan v=>exact g
theorem fR{pl body}(N I)(j:I 0 st)(h:∀ k st,k<=N->I k st->awp P pl body (upQ I N k (FzQ Q)) st):qm P pl body Q st:=by
 refine fB (fun n st=>∃ k,n=N-k/\k<=N/\I k st) N ⟨0,zOm,zOm,j⟩ ?_;rintro n st ⟨k,rfl,l,o⟩;refine awp.mono body (h k st l o) (fun e st g=>?_);cases e with
 |normal=>exact⟨N-(k+1),zW1 g.1,k+1,rfl,g.1,g.2⟩
 |exit i=>exact g
 |ret=>exact g
 |pan v=>exact g
theorem qiZ(mu):∀ k,cutM (fun i=>!false) mu k=mu:=by
 induction mu with
 |nil=>intro k;rfl
 |cons c l g =>
  grind [cutM]
theorem FzQ.skip{e}(h:Q e st):FzQ Q e st:=by
 refine⟨st,⟨fun _=>false,(qiZ _ 0).symm,fun i => .same _⟩,?_,h⟩
 grind
theorem FzQ.one{i d b}(g:Rd (cutM (fun j=>j == b) st.mu 0) (st.tm d) x)(k:Q (.exit i) (st.put (some d) x (cutM (fun j=>!(j == b)) st.mu 0))):FzQ Q (.exit i) st:=by
 refine⟨_,⟨fun j=>j == b,rfl,fun j=>?_⟩,trivial,k⟩;simp only[St.put];split
 .rename_i h;subst h;exact .rd _ _ g
 .exact .same _
theorem t8{det v}(j:qj P g args' v)(l:WKs args args')(k:K v mu) :
  qi P det mu (.fn (.func g) [] []) args K i:=
 .inl ⟨v,.inl ⟨g,[],[],args',rfl,j,.inl (zUs l)⟩,k⟩
theorem fW{det v Q}(j:qj P g args' v)(l:WKs args args')(k:Q)(e:K v mu=Q:=by simp[go_sem];rfl):qi P det mu (.fn (.func g) [] []) args K i:=t8 j l (e.mpr k)
theorem qi.clo{det v}(j:qj P g args' v)(l:WKs (args++caps) args')(k:K v mu) :
  qi P det mu (.fn (.func g) [] caps) args K i:=
 .inl ⟨v,.inl ⟨g,[],caps,args',rfl,j,.inl (zUs l)⟩,k⟩
theorem fX{det v}(j:qj P g args' v)(l:Rds mu args args')(hf:FL v)(k:K v mu) :
  qi P det mu (.fn (.func g) [] []) args K i:=
 .inl ⟨v,.inl ⟨g,[],[],args',rfl,j,.inr ⟨zUs l,hf⟩⟩,k⟩
theorem fY{det v}(j:wu P g args' v)(l:Rds mu args args')(k:K v mu) :
  qi P det mu (.fn (.func g) [] []) args K i:=
 .inl ⟨v,.inr ⟨g,[],[],args',rfl,j,zUs l⟩,k⟩
theorem fH{R}(j:qC P g (args++caps) mu R)(k:∀ r m,R (.ret r) m->K r m)(kp:∀ r m,R (.pan r) m->i r m) :
  qi P false mu (.fn (.func g) [] caps) args K i:=
 .inr ⟨rfl,.inl ⟨g,[],caps,R,rfl,zUs j,k,kp⟩⟩
theorem qi.yield{i R g}(h:V6 P i args mu R)(k:∀ b m,R b m->K (.sc (.bool b)) m):qi P false mu (.yl i) args K g:=
 .inr ⟨rfl,.inr ⟨i,R,rfl,h,k⟩⟩
theorem jO.of{f rows}(g:yT P f)
  (h:∀ i I j,(∀ k mu,I k mu->I k (mu++[.dead]))->(∀ mu,j mu->j (mu++[.dead]))->Yld P i rows I j->∀ mu,I 0 mu ->
   qC P f (.yl i :: caps) mu fun e mu'=>∃ r,e = .ret r/\(I rows.length mu'\/j mu')):jO P f caps rows:=⟨g,h⟩
theorem WKs.nil:WKs [] []:=trivial
theorem WKs.cons{y}(h:WK x y)(t:WKs xs ys):WKs (x :: xs) (y :: ys):=⟨h,t⟩
theorem WKs.zk(h:HF x)(t:WKs xs ys):WKs (x :: xs) (x :: ys):=⟨WK.hf h,t⟩
theorem WKs.zs{v}(t:WKs xs ys):WKs (.sc v :: xs) (.sc v :: ys):=⟨WK.hf (HF.sc _),t⟩
def Own(mu:Mu)(sz:Nat)(av:AV)(xs:List (List AV)):Prop:=
 (av = .lst true xs)\/∃ b,av = .sl b sz 0 xs.length/\mu[b]?=some (.arr xs.flatten)
theorem qx.own{t g e sz bt:Nat}{s xs ys zv}(R:qF P t=some (e,sz,bt))(j:(qF P g).isSome=true)(T:qB P e=some zv)
  (l:zv.cells.length=sz) (o:zv.cells.all AV.one=true) (p:sz≠0) (U:bt<=16384) (ho:Own mu sz s xs) (hx:qA mu x=some ys) (C:qV sz xs) (wy:qV sz ys) (I:xs.length+ys.length<=4294967296)
  (k:∀ av mu',Own mu' sz av (xs++ys)->(∀ i,i<mu.length->(∀ off len,s ≠ .sl i sz off len)->mu'[i]?=mu[i]?)->mu.length<=mu'.length->K av mu'):qx P mu #[t,g] s x K:=by
 refine .inl ?_;refine⟨t,g,e,sz,bt,ys,rfl,R,j,⟨zv,T,l,o⟩,p,U,hx,wy,?_⟩;rcases ho with rfl|⟨b,rfl,hc⟩
 .refine .inl ⟨xs,rfl,C,I,fun h=>?_,fun h=>?_⟩
  .subst h
   exact k _ _ (.inl zSp) (fun _ _ _=>rfl) (qn _)
  .refine k _ _ (.inr ⟨mu.length,zSp,zSp⟩) (fun i J _=>?_) zSp
   rw[qL J]
 .have a0:=yK C.ok
  refine .inr ⟨b,xs.length,xs.flatten,rfl,hc,zOm,I,?_⟩;have a1:xs.flatten.take (xs.length*sz)=xs.flatten:=zU zOm;refine k _ _ (.inr ⟨mu.length,zSp,?_⟩) (fun i J a2=>?_) zSp
  .grind
  grind
theorem Own.rows{sz av xs}(h:Own mu sz av xs)(w:jn sz xs):qA mu av=some xs:=by
 rcases h with rfl|⟨b,rfl,j⟩
 .rfl
 .have l:=yK w
  simp only[qA,j];rw[if_pos zOm];congr 1;apply vg;intro i;by_cases g:i<xs.length
  .simp only[zz,Qa g,zh,yJ]
   rw[qy g];congr 1;have o:=w _ (qv g);rw[<-pI w i,ze g,wm,List.take_append_of_le_length zOm,zU zOm]
  grind
theorem Own.rd{sz av xs}(h:Own mu sz av xs)(w:jn sz xs)(hf:∀ r,r∈xs->∀ c,c∈r->HF c):Rd mu av (.lst false xs):=by
 rcases h with rfl|⟨b,rfl,l⟩
 .exact .wk _ true _ (.hf _ (HF.lst hf))
 .have o:=yK w
  refine .sl b sz 0 xs.length xs.flatten xs l zOm rfl w (fun k x y i j=>?_);rw[yJ,j]at i;cases i;obtain⟨r,p,g⟩:=List.mem_flatten.1 (q8 j);exact .hf _ (hf r p _ g)
end
end Go.Ev
namespace Go.Proofs.YthflbhjlkgdafaaGreatDoor
open Go Go.Ev Go.Proofs Tryz
namespace Ty
@[go_sem] theorem sz3:(szOf qg 3=some 1)/\(zg qg 3=some false)/\(qB qg 3=some (.sc (.int .i64 0)))/\(szOf qg 4=some 1)/\(zg qg 4=some false)/\(qB qg 4=some (.sc (.bool false)))/\(WB qg 4=true)/\(qB qg 5=some (.sc (.int .u8 0)))/\(szOf qg 9=some 1)/\(zg qg 9=some false):=by and_intros<;>exact eqS zKr
@[go_sem] theorem ze9:(qB qg 9=some (.sc (.string ⟨#[]⟩)))/\(WD qg 20=true)/\(WE qg 20=true)/\(szOf qg 22=some 1)/\(zg qg 22=some false)/\(qF qg 22=some (75,2,24))/\(szOf qg 23=some 1)/\(zg qg 23=some false)/\(qF qg 23=some (77,3,48))/\(szOf qg 24=some 1):=by and_intros<;>exact eqS zKr
@[go_sem] theorem ag24:(zg qg 24=some false)/\(qF qg 24=some (84,7,104))/\(szOf qg 25=some 1)/\(zg qg 25=some false)/\(qF qg 25=some (86,6,80))/\(szOf qg 27=some 4)/\(zg qg 27=some true)/\(qB qg 27=some (.agg [.lst true [],.lst true [],.lst true [],.lst true []]))/\(ym qg 27=some (plc [(0,1),(1,1),(2,1),(3,1)]))/\(qI qg 27 0=some (0,22,1)):=by and_intros<;>exact eqS zKr
@[go_sem] theorem fl27_1:(qI qg 27 1=some (1,23,1))/\(qI qg 27 2=some (2,24,1))/\(qI qg 27 3=some (3,25,1))/\(yi qg 27=true)/\(szOf qg 28=some 1)/\(zg qg 28=some false)/\(qB qg 28=some (.lst true []))/\(qF qg 28=some (3,1,8))/\(szOf qg 30=some 2)/\(zg qg 30=some true):=by and_intros<;>exact eqS zKr
@[go_sem] theorem ze30:(qB qg 30=some (.agg [.lst true [],.sc (.int .i64 0)]))/\(ym qg 30=some (plc [(0,1),(1,1)]))/\(qI qg 30 0=some (0,28,1))/\(qI qg 30 1=some (1,3,1))/\(yi qg 30=true)/\(szOf qg 31=some 1)/\(zg qg 31=some false)/\(qF qg 31=some (44,4,64))/\(szOf qg 32=some 1)/\(zg qg 32=some false):=by and_intros<;>exact eqS zKr
@[go_sem] theorem ze32:(qB qg 32=some (.lst true []))/\(qF qg 32=some (34,5,64))/\(szOf qg 34=some 5)/\(zg qg 34=some true)/\(qB qg 34=some (.agg [.sc (.int .i64 0),.sc (.string ⟨#[]⟩),.sc (.int .i64 0),.lst true [],.sc (.int .i64 0)]))/\(ym qg 34=some (plc [(0,1),(1,1),(2,1),(3,1),(4,1)]))/\(qI qg 34 0=some (0,3,1))/\(qI qg 34 1=some (1,9,1))/\(qI qg 34 2=some (2,3,1))/\(qI qg 34 3=some (3,32,1)):=by and_intros<;>exact eqS zKr
@[go_sem] theorem fl34_4:(qI qg 34 4=some (4,3,1))/\(yi qg 34=true)/\(szOf qg 35=some 1)/\(zg qg 35=some false)/\(qF qg 35=some (54,2,24))/\(szOf qg 36=some 1)/\(zg qg 36=some false)/\(qB qg 36=some (.lst true []))/\(qF qg 36=some (4,1,1))/\(szOf qg 42=some 2):=by and_intros<;>exact eqS zKr
@[go_sem] theorem ag42:(zg qg 42=some true)/\(qB qg 42=some (.agg [.sc (.int .i64 0),.lst true []]))/\(ym qg 42=some (plc [(0,1),(1,1)]))/\(qI qg 42 0=some (0,3,1))/\(qI qg 42 1=some (1,28,1))/\(yi qg 42=true)/\(szOf qg 44=some 4)/\(zg qg 44=some true)/\(qB qg 44=some (.agg [.sc (.int .i64 0),.lst true [],.sc (.int .i64 0),.lst true []]))/\(ym qg 44=some (plc [(0,2),(2,2)])):=by and_intros<;>exact eqS zKr
@[go_sem] theorem fl44_0:(qI qg 44 0=some (0,42,2))/\(qI qg 44 1=some (2,42,2))/\(yi qg 44=true)/\(szOf qg 45=some 1)/\(zg qg 45=some false)/\(qB qg 45=some (.sc (.int .i64 0)))/\(Ze qg 45=true)/\(szOf qg 48=some 1)/\(zg qg 48=some false)/\(qF qg 48=some (109,1,24)):=by and_intros<;>exact eqS zKr
@[go_sem] theorem sz50:(szOf qg 50=some 4)/\(zg qg 50=some true)/\(qB qg 50=some (.agg [.lst true [],.sc (.int .i64 0),.lst true [],.sc (.int .i64 0)]))/\(ym qg 50=some (plc [(0,2),(2,1),(3,1)]))/\(qI qg 50 0=some (0,30,2))/\(qI qg 50 1=some (2,48,1))/\(qI qg 50 2=some (3,3,1))/\(yi qg 50=true)/\(szOf qg 52=some 1)/\(zg qg 52=some false):=by and_intros<;>exact eqS zKr
@[go_sem] theorem sl52:(qF qg 52=some (56,2,24))/\(szOf qg 54=some 2)/\(zg qg 54=some true)/\(qB qg 54=some (.agg [.sc (.string ⟨#[]⟩),.sc (.int .i64 0)]))/\(ym qg 54=some (plc [(0,1),(1,1)]))/\(qI qg 54 0=some (0,9,1))/\(qI qg 54 1=some (1,3,1))/\(yi qg 54=true)/\(szOf qg 56=some 2)/\(zg qg 56=some true):=by and_intros<;>exact eqS zKr
@[go_sem] theorem ze56:(qB qg 56=some (.agg [.sc (.string ⟨#[]⟩),.sc (.int .i64 0)]))/\(ym qg 56=some (plc [(0,1),(1,1)]))/\(qI qg 56 0=some (0,9,1))/\(qI qg 56 1=some (1,3,1))/\(yi qg 56=true)/\(szOf qg 63=some 2)/\(zg qg 63=some true)/\(qB qg 63=some (.agg [.sc (.int .i64 0),.sc (.int .i64 0)]))/\(ym qg 63=some (plc [(0,1),(1,1)]))/\(qI qg 63 0=some (0,45,1)):=by and_intros<;>exact eqS zKr
@[go_sem] theorem zo63:(yi qg 63=true)/\(szOf qg 75=some 2)/\(zg qg 75=some true)/\(qB qg 75=some (.agg [.sc (.string ⟨#[]⟩),.sc (.bool false)]))/\(ym qg 75=some (plc [(0,1),(1,1)]))/\(qI qg 75 0=some (0,9,1))/\(qI qg 75 1=some (1,4,1))/\(yi qg 75=true)/\(szOf qg 77=some 3)/\(zg qg 77=some true):=by and_intros<;>exact eqS zKr
@[go_sem] theorem ze77:(qB qg 77=some (.agg [.sc (.string ⟨#[]⟩),.lst true [],.sc (.bool false)]))/\(ym qg 77=some (plc [(0,1),(1,1),(2,1)]))/\(qI qg 77 0=some (0,9,1))/\(qI qg 77 1=some (1,28,1))/\(qI qg 77 2=some (2,4,1))/\(yi qg 77=true)/\(szOf qg 84=some 7)/\(zg qg 84=some true)/\(qI qg 84 0=some (0,9,1))/\(qI qg 84 1=some (1,35,1)):=by and_intros<;>exact eqS zKr
@[go_sem] theorem fl84_2:(qI qg 84 2=some (2,34,5))/\(szOf qg 86=some 6)/\(zg qg 86=some true)/\(qB qg 86=some (.agg [.sc (.string ⟨#[]⟩),.sc (.int .i64 0),.sc (.string ⟨#[]⟩),.sc (.int .i64 0),.lst true [],.sc (.int .i64 0)]))/\(qI qg 86 0=some (0,9,1))/\(qI qg 86 1=some (1,34,5))/\(qF qg 88=some (63,2,16))/\(qF qg 96=some (28,1,24))/\(qF qg 99=some (102,5,80))/\(qB qg 102=some (.agg [.sc (.string ⟨#[]⟩),.sc (.int .i64 0),.lst true [],.sc (.int .i64 0),.lst true []])):=by and_intros<;>exact eqS zKr
@[go_sem] theorem pl102:(ym qg 102=some (plc [(0,1),(1,4)]))/\(qI qg 102 0=some (0,9,1))/\(qI qg 102 1=some (1,44,4))/\(yi qg 102=true)/\(szOf qg 103=some 1)/\(zg qg 103=some false)/\(qB qg 105=some (.agg [.lst true [],.lst true [],.lst true [],.lst true [],.lst true [],.sc (.int .i64 0),.lst true [],.sc (.int .i64 0),.sc (.bool false)]))/\(ym qg 105=some (plc [(0,4),(4,2),(6,1),(7,1),(8,1)]))/\(qI qg 105 0=some (0,27,4))/\(qI qg 105 1=some (4,30,2)):=by and_intros<;>exact eqS zKr
@[go_sem] theorem fl105_2:(qI qg 105 2=some (6,31,1))/\(qI qg 105 3=some (7,3,1))/\(qI qg 105 4=some (8,4,1))/\(yi qg 105=true)/\(qF qg 107=some (110,2,16))/\(szOf qg 109=some 1)/\(zg qg 109=some false)/\(qB qg 109=some (.lst true []))/\(qF qg 109=some (42,2,32))/\(qB qg 110=some (.agg [.sc (.int .i64 0),.sc (.int .i64 0)])):=by and_intros<;>exact eqS zKr
@[go_sem] theorem sl110:(qF qg 110=none)/\(ZH qg 110=some (2,3,1))/\(ym qg 110=some (plA 1))/\(yi qg 110=true)/\(szOf qg 118=some 2)/\(zg qg 118=some true)/\(qB qg 118=some (.agg [.sc (.int .i64 0),.lst true []]))/\(ym qg 118=some (plc [(0,1),(1,1)]))/\(qI qg 118 0=some (0,3,1))/\(qI qg 118 1=some (1,52,1)):=by and_intros<;>exact eqS zKr
@[go_sem] theorem zo118:(yi qg 118=true)/\(szOf qg 119=some 1)/\(zg qg 119=some false)/\(szOf qg 137=some 1)/\(zg qg 137=some false)/\(mapT qg 137=some (146,4))/\(szOf qg 139=some 2)/\(zg qg 139=some true)/\(qB qg 139=some (.agg [.sc (.int .i64 0),.sc (.map none)]))/\(ym qg 139=some (plc [(0,1),(1,1)])):=by and_intros<;>exact eqS zKr
@[go_sem] theorem fl139_0:(qI qg 139 0=some (0,3,1))/\(qI qg 139 1=some (1,137,1))/\(yi qg 139=true)/\(szOf qg 142=some 1)/\(zg qg 142=some false)/\(ZK qg 142=true)/\(szOf qg 144=some 1)/\(zg qg 144=some false)/\(qB qg 144=some (.sc (.int .i8 0)))/\(szOf qg 146=some 3):=by and_intros<;>exact eqS zKr
@[go_sem] theorem ag146:(zg qg 146=some true)/\(qB qg 146=some (.agg [.sc (.int .i8 0),.sc (.int .i8 0),.sc (.int .i8 0)]))/\(qF qg 146=none)/\(ZH qg 146=some (3,144,1))/\(ym qg 146=some (plA 1))/\(yi qg 146=true)/\(qF qg 147=some (144,1,1))/\(qB qg 168=some (.agg [.lst true [],.sc (.int .i64 0),.lst true [],.sc (.int .i64 0),.lst true [],.lst true [],.lst true [],.lst true [],.sc (.int .i64 0)]))/\(ym qg 168=some (plc [(0,4),(4,4),(8,1)]))/\(qI qg 168 0=some (0,50,4)):=by and_intros<;>exact eqS zKr
@[go_sem] theorem fl168_1:(qI qg 168 1=some (4,27,4))/\(qI qg 168 2=some (8,3,1))/\(yi qg 168=true)/\(qB qg 169=some (.sc .nilFunc))/\(mapT qg 170=some (3,169))/\(qB qg 176=some (.agg [.lst true [],.lst true [],.lst true [],.lst true [],.sc (.int .i64 0),.lst true []]))/\(ym qg 176=some (plc [(0,4),(4,1),(5,1)]))/\(qI qg 176 0=some (0,27,4))/\(qI qg 176 1=some (4,3,1))/\(qI qg 176 2=some (5,36,1)):=by and_intros<;>exact eqS zKr
@[go_sem] theorem zo176:(yi qg 176=true)/\(qF qg 187=some (32,1,24))/\(szOf qg 190=some 1)/\(zg qg 190=some false)/\(szOf qg 194=some 1)/\(zg qg 194=some false)/\(qB qg 194=some (.sc (.pointer none)))/\(szOf qg 195=some 1)/\(zg qg 195=some false)/\(mapT qg 195=some (9,4)):=by and_intros<;>exact eqS zKr
@[go_sem] theorem ze197:(qB qg 197=some (.agg [.lst true [],.lst true [],.lst true [],.lst true [],.sc (.map none),.sc (.int .i64 0),.sc (.int .i64 0)]))/\(ym qg 197=some (plc [(0,4),(4,1),(5,1),(6,1)]))/\(qI qg 197 1=some (4,195,1))/\(yi qg 197=true)/\(szOf qg 205=some 0)/\(qB qg 205=some (.agg []))/\(Ze qg 205=true)/\(ym qg 205=some (plc []))/\(yi qg 205=true)/\(szOf qg 214=some 1):=by and_intros<;>exact eqS zKr
@[go_sem] theorem ag214:(zg qg 214=some false)/\(qF qg 214=some (9,1,16))/\(szOf qg 216=some 7)/\(zg qg 216=some true)/\(qB qg 216=some (.agg [.lst true [],.lst true [],.lst true [],.lst true [],.lst true [],.sc (.int .i64 0),.sc (.int .i64 0)]))/\(ym qg 216=some (plc [(0,4),(4,1),(5,1),(6,1)]))/\(qI qg 216 0=some (0,27,4))/\(qI qg 216 1=some (4,214,1))/\(qI qg 216 2=some (5,3,1))/\(qI qg 216 3=some (6,3,1)):=by and_intros<;>exact eqS zKr
@[go_sem] theorem zo216:(yi qg 216=true)/\(szOf qg 221=some 2)/\(qB qg 221=some (.agg [.sc (.int .i64 0),.sc (.int .i64 0)]))/\(Ze qg 221=true)/\(ym qg 221=some (plc [(0,2)]))/\(qI qg 221 0=some (0,63,2))/\(yi qg 221=true)/\(qB qg 225=some (.agg [.sc (.string ⟨#[]⟩),.sc (.int .i64 0),.sc (.map none),.sc (.pointer none)]))/\(ym qg 225=some (plc [(0,1),(1,2),(3,1)]))/\(qI qg 225 0=some (0,9,1)):=by and_intros<;>exact eqS zKr
@[go_sem] theorem fl225_1:(qI qg 225 1=some (1,139,2))/\(qI qg 225 2=some (3,142,1))/\(yi qg 225=true)/\(qF qg 226=some (139,2,16))/\(szOf qg 235=some 1)/\(zg qg 235=some false)/\(qB qg 235=some (.sc (.map none)))/\(mapT qg 235=some (3,3))/\(szOf qg 237=some 1)/\(zg qg 237=some false):=by and_intros<;>exact eqS zKr
@[go_sem] theorem ze237:(qB qg 237=some (.sc .nilFunc))/\(mapT qg 240=some (3,4))/\(qF qg 264=none)/\(ZH qg 264=some (64,4,1))/\(szOf qg 266=some 65)/\(zg qg 266=some true)/\(qB qg 266=some (.agg [.sc (.int .i64 0),.sc (.bool false),.sc (.bool false),.sc (.bool false),.sc (.bool false),.sc (.bool false),.sc (.bool false),.sc (.bool false),.sc (.bool false),.sc (.bool false),.sc (.bool false),.sc (.bool false),.sc (.bool false),.sc (.bool false),.sc (.bool false),.sc (.bool false),.sc (.bool false),.sc (.bool false),.sc (.bool false),.sc (.bool false),.sc (.bool false),.sc (.bool false),.sc (.bool false),.sc (.bool false),.sc (.bool false),.sc (.bool false),.sc (.bool false),.sc (.bool false),.sc (.bool false),.sc (.bool false),.sc (.bool false),.sc (.bool false),.sc (.bool false),.sc (.bool false),.sc (.bool false),.sc (.bool false),.sc (.bool false),.sc (.bool false),.sc (.bool false),.sc (.bool false),.sc (.bool false),.sc (.bool false),.sc (.bool false),.sc (.bool false),.sc (.bool false),.sc (.bool false),.sc (.bool false),.sc (.bool false),.sc (.bool false),.sc (.bool false),.sc (.bool false),.sc (.bool false),.sc (.bool false),.sc (.bool false),.sc (.bool false),.sc (.bool false),.sc (.bool false),.sc (.bool false),.sc (.bool false),.sc (.bool false),.sc (.bool false),.sc (.bool false),.sc (.bool false),.sc (.bool false),.sc (.bool false)]))/\(ym qg 266=some (plc [(0,1),(1,64)]))/\(qI qg 266 0=some (0,3,1))/\(qI qg 266 1=some (1,264,64)):=by and_intros<;>exact eqS zKr
@[go_sem] theorem zo266:(yi qg 266=true)/\(szOf qg 271=some 7)/\(zg qg 271=some true)/\(qB qg 271=some (.agg [.lst true [],.lst true [],.lst true [],.lst true [],.lst true [],.sc (.int .i64 0),.sc (.bool false)]))/\(ym qg 271=some (plc [(0,4),(4,1),(5,1),(6,1)]))/\(qI qg 271 0=some (0,27,4))/\(qI qg 271 1=some (4,36,1))/\(qI qg 271 2=some (5,3,1))/\(qI qg 271 3=some (6,4,1))/\(yi qg 271=true):=by and_intros<;>exact eqS zKr
@[go_sem] theorem sl272:(qF qg 272=some (323,66,88))/\(qF qg 274=some (281,9,112))/\(qB qg 281=some (.agg [.sc (.string ⟨#[]⟩),.sc (.string ⟨#[]⟩),.sc (.bool false),.sc (.int .i64 0),.sc (.string ⟨#[]⟩),.sc (.int .i64 0),.lst true [],.sc (.int .i64 0),.sc (.int .i64 0)]))/\(ym qg 281=some (plc [(0,1),(1,1),(2,1),(3,5),(8,1)]))/\(qI qg 281 0=some (0,9,1))/\(qI qg 281 1=some (1,9,1))/\(qI qg 281 2=some (2,4,1))/\(qI qg 281 3=some (3,34,5))/\(qI qg 281 4=some (8,3,1))/\(yi qg 281=true):=by and_intros<;>exact eqS zKr
@[go_sem] theorem sz304:(szOf qg 304=some 1)/\(zg qg 304=some false)/\(qB qg 304=some (.sc (.map none)))/\(mapT qg 304=some (3,28))/\(qF qg 317=some (266,65,72))/\(qB qg 323=some (.agg [.sc (.string ⟨#[]⟩),.sc (.int .i64 0),.sc (.bool false),.sc (.bool false),.sc (.bool false),.sc (.bool false),.sc (.bool false),.sc (.bool false),.sc (.bool false),.sc (.bool false),.sc (.bool false),.sc (.bool false),.sc (.bool false),.sc (.bool false),.sc (.bool false),.sc (.bool false),.sc (.bool false),.sc (.bool false),.sc (.bool false),.sc (.bool false),.sc (.bool false),.sc (.bool false),.sc (.bool false),.sc (.bool false),.sc (.bool false),.sc (.bool false),.sc (.bool false),.sc (.bool false),.sc (.bool false),.sc (.bool false),.sc (.bool false),.sc (.bool false),.sc (.bool false),.sc (.bool false),.sc (.bool false),.sc (.bool false),.sc (.bool false),.sc (.bool false),.sc (.bool false),.sc (.bool false),.sc (.bool false),.sc (.bool false),.sc (.bool false),.sc (.bool false),.sc (.bool false),.sc (.bool false),.sc (.bool false),.sc (.bool false),.sc (.bool false),.sc (.bool false),.sc (.bool false),.sc (.bool false),.sc (.bool false),.sc (.bool false),.sc (.bool false),.sc (.bool false),.sc (.bool false),.sc (.bool false),.sc (.bool false),.sc (.bool false),.sc (.bool false),.sc (.bool false),.sc (.bool false),.sc (.bool false),.sc (.bool false),.sc (.bool false)]))/\(ym qg 323=some (plc [(0,1),(1,65)]))/\(qI qg 323 0=some (0,9,1))/\(qI qg 323 1=some (1,266,65))/\(yi qg 323=true):=by and_intros<;>exact eqS zKr
@[go_sem] theorem sl341:qF qg 341=some (5,1,1):=eqS zKr
end Ty
end Go.Proofs.YthflbhjlkgdafaaGreatDoor
namespace Go.Ev
open Go Go.RowKit
section
variable {R:AEnd->Mu->Prop}{f:zV}{args args1:List AV}{mu mu':Mu}{g:Nat->Bool}{P:qc}
def JS(mu:Mu)(g:Nat->Bool):List AV->List AV->Prop
 | [],[]=>True
 |x :: p,y :: j=>(x=y\/Rd (cutM g mu 0) x y)/\JS mu g p j
 |_,_=>False
theorem JS.get:∀{xs ys},JS mu g xs ys->ys.length=xs.length/\∀(k:Nat) x y,xs[k]?=some x->ys[k]?=some y->x=y\/Rd (cutM g mu 0) x y
 | [],[],_=>⟨rfl,zSp⟩
 |x :: xs,y :: ys,⟨h,t⟩=>by
  obtain⟨l,o⟩:=JS.get t;refine⟨zP1 l,fun k a b i j=>?_⟩;cases k with
  |zero=>simp at i j;subst i;subst j;exact h
  |succ k=>exact o k a b (zUs i) (zUs j)
 | [],_ :: _,h=>h.elim
 |_ :: _,[],h=>h.elim
theorem fU(g)(l:JS mu g args args1)(h:qC P f args1 (cutM (fun i=>!g i) mu 0) R):qC P f args mu R:=by
 obtain⟨j,h⟩:=h;obtain⟨J,l⟩:=l.get;refine⟨j,fun G w t s C=>?_⟩;have o:zX (frz G g mu) w.heap args1 t:=by
  refine⟨by rw[J];exact C.1,fun k y T=>?_⟩;have hk:k<args.length:=by grind
  have I:args[k]?=some args[k]:=qy hk;have rv:=C.2 k _ I;rcases l k _ y I T with e|r
  .rw [<-e];exact rv.mono (Zc s g).le (Ext.refl _ _)
  grind [V1]
 refine(h (frz G g mu) w t (V0 s g) o).mono fun e w' ⟨G',p,U,hR⟩=>⟨G',p,(Zc s g).trans s U,hR⟩
def Gvs(mu:Mu)(g:Nat->Bool):List AV->List AV->Prop
 | [],[]=>True
 |x :: p,y :: j=>Gv mu g x y/\Gvs mu g p j
 |_,_=>False
theorem Gvs.get:∀{xs ys},Gvs mu g xs ys->ys.length=xs.length/\∀(k:Nat) x y,xs[k]?=some x->ys[k]?=some y->Gv mu g x y
 | [],[],_=>⟨rfl,zSp⟩
 |x :: xs,y :: ys,⟨h,t⟩=>by
  obtain⟨l,o⟩:=Gvs.get t;refine⟨zP1 l,fun k a b i j=>?_⟩;cases k with
  |zero=>simp at i j;subst i;subst j;exact h
  |succ k=>exact o k a b (zUs i) (zUs j)
 | [],_ :: _,h=>h.elim
 |_ :: _,[],h=>h.elim
def FrzM(mu:Mu)(g:Nat->Bool)(mu':Mu):Prop:=mu'.length=mu.length/\∀(i:Nat)(l:Cell),mu'[i]?=some l->l ≠ .dead->g i=false/\∃ c,mu[i]?=some c/\c ≠ .dead /\
 (l=c\/∃ p j,c = .arr p/\l = .arr j/\Gvs mu g p j/\j.all AV.one=true)
theorem FrzM.sim{G h}(s:Sim G mu h)(f:FrzM mu g mu'):Sim (frz G g mu) mu' h:=by
 have a0:G.le (frz G g mu):=⟨fun b hb => .inl hb,fun _ _ h=>h⟩;have s0:=V0 s g;have kept:∀(i:Nat)(l:Cell),mu'[i]?=some l->l ≠ .dead->∃ c,(cutM (fun i=>!g i) mu 0)[i]?=some c/\c ≠ .dead:=by
  intro i l C I;obtain⟨hg,c,T,U,_⟩:=f.2 i l C I
  grind [jA]
 refine⟨by rw[f.1];exact s.len,s0.imm,?_,?_,?_,s0.tab⟩
 .intro i l J P C I h3
  obtain⟨hg,c,T,U,hr⟩:=f.2 i l C I;obtain⟨o,ho,t⟩:=s.obj i c J P T U h3;refine⟨o,ho,?_⟩;rcases hr with rfl|⟨p,ys,rfl,rfl,R,a3⟩
  .exact t.mono a0 (Ext.refl _ _)
  .obtain ⟨a4,R⟩:=R.get
   obtain⟨cs,e,rfl,k1,k2,k3⟩:=t;refine⟨cs,e,rfl,k1,zOm,fun j y hy=>?_⟩;have hj:j<p.length:=by grind
   have hx:p[j]?=some p[j]:=qy hj;exact⟨by grind,(R j _ y hx hy).sound s (k3 j _ hx).2⟩
 .intro i l J P C I h3
  obtain⟨c,T,U⟩:=kept i l C I;exact s0.live i c J P T U h3
 .intro i j ci cj b ti tj C I h3 h4 h5 h6
  obtain⟨c,T,U⟩:=kept i ci C h3;obtain⟨l,a1,a2⟩:=kept j cj I h4;exact s0.inj i j c l b ti tj T a1 U a2 h5 h6
theorem FrzM.stp{G w}(s:Sim G mu w.heap)(f:FrzM mu g mu'):Stp G mu w (frz G g mu) mu' w:=by
 refine⟨⟨fun b j => .inl j,fun _ _ h=>h⟩,f.sim s,fun _ _ _=>rfl,qn _,?_,?_,rfl,rfl,rfl,qn _⟩
 .rintro b ⟨i,c,l,o,p,t⟩
  obtain⟨_,c0,C,I,_⟩:=f.2 i c o p;exact .inl ⟨i,c0,l,C,I,t⟩
 .rintro b (j|j)
  .exact .inl j
  .exact .inr (.inl j.cut)
theorem fV(g)(j:Gvs mu g args args1)(p:FrzM mu g mu')(h:qC P f args1 mu' R):qC P f args mu R:=by
 obtain⟨i,h⟩:=h;obtain⟨J,j⟩:=j.get;refine⟨i,fun G w t s C=>?_⟩;have l:zX (frz G g mu) w.heap args1 t:=by
  refine⟨by rw[J];exact C.1,fun k y T=>?_⟩;have hk:k<args.length:=by grind
  have I:args[k]?=some args[k]:=qy hk;exact(j k _ y I T).sound s (C.2 k _ I)
 refine(h (frz G g mu) w t (p.sim s) l).mono fun e w' ⟨G',o,U,hR⟩=>⟨G',o,(p.stp s).trans s U,hR⟩
theorem qj.toSound{args' v}(mu)(h:qj P f args' v)(p:WKs args args'):qC P f args mu fun e m=>e = .ret v/\m=mu:=by
 refine⟨h.1,fun G w vs s t=>?_⟩;have C:VRel G w.heap (.fn (.func f) [] []) (.func (.func f) #[] #[]) := .fn _ _ _ _ _ rfl rfl (fun k x i=>by simp at i) (fun k x i=>by simp at i);obtain⟨g,first,l,e,_,o⟩:=gt s C t (.inl ⟨f,[],[],args',rfl,h,.inl (zUs p)⟩);injection e with j I J;injection j with j;subst j;subst I;subst J;simp at o;refine o.mono fun e w' ⟨R,u,T,U,hv⟩=>⟨R,mu,U,.inl ⟨v,u,⟨rfl,rfl⟩,T,hv⟩⟩
end
end Go.Ev
namespace Go.Ev
open Go
section
variable {av s x:AV}{K:AV->Mu->Prop}{xs ys:List (List AV)}{mu:Mu}{bt e i lo t:Nat}{P:qc}{st:St}{Q:qW->St->Prop}
abbrev rI(n:Int):List AV:=[.sc (.int .i64 n)]
abbrev lI(xs:List Int):AV := .lst false (xs.map rI)
abbrev rL(xs:List Int):List AV:=[lI xs]
abbrev lL(xs:List (List Int)):AV := .lst false (xs.map rL)
structure Rl where
 ar:Int
 ts:List Int
 deriving DecidableEq
structure Sc where
 sC:List Int
 sN:Int
structure Fld where
 name:dC
 sS:List Int
 var:Bool
structure Sp where
 sS:List (dC×Bool)
 sA:List Fld
 sT:List (List AV)
 sP:List (List AV)
 hp:HF (.lst false sT)
 hf:HF (.lst false sP)
structure Bd where
 lo:Rl
 up:Rl
 deriving DecidableEq
abbrev cRel(r:Rl):List AV:=[aI r.ar,lI r.ts]
abbrev eRel(r:Rl):AV := .agg (cRel r)
abbrev lRel(rs:List Rl):AV := .lst false (rs.map cRel)
abbrev eSc(s:Sc):AV := .agg [lI s.sC,aI s.sN]
abbrev JT(s:dC×Bool):List AV:=[.sc (.string s.1),aB s.2]
abbrev vL(f:Fld):List AV:=[.sc (.string f.name),lI f.sS,aB f.var]
abbrev eSp(s:Sp):AV := .agg [.lst false (s.sS.map JT),.lst false (s.sA.map vL),.lst false s.sT,.lst false s.sP]
abbrev cBd(b:Bd):List AV:=[aI b.lo.ar,lI b.lo.ts,aI b.up.ar,lI b.up.ts]
abbrev lBd(b:List Bd):AV := .lst false (b.map cBd)
theorem zy(xs):HF (lI xs):=HF.lst fun r g c i=>by
 obtain⟨n,_,rfl⟩:=qp.1 g
 grind [HF.sc]
theorem Yt(r):∀ c,c∈cRel r->HF c:=by
 intro c g;simp at g;rcases g with rfl|rfl
 .exact HF.sc _
 .exact zy _
theorem qr(r):HF (eRel r):=HF.agg (Yt r)
theorem nu(rs):HF (lRel rs):=HF.lst fun r g c i=>by
 obtain⟨n,_,rfl⟩:=qp.1 g;exact Yt n c i
theorem zD(s):HF (eSc s):=HF.agg fun c g=>by
 simp at g;rcases g with rfl|rfl
 .exact zy _
 .exact HF.sc _
theorem nv(f):∀ c,c∈vL f->HF c:=by
 intro c g;simp at g;rcases g with rfl|rfl|rfl
 .exact HF.sc _
 .exact zy _
 .exact HF.sc _
theorem wG(b):HF (lBd b):=HF.lst fun r i c g=>by
 obtain⟨n,_,rfl⟩:=qp.1 i;simp at g;rcases g with rfl|rfl|rfl|rfl
 .exact HF.sc _
 .exact zy _
 .exact HF.sc _
 .exact zy _
@[go_sem] theorem ieq:(∀(a b:Int),(a == b)=decide (a=b))/\(∀(a b:Int),(a != b)=!decide (a=b)):=by and_intros<;>intros<;>exact eqS rfl
@[go_sem] theorem natEq(a b:Nat):((a:Int)=(b:Int))=(a=b):=propext ⟨Int.ofNat_inj.1,fun h=>by rw[h]⟩
inductive Tag (p:St->Prop):Type where
 |mk:Tag p
def Keep(p:St->Prop)(_:Tag p)(st:St):Prop:=p st
theorem Keep.loop{p:Nat->St->Prop}{n}(m)(g:m<n)(h:p m st):∃ m,m<n/\Keep (p m) .mk st:=⟨m,g,h⟩
theorem dS{pl body}(I:Nat->St->Prop)(n)(h:I n st)(k:∀ n st,I n st->awp P pl body (wE (fun n=>Keep (I n) .mk) n Q) st):qm P pl body Q st := tL (fun n=>Keep (I n) .mk) n h k
theorem jD(xs:List Int):qV 1 (xs.map rI):=fun r g=>by
 obtain⟨n,_,rfl⟩:=qp.1 g;exact⟨rfl,rfl⟩
theorem qi0(xs:List (List Int)):qV 1 (xs.map rL):=fun r g=>by
 obtain⟨n,_,rfl⟩:=qp.1 g;exact⟨rfl,rfl⟩
theorem jP(xs:List Rl):qV 2 (xs.map cRel):=fun r g=>by
 obtain⟨n,_,rfl⟩:=qp.1 g;exact⟨rfl,rfl⟩
def OwnF(lo:Nat)(mu:Mu)(sz:Nat)(av:AV)(xs:List (List AV)):Prop:=Own mu sz av xs/\(∀ b s o l,av = .sl b s o l->lo<=b)/\lo<=mu.length
theorem OwnF.one{sz}(h:OwnF lo mu sz av xs):av.one=true:=by
 rcases h.1 with rfl|⟨b,rfl,_⟩<;>rfl
theorem OwnF.cells{sz}(h:OwnF lo mu sz av xs):av.cells=[av]:=by
 rcases h.1 with rfl|⟨b,rfl,_⟩<;>rfl
theorem OwnF.nil{sz}(h:lo<=mu.length):OwnF lo mu sz (.lst true []) []:=⟨.inl rfl,fun _ _ _ _ e=>by simp at e,h⟩
theorem OwnF.lit{sz}(xs)(h:lo<=mu.length):OwnF lo mu sz (.lst true xs) xs:=⟨.inl rfl,fun _ _ _ _ e=>by simp at e,h⟩
theorem OwnF.set{sz c}(h:OwnF lo mu sz av xs)(o:i<lo):OwnF lo (mu.set i c) sz av xs:=by
 obtain⟨j,g,l⟩:=h;refine⟨?_,g,zUs l⟩;rcases j with rfl|⟨b,rfl,p⟩
 .exact .inl rfl
 .have:=g _ _ _ _ rfl
  exact .inr ⟨b,rfl,by grind⟩
theorem jV.ownF{g sz:Nat}{zv}(hs:qF P t=some (e,sz,bt))(j:(qF P g).isSome=true)(hz:qB P e=some zv)
  (p:zv.cells.length=sz) (C:zv.cells.all AV.one=true) (I:sz≠0) (hb:bt<=16384) (J:OwnF lo mu sz s xs) (hx:qA mu x=some ys) (U:qV sz xs) (wy:qV sz ys) (hl:xs.length+ys.length<=4294967296)
  (k:∀ av mu',OwnF lo mu' sz av (xs++ys)->(∀ i,i<lo->mu'[i]?=mu[i]?)->K av mu'):jV P mu #[t,g] s x K:=by
 obtain⟨J,R,T⟩:=J;refine⟨t,g,e,sz,bt,ys,rfl,hs,j,⟨zv,hz,p,C⟩,I,hb,hx,wy,?_⟩;rcases J with rfl|⟨b,rfl,hc⟩
 .refine .inl ⟨xs,rfl,U,hl,fun h=>?_,fun h=>?_⟩
  .subst h
   exact k _ _ ⟨.inl zSp,fun _ _ _ _ e=>by simp at e,T⟩ (fun _ _=>rfl)
  .refine k _ _ ⟨.inr ⟨mu.length,zSp,zSp⟩,fun b s o l e=>?_,zSo⟩ (fun i hi=>?_)
   .grind
   grind
 .have a0:=yK U.ok
  have a1:=R _ _ _ _ rfl;refine .inr ⟨b,xs.length,xs.flatten,rfl,hc,zOm,hl,?_⟩;have a2:xs.flatten.take (xs.length*sz)=xs.flatten:=zU zOm;refine k _ _ ⟨.inr ⟨mu.length,zSp,?_⟩,fun b s o l e=>?_,zSo⟩ (fun i hi=>?_)
  .grind
  .grind
  grind
theorem qx.ownF{p sz:Nat}{zv}(C:qF P t=some (e,sz,bt))(g:(qF P p).isSome=true)(I:qB P e=some zv)
  (j:zv.cells.length=sz) (l:zv.cells.all AV.one=true) (o:sz≠0) (J:bt<=16384) (R:OwnF lo mu sz s xs) (T:qA mu x=some ys) (U:qV sz xs) (wy:qV sz ys) (hl:xs.length+ys.length<=4294967296)
  (k:∀ av mu',OwnF lo mu' sz av (xs++ys)->(∀ i,i<lo->mu'[i]?=mu[i]?)->K av mu'):qx P mu #[t,p] s x K:=
 .inl (jV.ownF C g I j l o J R T U wy hl k)
theorem qx.ints{j:Nat}{xs ys:List Int}{z}(l:qF P t=some (e,1,bt))(g:(qF P j).isSome=true)(o:qB P e=some (aI z))
  (p:bt<=16384) (C:OwnF lo mu 1 s (xs.map rI)) (I:qA mu x=some (ys.map rI)) (J:xs.length+ys.length<=4294967296)
  (k:∀ av mu',OwnF lo mu' 1 av ((xs++ys).map rI)->(∀ i,i<lo->mu'[i]?=mu[i]?)->K av mu'):qx P mu #[t,j] s x K:=
 qx.ownF l g o rfl rfl zOm p C I (jD _) (jD _) (zUs J) (fun av mu' R T=>k av mu' (by rw[zi];exact R) T)
theorem qi1{low g mu':Mu}(j:low.length=lo)(l:lo<=mu'.length)(h:∀ i,i<lo->mu'[i]?=(low++g)[i]?):mu'=low++mu'.drop lo:=by
 have:mu'.take lo=low:=by
  apply vg;intro i;by_cases o:i<lo
  .grind
  grind
 rw[<-this,uJ]
theorem fJ{low g}{l:Nat}{xs ys:List Int}{z}(o:qF P t=some (e,1,bt))(j:(qF P l).isSome=true)(p:qB P e=some (aI z))
  (C:bt<=16384) (I:OwnF low.length (low++g) 1 s (xs.map rI)) (J:qA (low++g) x=some (ys.map rI)) (T:xs.length+ys.length<=4294967296)
  (k:∀ av i,OwnF low.length (low++i) 1 av ((xs++ys).map rI)->K av (low++i)):qx P (low++g) #[t,l] s x K:=
 qx.ints o j p C I J T fun av R U h2=>by
  have:=qi1 rfl U.2.2 h2
  grind
theorem OwnF.low{low low' g sz}(h:OwnF low.length (low++g) sz av xs)(j:low'.length=low.length):OwnF low'.length (low'++g) sz av xs:=by
 obtain⟨l,i,_⟩:=h;refine⟨?_,by rw[j];exact i,zSp⟩;rcases l with rfl|⟨b,rfl,o⟩
 .exact .inl rfl
 .have:=i _ _ _ _ rfl
  refine .inr ⟨b,rfl,?_⟩
  grind
theorem OwnF.rdI{xs}(h:OwnF lo mu 1 av (xs.map rI)):Rd mu av (lI xs):=
 h.1.rd (jD xs).ok fun r g c i=>by
  obtain⟨n,_,rfl⟩:=qp.1 g
  grind [HF.sc]
theorem Rd.rel{r}(h:Rd mu av (lI r.ts)):Rd mu (.agg [aI r.ar,av]) (eRel r):=by
 refine .agg _ _ rfl (fun k x y g i=>?_)
 match k with
 | 0=>simp at g i;subst g;subst i;exact .zsc _
 | 1=>grind
 |k+2=>simp at g
theorem ny(b mu):(cutM (fun j=>j == b) mu 0)[b]?=mu[b]?:=by
 grind [jA]
theorem Un{b}(h:i≠b)(mu):(cutM (fun j=>!(j == b)) mu 0)[i]?=mu[i]?:=by
 grind [jA]
theorem FzQ.own{d sz}(l:st.tm d=av)(g:OwnF lo st.mu sz av xs)(wf:qV sz xs)(hf:∀ r,r∈xs->∀ c,c∈r->HF c)
  (k:∀ mu' full,mu'.length=st.mu.length->(∀ j,j<lo->mu'[j]?=st.mu[j]?)->Q (.exit i) (st.put (some d) (.lst full xs) mu')):FzQ Q (.exit i) st:=by
 rcases g.1 with h|⟨b,h,o⟩
 .refine FzQ.one (b:=st.mu.length) (d:=d) (x := .lst true xs) ?_ (k _ _ (uN _ _ _) fun j p=>Un (zW1 g.2.2) _)
  rw[l,h];exact .hf _ (HF.lst hf)
 .refine FzQ.one (b:=b) (d:=d) (x := .lst false xs) ?_ (k _ _ (uN _ _ _) fun j p=>Un (zW1 (g.2.1 _ _ _ _ h)) _)
  rw[l];exact Own.rd (.inr ⟨b,h,by rw[ny];exact o⟩) wf.ok hf
def allN(p:Nat->Bool):Nat->Bool
 | 0=>true
 |n+1=>allN p n&&p n
theorem Uo{p n}:allN p n=true↔∀ i,i<n->p i=true:=by
 induction n with
 |zero=>simp[allN]
 |succ n l =>
  simp only[allN,qD,l];refine⟨fun h i g=>?_,fun h=>⟨fun i g=>h i zOm,h n zOm⟩⟩;rcases Nat.lt_succ_iff_lt_or_eq.1 g with j|j
  .exact h.1 i j
  grind
theorem qi2{p n k}(g:k<n)(h:p k=false):allN p n=false:=by
 rw[<-Bool.not_eq_true,Uo]
 grind
def gI(xs:List Int)(i:Nat):Int:=(xs[i]?).getD 0
theorem ji{xs}(h):gI xs i=xs[i]:=by simp[gI,h]
def sumI(xs:List Int):Int:=xs.foldr (·+·) 0
theorem Xm(a b):sumI (a++b)=sumI a+sumI b:=by
 induction a with
 |nil=>simp[sumI]
 |cons x a g=>grind [sumI]
theorem wH(l:List Int)(k h):sumI (l.take (k+1))=sumI (l.take k)+l[k]:=by
 rw[List.take_add_one,qy h,Xm];simp[sumI]
theorem qi3(l m)(h:∀ a,a∈l->0<=a/\a<=m):0<=sumI l/\sumI l<=m*l.length:=by
 induction l with
 |nil=>simp[sumI]
 |cons x l g =>
  have j:=h x zSp;have o:=g (fun a i=>h a (zP1 i));simp only[sumI,List.foldr_cons,yy]at *
  grind
def GSc(s:Sc):Prop:=s.sC.length<=4/\∀ a,a∈s.sC->0<=a/\a<=5
theorem GSc.sum{s}(h:GSc s)(k):0<=sumI (s.sC.take k)/\sumI (s.sC.take k)<=20:=by
 have:=qi3 (s.sC.take k) 5 (fun a g=>h.2 a (List.mem_of_mem_take g));have i:=h.1
 grind
end
end Go.Ev
namespace Go.Ev
open Go Go.RowKit
section
variable {es:List (AV×AV)}
theorem fL{C}{es i:List C}(t:es.Nodup)(I:i.Nodup)(h:∀ x,x∈i↔x∈es):∃ σ J,PIx σ J es i:=by
 have l:i.length=es.length:=((List.perm_ext_iff_of_nodup I t).2 h).length_eq;have f:∀ k,∃ j,k<es.length->j<es.length/\i[j]?=es[k]?:=by
  intro k;by_cases o:k<es.length
  .obtain ⟨j,p⟩:=List.mem_iff_getElem?.1 ((h es[k]).2 zSp)
   grind
  .exact ⟨0,fun h=>absurd h o⟩
 have g:∀ j,∃ k,j<es.length->k<es.length/\es[k]?=i[j]?:=by
  intro j;by_cases p:j<es.length
  .have P:j<i.length:=by omega
   obtain⟨k,o⟩:=List.mem_iff_getElem?.1 ((h i[j]).1 zSp)
   grind
  .exact ⟨0,fun h=>absurd h p⟩
 refine⟨fun k=>Classical.choose (f k),fun k=>Classical.choose (g k),l,fun k o=>?_⟩
 grind [Classical.choose_spec,Classical.choose,List.getElem?_inj]
theorem nz(h:(es.map Prod.fst).Nodup):es.Nodup:=(List.pairwise_map.1 h).imp (fun g e=>g (by rw[e]))
theorem fQ{mu b fs}(l:mu[b]?=some (.mp es))(o:(es.map Prod.fst).Nodup)(j:(fs.map Prod.fst).Nodup)(p:∀ x,x∈es↔x∈fs)(hf:∀ x,x∈es->HF x.1/\HF x.2):Rd mu (.mp b) (.ims fs):=by
 obtain⟨t,C,I⟩:=fL (nz j) (nz o) p;refine .ims _ fs es t C I j (.mp b es es l rfl (fun k x y g i=>?_) (fun k x y g i=>?_))
 .rw [g]at i;cases i;exact .hf _ (hf x (q8 g)).1
 .rw [g]at i;cases i;exact .hf _ (hf x (q8 g)).2
end
end Go.Ev
namespace Go.Ev
open Go Go.RowKit
section
variable {R:AEnd->Mu->Prop}{args:List AV}{pl:Pol}{P:qc}
def MRel(G:Gh)(h:Array Obj):Option AV->FrameMode->Prop
 |none,u=>u = .returning
 |some x,u=>∃ v,u = .panicking [{ v,recovered:=false }]/\VRel G h x v
def yo(P:qc)(g:zV)(args:List AV)(mu:Mu)(m:Option AV)(R:Mu->Prop):Prop:=yT P g /\
 ∀(G:Gh)(w:qe)(j:Array qf)(u:FrameMode),Sim G mu w.heap->zX G w.heap args j->MRel G w.heap m u ->
  CallsDIn Fence.wide 0 P g j u w fun e l o=>∃ v p i,e = .returned v/\settle l = .returning/\Stp G mu w p i o/\R i
def Up(P:qc)(rs:List ResultVar)(g:zV)(i:List AV)(R:AEnd->Mu->Prop):qW->St->Prop
 | .normal,U | .ret,U=>yo P g i U.mu none fun j=>OptK (jZ P ⟨U.tm,j⟩ rs) fun r=>R (.ret r) j
 | .pan v,U=>yo P g i U.mu (some v) fun j=>OptK (jZ P ⟨U.tm,j⟩ rs) fun r=>R (.ret r) j
 | .exit _,_=>False
def ZQ(ops:Array yj):Option (List yj×yj):=
 match ops.toList.reverse with
 |o :: r=>match o.op,o.guard,o.dst with | .defer _,none,none=>some (r.reverse,o)|_,_,_=>none
 | []=>none
theorem qi4{ops pre o}(h:ZQ ops=some (pre,o)):ops.toList=pre++[o]/\o.guard=none/\o.dst=none:=by
 unfold ZQ at h;split at h
 .rename_i l r g
  split at h
  .rename_i c p i j
   simp only[qs,Prod.mk.injEq]at h;obtain⟨rfl,rfl⟩:=h;refine⟨?_,i,j⟩;have:=congrArg List.reverse g
   grind
  grind
 grind
def Zh(P:qc)(pl:Pol)(rs:List ResultVar)(R:AEnd->Mu->Prop)(o:yj)(l:Code)(st:St):Prop:=
 ∃ x args p g first i,o.op = .defer { callee := .value x,args,argTypes:=p }/\st.ev x = .fn (.func g) first i/\yT P g/\awp P pl l (Up P rs g (first++evs st.ev args.toList++i) R) st
def awpD(P:qc)(pl:Pol)(rs:List ResultVar)(R:AEnd->Mu->Prop):Code->St->Prop
 | .seq (.region _ l false) g,U=>match ZQ l with
  |some (pre,o)=>awpS P pl false l pre (fun U=>Zh P pl rs R o g U) (fun v U=>R (.pan v) U.mu) U
  |none=>awpS P pl false l l.toList (fun U=>awpD P pl rs R g U) (fun v U=>R (.pan v) U.mu) U
 |_,_=>False
def Ro.bare:Ro:=⟨none,[],false,[]⟩
theorem Rel.bare{i g j n G st a w}(r:Rel Ro.bare i g j n G st a w):a.defers=[]:=by
 obtain⟨l,⟨o,p⟩,_⟩:=r.df rfl;have:l=[]:=p rfl;subst this;simpa[Ro.bare] using o
def REnd(G : Gh)(mu : Mu)(w : qe)(R : AEnd->Mu->Prop)(e : Ending)(w' : qe) : Prop := ∃ j g, Stp G mu w j g w' /\
      ((∃ r v,R (.ret r) g/\e = .returned v/\VRel j w'.heap r v)\/(∃ r v,R (.pan r) g/\e = .panicked [{ v,recovered:=false }]/\VRel j w'.heap r v))
theorem nA{fn G0 I w0}(s0:Sim G0 I w0.heap):∀ c st a w G,Rel Ro.bare G0 I w0 fn.ntmps G st a w ->
  dOkC fn.ntmps c=true->awpD P pl fn.results.toList R c st->c.wpIn (WF Ro.bare) 0 P (bodyPostM Fence.wide 0 P fn (REnd G0 I w0 R)) a w:=by
 intro c;induction c with
 |seq x y _ ih =>
  intro st a w G r hd h;cases x with
  |region id l a6 =>
   cases a6 with
   |true=>exact h.elim
   |false =>
    simp only[dOkC,qD]at hd;have T:(l.toList.all fun o=>dOk fn.ntmps o.dst)=true:=hd.1;have a0:∀ v (st:St) a w G u,R (.pan v) st.mu->Rel Ro.bare G0 I w0 fn.ntmps G st a w->VRel G w.heap v u->LeavesInM Fence.wide 0 P fn a.tmps (REnd G0 I w0 R) a.defers (.panicking [{ v:=u,recovered:=false }]) w:=by
     intro v st a w G u C r J;rw[r.bare];exact⟨G,st.mu,r.stp,.inr ⟨v,u,C,rfl,J⟩⟩
    cases hl:ZQ l with
    |none =>
     simp only[awpD,hl]at h;refine wpIn_seq (wpIn_region_list ?_);refine Uc s0 ?_ ?_ l.toList st a w G r T h
     .intro st a w G C r
      exact ih st a w G r hd.2 C
     .intro v st a w G u C r J
      exact a0 v st a w G u C r J
    |some q =>
     obtain⟨pre,o⟩:=q;simp only[awpD,hl]at h;obtain⟨ho,hg,a1⟩:=qi4 hl;refine wpIn_seq (wpIn_region_list ?_);rw[ho]at T⊢;rw[List.all_append,qD]at T;refine gM s0 ?_ ?_ pre st a w G r T.1 h
     .intro st a w G C r
      obtain⟨xo,args,ah,g,first,a7,a8,hx,a9,a3⟩:=C;obtain⟨od,aq,ai,aa,aj,ar⟩:=o;simp only at a8 hg a1;subst a8;subst hg;subst a1;simp only[wpListIn,Region.wanted,if_true];have rf:=r.ev xo;rw[hx]at rf;generalize C:a.eval xo=fv at rf;cases rf with
      |fn _ _ _ a4 U hn hm J hw =>
      have ra:=s5 ⟨hn,J⟩ (Qh r.ev args) ⟨hm,hw⟩;have ab:((({ dst:=none,op := .defer { callee := .value xo,args,argTypes:=ah },type:=ai,pos:=aa,after:=aj,guard:=none }:yj).semAt (WF Ro.bare).round a.eval).run P w) =
        .ok (.defer { target := .fn (.func g) U,args:=a4++args.map a.eval }) w:=by
       rw[show (WF Ro.bare).round=none from rfl,Oper.semAt_none]
       grind [execOp,resolve,Sem.run_bind,Sem.run_pure,Result.andThen_ok,Deferred.ofValue]
      refine⟨fun _ _=>trivial,?_⟩;rw[ab,Oper.uponIn_defer];rw[r.bare]
      let d:Deferred:={ target := .fn (.func g) U,args:=a4++args.map a.eval }
      let j:=first++evs st.ev args.toList++a7
      let t:=a4++args.map a.eval++U
      let ro:Ro:=⟨none,[d],true,j.zip t.toList⟩
      have ad:∀{G:Gh}{h:Array Obj},(∀ p,p∈ro.kp->VRel G h p.1 p.2)↔zX G h j t:=by
       intro G h;constructor
       .intro hk
        refine⟨ra.1,fun k x hx=>?_⟩;have ak:k<t.size:=by rw[ra.1];exact(ql.1 hx).1
        have J:t.toList[k]?=some (t.getD k z6):=by simp[qU,ak]
        have:(x,t.getD k z6)∈j.zip t.toList:=q8 (i:=k) (by grind)
        grind
       .intro ha p hp
        obtain⟨k,hk⟩:=List.mem_iff_getElem?.1 hp;rw[List.getElem?_zip_eq_some]at hk;have:=ha.2 k p.1 hk.1;simp_all
      show y.wpIn (WF Ro.bare) 0 P _ _ _;refine Ul (pl:=pl) (n:=fn.ntmps) y (ro:=ro) s0 _ _ st _ w G ?_ ⟨r.tm,fun _=>Dfs.nil _ _ _ _ _ _,r.size,r.stp,ad.2 ra⟩ hd.2 (.inl ⟨rfl,rfl⟩) a3;intro ae e st a w' G' C r he;obtain⟨Ds,g1,g2,g3,r',al⟩:=r.left rfl;have key:∀(m:Option AV)(u:FrameMode),u ≠ .run->MRel G' (wB Ds w').heap m u->yo P g j st.mu m (fun af=>OptK (jZ P ⟨st.tm,af⟩ fn.results.toList) fun r=>R (.ret r) af) ->
        LeavesInM Fence.wide 0 P fn a.tmps (REnd G0 I w0 R) a.defers u w':=by
       intro m u hu hm hs;rw[g1];refine W5 hu Ds w' g2 g3 ?_;refine⟨hu,.inr ⟨fun h=>by simp[Fence.wide]at h,.func g,U,g,t,rfl,?_,fun _ _=>trivial,?_⟩⟩
       .simp only[invoke,d]
        exact a9 _ _
       .refine (hs.2 G' (wB Ds w') t u r'.stp.sim (ad.1 r'.kp) hm).mono ?_
        intro e u' av ⟨v,G2,an,he,ag,ao,z,hz,hR⟩;subst he;simp only;rw[ag];have r2:=r'.put (d:=none) s0 ao (.any z6) rfl;obtain⟨u2,k1,k2⟩:=ZP (fn:=fn) r2 hz;exact⟨u2,k1,G2,an,r2.stp,.inl ⟨z,u2,hR,rfl,k2⟩⟩
      cases ae<;>cases e<;>simp only[ERel]at he
      .exact key none .returning zSp rfl C
      .exact C.elim
      .exact key none .returning zSp rfl C
      .obtain ⟨v,rfl,J⟩:=he
       exact key (some _) (.panicking _) zSp ⟨v,rfl,al _ _ J⟩ C
     .intro v st a w G u C r J
      exact a0 v st a w G u C r J
  |_=>exact h.elim
 |_=>intro st a w G r hd h;exact h.elim
theorem fZ{f fn c mu}(g:yT P f)(hf:P.funcs[f]?=some fn)(i:fn.body=some c)
  (j:args.length<=fn.ntmps) (l:dOkC fn.ntmps c=true) (h:awpD P pl fn.results.toList R c (st0 args mu)):qC P f args mu R:=by
 refine⟨g,fun G w p s o=>?_⟩;refine(callsIn_wide (n:=0)).1 (callsIn_of_wp_marks hf i trivial ?_);refine nA (pl:=pl) s c (st0 args mu) _ w G ?_ l h;exact fM s o j
theorem yo.of_awp{f fn id o g mu m R}(a0:yT P f)(hf:P.funcs[f]?=some fn)
  (hb:fn.body=some (.seq (.region id #[o] false) g)) (ho:∃ d ty pos a6,o={ dst:=d,op := .call { callee := .builtin .recover,args:=#[],argTypes:=a6 },type:=ty,pos:=pos,after:=#[],guard:=none })
  (hn:args.length<=fn.ntmps) (hd:dOkC fn.ntmps (.seq (.region id #[o] false) g)=true) (hr:noRF g=true)
  (h:awp P pl g (wF P fn.results.toList fun e t=>∃ r,e = .ret r/\R t) ((st0 args mu).put o.dst (m.getD (.sc .nilIface)) mu)):yo P f args mu m R:=by
 obtain⟨od,a8,a1,a2,rfl⟩:=ho;refine⟨a0,fun G w vs u s ra hm=>?_⟩;refine callsDIn_of_wpSIn hf hb trivial fun i cs hc=>?_
 have r0:Rel Ro.bare G mu w fn.ntmps G (st0 args mu) { tmps:=vs++Array.replicate (fn.ntmps-vs.size) z6,defers:=[] } w:=fM s ra hn;simp only[dOkC,qD]at hd;have a9:dOk fn.ntmps od=true:=by grind
 refine wpSIn_seq (wpSIn_region ?_);have go:∀(J:List Frame)(v:qf)(T:FrameMode),J={ i with mode:=T } :: cs->settle T = .returning->VRel G w.heap (m.getD (.sc .nilIface)) v ->
   g.wpSIn Fence.wide 0 P (bodyPostS P fn i cs fun e T w'=>∃ v G' t,e = .returned v/\settle T = .returning/\Stp G mu w G' t w'/\R t)
    (({ tmps:=vs++Array.replicate (fn.ntmps-vs.size) z6,defers:=[] }:Act).put od v) J w:=by
  intro J v T a5 I hv;refine wpSIn_of_wpIn rfl ?_;refine Ul (pl:=pl) (n:=fn.ntmps) g (ro:=Ro.bare) s _ _ _ _ w G ?_ (r0.put s (Stp.refl s) hv a9) hd.2 (.inr hr) h;intro ae e U a w' G' hq r he;cases ae<;>cases e<;>simp only[ERel]at he
  .obtain ⟨z,hz,z',_,hR⟩:=hq
   obtain⟨u2,k1,k2⟩:=ZP (fn:=fn) r hz;exact⟨r.bare,T,a5,u2,k1,u2,G',U.mu,rfl,I,r.stp,hR⟩
  .exact hq.elim
  .obtain ⟨z,hz,z',_,hR⟩:=hq
   obtain⟨u2,k1,k2⟩:=ZP (fn:=fn) r hz;exact⟨r.bare,T,a5,u2,k1,u2,G',U.mu,rfl,I,r.stp,hR⟩
  .obtain ⟨z,hz,_⟩:=hq
   grind
 have aa:∀ ev:qh->qf,(execOp ev { dst:=od,op := .call { callee := .builtin .recover,args:=#[],argTypes:=a2 },type:=a8,pos:=a1,after:=#[],guard:=none }).run P w = .ok .recover w:=by
  simp_all[execOp,resolve,invoke,builtin]
 simp only[List.size_toArray,yy,List.length_nil,qu,qu.loop,wpOpsSIn];refine⟨fun _ _=>trivial,?_⟩;simp only[Region.wanted];cases m with
 |none =>
  have hu:u = .returning:=hm;have p:recoverD (i :: cs)=none:=by simp[recoverD,hc,hu]
  rw[p];exact go _ .nilIface .returning (by rw[<-hu,<-hc]) rfl (.sc _ rfl)
 |some x =>
  obtain⟨v,hu,hv⟩:=hm;have p:recoverD (i :: cs)=some (v,{ i with mode := .panicking [{ v,recovered:=true }] } :: cs):=by simp[recoverD,hc,hu]
  rw[p];exact go _ v (.panicking [{ v,recovered:=true }]) rfl rfl hv
end
end Go.Ev
namespace Go.Ev
open Go Go.RowKit
section
variable {R:AEnd->Mu->Prop}{V:AEnd->Prop}{K i:AV->Mu->Prop}{ops:Array yj}{f g:zV}{args args' caps first:List AV}{rs:List ResultVar}{mu:Mu}{pl:Pol}{P:qc}{st:St}
def EndR(G:Gh)(h:Array Obj):AEnd->Ending->Prop
 | .ret r,e=>∃ v,e = .returned v/\VRel G h r v
 | .pan r,e=>∃ v,e = .panicked [{ v,recovered:=false }]/\VRel G h r v
def zd(P:qc)(f:zV)(args:List AV)(V:AEnd->Prop):Prop:=yT P f /\
 ∀(i:Nat->Prop)(w:qe)(l:Array qf),Sim ⟨i,[]⟩ [] w.heap->zX ⟨i,[]⟩ w.heap args l ->
  Calls P f l w fun e j=>∃ g a,V a/\EndR ⟨g,[]⟩ j.heap a e/\(∀ b,i b->g b)/\(∀ b,g b->b<j.heap.size/\(i b\/w.heap.size<=b))/\ZL w.heap.size w j
abbrev qR(P:qc)(f:zV)(args:List AV)(e:AEnd):Prop:=zd P f args (·=e)
theorem qR.toP{r}(h:qR P f args (.ret r)):qj P f args r:=by
 refine⟨h.1,fun g w l o p=>(h.2 g w l o p).mono fun e C ⟨i,a,j,t,I,J,R⟩=>?_⟩;subst j;obtain⟨v,T,j⟩:=t
 grind
theorem qi5{G w}(s : Sim G mu w.heap)(t j : Nat->Prop)(w' )(h1 : ∀ b, G.imm b->t b)(h2 : ∀ b, j b->b < w'.heap.size/\(t b\/w.heap.size<=b))(l : ZL w.heap.size w w')(h3 : ∀ b, t b->G.imm b\/Live G mu b) :
      Stp G mu w ⟨fun b=>G.imm b\/(j b/\w.heap.size<=b),G.blk⟩ mu w':=by
    have C:G.le ⟨fun b=>G.imm b\/(j b/\w.heap.size<=b),G.blk⟩:=⟨fun b h => .inl h,fun _ _ h=>h⟩;have T:Ext G w.heap w'.heap:=⟨l.size,fun b g=>l.block b (s.imm b g)⟩;have key:∀ b,Live G mu b->w'.heap[b]?=w.heap[b]?:=fun b U=>l.block b (s.livesize U)
    refine⟨C,⟨s.len,?_,?_,?_,s.inj,s.tab.mono C.imm (fun b g=>l.block b (s.imm b g))⟩,fun b R _=>l.block b R,l.size,fun b h => .inl h,fun b h=>h.elim .inl (fun e => .inr (.inr e.2)),l.tape,l.os,l.output,l.drawn⟩
    · intro b g
      rcases g with g|g
      · exact ZC (s.imm b g) l.size
      grind
    · intro i c p o I J P
      obtain⟨o',g1,g2⟩:=s.obj i c p o I J P;exact⟨o',by rw[key p ⟨i,_,o,I,J,P⟩];exact g1,g2.mono C T⟩
    · intro i c p o I J P g
      rcases g with g|g
      · exact s.live i c p o I J P g
      · have:=s.livesize ⟨i,c,o,I,J,P⟩;omega
theorem EndR.le{G G' h}(j:G.le G'){a e}(r:EndR G h a e):EndR G' h a e:=by
 cases a with
 |ret x=>obtain⟨v,g,i⟩:=r;exact⟨v,g,i.le j⟩
 |pan x=>obtain⟨v,g,i⟩:=r;exact⟨v,g,i.le j⟩
theorem zd.toSound(mu)(h:zd P f args' V)(hw:WKs args args'):qC P f args mu fun e m=>V e/\m=mu:=by
 refine⟨h.1,fun G w t s C=>?_⟩;obtain⟨hl,hg⟩:=hw.get;have p:zX ⟨G.imm,[]⟩ w.heap args' t:=by
  refine⟨by rw[C.1,hl],fun k y I=>?_⟩;have hk:k<args'.length:=(ql.1 I).1;have J:args[k]?=some (args[k]' zOm):=by rw[qy]
  exact hg k _ y J I G w.heap _ (C.2 k _ J)
 refine(h.2 G.imm w t s.bare p).mono fun e R ⟨g,a,T,hr,o,j,hb⟩=>?_
 have U:=qi5 s G.imm g R (fun b h=>h) j hb (fun b h => .inl h);have l:EndR ⟨fun b=>G.imm b\/(g b/\w.heap.size<=b),G.blk⟩ R.heap a e:=hr.le ⟨fun b hi=>by
  grind,fun i x h=>by simp at h⟩
 refine⟨_,mu,U,?_⟩;cases a with
 |ret x=>obtain⟨v,o,j⟩:=l;exact .inl ⟨x,v,⟨T,rfl⟩,o,j⟩
 |pan x=>obtain⟨v,o,j⟩:=l;exact .inr ⟨x,v,⟨T,rfl⟩,o,j⟩
def RdE(mu:Mu):AEnd->AEnd->Prop
 | .ret x,.ret y=>Rd mu x y
 | .pan x,.pan y=>Rd mu x y
 |_,_=>False
theorem zd.of_sound(h:qC P f args [] fun e mu'=>∃ C,V C/\RdE mu' e C):zd P f args V:=by
 obtain⟨I,h⟩:=h;refine⟨I,fun l w vs hi ra=>?_⟩;refine(h ⟨l,[]⟩ w vs hi ra).mono fun e R ⟨T,mu',U,hR⟩=>?_
 have o:∀ b,¬Live ⟨l,[]⟩ [] b:=fun b ⟨i,c,t,hc,_⟩=>by simp at hc
 have fin:∀ a,V a->EndR ⟨fun b=>T.imm b\/Live T mu' b,[]⟩ R.heap a e->∃ g a,V a/\EndR ⟨g,[]⟩ R.heap a e/\(∀ b,l b->g b)/\(∀ b,g b->b<R.heap.size/\(l b\/w.heap.size<=b))/\ZL w.heap.size w R:=by
  intro a J hr;refine⟨fun b=>T.imm b\/Live T mu' b,a,J,hr,fun b p => .inl (U.le.imm b p),fun b p=>?_,⟨U.os,U.tape,U.output,U.size,fun k hk=>U.keep k hk (o k)⟩,U.drawn⟩;rcases p with p|p
  .refine ⟨U.sim.imm b p,?_⟩
   rcases U.inew b p with h|h|h
   .exact .inl h
   .grind
   omega
  .refine ⟨U.sim.livesize p,?_⟩
   rcases U.live b p with h|h
   .grind
   omega
 rcases hR with ⟨r',v,⟨C,J,j⟩,rfl,hu⟩|⟨r',v,⟨C,J,j⟩,rfl,hu⟩
 .cases C with
  |ret y=>exact fin _ J ⟨v,rfl,j.sound U.sim hu⟩
  |pan y=>exact j.elim
 .cases C with
  |ret y=>exact j.elim
  |pan y=>exact fin _ J ⟨v,rfl,j.sound U.sim hu⟩
@[go_sem] theorem RdE_ret:(∀ mu x y,RdE mu (.ret x) (.ret y)=Rd mu x y)/\(∀ mu x y,RdE mu (.pan x) (.pan y)=Rd mu x y):=by and_intros<;>intros<;>exact eqS rfl
theorem aK(h:zd P g args' V)(j:WKs (first++args++caps) args')(p:∀ r,V (.ret r)->K r mu)(kp:∀ r,V (.pan r)->i r mu) :
  qi P false mu (.fn (.func g) first caps) args K i:=
 .inr ⟨rfl,.inl ⟨g,first,caps,_,rfl,h.toSound mu j,fun r m ⟨l,o⟩=>by grind,fun r m ⟨l,o⟩=>by grind⟩⟩
theorem aA(j:qC P g args mu R)(k:∀ r m,R (.ret r) m->K r m)(kp:∀ r m,R (.pan r) m->i r m) :
  qi P false mu (.fn (.func g) [] []) args K i:=
 .inr ⟨rfl,.inl ⟨g,[],[],R,rfl,zUs j,k,kp⟩⟩
theorem aC{v}(h:qR P g args' (.pan v))(j:WKs (first++args++caps) args')(kp:i v mu) :
  qi P false mu (.fn (.func g) first caps) args K i:=aK h j (fun r e=>by cases e) (fun r e=>by cases e;exact kp)
theorem qC.hid{i c}(C:mu[i]?=some c)(I:c ≠ .dead)(h:qC P f args (mu.set i .dead) R) :
  qC P f args mu fun e m=>∃ g,R e g/\g[i]?=some .dead/\m=g.set i c:=by
 refine⟨h.1,fun G w J s T=>?_⟩;have j:i<G.blk.length:=by rw[s.len];exact(ql.1 C).1
 refine(h.2 G w J (s.hid i) T).mono fun e w' ⟨U,g,t,hR⟩=>?_
 obtain⟨g1,g2,g3⟩:=t.unhid s C I (b:=(G.blk[i]'j).1) (t:=(G.blk[i]'j).2) (zP1 j);refine⟨U,g.set i c,g3,?_⟩;rcases hR with ⟨r,v,l,o,p⟩|⟨r,v,l,o,p⟩
 .exact .inl ⟨r,v,⟨g,l,g1,rfl⟩,o,p⟩
 .exact .inr ⟨r,v,⟨g,l,g1,rfl⟩,o,p⟩
theorem qC.monoR{R'}(h:qC P f args mu R)(k:∀ e m,R e m->R' e m):qC P f args mu R':=by
 refine⟨h.1,fun G w g s i=>(h.2 G w g s i).mono fun e J ⟨j,l,t,o⟩=>⟨j,l,t,?_⟩⟩;rcases o with ⟨r,v,p,C,I⟩|⟨r,v,p,C,I⟩
 .grind
 grind
attribute [go_sem] ZQ
def Uq(P:qc)(pl:Pol)(rs:List ResultVar)(R:AEnd->Mu->Prop)(ops:Array yj)(g:Code)(st:St):Option (List yj×yj)->Prop
 |some (pre,o)=>awpS P pl false ops pre (fun st=>Zh P pl rs R o g st) (fun v st=>R (.pan v) st.mu) st
 |none=>awpS P pl false ops ops.toList (fun st=>awpD P pl rs R g st) (fun v st=>R (.pan v) st.mu) st
@[go_sem ↓] theorem awpD_seq{id g} :
  awpD P pl rs R (.seq (.region id ops false) g) st=Uq P pl rs R ops g st (ZQ ops):=by
 grind [ZQ,awpD,Uq]
@[go_sem] theorem qv6{g pre o} :
  Uq P pl rs R ops g st (some (pre,o))=awpS P pl false ops pre (fun st=>Zh P pl rs R o g st) (fun v st=>R (.pan v) st.mu) st:=eqS rfl
@[go_sem] theorem qv7{g} :
  Uq P pl rs R ops g st none=awpS P pl false ops ops.toList (fun st=>awpD P pl rs R g st) (fun v st=>R (.pan v) st.mu) st:=eqS rfl
theorem dT{x args l ty pos p t d i}
  (C:st.ev x = .fn (.func g) first caps) (o:yT P g) (h:awp P pl i (Up P rs g (first++evs st.ev args.toList++caps) R) st) :
  Zh P pl rs R { dst:=d,op := .defer { callee := .value x,args:=args,argTypes:=l },type:=ty,pos:=pos,after:=p,guard:=t } i st:=
 ⟨x,args,l,g,first,caps,rfl,C,o,h⟩
@[go_sem] theorem PostD_ret:(∀{i},Up P rs g i R .ret st=yo P g i st.mu none fun mu'=>OptK (jZ P ⟨st.tm,mu'⟩ rs) fun r=>R (.ret r) mu')/\(∀{i v},Up P rs g i R (.pan v) st=yo P g i st.mu (some v) fun mu'=>OptK (jZ P ⟨st.tm,mu'⟩ rs) fun r=>R (.ret r) mu'):=by and_intros<;>intros<;>exact eqS rfl
theorem yo.mono{m R R'}(h:yo P g args mu m R)(k:∀ mu',R mu'->R' mu'):yo P g args mu m R':=
 ⟨h.1,fun G w i u s j l=>(h.2 G w i u s j l).mono fun e J T ⟨v,o,mu',p,t,C,I⟩=>⟨v,o,mu',p,t,C,k _ I⟩⟩
@[go_sem] theorem ofV_pnone:(ofV (.pointer none) = .sc (.pointer none))/\(ofV (.map none) = .sc (.map none)):=by and_intros<;>exact eqS rfl
theorem Rd.aggs{xs ys}(h:Rds mu xs ys):Rd mu (.agg xs) (.agg ys) := .agg _ _ h.get.1 h.get.2
end
end Go.Ev
namespace Go.Proofs.YthflbhjlkgdafaaGreatDoor
open Go Go.Ev Go.Proofs Tryz
namespace Y1
inductive Nd where
 |mk (op:Int) (name:dC) (n:Int) (sD:List Nd) (pos:Int)
def Nd.op:Nd->Int | .mk o _ _ _ _=>o
def Nd.name:Nd->dC | .mk _ s _ _ _=>s
def Nd.n:Nd->Int | .mk _ _ n _ _=>n
def Nd.sD:Nd->List Nd | .mk _ _ _ ks _=>ks
def Nd.pos:Nd->Int | .mk _ _ _ _ p=>p
abbrev aS(s:dC):AV := .sc (.string s)
mutual
def cNd:Nd->List AV
 | .mk op nm n ks p=>[aI op,aS nm,aI n,.lst false (cNds ks),aI p]
def cNds:List Nd->List (List AV)
 | []=>[]
 |k :: ks=>cNd k :: cNds ks
end
theorem Xn:∀ ks,cNds ks=ks.map cNd
 | []=>by simp[cNds]
 |k :: ks=>by simp[cNds,Xn ks]
theorem jp(n):cNd n=[aI n.op,aS n.name,aI n.n,.lst false (n.sD.map cNd),aI n.pos]:=by
 obtain⟨op,nm,k,ks,p⟩:=n;simp[cNd,Xn,Nd.op,Nd.name,Nd.n,Nd.sD,Nd.pos]
@[go_sem] theorem Yu(n):(cNd n).length=5:=by rw[jp];rfl
@[go_sem] theorem qi6(n):(cNd n).take 5=cNd n:=zU (by rw[Yu];exact qn _)
@[go_sem] theorem JU(n):(cNd n).all AV.one=true:=by rw[jp];rfl
@[go_sem] theorem qZ(n):(∀ x,x∈cNd n->x.one=true)=True:=eq_true fun x g=>by have:=qY.1 (JU n) x g;simpa using this
@[go_sem] theorem cNd_f0(n):(cNd n).take 1=[aI n.op]:=by rw[jp];rfl
@[go_sem] theorem cNd_f1t(n):(cNd n).tail.take 1=[aS n.name]:=by rw[jp];rfl
@[go_sem] theorem cNd_f2(n):((cNd n).drop 2).take 1=[aI n.n]:=by rw[jp];rfl
@[go_sem] theorem cNd_f3(n):((cNd n).drop 3).take 1=[.lst false (n.sD.map cNd)]:=by rw[jp];rfl
@[go_sem] theorem nB(n):((cNd n).drop 4).take 1=[aI n.pos]:=by rw[jp];rfl
@[go_sem high] theorem put_cNd(z o n):putCells z o (cNd n)=z.take o++(cNd n++z.drop (o+5)):=by
 rw[jp];simp[putCells]
abbrev eNd(n:Nd):AV := .agg (cNd n)
abbrev lNd(ks:List Nd):AV := .lst false (ks.map cNd)
mutual
theorem jQ:∀(n:Nd),∀ c,c∈cNd n->HF c
 | .mk op nm n ks p=>by
  intro c g;simp only[cNd,qz,qO,or_false]at g;rcases g with rfl|rfl|rfl|rfl|rfl
  .exact HF.sc _
  .exact HF.sc _
  .exact HF.sc _
  .exact HF.lst (Xo ks)
  .exact HF.sc _
theorem Xo:∀(ks:List Nd),∀ r,r∈cNds ks->∀ c,c∈r->HF c
 | []=>by intro r g;simp[cNds]at g
 |k :: ks=>by
  intro r g;simp only[cNds,qz]at g;rcases g with rfl|g
  .exact jQ k
  .exact Xo ks r g
end
theorem qE(n):HF (eNd n):=HF.agg (jQ n)
theorem JV(ks):HF (lNd ks):=HF.lst (by rw[<-Xn];exact Xo ks)
theorem Yv(ks:List Nd):qV 5 (ks.map cNd):=fun r g=>by
 obtain⟨n,_,rfl⟩:=qp.1 g;rw[jp];exact⟨rfl,rfl⟩
abbrev vM(e p:Int):AV := .ifc 221 (.agg [aI e,aI p])
theorem yO(e p):HF (vM e p):=HF.ifc (HF.agg fun c g=>by simp at g;rcases g with rfl|rfl<;>exact HF.sc _)
theorem failU(e n):qR qg 189 [aI e,eNd n] (.pan (vM e n.pos)):=by
 refine zd.of_sound ?_;refine qSW call189 func189 rfl {} ?_;simp only[eNd,jp];simp[go_sem];exact⟨_,_,⟨rfl,rfl⟩,.hf _ (yO _ _)⟩
theorem yp(ok e n):qR qg 122 [aB ok,aI e,eNd n] (if ok then .ret (.tup []) else .pan (vM e n.pos)):=by
 refine zd.of_sound ?_;refine qSW call122 func122 rfl {} ?_;simp only[eNd];cases ok
 .simp [go_sem]
  refine aC (failU e n) (.zs (.zk (qE n) .nil)) ?_;simp[go_sem];exact .hf _ (yO _ _)
 .simp [go_sem]
  exact .hf _ (HF.tup zSp)
theorem qi7(mu b x y)(i:mu[b]?=some (.arr [x,y])):yo qg 159 [.ptr b 0] mu none fun mu'=>mu'=mu:=by
 refine yo.of_awp call159 func159 rfl ⟨_,_,_,_,rfl⟩ (vd zKr) zKr zKr (pl:={}) ?_;simp[go_sem]
theorem qi8(mu b x y e p)(i:mu[b]?=some (.arr [x,y])):yo qg 159 [.ptr b 0] mu (some (vM e p)) fun mu'=>∃ c,mu'=mu.set b (.arr [aI e,aI p])++[c]:=by
 refine yo.of_awp call159 func159 rfl ⟨_,_,_,_,rfl⟩ (vd zKr) zKr zKr (pl:={}) ?_;have j:b<mu.length:=(ql.1 i).1;have l:∀ c:Cell,(mu++[c])[b]?=some (.arr [x,y]):=fun c=>by rw[qL j,i]
 have o:∀ c d:Cell,(mu++[c]).set b d=mu.set b d++[c]:=fun c d=>List.set_append_left b d j
 simp[go_sem,l,o]
theorem nC{g caps mu R}(h:qC qg g caps (mu++[.dead]) R)(P:∀ v m,R (.pan v) m->∃ e p,v=vM e p) :
  qC qg 74 [.fn (.func g) [] caps] mu fun e m=>∃ j c,(∃ l,m=j.set mu.length c++l)/\((∃ r,R (.ret r) j/\e = .ret (.agg [aI 0,aI 0]))\/∃ J p,R (.pan (vM J p)) j/\e = .ret (.agg [aI J,aI p])):=by
 refine fZ call74 func74 rfl (vd zKr) zKr (pl:={}) ?_;simp[go_sem];refine dT (g:=159) (first:=[]) (caps:=[.ptr mu.length 0]) zSi call159 ?_;simp[go_sem];refine fH (qC.hid (i:=mu.length) (c := .arr [aI 0,aI 0]) zSp zSp (zUs h)) ?_ ?_
 .rintro r m ⟨j,t,C,rfl⟩
  have o:mu.length<j.length:=(ql.1 C).1;have I:(j.set mu.length (.arr [aI 0,aI 0]))[mu.length]?=some (.arr [aI 0,aI 0]):=qJ o;simp[go_sem,o];refine yo.mono (qi7 _ mu.length (aI 0) (aI 0) I) ?_;rintro _ rfl;simp[go_sem,o];exact⟨j,⟨_,[],(List.append_nil _).symm⟩,.inl ⟨r,t⟩⟩
 .rintro r m ⟨j,t,C,rfl⟩
  obtain⟨e,p,rfl⟩:=P _ _ t;have o:mu.length<j.length:=(ql.1 C).1;have I:(j.set mu.length (.arr [aI 0,aI 0]))[mu.length]?=some (.arr [aI 0,aI 0]):=qJ o;simp[go_sem];refine yo.mono (qi8 _ mu.length (aI 0) (aI 0) e p I) ?_;rintro _ ⟨c,rfl⟩;simp[go_sem,o];exact⟨j,⟨_,[c],rfl⟩,.inr t⟩
end Y1
namespace Y2
open Y1
abbrev aT(t:List Int):AV := .agg (t.map fun x => .sc (.int .i8 x))
structure Kd where
 ar:Int
 ts:List (List Int)
abbrev mKd(ts:List (List Int)):AV := .ims (ts.map fun t=>(aT t,aB true))
abbrev cKd(k:Kd):List AV:=[aI k.ar,mKd k.ts]
abbrev eKd(k:Kd):AV := .agg (cKd k)
theorem Xp(t):HF (aT t):=HF.agg fun c g=>by
 obtain⟨x,_,rfl⟩:=qp.1 g;exact HF.sc _
theorem JW(ts):HF (mKd ts):=HF.ims fun p g=>by
 obtain⟨t,_,rfl⟩:=qp.1 g;exact⟨Xp t,HF.sc _⟩
theorem yg(k):HF (eKd k):=HF.agg fun c g=>by
 simp at g;rcases g with rfl|rfl
 .exact HF.sc _
 .exact JW _
theorem nD(n):qj qg 223 [aI n] (eKd ⟨n,[]⟩):=by
 refine qSU call223 func223 rfl ?_;exact Rd.aggs ⟨.hf _ (HF.sc _),fQ (es:=[]) (fs:=[]) rfl zSp zSp zSp zSp,trivial⟩
theorem j0{a b:dC}(h:¬a=b):(a.toList == b.toList)=false:=by
 cases g:(a.toList == b.toList) with
 |false=>rfl
 |true=>exact absurd (WL (by rw[beq_toListBytes];exact g)) h
def aSc:List (dC×Kd)->AV
 | [] => .sc (.pointer none)
 |v :: s => .ip [aS v.1,aI v.2.ar,mKd v.2.ts,aSc s]
@[go_sem] theorem aSc_cells(s):(aSc s).cells=[aSc s]:=by cases s<;>rfl
@[go_sem] theorem aSc_one(s):(aSc s).one=true:=by cases s<;>rfl
theorem wI:∀ s,HF (aSc s)
 | []=>HF.sc _
 |v :: s=>HF.ip fun c g=>by
  simp only[qz,qO,or_false]at g;rcases g with rfl|rfl|rfl|rfl
  .exact HF.sc _
  .exact HF.sc _
  .exact JW _
  .exact wI s
def zK(name:dC):List (dC×Kd)->List (dC×Kd)
 | []=>[]
 |v :: s=>if v.1=name then v :: s else zK name s
theorem findU(s name):qj qg 219 [aSc s,aS name] (aSc (zK name s)):=by
 refine qSU call219 func219 rfl ?_;refine tL (fun n U=>∃ r,n=r.length/\zK name r=zK name s/\U.tm 0=aSc r/\U.tm 1=aS name/\U.mu=[]) s.length ⟨s,rfl,rfl,rfl,rfl,rfl⟩ ?_;rintro n U ⟨r,rfl,i,j,o,l⟩;cases r with
 |nil =>
  simp[go_sem,aSc,j,l];rw[<-i];exact .zsc _
 |cons v r =>
  by_cases g:v.1=name
  .simp [go_sem,aSc,j,o,l,g]
   rw[<-i,zK,if_pos g];have:=wI (v :: r);simp only[aSc,g]at this⊢;exact .hf _ this
  .simp [go_sem,aSc,j,o,l,j0 g]
   rw[zK,if_neg g]at i;exact⟨_,Nat.lt_succ_self _,r,rfl,i,rfl⟩
end Y2
namespace Y3
open Y2
def pad(l:List Int):List Int:=[l.getD 0 0,l.getD 1 0,l.getD 2 0]
abbrev i8s(l:List Int):List AV:=l.map fun x => .sc (.int .i8 x)
theorem qi9(l:List Int)(k g)(i:l.length<=3):(i8s (pad (l.take k))).set k (.sc (.int .i8 l[k]))=i8s (pad (l.take (k+1))):=by
 match l,i with
 | [],_=>simp at g
 | [a],_=>match k,g with|0,_=>rfl
 | [a,b],_=>match k,g with|0,_=>rfl|1,_=>rfl
 | [a,b,c],_=>match k,g with|0,_=>rfl|1,_=>rfl|2,_=>rfl
 |a :: b :: c :: d :: l,h=>simp at h
theorem nE(l):(pad l).length=3:=rfl
theorem qjA(l):(i8s (pad l)).take 3=i8s (pad l):=rfl
theorem wrap8{x}(h:0<=x/\x<128):IntKind.i8.wrap x=x:=by
 simp[IntKind.wrap,IntKind.signed,IntKind.bits];omega
@[go_sem] theorem findA_nil(P g k i):zn P g k [] i=some none:=eqS rfl
theorem ofU(l)(T:l.length<=3)(hr:∀ x,x∈l->0<=x/\x<128):qj qg 164 [lI l] (eKd ⟨l.length,[pad l]⟩):=by
 refine qSU call164 func164 rfl ?_;refine qm.up l.length (fun k U=>U.tm 0=lI l/\U.tm 2 = .ptr 0 0/\U.tm 3 = .ptr 1 0/\U.tm 6=lI l/\U.tm 7=aI l.length/\U.tm 8=aI k/\U.mu=[.arr [aI 0,.sc (.map none)],.arr (i8s (pad (l.take k)))]) ?_ ?_
 .simp [go_sem,pad]
  done
 .rintro k U hk ⟨o,p,t,h6,C,I,P⟩
  by_cases he:k=l.length
  .subst he
   simp[go_sem,o,p,t,C,I,P,nE,qjA];exact Rd.aggs ⟨.hf _ (HF.sc _),fQ (es:=[(aT (pad l),aB true)]) (fs:=[(aT (pad l),aB true)]) rfl zSp zSp zSp (fun x R=>by simp at R;subst R;exact⟨Xp _,HF.sc _⟩),trivial⟩
  .have g:k<l.length:=by omega
   have i:(k:Int)<3:=zOm;have hw:=wrap8 (hr l[k] zSp);have j:=qi9 l k g T;simp[go_sem,o,p,t,h6,C,I,P,g,i,hw,nE,show k<=2 by omega,j];simp[IntKind.wrap,IntKind.signed,IntKind.bits];omega
end Y3
namespace Y4
end Y4
namespace P1
open Y1 Y2 Y3
section
abbrev Tp:=List Int
variable {a b:List Tp}
structure Pd where
 name:dC
 params:List (dC×Int)
 body:Nd
structure TS where
 sS:List (dC×Bool)
 sA:List Fld
 sT:List Pd
 sP:List (dC×Nd)
def ins(l:List Tp)(t:Tp):List Tp:=if t∈l then l else l++[t]
def uni(a b:List Tp):List Tp:=b.foldl ins a
theorem uS{l t x}:x∈ins l t↔x∈l\/x=t:=by
 grind [ins,id]
theorem um{x}:x∈uni a b↔x∈a\/x∈b:=by
 unfold uni;induction b generalizing a with
 |nil=>simp
 |cons t b g =>
  rw[List.foldl_cons,g,uS,qz,or_assoc]
theorem Yw{l t}(h:l.Nodup):(ins l t).Nodup:=by
 grind [ins,ZE]
theorem wJ(h:a.Nodup):(uni a b).Nodup:=by
 unfold uni;induction b generalizing a with
 |nil=>exact h
 |cons t b g=>exact g (Yw h)
def kOf(l:List Int):Kd:=⟨l.length,[pad l]⟩
def kSum(a b:Kd):Kd:=⟨a.ar,uni (uni [] a.ts) b.ts⟩
def conc(x:Tp)(n:Nat)(y:Tp)(m skip:Nat):Tp:=pad (x.take (n-skip)++(y.take m).drop skip)
def pairs(a b:List Tp):List (Tp×Tp):=a.flatMap fun x=>b.map fun y=>(x,y)
theorem Yx{x y}:(x,y)∈pairs a b↔x∈a/\y∈b:=by
 simp[pairs]
def uT(n m:Nat)(a b:List Tp):List Tp:=uni [] ((pairs a b).filterMap fun q=>if q.1.getD (n-1) 0=q.2.getD 0 0 then some (conc q.1 n q.2 m 1) else none)
def zM(a b:Kd):Kd:=⟨a.ar+b.ar-2,uT a.ar.toNat b.ar.toNat a.ts b.ts⟩
def ZR(n m:Nat)(a b:List Tp):List Tp:=uni [] ((pairs a b).map fun q=>conc q.1 n q.2 m 0)
def Zi(a b:Kd):Kd:=⟨a.ar+b.ar,ZR a.ar.toNat b.ar.toNat a.ts b.ts⟩
def cloN:Nat->Nat->Kd->Kd
 | 0,_,a=>a
 |f+1,n,a=>if n<a.ts.length then cloN f a.ts.length (kSum a (zM a a)) else a
def kClo(a:Kd):Kd:=cloN 70 0 a
def zA(ns g:Nat):Kd:=⟨g,(qu ns).map fun (i:Nat)=>pad (qM g (i:Int))⟩
def JY(a b:Kd):Kd:=⟨a.ar,a.ts.filter fun t=>decide (t∈b.ts)⟩
def kTr(a:Kd):Kd:=⟨2,uni [] (a.ts.map fun t=>[t.getD 1 0,t.getD 0 0,0])⟩
def yP:dC:=⟨#[95,102,105,114,115,116]⟩
def jq:dC:=⟨#[95,110,101,120,116]⟩
def z7(fs:List Fld)(nm:dC):List Kd:=fs.filterMap fun f=>if f.name=nm then some (kOf f.sS) else none
def vO(i:Nat)(s:dC×Bool)(nm:dC):List Kd:=
 (if s.1=nm then [kOf [(i:Int)]] else [])++((if s.2=true/\s.1++yP=nm then [kOf [(i:Int)]] else [])++(if s.2=true/\s.1++jq=nm then [kOf [(i:Int),(i:Int)]] else []))
def yr:Nat->List (dC×Bool)->dC->List Kd
 |_,[],_=>[]
 |i,s :: r,nm=>vO i s nm++yr (i+1) r nm
def zS(ts:TS)(nm:dC):List Kd:=z7 ts.sA nm++yr 0 ts.sS nm
structure Ck where
 ts:TS
 calls:Nat
 timed:List Bool
def zC(c:Ck)(nm:dC):Option Nat:=(c.ts.sT.take c.calls).findIdx? fun p=>decide (p.name=nm)
def yX(op:Int):Bool:=decide (op=5)||decide (op=48)||decide (op=49)||decide (op=50)||decide (op=51)
def jc(c:Ck)(op:Int)(nm:dC):Bool:=yX op||(decide (op=47)&&(match zC c nm with|some p=>c.timed.getD p false|none=>false))
mutual
def yY(c:Ck):Nd->Bool
 | .mk op nm n ks p=>jc c op nm||Ur c ks
def Ur(c:Ck):List Nd->Bool
 | []=>false
 |k :: ks=>yY c k||Ur c ks
end
end
def tmsL(ts:TS):Nat->List Bool
 | 0=>[]
 |k+1=>tmsL ts k++(match ts.sT[k]? with|some p=>[yY ⟨ts,k,tmsL ts k⟩ p.body] | none=>[])
def mkCk(ts:TS)(g:Nat):Ck:=⟨ts,g,tmsL ts g⟩
abbrev Scp:=List (dC×Kd)
abbrev Dg:=Int×Int
abbrev Res:=Except Dg (Option Kd)
def yQ(c:Ck)(s:Scp)(nm:dC)(pos:Int):Res:=
 match zK nm s with
 |v :: _ => .ok (some v.2)
 | []=>match zS c.ts nm with
  | [] => .error (40,pos)
  | [k] => .ok (some k)
  |_ => .error (44,pos)
def un(op:Int)(a b:Kd):Kd:=if op=6\/op=14 then kSum a b else if op=7 then JY a b else a
def binK(ns:Nat)(op:Int)(a:Kd):Kd:=if op=12 then kClo a else if op=13 then kSum (kClo a) (zA ns 2) else kTr a
def zE(ns:Nat)(op n pos:Int)(l:List (Option Kd)):Res:=
 if op=2 then .ok (some ⟨n,[]⟩)
 else if op=3 then .ok (some (zA ns 1))
 else if op=4 then .ok (some (zA ns 2))
 else match l with
  | [a]=>if op=5 then .ok a else match a with
   |some a=>if op=11\/op=12\/op=13 then (if a.ar=2 then .ok (some (binK ns op a)) else .error (42,pos)) else .ok none
   |none => .ok none
  | [some a,some b] =>
   if op=6\/op=14\/op=7\/op=8\/op=32\/op=33 then (if a.ar=b.ar then .ok (some (un op a b)) else .error (42,pos))
   else if op=9 then (if 1<=a.ar+b.ar-2/\a.ar+b.ar-2<=3 then .ok (some (zM a b)) else .error (42,pos))
   else if op=10 then (if a.ar+b.ar<=3 then .ok (some (Zi a b)) else .error (42,pos))
   else .ok none
  |_ => .ok none
def Qk(i:Int)(k:Kd):Bool:=k.ts.all fun t=>decide (t.getD 0 0=i)
mutual
def exam(c:Ck)(s:Scp)(inn:Bool):Nd->Res
 | .mk op nm n ks pos =>
  if (inn&&jc c op nm)=true then .error (46,pos)
  else if op=1 then yQ c s nm pos
  else if op=47 then
   if (c.ts.sT.any fun p=>decide (p.name=nm))=true then
    match zC c nm with
    |none => .error (45,pos)
    |some p=>match c.ts.sT[p]? with
     |none => .error (45,pos)
     |some g=>if g.params.length=ks.length then yC c s pos g.params ks else .error (45,pos)
   else .error (40,pos)
  else if op=15\/op=45\/op=46 then jj c s (inn||decide (op=15)) nm pos ks
  else match zq c s (inn||decide (op=12)||decide (op=13)) ks with
   | .error e => .error e
   | .ok l=>zE c.ts.sS.length op n pos l
def zq(c:Ck)(s:Scp)(inn:Bool):List Nd->Except Dg (List (Option Kd))
 | [] => .ok []
 |k :: ks=>match exam c s inn k with
  | .error e => .error e
  | .ok a=>match zq c s inn ks with
   | .error e => .error e
   | .ok l => .ok (a :: l)
def yC(c:Ck)(s:Scp)(pos:Int):List (dC×Int)->List Nd->Res
 |_,[] => .ok none
 | [],_ => .ok none
 |p :: g,k :: ks=>match exam c s true k with
  | .error e => .error e
  | .ok none => .error (42,pos)
  | .ok (some a)=>if a.ar=1 then (if Qk p.2 a=true then yC c s pos g ks else .error (43,pos)) else .error (42,pos)
def jj(c:Ck)(s:Scp)(inn:Bool)(nm:dC)(pos:Int):List Nd->Res
 | [] => .ok none
 |k :: ks=>match exam c s inn k with
  | .error e => .error e
  | .ok none => .error (42,pos)
  | .ok (some a)=>if a.ar=1 then (match zq c ((nm,a) :: s) inn ks with
    | .error e => .error e
    | .ok _ => .ok (some a)) else .error (42,pos)
end
def zO(env:List (dC×Int)):Scp:=env.foldl (fun s p=>(p.1,kOf [p.2]) :: s) []
def dgOf:Res->Dg
 | .ok _=>(0,0)
 | .error e=>e
def jR(c:Ck)(env:List (dC×Int))(n:Nd):Dg:=if 30<=n.op then dgOf (exam c (zO env) false n) else (43,n.pos)
def jE(ts:TS)(env:List (dC×Int))(n:Nd):Dg:=jR (mkCk ts ts.sT.length) env n
end P1
end Go.Proofs.YthflbhjlkgdafaaGreatDoor
namespace Go.Ev
open Go
structure KeyT (P:qc) (kt:qd) {κ:Type} [DecidableEq κ] (kenc:κ->AV) (ok:κ->Prop):Prop where
 eq:∀ a b,ok a->ok b->jL P kt (kenc a) (kenc b)=some (decide (a=b))
 kok:∀ a,ok a->jw P kt (kenc a)=true
section
variable {κ α:Type} [DecidableEq κ]
def vr(k:κ):List (κ×α)->Nat->Option Nat
 | [],_=>none
 |e :: J,i=>if k=e.1 then some i else vr k J (i+1)
def getK(k:κ):List (κ×α)->Option α
 | []=>none
 |e :: J=>if k=e.1 then some e.2 else getK k J
def setK(k:κ)(v:α):List (κ×α)->List (κ×α)
 | []=>[(k,v)]
 |e :: J=>if k=e.1 then (k,v) :: J else e :: setK k v J
theorem Xq{k}:∀{es:List (κ×α)}{i j},vr k es i=some j->∃ n v,j=i+n/\es[n]?=some (k,v)/\getK k es=some v
 | [],_,_,h=>by simp[vr]at h
 |e :: es,i,j,h=>by
  unfold vr at h;unfold getK;split at h
  .simp_all
  .rename_i g
   obtain⟨n,v,rfl,l,o⟩:=Xq h;exact⟨n+1,v,zOm,zUs l,by rw[if_neg g];exact o⟩
theorem Xr{k}:∀{es:List (κ×α)}{i},vr k es i=none->getK k es=none/\∀ v,setK k v es=es++[(k,v)]
 | [],_,_=>⟨rfl,fun _=>rfl⟩
 |e :: es,i,h=>by
  unfold vr at h;split at h
  .grind
  .rename_i g
   obtain⟨j,l⟩:=Xr h;simp_all[getK,if_neg,setK,List.cons_append]
theorem nF{k v}:∀{es:List (κ×α)}{i n},vr k es i=some (i+n)->setK k v es=es.set n (k,v)
 | [],_,_,h=>by simp[vr]at h
 |e :: es,i,n,h=>by
  unfold vr at h;split at h
  .simp_all [qs,setK]
  .rename_i g
   obtain⟨m,l,o,_⟩:=Xq h;have:n=m+1:=zOm;subst this;have j:vr k es (i+1)=some (i+1+m):=by rw[h,Nat.add_assoc,Nat.add_comm 1 m]
   simp only[setK,if_neg g,nF (v:=v) j,List.set_cons_succ]
theorem nG{k v}:∀{es:List (κ×α)}{x},x∈(setK k v es).map Prod.fst↔x=k\/x∈es.map Prod.fst
 | [],x=>by simp[setK]
 |e :: es,x=>by
  unfold setK;split
  .rename_i g;subst g;simp
  .simp only[zf,qz,nG]
   constructor
   .rintro (h|h|h)
    .exact .inr (.inl h)
    .exact .inl h
    .exact .inr (.inr h)
   .rintro (h|h|h)
    .exact .inr (.inl h)
    .exact .inl h
    .exact .inr (.inr h)
theorem Us{k v}:∀{es:List (κ×α)},(es.map Prod.fst).Nodup->((setK k v es).map Prod.fst).Nodup
 | [],_=>by simp[setK]
 |e :: es,h=>by
  unfold setK;split
  .rename_i g;subst g;simpa using h
  .rename_i g
   rw[zf,ve]at h⊢;exact⟨fun i=>(nG.1 i).elim (fun e=>g e.symm) h.1,Us h.2⟩
theorem uo{k x v}:∀{es:List (κ×α)},getK x (setK k v es)=if x=k then some v else getK x es
 | []=>by simp[setK,getK]
 |e :: es=>by
  unfold setK;split
  .grind [getK]
  .rename_i i
   by_cases g:x=e.1
   .have:x≠k:=fun h=>i (by rw[<-h,g])
    rw[if_neg this];simp[getK,g]
   .simp only[getK,if_neg g,uo]
theorem ZT{k v}:∀{es:List (κ×α)},(es.map Prod.fst).Nodup->(getK k es=some v↔(k,v)∈es)
 | [],_=>by simp[getK]
 |e :: es,h=>by
  rw[zf,ve]at h;unfold getK;by_cases g:k=e.1
  .rw [if_pos g]
   subst g;refine⟨fun h=>?_,fun j=>?_⟩
   .cases h;exact List.mem_cons_self
   .rcases qz.1 j with i|i
    .rw [<-i]
    grind
  .rw [if_neg g,ZT h.2,qz]
   exact⟨.inr,fun h=>h.elim (fun e=>absurd (congrArg Prod.fst e) g) id⟩
def delK(k:κ):List (κ×α)->List (κ×α)
 | []=>[]
 |e :: J=>if k=e.1 then J else e :: delK k J
theorem nH{k}:∀{es},(es.map Prod.fst).Nodup->∀{x:κ×α},x∈delK k es↔x∈es/\x.1≠k
 | [],_,x=>by simp[delK]
 |e :: es,h,x=>by
  rw[zf,ve]at h;unfold delK;by_cases g:k=e.1
  .rw [if_pos g]
   refine⟨fun j=>⟨List.mem_cons_of_mem _ j,fun l=>?_⟩,fun j=>?_⟩
   .grind
   grind
  .rw [if_neg g,qz,qz,nH h.2]
   refine⟨fun i=>?_,fun i=>?_⟩
   .rcases i with rfl|i
    .exact ⟨.inl rfl,fun e=>g e.symm⟩
    grind
   grind
theorem Yy{k}:∀{es:List (κ×α)},(delK k es).Sublist es
 | []=>by simp[delK]
 |e :: es=>by
  unfold delK;split
  .exact List.sublist_cons_self _ _
  .exact Yy.cons_cons _
theorem qjB{k}{es:List (κ×α)}(h:(es.map Prod.fst).Nodup):((delK k es).map Prod.fst).Nodup:=h.sublist (Yy.map _)
theorem JZ{k x}:∀{es:List (κ×α)},(es.map Prod.fst).Nodup->getK x (delK k es)=if x=k then none else getK x es
 | [],_=>by simp[delK,getK]
 |e :: es,h=>by
  rw[zf,ve]at h;unfold delK;by_cases i:k=e.1
  .rw [if_pos i]
   by_cases g:x=k
   .rw [if_pos g]
    cases j:getK x es with
    |none=>rfl
    |some v=>exact absurd (qp.2 ⟨_,(ZT h.2).1 j,by rw[g,i]⟩) h.1
   simp_all[if_neg,getK]
  .rw [if_neg i]
   by_cases g:x=e.1
   .have:x≠k:=fun l=>i (by rw[<-l,g])
    rw[if_neg this];simp[getK,g]
   simp_all[getK,if_neg,JZ]
abbrev encK(g:κ->AV)(venc:α->AV)(es:List (κ×α)):List (AV×AV):=es.map fun e=>(g e.1,venc e.2)
variable {P:qc} {kt:qd} {kenc:κ->AV} {ok:κ->Prop} {venc:α->AV}
theorem KeyT.find(h:KeyT P kt kenc ok){k}(g:ok k):∀{es i},(∀ e,e∈es->ok e.1)->zn P kt (kenc k) (encK kenc venc es) i=some (vr k es i)
 | [],i,_=>rfl
 |e :: es,i,j=>by
  simp only[encK,zf,zn,h.eq k e.1 g (j e zSp),vr];by_cases l:k=e.1
  .simp [l]
  .simp only[l,decide_false,if_false]
   exact KeyT.find h g (fun e o=>j e (zP1 o))
theorem KeyT.update(h:KeyT P kt kenc ok){et t}(l:mapT P t=some (kt,et)){mu b es}(o:mu[b]?=some (.mp (encK kenc venc es))){k v}(g:ok k)(p:∀ e,e∈es->ok e.1) :
  uf P mu t (.mp b) (kenc k) (venc v)=some (mu.set b (.mp (encK kenc venc (setK k v es)))):=by
 simp only[uf,l,o,h.kok k g,if_true,h.find (venc:=venc) g p,zh];cases i:vr k es 0 with
 |none=>simp only[V3,(Xr i).2 v,encK,zi,zf,List.map_nil]
 |some j =>
  have C:vr k es 0=some (0+j):=by rw[i,yJ]
  simp only[V3,nF (v:=v) C,encK,List.map_set]
theorem KeyT.look(h:KeyT P kt kenc ok){et t}(l:mapT P t=some (kt,et)){mu m es}(o:jW mu m=some (encK kenc venc es)){k}(g:ok k)(p:∀ e,e∈es->ok e.1){z}(C:qB P et=some z)(b) :
  jx P mu t m (kenc k) b=some (match getK k es with|some v=>if b then .tup [venc v,.sc (.bool true)] else venc v|none=>if b then .tup [z,.sc (.bool false)] else z):=by
 simp only[jx,l,o,h.kok k g,if_true,h.find (venc:=venc) g p];cases i:vr k es 0 with
 |none=>simp only[(Xr i).1,C,zh]
 |some j =>
  obtain⟨n,v,I,J,R⟩:=Xq i
  grind
theorem KeyT.lookS(h:KeyT P kt kenc ok){et t}(g:mapT P t=some (kt,et)){mu es k}(j:ok k)(i:∀ e,e∈es->ok e.1){z}(l:qB P et=some z)(b) :
  yL P mu t (.ims (encK kenc venc es)) (kenc k) b=some (match getK k es with|some v=>if b then .tup [venc v,.sc (.bool true)] else venc v|none=>if b then .tup [z,.sc (.bool false)] else z):=by
 have o:(encK kenc venc es).all (fun e=>jw P kt e.1)=true:=qY.2 fun e p=>by
  obtain⟨x,C,rfl⟩:=qp.1 p;exact h.kok _ (i x C)
 simp only[yL,g,o,if_true];exact h.look g (m := .im _) rfl j i l b
end
def Ut(n:Nat)(J:List Nat->St->Prop)(seen:List Nat)(Q:qW->St->Prop):qW->St->Prop
 | .normal,U=>∃ i,i<n/\i ∉ seen/\Keep (J (seen++[i])) .mk U
 |e,U=>Q e U
section
variable (n:Nat) (J:List Nat->St->Prop) (seen:List Nat) (Q:qW->St->Prop) (st:St)
@[go_sem ↓] theorem qv8:(Ut n J seen Q .normal st=∃ i,i<n/\i ∉ seen/\Keep (J (seen++[i])) .mk st)/\(∀ i,Ut n J seen Q (.exit i) st=Q (.exit i) st)/\(∀ v,Ut n J seen Q (.pan v) st=Q (.pan v) st):=by and_intros<;>intros<;>exact eqS rfl
end
section
variable {st:St}{Q:qW->St->Prop}
theorem Uu:∀(n)(l:List Nat),l.Nodup->(∀ i,i∈l->i<n)->l.length<=n
 | 0,l,_,h=>by
  cases l with
  |nil=>simp
  |cons a l=>exact absurd (h a zSp) zOm
 |n+1,l,g,h=>by
  have j:=Uu n (l.erase n) (g.erase n) (fun i o=>by
   have t:=h i (List.mem_of_mem_erase o);have C:i≠n:=fun e=>by
    subst e;exact(List.Nodup.not_mem_erase g) o
   omega)
  by_cases p:n∈l
  .rw [List.length_erase_of_mem p]at j;omega
  .rw [List.erase_of_not_mem p]at j;omega
theorem qjC{n i seen}(o:seen.Nodup)(p:∀ j,j∈seen->j<n)(t:i<n)(C:i ∉ seen):(seen++[i]).Nodup/\(∀ j,j∈seen++[i]->j<n)/\n-(seen++[i]).length<n-seen.length:=by
 have g:(seen++[i]).Nodup:=by
  grind
 have l:∀ j,j∈seen++[i]->j<n:=by
  grind
 refine⟨g,l,?_⟩;have:=Uu n _ g l;simp at this⊢;omega
theorem qm.seen{P pl body}(n J)(o:J [] st)(h:∀ seen st,seen.Nodup->(∀ i,i∈seen->i<n)->J seen st->awp P pl body (Ut n J seen Q) st):qm P pl body Q st:=by
 refine tL (fun m st=>∃ seen,m=n-seen.length/\seen.Nodup/\(∀ i,i∈seen->i<n)/\J seen st) n ⟨[],zSp,zSp,zSp,o⟩ ?_;rintro m st ⟨seen,rfl,j,l,p⟩;refine awp.mono body (h seen st j l p) (fun e st g=>?_);cases e with
 |normal =>
  obtain⟨i,t,C,I⟩:=g;obtain⟨R,T,U⟩:=qjC j l t C;exact⟨_,U,seen++[i],rfl,R,T,I⟩
 |exit i=>exact g
 |ret=>exact g
 |pan v=>exact g
theorem aP{P pl body}(N)(I:Nat->St->Prop)(g:I 0 st)(h:∀ k st,k<=N->I k st->awp P pl body (upQ (fun k=>Keep (I k) .mk) N k Q) st):qm P pl body Q st:=
 qm.up N (fun k=>Keep (I k) .mk) g h
theorem aM{p}(h:p st):Keep p .mk st:=h
theorem nI{m:Mu}{a}(i:m[0]?=some a):∃ g,m=a :: g:=by
 match m,i with
 |a :: g,i=>grind
end
end Go.Ev
namespace Go.Proofs.YthflbhjlkgdafaaGreatDoor
open Go Go.Ev Go.Proofs Tryz
namespace YM
open Y1 Y2 Y3 P1
def okT(t:Tp):Prop:=t.length=3
theorem nJ:∀ a b,a.length=b.length->aEqs (i8s a) (i8s b)=some (decide (a=b))
 | [],[],_=>rfl
 |x :: a,y :: b,h=>by
  have g:=nJ a b (zUs h);simp only[i8s,zf,aEqs]at g⊢;simp only[g];by_cases i:x=y<;>simp[i]
 | [],_ :: _,h=>by simp at h
 |_ :: _,[],h=>by simp at h
theorem keyT:KeyT qg 146 aT okT:=by
 refine⟨fun a b g i=>?_,fun a g=>?_⟩
 .simp_all [go_sem,okT,nJ]
 simp_all[go_sem,okT]
theorem keyS:KeyT qg 9 aS (fun _=>True):=by
 refine⟨fun a b _ _=>?_,fun a _=>zSi⟩;simp[go_sem];by_cases h:a=b
 .subst h
  rw[decide_eq_true rfl];have:(a.data == a.data)=true:=beq_self_eq_true _;exact this
 grind [decide_eq_false,absurd,WL]
abbrev eT(l:List Tp):List (AV×AV):=l.map fun t=>(aT t,aB true)
theorem Xs(l):eT l=encK aT aB (l.map fun t=>(t,true)):=by simp[eT,encK]
theorem qjD(l t):setK t true (l.map fun t=>(t,true))=(ins l t).map fun t=>(t,true):=by
 unfold ins;induction l with
 |nil=>simp[setK]
 |cons x l g =>
  by_cases h:t=x
  .grind [setK]
  .simp only[zf,setK,h,if_false,g,qz,false_or]
   grind
theorem updT{mu b l}(i:mu[b]?=some (.mp (eT l))){t}(j:okT t)(p:∀ x,x∈l->okT x) :
  uf qg mu 137 (.mp b) (aT t) (aB true)=some (mu.set b (.mp (eT (ins l t)))):=by
 have:=keyT.update (et:=4) (t:=137) zSi (mu:=mu) (b:=b) (venc:=aB) (es:=l.map fun t=>(t,true)) (by rw[i,Xs]) (k:=t) (v:=true) j (fun e o=>by
  obtain⟨x,I,rfl⟩:=qp.1 o
  grind)
 rw[this,qjD,<-Xs]
theorem qjE(l:List Tp)(t):getK t (l.map fun t=>(t,true))=if t∈l then some true else none:=by
 induction l with
 |nil=>rfl
 |cons x l g =>
  by_cases h:t=x
  .grind [getK]
  simp_all[zf,getK,if_false,qz,false_or]
theorem lookT{mu l t}(i:okT t)(o:∀ x,x∈l->okT x) :
  yL qg mu 137 (.ims (eT l)) (aT t) false=some (aB (decide (t∈l))):=by
 have:=keyT.lookS (et:=4) (t:=137) zSi (mu:=mu) (venc:=aB) (es:=l.map fun t=>(t,true)) (k:=t) i (fun e j=>by
  obtain⟨x,C,rfl⟩:=qp.1 j
  grind) (z:=aB false) zSi false
 grind [Xs,qjE]
end YM
namespace Y5
open Y2 Y3 P1 YM
theorem Zj{l}{i:Nat}{e}(h:(eT l)[i]?=some e):∃ x,l[i]?=some x/\e=(aT x,aB true):=by
 rw[zz,Option.map_eq_some_iff]at h;obtain⟨x,g,rfl⟩:=h
 grind
theorem nK(a b:Kd)(g caps mu)(I:(Tp->Tp->Prop)->Mu->Prop)(h0:I (fun _ _=>False) mu)
  (hS:∀ S p a2,(∀ i,i<mu.length->a2[i]?=p[i]?)->I S p->I S a2) (ha:∀ x,x∈a.ts->okT x) (hb:∀ x,x∈b.ts->okT x)
  (hf:∀ S x y p,x∈a.ts->y∈b.ts->mu.length<=p.length->I S p->qC qg g ([aT x,aT y]++caps) p fun e m=>e = .ret (.tup [])/\I (fun u v=>S u v\/(u=x/\v=y)) m/\p.length<=m.length/\∀ i,mu.length<=i->i<p.length->m[i]?=p[i]?) :
  qC qg 267 [eKd a,eKd b,.fn (.func g) [] caps] mu fun e m=>e = .ret (.tup [])/\I (fun u v=>u∈a.ts/\v∈b.ts) m/\mu.length<=m.length:=by
 refine qSW call267 func267 rfl {} ?_;simp[go_sem];refine qm.seen a.ts.length (fun seen U=>U.tm 2 = .fn (.func g) [] caps/\U.tm 4 = .ip (cKd b)/\U.tm 10 = .ptr mu.length 0/\mu.length<U.mu.length/\U.mu[mu.length]?=some (.it (eT a.ts) seen)/\I (fun u v=>(∃ i,i∈seen/\a.ts[i]?=some u)/\v∈b.ts) U.mu) ?_ ?_
 .simp [go_sem]
  grind
 .rintro seen U ak al ⟨e2,e4,T,hl,a7,hI⟩
  simp[go_sem,T];refine⟨mu.length,eT a.ts,seen,rfl,a7,fun i e hi a8=>?_,fun a3=>?_⟩
  .obtain ⟨x,hx,rfl⟩:=Zj hi
   have a4:x∈a.ts:=q8 hx;have a9:x.length=3:=ha x a4;have aa:i<a.ts.length:=(ql.1 hx).1;obtain⟨x0,x1,x2,rfl⟩:∃ x0 x1 x2,x=[x0,x1,x2]:=by
    match x,a9 with
    | [x0,x1,x2],_=>simp
   have an:∀(k:Nat)(c:Cell),k<mu.length->(U.mu.set mu.length c)[k]?=U.mu[k]?:=fun k c C=>zGl
   have ao:(U.mu.set mu.length (.it (eT a.ts) (seen++[i])))[mu.length]?=some (.it (eT a.ts) (seen++[i])):=qJ hl;simp[go_sem,e4,T,hi,hl];refine qm.seen b.ts.length (fun sb o=>o.tm 2 = .fn (.func g) [] caps/\o.tm 4 = .ip (cKd b)/\o.tm 10 = .ptr mu.length 0/\o.tm 6 = .ptr U.mu.length 0/\o.tm 17 = .ptr (U.mu.length+1) 0/\U.mu.length+1<o.mu.length /\
    o.mu[mu.length]?=some (.it (eT a.ts) (seen++[i]))/\o.mu[U.mu.length]?=some (.arr (i8s [x0,x1,x2]))/\o.mu[U.mu.length+1]?=some (.it (eT b.ts) sb) /\
    I (fun u v=>((∃ i,i∈seen/\a.ts[i]?=some u)/\v∈b.ts)\/(u=[x0,x1,x2]/\∃ j,j∈sb/\b.ts[j]?=some v)) o.mu) ?_ ?_
   .simp [go_sem,e2,e4,T]
    grind
   .rintro sb o ai aj ⟨f2,f4,f10,f6,f17,a0,g1,g2,g3,a5⟩
    simp[go_sem,f17];refine⟨U.mu.length+1,eT b.ts,sb,rfl,g3,fun j e hj ab=>?_,fun a1=>?_⟩
    .obtain ⟨y,hy,rfl⟩:=Zj hj
     have a6:y∈b.ts:=q8 hy;have ad:y.length=3:=hb y a6;have ae:j<b.ts.length:=(ql.1 hy).1;obtain⟨y0,y1,y2,rfl⟩:∃ y0 y1 y2,y=[y0,y1,y2]:=by
      match y,ad with
      | [y0,y1,y2],_=>simp
     have J:∀(c:Cell)(l:List Cell)(k:Nat),k<o.mu.length->k≠U.mu.length+1->((o.mu.set (U.mu.length+1) c)++l)[k]?=o.mu[k]?:=fun c l k h1 h2=>by
      grind
     have af:=fun c l=>(J c l U.mu.length zOm zOm).trans g2
     simp[go_sem,f2,f6,f17,hj,a0,af];refine fH (hf _ [x0,x1,x2] [y0,y1,y2] _ a4 a6 ?_ (hS _ o.mu _ (fun k C=>J _ _ k zOm zOm) a5)) ?_ ?_
     .simp;omega
     .rintro r m ⟨e,ag,ah,R⟩
      cases e;simp only[List.length_append,List.length_set,yy,List.length_nil]at ah R;simp[go_sem];refine⟨j,ae,ab,?_⟩;simp[Keep,go_sem,f2,f4,f10,f6,f17];refine⟨zOm,?_,?_,?_,?_⟩
      .rw [R _ zOm zOm,J _ _ _ zOm zOm,g1]
      .rw [R _ zOm zOm,J _ _ _ zOm zOm];exact g2
      .rw [R _ zOm zOm,qL (zUs a0),qJ a0]
      .refine cast (congrArg (fun S=>I S m) ?_) ag
       funext u v;refine propext ⟨?_,?_⟩
       .rintro ((h|⟨rfl,k,C,t⟩)|⟨rfl,rfl⟩)
        .exact .inl h
        .exact .inr ⟨rfl,.inl ⟨k,C,t⟩⟩
        .exact .inr ⟨rfl,.inr hy⟩
       .rintro (h|⟨rfl,⟨k,C,t⟩|t⟩)
        .exact .inl (.inl h)
        .exact .inl (.inr ⟨rfl,k,C,t⟩)
        .rw [hy]at t;cases t
         exact .inr ⟨rfl,rfl⟩
     grind
    .simp [go_sem]
     refine⟨i,aa,a8,?_⟩;simp[Keep,go_sem,f2,f4,f10];refine⟨zOm,g1,cast (congrArg (fun S=>I S o.mu) ?_) a5⟩;funext u v;refine propext ⟨?_,?_⟩
     .rintro (⟨⟨k,C,P⟩,t⟩|⟨rfl,k,C,t⟩)
      .exact ⟨.inl ⟨k,C,P⟩,t⟩
      .exact ⟨.inr hx,q8 t⟩
     .rintro ⟨⟨k,C,P⟩|P,t⟩
      .exact .inl ⟨⟨k,C,P⟩,t⟩
      .rw [hx]at P;cases P
       obtain⟨j,hj⟩:=List.mem_iff_getElem?.1 t;exact .inr ⟨rfl,j,a1 j (by simpa using (ql.1 hj).1),hj⟩
  .simp [go_sem]
   refine⟨cast (congrArg (fun S=>I S U.mu) ?_) hI,zOm⟩;funext u v;refine propext ⟨?_,?_⟩
   .rintro ⟨⟨k,C,P⟩,t⟩
    exact⟨q8 P,t⟩
   .rintro ⟨P,t⟩
    obtain⟨k,C⟩:=List.mem_iff_getElem?.1 P;exact⟨⟨k,a3 k (by simpa using (ql.1 C).1),C⟩,t⟩
end Y5
namespace Y6
open Y2 Y3 P1 YM Y5
section
variable {c z:Cell}{a b l:List Tp}{m:Nat}{f:Tp->Tp->Option Tp}{S:Tp->Tp->Prop}
abbrev r8(x:Int):List AV:=[.sc (.int .i8 x)]
theorem Zk(xs:List Int):qV 1 (xs.map r8):=fun r g=>by
 obtain⟨n,_,rfl⟩:=qp.1 g;exact⟨rfl,rfl⟩
theorem qjF(full)(xs:List Int)(p:xs.length<=1000)(mu):qC qg 288 [.lst full (xs.map r8)] mu fun e m=>∃ av,e = .ret av/\OwnF mu.length m 1 av (xs.map r8)/\∀ i,i<mu.length->m[i]?=mu[i]?:=by
 refine qSW call288 func288 rfl {} ?_;cases xs with
 |nil =>
  simp[go_sem];refine⟨OwnF.nil (qn _),?_⟩;refine qx.ownF (lo:=mu.length) (e:=144) (sz:=1) (bt:=1) (zv := .sc (.int .i8 0)) (xs:=[]) (ys:=[]) zSi zSi zSi rfl rfl zOm zOm (OwnF.nil (qn _)) (by simp[qA]) (Zk []) (Zk []) zSp ?_;simp_all[go_sem]
 |cons x xs =>
  simp[go_sem];refine qx.ownF (lo:=mu.length) (e:=144) (sz:=1) (bt:=1) (zv := .sc (.int .i8 0)) (xs:=[]) (ys:=(x :: xs).map r8) zSi zSi zSi rfl rfl zOm zOm (OwnF.nil (qn _)) (by simp[qA]) (Zk []) (Zk _) (by grind) ?_;simp_all[go_sem]
theorem put3(zs):putCells [.sc (.int .i8 0),.sc (.int .i8 0),.sc (.int .i8 0)] 0 ((zs.map r8).take 3).flatten=i8s (pad zs):=by
 match zs with
 | []=>rfl
 | [a]=>rfl
 | [a,b]=>rfl
 |a :: b :: c :: l=>simp[putCells,pad]
theorem nL(x y)(n m s:Nat)(hx:okT x)(hy:okT y)(hn:s<=n)(a0:n-s<=3)(hm:s<=m)(a3:m<=3)(hs:s<=1):qj qg 269 [aT x,aI n,aT y,aI m,aI s] (aT (conc x n y m s)):=by
 unfold okT at hx hy;refine qSV call269 func269 rfl ?_;obtain⟨l,o,C,rfl⟩:∃ l o C,x=[l,o,C]:=by
  match x,hx with
  | [l,o,C],_=>simp
 obtain⟨I,J,P,rfl⟩:∃ I J P,y=[I,J,P]:=by
  match y,hy with
  | [I,J,P],_=>simp
 obtain⟨d,rfl⟩:∃ d,n=d+s:=⟨n-s,zOm⟩;have hd:d+s-s=d:=zOm;rw[hd]at a0;simp[go_sem];refine fG [0,1,2,3,4,6,7,8,5,9,10] [(5,1,[]),(9,1,[]),(10,1,[])] zKr zKr zSi ?_;have w1:qo.wrap (d:Int)=(d:Int):=zWr;have a1:(List.take d [[AV.sc (.int .i8 l)],[.sc (.int .i8 o)],[.sc (.int .i8 C)]])=([l,o,C].take d).map r8:=by rw[List.map_take];rfl
 have a2:(List.drop s (List.take m [[AV.sc (.int .i8 I)],[.sc (.int .i8 J)],[.sc (.int .i8 P)]]))=(([I,J,P].take m).drop s).map r8:=by rw[List.map_drop,List.map_take];rfl
 have h3:((d:Int)<=3):=zOm;have h4:((m:Int)<=3):=zOm;have h5:((s:Int)<=m):=zOm;have h6:((s:Int)<3):=zOm;simp[go_sem,w1,h3,h4,h5,h6];rw[a1];refine aA (qjF _ ([l,o,C].take d) zSo _) ?_ ?_
 .rintro r mm ⟨t,e,ho,hk⟩
  cases e;simp[go_sem];rw[a2];refine qx.ownF (lo:=2) (e:=144) (sz:=1) (bt:=1) (zv := .sc (.int .i8 0)) (xs:=([l,o,C].take d).map r8) (ys:=(([I,J,P].take m).drop s).map r8) zSi zSi zSi rfl rfl zOm zOm ho (by simp[qA]) (Zk _) (Zk _) zSo ?_;intro t U R a4;simp[go_sem];have g0:U[0]?=some (.arr [.sc (.int .i8 0),.sc (.int .i8 0),.sc (.int .i8 0)]):=by grind
  have g1:U[1]?=some (.arr [.sc (.int .i8 0),.sc (.int .i8 0),.sc (.int .i8 0)]):=by grind
  rw[<-zi]at R;have T:=R.1.rows (Zk _).ok;refine Xl (sz:=1) zSi g1 zSp T (Zk _) ?_;obtain⟨g,rfl⟩:∃ g,U = .arr [.sc (.int .i8 0),.sc (.int .i8 0),.sc (.int .i8 0)] :: .arr [.sc (.int .i8 0),.sc (.int .i8 0),.sc (.int .i8 0)] :: g:=by
   match U,g0,g1 with
   |a :: b :: g,g0,g1=>grind
  rw[put3];simp[go_sem,pad,conc,hd];exact .hf _ (HF.agg fun c hc=>by simp at hc;rcases hc with rfl|rfl|rfl<;>exact HF.sc _)
 grind
theorem J0(n mu):qC qg 223 [aI n] mu fun e m=>e = .ret (.agg [aI n,.mp (mu.length+1)])/\∃ c,m=mu++[c,.mp []]:=by
 refine qSW call223 func223 rfl {} ?_;simp[go_sem]
theorem hfA3(a b c):HF (.agg [.sc a,.sc b,.sc c]):=HF.agg fun x g=>by simp at g;rcases g with rfl|rfl|rfl<;>exact HF.sc _
theorem wr0:qo.wrap 0=0:=rfl
theorem wr1:qo.wrap 1=1:=rfl
theorem wr2:qo.wrap 2=2:=rfl
structure okK (k:Kd):Prop where
 ar:1<=k.ar/\k.ar<=3
 len:∀ t,t∈k.ts->okT t
 nd:k.ts.Nodup
theorem Uv(x n y m s):okT (conc x n y m s):=rfl
theorem qjG(a b)(ha:okK a)(hb:okK b)(x y)(R:okT x)(T:okT y)(mu o m ar l)(ho:mu[o]?=some (.arr [aI ar,.mp m]))(hm:mu[m]?=some (.mp (eT l)))(hl:∀ t,t∈l->okT t) :
  qC qg 268 [aT x,aT y,.ip (cKd a),.ptr o 0,.ip (cKd b)] mu fun e m'=>e = .ret (.tup [])/\m'=if x.getD (a.ar.toNat-1) 0=y.getD 0 0 then mu.set m (.mp (eT (ins l (conc x a.ar.toNat y b.ar.toNat 1)))) else mu:=by
 refine qSW call268 func268 rfl {} ?_;obtain⟨a1,a2⟩:=ha.ar;obtain⟨a3,a4⟩:=hb.ar;obtain⟨n,hn⟩:∃ n:Nat,a.ar=n+1:=⟨(a.ar-1).toNat,zOm⟩;obtain⟨k,hk⟩:∃ k:Nat,b.ar=k:=⟨b.ar.toNat,zOm⟩;have a5:n<3:=zOm;have U:=nL x y (n+1) k 1 R T zOm zOm zOm zOm zOm;unfold okT at R T;obtain⟨j,p,C,rfl⟩:∃ j p C,x=[j,p,C]:=by
  match x,R with
  | [j,p,C],_=>exact⟨_,_,_,rfl⟩
 obtain⟨I,J,P,rfl⟩:∃ I J P,y=[I,J,P]:=by
  match y,T with
  | [I,J,P],_=>exact⟨_,_,_,rfl⟩
 have a0:=updT hm (Uv [j,p,C] (n+1) [I,J,P] k 1) hl;have g:n=0\/n=1\/n=2:=zOm;rcases g with rfl|rfl|rfl
 all_goals
  simp[go_sem];refine tJ zKr ?_;simp[go_sem,hn,hk,wr0,wr1,wr2];refine tZ (fun i=>?_) (fun i=>?_)
  .simp at i
   subst i;simp[go_sem];refine tJ zKr ?_;simp[go_sem,ho,hk,hn];refine fW U (.zk (hfA3 _ _ _) (.zs (.zk (hfA3 _ _ _) (.zs (.zs .nil))))) ?_;refine t7 _ a0 ?_;simp[go_sem]
  .simp at i
   simp[go_sem,i]
theorem qjH(a b)(U:okK a)(hb:okK b)(a0:a.ar+b.ar<=3)(x y)(J:okT x)(P:okT y)(mu o m ar l)(ho:mu[o]?=some (.arr [aI ar,.mp m]))(hm:mu[m]?=some (.mp (eT l)))(hl:∀ t,t∈l->okT t) :
  qC qg 270 [aT x,aT y,.ptr o 0,.ip (cKd a),.ip (cKd b)] mu fun e m'=>e = .ret (.tup [])/\m'=mu.set m (.mp (eT (ins l (conc x a.ar.toNat y b.ar.toNat 0)))):=by
 refine qSW call270 func270 rfl {} ?_;obtain⟨a1,a2⟩:=U.ar;obtain⟨a3,a4⟩:=hb.ar;obtain⟨n,hn⟩:∃ n:Nat,a.ar=n:=⟨a.ar.toNat,zOm⟩;obtain⟨k,hk⟩:∃ k:Nat,b.ar=k:=⟨b.ar.toNat,zOm⟩;have R:=nL x y n k 0 J P zOm zOm zOm zOm zOm;unfold okT at J P;obtain⟨g,i,j,rfl⟩:∃ g i j,x=[g,i,j]:=by
  match x,J with
  | [g,i,j],_=>exact⟨_,_,_,rfl⟩
 obtain⟨p,C,I,rfl⟩:∃ p C I,y=[p,C,I]:=by
  match y,P with
  | [p,C,I],_=>exact⟨_,_,_,rfl⟩
 have T:=updT hm (Uv [g,i,j] n [p,C,I] k 0) hl;simp[go_sem];refine tJ zKr ?_;simp[go_sem,ho,hk,hn];refine fW R (.zk (hfA3 _ _ _) (.zs (.zk (hfA3 _ _ _) (.zs (.zs .nil))))) ?_;refine t7 _ T ?_;simp[go_sem]
theorem nM(h:l.Nodup):((eT l).map Prod.fst).Nodup:=by
 have e:(eT l).map Prod.fst=l.map aT:=by simp[eT]
 rw[e];refine(List.pairwise_map (f:=aT)).2 (h.imp fun g e=>g ?_);have inj:∀(a b:List Int),i8s a=i8s b->a=b:=by
  intro a;induction a with
  |nil=>intro b h;cases b with
   |nil=>rfl
   |cons=>simp at h
  |cons x a i=>intro b h;cases b with
   |nil=>simp at h
   |cons y b =>
    simp only[i8s,zf,List.cons.injEq,AV.sc.injEq,Value.int.injEq,true_and]at h;rw[h.1,i b h.2]
 exact inj _ _ (AV.agg.inj e)
theorem Rd.setT{mu}{k:List Tp}(i:mu[m]?=some (.mp (eT l)))(j:l.Nodup)(o:k.Nodup)(h:∀ t,t∈l↔t∈k):Rd mu (.mp m) (mKd k):=
 fQ i (nM j) (nM o) (fun x=>by
  simp only[eT,qp];constructor
  .rintro ⟨t,g,rfl⟩;exact⟨t,(h t).1 g,rfl⟩
  .rintro ⟨t,g,rfl⟩;exact⟨t,(h t).2 g,rfl⟩) (fun x p=>by
  obtain⟨t,_,rfl⟩:=qp.1 p;exact⟨Xp t,HF.sc _⟩)
def ColM(g:Int)(z c:Cell)(f:Tp->Tp->Option Tp)(S:Tp->Tp->Prop)(m:Mu):Prop:=
 ∃ l,m[0]?=some z/\m[1]?=some c/\m[2]?=some (.mp (eT l))/\m[3]?=some (.arr [aI g,.mp 2])/\l.Nodup/\(∀ t,t∈l->okT t)/\∀ t,t∈l↔∃ x y,S x y/\f x y=some t
theorem ColM.zero(g z c f):ColM g z c f (fun _ _=>False) [z,c,.mp [],.arr [aI g,.mp 2]]:=
 ⟨[],rfl,rfl,rfl,rfl,zSp,zSp,zSp⟩
theorem ColM.same{g j o}(h:∀ i,i<4->o[i]?=j[i]?)(k:ColM g z c f S j):ColM g z c f S o:=by
 obtain⟨l,p,g1,t,C,I,J,P⟩:=k;exact⟨l,by rw[h 0 zOm];exact p,by rw[h 1 zOm];exact g1,by rw[h 2 zOm];exact t,by rw[h 3 zOm];exact C,I,J,P⟩
theorem ColM.step{i}{m:Mu}{x y t}(j:m[0]?=some z)(g1:m[1]?=some c)(o:m[2]?=some (.mp (eT l)))(C:m[3]?=some (.arr [aI i,.mp 2]))(I:l.Nodup)(J:∀ t,t∈l->okT t)(P:∀ t,t∈l↔∃ x y,S x y/\f x y=some t)
  (hf:f x y=some t) (R:okT t):ColM i z c f (fun u v=>S u v\/(u=x/\v=y)) (m.set 2 (.mp (eT (ins l t)))):=by
 have T:2<m.length:=(ql.1 o).1;refine⟨ins l t,?_,?_,qJ T,?_,Yw I,fun u U=>?_,fun u=>?_⟩
 .rw [zGl];exact j
 .rw [zGl];exact g1
 .rw [zGl];exact C
 .rcases uS.1 U with h|rfl
  .exact J u h
  .exact R
 .rw [uS,P]
  constructor
  .rintro (⟨p,q,g,e⟩|rfl)
   .exact ⟨p,q,.inl g,e⟩
   .exact ⟨x,y,.inr ⟨rfl,rfl⟩,hf⟩
  .rintro ⟨p,q,g|⟨rfl,rfl⟩,e⟩
   .exact .inl ⟨p,q,g,e⟩
   .rw [hf]at e;exact .inr (Option.some.inj e).symm
theorem ColM.skip{i m x y}(k:ColM i z c f S m)(hf:f x y=none):ColM i z c f (fun u v=>S u v\/(u=x/\v=y)) m:=by
 obtain⟨l,j,g1,o,t,C,I,J⟩:=k;refine⟨l,j,g1,o,t,C,I,fun u=>?_⟩;rw[J];constructor
 .rintro ⟨p,q,g,e⟩;exact⟨p,q,.inl g,e⟩
 .rintro ⟨p,q,g|⟨rfl,rfl⟩,e⟩
  .exact ⟨p,q,g,e⟩
  .rw [hf]at e;exact absurd e zSp
theorem four{m:Mu}{a b d}(i:m[0]?=some a)(g1:m[1]?=some b)(j:m[2]?=some c)(l:m[3]?=some d):∃ g,m=a :: b :: c :: d :: g:=by
 match m,i,g1,j,l with
 |a :: b :: c :: d :: g,i,g1,j,l =>
  simp at i g1 j l;subst i;subst g1;subst j;subst l;exact⟨g,rfl⟩
def ZU(n m:Nat)(x y:Tp):Option Tp:=if x.getD (n-1) 0=y.getD 0 0 then some (conc x n y m 1) else none
theorem Zm{n t}:t∈uT n m a b↔∃ x y,(x∈a/\y∈b)/\ZU n m x y=some t:=by
 unfold uT ZU;rw[um];simp only[qO,false_or,List.mem_filterMap];constructor
 .rintro ⟨⟨x,y⟩,g,i⟩;exact⟨x,y,Yx.1 g,i⟩
 .rintro ⟨x,y,g,i⟩;exact⟨(x,y),Yx.2 g,i⟩
theorem Xt{n}:(uT n m a b).Nodup:=wJ zSp
theorem uU(a b)(g:okK a)(j:okK b):qj qg 226 [eKd a,eKd b] (eKd (zM a b)):=by
 refine qSV call226 func226 rfl ?_;have w1:qo.wrap (a.ar+b.ar)=a.ar+b.ar:=yh (zW2 g.ar j.ar) (zW2 g.ar j.ar);have w2:qo.wrap (a.ar+b.ar-2)=a.ar+b.ar-2:=yh (zW2 g.ar j.ar) (zW2 g.ar j.ar);simp[go_sem,w1,w2];refine aA (J0 _ _) ?_ (by rintro r m ⟨e,_⟩;cases e);rintro r m ⟨e,c,rfl⟩;cases e;simp[go_sem];refine aA (nK a b 268 [.ip (cKd a),.ptr 3 0,.ip (cKd b)] _ (ColM (a.ar+b.ar-2) (.arr [aI 0,.sc (.map none)]) c (ZU a.ar.toNat b.ar.toNat)) (ColM.zero _ _ _ _) (fun S m1 m2 h k=>k.same h) g.len j.len ?_) ?_ (by rintro r m ⟨e,_⟩;cases e)
 .rintro S x y m1 hx hy T ⟨l,C,g1,o,p,I,J,P⟩
  refine qC.monoR (qjG a b g j x y (g.len x hx) (j.len y hy) m1 3 2 _ l p o J) ?_;rintro e m' ⟨rfl,rfl⟩;by_cases R:x.getD (a.ar.toNat-1) 0=y.getD 0 0
  .rw [if_pos R]
   refine⟨rfl,ColM.step C g1 o p I J P (by unfold ZU;rw[if_pos R]) (Uv _ _ _ _ _),zSp,fun i U a1=>?_⟩;simp at U;rw[zGl]
  .rw [if_neg R]
   exact⟨rfl,ColM.skip ⟨l,C,g1,o,p,I,J,P⟩ (by unfold ZU;rw[if_neg R]),qn _,fun _ _ _=>rfl⟩
 .rintro r m ⟨e,⟨l,C,g1,o,p,I,J,P⟩,T⟩
  cases e;obtain⟨a0,rfl⟩:=four C g1 o p;simp[go_sem];exact Rd.aggs ⟨.hf _ (HF.sc _),Rd.setT rfl I Xt (fun t=>(P t).trans Zm.symm),trivial⟩
def Ql(n m:Nat)(x y:Tp):Option Tp:=some (conc x n y m 0)
theorem Uw{n t}:t∈ZR n m a b↔∃ x y,(x∈a/\y∈b)/\Ql n m x y=some t:=by
 unfold ZR Ql;rw[um];simp only[qO,false_or,qp];constructor
 .rintro ⟨⟨x,y⟩,g,i⟩;exact⟨x,y,Yx.1 g,by rw[<-i]⟩
 .rintro ⟨x,y,g,i⟩;exact⟨(x,y),Yx.2 g,Option.some.inj i⟩
theorem nN{n}:(ZR n m a b).Nodup:=wJ zSp
theorem Ux(a b)(g:okK a)(j:okK b)(C:a.ar+b.ar<=3):qj qg 227 [eKd a,eKd b] (eKd (Zi a b)):=by
 refine qSV call227 func227 rfl ?_;have w1:qo.wrap (a.ar+b.ar)=a.ar+b.ar:=yh (zW2 g.ar j.ar) (zW2 g.ar j.ar);simp[go_sem,w1];refine aA (J0 _ _) ?_ (by rintro r m ⟨e,_⟩;cases e);rintro r m ⟨e,c,rfl⟩;cases e;simp[go_sem];refine aA (nK a b 270 [.ptr 3 0,.ip (cKd a),.ip (cKd b)] _ (ColM (a.ar+b.ar) (.arr [aI 0,.sc (.map none)]) c (Ql a.ar.toNat b.ar.toNat)) (ColM.zero _ _ _ _) (fun S m1 m2 h k=>k.same h) g.len j.len ?_) ?_ (by rintro r m ⟨e,_⟩;cases e)
 .rintro S x y m1 hx hy I ⟨l,J,g1,o,p,P,R,T⟩
  refine qC.monoR (qjH a b g j C x y (g.len x hx) (j.len y hy) m1 3 2 _ l p o R) ?_;rintro e m' ⟨rfl,rfl⟩;refine⟨rfl,ColM.step J g1 o p P R T rfl (Uv _ _ _ _ _),zSp,fun i U a1=>?_⟩;simp at U;rw[zGl]
 .rintro r m ⟨e,⟨l,J,g1,o,p,P,R,T⟩,I⟩
  cases e;obtain⟨a0,rfl⟩:=four J g1 o p;simp[go_sem];exact Rd.aggs ⟨.hf _ (HF.sc _),Rd.setT rfl P nN (fun t=>(T t).trans Uw.symm),trivial⟩
end
end Y6
namespace Y7
open Y2 P1 YM Y5 Y6
theorem qx.lit{P mu}{t g e sz bt:Nat}{x xs ys zv K}(C:qF P t=some (e,sz,bt))(i:(qF P g).isSome=true)(I:qB P e=some zv)
  (j:zv.cells.length=sz) (l:zv.cells.all AV.one=true) (o:sz≠0) (J:bt<=16384) (R:qA mu x=some ys) (T:qV sz xs) (U:qV sz ys) (hl:xs.length+ys.length<=4294967296) (p:ys≠[])
  (k:K (.sl mu.length sz 0 (xs.length+ys.length)) (mu++[.arr (xs++ys).flatten])):qx P mu #[t,g] (.lst true xs) x K:=
 .inl ⟨t,g,e,sz,bt,ys,rfl,C,i,⟨zv,I,j,l⟩,o,J,R,U,.inl ⟨xs,rfl,T,hl,fun h=>absurd h p,fun _=>k⟩⟩
theorem Zn(l:List Kd):qV 2 (l.map cKd):=fun r g=>by
 obtain⟨n,_,rfl⟩:=qp.1 g;exact⟨rfl,rfl⟩
theorem J1(full)(l:List Kd):HF (.lst full (l.map cKd)):=HF.lst fun r i c g=>by
 obtain⟨k,_,rfl⟩:=qp.1 i;simp at g;rcases g with rfl|rfl
 .exact HF.sc _
 .exact JW _
def ColS(g:Int)(z c sl:Cell)(S:Tp->Prop)(m:Mu):Prop:=
 ∃ l,m[0]?=some z/\m[1]?=some c/\m[2]?=some (.mp (eT l))/\m[3]?=some (.arr [aI g,.mp 2])/\m[4]?=some sl/\l.Nodup/\(∀ t,t∈l->okT t)/\∀ t,t∈l↔S t
theorem sumU(full)(a b:Kd)(ha:∀ t,t∈a.ts->okT t)(hb:∀ t,t∈b.ts->okT t):qj qg 265 [eKd a,.lst full [cKd b]] (eKd (kSum a b)):=by
 refine qSU call265 func265 rfl ?_;refine aA (J0 _ _) ?_ (by grind);rintro r m ⟨e,c,rfl⟩;cases e;simp[go_sem];refine qx.lit (e:=139) (sz:=2) (bt:=16) (zv := .agg [aI 0,.sc (.map none)]) (xs:=[cKd a]) (ys:=[cKd b]) zSi zSi zSi rfl rfl zOm zOm (by simp[qA]) (Zn [a]) (Zn [b]) zSp zSp ?_;simp[go_sem];refine qm.up 2 (fun k U=>U.tm 4 = .ptr 0 0/\U.tm 5 = .ptr 3 0/\U.tm 15 = .sl 4 2 0 2/\U.tm 16=aI 2/\U.tm 17=aI k/\ColS a.ar (.arr [aI 0,.sc (.map none)]) c (.arr [aI a.ar,mKd a.ts,aI b.ar,mKd b.ts]) (fun t=>(0<k/\t∈a.ts)\/(1<k/\t∈b.ts)) U.mu) ?_ ?_
 .simp [go_sem]
  exact⟨[],rfl,rfl,rfl,rfl,rfl,zSp,zSp,zSp⟩
 .rintro k U hk ⟨e4,e5,a8,R,T,l,g0,g1,g2,g3,g4,h1,h2,h3⟩
  have ad:k=2\/k=0\/k=1:=zOm;obtain⟨o,hm⟩:∃ o,U.mu=[.arr [aI 0,.sc (.map none)],c,.mp (eT l),.arr [aI a.ar,.mp 2],.arr [aI a.ar,mKd a.ts,aI b.ar,mKd b.ts]]++o:=by
   generalize U.mu=m at *
   match m,g0,g1,g2,g3,g4 with
   |a0 :: a1 :: a2 :: a3 :: a4 :: o,g0,g1,g2,g3,g4 =>
    simp_all
  rcases ad with rfl|rfl|rfl
  .simp [go_sem,e4,e5,R,T,hm]
   refine Rd.aggs ⟨.hf _ (HF.sc _),Rd.setT rfl h1 (wJ (wJ zSp)) (fun t=>?_),trivial⟩;rw[h3];show _↔t∈uni (uni [] a.ts) b.ts;simp[um]
  .simp [go_sem,a8,R,T,hm]
   refine qm.seen a.ts.length (fun seen g=>g.tm 4 = .ptr 0 0/\g.tm 5 = .ptr 3 0/\g.tm 15 = .sl 4 2 0 2/\g.tm 16=aI 2/\g.tm 17=aI 0/\g.tm 23 = .ptr (o.length+6) 0/\g.mu[o.length+6]?=some (.it (eT a.ts) seen) /\
    ColS a.ar (.arr [aI 0,.sc (.map none)]) c (.arr [aI a.ar,mKd a.ts,aI b.ar,mKd b.ts]) (fun t=>t∈l\/∃ i,i∈seen/\a.ts[i]?=some t) g.mu) ?_ ?_
   .simp [go_sem,e4,e5,a8,R,T]
    exact⟨l,rfl,rfl,rfl,rfl,rfl,h1,h2,zSp⟩
   .rintro seen g ae af ⟨f4,f5,f15,f16,f17,f23,a5,l',k0,k1,k2,k3,k4,p1,p2,p3⟩
    simp[go_sem,f23];refine⟨o.length+6,eT a.ts,seen,rfl,a5,fun i e hi a9=>?_,fun a6=>?_⟩
    .obtain ⟨x,hx,rfl⟩:=Zj hi
     have P:okT x:=ha x (q8 hx);have aa:i<a.ts.length:=(ql.1 hx).1;have J:o.length+6<g.mu.length:=(ql.1 a5).1;have ab:x.length=3:=P;have C:∀(c:Cell)(l:List Cell)(j:Nat),j<5->((g.mu.set (o.length+6) c)++l)[j]?=g.mu[j]?:=fun c l j I=>by
      grind
     have q2:=fun c l=>(C c l 2 zOm).trans k2
     have q3:=fun c l=>(C c l 3 zOm).trans k3
     obtain⟨x0,x1,x2,rfl⟩:∃ x0 x1 x2,x=[x0,x1,x2]:=by
      match x,ab with
      | [x0,x1,x2],_=>simp
     simp[go_sem,f5,f23,hi,J,q3];refine t7 _ (updT (q2 _ _) P p2) ?_;simp[go_sem];refine⟨i,aa,a9,?_⟩;show _/\_;refine⟨zS1 f4,zS1 f5,zS1 f15,zS1 f16,zS1 f17,zS1 f23,?_,ins l' [x0,x1,x2],?_,?_,?_,?_,?_,Yw p1,fun t ht=>?_,fun t=>?_⟩
     .simp only[qK]
      rw[zGl,qL (zUs J),qJ J]
     .simp only[qK]
      rw[zGl,C _ _ 0 zOm,k0]
     .simp only[qK]
      rw[zGl,C _ _ 1 zOm,k1]
     .simp only[qK]
      rw[qJ zSo]
     .simp only[qK]
      rw[zGl,C _ _ 3 zOm,k3]
     .simp only[qK]
      rw[zGl,C _ _ 4 zOm,k4]
     .rcases uS.1 ht with h|rfl
      .exact p2 t h
      .exact P
     .rw [uS,p3]
      constructor
      .rintro ((h|⟨j,I,e⟩)|rfl)
       .exact .inl h
       .exact .inr ⟨j,zP1 I,e⟩
       .exact .inr ⟨i,zSp,hx⟩
      .rintro (h|⟨j,I,e⟩)
       .exact .inl (.inl h)
       .rcases qP.1 I with I|I
        .exact .inl (.inr ⟨j,I,e⟩)
        .rw [qX]at I;subst I
         rw[hx]at e;cases e;exact .inr rfl
    .have a7:∀ t,t∈l'↔(t∈l\/t∈a.ts):=fun t=>by
      rw[p3];constructor
      .rintro (h|⟨j,I,e⟩)
       .exact .inl h
       .exact .inr (q8 e)
      .rintro (h|h)
       .exact .inl h
       .obtain ⟨j,I⟩:=List.mem_iff_getElem?.1 h
        exact .inr ⟨j,a6 j (by simpa using (ql.1 I).1),I⟩
     simp[go_sem,f4,f5,f15,f16,f17,wr1];refine⟨l',k0,k1,k2,k3,k4,p1,p2,fun t=>?_⟩;rw[a7 t,h3];simp
  .simp [go_sem,a8,R,T,hm]
   refine qm.seen b.ts.length (fun seen g=>g.tm 4 = .ptr 0 0/\g.tm 5 = .ptr 3 0/\g.tm 15 = .sl 4 2 0 2/\g.tm 16=aI 2/\g.tm 17=aI 1/\g.tm 23 = .ptr (o.length+6) 0/\g.mu[o.length+6]?=some (.it (eT b.ts) seen) /\
    ColS a.ar (.arr [aI 0,.sc (.map none)]) c (.arr [aI a.ar,mKd a.ts,aI b.ar,mKd b.ts]) (fun t=>t∈l\/∃ i,i∈seen/\b.ts[i]?=some t) g.mu) ?_ ?_
   .simp [go_sem,e4,e5,a8,R,T]
    exact⟨l,rfl,rfl,rfl,rfl,rfl,h1,h2,zSp⟩
   .rintro seen g ae af ⟨f4,f5,f15,f16,f17,f23,a5,l',k0,k1,k2,k3,k4,p1,p2,p3⟩
    simp[go_sem,f23];refine⟨o.length+6,eT b.ts,seen,rfl,a5,fun i e hi a9=>?_,fun a6=>?_⟩
    .obtain ⟨x,hx,rfl⟩:=Zj hi
     have P:okT x:=hb x (q8 hx);have aa:i<b.ts.length:=(ql.1 hx).1;have J:o.length+6<g.mu.length:=(ql.1 a5).1;have ab:x.length=3:=P;have C:∀(c:Cell)(l:List Cell)(j:Nat),j<5->((g.mu.set (o.length+6) c)++l)[j]?=g.mu[j]?:=fun c l j I=>by
      rw[qL zSo,zGl]
     have q2:=fun c l=>(C c l 2 zOm).trans k2
     have q3:=fun c l=>(C c l 3 zOm).trans k3
     obtain⟨x0,x1,x2,rfl⟩:∃ x0 x1 x2,x=[x0,x1,x2]:=by
      match x,ab with
      | [x0,x1,x2],_=>exact⟨_,_,_,rfl⟩
     simp[go_sem,f5,f23,hi,J,q3];refine t7 _ (updT (q2 _ _) P p2) ?_;simp[go_sem];refine⟨i,aa,a9,?_⟩;show _/\_;refine⟨zS1 f4,zS1 f5,zS1 f15,zS1 f16,zS1 f17,zS1 f23,?_,ins l' [x0,x1,x2],?_,?_,?_,?_,?_,Yw p1,fun t ht=>?_,fun t=>?_⟩
     .simp only[qK]
      rw[zGl,qL (zUs J),qJ J]
     .simp only[qK]
      rw[zGl,C _ _ 0 zOm,k0]
     .simp only[qK]
      rw[zGl,C _ _ 1 zOm,k1]
     .simp only[qK]
      rw[qJ zSo]
     .simp only[qK]
      rw[zGl,C _ _ 3 zOm,k3]
     .simp only[qK]
      rw[zGl,C _ _ 4 zOm,k4]
     .rcases uS.1 ht with h|rfl
      .exact p2 t h
      .exact P
     .rw [uS,p3]
      constructor
      .rintro ((h|⟨j,I,e⟩)|rfl)
       .exact .inl h
       .exact .inr ⟨j,zP1 I,e⟩
       .exact .inr ⟨i,zSp,hx⟩
      .rintro (h|⟨j,I,e⟩)
       .exact .inl (.inl h)
       .rcases qP.1 I with I|I
        .exact .inl (.inr ⟨j,I,e⟩)
        .rw [qX]at I;subst I
         rw[hx]at e;cases e;exact .inr rfl
    .have a7:∀ t,t∈l'↔(t∈l\/t∈b.ts):=fun t=>by
      rw[p3];constructor
      .rintro (h|⟨j,I,e⟩)
       .exact .inl h
       .exact .inr (q8 e)
      .rintro (h|h)
       .exact .inl h
       .obtain ⟨j,I⟩:=List.mem_iff_getElem?.1 h
        exact .inr ⟨j,a6 j (by simpa using (ql.1 I).1),I⟩
     simp[go_sem,f4,f5,f15,f16,f17,wr2];refine⟨l',k0,k1,k2,k3,k4,p1,p2,fun t=>?_⟩;rw[a7 t,h3];simp
end Y7
namespace Y8
open Y2 Y3 P1 YM Y5 Y6 Y7
theorem Xu{l:List Tp}{i x}(o:l[i]?=some x){seen:List Nat}{t}:(∃ j,j∈seen++[i]/\l[j]?=some t)↔(∃ j,j∈seen/\l[j]?=some t)\/t=x:=by
 constructor
 .rintro ⟨j,g,e⟩
  rcases qP.1 g with g|g
  .exact .inl ⟨j,g,e⟩
  .rw [qX]at g;subst g
   rw[o]at e;cases e;exact .inr rfl
 .rintro (⟨j,g,e⟩|rfl)
  .exact ⟨j,zP1 g,e⟩
  .exact ⟨i,zSp,o⟩
theorem Xv{l:List Tp}{seen:List Nat}(g:∀ i,i<l.length->i∈seen){t}:(∃ j,j∈seen/\l[j]?=some t)↔t∈l:=by
 constructor
 .rintro ⟨j,o,e⟩;exact q8 e
 .intro h
  obtain⟨j,o⟩:=List.mem_iff_getElem?.1 h;exact⟨j,g j (ql.1 o).1,o⟩
structure ok2 (k:Kd):Prop where
 ar:k.ar=2
 nd:k.ts.Nodup
 ts:∀ t,t∈k.ts->∃ x y:Int,t=[x,y,0]/\0<=x/\x<4/\0<=y/\y<4
theorem ok2.okK{k}(h:ok2 k):okK k:=⟨by rw[h.ar];omega,fun t g=>by obtain⟨x,y,rfl,_⟩:=h.ts t g;rfl,h.nd⟩
theorem ok2.join{k}(h:ok2 k):ok2 (zM k k):=by
 refine⟨by simp[zM,h.ar],Xt,fun t g=>?_⟩;have g:t∈uT k.ar.toNat k.ar.toNat k.ts k.ts:=g;rw[h.ar]at g;obtain⟨x,y,⟨i,j⟩,hf⟩:=Zm.1 g;obtain⟨l,P,rfl,o,p,R,T⟩:=h.ts x i;obtain⟨U,C,rfl,b1,b2,I,J⟩:=h.ts y j;unfold ZU at hf;split at hf
 .simp [conc,pad]at hf
  exact⟨l,C,hf.symm,o,p,I,J⟩
 .exact absurd hf zSp
theorem ok2.sum{a b}(h:ok2 a)(k:ok2 b):ok2 (kSum a b):=by
 refine⟨h.ar,wJ (wJ zSp),fun t g=>?_⟩;have g:t∈uni (uni [] a.ts) b.ts:=g;simp only[um,qO,false_or]at g;exact g.elim (h.ts t) (k.ts t)
theorem ok2.len{k}(h:ok2 k):k.ts.length<=16:=by
 have g:∀ t,t∈k.ts->t∈(qu 4).flatMap fun (x:Nat)=>(qu 4).map fun (y:Nat)=>[(x:Int),(y:Int),0]:=by
  intro t i;obtain⟨x,y,rfl,j,l,o,p⟩:=h.ts t i;rw[vY];refine⟨x.toNat,zW.2 zOm,qp.2 ⟨y.toNat,zW.2 zOm,?_⟩⟩;rw[show ((x.toNat:Nat):Int)=x by omega,show ((y.toNat:Nat):Int)=y by omega]
 have:=jl h.nd g;exact Nat.le_trans this zDe
theorem qjI{f n a}(h:¬n<a.ts.length):cloN f n a=a:=by
 cases f with
 |zero=>rfl
 |succ f=>simp[cloN,h]
theorem Uy(a)(I:ok2 a):qj qg 271 [eKd a] (eKd (kClo a)):=by
 refine qSQ call271 func271 rfl { mt:=[1] } ?_;simp[go_sem];refine dS (fun m U=>∃(n f:Nat) (cur:Kd),m=17-n/\cloN f n cur=kClo a/\70<=f+n/\ok2 cur/\U.tm 3=aI n/\U.tm 1 = .ptr 0 0/\U.tm 2 = .ptr 1 0/\U.mu=[.arr (cKd cur),.arr [aI 0,.sc (.map none)]]) 17 ?_ ?_
 .exact ⟨0,70,a,rfl,rfl,zOm,I,zSi,zSi,zSi,zSi⟩
 .rintro m U ⟨n,f,cur,rfl,l,hf,g,o,i,p,t⟩
  have C:=g.len;by_cases j:n<cur.ts.length
  .simp [go_sem,i,o,t,j]
   refine tJ zKr ?_;simp[go_sem,i];refine fW (uU cur cur g.okK g.okK) (.zk (yg _) (.zk (yg _) .nil)) ?_;refine t8 (sumU _ cur (zM cur cur) g.okK.len g.join.okK.len) (.zk (yg _) (.zk (J1 _ [zM cur cur]) .nil)) ?_;simp[go_sem,i];obtain⟨f,rfl⟩:∃ J,f=J+1:=⟨f-1,zOm⟩;refine Keep.loop (17-cur.ts.length) zOm ⟨cur.ts.length,f,kSum cur (zM cur cur),rfl,?_,zOm,g.sum g.join,zSi,zS1 i,zS1 p,zSi⟩;rw[<-l,cloN,if_pos j]
  .rw [qjI j]at l
   subst l;simp[go_sem,i,p,o,t,j];exact .hf _ (yg _)
theorem qjJ(op a b)(ha:okK a)(p:okK b):qj qg 225 [aI op,eKd a,eKd b] (eKd (un op a b)):=by
 refine qSV call225 func225 rfl ?_;unfold un;by_cases h6:op=6
 .subst h6
  simp[go_sem];refine fW (sumU _ a b ha.len p.len) (.zk (yg _) (.zk (J1 _ [b]) .nil)) ?_;exact .hf _ (yg _)
 by_cases a0:op=14
 .subst a0
  simp[go_sem];refine fW (sumU _ a b ha.len p.len) (.zk (yg _) (.zk (J1 _ [b]) .nil)) ?_;exact .hf _ (yg _)
 by_cases h7:op=7
 .subst h7
  simp[go_sem];refine aA (J0 _ _) ?_ (by rintro r m ⟨e,_⟩;cases e);rintro r m ⟨e,c,rfl⟩;cases e;simp[go_sem];obtain⟨B,hB⟩:∃ B,B=mKd b.ts:=⟨_,rfl⟩;refine qm.seen a.ts.length (fun seen U=>U.tm 4 = .ip (cKd a)/\U.tm 5 = .ip [aI b.ar,B]/\U.tm 6 = .ptr 0 0/\U.tm 7 = .ptr 3 0/\U.tm 24 = .ptr 4 0 /\
   ColS a.ar (.arr [aI 0,.sc (.map none)]) c (.it (eT a.ts) seen) (fun t=>(∃ i,i∈seen/\a.ts[i]?=some t)/\t∈b.ts) U.mu) ?_ ?_
  .exact ⟨zSi,by simp[go_sem,hB],zSi,zSi,zSi,[],rfl,rfl,rfl,rfl,rfl,zSp,zSp,zSp⟩
  .rintro seen U a8 a9 ⟨e4,e5,e6,e7,C,l,k0,k1,k2,k3,k4,h1,h2,h3⟩
   simp[go_sem,C];refine⟨4,eT a.ts,seen,rfl,k4,fun i e hi a1=>?_,fun a2=>?_⟩
   .obtain ⟨x,hx,rfl⟩:=Zj hi
    have J:okT x:=ha.len x (q8 hx);have a3:i<a.ts.length:=(ql.1 hx).1;have a5:x.length=3:=J;have a6:∀ I:Mu,yL qg I 137 B (aT x) false=some (aB (decide (x∈b.ts))):=fun I=>by rw[hB];exact lookT J p.len
    have o:4<U.mu.length:=(ql.1 k4).1;have g:∀(c:Cell)(l:List Cell)(j:Nat),j<4->((U.mu.set 4 c)++l)[j]?=U.mu[j]?:=fun c l j hj=>by
     rw[qL zSo,zGl]
    have q2:=fun c l=>(g c l 2 zOm).trans k2
    have q3:=fun c l=>(g c l 3 zOm).trans k3
    obtain⟨R,T,x2,rfl⟩:∃ R T x2,x=[R,T,x2]:=by
     match x,a5 with
     | [R,T,x2],_=>exact⟨_,_,_,rfl⟩
    have a4:∀ I:Mu,yL qg I 137 B (.agg [.sc (.int .i8 R),.sc (.int .i8 T),.sc (.int .i8 x2)]) false=some (aB (decide ([R,T,x2]∈b.ts))):=a6;simp[go_sem,e5,C,hi,o,a4];by_cases P:[R,T,x2]∈b.ts
    .simp [go_sem,P,e7,q3]
     refine t7 _ (updT (q2 _ _) J h2) ?_;simp[go_sem];refine⟨i,a3,a1,zS1 e4,zS1 e5,zS1 e6,by simp[go_sem,e7],zS1 C,ins l [R,T,x2],?_,?_,?_,?_,?_,Yw h1,fun t ht=>?_,fun t=>?_⟩
     .simp only[qK]
      rw[zGl,g _ _ 0 zOm,k0]
     .simp only[qK]
      rw[zGl,g _ _ 1 zOm,k1]
     .simp only[qK]
      rw[qJ zSo]
     .simp only[qK]
      rw[zGl,g _ _ 3 zOm,k3]
     .simp only[qK]
      rw[zGl,qL (zUs o),qJ o]
     .rcases uS.1 ht with h|rfl
      .exact h2 t h
      .exact J
     .simp only[uS,h3,Xu hx]
      constructor
      .rintro (⟨h,p⟩|rfl)
       .exact ⟨.inl h,p⟩
       .exact ⟨.inr rfl,P⟩
      .rintro ⟨h|rfl,p⟩
       .exact .inl ⟨h,p⟩
       .exact .inr rfl
    .simp [go_sem,P]
     refine⟨i,a3,a1,zS1 e4,zS1 e5,zS1 e6,by simp[go_sem,e7],zS1 C,l,?_,?_,?_,?_,?_,h1,h2,fun t=>?_⟩
     .simp only[qK]
      rw[g _ _ 0 zOm,k0]
     .simp only[qK]
      rw[g _ _ 1 zOm,k1]
     .simp only[qK]
      rw[g _ _ 2 zOm,k2]
     .simp only[qK]
      rw[g _ _ 3 zOm,k3]
     .simp only[qK]
      rw[qL (zUs o),qJ o]
     .simp only[h3,Xu hx]
      constructor
      .rintro ⟨h,p⟩;exact⟨.inl h,p⟩
      .rintro ⟨h|rfl,p⟩
       .exact ⟨h,p⟩
       .exact absurd p P
   .obtain ⟨a7,hm⟩:=four k0 k1 k2 k3
    simp[go_sem,e6,e7,hm];refine Rd.aggs ⟨.hf _ (HF.sc _),Rd.setT rfl h1 (ha.nd.filter _) (fun t=>?_),trivial⟩;refine(h3 t).trans ?_;show (_/\_)↔t∈a.ts.filter fun t=>decide (t∈b.ts)
    rw[Xv (zUs a2)];simp
 .simp [go_sem,h6,a0,h7]
  exact .hf _ (yg _)
end Y8
end Go.Proofs.YthflbhjlkgdafaaGreatDoor
namespace Go.Ev
open Go Go.RowKit
theorem aD{P f args r p v}(i:yT P f)(g:∀(G) (h) (l),zX G h args l->l=p)
  (h:∀ w,Calls P f p w fun e w'=>e = .returned v/\w'=w) (t:∀ G h,VRel G h r v):qj P f args r:=by
 refine⟨i,fun o w l C I=>?_⟩;rw[g _ _ _ I];refine(h w).mono fun e w' ⟨J,R⟩=>?_
 subst R;exact⟨o,v,J,fun _ j=>j,fun b j=>⟨C.imm b j,.inl j⟩,⟨Below.refl _ _,qn _⟩,t _ _⟩
theorem qjK{G h a b g}(r:zX G h [.sc a,.sc b] g):g=#[a,b]:=by
 obtain⟨p,j⟩:=r;have l:=j 0 _ rfl;have o:=j 1 _ rfl;have t:g.size=2:=zUs p;have I:g.getD 0 z6=a:=by generalize g.getD 0 z6=x at l;cases l;rfl
 have J:g.getD 1 z6=b:=by generalize g.getD 1 z6=x at o;cases o;rfl
 apply Array.ext
 .simpa using t
 .intro i P C
  have:i=0\/i=1:=zOm;rcases this with rfl|rfl
  .simp_all
  simp_all
theorem Stp.ahead{G mu w}(s:Sim G mu w.heap)(n):Stp G mu w G mu (Sort.ahead w n):=
 ⟨.refl G,s,fun _ _ _=>rfl,qn _,fun _ h => .inl h,fun _ h => .inl h,rfl,rfl,rfl,Nat.le_add_right _ _⟩
theorem Xw(w os b)(h:b<w.heap.size):(Sort.grow w os).heap[b]?=w.heap[b]?:=by
 show (w.heap++os)[b]?=_;rw[Array.getElem?_append_left h]
theorem Stp.grow{G mu w}(s:Sim G mu w.heap)(os):Stp G mu w G mu (Sort.grow w os):=by
 have g:w.heap.size<=(Sort.grow w os).heap.size:=by simp_all
 have t:Ext G w.heap (Sort.grow w os).heap:=⟨g,fun b j=>Xw w os b (s.imm b j)⟩;refine⟨.refl G,⟨s.len,fun b j=>ZC (s.imm b j) g,?_,s.live,s.inj,s.tab.mono (fun _ h=>h) t.keep⟩,fun b j _=>Xw w os b j,g,fun b h => .inl h,fun b h => .inl h,rfl,rfl,rfl,qn _⟩;intro i c l p C I J;obtain⟨o,R,P⟩:=s.obj i c l p C I J;exact⟨o,by grind [Xw,yI],P.mono (.refl G) t⟩
def srtI(zs:List Int):List Int:=zs.mergeSort fun x y=>decide (x<=y)
theorem J2(zs):(srtI zs).length=zs.length:=List.length_mergeSort ..
theorem qjL{P f}(C:yT P f)
  (p:∀(g off cap)(zs:List Int)(w),Sort.Holds (Value.int .i64) w g off zs.toArray->g<w.heap.size->zs.length<4611686018427387904 ->
   Calls P f #[.slice (some ⟨g,off,none⟩) zs.length cap] w fun e w'=>e = .returned (.tuple #[])/\∃ n os,w'=Sort.grow (Sort.putRow (Value.int .i64) (Sort.ahead w n) g off (zs.mergeSort fun x y=>decide (x<=y)).toArray) os)
  {mu} {b off} {cells} {zs} (hc:mu[b]?=some (.arr cells)) (hz:∀ k n,zs[k]?=some n->cells[off+k]?=some (.sc (.int .i64 n))) (hl:zs.length<4611686018427387904) (a4:off+zs.length<=cells.length) :
  qC P f [.sl b 1 off zs.length] mu fun e m=>e = .ret (.tup [])/\m=mu.set b (.arr (putCells cells off ((srtI zs).map fun n => .sc (.int .i64 n)))):=by
 refine⟨C,fun G w vs s ra=>?_⟩;obtain⟨v,rfl,rv⟩:=ra.one_inv;cases rv with
 |sl _ _ _ _ g I cap hb ht a5 =>
 obtain⟨arr,e0,h1,h2,h3,h4⟩:=s.arr b cells g I hc hb;have a0:∀(k:Nat)(n:Int),zs[k]?=some n->arr[off+k]?=some (.int .i64 n):=by
  intro k n hk;have hx:=hz k n hk;have hr:=(h4 _ _ hx).2;have a6:off+k<cells.length:=(ql.1 hx).1;have o:off+k<arr.size:=zOm;have:arr.getD (off+k) z6 = .int .i64 n:=by generalize arr.getD (off+k) z6=u at hr;cases hr;rfl
  rw[qU,Qc o]at this;rw[Qc o];exact congrArg some this
 have hH:Sort.Holds (Value.int .i64) w g off zs.toArray:=by
  intro j i;have a7:j<zs.length:=zUs i;refine⟨?_,?_⟩
  .simp_all [qy,World.cell?,Option.isSome_none,Bool.false_eq_true,if_false,getElem!_pos]
  grind [World.frozen?]
 have J:g<w.heap.size:=(yI.1 h1).1;refine(p g off cap zs w hH J hl).mono fun e w' ⟨he,n,os,hw⟩=>?_
 have a8:=J2 zs
 have R:(Sort.putRow (Value.int .i64) (Sort.ahead w n) g off (srtI zs).toArray).heap[g]?=some (.cells (Sort.putCells (Value.int .i64) off (srtI zs).toArray arr) e0 (0,0)):=by
  show (w.heap.modify g (Sort.onCells _))[g]?=_;rw[Array.getElem?_modify,if_pos rfl,h1];rfl
 have T:∀ k,k≠g->(Sort.putRow (Value.int .i64) (Sort.ahead w n) g off (srtI zs).toArray).heap[k]?=w.heap[k]?:=by
  intro k hk;show (w.heap.modify g (Sort.onCells _))[k]?=_;rw[Array.getElem?_modify,if_neg (fun e=>hk e.symm)]
 have st1:Stp G mu w G (mu.set b (.arr (putCells cells off ((srtI zs).map fun n => .sc (.int .i64 n))))) (Sort.putRow (Value.int .i64) (Sort.ahead w n) g off (srtI zs).toArray):=by
  refine sW (hdr:=Nat.le_add_right _ _) s b (.arr cells) _ g I _ hc zSp zSp hb zSp R T rfl rfl rfl ?_;have U:off+((srtI zs).map fun n=>AV.sc (.int .i64 n)).length<=cells.length:=by grind
  refine⟨_,e0,rfl,by simp[Sort.putCells,h2],by grind [jm],fun j y i=>?_⟩;rw[jm _ _ _ U,zL]at i;have t:j<arr.size:=by
   grind
  have a1:(Sort.putCells (Value.int .i64) off (srtI zs).toArray arr).getD j z6=if off<=j/\j<off+(srtI zs).toArray.size then (Value.int .i64) (srtI zs).toArray[j-off]! else arr[j]:=by
   rw[qU,Sort.putCells,Array.getElem?_mapIdx,Qc t];rfl
  rw[a1];have a2:(cells.take off).length=off:=zSo;by_cases a3:j<off
  .rw [zGa,vf,if_pos a3]at i
   rw[zIn];have:=h4 j y i;rw[qU,Qc t]at this;exact this
  .rw [zZ zOm,a2]at i
   by_cases l:j-off<(srtI zs).length
   .rw [qL (zUs l),zz,qy l]at i
    simp only[zh,qs]at i;subst i;rw[if_pos zSo];refine⟨rfl,?_⟩;rw[getElem!_pos (srtI zs).toArray (j-off) (zUs l)];exact .sc _ rfl
   .rw [zZ zSo,uK]at i
    rw[if_neg zSo];have e1:off+((srtI zs).map fun n=>AV.sc (.int .i64 n)).length+(j-off-((srtI zs).map fun n=>AV.sc (.int .i64 n)).length)=j:=by simp at l⊢;omega
    rw[e1]at i;have:=h4 j y i;rw[qU,Qc t]at this;exact this
 have st2:=st1.trans s (Stp.grow st1.sim os);rw[show (srtI zs).toArray=(zs.mergeSort fun x y=>decide (x<=y)).toArray from rfl]at st2;rw[<-hw]at st2;exact⟨G,_,st2,.inl ⟨_,_,⟨rfl,rfl⟩,he,.tup [] #[] rfl zSp⟩⟩
end Go.Ev
namespace Go.Proofs
open Go.Shelf
def Tryz.laysSF1_ren:Go.Shelf.Ren:=⟨fun|6=>78|15=>166|14=>165|28=>237|29=>238|20=>229|21=>230|22=>231|23=>232|24=>233|25=>234|26=>235|27=>236|46=>272|47=>273|48=>274|49=>275|50=>276|57=>289|n=>n,fun|22=>96|24=>28|25=>149|3=>3|39=>231|0=>0|53=>300|55=>302|4=>4|46=>293|45=>292|50=>297|5=>5|9=>9|66=>331|70=>335|76=>345|77=>346|n=>n,fun|n=>n⟩
theorem Tryz.laysSF1:Go.Proofs.SlLaysF.n6 qg Tryz.laysSF1_ren:={
 mixed:=zKr
 f6:=⟨f78.name,zDe,func78.trans (congrArg some zKr)⟩
 f14:=⟨f165.name,zDe,func165.trans (congrArg some zKr)⟩
 f15:=func166.trans (congrArg some zKr)
 f20:=⟨f229.name,zDe,func229.trans (congrArg some zKr)⟩
 f21:=⟨f230.name,zDe,func230.trans (congrArg some zKr)⟩
 f22:=⟨f231.name,zDe,func231.trans (congrArg some zKr)⟩
 f23:=⟨f232.name,zDe,func232.trans (congrArg some zKr)⟩
 f24:=⟨f233.name,zDe,func233.trans (congrArg some zKr)⟩
 f25:=⟨f234.name,zDe,func234.trans (congrArg some zKr)⟩
 f26:=⟨f235.name,zDe,func235.trans (congrArg some zKr)⟩
 f27:=⟨f236.name,zDe,func236.trans (congrArg some zKr)⟩
 f28:=func237.trans (congrArg some zKr)
 f29:=func238.trans (congrArg some zKr)
 f46:=⟨f272.name,zDe,func272.trans (congrArg some zKr)⟩
 f47:=func273.trans (congrArg some zKr)
 f48:=func274.trans (congrArg some zKr)
 f49:=⟨f275.name,zDe,func275.trans (congrArg some zKr)⟩
 f50:=⟨f276.name,zDe,func276.trans (congrArg some zKr)⟩
 f57:=⟨f289.name,zDe,func289.trans (congrArg some zKr)⟩
 t0:=Tryz.underlying0
 a0:=Tryz.isAgg0
 z0:=Tryz.sizeOf0
 v0:=Tryz.zeroValue0
 t3:=Tryz.underlying3
 a3:=Tryz.isAgg3
 z3:=Tryz.sizeOf3
 v3:=Tryz.zeroValue3
 t4:=Tryz.underlying4
 a4:=Tryz.isAgg4
 z4:=Tryz.sizeOf4
 v4:=Tryz.zeroValue4
 t5:=Tryz.underlying5
 a5:=Tryz.isAgg5
 z5:=Tryz.sizeOf5
 v5:=Tryz.zeroValue5
 t9:=Tryz.underlying9
 a9:=Tryz.isAgg9
 z9:=Tryz.sizeOf9
 v9:=Tryz.zeroValue9
 t22:=Tryz.underlying96
 a22:=Tryz.isAgg96
 z22:=Tryz.sizeOf96
 v22:=Tryz.zeroValue96
 a24:=Tryz.isAgg28
 z24:=Tryz.sizeOf28
 t25:=Tryz.underlying149
 a25:=Tryz.isAgg149
 z25:=Tryz.sizeOf149
 v25:=Tryz.zeroValue149
 t39:=Tryz.underlying231
 a39:=Tryz.isAgg231
 z39:=Tryz.sizeOf231
 v39:=Tryz.zeroValue231
 t45:=Tryz.underlying292
 a45:=Tryz.isAgg292
 z45:=Tryz.sizeOf292
 v45:=Tryz.zeroValue292
 t46:=Tryz.underlying293
 a46:=Tryz.isAgg293
 z46:=Tryz.sizeOf293
 v46:=Tryz.zeroValue293
 t50:=Tryz.underlying297
 a50:=Tryz.isAgg297
 z50:=Tryz.sizeOf297
 v50:=Tryz.zeroValue297
 t53:=Tryz.underlying300
 a53:=Tryz.isAgg300
 z53:=Tryz.sizeOf300
 v53:=Tryz.zeroValue300
 t55:=Tryz.underlying302
 a55:=Tryz.isAgg302
 z55:=Tryz.sizeOf302
 v55:=Tryz.zeroValue302
 t66:=Tryz.underlying331
 a66:=Tryz.isAgg331
 z66:=Tryz.sizeOf331
 v66:=Tryz.zeroValue331
 t70:=Tryz.underlying335
 a70:=Tryz.isAgg335
 z70:=Tryz.sizeOf335
 v70:=Tryz.zeroValue335
 t76:=Tryz.underlying345
 a76:=Tryz.isAgg345
 z76:=Tryz.sizeOf345
 v76:=Tryz.zeroValue345
 t77:=Tryz.underlying346
 a77:=Tryz.isAgg346
 z77:=Tryz.sizeOf346
 v77:=Tryz.zeroValue346 }
def Tryz.lays189_ren:Go.Shelf.Ren:=⟨fun|189=>240|125=>166|257=>277|128=>237|129=>238|294=>290|295=>291|296=>292|297=>293|298=>294|299=>295|216=>296|300=>297|301=>298|328=>303|329=>273|330=>274|331=>304|332=>305|215=>239|343=>307|n=>n,fun|28=>28|3=>3|46=>231|0=>0|51=>300|53=>302|4=>4|183=>293|182=>292|131=>297|5=>5|9=>9|218=>331|222=>335|228=>345|229=>346|n=>n,fun|n=>n⟩
theorem Tryz.lays189:Go.Proofs.Lays.n189 qg Tryz.lays189_ren:={
 mixed:=zKr
 f125:=func166.trans (congrArg some zKr)
 f128:=func237.trans (congrArg some zKr)
 f129:=func238.trans (congrArg some zKr)
 f189:=func240.trans (congrArg some zKr)
 f215:=func239.trans (congrArg some zKr)
 f216:=func296.trans (congrArg some zKr)
 f257:=func277.trans (congrArg some zKr)
 f294:=func290.trans (congrArg some zKr)
 f295:=func291.trans (congrArg some zKr)
 f296:=func292.trans (congrArg some zKr)
 f297:=func293.trans (congrArg some zKr)
 f298:=func294.trans (congrArg some zKr)
 f299:=func295.trans (congrArg some zKr)
 f300:=func297.trans (congrArg some zKr)
 f301:=func298.trans (congrArg some zKr)
 f328:=func303.trans (congrArg some zKr)
 f329:=func273.trans (congrArg some zKr)
 f330:=func274.trans (congrArg some zKr)
 f331:=func304.trans (congrArg some zKr)
 f332:=func305.trans (congrArg some zKr)
 f343:=func307.trans (congrArg some zKr)
 t0:=Tryz.underlying0
 a0:=Tryz.isAgg0
 z0:=Tryz.sizeOf0
 v0:=Tryz.zeroValue0
 t3:=Tryz.underlying3
 a3:=Tryz.isAgg3
 z3:=Tryz.sizeOf3
 v3:=Tryz.zeroValue3
 t4:=Tryz.underlying4
 a4:=Tryz.isAgg4
 z4:=Tryz.sizeOf4
 v4:=Tryz.zeroValue4
 t5:=Tryz.underlying5
 a5:=Tryz.isAgg5
 z5:=Tryz.sizeOf5
 v5:=Tryz.zeroValue5
 t9:=Tryz.underlying9
 a9:=Tryz.isAgg9
 z9:=Tryz.sizeOf9
 v9:=Tryz.zeroValue9
 t28:=Tryz.underlying28
 a28:=Tryz.isAgg28
 z28:=Tryz.sizeOf28
 v28:=Tryz.zeroValue28
 t46:=Tryz.underlying231
 a46:=Tryz.isAgg231
 z46:=Tryz.sizeOf231
 v46:=Tryz.zeroValue231
 t51:=Tryz.underlying300
 a51:=Tryz.isAgg300
 z51:=Tryz.sizeOf300
 v51:=Tryz.zeroValue300
 t53:=Tryz.underlying302
 a53:=Tryz.isAgg302
 z53:=Tryz.sizeOf302
 v53:=Tryz.zeroValue302
 t131:=Tryz.underlying297
 a131:=Tryz.isAgg297
 z131:=Tryz.sizeOf297
 v131:=Tryz.zeroValue297
 t182:=Tryz.underlying292
 a182:=Tryz.isAgg292
 z182:=Tryz.sizeOf292
 v182:=Tryz.zeroValue292
 t183:=Tryz.underlying293
 a183:=Tryz.isAgg293
 z183:=Tryz.sizeOf293
 v183:=Tryz.zeroValue293
 t218:=Tryz.underlying331
 a218:=Tryz.isAgg331
 z218:=Tryz.sizeOf331
 v218:=Tryz.zeroValue331
 t222:=Tryz.underlying335
 a222:=Tryz.isAgg335
 z222:=Tryz.sizeOf335
 v222:=Tryz.zeroValue335
 t228:=Tryz.underlying345
 a228:=Tryz.isAgg345
 z228:=Tryz.sizeOf345
 v228:=Tryz.zeroValue345
 t229:=Tryz.underlying346
 a229:=Tryz.isAgg346
 z229:=Tryz.sizeOf346
 v229:=Tryz.zeroValue346 }
open Go.Sort Go.RowKit in
theorem Tryz.slices_Sort_int(g off cap:Nat)(zs:List Int)(w:qe)(l:Holds (Value.int .i64) w g off zs.toArray)(i:g<w.heap.size)(j:zs.length<4611686018427387904) :
  Calls qg 240 #[.slice (some ⟨g,off,none⟩) zs.length cap] w fun e w' =>
   e = .returned (.tuple #[])/\∃ n os,w'=grow (putRow (Value.int .i64) (Sort.ahead w n) g off (zs.mergeSort fun x y=>decide (x<=y)).toArray) os:=Any.slices_Sort_int Tryz.lays189 g off cap zs w l i j
def Tryz.lays212_ren:Go.Shelf.Ren:=⟨fun|212=>287|263=>301|264=>302|n=>n,fun|46=>231|51=>300|146=>354|53=>302|148=>356|n=>n,fun|n=>n⟩
theorem Tryz.lays212:Go.Proofs.Lays.n212 qg Tryz.lays212_ren:={
 mixed:=zKr
 f212:=func287.trans (congrArg some zKr)
 f263:=func301.trans (congrArg some zKr)
 f264:=func302.trans (congrArg some zKr)
 t46:=Tryz.underlying231
 a46:=Tryz.isAgg231
 z46:=Tryz.sizeOf231
 v46:=Tryz.zeroValue231
 t51:=Tryz.underlying300
 a51:=Tryz.isAgg300
 z51:=Tryz.sizeOf300
 v51:=Tryz.zeroValue300
 t53:=Tryz.underlying302
 a53:=Tryz.isAgg302
 z53:=Tryz.sizeOf302
 v53:=Tryz.zeroValue302
 t146:=Tryz.underlying354
 a146:=Tryz.isAgg354
 z146:=Tryz.sizeOf354
 v146:=Tryz.zeroValue354
 t148:=Tryz.underlying356
 a148:=Tryz.isAgg356
 z148:=Tryz.sizeOf356
 v148:=Tryz.zeroValue356 }
open Go.RowKit Go.Lib in
theorem Tryz.bits_Mul(x y:Nat)(g:x<18446744073709551616)(i:y<18446744073709551616)(w) :
  Calls qg 287 #[.int .u64 x,.int .u64 y] w fun e w'=>e = .returned (.tuple #[.int .u64 ((x*y / 18446744073709551616:Nat):Int),.int .u64 ((x*y % 18446744073709551616:Nat):Int)])/\w'=w:=Any.bits_Mul Tryz.lays212 x y g i w
open Go.RowKit Go.Sort in
theorem Tryz.slices_Sort_int_none(p cap w) :
  Calls qg 240 #[.slice p 0 cap] w fun e w'=>e = .returned (.tuple #[])/\w'=w:=Any.slices_Sort_int_none Tryz.lays189 p cap w
end Go.Proofs
namespace Go.Proofs.YthflbhjlkgdafaaGreatDoor
open Go Go.Ev Go.Proofs Tryz
namespace YS
theorem wK(xs:List Int):(xs.map rI).flatten=xs.map aI:=by
 induction xs with
 |nil=>rfl
 |cons x xs g=>simp[g]
theorem ofCells{lo b n mu}{xs:List Int}(j:lo<=b)(g:mu[b]?=some (.arr (xs.map aI)))(i:xs.length=n):OwnF lo mu 1 (.sl b 1 0 n) (xs.map rI):=by
 have p:b<mu.length:=(ql.1 g).1;refine⟨.inr ⟨b,zP1 i,by rw[g,wK]⟩,fun t s o l e=>?_,zOm⟩;injection e;omega
def vt(n:Int):dC:=⟨(Lib.itoa n).toArray⟩
theorem mulB(x y:Nat)(i:x<18446744073709551616)(j:y<18446744073709551616) :
  qj qg 287 [.sc (.int .u64 x),.sc (.int .u64 y)] (.tup [.sc (.int .u64 ((x*y / 18446744073709551616:Nat):Int)),.sc (.int .u64 ((x*y % 18446744073709551616:Nat):Int))]):=
 aD call287 (fun G h l r=>qjK r) (fun w=>Tryz.bits_Mul x y i j w) fun G h => .tup _ _ rfl fun k z g=>by
  match k with
  | 0=>simp at g;subst g;exact .sc _ rfl
  | 1=>simp at g;subst g;exact .sc _ rfl
  |k+2=>simp at g
theorem nO{n}(g:0<=n)(i:n<=18446744073709551615):IntKind.u64.wrap n=n:=IntWalk.u64_in n ⟨g,i⟩
theorem qjM{mu b off len cells}(j:mu[b]?=some (.arr cells))(l:off+len<=cells.length):qA mu (.sl b 1 off len)=some (((cells.drop off).take len).map fun c=>[c]):=by
 simp only[qA,j];rw[if_pos zOm];congr 1;apply vg;intro i;by_cases g:i<len
 .simp only[zz,Qa g,zh,Nat.mul_one]
  rw[vf,if_pos g,uK,qy (show off+i<cells.length by omega)];rw[ze (show off+i<cells.length by omega)];rfl
 .rw [w6 zSo,w6 zSo]
theorem qjN(l:List AV):(l.map fun c=>[c]).flatten=l:=by
 induction l with
 |nil=>rfl
 |cons x l g=>simp only[zf,wm,g];rfl
theorem qjO{l:List AV}(h:∀ c,c∈l->c.one=true):qV 1 (l.map fun c=>[c]):=fun r g=>by
 obtain⟨c,i,rfl⟩:=qp.1 g;exact⟨rfl,by simp[h c i]⟩
def rep(s:Int)(k m:Nat):List AV:=qM m (aI s)++qM (k-m) (aI 0)
theorem Xx(s k m)(h:m<=k):(rep s k m).length=k:=by simp[rep];omega
theorem nP(s k m j)(h:j<=m):(rep s k m).take j=qM j (aI s):=by
 rw[rep,List.take_append_of_le_length (zUs h),List.take_replicate,Nat.min_eq_left h]
theorem nQ(s k m j)(g:m<=k)(h:m+j<=k):putCells (rep s k m) m (qM j (aI s))=rep s k (m+j):=by
 rw[jm _ _ _ (by rw[Xx _ _ _ g];simpa using h)];rw[nP _ _ _ _ (qn m),List.replicate_append_replicate];have:List.drop (m+(qM j (aI s)).length) (rep s k m)=qM (k-(m+j)) (aI 0):=by
  rw[rep,List.length_replicate,List.drop_append,List.drop_of_length_le zSp,List.nil_append,List.length_replicate,List.drop_replicate];congr 1;omega
 rw[this];rfl
theorem qjP(s)(k:Nat)(T:k<=5):qj qg 266 [lI [s],aI k] (lI (qM k s)):=by
 refine qSV call266 func266 rfl ?_;have t:IntKind.u64.wrap (k:Int)=k:=nO zOm zOm;have w2:IntKind.u64.wrap 1=1:=nO zOm zOm;have C:qo.wrap (k:Int)=k:=zWr;simp[go_sem,show ¬(k:Int)<0 by omega,t,w2];refine t8 (mulB 1 k zOm zOm) (.zs (.zs .nil)) ?_;rw[show 1*k / 18446744073709551616=0 by omega,show 1*k % 18446744073709551616=k by omega];simp[go_sem,show ¬(9223372036854775807:Int)<k by omega,C,show (k:Int)<=4294967296 by omega];refine Xl (ys:=[[aI s]]) zSi rfl zSp rfl (jD [s]) ?_;have J:putCells (qM k (aI 0)) 0 (([[aI s]]:List (List AV)).take k).flatten=rep s k (min 1 k):=by
  have:=nQ s k 0 (min 1 k) zOm zOm;rw[yJ]at this;rw[<-this];cases k with
  |zero=>rfl
  |succ k=>rw[show min 1 (k+1)=1 by omega];simp[rep]
 simp only[J];simp[go_sem];refine dS (fun n U=>∃ m,n=k-m/\m<=k/\(k=m\/1<=m)/\U.tm 7 = .sl 0 1 0 k/\U.tm 8=aI m/\U.mu=[.arr (rep s k m)]) (k-min 1 k) ?_ ?_
 .exact ⟨min 1 k,rfl,zOm,zOm,zSi,zSi,zSi⟩
 rintro n U ⟨m,rfl,l,P,e7,o,em⟩;by_cases g:m<k
 .have p:qA [.arr (rep s k m)] (.sl 0 1 0 m)=some ((qM m (aI s)).map fun c=>[c]):=by
   rw[qjM (cells:=rep s k m) rfl (by rw[Xx _ _ _ l];omega)];rw[List.drop_zero,nP _ _ _ _ (qn m)]
  simp[go_sem,e7,o,em,g];refine tJ zKr ?_;simp[go_sem,e7,o,g,show m<=k by omega];refine Xl (cells:=rep s k m) zSi rfl (by rw[Xx _ _ _ l];omega) p (qjO fun c p=>by rw[List.eq_of_mem_replicate p];rfl) ?_;have R:putCells (rep s k m) m ((((qM m (aI s)).map fun c=>[c]).take (k-m)).flatten)=rep s k (m+min m (k-m)):=by
   rw[<-List.map_take,qjN,List.take_replicate,Nat.min_comm];exact nQ s k m _ l zOm
  simp only[R];simp[go_sem];refine Keep.loop (k-(m+min m (k-m))) zOm ⟨m+min m (k-m),rfl,zOm,zOm,by simp[go_sem,e7],?_,zSi⟩;simp[go_sem];rw[zWr]
 .obtain rfl:m=k:=by omega
  simp[go_sem,e7,o,em];have:rep s m m=(qM m s).map aI:=by simp[rep]
  rw[this];exact(ofCells (lo:=0) (mu:=[.arr ((qM m s).map aI)]) (b:=0) (Nat.zero_le _) rfl zSp).rdI
end YS
namespace YF
open Y1 P1
section
variable {C:Type}
abbrev cPm(p:dC×Int):List AV:=[aS p.1,aI p.2]
abbrev lPm(l:List (dC×Int)):AV := .lst false (l.map cPm)
abbrev cPd(p:Pd):List AV:=aS p.name :: lPm p.params :: cNd p.body
abbrev lPd(l:List Pd):AV := .lst false (l.map cPd)
abbrev cFa(f:dC×Nd):List AV:=aS f.1 :: cNd f.2
abbrev lSo(l:List (dC×Bool)):AV := .lst false (l.map JT)
abbrev lFl(l:List Fld):AV := .lst false (l.map vL)
abbrev lFa(l:List (dC×Nd)):AV := .lst false (l.map cFa)
abbrev cTS(s:TS):List AV:=[lSo s.sS,lFl s.sA,lPd s.sT,lFa s.sP]
abbrev eTS(s:TS):AV := .agg (cTS s)
theorem ZV(p):∀ c,c∈cPm p->HF c:=by
 intro c g;simp at g;rcases g with rfl|rfl<;>exact HF.sc _
theorem j5(l):HF (lPm l):=HF.lst fun r g c i=>by
 obtain⟨p,_,rfl⟩:=qp.1 g;exact ZV p c i
theorem Xy(p):∀ c,c∈cPd p->HF c:=by
 intro c g;simp only[cPd,qz]at g;rcases g with rfl|rfl|g
 .exact HF.sc _
 .exact j5 _
 grind [jQ]
theorem Zo(l):HF (lPd l):=HF.lst fun r g c i=>by
 obtain⟨p,_,rfl⟩:=qp.1 g;exact Xy p c i
theorem qjQ(p):∀ c,c∈cFa p->HF c:=by
 intro c g;simp only[cFa,qz]at g;rcases g with rfl|g
 .exact HF.sc _
 grind [jQ]
theorem J3(l):HF (lFa l):=HF.lst fun r g c i=>by
 obtain⟨p,_,rfl⟩:=qp.1 g;exact qjQ p c i
theorem qjR(p):∀ c,c∈JT p->HF c:=by
 intro c g;simp at g;rcases g with rfl|rfl<;>exact HF.sc _
theorem Uz(l):HF (lSo l):=HF.lst fun r g c i=>by
 obtain⟨p,_,rfl⟩:=qp.1 g;exact qjR p c i
theorem J4(l):HF (lFl l):=HF.lst fun r g c i=>by
 obtain⟨p,_,rfl⟩:=qp.1 g;exact nv p c i
theorem J5(s):∀ c,c∈cTS s->HF c:=by
 intro c g;simp only[cTS,qz,qO,or_false]at g;rcases g with rfl|rfl|rfl|rfl
 .exact Uz _
 .exact J4 _
 .exact Zo _
 .exact J3 _
theorem zB(s):HF (eTS s):=HF.agg (J5 s)
theorem qjS(n):(cNd n).length=5/\(cNd n).all AV.one=true:=⟨Yu n,JU n⟩
theorem Yz(p):(cPd p).length=7/\(cPd p).all AV.one=true:=⟨by simp[cPd,Yu],by simp only[cPd,List.all_cons,JU];rfl⟩
theorem nR(p):(cFa p).length=6/\(cFa p).all AV.one=true:=⟨by simp[cFa,Yu],by simp only[cFa,List.all_cons,JU];rfl⟩
theorem qjT(p):(vL p).length=3/\(vL p).all AV.one=true:=⟨rfl,rfl⟩
def J6(P:qc)(l:AV){C:Type}(xs:List C)(enc:C->AV)(g:C->Bool):Prop:=
 ∃ f first j,l = .fn (.func f) first j/\∀ x,x∈xs->∃ i,qj P f i (aB (g x))/\WKs (first++[enc x]++j) i
def idxI(xs:List C)(g:C->Bool):Int:=match xs.findIdx? g with|some i=>i|none => -1
theorem Xz{xs}{g:C->Bool}{k}(i)(l:g xs[k]=true)(o:∀(j:Nat)(h),j<k->g xs[j]=false):idxI xs g=k:=by
 grind [idxI,List.findIdx?_eq_some_iff_getElem]
theorem XC{xs}{g:C->Bool}(l:∀(j)(h:j<xs.length),g xs[j]=false):idxI xs g = -1:=by
 unfold idxI;have:xs.findIdx? g=none:=by
  rw[List.findIdx?_eq_none_iff];intro x i;obtain⟨j,o,rfl⟩:=uA.1 i
  grind
 rw[this]
theorem nS(xs)(g:C->Bool):decide (0<=idxI xs g)=xs.any g:=by
 unfold idxI;cases h:xs.findIdx? g with
 |none =>
  grind
 |some i =>
  grind [List.findIdx?_eq_some_iff_getElem,List.any_eq_true,qv]
theorem idxNd(full xs t g)(hf:J6 qg t xs (fun x => .agg (cNd x)) g)(hl:xs.length<=1000000000000):qj qg 168 [.lst full (xs.map cNd),t] (aI (idxI xs g)):=by
 refine qSV call168 func168 rfl ?_;obtain⟨f,first,l,rfl,hf⟩:=hf;simp[go_sem];refine qm.up xs.length (fun k U=>U.tm 0 = .lst full (xs.map cNd)/\U.tm 1 = .fn (.func f) first l/\U.tm 6 = .lst full (xs.map cNd)/\U.tm 7=aI xs.length/\U.tm 8=aI k/\U.mu=[]/\∀(j:Nat)(h:j<xs.length),j<k->g xs[j]=false) ?_ ?_
 .simp [go_sem]
 .rintro k U hk ⟨C,I,R,e7,p,J,P⟩
  by_cases T:k=xs.length
  .subst T
   simp[go_sem,e7,p,J];rw[XC (fun j h=>P j h h)];exact .zsc _
  .have i:k<xs.length:=by omega
   obtain⟨o,hs,hw⟩:=hf xs[k] (qv i);have a0:=yh (n:=((k+1:Nat):Int)) zOm zOm;simp[go_sem,C,I,e7,p,J,i,qjS xs[k]];refine .inl ⟨_,.inl ⟨f,first,l,o,rfl,hs,.inl hw⟩,?_⟩;cases hg:g xs[k] with
   |true =>
    simp[go_sem];rw[Xz i hg (fun j h hj=>P j h hj)];exact .zsc _
   |false =>
    simp[go_sem,C,I,R,e7,p,i]
    grind
theorem nT(full xs i g)(hf:J6 qg i xs (fun x => .agg (cNd x)) g)(l:HF i)(j:HF (.lst full (xs.map cNd)))(o:xs.length<=1000000000000):qj qg 80 [.lst full (xs.map cNd),i] (aB (xs.any g)):=by
 refine qSU call80 func80 rfl ?_;refine fW (idxNd full xs i g hf o) (.zk j (.zk l .nil)) ?_;rw[nS];exact .zsc _
theorem nU(full xs t g)(hf:J6 qg t xs (fun x => .agg (cPd x)) g)(hl:xs.length<=1000000000000):qj qg 197 [.lst full (xs.map cPd),t] (aI (idxI xs g)):=by
 refine qSV call197 func197 rfl ?_;obtain⟨f,first,l,rfl,hf⟩:=hf;simp[go_sem];refine qm.up xs.length (fun k U=>U.tm 0 = .lst full (xs.map cPd)/\U.tm 1 = .fn (.func f) first l/\U.tm 6 = .lst full (xs.map cPd)/\U.tm 7=aI xs.length/\U.tm 8=aI k/\U.mu=[]/\∀(j:Nat)(h:j<xs.length),j<k->g xs[j]=false) ?_ ?_
 .simp [go_sem]
 .rintro k U hk ⟨C,I,R,e7,p,J,P⟩
  by_cases T:k=xs.length
  .subst T
   simp[go_sem,e7,p,J];rw[XC (fun j h=>P j h h)];exact .zsc _
  .have i:k<xs.length:=by omega
   obtain⟨o,hs,hw⟩:=hf xs[k] (qv i);have a0:=yh (n:=((k+1:Nat):Int)) zOm zOm;simp[go_sem,C,I,e7,p,J,i,Yz xs[k]];refine .inl ⟨_,.inl ⟨f,first,l,o,rfl,hs,.inl hw⟩,?_⟩;cases hg:g xs[k] with
   |true =>
    simp[go_sem];rw[Xz i hg (fun j h hj=>P j h hj)];exact .zsc _
   |false =>
    simp[go_sem,C,I,R,e7,p,i]
    grind
theorem hasPd(full xs i g)(hf:J6 qg i xs (fun x => .agg (cPd x)) g)(l:HF i)(j:HF (.lst full (xs.map cPd)))(o:xs.length<=1000000000000):qj qg 222 [.lst full (xs.map cPd),i] (aB (xs.any g)):=by
 refine qSU call222 func222 rfl ?_;refine fW (nU full xs i g hf o) (.zk j (.zk l .nil)) ?_;rw[nS];exact .zsc _
theorem idxFl(full xs fv g)(hf:J6 qg fv xs (fun x => .agg (vL x)) g)(hl:xs.length<=1000000000000):qj qg 249 [.lst full (xs.map vL),fv] (aI (idxI xs g)):=by
 refine qSV call249 func249 rfl ?_;obtain⟨f,first,l,rfl,hf⟩:=hf;simp[go_sem];refine qm.up xs.length (fun k U=>U.tm 0 = .lst full (xs.map vL)/\U.tm 1 = .fn (.func f) first l/\U.tm 6 = .lst full (xs.map vL)/\U.tm 7=aI xs.length/\U.tm 8=aI k/\U.mu=[]/\∀(j:Nat)(h:j<xs.length),j<k->g xs[j]=false) ?_ ?_
 .simp [go_sem]
 .rintro k U hk ⟨t,C,I,e7,J,P,R⟩
  by_cases he:k=xs.length
  .subst he
   simp[go_sem,t,C,I,e7,J,P];rw[XC (fun j h=>R j h h)];exact .zsc _
  .have i:k<xs.length:=by omega
   obtain⟨o,hs,hw⟩:=hf xs[k] (qv i);have p:=yh (n:=((k+1:Nat):Int)) zOm zOm;simp[go_sem,t,C,I,e7,J,P,i,qjT xs[k],qZ];refine .inl ⟨_,.inl ⟨f,first,l,o,rfl,hs,.inl hw⟩,?_⟩;cases hg:g xs[k] with
   |true =>
    simp[go_sem,t,C,I,e7,J,P];rw[Xz i hg (fun j h hj=>R j h hj)];exact .zsc _
   |false =>
    simp[go_sem,t,C,I,e7,J,P,i];simp at p;refine⟨p,fun j h hj=>?_⟩;by_cases T:j=k
    .subst T;exact hg
    .exact R j h zOm
end
end YF
namespace Y9
open Y1 Y2 P1 YF
abbrev cCk(c:Ck):List AV:=[lSo c.ts.sS,lFl c.ts.sA,lPd c.ts.sT,lFa c.ts.sP,aI c.calls,.lst false (c.timed.map fun b=>[aB b])]
abbrev eCk(c:Ck):AV := .ip (cCk c)
theorem jr(c):HF (eCk c):=HF.ip fun x g=>by
 simp only[cCk,qz,qO,or_false]at g;rcases g with rfl|rfl|rfl|rfl|rfl|rfl
 .exact Uz _
 .exact J4 _
 .exact Zo _
 .exact J3 _
 .exact HF.sc _
 .exact HF.lst fun r j c i=>by
   obtain⟨b,_,rfl⟩:=qp.1 j;simp at i;subst i;exact HF.sc _
structure okTS (s:TS):Prop where
 ns:s.sS.length<=4
 nf:s.sA.length<=6
 np:s.sT.length<=8
 nfa:s.sP.length<=16
 sl:∀ x,x∈s.sS->x.1.size<=4611686018427387904
 fl:∀ f,f∈s.sA->1<=f.sS.length/\f.sS.length<=3/\∀ x,x∈f.sS->0<=x/\x<s.sS.length
 pl:∀ p,p∈s.sT->p.params.length<=8/\∀ x,x∈p.params->0<=x.2/\x.2<s.sS.length
structure okCk (c:Ck):Prop where
 ts:okTS c.ts
 calls:c.calls<=c.ts.sT.length
 timed:c.calls<=c.timed.length
theorem qjU(p nm):qj qg 264 [.agg (cPd p),.ip [aS nm]] (aB (decide (p.name=nm))):=by
 refine qSV call264 func264 rfl ?_;by_cases h:p.name=nm
 .simp [go_sem,h]
  exact .zsc _
 .simp [go_sem,h,j0 h]
  exact .zsc _
theorem nV(c)(o:okCk c)(nm):qj qg 218 [eCk c,aS nm] (aI (match zC c nm with|some i=>i|none => -1)):=by
 refine qSU call218 func218 rfl ?_;refine tJ zKr ?_;have C:=o.calls;have I:=o.ts.np;have j:List.take c.calls (c.ts.sT.map cPd)=(c.ts.sT.take c.calls).map cPd:=by rw[List.map_take]
 simp[go_sem,show (c.calls:Int)<=c.ts.sT.length by omega];refine⟨⟨_,_,⟨rfl,rfl⟩,fun r J=>by obtain⟨p,_,rfl⟩:=qp.1 J;exact(Yz p).1⟩,?_⟩;rw[j];have l:HF (.fn (.func 264) [] [.ip [aS nm]]):=HF.fn zSp (fun x t=>by simp at t;subst t;exact HF.ip fun y g=>by simp at g;subst g;exact HF.sc _);refine fW (nU false (c.ts.sT.take c.calls) _ (fun p=>decide (p.name=nm)) ⟨_,_,_,rfl,fun p P=>⟨_,qjU p nm,.zk (HF.agg (Xy p)) (.zk (HF.ip fun y g=>by simp at g;subst g;exact HF.sc _) .nil)⟩⟩ zSo) (.zk (Zo _) (.zk l .nil)) ?_;exact .zsc _
theorem ZW{c}(i:okCk c){nm p}(h:zC c nm=some p):p<c.calls/\p<c.ts.sT.length:=by
 unfold zC at h;rw[List.findIdx?_eq_some_iff_getElem]at h;obtain⟨g,_⟩:=h;simp at g;omega
theorem nW(c)(o:okCk c)(n):qj qg 160 [eCk c,eNd n] (aB (jc c n.op n.name)):=by
 refine qSV call160 func160 rfl ?_;unfold jc yX;by_cases t:n.op=5
 .simp [go_sem,t];exact .zsc _
 by_cases g:n.op=48
 .simp [go_sem,g];exact .zsc _
 by_cases i:n.op=49
 .simp [go_sem,i];exact .zsc _
 by_cases j:n.op=50
 .simp [go_sem,j];exact .zsc _
 by_cases l:n.op=51
 .simp [go_sem,l];exact .zsc _
 by_cases h47:n.op=47
 .simp [go_sem,h47]
  refine t8 (nV c o n.name) (.zk (jr c) (.zs .nil)) ?_;cases C:zC c n.name with
  |none =>
   simp[go_sem];exact .zsc _
  |some p =>
   obtain⟨I,P⟩:=ZW o C;have J:p<c.timed.length:=ZC I o.timed;simp[go_sem,J];exact .zsc _
 .simp [go_sem,t,g,i,j,l,h47]
  exact .zsc _
theorem nX(c):∀ ks,Ur c ks=ks.any (yY c)
 | []=>rfl
 |k :: ks=>by simp[Ur,nX c ks]
noncomputable abbrev szN(n:Nd):Nat:=SizeOf.sizeOf n
theorem zl{n k}(h:k∈n.sD):szN k<szN n:=by
 obtain⟨op,nm,i,ks,p⟩:=n;have:SizeOf.sizeOf k<SizeOf.sizeOf ks:=List.sizeOf_lt_of_mem h;simp only[szN,Nd.mk.sizeOf_spec];omega
inductive Small:Nd->Prop where
 |mk (n:Nd) (h:n.sD.length<=1000) (hk:∀ k,k∈n.sD->Small k):Small n
theorem Small.len{n}(h:Small n):n.sD.length<=1000:=by cases h;assumption
theorem Small.kid{n k}(h:Small n)(g:k∈n.sD):Small k:=by
 cases h with
 |mk _ _ h=>exact h k g
theorem nY(c n):yY c n=(jc c n.op n.name||n.sD.any (yY c)):=by
 obtain⟨op,nm,i,ks,p⟩:=n;simp[yY,nX,Nd.op,Nd.name,Nd.sD]
theorem nZ(c)(j:okCk c):∀ m n,szN n<=m->Small n->qj qg 120 [eCk c,eNd n] (aB (yY c n))
 | 0,n,l,_=>by obtain⟨op,nm,i,ks,p⟩:=n;simp[szN]at l
 |m+1,n,l,o=>by
  refine qSV call120 func120 rfl ?_;rw[nY];simp[go_sem];refine t8 (nW c j n) (.zk (jr c) (.zk (qE n) .nil)) ?_;cases I:jc c n.op n.name with
  |true =>
   simp[go_sem];exact .zsc _
  |false =>
   simp[go_sem];have g:HF (.fn (.func 120) [eCk c] []):=HF.fn (fun x t=>by simp at t;subst t;exact jr c) zSp;refine fW (nT false n.sD _ (yY c) ⟨_,_,_,rfl,fun k C=>⟨_,nZ c j m k (zW1 (zl C)) (o.kid C),.zk (jr c) (.zk (qE k) .nil)⟩⟩ g (JV _) (zW1 o.len)) (.zk (JV _) (.zk g .nil)) ?_;exact .zsc _
end Y9
namespace E1
section
variable {l:List Int}
theorem YI{n:Int}(g:0<=n)(j:n<=20):∀ i,i<=3->0<=n ^ i/\n ^ i<=8000:=by
 have l:0<=n*n:=Int.mul_nonneg g g;have o:n*n<=20*20:=Int.mul_le_mul j j g zOm;have t:0<=n*n*n:=Int.mul_nonneg l g;have C:n*n*n<=20*20*20:=Int.mul_le_mul o j g zOm;intro i p
 match i,p with
 | 0,_=>rw[Int.pow_zero];omega
 | 1,_=>rw[Int.pow_succ,Int.pow_zero];omega
 | 2,_=>rw[Int.pow_succ,Int.pow_succ,Int.pow_zero,Int.one_mul];omega
 | 3,_=>grind
def powN(k:Int):Nat:=(min k 3).toNat
def powI(n k:Int):Int:=n ^ powN k
def zp(l:List Int):Prop:=l.Pairwise (·<·)
instance (l:List Int):Decidable (zp l):=inferInstanceAs (Decidable (l.Pairwise (·<·)))
theorem qjV(h:∀(i)(h:i+1<l.length),l[i]<l[i+1]):zp l:=by
 unfold zp;induction l with
 |nil=>exact .nil
 |cons a l g =>
  have g:=g fun i p=>by
   have:=h (i+1) (zUs p);rw[List.getElem_cons_succ,List.getElem_cons_succ]at this;exact this
  refine w7.2 ⟨?_,g⟩;cases l with
  |nil=>simp
  |cons b l =>
   have j:=h 0 zSp;simp at j;intro c o;rcases qz.1 o with rfl|o
   .exact j
   grind [w7]
theorem UA(h:zp l){i j}(g:i<j)(o:j<l.length):l[i]' zOm<l[j]:=List.pairwise_iff_getElem.1 h i j zOm o g
def jF(n:Int)(r:Rl):Bool:=decide (0<=n)&&decide (n<=12)&&decide (1<=r.ar)&&decide (r.ar<=3)&&r.ts.all (fun t=>decide (0<=t)&&decide (t<powI n r.ar))&&decide (zp r.ts)
def inOk(a b:Rl):Bool:=a.ts.all (fun t=>decide (t∈b.ts))
theorem Zp(h:zp l):l.Nodup:=List.Pairwise.imp (fun h e=>zOm) h
theorem UB{m}(g:zp l)(i:zp m)(h:∀ x,x∈l↔x∈m):l=m:=
 List.Perm.eq_of_pairwise (le:=fun a b:Int=>a<b) (fun a b _ _ g i=>zOm) g i ((List.perm_ext_iff_of_nodup (Zp g) (Zp i)).2 h)
def atN(l:List Int)(r:Int):Nat->Nat
 | 0=>0
 |n+1=>if r<=gI l n then atN l r n else n+1
theorem n7(l r):∀ n,atN l r n<=n
 | 0=>qn _
 |n+1=>by
  have:=n7 l r n;rw[atN];split<;>omega
def addL(l:List Int)(r:Int):List Int:=if l[atN l r l.length]?=some r then l else l.take (atN l r l.length)++[r]++l.drop (atN l r l.length)
theorem UC(l r):(addL l r).length<=l.length+1:=by
 grind [addL]
def ofL(ts:List Int):List Int:=ts.foldl addL []
theorem n8(ts:List Int)(k h):ofL (ts.take (k+1))=addL (ofL (ts.take k)) ts[k]:=by
 unfold ofL;rw[List.take_add_one,qy h,List.foldl_append];rfl
theorem n9(ts:List Int):∀ k,(ofL (ts.take k)).length<=k
 | 0=>by simp[ofL]
 |k+1=>by
  have g:=n9 ts k;by_cases h:k<ts.length
  .rw [n8 ts k h]
   have:=UC (ofL (ts.take k)) ts[k];omega
  .rw [zU zOm]
   rw[zU zOm]at g;omega
theorem me(l r):∀ n,(∀ i,atN l r n<=i->i<n->r<=gI l i)/\(0<atN l r n->gI l (atN l r n-1)<r)
 | 0=>⟨fun i _ h=>zOm,fun h=>by simp[atN]at h⟩
 |n+1=>by
  obtain⟨j,g⟩:=me l r n;rw[atN];by_cases h:r<=gI l n
  .rw [if_pos h]
   refine⟨fun i o p=>?_,g⟩;by_cases e:i=n
   .rw [e];exact h
   grind
  .rw [if_neg h]
   grind
theorem qjW(P:zp l)(r):zp (addL l r)/\∀ x,x∈addL l r↔x∈l\/x=r:=by
 obtain⟨T,U⟩:=me l r l.length;have hk:=n7 l r l.length;unfold addL;generalize atN l r l.length=k at *
 by_cases p:l[k]?=some r
 .rw [if_pos p]
  grind
 .rw [if_neg p]
  have o:∀ i j (g:i<l.length) (R:j<l.length),i<j->l[i]<l[j]:=fun i j g R t=>List.pairwise_iff_getElem.1 P i j g R t
  have lo:∀ x,x∈l.take k->x<r:=by
   intro x C;obtain⟨i,g,e⟩:=uA.1 C;rw[List.getElem_take]at e;have a0:i<k:=by simp at g;omega
   have:=U zOm;rw[ji zOm]at this;by_cases I:i=k-1
   .subst I;omega
   .have:=o i (k-1) zOm zOm zOm;omega
  have g:∀ x,x∈l.drop k->r<x:=by
   intro x C;obtain⟨i,g,e⟩:=uA.1 C;rw[List.getElem_drop]at e;have J:k+i<l.length:=by simp at g;omega
   have h0:=T k zOm zOm;rw[ji zOm]at h0;have a1:l[k]' zOm≠r:=fun e=>p (by rw[qy zOm,e])
   by_cases I:i=0
   .subst I;simp at e;omega
   .have:=o k (k+i) zOm J zOm;omega
  refine⟨?_,fun x=>?_⟩
  .unfold zp at *
   rw[zL,List.pairwise_append];refine⟨P.sublist (List.take_sublist _ _),?_,fun a ha b hb=>?_⟩
   .grind
   grind
  .have:x∈l↔x∈l.take k\/x∈l.drop k:=by
    rw[<-qP,uJ]
   rw[this,qP,qP,qX];constructor
   .rintro ((h|h)|h)
    .exact .inl (.inl h)
    .exact .inr h
    .exact .inl (.inr h)
   .rintro ((h|h)|h)
    .exact .inl (.inl h)
    .exact .inr h
    .exact .inl (.inr h)
theorem mg:∀(ts l:List Int),zp l->zp (ts.foldl addL l)/\∀ x,x∈ts.foldl addL l↔x∈l\/x∈ts
 | [],l,h=>⟨h,fun x=>zSp⟩
 |t :: ts,l,h=>by
  obtain⟨g,i⟩:=qjW h t;obtain⟨j,o⟩:=mg ts _ g;refine⟨j,fun x=>?_⟩;rw[List.foldl_cons,o,i,qz];constructor
  .rintro ((h|h)|h)
   .exact .inl h
   .exact .inr (.inl h)
   .exact .inr (.inr h)
  .rintro (h|h|h)
   .exact .inl (.inl h)
   .exact .inl (.inr h)
   .exact .inr h
theorem uV(ts):zp (ofL ts)/\∀ x,x∈ofL ts↔x∈ts:=by
 obtain⟨g,i⟩:=mg ts [] (by simp_all[zp])
 grind [ofL]
structure GR (n:Int) (r:Rl):Prop where
 ar1:1<=r.ar
 ar3:r.ar<=3
 val:∀ t,t∈r.ts->0<=t/\t<powI n r.ar
 srt:zp r.ts
def unR(a b:Rl):Rl:=⟨a.ar,ofL (a.ts++b.ts)⟩
def inR(a b:Rl):Rl:=⟨a.ar,a.ts.filter fun t=>decide (t∈b.ts)⟩
def diR(a b:Rl):Rl:=⟨a.ar,a.ts.filter fun t=>decide (¬t∈b.ts)⟩
def prL(m:Int)(x y:List Int):List Int:=x.flatMap fun s=>y.map fun t=>s*m+t
def prR(n:Int)(a b:Rl):Rl:=⟨a.ar+b.ar,prL (powI n b.ar) a.ts b.ts⟩
def joL(n m:Int)(x y:List Int):List Int:=x.flatMap fun s=>(y.filter fun t=>decide (t / m=s % n)).map fun t=>s / n*m+t % m
def joR(n:Int)(a b:Rl):Rl:=⟨a.ar+b.ar-2,ofL (joL n (powI n (b.ar-1)) a.ts b.ts)⟩
def trR(n:Int)(a:Rl):Rl:=⟨2,ofL (a.ts.map fun t=>t % n*n+t / n)⟩
def clR(n:Int):Nat->Rl->Rl
 | 0,c=>c
 |f+1,c=>if (unR c (joR n c c)).ts.length=c.ts.length then c else clR n f (unR c (joR n c c))
def ovR(n:Int)(a b:Rl):Rl:=unR b ⟨a.ar,a.ts.filter fun t=>decide (∀ u,u∈b.ts->u / powI n (b.ar-1)≠t / powI n (b.ar-1))⟩
def idR(n:Int):Rl:=⟨2,(qu n.toNat).map fun x:Nat=>(x:Int)*n+x⟩
theorem qjX:zp []:=List.Pairwise.nil
theorem YJ{m:Nat}(i:zp l)(h:∀ t,t∈l->0<=t/\t<(m:Int)):l.length<=m:=by
 have:=jl (l₂:=(qu m).map fun x:Nat=>(x:Int)) (Zp i) fun x j=>by
  obtain⟨o,p⟩:=h x j;exact qp.2 ⟨x.toNat,zW.2 zOm,zOm⟩
 grind
theorem qjY(p)(h:zp l):zp (l.filter p):=List.Pairwise.filter p h
theorem Qm{n}(g:0<=n)(i:n<=20)(k):0<=powI n k/\powI n k<=8000:=YI g i _ (by unfold powN;omega)
theorem GR.len{n r}(i:0<=n)(j:n<=20)(g:GR n r):r.ts.length<=8000:=by
 have o:=Qm i j r.ar;have:=YJ (m:=(powI n r.ar).toNat) g.srt fun t l=>zW1 (g.val t l)
 omega
theorem aG{n a b}(g:GR n a)(i:GR n b)(e:a.ar=b.ar):GR n (unR a b):=by
 obtain⟨j,l⟩:=uV (a.ts++b.ts);refine⟨g.ar1,g.ar3,fun t o=>?_,j⟩;rcases qP.1 ((l t).1 o) with h|h
 .exact g.val t h
 .show 0<=t/\t<powI n a.ar
  rw[e];exact i.val t h
theorem GR.filter{n a}(g:GR n a)(p):GR n ⟨a.ar,a.ts.filter p⟩:=
 ⟨g.ar1,g.ar3,fun t i=>g.val t (jg.1 i).1,qjY p g.srt⟩
end
end E1
namespace E2
open E1
section
variable {a:Int}
theorem wL{n k}(g:0<=k)(i:k<=3):powI n k=n ^ k.toNat:=by
 grind [powI,powN]
theorem wM{n i j}(g:0<=i)(l:0<=j)(h:i+j<=3):powI n (i+j)=powI n i*powI n j:=by
 rw[wL zOm h,wL g zOm,wL l zOm,<-Int.pow_add];congr 1;omega
theorem vP(n):powI n 1=n:=by rw[wL zOm zOm];exact Int.pow_succ n 0 ▸ by simp
theorem qjZ{n}(h:0<=n)(k):0<=powI n k:=Int.pow_nonneg h
theorem J7{u v m}(g:0<=u)(j:u<a)(l:0<=v)(o:v<m):0<=u*m+v/\u*m+v<a*m:=by
 have p:0<=u*m:=Int.mul_nonneg g zOm;have i:(u+1)*m<=a*m:=Int.mul_le_mul_of_nonneg_right zOm zOm;rw[Int.add_mul,Int.one_mul]at i;omega
theorem GR.prod{n}(p:0<=n){a b}(i:GR n a)(g:GR n b)(h:a.ar+b.ar<=3):GR n (prR n a b):=by
 have U:=i.ar1;have b1:=g.ar1;refine⟨by show 1<=a.ar+b.ar;omega,h,fun t o=>?_,?_⟩
 .obtain ⟨s,j,o⟩:=vY.1 o
  obtain⟨u,l,rfl⟩:=qp.1 o;show 0<=s*powI n b.ar+u/\s*powI n b.ar+u<powI n (a.ar+b.ar);rw[wM zOm zOm h];exact J7 (i.val s j).1 (i.val s j).2 (g.val u l).1 (g.val u l).2
 .unfold zp
  show (a.ts.flatMap fun s=>b.ts.map fun t=>s*powI n b.ar+t).Pairwise (·<·);rw[List.pairwise_flatMap];refine⟨fun s j=>?_,?_⟩
  .rw [List.pairwise_map]
   exact List.Pairwise.imp (fun h=>zOm) g.srt
  .refine List.Pairwise.imp_of_mem (fun {s C} j I h x J y P=>?_) i.srt
   obtain⟨u,l,rfl⟩:=qp.1 J;obtain⟨v,R,rfl⟩:=qp.1 P;have e1:=g.val u l;have e2:=g.val v R;have T:(s+1)*powI n b.ar<=C * powI n b.ar:=Int.mul_le_mul_of_nonneg_right zOm (qjZ p _);rw[Int.add_mul,Int.one_mul]at T;omega
theorem GR.ofL{n g l}(i:1<=g)(j:g<=3)(h:∀ t,t∈l->0<=t/\t<powI n g):GR n ⟨g,ofL l⟩:=by
 obtain⟨s1,o⟩:=uV l;exact⟨i,j,fun t p=>h t ((o t).1 p),s1⟩
theorem GR.join{n}(I:0<=n){a b}(g:GR n a)(l:GR n b)(J:1<=a.ar+b.ar-2)(P:a.ar+b.ar-2<=3):GR n (joR n a b):=by
 have a1:=g.ar1;have b1:=l.ar1;have a3:=g.ar3;have b3:=l.ar3;refine GR.ofL J P fun t o=>?_
 obtain⟨s,R,o⟩:=vY.1 o;obtain⟨u,p,rfl⟩:=qp.1 o;have p:=(jg.1 p).1;obtain⟨T,s1⟩:=g.val s R;obtain⟨u0,u1⟩:=l.val u p;have ea:powI n a.ar=powI n (a.ar-1)*n:=by
  have:=wM (n:=n) (i:=a.ar-1) (j:=1) zOm zOm zOm
  grind [vP]
 have eb:powI n b.ar=powI n (b.ar-1)*n:=by
  have:=wM (n:=n) (i:=b.ar-1) (j:=1) zOm zOm zOm
  grind [vP]
 have C:0<n:=by
  rcases Int.lt_or_eq_of_le I with h|h
  .exact h
  .exfalso;rw[<-h]at ea;rw[Int.mul_zero]at ea;grind
 have U:0<powI n (b.ar-1):=Int.pow_pos C;have hd:s / n<powI n (a.ar-1):=Int.ediv_lt_of_lt_mul C zOm;rw[show a.ar+b.ar-2=(a.ar-1)+(b.ar-1) by omega,wM zOm zOm zOm];exact J7 (Int.ediv_nonneg T zOm) hd (Int.emod_nonneg _ zOm) (Int.emod_lt_of_pos _ U)
theorem GR.trans{n}(o:0<=n){a}(p:GR n a)(h:a.ar=2):GR n (trR n a):=by
 have g:powI n 2=n*n:=by
  have:=wM (n:=n) (i:=1) (j:=1) zOm zOm zOm;rw[vP]at this;exact this
 refine GR.ofL zOm zOm fun t C=>?_
 obtain⟨s,I,rfl⟩:=qp.1 C;obtain⟨J,s1⟩:=p.val s I;rw[h,g]at s1;have l:0<n:=by
  rcases Int.lt_or_eq_of_le o with h|h
  .exact h
  .exfalso;rw[<-h,Int.mul_zero]at s1;omega
 rw[g];exact J7 (Int.emod_nonneg _ zOm) (Int.emod_lt_of_pos _ l) (Int.ediv_nonneg J zOm) (Int.ediv_lt_of_lt_mul l s1)
theorem aR{n}(i:0<=n):∀(f){c},GR n c->c.ar=2->GR n (clR n f c)/\(clR n f c).ar=2
 | 0,c,g,h=>⟨g,h⟩
 |f+1,c,g,h=>by
  rw[clR];split
  .exact ⟨g,h⟩
  .have j:=GR.join i g g zOm zOm
   have l:=aG g j (by show c.ar=c.ar+c.ar-2;omega);exact aR i f l h
theorem aW{n a b}(g:GR n a)(i:GR n b)(e:a.ar=b.ar):GR n (ovR n a b):=aG i (g.filter _) (by grind)
theorem GR.iden{n}(g:0<=n):GR n (idR n):=by
 have l:powI n 2=n*n:=by
  have:=wM (n:=n) (i:=1) (j:=1) zOm zOm zOm;rw[vP]at this;exact this
 refine⟨by show (1:Int)<=2;omega,by show (2:Int)<=3;omega,fun t o=>?_,?_⟩
 .obtain ⟨k,p,rfl⟩:=qp.1 o
  rw[zW]at p;show _/\_<powI n 2;rw[l];exact J7 zOm zOm zOm zOm
 .show ((qu n.toNat).map fun x:Nat=>(x:Int)*n+x).Pairwise (·<·)
  rw[List.pairwise_map];refine List.Pairwise.imp (fun {x y} h=>?_) List.pairwise_lt_range;have:=Int.mul_le_mul_of_nonneg_right (a:=(x:Int)) (b:=y) (c:=n) zOm g;omega
theorem GR.nil{n g}(i:1<=g)(j:g<=3):GR n ⟨g,[]⟩:=⟨i,j,fun t l=>absurd l qO,qjX⟩
theorem GR.one{n}(g:0<=a)(i:a<n):GR n ⟨1,[a]⟩:=
 ⟨by grind,by grind,fun t j=>by grind [qX,powI,vP],List.pairwise_singleton _ _⟩
theorem GR.run{n}(m:Nat)(j:0<=a)(l:a+m<=n):GR n ⟨1,(qu m).map fun k:Nat=>a+k⟩:=by
 refine⟨by grind,by grind,fun t g=>?_,?_⟩
 .obtain ⟨k,i,rfl⟩:=qp.1 g
  rw[zW]at i;show _/\_<powI n 1;rw[vP];omega
 .show ((qu m).map fun k:Nat=>a+k).Pairwise (·<·)
  rw[List.pairwise_map];exact List.Pairwise.imp (fun {x y} h=>zOm) List.pairwise_lt_range
theorem GR.sN{n}(g:0<=n)(m:Nat)(C:0<=a)(I:a+m+1<=n):GR n ⟨2,(qu m).map fun k:Nat=>(a+k)*n+(a+k+1)⟩:=by
 have l:powI n 2=n*n:=by
  have:=wM (n:=n) (i:=1) (j:=1) zOm zOm zOm;rw[vP]at this;exact this
 refine⟨by grind,by grind,fun t o=>?_,?_⟩
 .obtain ⟨k,p,rfl⟩:=qp.1 o
  rw[zW]at p;show _/\_<powI n 2;rw[l];exact J7 zOm zOm zOm zOm
 .show ((qu m).map fun k:Nat=>(a+k)*n+(a+k+1)).Pairwise (·<·)
  rw[List.pairwise_map];refine List.Pairwise.imp (fun {x y} h=>?_) List.pairwise_lt_range;have:=Int.mul_le_mul_of_nonneg_right (a:=a+(x:Int)) (b:=a+y) (c:=n) zOm g;omega
end
end E2
namespace E3
open Y1 P1 E1
section
variable {C i:Type}
structure Md where
 sc:Sc
 sK:List (List Rl)
 loop:Int
abbrev cSt(s:List Rl):List AV:=[lRel s]
abbrev lSt(l:List (List Rl)):AV := .lst false (l.map cSt)
abbrev cMd(m:Md):List AV:=[lI m.sc.sC,aI m.sc.sN,lSt m.sK,aI m.loop]
abbrev eMd(m:Md):AV := .agg (cMd m)
abbrev XE(C:Type):=Except Int C
def bX(q:XE C)(g:C->XE i):XE i:=match q with
 | .error e => .error e
 | .ok a=>g a
theorem zr(a)(g:C->XE i):bX (.ok a) g=g a:=rfl
theorem zF(e)(g:C->XE i):bX (.error e) g = .error e:=rfl
def mapX(g:C->XE i):List C->XE (List i)
 | [] => .ok []
 |a :: l=>bX (g a) fun b=>bX (mapX g l) fun r => .ok (b :: r)
structure Pl where
 st:Nat
 env:List (dC×Int)
structure Mo where
 ts:TS
 m:Md
def Mo.n(x:Mo):Int:=sumI x.m.sc.sC
def Mo.nx(x:Mo)(s:Nat):Nat:=if s+1<x.m.sK.length then s+1 else x.m.loop.toNat
def Qn(x:Mo):Nat->Nat->List Nat->List Nat
 | 0,_,g=>g
 |f+1,s,g=>if s∈g then g else Qn x f (x.nx s) (g++[s])
def Mo.path(x:Mo)(s:Nat):List Nat:=Qn x (x.m.sK.length+1) s []
def vQ(nm:dC)(env:List (dC×Int)):Option Int:=env.foldl (fun r e=>if e.1=nm then some e.2 else r) none
def zt(x:Mo)(i:Nat):List Int:=(qu (gI x.m.sc.sC i).toNat).map fun k:Nat=>sumI (x.m.sc.sC.take i)+k
def Qo(x:Mo)(i:Nat):List Int:=(qu ((gI x.m.sc.sC i).toNat-1)).map fun k:Nat=>(sumI (x.m.sc.sC.take i)+k)*x.n+(sumI (x.m.sc.sC.take i)+k+1)
def yU(fs:List Fld)(rs:List Rl)(nm:dC):List Rl:=(fs.zip rs).filterMap fun e=>if e.1.name=nm then some e.2 else none
def yu(x:Mo)(nm:dC):Nat->List (dC×Bool)->List Rl
 |_,[]=>[]
 |i,s :: g=>(if s.1=nm then [⟨1,zt x i⟩] else [])++((if s.2=true/\s.1++yP=nm then [⟨1,(zt x i).take 1⟩] else [])++((if s.2=true/\s.1++jq=nm then [⟨2,Qo x i⟩] else [])++yu x nm (i+1) g))
def J8:List Rl->XE Rl
 | [] => .error 40
 | [r] => .ok r
 |_ => .error 44
def wN(x:Mo)(p:Pl)(nm:dC):XE Rl:=match vQ nm p.env with
 |some a => .ok ⟨1,[a]⟩
 |none=>J8 (yU x.ts.sA (x.m.sK.getD p.st []) nm++yu x nm 0 x.ts.sS)
structure Den where
 E:Pl->XE Rl
 N:Pl->XE Int
 F:Pl->XE Bool
def noD:Den:=⟨fun _ => .error 43,fun _ => .error 43,fun _ => .error 43⟩
def kD(ds:List Den)(i:Nat):Den:=ds.getD i noD
def yv(ds:List Den)(p:Pl):XE (Rl×Rl):=bX ((kD ds 0).E p) fun a=>bX ((kD ds 1).E p) fun b=>if a.ar=b.ar then .ok (a,b) else .error 42
def binE(ds:List Den)(p:Pl):XE Rl:=bX ((kD ds 0).E p) fun a=>if a.ar=2 then .ok a else .error 42
def jS(ds:List Den)(nm:dC)(p:Pl):XE (List (Int×Bool)):=bX ((kD ds 0).E p) fun d=>if d.ar=1 then mapX (fun a=>bX ((kD ds 1).F ⟨p.st,p.env++[(nm,a)]⟩) fun b => .ok (a,b)) d.ts else .error 42
def js(n:Int)(a b:Rl):XE Rl:=if 1<=a.ar+b.ar-2/\a.ar+b.ar-2<=3 then .ok (joR n a b) else .error 42
def jG(n:Int)(a b:Rl):XE Rl:=if a.ar+b.ar<=3 then .ok (prR n a b) else .error 42
def opE(x:Mo)(op:Int)(nm:dC)(i:Int)(ds:List Den)(p:Pl):XE Rl:=
 if op=1 then wN x p nm
 else if op=2 then .ok ⟨i,[]⟩
 else if op=3 then .ok ⟨1,(qu x.n.toNat).map fun k:Nat=>(k:Int)⟩
 else if op=4 then .ok (idR x.n)
 else if op=5 then (kD ds 0).E ⟨x.nx p.st,p.env⟩
 else if op=6 then bX (yv ds p) fun q => .ok (unR q.1 q.2)
 else if op=7 then bX (yv ds p) fun q => .ok (inR q.1 q.2)
 else if op=8 then bX (yv ds p) fun q => .ok (diR q.1 q.2)
 else if op=9 then bX ((kD ds 0).E p) fun a=>bX ((kD ds 1).E p) fun b=>js x.n a b
 else if op=10 then bX ((kD ds 0).E p) fun a=>bX ((kD ds 1).E p) fun b=>jG x.n a b
 else if op=11 then bX (binE ds p) fun a => .ok (trR x.n a)
 else if op=12 then bX (binE ds p) fun a => .ok (clR x.n 200 a)
 else if op=13 then bX (binE ds p) fun a => .ok (unR (clR x.n 200 a) (idR x.n))
 else if op=14 then bX (yv ds p) fun q => .ok (ovR x.n q.1 q.2)
 else if op=15 then bX (jS ds nm p) fun l => .ok ⟨1,(l.filter fun e=>e.2).map fun e=>e.1⟩
 else .error 43
def opN(op i:Int)(ds:List Den)(p:Pl):XE Int:=
 if op=20 then .ok i
 else if op=21 then bX ((kD ds 0).E p) fun a => .ok (a.ts.length:Int)
 else if op=22 then bX ((kD ds 0).N p) fun a=>bX ((kD ds 1).N p) fun b => .ok (qo.wrap (a+b))
 else if op=23 then bX ((kD ds 0).N p) fun a=>bX ((kD ds 1).N p) fun b => .ok (qo.wrap (a-b))
 else .error 43
def untX(g h:Nat->XE Bool):List Nat->Bool->Bool->XE Bool
 | [],done,_ => .ok done
 |s :: l,done,failed=>bX (g s) fun a=>bX (h s) fun b=>untX g h l (done||(b&&!failed)) (failed||!a)
def opF(x:Mo)(op:Int)(nm:dC)(ds:List Den)(p:Pl):XE Bool:=
 if op=30 then .ok true
 else if op=31 then .ok false
 else if op=32 then bX (yv ds p) fun q => .ok (decide ((diR q.1 q.2).ts=[]))
 else if op=33 then bX (yv ds p) fun q => .ok (decide (q.1=q.2))
 else if op=34 then bX ((kD ds 0).E p) fun a => .ok (decide (0<a.ts.length))
 else if op=35 then bX ((kD ds 0).E p) fun a => .ok (decide (a.ts.length=0))
 else if op=36 then bX ((kD ds 0).E p) fun a => .ok (decide (a.ts.length=1))
 else if op=37 then bX ((kD ds 0).E p) fun a => .ok (decide (a.ts.length<=1))
 else if op=38 then bX ((kD ds 0).N p) fun a=>bX ((kD ds 1).N p) fun b => .ok (decide (a=b))
 else if op=39 then bX ((kD ds 0).N p) fun a=>bX ((kD ds 1).N p) fun b => .ok (decide (a<b))
 else if op=40 then bX ((kD ds 0).F p) fun a => .ok (!a)
 else if op=41 then bX ((kD ds 0).F p) fun a=>bX ((kD ds 1).F p) fun b => .ok (a&&b)
 else if op=42 then bX ((kD ds 0).F p) fun a=>bX ((kD ds 1).F p) fun b => .ok (a||b)
 else if op=43 then bX ((kD ds 0).F p) fun a=>bX ((kD ds 1).F p) fun b => .ok (!a||b)
 else if op=44 then bX ((kD ds 0).F p) fun a=>bX ((kD ds 1).F p) fun b => .ok (decide (a=b))
 else if op=45 then bX (jS ds nm p) fun l => .ok (l.all fun e=>e.2)
 else if op=46 then bX (jS ds nm p) fun l => .ok (l.any fun e=>e.2)
 else if op=47 then bX (mapX (fun d:Den=>d.E p) ds) fun _ => .error 45
 else if op=48 then bX (mapX (fun s=>(kD ds 0).F ⟨s,p.env⟩) (x.path p.st)) fun l => .ok (l.all id)
 else if op=49 then bX (mapX (fun s=>(kD ds 0).F ⟨s,p.env⟩) (x.path p.st)) fun l => .ok (l.any id)
 else if op=50 then (kD ds 0).F ⟨x.nx p.st,p.env⟩
 else if op=51 then untX (fun s=>(kD ds 0).F ⟨s,p.env⟩) (fun s=>(kD ds 1).F ⟨s,p.env⟩) (x.path p.st) false false
 else .error 43
def opD(x:Mo)(op:Int)(nm:dC)(i:Int)(ds:List Den):Den:=⟨opE x op nm i ds,opN op i ds,opF x op nm ds⟩
mutual
def den(x:Mo):Nd->Den
 | .mk op nm i ks _=>opD x op nm i (dens x ks)
def dens(x:Mo):List Nd->List Den
 | []=>[]
 |k :: ks=>den x k :: dens x ks
end
end
theorem mh(x):∀ ks,dens x ks=ks.map (den x)
 | []=>rfl
 |k :: ks=>by rw[dens,mh x ks,zf]
theorem vw(x n):den x n=opD x n.op n.name n.n (n.sD.map (den x)):=by
 obtain⟨op,nm,i,ks,p⟩:=n;rw[den,mh];rfl
end E3
namespace E5
open Y1 E3
variable (x:Mo) (p:Pl) (f g d e:Nd) (nm:dC)
end E5
namespace E7
open E3
section
variable {N:Nat}
def it(x:Mo):Nat->Nat->Nat
 | 0,s=>s
 |k+1,s=>it x k (x.nx s)
theorem J9(x):∀ k s,it x (k+1) s=x.nx (it x k s)
 | 0,s=>rfl
 |k+1,s=>by rw[it,J9 x k (x.nx s)];rfl
theorem XD(x j):∀ k s,it x (k+j) s=it x k (it x j s)
 | 0,s=>by rw[yJ];rfl
 |k+1,s=>by rw[Nat.add_right_comm,J9,XD x j k s,J9]
structure OkX (x:Mo) (N:Nat):Prop where
 len:x.m.sK.length=N
 nx:∀ t,t<N->x.nx t<N
theorem Va{x}(h:OkX x N){s}(g:s<N):∀ k,it x k s<N
 | 0=>g
 |k+1=>by rw[J9];exact h.nx _ (Va h g k)
abbrev its(x:Mo)(s r:Nat):List Nat:=(qu r).map fun k=>it x k s
theorem mj(x s r):its x s (r+1)=its x s r++[it x r s]:=by
 unfold its;rw[List.range_succ,zi];rfl
theorem mn{x}(h:OkX x N){s}(l:s<N):∀ f k,N+1<=f+k->(its x s k).Nodup->∃ r,k<=r/\Qn x f (it x k s) (its x s k)=its x s r/\it x r s∈its x s r
 | 0,k,C,j=>by
  exfalso;have:=jl (l₂:=qu N) j fun t I=>by
   obtain⟨i,_,rfl⟩:=qp.1 I;exact zW.2 (Va h l i)
  grind
 |f+1,k,C,j=>by
  rw[Qn];by_cases g:it x k s∈its x s k
  .rw [if_pos g];exact⟨k,qn _,rfl,g⟩
  .rw [if_neg g,<-mj]
   have J:x.nx (it x k s)=it x (k+1) s:=(J9 x k s).symm;rw[J];obtain⟨r,a,b,c⟩:=mn h l f (k+1) zOm (by
    rw[mj,ZE];refine⟨j,zSp,fun a P b p e=>?_⟩;rw[qX]at p;subst p;subst e;exact g P)
   grind
theorem qj0{x}(h:OkX x N){s}(g:s<N):∃ r,x.path s=its x s r/\∀ k,∃ j,j<r/\it x k s=it x j s/\j<=k:=by
 obtain⟨r,_,b,c⟩:=mn h g (N+1) 0 zOm (by simp[its]);refine⟨r,?_,?_⟩
 .unfold Mo.path;rw[h.len];exact b
 .obtain ⟨j,l,e⟩:=qp.1 c
  rw[zW]at l;intro k;induction k using Nat.strongRecOn with
  |_ k o =>
   by_cases p:k<r
   .exact ⟨k,p,rfl,qn _⟩
   .have t:it x k s=it x (k-r+j) s:=by
     have:k=(k-r)+r:=zOm;rw[this,XD,<-e,<-XD];congr 1;omega
    obtain⟨i,C,I,J⟩:=o (k-r+j) zOm;exact⟨i,C,by rw[t,I],zOm⟩
def unt(f g:Nat->Bool):List Nat->Bool->Bool->Bool
 | [],d,_=>d
 |s :: l,d,q=>unt f g l (d||(g s&&!q)) (q||!f s)
end
end E7
end Go.Proofs.YthflbhjlkgdafaaGreatDoor
