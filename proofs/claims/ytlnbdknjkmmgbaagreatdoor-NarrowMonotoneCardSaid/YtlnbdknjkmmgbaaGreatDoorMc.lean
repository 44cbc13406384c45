/-
  Own library, part 3: an abstract reading of values and a calculus over it; contracts of functions; plain lemmas.
-/
import Derived.Test.YtlnbdknjkmmgbaaGreatDoorProg
import Derived.KernelRfl
import Derived.RecoverIn
import Derived.Sort.Grow
import Derived.Shelf.Small.Wraps
import Derived.Shelf.Strconv.Itoa0
import Derived.Shelf.Strconv.Itoa1
import Derived.Shelf.LaysM
import Derived.Shelf.Strconv.Itoa2
import Derived.Shelf.Strconv.Itoa3
import Derived.Shelf.Sort.Plain
import Derived.Shelf.Bits.Mul64
import Derived.Shelf.Slices.Equal
import Derived.Ground.Names2Prog
import Derived.Shelf.Slices.SearchI
import Derived.Shelf.Slices.In.SortNone
import Derived.Test.YtlnbdknjkmmgbaaGreatDoorMb
set_option linter.unusedVariables false
set_option linter.unusedSimpArgs false
set_option maxRecDepth 100000
open Go renaming Program->qb,Oper->wg,Operand->zK,FuncId->zZ,Value->qq,World->qf,undef->uk,TypeId->qd
open Go.Proofs.Tryz renaming prog->qc
open List renaming getElem?_eq_some_iff->qh,mem_map->qn,range->qs,getElem_mem->qt,mem_cons->qy,getElem?_set_self->qz,getElem?_eq_getElem->qB,getElem?_append_left->qG,not_mem_nil->qK,replicate->qM,mem_append->qO,mem_of_getElem?->qQ,mem_singleton->qS,all_eq_true->q8,map_cons->za,drop_eq_getElem_cons->zg,length_append->zh,take_length->zi,map_append->zx,getElem?_map->zB,append_assoc->zG,take_of_length_le->zY,getElem?_append_right->yd,mem_range->ye,append_nil->yg,length_cons->yh,mem_filter->y5,nil_append->jk,nodup_cons->jX,getElem?_take->jY,ext_getElem?->jZ,mem_iff_getElem->vY,mem_flatMap->vZ,foldl_append->ul,getElem?_drop->uO,flatten_cons->uQ,getElem?_eq_none->wH,pairwise_cons->wI,take_append_drop->Z0,nodup_append->Z2,getElem?_range->Jl
open Nat renaming le_refl->qj,zero_add->yM,le_of_ble_eq_true->vX,lt_of_lt_of_le->Zo
open Go.IntKind renaming i64->ql
open Option.some renaming injEq->qo
open Bool renaming and_eq_true->qD
open Array renaming getD_eq_getD_getElem?->qV,getElem?_eq_some_iff->yA,getElem?_eq_getElem->Zq
open Option renaming map_some->zd
open List.Nodup renaming length_le_of_subset->jm
namespace Go.Ev
open Go Go.RowKit
section
variable {g:AV->St->Prop}{ops:Array wg}{pl:Pol}{P:qb}
theorem qF.mono{det I op ev mu K K' Kp J}(h:qF P pl det I op ev mu K Kp)
  (o:∀ v m,K v m->K' v m) (U:∀ v m,Kp v m->J v m):qF P pl det I op ev mu K' J:=by
 cases op<;>simp only[qF]at h⊢<;>try (exact h.elim)
 case move=>exact o _ _ h
 case assign=>exact o _ _ h
 case makeFunc=>exact o _ _ h
 case pick=>grind
 case alloc=>obtain⟨z,j,l,p⟩:=h;exact⟨z,j,l,o _ _ p⟩
 case box =>
  obtain⟨j,l⟩:=h;refine⟨j,?_⟩;split at l
  .grind
  grind
 case build=>obtain⟨t,z,j,l⟩:=h;exact⟨t,z,j,o _ _ l⟩
 case buildSlice=>obtain⟨z,j,l⟩:=h;exact⟨z,j,o _ _ l⟩
 case load=>obtain⟨z,j,l⟩:=h;exact⟨z,j,o _ _ l⟩
 case store=>obtain⟨z,j,l⟩:=h;exact⟨z,j,o _ _ l⟩
 case nilCheck=>obtain⟨z,j,l⟩:=h;exact⟨z,j,o _ _ l⟩
 case binOp =>
  split at h
  .rename_i hy
   simp only[if_pos hy];exact h.mono fun z hz=>o _ _ hz
  .rename_i hy
   simp only[if_neg hy];obtain⟨z,j,l⟩:=h;exact⟨z,j,o _ _ l⟩
 case unOp=>obtain⟨z,j,l⟩:=h;exact⟨z,j,o _ _ l⟩
 case convert=>obtain⟨t,z,j,l⟩:=h;exact⟨t,z,j,o _ _ l⟩
 case makeInterface=>grind
 case makeSlice=>obtain⟨z,j,l⟩:=h;exact⟨z,j,o _ _ l⟩
 case slice=>obtain⟨t,z,j,l⟩:=h;exact⟨t,z,j,o _ _ l⟩
 case fieldAddr=>obtain⟨z,j,l⟩:=h;exact⟨z,j,o _ _ l⟩
 case field=>obtain⟨z,j,l⟩:=h;exact⟨z,j,o _ _ l⟩
 case indexAddr=>obtain⟨z,j,l⟩:=h;exact⟨z,j,o _ _ l⟩
 case index=>obtain⟨z,j,l⟩:=h;exact⟨z,j,o _ _ l⟩
 case extract=>obtain⟨z,j,l⟩:=h;exact⟨z,j,o _ _ l⟩
 case typeAssert=>obtain⟨z,j,l⟩:=h;exact⟨z,j,o _ _ l⟩
 case makeMap=>grind
 case lookup=>obtain⟨z,j,l⟩:=h;exact⟨z,j,o _ _ l⟩
 case mapUpdate=>obtain⟨z,j,l⟩:=h;exact⟨z,j,o _ _ l⟩
 case insert=>obtain⟨z,j,l⟩:=h;exact⟨z,j,o _ _ l⟩
 case mapEntry=>obtain⟨z,j,l⟩:=h;exact⟨z,j,o _ _ l⟩
 case entryStore=>obtain⟨z,j,l⟩:=h;exact⟨z,j,o _ _ l⟩
 case range=>obtain⟨z,j,l⟩:=h;exact⟨z,j,o _ _ l⟩
 case next=>obtain⟨t,a0,b,C,seen,j,l,p,T⟩:=h;exact⟨t,a0,b,C,seen,j,l,fun i e a c=>o _ _ (p i e a c),fun a=>o _ _ (T a)⟩
 case entry=>obtain⟨z,j,l⟩:=h;exact⟨z,j,o _ _ l⟩
 case panic=>grind
 case call c =>
  obtain⟨callee,args,a1⟩:=c;cases callee with
  |invoke r m=>exact h.elim
  |value f =>
   rcases h with ⟨v,j,l⟩|⟨j,⟨g,fi,ca,R,l,p,T,h5⟩|⟨i,R,l,p,T⟩⟩
   .exact .inl ⟨v,j,o _ _ l⟩
   .exact .inr ⟨j,.inl ⟨g,fi,ca,R,l,p,fun r m h=>o _ _ (T r m h),fun r m h=>U _ _ (h5 r m h)⟩⟩
   .exact .inr ⟨j,.inr ⟨i,R,l,p,fun b m h=>o _ _ (T b m h)⟩⟩
  |builtin b =>
   cases b<;>simp only at h⊢<;>try (first | (obtain⟨z,m,j,l⟩:=h;exact⟨z,m,j,o _ _ l⟩) | (obtain⟨z,j,l⟩:=h;exact⟨z,j,o _ _ l⟩))
   obtain⟨s,x,j,h⟩:=h;exact⟨s,x,j,h.mono o⟩
theorem awpS.mono{det Q j p}(C:∀ st,Q st->j st)(i:∀ v st,p v st->g v st) :
  ∀ l st,awpS P pl det ops l Q p st->awpS P pl det ops l j g st:=by
 intro l;induction l with
 |nil=>intro st h;exact C st h
 |cons o l t =>
  intro st ⟨b,I,J,R⟩;exact⟨b,I,fun e=>(J e).mono (fun v m h=>t _ h) (fun v m h=>i _ _ h),fun e=>t _ (R e)⟩
theorem awpT.mono{Q p t}(I:∀ st,Q st->p st)(i:∀ v st,t v st->g v st) :
  ∀ l st,awpT P pl ops Q t l st->awpT P pl ops p g l st:=by
 intro l;induction l with
 |nil=>intro st h;exact I st h
 |cons e l C =>
  obtain⟨j,k,r⟩:=e;intro st h;simp only[awpT]at h⊢;cases J:ops[j]? with
  |none=>grind
  |some o =>
   rw[J]at h;simp only at h⊢;obtain⟨b,R,T,U⟩:=h;exact⟨b,R,fun e=>qF.mono (T e) (fun v m h=>⟨h.1,C _ h.2⟩) (fun v m h=>⟨h.1,fun tm=>i _ _ (h.2 tm)⟩),fun e=>C _ (U e)⟩
theorem awp.mono:∀(c){Q j st},awp P pl c Q st->(∀ e st,Q e st->j e st)->awp P pl c j st:=by
 intro c;induction c with
 |skip=>intro Q j st h g;exact g _ _ h
 |label l=>intro Q j st h g;exact g _ _ h
 |exit i=>intro Q j st h g;exact g _ _ h
 |ret=>intro Q j st h g;exact g _ _ h
 |region id R a3 =>
  intro Q j st h g;rcases h with ⟨o,p⟩|⟨o,p⟩
  .exact .inl ⟨o,awpS.mono (fun st h=>g _ _ h) (fun v st h=>g _ _ h) _ _ p⟩
  .obtain ⟨st1,C,p⟩:=p
   refine .inr ⟨o,st1,C,?_⟩;rcases p with (⟨J,h4⟩|⟨n,J,h4⟩|⟨a0,d,g1,g2,g3,g4,g5⟩)|⟨O,J,a2,h4⟩
   .exact .inl (.inl ⟨J,awpS.mono (fun st h=>g _ _ h) (fun v st h=>g _ _ h) _ _ h4⟩)
   .exact .inl (.inr (.inl ⟨n,J,awpS.mono (fun st h=>awpS.mono (fun st h=>g _ _ h) (fun v st h=>g _ _ h) _ _ h) (fun v st h=>g _ _ h) _ _ h4⟩))
   .exact .inl (.inr (.inr ⟨a0,d,g1,g2,g3,awpS.mono (fun st h=>g _ _ h) (fun v st h=>g _ _ h) _ _ g4,awpS.mono (fun st h=>g _ _ h) (fun v st h=>g _ _ h) _ _ g5⟩))
   .exact .inr ⟨O,J,a2,awpT.mono (fun st h=>g _ _ h) (fun v st h=>g _ _ h) _ _ h4⟩
 |seq a b T U =>
  intro Q j st h g;refine T (Q:=seqQ (awp P pl b Q) Q) h (fun e st h=>?_);cases e with
  |normal=>exact U h g
  |exit i=>exact g _ _ h
  |ret=>exact g _ _ h
  |pan v=>exact g _ _ h
 |cond a4 a b T U=>intro Q j st ⟨t,h0,o,p⟩ g;exact⟨t,h0,fun e=>T (o e) g,fun e=>U (p e) g⟩
 |block id b ih =>
  intro Q j st h g;refine ih (Q:=vI id Q) h (fun e st h=>?_);cases e with
  |normal=>exact g _ _ h
  |exit i =>
   simp only[vI]at h⊢;split at h
   .grind
   grind
  |ret=>exact g _ _ h
  |pan v=>exact g _ _ h
 |loop b ih =>
  intro Q j st ⟨z,I,n,st1,C,h0,o⟩ g;have g:∀ e st,fzQ z Q e st->fzQ z j e st:=fun e st h=>by
   cases z with
   |false=>exact g e st h
   |true=>exact⟨h.choose,h.choose_spec.1,h.choose_spec.2.1,g e _ h.choose_spec.2.2⟩
  refine⟨z,I,n,st1,C,h0,fun n st hI=>ih (Q:=uY I n (fzQ z Q)) (o n st hI) (fun e st h=>?_)⟩;cases e with
  |normal=>exact h
  |exit i=>exact g _ _ h
  |ret=>exact g _ _ h
  |pan v=>exact g _ _ h
 |scope b ih=>intro Q j st h g;exact ih h g
 |rangeFunc f ps a5 b a6 a7 =>
  intro Q j st ⟨z,gf,a1,rows,I,Ix,o,p,J,h6,h7,h8⟩ g;have g:∀ e st,fzQ z Q e st->fzQ z j e st:=fun e st h=>by
   cases z with
   |false=>exact g e st h
   |true=>exact⟨h.choose,h.choose_spec.1,h.choose_spec.2.1,g e _ h.choose_spec.2.2⟩
  exact⟨z,gf,a1,rows,I,Ix,o,p,J,h6,fun mu h=>g _ _ (h7 mu h),fun e mu h=>g _ _ (h8 e mu h)⟩
 |goto l=>intro Q j st h g;exact h.elim
 |refuse w=>intro Q j st h g;exact h.elim
def upQ(I:Nat->St->Prop)(N k:Nat)(Q:qX->St->Prop):qX->St->Prop
 | .normal,U=>k<N/\I (k+1) U
 |e,U=>Q e U
section
variable (Q:qX->St->Prop) (st:St) (I:Nat->St->Prop) (N k:Nat)
@[go_sem ↓] theorem qvN:(upQ I N k Q .normal st=(k<N/\I (k+1) st))/\(∀ i,upQ I N k Q (.exit i) st=Q (.exit i) st)/\(upQ I N k Q .ret st=Q .ret st)/\(∀ v,upQ I N k Q (.pan v) st=Q (.pan v) st):=by and_intros<;>intros<;>exact eqS rfl
end
end
section
variable {x:AV}{K i:AV->Mu->Prop}{g:zZ}{args args' caps xs ys:List AV}{mu:Mu}{P:qb}{st:St}{Q:qX->St->Prop}
theorem qk.up{pl body}(N I)(j:I 0 st)(h:∀ k st,k<=N->I k st->awp P pl body (upQ I N k Q) st):qk P pl body Q st:=by
 refine tW (fun n st=>∃ k,n=N-k/\k<=N/\I k st) N ⟨0,zOm,zOm,j⟩ ?_;rintro n st ⟨k,rfl,l,o⟩;refine awp.mono body (h k st l o) (fun e st g=>?_);cases e with
 |normal=>exact⟨N-(k+1),zW1 g.1,k+1,rfl,g.1,g.2⟩
 |exit i=>exact g
 |ret=>exact g
 |pan v=>exact g
theorem qk.upF{pl body}(N I)(j:I 0 st)(h:∀ k st,k<=N->I k st->awp P pl body (upQ I N k (FzQ Q)) st):qk P pl body Q st:=by
 refine fB (fun n st=>∃ k,n=N-k/\k<=N/\I k st) N ⟨0,zOm,zOm,j⟩ ?_;rintro n st ⟨k,rfl,l,o⟩;refine awp.mono body (h k st l o) (fun e st g=>?_);cases e with
 |normal=>exact⟨N-(k+1),zW1 g.1,k+1,rfl,g.1,g.2⟩
 |exit i=>exact g
 |ret=>exact g
 |pan v=>exact g
theorem qiP(mu):∀ k,cutM (fun i=>!false) mu k=mu:=by
 induction mu with
 |nil=>intro k;rfl
 |cons c l g =>
  grind [cutM]
theorem FzQ.skip{e}(h:Q e st):FzQ Q e st:=by
 refine⟨st,⟨fun _=>false,(qiP _ 0).symm,fun i => .same _⟩,?_,h⟩
 grind
theorem FzQ.one{i d b}(g:Rd (cutM (fun j=>j == b) st.mu 0) (st.tm d) x)(k:Q (.exit i) (st.put (some d) x (cutM (fun j=>!(j == b)) st.mu 0))):FzQ Q (.exit i) st:=by
 refine⟨_,⟨fun j=>j == b,rfl,fun j=>?_⟩,trivial,k⟩;simp only[St.put];split
 .rename_i h;subst h;exact .rd _ _ g
 .exact .same _
theorem tU{det v}(j:qg P g args' v)(l:WKs args args')(k:K v mu) :
  qe P det mu (.fn (.func g) [] []) args K i:=
 .inl ⟨v,.inl ⟨g,[],[],args',rfl,j,.inl (zUs l)⟩,k⟩
theorem fR{det v Q}(j:qg P g args' v)(l:WKs args args')(k:Q)(e:K v mu=Q:=by simp[go_sem];rfl):qe P det mu (.fn (.func g) [] []) args K i:=tU j l (e.mpr k)
theorem qe.clo{det v}(j:qg P g args' v)(l:WKs (args++caps) args')(k:K v mu) :
  qe P det mu (.fn (.func g) [] caps) args K i:=
 .inl ⟨v,.inl ⟨g,[],caps,args',rfl,j,.inl (zUs l)⟩,k⟩
theorem fW{det v}(j:qg P g args' v)(l:Rds mu args args')(hf:FL v)(k:K v mu) :
  qe P det mu (.fn (.func g) [] []) args K i:=
 .inl ⟨v,.inl ⟨g,[],[],args',rfl,j,.inr ⟨zUs l,hf⟩⟩,k⟩
theorem fX{det v}(j:uT P g args' v)(l:Rds mu args args')(k:K v mu) :
  qe P det mu (.fn (.func g) [] []) args K i:=
 .inl ⟨v,.inr ⟨g,[],[],args',rfl,j,zUs l⟩,k⟩
theorem fY{R}(j:qv P g (args++caps) mu R)(k:∀ r m,R (.ret r) m->K r m)(kp:∀ r m,R (.pan r) m->i r m) :
  qe P false mu (.fn (.func g) [] caps) args K i:=
 .inr ⟨rfl,.inl ⟨g,[],caps,R,rfl,zUs j,k,kp⟩⟩
theorem qe.yield{i R g}(h:VS P i args mu R)(k:∀ b m,R b m->K (.sc (.bool b)) m):qe P false mu (.yl i) args K g:=
 .inr ⟨rfl,.inr ⟨i,R,rfl,h,k⟩⟩
theorem vJ.of{f rows}(g:yN P f)
  (h:∀ i I j,(∀ k mu,I k mu->I k (mu++[.dead]))->(∀ mu,j mu->j (mu++[.dead]))->Yld P i rows I j->∀ mu,I 0 mu ->
   qv P f (.yl i :: caps) mu fun e mu'=>∃ r,e = .ret r/\(I rows.length mu'\/j mu')):vJ P f caps rows:=⟨g,h⟩
theorem WKs.nil:WKs [] []:=trivial
theorem WKs.cons{y}(h:WK x y)(t:WKs xs ys):WKs (x :: xs) (y :: ys):=⟨h,t⟩
theorem WKs.zk(h:HF x)(t:WKs xs ys):WKs (x :: xs) (x :: ys):=⟨WK.hf h,t⟩
theorem WKs.zs{v}(t:WKs xs ys):WKs (.sc v :: xs) (.sc v :: ys):=⟨WK.hf (HF.sc _),t⟩
def Own(mu:Mu)(sz:Nat)(av:AV)(xs:List (List AV)):Prop:=
 (av = .lst true xs)\/∃ b,av = .sl b sz 0 xs.length/\mu[b]?=some (.arr xs.flatten)
theorem qw.own{t g e sz bt:Nat}{s xs ys zv}(R:qH P t=some (e,sz,bt))(j:(qH P g).isSome=true)(T:qC P e=some zv)
  (l:zv.cells.length=sz) (o:zv.cells.all AV.one=true) (p:sz≠0) (U:bt<=16384) (ho:Own mu sz s xs) (hx:qA mu x=some ys) (C:qW sz xs) (wy:qW sz ys) (I:xs.length+ys.length<=4294967296)
  (k:∀ av mu',Own mu' sz av (xs++ys)->(∀ i,i<mu.length->(∀ off len,s ≠ .sl i sz off len)->mu'[i]?=mu[i]?)->mu.length<=mu'.length->K av mu'):qw P mu #[t,g] s x K:=by
 refine .inl ?_;refine⟨t,g,e,sz,bt,ys,rfl,R,j,⟨zv,T,l,o⟩,p,U,hx,wy,?_⟩;rcases ho with rfl|⟨b,rfl,hc⟩
 .refine .inl ⟨xs,rfl,C,I,fun h=>?_,fun h=>?_⟩
  .subst h
   exact k _ _ (.inl zSp) (fun _ _ _=>rfl) (qj _)
  .refine k _ _ (.inr ⟨mu.length,zSp,zSp⟩) (fun i J _=>?_) zSp
   rw[qG J]
 .have a0:=ym C.ok
  refine .inr ⟨b,xs.length,xs.flatten,rfl,hc,zOm,I,?_⟩;have a1:xs.flatten.take (xs.length*sz)=xs.flatten:=zY zOm;refine k _ _ (.inr ⟨mu.length,zSp,?_⟩) (fun i J a2=>?_) zSp
  .grind
  grind
theorem Own.rows{sz av xs}(h:Own mu sz av xs)(w:ja sz xs):qA mu av=some xs:=by
 rcases h with rfl|⟨b,rfl,j⟩
 .rfl
 .have l:=ym w
  simp only[qA,j];rw[if_pos zOm];congr 1;apply jZ;intro i;by_cases g:i<xs.length
  .simp only[zB,Jl g,zd,yM]
   rw[qB g];congr 1;have o:=w _ (qt g);rw[<-pP w i,zg g,uQ,List.take_append_of_le_length zOm,zY zOm]
  grind
theorem Own.rd{sz av xs}(h:Own mu sz av xs)(w:ja sz xs)(hf:∀ r,r∈xs->∀ c,c∈r->HF c):Rd mu av (.lst false xs):=by
 rcases h with rfl|⟨b,rfl,l⟩
 .exact .wk _ true _ (.hf _ (HF.lst hf))
 .have o:=ym w
  refine .sl b sz 0 xs.length xs.flatten xs l zOm rfl w (fun k x y i j=>?_);rw[yM,j]at i;cases i;obtain⟨r,p,g⟩:=List.mem_flatten.1 (qQ j);exact .hf _ (hf r p _ g)
end
end Go.Ev
namespace Go.Proofs.YtlnbdknjkmmgbaaGreatDoor
open Go Go.Ev Go.Proofs Tryz
namespace Ty
@[go_sem] theorem sz3:(szOf qc 3=some 1)/\(ze qc 3=some false)/\(qC qc 3=some (.sc (.int .i64 0)))/\(szOf qc 4=some 1)/\(ze qc 4=some false)/\(qC qc 4=some (.sc (.bool false)))/\(WE qc 4=true)/\(qC qc 5=some (.sc (.int .u8 0)))/\(szOf qc 9=some 1)/\(ze qc 9=some false):=by and_intros<;>exact eqS zKr
@[go_sem] theorem ze9:(qC qc 9=some (.sc (.string ⟨#[]⟩)))/\(WH qc 20=true)/\(WI qc 20=true)/\(szOf qc 22=some 1)/\(ze qc 22=some false)/\(qH qc 22=some (65,2,24))/\(szOf qc 23=some 1)/\(ze qc 23=some false)/\(qH qc 23=some (67,3,48))/\(szOf qc 24=some 1):=by and_intros<;>exact eqS zKr
@[go_sem] theorem ag24:(ze qc 24=some false)/\(qH qc 24=some (73,7,104))/\(szOf qc 25=some 1)/\(ze qc 25=some false)/\(qH qc 25=some (75,6,80))/\(szOf qc 27=some 4)/\(ze qc 27=some true)/\(qC qc 27=some (.agg [.lst true [],.lst true [],.lst true [],.lst true []]))/\(yv qc 27=some (plc [(0,1),(1,1),(2,1),(3,1)]))/\(qJ qc 27 0=some (0,22,1)):=by and_intros<;>exact eqS zKr
@[go_sem] theorem fl27_1:(qJ qc 27 1=some (1,23,1))/\(qJ qc 27 2=some (2,24,1))/\(qJ qc 27 3=some (3,25,1))/\(yn qc 27=true)/\(szOf qc 28=some 1)/\(ze qc 28=some false)/\(qC qc 28=some (.lst true []))/\(qH qc 28=some (3,1,8))/\(szOf qc 30=some 2)/\(ze qc 30=some true):=by and_intros<;>exact eqS zKr
@[go_sem] theorem ze30:(qC qc 30=some (.agg [.lst true [],.sc (.int .i64 0)]))/\(yv qc 30=some (plc [(0,1),(1,1)]))/\(qJ qc 30 0=some (0,28,1))/\(qJ qc 30 1=some (1,3,1))/\(yn qc 30=true)/\(szOf qc 31=some 1)/\(ze qc 31=some false)/\(qH qc 31=some (42,4,64))/\(szOf qc 32=some 1)/\(ze qc 32=some false):=by and_intros<;>exact eqS zKr
@[go_sem] theorem ze32:(qC qc 32=some (.lst true []))/\(qH qc 32=some (34,5,64))/\(szOf qc 34=some 5)/\(ze qc 34=some true)/\(qC qc 34=some (.agg [.sc (.int .i64 0),.sc (.string ⟨#[]⟩),.sc (.int .i64 0),.lst true [],.sc (.int .i64 0)]))/\(yv qc 34=some (plc [(0,1),(1,1),(2,1),(3,1),(4,1)]))/\(qJ qc 34 0=some (0,3,1))/\(qJ qc 34 1=some (1,9,1))/\(qJ qc 34 2=some (2,3,1))/\(qJ qc 34 3=some (3,32,1)):=by and_intros<;>exact eqS zKr
@[go_sem] theorem fl34_4:(qJ qc 34 4=some (4,3,1))/\(yn qc 34=true)/\(szOf qc 35=some 1)/\(ze qc 35=some false)/\(qH qc 35=some (85,2,24))/\(szOf qc 40=some 2)/\(ze qc 40=some true)/\(qC qc 40=some (.agg [.sc (.int .i64 0),.lst true []]))/\(yv qc 40=some (plc [(0,1),(1,1)]))/\(qJ qc 40 0=some (0,3,1)):=by and_intros<;>exact eqS zKr
@[go_sem] theorem fl40_1:(qJ qc 40 1=some (1,28,1))/\(yn qc 40=true)/\(szOf qc 42=some 4)/\(ze qc 42=some true)/\(qC qc 42=some (.agg [.sc (.int .i64 0),.lst true [],.sc (.int .i64 0),.lst true []]))/\(yv qc 42=some (plc [(0,2),(2,2)]))/\(qJ qc 42 0=some (0,40,2))/\(qJ qc 42 1=some (2,40,2))/\(yn qc 42=true)/\(szOf qc 43=some 1):=by and_intros<;>exact eqS zKr
@[go_sem] theorem ag43:(ze qc 43=some false)/\(szOf qc 55=some 1)/\(ze qc 55=some false)/\(qH qc 55=some (4,1,1))/\(szOf qc 57=some 1)/\(ze qc 57=some false)/\(qH qc 57=some (62,1,24))/\(szOf qc 59=some 4)/\(ze qc 59=some true)/\(qC qc 59=some (.agg [.lst true [],.sc (.int .i64 0),.lst true [],.sc (.int .i64 0)])):=by and_intros<;>exact eqS zKr
@[go_sem] theorem pl59:(yv qc 59=some (plc [(0,2),(2,1),(3,1)]))/\(qJ qc 59 1=some (2,57,1))/\(yn qc 59=true)/\(szOf qc 62=some 1)/\(ze qc 62=some false)/\(qC qc 62=some (.lst true []))/\(qH qc 62=some (40,2,32))/\(szOf qc 65=some 2)/\(ze qc 65=some true)/\(qC qc 65=some (.agg [.sc (.string ⟨#[]⟩),.sc (.bool false)])):=by and_intros<;>exact eqS zKr
@[go_sem] theorem pl65:(yv qc 65=some (plc [(0,1),(1,1)]))/\(qJ qc 65 0=some (0,9,1))/\(qJ qc 65 1=some (1,4,1))/\(yn qc 65=true)/\(szOf qc 67=some 3)/\(ze qc 67=some true)/\(qC qc 67=some (.agg [.sc (.string ⟨#[]⟩),.lst true [],.sc (.bool false)]))/\(yv qc 67=some (plc [(0,1),(1,1),(2,1)]))/\(qJ qc 67 0=some (0,9,1))/\(qJ qc 67 1=some (1,28,1)):=by and_intros<;>exact eqS zKr
@[go_sem] theorem fl67_2:(qJ qc 67 2=some (2,4,1))/\(yn qc 67=true)/\(szOf qc 73=some 7)/\(ze qc 73=some true)/\(qC qc 73=some (.agg [.sc (.string ⟨#[]⟩),.lst true [],.sc (.int .i64 0),.sc (.string ⟨#[]⟩),.sc (.int .i64 0),.lst true [],.sc (.int .i64 0)]))/\(qJ qc 73 0=some (0,9,1))/\(qJ qc 73 1=some (1,35,1))/\(qJ qc 73 2=some (2,34,5))/\(szOf qc 75=some 6)/\(ze qc 75=some true):=by and_intros<;>exact eqS zKr
@[go_sem] theorem ze75:(qC qc 75=some (.agg [.sc (.string ⟨#[]⟩),.sc (.int .i64 0),.sc (.string ⟨#[]⟩),.sc (.int .i64 0),.lst true [],.sc (.int .i64 0)]))/\(qJ qc 75 0=some (0,9,1))/\(qJ qc 75 1=some (1,34,5))/\(qH qc 77=some (121,2,16))/\(szOf qc 85=some 2)/\(ze qc 85=some true)/\(qC qc 85=some (.agg [.sc (.string ⟨#[]⟩),.sc (.int .i64 0)]))/\(qJ qc 85 0=some (0,9,1))/\(qJ qc 85 1=some (1,3,1))/\(qH qc 86=some (28,1,24)):=by and_intros<;>exact eqS zKr
@[go_sem] theorem sl89:(qH qc 89=some (92,5,80))/\(qJ qc 92 0=some (0,9,1))/\(qJ qc 92 1=some (1,42,4))/\(szOf qc 93=some 1)/\(ze qc 93=some false)/\(qC qc 95=some (.agg [.lst true [],.lst true [],.lst true [],.lst true [],.lst true [],.sc (.int .i64 0),.lst true [],.sc (.int .i64 0),.sc (.bool false)]))/\(yv qc 95=some (plc [(0,4),(4,2),(6,1),(7,1),(8,1)]))/\(qJ qc 95 0=some (0,27,4))/\(qJ qc 95 1=some (4,30,2))/\(qJ qc 95 2=some (6,31,1)):=by and_intros<;>exact eqS zKr
@[go_sem] theorem fl95_3:(qJ qc 95 3=some (7,3,1))/\(qJ qc 95 4=some (8,4,1))/\(yn qc 95=true)/\(qH qc 113=some (115,2,16))/\(qC qc 115=some (.agg [.sc (.int .i64 0),.sc (.int .i64 0)]))/\(qH qc 115=none)/\(Zt qc 115=some (2,3,1))/\(yv qc 115=some (plA 1))/\(yn qc 115=true)/\(szOf qc 121=some 2):=by and_intros<;>exact eqS zKr
@[go_sem] theorem ag121:(ze qc 121=some true)/\(qC qc 121=some (.agg [.sc (.int .i64 0),.sc (.int .i64 0)]))/\(yv qc 121=some (plc [(0,1),(1,1)]))/\(qJ qc 121 0=some (0,43,1))/\(yn qc 121=true)/\(szOf qc 123=some 1)/\(ze qc 123=some false)/\(mapT qc 123=some (134,4))/\(szOf qc 125=some 2)/\(ze qc 125=some true):=by and_intros<;>exact eqS zKr
@[go_sem] theorem ze125:(qC qc 125=some (.agg [.sc (.int .i64 0),.sc (.map none)]))/\(yv qc 125=some (plc [(0,1),(1,1)]))/\(qJ qc 125 0=some (0,3,1))/\(qJ qc 125 1=some (1,123,1))/\(yn qc 125=true)/\(szOf qc 127=some 1)/\(ze qc 127=some false)/\(szOf qc 130=some 1)/\(ze qc 130=some false)/\(Qm qc 130=true):=by and_intros<;>exact eqS zKr
@[go_sem] theorem sz132:(szOf qc 132=some 1)/\(ze qc 132=some false)/\(qC qc 132=some (.sc (.int .i8 0)))/\(szOf qc 134=some 3)/\(ze qc 134=some true)/\(qC qc 134=some (.agg [.sc (.int .i8 0),.sc (.int .i8 0),.sc (.int .i8 0)]))/\(qH qc 134=none)/\(Zt qc 134=some (3,132,1))/\(yv qc 134=some (plA 1))/\(yn qc 134=true):=by and_intros<;>exact eqS zKr
@[go_sem] theorem sl135:(qH qc 135=some (132,1,1))/\(qH qc 154=none)/\(Zt qc 154=some (64,4,1))/\(szOf qc 156=some 65)/\(ze qc 156=some true)/\(qC qc 156=some (.agg [.sc (.int .i64 0),.sc (.bool false),.sc (.bool false),.sc (.bool false),.sc (.bool false),.sc (.bool false),.sc (.bool false),.sc (.bool false),.sc (.bool false),.sc (.bool false),.sc (.bool false),.sc (.bool false),.sc (.bool false),.sc (.bool false),.sc (.bool false),.sc (.bool false),.sc (.bool false),.sc (.bool false),.sc (.bool false),.sc (.bool false),.sc (.bool false),.sc (.bool false),.sc (.bool false),.sc (.bool false),.sc (.bool false),.sc (.bool false),.sc (.bool false),.sc (.bool false),.sc (.bool false),.sc (.bool false),.sc (.bool false),.sc (.bool false),.sc (.bool false),.sc (.bool false),.sc (.bool false),.sc (.bool false),.sc (.bool false),.sc (.bool false),.sc (.bool false),.sc (.bool false),.sc (.bool false),.sc (.bool false),.sc (.bool false),.sc (.bool false),.sc (.bool false),.sc (.bool false),.sc (.bool false),.sc (.bool false),.sc (.bool false),.sc (.bool false),.sc (.bool false),.sc (.bool false),.sc (.bool false),.sc (.bool false),.sc (.bool false),.sc (.bool false),.sc (.bool false),.sc (.bool false),.sc (.bool false),.sc (.bool false),.sc (.bool false),.sc (.bool false),.sc (.bool false),.sc (.bool false),.sc (.bool false)]))/\(yv qc 156=some (plc [(0,1),(1,64)]))/\(qJ qc 156 0=some (0,3,1))/\(qJ qc 156 1=some (1,154,64))/\(yn qc 156=true):=by and_intros<;>exact eqS zKr
@[go_sem] theorem sz161:(szOf qc 161=some 7)/\(ze qc 161=some true)/\(qC qc 161=some (.agg [.lst true [],.lst true [],.lst true [],.lst true [],.lst true [],.sc (.int .i64 0),.sc (.bool false)]))/\(yv qc 161=some (plc [(0,4),(4,1),(5,1),(6,1)]))/\(qJ qc 161 0=some (0,27,4))/\(qJ qc 161 1=some (4,55,1))/\(qJ qc 161 2=some (5,3,1))/\(qJ qc 161 3=some (6,4,1))/\(yn qc 161=true)/\(qH qc 162=some (235,66,88)):=by and_intros<;>exact eqS zKr
@[go_sem] theorem sl169:(qH qc 169=some (32,1,24))/\(szOf qc 171=some 1)/\(ze qc 171=some false)/\(qC qc 171=some (.sc (.pointer none)))/\(szOf qc 172=some 1)/\(ze qc 172=some false)/\(mapT qc 172=some (9,4))/\(qC qc 174=some (.agg [.lst true [],.lst true [],.lst true [],.lst true [],.sc (.map none),.sc (.int .i64 0),.sc (.int .i64 0)]))/\(yv qc 174=some (plc [(0,4),(4,1),(5,1),(6,1)]))/\(qJ qc 174 0=some (0,27,4)):=by and_intros<;>exact eqS zKr
@[go_sem] theorem fl174_1:(qJ qc 174 1=some (4,172,1))/\(qJ qc 174 2=some (5,3,1))/\(qJ qc 174 3=some (6,3,1))/\(yn qc 174=true)/\(mapT qc 179=some (9,248))/\(szOf qc 183=some 0)/\(qC qc 183=some (.agg []))/\(Zy qc 183=true)/\(yv qc 183=some (plc []))/\(yn qc 183=true):=by and_intros<;>exact eqS zKr
@[go_sem] theorem sz197:(szOf qc 197=some 1)/\(ze qc 197=some false)/\(qH qc 197=some (9,1,16))/\(szOf qc 199=some 7)/\(ze qc 199=some true)/\(qC qc 199=some (.agg [.lst true [],.lst true [],.lst true [],.lst true [],.lst true [],.sc (.int .i64 0),.sc (.int .i64 0)]))/\(yv qc 199=some (plc [(0,4),(4,1),(5,1),(6,1)]))/\(qJ qc 199 0=some (0,27,4))/\(qJ qc 199 1=some (4,197,1))/\(qJ qc 199 2=some (5,3,1)):=by and_intros<;>exact eqS zKr
@[go_sem] theorem fl199_3:(qJ qc 199 3=some (6,3,1))/\(yn qc 199=true)/\(szOf qc 204=some 2)/\(qC qc 204=some (.agg [.sc (.int .i64 0),.sc (.int .i64 0)]))/\(Zy qc 204=true)/\(yv qc 204=some (plc [(0,2)]))/\(qJ qc 204 0=some (0,121,2))/\(yn qc 204=true)/\(qC qc 206=some (.agg [.lst true [],.lst true [],.lst true [],.lst true [],.sc (.int .i64 0),.lst true []]))/\(yv qc 206=some (plc [(0,4),(4,1),(5,1)])):=by and_intros<;>exact eqS zKr
@[go_sem] theorem fl206_0:(qJ qc 206 0=some (0,27,4))/\(qJ qc 206 1=some (4,3,1))/\(qJ qc 206 2=some (5,55,1))/\(yn qc 206=true)/\(qC qc 210=some (.agg [.sc (.string ⟨#[]⟩),.sc (.int .i64 0),.sc (.map none),.sc (.pointer none)]))/\(yv qc 210=some (plc [(0,1),(1,2),(3,1)]))/\(qJ qc 210 0=some (0,9,1))/\(qJ qc 210 1=some (1,125,2))/\(qJ qc 210 2=some (3,130,1))/\(yn qc 210=true):=by and_intros<;>exact eqS zKr
@[go_sem] theorem sl211:(qH qc 211=some (125,2,16))/\(szOf qc 218=some 1)/\(ze qc 218=some false)/\(szOf qc 221=some 1)/\(ze qc 221=some false)/\(qC qc 221=some (.sc (.map none)))/\(mapT qc 221=some (3,3))/\(mapT qc 226=some (3,4))/\(qH qc 229=some (156,65,72))/\(qC qc 235=some (.agg [.sc (.string ⟨#[]⟩),.sc (.int .i64 0),.sc (.bool false),.sc (.bool false),.sc (.bool false),.sc (.bool false),.sc (.bool false),.sc (.bool false),.sc (.bool false),.sc (.bool false),.sc (.bool false),.sc (.bool false),.sc (.bool false),.sc (.bool false),.sc (.bool false),.sc (.bool false),.sc (.bool false),.sc (.bool false),.sc (.bool false),.sc (.bool false),.sc (.bool false),.sc (.bool false),.sc (.bool false),.sc (.bool false),.sc (.bool false),.sc (.bool false),.sc (.bool false),.sc (.bool false),.sc (.bool false),.sc (.bool false),.sc (.bool false),.sc (.bool false),.sc (.bool false),.sc (.bool false),.sc (.bool false),.sc (.bool false),.sc (.bool false),.sc (.bool false),.sc (.bool false),.sc (.bool false),.sc (.bool false),.sc (.bool false),.sc (.bool false),.sc (.bool false),.sc (.bool false),.sc (.bool false),.sc (.bool false),.sc (.bool false),.sc (.bool false),.sc (.bool false),.sc (.bool false),.sc (.bool false),.sc (.bool false),.sc (.bool false),.sc (.bool false),.sc (.bool false),.sc (.bool false),.sc (.bool false),.sc (.bool false),.sc (.bool false),.sc (.bool false),.sc (.bool false),.sc (.bool false),.sc (.bool false),.sc (.bool false),.sc (.bool false)])):=by and_intros<;>exact eqS zKr
@[go_sem] theorem pl235:(yv qc 235=some (plc [(0,1),(1,65)]))/\(qJ qc 235 0=some (0,9,1))/\(qJ qc 235 1=some (1,156,65))/\(yn qc 235=true)/\(szOf qc 246=some 1)/\(ze qc 246=some false)/\(Qm qc 246=true)/\(szOf qc 248=some 3)/\(ze qc 248=some true)/\(qC qc 248=some (.agg [.sc (.pointer none),.sc (.int .i64 0),.sc (.string ⟨#[]⟩)])):=by and_intros<;>exact eqS zKr
@[go_sem] theorem pl248:(yv qc 248=some (plc [(0,1),(1,1),(2,1)]))/\(qJ qc 248 0=some (0,246,1))/\(qJ qc 248 1=some (1,3,1))/\(qJ qc 248 2=some (2,9,1))/\(yn qc 248=true)/\(qH qc 254=some (261,9,112))/\(qC qc 261=some (.agg [.sc (.string ⟨#[]⟩),.sc (.string ⟨#[]⟩),.sc (.bool false),.sc (.int .i64 0),.sc (.string ⟨#[]⟩),.sc (.int .i64 0),.lst true [],.sc (.int .i64 0),.sc (.int .i64 0)]))/\(yv qc 261=some (plc [(0,1),(1,1),(2,1),(3,5),(8,1)]))/\(qJ qc 261 0=some (0,9,1))/\(qJ qc 261 1=some (1,9,1)):=by and_intros<;>exact eqS zKr
@[go_sem] theorem fl261_2:(qJ qc 261 2=some (2,4,1))/\(qJ qc 261 3=some (3,34,5))/\(qJ qc 261 4=some (8,3,1))/\(yn qc 261=true)/\(szOf qc 284=some 1)/\(ze qc 284=some false)/\(qC qc 284=some (.sc (.map none)))/\(mapT qc 284=some (3,28))/\(qH qc 310=some (5,1,1)):=by and_intros<;>exact eqS zKr
end Ty
end Go.Proofs.YtlnbdknjkmmgbaaGreatDoor
namespace Go.Ev
open Go Go.RowKit
section
variable {R:AEnd->Mu->Prop}{f:zZ}{args:List AV}{mu:Mu}{P:qb}
def JE(mu:Mu)(give:Nat->Bool):List AV->List AV->Prop
 | [],[]=>True
 |x :: p,y :: l=>(x=y\/Rd (cutM give mu 0) x y)/\JE mu give p l
 |_,_=>False
theorem JE.get{give}:∀{xs ys},JE mu give xs ys->ys.length=xs.length/\∀(k:Nat) x y,xs[k]?=some x->ys[k]?=some y->x=y\/Rd (cutM give mu 0) x y
 | [],[],_=>⟨rfl,zSp⟩
 |x :: xs,y :: ys,⟨h,t⟩=>by
  obtain⟨j,l⟩:=JE.get t;refine⟨zP1 j,fun k a b g i=>?_⟩;cases k with
  |zero=>simp at g i;subst g;subst i;exact h
  |succ k=>exact l k a b (zUs g) (zUs i)
 | [],_ :: _,h=>h.elim
 |_ :: _,[],h=>h.elim
theorem qv.freeze{args1}(give)(j:JE mu give args args1)(h:qv P f args1 (cutM (fun i=>!give i) mu 0) R):qv P f args mu R:=by
 obtain⟨g,h⟩:=h;obtain⟨I,j⟩:=j.get;refine⟨g,fun G w p s t=>?_⟩;have l:zV (frz G give mu) w.heap args1 p:=by
  refine⟨by rw[I];exact t.1,fun k y J=>?_⟩;have T:k<args.length:=by grind
  have C:args[k]?=some args[k]:=qB T;have rv:=t.2 k _ C;rcases j k _ y C J with e|r
  .rw [<-e];exact rv.mono (wM s give).le (Ext.refl _ _)
  grind [VO]
 refine(h (frz G give mu) w p (WO s give) l).mono fun e w' ⟨G',o,U,hR⟩=>⟨G',o,(wM s give).trans s U,hR⟩
theorem fH(h:qv P f args mu fun e m=>R e m\/∃(g:Nat->Bool) (x y:AV),e = .ret x/\Gv m g x y/\R (.ret y) (cutM (fun i=>!g i) m 0)):qv P f args mu R:=by
 obtain⟨l,h⟩:=h;refine⟨l,fun G w C s I=>(h G w C s I).mono fun e w' ⟨J,o,U,j⟩=>?_⟩;rcases j with ⟨r,v,j,p,t⟩|⟨r,v,j,p,t⟩
 .rcases j with j|⟨g,x,y,T,hg,j⟩
  .grind
  .cases T
   exact⟨frz J g o,_,U.trans s (wM U.sim g),.inl ⟨y,v,j,p,hg.sound U.sim t⟩⟩
 grind
theorem qg.toSound{args' v}(mu)(h:qg P f args' v)(p:WKs args args'):qv P f args mu fun e m=>e = .ret v/\m=mu:=by
 refine⟨h.1,fun G w vs s t=>?_⟩;have C:VRel G w.heap (.fn (.func f) [] []) (.func (.func f) #[] #[]) := .fn _ _ _ _ _ rfl rfl (fun k x i=>by simp at i) (fun k x i=>by simp at i);obtain⟨g,first,l,e,_,o⟩:=gG s C t (.inl ⟨f,[],[],args',rfl,h,.inl (zUs p)⟩);injection e with j I J;injection j with j;subst j;subst I;subst J;simp at o;refine o.mono fun e w' ⟨R,u,T,U,hv⟩=>⟨R,mu,U,.inl ⟨v,u,⟨rfl,rfl⟩,T,hv⟩⟩
end
end Go.Ev
namespace Go.Ev
open Go
section
variable {av s x:AV}{K:AV->Mu->Prop}{xs ys:List (List AV)}{mu:Mu}{bt e i lo t:Nat}{P:qb}{st:St}{Q:qX->St->Prop}
abbrev rI(n:Int):List AV:=[.sc (.int .i64 n)]
abbrev lI(xs:List Int):AV := .lst false (xs.map rI)
abbrev rL(xs:List Int):List AV:=[lI xs]
abbrev lL(xs:List (List Int)):AV := .lst false (xs.map rL)
structure Rl where
 ar:Int
 ts:List Int
 deriving DecidableEq
structure Sc where
 sC:List Int
 sN:Int
structure Fld where
 name:tZ
 sS:List Int
 var:Bool
structure Sp where
 sS:List (tZ×Bool)
 sA:List Fld
 sT:List (List AV)
 sP:List (List AV)
 hp:HF (.lst false sT)
 hf:HF (.lst false sP)
structure Bd where
 lo:Rl
 up:Rl
 deriving DecidableEq
abbrev cRel(r:Rl):List AV:=[aI r.ar,lI r.ts]
abbrev eRel(r:Rl):AV := .agg (cRel r)
abbrev lRel(g:List Rl):AV := .lst false (g.map cRel)
abbrev eSc(s:Sc):AV := .agg [lI s.sC,aI s.sN]
abbrev JF(s:tZ×Bool):List AV:=[.sc (.string s.1),aB s.2]
abbrev jo(f:Fld):List AV:=[.sc (.string f.name),lI f.sS,aB f.var]
abbrev Xq(f:Fld):AV := .agg (jo f)
abbrev eSp(s:Sp):AV := .agg [.lst false (s.sS.map JF),.lst false (s.sA.map jo),.lst false s.sT,.lst false s.sP]
abbrev cBd(b:Bd):List AV:=[aI b.lo.ar,lI b.lo.ts,aI b.up.ar,lI b.up.ts]
abbrev lBd(b:List Bd):AV := .lst false (b.map cBd)
theorem zC(xs):HF (lI xs):=HF.lst fun r g c i=>by
 obtain⟨n,_,rfl⟩:=qn.1 g
 grind [HF.sc]
theorem Ua(r):∀ c,c∈cRel r->HF c:=by
 intro c g;simp at g;rcases g with rfl|rfl
 .exact HF.sc _
 .exact zC _
theorem qx(r):HF (eRel r):=HF.agg (Ua r)
theorem qiQ(g):HF (lRel g):=HF.lst fun r i c j=>by
 obtain⟨n,_,rfl⟩:=qn.1 i;exact Ua n c j
theorem zD(s):HF (eSc s):=HF.agg fun c g=>by
 simp at g;rcases g with rfl|rfl
 .exact zC _
 .exact HF.sc _
theorem Xr(f):∀ c,c∈jo f->HF c:=by
 intro c g;simp at g;rcases g with rfl|rfl|rfl
 .exact HF.sc _
 .exact zC _
 .exact HF.sc _
theorem nF(f):HF (Xq f):=HF.agg (Xr f)
theorem jd(b):HF (lBd b):=HF.lst fun r i c g=>by
 obtain⟨n,_,rfl⟩:=qn.1 i;simp at g;rcases g with rfl|rfl|rfl|rfl
 .exact HF.sc _
 .exact zC _
 .exact HF.sc _
 .exact zC _
@[go_sem] theorem ieq:(∀(a b:Int),(a == b)=decide (a=b))/\(∀(a b:Int),(a != b)=!decide (a=b)):=by and_intros<;>intros<;>exact eqS rfl
@[go_sem] theorem natEq(a b:Nat):((a:Int)=(b:Int))=(a=b):=propext ⟨Int.ofNat_inj.1,fun h=>by rw[h]⟩
inductive Tag (p:St->Prop):Type where
 |mk:Tag p
def Keep(p:St->Prop)(_:Tag p)(st:St):Prop:=p st
theorem Keep.loop{p:Nat->St->Prop}{n}(m)(g:m<n)(h:p m st):∃ m,m<n/\Keep (p m) .mk st:=⟨m,g,h⟩
theorem tV{pl body}(I:Nat->St->Prop)(n)(h:I n st)(k:∀ n st,I n st->awp P pl body (uY (fun n=>Keep (I n) .mk) n Q) st):qk P pl body Q st := tW (fun n=>Keep (I n) .mk) n h k
theorem je(xs:List Int):qW 1 (xs.map rI):=fun r g=>by
 obtain⟨n,_,rfl⟩:=qn.1 g;exact⟨rfl,rfl⟩
theorem qiR(xs:List (List Int)):qW 1 (xs.map rL):=fun r g=>by
 obtain⟨n,_,rfl⟩:=qn.1 g;exact⟨rfl,rfl⟩
theorem u3(xs:List Rl):qW 2 (xs.map cRel):=fun r g=>by
 obtain⟨n,_,rfl⟩:=qn.1 g;exact⟨rfl,rfl⟩
def OwnF(lo:Nat)(mu:Mu)(sz:Nat)(av:AV)(xs:List (List AV)):Prop:=Own mu sz av xs/\(∀ b s o l,av = .sl b s o l->lo<=b)/\lo<=mu.length
theorem OwnF.one{sz}(h:OwnF lo mu sz av xs):av.one=true:=by
 rcases h.1 with rfl|⟨b,rfl,_⟩<;>rfl
theorem OwnF.cells{sz}(h:OwnF lo mu sz av xs):av.cells=[av]:=by
 rcases h.1 with rfl|⟨b,rfl,_⟩<;>rfl
theorem OwnF.nil{sz}(h:lo<=mu.length):OwnF lo mu sz (.lst true []) []:=⟨.inl rfl,fun _ _ _ _ e=>by simp at e,h⟩
theorem OwnF.lit{sz}(xs)(h:lo<=mu.length):OwnF lo mu sz (.lst true xs) xs:=⟨.inl rfl,fun _ _ _ _ e=>by simp at e,h⟩
theorem OwnF.set{sz c}(h:OwnF lo mu sz av xs)(o:i<lo):OwnF lo (mu.set i c) sz av xs:=by
 obtain⟨j,g,l⟩:=h;refine⟨?_,g,zUs l⟩;rcases j with rfl|⟨b,rfl,p⟩
 .exact .inl rfl
 .have:=g _ _ _ _ rfl
  exact .inr ⟨b,rfl,by grind⟩
theorem jB.ownF{g sz:Nat}{zv}(hs:qH P t=some (e,sz,bt))(j:(qH P g).isSome=true)(hz:qC P e=some zv)
  (p:zv.cells.length=sz) (C:zv.cells.all AV.one=true) (I:sz≠0) (hb:bt<=16384) (J:OwnF lo mu sz s xs) (hx:qA mu x=some ys) (U:qW sz xs) (wy:qW sz ys) (hl:xs.length+ys.length<=4294967296)
  (k:∀ av mu',OwnF lo mu' sz av (xs++ys)->(∀ i,i<lo->mu'[i]?=mu[i]?)->K av mu'):jB P mu #[t,g] s x K:=by
 obtain⟨J,R,T⟩:=J;refine⟨t,g,e,sz,bt,ys,rfl,hs,j,⟨zv,hz,p,C⟩,I,hb,hx,wy,?_⟩;rcases J with rfl|⟨b,rfl,hc⟩
 .refine .inl ⟨xs,rfl,U,hl,fun h=>?_,fun h=>?_⟩
  .subst h
   exact k _ _ ⟨.inl zSp,fun _ _ _ _ e=>by simp at e,T⟩ (fun _ _=>rfl)
  .refine k _ _ ⟨.inr ⟨mu.length,zSp,zSp⟩,fun b s o l e=>?_,zSo⟩ (fun i hi=>?_)
   .grind
   grind
 .have a0:=ym U.ok
  have a1:=R _ _ _ _ rfl;refine .inr ⟨b,xs.length,xs.flatten,rfl,hc,zOm,hl,?_⟩;have a2:xs.flatten.take (xs.length*sz)=xs.flatten:=zY zOm;refine k _ _ ⟨.inr ⟨mu.length,zSp,?_⟩,fun b s o l e=>?_,zSo⟩ (fun i hi=>?_)
  .grind
  .grind
  grind
theorem qw.ownF{p sz:Nat}{zv}(C:qH P t=some (e,sz,bt))(g:(qH P p).isSome=true)(I:qC P e=some zv)
  (j:zv.cells.length=sz) (l:zv.cells.all AV.one=true) (o:sz≠0) (J:bt<=16384) (R:OwnF lo mu sz s xs) (T:qA mu x=some ys) (U:qW sz xs) (wy:qW sz ys) (hl:xs.length+ys.length<=4294967296)
  (k:∀ av mu',OwnF lo mu' sz av (xs++ys)->(∀ i,i<lo->mu'[i]?=mu[i]?)->K av mu'):qw P mu #[t,p] s x K:=
 .inl (jB.ownF C g I j l o J R T U wy hl k)
theorem qw.ints{j:Nat}{xs ys:List Int}{z}(l:qH P t=some (e,1,bt))(g:(qH P j).isSome=true)(o:qC P e=some (aI z))
  (p:bt<=16384) (C:OwnF lo mu 1 s (xs.map rI)) (I:qA mu x=some (ys.map rI)) (J:xs.length+ys.length<=4294967296)
  (k:∀ av mu',OwnF lo mu' 1 av ((xs++ys).map rI)->(∀ i,i<lo->mu'[i]?=mu[i]?)->K av mu'):qw P mu #[t,j] s x K:=
 qw.ownF l g o rfl rfl zOm p C I (je _) (je _) (zUs J) (fun av mu' R T=>k av mu' (by rw[zx];exact R) T)
theorem qiS{low g mu':Mu}(j:low.length=lo)(l:lo<=mu'.length)(h:∀ i,i<lo->mu'[i]?=(low++g)[i]?):mu'=low++mu'.drop lo:=by
 have:mu'.take lo=low:=by
  apply jZ;intro i;by_cases o:i<lo
  .grind
  grind
 rw[<-this,Z0]
theorem fU{low g}{l:Nat}{xs ys:List Int}{z}(p:qH P t=some (e,1,bt))(j:(qH P l).isSome=true)(C:qC P e=some (aI z))
  (I:bt<=16384) (J:OwnF low.length (low++g) 1 s (xs.map rI)) (R:qA (low++g) x=some (ys.map rI)) (T:xs.length+ys.length<=4294967296)
  (k:∀ av i,OwnF low.length (low++i) 1 av ((xs++ys).map rI)->K av (low++i)):qw P (low++g) #[t,l] s x K:=
 qw.ints p j C I J R T fun av o U h2=>by
  have:=qiS rfl U.2.2 h2
  grind
theorem OwnF.low{low low' g sz}(h:OwnF low.length (low++g) sz av xs)(j:low'.length=low.length):OwnF low'.length (low'++g) sz av xs:=by
 obtain⟨l,i,_⟩:=h;refine⟨?_,by rw[j];exact i,zSp⟩;rcases l with rfl|⟨b,rfl,o⟩
 .exact .inl rfl
 .have:=i _ _ _ _ rfl
  refine .inr ⟨b,rfl,?_⟩
  grind
theorem OwnF.rdI{xs}(h:OwnF lo mu 1 av (xs.map rI)):Rd mu av (lI xs):=
 h.1.rd (je xs).ok fun r g c i=>by
  obtain⟨n,_,rfl⟩:=qn.1 g
  grind [HF.sc]
theorem Rd.rel{r}(h:Rd mu av (lI r.ts)):Rd mu (.agg [aI r.ar,av]) (eRel r):=by
 refine .agg _ _ rfl (fun k x y g i=>?_)
 match k with
 | 0=>simp at g i;subst g;subst i;exact .zsc _
 | 1=>grind
 |k+2=>simp at g
theorem nG(b mu):(cutM (fun j=>j == b) mu 0)[b]?=mu[b]?:=by
 grind [j5]
theorem Ub{b}(h:i≠b)(mu):(cutM (fun j=>!(j == b)) mu 0)[i]?=mu[i]?:=by
 grind [j5]
theorem FzQ.own{d sz}(l:st.tm d=av)(g:OwnF lo st.mu sz av xs)(wf:qW sz xs)(hf:∀ r,r∈xs->∀ c,c∈r->HF c)
  (k:∀ mu' full,mu'.length=st.mu.length->(∀ j,j<lo->mu'[j]?=st.mu[j]?)->Q (.exit i) (st.put (some d) (.lst full xs) mu')):FzQ Q (.exit i) st:=by
 rcases g.1 with h|⟨b,h,o⟩
 .refine FzQ.one (b:=st.mu.length) (d:=d) (x := .lst true xs) ?_ (k _ _ (jC _ _ _) fun j p=>Ub (zW1 g.2.2) _)
  rw[l,h];exact .hf _ (HF.lst hf)
 .refine FzQ.one (b:=b) (d:=d) (x := .lst false xs) ?_ (k _ _ (jC _ _ _) fun j p=>Ub (zW1 (g.2.1 _ _ _ _ h)) _)
  rw[l];exact Own.rd (.inr ⟨b,h,by rw[nG];exact o⟩) wf.ok hf
def allN(p:Nat->Bool):Nat->Bool
 | 0=>true
 |n+1=>allN p n&&p n
theorem Uc{p n}:allN p n=true↔∀ i,i<n->p i=true:=by
 induction n with
 |zero=>simp[allN]
 |succ n l =>
  simp only[allN,qD,l];refine⟨fun h i g=>?_,fun h=>⟨fun i g=>h i zOm,h n zOm⟩⟩;rcases Nat.lt_succ_iff_lt_or_eq.1 g with j|j
  .exact h.1 i j
  grind
theorem qiT{p n k}(g:k<n)(h:p k=false):allN p n=false:=by
 rw[<-Bool.not_eq_true,Uc]
 grind
def gI(xs:List Int)(i:Nat):Int:=(xs[i]?).getD 0
theorem j9{xs}(h):gI xs i=xs[i]:=by simp[gI,h]
def sumI(xs:List Int):Int:=xs.foldr (·+·) 0
theorem qiU(a b):sumI (a++b)=sumI a+sumI b:=by
 induction a with
 |nil=>simp[sumI]
 |cons x a g=>grind [sumI]
theorem Qr(l:List Int)(k h):sumI (l.take (k+1))=sumI (l.take k)+l[k]:=by
 rw[List.take_add_one,qB h,qiU];simp[sumI]
theorem qiV(l m)(h:∀ a,a∈l->0<=a/\a<=m):0<=sumI l/\sumI l<=m*l.length:=by
 induction l with
 |nil=>simp[sumI]
 |cons x l g =>
  have j:=h x zSp;have o:=g (fun a i=>h a (zP1 i));simp only[sumI,List.foldr_cons,yh]at *
  grind
def GSc(s:Sc):Prop:=s.sC.length<=4/\∀ a,a∈s.sC->0<=a/\a<=5
theorem GSc.sum{s}(h:GSc s)(k):0<=sumI (s.sC.take k)/\sumI (s.sC.take k)<=20:=by
 have:=qiV (s.sC.take k) 5 (fun a g=>h.2 a (List.mem_of_mem_take g));have i:=h.1
 grind
end
end Go.Ev
namespace Go.Ev
open Go Go.RowKit
section
variable {es fs:List (AV×AV)}
theorem fV{J}{es i:List J}(t:es.Nodup)(C:i.Nodup)(h:∀ x,x∈i↔x∈es):∃ σ I,PIx σ I es i:=by
 have l:i.length=es.length:=((List.perm_ext_iff_of_nodup C t).2 h).length_eq;have f:∀ k,∃ j,k<es.length->j<es.length/\i[j]?=es[k]?:=by
  intro k;by_cases o:k<es.length
  .obtain ⟨j,p⟩:=List.mem_iff_getElem?.1 ((h es[k]).2 zSp)
   grind
  .exact ⟨0,fun h=>absurd h o⟩
 have g:∀ j,∃ k,j<es.length->k<es.length/\es[k]?=i[j]?:=by
  intro j;by_cases p:j<es.length
  .have P:j<i.length:=by omega
   obtain⟨k,o⟩:=List.mem_iff_getElem?.1 ((h i[j]).1 zSp)
   grind
  .exact ⟨0,fun h=>absurd h p⟩
 refine⟨fun k=>Classical.choose (f k),fun k=>Classical.choose (g k),l,fun k o=>?_⟩
 grind [Classical.choose_spec,Classical.choose,List.getElem?_inj]
theorem Ud(h:(es.map Prod.fst).Nodup):es.Nodup:=(List.pairwise_map.1 h).imp (fun g e=>g (by rw[e]))
theorem fJ{mu b}(l:mu[b]?=some (.mp es))(o:(es.map Prod.fst).Nodup)(j:(fs.map Prod.fst).Nodup)(p:∀ x,x∈es↔x∈fs)(hf:∀ x,x∈es->HF x.1/\HF x.2):Rd mu (.mp b) (.ims fs):=by
 obtain⟨t,C,I⟩:=fV (Ud j) (Ud o) p;refine .ims _ fs es t C I j (.mp b es es l rfl (fun k x y g i=>?_) (fun k x y g i=>?_))
 .rw [g]at i;cases i;exact .hf _ (hf x (qQ g)).1
 .rw [g]at i;cases i;exact .hf _ (hf x (qQ g)).2
theorem Rd.mds{mu b}(l:mu[b]?=some (.md es))(o:(es.map Prod.fst).Nodup)(j:(fs.map Prod.fst).Nodup)(p:∀ x,x∈es↔x∈fs)(hf:∀ x,x∈es->HF x.1/\HF x.2):Rd mu (.mp b) (.ims fs):=by
 obtain⟨t,C,I⟩:=fV (Ud j) (Ud o) p;refine .ims _ fs es t C I j (.md b es es l rfl (fun k x y g i=>?_) (fun k x y g i=>?_))
 .rw [g]at i;cases i;exact .hf _ (hf x (qQ g)).1
 .rw [g]at i;cases i;exact .hf _ (hf x (qQ g)).2
end
end Go.Ev
namespace Go.Ev
open Go Go.RowKit
section
variable {R:AEnd->Mu->Prop}{args:List AV}{pl:Pol}{P:qb}
def MRel(G:Gh)(h:Array Obj):Option AV->FrameMode->Prop
 |none,u=>u = .returning
 |some x,u=>∃ v,u = .panicking [{ v,recovered:=false }]/\VRel G h x v
def yG(P:qb)(g:zZ)(args:List AV)(mu:Mu)(m:Option AV)(R:Mu->Prop):Prop:=yN P g /\
 ∀(G:Gh)(w:qf)(i:Array qq)(u:FrameMode),Sim G mu w.heap->zV G w.heap args i->MRel G w.heap m u ->
  CallsDIn Fence.wide 0 P g i u w fun e j l=>∃ v p o,e = .returned v/\settle j = .returning/\Stp G mu w p o l/\R o
def Ue(P:qb)(j:List ResultVar)(g:zZ)(i:List AV)(R:AEnd->Mu->Prop):qX->St->Prop
 | .normal,U | .ret,U=>yG P g i U.mu none fun o=>OptK (jR P ⟨U.tm,o⟩ j) fun r=>R (.ret r) o
 | .pan v,U=>yG P g i U.mu (some v) fun o=>OptK (jR P ⟨U.tm,o⟩ j) fun r=>R (.ret r) o
 | .exit _,_=>False
def ZB(ops:Array wg):Option (List wg×wg):=
 match ops.toList.reverse with
 |o :: r=>match o.op,o.guard,o.dst with | .defer _,none,none=>some (r.reverse,o)|_,_,_=>none
 | []=>none
theorem qiW{ops pre o}(h:ZB ops=some (pre,o)):ops.toList=pre++[o]/\o.guard=none/\o.dst=none:=by
 unfold ZB at h;split at h
 .rename_i l r g
  split at h
  .rename_i c p i j
   simp only[qo,Prod.mk.injEq]at h;obtain⟨rfl,rfl⟩:=h;refine⟨?_,i,j⟩;have:=congrArg List.reverse g
   grind
  grind
 grind
def ZC(P:qb)(pl:Pol)(t:List ResultVar)(R:AEnd->Mu->Prop)(o:wg)(l:Code)(st:St):Prop:=
 ∃ x args p g first i,o.op = .defer { callee := .value x,args,argTypes:=p }/\st.ev x = .fn (.func g) first i/\yN P g/\awp P pl l (Ue P t g (first++evs st.ev args.toList++i) R) st
def awpD(P:qb)(pl:Pol)(j:List ResultVar)(R:AEnd->Mu->Prop):Code->St->Prop
 | .seq (.region _ g false) i,U=>match ZB g with
  |some (pre,o)=>awpS P pl false g pre (fun U=>ZC P pl j R o i U) (fun v U=>R (.pan v) U.mu) U
  |none=>awpS P pl false g g.toList (fun U=>awpD P pl j R i U) (fun v U=>R (.pan v) U.mu) U
 |_,_=>False
def Ro.bare:Ro:=⟨none,[],false,[]⟩
theorem Rel.bare{i g j n G st a w}(r:Rel Ro.bare i g j n G st a w):a.defers=[]:=by
 obtain⟨l,⟨o,p⟩,_⟩:=r.df rfl;have:l=[]:=p rfl;subst this;simpa[Ro.bare] using o
def REnd(G : Gh)(mu : Mu)(w : qf)(R : AEnd->Mu->Prop)(e : Ending)(w' : qf) : Prop := ∃ i o, Stp G mu w i o w' /\
      ((∃ r v,R (.ret r) o/\e = .returned v/\VRel i w'.heap r v)\/(∃ r v,R (.pan r) o/\e = .panicked [{ v,recovered:=false }]/\VRel i w'.heap r v))
theorem nH{fn G0 C w0}(s0:Sim G0 C w0.heap):∀ c st a w G,Rel Ro.bare G0 C w0 fn.ntmps G st a w ->
  dOkC fn.ntmps c=true->awpD P pl fn.results.toList R c st->c.wpIn (WF Ro.bare) 0 P (bodyPostM Fence.wide 0 P fn (REnd G0 C w0 R)) a w:=by
 intro c;induction c with
 |seq x y _ ih =>
  intro st a w G r hd h;cases x with
  |region id a1 a6 =>
   cases a6 with
   |true=>exact h.elim
   |false =>
    simp only[dOkC,qD]at hd;have J:(a1.toList.all fun o=>dOk fn.ntmps o.dst)=true:=hd.1;have U:∀ v (st:St) a w G u,R (.pan v) st.mu->Rel Ro.bare G0 C w0 fn.ntmps G st a w->VRel G w.heap v u->LeavesInM Fence.wide 0 P fn a.tmps (REnd G0 C w0 R) a.defers (.panicking [{ v:=u,recovered:=false }]) w:=by
     intro v st a w G u t r I;rw[r.bare];exact⟨G,st.mu,r.stp,.inr ⟨v,u,t,rfl,I⟩⟩
    cases hl:ZB a1 with
    |none =>
     simp only[awpD,hl]at h;refine wpIn_seq (wpIn_region_list ?_);refine VY s0 ?_ ?_ a1.toList st a w G r J h
     .intro st a w G t r
      exact ih st a w G r hd.2 t
     .intro v st a w G u t r I
      exact U v st a w G u t r I
    |some q =>
     obtain⟨pre,o⟩:=q;simp only[awpD,hl]at h;obtain⟨ho,hg,a0⟩:=qiW hl;refine wpIn_seq (wpIn_region_list ?_);rw[ho]at J⊢;rw[List.all_append,qD]at J;refine gV s0 ?_ ?_ pre st a w G r J.1 h
     .intro st a w G t r
      obtain⟨xo,args,ah,g,first,a7,a8,hx,a9,a3⟩:=t;obtain⟨od,aq,ai,aa,aj,ar⟩:=o;simp only at a8 hg a0;subst a8;subst hg;subst a0;simp only[wpListIn,Region.wanted,if_true];have rf:=r.ev xo;rw[hx]at rf;generalize t:a.eval xo=fv at rf;cases rf with
      |fn _ _ _ a4 T hn hm I hw =>
      have ra:=s5 ⟨hn,I⟩ (wP r.ev args) ⟨hm,hw⟩;have ab:((({ dst:=none,op := .defer { callee := .value xo,args,argTypes:=ah },type:=ai,pos:=aa,after:=aj,guard:=none }:wg).semAt (WF Ro.bare).round a.eval).run P w) =
        .ok (.defer { target := .fn (.func g) T,args:=a4++args.map a.eval }) w:=by
       rw[show (WF Ro.bare).round=none from rfl,Oper.semAt_none]
       grind [execOp,resolve,Sem.run_bind,Sem.run_pure,Result.andThen_ok,Deferred.ofValue]
      refine⟨fun _ _=>trivial,?_⟩;rw[ab,Oper.uponIn_defer];rw[r.bare]
      let d:Deferred:={ target := .fn (.func g) T,args:=a4++args.map a.eval }
      let j:=first++evs st.ev args.toList++a7
      let l:=a4++args.map a.eval++T
      let ro:Ro:=⟨none,[d],true,j.zip l.toList⟩
      have ad:∀{G:Gh}{h:Array Obj},(∀ p,p∈ro.kp->VRel G h p.1 p.2)↔zV G h j l:=by
       intro G h;constructor
       .intro hk
        refine⟨ra.1,fun k x hx=>?_⟩;have ak:k<l.size:=by rw[ra.1];exact(qh.1 hx).1
        have I:l.toList[k]?=some (l.getD k uk):=by simp[qV,ak]
        have:(x,l.getD k uk)∈j.zip l.toList:=qQ (i:=k) (by grind)
        grind
       .intro ha p hp
        obtain⟨k,hk⟩:=List.mem_iff_getElem?.1 hp;rw[List.getElem?_zip_eq_some]at hk;have:=ha.2 k p.1 hk.1;simp_all
      show y.wpIn (WF Ro.bare) 0 P _ _ _;refine V8 (pl:=pl) (n:=fn.ntmps) y (ro:=ro) s0 _ _ st _ w G ?_ ⟨r.tm,fun _=>Dfs.nil _ _ _ _ _ _,r.size,r.stp,ad.2 ra⟩ hd.2 (.inl ⟨rfl,rfl⟩) a3;intro ae e st a w' G' t r he;obtain⟨Ds,g1,g2,g3,r',al⟩:=r.left rfl;have key:∀(m:Option AV)(u:FrameMode),u ≠ .run->MRel G' (uW Ds w').heap m u->yG P g j st.mu m (fun af=>OptK (jR P ⟨st.tm,af⟩ fn.results.toList) fun r=>R (.ret r) af) ->
        LeavesInM Fence.wide 0 P fn a.tmps (REnd G0 C w0 R) a.defers u w':=by
       intro m u hu hm hs;rw[g1];refine W9 hu Ds w' g2 g3 ?_;refine⟨hu,.inr ⟨fun h=>by simp[Fence.wide]at h,.func g,T,g,l,rfl,?_,fun _ _=>trivial,?_⟩⟩
       .simp only[invoke,d]
        exact a9 _ _
       .refine (hs.2 G' (uW Ds w') l u r'.stp.sim (ad.1 r'.kp) hm).mono ?_
        intro e u' av ⟨v,G2,an,he,ag,ao,z,hz,hR⟩;subst he;simp only;rw[ag];have r2:=r'.put (d:=none) s0 ao (.any uk) rfl;obtain⟨u2,k1,k2⟩:=ZA (fn:=fn) r2 hz;exact⟨u2,k1,G2,an,r2.stp,.inl ⟨z,u2,hR,rfl,k2⟩⟩
      cases ae<;>cases e<;>simp only[ERel]at he
      .exact key none .returning zSp rfl t
      .exact t.elim
      .exact key none .returning zSp rfl t
      .obtain ⟨v,rfl,I⟩:=he
       exact key (some _) (.panicking _) zSp ⟨v,rfl,al _ _ I⟩ t
     .intro v st a w G u t r I
      exact U v st a w G u t r I
  |_=>exact h.elim
 |_=>intro st a w G r hd h;exact h.elim
theorem fL{f fn c mu}(g:yN P f)(hf:P.funcs[f]?=some fn)(i:fn.body=some c)
  (j:args.length<=fn.ntmps) (l:dOkC fn.ntmps c=true) (h:awpD P pl fn.results.toList R c (st0 args mu)):qv P f args mu R:=by
 refine⟨g,fun G w p s o=>?_⟩;refine(callsIn_wide (n:=0)).1 (callsIn_of_wp_marks hf i trivial ?_);refine nH (pl:=pl) s c (st0 args mu) _ w G ?_ l h;exact fM s o j
theorem yG.of_awp{f fn id o g mu m R}(a0:yN P f)(hf:P.funcs[f]?=some fn)
  (hb:fn.body=some (.seq (.region id #[o] false) g)) (ho:∃ d ty pos a6,o={ dst:=d,op := .call { callee := .builtin .recover,args:=#[],argTypes:=a6 },type:=ty,pos:=pos,after:=#[],guard:=none })
  (hn:args.length<=fn.ntmps) (hd:dOkC fn.ntmps (.seq (.region id #[o] false) g)=true) (hr:noRF g=true)
  (h:awp P pl g (uZ P fn.results.toList fun e t=>∃ r,e = .ret r/\R t) ((st0 args mu).put o.dst (m.getD (.sc .nilIface)) mu)):yG P f args mu m R:=by
 obtain⟨od,a8,a1,a2,rfl⟩:=ho;refine⟨a0,fun G w vs u s ra hm=>?_⟩;refine callsDIn_of_wpSIn hf hb trivial fun i cs hc=>?_
 have r0:Rel Ro.bare G mu w fn.ntmps G (st0 args mu) { tmps:=vs++Array.replicate (fn.ntmps-vs.size) uk,defers:=[] } w:=fM s ra hn;simp only[dOkC,qD]at hd;have a9:dOk fn.ntmps od=true:=by grind
 refine wpSIn_seq (wpSIn_region ?_);have go:∀(J:List Frame)(v:qq)(T:FrameMode),J={ i with mode:=T } :: cs->settle T = .returning->VRel G w.heap (m.getD (.sc .nilIface)) v ->
   g.wpSIn Fence.wide 0 P (bodyPostS P fn i cs fun e T w'=>∃ v G' t,e = .returned v/\settle T = .returning/\Stp G mu w G' t w'/\R t)
    (({ tmps:=vs++Array.replicate (fn.ntmps-vs.size) uk,defers:=[] }:Act).put od v) J w:=by
  intro J v T a5 I hv;refine wpSIn_of_wpIn rfl ?_;refine V8 (pl:=pl) (n:=fn.ntmps) g (ro:=Ro.bare) s _ _ _ _ w G ?_ (r0.put s (Stp.refl s) hv a9) hd.2 (.inr hr) h;intro ae e U a w' G' hq r he;cases ae<;>cases e<;>simp only[ERel]at he
  .obtain ⟨z,hz,z',_,hR⟩:=hq
   obtain⟨u2,k1,k2⟩:=ZA (fn:=fn) r hz;exact⟨r.bare,T,a5,u2,k1,u2,G',U.mu,rfl,I,r.stp,hR⟩
  .exact hq.elim
  .obtain ⟨z,hz,z',_,hR⟩:=hq
   obtain⟨u2,k1,k2⟩:=ZA (fn:=fn) r hz;exact⟨r.bare,T,a5,u2,k1,u2,G',U.mu,rfl,I,r.stp,hR⟩
  .obtain ⟨z,hz,_⟩:=hq
   grind
 have aa:∀ ev:zK->qq,(execOp ev { dst:=od,op := .call { callee := .builtin .recover,args:=#[],argTypes:=a2 },type:=a8,pos:=a1,after:=#[],guard:=none }).run P w = .ok .recover w:=by
  simp_all[execOp,resolve,invoke,builtin]
 simp only[List.size_toArray,yh,List.length_nil,qs,qs.loop,wpOpsSIn];refine⟨fun _ _=>trivial,?_⟩;simp only[Region.wanted];cases m with
 |none =>
  have hu:u = .returning:=hm;have p:recoverD (i :: cs)=none:=by simp[recoverD,hc,hu]
  rw[p];exact go _ .nilIface .returning (by rw[<-hu,<-hc]) rfl (.sc _ rfl)
 |some x =>
  obtain⟨v,hu,hv⟩:=hm;have p:recoverD (i :: cs)=some (v,{ i with mode := .panicking [{ v,recovered:=true }] } :: cs):=by simp[recoverD,hc,hu]
  rw[p];exact go _ v (.panicking [{ v,recovered:=true }]) rfl rfl hv
end
end Go.Ev
namespace Go.Ev
open Go Go.RowKit
section
variable {R:AEnd->Mu->Prop}{V:AEnd->Prop}{K i:AV->Mu->Prop}{ops:Array wg}{f g:zZ}{args args' caps first:List AV}{j:List ResultVar}{mu:Mu}{pl:Pol}{P:qb}{st:St}
def EndR(G:Gh)(h:Array Obj):AEnd->Ending->Prop
 | .ret r,e=>∃ v,e = .returned v/\VRel G h r v
 | .pan r,e=>∃ v,e = .panicked [{ v,recovered:=false }]/\VRel G h r v
def vd(P:qb)(f:zZ)(args:List AV)(V:AEnd->Prop):Prop:=yN P f /\
 ∀(i:Nat->Prop)(w:qf)(l:Array qq),Sim ⟨i,[]⟩ [] w.heap->zV ⟨i,[]⟩ w.heap args l ->
  Calls P f l w fun e j=>∃ g a,V a/\EndR ⟨g,[]⟩ j.heap a e/\(∀ b,i b->g b)/\(∀ b,g b->b<j.heap.size/\(i b\/w.heap.size<=b))/\Z6 w.heap.size w j
abbrev jS(P:qb)(f:zZ)(args:List AV)(e:AEnd):Prop:=vd P f args (·=e)
theorem jS.toP{r}(h:jS P f args (.ret r)):qg P f args r:=by
 refine⟨h.1,fun g w l o p=>(h.2 g w l o p).mono fun e C ⟨i,a,j,t,I,J,R⟩=>?_⟩;subst j;obtain⟨v,T,j⟩:=t
 grind
theorem qiX{G w}(s : Sim G mu w.heap)(t j : Nat->Prop)(w' )(h1 : ∀ b, G.imm b->t b)(h2 : ∀ b, j b->b < w'.heap.size/\(t b\/w.heap.size<=b))(l : Z6 w.heap.size w w')(h3 : ∀ b, t b->G.imm b\/Live G mu b) :
      Stp G mu w ⟨fun b=>G.imm b\/(j b/\w.heap.size<=b),G.blk⟩ mu w':=by
    have C:G.le ⟨fun b=>G.imm b\/(j b/\w.heap.size<=b),G.blk⟩:=⟨fun b h => .inl h,fun _ _ h=>h⟩;have T:Ext G w.heap w'.heap:=⟨l.size,fun b g=>l.block b (s.imm b g)⟩;have key:∀ b,Live G mu b->w'.heap[b]?=w.heap[b]?:=fun b U=>l.block b (s.livesize U)
    refine⟨C,⟨s.len,?_,?_,?_,s.inj,s.tab.mono C.imm (fun b g=>l.block b (s.imm b g))⟩,fun b R _=>l.block b R,l.size,fun b h => .inl h,fun b h=>h.elim .inl (fun e => .inr (.inr e.2)),l.tape,l.os,l.output,l.drawn⟩
    · intro b g
      rcases g with g|g
      · exact Zo (s.imm b g) l.size
      grind
    · intro i c p o I J P
      obtain⟨o',g1,g2⟩:=s.obj i c p o I J P;exact⟨o',by rw[key p ⟨i,_,o,I,J,P⟩];exact g1,g2.mono C T⟩
    · intro i c p o I J P g
      rcases g with g|g
      · exact s.live i c p o I J P g
      · have:=s.livesize ⟨i,c,o,I,J,P⟩;omega
theorem EndR.le{G G' h}(j:G.le G'){a e}(r:EndR G h a e):EndR G' h a e:=by
 cases a with
 |ret x=>obtain⟨v,g,i⟩:=r;exact⟨v,g,i.le j⟩
 |pan x=>obtain⟨v,g,i⟩:=r;exact⟨v,g,i.le j⟩
theorem vd.toSound(mu)(h:vd P f args' V)(hw:WKs args args'):qv P f args mu fun e m=>V e/\m=mu:=by
 refine⟨h.1,fun G w t s C=>?_⟩;obtain⟨hl,hg⟩:=hw.get;have p:zV ⟨G.imm,[]⟩ w.heap args' t:=by
  refine⟨by rw[C.1,hl],fun k y I=>?_⟩;have hk:k<args'.length:=(qh.1 I).1;have J:args[k]?=some (args[k]' zOm):=by rw[qB]
  exact hg k _ y J I G w.heap _ (C.2 k _ J)
 refine(h.2 G.imm w t s.bare p).mono fun e R ⟨g,a,T,hr,o,j,hb⟩=>?_
 have U:=qiX s G.imm g R (fun b h=>h) j hb (fun b h => .inl h);have l:EndR ⟨fun b=>G.imm b\/(g b/\w.heap.size<=b),G.blk⟩ R.heap a e:=hr.le ⟨fun b hi=>by
  grind,fun i x h=>by simp at h⟩
 refine⟨_,mu,U,?_⟩;cases a with
 |ret x=>obtain⟨v,o,j⟩:=l;exact .inl ⟨x,v,⟨T,rfl⟩,o,j⟩
 |pan x=>obtain⟨v,o,j⟩:=l;exact .inr ⟨x,v,⟨T,rfl⟩,o,j⟩
def RdE(mu:Mu):AEnd->AEnd->Prop
 | .ret x,.ret y=>Rd mu x y
 | .pan x,.pan y=>Rd mu x y
 |_,_=>False
theorem vd.of_sound(h:qv P f args [] fun e mu'=>∃ C,V C/\RdE mu' e C):vd P f args V:=by
 obtain⟨I,h⟩:=h;refine⟨I,fun l w vs hi ra=>?_⟩;refine(h ⟨l,[]⟩ w vs hi ra).mono fun e R ⟨T,mu',U,hR⟩=>?_
 have o:∀ b,¬Live ⟨l,[]⟩ [] b:=fun b ⟨i,c,t,hc,_⟩=>by simp at hc
 have fin:∀ a,V a->EndR ⟨fun b=>T.imm b\/Live T mu' b,[]⟩ R.heap a e->∃ g a,V a/\EndR ⟨g,[]⟩ R.heap a e/\(∀ b,l b->g b)/\(∀ b,g b->b<R.heap.size/\(l b\/w.heap.size<=b))/\Z6 w.heap.size w R:=by
  intro a J hr;refine⟨fun b=>T.imm b\/Live T mu' b,a,J,hr,fun b p => .inl (U.le.imm b p),fun b p=>?_,⟨U.os,U.tape,U.output,U.size,fun k hk=>U.keep k hk (o k)⟩,U.drawn⟩;rcases p with p|p
  .refine ⟨U.sim.imm b p,?_⟩
   rcases U.inew b p with h|h|h
   .exact .inl h
   .grind
   omega
  .refine ⟨U.sim.livesize p,?_⟩
   rcases U.live b p with h|h
   .grind
   omega
 rcases hR with ⟨r',v,⟨C,J,j⟩,rfl,hu⟩|⟨r',v,⟨C,J,j⟩,rfl,hu⟩
 .cases C with
  |ret y=>exact fin _ J ⟨v,rfl,j.sound U.sim hu⟩
  |pan y=>exact j.elim
 .cases C with
  |ret y=>exact j.elim
  |pan y=>exact fin _ J ⟨v,rfl,j.sound U.sim hu⟩
@[go_sem] theorem RdE_ret:(∀ mu x y,RdE mu (.ret x) (.ret y)=Rd mu x y)/\(∀ mu x y,RdE mu (.pan x) (.pan y)=Rd mu x y):=by and_intros<;>intros<;>exact eqS rfl
theorem fQ(h:vd P g args' V)(j:WKs (first++args++caps) args')(p:∀ r,V (.ret r)->K r mu)(kp:∀ r,V (.pan r)->i r mu) :
  qe P false mu (.fn (.func g) first caps) args K i:=
 .inr ⟨rfl,.inl ⟨g,first,caps,_,rfl,h.toSound mu j,fun r m ⟨l,o⟩=>by grind,fun r m ⟨l,o⟩=>by grind⟩⟩
theorem fZ(j:qv P g args mu R)(k:∀ r m,R (.ret r) m->K r m)(kp:∀ r m,R (.pan r) m->i r m) :
  qe P false mu (.fn (.func g) [] []) args K i:=
 .inr ⟨rfl,.inl ⟨g,[],[],R,rfl,zUs j,k,kp⟩⟩
theorem aK{v}(h:jS P g args' (.pan v))(j:WKs (first++args++caps) args')(kp:i v mu) :
  qe P false mu (.fn (.func g) first caps) args K i:=fQ h j (fun r e=>by cases e) (fun r e=>by cases e;exact kp)
theorem qv.hid{i c}(C:mu[i]?=some c)(I:c ≠ .dead)(h:qv P f args (mu.set i .dead) R) :
  qv P f args mu fun e m=>∃ g,R e g/\g[i]?=some .dead/\m=g.set i c:=by
 refine⟨h.1,fun G w J s T=>?_⟩;have j:i<G.blk.length:=by rw[s.len];exact(qh.1 C).1
 refine(h.2 G w J (s.hid i) T).mono fun e w' ⟨U,g,t,hR⟩=>?_
 obtain⟨g1,g2,g3⟩:=t.unhid s C I (b:=(G.blk[i]'j).1) (t:=(G.blk[i]'j).2) (zP1 j);refine⟨U,g.set i c,g3,?_⟩;rcases hR with ⟨r,v,l,o,p⟩|⟨r,v,l,o,p⟩
 .exact .inl ⟨r,v,⟨g,l,g1,rfl⟩,o,p⟩
 .exact .inr ⟨r,v,⟨g,l,g1,rfl⟩,o,p⟩
theorem qv.monoR{R'}(h:qv P f args mu R)(k:∀ e m,R e m->R' e m):qv P f args mu R':=by
 refine⟨h.1,fun G w g s i=>(h.2 G w g s i).mono fun e J ⟨j,l,t,o⟩=>⟨j,l,t,?_⟩⟩;rcases o with ⟨r,v,p,C,I⟩|⟨r,v,p,C,I⟩
 .grind
 grind
attribute [go_sem] ZB
def Uf(P:qb)(pl:Pol)(i:List ResultVar)(R:AEnd->Mu->Prop)(ops:Array wg)(g:Code)(st:St):Option (List wg×wg)->Prop
 |some (pre,o)=>awpS P pl false ops pre (fun st=>ZC P pl i R o g st) (fun v st=>R (.pan v) st.mu) st
 |none=>awpS P pl false ops ops.toList (fun st=>awpD P pl i R g st) (fun v st=>R (.pan v) st.mu) st
@[go_sem ↓] theorem awpD_seq{i id g} :
  awpD P pl i R (.seq (.region id ops false) g) st=Uf P pl i R ops g st (ZB ops):=by
 grind [ZB,awpD,Uf]
@[go_sem] theorem qvO{i g pre o} :
  Uf P pl i R ops g st (some (pre,o))=awpS P pl false ops pre (fun st=>ZC P pl i R o g st) (fun v st=>R (.pan v) st.mu) st:=eqS rfl
@[go_sem] theorem qvP{i g} :
  Uf P pl i R ops g st none=awpS P pl false ops ops.toList (fun st=>awpD P pl i R g st) (fun v st=>R (.pan v) st.mu) st:=eqS rfl
theorem tJ{p x args l ty pos t C d i}
  (I:st.ev x = .fn (.func g) first caps) (o:yN P g) (h:awp P pl i (Ue P p g (first++evs st.ev args.toList++caps) R) st) :
  ZC P pl p R { dst:=d,op := .defer { callee := .value x,args:=args,argTypes:=l },type:=ty,pos:=pos,after:=t,guard:=C } i st:=
 ⟨x,args,l,g,first,caps,rfl,I,o,h⟩
@[go_sem] theorem PostD_ret:(∀{i},Ue P j g i R .ret st=yG P g i st.mu none fun mu'=>OptK (jR P ⟨st.tm,mu'⟩ j) fun r=>R (.ret r) mu')/\(∀{i v},Ue P j g i R (.pan v) st=yG P g i st.mu (some v) fun mu'=>OptK (jR P ⟨st.tm,mu'⟩ j) fun r=>R (.ret r) mu'):=by and_intros<;>intros<;>exact eqS rfl
theorem yG.mono{m R R'}(h:yG P g args mu m R)(k:∀ mu',R mu'->R' mu'):yG P g args mu m R':=
 ⟨h.1,fun G w i u s j l=>(h.2 G w i u s j l).mono fun e J T ⟨v,o,mu',p,t,C,I⟩=>⟨v,o,mu',p,t,C,k _ I⟩⟩
@[go_sem] theorem ofV_pnone:(ofV (.pointer none) = .sc (.pointer none))/\(ofV (.map none) = .sc (.map none)):=by and_intros<;>exact eqS rfl
theorem Rd.aggs{xs ys}(h:Rds mu xs ys):Rd mu (.agg xs) (.agg ys) := .agg _ _ h.get.1 h.get.2
end
end Go.Ev
namespace Go.Proofs.YtlnbdknjkmmgbaaGreatDoor
open Go Go.Ev Go.Proofs Tryz
namespace Y1
inductive Nd where
 |mk (op:Int) (name:tZ) (n:Int) (sD:List Nd) (pos:Int)
def Nd.op:Nd->Int | .mk o _ _ _ _=>o
def Nd.name:Nd->tZ | .mk _ s _ _ _=>s
def Nd.n:Nd->Int | .mk _ _ n _ _=>n
def Nd.sD:Nd->List Nd | .mk _ _ _ ks _=>ks
def Nd.pos:Nd->Int | .mk _ _ _ _ p=>p
abbrev aS(s:tZ):AV := .sc (.string s)
mutual
def cNd:Nd->List AV
 | .mk op nm n ks p=>[aI op,aS nm,aI n,.lst false (cNds ks),aI p]
def cNds:List Nd->List (List AV)
 | []=>[]
 |k :: ks=>cNd k :: cNds ks
end
theorem Xs:∀ ks,cNds ks=ks.map cNd
 | []=>by simp[cNds]
 |k :: ks=>by simp[cNds,Xs ks]
theorem yP(n):cNd n=[aI n.op,aS n.name,aI n.n,.lst false (n.sD.map cNd),aI n.pos]:=by
 obtain⟨op,nm,k,ks,p⟩:=n;simp[cNd,Xs,Nd.op,Nd.name,Nd.n,Nd.sD,Nd.pos]
@[go_sem] theorem ZD(n):(cNd n).length=5:=by rw[yP];rfl
@[go_sem] theorem qiY(n):(cNd n).take 5=cNd n:=zY (by rw[ZD];exact qj _)
@[go_sem] theorem JG(n):(cNd n).all AV.one=true:=by rw[yP];rfl
@[go_sem] theorem q9(n):(∀ x,x∈cNd n->x.one=true)=True:=eq_true fun x g=>by have:=q8.1 (JG n) x g;simpa using this
@[go_sem] theorem cNd_f0(n):(cNd n).take 1=[aI n.op]:=by rw[yP];rfl
@[go_sem] theorem cNd_f1t(n):(cNd n).tail.take 1=[aS n.name]:=by rw[yP];rfl
@[go_sem] theorem cNd_f2(n):((cNd n).drop 2).take 1=[aI n.n]:=by rw[yP];rfl
@[go_sem] theorem cNd_f3(n):((cNd n).drop 3).take 1=[.lst false (n.sD.map cNd)]:=by rw[yP];rfl
@[go_sem] theorem nI(n):((cNd n).drop 4).take 1=[aI n.pos]:=by rw[yP];rfl
@[go_sem high] theorem put_cNd(z o n):putCells z o (cNd n)=z.take o++(cNd n++z.drop (o+5)):=by
 rw[yP];simp[putCells]
abbrev eNd(n:Nd):AV := .agg (cNd n)
abbrev lNd(ks:List Nd):AV := .lst false (ks.map cNd)
mutual
theorem y8:∀(n:Nd),∀ c,c∈cNd n->HF c
 | .mk op nm n ks p=>by
  intro c g;simp only[cNd,qy,qK,or_false]at g;rcases g with rfl|rfl|rfl|rfl|rfl
  .exact HF.sc _
  .exact HF.sc _
  .exact HF.sc _
  .exact HF.lst (Xt ks)
  .exact HF.sc _
theorem Xt:∀(ks:List Nd),∀ r,r∈cNds ks->∀ c,c∈r->HF c
 | []=>by intro r g;simp[cNds]at g
 |k :: ks=>by
  intro r g;simp only[cNds,qy]at g;rcases g with rfl|g
  .exact y8 k
  .exact Xt ks r g
end
theorem qE(n):HF (eNd n):=HF.agg (y8 n)
theorem JH(ks):HF (lNd ks):=HF.lst (by rw[<-Xs];exact Xt ks)
theorem Yh(ks:List Nd):qW 5 (ks.map cNd):=fun r g=>by
 obtain⟨n,_,rfl⟩:=qn.1 g;rw[yP];exact⟨rfl,rfl⟩
abbrev jx(e p:Int):AV := .ifc 204 (.agg [aI e,aI p])
theorem yC(e p):HF (jx e p):=HF.ifc (HF.agg fun c g=>by simp at g;rcases g with rfl|rfl<;>exact HF.sc _)
theorem failU(e n):jS qc 188 [aI e,eNd n] (.pan (jx e n.pos)):=by
 refine vd.of_sound ?_;refine qSW call188 func188 rfl {} ?_;simp only[eNd,yP];simp[go_sem];exact⟨_,_,⟨rfl,rfl⟩,.hf _ (yC _ _)⟩
theorem zJ(ok e n):jS qc 117 [aB ok,aI e,eNd n] (if ok then .ret (.tup []) else .pan (jx e n.pos)):=by
 refine vd.of_sound ?_;refine qSW call117 func117 rfl {} ?_;simp only[eNd];cases ok
 .simp [go_sem]
  refine aK (failU e n) (.zs (.zk (qE n) .nil)) ?_;simp[go_sem];exact .hf _ (yC _ _)
 .simp [go_sem]
  exact .hf _ (HF.tup zSp)
theorem qiZ(mu b x y)(i:mu[b]?=some (.arr [x,y])):yG qc 140 [.ptr b 0] mu none fun mu'=>mu'=mu:=by
 refine yG.of_awp call140 func140 rfl ⟨_,_,_,_,rfl⟩ (vX zKr) zKr zKr (pl:={}) ?_;simp[go_sem]
theorem qi0(mu b x y e p)(i:mu[b]?=some (.arr [x,y])):yG qc 140 [.ptr b 0] mu (some (jx e p)) fun mu'=>∃ c,mu'=mu.set b (.arr [aI e,aI p])++[c]:=by
 refine yG.of_awp call140 func140 rfl ⟨_,_,_,_,rfl⟩ (vX zKr) zKr zKr (pl:={}) ?_;have j:b<mu.length:=(qh.1 i).1;have l:∀ c:Cell,(mu++[c])[b]?=some (.arr [x,y]):=fun c=>by rw[qG j,i]
 have o:∀ c d:Cell,(mu++[c]).set b d=mu.set b d++[c]:=fun c d=>List.set_append_left b d j
 simp[go_sem,l,o]
theorem Xu{g caps mu R}(h:qv qc g caps (mu++[.dead]) R)(P:∀ v m,R (.pan v) m->∃ e p,v=jx e p) :
  qv qc 69 [.fn (.func g) [] caps] mu fun e m=>∃ j c,(∃ l,m=j.set mu.length c++l)/\((∃ r,R (.ret r) j/\e = .ret (.agg [aI 0,aI 0]))\/∃ J p,R (.pan (jx J p)) j/\e = .ret (.agg [aI J,aI p])):=by
 refine fL call69 func69 rfl (vX zKr) zKr (pl:={}) ?_;simp[go_sem];refine tJ (g:=140) (first:=[]) (caps:=[.ptr mu.length 0]) zSi call140 ?_;simp[go_sem];refine fY (qv.hid (i:=mu.length) (c := .arr [aI 0,aI 0]) zSp zSp (zUs h)) ?_ ?_
 .rintro r m ⟨j,t,C,rfl⟩
  have o:mu.length<j.length:=(qh.1 C).1;have I:(j.set mu.length (.arr [aI 0,aI 0]))[mu.length]?=some (.arr [aI 0,aI 0]):=qz o;simp[go_sem,o];refine yG.mono (qiZ _ mu.length (aI 0) (aI 0) I) ?_;rintro _ rfl;simp[go_sem,o];exact⟨j,⟨_,[],(yg _).symm⟩,.inl ⟨r,t⟩⟩
 .rintro r m ⟨j,t,C,rfl⟩
  obtain⟨e,p,rfl⟩:=P _ _ t;have o:mu.length<j.length:=(qh.1 C).1;have I:(j.set mu.length (.arr [aI 0,aI 0]))[mu.length]?=some (.arr [aI 0,aI 0]):=qz o;simp[go_sem];refine yG.mono (qi0 _ mu.length (aI 0) (aI 0) e p I) ?_;rintro _ ⟨c,rfl⟩;simp[go_sem,o];exact⟨j,⟨_,[c],rfl⟩,.inr t⟩
end Y1
namespace Y2
open Y1
abbrev aT(t:List Int):AV := .agg (t.map fun x => .sc (.int .i8 x))
structure Kd where
 ar:Int
 ts:List (List Int)
abbrev mKd(ts:List (List Int)):AV := .ims (ts.map fun t=>(aT t,aB true))
abbrev cKd(k:Kd):List AV:=[aI k.ar,mKd k.ts]
abbrev eKd(k:Kd):AV := .agg (cKd k)
theorem Xv(t):HF (aT t):=HF.agg fun c g=>by
 obtain⟨x,_,rfl⟩:=qn.1 g;exact HF.sc _
theorem JI(ts):HF (mKd ts):=HF.ims fun p g=>by
 obtain⟨t,_,rfl⟩:=qn.1 g;exact⟨Xv t,HF.sc _⟩
theorem zW(k):HF (eKd k):=HF.agg fun c g=>by
 simp at g;rcases g with rfl|rfl
 .exact HF.sc _
 .exact JI _
theorem nJ(n):qg qc 208 [aI n] (eKd ⟨n,[]⟩):=by
 refine qSU call208 func208 rfl ?_;exact Rd.aggs ⟨.hf _ (HF.sc _),fJ (es:=[]) (fs:=[]) rfl zSp zSp zSp zSp,trivial⟩
theorem jG{a b:tZ}(h:¬a=b):(a.toList == b.toList)=false:=by
 cases g:(a.toList == b.toList) with
 |false=>rfl
 |true=>exact absurd (WP (by rw[beq_toListBytes];exact g)) h
def aSc:List (tZ×Kd)->AV
 | [] => .sc (.pointer none)
 |v :: s => .ip [aS v.1,aI v.2.ar,mKd v.2.ts,aSc s]
@[go_sem] theorem aSc_cells(s):(aSc s).cells=[aSc s]:=by cases s<;>rfl
@[go_sem] theorem aSc_one(s):(aSc s).one=true:=by cases s<;>rfl
theorem u4:∀ s,HF (aSc s)
 | []=>HF.sc _
 |v :: s=>HF.ip fun c g=>by
  simp only[qy,qK,or_false]at g;rcases g with rfl|rfl|rfl|rfl
  .exact HF.sc _
  .exact HF.sc _
  .exact JI _
  .exact u4 s
def y9(name:tZ):List (tZ×Kd)->List (tZ×Kd)
 | []=>[]
 |v :: s=>if v.1=name then v :: s else y9 name s
theorem findU(s name):qg qc 204 [aSc s,aS name] (aSc (y9 name s)):=by
 refine qSU call204 func204 rfl ?_;refine tW (fun n U=>∃ r,n=r.length/\y9 name r=y9 name s/\U.tm 0=aSc r/\U.tm 1=aS name/\U.mu=[]) s.length ⟨s,rfl,rfl,rfl,rfl,rfl⟩ ?_;rintro n U ⟨r,rfl,i,j,o,l⟩;cases r with
 |nil =>
  simp[go_sem,aSc,j,l];rw[<-i];exact .zsc _
 |cons v r =>
  by_cases g:v.1=name
  .simp [go_sem,aSc,j,o,l,g]
   rw[<-i,y9,if_pos g];have:=u4 (v :: r);simp only[aSc,g]at this⊢;exact .hf _ this
  .simp [go_sem,aSc,j,o,l,jG g]
   rw[y9,if_neg g]at i;exact⟨_,Nat.lt_succ_self _,r,rfl,i,rfl⟩
end Y2
namespace Y3
open Y2
def pad(l:List Int):List Int:=[l.getD 0 0,l.getD 1 0,l.getD 2 0]
abbrev i8s(l:List Int):List AV:=l.map fun x => .sc (.int .i8 x)
theorem qi1(l:List Int)(k g)(i:l.length<=3):(i8s (pad (l.take k))).set k (.sc (.int .i8 l[k]))=i8s (pad (l.take (k+1))):=by
 match l,i with
 | [],_=>simp at g
 | [a],_=>match k,g with|0,_=>rfl
 | [a,b],_=>match k,g with|0,_=>rfl|1,_=>rfl
 | [a,b,c],_=>match k,g with|0,_=>rfl|1,_=>rfl|2,_=>rfl
 |a :: b :: c :: d :: l,h=>simp at h
theorem nK(l):(pad l).length=3:=rfl
theorem qi2(l):(i8s (pad l)).take 3=i8s (pad l):=rfl
theorem wrap8{x}(h:0<=x/\x<128):IntKind.i8.wrap x=x:=by
 simp[IntKind.wrap,IntKind.signed,IntKind.bits];omega
@[go_sem] theorem findA_nil(P g k i):zn P g k [] i=some none:=eqS rfl
theorem ofU(l)(T:l.length<=3)(hr:∀ x,x∈l->0<=x/\x<128):qg qc 146 [lI l] (eKd ⟨l.length,[pad l]⟩):=by
 refine qSU call146 func146 rfl ?_;refine qk.up l.length (fun k U=>U.tm 0=lI l/\U.tm 2 = .ptr 0 0/\U.tm 3 = .ptr 1 0/\U.tm 6=lI l/\U.tm 7=aI l.length/\U.tm 8=aI k/\U.mu=[.arr [aI 0,.sc (.map none)],.arr (i8s (pad (l.take k)))]) ?_ ?_
 .simp [go_sem,pad]
  done
 .rintro k U hk ⟨o,p,t,h6,I,J,P⟩
  by_cases he:k=l.length
  .subst he
   simp[go_sem,o,p,t,I,J,P,nK,qi2];exact Rd.aggs ⟨.hf _ (HF.sc _),fJ (es:=[(aT (pad l),aB true)]) (fs:=[(aT (pad l),aB true)]) rfl zSp zSp zSp (fun x R=>by simp at R;subst R;exact⟨Xv _,HF.sc _⟩),trivial⟩
  .have g:k<l.length:=by omega
   have i:(k:Int)<3:=zOm;have hw:=wrap8 (hr l[k] zSp);have j:=qi1 l k g T;simp[go_sem,o,p,t,h6,I,J,P,g,i,hw,nK,show k<=2 by omega,j];simp[IntKind.wrap,IntKind.signed,IntKind.bits];omega
end Y3
namespace Y4
end Y4
namespace P1
open Y1 Y2 Y3
section
abbrev Tp:=List Int
variable {a b:List Tp}
structure Pd where
 name:tZ
 params:List (tZ×Int)
 body:Nd
structure TS where
 sS:List (tZ×Bool)
 sA:List Fld
 sT:List Pd
 sP:List (tZ×Nd)
def ins(l:List Tp)(t:Tp):List Tp:=if t∈l then l else l++[t]
def uni(a b:List Tp):List Tp:=b.foldl ins a
theorem uz{l t x}:x∈ins l t↔x∈l\/x=t:=by
 grind [ins,id]
theorem vL{x}:x∈uni a b↔x∈a\/x∈b:=by
 unfold uni;induction b generalizing a with
 |nil=>simp
 |cons t b g =>
  rw[List.foldl_cons,g,uz,qy,or_assoc]
theorem Yi{l t}(h:l.Nodup):(ins l t).Nodup:=by
 grind [ins,Z2]
theorem u5(h:a.Nodup):(uni a b).Nodup:=by
 unfold uni;induction b generalizing a with
 |nil=>exact h
 |cons t b g=>exact g (Yi h)
def kOf(l:List Int):Kd:=⟨l.length,[pad l]⟩
def kSum(a b:Kd):Kd:=⟨a.ar,uni (uni [] a.ts) b.ts⟩
def conc(x:Tp)(n:Nat)(y:Tp)(m skip:Nat):Tp:=pad (x.take (n-skip)++(y.take m).drop skip)
def pairs(a b:List Tp):List (Tp×Tp):=a.flatMap fun x=>b.map fun y=>(x,y)
theorem Yj{x y}:(x,y)∈pairs a b↔x∈a/\y∈b:=by
 simp[pairs]
def uA(n m:Nat)(a b:List Tp):List Tp:=uni [] ((pairs a b).filterMap fun q=>if q.1.getD (n-1) 0=q.2.getD 0 0 then some (conc q.1 n q.2 m 1) else none)
def zL(a b:Kd):Kd:=⟨a.ar+b.ar-2,uA a.ar.toNat b.ar.toNat a.ts b.ts⟩
def wV(n m:Nat)(a b:List Tp):List Tp:=uni [] ((pairs a b).map fun q=>conc q.1 n q.2 m 0)
def uB(a b:Kd):Kd:=⟨a.ar+b.ar,wV a.ar.toNat b.ar.toNat a.ts b.ts⟩
def cloN:Nat->Nat->Kd->Kd
 | 0,_,a=>a
 |f+1,n,a=>if n<a.ts.length then cloN f a.ts.length (kSum a (zL a a)) else a
def kClo(a:Kd):Kd:=cloN 70 0 a
def zu(ns g:Nat):Kd:=⟨g,(qs ns).map fun (i:Nat)=>pad (qM g (i:Int))⟩
def ZE(a b:Kd):Kd:=⟨a.ar,a.ts.filter fun t=>decide (t∈b.ts)⟩
def kTr(a:Kd):Kd:=⟨2,uni [] (a.ts.map fun t=>[t.getD 1 0,t.getD 0 0,0])⟩
def jT:tZ:=⟨#[95,102,105,114,115,116]⟩
def vr:tZ:=⟨#[95,110,101,120,116]⟩
def z6(fs:List Fld)(nm:tZ):List Kd:=fs.filterMap fun f=>if f.name=nm then some (kOf f.sS) else none
def vM(i:Nat)(s:tZ×Bool)(nm:tZ):List Kd:=
 (if s.1=nm then [kOf [(i:Int)]] else [])++((if s.2=true/\s.1++jT=nm then [kOf [(i:Int)]] else [])++(if s.2=true/\s.1++vr=nm then [kOf [(i:Int),(i:Int)]] else []))
def yo:Nat->List (tZ×Bool)->tZ->List Kd
 |_,[],_=>[]
 |i,s :: r,nm=>vM i s nm++yo (i+1) r nm
def means(ts:TS)(nm:tZ):List Kd:=z6 ts.sA nm++yo 0 ts.sS nm
structure Ck where
 ts:TS
 calls:Nat
 timed:List Bool
def zl(c:Ck)(nm:tZ):Option Nat:=(c.ts.sT.take c.calls).findIdx? fun p=>decide (p.name=nm)
def yw(op:Int):Bool:=decide (op=5)||decide (op=48)||decide (op=49)||decide (op=50)||decide (op=51)
def zX(c:Ck)(op:Int)(nm:tZ):Bool:=yw op||(decide (op=47)&&(match zl c nm with|some p=>c.timed.getD p false|none=>false))
mutual
def yx(c:Ck):Nd->Bool
 | .mk op nm n ks p=>zX c op nm||Ug c ks
def Ug(c:Ck):List Nd->Bool
 | []=>false
 |k :: ks=>yx c k||Ug c ks
end
end
def tmsL(ts:TS):Nat->List Bool
 | 0=>[]
 |k+1=>tmsL ts k++(match ts.sT[k]? with|some p=>[yx ⟨ts,k,tmsL ts k⟩ p.body] | none=>[])
def mkCk(ts:TS)(g:Nat):Ck:=⟨ts,g,tmsL ts g⟩
abbrev Scp:=List (tZ×Kd)
abbrev Dg:=Int×Int
abbrev Res:=Except Dg (Option Kd)
def yH(c:Ck)(s:Scp)(nm:tZ)(pos:Int):Res:=
 match y9 nm s with
 |v :: _ => .ok (some v.2)
 | []=>match means c.ts nm with
  | [] => .error (40,pos)
  | [k] => .ok (some k)
  |_ => .error (44,pos)
def vt(op:Int)(a b:Kd):Kd:=if op=6\/op=14 then kSum a b else if op=7 then ZE a b else a
def binK(ns:Nat)(op:Int)(a:Kd):Kd:=if op=12 then kClo a else if op=13 then kSum (kClo a) (zu ns 2) else kTr a
def zy(ns:Nat)(op n pos:Int)(l:List (Option Kd)):Res:=
 if op=2 then .ok (some ⟨n,[]⟩)
 else if op=3 then .ok (some (zu ns 1))
 else if op=4 then .ok (some (zu ns 2))
 else match l with
  | [a]=>if op=5 then .ok a else match a with
   |some a=>if op=11\/op=12\/op=13 then (if a.ar=2 then .ok (some (binK ns op a)) else .error (42,pos)) else .ok none
   |none => .ok none
  | [some a,some b] =>
   if op=6\/op=14\/op=7\/op=8\/op=32\/op=33 then (if a.ar=b.ar then .ok (some (vt op a b)) else .error (42,pos))
   else if op=9 then (if 1<=a.ar+b.ar-2/\a.ar+b.ar-2<=3 then .ok (some (zL a b)) else .error (42,pos))
   else if op=10 then (if a.ar+b.ar<=3 then .ok (some (uB a b)) else .error (42,pos))
   else .ok none
  |_ => .ok none
def uC(i:Int)(k:Kd):Bool:=k.ts.all fun t=>decide (t.getD 0 0=i)
mutual
def exam(c:Ck)(s:Scp)(inn:Bool):Nd->Res
 | .mk op nm n ks pos =>
  if (inn&&zX c op nm)=true then .error (46,pos)
  else if op=1 then yH c s nm pos
  else if op=47 then
   if (c.ts.sT.any fun p=>decide (p.name=nm))=true then
    match zl c nm with
    |none => .error (45,pos)
    |some p=>match c.ts.sT[p]? with
     |none => .error (45,pos)
     |some g=>if g.params.length=ks.length then zO c s pos g.params ks else .error (45,pos)
   else .error (40,pos)
  else if op=15\/op=45\/op=46 then z7 c s (inn||decide (op=15)) nm pos ks
  else match qL c s (inn||decide (op=12)||decide (op=13)) ks with
   | .error e => .error e
   | .ok l=>zy c.ts.sS.length op n pos l
def qL(c:Ck)(s:Scp)(inn:Bool):List Nd->Except Dg (List (Option Kd))
 | [] => .ok []
 |k :: ks=>match exam c s inn k with
  | .error e => .error e
  | .ok a=>match qL c s inn ks with
   | .error e => .error e
   | .ok l => .ok (a :: l)
def zO(c:Ck)(s:Scp)(pos:Int):List (tZ×Int)->List Nd->Res
 |_,[] => .ok none
 | [],_ => .ok none
 |p :: g,k :: ks=>match exam c s true k with
  | .error e => .error e
  | .ok none => .error (42,pos)
  | .ok (some a)=>if a.ar=1 then (if uC p.2 a=true then zO c s pos g ks else .error (43,pos)) else .error (42,pos)
def z7(c:Ck)(s:Scp)(inn:Bool)(nm:tZ)(pos:Int):List Nd->Res
 | [] => .ok none
 |k :: ks=>match exam c s inn k with
  | .error e => .error e
  | .ok none => .error (42,pos)
  | .ok (some a)=>if a.ar=1 then (match qL c ((nm,a) :: s) inn ks with
    | .error e => .error e
    | .ok _ => .ok (some a)) else .error (42,pos)
end
def zz(env:List (tZ×Int)):Scp:=env.foldl (fun s p=>(p.1,kOf [p.2]) :: s) []
def dgOf:Res->Dg
 | .ok _=>(0,0)
 | .error e=>e
def jp(c:Ck)(env:List (tZ×Int))(n:Nd):Dg:=if 30<=n.op then dgOf (exam c (zz env) false n) else (43,n.pos)
def zQ(ts:TS)(env:List (tZ×Int))(n:Nd):Dg:=jp (mkCk ts ts.sT.length) env n
end P1
end Go.Proofs.YtlnbdknjkmmgbaaGreatDoor
namespace Go.Ev
open Go
structure KeyT (P:qb) (kt:qd) {κ:Type} [DecidableEq κ] (kenc:κ->AV) (ok:κ->Prop):Prop where
 eq:∀ a b,ok a->ok b->jO P kt (kenc a) (kenc b)=some (decide (a=b))
 kok:∀ a,ok a->jb P kt (kenc a)=true
section
variable {κ α:Type} [DecidableEq κ]
def yX(k:κ):List (κ×α)->Nat->Option Nat
 | [],_=>none
 |e :: C,i=>if k=e.1 then some i else yX k C (i+1)
def getK(k:κ):List (κ×α)->Option α
 | []=>none
 |e :: C=>if k=e.1 then some e.2 else getK k C
def setK(k:κ)(v:α):List (κ×α)->List (κ×α)
 | []=>[(k,v)]
 |e :: C=>if k=e.1 then (k,v) :: C else e :: setK k v C
theorem Uh{k}:∀{es:List (κ×α)}{i j},yX k es i=some j->∃ n v,j=i+n/\es[n]?=some (k,v)/\getK k es=some v
 | [],_,_,h=>by simp[yX]at h
 |e :: es,i,j,h=>by
  unfold yX at h;unfold getK;split at h
  .simp_all
  .rename_i g
   obtain⟨n,v,rfl,l,o⟩:=Uh h;exact⟨n+1,v,zOm,zUs l,by rw[if_neg g];exact o⟩
theorem Ui{k}:∀{es:List (κ×α)}{i},yX k es i=none->getK k es=none/\∀ v,setK k v es=es++[(k,v)]
 | [],_,_=>⟨rfl,fun _=>rfl⟩
 |e :: es,i,h=>by
  unfold yX at h;split at h
  .grind
  .rename_i g
   obtain⟨j,l⟩:=Ui h;simp_all[getK,if_neg,setK,List.cons_append]
theorem Xw{k v}:∀{es:List (κ×α)}{i n},yX k es i=some (i+n)->setK k v es=es.set n (k,v)
 | [],_,_,h=>by simp[yX]at h
 |e :: es,i,n,h=>by
  unfold yX at h;split at h
  .simp_all [qo,setK]
  .rename_i g
   obtain⟨m,l,o,_⟩:=Uh h;have:n=m+1:=zOm;subst this;have j:yX k es (i+1)=some (i+1+m):=by rw[h,Nat.add_assoc,Nat.add_comm 1 m]
   simp only[setK,if_neg g,Xw (v:=v) j,List.set_cons_succ]
theorem nL{k v}:∀{es:List (κ×α)}{x},x∈(setK k v es).map Prod.fst↔x=k\/x∈es.map Prod.fst
 | [],x=>by simp[setK]
 |e :: es,x=>by
  unfold setK;split
  .rename_i g;subst g;simp
  .simp only[za,qy,nL]
   constructor
   .rintro (h|h|h)
    .exact .inr (.inl h)
    .exact .inl h
    .exact .inr (.inr h)
   .rintro (h|h|h)
    .exact .inr (.inl h)
    .exact .inl h
    .exact .inr (.inr h)
theorem u6{k v}:∀{es:List (κ×α)},(es.map Prod.fst).Nodup->((setK k v es).map Prod.fst).Nodup
 | [],_=>by simp[setK]
 |e :: es,h=>by
  unfold setK;split
  .rename_i g;subst g;simpa using h
  .rename_i g
   rw[za,jX]at h⊢;exact⟨fun i=>(nL.1 i).elim (fun e=>g e.symm) h.1,u6 h.2⟩
theorem jy{k x v}:∀{es:List (κ×α)},getK x (setK k v es)=if x=k then some v else getK x es
 | []=>by simp[setK,getK]
 |e :: es=>by
  unfold setK;split
  .grind [getK]
  .rename_i i
   by_cases g:x=e.1
   .have:x≠k:=fun h=>i (by rw[<-h,g])
    rw[if_neg this];simp[getK,g]
   .simp only[getK,if_neg g,jy]
theorem Qs{k v}:∀{es:List (κ×α)},(es.map Prod.fst).Nodup->(getK k es=some v↔(k,v)∈es)
 | [],_=>by simp[getK]
 |e :: es,h=>by
  rw[za,jX]at h;unfold getK;by_cases g:k=e.1
  .rw [if_pos g]
   subst g;refine⟨fun h=>?_,fun j=>?_⟩
   .cases h;exact List.mem_cons_self
   .rcases qy.1 j with i|i
    .rw [<-i]
    grind
  .rw [if_neg g,Qs h.2,qy]
   exact⟨.inr,fun h=>h.elim (fun e=>absurd (congrArg Prod.fst e) g) id⟩
def delK(k:κ):List (κ×α)->List (κ×α)
 | []=>[]
 |e :: C=>if k=e.1 then C else e :: delK k C
theorem Xx{k}:∀{es},(es.map Prod.fst).Nodup->∀{x:κ×α},x∈delK k es↔x∈es/\x.1≠k
 | [],_,x=>by simp[delK]
 |e :: es,h,x=>by
  rw[za,jX]at h;unfold delK;by_cases g:k=e.1
  .rw [if_pos g]
   refine⟨fun j=>⟨List.mem_cons_of_mem _ j,fun l=>?_⟩,fun j=>?_⟩
   .grind
   grind
  .rw [if_neg g,qy,qy,Xx h.2]
   refine⟨fun i=>?_,fun i=>?_⟩
   .rcases i with rfl|i
    .exact ⟨.inl rfl,fun e=>g e.symm⟩
    grind
   grind
theorem Xy{k}:∀{es:List (κ×α)},(delK k es).Sublist es
 | []=>by simp[delK]
 |e :: es=>by
  unfold delK;split
  .exact List.sublist_cons_self _ _
  .exact Xy.cons_cons _
theorem ZF{k}{es:List (κ×α)}(h:(es.map Prod.fst).Nodup):((delK k es).map Prod.fst).Nodup:=h.sublist (Xy.map _)
theorem Qt{k x}:∀{es:List (κ×α)},(es.map Prod.fst).Nodup->getK x (delK k es)=if x=k then none else getK x es
 | [],_=>by simp[delK,getK]
 |e :: es,h=>by
  rw[za,jX]at h;unfold delK;by_cases i:k=e.1
  .rw [if_pos i]
   by_cases g:x=k
   .rw [if_pos g]
    cases j:getK x es with
    |none=>rfl
    |some v=>exact absurd (qn.2 ⟨_,(Qs h.2).1 j,by rw[g,i]⟩) h.1
   simp_all[if_neg,getK]
  .rw [if_neg i]
   by_cases g:x=e.1
   .have:x≠k:=fun l=>i (by rw[<-l,g])
    rw[if_neg this];simp[getK,g]
   simp_all[getK,if_neg,Qt]
theorem nM{k}:∀{es:List (κ×α)}{i},(match yX k es i with|some j=>es.eraseIdx (j-i)|none=>es)=delK k es
 | [],i=>by simp[yX,delK]
 |e :: es,i=>by
  unfold yX delK;by_cases g:k=e.1
  .simp [g]
  .rw [if_neg g,if_neg g,<-nM (i:=i+1)]
   cases l:yX k es (i+1) with
   |none=>rfl
   |some j =>
    obtain⟨n,v,o,_⟩:=Uh l;simp only;rw[show j-i=(j-(i+1))+1 by omega,List.eraseIdx_cons_succ]
abbrev encK(g:κ->AV)(venc:α->AV)(es:List (κ×α)):List (AV×AV):=es.map fun e=>(g e.1,venc e.2)
variable {P:qb} {kt:qd} {kenc:κ->AV} {ok:κ->Prop} {venc:α->AV}
theorem KeyT.find(h:KeyT P kt kenc ok){k}(g:ok k):∀{es i},(∀ e,e∈es->ok e.1)->zn P kt (kenc k) (encK kenc venc es) i=some (yX k es i)
 | [],i,_=>rfl
 |e :: es,i,j=>by
  simp only[encK,za,zn,h.eq k e.1 g (j e zSp),yX];by_cases l:k=e.1
  .simp [l]
  .simp only[l,decide_false,if_false]
   exact KeyT.find h g (fun e o=>j e (zP1 o))
theorem KeyT.update(h:KeyT P kt kenc ok){et t}(l:mapT P t=some (kt,et)){mu b es}(o:mu[b]?=some (.mp (encK kenc venc es))){k v}(g:ok k)(p:∀ e,e∈es->ok e.1) :
  ju P mu t (.mp b) (kenc k) (venc v)=some (mu.set b (.mp (encK kenc venc (setK k v es)))):=by
 simp only[ju,l,o,h.kok k g,if_true,h.find (venc:=venc) g p,zd];cases i:yX k es 0 with
 |none=>simp only[Z9,(Ui i).2 v,encK,zx,za,List.map_nil]
 |some j =>
  have C:yX k es 0=some (0+j):=by rw[i,yM]
  simp only[Z9,Xw (v:=v) C,encK,List.map_set]
theorem KeyT.updateD(h:KeyT P kt kenc ok){et t}(l:mapT P t=some (kt,et)){mu b es}(o:mu[b]?=some (.md (encK kenc venc es))){k v}(g:ok k)(p:∀ e,e∈es->ok e.1) :
  ju P mu t (.mp b) (kenc k) (venc v)=some (mu.set b (.md (encK kenc venc (setK k v es)))):=by
 simp only[ju,l,o,h.kok k g,if_true,h.find (venc:=venc) g p,zd];cases i:yX k es 0 with
 |none=>simp only[Z9,(Ui i).2 v,encK,zx,za,List.map_nil]
 |some j =>
  have C:yX k es 0=some (0+j):=by rw[i,yM]
  simp only[Z9,Xw (v:=v) C,encK,List.map_set]
theorem nN{g j:Type}(f:g->j):∀(l:List g)(i),(l.map f).eraseIdx i=(l.eraseIdx i).map f
 | [],_=>rfl
 |x :: l,0=>rfl
 |x :: l,i+1=>by simp[nN f l i]
theorem KeyT.delete(h:KeyT P kt kenc ok){et t l}(o:mapT P t=some (kt,et)){mu b es}(p:mu[b]?=some (.mp (encK kenc venc es))){k}(g:ok k)(C:∀ e,e∈es->ok e.1){K}
  (I:K (.tup []) (mu.set b (.md (encK kenc venc (delK k es))))):uu P mu .delete #[t,l] [.mp b,kenc k] K:=by
 refine qiO o p (h.kok k g) (h.find (venc:=venc) g C) ?_;have:=nM (k:=k) (es:=es) (i:=0);rw[<-this]at I;cases J:yX k es 0 with
 |none=>grind [delE]
 |some j =>
  simp_all[Nat.sub_zero,delE,encK,nN]
theorem KeyT.look(h:KeyT P kt kenc ok){et t}(l:mapT P t=some (kt,et)){mu m es}(o:jD mu m=some (encK kenc venc es)){k}(g:ok k)(p:∀ e,e∈es->ok e.1){z}(C:qC P et=some z)(b) :
  jn P mu t m (kenc k) b=some (match getK k es with|some v=>if b then .tup [venc v,.sc (.bool true)] else venc v|none=>if b then .tup [z,.sc (.bool false)] else z):=by
 simp only[jn,l,o,h.kok k g,if_true,h.find (venc:=venc) g p];cases i:yX k es 0 with
 |none=>simp only[(Ui i).1,C,zd]
 |some j =>
  obtain⟨n,v,I,J,R⟩:=Uh i
  grind
theorem KeyT.lookS(h:KeyT P kt kenc ok){et t}(g:mapT P t=some (kt,et)){mu es k}(j:ok k)(i:∀ e,e∈es->ok e.1){z}(l:qC P et=some z)(b) :
  yj P mu t (.ims (encK kenc venc es)) (kenc k) b=some (match getK k es with|some v=>if b then .tup [venc v,.sc (.bool true)] else venc v|none=>if b then .tup [z,.sc (.bool false)] else z):=by
 have o:(encK kenc venc es).all (fun e=>jb P kt e.1)=true:=q8.2 fun e p=>by
  obtain⟨x,C,rfl⟩:=qn.1 p;exact h.kok _ (i x C)
 simp only[yj,g,o,if_true];exact h.look g (m := .im _) rfl j i l b
end
def Uj(n:Nat)(J:List Nat->St->Prop)(seen:List Nat)(Q:qX->St->Prop):qX->St->Prop
 | .normal,U=>∃ i,i<n/\i ∉ seen/\Keep (J (seen++[i])) .mk U
 |e,U=>Q e U
section
variable (n:Nat) (J:List Nat->St->Prop) (seen:List Nat) (Q:qX->St->Prop) (st:St)
@[go_sem ↓] theorem qvQ:(Uj n J seen Q .normal st=∃ i,i<n/\i ∉ seen/\Keep (J (seen++[i])) .mk st)/\(∀ i,Uj n J seen Q (.exit i) st=Q (.exit i) st)/\(∀ v,Uj n J seen Q (.pan v) st=Q (.pan v) st):=by and_intros<;>intros<;>exact eqS rfl
end
section
variable {st:St}{Q:qX->St->Prop}
theorem Xz:∀(n)(l:List Nat),l.Nodup->(∀ i,i∈l->i<n)->l.length<=n
 | 0,l,_,h=>by
  cases l with
  |nil=>simp
  |cons a l=>exact absurd (h a zSp) zOm
 |n+1,l,g,h=>by
  have j:=Xz n (l.erase n) (g.erase n) (fun i o=>by
   have t:=h i (List.mem_of_mem_erase o);have C:i≠n:=fun e=>by
    subst e;exact(List.Nodup.not_mem_erase g) o
   omega)
  by_cases p:n∈l
  .rw [List.length_erase_of_mem p]at j;omega
  .rw [List.erase_of_not_mem p]at j;omega
theorem qi3{n i seen}(o:seen.Nodup)(p:∀ j,j∈seen->j<n)(t:i<n)(C:i ∉ seen):(seen++[i]).Nodup/\(∀ j,j∈seen++[i]->j<n)/\n-(seen++[i]).length<n-seen.length:=by
 have g:(seen++[i]).Nodup:=by
  grind
 have l:∀ j,j∈seen++[i]->j<n:=by
  grind
 refine⟨g,l,?_⟩;have:=Xz n _ g l;simp at this⊢;omega
theorem qk.seen{P pl body}(n J)(o:J [] st)(h:∀ seen st,seen.Nodup->(∀ i,i∈seen->i<n)->J seen st->awp P pl body (Uj n J seen Q) st):qk P pl body Q st:=by
 refine tW (fun m st=>∃ seen,m=n-seen.length/\seen.Nodup/\(∀ i,i∈seen->i<n)/\J seen st) n ⟨[],zSp,zSp,zSp,o⟩ ?_;rintro m st ⟨seen,rfl,j,l,p⟩;refine awp.mono body (h seen st j l p) (fun e st g=>?_);cases e with
 |normal =>
  obtain⟨i,t,C,I⟩:=g;obtain⟨R,T,U⟩:=qi3 j l t C;exact⟨_,U,seen++[i],rfl,R,T,I⟩
 |exit i=>exact g
 |ret=>exact g
 |pan v=>exact g
theorem aA{P pl body}(N)(I:Nat->St->Prop)(g:I 0 st)(h:∀ k st,k<=N->I k st->awp P pl body (upQ (fun k=>Keep (I k) .mk) N k Q) st):qk P pl body Q st:=
 qk.up N (fun k=>Keep (I k) .mk) g h
theorem aC{p}(h:p st):Keep p .mk st:=h
theorem nO{m:Mu}{a}(i:m[0]?=some a):∃ g,m=a :: g:=by
 match m,i with
 |a :: g,i=>grind
end
end Go.Ev
namespace Go.Proofs.YtlnbdknjkmmgbaaGreatDoor
open Go Go.Ev Go.Proofs Tryz
namespace YM
open Y1 Y2 Y3 P1
def okT(t:Tp):Prop:=t.length=3
theorem nP:∀ a b,a.length=b.length->aEqs (i8s a) (i8s b)=some (decide (a=b))
 | [],[],_=>rfl
 |x :: a,y :: b,h=>by
  have g:=nP a b (zUs h);simp only[i8s,za,aEqs]at g⊢;simp only[g];by_cases i:x=y<;>simp[i]
 | [],_ :: _,h=>by simp at h
 |_ :: _,[],h=>by simp at h
theorem keyT:KeyT qc 134 aT okT:=by
 refine⟨fun a b g i=>?_,fun a g=>?_⟩
 .simp_all [go_sem,okT,nP]
 simp_all[go_sem,okT]
theorem keyS:KeyT qc 9 aS (fun _=>True):=by
 refine⟨fun a b _ _=>?_,fun a _=>zSi⟩;simp[go_sem];by_cases h:a=b
 .subst h
  rw[decide_eq_true rfl];have:(a.data == a.data)=true:=beq_self_eq_true _;exact this
 grind [decide_eq_false,absurd,WP]
abbrev eT(l:List Tp):List (AV×AV):=l.map fun t=>(aT t,aB true)
theorem XC(l):eT l=encK aT aB (l.map fun t=>(t,true)):=by simp[eT,encK]
theorem qi4(l t):setK t true (l.map fun t=>(t,true))=(ins l t).map fun t=>(t,true):=by
 unfold ins;induction l with
 |nil=>simp[setK]
 |cons x l g =>
  by_cases h:t=x
  .grind [setK]
  .simp only[za,setK,h,if_false,g,qy,false_or]
   grind
theorem updT{mu b l}(i:mu[b]?=some (.mp (eT l))){t}(j:okT t)(p:∀ x,x∈l->okT x) :
  ju qc mu 123 (.mp b) (aT t) (aB true)=some (mu.set b (.mp (eT (ins l t)))):=by
 have:=keyT.update (et:=4) (t:=123) zSi (mu:=mu) (b:=b) (venc:=aB) (es:=l.map fun t=>(t,true)) (by rw[i,XC]) (k:=t) (v:=true) j (fun e o=>by
  obtain⟨x,J,rfl⟩:=qn.1 o
  grind)
 rw[this,qi4,<-XC]
theorem qi5(l:List Tp)(t):getK t (l.map fun t=>(t,true))=if t∈l then some true else none:=by
 induction l with
 |nil=>rfl
 |cons x l g =>
  by_cases h:t=x
  .grind [getK]
  simp_all[za,getK,if_false,qy,false_or]
theorem lookT{mu l t}(i:okT t)(o:∀ x,x∈l->okT x) :
  yj qc mu 123 (.ims (eT l)) (aT t) false=some (aB (decide (t∈l))):=by
 have:=keyT.lookS (et:=4) (t:=123) zSi (mu:=mu) (venc:=aB) (es:=l.map fun t=>(t,true)) (k:=t) i (fun e j=>by
  obtain⟨x,I,rfl⟩:=qn.1 j
  grind) (z:=aB false) zSi false
 grind [XC,qi5]
end YM
namespace Y5
open Y2 Y3 P1 YM
theorem Qu{l}{i:Nat}{e}(h:(eT l)[i]?=some e):∃ x,l[i]?=some x/\e=(aT x,aB true):=by
 rw[zB,Option.map_eq_some_iff]at h;obtain⟨x,g,rfl⟩:=h
 grind
theorem nQ(a b:Kd)(g caps mu)(I:(Tp->Tp->Prop)->Mu->Prop)(h0:I (fun _ _=>False) mu)
  (hS:∀ S p a2,(∀ i,i<mu.length->a2[i]?=p[i]?)->I S p->I S a2) (ha:∀ x,x∈a.ts->okT x) (hb:∀ x,x∈b.ts->okT x)
  (hf:∀ S x y p,x∈a.ts->y∈b.ts->mu.length<=p.length->I S p->qv qc g ([aT x,aT y]++caps) p fun e m=>e = .ret (.tup [])/\I (fun u v=>S u v\/(u=x/\v=y)) m/\p.length<=m.length/\∀ i,mu.length<=i->i<p.length->m[i]?=p[i]?) :
  qv qc 250 [eKd a,eKd b,.fn (.func g) [] caps] mu fun e m=>e = .ret (.tup [])/\I (fun u v=>u∈a.ts/\v∈b.ts) m/\mu.length<=m.length:=by
 refine qSW call250 func250 rfl {} ?_;simp[go_sem];refine qk.seen a.ts.length (fun seen U=>U.tm 2 = .fn (.func g) [] caps/\U.tm 4 = .ip (cKd b)/\U.tm 10 = .ptr mu.length 0/\mu.length<U.mu.length/\U.mu[mu.length]?=some (.it (eT a.ts) seen)/\I (fun u v=>(∃ i,i∈seen/\a.ts[i]?=some u)/\v∈b.ts) U.mu) ?_ ?_
 .simp [go_sem]
  grind
 .rintro seen U ak al ⟨e2,e4,T,hl,a7,hI⟩
  simp[go_sem,T];refine⟨mu.length,eT a.ts,seen,rfl,a7,fun i e hi a8=>?_,fun a3=>?_⟩
  .obtain ⟨x,hx,rfl⟩:=Qu hi
   have a4:x∈a.ts:=qQ hx;have a9:x.length=3:=ha x a4;have aa:i<a.ts.length:=(qh.1 hx).1;obtain⟨x0,x1,x2,rfl⟩:∃ x0 x1 x2,x=[x0,x1,x2]:=by
    match x,a9 with
    | [x0,x1,x2],_=>simp
   have an:∀(k:Nat)(c:Cell),k<mu.length->(U.mu.set mu.length c)[k]?=U.mu[k]?:=fun k c C=>zGl
   have ao:(U.mu.set mu.length (.it (eT a.ts) (seen++[i])))[mu.length]?=some (.it (eT a.ts) (seen++[i])):=qz hl;simp[go_sem,e4,T,hi,hl];refine qk.seen b.ts.length (fun sb o=>o.tm 2 = .fn (.func g) [] caps/\o.tm 4 = .ip (cKd b)/\o.tm 10 = .ptr mu.length 0/\o.tm 6 = .ptr U.mu.length 0/\o.tm 17 = .ptr (U.mu.length+1) 0/\U.mu.length+1<o.mu.length /\
    o.mu[mu.length]?=some (.it (eT a.ts) (seen++[i]))/\o.mu[U.mu.length]?=some (.arr (i8s [x0,x1,x2]))/\o.mu[U.mu.length+1]?=some (.it (eT b.ts) sb) /\
    I (fun u v=>((∃ i,i∈seen/\a.ts[i]?=some u)/\v∈b.ts)\/(u=[x0,x1,x2]/\∃ j,j∈sb/\b.ts[j]?=some v)) o.mu) ?_ ?_
   .simp [go_sem,e2,e4,T]
    grind
   .rintro sb o ai aj ⟨f2,f4,f10,f6,f17,a0,g1,g2,g3,a5⟩
    simp[go_sem,f17];refine⟨U.mu.length+1,eT b.ts,sb,rfl,g3,fun j e hj ab=>?_,fun a1=>?_⟩
    .obtain ⟨y,hy,rfl⟩:=Qu hj
     have a6:y∈b.ts:=qQ hy;have ad:y.length=3:=hb y a6;have ae:j<b.ts.length:=(qh.1 hy).1;obtain⟨y0,y1,y2,rfl⟩:∃ y0 y1 y2,y=[y0,y1,y2]:=by
      match y,ad with
      | [y0,y1,y2],_=>simp
     have J:∀(c:Cell)(l:List Cell)(k:Nat),k<o.mu.length->k≠U.mu.length+1->((o.mu.set (U.mu.length+1) c)++l)[k]?=o.mu[k]?:=fun c l k h1 h2=>by
      grind
     have af:=fun c l=>(J c l U.mu.length zOm zOm).trans g2
     simp[go_sem,f2,f6,f17,hj,a0,af];refine fY (hf _ [x0,x1,x2] [y0,y1,y2] _ a4 a6 ?_ (hS _ o.mu _ (fun k C=>J _ _ k zOm zOm) a5)) ?_ ?_
     .simp;omega
     .rintro r m ⟨e,ag,ah,R⟩
      cases e;simp only[zh,List.length_set,yh,List.length_nil]at ah R;simp[go_sem];refine⟨j,ae,ab,?_⟩;simp[Keep,go_sem,f2,f4,f10,f6,f17];refine⟨zOm,?_,?_,?_,?_⟩
      .rw [R _ zOm zOm,J _ _ _ zOm zOm,g1]
      .rw [R _ zOm zOm,J _ _ _ zOm zOm];exact g2
      .rw [R _ zOm zOm,qG (zUs a0),qz a0]
      .refine cast (congrArg (fun S=>I S m) ?_) ag
       funext u v;refine propext ⟨?_,?_⟩
       .rintro ((h|⟨rfl,k,C,t⟩)|⟨rfl,rfl⟩)
        .exact .inl h
        .exact .inr ⟨rfl,.inl ⟨k,C,t⟩⟩
        .exact .inr ⟨rfl,.inr hy⟩
       .rintro (h|⟨rfl,⟨k,C,t⟩|t⟩)
        .exact .inl (.inl h)
        .exact .inl (.inr ⟨rfl,k,C,t⟩)
        .rw [hy]at t;cases t
         exact .inr ⟨rfl,rfl⟩
     grind
    .simp [go_sem]
     refine⟨i,aa,a8,?_⟩;simp[Keep,go_sem,f2,f4,f10];refine⟨zOm,g1,cast (congrArg (fun S=>I S o.mu) ?_) a5⟩;funext u v;refine propext ⟨?_,?_⟩
     .rintro (⟨⟨k,C,P⟩,t⟩|⟨rfl,k,C,t⟩)
      .exact ⟨.inl ⟨k,C,P⟩,t⟩
      .exact ⟨.inr hx,qQ t⟩
     .rintro ⟨⟨k,C,P⟩|P,t⟩
      .exact .inl ⟨⟨k,C,P⟩,t⟩
      .rw [hx]at P;cases P
       obtain⟨j,hj⟩:=List.mem_iff_getElem?.1 t;exact .inr ⟨rfl,j,a1 j (by simpa using (qh.1 hj).1),hj⟩
  .simp [go_sem]
   refine⟨cast (congrArg (fun S=>I S U.mu) ?_) hI,zOm⟩;funext u v;refine propext ⟨?_,?_⟩
   .rintro ⟨⟨k,C,P⟩,t⟩
    exact⟨qQ P,t⟩
   .rintro ⟨P,t⟩
    obtain⟨k,C⟩:=List.mem_iff_getElem?.1 P;exact⟨⟨k,a3 k (by simpa using (qh.1 C).1),C⟩,t⟩
end Y5
namespace Y6
open Y2 Y3 P1 YM Y5
section
variable {c z:Cell}{a b l:List Tp}{m:Nat}{f:Tp->Tp->Option Tp}{S:Tp->Tp->Prop}
abbrev r8(x:Int):List AV:=[.sc (.int .i8 x)]
theorem Qv(xs:List Int):qW 1 (xs.map r8):=fun r g=>by
 obtain⟨n,_,rfl⟩:=qn.1 g;exact⟨rfl,rfl⟩
theorem qi6(full)(xs:List Int)(p:xs.length<=1000)(mu):qv qc 265 [.lst full (xs.map r8)] mu fun e m=>∃ av,e = .ret av/\OwnF mu.length m 1 av (xs.map r8)/\∀ i,i<mu.length->m[i]?=mu[i]?:=by
 refine qSW call265 func265 rfl {} ?_;cases xs with
 |nil =>
  simp[go_sem];refine⟨OwnF.nil (qj _),?_⟩;refine qw.ownF (lo:=mu.length) (e:=132) (sz:=1) (bt:=1) (zv := .sc (.int .i8 0)) (xs:=[]) (ys:=[]) zSi zSi zSi rfl rfl zOm zOm (OwnF.nil (qj _)) (by simp[qA]) (Qv []) (Qv []) zSp ?_;simp_all[go_sem]
 |cons x xs =>
  simp[go_sem];refine qw.ownF (lo:=mu.length) (e:=132) (sz:=1) (bt:=1) (zv := .sc (.int .i8 0)) (xs:=[]) (ys:=(x :: xs).map r8) zSi zSi zSi rfl rfl zOm zOm (OwnF.nil (qj _)) (by simp[qA]) (Qv []) (Qv _) (by grind) ?_;simp_all[go_sem]
theorem put3(zs):putCells [.sc (.int .i8 0),.sc (.int .i8 0),.sc (.int .i8 0)] 0 ((zs.map r8).take 3).flatten=i8s (pad zs):=by
 match zs with
 | []=>rfl
 | [a]=>rfl
 | [a,b]=>rfl
 |a :: b :: c :: l=>simp[putCells,pad]
theorem nR(x y)(n m s:Nat)(hx:okT x)(hy:okT y)(hn:s<=n)(a0:n-s<=3)(hm:s<=m)(a3:m<=3)(hs:s<=1):qg qc 252 [aT x,aI n,aT y,aI m,aI s] (aT (conc x n y m s)):=by
 unfold okT at hx hy;refine qSV call252 func252 rfl ?_;obtain⟨j,o,C,rfl⟩:∃ j o C,x=[j,o,C]:=by
  match x,hx with
  | [j,o,C],_=>simp
 obtain⟨I,J,P,rfl⟩:∃ I J P,y=[I,J,P]:=by
  match y,hy with
  | [I,J,P],_=>simp
 obtain⟨d,rfl⟩:∃ d,n=d+s:=⟨n-s,zOm⟩;have hd:d+s-s=d:=zOm;rw[hd]at a0;simp[go_sem];refine fG [0,1,2,3,4,6,7,8,5,9,10] [(0,0,[]),(1,0,[]),(2,0,[]),(3,0,[]),(4,0,[]),(6,0,[]),(7,0,[]),(8,0,[]),(5,1,[]),(9,1,[]),(10,1,[])] zKr zKr zSi ?_;have w1:ql.wrap (d:Int)=(d:Int):=zWr;have a1:(List.take d [[AV.sc (.int .i8 j)],[.sc (.int .i8 o)],[.sc (.int .i8 C)]])=([j,o,C].take d).map r8:=by rw[List.map_take];rfl
 have a2:(List.drop s (List.take m [[AV.sc (.int .i8 I)],[.sc (.int .i8 J)],[.sc (.int .i8 P)]]))=(([I,J,P].take m).drop s).map r8:=by rw[List.map_drop,List.map_take];rfl
 have h3:((d:Int)<=3):=zOm;have h4:((m:Int)<=3):=zOm;have h5:((s:Int)<=m):=zOm;have h6:((s:Int)<3):=zOm;simp[go_sem,w1,h3,h4,h5,h6];rw[a1];refine fZ (qi6 _ ([j,o,C].take d) zSo _) ?_ ?_
 .rintro r mm ⟨t,e,ho,hk⟩
  cases e;simp[go_sem];rw[a2];refine qw.ownF (lo:=2) (e:=132) (sz:=1) (bt:=1) (zv := .sc (.int .i8 0)) (xs:=([j,o,C].take d).map r8) (ys:=(([I,J,P].take m).drop s).map r8) zSi zSi zSi rfl rfl zOm zOm ho (by simp[qA]) (Qv _) (Qv _) zSo ?_;intro t U R a4;simp[go_sem];have g0:U[0]?=some (.arr [.sc (.int .i8 0),.sc (.int .i8 0),.sc (.int .i8 0)]):=by grind
  have g1:U[1]?=some (.arr [.sc (.int .i8 0),.sc (.int .i8 0),.sc (.int .i8 0)]):=by grind
  rw[<-zx]at R;have T:=R.1.rows (Qv _).ok;refine Xp (sz:=1) zSi g1 zSp T (Qv _) ?_;obtain⟨g,rfl⟩:∃ g,U = .arr [.sc (.int .i8 0),.sc (.int .i8 0),.sc (.int .i8 0)] :: .arr [.sc (.int .i8 0),.sc (.int .i8 0),.sc (.int .i8 0)] :: g:=by
   match U,g0,g1 with
   |a :: b :: g,g0,g1=>grind
  rw[put3];simp[go_sem,pad,conc,hd];exact .hf _ (HF.agg fun c hc=>by simp at hc;rcases hc with rfl|rfl|rfl<;>exact HF.sc _)
 grind
theorem JK(n mu):qv qc 208 [aI n] mu fun e m=>e = .ret (.agg [aI n,.mp (mu.length+1)])/\∃ c,m=mu++[c,.mp []]:=by
 refine qSW call208 func208 rfl {} ?_;simp[go_sem]
theorem hfA3(a b c):HF (.agg [.sc a,.sc b,.sc c]):=HF.agg fun x g=>by simp at g;rcases g with rfl|rfl|rfl<;>exact HF.sc _
theorem wr0:ql.wrap 0=0:=rfl
theorem wr1:ql.wrap 1=1:=rfl
theorem wr2:ql.wrap 2=2:=rfl
structure okK (k:Kd):Prop where
 ar:1<=k.ar/\k.ar<=3
 len:∀ t,t∈k.ts->okT t
 nd:k.ts.Nodup
theorem Uk(x n y m s):okT (conc x n y m s):=rfl
theorem qi7(a b)(ha:okK a)(hb:okK b)(x y)(R:okT x)(T:okT y)(mu o m ar l)(ho:mu[o]?=some (.arr [aI ar,.mp m]))(hm:mu[m]?=some (.mp (eT l)))(hl:∀ t,t∈l->okT t) :
  qv qc 251 [aT x,aT y,.ip (cKd a),.ptr o 0,.ip (cKd b)] mu fun e m'=>e = .ret (.tup [])/\m'=if x.getD (a.ar.toNat-1) 0=y.getD 0 0 then mu.set m (.mp (eT (ins l (conc x a.ar.toNat y b.ar.toNat 1)))) else mu:=by
 refine qSW call251 func251 rfl {} ?_;obtain⟨a1,a2⟩:=ha.ar;obtain⟨a3,a4⟩:=hb.ar;obtain⟨n,hn⟩:∃ n:Nat,a.ar=n+1:=⟨(a.ar-1).toNat,zOm⟩;obtain⟨k,hk⟩:∃ k:Nat,b.ar=k:=⟨b.ar.toNat,zOm⟩;have a5:n<3:=zOm;have U:=nR x y (n+1) k 1 R T zOm zOm zOm zOm zOm;unfold okT at R T;obtain⟨j,p,C,rfl⟩:∃ j p C,x=[j,p,C]:=by
  match x,R with
  | [j,p,C],_=>exact⟨_,_,_,rfl⟩
 obtain⟨I,J,P,rfl⟩:∃ I J P,y=[I,J,P]:=by
  match y,T with
  | [I,J,P],_=>exact⟨_,_,_,rfl⟩
 have a0:=updT hm (Uk [j,p,C] (n+1) [I,J,P] k 1) hl;have g:n=0\/n=1\/n=2:=zOm;rcases g with rfl|rfl|rfl
 all_goals
  simp[go_sem];refine tR zKr ?_;simp[go_sem,hn,hk,wr0,wr1,wr2];refine tY (fun i=>?_) (fun i=>?_)
  .simp at i
   subst i;simp[go_sem];refine tR zKr ?_;simp[go_sem,ho,hk,hn];refine fR U (.zk (hfA3 _ _ _) (.zs (.zk (hfA3 _ _ _) (.zs (.zs .nil))))) ?_;refine tH _ a0 ?_;simp[go_sem]
  .simp at i
   simp[go_sem,i]
theorem qi8(a b)(U:okK a)(hb:okK b)(a0:a.ar+b.ar<=3)(x y)(J:okT x)(P:okT y)(mu o m ar l)(ho:mu[o]?=some (.arr [aI ar,.mp m]))(hm:mu[m]?=some (.mp (eT l)))(hl:∀ t,t∈l->okT t) :
  qv qc 253 [aT x,aT y,.ptr o 0,.ip (cKd a),.ip (cKd b)] mu fun e m'=>e = .ret (.tup [])/\m'=mu.set m (.mp (eT (ins l (conc x a.ar.toNat y b.ar.toNat 0)))):=by
 refine qSW call253 func253 rfl {} ?_;obtain⟨a1,a2⟩:=U.ar;obtain⟨a3,a4⟩:=hb.ar;obtain⟨n,hn⟩:∃ n:Nat,a.ar=n:=⟨a.ar.toNat,zOm⟩;obtain⟨k,hk⟩:∃ k:Nat,b.ar=k:=⟨b.ar.toNat,zOm⟩;have R:=nR x y n k 0 J P zOm zOm zOm zOm zOm;unfold okT at J P;obtain⟨g,i,j,rfl⟩:∃ g i j,x=[g,i,j]:=by
  match x,J with
  | [g,i,j],_=>exact⟨_,_,_,rfl⟩
 obtain⟨p,C,I,rfl⟩:∃ p C I,y=[p,C,I]:=by
  match y,P with
  | [p,C,I],_=>exact⟨_,_,_,rfl⟩
 have T:=updT hm (Uk [g,i,j] n [p,C,I] k 0) hl;simp[go_sem];refine tR zKr ?_;simp[go_sem,ho,hk,hn];refine fR R (.zk (hfA3 _ _ _) (.zs (.zk (hfA3 _ _ _) (.zs (.zs .nil))))) ?_;refine tH _ T ?_;simp[go_sem]
theorem nS(h:l.Nodup):((eT l).map Prod.fst).Nodup:=by
 have e:(eT l).map Prod.fst=l.map aT:=by simp[eT]
 rw[e];refine(List.pairwise_map (f:=aT)).2 (h.imp fun g e=>g ?_);have inj:∀(a b:List Int),i8s a=i8s b->a=b:=by
  intro a;induction a with
  |nil=>intro b h;cases b with
   |nil=>rfl
   |cons=>simp at h
  |cons x a i=>intro b h;cases b with
   |nil=>simp at h
   |cons y b =>
    simp only[i8s,za,List.cons.injEq,AV.sc.injEq,Value.int.injEq,true_and]at h;rw[h.1,i b h.2]
 exact inj _ _ (AV.agg.inj e)
theorem Rd.setT{mu}{k:List Tp}(i:mu[m]?=some (.mp (eT l)))(j:l.Nodup)(o:k.Nodup)(h:∀ t,t∈l↔t∈k):Rd mu (.mp m) (mKd k):=
 fJ i (nS j) (nS o) (fun x=>by
  simp only[eT,qn];constructor
  .rintro ⟨t,g,rfl⟩;exact⟨t,(h t).1 g,rfl⟩
  .rintro ⟨t,g,rfl⟩;exact⟨t,(h t).2 g,rfl⟩) (fun x p=>by
  obtain⟨t,_,rfl⟩:=qn.1 p;exact⟨Xv t,HF.sc _⟩)
def ColM(g:Int)(z c:Cell)(f:Tp->Tp->Option Tp)(S:Tp->Tp->Prop)(m:Mu):Prop:=
 ∃ l,m[0]?=some z/\m[1]?=some c/\m[2]?=some (.mp (eT l))/\m[3]?=some (.arr [aI g,.mp 2])/\l.Nodup/\(∀ t,t∈l->okT t)/\∀ t,t∈l↔∃ x y,S x y/\f x y=some t
theorem ColM.zero(g z c f):ColM g z c f (fun _ _=>False) [z,c,.mp [],.arr [aI g,.mp 2]]:=
 ⟨[],rfl,rfl,rfl,rfl,zSp,zSp,zSp⟩
theorem ColM.same{g j o}(h:∀ i,i<4->o[i]?=j[i]?)(k:ColM g z c f S j):ColM g z c f S o:=by
 obtain⟨l,p,g1,t,C,I,J,P⟩:=k;exact⟨l,by rw[h 0 zOm];exact p,by rw[h 1 zOm];exact g1,by rw[h 2 zOm];exact t,by rw[h 3 zOm];exact C,I,J,P⟩
theorem ColM.step{i}{m:Mu}{x y t}(j:m[0]?=some z)(g1:m[1]?=some c)(o:m[2]?=some (.mp (eT l)))(C:m[3]?=some (.arr [aI i,.mp 2]))(I:l.Nodup)(J:∀ t,t∈l->okT t)(P:∀ t,t∈l↔∃ x y,S x y/\f x y=some t)
  (hf:f x y=some t) (R:okT t):ColM i z c f (fun u v=>S u v\/(u=x/\v=y)) (m.set 2 (.mp (eT (ins l t)))):=by
 have T:2<m.length:=(qh.1 o).1;refine⟨ins l t,?_,?_,qz T,?_,Yi I,fun u U=>?_,fun u=>?_⟩
 .rw [zGl];exact j
 .rw [zGl];exact g1
 .rw [zGl];exact C
 .rcases uz.1 U with h|rfl
  .exact J u h
  .exact R
 .rw [uz,P]
  constructor
  .rintro (⟨p,q,g,e⟩|rfl)
   .exact ⟨p,q,.inl g,e⟩
   .exact ⟨x,y,.inr ⟨rfl,rfl⟩,hf⟩
  .rintro ⟨p,q,g|⟨rfl,rfl⟩,e⟩
   .exact .inl ⟨p,q,g,e⟩
   .rw [hf]at e;exact .inr (Option.some.inj e).symm
theorem ColM.skip{i m x y}(k:ColM i z c f S m)(hf:f x y=none):ColM i z c f (fun u v=>S u v\/(u=x/\v=y)) m:=by
 obtain⟨l,j,g1,o,t,C,I,J⟩:=k;refine⟨l,j,g1,o,t,C,I,fun u=>?_⟩;rw[J];constructor
 .rintro ⟨p,q,g,e⟩;exact⟨p,q,.inl g,e⟩
 .rintro ⟨p,q,g|⟨rfl,rfl⟩,e⟩
  .exact ⟨p,q,g,e⟩
  .rw [hf]at e;exact absurd e zSp
theorem four{m:Mu}{a b d}(i:m[0]?=some a)(g1:m[1]?=some b)(j:m[2]?=some c)(l:m[3]?=some d):∃ g,m=a :: b :: c :: d :: g:=by
 match m,i,g1,j,l with
 |a :: b :: c :: d :: g,i,g1,j,l =>
  simp at i g1 j l;subst i;subst g1;subst j;subst l;exact⟨g,rfl⟩
def ZG(n m:Nat)(x y:Tp):Option Tp:=if x.getD (n-1) 0=y.getD 0 0 then some (conc x n y m 1) else none
theorem Qw{n t}:t∈uA n m a b↔∃ x y,(x∈a/\y∈b)/\ZG n m x y=some t:=by
 unfold uA ZG;rw[vL];simp only[qK,false_or,List.mem_filterMap];constructor
 .rintro ⟨⟨x,y⟩,g,i⟩;exact⟨x,y,Yj.1 g,i⟩
 .rintro ⟨x,y,g,i⟩;exact⟨(x,y),Yj.2 g,i⟩
theorem XD{n}:(uA n m a b).Nodup:=u5 zSp
theorem u7(a b)(g:okK a)(j:okK b):qg qc 211 [eKd a,eKd b] (eKd (zL a b)):=by
 refine qSV call211 func211 rfl ?_;have w1:ql.wrap (a.ar+b.ar)=a.ar+b.ar:=yi (zW2 g.ar j.ar) (zW2 g.ar j.ar);have w2:ql.wrap (a.ar+b.ar-2)=a.ar+b.ar-2:=yi (zW2 g.ar j.ar) (zW2 g.ar j.ar);simp[go_sem,w1,w2];refine fZ (JK _ _) ?_ (by rintro r m ⟨e,_⟩;cases e);rintro r m ⟨e,c,rfl⟩;cases e;simp[go_sem];refine fZ (nQ a b 251 [.ip (cKd a),.ptr 3 0,.ip (cKd b)] _ (ColM (a.ar+b.ar-2) (.arr [aI 0,.sc (.map none)]) c (ZG a.ar.toNat b.ar.toNat)) (ColM.zero _ _ _ _) (fun S m1 m2 h k=>k.same h) g.len j.len ?_) ?_ (by rintro r m ⟨e,_⟩;cases e)
 .rintro S x y m1 hx hy T ⟨l,C,g1,o,p,I,J,P⟩
  refine qv.monoR (qi7 a b g j x y (g.len x hx) (j.len y hy) m1 3 2 _ l p o J) ?_;rintro e m' ⟨rfl,rfl⟩;by_cases R:x.getD (a.ar.toNat-1) 0=y.getD 0 0
  .rw [if_pos R]
   refine⟨rfl,ColM.step C g1 o p I J P (by unfold ZG;rw[if_pos R]) (Uk _ _ _ _ _),zSp,fun i U a1=>?_⟩;simp at U;rw[zGl]
  .rw [if_neg R]
   exact⟨rfl,ColM.skip ⟨l,C,g1,o,p,I,J,P⟩ (by unfold ZG;rw[if_neg R]),qj _,fun _ _ _=>rfl⟩
 .rintro r m ⟨e,⟨l,C,g1,o,p,I,J,P⟩,T⟩
  cases e;obtain⟨a0,rfl⟩:=four C g1 o p;simp[go_sem];exact Rd.aggs ⟨.hf _ (HF.sc _),Rd.setT rfl I XD (fun t=>(P t).trans Qw.symm),trivial⟩
def wW(n m:Nat)(x y:Tp):Option Tp:=some (conc x n y m 0)
theorem JL{n t}:t∈wV n m a b↔∃ x y,(x∈a/\y∈b)/\wW n m x y=some t:=by
 unfold wV wW;rw[vL];simp only[qK,false_or,qn];constructor
 .rintro ⟨⟨x,y⟩,g,i⟩;exact⟨x,y,Yj.1 g,by rw[<-i]⟩
 .rintro ⟨x,y,g,i⟩;exact⟨(x,y),Yj.2 g,Option.some.inj i⟩
theorem nT{n}:(wV n m a b).Nodup:=u5 zSp
theorem XF(a b)(g:okK a)(j:okK b)(C:a.ar+b.ar<=3):qg qc 212 [eKd a,eKd b] (eKd (uB a b)):=by
 refine qSV call212 func212 rfl ?_;have w1:ql.wrap (a.ar+b.ar)=a.ar+b.ar:=yi (zW2 g.ar j.ar) (zW2 g.ar j.ar);simp[go_sem,w1];refine fZ (JK _ _) ?_ (by rintro r m ⟨e,_⟩;cases e);rintro r m ⟨e,c,rfl⟩;cases e;simp[go_sem];refine fZ (nQ a b 253 [.ptr 3 0,.ip (cKd a),.ip (cKd b)] _ (ColM (a.ar+b.ar) (.arr [aI 0,.sc (.map none)]) c (wW a.ar.toNat b.ar.toNat)) (ColM.zero _ _ _ _) (fun S m1 m2 h k=>k.same h) g.len j.len ?_) ?_ (by rintro r m ⟨e,_⟩;cases e)
 .rintro S x y m1 hx hy I ⟨l,J,g1,o,p,P,R,T⟩
  refine qv.monoR (qi8 a b g j C x y (g.len x hx) (j.len y hy) m1 3 2 _ l p o R) ?_;rintro e m' ⟨rfl,rfl⟩;refine⟨rfl,ColM.step J g1 o p P R T rfl (Uk _ _ _ _ _),zSp,fun i U a1=>?_⟩;simp at U;rw[zGl]
 .rintro r m ⟨e,⟨l,J,g1,o,p,P,R,T⟩,I⟩
  cases e;obtain⟨a0,rfl⟩:=four J g1 o p;simp[go_sem];exact Rd.aggs ⟨.hf _ (HF.sc _),Rd.setT rfl P nT (fun t=>(T t).trans JL.symm),trivial⟩
end
end Y6
namespace Y7
open Y2 P1 YM Y5 Y6
theorem qw.lit{P mu}{t g e sz bt:Nat}{x xs ys zv K}(C:qH P t=some (e,sz,bt))(i:(qH P g).isSome=true)(I:qC P e=some zv)
  (j:zv.cells.length=sz) (l:zv.cells.all AV.one=true) (o:sz≠0) (J:bt<=16384) (R:qA mu x=some ys) (T:qW sz xs) (U:qW sz ys) (hl:xs.length+ys.length<=4294967296) (p:ys≠[])
  (k:K (.sl mu.length sz 0 (xs.length+ys.length)) (mu++[.arr (xs++ys).flatten])):qw P mu #[t,g] (.lst true xs) x K:=
 .inl ⟨t,g,e,sz,bt,ys,rfl,C,i,⟨zv,I,j,l⟩,o,J,R,U,.inl ⟨xs,rfl,T,hl,fun h=>absurd h p,fun _=>k⟩⟩
theorem Qx(l:List Kd):qW 2 (l.map cKd):=fun r g=>by
 obtain⟨n,_,rfl⟩:=qn.1 g;exact⟨rfl,rfl⟩
theorem JM(full)(l:List Kd):HF (.lst full (l.map cKd)):=HF.lst fun r i c g=>by
 obtain⟨k,_,rfl⟩:=qn.1 i;simp at g;rcases g with rfl|rfl
 .exact HF.sc _
 .exact JI _
def ColS(g:Int)(z c sl:Cell)(S:Tp->Prop)(m:Mu):Prop:=
 ∃ l,m[0]?=some z/\m[1]?=some c/\m[2]?=some (.mp (eT l))/\m[3]?=some (.arr [aI g,.mp 2])/\m[4]?=some sl/\l.Nodup/\(∀ t,t∈l->okT t)/\∀ t,t∈l↔S t
theorem sumU(full)(a b:Kd)(ha:∀ t,t∈a.ts->okT t)(hb:∀ t,t∈b.ts->okT t):qg qc 248 [eKd a,.lst full [cKd b]] (eKd (kSum a b)):=by
 refine qSU call248 func248 rfl ?_;refine fZ (JK _ _) ?_ (by grind);rintro r m ⟨e,c,rfl⟩;cases e;simp[go_sem];refine qw.lit (e:=125) (sz:=2) (bt:=16) (zv := .agg [aI 0,.sc (.map none)]) (xs:=[cKd a]) (ys:=[cKd b]) zSi zSi zSi rfl rfl zOm zOm (by simp[qA]) (Qx [a]) (Qx [b]) zSp zSp ?_;simp[go_sem];refine qk.up 2 (fun k U=>U.tm 4 = .ptr 0 0/\U.tm 5 = .ptr 3 0/\U.tm 15 = .sl 4 2 0 2/\U.tm 16=aI 2/\U.tm 17=aI k/\ColS a.ar (.arr [aI 0,.sc (.map none)]) c (.arr [aI a.ar,mKd a.ts,aI b.ar,mKd b.ts]) (fun t=>(0<k/\t∈a.ts)\/(1<k/\t∈b.ts)) U.mu) ?_ ?_
 .simp [go_sem]
  exact⟨[],rfl,rfl,rfl,rfl,rfl,zSp,zSp,zSp⟩
 .rintro k U hk ⟨e4,e5,a8,R,T,l,g0,g1,g2,g3,g4,h1,h2,h3⟩
  have ad:k=2\/k=0\/k=1:=zOm;obtain⟨o,hm⟩:∃ o,U.mu=[.arr [aI 0,.sc (.map none)],c,.mp (eT l),.arr [aI a.ar,.mp 2],.arr [aI a.ar,mKd a.ts,aI b.ar,mKd b.ts]]++o:=by
   generalize U.mu=m at *
   match m,g0,g1,g2,g3,g4 with
   |a0 :: a1 :: a2 :: a3 :: a4 :: o,g0,g1,g2,g3,g4 =>
    simp_all
  rcases ad with rfl|rfl|rfl
  .simp [go_sem,e4,e5,R,T,hm]
   refine Rd.aggs ⟨.hf _ (HF.sc _),Rd.setT rfl h1 (u5 (u5 zSp)) (fun t=>?_),trivial⟩;rw[h3];show _↔t∈uni (uni [] a.ts) b.ts;simp[vL]
  .simp [go_sem,a8,R,T,hm]
   refine qk.seen a.ts.length (fun seen g=>g.tm 4 = .ptr 0 0/\g.tm 5 = .ptr 3 0/\g.tm 15 = .sl 4 2 0 2/\g.tm 16=aI 2/\g.tm 17=aI 0/\g.tm 23 = .ptr (o.length+6) 0/\g.mu[o.length+6]?=some (.it (eT a.ts) seen) /\
    ColS a.ar (.arr [aI 0,.sc (.map none)]) c (.arr [aI a.ar,mKd a.ts,aI b.ar,mKd b.ts]) (fun t=>t∈l\/∃ i,i∈seen/\a.ts[i]?=some t) g.mu) ?_ ?_
   .simp [go_sem,e4,e5,a8,R,T]
    exact⟨l,rfl,rfl,rfl,rfl,rfl,h1,h2,zSp⟩
   .rintro seen g ae af ⟨f4,f5,f15,f16,f17,f23,a5,l',k0,k1,k2,k3,k4,p1,p2,p3⟩
    simp[go_sem,f23];refine⟨o.length+6,eT a.ts,seen,rfl,a5,fun i e hi a9=>?_,fun a6=>?_⟩
    .obtain ⟨x,hx,rfl⟩:=Qu hi
     have P:okT x:=ha x (qQ hx);have aa:i<a.ts.length:=(qh.1 hx).1;have J:o.length+6<g.mu.length:=(qh.1 a5).1;have ab:x.length=3:=P;have C:∀(c:Cell)(l:List Cell)(j:Nat),j<5->((g.mu.set (o.length+6) c)++l)[j]?=g.mu[j]?:=fun c l j I=>by
      grind
     have q2:=fun c l=>(C c l 2 zOm).trans k2
     have q3:=fun c l=>(C c l 3 zOm).trans k3
     obtain⟨x0,x1,x2,rfl⟩:∃ x0 x1 x2,x=[x0,x1,x2]:=by
      match x,ab with
      | [x0,x1,x2],_=>simp
     simp[go_sem,f5,f23,hi,J,q3];refine tH _ (updT (q2 _ _) P p2) ?_;simp[go_sem];refine⟨i,aa,a9,?_⟩;show _/\_;refine⟨zS1 f4,zS1 f5,zS1 f15,zS1 f16,zS1 f17,zS1 f23,?_,ins l' [x0,x1,x2],?_,?_,?_,?_,?_,Yi p1,fun t ht=>?_,fun t=>?_⟩
     .simp only[qI]
      rw[zGl,qG (zUs J),qz J]
     .simp only[qI]
      rw[zGl,C _ _ 0 zOm,k0]
     .simp only[qI]
      rw[zGl,C _ _ 1 zOm,k1]
     .simp only[qI]
      rw[qz zSo]
     .simp only[qI]
      rw[zGl,C _ _ 3 zOm,k3]
     .simp only[qI]
      rw[zGl,C _ _ 4 zOm,k4]
     .rcases uz.1 ht with h|rfl
      .exact p2 t h
      .exact P
     .rw [uz,p3]
      constructor
      .rintro ((h|⟨j,I,e⟩)|rfl)
       .exact .inl h
       .exact .inr ⟨j,zP1 I,e⟩
       .exact .inr ⟨i,zSp,hx⟩
      .rintro (h|⟨j,I,e⟩)
       .exact .inl (.inl h)
       .rcases qO.1 I with I|I
        .exact .inl (.inr ⟨j,I,e⟩)
        .rw [qS]at I;subst I
         rw[hx]at e;cases e;exact .inr rfl
    .have a7:∀ t,t∈l'↔(t∈l\/t∈a.ts):=fun t=>by
      rw[p3];constructor
      .rintro (h|⟨j,I,e⟩)
       .exact .inl h
       .exact .inr (qQ e)
      .rintro (h|h)
       .exact .inl h
       .obtain ⟨j,I⟩:=List.mem_iff_getElem?.1 h
        exact .inr ⟨j,a6 j (by simpa using (qh.1 I).1),I⟩
     simp[go_sem,f4,f5,f15,f16,f17,wr1];refine⟨l',k0,k1,k2,k3,k4,p1,p2,fun t=>?_⟩;rw[a7 t,h3];simp
  .simp [go_sem,a8,R,T,hm]
   refine qk.seen b.ts.length (fun seen g=>g.tm 4 = .ptr 0 0/\g.tm 5 = .ptr 3 0/\g.tm 15 = .sl 4 2 0 2/\g.tm 16=aI 2/\g.tm 17=aI 1/\g.tm 23 = .ptr (o.length+6) 0/\g.mu[o.length+6]?=some (.it (eT b.ts) seen) /\
    ColS a.ar (.arr [aI 0,.sc (.map none)]) c (.arr [aI a.ar,mKd a.ts,aI b.ar,mKd b.ts]) (fun t=>t∈l\/∃ i,i∈seen/\b.ts[i]?=some t) g.mu) ?_ ?_
   .simp [go_sem,e4,e5,a8,R,T]
    exact⟨l,rfl,rfl,rfl,rfl,rfl,h1,h2,zSp⟩
   .rintro seen g ae af ⟨f4,f5,f15,f16,f17,f23,a5,l',k0,k1,k2,k3,k4,p1,p2,p3⟩
    simp[go_sem,f23];refine⟨o.length+6,eT b.ts,seen,rfl,a5,fun i e hi a9=>?_,fun a6=>?_⟩
    .obtain ⟨x,hx,rfl⟩:=Qu hi
     have P:okT x:=hb x (qQ hx);have aa:i<b.ts.length:=(qh.1 hx).1;have J:o.length+6<g.mu.length:=(qh.1 a5).1;have ab:x.length=3:=P;have C:∀(c:Cell)(l:List Cell)(j:Nat),j<5->((g.mu.set (o.length+6) c)++l)[j]?=g.mu[j]?:=fun c l j I=>by
      rw[qG zSo,zGl]
     have q2:=fun c l=>(C c l 2 zOm).trans k2
     have q3:=fun c l=>(C c l 3 zOm).trans k3
     obtain⟨x0,x1,x2,rfl⟩:∃ x0 x1 x2,x=[x0,x1,x2]:=by
      match x,ab with
      | [x0,x1,x2],_=>exact⟨_,_,_,rfl⟩
     simp[go_sem,f5,f23,hi,J,q3];refine tH _ (updT (q2 _ _) P p2) ?_;simp[go_sem];refine⟨i,aa,a9,?_⟩;show _/\_;refine⟨zS1 f4,zS1 f5,zS1 f15,zS1 f16,zS1 f17,zS1 f23,?_,ins l' [x0,x1,x2],?_,?_,?_,?_,?_,Yi p1,fun t ht=>?_,fun t=>?_⟩
     .simp only[qI]
      rw[zGl,qG (zUs J),qz J]
     .simp only[qI]
      rw[zGl,C _ _ 0 zOm,k0]
     .simp only[qI]
      rw[zGl,C _ _ 1 zOm,k1]
     .simp only[qI]
      rw[qz zSo]
     .simp only[qI]
      rw[zGl,C _ _ 3 zOm,k3]
     .simp only[qI]
      rw[zGl,C _ _ 4 zOm,k4]
     .rcases uz.1 ht with h|rfl
      .exact p2 t h
      .exact P
     .rw [uz,p3]
      constructor
      .rintro ((h|⟨j,I,e⟩)|rfl)
       .exact .inl h
       .exact .inr ⟨j,zP1 I,e⟩
       .exact .inr ⟨i,zSp,hx⟩
      .rintro (h|⟨j,I,e⟩)
       .exact .inl (.inl h)
       .rcases qO.1 I with I|I
        .exact .inl (.inr ⟨j,I,e⟩)
        .rw [qS]at I;subst I
         rw[hx]at e;cases e;exact .inr rfl
    .have a7:∀ t,t∈l'↔(t∈l\/t∈b.ts):=fun t=>by
      rw[p3];constructor
      .rintro (h|⟨j,I,e⟩)
       .exact .inl h
       .exact .inr (qQ e)
      .rintro (h|h)
       .exact .inl h
       .obtain ⟨j,I⟩:=List.mem_iff_getElem?.1 h
        exact .inr ⟨j,a6 j (by simpa using (qh.1 I).1),I⟩
     simp[go_sem,f4,f5,f15,f16,f17,wr2];refine⟨l',k0,k1,k2,k3,k4,p1,p2,fun t=>?_⟩;rw[a7 t,h3];simp
end Y7
namespace Y8
open Y2 Y3 P1 YM Y5 Y6 Y7
theorem XG{l:List Tp}{i x}(o:l[i]?=some x){seen:List Nat}{t}:(∃ j,j∈seen++[i]/\l[j]?=some t)↔(∃ j,j∈seen/\l[j]?=some t)\/t=x:=by
 constructor
 .rintro ⟨j,g,e⟩
  rcases qO.1 g with g|g
  .exact .inl ⟨j,g,e⟩
  .rw [qS]at g;subst g
   rw[o]at e;cases e;exact .inr rfl
 .rintro (⟨j,g,e⟩|rfl)
  .exact ⟨j,zP1 g,e⟩
  .exact ⟨i,zSp,o⟩
theorem XH{l:List Tp}{seen:List Nat}(g:∀ i,i<l.length->i∈seen){t}:(∃ j,j∈seen/\l[j]?=some t)↔t∈l:=by
 constructor
 .rintro ⟨j,o,e⟩;exact qQ e
 .intro h
  obtain⟨j,o⟩:=List.mem_iff_getElem?.1 h;exact⟨j,g j (qh.1 o).1,o⟩
structure ok2 (k:Kd):Prop where
 ar:k.ar=2
 nd:k.ts.Nodup
 ts:∀ t,t∈k.ts->∃ x y:Int,t=[x,y,0]/\0<=x/\x<4/\0<=y/\y<4
theorem ok2.okK{k}(h:ok2 k):okK k:=⟨by rw[h.ar];omega,fun t g=>by obtain⟨x,y,rfl,_⟩:=h.ts t g;rfl,h.nd⟩
theorem ok2.join{k}(h:ok2 k):ok2 (zL k k):=by
 refine⟨by simp[zL,h.ar],XD,fun t g=>?_⟩;have g:t∈uA k.ar.toNat k.ar.toNat k.ts k.ts:=g;rw[h.ar]at g;obtain⟨x,y,⟨i,j⟩,hf⟩:=Qw.1 g;obtain⟨l,P,rfl,o,p,R,T⟩:=h.ts x i;obtain⟨U,C,rfl,b1,b2,I,J⟩:=h.ts y j;unfold ZG at hf;split at hf
 .simp [conc,pad]at hf
  exact⟨l,C,hf.symm,o,p,I,J⟩
 .exact absurd hf zSp
theorem ok2.sum{a b}(h:ok2 a)(k:ok2 b):ok2 (kSum a b):=by
 refine⟨h.ar,u5 (u5 zSp),fun t g=>?_⟩;have g:t∈uni (uni [] a.ts) b.ts:=g;simp only[vL,qK,false_or]at g;exact g.elim (h.ts t) (k.ts t)
theorem ok2.len{k}(h:ok2 k):k.ts.length<=16:=by
 have g:∀ t,t∈k.ts->t∈(qs 4).flatMap fun (x:Nat)=>(qs 4).map fun (y:Nat)=>[(x:Int),(y:Int),0]:=by
  intro t i;obtain⟨x,y,rfl,j,l,o,p⟩:=h.ts t i;rw[vZ];refine⟨x.toNat,ye.2 zOm,qn.2 ⟨y.toNat,ye.2 zOm,?_⟩⟩;rw[show ((x.toNat:Nat):Int)=x by omega,show ((y.toNat:Nat):Int)=y by omega]
 have:=jm h.nd g;exact Nat.le_trans this zDe
theorem qi9{f n a}(h:¬n<a.ts.length):cloN f n a=a:=by
 cases f with
 |zero=>rfl
 |succ f=>simp[cloN,h]
theorem Ul(a)(I:ok2 a):qg qc 254 [eKd a] (eKd (kClo a)):=by
 refine qSQ call254 func254 rfl { mt:=[1] } ?_;simp[go_sem];refine tV (fun m U=>∃(n f:Nat) (cur:Kd),m=17-n/\cloN f n cur=kClo a/\70<=f+n/\ok2 cur/\U.tm 3=aI n/\U.tm 1 = .ptr 0 0/\U.tm 2 = .ptr 1 0/\U.mu=[.arr (cKd cur),.arr [aI 0,.sc (.map none)]]) 17 ?_ ?_
 .exact ⟨0,70,a,rfl,rfl,zOm,I,zSi,zSi,zSi,zSi⟩
 .rintro m U ⟨n,f,cur,rfl,l,hf,g,o,i,p,t⟩
  have C:=g.len;by_cases j:n<cur.ts.length
  .simp [go_sem,i,o,t,j]
   refine tR zKr ?_;simp[go_sem,i];refine fR (u7 cur cur g.okK g.okK) (.zk (zW _) (.zk (zW _) .nil)) ?_;refine tU (sumU _ cur (zL cur cur) g.okK.len g.join.okK.len) (.zk (zW _) (.zk (JM _ [zL cur cur]) .nil)) ?_;simp[go_sem,i];obtain⟨f,rfl⟩:∃ J,f=J+1:=⟨f-1,zOm⟩;refine Keep.loop (17-cur.ts.length) zOm ⟨cur.ts.length,f,kSum cur (zL cur cur),rfl,?_,zOm,g.sum g.join,zSi,zS1 i,zS1 p,zSi⟩;rw[<-l,cloN,if_pos j]
  .rw [qi9 j]at l
   subst l;simp[go_sem,i,p,o,t,j];exact .hf _ (zW _)
theorem qjA(op a b)(ha:okK a)(p:okK b):qg qc 210 [aI op,eKd a,eKd b] (eKd (vt op a b)):=by
 refine qSV call210 func210 rfl ?_;unfold vt;by_cases h6:op=6
 .subst h6
  simp[go_sem];refine fR (sumU _ a b ha.len p.len) (.zk (zW _) (.zk (JM _ [b]) .nil)) ?_;exact .hf _ (zW _)
 by_cases a0:op=14
 .subst a0
  simp[go_sem];refine fR (sumU _ a b ha.len p.len) (.zk (zW _) (.zk (JM _ [b]) .nil)) ?_;exact .hf _ (zW _)
 by_cases h7:op=7
 .subst h7
  simp[go_sem];refine fZ (JK _ _) ?_ (by rintro r m ⟨e,_⟩;cases e);rintro r m ⟨e,c,rfl⟩;cases e;simp[go_sem];obtain⟨B,hB⟩:∃ B,B=mKd b.ts:=⟨_,rfl⟩;refine qk.seen a.ts.length (fun seen U=>U.tm 4 = .ip (cKd a)/\U.tm 5 = .ip [aI b.ar,B]/\U.tm 6 = .ptr 0 0/\U.tm 7 = .ptr 3 0/\U.tm 24 = .ptr 4 0 /\
   ColS a.ar (.arr [aI 0,.sc (.map none)]) c (.it (eT a.ts) seen) (fun t=>(∃ i,i∈seen/\a.ts[i]?=some t)/\t∈b.ts) U.mu) ?_ ?_
  .exact ⟨zSi,by simp[go_sem,hB],zSi,zSi,zSi,[],rfl,rfl,rfl,rfl,rfl,zSp,zSp,zSp⟩
  .rintro seen U a8 a9 ⟨e4,e5,e6,e7,C,l,k0,k1,k2,k3,k4,h1,h2,h3⟩
   simp[go_sem,C];refine⟨4,eT a.ts,seen,rfl,k4,fun i e hi a1=>?_,fun a2=>?_⟩
   .obtain ⟨x,hx,rfl⟩:=Qu hi
    have J:okT x:=ha.len x (qQ hx);have a3:i<a.ts.length:=(qh.1 hx).1;have a5:x.length=3:=J;have a6:∀ I:Mu,yj qc I 123 B (aT x) false=some (aB (decide (x∈b.ts))):=fun I=>by rw[hB];exact lookT J p.len
    have o:4<U.mu.length:=(qh.1 k4).1;have g:∀(c:Cell)(l:List Cell)(j:Nat),j<4->((U.mu.set 4 c)++l)[j]?=U.mu[j]?:=fun c l j hj=>by
     rw[qG zSo,zGl]
    have q2:=fun c l=>(g c l 2 zOm).trans k2
    have q3:=fun c l=>(g c l 3 zOm).trans k3
    obtain⟨R,T,x2,rfl⟩:∃ R T x2,x=[R,T,x2]:=by
     match x,a5 with
     | [R,T,x2],_=>exact⟨_,_,_,rfl⟩
    have a4:∀ I:Mu,yj qc I 123 B (.agg [.sc (.int .i8 R),.sc (.int .i8 T),.sc (.int .i8 x2)]) false=some (aB (decide ([R,T,x2]∈b.ts))):=a6;simp[go_sem,e5,C,hi,o,a4];by_cases P:[R,T,x2]∈b.ts
    .simp [go_sem,P,e7,q3]
     refine tH _ (updT (q2 _ _) J h2) ?_;simp[go_sem];refine⟨i,a3,a1,zS1 e4,zS1 e5,zS1 e6,by simp[go_sem,e7],zS1 C,ins l [R,T,x2],?_,?_,?_,?_,?_,Yi h1,fun t ht=>?_,fun t=>?_⟩
     .simp only[qI]
      rw[zGl,g _ _ 0 zOm,k0]
     .simp only[qI]
      rw[zGl,g _ _ 1 zOm,k1]
     .simp only[qI]
      rw[qz zSo]
     .simp only[qI]
      rw[zGl,g _ _ 3 zOm,k3]
     .simp only[qI]
      rw[zGl,qG (zUs o),qz o]
     .rcases uz.1 ht with h|rfl
      .exact h2 t h
      .exact J
     .simp only[uz,h3,XG hx]
      constructor
      .rintro (⟨h,p⟩|rfl)
       .exact ⟨.inl h,p⟩
       .exact ⟨.inr rfl,P⟩
      .rintro ⟨h|rfl,p⟩
       .exact .inl ⟨h,p⟩
       .exact .inr rfl
    .simp [go_sem,P]
     refine⟨i,a3,a1,zS1 e4,zS1 e5,zS1 e6,by simp[go_sem,e7],zS1 C,l,?_,?_,?_,?_,?_,h1,h2,fun t=>?_⟩
     .simp only[qI]
      rw[g _ _ 0 zOm,k0]
     .simp only[qI]
      rw[g _ _ 1 zOm,k1]
     .simp only[qI]
      rw[g _ _ 2 zOm,k2]
     .simp only[qI]
      rw[g _ _ 3 zOm,k3]
     .simp only[qI]
      rw[qG (zUs o),qz o]
     .simp only[h3,XG hx]
      constructor
      .rintro ⟨h,p⟩;exact⟨.inl h,p⟩
      .rintro ⟨h|rfl,p⟩
       .exact ⟨h,p⟩
       .exact absurd p P
   .obtain ⟨a7,hm⟩:=four k0 k1 k2 k3
    simp[go_sem,e6,e7,hm];refine Rd.aggs ⟨.hf _ (HF.sc _),Rd.setT rfl h1 (ha.nd.filter _) (fun t=>?_),trivial⟩;refine(h3 t).trans ?_;show (_/\_)↔t∈a.ts.filter fun t=>decide (t∈b.ts)
    rw[XH (zUs a2)];simp
 .simp [go_sem,h6,a0,h7]
  exact .hf _ (zW _)
end Y8
end Go.Proofs.YtlnbdknjkmmgbaaGreatDoor
namespace Go.Ev
open Go Go.RowKit
theorem aP{P f args r p v}(i:yN P f)(g:∀(G) (h) (l),zV G h args l->l=p)
  (h:∀ w,Calls P f p w fun e w'=>e = .returned v/\w'=w) (t:∀ G h,VRel G h r v):qg P f args r:=by
 refine⟨i,fun o w l C I=>?_⟩;rw[g _ _ _ I];refine(h w).mono fun e w' ⟨J,R⟩=>?_
 subst R;exact⟨o,v,J,fun _ j=>j,fun b j=>⟨C.imm b j,.inl j⟩,⟨Below.refl _ _,qj _⟩,t _ _⟩
theorem qjB{G h a b g}(r:zV G h [.sc a,.sc b] g):g=#[a,b]:=by
 obtain⟨p,j⟩:=r;have l:=j 0 _ rfl;have o:=j 1 _ rfl;have t:g.size=2:=zUs p;have I:g.getD 0 uk=a:=by generalize g.getD 0 uk=x at l;cases l;rfl
 have J:g.getD 1 uk=b:=by generalize g.getD 1 uk=x at o;cases o;rfl
 apply Array.ext
 .simpa using t
 .intro i P C
  have:i=0\/i=1:=zOm;rcases this with rfl|rfl
  .simp_all
  simp_all
theorem XI(w os b)(h:b<w.heap.size):(Sort.grow w os).heap[b]?=w.heap[b]?:=by
 show (w.heap++os)[b]?=_;rw[Array.getElem?_append_left h]
theorem Stp.grow{G mu w}(s:Sim G mu w.heap)(os):Stp G mu w G mu (Sort.grow w os):=by
 have g:w.heap.size<=(Sort.grow w os).heap.size:=by simp_all
 have t:Ext G w.heap (Sort.grow w os).heap:=⟨g,fun b j=>XI w os b (s.imm b j)⟩;refine⟨.refl G,⟨s.len,fun b j=>Zo (s.imm b j) g,?_,s.live,s.inj,s.tab.mono (fun _ h=>h) t.keep⟩,fun b j _=>XI w os b j,g,fun b h => .inl h,fun b h => .inl h,rfl,rfl,rfl,qj _⟩;intro i c l p C I J;obtain⟨o,R,P⟩:=s.obj i c l p C I J;exact⟨o,by grind [XI,yA],P.mono (.refl G) t⟩
def srtI(zs:List Int):List Int:=zs.mergeSort fun x y=>decide (x<=y)
theorem JN(zs):(srtI zs).length=zs.length:=List.length_mergeSort ..
theorem qjC{P f}(C:yN P f)
  (p:∀(g off cap)(zs:List Int)(w),Sort.Holds (Value.int .i64) w g off zs.toArray->g<w.heap.size->zs.length<4611686018427387904 ->
   Calls P f #[.slice (some ⟨g,off,none⟩) zs.length cap] w fun e w'=>e = .returned (.tuple #[])/\∃ n os,w'=Sort.grow (Sort.putRow (Value.int .i64) (Sort.ahead w n) g off (zs.mergeSort fun x y=>decide (x<=y)).toArray) os)
  {mu} {b off} {cells} {zs} (hc:mu[b]?=some (.arr cells)) (hz:∀ k n,zs[k]?=some n->cells[off+k]?=some (.sc (.int .i64 n))) (hl:zs.length<4611686018427387904) (a4:off+zs.length<=cells.length) :
  qv P f [.sl b 1 off zs.length] mu fun e m=>e = .ret (.tup [])/\m=mu.set b (.arr (putCells cells off ((srtI zs).map fun n => .sc (.int .i64 n)))):=by
 refine⟨C,fun G w vs s ra=>?_⟩;obtain⟨v,rfl,rv⟩:=ra.one_inv;cases rv with
 |sl _ _ _ _ g I cap hb ht a5 =>
 obtain⟨arr,e0,h1,h2,h3,h4⟩:=s.arr b cells g I hc hb;have a0:∀(k:Nat)(n:Int),zs[k]?=some n->arr[off+k]?=some (.int .i64 n):=by
  intro k n hk;have hx:=hz k n hk;have hr:=(h4 _ _ hx).2;have a6:off+k<cells.length:=(qh.1 hx).1;have o:off+k<arr.size:=zOm;have:arr.getD (off+k) uk = .int .i64 n:=by generalize arr.getD (off+k) uk=u at hr;cases hr;rfl
  rw[qV,Zq o]at this;rw[Zq o];exact congrArg some this
 have hH:Sort.Holds (Value.int .i64) w g off zs.toArray:=by
  intro j i;have a7:j<zs.length:=zUs i;refine⟨?_,?_⟩
  .simp_all [qB,World.cell?,Option.isSome_none,Bool.false_eq_true,if_false,getElem!_pos]
  grind [World.frozen?]
 have J:g<w.heap.size:=(yA.1 h1).1;refine(p g off cap zs w hH J hl).mono fun e w' ⟨he,n,os,hw⟩=>?_
 have a8:=JN zs
 have R:(Sort.putRow (Value.int .i64) (Sort.ahead w n) g off (srtI zs).toArray).heap[g]?=some (.cells (Sort.putCells (Value.int .i64) off (srtI zs).toArray arr) e0 (0,0)):=by
  show (w.heap.modify g (Sort.onCells _))[g]?=_;rw[Array.getElem?_modify,if_pos rfl,h1];rfl
 have T:∀ k,k≠g->(Sort.putRow (Value.int .i64) (Sort.ahead w n) g off (srtI zs).toArray).heap[k]?=w.heap[k]?:=by
  intro k hk;show (w.heap.modify g (Sort.onCells _))[k]?=_;rw[Array.getElem?_modify,if_neg (fun e=>hk e.symm)]
 have st1:Stp G mu w G (mu.set b (.arr (putCells cells off ((srtI zs).map fun n => .sc (.int .i64 n))))) (Sort.putRow (Value.int .i64) (Sort.ahead w n) g off (srtI zs).toArray):=by
  refine sW (hdr:=Nat.le_add_right _ _) s b (.arr cells) _ g I _ hc zSp zSp hb zSp R T rfl rfl rfl ?_;have U:off+((srtI zs).map fun n=>AV.sc (.int .i64 n)).length<=cells.length:=by grind
  refine⟨_,e0,rfl,by simp[Sort.putCells,h2],by grind [y7],fun j y i=>?_⟩;rw[y7 _ _ _ U,zG]at i;have t:j<arr.size:=by
   grind
  have a1:(Sort.putCells (Value.int .i64) off (srtI zs).toArray arr).getD j uk=if off<=j/\j<off+(srtI zs).toArray.size then (Value.int .i64) (srtI zs).toArray[j-off]! else arr[j]:=by
   rw[qV,Sort.putCells,Array.getElem?_mapIdx,Zq t];rfl
  rw[a1];have a2:(cells.take off).length=off:=zSo;by_cases a3:j<off
  .rw [zGa,jY,if_pos a3]at i
   rw[zIn];have:=h4 j y i;rw[qV,Zq t]at this;exact this
  .rw [yd zOm,a2]at i
   by_cases l:j-off<(srtI zs).length
   .rw [qG (zUs l),zB,qB l]at i
    simp only[zd,qo]at i;subst i;rw[if_pos zSo];refine⟨rfl,?_⟩;rw[getElem!_pos (srtI zs).toArray (j-off) (zUs l)];exact .sc _ rfl
   .rw [yd zSo,uO]at i
    rw[if_neg zSo];have e1:off+((srtI zs).map fun n=>AV.sc (.int .i64 n)).length+(j-off-((srtI zs).map fun n=>AV.sc (.int .i64 n)).length)=j:=by simp at l⊢;omega
    rw[e1]at i;have:=h4 j y i;rw[qV,Zq t]at this;exact this
 have st2:=st1.trans s (Stp.grow st1.sim os);rw[show (srtI zs).toArray=(zs.mergeSort fun x y=>decide (x<=y)).toArray from rfl]at st2;rw[<-hw]at st2;exact⟨G,_,st2,.inl ⟨_,_,⟨rfl,rfl⟩,he,.tup [] #[] rfl zSp⟩⟩
end Go.Ev
namespace Go.Proofs
open Go.Shelf
def Tryz.laysM246_ren:Go.Shelf.Ren:=⟨fun|246=>283|283=>285|284=>286|285=>287|286=>288|129=>223|317=>289|318=>290|319=>291|320=>292|337=>293|338=>294|n=>n,fun|2=>2|3=>3|9=>9|4=>4|171=>331|0=>0|53=>281|37=>310|5=>5|173=>333|212=>336|51=>279|20=>20|213=>337|46=>216|232=>338|233=>339|n=>n,fun|17=>0|18=>1|19=>2|n=>n⟩
def Tryz.laysM243_ren:Go.Shelf.Ren:=⟨fun|243=>276|246=>283|283=>285|284=>286|285=>287|286=>288|129=>223|317=>289|318=>290|319=>291|320=>292|337=>293|338=>294|n=>n,fun|3=>3|9=>9|2=>2|4=>4|171=>331|0=>0|53=>281|37=>310|5=>5|173=>333|212=>336|51=>279|20=>20|213=>337|46=>216|232=>338|233=>339|n=>n,fun|17=>0|18=>1|19=>2|n=>n⟩
def Tryz.laysM171_ren:Go.Shelf.Ren:=⟨fun|171=>261|243=>276|246=>283|283=>285|284=>286|285=>287|286=>288|129=>223|317=>289|318=>290|319=>291|320=>292|337=>293|338=>294|n=>n,fun|3=>3|9=>9|2=>2|4=>4|171=>331|0=>0|53=>281|37=>310|5=>5|173=>333|212=>336|51=>279|20=>20|213=>337|46=>216|232=>338|233=>339|n=>n,fun|17=>0|18=>1|19=>2|n=>n⟩
theorem Tryz.laysM171:Go.Proofs.LaysM.n171 qc Tryz.laysM171_ren:={
 mixed:=zKr
 f129:=func223.trans (congrArg some zKr)
 f171:=func261.trans (congrArg some zKr)
 f243:=func276.trans (congrArg some zKr)
 f246:=func283.trans (congrArg some zKr)
 f283:=func285.trans (congrArg some zKr)
 f284:=func286.trans (congrArg some zKr)
 f285:=func287.trans (congrArg some zKr)
 f286:=func288.trans (congrArg some zKr)
 f317:=func289.trans (congrArg some zKr)
 f318:=func290.trans (congrArg some zKr)
 f319:=func291.trans (congrArg some zKr)
 f320:=func292.trans (congrArg some zKr)
 f337:=func293.trans (congrArg some zKr)
 f338:=func294.trans (congrArg some zKr)
 t0:=Tryz.underlying0
 a0:=Tryz.isAgg0
 z0:=Tryz.sizeOf0
 v0:=Tryz.zeroValue0
 t2:=Tryz.underlying2
 a2:=Tryz.isAgg2
 z2:=Tryz.sizeOf2
 v2:=Tryz.zeroValue2
 t3:=Tryz.underlying3
 a3:=Tryz.isAgg3
 z3:=Tryz.sizeOf3
 v3:=Tryz.zeroValue3
 t4:=Tryz.underlying4
 a4:=Tryz.isAgg4
 z4:=Tryz.sizeOf4
 v4:=Tryz.zeroValue4
 t5:=Tryz.underlying5
 a5:=Tryz.isAgg5
 z5:=Tryz.sizeOf5
 v5:=Tryz.zeroValue5
 t9:=Tryz.underlying9
 a9:=Tryz.isAgg9
 z9:=Tryz.sizeOf9
 v9:=Tryz.zeroValue9
 t20:=Tryz.underlying20
 a20:=Tryz.isAgg20
 z20:=Tryz.sizeOf20
 v20:=Tryz.zeroValue20
 t37:=Tryz.underlying310
 a37:=Tryz.isAgg310
 z37:=Tryz.sizeOf310
 v37:=Tryz.zeroValue310
 t46:=Tryz.underlying216
 a46:=Tryz.isAgg216
 z46:=Tryz.sizeOf216
 v46:=Tryz.zeroValue216
 t51:=Tryz.underlying279
 a51:=Tryz.isAgg279
 z51:=Tryz.sizeOf279
 v51:=Tryz.zeroValue279
 t53:=Tryz.underlying281
 a53:=Tryz.isAgg281
 z53:=Tryz.sizeOf281
 v53:=Tryz.zeroValue281
 t171:=Tryz.underlying331
 a171:=Tryz.isAgg331
 z171:=Tryz.sizeOf331
 v171:=Tryz.zeroValue331
 t173:=Tryz.underlying333
 a173:=Tryz.isAgg333
 z173:=Tryz.sizeOf333
 v173:=Tryz.zeroValue333
 t212:=Tryz.underlying336
 a212:=Tryz.isAgg336
 z212:=Tryz.sizeOf336
 v212:=Tryz.zeroValue336
 t213:=Tryz.underlying337
 a213:=Tryz.isAgg337
 z213:=Tryz.sizeOf337
 t232:=Tryz.underlying338
 a232:=Tryz.isAgg338
 z232:=Tryz.sizeOf338
 v232:=Tryz.zeroValue338
 t233:=Tryz.underlying339
 a233:=Tryz.isAgg339
 z233:=Tryz.sizeOf339
 v233:=Tryz.zeroValue339
 g17:=zKr
 g18:=zKr
 g19:=zKr
 i0:=zKr
 i2:=zKr
 i3:=zKr
 i4:=zKr
 i5:=zKr
 i9:=zKr
 i20:=zKr
 i37:=zKr
 i46:=zKr
 i51:=zKr
 i53:=zKr
 i171:=zKr
 i173:=zKr
 i212:=zKr
 i232:=zKr
 i233:=zKr
 m17:=zKr
 m18:=zKr
 m19:=by kernel_rfl }
open Go.RowKit Go.Sort Go.Lib in
theorem Tryz.strconv_Itoa(n : Int)(i : -9223372036854775808 ≤ n)(j : n ≤ 9223372036854775807)(w : World)(g : Lib.TabIs qc w "internal/strconv.uint64pow10" .u64 Lib.pow10Tab) :
    Calls qc 261 #[.int .i64 n] w fun e w'=>e = .returned (.string ⟨(Lib.itoa n).toArray⟩)/\∃ k os,w'=grow (w.drewN k) os:=Any.strconv_Itoa Tryz.laysM171 n i j w g
def Tryz.lays189_ren:Go.Shelf.Ren:=⟨fun|189=>226|125=>148|257=>260|128=>222|129=>223|294=>267|295=>268|296=>269|297=>270|298=>271|299=>272|216=>273|300=>274|301=>275|328=>280|329=>256|330=>257|331=>281|332=>282|215=>224|343=>284|n=>n,fun|28=>28|3=>3|46=>216|0=>0|51=>279|53=>281|4=>4|183=>272|182=>271|131=>276|5=>5|9=>9|218=>303|222=>307|228=>314|229=>315|n=>n,fun|n=>n⟩
theorem Tryz.lays189:Go.Proofs.Lays.n189 qc Tryz.lays189_ren:={
 mixed:=zKr
 f125:=func148.trans (congrArg some zKr)
 f128:=func222.trans (congrArg some zKr)
 f129:=func223.trans (congrArg some zKr)
 f189:=func226.trans (congrArg some zKr)
 f215:=func224.trans (congrArg some zKr)
 f216:=func273.trans (congrArg some zKr)
 f257:=func260.trans (congrArg some zKr)
 f294:=func267.trans (congrArg some zKr)
 f295:=func268.trans (congrArg some zKr)
 f296:=func269.trans (congrArg some zKr)
 f297:=func270.trans (congrArg some zKr)
 f298:=func271.trans (congrArg some zKr)
 f299:=func272.trans (congrArg some zKr)
 f300:=func274.trans (congrArg some zKr)
 f301:=func275.trans (congrArg some zKr)
 f328:=func280.trans (congrArg some zKr)
 f329:=func256.trans (congrArg some zKr)
 f330:=func257.trans (congrArg some zKr)
 f331:=func281.trans (congrArg some zKr)
 f332:=func282.trans (congrArg some zKr)
 f343:=func284.trans (congrArg some zKr)
 t0:=Tryz.underlying0
 a0:=Tryz.isAgg0
 z0:=Tryz.sizeOf0
 v0:=Tryz.zeroValue0
 t3:=Tryz.underlying3
 a3:=Tryz.isAgg3
 z3:=Tryz.sizeOf3
 v3:=Tryz.zeroValue3
 t4:=Tryz.underlying4
 a4:=Tryz.isAgg4
 z4:=Tryz.sizeOf4
 v4:=Tryz.zeroValue4
 t5:=Tryz.underlying5
 a5:=Tryz.isAgg5
 z5:=Tryz.sizeOf5
 v5:=Tryz.zeroValue5
 t9:=Tryz.underlying9
 a9:=Tryz.isAgg9
 z9:=Tryz.sizeOf9
 v9:=Tryz.zeroValue9
 t28:=Tryz.underlying28
 a28:=Tryz.isAgg28
 z28:=Tryz.sizeOf28
 v28:=Tryz.zeroValue28
 t46:=Tryz.underlying216
 a46:=Tryz.isAgg216
 z46:=Tryz.sizeOf216
 v46:=Tryz.zeroValue216
 t51:=Tryz.underlying279
 a51:=Tryz.isAgg279
 z51:=Tryz.sizeOf279
 v51:=Tryz.zeroValue279
 t53:=Tryz.underlying281
 a53:=Tryz.isAgg281
 z53:=Tryz.sizeOf281
 v53:=Tryz.zeroValue281
 t131:=Tryz.underlying276
 a131:=Tryz.isAgg276
 z131:=Tryz.sizeOf276
 v131:=Tryz.zeroValue276
 t182:=Tryz.underlying271
 a182:=Tryz.isAgg271
 z182:=Tryz.sizeOf271
 v182:=Tryz.zeroValue271
 t183:=Tryz.underlying272
 a183:=Tryz.isAgg272
 z183:=Tryz.sizeOf272
 v183:=Tryz.zeroValue272
 t218:=Tryz.underlying303
 a218:=Tryz.isAgg303
 z218:=Tryz.sizeOf303
 v218:=Tryz.zeroValue303
 t222:=Tryz.underlying307
 a222:=Tryz.isAgg307
 z222:=Tryz.sizeOf307
 v222:=Tryz.zeroValue307
 t228:=Tryz.underlying314
 a228:=Tryz.isAgg314
 z228:=Tryz.sizeOf314
 v228:=Tryz.zeroValue314
 t229:=Tryz.underlying315
 a229:=Tryz.isAgg315
 z229:=Tryz.sizeOf315
 v229:=Tryz.zeroValue315 }
open Go.Sort Go.RowKit in
theorem Tryz.slices_Sort_int(g off cap:Nat)(zs:List Int)(w:qf)(l:Holds (Value.int .i64) w g off zs.toArray)(i:g<w.heap.size)(j:zs.length<4611686018427387904) :
  Calls qc 226 #[.slice (some ⟨g,off,none⟩) zs.length cap] w fun e w' =>
   e = .returned (.tuple #[])/\∃ n os,w'=grow (putRow (Value.int .i64) (Sort.ahead w n) g off (zs.mergeSort fun x y=>decide (x<=y)).toArray) os:=Any.slices_Sort_int Tryz.lays189 g off cap zs w l i j
def Tryz.lays212_ren:Go.Shelf.Ren:=⟨fun|212=>264|263=>278|264=>279|n=>n,fun|46=>216|51=>279|146=>323|53=>281|148=>325|n=>n,fun|n=>n⟩
theorem Tryz.lays212:Go.Proofs.Lays.n212 qc Tryz.lays212_ren:={
 mixed:=zKr
 f212:=func264.trans (congrArg some zKr)
 f263:=func278.trans (congrArg some zKr)
 f264:=func279.trans (congrArg some zKr)
 t46:=Tryz.underlying216
 a46:=Tryz.isAgg216
 z46:=Tryz.sizeOf216
 v46:=Tryz.zeroValue216
 t51:=Tryz.underlying279
 a51:=Tryz.isAgg279
 z51:=Tryz.sizeOf279
 v51:=Tryz.zeroValue279
 t53:=Tryz.underlying281
 a53:=Tryz.isAgg281
 z53:=Tryz.sizeOf281
 v53:=Tryz.zeroValue281
 t146:=Tryz.underlying323
 a146:=Tryz.isAgg323
 z146:=Tryz.sizeOf323
 v146:=Tryz.zeroValue323
 t148:=Tryz.underlying325
 a148:=Tryz.isAgg325
 z148:=Tryz.sizeOf325
 v148:=Tryz.zeroValue325 }
open Go.RowKit Go.Lib in
theorem Tryz.bits_Mul(x y:Nat)(g:x<18446744073709551616)(i:y<18446744073709551616)(w) :
  Calls qc 264 #[.int .u64 x,.int .u64 y] w fun e w'=>e = .returned (.tuple #[.int .u64 ((x*y / 18446744073709551616:Nat):Int),.int .u64 ((x*y % 18446744073709551616:Nat):Int)])/\w'=w:=Any.bits_Mul Tryz.lays212 x y g i w
open Go.RowKit Go.Sort in
theorem Tryz.slices_Sort_int_none(p cap w) :
  Calls qc 226 #[.slice p 0 cap] w fun e w'=>e = .returned (.tuple #[])/\w'=w:=Any.slices_Sort_int_none Tryz.lays189 p cap w
end Go.Proofs
namespace Go.Proofs.YtlnbdknjkmmgbaaGreatDoor
open Go Go.Ev Go.Proofs Tryz
namespace YS
open Y1
section
variable {mu:Mu}
theorem u9(xs:List Int):(xs.map rI).flatten=xs.map aI:=by
 induction xs with
 |nil=>rfl
 |cons x xs g=>simp[g]
theorem ofCells{lo b n}{xs:List Int}(j:lo<=b)(g:mu[b]?=some (.arr (xs.map aI)))(i:xs.length=n):OwnF lo mu 1 (.sl b 1 0 n) (xs.map rI):=by
 have p:b<mu.length:=(qh.1 g).1;refine⟨.inr ⟨b,zP1 i,by rw[g,u9]⟩,fun t s o l e=>?_,zOm⟩;injection e;omega
theorem gPow : qc.globalNamed "internal/strconv.uint64pow10" = some 0 := by kernel_rfl
theorem tabIs{G w}(s : Sim G mu w.heap) : Lib.TabIs qc w "internal/strconv.uint64pow10" .u64 Lib.pow10Tab := by
  obtain⟨_,e,g,h⟩:=s.tab (0,[.int .u64 1,.int .u64 10,.int .u64 100,.int .u64 1000,.int .u64 10000,.int .u64 100000,.int .u64 1000000,.int .u64 10000000,.int .u64 100000000,.int .u64 1000000000,.int .u64 10000000000,.int .u64 100000000000,.int .u64 1000000000000,.int .u64 10000000000000,.int .u64 100000000000000,.int .u64 1000000000000000,.int .u64 10000000000000000,.int .u64 100000000000000000,.int .u64 1000000000000000000,.int .u64 10000000000000000000]) (by simp[tabs]);unfold Lib.TabIs World.var?;rw[gPow];simp only[Option.bind_some,h];rfl
def jq(n:Int):tZ:=⟨(Lib.itoa n).toArray⟩
theorem itoaU(n)(o : -9223372036854775808<=n)(p:n<=9223372036854775807):qg qc 261 [aI n] (aS (jq n)):=by
 refine⟨call261,fun g w T l C=>?_⟩;obtain⟨v,rfl,I⟩:=C.one_inv;cases I;refine(Tryz.strconv_Itoa n o p w (tabIs l)).mono fun e w' ⟨J,k,os,P⟩=>?_
 subst P;have st1:Stp ⟨g,[]⟩ [] w ⟨g,[]⟩ [] (w.drewN k):=⟨.refl _,l,fun _ _ _=>rfl,qj _,fun _ h => .inl h,fun _ h => .inl h,rfl,rfl,rfl,Nat.le_add_right _ _⟩;have U:=st1.trans l (Stp.grow st1.sim os);exact⟨g,_,J,fun _ h=>h,fun b j=>⟨U.sim.imm b j,.inl j⟩,⟨⟨U.os,U.tape,U.output,U.size,fun b j=>U.keep b j (fun⟨i,c,t,R,_⟩=>by simp at R)⟩,U.drawn⟩,.sc _ rfl⟩
theorem mulB(x y:Nat)(i:x<18446744073709551616)(j:y<18446744073709551616) :
  qg qc 264 [.sc (.int .u64 x),.sc (.int .u64 y)] (.tup [.sc (.int .u64 ((x*y / 18446744073709551616:Nat):Int)),.sc (.int .u64 ((x*y % 18446744073709551616:Nat):Int))]):=
 aP call264 (fun G h l r=>qjB r) (fun w=>Tryz.bits_Mul x y i j w) fun G h => .tup _ _ rfl fun k z g=>by
  match k with
  | 0=>simp at g;subst g;exact .sc _ rfl
  | 1=>simp at g;subst g;exact .sc _ rfl
  |k+2=>simp at g
theorem nU{n}(g:0<=n)(i:n<=18446744073709551615):IntKind.u64.wrap n=n:=IntWalk.u64_in n ⟨g,i⟩
theorem qjD{b off len cells}(j:mu[b]?=some (.arr cells))(l:off+len<=cells.length):qA mu (.sl b 1 off len)=some (((cells.drop off).take len).map fun c=>[c]):=by
 simp only[qA,j];rw[if_pos zOm];congr 1;apply jZ;intro i;by_cases g:i<len
 .simp only[zB,Jl g,zd,Nat.mul_one]
  rw[jY,if_pos g,uO,qB (show off+i<cells.length by omega)];rw[zg (show off+i<cells.length by omega)];rfl
 .rw [wH zSo,wH zSo]
theorem qjE(l:List AV):(l.map fun c=>[c]).flatten=l:=by
 induction l with
 |nil=>rfl
 |cons x l g=>simp only[za,uQ,g];rfl
theorem qjF{l:List AV}(h:∀ c,c∈l->c.one=true):qW 1 (l.map fun c=>[c]):=fun r g=>by
 obtain⟨c,i,rfl⟩:=qn.1 g;exact⟨rfl,by simp[h c i]⟩
def rep(s:Int)(k m:Nat):List AV:=qM m (aI s)++qM (k-m) (aI 0)
theorem XJ(s k m)(h:m<=k):(rep s k m).length=k:=by simp[rep];omega
theorem nV(s k m j)(h:j<=m):(rep s k m).take j=qM j (aI s):=by
 rw[rep,List.take_append_of_le_length (zUs h),List.take_replicate,Nat.min_eq_left h]
theorem nW(s k m j)(g:m<=k)(h:m+j<=k):putCells (rep s k m) m (qM j (aI s))=rep s k (m+j):=by
 rw[y7 _ _ _ (by rw[XJ _ _ _ g];simpa using h)];rw[nV _ _ _ _ (qj m),List.replicate_append_replicate];have:List.drop (m+(qM j (aI s)).length) (rep s k m)=qM (k-(m+j)) (aI 0):=by
  rw[rep,List.length_replicate,List.drop_append,List.drop_of_length_le zSp,jk,List.length_replicate,List.drop_replicate];congr 1;omega
 rw[this];rfl
theorem qjG(s)(k:Nat)(T:k<=5):qg qc 249 [lI [s],aI k] (lI (qM k s)):=by
 refine qSV call249 func249 rfl ?_;have t:IntKind.u64.wrap (k:Int)=k:=nU zOm zOm;have w2:IntKind.u64.wrap 1=1:=nU zOm zOm;have C:ql.wrap (k:Int)=k:=zWr;simp[go_sem,show ¬(k:Int)<0 by omega,t,w2];refine tU (mulB 1 k zOm zOm) (.zs (.zs .nil)) ?_;rw[show 1*k / 18446744073709551616=0 by omega,show 1*k % 18446744073709551616=k by omega];simp[go_sem,show ¬(9223372036854775807:Int)<k by omega,C,show (k:Int)<=4294967296 by omega];refine Xp (ys:=[[aI s]]) zSi rfl zSp rfl (je [s]) ?_;have J:putCells (qM k (aI 0)) 0 (([[aI s]]:List (List AV)).take k).flatten=rep s k (min 1 k):=by
  have:=nW s k 0 (min 1 k) zOm zOm;rw[yM]at this;rw[<-this];cases k with
  |zero=>rfl
  |succ k=>rw[show min 1 (k+1)=1 by omega];simp[rep]
 simp only[J];simp[go_sem];refine tV (fun n U=>∃ m,n=k-m/\m<=k/\(k=m\/1<=m)/\U.tm 7 = .sl 0 1 0 k/\U.tm 8=aI m/\U.mu=[.arr (rep s k m)]) (k-min 1 k) ?_ ?_
 .exact ⟨min 1 k,rfl,zOm,zOm,zSi,zSi,zSi⟩
 rintro n U ⟨m,rfl,j,P,e7,o,em⟩;by_cases g:m<k
 .have p:qA [.arr (rep s k m)] (.sl 0 1 0 m)=some ((qM m (aI s)).map fun c=>[c]):=by
   rw[qjD (cells:=rep s k m) rfl (by rw[XJ _ _ _ j];omega)];rw[List.drop_zero,nV _ _ _ _ (qj m)]
  simp[go_sem,e7,o,em,g];refine tR zKr ?_;simp[go_sem,e7,o,g,show m<=k by omega];refine Xp (cells:=rep s k m) zSi rfl (by rw[XJ _ _ _ j];omega) p (qjF fun c p=>by rw[List.eq_of_mem_replicate p];rfl) ?_;have R:putCells (rep s k m) m ((((qM m (aI s)).map fun c=>[c]).take (k-m)).flatten)=rep s k (m+min m (k-m)):=by
   rw[<-List.map_take,qjE,List.take_replicate,Nat.min_comm];exact nW s k m _ j zOm
  simp only[R];simp[go_sem];refine Keep.loop (k-(m+min m (k-m))) zOm ⟨m+min m (k-m),rfl,zOm,zOm,by simp[go_sem,e7],?_,zSi⟩;simp[go_sem];rw[zWr]
 .obtain rfl:m=k:=by omega
  simp[go_sem,e7,o,em];have:rep s m m=(qM m s).map aI:=by simp[rep]
  rw[this];exact(ofCells (lo:=0) (mu:=[.arr ((qM m s).map aI)]) (b:=0) (Nat.zero_le _) rfl zSp).rdI
end
end YS
namespace YF
open Y1 P1
section
variable {J:Type}
abbrev cPm(p:tZ×Int):List AV:=[aS p.1,aI p.2]
abbrev lPm(l:List (tZ×Int)):AV := .lst false (l.map cPm)
abbrev cPd(p:Pd):List AV:=aS p.name :: lPm p.params :: cNd p.body
abbrev lPd(l:List Pd):AV := .lst false (l.map cPd)
abbrev cFa(f:tZ×Nd):List AV:=aS f.1 :: cNd f.2
abbrev lSo(l:List (tZ×Bool)):AV := .lst false (l.map JF)
abbrev lFl(l:List Fld):AV := .lst false (l.map jo)
abbrev lFa(l:List (tZ×Nd)):AV := .lst false (l.map cFa)
abbrev cTS(s:TS):List AV:=[lSo s.sS,lFl s.sA,lPd s.sT,lFa s.sP]
abbrev eTS(s:TS):AV := .agg (cTS s)
theorem qjH(p):∀ c,c∈cPm p->HF c:=by
 intro c g;simp at g;rcases g with rfl|rfl<;>exact HF.sc _
theorem wc(l):HF (lPm l):=HF.lst fun r g c i=>by
 obtain⟨p,_,rfl⟩:=qn.1 g;exact qjH p c i
theorem Um(p):∀ c,c∈cPd p->HF c:=by
 intro c g;simp only[cPd,qy]at g;rcases g with rfl|rfl|g
 .exact HF.sc _
 .exact wc _
 grind [y8]
theorem wX(l):HF (lPd l):=HF.lst fun r g c i=>by
 obtain⟨p,_,rfl⟩:=qn.1 g;exact Um p c i
theorem qjI(p):∀ c,c∈cFa p->HF c:=by
 intro c g;simp only[cFa,qy]at g;rcases g with rfl|g
 .exact HF.sc _
 grind [y8]
theorem JO(l):HF (lFa l):=HF.lst fun r g c i=>by
 obtain⟨p,_,rfl⟩:=qn.1 g;exact qjI p c i
theorem qjJ(p):∀ c,c∈JF p->HF c:=by
 intro c g;simp at g;rcases g with rfl|rfl<;>exact HF.sc _
theorem Un(l):HF (lSo l):=HF.lst fun r g c i=>by
 obtain⟨p,_,rfl⟩:=qn.1 g;exact qjJ p c i
theorem ZH(l):HF (lFl l):=HF.lst fun r g c i=>by
 obtain⟨p,_,rfl⟩:=qn.1 g;exact Xr p c i
theorem Uo(s):∀ c,c∈cTS s->HF c:=by
 intro c g;simp only[cTS,qy,qK,or_false]at g;rcases g with rfl|rfl|rfl|rfl
 .exact Un _
 .exact ZH _
 .exact wX _
 .exact JO _
theorem zw(s):HF (eTS s):=HF.agg (Uo s)
theorem qjK(n):(cNd n).length=5/\(cNd n).all AV.one=true:=⟨ZD n,JG n⟩
theorem Qy(p):(cPd p).length=7/\(cPd p).all AV.one=true:=⟨by simp[cPd,ZD],by simp only[cPd,List.all_cons,JG];rfl⟩
theorem nX(p):(cFa p).length=6/\(cFa p).all AV.one=true:=⟨by simp[cFa,ZD],by simp only[cFa,List.all_cons,JG];rfl⟩
theorem qjL(p):(jo p).length=3/\(jo p).all AV.one=true:=⟨rfl,rfl⟩
def Yk(P:qb)(l:AV){J:Type}(xs:List J)(enc:J->AV)(g:J->Bool):Prop:=
 ∃ f first j,l = .fn (.func f) first j/\∀ x,x∈xs->∃ i,qg P f i (aB (g x))/\WKs (first++[enc x]++j) i
def idxI(xs:List J)(g:J->Bool):Int:=match xs.findIdx? g with|some i=>i|none => -1
theorem Up{xs}{g:J->Bool}{k}(i)(l:g xs[k]=true)(o:∀(j:Nat)(h),j<k->g xs[j]=false):idxI xs g=k:=by
 grind [idxI,List.findIdx?_eq_some_iff_getElem]
theorem XK{xs}{g:J->Bool}(l:∀(j)(h:j<xs.length),g xs[j]=false):idxI xs g = -1:=by
 unfold idxI;have:xs.findIdx? g=none:=by
  rw[List.findIdx?_eq_none_iff];intro x i;obtain⟨j,o,rfl⟩:=vY.1 i
  grind
 rw[this]
theorem nY(xs)(g:J->Bool):decide (0<=idxI xs g)=xs.any g:=by
 unfold idxI;cases h:xs.findIdx? g with
 |none =>
  grind
 |some i =>
  grind [List.findIdx?_eq_some_iff_getElem,List.any_eq_true,qt]
theorem idxNd(full xs t g)(hf:Yk qc t xs (fun x => .agg (cNd x)) g)(hl:xs.length<=1000000000000):qg qc 150 [.lst full (xs.map cNd),t] (aI (idxI xs g)):=by
 refine qSV call150 func150 rfl ?_;obtain⟨f,first,l,rfl,hf⟩:=hf;simp[go_sem];refine qk.up xs.length (fun k U=>U.tm 0 = .lst full (xs.map cNd)/\U.tm 1 = .fn (.func f) first l/\U.tm 6 = .lst full (xs.map cNd)/\U.tm 7=aI xs.length/\U.tm 8=aI k/\U.mu=[]/\∀(j:Nat)(h:j<xs.length),j<k->g xs[j]=false) ?_ ?_
 .simp [go_sem]
 .rintro k U hk ⟨C,I,R,e7,p,J,P⟩
  by_cases T:k=xs.length
  .subst T
   simp[go_sem,e7,p,J];rw[XK (fun j h=>P j h h)];exact .zsc _
  .have i:k<xs.length:=by omega
   obtain⟨o,hs,hw⟩:=hf xs[k] (qt i);have a0:=yi (n:=((k+1:Nat):Int)) zOm zOm;simp[go_sem,C,I,e7,p,J,i,qjK xs[k]];refine .inl ⟨_,.inl ⟨f,first,l,o,rfl,hs,.inl hw⟩,?_⟩;cases hg:g xs[k] with
   |true =>
    simp[go_sem];rw[Up i hg (fun j h hj=>P j h hj)];exact .zsc _
   |false =>
    simp[go_sem,C,I,R,e7,p,i]
    grind
theorem nZ(full xs i g)(hf:Yk qc i xs (fun x => .agg (cNd x)) g)(l:HF i)(j:HF (.lst full (xs.map cNd)))(o:xs.length<=1000000000000):qg qc 76 [.lst full (xs.map cNd),i] (aB (xs.any g)):=by
 refine qSU call76 func76 rfl ?_;refine fR (idxNd full xs i g hf o) (.zk j (.zk l .nil)) ?_;rw[nY];exact .zsc _
theorem XL(full xs t g)(hf:Yk qc t xs (fun x => .agg (cPd x)) g)(hl:xs.length<=1000000000000):qg qc 184 [.lst full (xs.map cPd),t] (aI (idxI xs g)):=by
 refine qSV call184 func184 rfl ?_;obtain⟨f,first,l,rfl,hf⟩:=hf;simp[go_sem];refine qk.up xs.length (fun k U=>U.tm 0 = .lst full (xs.map cPd)/\U.tm 1 = .fn (.func f) first l/\U.tm 6 = .lst full (xs.map cPd)/\U.tm 7=aI xs.length/\U.tm 8=aI k/\U.mu=[]/\∀(j:Nat)(h:j<xs.length),j<k->g xs[j]=false) ?_ ?_
 .simp [go_sem]
 .rintro k U hk ⟨C,I,R,e7,p,J,P⟩
  by_cases T:k=xs.length
  .subst T
   simp[go_sem,e7,p,J];rw[XK (fun j h=>P j h h)];exact .zsc _
  .have i:k<xs.length:=by omega
   obtain⟨o,hs,hw⟩:=hf xs[k] (qt i);have a0:=yi (n:=((k+1:Nat):Int)) zOm zOm;simp[go_sem,C,I,e7,p,J,i,Qy xs[k]];refine .inl ⟨_,.inl ⟨f,first,l,o,rfl,hs,.inl hw⟩,?_⟩;cases hg:g xs[k] with
   |true =>
    simp[go_sem];rw[Up i hg (fun j h hj=>P j h hj)];exact .zsc _
   |false =>
    simp[go_sem,C,I,R,e7,p,i]
    grind
theorem hasPd(full xs i g)(hf:Yk qc i xs (fun x => .agg (cPd x)) g)(l:HF i)(j:HF (.lst full (xs.map cPd)))(o:xs.length<=1000000000000):qg qc 207 [.lst full (xs.map cPd),i] (aB (xs.any g)):=by
 refine qSU call207 func207 rfl ?_;refine fR (XL full xs i g hf o) (.zk j (.zk l .nil)) ?_;rw[nY];exact .zsc _
theorem idxFl(full xs fv g)(hf:Yk qc fv xs (fun x => .agg (jo x)) g)(hl:xs.length<=1000000000000):qg qc 240 [.lst full (xs.map jo),fv] (aI (idxI xs g)):=by
 refine qSV call240 func240 rfl ?_;obtain⟨f,first,l,rfl,hf⟩:=hf;simp[go_sem];refine qk.up xs.length (fun k U=>U.tm 0 = .lst full (xs.map jo)/\U.tm 1 = .fn (.func f) first l/\U.tm 6 = .lst full (xs.map jo)/\U.tm 7=aI xs.length/\U.tm 8=aI k/\U.mu=[]/\∀(j:Nat)(h:j<xs.length),j<k->g xs[j]=false) ?_ ?_
 .simp [go_sem]
 .rintro k U hk ⟨t,C,I,e7,J,P,R⟩
  by_cases he:k=xs.length
  .subst he
   simp[go_sem,t,C,I,e7,J,P];rw[XK (fun j h=>R j h h)];exact .zsc _
  .have i:k<xs.length:=by omega
   obtain⟨o,hs,hw⟩:=hf xs[k] (qt i);have p:=yi (n:=((k+1:Nat):Int)) zOm zOm;simp[go_sem,t,C,I,e7,J,P,i,qjL xs[k],q9];refine .inl ⟨_,.inl ⟨f,first,l,o,rfl,hs,.inl hw⟩,?_⟩;cases hg:g xs[k] with
   |true =>
    simp[go_sem,t,C,I,e7,J,P];rw[Up i hg (fun j h hj=>R j h hj)];exact .zsc _
   |false =>
    simp[go_sem,t,C,I,e7,J,P,i];simp at p;refine⟨p,fun j h hj=>?_⟩;by_cases T:j=k
    .subst T;exact hg
    .exact R j h zOm
end
end YF
namespace Y9
open Y1 Y2 P1 YF
abbrev cCk(c:Ck):List AV:=[lSo c.ts.sS,lFl c.ts.sA,lPd c.ts.sT,lFa c.ts.sP,aI c.calls,.lst false (c.timed.map fun b=>[aB b])]
abbrev eCk(c:Ck):AV := .ip (cCk c)
theorem jf(c):HF (eCk c):=HF.ip fun x g=>by
 simp only[cCk,qy,qK,or_false]at g;rcases g with rfl|rfl|rfl|rfl|rfl|rfl
 .exact Un _
 .exact ZH _
 .exact wX _
 .exact JO _
 .exact HF.sc _
 .exact HF.lst fun r j c i=>by
   obtain⟨b,_,rfl⟩:=qn.1 j;simp at i;subst i;exact HF.sc _
structure okTS (s:TS):Prop where
 ns:s.sS.length<=4
 nf:s.sA.length<=6
 np:s.sT.length<=8
 nfa:s.sP.length<=16
 sl:∀ x,x∈s.sS->x.1.size<=4611686018427387904
 fl:∀ f,f∈s.sA->1<=f.sS.length/\f.sS.length<=3/\∀ x,x∈f.sS->0<=x/\x<s.sS.length
 pl:∀ p,p∈s.sT->p.params.length<=8/\∀ x,x∈p.params->0<=x.2/\x.2<s.sS.length
structure okCk (c:Ck):Prop where
 ts:okTS c.ts
 calls:c.calls<=c.ts.sT.length
 timed:c.calls<=c.timed.length
theorem qjM(p nm):qg qc 247 [.agg (cPd p),.ip [aS nm]] (aB (decide (p.name=nm))):=by
 refine qSV call247 func247 rfl ?_;by_cases h:p.name=nm
 .simp [go_sem,h]
  exact .zsc _
 .simp [go_sem,h,jG h]
  exact .zsc _
theorem n6(c)(o:okCk c)(nm):qg qc 203 [eCk c,aS nm] (aI (match zl c nm with|some i=>i|none => -1)):=by
 refine qSU call203 func203 rfl ?_;refine tR zKr ?_;have C:=o.calls;have I:=o.ts.np;have j:List.take c.calls (c.ts.sT.map cPd)=(c.ts.sT.take c.calls).map cPd:=by rw[List.map_take]
 simp[go_sem,show (c.calls:Int)<=c.ts.sT.length by omega];refine⟨⟨_,_,⟨rfl,rfl⟩,fun r J=>by obtain⟨p,_,rfl⟩:=qn.1 J;exact(Qy p).1⟩,?_⟩;rw[j];have l:HF (.fn (.func 247) [] [.ip [aS nm]]):=HF.fn zSp (fun x t=>by simp at t;subst t;exact HF.ip fun y g=>by simp at g;subst g;exact HF.sc _);refine fR (XL false (c.ts.sT.take c.calls) _ (fun p=>decide (p.name=nm)) ⟨_,_,_,rfl,fun p P=>⟨_,qjM p nm,.zk (HF.agg (Um p)) (.zk (HF.ip fun y g=>by simp at g;subst g;exact HF.sc _) .nil)⟩⟩ zSo) (.zk (wX _) (.zk l .nil)) ?_;exact .zsc _
theorem Qz{c}(i:okCk c){nm p}(h:zl c nm=some p):p<c.calls/\p<c.ts.sT.length:=by
 unfold zl at h;rw[List.findIdx?_eq_some_iff_getElem]at h;obtain⟨g,_⟩:=h;simp at g;omega
theorem n7(c)(o:okCk c)(n):qg qc 142 [eCk c,eNd n] (aB (zX c n.op n.name)):=by
 refine qSV call142 func142 rfl ?_;unfold zX yw;by_cases t:n.op=5
 .simp [go_sem,t];exact .zsc _
 by_cases g:n.op=48
 .simp [go_sem,g];exact .zsc _
 by_cases i:n.op=49
 .simp [go_sem,i];exact .zsc _
 by_cases j:n.op=50
 .simp [go_sem,j];exact .zsc _
 by_cases l:n.op=51
 .simp [go_sem,l];exact .zsc _
 by_cases h47:n.op=47
 .simp [go_sem,h47]
  refine tU (n6 c o n.name) (.zk (jf c) (.zs .nil)) ?_;cases C:zl c n.name with
  |none =>
   simp[go_sem];exact .zsc _
  |some p =>
   obtain⟨I,P⟩:=Qz o C;have J:p<c.timed.length:=Zo I o.timed;simp[go_sem,J];exact .zsc _
 .simp [go_sem,t,g,i,j,l,h47]
  exact .zsc _
theorem n8(c):∀ ks,Ug c ks=ks.any (yx c)
 | []=>rfl
 |k :: ks=>by simp[Ug,n8 c ks]
noncomputable abbrev szN(n:Nd):Nat:=SizeOf.sizeOf n
theorem zf{n k}(h:k∈n.sD):szN k<szN n:=by
 obtain⟨op,nm,i,ks,p⟩:=n;have:SizeOf.sizeOf k<SizeOf.sizeOf ks:=List.sizeOf_lt_of_mem h;simp only[szN,Nd.mk.sizeOf_spec];omega
inductive Small:Nd->Prop where
 |mk (n:Nd) (h:n.sD.length<=1000) (hk:∀ k,k∈n.sD->Small k):Small n
theorem Small.len{n}(h:Small n):n.sD.length<=1000:=by cases h;assumption
theorem Small.kid{n k}(h:Small n)(g:k∈n.sD):Small k:=by
 cases h with
 |mk _ _ h=>exact h k g
theorem Uq(c n):yx c n=(zX c n.op n.name||n.sD.any (yx c)):=by
 obtain⟨op,nm,i,ks,p⟩:=n;simp[yx,n8,Nd.op,Nd.name,Nd.sD]
theorem n9(c)(j:okCk c):∀ m n,szN n<=m->Small n->qg qc 141 [eCk c,eNd n] (aB (yx c n))
 | 0,n,l,_=>by obtain⟨op,nm,i,ks,p⟩:=n;simp[szN]at l
 |m+1,n,l,o=>by
  refine qSV call141 func141 rfl ?_;rw[Uq];simp[go_sem];refine tU (n7 c j n) (.zk (jf c) (.zk (qE n) .nil)) ?_;cases I:zX c n.op n.name with
  |true =>
   simp[go_sem];exact .zsc _
  |false =>
   simp[go_sem];have g:HF (.fn (.func 141) [eCk c] []):=HF.fn (fun x t=>by simp at t;subst t;exact jf c) zSp;refine fR (nZ false n.sD _ (yx c) ⟨_,_,_,rfl,fun k C=>⟨_,n9 c j m k (zW1 (zf C)) (o.kid C),.zk (jf c) (.zk (qE k) .nil)⟩⟩ g (JH _) (zW1 o.len)) (.zk (JH _) (.zk g .nil)) ?_;exact .zsc _
end Y9
namespace E1
section
variable {l:List Int}
theorem Yl{n:Int}(g:0<=n)(j:n<=20):∀ i,i<=3->0<=n ^ i/\n ^ i<=8000:=by
 have l:0<=n*n:=Int.mul_nonneg g g;have o:n*n<=20*20:=Int.mul_le_mul j j g zOm;have t:0<=n*n*n:=Int.mul_nonneg l g;have C:n*n*n<=20*20*20:=Int.mul_le_mul o j g zOm;intro i p
 match i,p with
 | 0,_=>rw[Int.pow_zero];omega
 | 1,_=>rw[Int.pow_succ,Int.pow_zero];omega
 | 2,_=>rw[Int.pow_succ,Int.pow_succ,Int.pow_zero,Int.one_mul];omega
 | 3,_=>grind
def powN(k:Int):Nat:=(min k 3).toNat
def powI(n k:Int):Int:=n ^ powN k
def zq(l:List Int):Prop:=l.Pairwise (·<·)
instance (l:List Int):Decidable (zq l):=inferInstanceAs (Decidable (l.Pairwise (·<·)))
theorem qjN(h:∀(i)(h:i+1<l.length),l[i]<l[i+1]):zq l:=by
 unfold zq;induction l with
 |nil=>exact .nil
 |cons a l g =>
  have g:=g fun i p=>by
   have:=h (i+1) (zUs p);rw[List.getElem_cons_succ,List.getElem_cons_succ]at this;exact this
  refine wI.2 ⟨?_,g⟩;cases l with
  |nil=>simp
  |cons b l =>
   have j:=h 0 zSp;simp at j;intro c o;rcases qy.1 o with rfl|o
   .exact j
   grind [wI]
theorem Ur(h:zq l){i j}(g:i<j)(o:j<l.length):l[i]' zOm<l[j]:=List.pairwise_iff_getElem.1 h i j zOm o g
def jz(n:Int)(r:Rl):Bool:=decide (0<=n)&&decide (n<=12)&&decide (1<=r.ar)&&decide (r.ar<=3)&&r.ts.all (fun t=>decide (0<=t)&&decide (t<powI n r.ar))&&decide (zq r.ts)
def inOk(a b:Rl):Bool:=a.ts.all (fun t=>decide (t∈b.ts))
theorem Q0(h:zq l):l.Nodup:=List.Pairwise.imp (fun h e=>zOm) h
theorem Us{m}(g:zq l)(i:zq m)(h:∀ x,x∈l↔x∈m):l=m:=
 List.Perm.eq_of_pairwise (le:=fun a b:Int=>a<b) (fun a b _ _ g i=>zOm) g i ((List.perm_ext_iff_of_nodup (Q0 g) (Q0 i)).2 h)
def atN(l:List Int)(r:Int):Nat->Nat
 | 0=>0
 |n+1=>if r<=gI l n then atN l r n else n+1
theorem me(l r):∀ n,atN l r n<=n
 | 0=>qj _
 |n+1=>by
  have:=me l r n;rw[atN];split<;>omega
def addL(l:List Int)(r:Int):List Int:=if l[atN l r l.length]?=some r then l else l.take (atN l r l.length)++[r]++l.drop (atN l r l.length)
theorem Ut(l r):(addL l r).length<=l.length+1:=by
 grind [addL]
def ofL(ts:List Int):List Int:=ts.foldl addL []
theorem mh(ts:List Int)(k h):ofL (ts.take (k+1))=addL (ofL (ts.take k)) ts[k]:=by
 unfold ofL;rw[List.take_add_one,qB h,ul];rfl
theorem mj(ts:List Int):∀ k,(ofL (ts.take k)).length<=k
 | 0=>by simp[ofL]
 |k+1=>by
  have g:=mj ts k;by_cases h:k<ts.length
  .rw [mh ts k h]
   have:=Ut (ofL (ts.take k)) ts[k];omega
  .rw [zY zOm]
   rw[zY zOm]at g;omega
theorem mn(l r):∀ n,(∀ i,atN l r n<=i->i<n->r<=gI l i)/\(0<atN l r n->gI l (atN l r n-1)<r)
 | 0=>⟨fun i _ h=>zOm,fun h=>by simp[atN]at h⟩
 |n+1=>by
  obtain⟨j,g⟩:=mn l r n;rw[atN];by_cases h:r<=gI l n
  .rw [if_pos h]
   refine⟨fun i o p=>?_,g⟩;by_cases e:i=n
   .rw [e];exact h
   grind
  .rw [if_neg h]
   grind
theorem qjO(P:zq l)(r):zq (addL l r)/\∀ x,x∈addL l r↔x∈l\/x=r:=by
 obtain⟨T,U⟩:=mn l r l.length;have hk:=me l r l.length;unfold addL;generalize atN l r l.length=k at *
 by_cases p:l[k]?=some r
 .rw [if_pos p]
  grind
 .rw [if_neg p]
  have o:∀ i j (g:i<l.length) (R:j<l.length),i<j->l[i]<l[j]:=fun i j g R t=>List.pairwise_iff_getElem.1 P i j g R t
  have lo:∀ x,x∈l.take k->x<r:=by
   intro x C;obtain⟨i,g,e⟩:=vY.1 C;rw[List.getElem_take]at e;have a0:i<k:=by simp at g;omega
   have:=U zOm;rw[j9 zOm]at this;by_cases I:i=k-1
   .subst I;omega
   .have:=o i (k-1) zOm zOm zOm;omega
  have g:∀ x,x∈l.drop k->r<x:=by
   intro x C;obtain⟨i,g,e⟩:=vY.1 C;rw[List.getElem_drop]at e;have J:k+i<l.length:=by simp at g;omega
   have h0:=T k zOm zOm;rw[j9 zOm]at h0;have a1:l[k]' zOm≠r:=fun e=>p (by rw[qB zOm,e])
   by_cases I:i=0
   .subst I;simp at e;omega
   .have:=o k (k+i) zOm J zOm;omega
  refine⟨?_,fun x=>?_⟩
  .unfold zq at *
   rw[zG,List.pairwise_append];refine⟨P.sublist (List.take_sublist _ _),?_,fun a ha b hb=>?_⟩
   .grind
   grind
  .have:x∈l↔x∈l.take k\/x∈l.drop k:=by
    rw[<-qO,Z0]
   rw[this,qO,qO,qS];constructor
   .rintro ((h|h)|h)
    .exact .inl (.inl h)
    .exact .inr h
    .exact .inl (.inr h)
   .rintro ((h|h)|h)
    .exact .inl (.inl h)
    .exact .inr h
    .exact .inl (.inr h)
theorem mq:∀(ts l:List Int),zq l->zq (ts.foldl addL l)/\∀ x,x∈ts.foldl addL l↔x∈l\/x∈ts
 | [],l,h=>⟨h,fun x=>zSp⟩
 |t :: ts,l,h=>by
  obtain⟨g,i⟩:=qjO h t;obtain⟨j,o⟩:=mq ts _ g;refine⟨j,fun x=>?_⟩;rw[List.foldl_cons,o,i,qy];constructor
  .rintro ((h|h)|h)
   .exact .inl h
   .exact .inr (.inl h)
   .exact .inr (.inr h)
  .rintro (h|h|h)
   .exact .inl (.inl h)
   .exact .inl (.inr h)
   .exact .inr h
theorem vO(ts):zq (ofL ts)/\∀ x,x∈ofL ts↔x∈ts:=by
 obtain⟨g,i⟩:=mq ts [] (by simp_all[zq])
 grind [ofL]
structure GR (n:Int) (r:Rl):Prop where
 ar1:1<=r.ar
 ar3:r.ar<=3
 val:∀ t,t∈r.ts->0<=t/\t<powI n r.ar
 srt:zq r.ts
def unR(a b:Rl):Rl:=⟨a.ar,ofL (a.ts++b.ts)⟩
def inR(a b:Rl):Rl:=⟨a.ar,a.ts.filter fun t=>decide (t∈b.ts)⟩
def diR(a b:Rl):Rl:=⟨a.ar,a.ts.filter fun t=>decide (¬t∈b.ts)⟩
def prL(m:Int)(x y:List Int):List Int:=x.flatMap fun s=>y.map fun t=>s*m+t
def prR(n:Int)(a b:Rl):Rl:=⟨a.ar+b.ar,prL (powI n b.ar) a.ts b.ts⟩
def joL(n m:Int)(x y:List Int):List Int:=x.flatMap fun s=>(y.filter fun t=>decide (t / m=s % n)).map fun t=>s / n*m+t % m
def joR(n:Int)(a b:Rl):Rl:=⟨a.ar+b.ar-2,ofL (joL n (powI n (b.ar-1)) a.ts b.ts)⟩
def trR(n:Int)(a:Rl):Rl:=⟨2,ofL (a.ts.map fun t=>t % n*n+t / n)⟩
def clR(n:Int):Nat->Rl->Rl
 | 0,c=>c
 |f+1,c=>if (unR c (joR n c c)).ts.length=c.ts.length then c else clR n f (unR c (joR n c c))
def idR(n:Int):Rl:=⟨2,(qs n.toNat).map fun x:Nat=>(x:Int)*n+x⟩
theorem qjP:zq []:=List.Pairwise.nil
theorem Ym{m:Nat}(i:zq l)(h:∀ t,t∈l->0<=t/\t<(m:Int)):l.length<=m:=by
 have:=jm (l₂:=(qs m).map fun x:Nat=>(x:Int)) (Q0 i) fun x j=>by
  obtain⟨o,p⟩:=h x j;exact qn.2 ⟨x.toNat,ye.2 zOm,zOm⟩
 grind
theorem qjQ(p)(h:zq l):zq (l.filter p):=List.Pairwise.filter p h
theorem Yn{n}(g:0<=n)(i:n<=20)(k):0<=powI n k/\powI n k<=8000:=Yl g i _ (by unfold powN;omega)
theorem GR.len{n r}(i:0<=n)(j:n<=20)(g:GR n r):r.ts.length<=8000:=by
 have o:=Yn i j r.ar;have:=Ym (m:=(powI n r.ar).toNat) g.srt fun t l=>zW1 (g.val t l)
 omega
theorem aM{n a b}(g:GR n a)(i:GR n b)(e:a.ar=b.ar):GR n (unR a b):=by
 obtain⟨j,l⟩:=vO (a.ts++b.ts);refine⟨g.ar1,g.ar3,fun t o=>?_,j⟩;rcases qO.1 ((l t).1 o) with h|h
 .exact g.val t h
 .show 0<=t/\t<powI n a.ar
  rw[e];exact i.val t h
theorem GR.filter{n a}(g:GR n a)(p):GR n ⟨a.ar,a.ts.filter p⟩:=
 ⟨g.ar1,g.ar3,fun t i=>g.val t (y5.1 i).1,qjQ p g.srt⟩
end
end E1
namespace E2
open E1
section
variable {a:Int}
theorem wd{n k}(g:0<=k)(i:k<=3):powI n k=n ^ k.toNat:=by
 grind [powI,powN]
theorem we{n i j}(g:0<=i)(l:0<=j)(h:i+j<=3):powI n (i+j)=powI n i*powI n j:=by
 rw[wd zOm h,wd g zOm,wd l zOm,<-Int.pow_add];congr 1;omega
theorem uD(n):powI n 1=n:=by rw[wd zOm zOm];exact Int.pow_succ n 0 ▸ by simp
theorem qjR{n}(h:0<=n)(k):0<=powI n k:=Int.pow_nonneg h
theorem JP{u v m}(g:0<=u)(j:u<a)(l:0<=v)(o:v<m):0<=u*m+v/\u*m+v<a*m:=by
 have p:0<=u*m:=Int.mul_nonneg g zOm;have i:(u+1)*m<=a*m:=Int.mul_le_mul_of_nonneg_right zOm zOm;rw[Int.add_mul,Int.one_mul]at i;omega
theorem GR.prod{n}(p:0<=n){a b}(i:GR n a)(g:GR n b)(h:a.ar+b.ar<=3):GR n (prR n a b):=by
 have U:=i.ar1;have b1:=g.ar1;refine⟨by show 1<=a.ar+b.ar;omega,h,fun t o=>?_,?_⟩
 .obtain ⟨s,j,o⟩:=vZ.1 o
  obtain⟨u,l,rfl⟩:=qn.1 o;show 0<=s*powI n b.ar+u/\s*powI n b.ar+u<powI n (a.ar+b.ar);rw[we zOm zOm h];exact JP (i.val s j).1 (i.val s j).2 (g.val u l).1 (g.val u l).2
 .unfold zq
  show (a.ts.flatMap fun s=>b.ts.map fun t=>s*powI n b.ar+t).Pairwise (·<·);rw[List.pairwise_flatMap];refine⟨fun s j=>?_,?_⟩
  .rw [List.pairwise_map]
   exact List.Pairwise.imp (fun h=>zOm) g.srt
  .refine List.Pairwise.imp_of_mem (fun {s C} j I h x J y P=>?_) i.srt
   obtain⟨u,l,rfl⟩:=qn.1 J;obtain⟨v,R,rfl⟩:=qn.1 P;have e1:=g.val u l;have e2:=g.val v R;have T:(s+1)*powI n b.ar<=C * powI n b.ar:=Int.mul_le_mul_of_nonneg_right zOm (qjR p _);rw[Int.add_mul,Int.one_mul]at T;omega
theorem GR.ofL{n g l}(i:1<=g)(j:g<=3)(h:∀ t,t∈l->0<=t/\t<powI n g):GR n ⟨g,ofL l⟩:=by
 obtain⟨s1,o⟩:=vO l;exact⟨i,j,fun t p=>h t ((o t).1 p),s1⟩
theorem GR.join{n}(J:0<=n){a b}(g:GR n a)(l:GR n b)(P:1<=a.ar+b.ar-2)(R:a.ar+b.ar-2<=3):GR n (joR n a b):=by
 have a1:=g.ar1;have b1:=l.ar1;have a3:=g.ar3;have b3:=l.ar3;refine GR.ofL P R fun t o=>?_
 obtain⟨s,T,o⟩:=vZ.1 o;obtain⟨u,p,rfl⟩:=qn.1 o;have p:=(y5.1 p).1;obtain⟨U,s1⟩:=g.val s T;obtain⟨u0,u1⟩:=l.val u p;have C:powI n a.ar=powI n (a.ar-1)*n:=by
  have:=we (n:=n) (i:=a.ar-1) (j:=1) zOm zOm zOm
  grind [uD]
 have eb:powI n b.ar=powI n (b.ar-1)*n:=by
  have:=we (n:=n) (i:=b.ar-1) (j:=1) zOm zOm zOm
  grind [uD]
 have I:0<n:=by
  rcases Int.lt_or_eq_of_le J with h|h
  .exact h
  .exfalso;rw[<-h]at C;rw[Int.mul_zero]at C;grind
 have hm:0<powI n (b.ar-1):=Int.pow_pos I;have hd:s / n<powI n (a.ar-1):=Int.ediv_lt_of_lt_mul I zOm;rw[show a.ar+b.ar-2=(a.ar-1)+(b.ar-1) by omega,we zOm zOm zOm];exact JP (Int.ediv_nonneg U zOm) hd (Int.emod_nonneg _ zOm) (Int.emod_lt_of_pos _ hm)
theorem GR.trans{n}(o:0<=n){a}(p:GR n a)(h:a.ar=2):GR n (trR n a):=by
 have g:powI n 2=n*n:=by
  have:=we (n:=n) (i:=1) (j:=1) zOm zOm zOm;rw[uD]at this;exact this
 refine GR.ofL zOm zOm fun t C=>?_
 obtain⟨s,I,rfl⟩:=qn.1 C;obtain⟨J,s1⟩:=p.val s I;rw[h,g]at s1;have l:0<n:=by
  rcases Int.lt_or_eq_of_le o with h|h
  .exact h
  .exfalso;rw[<-h,Int.mul_zero]at s1;omega
 rw[g];exact JP (Int.emod_nonneg _ zOm) (Int.emod_lt_of_pos _ l) (Int.ediv_nonneg J zOm) (Int.ediv_lt_of_lt_mul l s1)
theorem aD{n}(i:0<=n):∀(f){c},GR n c->c.ar=2->GR n (clR n f c)/\(clR n f c).ar=2
 | 0,c,g,h=>⟨g,h⟩
 |f+1,c,g,h=>by
  rw[clR];split
  .exact ⟨g,h⟩
  .have j:=GR.join i g g zOm zOm
   have l:=aM g j (by show c.ar=c.ar+c.ar-2;omega);exact aD i f l h
theorem GR.iden{n}(g:0<=n):GR n (idR n):=by
 have l:powI n 2=n*n:=by
  have:=we (n:=n) (i:=1) (j:=1) zOm zOm zOm;rw[uD]at this;exact this
 refine⟨by show (1:Int)<=2;omega,by show (2:Int)<=3;omega,fun t o=>?_,?_⟩
 .obtain ⟨k,p,rfl⟩:=qn.1 o
  rw[ye]at p;show _/\_<powI n 2;rw[l];exact JP zOm zOm zOm zOm
 .show ((qs n.toNat).map fun x:Nat=>(x:Int)*n+x).Pairwise (·<·)
  rw[List.pairwise_map];refine List.Pairwise.imp (fun {x y} h=>?_) List.pairwise_lt_range;have:=Int.mul_le_mul_of_nonneg_right (a:=(x:Int)) (b:=y) (c:=n) zOm g;omega
theorem GR.nil{n g}(i:1<=g)(j:g<=3):GR n ⟨g,[]⟩:=⟨i,j,fun t l=>absurd l qK,qjP⟩
theorem GR.one{n}(g:0<=a)(i:a<n):GR n ⟨1,[a]⟩:=
 ⟨by grind,by grind,fun t j=>by grind [qS,powI,uD],List.pairwise_singleton _ _⟩
theorem GR.run{n}(m:Nat)(j:0<=a)(l:a+m<=n):GR n ⟨1,(qs m).map fun k:Nat=>a+k⟩:=by
 refine⟨by grind,by grind,fun t g=>?_,?_⟩
 .obtain ⟨k,i,rfl⟩:=qn.1 g
  rw[ye]at i;show _/\_<powI n 1;rw[uD];omega
 .show ((qs m).map fun k:Nat=>a+k).Pairwise (·<·)
  rw[List.pairwise_map];exact List.Pairwise.imp (fun {x y} h=>zOm) List.pairwise_lt_range
theorem GR.sN{n}(g:0<=n)(m:Nat)(C:0<=a)(I:a+m+1<=n):GR n ⟨2,(qs m).map fun k:Nat=>(a+k)*n+(a+k+1)⟩:=by
 have l:powI n 2=n*n:=by
  have:=we (n:=n) (i:=1) (j:=1) zOm zOm zOm;rw[uD]at this;exact this
 refine⟨by grind,by grind,fun t o=>?_,?_⟩
 .obtain ⟨k,p,rfl⟩:=qn.1 o
  rw[ye]at p;show _/\_<powI n 2;rw[l];exact JP zOm zOm zOm zOm
 .show ((qs m).map fun k:Nat=>(a+k)*n+(a+k+1)).Pairwise (·<·)
  rw[List.pairwise_map];refine List.Pairwise.imp (fun {x y} h=>?_) List.pairwise_lt_range;have:=Int.mul_le_mul_of_nonneg_right (a:=a+(x:Int)) (b:=a+y) (c:=n) zOm g;omega
end
end E2
namespace E3
open P1 E1
structure Md where
 sc:Sc
 sK:List (List Rl)
 loop:Int
abbrev cSt(s:List Rl):List AV:=[lRel s]
abbrev lSt(l:List (List Rl)):AV := .lst false (l.map cSt)
abbrev cMd(m:Md):List AV:=[lI m.sc.sC,aI m.sc.sN,lSt m.sK,aI m.loop]
abbrev eMd(m:Md):AV := .agg (cMd m)
abbrev XE(J:Type):=Except Int J
structure Pl where
 st:Nat
 env:List (tZ×Int)
structure Mo where
 ts:TS
 m:Md
def Mo.nx(x:Mo)(s:Nat):Nat:=if s+1<x.m.sK.length then s+1 else x.m.loop.toNat
def uf(n:Int)(a b:Rl):XE Rl:=if 1<=a.ar+b.ar-2/\a.ar+b.ar-2<=3 then .ok (joR n a b) else .error 42
def wh(n:Int)(a b:Rl):XE Rl:=if a.ar+b.ar<=3 then .ok (prR n a b) else .error 42
end E3
namespace E5
open Y1 E3
variable (x:Mo) (p:Pl) (f g d e:Nd) (nm:tZ)
end E5
namespace E7
open E3
def it(x:Mo):Nat->Nat->Nat
 | 0,s=>s
 |k+1,s=>it x k (x.nx s)
end E7
namespace Y10
open Y1 Y2 Y3 P1 Y6 Y7 YF Y9
section
variable {s:AV}{K:AV->Mu->Prop}{xs:List (List AV)}{mu:Mu}
abbrev rB(b:Bool):List AV:=[aB b]
theorem XM(l:List Bool):qW 1 (l.map rB):=fun r g=>by
 obtain⟨n,_,rfl⟩:=qn.1 g;exact⟨rfl,rfl⟩
theorem aG{lo av}{xs:List Bool}(h:OwnF lo mu 1 av (xs.map rB)):Rd mu av (.lst false (xs.map rB)):=
 h.1.rd (XM xs).ok fun r g c i=>by
  obtain⟨n,_,rfl⟩:=qn.1 g
  grind [HF.sc]
theorem XN{lo sz mu' av}(h:OwnF lo mu sz av xs)(i:MuLe mu mu'):OwnF lo mu' sz av xs:=by
 obtain⟨j,l,o⟩:=h;have g:mu.length<=mu'.length:=by
  rcases Nat.eq_zero_or_pos mu.length with p|p
  .omega
  .have:=i (mu.length-1) mu[mu.length-1] (qB zOm)
   have:=(qh.1 this).1;omega
 refine⟨?_,l,Nat.le_trans o g⟩;rcases j with rfl|⟨b,rfl,t⟩
 .exact .inl rfl
 .exact .inr ⟨b,rfl,i _ _ t⟩
theorem ZI(ts):∀ k,k<=ts.sT.length->(tmsL ts k).length=k
 | 0,_=>rfl
 |k+1,h=>by
  have g:k<ts.sT.length:=zOm;simp[tmsL,ZI ts k zOm,qB g]
theorem vu{ts}(h:okTS ts){k}(g:k<=ts.sT.length):okCk (mkCk ts k):=⟨h,g,Nat.le_of_eq (ZI ts k g).symm⟩
theorem mr(ts)(h:okTS ts)(hs:∀ p,p∈ts.sT->Small p.body)(n)(hn:n<=ts.sT.length):qg qc 71 [eTS ts,aI n] (eCk (mkCk ts n)):=by
 refine qSQ call71 func71 rfl { mt:=[9] } ?_;have a8:=h.np;simp[go_sem];refine aA n (fun k U=>∃ t I,U.tm 1=aI n/\U.tm 2 = .ip (cTS ts)/\U.tm 5 = .ptr 0 0/\U.mu=[.arr [lSo ts.sS,lFl ts.sA,lPd ts.sT,lFa ts.sP,aI k,t]]++I/\OwnF 1 U.mu 1 t ((tmsL ts k).map rB)) ?_ ?_
 .refine ⟨.lst true [],[],zSi,zSi,zSi,zSi,?_⟩
  exact OwnF.nil zSi
 .rintro k U hk ⟨t,I,e1,e2,e5,hm,ho⟩
  have a3:Rd U.mu (.ptr 0 0) (eCk (mkCk ts k)):=by
   rw[hm];refine .ptr 0 0 _ _ rfl zSp (fun j x y g C=>?_);rw[<-hm]
   match j with
   | 0=>simp at g C;subst g;subst C;exact .hf _ (Un _)
   | 1=>simp at g C;subst g;subst C;exact .hf _ (ZH _)
   | 2=>simp at g C;subst g;subst C;exact .hf _ (wX _)
   | 3=>simp at g C;subst g;subst C;exact .hf _ (JO _)
   | 4=>simp at g C;subst g;subst C;exact .zsc _
   | 5=>simp at g C;subst g;subst C;exact aG ho
   |j+6=>simp at g
  by_cases a0:k<n
  .have P:k<ts.sT.length:=by omega
   simp[go_sem,e1,e5,hm,a0];refine tR zKr ?_;have a1:OwnF 1 (U.mu++[.arr (cNd ts.sT[k].body)]) 1 t ((tmsL ts k).map rB):=XN ho (MuLe.push _ _);have J:=Rd.le (MuLe.push U.mu (.arr (cNd ts.sT[k].body))) a3;have a4:=n9 (mkCk ts k) (vu h zOm) _ ts.sT[k].body (qj _) (hs _ (qt P));have a5:tmsL ts (k+1)=tmsL ts k++[yx (mkCk ts k) ts.sT[k].body]:=by
    simp only[tmsL,qB P];rfl
   have hl:=ZI ts k zOm;rw[hm]at a1 J;simp[go_sem,e2,e5,P];refine tR zKr ?_;simp[go_sem,e5,qiY];refine fW a4 ⟨zUs J,.hf _ (qE _),trivial⟩ (FL.sc _) ?_;simp[go_sem];refine qw.ownF (lo:=1) (e:=4) (sz:=1) (bt:=1) (zv:=aB false) (xs:=(tmsL ts k).map rB) (ys:=[rB (yx (mkCk ts k) ts.sT[k].body)]) zSi zSi zSi rfl rfl zOm zOm (zUs a1) (by simp[qA]) (XM _) (XM [_]) zSo ?_;intro a2 o R a6;obtain⟨T,rfl⟩:=nO (a6 0 zOm);have w1:=zWk k;simp[go_sem,e5,a0,w1,OwnF.cells R,OwnF.one R];refine aC ?_;refine⟨a2,T,zS1 e1,zS1 e2,zS1 e5,zSi,?_⟩;have e3:(tmsL ts k).map rB++[rB (yx (mkCk ts k) ts.sT[k].body)]=(tmsL ts (k+1)).map rB:=by rw[a5,zx];rfl
   rw[<-e3];exact OwnF.low (low:=[.arr [lSo ts.sS,lFl ts.sA,lPd ts.sT,lFa ts.sP,aI k,t]]) (low':=[.arr [lSo ts.sS,lFl ts.sA,lPd ts.sT,lFa ts.sP,aI (k+1),a2]]) R rfl
  .obtain rfl:k=n:=by omega
   simp_all[go_sem]
theorem ofU'(full l)(j:l.length<=3)(o:∀ x,x∈l->0<=x/\x<128):qg qc 146 [.lst full (l.map rI)] (eKd (kOf l)):=by
 have:=ofU l j o;refine⟨this.1,fun g w p t C=>this.2 g w p t ?_⟩;obtain⟨v,rfl,I⟩:=C.one_inv;exact⟨rfl,fun k x i=>by
  cases k with
  |zero=>simp at i;subst i;simpa using I.ro
  |succ k=>simp at i⟩
theorem mv(ns:Nat)(C:ns<=4)(env:List (tZ×Int))(R:env.length<=1000000)(I:∀ p,p∈env->0<=p.2/\p.2<ns):qg qc 73 [lPm env] (aSc (zz env)):=by
 refine qSU call73 func73 rfl ?_;refine qk.up env.length (fun k U=>U.tm 3=aSc (zz (env.take k))/\U.tm 6=lPm env/\U.tm 7=aI env.length/\U.tm 8=aI k) ?_ ?_
 .simp [go_sem]
  rfl
 .rintro k U T ⟨o,t,e7,i⟩
  by_cases j:k=env.length
  .subst j
   simp[go_sem,o,e7,i];exact .hf _ (u4 _)
  .have g:k<env.length:=by omega
   have J:zz (env.take (k+1))=(env[k].1,kOf [env[k].2]) :: zz (env.take k):=by
    unfold zz;rw[List.take_add_one,qB g,ul];rfl
   have l:=ofU' true [env[k].2] zSp (fun x hx=>by grind);have P:=zWk k;simp[go_sem,t,e7,i,g];refine fD ?_;refine tU l (.zk (HF.lst fun r I c hc=>by grind [HF.sc]) .nil) ?_;simp[go_sem,o,t,e7,i,g,P];rw[J];rfl
theorem jH(a b:tZ):(a.toList == b.toList)=decide (a=b):=by
 grind [jG,decide_eq_false]
theorem appK{xs k}(g:OwnF 0 mu 2 s (xs.map cKd))(j:xs.length<=100000)(o:∀ av mu',OwnF 0 mu' 2 av ((xs++[k]).map cKd)->K av mu') :
  qw qc mu #[211,211] s (.lst true [cKd k]) K:=by
 refine qw.ownF (lo:=0) (e:=125) (sz:=2) (bt:=16) (zv := .agg [aI 0,.sc (.map none)]) (xs:=xs.map cKd) (ys:=[cKd k]) zSi zSi zSi rfl rfl zOm zOm g (by simp[qA]) (Qx _) (Qx [k]) zSo ?_
 grind
theorem mw{xs k b c}(j:Own mu 2 s (xs.map cKd))(l:mu[b]?=some c)(o:∀ off len,s ≠ .sl b 2 off len)(J:xs.length<=100000)
  (g:∀ av mu',Own mu' 2 av ((xs++[k]).map cKd)->mu'[b]?=some c->(∀ off len,av ≠ .sl b 2 off len)->K av mu') :
  qw qc mu #[211,211] s (.lst true [cKd k]) K:=by
 have p:b<mu.length:=(qh.1 l).1;have t:=ym (Qx xs).ok;refine .inl ⟨_,_,125,2,16,[cKd k],rfl,zSi,zSi,⟨.agg [aI 0,.sc (.map none)],zSi,rfl,rfl⟩,zOm,zOm,by simp[qA],Qx [k],?_⟩;rcases j with rfl|⟨i,rfl,C⟩
 .refine .inl ⟨xs.map cKd,rfl,Qx xs,zSo,fun h=>by simp at h,fun _=>?_⟩
  refine g _ _ (.inr ⟨mu.length,zSp,zSp⟩) (by grind) (fun off len e=>?_)
  grind
 .refine .inr ⟨i,xs.length,_,zSp,C,by grind,zSo,?_⟩
  have I:i≠b:=fun e=>o 0 _ (by rw[e])
  refine g _ _ (.inr ⟨mu.length,zSp,?_⟩) (by grind) (fun off len e=>?_)
  .grind
  grind
theorem JQ{sz}(h:Own mu sz s xs)(c):Own (mu++[c]) sz s xs:=by
 rcases h with rfl|⟨b,rfl,g⟩
 .exact .inl rfl
 .exact .inr ⟨b,rfl,by grind⟩
theorem qjS{sz}(h:Own mu sz s xs):∀ off len,s ≠ .sl mu.length sz off len:=by
 intro off len e;rcases h with rfl|⟨b,rfl,g⟩
 .cases e
 grind
theorem qjT{fs:List Fld}{k}(g nm):z6 (fs.take (k+1)) nm=z6 (fs.take k) nm++(if fs[k].name=nm then [kOf fs[k].sS] else []):=by
 unfold z6;rw[List.take_add_one,qB g,List.filterMap_append];congr 1;simp only[Option.toList_some,List.filterMap_cons,List.filterMap_nil];split<;>rename_i h<;>split at h<;>simp_all
theorem mz(fs nm):(z6 fs nm).length<=fs.length:=List.length_filterMap_le ..
theorem mA:∀{so:List (tZ×Bool)}{i k}(g nm),yo i (so.take (k+1)) nm=yo i (so.take k) nm++vM (i+k) so[k] nm
 | [],_,_,h,_=>by simp at h
 |s :: so,i,0,_,nm=>by simp[yo]
 |s :: so,i,k+1,h,nm=>by
  have:=mA (so:=so) (i:=i+1) (k:=k) (zUs h) nm;simp only[List.take_succ_cons,yo,List.getElem_cons_succ]at this⊢;rw[this,zG,show i+1+k=i+(k+1) by omega]
theorem qjU(i s nm):(vM i s nm).length<=3:=by
 grind [vM,zh,kOf,jT,vr]
theorem mB:∀ so i nm,(yo i so nm).length<=3*so.length
 | [],_,_=>by simp[yo]
 |s :: so,i,nm=>by
  have:=mB so (i+1) nm;have:=qjU i s nm;simp only[yo,zh,yh];omega
theorem XP(ts)(h:okTS ts)(nm):qg qc 205 [eTS ts,aS nm] (.lst false ((means ts nm).map cKd)):=by
  refine qSV call205 func205 rfl ?_;have ar:=h.nf;have au:=h.ns;simp[go_sem];refine aA ts.sA.length (fun k U=>U.tm 1=aS nm/\U.tm 2 = .ip (cTS ts)/\U.tm 11=lFl ts.sA/\U.tm 12=aI ts.sA.length/\U.tm 13=aI k/\OwnF 0 U.mu 2 (U.tm 5) ((z6 (ts.sA.take k) nm).map cKd)) ?_ ?_
  · exact⟨zSi,zSi,zSi,zSi,zSi,by simp[go_sem];exact OwnF.nil (Nat.zero_le _)⟩
  · rintro k U hk ⟨J,e2,P,C,R,T⟩
    by_cases he:k=ts.sA.length
    · subst he
      rw[zi]at T;simp[go_sem,e2,C,R];have a5:=mz ts.sA nm;refine aA ts.sS.length (fun k U=>U.tm 1=aS nm/\U.tm 29=lSo ts.sS/\U.tm 30=aI ts.sS.length/\U.tm 31=aI k/\Own U.mu 2 (U.tm 5) ((z6 ts.sA nm++yo 0 (ts.sS.take k) nm).map cKd)) ?_ ?_
      · exact⟨zS1 J,zSi,zSi,zSi,by simp[go_sem,yo];simpa using T.1⟩
      · rintro k U hk ⟨J,a6,a2,a0,T⟩
        by_cases he:k=ts.sS.length
        · subst he
          rw[zi]at T;simp[go_sem,a2,a0];exact T.rd (Qx _).ok (fun r hr c hc=>by
            obtain⟨x,_,rfl⟩:=qn.1 hr;simp at hc;rcases hc with rfl|rfl
            · exact HF.sc _
            · exact JI _)
        · have g:k<ts.sS.length:=by omega
          have w1:=zWk k;have aw:=mB (ts.sS.take k) 0 nm;have ax:(ts.sS.take k).length<=4:=zSo;have a7:=ofU' true [(k:Int)] zSp (fun x hx=>by grind);have a8:=ofU' true [(k:Int),(k:Int)] zSp (fun x hx=>by grind);have ag:HF (.lst true [rI k]):=HF.lst fun r hr c hc=>by grind [HF.sc]
          have ah:HF (.lst true [rI k,rI k]):=HF.lst fun r hr c hc=>by grind [HF.sc]
          have a1:=mA (i:=0) g nm;rw[yM]at a1;have ay:=h.sl _ (qt g);generalize ai:ts.sS[k]=so at *
          obtain⟨l,sb⟩:=so;have az:(z6 ts.sA nm++yo 0 (ts.sS.take k) nm).length<=18:=by grind
          have b0:∀ x:Kd,((z6 ts.sA nm++yo 0 (ts.sS.take k) nm)++[x]).length<=19:=fun x=>by grind
          have b1:∀ x y:Kd,(((z6 ts.sA nm++yo 0 (ts.sS.take k) nm)++[x])++[y]).length<=20:=fun x y=>by grind
          generalize hX:z6 ts.sA nm++yo 0 (ts.sS.take k) nm=X at *
          have j:∀(s:AV)(I:Mu)(Y:List Kd),Y=X++vM k (l,sb) nm->Own I 2 s (Y.map cKd)->Own I 2 s ((z6 ts.sA nm++yo 0 (ts.sS.take (k+1)) nm).map cKd):=by
            grind
          have b2:∀ b:tZ,l++jT=b->(l++jT).toList == b.toList:=fun b h=>by rw[h];simp
          have a3:=fun c=>JQ T c
          have aq:=qjS T;have aj:(l++jT=nm)=(l++(⟨#[95,102,105,114,115,116]⟩:tZ)=nm):=rfl;have ak:(l++vr=nm)=(l++(⟨#[95,110,101,120,116]⟩:tZ)=nm):=rfl;simp only[vM,aj,ak]at j;have a9:l.size<=9223372036854775801:=by grind
          have aa:l.size<=9223372036854775802:=zOm;simp only[zx]at j;obtain⟨d1,al⟩:∃ d,decide (l=nm)=d:=⟨_,rfl⟩;obtain⟨d2,ab⟩:∃ d,decide (l++(⟨#[95,102,105,114,115,116]⟩:tZ)=nm)=d:=⟨_,rfl⟩;obtain⟨d3,ad⟩:∃ d,decide (l++(⟨#[95,110,101,120,116]⟩:tZ)=nm)=d:=⟨_,rfl⟩;have p1:(l=nm)=(d1=true):=by grind
          have p2:(l++(⟨#[95,102,105,114,115,116]⟩:tZ)=nm)=(d2=true):=by grind
          have p3:(l++(⟨#[95,110,101,120,116]⟩:tZ)=nm)=(d3=true):=by grind
          simp only[p1,p2,p3]at j;cases d1<;>cases d2<;>cases d3<;>cases sb
          all_goals simp only[if_true,if_false,yg,jk,and_false,and_true,reduceCtorEq]at j
          all_goals simp[go_sem,jH,J,a6,a2,a0,g,ai,al,ab,ad,w1,a9,aa]
          all_goals repeat' (first
            | (refine tU a7 (.zk ag .nil) ?_
               simp[go_sem];refine mw (b:=U.mu.length) (by first|exact a3 _|assumption) (by first|assumption|exact List.getElem?_concat_length) (by assumption) (by first | (simp only[zh,List.length_singleton];omega)|omega) ?_;rintro t o a4 ae an;simp[go_sem,jH,J,a0,g,ab,ad,w1,a9,aa,ae])
            | (refine tU a8 (.zk ah .nil) ?_
               simp[go_sem];refine mw (b:=U.mu.length) (by first|exact a3 _|assumption) (by first|assumption|exact List.getElem?_concat_length) (by assumption) (by first | (simp only[zh,List.length_singleton];omega)|omega) ?_;rintro t o a4 ae an;simp[go_sem,a0,g,w1]))
          all_goals
            refine aC ?_;refine⟨zS1 J,zS1 a6,zS1 a2,zSi,?_⟩;simp only[qiN,qI];simp;refine j _ _ _ ?_ (by first|assumption|exact a3 _);simp
    · have g:k<ts.sA.length:=by omega
      have af:=h.fl _ (qt g);have w1:=zWk k;have ao:=ofU' false ts.sA[k].sS af.2.1 (fun x hx=>zW1 (af.2.2 x hx));have a1:=qjT g nm;have a5:=mz (ts.sA.take k) nm;by_cases hn:ts.sA[k].name=nm
      · simp[go_sem,J,P,C,R,g,hn]
        refine fR ao (.zk (zC _) .nil) ?_;refine appK (xs:=z6 (ts.sA.take k) nm) (XN T (MuLe.push _ _)) (by simp at a5⊢;omega) ?_;intro t o a4;simp[go_sem,R,g,w1];refine aC ?_;refine⟨zS1 J,zS1 e2,zS1 P,zS1 C,zSi,?_⟩;rw[a1,if_pos hn];simpa[go_sem] using a4
      · simp[go_sem,J,P,C,R,g,jG hn,w1]
        refine aC ?_;refine⟨zS1 J,zS1 e2,zS1 P,zS1 C,zSi,?_⟩;rw[a1,if_neg hn,yg];simpa[go_sem] using XN T (MuLe.push _ _)
end
end Y10
namespace Y11
open Y1 Y2 Y3 P1 Y7 YS YF Y9 Y10
def cKo:Option Kd->List AV
 |some k=>cKd k
 |none=>[aI 0,.sc (.map none)]
@[go_sem] theorem cKo_some(k):cKo (some k)=cKd k:=rfl
@[go_sem] theorem cKo_none:cKo none=[aI 0,.sc (.map none)]:=rfl
theorem mC(k):∀ c,c∈cKo k->HF c:=by
 intro c g;cases k with
 |none=>simp[cKo]at g;rcases g with rfl|rfl<;>exact HF.sc _
 |some k=>simp[cKo]at g;rcases g with rfl|rfl;exact HF.sc _;exact JI _
theorem qjV(k):HF (.agg (cKo k)):=HF.agg (mC k)
theorem XQ(k):(cKo k).length=2/\(cKo k).all AV.one=true:=by cases k<;>exact⟨rfl,rfl⟩
def endK:Res->AEnd
 | .ok k => .ret (.agg (cKo k))
 | .error e => .pan (jx e.1 e.2)
@[go_sem] theorem endK_ok(k):endK (.ok k) = .ret (.agg (cKo k)):=rfl
@[go_sem] theorem qvS(e):endK (.error e) = .pan (jx e.1 e.2):=rfl
theorem wo(c)(g:okCk c)(s:Scp)(n):jS qc 143 [eCk c,aSc s,eNd n] (endK (yH c s n.name n.pos)):=by
 refine vd.of_sound ?_;refine qSW call143 func143 rfl {} ?_;simp[go_sem];refine tU (findU s n.name) (.zk (u4 s) (.zs .nil)) ?_;unfold yH;cases hf:y9 n.name s with
 |cons v r =>
  simp[go_sem,aSc];exact .hf _ (zW v.2)
 |nil =>
  simp[go_sem,aSc];refine fD ?_;refine tU (XP c.ts g.ts n.name) (.zk (zw c.ts) (.zs .nil)) ?_;have i:=zJ;cases j:means c.ts n.name with
  |nil =>
   simp[go_sem];refine aK (zJ false 40 n) (.zs (.zs (.zk (qE n) .nil))) ?_;simp[go_sem];exact .hf _ (yC _ _)
  |cons k ks =>
   simp[go_sem];refine tU (zJ true 40 n).toP (.zs (.zs (.zk (qE n) .nil))) ?_;cases ks with
   |nil =>
    simp[go_sem];refine fR (zJ true 44 n).toP (.zs (.zs (.zk (qE n) .nil))) ?_;exact .hf _ (zW k)
   |cons l ks =>
    simp[go_sem];refine aK (zJ false 44 n) (.zs (.zs (.zk (qE n) .nil))) ?_;simp[go_sem];exact .hf _ (yC _ _)
theorem qjW(k g)(I:1<=g)(U:g<=3):kSum (zu k g) (kOf (qM g (k:Int)))=zu (k+1) g:=by
 have o:∀ k,((qs k).map fun (i:Nat)=>pad (qM g (i:Int))).Nodup:=by
  intro k;refine List.pairwise_map.2 ((List.pairwise_iff_getElem.2 fun i j hi hj J=>?_));simp only[List.getElem_range];obtain⟨a,rfl⟩:∃ a,g=a+1:=⟨g-1,zOm⟩;intro e;simp[pad,List.replicate_succ]at e;omega
 have P:∀ l:List Tp,l.Nodup->uni [] l=l:=by
  intro l R;have:∀(b a:List Tp),(a++b).Nodup->uni a b=a++b:=by
   intro b;induction b with
   |nil=>intro a _;simp[uni]
   |cons x b T =>
    intro a h;have p:x ∉ a:=fun t=>(Z2.1 h).2.2 x t x zSp rfl
    show uni (ins a x) b=_;rw[show ins a x=a++[x] by unfold ins;rw[if_neg p],T (a++[x]) (zUs h)];simp
  simpa using this l [] (zUs R)
 unfold kSum zu kOf;simp only;rw[P _ (o k)];have C:=o (k+1);rw[List.range_succ,zx,List.map_singleton]at C⊢;have p:pad (qM g (k:Int)) ∉ (qs k).map fun (i:Nat)=>pad (qM g (i:Int)):=fun t=>(Z2.1 C).2.2 _ t _ zSp rfl
 congr 1;show ins _ _=_;unfold ins;rw[if_neg p]
theorem XS(c)(I:okCk c)(g:Nat)(h1:1<=g)(h3:g<=3):qg qc 209 [eCk c,aI g] (eKd (zu c.ts.sS.length g)):=by
 refine qSV call209 func209 rfl ?_;have a0:=I.ts.ns;simp[go_sem];refine fR (nJ g) (.zs .nil) ?_;refine qk.up c.ts.sS.length (fun k U=>U.tm 1=aI g/\U.tm 4 = .ptr 0 0/\U.tm 5 = .ptr 1 0/\U.tm 13=lSo c.ts.sS/\U.tm 14=aI c.ts.sS.length/\U.tm 15=aI k/\U.mu=[.arr [aI 0,.sc (.map none)],.arr (cKd (zu k g))]) ?_ ?_
 .simp [go_sem,zu]
 .rintro k U hk ⟨e1,e4,P,R,l,o,hm⟩
  by_cases he:k=c.ts.sS.length
  .subst he
   simp[go_sem,e4,P,l,o,hm];exact .hf _ (zW _)
  .have p:k<c.ts.sS.length:=by omega
   have w1:=zWk k;have J:=qjG k g zOm;have T:=ofU' false (qM g (k:Int)) (zUs h3) (fun x hx=>by rw[List.eq_of_mem_replicate hx];omega);have C:=sumU true (zu k g) (kOf (qM g (k:Int))) (fun t j=>by
    have j:t∈(qs k).map fun (i:Nat)=>pad (qM g (i:Int)):=j
    obtain⟨i,_,rfl⟩:=qn.1 j;rfl) (fun t j=>by
    have j:t∈[pad (qM g (k:Int))]:=j;simp at j;subst j;rfl)
   rw[qjW k g h1 h3]at C;simp[go_sem,l,o,hm,p];refine tR zKr ?_;simp[go_sem,e1,P];refine fR J (.cons (WK.lst fun r J c I=>by simp at J;subst J;simp at I;subst I;exact HF.sc _) (.zs .nil)) ?_;refine fR T (.zk (zC _) .nil) ?_;refine tU C (.zk (zW _) (.zk (JM _ [_]) .nil)) ?_;simp[go_sem,e1,e4,P,R,l,o,p,w1]
end Y11
end Go.Proofs.YtlnbdknjkmmgbaaGreatDoor
