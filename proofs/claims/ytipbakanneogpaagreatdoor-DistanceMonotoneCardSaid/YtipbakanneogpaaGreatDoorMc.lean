/-
  Own library, part 3: an abstract reading of values and a calculus over it; contracts of functions; plain lemmas.
-/
import Derived.Test.YtipbakanneogpaaGreatDoorProg
import Derived.KernelRfl
import Derived.RecoverIn
import Derived.Sort.Grow
import Derived.Shelf.Small.Bits
import Derived.Shelf.Strconv.Itoa0
import Derived.Shelf.Strconv.Itoa1
import Derived.Shelf.LaysM
import Derived.Shelf.Strconv.Itoa2
import Derived.Shelf.Strconv.Itoa3
import Derived.Shelf.Sort.Plain
import Derived.Shelf.Bits.Mul64
import Derived.Ground.Names2Prog
import Derived.Shelf.Slices.Clone
import Derived.Shelf.Slices.CompactI
import Derived.Shelf.Slices.SearchI
import Derived.Shelf.Slices.Cells
import Derived.Shelf.Slices.In.SortNone
import Derived.Shelf.Slices.Empties
import Derived.Ground.SlgnProg
import Derived.Shelf.SlicesE.Clone
import Derived.Test.YtipbakanneogpaaGreatDoorMb
set_option linter.unusedVariables false
set_option linter.unusedSimpArgs false
set_option maxRecDepth 100000
open Go renaming Program->qb,Oper->zK,Operand->qg,FuncId->qx,Value->qf,World->qd,undef->qU,TypeId->qc
open Go.Proofs.Tryz renaming prog->qe
open List renaming getElem?_eq_some_iff->qk,mem_map->qn,getElem_mem->qs,range->qu,mem_cons->qy,getElem?_eq_getElem->qA,not_mem_nil->qG,getElem?_set_self->qL,mem_append->qM,getElem?_append_left->qN,mem_singleton->qV,replicate->q9,mem_of_getElem?->zb,map_append->ze,mem_cons_self->zg,getElem?_map->zn,drop_eq_getElem_cons->zu,append_assoc->zB,all_eq_true->zF,length_cons->zG,getElem?_append_right->zM,take_of_length_le->z6,map_cons->z7,mem_range->yi,cons_append->yP,ext_getElem?->jS,getElem?_take->vu,take_append_drop->vO,nodup_cons->vP,getElem?_drop->uu,getElem?_eq_none->uK,getElem?_range->Qc,flatten_cons->Qe,mem_iff_getElem->Zi,nodup_append->ZL,pairwise_cons->pO
open Go.IntKind renaming i64->qq
open Nat renaming le_refl->qr,zero_add->yj,le_of_ble_eq_true->ur,lt_of_lt_of_le->Yk
open Option.some renaming injEq->qv
open Bool renaming and_eq_true->qH
open Array renaming getD_eq_getD_getElem?->zc,getElem?_eq_some_iff->yK,getElem?_eq_getElem->ZM
open Option renaming map_some->zq
open Int renaming mul_le_mul->jJ
open List.Nodup renaming length_le_of_subset->vb
namespace Go.Ev
open Go Go.RowKit
section
variable {g:AV->St->Prop}{ops:Array zK}{pl:Pol}{P:qb}
theorem qI.mono{det C op ev mu K K' Kp I}(h:qI P pl det C op ev mu K Kp)
  (o:∀ v m,K v m->K' v m) (T:∀ v m,Kp v m->I v m):qI P pl det C op ev mu K' I:=by
 cases op<;>simp only[qI]at h⊢<;>try (exact h.elim)
 case move=>exact o _ _ h
 case assign=>exact o _ _ h
 case makeFunc=>exact o _ _ h
 case pick=>grind
 case alloc=>obtain⟨z,j,l,p⟩:=h;exact⟨z,j,l,o _ _ p⟩
 case box =>
  obtain⟨j,l⟩:=h;refine⟨j,?_⟩;split at l
  .grind
  grind
 case build=>obtain⟨t,z,j,l⟩:=h;exact⟨t,z,j,o _ _ l⟩
 case buildSlice=>obtain⟨z,j,l⟩:=h;exact⟨z,j,o _ _ l⟩
 case load=>obtain⟨z,j,l⟩:=h;exact⟨z,j,o _ _ l⟩
 case store=>obtain⟨z,j,l⟩:=h;exact⟨z,j,o _ _ l⟩
 case nilCheck=>obtain⟨z,j,l⟩:=h;exact⟨z,j,o _ _ l⟩
 case binOp =>
  split at h
  .rename_i hy
   simp only[if_pos hy];exact h.mono fun z hz=>o _ _ hz
  .rename_i hy
   simp only[if_neg hy];obtain⟨z,j,l⟩:=h;exact⟨z,j,o _ _ l⟩
 case unOp=>obtain⟨z,j,l⟩:=h;exact⟨z,j,o _ _ l⟩
 case convert=>obtain⟨t,z,j,l⟩:=h;exact⟨t,z,j,o _ _ l⟩
 case makeInterface=>grind
 case makeSlice=>obtain⟨z,j,l⟩:=h;exact⟨z,j,o _ _ l⟩
 case slice=>obtain⟨t,z,j,l⟩:=h;exact⟨t,z,j,o _ _ l⟩
 case fieldAddr=>obtain⟨z,j,l⟩:=h;exact⟨z,j,o _ _ l⟩
 case field=>obtain⟨z,j,l⟩:=h;exact⟨z,j,o _ _ l⟩
 case indexAddr=>obtain⟨z,j,l⟩:=h;exact⟨z,j,o _ _ l⟩
 case index=>obtain⟨z,j,l⟩:=h;exact⟨z,j,o _ _ l⟩
 case extract=>obtain⟨z,j,l⟩:=h;exact⟨z,j,o _ _ l⟩
 case typeAssert=>obtain⟨z,j,l⟩:=h;exact⟨z,j,o _ _ l⟩
 case makeMap=>grind
 case lookup=>obtain⟨z,j,l⟩:=h;exact⟨z,j,o _ _ l⟩
 case mapUpdate=>obtain⟨z,j,l⟩:=h;exact⟨z,j,o _ _ l⟩
 case insert=>obtain⟨z,j,l⟩:=h;exact⟨z,j,o _ _ l⟩
 case mapEntry=>obtain⟨z,j,l⟩:=h;exact⟨z,j,o _ _ l⟩
 case entryStore=>obtain⟨z,j,l⟩:=h;exact⟨z,j,o _ _ l⟩
 case range=>obtain⟨z,j,l⟩:=h;exact⟨z,j,o _ _ l⟩
 case next=>obtain⟨t,a0,b,U,seen,j,l,p,J⟩:=h;exact⟨t,a0,b,U,seen,j,l,fun i e a c=>o _ _ (p i e a c),fun a=>o _ _ (J a)⟩
 case entry=>obtain⟨z,j,l⟩:=h;exact⟨z,j,o _ _ l⟩
 case panic=>grind
 case call c =>
  obtain⟨callee,args,a1⟩:=c;cases callee with
  |invoke r m=>exact h.elim
  |value f =>
   rcases h with ⟨v,j,l⟩|⟨j,⟨g,fi,ca,R,l,p,J,h5⟩|⟨i,R,l,p,J⟩⟩
   .exact .inl ⟨v,j,o _ _ l⟩
   .exact .inr ⟨j,.inl ⟨g,fi,ca,R,l,p,fun r m h=>o _ _ (J r m h),fun r m h=>T _ _ (h5 r m h)⟩⟩
   .exact .inr ⟨j,.inr ⟨i,R,l,p,fun b m h=>o _ _ (J b m h)⟩⟩
  |builtin b =>
   cases b<;>simp only at h⊢<;>try (first | (obtain⟨z,m,j,l⟩:=h;exact⟨z,m,j,o _ _ l⟩) | (obtain⟨z,j,l⟩:=h;exact⟨z,j,o _ _ l⟩))
   obtain⟨s,x,j,h⟩:=h;exact⟨s,x,j,h.mono o⟩
theorem awpS.mono{det Q j p}(t:∀ st,Q st->j st)(i:∀ v st,p v st->g v st) :
  ∀ l st,awpS P pl det ops l Q p st->awpS P pl det ops l j g st:=by
 intro l;induction l with
 |nil=>intro st h;exact t st h
 |cons o l r =>
  intro st ⟨b,C,I,J⟩;exact⟨b,C,fun e=>(I e).mono (fun v m h=>r _ h) (fun v m h=>i _ _ h),fun e=>r _ (J e)⟩
theorem awpT.mono{Q p t}(I:∀ st,Q st->p st)(i:∀ v st,t v st->g v st) :
  ∀ l st,awpT P pl ops Q t l st->awpT P pl ops p g l st:=by
 intro l;induction l with
 |nil=>intro st h;exact I st h
 |cons e l C =>
  obtain⟨j,k,r⟩:=e;intro st h;simp only[awpT]at h⊢;cases J:ops[j]? with
  |none=>grind
  |some o =>
   rw[J]at h;simp only at h⊢;obtain⟨b,R,T,U⟩:=h;exact⟨b,R,fun e=>qI.mono (T e) (fun v m h=>⟨h.1,C _ h.2⟩) (fun v m h=>⟨h.1,fun tm=>i _ _ (h.2 tm)⟩),fun e=>C _ (U e)⟩
theorem awp.mono:∀(c){Q j st},awp P pl c Q st->(∀ e st,Q e st->j e st)->awp P pl c j st:=by
 intro c;induction c with
 |skip=>intro Q j st h g;exact g _ _ h
 |label l=>intro Q j st h g;exact g _ _ h
 |exit i=>intro Q j st h g;exact g _ _ h
 |ret=>intro Q j st h g;exact g _ _ h
 |region id a4 a3 =>
  intro Q j st h g;rcases h with ⟨o,p⟩|⟨o,p⟩
  .exact .inl ⟨o,awpS.mono (fun st h=>g _ _ h) (fun v st h=>g _ _ h) _ _ p⟩
  .obtain ⟨st1,r,p⟩:=p
   refine .inr ⟨o,st1,r,?_⟩;rcases p with (⟨J,U⟩|⟨n,J,U⟩|⟨a0,d,g1,g2,g3,g4,g5⟩)|⟨O,J,a2,U⟩
   .exact .inl (.inl ⟨J,awpS.mono (fun st h=>g _ _ h) (fun v st h=>g _ _ h) _ _ U⟩)
   .exact .inl (.inr (.inl ⟨n,J,awpS.mono (fun st h=>awpS.mono (fun st h=>g _ _ h) (fun v st h=>g _ _ h) _ _ h) (fun v st h=>g _ _ h) _ _ U⟩))
   .exact .inl (.inr (.inr ⟨a0,d,g1,g2,g3,awpS.mono (fun st h=>g _ _ h) (fun v st h=>g _ _ h) _ _ g4,awpS.mono (fun st h=>g _ _ h) (fun v st h=>g _ _ h) _ _ g5⟩))
   .exact .inr ⟨O,J,a2,awpT.mono (fun st h=>g _ _ h) (fun v st h=>g _ _ h) _ _ U⟩
 |seq a b R T =>
  intro Q j st h g;refine R (Q:=seqQ (awp P pl b Q) Q) h (fun e st h=>?_);cases e with
  |normal=>exact T h g
  |exit i=>exact g _ _ h
  |ret=>exact g _ _ h
  |pan v=>exact g _ _ h
 |cond a5 a b R T=>intro Q j st ⟨t,h0,o,p⟩ g;exact⟨t,h0,fun e=>R (o e) g,fun e=>T (p e) g⟩
 |block id b ih =>
  intro Q j st h g;refine ih (Q:=ue id Q) h (fun e st h=>?_);cases e with
  |normal=>exact g _ _ h
  |exit i =>
   simp only[ue]at h⊢;split at h
   .grind
   grind
  |ret=>exact g _ _ h
  |pan v=>exact g _ _ h
 |loop b ih =>
  intro Q j st ⟨z,I,n,st1,r,h0,o⟩ g;have g:∀ e st,fzQ z Q e st->fzQ z j e st:=fun e st h=>by
   cases z with
   |false=>exact g e st h
   |true=>exact⟨h.choose,h.choose_spec.1,h.choose_spec.2.1,g e _ h.choose_spec.2.2⟩
  refine⟨z,I,n,st1,r,h0,fun n st hI=>ih (Q:=Qn I n (fzQ z Q)) (o n st hI) (fun e st h=>?_)⟩;cases e with
  |normal=>exact h
  |exit i=>exact g _ _ h
  |ret=>exact g _ _ h
  |pan v=>exact g _ _ h
 |scope b ih=>intro Q j st h g;exact ih h g
 |rangeFunc f ps a6 b a7 a8 =>
  intro Q j st ⟨z,gf,a1,rows,I,Ix,o,p,J,h6,h7,h8⟩ g;have g:∀ e st,fzQ z Q e st->fzQ z j e st:=fun e st h=>by
   cases z with
   |false=>exact g e st h
   |true=>exact⟨h.choose,h.choose_spec.1,h.choose_spec.2.1,g e _ h.choose_spec.2.2⟩
  exact⟨z,gf,a1,rows,I,Ix,o,p,J,h6,fun C h=>g _ _ (h7 C h),fun e C h=>g _ _ (h8 e C h)⟩
 |goto l=>intro Q j st h g;exact h.elim
 |refuse w=>intro Q j st h g;exact h.elim
def upQ(I:Nat->St->Prop)(N k:Nat)(Q:qX->St->Prop):qX->St->Prop
 | .normal,T=>k<N/\I (k+1) T
 |e,T=>Q e T
section
variable (Q:qX->St->Prop) (st:St) (I:Nat->St->Prop) (N k:Nat)
@[go_sem ↓] theorem qw3:(upQ I N k Q .normal st=(k<N/\I (k+1) st))/\(∀ i,upQ I N k Q (.exit i) st=Q (.exit i) st)/\(upQ I N k Q .ret st=Q .ret st)/\(∀ v,upQ I N k Q (.pan v) st=Q (.pan v) st):=by and_intros<;>intros<;>exact eqS rfl
end
end
section
variable {K i:AV->Mu->Prop}{R:Bool->Mu->Prop}{g:qx}{args args' caps xs ys:List AV}{mu:Mu}{P:qb}{st:St}{Q:qX->St->Prop}
theorem qm.up{pl body}(N I)(j:I 0 st)(h:∀ k st,k<=N->I k st->awp P pl body (upQ I N k Q) st):qm P pl body Q st:=by
 refine cL (fun n st=>∃ k,n=N-k/\k<=N/\I k st) N ⟨0,zOm,zOm,j⟩ ?_;rintro n st ⟨k,rfl,l,o⟩;refine awp.mono body (h k st l o) (fun e st g=>?_);cases e with
 |normal=>exact⟨N-(k+1),zW1 g.1,k+1,rfl,g.1,g.2⟩
 |exit i=>exact g
 |ret=>exact g
 |pan v=>exact g
theorem fB{pl body}(N I)(j:I 0 st)(h:∀ k st,k<=N->I k st->awp P pl body (upQ I N k (FzQ Q)) st):qm P pl body Q st:=by
 refine fG (fun n st=>∃ k,n=N-k/\k<=N/\I k st) N ⟨0,zOm,zOm,j⟩ ?_;rintro n st ⟨k,rfl,l,o⟩;refine awp.mono body (h k st l o) (fun e st g=>?_);cases e with
 |normal=>exact⟨N-(k+1),zW1 g.1,k+1,rfl,g.1,g.2⟩
 |exit i=>exact g
 |ret=>exact g
 |pan v=>exact g
theorem nT(mu):∀ k,cutM (fun i=>!false) mu k=mu:=by
 induction mu with
 |nil=>intro k;rfl
 |cons c l g =>
  grind [cutM]
theorem FzQ.skip{e}(h:Q e st):FzQ Q e st:=by
 refine⟨st,⟨fun _=>false,(nT _ 0).symm,fun i => .same _⟩,?_,h⟩
 grind
theorem FzQ.one{i d b x}(g:Rd (cutM (fun j=>j == b) st.mu 0) (st.tm d) x)(k:Q (.exit i) (st.put (some d) x (cutM (fun j=>!(j == b)) st.mu 0))):FzQ Q (.exit i) st:=by
 refine⟨_,⟨fun j=>j == b,rfl,fun j=>?_⟩,trivial,k⟩;simp only[St.put];split
 .rename_i h;subst h;exact .rd _ _ g
 .exact .same _
theorem tS{det v}(j:qi P g args' v)(l:WKs args args')(k:K v mu) :
  qh P det mu (.fn (.func g) [] []) args K i:=
 .inl ⟨v,.inl ⟨g,[],[],args',rfl,j,.inl (zUs l)⟩,k⟩
theorem fR{det v Q}(j:qi P g args' v)(l:WKs args args')(k:Q)(e:K v mu=Q:=by simp[go_sem];rfl):qh P det mu (.fn (.func g) [] []) args K i:=tS j l (e.mpr k)
theorem fW{det v}(j:qi P g args' v)(l:WKs (args++caps) args')(k:K v mu) :
  qh P det mu (.fn (.func g) [] caps) args K i:=
 .inl ⟨v,.inl ⟨g,[],caps,args',rfl,j,.inl (zUs l)⟩,k⟩
theorem fY{det v}(j:qi P g args' v)(l:Rds mu args args')(hf:FL v)(k:K v mu) :
  qh P det mu (.fn (.func g) [] []) args K i:=
 .inl ⟨v,.inl ⟨g,[],[],args',rfl,j,.inr ⟨zUs l,hf⟩⟩,k⟩
theorem fH{R}(j:qD P g (args++caps) mu R)(k:∀ r m,R (.ret r) m->K r m)(kp:∀ r m,R (.pan r) m->i r m) :
  qh P false mu (.fn (.func g) [] caps) args K i:=
 .inr ⟨rfl,.inl ⟨g,[],caps,R,rfl,zUs j,k,kp⟩⟩
theorem qh.yield{i g}(h:Zo P i args mu R)(k:∀ b m,R b m->K (.sc (.bool b)) m):qh P false mu (.yl i) args K g:=
 .inr ⟨rfl,.inr ⟨i,R,rfl,h,k⟩⟩
theorem Zo.hid{i j c}(I:mu[j]?=some c)(J:c ≠ .dead)(h:Zo P i args (mu.set j .dead) R):Zo P i args mu fun b T=>∃ m,R b m/\m[j]?=some .dead/\T=m.set j c:=by
 intro G w U s ra l p hb;obtain⟨fn,g,r,o,h1,h2⟩:=h G w U (s.hid j) ra l p hb;refine⟨fn,g,r,o,h1,h2.mono ?_⟩;rintro e w' ⟨b,G',m,rfl,t,hR⟩;have C:j<G.blk.length:=by rw[s.len];exact(qk.1 I).1
 obtain⟨g1,g2,g3⟩:=t.unhid s I J (b:=(G.blk[j]'C).1) (t:=(G.blk[j]'C).2) (zP1 C);exact⟨b,G',_,rfl,g3,m,hR,g1,rfl⟩
theorem ji.of{f rows}(g:jh P f)
  (h:∀ i I j,(∀ k mu,I k mu->I k (mu++[.dead]))->(∀ mu,j mu->j (mu++[.dead]))->Yld P i rows I j->∀ mu,I 0 mu ->
   qD P f (.yl i :: caps) mu fun e mu'=>∃ r,e = .ret r/\(I rows.length mu'\/j mu')):ji P f caps rows:=⟨g,h⟩
theorem WKs.nil:WKs [] []:=trivial
theorem WKs.cons{x y}(h:WK x y)(t:WKs xs ys):WKs (x :: xs) (y :: ys):=⟨h,t⟩
theorem WKs.zk{x}(h:HF x)(t:WKs xs ys):WKs (x :: xs) (x :: ys):=⟨WK.hf h,t⟩
theorem WKs.zs{v}(t:WKs xs ys):WKs (.sc v :: xs) (.sc v :: ys):=⟨WK.hf (HF.sc _),t⟩
def Own(mu:Mu)(sz:Nat)(av:AV)(xs:List (List AV)):Prop:=
 (av = .lst true xs)\/∃ b,av = .sl b sz 0 xs.length/\mu[b]?=some (.arr xs.flatten)
theorem Own.rows{sz av xs}(h:Own mu sz av xs)(w:yR sz xs):qE mu av=some xs:=by
 rcases h with rfl|⟨b,rfl,j⟩
 .rfl
 .have l:=yQ w
  simp only[qE,j];rw[if_pos zOm];congr 1;apply jS;intro i;by_cases g:i<xs.length
  .simp only[zn,Qc g,zq,yj]
   rw[qA g];congr 1;have o:=w _ (qs g);rw[<-pZ w i,zu g,Qe,List.take_append_of_le_length zOm,z6 zOm]
  grind
theorem Own.rd{sz av xs}(h:Own mu sz av xs)(w:yR sz xs)(hf:∀ r,r∈xs->∀ c,c∈r->HF c):Rd mu av (.lst false xs):=by
 rcases h with rfl|⟨b,rfl,l⟩
 .exact .wk _ true _ (.hf _ (HF.lst hf))
 .have o:=yQ w
  refine .sl b sz 0 xs.length xs.flatten xs l zOm rfl w (fun k x y i j=>?_);rw[yj,j]at i;cases i;obtain⟨r,p,g⟩:=List.mem_flatten.1 (zb j);exact .hf _ (hf r p _ g)
end
end Go.Ev
namespace Go.Proofs.YtipbakanneogpaaGreatDoor
open Go Go.Ev Go.Proofs Tryz
namespace Ty
@[go_sem] theorem sz3:(szOf qe 3=some 1)/\(qR qe 3=some false)/\(qB qe 3=some (.sc (.int .i64 0)))/\(szOf qe 4=some 1)/\(qR qe 4=some false)/\(qB qe 4=some (.sc (.bool false)))/\(WX qe 4=true)/\(szOf qe 5=some 1)/\(qR qe 5=some false)/\(qB qe 5=some (.sc (.int .u8 0))):=by and_intros<;>exact eqS zKr
@[go_sem] theorem sz9:(szOf qe 9=some 1)/\(qR qe 9=some false)/\(qB qe 9=some (.sc (.string ⟨#[]⟩)))/\(WY qe 20=true)/\(WZ qe 20=true)/\(szOf qe 22=some 1)/\(qR qe 22=some false)/\(qJ qe 22=some (65,2,24))/\(szOf qe 23=some 1)/\(qR qe 23=some false):=by and_intros<;>exact eqS zKr
@[go_sem] theorem sl23:(qJ qe 23=some (67,3,48))/\(szOf qe 24=some 1)/\(qR qe 24=some false)/\(qJ qe 24=some (109,7,104))/\(szOf qe 25=some 1)/\(qR qe 25=some false)/\(qJ qe 25=some (89,6,80))/\(szOf qe 27=some 4)/\(qR qe 27=some true)/\(qB qe 27=some (.agg [.lst true [],.lst true [],.lst true [],.lst true []])):=by and_intros<;>exact eqS zKr
@[go_sem] theorem pl27:(yo qe 27=some (plc [(0,1),(1,1),(2,1),(3,1)]))/\(qF qe 27 0=some (0,22,1))/\(qF qe 27 1=some (1,23,1))/\(qF qe 27 2=some (2,24,1))/\(qF qe 27 3=some (3,25,1))/\(yk qe 27=true)/\(szOf qe 28=some 1)/\(qR qe 28=some false)/\(qB qe 28=some (.lst true []))/\(qJ qe 28=some (3,1,8)):=by and_intros<;>exact eqS zKr
@[go_sem] theorem sz30:(szOf qe 30=some 2)/\(qR qe 30=some true)/\(qB qe 30=some (.agg [.lst true [],.sc (.int .i64 0)]))/\(yo qe 30=some (plc [(0,1),(1,1)]))/\(qF qe 30 0=some (0,28,1))/\(qF qe 30 1=some (1,3,1))/\(yk qe 30=true)/\(szOf qe 32=some 1)/\(qR qe 32=some false)/\(qJ qe 32=some (115,1,24)):=by and_intros<;>exact eqS zKr
@[go_sem] theorem sz33:(szOf qe 33=some 1)/\(qR qe 33=some false)/\(qJ qe 33=some (35,5,64))/\(szOf qe 35=some 5)/\(qR qe 35=some true)/\(qB qe 35=some (.agg [.sc (.int .i64 0),.sc (.string ⟨#[]⟩),.sc (.int .i64 0),.lst true [],.sc (.int .i64 0)]))/\(yo qe 35=some (plc [(0,1),(1,1),(2,1),(3,1),(4,1)]))/\(qF qe 35 0=some (0,3,1))/\(qF qe 35 1=some (1,9,1))/\(qF qe 35 2=some (2,3,1)):=by and_intros<;>exact eqS zKr
@[go_sem] theorem fl35_3:(qF qe 35 3=some (3,33,1))/\(qF qe 35 4=some (4,3,1))/\(yk qe 35=true)/\(szOf qe 36=some 1)/\(qR qe 36=some false)/\(qJ qe 36=some (58,1,24))/\(szOf qe 38=some 14)/\(qR qe 38=some true)/\(qB qe 38=some (.agg [.lst true [],.lst true [],.lst true [],.lst true [],.lst true [],.sc (.int .i64 0),.lst true [],.sc (.int .i64 0),.sc (.string ⟨#[]⟩),.sc (.int .i64 0),.lst true [],.sc (.int .i64 0),.lst true [],.sc (.int .u8 0)]))/\(qF qe 38 0=some (0,27,4)):=by and_intros<;>exact eqS zKr
@[go_sem] theorem fl38_1:(qF qe 38 1=some (4,30,2))/\(qF qe 38 2=some (6,32,1))/\(qF qe 38 3=some (7,35,5))/\(qF qe 38 4=some (12,36,1))/\(qF qe 38 5=some (13,5,1))/\(szOf qe 40=some 1)/\(qR qe 40=some false)/\(qJ qe 40=some (98,4,64))/\(szOf qe 41=some 1)/\(qR qe 41=some false):=by and_intros<;>exact eqS zKr
@[go_sem] theorem sl41:(qJ qe 41=some (93,1,24))/\(szOf qe 43=some 4)/\(qR qe 43=some true)/\(qB qe 43=some (.agg [.lst true [],.sc (.int .i64 0),.lst true [],.sc (.int .i64 0)]))/\(yo qe 43=some (plc [(0,2),(2,1),(3,1)]))/\(qF qe 43 0=some (0,30,2))/\(qF qe 43 1=some (2,41,1))/\(qF qe 43 2=some (3,3,1))/\(yk qe 43=true)/\(szOf qe 46=some 1):=by and_intros<;>exact eqS zKr
@[go_sem] theorem ag46:(qR qe 46=some false)/\(qB qe 46=some (.sc (.int .i64 0)))/\(ZV qe 46=true)/\(szOf qe 49=some 1)/\(qR qe 49=some false)/\(qB qe 49=some (.lst true []))/\(qJ qe 49=some (43,4,64))/\(szOf qe 58=some 1)/\(qR qe 58=some false)/\(qB qe 58=some (.lst true [])):=by and_intros<;>exact eqS zKr
@[go_sem] theorem sl58:(qJ qe 58=some (4,1,1))/\(szOf qe 65=some 2)/\(qR qe 65=some true)/\(qB qe 65=some (.agg [.sc (.string ⟨#[]⟩),.sc (.bool false)]))/\(yo qe 65=some (plc [(0,1),(1,1)]))/\(qF qe 65 0=some (0,9,1))/\(qF qe 65 1=some (1,4,1))/\(yk qe 65=true)/\(szOf qe 67=some 3)/\(qR qe 67=some true):=by and_intros<;>exact eqS zKr
@[go_sem] theorem ze67:(qB qe 67=some (.agg [.sc (.string ⟨#[]⟩),.lst true [],.sc (.bool false)]))/\(yo qe 67=some (plc [(0,1),(1,1),(2,1)]))/\(qF qe 67 0=some (0,9,1))/\(qF qe 67 1=some (1,28,1))/\(qF qe 67 2=some (2,4,1))/\(yk qe 67=true)/\(szOf qe 71=some 2)/\(qR qe 71=some true)/\(qB qe 71=some (.agg [.sc (.int .i64 0),.sc (.int .i64 0)]))/\(VY qe 71=some 2):=by and_intros<;>exact eqS zKr
@[go_sem] theorem pl71:(yo qe 71=some (plc [(0,1),(1,1)]))/\(qF qe 71 0=some (0,46,1))/\(yk qe 71=true)/\(qJ qe 76=some (71,2,16))/\(qJ qe 81=some (117,3,24))/\(szOf qe 86=some 4)/\(qR qe 86=some true)/\(szOf qe 89=some 6)/\(qR qe 89=some true)/\(qB qe 89=some (.agg [.sc (.string ⟨#[]⟩),.sc (.int .i64 0),.sc (.string ⟨#[]⟩),.sc (.int .i64 0),.lst true [],.sc (.int .i64 0)])):=by and_intros<;>exact eqS zKr
@[go_sem] theorem fl89_0:(qF qe 89 0=some (0,9,1))/\(qF qe 89 1=some (1,35,5))/\(szOf qe 93=some 1)/\(qR qe 93=some false)/\(qB qe 93=some (.lst true []))/\(qJ qe 93=some (96,2,32))/\(szOf qe 96=some 2)/\(qR qe 96=some true)/\(qB qe 96=some (.agg [.sc (.int .i64 0),.lst true []]))/\(yo qe 96=some (plc [(0,1),(1,1)])):=by and_intros<;>exact eqS zKr
@[go_sem] theorem fl96_0:(qF qe 96 0=some (0,3,1))/\(qF qe 96 1=some (1,28,1))/\(yk qe 96=true)/\(szOf qe 98=some 4)/\(qR qe 98=some true)/\(qB qe 98=some (.agg [.sc (.int .i64 0),.lst true [],.sc (.int .i64 0),.lst true []]))/\(yo qe 98=some (plc [(0,2),(2,2)]))/\(qF qe 98 0=some (0,96,2))/\(qF qe 98 1=some (2,96,2))/\(yk qe 98=true):=by and_intros<;>exact eqS zKr
@[go_sem] theorem sz107:(szOf qe 107=some 1)/\(qR qe 107=some false)/\(qJ qe 107=some (159,2,24))/\(szOf qe 109=some 7)/\(qR qe 109=some true)/\(qB qe 109=some (.agg [.sc (.string ⟨#[]⟩),.lst true [],.sc (.int .i64 0),.sc (.string ⟨#[]⟩),.sc (.int .i64 0),.lst true [],.sc (.int .i64 0)]))/\(qF qe 109 0=some (0,9,1))/\(qF qe 109 1=some (1,107,1))/\(qF qe 109 2=some (2,35,5))/\(szOf qe 115=some 1):=by and_intros<;>exact eqS zKr
@[go_sem] theorem ag115:(qR qe 115=some false)/\(qJ qe 115=some (5,1,1))/\(qB qe 117=some (.agg [.sc (.int .i64 0),.sc (.int .i64 0),.sc (.int .i64 0)]))/\(yo qe 117=some (plc [(0,1),(1,1),(2,1)]))/\(yk qe 117=true)/\(szOf qe 118=some 1)/\(qR qe 118=some false)/\(qB qe 118=some (.lst true []))/\(qJ qe 118=some (120,2,16))/\(szOf qe 120=some 2):=by and_intros<;>exact eqS zKr
@[go_sem] theorem ag120:(qR qe 120=some true)/\(qB qe 120=some (.agg [.sc (.int .i64 0),.sc (.int .i64 0)]))/\(qJ qe 120=none)/\(ZQ qe 120=some (2,3,1))/\(yo qe 120=some (plA 1))/\(yk qe 120=true)/\(szOf qe 127=some 1)/\(qR qe 127=some false)/\(qJ qe 127=some (192,3,24))/\(szOf qe 132=some 1):=by and_intros<;>exact eqS zKr
@[go_sem] theorem ag132:(qR qe 132=some false)/\(qB qe 132=some (.sc (.pointer none)))/\(szOf qe 133=some 1)/\(qR qe 133=some false)/\(mapT qe 133=some (9,4))/\(qB qe 135=some (.agg [.lst true [],.lst true [],.lst true [],.lst true [],.sc (.map none),.sc (.int .i64 0),.sc (.int .i64 0)]))/\(yo qe 135=some (plc [(0,4),(4,1),(5,1),(6,1)]))/\(qF qe 135 0=some (0,27,4))/\(qF qe 135 1=some (4,133,1))/\(qF qe 135 2=some (5,3,1)):=by and_intros<;>exact eqS zKr
@[go_sem] theorem fl135_3:(qF qe 135 3=some (6,3,1))/\(yk qe 135=true)/\(mapT qe 141=some (9,207))/\(szOf qe 144=some 1)/\(qR qe 144=some false)/\(qJ qe 144=some (275,2,24))/\(szOf qe 151=some 2)/\(qR qe 151=some true)/\(qB qe 151=some (.agg [.sc (.int .i64 0),.lst true []]))/\(yo qe 151=some (plc [(0,1),(1,1)])):=by and_intros<;>exact eqS zKr
@[go_sem] theorem fl151_0:(qF qe 151 0=some (0,3,1))/\(qF qe 151 1=some (1,144,1))/\(yk qe 151=true)/\(szOf qe 159=some 2)/\(qR qe 159=some true)/\(qB qe 159=some (.agg [.sc (.string ⟨#[]⟩),.sc (.int .i64 0)]))/\(qF qe 159 0=some (0,9,1))/\(qF qe 159 1=some (1,3,1))/\(qJ qe 163=none)/\(ZQ qe 163=some (64,4,1)):=by and_intros<;>exact eqS zKr
@[go_sem] theorem sz165:(szOf qe 165=some 65)/\(qR qe 165=some true)/\(qB qe 165=some (.agg [.sc (.int .i64 0),.sc (.bool false),.sc (.bool false),.sc (.bool false),.sc (.bool false),.sc (.bool false),.sc (.bool false),.sc (.bool false),.sc (.bool false),.sc (.bool false),.sc (.bool false),.sc (.bool false),.sc (.bool false),.sc (.bool false),.sc (.bool false),.sc (.bool false),.sc (.bool false),.sc (.bool false),.sc (.bool false),.sc (.bool false),.sc (.bool false),.sc (.bool false),.sc (.bool false),.sc (.bool false),.sc (.bool false),.sc (.bool false),.sc (.bool false),.sc (.bool false),.sc (.bool false),.sc (.bool false),.sc (.bool false),.sc (.bool false),.sc (.bool false),.sc (.bool false),.sc (.bool false),.sc (.bool false),.sc (.bool false),.sc (.bool false),.sc (.bool false),.sc (.bool false),.sc (.bool false),.sc (.bool false),.sc (.bool false),.sc (.bool false),.sc (.bool false),.sc (.bool false),.sc (.bool false),.sc (.bool false),.sc (.bool false),.sc (.bool false),.sc (.bool false),.sc (.bool false),.sc (.bool false),.sc (.bool false),.sc (.bool false),.sc (.bool false),.sc (.bool false),.sc (.bool false),.sc (.bool false),.sc (.bool false),.sc (.bool false),.sc (.bool false),.sc (.bool false),.sc (.bool false),.sc (.bool false)]))/\(yo qe 165=some (plc [(0,1),(1,64)]))/\(qF qe 165 0=some (0,3,1))/\(qF qe 165 1=some (1,163,64))/\(yk qe 165=true)/\(szOf qe 170=some 7)/\(qR qe 170=some true)/\(qB qe 170=some (.agg [.lst true [],.lst true [],.lst true [],.lst true [],.lst true [],.sc (.int .i64 0),.sc (.bool false)])):=by and_intros<;>exact eqS zKr
@[go_sem] theorem pl170:(yo qe 170=some (plc [(0,4),(4,1),(5,1),(6,1)]))/\(qF qe 170 0=some (0,27,4))/\(qF qe 170 1=some (4,58,1))/\(qF qe 170 2=some (5,3,1))/\(qF qe 170 3=some (6,4,1))/\(yk qe 170=true)/\(qJ qe 171=some (238,66,88))/\(szOf qe 173=some 1)/\(qR qe 173=some false)/\(qJ qe 173=some (9,1,16)):=by and_intros<;>exact eqS zKr
@[go_sem] theorem sz175:(szOf qe 175=some 7)/\(qR qe 175=some true)/\(qB qe 175=some (.agg [.lst true [],.lst true [],.lst true [],.lst true [],.lst true [],.sc (.int .i64 0),.sc (.int .i64 0)]))/\(yo qe 175=some (plc [(0,4),(4,1),(5,1),(6,1)]))/\(qF qe 175 0=some (0,27,4))/\(qF qe 175 1=some (4,173,1))/\(qF qe 175 2=some (5,3,1))/\(qF qe 175 3=some (6,3,1))/\(yk qe 175=true)/\(szOf qe 183=some 1):=by and_intros<;>exact eqS zKr
@[go_sem] theorem ag183:(qR qe 183=some false)/\(szOf qe 192=some 3)/\(qR qe 192=some true)/\(qB qe 192=some (.agg [.sc (.int .i64 0),.sc (.int .i64 0),.sc (.int .i64 0)]))/\(yo qe 192=some (plc [(0,1),(1,1),(2,1)]))/\(qF qe 192 0=some (0,3,1))/\(qF qe 192 1=some (1,3,1))/\(qF qe 192 2=some (2,3,1))/\(yk qe 192=true)/\(szOf qe 193=some 1):=by and_intros<;>exact eqS zKr
@[go_sem] theorem ag193:(qR qe 193=some false)/\(szOf qe 194=some 1)/\(qR qe 194=some false)/\(qB qe 194=some (.sc .nilFunc))/\(szOf qe 196=some 1)/\(qR qe 196=some false)/\(szOf qe 200=some 2)/\(qB qe 200=some (.agg [.sc (.int .i64 0),.sc (.int .i64 0)]))/\(ZV qe 200=true)/\(yo qe 200=some (plc [(0,2)])):=by and_intros<;>exact eqS zKr
@[go_sem] theorem fl200_0:(qF qe 200 0=some (0,71,2))/\(yk qe 200=true)/\(szOf qe 205=some 1)/\(qR qe 205=some false)/\(Zk qe 205=true)/\(szOf qe 207=some 3)/\(qR qe 207=some true)/\(qB qe 207=some (.agg [.sc (.pointer none),.sc (.int .i64 0),.sc (.string ⟨#[]⟩)]))/\(yo qe 207=some (plc [(0,1),(1,1),(2,1)]))/\(qF qe 207 0=some (0,205,1)):=by and_intros<;>exact eqS zKr
@[go_sem] theorem fl207_1:(qF qe 207 1=some (1,3,1))/\(qF qe 207 2=some (2,9,1))/\(yk qe 207=true)/\(qB qe 212=some (.agg [.lst true [],.sc (.int .i64 0),.lst true [],.sc (.int .i64 0),.lst true [],.lst true [],.lst true [],.lst true [],.sc (.int .i64 0)]))/\(yo qe 212=some (plc [(0,4),(4,4),(8,1)]))/\(qF qe 212 0=some (0,43,4))/\(qF qe 212 1=some (4,27,4))/\(qF qe 212 2=some (8,3,1))/\(yk qe 212=true)/\(qJ qe 232=some (165,65,72)):=by and_intros<;>exact eqS zKr
@[go_sem] theorem ze238:(qB qe 238=some (.agg [.sc (.string ⟨#[]⟩),.sc (.int .i64 0),.sc (.bool false),.sc (.bool false),.sc (.bool false),.sc (.bool false),.sc (.bool false),.sc (.bool false),.sc (.bool false),.sc (.bool false),.sc (.bool false),.sc (.bool false),.sc (.bool false),.sc (.bool false),.sc (.bool false),.sc (.bool false),.sc (.bool false),.sc (.bool false),.sc (.bool false),.sc (.bool false),.sc (.bool false),.sc (.bool false),.sc (.bool false),.sc (.bool false),.sc (.bool false),.sc (.bool false),.sc (.bool false),.sc (.bool false),.sc (.bool false),.sc (.bool false),.sc (.bool false),.sc (.bool false),.sc (.bool false),.sc (.bool false),.sc (.bool false),.sc (.bool false),.sc (.bool false),.sc (.bool false),.sc (.bool false),.sc (.bool false),.sc (.bool false),.sc (.bool false),.sc (.bool false),.sc (.bool false),.sc (.bool false),.sc (.bool false),.sc (.bool false),.sc (.bool false),.sc (.bool false),.sc (.bool false),.sc (.bool false),.sc (.bool false),.sc (.bool false),.sc (.bool false),.sc (.bool false),.sc (.bool false),.sc (.bool false),.sc (.bool false),.sc (.bool false),.sc (.bool false),.sc (.bool false),.sc (.bool false),.sc (.bool false),.sc (.bool false),.sc (.bool false),.sc (.bool false)]))/\(yo qe 238=some (plc [(0,1),(1,65)]))/\(qF qe 238 0=some (0,9,1))/\(qF qe 238 1=some (1,165,65))/\(yk qe 238=true)/\(qJ qe 239=some (246,9,112))/\(qB qe 246=some (.agg [.sc (.string ⟨#[]⟩),.sc (.string ⟨#[]⟩),.sc (.bool false),.sc (.int .i64 0),.sc (.string ⟨#[]⟩),.sc (.int .i64 0),.lst true [],.sc (.int .i64 0),.sc (.int .i64 0)]))/\(yo qe 246=some (plc [(0,1),(1,1),(2,1),(3,5),(8,1)]))/\(qF qe 246 0=some (0,9,1))/\(qF qe 246 1=some (1,9,1)):=by and_intros<;>exact eqS zKr
@[go_sem] theorem fl246_2:(qF qe 246 2=some (2,4,1))/\(qF qe 246 3=some (3,35,5))/\(qF qe 246 4=some (8,3,1))/\(yk qe 246=true)/\(szOf qe 249=some 1)/\(qR qe 249=some false)/\(qB qe 249=some (.sc (.map none)))/\(mapT qe 249=some (3,3))/\(szOf qe 251=some 1)/\(qR qe 251=some false):=by and_intros<;>exact eqS zKr
@[go_sem] theorem ze251:(qB qe 251=some (.sc .nilFunc))/\(qB qe 257=some (.agg [.lst true [],.lst true [],.lst true [],.lst true [],.sc (.int .i64 0),.lst true []]))/\(yo qe 257=some (plc [(0,4),(4,1),(5,1)]))/\(qF qe 257 0=some (0,27,4))/\(qF qe 257 1=some (4,3,1))/\(qF qe 257 2=some (5,58,1))/\(yk qe 257=true)/\(szOf qe 258=some 1)/\(qR qe 258=some false)/\(mapT qe 258=some (313,4)):=by and_intros<;>exact eqS zKr
@[go_sem] theorem sz260:(szOf qe 260=some 2)/\(qR qe 260=some true)/\(qB qe 260=some (.agg [.sc (.int .i64 0),.sc (.map none)]))/\(yo qe 260=some (plc [(0,1),(1,1)]))/\(qF qe 260 0=some (0,3,1))/\(qF qe 260 1=some (1,258,1))/\(yk qe 260=true)/\(szOf qe 262=some 1)/\(qR qe 262=some false)/\(Zk qe 262=true):=by and_intros<;>exact eqS zKr
@[go_sem] theorem sl265:(qJ qe 265=some (260,2,16))/\(qB qe 268=some (.sc .nilFunc))/\(mapT qe 269=some (3,268))/\(szOf qe 275=some 2)/\(qR qe 275=some true)/\(qB qe 275=some (.agg [.sc (.string ⟨#[]⟩),.sc (.int .i64 0)]))/\(yo qe 275=some (plc [(0,1),(1,1)]))/\(qF qe 275 0=some (0,9,1))/\(qF qe 275 1=some (1,3,1))/\(yk qe 275=true):=by and_intros<;>exact eqS zKr
@[go_sem] theorem sl286:(qJ qe 286=some (28,1,24))/\(qB qe 292=some (.agg [.sc (.string ⟨#[]⟩),.sc (.int .i64 0),.sc (.map none),.sc (.pointer none)]))/\(yo qe 292=some (plc [(0,1),(1,2),(3,1)]))/\(qF qe 292 0=some (0,9,1))/\(qF qe 292 1=some (1,260,2))/\(qF qe 292 2=some (3,262,1))/\(yk qe 292=true)/\(szOf qe 311=some 1)/\(qR qe 311=some false)/\(qB qe 311=some (.sc (.int .i8 0))):=by and_intros<;>exact eqS zKr
@[go_sem] theorem sz313:(szOf qe 313=some 3)/\(qR qe 313=some true)/\(qB qe 313=some (.agg [.sc (.int .i8 0),.sc (.int .i8 0),.sc (.int .i8 0)]))/\(qJ qe 313=none)/\(ZQ qe 313=some (3,311,1))/\(yo qe 313=some (plA 1))/\(yk qe 313=true)/\(szOf qe 337=some 1)/\(qR qe 337=some false)/\(qB qe 337=some (.sc (.map none))):=by and_intros<;>exact eqS zKr
@[go_sem] theorem mt337:(mapT qe 337=some (3,28))/\(qJ qe 346=some (311,1,1)):=by and_intros<;>exact eqS zKr
end Ty
end Go.Proofs.YtipbakanneogpaaGreatDoor
namespace Go.Ev
open Go Go.RowKit
section
variable {R:AEnd->Mu->Prop}{f:qx}{args args1:List AV}{mu mu':Mu}{P:qb}
def JZ(mu:Mu)(give:Nat->Bool):List AV->List AV->Prop
 | [],[]=>True
 |x :: J,y :: i=>(x=y\/Rd (cutM give mu 0) x y)/\JZ mu give J i
 |_,_=>False
theorem JZ.get{give}:∀{xs ys},JZ mu give xs ys->ys.length=xs.length/\∀(k:Nat) x y,xs[k]?=some x->ys[k]?=some y->x=y\/Rd (cutM give mu 0) x y
 | [],[],_=>⟨rfl,zSp⟩
 |x :: xs,y :: ys,⟨h,t⟩=>by
  obtain⟨j,l⟩:=JZ.get t;refine⟨zP1 j,fun k a b g i=>?_⟩;cases k with
  |zero=>simp at g i;subst g;subst i;exact h
  |succ k=>exact l k a b (zUs g) (zUs i)
 | [],_ :: _,h=>h.elim
 |_ :: _,[],h=>h.elim
theorem qD.freeze(give)(l:JZ mu give args args1)(h:qD P f args1 (cutM (fun i=>!give i) mu 0) R):qD P f args mu R:=by
 obtain⟨g,h⟩:=h;obtain⟨I,l⟩:=l.get;refine⟨g,fun G w p s t=>?_⟩;have o:ya (frz G give mu) w.heap args1 p:=by
  refine⟨by rw[I];exact t.1,fun k y J=>?_⟩;have U:k<args.length:=by grind
  have C:args[k]?=some args[k]:=qA U;have rv:=t.2 k _ C;rcases l k _ y C J with e|r
  .rw [<-e];exact rv.mono (Zm s give).le (Ext.refl _ _)
  grind [W6]
 refine(h (frz G give mu) w p (Ua s give) o).mono fun e w' ⟨G',j,T,hR⟩=>⟨G',j,(Zm s give).trans s T,hR⟩
def Gvs(mu:Mu)(give:Nat->Bool):List AV->List AV->Prop
 | [],[]=>True
 |x :: J,y :: i=>Gv mu give x y/\Gvs mu give J i
 |_,_=>False
theorem Gvs.get{give}:∀{xs ys},Gvs mu give xs ys->ys.length=xs.length/\∀(k:Nat) x y,xs[k]?=some x->ys[k]?=some y->Gv mu give x y
 | [],[],_=>⟨rfl,zSp⟩
 |x :: xs,y :: ys,⟨h,t⟩=>by
  obtain⟨j,l⟩:=Gvs.get t;refine⟨zP1 j,fun k a b g i=>?_⟩;cases k with
  |zero=>simp at g i;subst g;subst i;exact h
  |succ k=>exact l k a b (zUs g) (zUs i)
 | [],_ :: _,h=>h.elim
 |_ :: _,[],h=>h.elim
def FrzM(mu:Mu)(give:Nat->Bool)(mu':Mu):Prop:=mu'.length=mu.length/\∀(i:Nat)(g:Cell),mu'[i]?=some g->g ≠ .dead->give i=false/\∃ c,mu[i]?=some c/\c ≠ .dead /\
 (g=c\/∃ J j,c = .arr J/\g = .arr j/\Gvs mu give J j/\j.all AV.one=true)
theorem FrzM.sim{G h give}(s:Sim G mu h)(f:FrzM mu give mu'):Sim (frz G give mu) mu' h:=by
 have a0:G.le (frz G give mu):=⟨fun b hb => .inl hb,fun _ _ h=>h⟩;have U:=Ua s give;have kept:∀(i:Nat)(g:Cell),mu'[i]?=some g->g ≠ .dead->∃ c,(cutM (fun i=>!give i) mu 0)[i]?=some c/\c ≠ .dead:=by
  intro i g p r;obtain⟨hg,c,P,R,_⟩:=f.2 i g p r
  grind [jL]
 refine⟨by rw[f.1];exact s.len,U.imm,?_,?_,?_,U.tab⟩
 .intro i g t C p r T
  obtain⟨hg,c,P,R,hr⟩:=f.2 i g p r;obtain⟨o,ho,l⟩:=s.obj i c t C P R T;refine⟨o,ho,?_⟩;rcases hr with rfl|⟨J,ys,rfl,rfl,I,a3⟩
  .exact l.mono a0 (Ext.refl _ _)
  .obtain ⟨a4,I⟩:=I.get
   obtain⟨cs,e,rfl,k1,k2,k3⟩:=l;refine⟨cs,e,rfl,k1,zOm,fun j y hy=>?_⟩;have hj:j<J.length:=by grind
   have hx:J[j]?=some J[j]:=qA hj;exact⟨by grind,(I j _ y hx hy).sound s (k3 j _ hx).2⟩
 .intro i g t C p r T
  obtain⟨c,P,R⟩:=kept i g p r;exact U.live i c t C P R T
 .intro i j ci cj b ti tj p r T h4 h5 h6
  obtain⟨c,P,R⟩:=kept i ci p T;obtain⟨g,a1,a2⟩:=kept j cj r h4;exact U.inj i j c g b ti tj P a1 R a2 h5 h6
theorem FrzM.stp{G w give}(s:Sim G mu w.heap)(f:FrzM mu give mu'):Stp G mu w (frz G give mu) mu' w:=by
 refine⟨⟨fun b g => .inl g,fun _ _ h=>h⟩,f.sim s,fun _ _ _=>rfl,qr _,?_,?_,rfl,rfl,rfl,qr _⟩
 .rintro b ⟨i,c,j,l,o,p⟩
  obtain⟨_,c0,r,t,_⟩:=f.2 i c l o;exact .inl ⟨i,c0,j,r,t,p⟩
 .rintro b (g|g)
  .exact .inl g
  .exact .inr (.inl g.cut)
theorem fU(h:qD P f args mu fun e m=>R e m\/∃(g:Nat->Bool) (x y:AV),e = .ret x/\Gv m g x y/\R (.ret y) (cutM (fun i=>!g i) m 0)):qD P f args mu R:=by
 obtain⟨o,h⟩:=h;refine⟨o,fun G w C s I=>(h G w C s I).mono fun e w' ⟨J,j,T,l⟩=>?_⟩;rcases l with ⟨r,v,l,p,t⟩|⟨r,v,l,p,t⟩
 .rcases l with l|⟨g,x,y,U,hg,l⟩
  .grind
  .cases U
   exact⟨frz J g j,_,T.trans s (Zm T.sim g),.inl ⟨y,v,l,p,hg.sound T.sim t⟩⟩
 grind
theorem qD.freezeM(give)(i:Gvs mu give args args1)(o:FrzM mu give mu')(h:qD P f args1 mu' R):qD P f args mu R:=by
 obtain⟨g,h⟩:=h;obtain⟨C,i⟩:=i.get;refine⟨g,fun G w p s r=>?_⟩;have j:ya (frz G give mu) w.heap args1 p:=by
  refine⟨by rw[C];exact r.1,fun k y I=>?_⟩;have J:k<args.length:=by grind
  have t:args[k]?=some args[k]:=qA J;exact(i k _ y t I).sound s (r.2 k _ t)
 refine(h (frz G give mu) w p (o.sim s) j).mono fun e w' ⟨U,l,T,hR⟩=>⟨U,l,(o.stp s).trans s T,hR⟩
theorem qi.toSound{args' v}(mu)(h:qi P f args' v)(p:WKs args args'):qD P f args mu fun e m=>e = .ret v/\m=mu:=by
 refine⟨h.1,fun G w vs s r=>?_⟩;have t:VRel G w.heap (.fn (.func f) [] []) (.func (.func f) #[] #[]) := .fn _ _ _ _ _ rfl rfl (fun k x i=>by simp at i) (fun k x i=>by simp at i);obtain⟨g,first,l,e,_,o⟩:=gU s t r (.inl ⟨f,[],[],args',rfl,h,.inl (zUs p)⟩);injection e with j C I;injection j with j;subst j;subst C;subst I;simp at o;refine o.mono fun e w' ⟨J,u,R,T,U⟩=>⟨J,mu,T,.inl ⟨v,u,⟨rfl,rfl⟩,R,U⟩⟩
end
end Go.Ev
namespace Go.Ev
open Go
section
variable {av s x:AV}{K:AV->Mu->Prop}{xs ys:List (List AV)}{mu:Mu}{bt e i lo sz t:Nat}{P:qb}{st:St}{Q:qX->St->Prop}
abbrev rI(n:Int):List AV:=[.sc (.int .i64 n)]
abbrev lI(xs:List Int):AV := .lst false (xs.map rI)
structure Rl where
 ar:Int
 ts:List Int
 deriving DecidableEq
structure Sc where
 sC:List Int
 sN:Int
structure Fld where
 name:tP
 sS:List Int
 var:Bool
structure Bd where
 lo:Rl
 up:Rl
 deriving DecidableEq
abbrev cRel(r:Rl):List AV:=[aI r.ar,lI r.ts]
abbrev eRel(r:Rl):AV := .agg (cRel r)
abbrev lRel(g:List Rl):AV := .lst false (g.map cRel)
abbrev eSc(s:Sc):AV := .agg [lI s.sC,aI s.sN]
abbrev uT(s:tP×Bool):List AV:=[.sc (.string s.1),aB s.2]
abbrev jY(f:Fld):List AV:=[.sc (.string f.name),lI f.sS,aB f.var]
abbrev Uu(f:Fld):AV := .agg (jY f)
abbrev cBd(b:Bd):List AV:=[aI b.lo.ar,lI b.lo.ts,aI b.up.ar,lI b.up.ts]
abbrev lBd(b:List Bd):AV := .lst false (b.map cBd)
theorem zh(xs):HF (lI xs):=HF.lst fun r g c i=>by
 obtain⟨n,_,rfl⟩:=qn.1 g
 grind [HF.sc]
theorem ZZ(r):∀ c,c∈cRel r->HF c:=by
 intro c g;simp at g;rcases g with rfl|rfl
 .exact HF.sc _
 .exact zh _
theorem qY(r):HF (eRel r):=HF.agg (ZZ r)
theorem Qq(g):HF (lRel g):=HF.lst fun r i c j=>by
 obtain⟨n,_,rfl⟩:=qn.1 i;exact ZZ n c j
theorem zA(s):HF (eSc s):=HF.agg fun c g=>by
 simp at g;rcases g with rfl|rfl
 .exact zh _
 .exact HF.sc _
theorem nU(f):∀ c,c∈jY f->HF c:=by
 intro c g;simp at g;rcases g with rfl|rfl|rfl
 .exact HF.sc _
 .exact zh _
 .exact HF.sc _
theorem nV(f):HF (Uu f):=HF.agg (nU f)
theorem jw(b):HF (lBd b):=HF.lst fun r i c g=>by
 obtain⟨n,_,rfl⟩:=qn.1 i;simp at g;rcases g with rfl|rfl|rfl|rfl
 .exact HF.sc _
 .exact zh _
 .exact HF.sc _
 .exact zh _
@[go_sem] theorem ieq:(∀(a b:Int),(a == b)=decide (a=b))/\(∀(a b:Int),(a != b)=!decide (a=b)):=by and_intros<;>intros<;>exact eqS rfl
@[go_sem] theorem natEq(a b:Nat):((a:Int)=(b:Int))=(a=b):=propext ⟨Int.ofNat_inj.1,fun h=>by rw[h]⟩
inductive Tag (p:St->Prop):Type where
 |mk:Tag p
def Keep(p:St->Prop)(_:Tag p)(st:St):Prop:=p st
theorem Keep.loop{p:Nat->St->Prop}{n}(m)(g:m<n)(h:p m st):∃ m,m<n/\Keep (p m) .mk st:=⟨m,g,h⟩
theorem tT{pl body}(I:Nat->St->Prop)(n)(h:I n st)(k:∀ n st,I n st->awp P pl body (Qn (fun n=>Keep (I n) .mk) n Q) st):qm P pl body Q st := cL (fun n=>Keep (I n) .mk) n h k
theorem yC(xs:List Int):zo 1 (xs.map rI):=fun r g=>by
 obtain⟨n,_,rfl⟩:=qn.1 g;exact⟨rfl,rfl⟩
theorem vQ(xs:List Rl):zo 2 (xs.map cRel):=fun r g=>by
 obtain⟨n,_,rfl⟩:=qn.1 g;exact⟨rfl,rfl⟩
def OwnF(lo:Nat)(mu:Mu)(sz:Nat)(av:AV)(xs:List (List AV)):Prop:=Own mu sz av xs/\(∀ b s o l,av = .sl b s o l->lo<=b)/\lo<=mu.length
theorem OwnF.one(h:OwnF lo mu sz av xs):av.one=true:=by
 rcases h.1 with rfl|⟨b,rfl,_⟩<;>rfl
theorem OwnF.cells(h:OwnF lo mu sz av xs):av.cells=[av]:=by
 rcases h.1 with rfl|⟨b,rfl,_⟩<;>rfl
theorem OwnF.nil(h:lo<=mu.length):OwnF lo mu sz (.lst true []) []:=⟨.inl rfl,fun _ _ _ _ e=>by simp at e,h⟩
theorem OwnF.set{c}(h:OwnF lo mu sz av xs)(o:i<lo):OwnF lo (mu.set i c) sz av xs:=by
 obtain⟨j,g,l⟩:=h;refine⟨?_,g,zUs l⟩;rcases j with rfl|⟨b,rfl,p⟩
 .exact .inl rfl
 .have:=g _ _ _ _ rfl
  exact .inr ⟨b,rfl,by grind⟩
theorem vd.ownF{g:Nat}{zv}(hs:qJ P t=some (e,sz,bt))(j:(qJ P g).isSome=true)(hz:qB P e=some zv)
  (p:zv.cells.length=sz) (r:zv.cells.all AV.one=true) (C:sz≠0) (hb:bt<=16384) (I:OwnF lo mu sz s xs) (hx:qE mu x=some ys) (T:zo sz xs) (wy:zo sz ys) (U:xs.length+ys.length<=4294967296)
  (k:∀ av mu',OwnF lo mu' sz av (xs++ys)->(∀ i,i<lo->mu'[i]?=mu[i]?)->K av mu'):vd P mu #[t,g] s x K:=by
 obtain⟨I,J,R⟩:=I;refine⟨t,g,e,sz,bt,ys,rfl,hs,j,⟨zv,hz,p,r⟩,C,hb,hx,wy,?_⟩;rcases I with rfl|⟨b,rfl,hc⟩
 .refine .inl ⟨xs,rfl,T,U,fun h=>?_,fun h=>?_⟩
  .subst h
   exact k _ _ ⟨.inl zSp,fun _ _ _ _ e=>by simp at e,R⟩ (fun _ _=>rfl)
  .refine k _ _ ⟨.inr ⟨mu.length,zSp,zSp⟩,fun b s o l e=>?_,zSo⟩ (fun i hi=>?_)
   .grind
   grind
 .have a0:=yQ T.ok
  have a1:=J _ _ _ _ rfl;refine .inr ⟨b,xs.length,xs.flatten,rfl,hc,zOm,U,?_⟩;have a2:xs.flatten.take (xs.length*sz)=xs.flatten:=z6 zOm;refine k _ _ ⟨.inr ⟨mu.length,zSp,?_⟩,fun b s o l e=>?_,zSo⟩ (fun i hi=>?_)
  .grind
  .grind
  grind
theorem qz.ownF{p:Nat}{zv}(r:qJ P t=some (e,sz,bt))(g:(qJ P p).isSome=true)(C:qB P e=some zv)
  (j:zv.cells.length=sz) (l:zv.cells.all AV.one=true) (o:sz≠0) (I:bt<=16384) (J:OwnF lo mu sz s xs) (R:qE mu x=some ys) (T:zo sz xs) (U:zo sz ys) (hl:xs.length+ys.length<=4294967296)
  (k:∀ av mu',OwnF lo mu' sz av (xs++ys)->(∀ i,i<lo->mu'[i]?=mu[i]?)->K av mu'):qz P mu #[t,p] s x K:=
 .inl (vd.ownF r g C j l o I J R T U hl k)
theorem qz.ints{j:Nat}{xs ys:List Int}{z}(l:qJ P t=some (e,1,bt))(g:(qJ P j).isSome=true)(o:qB P e=some (aI z))
  (p:bt<=16384) (r:OwnF lo mu 1 s (xs.map rI)) (C:qE mu x=some (ys.map rI)) (I:xs.length+ys.length<=4294967296)
  (k:∀ av mu',OwnF lo mu' 1 av ((xs++ys).map rI)->(∀ i,i<lo->mu'[i]?=mu[i]?)->K av mu'):qz P mu #[t,j] s x K:=
 qz.ownF l g o rfl rfl zOm p r C (yC _) (yC _) (zUs I) (fun av mu' J R=>k av mu' (by rw[ze];exact J) R)
theorem qjF{low g mu':Mu}(j:low.length=lo)(l:lo<=mu'.length)(h:∀ i,i<lo->mu'[i]?=(low++g)[i]?):mu'=low++mu'.drop lo:=by
 have:mu'.take lo=low:=by
  apply jS;intro i;by_cases o:i<lo
  .grind
  grind
 rw[<-this,vO]
theorem fV{low g}{o:Nat}{xs ys:List Int}{z}(p:qJ P t=some (e,1,bt))(l:(qJ P o).isSome=true)(r:qB P e=some (aI z))
  (C:bt<=16384) (I:OwnF low.length (low++g) 1 s (xs.map rI)) (J:qE (low++g) x=some (ys.map rI)) (R:xs.length+ys.length<=4294967296)
  (k:∀ av i,OwnF low.length (low++i) 1 av ((xs++ys).map rI)->K av (low++i)):qz P (low++g) #[t,o] s x K:=
 qz.ints p l r C I J R fun av j T U=>by
  have:=qjF rfl T.2.2 U
  grind
theorem OwnF.low{low low' g}(h:OwnF low.length (low++g) sz av xs)(j:low'.length=low.length):OwnF low'.length (low'++g) sz av xs:=by
 obtain⟨l,i,_⟩:=h;refine⟨?_,by rw[j];exact i,zSp⟩;rcases l with rfl|⟨b,rfl,o⟩
 .exact .inl rfl
 .have:=i _ _ _ _ rfl
  refine .inr ⟨b,rfl,?_⟩
  grind
theorem OwnF.rdI{xs}(h:OwnF lo mu 1 av (xs.map rI)):Rd mu av (lI xs):=
 h.1.rd (yC xs).ok fun r g c i=>by
  obtain⟨n,_,rfl⟩:=qn.1 g
  grind [HF.sc]
theorem Rd.rel{r}(h:Rd mu av (lI r.ts)):Rd mu (.agg [aI r.ar,av]) (eRel r):=by
 refine .agg _ _ rfl (fun k x y g i=>?_)
 match k with
 | 0=>simp at g i;subst g;subst i;exact .zsc _
 | 1=>grind
 |k+2=>simp at g
theorem XJ(b mu):(cutM (fun j=>j == b) mu 0)[b]?=mu[b]?:=by
 grind [jL]
theorem Uv{b}(h:i≠b)(mu):(cutM (fun j=>!(j == b)) mu 0)[i]?=mu[i]?:=by
 grind [jL]
theorem FzQ.own{d}(l:st.tm d=av)(g:OwnF lo st.mu sz av xs)(wf:zo sz xs)(hf:∀ r,r∈xs->∀ c,c∈r->HF c)
  (k:∀ mu' full,mu'.length=st.mu.length->(∀ j,j<lo->mu'[j]?=st.mu[j]?)->Q (.exit i) (st.put (some d) (.lst full xs) mu')):FzQ Q (.exit i) st:=by
 rcases g.1 with h|⟨b,h,o⟩
 .refine FzQ.one (b:=st.mu.length) (d:=d) (x := .lst true xs) ?_ (k _ _ (jT _ _ _) fun j p=>Uv (zW1 g.2.2) _)
  rw[l,h];exact .hf _ (HF.lst hf)
 .refine FzQ.one (b:=b) (d:=d) (x := .lst false xs) ?_ (k _ _ (jT _ _ _) fun j p=>Uv (zW1 (g.2.1 _ _ _ _ h)) _)
  rw[l];exact Own.rd (.inr ⟨b,h,by rw[XJ];exact o⟩) wf.ok hf
def allN(p:Nat->Bool):Nat->Bool
 | 0=>true
 |n+1=>allN p n&&p n
theorem XK{p n}:allN p n=true↔∀ i,i<n->p i=true:=by
 induction n with
 |zero=>simp[allN]
 |succ n l =>
  simp only[allN,qH,l];refine⟨fun h i g=>?_,fun h=>⟨fun i g=>h i zOm,h n zOm⟩⟩;rcases Nat.lt_succ_iff_lt_or_eq.1 g with j|j
  .exact h.1 i j
  grind
theorem qjG{p n k}(g:k<n)(h:p k=false):allN p n=false:=by
 rw[<-Bool.not_eq_true,XK]
 grind
def gI(xs:List Int)(i:Nat):Int:=(xs[i]?).getD 0
theorem uU{xs}(h):gI xs i=xs[i]:=by simp[gI,h]
def sumI(xs:List Int):Int:=xs.foldr (·+·) 0
theorem nW(a b):sumI (a++b)=sumI a+sumI b:=by
 induction a with
 |nil=>simp[sumI]
 |cons x a g=>grind [sumI]
theorem uV(l:List Int)(k h):sumI (l.take (k+1))=sumI (l.take k)+l[k]:=by
 rw[List.take_add_one,qA h,nW];simp[sumI]
theorem qjH(l m)(h:∀ a,a∈l->0<=a/\a<=m):0<=sumI l/\sumI l<=m*l.length:=by
 induction l with
 |nil=>simp[sumI]
 |cons x l g =>
  have j:=h x zSp;have o:=g (fun a i=>h a (zP1 i));simp only[sumI,List.foldr_cons,zG]at *
  grind
def GSc(s:Sc):Prop:=s.sC.length<=4/\∀ a,a∈s.sC->0<=a/\a<=5
theorem GSc.sum{s}(h:GSc s)(k):0<=sumI (s.sC.take k)/\sumI (s.sC.take k)<=20:=by
 have:=qjH (s.sC.take k) 5 (fun a g=>h.2 a (List.mem_of_mem_take g));have i:=h.1
 grind
end
end Go.Ev
namespace Go.Ev
open Go Go.RowKit
section
variable {es fs:List (AV×AV)}
theorem fJ{I}{es i:List I}(r:es.Nodup)(t:i.Nodup)(h:∀ x,x∈i↔x∈es):∃ C J,PIx C J es i:=by
 have l:i.length=es.length:=((List.perm_ext_iff_of_nodup t r).2 h).length_eq;have f:∀ k,∃ j,k<es.length->j<es.length/\i[j]?=es[k]?:=by
  intro k;by_cases o:k<es.length
  .obtain ⟨j,p⟩:=List.mem_iff_getElem?.1 ((h es[k]).2 zSp)
   grind
  .exact ⟨0,fun h=>absurd h o⟩
 have g:∀ j,∃ k,j<es.length->k<es.length/\es[k]?=i[j]?:=by
  intro j;by_cases p:j<es.length
  .have P:j<i.length:=by omega
   obtain⟨k,o⟩:=List.mem_iff_getElem?.1 ((h i[j]).1 zSp)
   grind
  .exact ⟨0,fun h=>absurd h p⟩
 refine⟨fun k=>Classical.choose (f k),fun k=>Classical.choose (g k),l,fun k o=>?_⟩
 grind [Classical.choose_spec,Classical.choose,List.getElem?_inj]
theorem Uw(h:(es.map Prod.fst).Nodup):es.Nodup:=(List.pairwise_map.1 h).imp (fun g e=>g (by rw[e]))
theorem fL{mu b}(l:mu[b]?=some (.mp es))(o:(es.map Prod.fst).Nodup)(j:(fs.map Prod.fst).Nodup)(p:∀ x,x∈es↔x∈fs)(hf:∀ x,x∈es->HF x.1/\HF x.2):Rd mu (.mp b) (.ims fs):=by
 obtain⟨r,t,C⟩:=fJ (Uw j) (Uw o) p;refine .ims _ fs es r t C j (.mp b es es l rfl (fun k x y g i=>?_) (fun k x y g i=>?_))
 .rw [g]at i;cases i;exact .hf _ (hf x (zb g)).1
 .rw [g]at i;cases i;exact .hf _ (hf x (zb g)).2
theorem Rd.mds{mu b}(l:mu[b]?=some (.md es))(o:(es.map Prod.fst).Nodup)(j:(fs.map Prod.fst).Nodup)(p:∀ x,x∈es↔x∈fs)(hf:∀ x,x∈es->HF x.1/\HF x.2):Rd mu (.mp b) (.ims fs):=by
 obtain⟨r,t,C⟩:=fJ (Uw j) (Uw o) p;refine .ims _ fs es r t C j (.md b es es l rfl (fun k x y g i=>?_) (fun k x y g i=>?_))
 .rw [g]at i;cases i;exact .hf _ (hf x (zb g)).1
 .rw [g]at i;cases i;exact .hf _ (hf x (zb g)).2
end
end Go.Ev
namespace Go.Ev
open Go Go.RowKit
section
variable {R:AEnd->Mu->Prop}{args:List AV}{pl:Pol}{P:qb}
def MRel(G:Gh)(h:Array Obj):Option AV->FrameMode->Prop
 |none,u=>u = .returning
 |some x,u=>∃ v,u = .panicking [{ v,recovered:=false }]/\VRel G h x v
def jb(P:qb)(g:qx)(args:List AV)(mu:Mu)(m:Option AV)(R:Mu->Prop):Prop:=jh P g /\
 ∀(G:Gh)(w:qd)(i:Array qf)(u:FrameMode),Sim G mu w.heap->ya G w.heap args i->MRel G w.heap m u ->
  CallsDIn Fence.wide 0 P g i u w fun e l o=>∃ v p j,e = .returned v/\settle l = .returning/\Stp G mu w p j o/\R j
def Ux(P:qb)(l:List ResultVar)(g:qx)(i:List AV)(R:AEnd->Mu->Prop):qX->St->Prop
 | .normal,T | .ret,T=>jb P g i T.mu none fun j=>OptK (vh P ⟨T.tm,j⟩ l) fun r=>R (.ret r) j
 | .pan v,T=>jb P g i T.mu (some v) fun j=>OptK (vh P ⟨T.tm,j⟩ l) fun r=>R (.ret r) j
 | .exit _,_=>False
def Z0(ops:Array zK):Option (List zK×zK):=
 match ops.toList.reverse with
 |o :: r=>match o.op,o.guard,o.dst with | .defer _,none,none=>some (r.reverse,o)|_,_,_=>none
 | []=>none
theorem qjI{ops pre o}(h:Z0 ops=some (pre,o)):ops.toList=pre++[o]/\o.guard=none/\o.dst=none:=by
 unfold Z0 at h;split at h
 .rename_i l r g
  split at h
  .rename_i c p i j
   simp only[qv,Prod.mk.injEq]at h;obtain⟨rfl,rfl⟩:=h;refine⟨?_,i,j⟩;have:=congrArg List.reverse g
   grind
  grind
 grind
def Z1(P:qb)(pl:Pol)(r:List ResultVar)(R:AEnd->Mu->Prop)(o:zK)(l:Code)(st:St):Prop:=
 ∃ x args p g first i,o.op = .defer { callee := .value x,args,argTypes:=p }/\st.ev x = .fn (.func g) first i/\jh P g/\awp P pl l (Ux P r g (first++evs st.ev args.toList++i) R) st
def awpD(P:qb)(pl:Pol)(i:List ResultVar)(R:AEnd->Mu->Prop):Code->St->Prop
 | .seq (.region _ l false) g,T=>match Z0 l with
  |some (pre,o)=>awpS P pl false l pre (fun T=>Z1 P pl i R o g T) (fun v T=>R (.pan v) T.mu) T
  |none=>awpS P pl false l l.toList (fun T=>awpD P pl i R g T) (fun v T=>R (.pan v) T.mu) T
 |_,_=>False
def Ro.bare:Ro:=⟨none,[],false,[]⟩
theorem Rel.bare{i g j n G st a w}(r:Rel Ro.bare i g j n G st a w):a.defers=[]:=by
 obtain⟨l,⟨o,p⟩,_⟩:=r.df rfl;have:l=[]:=p rfl;subst this;simpa[Ro.bare] using o
def REnd(G : Gh)(mu : Mu)(w : qd)(R : AEnd->Mu->Prop)(e : Ending)(w' : qd) : Prop := ∃ i j, Stp G mu w i j w' /\
      ((∃ r v,R (.ret r) j/\e = .returned v/\VRel i w'.heap r v)\/(∃ r v,R (.pan r) j/\e = .panicked [{ v,recovered:=false }]/\VRel i w'.heap r v))
theorem qjJ{fn G0 J w0}(s0:Sim G0 J w0.heap):∀ c st a w G,Rel Ro.bare G0 J w0 fn.ntmps G st a w ->
  dOkC fn.ntmps c=true->awpD P pl fn.results.toList R c st->c.wpIn (WF Ro.bare) 0 P (bodyPostM Fence.wide 0 P fn (REnd G0 J w0 R)) a w:=by
 intro c;induction c with
 |seq x y _ ih =>
  intro st a w G r hd h;cases x with
  |region id l a7 =>
   cases a7 with
   |true=>exact h.elim
   |false =>
    simp only[dOkC,qH]at hd;have U:(l.toList.all fun o=>dOk fn.ntmps o.dst)=true:=hd.1;have a1:∀ v (st:St) a w G u,R (.pan v) st.mu->Rel Ro.bare G0 J w0 fn.ntmps G st a w->VRel G w.heap v u->LeavesInM Fence.wide 0 P fn a.tmps (REnd G0 J w0 R) a.defers (.panicking [{ v:=u,recovered:=false }]) w:=by
     intro v st a w G u I r T;rw[r.bare];exact⟨G,st.mu,r.stp,.inr ⟨v,u,I,rfl,T⟩⟩
    cases hl:Z0 l with
    |none =>
     simp only[awpD,hl]at h;refine wpIn_seq (wpIn_region_list ?_);refine Xq s0 ?_ ?_ l.toList st a w G r U h
     .intro st a w G I r
      exact ih st a w G r hd.2 I
     .intro v st a w G u I r T
      exact a1 v st a w G u I r T
    |some q =>
     obtain⟨pre,o⟩:=q;simp only[awpD,hl]at h;obtain⟨ho,hg,a2⟩:=qjI hl;refine wpIn_seq (wpIn_region_list ?_);rw[ho]at U⊢;rw[List.all_append,qH]at U;refine nv s0 ?_ ?_ pre st a w G r U.1 h
     .intro st a w G I r
      obtain⟨xo,args,ah,g,first,a8,a9,hx,aa,a4⟩:=I;obtain⟨od,aq,ai,ab,aj,ar⟩:=o;simp only at a9 hg a2;subst a9;subst hg;subst a2;simp only[wpListIn,Region.wanted,if_true];have rf:=r.ev xo;rw[hx]at rf;generalize I:a.eval xo=fv at rf;cases rf with
      |fn _ _ _ a5 a0 hn hm T hw =>
      have ra:=s5 ⟨hn,T⟩ (Qj r.ev args) ⟨hm,hw⟩;have ad:((({ dst:=none,op := .defer { callee := .value xo,args,argTypes:=ah },type:=ai,pos:=ab,after:=aj,guard:=none }:zK).semAt (WF Ro.bare).round a.eval).run P w) =
        .ok (.defer { target := .fn (.func g) a0,args:=a5++args.map a.eval }) w:=by
       rw[show (WF Ro.bare).round=none from rfl,Oper.semAt_none]
       grind [execOp,resolve,Sem.run_bind,Sem.run_pure,Result.andThen_ok,Deferred.ofValue]
      refine⟨fun _ _=>trivial,?_⟩;rw[ad,Oper.uponIn_defer];rw[r.bare]
      let d:Deferred:={ target := .fn (.func g) a0,args:=a5++args.map a.eval }
      let t:=first++evs st.ev args.toList++a8
      let C:=a5++args.map a.eval++a0
      let ro:Ro:=⟨none,[d],true,t.zip C.toList⟩
      have af:∀{G:Gh}{h:Array Obj},(∀ p,p∈ro.kp->VRel G h p.1 p.2)↔ya G h t C:=by
       intro G h;constructor
       .intro hk
        refine⟨ra.1,fun k x hx=>?_⟩;have ak:k<C.size:=by rw[ra.1];exact(qk.1 hx).1
        have T:C.toList[k]?=some (C.getD k qU):=by simp[zc,ak]
        have:(x,C.getD k qU)∈t.zip C.toList:=zb (i:=k) (by grind)
        grind
       .intro ha p hp
        obtain⟨k,hk⟩:=List.mem_iff_getElem?.1 hp;rw[List.getElem?_zip_eq_some]at hk;have:=ha.2 k p.1 hk.1;simp_all
      show y.wpIn (WF Ro.bare) 0 P _ _ _;refine XF (pl:=pl) (n:=fn.ntmps) y (ro:=ro) s0 _ _ st _ w G ?_ ⟨r.tm,fun _=>Dfs.nil _ _ _ _ _ _,r.size,r.stp,af.2 ra⟩ hd.2 (.inl ⟨rfl,rfl⟩) a4;intro ae e st a w' G' I r he;obtain⟨Ds,g1,g2,g3,r',al⟩:=r.left rfl;have key:∀(m:Option AV)(u:FrameMode),u ≠ .run->MRel G' (wB Ds w').heap m u->jb P g t st.mu m (fun j=>OptK (vh P ⟨st.tm,j⟩ fn.results.toList) fun r=>R (.ret r) j) ->
        LeavesInM Fence.wide 0 P fn a.tmps (REnd G0 J w0 R) a.defers u w':=by
       intro m u hu hm hs;rw[g1];refine Xp hu Ds w' g2 g3 ?_;refine⟨hu,.inr ⟨fun h=>by simp[Fence.wide]at h,.func g,a0,g,C,rfl,?_,fun _ _=>trivial,?_⟩⟩
       .simp only[invoke,d]
        exact aa _ _
       .refine (hs.2 G' (wB Ds w') C u r'.stp.sim (af.1 r'.kp) hm).mono ?_
        intro e u' av ⟨v,G2,an,he,ag,ao,z,hz,hR⟩;subst he;simp only;rw[ag];have r2:=r'.put (d:=none) s0 ao (.any qU) rfl;obtain⟨u2,k1,k2⟩:=JY (fn:=fn) r2 hz;exact⟨u2,k1,G2,an,r2.stp,.inl ⟨z,u2,hR,rfl,k2⟩⟩
      cases ae<;>cases e<;>simp only[ERel]at he
      .exact key none .returning zSp rfl I
      .exact I.elim
      .exact key none .returning zSp rfl I
      .obtain ⟨v,rfl,T⟩:=he
       exact key (some _) (.panicking _) zSp ⟨v,rfl,al _ _ T⟩ I
     .intro v st a w G u I r T
      exact a1 v st a w G u I r T
  |_=>exact h.elim
 |_=>intro st a w G r hd h;exact h.elim
theorem fQ{f fn c mu}(g:jh P f)(hf:P.funcs[f]?=some fn)(i:fn.body=some c)
  (j:args.length<=fn.ntmps) (l:dOkC fn.ntmps c=true) (h:awpD P pl fn.results.toList R c (st0 args mu)):qD P f args mu R:=by
 refine⟨g,fun G w p s o=>?_⟩;refine(callsIn_wide (n:=0)).1 (callsIn_of_wp_marks hf i trivial ?_);refine qjJ (pl:=pl) s c (st0 args mu) _ w G ?_ l h;exact fN s o j
theorem jb.of_awp{f fn id o g mu m R}(a0:jh P f)(hf:P.funcs[f]?=some fn)
  (hb:fn.body=some (.seq (.region id #[o] false) g)) (ho:∃ d ty pos a6,o={ dst:=d,op := .call { callee := .builtin .recover,args:=#[],argTypes:=a6 },type:=ty,pos:=pos,after:=#[],guard:=none })
  (hn:args.length<=fn.ntmps) (hd:dOkC fn.ntmps (.seq (.region id #[o] false) g)=true) (hr:noRF g=true)
  (h:awp P pl g (Qo P fn.results.toList fun e j=>∃ r,e = .ret r/\R j) ((st0 args mu).put o.dst (m.getD (.sc .nilIface)) mu)):jb P f args mu m R:=by
 obtain⟨od,a8,a1,a2,rfl⟩:=ho;refine⟨a0,fun G w vs u s ra hm=>?_⟩;refine callsDIn_of_wpSIn hf hb trivial fun i cs hc=>?_
 have r0:Rel Ro.bare G mu w fn.ntmps G (st0 args mu) { tmps:=vs++Array.replicate (fn.ntmps-vs.size) qU,defers:=[] } w:=fN s ra hn;simp only[dOkC,qH]at hd;have a9:dOk fn.ntmps od=true:=by grind
 refine wpSIn_seq (wpSIn_region ?_);have go:∀(J:List Frame)(v:qf)(U:FrameMode),J={ i with mode:=U } :: cs->settle U = .returning->VRel G w.heap (m.getD (.sc .nilIface)) v ->
   g.wpSIn Fence.wide 0 P (bodyPostS P fn i cs fun e U w'=>∃ v G' j,e = .returned v/\settle U = .returning/\Stp G mu w G' j w'/\R j)
    (({ tmps:=vs++Array.replicate (fn.ntmps-vs.size) qU,defers:=[] }:Act).put od v) J w:=by
  intro J v U a5 I hv;refine wpSIn_of_wpIn rfl ?_;refine XF (pl:=pl) (n:=fn.ntmps) g (ro:=Ro.bare) s _ _ _ _ w G ?_ (r0.put s (Stp.refl s) hv a9) hd.2 (.inr hr) h;intro ae e T a w' G' hq r he;cases ae<;>cases e<;>simp only[ERel]at he
  .obtain ⟨z,hz,z',_,hR⟩:=hq
   obtain⟨u2,k1,k2⟩:=JY (fn:=fn) r hz;exact⟨r.bare,U,a5,u2,k1,u2,G',T.mu,rfl,I,r.stp,hR⟩
  .exact hq.elim
  .obtain ⟨z,hz,z',_,hR⟩:=hq
   obtain⟨u2,k1,k2⟩:=JY (fn:=fn) r hz;exact⟨r.bare,U,a5,u2,k1,u2,G',T.mu,rfl,I,r.stp,hR⟩
  .obtain ⟨z,hz,_⟩:=hq
   grind
 have aa:∀ ev:qg->qf,(execOp ev { dst:=od,op := .call { callee := .builtin .recover,args:=#[],argTypes:=a2 },type:=a8,pos:=a1,after:=#[],guard:=none }).run P w = .ok .recover w:=by
  simp_all[execOp,resolve,invoke,builtin]
 simp only[List.size_toArray,zG,List.length_nil,qu,qu.loop,wpOpsSIn];refine⟨fun _ _=>trivial,?_⟩;simp only[Region.wanted];cases m with
 |none =>
  have hu:u = .returning:=hm;have t:recoverD (i :: cs)=none:=by simp[recoverD,hc,hu]
  rw[t];exact go _ .nilIface .returning (by rw[<-hu,<-hc]) rfl (.sc _ rfl)
 |some x =>
  obtain⟨v,hu,hv⟩:=hm;have t:recoverD (i :: cs)=some (v,{ i with mode := .panicking [{ v,recovered:=true }] } :: cs):=by simp[recoverD,hc,hu]
  rw[t];exact go _ v (.panicking [{ v,recovered:=true }]) rfl rfl hv
end
end Go.Ev
namespace Go.Ev
open Go Go.RowKit
section
variable {R:AEnd->Mu->Prop}{V:AEnd->Prop}{K i:AV->Mu->Prop}{ops:Array zK}{f g:qx}{args args' caps first:List AV}{j:List ResultVar}{mu:Mu}{pl:Pol}{P:qb}{st:St}
def EndR(G:Gh)(h:Array Obj):AEnd->Ending->Prop
 | .ret r,e=>∃ v,e = .returned v/\VRel G h r v
 | .pan r,e=>∃ v,e = .panicked [{ v,recovered:=false }]/\VRel G h r v
def zl(P:qb)(f:qx)(args:List AV)(V:AEnd->Prop):Prop:=jh P f /\
 ∀(i:Nat->Prop)(w:qd)(l:Array qf),Sim ⟨i,[]⟩ [] w.heap->ya ⟨i,[]⟩ w.heap args l ->
  Calls P f l w fun e j=>∃ g a,V a/\EndR ⟨g,[]⟩ j.heap a e/\(∀ b,i b->g b)/\(∀ b,g b->b<j.heap.size/\(i b\/w.heap.size<=b))/\Yq w.heap.size w j
abbrev qZ(P:qb)(f:qx)(args:List AV)(e:AEnd):Prop:=zl P f args (·=e)
theorem qZ.toP{r}(h:qZ P f args (.ret r)):qi P f args r:=by
 refine⟨h.1,fun g w l o p=>(h.2 g w l o p).mono fun e C ⟨i,a,j,t,I,J,R⟩=>?_⟩;subst j;obtain⟨v,T,j⟩:=t
 grind
theorem qjK{G w}(s : Sim G mu w.heap)(r j : Nat->Prop)(w' )(h1 : ∀ b, G.imm b->r b)(h2 : ∀ b, j b->b < w'.heap.size/\(r b\/w.heap.size<=b))(l : Yq w.heap.size w w')(h3 : ∀ b, r b->G.imm b\/Live G mu b) :
      Stp G mu w ⟨fun b=>G.imm b\/(j b/\w.heap.size<=b),G.blk⟩ mu w':=by
    have t:G.le ⟨fun b=>G.imm b\/(j b/\w.heap.size<=b),G.blk⟩:=⟨fun b h => .inl h,fun _ _ h=>h⟩;have R:Ext G w.heap w'.heap:=⟨l.size,fun b g=>l.block b (s.imm b g)⟩;have key:∀ b,Live G mu b->w'.heap[b]?=w.heap[b]?:=fun b T=>l.block b (s.livesize T)
    refine⟨t,⟨s.len,?_,?_,?_,s.inj,s.tab.mono t.imm (fun b g=>l.block b (s.imm b g))⟩,fun b P _=>l.block b P,l.size,fun b h => .inl h,fun b h=>h.elim .inl (fun e => .inr (.inr e.2)),l.tape,l.os,l.output,l.drawn⟩
    · intro b g
      rcases g with g|g
      · exact Yk (s.imm b g) l.size
      grind
    · intro i c p o C I J
      obtain⟨U,g1,g2⟩:=s.obj i c p o C I J;exact⟨U,by rw[key p ⟨i,_,o,C,I,J⟩];exact g1,g2.mono t R⟩
    · intro i c p o C I J g
      rcases g with g|g
      · exact s.live i c p o C I J g
      · have:=s.livesize ⟨i,c,o,C,I,J⟩;omega
theorem EndR.le{G G' h}(j:G.le G'){a e}(r:EndR G h a e):EndR G' h a e:=by
 cases a with
 |ret x=>obtain⟨v,g,i⟩:=r;exact⟨v,g,i.le j⟩
 |pan x=>obtain⟨v,g,i⟩:=r;exact⟨v,g,i.le j⟩
theorem zl.toSound(mu)(h:zl P f args' V)(U:WKs args args'):qD P f args mu fun e m=>V e/\m=mu:=by
 refine⟨h.1,fun G w r s t=>?_⟩;obtain⟨hl,hg⟩:=U.get;have p:ya ⟨G.imm,[]⟩ w.heap args' r:=by
  refine⟨by rw[t.1,hl],fun k y C=>?_⟩;have hk:k<args'.length:=(qk.1 C).1;have I:args[k]?=some (args[k]' zOm):=by rw[qA]
  exact hg k _ y I C G w.heap _ (t.2 k _ I)
 refine(h.2 G.imm w r s.bare p).mono fun e J ⟨g,a,R,hr,o,j,hb⟩=>?_
 have T:=qjK s G.imm g J (fun b h=>h) j hb (fun b h => .inl h);have l:EndR ⟨fun b=>G.imm b\/(g b/\w.heap.size<=b),G.blk⟩ J.heap a e:=hr.le ⟨fun b hi=>by
  grind,fun i x h=>by simp at h⟩
 refine⟨_,mu,T,?_⟩;cases a with
 |ret x=>obtain⟨v,o,j⟩:=l;exact .inl ⟨x,v,⟨R,rfl⟩,o,j⟩
 |pan x=>obtain⟨v,o,j⟩:=l;exact .inr ⟨x,v,⟨R,rfl⟩,o,j⟩
def RdE(mu:Mu):AEnd->AEnd->Prop
 | .ret x,.ret y=>Rd mu x y
 | .pan x,.pan y=>Rd mu x y
 |_,_=>False
theorem zl.of_sound(h:qD P f args [] fun e mu'=>∃ r,V r/\RdE mu' e r):zl P f args V:=by
 obtain⟨C,h⟩:=h;refine⟨C,fun l w vs hi ra=>?_⟩;refine(h ⟨l,[]⟩ w vs hi ra).mono fun e J ⟨R,mu',T,hR⟩=>?_
 have o:∀ b,¬Live ⟨l,[]⟩ [] b:=fun b ⟨i,c,t,hc,_⟩=>by simp at hc
 have fin:∀ a,V a->EndR ⟨fun b=>R.imm b\/Live R mu' b,[]⟩ J.heap a e->∃ g a,V a/\EndR ⟨g,[]⟩ J.heap a e/\(∀ b,l b->g b)/\(∀ b,g b->b<J.heap.size/\(l b\/w.heap.size<=b))/\Yq w.heap.size w J:=by
  intro a I hr;refine⟨fun b=>R.imm b\/Live R mu' b,a,I,hr,fun b p => .inl (T.le.imm b p),fun b p=>?_,⟨T.os,T.tape,T.output,T.size,fun k hk=>T.keep k hk (o k)⟩,T.drawn⟩;rcases p with p|p
  .refine ⟨T.sim.imm b p,?_⟩
   rcases T.inew b p with h|h|h
   .exact .inl h
   .grind
   omega
  .refine ⟨T.sim.livesize p,?_⟩
   rcases T.live b p with h|h
   .grind
   omega
 rcases hR with ⟨r',v,⟨r,I,j⟩,rfl,U⟩|⟨r',v,⟨r,I,j⟩,rfl,U⟩
 .cases r with
  |ret y=>exact fin _ I ⟨v,rfl,j.sound T.sim U⟩
  |pan y=>exact j.elim
 .cases r with
  |ret y=>exact j.elim
  |pan y=>exact fin _ I ⟨v,rfl,j.sound T.sim U⟩
@[go_sem] theorem RdE_ret:(∀ mu x y,RdE mu (.ret x) (.ret y)=Rd mu x y)/\(∀ mu x y,RdE mu (.pan x) (.pan y)=Rd mu x y):=by and_intros<;>intros<;>exact eqS rfl
theorem qh.gen(h:zl P g args' V)(j:WKs (first++args++caps) args')(p:∀ r,V (.ret r)->K r mu)(kp:∀ r,V (.pan r)->i r mu) :
  qh P false mu (.fn (.func g) first caps) args K i:=
 .inr ⟨rfl,.inl ⟨g,first,caps,_,rfl,h.toSound mu j,fun r m ⟨l,o⟩=>by grind,fun r m ⟨l,o⟩=>by grind⟩⟩
theorem fZ(j:qD P g args mu R)(k:∀ r m,R (.ret r) m->K r m)(kp:∀ r m,R (.pan r) m->i r m) :
  qh P false mu (.fn (.func g) [] []) args K i:=
 .inr ⟨rfl,.inl ⟨g,[],[],R,rfl,zUs j,k,kp⟩⟩
theorem kL{v}(h:qZ P g args' (.pan v))(j:WKs (first++args++caps) args')(kp:i v mu) :
  qh P false mu (.fn (.func g) first caps) args K i := .gen h j (fun r e=>by cases e) (fun r e=>by cases e;exact kp)
theorem qD.hid{i c}(C:mu[i]?=some c)(I:c ≠ .dead)(h:qD P f args (mu.set i .dead) R) :
  qD P f args mu fun e m=>∃ g,R e g/\g[i]?=some .dead/\m=g.set i c:=by
 refine⟨h.1,fun G w J s T=>?_⟩;have j:i<G.blk.length:=by rw[s.len];exact(qk.1 C).1
 refine(h.2 G w J (s.hid i) T).mono fun e w' ⟨U,g,t,hR⟩=>?_
 obtain⟨g1,g2,g3⟩:=t.unhid s C I (b:=(G.blk[i]'j).1) (t:=(G.blk[i]'j).2) (zP1 j);refine⟨U,g.set i c,g3,?_⟩;rcases hR with ⟨r,v,l,o,p⟩|⟨r,v,l,o,p⟩
 .exact .inl ⟨r,v,⟨g,l,g1,rfl⟩,o,p⟩
 .exact .inr ⟨r,v,⟨g,l,g1,rfl⟩,o,p⟩
theorem qD.monoR{R'}(h:qD P f args mu R)(k:∀ e m,R e m->R' e m):qD P f args mu R':=by
 refine⟨h.1,fun G w g s i=>(h.2 G w g s i).mono fun e J ⟨j,l,t,o⟩=>⟨j,l,t,?_⟩⟩;rcases o with ⟨r,v,p,C,I⟩|⟨r,v,p,C,I⟩
 .grind
 grind
attribute [go_sem] Z0
def Uy(P:qb)(pl:Pol)(i:List ResultVar)(R:AEnd->Mu->Prop)(ops:Array zK)(g:Code)(st:St):Option (List zK×zK)->Prop
 |some (pre,o)=>awpS P pl false ops pre (fun st=>Z1 P pl i R o g st) (fun v st=>R (.pan v) st.mu) st
 |none=>awpS P pl false ops ops.toList (fun st=>awpD P pl i R g st) (fun v st=>R (.pan v) st.mu) st
@[go_sem ↓] theorem awpD_seq{i id g} :
  awpD P pl i R (.seq (.region id ops false) g) st=Uy P pl i R ops g st (Z0 ops):=by
 grind [Z0,awpD,Uy]
@[go_sem] theorem qw4{i g pre o} :
  Uy P pl i R ops g st (some (pre,o))=awpS P pl false ops pre (fun st=>Z1 P pl i R o g st) (fun v st=>R (.pan v) st.mu) st:=eqS rfl
@[go_sem] theorem qw5{i g} :
  Uy P pl i R ops g st none=awpS P pl false ops ops.toList (fun st=>awpD P pl i R g st) (fun v st=>R (.pan v) st.mu) st:=eqS rfl
theorem tK{p x args l ty pos r t d i}
  (C:st.ev x = .fn (.func g) first caps) (o:jh P g) (h:awp P pl i (Ux P p g (first++evs st.ev args.toList++caps) R) st) :
  Z1 P pl p R { dst:=d,op := .defer { callee := .value x,args:=args,argTypes:=l },type:=ty,pos:=pos,after:=r,guard:=t } i st:=
 ⟨x,args,l,g,first,caps,rfl,C,o,h⟩
@[go_sem] theorem PostD_ret:(∀{i},Ux P j g i R .ret st=jb P g i st.mu none fun mu'=>OptK (vh P ⟨st.tm,mu'⟩ j) fun r=>R (.ret r) mu')/\(∀{i v},Ux P j g i R (.pan v) st=jb P g i st.mu (some v) fun mu'=>OptK (vh P ⟨st.tm,mu'⟩ j) fun r=>R (.ret r) mu'):=by and_intros<;>intros<;>exact eqS rfl
theorem jb.mono{m R R'}(h:jb P g args mu m R)(k:∀ mu',R mu'->R' mu'):jb P g args mu m R':=
 ⟨h.1,fun G w i u s j l=>(h.2 G w i u s j l).mono fun e I J ⟨v,o,mu',p,r,t,C⟩=>⟨v,o,mu',p,r,t,k _ C⟩⟩
@[go_sem] theorem ofV_pnone:(ofV (.pointer none) = .sc (.pointer none))/\(ofV (.map none) = .sc (.map none)):=by and_intros<;>exact eqS rfl
theorem Rd.aggs{xs ys}(h:Rds mu xs ys):Rd mu (.agg xs) (.agg ys) := .agg _ _ h.get.1 h.get.2
end
end Go.Ev
namespace Go.Proofs.YtipbakanneogpaaGreatDoor
open Go Go.Ev Go.Proofs Tryz
namespace Y1
inductive Nd where
 |mk (op:Int) (name:tP) (n:Int) (sD:List Nd) (pos:Int)
def Nd.op:Nd->Int | .mk o _ _ _ _=>o
def Nd.name:Nd->tP | .mk _ s _ _ _=>s
def Nd.n:Nd->Int | .mk _ _ n _ _=>n
def Nd.sD:Nd->List Nd | .mk _ _ _ ks _=>ks
def Nd.pos:Nd->Int | .mk _ _ _ _ p=>p
abbrev aS(s:tP):AV := .sc (.string s)
mutual
def cNd:Nd->List AV
 | .mk op o n ks p=>[aI op,aS o,aI n,.lst false (cNds ks),aI p]
def cNds:List Nd->List (List AV)
 | []=>[]
 |k :: ks=>cNd k :: cNds ks
end
theorem XL:∀ ks,cNds ks=ks.map cNd
 | []=>by simp[cNds]
 |k :: ks=>by simp[cNds,XL ks]
theorem yp(n):cNd n=[aI n.op,aS n.name,aI n.n,.lst false (n.sD.map cNd),aI n.pos]:=by
 obtain⟨op,o,k,ks,p⟩:=n;simp[cNd,XL,Nd.op,Nd.name,Nd.n,Nd.sD,Nd.pos]
@[go_sem] theorem YI(n):(cNd n).length=5:=by rw[yp];rfl
@[go_sem] theorem qjL(n):(cNd n).take 5=cNd n:=z6 (by rw[YI];exact qr _)
@[go_sem] theorem YJ(n):(cNd n).all AV.one=true:=by rw[yp];rfl
@[go_sem] theorem zi(n):(∀ x,x∈cNd n->x.one=true)=True:=eq_true fun x g=>by have:=zF.1 (YJ n) x g;simpa using this
@[go_sem] theorem cNd_f0(n):(cNd n).take 1=[aI n.op]:=by rw[yp];rfl
@[go_sem] theorem cNd_f1t(n):(cNd n).tail.take 1=[aS n.name]:=by rw[yp];rfl
@[go_sem] theorem cNd_f2(n):((cNd n).drop 2).take 1=[aI n.n]:=by rw[yp];rfl
@[go_sem] theorem cNd_f3(n):((cNd n).drop 3).take 1=[.lst false (n.sD.map cNd)]:=by rw[yp];rfl
@[go_sem] theorem nX(n):((cNd n).drop 4).take 1=[aI n.pos]:=by rw[yp];rfl
@[go_sem high] theorem put_cNd(z o n):putCells z o (cNd n)=z.take o++(cNd n++z.drop (o+5)):=by
 rw[yp];simp[putCells]
abbrev eNd(n:Nd):AV := .agg (cNd n)
abbrev lNd(ks:List Nd):AV := .lst false (ks.map cNd)
mutual
theorem vE:∀(n:Nd),∀ c,c∈cNd n->HF c
 | .mk op o n ks p=>by
  intro c g;simp only[cNd,qy,qG,or_false]at g;rcases g with rfl|rfl|rfl|rfl|rfl
  .exact HF.sc _
  .exact HF.sc _
  .exact HF.sc _
  .exact HF.lst (XM ks)
  .exact HF.sc _
theorem XM:∀(ks:List Nd),∀ r,r∈cNds ks->∀ c,c∈r->HF c
 | []=>by intro r g;simp[cNds]at g
 |k :: ks=>by
  intro r g;simp only[cNds,qy]at g;rcases g with rfl|g
  .exact vE k
  .exact XM ks r g
end
theorem qK(n):HF (eNd n):=HF.agg (vE n)
theorem Uz(ks):HF (lNd ks):=HF.lst (by rw[<-XL];exact XM ks)
abbrev jZ(e p:Int):AV := .ifc 200 (.agg [aI e,aI p])
theorem yL(e p):HF (jZ e p):=HF.ifc (HF.agg fun c g=>by simp at g;rcases g with rfl|rfl<;>exact HF.sc _)
theorem failU(e n):qZ qe 123 [aI e,eNd n] (.pan (jZ e n.pos)):=by
 refine zl.of_sound ?_;refine qSW call123 func123 rfl {} ?_;simp only[eNd,yp];simp[go_sem];exact⟨_,_,⟨rfl,rfl⟩,.hf _ (yL _ _)⟩
theorem zU(ok e n):qZ qe 74 [aB ok,aI e,eNd n] (if ok then .ret (.tup []) else .pan (jZ e n.pos)):=by
 refine zl.of_sound ?_;refine qSW call74 func74 rfl {} ?_;simp only[eNd];cases ok
 .simp [go_sem]
  refine kL (failU e n) (.zs (.zk (qK n) .nil)) ?_;simp[go_sem];exact .hf _ (yL _ _)
 .simp [go_sem]
  exact .hf _ (HF.tup zSp)
theorem qjM(mu b x y)(g:mu[b]?=some (.arr [x,y])):jb qe 116 [.ptr b 0] mu none fun mu'=>mu'=mu:=by
 refine jb.of_awp call116 func116 rfl ⟨_,_,_,_,rfl⟩ (ur zKr) zKr zKr (pl:={}) ?_;simp[go_sem]
theorem qjN(mu b x y e p)(g:mu[b]?=some (.arr [x,y])):jb qe 116 [.ptr b 0] mu (some (jZ e p)) fun mu'=>∃ c,mu'=mu.set b (.arr [aI e,aI p])++[c]:=by
 refine jb.of_awp call116 func116 rfl ⟨_,_,_,_,rfl⟩ (ur zKr) zKr zKr (pl:={}) ?_;have i:b<mu.length:=(qk.1 g).1;have j:∀ c:Cell,(mu++[c])[b]?=some (.arr [x,y]):=fun c=>by rw[qN i,g]
 have l:∀ c d:Cell,(mu++[c]).set b d=mu.set b d++[c]:=fun c d=>List.set_append_left b d i
 simp[go_sem,j,l]
theorem nY{g caps mu R}(h:qD qe g caps (mu++[.dead]) R)(P:∀ v m,R (.pan v) m->∃ e p,v=jZ e p) :
  qD qe 71 [.fn (.func g) [] caps] mu fun e m=>∃ j c,(∃ l,m=j.set mu.length c++l)/\((∃ r,R (.ret r) j/\e = .ret (.agg [aI 0,aI 0]))\/∃ J p,R (.pan (jZ J p)) j/\e = .ret (.agg [aI J,aI p])):=by
 refine fQ call71 func71 rfl (ur zKr) zKr (pl:={}) ?_;simp[go_sem];refine tK (g:=116) (first:=[]) (caps:=[.ptr mu.length 0]) zSi call116 ?_;simp[go_sem];refine fH (qD.hid (i:=mu.length) (c := .arr [aI 0,aI 0]) zSp zSp (zUs h)) ?_ ?_
 .rintro r m ⟨j,t,C,rfl⟩
  have o:mu.length<j.length:=(qk.1 C).1;have I:(j.set mu.length (.arr [aI 0,aI 0]))[mu.length]?=some (.arr [aI 0,aI 0]):=qL o;simp[go_sem,o];refine jb.mono (qjM _ mu.length (aI 0) (aI 0) I) ?_;rintro _ rfl;simp[go_sem,o];exact⟨j,⟨_,[],(List.append_nil _).symm⟩,.inl ⟨r,t⟩⟩
 .rintro r m ⟨j,t,C,rfl⟩
  obtain⟨e,p,rfl⟩:=P _ _ t;have o:mu.length<j.length:=(qk.1 C).1;have I:(j.set mu.length (.arr [aI 0,aI 0]))[mu.length]?=some (.arr [aI 0,aI 0]):=qL o;simp[go_sem];refine jb.mono (qjN _ mu.length (aI 0) (aI 0) e p I) ?_;rintro _ ⟨c,rfl⟩;simp[go_sem,o];exact⟨j,⟨_,[c],rfl⟩,.inr t⟩
end Y1
namespace Y2
open Y1
abbrev aT(t:List Int):AV := .agg (t.map fun x => .sc (.int .i8 x))
structure Kd where
 ar:Int
 ts:List (List Int)
abbrev mKd(ts:List (List Int)):AV := .ims (ts.map fun t=>(aT t,aB true))
abbrev cKd(k:Kd):List AV:=[aI k.ar,mKd k.ts]
abbrev eKd(k:Kd):AV := .agg (cKd k)
theorem XN(t):HF (aT t):=HF.agg fun c g=>by
 obtain⟨x,_,rfl⟩:=qn.1 g;exact HF.sc _
theorem J0(ts):HF (mKd ts):=HF.ims fun p g=>by
 obtain⟨t,_,rfl⟩:=qn.1 g;exact⟨XN t,HF.sc _⟩
theorem ye(k):HF (eKd k):=HF.agg fun c g=>by
 simp at g;rcases g with rfl|rfl
 .exact HF.sc _
 .exact J0 _
theorem nZ(n):qi qe 232 [aI n] (eKd ⟨n,[]⟩):=by
 refine qSU call232 func232 rfl ?_;exact Rd.aggs ⟨.hf _ (HF.sc _),fL (es:=[]) (fs:=[]) rfl zSp zSp zSp zSp,trivial⟩
theorem j0{a b:tP}(h:¬a=b):(a.toList == b.toList)=false:=by
 cases g:(a.toList == b.toList) with
 |false=>rfl
 |true=>exact absurd (W7 (by rw[beq_toListBytes];exact g)) h
def aSc:List (tP×Kd)->AV
 | [] => .sc (.pointer none)
 |v :: s => .ip [aS v.1,aI v.2.ar,mKd v.2.ts,aSc s]
@[go_sem] theorem aSc_cells(s):(aSc s).cells=[aSc s]:=by cases s<;>rfl
@[go_sem] theorem aSc_one(s):(aSc s).one=true:=by cases s<;>rfl
theorem Qr:∀ s,HF (aSc s)
 | []=>HF.sc _
 |v :: s=>HF.ip fun c g=>by
  simp only[qy,qG,or_false]at g;rcases g with rfl|rfl|rfl|rfl
  .exact HF.sc _
  .exact HF.sc _
  .exact J0 _
  .exact Qr s
def jx(name:tP):List (tP×Kd)->List (tP×Kd)
 | []=>[]
 |v :: s=>if v.1=name then v :: s else jx name s
theorem findU(s name):qi qe 229 [aSc s,aS name] (aSc (jx name s)):=by
 refine qSU call229 func229 rfl ?_;refine cL (fun n T=>∃ r,n=r.length/\jx name r=jx name s/\T.tm 0=aSc r/\T.tm 1=aS name/\T.mu=[]) s.length ⟨s,rfl,rfl,rfl,rfl,rfl⟩ ?_;rintro n T ⟨r,rfl,i,j,o,l⟩;cases r with
 |nil =>
  simp[go_sem,aSc,j,l];rw[<-i];exact .zsc _
 |cons v r =>
  by_cases g:v.1=name
  .simp [go_sem,aSc,j,o,l,g]
   rw[<-i,jx,if_pos g];have:=Qr (v :: r);simp only[aSc,g]at this⊢;exact .hf _ this
  .simp [go_sem,aSc,j,o,l,j0 g]
   rw[jx,if_neg g]at i;exact⟨_,Nat.lt_succ_self _,r,rfl,i,rfl⟩
end Y2
namespace Y3
open Y2
def pad(l:List Int):List Int:=[l.getD 0 0,l.getD 1 0,l.getD 2 0]
abbrev i8s(l:List Int):List AV:=l.map fun x => .sc (.int .i8 x)
theorem qjO(l:List Int)(k g)(i:l.length<=3):(i8s (pad (l.take k))).set k (.sc (.int .i8 l[k]))=i8s (pad (l.take (k+1))):=by
 match l,i with
 | [],_=>simp at g
 | [a],_=>match k,g with|0,_=>rfl
 | [a,b],_=>match k,g with|0,_=>rfl|1,_=>rfl
 | [a,b,c],_=>match k,g with|0,_=>rfl|1,_=>rfl|2,_=>rfl
 |a :: b :: c :: d :: l,h=>simp at h
theorem n6(l):(pad l).length=3:=rfl
theorem qjP(l):(i8s (pad l)).take 3=i8s (pad l):=rfl
theorem wrap8{x}(h:0<=x/\x<128):IntKind.i8.wrap x=x:=by
 simp[IntKind.wrap,IntKind.signed,IntKind.bits];omega
@[go_sem] theorem findA_nil(P g k i):zw P g k [] i=some none:=eqS rfl
theorem ofU(l)(P:l.length<=3)(R:∀ x,x∈l->0<=x/\x<128):qi qe 210 [lI l] (eKd ⟨l.length,[pad l]⟩):=by
 refine qSU call210 func210 rfl ?_;refine qm.up l.length (fun k T=>T.tm 0=lI l/\T.tm 2 = .ptr 0 0/\T.tm 3 = .ptr 1 0/\T.tm 6=lI l/\T.tm 7=aI l.length/\T.tm 8=aI k/\T.mu=[.arr [aI 0,.sc (.map none)],.arr (i8s (pad (l.take k)))]) ?_ ?_
 .simp [go_sem,pad]
  done
 .rintro k T hk ⟨o,p,r,h6,t,C,I⟩
  by_cases he:k=l.length
  .subst he
   simp[go_sem,o,p,r,t,C,I,n6,qjP];exact Rd.aggs ⟨.hf _ (HF.sc _),fL (es:=[(aT (pad l),aB true)]) (fs:=[(aT (pad l),aB true)]) rfl zSp zSp zSp (fun x J=>by simp at J;subst J;exact⟨XN _,HF.sc _⟩),trivial⟩
  .have g:k<l.length:=by omega
   have i:(k:Int)<3:=zOm;have hw:=wrap8 (R l[k] zSp);have j:=qjO l k g P;simp[go_sem,o,p,r,h6,t,C,I,g,i,hw,n6,show k<=2 by omega,j];simp[IntKind.wrap,IntKind.signed,IntKind.bits];omega
end Y3
namespace Y4
end Y4
namespace P1
open Y1 Y2 Y3
section
abbrev Tp:=List Int
variable {a b:List Tp}
structure Pd where
 name:tP
 params:List (tP×Int)
 body:Nd
structure TS where
 sS:List (tP×Bool)
 sA:List Fld
 sT:List Pd
 sP:List (tP×Nd)
def ins(l:List Tp)(t:Tp):List Tp:=if t∈l then l else l++[t]
def uni(a b:List Tp):List Tp:=b.foldl ins a
theorem uW{l t x}:x∈ins l t↔x∈l\/x=t:=by
 grind [ins,id]
theorem ug{x}:x∈uni a b↔x∈a\/x∈b:=by
 unfold uni;induction b generalizing a with
 |nil=>simp
 |cons t b g =>
  rw[List.foldl_cons,g,uW,qy,or_assoc]
theorem YK{l t}(h:l.Nodup):(ins l t).Nodup:=by
 grind [ins,ZL]
theorem wD(h:a.Nodup):(uni a b).Nodup:=by
 unfold uni;induction b generalizing a with
 |nil=>exact h
 |cons t b g=>exact g (YK h)
def kOf(l:List Int):Kd:=⟨l.length,[pad l]⟩
def kSum(a b:Kd):Kd:=⟨a.ar,uni (uni [] a.ts) b.ts⟩
def conc(x:Tp)(n:Nat)(y:Tp)(m skip:Nat):Tp:=pad (x.take (n-skip)++(y.take m).drop skip)
def pairs(a b:List Tp):List (Tp×Tp):=a.flatMap fun x=>b.map fun y=>(x,y)
theorem YL{x y}:(x,y)∈pairs a b↔x∈a/\y∈b:=by
 simp[pairs]
def uX(n m:Nat)(a b:List Tp):List Tp:=uni [] ((pairs a b).filterMap fun q=>if q.1.getD (n-1) 0=q.2.getD 0 0 then some (conc q.1 n q.2 m 1) else none)
def zV(a b:Kd):Kd:=⟨a.ar+b.ar-2,uX a.ar.toNat b.ar.toNat a.ts b.ts⟩
def Qs(n m:Nat)(a b:List Tp):List Tp:=uni [] ((pairs a b).map fun q=>conc q.1 n q.2 m 0)
def uY(a b:Kd):Kd:=⟨a.ar+b.ar,Qs a.ar.toNat b.ar.toNat a.ts b.ts⟩
def cloN:Nat->Nat->Kd->Kd
 | 0,_,a=>a
 |f+1,n,a=>if n<a.ts.length then cloN f a.ts.length (kSum a (zV a a)) else a
def kClo(a:Kd):Kd:=cloN 70 0 a
def zH(ns g:Nat):Kd:=⟨g,(qu ns).map fun (i:Nat)=>pad (q9 g (i:Int))⟩
def YN(a b:Kd):Kd:=⟨a.ar,a.ts.filter fun t=>decide (t∈b.ts)⟩
def kTr(a:Kd):Kd:=⟨2,uni [] (a.ts.map fun t=>[t.getD 1 0,t.getD 0 0,0])⟩
def jj:tP:=⟨#[95,102,105,114,115,116]⟩
def vj:tP:=⟨#[95,110,101,120,116]⟩
def yS(fs:List Fld)(nm:tP):List Kd:=fs.filterMap fun f=>if f.name=nm then some (kOf f.sS) else none
def uy(i:Nat)(s:tP×Bool)(nm:tP):List Kd:=
 (if s.1=nm then [kOf [(i:Int)]] else [])++((if s.2=true/\s.1++jj=nm then [kOf [(i:Int)]] else [])++(if s.2=true/\s.1++vj=nm then [kOf [(i:Int),(i:Int)]] else []))
def yT:Nat->List (tP×Bool)->tP->List Kd
 |_,[],_=>[]
 |i,s :: r,o=>uy i s o++yT (i+1) r o
def means(ts:TS)(nm:tP):List Kd:=yS ts.sA nm++yT 0 ts.sS nm
structure Ck where
 ts:TS
 calls:Nat
 timed:List Bool
def zx(c:Ck)(nm:tP):Option Nat:=(c.ts.sT.take c.calls).findIdx? fun p=>decide (p.name=nm)
def yD(op:Int):Bool:=decide (op=5)||decide (op=48)||decide (op=49)||decide (op=50)||decide (op=51)
def zY(c:Ck)(op:Int)(nm:tP):Bool:=yD op||(decide (op=47)&&(match zx c nm with|some p=>c.timed.getD p false|none=>false))
mutual
def yH(c:Ck):Nd->Bool
 | .mk op o n ks p=>zY c op o||UA c ks
def UA(c:Ck):List Nd->Bool
 | []=>false
 |k :: ks=>yH c k||UA c ks
end
end
def tmsL(ts:TS):Nat->List Bool
 | 0=>[]
 |k+1=>tmsL ts k++(match ts.sT[k]? with|some p=>[yH ⟨ts,k,tmsL ts k⟩ p.body] | none=>[])
def mkCk(ts:TS)(g:Nat):Ck:=⟨ts,g,tmsL ts g⟩
abbrev Scp:=List (tP×Kd)
abbrev Dg:=Int×Int
abbrev Res:=Except Dg (Option Kd)
def jD(c:Ck)(s:Scp)(nm:tP)(pos:Int):Res:=
 match jx nm s with
 |v :: _ => .ok (some v.2)
 | []=>match means c.ts nm with
  | [] => .error (40,pos)
  | [k] => .ok (some k)
  |_ => .error (44,pos)
def uz(op:Int)(a b:Kd):Kd:=if op=6\/op=14 then kSum a b else if op=7 then YN a b else a
def binK(ns:Nat)(op:Int)(a:Kd):Kd:=if op=12 then kClo a else if op=13 then kSum (kClo a) (zH ns 2) else kTr a
def yq(ns:Nat)(op n pos:Int)(l:List (Option Kd)):Res:=
 if op=2 then .ok (some ⟨n,[]⟩)
 else if op=3 then .ok (some (zH ns 1))
 else if op=4 then .ok (some (zH ns 2))
 else match l with
  | [a]=>if op=5 then .ok a else match a with
   |some a=>if op=11\/op=12\/op=13 then (if a.ar=2 then .ok (some (binK ns op a)) else .error (42,pos)) else .ok none
   |none => .ok none
  | [some a,some b] =>
   if op=6\/op=14\/op=7\/op=8\/op=32\/op=33 then (if a.ar=b.ar then .ok (some (uz op a b)) else .error (42,pos))
   else if op=9 then (if 1<=a.ar+b.ar-2/\a.ar+b.ar-2<=3 then .ok (some (zV a b)) else .error (42,pos))
   else if op=10 then (if a.ar+b.ar<=3 then .ok (some (uY a b)) else .error (42,pos))
   else .ok none
  |_ => .ok none
def uA(i:Int)(k:Kd):Bool:=k.ts.all fun t=>decide (t.getD 0 0=i)
mutual
def exam(c:Ck)(s:Scp)(inn:Bool):Nd->Res
 | .mk op o n ks pos =>
  if (inn&&zY c op o)=true then .error (46,pos)
  else if op=1 then jD c s o pos
  else if op=47 then
   if (c.ts.sT.any fun p=>decide (p.name=o))=true then
    match zx c o with
    |none => .error (45,pos)
    |some p=>match c.ts.sT[p]? with
     |none => .error (45,pos)
     |some g=>if g.params.length=ks.length then yb c s pos g.params ks else .error (45,pos)
   else .error (40,pos)
  else if op=15\/op=45\/op=46 then yr c s (inn||decide (op=15)) o pos ks
  else match za c s (inn||decide (op=12)||decide (op=13)) ks with
   | .error e => .error e
   | .ok l=>yq c.ts.sS.length op n pos l
def za(c:Ck)(s:Scp)(inn:Bool):List Nd->Except Dg (List (Option Kd))
 | [] => .ok []
 |k :: ks=>match exam c s inn k with
  | .error e => .error e
  | .ok a=>match za c s inn ks with
   | .error e => .error e
   | .ok l => .ok (a :: l)
def yb(c:Ck)(s:Scp)(pos:Int):List (tP×Int)->List Nd->Res
 |_,[] => .ok none
 | [],_ => .ok none
 |p :: g,k :: ks=>match exam c s true k with
  | .error e => .error e
  | .ok none => .error (42,pos)
  | .ok (some a)=>if a.ar=1 then (if uA p.2 a=true then yb c s pos g ks else .error (43,pos)) else .error (42,pos)
def yr(c:Ck)(s:Scp)(inn:Bool)(nm:tP)(pos:Int):List Nd->Res
 | [] => .ok none
 |k :: ks=>match exam c s inn k with
  | .error e => .error e
  | .ok none => .error (42,pos)
  | .ok (some a)=>if a.ar=1 then (match za c ((nm,a) :: s) inn ks with
    | .error e => .error e
    | .ok _ => .ok (some a)) else .error (42,pos)
end
def zW(env:List (tP×Int)):Scp:=env.foldl (fun s p=>(p.1,kOf [p.2]) :: s) []
def dgOf:Res->Dg
 | .ok _=>(0,0)
 | .error e=>e
def jO(c:Ck)(env:List (tP×Int))(n:Nd):Dg:=if 30<=n.op then dgOf (exam c (zW env) false n) else (43,n.pos)
def yf(ts:TS)(env:List (tP×Int))(n:Nd):Dg:=jO (mkCk ts ts.sT.length) env n
end P1
end Go.Proofs.YtipbakanneogpaaGreatDoor
namespace Go.Ev
open Go
structure KeyT (P:qb) (kt:qc) {κ:Type} [DecidableEq κ] (kenc:κ->AV) (ok:κ->Prop):Prop where
 eq:∀ a b,ok a->ok b->jU P kt (kenc a) (kenc b)=some (decide (a=b))
 kok:∀ a,ok a->ju P kt (kenc a)=true
section
variable {κ α:Type} [DecidableEq κ]
def jc(k:κ):List (κ×α)->Nat->Option Nat
 | [],_=>none
 |e :: U,i=>if k=e.1 then some i else jc k U (i+1)
def getK(k:κ):List (κ×α)->Option α
 | []=>none
 |e :: U=>if k=e.1 then some e.2 else getK k U
def setK(k:κ)(v:α):List (κ×α)->List (κ×α)
 | []=>[(k,v)]
 |e :: U=>if k=e.1 then (k,v) :: U else e :: setK k v U
theorem UB{k}:∀{es:List (κ×α)}{i j},jc k es i=some j->∃ n v,j=i+n/\es[n]?=some (k,v)/\getK k es=some v
 | [],_,_,h=>by simp[jc]at h
 |e :: es,i,j,h=>by
  unfold jc at h;unfold getK;split at h
  .simp_all
  .rename_i g
   obtain⟨n,v,rfl,l,o⟩:=UB h;exact⟨n+1,v,zOm,zUs l,by rw[if_neg g];exact o⟩
theorem UC{k}:∀{es:List (κ×α)}{i},jc k es i=none->getK k es=none/\∀ v,setK k v es=es++[(k,v)]
 | [],_,_=>⟨rfl,fun _=>rfl⟩
 |e :: es,i,h=>by
  unfold jc at h;split at h
  .grind
  .rename_i g
   obtain⟨j,l⟩:=UC h;simp_all[getK,if_neg,setK,yP]
theorem XP{k v}:∀{es:List (κ×α)}{i n},jc k es i=some (i+n)->setK k v es=es.set n (k,v)
 | [],_,_,h=>by simp[jc]at h
 |e :: es,i,n,h=>by
  unfold jc at h;split at h
  .simp_all [qv,setK]
  .rename_i g
   obtain⟨m,l,o,_⟩:=UB h;have:n=m+1:=zOm;subst this;have j:jc k es (i+1)=some (i+1+m):=by rw[h,Nat.add_assoc,Nat.add_comm 1 m]
   simp only[setK,if_neg g,XP (v:=v) j,List.set_cons_succ]
theorem n7{k v}:∀{es:List (κ×α)}{x},x∈(setK k v es).map Prod.fst↔x=k\/x∈es.map Prod.fst
 | [],x=>by simp[setK]
 |e :: es,x=>by
  unfold setK;split
  .rename_i g;subst g;simp
  .simp only[z7,qy,n7]
   constructor
   .rintro (h|h|h)
    .exact .inr (.inl h)
    .exact .inl h
    .exact .inr (.inr h)
   .rintro (h|h|h)
    .exact .inr (.inl h)
    .exact .inl h
    .exact .inr (.inr h)
theorem wE{k v}:∀{es:List (κ×α)},(es.map Prod.fst).Nodup->((setK k v es).map Prod.fst).Nodup
 | [],_=>by simp[setK]
 |e :: es,h=>by
  unfold setK;split
  .rename_i g;subst g;simpa using h
  .rename_i g
   rw[z7,vP]at h⊢;exact⟨fun i=>(n7.1 i).elim (fun e=>g e.symm) h.1,wE h.2⟩
theorem j5{k x v}:∀{es:List (κ×α)},getK x (setK k v es)=if x=k then some v else getK x es
 | []=>by simp[setK,getK]
 |e :: es=>by
  unfold setK;split
  .grind [getK]
  .rename_i i
   by_cases g:x=e.1
   .have:x≠k:=fun h=>i (by rw[<-h,g])
    rw[if_neg this];simp[getK,g]
   .simp only[getK,if_neg g,j5]
theorem Zq{k v}:∀{es:List (κ×α)},(es.map Prod.fst).Nodup->(getK k es=some v↔(k,v)∈es)
 | [],_=>by simp[getK]
 |e :: es,h=>by
  rw[z7,vP]at h;unfold getK;by_cases g:k=e.1
  .rw [if_pos g]
   subst g;refine⟨fun h=>?_,fun j=>?_⟩
   .cases h;exact zg
   .rcases qy.1 j with i|i
    .rw [<-i]
    grind
  .rw [if_neg g,Zq h.2,qy]
   exact⟨.inr,fun h=>h.elim (fun e=>absurd (congrArg Prod.fst e) g) id⟩
def delK(k:κ):List (κ×α)->List (κ×α)
 | []=>[]
 |e :: U=>if k=e.1 then U else e :: delK k U
theorem XQ{k}:∀{es},(es.map Prod.fst).Nodup->∀{x:κ×α},x∈delK k es↔x∈es/\x.1≠k
 | [],_,x=>by simp[delK]
 |e :: es,h,x=>by
  rw[z7,vP]at h;unfold delK;by_cases g:k=e.1
  .rw [if_pos g]
   refine⟨fun j=>⟨List.mem_cons_of_mem _ j,fun l=>?_⟩,fun j=>?_⟩
   .grind
   grind
  .rw [if_neg g,qy,qy,XQ h.2]
   refine⟨fun i=>?_,fun i=>?_⟩
   .rcases i with rfl|i
    .exact ⟨.inl rfl,fun e=>g e.symm⟩
    grind
   grind
theorem XS{k}:∀{es:List (κ×α)},(delK k es).Sublist es
 | []=>by simp[delK]
 |e :: es=>by
  unfold delK;split
  .exact List.sublist_cons_self _ _
  .exact XS.cons_cons _
theorem Z2{k}{es:List (κ×α)}(h:(es.map Prod.fst).Nodup):((delK k es).map Prod.fst).Nodup:=h.sublist (XS.map _)
theorem wF{k x}:∀{es:List (κ×α)},(es.map Prod.fst).Nodup->getK x (delK k es)=if x=k then none else getK x es
 | [],_=>by simp[delK,getK]
 |e :: es,h=>by
  rw[z7,vP]at h;unfold delK;by_cases i:k=e.1
  .rw [if_pos i]
   by_cases g:x=k
   .rw [if_pos g]
    cases j:getK x es with
    |none=>rfl
    |some v=>exact absurd (qn.2 ⟨_,(Zq h.2).1 j,by rw[g,i]⟩) h.1
   simp_all[if_neg,getK]
  .rw [if_neg i]
   by_cases g:x=e.1
   .have:x≠k:=fun l=>i (by rw[<-l,g])
    rw[if_neg this];simp[getK,g]
   simp_all[getK,if_neg,wF]
theorem n8{k}:∀{es:List (κ×α)}{i},(match jc k es i with|some j=>es.eraseIdx (j-i)|none=>es)=delK k es
 | [],i=>by simp[jc,delK]
 |e :: es,i=>by
  unfold jc delK;by_cases g:k=e.1
  .simp [g]
  .rw [if_neg g,if_neg g,<-n8 (i:=i+1)]
   cases l:jc k es (i+1) with
   |none=>rfl
   |some j =>
    obtain⟨n,v,o,_⟩:=UB l;simp only;rw[show j-i=(j-(i+1))+1 by omega,List.eraseIdx_cons_succ]
abbrev encK(g:κ->AV)(venc:α->AV)(es:List (κ×α)):List (AV×AV):=es.map fun e=>(g e.1,venc e.2)
variable {P:qb} {kt:qc} {kenc:κ->AV} {ok:κ->Prop} {venc:α->AV}
theorem KeyT.find(h:KeyT P kt kenc ok){k}(g:ok k):∀{es i},(∀ e,e∈es->ok e.1)->zw P kt (kenc k) (encK kenc venc es) i=some (jc k es i)
 | [],i,_=>rfl
 |e :: es,i,j=>by
  simp only[encK,z7,zw,h.eq k e.1 g (j e zSp),jc];by_cases l:k=e.1
  .simp [l]
  .simp only[l,decide_false,if_false]
   exact KeyT.find h g (fun e o=>j e (zP1 o))
theorem KeyT.update(h:KeyT P kt kenc ok){et t}(l:mapT P t=some (kt,et)){mu b es}(o:mu[b]?=some (.mp (encK kenc venc es))){k v}(g:ok k)(p:∀ e,e∈es->ok e.1) :
  jV P mu t (.mp b) (kenc k) (venc v)=some (mu.set b (.mp (encK kenc venc (setK k v es)))):=by
 simp only[jV,l,o,h.kok k g,if_true,h.find (venc:=venc) g p,zq];cases i:jc k es 0 with
 |none=>simp only[Yt,(UC i).2 v,encK,ze,z7,List.map_nil]
 |some j =>
  have r:jc k es 0=some (0+j):=by rw[i,yj]
  simp only[Yt,XP (v:=v) r,encK,List.map_set]
theorem KeyT.updateD(h:KeyT P kt kenc ok){et t}(l:mapT P t=some (kt,et)){mu b es}(o:mu[b]?=some (.md (encK kenc venc es))){k v}(g:ok k)(p:∀ e,e∈es->ok e.1) :
  jV P mu t (.mp b) (kenc k) (venc v)=some (mu.set b (.md (encK kenc venc (setK k v es)))):=by
 simp only[jV,l,o,h.kok k g,if_true,h.find (venc:=venc) g p,zq];cases i:jc k es 0 with
 |none=>simp only[Yt,(UC i).2 v,encK,ze,z7,List.map_nil]
 |some j =>
  have r:jc k es 0=some (0+j):=by rw[i,yj]
  simp only[Yt,XP (v:=v) r,encK,List.map_set]
theorem n9{g j:Type}(f:g->j):∀(l:List g)(i),(l.map f).eraseIdx i=(l.eraseIdx i).map f
 | [],_=>rfl
 |x :: l,0=>rfl
 |x :: l,i+1=>by simp[n9 f l i]
theorem KeyT.delete(h:KeyT P kt kenc ok){et t l}(o:mapT P t=some (kt,et)){mu b es}(p:mu[b]?=some (.mp (encK kenc venc es))){k}(g:ok k)(r:∀ e,e∈es->ok e.1){K}
  (C:K (.tup []) (mu.set b (.md (encK kenc venc (delK k es))))):uP P mu .delete #[t,l] [.mp b,kenc k] K:=by
 refine qjE o p (h.kok k g) (h.find (venc:=venc) g r) ?_;have:=n8 (k:=k) (es:=es) (i:=0);rw[<-this]at C;cases I:jc k es 0 with
 |none=>grind [delE]
 |some j =>
  simp_all[Nat.sub_zero,delE,encK,n9]
theorem KeyT.look(h:KeyT P kt kenc ok){et t}(l:mapT P t=some (kt,et)){mu m es}(o:ve mu m=some (encK kenc venc es)){k}(g:ok k)(p:∀ e,e∈es->ok e.1){z}(r:qB P et=some z)(b) :
  jC P mu t m (kenc k) b=some (match getK k es with|some v=>if b then .tup [venc v,.sc (.bool true)] else venc v|none=>if b then .tup [z,.sc (.bool false)] else z):=by
 simp only[jC,l,o,h.kok k g,if_true,h.find (venc:=venc) g p];cases i:jc k es 0 with
 |none=>simp only[(UC i).1,r,zq]
 |some j =>
  obtain⟨n,v,C,I,J⟩:=UB i
  grind
theorem KeyT.lookS(h:KeyT P kt kenc ok){et t}(g:mapT P t=some (kt,et)){mu es k}(j:ok k)(i:∀ e,e∈es->ok e.1){z}(l:qB P et=some z)(b) :
  yB P mu t (.ims (encK kenc venc es)) (kenc k) b=some (match getK k es with|some v=>if b then .tup [venc v,.sc (.bool true)] else venc v|none=>if b then .tup [z,.sc (.bool false)] else z):=by
 have o:(encK kenc venc es).all (fun e=>ju P kt e.1)=true:=zF.2 fun e p=>by
  obtain⟨x,r,rfl⟩:=qn.1 p;exact h.kok _ (i x r)
 simp only[yB,g,o,if_true];exact h.look g (m := .im _) rfl j i l b
end
def UD(n:Nat)(J:List Nat->St->Prop)(seen:List Nat)(Q:qX->St->Prop):qX->St->Prop
 | .normal,T=>∃ i,i<n/\i ∉ seen/\Keep (J (seen++[i])) .mk T
 |e,T=>Q e T
section
variable (n:Nat) (J:List Nat->St->Prop) (seen:List Nat) (Q:qX->St->Prop) (st:St)
@[go_sem ↓] theorem qw6:(UD n J seen Q .normal st=∃ i,i<n/\i ∉ seen/\Keep (J (seen++[i])) .mk st)/\(∀ i,UD n J seen Q (.exit i) st=Q (.exit i) st)/\(∀ v,UD n J seen Q (.pan v) st=Q (.pan v) st):=by and_intros<;>intros<;>exact eqS rfl
end
section
variable {st:St}{Q:qX->St->Prop}
theorem XT:∀(n)(l:List Nat),l.Nodup->(∀ i,i∈l->i<n)->l.length<=n
 | 0,l,_,h=>by
  cases l with
  |nil=>simp
  |cons a l=>exact absurd (h a zSp) zOm
 |n+1,l,g,h=>by
  have j:=XT n (l.erase n) (g.erase n) (fun i o=>by
   have r:=h i (List.mem_of_mem_erase o);have t:i≠n:=fun e=>by
    subst e;exact(List.Nodup.not_mem_erase g) o
   omega)
  by_cases p:n∈l
  .rw [List.length_erase_of_mem p]at j;omega
  .rw [List.erase_of_not_mem p]at j;omega
theorem qjQ{n i seen}(o:seen.Nodup)(p:∀ j,j∈seen->j<n)(r:i<n)(t:i ∉ seen):(seen++[i]).Nodup/\(∀ j,j∈seen++[i]->j<n)/\n-(seen++[i]).length<n-seen.length:=by
 have g:(seen++[i]).Nodup:=by
  grind
 have l:∀ j,j∈seen++[i]->j<n:=by
  grind
 refine⟨g,l,?_⟩;have:=XT n _ g l;simp at this⊢;omega
theorem qm.seen{P pl body}(n J)(o:J [] st)(h:∀ seen st,seen.Nodup->(∀ i,i∈seen->i<n)->J seen st->awp P pl body (UD n J seen Q) st):qm P pl body Q st:=by
 refine cL (fun m st=>∃ seen,m=n-seen.length/\seen.Nodup/\(∀ i,i∈seen->i<n)/\J seen st) n ⟨[],zSp,zSp,zSp,o⟩ ?_;rintro m st ⟨seen,rfl,j,l,p⟩;refine awp.mono body (h seen st j l p) (fun e st g=>?_);cases e with
 |normal =>
  obtain⟨i,r,t,C⟩:=g;obtain⟨I,R,T⟩:=qjQ j l r t;exact⟨_,T,seen++[i],rfl,I,R,C⟩
 |exit i=>exact g
 |ret=>exact g
 |pan v=>exact g
theorem aK{P pl body}(N)(I:Nat->St->Prop)(g:I 0 st)(h:∀ k st,k<=N->I k st->awp P pl body (upQ (fun k=>Keep (I k) .mk) N k Q) st):qm P pl body Q st:=
 qm.up N (fun k=>Keep (I k) .mk) g h
theorem aA{p}(h:p st):Keep p .mk st:=h
theorem qjR{m:Mu}{a}(i:m[0]?=some a):∃ g,m=a :: g:=by
 match m,i with
 |a :: g,i=>grind
end
end Go.Ev
namespace Go.Proofs.YtipbakanneogpaaGreatDoor
open Go Go.Ev Go.Proofs Tryz
namespace YM
open Y1 Y2 Y3 P1
def okT(t:Tp):Prop:=t.length=3
theorem mc:∀ a b,a.length=b.length->aEqs (i8s a) (i8s b)=some (decide (a=b))
 | [],[],_=>rfl
 |x :: a,y :: b,h=>by
  have g:=mc a b (zUs h);simp only[i8s,z7,aEqs]at g⊢;simp only[g];by_cases i:x=y<;>simp[i]
 | [],_ :: _,h=>by simp at h
 |_ :: _,[],h=>by simp at h
theorem keyT:KeyT qe 313 aT okT:=by
 refine⟨fun a b g i=>?_,fun a g=>?_⟩
 .simp_all [go_sem,okT,mc]
 simp_all[go_sem,okT]
theorem keyS:KeyT qe 9 aS (fun _=>True):=by
 refine⟨fun a b _ _=>?_,fun a _=>zSi⟩;simp[go_sem];by_cases h:a=b
 .subst h
  rw[decide_eq_true rfl];have:(a.data == a.data)=true:=beq_self_eq_true _;exact this
 grind [decide_eq_false,absurd,W7]
abbrev eT(l:List Tp):List (AV×AV):=l.map fun t=>(aT t,aB true)
theorem XU(l):eT l=encK aT aB (l.map fun t=>(t,true)):=by simp[eT,encK]
theorem qjS(l t):setK t true (l.map fun t=>(t,true))=(ins l t).map fun t=>(t,true):=by
 unfold ins;induction l with
 |nil=>simp[setK]
 |cons x l g =>
  by_cases h:t=x
  .grind [setK]
  .simp only[z7,setK,h,if_false,g,qy,false_or]
   grind
theorem updT{mu b l}(i:mu[b]?=some (.mp (eT l))){t}(j:okT t)(p:∀ x,x∈l->okT x) :
  jV qe mu 258 (.mp b) (aT t) (aB true)=some (mu.set b (.mp (eT (ins l t)))):=by
 have:=keyT.update (et:=4) (t:=258) zSi (mu:=mu) (b:=b) (venc:=aB) (es:=l.map fun t=>(t,true)) (by rw[i,XU]) (k:=t) (v:=true) j (fun e o=>by
  obtain⟨x,C,rfl⟩:=qn.1 o
  grind)
 rw[this,qjS,<-XU]
theorem qjT(l:List Tp)(t):getK t (l.map fun t=>(t,true))=if t∈l then some true else none:=by
 induction l with
 |nil=>rfl
 |cons x l g =>
  by_cases h:t=x
  .grind [getK]
  simp_all[z7,getK,if_false,qy,false_or]
theorem lookT{mu l t}(i:okT t)(o:∀ x,x∈l->okT x) :
  yB qe mu 258 (.ims (eT l)) (aT t) false=some (aB (decide (t∈l))):=by
 have:=keyT.lookS (et:=4) (t:=258) zSi (mu:=mu) (venc:=aB) (es:=l.map fun t=>(t,true)) (k:=t) i (fun e j=>by
  obtain⟨x,r,rfl⟩:=qn.1 j
  grind) (z:=aB false) zSi false
 grind [XU,qjT]
end YM
namespace Y5
open Y2 Y3 P1 YM
theorem Z3{l}{i:Nat}{e}(h:(eT l)[i]?=some e):∃ x,l[i]?=some x/\e=(aT x,aB true):=by
 rw[zn,Option.map_eq_some_iff]at h;obtain⟨x,g,rfl⟩:=h
 grind
theorem me(a b:Kd)(g caps mu)(I:(Tp->Tp->Prop)->Mu->Prop)(h0:I (fun _ _=>False) mu)
  (hS:∀ S p a2,(∀ i,i<mu.length->a2[i]?=p[i]?)->I S p->I S a2) (ha:∀ x,x∈a.ts->okT x) (hb:∀ x,x∈b.ts->okT x)
  (hf:∀ S x y p,x∈a.ts->y∈b.ts->mu.length<=p.length->I S p->qD qe g ([aT x,aT y]++caps) p fun e m=>e = .ret (.tup [])/\I (fun u v=>S u v\/(u=x/\v=y)) m/\p.length<=m.length/\∀ i,mu.length<=i->i<p.length->m[i]?=p[i]?) :
  qD qe 258 [eKd a,eKd b,.fn (.func g) [] caps] mu fun e m=>e = .ret (.tup [])/\I (fun u v=>u∈a.ts/\v∈b.ts) m/\mu.length<=m.length:=by
 refine qSW call258 func258 rfl {} ?_;simp[go_sem];refine qm.seen a.ts.length (fun seen T=>T.tm 2 = .fn (.func g) [] caps/\T.tm 4 = .ip (cKd b)/\T.tm 10 = .ptr mu.length 0/\mu.length<T.mu.length/\T.mu[mu.length]?=some (.it (eT a.ts) seen)/\I (fun u v=>(∃ i,i∈seen/\a.ts[i]?=some u)/\v∈b.ts) T.mu) ?_ ?_
 .simp [go_sem]
  grind
 .rintro seen T ak al ⟨e2,e4,U,hl,a7,hI⟩
  simp[go_sem,U];refine⟨mu.length,eT a.ts,seen,rfl,a7,fun i e hi a8=>?_,fun a3=>?_⟩
  .obtain ⟨x,hx,rfl⟩:=Z3 hi
   have a4:x∈a.ts:=zb hx;have a9:x.length=3:=ha x a4;have aa:i<a.ts.length:=(qk.1 hx).1;obtain⟨x0,x1,x2,rfl⟩:∃ x0 x1 x2,x=[x0,x1,x2]:=by
    match x,a9 with
    | [x0,x1,x2],_=>simp
   have an:∀(k:Nat)(c:Cell),k<mu.length->(T.mu.set mu.length c)[k]?=T.mu[k]?:=fun k c C=>zGl
   have ao:(T.mu.set mu.length (.it (eT a.ts) (seen++[i])))[mu.length]?=some (.it (eT a.ts) (seen++[i])):=qL hl;simp[go_sem,e4,U,hi,hl];refine qm.seen b.ts.length (fun sb o=>o.tm 2 = .fn (.func g) [] caps/\o.tm 4 = .ip (cKd b)/\o.tm 10 = .ptr mu.length 0/\o.tm 6 = .ptr T.mu.length 0/\o.tm 17 = .ptr (T.mu.length+1) 0/\T.mu.length+1<o.mu.length /\
    o.mu[mu.length]?=some (.it (eT a.ts) (seen++[i]))/\o.mu[T.mu.length]?=some (.arr (i8s [x0,x1,x2]))/\o.mu[T.mu.length+1]?=some (.it (eT b.ts) sb) /\
    I (fun u v=>((∃ i,i∈seen/\a.ts[i]?=some u)/\v∈b.ts)\/(u=[x0,x1,x2]/\∃ j,j∈sb/\b.ts[j]?=some v)) o.mu) ?_ ?_
   .simp [go_sem,e2,e4,U]
    grind
   .rintro sb o ai aj ⟨f2,f4,f10,f6,f17,a0,g1,g2,g3,a5⟩
    simp[go_sem,f17];refine⟨T.mu.length+1,eT b.ts,sb,rfl,g3,fun j e hj ab=>?_,fun a1=>?_⟩
    .obtain ⟨y,hy,rfl⟩:=Z3 hj
     have a6:y∈b.ts:=zb hy;have ad:y.length=3:=hb y a6;have ae:j<b.ts.length:=(qk.1 hy).1;obtain⟨y0,y1,y2,rfl⟩:∃ y0 y1 y2,y=[y0,y1,y2]:=by
      match y,ad with
      | [y0,y1,y2],_=>simp
     have J:∀(c:Cell)(l:List Cell)(k:Nat),k<o.mu.length->k≠T.mu.length+1->((o.mu.set (T.mu.length+1) c)++l)[k]?=o.mu[k]?:=fun c l k h1 h2=>by
      grind
     have af:=fun c l=>(J c l T.mu.length zOm zOm).trans g2
     simp[go_sem,f2,f6,f17,hj,a0,af];refine fH (hf _ [x0,x1,x2] [y0,y1,y2] _ a4 a6 ?_ (hS _ o.mu _ (fun k C=>J _ _ k zOm zOm) a5)) ?_ ?_
     .simp;omega
     .rintro r m ⟨e,ag,ah,R⟩
      cases e;simp only[List.length_append,List.length_set,zG,List.length_nil]at ah R;simp[go_sem];refine⟨j,ae,ab,?_⟩;simp[Keep,go_sem,f2,f4,f10,f6,f17];refine⟨zOm,?_,?_,?_,?_⟩
      .rw [R _ zOm zOm,J _ _ _ zOm zOm,g1]
      .rw [R _ zOm zOm,J _ _ _ zOm zOm];exact g2
      .rw [R _ zOm zOm,qN (zUs a0),qL a0]
      .refine cast (congrArg (fun S=>I S m) ?_) ag
       funext u v;refine propext ⟨?_,?_⟩
       .rintro ((h|⟨rfl,k,C,t⟩)|⟨rfl,rfl⟩)
        .exact .inl h
        .exact .inr ⟨rfl,.inl ⟨k,C,t⟩⟩
        .exact .inr ⟨rfl,.inr hy⟩
       .rintro (h|⟨rfl,⟨k,C,t⟩|t⟩)
        .exact .inl (.inl h)
        .exact .inl (.inr ⟨rfl,k,C,t⟩)
        .rw [hy]at t;cases t
         exact .inr ⟨rfl,rfl⟩
     grind
    .simp [go_sem]
     refine⟨i,aa,a8,?_⟩;simp[Keep,go_sem,f2,f4,f10];refine⟨zOm,g1,cast (congrArg (fun S=>I S o.mu) ?_) a5⟩;funext u v;refine propext ⟨?_,?_⟩
     .rintro (⟨⟨k,C,P⟩,t⟩|⟨rfl,k,C,t⟩)
      .exact ⟨.inl ⟨k,C,P⟩,t⟩
      .exact ⟨.inr hx,zb t⟩
     .rintro ⟨⟨k,C,P⟩|P,t⟩
      .exact .inl ⟨⟨k,C,P⟩,t⟩
      .rw [hx]at P;cases P
       obtain⟨j,hj⟩:=List.mem_iff_getElem?.1 t;exact .inr ⟨rfl,j,a1 j (by simpa using (qk.1 hj).1),hj⟩
  .simp [go_sem]
   refine⟨cast (congrArg (fun S=>I S T.mu) ?_) hI,zOm⟩;funext u v;refine propext ⟨?_,?_⟩
   .rintro ⟨⟨k,C,P⟩,t⟩
    exact⟨zb P,t⟩
   .rintro ⟨P,t⟩
    obtain⟨k,C⟩:=List.mem_iff_getElem?.1 P;exact⟨⟨k,a3 k (by simpa using (qk.1 C).1),C⟩,t⟩
end Y5
namespace Y6
open Y2 Y3 P1 YM Y5
section
variable {c z:Cell}{a b l:List Tp}{m:Nat}{f:Tp->Tp->Option Tp}{S:Tp->Tp->Prop}
abbrev r8(x:Int):List AV:=[.sc (.int .i8 x)]
theorem Zr(xs:List Int):zo 1 (xs.map r8):=fun r g=>by
 obtain⟨n,_,rfl⟩:=qn.1 g;exact⟨rfl,rfl⟩
theorem qjU(full)(xs:List Int)(p:xs.length<=1000)(mu):qD qe 271 [.lst full (xs.map r8)] mu fun e m=>∃ av,e = .ret av/\OwnF mu.length m 1 av (xs.map r8)/\∀ i,i<mu.length->m[i]?=mu[i]?:=by
 refine qSW call271 func271 rfl {} ?_;cases xs with
 |nil =>
  simp[go_sem];refine⟨OwnF.nil (qr _),?_⟩;refine qz.ownF (lo:=mu.length) (e:=311) (sz:=1) (bt:=1) (zv := .sc (.int .i8 0)) (xs:=[]) (ys:=[]) zSi zSi zSi rfl rfl zOm zOm (OwnF.nil (qr _)) (by simp[qE]) (Zr []) (Zr []) zSp ?_;simp_all[go_sem]
 |cons x xs =>
  simp[go_sem];refine qz.ownF (lo:=mu.length) (e:=311) (sz:=1) (bt:=1) (zv := .sc (.int .i8 0)) (xs:=[]) (ys:=(x :: xs).map r8) zSi zSi zSi rfl rfl zOm zOm (OwnF.nil (qr _)) (by simp[qE]) (Zr []) (Zr _) (by grind) ?_;simp_all[go_sem]
theorem put3(zs):putCells [.sc (.int .i8 0),.sc (.int .i8 0),.sc (.int .i8 0)] 0 ((zs.map r8).take 3).flatten=i8s (pad zs):=by
 match zs with
 | []=>rfl
 | [a]=>rfl
 | [a,b]=>rfl
 |a :: b :: c :: l=>simp[putCells,pad]
theorem mf(x y)(n m s:Nat)(hx:okT x)(hy:okT y)(hn:s<=n)(a0:n-s<=3)(hm:s<=m)(a3:m<=3)(hs:s<=1):qi qe 260 [aT x,aI n,aT y,aI m,aI s] (aT (conc x n y m s)):=by
 unfold okT at hx hy;refine qSV call260 func260 rfl ?_;obtain⟨l,o,p,rfl⟩:∃ l o p,x=[l,o,p]:=by
  match x,hx with
  | [l,o,p],_=>simp
 obtain⟨C,I,R,rfl⟩:∃ C I R,y=[C,I,R]:=by
  match y,hy with
  | [C,I,R],_=>simp
 obtain⟨d,rfl⟩:∃ d,n=d+s:=⟨n-s,zOm⟩;have hd:d+s-s=d:=zOm;rw[hd]at a0;simp[go_sem];refine fD [0,1,2,3,4,6,7,8,5,9,10] [(0,0,[]),(1,0,[]),(2,0,[]),(3,0,[]),(4,0,[]),(6,0,[]),(7,0,[]),(8,0,[]),(5,1,[]),(9,1,[]),(10,1,[])] zKr zKr zSi ?_;have w1:qq.wrap (d:Int)=(d:Int):=zWr;have a1:(List.take d [[AV.sc (.int .i8 l)],[.sc (.int .i8 o)],[.sc (.int .i8 p)]])=([l,o,p].take d).map r8:=by rw[List.map_take];rfl
 have a2:(List.drop s (List.take m [[AV.sc (.int .i8 C)],[.sc (.int .i8 I)],[.sc (.int .i8 R)]]))=(([C,I,R].take m).drop s).map r8:=by rw[List.map_drop,List.map_take];rfl
 have h3:((d:Int)<=3):=zOm;have h4:((m:Int)<=3):=zOm;have h5:((s:Int)<=m):=zOm;have h6:((s:Int)<3):=zOm;simp[go_sem,w1,h3,h4,h5,h6];rw[a1];refine fZ (qjU _ ([l,o,p].take d) zSo _) ?_ ?_
 .rintro r mm ⟨t,e,ho,hk⟩
  cases e;simp[go_sem];rw[a2];refine qz.ownF (lo:=2) (e:=311) (sz:=1) (bt:=1) (zv := .sc (.int .i8 0)) (xs:=([l,o,p].take d).map r8) (ys:=(([C,I,R].take m).drop s).map r8) zSi zSi zSi rfl rfl zOm zOm ho (by simp[qE]) (Zr _) (Zr _) zSo ?_;intro t m2 T a4;simp[go_sem];have g0:m2[0]?=some (.arr [.sc (.int .i8 0),.sc (.int .i8 0),.sc (.int .i8 0)]):=by grind
  have g1:m2[1]?=some (.arr [.sc (.int .i8 0),.sc (.int .i8 0),.sc (.int .i8 0)]):=by grind
  rw[<-ze]at T;have U:=T.1.rows (Zr _).ok;refine XI (sz:=1) zSi g1 zSp U (Zr _) ?_;obtain⟨j,rfl⟩:∃ j,m2 = .arr [.sc (.int .i8 0),.sc (.int .i8 0),.sc (.int .i8 0)] :: .arr [.sc (.int .i8 0),.sc (.int .i8 0),.sc (.int .i8 0)] :: j:=by
   match m2,g0,g1 with
   |a :: b :: j,g0,g1=>grind
  rw[put3];simp[go_sem,pad,conc,hd];exact .hf _ (HF.agg fun c hc=>by simp at hc;rcases hc with rfl|rfl|rfl<;>exact HF.sc _)
 grind
theorem J1(n mu):qD qe 232 [aI n] mu fun e m=>e = .ret (.agg [aI n,.mp (mu.length+1)])/\∃ c,m=mu++[c,.mp []]:=by
 refine qSW call232 func232 rfl {} ?_;simp[go_sem]
theorem hfA3(a b c):HF (.agg [.sc a,.sc b,.sc c]):=HF.agg fun x g=>by simp at g;rcases g with rfl|rfl|rfl<;>exact HF.sc _
theorem wr0:qq.wrap 0=0:=rfl
theorem wr1:qq.wrap 1=1:=rfl
theorem wr2:qq.wrap 2=2:=rfl
structure okK (k:Kd):Prop where
 ar:1<=k.ar/\k.ar<=3
 len:∀ t,t∈k.ts->okT t
 nd:k.ts.Nodup
theorem UE(x n y m s):okT (conc x n y m s):=rfl
theorem qjV(a b)(ha:okK a)(hb:okK b)(x y)(P:okT x)(R:okT y)(mu o m ar l)(ho:mu[o]?=some (.arr [aI ar,.mp m]))(hm:mu[m]?=some (.mp (eT l)))(hl:∀ t,t∈l->okT t) :
  qD qe 259 [aT x,aT y,.ip (cKd a),.ptr o 0,.ip (cKd b)] mu fun e m'=>e = .ret (.tup [])/\m'=if x.getD (a.ar.toNat-1) 0=y.getD 0 0 then mu.set m (.mp (eT (ins l (conc x a.ar.toNat y b.ar.toNat 1)))) else mu:=by
 refine qSW call259 func259 rfl {} ?_;obtain⟨a0,a1⟩:=ha.ar;obtain⟨a2,a3⟩:=hb.ar;obtain⟨n,hn⟩:∃ n:Nat,a.ar=n+1:=⟨(a.ar-1).toNat,zOm⟩;obtain⟨k,hk⟩:∃ k:Nat,b.ar=k:=⟨b.ar.toNat,zOm⟩;have a4:n<3:=zOm;have T:=mf x y (n+1) k 1 P R zOm zOm zOm zOm zOm;unfold okT at P R;obtain⟨j,p,r,rfl⟩:∃ j p r,x=[j,p,r]:=by
  match x,P with
  | [j,p,r],_=>exact⟨_,_,_,rfl⟩
 obtain⟨C,I,J,rfl⟩:∃ C I J,y=[C,I,J]:=by
  match y,R with
  | [C,I,J],_=>exact⟨_,_,_,rfl⟩
 have U:=updT hm (UE [j,p,r] (n+1) [C,I,J] k 1) hl;have g:n=0\/n=1\/n=2:=zOm;rcases g with rfl|rfl|rfl
 all_goals
  simp[go_sem];refine cJ zKr ?_;simp[go_sem,hn,hk,wr0,wr1,wr2];refine cZ (fun i=>?_) (fun i=>?_)
  .simp at i
   subst i;simp[go_sem];refine cJ zKr ?_;simp[go_sem,ho,hk,hn];refine fR T (.zk (hfA3 _ _ _) (.zs (.zk (hfA3 _ _ _) (.zs (.zs .nil))))) ?_;refine pN _ U ?_;simp[go_sem]
  .simp at i
   simp[go_sem,i]
theorem qjW(a b)(T:okK a)(U:okK b)(a0:a.ar+b.ar<=3)(x y)(I:okT x)(J:okT y)(mu o m ar l)(ho:mu[o]?=some (.arr [aI ar,.mp m]))(hm:mu[m]?=some (.mp (eT l)))(hl:∀ t,t∈l->okT t) :
  qD qe 261 [aT x,aT y,.ptr o 0,.ip (cKd a),.ip (cKd b)] mu fun e m'=>e = .ret (.tup [])/\m'=mu.set m (.mp (eT (ins l (conc x a.ar.toNat y b.ar.toNat 0)))):=by
 refine qSW call261 func261 rfl {} ?_;obtain⟨a1,a2⟩:=T.ar;obtain⟨a3,a4⟩:=U.ar;obtain⟨n,hn⟩:∃ n:Nat,a.ar=n:=⟨a.ar.toNat,zOm⟩;obtain⟨k,hk⟩:∃ k:Nat,b.ar=k:=⟨b.ar.toNat,zOm⟩;have P:=mf x y n k 0 I J zOm zOm zOm zOm zOm;unfold okT at I J;obtain⟨g,i,j,rfl⟩:∃ g i j,x=[g,i,j]:=by
  match x,I with
  | [g,i,j],_=>exact⟨_,_,_,rfl⟩
 obtain⟨p,r,C,rfl⟩:∃ p r C,y=[p,r,C]:=by
  match y,J with
  | [p,r,C],_=>exact⟨_,_,_,rfl⟩
 have R:=updT hm (UE [g,i,j] n [p,r,C] k 0) hl;simp[go_sem];refine cJ zKr ?_;simp[go_sem,ho,hk,hn];refine fR P (.zk (hfA3 _ _ _) (.zs (.zk (hfA3 _ _ _) (.zs (.zs .nil))))) ?_;refine pN _ R ?_;simp[go_sem]
theorem mi(h:l.Nodup):((eT l).map Prod.fst).Nodup:=by
 have e:(eT l).map Prod.fst=l.map aT:=by simp[eT]
 rw[e];refine(List.pairwise_map (f:=aT)).2 (h.imp fun g e=>g ?_);have inj:∀(a b:List Int),i8s a=i8s b->a=b:=by
  intro a;induction a with
  |nil=>intro b h;cases b with
   |nil=>rfl
   |cons=>simp at h
  |cons x a i=>intro b h;cases b with
   |nil=>simp at h
   |cons y b =>
    simp only[i8s,z7,List.cons.injEq,AV.sc.injEq,Value.int.injEq,true_and]at h;rw[h.1,i b h.2]
 exact inj _ _ (AV.agg.inj e)
theorem Rd.setT{mu}{k:List Tp}(i:mu[m]?=some (.mp (eT l)))(j:l.Nodup)(o:k.Nodup)(h:∀ t,t∈l↔t∈k):Rd mu (.mp m) (mKd k):=
 fL i (mi j) (mi o) (fun x=>by
  simp only[eT,qn];constructor
  .rintro ⟨t,g,rfl⟩;exact⟨t,(h t).1 g,rfl⟩
  .rintro ⟨t,g,rfl⟩;exact⟨t,(h t).2 g,rfl⟩) (fun x p=>by
  obtain⟨t,_,rfl⟩:=qn.1 p;exact⟨XN t,HF.sc _⟩)
def ColM(g:Int)(z c:Cell)(f:Tp->Tp->Option Tp)(S:Tp->Tp->Prop)(m:Mu):Prop:=
 ∃ l,m[0]?=some z/\m[1]?=some c/\m[2]?=some (.mp (eT l))/\m[3]?=some (.arr [aI g,.mp 2])/\l.Nodup/\(∀ t,t∈l->okT t)/\∀ t,t∈l↔∃ x y,S x y/\f x y=some t
theorem ColM.zero(g z c f):ColM g z c f (fun _ _=>False) [z,c,.mp [],.arr [aI g,.mp 2]]:=
 ⟨[],rfl,rfl,rfl,rfl,zSp,zSp,zSp⟩
theorem ColM.same{g j o}(h:∀ i,i<4->o[i]?=j[i]?)(k:ColM g z c f S j):ColM g z c f S o:=by
 obtain⟨l,p,g1,r,t,C,I,J⟩:=k;exact⟨l,by rw[h 0 zOm];exact p,by rw[h 1 zOm];exact g1,by rw[h 2 zOm];exact r,by rw[h 3 zOm];exact t,C,I,J⟩
theorem ColM.step{i}{m:Mu}{x y t}(j:m[0]?=some z)(g1:m[1]?=some c)(o:m[2]?=some (.mp (eT l)))(r:m[3]?=some (.arr [aI i,.mp 2]))(C:l.Nodup)(I:∀ t,t∈l->okT t)(J:∀ t,t∈l↔∃ x y,S x y/\f x y=some t)
  (hf:f x y=some t) (P:okT t):ColM i z c f (fun u v=>S u v\/(u=x/\v=y)) (m.set 2 (.mp (eT (ins l t)))):=by
 have R:2<m.length:=(qk.1 o).1;refine⟨ins l t,?_,?_,qL R,?_,YK C,fun u T=>?_,fun u=>?_⟩
 .rw [zGl];exact j
 .rw [zGl];exact g1
 .rw [zGl];exact r
 .rcases uW.1 T with h|rfl
  .exact I u h
  .exact P
 .rw [uW,J]
  constructor
  .rintro (⟨p,q,g,e⟩|rfl)
   .exact ⟨p,q,.inl g,e⟩
   .exact ⟨x,y,.inr ⟨rfl,rfl⟩,hf⟩
  .rintro ⟨p,q,g|⟨rfl,rfl⟩,e⟩
   .exact .inl ⟨p,q,g,e⟩
   .rw [hf]at e;exact .inr (Option.some.inj e).symm
theorem ColM.skip{i m x y}(k:ColM i z c f S m)(hf:f x y=none):ColM i z c f (fun u v=>S u v\/(u=x/\v=y)) m:=by
 obtain⟨l,j,g1,o,r,t,C,I⟩:=k;refine⟨l,j,g1,o,r,t,C,fun u=>?_⟩;rw[I];constructor
 .rintro ⟨p,q,g,e⟩;exact⟨p,q,.inl g,e⟩
 .rintro ⟨p,q,g|⟨rfl,rfl⟩,e⟩
  .exact ⟨p,q,g,e⟩
  .rw [hf]at e;exact absurd e zSp
theorem four{m:Mu}{a b d}(i:m[0]?=some a)(g1:m[1]?=some b)(j:m[2]?=some c)(l:m[3]?=some d):∃ g,m=a :: b :: c :: d :: g:=by
 match m,i,g1,j,l with
 |a :: b :: c :: d :: g,i,g1,j,l =>
  simp at i g1 j l;subst i;subst g1;subst j;subst l;exact⟨g,rfl⟩
def Z4(n m:Nat)(x y:Tp):Option Tp:=if x.getD (n-1) 0=y.getD 0 0 then some (conc x n y m 1) else none
theorem Zs{n t}:t∈uX n m a b↔∃ x y,(x∈a/\y∈b)/\Z4 n m x y=some t:=by
 unfold uX Z4;rw[ug];simp only[qG,false_or,List.mem_filterMap];constructor
 .rintro ⟨⟨x,y⟩,g,i⟩;exact⟨x,y,YL.1 g,i⟩
 .rintro ⟨x,y,g,i⟩;exact⟨(x,y),YL.2 g,i⟩
theorem XV{n}:(uX n m a b).Nodup:=wD zSp
theorem wG(a b)(g:okK a)(j:okK b):qi qe 235 [eKd a,eKd b] (eKd (zV a b)):=by
 refine qSV call235 func235 rfl ?_;have w1:qq.wrap (a.ar+b.ar)=a.ar+b.ar:=z8 (zW2 g.ar j.ar) (zW2 g.ar j.ar);have w2:qq.wrap (a.ar+b.ar-2)=a.ar+b.ar-2:=z8 (zW2 g.ar j.ar) (zW2 g.ar j.ar);simp[go_sem,w1,w2];refine fZ (J1 _ _) ?_ (by rintro r m ⟨e,_⟩;cases e);rintro r m ⟨e,c,rfl⟩;cases e;simp[go_sem];refine fZ (me a b 259 [.ip (cKd a),.ptr 3 0,.ip (cKd b)] _ (ColM (a.ar+b.ar-2) (.arr [aI 0,.sc (.map none)]) c (Z4 a.ar.toNat b.ar.toNat)) (ColM.zero _ _ _ _) (fun S m1 m2 h k=>k.same h) g.len j.len ?_) ?_ (by rintro r m ⟨e,_⟩;cases e)
 .rintro S x y m1 hx hy T ⟨l,C,g1,o,p,I,J,P⟩
  refine qD.monoR (qjV a b g j x y (g.len x hx) (j.len y hy) m1 3 2 _ l p o J) ?_;rintro e m' ⟨rfl,rfl⟩;by_cases R:x.getD (a.ar.toNat-1) 0=y.getD 0 0
  .rw [if_pos R]
   refine⟨rfl,ColM.step C g1 o p I J P (by unfold Z4;rw[if_pos R]) (UE _ _ _ _ _),zSp,fun i U a1=>?_⟩;simp at U;rw[zGl]
  .rw [if_neg R]
   exact⟨rfl,ColM.skip ⟨l,C,g1,o,p,I,J,P⟩ (by unfold Z4;rw[if_neg R]),qr _,fun _ _ _=>rfl⟩
 .rintro r m ⟨e,⟨l,C,g1,o,p,I,J,P⟩,T⟩
  cases e;obtain⟨a0,rfl⟩:=four C g1 o p;simp[go_sem];exact Rd.aggs ⟨.hf _ (HF.sc _),Rd.setT rfl I XV (fun t=>(P t).trans Zs.symm),trivial⟩
def Qt(n m:Nat)(x y:Tp):Option Tp:=some (conc x n y m 0)
theorem J2{n t}:t∈Qs n m a b↔∃ x y,(x∈a/\y∈b)/\Qt n m x y=some t:=by
 unfold Qs Qt;rw[ug];simp only[qG,false_or,qn];constructor
 .rintro ⟨⟨x,y⟩,g,i⟩;exact⟨x,y,YL.1 g,by rw[<-i]⟩
 .rintro ⟨x,y,g,i⟩;exact⟨(x,y),YL.2 g,Option.some.inj i⟩
theorem mj{n}:(Qs n m a b).Nodup:=wD zSp
theorem XW(a b)(g:okK a)(j:okK b)(C:a.ar+b.ar<=3):qi qe 236 [eKd a,eKd b] (eKd (uY a b)):=by
 refine qSV call236 func236 rfl ?_;have w1:qq.wrap (a.ar+b.ar)=a.ar+b.ar:=z8 (zW2 g.ar j.ar) (zW2 g.ar j.ar);simp[go_sem,w1];refine fZ (J1 _ _) ?_ (by rintro r m ⟨e,_⟩;cases e);rintro r m ⟨e,c,rfl⟩;cases e;simp[go_sem];refine fZ (me a b 261 [.ptr 3 0,.ip (cKd a),.ip (cKd b)] _ (ColM (a.ar+b.ar) (.arr [aI 0,.sc (.map none)]) c (Qt a.ar.toNat b.ar.toNat)) (ColM.zero _ _ _ _) (fun S m1 m2 h k=>k.same h) g.len j.len ?_) ?_ (by rintro r m ⟨e,_⟩;cases e)
 .rintro S x y m1 hx hy I ⟨l,J,g1,o,p,P,R,T⟩
  refine qD.monoR (qjW a b g j C x y (g.len x hx) (j.len y hy) m1 3 2 _ l p o R) ?_;rintro e m' ⟨rfl,rfl⟩;refine⟨rfl,ColM.step J g1 o p P R T rfl (UE _ _ _ _ _),zSp,fun i U a1=>?_⟩;simp at U;rw[zGl]
 .rintro r m ⟨e,⟨l,J,g1,o,p,P,R,T⟩,I⟩
  cases e;obtain⟨a0,rfl⟩:=four J g1 o p;simp[go_sem];exact Rd.aggs ⟨.hf _ (HF.sc _),Rd.setT rfl P mj (fun t=>(T t).trans J2.symm),trivial⟩
end
end Y6
namespace Y7
open Y2 P1 YM Y5 Y6
theorem qz.lit{P mu}{t g e sz bt:Nat}{x xs ys zv K}(r:qJ P t=some (e,sz,bt))(i:(qJ P g).isSome=true)(C:qB P e=some zv)
  (j:zv.cells.length=sz) (l:zv.cells.all AV.one=true) (o:sz≠0) (I:bt<=16384) (J:qE mu x=some ys) (R:zo sz xs) (T:zo sz ys) (U:xs.length+ys.length<=4294967296) (p:ys≠[])
  (k:K (.sl mu.length sz 0 (xs.length+ys.length)) (mu++[.arr (xs++ys).flatten])):qz P mu #[t,g] (.lst true xs) x K:=
 .inl ⟨t,g,e,sz,bt,ys,rfl,r,i,⟨zv,C,j,l⟩,o,I,J,T,.inl ⟨xs,rfl,R,U,fun h=>absurd h p,fun _=>k⟩⟩
theorem Zt(l:List Kd):zo 2 (l.map cKd):=fun r g=>by
 obtain⟨n,_,rfl⟩:=qn.1 g;exact⟨rfl,rfl⟩
theorem J3(full)(l:List Kd):HF (.lst full (l.map cKd)):=HF.lst fun r i c g=>by
 obtain⟨k,_,rfl⟩:=qn.1 i;simp at g;rcases g with rfl|rfl
 .exact HF.sc _
 .exact J0 _
def ColS(g:Int)(z c sl:Cell)(S:Tp->Prop)(m:Mu):Prop:=
 ∃ l,m[0]?=some z/\m[1]?=some c/\m[2]?=some (.mp (eT l))/\m[3]?=some (.arr [aI g,.mp 2])/\m[4]?=some sl/\l.Nodup/\(∀ t,t∈l->okT t)/\∀ t,t∈l↔S t
theorem sumU(full)(a b:Kd)(ha:∀ t,t∈a.ts->okT t)(hb:∀ t,t∈b.ts->okT t):qi qe 256 [eKd a,.lst full [cKd b]] (eKd (kSum a b)):=by
 refine qSU call256 func256 rfl ?_;refine fZ (J1 _ _) ?_ (by grind);rintro r m ⟨e,c,rfl⟩;cases e;simp[go_sem];refine qz.lit (e:=260) (sz:=2) (bt:=16) (zv := .agg [aI 0,.sc (.map none)]) (xs:=[cKd a]) (ys:=[cKd b]) zSi zSi zSi rfl rfl zOm zOm (by simp[qE]) (Zt [a]) (Zt [b]) zSp zSp ?_;simp[go_sem];refine qm.up 2 (fun k T=>T.tm 4 = .ptr 0 0/\T.tm 5 = .ptr 3 0/\T.tm 15 = .sl 4 2 0 2/\T.tm 16=aI 2/\T.tm 17=aI k/\ColS a.ar (.arr [aI 0,.sc (.map none)]) c (.arr [aI a.ar,mKd a.ts,aI b.ar,mKd b.ts]) (fun t=>(0<k/\t∈a.ts)\/(1<k/\t∈b.ts)) T.mu) ?_ ?_
 .simp [go_sem]
  exact⟨[],rfl,rfl,rfl,rfl,rfl,zSp,zSp,zSp⟩
 .rintro k T hk ⟨e4,e5,a9,U,a5,l,g0,g1,g2,g3,g4,h1,h2,h3⟩
  have ae:k=2\/k=0\/k=1:=zOm;obtain⟨p,hm⟩:∃ p,T.mu=[.arr [aI 0,.sc (.map none)],c,.mp (eT l),.arr [aI a.ar,.mp 2],.arr [aI a.ar,mKd a.ts,aI b.ar,mKd b.ts]]++p:=by
   generalize T.mu=m at *
   match m,g0,g1,g2,g3,g4 with
   |a0 :: a1 :: a2 :: a3 :: a4 :: p,g0,g1,g2,g3,g4 =>
    simp_all
  rcases ae with rfl|rfl|rfl
  .simp [go_sem,e4,e5,U,a5,hm]
   refine Rd.aggs ⟨.hf _ (HF.sc _),Rd.setT rfl h1 (wD (wD zSp)) (fun t=>?_),trivial⟩;rw[h3];show _↔t∈uni (uni [] a.ts) b.ts;simp[ug]
  .simp [go_sem,a9,U,a5,hm]
   refine qm.seen a.ts.length (fun seen o=>o.tm 4 = .ptr 0 0/\o.tm 5 = .ptr 3 0/\o.tm 15 = .sl 4 2 0 2/\o.tm 16=aI 2/\o.tm 17=aI 0/\o.tm 23 = .ptr (p.length+6) 0/\o.mu[p.length+6]?=some (.it (eT a.ts) seen) /\
    ColS a.ar (.arr [aI 0,.sc (.map none)]) c (.arr [aI a.ar,mKd a.ts,aI b.ar,mKd b.ts]) (fun t=>t∈l\/∃ i,i∈seen/\a.ts[i]?=some t) o.mu) ?_ ?_
   .simp [go_sem,e4,e5,a9,U,a5]
    exact⟨l,rfl,rfl,rfl,rfl,rfl,h1,h2,zSp⟩
   .rintro seen o af ag ⟨f4,f5,f15,f16,f17,f23,a6,l',k0,k1,k2,k3,k4,p1,p2,p3⟩
    simp[go_sem,f23];refine⟨p.length+6,eT a.ts,seen,rfl,a6,fun i e hi aa=>?_,fun a7=>?_⟩
    .obtain ⟨x,hx,rfl⟩:=Z3 hi
     have R:okT x:=ha x (zb hx);have ab:i<a.ts.length:=(qk.1 hx).1;have P:p.length+6<o.mu.length:=(qk.1 a6).1;have ad:x.length=3:=R;have C:∀(c:Cell)(l:List Cell)(j:Nat),j<5->((o.mu.set (p.length+6) c)++l)[j]?=o.mu[j]?:=fun c l j I=>by
      grind
     have q2:=fun c l=>(C c l 2 zOm).trans k2
     have q3:=fun c l=>(C c l 3 zOm).trans k3
     obtain⟨x0,x1,x2,rfl⟩:∃ x0 x1 x2,x=[x0,x1,x2]:=by
      match x,ad with
      | [x0,x1,x2],_=>simp
     simp[go_sem,f5,f23,hi,P,q3];refine pN _ (updT (q2 _ _) R p2) ?_;simp[go_sem];refine⟨i,ab,aa,?_⟩;show _/\_;refine⟨zS1 f4,zS1 f5,zS1 f15,zS1 f16,zS1 f17,zS1 f23,?_,ins l' [x0,x1,x2],?_,?_,?_,?_,?_,YK p1,fun t ht=>?_,fun t=>?_⟩
     .simp only[qC]
      rw[zGl,qN (zUs P),qL P]
     .simp only[qC]
      rw[zGl,C _ _ 0 zOm,k0]
     .simp only[qC]
      rw[zGl,C _ _ 1 zOm,k1]
     .simp only[qC]
      rw[qL zSo]
     .simp only[qC]
      rw[zGl,C _ _ 3 zOm,k3]
     .simp only[qC]
      rw[zGl,C _ _ 4 zOm,k4]
     .rcases uW.1 ht with h|rfl
      .exact p2 t h
      .exact R
     .rw [uW,p3]
      constructor
      .rintro ((h|⟨j,I,e⟩)|rfl)
       .exact .inl h
       .exact .inr ⟨j,zP1 I,e⟩
       .exact .inr ⟨i,zSp,hx⟩
      .rintro (h|⟨j,I,e⟩)
       .exact .inl (.inl h)
       .rcases qM.1 I with I|I
        .exact .inl (.inr ⟨j,I,e⟩)
        .rw [qV]at I;subst I
         rw[hx]at e;cases e;exact .inr rfl
    .have a8:∀ t,t∈l'↔(t∈l\/t∈a.ts):=fun t=>by
      rw[p3];constructor
      .rintro (h|⟨j,I,e⟩)
       .exact .inl h
       .exact .inr (zb e)
      .rintro (h|h)
       .exact .inl h
       .obtain ⟨j,I⟩:=List.mem_iff_getElem?.1 h
        exact .inr ⟨j,a7 j (by simpa using (qk.1 I).1),I⟩
     simp[go_sem,f4,f5,f15,f16,f17,wr1];refine⟨l',k0,k1,k2,k3,k4,p1,p2,fun t=>?_⟩;rw[a8 t,h3];simp
  .simp [go_sem,a9,U,a5,hm]
   refine qm.seen b.ts.length (fun seen o=>o.tm 4 = .ptr 0 0/\o.tm 5 = .ptr 3 0/\o.tm 15 = .sl 4 2 0 2/\o.tm 16=aI 2/\o.tm 17=aI 1/\o.tm 23 = .ptr (p.length+6) 0/\o.mu[p.length+6]?=some (.it (eT b.ts) seen) /\
    ColS a.ar (.arr [aI 0,.sc (.map none)]) c (.arr [aI a.ar,mKd a.ts,aI b.ar,mKd b.ts]) (fun t=>t∈l\/∃ i,i∈seen/\b.ts[i]?=some t) o.mu) ?_ ?_
   .simp [go_sem,e4,e5,a9,U,a5]
    exact⟨l,rfl,rfl,rfl,rfl,rfl,h1,h2,zSp⟩
   .rintro seen o af ag ⟨f4,f5,f15,f16,f17,f23,a6,l',k0,k1,k2,k3,k4,p1,p2,p3⟩
    simp[go_sem,f23];refine⟨p.length+6,eT b.ts,seen,rfl,a6,fun i e hi aa=>?_,fun a7=>?_⟩
    .obtain ⟨x,hx,rfl⟩:=Z3 hi
     have R:okT x:=hb x (zb hx);have ab:i<b.ts.length:=(qk.1 hx).1;have P:p.length+6<o.mu.length:=(qk.1 a6).1;have ad:x.length=3:=R;have C:∀(c:Cell)(l:List Cell)(j:Nat),j<5->((o.mu.set (p.length+6) c)++l)[j]?=o.mu[j]?:=fun c l j I=>by
      rw[qN zSo,zGl]
     have q2:=fun c l=>(C c l 2 zOm).trans k2
     have q3:=fun c l=>(C c l 3 zOm).trans k3
     obtain⟨x0,x1,x2,rfl⟩:∃ x0 x1 x2,x=[x0,x1,x2]:=by
      match x,ad with
      | [x0,x1,x2],_=>exact⟨_,_,_,rfl⟩
     simp[go_sem,f5,f23,hi,P,q3];refine pN _ (updT (q2 _ _) R p2) ?_;simp[go_sem];refine⟨i,ab,aa,?_⟩;show _/\_;refine⟨zS1 f4,zS1 f5,zS1 f15,zS1 f16,zS1 f17,zS1 f23,?_,ins l' [x0,x1,x2],?_,?_,?_,?_,?_,YK p1,fun t ht=>?_,fun t=>?_⟩
     .simp only[qC]
      rw[zGl,qN (zUs P),qL P]
     .simp only[qC]
      rw[zGl,C _ _ 0 zOm,k0]
     .simp only[qC]
      rw[zGl,C _ _ 1 zOm,k1]
     .simp only[qC]
      rw[qL zSo]
     .simp only[qC]
      rw[zGl,C _ _ 3 zOm,k3]
     .simp only[qC]
      rw[zGl,C _ _ 4 zOm,k4]
     .rcases uW.1 ht with h|rfl
      .exact p2 t h
      .exact R
     .rw [uW,p3]
      constructor
      .rintro ((h|⟨j,I,e⟩)|rfl)
       .exact .inl h
       .exact .inr ⟨j,zP1 I,e⟩
       .exact .inr ⟨i,zSp,hx⟩
      .rintro (h|⟨j,I,e⟩)
       .exact .inl (.inl h)
       .rcases qM.1 I with I|I
        .exact .inl (.inr ⟨j,I,e⟩)
        .rw [qV]at I;subst I
         rw[hx]at e;cases e;exact .inr rfl
    .have a8:∀ t,t∈l'↔(t∈l\/t∈b.ts):=fun t=>by
      rw[p3];constructor
      .rintro (h|⟨j,I,e⟩)
       .exact .inl h
       .exact .inr (zb e)
      .rintro (h|h)
       .exact .inl h
       .obtain ⟨j,I⟩:=List.mem_iff_getElem?.1 h
        exact .inr ⟨j,a7 j (by simpa using (qk.1 I).1),I⟩
     simp[go_sem,f4,f5,f15,f16,f17,wr2];refine⟨l',k0,k1,k2,k3,k4,p1,p2,fun t=>?_⟩;rw[a8 t,h3];simp
end Y7
namespace Y8
open Y2 Y3 P1 YM Y5 Y6 Y7
theorem XX{l:List Tp}{i x}(o:l[i]?=some x){seen:List Nat}{t}:(∃ j,j∈seen++[i]/\l[j]?=some t)↔(∃ j,j∈seen/\l[j]?=some t)\/t=x:=by
 constructor
 .rintro ⟨j,g,e⟩
  rcases qM.1 g with g|g
  .exact .inl ⟨j,g,e⟩
  .rw [qV]at g;subst g
   rw[o]at e;cases e;exact .inr rfl
 .rintro (⟨j,g,e⟩|rfl)
  .exact ⟨j,zP1 g,e⟩
  .exact ⟨i,zSp,o⟩
theorem XY{l:List Tp}{seen:List Nat}(g:∀ i,i<l.length->i∈seen){t}:(∃ j,j∈seen/\l[j]?=some t)↔t∈l:=by
 constructor
 .rintro ⟨j,o,e⟩;exact zb e
 .intro h
  obtain⟨j,o⟩:=List.mem_iff_getElem?.1 h;exact⟨j,g j (qk.1 o).1,o⟩
structure ok2 (k:Kd):Prop where
 ar:k.ar=2
 nd:k.ts.Nodup
 ts:∀ t,t∈k.ts->∃ x y:Int,t=[x,y,0]/\0<=x/\x<4/\0<=y/\y<4
theorem ok2.okK{k}(h:ok2 k):okK k:=⟨by rw[h.ar];omega,fun t g=>by obtain⟨x,y,rfl,_⟩:=h.ts t g;rfl,h.nd⟩
theorem ok2.join{k}(h:ok2 k):ok2 (zV k k):=by
 refine⟨by simp[zV,h.ar],XV,fun t g=>?_⟩;have g:t∈uX k.ar.toNat k.ar.toNat k.ts k.ts:=g;rw[h.ar]at g;obtain⟨x,y,⟨i,j⟩,hf⟩:=Zs.1 g;obtain⟨l,J,rfl,o,p,P,R⟩:=h.ts x i;obtain⟨T,r,rfl,U,b2,C,I⟩:=h.ts y j;unfold Z4 at hf;split at hf
 .simp [conc,pad]at hf
  exact⟨l,r,hf.symm,o,p,C,I⟩
 .exact absurd hf zSp
theorem ok2.sum{a b}(h:ok2 a)(k:ok2 b):ok2 (kSum a b):=by
 refine⟨h.ar,wD (wD zSp),fun t g=>?_⟩;have g:t∈uni (uni [] a.ts) b.ts:=g;simp only[ug,qG,false_or]at g;exact g.elim (h.ts t) (k.ts t)
theorem ok2.len{k}(h:ok2 k):k.ts.length<=16:=by
 have g:∀ t,t∈k.ts->t∈(qu 4).flatMap fun (x:Nat)=>(qu 4).map fun (y:Nat)=>[(x:Int),(y:Int),0]:=by
  intro t i;obtain⟨x,y,rfl,j,l,o,p⟩:=h.ts t i;rw[List.mem_flatMap];refine⟨x.toNat,yi.2 zOm,qn.2 ⟨y.toNat,yi.2 zOm,?_⟩⟩;rw[show ((x.toNat:Nat):Int)=x by omega,show ((y.toNat:Nat):Int)=y by omega]
 have:=vb h.nd g;exact Nat.le_trans this zDe
theorem qjX{f n a}(h:¬n<a.ts.length):cloN f n a=a:=by
 cases f with
 |zero=>rfl
 |succ f=>simp[cloN,h]
theorem UF(a)(C:ok2 a):qi qe 262 [eKd a] (eKd (kClo a)):=by
 refine qSQ call262 func262 rfl { mt:=[1] } ?_;simp[go_sem];refine tT (fun m T=>∃(n f:Nat) (cur:Kd),m=17-n/\cloN f n cur=kClo a/\70<=f+n/\ok2 cur/\T.tm 3=aI n/\T.tm 1 = .ptr 0 0/\T.tm 2 = .ptr 1 0/\T.mu=[.arr (cKd cur),.arr [aI 0,.sc (.map none)]]) 17 ?_ ?_
 .exact ⟨0,70,a,rfl,rfl,zOm,C,zSi,zSi,zSi,zSi⟩
 .rintro m T ⟨n,f,cur,rfl,l,hf,g,o,i,p,r⟩
  have t:=g.len;by_cases j:n<cur.ts.length
  .simp [go_sem,i,o,r,j]
   refine cJ zKr ?_;simp[go_sem,i];refine fR (wG cur cur g.okK g.okK) (.zk (ye _) (.zk (ye _) .nil)) ?_;refine tS (sumU _ cur (zV cur cur) g.okK.len g.join.okK.len) (.zk (ye _) (.zk (J3 _ [zV cur cur]) .nil)) ?_;simp[go_sem,i];obtain⟨f,rfl⟩:∃ I,f=I+1:=⟨f-1,zOm⟩;refine Keep.loop (17-cur.ts.length) zOm ⟨cur.ts.length,f,kSum cur (zV cur cur),rfl,?_,zOm,g.sum g.join,zSi,zS1 i,zS1 p,zSi⟩;rw[<-l,cloN,if_pos j]
  .rw [qjX j]at l
   subst l;simp[go_sem,i,p,o,r,j];exact .hf _ (ye _)
theorem qjY(op a b)(ha:okK a)(p:okK b):qi qe 234 [aI op,eKd a,eKd b] (eKd (uz op a b)):=by
 refine qSV call234 func234 rfl ?_;unfold uz;by_cases h6:op=6
 .subst h6
  simp[go_sem];refine fR (sumU _ a b ha.len p.len) (.zk (ye _) (.zk (J3 _ [b]) .nil)) ?_;exact .hf _ (ye _)
 by_cases a0:op=14
 .subst a0
  simp[go_sem];refine fR (sumU _ a b ha.len p.len) (.zk (ye _) (.zk (J3 _ [b]) .nil)) ?_;exact .hf _ (ye _)
 by_cases h7:op=7
 .subst h7
  simp[go_sem];refine fZ (J1 _ _) ?_ (by rintro r m ⟨e,_⟩;cases e);rintro r m ⟨e,c,rfl⟩;cases e;simp[go_sem];obtain⟨B,hB⟩:∃ B,B=mKd b.ts:=⟨_,rfl⟩;refine qm.seen a.ts.length (fun seen T=>T.tm 4 = .ip (cKd a)/\T.tm 5 = .ip [aI b.ar,B]/\T.tm 6 = .ptr 0 0/\T.tm 7 = .ptr 3 0/\T.tm 24 = .ptr 4 0 /\
   ColS a.ar (.arr [aI 0,.sc (.map none)]) c (.it (eT a.ts) seen) (fun t=>(∃ i,i∈seen/\a.ts[i]?=some t)/\t∈b.ts) T.mu) ?_ ?_
  .exact ⟨zSi,by simp[go_sem,hB],zSi,zSi,zSi,[],rfl,rfl,rfl,rfl,rfl,zSp,zSp,zSp⟩
  .rintro seen T a8 a9 ⟨e4,e5,e6,e7,I,l,k0,k1,k2,k3,k4,h1,h2,h3⟩
   simp[go_sem,I];refine⟨4,eT a.ts,seen,rfl,k4,fun i e hi a1=>?_,fun a2=>?_⟩
   .obtain ⟨x,hx,rfl⟩:=Z3 hi
    have J:okT x:=ha.len x (zb hx);have a3:i<a.ts.length:=(qk.1 hx).1;have a5:x.length=3:=J;have a6:∀ C:Mu,yB qe C 258 B (aT x) false=some (aB (decide (x∈b.ts))):=fun C=>by rw[hB];exact lookT J p.len
    have o:4<T.mu.length:=(qk.1 k4).1;have g:∀(c:Cell)(l:List Cell)(j:Nat),j<4->((T.mu.set 4 c)++l)[j]?=T.mu[j]?:=fun c l j hj=>by
     rw[qN zSo,zGl]
    have q2:=fun c l=>(g c l 2 zOm).trans k2
    have q3:=fun c l=>(g c l 3 zOm).trans k3
    obtain⟨R,U,x2,rfl⟩:∃ R U x2,x=[R,U,x2]:=by
     match x,a5 with
     | [R,U,x2],_=>exact⟨_,_,_,rfl⟩
    have a4:∀ C:Mu,yB qe C 258 B (.agg [.sc (.int .i8 R),.sc (.int .i8 U),.sc (.int .i8 x2)]) false=some (aB (decide ([R,U,x2]∈b.ts))):=a6;simp[go_sem,e5,I,hi,o,a4];by_cases P:[R,U,x2]∈b.ts
    .simp [go_sem,P,e7,q3]
     refine pN _ (updT (q2 _ _) J h2) ?_;simp[go_sem];refine⟨i,a3,a1,zS1 e4,zS1 e5,zS1 e6,zS1 e7,zS1 I,ins l [R,U,x2],?_,?_,?_,?_,?_,YK h1,fun t ht=>?_,fun t=>?_⟩
     .simp only[qC]
      rw[zGl,g _ _ 0 zOm,k0]
     .simp only[qC]
      rw[zGl,g _ _ 1 zOm,k1]
     .simp only[qC]
      rw[qL zSo]
     .simp only[qC]
      rw[zGl,g _ _ 3 zOm,k3]
     .simp only[qC]
      rw[zGl,qN (zUs o),qL o]
     .rcases uW.1 ht with h|rfl
      .exact h2 t h
      .exact J
     .simp only[uW,h3,XX hx]
      constructor
      .rintro (⟨h,p⟩|rfl)
       .exact ⟨.inl h,p⟩
       .exact ⟨.inr rfl,P⟩
      .rintro ⟨h|rfl,p⟩
       .exact .inl ⟨h,p⟩
       .exact .inr rfl
    .simp [go_sem,P]
     refine⟨i,a3,a1,zS1 e4,zS1 e5,zS1 e6,zS1 e7,zS1 I,l,?_,?_,?_,?_,?_,h1,h2,fun t=>?_⟩
     .simp only[qC]
      rw[g _ _ 0 zOm,k0]
     .simp only[qC]
      rw[g _ _ 1 zOm,k1]
     .simp only[qC]
      rw[g _ _ 2 zOm,k2]
     .simp only[qC]
      rw[g _ _ 3 zOm,k3]
     .simp only[qC]
      rw[qN (zUs o),qL o]
     .simp only[h3,XX hx]
      constructor
      .rintro ⟨h,p⟩;exact⟨.inl h,p⟩
      .rintro ⟨h|rfl,p⟩
       .exact ⟨h,p⟩
       .exact absurd p P
   .obtain ⟨a7,hm⟩:=four k0 k1 k2 k3
    simp[go_sem,e6,e7,hm];refine Rd.aggs ⟨.hf _ (HF.sc _),Rd.setT rfl h1 (ha.nd.filter _) (fun t=>?_),trivial⟩;refine(h3 t).trans ?_;show (_/\_)↔t∈a.ts.filter fun t=>decide (t∈b.ts)
    rw[XY (zUs a2)];simp
 .simp [go_sem,h6,a0,h7]
  exact .hf _ (ye _)
end Y8
end Go.Proofs.YtipbakanneogpaaGreatDoor
namespace Go.Ev
open Go Go.RowKit
theorem aC{P f args r p v}(i:jh P f)(g:∀(G) (h) (l),ya G h args l->l=p)
  (h:∀ w,Calls P f p w fun e w'=>e = .returned v/\w'=w) (t:∀ G h,VRel G h r v):qi P f args r:=by
 refine⟨i,fun o w l C I=>?_⟩;rw[g _ _ _ I];refine(h w).mono fun e w' ⟨J,R⟩=>?_
 subst R;exact⟨o,v,J,fun _ j=>j,fun b j=>⟨C.imm b j,.inl j⟩,⟨Below.refl _ _,qr _⟩,t _ _⟩
theorem qjZ{G h a b g}(r:ya G h [.sc a,.sc b] g):g=#[a,b]:=by
 obtain⟨p,j⟩:=r;have l:=j 0 _ rfl;have o:=j 1 _ rfl;have t:g.size=2:=zUs p;have I:g.getD 0 qU=a:=by generalize g.getD 0 qU=x at l;cases l;rfl
 have J:g.getD 1 qU=b:=by generalize g.getD 1 qU=x at o;cases o;rfl
 apply Array.ext
 .simpa using t
 .intro i P C
  have:i=0\/i=1:=zOm;rcases this with rfl|rfl
  .simp_all
  simp_all
theorem XZ(w os b)(h:b<w.heap.size):(Sort.grow w os).heap[b]?=w.heap[b]?:=by
 show (w.heap++os)[b]?=_;rw[Array.getElem?_append_left h]
theorem Stp.grow{G mu w}(s:Sim G mu w.heap)(os):Stp G mu w G mu (Sort.grow w os):=by
 have g:w.heap.size<=(Sort.grow w os).heap.size:=by simp_all
 have r:Ext G w.heap (Sort.grow w os).heap:=⟨g,fun b j=>XZ w os b (s.imm b j)⟩;refine⟨.refl G,⟨s.len,fun b j=>Yk (s.imm b j) g,?_,s.live,s.inj,s.tab.mono (fun _ h=>h) r.keep⟩,fun b j _=>XZ w os b j,g,fun b h => .inl h,fun b h => .inl h,rfl,rfl,rfl,qr _⟩;intro i c l p t C I;obtain⟨o,P,J⟩:=s.obj i c l p t C I;exact⟨o,by grind [XZ,yK],J.mono (.refl G) r⟩
def srtI(zs:List Int):List Int:=zs.mergeSort fun x y=>decide (x<=y)
theorem J4(zs):(srtI zs).length=zs.length:=List.length_mergeSort ..
theorem qj0{P f}(t:jh P f)
  (p:∀(g off cap)(zs:List Int)(w),Sort.Holds (Value.int .i64) w g off zs.toArray->g<w.heap.size->zs.length<4611686018427387904 ->
   Calls P f #[.slice (some ⟨g,off,none⟩) zs.length cap] w fun e w'=>e = .returned (.tuple #[])/\∃ n os,w'=Sort.grow (Sort.putRow (Value.int .i64) (Sort.ahead w n) g off (zs.mergeSort fun x y=>decide (x<=y)).toArray) os)
  {mu} {b off} {cells} {zs} (hc:mu[b]?=some (.arr cells)) (hz:∀ k n,zs[k]?=some n->cells[off+k]?=some (.sc (.int .i64 n))) (hl:zs.length<4611686018427387904) (a4:off+zs.length<=cells.length) :
  qD P f [.sl b 1 off zs.length] mu fun e m=>e = .ret (.tup [])/\m=mu.set b (.arr (putCells cells off ((srtI zs).map fun n => .sc (.int .i64 n)))):=by
 refine⟨t,fun G w vs s ra=>?_⟩;obtain⟨v,rfl,rv⟩:=ra.one_inv;cases rv with
 |sl _ _ _ _ g C cap hb ht a5 =>
 obtain⟨arr,e0,h1,h2,h3,U⟩:=s.arr b cells g C hc hb;have a0:∀(k:Nat)(n:Int),zs[k]?=some n->arr[off+k]?=some (.int .i64 n):=by
  intro k n hk;have hx:=hz k n hk;have hr:=(U _ _ hx).2;have a6:off+k<cells.length:=(qk.1 hx).1;have o:off+k<arr.size:=zOm;have:arr.getD (off+k) qU = .int .i64 n:=by generalize arr.getD (off+k) qU=u at hr;cases hr;rfl
  rw[zc,ZM o]at this;rw[ZM o];exact congrArg some this
 have hH:Sort.Holds (Value.int .i64) w g off zs.toArray:=by
  intro j i;have a7:j<zs.length:=zUs i;refine⟨?_,?_⟩
  .simp_all [qA,World.cell?,Option.isSome_none,Bool.false_eq_true,if_false,getElem!_pos]
  grind [World.frozen?]
 have I:g<w.heap.size:=(yK.1 h1).1;refine(p g off cap zs w hH I hl).mono fun e w' ⟨he,n,os,hw⟩=>?_
 have a8:=J4 zs
 have J:(Sort.putRow (Value.int .i64) (Sort.ahead w n) g off (srtI zs).toArray).heap[g]?=some (.cells (Sort.putCells (Value.int .i64) off (srtI zs).toArray arr) e0 (0,0)):=by
  show (w.heap.modify g (Sort.onCells _))[g]?=_;rw[Array.getElem?_modify,if_pos rfl,h1];rfl
 have R:∀ k,k≠g->(Sort.putRow (Value.int .i64) (Sort.ahead w n) g off (srtI zs).toArray).heap[k]?=w.heap[k]?:=by
  intro k hk;show (w.heap.modify g (Sort.onCells _))[k]?=_;rw[Array.getElem?_modify,if_neg (fun e=>hk e.symm)]
 have st1:Stp G mu w G (mu.set b (.arr (putCells cells off ((srtI zs).map fun n => .sc (.int .i64 n))))) (Sort.putRow (Value.int .i64) (Sort.ahead w n) g off (srtI zs).toArray):=by
  refine sW (hdr:=Nat.le_add_right _ _) s b (.arr cells) _ g C _ hc zSp zSp hb zSp J R rfl rfl rfl ?_;have T:off+((srtI zs).map fun n=>AV.sc (.int .i64 n)).length<=cells.length:=by grind
  refine⟨_,e0,rfl,by simp[Sort.putCells,h2],by grind [jg],fun j y i=>?_⟩;rw[jg _ _ _ T,zB]at i;have r:j<arr.size:=by
   grind
  have a1:(Sort.putCells (Value.int .i64) off (srtI zs).toArray arr).getD j qU=if off<=j/\j<off+(srtI zs).toArray.size then (Value.int .i64) (srtI zs).toArray[j-off]! else arr[j]:=by
   rw[zc,Sort.putCells,Array.getElem?_mapIdx,ZM r];rfl
  rw[a1];have a2:(cells.take off).length=off:=zSo;by_cases a3:j<off
  .rw [zGa,vu,if_pos a3]at i
   rw[zIn];have:=U j y i;rw[zc,ZM r]at this;exact this
  .rw [zM zOm,a2]at i
   by_cases l:j-off<(srtI zs).length
   .rw [qN (zUs l),zn,qA l]at i
    simp only[zq,qv]at i;subst i;rw[if_pos zSo];refine⟨rfl,?_⟩;rw[getElem!_pos (srtI zs).toArray (j-off) (zUs l)];exact .sc _ rfl
   .rw [zM zSo,uu]at i
    rw[if_neg zSo];have e1:off+((srtI zs).map fun n=>AV.sc (.int .i64 n)).length+(j-off-((srtI zs).map fun n=>AV.sc (.int .i64 n)).length)=j:=by simp at l⊢;omega
    rw[e1]at i;have:=U j y i;rw[zc,ZM r]at this;exact this
 have st2:=st1.trans s (Stp.grow st1.sim os);rw[show (srtI zs).toArray=(zs.mergeSort fun x y=>decide (x<=y)).toArray from rfl]at st2;rw[<-hw]at st2;exact⟨G,_,st2,.inl ⟨_,_,⟨rfl,rfl⟩,he,.tup [] #[] rfl zSp⟩⟩
end Go.Ev
namespace Go.Proofs
open Go.Shelf
def Tryz.laysM246_ren:Go.Shelf.Ren:=⟨fun|246=>263|283=>272|284=>273|285=>274|286=>275|129=>254|317=>279|318=>280|319=>281|320=>282|337=>283|338=>284|n=>n,fun|2=>2|3=>3|9=>9|4=>4|171=>348|0=>0|53=>330|37=>115|5=>5|173=>350|212=>360|51=>328|20=>20|213=>361|46=>224|232=>362|233=>363|n=>n,fun|17=>0|18=>1|19=>2|n=>n⟩
def Tryz.laysM243_ren:Go.Shelf.Ren:=⟨fun|243=>238|246=>263|283=>272|284=>273|285=>274|286=>275|129=>254|317=>279|318=>280|319=>281|320=>282|337=>283|338=>284|n=>n,fun|3=>3|9=>9|2=>2|4=>4|171=>348|0=>0|53=>330|37=>115|5=>5|173=>350|212=>360|51=>328|20=>20|213=>361|46=>224|232=>362|233=>363|n=>n,fun|17=>0|18=>1|19=>2|n=>n⟩
def Tryz.laysM171_ren:Go.Shelf.Ren:=⟨fun|171=>211|243=>238|246=>263|283=>272|284=>273|285=>274|286=>275|129=>254|317=>279|318=>280|319=>281|320=>282|337=>283|338=>284|n=>n,fun|3=>3|9=>9|2=>2|4=>4|171=>348|0=>0|53=>330|37=>115|5=>5|173=>350|212=>360|51=>328|20=>20|213=>361|46=>224|232=>362|233=>363|n=>n,fun|17=>0|18=>1|19=>2|n=>n⟩
theorem Tryz.laysM171:Go.Proofs.LaysM.n171 qe Tryz.laysM171_ren:={
 mixed:=zKr
 f129:=func254.trans (congrArg some zKr)
 f171:=func211.trans (congrArg some zKr)
 f243:=func238.trans (congrArg some zKr)
 f246:=func263.trans (congrArg some zKr)
 f283:=func272.trans (congrArg some zKr)
 f284:=func273.trans (congrArg some zKr)
 f285:=func274.trans (congrArg some zKr)
 f286:=func275.trans (congrArg some zKr)
 f317:=func279.trans (congrArg some zKr)
 f318:=func280.trans (congrArg some zKr)
 f319:=func281.trans (congrArg some zKr)
 f320:=func282.trans (congrArg some zKr)
 f337:=func283.trans (congrArg some zKr)
 f338:=func284.trans (congrArg some zKr)
 t0:=Tryz.underlying0
 a0:=Tryz.isAgg0
 z0:=Tryz.sizeOf0
 v0:=Tryz.zeroValue0
 t2:=Tryz.underlying2
 a2:=Tryz.isAgg2
 z2:=Tryz.sizeOf2
 v2:=Tryz.zeroValue2
 t3:=Tryz.underlying3
 a3:=Tryz.isAgg3
 z3:=Tryz.sizeOf3
 v3:=Tryz.zeroValue3
 t4:=Tryz.underlying4
 a4:=Tryz.isAgg4
 z4:=Tryz.sizeOf4
 v4:=Tryz.zeroValue4
 t5:=Tryz.underlying5
 a5:=Tryz.isAgg5
 z5:=Tryz.sizeOf5
 v5:=Tryz.zeroValue5
 t9:=Tryz.underlying9
 a9:=Tryz.isAgg9
 z9:=Tryz.sizeOf9
 v9:=Tryz.zeroValue9
 t20:=Tryz.underlying20
 a20:=Tryz.isAgg20
 z20:=Tryz.sizeOf20
 v20:=Tryz.zeroValue20
 t37:=Tryz.underlying115
 a37:=Tryz.isAgg115
 z37:=Tryz.sizeOf115
 v37:=Tryz.zeroValue115
 t46:=Tryz.underlying224
 a46:=Tryz.isAgg224
 z46:=Tryz.sizeOf224
 v46:=Tryz.zeroValue224
 t51:=Tryz.underlying328
 a51:=Tryz.isAgg328
 z51:=Tryz.sizeOf328
 v51:=Tryz.zeroValue328
 t53:=Tryz.underlying330
 a53:=Tryz.isAgg330
 z53:=Tryz.sizeOf330
 v53:=Tryz.zeroValue330
 t171:=Tryz.underlying348
 a171:=Tryz.isAgg348
 z171:=Tryz.sizeOf348
 v171:=Tryz.zeroValue348
 t173:=Tryz.underlying350
 a173:=Tryz.isAgg350
 z173:=Tryz.sizeOf350
 v173:=Tryz.zeroValue350
 t212:=Tryz.underlying360
 a212:=Tryz.isAgg360
 z212:=Tryz.sizeOf360
 v212:=Tryz.zeroValue360
 t213:=Tryz.underlying361
 a213:=Tryz.isAgg361
 z213:=Tryz.sizeOf361
 t232:=Tryz.underlying362
 a232:=Tryz.isAgg362
 z232:=Tryz.sizeOf362
 v232:=Tryz.zeroValue362
 t233:=Tryz.underlying363
 a233:=Tryz.isAgg363
 z233:=Tryz.sizeOf363
 v233:=Tryz.zeroValue363
 g17:=zKr
 g18:=zKr
 g19:=zKr
 i0:=zKr
 i2:=zKr
 i3:=zKr
 i4:=zKr
 i5:=zKr
 i9:=zKr
 i20:=zKr
 i37:=zKr
 i46:=zKr
 i51:=zKr
 i53:=zKr
 i171:=zKr
 i173:=zKr
 i212:=zKr
 i232:=zKr
 i233:=zKr
 m17:=zKr
 m18:=zKr
 m19:=by kernel_rfl }
open Go.RowKit Go.Sort Go.Lib in
theorem Tryz.strconv_Itoa(n : Int)(i : -9223372036854775808 ≤ n)(j : n ≤ 9223372036854775807)(w : World)(g : Lib.TabIs qe w "internal/strconv.uint64pow10" .u64 Lib.pow10Tab) :
    Calls qe 211 #[.int .i64 n] w fun e w'=>e = .returned (.string ⟨(Lib.itoa n).toArray⟩)/\∃ k os,w'=grow (w.drewN k) os:=Any.strconv_Itoa Tryz.laysM171 n i j w g
def Tryz.lays189_ren:Go.Shelf.Ren:=⟨fun|189=>202|125=>226|257=>225|128=>253|129=>254|294=>245|295=>246|296=>247|297=>248|298=>249|299=>250|216=>135|300=>251|301=>252|328=>265|329=>266|330=>267|331=>268|332=>269|215=>189|343=>276|n=>n,fun|28=>28|3=>3|46=>224|0=>0|51=>328|53=>330|4=>4|183=>322|182=>321|131=>153|5=>5|9=>9|218=>338|222=>342|228=>352|229=>353|n=>n,fun|n=>n⟩
theorem Tryz.lays189:Go.Proofs.Lays.n189 qe Tryz.lays189_ren:={
 mixed:=zKr
 f125:=func226.trans (congrArg some zKr)
 f128:=func253.trans (congrArg some zKr)
 f129:=func254.trans (congrArg some zKr)
 f189:=func202.trans (congrArg some zKr)
 f215:=func189.trans (congrArg some zKr)
 f216:=func135.trans (congrArg some zKr)
 f257:=func225.trans (congrArg some zKr)
 f294:=func245.trans (congrArg some zKr)
 f295:=func246.trans (congrArg some zKr)
 f296:=func247.trans (congrArg some zKr)
 f297:=func248.trans (congrArg some zKr)
 f298:=func249.trans (congrArg some zKr)
 f299:=func250.trans (congrArg some zKr)
 f300:=func251.trans (congrArg some zKr)
 f301:=func252.trans (congrArg some zKr)
 f328:=func265.trans (congrArg some zKr)
 f329:=func266.trans (congrArg some zKr)
 f330:=func267.trans (congrArg some zKr)
 f331:=func268.trans (congrArg some zKr)
 f332:=func269.trans (congrArg some zKr)
 f343:=func276.trans (congrArg some zKr)
 t0:=Tryz.underlying0
 a0:=Tryz.isAgg0
 z0:=Tryz.sizeOf0
 v0:=Tryz.zeroValue0
 t3:=Tryz.underlying3
 a3:=Tryz.isAgg3
 z3:=Tryz.sizeOf3
 v3:=Tryz.zeroValue3
 t4:=Tryz.underlying4
 a4:=Tryz.isAgg4
 z4:=Tryz.sizeOf4
 v4:=Tryz.zeroValue4
 t5:=Tryz.underlying5
 a5:=Tryz.isAgg5
 z5:=Tryz.sizeOf5
 v5:=Tryz.zeroValue5
 t9:=Tryz.underlying9
 a9:=Tryz.isAgg9
 z9:=Tryz.sizeOf9
 v9:=Tryz.zeroValue9
 t28:=Tryz.underlying28
 a28:=Tryz.isAgg28
 z28:=Tryz.sizeOf28
 v28:=Tryz.zeroValue28
 t46:=Tryz.underlying224
 a46:=Tryz.isAgg224
 z46:=Tryz.sizeOf224
 v46:=Tryz.zeroValue224
 t51:=Tryz.underlying328
 a51:=Tryz.isAgg328
 z51:=Tryz.sizeOf328
 v51:=Tryz.zeroValue328
 t53:=Tryz.underlying330
 a53:=Tryz.isAgg330
 z53:=Tryz.sizeOf330
 v53:=Tryz.zeroValue330
 t131:=Tryz.underlying153
 a131:=Tryz.isAgg153
 z131:=Tryz.sizeOf153
 v131:=Tryz.zeroValue153
 t182:=Tryz.underlying321
 a182:=Tryz.isAgg321
 z182:=Tryz.sizeOf321
 v182:=Tryz.zeroValue321
 t183:=Tryz.underlying322
 a183:=Tryz.isAgg322
 z183:=Tryz.sizeOf322
 v183:=Tryz.zeroValue322
 t218:=Tryz.underlying338
 a218:=Tryz.isAgg338
 z218:=Tryz.sizeOf338
 v218:=Tryz.zeroValue338
 t222:=Tryz.underlying342
 a222:=Tryz.isAgg342
 z222:=Tryz.sizeOf342
 v222:=Tryz.zeroValue342
 t228:=Tryz.underlying352
 a228:=Tryz.isAgg352
 z228:=Tryz.sizeOf352
 v228:=Tryz.zeroValue352
 t229:=Tryz.underlying353
 a229:=Tryz.isAgg353
 z229:=Tryz.sizeOf353
 v229:=Tryz.zeroValue353 }
open Go.Sort Go.RowKit in
theorem Tryz.slices_Sort_int(g off cap:Nat)(zs:List Int)(w:qd)(l:Holds (Value.int .i64) w g off zs.toArray)(i:g<w.heap.size)(j:zs.length<4611686018427387904) :
  Calls qe 202 #[.slice (some ⟨g,off,none⟩) zs.length cap] w fun e w' =>
   e = .returned (.tuple #[])/\∃ n os,w'=grow (putRow (Value.int .i64) (Sort.ahead w n) g off (zs.mergeSort fun x y=>decide (x<=y)).toArray) os:=Any.slices_Sort_int Tryz.lays189 g off cap zs w l i j
def Tryz.lays212_ren:Go.Shelf.Ren:=⟨fun|212=>270|263=>277|264=>278|n=>n,fun|46=>224|51=>328|146=>355|53=>330|148=>357|n=>n,fun|n=>n⟩
theorem Tryz.lays212:Go.Proofs.Lays.n212 qe Tryz.lays212_ren:={
 mixed:=zKr
 f212:=func270.trans (congrArg some zKr)
 f263:=func277.trans (congrArg some zKr)
 f264:=func278.trans (congrArg some zKr)
 t46:=Tryz.underlying224
 a46:=Tryz.isAgg224
 z46:=Tryz.sizeOf224
 v46:=Tryz.zeroValue224
 t51:=Tryz.underlying328
 a51:=Tryz.isAgg328
 z51:=Tryz.sizeOf328
 v51:=Tryz.zeroValue328
 t53:=Tryz.underlying330
 a53:=Tryz.isAgg330
 z53:=Tryz.sizeOf330
 v53:=Tryz.zeroValue330
 t146:=Tryz.underlying355
 a146:=Tryz.isAgg355
 z146:=Tryz.sizeOf355
 v146:=Tryz.zeroValue355
 t148:=Tryz.underlying357
 a148:=Tryz.isAgg357
 z148:=Tryz.sizeOf357
 v148:=Tryz.zeroValue357 }
open Go.RowKit Go.Lib in
theorem Tryz.bits_Mul(x y:Nat)(g:x<18446744073709551616)(i:y<18446744073709551616)(w) :
  Calls qe 270 #[.int .u64 x,.int .u64 y] w fun e w'=>e = .returned (.tuple #[.int .u64 ((x*y / 18446744073709551616:Nat):Int),.int .u64 ((x*y % 18446744073709551616:Nat):Int)])/\w'=w:=Any.bits_Mul Tryz.lays212 x y g i w
def Tryz.laysNm225_ren:Go.Shelf.Ren:=⟨fun|25=>81|31=>135|32=>136|37=>189|n=>n,fun|22=>28|3=>3|4=>4|40=>224|0=>0|n=>n,fun|n=>n⟩
theorem Tryz.laysNm225:Go.Proofs.Lays2.n25 qe Tryz.laysNm225_ren:={
 mixed:=zKr
 f25:=func81.trans (congrArg some zKr)
 f31:=func135.trans (congrArg some zKr)
 f32:=func136.trans (congrArg some zKr)
 f37:=func189.trans (congrArg some zKr)
 t0:=Tryz.underlying0
 a0:=Tryz.isAgg0
 z0:=Tryz.sizeOf0
 v0:=Tryz.zeroValue0
 t3:=Tryz.underlying3
 a3:=Tryz.isAgg3
 z3:=Tryz.sizeOf3
 v3:=Tryz.zeroValue3
 t4:=Tryz.underlying4
 a4:=Tryz.isAgg4
 z4:=Tryz.sizeOf4
 v4:=Tryz.zeroValue4
 t22:=Tryz.underlying28
 a22:=Tryz.isAgg28
 z22:=Tryz.sizeOf28
 v22:=Tryz.zeroValue28
 t40:=Tryz.underlying224
 a40:=Tryz.isAgg224
 z40:=Tryz.sizeOf224
 v40:=Tryz.zeroValue224 }
open Go.RowKit Go.Lib in
theorem Tryz.slices_BinarySearch_int(b off n c)(zs:List Int)(x w)(i:n<=zs.length)(g:n<4611686018427387904)(l:∀ j,j<zs.length->w.cell? ⟨b,off+j,none⟩=some (.int .i64 (zs.getD j 0)))(o:(zs.take n).Pairwise (·<=·)) :
  Calls qe 81 #[.slice (some ⟨b,off,none⟩) n c,.int .i64 x] w fun e w'=>e = .returned (.tuple #[.int .i64 ((zs.take n).countP (·<x):Nat),.bool ((zs.take n).contains x)])/\∃ q,w'=w.drewN q:=Any.slices_BinarySearch_int Tryz.laysNm225 b off n c zs x w i g l o
open Go.RowKit Go.Sort in
theorem Tryz.slices_Sort_int_none(p cap w) :
  Calls qe 202 #[.slice p 0 cap] w fun e w'=>e = .returned (.tuple #[])/\w'=w:=Any.slices_Sort_int_none Tryz.lays189 p cap w
open Go.RowKit Go.Lib in
theorem Tryz.slices_BinarySearch_int_empty(a c x w) :
  Calls qe 81 #[.slice a 0 c,.int .i64 x] w fun e w'=>e = .returned (.tuple #[.int .i64 0,.bool false])/\w'=w:=Any.slices_BinarySearch_int_empty Tryz.laysNm225 a c x w
end Go.Proofs
namespace Go.Proofs.YtipbakanneogpaaGreatDoor
open Go Go.Ev Go.Proofs Tryz
namespace YS
open Y1
section
variable {mu:Mu}
theorem Z5(xs:List Int):(xs.map rI).flatten=xs.map aI:=by
 induction xs with
 |nil=>rfl
 |cons x xs g=>simp[g]
theorem qj1{lo b n}{xs:List Int}(j:lo<=b)(g:mu[b]?=some (.arr (xs.map aI)))(i:xs.length=n):OwnF lo mu 1 (.sl b 1 0 n) (xs.map rI):=by
 have p:b<mu.length:=(qk.1 g).1;refine⟨.inr ⟨b,zP1 i,by rw[g,Z5]⟩,fun r s o l e=>?_,zOm⟩;injection e;omega
theorem gPow : qe.globalNamed "internal/strconv.uint64pow10" = some 0 := by kernel_rfl
theorem tabIs{G w}(s : Sim G mu w.heap) : Lib.TabIs qe w "internal/strconv.uint64pow10" .u64 Lib.pow10Tab := by
  obtain⟨_,e,g,h⟩:=s.tab (0,[.int .u64 1,.int .u64 10,.int .u64 100,.int .u64 1000,.int .u64 10000,.int .u64 100000,.int .u64 1000000,.int .u64 10000000,.int .u64 100000000,.int .u64 1000000000,.int .u64 10000000000,.int .u64 100000000000,.int .u64 1000000000000,.int .u64 10000000000000,.int .u64 100000000000000,.int .u64 1000000000000000,.int .u64 10000000000000000,.int .u64 100000000000000000,.int .u64 1000000000000000000,.int .u64 10000000000000000000]) (by simp[tabs]);unfold Lib.TabIs World.var?;rw[gPow];simp only[Option.bind_some,h];rfl
def jE(n:Int):tP:=⟨(Lib.itoa n).toArray⟩
theorem itoaU(n)(o : -9223372036854775808<=n)(p:n<=9223372036854775807):qi qe 211 [aI n] (aS (jE n)):=by
 refine⟨call211,fun g w R l r=>?_⟩;obtain⟨v,rfl,C⟩:=r.one_inv;cases C;refine(Tryz.strconv_Itoa n o p w (tabIs l)).mono fun e U ⟨I,k,os,J⟩=>?_
 subst J;have st1:Stp ⟨g,[]⟩ [] w ⟨g,[]⟩ [] (w.drewN k):=⟨.refl _,l,fun _ _ _=>rfl,qr _,fun _ h => .inl h,fun _ h => .inl h,rfl,rfl,rfl,Nat.le_add_right _ _⟩;have T:=st1.trans l (Stp.grow st1.sim os);exact⟨g,_,I,fun _ h=>h,fun b j=>⟨T.sim.imm b j,.inl j⟩,⟨⟨T.os,T.tape,T.output,T.size,fun b j=>T.keep b j (fun⟨i,c,t,P,_⟩=>by simp at P)⟩,T.drawn⟩,.sc _ rfl⟩
theorem mulB(x y:Nat)(i:x<18446744073709551616)(j:y<18446744073709551616) :
  qi qe 270 [.sc (.int .u64 x),.sc (.int .u64 y)] (.tup [.sc (.int .u64 ((x*y / 18446744073709551616:Nat):Int)),.sc (.int .u64 ((x*y % 18446744073709551616:Nat):Int))]):=
 aC call270 (fun G h l r=>qjZ r) (fun w=>Tryz.bits_Mul x y i j w) fun G h => .tup _ _ rfl fun k z g=>by
  match k with
  | 0=>simp at g;subst g;exact .sc _ rfl
  | 1=>simp at g;subst g;exact .sc _ rfl
  |k+2=>simp at g
theorem mn{n}(g:0<=n)(i:n<=18446744073709551615):IntKind.u64.wrap n=n:=IntWalk.u64_in n ⟨g,i⟩
theorem qj2{b off len cells}(j:mu[b]?=some (.arr cells))(l:off+len<=cells.length):qE mu (.sl b 1 off len)=some (((cells.drop off).take len).map fun c=>[c]):=by
 simp only[qE,j];rw[if_pos zOm];congr 1;apply jS;intro i;by_cases g:i<len
 .simp only[zn,Qc g,zq,Nat.mul_one]
  rw[vu,if_pos g,uu,qA (show off+i<cells.length by omega)];rw[zu (show off+i<cells.length by omega)];rfl
 .rw [uK zSo,uK zSo]
theorem qj3(l:List AV):(l.map fun c=>[c]).flatten=l:=by
 induction l with
 |nil=>rfl
 |cons x l g=>simp only[z7,Qe,g];rfl
theorem qj4{l:List AV}(h:∀ c,c∈l->c.one=true):zo 1 (l.map fun c=>[c]):=fun r g=>by
 obtain⟨c,i,rfl⟩:=qn.1 g;exact⟨rfl,by simp[h c i]⟩
def rep(s:Int)(k m:Nat):List AV:=q9 m (aI s)++q9 (k-m) (aI 0)
theorem X0(s k m)(h:m<=k):(rep s k m).length=k:=by simp[rep];omega
theorem mq(s k m j)(h:j<=m):(rep s k m).take j=q9 j (aI s):=by
 rw[rep,List.take_append_of_le_length (zUs h),List.take_replicate,Nat.min_eq_left h]
theorem mr(s k m j)(g:m<=k)(h:m+j<=k):putCells (rep s k m) m (q9 j (aI s))=rep s k (m+j):=by
 rw[jg _ _ _ (by rw[X0 _ _ _ g];simpa using h)];rw[mq _ _ _ _ (qr m),List.replicate_append_replicate];have:List.drop (m+(q9 j (aI s)).length) (rep s k m)=q9 (k-(m+j)) (aI 0):=by
  rw[rep,List.length_replicate,List.drop_append,List.drop_of_length_le zSp,List.nil_append,List.length_replicate,List.drop_replicate];congr 1;omega
 rw[this];rfl
theorem qj5(s)(k:Nat)(hk:k<=5):qi qe 257 [lI [s],aI k] (lI (q9 k s)):=by
 refine qSV call257 func257 rfl ?_;have r:IntKind.u64.wrap (k:Int)=k:=mn zOm zOm;have t:IntKind.u64.wrap 1=1:=mn zOm zOm;have I:qq.wrap (k:Int)=k:=zWr;simp[go_sem,show ¬(k:Int)<0 by omega,r,t];refine tS (mulB 1 k zOm zOm) (.zs (.zs .nil)) ?_;rw[show 1*k / 18446744073709551616=0 by omega,show 1*k % 18446744073709551616=k by omega];simp[go_sem,show ¬(9223372036854775807:Int)<k by omega,I,show (k:Int)<=4294967296 by omega];refine XI (ys:=[[aI s]]) zSi rfl zSp rfl (yC [s]) ?_;have J:putCells (q9 k (aI 0)) 0 (([[aI s]]:List (List AV)).take k).flatten=rep s k (min 1 k):=by
  have:=mr s k 0 (min 1 k) zOm zOm;rw[yj]at this;rw[<-this];cases k with
  |zero=>rfl
  |succ k=>rw[show min 1 (k+1)=1 by omega];simp[rep]
 simp only[J];simp[go_sem];refine tT (fun n T=>∃ m,n=k-m/\m<=k/\(k=m\/1<=m)/\T.tm 7 = .sl 0 1 0 k/\T.tm 8=aI m/\T.mu=[.arr (rep s k m)]) (k-min 1 k) ?_ ?_
 .exact ⟨min 1 k,rfl,zOm,zOm,zSi,zSi,zSi⟩
 rintro n T ⟨m,rfl,l,R,j,o,em⟩;by_cases g:m<k
 .have p:qE [.arr (rep s k m)] (.sl 0 1 0 m)=some ((q9 m (aI s)).map fun c=>[c]):=by
   rw[qj2 (cells:=rep s k m) rfl (by rw[X0 _ _ _ l];omega)];rw[List.drop_zero,mq _ _ _ _ (qr m)]
  simp[go_sem,j,o,em,g];refine cJ zKr ?_;simp[go_sem,j,o,g,show m<=k by omega];refine XI (cells:=rep s k m) zSi rfl (by rw[X0 _ _ _ l];omega) p (qj4 fun c p=>by rw[List.eq_of_mem_replicate p];rfl) ?_;have U:putCells (rep s k m) m ((((q9 m (aI s)).map fun c=>[c]).take (k-m)).flatten)=rep s k (m+min m (k-m)):=by
   rw[<-List.map_take,qj3,List.take_replicate,Nat.min_comm];exact mr s k m _ l zOm
  simp only[U];simp[go_sem];refine Keep.loop (k-(m+min m (k-m))) zOm ⟨m+min m (k-m),rfl,zOm,zOm,zS1 j,?_,zSi⟩;simp[go_sem];rw[zWr]
 .obtain rfl:m=k:=by omega
  simp[go_sem,j,o,em];have:rep s m m=(q9 m s).map aI:=by simp[rep]
  rw[this];exact(qj1 (lo:=0) (mu:=[.arr ((q9 m s).map aI)]) (b:=0) (Nat.zero_le _) rfl zSp).rdI
end
end YS
namespace YF
open Y1 P1
section
variable {I:Type}
abbrev cPm(p:tP×Int):List AV:=[aS p.1,aI p.2]
abbrev lPm(l:List (tP×Int)):AV := .lst false (l.map cPm)
abbrev cPd(p:Pd):List AV:=aS p.name :: lPm p.params :: cNd p.body
abbrev lPd(l:List Pd):AV := .lst false (l.map cPd)
abbrev cFa(f:tP×Nd):List AV:=aS f.1 :: cNd f.2
abbrev lSo(l:List (tP×Bool)):AV := .lst false (l.map uT)
abbrev lFl(l:List Fld):AV := .lst false (l.map jY)
abbrev lFa(l:List (tP×Nd)):AV := .lst false (l.map cFa)
abbrev cTS(s:TS):List AV:=[lSo s.sS,lFl s.sA,lPd s.sT,lFa s.sP]
abbrev eTS(s:TS):AV := .agg (cTS s)
theorem UG(p):∀ c,c∈cPm p->HF c:=by
 intro c g;simp at g;rcases g with rfl|rfl<;>exact HF.sc _
theorem uB(l):HF (lPm l):=HF.lst fun r g c i=>by
 obtain⟨p,_,rfl⟩:=qn.1 g;exact UG p c i
theorem UH(p):∀ c,c∈cPd p->HF c:=by
 intro c g;simp only[cPd,qy]at g;rcases g with rfl|rfl|g
 .exact HF.sc _
 .exact uB _
 grind [vE]
theorem Zu(l):HF (lPd l):=HF.lst fun r g c i=>by
 obtain⟨p,_,rfl⟩:=qn.1 g;exact UH p c i
theorem qj6(p):∀ c,c∈cFa p->HF c:=by
 intro c g;simp only[cFa,qy]at g;rcases g with rfl|g
 .exact HF.sc _
 grind [vE]
theorem UI(l):HF (lFa l):=HF.lst fun r g c i=>by
 obtain⟨p,_,rfl⟩:=qn.1 g;exact qj6 p c i
theorem qj7(p):∀ c,c∈uT p->HF c:=by
 intro c g;simp at g;rcases g with rfl|rfl<;>exact HF.sc _
theorem UJ(l):HF (lSo l):=HF.lst fun r g c i=>by
 obtain⟨p,_,rfl⟩:=qn.1 g;exact qj7 p c i
theorem J5(l):HF (lFl l):=HF.lst fun r g c i=>by
 obtain⟨p,_,rfl⟩:=qn.1 g;exact nU p c i
theorem YO(s):∀ c,c∈cTS s->HF c:=by
 intro c g;simp only[cTS,qy,qG,or_false]at g;rcases g with rfl|rfl|rfl|rfl
 .exact UJ _
 .exact J5 _
 .exact Zu _
 .exact UI _
theorem zp(s):HF (eTS s):=HF.agg (YO s)
theorem qj8(n):(cNd n).length=5/\(cNd n).all AV.one=true:=⟨YI n,YJ n⟩
theorem Zv(p):(cPd p).length=7/\(cPd p).all AV.one=true:=⟨by simp[cPd,YI],by simp only[cPd,List.all_cons,YJ];rfl⟩
theorem mv(p):(cFa p).length=6/\(cFa p).all AV.one=true:=⟨by simp[cFa,YI],by simp only[cFa,List.all_cons,YJ];rfl⟩
def J6(P:qb)(l:AV){I:Type}(xs:List I)(enc:I->AV)(g:I->Bool):Prop:=
 ∃ f first j,l = .fn (.func f) first j/\∀ x,x∈xs->∃ i,qi P f i (aB (g x))/\WKs (first++[enc x]++j) i
def idxI(xs:List I)(g:I->Bool):Int:=match xs.findIdx? g with|some i=>i|none => -1
theorem X1{xs}{g:I->Bool}{k}(i)(l:g xs[k]=true)(o:∀(j:Nat)(h),j<k->g xs[j]=false):idxI xs g=k:=by
 grind [idxI,List.findIdx?_eq_some_iff_getElem]
theorem mw{xs}{g:I->Bool}(l:∀(j)(h:j<xs.length),g xs[j]=false):idxI xs g = -1:=by
 unfold idxI;have:xs.findIdx? g=none:=by
  rw[List.findIdx?_eq_none_iff];intro x i;obtain⟨j,o,rfl⟩:=Zi.1 i
  grind
 rw[this]
theorem my(xs)(g:I->Bool):decide (0<=idxI xs g)=xs.any g:=by
 unfold idxI;cases h:xs.findIdx? g with
 |none =>
  grind
 |some i =>
  grind [List.findIdx?_eq_some_iff_getElem,List.any_eq_true,qs]
theorem idxNd(full xs t g)(hf:J6 qe t xs (fun x => .agg (cNd x)) g)(hl:xs.length<=1000000000000):qi qe 228 [.lst full (xs.map cNd),t] (aI (idxI xs g)):=by
 refine qSV call228 func228 rfl ?_;obtain⟨f,first,l,rfl,hf⟩:=hf;simp[go_sem];refine qm.up xs.length (fun k T=>T.tm 0 = .lst full (xs.map cNd)/\T.tm 1 = .fn (.func f) first l/\T.tm 6 = .lst full (xs.map cNd)/\T.tm 7=aI xs.length/\T.tm 8=aI k/\T.mu=[]/\∀(j:Nat)(h:j<xs.length),j<k->g xs[j]=false) ?_ ?_
 .simp [go_sem]
 .rintro k T hk ⟨C,I,R,p,r,J,P⟩
  by_cases U:k=xs.length
  .subst U
   simp[go_sem,p,r,J];rw[mw (fun j h=>P j h h)];exact .zsc _
  .have i:k<xs.length:=by omega
   obtain⟨o,hs,hw⟩:=hf xs[k] (qs i);have a0:=z8 (n:=((k+1:Nat):Int)) zOm zOm;simp[go_sem,C,I,p,r,J,i,qj8 xs[k]];refine .inl ⟨_,.inl ⟨f,first,l,o,rfl,hs,.inl hw⟩,?_⟩;cases hg:g xs[k] with
   |true =>
    simp[go_sem];rw[X1 i hg (fun j h hj=>P j h hj)];exact .zsc _
   |false =>
    simp[go_sem,C,I,R,p,r,i]
    grind
theorem hasNd(full xs i g)(hf:J6 qe i xs (fun x => .agg (cNd x)) g)(l:HF i)(j:HF (.lst full (xs.map cNd)))(o:xs.length<=1000000000000):qi qe 206 [.lst full (xs.map cNd),i] (aB (xs.any g)):=by
 refine qSU call206 func206 rfl ?_;refine fR (idxNd full xs i g hf o) (.zk j (.zk l .nil)) ?_;rw[my];exact .zsc _
theorem X2(full xs t g)(hf:J6 qe t xs (fun x => .agg (cPd x)) g)(hl:xs.length<=1000000000000):qi qe 119 [.lst full (xs.map cPd),t] (aI (idxI xs g)):=by
 refine qSV call119 func119 rfl ?_;obtain⟨f,first,l,rfl,hf⟩:=hf;simp[go_sem];refine qm.up xs.length (fun k T=>T.tm 0 = .lst full (xs.map cPd)/\T.tm 1 = .fn (.func f) first l/\T.tm 6 = .lst full (xs.map cPd)/\T.tm 7=aI xs.length/\T.tm 8=aI k/\T.mu=[]/\∀(j:Nat)(h:j<xs.length),j<k->g xs[j]=false) ?_ ?_
 .simp [go_sem]
 .rintro k T hk ⟨C,I,R,p,r,J,P⟩
  by_cases U:k=xs.length
  .subst U
   simp[go_sem,p,r,J];rw[mw (fun j h=>P j h h)];exact .zsc _
  .have i:k<xs.length:=by omega
   obtain⟨o,hs,hw⟩:=hf xs[k] (qs i);have a0:=z8 (n:=((k+1:Nat):Int)) zOm zOm;simp[go_sem,C,I,p,r,J,i,Zv xs[k]];refine .inl ⟨_,.inl ⟨f,first,l,o,rfl,hs,.inl hw⟩,?_⟩;cases hg:g xs[k] with
   |true =>
    simp[go_sem];rw[X1 i hg (fun j h hj=>P j h hj)];exact .zsc _
   |false =>
    simp[go_sem,C,I,R,p,r,i]
    grind
theorem hasPd(full xs i g)(hf:J6 qe i xs (fun x => .agg (cPd x)) g)(l:HF i)(j:HF (.lst full (xs.map cPd)))(o:xs.length<=1000000000000):qi qe 231 [.lst full (xs.map cPd),i] (aB (xs.any g)):=by
 refine qSU call231 func231 rfl ?_;refine fR (X2 full xs i g hf o) (.zk j (.zk l .nil)) ?_;rw[my];exact .zsc _
end
end YF
namespace Y9
open Y1 Y2 P1 YF
abbrev cCk(c:Ck):List AV:=[lSo c.ts.sS,lFl c.ts.sA,lPd c.ts.sT,lFa c.ts.sP,aI c.calls,.lst false (c.timed.map fun b=>[aB b])]
abbrev eCk(c:Ck):AV := .ip (cCk c)
theorem jF(c):HF (eCk c):=HF.ip fun x g=>by
 simp only[cCk,qy,qG,or_false]at g;rcases g with rfl|rfl|rfl|rfl|rfl|rfl
 .exact UJ _
 .exact J5 _
 .exact Zu _
 .exact UI _
 .exact HF.sc _
 .exact HF.lst fun r j c i=>by
   obtain⟨b,_,rfl⟩:=qn.1 j;simp at i;subst i;exact HF.sc _
structure okTS (s:TS):Prop where
 ns:s.sS.length<=4
 nf:s.sA.length<=6
 np:s.sT.length<=8
 nfa:s.sP.length<=16
 sl:∀ x,x∈s.sS->x.1.size<=4611686018427387904
 fl:∀ f,f∈s.sA->1<=f.sS.length/\f.sS.length<=3/\∀ x,x∈f.sS->0<=x/\x<s.sS.length
 pl:∀ p,p∈s.sT->p.params.length<=8/\∀ x,x∈p.params->0<=x.2/\x.2<s.sS.length
structure okCk (c:Ck):Prop where
 ts:okTS c.ts
 calls:c.calls<=c.ts.sT.length
 timed:c.calls<=c.timed.length
theorem qj9(p nm):qi qe 255 [.agg (cPd p),.ip [aS nm]] (aB (decide (p.name=nm))):=by
 refine qSV call255 func255 rfl ?_;by_cases h:p.name=nm
 .simp [go_sem,h]
  exact .zsc _
 .simp [go_sem,h,j0 h]
  exact .zsc _
theorem mz(c)(o:okCk c)(nm):qi qe 227 [eCk c,aS nm] (aI (match zx c nm with|some i=>i|none => -1)):=by
 refine qSU call227 func227 rfl ?_;refine cJ zKr ?_;have C:=o.calls;have I:=o.ts.np;have j:List.take c.calls (c.ts.sT.map cPd)=(c.ts.sT.take c.calls).map cPd:=by rw[List.map_take]
 simp[go_sem,show (c.calls:Int)<=c.ts.sT.length by omega];refine⟨⟨_,_,⟨rfl,rfl⟩,fun r J=>by obtain⟨p,_,rfl⟩:=qn.1 J;exact(Zv p).1⟩,?_⟩;rw[j];have l:HF (.fn (.func 255) [] [.ip [aS nm]]):=HF.fn zSp (fun x t=>by simp at t;subst t;exact HF.ip fun y g=>by simp at g;subst g;exact HF.sc _);refine fR (X2 false (c.ts.sT.take c.calls) _ (fun p=>decide (p.name=nm)) ⟨_,_,_,rfl,fun p P=>⟨_,qj9 p nm,.zk (HF.agg (UH p)) (.zk (HF.ip fun y g=>by simp at g;subst g;exact HF.sc _) .nil)⟩⟩ zSo) (.zk (Zu _) (.zk l .nil)) ?_;exact .zsc _
theorem Qu{c}(i:okCk c){nm p}(h:zx c nm=some p):p<c.calls/\p<c.ts.sT.length:=by
 unfold zx at h;rw[List.findIdx?_eq_some_iff_getElem]at h;obtain⟨g,_⟩:=h;simp at g;omega
theorem mA(c)(o:okCk c)(n):qi qe 205 [eCk c,eNd n] (aB (zY c n.op n.name)):=by
 refine qSV call205 func205 rfl ?_;unfold zY yD;by_cases r:n.op=5
 .simp [go_sem,r];exact .zsc _
 by_cases g:n.op=48
 .simp [go_sem,g];exact .zsc _
 by_cases i:n.op=49
 .simp [go_sem,i];exact .zsc _
 by_cases j:n.op=50
 .simp [go_sem,j];exact .zsc _
 by_cases l:n.op=51
 .simp [go_sem,l];exact .zsc _
 by_cases h47:n.op=47
 .simp [go_sem,h47]
  refine tS (mz c o n.name) (.zk (jF c) (.zs .nil)) ?_;cases t:zx c n.name with
  |none =>
   simp[go_sem];exact .zsc _
  |some p =>
   obtain⟨C,J⟩:=Qu o t;have I:p<c.timed.length:=Yk C o.timed;simp[go_sem,I];exact .zsc _
 .simp [go_sem,r,g,i,j,l,h47]
  exact .zsc _
theorem mB(c):∀ ks,UA c ks=ks.any (yH c)
 | []=>rfl
 |k :: ks=>by simp[UA,mB c ks]
noncomputable abbrev szN(n:Nd):Nat:=SizeOf.sizeOf n
theorem yu{n k}(h:k∈n.sD):szN k<szN n:=by
 obtain⟨op,o,i,ks,p⟩:=n;have:SizeOf.sizeOf k<SizeOf.sizeOf ks:=List.sizeOf_lt_of_mem h;simp only[szN,Nd.mk.sizeOf_spec];omega
inductive Small:Nd->Prop where
 |mk (n:Nd) (h:n.sD.length<=1000) (hk:∀ k,k∈n.sD->Small k):Small n
theorem Small.len{n}(h:Small n):n.sD.length<=1000:=by cases h;assumption
theorem Small.kid{n k}(h:Small n)(g:k∈n.sD):Small k:=by
 cases h with
 |mk _ _ h=>exact h k g
theorem UK(c n):yH c n=(zY c n.op n.name||n.sD.any (yH c)):=by
 obtain⟨op,o,i,ks,p⟩:=n;simp[yH,mB,Nd.op,Nd.name,Nd.sD]
theorem mC(c)(j:okCk c):∀ m n,szN n<=m->Small n->qi qe 165 [eCk c,eNd n] (aB (yH c n))
 | 0,n,l,_=>by obtain⟨op,nm,i,ks,p⟩:=n;simp[szN]at l
 |m+1,n,l,o=>by
  refine qSV call165 func165 rfl ?_;rw[UK];simp[go_sem];refine tS (mA c j n) (.zk (jF c) (.zk (qK n) .nil)) ?_;cases C:zY c n.op n.name with
  |true =>
   simp[go_sem];exact .zsc _
  |false =>
   simp[go_sem];have g:HF (.fn (.func 165) [eCk c] []):=HF.fn (fun x r=>by simp at r;subst r;exact jF c) zSp;refine fR (hasNd false n.sD _ (yH c) ⟨_,_,_,rfl,fun k t=>⟨_,mC c j m k (zW1 (yu t)) (o.kid t),.zk (jF c) (.zk (qK k) .nil)⟩⟩ g (Uz _) (zW1 o.len)) (.zk (Uz _) (.zk g .nil)) ?_;exact .zsc _
end Y9
namespace E1
section
variable {l:List Int}
theorem mD{n:Int}(g:0<=n)(j:n<=20):∀ i,i<=3->0<=n ^ i/\n ^ i<=8000:=by
 have l:0<=n*n:=Int.mul_nonneg g g;have o:n*n<=20*20:=jJ j j g zOm;have r:0<=n*n*n:=Int.mul_nonneg l g;have t:n*n*n<=20*20*20:=jJ o j g zOm;intro i p
 match i,p with
 | 0,_=>rw[Int.pow_zero];omega
 | 1,_=>rw[Int.pow_succ,Int.pow_zero];omega
 | 2,_=>rw[Int.pow_succ,Int.pow_succ,Int.pow_zero,Int.one_mul];omega
 | 3,_=>grind
def powN(k:Int):Nat:=(min k 3).toNat
def powI(n k:Int):Int:=n ^ powN k
def sorted(l:List Int):Prop:=l.Pairwise (·<·)
instance (l:List Int):Decidable (sorted l):=inferInstanceAs (Decidable (l.Pairwise (·<·)))
theorem X3(h:sorted l){i j}(g:i<j)(o:j<l.length):l[i]' zOm<l[j]:=List.pairwise_iff_getElem.1 h i j zOm o g
def inOk(a b:Rl):Bool:=a.ts.all (fun t=>decide (t∈b.ts))
theorem UL(h:sorted l):l.Nodup:=List.Pairwise.imp (fun h e=>zOm) h
theorem mE{m}(g:sorted l)(i:sorted m)(h:∀ x,x∈l↔x∈m):l=m:=
 List.Perm.eq_of_pairwise (le:=fun a b:Int=>a<b) (fun a b _ _ g i=>zOm) g i ((List.perm_ext_iff_of_nodup (UL g) (UL i)).2 h)
def atN(l:List Int)(r:Int):Nat->Nat
 | 0=>0
 |n+1=>if r<=gI l n then atN l r n else n+1
theorem mF(l r):∀ n,atN l r n<=n
 | 0=>qr _
 |n+1=>by
  have:=mF l r n;rw[atN];split<;>omega
def addL(l:List Int)(r:Int):List Int:=if l[atN l r l.length]?=some r then l else l.take (atN l r l.length)++[r]++l.drop (atN l r l.length)
def ofL(ts:List Int):List Int:=ts.foldl addL []
theorem mG(l r):∀ n,(∀ i,atN l r n<=i->i<n->r<=gI l i)/\(0<atN l r n->gI l (atN l r n-1)<r)
 | 0=>⟨fun i _ h=>zOm,fun h=>by simp[atN]at h⟩
 |n+1=>by
  obtain⟨j,g⟩:=mG l r n;rw[atN];by_cases h:r<=gI l n
  .rw [if_pos h]
   refine⟨fun i o p=>?_,g⟩;by_cases e:i=n
   .rw [e];exact h
   grind
  .rw [if_neg h]
   grind
theorem qkA(R:sorted l)(r):sorted (addL l r)/\∀ x,x∈addL l r↔x∈l\/x=r:=by
 obtain⟨U,h2⟩:=mG l r l.length;have hk:=mF l r l.length;unfold addL;generalize atN l r l.length=k at *
 by_cases p:l[k]?=some r
 .rw [if_pos p]
  grind
 .rw [if_neg p]
  have o:∀ i j (g:i<l.length) (T:j<l.length),i<j->l[i]<l[j]:=fun i j g T t=>List.pairwise_iff_getElem.1 R i j g T t
  have P:∀ x,x∈l.take k->x<r:=by
   intro x C;obtain⟨i,g,e⟩:=Zi.1 C;rw[List.getElem_take]at e;have a0:i<k:=by simp at g;omega
   have:=h2 zOm;rw[uU zOm]at this;by_cases I:i=k-1
   .subst I;omega
   .have:=o i (k-1) zOm zOm zOm;omega
  have g:∀ x,x∈l.drop k->r<x:=by
   intro x C;obtain⟨i,g,e⟩:=Zi.1 C;rw[List.getElem_drop]at e;have J:k+i<l.length:=by simp at g;omega
   have h0:=U k zOm zOm;rw[uU zOm]at h0;have a1:l[k]' zOm≠r:=fun e=>p (by rw[qA zOm,e])
   by_cases I:i=0
   .subst I;simp at e;omega
   .have:=o k (k+i) zOm J zOm;omega
  refine⟨?_,fun x=>?_⟩
  .unfold sorted at *
   rw[zB,List.pairwise_append];refine⟨R.sublist (List.take_sublist _ _),?_,fun a ha b hb=>?_⟩
   .grind
   grind
  .have:x∈l↔x∈l.take k\/x∈l.drop k:=by
    rw[<-qM,vO]
   rw[this,qM,qM,qV];constructor
   .rintro ((h|h)|h)
    .exact .inl (.inl h)
    .exact .inr h
    .exact .inl (.inr h)
   .rintro ((h|h)|h)
    .exact .inl (.inl h)
    .exact .inr h
    .exact .inl (.inr h)
theorem mH:∀(ts l:List Int),sorted l->sorted (ts.foldl addL l)/\∀ x,x∈ts.foldl addL l↔x∈l\/x∈ts
 | [],l,h=>⟨h,fun x=>zSp⟩
 |t :: ts,l,h=>by
  obtain⟨g,i⟩:=qkA h t;obtain⟨j,o⟩:=mH ts _ g;refine⟨j,fun x=>?_⟩;rw[List.foldl_cons,o,i,qy];constructor
  .rintro ((h|h)|h)
   .exact .inl h
   .exact .inr (.inl h)
   .exact .inr (.inr h)
  .rintro (h|h|h)
   .exact .inl (.inl h)
   .exact .inl (.inr h)
   .exact .inr h
theorem Z6(ts):sorted (ofL ts)/\∀ x,x∈ofL ts↔x∈ts:=by
 obtain⟨g,i⟩:=mH ts [] (by simp_all[sorted])
 grind [ofL]
structure GR (n:Int) (r:Rl):Prop where
 ar1:1<=r.ar
 ar3:r.ar<=3
 val:∀ t,t∈r.ts->0<=t/\t<powI n r.ar
 srt:sorted r.ts
def unR(a b:Rl):Rl:=⟨a.ar,ofL (a.ts++b.ts)⟩
def inR(a b:Rl):Rl:=⟨a.ar,a.ts.filter fun t=>decide (t∈b.ts)⟩
def diR(a b:Rl):Rl:=⟨a.ar,a.ts.filter fun t=>decide (¬t∈b.ts)⟩
def prL(m:Int)(x y:List Int):List Int:=x.flatMap fun s=>y.map fun t=>s*m+t
def prR(n:Int)(a b:Rl):Rl:=⟨a.ar+b.ar,prL (powI n b.ar) a.ts b.ts⟩
def joL(n m:Int)(x y:List Int):List Int:=x.flatMap fun s=>(y.filter fun t=>decide (t / m=s % n)).map fun t=>s / n*m+t % m
def joR(n:Int)(a b:Rl):Rl:=⟨a.ar+b.ar-2,ofL (joL n (powI n (b.ar-1)) a.ts b.ts)⟩
def trR(n:Int)(a:Rl):Rl:=⟨2,ofL (a.ts.map fun t=>t % n*n+t / n)⟩
def clR(n:Int):Nat->Rl->Rl
 | 0,c=>c
 |f+1,c=>if (unR c (joR n c c)).ts.length=c.ts.length then c else clR n f (unR c (joR n c c))
def ovR(n:Int)(a b:Rl):Rl:=unR b ⟨a.ar,a.ts.filter fun t=>decide (∀ u,u∈b.ts->u / powI n (b.ar-1)≠t / powI n (b.ar-1))⟩
def idR(n:Int):Rl:=⟨2,(qu n.toNat).map fun x:Nat=>(x:Int)*n+x⟩
theorem qkB:sorted []:=List.Pairwise.nil
theorem J7{m:Nat}(i:sorted l)(h:∀ t,t∈l->0<=t/\t<(m:Int)):l.length<=m:=by
 have:=vb (l₂:=(qu m).map fun x:Nat=>(x:Int)) (UL i) fun x j=>by
  obtain⟨o,p⟩:=h x j;exact qn.2 ⟨x.toNat,yi.2 zOm,zOm⟩
 grind
theorem qkC(p)(h:sorted l):sorted (l.filter p):=List.Pairwise.filter p h
theorem Qv{n}(g:0<=n)(i:n<=20)(k):0<=powI n k/\powI n k<=8000:=mD g i _ (by unfold powN;omega)
theorem GR.len{n r}(i:0<=n)(j:n<=20)(g:GR n r):r.ts.length<=8000:=by
 have o:=Qv i j r.ar;have:=J7 (m:=(powI n r.ar).toNat) g.srt fun t l=>zW1 (g.val t l)
 omega
theorem aP{n a b}(g:GR n a)(i:GR n b)(e:a.ar=b.ar):GR n (unR a b):=by
 obtain⟨j,l⟩:=Z6 (a.ts++b.ts);refine⟨g.ar1,g.ar3,fun t o=>?_,j⟩;rcases qM.1 ((l t).1 o) with h|h
 .exact g.val t h
 .show 0<=t/\t<powI n a.ar
  rw[e];exact i.val t h
theorem GR.filter{n a}(g:GR n a)(p):GR n ⟨a.ar,a.ts.filter p⟩:=
 ⟨g.ar1,g.ar3,fun t i=>g.val t (List.mem_filter.1 i).1,qkC p g.srt⟩
end
end E1
namespace GA
def uh(a b:List Int):List Int:=a.filter fun x=>decide (x∈b)
def xorN(a b:List Int):Int:=a.length+b.length-2*(uh a b).length
theorem qkD{a:List Int}(h:a.Pairwise (·<·)):a.Nodup:=h.imp fun h=>by omega
def sumZ{I:Type}(f:I->I->Int):List I->List I->Int
 |x :: J,y :: i=>f x y+sumZ f J i
 |_,_=>0
section
variable {α:Type} {f:α->α->Int} {P:α->Prop}
end
end GA
namespace GB
structure Ed where
 kind:Int
 state:Int
 field:Int
 tup:Int
abbrev Sts:=List (List Rl)
def noR:Rl:=⟨0,[]⟩
end GB
namespace GC
end GC
namespace E3
open Y1 P1 E1
section
variable {I i:Type}
structure Md where
 sc:Sc
 sK:List (List Rl)
 loop:Int
abbrev cSt(s:List Rl):List AV:=[lRel s]
abbrev lSt(l:List (List Rl)):AV := .lst false (l.map cSt)
abbrev cMd(m:Md):List AV:=[lI m.sc.sC,aI m.sc.sN,lSt m.sK,aI m.loop]
abbrev eMd(m:Md):AV := .agg (cMd m)
abbrev XE(I:Type):=Except Int I
def bX(q:XE I)(g:I->XE i):XE i:=match q with
 | .error e => .error e
 | .ok a=>g a
theorem zr(a)(g:I->XE i):bX (.ok a) g=g a:=rfl
theorem zL(e)(g:I->XE i):bX (.error e) g = .error e:=rfl
def mapX(g:I->XE i):List I->XE (List i)
 | [] => .ok []
 |a :: l=>bX (g a) fun b=>bX (mapX g l) fun r => .ok (b :: r)
structure Pl where
 st:Nat
 env:List (tP×Int)
structure Mo where
 ts:TS
 m:Md
def Mo.n(x:Mo):Int:=sumI x.m.sc.sC
def Mo.nx(x:Mo)(s:Nat):Nat:=if s+1<x.m.sK.length then s+1 else x.m.loop.toNat
def Qw(x:Mo):Nat->Nat->List Nat->List Nat
 | 0,_,g=>g
 |f+1,s,g=>if s∈g then g else Qw x f (x.nx s) (g++[s])
def Mo.path(x:Mo)(s:Nat):List Nat:=Qw x (x.m.sK.length+1) s []
def zZ(nm:tP)(env:List (tP×Int)):Option Int:=env.foldl (fun r e=>if e.1=nm then some e.2 else r) none
def zJ(x:Mo)(i:Nat):List Int:=(qu (gI x.m.sc.sC i).toNat).map fun k:Nat=>sumI (x.m.sc.sC.take i)+k
def Qx(x:Mo)(i:Nat):List Int:=(qu ((gI x.m.sc.sC i).toNat-1)).map fun k:Nat=>(sumI (x.m.sc.sC.take i)+k)*x.n+(sumI (x.m.sc.sC.take i)+k+1)
def vR(fs:List Fld)(g:List Rl)(nm:tP):List Rl:=(fs.zip g).filterMap fun e=>if e.1.name=nm then some e.2 else none
def jd(x:Mo)(nm:tP):Nat->List (tP×Bool)->List Rl
 |_,[]=>[]
 |i,s :: g=>(if s.1=nm then [⟨1,zJ x i⟩] else [])++((if s.2=true/\s.1++jj=nm then [⟨1,(zJ x i).take 1⟩] else [])++((if s.2=true/\s.1++vj=nm then [⟨2,Qx x i⟩] else [])++jd x nm (i+1) g))
def Z7:List Rl->XE Rl
 | [] => .error 40
 | [r] => .ok r
 |_ => .error 44
def vS(x:Mo)(p:Pl)(nm:tP):XE Rl:=match zZ nm p.env with
 |some a => .ok ⟨1,[a]⟩
 |none=>Z7 (vR x.ts.sA (x.m.sK.getD p.st []) nm++jd x nm 0 x.ts.sS)
structure Den where
 E:Pl->XE Rl
 N:Pl->XE Int
 F:Pl->XE Bool
def noD:Den:=⟨fun _ => .error 43,fun _ => .error 43,fun _ => .error 43⟩
def kD(ds:List Den)(i:Nat):Den:=ds.getD i noD
def yn(ds:List Den)(p:Pl):XE (Rl×Rl):=bX ((kD ds 0).E p) fun a=>bX ((kD ds 1).E p) fun b=>if a.ar=b.ar then .ok (a,b) else .error 42
def binE(ds:List Den)(p:Pl):XE Rl:=bX ((kD ds 0).E p) fun a=>if a.ar=2 then .ok a else .error 42
def jk(ds:List Den)(nm:tP)(p:Pl):XE (List (Int×Bool)):=bX ((kD ds 0).E p) fun d=>if d.ar=1 then mapX (fun a=>bX ((kD ds 1).F ⟨p.st,p.env++[(nm,a)]⟩) fun b => .ok (a,b)) d.ts else .error 42
def wH(n:Int)(a b:Rl):XE Rl:=if 1<=a.ar+b.ar-2/\a.ar+b.ar-2<=3 then .ok (joR n a b) else .error 42
def Zw(n:Int)(a b:Rl):XE Rl:=if a.ar+b.ar<=3 then .ok (prR n a b) else .error 42
def opE(x:Mo)(op:Int)(nm:tP)(i:Int)(ds:List Den)(p:Pl):XE Rl:=
 if op=1 then vS x p nm
 else if op=2 then .ok ⟨i,[]⟩
 else if op=3 then .ok ⟨1,(qu x.n.toNat).map fun k:Nat=>(k:Int)⟩
 else if op=4 then .ok (idR x.n)
 else if op=5 then (kD ds 0).E ⟨x.nx p.st,p.env⟩
 else if op=6 then bX (yn ds p) fun q => .ok (unR q.1 q.2)
 else if op=7 then bX (yn ds p) fun q => .ok (inR q.1 q.2)
 else if op=8 then bX (yn ds p) fun q => .ok (diR q.1 q.2)
 else if op=9 then bX ((kD ds 0).E p) fun a=>bX ((kD ds 1).E p) fun b=>wH x.n a b
 else if op=10 then bX ((kD ds 0).E p) fun a=>bX ((kD ds 1).E p) fun b=>Zw x.n a b
 else if op=11 then bX (binE ds p) fun a => .ok (trR x.n a)
 else if op=12 then bX (binE ds p) fun a => .ok (clR x.n 200 a)
 else if op=13 then bX (binE ds p) fun a => .ok (unR (clR x.n 200 a) (idR x.n))
 else if op=14 then bX (yn ds p) fun q => .ok (ovR x.n q.1 q.2)
 else if op=15 then bX (jk ds nm p) fun l => .ok ⟨1,(l.filter fun e=>e.2).map fun e=>e.1⟩
 else .error 43
def opN(op i:Int)(ds:List Den)(p:Pl):XE Int:=
 if op=20 then .ok i
 else if op=21 then bX ((kD ds 0).E p) fun a => .ok (a.ts.length:Int)
 else if op=22 then bX ((kD ds 0).N p) fun a=>bX ((kD ds 1).N p) fun b => .ok (qq.wrap (a+b))
 else if op=23 then bX ((kD ds 0).N p) fun a=>bX ((kD ds 1).N p) fun b => .ok (qq.wrap (a-b))
 else .error 43
def untX(g h:Nat->XE Bool):List Nat->Bool->Bool->XE Bool
 | [],done,_ => .ok done
 |s :: l,done,failed=>bX (g s) fun a=>bX (h s) fun b=>untX g h l (done||(b&&!failed)) (failed||!a)
def opF(x:Mo)(op:Int)(nm:tP)(ds:List Den)(p:Pl):XE Bool:=
 if op=30 then .ok true
 else if op=31 then .ok false
 else if op=32 then bX (yn ds p) fun q => .ok (decide ((diR q.1 q.2).ts=[]))
 else if op=33 then bX (yn ds p) fun q => .ok (decide (q.1=q.2))
 else if op=34 then bX ((kD ds 0).E p) fun a => .ok (decide (0<a.ts.length))
 else if op=35 then bX ((kD ds 0).E p) fun a => .ok (decide (a.ts.length=0))
 else if op=36 then bX ((kD ds 0).E p) fun a => .ok (decide (a.ts.length=1))
 else if op=37 then bX ((kD ds 0).E p) fun a => .ok (decide (a.ts.length<=1))
 else if op=38 then bX ((kD ds 0).N p) fun a=>bX ((kD ds 1).N p) fun b => .ok (decide (a=b))
 else if op=39 then bX ((kD ds 0).N p) fun a=>bX ((kD ds 1).N p) fun b => .ok (decide (a<b))
 else if op=40 then bX ((kD ds 0).F p) fun a => .ok (!a)
 else if op=41 then bX ((kD ds 0).F p) fun a=>bX ((kD ds 1).F p) fun b => .ok (a&&b)
 else if op=42 then bX ((kD ds 0).F p) fun a=>bX ((kD ds 1).F p) fun b => .ok (a||b)
 else if op=43 then bX ((kD ds 0).F p) fun a=>bX ((kD ds 1).F p) fun b => .ok (!a||b)
 else if op=44 then bX ((kD ds 0).F p) fun a=>bX ((kD ds 1).F p) fun b => .ok (decide (a=b))
 else if op=45 then bX (jk ds nm p) fun l => .ok (l.all fun e=>e.2)
 else if op=46 then bX (jk ds nm p) fun l => .ok (l.any fun e=>e.2)
 else if op=47 then bX (mapX (fun d:Den=>d.E p) ds) fun _ => .error 45
 else if op=48 then bX (mapX (fun s=>(kD ds 0).F ⟨s,p.env⟩) (x.path p.st)) fun l => .ok (l.all id)
 else if op=49 then bX (mapX (fun s=>(kD ds 0).F ⟨s,p.env⟩) (x.path p.st)) fun l => .ok (l.any id)
 else if op=50 then (kD ds 0).F ⟨x.nx p.st,p.env⟩
 else if op=51 then untX (fun s=>(kD ds 0).F ⟨s,p.env⟩) (fun s=>(kD ds 1).F ⟨s,p.env⟩) (x.path p.st) false false
 else .error 43
def opD(x:Mo)(op:Int)(nm:tP)(i:Int)(ds:List Den):Den:=⟨opE x op nm i ds,opN op i ds,opF x op nm ds⟩
mutual
def den(x:Mo):Nd->Den
 | .mk op o i ks _=>opD x op o i (dens x ks)
def dens(x:Mo):List Nd->List Den
 | []=>[]
 |k :: ks=>den x k :: dens x ks
end
end
theorem mI(x):∀ ks,dens x ks=ks.map (den x)
 | []=>rfl
 |k :: ks=>by rw[dens,mI x ks,z7]
theorem vT(x n):den x n=opD x n.op n.name n.n (n.sD.map (den x)):=by
 obtain⟨op,o,i,ks,p⟩:=n;rw[den,mI];rfl
end E3
namespace E5
open Y1 E3
abbrev nk(op:Int)(ks:List Nd):Nd := .mk op ⟨#[]⟩ 0 ks 0
theorem qkE{I i j}(q)(g:I->XE i)(h:i->XE j):bX (bX q g) h=bX q fun a=>bX (g a) h:=by cases q<;>rfl
variable (x:Mo) (p:Pl) (f g d e:Nd) (nm:tP)
end E5
namespace E7
open E3
section
variable {N:Nat}
def it(x:Mo):Nat->Nat->Nat
 | 0,s=>s
 |k+1,s=>it x k (x.nx s)
theorem J8(x):∀ k s,it x (k+1) s=x.nx (it x k s)
 | 0,s=>rfl
 |k+1,s=>by rw[it,J8 x k (x.nx s)];rfl
theorem X4(x j):∀ k s,it x (k+j) s=it x k (it x j s)
 | 0,s=>by rw[yj];rfl
 |k+1,s=>by rw[Nat.add_right_comm,J8,X4 x j k s,J8]
structure OkX (x:Mo) (N:Nat):Prop where
 len:x.m.sK.length=N
 nx:∀ t,t<N->x.nx t<N
theorem X5{x}(h:OkX x N){s}(g:s<N):∀ k,it x k s<N
 | 0=>g
 |k+1=>by rw[J8];exact h.nx _ (X5 h g k)
abbrev its(x:Mo)(s r:Nat):List Nat:=(qu r).map fun k=>it x k s
theorem mJ(x s r):its x s (r+1)=its x s r++[it x r s]:=by
 unfold its;rw[List.range_succ,ze];rfl
theorem mK{x}(h:OkX x N){s}(l:s<N):∀ f k,N+1<=f+k->(its x s k).Nodup->∃ r,k<=r/\Qw x f (it x k s) (its x s k)=its x s r/\it x r s∈its x s r
 | 0,k,C,j=>by
  exfalso;have:=vb (l₂:=qu N) j fun t I=>by
   obtain⟨i,_,rfl⟩:=qn.1 I;exact yi.2 (X5 h l i)
  grind
 |f+1,k,C,j=>by
  rw[Qw];by_cases g:it x k s∈its x s k
  .rw [if_pos g];exact⟨k,qr _,rfl,g⟩
  .rw [if_neg g,<-mJ]
   have J:x.nx (it x k s)=it x (k+1) s:=(J8 x k s).symm;rw[J];obtain⟨r,a,b,c⟩:=mK h l f (k+1) zOm (by
    rw[mJ,ZL];refine⟨j,zSp,fun a P b p e=>?_⟩;rw[qV]at p;subst p;subst e;exact g P)
   grind
theorem qkF{x}(h:OkX x N){s}(g:s<N):∃ r,x.path s=its x s r/\∀ k,∃ j,j<r/\it x k s=it x j s/\j<=k:=by
 obtain⟨r,_,b,c⟩:=mK h g (N+1) 0 zOm (by simp[its]);refine⟨r,?_,?_⟩
 .unfold Mo.path;rw[h.len];exact b
 .obtain ⟨j,l,e⟩:=qn.1 c
  rw[yi]at l;intro k;induction k using Nat.strongRecOn with
  |_ k o =>
   by_cases p:k<r
   .exact ⟨k,p,rfl,qr _⟩
   .have t:it x k s=it x (k-r+j) s:=by
     have:k=(k-r)+r:=zOm;rw[this,X4,<-e,<-X4];congr 1;omega
    obtain⟨i,C,I,J⟩:=o (k-r+j) zOm;exact⟨i,C,by rw[t,I],zOm⟩
end
end E7
namespace EL
open E1 E3
theorem X6(x:Mo)(t:0<=x.m.loop)(C:x.m.sK.length<=1000000)(s)(I:s<x.m.sK.length):qi qe 131 [eMd x.m,aI s] (aI (x.nx s:Nat)):=by
 have i:qq.wrap ((x.m.sK.length:Int)-1)=(x.m.sK.length:Int)-1:=zWr;have l:=zWk s;unfold Mo.nx;refine qSV call131 func131 rfl ?_;by_cases g:s+1<x.m.sK.length
 .rw [if_pos g]
  have j:(s:Int)<(x.m.sK.length:Int)-1:=zOm;simp[go_sem,i,l,j];exact .zsc _
 .rw [if_neg g]
  have j:¬(s:Int)<(x.m.sK.length:Int)-1:=zOm;have o:(s:Int)=(x.m.sK.length:Int)-1:=zOm;have p:((x.m.loop.toNat:Nat):Int)=x.m.loop:=zOm;have r:(1:Int)<=x.m.sK.length:=zOm;rw[p];simp[go_sem,i,o,r];exact .zsc _
theorem mL(n)(t:0<=n)(C:n<=20)(k:Nat)(U:k<=3):qi qe 104 [aI n,aI k] (aI (n ^ k)):=by
 refine qSU call104 func104 rfl ?_;refine qm.up k (fun i T=>T.tm 0=aI n/\T.tm 5=aI (n ^ i)/\T.tm 6=aI k/\T.tm 7=aI i/\T.mu=[]) ?_ ?_
 .simp [go_sem]
 rintro i T hi ⟨I,l,o,p,r⟩;by_cases g:i<k
 .have J:=mD t C (i+1) zOm
  have P:=zWk i;rw[Int.pow_succ]at J;have R:qq.wrap (n ^ i*n)=n ^ i*n:=zWr;simp[go_sem,I,l,o,p,r,g,P,R];rw[Int.pow_succ]
 .have j:i=k:=by omega
  subst j;simp[go_sem,l,o,p,r];exact .zsc _
theorem idenU(n:Nat)(hn:n<=20):qi qe 183 [aI n] (eRel (idR n)):=by
 refine qSU call183 func183 rfl ?_;refine tT (fun m T=>∃ k t g,m=n-k/\k<=n/\T.tm 0=aI n/\T.tm 2 = .ptr 0 0/\T.tm 3 = .ptr 1 0/\T.tm 6=aI n/\T.tm 7=aI (k:Nat)/\T.mu=[.arr [aI 0,.lst true []],.arr [aI 2,t]]++g/\OwnF 2 ([.dead,.dead]++g) 1 t (((qu k).map fun x:Nat=>(x:Int)*n+x).map rI)) n ?_ ?_
 .exact ⟨0,.lst true [],[],zOm,zOm,zSi,zSi,zSi,zSi,zSi,zSi,by simpa using OwnF.nil zSp⟩
 rintro m T ⟨k,t,g,rfl,hk,e0,e2,C,I,P,hm,p⟩;have p:=p.low (low:=[.dead,.dead]) (low':=[.arr [aI 0,.lst true []],.arr [aI 2,t]]) rfl;by_cases R:k<n
 .have hp:0<=(k:Int)*n/\(k:Int)*n<=400:=⟨Int.mul_nonneg zOm zOm,by have:(k:Int)*n<=20*20:=jJ zOm zOm zOm zOm;omega⟩
  have w1:qq.wrap ((k:Int)*n)=(k:Int)*n:=zWr;have w2:qq.wrap ((k:Int)*n+k)=(k:Int)*n+k:=zWr;have w3:=zWk k;simp[go_sem,e0,C,I,P,R,hm,w1,w2];refine fV (low:=[.arr [aI 0,.lst true []],.arr [aI 2,t]]) (e:=3) (bt:=8) (z:=0) (xs:=(qu k).map fun x:Nat=>(x:Int)*n+x) (ys:=[(k:Int)*n+k]) zSi zSi zSi zOm p (by simp[qE]) zSo ?_;intro U l o;simp[go_sem,C,P,w3,o.cells,o.one];refine Keep.loop (n-(k+1)) zOm ⟨k+1,U,l,rfl,zOm,zS1 e0,zS1 e2,zS1 C,zS1 I,zSi,zSi,?_⟩;rw[List.range_succ,ze];simpa using o.low (low':=[.dead,.dead]) rfl
 .have a0:k=n:=by omega
  subst a0;simp[go_sem,e2,C,I,P,hm,p.one];exact Rd.rel (r:=idR k) (p.low (low:=[.arr [aI 0,.lst true []],.arr [aI 2,t]]) (low':=[.arr [aI 2,t],.arr [aI 2,t]]) rfl).rdI
end EL
namespace EJ
open E1
section
variable {g:Type}
def vo(p:g->g->Bool):g->List g->List g
 |_,[]=>[]
 |x,y :: l=>if p y x=true then vo p y l else y :: vo p y l
def cmpc(p:g->g->Bool):List g->List g
 | []=>[]
 |x :: l=>x :: vo p x l
theorem mM(p):∀(l)(x y:g),vo p x (l++[y])=vo p x l++(if p y ((x :: l).getLast zSp)=true then [] else [y])
 | [],x,y=>by
  by_cases i:p y x=true<;>simp[vo,i]
 |z :: l,x,y=>by
  have j:=mM p l z y;have e:(x :: z :: l).getLast zSp=(z :: l).getLast zSp:=List.getLast_cons zSp;simp only[yP,vo,e,j];split
  .rfl
  .rfl
theorem mN{j}(p)(l:List j)(k)(I:1<=k)(C):cmpc p (l.take (k+1))=cmpc p (l.take k)++(if p l[k] (l[k-1]' zOm)=true then [] else [l[k]]):=by
 have o:l.take (k+1)=l.take k++[l[k]]:=by rw[List.take_add_one,qA C];rfl
 have g:∀(q:l.take k≠[]),(l.take k).getLast q=l[k-1]' zOm:=by
  intro q;rw[List.getLast_eq_getElem,List.getElem_take];congr 1;simp;omega
 rw[o];cases t:l.take k with
 |nil =>
  have i:=congrArg List.length t;rw[List.length_take,List.length_nil]at i;omega
 |cons x r =>
  have:=g (by rw[t];simp);simp only[t]at this;simp only[yP,cmpc,mM,this]
abbrev eqI:Int->Int->Bool:=fun y x=>decide (y=x)
theorem X7:∀ l x,(x :: l).Pairwise (·<=·)->sorted (x :: vo eqI x l)/\∀ t,t∈x :: vo eqI x l↔t∈x :: l
 | [],x,_=>⟨List.pairwise_singleton _ _,fun t=>Iff.rfl⟩
 |y :: l,x,h=>by
  obtain⟨r,g⟩:=pO.1 h;have C:=r y (zg ..);by_cases e:y=x
  .have j:vo eqI x (y :: l)=vo eqI y l:=by simp[vo,e]
   rw[j,e];have I:(x :: l).Pairwise (·<=·):=by rw[e]at g;exact g
   obtain⟨o,i⟩:=X7 l x I;refine⟨o,fun t=>?_⟩;rw[i];simp
  .have j:vo eqI x (y :: l)=y :: vo eqI y l:=by simp[vo,e]
   rw[j];obtain⟨o,i⟩:=X7 l y g;refine⟨pO.2 ⟨fun t p=>?_,o⟩,fun t=>?_⟩
   .rcases qy.1 ((i t).1 p) with rfl|p
    .omega
    .have:=(pO.1 g).1 t p;omega
   .rw [qy,i,qy (l:=y :: l)]
theorem qkG(l)(h:l.Pairwise (·<=·)):sorted (cmpc eqI l)/\∀ t,t∈cmpc eqI l↔t∈l:=by
 cases l with
 |nil=>exact⟨List.Pairwise.nil,fun t=>Iff.rfl⟩
 |cons x l=>exact X7 l x h
theorem qkH(l):(srtI l).Pairwise (·<=·):=by
 have:=List.pairwise_mergeSort (le:=fun x y:Int=>decide (x<=y)) (fun a b c g i=>by simp at *;omega) (fun a b=>zSo) l;exact this.imp fun h=>zUs h
theorem qkI(l t):t∈srtI l↔t∈l:=(List.mergeSort_perm l _).mem_iff
theorem qkJ(l):cmpc eqI (srtI l)=ofL l:=by
 obtain⟨g,i⟩:=qkG _ (qkH l);obtain⟨j,o⟩:=Z6 l;exact mE g j fun t=>by rw[i,o,qkI]
end
end EJ
namespace EM
theorem sortE{mu b zs}(i:mu[b]?=some (.arr (zs.map aI)))(p:zs.length<=1000000000) :
  qD qe 202 [.sl b 1 0 zs.length] mu fun e m=>e = .ret (.tup [])/\m=mu.set b (.arr ((srtI zs).map aI)):=by
 have:=qj0 (P:=qe) call202 (fun g off cap zs w j l o=>Tryz.slices_Sort_int g off cap zs w j l o) (mu:=mu) (b:=b) (off:=0) (cells:=zs.map aI) (zs:=zs) i
  (fun k n h=>by rw[yj,zn,h];rfl) zOm zSp
 have e:putCells (zs.map aI) 0 ((srtI zs).map fun n => .sc (.int .i64 n))=(srtI zs).map aI:=by
  rw[jg _ _ _ (by simp[J4])];simp[J4]
 rw[e]at this;exact this
end EM
end Go.Proofs.YtipbakanneogpaaGreatDoor
