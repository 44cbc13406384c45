/-
  Own library, part 3: an abstract reading of values and a calculus over it; contracts of functions; plain lemmas.
-/
import Derived.Test.YthkdjhkmlmjkbaaGreatDoorProg
import Derived.KernelRfl
import Derived.RecoverIn
import Derived.Sort.Grow
import Derived.Shelf.Strconv.Itoa0
import Derived.Shelf.Strconv.Itoa1
import Derived.Shelf.Spec.SlicesInsertGrow
import Derived.Shelf.LaysM
import Derived.Shelf.Strconv.Itoa2
import Derived.Shelf.Strconv.Itoa3
import Derived.Shelf.Sort.Plain
import Derived.Shelf.Bits.Mul64
import Derived.Ground.Names2Prog
import Derived.Shelf.Slices.Clone
import Derived.Shelf.Slices.SearchI
import Derived.Shelf.Slices.Delete
import Derived.Shelf.Slices.In.SortNone
import Derived.Shelf.Slices.Empties
import Derived.Test.YthkdjhkmlmjkbaaGreatDoorMb
set_option linter.unusedVariables false
set_option linter.unusedSimpArgs false
set_option maxRecDepth 100000
open Go renaming Program->qb,Oper->us,Operand->zA,Code->j3,FuncId->j1,Value->qg,undef->j2,TypeId->qd,World->qf
open Go.Proofs.Tryz renaming prog->qc
open List renaming getElem?_eq_some_iff->qi,mem_cons->ql,mem_map->qp,range->qq,getElem_mem->qv,getElem?_eq_getElem->qx,mem_cons_of_mem->qB,not_mem_nil->qG,mem_append->qI,mem_singleton->qL,mem_cons_self->qN,length_append->qW,all_eq_true->q8,take_length->za,getElem?_append_left->ze,getD_eq_getElem?_getD->zf,mem_of_getElem?->zh,getElem?_map->zj,take_of_length_le->zn,replicate->zo,drop_eq_getElem_cons->zB,length_cons->zC,map_append->zF,getElem?_append_right->zK,ext_getElem?->zZ,getElem?_set_self->yq,getElem?_take->yG,mem_filter->yT,pairwise_cons->ji,nodup_cons->jz,getElem?_eq_none->jG,map_cons->jH,getElem?_set_ne->jV,getElem?_drop->jX,getElem?_toArray->vt,getElem_of_mem->um,take_append_drop->un,flatten_cons->uY,mem_iff_getElem->wC,getElem?_range->Je,mem_flatten->V5
open Option.some renaming injEq->qo
open Nat renaming le_refl->qs,le_of_ble_eq_true->yh,zero_add->yI,lt_succ_iff_lt_or_eq->V7
open Bool renaming and_eq_true->qu,eq_iff_iff->jZ,or_eq_true->vr
open Go.IntKind renaming i64->qw
open Option renaming map_some->qZ,map_eq_some_iff->yA
namespace Go.Ev
open Go Go.RowKit
section
variable {g:AV->St->Prop}{ops:Array us}{pl:Pol}{P:qb}
theorem qy.mono{det C op ev mu K K' Kp I}(h:qy P pl det C op ev mu K Kp)
  (o:∀ v m,K v m->K' v m) (U:∀ v m,Kp v m->I v m):qy P pl det C op ev mu K' I:=by
 cases op<;>simp only[qy]at h⊢<;>try (exact h.elim)
 case move=>exact o _ _ h
 case assign=>exact o _ _ h
 case makeFunc=>exact o _ _ h
 case pick=>grind
 case alloc=>obtain⟨z,j,l,p⟩:=h;exact⟨z,j,l,o _ _ p⟩
 case box =>
  obtain⟨j,l⟩:=h;refine⟨j,?_⟩;split at l
  .grind
  grind
 case build=>obtain⟨t,z,j,l⟩:=h;exact⟨t,z,j,o _ _ l⟩
 case buildSlice=>obtain⟨z,j,l⟩:=h;exact⟨z,j,o _ _ l⟩
 case load=>obtain⟨z,j,l⟩:=h;exact⟨z,j,o _ _ l⟩
 case store=>obtain⟨z,j,l⟩:=h;exact⟨z,j,o _ _ l⟩
 case nilCheck=>obtain⟨z,j,l⟩:=h;exact⟨z,j,o _ _ l⟩
 case binOp =>
  split at h
  .rename_i hy
   simp only[if_pos hy];exact h.mono fun z hz=>o _ _ hz
  .rename_i hy
   simp only[if_neg hy];obtain⟨z,j,l⟩:=h;exact⟨z,j,o _ _ l⟩
 case unOp=>obtain⟨z,j,l⟩:=h;exact⟨z,j,o _ _ l⟩
 case convert=>obtain⟨t,z,j,l⟩:=h;exact⟨t,z,j,o _ _ l⟩
 case makeInterface=>grind
 case makeSlice=>obtain⟨z,j,l⟩:=h;exact⟨z,j,o _ _ l⟩
 case slice=>obtain⟨t,z,j,l⟩:=h;exact⟨t,z,j,o _ _ l⟩
 case fieldAddr=>obtain⟨z,j,l⟩:=h;exact⟨z,j,o _ _ l⟩
 case field=>obtain⟨z,j,l⟩:=h;exact⟨z,j,o _ _ l⟩
 case indexAddr=>obtain⟨z,j,l⟩:=h;exact⟨z,j,o _ _ l⟩
 case index=>obtain⟨z,j,l⟩:=h;exact⟨z,j,o _ _ l⟩
 case extract=>obtain⟨z,j,l⟩:=h;exact⟨z,j,o _ _ l⟩
 case typeAssert=>obtain⟨z,j,l⟩:=h;exact⟨z,j,o _ _ l⟩
 case makeMap=>grind
 case lookup=>obtain⟨z,j,l⟩:=h;exact⟨z,j,o _ _ l⟩
 case mapUpdate=>obtain⟨z,j,l⟩:=h;exact⟨z,j,o _ _ l⟩
 case insert=>obtain⟨z,j,l⟩:=h;exact⟨z,j,o _ _ l⟩
 case mapEntry=>obtain⟨z,j,l⟩:=h;exact⟨z,j,o _ _ l⟩
 case entryStore=>obtain⟨z,j,l⟩:=h;exact⟨z,j,o _ _ l⟩
 case range=>obtain⟨z,j,l⟩:=h;exact⟨z,j,o _ _ l⟩
 case next=>obtain⟨t,a0,b,T,seen,j,l,p,J⟩:=h;exact⟨t,a0,b,T,seen,j,l,fun i e a c=>o _ _ (p i e a c),fun a=>o _ _ (J a)⟩
 case entry=>obtain⟨z,j,l⟩:=h;exact⟨z,j,o _ _ l⟩
 case panic=>grind
 case call c =>
  obtain⟨callee,args,a1⟩:=c;cases callee with
  |invoke r m=>exact h.elim
  |value f =>
   rcases h with ⟨v,j,l⟩|⟨j,⟨g,fi,ca,R,l,p,J,h5⟩|⟨i,R,l,p,J⟩⟩
   .exact .inl ⟨v,j,o _ _ l⟩
   .exact .inr ⟨j,.inl ⟨g,fi,ca,R,l,p,fun r m h=>o _ _ (J r m h),fun r m h=>U _ _ (h5 r m h)⟩⟩
   .exact .inr ⟨j,.inr ⟨i,R,l,p,fun b m h=>o _ _ (J b m h)⟩⟩
  |builtin b =>
   cases b<;>simp only at h⊢<;>try (first | (obtain⟨z,m,j,l⟩:=h;exact⟨z,m,j,o _ _ l⟩) | (obtain⟨z,j,l⟩:=h;exact⟨z,j,o _ _ l⟩))
   obtain⟨s,x,j,h⟩:=h;exact⟨s,x,j,h.mono o⟩
theorem awpS.mono{det Q j p}(t:∀ st,Q st->j st)(i:∀ v st,p v st->g v st) :
  ∀ l st,awpS P pl det ops l Q p st->awpS P pl det ops l j g st:=by
 intro l;induction l with
 |nil=>intro st h;exact t st h
 |cons o l r =>
  intro st ⟨b,C,I,J⟩;exact⟨b,C,fun e=>(I e).mono (fun v m h=>r _ h) (fun v m h=>i _ _ h),fun e=>r _ (J e)⟩
theorem awpT.mono{Q p t}(I:∀ st,Q st->p st)(i:∀ v st,t v st->g v st) :
  ∀ l st,awpT P pl ops Q t l st->awpT P pl ops p g l st:=by
 intro l;induction l with
 |nil=>intro st h;exact I st h
 |cons e l C =>
  obtain⟨j,k,r⟩:=e;intro st h;simp only[awpT]at h⊢;cases J:ops[j]? with
  |none=>grind
  |some o =>
   rw[J]at h;simp only at h⊢;obtain⟨b,R,T,U⟩:=h;exact⟨b,R,fun e=>qy.mono (T e) (fun v m h=>⟨h.1,C _ h.2⟩) (fun v m h=>⟨h.1,fun tm=>i _ _ (h.2 tm)⟩),fun e=>C _ (U e)⟩
theorem awp.mono:∀(c){Q o st},awp P pl c Q st->(∀ e st,Q e st->o e st)->awp P pl c o st:=by
 intro c;induction c with
 |skip=>intro Q o st h j;exact j _ _ h
 |label l=>intro Q o st h j;exact j _ _ h
 |exit i=>intro Q o st h j;exact j _ _ h
 |ret=>intro Q o st h j;exact j _ _ h
 |region id g a3 =>
  intro Q o st h j;rcases h with ⟨p,r⟩|⟨p,r⟩
  .exact .inl ⟨p,awpS.mono (fun st h=>j _ _ h) (fun v st h=>j _ _ h) _ _ r⟩
  .obtain ⟨st1,C,r⟩:=r
   refine .inr ⟨p,st1,C,?_⟩;rcases r with (⟨J,U⟩|⟨n,J,U⟩|⟨a0,d,g1,g2,g3,g4,g5⟩)|⟨O,J,a2,U⟩
   .exact .inl (.inl ⟨J,awpS.mono (fun st h=>j _ _ h) (fun v st h=>j _ _ h) _ _ U⟩)
   .exact .inl (.inr (.inl ⟨n,J,awpS.mono (fun st h=>awpS.mono (fun st h=>j _ _ h) (fun v st h=>j _ _ h) _ _ h) (fun v st h=>j _ _ h) _ _ U⟩))
   .exact .inl (.inr (.inr ⟨a0,d,g1,g2,g3,awpS.mono (fun st h=>j _ _ h) (fun v st h=>j _ _ h) _ _ g4,awpS.mono (fun st h=>j _ _ h) (fun v st h=>j _ _ h) _ _ g5⟩))
   .exact .inr ⟨O,J,a2,awpT.mono (fun st h=>j _ _ h) (fun v st h=>j _ _ h) _ _ U⟩
 |seq a b R T =>
  intro Q o st h j;refine R (Q:=seqQ (awp P pl b Q) Q) h (fun e st h=>?_);cases e with
  |normal=>exact T h j
  |exit i=>exact j _ _ h
  |ret=>exact j _ _ h
  |pan v=>exact j _ _ h
 |cond a4 a b R T=>intro Q o st ⟨t,h0,p,r⟩ j;exact⟨t,h0,fun e=>R (p e) j,fun e=>T (r e) j⟩
 |block id b ih =>
  intro Q o st h j;refine ih (Q:=j9 id Q) h (fun e st h=>?_);cases e with
  |normal=>exact j _ _ h
  |exit i =>
   simp only[j9]at h⊢;split at h
   .grind
   grind
  |ret=>exact j _ _ h
  |pan v=>exact j _ _ h
 |loop b ih =>
  intro Q o st ⟨z,I,n,st1,C,h0,p⟩ j;have j:∀ e st,fzQ z Q e st->fzQ z o e st:=fun e st h=>by
   cases z with
   |false=>exact j e st h
   |true=>exact⟨h.choose,h.choose_spec.1,h.choose_spec.2.1,j e _ h.choose_spec.2.2⟩
  refine⟨z,I,n,st1,C,h0,fun n st hI=>ih (Q:=uA I n (fzQ z Q)) (p n st hI) (fun e st h=>?_)⟩;cases e with
  |normal=>exact h
  |exit i=>exact j _ _ h
  |ret=>exact j _ _ h
  |pan v=>exact j _ _ h
 |scope b ih=>intro Q o st h j;exact ih h j
 |rangeFunc f ps a5 b a6 a7 =>
  intro Q o st ⟨z,gf,a1,rows,I,Ix,p,r,J,h6,h7,h8⟩ j;have j:∀ e st,fzQ z Q e st->fzQ z o e st:=fun e st h=>by
   cases z with
   |false=>exact j e st h
   |true=>exact⟨h.choose,h.choose_spec.1,h.choose_spec.2.1,j e _ h.choose_spec.2.2⟩
  exact⟨z,gf,a1,rows,I,Ix,p,r,J,h6,fun mu h=>j _ _ (h7 mu h),fun e mu h=>j _ _ (h8 e mu h)⟩
 |goto l=>intro Q o st h j;exact h.elim
 |refuse w=>intro Q o st h j;exact h.elim
def upQ(I:Nat->St->Prop)(N k:Nat)(Q:qJ->St->Prop):qJ->St->Prop
 | .normal,st=>k<N/\I (k+1) st
 |e,st=>Q e st
section
variable (Q:qJ->St->Prop) (st:St) (I:Nat->St->Prop) (N k:Nat)
@[go_sem ↓] theorem qpP:(upQ I N k Q .normal st=(k<N/\I (k+1) st))/\(∀ i,upQ I N k Q (.exit i) st=Q (.exit i) st)/\(upQ I N k Q .ret st=Q .ret st):=by and_intros<;>intros<;>exact eqS rfl
end
end
section
variable {K i:AV->Mu->Prop}{R:Bool->Mu->Prop}{g:j1}{args args' caps xs ys:List AV}{mu:Mu}{P:qb}{Q:qJ->St->Prop}
theorem qn.up{pl body st}(N I)(j:I 0 st)(h:∀ k st,k<=N->I k st->awp P pl body (upQ I N k Q) st):qn P pl body Q st:=by
 refine cG (fun n st=>∃ k,n=N-k/\k<=N/\I k st) N ⟨0,zOm,zOm,j⟩ ?_;rintro n st ⟨k,rfl,l,o⟩;refine awp.mono body (h k st l o) (fun e st g=>?_);cases e with
 |normal=>exact⟨N-(k+1),zW1 g.1,k+1,rfl,g.1,g.2⟩
 |exit i=>exact g
 |ret=>exact g
 |pan v=>exact g
theorem qn.upF{pl body st}(N I)(j:I 0 st)(h:∀ k st,k<=N->I k st->awp P pl body (upQ I N k (FzQ Q)) st):qn P pl body Q st:=by
 refine fX (fun n st=>∃ k,n=N-k/\k<=N/\I k st) N ⟨0,zOm,zOm,j⟩ ?_;rintro n st ⟨k,rfl,l,o⟩;refine awp.mono body (h k st l o) (fun e st g=>?_);cases e with
 |normal=>exact⟨N-(k+1),zW1 g.1,k+1,rfl,g.1,g.2⟩
 |exit i=>exact g
 |ret=>exact g
 |pan v=>exact g
theorem kn(mu):∀ k,cutM (fun i=>!false) mu k=mu:=by
 induction mu with
 |nil=>intro k;rfl
 |cons c l g =>
  grind [cutM]
theorem FzQ.skip{e st}(h:Q e st):FzQ Q e st:=by
 refine⟨st,⟨fun _=>false,(kn _ 0).symm,fun i => .same _⟩,?_,h⟩
 grind
theorem FzQ.one{i d b x st}(g:Rd (cutM (fun j=>j == b) st.mu 0) (st.tm d) x)(k:Q (.exit i) (st.put (some d) x (cutM (fun j=>!(j == b)) st.mu 0))):FzQ Q (.exit i) st:=by
 refine⟨_,⟨fun j=>j == b,rfl,fun j=>?_⟩,trivial,k⟩;simp only[St.put];split
 .rename_i h;subst h;exact .rd _ _ g
 .exact .same _
theorem cY{det v}(j:qh P g args' v)(l:WKs args args')(k:K v mu) :
  qe P det mu (.fn (.func g) [] []) args K i:=
 .inl ⟨v,.inl ⟨g,[],[],args',rfl,j,.inl (zUs l)⟩,k⟩
theorem fY{det v Q}(j:qh P g args' v)(l:WKs args args')(k:Q)(e:K v mu=Q:=by simp[go_sem];rfl):qe P det mu (.fn (.func g) [] []) args K i:=cY j l (e.mpr k)
theorem fH{det v}(j:qh P g args' v)(l:Rds mu args args')(hf:FL v)(k:K v mu) :
  qe P det mu (.fn (.func g) [] []) args K i:=
 .inl ⟨v,.inl ⟨g,[],[],args',rfl,j,.inr ⟨zUs l,hf⟩⟩,k⟩
theorem fU{R}(j:qU P g (args++caps) mu R)(k:∀ r m,R (.ret r) m->K r m)(kp:∀ r m,R (.pan r) m->i r m) :
  qe P false mu (.fn (.func g) [] caps) args K i:=
 .inr ⟨rfl,.inl ⟨g,[],caps,R,rfl,zUs j,k,kp⟩⟩
theorem qe.yield{i g}(h:u6 P i args mu R)(k:∀ b m,R b m->K (.sc (.bool b)) m):qe P false mu (.yl i) args K g:=
 .inr ⟨rfl,.inr ⟨i,R,rfl,h,k⟩⟩
theorem u6.hid{i j c}(I:mu[j]?=some c)(J:c ≠ .dead)(h:u6 P i args (mu.set j .dead) R):u6 P i args mu fun b T=>∃ m,R b m/\m[j]?=some .dead/\T=m.set j c:=by
 intro G w U s ra l p hb;obtain⟨fn,g,r,o,h1,h2⟩:=h G w U (s.hid j) ra l p hb;refine⟨fn,g,r,o,h1,h2.mono ?_⟩;rintro e w' ⟨b,G',m,rfl,t,hR⟩;have C:j<G.blk.length:=by rw[s.len];exact(qi.1 I).1
 obtain⟨g1,g2,g3⟩:=t.unhid s I J (b:=(G.blk[j]'C).1) (t:=(G.blk[j]'C).2) (zP1 C);exact⟨b,G',_,rfl,g3,m,hR,g1,rfl⟩
theorem jo.of{f rows}(g:yk P f)
  (h:∀ i I j,(∀ k mu,I k mu->I k (mu++[.dead]))->(∀ mu,j mu->j (mu++[.dead]))->Yld P i rows I j->∀ mu,I 0 mu ->
   qU P f (.yl i :: caps) mu fun e l=>∃ r,e = .ret r/\(I rows.length l\/j l)):jo P f caps rows:=⟨g,h⟩
theorem WKs.nil:WKs [] []:=trivial
theorem WKs.cons{x y}(h:WK x y)(t:WKs xs ys):WKs (x :: xs) (y :: ys):=⟨h,t⟩
theorem WKs.zk{x}(h:HF x)(t:WKs xs ys):WKs (x :: xs) (x :: ys):=⟨WK.hf h,t⟩
theorem WKs.zs{v}(t:WKs xs ys):WKs (.sc v :: xs) (.sc v :: ys):=⟨WK.hf (HF.sc _),t⟩
def Own(mu:Mu)(sz:Nat)(av:AV)(xs:List (List AV)):Prop:=
 (av = .lst true xs)\/∃ b,av = .sl b sz 0 xs.length/\mu[b]?=some (.arr xs.flatten)
theorem Own.rows{sz av xs}(h:Own mu sz av xs)(w:yd sz xs):qF mu av=some xs:=by
 rcases h with rfl|⟨b,rfl,j⟩
 .rfl
 .have l:=yc w
  simp only[qF,j];rw[if_pos zOm];congr 1;apply zZ;intro i;by_cases g:i<xs.length
  .simp only[zj,Je g,qZ,yI]
   rw[qx g];congr 1;have o:=w _ (qv g);rw[<-Ke w i,zB g,uY,List.take_append_of_le_length zOm,zn zOm]
  grind
theorem Own.rd{sz av xs}(h:Own mu sz av xs)(w:yd sz xs)(hf:∀ r,r∈xs->∀ c,c∈r->HF c):Rd mu av (.lst false xs):=by
 rcases h with rfl|⟨b,rfl,l⟩
 .exact .wk _ true _ (.hf _ (HF.lst hf))
 .have o:=yc w
  refine .sl b sz 0 xs.length xs.flatten xs l zOm rfl w (fun k x y i j=>?_);rw[yI,j]at i;cases i;obtain⟨r,p,g⟩:=V5.1 (zh j);exact .hf _ (hf r p _ g)
end
end Go.Ev
namespace Go.Ev
open Go Go.RowKit
section
variable {R:AEnd->Mu->Prop}{f:j1}{args:List AV}{mu:Mu}{P:qb}
def Z5(mu:Mu)(give:Nat->Bool):List AV->List AV->Prop
 | [],[]=>True
 |x :: J,y :: r=>(x=y\/Rd (cutM give mu 0) x y)/\Z5 mu give J r
 |_,_=>False
theorem Z5.get{give}:∀{xs ys},Z5 mu give xs ys->ys.length=xs.length/\∀(k:Nat) x y,xs[k]?=some x->ys[k]?=some y->x=y\/Rd (cutM give mu 0) x y
 | [],[],_=>⟨rfl,zSp⟩
 |x :: xs,y :: ys,⟨h,t⟩=>by
  obtain⟨j,l⟩:=Z5.get t;refine⟨zP1 j,fun k a b g i=>?_⟩;cases k with
  |zero=>simp at g i;subst g;subst i;exact h
  |succ k=>exact l k a b (zUs g) (zUs i)
 | [],_ :: _,h=>h.elim
 |_ :: _,[],h=>h.elim
theorem qU.freeze{args1}(give)(o:Z5 mu give args args1)(h:qU P f args1 (cutM (fun i=>!give i) mu 0) R):qU P f args mu R:=by
 obtain⟨g,h⟩:=h;obtain⟨I,o⟩:=o.get;refine⟨g,fun G w j s t=>?_⟩;have p:zw (frz G give mu) w.heap args1 j:=by
  refine⟨by rw[I];exact t.1,fun k y J=>?_⟩;have T:k<args.length:=by grind
  have C:args[k]?=some args[k]:=qx T;have U:=t.2 k _ C;rcases o k _ y C J with e|r
  .rw [<-e];exact U.mono (u4 s give).le (Ext.refl _ _)
  grind [Ui]
 refine(h (frz G give mu) w j (Uh s give) p).mono fun e w' ⟨G',l,st,hR⟩=>⟨G',l,(u4 s give).trans s st,hR⟩
theorem fJ(h:qU P f args mu fun e m=>R e m\/∃(g:Nat->Bool) (x y:AV),e = .ret x/\Gv m g x y/\R (.ret y) (cutM (fun i=>!g i) m 0)):qU P f args mu R:=by
 obtain⟨p,h⟩:=h;refine⟨p,fun G w j s I=>(h G w j s I).mono fun e w' ⟨J,l,st,o⟩=>?_⟩;rcases o with ⟨r,v,o,t,C⟩|⟨r,v,o,t,C⟩
 .rcases o with o|⟨g,x,y,T,U,o⟩
  .grind
  .cases T
   exact⟨frz J g l,_,st.trans s (u4 st.sim g),.inl ⟨y,v,o,t,U.sound st.sim C⟩⟩
 grind
theorem qh.toSound{args' v}(mu)(h:qh P f args' v)(r:WKs args args'):qU P f args mu fun e m=>e = .ret v/\m=mu:=by
 refine⟨h.1,fun G w j s t=>?_⟩;have C:VRel G w.heap (.fn (.func f) [] []) (.func (.func f) #[] #[]) := .fn _ _ _ _ _ rfl rfl (fun k x i=>by simp at i) (fun k x i=>by simp at i);obtain⟨g,first,o,e,_,p⟩:=KI s C t (.inl ⟨f,[],[],args',rfl,h,.inl (zUs r)⟩);injection e with l I J;injection l with l;subst l;subst I;subst J;simp at p;refine p.mono fun e w' ⟨R,u,T,st,U⟩=>⟨R,mu,st,.inl ⟨v,u,⟨rfl,rfl⟩,T,U⟩⟩
end
end Go.Ev
namespace Go.Ev
open Go Go.RowKit
section
variable {C:Type}
section
variable {β:Type}
def fN(n:Nat)(k:Nat->β):β:=match n with
 | 0=>k 0
 |m+1=>k (Nat.succ m)
theorem UT(n)(k:Nat->β):fN n k=k n:=by cases n<;>rfl
def fI(i:Int)(k:Int->β):β:=match i with
 | .ofNat n=>fN n fun n=>k (.ofNat n)
 | .negSucc n=>fN n fun n=>k (.negSucc n)
theorem fI_eq(i)(k:Int->β):fI i k=k i:=by
 cases i with
 |ofNat n=>exact UT n fun n=>k (.ofNat n)
 |negSucc n=>exact UT n fun n=>k (.negSucc n)
def fBo(b:Bool)(k:Bool->β):β:=match b with
 |true=>k true
 |false=>k false
theorem qeH(b)(k:Bool->β):fBo b k=k b:=by cases b<;>rfl
def fLi:List C->(List C->β)->β
 | [],k=>k []
 |a :: l,k=>fLi l fun l=>k (a :: l)
theorem JO:∀(l)(k:List C->β),fLi l k=k l
 | [],k=>rfl
 |a :: l,k=>by rw[fLi,JO l]
def fLL:List (List C)->(List (List C)->β)->β
 | [],k=>k []
 |a :: l,k=>fLi a fun a=>fLL l fun l=>k (a :: l)
theorem kq:∀(l)(k:List (List C)->β),fLL l k=k l
 | [],k=>rfl
 |a :: l,k=>by rw[fLL,JO,kq l]
def fV(v:AV)(k:AV->β):β:=match v with
 | .sc (.int kd n)=>fI n fun n=>k (.sc (.int kd n))
 | .sc (.bool b)=>fBo b fun b=>k (.sc (.bool b))
 | .lst f J=>fLL J fun J=>k (.lst f J)
 | .agg g=>fLi g fun g=>k (.agg g)
 | .tup g=>fLi g fun g=>k (.tup g)
 | .ip g=>fLi g fun g=>k (.ip g)
 | .sl b p off len=>fN b fun b=>fN p fun p=>fN off fun off=>fN len fun len=>k (.sl b p off len)
 | .ptr b off=>fN b fun b=>fN off fun off=>k (.ptr b off)
 | .mp b=>fN b fun b=>k (.mp b)
 | .fn f a c=>fLi a fun a=>fLi c fun c=>k (.fn f a c)
 |v=>k v
theorem fV_eq(v)(k:AV->β):fV v k=k v:=by
 unfold fV;split<;>simp only[UT,fI_eq,qeH,JO,kq]
def fC(c:Cell)(k:Cell->β):β:=match c with
 | .arr g=>fLi g fun g=>k (.arr g)
 | .mp T=>fLi T fun T=>k (.mp T)
 |c=>k c
theorem fC_eq(c)(k:Cell->β):fC c k=k c:=by
 unfold fC;split<;>simp only[JO]
def fM:Mu->(Mu->β)->β
 | [],k=>k []
 |c :: l,k=>fC c fun c=>fM l fun l=>k (c :: l)
theorem UU:∀(l)(k:Mu->β),fM l k=k l
 | [],k=>rfl
 |a :: l,k=>by rw[fM,fC_eq,UU l]
end
end
section
variable {C g i:Type}{ops:Array us}{ys:List (List AV)}{m mu:Mu}{pl:Pol}{P:qb}
def setJ:List AV->Nat->AV->(List AV->Option g)->Option g
 | [],_,_,_=>none
 |_ :: l,0,v,k=>k (v :: l)
 |a :: l,d+1,v,k=>setJ l d v fun l=>k (a :: l)
theorem kr:∀{l d v k}{r:g},setJ l d v k=some r->d<l.length/\k (l.set d v)=some r
 | [],d,v,k,r,h=>by cases h
 |a :: l,0,v,k,r,h=>⟨zSp,h⟩
 |a :: l,d+1,v,k,r,h=>by
  obtain⟨i,j⟩:=kr (l:=l) h
  grind
def nthJ:List AV->Nat->AV
 | [],_ => .sc j2
 |a :: _,0=>a
 |_ :: l,d+1=>nthJ l d
theorem JP:∀ l d,nthJ l d=(l[d]?).getD (.sc j2)
 | [],d=>by simp[nthJ]
 |a :: l,0=>rfl
 |a :: l,d+1=>by rw[nthJ,JP l d];simp
structure LS where
 tm:List AV
 mu:Mu
def LS.st(s:LS):St:=⟨fun i=>(s.tm[i]?).getD (.sc j2),s.mu⟩
def evJ(g:List AV):zA->AV
 | .tmp t=>nthJ g t
 | .const v=>ofV v
 | .global _ => .any
 | .func f => .fn (.func f) [] []
theorem Qy(s:LS):s.st.ev=evJ s.tm:=by
 funext x;cases x with
 |tmp t=>exact(JP _ _).symm
 |_=>rfl
def putJ(i:List AV)(d:Option Tmp)(v:AV)(k:List AV->Option g):Option g:=match d with
 |none=>k i
 |some d=>setJ i d v k
theorem JQ{s:LS}{d v k}{r:i}(h:putJ s.tm d v k=some r):∃ g,k g=some r/\g.length=s.tm.length/\s.st.put d v m=LS.st ⟨g,m⟩:=by
 cases d with
 |none=>exact⟨_,h,rfl,rfl⟩
 |some d =>
  obtain⟨l,j⟩:=kr h;refine⟨_,j,zSp,?_⟩;unfold LS.st St.put
  grind
def Stps(P:qb)(pl:Pol)(det:Bool)(g:Option Tmp)(op:Op)(ev:zA->AV)(mu:Mu)(v:AV)(m:Mu):Prop:=∀(K i:AV->Mu->Prop),K v m->qy P pl det g op ev mu K i
def nilV(P:qb)(op:BinOp)(t:qd)(x:AV):Option AV:=
 if (qA P t).isSome&&(decide (op = .eql)||decide (op = .neq)) then match x with
  | .lst _ (_ :: _) | .sl .. => some (.sc (.bool (decide (op = .neq))))
  |_=>none
 else none
def UV(P:qb)(t:qd)(x:AV):Bool:=match x with
 | .lst _ J=>match qA P t with
  |some (_,p,_)=>J.all fun r=>decide (r.length=p)
  |none=>false
 |_=>true
theorem qeI{t x}(h:UV P t x=true):Uu P t x:=by
 cases x with
 |lst f J =>
  unfold UV at h;split at h
  .rename_i g i
   cases i;split at h
   .rename_i e p j l
    exact⟨e,p,j,l,fun r o=>of_decide_eq_true (q8.1 h r o)⟩
   .cases h
  grind
 |_=>trivial
def jA(P:qb)(pl:Pol)(j:Option Tmp)(op:Op)(ev:zA->AV)(mu:Mu):Option AV:=
 match op with
 | .move x | .assign x=>some (ev x)
 | .pick c a b=>match ev c with
  | .sc (.bool t)=>some (if t then ev a else ev b)
  |_=>none
 | .box _ x=>if (ev x).cells.all AV.one&&!(j.any pl.mt.contains) then some (.ip (ev x).cells) else none
 | .build t l=>if yv P t then ZN P t (l.toList.map fun p=>(p.1,ev p.2)) else none
 | .buildSlice t n l=>ZP P t n (l.toList.map fun p=>(p.1,ev p.2))
 | .load t a=>vO P mu t (ev a)
 | .nilCheck x=>ZX (ev x)
 | .binOp op t x y _=>if vQ y then nilV P op t (ev x) else uw P op t (ev x) (ev y)
 | .unOp op _ x=>aUn op (ev x)
 | .convert src d x=>if (P.underlying src).isSome then ZG P src d (ev x) else none
 | .makeInterface t x=>if ZY P t then some (.ifc t (ev x)) else none
 | .makeFunc f first g=>some (.fn f (evs ev first.toList) (evs ev g.toList))
 | .slice t x o r C=>if UV P t (ev x) then ZL P t (ev x) (o.map ev) (r.map ev) (C.map ev) else none
 | .fieldAddr s x f=>ZH P s f (ev x)
 | .field t x f=>ZJ P t f (ev x)
 | .indexAddr t x i=>ZI P t (ev x) (ev i)
 | .index t x i=>ZK P t (ev x) (ev i)
 | .extract t i=>Jr i (ev t)
 | .typeAssert x _ t ok=>Js P t ok (ev x)
 | .lookup t m k ok=>yC P mu t (ev m) (ev k) ok
 | .entry i=>wM mu (ev i)
 | .call c=>match c.callee with
  | .builtin b=>match b with
   | .append | .copy | .delete | .clear=>none
   |b=>vy P mu b c.argTypes (evs ev c.args.toList)
  |_=>none
 |_=>none
theorem ku{det l op ev v}(h:jA P pl l op ev mu=some v):Stps P pl det l op ev mu v mu:=by
 intro K J g;cases op with
 |move x=>simp only[jA,qo]at h;subst h;exact g
 |assign x=>simp only[jA,qo]at h;subst h;exact g
 |pick c a b =>
  simp only[jA]at h;split at h
  .rename_i t r
   cases h;exact⟨t,r,g⟩
  .cases h
 |box e x =>
  simp only[jA]at h;split at h
  .rename_i j
   simp only[qu,Bool.not_eq_true']at j;cases h;exact⟨j.1,by rw[j.2];exact g⟩
  .cases h
 |build t C =>
  simp only[jA]at h;split at h
  .rename_i j;exact⟨j,v,h,g⟩
  .cases h
 |buildSlice t n C=>exact⟨v,h,g⟩
 |load t a=>exact⟨v,h,g⟩
 |nilCheck x=>exact⟨v,h,g⟩
 |binOp op t x y R =>
  simp only[jA]at h;simp only[qy];split at h
  .rename_i o
   rw[if_pos o];unfold nilV at h;split at h
   .rename_i j
    simp only[qu,vr,decide_eq_true_eq]at j;refine⟨j.1,j.2,?_⟩;split at h
    .rename_i e;cases h;rw[e];exact g
    .rename_i e;cases h;rw[e];exact g
    .cases h
   .cases h
  .rename_i o
   rw[if_neg o];exact⟨v,h,g⟩
 |unOp op t x=>exact⟨v,h,g⟩
 |convert src d x =>
  simp only[jA]at h;split at h
  .rename_i j;exact⟨j,v,h,g⟩
  .cases h
 |makeInterface t x =>
  simp only[jA]at h;split at h
  .rename_i j;cases h;exact⟨j,g⟩
  .cases h
 |makeFunc f first p=>simp only[jA,qo]at h;subst h;exact g
 |slice t x T U mx =>
  simp only[jA]at h;split at h
  .rename_i j;exact⟨qeI j,v,h,g⟩
  .cases h
 |fieldAddr s x f=>exact⟨v,h,g⟩
 |field t x f=>exact⟨v,h,g⟩
 |indexAddr t x i=>exact⟨v,h,g⟩
 |index t x i=>exact⟨v,h,g⟩
 |extract t i=>exact⟨v,h,g⟩
 |typeAssert x a t ok=>exact⟨v,h,g⟩
 |lookup t m k ok=>exact⟨v,h,g⟩
 |entry i=>exact⟨v,h,g⟩
 |call c =>
  simp only[jA]at h;simp only[qy];split at h
  .rename_i b I
   rw[I];cases b<;>first | (cases h;done)|exact⟨v,h,g⟩
  .cases h
 |_=>cases h
def appJ(P:qb)(mu:Mu)(i:Array qd)(s x:AV):Option (AV×Mu):=
 match i with
 | ⟨[t,o]⟩=>match qA P t,qF mu x with
  |some (e,p,C),some g=>match qz P e with
   |some l=>if (qA P o).isSome&&(decide (l.cells.length=p)&&(l.cells.all AV.one&&(!decide (p=0)&&(Nat.ble C 16384&&g.all fun r=>decide (r.length=p)&&r.all AV.one)))) then
     match s with
     | .lst true J=>if (J.all fun r=>decide (r.length=p)&&r.all AV.one)&&Nat.ble (J.length+g.length) 4294967296 then
       (match g with | []=>some (s,mu)|_ :: _=>some (.sl mu.length p 0 (J.length+g.length),mu++[.arr (J++g).flatten])) else none
     | .sl b j 0 len=>match mu[b]? with
      |some (.arr cells)=>if decide (j=p)&&(Nat.ble (len*p) cells.length&&Nat.ble (len+g.length) 4294967296) then
        some (.sl mu.length p 0 (len+g.length),mu.set b .dead++[.arr (cells.take (len*p)++g.flatten)]) else none
      |_=>none
     |_=>none
    else none
   |none=>none
  |_,_=>none
 |_=>none
def appZ(P:qb)(mu:Mu)(g:Array qd)(s x:AV):Option (AV×Mu):=
 match g,s,x with
 | ⟨[t,l]⟩,.lst true J,.sc (.int .i64 (.ofNat n))=>match qA P t,P.underlying l with
  |some (e,p,o),some (.int .i64)=>match qz P e with
   |some j=>if decide (j.cells.length=p)&&(j.cells.all AV.one&&(!decide (p=0)&&(Nat.ble o 16384&&(Nat.ble 1 n&&((J.all fun r=>decide (r.length=p)&&r.all AV.one)&&Nat.ble (J.length+n) 4294967296))))) then
     some (.sl mu.length p 0 (J.length+n),mu++[.arr (J.flatten++(qq (n*p)).map fun i=>j.cells.getD (i % p) .any)]) else none
   |none=>none
  |_,_=>none
 |_,_,_=>none
theorem wfB{sz}(h:(ys.all fun r=>decide (r.length=sz)&&r.all AV.one)=true):zb sz ys:=fun r g=>by
 grind
theorem qeJ{g s x v}(h:appZ P mu g s x=some (v,m)){K}(j:K v m):qD P mu g s x K:=by
 unfold appZ at h;split at h
 .rename_i t l J n
  split at h
  .rename_i e p o r C
   split at h
   .rename_i I R
    split at h
    .rename_i i
     simp only[qu,decide_eq_true_eq,Bool.not_eq_true',decide_eq_false_iff_not]at i;obtain⟨c1,c2,c3,c4,c5,c6,c7⟩:=i;cases h;exact .inr (.inr ⟨t,l,e,p,o,I,n,J,rfl,r,C,R,c1,c2,c3,yh c4,rfl,yh c5,rfl,wfB c6,yh c7,j⟩)
    .cases h
   .cases h
  .cases h
 .cases h
theorem qeK{i s x v}(h:appJ P mu i s x=some (v,m)){K}(l:K v m):qD P mu i s x K:=by
 unfold appJ at h;split at h
 rotate_left
 .cases h
 rename_i t C;split at h
 rotate_left
 .cases h
 rename_i e p I r R T;split at h
 rotate_left
 .cases h
 rename_i U h3;split at h
 rotate_left
 .cases h
 rename_i o;simp only[qu,decide_eq_true_eq,Bool.not_eq_true',decide_eq_false_iff_not]at o;obtain⟨c1,c2,c3,c4,c5,c6⟩:=o;have c6:=wfB c6;refine .inl ⟨t,C,e,p,I,r,rfl,R,c1,⟨U,h3,c2,c3⟩,c4,yh c5,T,c6,?_⟩;split at h
 .rename_i J
  split at h
  .rename_i g
   rw[qu]at g;refine .inl ⟨J,rfl,wfB g.1,yh g.2,fun e=>?_,fun e=>?_⟩
   .subst e;cases h;exact l
   grind
  .cases h
 .rename_i b a0 len
  split at h
  .rename_i cells j
   split at h
   .rename_i g
    simp only[qu,decide_eq_true_eq]at g;obtain⟨rfl,d2,d3⟩:=g;cases h;exact .inr ⟨b,len,cells,rfl,j,yh d2,yh d3,l⟩
   .cases h
  .cases h
 .cases h
abbrev jB:=AV->List AV->Mu->Option (AV×Mu)
def vV(P:qb)(det:Bool)(C:jB):Prop:=∀ f args I v m,C f args I=some (v,m)->∀ K g:AV->Mu->Prop,K v m->qe P det I f args K g
def UW(mu:Mu)(g:AV):Option (AV×Mu):=
 match g with
 | .ptr b 0=>match mu[b]? with
  |some (.it T seen)=>match (qq T.length).filter (fun i=>!seen.contains i) with
   | []=>some (.tup [.sc (.bool false)],mu)
   | [i]=>match T[i]? with
    |some e=>some (.tup [.sc (.bool true),e.1,e.2],mu.set b (.it T (seen++[i])))
    |none=>none
   |_=>none
  |_=>none
 |_=>none
theorem qeL{g v}(h:UW mu g=some (v,m)){K}(l:K v m):Us mu g K:=by
 unfold UW at h;split at h
 .rename_i b
  split at h
  .rename_i T seen j
   have o:∀ i,i∈(qq T.length).filter (fun i=>!seen.contains i)↔i<T.length/\i ∉ seen:=fun i=>zSp
   refine⟨b,T,seen,rfl,j,?_⟩;split at h
   .grind
   .grind
   .cases h
  .cases h
 .cases h
def UX(P:qb)(mu:Mu)(g:Array qd)(args:List AV):Option (AV×Mu):=
 match g,args with
 | ⟨[t,l]⟩,[.sl b j off len,x]=>match qA P t,mu[b]?,qF mu x with
  |some (e,p,o),some (.arr cells),some i=>if Nat.ble (off+len*p) cells.length&&i.all (fun r=>decide (r.length=p)&&r.all AV.one) then
    some (.sc (.int .i64 ((min i.length len:Nat):Int)),mu.set b (.arr (qQ cells off (i.take len).flatten))) else none
  |_,_,_=>none
 |_,_=>none
theorem qeM{g args v}(h:UX P mu g args=some (v,m)){K}(j:K v m):ZZ P mu .copy g args K:=by
 unfold UX at h;split at h
 .rename_i t J b l off len x
  split at h
  .rename_i e p R cells r o C I
   split at h
   .rename_i i
    rw[qu]at i;cases h;exact⟨_,_,.copy o C (yh i.1) I (wfB i.2),j⟩
   .cases h
  .cases h
 .cases h
def vW(P:qb)(pl:Pol)(j:Bool)(C:jB)(g:Option Tmp)(op:Op)(ev:zA->AV)(mu:Mu):Option (AV×Mu):=
 match op with
 | .next i str=>if j||str then none else UW mu (ev i)
 | .alloc e=>match qz P e with
  |some z=>if z.cells.all AV.one then some (.ptr mu.length 0,mu++[.arr z.cells]) else none
  |none=>none
 | .box _ x=>if (ev x).cells.all AV.one&&g.any pl.mt.contains then some (.ptr mu.length 0,mu++[.arr (ev x).cells]) else none
 | .store t a x=>(ZF P mu t (ev a) (ev x)).map fun m=>(.sc j2,m)
 | .makeSlice t l c=>Qo P mu t (ev l) (ev c)
 | .makeMap _ r=>match r with
  |none=>some (.mp mu.length,mu++[.mp []])
  |some _=>none
 | .mapUpdate t m k v=>(wK P mu t (ev m) (ev k) (ev v)).map fun m=>(.sc j2,m)
 | .insert t m k v=>(wK P mu t (ev m) (ev k) (ev v)).map fun m=>(.sc j2,m)
 | .mapEntry t m k=>wL P mu t (ev m) (ev k)
 | .entryStore _ m s v=>(Jp mu (ev m) (ev s) (ev v)).map fun m=>(.sc j2,m)
 | .range t m=>Jq P mu t (ev m)
 | .call c=>match c.callee with
  | .value f=>C (ev f) (evs ev c.args.toList) mu
  | .builtin b=>match b with
   | .append=>match evs ev c.args.toList with
    | [s,x]=>match appJ P mu c.argTypes s x with
     |some r=>some r
     |none=>appZ P mu c.argTypes s x
    |_=>none
   | .copy=>UX P mu c.argTypes (evs ev c.args.toList)
   |_=>none
  |_=>none
 |_=>none
theorem JR{o v}(h:(o.map fun m=>(AV.sc j2,m))=some (v,m)):o=some m/\v = .sc j2:=by
 simp_all
theorem qeN{det C}(I:vV P det C){p op ev mu m v}(h:vW P pl det C p op ev mu=some (v,m)):Stps P pl det p op ev mu v m:=by
 intro K J g;cases op with
 |alloc e =>
  simp only[vW]at h;split at h
  .rename_i z R
   split at h
   .rename_i j;cases h;exact⟨z,R,j,g⟩
   .cases h
  .cases h
 |box e x =>
  simp only[vW]at h;split at h
  .rename_i j
   rw[qu]at j;cases h;exact⟨j.1,by rw[if_pos j.2];exact g⟩
  .cases h
 |store t a x =>
  simp only[vW]at h;obtain⟨o,rfl⟩:=JR h;exact⟨m,o,g⟩
 |makeSlice t l c=>exact⟨(v,m),h,g⟩
 |makeMap t r =>
  cases r with
  |none=>cases h;exact⟨rfl,g⟩
  |some r=>cases h
 |mapUpdate t a k w =>
  simp only[vW]at h;obtain⟨o,rfl⟩:=JR h;exact⟨m,o,g⟩
 |insert t a k w =>
  simp only[vW]at h;obtain⟨o,rfl⟩:=JR h;exact⟨m,o,g⟩
 |mapEntry t a k=>exact⟨(v,m),h,g⟩
 |entryStore t a s w =>
  simp only[vW]at h;obtain⟨o,rfl⟩:=JR h;exact⟨m,o,g⟩
 |range t a=>exact⟨(v,m),h,g⟩
 |call c =>
  simp only[vW]at h;simp only[qy];split at h
  .rename_i f hf
   rw[hf];exact I _ _ _ _ _ h K J g
  .grind [qeK,qeJ,qeM]
  .cases h
 |next i str =>
  simp only[vW]at h;split at h
  .cases h
  .rename_i j
   simp only[vr,not_or,Bool.not_eq_true]at j;exact⟨j.1,j.2,qeL h g⟩
 |_=>cases h
def JS(P:qb)(pl:Pol)(j:Bool)(C:jB)(g:Option Tmp)(op:Op)(ev:zA->AV)(mu:Mu)(k:AV->Mu->Option i):Option i:=
 match jA P pl g op ev mu with
 |some v=>fV v fun v=>k v mu
 |none=>match vW P pl j C g op ev mu with
  |some (v,m)=>fV v fun v=>fM m fun m=>k v m
  |none=>none
theorem kw{det C}(j:vV P det C){g op ev mu k}{r:i}(h:JS P pl det C g op ev mu k=some r) :
  ∃ v m,Stps P pl det g op ev mu v m/\k v m=some r:=by
 grind [JS,fV_eq,ku,UU,qeN]
def Z6(ops:Array us)(i:List AV)(o:us):Option Bool:=
 match o.guard with
 |none=>some true
 |some (j,g)=>match (ops[j]?).bind (·.dst) with
  |none=>some false
  |some d=>wN (nthJ i d) g
theorem UY(ops)(s:LS)(o):zH ops s.st o=Z6 ops s.tm o:=by
 unfold zH Z6;cases o.guard with
 |none=>rfl
 |some q =>
  obtain⟨j,w⟩:=q;simp only;cases (ops[j]?).bind (·.dst) with
  |none=>rfl
  |some d=>simp only[JP];rfl
def regJ(P:qb)(pl:Pol)(i:Bool)(C:jB)(ops:Array us):List us->List AV->Mu->Option LS
 | [],g,I=>some ⟨g,I⟩
 |o :: l,g,I=>match Z6 ops g o with
  |some true=>JS P pl i C o.dst o.op (evJ g) I fun v m=>putJ g o.dst v fun g=>regJ P pl i C ops l g m
  |some false=>putJ g o.dst (.sc j2) fun g=>regJ P pl i C ops l g I
  |none=>none
theorem JT{det C}(i:vV P det C){ops Q t}:∀{l}{s s':LS},regJ P pl det C ops l s.tm s.mu=some s'->Q s'.st->awpS P pl det ops l Q t s.st
 | [],s,s',h,g=>by
  cases h;exact g
 |o :: l,s,s',h,g=>by
  unfold regJ at h;unfold awpS;rw[UY];split at h
  .rename_i j
   obtain⟨v,m,I,J⟩:=kw i h;refine⟨true,j,fun _=>?_,fun e=>by cases e⟩;rw[Qy];refine I _ _ ?_;obtain⟨R,p,_,r⟩:=JQ (m:=m) J;rw[r];exact JT i p g
  .rename_i j
   refine⟨false,j,fun e=>by(cases e),fun _=>?_⟩;obtain⟨R,p,_,r⟩:=JQ (m:=s.mu) h;have:s.st.mu=s.mu:=rfl;rw[this,r];exact JT i p g
  .cases h
def eqSc:qg->qg->Bool
 | .bool a,.bool b=>a == b
 | .int k a,.int g b=>decide (k=g)&&decide (a=b)
 | .string a,.string b=>decide (a=b)
 | .pointer none,.pointer none=>true
 | .nilIface,.nilIface=>true
 | .nilFunc,.nilFunc=>true
 | .map none,.map none=>true
 |_,_=>false
theorem qeO{a b}(h:eqSc a b=true):a=b:=by
 unfold eqSc at h;split at h
 .rw [beq_iff_eq]at h;rw[h]
 .grind
 .rw [decide_eq_true_eq]at h;rw[h]
 all_goals first|rfl|cases h
def eqLi(e:C->C->Bool):List C->List C->Bool
 | [],[]=>true
 |a :: l,b :: m=>e a b&&eqLi e l m
 |_,_=>false
theorem uB{e}(g:∀ a b,e a b=true->a=b):∀{l m:List C},eqLi e l m=true->l=m
 | [],[],_=>rfl
 |a :: l,b :: m,h=>by
  rw[eqLi,qu]at h;rw[g _ _ h.1,uB g h.2]
 | [],_ :: _,h=>by cases h
 |_ :: _,[],h=>by cases h
def eqV:Nat->AV->AV->Bool
 | 0,_,_=>false
 |n+1,x,y=>match x,y with
  | .sc a,.sc b=>eqSc a b
  | .sl a b c d,.sl g i j l=>decide (a=g)&&(decide (b=i)&&(decide (c=j)&&decide (d=l)))
  | .ptr a b,.ptr g i=>decide (a=g)&&decide (b=i)
  | .mp a,.mp b=>decide (a=b)
  | .lst f J,.lst o r=>f == o&&eqLi (eqLi (eqV n)) J r
  | .agg a,.agg b=>eqLi (eqV n) a b
  | .tup a,.tup b=>eqLi (eqV n) a b
  | .ip a,.ip b=>eqLi (eqV n) a b
  | .im a,.im b=>eqLi (fun p q=>eqV n p.1 q.1&&eqV n p.2 q.2) a b
  |_,_=>false
theorem Qz:∀{n x y},eqV n x y=true->x=y
 | 0,_,_,h=>by cases h
 |n+1,x,y,h=>by
  have g:∀ a b,eqV n a b=true->a=b:=fun a b h=>Qz h
  unfold eqV at h;split at h
  .rw [qeO h]
  .grind
  .grind
  .rw [decide_eq_true_eq]at h;rw[h]
  .rw [qu,beq_iff_eq]at h;grind [uB]
  .rw [uB g h]
  .rw [uB g h]
  .rw [uB g h]
  .rw [uB (fun p q h=>by grind) h]
  .cases h
def allJ(p:C->Bool):List C->Bool
 | []=>true
 |a :: l=>p a&&allJ p l
theorem vd{p}:∀{l:List C},allJ p l=true->∀ a,a∈l->p a=true
 | [],_,a,g=>by cases g
 |b :: l,h,a,g=>by
  rw[allJ,qu]at h;rcases ql.1 g with rfl|g
  .exact h.1
  .exact vd h.2 a g
def hfB:Nat->AV->Bool
 | 0,_=>false
 |n+1,x=>match x with
  | .any | .sc _=>true
  | .lst _ J=>allJ (allJ (hfB n)) J
  | .agg g | .tup g | .ip g=>allJ (hfB n) g
  | .im T=>allJ (fun p=>hfB n p.1&&hfB n p.2) T
  | .fn _ a b=>allJ (hfB n) a&&allJ (hfB n) b
  | .ifc _ v=>hfB n v
  |_=>false
theorem ve:∀{n x},hfB n x=true->HF x
 | 0,_,h=>by cases h
 |n+1,x,h=>by
  have g:∀ l:List AV,allJ (hfB n) l=true->∀ c,c∈l->HF c:=fun l h c i=>ve (vd h c i)
  unfold hfB at h;split at h
  .exact HF.any
  .exact HF.sc _
  .grind [HF.lst,vd]
  .exact HF.agg (g _ h)
  .exact HF.tup (g _ h)
  .exact HF.ip (g _ h)
  .exact HF.im fun p j=>by
    have:=vd h p j;rw[qu]at this;exact⟨ve this.1,ve this.2⟩
  .rw [qu]at h
   exact HF.fn (g _ h.1) (g _ h.2)
  .exact HF.ifc (ve h)
  .cases h
def flB:Nat->AV->Bool
 | 0,_=>false
 |n+1,x=>match x with
  | .sc _=>true
  | .agg g | .tup g=>allJ (flB n) g
  | .ifc _ v=>flB n v
  |_=>false
theorem UZ:∀{n x},flB n x=true->FL x
 | 0,_,h=>by cases h
 |n+1,x,h=>by
  have g:∀ l:List AV,allJ (flB n) l=true->∀ c,c∈l->FL c:=fun l h c i=>UZ (vd h c i)
  unfold flB at h;split at h
  .exact FL.sc _
  .exact FL.agg (g _ h)
  .exact FL.tup (g _ h)
  .exact FL.ifc (UZ h)
  .cases h
def mapJ(f:C->Option g):List C->Option (List g)
 | []=>some []
 |a :: l=>match f a with
  |some b=>match mapJ f l with
   |some m=>some (b :: m)
   |none=>none
  |none=>none
theorem wS{f}:∀{l:List C}{m:List g},mapJ f l=some m->m.length=l.length/\∀(k:Nat) x y,l[k]?=some x->m[k]?=some y->f x=some y
 | [],m,h=>by cases h;grind
 |a :: l,m,h=>by
  unfold mapJ at h;split at h
  .rename_i b j
   split at h
   .rename_i o i
    cases h;obtain⟨p,r⟩:=wS i
    grind
   .cases h
  .cases h
theorem U0{f}{xs:List (List AV)}(h:mapJ (mapJ f) xs=some ys):(∀(k:Nat) x y,xs[k]?=some x->ys[k]?=some y->x.length=y.length)/\∀(k:Nat) x y,xs.flatten[k]?=some x->ys.flatten[k]?=some y->f x=some y:=by
 induction xs generalizing ys with
 |nil=>grind
 |cons a l g =>
  unfold mapJ at h;split at h
  .rename_i b i
   split at h
   .rename_i m j
    cases h;obtain⟨o,p⟩:=g j;obtain⟨g1,r⟩:=wS i
    grind
   .cases h
  .cases h
def vX(sz:Nat):Nat->List AV->List (List AV)
 | 0,_=>[]
 |n+1,l=>l.take sz :: vX sz n (l.drop sz)
theorem kx(sz):∀ n l,n*sz<=l.length->(vX sz n l).length=n/\(∀ r,r∈vX sz n l->r.length=sz)/\(vX sz n l).flatten=l.take (n*sz)
 | 0,l,_=>⟨rfl,(fun r g=>by cases g),by simp[vX]⟩
 |n+1,l,h=>by
  have e:(n+1)*sz=sz+n*sz:=by rw[Nat.succ_mul,Nat.add_comm]
  rw[e]at h⊢;obtain⟨i,j,o⟩:=kx sz n (l.drop sz) zSo;refine⟨by simp[vX,i],fun r g=>?_,?_⟩
  .rcases ql.1 g with rfl|g
   .simp;omega
   .exact j r g
  grind [vX,uY]
def rdV(mu:Mu):Nat->AV->Option AV
 | 0,_=>none
 |n+1,x=>if hfB 64 x then some x else match x with
  | .sl b i off len=>match mu[b]? with
   |some (.arr cells)=>if Nat.ble (off+len*i) cells.length then (mapJ (mapJ (rdV mu n)) (vX i len (cells.drop off))).map (.lst false) else none
   |_=>none
  | .ptr b off=>match mu[b]? with
   |some (.arr cells)=>if Nat.ble off cells.length then (mapJ (rdV mu n) (cells.drop off)).map .ip else none
   |_=>none
  | .agg g=>(mapJ (rdV mu n) g).map .agg
  | .tup g=>(mapJ (rdV mu n) g).map .tup
  | .lst f J=>(mapJ (mapJ (rdV mu n)) J).map (.lst f)
  | .fn f a c=>match mapJ (rdV mu n) a,mapJ (rdV mu n) c with
   |some a,some c=>some (.fn f a c)
   |_,_=>none
  | .mp b=>match mu[b]? with
   |some (.mp T)=>(mapJ (fun p=>match rdV mu n p.1,rdV mu n p.2 with|some x,some y=>some (x,y)|_,_=>none) T).map .im
   |_=>none
  | .ifc t v=>(rdV mu n v).map (.ifc t)
  |_=>none
theorem U1:∀{n x y},rdV mu n x=some y->Rd mu x y
 | 0,_,_,h=>by cases h
 |n+1,x,y,h=>by
  have R:∀ a b,rdV mu n a=some b->Rd mu a b:=fun a b h=>U1 h
  have o:∀{l m:List AV},mapJ (rdV mu n) l=some m->m.length=l.length/\∀(k:Nat) x y,l[k]?=some x->m[k]?=some y->Rd mu x y:=fun h=>⟨(wS h).1,fun k x y j i=>R _ _ ((wS h).2 k x y j i)⟩
  unfold rdV at h;by_cases U:hfB 64 x=true
  .rw [if_pos U]at h
   cases h;exact .hf _ (ve U)
  rw[if_neg U]at h;clear U;split at h
  .rename_i b p off len
   split at h
   .rename_i cells C
    split at h
    .rename_i P
     have P:=yh P;rw[yA]at h;obtain⟨t,i,rfl⟩:=h;obtain⟨c1,c2,c3⟩:=kx p len (cells.drop off) zSo;obtain⟨r1,r2⟩:=U0 i;have I:=(wS i).1;refine .sl b p off len cells t C P (by rw[I,c1]) (fun r hr=>?_) fun k x y j g=>?_
     .obtain ⟨k,hk,rfl⟩:=um hr
      have a0:k<(vX p len (cells.drop off)).length:=zOm;have:=r1 k _ _ (qx a0) (qx hk)
      grind
     .refine R _ _ (r2 k x y ?_ g)
      have a1:=Kq (xs:=vX p len (cells.drop off)) (ys:=t) I r1
      grind
    .cases h
   .cases h
  .rename_i b off
   split at h
   .rename_i cells C
    split at h
    .rename_i P
     have P:=yh P;rw[yA]at h;obtain⟨t,i,rfl⟩:=h;obtain⟨h1,h2⟩:=o i;refine .ptr b off cells t C (by simp at h1;omega) fun k x y j g=>h2 k x y (by rw[jX];exact j) g
    .cases h
   .cases h
  .rw [yA]at h
   obtain⟨t,i,rfl⟩:=h;exact .agg _ _ (o i).1 (o i).2
  .rw [yA]at h
   obtain⟨t,i,rfl⟩:=h;exact .tup _ _ (o i).1 (o i).2
  .rw [yA]at h
   obtain⟨t,i,rfl⟩:=h;exact .lst _ _ _ (wS i).1 (U0 i).1 fun k x y j g=>R _ _ ((U0 i).2 k x y j g)
  .split at h
   .rename_i a c ha C
    cases h;exact .fn _ _ _ _ _ (o ha).1 (o C).1 (o ha).2 (o C).2
   .cases h
  .split at h
   .rename_i T C
    rw[yA]at h;obtain⟨fs,i,rfl⟩:=h;obtain⟨h1,h2⟩:=wS i;have h3:∀(k:Nat) x y,T[k]?=some x->fs[k]?=some y->Rd mu x.1 y.1/\Rd mu x.2 y.2:=fun k x y j g=>by
     grind
    exact .mp _ T fs C h1 (fun k x y j g=>(h3 k x y j g).1) fun k x y j g=>(h3 k x y j g).2
   .cases h
  .rw [yA]at h
   obtain⟨t,i,rfl⟩:=h;exact .ifc _ _ _ (R _ _ i)
  .cases h
abbrev FunJ:=j1->List AV->Mu->Option (AV×Mu)
variable {F:FunJ}
def Z7(P:qb)(F:FunJ):Prop:=∀ f args I v m,F f args I=some (v,m)->qU P f args I fun e l=>e = .ret v/\l=m
def seqC(F:FunJ):jB:=fun f args I=>match f with
 | .fn (.func g) first i=>F g (first++args++i) I
 |_=>none
theorem qeP{l}(h:allJ (hfB 64) l=true):WKs l l:=by
 induction l with
 |nil=>trivial
 |cons a l g =>
  rw[allJ,qu]at h;exact⟨.hf (ve h.1),g h.2⟩
theorem qeQ(j:Z7 P F):vV P false (seqC F):=by
 intro f args I v m h K p t;unfold seqC at h;split at h
 .rename_i g first i
  refine .inr ⟨rfl,.inl ⟨g,first,i,_,rfl,j _ _ _ _ _ h,fun r l o=>?_,fun r l o=>?_⟩⟩
  .grind
  grind
 .cases h
def detC(F:FunJ):jB:=fun f args I=>match f with
 | .fn (.func g) first i=>if allJ (hfB 64) (first++args++i) then
   match F g (first++args++i) [] with
   |some (v,m)=>match rdV m 64 v with
    |some w=>some (w,I)
    |none=>none
   |none=>none
  else match mapJ (rdV I 64) (first++args++i) with
   |some l=>match F g l [] with
    |some (v,m)=>match rdV m 64 v with
     |some w=>if flB 64 w then some (w,I) else none
     |none=>none
    |none=>none
   |none=>none
 |_=>none
theorem ky:∀{l m},mapJ (rdV mu 64) l=some m->Rds mu l m
 | [],m,h=>by cases h;trivial
 |a :: l,m,h=>by
  unfold mapJ at h;split at h
  .rename_i b g
   split at h
   .rename_i j i
    cases h;exact⟨U1 g,ky i⟩
   .cases h
  .cases h
theorem sndP(g:Z7 P F){f args v w m}(h:F f args []=some (v,m))(C:rdV m 64 v=some w):qh P f args w:=by
 refine qh.of_sound ?_;obtain⟨i,o⟩:=g _ _ _ _ _ h;refine⟨i,fun G p j s r=>(o G p j s r).mono fun e I ⟨t,l,st,J⟩=>⟨t,l,st,?_⟩⟩
 grind [U1]
theorem qeR(p:Z7 P F):vV P true (detC F):=by
 intro f args I v m h K T r;unfold detC at h;split at h
 .rename_i g first i
  split at h
  .rename_i t
   split at h
   .rename_i C J j
    split at h
    .rename_i w o
     cases h;exact .inl ⟨_,.inl ⟨g,first,i,_,rfl,sndP p j o,.inl (qeP t)⟩,r⟩
    .cases h
   .cases h
  .split at h
   .rename_i l R
    split at h
    .rename_i C J j
     split at h
     .rename_i w o
      split at h
      .rename_i hf
       cases h;exact .inl ⟨_,.inl ⟨g,first,i,_,rfl,sndP p j o,.inr ⟨ky R,UZ hf⟩⟩,r⟩
      .cases h
     .cases h
    .cases h
   .cases h
 .cases h
def noC:jB:=fun _ _ _=>none
theorem qeS{det}:vV P det noC:=fun _ _ _ _ _ h=>by cases h
def JU(P:qb)(pl:Pol)(ops:Array us)(g:List AV)(mu:Mu):List Nat->Bool
 | []=>true
 |p :: l=>(match ops[p]? with
  |some o=>match Z6 ops g o with
   |some true=>match o.dst with
    |some d=>match jA P pl o.dst o.op (evJ g) mu with
     |some v=>eqV 64 v (nthJ g d)
     |none=>false
    |none=>false
   |some false=>true
   |none=>false
  |none=>true)&&JU P pl ops g mu l
theorem kz{s:LS}:∀{l},JU P pl ops s.tm s.mu l=true->j8 P pl ops l s.st
 | [],_=>trivial
 |p :: l,h=>by
  unfold JU at h;rw[qu]at h;refine⟨?_,kz h.2⟩;have g:=h.1;split at g
  .rename_i o j
   rw[j];simp only;rw[UY];split at g
   .rename_i i
    refine⟨true,i,fun _=>?_,fun e=>by cases e⟩;split at g
    .rename_i d r
     split at g
     .rename_i v t
      show wQ P pl o s.st;unfold wQ;rw[Qy];refine ku t _ _ ?_;rw[r];refine⟨?_,rfl⟩;rw[Qz g,JP];rfl
     .cases g
    .cases g
   .rename_i i
    exact⟨false,i,fun e=>by(cases e),fun _=>trivial⟩
   .cases g
  grind
def newJ(P:qb)(ops:Array us):List (Nat×Nat×List Nat)->Bool
 | []=>true
 | (j,k,_) :: T=>(match k,ops[j]? with
  | 2,some o=>(match o.op with
   | .alloc e=>match qz P e with
    |some z=>z.cells.all AV.one
    |none=>false
   |_=>false)
  |_,_=>true)&&newJ P ops T
theorem kA:∀{T},newJ P ops T=true->vT P ops T
 | [],_=>trivial
 | (j,k,r) :: T,h=>by
  unfold newJ at h;rw[qu]at h;refine⟨?_,kA h.2⟩;have g:=h.1;by_cases l:k=2
  .subst l
   cases p:ops[j]? with
   |none=>trivial
   |some o =>
    rw[p]at g;simp only at g⊢;cases i:o.op<;>rw[i]at g<;>simp only at g⊢<;>try (cases g;done)
    split at g
    .rename_i z t;exact⟨z,t,g⟩
    .cases g
  grind
def segJ(P:qb)(pl:Pol)(C:jB)(ops:Array us):List (Nat×Nat×List Nat)->List AV->Mu->Option LS
 | [],g,I=>some ⟨g,I⟩
 | (j,k,r) :: T,g,I=>match ops[j]? with
  |none=>none
  |some o=>match Z6 ops g o with
   |some true=>JS P pl (k != 1) (if k=1 then C else noC) o.dst o.op (evJ g) I fun v m=>putJ g o.dst v fun g=>if JU P pl ops g m r then segJ P pl C ops T g m else none
   |some false=>putJ g o.dst (.sc j2) fun g=>segJ P pl C ops T g I
   |none=>none
theorem U2{C}(l:vV P false C){ops Q J}:∀{T}{s s':LS},segJ P pl C ops T s.tm s.mu=some s'->Q s'.st->awpT P pl ops Q J T s.st
 | [],s,s',h,i=>by cases h;exact i
 | (j,k,r) :: T,s,s',h,i=>by
  unfold segJ at h;unfold awpT;split at h
  .cases h
  .rename_i o R
   rw[R];simp only;have U:vV P (k != 1) (if k=1 then C else noC):=by
    by_cases e:k=1
    .subst e;exact l
    .rw [if_neg e];exact qeS
   rw[UY];split at h
   .rename_i p
    obtain⟨v,m,h1,h2⟩:=kw U h;refine⟨true,p,fun _=>?_,fun e=>by cases e⟩;rw[Qy];refine h1 _ _ ?_;obtain⟨I,g,_,t⟩:=JQ (m:=m) h2;rw[t];split at g
    .rename_i hr
     exact⟨kz (s:=⟨I,m⟩) hr,U2 l g i⟩
    .cases g
   .rename_i p
    refine⟨false,p,fun e=>by(cases e),fun _=>?_⟩;obtain⟨I,g,_,t⟩:=JQ (m:=s.mu) h;have:s.st.mu=s.mu:=rfl;rw[this,t];exact U2 l g i
   .cases h
def wT(pl:Pol)(ops:Array us):Nat->List Nat->List Nat
 | 0,pre=>pre
 |f+1,pre =>
  let g:=(qq ops.size).filter fun i=>!pre.contains i
  let l (j:Nat):Bool:=(qq ops.size).all fun i=>match zq ops i with|some d=>!yM ops j d||pre.contains i|none=>true
  let o (j:Nat):Bool:=pre.all fun i=>zc pl ops i == 0||(zV ops j).testBit i
  match g.find? fun j=>zc pl ops j == 0&&(l j&&o j) with
  |some j=>wT pl ops f (pre++[j])
  |none=>match g.find? fun j=>zc pl ops j == 1&&(l j&&o j) with
   |some j=>if (g.filter fun k=>zc pl ops k == 2&&(zV ops j).testBit k).isEmpty then wT pl ops f (pre++[j]) else
    match g.find? fun k=>zc pl ops k == 2&&(zV ops j).testBit k with
    |some k=>wT pl ops f (pre++[k])
    |none=>pre
   |none=>match g.find? fun j=>zc pl ops j == 2 with
    |some j=>wT pl ops f (pre++[j])
    |none=>pre
def U3(P:qb)(pl:Pol)(C D:jB)(ops:Array us)(g:List AV)(mu:Mu):Option LS:=
 match (if Qu pl ops then regJ P pl true D ops ops.toList g mu else none) with
 |some s=>some s
 |none=>if Z1 pl ops (wT pl ops (ops.size+1) [])&&newJ P ops (plan pl ops [] (wT pl ops (ops.size+1) [])) then segJ P pl C ops (plan pl ops [] (wT pl ops (ops.size+1) [])) g mu else none
theorem qeT{C D}(l:vV P false C)(o:vV P true D){ops Q p}{s s':LS}(h:U3 P pl C D ops s.tm s.mu=some s')(j:Q s'.st):JK P pl ops Q p s.st:=by
 unfold U3 at h;split at h
 .rename_i s1 i
  cases h;split at i
  .rename_i g
   exact .inl (.inl ⟨g,JT o i j⟩)
  .cases i
 .split at h
  .rename_i g
   rw[qu]at g;exact .inr ⟨_,g.1,kA g.2,U2 l h j⟩
  .cases h
abbrev je:=FunJ->List AV->Mu->Option (AV×Mu)
structure EnvJ where
 S:j1->Option je
 N:j1->List AV->Bool
 pol:j1->List Nat
 cal:j1->Bool
def jp(P:qb)(f:j1)(h:je):Prop:=∀ F,Z7 P F->∀ args I v m,h F args I=some (v,m)->qU P f args I fun e l=>e = .ret v/\l=m
def qV(P:qb)(E:EnvJ):Prop:=(∀ f h,E.S f=some h->jp P f h)/\(∀ f,E.cal f=true->yk P f)/\∀ f g,E.N f g=true->UO P f g []
def nV:Nat->AV->AV
 | 0,x=>x
 |n+1,x=>match x with
  | .lst _ J => .lst false (J.map (List.map (nV n)))
  | .agg g => .agg (g.map (nV n))
  | .tup g => .tup (g.map (nV n))
  | .ip g => .ip (g.map (nV n))
  |x=>x
theorem U4:∀ m k x,hfB k x=true->WK x (nV m x)
 | 0,k,x,h => .hf (ve h)
 |m+1,0,x,h=>by cases h
 |m+1,k+1,x,h=>by
  have ih:∀ c,hfB k c=true->WK c (nV m c):=fun c l=>U4 m k c l
  have hx:=ve h;have key:∀(g:List AV),(∀ c,c∈g->hfB k c=true)->∀(i:Nat) y,(g.map (nV m))[i]?=some y->∃ c,g[i]?=some c/\WK c y:=fun g l i y o=>by
   grind
  unfold hfB at h;intro G P v r;unfold nV;cases x with
  |lst f J =>
   simp only at h⊢;have R:∀ c,c∈J.flatten->hfB k c=true:=fun c l=>by
    grind [V5,vd]
   cases r with
   |nil=>exact .nil _
   |emp _ a cap l=>exact .emp false a cap zSp
   |lst _ _ p a cap g e T rd U hs hl l hi hz hr t =>
    have a0:(J.map (List.map (nV m))).flatten=J.flatten.map (nV m):=(List.map_flatten ..).symm;have:=VRel.lst (G:=⟨G.imm,[]⟩) (h:=P) false (J.map (List.map (nV m))) p a cap g e T rd U hs (zUs hl) zSp hi (fun q hq=>by
     grind) (fun i y o=>by
     grind) (fun i y o=>by
     rw[a0]at o;obtain⟨c,C,I⟩:=key _ R i y o;exact I G P _ (t i c C))
    grind
  |agg g =>
   simp only at h⊢;cases r with
   |agg _ j hn t =>
    refine .agg _ _ (zUs hn) fun i y o=>?_
    obtain⟨c,C,I⟩:=key g (fun c l=>vd h c l) i y o;exact I G P _ (t i c C)
  |tup g =>
   simp only at h⊢;cases r with
   |tup _ j hn t =>
    refine .tup _ _ (zUs hn) fun i y o=>?_
    obtain⟨c,C,I⟩:=key g (fun c l=>vd h c l) i y o;exact I G P _ (t i c C)
  |ip g =>
   simp only at h⊢;cases r with
   |ip _ a arr e T rd U hs hi hr t =>
    refine .ip _ a arr e T rd U hs hi (fun i y o=>?_) fun i y o=>?_
    .grind
    .obtain ⟨c,C,I⟩:=key g (fun c l=>vd h c l) i y o
     exact I G P _ (t i c C)
  |_=>exact hx G P v r
theorem kB:∀{l},allJ (hfB 64) l=true->WKs l (l.map (nV 64))
 | [],_=>trivial
 |a :: l,h=>by
  rw[allJ,qu]at h;exact⟨U4 64 64 a h.1,kB h.2⟩
def jC(X:List AV->Option AV):je:=fun _ args I=>if allJ (hfB 64) args then
  match X (args.map (nV 64)) with
  |some v=>some (v,I)
  |none=>none
 else none
theorem Z8{f X}(h:∀ args v,X args=some v->qh P f args v):jp P f (jC X):=by
 intro F l args I v m g;unfold jC at g;split at g
 .rename_i i
  split at g
  .rename_i w j
   cases g;exact(h _ _ j).toSound I (kB i)
  .cases g
 .cases g
def tabX:List (List AV×AV)->List AV->Option AV
 | [],_=>none
 |p :: l,args=>if eqLi (eqV 64) (p.1.map (nV 64)) args then some p.2 else tabX l args
theorem Z9{f}:∀{l},(∀ p,p∈l->qh P f (p.1.map (nV 64)) p.2)->∀ args v,tabX l args=some v->qh P f args v
 | [],_,_,_,h=>by cases h
 |p :: l,g,args,v,h=>by
  unfold tabX at h;split at h
  .grind [uB,Qz,qN]
  .exact Z9 (fun q i=>g q (qB _ i)) args v h
structure RT where
 c:Pol->j3->List AV->Mu->Option (qJ×LS)
 f:FunJ
def uC(P:qb)(E:EnvJ)(R:RT)(pl:Pol)(c:j3)(j:List AV)(mu:Mu):Option (qJ×LS):=
 match c with
 | .skip=>some (.normal,⟨j,mu⟩)
 | .label _=>some (.normal,⟨j,mu⟩)
 | .region _ l o=>match (match o with
   |false=>regJ P pl false (seqC R.f) l l.toList j mu
   |true=>U3 P pl (seqC R.f) (detC R.f) l j mu) with
  |some s=>some (.normal,s)
  |none=>none
 | .seq a b=>match R.c pl a j mu with
  |some (.normal,s)=>R.c pl b s.tm s.mu
  |r=>r
 | .cond c a b=>match evJ j c with
  | .sc (.bool true)=>R.c pl a j mu
  | .sc (.bool false)=>R.c pl b j mu
  |_=>none
 | .block id b=>match R.c pl b j mu with
  |some (.exit i,s)=>if i=id then some (.normal,s) else some (.exit i,s)
  |r=>r
 | .loop b=>match R.c pl b j mu with
  |some (.normal,s)=>R.c pl (.loop b) s.tm s.mu
  |r=>r
 | .exit id=>some (.exit id,⟨j,mu⟩)
 | .ret=>some (.ret,⟨j,mu⟩)
 | .scope b=>R.c pl b j mu
 | .rangeFunc g _ _ _=>match evJ j g with
  | .fn (.func t) [] p=>if E.N t p then fM (mu++[.dead]) fun mu=>some (.normal,⟨j,mu⟩) else none
  |_=>none
 |_=>none
def funJ(P:qb)(E:EnvJ)(R:RT):FunJ:=fun f args I=>match E.S f with
 |some h=>h R.f args I
 |none=>match P.funcs[f]? with
  |some fn=>match fn.body with
   |some c=>if E.cal f&&(Nat.ble args.length fn.ntmps&&dOkC fn.ntmps c) then
     match R.c ⟨E.pol f⟩ c (args++zo (fn.ntmps-args.length) (.sc j2)) I with
     |some (.normal,s)=>match yZ P s.st fn.results.toList with
      |some r=>some (r,s.mu)
      |none=>none
     |some (.ret,s)=>match yZ P s.st fn.results.toList with
      |some r=>some (r,s.mu)
      |none=>none
     |_=>none
    else none
   |none=>none
  |none=>none
def runJ(P:qb)(E:EnvJ):Nat->RT
 | 0=>⟨fun _ _ _ _=>none,fun _ _ _=>none⟩
 |n+1=>⟨uC P E (runJ P E n),funJ P E (runJ P E n)⟩
def qeU(P:qb)(R:RT):Prop:=∀ U c g I e i,R.c U c g I=some (e,i)->∀ Q:qJ->St->Prop,Q e i.st->awp P U c Q (LS.st ⟨g,I⟩)
theorem qeV(args k mu):LS.st ⟨args++zo k (.sc j2),mu⟩=st0 args mu:=by
 grind [LS.st,st0,ze,zK,jG]
theorem JV{E}(hE:qV P E):∀ N n,n<=N->qeU P (runJ P E n)/\Z7 P (runJ P E n).f
 | 0,n,hn=>by
  obtain rfl:n=0:=zOm;exact⟨(fun _ _ _ _ _ _ h=>by cases h),(fun _ _ _ _ _ h=>by cases h)⟩
 | N+1,n,hn=>by
  by_cases h0:n<=N
  .exact JV hE N n h0
  obtain rfl:n=N+1:=zOm;obtain⟨j,R⟩:=JV hE N N (qs _);have hS:=qeQ R;have hD:=qeR R;refine⟨?_,?_⟩
  .intro U c T I e s' h Q o
   change uC P E (runJ P E N) U c T I=some (e,s') at h;cases c with
   |skip=>cases h;exact o
   |label l=>cases h;exact o
   |exit id=>cases h;exact o
   |ret=>cases h;exact o
   |region id a5 a0 =>
    simp only[uC]at h;cases a0 with
    |false =>
     simp only at h;split at h
     .rename_i s p
      cases h;exact .inl ⟨rfl,JT (s:=⟨T,I⟩) hS p o⟩
     .cases h
    |true =>
     simp only at h;split at h
     .rename_i s p
      cases h;exact .inr ⟨rfl,_,.refl _,qeT (s:=⟨T,I⟩) hS hD p o⟩
     .cases h
   |seq a b =>
    simp only[uC]at h;split at h
    .rename_i s p
     exact j _ _ _ _ _ _ p _ (j _ _ _ _ _ _ h _ o)
    .rename_i t
     refine j _ _ _ _ _ _ h _ ?_;cases e with
     |normal=>exact absurd h (t s')
     |_=>exact o
   |cond c a b =>
    simp only[uC]at h;split at h
    .rename_i hc
     exact⟨true,by rw[Qy];exact hc,(fun _=>j _ _ _ _ _ _ h _ o),(fun e=>by cases e)⟩
    .rename_i hc
     exact⟨false,by rw[Qy];exact hc,(fun e=>by cases e),(fun _=>j _ _ _ _ _ _ h _ o)⟩
    .cases h
   |block id b =>
    simp only[uC]at h;split at h
    .rename_i i s p
     refine j _ _ _ _ _ _ p _ ?_;show if i=id then _ else _
     grind
    .rename_i t
     refine j _ _ _ _ _ _ h _ ?_;cases e with
     |exit i=>exact absurd h (t i s')
     |_=>exact o
   |loop b =>
    refine⟨false,fun k st=>k<=N+1/\∃ T I,st=LS.st ⟨T,I⟩/\(runJ P E k).c U (.loop b) T I=some (e,s'),N+1,_,.refl _,⟨qs _,T,I,rfl,h⟩,?_⟩;rintro k st ⟨hk,a1,a2,rfl,h1⟩;cases k with
    |zero=>cases h1
    |succ k =>
     obtain⟨ic,_⟩:=JV hE N k zOm;change uC P E (runJ P E k) U (.loop b) a1 a2=some (e,s') at h1;simp only[uC]at h1;split at h1
     .rename_i s p
      exact ic _ _ _ _ _ _ p _ ⟨k,zOm,zOm,s.tm,s.mu,rfl,h1⟩
     .rename_i t
      refine ic _ _ _ _ _ _ h1 _ ?_;cases e with
      |normal=>exact absurd h1 (t s')
      |_=>exact o
   |scope b=>exact j _ _ _ _ _ _ h _ o
   |rangeFunc g ps a6 a4 =>
    simp only[uC]at h;split at h
    .rename_i gf J hg
     split at h
     .rename_i hN
      rw[UU]at h;cases h;refine⟨false,gf,J,[],fun _ m=>m=I++[.dead],fun _ _=>False,by rw[Qy];exact hg,.inr (hE.2.2 gf J hN),rfl,fun k x m hx=>by simp at hx,fun m hm=>?_,fun _ _ hf=>hf.elim⟩;subst hm;exact o
     .cases h
    .cases h
   |_=>cases h
  .intro f args I v m h
   change funJ P E (runJ P E N) f args I=some (v,m) at h;unfold funJ at h;split at h
   .rename_i hk hh
    exact hE.1 f hk hh _ R _ _ _ _ h
   split at h
   .rename_i fn a3
    split at h
    .rename_i c hc
     split at h
     .rename_i C
      simp only[qu]at C;refine qU.of_awp (hE.2.1 f C.1) a3 hc (yh C.2.1) C.2.2 (pl:=⟨E.pol f⟩) ?_;rw[<-qeV args (fn.ntmps-args.length) I];split at h
      .rename_i s p
       refine j _ _ _ _ _ _ p _ ?_;split at h
       .rename_i r hr;cases h;exact⟨_,hr,rfl,rfl⟩
       .cases h
      .rename_i s p
       refine j _ _ _ _ _ _ p _ ?_;split at h
       .rename_i r hr;cases h;exact⟨_,hr,rfl,rfl⟩
       .cases h
      .cases h
     .cases h
    .cases h
   .cases h
def Ya(P:qb)(E:EnvJ)(n:Nat)(f:j1)(args:List AV):Option AV:=match (runJ P E n).f f args [] with
 |some (v,m)=>rdV m 64 v
 |none=>none
theorem U5{E}(g:qV P E){n f args v}(h:Ya P E n f args=some v):qh P f args v:=by
 unfold Ya at h;split at h
 .rename_i w m i
  exact sndP (JV g n n (qs _)).2 i h
 .cases h
end
end Go.Ev
namespace Go.Proofs.YthkdjhkmlmjkbaaGreatDoor
open Go Go.Ev Go.Proofs Tryz
namespace Ty
@[go_sem] theorem sz3:(szOf qc 3=some 1)/\(qT qc 3=some false)/\(qz qc 3=some (.sc (.int .i64 0)))/\(szOf qc 4=some 1)/\(qT qc 4=some false)/\(qz qc 4=some (.sc (.bool false)))/\(Ub qc 4=true)/\(szOf qc 5=some 1)/\(qT qc 5=some false)/\(qz qc 5=some (.sc (.int .u8 0))):=by and_intros<;>exact eqS zKr
@[go_sem] theorem sz9:(szOf qc 9=some 1)/\(qT qc 9=some false)/\(qz qc 9=some (.sc (.string ⟨#[]⟩)))/\(Uc qc 20=true)/\(szOf qc 22=some 1)/\(qT qc 22=some false)/\(qA qc 22=some (118,2,24))/\(szOf qc 23=some 1)/\(qT qc 23=some false)/\(qA qc 23=some (93,3,48)):=by and_intros<;>exact eqS zKr
@[go_sem] theorem sz24:(szOf qc 24=some 1)/\(qT qc 24=some false)/\(qA qc 24=some (135,7,104))/\(szOf qc 25=some 1)/\(qT qc 25=some false)/\(qA qc 25=some (137,6,80))/\(szOf qc 27=some 4)/\(qT qc 27=some true)/\(qC qc 27 0=some (0,22,1))/\(qC qc 27 1=some (1,23,1)):=by and_intros<;>exact eqS zKr
@[go_sem] theorem fl27_2:(qC qc 27 2=some (2,24,1))/\(qC qc 27 3=some (3,25,1))/\(szOf qc 28=some 1)/\(qT qc 28=some false)/\(qA qc 28=some (3,1,8))/\(szOf qc 30=some 2)/\(qT qc 30=some true)/\(qz qc 30=some (.agg [.lst true [],.sc (.int .i64 0)]))/\(yK qc 30=some (plc [(0,1),(1,1)]))/\(qC qc 30 0=some (0,28,1)):=by and_intros<;>exact eqS zKr
@[go_sem] theorem fl30_1:(qC qc 30 1=some (1,3,1))/\(yv qc 30=true)/\(szOf qc 32=some 1)/\(qT qc 32=some false)/\(qA qc 32=some (145,1,24))/\(szOf qc 33=some 1)/\(qT qc 33=some false)/\(qA qc 33=some (35,5,64))/\(szOf qc 35=some 5)/\(qT qc 35=some true):=by and_intros<;>exact eqS zKr
@[go_sem] theorem ze35:(qz qc 35=some (.agg [.sc (.int .i64 0),.sc (.string ⟨#[]⟩),.sc (.int .i64 0),.lst true [],.sc (.int .i64 0)]))/\(yK qc 35=some (plc [(0,1),(1,1),(2,1),(3,1),(4,1)]))/\(qC qc 35 0=some (0,3,1))/\(qC qc 35 1=some (1,9,1))/\(qC qc 35 2=some (2,3,1))/\(qC qc 35 3=some (3,33,1))/\(qC qc 35 4=some (4,3,1))/\(yv qc 35=true)/\(szOf qc 36=some 1)/\(qT qc 36=some false):=by and_intros<;>exact eqS zKr
@[go_sem] theorem sl36:(qA qc 36=some (97,1,24))/\(szOf qc 38=some 14)/\(qT qc 38=some true)/\(qC qc 38 0=some (0,27,4))/\(qC qc 38 1=some (4,30,2))/\(qC qc 38 2=some (6,32,1))/\(qC qc 38 3=some (7,35,5))/\(qC qc 38 4=some (12,36,1))/\(qC qc 38 5=some (13,5,1))/\(szOf qc 40=some 1):=by and_intros<;>exact eqS zKr
@[go_sem] theorem ag40:(qT qc 40=some false)/\(qA qc 40=some (96,4,64))/\(szOf qc 41=some 1)/\(qT qc 41=some false)/\(qA qc 41=some (60,1,24))/\(szOf qc 43=some 4)/\(qT qc 43=some true)/\(qz qc 43=some (.agg [.lst true [],.sc (.int .i64 0),.lst true [],.sc (.int .i64 0)]))/\(yK qc 43=some (plc [(0,2),(2,1),(3,1)]))/\(qC qc 43 0=some (0,30,2)):=by and_intros<;>exact eqS zKr
@[go_sem] theorem fl43_1:(qC qc 43 1=some (2,41,1))/\(qC qc 43 2=some (3,3,1))/\(yv qc 43=true)/\(szOf qc 48=some 1)/\(qT qc 48=some false)/\(qz qc 48=some (.lst true []))/\(qA qc 48=some (78,4,32))/\(szOf qc 51=some 1)/\(qT qc 51=some false)/\(qz qc 51=some (.sc (.int .i64 0))):=by and_intros<;>exact eqS zKr
@[go_sem] theorem sz60:(szOf qc 60=some 1)/\(qT qc 60=some false)/\(qz qc 60=some (.lst true []))/\(qA qc 60=some (62,2,32))/\(szOf qc 62=some 2)/\(qT qc 62=some true)/\(qz qc 62=some (.agg [.sc (.int .i64 0),.lst true []]))/\(yK qc 62=some (plc [(0,1),(1,1)]))/\(qC qc 62 0=some (0,3,1))/\(qC qc 62 1=some (1,28,1)):=by and_intros<;>exact eqS zKr
@[go_sem] theorem zo62:(yv qc 62=true)/\(szOf qc 78=some 4)/\(qT qc 78=some true)/\(qz qc 78=some (.agg [.sc (.int .i64 0),.sc (.int .i64 0),.sc (.int .i64 0),.sc (.int .i64 0)]))/\(yK qc 78=some (plc [(0,1),(1,1),(2,1),(3,1)]))/\(qC qc 78 0=some (0,3,1))/\(qC qc 78 1=some (1,3,1))/\(qC qc 78 2=some (2,3,1))/\(qC qc 78 3=some (3,3,1))/\(yv qc 78=true):=by and_intros<;>exact eqS zKr
@[go_sem] theorem sz81:(szOf qc 81=some 2)/\(qT qc 81=some true)/\(qz qc 81=some (.agg [.sc (.int .i64 0),.sc (.int .i64 0)]))/\(Ji qc 81=some 2)/\(yK qc 81=some (plc [(0,1),(1,1)]))/\(qC qc 81 0=some (0,51,1))/\(yv qc 81=true)/\(qA qc 85=some (81,2,16))/\(qA qc 90=some (150,3,24))/\(szOf qc 93=some 3):=by and_intros<;>exact eqS zKr
@[go_sem] theorem ag93:(qT qc 93=some true)/\(qz qc 93=some (.agg [.sc (.string ⟨#[]⟩),.lst true [],.sc (.bool false)]))/\(qC qc 93 0=some (0,9,1))/\(qC qc 93 1=some (1,28,1))/\(qC qc 93 2=some (2,4,1))/\(szOf qc 96=some 4)/\(qT qc 96=some true)/\(qz qc 96=some (.agg [.sc (.int .i64 0),.lst true [],.sc (.int .i64 0),.lst true []]))/\(yK qc 96=some (plc [(0,2),(2,2)]))/\(qC qc 96 0=some (0,62,2)):=by and_intros<;>exact eqS zKr
@[go_sem] theorem fl96_1:(qC qc 96 1=some (2,62,2))/\(yv qc 96=true)/\(szOf qc 97=some 1)/\(qT qc 97=some false)/\(qA qc 97=some (4,1,1))/\(mapT qc 107=some (3,112))/\(szOf qc 109=some 1)/\(qT qc 109=some false)/\(szOf qc 110=some 1)/\(qT qc 110=some false):=by and_intros<;>exact eqS zKr
@[go_sem] theorem sz112:(szOf qc 112=some 2)/\(qz qc 112=some (.agg [.sc .nilFunc,.sc .nilFunc]))/\(yK qc 112=some (plc [(0,1),(1,1)]))/\(qC qc 112 0=some (0,109,1))/\(qC qc 112 1=some (1,110,1))/\(yv qc 112=true)/\(qC qc 118 0=some (0,9,1))/\(qC qc 118 1=some (1,4,1))/\(szOf qc 133=some 1)/\(qT qc 133=some false):=by and_intros<;>exact eqS zKr
@[go_sem] theorem sl133:(qA qc 133=some (167,2,24))/\(qC qc 135 0=some (0,9,1))/\(qC qc 135 1=some (1,133,1))/\(qC qc 135 2=some (2,35,5))/\(qC qc 137 0=some (0,9,1))/\(qC qc 137 1=some (1,35,5))/\(szOf qc 145=some 1)/\(qT qc 145=some false)/\(qA qc 145=some (5,1,1))/\(szOf qc 146=some 1):=by and_intros<;>exact eqS zKr
@[go_sem] theorem ag146:(qT qc 146=some false)/\(qz qc 146=some (.lst true []))/\(qA qc 146=some (148,2,16))/\(qz qc 148=some (.agg [.sc (.int .i64 0),.sc (.int .i64 0)]))/\(qA qc 148=none)/\(Qj qc 148=some (2,3,1))/\(yK qc 148=some (plA 1))/\(yv qc 148=true)/\(qz qc 150=some (.agg [.sc (.int .i64 0),.sc (.int .i64 0),.sc (.int .i64 0)]))/\(yK qc 150=some (plc [(0,1),(1,1),(2,1)])):=by and_intros<;>exact eqS zKr
@[go_sem] theorem zo150:(yv qc 150=true)/\(szOf qc 159=some 1)/\(qT qc 159=some false)/\(qC qc 167 0=some (0,9,1))/\(qC qc 167 1=some (1,3,1))/\(qA qc 171=none)/\(Qj qc 171=some (64,4,1))/\(szOf qc 173=some 65)/\(qT qc 173=some true)/\(qz qc 173=some (.agg [.sc (.int .i64 0),.sc (.bool false),.sc (.bool false),.sc (.bool false),.sc (.bool false),.sc (.bool false),.sc (.bool false),.sc (.bool false),.sc (.bool false),.sc (.bool false),.sc (.bool false),.sc (.bool false),.sc (.bool false),.sc (.bool false),.sc (.bool false),.sc (.bool false),.sc (.bool false),.sc (.bool false),.sc (.bool false),.sc (.bool false),.sc (.bool false),.sc (.bool false),.sc (.bool false),.sc (.bool false),.sc (.bool false),.sc (.bool false),.sc (.bool false),.sc (.bool false),.sc (.bool false),.sc (.bool false),.sc (.bool false),.sc (.bool false),.sc (.bool false),.sc (.bool false),.sc (.bool false),.sc (.bool false),.sc (.bool false),.sc (.bool false),.sc (.bool false),.sc (.bool false),.sc (.bool false),.sc (.bool false),.sc (.bool false),.sc (.bool false),.sc (.bool false),.sc (.bool false),.sc (.bool false),.sc (.bool false),.sc (.bool false),.sc (.bool false),.sc (.bool false),.sc (.bool false),.sc (.bool false),.sc (.bool false),.sc (.bool false),.sc (.bool false),.sc (.bool false),.sc (.bool false),.sc (.bool false),.sc (.bool false),.sc (.bool false),.sc (.bool false),.sc (.bool false),.sc (.bool false),.sc (.bool false)])):=by and_intros<;>exact eqS zKr
@[go_sem] theorem pl173:(yK qc 173=some (plc [(0,1),(1,64)]))/\(qC qc 173 0=some (0,3,1))/\(qC qc 173 1=some (1,171,64))/\(yv qc 173=true)/\(szOf qc 178=some 7)/\(qT qc 178=some true)/\(qz qc 178=some (.agg [.lst true [],.lst true [],.lst true [],.lst true [],.lst true [],.sc (.int .i64 0),.sc (.bool false)]))/\(yK qc 178=some (plc [(0,4),(4,1),(5,1),(6,1)]))/\(qC qc 178 0=some (0,27,4))/\(qC qc 178 1=some (4,97,1)):=by and_intros<;>exact eqS zKr
@[go_sem] theorem fl178_2:(qC qc 178 2=some (5,3,1))/\(qC qc 178 3=some (6,4,1))/\(yv qc 178=true)/\(qA qc 179=some (209,66,88))/\(szOf qc 181=some 1)/\(qT qc 181=some false)/\(qA qc 181=some (9,1,16))/\(szOf qc 183=some 7)/\(qT qc 183=some true)/\(qz qc 183=some (.agg [.lst true [],.lst true [],.lst true [],.lst true [],.lst true [],.sc (.int .i64 0),.sc (.int .i64 0)])):=by and_intros<;>exact eqS zKr
@[go_sem] theorem pl183:(yK qc 183=some (plc [(0,4),(4,1),(5,1),(6,1)]))/\(qC qc 183 0=some (0,27,4))/\(qC qc 183 1=some (4,181,1))/\(qC qc 183 2=some (5,3,1))/\(qC qc 183 3=some (6,3,1))/\(yv qc 183=true)/\(szOf qc 192=some 1)/\(qT qc 192=some false)/\(qz qc 192=some (.lst true []))/\(qA qc 192=some (43,4,64)):=by and_intros<;>exact eqS zKr
@[go_sem] theorem sl203:(qA qc 203=some (173,65,72))/\(qz qc 209=some (.agg [.sc (.string ⟨#[]⟩),.sc (.int .i64 0),.sc (.bool false),.sc (.bool false),.sc (.bool false),.sc (.bool false),.sc (.bool false),.sc (.bool false),.sc (.bool false),.sc (.bool false),.sc (.bool false),.sc (.bool false),.sc (.bool false),.sc (.bool false),.sc (.bool false),.sc (.bool false),.sc (.bool false),.sc (.bool false),.sc (.bool false),.sc (.bool false),.sc (.bool false),.sc (.bool false),.sc (.bool false),.sc (.bool false),.sc (.bool false),.sc (.bool false),.sc (.bool false),.sc (.bool false),.sc (.bool false),.sc (.bool false),.sc (.bool false),.sc (.bool false),.sc (.bool false),.sc (.bool false),.sc (.bool false),.sc (.bool false),.sc (.bool false),.sc (.bool false),.sc (.bool false),.sc (.bool false),.sc (.bool false),.sc (.bool false),.sc (.bool false),.sc (.bool false),.sc (.bool false),.sc (.bool false),.sc (.bool false),.sc (.bool false),.sc (.bool false),.sc (.bool false),.sc (.bool false),.sc (.bool false),.sc (.bool false),.sc (.bool false),.sc (.bool false),.sc (.bool false),.sc (.bool false),.sc (.bool false),.sc (.bool false),.sc (.bool false),.sc (.bool false),.sc (.bool false),.sc (.bool false),.sc (.bool false),.sc (.bool false),.sc (.bool false)]))/\(yK qc 209=some (plc [(0,1),(1,65)]))/\(qC qc 209 0=some (0,9,1))/\(qC qc 209 1=some (1,173,65))/\(yv qc 209=true)/\(qA qc 210=some (217,9,112))/\(qz qc 217=some (.agg [.sc (.string ⟨#[]⟩),.sc (.string ⟨#[]⟩),.sc (.bool false),.sc (.int .i64 0),.sc (.string ⟨#[]⟩),.sc (.int .i64 0),.lst true [],.sc (.int .i64 0),.sc (.int .i64 0)]))/\(yK qc 217=some (plc [(0,1),(1,1),(2,1),(3,5),(8,1)]))/\(qC qc 217 0=some (0,9,1)):=by and_intros<;>exact eqS zKr
@[go_sem] theorem fl217_1:(qC qc 217 1=some (1,9,1))/\(qC qc 217 2=some (2,4,1))/\(qC qc 217 3=some (3,35,5))/\(qC qc 217 4=some (8,3,1))/\(yv qc 217=true)/\(szOf qc 235=some 1)/\(qT qc 235=some false)/\(qA qc 235=some (244,3,24))/\(szOf qc 244=some 3)/\(qT qc 244=some true):=by and_intros<;>exact eqS zKr
@[go_sem] theorem ze244:(qz qc 244=some (.agg [.sc (.int .i64 0),.sc (.int .i64 0),.sc (.int .i64 0)]))/\(szOf qc 245=some 1)/\(qT qc 245=some false)/\(szOf qc 246=some 1)/\(qT qc 246=some false)/\(qz qc 246=some (.sc .nilFunc))/\(szOf qc 259=some 1)/\(qT qc 259=some false)/\(qA qc 259=some (318,2,24))/\(qz qc 266=some (.agg [.sc (.int .i64 0),.lst true []])):=by and_intros<;>exact eqS zKr
@[go_sem] theorem pl266:(yK qc 266=some (plc [(0,1),(1,1)]))/\(yv qc 266=true):=by and_intros<;>exact eqS zKr
end Ty
end Go.Proofs.YthkdjhkmlmjkbaaGreatDoor
namespace Go.Ev
open Go
section
variable {av s x:AV}{K:AV->Mu->Prop}{xs ys:List (List AV)}{mu:Mu}{bt e i lo sz t:Nat}{P:qb}{Q:qJ->St->Prop}
abbrev rI(n:Int):List AV:=[.sc (.int .i64 n)]
abbrev lI(xs:List Int):AV := .lst false (xs.map rI)
structure Rl where
 ar:Int
 ts:List Int
 deriving DecidableEq
structure Sc where
 sC:List Int
 sN:Int
structure Fld where
 name:cL
 sS:List Int
 var:Bool
structure Bd where
 lo:Rl
 up:Rl
 deriving DecidableEq
abbrev cRel(r:Rl):List AV:=[aI r.ar,lI r.ts]
abbrev eRel(r:Rl):AV := .agg (cRel r)
abbrev lRel(g:List Rl):AV := .lst false (g.map cRel)
abbrev eSc(s:Sc):AV := .agg [lI s.sC,aI s.sN]
abbrev wU(s:cL×Bool):List AV:=[.sc (.string s.1),aB s.2]
abbrev wb(f:Fld):List AV:=[.sc (.string f.name),lI f.sS,aB f.var]
abbrev cBd(b:Bd):List AV:=[aI b.lo.ar,lI b.lo.ts,aI b.up.ar,lI b.up.ts]
abbrev lBd(b:List Bd):AV := .lst false (b.map cBd)
theorem qR(xs):HF (lI xs):=HF.lst fun r g c i=>by
 obtain⟨n,_,rfl⟩:=qp.1 g
 grind [HF.sc]
theorem U6(r):∀ c,c∈cRel r->HF c:=by
 intro c g;simp at g;rcases g with rfl|rfl
 .exact HF.sc _
 .exact qR _
theorem Q0(r):HF (eRel r):=HF.agg (U6 r)
theorem wd(g):HF (lRel g):=HF.lst fun r i c j=>by
 obtain⟨n,_,rfl⟩:=qp.1 i;exact U6 n c j
theorem zM(s):HF (eSc s):=HF.agg fun c g=>by
 simp at g;rcases g with rfl|rfl
 .exact qR _
 .exact HF.sc _
theorem qeW(f):∀ c,c∈wb f->HF c:=by
 intro c g;simp at g;rcases g with rfl|rfl|rfl
 .exact HF.sc _
 .exact qR _
 .exact HF.sc _
theorem uD(b):HF (lBd b):=HF.lst fun r i c g=>by
 obtain⟨n,_,rfl⟩:=qp.1 i;simp at g;rcases g with rfl|rfl|rfl|rfl
 .exact HF.sc _
 .exact qR _
 .exact HF.sc _
 .exact qR _
@[go_sem] theorem ieq:(∀(a b:Int),(a == b)=decide (a=b))/\(∀(a b:Int),(a != b)=!decide (a=b)):=by and_intros<;>intros<;>exact eqS rfl
@[go_sem] theorem natEq(a b:Nat):((a:Int)=(b:Int))=(a=b):=propext ⟨Int.ofNat_inj.1,fun h=>by rw[h]⟩
inductive Tag (p:St->Prop):Type where
 |mk:Tag p
def Keep(p:St->Prop)(_:Tag p)(st:St):Prop:=p st
theorem Keep.loop{p:Nat->St->Prop}{st n}(m)(g:m<n)(h:p m st):∃ m,m<n/\Keep (p m) .mk st:=⟨m,g,h⟩
theorem cH{pl body st}(I:Nat->St->Prop)(n)(h:I n st)(k:∀ n st,I n st->awp P pl body (uA (fun n=>Keep (I n) .mk) n Q) st):qn P pl body Q st := cG (fun n=>Keep (I n) .mk) n h k
theorem zJ(xs:List Int):zb 1 (xs.map rI):=fun r g=>by
 obtain⟨n,_,rfl⟩:=qp.1 g;exact⟨rfl,rfl⟩
theorem vY(xs:List Rl):zb 2 (xs.map cRel):=fun r g=>by
 obtain⟨n,_,rfl⟩:=qp.1 g;exact⟨rfl,rfl⟩
def OwnF(lo:Nat)(mu:Mu)(sz:Nat)(av:AV)(xs:List (List AV)):Prop:=Own mu sz av xs/\(∀ b s o l,av = .sl b s o l->lo<=b)/\lo<=mu.length
theorem OwnF.one(h:OwnF lo mu sz av xs):av.one=true:=by
 rcases h.1 with rfl|⟨b,rfl,_⟩<;>rfl
theorem OwnF.cells(h:OwnF lo mu sz av xs):av.cells=[av]:=by
 rcases h.1 with rfl|⟨b,rfl,_⟩<;>rfl
theorem OwnF.nil(h:lo<=mu.length):OwnF lo mu sz (.lst true []) []:=⟨.inl rfl,fun _ _ _ _ e=>by simp at e,h⟩
theorem OwnF.set{c}(h:OwnF lo mu sz av xs)(o:i<lo):OwnF lo (mu.set i c) sz av xs:=by
 obtain⟨j,g,l⟩:=h;refine⟨?_,g,zUs l⟩;rcases j with rfl|⟨b,rfl,p⟩
 .exact .inl rfl
 .have:=g _ _ _ _ rfl
  exact .inr ⟨b,rfl,by grind⟩
theorem yB.ownF{j:Nat}{zv}(hs:qA P t=some (e,sz,bt))(p:(qA P j).isSome=true)(hz:qz P e=some zv)
  (r:zv.cells.length=sz) (C:zv.cells.all AV.one=true) (I:sz≠0) (hb:bt<=16384) (J:OwnF lo mu sz s xs) (hx:qF mu x=some ys) (U:zb sz xs) (wy:zb sz ys) (hl:xs.length+ys.length<=4294967296)
  (k:∀ av g,OwnF lo g sz av (xs++ys)->(∀ i,i<lo->g[i]?=mu[i]?)->K av g):yB P mu #[t,j] s x K:=by
 obtain⟨J,R,T⟩:=J;refine⟨t,j,e,sz,bt,ys,rfl,hs,p,⟨zv,hz,r,C⟩,I,hb,hx,wy,?_⟩;rcases J with rfl|⟨b,rfl,hc⟩
 .refine .inl ⟨xs,rfl,U,hl,fun h=>?_,fun h=>?_⟩
  .subst h
   exact k _ _ ⟨.inl zSp,fun _ _ _ _ e=>by simp at e,T⟩ (fun _ _=>rfl)
  .refine k _ _ ⟨.inr ⟨mu.length,zSp,zSp⟩,fun b s o l e=>?_,zSo⟩ (fun i hi=>?_)
   .grind
   grind
 .have a0:=yc U.ok
  have a1:=R _ _ _ _ rfl;refine .inr ⟨b,xs.length,xs.flatten,rfl,hc,zOm,hl,?_⟩;have a2:xs.flatten.take (xs.length*sz)=xs.flatten:=zn zOm;refine k _ _ ⟨.inr ⟨mu.length,zSp,?_⟩,fun b s o l e=>?_,zSo⟩ (fun i hi=>?_)
  .grind
  .grind
  grind
theorem qD.ownF{r:Nat}{zv}(C:qA P t=some (e,sz,bt))(g:(qA P r).isSome=true)(I:qz P e=some zv)
  (j:zv.cells.length=sz) (o:zv.cells.all AV.one=true) (p:sz≠0) (J:bt<=16384) (R:OwnF lo mu sz s xs) (T:qF mu x=some ys) (U:zb sz xs) (wy:zb sz ys) (hl:xs.length+ys.length<=4294967296)
  (k:∀ av l,OwnF lo l sz av (xs++ys)->(∀ i,i<lo->l[i]?=mu[i]?)->K av l):qD P mu #[t,r] s x K:=
 .inl (yB.ownF C g I j o p J R T U wy hl k)
theorem qD.ints{j:Nat}{xs ys:List Int}{z}(o:qA P t=some (e,1,bt))(g:(qA P j).isSome=true)(p:qz P e=some (aI z))
  (r:bt<=16384) (C:OwnF lo mu 1 s (xs.map rI)) (I:qF mu x=some (ys.map rI)) (J:xs.length+ys.length<=4294967296)
  (k:∀ av l,OwnF lo l 1 av ((xs++ys).map rI)->(∀ i,i<lo->l[i]?=mu[i]?)->K av l):qD P mu #[t,j] s x K:=
 qD.ownF o g p rfl rfl zOm r C I (zJ _) (zJ _) (zUs J) (fun av l R T=>k av l (by rw[zF];exact R) T)
theorem qeX{low g l:Mu}(j:low.length=lo)(o:lo<=l.length)(h:∀ i,i<lo->l[i]?=(low++g)[i]?):l=low++l.drop lo:=by
 have:l.take lo=low:=by
  apply zZ;intro i;by_cases p:i<lo
  .grind
  grind
 rw[<-this,un]
theorem fL{low g}{o:Nat}{xs ys:List Int}{z}(p:qA P t=some (e,1,bt))(j:(qA P o).isSome=true)(r:qz P e=some (aI z))
  (C:bt<=16384) (I:OwnF low.length (low++g) 1 s (xs.map rI)) (J:qF (low++g) x=some (ys.map rI)) (R:xs.length+ys.length<=4294967296)
  (k:∀ av i,OwnF low.length (low++i) 1 av ((xs++ys).map rI)->K av (low++i)):qD P (low++g) #[t,o] s x K:=
 qD.ints p j r C I J R fun av l T U=>by
  have:=qeX rfl T.2.2 U
  grind
theorem OwnF.low{low low' g}(h:OwnF low.length (low++g) sz av xs)(j:low'.length=low.length):OwnF low'.length (low'++g) sz av xs:=by
 obtain⟨l,i,_⟩:=h;refine⟨?_,by rw[j];exact i,zSp⟩;rcases l with rfl|⟨b,rfl,o⟩
 .exact .inl rfl
 .have:=i _ _ _ _ rfl
  refine .inr ⟨b,rfl,?_⟩
  grind
theorem OwnF.rdI{xs}(h:OwnF lo mu 1 av (xs.map rI)):Rd mu av (lI xs):=
 h.1.rd (zJ xs).ok fun r g c i=>by
  obtain⟨n,_,rfl⟩:=qp.1 g
  grind [HF.sc]
theorem Rd.rel{r}(h:Rd mu av (lI r.ts)):Rd mu (.agg [aI r.ar,av]) (eRel r):=by
 refine .agg _ _ rfl (fun k x y g i=>?_)
 match k with
 | 0=>simp at g i;subst g;subst i;exact .zsc _
 | 1=>grind
 |k+2=>simp at g
theorem kC(b mu):(cutM (fun j=>j == b) mu 0)[b]?=mu[b]?:=by
 grind [j6]
theorem kD{b}(h:i≠b)(mu):(cutM (fun j=>!(j == b)) mu 0)[i]?=mu[i]?:=by
 grind [j6]
theorem FzQ.own{d st}(o:st.tm d=av)(g:OwnF lo st.mu sz av xs)(wf:zb sz xs)(hf:∀ r,r∈xs->∀ c,c∈r->HF c)
  (k:∀ l full,l.length=st.mu.length->(∀ j,j<lo->l[j]?=st.mu[j]?)->Q (.exit i) (st.put (some d) (.lst full xs) l)):FzQ Q (.exit i) st:=by
 rcases g.1 with h|⟨b,h,p⟩
 .refine FzQ.one (b:=st.mu.length) (d:=d) (x := .lst true xs) ?_ (k _ _ (wI _ _ _) fun j t=>kD (zW1 g.2.2) _)
  rw[o,h];exact .hf _ (HF.lst hf)
 .refine FzQ.one (b:=b) (d:=d) (x := .lst false xs) ?_ (k _ _ (wI _ _ _) fun j t=>kD (zW1 (g.2.1 _ _ _ _ h)) _)
  rw[o];exact Own.rd (.inr ⟨b,h,by rw[kC];exact p⟩) wf.ok hf
def allN(p:Nat->Bool):Nat->Bool
 | 0=>true
 |n+1=>allN p n&&p n
theorem JW{p n}:allN p n=true↔∀ i,i<n->p i=true:=by
 induction n with
 |zero=>simp[allN]
 |succ n l =>
  simp only[allN,qu,l];refine⟨fun h i g=>?_,fun h=>⟨fun i g=>h i zOm,h n zOm⟩⟩;rcases V7.1 g with j|j
  .exact h.1 i j
  grind
theorem qeY{p n k}(g:k<n)(h:p k=false):allN p n=false:=by
 rw[<-Bool.not_eq_true,JW]
 grind
def gI(xs:List Int)(i:Nat):Int:=(xs[i]?).getD 0
theorem vD{xs}(h):gI xs i=xs[i]:=by simp[gI,h]
def sumI(xs:List Int):Int:=xs.foldr (·+·) 0
theorem qeZ(a b):sumI (a++b)=sumI a+sumI b:=by
 induction a with
 |nil=>simp[sumI]
 |cons x a g=>grind [sumI]
theorem uE(l:List Int)(k h):sumI (l.take (k+1))=sumI (l.take k)+l[k]:=by
 rw[List.take_add_one,qx h,qeZ];simp[sumI]
theorem qe0(l m)(h:∀ a,a∈l->0<=a/\a<=m):0<=sumI l/\sumI l<=m*l.length:=by
 induction l with
 |nil=>simp[sumI]
 |cons x l g =>
  have j:=h x zSp;have o:=g (fun a i=>h a (zP1 i));simp only[sumI,List.foldr_cons,zC]at *
  grind
def GSc(s:Sc):Prop:=s.sC.length<=4/\∀ a,a∈s.sC->0<=a/\a<=5
theorem GSc.sum{s}(h:GSc s)(k):0<=sumI (s.sC.take k)/\sumI (s.sC.take k)<=20:=by
 have:=qe0 (s.sC.take k) 5 (fun a g=>h.2 a (List.mem_of_mem_take g));have i:=h.1
 grind
end
end Go.Ev
namespace Go.Ev
open Go Go.RowKit
section
variable {es:List (AV×AV)}
theorem fQ{C}{es i:List C}(r:es.Nodup)(t:i.Nodup)(h:∀ x,x∈i↔x∈es):∃ I J,PIx I J es i:=by
 have l:i.length=es.length:=((List.perm_ext_iff_of_nodup t r).2 h).length_eq;have f:∀ k,∃ j,k<es.length->j<es.length/\i[j]?=es[k]?:=by
  intro k;by_cases o:k<es.length
  .obtain ⟨j,p⟩:=List.mem_iff_getElem?.1 ((h es[k]).2 zSp)
   grind
  .exact ⟨0,fun h=>absurd h o⟩
 have g:∀ j,∃ k,j<es.length->k<es.length/\es[k]?=i[j]?:=by
  intro j;by_cases p:j<es.length
  .have P:j<i.length:=by omega
   obtain⟨k,o⟩:=List.mem_iff_getElem?.1 ((h i[j]).1 zSp)
   grind
  .exact ⟨0,fun h=>absurd h p⟩
 refine⟨fun k=>Classical.choose (f k),fun k=>Classical.choose (g k),l,fun k o=>?_⟩
 grind [Classical.choose_spec,Classical.choose,List.getElem?_inj]
theorem kE(h:(es.map Prod.fst).Nodup):es.Nodup:=(List.pairwise_map.1 h).imp (fun g e=>g (by rw[e]))
theorem fZ{mu b fs}(l:mu[b]?=some (.mp es))(o:(es.map Prod.fst).Nodup)(j:(fs.map Prod.fst).Nodup)(p:∀ x,x∈es↔x∈fs)(hf:∀ x,x∈es->HF x.1/\HF x.2):Rd mu (.mp b) (.ims fs):=by
 obtain⟨r,t,C⟩:=fQ (kE j) (kE o) p;refine .ims _ fs es r t C j (.mp b es es l rfl (fun k x y g i=>?_) (fun k x y g i=>?_))
 .rw [g]at i;cases i;exact .hf _ (hf x (zh g)).1
 .rw [g]at i;cases i;exact .hf _ (hf x (zh g)).2
end
end Go.Ev
namespace Go.Ev
open Go Go.RowKit
section
variable {R:AEnd->Mu->Prop}{args:List AV}{pl:Pol}{P:qb}
def MRel(G:Gh)(h:Array Obj):Option AV->FrameMode->Prop
 |none,u=>u = .returning
 |some x,u=>∃ v,u = .panicking [{ v,recovered:=false }]/\VRel G h x v
def jq(P:qb)(g:j1)(args:List AV)(mu:Mu)(m:Option AV)(R:Mu->Prop):Prop:=yk P g /\
 ∀(G:Gh)(w:qf)(j:Array qg)(u:FrameMode),Sim G mu w.heap->zw G w.heap args j->MRel G w.heap m u ->
  CallsDIn Fence.wide 0 P g j u w fun e i o=>∃ v p l,e = .returned v/\settle i = .returning/\Stp G mu w p l o/\R l
def U7(P:qb)(j:List ResultVar)(g:j1)(i:List AV)(R:AEnd->Mu->Prop):qJ->St->Prop
 | .normal,st | .ret,st=>jq P g i st.mu none fun l=>OptK (yZ P ⟨st.tm,l⟩ j) fun r=>R (.ret r) l
 | .pan v,st=>jq P g i st.mu (some v) fun l=>OptK (yZ P ⟨st.tm,l⟩ j) fun r=>R (.ret r) l
 | .exit _,_=>False
def wV(ops:Array us):Option (List us×us):=
 match ops.toList.reverse with
 |o :: r=>match o.op,o.guard,o.dst with | .defer _,none,none=>some (r.reverse,o)|_,_,_=>none
 | []=>none
theorem qe1{ops pre o}(h:wV ops=some (pre,o)):ops.toList=pre++[o]/\o.guard=none/\o.dst=none:=by
 unfold wV at h;split at h
 .rename_i l r g
  split at h
  .rename_i c p i j
   simp only[qo,Prod.mk.injEq]at h;obtain⟨rfl,rfl⟩:=h;refine⟨?_,i,j⟩;have:=congrArg List.reverse g
   grind
  grind
 grind
def wW(P:qb)(pl:Pol)(r:List ResultVar)(R:AEnd->Mu->Prop)(o:us)(l:j3)(st:St):Prop:=
 ∃ x args p g first i,o.op = .defer { callee := .value x,args,argTypes:=p }/\st.ev x = .fn (.func g) first i/\yk P g/\awp P pl l (U7 P r g (first++evs st.ev args.toList++i) R) st
def awpD(P:qb)(pl:Pol)(j:List ResultVar)(R:AEnd->Mu->Prop):j3->St->Prop
 | .seq (.region _ g false) i,st=>match wV g with
  |some (pre,o)=>awpS P pl false g pre (fun st=>wW P pl j R o i st) (fun v st=>R (.pan v) st.mu) st
  |none=>awpS P pl false g g.toList (fun st=>awpD P pl j R i st) (fun v st=>R (.pan v) st.mu) st
 |_,_=>False
def Ro.bare:Ro:=⟨none,[],false,[]⟩
theorem Rel.bare{i g j n G st a w}(r:Rel Ro.bare i g j n G st a w):a.defers=[]:=by
 obtain⟨l,⟨o,p⟩,_⟩:=r.df rfl;have:l=[]:=p rfl;subst this;simpa[Ro.bare] using o
def REnd(G : Gh)(mu : Mu)(w : qf)(R : AEnd->Mu->Prop)(e : Ending)(w' : qf) : Prop := ∃ i l, Stp G mu w i l w' /\
      ((∃ r v,R (.ret r) l/\e = .returned v/\VRel i w'.heap r v)\/(∃ r v,R (.pan r) l/\e = .panicked [{ v,recovered:=false }]/\VRel i w'.heap r v))
theorem qe2{fn G0 I w0}(s0:Sim G0 I w0.heap):∀ c st a w G,Rel Ro.bare G0 I w0 fn.ntmps G st a w ->
  dOkC fn.ntmps c=true->awpD P pl fn.results.toList R c st->c.wpIn (WF Ro.bare) 0 P (bodyPostM Fence.wide 0 P fn (REnd G0 I w0 R)) a w:=by
 intro c;induction c with
 |seq x y _ ih =>
  intro st a w G r hd h;cases x with
  |region id a2 a7 =>
   cases a7 with
   |true=>exact h.elim
   |false =>
    simp only[dOkC,qu]at hd;have T:(a2.toList.all fun o=>dOk fn.ntmps o.dst)=true:=hd.1;have a0:∀ v (st:St) a w G u,R (.pan v) st.mu->Rel Ro.bare G0 I w0 fn.ntmps G st a w->VRel G w.heap v u->LeavesInM Fence.wide 0 P fn a.tmps (REnd G0 I w0 R) a.defers (.panicking [{ v:=u,recovered:=false }]) w:=by
     intro v st a w G u C r J;rw[r.bare];exact⟨G,st.mu,r.stp,.inr ⟨v,u,C,rfl,J⟩⟩
    cases hl:wV a2 with
    |none =>
     simp only[awpD,hl]at h;refine wpIn_seq (wpIn_region_list ?_);refine UB s0 ?_ ?_ a2.toList st a w G r T h
     .intro st a w G C r
      exact ih st a w G r hd.2 C
     .intro v st a w G u C r J
      exact a0 v st a w G u C r J
    |some q =>
     obtain⟨pre,o⟩:=q;simp only[awpD,hl]at h;obtain⟨ho,hg,a1⟩:=qe1 hl;refine wpIn_seq (wpIn_region_list ?_);rw[ho]at T⊢;rw[List.all_append,qu]at T;refine KW s0 ?_ ?_ pre st a w G r T.1 h
     .intro st a w G C r
      obtain⟨xo,args,ah,g,first,a8,a9,hx,aa,a4⟩:=C;obtain⟨od,aq,ai,ab,aj,ar⟩:=o;simp only at a9 hg a1;subst a9;subst hg;subst a1;simp only[wpListIn,Region.wanted,if_true];have rf:=r.ev xo;rw[hx]at rf;generalize C:a.eval xo=fv at rf;cases rf with
      |fn _ _ _ a5 U hn hm J hw =>
      have ra:=s6 ⟨hn,J⟩ (ux r.ev args) ⟨hm,hw⟩;have ad:((({ dst:=none,op := .defer { callee := .value xo,args,argTypes:=ah },type:=ai,pos:=ab,after:=aj,guard:=none }:us).semAt (WF Ro.bare).round a.eval).run P w) =
        .ok (.defer { target := .fn (.func g) U,args:=a5++args.map a.eval }) w:=by
       rw[show (WF Ro.bare).round=none from rfl,Oper.semAt_none]
       grind [execOp,resolve,Sem.run_bind,Sem.run_pure,Result.andThen_ok,Deferred.ofValue]
      refine⟨fun _ _=>trivial,?_⟩;rw[ad,Oper.uponIn_defer];rw[r.bare]
      let d:Deferred:={ target := .fn (.func g) U,args:=a5++args.map a.eval }
      let j:=first++evs st.ev args.toList++a8
      let t:=a5++args.map a.eval++U
      let ro:Ro:=⟨none,[d],true,j.zip t.toList⟩
      have af:∀{G:Gh}{h:Array Obj},(∀ p,p∈ro.kp->VRel G h p.1 p.2)↔zw G h j t:=by
       intro G h;constructor
       .intro hk
        refine⟨ra.1,fun k x hx=>?_⟩;have ak:k<t.size:=by rw[ra.1];exact(qi.1 hx).1
        have J:t.toList[k]?=some (t.getD k j2):=by simp[Array.getD_eq_getD_getElem?,ak]
        have:(x,t.getD k j2)∈j.zip t.toList:=zh (i:=k) (by grind)
        grind
       .intro ha p hp
        obtain⟨k,hk⟩:=List.mem_iff_getElem?.1 hp;rw[List.getElem?_zip_eq_some]at hk;have:=ha.2 k p.1 hk.1;simp_all
      show y.wpIn (WF Ro.bare) 0 P _ _ _;refine UQ (pl:=pl) (n:=fn.ntmps) y (ro:=ro) s0 _ _ st _ w G ?_ ⟨r.tm,fun _=>Dfs.nil _ _ _ _ _ _,r.size,r.stp,af.2 ra⟩ hd.2 (.inl ⟨rfl,rfl⟩) a4;intro ae e st a w' G' C r he;obtain⟨Ds,g1,g2,g3,r',al⟩:=r.left rfl;have key:∀(m:Option AV)(u:FrameMode),u ≠ .run->MRel G' (vR Ds w').heap m u->jq P g j st.mu m (fun l=>OptK (yZ P ⟨st.tm,l⟩ fn.results.toList) fun r=>R (.ret r) l) ->
        LeavesInM Fence.wide 0 P fn a.tmps (REnd G0 I w0 R) a.defers u w':=by
       intro m u hu hm hs;rw[g1];refine UA hu Ds w' g2 g3 ?_;refine⟨hu,.inr ⟨fun h=>by simp[Fence.wide]at h,.func g,U,g,t,rfl,?_,fun _ _=>trivial,?_⟩⟩
       .simp only[invoke,d]
        exact aa _ _
       .refine (hs.2 G' (vR Ds w') t u r'.stp.sim (af.1 r'.kp) hm).mono ?_
        intro e u' av ⟨v,G2,an,he,ag,ao,z,hz,hR⟩;subst he;simp only;rw[ag];have r2:=r'.put (d:=none) s0 ao (.any j2) rfl;obtain⟨u2,k1,k2⟩:=Z4 (fn:=fn) r2 hz;exact⟨u2,k1,G2,an,r2.stp,.inl ⟨z,u2,hR,rfl,k2⟩⟩
      cases ae<;>cases e<;>simp only[ERel]at he
      .exact key none .returning zSp rfl C
      .exact C.elim
      .exact key none .returning zSp rfl C
      .obtain ⟨v,rfl,J⟩:=he
       exact key (some _) (.panicking _) zSp ⟨v,rfl,al _ _ J⟩ C
     .intro v st a w G u C r J
      exact a0 v st a w G u C r J
  |_=>exact h.elim
 |_=>intro st a w G r hd h;exact h.elim
theorem aK{f fn c mu}(g:yk P f)(hf:P.funcs[f]?=some fn)(i:fn.body=some c)
  (l:args.length<=fn.ntmps) (o:dOkC fn.ntmps c=true) (h:awpD P pl fn.results.toList R c (st0 args mu)):qU P f args mu R:=by
 refine⟨g,fun G w j s p=>?_⟩;refine(callsIn_wide (n:=0)).1 (callsIn_of_wp_marks hf i trivial ?_);refine qe2 (pl:=pl) s c (st0 args mu) _ w G ?_ o h;exact fB s p l
theorem jq.of_awp{f fn id o g mu m R}(a0:yk P f)(hf:P.funcs[f]?=some fn)
  (hb:fn.body=some (.seq (.region id #[o] false) g)) (ho:∃ d ty pos a6,o={ dst:=d,op := .call { callee := .builtin .recover,args:=#[],argTypes:=a6 },type:=ty,pos:=pos,after:=#[],guard:=none })
  (hn:args.length<=fn.ntmps) (hd:dOkC fn.ntmps (.seq (.region id #[o] false) g)=true) (hr:noRF g=true)
  (h:awp P pl g (u9 P fn.results.toList fun e l=>∃ r,e = .ret r/\R l) ((st0 args mu).put o.dst (m.getD (.sc .nilIface)) mu)):jq P f args mu m R:=by
 obtain⟨od,a8,a1,a2,rfl⟩:=ho;refine⟨a0,fun G w j u s ra hm=>?_⟩;refine callsDIn_of_wpSIn hf hb trivial fun i cs hc=>?_
 have r0:Rel Ro.bare G mu w fn.ntmps G (st0 args mu) { tmps:=j++Array.replicate (fn.ntmps-j.size) j2,defers:=[] } w:=fB s ra hn;simp only[dOkC,qu]at hd;have a9:dOk fn.ntmps od=true:=by grind
 refine wpSIn_seq (wpSIn_region ?_);have go:∀(T:List Frame)(v:qg)(U:FrameMode),T={ i with mode:=U } :: cs->settle U = .returning->VRel G w.heap (m.getD (.sc .nilIface)) v ->
   g.wpSIn Fence.wide 0 P (bodyPostS P fn i cs fun e U w'=>∃ v G' l,e = .returned v/\settle U = .returning/\Stp G mu w G' l w'/\R l)
    (({ tmps:=j++Array.replicate (fn.ntmps-j.size) j2,defers:=[] }:Act).put od v) T w:=by
  intro T v U a5 J hv;refine wpSIn_of_wpIn rfl ?_;refine UQ (pl:=pl) (n:=fn.ntmps) g (ro:=Ro.bare) s _ _ _ _ w G ?_ (r0.put s (Stp.refl s) hv a9) hd.2 (.inr hr) h;intro ae e st a w' G' hq r he;cases ae<;>cases e<;>simp only[ERel]at he
  .obtain ⟨z,hz,z',_,hR⟩:=hq
   obtain⟨u2,k1,k2⟩:=Z4 (fn:=fn) r hz;exact⟨r.bare,U,a5,u2,k1,u2,G',st.mu,rfl,J,r.stp,hR⟩
  .exact hq.elim
  .obtain ⟨z,hz,z',_,hR⟩:=hq
   obtain⟨u2,k1,k2⟩:=Z4 (fn:=fn) r hz;exact⟨r.bare,U,a5,u2,k1,u2,G',st.mu,rfl,J,r.stp,hR⟩
  .obtain ⟨z,hz,_⟩:=hq
   grind
 have aa:∀ ev:zA->qg,(execOp ev { dst:=od,op := .call { callee := .builtin .recover,args:=#[],argTypes:=a2 },type:=a8,pos:=a1,after:=#[],guard:=none }).run P w = .ok .recover w:=by
  simp_all[execOp,resolve,invoke,builtin]
 simp only[List.size_toArray,zC,List.length_nil,qq,qq.loop,wpOpsSIn];refine⟨fun _ _=>trivial,?_⟩;simp only[Region.wanted];cases m with
 |none =>
  have hu:u = .returning:=hm;have C:recoverD (i :: cs)=none:=by simp[recoverD,hc,hu]
  rw[C];exact go _ .nilIface .returning (by rw[<-hu,<-hc]) rfl (.sc _ rfl)
 |some x =>
  obtain⟨v,hu,hv⟩:=hm;have C:recoverD (i :: cs)=some (v,{ i with mode := .panicking [{ v,recovered:=true }] } :: cs):=by simp[recoverD,hc,hu]
  rw[C];exact go _ v (.panicking [{ v,recovered:=true }]) rfl rfl hv
end
end Go.Ev
namespace Go.Ev
open Go Go.RowKit
section
variable {R:AEnd->Mu->Prop}{ops:Array us}{f g:j1}{args:List AV}{i:List ResultVar}{mu:Mu}{pl:Pol}{P:qb}
def EndR(G:Gh)(h:Array Obj):AEnd->Ending->Prop
 | .ret r,e=>∃ v,e = .returned v/\VRel G h r v
 | .pan r,e=>∃ v,e = .panicked [{ v,recovered:=false }]/\VRel G h r v
def JY(P:qb)(f:j1)(args:List AV)(V:AEnd->Prop):Prop:=yk P f /\
 ∀(i:Nat->Prop)(w:qf)(j:Array qg),Sim ⟨i,[]⟩ [] w.heap->zw ⟨i,[]⟩ w.heap args j ->
  Calls P f j w fun e l=>∃ g a,V a/\EndR ⟨g,[]⟩ l.heap a e/\(∀ b,i b->g b)/\(∀ b,g b->b<l.heap.size/\(i b\/w.heap.size<=b))/\ZR w.heap.size w l
abbrev U8(P:qb)(f:j1)(args:List AV)(e:AEnd):Prop:=JY P f args (·=e)
theorem U8.toP{r}(h:U8 P f args (.ret r)):qh P f args r:=by
 refine⟨h.1,fun g w j o p=>(h.2 g w j o p).mono fun e C ⟨i,a,l,t,I,J,R⟩=>?_⟩;subst l;obtain⟨v,T,l⟩:=t
 grind
def RdE(mu:Mu):AEnd->AEnd->Prop
 | .ret x,.ret y=>Rd mu x y
 | .pan x,.pan y=>Rd mu x y
 |_,_=>False
theorem JY.of_sound{V}(h:qU P f args [] fun e l=>∃ I,V I/\RdE l e I):JY P f args V:=by
 obtain⟨J,h⟩:=h;refine⟨J,fun p w j hi ra=>?_⟩;refine(h ⟨p,[]⟩ w j hi ra).mono fun e T ⟨U,l,st,hR⟩=>?_
 have r:∀ b,¬Live ⟨p,[]⟩ [] b:=fun b ⟨i,c,t,hc,_⟩=>by simp at hc
 have fin:∀ a,V a->EndR ⟨fun b=>U.imm b\/Live U l b,[]⟩ T.heap a e->∃ g a,V a/\EndR ⟨g,[]⟩ T.heap a e/\(∀ b,p b->g b)/\(∀ b,g b->b<T.heap.size/\(p b\/w.heap.size<=b))/\ZR w.heap.size w T:=by
  intro a R hr;refine⟨fun b=>U.imm b\/Live U l b,a,R,hr,fun b C => .inl (st.le.imm b C),fun b C=>?_,⟨st.os,st.tape,st.output,st.size,fun k hk=>st.keep k hk (r k)⟩,st.drawn⟩;rcases C with C|C
  .refine ⟨st.sim.imm b C,?_⟩
   rcases st.inew b C with h|h|h
   .exact .inl h
   .grind
   omega
  .refine ⟨st.sim.livesize C,?_⟩
   rcases st.live b C with h|h
   .grind
   omega
 rcases hR with ⟨r',v,⟨I,R,o⟩,rfl,hu⟩|⟨r',v,⟨I,R,o⟩,rfl,hu⟩
 .cases I with
  |ret y=>exact fin _ R ⟨v,rfl,o.sound st.sim hu⟩
  |pan y=>exact o.elim
 .cases I with
  |ret y=>exact o.elim
  |pan y=>exact fin _ R ⟨v,rfl,o.sound st.sim hu⟩
@[go_sem] theorem RdE_ret(mu x y):RdE mu (.ret x) (.ret y)=Rd mu x y:=eqS rfl
theorem aA{K i}(j:qU P g args mu R)(k:∀ r m,R (.ret r) m->K r m)(kp:∀ r m,R (.pan r) m->i r m) :
  qe P false mu (.fn (.func g) [] []) args K i:=
 .inr ⟨rfl,.inl ⟨g,[],[],R,rfl,zUs j,k,kp⟩⟩
theorem qU.hid{i c}(I:mu[i]?=some c)(J:c ≠ .dead)(h:qU P f args (mu.set i .dead) R) :
  qU P f args mu fun e m=>∃ g,R e g/\g[i]?=some .dead/\m=g.set i c:=by
 refine⟨h.1,fun G w j s T=>?_⟩;have l:i<G.blk.length:=by rw[s.len];exact(qi.1 I).1
 refine(h.2 G w j (s.hid i) T).mono fun e w' ⟨U,g,t,hR⟩=>?_
 obtain⟨g1,g2,g3⟩:=t.unhid s I J (b:=(G.blk[i]'l).1) (t:=(G.blk[i]'l).2) (zP1 l);refine⟨U,g.set i c,g3,?_⟩;rcases hR with ⟨r,v,o,p,C⟩|⟨r,v,o,p,C⟩
 .exact .inl ⟨r,v,⟨g,o,g1,rfl⟩,p,C⟩
 .exact .inr ⟨r,v,⟨g,o,g1,rfl⟩,p,C⟩
attribute [go_sem] wV
def JZ(P:qb)(pl:Pol)(i:List ResultVar)(R:AEnd->Mu->Prop)(ops:Array us)(g:j3)(st:St):Option (List us×us)->Prop
 |some (pre,o)=>awpS P pl false ops pre (fun st=>wW P pl i R o g st) (fun v st=>R (.pan v) st.mu) st
 |none=>awpS P pl false ops ops.toList (fun st=>awpD P pl i R g st) (fun v st=>R (.pan v) st.mu) st
@[go_sem ↓] theorem awpD_seq{id g st} :
  awpD P pl i R (.seq (.region id ops false) g) st=JZ P pl i R ops g st (wV ops):=by
 grind [wV,awpD,JZ]
@[go_sem] theorem qpQ{g st pre o} :
  JZ P pl i R ops g st (some (pre,o))=awpS P pl false ops pre (fun st=>wW P pl i R o g st) (fun v st=>R (.pan v) st.mu) st:=eqS rfl
@[go_sem] theorem qpR{g st} :
  JZ P pl i R ops g st none=awpS P pl false ops ops.toList (fun st=>awpD P pl i R g st) (fun v st=>R (.pan v) st.mu) st:=eqS rfl
theorem cU{p x args l ty pos r t d i st first caps}
  (C:st.ev x = .fn (.func g) first caps) (o:yk P g) (h:awp P pl i (U7 P p g (first++evs st.ev args.toList++caps) R) st) :
  wW P pl p R { dst:=d,op := .defer { callee := .value x,args:=args,argTypes:=l },type:=ty,pos:=pos,after:=r,guard:=t } i st:=
 ⟨x,args,l,g,first,caps,rfl,C,o,h⟩
@[go_sem] theorem PostD_ret{j i st}:U7 P j g i R .ret st=jq P g i st.mu none fun l=>OptK (yZ P ⟨st.tm,l⟩ j) fun r=>R (.ret r) l:=eqS rfl
theorem jq.mono{m R R'}(h:jq P g args mu m R)(k:∀ l,R l->R' l):jq P g args mu m R':=
 ⟨h.1,fun G w j u s i o=>(h.2 G w j u s i o).mono fun e J T ⟨v,p,l,r,t,C,I⟩=>⟨v,p,l,r,t,C,k _ I⟩⟩
@[go_sem] theorem ofV_mnone:ofV (.map none) = .sc (.map none):=eqS rfl
theorem Rd.aggs{xs ys}(h:Rds mu xs ys):Rd mu (.agg xs) (.agg ys) := .agg _ _ h.get.1 h.get.2
end
end Go.Ev
namespace Go.Proofs.YthkdjhkmlmjkbaaGreatDoor
open Go Go.Ev Go.Proofs Tryz
namespace Y1
inductive Nd where
 |mk (op:Int) (name:cL) (n:Int) (sD:List Nd) (pos:Int)
def Nd.op:Nd->Int | .mk o _ _ _ _=>o
def Nd.name:Nd->cL | .mk _ s _ _ _=>s
def Nd.n:Nd->Int | .mk _ _ n _ _=>n
def Nd.sD:Nd->List Nd | .mk _ _ _ ks _=>ks
def Nd.pos:Nd->Int | .mk _ _ _ _ p=>p
abbrev aS(s:cL):AV := .sc (.string s)
mutual
def cNd:Nd->List AV
 | .mk op i n ks p=>[aI op,aS i,aI n,.lst false (cNds ks),aI p]
def cNds:List Nd->List (List AV)
 | []=>[]
 |k :: ks=>cNd k :: cNds ks
end
theorem U9:∀ ks,cNds ks=ks.map cNd
 | []=>by simp[cNds]
 |k :: ks=>by simp[cNds,U9 ks]
theorem yD(n):cNd n=[aI n.op,aS n.name,aI n.n,.lst false (n.sD.map cNd),aI n.pos]:=by
 obtain⟨op,i,k,ks,p⟩:=n;simp[cNd,U9,Nd.op,Nd.name,Nd.n,Nd.sD,Nd.pos]
@[go_sem] theorem Yb(n):(cNd n).length=5:=by rw[yD];rfl
@[go_sem] theorem cNd_take(n):(cNd n).take 5=cNd n:=zn (by rw[Yb];exact qs _)
@[go_sem] theorem J0(n):(cNd n).all AV.one=true:=by rw[yD];rfl
@[go_sem] theorem qO(n):(∀ x,x∈cNd n->x.one=true)=True:=eq_true fun x g=>by have:=q8.1 (J0 n) x g;simpa using this
@[go_sem] theorem cNd_f0(n):(cNd n).take 1=[aI n.op]:=by rw[yD];rfl
@[go_sem] theorem cNd_f1t(n):(cNd n).tail.take 1=[aS n.name]:=by rw[yD];rfl
@[go_sem] theorem cNd_f2(n):((cNd n).drop 2).take 1=[aI n.n]:=by rw[yD];rfl
@[go_sem] theorem cNd_f3(n):((cNd n).drop 3).take 1=[.lst false (n.sD.map cNd)]:=by rw[yD];rfl
@[go_sem] theorem kF(n):((cNd n).drop 4).take 1=[aI n.pos]:=by rw[yD];rfl
@[go_sem high] theorem put_cNd(z o n):qQ z o (cNd n)=z.take o++(cNd n++z.drop (o+5)):=by
 rw[yD];simp[qQ]
abbrev eNd(n:Nd):AV := .agg (cNd n)
abbrev lNd(ks:List Nd):AV := .lst false (ks.map cNd)
mutual
theorem wX:∀(n:Nd),∀ c,c∈cNd n->HF c
 | .mk op i n ks p=>by
  intro c g;simp only[cNd,ql,qG,or_false]at g;rcases g with rfl|rfl|rfl|rfl|rfl
  .exact HF.sc _
  .exact HF.sc _
  .exact HF.sc _
  .exact HF.lst (Wa ks)
  .exact HF.sc _
theorem Wa:∀(ks:List Nd),∀ r,r∈cNds ks->∀ c,c∈r->HF c
 | []=>by intro r g;simp[cNds]at g
 |k :: ks=>by
  intro r g;simp only[cNds,ql]at g;rcases g with rfl|g
  .exact wX k
  .exact Wa ks r g
end
theorem zd(n):HF (eNd n):=HF.agg (wX n)
theorem kG(ks):HF (lNd ks):=HF.lst (by rw[<-U9];exact Wa ks)
abbrev J1(e p:Int):AV := .ifc 274 (.agg [aI e,aI p])
theorem qe3(mu b x y)(g:mu[b]?=some (.arr [x,y])):jq qc 207 [.ptr b 0] mu none fun l=>l=mu:=by
 refine jq.of_awp call207 func207 rfl ⟨_,_,_,_,rfl⟩ (yh zKr) zKr zKr (pl:={}) ?_;simp[go_sem]
end Y1
namespace Y2
open Y1
abbrev aT(t:List Int):AV := .agg (t.map fun x => .sc (.int .i8 x))
structure Kd where
 ar:Int
 ts:List (List Int)
abbrev mKd(ts:List (List Int)):AV := .ims (ts.map fun t=>(aT t,aB true))
abbrev cKd(k:Kd):List AV:=[aI k.ar,mKd k.ts]
theorem hf_aT(t):HF (aT t):=HF.agg fun c g=>by
 obtain⟨x,_,rfl⟩:=qp.1 g;exact HF.sc _
theorem jN{a b:cL}(h:¬a=b):(a.toList == b.toList)=false:=by
 cases g:(a.toList == b.toList) with
 |false=>rfl
 |true=>exact absurd (Kx (by rw[beq_toListBytes];exact g)) h
def aSc:List (cL×Kd)->AV
 | [] => .sc (.pointer none)
 |v :: s => .ip [aS v.1,aI v.2.ar,mKd v.2.ts,aSc s]
def jD(name:cL):List (cL×Kd)->List (cL×Kd)
 | []=>[]
 |v :: s=>if v.1=name then v :: s else jD name s
end Y2
namespace Y3
def pad(l:List Int):List Int:=[l.getD 0 0,l.getD 1 0,l.getD 2 0]
abbrev i8s(l:List Int):List AV:=l.map fun x => .sc (.int .i8 x)
@[go_sem] theorem findA_nil(P g k i):qX P g k [] i=some none:=eqS rfl
end Y3
namespace Y4
end Y4
namespace P1
open Y1 Y2 Y3
section
abbrev Tp:=List Int
variable {a b:List Tp}
structure Pd where
 name:cL
 params:List (cL×Int)
 body:Nd
structure TS where
 sS:List (cL×Bool)
 sA:List Fld
 sT:List Pd
 sP:List (cL×Nd)
def ins(l:List Tp)(t:Tp):List Tp:=if t∈l then l else l++[t]
def uni(a b:List Tp):List Tp:=b.foldl ins a
theorem qe4{l t x}:x∈ins l t↔x∈l\/x=t:=by
 grind [ins,id]
theorem vE{x}:x∈uni a b↔x∈a\/x∈b:=by
 unfold uni;induction b generalizing a with
 |nil=>simp
 |cons t b g =>
  rw[List.foldl_cons,g,qe4,ql,or_assoc]
theorem qe5{l t}(h:l.Nodup):(ins l t).Nodup:=by
 grind [ins,List.nodup_append]
theorem Yc(h:a.Nodup):(uni a b).Nodup:=by
 unfold uni;induction b generalizing a with
 |nil=>exact h
 |cons t b g=>exact g (qe5 h)
def kOf(l:List Int):Kd:=⟨l.length,[pad l]⟩
def kSum(a b:Kd):Kd:=⟨a.ar,uni (uni [] a.ts) b.ts⟩
def conc(x:Tp)(n:Nat)(y:Tp)(m skip:Nat):Tp:=pad (x.take (n-skip)++(y.take m).drop skip)
def pairs(a b:List Tp):List (Tp×Tp):=a.flatMap fun x=>b.map fun y=>(x,y)
theorem Za{x y}:(x,y)∈pairs a b↔x∈a/\y∈b:=by
 simp[pairs]
def vZ(n m:Nat)(a b:List Tp):List Tp:=uni [] ((pairs a b).filterMap fun q=>if q.1.getD (n-1) 0=q.2.getD 0 0 then some (conc q.1 n q.2 m 1) else none)
def zD(a b:Kd):Kd:=⟨a.ar+b.ar-2,vZ a.ar.toNat b.ar.toNat a.ts b.ts⟩
def uF(n m:Nat)(a b:List Tp):List Tp:=uni [] ((pairs a b).map fun q=>conc q.1 n q.2 m 0)
def v5(a b:Kd):Kd:=⟨a.ar+b.ar,uF a.ar.toNat b.ar.toNat a.ts b.ts⟩
def cloN:Nat->Nat->Kd->Kd
 | 0,_,a=>a
 |f+1,n,a=>if n<a.ts.length then cloN f a.ts.length (kSum a (zD a a)) else a
def kClo(a:Kd):Kd:=cloN 70 0 a
def zr(ns g:Nat):Kd:=⟨g,(qq ns).map fun (i:Nat)=>pad (zo g (i:Int))⟩
def Zb(a b:Kd):Kd:=⟨a.ar,a.ts.filter fun t=>decide (t∈b.ts)⟩
def kTr(a:Kd):Kd:=⟨2,uni [] (a.ts.map fun t=>[t.getD 1 0,t.getD 0 0,0])⟩
def uG:cL:=⟨#[95,102,105,114,115,116]⟩
def uH:cL:=⟨#[95,110,101,120,116]⟩
def vf(fs:List Fld)(nm:cL):List Kd:=fs.filterMap fun f=>if f.name=nm then some (kOf f.sS) else none
def wY(i:Nat)(s:cL×Bool)(nm:cL):List Kd:=
 (if s.1=nm then [kOf [(i:Int)]] else [])++((if s.2=true/\s.1++uG=nm then [kOf [(i:Int)]] else [])++(if s.2=true/\s.1++uH=nm then [kOf [(i:Int),(i:Int)]] else []))
def v6:Nat->List (cL×Bool)->cL->List Kd
 |_,[],_=>[]
 |i,s :: r,g=>wY i s g++v6 (i+1) r g
def means(ts:TS)(nm:cL):List Kd:=vf ts.sA nm++v6 0 ts.sS nm
structure Ck where
 ts:TS
 calls:Nat
 timed:List Bool
def q9(c:Ck)(nm:cL):Option Nat:=(c.ts.sT.take c.calls).findIdx? fun p=>decide (p.name=nm)
def zW(op:Int):Bool:=decide (op=5)||decide (op=48)||decide (op=49)||decide (op=50)||decide (op=51)
def zN(c:Ck)(op:Int)(nm:cL):Bool:=zW op||(decide (op=47)&&(match q9 c nm with|some p=>c.timed.getD p false|none=>false))
mutual
def ym(c:Ck):Nd->Bool
 | .mk op i n ks p=>zN c op i||J2 c ks
def J2(c:Ck):List Nd->Bool
 | []=>false
 |k :: ks=>ym c k||J2 c ks
end
end
def tmsL(ts:TS):Nat->List Bool
 | 0=>[]
 |k+1=>tmsL ts k++(match ts.sT[k]? with|some p=>[ym ⟨ts,k,tmsL ts k⟩ p.body] | none=>[])
def mkCk(ts:TS)(g:Nat):Ck:=⟨ts,g,tmsL ts g⟩
abbrev Scp:=List (cL×Kd)
abbrev Dg:=Int×Int
abbrev Res:=Except Dg (Option Kd)
def y0(c:Ck)(s:Scp)(nm:cL)(pos:Int):Res:=
 match jD nm s with
 |v :: _ => .ok (some v.2)
 | []=>match means c.ts nm with
  | [] => .error (40,pos)
  | [k] => .ok (some k)
  |_ => .error (44,pos)
def v7(op:Int)(a b:Kd):Kd:=if op=6\/op=14 then kSum a b else if op=7 then Zb a b else a
def binK(ns:Nat)(op:Int)(a:Kd):Kd:=if op=12 then kClo a else if op=13 then kSum (kClo a) (zr ns 2) else kTr a
def zO(ns:Nat)(op n pos:Int)(l:List (Option Kd)):Res:=
 if op=2 then .ok (some ⟨n,[]⟩)
 else if op=3 then .ok (some (zr ns 1))
 else if op=4 then .ok (some (zr ns 2))
 else match l with
  | [a]=>if op=5 then .ok a else match a with
   |some a=>if op=11\/op=12\/op=13 then (if a.ar=2 then .ok (some (binK ns op a)) else .error (42,pos)) else .ok none
   |none => .ok none
  | [some a,some b] =>
   if op=6\/op=14\/op=7\/op=8\/op=32\/op=33 then (if a.ar=b.ar then .ok (some (v7 op a b)) else .error (42,pos))
   else if op=9 then (if 1<=a.ar+b.ar-2/\a.ar+b.ar-2<=3 then .ok (some (zD a b)) else .error (42,pos))
   else if op=10 then (if a.ar+b.ar<=3 then .ok (some (v5 a b)) else .error (42,pos))
   else .ok none
  |_ => .ok none
def wZ(i:Int)(k:Kd):Bool:=k.ts.all fun t=>decide (t.getD 0 0=i)
mutual
def exam(c:Ck)(s:Scp)(inn:Bool):Nd->Res
 | .mk op i n ks pos =>
  if (inn&&zN c op i)=true then .error (46,pos)
  else if op=1 then y0 c s i pos
  else if op=47 then
   if (c.ts.sT.any fun p=>decide (p.name=i))=true then
    match q9 c i with
    |none => .error (45,pos)
    |some p=>match c.ts.sT[p]? with
     |none => .error (45,pos)
     |some g=>if g.params.length=ks.length then z6 c s pos g.params ks else .error (45,pos)
   else .error (40,pos)
  else if op=15\/op=45\/op=46 then zQ c s (inn||decide (op=15)) i pos ks
  else match qS c s (inn||decide (op=12)||decide (op=13)) ks with
   | .error e => .error e
   | .ok l=>zO c.ts.sS.length op n pos l
def qS(c:Ck)(s:Scp)(inn:Bool):List Nd->Except Dg (List (Option Kd))
 | [] => .ok []
 |k :: ks=>match exam c s inn k with
  | .error e => .error e
  | .ok a=>match qS c s inn ks with
   | .error e => .error e
   | .ok l => .ok (a :: l)
def z6(c:Ck)(s:Scp)(pos:Int):List (cL×Int)->List Nd->Res
 |_,[] => .ok none
 | [],_ => .ok none
 |p :: g,k :: ks=>match exam c s true k with
  | .error e => .error e
  | .ok none => .error (42,pos)
  | .ok (some a)=>if a.ar=1 then (if wZ p.2 a=true then z6 c s pos g ks else .error (43,pos)) else .error (42,pos)
def zQ(c:Ck)(s:Scp)(inn:Bool)(nm:cL)(pos:Int):List Nd->Res
 | [] => .ok none
 |k :: ks=>match exam c s inn k with
  | .error e => .error e
  | .ok none => .error (42,pos)
  | .ok (some a)=>if a.ar=1 then (match qS c ((nm,a) :: s) inn ks with
    | .error e => .error e
    | .ok _ => .ok (some a)) else .error (42,pos)
end
def yP(env:List (cL×Int)):Scp:=env.foldl (fun s p=>(p.1,kOf [p.2]) :: s) []
def dgOf:Res->Dg
 | .ok _=>(0,0)
 | .error e=>e
def vg(c:Ck)(env:List (cL×Int))(n:Nd):Dg:=if 30<=n.op then dgOf (exam c (yP env) false n) else (43,n.pos)
def ye(ts:TS)(env:List (cL×Int))(n:Nd):Dg:=vg (mkCk ts ts.sT.length) env n
end P1
end Go.Proofs.YthkdjhkmlmjkbaaGreatDoor
namespace Go.Ev
open Go
section
variable {κ α:Type} [DecidableEq κ]
def getK(k:κ):List (κ×α)->Option α
 | []=>none
 |e :: T=>if k=e.1 then some e.2 else getK k T
def setK(k:κ)(v:α):List (κ×α)->List (κ×α)
 | []=>[(k,v)]
 |e :: T=>if k=e.1 then (k,v) :: T else e :: setK k v T
theorem kH{k v}:∀{es:List (κ×α)}{x},x∈(setK k v es).map Prod.fst↔x=k\/x∈es.map Prod.fst
 | [],x=>by simp[setK]
 |e :: es,x=>by
  unfold setK;split
  .rename_i g;subst g;simp
  .simp only[jH,ql,kH]
   constructor
   .rintro (h|h|h)
    .exact .inr (.inl h)
    .exact .inl h
    .exact .inr (.inr h)
   .rintro (h|h|h)
    .exact .inr (.inl h)
    .exact .inl h
    .exact .inr (.inr h)
theorem Wb{k v}:∀{es:List (κ×α)},(es.map Prod.fst).Nodup->((setK k v es).map Prod.fst).Nodup
 | [],_=>by simp[setK]
 |e :: es,h=>by
  unfold setK;split
  .rename_i g;subst g;simpa using h
  .rename_i g
   rw[jH,jz]at h⊢;exact⟨fun i=>(kH.1 i).elim (fun e=>g e.symm) h.1,Wb h.2⟩
theorem uI{k x v}:∀{es:List (κ×α)},getK x (setK k v es)=if x=k then some v else getK x es
 | []=>by simp[setK,getK]
 |e :: es=>by
  unfold setK;split
  .grind [getK]
  .rename_i i
   by_cases g:x=e.1
   .have:x≠k:=fun h=>i (by rw[<-h,g])
    rw[if_neg this];simp[getK,g]
   .simp only[getK,if_neg g,uI]
theorem Yd{k v}:∀{es:List (κ×α)},(es.map Prod.fst).Nodup->(getK k es=some v↔(k,v)∈es)
 | [],_=>by simp[getK]
 |e :: es,h=>by
  rw[jH,jz]at h;unfold getK;by_cases g:k=e.1
  .rw [if_pos g]
   subst g;refine⟨fun h=>?_,fun j=>?_⟩
   .cases h;exact qN
   .rcases ql.1 j with i|i
    .rw [<-i]
    grind
  .rw [if_neg g,Yd h.2,ql]
   exact⟨.inr,fun h=>h.elim (fun e=>absurd (congrArg Prod.fst e) g) id⟩
def delK(k:κ):List (κ×α)->List (κ×α)
 | []=>[]
 |e :: T=>if k=e.1 then T else e :: delK k T
theorem kI{k}:∀{es},(es.map Prod.fst).Nodup->∀{x:κ×α},x∈delK k es↔x∈es/\x.1≠k
 | [],_,x=>by simp[delK]
 |e :: es,h,x=>by
  rw[jH,jz]at h;unfold delK;by_cases g:k=e.1
  .rw [if_pos g]
   refine⟨fun j=>⟨qB _ j,fun l=>?_⟩,fun j=>?_⟩
   .grind
   grind
  .rw [if_neg g,ql,ql,kI h.2]
   refine⟨fun i=>?_,fun i=>?_⟩
   .rcases i with rfl|i
    .exact ⟨.inl rfl,fun e=>g e.symm⟩
    grind
   grind
theorem Wc{k}:∀{es:List (κ×α)},(delK k es).Sublist es
 | []=>by simp[delK]
 |e :: es=>by
  unfold delK;split
  .exact List.sublist_cons_self _ _
  .exact Wc.cons_cons _
theorem qe6{k}{es:List (κ×α)}(h:(es.map Prod.fst).Nodup):((delK k es).map Prod.fst).Nodup:=h.sublist (Wc.map _)
theorem we{k x}:∀{es:List (κ×α)},(es.map Prod.fst).Nodup->getK x (delK k es)=if x=k then none else getK x es
 | [],_=>by simp[delK,getK]
 |e :: es,h=>by
  rw[jH,jz]at h;unfold delK;by_cases i:k=e.1
  .rw [if_pos i]
   by_cases g:x=k
   .rw [if_pos g]
    cases j:getK x es with
    |none=>rfl
    |some v=>exact absurd (qp.2 ⟨_,(Yd h.2).1 j,by rw[g,i]⟩) h.1
   simp_all[if_neg,getK]
  .rw [if_neg i]
   by_cases g:x=e.1
   .have:x≠k:=fun l=>i (by rw[<-l,g])
    rw[if_neg this];simp[getK,g]
   simp_all[getK,if_neg,we]
variable {P:qb} {kt:qd} {kenc:κ->AV} {ok:κ->Prop} {venc:α->AV}
end
section
variable (n:Nat) (J:List Nat->St->Prop) (seen:List Nat) (Q:qJ->St->Prop) (st:St)
end
theorem aC{P pl body Q st}(N)(I:Nat->St->Prop)(g:I 0 st)(h:∀ k st,k<=N->I k st->awp P pl body (upQ (fun k=>Keep (I k) .mk) N k Q) st):qn P pl body Q st:=
 qn.up N (fun k=>Keep (I k) .mk) g h
theorem aP{p st}(h:p st):Keep p .mk st:=h
end Go.Ev
namespace Go.Proofs.YthkdjhkmlmjkbaaGreatDoor
open Go Go.Ev Go.Proofs Tryz
namespace YM
open Y2 P1
def okT(t:Tp):Prop:=t.length=3
abbrev eT(l:List Tp):List (AV×AV):=l.map fun t=>(aT t,aB true)
end YM
namespace Y5
end Y5
namespace Y6
open Y2 Y3 P1 YM
section
variable {a b:List Tp}{m:Nat}
structure okK (k:Kd):Prop where
 ar:1<=k.ar/\k.ar<=3
 len:∀ t,t∈k.ts->okT t
 nd:k.ts.Nodup
theorem kJ{l}(h:l.Nodup):((eT l).map Prod.fst).Nodup:=by
 have e:(eT l).map Prod.fst=l.map aT:=by simp[eT]
 rw[e];refine(List.pairwise_map (f:=aT)).2 (h.imp fun g e=>g ?_);have inj:∀(a b:List Int),i8s a=i8s b->a=b:=by
  intro a;induction a with
  |nil=>intro b h;cases b with
   |nil=>rfl
   |cons=>simp at h
  |cons x a i=>intro b h;cases b with
   |nil=>simp at h
   |cons y b =>
    simp only[i8s,jH,List.cons.injEq,AV.sc.injEq,Value.int.injEq,true_and]at h;rw[h.1,i b h.2]
 exact inj _ _ (AV.agg.inj e)
theorem Rd.setT{mu}{l k:List Tp}(i:mu[m]?=some (.mp (eT l)))(j:l.Nodup)(o:k.Nodup)(h:∀ t,t∈l↔t∈k):Rd mu (.mp m) (mKd k):=
 fZ i (kJ j) (kJ o) (fun x=>by
  simp only[eT,qp];constructor
  .rintro ⟨t,g,rfl⟩;exact⟨t,(h t).1 g,rfl⟩
  .rintro ⟨t,g,rfl⟩;exact⟨t,(h t).2 g,rfl⟩) (fun x p=>by
  obtain⟨t,_,rfl⟩:=qp.1 p;exact⟨hf_aT t,HF.sc _⟩)
def Wd(n m:Nat)(x y:Tp):Option Tp:=if x.getD (n-1) 0=y.getD 0 0 then some (conc x n y m 1) else none
theorem Zd{n t}:t∈vZ n m a b↔∃ x y,(x∈a/\y∈b)/\Wd n m x y=some t:=by
 unfold vZ Wd;rw[vE];simp only[qG,false_or,List.mem_filterMap];constructor
 .rintro ⟨⟨x,y⟩,g,i⟩;exact⟨x,y,Za.1 g,i⟩
 .rintro ⟨x,y,g,i⟩;exact⟨(x,y),Za.2 g,i⟩
theorem qe7{n}:(vZ n m a b).Nodup:=Yc zSp
def wh(n m:Nat)(x y:Tp):Option Tp:=some (conc x n y m 0)
theorem J3{n t}:t∈uF n m a b↔∃ x y,(x∈a/\y∈b)/\wh n m x y=some t:=by
 unfold uF wh;rw[vE];simp only[qG,false_or,qp];constructor
 .rintro ⟨⟨x,y⟩,g,i⟩;exact⟨x,y,Za.1 g,by rw[<-i]⟩
 .rintro ⟨x,y,g,i⟩;exact⟨(x,y),Za.2 g,Option.some.inj i⟩
theorem qe8{n}:(uF n m a b).Nodup:=Yc zSp
end
end Y6
namespace Y7
end Y7
namespace Y8
open Y2
structure ok2 (k:Kd):Prop where
 ar:k.ar=2
 nd:k.ts.Nodup
 ts:∀ t,t∈k.ts->∃ x y:Int,t=[x,y,0]/\0<=x/\x<4/\0<=y/\y<4
end Y8
end Go.Proofs.YthkdjhkmlmjkbaaGreatDoor
namespace Go.Ev
open Go Go.RowKit
end Go.Ev
namespace Go.Proofs
open Go.Shelf
def Tryz.laysNm221_ren:Go.Shelf.Ren:=⟨fun|21=>89|27=>124|28=>125|35=>152|39=>170|n=>n,fun|22=>28|3=>3|4=>4|0=>0|n=>n,fun|n=>n⟩
theorem Tryz.laysNm221:Go.Proofs.Lays2.n21 qc Tryz.laysNm221_ren:={
 mixed:=zKr
 f21:=func89.trans (congrArg some zKr)
 f27:=func124.trans (congrArg some zKr)
 f28:=func125.trans (congrArg some zKr)
 f35:=func152.trans (congrArg some zKr)
 f39:=func170.trans (congrArg some zKr)
 t0:=Tryz.underlying0
 a0:=Tryz.isAgg0
 z0:=Tryz.sizeOf0
 v0:=Tryz.zeroValue0
 t3:=Tryz.underlying3
 a3:=Tryz.isAgg3
 z3:=Tryz.sizeOf3
 v3:=Tryz.zeroValue3
 t4:=Tryz.underlying4
 a4:=Tryz.isAgg4
 z4:=Tryz.sizeOf4
 v4:=Tryz.zeroValue4
 t22:=Tryz.underlying28
 a22:=Tryz.isAgg28
 z22:=Tryz.sizeOf28
 v22:=Tryz.zeroValue28
 i3:=by kernel_rfl }
def Tryz.laysNm215_ren:Go.Shelf.Ren:=⟨fun|15=>71|n=>n,fun|22=>28|3=>3|4=>4|n=>n,fun|n=>n⟩
theorem Tryz.laysNm215:Go.Proofs.Lays2.n15 qc Tryz.laysNm215_ren:={
 mixed:=zKr
 f15:=func71.trans (congrArg some zKr)
 t3:=Tryz.underlying3
 a3:=Tryz.isAgg3
 z3:=Tryz.sizeOf3
 v3:=Tryz.zeroValue3
 t4:=Tryz.underlying4
 a4:=Tryz.isAgg4
 z4:=Tryz.sizeOf4
 v4:=Tryz.zeroValue4
 t22:=Tryz.underlying28
 a22:=Tryz.isAgg28
 z22:=Tryz.sizeOf28
 v22:=Tryz.zeroValue28
 i3:=by kernel_rfl }
open Go.RowKit Go.Lib in
theorem Tryz.slices_Clone_int_nil(n c w) :
  Calls qc 71 #[.slice none n c] w fun e w'=>e = .returned (.slice none 0 0)/\w'=w:=Any.slices_Clone_int_nil Tryz.laysNm215 n c w
def Tryz.laysNm225_ren:Go.Shelf.Ren:=⟨fun|25=>55|31=>93|32=>94|37=>126|n=>n,fun|22=>28|3=>3|4=>4|40=>157|0=>0|n=>n,fun|n=>n⟩
theorem Tryz.laysNm225:Go.Proofs.Lays2.n25 qc Tryz.laysNm225_ren:={
 mixed:=zKr
 f25:=func55.trans (congrArg some zKr)
 f31:=func93.trans (congrArg some zKr)
 f32:=func94.trans (congrArg some zKr)
 f37:=func126.trans (congrArg some zKr)
 t0:=Tryz.underlying0
 a0:=Tryz.isAgg0
 z0:=Tryz.sizeOf0
 v0:=Tryz.zeroValue0
 t3:=Tryz.underlying3
 a3:=Tryz.isAgg3
 z3:=Tryz.sizeOf3
 v3:=Tryz.zeroValue3
 t4:=Tryz.underlying4
 a4:=Tryz.isAgg4
 z4:=Tryz.sizeOf4
 v4:=Tryz.zeroValue4
 t22:=Tryz.underlying28
 a22:=Tryz.isAgg28
 z22:=Tryz.sizeOf28
 v22:=Tryz.zeroValue28
 t40:=Tryz.underlying157
 a40:=Tryz.isAgg157
 z40:=Tryz.sizeOf157
 v40:=Tryz.zeroValue157 }
open Go.RowKit Go.Lib in
theorem Tryz.slices_BinarySearch_int(b off n c)(zs:List Int)(x w)(i:n<=zs.length)(g:n<4611686018427387904)(l:∀ j,j<zs.length->w.cell? ⟨b,off+j,none⟩=some (.int .i64 (zs.getD j 0)))(o:(zs.take n).Pairwise (·<=·)) :
  Calls qc 55 #[.slice (some ⟨b,off,none⟩) n c,.int .i64 x] w fun e w'=>e = .returned (.tuple #[.int .i64 ((zs.take n).countP (·<x):Nat),.bool ((zs.take n).contains x)])/\∃ q,w'=w.drewN q:=Any.slices_BinarySearch_int Tryz.laysNm225 b off n c zs x w i g l o
def Tryz.laysNm223_ren:Go.Shelf.Ren:=⟨fun|23=>92|n=>n,fun|22=>28|3=>3|4=>4|0=>0|n=>n,fun|n=>n⟩
theorem Tryz.laysNm223:Go.Proofs.Lays2.n23 qc Tryz.laysNm223_ren:={
 mixed:=zKr
 f23:=func92.trans (congrArg some zKr)
 t0:=Tryz.underlying0
 a0:=Tryz.isAgg0
 z0:=Tryz.sizeOf0
 v0:=Tryz.zeroValue0
 t3:=Tryz.underlying3
 a3:=Tryz.isAgg3
 z3:=Tryz.sizeOf3
 v3:=Tryz.zeroValue3
 t4:=Tryz.underlying4
 a4:=Tryz.isAgg4
 z4:=Tryz.sizeOf4
 v4:=Tryz.zeroValue4
 t22:=Tryz.underlying28
 a22:=Tryz.isAgg28
 z22:=Tryz.sizeOf28
 v22:=Tryz.zeroValue28
 i3:=by kernel_rfl }
open Go.RowKit Go.Lib Go.Sort in
theorem Tryz.slices_Delete_int(g off cap i j:Nat)(zs:List Int)(w:qf)(p:Holds (Value.int .i64) w g off zs.toArray)(l:zs.length<=cap)(r:cap<=9223372036854775807)(o:i<=j)(t:j<=zs.length) :
  Calls qc 92 #[.slice (some ⟨g,off,none⟩) zs.length cap,.int .i64 i,.int .i64 j] w fun e w'=>e = .returned (.slice (some ⟨g,off,none⟩) (zs.length-(j-i)) cap)/\∃ q,w'=putRow (Value.int .i64) (Sort.ahead w q) g off (zs.take i++zs.drop j++zo (j-i) 0).toArray:=Any.slices_Delete_int Tryz.laysNm223 g off cap i j zs w p l r o t
open Go.RowKit Go.Lib in
theorem Tryz.slices_BinarySearch_int_empty(a c x w) :
  Calls qc 55 #[.slice a 0 c,.int .i64 x] w fun e w'=>e = .returned (.tuple #[.int .i64 0,.bool false])/\w'=w:=Any.slices_BinarySearch_int_empty Tryz.laysNm225 a c x w
end Go.Proofs
namespace Go.Proofs.YthkdjhkmlmjkbaaGreatDoor
open Go Go.Ev Go.Proofs Tryz
namespace YS
theorem w6(xs:List Int):(xs.map rI).flatten=xs.map aI:=by
 induction xs with
 |nil=>rfl
 |cons x xs g=>simp[g]
def jf(n:Int):cL:=⟨(Lib.itoa n).toArray⟩
end YS
namespace YF
open Y1 P1
abbrev cPm(p:cL×Int):List AV:=[aS p.1,aI p.2]
abbrev lPm(l:List (cL×Int)):AV := .lst false (l.map cPm)
abbrev cPd(p:Pd):List AV:=aS p.name :: lPm p.params :: cNd p.body
abbrev lPd(l:List Pd):AV := .lst false (l.map cPd)
abbrev cFa(f:cL×Nd):List AV:=aS f.1 :: cNd f.2
abbrev lSo(l:List (cL×Bool)):AV := .lst false (l.map wU)
abbrev lFl(l:List Fld):AV := .lst false (l.map wb)
abbrev lFa(l:List (cL×Nd)):AV := .lst false (l.map cFa)
abbrev cTS(s:TS):List AV:=[lSo s.sS,lFl s.sA,lPd s.sT,lFa s.sP]
abbrev eTS(s:TS):AV := .agg (cTS s)
theorem qe9(p):∀ c,c∈cPm p->HF c:=by
 intro c g;simp at g;rcases g with rfl|rfl<;>exact HF.sc _
theorem Ye(l):HF (lPm l):=HF.lst fun r g c i=>by
 obtain⟨p,_,rfl⟩:=qp.1 g;exact qe9 p c i
theorem qfA(p):∀ c,c∈cPd p->HF c:=by
 intro c g;simp only[cPd,ql]at g;rcases g with rfl|rfl|g
 .exact HF.sc _
 .exact Ye _
 grind [wX]
theorem kK(l):HF (lPd l):=HF.lst fun r g c i=>by
 obtain⟨p,_,rfl⟩:=qp.1 g;exact qfA p c i
theorem qfB(p):∀ c,c∈cFa p->HF c:=by
 intro c g;simp only[cFa,ql]at g;rcases g with rfl|g
 .exact HF.sc _
 grind [wX]
theorem kL(l):HF (lFa l):=HF.lst fun r g c i=>by
 obtain⟨p,_,rfl⟩:=qp.1 g;exact qfB p c i
theorem qfC(p):∀ c,c∈wU p->HF c:=by
 intro c g;simp at g;rcases g with rfl|rfl<;>exact HF.sc _
theorem kM(l):HF (lSo l):=HF.lst fun r g c i=>by
 obtain⟨p,_,rfl⟩:=qp.1 g;exact qfC p c i
theorem kN(l):HF (lFl l):=HF.lst fun r g c i=>by
 obtain⟨p,_,rfl⟩:=qp.1 g;exact qeW p c i
theorem We(s):∀ c,c∈cTS s->HF c:=by
 intro c g;simp only[cTS,ql,qG,or_false]at g;rcases g with rfl|rfl|rfl|rfl
 .exact kM _
 .exact kN _
 .exact kK _
 .exact kL _
theorem zt(s):HF (eTS s):=HF.agg (We s)
theorem J4(p):(cPd p).length=7/\(cPd p).all AV.one=true:=⟨by simp[cPd,Yb],by simp only[cPd,List.all_cons,J0];rfl⟩
theorem kO(p):(cFa p).length=6/\(cFa p).all AV.one=true:=⟨by simp[cFa,Yb],by simp only[cFa,List.all_cons,J0];rfl⟩
end YF
namespace JB
open Y1
def Wf:je:=fun F args I=>match args with
 | [.fn (.func g) [] i]=>match F g i (I++[.dead]) with
  |some (r,m)=>some (.agg [aI 0,aI 0],m.set I.length (.arr [aI 0,aI 0]))
  |none=>none
 |_=>none
theorem qfD:jp qc 194 Wf:=by
 intro F P args I v m h;unfold Wf at h;split at h
 .rename_i g j
  split at h
  .rename_i r m' R
   cases h;have T:=P _ _ _ _ _ R;refine aK call194 func194 rfl (yh zKr) zKr (pl:={}) ?_;simp[go_sem];refine cU (g:=207) (first:=[]) (caps:=[.ptr I.length 0]) zSi call207 ?_;simp[go_sem];refine fU (qU.hid (i:=I.length) (c := .arr [aI 0,aI 0]) zSp zSp (zUs T)) ?_ ?_
   .rintro r1 m1 ⟨l,⟨t,C⟩,J,rfl⟩
    subst C;have o:I.length<l.length:=(qi.1 J).1;have p:(l.set I.length (.arr [aI 0,aI 0]))[I.length]?=some (.arr [aI 0,aI 0]):=yq o;simp[go_sem,p,o];refine jq.mono (qe3 _ I.length (aI 0) (aI 0) p) ?_;rintro _ rfl;simp[go_sem,p,o]
   .rintro r1 m1 ⟨l,⟨t,C⟩,J,rfl⟩
    cases t
  .cases h
 .cases h
def calL:List {f:j1 // yk qc f}:=[⟨4,call4⟩,⟨5,call5⟩,⟨6,call6⟩,⟨7,call7⟩,⟨35,call35⟩,⟨21,call21⟩,⟨13,call13⟩,⟨15,call15⟩,⟨16,call16⟩,⟨17,call17⟩,⟨14,call14⟩,⟨18,call18⟩,⟨19,call19⟩,⟨20,call20⟩,⟨22,call22⟩,⟨23,call23⟩,⟨24,call24⟩,⟨25,call25⟩,⟨26,call26⟩,⟨12,call12⟩,⟨27,call27⟩,⟨28,call28⟩,⟨42,call42⟩,⟨70,call70⟩,⟨74,call74⟩,⟨44,call44⟩,⟨49,call49⟩,⟨50,call50⟩,⟨51,call51⟩,⟨52,call52⟩,⟨45,call45⟩,⟨56,call56⟩,⟨57,call57⟩,⟨58,call58⟩,⟨59,call59⟩,⟨31,call31⟩,⟨60,call60⟩,⟨53,call53⟩,⟨54,call54⟩,⟨55,call55⟩,⟨61,call61⟩,⟨62,call62⟩,⟨63,call63⟩,⟨64,call64⟩,⟨65,call65⟩,⟨66,call66⟩,⟨67,call67⟩,⟨68,call68⟩,⟨69,call69⟩,⟨46,call46⟩,⟨47,call47⟩,⟨48,call48⟩,⟨83,call83⟩,⟨99,call99⟩,⟨100,call100⟩,⟨101,call101⟩,⟨103,call103⟩,⟨86,call86⟩,⟨95,call95⟩,⟨96,call96⟩,⟨34,call34⟩,⟨37,call37⟩,⟨97,call97⟩,⟨71,call71⟩,⟨87,call87⟩,⟨72,call72⟩,⟨88,call88⟩,⟨89,call89⟩,⟨90,call90⟩,⟨91,call91⟩,⟨92,call92⟩,⟨93,call93⟩,⟨94,call94⟩,⟨98,call98⟩,⟨117,call117⟩,⟨118,call118⟩,⟨119,call119⟩,⟨128,call128⟩,⟨122,call122⟩,⟨129,call129⟩,⟨130,call130⟩,⟨131,call131⟩,⟨43,call43⟩,⟨132,call132⟩,⟨133,call133⟩,⟨123,call123⟩,⟨73,call73⟩,⟨36,call36⟩,⟨77,call77⟩,⟨78,call78⟩,⟨38,call38⟩,⟨127,call127⟩,⟨102,call102⟩,⟨125,call125⟩,⟨126,call126⟩,⟨150,call150⟩,⟨84,call84⟩,⟨151,call151⟩,⟨154,call154⟩,⟨155,call155⟩,⟨156,call156⟩,⟨157,call157⟩,⟨85,call85⟩,⟨158,call158⟩,⟨159,call159⟩,⟨75,call75⟩,⟨76,call76⟩,⟨106,call106⟩,⟨107,call107⟩,⟨79,call79⟩,⟨153,call153⟩,⟨152,call152⟩,⟨171,call171⟩,⟨172,call172⟩,⟨173,call173⟩,⟨174,call174⟩,⟨175,call175⟩,⟨120,call120⟩,⟨121,call121⟩,⟨176,call176⟩,⟨177,call177⟩,⟨178,call178⟩,⟨179,call179⟩,⟨180,call180⟩,⟨181,call181⟩,⟨104,call104⟩,⟨105,call105⟩,⟨108,call108⟩,⟨109,call109⟩,⟨110,call110⟩,⟨111,call111⟩,⟨170,call170⟩,⟨183,call183⟩,⟨184,call184⟩,⟨185,call185⟩,⟨186,call186⟩,⟨187,call187⟩,⟨188,call188⟩,⟨189,call189⟩,⟨190,call190⟩,⟨191,call191⟩,⟨192,call192⟩,⟨193,call193⟩,⟨194,call194⟩,⟨195,call195⟩,⟨196,call196⟩,⟨197,call197⟩,⟨198,call198⟩,⟨199,call199⟩,⟨200,call200⟩,⟨201,call201⟩,⟨134,call134⟩,⟨135,call135⟩,⟨136,call136⟩,⟨137,call137⟩,⟨138,call138⟩,⟨139,call139⟩,⟨140,call140⟩,⟨141,call141⟩,⟨142,call142⟩,⟨143,call143⟩,⟨144,call144⟩,⟨202,call202⟩,⟨203,call203⟩,⟨204,call204⟩,⟨205,call205⟩,⟨206,call206⟩,⟨207,call207⟩,⟨208,call208⟩,⟨209,call209⟩,⟨210,call210⟩,⟨211,call211⟩,⟨212,call212⟩,⟨213,call213⟩,⟨214,call214⟩,⟨215,call215⟩,⟨216,call216⟩,⟨217,call217⟩,⟨218,call218⟩,⟨219,call219⟩,⟨220,call220⟩,⟨221,call221⟩,⟨222,call222⟩,⟨223,call223⟩,⟨224,call224⟩,⟨160,call160⟩,⟨147,call147⟩,⟨161,call161⟩,⟨162,call162⟩,⟨163,call163⟩,⟨164,call164⟩,⟨165,call165⟩,⟨166,call166⟩,⟨167,call167⟩,⟨225,call225⟩,⟨226,call226⟩,⟨227,call227⟩,⟨228,call228⟩,⟨229,call229⟩,⟨230,call230⟩,⟨231,call231⟩,⟨232,call232⟩,⟨233,call233⟩,⟨234,call234⟩,⟨235,call235⟩,⟨236,call236⟩,⟨237,call237⟩,⟨238,call238⟩,⟨239,call239⟩,⟨240,call240⟩,⟨241,call241⟩,⟨242,call242⟩,⟨243,call243⟩,⟨244,call244⟩,⟨245,call245⟩,⟨246,call246⟩,⟨247,call247⟩,⟨248,call248⟩,⟨249,call249⟩,⟨250,call250⟩,⟨182,call182⟩,⟨251,call251⟩,⟨252,call252⟩,⟨253,call253⟩,⟨254,call254⟩,⟨255,call255⟩,⟨256,call256⟩,⟨257,call257⟩,⟨258,call258⟩,⟨260,call260⟩,⟨261,call261⟩,⟨262,call262⟩,⟨263,call263⟩,⟨264,call264⟩,⟨265,call265⟩,⟨266,call266⟩,⟨267,call267⟩,⟨268,call268⟩,⟨269,call269⟩,⟨270,call270⟩,⟨271,call271⟩,⟨272,call272⟩,⟨273,call273⟩,⟨274,call274⟩,⟨275,call275⟩,⟨276,call276⟩,⟨277,call277⟩,⟨278,call278⟩,⟨279,call279⟩,⟨280,call280⟩,⟨281,call281⟩,⟨282,call282⟩,⟨283,call283⟩,⟨284,call284⟩,⟨285,call285⟩,⟨286,call286⟩,⟨287,call287⟩,⟨288,call288⟩,⟨289,call289⟩,⟨290,call290⟩,⟨291,call291⟩,⟨293,call293⟩,⟨294,call294⟩,⟨295,call295⟩,⟨296,call296⟩,⟨297,call297⟩,⟨298,call298⟩,⟨299,call299⟩,⟨301,call301⟩,⟨302,call302⟩,⟨303,call303⟩,⟨304,call304⟩,⟨305,call305⟩,⟨306,call306⟩,⟨307,call307⟩,⟨308,call308⟩,⟨309,call309⟩,⟨310,call310⟩,⟨312,call312⟩,⟨313,call313⟩,⟨315,call315⟩,⟨3,call3⟩,⟨8,call8⟩,⟨10,call10⟩,⟨29,call29⟩,⟨30,call30⟩,⟨32,call32⟩,⟨33,call33⟩,⟨39,call39⟩,⟨41,call41⟩,⟨80,call80⟩,⟨81,call81⟩,⟨82,call82⟩,⟨112,call112⟩,⟨113,call113⟩,⟨114,call114⟩,⟨115,call115⟩,⟨116,call116⟩,⟨145,call145⟩,⟨146,call146⟩,⟨148,call148⟩,⟨149,call149⟩,⟨168,call168⟩,⟨169,call169⟩,⟨9,call9⟩,⟨11,call11⟩,⟨40,call40⟩]
end JB
namespace Y9
open Y1 P1
structure okTS (s:TS):Prop where
 ns:s.sS.length<=4
 nf:s.sA.length<=6
 np:s.sT.length<=8
 nfa:s.sP.length<=16
 sl:∀ x,x∈s.sS->x.1.size<=4611686018427387904
 fl:∀ f,f∈s.sA->1<=f.sS.length/\f.sS.length<=3/\∀ x,x∈f.sS->0<=x/\x<s.sS.length
 pl:∀ p,p∈s.sT->p.params.length<=8/\∀ x,x∈p.params->0<=x.2/\x.2<s.sS.length
structure okCk (c:Ck):Prop where
 ts:okTS c.ts
 calls:c.calls<=c.ts.sT.length
 timed:c.calls<=c.timed.length
theorem Ze{c}(i:okCk c){nm p}(h:q9 c nm=some p):p<c.calls/\p<c.ts.sT.length:=by
 unfold q9 at h;rw[List.findIdx?_eq_some_iff_getElem]at h;obtain⟨g,_⟩:=h;simp at g;omega
theorem kP(c):∀ ks,J2 c ks=ks.any (ym c)
 | []=>rfl
 |k :: ks=>by simp[J2,kP c ks]
noncomputable abbrev szN(n:Nd):Nat:=SizeOf.sizeOf n
theorem yw{n k}(h:k∈n.sD):szN k<szN n:=by
 obtain⟨op,g,i,ks,p⟩:=n;have:SizeOf.sizeOf k<SizeOf.sizeOf ks:=List.sizeOf_lt_of_mem h;simp only[szN,Nd.mk.sizeOf_spec];omega
inductive yf:Nd->Prop where
 |mk (n:Nd) (h:n.sD.length<=1000) (hk:∀ k,k∈n.sD->yf k):yf n
theorem yf.len{n}(h:yf n):n.sD.length<=1000:=by cases h;assumption
theorem yf.kid{n k}(h:yf n)(g:k∈n.sD):yf k:=by
 cases h with
 |mk _ _ h=>exact h k g
theorem Wg(c n):ym c n=(zN c n.op n.name||n.sD.any (ym c)):=by
 obtain⟨op,g,i,ks,p⟩:=n;simp[ym,kP,Nd.op,Nd.name,Nd.sD]
end Y9
namespace E1
section
variable {l:List Int}
def powN(k:Int):Nat:=(min k 3).toNat
def powI(n k:Int):Int:=n ^ powN k
def sorted(l:List Int):Prop:=l.Pairwise (·<·)
instance (l:List Int):Decidable (sorted l):=inferInstanceAs (Decidable (l.Pairwise (·<·)))
theorem Wh(h:sorted l){i j}(g:i<j)(o:j<l.length):l[i]' zOm<l[j]:=List.pairwise_iff_getElem.1 h i j zOm o g
def inOk(a b:Rl):Bool:=a.ts.all (fun t=>decide (t∈b.ts))
theorem kQ(h:sorted l):l.Nodup:=List.Pairwise.imp (fun h e=>zOm) h
theorem qfE{m}(g:sorted l)(i:sorted m)(h:∀ x,x∈l↔x∈m):l=m:=
 List.Perm.eq_of_pairwise (le:=fun a b:Int=>a<b) (fun a b _ _ g i=>zOm) g i ((List.perm_ext_iff_of_nodup (kQ g) (kQ i)).2 h)
def atN(l:List Int)(r:Int):Nat->Nat
 | 0=>0
 |n+1=>if r<=gI l n then atN l r n else n+1
theorem kR(l r):∀ n,atN l r n<=n
 | 0=>qs _
 |n+1=>by
  have:=kR l r n;rw[atN];split<;>omega
def addL(l:List Int)(r:Int):List Int:=if l[atN l r l.length]?=some r then l else l.take (atN l r l.length)++[r]++l.drop (atN l r l.length)
def ofL(ts:List Int):List Int:=ts.foldl addL []
theorem kS(l r):∀ n,(∀ i,atN l r n<=i->i<n->r<=gI l i)/\(0<atN l r n->gI l (atN l r n-1)<r)
 | 0=>⟨fun i _ h=>zOm,fun h=>by simp[atN]at h⟩
 |n+1=>by
  obtain⟨j,g⟩:=kS l r n;rw[atN];by_cases h:r<=gI l n
  .rw [if_pos h]
   refine⟨fun i o p=>?_,g⟩;by_cases e:i=n
   .rw [e];exact h
   grind
  .rw [if_neg h]
   grind
theorem qfF(R:sorted l)(r):sorted (addL l r)/\∀ x,x∈addL l r↔x∈l\/x=r:=by
 obtain⟨U,h2⟩:=kS l r l.length;have hk:=kR l r l.length;unfold addL;generalize atN l r l.length=k at *
 by_cases p:l[k]?=some r
 .rw [if_pos p]
  grind
 .rw [if_neg p]
  have o:∀ i j (g:i<l.length) (T:j<l.length),i<j->l[i]<l[j]:=fun i j g T C=>List.pairwise_iff_getElem.1 R i j g T C
  have t:∀ x,x∈l.take k->x<r:=by
   intro x I;obtain⟨i,g,e⟩:=wC.1 I;rw[List.getElem_take]at e;have a0:i<k:=by simp at g;omega
   have:=h2 zOm;rw[vD zOm]at this;by_cases J:i=k-1
   .subst J;omega
   .have:=o i (k-1) zOm zOm zOm;omega
  have g:∀ x,x∈l.drop k->r<x:=by
   intro x I;obtain⟨i,g,e⟩:=wC.1 I;rw[List.getElem_drop]at e;have P:k+i<l.length:=by simp at g;omega
   have h0:=U k zOm zOm;rw[vD zOm]at h0;have a1:l[k]' zOm≠r:=fun e=>p (by rw[qx zOm,e])
   by_cases J:i=0
   .subst J;simp at e;omega
   .have:=o k (k+i) zOm P zOm;omega
  refine⟨?_,fun x=>?_⟩
  .unfold sorted at *
   rw[List.append_assoc,List.pairwise_append];refine⟨R.sublist (List.take_sublist _ _),?_,fun a ha b hb=>?_⟩
   .grind
   grind
  .have:x∈l↔x∈l.take k\/x∈l.drop k:=by
    rw[<-qI,un]
   rw[this,qI,qI,qL];constructor
   .rintro ((h|h)|h)
    .exact .inl (.inl h)
    .exact .inr h
    .exact .inl (.inr h)
   .rintro ((h|h)|h)
    .exact .inl (.inl h)
    .exact .inr h
    .exact .inl (.inr h)
theorem kT:∀(ts l:List Int),sorted l->sorted (ts.foldl addL l)/\∀ x,x∈ts.foldl addL l↔x∈l\/x∈ts
 | [],l,h=>⟨h,fun x=>zSp⟩
 |t :: ts,l,h=>by
  obtain⟨g,i⟩:=qfF h t;obtain⟨j,o⟩:=kT ts _ g;refine⟨j,fun x=>?_⟩;rw[List.foldl_cons,o,i,ql];constructor
  .rintro ((h|h)|h)
   .exact .inl h
   .exact .inr (.inl h)
   .exact .inr (.inr h)
  .rintro (h|h|h)
   .exact .inl (.inl h)
   .exact .inl (.inr h)
   .exact .inr h
theorem Wi(ts):sorted (ofL ts)/\∀ x,x∈ofL ts↔x∈ts:=by
 obtain⟨g,i⟩:=kT ts [] (by simp_all[sorted])
 grind [ofL]
structure GR (n:Int) (r:Rl):Prop where
 ar1:1<=r.ar
 ar3:r.ar<=3
 val:∀ t,t∈r.ts->0<=t/\t<powI n r.ar
 srt:sorted r.ts
def unR(a b:Rl):Rl:=⟨a.ar,ofL (a.ts++b.ts)⟩
end
end E1
namespace E3
open P1
structure Md where
 sc:Sc
 sK:List (List Rl)
 loop:Int
abbrev cSt(s:List Rl):List AV:=[lRel s]
abbrev lSt(l:List (List Rl)):AV := .lst false (l.map cSt)
abbrev cMd(m:Md):List AV:=[lI m.sc.sC,aI m.sc.sN,lSt m.sK,aI m.loop]
abbrev eMd(m:Md):AV := .agg (cMd m)
abbrev XE(C:Type):=Except Int C
structure Pl where
 st:Nat
 env:List (cL×Int)
structure Mo where
 ts:TS
 m:Md
end E3
namespace E5
open Y1 E3
variable (x:Mo) (p:Pl) (f g d e:Nd) (nm:cL)
end E5
namespace E7
end E7
namespace EL
end EL
namespace EJ
end EJ
namespace EM
end EM
end Go.Proofs.YthkdjhkmlmjkbaaGreatDoor
namespace Go.Ev
open Go Go.RowKit
end Go.Ev
namespace Go.Proofs.YthkdjhkmlmjkbaaGreatDoor
open Go Go.Ev Go.Proofs Tryz
namespace EN
end EN
namespace E4
open E1
theorem has06(r x)(hl:r.ts.length<=1000000000)(hs:sorted r.ts):qh qc 23 [eRel r,aI x] (aB (decide (x∈r.ts))):=by
 refine qSU call23 func23 rfl ?_;refine cH (fun n st=>∃ t g:Nat,n=g-t/\st.tm 1=aI x/\st.tm 2 = .ip [aI r.ar,lI r.ts]/\st.tm 5=aI t/\st.tm 6=aI g/\st.mu=[]/\t<=g/\g<=r.ts.length/\(∀(i:Nat)(h:i<r.ts.length),i<t->r.ts[i]<x)/\(∀(i:Nat)(h:i<r.ts.length),g<=i->x<=r.ts[i])) r.ts.length ?_ ?_
 .exact ⟨0,r.ts.length,zOm,zSi,zSi,zSi,zSi,zSi,zOm,zOm,fun i h h'=>zOm,fun i h h'=>zOm⟩
 rintro n st ⟨t,g,hn,J,C,P,R,T,a3,a4,I,U⟩;by_cases a0:t<g
 .have hw:qw.wrap (qw.wrap ((t:Int)+g) / 2)=(((t+g) / 2:Nat):Int):=by
   rw[jb (n:=(t:Int)+g) zOm zOm,zWr];omega
  have a1:(qw.wrap ((t:Int)+g)).tdiv 2=qw.wrap ((t:Int)+g) / 2:=Int.tdiv_eq_ediv_of_nonneg (by rw[zWr];omega);have j:(t+g) / 2<r.ts.length:=zOm;generalize a5:(t+g) / 2=mid at *
  by_cases hb:r.ts[mid]<x
  .simp [go_sem,J,C,P,R,T,a0,a1,hw,j,hb]
   refine Keep.loop (g-(mid+1)) zOm ⟨mid+1,g,rfl,zS1 J,zS1 C,?_,zS1 R,zSi,zOm,zOm,fun i h h'=>?_,U⟩
   .simp [go_sem]
    exact zWr
   .rcases Nat.lt_or_ge i mid with p|p
    .exact Int.lt_trans (Wh hs p j) hb
    .have:i=mid:=by omega
     subst this;exact hb
  .simp [go_sem,J,C,P,R,T,a0,a1,hw,j,hb]
   refine Keep.loop (mid-t) zOm ⟨t,mid,rfl,zS1 J,zS1 C,zS1 P,zSi,zSi,zOm,zOm,I,fun i h h'=>?_⟩;rcases Nat.lt_or_ge mid i with p|p
   .have:=Wh hs p h;omega
   .have:i=mid:=by omega
    subst this;omega
 .have a2:g=t:=by omega
  subst a2;by_cases l:g<r.ts.length
  .by_cases he:r.ts[g]=x
   .simp [go_sem,J,C,P,R,T,l,he]
    have:x∈r.ts:=he ▸ qv l;simp[this];exact .zsc _
   .simp [go_sem,J,C,P,R,T,l,he]
    have:¬x∈r.ts:=fun h=>by
     obtain⟨i,o,rfl⟩:=um h;rcases Nat.lt_or_ge i g with p|p
     .have:=I i o p;omega
     .rcases Nat.lt_or_ge g i with h4|h4
      .have:=Wh hs h4 o
       have:=U g l zOm;omega
      .have:i=g:=by omega
       subst this;exact he rfl
    simp[this];exact .zsc _
  .simp [go_sem,C,P,R,T,l]
   have:¬x∈r.ts:=fun h=>by
    obtain⟨i,o,rfl⟩:=um h;have:=I i o zOm;omega
   simp[this];exact .zsc _
theorem qfG(a b)(hl:a.ts.length<=1000000000)(a0:b.ts.length<=1000000000)(hs:sorted b.ts):qh qc 123 [eRel a,eRel b] (eRel ⟨a.ar,a.ts.filter (fun t=>decide (¬t∈b.ts))⟩):=by
 refine qSU call123 func123 rfl ?_;refine cH (fun m st=>∃ k P g,m=a.ts.length-k/\k<=a.ts.length/\st.tm 2 = .ip [aI a.ar,lI a.ts]/\st.tm 3 = .ip [aI b.ar,lI b.ts]/\st.tm 4 = .ptr 0 0/\st.tm 5 = .ptr 1 0/\st.tm 6=aI (k:Nat) /\
  st.mu=[.arr [aI 0,.lst true []],.arr [aI a.ar,P]]++g/\OwnF 2 ([.dead,.dead]++g) 1 P (((a.ts.take k).filter (fun t=>decide (¬t∈b.ts))).map rI)) a.ts.length ?_ ?_
 .exact ⟨0,.lst true [],[],zOm,zOm,zSi,zSi,zSi,zSi,zSi,zSi,by simpa using OwnF.nil zSp⟩
 rintro m st ⟨k,P,g,rfl,hk,C,e3,e4,R,I,hm,l⟩;have l:=l.low (low:=[.dead,.dead]) (low':=[.arr [aI 0,.lst true []],.arr [aI a.ar,P]]) rfl;by_cases j:k<a.ts.length
 .simp [go_sem,C,I,j]
  refine cN zKr ?_;simp[go_sem,C,e3,I,j];refine cY (has06 b a.ts[k] a0 hs) (.zk (Q0 b) (.zs .nil)) ?_;have T:a.ts.take (k+1)=a.ts.take k++[a.ts[k]]:=by rw[List.take_add_one,qx j];rfl
  by_cases U:a.ts[k]∈b.ts
  .simp [go_sem,I,U]
   refine Keep.loop (a.ts.length-(k+1)) zOm ⟨k+1,P,g,rfl,zOm,zS1 C,zS1 e3,zS1 e4,zS1 R,?_,zS1 hm,?_⟩
   .simp [go_sem];exact zWr
   .rw [T,List.filter_append];simpa[go_sem,U] using l.low (low':=[.dead,.dead]) rfl
  .simp [go_sem,U]
   refine cN zKr ?_;simp[go_sem,C,R,I,j,hm];refine fL (low:=[.arr [aI 0,.lst true []],.arr [aI a.ar,P]]) (e:=3) (bt:=8) (z:=0) (xs:=(a.ts.take k).filter (fun t=>decide (¬t∈b.ts))) (ys:=[a.ts[k]]) zSi zSi zSi zOm l (by simp[qF]) ?_ ?_
   .have:=List.length_filter_le (fun t=>decide (¬t∈b.ts)) (a.ts.take k)
    have:=List.length_take_le k a.ts;have h3:[a.ts[k]].length=1:=rfl;omega
   intro a1 o p;simp[go_sem,R,I,p.cells,p.one];refine Keep.loop (a.ts.length-(k+1)) zOm ⟨k+1,a1,o,rfl,zOm,zS1 C,zS1 e3,zS1 e4,zS1 R,?_,zSi,?_⟩
   .simp [go_sem];exact zWr
   .rw [T,List.filter_append]
    simpa[go_sem,U] using p.low (low':=[.dead,.dead]) rfl
 .have a2:k=a.ts.length:=by omega
  subst a2;simp[go_sem,C,e4,R,I,hm,l.one];rw[za]at l;simp at l;exact Rd.rel (r:=⟨a.ar,a.ts.filter (fun t=>!decide (t∈b.ts))⟩) (l.low (low:=[.arr [aI 0,.lst true []],.arr [aI a.ar,P]]) (low':=[.arr [aI a.ar,P],.arr [aI a.ar,P]]) rfl).rdI
theorem in06(a b)(i:a.ts.length<=1000000000)(g:b.ts.length<=1000000000)(j:sorted b.ts):qh qc 86 [eRel a,eRel b] (aB (inOk a b)):=by
 refine qSU call86 func86 rfl ?_;refine fY (qfG a b i g j) (.zk (Q0 a) (.zk (Q0 b) .nil)) ?_;have e:inOk a b=decide (∀ t,t∈a.ts->t∈b.ts):=by
  rw[jZ];simp[inOk]
 rw[e];exact .zsc _
theorem J5(a b)(ha:a.length<=9223372036854775807):qh qc 45 [lI a,lI b] (aB (decide (a=b))):=by
 refine qSV call45 func45 rfl ?_;by_cases p:a.length=b.length
 case neg =>
  simp[go_sem,p];rw[decide_eq_false (by rintro rfl;exact p rfl)];exact .zsc _
 simp[go_sem,p];refine qn.up a.length (fun k st=>st.tm 0=lI a/\st.tm 1=lI b/\st.tm 12=aI a.length/\st.tm 13=aI k/\st.mu=[]/\∀(i:Nat)(h:i<a.length)(r:i<b.length),i<k->a[i]=b[i]) ?_ ?_
 .simp [go_sem,p]
 rintro k st hk ⟨J,P,j,l,R,T⟩;by_cases o:k<a.length
 .have g:k<b.length:=by omega
  simp[go_sem,j,l,R,o]
  try refine cN zKr ?_
  by_cases t:a[k]=b[k]
  .simp [go_sem,J,P,j,l,o,g,t]
   refine⟨zWr,fun i h r U=>?_⟩;rcases V7.1 U with C|C
   .exact T i h r C
   .subst C;exact t
  .simp [go_sem,J,P,o,g,t]
   rw[decide_eq_false (by rintro rfl;simp at t)];exact .zsc _
 .have I:k=a.length:=by omega
  subst I;simp[go_sem,j,l,R];rw[decide_eq_true (List.ext_getElem p fun i h r=>T i h r h)];exact .zsc _
theorem qfH(a b)(j:a.ts.length<=9223372036854775807):qh qc 96 [eRel a,eRel b] (aB (decide (a=b))):=by
 have g:(a=b)=(a.ar=b.ar/\a.ts=b.ts):=by cases a;cases b;simp
 refine qSV call96 func96 rfl ?_;by_cases i:a.ar=b.ar
 case neg =>
  simp[go_sem,i,g];exact .zsc _
 simp[go_sem,i];refine cY (J5 a.ts b.ts j) (.zk (qR _) (.zk (qR _) .nil)) ?_;simp[go_sem,i,g];exact .zsc _
theorem WK.ints{full}(l):WK (.lst full (l.map rI)) (lI l):=WK.lst fun r i c g=>by
 obtain⟨n,_,rfl⟩:=qp.1 i;simp at g;subst g;exact HF.sc _
end E4
namespace EO
open YS
section
variable {C:Type}{s:AV}{K:AV->Mu->Prop}{l:List Int}{mu:Mu}
def qr:AV->Option Nat
 | .sl b _ _ _=>some b
 |_=>none
def OwnI(mu:Mu)(s:AV)(l:List Int):Prop:=(s = .lst true []/\l=[])\/∃ b,s = .sl b 1 0 l.length/\mu[b]?=some (.arr (l.map aI))
def OwnV(mu:Mu)(s:AV)(l:List Int):Prop:=(s = .lst true []/\l=[])\/∃ b cells,s = .sl b 1 0 l.length/\mu[b]?=some (.arr cells)/\l.length<=cells.length/\cells.take l.length=l.map aI
theorem OwnI.v(h:OwnI mu s l):OwnV mu s l:=by
 rcases h with h|⟨b,g,i⟩
 .exact .inl h
 .exact .inr ⟨b,_,g,i,zSp,by rw[zn zSp]⟩
theorem OwnV.one(h:OwnV mu s l):s.one=true:=by
 rcases h with ⟨rfl,_⟩|⟨b,c,rfl,_⟩<;>rfl
theorem OwnV.cells(h:OwnV mu s l):s.cells=[s]:=by
 rcases h with ⟨rfl,_⟩|⟨b,c,rfl,_⟩<;>rfl
theorem OwnV.same{g}(h:OwnV mu s l)(i:∀ b,qr s=some b->g[b]?=mu[b]?):OwnV g s l:=by
 rcases h with h|⟨b,c,rfl,j,o,p⟩
 .exact .inl h
 .exact .inr ⟨b,c,rfl,by rw[i b rfl];exact j,o,p⟩
theorem OwnI.same{g}(h:OwnI mu s l)(i:∀ b,qr s=some b->g[b]?=mu[b]?):OwnI g s l:=by
 rcases h with h|⟨b,rfl,j⟩
 .exact .inl h
 .exact .inr ⟨b,rfl,by rw[i b rfl];exact j⟩
theorem OwnV.lt(h:OwnV mu s l){b}(g:qr s=some b):b<mu.length:=by
 rcases h with ⟨rfl,_⟩|⟨j,c,rfl,i,_⟩
 .cases g
 .cases g;exact(qi.1 i).1
theorem OwnV.rd(h:OwnV mu s l):Rd mu s (lI l):=by
 rcases h with ⟨rfl,rfl⟩|⟨b,cells,rfl,p,t,o⟩
 .exact .wk _ true _ (.hf _ (HF.lst fun r C=>by simp at C))
 .refine .sl b 1 0 _ cells _ p (zUs t) zSp (fun x g=>by
   obtain⟨l,_,rfl⟩:=qp.1 g;rfl) (fun k x y g j=>?_)
  rw[yI]at g;rw[w6,<-o,yG]at j;split at j
  .rw [g]at j;cases j
   have:x∈cells.take l.length:=by
    refine zh (i:=k) ?_;rw[yG,if_pos (by assumption)];exact g
   rw[o]at this;obtain⟨z,_,rfl⟩:=qp.1 this;exact .zsc _
  grind
theorem aN{P}{t j e bt:Nat}{x ys z}(J:qA P t=some (e,1,bt))(o:(qA P j).isSome=true)(R:qz P e=some (aI z))
  (T:bt<=16384) (U:OwnV mu s l) (hx:qF mu x=some (ys.map rI)) (I:l.length+ys.length<=4294967296)
  (k:∀ av g,OwnI g av (l++ys)->(∀ i,i<mu.length->qr s≠some i->g[i]?=mu[i]?)->mu.length<=g.length->(∀ b,qr av=some b->b=mu.length)->K av g):qD P mu #[t,j] s x K:=by
 refine .inl ⟨t,j,e,1,bt,ys.map rI,rfl,J,o,⟨_,R,rfl,rfl⟩,zOm,T,hx,zJ ys,?_⟩;rcases U with ⟨rfl,rfl⟩|⟨b,cells,rfl,hc,h1,h2⟩
 .refine .inl ⟨[],rfl,fun r hr=>by simp at hr,zUs I,fun h=>?_,fun h=>?_⟩
  .have:ys=[]:=by simpa using h
   subst this;exact k _ _ (.inl ⟨rfl,rfl⟩) (fun _ _ _=>rfl) (qs _) (fun _ h=>by cases h)
  .refine k _ _ (.inr ⟨mu.length,zSp,by simp[w6]⟩) (fun i p _=>?_) zSp (fun b h=>by cases h;rfl)
   rw[ze p]
 .refine .inr ⟨b,l.length,cells,rfl,hc,zUs h1,zUs I,?_⟩
  have e1:cells.take (l.length*1)++(ys.map rI).flatten=(l++ys).map aI:=by rw[Nat.mul_one,h2,zF,w6]
  have e2:l.length+(ys.map rI).length=(l++ys).length:=zSp;rw[e1,e2];refine k _ _ (.inr ⟨mu.length,rfl,?_⟩) (fun i p C=>?_) zSp (fun b h=>by cases h;rfl)
  .simp
  .rw [ze (zUs p),jV (fun h=>C (by rw[h];rfl))]
theorem aM{P}{t o e bt:Nat}{x z}(p:qA P t=some (e,1,bt))(j:(qA P o).isSome=true)(C:qz P e=some (aI z))
  (I:bt<=16384) (J:OwnV mu s l) (R:l.length+1<=4294967296)
  (k:∀ av g,OwnI g av (l++[x])->(∀ i,i<mu.length->qr s≠some i->g[i]?=mu[i]?)->mu.length<=g.length->(∀ b,qr av=some b->b=mu.length)->K av g):qD P mu #[t,o] s (.lst true [[aI x]]) K:=
 aN (ys:=[x]) p j C I J rfl R k
theorem sumG(l)(P:l.length<=1000000)(C:∀ k,0<=sumI (l.take k)/\sumI (l.take k)<=1000000):qh qc 151 [lI l] (aI (sumI l)):=by
 refine qSU call151 func151 rfl ?_;refine qn.up l.length (fun k st=>st.tm 6=lI l/\st.tm 7=aI l.length/\st.tm 3=aI (sumI (l.take k))/\st.tm 8=aI k/\st.mu=[]) ?_ ?_
 .simp [go_sem,sumI]
 rintro k st R ⟨I,o,p,r,t⟩;by_cases g:k<l.length
 .have J:=uE l k g
  have i:=C (k+1);rw[J]at i;simp[go_sem,I,o,p,r,t,g]
  grind [jb]
 .have j:k=l.length:=by omega
  subst j;simp[go_sem,o,p,r,t];exact .zsc _
theorem qfI(sc)(g:GSc sc):qh qc 122 [eSc sc] (aI (sumI sc.sC)):=by
 refine qSU call122 func122 rfl ?_;refine fY (sumG _ (Nat.le_trans g.1 zOm) fun k=>zW1 (g.sum k)) (.zk (qR _) .nil) ?_;exact .zsc _
theorem qfJ(sc)(g:GSc sc)(s)(i:s<=sc.sC.length):qh qc 121 [eSc sc,aI s] (aI (sumI (sc.sC.take s))):=by
 refine qSV call121 func121 rfl ?_;have j:WKs [.lst false ((sc.sC.map rI).take s)] [lI (sc.sC.take s)] := .cons (by rw[<-List.map_take];exact .hf (qR _)) .nil;simp[go_sem,i];refine⟨⟨_,_,⟨rfl,rfl⟩,(zJ sc.sC).ok⟩,?_⟩;refine fY (sumG (sc.sC.take s) (by simp;have:=g.1;omega) fun k=>by rw[List.take_take];have:=g.sum (min k s);omega) j ?_;exact .zsc _
def vF(p:C->Bool):List C->Int->Int
 | [],_ => -1
 |x :: l,i=>if p x=true then i else vF p l (i+1)
theorem qfK(p)(l:List C)(k i h):vF p (l.drop k) i=if p l[k]=true then i else vF p (l.drop (k+1)) (i+1):=by
 rw[zB h,vF]
theorem kU(p):∀(l:List C)(i),0<=i->decide (0<=vF p l i)=l.any p
 | [],i,h=>by simp[vF]
 |x :: l,i,h=>by
  rw[vF,List.any_cons];cases g:p x with
  |true=>simp[h]
  |false=>simpa using kU p l (i+1) zOm
theorem qfL(xs y)(J:xs.length<=1000000000):qh qc 102 [lI xs,aI y] (aI (vF (fun x=>decide (x=y)) xs 0)):=by
 refine qSU call102 func102 rfl ?_;refine qn.up xs.length (fun k st=>st.tm 0=lI xs/\st.tm 1=aI y/\st.tm 7=aI xs.length/\st.tm 8=aI k/\st.mu=[]/\vF (fun x=>decide (x=y)) (xs.drop k) k=vF (fun x=>decide (x=y)) xs 0) ?_ ?_
 .simp [go_sem]
 rintro k st P ⟨C,I,l,o,p,i⟩;by_cases g:k<xs.length
 .rw [qfK _ _ _ _ g]at i
  by_cases j:xs[k]=y
  .rw [if_pos (zUs j)]at i
   subst j;simp[go_sem,C,I,l,o,p,g];rw[<-i];exact .zsc _
  .rw [if_neg (zUs j)]at i
   have r:¬y=xs[k]:=fun h=>j h.symm
   simp[go_sem,C,I,l,o,p,g,r]
   grind [jb]
 .have t:k=xs.length:=by omega
  subst t;rw[List.drop_length]at i;simp[go_sem,l,o,p];rw[<-i];exact .zsc _
theorem kV(xs y)(g:xs.length<=1000000000):qh qc 72 [lI xs,aI y] (aB (decide (y∈xs))):=by
 refine qSU call72 func72 rfl ?_;refine cY (qfL xs y g) (.zk (qR _) (.zs .nil)) ?_;have e:decide (y∈xs)=decide (0<=vF (fun x=>decide (x=y)) xs 0):=by
  rw[kU _ _ _ zOm,jZ,List.any_eq_true];simp
 rw[e];simp[go_sem];exact .zsc _
abbrev lB(xs:List Bool):AV := .lst false (xs.map fun b=>[aB b])
end
end EO
namespace F1
open E3
theorem Zf(l):HF (lSt l):=HF.lst fun r i c g=>by
 obtain⟨n,_,rfl⟩:=qp.1 i;simp at g;subst g;exact wd _
theorem qfM(m):∀ c,c∈cMd m->HF c:=by
 intro c g;simp at g;rcases g with rfl|rfl|rfl|rfl
 .exact qR _
 .exact HF.sc _
 .exact Zf _
 .exact HF.sc _
theorem w7(m):HF (eMd m):=HF.agg (qfM m)
abbrev errV(e:Int):AV := .ifc 51 (aI e)
def endE:XE Rl->AEnd
 | .ok r => .ret (eRel r)
 | .error e => .pan (errV e)
def endN:XE Int->AEnd
 | .ok r => .ret (aI r)
 | .error e => .pan (errV e)
def endB:XE Bool->AEnd
 | .ok r => .ret (aB r)
 | .error e => .pan (errV e)
def end2:XE (Rl×Rl)->AEnd
 | .ok r => .ret (.tup [eRel r.1,eRel r.2])
 | .error e => .pan (errV e)
@[go_sem] theorem endE_ok(r):endE (.ok r) = .ret (eRel r):=rfl
@[go_sem] theorem endE_err(e):endE (.error e) = .pan (errV e):=rfl
@[go_sem] theorem endN_ok(r):endN (.ok r) = .ret (aI r):=rfl
@[go_sem] theorem endN_err(e):endN (.error e) = .pan (errV e):=rfl
@[go_sem] theorem endB_ok(r):endB (.ok r) = .ret (aB r):=rfl
@[go_sem] theorem endB_err(e):endB (.error e) = .pan (errV e):=rfl
@[go_sem] theorem end2_ok(r):end2 (.ok r) = .ret (.tup [eRel r.1,eRel r.2]):=rfl
@[go_sem] theorem end2_err(e):end2 (.error e) = .pan (errV e):=rfl
theorem qfN(mu b e)(g:mu[b]?=some (.arr [aI e])):jq qc 199 [.ptr b 0] mu none fun l=>l=mu:=by
 refine jq.of_awp call199 func199 rfl ⟨_,_,_,_,rfl⟩ (yh zKr) zKr zKr (pl:={}) ?_;simp[go_sem]
end F1
namespace EP
theorem Zg{C:Type}{l:List C}{n}(h):l.take (n+1)=l.take n++[l[n]]:=by rw[List.take_add_one,qx h];rfl
end EP
namespace EQ
open EO
theorem aD{mu j av l}(h:OwnV mu av l):Rd mu (.agg [aI j,av]) (eRel ⟨j,l⟩):=by
 refine .agg _ _ rfl fun k u v g i=>?_
 match k with
 | 0=>simp at g i;subst g;subst i;exact .zsc _
 | 1=>simp at g i;subst g;subst i;exact h.rd
 |k+2=>simp at g
end EQ
namespace ER
theorem Wj{x}(h:HF x):HF (.ip [x]):=HF.ip fun c g=>by simp at g;subst g;exact h
end ER
namespace E2
open E1
theorem qfO{n k}(g:0<=k)(i:k<=3):powI n k=n ^ k.toNat:=by
 grind [powI,powN]
theorem qfP(n):powI n 1=n:=by rw[qfO zOm zOm];exact Int.pow_succ n 0 ▸ by simp
theorem GR.one{n a}(g:0<=a)(i:a<n):GR n ⟨1,[a]⟩:=
 ⟨by grind,by grind,fun t j=>by grind [qL,powI,qfP],List.pairwise_singleton _ _⟩
end E2
namespace ET
open EO
def RelM(mu:Mu)(g:Int)(l:List Int):Prop:=∃ P,mu[0]?=some (.arr [aI 0,.lst true []])/\mu[1]?=some (.arr [aI g,P])/\OwnI mu P l/\qr P≠some 0/\qr P≠some 1
theorem RelM.step{mu j:Mu}{o av g l}(J:mu[0]?=some (.arr [aI 0,.lst true []]))(p:mu[1]?=some (.arr [aI o,av]))(P:qr av≠some 0)(R:qr av≠some 1)(r:OwnI j g l)
  (T:∀ i,i<mu.length->qr av≠some i->j[i]?=mu[i]?) (U:mu.length<=j.length) (hb:∀ b,qr g=some b->b=mu.length):j[1]?=some (.arr [aI o,av])/\RelM (j.set 1 (.arr [aI o,g])) o l:=by
 have l1:1<mu.length:=(qi.1 p).1;have t:qr g≠some 0:=fun e=>by grind
 have C:qr g≠some 1:=fun e=>by grind
 refine⟨by grind,g,by grind,by grind,r.same fun b I=>?_,t,C⟩
 grind
end ET
namespace EW
open EO EP EQ ER ET
inductive TagM (p:Mu->Prop):Type where
 |mk:TagM p
def uJ(p:Mu->Prop)(_:TagM p)(mu:Mu):Prop:=p mu
theorem cV{p mu}(h:p mu):uJ p .mk mu:=h
theorem cJ{P pl l caps ps g body Q st rows}(j:jo P l caps rows)(I:Nat->Mu->Prop)(i:qJ->Mu->Prop)
  (o:I 0 (st.mu++[.dead])) (p:∀ k mu,I k mu->I k (mu++[.dead])) (r:∀ e mu,i e mu->i e (mu++[.dead]))
  (t:∀ k x mu,rows[k]?=some x->I k mu->x.length=ps.size/\awp P pl g (asQ (fun st=>awp P pl body (rndQ (fun k=>uJ (I k) .mk) (fun e=>uJ (i e) .mk) k) st)) ⟨vB st.tm ps.toList x,mu⟩)
  (C:∀ mu,I rows.length mu->Q .normal ⟨st.tm,mu⟩) (J:∀ e mu,i e mu->Q e ⟨st.tm,mu⟩):vU P pl (.fn (.func l) [] caps) ps g body Q st:=
 cB j I i o p r t C J
abbrev tupCl(sc:Sc)(p:Int)(l:List Int):AV := .fn (.func 120) [] [.ip [lI l],.ip [aI p],.ip [lI sc.sC,aI sc.sN]]
theorem kW(sc p l):qh qc 85 [eSc sc,aI p,lI l] (tupCl sc p l):=by
 refine qSU call85 func85 rfl ?_;refine .hf _ (HF.fn (fun c g=>by simp at g) (fun c g=>?_));simp at g;rcases g with rfl|rfl|rfl
 .exact Wj (qR _)
 .exact Wj (HF.sc _)
 .exact HF.ip fun c g=>by simp at g;rcases g with rfl|rfl<;>first|exact qR _|exact HF.sc _
def tupR(sc:Sc):List Int->Int->List Int
 | [],p=>[p]
 |s :: l,p=>(qq (gI sc.sC s.toNat).toNat).flatMap fun k:Nat=>tupR sc l (p*sumI sc.sC+(sumI (sc.sC.take s.toNat)+k))
@[go_sem] theorem yl_cells(i):(AV.yl i).cells=[.yl i]:=rfl
@[go_sem] theorem yl_one(i):(AV.yl i).one=true:=rfl
theorem qfQ(sc:Sc)(p):jo qc 120 [.ip [lI []],.ip [aI p],.ip [lI sc.sC,aI sc.sN]] [[aI p]]:=by
 refine jo.of call120 fun i I o r t g j l=>?_
 refine qSW call120 func120 rfl {} ?_;simp[go_sem];refine qe.yield (g 0 [aI p] j rfl l) ?_;simp_all[go_sem]
theorem qfR{i r}(h:i<r):∃ l,qq r=qq i++i :: l:=by
 refine⟨(qq r).drop (i+1),?_⟩;apply zZ;intro j;by_cases g:j<i
 .rw [ze (zUs g),Je g,Je zOm]
 .rw [zK zSo,List.length_range]
  by_cases e:j=i
  .subst e;simp[h]
  .obtain ⟨d,o⟩:∃ d,j-i=d+1:=⟨j-i-1,zOm⟩
   rw[o,List.getElem?_cons_succ,jX];congr 1;omega
theorem qfS{C:Type}(f){N k j}{x:C}(g:k<N)(h:(f k)[j]?=some x):((qq N).flatMap f)[((qq k).flatMap f).length+j]?=some x:=by
 obtain⟨l,e⟩:=qfR g;rw[e,List.flatMap_append,zK zOm,Nat.add_sub_cancel_left,List.flatMap_cons,ze (qi.1 h).1];exact h
theorem Yf{C:Type}(f:Nat->List C)(k):(qq (k+1)).flatMap f=(qq k).flatMap f++f k:=by
 rw[List.range_succ,List.flatMap_append];simp
theorem qfT(sc)(g:GSc sc)(hA:∀ a,a∈sc.sC->0<=a)(s)(C:s<sc.sC.length)(l)(hl:l.length<=10)(p)(hp:0<=p/\p<=1000000)
  (ih:∀ k,k<(gI sc.sC s).toNat->jo qc 120 [.ip [lI l],.ip [aI (p*sumI sc.sC+(sumI (sc.sC.take s)+k))],.ip [lI sc.sC,aI sc.sN]] ((tupR sc l (p*sumI sc.sC+(sumI (sc.sC.take s)+k))).map fun t=>[aI t])) :
  jo qc 120 [.ip [lI (s :: l)],.ip [aI p],.ip [lI sc.sC,aI sc.sN]] ((tupR sc (s :: l) p).map fun t=>[aI t]):=by
 refine jo.of call120 fun i I Ix hS hX hY mu h0=>?_
 refine qSW call120 func120 rfl {} ?_;have hz:¬(l.length:Int)+1=0:=zOm;have a0:=qfJ sc g s zOm;have a1:WKs [eSc sc,aI s] [eSc sc,aI s] := .zk (zM sc) (.zs .nil);obtain⟨s0,s1⟩:=g.sum s;obtain⟨t0,t1⟩:=g.sum sc.sC.length;rw[za]at t0 t1;have a2:gI sc.sC s=sc.sC[s]:=vD C;have af:=hA _ (qv C);obtain⟨u0,u1⟩:=g.sum (s+1);rw[uE _ _ C]at u1;have a3:=qfI sc g;have a4:WKs [eSc sc] [eSc sc] := .zk (zM sc) .nil;have o:tupR sc (s :: l) p=(qq (sc.sC[s]).toNat).flatMap fun k:Nat=>tupR sc l (p*sumI sc.sC+(sumI (sc.sC.take s)+k)):=by
  simp_all[tupR]
 rw[a2]at ih;obtain⟨m0,m1⟩:0<=p*sumI sc.sC/\p*sumI sc.sC<=1000000*20:=⟨Int.mul_nonneg hp.1 t0,Int.mul_le_mul hp.2 t1 t0 zOm⟩;have w2:qw.wrap (p*sumI sc.sC)=p*sumI sc.sC:=zWr;have w3:qw.wrap (sumI (sc.sC.take s)+sc.sC[s])=sumI (sc.sC.take s)+sc.sC[s]:=zWr;generalize hF:(fun k:Nat=>tupR sc l (p*sumI sc.sC+(sumI (sc.sC.take s)+k)))=F at *
 have a5:∀ k:Nat,tupR sc l (p*sumI sc.sC+(sumI (sc.sC.take s)+k))=F k:=fun k=>by rw[<-hF]
 simp only[a5]at ih;simp[go_sem,hz];refine fR ?_;refine cY a0 a1 ?_;generalize hn:sumI sc.sC=n at *
 generalize hf:sumI (sc.sC.take s)=f at *
 simp[go_sem];refine cH (fun m st=>∃ k,m=(sc.sC[s]).toNat-k/\k<=(sc.sC[s]).toNat/\st.tm 1 = .ip [lI (s :: l)]/\st.tm 2 = .ip [aI p]/\st.tm 3 = .ip [lI sc.sC,aI sc.sN]/\st.tm 4 = .ip [.yl i]/\st.tm 5=aI f/\st.tm 6=aI (f+(k:Nat))/\I ((qq k).flatMap F).length st.mu) (sc.sC[s]).toNat ?_ ?_
 .exact ⟨0,zOm,zOm,zSi,zSi,zSi,zSi,zSi,zSi,zVs h0⟩
 rintro m st ⟨k,rfl,hk,R,e2,T,e4,e5,U,hI⟩;simp[go_sem];refine cN zKr ?_;by_cases J:k<(sc.sC[s]).toNat
 .have hb:f+(k:Int)<f+sc.sC[s]:=by omega
  have w4:qw.wrap (p*n+(f+k))=p*n+(f+k):=zWr;have w5:qw.wrap (f+(k:Int)+1)=f+((k+1:Nat):Int):=by rw[zWr];omega
  have P:WKs [eSc sc,aI (p*n+(f+k)),.lst false (l.map rI)] [eSc sc,aI (p*n+(f+k)),lI l] := .zk (zM sc) (.zs (.zk (qR l) .nil));have a6:=kW sc (p*n+(f+k)) l;simp[go_sem,R,T,e5,U,C,w3,hb];refine cN zKr ?_;simp[go_sem,e2,T];refine cY a3 a4 ?_;have a7:(1:Int)<=l.length+1:=zOm;have a8:List.take l.length (l.map rI)=l.map rI:=zn zSp;simp[go_sem,R,U,w2,w4,a7,a8];refine⟨⟨_,_,⟨rfl,rfl⟩,(zJ (s :: l)).ok⟩,?_⟩;refine fY a6 P ?_;refine cJ (ih k J) (fun j M=>I (((qq k).flatMap F).length+j) M) (fun e M=>e = .ret/\Ix M) ?_ ?_ ?_ ?_ ?_ ?_
  .simpa [go_sem] using hS _ _ hI
  .intro j M h;exact hS _ _ h
  .rintro e M ⟨h1,h2⟩;exact⟨h1,hX _ h2⟩
  .rintro j x M hj a9
   rw[zj,yA]at hj;obtain⟨t,ht,rfl⟩:=hj;have r:(((qq (sc.sC[s]).toNat).flatMap F).map fun t=>[aI t])[((qq k).flatMap F).length+j]?=some [aI t]:=by
    rw[zj,qfS F J ht];rfl
   rw[<-o]at r;refine⟨rfl,?_⟩;simp[go_sem,e4];refine qe.yield (hY _ _ _ r a9) ?_;rintro b ag (⟨rfl,aa⟩|⟨rfl,ab⟩)
   .simp [go_sem]
    exact cV aa
   .simp [go_sem]
    exact cV ⟨rfl,ab⟩
  .rintro M ad
   simp[go_sem,U,w5];refine Keep.loop ((sc.sC[s]).toNat-(k+1)) zOm ⟨k+1,rfl,zOm,zS1 R,zS1 e2,zS1 T,zS1 e4,zS1 e5,zSi,?_⟩;rw[Yf,qW];simpa[go_sem] using ad
  .rintro e M ⟨rfl,h2⟩
   simp[go_sem];exact .inr h2
 .have ae:k=(sc.sC[s]).toNat:=by omega
  have hb:¬f+(k:Int)<f+sc.sC[s]:=zOm;simp[go_sem,R,T,e5,U,C,w3,hb];rw[o,<-ae];exact .inl hI
def bdT:Nat->Int
 | 0=>1000000000
 | 1=>1000000
 | 2=>40000
 |_=>1000
theorem kX(d)(i:d<3){p q n}(j:0<=p)(l:p<=bdT (d+1))(g:0<=n)(o:n<=20)(r:0<=q)(t:q<=20):0<=p*n+q/\p*n+q<=bdT d/\p<=1000000:=by
 have a:0<=p*n:=Int.mul_nonneg j g;have b:p*n<=bdT (d+1)*20:=Int.mul_le_mul l o g zOm
 match d,i with
 | 0,_=>grind [bdT]
 | 1,_=>grind [bdT]
 | 2,_=>grind [bdT]
def OkS(sc:Sc)(l:List Int):Prop:=∀ s,s∈l->0<=s/\s<sc.sC.length
theorem kY(sc)(g:GSc sc)(C:∀ a,a∈sc.sC->0<=a):∀ l,OkS sc l->l.length<=3->∀ p,0<=p->p<=bdT l.length->jo qc 120 [.ip [lI l],.ip [aI p],.ip [lI sc.sC,aI sc.sN]] ((tupR sc l p).map fun t=>[aI t])
 | [],_,_,p,_,_=>qfQ sc p
 |s :: l,i,I,p,j,o=>by
  obtain⟨n,rfl⟩:∃ n:Nat,s=n:=⟨s.toNat,zW1 ((i s zSp).1)⟩;have r:n<sc.sC.length:=zW1 ((i n zSp).2);simp only[zC]at I o;obtain⟨t0,t1⟩:=g.sum sc.sC.length;rw[za]at t0 t1;refine qfT sc g C n r l zOm p ⟨j,(kX l.length zOm j o t0 t1 (q:=0) zOm zOm).2.2⟩ fun k J=>?_
  obtain⟨u0,P⟩:=g.sum (n+1);rw[uE _ _ r]at P;rw[vD r]at J;obtain⟨s0,s1⟩:=g.sum n;obtain⟨R,T,_⟩:=kX l.length zOm j o t0 t1 (q:=sumI (sc.sC.take n)+k) zOm zOm;exact kY sc g C l (fun x U=>i x (zP1 U)) zOm _ R T
theorem kZ(sc)(g:GSc sc)(o:∀ a,a∈sc.sC->0<=a):∀ l,OkS sc l->∀ p,(tupR sc l p).length<=20 ^ l.length
 | [],_,p=>by simp[tupR]
 |s :: l,i,p=>by
  obtain⟨n,rfl⟩:∃ n:Nat,s=n:=⟨s.toNat,zW1 ((i s zSp).1)⟩;have j:n<sc.sC.length:=zW1 ((i n zSp).2);obtain⟨J,r⟩:=g.sum (n+1);obtain⟨P,s1⟩:=g.sum n;rw[uE _ _ j]at r;have t:=kZ sc g o l (fun x C=>i x (zP1 C));rw[tupR,show (n:Int).toNat=n by omega,vD j];have key:∀ m:Nat,((qq m).flatMap fun k:Nat=>tupR sc l (p*sumI sc.sC+(sumI (sc.sC.take n)+k))).length<=m*20 ^ l.length:=by
   intro m;induction m with
   |zero=>simp
   |succ m I =>
    rw[Yf,qW,Nat.succ_mul];have:=t (p*sumI sc.sC+(sumI (sc.sC.take n)+m));omega
  refine Nat.le_trans (key _) ?_;rw[zC,Nat.pow_succ,Nat.mul_comm];exact Nat.mul_le_mul_left _ zOm
theorem k5(n a b):qh qc 84 [aI n,aI a,aI b] (aB (decide (a<=n)&&decide (n<=b))):=by
 refine qSV call84 func84 rfl ?_;by_cases g:a<=n
 .simp [go_sem,g]
  exact .zsc _
 .simp [go_sem,g]
  exact .zsc _
theorem wk3I(a b c):WKs [aI a,aI b,aI c] [aI a,aI b,aI c] := .zs (.zs (.zs .nil))
theorem k6(sc)(g:GSc sc)(hA:∀ a,a∈sc.sC->0<=a)(l)(U:OkS sc l)(h1:1<=l.length)(h3:l.length<=3):qh qc 43 [eSc sc,lI l] (eRel ⟨l.length,tupR sc l 0⟩):=by
 refine qSV call43 func43 rfl ?_;have b1:(1:Int)<=l.length:=zOm;have b3:(l.length:Int)<=3:=zOm;have hg:=g.1;have w1:=k5 l.length 1 3;rw[decide_eq_true b1,decide_eq_true b3]at w1;simp[go_sem];refine fY w1 (wk3I _ _ _) ?_;refine aC l.length (fun k st=>st.tm 1=lI l/\st.tm 2 = .ip [lI sc.sC,aI sc.sN]/\st.tm 4 = .ptr 0 0/\st.tm 14=lI l/\st.tm 15=aI l.length/\st.tm 16=aI k/\st.mu=[.arr [aI 0,.lst true []]]) ?_ ?_
 .simp [go_sem]
 rintro k st hk ⟨e1,e2,e4,a0,p,r,hm⟩;by_cases C:k<l.length
 .have wk:=zWk k
  have wl:qw.wrap ((sc.sC.length:Int)-1)=(sc.sC.length:Int)-1:=zWr;obtain⟨q0,q1⟩:=U _ (qv C);have w2:=k5 l[k] 0 ((sc.sC.length:Int)-1);rw[decide_eq_true q0,decide_eq_true (by omega:l[k]<=(sc.sC.length:Int)-1)]at w2;simp[go_sem,e2,a0,p,r,hm,C,wl];refine cY w2 (wk3I _ _ _) ?_;simp_all[go_sem,aP]
 .have a1:k=l.length:=by omega
  subst a1;have a6:=kZ sc g hA l U 0;have hp:20 ^ l.length<=8000:=by
   have:l.length=1\/l.length=2\/l.length=3:=zOm
   grind
  have a2:(0:Int)<=bdT l.length:=by
   have:l.length=1\/l.length=2\/l.length=3:=zOm
   grind [bdT]
  simp[go_sem,e1,e2,p,r,hm];refine fY (kW sc 0 l) (.zk (zM sc) (.zs (.zk (qR l) .nil))) ?_;refine cJ (kY sc g hA l U h3 0 zOm a2) (fun j M=>RelM M l.length ((tupR sc l 0).take j)) (fun _ _=>False) ?_ ?_ ?_ ?_ ?_ ?_
  .exact ⟨.lst true [],zSi,zSi,.inl ⟨rfl,rfl⟩,by simp[qr],by simp[qr]⟩
  .rintro j M ⟨P,I,g1,i,J,T⟩
   exact⟨P,by grind,by grind,i.same fun b hb=>by rw[ze (i.v.lt hb)],J,T⟩
  .grind
  .rintro j x M hj ⟨P,I,g1,i,J,T⟩
   rw[zj,yA]at hj;obtain⟨t,ht,rfl⟩:=hj;obtain⟨a7,a8⟩:=qi.1 ht;refine⟨rfl,?_⟩;simp[go_sem,g1];refine aM (e:=3) (bt:=8) (z:=0) zSi zSi zSi zOm i.v zSo ?_;intro a9 aa o a3 a4 a5;obtain⟨k1,k2⟩:=RelM.step I g1 J T o a3 a4 a5;simp[go_sem,k1,o.v.one,o.v.cells]
   grind [cV,Zg]
  .rintro M ⟨P,I,g1,i,J,T⟩
   rw[List.length_map,za]at i;have R:∀ c,(M.set 0 c)[0]?=some c:=fun c=>yq (qi.1 I).1
   simp[go_sem,e4,I,g1,R,i.v.one];refine aD (i.v.same fun b hb=>?_);rw[jV (fun e=>J (by rw[e];exact hb))]
  grind
end EW
namespace JC
theorem backX(f):UO qc 297 [.ip [.lst f []]] []:=by
 refine⟨call297,fun i I p r g j=>?_⟩;refine qSW call297 func297 rfl {} ?_;simp[go_sem];refine cH (fun _ st=>st.tm 3=aI (-1)/\st.mu=g) 0 ?_ ?_
 .simp [go_sem,jb]
 rintro _ st ⟨l,o⟩;simp[go_sem,l,o];exact .inl j
end JC
namespace GG
open ER
@[go_sem ↓] theorem qpS(P pl l Q o k r T st i op ty pos after j g) :
  segO P pl l Q o k r T st (some ⟨i,op,ty,pos,after,some (j,g)⟩)=wR ((l[j]?).bind (·.dst)) st g (fun st=>segO P pl l Q o k r T st (some ⟨i,op,ty,pos,after,none⟩)) (fun st=>awpT P pl l.toArray Q o T (st.put i (.sc j2) st.mu)):=by
 simp only[segO,zH,wR,vt]
 grind [brK,BrS,OptK,Br]
@[go_sem ↓] theorem qpT(P pl l st d op ty pos after j g) :
  JM P pl l st (some ⟨some d,op,ty,pos,after,some (j,g)⟩)=wR ((l[j]?).bind (·.dst)) st g (fun st=>qy P pl true (some d) op st.ev st.mu (wO st d st.mu) noK) (fun _=>True):=by
 simp only[JM,zH,wR,vt];congr 1
def subL:List (List AV)->List (List AV)->List (List (List AV))
 |c,[]=>[c]
 |c,x :: r=>subL c r++subL (c++[x]) r
def wm(l:List (List AV)):Prop:=∀ r,r∈l->r.length=3/\(r.all AV.one=true/\∀ x,x∈r->HF x)
theorem clipU(c)(i:wm c)(l:c.length<=1000000):qh qc 188 [.lst false c] (.lst true c):=by
 refine qSU call188 func188 rfl ?_;refine⟨⟨_,_,⟨rfl,rfl⟩,fun r g=>(i r g).1⟩,.hf _ (HF.lst fun r g x j=>(i r g).2.2 x j)⟩
abbrev extV(i b:Nat):AV := .fn (.func 187) [] [.ip [.yl i],.ptr b 0]
def ExtR(i b:Nat)(I:Nat->Mu->Prop)(g:Mu->Prop)(k:Nat)(e:AEnd)(m:Mu):Prop:=m[b]?=some (.arr [extV i b])/\((e = .ret (aB true)/\I k (m.set b .dead))\/(e = .ret (aB false)/\g (m.set b .dead)))
theorem extU{i b rows I Ix}(hS:∀ k mu,I k mu->I k (mu++[.dead]))(hX:∀ mu,Ix mu->Ix (mu++[.dead]))(hY:Yld qc i rows I Ix) :
  ∀ r c k mu,wm r->wm c->c.length+r.length<=1000->(∀(j) x,(subL c r)[j]?=some x->rows[k+j]?=some [.lst false x])->mu[b]?=some (.arr [extV i b])->I k (mu.set b .dead) ->
   qU qc 187 ([.lst false c,.lst false r]++[.ip [.yl i],.ptr b 0]) mu (ExtR i b I Ix (k+(subL c r).length))
 | [],c,k,mu,hr,hc,hl,J,hb,h0=>by
  refine qSW call187 func187 rfl {} ?_;simp[go_sem];have h1:=J 0 c rfl;refine qe.yield (u6.hid hb zSp (hY k _ _ h1 h0)) ?_;rintro bb m ⟨t,hm,hd,rfl⟩;have T:b<t.length:=(qi.1 hd).1;have a1:(t.set b (Cell.arr [extV i b])).set b .dead=t:=by
   rw[List.set_set];apply zZ
   grind
  simp[go_sem];refine⟨by rw[yq T],?_⟩;rw[a1];rcases hm with ⟨rfl,hI⟩|⟨rfl,hI⟩
  .exact .inl ⟨rfl,hI⟩
  grind
 |x :: r,c,k,mu,hr,hc,hl,J,hb,h0=>by
  have hx:=hr x zSp;obtain⟨g,l,o,rfl⟩:∃ g l o,x=[g,l,o]:=by
   match x,hx.1 with
   | [a,b,c],_=>simp
  refine qSW call187 func187 rfl {} ?_;have a9:¬(r.length:Int)+1=0:=zOm;simp[go_sem,a9];refine fW [0,1,2,3,4,5,6,7,9,10,11,12,14,15,8,13,16,17,18] [(0,0,[]),(1,0,[]),(2,0,[]),(3,0,[]),(4,1,[]),(5,0,[]),(6,0,[]),(7,0,[]),(9,0,[]),(10,0,[]),(11,0,[]),(12,0,[]),(14,0,[]),(15,0,[]),(8,1,[6,11]),(13,1,[6]),(16,1,[]),(17,0,[]),(18,0,[])] zKr zKr zSi ?_;have a2:(1:Int)<=(r.length:Int)+1:=zOm;have a3:∃ e p,(244=e/\3=p)/\yd p ([g,l,o] :: r):=⟨_,_,⟨rfl,rfl⟩,fun y C=>(hr y C).1⟩;simp[go_sem,hb,a2];refine⟨a3,?_⟩;have a4:wm r:=fun y C=>hr y (zP1 C)
  have U:subL c ([g,l,o] :: r)=subL c r++subL (c++[[g,l,o]]) r:=rfl;have aa:=extU hS hX hY r c k mu a4 hc (by simp at hl;omega) (fun j y hj=>J j y (by grind)) hb h0;refine fU (caps:=[.ip [.yl i],.ptr b 0]) aa ?_ (by rintro q m ⟨_,h|h⟩<;>exact absurd h.1 zSp);rintro q t ⟨R,⟨hq,hI⟩|⟨hq,hI⟩⟩
  .cases hq
   have a6:g.one=true/\l.one=true/\o.one=true:=by grind
   have ab:∀ y,y∈c->∀ z,z∈y->HF z:=fun y C=>(hc y C).2.2
   simp[go_sem,R,a2,a6];refine⟨a3,?_⟩;refine cY (clipU c hc (by simp at hl;omega)) (.zk (HF.lst ab) .nil) ?_;simp[go_sem,R];refine .inl ⟨235,235,244,3,24,[[g,l,o]],rfl,zSi,zSi,⟨.agg [aI 0,aI 0,aI 0],zSi,rfl,rfl⟩,zOm,zOm,by simp[qF],fun y C=>by grind,.inl ⟨c,rfl,fun y C=>⟨(hc y C).1,(hc y C).2.1⟩,by grind,fun h=>absurd h zSp,fun _=>?_⟩⟩;have T:b<t.length:=(qi.1 R).1;have al:(c++[[g,l,o]]).flatten=c.flatten++[g,l,o]:=zSp;generalize hM:t++[Cell.arr (c.flatten++[[g,l,o]].flatten)]=m2;have ad:t++[Cell.arr (c.flatten++[g,l,o])]=m2:=by rw[<-hM];simp
   have an:m2[b]?=some (.arr [extV i b]):=by grind
   have ae:m2[t.length]?=some (.arr (c++[[g,l,o]]).flatten):=by grind
   have a7:(t++[Cell.arr (c.flatten++[g,l,o])])[b]?=some (.arr [extV i b]):=by grind
   simp[go_sem,a7];rw[ad];have a8:cutM (fun j=>!(j == t.length)) m2 0=t++[.dead]:=by
    apply zZ
    grind [j6,ze,qx,zK]
   have a0:wm (c++[[g,l,o]]):=fun y C=>by
    rcases qI.1 C with h|h
    .exact hc y h
    .rw [qL]at h;subst h;exact hx
   have af:=extU hS hX hY r (c++[[g,l,o]]) (k+(subL c r).length) (t++[.dead]) a4 a0 (by simp at hl⊢;omega) (fun j y hj=>by
    have:=J ((subL c r).length+j) y (by rw[U,zK zOm];simpa using hj);rw[<-this];congr 1;omega) (by rw[ze T];exact R) (by
    rw[List.set_append_left _ _ T];exact hS _ _ hI)
   have ag:Rd (cutM (fun j=>j == t.length) m2 0) (.sl t.length 3 0 (c.length+1)) (.lst false (c++[[g,l,o]])):=by
    have ah:(cutM (fun j=>j == t.length) m2 0)[t.length]?=some (.arr (c++[[g,l,o]]).flatten):=by rw[kC];exact ae
    have:=Own.rd (mu:=cutM (fun j=>j == t.length) m2 0) (sz:=3) (av := .sl t.length 3 0 (c++[[g,l,o]]).length) (.inr ⟨_,rfl,ah⟩) (fun y C=>(a0 y C).1) (fun y C=>(a0 y C).2.2);simpa using this
   have ai:qU qc 187 ([.sl t.length 3 0 (c.length+1),.lst false r]++[.ip [.yl i],.ptr b 0]) m2 (ExtR i b I Ix (k+(subL c r).length+(subL (c++[[g,l,o]]) r).length)):=
    qU.freeze (args:=[.sl t.length 3 0 (c.length+1),.lst false r,.ip [.yl i],.ptr b 0]) (args1:=[.lst false (c++[[g,l,o]]),.lst false r,.ip [.yl i],.ptr b 0]) (fun j=>j == t.length) ⟨.inr ag,.inl rfl,.inl rfl,.inl rfl,trivial⟩ (by rw[a8];exact af)
   refine fU (caps:=[.ip [.yl i],.ptr b 0]) ai ?_ (by rintro q m ⟨_,h|h⟩<;>exact absurd h.1 zSp);have ak:k+(subL c r).length+(subL (c++[[g,l,o]]) r).length=k+(subL c ([g,l,o] :: r)).length:=by rw[U,qW];omega
   simp[go_sem, *]
  .cases hq
   simp[go_sem];exact⟨R,.inr ⟨rfl,hI⟩⟩
theorem qfU(l)(P:wm l)(R:l.length<=1000):jo qc 186 [.ip [.lst false l]] ((subL [] l).map fun c=>[.lst false c]):=by
 refine jo.of call186 fun i I C T U hY g h0=>?_
 refine fJ ?_;refine qSW call186 func186 rfl {} ?_;simp[go_sem];have hx:=extU (i:=i) (b:=g.length) T U hY l [] 0 (g++[.arr [extV i g.length]]) P (fun r p=>by simp at p) (zUs R) (fun j x hj=>by rw[yI,zj,hj];rfl) zSp (by grind);have hf:qU qc 187 ([.lst true [],.lst false l]++[.ip [.yl i],.ptr g.length 0]) (g++[.arr [extV i g.length]]) (ExtR i g.length I C (0+(subL [] l).length)):=
  qU.freeze (args:=[.lst true [],.lst false l,.ip [.yl i],.ptr g.length 0]) (args1:=[.lst false [],.lst false l,.ip [.yl i],.ptr g.length 0]) (fun _=>false) ⟨.inr (.wk _ true _ (.hf _ (HF.lst fun r p=>by simp at p))),.inl rfl,.inl rfl,.inl rfl,trivial⟩ (by rw[kn];exact hx)
 refine fU (caps:=[.ip [.yl i],.ptr g.length 0]) hf ?_ (by rintro q m ⟨_,h|h⟩<;>exact absurd h.1 zSp);rintro q m ⟨hb,h⟩;have o:cutM (fun j=>!(j == g.length)) m 0=m.set g.length .dead:=by
  apply zZ
  grind [j6,yq,qi,jV]
 simp[go_sem];refine .inr ⟨fun j=>j == g.length,⟨_,.same _⟩,?_⟩;show I _ (cutM (fun j=>!(j == g.length)) m 0)\/C (cutM (fun j=>!(j == g.length)) m 0);rw[o];rw[yI]at h;rcases h with ⟨_,h⟩|⟨_,h⟩
 .exact .inl h
 grind
theorem qfW(l)(i:wm l):qh qc 178 [.lst false l] (.fn (.func 186) [] [.ip [.lst false l]]):=by
 refine qSU call178 func178 rfl ?_;refine .hf _ (HF.fn (fun c g=>by simp at g) (fun c g=>?_));simp at g;subst g;exact Wj (HF.lst fun r j x o=>(i r j).2.2 x o)
end GG
namespace GA
section
variable {a b:List Int}
def outL(a b:List Int):List Int:=a.filter fun x=>!decide (x∈b)
def yE(a b:List Int):List Int:=a.filter fun x=>decide (x∈b)
def xorN(a b:List Int):Int:=a.length+b.length-2*(yE a b).length
theorem k7(p):∀ a:List Int,(a.filter p).length+(a.filter fun x=>!p x).length=a.length
 | []=>rfl
 |x :: a=>by
  have:=k7 p a;simp only[List.filter_cons];cases p x<;>simp<;>omega
theorem qfX(h:a.Nodup)(g:∀ x,x∈a->x∈b):a.length<=b.length:=List.Nodup.length_le_of_subset h g
theorem qfY(g:a.Nodup)(i:b.Nodup):(yE a b).length=(yE b a).length:=by
 have h:∀{a b:List Int},a.Nodup->(yE a b).length<=(yE b a).length:=fun g=>qfX (g.filter _) fun x j=>by
  simp_all[yE,yT,decide_eq_true_eq]
 grind
theorem qf1(g:a.Nodup)(i:b.Nodup):xorN a b=(outL a b).length+(outL b a).length:=by
 grind [k7,decide,qfY,xorN,yE,outL]
theorem qf3(h:a.Pairwise (·<·)):a.Nodup:=h.imp fun h=>by omega
theorem Wk:∀{a b:List Int},a.Pairwise (·<·)->b.Pairwise (·<·)->(∀ x,x∈a↔x∈b)->a=b
 | [],[],_,_,_=>rfl
 | [],y :: b,_,_,h=>absurd ((h y).2 zSp) zSp
 |x :: a,[],_,_,h=>absurd ((h x).1 zSp) zSp
 |x :: a,y :: b,j,l,h=>by
  rw[ji]at j l;have e:x=y:=by
   have o:=(h x).1 zSp;have p:=(h y).2 zSp;rcases ql.1 o with e|o
   .exact e
   .rcases ql.1 p with e|p
    .exact e.symm
    .have:=l.1 x o;have:=j.1 y p;omega
  subst e;congr 1;refine Wk j.2 l.2 fun z=>?_
  have t:=h z;constructor
  .intro g
   rcases ql.1 (t.1 (qB _ g)) with e|r
   .subst e;have:=j.1 z g;omega
   .exact r
  .intro i
   rcases ql.1 (t.2 (qB _ i)) with e|r
   .subst e;have:=l.1 z i;omega
   .exact r
def sumZ{C:Type}(f:C->C->Int):List C->List C->Int
 |x :: J,y :: r=>f x y+sumZ f J r
 |_,_=>0
section
variable {α:Type} {f:α->α->Int} {P:α->Prop}
end
end
end GA
namespace GB
open GA
section
variable {t x:Int}{vs:List Bool}{l:List Int}{f nS s:Nat}
structure Ed where
 kind:Int
 state:Int
 field:Int
 tup:Int
variable {e:Ed}
def insS(t:Int):List Int->List Int
 | []=>[t]
 |x :: l=>if t<x then t :: x :: l else if t=x then x :: l else x :: insS t l
def delS(t:Int)(l:List Int):List Int:=l.filter fun x=>!decide (x=t)
theorem Wl:∀{l},x∈insS t l↔x=t\/x∈l
 | []=>by simp[insS]
 |y :: l=>by
  unfold insS;split
  .simp
  .split
   .rename_i h;subst h;simp
   .rw [ql,Wl,ql]
    constructor
    .rintro (h|h|h)
     .exact .inr (.inl h)
     .exact .inl h
     .exact .inr (.inr h)
    .rintro (h|h|h)
     .exact .inr (.inl h)
     .exact .inl h
     .exact .inr (.inr h)
theorem k8:∀{l},l.Pairwise (·<·)->(insS t l).Pairwise (·<·)
 | [],_=>by simp[insS]
 |x :: l,h=>by
  have i:=ji.1 h;unfold insS;split
  .rename_i j
   refine ji.2 ⟨fun y g=>?_,h⟩;rcases ql.1 g with rfl|g
   .exact j
   grind
  .split
   .exact h
   .refine ji.2 ⟨fun y g=>?_,k8 i.2⟩
    rcases Wl.1 g with rfl|g
    .omega
    grind
theorem qf4:x∈delS t l↔x≠t/\x∈l:=by
 simp_all[delS,yT,Bool.not_eq_true',decide_eq_false_iff_not,And.comm]
theorem qf5(h:l.Pairwise (·<·)):(delS t l).Pairwise (·<·):=h.filter _
def edTs(e:Ed)(l:List Int):List Int:=if e.kind=1 then insS e.tup l else delS e.tup l
theorem qf6(h:l.Pairwise (·<·)):(edTs e l).Pairwise (·<·):=by
 grind [edTs,k8,qf5]
theorem qf7:x∈edTs e l↔if x=e.tup then e.kind=1 else x∈l:=by
 unfold edTs;by_cases h:e.kind=1
 .rw [if_pos h,Wl]
  by_cases g:x=e.tup
  .simp [g,h]
  .simp [g]
 simp_all[if_neg,qf4]
abbrev Sts:=List (List Rl)
variable {S:Sts}
def noR:Rl:=⟨0,[]⟩
def getR(S:Sts)(s f:Nat):Rl:=(S.getD s []).getD f noR
def hits(vs:List Bool)(e:Ed)(s:Nat):Bool:=decide ((s:Int)=e.state)||!(vs.getD e.field.toNat true)
def edR(e:Ed)(r:Rl):Rl:=⟨r.ar,edTs e r.ts⟩
def edSt(vs:List Bool)(e:Ed)(S:Sts):Sts:=S.mapIdx fun s st=>if hits vs e s then st.modify e.field.toNat (edR e) else st
theorem qf8(vs e S):(edSt vs e S).length=S.length:=by simp[edSt]
theorem k9(vs e S s):(edSt vs e S)[s]?=S[s]?.map fun st=>if hits vs e s then st.modify e.field.toNat (edR e) else st:=by
 simp[edSt]
theorem qf9{n}(h:∀ st,st∈S->st.length=n):∀ st,st∈edSt vs e S->st.length=n:=fun st g=>by
 grind [List.mem_iff_getElem?,k9,yA,zh,List.length_modify]
theorem J6{n}(h:∀ st,st∈S->st.length=n)(j:s<S.length)(hf:f<n):getR (edSt vs e S) s f=if f=e.field.toNat/\hits vs e s=true then edR e (getR S s f) else getR S s f:=by
 have o:=h _ (qv j);unfold getR;rw[zf,zf,zf,zf,k9,qx j];simp only[qZ,Option.getD_some];by_cases g:hits vs e s=true
 .rw [if_pos g,List.getElem?_modify,qx zOm]
  by_cases i:e.field.toNat=f
  .simp [i,g]
  .have l:¬f=e.field.toNat:=fun e=>i e.symm
   simp[i,l]
 .rw [if_neg g,if_neg (fun q=>g q.2)]
def errE(nS nF:Nat)(b:List Bd)(e:Ed):Int:=
 if (e.kind≠1/\e.kind≠2)\/e.state<0\/(nS:Int)<=e.state\/e.field<0\/(nF:Int)<=e.field then 1
 else match b[e.field.toNat]? with
  |none=>1
  |some bd=>if (e.kind=1/\e.tup ∉ bd.up.ts)\/(e.kind=2/\e.tup∈bd.lo.ts) then 330 else 0
def jO(vs:List Bool)(nS nF:Nat)(b:List Bd):List Ed->Sts->Except Int Sts
 | [],S => .ok S
 |e :: l,S=>if errE nS nF b e=0 then jO vs nS nF b l (edSt vs e S) else .error (errE nS nF b e)
theorem pa(vs nS nF b):∀ k l S,jO vs nS nF b (k++l) S=match jO vs nS nF b k S with | .ok T=>jO vs nS nF b l T | .error e => .error e
 | [],l,S=>rfl
 |e :: k,l,S=>by
  rw[List.cons_append,jO,jO];split
  .exact pa vs nS nF b k l _
  .rfl
theorem J7{nF b}:∀{l S},(∀ e,e∈l->errE nS nF b e=0)->jO vs nS nF b l S = .ok (l.foldl (fun S e=>edSt vs e S) S)
 | [],S,_=>rfl
 |e :: l,S,h=>by
  simp_all[jO,if_pos,J7]
structure Shp (nS nF:Nat) (S:Sts):Prop where
 len:S.length=nS
 lens:∀ st,st∈S->st.length=nF
 srt:∀ s f,s<nS->f<nF->(getR S s f).ts.Pairwise (·<·)
theorem Shp.ed{nF}(h:Shp nS nF S):Shp nS nF (edSt vs e S):=by
 refine⟨by rw[qf8];exact h.len,qf9 h.lens,fun s f g hf=>?_⟩;rw[J6 h.lens (by rw[h.len];exact g) hf];split
 .exact qf6 (h.srt s f g hf)
 .exact h.srt s f g hf
theorem Shp.eds{nF}:∀{l:List Ed}{S},Shp nS nF S->Shp nS nF (l.foldl (fun S e=>edSt vs e S) S)
 | [],_,h=>h
 |e :: l,S,h=>Shp.eds (l:=l) h.ed
def mine(vs:List Bool)(s f:Nat)(t:Int)(e:Ed):Bool:=decide (f=e.field.toNat)&&(hits vs e s&&decide (t=e.tup))
def Zh(vs:List Bool)(s f:Nat)(t:Int)(l:List Ed)(w:Bool):Bool:=l.foldl (fun w e=>if mine vs s f t e then decide (e.kind=1) else w) w
theorem pb{nF}(g:s<nS)(hf:f<nF):∀{l S},Shp nS nF S->(decide (t∈(getR (l.foldl (fun S e=>edSt vs e S) S) s f).ts))=Zh vs s f t l (decide (t∈(getR S s f).ts))
 | [],S,_=>rfl
 |e :: l,S,h=>by
  rw[List.foldl_cons,pb g hf h.ed];unfold Zh;rw[List.foldl_cons];congr 1;rw[J6 h.lens (by rw[h.len];exact g) hf];unfold mine;by_cases i:f=e.field.toNat/\hits vs e s=true
  .simp_all [if_pos,edR,qf7]
  grind
theorem pf{nF}(g:s<nS)(hf:f<nF):∀{l:List Ed}{S},Shp nS nF S->(getR (l.foldl (fun S e=>edSt vs e S) S) s f).ar=(getR S s f).ar
 | [],S,_=>rfl
 |e :: l,S,h=>by
  rw[List.foldl_cons,pf g hf h.ed,J6 h.lens (by rw[h.len];exact g) hf];split<;>rfl
theorem qgA{nF T}(h:Shp nS nF S)(k:Shp nS nF T)(p:∀ s f,s<nS->f<nF->(getR S s f).ar=(getR T s f).ar)(C:∀ s f t,s<nS->f<nF->(t∈(getR S s f).ts↔t∈(getR T s f).ts)):S=T:=by
 apply zZ;intro s;by_cases g:s<nS
 .have i:s<S.length:=by rw[h.len];exact g
  have j:s<T.length:=by rw[k.len];exact g
  rw[qx i,qx j];congr 1;have I:=h.lens _ (qv i);have J:=k.lens _ (qv j);apply zZ;intro f;by_cases hf:f<nF
  .have P:getR S s f=S[s][f]:=by unfold getR;rw[zf,zf,qx i];simp[I,hf]
   have R:getR T s f=T[s][f]:=by unfold getR;rw[zf,zf,qx j];simp[J,hf]
   rw[qx zOm,qx zOm,<-P,<-R];congr 1;have l:=p s f g hf;have o:=Wk (h.srt s f g hf) (k.srt s f g hf) (fun t=>C s f t g hf);generalize getR S s f=r at *
   generalize getR T s f=q at *
   cases r;cases q;simp at l o;rw[l,o]
  grind
 .rw [jG (by rw[h.len];omega),jG (by rw[k.len];omega)]
end
end GB
end Go.Proofs.YthkdjhkmlmjkbaaGreatDoor
