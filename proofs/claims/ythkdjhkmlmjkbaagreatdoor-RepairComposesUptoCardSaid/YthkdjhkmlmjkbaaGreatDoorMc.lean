/-
  Own library, part 3: an abstract reading of values and a calculus over it; contracts of functions; plain lemmas.
-/
import Derived.Test.YthkdjhkmlmjkbaaGreatDoorProg
import Derived.KernelRfl
import Derived.RecoverIn
import Derived.Sort.Grow
import Derived.Shelf.Strconv.Itoa0
import Derived.Shelf.Strconv.Itoa1
import Derived.Shelf.Spec.SlicesInsertGrow
import Derived.Shelf.LaysM
import Derived.Shelf.Strconv.Itoa2
import Derived.Shelf.Strconv.Itoa3
import Derived.Shelf.Sort.Plain
import Derived.Shelf.Bits.Mul64
import Derived.Ground.Names2Prog
import Derived.Shelf.Slices.Clone
import Derived.Shelf.Slices.SearchI
import Derived.Shelf.Slices.Delete
import Derived.Shelf.Slices.In.SortNone
import Derived.Shelf.Slices.Empties
import Derived.Test.YthkdjhkmlmjkbaaGreatDoorMb
set_option linter.unusedVariables false
set_option linter.unusedSimpArgs false
set_option maxRecDepth 100000
open Go renaming Program->qf,Oper->wx,Operand->uk,FuncId->us,Value->j3,undef->vd,TypeId->j1,World->j2
open Go.Proofs.Tryz renaming prog->qb
open Bool renaming and_eq_true->qi,eq_iff_iff->jN,or_eq_true->vL
open Option.some renaming injEq->qj
open List renaming range->qm,getElem?_eq_some_iff->qn,getElem_mem->qo,mem_cons->qp,getElem?_eq_getElem->qq,mem_map->qs,all_eq_true->qu,mem_cons_of_mem->qJ,getD_eq_getElem?_getD->qS,getElem?_append_left->qT,mem_singleton->qV,mem_of_getElem?->qY,getElem?_map->qZ,mem_cons_self->q8,not_mem_nil->zb,length_append->zc,replicate->zd,take_of_length_le->zi,getElem?_append_right->zo,take_length->zt,drop_eq_getElem_cons->zH,ext_getElem?->zT,getElem_of_mem->zX,mem_range->zY,length_cons->zZ,getElem?_take->z8,pairwise_cons->yh,map_append->yv,getElem?_set_self->yC,getElem?_eq_none->je,getElem?_drop->js,getElem?_toArray->ju,getElem?_set_ne->jK,mem_filter->jL,map_cons->jM,flatten_cons->uc,getElem?_range->Zr,mem_flatten->Jg
open Nat renaming le_refl->qr,le_of_ble_eq_true->zG,zero_add->yw,lt_succ_iff_lt_or_eq->jf
open Go.IntKind renaming i64->qx
open Option renaming map_some->qU,map_eq_some_iff->zW
open List.Nodup renaming length_le_of_subset->jv
open Int renaming mul_le_mul->ub
namespace Go.Ev
open Go Go.RowKit
section
variable {g:AV->St->Prop}{ops:Array wx}{pl:Pol}{P:qf}
theorem qt.mono{det:Bool}{C:Option Tmp}{op:Op}{ev:uk->AV}{mu:Mu}{K K' Kp I:AV->Mu->Prop}(h:qt P pl det C op ev mu K Kp)
  (o:∀ v m,K v m->K' v m) (T:∀ v m,Kp v m->I v m):qt P pl det C op ev mu K' I:=by
 cases op<;>simp only[qt]at h⊢<;>try (exact h.elim)
 case move=>exact o _ _ h
 case assign=>exact o _ _ h
 case makeFunc=>exact o _ _ h
 case pick=>grind
 case alloc=>obtain⟨z,j,l,p⟩:=h;exact⟨z,j,l,o _ _ p⟩
 case box =>
  obtain⟨j,l⟩:=h;refine⟨j,?_⟩;split at l
  .grind
  grind
 case build=>obtain⟨t,z,j,l⟩:=h;exact⟨t,z,j,o _ _ l⟩
 case buildSlice=>obtain⟨z,j,l⟩:=h;exact⟨z,j,o _ _ l⟩
 case load=>obtain⟨z,j,l⟩:=h;exact⟨z,j,o _ _ l⟩
 case store=>obtain⟨z,j,l⟩:=h;exact⟨z,j,o _ _ l⟩
 case nilCheck=>obtain⟨z,j,l⟩:=h;exact⟨z,j,o _ _ l⟩
 case binOp =>
  split at h
  .rename_i U
   simp only[if_pos U];exact h.mono fun z hz=>o _ _ hz
  .rename_i U
   simp only[if_neg U];obtain⟨z,j,l⟩:=h;exact⟨z,j,o _ _ l⟩
 case unOp=>obtain⟨z,j,l⟩:=h;exact⟨z,j,o _ _ l⟩
 case convert=>obtain⟨t,z,j,l⟩:=h;exact⟨t,z,j,o _ _ l⟩
 case makeInterface=>grind
 case makeSlice=>obtain⟨z,j,l⟩:=h;exact⟨z,j,o _ _ l⟩
 case slice=>obtain⟨t,z,j,l⟩:=h;exact⟨t,z,j,o _ _ l⟩
 case fieldAddr=>obtain⟨z,j,l⟩:=h;exact⟨z,j,o _ _ l⟩
 case field=>obtain⟨z,j,l⟩:=h;exact⟨z,j,o _ _ l⟩
 case indexAddr=>obtain⟨z,j,l⟩:=h;exact⟨z,j,o _ _ l⟩
 case index=>obtain⟨z,j,l⟩:=h;exact⟨z,j,o _ _ l⟩
 case extract=>obtain⟨z,j,l⟩:=h;exact⟨z,j,o _ _ l⟩
 case typeAssert=>obtain⟨z,j,l⟩:=h;exact⟨z,j,o _ _ l⟩
 case makeMap=>grind
 case lookup=>obtain⟨z,j,l⟩:=h;exact⟨z,j,o _ _ l⟩
 case mapUpdate=>obtain⟨z,j,l⟩:=h;exact⟨z,j,o _ _ l⟩
 case insert=>obtain⟨z,j,l⟩:=h;exact⟨z,j,o _ _ l⟩
 case mapEntry=>obtain⟨z,j,l⟩:=h;exact⟨z,j,o _ _ l⟩
 case entryStore=>obtain⟨z,j,l⟩:=h;exact⟨z,j,o _ _ l⟩
 case range=>obtain⟨z,j,l⟩:=h;exact⟨z,j,o _ _ l⟩
 case next=>obtain⟨t,a0,b,es,seen,j,l,p,J⟩:=h;exact⟨t,a0,b,es,seen,j,l,fun i e a c=>o _ _ (p i e a c),fun a=>o _ _ (J a)⟩
 case entry=>obtain⟨z,j,l⟩:=h;exact⟨z,j,o _ _ l⟩
 case panic=>grind
 case call c =>
  obtain⟨callee,args,a1⟩:=c;cases callee with
  |invoke r m=>exact h.elim
  |value f =>
   rcases h with ⟨v,j,l⟩|⟨j,⟨g,fi,ca,R,l,p,J,h5⟩|⟨i,R,l,p,J⟩⟩
   .exact .inl ⟨v,j,o _ _ l⟩
   .exact .inr ⟨j,.inl ⟨g,fi,ca,R,l,p,fun r m h=>o _ _ (J r m h),fun r m h=>T _ _ (h5 r m h)⟩⟩
   .exact .inr ⟨j,.inr ⟨i,R,l,p,fun b m h=>o _ _ (J b m h)⟩⟩
  |builtin b =>
   cases b<;>simp only at h⊢<;>try (first | (obtain⟨z,m,j,l⟩:=h;exact⟨z,m,j,o _ _ l⟩) | (obtain⟨z,j,l⟩:=h;exact⟨z,j,o _ _ l⟩))
   obtain⟨s,x,j,h⟩:=h;exact⟨s,x,j,h.mono o⟩
theorem awpS.mono{det:Bool}{Q j:St->Prop}{p:AV->St->Prop}(t:∀ st,Q st->j st)(i:∀ v st,p v st->g v st) :
  ∀(l:List wx) (st:St),awpS P pl det ops l Q p st->awpS P pl det ops l j g st:=by
 intro l;induction l with
 |nil=>intro st h;exact t st h
 |cons o l r =>
  intro st ⟨b,C,I,J⟩;exact⟨b,C,fun e=>(I e).mono (fun v m h=>r _ h) (fun v m h=>i _ _ h),fun e=>r _ (J e)⟩
theorem awpT.mono{Q p:St->Prop}{t:AV->St->Prop}(I:∀ st,Q st->p st)(i:∀ v st,t v st->g v st) :
  ∀(l:List (Nat×Nat×List Nat)) (st:St),awpT P pl ops Q t l st->awpT P pl ops p g l st:=by
 intro l;induction l with
 |nil=>intro st h;exact I st h
 |cons e l C =>
  obtain⟨j,k,r⟩:=e;intro st h;simp only[awpT]at h⊢;cases J:ops[j]? with
  |none=>grind
  |some o =>
   rw[J]at h;simp only at h⊢;obtain⟨b,R,T,U⟩:=h;exact⟨b,R,fun e=>qt.mono (T e) (fun v m h=>⟨h.1,C _ h.2⟩) (fun v m h=>⟨h.1,fun tm=>i _ _ (h.2 tm)⟩),fun e=>C _ (U e)⟩
theorem awp.mono:∀(c:Code) {Q o:qF->St->Prop} {st:St},awp P pl c Q st->(∀ e st,Q e st->o e st)->awp P pl c o st:=by
 intro c;induction c with
 |skip=>intro Q o st h j;exact j _ _ h
 |label l=>intro Q o st h j;exact j _ _ h
 |exit i=>intro Q o st h j;exact j _ _ h
 |ret=>intro Q o st h j;exact j _ _ h
 |region id g a3 =>
  intro Q o st h j;rcases h with ⟨p,r⟩|⟨p,r⟩
  .exact .inl ⟨p,awpS.mono (fun st h=>j _ _ h) (fun v st h=>j _ _ h) _ _ r⟩
  .obtain ⟨st1,C,r⟩:=r
   refine .inr ⟨p,st1,C,?_⟩;rcases r with (⟨J,U⟩|⟨n,J,U⟩|⟨a0,d,g1,g2,g3,g4,g5⟩)|⟨O,J,a2,U⟩
   .exact .inl (.inl ⟨J,awpS.mono (fun st h=>j _ _ h) (fun v st h=>j _ _ h) _ _ U⟩)
   .exact .inl (.inr (.inl ⟨n,J,awpS.mono (fun st h=>awpS.mono (fun st h=>j _ _ h) (fun v st h=>j _ _ h) _ _ h) (fun v st h=>j _ _ h) _ _ U⟩))
   .exact .inl (.inr (.inr ⟨a0,d,g1,g2,g3,awpS.mono (fun st h=>j _ _ h) (fun v st h=>j _ _ h) _ _ g4,awpS.mono (fun st h=>j _ _ h) (fun v st h=>j _ _ h) _ _ g5⟩))
   .exact .inr ⟨O,J,a2,awpT.mono (fun st h=>j _ _ h) (fun v st h=>j _ _ h) _ _ U⟩
 |seq a b R T =>
  intro Q o st h j;refine R (Q:=seqQ (awp P pl b Q) Q) h (fun e st h=>?_);cases e with
  |normal=>exact T h j
  |exit i=>exact j _ _ h
  |ret=>exact j _ _ h
  |pan v=>exact j _ _ h
 |cond a4 a b R T=>intro Q o st ⟨t,h0,p,r⟩ j;exact⟨t,h0,fun e=>R (p e) j,fun e=>T (r e) j⟩
 |block id b ih =>
  intro Q o st h j;refine ih (Q:=vT id Q) h (fun e st h=>?_);cases e with
  |normal=>exact j _ _ h
  |exit i =>
   simp only[vT]at h⊢;split at h
   .grind
   grind
  |ret=>exact j _ _ h
  |pan v=>exact j _ _ h
 |loop b ih =>
  intro Q o st ⟨z,I,n,st1,C,h0,p⟩ j;have j:∀ e st,fzQ z Q e st->fzQ z o e st:=fun e st h=>by
   cases z with
   |false=>exact j e st h
   |true=>exact⟨h.choose,h.choose_spec.1,h.choose_spec.2.1,j e _ h.choose_spec.2.2⟩
  refine⟨z,I,n,st1,C,h0,fun n st hI=>ih (Q:=vU I n (fzQ z Q)) (p n st hI) (fun e st h=>?_)⟩;cases e with
  |normal=>exact h
  |exit i=>exact j _ _ h
  |ret=>exact j _ _ h
  |pan v=>exact j _ _ h
 |scope b ih=>intro Q o st h j;exact ih h j
 |rangeFunc f ps a5 b a6 a7 =>
  intro Q o st ⟨z,gf,a1,rows,I,Ix,p,r,J,h6,h7,h8⟩ j;have j:∀ e st,fzQ z Q e st->fzQ z o e st:=fun e st h=>by
   cases z with
   |false=>exact j e st h
   |true=>exact⟨h.choose,h.choose_spec.1,h.choose_spec.2.1,j e _ h.choose_spec.2.2⟩
  exact⟨z,gf,a1,rows,I,Ix,p,r,J,h6,fun mu h=>j _ _ (h7 mu h),fun e mu h=>j _ _ (h8 e mu h)⟩
 |goto l=>intro Q o st h j;exact h.elim
 |refuse w=>intro Q o st h j;exact h.elim
def upQ(I:Nat->St->Prop)(N k:Nat)(Q:qF->St->Prop):qF->St->Prop
 | .normal,st=>k<N/\I (k+1) st
 |e,st=>Q e st
section
variable (Q:qF->St->Prop) (st:St) (I:Nat->St->Prop) (N k:Nat)
@[go_sem ↓] theorem qh0:upQ I N k Q .normal st=(k<N/\I (k+1) st):=eqS rfl
@[go_sem ↓] theorem upQ_exit(i:Nat):upQ I N k Q (.exit i) st=Q (.exit i) st:=eqS rfl
@[go_sem ↓] theorem upQ_ret:upQ I N k Q .ret st=Q .ret st:=eqS rfl
end
end
section
variable {K i:AV->Mu->Prop}{R:Bool->Mu->Prop}{g:us}{args args' caps xs ys:List AV}{mu:Mu}{P:qf}{Q:qF->St->Prop}
theorem qk.up{pl:Pol}{g:Code}{st:St}(N:Nat)(I:Nat->St->Prop)(l:I 0 st)(h:∀ k st,k<=N->I k st->awp P pl g (upQ I N k Q) st):qk P pl g Q st:=by
 refine aZ (fun n st=>∃ k,n=N-k/\k<=N/\I k st) N ⟨0,zOm,zOm,l⟩ ?_;rintro n st ⟨k,rfl,o,p⟩;refine awp.mono g (h k st o p) (fun e st j=>?_);cases e with
 |normal=>exact⟨N-(k+1),zW1 j.1,k+1,rfl,j.1,j.2⟩
 |exit i=>exact j
 |ret=>exact j
 |pan v=>exact j
theorem nL(mu:Mu):∀ k,cutM (fun i=>!false) mu k=mu:=by
 induction mu with
 |nil=>intro k;rfl
 |cons c l g =>
  grind [cutM]
theorem FzQ.one{i d b:Nat}{x:AV}{st:St}(g:Rd (cutM (fun j=>j == b) st.mu 0) (st.tm d) x)(k:Q (.exit i) (st.put (some d) x (cutM (fun j=>!(j == b)) st.mu 0))):FzQ Q (.exit i) st:=by
 refine⟨_,⟨fun j=>j == b,rfl,fun j=>?_⟩,trivial,k⟩;simp only[St.put];split
 .rename_i h;subst h;exact .rd _ _ g
 .exact .same _
theorem cA{det:Bool}{v:AV}(j:qd P g args' v)(l:WKs args args')(k:K v mu) :
  qc P det mu (.fn (.func g) [] []) args K i:=
 .inl ⟨v,.inl ⟨g,[],[],args',rfl,j,.inl (zUs l)⟩,k⟩
theorem fG{det:Bool}{v:AV}{Q:Prop}(j:qd P g args' v)(l:WKs args args')(k:Q)(e:K v mu=Q:=by simp[go_sem];rfl):qc P det mu (.fn (.func g) [] []) args K i:=cA j l (e.mpr k)
theorem fB{det:Bool}{v:AV}(j:qd P g args' v)(l:Rds mu args args')(hf:FL v)(k:K v mu) :
  qc P det mu (.fn (.func g) [] []) args K i:=
 .inl ⟨v,.inl ⟨g,[],[],args',rfl,j,.inr ⟨zUs l,hf⟩⟩,k⟩
theorem fR{R:AEnd->Mu->Prop}(j:qK P g (args++caps) mu R)(k:∀ r m,R (.ret r) m->K r m)(kp:∀ r m,R (.pan r) m->i r m) :
  qc P false mu (.fn (.func g) [] caps) args K i:=
 .inr ⟨rfl,.inl ⟨g,[],caps,R,rfl,zUs j,k,kp⟩⟩
theorem qc.yield{i:Nat}{g:AV->Mu->Prop}(h:vR P i args mu R)(k:∀ b m,R b m->K (.sc (.bool b)) m):qc P false mu (.yl i) args K g:=
 .inr ⟨rfl,.inr ⟨i,R,rfl,h,k⟩⟩
theorem vR.hid{i j:Nat}{c:Cell}(J:mu[j]?=some c)(T:c ≠ .dead)(h:vR P i args (mu.set j .dead) R):vR P i args mu fun b U=>∃ m,R b m/\m[j]?=some .dead/\U=m.set j c:=by
 intro G w o s ra l r hb;obtain⟨fn,g,C,p,h1,h2⟩:=h G w o (s.hid j) ra l r hb;refine⟨fn,g,C,p,h1,h2.mono ?_⟩;rintro e w' ⟨b,G',m,rfl,t,hR⟩;have I:j<G.blk.length:=by rw[s.len];exact(qn.1 J).1
 obtain⟨g1,g2,g3⟩:=t.unhid s J T (b:=(G.blk[j]'I).1) (t:=(G.blk[j]'I).2) (zP1 I);exact⟨b,G',_,rfl,g3,m,hR,g1,rfl⟩
theorem yI.of{f:us}{rows:List (List AV)}(g:zO P f)
  (h:∀(i:Nat) (I:Nat->Mu->Prop) (j:Mu->Prop),(∀ k mu,I k mu->I k (mu++[.dead]))->(∀ mu,j mu->j (mu++[.dead]))->Yld P i rows I j->∀ mu,I 0 mu ->
   qK P f (.yl i :: caps) mu fun e p=>∃ r,e = .ret r/\(I rows.length p\/j p)):yI P f caps rows:=⟨g,h⟩
theorem WKs.nil:WKs [] []:=trivial
theorem WKs.cons{x y:AV}(h:WK x y)(t:WKs xs ys):WKs (x :: xs) (y :: ys):=⟨h,t⟩
theorem WKs.zk{x:AV}(h:HF x)(t:WKs xs ys):WKs (x :: xs) (x :: ys):=⟨WK.hf h,t⟩
theorem WKs.zs{v:j3}(t:WKs xs ys):WKs (.sc v :: xs) (.sc v :: ys):=⟨WK.hf (HF.sc _),t⟩
def Own(mu:Mu)(sz:Nat)(av:AV)(xs:List (List AV)):Prop:=
 (av = .lst true xs)\/∃ b,av = .sl b sz 0 xs.length/\mu[b]?=some (.arr xs.flatten)
theorem Own.rows{sz:Nat}{av:AV}{xs:List (List AV)}(h:Own mu sz av xs)(w:ya sz xs):qE mu av=some xs:=by
 rcases h with rfl|⟨b,rfl,j⟩
 .rfl
 .have l:=z2 w
  simp only[qE,j];rw[if_pos zOm];congr 1;apply zT;intro i;by_cases g:i<xs.length
  .simp only[qZ,Zr g,qU,yw]
   rw[qq g];congr 1;have o:=w _ (qo g);rw[<-U2 w i,zH g,uc,List.take_append_of_le_length zOm,zi zOm]
  grind
theorem Own.rd{sz:Nat}{av:AV}{xs:List (List AV)}(h:Own mu sz av xs)(w:ya sz xs)(hf:∀ r,r∈xs->∀ c,c∈r->HF c):Rd mu av (.lst false xs):=by
 rcases h with rfl|⟨b,rfl,l⟩
 .exact .wk _ true _ (.hf _ (HF.lst hf))
 .have o:=z2 w
  refine .sl b sz 0 xs.length xs.flatten xs l zOm rfl w (fun k x y i j=>?_);rw[yw,j]at i;cases i;obtain⟨r,p,g⟩:=Jg.1 (qY j);exact .hf _ (hf r p _ g)
end
end Go.Ev
namespace Go.Ev
open Go Go.RowKit
section
variable {R:AEnd->Mu->Prop}{f:us}{args:List AV}{mu:Mu}{P:qf}
def Qk(mu:Mu)(give:Nat->Bool):List AV->List AV->Prop
 | [],[]=>True
 |x :: J,y :: l=>(x=y\/Rd (cutM give mu 0) x y)/\Qk mu give J l
 |_,_=>False
theorem Qk.get{give:Nat->Bool}:∀{xs ys:List AV},Qk mu give xs ys->ys.length=xs.length/\∀(k:Nat) x y,xs[k]?=some x->ys[k]?=some y->x=y\/Rd (cutM give mu 0) x y
 | [],[],_=>⟨rfl,zSp⟩
 |x :: xs,y :: ys,⟨h,t⟩=>by
  obtain⟨j,l⟩:=Qk.get t;refine⟨zP1 j,fun k a b g i=>?_⟩;cases k with
  |zero=>simp at g i;subst g;subst i;exact h
  |succ k=>exact l k a b (zUs g) (zUs i)
 | [],_ :: _,h=>h.elim
 |_ :: _,[],h=>h.elim
theorem qK.freeze{args1:List AV}(give:Nat->Bool)(j:Qk mu give args args1)(h:qK P f args1 (cutM (fun i=>!give i) mu 0) R):qK P f args mu R:=by
 obtain⟨g,h⟩:=h;obtain⟨I,j⟩:=j.get;refine⟨g,fun G w o s t=>?_⟩;have l:zj (frz G give mu) w.heap args1 o:=by
  refine⟨by rw[I];exact t.1,fun k y J=>?_⟩;have T:k<args.length:=by grind
  have C:args[k]?=some args[k]:=qq T;have U:=t.2 k _ C;rcases j k _ y C J with e|r
  .rw [<-e];exact U.mono (vP s give).le (Ext.refl _ _)
  grind [Js]
 refine(h (frz G give mu) w o (Jr s give) l).mono fun e w' ⟨G',p,st,hR⟩=>⟨G',p,(vP s give).trans s st,hR⟩
theorem fW(h:qK P f args mu fun e m=>R e m\/∃(g:Nat->Bool) (x y:AV),e = .ret x/\Gv m g x y/\R (.ret y) (cutM (fun i=>!g i) m 0)):qK P f args mu R:=by
 obtain⟨l,h⟩:=h;refine⟨l,fun G w o s I=>(h G w o s I).mono fun e w' ⟨J,p,st,j⟩=>?_⟩;rcases j with ⟨r,v,j,t,C⟩|⟨r,v,j,t,C⟩
 .rcases j with j|⟨g,x,y,T,U,j⟩
  .grind
  .cases T
   exact⟨frz J g p,_,st.trans s (vP st.sim g),.inl ⟨y,v,j,t,U.sound st.sim C⟩⟩
 grind
theorem qd.toSound{args':List AV}{v:AV}(mu:Mu)(h:qd P f args' v)(r:WKs args args'):qK P f args mu fun e m=>e = .ret v/\m=mu:=by
 refine⟨h.1,fun G w o s t=>?_⟩;have C:VRel G w.heap (.fn (.func f) [] []) (.func (.func f) #[] #[]) := .fn _ _ _ _ _ rfl rfl (fun k x i=>by simp at i) (fun k x i=>by simp at i);obtain⟨g,first,l,e,_,p⟩:=Wv s C t (.inl ⟨f,[],[],args',rfl,h,.inl (zUs r)⟩);injection e with j I J;injection j with j;subst j;subst I;subst J;simp at p;refine p.mono fun e w' ⟨R,u,T,st,U⟩=>⟨R,mu,st,.inl ⟨v,u,⟨rfl,rfl⟩,T,U⟩⟩
end
end Go.Ev
namespace Go.Ev
open Go Go.RowKit
section
variable {C:Type}
section
variable {β:Type}
def fN(n:Nat)(k:Nat->β):β:=match n with
 | 0=>k 0
 |m+1=>k (Nat.succ m)
theorem J9(n:Nat)(k:Nat->β):fN n k=k n:=by cases n<;>rfl
def fI(i:Int)(k:Int->β):β:=match i with
 | .ofNat n=>fN n fun n=>k (.ofNat n)
 | .negSucc n=>fN n fun n=>k (.negSucc n)
theorem fI_eq(i:Int)(k:Int->β):fI i k=k i:=by
 cases i with
 |ofNat n=>exact J9 n fun n=>k (.ofNat n)
 |negSucc n=>exact J9 n fun n=>k (.negSucc n)
def fBo(b:Bool)(k:Bool->β):β:=match b with
 |true=>k true
 |false=>k false
theorem nM(b:Bool)(k:Bool->β):fBo b k=k b:=by cases b<;>rfl
def fLi:List C->(List C->β)->β
 | [],k=>k []
 |a :: l,k=>fLi l fun l=>k (a :: l)
theorem ZU:∀(l:List C) (k:List C->β),fLi l k=k l
 | [],k=>rfl
 |a :: l,k=>by rw[fLi,ZU l]
def fLL:List (List C)->(List (List C)->β)->β
 | [],k=>k []
 |a :: l,k=>fLi a fun a=>fLL l fun l=>k (a :: l)
theorem W7:∀(l:List (List C)) (k:List (List C)->β),fLL l k=k l
 | [],k=>rfl
 |a :: l,k=>by rw[fLL,ZU,W7 l]
def fV(v:AV)(k:AV->β):β:=match v with
 | .sc (.int kd n)=>fI n fun n=>k (.sc (.int kd n))
 | .sc (.bool b)=>fBo b fun b=>k (.sc (.bool b))
 | .lst f J=>fLL J fun J=>k (.lst f J)
 | .agg g=>fLi g fun g=>k (.agg g)
 | .tup g=>fLi g fun g=>k (.tup g)
 | .ip g=>fLi g fun g=>k (.ip g)
 | .sl b j off len=>fN b fun b=>fN j fun j=>fN off fun off=>fN len fun len=>k (.sl b j off len)
 | .ptr b off=>fN b fun b=>fN off fun off=>k (.ptr b off)
 | .mp b=>fN b fun b=>k (.mp b)
 | .fn f a c=>fLi a fun a=>fLi c fun c=>k (.fn f a c)
 |v=>k v
theorem fV_eq(v:AV)(k:AV->β):fV v k=k v:=by
 unfold fV;split<;>simp only[J9,fI_eq,nM,ZU,W7]
def fC(c:Cell)(k:Cell->β):β:=match c with
 | .arr g=>fLi g fun g=>k (.arr g)
 | .mp i=>fLi i fun i=>k (.mp i)
 |c=>k c
theorem fC_eq(c:Cell)(k:Cell->β):fC c k=k c:=by
 unfold fC;split<;>simp only[ZU]
def fM:Mu->(Mu->β)->β
 | [],k=>k []
 |c :: l,k=>fC c fun c=>fM l fun l=>k (c :: l)
theorem Va:∀(l:Mu) (k:Mu->β),fM l k=k l
 | [],k=>rfl
 |a :: l,k=>by rw[fM,fC_eq,Va l]
end
end
section
variable {C g i:Type}{ops:Array wx}{ys:List (List AV)}{m mu:Mu}{pl:Pol}{P:qf}
def setJ:List AV->Nat->AV->(List AV->Option g)->Option g
 | [],_,_,_=>none
 |_ :: l,0,v,k=>k (v :: l)
 |a :: l,d+1,v,k=>setJ l d v fun l=>k (a :: l)
theorem W8:∀{l:List AV} {d:Nat} {v:AV} {k:List AV->Option g} {r:g},setJ l d v k=some r->d<l.length/\k (l.set d v)=some r
 | [],d,v,k,r,h=>by cases h
 |a :: l,0,v,k,r,h=>⟨zSp,h⟩
 |a :: l,d+1,v,k,r,h=>by
  obtain⟨i,j⟩:=W8 (l:=l) h
  grind
def nthJ:List AV->Nat->AV
 | [],_ => .sc vd
 |a :: _,0=>a
 |_ :: l,d+1=>nthJ l d
theorem ZV:∀(l:List AV) (d:Nat),nthJ l d=(l[d]?).getD (.sc vd)
 | [],d=>by simp[nthJ]
 |a :: l,0=>rfl
 |a :: l,d+1=>by rw[nthJ,ZV l d];simp
structure LS where
 tm:List AV
 mu:Mu
def LS.st(s:LS):St:=⟨fun i=>(s.tm[i]?).getD (.sc vd),s.mu⟩
def evJ(g:List AV):uk->AV
 | .tmp t=>nthJ g t
 | .const v=>ofV v
 | .global _ => .any
 | .func f => .fn (.func f) [] []
theorem u6(s:LS):s.st.ev=evJ s.tm:=by
 funext x;cases x with
 |tmp t=>exact(ZV _ _).symm
 |_=>rfl
def putJ(i:List AV)(d:Option Tmp)(v:AV)(k:List AV->Option g):Option g:=match d with
 |none=>k i
 |some d=>setJ i d v k
theorem ZW{s:LS}{d:Option Tmp}{v:AV}{k:List AV->Option i}{r:i}(h:putJ s.tm d v k=some r):∃ g,k g=some r/\g.length=s.tm.length/\s.st.put d v m=LS.st ⟨g,m⟩:=by
 cases d with
 |none=>exact⟨_,h,rfl,rfl⟩
 |some d =>
  obtain⟨l,j⟩:=W8 h;refine⟨_,j,zSp,?_⟩;unfold LS.st St.put
  grind
def Stps(P:qf)(pl:Pol)(det:Bool)(g:Option Tmp)(op:Op)(ev:uk->AV)(mu:Mu)(v:AV)(m:Mu):Prop:=∀(K i:AV->Mu->Prop),K v m->qt P pl det g op ev mu K i
def nilV(P:qf)(op:BinOp)(t:j1)(x:AV):Option AV:=
 if (qy P t).isSome&&(decide (op = .eql)||decide (op = .neq)) then match x with
  | .lst _ (_ :: _) | .sl .. => some (.sc (.bool (decide (op = .neq))))
  |_=>none
 else none
def Vb(P:qf)(t:j1)(x:AV):Bool:=match x with
 | .lst _ J=>match qy P t with
  |some (_,j,_)=>J.all fun r=>decide (r.length=j)
  |none=>false
 |_=>true
theorem nN{t:j1}{x:AV}(h:Vb P t x=true):JI P t x:=by
 cases x with
 |lst f J =>
  unfold Vb at h;split at h
  .rename_i g i
   cases i;split at h
   .rename_i e j l o
    exact⟨e,j,l,o,fun r p=>of_decide_eq_true (qu.1 h r p)⟩
   .cases h
  grind
 |_=>trivial
def yT(P:qf)(pl:Pol)(j:Option Tmp)(op:Op)(ev:uk->AV)(mu:Mu):Option AV:=
 match op with
 | .move x | .assign x=>some (ev x)
 | .pick c a b=>match ev c with
  | .sc (.bool t)=>some (if t then ev a else ev b)
  |_=>none
 | .box _ x=>if (ev x).cells.all AV.one&&!(j.any pl.mt.contains) then some (.ip (ev x).cells) else none
 | .build t l=>if yG P t then wW P t (l.toList.map fun p=>(p.1,ev p.2)) else none
 | .buildSlice t n l=>wY P t n (l.toList.map fun p=>(p.1,ev p.2))
 | .load t a=>jR P mu t (ev a)
 | .nilCheck x=>Qc (ev x)
 | .binOp op t x y _=>if jT y then nilV P op t (ev x) else vp P op t (ev x) (ev y)
 | .unOp op _ x=>aUn op (ev x)
 | .convert src d x=>if (P.underlying src).isSome then Zx P src d (ev x) else none
 | .makeInterface t x=>if Qd P t then some (.ifc t (ev x)) else none
 | .makeFunc f first g=>some (.fn f (evs ev first.toList) (evs ev g.toList))
 | .slice t x o r C=>if Vb P t (ev x) then wU P t (ev x) (o.map ev) (r.map ev) (C.map ev) else none
 | .fieldAddr s x f=>wQ P s f (ev x)
 | .field t x f=>wS P t f (ev x)
 | .indexAddr t x i=>wR P t (ev x) (ev i)
 | .index t x i=>wT P t (ev x) (ev i)
 | .extract t i=>ZF i (ev t)
 | .typeAssert x _ t ok=>ZG P t ok (ev x)
 | .lookup t m k ok=>z5 P mu t (ev m) (ev k) ok
 | .entry i=>uj mu (ev i)
 | .call c=>match c.callee with
  | .builtin b=>match b with
   | .append | .copy | .delete | .clear=>none
   |b=>jU P mu b c.argTypes (evs ev c.args.toList)
  |_=>none
 |_=>none
theorem W9{det:Bool}{l:Option Tmp}{op:Op}{ev:uk->AV}{v:AV}(h:yT P pl l op ev mu=some v):Stps P pl det l op ev mu v mu:=by
 intro K J g;cases op with
 |move x=>simp only[yT,qj]at h;subst h;exact g
 |assign x=>simp only[yT,qj]at h;subst h;exact g
 |pick c a b =>
  simp only[yT]at h;split at h
  .rename_i t r
   cases h;exact⟨t,r,g⟩
  .cases h
 |box e x =>
  simp only[yT]at h;split at h
  .rename_i j
   simp only[qi,Bool.not_eq_true']at j;cases h;exact⟨j.1,by rw[j.2];exact g⟩
  .cases h
 |build t C =>
  simp only[yT]at h;split at h
  .rename_i j;exact⟨j,v,h,g⟩
  .cases h
 |buildSlice t n C=>exact⟨v,h,g⟩
 |load t a=>exact⟨v,h,g⟩
 |nilCheck x=>exact⟨v,h,g⟩
 |binOp op t x y R =>
  simp only[yT]at h;simp only[qt];split at h
  .rename_i o
   rw[if_pos o];unfold nilV at h;split at h
   .rename_i j
    simp only[qi,vL,decide_eq_true_eq]at j;refine⟨j.1,j.2,?_⟩;split at h
    .rename_i e;cases h;rw[e];exact g
    .rename_i e;cases h;rw[e];exact g
    .cases h
   .cases h
  .rename_i o
   rw[if_neg o];exact⟨v,h,g⟩
 |unOp op t x=>exact⟨v,h,g⟩
 |convert src d x =>
  simp only[yT]at h;split at h
  .rename_i j;exact⟨j,v,h,g⟩
  .cases h
 |makeInterface t x =>
  simp only[yT]at h;split at h
  .rename_i j;cases h;exact⟨j,g⟩
  .cases h
 |makeFunc f first p=>simp only[yT,qj]at h;subst h;exact g
 |slice t x T U mx =>
  simp only[yT]at h;split at h
  .rename_i j;exact⟨nN j,v,h,g⟩
  .cases h
 |fieldAddr s x f=>exact⟨v,h,g⟩
 |field t x f=>exact⟨v,h,g⟩
 |indexAddr t x i=>exact⟨v,h,g⟩
 |index t x i=>exact⟨v,h,g⟩
 |extract t i=>exact⟨v,h,g⟩
 |typeAssert x a t ok=>exact⟨v,h,g⟩
 |lookup t m k ok=>exact⟨v,h,g⟩
 |entry i=>exact⟨v,h,g⟩
 |call c =>
  simp only[yT]at h;simp only[qt];split at h
  .rename_i b I
   rw[I];cases b<;>first | (cases h;done)|exact⟨v,h,g⟩
  .cases h
 |_=>cases h
def appJ(P:qf)(mu:Mu)(g:Array j1)(s x:AV):Option (AV×Mu):=
 match g with
 | ⟨[t,p]⟩=>match qy P t,qE mu x with
  |some (e,j,C),some l=>match qv P e with
   |some o=>if (qy P p).isSome&&(decide (o.cells.length=j)&&(o.cells.all AV.one&&(!decide (j=0)&&(Nat.ble C 16384&&l.all fun r=>decide (r.length=j)&&r.all AV.one)))) then
     match s with
     | .lst true J=>if (J.all fun r=>decide (r.length=j)&&r.all AV.one)&&Nat.ble (J.length+l.length) 4294967296 then
       (match l with | []=>some (s,mu)|_ :: _=>some (.sl mu.length j 0 (J.length+l.length),mu++[.arr (J++l).flatten])) else none
     | .sl b i 0 len=>match mu[b]? with
      |some (.arr cells)=>if decide (i=j)&&(Nat.ble (len*j) cells.length&&Nat.ble (len+l.length) 4294967296) then
        some (.sl mu.length j 0 (len+l.length),mu.set b .dead++[.arr (cells.take (len*j)++l.flatten)]) else none
      |_=>none
     |_=>none
    else none
   |none=>none
  |_,_=>none
 |_=>none
def appZ(P:qf)(mu:Mu)(g:Array j1)(s x:AV):Option (AV×Mu):=
 match g,s,x with
 | ⟨[t,o]⟩,.lst true J,.sc (.int .i64 (.ofNat n))=>match qy P t,P.underlying o with
  |some (e,j,p),some (.int .i64)=>match qv P e with
   |some l=>if decide (l.cells.length=j)&&(l.cells.all AV.one&&(!decide (j=0)&&(Nat.ble p 16384&&(Nat.ble 1 n&&((J.all fun r=>decide (r.length=j)&&r.all AV.one)&&Nat.ble (J.length+n) 4294967296))))) then
     some (.sl mu.length j 0 (J.length+n),mu++[.arr (J.flatten++(qm (n*j)).map fun i=>l.cells.getD (i % j) .any)]) else none
   |none=>none
  |_,_=>none
 |_,_,_=>none
theorem wfB{sz:Nat}(h:(ys.all fun r=>decide (r.length=sz)&&r.all AV.one)=true):za sz ys:=fun r g=>by
 grind
theorem nO{g:Array j1}{s x v:AV}(h:appZ P mu g s x=some (v,m)){K:AV->Mu->Prop}(l:K v m):qI P mu g s x K:=by
 unfold appZ at h;split at h
 .rename_i t o J n
  split at h
  .rename_i e j p r C
   split at h
   .rename_i I R
    split at h
    .rename_i i
     simp only[qi,decide_eq_true_eq,Bool.not_eq_true',decide_eq_false_iff_not]at i;obtain⟨c1,c2,c3,c4,c5,c6,c7⟩:=i;cases h;exact .inr (.inr ⟨t,o,e,j,p,I,n,J,rfl,r,C,R,c1,c2,c3,zG c4,rfl,zG c5,rfl,wfB c6,zG c7,l⟩)
    .cases h
   .cases h
  .cases h
 .cases h
theorem nP{i:Array j1}{s x v:AV}(h:appJ P mu i s x=some (v,m)){K:AV->Mu->Prop}(p:K v m):qI P mu i s x K:=by
 unfold appJ at h;split at h
 rotate_left
 .cases h
 rename_i t C;split at h
 rotate_left
 .cases h
 rename_i e j I l R T;split at h
 rotate_left
 .cases h
 rename_i U h3;split at h
 rotate_left
 .cases h
 rename_i r;simp only[qi,decide_eq_true_eq,Bool.not_eq_true',decide_eq_false_iff_not]at r;obtain⟨c1,c2,c3,c4,c5,c6⟩:=r;have c6:=wfB c6;refine .inl ⟨t,C,e,j,I,l,rfl,R,c1,⟨U,h3,c2,c3⟩,c4,zG c5,T,c6,?_⟩;split at h
 .rename_i J
  split at h
  .rename_i g
   rw[qi]at g;refine .inl ⟨J,rfl,wfB g.1,zG g.2,fun e=>?_,fun e=>?_⟩
   .subst e;cases h;exact p
   grind
  .cases h
 .rename_i b a0 len
  split at h
  .rename_i cells o
   split at h
   .rename_i g
    simp only[qi,decide_eq_true_eq]at g;obtain⟨rfl,d2,d3⟩:=g;cases h;exact .inr ⟨b,len,cells,rfl,o,zG d2,zG d3,p⟩
   .cases h
  .cases h
 .cases h
abbrev yU:=AV->List AV->Mu->Option (AV×Mu)
def jZ(P:qf)(det:Bool)(C:yU):Prop:=∀ f args I v m,C f args I=some (v,m)->∀ K g:AV->Mu->Prop,K v m->qc P det I f args K g
def Vc(mu:Mu)(g:AV):Option (AV×Mu):=
 match g with
 | .ptr b 0=>match mu[b]? with
  |some (.it j seen)=>match (qm j.length).filter (fun i=>!seen.contains i) with
   | []=>some (.tup [.sc (.bool false)],mu)
   | [i]=>match j[i]? with
    |some e=>some (.tup [.sc (.bool true),e.1,e.2],mu.set b (.it j (seen++[i])))
    |none=>none
   |_=>none
  |_=>none
 |_=>none
theorem nQ{g v:AV}(h:Vc mu g=some (v,m)){K:AV->Mu->Prop}(o:K v m):JD mu g K:=by
 unfold Vc at h;split at h
 .rename_i b
  split at h
  .rename_i j seen l
   have p:∀ i,i∈(qm j.length).filter (fun i=>!seen.contains i)↔i<j.length/\i ∉ seen:=fun i=>zSp
   refine⟨b,j,seen,rfl,l,?_⟩;split at h
   .grind
   .grind
   .cases h
  .cases h
 .cases h
def Vd(P:qf)(mu:Mu)(g:Array j1)(args:List AV):Option (AV×Mu):=
 match g,args with
 | ⟨[t,o]⟩,[.sl b i off len,x]=>match qy P t,mu[b]?,qE mu x with
  |some (e,j,p),some (.arr cells),some l=>if Nat.ble (off+len*j) cells.length&&l.all (fun r=>decide (r.length=j)&&r.all AV.one) then
    some (.sc (.int .i64 ((min l.length len:Nat):Int)),mu.set b (.arr (qH cells off (l.take len).flatten))) else none
  |_,_,_=>none
 |_,_=>none
theorem nR{g:Array j1}{args:List AV}{v:AV}(h:Vd P mu g args=some (v,m)){K:AV->Mu->Prop}(o:K v m):Qe P mu .copy g args K:=by
 unfold Vd at h;split at h
 .rename_i t J b p off len x
  split at h
  .rename_i e j R cells l r C I
   split at h
   .rename_i i
    rw[qi]at i;cases h;exact⟨_,_,.copy r C (zG i.1) I (wfB i.2),o⟩
   .cases h
  .cases h
 .cases h
def j0(P:qf)(pl:Pol)(j:Bool)(C:yU)(g:Option Tmp)(op:Op)(ev:uk->AV)(mu:Mu):Option (AV×Mu):=
 match op with
 | .next i str=>if j||str then none else Vc mu (ev i)
 | .alloc e=>match qv P e with
  |some z=>if z.cells.all AV.one then some (.ptr mu.length 0,mu++[.arr z.cells]) else none
  |none=>none
 | .box _ x=>if (ev x).cells.all AV.one&&g.any pl.mt.contains then some (.ptr mu.length 0,mu++[.arr (ev x).cells]) else none
 | .store t a x=>(wP P mu t (ev a) (ev x)).map fun m=>(.sc vd,m)
 | .makeSlice t l c=>uT P mu t (ev l) (ev c)
 | .makeMap _ r=>match r with
  |none=>some (.mp mu.length,mu++[.mp []])
  |some _=>none
 | .mapUpdate t m k v=>(uh P mu t (ev m) (ev k) (ev v)).map fun m=>(.sc vd,m)
 | .insert t m k v=>(uh P mu t (ev m) (ev k) (ev v)).map fun m=>(.sc vd,m)
 | .mapEntry t m k=>ui P mu t (ev m) (ev k)
 | .entryStore _ m s v=>(ZD mu (ev m) (ev s) (ev v)).map fun m=>(.sc vd,m)
 | .range t m=>ZE P mu t (ev m)
 | .call c=>match c.callee with
  | .value f=>C (ev f) (evs ev c.args.toList) mu
  | .builtin b=>match b with
   | .append=>match evs ev c.args.toList with
    | [s,x]=>match appJ P mu c.argTypes s x with
     |some r=>some r
     |none=>appZ P mu c.argTypes s x
    |_=>none
   | .copy=>Vd P mu c.argTypes (evs ev c.args.toList)
   |_=>none
  |_=>none
 |_=>none
theorem ZX{o:Option Mu}{v:AV}(h:(o.map fun m=>(AV.sc vd,m))=some (v,m)):o=some m/\v = .sc vd:=by
 simp_all
theorem nT{det:Bool}{C:yU}(I:jZ P det C){p:Option Tmp}{op:Op}{ev:uk->AV}{mu m:Mu}{v:AV}(h:j0 P pl det C p op ev mu=some (v,m)):Stps P pl det p op ev mu v m:=by
 intro K J g;cases op with
 |alloc e =>
  simp only[j0]at h;split at h
  .rename_i z R
   split at h
   .rename_i j;cases h;exact⟨z,R,j,g⟩
   .cases h
  .cases h
 |box e x =>
  simp only[j0]at h;split at h
  .rename_i j
   rw[qi]at j;cases h;exact⟨j.1,by rw[if_pos j.2];exact g⟩
  .cases h
 |store t a x =>
  simp only[j0]at h;obtain⟨o,rfl⟩:=ZX h;exact⟨m,o,g⟩
 |makeSlice t l c=>exact⟨(v,m),h,g⟩
 |makeMap t r =>
  cases r with
  |none=>cases h;exact⟨rfl,g⟩
  |some r=>cases h
 |mapUpdate t a k w =>
  simp only[j0]at h;obtain⟨o,rfl⟩:=ZX h;exact⟨m,o,g⟩
 |insert t a k w =>
  simp only[j0]at h;obtain⟨o,rfl⟩:=ZX h;exact⟨m,o,g⟩
 |mapEntry t a k=>exact⟨(v,m),h,g⟩
 |entryStore t a s w =>
  simp only[j0]at h;obtain⟨o,rfl⟩:=ZX h;exact⟨m,o,g⟩
 |range t a=>exact⟨(v,m),h,g⟩
 |call c =>
  simp only[j0]at h;simp only[qt];split at h
  .rename_i f hf
   rw[hf];exact I _ _ _ _ _ h K J g
  .grind [nP,nO,nR]
  .cases h
 |next i str =>
  simp only[j0]at h;split at h
  .cases h
  .rename_i j
   simp only[vL,not_or,Bool.not_eq_true]at j;exact⟨j.1,j.2,nQ h g⟩
 |_=>cases h
def ZY(P:qf)(pl:Pol)(j:Bool)(C:yU)(g:Option Tmp)(op:Op)(ev:uk->AV)(mu:Mu)(k:AV->Mu->Option i):Option i:=
 match yT P pl g op ev mu with
 |some v=>fV v fun v=>k v mu
 |none=>match j0 P pl j C g op ev mu with
  |some (v,m)=>fV v fun v=>fM m fun m=>k v m
  |none=>none
theorem Xa{det:Bool}{C:yU}(j:jZ P det C){g:Option Tmp}{op:Op}{ev:uk->AV}{mu:Mu}{k:AV->Mu->Option i}{r:i}(h:ZY P pl det C g op ev mu k=some r) :
  ∃ v m,Stps P pl det g op ev mu v m/\k v m=some r:=by
 grind [ZY,fV_eq,W9,Va,nT]
def Ql(ops:Array wx)(i:List AV)(o:wx):Option Bool:=
 match o.guard with
 |none=>some true
 |some (j,g)=>match (ops[j]?).bind (·.dst) with
  |none=>some false
  |some d=>ul (nthJ i d) g
theorem Ve(ops:Array wx)(s:LS)(o:wx):zp ops s.st o=Ql ops s.tm o:=by
 unfold zp Ql;cases o.guard with
 |none=>rfl
 |some q =>
  obtain⟨j,w⟩:=q;simp only;cases (ops[j]?).bind (·.dst) with
  |none=>rfl
  |some d=>simp only[ZV];rfl
def regJ(P:qf)(pl:Pol)(i:Bool)(C:yU)(ops:Array wx):List wx->List AV->Mu->Option LS
 | [],g,I=>some ⟨g,I⟩
 |o :: l,g,I=>match Ql ops g o with
  |some true=>ZY P pl i C o.dst o.op (evJ g) I fun v m=>putJ g o.dst v fun g=>regJ P pl i C ops l g m
  |some false=>putJ g o.dst (.sc vd) fun g=>regJ P pl i C ops l g I
  |none=>none
theorem ZZ{det:Bool}{C:yU}(i:jZ P det C){ops:Array wx}{Q:St->Prop}{t:AV->St->Prop}:∀{l:List wx} {s s':LS},regJ P pl det C ops l s.tm s.mu=some s'->Q s'.st->awpS P pl det ops l Q t s.st
 | [],s,s',h,g=>by
  cases h;exact g
 |o :: l,s,s',h,g=>by
  unfold regJ at h;unfold awpS;rw[Ve];split at h
  .rename_i j
   obtain⟨v,m,I,J⟩:=Xa i h;refine⟨true,j,fun _=>?_,fun e=>by cases e⟩;rw[u6];refine I _ _ ?_;obtain⟨R,p,_,r⟩:=ZW (m:=m) J;rw[r];exact ZZ i p g
  .rename_i j
   refine⟨false,j,fun e=>by(cases e),fun _=>?_⟩;obtain⟨R,p,_,r⟩:=ZW (m:=s.mu) h;have:s.st.mu=s.mu:=rfl;rw[this,r];exact ZZ i p g
  .cases h
def eqSc:j3->j3->Bool
 | .bool a,.bool b=>a == b
 | .int k a,.int g b=>decide (k=g)&&decide (a=b)
 | .string a,.string b=>decide (a=b)
 | .pointer none,.pointer none=>true
 | .nilIface,.nilIface=>true
 | .nilFunc,.nilFunc=>true
 | .map none,.map none=>true
 |_,_=>false
theorem nU{a b:j3}(h:eqSc a b=true):a=b:=by
 unfold eqSc at h;split at h
 .rw [beq_iff_eq]at h;rw[h]
 .grind
 .rw [decide_eq_true_eq]at h;rw[h]
 all_goals first|rfl|cases h
def eqLi(e:C->C->Bool):List C->List C->Bool
 | [],[]=>true
 |a :: l,b :: m=>e a b&&eqLi e l m
 |_,_=>false
theorem vu{e:C->C->Bool}(g:∀ a b,e a b=true->a=b):∀{l m:List C},eqLi e l m=true->l=m
 | [],[],_=>rfl
 |a :: l,b :: m,h=>by
  rw[eqLi,qi]at h;rw[g _ _ h.1,vu g h.2]
 | [],_ :: _,h=>by cases h
 |_ :: _,[],h=>by cases h
def eqV:Nat->AV->AV->Bool
 | 0,_,_=>false
 |n+1,x,y=>match x,y with
  | .sc a,.sc b=>eqSc a b
  | .sl a b c d,.sl g i j o=>decide (a=g)&&(decide (b=i)&&(decide (c=j)&&decide (d=o)))
  | .ptr a b,.ptr g i=>decide (a=g)&&decide (b=i)
  | .mp a,.mp b=>decide (a=b)
  | .lst f J,.lst r l=>f == r&&eqLi (eqLi (eqV n)) J l
  | .agg a,.agg b=>eqLi (eqV n) a b
  | .tup a,.tup b=>eqLi (eqV n) a b
  | .ip a,.ip b=>eqLi (eqV n) a b
  | .im a,.im b=>eqLi (fun p q=>eqV n p.1 q.1&&eqV n p.2 q.2) a b
  |_,_=>false
theorem u7:∀{n:Nat} {x y:AV},eqV n x y=true->x=y
 | 0,_,_,h=>by cases h
 |n+1,x,y,h=>by
  have g:∀ a b,eqV n a b=true->a=b:=fun a b h=>u7 h
  unfold eqV at h;split at h
  .rw [nU h]
  .grind
  .grind
  .rw [decide_eq_true_eq]at h;rw[h]
  .rw [qi,beq_iff_eq]at h;grind [vu]
  .rw [vu g h]
  .rw [vu g h]
  .rw [vu g h]
  .rw [vu (fun p q h=>by grind) h]
  .cases h
def allJ(p:C->Bool):List C->Bool
 | []=>true
 |a :: l=>p a&&allJ p l
theorem jl{p:C->Bool}:∀{l:List C},allJ p l=true->∀ a,a∈l->p a=true
 | [],_,a,g=>by cases g
 |b :: l,h,a,g=>by
  rw[allJ,qi]at h;rcases qp.1 g with rfl|g
  .exact h.1
  .exact jl h.2 a g
def hfB:Nat->AV->Bool
 | 0,_=>false
 |n+1,x=>match x with
  | .any | .sc _=>true
  | .lst _ J=>allJ (allJ (hfB n)) J
  | .agg g | .tup g | .ip g=>allJ (hfB n) g
  | .im i=>allJ (fun p=>hfB n p.1&&hfB n p.2) i
  | .fn _ a b=>allJ (hfB n) a&&allJ (hfB n) b
  | .ifc _ v=>hfB n v
  |_=>false
theorem jm:∀{n:Nat} {x:AV},hfB n x=true->HF x
 | 0,_,h=>by cases h
 |n+1,x,h=>by
  have g:∀ l:List AV,allJ (hfB n) l=true->∀ c,c∈l->HF c:=fun l h c i=>jm (jl h c i)
  unfold hfB at h;split at h
  .exact HF.any
  .exact HF.sc _
  .grind [HF.lst,jl]
  .exact HF.agg (g _ h)
  .exact HF.tup (g _ h)
  .exact HF.ip (g _ h)
  .exact HF.im fun p j=>by
    have:=jl h p j;rw[qi]at this;exact⟨jm this.1,jm this.2⟩
  .rw [qi]at h
   exact HF.fn (g _ h.1) (g _ h.2)
  .exact HF.ifc (jm h)
  .cases h
def flB:Nat->AV->Bool
 | 0,_=>false
 |n+1,x=>match x with
  | .sc _=>true
  | .agg g | .tup g=>allJ (flB n) g
  | .ifc _ v=>flB n v
  |_=>false
theorem Vf:∀{n:Nat} {x:AV},flB n x=true->FL x
 | 0,_,h=>by cases h
 |n+1,x,h=>by
  have g:∀ l:List AV,allJ (flB n) l=true->∀ c,c∈l->FL c:=fun l h c i=>Vf (jl h c i)
  unfold flB at h;split at h
  .exact FL.sc _
  .exact FL.agg (g _ h)
  .exact FL.tup (g _ h)
  .exact FL.ifc (Vf h)
  .cases h
def mapJ(f:C->Option g):List C->Option (List g)
 | []=>some []
 |a :: l=>match f a with
  |some b=>match mapJ f l with
   |some m=>some (b :: m)
   |none=>none
  |none=>none
theorem ur{f:C->Option g}:∀{l:List C} {m:List g},mapJ f l=some m->m.length=l.length/\∀(k:Nat) x y,l[k]?=some x->m[k]?=some y->f x=some y
 | [],m,h=>by cases h;grind
 |a :: l,m,h=>by
  unfold mapJ at h;split at h
  .rename_i b j
   split at h
   .rename_i o i
    cases h;obtain⟨p,r⟩:=ur i
    grind
   .cases h
  .cases h
theorem Vg{f:AV->Option AV}{xs:List (List AV)}(h:mapJ (mapJ f) xs=some ys):(∀(k:Nat) x y,xs[k]?=some x->ys[k]?=some y->x.length=y.length)/\∀(k:Nat) x y,xs.flatten[k]?=some x->ys.flatten[k]?=some y->f x=some y:=by
 induction xs generalizing ys with
 |nil=>grind
 |cons a l g =>
  unfold mapJ at h;split at h
  .rename_i b i
   split at h
   .rename_i m j
    cases h;obtain⟨o,p⟩:=g j;obtain⟨g1,r⟩:=ur i
    grind
   .cases h
  .cases h
def j5(sz:Nat):Nat->List AV->List (List AV)
 | 0,_=>[]
 |n+1,l=>l.take sz :: j5 sz n (l.drop sz)
theorem Xb(sz:Nat):∀(n:Nat) (l:List AV),n*sz<=l.length->(j5 sz n l).length=n/\(∀ r,r∈j5 sz n l->r.length=sz)/\(j5 sz n l).flatten=l.take (n*sz)
 | 0,l,_=>⟨rfl,(fun r g=>by cases g),by simp[j5]⟩
 |n+1,l,h=>by
  have e:(n+1)*sz=sz+n*sz:=by rw[Nat.succ_mul,Nat.add_comm]
  rw[e]at h⊢;obtain⟨i,j,o⟩:=Xb sz n (l.drop sz) zSo;refine⟨by simp[j5,i],fun r g=>?_,?_⟩
  .rcases qp.1 g with rfl|g
   .simp;omega
   .exact j r g
  grind [j5,uc]
def rdV(mu:Mu):Nat->AV->Option AV
 | 0,_=>none
 |n+1,x=>if hfB 64 x then some x else match x with
  | .sl b j off len=>match mu[b]? with
   |some (.arr cells)=>if Nat.ble (off+len*j) cells.length then (mapJ (mapJ (rdV mu n)) (j5 j len (cells.drop off))).map (.lst false) else none
   |_=>none
  | .ptr b off=>match mu[b]? with
   |some (.arr cells)=>if Nat.ble off cells.length then (mapJ (rdV mu n) (cells.drop off)).map .ip else none
   |_=>none
  | .agg g=>(mapJ (rdV mu n) g).map .agg
  | .tup g=>(mapJ (rdV mu n) g).map .tup
  | .lst f J=>(mapJ (mapJ (rdV mu n)) J).map (.lst f)
  | .fn f a c=>match mapJ (rdV mu n) a,mapJ (rdV mu n) c with
   |some a,some c=>some (.fn f a c)
   |_,_=>none
  | .mp b=>match mu[b]? with
   |some (.mp i)=>(mapJ (fun p=>match rdV mu n p.1,rdV mu n p.2 with|some x,some y=>some (x,y)|_,_=>none) i).map .im
   |_=>none
  | .ifc t v=>(rdV mu n v).map (.ifc t)
  |_=>none
theorem Vh:∀{n:Nat} {x y:AV},rdV mu n x=some y->Rd mu x y
 | 0,_,_,h=>by cases h
 |n+1,x,y,h=>by
  have T:∀ a b,rdV mu n a=some b->Rd mu a b:=fun a b h=>Vh h
  have t:∀{l m:List AV},mapJ (rdV mu n) l=some m->m.length=l.length/\∀(k:Nat) x y,l[k]?=some x->m[k]?=some y->Rd mu x y:=fun h=>⟨(ur h).1,fun k x y p o=>T _ _ ((ur h).2 k x y p o)⟩
  unfold rdV at h;by_cases U:hfB 64 x=true
  .rw [if_pos U]at h
   cases h;exact .hf _ (jm U)
  rw[if_neg U]at h;clear U;split at h
  .rename_i b j off len
   split at h
   .rename_i cells I
    split at h
    .rename_i R
     have R:=zG R;rw[zW]at h;obtain⟨C,o,rfl⟩:=h;obtain⟨c1,c2,c3⟩:=Xb j len (cells.drop off) zSo;obtain⟨r1,r2⟩:=Vg o;have P:=(ur o).1;refine .sl b j off len cells C I R (by rw[P,c1]) (fun r hr=>?_) fun k x y p g=>?_
     .obtain ⟨k,hk,rfl⟩:=zX hr
      have a0:k<(j5 j len (cells.drop off)).length:=zOm;have:=r1 k _ _ (qq a0) (qq hk)
      grind
     .refine T _ _ (r2 k x y ?_ g)
      have a1:=Wd (xs:=j5 j len (cells.drop off)) (ys:=C) P r1
      grind
    .cases h
   .cases h
  .rename_i b off
   split at h
   .rename_i cells I
    split at h
    .rename_i R
     have R:=zG R;rw[zW]at h;obtain⟨C,o,rfl⟩:=h;obtain⟨h1,h2⟩:=t o;refine .ptr b off cells C I (by simp at h1;omega) fun k x y p g=>h2 k x y (by rw[js];exact p) g
    .cases h
   .cases h
  .rw [zW]at h
   obtain⟨C,o,rfl⟩:=h;exact .agg _ _ (t o).1 (t o).2
  .rw [zW]at h
   obtain⟨C,o,rfl⟩:=h;exact .tup _ _ (t o).1 (t o).2
  .rw [zW]at h
   obtain⟨C,o,rfl⟩:=h;exact .lst _ _ _ (ur o).1 (Vg o).1 fun k x y p g=>T _ _ ((Vg o).2 k x y p g)
  .split at h
   .rename_i a c ha I
    cases h;exact .fn _ _ _ _ _ (t ha).1 (t I).1 (t ha).2 (t I).2
   .cases h
  .split at h
   .rename_i i I
    rw[zW]at h;obtain⟨fs,o,rfl⟩:=h;obtain⟨h1,h2⟩:=ur o;have h3:∀(k:Nat) x y,i[k]?=some x->fs[k]?=some y->Rd mu x.1 y.1/\Rd mu x.2 y.2:=fun k x y p g=>by
     grind
    exact .mp _ i fs I h1 (fun k x y p g=>(h3 k x y p g).1) fun k x y p g=>(h3 k x y p g).2
   .cases h
  .rw [zW]at h
   obtain⟨C,o,rfl⟩:=h;exact .ifc _ _ _ (T _ _ o)
  .cases h
abbrev FunJ:=us->List AV->Mu->Option (AV×Mu)
variable {F:FunJ}
def Qm(P:qf)(F:FunJ):Prop:=∀ f args I v m,F f args I=some (v,m)->qK P f args I fun e p=>e = .ret v/\p=m
def seqC(F:FunJ):yU:=fun f args I=>match f with
 | .fn (.func g) first i=>F g (first++args++i) I
 |_=>none
theorem nW{l:List AV}(h:allJ (hfB 64) l=true):WKs l l:=by
 induction l with
 |nil=>trivial
 |cons a l g =>
  rw[allJ,qi]at h;exact⟨.hf (jm h.1),g h.2⟩
theorem nX(j:Qm P F):jZ P false (seqC F):=by
 intro f args I v m h K o t;unfold seqC at h;split at h
 .rename_i g first i
  refine .inr ⟨rfl,.inl ⟨g,first,i,_,rfl,j _ _ _ _ _ h,fun r p l=>?_,fun r p l=>?_⟩⟩
  .grind
  grind
 .cases h
def detC(F:FunJ):yU:=fun f args I=>match f with
 | .fn (.func g) first i=>if allJ (hfB 64) (first++args++i) then
   match F g (first++args++i) [] with
   |some (v,m)=>match rdV m 64 v with
    |some w=>some (w,I)
    |none=>none
   |none=>none
  else match mapJ (rdV I 64) (first++args++i) with
   |some l=>match F g l [] with
    |some (v,m)=>match rdV m 64 v with
     |some w=>if flB 64 w then some (w,I) else none
     |none=>none
    |none=>none
   |none=>none
 |_=>none
theorem Xc:∀{l m:List AV},mapJ (rdV mu 64) l=some m->Rds mu l m
 | [],m,h=>by cases h;trivial
 |a :: l,m,h=>by
  unfold mapJ at h;split at h
  .rename_i b g
   split at h
   .rename_i j i
    cases h;exact⟨Vh g,Xc i⟩
   .cases h
  .cases h
theorem sndP(g:Qm P F){f:us}{args:List AV}{v w:AV}{m:Mu}(h:F f args []=some (v,m))(C:rdV m 64 v=some w):qd P f args w:=by
 refine qd.of_sound ?_;obtain⟨i,j⟩:=g _ _ _ _ _ h;refine⟨i,fun G l o s r=>(j G l o s r).mono fun e I ⟨t,p,st,J⟩=>⟨t,p,st,?_⟩⟩
 grind [Vh]
theorem nY(p:Qm P F):jZ P true (detC F):=by
 intro f args I v m h K T r;unfold detC at h;split at h
 .rename_i g first i
  split at h
  .rename_i t
   split at h
   .rename_i C J j
    split at h
    .rename_i w o
     cases h;exact .inl ⟨_,.inl ⟨g,first,i,_,rfl,sndP p j o,.inl (nW t)⟩,r⟩
    .cases h
   .cases h
  .split at h
   .rename_i l R
    split at h
    .rename_i C J j
     split at h
     .rename_i w o
      split at h
      .rename_i hf
       cases h;exact .inl ⟨_,.inl ⟨g,first,i,_,rfl,sndP p j o,.inr ⟨Xc R,Vf hf⟩⟩,r⟩
      .cases h
     .cases h
    .cases h
   .cases h
 .cases h
def noC:yU:=fun _ _ _=>none
theorem nZ{det:Bool}:jZ P det noC:=fun _ _ _ _ _ h=>by cases h
def Z0(P:qf)(pl:Pol)(ops:Array wx)(g:List AV)(mu:Mu):List Nat->Bool
 | []=>true
 |p :: l=>(match ops[p]? with
  |some o=>match Ql ops g o with
   |some true=>match o.dst with
    |some d=>match yT P pl o.dst o.op (evJ g) mu with
     |some v=>eqV 64 v (nthJ g d)
     |none=>false
    |none=>false
   |some false=>true
   |none=>false
  |none=>true)&&Z0 P pl ops g mu l
theorem Xd{s:LS}:∀{l:List Nat},Z0 P pl ops s.tm s.mu l=true->jk P pl ops l s.st
 | [],_=>trivial
 |p :: l,h=>by
  unfold Z0 at h;rw[qi]at h;refine⟨?_,Xd h.2⟩;have g:=h.1;split at g
  .rename_i o j
   rw[j];simp only;rw[Ve];split at g
   .rename_i i
    refine⟨true,i,fun _=>?_,fun e=>by cases e⟩;split at g
    .rename_i d r
     split at g
     .rename_i v t
      show uo P pl o s.st;unfold uo;rw[u6];refine W9 t _ _ ?_;rw[r];refine⟨?_,rfl⟩;rw[u7 g,ZV];rfl
     .cases g
    .cases g
   .rename_i i
    exact⟨false,i,fun e=>by(cases e),fun _=>trivial⟩
   .cases g
  grind
def newJ(P:qf)(ops:Array wx):List (Nat×Nat×List Nat)->Bool
 | []=>true
 | (j,k,_) :: T=>(match k,ops[j]? with
  | 2,some o=>(match o.op with
   | .alloc e=>match qv P e with
    |some z=>z.cells.all AV.one
    |none=>false
   |_=>false)
  |_,_=>true)&&newJ P ops T
theorem Xe:∀{T:List (Nat×Nat×List Nat)},newJ P ops T=true->jX P ops T
 | [],_=>trivial
 | (j,k,r) :: T,h=>by
  unfold newJ at h;rw[qi]at h;refine⟨?_,Xe h.2⟩;have g:=h.1;by_cases l:k=2
  .subst l
   cases p:ops[j]? with
   |none=>trivial
   |some o =>
    rw[p]at g;simp only at g⊢;cases i:o.op<;>rw[i]at g<;>simp only at g⊢<;>try (cases g;done)
    split at g
    .rename_i z t;exact⟨z,t,g⟩
    .cases g
  grind
def segJ(P:qf)(pl:Pol)(C:yU)(ops:Array wx):List (Nat×Nat×List Nat)->List AV->Mu->Option LS
 | [],g,I=>some ⟨g,I⟩
 | (j,k,r) :: T,g,I=>match ops[j]? with
  |none=>none
  |some o=>match Ql ops g o with
   |some true=>ZY P pl (k != 1) (if k=1 then C else noC) o.dst o.op (evJ g) I fun v m=>putJ g o.dst v fun g=>if Z0 P pl ops g m r then segJ P pl C ops T g m else none
   |some false=>putJ g o.dst (.sc vd) fun g=>segJ P pl C ops T g I
   |none=>none
theorem Vi{C:yU}(l:jZ P false C){ops:Array wx}{Q:St->Prop}{J:AV->St->Prop}:∀{T:List (Nat×Nat×List Nat)} {s s':LS},segJ P pl C ops T s.tm s.mu=some s'->Q s'.st->awpT P pl ops Q J T s.st
 | [],s,s',h,i=>by cases h;exact i
 | (j,k,r) :: T,s,s',h,i=>by
  unfold segJ at h;unfold awpT;split at h
  .cases h
  .rename_i o R
   rw[R];simp only;have U:jZ P (k != 1) (if k=1 then C else noC):=by
    by_cases e:k=1
    .subst e;exact l
    .rw [if_neg e];exact nZ
   rw[Ve];split at h
   .rename_i p
    obtain⟨v,m,h1,h2⟩:=Xa U h;refine⟨true,p,fun _=>?_,fun e=>by cases e⟩;rw[u6];refine h1 _ _ ?_;obtain⟨I,g,_,t⟩:=ZW (m:=m) h2;rw[t];split at g
    .rename_i hr
     exact⟨Xd (s:=⟨I,m⟩) hr,Vi l g i⟩
    .cases g
   .rename_i p
    refine⟨false,p,fun e=>by(cases e),fun _=>?_⟩;obtain⟨I,g,_,t⟩:=ZW (m:=s.mu) h;have:s.st.mu=s.mu:=rfl;rw[this,t];exact Vi l g i
   .cases h
def uu(pl:Pol)(ops:Array wx):Nat->List Nat->List Nat
 | 0,pre=>pre
 |f+1,pre =>
  let g:=(qm ops.size).filter fun i=>!pre.contains i
  let l (j:Nat):Bool:=(qm ops.size).all fun i=>match zf ops i with|some d=>!yc ops j d||pre.contains i|none=>true
  let o (j:Nat):Bool:=pre.all fun i=>qQ pl ops i == 0||(zx ops j).testBit i
  match g.find? fun j=>qQ pl ops j == 0&&(l j&&o j) with
  |some j=>uu pl ops f (pre++[j])
  |none=>match g.find? fun j=>qQ pl ops j == 1&&(l j&&o j) with
   |some j=>if (g.filter fun k=>qQ pl ops k == 2&&(zx ops j).testBit k).isEmpty then uu pl ops f (pre++[j]) else
    match g.find? fun k=>qQ pl ops k == 2&&(zx ops j).testBit k with
    |some k=>uu pl ops f (pre++[k])
    |none=>pre
   |none=>match g.find? fun j=>qQ pl ops j == 2 with
    |some j=>uu pl ops f (pre++[j])
    |none=>pre
def Vj(P:qf)(pl:Pol)(C D:yU)(ops:Array wx)(g:List AV)(mu:Mu):Option LS:=
 match (if uZ pl ops then regJ P pl true D ops ops.toList g mu else none) with
 |some s=>some s
 |none=>if Qg pl ops (uu pl ops (ops.size+1) [])&&newJ P ops (plan pl ops [] (uu pl ops (ops.size+1) [])) then segJ P pl C ops (plan pl ops [] (uu pl ops (ops.size+1) [])) g mu else none
theorem n4{C D:yU}(l:jZ P false C)(o:jZ P true D){ops:Array wx}{Q:St->Prop}{p:AV->St->Prop}{s s':LS}(h:Vj P pl C D ops s.tm s.mu=some s')(j:Q s'.st):ZR P pl ops Q p s.st:=by
 unfold Vj at h;split at h
 .rename_i s1 i
  cases h;split at i
  .rename_i g
   exact .inl (.inl ⟨g,ZZ o i j⟩)
  .cases i
 .split at h
  .rename_i g
   rw[qi]at g;exact .inr ⟨_,g.1,Xe g.2,Vi l h j⟩
  .cases h
abbrev yz:=FunJ->List AV->Mu->Option (AV×Mu)
structure EnvJ where
 S:us->Option yz
 N:us->List AV->Bool
 pol:us->List Nat
 cal:us->Bool
def yK(P:qf)(f:us)(h:yz):Prop:=∀ F,Qm P F->∀ args I v m,h F args I=some (v,m)->qK P f args I fun e p=>e = .ret v/\p=m
def uw(P:qf)(E:EnvJ):Prop:=(∀ f h,E.S f=some h->yK P f h)/\(∀ f,E.cal f=true->zO P f)/\∀ f g,E.N f g=true->J4 P f g []
def nV:Nat->AV->AV
 | 0,x=>x
 |n+1,x=>match x with
  | .lst _ J => .lst false (J.map (List.map (nV n)))
  | .agg g => .agg (g.map (nV n))
  | .tup g => .tup (g.map (nV n))
  | .ip g => .ip (g.map (nV n))
  |x=>x
theorem Vk:∀(m k:Nat) (x:AV),hfB k x=true->WK x (nV m x)
 | 0,k,x,h => .hf (jm h)
 |m+1,0,x,h=>by cases h
 |m+1,k+1,x,h=>by
  have ih:∀ c,hfB k c=true->WK c (nV m c):=fun c l=>Vk m k c l
  have hx:=jm h;have key:∀(g:List AV),(∀ c,c∈g->hfB k c=true)->∀(i:Nat) y,(g.map (nV m))[i]?=some y->∃ c,g[i]?=some c/\WK c y:=fun g l i y p=>by
   grind
  unfold hfB at h;intro G P v r;unfold nV;cases x with
  |lst f J =>
   simp only at h⊢;have R:∀ c,c∈J.flatten->hfB k c=true:=fun c l=>by
    grind [Jg,jl]
   cases r with
   |nil=>exact .nil _
   |emp _ a cap l=>exact .emp false a cap zSp
   |lst _ _ j a cap g e T rd U hs hl l hi hz hr t =>
    have a0:(J.map (List.map (nV m))).flatten=J.flatten.map (nV m):=(List.map_flatten ..).symm;have:=VRel.lst (G:=⟨G.imm,[]⟩) (h:=P) false (J.map (List.map (nV m))) j a cap g e T rd U hs (zUs hl) zSp hi (fun q hq=>by
     grind) (fun i y p=>by
     grind) (fun i y p=>by
     rw[a0]at p;obtain⟨c,C,I⟩:=key _ R i y p;exact I G P _ (t i c C))
    grind
  |agg g =>
   simp only at h⊢;cases r with
   |agg _ o hn t =>
    refine .agg _ _ (zUs hn) fun i y p=>?_
    obtain⟨c,C,I⟩:=key g (fun c l=>jl h c l) i y p;exact I G P _ (t i c C)
  |tup g =>
   simp only at h⊢;cases r with
   |tup _ o hn t =>
    refine .tup _ _ (zUs hn) fun i y p=>?_
    obtain⟨c,C,I⟩:=key g (fun c l=>jl h c l) i y p;exact I G P _ (t i c C)
  |ip g =>
   simp only at h⊢;cases r with
   |ip _ a arr e T rd U hs hi hr t =>
    refine .ip _ a arr e T rd U hs hi (fun i y p=>?_) fun i y p=>?_
    .grind
    .obtain ⟨c,C,I⟩:=key g (fun c l=>jl h c l) i y p
     exact I G P _ (t i c C)
  |_=>exact hx G P v r
theorem Xf:∀{l:List AV},allJ (hfB 64) l=true->WKs l (l.map (nV 64))
 | [],_=>trivial
 |a :: l,h=>by
  rw[allJ,qi]at h;exact⟨Vk 64 64 a h.1,Xf h.2⟩
def y9(X:List AV->Option AV):yz:=fun _ args I=>if allJ (hfB 64) args then
  match X (args.map (nV 64)) with
  |some v=>some (v,I)
  |none=>none
 else none
theorem Qn{f:us}{X:List AV->Option AV}(h:∀ args v,X args=some v->qd P f args v):yK P f (y9 X):=by
 intro F l args I v m g;unfold y9 at g;split at g
 .rename_i i
  split at g
  .rename_i w j
   cases g;exact(h _ _ j).toSound I (Xf i)
  .cases g
 .cases g
def tabX:List (List AV×AV)->List AV->Option AV
 | [],_=>none
 |p :: l,args=>if eqLi (eqV 64) (p.1.map (nV 64)) args then some p.2 else tabX l args
theorem Qo{f:us}:∀{l:List (List AV×AV)},(∀ p,p∈l->qd P f (p.1.map (nV 64)) p.2)->∀ args v,tabX l args=some v->qd P f args v
 | [],_,_,_,h=>by cases h
 |p :: l,g,args,v,h=>by
  unfold tabX at h;split at h
  .grind [vu,u7,q8]
  .exact Qo (fun q i=>g q (qJ _ i)) args v h
structure RT where
 c:Pol->Code->List AV->Mu->Option (qF×LS)
 f:FunJ
def vw(P:qf)(E:EnvJ)(R:RT)(pl:Pol)(c:Code)(j:List AV)(mu:Mu):Option (qF×LS):=
 match c with
 | .skip=>some (.normal,⟨j,mu⟩)
 | .label _=>some (.normal,⟨j,mu⟩)
 | .region _ l o=>match (match o with
   |false=>regJ P pl false (seqC R.f) l l.toList j mu
   |true=>Vj P pl (seqC R.f) (detC R.f) l j mu) with
  |some s=>some (.normal,s)
  |none=>none
 | .seq a b=>match R.c pl a j mu with
  |some (.normal,s)=>R.c pl b s.tm s.mu
  |r=>r
 | .cond c a b=>match evJ j c with
  | .sc (.bool true)=>R.c pl a j mu
  | .sc (.bool false)=>R.c pl b j mu
  |_=>none
 | .block id b=>match R.c pl b j mu with
  |some (.exit i,s)=>if i=id then some (.normal,s) else some (.exit i,s)
  |r=>r
 | .loop b=>match R.c pl b j mu with
  |some (.normal,s)=>R.c pl (.loop b) s.tm s.mu
  |r=>r
 | .exit id=>some (.exit id,⟨j,mu⟩)
 | .ret=>some (.ret,⟨j,mu⟩)
 | .scope b=>R.c pl b j mu
 | .rangeFunc g _ _ _=>match evJ j g with
  | .fn (.func t) [] p=>if E.N t p then fM (mu++[.dead]) fun mu=>some (.normal,⟨j,mu⟩) else none
  |_=>none
 |_=>none
def funJ(P:qf)(E:EnvJ)(R:RT):FunJ:=fun f args I=>match E.S f with
 |some h=>h R.f args I
 |none=>match P.funcs[f]? with
  |some fn=>match fn.body with
   |some c=>if E.cal f&&(Nat.ble args.length fn.ntmps&&dOkC fn.ntmps c) then
     match R.c ⟨E.pol f⟩ c (args++zd (fn.ntmps-args.length) (.sc vd)) I with
     |some (.normal,s)=>match yJ P s.st fn.results.toList with
      |some r=>some (r,s.mu)
      |none=>none
     |some (.ret,s)=>match yJ P s.st fn.results.toList with
      |some r=>some (r,s.mu)
      |none=>none
     |_=>none
    else none
   |none=>none
  |none=>none
def runJ(P:qf)(E:EnvJ):Nat->RT
 | 0=>⟨fun _ _ _ _=>none,fun _ _ _=>none⟩
 |n+1=>⟨vw P E (runJ P E n),funJ P E (runJ P E n)⟩
def n6(P:qf)(R:RT):Prop:=∀ U c g I e i,R.c U c g I=some (e,i)->∀ Q:qF->St->Prop,Q e i.st->awp P U c Q (LS.st ⟨g,I⟩)
theorem n7(args:List AV)(k:Nat)(mu:Mu):LS.st ⟨args++zd k (.sc vd),mu⟩=st0 args mu:=by
 grind [LS.st,st0,qT,zo,je]
theorem Z1{E:EnvJ}(hE:uw P E):∀ N n,n<=N->n6 P (runJ P E n)/\Qm P (runJ P E n).f
 | 0,n,hn=>by
  obtain rfl:n=0:=zOm;exact⟨(fun _ _ _ _ _ _ h=>by cases h),(fun _ _ _ _ _ h=>by cases h)⟩
 | N+1,n,hn=>by
  by_cases h0:n<=N
  .exact Z1 hE N n h0
  obtain rfl:n=N+1:=zOm;obtain⟨j,R⟩:=Z1 hE N N (qr _);have hS:=nX R;have hD:=nY R;refine⟨?_,?_⟩
  .intro U c T I e s' h Q o
   change vw P E (runJ P E N) U c T I=some (e,s') at h;cases c with
   |skip=>cases h;exact o
   |label l=>cases h;exact o
   |exit id=>cases h;exact o
   |ret=>cases h;exact o
   |region id a5 a0 =>
    simp only[vw]at h;cases a0 with
    |false =>
     simp only at h;split at h
     .rename_i s p
      cases h;exact .inl ⟨rfl,ZZ (s:=⟨T,I⟩) hS p o⟩
     .cases h
    |true =>
     simp only at h;split at h
     .rename_i s p
      cases h;exact .inr ⟨rfl,_,.refl _,n4 (s:=⟨T,I⟩) hS hD p o⟩
     .cases h
   |seq a b =>
    simp only[vw]at h;split at h
    .rename_i s p
     exact j _ _ _ _ _ _ p _ (j _ _ _ _ _ _ h _ o)
    .rename_i t
     refine j _ _ _ _ _ _ h _ ?_;cases e with
     |normal=>exact absurd h (t s')
     |_=>exact o
   |cond c a b =>
    simp only[vw]at h;split at h
    .rename_i hc
     exact⟨true,by rw[u6];exact hc,(fun _=>j _ _ _ _ _ _ h _ o),(fun e=>by cases e)⟩
    .rename_i hc
     exact⟨false,by rw[u6];exact hc,(fun e=>by cases e),(fun _=>j _ _ _ _ _ _ h _ o)⟩
    .cases h
   |block id b =>
    simp only[vw]at h;split at h
    .rename_i i s p
     refine j _ _ _ _ _ _ p _ ?_;show if i=id then _ else _
     grind
    .rename_i t
     refine j _ _ _ _ _ _ h _ ?_;cases e with
     |exit i=>exact absurd h (t i s')
     |_=>exact o
   |loop b =>
    refine⟨false,fun k st=>k<=N+1/\∃ T I,st=LS.st ⟨T,I⟩/\(runJ P E k).c U (.loop b) T I=some (e,s'),N+1,_,.refl _,⟨qr _,T,I,rfl,h⟩,?_⟩;rintro k st ⟨hk,a1,a2,rfl,h1⟩;cases k with
    |zero=>cases h1
    |succ k =>
     obtain⟨ic,_⟩:=Z1 hE N k zOm;change vw P E (runJ P E k) U (.loop b) a1 a2=some (e,s') at h1;simp only[vw]at h1;split at h1
     .rename_i s p
      exact ic _ _ _ _ _ _ p _ ⟨k,zOm,zOm,s.tm,s.mu,rfl,h1⟩
     .rename_i t
      refine ic _ _ _ _ _ _ h1 _ ?_;cases e with
      |normal=>exact absurd h1 (t s')
      |_=>exact o
   |scope b=>exact j _ _ _ _ _ _ h _ o
   |rangeFunc g ps a6 a4 =>
    simp only[vw]at h;split at h
    .rename_i gf J hg
     split at h
     .rename_i hN
      rw[Va]at h;cases h;refine⟨false,gf,J,[],fun _ m=>m=I++[.dead],fun _ _=>False,by rw[u6];exact hg,.inr (hE.2.2 gf J hN),rfl,fun k x m hx=>by simp at hx,fun m hm=>?_,fun _ _ hf=>hf.elim⟩;subst hm;exact o
     .cases h
    .cases h
   |_=>cases h
  .intro f args I v m h
   change funJ P E (runJ P E N) f args I=some (v,m) at h;unfold funJ at h;split at h
   .rename_i hk hh
    exact hE.1 f hk hh _ R _ _ _ _ h
   split at h
   .rename_i fn a3
    split at h
    .rename_i c hc
     split at h
     .rename_i C
      simp only[qi]at C;refine qK.of_awp (hE.2.1 f C.1) a3 hc (zG C.2.1) C.2.2 (pl:=⟨E.pol f⟩) ?_;rw[<-n7 args (fn.ntmps-args.length) I];split at h
      .rename_i s p
       refine j _ _ _ _ _ _ p _ ?_;split at h
       .rename_i r hr;cases h;exact⟨_,hr,rfl,rfl⟩
       .cases h
      .rename_i s p
       refine j _ _ _ _ _ _ p _ ?_;split at h
       .rename_i r hr;cases h;exact⟨_,hr,rfl,rfl⟩
       .cases h
      .cases h
     .cases h
    .cases h
   .cases h
def Qq(P:qf)(E:EnvJ)(n:Nat)(f:us)(args:List AV):Option AV:=match (runJ P E n).f f args [] with
 |some (v,m)=>rdV m 64 v
 |none=>none
theorem Vl{E:EnvJ}(g:uw P E){n:Nat}{f:us}{args:List AV}{v:AV}(h:Qq P E n f args=some v):qd P f args v:=by
 unfold Qq at h;split at h
 .rename_i w m i
  exact sndP (Z1 g n n (qr _)).2 i h
 .cases h
end
end Go.Ev
namespace Go.Proofs.YthkdjhkmlmjkbaaGreatDoor
open Go Go.Ev Go.Proofs Tryz
namespace Ty
@[go_sem] theorem sz3:szOf qb 3=some 1:=eqS zKr
@[go_sem] theorem ag3:qP qb 3=some false:=eqS zKr
@[go_sem] theorem ze3:qv qb 3=some (.sc (.int .i64 0)):=eqS zKr
@[go_sem] theorem sz4:szOf qb 4=some 1:=eqS zKr
@[go_sem] theorem ag4:qP qb 4=some false:=eqS zKr
@[go_sem] theorem ze4:qv qb 4=some (.sc (.bool false)):=eqS zKr
@[go_sem] theorem bo4:Jk qb 4=true:=eqS zKr
@[go_sem] theorem sz9:szOf qb 9=some 1:=eqS zKr
@[go_sem] theorem ag9:qP qb 9=some false:=eqS zKr
@[go_sem] theorem ze9:qv qb 9=some (.sc (.string ⟨#[]⟩)):=eqS zKr
@[go_sem] theorem ay20:Jl qb 20=true:=eqS zKr
@[go_sem] theorem sz22:szOf qb 22=some 1:=eqS zKr
@[go_sem] theorem ag22:qP qb 22=some false:=eqS zKr
@[go_sem] theorem sl22:qy qb 22=some (118,2,24):=eqS zKr
@[go_sem] theorem sz23:szOf qb 23=some 1:=eqS zKr
@[go_sem] theorem ag23:qP qb 23=some false:=eqS zKr
@[go_sem] theorem sl23:qy qb 23=some (93,3,48):=eqS zKr
@[go_sem] theorem sz24:szOf qb 24=some 1:=eqS zKr
@[go_sem] theorem ag24:qP qb 24=some false:=eqS zKr
@[go_sem] theorem sl24:qy qb 24=some (135,7,104):=eqS zKr
@[go_sem] theorem sz25:szOf qb 25=some 1:=eqS zKr
@[go_sem] theorem ag25:qP qb 25=some false:=eqS zKr
@[go_sem] theorem sl25:qy qb 25=some (137,6,80):=eqS zKr
@[go_sem] theorem sz27:szOf qb 27=some 4:=eqS zKr
@[go_sem] theorem ag27:qP qb 27=some true:=eqS zKr
@[go_sem] theorem fl27_0:qD qb 27 0=some (0,22,1):=eqS zKr
@[go_sem] theorem fl27_1:qD qb 27 1=some (1,23,1):=eqS zKr
@[go_sem] theorem fl27_2:qD qb 27 2=some (2,24,1):=eqS zKr
@[go_sem] theorem fl27_3:qD qb 27 3=some (3,25,1):=eqS zKr
@[go_sem] theorem sz28:szOf qb 28=some 1:=eqS zKr
@[go_sem] theorem ag28:qP qb 28=some false:=eqS zKr
@[go_sem] theorem sl28:qy qb 28=some (3,1,8):=eqS zKr
@[go_sem] theorem sz30:szOf qb 30=some 2:=eqS zKr
@[go_sem] theorem ag30:qP qb 30=some true:=eqS zKr
@[go_sem] theorem ze30:qv qb 30=some (.agg [.lst true [],.sc (.int .i64 0)]):=eqS zKr
@[go_sem] theorem pl30:y5 qb 30=some (plc [(0,1),(1,1)]):=eqS zKr
@[go_sem] theorem fl30_0:qD qb 30 0=some (0,28,1):=eqS zKr
@[go_sem] theorem fl30_1:qD qb 30 1=some (1,3,1):=eqS zKr
@[go_sem] theorem zo30:yG qb 30=true:=eqS zKr
@[go_sem] theorem sz33:szOf qb 33=some 1:=eqS zKr
@[go_sem] theorem ag33:qP qb 33=some false:=eqS zKr
@[go_sem] theorem sl33:qy qb 33=some (35,5,64):=eqS zKr
@[go_sem] theorem sz35:szOf qb 35=some 5:=eqS zKr
@[go_sem] theorem ag35:qP qb 35=some true:=eqS zKr
@[go_sem] theorem fl35_0:qD qb 35 0=some (0,3,1):=eqS zKr
@[go_sem] theorem fl35_1:qD qb 35 1=some (1,9,1):=eqS zKr
@[go_sem] theorem fl35_2:qD qb 35 2=some (2,3,1):=eqS zKr
@[go_sem] theorem fl35_3:qD qb 35 3=some (3,33,1):=eqS zKr
@[go_sem] theorem fl35_4:qD qb 35 4=some (4,3,1):=eqS zKr
@[go_sem] theorem sz40:szOf qb 40=some 1:=eqS zKr
@[go_sem] theorem ag40:qP qb 40=some false:=eqS zKr
@[go_sem] theorem sl40:qy qb 40=some (96,4,64):=eqS zKr
@[go_sem] theorem sz41:szOf qb 41=some 1:=eqS zKr
@[go_sem] theorem ag41:qP qb 41=some false:=eqS zKr
@[go_sem] theorem sl41:qy qb 41=some (60,1,24):=eqS zKr
@[go_sem] theorem sz43:szOf qb 43=some 4:=eqS zKr
@[go_sem] theorem ag43:qP qb 43=some true:=eqS zKr
@[go_sem] theorem ze43:qv qb 43=some (.agg [.lst true [],.sc (.int .i64 0),.lst true [],.sc (.int .i64 0)]):=eqS zKr
@[go_sem] theorem pl43:y5 qb 43=some (plc [(0,2),(2,1),(3,1)]):=eqS zKr
@[go_sem] theorem fl43_0:qD qb 43 0=some (0,30,2):=eqS zKr
@[go_sem] theorem fl43_1:qD qb 43 1=some (2,41,1):=eqS zKr
@[go_sem] theorem fl43_2:qD qb 43 2=some (3,3,1):=eqS zKr
@[go_sem] theorem zo43:yG qb 43=true:=eqS zKr
@[go_sem] theorem sz48:szOf qb 48=some 1:=eqS zKr
@[go_sem] theorem ag48:qP qb 48=some false:=eqS zKr
@[go_sem] theorem ze48:qv qb 48=some (.lst true []):=eqS zKr
@[go_sem] theorem sl48:qy qb 48=some (78,4,32):=eqS zKr
@[go_sem] theorem sz51:szOf qb 51=some 1:=eqS zKr
@[go_sem] theorem ag51:qP qb 51=some false:=eqS zKr
@[go_sem] theorem ze51:qv qb 51=some (.sc (.int .i64 0)):=eqS zKr
@[go_sem] theorem sz60:szOf qb 60=some 1:=eqS zKr
@[go_sem] theorem ag60:qP qb 60=some false:=eqS zKr
@[go_sem] theorem ze60:qv qb 60=some (.lst true []):=eqS zKr
@[go_sem] theorem sl60:qy qb 60=some (62,2,32):=eqS zKr
@[go_sem] theorem sz62:szOf qb 62=some 2:=eqS zKr
@[go_sem] theorem ag62:qP qb 62=some true:=eqS zKr
@[go_sem] theorem ze62:qv qb 62=some (.agg [.sc (.int .i64 0),.lst true []]):=eqS zKr
@[go_sem] theorem pl62:y5 qb 62=some (plc [(0,1),(1,1)]):=eqS zKr
@[go_sem] theorem fl62_0:qD qb 62 0=some (0,3,1):=eqS zKr
@[go_sem] theorem fl62_1:qD qb 62 1=some (1,28,1):=eqS zKr
@[go_sem] theorem zo62:yG qb 62=true:=eqS zKr
@[go_sem] theorem sz78:szOf qb 78=some 4:=eqS zKr
@[go_sem] theorem ag78:qP qb 78=some true:=eqS zKr
@[go_sem] theorem ze78:qv qb 78=some (.agg [.sc (.int .i64 0),.sc (.int .i64 0),.sc (.int .i64 0),.sc (.int .i64 0)]):=eqS zKr
@[go_sem] theorem ia78:Zw qb 78=some 4:=eqS zKr
@[go_sem] theorem pl78:y5 qb 78=some (plc [(0,1),(1,1),(2,1),(3,1)]):=eqS zKr
@[go_sem] theorem fl78_0:qD qb 78 0=some (0,3,1):=eqS zKr
@[go_sem] theorem fl78_1:qD qb 78 1=some (1,3,1):=eqS zKr
@[go_sem] theorem fl78_2:qD qb 78 2=some (2,3,1):=eqS zKr
@[go_sem] theorem fl78_3:qD qb 78 3=some (3,3,1):=eqS zKr
@[go_sem] theorem zo78:yG qb 78=true:=eqS zKr
@[go_sem] theorem sz81:szOf qb 81=some 2:=eqS zKr
@[go_sem] theorem ag81:qP qb 81=some true:=eqS zKr
@[go_sem] theorem ze81:qv qb 81=some (.agg [.sc (.int .i64 0),.sc (.int .i64 0)]):=eqS zKr
@[go_sem] theorem pl81:y5 qb 81=some (plc [(0,1),(1,1)]):=eqS zKr
@[go_sem] theorem fl81_0:qD qb 81 0=some (0,51,1):=eqS zKr
@[go_sem] theorem zo81:yG qb 81=true:=eqS zKr
@[go_sem] theorem sl85:qy qb 85=some (81,2,16):=eqS zKr
@[go_sem] theorem sz93:szOf qb 93=some 3:=eqS zKr
@[go_sem] theorem ag93:qP qb 93=some true:=eqS zKr
@[go_sem] theorem ze93:qv qb 93=some (.agg [.sc (.string ⟨#[]⟩),.lst true [],.sc (.bool false)]):=eqS zKr
@[go_sem] theorem fl93_0:qD qb 93 0=some (0,9,1):=eqS zKr
@[go_sem] theorem fl93_1:qD qb 93 1=some (1,28,1):=eqS zKr
@[go_sem] theorem fl93_2:qD qb 93 2=some (2,4,1):=eqS zKr
@[go_sem] theorem sz96:szOf qb 96=some 4:=eqS zKr
@[go_sem] theorem ag96:qP qb 96=some true:=eqS zKr
@[go_sem] theorem ze96:qv qb 96=some (.agg [.sc (.int .i64 0),.lst true [],.sc (.int .i64 0),.lst true []]):=eqS zKr
@[go_sem] theorem fl96_0:qD qb 96 0=some (0,62,2):=eqS zKr
@[go_sem] theorem fl96_1:qD qb 96 1=some (2,62,2):=eqS zKr
@[go_sem] theorem sz97:szOf qb 97=some 1:=eqS zKr
@[go_sem] theorem ag97:qP qb 97=some false:=eqS zKr
@[go_sem] theorem sl97:qy qb 97=some (4,1,1):=eqS zKr
@[go_sem] theorem mt107:mapT qb 107=some (3,112):=eqS zKr
@[go_sem] theorem sz109:szOf qb 109=some 1:=eqS zKr
@[go_sem] theorem ag109:qP qb 109=some false:=eqS zKr
@[go_sem] theorem sz110:szOf qb 110=some 1:=eqS zKr
@[go_sem] theorem ag110:qP qb 110=some false:=eqS zKr
@[go_sem] theorem sz112:szOf qb 112=some 2:=eqS zKr
@[go_sem] theorem ze112:qv qb 112=some (.agg [.sc .nilFunc,.sc .nilFunc]):=eqS zKr
@[go_sem] theorem pl112:y5 qb 112=some (plc [(0,1),(1,1)]):=eqS zKr
@[go_sem] theorem fl112_0:qD qb 112 0=some (0,109,1):=eqS zKr
@[go_sem] theorem fl112_1:qD qb 112 1=some (1,110,1):=eqS zKr
@[go_sem] theorem zo112:yG qb 112=true:=eqS zKr
@[go_sem] theorem fl118_0:qD qb 118 0=some (0,9,1):=eqS zKr
@[go_sem] theorem fl118_1:qD qb 118 1=some (1,4,1):=eqS zKr
@[go_sem] theorem sz133:szOf qb 133=some 1:=eqS zKr
@[go_sem] theorem ag133:qP qb 133=some false:=eqS zKr
@[go_sem] theorem sl133:qy qb 133=some (167,2,24):=eqS zKr
@[go_sem] theorem fl135_0:qD qb 135 0=some (0,9,1):=eqS zKr
@[go_sem] theorem fl135_1:qD qb 135 1=some (1,133,1):=eqS zKr
@[go_sem] theorem fl135_2:qD qb 135 2=some (2,35,5):=eqS zKr
@[go_sem] theorem fl137_0:qD qb 137 0=some (0,9,1):=eqS zKr
@[go_sem] theorem fl137_1:qD qb 137 1=some (1,35,5):=eqS zKr
@[go_sem] theorem sz146:szOf qb 146=some 1:=eqS zKr
@[go_sem] theorem ag146:qP qb 146=some false:=eqS zKr
@[go_sem] theorem ze146:qv qb 146=some (.lst true []):=eqS zKr
@[go_sem] theorem sl146:qy qb 146=some (148,2,16):=eqS zKr
@[go_sem] theorem ze148:qv qb 148=some (.agg [.sc (.int .i64 0),.sc (.int .i64 0)]):=eqS zKr
@[go_sem] theorem pl148:y5 qb 148=some (plA 1):=eqS zKr
@[go_sem] theorem zo148:yG qb 148=true:=eqS zKr
@[go_sem] theorem sz159:szOf qb 159=some 1:=eqS zKr
@[go_sem] theorem ag159:qP qb 159=some false:=eqS zKr
@[go_sem] theorem fl167_0:qD qb 167 0=some (0,9,1):=eqS zKr
@[go_sem] theorem fl167_1:qD qb 167 1=some (1,3,1):=eqS zKr
@[go_sem] theorem sl171:qy qb 171=none:=eqS zKr
@[go_sem] theorem ar171:wO qb 171=some (64,4,1):=eqS zKr
@[go_sem] theorem sz173:szOf qb 173=some 65:=eqS zKr
@[go_sem] theorem ag173:qP qb 173=some true:=eqS zKr
@[go_sem] theorem ze173:qv qb 173=some (.agg [.sc (.int .i64 0),.sc (.bool false),.sc (.bool false),.sc (.bool false),.sc (.bool false),.sc (.bool false),.sc (.bool false),.sc (.bool false),.sc (.bool false),.sc (.bool false),.sc (.bool false),.sc (.bool false),.sc (.bool false),.sc (.bool false),.sc (.bool false),.sc (.bool false),.sc (.bool false),.sc (.bool false),.sc (.bool false),.sc (.bool false),.sc (.bool false),.sc (.bool false),.sc (.bool false),.sc (.bool false),.sc (.bool false),.sc (.bool false),.sc (.bool false),.sc (.bool false),.sc (.bool false),.sc (.bool false),.sc (.bool false),.sc (.bool false),.sc (.bool false),.sc (.bool false),.sc (.bool false),.sc (.bool false),.sc (.bool false),.sc (.bool false),.sc (.bool false),.sc (.bool false),.sc (.bool false),.sc (.bool false),.sc (.bool false),.sc (.bool false),.sc (.bool false),.sc (.bool false),.sc (.bool false),.sc (.bool false),.sc (.bool false),.sc (.bool false),.sc (.bool false),.sc (.bool false),.sc (.bool false),.sc (.bool false),.sc (.bool false),.sc (.bool false),.sc (.bool false),.sc (.bool false),.sc (.bool false),.sc (.bool false),.sc (.bool false),.sc (.bool false),.sc (.bool false),.sc (.bool false),.sc (.bool false)]):=eqS zKr
@[go_sem] theorem pl173:y5 qb 173=some (plc [(0,1),(1,64)]):=eqS zKr
@[go_sem] theorem fl173_0:qD qb 173 0=some (0,3,1):=eqS zKr
@[go_sem] theorem fl173_1:qD qb 173 1=some (1,171,64):=eqS zKr
@[go_sem] theorem zo173:yG qb 173=true:=eqS zKr
@[go_sem] theorem sz178:szOf qb 178=some 7:=eqS zKr
@[go_sem] theorem ag178:qP qb 178=some true:=eqS zKr
@[go_sem] theorem ze178:qv qb 178=some (.agg [.lst true [],.lst true [],.lst true [],.lst true [],.lst true [],.sc (.int .i64 0),.sc (.bool false)]):=eqS zKr
@[go_sem] theorem pl178:y5 qb 178=some (plc [(0,4),(4,1),(5,1),(6,1)]):=eqS zKr
@[go_sem] theorem fl178_0:qD qb 178 0=some (0,27,4):=eqS zKr
@[go_sem] theorem fl178_1:qD qb 178 1=some (4,97,1):=eqS zKr
@[go_sem] theorem fl178_2:qD qb 178 2=some (5,3,1):=eqS zKr
@[go_sem] theorem fl178_3:qD qb 178 3=some (6,4,1):=eqS zKr
@[go_sem] theorem zo178:yG qb 178=true:=eqS zKr
@[go_sem] theorem sl179:qy qb 179=some (209,66,88):=eqS zKr
@[go_sem] theorem sl181:qy qb 181=some (9,1,16):=eqS zKr
@[go_sem] theorem sz192:szOf qb 192=some 1:=eqS zKr
@[go_sem] theorem ag192:qP qb 192=some false:=eqS zKr
@[go_sem] theorem ze192:qv qb 192=some (.lst true []):=eqS zKr
@[go_sem] theorem sl192:qy qb 192=some (43,4,64):=eqS zKr
@[go_sem] theorem sl203:qy qb 203=some (173,65,72):=eqS zKr
@[go_sem] theorem ze209:qv qb 209=some (.agg [.sc (.string ⟨#[]⟩),.sc (.int .i64 0),.sc (.bool false),.sc (.bool false),.sc (.bool false),.sc (.bool false),.sc (.bool false),.sc (.bool false),.sc (.bool false),.sc (.bool false),.sc (.bool false),.sc (.bool false),.sc (.bool false),.sc (.bool false),.sc (.bool false),.sc (.bool false),.sc (.bool false),.sc (.bool false),.sc (.bool false),.sc (.bool false),.sc (.bool false),.sc (.bool false),.sc (.bool false),.sc (.bool false),.sc (.bool false),.sc (.bool false),.sc (.bool false),.sc (.bool false),.sc (.bool false),.sc (.bool false),.sc (.bool false),.sc (.bool false),.sc (.bool false),.sc (.bool false),.sc (.bool false),.sc (.bool false),.sc (.bool false),.sc (.bool false),.sc (.bool false),.sc (.bool false),.sc (.bool false),.sc (.bool false),.sc (.bool false),.sc (.bool false),.sc (.bool false),.sc (.bool false),.sc (.bool false),.sc (.bool false),.sc (.bool false),.sc (.bool false),.sc (.bool false),.sc (.bool false),.sc (.bool false),.sc (.bool false),.sc (.bool false),.sc (.bool false),.sc (.bool false),.sc (.bool false),.sc (.bool false),.sc (.bool false),.sc (.bool false),.sc (.bool false),.sc (.bool false),.sc (.bool false),.sc (.bool false),.sc (.bool false)]):=eqS zKr
@[go_sem] theorem pl209:y5 qb 209=some (plc [(0,1),(1,65)]):=eqS zKr
@[go_sem] theorem fl209_0:qD qb 209 0=some (0,9,1):=eqS zKr
@[go_sem] theorem fl209_1:qD qb 209 1=some (1,173,65):=eqS zKr
@[go_sem] theorem zo209:yG qb 209=true:=eqS zKr
@[go_sem] theorem sz235:szOf qb 235=some 1:=eqS zKr
@[go_sem] theorem ag235:qP qb 235=some false:=eqS zKr
@[go_sem] theorem sl235:qy qb 235=some (244,3,24):=eqS zKr
@[go_sem] theorem sz244:szOf qb 244=some 3:=eqS zKr
@[go_sem] theorem ag244:qP qb 244=some true:=eqS zKr
@[go_sem] theorem ze244:qv qb 244=some (.agg [.sc (.int .i64 0),.sc (.int .i64 0),.sc (.int .i64 0)]):=eqS zKr
@[go_sem] theorem sz245:szOf qb 245=some 1:=eqS zKr
@[go_sem] theorem ag245:qP qb 245=some false:=eqS zKr
@[go_sem] theorem sz246:szOf qb 246=some 1:=eqS zKr
@[go_sem] theorem ag246:qP qb 246=some false:=eqS zKr
@[go_sem] theorem ze246:qv qb 246=some (.sc .nilFunc):=eqS zKr
@[go_sem] theorem sz259:szOf qb 259=some 1:=eqS zKr
@[go_sem] theorem ag259:qP qb 259=some false:=eqS zKr
@[go_sem] theorem sl259:qy qb 259=some (318,2,24):=eqS zKr
@[go_sem] theorem ze266:qv qb 266=some (.agg [.sc (.int .i64 0),.lst true []]):=eqS zKr
@[go_sem] theorem pl266:y5 qb 266=some (plc [(0,1),(1,1)]):=eqS zKr
@[go_sem] theorem zo266:yG qb 266=true:=eqS zKr
end Ty
end Go.Proofs.YthkdjhkmlmjkbaaGreatDoor
namespace Go.Ev
open Go
section
variable {av s x:AV}{K:AV->Mu->Prop}{xs ys:List (List AV)}{mu:Mu}{bt e i lo sz t:Nat}{P:qf}
abbrev rI(n:Int):List AV:=[.sc (.int .i64 n)]
abbrev lI(xs:List Int):AV := .lst false (xs.map rI)
structure Rl where
 ar:Int
 ts:List Int
 deriving DecidableEq
structure Sc where
 sC:List Int
 sN:Int
structure Fld where
 name:cD
 sS:List Int
 var:Bool
structure Sp where
 sS:List (cD×Bool)
 sA:List Fld
 sT:List (List AV)
 sP:List (List AV)
 hp:HF (.lst false sT)
 hf:HF (.lst false sP)
structure Bd where
 lo:Rl
 up:Rl
 deriving DecidableEq
abbrev cRel(r:Rl):List AV:=[aI r.ar,lI r.ts]
abbrev eRel(r:Rl):AV := .agg (cRel r)
abbrev lRel(g:List Rl):AV := .lst false (g.map cRel)
abbrev eSc(s:Sc):AV := .agg [lI s.sC,aI s.sN]
abbrev u9(s:cD×Bool):List AV:=[.sc (.string s.1),aB s.2]
abbrev j6(f:Fld):List AV:=[.sc (.string f.name),lI f.sS,aB f.var]
abbrev Xg(f:Fld):AV := .agg (j6 f)
abbrev eSp(s:Sp):AV := .agg [.lst false (s.sS.map u9),.lst false (s.sA.map j6),.lst false s.sT,.lst false s.sP]
abbrev cBd(b:Bd):List AV:=[aI b.lo.ar,lI b.lo.ts,aI b.up.ar,lI b.up.ts]
abbrev lBd(b:List Bd):AV := .lst false (b.map cBd)
theorem qM(xs:List Int):HF (lI xs):=HF.lst fun r g c i=>by
 obtain⟨n,_,rfl⟩:=qs.1 g
 grind [HF.sc]
theorem Xh(r:Rl):∀ c,c∈cRel r->HF c:=by
 intro c g;simp at g;rcases g with rfl|rfl
 .exact HF.sc _
 .exact qM _
theorem zK(r:Rl):HF (eRel r):=HF.agg (Xh r)
theorem Vm(g:List Rl):HF (lRel g):=HF.lst fun r i c j=>by
 obtain⟨n,_,rfl⟩:=qs.1 i;exact Xh n c j
theorem qX(s:Sc):HF (eSc s):=HF.agg fun c g=>by
 simp at g;rcases g with rfl|rfl
 .exact qM _
 .exact HF.sc _
theorem Vn(f:Fld):∀ c,c∈j6 f->HF c:=by
 intro c g;simp at g;rcases g with rfl|rfl|rfl
 .exact HF.sc _
 .exact qM _
 .exact HF.sc _
theorem n8(f:Fld):HF (Xg f):=HF.agg (Vn f)
theorem Xi(s:Sp):HF (eSp s):=HF.agg fun c g=>by
 simp at g;rcases g with rfl|rfl|rfl|rfl
 .refine HF.lst fun r i c g=>?_
  obtain⟨n,_,rfl⟩:=qs.1 i;simp at g;rcases g with rfl|rfl<;>exact HF.sc _
 .refine HF.lst fun r i c g=>?_
  obtain⟨n,_,rfl⟩:=qs.1 i;exact Vn n c g
 .exact s.hp
 .exact s.hf
theorem zC(b:List Bd):HF (lBd b):=HF.lst fun r i c g=>by
 obtain⟨n,_,rfl⟩:=qs.1 i;simp at g;rcases g with rfl|rfl|rfl|rfl
 .exact HF.sc _
 .exact qM _
 .exact HF.sc _
 .exact qM _
@[go_sem] theorem ieq(a b:Int):(a == b)=decide (a=b):=eqS rfl
@[go_sem] theorem ine(a b:Int):(a != b)=!decide (a=b):=eqS rfl
@[go_sem] theorem natEq(a b:Nat):((a:Int)=(b:Int))=(a=b):=propext ⟨Int.ofNat_inj.1,fun h=>by rw[h]⟩
inductive Tag (p:St->Prop):Type where
 |mk:Tag p
def Keep(p:St->Prop)(_:Tag p)(st:St):Prop:=p st
theorem Keep.loop{p:Nat->St->Prop}{st:St}{n:Nat}(m:Nat)(g:m<n)(h:p m st):∃ m,m<n/\Keep (p m) .mk st:=⟨m,g,h⟩
theorem cC{pl:Pol}{g:Code}{Q:qF->St->Prop}{st:St}(I:Nat->St->Prop)(n:Nat)(h:I n st)(k:∀ n st,I n st->awp P pl g (vU (fun n=>Keep (I n) .mk) n Q) st):qk P pl g Q st := aZ (fun n=>Keep (I n) .mk) n h k
theorem ja(xs:List Int):za 1 (xs.map rI):=fun r g=>by
 obtain⟨n,_,rfl⟩:=qs.1 g;exact⟨rfl,rfl⟩
theorem Z2(xs:List Rl):za 2 (xs.map cRel):=fun r g=>by
 obtain⟨n,_,rfl⟩:=qs.1 g;exact⟨rfl,rfl⟩
def OwnF(lo:Nat)(mu:Mu)(sz:Nat)(av:AV)(xs:List (List AV)):Prop:=Own mu sz av xs/\(∀ b s o l,av = .sl b s o l->lo<=b)/\lo<=mu.length
theorem OwnF.one(h:OwnF lo mu sz av xs):av.one=true:=by
 rcases h.1 with rfl|⟨b,rfl,_⟩<;>rfl
theorem OwnF.cells(h:OwnF lo mu sz av xs):av.cells=[av]:=by
 rcases h.1 with rfl|⟨b,rfl,_⟩<;>rfl
theorem OwnF.nil(h:lo<=mu.length):OwnF lo mu sz (.lst true []) []:=⟨.inl rfl,fun _ _ _ _ e=>by simp at e,h⟩
theorem OwnF.set{c:Cell}(h:OwnF lo mu sz av xs)(o:i<lo):OwnF lo (mu.set i c) sz av xs:=by
 obtain⟨j,g,l⟩:=h;refine⟨?_,g,zUs l⟩;rcases j with rfl|⟨b,rfl,p⟩
 .exact .inl rfl
 .have:=g _ _ _ _ rfl
  exact .inr ⟨b,rfl,by grind⟩
theorem yj.ownF{g:Nat}{zv:AV}(hs:qy P t=some (e,sz,bt))(j:(qy P g).isSome=true)(hz:qv P e=some zv)
  (r:zv.cells.length=sz) (C:zv.cells.all AV.one=true) (I:sz≠0) (hb:bt<=16384) (J:OwnF lo mu sz s xs) (hx:qE mu x=some ys) (U:za sz xs) (wy:za sz ys) (hl:xs.length+ys.length<=4294967296)
  (k:∀ av p,OwnF lo p sz av (xs++ys)->(∀ i,i<lo->p[i]?=mu[i]?)->K av p):yj P mu #[t,g] s x K:=by
 obtain⟨J,R,T⟩:=J;refine⟨t,g,e,sz,bt,ys,rfl,hs,j,⟨zv,hz,r,C⟩,I,hb,hx,wy,?_⟩;rcases J with rfl|⟨b,rfl,hc⟩
 .refine .inl ⟨xs,rfl,U,hl,fun h=>?_,fun h=>?_⟩
  .subst h
   exact k _ _ ⟨.inl zSp,fun _ _ _ _ e=>by simp at e,T⟩ (fun _ _=>rfl)
  .refine k _ _ ⟨.inr ⟨mu.length,zSp,zSp⟩,fun b s o l e=>?_,zSo⟩ (fun i hi=>?_)
   .grind
   grind
 .have a0:=z2 U.ok
  have a1:=R _ _ _ _ rfl;refine .inr ⟨b,xs.length,xs.flatten,rfl,hc,zOm,hl,?_⟩;have a2:xs.flatten.take (xs.length*sz)=xs.flatten:=zi zOm;refine k _ _ ⟨.inr ⟨mu.length,zSp,?_⟩,fun b s o l e=>?_,zSo⟩ (fun i hi=>?_)
  .grind
  .grind
  grind
theorem qI.ownF{r:Nat}{zv:AV}(C:qy P t=some (e,sz,bt))(g:(qy P r).isSome=true)(I:qv P e=some zv)
  (j:zv.cells.length=sz) (l:zv.cells.all AV.one=true) (o:sz≠0) (J:bt<=16384) (R:OwnF lo mu sz s xs) (T:qE mu x=some ys) (U:za sz xs) (wy:za sz ys) (hl:xs.length+ys.length<=4294967296)
  (k:∀ av p,OwnF lo p sz av (xs++ys)->(∀ i,i<lo->p[i]?=mu[i]?)->K av p):qI P mu #[t,r] s x K:=
 .inl (yj.ownF C g I j l o J R T U wy hl k)
theorem fX{j:Nat}{xs ys:List Int}{z:Int}(l:qy P t=some (e,1,bt))(g:(qy P j).isSome=true)(o:qv P e=some (aI z))
  (r:bt<=16384) (C:OwnF lo mu 1 s (xs.map rI)) (I:qE mu x=some (ys.map rI)) (J:xs.length+ys.length<=4294967296)
  (k:∀ av p,OwnF lo p 1 av ((xs++ys).map rI)->(∀ i,i<lo->p[i]?=mu[i]?)->K av p):qI P mu #[t,j] s x K:=
 qI.ownF l g o rfl rfl zOm r C I (ja _) (ja _) (zUs J) (fun av p R T=>k av p (by rw[yv];exact R) T)
theorem n9{low g p:Mu}(j:low.length=lo)(l:lo<=p.length)(h:∀ i,i<lo->p[i]?=(low++g)[i]?):p=low++p.drop lo:=by
 have:p.take lo=low:=by
  apply zT;intro i;by_cases o:i<lo
  .grind
  grind
 rw[<-this,List.take_append_drop]
theorem fY{low g:Mu}{l:Nat}{xs ys:List Int}{z:Int}(o:qy P t=some (e,1,bt))(j:(qy P l).isSome=true)(r:qv P e=some (aI z))
  (C:bt<=16384) (I:OwnF low.length (low++g) 1 s (xs.map rI)) (J:qE (low++g) x=some (ys.map rI)) (R:xs.length+ys.length<=4294967296)
  (k:∀ av i,OwnF low.length (low++i) 1 av ((xs++ys).map rI)->K av (low++i)):qI P (low++g) #[t,l] s x K:=
 fX o j r C I J R fun av p T U=>by
  have:=n9 rfl T.2.2 U
  grind
theorem OwnF.low{low low' g:Mu}(h:OwnF low.length (low++g) sz av xs)(j:low'.length=low.length):OwnF low'.length (low'++g) sz av xs:=by
 obtain⟨l,i,_⟩:=h;refine⟨?_,by rw[j];exact i,zSp⟩;rcases l with rfl|⟨b,rfl,o⟩
 .exact .inl rfl
 .have:=i _ _ _ _ rfl
  refine .inr ⟨b,rfl,?_⟩
  grind
theorem OwnF.rdI{xs:List Int}(h:OwnF lo mu 1 av (xs.map rI)):Rd mu av (lI xs):=
 h.1.rd (ja xs).ok fun r g c i=>by
  obtain⟨n,_,rfl⟩:=qs.1 g
  grind [HF.sc]
theorem Rd.rel{r:Rl}(h:Rd mu av (lI r.ts)):Rd mu (.agg [aI r.ar,av]) (eRel r):=by
 refine .agg _ _ rfl (fun k x y g i=>?_)
 match k with
 | 0=>simp at g i;subst g;subst i;exact .zsc _
 | 1=>grind
 |k+2=>simp at g
theorem Xj(b:Nat)(mu:Mu):(cutM (fun j=>j == b) mu 0)[b]?=mu[b]?:=by
 grind [uV]
theorem ma{b:Nat}(h:i≠b)(mu:Mu):(cutM (fun j=>!(j == b)) mu 0)[i]?=mu[i]?:=by
 grind [uV]
def allN(p:Nat->Bool):Nat->Bool
 | 0=>true
 |n+1=>allN p n&&p n
theorem Vo{p:Nat->Bool}{n:Nat}:allN p n=true↔∀ i,i<n->p i=true:=by
 induction n with
 |zero=>simp[allN]
 |succ n l =>
  simp only[allN,qi,l];refine⟨fun h i g=>?_,fun h=>⟨fun i g=>h i zOm,h n zOm⟩⟩;rcases jf.1 g with j|j
  .exact h.1 i j
  grind
theorem mc{p:Nat->Bool}{n k:Nat}(g:k<n)(h:p k=false):allN p n=false:=by
 rw[<-Bool.not_eq_true,Vo]
 grind
def gI(xs:List Int)(i:Nat):Int:=(xs[i]?).getD 0
theorem ux{xs:List Int}(h:i<xs.length):gI xs i=xs[i]:=by simp[gI,h]
def sumI(xs:List Int):Int:=xs.foldr (·+·) 0
theorem me(a b:List Int):sumI (a++b)=sumI a+sumI b:=by
 induction a with
 |nil=>simp[sumI]
 |cons x a g=>grind [sumI]
theorem vW(l:List Int)(k:Nat)(h:k<l.length):sumI (l.take (k+1))=sumI (l.take k)+l[k]:=by
 rw[List.take_add_one,qq h,me];simp[sumI]
theorem mf(l:List Int)(m:Int)(h:∀ a,a∈l->0<=a/\a<=m):0<=sumI l/\sumI l<=m*l.length:=by
 induction l with
 |nil=>simp[sumI]
 |cons x l g =>
  have j:=h x zSp;have o:=g (fun a i=>h a (zP1 i));simp only[sumI,List.foldr_cons,zZ]at *
  grind
def GSc(s:Sc):Prop:=s.sC.length<=4/\∀ a,a∈s.sC->0<=a/\a<=5
theorem GSc.sum{s:Sc}(h:GSc s)(k:Nat):0<=sumI (s.sC.take k)/\sumI (s.sC.take k)<=20:=by
 have:=mf (s.sC.take k) 5 (fun a g=>h.2 a (List.mem_of_mem_take g));have i:=h.1
 grind
theorem GSc.get{s:Sc}(h:GSc s){k:Nat}(g:k<s.sC.length):0<=s.sC[k]/\s.sC[k]<=5:=h.2 _ (qo g)
end
end Go.Ev
namespace Go.Ev
open Go Go.RowKit
section
variable {es:List (AV×AV)}
theorem fH{C:Type}{es i:List C}(r:es.Nodup)(t:i.Nodup)(h:∀ x,x∈i↔x∈es):∃ I J,PIx I J es i:=by
 have l:i.length=es.length:=((List.perm_ext_iff_of_nodup t r).2 h).length_eq;have f:∀ k,∃ j,k<es.length->j<es.length/\i[j]?=es[k]?:=by
  intro k;by_cases o:k<es.length
  .obtain ⟨j,p⟩:=List.mem_iff_getElem?.1 ((h es[k]).2 zSp)
   grind
  .exact ⟨0,fun h=>absurd h o⟩
 have g:∀ j,∃ k,j<es.length->k<es.length/\es[k]?=i[j]?:=by
  intro j;by_cases p:j<es.length
  .have P:j<i.length:=by omega
   obtain⟨k,o⟩:=List.mem_iff_getElem?.1 ((h i[j]).1 zSp)
   grind
  .exact ⟨0,fun h=>absurd h p⟩
 refine⟨fun k=>Classical.choose (f k),fun k=>Classical.choose (g k),l,fun k o=>?_⟩
 grind [Classical.choose_spec,Classical.choose,List.getElem?_inj]
theorem Xk(h:(es.map Prod.fst).Nodup):es.Nodup:=(List.pairwise_map.1 h).imp (fun g e=>g (by rw[e]))
theorem fU{mu:Mu}{b:Nat}{fs:List (AV×AV)}(l:mu[b]?=some (.mp es))(o:(es.map Prod.fst).Nodup)(j:(fs.map Prod.fst).Nodup)(p:∀ x,x∈es↔x∈fs)(hf:∀ x,x∈es->HF x.1/\HF x.2):Rd mu (.mp b) (.ims fs):=by
 obtain⟨r,t,C⟩:=fH (Xk j) (Xk o) p;refine .ims _ fs es r t C j (.mp b es es l rfl (fun k x y g i=>?_) (fun k x y g i=>?_))
 .rw [g]at i;cases i;exact .hf _ (hf x (qY g)).1
 .rw [g]at i;cases i;exact .hf _ (hf x (qY g)).2
end
end Go.Ev
namespace Go.Ev
open Go Go.RowKit
section
variable {R:AEnd->Mu->Prop}{args:List AV}{pl:Pol}{P:qf}
def MRel(G:Gh)(h:Array Obj):Option AV->FrameMode->Prop
 |none,u=>u = .returning
 |some x,u=>∃ v,u = .panicking [{ v,recovered:=false }]/\VRel G h x v
def yL(P:qf)(g:us)(args:List AV)(mu:Mu)(m:Option AV)(R:Mu->Prop):Prop:=zO P g /\
 ∀(G:Gh) (w:j2) (o:Array j3) (u:FrameMode),Sim G mu w.heap->zj G w.heap args o->MRel G w.heap m u ->
  CallsDIn Fence.wide 0 P g o u w fun e i j=>∃ v l p,e = .returned v/\settle i = .returning/\Stp G mu w l p j/\R p
def Vp(P:qf)(j:List ResultVar)(g:us)(i:List AV)(R:AEnd->Mu->Prop):qF->St->Prop
 | .normal,st | .ret,st=>yL P g i st.mu none fun p=>OptK (yJ P ⟨st.tm,p⟩ j) fun r=>R (.ret r) p
 | .pan v,st=>yL P g i st.mu (some v) fun p=>OptK (yJ P ⟨st.tm,p⟩ j) fun r=>R (.ret r) p
 | .exit _,_=>False
def uy(ops:Array wx):Option (List wx×wx):=
 match ops.toList.reverse with
 |o :: r=>match o.op,o.guard,o.dst with | .defer _,none,none=>some (r.reverse,o)|_,_,_=>none
 | []=>none
theorem mg{ops:Array wx}{pre:List wx}{o:wx}(h:uy ops=some (pre,o)):ops.toList=pre++[o]/\o.guard=none/\o.dst=none:=by
 unfold uy at h;split at h
 .rename_i l r g
  split at h
  .rename_i c p i j
   simp only[qj,Prod.mk.injEq]at h;obtain⟨rfl,rfl⟩:=h;refine⟨?_,i,j⟩;have:=congrArg List.reverse g
   grind
  grind
 grind
def uz(P:qf)(pl:Pol)(r:List ResultVar)(R:AEnd->Mu->Prop)(o:wx)(l:Code)(st:St):Prop:=
 ∃ x args p g first i,o.op = .defer { callee := .value x,args,argTypes:=p }/\st.ev x = .fn (.func g) first i/\zO P g/\awp P pl l (Vp P r g (first++evs st.ev args.toList++i) R) st
def awpD(P:qf)(pl:Pol)(j:List ResultVar)(R:AEnd->Mu->Prop):Code->St->Prop
 | .seq (.region _ g false) i,st=>match uy g with
  |some (pre,o)=>awpS P pl false g pre (fun st=>uz P pl j R o i st) (fun v st=>R (.pan v) st.mu) st
  |none=>awpS P pl false g g.toList (fun st=>awpD P pl j R i st) (fun v st=>R (.pan v) st.mu) st
 |_,_=>False
def Ro.bare:Ro:=⟨none,[],false,[]⟩
theorem Rel.bare{i:Gh}{g:Mu}{j:j2}{n:Nat}{G:Gh}{st:St}{a:Act}{w:j2}(r:Rel Ro.bare i g j n G st a w):a.defers=[]:=by
 obtain⟨l,⟨o,p⟩,_⟩:=r.df rfl;have:l=[]:=p rfl;subst this;simpa[Ro.bare] using o
def REnd(G : Gh)(mu : Mu)(w : j2)(R : AEnd->Mu->Prop)(e : Ending)(w' : j2) : Prop := ∃ i p, Stp G mu w i p w' /\
      ((∃ r v,R (.ret r) p/\e = .returned v/\VRel i w'.heap r v)\/(∃ r v,R (.pan r) p/\e = .panicked [{ v,recovered:=false }]/\VRel i w'.heap r v))
theorem mh{fn:Func}{G0:Gh}{C:Mu}{w0:j2}(s0:Sim G0 C w0.heap):∀(c:Code) (st:St) (a:Act) (w:j2) (G:Gh),Rel Ro.bare G0 C w0 fn.ntmps G st a w ->
  dOkC fn.ntmps c=true->awpD P pl fn.results.toList R c st->c.wpIn (WF Ro.bare) 0 P (bodyPostM Fence.wide 0 P fn (REnd G0 C w0 R)) a w:=by
 intro c;induction c with
 |seq x y _ ih =>
  intro st a w G r hd h;cases x with
  |region id a1 a6 =>
   cases a6 with
   |true=>exact h.elim
   |false =>
    simp only[dOkC,qi]at hd;have J:(a1.toList.all fun o=>dOk fn.ntmps o.dst)=true:=hd.1;have U:∀ v (st:St) a w G u,R (.pan v) st.mu->Rel Ro.bare G0 C w0 fn.ntmps G st a w->VRel G w.heap v u->LeavesInM Fence.wide 0 P fn a.tmps (REnd G0 C w0 R) a.defers (.panicking [{ v:=u,recovered:=false }]) w:=by
     intro v st a w G u t r I;rw[r.bare];exact⟨G,st.mu,r.stp,.inr ⟨v,u,t,rfl,I⟩⟩
    cases hl:uy a1 with
    |none =>
     simp only[awpD,hl]at h;refine wpIn_seq (wpIn_region_list ?_);refine JQ s0 ?_ ?_ a1.toList st a w G r J h
     .intro st a w G t r
      exact ih st a w G r hd.2 t
     .intro v st a w G u t r I
      exact U v st a w G u t r I
    |some q =>
     obtain⟨pre,o⟩:=q;simp only[awpD,hl]at h;obtain⟨ho,hg,a0⟩:=mg hl;refine wpIn_seq (wpIn_region_list ?_);rw[ho]at J⊢;rw[List.all_append,qi]at J;refine WJ s0 ?_ ?_ pre st a w G r J.1 h
     .intro st a w G t r
      obtain⟨xo,args,ah,g,first,a7,a8,hx,a9,a3⟩:=t;obtain⟨od,aq,ai,aa,aj,ar⟩:=o;simp only at a8 hg a0;subst a8;subst hg;subst a0;simp only[wpListIn,Region.wanted,if_true];have rf:=r.ev xo;rw[hx]at rf;generalize t:a.eval xo=fv at rf;cases rf with
      |fn _ _ _ a4 T hn hm I hw =>
      have ra:=s2 ⟨hn,I⟩ (vq r.ev args) ⟨hm,hw⟩;have ab:((({ dst:=none,op := .defer { callee := .value xo,args,argTypes:=ah },type:=ai,pos:=aa,after:=aj,guard:=none }:wx).semAt (WF Ro.bare).round a.eval).run P w) =
        .ok (.defer { target := .fn (.func g) T,args:=a4++args.map a.eval }) w:=by
       rw[show (WF Ro.bare).round=none from rfl,Oper.semAt_none]
       grind [execOp,resolve,Sem.run_bind,Sem.run_pure,Result.andThen_ok,Deferred.ofValue]
      refine⟨fun _ _=>trivial,?_⟩;rw[ab,Oper.uponIn_defer];rw[r.bare]
      let d:Deferred:={ target := .fn (.func g) T,args:=a4++args.map a.eval }
      let j:=first++evs st.ev args.toList++a7
      let l:=a4++args.map a.eval++T
      let ro:Ro:=⟨none,[d],true,j.zip l.toList⟩
      have ad:∀{G:Gh} {h:Array Obj},(∀ p,p∈ro.kp->VRel G h p.1 p.2)↔zj G h j l:=by
       intro G h;constructor
       .intro hk
        refine⟨ra.1,fun k x hx=>?_⟩;have ak:k<l.size:=by rw[ra.1];exact(qn.1 hx).1
        have I:l.toList[k]?=some (l.getD k vd):=by simp[Array.getD_eq_getD_getElem?,ak]
        have:(x,l.getD k vd)∈j.zip l.toList:=qY (i:=k) (by grind)
        grind
       .intro ha p hp
        obtain⟨k,hk⟩:=List.mem_iff_getElem?.1 hp;rw[List.getElem?_zip_eq_some]at hk;have:=ha.2 k p.1 hk.1;simp_all
      show y.wpIn (WF Ro.bare) 0 P _ _ _;refine J6 (pl:=pl) (n:=fn.ntmps) y (ro:=ro) s0 _ _ st _ w G ?_ ⟨r.tm,fun _=>Dfs.nil _ _ _ _ _ _,r.size,r.stp,ad.2 ra⟩ hd.2 (.inl ⟨rfl,rfl⟩) a3;intro ae e st a w' G' t r he;obtain⟨Ds,g1,g2,g3,r',al⟩:=r.left rfl;have key:∀(m:Option AV) (u:FrameMode),u ≠ .run->MRel G' (jV Ds w').heap m u->yL P g j st.mu m (fun af=>OptK (yJ P ⟨st.tm,af⟩ fn.results.toList) fun r=>R (.ret r) af) ->
        LeavesInM Fence.wide 0 P fn a.tmps (REnd G0 C w0 R) a.defers u w':=by
       intro m u hu hm hs;rw[g1];refine JP hu Ds w' g2 g3 ?_;refine⟨hu,.inr ⟨fun h=>by simp[Fence.wide]at h,.func g,T,g,l,rfl,?_,fun _ _=>trivial,?_⟩⟩
       .simp only[invoke,d]
        exact a9 _ _
       .refine (hs.2 G' (jV Ds w') l u r'.stp.sim (ad.1 r'.kp) hm).mono ?_
        intro e u' av ⟨v,G2,an,he,ag,ao,z,hz,hR⟩;subst he;simp only;rw[ag];have r2:=r'.put (d:=none) s0 ao (.any vd) rfl;obtain⟨u2,k1,k2⟩:=Qj (fn:=fn) r2 hz;exact⟨u2,k1,G2,an,r2.stp,.inl ⟨z,u2,hR,rfl,k2⟩⟩
      cases ae<;>cases e<;>simp only[ERel]at he
      .exact key none .returning zSp rfl t
      .exact t.elim
      .exact key none .returning zSp rfl t
      .obtain ⟨v,rfl,I⟩:=he
       exact key (some _) (.panicking _) zSp ⟨v,rfl,al _ _ I⟩ t
     .intro v st a w G u t r I
      exact U v st a w G u t r I
  |_=>exact h.elim
 |_=>intro st a w G r hd h;exact h.elim
theorem fJ{f:us}{fn:Func}{c:Code}{mu:Mu}(g:zO P f)(hf:P.funcs[f]?=some fn)(i:fn.body=some c)
  (j:args.length<=fn.ntmps) (l:dOkC fn.ntmps c=true) (h:awpD P pl fn.results.toList R c (st0 args mu)):qK P f args mu R:=by
 refine⟨g,fun G w o s p=>?_⟩;refine(callsIn_wide (n:=0)).1 (callsIn_of_wp_marks hf i trivial ?_);refine mh (pl:=pl) s c (st0 args mu) _ w G ?_ l h;exact fA s p j
theorem yL.of_awp{f:us}{fn:Func}{id:Nat}{o:wx}{g:Code}{mu:Mu}{m:Option AV}{R:Mu->Prop}(U:zO P f)(hf:P.funcs[f]?=some fn)
  (hb:fn.body=some (.seq (.region id #[o] false) g)) (ho:∃ d ty pos a5,o={ dst:=d,op := .call { callee := .builtin .recover,args:=#[],argTypes:=a5 },type:=ty,pos:=pos,after:=#[],guard:=none })
  (hn:args.length<=fn.ntmps) (hd:dOkC fn.ntmps (.seq (.region id #[o] false) g)=true) (hr:noRF g=true)
  (h:awp P pl g (vV P fn.results.toList fun e p=>∃ r,e = .ret r/\R p) ((st0 args mu).put o.dst (m.getD (.sc .nilIface)) mu)):yL P f args mu m R:=by
 obtain⟨od,a7,a0,a1,rfl⟩:=ho;refine⟨U,fun G w vs u s ra hm=>?_⟩;refine callsDIn_of_wpSIn hf hb trivial fun i cs hc=>?_
 have r0:Rel Ro.bare G mu w fn.ntmps G (st0 args mu) { tmps:=vs++Array.replicate (fn.ntmps-vs.size) vd,defers:=[] } w:=fA s ra hn;simp only[dOkC,qi]at hd;have a8:dOk fn.ntmps od=true:=by grind
 refine wpSIn_seq (wpSIn_region ?_);have go:∀(J:List Frame) (v:j3) (T:FrameMode),J={ i with mode:=T } :: cs->settle T = .returning->VRel G w.heap (m.getD (.sc .nilIface)) v ->
   g.wpSIn Fence.wide 0 P (bodyPostS P fn i cs fun e T w'=>∃ v G' p,e = .returned v/\settle T = .returning/\Stp G mu w G' p w'/\R p)
    (({ tmps:=vs++Array.replicate (fn.ntmps-vs.size) vd,defers:=[] }:Act).put od v) J w:=by
  intro J v T a4 I hv;refine wpSIn_of_wpIn rfl ?_;refine J6 (pl:=pl) (n:=fn.ntmps) g (ro:=Ro.bare) s _ _ _ _ w G ?_ (r0.put s (Stp.refl s) hv a8) hd.2 (.inr hr) h;intro ae e st a w' G' hq r he;cases ae<;>cases e<;>simp only[ERel]at he
  .obtain ⟨z,hz,z',_,hR⟩:=hq
   obtain⟨u2,k1,k2⟩:=Qj (fn:=fn) r hz;exact⟨r.bare,T,a4,u2,k1,u2,G',st.mu,rfl,I,r.stp,hR⟩
  .exact hq.elim
  .obtain ⟨z,hz,z',_,hR⟩:=hq
   obtain⟨u2,k1,k2⟩:=Qj (fn:=fn) r hz;exact⟨r.bare,T,a4,u2,k1,u2,G',st.mu,rfl,I,r.stp,hR⟩
  .obtain ⟨z,hz,_⟩:=hq
   grind
 have a9:∀ ev:uk->j3,(execOp ev { dst:=od,op := .call { callee := .builtin .recover,args:=#[],argTypes:=a1 },type:=a7,pos:=a0,after:=#[],guard:=none }).run P w = .ok .recover w:=by
  simp_all[execOp,resolve,invoke,builtin]
 simp only[List.size_toArray,zZ,List.length_nil,qm,qm.loop,wpOpsSIn];refine⟨fun _ _=>trivial,?_⟩;simp only[Region.wanted];cases m with
 |none =>
  have hu:u = .returning:=hm;have t:recoverD (i :: cs)=none:=by simp[recoverD,hc,hu]
  rw[t];exact go _ .nilIface .returning (by rw[<-hu,<-hc]) rfl (.sc _ rfl)
 |some x =>
  obtain⟨v,hu,hv⟩:=hm;have t:recoverD (i :: cs)=some (v,{ i with mode := .panicking [{ v,recovered:=true }] } :: cs):=by simp[recoverD,hc,hu]
  rw[t];exact go _ v (.panicking [{ v,recovered:=true }]) rfl rfl hv
end
end Go.Ev
namespace Go.Ev
open Go Go.RowKit
section
variable {R:AEnd->Mu->Prop}{ops:Array wx}{f g:us}{args:List AV}{i:List ResultVar}{mu:Mu}{pl:Pol}{P:qf}
def EndR(G:Gh)(h:Array Obj):AEnd->Ending->Prop
 | .ret r,e=>∃ v,e = .returned v/\VRel G h r v
 | .pan r,e=>∃ v,e = .panicked [{ v,recovered:=false }]/\VRel G h r v
def Z3(P:qf)(f:us)(args:List AV)(V:AEnd->Prop):Prop:=zO P f /\
 ∀(i:Nat->Prop) (w:j2) (o:Array j3),Sim ⟨i,[]⟩ [] w.heap->zj ⟨i,[]⟩ w.heap args o ->
  Calls P f o w fun e j=>∃ g a,V a/\EndR ⟨g,[]⟩ j.heap a e/\(∀ b,i b->g b)/\(∀ b,g b->b<j.heap.size/\(i b\/w.heap.size<=b))/\w6 w.heap.size w j
abbrev Vq(P:qf)(f:us)(args:List AV)(e:AEnd):Prop:=Z3 P f args (·=e)
theorem Vq.toP{r:AV}(h:Vq P f args (.ret r)):qd P f args r:=by
 refine⟨h.1,fun g w o l p=>(h.2 g w o l p).mono fun e C ⟨i,a,j,t,I,J,R⟩=>?_⟩;subst j;obtain⟨v,T,j⟩:=t
 grind
def RdE(mu:Mu):AEnd->AEnd->Prop
 | .ret x,.ret y=>Rd mu x y
 | .pan x,.pan y=>Rd mu x y
 |_,_=>False
theorem Z3.of_sound{V:AEnd->Prop}(h:qK P f args [] fun e p=>∃ I,V I/\RdE p e I):Z3 P f args V:=by
 obtain⟨J,h⟩:=h;refine⟨J,fun l w o hi ra=>?_⟩;refine(h ⟨l,[]⟩ w o hi ra).mono fun e T ⟨U,p,st,hR⟩=>?_
 have r:∀ b,¬Live ⟨l,[]⟩ [] b:=fun b ⟨i,c,t,hc,_⟩=>by simp at hc
 have fin:∀ a,V a->EndR ⟨fun b=>U.imm b\/Live U p b,[]⟩ T.heap a e->∃ g a,V a/\EndR ⟨g,[]⟩ T.heap a e/\(∀ b,l b->g b)/\(∀ b,g b->b<T.heap.size/\(l b\/w.heap.size<=b))/\w6 w.heap.size w T:=by
  intro a R hr;refine⟨fun b=>U.imm b\/Live U p b,a,R,hr,fun b C => .inl (st.le.imm b C),fun b C=>?_,⟨st.os,st.tape,st.output,st.size,fun k hk=>st.keep k hk (r k)⟩,st.drawn⟩;rcases C with C|C
  .refine ⟨st.sim.imm b C,?_⟩
   rcases st.inew b C with h|h|h
   .exact .inl h
   .grind
   omega
  .refine ⟨st.sim.livesize C,?_⟩
   rcases st.live b C with h|h
   .grind
   omega
 rcases hR with ⟨r',v,⟨I,R,j⟩,rfl,hu⟩|⟨r',v,⟨I,R,j⟩,rfl,hu⟩
 .cases I with
  |ret y=>exact fin _ R ⟨v,rfl,j.sound st.sim hu⟩
  |pan y=>exact j.elim
 .cases I with
  |ret y=>exact j.elim
  |pan y=>exact fin _ R ⟨v,rfl,j.sound st.sim hu⟩
@[go_sem] theorem RdE_ret(mu:Mu)(x y:AV):RdE mu (.ret x) (.ret y)=Rd mu x y:=eqS rfl
theorem fL{K i:AV->Mu->Prop}(j:qK P g args mu R)(k:∀ r m,R (.ret r) m->K r m)(kp:∀ r m,R (.pan r) m->i r m) :
  qc P false mu (.fn (.func g) [] []) args K i:=
 .inr ⟨rfl,.inl ⟨g,[],[],R,rfl,zUs j,k,kp⟩⟩
theorem qK.hid{i:Nat}{c:Cell}(I:mu[i]?=some c)(J:c ≠ .dead)(h:qK P f args (mu.set i .dead) R) :
  qK P f args mu fun e m=>∃ g,R e g/\g[i]?=some .dead/\m=g.set i c:=by
 refine⟨h.1,fun G w o s T=>?_⟩;have j:i<G.blk.length:=by rw[s.len];exact(qn.1 I).1
 refine(h.2 G w o (s.hid i) T).mono fun e w' ⟨U,g,t,hR⟩=>?_
 obtain⟨g1,g2,g3⟩:=t.unhid s I J (b:=(G.blk[i]'j).1) (t:=(G.blk[i]'j).2) (zP1 j);refine⟨U,g.set i c,g3,?_⟩;rcases hR with ⟨r,v,l,p,C⟩|⟨r,v,l,p,C⟩
 .exact .inl ⟨r,v,⟨g,l,g1,rfl⟩,p,C⟩
 .exact .inr ⟨r,v,⟨g,l,g1,rfl⟩,p,C⟩
attribute [go_sem] uy
def Z4(P:qf)(pl:Pol)(i:List ResultVar)(R:AEnd->Mu->Prop)(ops:Array wx)(g:Code)(st:St):Option (List wx×wx)->Prop
 |some (pre,o)=>awpS P pl false ops pre (fun st=>uz P pl i R o g st) (fun v st=>R (.pan v) st.mu) st
 |none=>awpS P pl false ops ops.toList (fun st=>awpD P pl i R g st) (fun v st=>R (.pan v) st.mu) st
@[go_sem ↓] theorem awpD_seq{id:Nat}{g:Code}{st:St} :
  awpD P pl i R (.seq (.region id ops false) g) st=Z4 P pl i R ops g st (uy ops):=by
 grind [uy,awpD,Z4]
@[go_sem] theorem qh1{g:Code}{st:St}{pre:List wx}{o:wx} :
  Z4 P pl i R ops g st (some (pre,o))=awpS P pl false ops pre (fun st=>uz P pl i R o g st) (fun v st=>R (.pan v) st.mu) st:=eqS rfl
@[go_sem] theorem qh2{g:Code}{st:St} :
  Z4 P pl i R ops g st none=awpS P pl false ops ops.toList (fun st=>awpD P pl i R g st) (fun v st=>R (.pan v) st.mu) st:=eqS rfl
theorem cP{p:List ResultVar}{x:uk}{args:Array uk}{l:Array j1}{ty:j1}{pos:String}{r:Array Edge}{t:Option (Nat×Bool)}{d:Option Tmp}{i:Code}{st:St}{first caps:List AV}
  (C:st.ev x = .fn (.func g) first caps) (o:zO P g) (h:awp P pl i (Vp P p g (first++evs st.ev args.toList++caps) R) st) :
  uz P pl p R { dst:=d,op := .defer { callee := .value x,args:=args,argTypes:=l },type:=ty,pos:=pos,after:=r,guard:=t } i st:=
 ⟨x,args,l,g,first,caps,rfl,C,o,h⟩
@[go_sem] theorem PostD_ret{j:List ResultVar}{i:List AV}{st:St}:Vp P j g i R .ret st=yL P g i st.mu none fun p=>OptK (yJ P ⟨st.tm,p⟩ j) fun r=>R (.ret r) p:=eqS rfl
theorem yL.mono{m:Option AV}{R R':Mu->Prop}(h:yL P g args mu m R)(k:∀ p,R p->R' p):yL P g args mu m R':=
 ⟨h.1,fun G w o u s i j=>(h.2 G w o u s i j).mono fun e J T ⟨v,l,p,r,t,C,I⟩=>⟨v,l,p,r,t,C,k _ I⟩⟩
@[go_sem] theorem ofV_mnone:ofV (.map none) = .sc (.map none):=eqS rfl
theorem fQ{xs ys:List AV}(h:Rds mu xs ys):Rd mu (.agg xs) (.agg ys) := .agg _ _ h.get.1 h.get.2
end
end Go.Ev
namespace Go.Proofs.YthkdjhkmlmjkbaaGreatDoor
open Go Go.Ev Go.Proofs Tryz
namespace Y1
inductive Nd where
 |mk (op:Int) (name:cD) (n:Int) (sM:List Nd) (pos:Int)
def Nd.op:Nd->Int | .mk o _ _ _ _=>o
def Nd.name:Nd->cD | .mk _ s _ _ _=>s
def Nd.n:Nd->Int | .mk _ _ n _ _=>n
def Nd.sM:Nd->List Nd | .mk _ _ _ ks _=>ks
def Nd.pos:Nd->Int | .mk _ _ _ _ p=>p
abbrev aS(s:cD):AV := .sc (.string s)
mutual
def cNd:Nd->List AV
 | .mk op g n ks p=>[aI op,aS g,aI n,.lst false (cNds ks),aI p]
def cNds:List Nd->List (List AV)
 | []=>[]
 |k :: ks=>cNd k :: cNds ks
end
theorem Vs:∀ ks:List Nd,cNds ks=ks.map cNd
 | []=>by simp[cNds]
 |k :: ks=>by simp[cNds,Vs ks]
theorem vX(n:Nd):cNd n=[aI n.op,aS n.name,aI n.n,.lst false (n.sM.map cNd),aI n.pos]:=by
 obtain⟨op,g,k,ks,p⟩:=n;simp[cNd,Vs,Nd.op,Nd.name,Nd.n,Nd.sM,Nd.pos]
@[go_sem] theorem Z5(n:Nd):(cNd n).length=5:=by rw[vX];rfl
@[go_sem] theorem cNd_take(n:Nd):(cNd n).take 5=cNd n:=zi (by rw[Z5];exact qr _)
@[go_sem] theorem Xl(n:Nd):(cNd n).all AV.one=true:=by rw[vX];rfl
@[go_sem] theorem cNd_f0(n:Nd):(cNd n).take 1=[aI n.op]:=by rw[vX];rfl
@[go_sem] theorem cNd_f1t(n:Nd):(cNd n).tail.take 1=[aS n.name]:=by rw[vX];rfl
@[go_sem] theorem cNd_f2(n:Nd):((cNd n).drop 2).take 1=[aI n.n]:=by rw[vX];rfl
@[go_sem] theorem cNd_f3(n:Nd):((cNd n).drop 3).take 1=[.lst false (n.sM.map cNd)]:=by rw[vX];rfl
@[go_sem] theorem Xm(n:Nd):((cNd n).drop 4).take 1=[aI n.pos]:=by rw[vX];rfl
abbrev eNd(n:Nd):AV := .agg (cNd n)
abbrev lNd(ks:List Nd):AV := .lst false (ks.map cNd)
mutual
theorem Z6:∀(n:Nd),∀ c,c∈cNd n->HF c
 | .mk op i n ks p=>by
  intro c g;simp only[cNd,qp,zb,or_false]at g;rcases g with rfl|rfl|rfl|rfl|rfl
  .exact HF.sc _
  .exact HF.sc _
  .exact HF.sc _
  .exact HF.lst (Vt ks)
  .exact HF.sc _
theorem Vt:∀(ks:List Nd),∀ r,r∈cNds ks->∀ c,c∈r->HF c
 | []=>by intro r g;simp[cNds]at g
 |k :: ks=>by
  intro r g;simp only[cNds,qp]at g;rcases g with rfl|g
  .exact Z6 k
  .exact Vt ks r g
end
theorem zV(n:Nd):HF (eNd n):=HF.agg (Z6 n)
theorem Xn(ks:List Nd):HF (lNd ks):=HF.lst (by rw[<-Vs];exact Vt ks)
abbrev Z7(e p:Int):AV := .ifc 274 (.agg [aI e,aI p])
theorem mi(mu:Mu)(b:Nat)(x y:AV)(g:mu[b]?=some (.arr [x,y])):yL qb 207 [.ptr b 0] mu none fun p=>p=mu:=by
 refine yL.of_awp call207 func207 rfl ⟨_,_,_,_,rfl⟩ (zG zKr) zKr zKr (pl:={}) ?_;simp[go_sem]
end Y1
namespace Y2
open Y1
abbrev aT(t:List Int):AV := .agg (t.map fun x => .sc (.int .i8 x))
structure Kd where
 ar:Int
 ts:List (List Int)
abbrev mKd(ts:List (List Int)):AV := .ims (ts.map fun t=>(aT t,aB true))
abbrev cKd(k:Kd):List AV:=[aI k.ar,mKd k.ts]
theorem hf_aT(t:List Int):HF (aT t):=HF.agg fun c g=>by
 obtain⟨x,_,rfl⟩:=qs.1 g;exact HF.sc _
theorem j7{a b:cD}(h:¬a=b):(a.toList == b.toList)=false:=by
 cases g:(a.toList == b.toList) with
 |false=>rfl
 |true=>exact absurd (Wk (by rw[beq_toListBytes];exact g)) h
def aSc:List (cD×Kd)->AV
 | [] => .sc (.pointer none)
 |v :: s => .ip [aS v.1,aI v.2.ar,mKd v.2.ts,aSc s]
def jb(name:cD):List (cD×Kd)->List (cD×Kd)
 | []=>[]
 |v :: s=>if v.1=name then v :: s else jb name s
end Y2
namespace Y3
def pad(l:List Int):List Int:=[l.getD 0 0,l.getD 1 0,l.getD 2 0]
abbrev i8s(l:List Int):List AV:=l.map fun x => .sc (.int .i8 x)
@[go_sem] theorem findA_nil(P:qf)(g:j1)(k:AV)(i:Nat):qL P g k [] i=some none:=eqS rfl
end Y3
namespace Y4
end Y4
namespace P1
open Y1 Y2 Y3
section
abbrev Tp:=List Int
variable {a b:List Tp}
structure Pd where
 name:cD
 params:List (cD×Int)
 body:Nd
structure TS where
 sS:List (cD×Bool)
 sA:List Fld
 sT:List Pd
 sP:List (cD×Nd)
def ins(l:List Tp)(t:Tp):List Tp:=if t∈l then l else l++[t]
def uni(a b:List Tp):List Tp:=b.foldl ins a
theorem mj{l:List Tp}{t x:Tp}:x∈ins l t↔x∈l\/x=t:=by
 grind [ins,id]
theorem jB{x:Tp}:x∈uni a b↔x∈a\/x∈b:=by
 unfold uni;induction b generalizing a with
 |nil=>simp
 |cons t b g =>
  rw[List.foldl_cons,g,mj,qp,or_assoc]
theorem ml{l:List Tp}{t:Tp}(h:l.Nodup):(ins l t).Nodup:=by
 grind [ins,List.nodup_append]
theorem Qr(h:a.Nodup):(uni a b).Nodup:=by
 unfold uni;induction b generalizing a with
 |nil=>exact h
 |cons t b g=>exact g (ml h)
def kOf(l:List Int):Kd:=⟨l.length,[pad l]⟩
def kSum(a b:Kd):Kd:=⟨a.ar,uni (uni [] a.ts) b.ts⟩
def conc(x:Tp)(n:Nat)(y:Tp)(m skip:Nat):Tp:=pad (x.take (n-skip)++(y.take m).drop skip)
def pairs(a b:List Tp):List (Tp×Tp):=a.flatMap fun x=>b.map fun y=>(x,y)
theorem wb{x y:Tp}:(x,y)∈pairs a b↔x∈a/\y∈b:=by
 simp[pairs]
def j8(n m:Nat)(a b:List Tp):List Tp:=uni [] ((pairs a b).filterMap fun q=>if q.1.getD (n-1) 0=q.2.getD 0 0 then some (conc q.1 n q.2 m 1) else none)
def zl(a b:Kd):Kd:=⟨a.ar+b.ar-2,j8 a.ar.toNat b.ar.toNat a.ts b.ts⟩
def uA(n m:Nat)(a b:List Tp):List Tp:=uni [] ((pairs a b).map fun q=>conc q.1 n q.2 m 0)
def wc(a b:Kd):Kd:=⟨a.ar+b.ar,uA a.ar.toNat b.ar.toNat a.ts b.ts⟩
def cloN:Nat->Nat->Kd->Kd
 | 0,_,a=>a
 |f+1,n,a=>if n<a.ts.length then cloN f a.ts.length (kSum a (zl a a)) else a
def kClo(a:Kd):Kd:=cloN 70 0 a
def zg(ns g:Nat):Kd:=⟨g,(qm ns).map fun (i:Nat)=>pad (zd g (i:Int))⟩
def Vu(a b:Kd):Kd:=⟨a.ar,a.ts.filter fun t=>decide (t∈b.ts)⟩
def kTr(a:Kd):Kd:=⟨2,uni [] (a.ts.map fun t=>[t.getD 1 0,t.getD 0 0,0])⟩
def Qs:cD:=⟨#[95,102,105,114,115,116]⟩
def Qt:cD:=⟨#[95,110,101,120,116]⟩
def j9(fs:List Fld)(nm:cD):List Kd:=fs.filterMap fun f=>if f.name=nm then some (kOf f.sS) else none
def Qu(i:Nat)(s:cD×Bool)(nm:cD):List Kd:=
 (if s.1=nm then [kOf [(i:Int)]] else [])++((if s.2=true/\s.1++Qs=nm then [kOf [(i:Int)]] else [])++(if s.2=true/\s.1++Qt=nm then [kOf [(i:Int),(i:Int)]] else []))
def vY:Nat->List (cD×Bool)->cD->List Kd
 |_,[],_=>[]
 |i,s :: r,g=>Qu i s g++vY (i+1) r g
def vy(ts:TS)(nm:cD):List Kd:=j9 ts.sA nm++vY 0 ts.sS nm
structure Ck where
 ts:TS
 calls:Nat
 timed:List Bool
def zh(c:Ck)(nm:cD):Option Nat:=(c.ts.sT.take c.calls).findIdx? fun p=>decide (p.name=nm)
def zL(op:Int):Bool:=decide (op=5)||decide (op=48)||decide (op=49)||decide (op=50)||decide (op=51)
def yo(c:Ck)(op:Int)(nm:cD):Bool:=zL op||(decide (op=47)&&(match zh c nm with|some p=>c.timed.getD p false|none=>false))
mutual
def ye(c:Ck):Nd->Bool
 | .mk op g n ks p=>yo c op g||Z8 c ks
def Z8(c:Ck):List Nd->Bool
 | []=>false
 |k :: ks=>ye c k||Z8 c ks
end
end
def tmsL(ts:TS):Nat->List Bool
 | 0=>[]
 |k+1=>tmsL ts k++(match ts.sT[k]? with|some p=>[ye ⟨ts,k,tmsL ts k⟩ p.body] | none=>[])
def mkCk(ts:TS)(g:Nat):Ck:=⟨ts,g,tmsL ts g⟩
abbrev Scp:=List (cD×Kd)
abbrev Dg:=Int×Int
abbrev Res:=Except Dg (Option Kd)
def yA(c:Ck)(s:Scp)(nm:cD)(pos:Int):Res:=
 match jb nm s with
 |v :: _ => .ok (some v.2)
 | []=>match vy c.ts nm with
  | [] => .error (40,pos)
  | [k] => .ok (some k)
  |_ => .error (44,pos)
def uB(op:Int)(a b:Kd):Kd:=if op=6\/op=14 then kSum a b else if op=7 then Vu a b else a
def binK(ns:Nat)(op:Int)(a:Kd):Kd:=if op=12 then kClo a else if op=13 then kSum (kClo a) (zg ns 2) else kTr a
def zQ(ns:Nat)(op n pos:Int)(l:List (Option Kd)):Res:=
 if op=2 then .ok (some ⟨n,[]⟩)
 else if op=3 then .ok (some (zg ns 1))
 else if op=4 then .ok (some (zg ns 2))
 else match l with
  | [a]=>if op=5 then .ok a else match a with
   |some a=>if op=11\/op=12\/op=13 then (if a.ar=2 then .ok (some (binK ns op a)) else .error (42,pos)) else .ok none
   |none => .ok none
  | [some a,some b] =>
   if op=6\/op=14\/op=7\/op=8\/op=32\/op=33 then (if a.ar=b.ar then .ok (some (uB op a b)) else .error (42,pos))
   else if op=9 then (if 1<=a.ar+b.ar-2/\a.ar+b.ar-2<=3 then .ok (some (zl a b)) else .error (42,pos))
   else if op=10 then (if a.ar+b.ar<=3 then .ok (some (wc a b)) else .error (42,pos))
   else .ok none
  |_ => .ok none
def Qv(i:Int)(k:Kd):Bool:=k.ts.all fun t=>decide (t.getD 0 0=i)
mutual
def exam(c:Ck)(s:Scp)(inn:Bool):Nd->Res
 | .mk op g n ks pos =>
  if (inn&&yo c op g)=true then .error (46,pos)
  else if op=1 then yA c s g pos
  else if op=47 then
   if (c.ts.sT.any fun p=>decide (p.name=g))=true then
    match zh c g with
    |none => .error (45,pos)
    |some p=>match c.ts.sT[p]? with
     |none => .error (45,pos)
     |some i=>if i.params.length=ks.length then yf c s pos i.params ks else .error (45,pos)
   else .error (40,pos)
  else if op=15\/op=45\/op=46 then yp c s (inn||decide (op=15)) g pos ks
  else match zq c s (inn||decide (op=12)||decide (op=13)) ks with
   | .error e => .error e
   | .ok l=>zQ c.ts.sS.length op n pos l
def zq(c:Ck)(s:Scp)(inn:Bool):List Nd->Except Dg (List (Option Kd))
 | [] => .ok []
 |k :: ks=>match exam c s inn k with
  | .error e => .error e
  | .ok a=>match zq c s inn ks with
   | .error e => .error e
   | .ok l => .ok (a :: l)
def yf(c:Ck)(s:Scp)(pos:Int):List (cD×Int)->List Nd->Res
 |_,[] => .ok none
 | [],_ => .ok none
 |p :: g,k :: ks=>match exam c s true k with
  | .error e => .error e
  | .ok none => .error (42,pos)
  | .ok (some a)=>if a.ar=1 then (if Qv p.2 a=true then yf c s pos g ks else .error (43,pos)) else .error (42,pos)
def yp(c:Ck)(s:Scp)(inn:Bool)(nm:cD)(pos:Int):List Nd->Res
 | [] => .ok none
 |k :: ks=>match exam c s inn k with
  | .error e => .error e
  | .ok none => .error (42,pos)
  | .ok (some a)=>if a.ar=1 then (match zq c ((nm,a) :: s) inn ks with
    | .error e => .error e
    | .ok _ => .ok (some a)) else .error (42,pos)
end
def vZ(env:List (cD×Int)):Scp:=env.foldl (fun s p=>(p.1,kOf [p.2]) :: s) []
def dgOf:Res->Dg
 | .ok _=>(0,0)
 | .error e=>e
def v5(c:Ck)(env:List (cD×Int))(n:Nd):Dg:=if 30<=n.op then dgOf (exam c (vZ env) false n) else (43,n.pos)
def uC(ts:TS)(env:List (cD×Int))(n:Nd):Dg:=v5 (mkCk ts ts.sT.length) env n
end P1
end Go.Proofs.YthkdjhkmlmjkbaaGreatDoor
namespace Go.Ev
open Go
section
variable {κ α:Type} [DecidableEq κ]
variable {P:qf} {kt:j1} {kenc:κ->AV} {ok:κ->Prop} {venc:α->AV}
end
section
variable (n:Nat) (J:List Nat->St->Prop) (seen:List Nat) (Q:qF->St->Prop) (st:St)
end
theorem fZ{P:qf}{pl:Pol}{g:Code}{Q:qF->St->Prop}{st:St}(N:Nat)(I:Nat->St->Prop)(i:I 0 st)(h:∀ k st,k<=N->I k st->awp P pl g (upQ (fun k=>Keep (I k) .mk) N k Q) st):qk P pl g Q st:=
 qk.up N (fun k=>Keep (I k) .mk) i h
theorem aK{p:St->Prop}{st:St}(h:p st):Keep p .mk st:=h
end Go.Ev
namespace Go.Proofs.YthkdjhkmlmjkbaaGreatDoor
open Go Go.Ev Go.Proofs Tryz
namespace YM
open Y2 P1
def okT(t:Tp):Prop:=t.length=3
abbrev eT(l:List Tp):List (AV×AV):=l.map fun t=>(aT t,aB true)
end YM
namespace Y5
end Y5
namespace Y6
open Y2 Y3 P1 YM
section
variable {a b:List Tp}{m:Nat}
structure okK (k:Kd):Prop where
 ar:1<=k.ar/\k.ar<=3
 len:∀ t,t∈k.ts->okT t
 nd:k.ts.Nodup
theorem Xo{l:List Tp}(h:l.Nodup):((eT l).map Prod.fst).Nodup:=by
 have e:(eT l).map Prod.fst=l.map aT:=by simp[eT]
 rw[e];refine(List.pairwise_map (f:=aT)).2 (h.imp fun g e=>g ?_);have inj:∀(a b:List Int),i8s a=i8s b->a=b:=by
  intro a;induction a with
  |nil=>intro b h;cases b with
   |nil=>rfl
   |cons=>simp at h
  |cons x a i=>intro b h;cases b with
   |nil=>simp at h
   |cons y b =>
    simp only[i8s,jM,List.cons.injEq,AV.sc.injEq,Value.int.injEq,true_and]at h;rw[h.1,i b h.2]
 exact inj _ _ (AV.agg.inj e)
theorem Rd.setT{mu:Mu}{l k:List Tp}(i:mu[m]?=some (.mp (eT l)))(j:l.Nodup)(o:k.Nodup)(h:∀ t,t∈l↔t∈k):Rd mu (.mp m) (mKd k):=
 fU i (Xo j) (Xo o) (fun x=>by
  simp only[eT,qs];constructor
  .rintro ⟨t,g,rfl⟩;exact⟨t,(h t).1 g,rfl⟩
  .rintro ⟨t,g,rfl⟩;exact⟨t,(h t).2 g,rfl⟩) (fun x p=>by
  obtain⟨t,_,rfl⟩:=qs.1 p;exact⟨hf_aT t,HF.sc _⟩)
def Vv(n m:Nat)(x y:Tp):Option Tp:=if x.getD (n-1) 0=y.getD 0 0 then some (conc x n y m 1) else none
theorem wd{n:Nat}{t:Tp}:t∈j8 n m a b↔∃ x y,(x∈a/\y∈b)/\Vv n m x y=some t:=by
 unfold j8 Vv;rw[jB];simp only[zb,false_or,List.mem_filterMap];constructor
 .rintro ⟨⟨x,y⟩,g,i⟩;exact⟨x,y,wb.1 g,i⟩
 .rintro ⟨x,y,g,i⟩;exact⟨(x,y),wb.2 g,i⟩
theorem mm{n:Nat}:(j8 n m a b).Nodup:=Qr zSp
def v6(n m:Nat)(x y:Tp):Option Tp:=some (conc x n y m 0)
theorem Vw{n:Nat}{t:Tp}:t∈uA n m a b↔∃ x y,(x∈a/\y∈b)/\v6 n m x y=some t:=by
 unfold uA v6;rw[jB];simp only[zb,false_or,qs];constructor
 .rintro ⟨⟨x,y⟩,g,i⟩;exact⟨x,y,wb.1 g,by rw[<-i]⟩
 .rintro ⟨x,y,g,i⟩;exact⟨(x,y),wb.2 g,Option.some.inj i⟩
theorem mn{n:Nat}:(uA n m a b).Nodup:=Qr zSp
end
end Y6
namespace Y7
end Y7
namespace Y8
open Y2
structure ok2 (k:Kd):Prop where
 ar:k.ar=2
 nd:k.ts.Nodup
 ts:∀ t,t∈k.ts->∃ x y:Int,t=[x,y,0]/\0<=x/\x<4/\0<=y/\y<4
end Y8
end Go.Proofs.YthkdjhkmlmjkbaaGreatDoor
namespace Go.Ev
open Go Go.RowKit
end Go.Ev
namespace Go.Proofs
open Go.Shelf
def Tryz.laysNm221_ren:Go.Shelf.Ren:=⟨fun|21=>89|27=>124|28=>125|35=>152|39=>170|n=>n,fun|22=>28|3=>3|4=>4|0=>0|n=>n,fun|n=>n⟩
theorem Tryz.laysNm221:Go.Proofs.Lays2.n21 qb Tryz.laysNm221_ren:={
 mixed:=zKr
 f21:=func89.trans (congrArg some zKr)
 f27:=func124.trans (congrArg some zKr)
 f28:=func125.trans (congrArg some zKr)
 f35:=func152.trans (congrArg some zKr)
 f39:=func170.trans (congrArg some zKr)
 t0:=Tryz.underlying0
 a0:=Tryz.isAgg0
 z0:=Tryz.sizeOf0
 v0:=Tryz.zeroValue0
 t3:=Tryz.underlying3
 a3:=Tryz.isAgg3
 z3:=Tryz.sizeOf3
 v3:=Tryz.zeroValue3
 t4:=Tryz.underlying4
 a4:=Tryz.isAgg4
 z4:=Tryz.sizeOf4
 v4:=Tryz.zeroValue4
 t22:=Tryz.underlying28
 a22:=Tryz.isAgg28
 z22:=Tryz.sizeOf28
 v22:=Tryz.zeroValue28
 i3:=by kernel_rfl }
def Tryz.laysNm215_ren:Go.Shelf.Ren:=⟨fun|15=>71|n=>n,fun|22=>28|3=>3|4=>4|n=>n,fun|n=>n⟩
theorem Tryz.laysNm215:Go.Proofs.Lays2.n15 qb Tryz.laysNm215_ren:={
 mixed:=zKr
 f15:=func71.trans (congrArg some zKr)
 t3:=Tryz.underlying3
 a3:=Tryz.isAgg3
 z3:=Tryz.sizeOf3
 v3:=Tryz.zeroValue3
 t4:=Tryz.underlying4
 a4:=Tryz.isAgg4
 z4:=Tryz.sizeOf4
 v4:=Tryz.zeroValue4
 t22:=Tryz.underlying28
 a22:=Tryz.isAgg28
 z22:=Tryz.sizeOf28
 v22:=Tryz.zeroValue28
 i3:=by kernel_rfl }
open Go.RowKit Go.Lib in
theorem Tryz.slices_Clone_int_nil(n c:Nat)(w:j2) :
  Calls qb 71 #[.slice none n c] w fun e w'=>e = .returned (.slice none 0 0)/\w'=w:=Any.slices_Clone_int_nil Tryz.laysNm215 n c w
def Tryz.laysNm225_ren:Go.Shelf.Ren:=⟨fun|25=>55|31=>93|32=>94|37=>126|n=>n,fun|22=>28|3=>3|4=>4|40=>157|0=>0|n=>n,fun|n=>n⟩
theorem Tryz.laysNm225:Go.Proofs.Lays2.n25 qb Tryz.laysNm225_ren:={
 mixed:=zKr
 f25:=func55.trans (congrArg some zKr)
 f31:=func93.trans (congrArg some zKr)
 f32:=func94.trans (congrArg some zKr)
 f37:=func126.trans (congrArg some zKr)
 t0:=Tryz.underlying0
 a0:=Tryz.isAgg0
 z0:=Tryz.sizeOf0
 v0:=Tryz.zeroValue0
 t3:=Tryz.underlying3
 a3:=Tryz.isAgg3
 z3:=Tryz.sizeOf3
 v3:=Tryz.zeroValue3
 t4:=Tryz.underlying4
 a4:=Tryz.isAgg4
 z4:=Tryz.sizeOf4
 v4:=Tryz.zeroValue4
 t22:=Tryz.underlying28
 a22:=Tryz.isAgg28
 z22:=Tryz.sizeOf28
 v22:=Tryz.zeroValue28
 t40:=Tryz.underlying157
 a40:=Tryz.isAgg157
 z40:=Tryz.sizeOf157
 v40:=Tryz.zeroValue157 }
open Go.RowKit Go.Lib in
theorem Tryz.slices_BinarySearch_int(b off n c:Nat)(zs:List Int)(x:Int)(w:j2)(i:n<=zs.length)(g:n<4611686018427387904)(l:∀ j,j<zs.length->w.cell? ⟨b,off+j,none⟩=some (.int .i64 (zs.getD j 0)))(o:(zs.take n).Pairwise (·<=·)) :
  Calls qb 55 #[.slice (some ⟨b,off,none⟩) n c,.int .i64 x] w fun e w'=>e = .returned (.tuple #[.int .i64 ((zs.take n).countP (·<x):Nat),.bool ((zs.take n).contains x)])/\∃ q,w'=w.drewN q:=Any.slices_BinarySearch_int Tryz.laysNm225 b off n c zs x w i g l o
def Tryz.laysNm223_ren:Go.Shelf.Ren:=⟨fun|23=>92|n=>n,fun|22=>28|3=>3|4=>4|0=>0|n=>n,fun|n=>n⟩
theorem Tryz.laysNm223:Go.Proofs.Lays2.n23 qb Tryz.laysNm223_ren:={
 mixed:=zKr
 f23:=func92.trans (congrArg some zKr)
 t0:=Tryz.underlying0
 a0:=Tryz.isAgg0
 z0:=Tryz.sizeOf0
 v0:=Tryz.zeroValue0
 t3:=Tryz.underlying3
 a3:=Tryz.isAgg3
 z3:=Tryz.sizeOf3
 v3:=Tryz.zeroValue3
 t4:=Tryz.underlying4
 a4:=Tryz.isAgg4
 z4:=Tryz.sizeOf4
 v4:=Tryz.zeroValue4
 t22:=Tryz.underlying28
 a22:=Tryz.isAgg28
 z22:=Tryz.sizeOf28
 v22:=Tryz.zeroValue28
 i3:=by kernel_rfl }
open Go.RowKit Go.Lib Go.Sort in
theorem Tryz.slices_Delete_int(g off cap i j:Nat)(zs:List Int)(w:j2)(p:Holds (Value.int .i64) w g off zs.toArray)(l:zs.length<=cap)(r:cap<=9223372036854775807)(o:i<=j)(t:j<=zs.length) :
  Calls qb 92 #[.slice (some ⟨g,off,none⟩) zs.length cap,.int .i64 i,.int .i64 j] w fun e w'=>e = .returned (.slice (some ⟨g,off,none⟩) (zs.length-(j-i)) cap)/\∃ q,w'=putRow (Value.int .i64) (Sort.ahead w q) g off (zs.take i++zs.drop j++zd (j-i) 0).toArray:=Any.slices_Delete_int Tryz.laysNm223 g off cap i j zs w p l r o t
open Go.RowKit Go.Lib in
theorem Tryz.slices_BinarySearch_int_empty(a:Option Addr)(c:Nat)(x:Int)(w:j2) :
  Calls qb 55 #[.slice a 0 c,.int .i64 x] w fun e w'=>e = .returned (.tuple #[.int .i64 0,.bool false])/\w'=w:=Any.slices_BinarySearch_int_empty Tryz.laysNm225 a c x w
end Go.Proofs
namespace Go.Proofs.YthkdjhkmlmjkbaaGreatDoor
open Go Go.Ev Go.Proofs Tryz
namespace YS
theorem uD(xs:List Int):(xs.map rI).flatten=xs.map aI:=by
 induction xs with
 |nil=>rfl
 |cons x xs g=>simp[g]
end YS
namespace YF
open Y1 P1
abbrev cPm(p:cD×Int):List AV:=[aS p.1,aI p.2]
abbrev lPm(l:List (cD×Int)):AV := .lst false (l.map cPm)
abbrev cPd(p:Pd):List AV:=aS p.name :: lPm p.params :: cNd p.body
abbrev lPd(l:List Pd):AV := .lst false (l.map cPd)
abbrev cFa(f:cD×Nd):List AV:=aS f.1 :: cNd f.2
abbrev lSo(l:List (cD×Bool)):AV := .lst false (l.map u9)
abbrev lFl(l:List Fld):AV := .lst false (l.map j6)
abbrev lFa(l:List (cD×Nd)):AV := .lst false (l.map cFa)
abbrev cTS(s:TS):List AV:=[lSo s.sS,lFl s.sA,lPd s.sT,lFa s.sP]
abbrev eTS(s:TS):AV := .agg (cTS s)
theorem mq(p:cD×Int):∀ c,c∈cPm p->HF c:=by
 intro c g;simp at g;rcases g with rfl|rfl<;>exact HF.sc _
theorem Qw(l:List (cD×Int)):HF (lPm l):=HF.lst fun r g c i=>by
 obtain⟨p,_,rfl⟩:=qs.1 g;exact mq p c i
theorem mr(p:Pd):∀ c,c∈cPd p->HF c:=by
 intro c g;simp only[cPd,qp]at g;rcases g with rfl|rfl|g
 .exact HF.sc _
 .exact Qw _
 grind [Z6]
theorem Vx(l:List Pd):HF (lPd l):=HF.lst fun r g c i=>by
 obtain⟨p,_,rfl⟩:=qs.1 g;exact mr p c i
theorem mv(p:cD×Nd):∀ c,c∈cFa p->HF c:=by
 intro c g;simp only[cFa,qp]at g;rcases g with rfl|g
 .exact HF.sc _
 grind [Z6]
theorem Vy(l:List (cD×Nd)):HF (lFa l):=HF.lst fun r g c i=>by
 obtain⟨p,_,rfl⟩:=qs.1 g;exact mv p c i
theorem mw(p:cD×Bool):∀ c,c∈u9 p->HF c:=by
 intro c g;simp at g;rcases g with rfl|rfl<;>exact HF.sc _
theorem Xp(l:List (cD×Bool)):HF (lSo l):=HF.lst fun r g c i=>by
 obtain⟨p,_,rfl⟩:=qs.1 g;exact mw p c i
theorem Xq(l:List Fld):HF (lFl l):=HF.lst fun r g c i=>by
 obtain⟨p,_,rfl⟩:=qs.1 g;exact Vn p c i
theorem my(s:TS):∀ c,c∈cTS s->HF c:=by
 intro c g;simp only[cTS,qp,zb,or_false]at g;rcases g with rfl|rfl|rfl|rfl
 .exact Xp _
 .exact Xq _
 .exact Vx _
 .exact Vy _
theorem qG(s:TS):HF (eTS s):=HF.agg (my s)
theorem Xr(p:Pd):(cPd p).length=7/\(cPd p).all AV.one=true:=⟨by simp[cPd,Z5],by simp only[cPd,List.all_cons,Xl];rfl⟩
theorem Xs(p:cD×Nd):(cFa p).length=6/\(cFa p).all AV.one=true:=⟨by simp[cFa,Z5],by simp only[cFa,List.all_cons,Xl];rfl⟩
end YF
namespace JB
open Y1
def Vz:yz:=fun F args I=>match args with
 | [.fn (.func g) [] i]=>match F g i (I++[.dead]) with
  |some (r,m)=>some (.agg [aI 0,aI 0],m.set I.length (.arr [aI 0,aI 0]))
  |none=>none
 |_=>none
theorem mz:yK qb 194 Vz:=by
 intro F P args I v m h;unfold Vz at h;split at h
 .rename_i g j
  split at h
  .rename_i r m' R
   cases h;have T:=P _ _ _ _ _ R;refine fJ call194 func194 rfl (zG zKr) zKr (pl:={}) ?_;simp[go_sem];refine cP (g:=207) (first:=[]) (caps:=[.ptr I.length 0]) zSi call207 ?_;simp[go_sem];refine fR (qK.hid (i:=I.length) (c := .arr [aI 0,aI 0]) zSp zSp (zUs T)) ?_ ?_
   .rintro r1 m1 ⟨l,⟨t,C⟩,J,rfl⟩
    subst C;have o:I.length<l.length:=(qn.1 J).1;have p:(l.set I.length (.arr [aI 0,aI 0]))[I.length]?=some (.arr [aI 0,aI 0]):=yC o;simp[go_sem,p,o];refine yL.mono (mi _ I.length (aI 0) (aI 0) p) ?_;rintro _ rfl;simp[go_sem,p,o]
   .rintro r1 m1 ⟨l,⟨t,C⟩,J,rfl⟩
    cases t
  .cases h
 .cases h
def calL:List {f:us // zO qb f}:=[⟨4,call4⟩,⟨5,call5⟩,⟨6,call6⟩,⟨7,call7⟩,⟨35,call35⟩,⟨21,call21⟩,⟨13,call13⟩,⟨15,call15⟩,⟨16,call16⟩,⟨17,call17⟩,⟨14,call14⟩,⟨18,call18⟩,⟨19,call19⟩,⟨20,call20⟩,⟨22,call22⟩,⟨23,call23⟩,⟨24,call24⟩,⟨25,call25⟩,⟨26,call26⟩,⟨12,call12⟩,⟨27,call27⟩,⟨28,call28⟩,⟨42,call42⟩,⟨70,call70⟩,⟨74,call74⟩,⟨44,call44⟩,⟨49,call49⟩,⟨50,call50⟩,⟨51,call51⟩,⟨52,call52⟩,⟨45,call45⟩,⟨56,call56⟩,⟨57,call57⟩,⟨58,call58⟩,⟨59,call59⟩,⟨31,call31⟩,⟨60,call60⟩,⟨53,call53⟩,⟨54,call54⟩,⟨55,call55⟩,⟨61,call61⟩,⟨62,call62⟩,⟨63,call63⟩,⟨64,call64⟩,⟨65,call65⟩,⟨66,call66⟩,⟨67,call67⟩,⟨68,call68⟩,⟨69,call69⟩,⟨46,call46⟩,⟨47,call47⟩,⟨48,call48⟩,⟨83,call83⟩,⟨99,call99⟩,⟨100,call100⟩,⟨101,call101⟩,⟨103,call103⟩,⟨86,call86⟩,⟨95,call95⟩,⟨96,call96⟩,⟨34,call34⟩,⟨37,call37⟩,⟨97,call97⟩,⟨71,call71⟩,⟨87,call87⟩,⟨72,call72⟩,⟨88,call88⟩,⟨89,call89⟩,⟨90,call90⟩,⟨91,call91⟩,⟨92,call92⟩,⟨93,call93⟩,⟨94,call94⟩,⟨98,call98⟩,⟨117,call117⟩,⟨118,call118⟩,⟨119,call119⟩,⟨128,call128⟩,⟨122,call122⟩,⟨129,call129⟩,⟨130,call130⟩,⟨131,call131⟩,⟨43,call43⟩,⟨132,call132⟩,⟨133,call133⟩,⟨123,call123⟩,⟨73,call73⟩,⟨36,call36⟩,⟨77,call77⟩,⟨78,call78⟩,⟨38,call38⟩,⟨127,call127⟩,⟨102,call102⟩,⟨125,call125⟩,⟨126,call126⟩,⟨150,call150⟩,⟨84,call84⟩,⟨151,call151⟩,⟨154,call154⟩,⟨155,call155⟩,⟨156,call156⟩,⟨157,call157⟩,⟨85,call85⟩,⟨158,call158⟩,⟨159,call159⟩,⟨75,call75⟩,⟨76,call76⟩,⟨106,call106⟩,⟨107,call107⟩,⟨79,call79⟩,⟨153,call153⟩,⟨152,call152⟩,⟨171,call171⟩,⟨172,call172⟩,⟨173,call173⟩,⟨174,call174⟩,⟨175,call175⟩,⟨120,call120⟩,⟨121,call121⟩,⟨176,call176⟩,⟨177,call177⟩,⟨178,call178⟩,⟨179,call179⟩,⟨180,call180⟩,⟨181,call181⟩,⟨104,call104⟩,⟨105,call105⟩,⟨108,call108⟩,⟨109,call109⟩,⟨110,call110⟩,⟨111,call111⟩,⟨170,call170⟩,⟨183,call183⟩,⟨184,call184⟩,⟨185,call185⟩,⟨186,call186⟩,⟨187,call187⟩,⟨188,call188⟩,⟨189,call189⟩,⟨190,call190⟩,⟨191,call191⟩,⟨192,call192⟩,⟨193,call193⟩,⟨194,call194⟩,⟨195,call195⟩,⟨196,call196⟩,⟨197,call197⟩,⟨198,call198⟩,⟨199,call199⟩,⟨200,call200⟩,⟨201,call201⟩,⟨134,call134⟩,⟨135,call135⟩,⟨136,call136⟩,⟨137,call137⟩,⟨138,call138⟩,⟨139,call139⟩,⟨140,call140⟩,⟨141,call141⟩,⟨142,call142⟩,⟨143,call143⟩,⟨144,call144⟩,⟨202,call202⟩,⟨203,call203⟩,⟨204,call204⟩,⟨205,call205⟩,⟨206,call206⟩,⟨207,call207⟩,⟨208,call208⟩,⟨209,call209⟩,⟨210,call210⟩,⟨211,call211⟩,⟨212,call212⟩,⟨213,call213⟩,⟨214,call214⟩,⟨215,call215⟩,⟨216,call216⟩,⟨217,call217⟩,⟨218,call218⟩,⟨219,call219⟩,⟨220,call220⟩,⟨221,call221⟩,⟨222,call222⟩,⟨223,call223⟩,⟨224,call224⟩,⟨160,call160⟩,⟨147,call147⟩,⟨161,call161⟩,⟨162,call162⟩,⟨163,call163⟩,⟨164,call164⟩,⟨165,call165⟩,⟨166,call166⟩,⟨167,call167⟩,⟨225,call225⟩,⟨226,call226⟩,⟨227,call227⟩,⟨228,call228⟩,⟨229,call229⟩,⟨230,call230⟩,⟨231,call231⟩,⟨232,call232⟩,⟨233,call233⟩,⟨234,call234⟩,⟨235,call235⟩,⟨236,call236⟩,⟨237,call237⟩,⟨238,call238⟩,⟨239,call239⟩,⟨240,call240⟩,⟨241,call241⟩,⟨242,call242⟩,⟨243,call243⟩,⟨244,call244⟩,⟨245,call245⟩,⟨246,call246⟩,⟨247,call247⟩,⟨248,call248⟩,⟨249,call249⟩,⟨250,call250⟩,⟨182,call182⟩,⟨251,call251⟩,⟨252,call252⟩,⟨253,call253⟩,⟨254,call254⟩,⟨255,call255⟩,⟨256,call256⟩,⟨257,call257⟩,⟨258,call258⟩,⟨260,call260⟩,⟨261,call261⟩,⟨262,call262⟩,⟨263,call263⟩,⟨264,call264⟩,⟨265,call265⟩,⟨266,call266⟩,⟨267,call267⟩,⟨268,call268⟩,⟨269,call269⟩,⟨270,call270⟩,⟨271,call271⟩,⟨272,call272⟩,⟨273,call273⟩,⟨274,call274⟩,⟨275,call275⟩,⟨276,call276⟩,⟨277,call277⟩,⟨278,call278⟩,⟨279,call279⟩,⟨280,call280⟩,⟨281,call281⟩,⟨282,call282⟩,⟨283,call283⟩,⟨284,call284⟩,⟨285,call285⟩,⟨286,call286⟩,⟨287,call287⟩,⟨288,call288⟩,⟨289,call289⟩,⟨290,call290⟩,⟨291,call291⟩,⟨293,call293⟩,⟨294,call294⟩,⟨295,call295⟩,⟨296,call296⟩,⟨297,call297⟩,⟨298,call298⟩,⟨299,call299⟩,⟨301,call301⟩,⟨302,call302⟩,⟨303,call303⟩,⟨304,call304⟩,⟨305,call305⟩,⟨306,call306⟩,⟨307,call307⟩,⟨308,call308⟩,⟨309,call309⟩,⟨310,call310⟩,⟨312,call312⟩,⟨313,call313⟩,⟨315,call315⟩,⟨3,call3⟩,⟨8,call8⟩,⟨10,call10⟩,⟨29,call29⟩,⟨30,call30⟩,⟨32,call32⟩,⟨33,call33⟩,⟨39,call39⟩,⟨41,call41⟩,⟨80,call80⟩,⟨81,call81⟩,⟨82,call82⟩,⟨112,call112⟩,⟨113,call113⟩,⟨114,call114⟩,⟨115,call115⟩,⟨116,call116⟩,⟨145,call145⟩,⟨146,call146⟩,⟨148,call148⟩,⟨149,call149⟩,⟨168,call168⟩,⟨169,call169⟩,⟨9,call9⟩,⟨11,call11⟩,⟨40,call40⟩]
end JB
namespace Y9
open Y1 P1
structure okTS (s:TS):Prop where
 ns:s.sS.length<=4
 nf:s.sA.length<=6
 np:s.sT.length<=8
 nfa:s.sP.length<=16
 sl:∀ x,x∈s.sS->x.1.size<=4611686018427387904
 fl:∀ f,f∈s.sA->1<=f.sS.length/\f.sS.length<=3/\∀ x,x∈f.sS->0<=x/\x<s.sS.length
 pl:∀ p,p∈s.sT->p.params.length<=8/\∀ x,x∈p.params->0<=x.2/\x.2<s.sS.length
structure okCk (c:Ck):Prop where
 ts:okTS c.ts
 calls:c.calls<=c.ts.sT.length
 timed:c.calls<=c.timed.length
theorem VA{c:Ck}(i:okCk c){nm:cD}{p:Nat}(h:zh c nm=some p):p<c.calls/\p<c.ts.sT.length:=by
 unfold zh at h;rw[List.findIdx?_eq_some_iff_getElem]at h;obtain⟨g,_⟩:=h;simp at g;omega
theorem Xt(c:Ck):∀ ks:List Nd,Z8 c ks=ks.any (ye c)
 | []=>rfl
 |k :: ks=>by simp[Z8,Xt c ks]
noncomputable abbrev szN(n:Nd):Nat:=SizeOf.sizeOf n
theorem jC{n k:Nd}(h:k∈n.sM):szN k<szN n:=by
 obtain⟨op,g,i,ks,p⟩:=n;have:SizeOf.sizeOf k<SizeOf.sizeOf ks:=List.sizeOf_lt_of_mem h;simp only[szN,Nd.mk.sizeOf_spec];omega
inductive jD:Nd->Prop where
 |mk (n:Nd) (h:n.sM.length<=1000) (hk:∀ k,k∈n.sM->jD k):jD n
theorem jD.len{n:Nd}(h:jD n):n.sM.length<=1000:=by cases h;assumption
theorem jD.kid{n k:Nd}(h:jD n)(g:k∈n.sM):jD k:=by
 cases h with
 |mk _ _ h=>exact h k g
theorem mA(c:Ck)(n:Nd):ye c n=(yo c n.op n.name||n.sM.any (ye c)):=by
 obtain⟨op,g,i,ks,p⟩:=n;simp[ye,Xt,Nd.op,Nd.name,Nd.sM]
end Y9
namespace E1
section
variable {l:List Int}
theorem Xu{n:Int}(g:0<=n)(j:n<=20):∀ i:Nat,i<=3->0<=n ^ i/\n ^ i<=8000:=by
 have l:0<=n*n:=Int.mul_nonneg g g;have o:n*n<=20*20:=ub j j g zOm;have r:0<=n*n*n:=Int.mul_nonneg l g;have t:n*n*n<=20*20*20:=ub o j g zOm;intro i p
 match i,p with
 | 0,_=>rw[Int.pow_zero];omega
 | 1,_=>rw[Int.pow_succ,Int.pow_zero];omega
 | 2,_=>rw[Int.pow_succ,Int.pow_succ,Int.pow_zero,Int.one_mul];omega
 | 3,_=>grind
def powN(k:Int):Nat:=(min k 3).toNat
def powI(n k:Int):Int:=n ^ powN k
def sorted(l:List Int):Prop:=l.Pairwise (·<·)
instance (l:List Int):Decidable (sorted l):=inferInstanceAs (Decidable (l.Pairwise (·<·)))
theorem mB(h:∀(i:Nat) (h:i+1<l.length),l[i]<l[i+1]):sorted l:=by
 unfold sorted;induction l with
 |nil=>exact .nil
 |cons a l g =>
  have g:=g fun i p=>by
   have:=h (i+1) (zUs p);rw[List.getElem_cons_succ,List.getElem_cons_succ]at this;exact this
  refine yh.2 ⟨?_,g⟩;cases l with
  |nil=>simp
  |cons b l =>
   have j:=h 0 zSp;simp at j;intro c o;rcases qp.1 o with rfl|o
   .exact j
   grind [yh]
theorem Z9(h:sorted l){i j:Nat}(g:i<j)(o:j<l.length):l[i]' zOm<l[j]:=List.pairwise_iff_getElem.1 h i j zOm o g
def zy(n:Int)(r:Rl):Bool:=decide (0<=n)&&decide (n<=12)&&decide (1<=r.ar)&&decide (r.ar<=3)&&r.ts.all (fun t=>decide (0<=t)&&decide (t<powI n r.ar))&&decide (sorted r.ts)
def inOk(a b:Rl):Bool:=a.ts.all (fun t=>decide (t∈b.ts))
theorem mC(h:sorted l):l.Nodup:=List.Pairwise.imp (fun h e=>zOm) h
structure GR (n:Int) (r:Rl):Prop where
 ar1:1<=r.ar
 ar3:r.ar<=3
 val:∀ t,t∈r.ts->0<=t/\t<powI n r.ar
 srt:sorted r.ts
theorem mD{m:Nat}(i:sorted l)(h:∀ t,t∈l->0<=t/\t<(m:Int)):l.length<=m:=by
 have:=jv (l₂:=(qm m).map fun x:Nat=>(x:Int)) (mC i) fun x j=>by
  obtain⟨o,p⟩:=h x j;exact qs.2 ⟨x.toNat,zY.2 zOm,zOm⟩
 grind
end
end E1
namespace E3
open P1
structure Md where
 sc:Sc
 sK:List (List Rl)
 loop:Int
abbrev cSt(s:List Rl):List AV:=[lRel s]
abbrev lSt(l:List (List Rl)):AV := .lst false (l.map cSt)
abbrev cMd(m:Md):List AV:=[lI m.sc.sC,aI m.sc.sN,lSt m.sK,aI m.loop]
abbrev eMd(m:Md):AV := .agg (cMd m)
abbrev XE(C:Type):=Except Int C
structure Pl where
 st:Nat
 env:List (cD×Int)
structure Mo where
 ts:TS
 m:Md
end E3
namespace E5
open Y1 E3
variable (x:Mo) (p:Pl) (f g d e:Nd) (nm:cD)
end E5
namespace E7
end E7
namespace EL
end EL
namespace EJ
end EJ
namespace EM
end EM
end Go.Proofs.YthkdjhkmlmjkbaaGreatDoor
namespace Go.Ev
open Go Go.RowKit
end Go.Ev
namespace Go.Proofs.YthkdjhkmlmjkbaaGreatDoor
open Go Go.Ev Go.Proofs Tryz
namespace EN
end EN
namespace E4
open E1
theorem Xv(n k:Int)(I:0<=n)(J:n<=20):qd qb 66 [aI n,aI k] (aI (powI n k)):=by
 refine qSU call66 func66 rfl ?_;refine qk.up (powN k) (fun i st=>st.tm 0=aI n/\st.tm 1=aI k/\st.tm 5=aI (n ^ i)/\st.tm 6=aI i/\st.mu=[]) ?_ ?_
 .simp [go_sem]
 rintro i st T ⟨P,o,p,r,t⟩;by_cases g:i<powN k
 .have l:(i:Int)<k:=by unfold powN at g;omega
  have C:(i:Int)<3:=by unfold powN at g;omega
  have R:=Xu I J (i+1) zOm;rw[Int.pow_succ]at R;simp[go_sem,P,o,p,r,t,l,C];refine⟨g,?_,zWr⟩;rw[Int.pow_succ,zWr]
 .have j:i=powN k:=by omega
  by_cases l:(i:Int)<k
  .have C:¬(i:Int)<3:=by unfold powN at g;omega
   simp[go_sem,o,p,r,t,l,C];rw[powI,j];exact .zsc _
  .simp [go_sem,o,p,r,t,l]
   rw[powI,j];exact .zsc _
theorem VB(n:Int)(r:Rl)(hl:r.ts.length<=9223372036854775807):qd qb 63 [aI n,eRel r] (aB (zy n r)):=by
 refine qSV call63 func63 rfl ?_;by_cases R:n<0
 case pos =>
  simp[go_sem,R,zy,show ¬ 0<=n by omega];exact .zsc _
 by_cases o:12<n
 case pos =>
  simp[go_sem,R,o,zy,show ¬n<=12 by omega];exact .zsc _
 by_cases h3:r.ar<1
 case pos =>
  simp[go_sem,R,o,h3,zy,show ¬ 1<=r.ar by omega];exact .zsc _
 by_cases h4:3<r.ar
 case pos =>
  simp[go_sem,R,o,h3,h4,zy,show ¬r.ar<=3 by omega];exact .zsc _
 simp[go_sem,R,o,h3,h4];refine qk.up r.ts.length (fun k st=>st.tm 0=aI n/\st.tm 3 = .ip [aI r.ar,lI r.ts]/\st.tm 5=aI k/\st.mu=[]/\∀(i:Nat) (h:i<r.ts.length),i<k->0<=r.ts[i]/\r.ts[i]<powI n r.ar/\(0<i->r.ts[i-1]<r.ts[i])) ?_ ?_
 .simp [go_sem]
 rintro k st hk ⟨e0,I,J,hm,he⟩;by_cases g:k<r.ts.length
 .have p:¬(0<=r.ts[k]/\r.ts[k]<powI n r.ar)->zy n r=false:=by
   intro C;have:r.ts.all (fun t=>decide (0<=t)&&decide (t<powI n r.ar))=false:=by
    rw[<-Bool.not_eq_true,qu];intro j;have:=j _ (qo g);simp at this;exact C this
   simp only[zy,this,Bool.and_false,Bool.false_and]
  have T:0<k->¬(r.ts[k-1]<r.ts[k])->zy n r=false:=by
   intro hk C;have:¬sorted r.ts:=fun h=>C (Z9 h zOm g)
   simp only[zy,this,decide_false,Bool.and_false]
  have hw:0<k->qx.wrap ((k:Int)-1)=((k-1:Nat):Int):=fun h=>by rw[zWr];omega
  have next:0<=r.ts[k]->r.ts[k]<powI n r.ar->(0<k->r.ts[k-1]<r.ts[k])->k<r.ts.length/\qx.wrap ((k:Int)+1)=(k:Int)+1/\∀(i:Nat) (h:i<r.ts.length),i<k+1->0<=r.ts[i]/\r.ts[i]<powI n r.ar/\(0<i->r.ts[i-1]<r.ts[i]):=by
   intro n1 n2 n3;refine⟨g,zWr,fun i h P=>?_⟩;rcases jf.1 P with o|o
   .exact he i h o
   .subst o;exact⟨n1,n2,n3⟩
  simp[go_sem,I,J,hm,g];refine aQ zKr ?_;simp[go_sem,I,J,g];by_cases ha:r.ts[k]<0
  .simp [go_sem,ha]
   rw[p zOm];exact .zsc _
  simp[go_sem,e0,I,J,g,ha];refine cA (Xv n r.ar zOm zOm) (.zs (.zs .nil)) ?_;by_cases C:powI n r.ar<=r.ts[k]
  .simp [go_sem,C]
   rw[p zOm];exact .zsc _
  by_cases l:0<k
  .have hw:=hw l
   have U:k-1<r.ts.length:=zOm;by_cases hc:r.ts[k]<=r.ts[k-1]
   .simp [go_sem,I,J,g,C,l,hw,U,hc]
    rw[T l zOm];exact .zsc _
   .simp [go_sem,e0,I,J,g,C,l,hw,U,hc]
    exact(next zOm zOm (fun _=>zOm)).2
  .simp [go_sem,e0,I,J,g,C,l]
   exact(next zOm zOm (fun _=>zOm)).2
 .have a0:k=r.ts.length:=by omega
  subst a0;have j:r.ts.all (fun t=>decide (0<=t)&&decide (t<powI n r.ar))=true:=by
   rw[qu];intro t ht;obtain⟨i,P,rfl⟩:=zX ht;have:=he i P P;simp;omega
  have a1:sorted r.ts:=mB fun i P=>by simpa using (he (i+1) P P).2.2 zOm
  simp[go_sem,I,J,hm];simp only[zy,j,a1,show 0<=n by omega,show n<=12 by omega,show 1<=r.ar by omega,show r.ar<=3 by omega];exact .zsc _
theorem VC(r:Rl)(x:Int)(hl:r.ts.length<=1000000000)(hs:sorted r.ts):qd qb 23 [eRel r,aI x] (aB (decide (x∈r.ts))):=by
 refine qSU call23 func23 rfl ?_;refine cC (fun n st=>∃ t g:Nat,n=g-t/\st.tm 1=aI x/\st.tm 2 = .ip [aI r.ar,lI r.ts]/\st.tm 5=aI t/\st.tm 6=aI g/\st.mu=[]/\t<=g/\g<=r.ts.length/\(∀(i:Nat) (h:i<r.ts.length),i<t->r.ts[i]<x)/\(∀(i:Nat) (h:i<r.ts.length),g<=i->x<=r.ts[i])) r.ts.length ?_ ?_
 .exact ⟨0,r.ts.length,zOm,zSi,zSi,zSi,zSi,zSi,zOm,zOm,fun i h h'=>zOm,fun i h h'=>zOm⟩
 rintro n st ⟨t,g,hn,J,C,P,R,T,a3,a4,I,U⟩;by_cases a0:t<g
 .have hw:qx.wrap (qx.wrap ((t:Int)+g) / 2)=(((t+g) / 2:Nat):Int):=by
   rw[yi (n:=(t:Int)+g) zOm zOm,zWr];omega
  have a1:(qx.wrap ((t:Int)+g)).tdiv 2=qx.wrap ((t:Int)+g) / 2:=Int.tdiv_eq_ediv_of_nonneg (by rw[zWr];omega);have j:(t+g) / 2<r.ts.length:=zOm;generalize a5:(t+g) / 2=mid at *
  by_cases hb:r.ts[mid]<x
  .simp [go_sem,J,C,P,R,T,a0,a1,hw,j,hb]
   refine Keep.loop (g-(mid+1)) zOm ⟨mid+1,g,rfl,zS1 J,zS1 C,?_,zS1 R,zSi,zOm,zOm,fun i h h'=>?_,U⟩
   .simp [go_sem]
    exact zWr
   .rcases Nat.lt_or_ge i mid with p|p
    .exact Int.lt_trans (Z9 hs p j) hb
    .have:i=mid:=by omega
     subst this;exact hb
  .simp [go_sem,J,C,P,R,T,a0,a1,hw,j,hb]
   refine Keep.loop (mid-t) zOm ⟨t,mid,rfl,zS1 J,zS1 C,zS1 P,zSi,zSi,zOm,zOm,I,fun i h h'=>?_⟩;rcases Nat.lt_or_ge mid i with p|p
   .have:=Z9 hs p h;omega
   .have:i=mid:=by omega
    subst this;omega
 .have a2:g=t:=by omega
  subst a2;by_cases l:g<r.ts.length
  .by_cases he:r.ts[g]=x
   .simp [go_sem,J,C,P,R,T,l,he]
    have:x∈r.ts:=he ▸ qo l;simp[this];exact .zsc _
   .simp [go_sem,J,C,P,R,T,l,he]
    have:¬x∈r.ts:=fun h=>by
     obtain⟨i,o,rfl⟩:=zX h;rcases Nat.lt_or_ge i g with p|p
     .have:=I i o p;omega
     .rcases Nat.lt_or_ge g i with h4|h4
      .have:=Z9 hs h4 o
       have:=U g l zOm;omega
      .have:i=g:=by omega
       subst this;exact he rfl
    simp[this];exact .zsc _
  .simp [go_sem,C,P,R,T,l]
   have:¬x∈r.ts:=fun h=>by
    obtain⟨i,o,rfl⟩:=zX h;have:=I i o zOm;omega
   simp[this];exact .zsc _
theorem mE(a b:Rl)(hl:a.ts.length<=1000000000)(a0:b.ts.length<=1000000000)(hs:sorted b.ts):qd qb 123 [eRel a,eRel b] (eRel ⟨a.ar,a.ts.filter (fun t=>decide (¬t∈b.ts))⟩):=by
 refine qSU call123 func123 rfl ?_;refine cC (fun m st=>∃ k P g,m=a.ts.length-k/\k<=a.ts.length/\st.tm 2 = .ip [aI a.ar,lI a.ts]/\st.tm 3 = .ip [aI b.ar,lI b.ts]/\st.tm 4 = .ptr 0 0/\st.tm 5 = .ptr 1 0/\st.tm 6=aI (k:Nat) /\
  st.mu=[.arr [aI 0,.lst true []],.arr [aI a.ar,P]]++g/\OwnF 2 ([.dead,.dead]++g) 1 P (((a.ts.take k).filter (fun t=>decide (¬t∈b.ts))).map rI)) a.ts.length ?_ ?_
 .exact ⟨0,.lst true [],[],zOm,zOm,zSi,zSi,zSi,zSi,zSi,zSi,by simpa using OwnF.nil zSp⟩
 rintro m st ⟨k,P,g,rfl,hk,I,e3,e4,T,R,hm,o⟩;have o:=o.low (low:=[.dead,.dead]) (low':=[.arr [aI 0,.lst true []],.arr [aI a.ar,P]]) rfl;by_cases j:k<a.ts.length
 .simp [go_sem,I,R,j]
  refine aQ zKr ?_;simp[go_sem,I,e3,R,j];refine cA (VC b a.ts[k] a0 hs) (.zk (zK b) (.zs .nil)) ?_;have U:a.ts.take (k+1)=a.ts.take k++[a.ts[k]]:=by rw[List.take_add_one,qq j];rfl
  by_cases hb:a.ts[k]∈b.ts
  .simp [go_sem,R,hb]
   refine Keep.loop (a.ts.length-(k+1)) zOm ⟨k+1,P,g,rfl,zOm,zS1 I,zS1 e3,zS1 e4,zS1 T,?_,zS1 hm,?_⟩
   .simp [go_sem];exact zWr
   .rw [U,List.filter_append];simpa[go_sem,hb] using o.low (low':=[.dead,.dead]) rfl
  .simp [go_sem,hb]
   refine aQ zKr ?_;simp[go_sem,I,T,R,j,hm];refine fY (low:=[.arr [aI 0,.lst true []],.arr [aI a.ar,P]]) (e:=3) (bt:=8) (z:=0) (xs:=(a.ts.take k).filter (fun t=>decide (¬t∈b.ts))) (ys:=[a.ts[k]]) zSi zSi zSi zOm o (by simp[qE]) ?_ ?_
   .have:=List.length_filter_le (fun t=>decide (¬t∈b.ts)) (a.ts.take k)
    have:=List.length_take_le k a.ts;have h3:[a.ts[k]].length=1:=rfl;omega
   intro a1 p C;simp[go_sem,T,R,C.cells,C.one];refine Keep.loop (a.ts.length-(k+1)) zOm ⟨k+1,a1,p,rfl,zOm,zS1 I,zS1 e3,zS1 e4,zS1 T,?_,zSi,?_⟩
   .simp [go_sem];exact zWr
   .rw [U,List.filter_append]
    simpa[go_sem,hb] using C.low (low':=[.dead,.dead]) rfl
 .have a2:k=a.ts.length:=by omega
  subst a2;simp[go_sem,I,e4,T,R,hm,o.one];rw[zt]at o;simp at o;exact Rd.rel (r:=⟨a.ar,a.ts.filter (fun t=>!decide (t∈b.ts))⟩) (o.low (low:=[.arr [aI 0,.lst true []],.arr [aI a.ar,P]]) (low':=[.arr [aI a.ar,P],.arr [aI a.ar,P]]) rfl).rdI
theorem in06(a b:Rl)(i:a.ts.length<=1000000000)(g:b.ts.length<=1000000000)(j:sorted b.ts):qd qb 86 [eRel a,eRel b] (aB (inOk a b)):=by
 refine qSU call86 func86 rfl ?_;refine fG (mE a b i g j) (.zk (zK a) (.zk (zK b) .nil)) ?_;have e:inOk a b=decide (∀ t,t∈a.ts->t∈b.ts):=by
  rw[jN];simp[inOk]
 rw[e];exact .zsc _
theorem Xw(a b:List Int)(ha:a.length<=9223372036854775807):qd qb 45 [lI a,lI b] (aB (decide (a=b))):=by
 refine qSV call45 func45 rfl ?_;by_cases p:a.length=b.length
 case neg =>
  simp[go_sem,p];rw[decide_eq_false (by rintro rfl;exact p rfl)];exact .zsc _
 simp[go_sem,p];refine qk.up a.length (fun k st=>st.tm 0=lI a/\st.tm 1=lI b/\st.tm 12=aI a.length/\st.tm 13=aI k/\st.mu=[]/\∀(i:Nat) (h:i<a.length) (r:i<b.length),i<k->a[i]=b[i]) ?_ ?_
 .simp [go_sem,p]
 rintro k st hk ⟨J,P,j,l,R,T⟩;by_cases o:k<a.length
 .have g:k<b.length:=by omega
  simp[go_sem,j,l,R,o]
  try refine aQ zKr ?_
  by_cases t:a[k]=b[k]
  .simp [go_sem,J,P,j,l,o,g,t]
   refine⟨zWr,fun i h r U=>?_⟩;rcases jf.1 U with C|C
   .exact T i h r C
   .subst C;exact t
  .simp [go_sem,J,P,o,g,t]
   rw[decide_eq_false (by rintro rfl;simp at t)];exact .zsc _
 .have I:k=a.length:=by omega
  subst I;simp[go_sem,j,l,R];rw[decide_eq_true (List.ext_getElem p fun i h r=>T i h r h)];exact .zsc _
theorem Xx(a b:Rl)(hl:a.ts.length<=4611686018427387904):qd qb 65 [eRel a,eRel b] (aB (decide (a=b))):=by
 have o:(a=b)=(a.ar=b.ar/\a.ts=b.ts):=by cases a;cases b;simp
 refine qSV call65 func65 rfl ?_;by_cases p:a.ar=b.ar
 case neg =>
  simp[go_sem,p,o];exact .zsc _
 by_cases j:a.ts.length=b.ts.length
 case neg =>
  simp[go_sem,p,j];rw[decide_eq_false (by rintro rfl;exact j rfl)];exact .zsc _
 simp[go_sem,p,j];refine qk.up a.ts.length (fun k st=>st.tm 2 = .ip [aI a.ar,lI a.ts]/\st.tm 3 = .ip [aI b.ar,lI b.ts]/\st.tm 5=aI k/\st.mu=[]/\∀(i:Nat) (h:i<a.ts.length) (C:i<b.ts.length),i<k->a.ts[i]=b.ts[i]) ?_ ?_
 .simp [go_sem,p]
 rintro k st hk ⟨r,R,t,J,T⟩;by_cases g:k<a.ts.length
 .have l:k<b.ts.length:=by omega
  by_cases I:a.ts[k]=b.ts[k]
  .simp [go_sem,r,t,J,g]
   refine aQ zKr ?_;simp[go_sem,r,R,t,g,l,I];refine⟨zWr,fun i h C U=>?_⟩;rcases jf.1 U with j|j
   .exact T i h C j
   .subst j;exact I
  .simp [go_sem,r,t,J,g]
   refine aQ zKr ?_;simp[go_sem,r,R,t,g,l,I];rw[decide_eq_false (by rintro rfl;exact I rfl)];exact .zsc _
 .have P:k=a.ts.length:=by omega
  subst P;simp[go_sem,r,t,J];rw[decide_eq_true (o ▸ ⟨p,List.ext_getElem j fun i h C=>T i h C h⟩)];exact .zsc _
end E4
namespace EO
open YS
section
variable {C:Type}{s:AV}{K:AV->Mu->Prop}{l:List Int}{mu:Mu}
def qw:AV->Option Nat
 | .sl b _ _ _=>some b
 |_=>none
def OwnI(mu:Mu)(s:AV)(l:List Int):Prop:=(s = .lst true []/\l=[])\/∃ b,s = .sl b 1 0 l.length/\mu[b]?=some (.arr (l.map aI))
def OwnV(mu:Mu)(s:AV)(l:List Int):Prop:=(s = .lst true []/\l=[])\/∃ b cells,s = .sl b 1 0 l.length/\mu[b]?=some (.arr cells)/\l.length<=cells.length/\cells.take l.length=l.map aI
theorem OwnI.v(h:OwnI mu s l):OwnV mu s l:=by
 rcases h with h|⟨b,g,i⟩
 .exact .inl h
 .exact .inr ⟨b,_,g,i,zSp,by rw[zi zSp]⟩
theorem OwnV.one(h:OwnV mu s l):s.one=true:=by
 rcases h with ⟨rfl,_⟩|⟨b,c,rfl,_⟩<;>rfl
theorem OwnV.cells(h:OwnV mu s l):s.cells=[s]:=by
 rcases h with ⟨rfl,_⟩|⟨b,c,rfl,_⟩<;>rfl
theorem OwnV.same{p:Mu}(h:OwnV mu s l)(g:∀ b,qw s=some b->p[b]?=mu[b]?):OwnV p s l:=by
 rcases h with h|⟨b,c,rfl,i,j,o⟩
 .exact .inl h
 .exact .inr ⟨b,c,rfl,by rw[g b rfl];exact i,j,o⟩
theorem OwnI.same{p:Mu}(h:OwnI mu s l)(g:∀ b,qw s=some b->p[b]?=mu[b]?):OwnI p s l:=by
 rcases h with h|⟨b,rfl,i⟩
 .exact .inl h
 .exact .inr ⟨b,rfl,by rw[g b rfl];exact i⟩
theorem OwnV.lt(h:OwnV mu s l){b:Nat}(g:qw s=some b):b<mu.length:=by
 rcases h with ⟨rfl,_⟩|⟨j,c,rfl,i,_⟩
 .cases g
 .cases g;exact(qn.1 i).1
theorem OwnV.rd(h:OwnV mu s l):Rd mu s (lI l):=by
 rcases h with ⟨rfl,rfl⟩|⟨b,cells,rfl,p,t,o⟩
 .exact .wk _ true _ (.hf _ (HF.lst fun r C=>by simp at C))
 .refine .sl b 1 0 _ cells _ p (zUs t) zSp (fun x g=>by
   obtain⟨l,_,rfl⟩:=qs.1 g;rfl) (fun k x y g j=>?_)
  rw[yw]at g;rw[uD,<-o,z8]at j;split at j
  .rw [g]at j;cases j
   have:x∈cells.take l.length:=by
    refine qY (i:=k) ?_;rw[z8,if_pos (by assumption)];exact g
   rw[o]at this;obtain⟨z,_,rfl⟩:=qs.1 this;exact .zsc _
  grind
theorem aA{P:qf}{t g e bt:Nat}{x:AV}{ys:List Int}{z:Int}(J:qy P t=some (e,1,bt))(j:(qy P g).isSome=true)(R:qv P e=some (aI z))
  (T:bt<=16384) (U:OwnV mu s l) (hx:qE mu x=some (ys.map rI)) (I:l.length+ys.length<=4294967296)
  (k:∀ av p,OwnI p av (l++ys)->(∀ i,i<mu.length->qw s≠some i->p[i]?=mu[i]?)->mu.length<=p.length->(∀ b,qw av=some b->b=mu.length)->K av p):qI P mu #[t,g] s x K:=by
 refine .inl ⟨t,g,e,1,bt,ys.map rI,rfl,J,j,⟨_,R,rfl,rfl⟩,zOm,T,hx,ja ys,?_⟩;rcases U with ⟨rfl,rfl⟩|⟨b,cells,rfl,hc,h1,h2⟩
 .refine .inl ⟨[],rfl,fun r hr=>by simp at hr,zUs I,fun h=>?_,fun h=>?_⟩
  .have:ys=[]:=by simpa using h
   subst this;exact k _ _ (.inl ⟨rfl,rfl⟩) (fun _ _ _=>rfl) (qr _) (fun _ h=>by cases h)
  .refine k _ _ (.inr ⟨mu.length,zSp,by simp[uD]⟩) (fun i o _=>?_) zSp (fun b h=>by cases h;rfl)
   rw[qT o]
 .refine .inr ⟨b,l.length,cells,rfl,hc,zUs h1,zUs I,?_⟩
  have e1:cells.take (l.length*1)++(ys.map rI).flatten=(l++ys).map aI:=by rw[Nat.mul_one,h2,yv,uD]
  have e2:l.length+(ys.map rI).length=(l++ys).length:=zSp;rw[e1,e2];refine k _ _ (.inr ⟨mu.length,rfl,?_⟩) (fun i o C=>?_) zSp (fun b h=>by cases h;rfl)
  .simp
  .rw [qT (zUs o),jK (fun h=>C (by rw[h];rfl))]
theorem aC{P:qf}{t j e bt:Nat}{x z:Int}(o:qy P t=some (e,1,bt))(g:(qy P j).isSome=true)(r:qv P e=some (aI z))
  (C:bt<=16384) (I:OwnV mu s l) (J:l.length+1<=4294967296)
  (k:∀ av p,OwnI p av (l++[x])->(∀ i,i<mu.length->qw s≠some i->p[i]?=mu[i]?)->mu.length<=p.length->(∀ b,qw av=some b->b=mu.length)->K av p):qI P mu #[t,j] s (.lst true [[aI x]]) K:=
 aA (ys:=[x]) o g r C I rfl J k
theorem sumG(l:List Int)(P:l.length<=1000000)(C:∀ k,0<=sumI (l.take k)/\sumI (l.take k)<=1000000):qd qb 151 [lI l] (aI (sumI l)):=by
 refine qSU call151 func151 rfl ?_;refine qk.up l.length (fun k st=>st.tm 6=lI l/\st.tm 7=aI l.length/\st.tm 3=aI (sumI (l.take k))/\st.tm 8=aI k/\st.mu=[]) ?_ ?_
 .simp [go_sem,sumI]
 rintro k st R ⟨I,o,p,r,t⟩;by_cases g:k<l.length
 .have J:=vW l k g
  have i:=C (k+1);rw[J]at i;simp[go_sem,I,o,p,r,t,g]
  grind [yi]
 .have j:k=l.length:=by omega
  subst j;simp[go_sem,o,p,r,t];exact .zsc _
theorem mF(sc:Sc)(g:GSc sc):qd qb 122 [eSc sc] (aI (sumI sc.sC)):=by
 refine qSU call122 func122 rfl ?_;refine fG (sumG _ (Nat.le_trans g.1 zOm) fun k=>zW1 (g.sum k)) (.zk (qM _) .nil) ?_;exact .zsc _
theorem mG(sc:Sc)(g:GSc sc)(s:Nat)(i:s<=sc.sC.length):qd qb 121 [eSc sc,aI s] (aI (sumI (sc.sC.take s))):=by
 refine qSV call121 func121 rfl ?_;have j:WKs [.lst false ((sc.sC.map rI).take s)] [lI (sc.sC.take s)] := .cons (by rw[<-List.map_take];exact .hf (qM _)) .nil;simp[go_sem,i];refine⟨⟨_,_,⟨rfl,rfl⟩,(ja sc.sC).ok⟩,?_⟩;refine fG (sumG (sc.sC.take s) (by simp;have:=g.1;omega) fun k=>by rw[List.take_take];have:=g.sum (min k s);omega) j ?_;exact .zsc _
def jE(p:C->Bool):List C->Int->Int
 | [],_ => -1
 |x :: l,i=>if p x=true then i else jE p l (i+1)
theorem mH(p:C->Bool)(l:List C)(k:Nat)(i:Int)(h:k<l.length):jE p (l.drop k) i=if p l[k]=true then i else jE p (l.drop (k+1)) (i+1):=by
 rw[zH h,jE]
theorem Xy(p:C->Bool):∀(l:List C) (i:Int),0<=i->decide (0<=jE p l i)=l.any p
 | [],i,h=>by simp[jE]
 |x :: l,i,h=>by
  rw[jE,List.any_cons];cases g:p x with
  |true=>simp[h]
  |false=>simpa using Xy p l (i+1) zOm
theorem mI(xs:List Int)(y:Int)(J:xs.length<=1000000000):qd qb 102 [lI xs,aI y] (aI (jE (fun x=>decide (x=y)) xs 0)):=by
 refine qSU call102 func102 rfl ?_;refine qk.up xs.length (fun k st=>st.tm 0=lI xs/\st.tm 1=aI y/\st.tm 7=aI xs.length/\st.tm 8=aI k/\st.mu=[]/\jE (fun x=>decide (x=y)) (xs.drop k) k=jE (fun x=>decide (x=y)) xs 0) ?_ ?_
 .simp [go_sem]
 rintro k st P ⟨C,I,l,o,p,i⟩;by_cases g:k<xs.length
 .rw [mH _ _ _ _ g]at i
  by_cases j:xs[k]=y
  .rw [if_pos (zUs j)]at i
   subst j;simp[go_sem,C,I,l,o,p,g];rw[<-i];exact .zsc _
  .rw [if_neg (zUs j)]at i
   have r:¬y=xs[k]:=fun h=>j h.symm
   simp[go_sem,C,I,l,o,p,g,r]
   grind [yi]
 .have t:k=xs.length:=by omega
  subst t;rw[List.drop_length]at i;simp[go_sem,l,o,p];rw[<-i];exact .zsc _
theorem Xz(xs:List Int)(y:Int)(g:xs.length<=1000000000):qd qb 72 [lI xs,aI y] (aB (decide (y∈xs))):=by
 refine qSU call72 func72 rfl ?_;refine cA (mI xs y g) (.zk (qM _) (.zs .nil)) ?_;have e:decide (y∈xs)=decide (0<=jE (fun x=>decide (x=y)) xs 0):=by
  rw[Xy _ _ _ zOm,jN,List.any_eq_true];simp
 rw[e];simp[go_sem];exact .zsc _
abbrev lB(xs:List Bool):AV := .lst false (xs.map fun b=>[aB b])
end
end EO
namespace F1
open E3
theorem Ya(l:List (List Rl)):HF (lSt l):=HF.lst fun r i c g=>by
 obtain⟨n,_,rfl⟩:=qs.1 i;simp at g;subst g;exact Vm _
theorem mJ(m:Md):∀ c,c∈cMd m->HF c:=by
 intro c g;simp at g;rcases g with rfl|rfl|rfl|rfl
 .exact qM _
 .exact HF.sc _
 .exact Ya _
 .exact HF.sc _
theorem qN(m:Md):HF (eMd m):=HF.agg (mJ m)
abbrev errV(e:Int):AV := .ifc 51 (aI e)
def endE:XE Rl->AEnd
 | .ok r => .ret (eRel r)
 | .error e => .pan (errV e)
def endN:XE Int->AEnd
 | .ok r => .ret (aI r)
 | .error e => .pan (errV e)
def endB:XE Bool->AEnd
 | .ok r => .ret (aB r)
 | .error e => .pan (errV e)
def end2:XE (Rl×Rl)->AEnd
 | .ok r => .ret (.tup [eRel r.1,eRel r.2])
 | .error e => .pan (errV e)
@[go_sem] theorem endE_ok(r:Rl):endE (.ok r) = .ret (eRel r):=rfl
@[go_sem] theorem endE_err(e:Int):endE (.error e) = .pan (errV e):=rfl
@[go_sem] theorem endN_ok(r:Int):endN (.ok r) = .ret (aI r):=rfl
@[go_sem] theorem endN_err(e:Int):endN (.error e) = .pan (errV e):=rfl
@[go_sem] theorem endB_ok(r:Bool):endB (.ok r) = .ret (aB r):=rfl
@[go_sem] theorem endB_err(e:Int):endB (.error e) = .pan (errV e):=rfl
@[go_sem] theorem end2_ok(r:Rl×Rl):end2 (.ok r) = .ret (.tup [eRel r.1,eRel r.2]):=rfl
@[go_sem] theorem end2_err(e:Int):end2 (.error e) = .pan (errV e):=rfl
theorem mK(mu:Mu)(b:Nat)(e:Int)(g:mu[b]?=some (.arr [aI e])):yL qb 199 [.ptr b 0] mu none fun p=>p=mu:=by
 refine yL.of_awp call199 func199 rfl ⟨_,_,_,_,rfl⟩ (zG zKr) zKr zKr (pl:={}) ?_;simp[go_sem]
end F1
namespace EP
theorem mL{C:Type}{l:List C}{n:Nat}(h:n<l.length):l.take (n+1)=l.take n++[l[n]]:=by rw[List.take_add_one,qq h];rfl
end EP
namespace EQ
open EO
theorem aP{mu:Mu}{j:Int}{av:AV}{l:List Int}(h:OwnV mu av l):Rd mu (.agg [aI j,av]) (eRel ⟨j,l⟩):=by
 refine .agg _ _ rfl fun k u v g i=>?_
 match k with
 | 0=>simp at g i;subst g;subst i;exact .zsc _
 | 1=>simp at g i;subst g;subst i;exact h.rd
 |k+2=>simp at g
end EQ
namespace ER
theorem VD{x:AV}(h:HF x):HF (.ip [x]):=HF.ip fun c g=>by simp at g;subst g;exact h
end ER
namespace E2
open E1
theorem mM{n k:Int}(g:0<=k)(i:k<=3):powI n k=n ^ k.toNat:=by
 grind [powI,powN]
theorem mN(n:Int):powI n 1=n:=by rw[mM zOm zOm];exact Int.pow_succ n 0 ▸ by simp
theorem GR.one{n a:Int}(g:0<=a)(i:a<n):GR n ⟨1,[a]⟩:=
 ⟨by grind,by grind,fun t j=>by grind [qV,powI,mN],List.pairwise_singleton _ _⟩
end E2
namespace ET
open EO
def RelM(mu:Mu)(g:Int)(l:List Int):Prop:=∃ P,mu[0]?=some (.arr [aI 0,.lst true []])/\mu[1]?=some (.arr [aI g,P])/\OwnI mu P l/\qw P≠some 0/\qw P≠some 1
theorem RelM.step{mu p:Mu}{j:Int}{av g:AV}{l:List Int}(J:mu[0]?=some (.arr [aI 0,.lst true []]))(o:mu[1]?=some (.arr [aI j,av]))(P:qw av≠some 0)(R:qw av≠some 1)(r:OwnI p g l)
  (T:∀ i,i<mu.length->qw av≠some i->p[i]?=mu[i]?) (U:mu.length<=p.length) (hb:∀ b,qw g=some b->b=mu.length):p[1]?=some (.arr [aI j,av])/\RelM (p.set 1 (.arr [aI j,g])) j l:=by
 have l1:1<mu.length:=(qn.1 o).1;have t:qw g≠some 0:=fun e=>by grind
 have C:qw g≠some 1:=fun e=>by grind
 refine⟨by grind,g,by grind,by grind,r.same fun b I=>?_,t,C⟩
 grind
end ET
namespace EW
open EO EP EQ ER ET
inductive TagM (p:Mu->Prop):Type where
 |mk:TagM p
def vz(p:Mu->Prop)(_:TagM p)(mu:Mu):Prop:=p mu
theorem cN{p:Mu->Prop}{mu:Mu}(h:p mu):vz p .mk mu:=h
theorem cM{P:qf}{pl:Pol}{o:us}{caps:List AV}{ps:Array Tmp}{i g:Code}{Q:qF->St->Prop}{st:St}{rows:List (List AV)}(l:yI P o caps rows)(I:Nat->Mu->Prop)(j:qF->Mu->Prop)
  (p:I 0 (st.mu++[.dead])) (r:∀ k mu,I k mu->I k (mu++[.dead])) (t:∀ e mu,j e mu->j e (mu++[.dead]))
  (C:∀ k x mu,rows[k]?=some x->I k mu->x.length=ps.size/\awp P pl i (asQ (fun st=>awp P pl g (rndQ (fun k=>vz (I k) .mk) (fun e=>vz (j e) .mk) k) st)) ⟨jy st.tm ps.toList x,mu⟩)
  (J:∀ mu,I rows.length mu->Q .normal ⟨st.tm,mu⟩) (R:∀ e mu,j e mu->Q e ⟨st.tm,mu⟩):jY P pl (.fn (.func o) [] caps) ps i g Q st:=
 cS l I j p r t C J R
abbrev tupCl(sc:Sc)(p:Int)(l:List Int):AV := .fn (.func 120) [] [.ip [lI l],.ip [aI p],.ip [lI sc.sC,aI sc.sN]]
theorem XA(sc:Sc)(p:Int)(l:List Int):qd qb 85 [eSc sc,aI p,lI l] (tupCl sc p l):=by
 refine qSU call85 func85 rfl ?_;refine .hf _ (HF.fn (fun c g=>by simp at g) (fun c g=>?_));simp at g;rcases g with rfl|rfl|rfl
 .exact VD (qM _)
 .exact VD (HF.sc _)
 .exact HF.ip fun c g=>by simp at g;rcases g with rfl|rfl<;>first|exact qM _|exact HF.sc _
def tupR(sc:Sc):List Int->Int->List Int
 | [],p=>[p]
 |s :: l,p=>(qm (gI sc.sC s.toNat).toNat).flatMap fun k:Nat=>tupR sc l (p*sumI sc.sC+(sumI (sc.sC.take s.toNat)+k))
@[go_sem] theorem yl_cells(i:Nat):(AV.yl i).cells=[.yl i]:=rfl
@[go_sem] theorem yl_one(i:Nat):(AV.yl i).one=true:=rfl
theorem mO(sc:Sc)(p:Int):yI qb 120 [.ip [lI []],.ip [aI p],.ip [lI sc.sC,aI sc.sN]] [[aI p]]:=by
 refine yI.of call120 fun i I o r t g j l=>?_
 refine qSW call120 func120 rfl {} ?_;simp[go_sem];refine qc.yield (g 0 [aI p] j rfl l) ?_;simp_all[go_sem]
theorem mP{i r:Nat}(h:i<r):∃ l,qm r=qm i++i :: l:=by
 refine⟨(qm r).drop (i+1),?_⟩;apply zT;intro j;by_cases g:j<i
 .rw [qT (zUs g),Zr g,Zr zOm]
 .rw [zo zSo,List.length_range]
  by_cases e:j=i
  .subst e;simp[h]
  .obtain ⟨d,o⟩:∃ d,j-i=d+1:=⟨j-i-1,zOm⟩
   rw[o,List.getElem?_cons_succ,js];congr 1;omega
theorem mQ{C:Type}(f:Nat->List C){N k j:Nat}{x:C}(g:k<N)(h:(f k)[j]?=some x):((qm N).flatMap f)[((qm k).flatMap f).length+j]?=some x:=by
 obtain⟨l,e⟩:=mP g;rw[e,List.flatMap_append,zo zOm,Nat.add_sub_cancel_left,List.flatMap_cons,qT (qn.1 h).1];exact h
theorem Qx{C:Type}(f:Nat->List C)(k:Nat):(qm (k+1)).flatMap f=(qm k).flatMap f++f k:=by
 rw[List.range_succ,List.flatMap_append];simp
theorem mS(sc:Sc)(g:GSc sc)(hA:∀ a,a∈sc.sC->0<=a)(s:Nat)(C:s<sc.sC.length)(l:List Int)(hl:l.length<=10)(p:Int)(hp:0<=p/\p<=1000000)
  (ih:∀ k:Nat,k<(gI sc.sC s).toNat->yI qb 120 [.ip [lI l],.ip [aI (p*sumI sc.sC+(sumI (sc.sC.take s)+k))],.ip [lI sc.sC,aI sc.sN]] ((tupR sc l (p*sumI sc.sC+(sumI (sc.sC.take s)+k))).map fun t=>[aI t])) :
  yI qb 120 [.ip [lI (s :: l)],.ip [aI p],.ip [lI sc.sC,aI sc.sN]] ((tupR sc (s :: l) p).map fun t=>[aI t]):=by
 refine yI.of call120 fun i I Ix hS hX hY mu h0=>?_
 refine qSW call120 func120 rfl {} ?_;have hz:¬(l.length:Int)+1=0:=zOm;have a0:=mG sc g s zOm;have a1:WKs [eSc sc,aI s] [eSc sc,aI s] := .zk (qX sc) (.zs .nil);obtain⟨s0,s1⟩:=g.sum s;obtain⟨t0,t1⟩:=g.sum sc.sC.length;rw[zt]at t0 t1;have a2:gI sc.sC s=sc.sC[s]:=ux C;have af:=hA _ (qo C);obtain⟨u0,u1⟩:=g.sum (s+1);rw[vW _ _ C]at u1;have a3:=mF sc g;have a4:WKs [eSc sc] [eSc sc] := .zk (qX sc) .nil;have o:tupR sc (s :: l) p=(qm (sc.sC[s]).toNat).flatMap fun k:Nat=>tupR sc l (p*sumI sc.sC+(sumI (sc.sC.take s)+k)):=by
  simp_all[tupR]
 rw[a2]at ih;obtain⟨m0,m1⟩:0<=p*sumI sc.sC/\p*sumI sc.sC<=1000000*20:=⟨Int.mul_nonneg hp.1 t0,ub hp.2 t1 t0 zOm⟩;have w2:qx.wrap (p*sumI sc.sC)=p*sumI sc.sC:=zWr;have w3:qx.wrap (sumI (sc.sC.take s)+sc.sC[s])=sumI (sc.sC.take s)+sc.sC[s]:=zWr;generalize hF:(fun k:Nat=>tupR sc l (p*sumI sc.sC+(sumI (sc.sC.take s)+k)))=F at *
 have a5:∀ k:Nat,tupR sc l (p*sumI sc.sC+(sumI (sc.sC.take s)+k))=F k:=fun k=>by rw[<-hF]
 simp only[a5]at ih;simp[go_sem,hz];refine fP ?_;refine cA a0 a1 ?_;generalize hn:sumI sc.sC=n at *
 generalize hf:sumI (sc.sC.take s)=f at *
 simp[go_sem];refine cC (fun m st=>∃ k,m=(sc.sC[s]).toNat-k/\k<=(sc.sC[s]).toNat/\st.tm 1 = .ip [lI (s :: l)]/\st.tm 2 = .ip [aI p]/\st.tm 3 = .ip [lI sc.sC,aI sc.sN]/\st.tm 4 = .ip [.yl i]/\st.tm 5=aI f/\st.tm 6=aI (f+(k:Nat))/\I ((qm k).flatMap F).length st.mu) (sc.sC[s]).toNat ?_ ?_
 .exact ⟨0,zOm,zOm,zSi,zSi,zSi,zSi,zSi,zSi,zVs h0⟩
 rintro m st ⟨k,rfl,hk,R,e2,T,e4,e5,U,hI⟩;simp[go_sem];refine aQ zKr ?_;by_cases J:k<(sc.sC[s]).toNat
 .have hb:f+(k:Int)<f+sc.sC[s]:=by omega
  have w4:qx.wrap (p*n+(f+k))=p*n+(f+k):=zWr;have w5:qx.wrap (f+(k:Int)+1)=f+((k+1:Nat):Int):=by rw[zWr];omega
  have P:WKs [eSc sc,aI (p*n+(f+k)),.lst false (l.map rI)] [eSc sc,aI (p*n+(f+k)),lI l] := .zk (qX sc) (.zs (.zk (qM l) .nil));have a6:=XA sc (p*n+(f+k)) l;simp[go_sem,R,T,e5,U,C,w3,hb];refine aQ zKr ?_;simp[go_sem,e2,T];refine cA a3 a4 ?_;have a7:(1:Int)<=l.length+1:=zOm;have a8:List.take l.length (l.map rI)=l.map rI:=zi zSp;simp[go_sem,R,U,w2,w4,a7,a8];refine⟨⟨_,_,⟨rfl,rfl⟩,(ja (s :: l)).ok⟩,?_⟩;refine fG a6 P ?_;refine cM (ih k J) (fun j M=>I (((qm k).flatMap F).length+j) M) (fun e M=>e = .ret/\Ix M) ?_ ?_ ?_ ?_ ?_ ?_
  .simpa [go_sem] using hS _ _ hI
  .intro j M h;exact hS _ _ h
  .rintro e M ⟨h1,h2⟩;exact⟨h1,hX _ h2⟩
  .rintro j x M hj a9
   rw[qZ,zW]at hj;obtain⟨t,ht,rfl⟩:=hj;have r:(((qm (sc.sC[s]).toNat).flatMap F).map fun t=>[aI t])[((qm k).flatMap F).length+j]?=some [aI t]:=by
    rw[qZ,mQ F J ht];rfl
   rw[<-o]at r;refine⟨rfl,?_⟩;simp[go_sem,e4];refine qc.yield (hY _ _ _ r a9) ?_;rintro b ag (⟨rfl,aa⟩|⟨rfl,ab⟩)
   .simp [go_sem]
    exact cN aa
   .simp [go_sem]
    exact cN ⟨rfl,ab⟩
  .rintro M ad
   simp[go_sem,U,w5];refine Keep.loop ((sc.sC[s]).toNat-(k+1)) zOm ⟨k+1,rfl,zOm,zS1 R,zS1 e2,zS1 T,zS1 e4,zS1 e5,zSi,?_⟩;rw[Qx,zc];simpa[go_sem] using ad
  .rintro e M ⟨rfl,h2⟩
   simp[go_sem];exact .inr h2
 .have ae:k=(sc.sC[s]).toNat:=by omega
  have hb:¬f+(k:Int)<f+sc.sC[s]:=zOm;simp[go_sem,R,T,e5,U,C,w3,hb];rw[o,<-ae];exact .inl hI
def bdT:Nat->Int
 | 0=>1000000000
 | 1=>1000000
 | 2=>40000
 |_=>1000
theorem XB(d:Nat)(i:d<3){p q n:Int}(j:0<=p)(l:p<=bdT (d+1))(g:0<=n)(o:n<=20)(r:0<=q)(t:q<=20):0<=p*n+q/\p*n+q<=bdT d/\p<=1000000:=by
 have a:0<=p*n:=Int.mul_nonneg j g;have b:p*n<=bdT (d+1)*20:=ub l o g zOm
 match d,i with
 | 0,_=>grind [bdT]
 | 1,_=>grind [bdT]
 | 2,_=>grind [bdT]
def OkS(sc:Sc)(l:List Int):Prop:=∀ s,s∈l->0<=s/\s<sc.sC.length
theorem XC(sc:Sc)(g:GSc sc)(C:∀ a,a∈sc.sC->0<=a):∀(l:List Int),OkS sc l->l.length<=3->∀ p:Int,0<=p->p<=bdT l.length->yI qb 120 [.ip [lI l],.ip [aI p],.ip [lI sc.sC,aI sc.sN]] ((tupR sc l p).map fun t=>[aI t])
 | [],_,_,p,_,_=>mO sc p
 |s :: l,i,I,p,j,o=>by
  obtain⟨n,rfl⟩:∃ n:Nat,s=n:=⟨s.toNat,zW1 ((i s zSp).1)⟩;have r:n<sc.sC.length:=zW1 ((i n zSp).2);simp only[zZ]at I o;obtain⟨t0,t1⟩:=g.sum sc.sC.length;rw[zt]at t0 t1;refine mS sc g C n r l zOm p ⟨j,(XB l.length zOm j o t0 t1 (q:=0) zOm zOm).2.2⟩ fun k J=>?_
  obtain⟨u0,P⟩:=g.sum (n+1);rw[vW _ _ r]at P;rw[ux r]at J;obtain⟨s0,s1⟩:=g.sum n;obtain⟨R,T,_⟩:=XB l.length zOm j o t0 t1 (q:=sumI (sc.sC.take n)+k) zOm zOm;exact XC sc g C l (fun x U=>i x (zP1 U)) zOm _ R T
theorem XD(sc:Sc)(g:GSc sc)(o:∀ a,a∈sc.sC->0<=a):∀(l:List Int),OkS sc l->∀ p,(tupR sc l p).length<=20 ^ l.length
 | [],_,p=>by simp[tupR]
 |s :: l,i,p=>by
  obtain⟨n,rfl⟩:∃ n:Nat,s=n:=⟨s.toNat,zW1 ((i s zSp).1)⟩;have j:n<sc.sC.length:=zW1 ((i n zSp).2);obtain⟨J,r⟩:=g.sum (n+1);obtain⟨P,s1⟩:=g.sum n;rw[vW _ _ j]at r;have t:=XD sc g o l (fun x C=>i x (zP1 C));rw[tupR,show (n:Int).toNat=n by omega,ux j];have key:∀ m:Nat,((qm m).flatMap fun k:Nat=>tupR sc l (p*sumI sc.sC+(sumI (sc.sC.take n)+k))).length<=m*20 ^ l.length:=by
   intro m;induction m with
   |zero=>simp
   |succ m I =>
    rw[Qx,zc,Nat.succ_mul];have:=t (p*sumI sc.sC+(sumI (sc.sC.take n)+m));omega
  refine Nat.le_trans (key _) ?_;rw[zZ,Nat.pow_succ,Nat.mul_comm];exact Nat.mul_le_mul_left _ zOm
theorem XF(n a b:Int):qd qb 84 [aI n,aI a,aI b] (aB (decide (a<=n)&&decide (n<=b))):=by
 refine qSV call84 func84 rfl ?_;by_cases g:a<=n
 .simp [go_sem,g]
  exact .zsc _
 .simp [go_sem,g]
  exact .zsc _
theorem wk3I(a b c:Int):WKs [aI a,aI b,aI c] [aI a,aI b,aI c] := .zs (.zs (.zs .nil))
theorem fullU(sc:Sc)(g:GSc sc)(hA:∀ a,a∈sc.sC->0<=a)(l:List Int)(hs:OkS sc l)(h1:1<=l.length)(h3:l.length<=3):qd qb 43 [eSc sc,lI l] (eRel ⟨l.length,tupR sc l 0⟩):=by
 refine qSV call43 func43 rfl ?_;have b1:(1:Int)<=l.length:=zOm;have b3:(l.length:Int)<=3:=zOm;have hg:=g.1;have w1:=XF l.length 1 3;rw[decide_eq_true b1,decide_eq_true b3]at w1;simp[go_sem];refine fG w1 (wk3I _ _ _) ?_;refine fZ l.length (fun k st=>st.tm 1=lI l/\st.tm 2 = .ip [lI sc.sC,aI sc.sN]/\st.tm 4 = .ptr 0 0/\st.tm 14=lI l/\st.tm 15=aI l.length/\st.tm 16=aI k/\st.mu=[.arr [aI 0,.lst true []]]) ?_ ?_
 .simp [go_sem]
 rintro k st hk ⟨e1,e2,e4,a0,r,C,hm⟩;by_cases I:k<l.length
 .have wk:=zWk k
  have wl:qx.wrap ((sc.sC.length:Int)-1)=(sc.sC.length:Int)-1:=zWr;obtain⟨q0,q1⟩:=hs _ (qo I);have w2:=XF l[k] 0 ((sc.sC.length:Int)-1);rw[decide_eq_true q0,decide_eq_true (by omega:l[k]<=(sc.sC.length:Int)-1)]at w2;simp[go_sem,e2,a0,r,C,hm,I,wl];refine cA w2 (wk3I _ _ _) ?_;simp_all[go_sem,aK]
 .have a1:k=l.length:=by omega
  subst a1;have a6:=XD sc g hA l hs 0;have hp:20 ^ l.length<=8000:=by
   have:l.length=1\/l.length=2\/l.length=3:=zOm
   grind
  have a2:(0:Int)<=bdT l.length:=by
   have:l.length=1\/l.length=2\/l.length=3:=zOm
   grind [bdT]
  simp[go_sem,e1,e2,r,C,hm];refine fG (XA sc 0 l) (.zk (qX sc) (.zs (.zk (qM l) .nil))) ?_;refine cM (XC sc g hA l hs h3 0 zOm a2) (fun j M=>RelM M l.length ((tupR sc l 0).take j)) (fun _ _=>False) ?_ ?_ ?_ ?_ ?_ ?_
  .exact ⟨.lst true [],zSi,zSi,.inl ⟨rfl,rfl⟩,by simp[qw],by simp[qw]⟩
  .rintro j M ⟨P,J,g1,i,R,U⟩
   exact⟨P,by grind,by grind,i.same fun b hb=>by rw[qT (i.v.lt hb)],R,U⟩
  .grind
  .rintro j x M hj ⟨P,J,g1,i,R,U⟩
   rw[qZ,zW]at hj;obtain⟨t,ht,rfl⟩:=hj;obtain⟨a7,a8⟩:=qn.1 ht;refine⟨rfl,?_⟩;simp[go_sem,g1];refine aC (e:=3) (bt:=8) (z:=0) zSi zSi zSi zOm i.v zSo ?_;intro a9 p o a3 a4 a5;obtain⟨k1,k2⟩:=RelM.step J g1 R U o a3 a4 a5;simp[go_sem,k1,o.v.one,o.v.cells]
   grind [cN,mL]
  .rintro M ⟨P,J,g1,i,R,U⟩
   rw[List.length_map,zt]at i;have T:∀ c,(M.set 0 c)[0]?=some c:=fun c=>yC (qn.1 J).1
   simp[go_sem,e4,J,g1,T,i.v.one];refine aP (i.v.same fun b hb=>?_);rw[jK (fun e=>R (by rw[e];exact hb))]
  grind
end EW
namespace JC
theorem backX(f:Bool):J4 qb 297 [.ip [.lst f []]] []:=by
 refine⟨call297,fun i I p r g j=>?_⟩;refine qSW call297 func297 rfl {} ?_;simp[go_sem];refine cC (fun _ st=>st.tm 3=aI (-1)/\st.mu=g) 0 ?_ ?_
 .simp [go_sem,yi]
 rintro _ st ⟨l,o⟩;simp[go_sem,l,o];exact .inl j
end JC
namespace GG
open ER
@[go_sem ↓] theorem qh3(P:qf)(pl:Pol)(l:List wx)(Q:St->Prop)(o:AV->St->Prop)(k:Nat)(r:List Nat)(T:List (Nat×Nat×List Nat))(st:St)(i:Option Tmp)(op:Op)(ty:j1)(pos:String)(after:Array Edge)(j:Nat)(g:Bool) :
  segO P pl l Q o k r T st (some ⟨i,op,ty,pos,after,some (j,g)⟩)=uq ((l[j]?).bind (·.dst)) st g (fun st=>segO P pl l Q o k r T st (some ⟨i,op,ty,pos,after,none⟩)) (fun st=>awpT P pl l.toArray Q o T (st.put i (.sc vd) st.mu)):=by
 simp only[segO,zp,uq,ju]
 grind [brK,BrS,OptK,Br]
@[go_sem ↓] theorem qh4(P:qf)(pl:Pol)(l:List wx)(st:St)(d:Tmp)(op:Op)(ty:j1)(pos:String)(after:Array Edge)(j:Nat)(g:Bool) :
  ZS P pl l st (some ⟨some d,op,ty,pos,after,some (j,g)⟩)=uq ((l[j]?).bind (·.dst)) st g (fun st=>qt P pl true (some d) op st.ev st.mu (um st d st.mu) noK) (fun _=>True):=by
 simp only[ZS,zp,uq,ju];congr 1
def subL:List (List AV)->List (List AV)->List (List (List AV))
 |c,[]=>[c]
 |c,x :: r=>subL c r++subL (c++[x]) r
def v7(l:List (List AV)):Prop:=∀ r,r∈l->r.length=3/\(r.all AV.one=true/\∀ x,x∈r->HF x)
theorem clipU(c:List (List AV))(i:v7 c)(l:c.length<=1000000):qd qb 188 [.lst false c] (.lst true c):=by
 refine qSU call188 func188 rfl ?_;refine⟨⟨_,_,⟨rfl,rfl⟩,fun r g=>(i r g).1⟩,.hf _ (HF.lst fun r g x j=>(i r g).2.2 x j)⟩
abbrev extV(i b:Nat):AV := .fn (.func 187) [] [.ip [.yl i],.ptr b 0]
def ExtR(i b:Nat)(I:Nat->Mu->Prop)(g:Mu->Prop)(k:Nat)(e:AEnd)(m:Mu):Prop:=m[b]?=some (.arr [extV i b])/\((e = .ret (aB true)/\I k (m.set b .dead))\/(e = .ret (aB false)/\g (m.set b .dead)))
theorem extU{i b:Nat}{rows:List (List AV)}{I:Nat->Mu->Prop}{Ix:Mu->Prop}(hS:∀ k mu,I k mu->I k (mu++[.dead]))(hX:∀ mu,Ix mu->Ix (mu++[.dead]))(hY:Yld qb i rows I Ix) :
  ∀(r c:List (List AV)) (k:Nat) (mu:Mu),v7 r->v7 c->c.length+r.length<=1000->(∀(j:Nat) x,(subL c r)[j]?=some x->rows[k+j]?=some [.lst false x])->mu[b]?=some (.arr [extV i b])->I k (mu.set b .dead) ->
   qK qb 187 ([.lst false c,.lst false r]++[.ip [.yl i],.ptr b 0]) mu (ExtR i b I Ix (k+(subL c r).length))
 | [],c,k,mu,hr,hc,hl,C,hb,h0=>by
  refine qSW call187 func187 rfl {} ?_;simp[go_sem];have h1:=C 0 c rfl;refine qc.yield (vR.hid hb zSp (hY k _ _ h1 h0)) ?_;rintro bb m ⟨p,hm,hd,rfl⟩;have R:b<p.length:=(qn.1 hd).1;have a1:(p.set b (Cell.arr [extV i b])).set b .dead=p:=by
   rw[List.set_set];apply zT
   grind
  simp[go_sem];refine⟨by rw[yC R],?_⟩;rw[a1];rcases hm with ⟨rfl,hI⟩|⟨rfl,hI⟩
  .exact .inl ⟨rfl,hI⟩
  grind
 |x :: r,c,k,mu,hr,hc,hl,C,hb,h0=>by
  have hx:=hr x zSp;obtain⟨g,l,o,rfl⟩:∃ g l o,x=[g,l,o]:=by
   match x,hx.1 with
   | [a,b,c],_=>simp
  refine qSW call187 func187 rfl {} ?_;have a9:¬(r.length:Int)+1=0:=zOm;simp[go_sem,a9];refine fD [0,1,2,3,4,5,6,7,9,10,11,12,14,15,8,13,16,17,18] [(0,0,[]),(1,0,[]),(2,0,[]),(3,0,[]),(4,1,[]),(5,0,[]),(6,0,[]),(7,0,[]),(9,0,[]),(10,0,[]),(11,0,[]),(12,0,[]),(14,0,[]),(15,0,[]),(8,1,[6,11]),(13,1,[6]),(16,1,[]),(17,0,[]),(18,0,[])] zKr zKr zSi ?_;have a2:(1:Int)<=(r.length:Int)+1:=zOm;have a3:∃ e sz,(244=e/\3=sz)/\ya sz ([g,l,o] :: r):=⟨_,_,⟨rfl,rfl⟩,fun y t=>(hr y t).1⟩;simp[go_sem,hb,a2];refine⟨a3,?_⟩;have a4:v7 r:=fun y t=>hr y (zP1 t)
  have T:subL c ([g,l,o] :: r)=subL c r++subL (c++[[g,l,o]]) r:=rfl;have aa:=extU hS hX hY r c k mu a4 hc (by simp at hl;omega) (fun j y hj=>C j y (by grind)) hb h0;refine fR (caps:=[.ip [.yl i],.ptr b 0]) aa ?_ (by rintro q m ⟨_,h|h⟩<;>exact absurd h.1 zSp);rintro q p ⟨J,⟨hq,hI⟩|⟨hq,hI⟩⟩
  .cases hq
   have a6:g.one=true/\l.one=true/\o.one=true:=by grind
   have ab:∀ y,y∈c->∀ z,z∈y->HF z:=fun y t=>(hc y t).2.2
   simp[go_sem,J,a2,a6];refine⟨a3,?_⟩;refine cA (clipU c hc (by simp at hl;omega)) (.zk (HF.lst ab) .nil) ?_;simp[go_sem,J];refine .inl ⟨235,235,244,3,24,[[g,l,o]],rfl,zSi,zSi,⟨.agg [aI 0,aI 0,aI 0],zSi,rfl,rfl⟩,zOm,zOm,by simp[qE],fun y t=>by grind,.inl ⟨c,rfl,fun y t=>⟨(hc y t).1,(hc y t).2.1⟩,by grind,fun h=>absurd h zSp,fun _=>?_⟩⟩;have R:b<p.length:=(qn.1 J).1;have al:(c++[[g,l,o]]).flatten=c.flatten++[g,l,o]:=zSp;generalize hM:p++[Cell.arr (c.flatten++[[g,l,o]].flatten)]=U;have ad:p++[Cell.arr (c.flatten++[g,l,o])]=U:=by rw[<-hM];simp
   have an:U[b]?=some (.arr [extV i b]):=by grind
   have ae:U[p.length]?=some (.arr (c++[[g,l,o]]).flatten):=by grind
   have a7:(p++[Cell.arr (c.flatten++[g,l,o])])[b]?=some (.arr [extV i b]):=by grind
   simp[go_sem,a7];rw[ad];have a8:cutM (fun j=>!(j == p.length)) U 0=p++[.dead]:=by
    apply zT
    grind [uV,qT,qq,zo]
   have a0:v7 (c++[[g,l,o]]):=fun y t=>by
    rcases List.mem_append.1 t with h|h
    .exact hc y h
    .rw [qV]at h;subst h;exact hx
   have af:=extU hS hX hY r (c++[[g,l,o]]) (k+(subL c r).length) (p++[.dead]) a4 a0 (by simp at hl⊢;omega) (fun j y hj=>by
    have:=C ((subL c r).length+j) y (by rw[T,zo zOm];simpa using hj);rw[<-this];congr 1;omega) (by rw[qT R];exact J) (by
    rw[List.set_append_left _ _ R];exact hS _ _ hI)
   have ag:Rd (cutM (fun j=>j == p.length) U 0) (.sl p.length 3 0 (c.length+1)) (.lst false (c++[[g,l,o]])):=by
    have ah:(cutM (fun j=>j == p.length) U 0)[p.length]?=some (.arr (c++[[g,l,o]]).flatten):=by rw[Xj];exact ae
    have:=Own.rd (mu:=cutM (fun j=>j == p.length) U 0) (sz:=3) (av := .sl p.length 3 0 (c++[[g,l,o]]).length) (.inr ⟨_,rfl,ah⟩) (fun y t=>(a0 y t).1) (fun y t=>(a0 y t).2.2);simpa using this
   have ai:qK qb 187 ([.sl p.length 3 0 (c.length+1),.lst false r]++[.ip [.yl i],.ptr b 0]) U (ExtR i b I Ix (k+(subL c r).length+(subL (c++[[g,l,o]]) r).length)):=
    qK.freeze (args:=[.sl p.length 3 0 (c.length+1),.lst false r,.ip [.yl i],.ptr b 0]) (args1:=[.lst false (c++[[g,l,o]]),.lst false r,.ip [.yl i],.ptr b 0]) (fun j=>j == p.length) ⟨.inr ag,.inl rfl,.inl rfl,.inl rfl,trivial⟩ (by rw[a8];exact af)
   refine fR (caps:=[.ip [.yl i],.ptr b 0]) ai ?_ (by rintro q m ⟨_,h|h⟩<;>exact absurd h.1 zSp);have ak:k+(subL c r).length+(subL (c++[[g,l,o]]) r).length=k+(subL c ([g,l,o] :: r)).length:=by rw[T,zc];omega
   simp[go_sem, *]
  .cases hq
   simp[go_sem];exact⟨J,.inr ⟨rfl,hI⟩⟩
theorem mT(l:List (List AV))(P:v7 l)(R:l.length<=1000):yI qb 186 [.ip [.lst false l]] ((subL [] l).map fun c=>[.lst false c]):=by
 refine yI.of call186 fun i I C T U hY g h0=>?_
 refine fW ?_;refine qSW call186 func186 rfl {} ?_;simp[go_sem];have hx:=extU (i:=i) (b:=g.length) T U hY l [] 0 (g++[.arr [extV i g.length]]) P (fun r p=>by simp at p) (zUs R) (fun j x hj=>by rw[yw,qZ,hj];rfl) zSp (by grind);have hf:qK qb 187 ([.lst true [],.lst false l]++[.ip [.yl i],.ptr g.length 0]) (g++[.arr [extV i g.length]]) (ExtR i g.length I C (0+(subL [] l).length)):=
  qK.freeze (args:=[.lst true [],.lst false l,.ip [.yl i],.ptr g.length 0]) (args1:=[.lst false [],.lst false l,.ip [.yl i],.ptr g.length 0]) (fun _=>false) ⟨.inr (.wk _ true _ (.hf _ (HF.lst fun r p=>by simp at p))),.inl rfl,.inl rfl,.inl rfl,trivial⟩ (by rw[nL];exact hx)
 refine fR (caps:=[.ip [.yl i],.ptr g.length 0]) hf ?_ (by rintro q m ⟨_,h|h⟩<;>exact absurd h.1 zSp);rintro q m ⟨hb,h⟩;have o:cutM (fun j=>!(j == g.length)) m 0=m.set g.length .dead:=by
  apply zT
  grind [uV,yC,qn,jK]
 simp[go_sem];refine .inr ⟨fun j=>j == g.length,⟨_,.same _⟩,?_⟩;show I _ (cutM (fun j=>!(j == g.length)) m 0)\/C (cutM (fun j=>!(j == g.length)) m 0);rw[o];rw[yw]at h;rcases h with ⟨_,h⟩|⟨_,h⟩
 .exact .inl h
 grind
theorem mU(l:List (List AV))(i:v7 l):qd qb 178 [.lst false l] (.fn (.func 186) [] [.ip [.lst false l]]):=by
 refine qSU call178 func178 rfl ?_;refine .hf _ (HF.fn (fun c g=>by simp at g) (fun c g=>?_));simp at g;subst g;exact VD (HF.lst fun r j x o=>(i r j).2.2 x o)
end GG
namespace GA
section
variable {a b:List Int}
def outL(a b:List Int):List Int:=a.filter fun x=>!decide (x∈b)
def z6(a b:List Int):List Int:=a.filter fun x=>decide (x∈b)
def xorN(a b:List Int):Int:=a.length+b.length-2*(z6 a b).length
theorem XG(p:Int->Bool):∀ a:List Int,(a.filter p).length+(a.filter fun x=>!p x).length=a.length
 | []=>rfl
 |x :: a=>by
  have:=XG p a;simp only[List.filter_cons];cases p x<;>simp<;>omega
theorem mV(h:a.Nodup)(g:∀ x,x∈a->x∈b):a.length<=b.length:=jv h g
theorem mW(g:a.Nodup)(i:b.Nodup):(z6 a b).length=(z6 b a).length:=by
 have h:∀{a b:List Int},a.Nodup->(z6 a b).length<=(z6 b a).length:=fun g=>mV (g.filter _) fun x j=>by
  simp_all[z6,jL,decide_eq_true_eq]
 grind
theorem mX(g:a.Nodup)(i:b.Nodup):xorN a b=(outL a b).length+(outL b a).length:=by
 grind [XG,decide,mW,xorN,z6,outL]
theorem XH:∀{a b:List Int},a.Pairwise (·<·)->b.Pairwise (·<·)->(∀ x,x∈a↔x∈b)->a=b
 | [],[],_,_,_=>rfl
 | [],y :: b,_,_,h=>absurd ((h y).2 zSp) zSp
 |x :: a,[],_,_,h=>absurd ((h x).1 zSp) zSp
 |x :: a,y :: b,j,l,h=>by
  rw[yh]at j l;have e:x=y:=by
   have o:=(h x).1 zSp;have p:=(h y).2 zSp;rcases qp.1 o with e|o
   .exact e
   .rcases qp.1 p with e|p
    .exact e.symm
    .have:=l.1 x o;have:=j.1 y p;omega
  subst e;congr 1;refine XH j.2 l.2 fun z=>?_
  have t:=h z;constructor
  .intro g
   rcases qp.1 (t.1 (qJ _ g)) with e|r
   .subst e;have:=j.1 z g;omega
   .exact r
  .intro i
   rcases qp.1 (t.2 (qJ _ i)) with e|r
   .subst e;have:=l.1 z i;omega
   .exact r
def sumZ{C:Type}(f:C->C->Int):List C->List C->Int
 |x :: J,y :: l=>f x y+sumZ f J l
 |_,_=>0
section
variable {α:Type} {f:α->α->Int} {P:α->Prop}
end
end
end GA
namespace GB
open GA
section
variable {t x:Int}{b:List Bd}{vs:List Bool}{l:List Int}{f nS s:Nat}
structure Ed where
 kind:Int
 state:Int
 field:Int
 tup:Int
variable {e:Ed}
def insS(t:Int):List Int->List Int
 | []=>[t]
 |x :: l=>if t<x then t :: x :: l else if t=x then x :: l else x :: insS t l
def delS(t:Int)(l:List Int):List Int:=l.filter fun x=>!decide (x=t)
theorem VE:∀{l:List Int},x∈insS t l↔x=t\/x∈l
 | []=>by simp[insS]
 |y :: l=>by
  unfold insS;split
  .simp
  .split
   .rename_i h;subst h;simp
   .rw [qp,VE,qp]
    constructor
    .rintro (h|h|h)
     .exact .inr (.inl h)
     .exact .inl h
     .exact .inr (.inr h)
    .rintro (h|h|h)
     .exact .inr (.inl h)
     .exact .inl h
     .exact .inr (.inr h)
theorem XI:∀{l:List Int},l.Pairwise (·<·)->(insS t l).Pairwise (·<·)
 | [],_=>by simp[insS]
 |x :: l,h=>by
  have i:=yh.1 h;unfold insS;split
  .rename_i j
   refine yh.2 ⟨fun y g=>?_,h⟩;rcases qp.1 g with rfl|g
   .exact j
   grind
  .split
   .exact h
   .refine yh.2 ⟨fun y g=>?_,XI i.2⟩
    rcases VE.1 g with rfl|g
    .omega
    grind
theorem mY:x∈delS t l↔x≠t/\x∈l:=by
 simp_all[delS,jL,Bool.not_eq_true',decide_eq_false_iff_not,And.comm]
theorem mZ(h:l.Pairwise (·<·)):(delS t l).Pairwise (·<·):=h.filter _
def edTs(e:Ed)(l:List Int):List Int:=if e.kind=1 then insS e.tup l else delS e.tup l
theorem m4(h:l.Pairwise (·<·)):(edTs e l).Pairwise (·<·):=by
 grind [edTs,XI,mZ]
theorem VF:x∈edTs e l↔if x=e.tup then e.kind=1 else x∈l:=by
 unfold edTs;by_cases h:e.kind=1
 .rw [if_pos h,VE]
  by_cases g:x=e.tup
  .simp [g,h]
  .simp [g]
 simp_all[if_neg,mY]
abbrev Sts:=List (List Rl)
variable {S:Sts}
def noR:Rl:=⟨0,[]⟩
def getR(S:Sts)(s f:Nat):Rl:=(S.getD s []).getD f noR
def hits(vs:List Bool)(e:Ed)(s:Nat):Bool:=decide ((s:Int)=e.state)||!(vs.getD e.field.toNat true)
def edR(e:Ed)(r:Rl):Rl:=⟨r.ar,edTs e r.ts⟩
def edSt(vs:List Bool)(e:Ed)(S:Sts):Sts:=S.mapIdx fun s st=>if hits vs e s then st.modify e.field.toNat (edR e) else st
theorem m5(vs:List Bool)(e:Ed)(S:Sts):(edSt vs e S).length=S.length:=by simp[edSt]
theorem XJ(vs:List Bool)(e:Ed)(S:Sts)(s:Nat):(edSt vs e S)[s]?=S[s]?.map fun st=>if hits vs e s then st.modify e.field.toNat (edR e) else st:=by
 simp[edSt]
theorem m6{n:Nat}(h:∀ st,st∈S->st.length=n):∀ st,st∈edSt vs e S->st.length=n:=fun st g=>by
 grind [List.mem_iff_getElem?,XJ,zW,qY,List.length_modify]
theorem v8{n:Nat}(h:∀ st,st∈S->st.length=n)(j:s<S.length)(hf:f<n):getR (edSt vs e S) s f=if f=e.field.toNat/\hits vs e s=true then edR e (getR S s f) else getR S s f:=by
 have o:=h _ (qo j);unfold getR;rw[qS,qS,qS,qS,XJ,qq j];simp only[qU,Option.getD_some];by_cases g:hits vs e s=true
 .rw [if_pos g,List.getElem?_modify,qq zOm]
  by_cases i:e.field.toNat=f
  .simp [i,g]
  .have l:¬f=e.field.toNat:=fun e=>i e.symm
   simp[i,l]
 .rw [if_neg g,if_neg (fun q=>g q.2)]
def errE(nS nF:Nat)(b:List Bd)(e:Ed):Int:=
 if (e.kind≠1/\e.kind≠2)\/e.state<0\/(nS:Int)<=e.state\/e.field<0\/(nF:Int)<=e.field then 1
 else match b[e.field.toNat]? with
  |none=>1
  |some bd=>if (e.kind=1/\e.tup ∉ bd.up.ts)\/(e.kind=2/\e.tup∈bd.lo.ts) then 330 else 0
def zm(vs:List Bool)(nS nF:Nat)(b:List Bd):List Ed->Sts->Except Int Sts
 | [],S => .ok S
 |e :: l,S=>if errE nS nF b e=0 then zm vs nS nF b l (edSt vs e S) else .error (errE nS nF b e)
theorem VG(vs:List Bool)(nS nF:Nat)(b:List Bd):∀(k l:List Ed) (S:Sts),zm vs nS nF b (k++l) S=match zm vs nS nF b k S with | .ok T=>zm vs nS nF b l T | .error e => .error e
 | [],l,S=>rfl
 |e :: k,l,S=>by
  rw[List.cons_append,zm,zm];split
  .exact VG vs nS nF b k l _
  .rfl
theorem Yb{nF:Nat}:∀{l:List Ed} {S T:Sts},zm vs nS nF b l S = .ok T->(∀ e,e∈l->errE nS nF b e=0)/\T=l.foldl (fun S e=>edSt vs e S) S
 | [],S,T,h=>by cases h;simp
 |e :: l,S,T,h=>by
  rw[zm]at h;split at h
  .rename_i g
   obtain⟨i,j⟩:=Yb h
   grind
  .cases h
theorem Qy{nF:Nat}:∀{l:List Ed} {S:Sts},(∀ e,e∈l->errE nS nF b e=0)->zm vs nS nF b l S = .ok (l.foldl (fun S e=>edSt vs e S) S)
 | [],S,_=>rfl
 |e :: l,S,h=>by
  simp_all[zm,if_pos,Qy]
theorem Yc{nF:Nat}:∀{l:List Ed} {S:Sts} {x:Int},zm vs nS nF b l S = .error x->l≠[]/\(x=1\/x=330)
 | [],S,x,h=>by cases h
 |e :: l,S,x,h=>by
  refine⟨zSp,?_⟩;rw[zm]at h;split at h
  .exact (Yc h).2
  .rename_i g
   injection h with h;subst h;unfold errE at g⊢;split
   .exact .inl rfl
   .split
    .exact .inl rfl
    grind
structure Shp (nS nF:Nat) (S:Sts):Prop where
 len:S.length=nS
 lens:∀ st,st∈S->st.length=nF
 srt:∀ s f,s<nS->f<nF->(getR S s f).ts.Pairwise (·<·)
theorem Shp.ed{nF:Nat}(h:Shp nS nF S):Shp nS nF (edSt vs e S):=by
 refine⟨by rw[m5];exact h.len,m6 h.lens,fun s f g hf=>?_⟩;rw[v8 h.lens (by rw[h.len];exact g) hf];split
 .exact m4 (h.srt s f g hf)
 .exact h.srt s f g hf
theorem Shp.eds{nF:Nat}:∀{l:List Ed} {S:Sts},Shp nS nF S->Shp nS nF (l.foldl (fun S e=>edSt vs e S) S)
 | [],_,h=>h
 |e :: l,S,h=>Shp.eds (l:=l) h.ed
def mine(vs:List Bool)(s f:Nat)(t:Int)(e:Ed):Bool:=decide (f=e.field.toNat)&&(hits vs e s&&decide (t=e.tup))
def zM(vs:List Bool)(s f:Nat)(t:Int)(l:List Ed)(w:Bool):Bool:=l.foldl (fun w e=>if mine vs s f t e then decide (e.kind=1) else w) w
theorem we{nF:Nat}(g:s<nS)(hf:f<nF):∀{l:List Ed} {S:Sts},Shp nS nF S->(decide (t∈(getR (l.foldl (fun S e=>edSt vs e S) S) s f).ts))=zM vs s f t l (decide (t∈(getR S s f).ts))
 | [],S,_=>rfl
 |e :: l,S,h=>by
  rw[List.foldl_cons,we g hf h.ed];unfold zM;rw[List.foldl_cons];congr 1;rw[v8 h.lens (by rw[h.len];exact g) hf];unfold mine;by_cases i:f=e.field.toNat/\hits vs e s=true
  .simp_all [if_pos,edR,VF]
  grind
theorem Qz{nF:Nat}(g:s<nS)(hf:f<nF):∀{l:List Ed} {S:Sts},Shp nS nF S->(getR (l.foldl (fun S e=>edSt vs e S) S) s f).ar=(getR S s f).ar
 | [],S,_=>rfl
 |e :: l,S,h=>by
  rw[List.foldl_cons,Qz g hf h.ed,v8 h.lens (by rw[h.len];exact g) hf];split<;>rfl
theorem XK{nF:Nat}{T:Sts}(h:Shp nS nF S)(k:Shp nS nF T)(p:∀ s f,s<nS->f<nF->(getR S s f).ar=(getR T s f).ar)(C:∀ s f t,s<nS->f<nF->(t∈(getR S s f).ts↔t∈(getR T s f).ts)):S=T:=by
 apply zT;intro s;by_cases g:s<nS
 .have i:s<S.length:=by rw[h.len];exact g
  have j:s<T.length:=by rw[k.len];exact g
  rw[qq i,qq j];congr 1;have I:=h.lens _ (qo i);have J:=k.lens _ (qo j);apply zT;intro f;by_cases hf:f<nF
  .have P:getR S s f=S[s][f]:=by unfold getR;rw[qS,qS,qq i];simp[I,hf]
   have R:getR T s f=T[s][f]:=by unfold getR;rw[qS,qS,qq j];simp[J,hf]
   rw[qq zOm,qq zOm,<-P,<-R];congr 1;have l:=p s f g hf;have o:=XH (h.srt s f g hf) (k.srt s f g hf) (fun t=>C s f t g hf);generalize getR S s f=r at *
   generalize getR T s f=q at *
   cases r;cases q;simp at l o;rw[l,o]
  grind
 .rw [je (by rw[h.len];omega),je (by rw[k.len];omega)]
theorem m7(vs:List Bool)(s f:Nat)(t:Int):∀(l:List Ed) (w:Bool),zM vs s f t l (zM vs s f t l w)=zM vs s f t l w:=by
 have key:∀(l:List Ed),(∀ w,zM vs s f t l w=w)\/∃ c,∀ w,zM vs s f t l w=c:=by
  intro l;induction l with
  |nil=>exact .inl fun w=>rfl
  |cons e l g =>
   rcases g with h|⟨c,h⟩
   .by_cases i:mine vs s f t e=true
    .simp_all [decide,zM,mine,if_pos]
    simp_all[zM,mine,if_neg]
   .exact .inr ⟨c,fun w=>h _⟩
 intro l w;rcases key l with h|⟨c,h⟩
 .rw [h]
 .rw [h,h]
theorem m8{nF:Nat}{l:List Ed}(h:Shp nS nF S):l.foldl (fun S e=>edSt vs e S) (l.foldl (fun S e=>edSt vs e S) S)=l.foldl (fun S e=>edSt vs e S) S:=by
 have i:Shp nS nF (l.foldl (fun S e=>edSt vs e S) S):=h.eds;refine XK i.eds i (fun s f g hf=>Qz g hf i) fun s f t g hf=>?_
 have j:=we (vs:=vs) (t:=t) g hf (l:=l) i;rw[we (vs:=vs) (t:=t) g hf (l:=l) h,m7,<-we (vs:=vs) (t:=t) g hf (l:=l) h]at j;rw[decide_eq_decide]at j;exact j
end
end GB
namespace GC
open GA GB
section
variable {x:Int}{vs:List Bool}{a b:List Int}{nS:Nat}{S T:Sts}
def qO(s f:Int):List Int->List Int->List Ed
 | [],[]=>[]
 |x :: a,[]=>⟨2,s,f,x⟩ :: qO s f a []
 | [],y :: b=>⟨1,s,f,y⟩ :: qO s f [] b
 |x :: a,y :: b=>if x<y then ⟨2,s,f,x⟩ :: qO s f a (y :: b) else if y<x then ⟨1,s,f,y⟩ :: qO s f (x :: a) b else qO s f a b
termination_by a b=>a.length+b.length
theorem Yd{y:Int}(h:(y :: b).Pairwise (·<·))(i:x<y):x ∉ y :: b:=fun g=>by
 rcases qp.1 g with rfl|g
 .omega
 grind [yh]
theorem uE{s f:Int}{e:Ed}:∀{a b:List Int},a.Pairwise (·<·)->b.Pairwise (·<·)->(e∈qO s f a b↔(e.state=s/\e.field=f)/\((e.kind=2/\e.tup∈a/\e.tup ∉ b)\/(e.kind=1/\e.tup∈b/\e.tup ∉ a)))
 | [],[],_,_=>by simp[qO]
 |x :: a,[],C,I=>by
  rw[qO,qp,uE (yh.1 C).2 I];obtain⟨k,st,R,t⟩:=e;simp only[Ed.mk.injEq,qp,zb,not_false_eq_true,and_true,false_and,and_false,or_false];constructor
  .rintro (⟨rfl,rfl,rfl,rfl⟩|⟨o,j,g⟩)
   .exact ⟨⟨rfl,rfl⟩,rfl,.inl rfl⟩
   .exact ⟨o,j,.inr g⟩
  .rintro ⟨⟨rfl,rfl⟩,rfl,rfl|h⟩
   .exact .inl ⟨rfl,rfl,rfl,rfl⟩
   .exact .inr ⟨⟨rfl,rfl⟩,rfl,h⟩
 | [],y :: b,C,I=>by
  rw[qO,qp,uE C (yh.1 I).2];obtain⟨k,st,R,t⟩:=e;simp only[Ed.mk.injEq,qp,zb,not_false_eq_true,and_true,false_and,and_false,false_or];constructor
  .rintro (⟨rfl,rfl,rfl,rfl⟩|⟨o,j,g⟩)
   .exact ⟨⟨rfl,rfl⟩,rfl,.inl rfl⟩
   .exact ⟨o,j,.inr g⟩
  .rintro ⟨⟨rfl,rfl⟩,rfl,rfl|h⟩
   .exact .inl ⟨rfl,rfl,rfl,rfl⟩
   .exact .inr ⟨⟨rfl,rfl⟩,rfl,h⟩
 |x :: a,y :: b,C,I=>by
  have p:=yh.1 C;have r:=yh.1 I;rw[qO];by_cases o:x<y
  .rw [if_pos o,qp,uE p.2 I]
   have U:=Yd I o;have P:x ∉ a:=fun h=>zW1 (p.1 x h)
   obtain⟨k,st,R,t⟩:=e;simp only[Ed.mk.injEq];constructor
   .rintro (⟨rfl,rfl,rfl,rfl⟩|⟨o,⟨j,g,i⟩|⟨j,g,i⟩⟩)
    .exact ⟨⟨rfl,rfl⟩,.inl ⟨rfl,q8 ..,U⟩⟩
    .exact ⟨o,.inl ⟨j,qJ _ g,i⟩⟩
    .refine ⟨o,.inr ⟨j,g,fun l=>?_⟩⟩
     rcases qp.1 l with rfl|l
     .exact U g
     .exact i l
   .rintro ⟨⟨rfl,rfl⟩,⟨rfl,g,i⟩|⟨rfl,g,i⟩⟩
    .rcases qp.1 g with rfl|g
     .exact .inl ⟨rfl,rfl,rfl,rfl⟩
     .exact .inr ⟨⟨rfl,rfl⟩,.inl ⟨rfl,g,i⟩⟩
    .exact .inr ⟨⟨rfl,rfl⟩,.inr ⟨rfl,g,fun h=>i (qJ _ h)⟩⟩
  rw[if_neg o];by_cases j:y<x
  .rw [if_pos j,qp,uE C r.2]
   have hy:=Yd C j;have a0:y ∉ b:=fun h=>zW1 (r.1 y h)
   obtain⟨k,st,R,t⟩:=e;simp only[Ed.mk.injEq];constructor
   .rintro (⟨rfl,rfl,rfl,rfl⟩|⟨o,⟨j,g,i⟩|⟨j,g,i⟩⟩)
    .exact ⟨⟨rfl,rfl⟩,.inr ⟨rfl,q8 ..,hy⟩⟩
    .refine ⟨o,.inl ⟨j,g,fun l=>?_⟩⟩
     rcases qp.1 l with rfl|l
     .exact hy g
     .exact i l
    .exact ⟨o,.inr ⟨j,qJ _ g,i⟩⟩
   .rintro ⟨⟨rfl,rfl⟩,⟨rfl,g,i⟩|⟨rfl,g,i⟩⟩
    .exact .inr ⟨⟨rfl,rfl⟩,.inl ⟨rfl,g,fun h=>i (qJ _ h)⟩⟩
    .rcases qp.1 g with rfl|g
     .exact .inl ⟨rfl,rfl,rfl,rfl⟩
     .exact .inr ⟨⟨rfl,rfl⟩,.inr ⟨rfl,g,i⟩⟩
  rw[if_neg j,uE p.2 r.2];obtain rfl:x=y:=zOm;have P:x ∉ a:=fun h=>zW1 (p.1 x h)
  have T:x ∉ b:=fun h=>zW1 (r.1 x h)
  refine and_congr Iff.rfl (or_congr (and_congr Iff.rfl ?_) (and_congr Iff.rfl ?_))
  .constructor
   .rintro ⟨g,i⟩
    refine⟨qJ _ g,fun l=>?_⟩;rcases qp.1 l with J|l
    .rw [J]at g;exact P g
    .exact i l
   .rintro ⟨g,i⟩
    rcases qp.1 g with J|g
    .exact absurd (by rw[J];exact q8 ..) i
    .exact ⟨g,fun h=>i (qJ _ h)⟩
  .constructor
   .rintro ⟨g,i⟩
    refine⟨qJ _ g,fun l=>?_⟩;rcases qp.1 l with J|l
    .rw [J]at g;exact T g
    .exact i l
   .rintro ⟨g,i⟩
    rcases qp.1 g with J|g
    .exact absurd (by rw[J];exact q8 ..) i
    .exact ⟨g,fun h=>i (qJ _ h)⟩
termination_by a b=>a.length+b.length
theorem XL(h:x∈b):outL (x :: a) b=outL a b:=by simp[outL,h]
theorem Ye(h:x ∉ b):(outL (x :: a) b).length=(outL a b).length+1:=by simp[outL,h]
theorem Yf{y:Int}(h:y ∉ a):outL a (y :: b)=outL a b:=by
 grind [outL,List.filter_congr]
theorem wh{s f:Int}:∀{a b:List Int},a.Pairwise (·<·)->b.Pairwise (·<·)->(qO s f a b).length=(outL a b).length+(outL b a).length
 | [],[],_,_=>by simp[qO,outL]
 |x :: a,[],g,i=>by
  rw[qO,zZ,wh (yh.1 g).2 i,Ye zSp];simp[outL]
 | [],y :: b,g,i=>by
  rw[qO,zZ,wh g (yh.1 i).2,Ye (a:=b) zSp];simp[outL]
 |x :: a,y :: b,g,i=>by
  have j:=yh.1 g;have l:=yh.1 i;rw[qO];by_cases o:x<y
  .have C:=Yd i o
   rw[if_pos o,zZ,wh j.2 i,Ye C,Yf C];omega
  rw[if_neg o];by_cases p:y<x
  .have I:=Yd g p
   rw[if_pos p,zZ,wh g l.2,Ye (a:=b) I,Yf (b:=b) I];omega
  obtain rfl:x=y:=zOm;have r:x ∉ a:=fun h=>zW1 (j.1 x h)
  have t:x ∉ b:=fun h=>zW1 (l.1 x h)
  rw[if_neg p,wh j.2 l.2,XL (q8 ..),XL (a:=b) (q8 ..),Yf r,Yf t]
termination_by a b=>a.length+b.length
def oppE(e:Ed):Ed:=⟨1+2-e.kind,e.state,e.field,e.tup⟩
theorem wm(s f:Int):∀ a b:List Int,(qO s f a b).map oppE=qO s f b a
 | [],[]=>by simp[qO]
 |x :: a,[]=>by simp only[qO,jM];rw[wm s f a []];rfl
 | [],y :: b=>by simp only[qO,jM];rw[wm s f [] b];rfl
 |x :: a,y :: b=>by
  rw[qO,qO];by_cases g:x<y
  .rw [if_pos g,zIn,if_pos g,jM,wm s f a (y :: b)];rfl
  .rw [if_neg g]
   by_cases i:y<x
   .rw [if_pos i,if_pos i,jM,wm s f (x :: a) b];rfl
   .rw [if_neg i,if_neg i,if_neg g,wm s f a b]
termination_by a b=>a.length+b.length
def q9(nS nF:Nat)(S T:Sts):List Ed:=(qm nS).flatMap fun s:Nat=>(qm nF).flatMap fun f:Nat=>qO (s:Int) (f:Int) (getR S s f).ts (getR T s f).ts
theorem QP{nF:Nat}(h:Shp nS nF S)(k:Shp nS nF T){e:Ed}:e∈q9 nS nF S T↔∃ s f:Nat,s<nS/\f<nF/\(e.state=s/\e.field=f)/\((e.kind=2/\e.tup∈(getR S s f).ts/\e.tup ∉ (getR T s f).ts)\/(e.kind=1/\e.tup∈(getR T s f).ts/\e.tup ∉ (getR S s f).ts)):=by
 simp only[q9,List.mem_flatMap,zY];constructor
 .rintro ⟨s,g,f,hf,i⟩
  exact⟨s,f,g,hf,(uE (h.srt s f g hf) (k.srt s f g hf)).1 i⟩
 .rintro ⟨s,f,g,hf,i⟩
  exact⟨s,g,f,hf,(uE (h.srt s f g hf) (k.srt s f g hf)).2 i⟩
theorem m9(nS nF:Nat)(S T:Sts):(q9 nS nF S T).map oppE=q9 nS nF T S:=by
 simp only[q9,List.map_flatMap,wm]
theorem XM(s f:Int):∀ a:List Int,qO s f a a=[]
 | []=>by simp[qO]
 |x :: a=>by rw[qO,zIn,zIn];exact XM s f a
theorem qaA(nS nF:Nat)(S:Sts):q9 nS nF S S=[]:=by
 simp only[q9,XM];simp
def Fix(vs:List Bool)(nS nF:Nat)(S:Sts):Prop:=∀ s g f,s<nS->g<nS->f<nF->vs.getD f true=false->getR S s f=getR S g f
theorem XN{s f:Nat}{t:Int}{c:Bool}:∀{l:List Ed} (w:Bool),(∀ e,e∈l->mine vs s f t e=true->decide (e.kind=1)=c)->(∃ e,e∈l/\mine vs s f t e=true)->zM vs s f t l w=c
 | [],w,_,h=>by grind
 |e :: l,w,i,h=>by
  unfold zM;rw[List.foldl_cons];by_cases o:∃ x,x∈l/\mine vs s f t x=true
  .exact XN _ (fun x g=>i x (qJ _ g)) o
  .have p:∀ x,x∈l->mine vs s f t x=false:=fun x g=>by
    grind
   obtain⟨x,g,j⟩:=h;rcases qp.1 g with rfl|g
   .rw [if_pos j,i _ (q8 ..) j]
    clear i j g o;induction l with
    |nil=>rfl
    |cons y l r =>
     grind
   grind
theorem XO{s f:Nat}{t:Int}:∀{l:List Ed} (w:Bool),(∀ e,e∈l->mine vs s f t e=false)->zM vs s f t l w=w
 | [],w,_=>rfl
 |e :: l,w,h=>by
  unfold zM;rw[List.foldl_cons,h e (q8 ..)];exact XO w fun x g=>h x (qJ _ g)
theorem qaB{nF:Nat}(h:Shp nS nF S)(k:Shp nS nF T)(R:Fix vs nS nF S)(U:Fix vs nS nF T)(ha:∀ s f,s<nS->f<nF->(getR S s f).ar=(getR T s f).ar):(q9 nS nF S T).foldl (fun S e=>edSt vs e S) S=T:=by
 refine XK h.eds k (fun s f j hf=>by rw[Qz j hf h];grind) fun s f t j hf=>?_
 have key:=we (vs:=vs) (t:=t) j hf (l:=q9 nS nF S T) h;have hm:∀ e,e∈q9 nS nF S T->mine vs s f t e=true->(e.kind=2/\t∈(getR S s f).ts/\t ∉ (getR T s f).ts)\/(e.kind=1/\t∈(getR T s f).ts/\t ∉ (getR S s f).ts):=fun e r i=>by
  obtain⟨C,f',p,a0,⟨e1,e2⟩,J⟩:=(QP h k).1 r;simp only[mine,qi,decide_eq_true_eq,hits,vL,Bool.not_eq_true',e1,e2,Int.toNat_natCast]at i;obtain⟨rfl,g,rfl⟩:=i;rcases g with g|g
  .obtain rfl:s=C:=by omega
   exact J
  .rw [R s C f j p hf g,U s C f j p hf g];exact J
 by_cases P:t∈(getR S s f).ts↔t∈(getR T s f).ts
 .rw [XO _ fun e r=>by
   grind]at key
  grind
 .have hx:∃ e,e∈q9 nS nF S T/\mine vs s f t e=true:=by
   by_cases o:t∈(getR S s f).ts
   .have g:t ∉ (getR T s f).ts:=fun g=>P ⟨fun _=>g,fun _=>o⟩
    exact⟨⟨2,s,f,t⟩,(QP h k).2 ⟨s,f,j,hf,⟨rfl,rfl⟩,.inl ⟨rfl,o,g⟩⟩,by simp[mine,hits]⟩
   .have g:t∈(getR T s f).ts:=Classical.byContradiction fun g=>P ⟨fun q=>absurd q o,fun q=>absurd q g⟩
    exact⟨⟨1,s,f,t⟩,(QP h k).2 ⟨s,f,j,hf,⟨rfl,rfl⟩,.inr ⟨rfl,g,o⟩⟩,by simp[mine,hits]⟩
  rw[XN (c:=decide (t∈(getR T s f).ts)) _ (fun e r i=>by
   rcases hm e r i with ⟨I,o,g⟩|⟨I,o,g⟩
   .simp [I,g]
   .simp [I,o]) hx]at key
  grind
theorem qaC{nF:Nat}{b:List Bd}(h:Shp nS nF S)(k:Shp nS nF T)(r:b.length=nF)(g:∀ s f (hf:f<nF),s<nS->(∀ t,t∈(b[f]' zOm).lo.ts->t∈(getR T s f).ts)/\∀ t,t∈(getR T s f).ts->t∈(b[f]' zOm).up.ts):∀ e,e∈q9 nS nF S T->errE nS nF b e=0:=fun e j=>by
 obtain⟨s,f,l,hf,⟨C,I⟩,J⟩:=(QP h k).1 j;have i:b[e.field.toNat]?=some (b[f]' zOm):=by grind
 obtain⟨P,R⟩:=g s f hf l;unfold errE;rw[if_neg,i]
 .simp only
  rw[if_neg];rintro (⟨o,p⟩|⟨o,p⟩)
  .grind
  grind
 omega
end
end GC
namespace EU
end EU
namespace EC
end EC
end Go.Proofs.YthkdjhkmlmjkbaaGreatDoor
