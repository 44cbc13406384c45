/-
  Own library, part 3: an abstract reading of values and a calculus over it; contracts of functions; plain lemmas.
-/
import Derived.Deep.LoopGhost
import Derived.Scope
import Derived.Sort.LoopGhostIn
import Derived.Test.YtccifccjhgdikaaGreatDoorProg
import Derived.KernelRfl
import Derived.RecoverIn
import Derived.Sort.Grow
import Derived.Shelf.Strconv.Itoa0
import Derived.Shelf.Strconv.Itoa1
import Derived.Shelf.LaysM
import Derived.Shelf.Strconv.Itoa2
import Derived.Shelf.Strconv.Itoa3
import Derived.Shelf.Sort.Plain
import Derived.Shelf.Bits.Mul64
import Derived.Ground.Names2Prog
import Derived.Shelf.Slices.SearchI
import Derived.Shelf.Slices.Delete
import Derived.Shelf.Slices.In.SortNone
import Derived.Shelf.Slices.Empties
import Derived.Test.YtccifccjhgdikaaGreatDoorMb
set_option linter.unusedVariables false
set_option linter.unusedSimpArgs false
set_option maxRecDepth 100000
open Go.Proofs.Tryz renaming prog->qa
open Option.some renaming injEq->qb
open List renaming getElem?_eq_some_iff->qc,range->qg,getElem?_append_left->qh,mem_map->qr,getElem?_eq_getElem->qs,all_eq_true->qt,mem_cons->qz,getElem?_append_right->qB,mem_of_getElem?->qC,mem_singleton->qV,getElem?_map->qW,getElem_mem->qY,getElem?_set_ne->q9,getElem?_set_self->zi,length_map->zr,getElem?_take->zu,not_mem_nil->zz,take_of_length_le->zA,getElem?_drop->zH,length_cons->zN,ext_getElem?->ya,getElem?_eq_none->ym,flatten_cons->yo,mem_cons_self->yz,nodup_cons->yB,map_append->yC,mem_range->yD,getElem?_toArray->yE,replicate->yO,getElem_of_mem->wD,mem_flatten->wE
open Bool renaming and_eq_true->qe,or_eq_true->yc
open Array renaming getD_eq_getD_getElem?->qi,getElem?_eq_some_iff->qR
open Go.Sem renaming run_bind->ql,run_pure->qG
open Go.Result renaming andThen_ok->qm
open Nat renaming le_refl->qu,le_of_ble_eq_true->ze,le_trans->zt,zero_add->zX,lt_succ_iff_lt_or_eq->ZB
open Option renaming map_some->qw,map_eq_some_iff->zj
open Go.IntKind renaming i64->qJ
open Go.World renaming putObj_heap_other->yP
open List.Nodup renaming length_le_of_subset->yQ
namespace Go.Ev
open Go Go.RowKit
inductive qv where
 |normal
 |exit (id:Nat)
 |ret
 |pan (v:AV)
def seqQ(n:St->Prop)(Q:qv->St->Prop):qv->St->Prop
 | .normal,st=>n st
 |e,st=>Q e st
def js(id:Nat)(Q:qv->St->Prop):qv->St->Prop
 | .exit i,st=>if i=id then Q .normal st else Q (.exit i) st
 |e,st=>Q e st
def jt(I:Nat->St->Prop)(n:Nat)(Q:qv->St->Prop):qv->St->Prop
 | .normal,st=>∃ m,m<n/\I m st
 |e,st=>Q e st
def Frz(st st':St):Prop:=∃ give,st'.mu=cutM (fun i=>!give i) st.mu 0/\∀ i,Gv st.mu give (st.tm i) (st'.tm i)
inductive Fz:St->St->Prop where
 |refl (st:St):Fz st st
 |step {a b c:St} (f:Frz a b) (k:Fz b c):Fz a c
def FzQ(Q:qv->St->Prop)(e:qv)(st:St):Prop:=∃ st',Frz st st'/\(match e with | .pan _=>st'=st|_=>True)/\Q e st'
def fzQ:Bool->(qv->St->Prop)->qv->St->Prop
 |true,Q=>FzQ Q
 |false,Q=>Q
def Stb(I:Mu->Prop):Prop:=∀ mu,I mu->I (mu++[.dead])
def Yld(P:Program)(i:Nat)(rows:List (List AV))(I:Nat->Mu->Prop)(Ix:Mu->Prop):Prop:=
 ∀ k x mu,rows[k]?=some x->I k mu->yH P i x mu fun b mu'=>(b=true/\I (k+1) mu')\/(b=false/\Ix mu')
def zS(P:Program)(f:FuncId)(caps:List AV)(rows:List (List AV)):Prop:=zn P f /\
 ∀(i:Nat) (I:Nat->Mu->Prop) (Ix:Mu->Prop),(∀ k,Stb (I k))->Stb Ix->Yld P i rows I Ix->∀ mu,I 0 mu ->
  qE P f (.yl i :: caps) mu fun e mu'=>∃ r,e = .ret r/\(I rows.length mu'\/Ix mu')
def Qr(P:Program)(f:FuncId)(caps:List AV)(rows:List (List AV)):Prop:=zn P f /\
 ∀(i:Nat) (I:Nat->Mu->Prop) (Ix:Mu->Prop),Yld P i rows I Ix->∀ mu,I 0 mu ->
  qE P f (.yl i :: caps) mu fun e mu'=>∃ r,e = .ret r/\(I rows.length mu'\/Ix mu')
def Y0(P:Program)(f:FuncId)(caps:List AV)(rows:List (List AV))(I:Nat->Mu->Prop)(Ix:qv->Mu->Prop):Prop:=(zS P f caps rows/\(∀ k,Stb (I k))/\∀ e,Stb (Ix e))\/Qr P f caps rows
def yK(tm:Nat->AV):List Tmp->List AV->(Nat->AV)
 |t :: ts,x :: xs=>yK (fun i=>if i=t then x else tm i) ts xs
 |_,_=>tm
def asQ(n:St->Prop):qv->St->Prop
 | .normal,st=>n st
 |_,_=>False
def rndQ(I:Nat->Mu->Prop)(Ix:qv->Mu->Prop)(k:Nat):qv->St->Prop
 | .normal,st=>I (k+1) st.mu
 | .pan _,_=>False
 |e,st=>Ix e st.mu
def awp(P:Program)(pl:Pol):Code->(qv->St->Prop)->St->Prop
 | .skip,Q,st=>Q .normal st
 | .label _,Q,st=>Q .normal st
 | .region _ ops draw,Q,st=>(draw=false/\awpS P pl false ops ops.toList (Q .normal) (fun v st=>Q (.pan v) st) st)\/(draw=true/\∃ st',Fz st st'/\uU P pl ops (Q .normal) (fun v st=>Q (.pan v) st) st')
 | .seq a b,Q,st=>awp P pl a (seqQ (awp P pl b Q) Q) st
 | .cond c a b,Q,st=>∃ t,st.ev c = .sc (.bool t)/\Br t (awp P pl a Q st) (awp P pl b Q st)
 | .block id body,Q,st=>awp P pl body (js id Q) st
 | .loop body,Q,st=>∃(z:Bool) (I:Nat->St->Prop) (n:Nat) (st':St),Fz st st'/\I n st'/\∀ n st,I n st->awp P pl body (jt I n (fzQ z Q)) st
 | .exit id,Q,st=>Q (.exit id) st
 | .ret,Q,st=>Q .ret st
 | .scope body,Q,st=>awp P pl body Q st
 | .rangeFunc g ps aas body,Q,st=>∃(z:Bool) (gf:FuncId) (caps:List AV) (rows:List (List AV)) (I:Nat->Mu->Prop) (Ix:qv->Mu->Prop),
   st.ev g = .fn (.func gf) [] caps/\Y0 P gf caps rows I Ix/\I 0 (st.mu++[.dead]) /\
   (∀ k x mu,rows[k]?=some x->I k mu->x.length=ps.size/\awp P pl aas (asQ (fun st=>awp P pl body (rndQ I Ix k) st)) ⟨yK st.tm ps.toList x,mu⟩) /\
   (∀ mu,I rows.length mu->fzQ z Q .normal ⟨st.tm,mu⟩)/\(∀ e mu,Ix e mu->fzQ z Q e ⟨st.tm,mu⟩)
 |_,_,_=>False
def noRF:Code->Bool
 | .seq a b=>noRF a&&noRF b
 | .cond _ a b=>noRF a&&noRF b
 | .block _ b=>noRF b
 | .loop b=>noRF b
 | .scope b=>noRF b
 | .rangeFunc .. => false
 |_=>true
def dOkC(n:Nat):Code->Bool
 | .region _ ops _=>ops.toList.all fun o=>dOk n o.dst
 | .seq a b=>dOkC n a&&dOkC n b
 | .cond _ a b=>dOkC n a&&dOkC n b
 | .block _ b=>dOkC n b
 | .loop b=>dOkC n b
 | .scope b=>dOkC n b
 | .rangeFunc _ ps aas b=>(ps.toList.all fun t=>decide (t<n))&&dOkC n aas&&dOkC n b&&noRF aas&&noRF b
 |_=>true
def ERel(G:Gh)(w:World):qv->Exit->Prop
 | .normal,.normal=>True
 | .exit i,.exit j=>i=j
 | .ret,.ret=>True
 | .pan x,.panic chain=>∃ v,chain=[{ v,recovered:=false }]/\VRel G w.heap x v
 |_,_=>False
def Fit(ro:Ro)(G0:Gh)(mu0:Mu)(w0:World)(n:Nat)(Q:qv->St->Prop)(QQ:Exit->Act->World->Prop):Prop:=
 ∀ ae e st a w G,Q ae st->Rel ro G0 mu0 w0 n G st a w->ERel G w ae e->QQ e a w
theorem Rel.frz{ro:Ro}{G0:Gh}{mu0:Mu}{w0:World}{n:Nat}{G:Gh}{st st':St}{a:Act}{w:World}(s0:Sim G0 mu0 w0.heap)(r:Rel ro G0 mu0 w0 n G st a w)(f:Frz st st'):∃ G',Rel ro G0 mu0 w0 n G' st' a w:=by
 obtain⟨give,hm,ht⟩:=f;refine⟨Go.Ev.frz G give st.mu,fun i=>(ht i).sound r.stp.sim (r.tm i),?_,r.size,?_,fun p hp=>(jl r.stp.sim give).vrel r.stp.sim (r.kp p hp)⟩
 .intro h
  have:=(r.df h).step (jl r.stp.sim give);rw[hm];exact this
 rw[hm];exact r.stp.trans s0 (jl r.stp.sim give)
theorem Rel.fz{ro:Ro}{G0:Gh}{mu0:Mu}{w0:World}{n:Nat}{G:Gh}{st st':St}{a:Act}{w:World}(s0:Sim G0 mu0 w0.heap)(r:Rel ro G0 mu0 w0 n G st a w)(f:Fz st st'):∃ G',Rel ro G0 mu0 w0 n G' st' a w:=by
 induction f generalizing G with
 |refl st=>exact⟨G,r⟩
 |step f k ih =>
  obtain⟨G1,r1⟩:=r.frz s0 f;exact ih r1
theorem Fit.fz{ro:Ro}{G0:Gh}{mu0:Mu}{w0:World}{n:Nat}{Q:qv->St->Prop}{QQ:Exit->Act->World->Prop}(s0:Sim G0 mu0 w0.heap)(h:Fit ro G0 mu0 w0 n Q QQ)(z:Bool):Fit ro G0 mu0 w0 n (fzQ z Q) QQ:=by
 cases z with
 |false=>exact h
 |true =>
  intro ae e st a w G hq r he;obtain⟨st',f,hp,hq⟩:=hq;cases ae with
  |pan v =>
   simp only at hp;subst hp;exact h _ e _ a w G hq r he
  |normal =>
   obtain⟨G',r'⟩:=r.frz s0 f;exact h _ e _ a w G' hq r' (by cases e<;>exact he)
  |ret =>
   obtain⟨G',r'⟩:=r.frz s0 f;exact h _ e _ a w G' hq r' (by cases e<;>exact he)
  |exit i =>
   obtain⟨G',r'⟩:=r.frz s0 f;exact h _ e _ a w G' hq r' (by cases e<;>exact he)
section
variable {F:Fence} {rm:Nat} {P:Program} {b:Frame} {a:Act} {k:List Item} {cs:List Frame} {w:World} {Q:Exit->Act->World->Prop}
theorem vg{c:Code}:step P (lone (b.atR a (.code (.scope c) :: k)) cs w) = .next (lone (b.atR a (.code c :: .inScope c :: k)) cs w):=
 step_lone_go (by simp[stepG,stepG.exec,Frame.atR])
theorem Wh{c:Code}:step P (lone (b.atR a (.inScope c :: k)) cs w) = .next (lone (b.atR a k) cs w):=
 step_lone_go (by simp[stepG,stepG.exec,Frame.atR])
theorem Wi{c:Code}(h:c.wpIn F rm P (Exit.noGoto Q) a w):(Code.scope c).wpIn F rm P Q a w:=by
 intro b k cs hro hb hr;have h0:(lone (b.atR a (.code (.scope c) :: k)) cs w).fenced P F:=fenced_calm hb hr rfl;obtain⟨e,a₁,w₁,hq,harr⟩:=h b (.inScope c :: k) cs hro hb hr;cases e with
 |normal=>exact⟨.normal,a₁,w₁,hq,.head h0 vg (StepsIn.trans harr (.one (fenced_calm hb hr rfl) Wh))⟩
 |exit id=>exact⟨.exit id,a₁,w₁,hq,fun k' hk => .head h0 vg (harr.1 k' (by simp[exitTo,hk])),
   fun hr' hk=>let ⟨k₁,h1,h2⟩:=harr.2 hr' (by simp[exitTo,hk]);⟨k₁,h1,.head h0 vg h2⟩⟩
 |goto l=>exact hq.elim
 |ret=>exact⟨_,a₁,w₁,hq,.of_steps (.one h0 vg) harr⟩
 |panic ch=>exact⟨_,a₁,w₁,hq,.of_steps (.one h0 vg) harr⟩
 |outgrown=>exact⟨_,a₁,w₁,hq,.of_steps (.one h0 vg) harr⟩
end
def Qs(P:Program)(pl:Pol)(n:Nat)(c:Code):Prop:=∀{ro:Ro} {G0:Gh} {mu0:Mu} {w0:World} (_:Sim G0 mu0 w0.heap) (Q:qv->St->Prop) (QQ:Exit->Act->World->Prop) (st:St) (a:Act) (w:World) (G:Gh),
  Fit ro G0 mu0 w0 n Q QQ->Rel ro G0 mu0 w0 n G st a w->dOkC n c=true->((ro.rd=none/\ro.mks=true)\/noRF c=true)->awp P pl c Q st->c.wpIn (WF ro) 0 P QQ a w
def v7:qv->Option Code
 | .ret=>some .ret
 | .exit id=>some (.exit id)
 |_=>none
def JJ(n:Nat)(ps:Array Tmp)(aas body:Code)(tm:Nat->AV)(i0:Nat)(I:Nat->Mu->Prop)(k:Nat)(M:Mu):Prop:=
 ∃ fn tmps d,M[i0]?=some (.lp { state := .ready,pending:=none,fn,tmps,params:=ps,assign:=aas,body,defers:=d } tm)/\tmps.size=n/\I k (M.set i0 .dead)
def JX(ps:Array Tmp)(aas body:Code)(tm:Nat->AV)(i0:Nat)(Ix:qv->Mu->Prop)(M:Mu):Prop:=
 ∃ fn tmps d e c,M[i0]?=some (.lp { state := .done,pending:=some c,fn,tmps,params:=ps,assign:=aas,body,defers:=d } tm)/\v7 e=some c/\Ix e (M.set i0 .dead)
theorem Ja{G:Gh}{h:Array Obj}:∀(ts:List Tmp) (xs:List AV) (vs:List Value) (tm:Nat->AV) (tmps:Array Value),xs.length=ts.length->vs.length=ts.length ->
  (∀(k:Nat) x,xs[k]?=some x->VRel G h x (vs.getD k undef))->(∀ i,VRel G h (tm i) (tmps.getD i undef))->(∀ t,t∈ts->t<tmps.size) ->
  (∀ i,VRel G h (yK tm ts xs i) (((ts.zip vs).foldl (fun tmps (x:Tmp×Value)=>tmps.setIfInBounds x.1 x.2) tmps).getD i undef))/\((ts.zip vs).foldl (fun tmps (x:Tmp×Value)=>tmps.setIfInBounds x.1 x.2) tmps).size=tmps.size
 | [],xs,vs,tm,tmps,_,_,_,h2,_=>by
  refine⟨?_,rfl⟩;cases xs<;>exact h2
 |t :: ts,x :: xs,v :: vs,tm,tmps,hl,hl',h1,h2,h3=>by
  have hv:VRel G h x v:=by simpa using h1 0 x rfl
  obtain⟨r1,r2⟩:=Ja ts xs vs (fun i=>if i=t then x else tm i) (tmps.setIfInBounds t v) (by simpa using hl) (by simpa using hl') (fun k y hy=>by simpa using h1 (k+1) y (by simpa using hy)) (fun i=>by
   by_cases hi:i=t
   .subst hi
    have hlt:=h3 i (by simp);simpa[qi,hlt] using hv
   .rw [if_neg hi]
    have:(tmps.setIfInBounds t v).getD i undef=tmps.getD i undef:=by
     simp only[qi];rw[Array.getElem?_setIfInBounds_ne (fun h=>hi h.symm)]
    rw[this];exact h2 i) (fun s hs=>by simpa using h3 s (by simp[hs]))
  exact⟨r1,by simpa using r2⟩
 |_ :: _,[],_,_,_,hl,_,_,_,_=>by simp at hl
 |_ :: _,_ :: _,[],_,_,_,hl',_,_,_=>by simp at hl'
theorem Jb{P:Program}{pl:Pol}{n:Nat}{ps:Array Tmp}{aas body:Code}{rows:List (List AV)}{I:Nat->Mu->Prop}{Ix:qv->Mu->Prop}{tm:Nat->AV}{i0:Nat}
  (h1:Qs P pl n aas) (h2:Qs P pl n body) (hd1:dOkC n aas=true) (hd2:dOkC n body=true) (hn1:noRF aas=true) (hn2:noRF body=true) (hps:∀ t,t∈ps.toList->t<n)
  (hround:∀ k x mu,rows[k]?=some x->I k mu->x.length=ps.size/\awp P pl aas (asQ (fun st=>awp P pl body (rndQ I Ix k) st)) ⟨yK tm ps.toList x,mu⟩) :
  Yld P i0 rows (JJ n ps aas body tm i0 I) (JX ps aas body tm i0 Ix):=by
 rintro k x M hx ⟨fn,tmps,d,hM,hsz,hI⟩ G w vs s ra l tot hb;obtain⟨o,ho,hcr⟩:=s.obj i0 _ l tot hM (by simp) hb;obtain⟨rfl,htm⟩:=hcr;obtain⟨hlen,hawp⟩:=hround k x _ hx hI;have hvs:vs.size=ps.size:=by rw[ra.1,hlen]
 refine⟨_,_,_,_,run_yield ho hvs,?_⟩;refine roundIn_of_wpIn (F:=Fence.wide) trivial ?_;simp only;have hfold:(ps.zip vs).foldl (fun tmps (x:Tmp×Value)=>tmps.setIfInBounds x.1 x.2) tmps=(ps.toList.zip vs.toList).foldl (fun tmps (x:Tmp×Value)=>tmps.setIfInBounds x.1 x.2) tmps:=by
  rw[<-Array.foldl_toList,Array.toList_zip]
 have htm0:=Ja (G:=G) (h:=w.heap) ps.toList x vs.toList tm tmps (by simpa using hlen) (by simpa using hvs) (fun k y hy=>by simpa[qi,List.getD_eq_getElem?_getD] using ra.2 k y hy) htm (fun t ht=>by rw[hsz];exact hps t ht);refine h1 (ro:=Ro.round l) (s.hid i0) _ _ ⟨yK tm ps.toList x,M.set i0 .dead⟩ _ w G ?_ ⟨?_,fun h=>absurd h (by simp[Ro.round]),?_,Stp.refl (s.hid i0),fun p hp=>by simp[Ro.round]at hp⟩ hd1 (.inr hn1) hawp
 rotate_left
 .intro i
  simp only;rw[hfold];exact htm0.1 i
 .simp only
  rw[hfold,htm0.2];exact hsz
 intro ae e st1 a1 w1 G1 hq r1 he;cases ae with
 |normal =>
  cases e<;>simp only[ERel]at he
  obtain⟨hm1,hk1,T1⟩:=r1.stp.unhid s hM (by simp) hb;have ho1:w1.heap[l]?=some (.loop { state := .ready,pending:=none,fn,tmps,params:=ps,assign:=aas,body,defers:=d }):=by rw[hk1];exact ho
  refine⟨_,run_beginRound ho1 rfl,?_⟩;simp only;have hi1:i0<st1.mu.length:=(qc.1 hm1).1;have hb1:G1.blk[i0]?=some (l,tot):=r1.stp.le.blk _ _ hb;have hl1:l<w1.heap.size:=(qR.1 ho1).1;have W1:=Stp.write (w:=w1) (w':=w1.putObj l (.loop { state := .busy,pending:=none,fn,tmps,params:=ps,assign:=aas,body,defers:=d })) T1.sim i0 _
   (.lp { state := .busy,pending:=none,fn,tmps,params:=ps,assign:=aas,body,defers:=d } tm) l tot _ (zi hi1) (by simp) (by simp) hb1 (by simp) (World.putObj_heap_same hl1)
   (fun b hbl=>yP hbl) rfl rfl rfl ⟨rfl,fun i=>((htm i).mono r1.stp.le (r1.stp.ext (s.hid i0)))⟩
  simp only[List.set_set]at W1;have hset:∀ c:Cell,(st1.mu.set i0 c).set i0 .dead=st1.mu:=by
   intro c;rw[List.set_set];apply ya;intro j;by_cases e:i0=j
   .subst e;rw[zi hi1,hm1]
   .rw [q9 e]
  have s1:=W1.sim.hid i0;rw[hset]at s1;refine h2 (ro:=Ro.round l) s1 _ _ st1 a1 _ G1 ?_ ⟨fun i=>(r1.tm i).mono (.refl G1) (W1.ext T1.sim),fun h=>absurd h (by simp[Ro.round]),r1.size,Stp.refl s1,fun p hp=>by simp[Ro.round]at hp⟩ hd2 (.inr hn2) hq;intro ae2 e2 st2 a2 w2 G2 hq2 r2 he2;have T2':Stp G1 ((st1.mu.set i0 (.lp { state := .busy,pending:=none,fn,tmps,params:=ps,assign:=aas,body,defers:=d } tm)).set i0 .dead) (w1.putObj l (.loop { state := .busy,pending:=none,fn,tmps,params:=ps,assign:=aas,body,defers:=d })) G2 st2.mu w2:=by
   rw[hset];exact r2.stp
  obtain⟨hm2,hk2,T2⟩:=T2'.unhid W1.sim (zi hi1) (by simp) hb1;have ho2:w2.heap[l]?=some (.loop { state := .busy,pending:=none,fn,tmps,params:=ps,assign:=aas,body,defers:=d }):=by rw[hk2];exact World.putObj_heap_same hl1
  have hi2:i0<st2.mu.length:=(qc.1 hm2).1;have hb2:G2.blk[i0]?=some (l,tot):=T2.le.blk _ _ hb1;have hl2:l<w2.heap.size:=(qR.1 ho2).1;have T:Stp G M w G2 (st2.mu.set i0 (.lp { state := .busy,pending:=none,fn,tmps,params:=ps,assign:=aas,body,defers:=d } tm)) w2:=(T1.trans s W1).trans s T2;have hset2:∀ c:Cell,(st2.mu.set i0 c).set i0 .dead=st2.mu:=by
   intro c;rw[List.set_set];apply ya;intro j;by_cases e:i0=j
   .subst e;rw[zi hi2,hm2]
   .rw [q9 e]
  have fin:∀(jump:Option Code),Stp G M w G2 (st2.mu.set i0 (.lp { state:=if jump.isNone then .ready else .done,pending:=jump,fn,tmps,params:=ps,assign:=aas,body,defers:=d } tm))
    (w2.putObj l (.loop { state:=if jump.isNone then .ready else .done,pending:=jump,fn,tmps,params:=ps,assign:=aas,body,defers:=d })):=by
   intro jump;have W2:=Stp.write (w:=w2) (w':=w2.putObj l (.loop { state:=if jump.isNone then .ready else .done,pending:=jump,fn,tmps,params:=ps,assign:=aas,body,defers:=d })) T2.sim i0 _
    (.lp { state:=if jump.isNone then .ready else .done,pending:=jump,fn,tmps,params:=ps,assign:=aas,body,defers:=d } tm) l tot _ (zi hi2) (by simp) (by simp) hb2 (by simp) (World.putObj_heap_same hl2)
    (fun b hbl=>yP hbl) rfl rfl rfl ⟨rfl,fun i=>((htm i).mono T.le (T.ext s))⟩
   simp only[List.set_set]at W2;exact T.trans s W2
  cases ae2 with
  |normal =>
   cases e2<;>simp only[ERel]at he2
   refine⟨_,_,run_endRound none ho2,true,G2,_,rfl,fin none,.inl ⟨rfl,fn,tmps,d,zi hi2,hsz,?_⟩⟩;rw[hset2];exact hq2
  |ret =>
   cases e2<;>simp only[ERel]at he2
   refine⟨_,_,run_endRound (some .ret) ho2,false,G2,_,rfl,fin (some .ret),.inr ⟨rfl,fn,tmps,d,.ret,.ret,zi hi2,rfl,?_⟩⟩;rw[hset2];exact hq2
  |exit id =>
   cases e2<;>simp only[ERel]at he2
   subst he2;refine⟨_,_,run_endRound (some (.exit id)) ho2,false,G2,_,rfl,fin (some (.exit id)),.inr ⟨rfl,fn,tmps,d,.exit id,.exit id,zi hi2,rfl,?_⟩⟩;rw[hset2];exact hq2
  |pan v=>exact hq2.elim
 |ret=>exact hq.elim
 |exit id=>exact hq.elim
 |pan v=>exact hq.elim
theorem Qt{P:Program}{pl:Pol}{n:Nat}:∀(c:Code),Qs P pl n c:=by
  intro c;induction c with
  |skip=>intro ro G0 mu0 w0 s0 Q QQ st a w G hf r _ _ h;exact wpIn_skip (hf .normal .normal st a w G h r trivial)
  |label l=>intro ro G0 mu0 w0 s0 Q QQ st a w G hf r _ _ h;exact wpIn_label (hf .normal .normal st a w G h r trivial)
  |exit id=>intro ro G0 mu0 w0 s0 Q QQ st a w G hf r _ _ h;exact wpIn_exit (hf (.exit id) (.exit id) st a w G h r rfl)
  |ret=>intro ro G0 mu0 w0 s0 Q QQ st a w G hf r _ _ h;exact wpIn_ret (hf .ret .ret st a w G h r trivial)
  |region id ops draw =>
    intro ro G0 mu0 w0 s0 Q QQ st a w G hf r hd hn h;rcases h with ⟨rfl,h2⟩|⟨rfl,h2⟩
    · refine wpIn_region_list (Qg s0 (fun st a w G hq r=>hf .normal .normal st a w G hq r trivial) (fun v st a w G u hq r hv=>hf (.pan v) (.panic _) st a w G hq r ⟨u,rfl,hv⟩) _ st a w G r hd h2)
    · obtain⟨st1,hf1,h2⟩:=h2
      obtain⟨G1,r1⟩:=r.fz s0 hf1;refine wpIn_region_draw fun t=>?_
      exact Wg s0 hd (fun st a w G hq r=>hf .normal .normal st a w G hq r trivial) (fun v st a w G u hq r hv=>hf (.pan v) (.panic _) st a w G hq r ⟨u,rfl,hv⟩) (r1.drew s0) h2 _ t
  |seq x y ihx ihy =>
    intro ro G0 mu0 w0 s0 Q QQ st a w G hf r hd hn h;simp only[dOkC,qe]at hd;simp only[noRF,qe]at hn;refine wpIn_seq (ihx s0 _ _ st a w G ?_ r hd.1 (hn.imp id And.left) h);intro ae e st' a' w' G' hq r' he;cases ae<;>cases e<;>simp only[ERel]at he
    · exact ihy s0 Q QQ st' a' w' G' hf r' hd.2 (hn.imp id And.right) hq
    · exact hf (.exit _) (.exit _) st' a' w' G' hq r' he
    · exact hf .ret .ret st' a' w' G' hq r' trivial
    · exact hf (.pan _) (.panic _) st' a' w' G' hq r' he
  |cond cnd x y ihx ihy =>
    intro ro G0 mu0 w0 s0 Q QQ st a w G hf r hd hn h;simp only[dOkC,qe]at hd;simp only[noRF,qe]at hn;obtain⟨t,ht,h1,h2⟩:=h;have rc:=r.ev cnd;rw[ht]at rc;have ec:a.eval cnd = .bool t:=by generalize a.eval cnd=v at rc;cases rc;rfl
    refine wpIn_cond_split ec (fun e=>ihx s0 Q QQ st a w G hf r hd.1 (hn.imp id And.left) (h1 e)) (fun e=>ihy s0 Q QQ st a w G hf r hd.2 (hn.imp id And.right) (h2 e))
  |block id body ih =>
    intro ro G0 mu0 w0 s0 Q QQ st a w G hf r hd hn h;refine wpIn_block (ih s0 _ _ st a w G ?_ r hd hn h);intro ae e st' a' w' G' hq r' he;cases ae<;>cases e<;>simp only[ERel]at he
    · exact hf .normal .normal st' a' w' G' hq r' trivial
    · subst he
      simp only[js]at hq;simp only[Exit.inBlock];split at hq
      · rename_i hid;rw[if_pos hid];exact hf .normal .normal st' a' w' G' hq r' trivial
      · rename_i hid;rw[if_neg hid];exact hf (.exit _) (.exit _) st' a' w' G' hq r' rfl
    · exact hf .ret .ret st' a' w' G' hq r' trivial
    · exact hf (.pan _) (.panic _) st' a' w' G' hq r' he
  |loop body ih =>
    intro ro G0 mu0 w0 s0 Q QQ st a w G hf r hd hn h;obtain⟨z,I,n0,st1,hf1,hI,hround⟩:=h;obtain⟨G1,r1⟩:=r.fz s0 hf1;have hf:=hf.fz s0 z;refine wpIn_loop_ghost (fun k a w=>∃ st G,I k st/\Rel ro G0 mu0 w0 n G st a w) n0 ⟨st1,G1,hI,r1⟩ ?_;intro k a' w' ⟨st',G',hI',r'⟩;refine ih s0 _ _ st' a' w' G' ?_ r' hd hn (hround k st' hI');intro ae e st2 a2 w2 G2 hq r2 he;cases ae<;>cases e<;>simp only[ERel]at he
    · obtain⟨m,hm,hI2⟩:=hq
      exact⟨m,hm,st2,G2,hI2,r2⟩
    · exact hf (.exit _) (.exit _) st2 a2 w2 G2 hq r2 he
    · exact hf .ret .ret st2 a2 w2 G2 hq r2 trivial
    · exact hf (.pan _) (.panic _) st2 a2 w2 G2 hq r2 he
  |scope body ih =>
    intro ro G0 mu0 w0 s0 Q QQ st a w G hf r hd hn h;refine Wi (ih s0 Q _ st a w G ?_ r hd hn h);intro ae e st' a' w' G' hq r' he;cases ae<;>cases e<;>simp only[ERel]at he
    · exact hf .normal .normal st' a' w' G' hq r' trivial
    · exact hf (.exit _) (.exit _) st' a' w' G' hq r' he
    · exact hf .ret .ret st' a' w' G' hq r' trivial
    · exact hf (.pan _) (.panic _) st' a' w' G' hq r' he
  |rangeFunc g ps aas body ih1 ih2 =>
    intro ro G0 mu0 w0 s0 Q QQ st a w G hf r hd hn h;have hrn:ro.rd=none/\ro.mks=true:=by
      rcases hn with hn|hn
      · exact hn
      · simp[noRF]at hn
    simp only[dOkC,qe,qt,decide_eq_true_eq]at hd;obtain⟨⟨⟨⟨hps,hd1⟩,hd2⟩,hn1⟩,hn2⟩:=hd;obtain⟨z,gf,caps,rows,I,Ix,hg,hit,h0,hround,hend,hexit⟩:=h;have hf:=hf.fz s0 z;refine wpIn_rangeFunc fun fn _=>?_
    have eg:=r.ev g;rw[hg]at eg;generalize hq:a.eval g=gv at eg;cases eg with
    |fn _ _ _ fvs cvs hfn hm hv hw =>
    have e0:fvs=#[]:=Array.eq_empty_of_size_eq_zero (by simpa using hfn);subst e0;have hcal:zn P gf:=by rcases hit with h|h;exact h.1.1;exact h.1
    generalize hrec:(Loop.mk .ready none fn a.tmps ps aas body w.heap.size)=rec0;have hw1:∃ w1,w1=(w.alloc (.deferred (some []))).alloc (.loop rec0):=⟨_,rfl⟩;obtain⟨w1,hw1⟩:=hw1;have hsz1:w1.heap.size=w.heap.size+2:=by rw[hw1];simp
    have hold:∀ b,b<w.heap.size->w1.heap[b]?=w.heap[b]?:=by
      intro b hb;rw[hw1,Below.heap_alloc _ _ b (by simp;omega),Below.heap_alloc _ _ b hb]
    have hD1:w1.heap[w.heap.size]?=some (.deferred (some [])):=by
      rw[hw1,Below.heap_alloc _ _ _ (by simp)];exact World.alloc_heap_new w _
    have hl1:w1.heap[w.heap.size+1]?=some (.loop rec0):=by
      rw[hw1];have:=World.alloc_heap_new (w.alloc (.deferred (some []))) (.loop rec0);simpa using this
    have sG:=r.stp.sim;have hlive:∀ b,Live G st.mu b->b<w.heap.size:=fun b hb=>sG.livesize hb
    have hG1:∃ G1:Gh,G1=⟨G.imm,G.blk++[(w.heap.size+1,0)]⟩:=⟨_,rfl⟩;obtain⟨G1,hG1⟩:=hG1;have hle:G.le G1:=by
      rw[hG1];exact⟨fun _ h=>h,fun i x hx=>by simp only;rw[qh (qc.1 hx).1];exact hx⟩
    have hext:Ext G w.heap w1.heap:=⟨by omega,fun b hb=>hold b (sG.imm b hb)⟩;have hblk1:G1.blk[st.mu.length]?=some (w.heap.size+1,0):=by rw[hG1,<-sG.len];simp
    have hcases:∀(j:Nat) (c:Cell) (bt:Nat×Nat),(st.mu++[Cell.lp rec0 st.tm])[j]?=some c->G1.blk[j]?=some bt->(st.mu[j]?=some c/\G.blk[j]?=some bt)\/(j=st.mu.length/\c = .lp rec0 st.tm/\bt=(w.heap.size+1,0)):=by
      intro j c bt hj hbt;by_cases hlt:j<st.mu.length
      · rw[qh hlt]at hj
        rw[hG1]at hbt;simp only at hbt;rw[qh (by rw[sG.len];exact hlt)]at hbt;exact .inl ⟨hj,hbt⟩
      · have hj2:=(qc.1 hj).1
        simp at hj2;have:j=st.mu.length:=by omega
        subst this;rw[hblk1]at hbt;simp at hj hbt;exact .inr ⟨rfl,hj.symm,hbt.symm⟩
    have s1:Sim G1 (st.mu++[Cell.lp rec0 st.tm]) w1.heap:=by
      refine⟨by rw[hG1];simp[sG.len],fun b hb=>?_,?_,?_,?_,sG.tab.mono hle.imm hext.keep⟩
      · rw[hG1]at hb;have:=sG.imm b hb;omega
      · intro j c blk tot g1 g2 g3
        rcases hcases j c _ g1 g3 with ⟨q1,q2⟩|⟨rfl,rfl,q⟩
        · obtain⟨o,k1,k2⟩:=sG.obj j c blk tot q1 g2 q2
          exact⟨o,by rw[hold _ (qR.1 k1).1];exact k1,k2.mono hle hext⟩
        · obtain⟨rfl,rfl⟩:=Prod.mk.inj q
          refine⟨_,hl1,rfl,fun i=>?_⟩;rw[<-hrec];exact(r.tm i).mono hle hext
      · intro j c blk tot g1 g2 g3
        rcases hcases j c _ g1 g3 with ⟨q1,q2⟩|⟨rfl,rfl,q⟩
        · have:=sG.live j c blk tot q1 g2 q2
          rw[hG1];exact this
        · obtain⟨rfl,rfl⟩:=Prod.mk.inj q
          rw[hG1];intro himm;have:=sG.imm _ himm;omega
      · intro i j ci cj b ti tj g1 g2 g3 g4 g5 g6
        rcases hcases i ci _ g1 g5 with ⟨q1,q2⟩|⟨rfl,rfl,q⟩<;>rcases hcases j cj _ g2 g6 with ⟨p1,p2⟩|⟨rfl,rfl,p⟩
        · exact sG.inj i j ci cj b ti tj q1 p1 g3 g4 q2 p2
        · obtain⟨rfl,rfl⟩:=Prod.mk.inj p
          have:=hlive _ ⟨i,ci,ti,q1,g3,q2⟩;omega
        · obtain⟨rfl,rfl⟩:=Prod.mk.inj q
          have:=hlive _ ⟨j,cj,tj,p1,g4,p2⟩;omega
        · rfl
    have hlive1:∀ b,Live G1 (st.mu++[Cell.lp rec0 st.tm]) b->Live G st.mu b\/b=w.heap.size+1:=by
      rintro b ⟨j,c,tot,g1,g2,g3⟩;rcases hcases j c _ g1 g3 with ⟨q1,q2⟩|⟨rfl,rfl,q⟩
      · exact .inl ⟨j,c,tot,q1,g2,q2⟩
      · exact .inr (Prod.mk.inj q).1
    have t1:Stp G st.mu w G1 (st.mu++[Cell.lp rec0 st.tm]) w1:=by
      refine⟨hle,s1,fun b hb _=>hold b hb,by omega,fun b hb=>?_,fun b hb=>?_,by rw[hw1];rfl,by rw[hw1];rfl,by rw[hw1];rfl,by rw[hw1];exact qu _⟩
      · rcases hlive1 b hb with h|h
        · exact .inl h
        · exact .inr (by omega)
      · rw[hG1]at hb;exact .inl hb
    have mk1:Mk G1 (st.mu++[Cell.lp rec0 st.tm]) w1.heap w.heap.size:=by
      refine⟨hD1,fun hb=>?_,fun hb=>?_⟩
      · rcases hlive1 _ hb with h|h
        · have:=hlive _ h;omega
        · omega
      · rw[hG1]at hb;have:=sG.imm _ hb;omega
    have hJ0:JJ n ps aas body st.tm st.mu.length I 0 (st.mu++[Cell.lp rec0 st.tm]):=by
      refine⟨fn,a.tmps,w.heap.size,by rw[hrec];simp,r.size,?_⟩;have:(st.mu++[Cell.lp rec0 st.tm]).set st.mu.length .dead=st.mu++[.dead]:=by simp
      rw[this];exact h0
    have stb:∀(X:Mu->Prop) (M:Mu) (c:Cell),Stb X->M[st.mu.length]?=some c->X (M.set st.mu.length .dead)->X ((M++[Cell.dead]).set st.mu.length Cell.dead):=by
      intro X M c hX hM hx;rw[List.set_append_left _ _ (qc.1 hM).1];exact hX _ hx
    have hso:qE P gf (.yl st.mu.length :: caps) (st.mu++[Cell.lp rec0 st.tm]) fun e mu'=>∃ r,e = .ret r/\(JJ n ps aas body st.tm st.mu.length I rows.length mu'\/JX ps aas body st.tm st.mu.length Ix mu'):=by
      rcases hit with ⟨hit,hS,hSx⟩|hit
      rotate_left
      · exact hit.2 st.mu.length _ _ (Jb ih1 ih2 hd1 hd2 hn1 hn2 hps hround) _ hJ0
      exact hit.2 st.mu.length (JJ n ps aas body st.tm st.mu.length I) (JX ps aas body st.tm st.mu.length Ix)
       (fun k M ⟨f',t',d',q1,q2,q3⟩=>⟨f',t',d',by rw[qh (qc.1 q1).1];exact q1,q2,stb _ M _ (hS k) q1 q3⟩)
       (fun M ⟨f',t',d',e',c',q1,q2,q3⟩=>⟨f',t',d',e',c',by rw[qh (qc.1 q1).1];exact q1,q2,stb _ M _ (hSx e') q1 q3⟩)
       (Jb ih1 ih2 hd1 hd2 hn1 hn2 hps hround) _ hJ0
    have rargs:qM G1 w1.heap (.yl st.mu.length :: caps) (#[Value.func (.yield (w.heap.size+1)) #[] #[]]++cvs):=by
      refine⟨by simp[hm];omega,fun k x hx=>?_⟩;cases k with
      |zero =>
        simp at hx;subst hx;have e:(#[Value.func (.yield (w.heap.size+1)) #[] #[]]++cvs).getD 0 undef=Value.func (.yield (w.heap.size+1)) #[] #[]:=by
          simp only[qi];rw[Array.getElem?_append_left (by simp)];simp
        rw[e];exact VRel.yl _ _ 0 hblk1
      |succ k =>
        have:=(hw k x (by simpa using hx)).mono hle hext;have e:(#[Value.func (.yield (w.heap.size+1)) #[] #[]]++cvs).getD (k+1) undef=cvs.getD k undef:=by
          simp only[qi];rw[Array.getElem?_append_right (by simp)];simp
        rw[e];exact this
    refine⟨w.heap.size+1,[mkOf w.heap.size],w1,⟨.fn (.func gf) cvs,#[Value.func (.yield (w.heap.size+1)) #[] #[]]⟩,w1,gf,#[Value.func (.yield (w.heap.size+1)) #[] #[]]++cvs,w1,?_,?_,fun _ _=>trivial,?_,fun h=>by simp[WF,Fence.wide]at h,?_⟩
    · rw[hw1,<-hrec,show (WF ro).round=none from hrn.1];exact run_enterLoop_outer fn a.tmps ps aas body
    · simp only[resolve,rangeCall,ql,qG,qm,hq,Deferred.ofValue]
      simp[Act.eval]
    · simp only[invoke]
      exact hcal _ w1
    · have hcalls:=hso.2 G1 w1 _ s1 rargs
      have:=(callsIn_wide (n:=0)).2 (hcalls.mono (R':=rangePost (WF ro) 0 P (w.heap.size+1) QQ { a with defers:=mkOf w.heap.size :: a.defers }) ?_)
      · exact this
      rintro e w3 ⟨G3,mu3,t3,hR0⟩;have hR:(∃ v,e = .returned v)/\(JJ n ps aas body st.tm st.mu.length I rows.length mu3\/JX ps aas body st.tm st.mu.length Ix mu3):=by
        rcases hR0 with ⟨rv,v,⟨rv',he,hR⟩,rfl,hvv⟩|⟨rv,v,⟨rv',he,_⟩,_⟩
        · exact⟨⟨v,rfl⟩,hR⟩
        · exact absurd he (by simp)
      clear hR0;obtain⟨⟨v,rfl⟩,hR⟩:=hR;have tt:Stp G st.mu w G3 mu3 w3:=t1.trans sG t3;have ttt:Stp G0 mu0 w0 G3 mu3 w3:=r.stp.trans s0 tt;have hb3:G3.blk[st.mu.length]?=some (w.heap.size+1,0):=t3.le.blk _ _ hblk1
      have fin:∀(rc:Loop) (e:qv) (ee:Exit),mu3[st.mu.length]?=some (.lp rc st.tm)->fzQ z Q e ⟨st.tm,mu3.set st.mu.length .dead⟩->(∀ G w,ERel G w e ee)->QQ ee { a with defers:=mkOf w.heap.size :: a.defers } (w3.putObj (w.heap.size+1) (.loop { rc with state := .exhausted })):=by
        intro rc e ee hrc hqq hee;have hnl:=t3.sim.hid_not hrc (by simp) hb3;have hni:=t3.sim.live _ _ _ _ hrc (by simp) hb3;have td:Stp G0 mu0 w0 G3 (mu3.set st.mu.length .dead) w3:=ttt.trans s0 (Stp.drop t3.sim st.mu.length);have hbase:w0.heap.size<=w.heap.size:=r.stp.size;have tp:Stp G0 mu0 w0 G3 (mu3.set st.mu.length .dead) (w3.putObj (w.heap.size+1) (.loop { rc with state := .exhausted })):=by
          refine⟨td.le,td.sim.putOther hnl hni,fun b hb' hl=>?_,by simpa using td.size,td.live,td.inew,td.tape,td.os,td.output,td.drawn⟩;rw[yP (by omega)];exact td.keep b hb' hl
        have hext3:Ext G3 w3.heap (w3.putObj (w.heap.size+1) (.loop { rc with state := .exhausted })).heap:=
          ⟨by simp,fun b hb'=>yP (fun (e:b=_)=>hni (e ▸ hb'))⟩
        have mks:∀ D,Mk G1 (st.mu++[Cell.lp rec0 st.tm]) w1.heap D->D≠w.heap.size+1->Mk G3 (mu3.set st.mu.length .dead) (w3.putObj (w.heap.size+1) (.loop { rc with state := .exhausted })).heap D:=by
          intro D m hne;have m3:=m.step t3;exact⟨by rw[yP hne];exact m3.obj,fun h=>m3.nlive h.hid,m3.nimm⟩
        refine hf e ee ⟨st.tm,mu3.set st.mu.length .dead⟩ _ _ G3 hqq ⟨fun i=>?_,fun _=>?_,r.size,tp,fun p hp=>(tt.vrel sG (r.kp p hp)).mono (.refl G3) hext3⟩ (hee _ _)
        · exact(tt.vrel sG (r.tm i)).mono (.refl G3) hext3
        · obtain⟨Ds,⟨hds,_⟩,hnd,hDs⟩:=r.df hrn.1
          have hDlt:∀ D,D∈Ds->D<w.heap.size:=fun D hD=>(qR.1 (hDs D hD).2.obj).1
          refine⟨w.heap.size :: Ds,⟨by simp[hds],fun h=>by rw[hrn.2]at h;cases h⟩,yB.2 ⟨fun h=>absurd (hDlt _ h) (by omega),hnd⟩,fun D hD=>?_⟩;rcases qz.1 hD with rfl|hD
          · exact⟨hbase,mks _ mk1 (by omega)⟩
          · exact⟨(hDs D hD).1,mks _ ((hDs D hD).2.step t1) (by have:=hDlt D hD;omega)⟩
      have hrec3:∀(rc:Loop),mu3[st.mu.length]?=some (.lp rc st.tm)->w3.heap[w.heap.size+1]?=some (.loop rc):=by
        intro rc hrc;obtain⟨o,ho,hcr⟩:=t3.sim.obj _ _ _ _ hrc (by simp) hb3;obtain⟨rfl,_⟩:=hcr;exact ho
      rcases hR with ⟨f',t',d',q1,q2,q3⟩|⟨f',t',d',e',c',q1,q2,q3⟩
      · refine⟨_,_,run_endLoop (hrec3 _ q1) (by simp),?_⟩
        exact fin _ .normal .normal q1 (hend _ q3) (fun _ _=>trivial)
      · refine⟨_,_,run_endLoop (hrec3 _ q1) (by simp),?_⟩
        cases e' with
        |ret =>
          simp only[v7,qb]at q2;subst q2;exact wpIn_ret (fin _ .ret .ret q1 (hexit _ _ q3) (fun _ _=>trivial))
        |exit id =>
          simp only[v7,qb]at q2;subst q2;exact wpIn_exit (fin _ (.exit id) (.exit id) q1 (hexit _ _ q3) (fun _ _=>rfl))
        |normal=>simp[v7]at q2
        |pan v=>simp[v7]at q2
  |goto l=>intro ro G0 mu0 w0 s0 Q QQ st a w G hf r hd hn h;exact h.elim
  |refuse why=>intro ro G0 mu0 w0 s0 Q QQ st a w G hf r hd hn h;exact h.elim
def resV(P:Program)(st:St):ResultVar->Option AV
 | .tmp t=>some (st.tm t)
 | .cell a t=>yR P st.mu t (st.tm a)
def resL(P:Program)(st:St):List ResultVar->Option (List AV)
 | []=>some []
 |r :: rs=>match resV P st r,resL P st rs with|some x,some xs=>some (x :: xs)|_,_=>none
def zT(P:Program)(st:St):List ResultVar->Option AV
 | [r]=>resV P st r
 |rs=>(resL P st rs).map .tup
def v8(tmps:Array Value):ResultVar->Sem Value
 | .tmp t=>pure (tmps.getD t undef)
 | .cell a t=>do loadVar t (<-asAddr (tmps.getD a undef))
theorem Jc{P:Program}{ro:Ro}{G0:Gh}{mu0:Mu}{w0:World}{n:Nat}{G:Gh}{st:St}{a:Act}{w:World}(r:Rel ro G0 mu0 w0 n G st a w){x:ResultVar}{z:AV}(h:resV P st x=some z) :
  ∃ u,(v8 a.tmps x).run P w = .ok u w/\VRel G w.heap z u:=by
 cases x with
 |tmp t=>simp only[resV,qb]at h;subst h;exact⟨_,rfl,r.tm t⟩
 |cell ad t =>
  obtain⟨b,u,h1,h2,h3⟩:=ZE (P:=P) r.stp.sim (r.tm ad) h;exact⟨u,by simp only[v8,h1,asAddr,ql,qG,qm,h2],h3⟩
theorem Wj{P:Program}{ro:Ro}{G0:Gh}{mu0:Mu}{w0:World}{n:Nat}{G:Gh}{st:St}{a:Act}{w:World}(r:Rel ro G0 mu0 w0 n G st a w):∀(l:List ResultVar) (zs:List AV),resL P st l=some zs ->
  ∃ us:List Value,(l.mapM (v8 a.tmps)).run P w = .ok us w/\us.length=zs.length/\us.length=l.length/\∀(k:Nat) z,zs[k]?=some z->∃ u,us[k]?=some u/\VRel G w.heap z u:=by
 intro l;induction l with
 |nil=>intro zs h;simp only[resL,qb]at h;subst h;exact⟨[],by simp,rfl,rfl,by simp⟩
 |cons x l ih =>
  intro zs h;simp only[resL]at h;split at h
  .rename_i z zs' h1 h2
   simp only[qb]at h;subst h;obtain⟨u,g1,g2⟩:=Jc r h1;obtain⟨us,k1,k2,k3,k4⟩:=ih zs' h2;refine⟨u :: us,by simp[List.mapM_cons,g1,k1],by simp[k2],by simp[k3],fun k z' hz=>?_⟩;cases k with
   |zero=>simp at hz;subst hz;exact⟨u,rfl,g2⟩
   |succ k=>exact k4 k z' (by simpa using hz)
  .exact absurd h (by simp)
theorem v9{P:Program}{fn:Func}{ro:Ro}{G0:Gh}{mu0:Mu}{w0:World}{n:Nat}{G:Gh}{st:St}{a:Act}{w:World}(r:Rel ro G0 mu0 w0 n G st a w){z:AV}(h:zT P st fn.results.toList=some z) :
  ∃ u,(results fn a.tmps).run P w = .ok u w/\VRel G w.heap z u:=by
 have hrun:∀ us:List Value,(fn.results.toList.mapM (v8 a.tmps)).run P w = .ok us w->(results fn a.tmps).run P w = .ok (if h:us.toArray.size=1 then us.toArray[0] else .tuple us.toArray) w:=by
  intro us hus;have e:results fn a.tmps=(do let vs <-fn.results.mapM (v8 a.tmps);pure (if h:vs.size=1 then vs[0] else .tuple vs)):=rfl;rw[e];simp only[Array.mapM_eq_mapM_toList,ql,Sem.run_map,hus,qm,qG]
 unfold zT at h;split at h
 .rename_i x hx
  obtain⟨u,h1,h2⟩:=Jc r h;refine⟨u,?_,h2⟩;rw[hrun [u] (by rw[hx];simp[List.mapM_cons,h1])];simp
 .rename_i rs hne
  cases hl:resL P st fn.results.toList with
  |none=>simp[hl]at h
  |some zs =>
   simp only[hl,qw,qb]at h;subst h;obtain⟨us,k1,k2,k3,k4⟩:=Wj r _ _ hl;have hn1:us.toArray.size≠1:=by
    intro h1;simp only[List.size_toArray]at h1;rw[k3]at h1;obtain⟨x,hx⟩:=List.length_eq_one_iff.1 h1;exact hne x hx
   refine⟨_,hrun us k1,?_⟩;rw[dif_neg hn1];refine .tup _ _ (by simp[k2]) (fun k z hz=>?_);obtain⟨u,hu,hv⟩:=k4 k z hz;have:us.toArray.getD k undef=u:=by simp[qi,hu]
   rw[this];exact hv
def st0(args:List AV)(mu:Mu):St:=⟨fun i=>(args[i]?).getD (.sc undef),mu⟩
def vh(P:Program)(rs:List ResultVar)(R:AEnd->Mu->Prop):qv->St->Prop
 | .normal,st | .ret,st=>OptK (zT P st rs) fun r=>R (.ret r) st.mu
 | .pan v,st=>R (.pan v) st.mu
 | .exit _,_=>False
theorem Rel.left{ro:Ro}(hro:ro.rd=none){G0:Gh}{mu0:Mu}{w0:World}{n:Nat}{G:Gh}{st:St}{a:Act}{w:World}(r:Rel ro G0 mu0 w0 n G st a w):∃(Ds:List Nat),a.defers=Ds.map mkOf++ro.dl/\Ds.Nodup/\(∀ D,D∈Ds->w.heap[D]?=some (.deferred (some []))) /\
  Rel ro G0 mu0 w0 n G st { a with defers:=ro.dl } (yV Ds w)/\∀ x v,VRel G w.heap x v->VRel G (yV Ds w).heap x v:=by
 obtain⟨Ds,⟨h1,_⟩,h2,h3⟩:=r.df hro;obtain⟨h4,h5⟩:=Yq Ds w h2 h3 r.stp;exact⟨Ds,h1,h2,fun D hD=>(h3 D hD).2.obj,⟨fun i=>(r.tm i).mono (.refl G) h5,fun _=>Dfs.nil _ _ _ _ _ _,r.size,h4,fun p hp=>(r.kp p hp).mono (.refl G) h5⟩,fun x v h=>h.mono (.refl G) h5⟩
theorem Rel.start{ro:Ro}{fn:Func}{args:List AV}{mu:Mu}{G:Gh}{w:World}{vs:Array Value}(s:Sim G mu w.heap)(ra:qM G w.heap args vs)(hn:args.length<=fn.ntmps)(hdl:ro.dl=[]:=by rfl)(hkp:ro.kp=[]:=by rfl) :
  Rel ro G mu w fn.ntmps G (st0 args mu) { tmps:=vs++Array.replicate (fn.ntmps-vs.size) undef,defers:=[] } w:=by
 have hvs:vs.size<=fn.ntmps:=by rw[ra.1];exact hn
 refine⟨fun i=>?_,fun _=>⟨[],⟨by simp[hdl],fun _=>rfl⟩,List.nodup_nil,by simp⟩,by simp;omega,Stp.refl s,fun p hp=>by rw[hkp]at hp;simp at hp⟩;simp only[st0];by_cases hi:i<args.length
 .have hx:args[i]?=some args[i]:=by simp[hi]
  have e:(vs++Array.replicate (fn.ntmps-vs.size) undef).getD i undef=vs.getD i undef:=by
   simp only[qi];rw[Array.getElem?_append_left (by rw[ra.1];exact hi)]
  rw[hx,e];exact ra.2 i _ hx
 .rw [ym (by omega)]
  have e:(vs++Array.replicate (fn.ntmps-vs.size) undef).getD i undef=undef:=by
   simp only[qi];rw[Array.getElem?_append_right (by rw[ra.1];omega),Array.getElem?_replicate];split<;>rfl
  rw[e];exact .sc _ rfl
theorem qE.of_awp{P:Program}{f:FuncId}{fn:Func}{c:Code}{pl:Pol}{args:List AV}{mu:Mu}{R:AEnd->Mu->Prop}(hcal:zn P f)(hf:P.funcs[f]?=some fn)(hb:fn.body=some c)
  (hn:args.length<=fn.ntmps) (hd:dOkC fn.ntmps c=true) (h:awp P pl c (vh P fn.results.toList R) (st0 args mu)):qE P f args mu R:=by
 refine⟨hcal,fun G w vs s ra=>?_⟩;refine(callsIn_wide (n:=0)).1 (callsIn_of_wp_marks hf hb trivial ?_);refine Qt (n:=fn.ntmps) c (ro:=Ro.fn) s _ _ (st0 args mu) _ w G ?_ ?_ hd (.inl ⟨rfl,rfl⟩) h
 .intro ae e st a w' G' hq r he
  obtain⟨Ds,g1,g2,g3,r',hv'⟩:=r.left rfl;have key:∀(u:FrameMode) (R:Ending->World->Prop),u ≠ .run->LeavesIn Fence.wide 0 P fn a.tmps R [] u (yV Ds w')->LeavesInM Fence.wide 0 P fn a.tmps R a.defers u w':=by
   intro u R hu hl;rw[g1];exact Qf hu Ds w' g2 g3 hl
  cases ae<;>cases e<;>simp only[ERel]at he
  .obtain ⟨z,hz,hR⟩:=hq
   obtain⟨u,h1,h2⟩:=v9 r' hz;exact key .returning _ (by simp) ⟨u,h1,G',st.mu,r'.stp,.inl ⟨z,u,hR,rfl,h2⟩⟩
  .exact hq.elim
  .obtain ⟨z,hz,hR⟩:=hq
   obtain⟨u,h1,h2⟩:=v9 r' hz;exact key .returning _ (by simp) ⟨u,h1,G',st.mu,r'.stp,.inl ⟨z,u,hR,rfl,h2⟩⟩
  .obtain ⟨v,rfl,hv⟩:=he
   exact key (.panicking _) _ (by simp) ⟨G',st.mu,r'.stp,.inr ⟨_,v,hq,rfl,hv' _ _ hv⟩⟩
 .exact Rel.start s ra hn
theorem Sim.empty{imm:Nat->Prop}{h:Array Obj}(hi:∀ b,imm b->b<h.size)(ht:jA imm h):Sim ⟨imm,[]⟩ [] h:=
 ⟨rfl,hi,fun i c b t h=>by simp at h,fun i c b t h=>by simp at h,fun i j ci cj b t t' h=>by simp at h,ht⟩
theorem qf.of_sound{P:Program}{f:FuncId}{args:List AV}{r:AV}(h:qE P f args [] fun e mu'=>∃ r',e = .ret r'/\Rd mu' r' r):qf P f args r:=by
 obtain⟨hcal,h⟩:=h;refine⟨hcal,fun imm w vs hi ra=>?_⟩;refine(h ⟨imm,[]⟩ w vs hi ra).mono fun e w' ⟨G',mu',st,hR⟩=>?_
 have nolive:∀ b,¬Live ⟨imm,[]⟩ [] b:=fun b ⟨i,c,t,hc,_⟩=>by simp at hc
 rcases hR with ⟨r',v,⟨r'',e1,hrd⟩,rfl,hv⟩|⟨r',v,⟨r'',e1,_⟩,_⟩
 .cases e1
  refine⟨fun b=>G'.imm b\/Live G' mu' b,v,rfl,fun b hb => .inl (st.le.imm b hb),fun b hb=>?_,⟨⟨st.os,st.tape,st.output,st.size,fun k hk=>st.keep k hk (nolive k)⟩,st.drawn⟩,hrd.sound st.sim hv⟩;rcases hb with hb|hb
  .refine ⟨st.sim.imm b hb,?_⟩
   rcases st.inew b hb with h|h|h
   .exact .inl h
   .exact absurd h (nolive b)
   .exact .inr h
  .refine ⟨st.sim.livesize hb,?_⟩
   rcases st.live b hb with h|h
   .exact absurd h (nolive b)
   .exact .inr h
 .exact absurd e1 (by simp)
theorem qSW{P:Program}{f:FuncId}{fn:Func}{c:Code}{args:List AV}{mu:Mu}{R:AEnd->Mu->Prop}(hcal:zn P f)(hf:P.funcs[f]?=some fn)(hb:fn.body=some c)(pl:Pol)(h:awp P pl c (vh P fn.results.toList R) (st0 args mu))(hn:Nat.ble args.length fn.ntmps=true:=by kernel_rfl)(hd:dOkC fn.ntmps c=true:=by kernel_rfl):qE P f args mu R:=qE.of_awp hcal hf hb (ze hn) hd h
theorem qSQ{P:Program}{f:FuncId}{fn:Func}{c:Code}{args:List AV}{r:AV}(hcal:zn P f)(hf:P.funcs[f]?=some fn)(hb:fn.body=some c)(pl:Pol)(h:awp P pl c (vh P fn.results.toList fun e mu'=>∃ r',e = .ret r'/\Rd mu' r' r) (st0 args []))(hn:Nat.ble args.length fn.ntmps=true:=by kernel_rfl)(hd:dOkC fn.ntmps c=true:=by kernel_rfl):qf P f args r:=qf.of_sound (qSW hcal hf hb pl h hn hd)
def RdN(mu:Mu)(x y:AV):Prop:=∀(G:Gh) (h:Array Obj) (v:Value),Sim G mu h->VRel G h x v->VRel ⟨Live G mu,[]⟩ h y v
theorem wR.of_sound{P:Program}{f:FuncId}{args:List AV}{r:AV}(h:qE P f args [] fun e mu'=>∃ r',e = .ret r'/\RdN mu' r' r):wR P f args r:=by
 obtain⟨hcal,h⟩:=h;refine⟨hcal,fun imm w vs hi ra=>?_⟩;refine(h ⟨imm,[]⟩ w vs hi ra).mono fun e w' ⟨G',mu',st,hR⟩=>?_
 have nolive:∀ b,¬Live ⟨imm,[]⟩ [] b:=fun b ⟨i,c,t,hc,_⟩=>by simp at hc
 rcases hR with ⟨r',v,⟨r'',e1,hrd⟩,rfl,hv⟩|⟨r',v,⟨r'',e1,_⟩,_⟩
 .cases e1
  refine⟨Live G' mu',v,rfl,fun b hb=>⟨?_,st.sim.livesize hb⟩,⟨⟨st.os,st.tape,st.output,st.size,fun k hk=>st.keep k hk (nolive k)⟩,st.drawn⟩,hrd G' w'.heap v st.sim hv⟩;rcases st.live b hb with h|h
  .exact absurd h (nolive b)
  .exact h
 .exact absurd e1 (by simp)
theorem RdN.nil{mu:Mu}{full full':Bool}(h:full=true\/full'=false):RdN mu (.lst full []) (.lst full' []):=by
 intro G hp v s r;have key:∀ cap:Nat,(full=true->cap=0)->(full'=true->cap=0):=by
  intro cap hc hf;rcases h with h|h
  .exact hc h
  .rw [h]at hf;exact absurd hf (by simp)
 cases r with
 |nil=>exact .nil _
 |emp _ a cap hc=>exact .emp _ a cap (key cap hc)
 |lst _ _ sz a cap cs e fr rd hb hs hl hc hi hz hr hv=>exact .emp _ a cap (key cap hc)
theorem RdN.sl{mu:Mu}{b sz off len:Nat}{cells:List AV}{ys:List (List AV)}(hc:mu[b]?=some (.arr cells))(hl:off+len*sz<=cells.length)(hn:ys.length=len)(hz:zm sz ys)
  (hf:∀(k:Nat) y,ys.flatten[k]?=some y->FL y) (h:∀(k:Nat) x y,cells[off+k]?=some x->ys.flatten[k]?=some y->x=y):RdN mu (.sl b sz off len) (.lst false ys):=by
 intro G hp v s r;subst hn;cases r with
 |sl _ _ _ _ blk tot cap hb ht hcap =>
 obtain⟨arr,e,h1,h2,h3,h4⟩:=s.arr b cells blk tot hc hb;by_cases h0:ys=[]
 .subst h0;exact .emp false _ cap (by simp)
 .have hfl:=zd hz
  have hget:∀(k:Nat) y,ys.flatten[k]?=some y->∃ x,cells[off+k]?=some x:=by
   intro k y hy;have hk:k<ys.length*sz:=by rw[<-hfl];exact(qc.1 hy).1
   exact⟨cells[off+k]'(by omega),by simp[show off+k<cells.length by omega]⟩
  refine .lst false ys sz ⟨blk,off,none⟩ cap arr e (0,0) (fun k=>arr.getD (off+k) undef) h1 rfl hcap (by simp) ⟨b,_,tot,hc,by simp,hb⟩ hz ?_ ?_
  .intro k y hy
   obtain⟨x,hx⟩:=hget k y hy;have:off+k<arr.size:=by have:=(qc.1 hx).1;omega
   simp[qi,this]
  .intro k y hy
   obtain⟨x,hx⟩:=hget k y hy;have:=h k x y hx hy;subst this;exact hf k x hy _ _ _ _ _ (h4 _ x hx).2
end Go.Ev
namespace Go.Ev
open Go Go.RowKit
theorem eqS{α:Sort _}{a b:α}(h:a=b):a=b:=h
abbrev aI(n:Int):AV := .sc (.int .i64 n)
abbrev aB(b:Bool):AV := .sc (.bool b)
def panQ(Q:qv->St->Prop):AV->St->Prop:=fun v st=>Q (.pan v) st
def retK(R:AEnd->Mu->Prop)(m:Mu):AV->Prop:=fun r=>R (.ret r) m
def qI(P:Program)(pl:Pol)(l:List Oper)(Q:St->Prop)(Qp:AV->St->Prop)(st:St):Prop:=∃ st',Fz st st'/\uU P pl l.toArray Q Qp st'
theorem qI.intro{P:Program}{pl:Pol}{l:List Oper}{Q:St->Prop}{Qp:AV->St->Prop}{st:St}(h:vX pl l.toArray=true)(k:awpS P pl true l.toArray l Q Qp st):qI P pl l Q Qp st:=⟨st,.refl st,.inl (.inl (.inl ⟨h,k⟩))⟩
theorem qI.move{P:Program}{pl:Pol}{l:List Oper}{Q:St->Prop}{Qp:AV->St->Prop}{st:St}(a d:Nat)(h:uM pl l.toArray a (a+d)=true)(hl:(Nat.blt 0 d&&Nat.blt (a+d) l.length)=true)(k:awpS P pl true l.toArray l Q Qp st)(k2:awpS P pl true l.toArray (zZ a d l) Q Qp st):qI P pl l Q Qp st:=by
 rw[qe]at hl;exact⟨st,.refl st,.inl (.inl (.inr (.inl ⟨a,d,h,ze hl.1,ze hl.2,k,k2⟩)))⟩
theorem qI.tail{P:Program}{pl:Pol}{l:List Oper}{Q:St->Prop}{Qp:AV->St->Prop}{st:St}(n:Nat)(h:Qn pl l.toArray n=true)(k:awpS P pl true l.toArray (l.take n) (fun st=>awpS P pl false l.toArray (l.drop n) Q Qp st) Qp st):qI P pl l Q Qp st:=
 ⟨st,.refl st,.inl (.inl (.inr (.inr ⟨n,h,k⟩)))⟩
theorem qI.floatY{P:Program}{pl:Pol}{l:List Oper}{Q:St->Prop}{Qp:AV->St->Prop}{st:St}(X Y F:List Nat)(T:List (Nat×Bool))(h:vZ pl l.toArray X=true)(hF:z1 pl l.toArray X=F)(hT:((yh pl l.toArray X l.toArray.size).map fun i=>(i,vY l.toArray (butY (z1 pl l.toArray X) Y) i))=T)
  (k:awpS P pl true l.toArray (pick l.toArray F) (anyQ P pl l.toArray Y (awpQ P pl (T.filterMap fun q=>(l.toArray[q.1]?).map fun o=>(q.2,o)) Q Qp)) (fun _ _=>False) st):qI P pl l Q Qp st:=by
 refine⟨st,.refl st,.inl (.inr ⟨X,Y,h,?_⟩)⟩;subst hF hT;rw[List.filterMap_map]at k;exact k
theorem Wk(F:List Nat):butY F []=F:=List.filter_eq_self.2 fun _ _=>rfl
theorem qI.float{P:Program}{pl:Pol}{l:List Oper}{Q:St->Prop}{Qp:AV->St->Prop}{st:St}(X F:List Nat)(T:List (Nat×Bool))(h:vZ pl l.toArray X=true)(hF:z1 pl l.toArray X=F)(hT:((yh pl l.toArray X l.toArray.size).map fun i=>(i,vY l.toArray (z1 pl l.toArray X) i))=T)
  (k:awpS P pl true l.toArray (pick l.toArray F) (anyQ P pl l.toArray [] (awpQ P pl (T.filterMap fun q=>(l.toArray[q.1]?).map fun o=>(q.2,o)) Q Qp)) (fun _ _=>False) st):qI P pl l Q Qp st:=
 .floatY X [] F T h hF (by rw[Wk];exact hT) k
@[go_sem ↓] theorem anyY_cons(P:Program)(pl:Pol)(l:List Oper)(i:Nat)(Y:List Nat)(st:St):anyY P pl l.toArray (i :: Y) st=((match l[i]? with|some o=>anyO P pl o st|none=>True)/\anyY P pl l.toArray Y st):=by
 show ((match l.toArray[i]? with|some o=>anyO P pl o st|none=>True)/\anyY P pl l.toArray Y st)=_;rw[yE]
@[go_sem ↓] theorem sameK_eq(st:St)(d:Tmp)(mu:Mu)(v:AV)(m:Mu):jr st d mu v m=(v=st.tm d/\m=mu):=eqS rfl
theorem qI.fz{P:Program}{pl:Pol}{l:List Oper}{Q:St->Prop}{Qp:AV->St->Prop}{st:St}(h:FzQ (fun _ st=>qI P pl l Q Qp st) (.exit 0) st):qI P pl l Q Qp st:=by
 obtain⟨st',f,_,st2,f2,h2⟩:=h;exact⟨st2,.step f f2,h2⟩
def panT(Qp:AV->St->Prop):AV->Mu->Prop:=fun v m=>∀ tm,Qp v ⟨tm,m⟩
theorem qI.seg{P:Program}{pl:Pol}{l:List Oper}{Q:St->Prop}{Qp:AV->St->Prop}{st:St}(O:List Nat)(T:List (Nat×Nat×List Nat))(h:v6 pl l.toArray O=true)(hT:plan pl l.toArray [] O=T)(hz:yX P l.toArray T)(k:awpT P pl l.toArray Q Qp T st):qI P pl l Q Qp st:=by
 subst hT;exact⟨st,.refl st,.inr ⟨O,h,hz,k⟩⟩
def newO(P:Program):Nat->Option Oper->Prop
 | 2,some o=>(match o.op with | .alloc e=>OptK (qn P e) fun z=>z.cells.all AV.one=true|_=>False)
 |_,_=>True
@[go_sem ↓] theorem newOk_nil(P:Program)(ops:Array Oper):yX P ops []=True:=eqS rfl
@[go_sem ↓] theorem KS(P:Program)(l:List Oper)(j k:Nat)(r:List Nat)(T:List (Nat×Nat×List Nat)):yX P l.toArray ((j,k,r) :: T)=(newO P k l[j]?/\yX P l.toArray T):=by
 show ((match k,l.toArray[j]? with|2,some o=>(match o.op with | .alloc e=>OptK (qn P e) fun z=>z.cells.all AV.one=true|_=>False)|_,_=>True)/\yX P l.toArray T)=_;rw[yE];congr 1
@[go_sem ↓] theorem newO_0(P:Program)(o:Option Oper):newO P 0 o=True:=eqS rfl
@[go_sem ↓] theorem newO_1(P:Program)(o:Option Oper):newO P 1 o=True:=eqS rfl
def segK(P:Program)(pl:Pol)(l:List Oper)(Q:St->Prop)(Qp:AV->St->Prop)(r:List Nat)(T:List (Nat×Nat×List Nat))(dst:Option Tmp)(st:St):AV->Mu->Prop:=fun v m=>yv P pl l.toArray r (st.put dst v m)/\awpT P pl l.toArray Q Qp T (st.put dst v m)
def segP(Qp:AV->St->Prop)(k:Nat):AV->Mu->Prop:=fun v m=>k=1/\∀ tm,Qp v ⟨tm,m⟩
def segO(P:Program)(pl:Pol)(l:List Oper)(Q:St->Prop)(Qp:AV->St->Prop)(k:Nat)(r:List Nat)(T:List (Nat×Nat×List Nat))(st:St):Option Oper->Prop
 |none=>False
 |some o=>OptK (qX l.toArray st o) fun b=>Br b (qk P pl (k != 1) o.dst o.op st.ev st.mu (segK P pl l Q Qp r T o.dst st) (segP Qp k)) (awpT P pl l.toArray Q Qp T (st.put o.dst (.sc undef) st.mu))
@[go_sem ↓] theorem awpT_nil(P:Program)(pl:Pol)(ops:Array Oper)(Q:St->Prop)(Qp:AV->St->Prop)(st:St):awpT P pl ops Q Qp [] st=Q st:=eqS rfl
@[go_sem ↓] theorem awpT_cons(P:Program)(pl:Pol)(l:List Oper)(Q:St->Prop)(Qp:AV->St->Prop)(j k:Nat)(r:List Nat)(T:List (Nat×Nat×List Nat))(st:St):awpT P pl l.toArray Q Qp ((j,k,r) :: T) st=segO P pl l Q Qp k r T st l[j]?:=by
 show (match l.toArray[j]? with|none=>False|some o=>OptK (qX l.toArray st o) fun b=>Br b (qk P pl (k != 1) o.dst o.op st.ev st.mu (fun v m=>yv P pl l.toArray r (st.put o.dst v m)/\awpT P pl l.toArray Q Qp T (st.put o.dst v m)) (fun v m=>k=1/\∀ tm,Qp v ⟨tm,m⟩)) (awpT P pl l.toArray Q Qp T (st.put o.dst (.sc undef) st.mu)))=_;rw[yE];cases l[j]?<;>rfl
@[go_sem ↓] theorem segO_0(P:Program)(pl:Pol)(l:List Oper)(Q:St->Prop)(Qp:AV->St->Prop)(r:List Nat)(T:List (Nat×Nat×List Nat))(st:St)(dst:Option Tmp)(op:Op)(ty:TypeId)(pos:String)(after:Array Edge) :
  segO P pl l Q Qp 0 r T st (some ⟨dst,op,ty,pos,after,none⟩)=qk P pl true dst op st.ev st.mu (segK P pl l Q Qp r T dst st) noK:=by
 have:segP Qp 0=noK:=by funext v m;simp[segP,noK]
 show OptK (some true) (fun b=>Br b (qk P pl true dst op st.ev st.mu (segK P pl l Q Qp r T dst st) (segP Qp 0)) _)=_;rw[this];simp[OptK,Br]
@[go_sem ↓] theorem segO_1(P:Program)(pl:Pol)(l:List Oper)(Q:St->Prop)(Qp:AV->St->Prop)(r:List Nat)(T:List (Nat×Nat×List Nat))(st:St)(dst:Option Tmp)(op:Op)(ty:TypeId)(pos:String)(after:Array Edge) :
  segO P pl l Q Qp 1 r T st (some ⟨dst,op,ty,pos,after,none⟩)=qk P pl false dst op st.ev st.mu (segK P pl l Q Qp r T dst st) (panT Qp):=by
 have:segP Qp 1=panT Qp:=by funext v m;simp[segP,panT]
 show OptK (some true) (fun b=>Br b (qk P pl false dst op st.ev st.mu (segK P pl l Q Qp r T dst st) (segP Qp 1)) _)=_;rw[this];simp[OptK,Br]
@[go_sem ↓] theorem segK_eq(P:Program)(pl:Pol)(l:List Oper)(Q:St->Prop)(Qp:AV->St->Prop)(r:List Nat)(T:List (Nat×Nat×List Nat))(dst:Option Tmp)(st:St)(v:AV)(m:Mu):segK P pl l Q Qp r T dst st v m=(yv P pl l.toArray r (st.put dst v m)/\awpT P pl l.toArray Q Qp T (st.put dst v m)):=eqS rfl
@[go_sem ↓] theorem KT(P:Program)(pl:Pol)(ops:Array Oper)(st:St):yv P pl ops [] st=True:=eqS rfl
def Qu(P:Program)(pl:Pol)(l:List Oper)(st:St):Option Oper->Prop
 |some o=>OptK (qX l.toArray st o) fun b=>Br b (jK P pl o st) True
 |none=>True
@[go_sem ↓] theorem KU(P:Program)(pl:Pol)(l:List Oper)(p:Nat)(r:List Nat)(st:St):yv P pl l.toArray (p :: r) st=(Qu P pl l st l[p]?/\yv P pl l.toArray r st):=by
 show ((match l.toArray[p]? with|some o=>OptK (qX l.toArray st o) (fun b=>Br b (jK P pl o st) True)|none=>True)/\yv P pl l.toArray r st)=_;rw[yE];cases l[p]?<;>rfl
def qx(P:Program)(pl:Pol)(body:Code)(Q:qv->St->Prop)(st:St):Prop:=∃(z:Bool) (I:Nat->St->Prop) (n:Nat) (st':St),Fz st st'/\I n st'/\∀ n st,I n st->awp P pl body (jt I n (fzQ z Q)) st
theorem qx.intro{P:Program}{pl:Pol}{body:Code}{Q:qv->St->Prop}{st:St}(I:Nat->St->Prop)(n:Nat)(h:I n st)(k:∀ n st,I n st->awp P pl body (jt I n Q) st):qx P pl body Q st:=⟨false,I,n,st,.refl st,h,k⟩
theorem qx.fz{P:Program}{pl:Pol}{body:Code}{Q:qv->St->Prop}{st:St}(h:FzQ (fun _ st=>qx P pl body Q st) (.exit 0) st):qx P pl body Q st:=by
 obtain⟨st',f,_,z,I,n,st2,f2,h2⟩:=h;exact⟨z,I,n,st2,.step f f2,h2⟩
def yY(P:Program)(pl:Pol)(g:AV)(ps:Array Tmp)(aas body:Code)(Q:qv->St->Prop)(st:St):Prop:=
 ∃(z:Bool) (gf:FuncId) (caps:List AV) (rows:List (List AV)) (I:Nat->Mu->Prop) (Ix:qv->Mu->Prop),
   g = .fn (.func gf) [] caps/\Y0 P gf caps rows I Ix/\I 0 (st.mu++[.dead]) /\
   (∀ k x mu,rows[k]?=some x->I k mu->x.length=ps.size/\awp P pl aas (asQ (fun st=>awp P pl body (rndQ I Ix k) st)) ⟨yK st.tm ps.toList x,mu⟩) /\
   (∀ mu,I rows.length mu->fzQ z Q .normal ⟨st.tm,mu⟩)/\(∀ e mu,Ix e mu->fzQ z Q e ⟨st.tm,mu⟩)
theorem yY.intro{P:Program}{pl:Pol}{gf:FuncId}{caps:List AV}{ps:Array Tmp}{aas body:Code}{Q:qv->St->Prop}{st:St}{rows:List (List AV)}(hit:zS P gf caps rows)(I:Nat->Mu->Prop)(Ix:qv->Mu->Prop)
  (h0:I 0 (st.mu++[.dead])) (hS:∀ k mu,I k mu->I k (mu++[.dead])) (hX:∀ e mu,Ix e mu->Ix e (mu++[.dead]))
  (hr:∀ k x mu,rows[k]?=some x->I k mu->x.length=ps.size/\awp P pl aas (asQ (fun st=>awp P pl body (rndQ I Ix k) st)) ⟨yK st.tm ps.toList x,mu⟩)
  (he:∀ mu,I rows.length mu->Q .normal ⟨st.tm,mu⟩) (hx:∀ e mu,Ix e mu->Q e ⟨st.tm,mu⟩):yY P pl (.fn (.func gf) [] caps) ps aas body Q st:=
 ⟨false,gf,caps,rows,I,Ix,rfl,.inl ⟨hit,hS,hX⟩,h0,hr,he,hx⟩
@[go_sem] theorem setPs_nil(tm:Nat->AV)(xs:List AV):yK tm [] xs=tm:=eqS (by cases xs<;>rfl)
@[go_sem] theorem KV(tm:Nat->AV)(t:Tmp)(ts:List Tmp)(x:AV)(xs:List AV):yK tm (t :: ts) (x :: xs)=yK (fun i=>if i=t then x else tm i) ts xs:=eqS rfl
@[go_sem] theorem KW(n:St->Prop)(st:St):asQ n .normal st=n st:=eqS rfl
@[go_sem] theorem KX(I:Nat->Mu->Prop)(Ix:qv->Mu->Prop)(k:Nat)(st:St):rndQ I Ix k .normal st=I (k+1) st.mu:=eqS rfl
@[go_sem] theorem rndQ_ret(I:Nat->Mu->Prop)(Ix:qv->Mu->Prop)(k:Nat)(st:St):rndQ I Ix k .ret st=Ix .ret st.mu:=eqS rfl
section
variable (P:Program) (pl:Pol) (Q:qv->St->Prop) (st:St)
@[go_sem ↓] theorem awp_skip:awp P pl .skip Q st=Q .normal st:=eqS rfl
@[go_sem ↓] theorem awp_exit(id:Nat):awp P pl (.exit id) Q st=Q (.exit id) st:=eqS rfl
@[go_sem ↓] theorem awp_ret:awp P pl .ret Q st=Q .ret st:=eqS rfl
@[go_sem ↓] theorem awp_seq(a b:Code):awp P pl (.seq a b) Q st=awp P pl a (seqQ (awp P pl b Q) Q) st:=eqS rfl
@[go_sem ↓] theorem awp_block(id:Nat)(b:Code):awp P pl (.block id b) Q st=awp P pl b (js id Q) st:=eqS rfl
@[go_sem ↓] theorem awp_loop(b:Code):awp P pl (.loop b) Q st=qx P pl b Q st:=eqS rfl
@[go_sem ↓] theorem KY(g:Operand)(ps:Array Tmp)(aas body:Code):awp P pl (.rangeFunc g ps aas body) Q st=yY P pl (st.ev g) ps aas body Q st:=eqS rfl
@[go_sem ↓] theorem KZ(id:Nat)(l:List Oper):awp P pl (.region id l.toArray false) Q st=awpS P pl false l.toArray l (Q .normal) (panQ Q) st:=
 propext ⟨fun h=>by rcases h with ⟨_,h⟩|⟨e,_⟩;exact h;exact absurd e (by simp),fun h => .inl ⟨rfl,h⟩⟩
@[go_sem ↓] theorem K0(id:Nat)(l:List Oper):awp P pl (.region id l.toArray true) Q st=qI P pl l (Q .normal) (panQ Q) st:=
 propext ⟨fun h=>by rcases h with ⟨e,_⟩|⟨_,h⟩;exact absurd e (by simp);exact h,fun h => .inr ⟨rfl,h⟩⟩
def BrS(b:Bool)(p q:St->Prop)(st:St):Prop:=Br b (p st) (q st)
@[go_sem ↓] theorem BrS_true(p q:St->Prop):BrS true p q st=p st:=by simp[BrS,Br]
@[go_sem ↓] theorem BrS_false(p q:St->Prop):BrS false p q st=q st:=by simp[BrS,Br]
@[go_sem] theorem BrS_true'(p q:St->Prop):BrS true p q st=p st:=by simp[BrS,Br]
@[go_sem] theorem K1(p q:St->Prop):BrS false p q st=q st:=by simp[BrS,Br]
theorem BrS.intro{b:Bool}{p q:St->Prop}{st:St}(h1:b=true->p st)(h2:b=false->q st):BrS b p q st:=⟨h1,h2⟩
def Qv(v:AV)(p q:St->Prop)(st:St):Prop:=∃ t,v = .sc (.bool t)/\Br t (p st) (q st)
@[go_sem ↓] theorem awp_cond(c:Operand)(a b:Code):awp P pl (.cond c a b) Q st=Qv (st.ev c) (awp P pl a Q) (awp P pl b Q) st:=eqS rfl
@[go_sem] theorem K2(t:Bool)(p q:St->Prop):Qv (.sc (.bool t)) p q st=BrS t p q st:=by
 simp[Qv,BrS]
theorem Br.intro{b:Bool}{p q:Prop}(h1:b=true->p)(h2:b=false->q):Br b p q:=⟨h1,h2⟩
@[go_sem ↓] theorem K3(n:St->Prop):seqQ n Q .normal st=n st:=eqS rfl
@[go_sem ↓] theorem seqQ_exit(n:St->Prop)(i:Nat):seqQ n Q (.exit i) st=Q (.exit i) st:=eqS rfl
@[go_sem ↓] theorem seqQ_ret(n:St->Prop):seqQ n Q .ret st=Q .ret st:=eqS rfl
@[go_sem ↓] theorem K4(i:Nat):js i Q .normal st=Q .normal st:=eqS rfl
@[go_sem ↓] theorem K5(i j:Nat):js j Q (.exit i) st=if i=j then Q .normal st else Q (.exit i) st:=eqS rfl
@[go_sem ↓] theorem K6(i:Nat):js i Q .ret st=Q .ret st:=eqS rfl
@[go_sem ↓] theorem K7(I:Nat->St->Prop)(n:Nat):jt I n Q .normal st=∃ m,m<n/\I m st:=eqS rfl
@[go_sem ↓] theorem K8(I:Nat->St->Prop)(n i:Nat):jt I n Q (.exit i) st=Q (.exit i) st:=eqS rfl
@[go_sem ↓] theorem loopQ_ret(I:Nat->St->Prop)(n:Nat):jt I n Q .ret st=Q .ret st:=eqS rfl
@[go_sem ↓] theorem K9(rs:List ResultVar)(R:AEnd->Mu->Prop):vh P rs R .normal st=OptK (zT P st rs) (retK R st.mu):=eqS rfl
@[go_sem ↓] theorem PostQ_ret(rs:List ResultVar)(R:AEnd->Mu->Prop):vh P rs R .ret st=OptK (zT P st rs) (retK R st.mu):=eqS rfl
@[go_sem ↓] theorem retK_eq(R:AEnd->Mu->Prop)(m:Mu)(r:AV):retK R m r=R (.ret r) m:=eqS rfl
@[go_sem] theorem ka(r:ResultVar):zT P st [r]=resV P st r:=eqS rfl
@[go_sem] theorem kb:zT P st []=some (.tup []):=eqS rfl
@[go_sem] theorem kc(r s:ResultVar):zT P st [r,s]=(match resV P st r,resV P st s with|some x,some y=>some (.tup [x,y])|_,_=>none):=by
 simp only[zT,resL];cases resV P st r<;>cases resV P st s<;>rfl
@[go_sem] theorem resV_tmp(t:Tmp):resV P st (.tmp t)=some (st.tm t):=eqS rfl
@[go_sem] theorem resV_cell(a:Tmp)(t:TypeId):resV P st (.cell a t)=yR P st.mu t (st.tm a):=eqS rfl
end
section
variable {α:Type}
@[go_sem] theorem OptK_some(v:α)(k:α->Prop):OptK (some v) k=k v:=by simp[OptK]
theorem OptK.intro{o:Option α}{k:α->Prop}(v:α)(h:o=some v)(hk:k v):OptK o k:=⟨v,h,hk⟩
end
section
variable (P:Program) (pl:Pol) (det:Bool) (ops:Array Oper) (Q:St->Prop) (Qp:AV->St->Prop) (st:St)
def uV(P:Program)(pl:Pol)(det:Bool)(ops:Array Oper)(l:List Oper)(Q:St->Prop)(Qp:AV->St->Prop)(st:St)(dst:Option Tmp):AV->Mu->Prop:=fun v m=>awpS P pl det ops l Q Qp (st.put dst v m)
def panS(Qp:AV->St->Prop)(st:St):AV->Mu->Prop:=fun v m=>Qp v ⟨st.tm,m⟩
@[go_sem ↓] theorem contK_eq(l:List Oper)(dst:Option Tmp)(v:AV)(m:Mu):uV P pl det ops l Q Qp st dst v m=awpS P pl det ops l Q Qp (st.put dst v m):=eqS rfl
@[go_sem ↓] theorem awpS_nil:awpS P pl det ops [] Q Qp st=Q st:=eqS rfl
@[go_sem ↓] theorem kf(dst:Option Tmp)(op:Op)(ty:TypeId)(pos:String)(after:Array Edge)(l:List Oper):awpS P pl det ops (⟨dst,op,ty,pos,after,none⟩ :: l) Q Qp st =
  qk P pl det dst op st.ev st.mu (uV P pl det ops l Q Qp st dst) (panS Qp st):=by
 simp[awpS,qX,OptK,Br];rfl
def runK(P:Program)(pl:Pol)(det:Bool)(ops:Array Oper)(dst:Option Tmp)(op:Op)(l:List Oper)(Q:St->Prop)(Qp:AV->St->Prop):St->Prop:=fun st=>qk P pl det dst op st.ev st.mu (uV P pl det ops l Q Qp st dst) (panS Qp st)
def Jd(P:Program)(pl:Pol)(det:Bool)(ops:Array Oper)(dst:Option Tmp)(l:List Oper)(Q:St->Prop)(Qp:AV->St->Prop):St->Prop:=fun st=>awpS P pl det ops l Q Qp (st.put dst (.sc undef) st.mu)
@[go_sem ↓] theorem runK_eq(dst:Option Tmp)(op:Op)(l:List Oper):runK P pl det ops dst op l Q Qp st=qk P pl det dst op st.ev st.mu (uV P pl det ops l Q Qp st dst) (panS Qp st):=eqS rfl
@[go_sem ↓] theorem passK_eq(dst:Option Tmp)(l:List Oper):Jd P pl det ops dst l Q Qp st=awpS P pl det ops l Q Qp (st.put dst (.sc undef) st.mu):=eqS rfl
def brK(p q:St->Prop)(st:St):Bool->Prop:=fun b=>BrS b p q st
@[go_sem ↓] theorem brK_eq(p q:St->Prop)(b:Bool):brK p q st b=BrS b p q st:=eqS rfl
def jL(d:Option Tmp)(st:St)(want:Bool)(p q:St->Prop):Prop:=OptK (match d with|none=>some false|some d=>vb (st.tm d) want) (brK p q st)
@[go_sem ↓] theorem kg(dst:Option Tmp)(op:Op)(ty:TypeId)(pos:String)(after:Array Edge)(l:List Oper)(j:Nat)(want:Bool)(ol:List Oper) :
  awpS P pl det ol.toArray (⟨dst,op,ty,pos,after,some (j,want)⟩ :: l) Q Qp st=jL ((ol[j]?).bind (·.dst)) st want (runK P pl det ol.toArray dst op l Q Qp) (Jd P pl det ol.toArray dst l Q Qp):=by
 simp only[awpS,qX,jL,yE];rfl
@[go_sem] theorem kh(d:Tmp)(want:Bool)(p q:St->Prop):jL (some d) st want p q=OptK (vb (st.tm d) want) (brK p q st):=eqS rfl
@[go_sem] theorem ki(b want:Bool):vb (.sc (.bool b)) want=some (b == want):=eqS rfl
end
def plc(l:List (Nat×Nat)):Nat->Option (Nat×Nat):=fun i=>l.toArray[i]?
def plA(s:Nat):Nat->Option (Nat×Nat):=fun i=>some (i*s,s)
@[go_sem] theorem plc_zero(p:Nat×Nat)(l:List (Nat×Nat)):plc (p :: l) 0=some p:=by simp[plc]
@[go_sem] theorem plc_succ(p:Nat×Nat)(l:List (Nat×Nat))(i:Nat):plc (p :: l) (i+1)=plc l i:=by simp[plc]
@[go_sem] theorem plA_eq(s i:Nat):plA s i=some (i*s,s):=eqS rfl
section
variable (st:St) (v:AV) (m:Mu)
@[go_sem] theorem put_tm(d i:Tmp):(st.put (some d) v m).tm i=if i=d then v else st.tm i:=eqS rfl
@[go_sem] theorem kj(i:Tmp):(st.put none v m).tm i=st.tm i:=eqS rfl
@[go_sem] theorem uW(d:Option Tmp):(st.put d v m).mu=m:=eqS rfl
@[go_sem] theorem st0_tm(args:List AV)(i:Tmp):(st0 args m).tm i=(args[i]?).getD (.sc undef):=eqS rfl
@[go_sem] theorem st0_mu(args:List AV):(st0 args m).mu=m:=eqS rfl
@[go_sem] theorem ev_tmp(t:Tmp):st.ev (.tmp t)=st.tm t:=eqS rfl
@[go_sem] theorem ev_const(c:Value):st.ev (.const c)=ofV c:=eqS rfl
@[go_sem] theorem ev_func(f:FuncId):st.ev (.func f) = .fn (.func f) [] []:=eqS rfl
@[go_sem] theorem ofV_int(k:IntKind)(n:Int):ofV (.int k n) = .sc (.int k n):=eqS rfl
@[go_sem] theorem ofV_bool(b:Bool):ofV (.bool b) = .sc (.bool b):=eqS rfl
@[go_sem] theorem kl:ofV (.slice none 0 0) = .lst true []:=eqS rfl
@[go_sem] theorem kn:ofV .nilIface = .sc .nilIface:=eqS rfl
@[go_sem] theorem kq:ofV .nilFunc = .sc .nilFunc:=eqS rfl
end
section
variable (P:Program) (pl:Pol) (det:Bool) (dst:Option Tmp) (ev:Operand->AV) (mu:Mu) (K Kp:AV->Mu->Prop)
def km(K:AV->Mu->Prop)(mu:Mu):AV->Prop:=fun z=>K z mu
def ks(K:AV->Mu->Prop):Mu->Prop:=fun m=>K (.sc undef) m
def kp(K:AV->Mu->Prop):AV×Mu->Prop:=fun z=>K z.1 z.2
def Je(K:AV->Mu->Prop)(mu:Mu):AV->Prop:=fun z=>z.cells.all AV.one=true/\K (.ptr mu.length 0) (mu++[.arr z.cells])
@[go_sem ↓] theorem km_eq(z:AV):km K mu z=K z mu:=eqS rfl
@[go_sem ↓] theorem ks_eq(m:Mu):ks K m=K (.sc undef) m:=eqS rfl
@[go_sem ↓] theorem kp_eq(z:AV)(m:Mu):kp K (z,m)=K z m:=eqS rfl
@[go_sem ↓] theorem allocK_eq(z:AV):Je K mu z=(z.cells.all AV.one=true/\K (.ptr mu.length 0) (mu++[.arr z.cells])):=eqS rfl
@[go_sem ↓] theorem kr(x:Operand):qk P pl det dst (.move x) ev mu K Kp=K (ev x) mu:=eqS rfl
@[go_sem ↓] theorem ku(x:Operand):qk P pl det dst (.assign x) ev mu K Kp=K (ev x) mu:=eqS rfl
def Qw(v a b:AV)(k:AV->Prop):Prop:=∃ t,v = .sc (.bool t)/\k (if t then a else b)
@[go_sem ↓] theorem kv(c a b:Operand):qk P pl det dst (.pick c a b) ev mu K Kp=Qw (ev c) (ev a) (ev b) (km K mu):=eqS rfl
@[go_sem] theorem kw(t:Bool)(a b:AV)(k:AV->Prop):Qw (.sc (.bool t)) a b k=k (if t then a else b):=by simp[Qw]
@[go_sem ↓] theorem kx(e:TypeId):qk P pl det dst (.alloc e) ev mu K Kp=OptK (qn P e) (Je K mu):=eqS rfl
@[go_sem ↓] theorem SStep_box(e:TypeId)(x:Operand):qk P pl det dst (.box e x) ev mu K Kp=((ev x).cells.all AV.one=true/\(if (dst.any pl.mt.contains)=true then K (.ptr mu.length 0) (mu++[.arr (ev x).cells]) else K (.ip (ev x).cells) mu)):=eqS rfl
@[go_sem ↓] theorem ky(t:TypeId)(ps:List (Nat×Operand)):qk P pl det dst (.build t ps.toArray) ev mu K Kp=(jb P t=true/\OptK (vL P t (ps.map fun p=>(p.1,ev p.2))) (km K mu)):=eqS rfl
@[go_sem ↓] theorem kz(t:TypeId)(n:Nat)(ps:List (Nat×Operand)):qk P pl det dst (.buildSlice t n ps.toArray) ev mu K Kp=OptK (vN P t n (ps.map fun p=>(p.1,ev p.2))) (km K mu):=eqS rfl
@[go_sem ↓] theorem kA(t:TypeId)(x:Operand):qk P pl det dst (.load t x) ev mu K Kp=OptK (yR P mu t (ev x)) (km K mu):=eqS rfl
@[go_sem ↓] theorem kB(t:TypeId)(a x:Operand):qk P pl det dst (.store t a x) ev mu K Kp=OptK (vE P mu t (ev a) (ev x)) (ks K):=eqS rfl
def jM(P:Program)(det:Bool)(op:BinOp)(t:TypeId)(x y:Operand)(ev:Operand->AV)(mu:Mu)(K:AV->Mu->Prop):Prop:=if jo y=true then yf P det op t (ev x) (km K mu) else OptK (jn P op t (ev x) (ev y)) (km K mu)
@[go_sem ↓] theorem kC(op:BinOp)(t yt:TypeId)(x y:Operand):qk P pl det dst (.binOp op t x y yt) ev mu K Kp=jM P det op t x y ev mu K:=eqS rfl
@[go_sem ↓] theorem BinGo_tmp(op:BinOp)(t:TypeId)(x:Operand)(u:Tmp):jM P det op t x (.tmp u) ev mu K=OptK (jn P op t (ev x) (ev (.tmp u))) (km K mu):=by simp[jM,jo]
@[go_sem ↓] theorem BinGo_int(op:BinOp)(t:TypeId)(x:Operand)(k:IntKind)(n:Int):jM P det op t x (.const (.int k n)) ev mu K=OptK (jn P op t (ev x) (ev (.const (.int k n)))) (km K mu):=by simp[jM,jo]
@[go_sem ↓] theorem kD(op:BinOp)(t:TypeId)(x:Operand):jM P det op t x (.const .nilIface) ev mu K=OptK (jn P op t (ev x) (ev (.const .nilIface))) (km K mu):=by simp[jM,jo]
@[go_sem ↓] theorem kE(op:UnOp)(t:TypeId)(x:Operand):qk P pl det dst (.unOp op t x) ev mu K Kp=OptK (aUn op (ev x)) (km K mu):=eqS rfl
@[go_sem ↓] theorem kF(s t:TypeId)(x:Operand):qk P pl det dst (.convert s t x) ev mu K Kp=((P.underlying s).isSome=true/\OptK (vF P s t (ev x)) (km K mu)):=eqS rfl
@[go_sem ↓] theorem kG(f:Fn)(a b:List Operand):qk P pl det dst (.makeFunc f a.toArray b.toArray) ev mu K Kp=K (.fn f (evs ev a) (evs ev b)) mu:=eqS rfl
@[go_sem ↓] theorem kH(t:TypeId)(l c:Operand):qk P pl det dst (.makeSlice t l c) ev mu K Kp=OptK (j4 P mu t (ev l) (ev c)) (kp K):=eqS rfl
@[go_sem ↓] theorem kI(t:TypeId)(x:Operand)(lo hi mx:Option Operand):qk P pl det dst (.slice t x lo hi mx) ev mu K Kp=(w9 P t (ev x)/\OptK (vJ P t (ev x) (lo.map ev) (hi.map ev) (mx.map ev)) (km K mu)):=eqS rfl
@[go_sem ↓] theorem kJ(t:TypeId)(x:Operand)(f:Nat):qk P pl det dst (.fieldAddr t x f) ev mu K Kp=OptK (vG P t f (ev x)) (km K mu):=eqS rfl
@[go_sem ↓] theorem kK(t:TypeId)(x:Operand)(f:Nat):qk P pl det dst (.field t x f) ev mu K Kp=OptK (vI P t f (ev x)) (km K mu):=eqS rfl
@[go_sem ↓] theorem kL(t:TypeId)(x i:Operand):qk P pl det dst (.indexAddr t x i) ev mu K Kp=OptK (vH P t (ev x) (ev i)) (km K mu):=eqS rfl
@[go_sem ↓] theorem kM(x:Operand)(i:Nat):qk P pl det dst (.extract x i) ev mu K Kp=OptK (uH i (ev x)) (km K mu):=eqS rfl
@[go_sem ↓] theorem kN(f:Operand)(aas:List Operand)(ats:Array TypeId):qk P pl det dst (.call ⟨.value f,aas.toArray,ats⟩) ev mu K Kp=qd P det mu (ev f) (evs ev aas) K Kp:=eqS rfl
def Jf(P:Program)(mu:Mu)(ats:Array TypeId)(l:List AV)(K:AV->Mu->Prop):Prop:=∃ s x,l=[s,x]/\qD P mu ats s x K
@[go_sem ↓] theorem kO(aas:List Operand)(ats:Array TypeId):qk P pl det dst (.call ⟨.builtin .append,aas.toArray,ats⟩) ev mu K Kp=Jf P mu ats (evs ev aas) K:=eqS rfl
@[go_sem] theorem AppGo_eq(ats:Array TypeId)(s x:AV):Jf P mu ats [s,x] K=qD P mu ats s x K:=
 propext ⟨fun⟨_,_,e,h⟩=>by cases e;exact h,fun h=>⟨s,x,rfl,h⟩⟩
theorem Wl{P:Program}{mu:Mu}{K:AV->Mu->Prop}{t t' kt et:TypeId}{b:Nat}{es:List (AV×AV)}{k:AV}{r:Option Nat}(ht:mapT P t=some (kt,et))(hc:mu[b]?=some (.mp es))(hk:zo P kt k=true)(hf:qA P kt k es 0=some r)
  (kk:K (.tup []) (mu.set b (.md (delE es r)))):jI P mu .delete #[t,t'] [.mp b,k] K:=⟨_,_,.delete ht hc hk hf,kk⟩
@[go_sem ↓] theorem SStep_len(aas:List Operand)(ats:Array TypeId):qk P pl det dst (.call ⟨.builtin .len,aas.toArray,ats⟩) ev mu K Kp=OptK (yU P mu .len ats (evs ev aas)) (km K mu):=eqS rfl
@[go_sem ↓] theorem SStep_max(aas:List Operand)(ats:Array TypeId):qk P pl det dst (.call ⟨.builtin .max,aas.toArray,ats⟩) ev mu K Kp=OptK (yU P mu .max ats (evs ev aas)) (km K mu):=eqS rfl
@[go_sem] theorem evs_nil:evs ev []=[]:=eqS rfl
@[go_sem] theorem evs_cons(x:Operand)(l:List Operand):evs ev (x :: l)=ev x :: evs ev l:=eqS rfl
end
@[go_sem] theorem cells_agg(cs:List AV):(AV.agg cs).cells=cs:=eqS rfl
@[go_sem] theorem cells_sc(v:Value):(AV.sc v).cells=[.sc v]:=eqS rfl
@[go_sem] theorem cells_lst(f:Bool)(xs:List (List AV)):(AV.lst f xs).cells=[.lst f xs]:=eqS rfl
@[go_sem] theorem cells_fn(f:Fn)(a b:List AV):(AV.fn f a b).cells=[.fn f a b]:=eqS rfl
@[go_sem] theorem one_int(k:IntKind)(n:Int):(AV.sc (.int k n)).one=true:=eqS rfl
@[go_sem] theorem kP(s:ByteArray):(AV.sc (.string s)).one=true:=eqS rfl
@[go_sem] theorem kQ:(AV.sc .nilFunc).one=true:=eqS rfl
@[go_sem] theorem one_lst(f:Bool)(xs:List (List AV)):(AV.lst f xs).one=true:=eqS rfl
@[go_sem] theorem one_fn(f:Fn)(a b:List AV):(AV.fn f a b).one=true:=eqS rfl
end Go.Ev
namespace Go.Ev
open Go Go.RowKit
theorem qk.mono{P:Program}{pl:Pol}{det:Bool}{dst:Option Tmp}{op:Op}{ev:Operand->AV}{mu:Mu}{K K' Kp Kp':AV->Mu->Prop}(h:qk P pl det dst op ev mu K Kp)
  (hK:∀ v m,K v m->K' v m) (hKp:∀ v m,Kp v m->Kp' v m):qk P pl det dst op ev mu K' Kp':=by
 cases op<;>simp only[qk]at h⊢<;>try (exact h.elim)
 case move=>exact hK _ _ h
 case assign=>exact hK _ _ h
 case makeFunc=>exact hK _ _ h
 case pick=>obtain⟨t,h1,h2⟩:=h;exact⟨t,h1,hK _ _ h2⟩
 case alloc=>obtain⟨z,h1,h2,h3⟩:=h;exact⟨z,h1,h2,hK _ _ h3⟩
 case box =>
  obtain⟨h1,h2⟩:=h;refine⟨h1,?_⟩;split at h2
  .rename_i hc;rw[if_pos hc];exact hK _ _ h2
  .rename_i hc;rw[if_neg hc];exact hK _ _ h2
 case build=>obtain⟨h0,z,h1,h2⟩:=h;exact⟨h0,z,h1,hK _ _ h2⟩
 case buildSlice=>obtain⟨z,h1,h2⟩:=h;exact⟨z,h1,hK _ _ h2⟩
 case load=>obtain⟨z,h1,h2⟩:=h;exact⟨z,h1,hK _ _ h2⟩
 case store=>obtain⟨z,h1,h2⟩:=h;exact⟨z,h1,hK _ _ h2⟩
 case nilCheck=>obtain⟨z,h1,h2⟩:=h;exact⟨z,h1,hK _ _ h2⟩
 case binOp =>
  split at h
  .rename_i hy
   simp only[if_pos hy];exact h.mono fun z hz=>hK _ _ hz
  .rename_i hy
   simp only[if_neg hy];obtain⟨z,h1,h2⟩:=h;exact⟨z,h1,hK _ _ h2⟩
 case unOp=>obtain⟨z,h1,h2⟩:=h;exact⟨z,h1,hK _ _ h2⟩
 case convert=>obtain⟨h0,z,h1,h2⟩:=h;exact⟨h0,z,h1,hK _ _ h2⟩
 case makeInterface=>obtain⟨h0,h2⟩:=h;exact⟨h0,hK _ _ h2⟩
 case makeSlice=>obtain⟨z,h1,h2⟩:=h;exact⟨z,h1,hK _ _ h2⟩
 case slice=>obtain⟨h0,z,h1,h2⟩:=h;exact⟨h0,z,h1,hK _ _ h2⟩
 case fieldAddr=>obtain⟨z,h1,h2⟩:=h;exact⟨z,h1,hK _ _ h2⟩
 case field=>obtain⟨z,h1,h2⟩:=h;exact⟨z,h1,hK _ _ h2⟩
 case indexAddr=>obtain⟨z,h1,h2⟩:=h;exact⟨z,h1,hK _ _ h2⟩
 case index=>obtain⟨z,h1,h2⟩:=h;exact⟨z,h1,hK _ _ h2⟩
 case extract=>obtain⟨z,h1,h2⟩:=h;exact⟨z,h1,hK _ _ h2⟩
 case typeAssert=>obtain⟨z,h1,h2⟩:=h;exact⟨z,h1,hK _ _ h2⟩
 case makeMap=>obtain⟨h0,h2⟩:=h;exact⟨h0,hK _ _ h2⟩
 case lookup=>obtain⟨z,h1,h2⟩:=h;exact⟨z,h1,hK _ _ h2⟩
 case mapUpdate=>obtain⟨z,h1,h2⟩:=h;exact⟨z,h1,hK _ _ h2⟩
 case insert=>obtain⟨z,h1,h2⟩:=h;exact⟨z,h1,hK _ _ h2⟩
 case mapEntry=>obtain⟨z,h1,h2⟩:=h;exact⟨z,h1,hK _ _ h2⟩
 case entryStore=>obtain⟨z,h1,h2⟩:=h;exact⟨z,h1,hK _ _ h2⟩
 case range=>obtain⟨z,h1,h2⟩:=h;exact⟨z,h1,hK _ _ h2⟩
 case next=>obtain⟨h0,h00,b,es,seen,h1,h2,h3,h4⟩:=h;exact⟨h0,h00,b,es,seen,h1,h2,fun i e a c=>hK _ _ (h3 i e a c),fun a=>hK _ _ (h4 a)⟩
 case entry=>obtain⟨z,h1,h2⟩:=h;exact⟨z,h1,hK _ _ h2⟩
 case panic=>obtain⟨h0,t,v,h1,h2⟩:=h;exact⟨h0,t,v,h1,hKp _ _ h2⟩
 case call c =>
  obtain⟨callee,args,ats⟩:=c;cases callee with
  |invoke r m=>exact h.elim
  |value f =>
   rcases h with ⟨v,h1,h2⟩|⟨h1,⟨g,fi,ca,R,h2,h3,h4,h5⟩|⟨i,R,h2,h3,h4⟩⟩
   .exact .inl ⟨v,h1,hK _ _ h2⟩
   .exact .inr ⟨h1,.inl ⟨g,fi,ca,R,h2,h3,fun r m h=>hK _ _ (h4 r m h),fun r m h=>hKp _ _ (h5 r m h)⟩⟩
   .exact .inr ⟨h1,.inr ⟨i,R,h2,h3,fun b m h=>hK _ _ (h4 b m h)⟩⟩
  |builtin b =>
   cases b<;>simp only at h⊢<;>try (first | (obtain⟨z,m,h1,h2⟩:=h;exact⟨z,m,h1,hK _ _ h2⟩) | (obtain⟨z,h1,h2⟩:=h;exact⟨z,h1,hK _ _ h2⟩))
   obtain⟨s,x,h1,h⟩:=h;exact⟨s,x,h1,h.mono hK⟩
theorem awpS.mono{P:Program}{pl:Pol}{det:Bool}{ops:Array Oper}{Q Q':St->Prop}{Qp Qp':AV->St->Prop}(hQ:∀ st,Q st->Q' st)(hQp:∀ v st,Qp v st->Qp' v st) :
  ∀(l:List Oper) (st:St),awpS P pl det ops l Q Qp st->awpS P pl det ops l Q' Qp' st:=by
 intro l;induction l with
 |nil=>intro st h;exact hQ st h
 |cons o l ih =>
  intro st ⟨b,h0,h1,h2⟩;exact⟨b,h0,fun e=>(h1 e).mono (fun v m h=>ih _ h) (fun v m h=>hQp _ _ h),fun e=>ih _ (h2 e)⟩
theorem awpT.mono{P:Program}{pl:Pol}{ops:Array Oper}{Q Q':St->Prop}{Qp Qp':AV->St->Prop}(hQ:∀ st,Q st->Q' st)(hQp:∀ v st,Qp v st->Qp' v st) :
  ∀(l:List (Nat×Nat×List Nat)) (st:St),awpT P pl ops Q Qp l st->awpT P pl ops Q' Qp' l st:=by
 intro l;induction l with
 |nil=>intro st h;exact hQ st h
 |cons e l ih =>
  obtain⟨j,k,r⟩:=e;intro st h;simp only[awpT]at h⊢;cases ho:ops[j]? with
  |none=>rw[ho]at h;exact h
  |some o =>
   rw[ho]at h;simp only at h⊢;obtain⟨b,hb,h1,h2⟩:=h;exact⟨b,hb,fun e=>qk.mono (h1 e) (fun v m h=>⟨h.1,ih _ h.2⟩) (fun v m h=>⟨h.1,fun tm=>hQp _ _ (h.2 tm)⟩),fun e=>ih _ (h2 e)⟩
theorem awpQ.mono{P:Program}{pl:Pol}{Q Q':St->Prop}{Qp Qp':AV->St->Prop}(hQ:∀ st,Q st->Q' st)(hQp:∀ v st,Qp v st->Qp' v st) :
  ∀(l:List (Bool×Oper)) (st:St),awpQ P pl l Q Qp st->awpQ P pl l Q' Qp' st:=by
 intro l;induction l with
 |nil=>intro st h;exact hQ st h
 |cons o l ih =>
  intro st h;obtain⟨q,o⟩:=o;exact qk.mono h (fun v m h=>⟨h.1,ih _ h.2⟩) (fun v m h tm=>hQp _ _ (h tm))
theorem awp.mono{P:Program}{pl:Pol}:∀(c:Code) {Q Q':qv->St->Prop} {st:St},awp P pl c Q st->(∀ e st,Q e st->Q' e st)->awp P pl c Q' st:=by
 intro c;induction c with
 |skip=>intro Q Q' st h hq;exact hq _ _ h
 |label l=>intro Q Q' st h hq;exact hq _ _ h
 |exit i=>intro Q Q' st h hq;exact hq _ _ h
 |ret=>intro Q Q' st h hq;exact hq _ _ h
 |region id ops draw =>
  intro Q Q' st h hq;rcases h with ⟨h1,h2⟩|⟨h1,h2⟩
  .exact .inl ⟨h1,awpS.mono (fun st h=>hq _ _ h) (fun v st h=>hq _ _ h) _ _ h2⟩
  .obtain ⟨st1,hf1,h2⟩:=h2
   refine .inr ⟨h1,st1,hf1,?_⟩;rcases h2 with ((⟨h3,h4⟩|⟨a,d,h3,hd,h4,h5,h6⟩|⟨n,h3,h4⟩)|⟨X,Y,h3,h4⟩)|⟨O,h3,h3z,h4⟩
   .exact .inl (.inl (.inl ⟨h3,awpS.mono (fun st h=>hq _ _ h) (fun v st h=>hq _ _ h) _ _ h4⟩))
   .exact .inl (.inl (.inr (.inl ⟨a,d,h3,hd,h4,awpS.mono (fun st h=>hq _ _ h) (fun v st h=>hq _ _ h) _ _ h5,awpS.mono (fun st h=>hq _ _ h) (fun v st h=>hq _ _ h) _ _ h6⟩)))
   .exact .inl (.inl (.inr (.inr ⟨n,h3,awpS.mono (fun st h=>awpS.mono (fun st h=>hq _ _ h) (fun v st h=>hq _ _ h) _ _ h) (fun v st h=>hq _ _ h) _ _ h4⟩)))
   .exact .inl (.inr ⟨X,Y,h3,awpS.mono (fun st h=>⟨h.1,awpQ.mono (fun st h=>hq _ _ h) (fun v st h=>hq _ _ h) _ _ h.2⟩) (fun _ _ h=>h) _ _ h4⟩)
   .exact .inr ⟨O,h3,h3z,awpT.mono (fun st h=>hq _ _ h) (fun v st h=>hq _ _ h) _ _ h4⟩
 |seq a b iha ihb =>
  intro Q Q' st h hq;refine iha (Q:=seqQ (awp P pl b Q) Q) h (fun e st h=>?_);cases e with
  |normal=>exact ihb h hq
  |exit i=>exact hq _ _ h
  |ret=>exact hq _ _ h
  |pan v=>exact hq _ _ h
 |cond cnd a b iha ihb=>intro Q Q' st ⟨t,h0,h1,h2⟩ hq;exact⟨t,h0,fun e=>iha (h1 e) hq,fun e=>ihb (h2 e) hq⟩
 |block id b ih =>
  intro Q Q' st h hq;refine ih (Q:=js id Q) h (fun e st h=>?_);cases e with
  |normal=>exact hq _ _ h
  |exit i =>
   simp only[js]at h⊢;split at h
   .rename_i hi;rw[if_pos hi];exact hq _ _ h
   .rename_i hi;rw[if_neg hi];exact hq _ _ h
  |ret=>exact hq _ _ h
  |pan v=>exact hq _ _ h
 |loop b ih =>
  intro Q Q' st ⟨z,I,n,st1,hf1,h0,h1⟩ hq;have hq:∀ e st,fzQ z Q e st->fzQ z Q' e st:=fun e st h=>by
   cases z with
   |false=>exact hq e st h
   |true=>exact⟨h.choose,h.choose_spec.1,h.choose_spec.2.1,hq e _ h.choose_spec.2.2⟩
  refine⟨z,I,n,st1,hf1,h0,fun n st hI=>ih (Q:=jt I n (fzQ z Q)) (h1 n st hI) (fun e st h=>?_)⟩;cases e with
  |normal=>exact h
  |exit i=>exact hq _ _ h
  |ret=>exact hq _ _ h
  |pan v=>exact hq _ _ h
 |scope b ih=>intro Q Q' st h hq;exact ih h hq
 |rangeFunc f ps aas b ih1 ih2 =>
  intro Q Q' st ⟨z,gf,caps,rows,I,Ix,h1,h2,h3,h6,h7,h8⟩ hq;have hq:∀ e st,fzQ z Q e st->fzQ z Q' e st:=fun e st h=>by
   cases z with
   |false=>exact hq e st h
   |true=>exact⟨h.choose,h.choose_spec.1,h.choose_spec.2.1,hq e _ h.choose_spec.2.2⟩
  exact⟨z,gf,caps,rows,I,Ix,h1,h2,h3,h6,fun mu h=>hq _ _ (h7 mu h),fun e mu h=>hq _ _ (h8 e mu h)⟩
 |goto l=>intro Q Q' st h hq;exact h.elim
 |refuse w=>intro Q Q' st h hq;exact h.elim
def upQ(I:Nat->St->Prop)(N k:Nat)(Q:qv->St->Prop):qv->St->Prop
 | .normal,st=>k<N/\I (k+1) st
 |e,st=>Q e st
section
variable (Q:qv->St->Prop) (st:St) (I:Nat->St->Prop) (N k:Nat)
@[go_sem ↓] theorem kR:upQ I N k Q .normal st=(k<N/\I (k+1) st):=eqS rfl
@[go_sem ↓] theorem upQ_exit(i:Nat):upQ I N k Q (.exit i) st=Q (.exit i) st:=eqS rfl
@[go_sem ↓] theorem upQ_ret:upQ I N k Q .ret st=Q .ret st:=eqS rfl
end
theorem qx.up{P:Program}{pl:Pol}{body:Code}{Q:qv->St->Prop}{st:St}(N:Nat)(I:Nat->St->Prop)(h0:I 0 st)(h:∀ k st,k<=N->I k st->awp P pl body (upQ I N k Q) st):qx P pl body Q st:=by
 refine qx.intro (fun n st=>∃ k,n=N-k/\k<=N/\I k st) N ⟨0,by omega,by omega,h0⟩ ?_;rintro n st ⟨k,rfl,hk,hI⟩;refine awp.mono body (h k st hk hI) (fun e st he=>?_);cases e with
 |normal=>exact⟨N-(k+1),by have:=he.1;omega,k+1,rfl,he.1,he.2⟩
 |exit i=>exact he
 |ret=>exact he
 |pan v=>exact he
theorem Jg(mu:Mu):∀ k,cutM (fun i=>!false) mu k=mu:=by
 induction mu with
 |nil=>intro k;rfl
 |cons c l ih =>
  intro k;have:=ih (k+1);simp[cutM]at this⊢;exact this
theorem FzQ.skip{Q:qv->St->Prop}{e:qv}{st:St}(h:Q e st):FzQ Q e st:=by
 refine⟨st,⟨fun _=>false,(Jg _ 0).symm,fun i => .same _⟩,?_,h⟩;cases e<;>trivial
theorem FzQ.one{Q:qv->St->Prop}{i d b:Nat}{x:AV}{st:St}(hr:Rd (cutM (fun j=>j == b) st.mu 0) (st.tm d) x)(k:Q (.exit i) (st.put (some d) x (cutM (fun j=>!(j == b)) st.mu 0))):FzQ Q (.exit i) st:=by
 refine⟨_,⟨fun j=>j == b,rfl,fun j=>?_⟩,trivial,k⟩;simp only[St.put];split
 .rename_i h;subst h;exact .rd _ _ hr
 .exact .same _
theorem qd.pure{P:Program}{det:Bool}{mu:Mu}{g:FuncId}{args args':List AV}{v:AV}{K Kp:AV->Mu->Prop}(hs:qf P g args' v)(hw:WKs args args')(k:K v mu) :
  qd P det mu (.fn (.func g) [] []) args K Kp:=
 .inl ⟨v,.inl ⟨g,[],[],args',rfl,hs,.inl (by simpa using hw)⟩,k⟩
theorem qd.eff{P:Program}{mu:Mu}{g:FuncId}{caps args:List AV}{R:AEnd->Mu->Prop}{K Kp:AV->Mu->Prop}(hs:qE P g (args++caps) mu R)(k:∀ r m,R (.ret r) m->K r m)(kp:∀ r m,R (.pan r) m->Kp r m) :
  qd P false mu (.fn (.func g) [] caps) args K Kp:=
 .inr ⟨rfl,.inl ⟨g,[],caps,R,rfl,by simpa using hs,k,kp⟩⟩
theorem qd.yield{P:Program}{mu:Mu}{i:Nat}{args:List AV}{R:Bool->Mu->Prop}{K Kp:AV->Mu->Prop}(h:yH P i args mu R)(k:∀ b m,R b m->K (.sc (.bool b)) m):qd P false mu (.yl i) args K Kp:=
 .inr ⟨rfl,.inr ⟨i,R,rfl,h,k⟩⟩
theorem WKs.args{G:Gh}{h:Array Obj}{xs ys:List AV}{vs:Array Value}(w:WKs xs ys)(r:qM G h xs vs):qM G h ys vs:=by
 obtain⟨hn,hw⟩:=w.get;refine⟨by rw[hn];exact r.1,fun k y hy=>?_⟩;have hk:k<xs.length:=by rw[<-hn];exact(qc.1 hy).1
 have hx:xs[k]?=some xs[k]:=qs hk;exact VRel.le (G:=⟨G.imm,[]⟩) (G':=G) ⟨fun _ h=>h,fun i x hx=>by simp at hx⟩ (hw k _ y hx hy G h _ (r.2 k _ hx))
theorem yH.wk{P:Program}{mu:Mu}{i:Nat}{args args':List AV}{R:Bool->Mu->Prop}(h:yH P i args' mu R)(w:WKs args args'):yH P i args mu R:=
 fun G wd vs s ra l tot hb=>h G wd vs s (w.args ra) l tot hb
theorem yH.hid{P:Program}{mu:Mu}{i j:Nat}{c:Cell}{args:List AV}{R:Bool->Mu->Prop}(hc:mu[j]?=some c)(hd:c ≠ .dead)(h:yH P i args (mu.set j .dead) R):yH P i args mu fun b m'=>∃ m,R b m/\m[j]?=some .dead/\m'=m.set j c:=by
 intro G w vs s ra l tot hb;obtain⟨fn,tmps,aas,body,h1,h2⟩:=h G w vs (s.hid j) ra l tot hb;refine⟨fn,tmps,aas,body,h1,h2.mono ?_⟩;rintro e w' ⟨b,G',m,rfl,t,hR⟩;have hj:j<G.blk.length:=by rw[s.len];exact(qc.1 hc).1
 obtain⟨g1,g2,g3⟩:=t.unhid s hc hd (b:=(G.blk[j]'hj).1) (t:=(G.blk[j]'hj).2) (by simp[hj]);exact⟨b,G',_,rfl,g3,m,hR,g1,rfl⟩
theorem zS.of{P:Program}{f:FuncId}{caps:List AV}{rows:List (List AV)}(hcal:zn P f)
  (h:∀(i:Nat) (I:Nat->Mu->Prop) (Ix:Mu->Prop),(∀ k mu,I k mu->I k (mu++[.dead]))->(∀ mu,Ix mu->Ix (mu++[.dead]))->Yld P i rows I Ix->∀ mu,I 0 mu ->
   qE P f (.yl i :: caps) mu fun e mu'=>∃ r,e = .ret r/\(I rows.length mu'\/Ix mu')):zS P f caps rows:=⟨hcal,h⟩
theorem WKs.nil:WKs [] []:=trivial
theorem WKs.cons{x y:AV}{xs ys:List AV}(h:WK x y)(t:WKs xs ys):WKs (x :: xs) (y :: ys):=⟨h,t⟩
def Own(mu:Mu)(sz:Nat)(av:AV)(xs:List (List AV)):Prop:=
 (av = .lst true xs)\/∃ b,av = .sl b sz 0 xs.length/\mu[b]?=some (.arr xs.flatten)
theorem qD.own{P:Program}{mu:Mu}{t t' e sz bt:Nat}{s x:AV}{xs ys:List (List AV)}{zv:AV}{K:AV->Mu->Prop}(hs:qp P t=some (e,sz,bt))(hs':(qp P t').isSome=true)(hz:qn P e=some zv)
  (hz1:zv.cells.length=sz) (hz2:zv.cells.all AV.one=true) (hz0:sz≠0) (hb:bt<=16384) (ho:Own mu sz s xs) (hx:qZ mu x=some ys) (wx:qK sz xs) (wy:qK sz ys) (hl:xs.length+ys.length<=4294967296)
  (k:∀ av mu',Own mu' sz av (xs++ys)->(∀ i,i<mu.length->(∀ off len,s ≠ .sl i sz off len)->mu'[i]?=mu[i]?)->mu.length<=mu'.length->K av mu'):qD P mu #[t,t'] s x K:=by
 refine .inl ?_;refine⟨t,t',e,sz,bt,ys,rfl,hs,hs',⟨zv,hz,hz1,hz2⟩,hz0,hb,hx,wy,?_⟩;rcases ho with rfl|⟨b,rfl,hc⟩
 .refine .inl ⟨xs,rfl,wx,hl,fun h=>?_,fun h=>?_⟩
  .subst h
   exact k _ _ (.inl (by simp)) (fun _ _ _=>rfl) (qu _)
  .refine k _ _ (.inr ⟨mu.length,by simp,by simp⟩) (fun i hi _=>?_) (by simp)
   rw[qh hi]
 .have hfl:=zd wx.ok
  refine .inr ⟨b,xs.length,xs.flatten,rfl,hc,by omega,hl,?_⟩;have htk:xs.flatten.take (xs.length*sz)=xs.flatten:=zA (by omega);refine k _ _ (.inr ⟨mu.length,by simp,?_⟩) (fun i hi hne=>?_) (by simp)
  .rw [htk,qB (by simp)];simp
  .rw [qh (by simpa using hi)]
   rw[q9 (fun e=>hne 0 xs.length (by rw[e]))]
theorem Own.rows{mu:Mu}{sz:Nat}{av:AV}{xs:List (List AV)}(h:Own mu sz av xs)(w:zm sz xs):qZ mu av=some xs:=by
 rcases h with rfl|⟨b,rfl,hc⟩
 .rfl
 .have hfl:=zd w
  simp only[qZ,hc];rw[if_pos (by omega)];congr 1;apply ya;intro i;by_cases hi:i<xs.length
  .simp only[qW,List.getElem?_range hi,qw,zX]
   rw[qs hi];congr 1;have hr:=w _ (qY hi);rw[<-ZM w i,List.drop_eq_getElem_cons hi,yo,List.take_append_of_le_length (by omega),zA (by omega)]
  .rw [ym (by simp;omega),ym (by omega)]
theorem Own.rd{mu:Mu}{sz:Nat}{av:AV}{xs:List (List AV)}(h:Own mu sz av xs)(w:zm sz xs)(hf:∀ r,r∈xs->∀ c,c∈r->HF c):Rd mu av (.lst false xs):=by
 rcases h with rfl|⟨b,rfl,hc⟩
 .exact .wk _ true _ (.hf _ (HF.lst hf))
 .have hfl:=zd w
  refine .sl b sz 0 xs.length xs.flatten xs hc (by omega) rfl w (fun k x y hx hy=>?_);rw[zX,hy]at hx;cases hx;obtain⟨r,hr,hxr⟩:=wE.1 (qC hy);exact .hf _ (hf r hr _ hxr)
end Go.Ev
namespace Go.Ev
open Go Go.RowKit
def ua(mu:Mu)(give:Nat->Bool):List AV->List AV->Prop
 | [],[]=>True
 |x :: xs,y :: ys=>(x=y\/Rd (cutM give mu 0) x y)/\ua mu give xs ys
 |_,_=>False
theorem ua.get{mu:Mu}{give:Nat->Bool}:∀{xs ys:List AV},ua mu give xs ys->ys.length=xs.length/\∀(k:Nat) x y,xs[k]?=some x->ys[k]?=some y->x=y\/Rd (cutM give mu 0) x y
 | [],[],_=>⟨rfl,by simp⟩
 |x :: xs,y :: ys,⟨h,t⟩=>by
  obtain⟨h1,h2⟩:=ua.get t;refine⟨by simp[h1],fun k a b ha hb=>?_⟩;cases k with
  |zero=>simp at ha hb;subst ha;subst hb;exact h
  |succ k=>exact h2 k a b (by simpa using ha) (by simpa using hb)
 | [],_ :: _,h=>h.elim
 |_ :: _,[],h=>h.elim
theorem qE.freeze{P:Program}{f:FuncId}{args args1:List AV}{mu:Mu}{R:AEnd->Mu->Prop}(give:Nat->Bool)(hg:ua mu give args args1)(h:qE P f args1 (cutM (fun i=>!give i) mu 0) R):qE P f args mu R:=by
 obtain⟨hcal,h⟩:=h;obtain⟨hn,hg⟩:=hg.get;refine⟨hcal,fun G w vs s ra=>?_⟩;have ra1:qM (frz G give mu) w.heap args1 vs:=by
  refine⟨by rw[hn];exact ra.1,fun k y hy=>?_⟩;have hk:k<args.length:=by rw[<-hn];exact(qc.1 hy).1
  have hx:args[k]?=some args[k]:=qs hk;have rv:=ra.2 k _ hx;rcases hg k _ y hx hy with e|r
  .rw [<-e];exact rv.mono (jl s give).le (Ext.refl _ _)
  .exact wS s give r rv
 refine(h (frz G give mu) w vs (uC s give) ra1).mono fun e w' ⟨G',mu',st,hR⟩=>⟨G',mu',(jl s give).trans s st,hR⟩
def Gvs(mu:Mu)(give:Nat->Bool):List AV->List AV->Prop
 | [],[]=>True
 |x :: xs,y :: ys=>Gv mu give x y/\Gvs mu give xs ys
 |_,_=>False
theorem Gvs.get{mu:Mu}{give:Nat->Bool}:∀{xs ys:List AV},Gvs mu give xs ys->ys.length=xs.length/\∀(k:Nat) x y,xs[k]?=some x->ys[k]?=some y->Gv mu give x y
 | [],[],_=>⟨rfl,by simp⟩
 |x :: xs,y :: ys,⟨h,t⟩=>by
  obtain⟨h1,h2⟩:=Gvs.get t;refine⟨by simp[h1],fun k a b ha hb=>?_⟩;cases k with
  |zero=>simp at ha hb;subst ha;subst hb;exact h
  |succ k=>exact h2 k a b (by simpa using ha) (by simpa using hb)
 | [],_ :: _,h=>h.elim
 |_ :: _,[],h=>h.elim
def FrzM(mu:Mu)(give:Nat->Bool)(mu':Mu):Prop:=mu'.length=mu.length/\∀(i:Nat) (c':Cell),mu'[i]?=some c'->c' ≠ .dead->give i=false/\∃ c,mu[i]?=some c/\c ≠ .dead /\
 (c'=c\/∃ xs ys,c = .arr xs/\c' = .arr ys/\Gvs mu give xs ys/\ys.all AV.one=true)
theorem FrzM.sim{G:Gh}{mu mu':Mu}{h:Array Obj}{give:Nat->Bool}(s:Sim G mu h)(f:FrzM mu give mu'):Sim (frz G give mu) mu' h:=by
 have hle:G.le (frz G give mu):=⟨fun b hb => .inl hb,fun _ _ h=>h⟩;have s0:=uC s give;have kept:∀(i:Nat) (c':Cell),mu'[i]?=some c'->c' ≠ .dead->∃ c,(cutM (fun i=>!give i) mu 0)[i]?=some c/\c ≠ .dead:=by
  intro i c' h1 h2;obtain⟨hg,c,hc,hd,_⟩:=f.2 i c' h1 h2;exact⟨c,by rw[y9,hc];simp[hg],hd⟩
 refine⟨by rw[f.1];exact s.len,s0.imm,?_,?_,?_,s0.tab⟩
 .intro i c' blk tot h1 h2 h3
  obtain⟨hg,c,hc,hd,hr⟩:=f.2 i c' h1 h2;obtain⟨o,ho,hrel⟩:=s.obj i c blk tot hc hd h3;refine⟨o,ho,?_⟩;rcases hr with rfl|⟨xs,ys,rfl,rfl,hgv,hone⟩
  .exact hrel.mono hle (Ext.refl _ _)
  .obtain ⟨hyl,hgv⟩:=hgv.get
   obtain⟨cs,e,rfl,k1,k2,k3⟩:=hrel;refine⟨cs,e,rfl,k1,by omega,fun j y hy=>?_⟩;have hj:j<xs.length:=by rw[<-hyl];exact(qc.1 hy).1
   have hx:xs[j]?=some xs[j]:=qs hj;exact⟨by simpa using qt.1 hone y (qC hy),(hgv j _ y hx hy).sound s (k3 j _ hx).2⟩
 .intro i c' blk tot h1 h2 h3
  obtain⟨c,hc,hd⟩:=kept i c' h1 h2;exact s0.live i c blk tot hc hd h3
 .intro i j ci cj b ti tj h1 h2 h3 h4 h5 h6
  obtain⟨c,hc,hd⟩:=kept i ci h1 h3;obtain⟨c',hc',hd'⟩:=kept j cj h2 h4;exact s0.inj i j c c' b ti tj hc hc' hd hd' h5 h6
theorem FrzM.stp{G:Gh}{mu mu':Mu}{w:World}{give:Nat->Bool}(s:Sim G mu w.heap)(f:FrzM mu give mu'):Stp G mu w (frz G give mu) mu' w:=by
 refine⟨⟨fun b hb => .inl hb,fun _ _ h=>h⟩,f.sim s,fun _ _ _=>rfl,qu _,?_,?_,rfl,rfl,rfl,qu _⟩
 .rintro b ⟨i,c,tot,h1,h2,h3⟩
  obtain⟨_,c0,hc,hd,_⟩:=f.2 i c h1 h2;exact .inl ⟨i,c0,tot,hc,hd,h3⟩
 .rintro b (hb|hb)
  .exact .inl hb
  .exact .inr (.inl hb.cut)
theorem qE.give{P:Program}{f:FuncId}{args:List AV}{mu:Mu}{R:AEnd->Mu->Prop}(h:qE P f args mu fun e m=>R e m\/∃(g:Nat->Bool) (x y:AV),e = .ret x/\Gv m g x y/\R (.ret y) (cutM (fun i=>!g i) m 0)):qE P f args mu R:=by
 obtain⟨hcal,h⟩:=h;refine⟨hcal,fun G w vs s ra=>(h G w vs s ra).mono fun e w' ⟨G',mu',st,hR⟩=>?_⟩;rcases hR with ⟨r,v,hR,he,hv⟩|⟨r,v,hR,he,hv⟩
 .rcases hR with hR|⟨g,x,y,hx,hg,hR⟩
  .exact ⟨G',mu',st,.inl ⟨r,v,hR,he,hv⟩⟩
  .cases hx
   exact⟨frz G' g mu',_,st.trans s (jl st.sim g),.inl ⟨y,v,hR,he,hg.sound st.sim hv⟩⟩
 .rcases hR with hR|⟨g,x,y,hx,_⟩
  .exact ⟨G',mu',st,.inr ⟨r,v,hR,he,hv⟩⟩
  .cases hx
theorem qf.toSound{P:Program}{f:FuncId}{args args':List AV}{v:AV}(mu:Mu)(h:qf P f args' v)(hw:WKs args args'):qE P f args mu fun e m=>e = .ret v/\m=mu:=by
 refine⟨h.1,fun G w vs s ra=>?_⟩;have fr:VRel G w.heap (.fn (.func f) [] []) (.func (.func f) #[] #[]) := .fn _ _ _ _ _ rfl rfl (fun k x hx=>by simp at hx) (fun k x hx=>by simp at hx);obtain⟨g,first,caps,e,_,hc⟩:=Yf s fr ra (.inl ⟨f,[],[],args',rfl,h,.inl (by simpa using hw)⟩);injection e with e1 e2 e3;injection e1 with e1;subst e1;subst e2;subst e3;simp at hc;refine hc.mono fun e w' ⟨G',u,he,st,hv⟩=>⟨G',mu,st,.inl ⟨v,u,⟨rfl,rfl⟩,he,hv⟩⟩
end Go.Ev
namespace Go.Ev
open Go Go.RowKit
section
variable {β:Type}
def fN(n:Nat)(k:Nat->β):β:=match n with
 | 0=>k 0
 |m+1=>k (Nat.succ m)
theorem Qx(n:Nat)(k:Nat->β):fN n k=k n:=by cases n<;>rfl
def fI(i:Int)(k:Int->β):β:=match i with
 | .ofNat n=>fN n fun n=>k (.ofNat n)
 | .negSucc n=>fN n fun n=>k (.negSucc n)
theorem fI_eq(i:Int)(k:Int->β):fI i k=k i:=by
 cases i with
 |ofNat n=>exact Qx n fun n=>k (.ofNat n)
 |negSucc n=>exact Qx n fun n=>k (.negSucc n)
def fBo(b:Bool)(k:Bool->β):β:=match b with
 |true=>k true
 |false=>k false
theorem Wm(b:Bool)(k:Bool->β):fBo b k=k b:=by cases b<;>rfl
def fLi{α:Type}:List α->(List α->β)->β
 | [],k=>k []
 |a :: l,k=>fLi l fun l=>k (a :: l)
theorem uX{α:Type}:∀(l:List α) (k:List α->β),fLi l k=k l
 | [],k=>rfl
 |a :: l,k=>by rw[fLi,uX l]
def fLL{α:Type}:List (List α)->(List (List α)->β)->β
 | [],k=>k []
 |a :: l,k=>fLi a fun a=>fLL l fun l=>k (a :: l)
theorem Jh{α:Type}:∀(l:List (List α)) (k:List (List α)->β),fLL l k=k l
 | [],k=>rfl
 |a :: l,k=>by rw[fLL,uX,Jh l]
def fV(v:AV)(k:AV->β):β:=match v with
 | .sc (.int kd n)=>fI n fun n=>k (.sc (.int kd n))
 | .sc (.bool b)=>fBo b fun b=>k (.sc (.bool b))
 | .lst f xs=>fLL xs fun xs=>k (.lst f xs)
 | .agg cs=>fLi cs fun cs=>k (.agg cs)
 | .tup cs=>fLi cs fun cs=>k (.tup cs)
 | .ip cs=>fLi cs fun cs=>k (.ip cs)
 | .sl b sz off len=>fN b fun b=>fN sz fun sz=>fN off fun off=>fN len fun len=>k (.sl b sz off len)
 | .ptr b off=>fN b fun b=>fN off fun off=>k (.ptr b off)
 | .mp b=>fN b fun b=>k (.mp b)
 | .fn f a c=>fLi a fun a=>fLi c fun c=>k (.fn f a c)
 |v=>k v
theorem Ji(v:AV)(k:AV->β):fV v k=k v:=by
 unfold fV;split<;>simp only[Qx,fI_eq,Wm,uX,Jh]
def fC(c:Cell)(k:Cell->β):β:=match c with
 | .arr cs=>fLi cs fun cs=>k (.arr cs)
 | .mp es=>fLi es fun es=>k (.mp es)
 |c=>k c
theorem fC_eq(c:Cell)(k:Cell->β):fC c k=k c:=by
 unfold fC;split<;>simp only[uX]
def fM:Mu->(Mu->β)->β
 | [],k=>k []
 |c :: l,k=>fC c fun c=>fM l fun l=>k (c :: l)
theorem Qy:∀(l:Mu) (k:Mu->β),fM l k=k l
 | [],k=>rfl
 |a :: l,k=>by rw[fM,fC_eq,Qy l]
end
def setJ{β:Type}:List AV->Nat->AV->(List AV->Option β)->Option β
 | [],_,_,_=>none
 |_ :: l,0,v,k=>k (v :: l)
 |a :: l,d+1,v,k=>setJ l d v fun l=>k (a :: l)
theorem Jj{β:Type}:∀{l:List AV} {d:Nat} {v:AV} {k:List AV->Option β} {r:β},setJ l d v k=some r->d<l.length/\k (l.set d v)=some r
 | [],d,v,k,r,h=>by cases h
 |a :: l,0,v,k,r,h=>⟨by simp,h⟩
 |a :: l,d+1,v,k,r,h=>by
  obtain⟨h1,h2⟩:=Jj (l:=l) h;exact⟨by simpa using h1,h2⟩
def nthJ:List AV->Nat->AV
 | [],_ => .sc undef
 |a :: _,0=>a
 |_ :: l,d+1=>nthJ l d
theorem uY:∀(l:List AV) (d:Nat),nthJ l d=(l[d]?).getD (.sc undef)
 | [],d=>by simp[nthJ]
 |a :: l,0=>rfl
 |a :: l,d+1=>by rw[nthJ,uY l d];simp
structure LS where
 tm:List AV
 mu:Mu
def LS.st(s:LS):St:=⟨fun i=>(s.tm[i]?).getD (.sc undef),s.mu⟩
def evJ(tm:List AV):Operand->AV
 | .tmp t=>nthJ tm t
 | .const v=>ofV v
 | .global _ => .any
 | .func f => .fn (.func f) [] []
theorem vj(s:LS):s.st.ev=evJ s.tm:=by
 funext x;cases x with
 |tmp t=>exact(uY _ _).symm
 |_=>rfl
def putJ{β:Type}(tm:List AV)(d:Option Tmp)(v:AV)(k:List AV->Option β):Option β:=match d with
 |none=>k tm
 |some d=>setJ tm d v k
theorem uZ{β:Type}{s:LS}{d:Option Tmp}{v:AV}{m:Mu}{k:List AV->Option β}{r:β}(h:putJ s.tm d v k=some r):∃ tm,k tm=some r/\tm.length=s.tm.length/\s.st.put d v m=LS.st ⟨tm,m⟩:=by
 cases d with
 |none=>exact⟨_,h,rfl,rfl⟩
 |some d =>
  obtain⟨h1,h2⟩:=Jj h;refine⟨_,h2,by simp,?_⟩;unfold LS.st St.put;simp only[St.mk.injEq,and_true];funext i;by_cases e:i=d
  .subst e;simp[h1]
  .rw [if_neg e,q9 (Ne.symm e)]
def Stps(P:Program)(pl:Pol)(det:Bool)(dst:Option Tmp)(op:Op)(ev:Operand->AV)(mu:Mu)(v:AV)(m:Mu):Prop:=∀(K Kp:AV->Mu->Prop),K v m->qk P pl det dst op ev mu K Kp
def nilV(P:Program)(op:BinOp)(t:TypeId)(x:AV):Option AV:=
 if (qp P t).isSome&&(decide (op = .eql)||decide (op = .neq)) then match x with
  | .lst _ (_ :: _) | .sl .. => some (.sc (.bool (decide (op = .neq))))
  |_=>none
 else none
def Qz(P:Program)(t:TypeId)(x:AV):Bool:=match x with
 | .lst _ xs=>match qp P t with
  |some (_,sz,_)=>xs.all fun r=>decide (r.length=sz)
  |none=>false
 |_=>true
theorem Wn{P:Program}{t:TypeId}{x:AV}(h:Qz P t x=true):w9 P t x:=by
 cases x with
 |lst f xs =>
  unfold Qz at h;split at h
  .rename_i xs' hx
   cases hx;split at h
   .rename_i e sz bt hs
    exact⟨e,sz,bt,hs,fun r hr=>of_decide_eq_true (qt.1 h r hr)⟩
   .cases h
  .rename_i hx
   exact absurd rfl (hx _ _)
 |_=>trivial
def z2(P:Program)(pl:Pol)(dst:Option Tmp)(op:Op)(ev:Operand->AV)(mu:Mu):Option AV:=
 match op with
 | .move x | .assign x=>some (ev x)
 | .pick c a b=>match ev c with
  | .sc (.bool t)=>some (if t then ev a else ev b)
  |_=>none
 | .box _ x=>if (ev x).cells.all AV.one&&!(dst.any pl.mt.contains) then some (.ip (ev x).cells) else none
 | .build t ps=>if jb P t then vL P t (ps.toList.map fun p=>(p.1,ev p.2)) else none
 | .buildSlice t n ps=>vN P t n (ps.toList.map fun p=>(p.1,ev p.2))
 | .load t a=>yR P mu t (ev a)
 | .nilCheck x=>uG (ev x)
 | .binOp op t x y _=>if jo y then nilV P op t (ev x) else jn P op t (ev x) (ev y)
 | .unOp op _ x=>aUn op (ev x)
 | .convert src d x=>if (P.underlying src).isSome then vF P src d (ev x) else none
 | .makeInterface t x=>if vV P t then some (.ifc t (ev x)) else none
 | .makeFunc f first caps=>some (.fn f (evs ev first.toList) (evs ev caps.toList))
 | .slice t x lo hi mx=>if Qz P t (ev x) then vJ P t (ev x) (lo.map ev) (hi.map ev) (mx.map ev) else none
 | .fieldAddr s x f=>vG P s f (ev x)
 | .field t x f=>vI P t f (ev x)
 | .indexAddr t x i=>vH P t (ev x) (ev i)
 | .index t x i=>uz P t (ev x) (ev i)
 | .extract t i=>uH i (ev t)
 | .typeAssert x _ t ok=>uI P t ok (ev x)
 | .lookup t m k ok=>zY P mu t (ev m) (ev k) ok
 | .entry i=>jH mu (ev i)
 | .call c=>match c.callee with
  | .builtin b=>match b with
   | .append | .copy | .delete | .clear=>none
   |b=>yU P mu b c.argTypes (evs ev c.args.toList)
  |_=>none
 |_=>none
theorem Jk{P:Program}{pl:Pol}{det:Bool}{dst:Option Tmp}{op:Op}{ev:Operand->AV}{mu:Mu}{v:AV}(h:z2 P pl dst op ev mu=some v):Stps P pl det dst op ev mu v mu:=by
 intro K Kp hk;cases op with
 |move x=>simp only[z2,qb]at h;subst h;exact hk
 |assign x=>simp only[z2,qb]at h;subst h;exact hk
 |pick c a b =>
  simp only[z2]at h;split at h
  .rename_i t ht
   cases h;exact⟨t,ht,hk⟩
  .cases h
 |box e x =>
  simp only[z2]at h;split at h
  .rename_i hc
   simp only[qe,Bool.not_eq_true']at hc;cases h;exact⟨hc.1,by rw[hc.2];exact hk⟩
  .cases h
 |build t ps =>
  simp only[z2]at h;split at h
  .rename_i hc;exact⟨hc,v,h,hk⟩
  .cases h
 |buildSlice t n ps=>exact⟨v,h,hk⟩
 |load t a=>exact⟨v,h,hk⟩
 |nilCheck x=>exact⟨v,h,hk⟩
 |binOp op t x y yt =>
  simp only[z2]at h;simp only[qk];split at h
  .rename_i hy
   rw[if_pos hy];unfold nilV at h;split at h
   .rename_i hc
    simp only[qe,yc,decide_eq_true_eq]at hc;refine⟨hc.1,hc.2,?_⟩;split at h
    .rename_i e;cases h;rw[e];exact hk
    .rename_i e;cases h;rw[e];exact hk
    .cases h
   .cases h
  .rename_i hy
   rw[if_neg hy];exact⟨v,h,hk⟩
 |unOp op t x=>exact⟨v,h,hk⟩
 |convert src d x =>
  simp only[z2]at h;split at h
  .rename_i hc;exact⟨hc,v,h,hk⟩
  .cases h
 |makeInterface t x =>
  simp only[z2]at h;split at h
  .rename_i hc;cases h;exact⟨hc,hk⟩
  .cases h
 |makeFunc f first caps=>simp only[z2,qb]at h;subst h;exact hk
 |slice t x lo hi mx =>
  simp only[z2]at h;split at h
  .rename_i hc;exact⟨Wn hc,v,h,hk⟩
  .cases h
 |fieldAddr s x f=>exact⟨v,h,hk⟩
 |field t x f=>exact⟨v,h,hk⟩
 |indexAddr t x i=>exact⟨v,h,hk⟩
 |index t x i=>exact⟨v,h,hk⟩
 |extract t i=>exact⟨v,h,hk⟩
 |typeAssert x a t ok=>exact⟨v,h,hk⟩
 |lookup t m k ok=>exact⟨v,h,hk⟩
 |entry i=>exact⟨v,h,hk⟩
 |call c =>
  simp only[z2]at h;simp only[qk];split at h
  .rename_i b hb
   rw[hb];cases b<;>first | (cases h;done)|exact⟨v,h,hk⟩
  .cases h
 |_=>cases h
def appJ(P:Program)(mu:Mu)(ats:Array TypeId)(s x:AV):Option (AV×Mu):=
 match ats with
 | ⟨[t,t']⟩=>match qp P t,qZ mu x with
  |some (e,sz,bt),some ys=>match qn P e with
   |some zv=>if (qp P t').isSome&&(decide (zv.cells.length=sz)&&(zv.cells.all AV.one&&(!decide (sz=0)&&(Nat.ble bt 16384&&ys.all fun r=>decide (r.length=sz)&&r.all AV.one)))) then
     match s with
     | .lst true xs=>if (xs.all fun r=>decide (r.length=sz)&&r.all AV.one)&&Nat.ble (xs.length+ys.length) 4294967296 then
       (match ys with | []=>some (s,mu)|_ :: _=>some (.sl mu.length sz 0 (xs.length+ys.length),mu++[.arr (xs++ys).flatten])) else none
     | .sl b sz' 0 len=>match mu[b]? with
      |some (.arr cells)=>if decide (sz'=sz)&&(Nat.ble (len*sz) cells.length&&Nat.ble (len+ys.length) 4294967296) then
        some (.sl mu.length sz 0 (len+ys.length),mu.set b .dead++[.arr (cells.take (len*sz)++ys.flatten)]) else none
      |_=>none
     |_=>none
    else none
   |none=>none
  |_,_=>none
 |_=>none
def appZ(P:Program)(mu:Mu)(ats:Array TypeId)(s x:AV):Option (AV×Mu):=
 match ats,s,x with
 | ⟨[t,tn]⟩,.lst true xs,.sc (.int .i64 (.ofNat n))=>match qp P t,P.underlying tn with
  |some (e,sz,bt),some (.int .i64)=>match qn P e with
   |some zv=>if decide (zv.cells.length=sz)&&(zv.cells.all AV.one&&(!decide (sz=0)&&(Nat.ble bt 16384&&(Nat.ble 1 n&&((xs.all fun r=>decide (r.length=sz)&&r.all AV.one)&&Nat.ble (xs.length+n) 4294967296))))) then
     some (.sl mu.length sz 0 (xs.length+n),mu++[.arr (xs.flatten++(qg (n*sz)).map fun i=>zv.cells.getD (i % sz) .any)]) else none
   |none=>none
  |_,_=>none
 |_,_,_=>none
theorem wfB{sz:Nat}{ys:List (List AV)}(h:(ys.all fun r=>decide (r.length=sz)&&r.all AV.one)=true):qK sz ys:=fun r hr=>by
 have:=qt.1 h r hr;rw[qe,decide_eq_true_eq]at this;exact this
theorem Wo{P:Program}{mu m:Mu}{ats:Array TypeId}{s x v:AV}(h:appZ P mu ats s x=some (v,m)){K:AV->Mu->Prop}(hk:K v m):qD P mu ats s x K:=by
 unfold appZ at h;split at h
 .rename_i t tn xs n
  split at h
  .rename_i e sz bt h1 h2
   split at h
   .rename_i zv h3
    split at h
    .rename_i hc
     simp only[qe,decide_eq_true_eq,Bool.not_eq_true',decide_eq_false_iff_not]at hc;obtain⟨c1,c2,c3,c4,c5,c6,c7⟩:=hc;cases h;exact .inr (.inr ⟨t,tn,e,sz,bt,zv,n,xs,rfl,h1,h2,h3,c1,c2,c3,ze c4,rfl,ze c5,rfl,wfB c6,ze c7,hk⟩)
    .cases h
   .cases h
  .cases h
 .cases h
theorem Wp{P:Program}{mu m:Mu}{ats:Array TypeId}{s x v:AV}(h:appJ P mu ats s x=some (v,m)){K:AV->Mu->Prop}(hk:K v m):qD P mu ats s x K:=by
 unfold appJ at h;split at h
 rotate_left
 .cases h
 rename_i t t';split at h
 rotate_left
 .cases h
 rename_i e sz bt ys h1 h2;split at h
 rotate_left
 .cases h
 rename_i zv h3;split at h
 rotate_left
 .cases h
 rename_i hc;simp only[qe,decide_eq_true_eq,Bool.not_eq_true',decide_eq_false_iff_not]at hc;obtain⟨c1,c2,c3,c4,c5,c6⟩:=hc;have c6:=wfB c6;refine .inl ⟨t,t',e,sz,bt,ys,rfl,h1,c1,⟨zv,h3,c2,c3⟩,c4,ze c5,h2,c6,?_⟩;split at h
 .rename_i xs
  split at h
  .rename_i hd
   rw[qe]at hd;refine .inl ⟨xs,rfl,wfB hd.1,ze hd.2,fun e=>?_,fun e=>?_⟩
   .subst e;cases h;exact hk
   .cases ys with
    |nil=>exact absurd rfl e
    |cons y ys=>cases h;exact hk
  .cases h
 .rename_i b sz' len
  split at h
  .rename_i cells hcl
   split at h
   .rename_i hd
    simp only[qe,decide_eq_true_eq]at hd;obtain⟨rfl,d2,d3⟩:=hd;cases h;exact .inr ⟨b,len,cells,rfl,hcl,ze d2,ze d3,hk⟩
   .cases h
  .cases h
 .cases h
abbrev z5:=AV->List AV->Mu->Option (AV×Mu)
def yZ(P:Program)(det:Bool)(C:z5):Prop:=∀ f args mu v m,C f args mu=some (v,m)->∀ K Kp:AV->Mu->Prop,K v m->qd P det mu f args K Kp
def QA(mu:Mu)(itv:AV):Option (AV×Mu):=
 match itv with
 | .ptr b 0=>match mu[b]? with
  |some (.it es seen)=>match (qg es.length).filter (fun i=>!seen.contains i) with
   | []=>some (.tup [.sc (.bool false)],mu)
   | [i]=>match es[i]? with
    |some e=>some (.tup [.sc (.bool true),e.1,e.2],mu.set b (.it es (seen++[i])))
    |none=>none
   |_=>none
  |_=>none
 |_=>none
theorem Wq{mu m:Mu}{itv v:AV}(h:QA mu itv=some (v,m)){K:AV->Mu->Prop}(hk:K v m):w7 mu itv K:=by
 unfold QA at h;split at h
 .rename_i b
  split at h
  .rename_i es seen hb
   have hm:∀ i,i∈(qg es.length).filter (fun i=>!seen.contains i)↔i<es.length/\i ∉ seen:=fun i=>by simp
   refine⟨b,es,seen,rfl,hb,?_⟩;split at h
   .rename_i hf
    rw[hf]at hm;cases h;refine⟨fun i e hi hn=>?_,fun _=>hk⟩;have:=(hm i).2 ⟨(qc.1 hi).1,hn⟩;simp at this
   .rename_i i hf
    rw[hf]at hm;split at h
    .rename_i e he
     cases h;refine⟨fun j x hj hn=>?_,fun hall=>?_⟩
     .have:=(hm j).2 ⟨(qc.1 hj).1,hn⟩
      rw[qV]at this;subst this;rw[he]at hj;cases hj;exact hk
     .have:=(hm i).1 (qV.2 rfl)
      exact absurd (hall i this.1) this.2
    .cases h
   .cases h
  .cases h
 .cases h
def QB(P:Program)(mu:Mu)(ats:Array TypeId)(args:List AV):Option (AV×Mu):=
 match ats,args with
 | ⟨[t,t']⟩,[.sl b sz0 off len,x]=>match qp P t,mu[b]?,qZ mu x with
  |some (e,sz,bt),some (.arr cells),some ys=>if Nat.ble (off+len*sz) cells.length&&ys.all (fun r=>decide (r.length=sz)&&r.all AV.one) then
    some (.sc (.int .i64 ((min ys.length len:Nat):Int)),mu.set b (.arr (zJ cells off (ys.take len).flatten))) else none
  |_,_,_=>none
 |_,_=>none
theorem Wr{P:Program}{mu m:Mu}{ats:Array TypeId}{args:List AV}{v:AV}(h:QB P mu ats args=some (v,m)){K:AV->Mu->Prop}(hk:K v m):jI P mu .copy ats args K:=by
 unfold QB at h;split at h
 .rename_i t t' b sz0 off len x
  split at h
  .rename_i e sz bt cells ys h1 h2 h3
   split at h
   .rename_i hc
    rw[qe]at hc;cases h;exact⟨_,_,.copy h1 h2 (ze hc.1) h3 (wfB hc.2),hk⟩
   .cases h
  .cases h
 .cases h
def y0(P:Program)(pl:Pol)(dt:Bool)(C:z5)(dst:Option Tmp)(op:Op)(ev:Operand->AV)(mu:Mu):Option (AV×Mu):=
 match op with
 | .next i str=>if dt||str then none else QA mu (ev i)
 | .alloc e=>match qn P e with
  |some z=>if z.cells.all AV.one then some (.ptr mu.length 0,mu++[.arr z.cells]) else none
  |none=>none
 | .box _ x=>if (ev x).cells.all AV.one&&dst.any pl.mt.contains then some (.ptr mu.length 0,mu++[.arr (ev x).cells]) else none
 | .store t a x=>(vE P mu t (ev a) (ev x)).map fun m=>(.sc undef,m)
 | .makeSlice t l c=>j4 P mu t (ev l) (ev c)
 | .makeMap _ r=>match r with
  |none=>some (.mp mu.length,mu++[.mp []])
  |some _=>none
 | .mapUpdate t m k v=>(j8 P mu t (ev m) (ev k) (ev v)).map fun m=>(.sc undef,m)
 | .insert t m k v=>(j8 P mu t (ev m) (ev k) (ev v)).map fun m=>(.sc undef,m)
 | .mapEntry t m k=>jG P mu t (ev m) (ev k)
 | .entryStore _ m s v=>(uE mu (ev m) (ev s) (ev v)).map fun m=>(.sc undef,m)
 | .range t m=>uF P mu t (ev m)
 | .call c=>match c.callee with
  | .value f=>C (ev f) (evs ev c.args.toList) mu
  | .builtin b=>match b with
   | .append=>match evs ev c.args.toList with
    | [s,x]=>match appJ P mu c.argTypes s x with
     |some r=>some r
     |none=>appZ P mu c.argTypes s x
    |_=>none
   | .copy=>QB P mu c.argTypes (evs ev c.args.toList)
   |_=>none
  |_=>none
 |_=>none
theorem u3{o:Option Mu}{v:AV}{m:Mu}(h:(o.map fun m=>(AV.sc undef,m))=some (v,m)):o=some m/\v = .sc undef:=by
 cases o with
 |none=>cases h
 |some x=>cases h;exact⟨rfl,rfl⟩
theorem Ws{P:Program}{pl:Pol}{det:Bool}{C:z5}(hC:yZ P det C){dst:Option Tmp}{op:Op}{ev:Operand->AV}{mu m:Mu}{v:AV}(h:y0 P pl det C dst op ev mu=some (v,m)):Stps P pl det dst op ev mu v m:=by
 intro K Kp hk;cases op with
 |alloc e =>
  simp only[y0]at h;split at h
  .rename_i z hz
   split at h
   .rename_i hc;cases h;exact⟨z,hz,hc,hk⟩
   .cases h
  .cases h
 |box e x =>
  simp only[y0]at h;split at h
  .rename_i hc
   rw[qe]at hc;cases h;exact⟨hc.1,by rw[if_pos hc.2];exact hk⟩
  .cases h
 |store t a x =>
  simp only[y0]at h;obtain⟨h',rfl⟩:=u3 h;exact⟨m,h',hk⟩
 |makeSlice t l c=>exact⟨(v,m),h,hk⟩
 |makeMap t r =>
  cases r with
  |none=>cases h;exact⟨rfl,hk⟩
  |some r=>cases h
 |mapUpdate t a k w =>
  simp only[y0]at h;obtain⟨h',rfl⟩:=u3 h;exact⟨m,h',hk⟩
 |insert t a k w =>
  simp only[y0]at h;obtain⟨h',rfl⟩:=u3 h;exact⟨m,h',hk⟩
 |mapEntry t a k=>exact⟨(v,m),h,hk⟩
 |entryStore t a s w =>
  simp only[y0]at h;obtain⟨h',rfl⟩:=u3 h;exact⟨m,h',hk⟩
 |range t a=>exact⟨(v,m),h,hk⟩
 |call c =>
  simp only[y0]at h;simp only[qk];split at h
  .rename_i f hf
   rw[hf];exact hC _ _ _ _ _ h K Kp hk
  .rename_i b hb
   rw[hb];cases b<;>try (cases h;done)
   .simp only at h⊢
    split at h
    .rename_i s x e
     refine⟨s,x,e,?_⟩;split at h
     .rename_i r hr
      cases h;exact Wp hr hk
     .exact Wo h hk
    .cases h
   .exact Wr h hk
  .cases h
 |next i str =>
  simp only[y0]at h;split at h
  .cases h
  .rename_i hc
   simp only[yc,not_or,Bool.not_eq_true]at hc;exact⟨hc.1,hc.2,Wq h hk⟩
 |_=>cases h
def u4{β:Type}(P:Program)(pl:Pol)(dt:Bool)(C:z5)(dst:Option Tmp)(op:Op)(ev:Operand->AV)(mu:Mu)(k:AV->Mu->Option β):Option β:=
 match z2 P pl dst op ev mu with
 |some v=>fV v fun v=>k v mu
 |none=>match y0 P pl dt C dst op ev mu with
  |some (v,m)=>fV v fun v=>fM m fun m=>k v m
  |none=>none
theorem Jl{β:Type}{P:Program}{pl:Pol}{det:Bool}{C:z5}(hC:yZ P det C){dst:Option Tmp}{op:Op}{ev:Operand->AV}{mu:Mu}{k:AV->Mu->Option β}{r:β}(h:u4 P pl det C dst op ev mu k=some r) :
  ∃ v m,Stps P pl det dst op ev mu v m/\k v m=some r:=by
 unfold u4 at h;split at h
 .rename_i v hv
  rw[Ji]at h;exact⟨v,mu,Jk hv,h⟩
 .split at h
  .rename_i v m hm
   rw[Ji,Qy]at h;exact⟨v,m,Ws hC hm,h⟩
  .cases h
def ub(ops:Array Oper)(tm:List AV)(o:Oper):Option Bool:=
 match o.guard with
 |none=>some true
 |some (j,want)=>match (ops[j]?).bind (·.dst) with
  |none=>some false
  |some d=>vb (nthJ tm d) want
theorem QC(ops:Array Oper)(s:LS)(o:Oper):qX ops s.st o=ub ops s.tm o:=by
 unfold qX ub;cases o.guard with
 |none=>rfl
 |some q =>
  obtain⟨j,w⟩:=q;simp only;cases (ops[j]?).bind (·.dst) with
  |none=>rfl
  |some d=>simp only[uY];rfl
def regJ(P:Program)(pl:Pol)(dt:Bool)(C:z5)(ops:Array Oper):List Oper->List AV->Mu->Option LS
 | [],tm,mu=>some ⟨tm,mu⟩
 |o :: l,tm,mu=>match ub ops tm o with
  |some true=>u4 P pl dt C o.dst o.op (evJ tm) mu fun v m=>putJ tm o.dst v fun tm=>regJ P pl dt C ops l tm m
  |some false=>putJ tm o.dst (.sc undef) fun tm=>regJ P pl dt C ops l tm mu
  |none=>none
theorem u5{P:Program}{pl:Pol}{det:Bool}{C:z5}(hC:yZ P det C){ops:Array Oper}{Q:St->Prop}{Qp:AV->St->Prop}:∀{l:List Oper} {s s':LS},regJ P pl det C ops l s.tm s.mu=some s'->Q s'.st->awpS P pl det ops l Q Qp s.st
 | [],s,s',h,hq=>by
  cases h;exact hq
 |o :: l,s,s',h,hq=>by
  unfold regJ at h;unfold awpS;rw[QC];split at h
  .rename_i hw
   obtain⟨v,m,h1,h2⟩:=Jl hC h;refine⟨true,hw,fun _=>?_,fun e=>by cases e⟩;rw[vj];refine h1 _ _ ?_;obtain⟨tm,h3,_,h4⟩:=uZ (m:=m) h2;rw[h4];exact u5 hC h3 hq
  .rename_i hw
   refine⟨false,hw,fun e=>by(cases e),fun _=>?_⟩;obtain⟨tm,h3,_,h4⟩:=uZ (m:=s.mu) h;have:s.st.mu=s.mu:=rfl;rw[this,h4];exact u5 hC h3 hq
  .cases h
def eqSc:Value->Value->Bool
 | .bool a,.bool b=>a == b
 | .int k a,.int k' b=>decide (k=k')&&decide (a=b)
 | .string a,.string b=>decide (a=b)
 | .pointer none,.pointer none=>true
 | .nilIface,.nilIface=>true
 | .nilFunc,.nilFunc=>true
 | .map none,.map none=>true
 |_,_=>false
theorem Wt{a b:Value}(h:eqSc a b=true):a=b:=by
 unfold eqSc at h;split at h
 .rw [beq_iff_eq]at h;rw[h]
 .rw [qe,decide_eq_true_eq,decide_eq_true_eq]at h;rw[h.1,h.2]
 .rw [decide_eq_true_eq]at h;rw[h]
 all_goals first|rfl|cases h
def eqLi{α:Type}(e:α->α->Bool):List α->List α->Bool
 | [],[]=>true
 |a :: l,b :: m=>e a b&&eqLi e l m
 |_,_=>false
theorem y3{α:Type}{e:α->α->Bool}(he:∀ a b,e a b=true->a=b):∀{l m:List α},eqLi e l m=true->l=m
 | [],[],_=>rfl
 |a :: l,b :: m,h=>by
  rw[eqLi,qe]at h;rw[he _ _ h.1,y3 he h.2]
 | [],_ :: _,h=>by cases h
 |_ :: _,[],h=>by cases h
def eqV:Nat->AV->AV->Bool
 | 0,_,_=>false
 |n+1,x,y=>match x,y with
  | .sc a,.sc b=>eqSc a b
  | .sl a b c d,.sl a' b' c' d'=>decide (a=a')&&(decide (b=b')&&(decide (c=c')&&decide (d=d')))
  | .ptr a b,.ptr a' b'=>decide (a=a')&&decide (b=b')
  | .mp a,.mp b=>decide (a=b)
  | .lst f xs,.lst f' ys=>f == f'&&eqLi (eqLi (eqV n)) xs ys
  | .agg a,.agg b=>eqLi (eqV n) a b
  | .tup a,.tup b=>eqLi (eqV n) a b
  | .ip a,.ip b=>eqLi (eqV n) a b
  | .im a,.im b=>eqLi (fun p q=>eqV n p.1 q.1&&eqV n p.2 q.2) a b
  |_,_=>false
theorem vn:∀{n:Nat} {x y:AV},eqV n x y=true->x=y
 | 0,_,_,h=>by cases h
 |n+1,x,y,h=>by
  have ih:∀ a b,eqV n a b=true->a=b:=fun a b h=>vn h
  unfold eqV at h;split at h
  .rw [Wt h]
  .simp only[qe,decide_eq_true_eq]at h;obtain⟨rfl,rfl,rfl,rfl⟩:=h;rfl
  .simp only[qe,decide_eq_true_eq]at h;obtain⟨rfl,rfl⟩:=h;rfl
  .rw [decide_eq_true_eq]at h;rw[h]
  .rw [qe,beq_iff_eq]at h;rw[h.1,y3 (fun a b=>y3 ih) h.2]
  .rw [y3 ih h]
  .rw [y3 ih h]
  .rw [y3 ih h]
  .rw [y3 (fun p q h=>by rw[qe]at h;exact Prod.ext (ih _ _ h.1) (ih _ _ h.2)) h]
  .cases h
def allJ{α:Type}(p:α->Bool):List α->Bool
 | []=>true
 |a :: l=>p a&&allJ p l
theorem z6{α:Type}{p:α->Bool}:∀{l:List α},allJ p l=true->∀ a,a∈l->p a=true
 | [],_,a,ha=>by cases ha
 |b :: l,h,a,ha=>by
  rw[allJ,qe]at h;rcases qz.1 ha with rfl|ha
  .exact h.1
  .exact z6 h.2 a ha
def hfB:Nat->AV->Bool
 | 0,_=>false
 |n+1,x=>match x with
  | .any | .sc _=>true
  | .lst _ xs=>allJ (allJ (hfB n)) xs
  | .agg cs | .tup cs | .ip cs=>allJ (hfB n) cs
  | .im es=>allJ (fun p=>hfB n p.1&&hfB n p.2) es
  | .fn _ a b=>allJ (hfB n) a&&allJ (hfB n) b
  | .ifc _ v=>hfB n v
  |_=>false
theorem yw:∀{n:Nat} {x:AV},hfB n x=true->HF x
 | 0,_,h=>by cases h
 |n+1,x,h=>by
  have ih:∀ l:List AV,allJ (hfB n) l=true->∀ c,c∈l->HF c:=fun l h c hc=>yw (z6 h c hc)
  unfold hfB at h;split at h
  .exact HF.any
  .exact HF.sc _
  .exact HF.lst fun r hr=>ih r (z6 h r hr)
  .exact HF.agg (ih _ h)
  .exact HF.tup (ih _ h)
  .exact HF.ip (ih _ h)
  .exact HF.im fun p hp=>by
    have:=z6 h p hp;rw[qe]at this;exact⟨yw this.1,yw this.2⟩
  .rw [qe]at h
   exact HF.fn (ih _ h.1) (ih _ h.2)
  .exact HF.ifc (yw h)
  .cases h
def flB:Nat->AV->Bool
 | 0,_=>false
 |n+1,x=>match x with
  | .sc _=>true
  | .agg cs | .tup cs=>allJ (flB n) cs
  | .ifc _ v=>flB n v
  |_=>false
theorem QD:∀{n:Nat} {x:AV},flB n x=true->FL x
 | 0,_,h=>by cases h
 |n+1,x,h=>by
  have ih:∀ l:List AV,allJ (flB n) l=true->∀ c,c∈l->FL c:=fun l h c hc=>QD (z6 h c hc)
  unfold flB at h;split at h
  .exact FL.sc _
  .exact FL.agg (ih _ h)
  .exact FL.tup (ih _ h)
  .exact FL.ifc (QD h)
  .cases h
def mapJ{α γ:Type}(f:α->Option γ):List α->Option (List γ)
 | []=>some []
 |a :: l=>match f a with
  |some b=>match mapJ f l with
   |some m=>some (b :: m)
   |none=>none
  |none=>none
theorem jN{α γ:Type}{f:α->Option γ}:∀{l:List α} {m:List γ},mapJ f l=some m->m.length=l.length/\∀(k:Nat) x y,l[k]?=some x->m[k]?=some y->f x=some y
 | [],m,h=>by cases h;exact⟨rfl,fun k x y hx=>by simp at hx⟩
 |a :: l,m,h=>by
  unfold mapJ at h;split at h
  .rename_i b hb
   split at h
   .rename_i m' hm
    cases h;obtain⟨h1,h2⟩:=jN hm;refine⟨by simp[h1],fun k x y hx hy=>?_⟩;cases k with
    |zero=>simp at hx hy;subst hx;subst hy;exact hb
    |succ k=>exact h2 k x y (by simpa using hx) (by simpa using hy)
   .cases h
  .cases h
theorem QE{f:AV->Option AV}{xs ys:List (List AV)}(h:mapJ (mapJ f) xs=some ys):(∀(k:Nat) x y,xs[k]?=some x->ys[k]?=some y->x.length=y.length)/\∀(k:Nat) x y,xs.flatten[k]?=some x->ys.flatten[k]?=some y->f x=some y:=by
 induction xs generalizing ys with
 |nil=>cases h;exact⟨fun k x y hx=>by simp at hx,fun k x y hx=>by simp at hx⟩
 |cons a l ih =>
  unfold mapJ at h;split at h
  .rename_i b hb
   split at h
   .rename_i m hm
    cases h;obtain⟨h1,h2⟩:=ih hm;obtain⟨g1,g2⟩:=jN hb;refine⟨fun k x y hx hy=>?_,fun k x y hx hy=>?_⟩
    .cases k with
     |zero=>simp at hx hy;subst hx;subst hy;exact g1.symm
     |succ k=>exact h1 k x y (by simpa using hx) (by simpa using hy)
    .rw [yo]at hx hy
     by_cases hk:k<a.length
     .rw [qh hk]at hx
      rw[qh (by omega)]at hy;exact g2 k x y hx hy
     .rw [qB (by omega)]at hx
      rw[qB (by omega),g1]at hy;exact h2 _ x y hx hy
   .cases h
  .cases h
def y4(sz:Nat):Nat->List AV->List (List AV)
 | 0,_=>[]
 |n+1,l=>l.take sz :: y4 sz n (l.drop sz)
theorem Jm(sz:Nat):∀(n:Nat) (l:List AV),n*sz<=l.length->(y4 sz n l).length=n/\(∀ r,r∈y4 sz n l->r.length=sz)/\(y4 sz n l).flatten=l.take (n*sz)
 | 0,l,_=>⟨rfl,(fun r hr=>by cases hr),by simp[y4]⟩
 |n+1,l,h=>by
  have e:(n+1)*sz=sz+n*sz:=by rw[Nat.succ_mul,Nat.add_comm]
  rw[e]at h⊢;obtain⟨h1,h2,h3⟩:=Jm sz n (l.drop sz) (by simp;omega);refine⟨by simp[y4,h1],fun r hr=>?_,?_⟩
  .rcases qz.1 hr with rfl|hr
   .simp;omega
   .exact h2 r hr
  .rw [y4,yo,h3]
   exact(List.take_add).symm
def rdV(mu:Mu):Nat->AV->Option AV
 | 0,_=>none
 |n+1,x=>if hfB 64 x then some x else match x with
  | .sl b sz off len=>match mu[b]? with
   |some (.arr cells)=>if Nat.ble (off+len*sz) cells.length then (mapJ (mapJ (rdV mu n)) (y4 sz len (cells.drop off))).map (.lst false) else none
   |_=>none
  | .ptr b off=>match mu[b]? with
   |some (.arr cells)=>if Nat.ble off cells.length then (mapJ (rdV mu n) (cells.drop off)).map .ip else none
   |_=>none
  | .agg cs=>(mapJ (rdV mu n) cs).map .agg
  | .tup cs=>(mapJ (rdV mu n) cs).map .tup
  | .lst f xs=>(mapJ (mapJ (rdV mu n)) xs).map (.lst f)
  | .fn f a c=>match mapJ (rdV mu n) a,mapJ (rdV mu n) c with
   |some a,some c=>some (.fn f a c)
   |_,_=>none
  | .mp b=>match mu[b]? with
   |some (.mp es)=>(mapJ (fun p=>match rdV mu n p.1,rdV mu n p.2 with|some x,some y=>some (x,y)|_,_=>none) es).map .im
   |_=>none
  | .ifc t v=>(rdV mu n v).map (.ifc t)
  |_=>none
theorem QF{mu:Mu}:∀{n:Nat} {x y:AV},rdV mu n x=some y->Rd mu x y
 | 0,_,_,h=>by cases h
 |n+1,x,y,h=>by
  have ih:∀ a b,rdV mu n a=some b->Rd mu a b:=fun a b h=>QF h
  have iL:∀{l m:List AV},mapJ (rdV mu n) l=some m->m.length=l.length/\∀(k:Nat) x y,l[k]?=some x->m[k]?=some y->Rd mu x y:=fun h=>⟨(jN h).1,fun k x y hx hy=>ih _ _ ((jN h).2 k x y hx hy)⟩
  unfold rdV at h;by_cases hh:hfB 64 x=true
  .rw [if_pos hh]at h
   cases h;exact .hf _ (yw hh)
  rw[if_neg hh]at h;clear hh;split at h
  .rename_i b sz off len
   split at h
   .rename_i cells hc
    split at h
    .rename_i hl
     have hl:=ze hl;rw[zj]at h;obtain⟨ys,hy,rfl⟩:=h;obtain⟨c1,c2,c3⟩:=Jm sz len (cells.drop off) (by simp;omega);obtain⟨r1,r2⟩:=QE hy;have hlen:=(jN hy).1;refine .sl b sz off len cells ys hc hl (by rw[hlen,c1]) (fun r hr=>?_) fun k x y hx hy'=>?_
     .obtain ⟨k,hk,rfl⟩:=wD hr
      have hk2:k<(y4 sz len (cells.drop off)).length:=by omega
      have:=r1 k _ _ (qs hk2) (qs hk);rw[<-this];exact c2 _ (qY hk2)
     .refine ih _ _ (r2 k x y ?_ hy')
      have hfl:=ZY (xs:=y4 sz len (cells.drop off)) (ys:=ys) hlen r1;have hk:k<ys.flatten.length:=(qc.1 hy').1;rw[<-hfl,c3]at hk;rw[c3,zu,if_pos (by simp at hk;omega),zH];exact hx
    .cases h
   .cases h
  .rename_i b off
   split at h
   .rename_i cells hc
    split at h
    .rename_i hl
     have hl:=ze hl;rw[zj]at h;obtain⟨ys,hy,rfl⟩:=h;obtain⟨h1,h2⟩:=iL hy;refine .ptr b off cells ys hc (by simp at h1;omega) fun k x y hx hy'=>h2 k x y (by rw[zH];exact hx) hy'
    .cases h
   .cases h
  .rw [zj]at h
   obtain⟨ys,hy,rfl⟩:=h;exact .agg _ _ (iL hy).1 (iL hy).2
  .rw [zj]at h
   obtain⟨ys,hy,rfl⟩:=h;exact .tup _ _ (iL hy).1 (iL hy).2
  .rw [zj]at h
   obtain⟨ys,hy,rfl⟩:=h;exact .lst _ _ _ (jN hy).1 (QE hy).1 fun k x y hx hy'=>ih _ _ ((QE hy).2 k x y hx hy')
  .split at h
   .rename_i a c ha hc
    cases h;exact .fn _ _ _ _ _ (iL ha).1 (iL hc).1 (iL ha).2 (iL hc).2
   .cases h
  .split at h
   .rename_i es hc
    rw[zj]at h;obtain⟨fs,hy,rfl⟩:=h;obtain⟨h1,h2⟩:=jN hy;have h3:∀(k:Nat) x y,es[k]?=some x->fs[k]?=some y->Rd mu x.1 y.1/\Rd mu x.2 y.2:=fun k x y hx hy'=>by
     have:=h2 k x y hx hy';split at this
     .rename_i a b ha hb
      cases this;exact⟨ih _ _ ha,ih _ _ hb⟩
     .cases this
    exact .mp _ es fs hc h1 (fun k x y hx hy'=>(h3 k x y hx hy').1) fun k x y hx hy'=>(h3 k x y hx hy').2
   .cases h
  .rw [zj]at h
   obtain⟨ys,hy,rfl⟩:=h;exact .ifc _ _ _ (ih _ _ hy)
  .cases h
abbrev FunJ:=FuncId->List AV->Mu->Option (AV×Mu)
def uc(P:Program)(F:FunJ):Prop:=∀ f args mu v m,F f args mu=some (v,m)->qE P f args mu fun e mu'=>e = .ret v/\mu'=m
def seqC(F:FunJ):z5:=fun f args mu=>match f with
 | .fn (.func g) first caps=>F g (first++args++caps) mu
 |_=>none
theorem Wu{l:List AV}(h:allJ (hfB 64) l=true):WKs l l:=by
 induction l with
 |nil=>trivial
 |cons a l ih =>
  rw[allJ,qe]at h;exact⟨.hf (yw h.1),ih h.2⟩
theorem Wv{P:Program}{F:FunJ}(hF:uc P F):yZ P false (seqC F):=by
 intro f args mu v m h K Kp hk;unfold seqC at h;split at h
 .rename_i g first caps
  refine .inr ⟨rfl,.inl ⟨g,first,caps,_,rfl,hF _ _ _ _ _ h,fun r mu' hr=>?_,fun r mu' hr=>?_⟩⟩
  .obtain ⟨h1,rfl⟩:=hr
   cases h1;exact hk
  .obtain ⟨h1,_⟩:=hr
   cases h1
 .cases h
def detC(F:FunJ):z5:=fun f args mu=>match f with
 | .fn (.func g) first caps=>if allJ (hfB 64) (first++args++caps) then
   match F g (first++args++caps) [] with
   |some (v,m)=>match rdV m 64 v with
    |some w=>some (w,mu)
    |none=>none
   |none=>none
  else match mapJ (rdV mu 64) (first++args++caps) with
   |some l=>match F g l [] with
    |some (v,m)=>match rdV m 64 v with
     |some w=>if flB 64 w then some (w,mu) else none
     |none=>none
    |none=>none
   |none=>none
 |_=>none
theorem Jn{mu:Mu}:∀{l m:List AV},mapJ (rdV mu 64) l=some m->Rds mu l m
 | [],m,h=>by cases h;trivial
 |a :: l,m,h=>by
  unfold mapJ at h;split at h
  .rename_i b hb
   split at h
   .rename_i m' hm
    cases h;exact⟨QF hb,Jn hm⟩
   .cases h
  .cases h
theorem sndP{P:Program}{F:FunJ}(hF:uc P F){f:FuncId}{args:List AV}{v w:AV}{m:Mu}(h:F f args []=some (v,m))(hr:rdV m 64 v=some w):qf P f args w:=by
 refine qf.of_sound ?_;obtain⟨h1,h2⟩:=hF _ _ _ _ _ h;refine⟨h1,fun G w' vs s ra=>(h2 G w' vs s ra).mono fun e w2 ⟨G',mu',st,hR⟩=>⟨G',mu',st,?_⟩⟩;rcases hR with ⟨r,u,⟨e1,e2⟩,h3⟩|⟨r,u,⟨e1,e2⟩,h3⟩
 .cases e1
  subst e2;exact .inl ⟨_,u,⟨_,rfl,QF hr⟩,h3⟩
 .cases e1
theorem Ww{P:Program}{F:FunJ}(hF:uc P F):yZ P true (detC F):=by
 intro f args mu v m h K Kp hk;unfold detC at h;split at h
 .rename_i g first caps
  split at h
  .rename_i hh
   split at h
   .rename_i v' m' hv
    split at h
    .rename_i w hw
     cases h;exact .inl ⟨_,.inl ⟨g,first,caps,_,rfl,sndP hF hv hw,.inl (Wu hh)⟩,hk⟩
    .cases h
   .cases h
  .split at h
   .rename_i l hl
    split at h
    .rename_i v' m' hv
     split at h
     .rename_i w hw
      split at h
      .rename_i hf
       cases h;exact .inl ⟨_,.inl ⟨g,first,caps,_,rfl,sndP hF hv hw,.inr ⟨Jn hl,QD hf⟩⟩,hk⟩
      .cases h
     .cases h
    .cases h
   .cases h
 .cases h
def noC:z5:=fun _ _ _=>none
theorem Wx{P:Program}{det:Bool}:yZ P det noC:=fun _ _ _ _ _ h=>by cases h
def u6(P:Program)(pl:Pol)(ops:Array Oper)(tm:List AV)(mu:Mu):List Nat->Bool
 | []=>true
 |p :: l=>(match ops[p]? with
  |some o=>match ub ops tm o with
   |some true=>match o.dst with
    |some d=>match z2 P pl o.dst o.op (evJ tm) mu with
     |some v=>eqV 64 v (nthJ tm d)
     |none=>false
    |none=>false
   |some false=>true
   |none=>false
  |none=>true)&&u6 P pl ops tm mu l
theorem Jo{P:Program}{pl:Pol}{ops:Array Oper}{s:LS}:∀{l:List Nat},u6 P pl ops s.tm s.mu l=true->yv P pl ops l s.st
 | [],_=>trivial
 |p :: l,h=>by
  unfold u6 at h;rw[qe]at h;refine⟨?_,Jo h.2⟩;have h1:=h.1;split at h1
  .rename_i o ho
   rw[ho];simp only;rw[QC];split at h1
   .rename_i hw
    refine⟨true,hw,fun _=>?_,fun e=>by cases e⟩;split at h1
    .rename_i d hd
     split at h1
     .rename_i v hv
      show jK P pl o s.st;unfold jK;rw[vj];refine Jk hv _ _ ?_;rw[hd];refine⟨?_,rfl⟩;rw[vn h1,uY];rfl
     .cases h1
    .cases h1
   .rename_i hw
    exact⟨false,hw,fun e=>by(cases e),fun _=>trivial⟩
   .cases h1
  .rename_i ho
   rw[ho];trivial
def newJ(P:Program)(ops:Array Oper):List (Nat×Nat×List Nat)->Bool
 | []=>true
 | (j,k,_) :: T=>(match k,ops[j]? with
  | 2,some o=>(match o.op with
   | .alloc e=>match qn P e with
    |some z=>z.cells.all AV.one
    |none=>false
   |_=>false)
  |_,_=>true)&&newJ P ops T
theorem Jp{P:Program}{ops:Array Oper}:∀{T:List (Nat×Nat×List Nat)},newJ P ops T=true->yX P ops T
 | [],_=>trivial
 | (j,k,r) :: T,h=>by
  unfold newJ at h;rw[qe]at h;refine⟨?_,Jp h.2⟩;have h1:=h.1;by_cases hk:k=2
  .subst hk
   cases ho:ops[j]? with
   |none=>trivial
   |some o =>
    rw[ho]at h1;simp only at h1⊢;cases hop:o.op<;>rw[hop]at h1<;>simp only at h1⊢<;>try (cases h1;done)
    split at h1
    .rename_i z hz;exact⟨z,hz,h1⟩
    .cases h1
  .cases ho:ops[j]?<;>simp[hk]
def segJ(P:Program)(pl:Pol)(C:z5)(ops:Array Oper):List (Nat×Nat×List Nat)->List AV->Mu->Option LS
 | [],tm,mu=>some ⟨tm,mu⟩
 | (j,k,r) :: T,tm,mu=>match ops[j]? with
  |none=>none
  |some o=>match ub ops tm o with
   |some true=>u4 P pl (k != 1) (if k=1 then C else noC) o.dst o.op (evJ tm) mu fun v m=>putJ tm o.dst v fun tm=>if u6 P pl ops tm m r then segJ P pl C ops T tm m else none
   |some false=>putJ tm o.dst (.sc undef) fun tm=>segJ P pl C ops T tm mu
   |none=>none
theorem QG{P:Program}{pl:Pol}{C:z5}(hC:yZ P false C){ops:Array Oper}{Q:St->Prop}{Qp:AV->St->Prop}:∀{T:List (Nat×Nat×List Nat)} {s s':LS},segJ P pl C ops T s.tm s.mu=some s'->Q s'.st->awpT P pl ops Q Qp T s.st
 | [],s,s',h,hq=>by cases h;exact hq
 | (j,k,r) :: T,s,s',h,hq=>by
  unfold segJ at h;unfold awpT;split at h
  .cases h
  .rename_i o ho
   rw[ho];simp only;have hk:yZ P (k != 1) (if k=1 then C else noC):=by
    by_cases e:k=1
    .subst e;exact hC
    .rw [if_neg e];exact Wx
   rw[QC];split at h
   .rename_i hw
    obtain⟨v,m,h1,h2⟩:=Jl hk h;refine⟨true,hw,fun _=>?_,fun e=>by cases e⟩;rw[vj];refine h1 _ _ ?_;obtain⟨tm,h3,_,h4⟩:=uZ (m:=m) h2;rw[h4];split at h3
    .rename_i hr
     exact⟨Jo (s:=⟨tm,m⟩) hr,QG hC h3 hq⟩
    .cases h3
   .rename_i hw
    refine⟨false,hw,fun e=>by(cases e),fun _=>?_⟩;obtain⟨tm,h3,_,h4⟩:=uZ (m:=s.mu) h;have:s.st.mu=s.mu:=rfl;rw[this,h4];exact QG hC h3 hq
   .cases h
def jO(pl:Pol)(ops:Array Oper):Nat->List Nat->List Nat
 | 0,pre=>pre
 |f+1,pre =>
  let rest:=(qg ops.size).filter fun i=>!pre.contains i
  let deps (j:Nat):Bool:=(qg ops.size).all fun i=>match qq ops i with|some d=>!qS ops j d||pre.contains i|none=>true
  let ord (j:Nat):Bool:=pre.all fun i=>qF pl ops i == 0||(qL ops j).testBit i
  match rest.find? fun j=>qF pl ops j == 0&&(deps j&&ord j) with
  |some j=>jO pl ops f (pre++[j])
  |none=>match rest.find? fun j=>qF pl ops j == 1&&(deps j&&ord j) with
   |some j=>if (rest.filter fun k=>qF pl ops k == 2&&(qL ops j).testBit k).isEmpty then jO pl ops f (pre++[j]) else
    match rest.find? fun k=>qF pl ops k == 2&&(qL ops j).testBit k with
    |some k=>jO pl ops f (pre++[k])
    |none=>pre
   |none=>match rest.find? fun j=>qF pl ops j == 2 with
    |some j=>jO pl ops f (pre++[j])
    |none=>pre
def QH(P:Program)(pl:Pol)(C D:z5)(ops:Array Oper)(tm:List AV)(mu:Mu):Option LS:=
 match (if vX pl ops then regJ P pl true D ops ops.toList tm mu else none) with
 |some s=>some s
 |none=>if v6 pl ops (jO pl ops (ops.size+1) [])&&newJ P ops (plan pl ops [] (jO pl ops (ops.size+1) [])) then segJ P pl C ops (plan pl ops [] (jO pl ops (ops.size+1) [])) tm mu else none
theorem Wy{P:Program}{pl:Pol}{C D:z5}(hC:yZ P false C)(hD:yZ P true D){ops:Array Oper}{Q:St->Prop}{Qp:AV->St->Prop}{s s':LS}(h:QH P pl C D ops s.tm s.mu=some s')(hq:Q s'.st):uU P pl ops Q Qp s.st:=by
 unfold QH at h;split at h
 .rename_i s1 h1
  cases h;split at h1
  .rename_i hok
   exact .inl (.inl (.inl ⟨hok,u5 hD h1 hq⟩))
  .cases h1
 .split at h
  .rename_i hok
   rw[qe]at hok;exact .inr ⟨_,hok.1,Jp hok.2,QG hC h hq⟩
  .cases h
abbrev zL:=FunJ->List AV->Mu->Option (AV×Mu)
structure EnvJ where
 S:FuncId->Option zL
 N:FuncId->List AV->Bool
 pol:FuncId->List Nat
 cal:FuncId->Bool
def zU(P:Program)(f:FuncId)(h:zL):Prop:=∀ F,uc P F->∀ args mu v m,h F args mu=some (v,m)->qE P f args mu fun e mu'=>e = .ret v/\mu'=m
def jP(P:Program)(E:EnvJ):Prop:=(∀ f h,E.S f=some h->zU P f h)/\(∀ f,E.cal f=true->zn P f)/\∀ f caps,E.N f caps=true->Qr P f caps []
def nV:Nat->AV->AV
 | 0,x=>x
 |n+1,x=>match x with
  | .lst _ xs => .lst false (xs.map (List.map (nV n)))
  | .agg cs => .agg (cs.map (nV n))
  | .tup cs => .tup (cs.map (nV n))
  | .ip cs => .ip (cs.map (nV n))
  |x=>x
theorem QI:∀(m k:Nat) (x:AV),hfB k x=true->WK x (nV m x)
 | 0,k,x,h => .hf (yw h)
 |m+1,0,x,h=>by cases h
 |m+1,k+1,x,h=>by
  have ih:∀ c,hfB k c=true->WK c (nV m c):=fun c hc=>QI m k c hc
  have hx:=yw h;have key:∀(cs:List AV),(∀ c,c∈cs->hfB k c=true)->∀(i:Nat) y,(cs.map (nV m))[i]?=some y->∃ c,cs[i]?=some c/\WK c y:=fun cs hc i y hy=>by
   rw[qW,zj]at hy;obtain⟨c,h1,rfl⟩:=hy;exact⟨c,h1,ih c (hc c (qC h1))⟩
  unfold hfB at h;intro G hp v r;unfold nV;cases x with
  |lst f xs =>
   simp only at h⊢;have hall:∀ c,c∈xs.flatten->hfB k c=true:=fun c hc=>by
    obtain⟨row,h1,h2⟩:=wE.1 hc;exact z6 (z6 h row h1) c h2
   cases r with
   |nil=>exact .nil _
   |emp _ a cap hc=>exact .emp false a cap (by simp)
   |lst _ _ sz a cap cs e fr rd hb hs hl hc hi hz hr hv =>
    have efl:(xs.map (List.map (nV m))).flatten=xs.flatten.map (nV m):=(List.map_flatten ..).symm;have:=VRel.lst (G:=⟨G.imm,[]⟩) (h:=hp) false (xs.map (List.map (nV m))) sz a cap cs e fr rd hb hs (by simpa using hl) (by simp) hi (fun q hq=>by
     obtain⟨q',h1,rfl⟩:=qr.1 hq;rw[zr];exact hz q' h1) (fun i y hy=>by
     rw[efl]at hy;obtain⟨c,h1,_⟩:=key _ hall i y hy;exact hr i c h1) (fun i y hy=>by
     rw[efl]at hy;obtain⟨c,h1,h2⟩:=key _ hall i y hy;exact h2 G hp _ (hv i c h1))
    rw[zr]at this;exact this
  |agg cs =>
   simp only at h⊢;cases r with
   |agg _ vs hn hv =>
    refine .agg _ _ (by simpa using hn) fun i y hy=>?_
    obtain⟨c,h1,h2⟩:=key cs (fun c hc=>z6 h c hc) i y hy;exact h2 G hp _ (hv i c h1)
  |tup cs =>
   simp only at h⊢;cases r with
   |tup _ vs hn hv =>
    refine .tup _ _ (by simpa using hn) fun i y hy=>?_
    obtain⟨c,h1,h2⟩:=key cs (fun c hc=>z6 h c hc) i y hy;exact h2 G hp _ (hv i c h1)
  |ip cs =>
   simp only at h⊢;cases r with
   |ip _ a arr e fr rd hb hs hi hr hv =>
    refine .ip _ a arr e fr rd hb hs hi (fun i y hy=>?_) fun i y hy=>?_
    .obtain ⟨c,h1,_⟩:=key cs (fun c hc=>z6 h c hc) i y hy
     exact hr i c h1
    .obtain ⟨c,h1,h2⟩:=key cs (fun c hc=>z6 h c hc) i y hy
     exact h2 G hp _ (hv i c h1)
  |_=>exact hx G hp v r
theorem Jq:∀{l:List AV},allJ (hfB 64) l=true->WKs l (l.map (nV 64))
 | [],_=>trivial
 |a :: l,h=>by
  rw[allJ,qe]at h;exact⟨QI 64 64 a h.1,Jq h.2⟩
def yx(X:List AV->Option AV):zL:=fun _ args mu=>if allJ (hfB 64) args then
  match X (args.map (nV 64)) with
  |some v=>some (v,mu)
  |none=>none
 else none
theorem ud{P:Program}{f:FuncId}{X:List AV->Option AV}(h:∀ args v,X args=some v->qf P f args v):zU P f (yx X):=by
 intro F hF args mu v m hv;unfold yx at hv;split at hv
 .rename_i hh
  split at hv
  .rename_i w hw
   cases hv;exact(h _ _ hw).toSound mu (Jq hh)
  .cases hv
 .cases hv
def tabX:List (List AV×AV)->List AV->Option AV
 | [],_=>none
 |p :: l,args=>if eqLi (eqV 64) (p.1.map (nV 64)) args then some p.2 else tabX l args
theorem ue{P:Program}{f:FuncId}:∀{l:List (List AV×AV)},(∀ p,p∈l->qf P f (p.1.map (nV 64)) p.2)->∀ args v,tabX l args=some v->qf P f args v
 | [],_,_,_,h=>by cases h
 |p :: l,hp,args,v,h=>by
  unfold tabX at h;split at h
  .rename_i he
   cases h;rw[<-y3 (fun a b h=>vn h) he];exact hp p (yz ..)
  .exact ue (fun q hq=>hp q (List.mem_cons_of_mem _ hq)) args v h
structure RT where
 c:Pol->Code->List AV->Mu->Option (qv×LS)
 f:FunJ
def je(P:Program)(E:EnvJ)(R:RT)(pl:Pol)(c:Code)(tm:List AV)(mu:Mu):Option (qv×LS):=
 match c with
 | .skip=>some (.normal,⟨tm,mu⟩)
 | .label _=>some (.normal,⟨tm,mu⟩)
 | .region _ ops draw=>match (match draw with
   |false=>regJ P pl false (seqC R.f) ops ops.toList tm mu
   |true=>QH P pl (seqC R.f) (detC R.f) ops tm mu) with
  |some s=>some (.normal,s)
  |none=>none
 | .seq a b=>match R.c pl a tm mu with
  |some (.normal,s)=>R.c pl b s.tm s.mu
  |r=>r
 | .cond c a b=>match evJ tm c with
  | .sc (.bool true)=>R.c pl a tm mu
  | .sc (.bool false)=>R.c pl b tm mu
  |_=>none
 | .block id b=>match R.c pl b tm mu with
  |some (.exit i,s)=>if i=id then some (.normal,s) else some (.exit i,s)
  |r=>r
 | .loop b=>match R.c pl b tm mu with
  |some (.normal,s)=>R.c pl (.loop b) s.tm s.mu
  |r=>r
 | .exit id=>some (.exit id,⟨tm,mu⟩)
 | .ret=>some (.ret,⟨tm,mu⟩)
 | .scope b=>R.c pl b tm mu
 | .rangeFunc g _ _ _=>match evJ tm g with
  | .fn (.func gf) [] caps=>if E.N gf caps then fM (mu++[.dead]) fun mu=>some (.normal,⟨tm,mu⟩) else none
  |_=>none
 |_=>none
def funJ(P:Program)(E:EnvJ)(R:RT):FunJ:=fun f args mu=>match E.S f with
 |some h=>h R.f args mu
 |none=>match P.funcs[f]? with
  |some fn=>match fn.body with
   |some c=>if E.cal f&&(Nat.ble args.length fn.ntmps&&dOkC fn.ntmps c) then
     match R.c ⟨E.pol f⟩ c (args++yO (fn.ntmps-args.length) (.sc undef)) mu with
     |some (.normal,s)=>match zT P s.st fn.results.toList with
      |some r=>some (r,s.mu)
      |none=>none
     |some (.ret,s)=>match zT P s.st fn.results.toList with
      |some r=>some (r,s.mu)
      |none=>none
     |_=>none
    else none
   |none=>none
  |none=>none
def runJ(P:Program)(E:EnvJ):Nat->RT
 | 0=>⟨fun _ _ _ _=>none,fun _ _ _=>none⟩
 |n+1=>⟨je P E (runJ P E n),funJ P E (runJ P E n)⟩
def Wz(P:Program)(R:RT):Prop:=∀ pl c tm mu e s',R.c pl c tm mu=some (e,s')->∀ Q:qv->St->Prop,Q e s'.st->awp P pl c Q (LS.st ⟨tm,mu⟩)
theorem WA(args:List AV)(k:Nat)(mu:Mu):LS.st ⟨args++yO k (.sc undef),mu⟩=st0 args mu:=by
 unfold LS.st st0;congr 1;funext i;by_cases h:i<args.length
 .rw [qh h]
 .rw [qB (by omega),ym (l:=args) (by omega),List.getElem?_replicate]
  split<;>rfl
theorem u7{P:Program}{E:EnvJ}(hE:jP P E):∀ N n,n<=N->Wz P (runJ P E n)/\uc P (runJ P E n).f
 | 0,n,hn=>by
  obtain rfl:n=0:=by omega
  exact⟨(fun _ _ _ _ _ _ h=>by cases h),(fun _ _ _ _ _ h=>by cases h)⟩
 | N+1,n,hn=>by
  by_cases h0:n<=N
  .exact u7 hE N n h0
  obtain rfl:n=N+1:=by omega
  obtain⟨ihc,ihf⟩:=u7 hE N N (qu _);have hS:=Wv ihf;have hD:=Ww ihf;refine⟨?_,?_⟩
  .intro pl c tm mu e s' h Q hq
   change je P E (runJ P E N) pl c tm mu=some (e,s') at h;cases c with
   |skip=>cases h;exact hq
   |label l=>cases h;exact hq
   |exit id=>cases h;exact hq
   |ret=>cases h;exact hq
   |region id ops draw =>
    simp only[je]at h;cases draw with
    |false =>
     simp only at h;split at h
     .rename_i s hs
      cases h;exact .inl ⟨rfl,u5 (s:=⟨tm,mu⟩) hS hs hq⟩
     .cases h
    |true =>
     simp only at h;split at h
     .rename_i s hs
      cases h;exact .inr ⟨rfl,_,.refl _,Wy (s:=⟨tm,mu⟩) hS hD hs hq⟩
     .cases h
   |seq a b =>
    simp only[je]at h;split at h
    .rename_i s hs
     exact ihc _ _ _ _ _ _ hs _ (ihc _ _ _ _ _ _ h _ hq)
    .rename_i hne
     refine ihc _ _ _ _ _ _ h _ ?_;cases e with
     |normal=>exact absurd h (hne s')
     |_=>exact hq
   |cond c a b =>
    simp only[je]at h;split at h
    .rename_i hc
     exact⟨true,by rw[vj];exact hc,(fun _=>ihc _ _ _ _ _ _ h _ hq),(fun e=>by cases e)⟩
    .rename_i hc
     exact⟨false,by rw[vj];exact hc,(fun e=>by cases e),(fun _=>ihc _ _ _ _ _ _ h _ hq)⟩
    .cases h
   |block id b =>
    simp only[je]at h;split at h
    .rename_i i s hs
     refine ihc _ _ _ _ _ _ hs _ ?_;show if i=id then _ else _
     split at h
     .rename_i e1;cases h;rw[if_pos e1];exact hq
     .rename_i e1;cases h;rw[if_neg e1];exact hq
    .rename_i hne
     refine ihc _ _ _ _ _ _ h _ ?_;cases e with
     |exit i=>exact absurd h (hne i s')
     |_=>exact hq
   |loop b =>
    refine⟨false,fun k st=>k<=N+1/\∃ tm mu,st=LS.st ⟨tm,mu⟩/\(runJ P E k).c pl (.loop b) tm mu=some (e,s'),N+1,_,.refl _,⟨qu _,tm,mu,rfl,h⟩,?_⟩;rintro k st ⟨hk,tm1,mu1,rfl,h1⟩;cases k with
    |zero=>cases h1
    |succ k =>
     obtain⟨ic,_⟩:=u7 hE N k (by omega);change je P E (runJ P E k) pl (.loop b) tm1 mu1=some (e,s') at h1;simp only[je]at h1;split at h1
     .rename_i s hs
      exact ic _ _ _ _ _ _ hs _ ⟨k,by omega,by omega,s.tm,s.mu,rfl,h1⟩
     .rename_i hne
      refine ic _ _ _ _ _ _ h1 _ ?_;cases e with
      |normal=>exact absurd h1 (hne s')
      |_=>exact hq
   |scope b=>exact ihc _ _ _ _ _ _ h _ hq
   |rangeFunc g ps aas body =>
    simp only[je]at h;split at h
    .rename_i gf caps hg
     split at h
     .rename_i hN
      rw[Qy]at h;cases h;refine⟨false,gf,caps,[],fun _ m=>m=mu++[.dead],fun _ _=>False,by rw[vj];exact hg,.inr (hE.2.2 gf caps hN),rfl,fun k x m hx=>by simp at hx,fun m hm=>?_,fun _ _ hf=>hf.elim⟩;subst hm;exact hq
     .cases h
    .cases h
   |_=>cases h
  .intro f args mu v m h
   change funJ P E (runJ P E N) f args mu=some (v,m) at h;unfold funJ at h;split at h
   .rename_i hk hh
    exact hE.1 f hk hh _ ihf _ _ _ _ h
   split at h
   .rename_i fn hfn
    split at h
    .rename_i c hc
     split at h
     .rename_i hok
      simp only[qe]at hok;refine qE.of_awp (hE.2.1 f hok.1) hfn hc (ze hok.2.1) hok.2.2 (pl:=⟨E.pol f⟩) ?_;rw[<-WA args (fn.ntmps-args.length) mu];split at h
      .rename_i s hs
       refine ihc _ _ _ _ _ _ hs _ ?_;split at h
       .rename_i r hr;cases h;exact⟨_,hr,rfl,rfl⟩
       .cases h
      .rename_i s hs
       refine ihc _ _ _ _ _ _ hs _ ?_;split at h
       .rename_i r hr;cases h;exact⟨_,hr,rfl,rfl⟩
       .cases h
      .cases h
     .cases h
    .cases h
   .cases h
def uf(P:Program)(E:EnvJ)(n:Nat)(f:FuncId)(args:List AV):Option AV:=match (runJ P E n).f f args [] with
 |some (v,m)=>rdV m 64 v
 |none=>none
theorem QJ{P:Program}{E:EnvJ}(hE:jP P E){n:Nat}{f:FuncId}{args:List AV}{v:AV}(h:uf P E n f args=some v):qf P f args v:=by
 unfold uf at h;split at h
 .rename_i w m hw
  exact sndP (u7 hE n n (qu _)).2 hw h
 .cases h
end Go.Ev
namespace Go.Proofs.YtccifccjhgdikaaGreatDoor
open Go Go.Ev Go.Proofs Tryz
namespace Ty
@[go_sem] theorem sz3:szOf qa 3=some 1:=eqS (by kernel_rfl)
@[go_sem] theorem ag3:qP qa 3=some false:=eqS (by kernel_rfl)
@[go_sem] theorem ze3:qn qa 3=some (.sc (.int .i64 0)):=eqS (by kernel_rfl)
@[go_sem] theorem sz4:szOf qa 4=some 1:=eqS (by kernel_rfl)
@[go_sem] theorem ag4:qP qa 4=some false:=eqS (by kernel_rfl)
@[go_sem] theorem bo4:wJ qa 4=true:=eqS (by kernel_rfl)
@[go_sem] theorem sz5:szOf qa 5=some 1:=eqS (by kernel_rfl)
@[go_sem] theorem ag5:qP qa 5=some false:=eqS (by kernel_rfl)
@[go_sem] theorem ay20:wL qa 20=true:=eqS (by kernel_rfl)
@[go_sem] theorem sz22:szOf qa 22=some 1:=eqS (by kernel_rfl)
@[go_sem] theorem ag22:qP qa 22=some false:=eqS (by kernel_rfl)
@[go_sem] theorem sl22:qp qa 22=some (71,2,24):=eqS (by kernel_rfl)
@[go_sem] theorem sz23:szOf qa 23=some 1:=eqS (by kernel_rfl)
@[go_sem] theorem ag23:qP qa 23=some false:=eqS (by kernel_rfl)
@[go_sem] theorem sl23:qp qa 23=some (73,3,48):=eqS (by kernel_rfl)
@[go_sem] theorem sz27:szOf qa 27=some 4:=eqS (by kernel_rfl)
@[go_sem] theorem ag27:qP qa 27=some true:=eqS (by kernel_rfl)
@[go_sem] theorem fl27_0:q7 qa 27 0=some (0,22,1):=eqS (by kernel_rfl)
@[go_sem] theorem fl27_1:q7 qa 27 1=some (1,23,1):=eqS (by kernel_rfl)
@[go_sem] theorem sz28:szOf qa 28=some 1:=eqS (by kernel_rfl)
@[go_sem] theorem ag28:qP qa 28=some false:=eqS (by kernel_rfl)
@[go_sem] theorem sl28:qp qa 28=some (3,1,8):=eqS (by kernel_rfl)
@[go_sem] theorem sz30:szOf qa 30=some 2:=eqS (by kernel_rfl)
@[go_sem] theorem ag30:qP qa 30=some true:=eqS (by kernel_rfl)
@[go_sem] theorem fl30_0:q7 qa 30 0=some (0,28,1):=eqS (by kernel_rfl)
@[go_sem] theorem fl30_1:q7 qa 30 1=some (1,3,1):=eqS (by kernel_rfl)
@[go_sem] theorem sz35:szOf qa 35=some 5:=eqS (by kernel_rfl)
@[go_sem] theorem ag35:qP qa 35=some true:=eqS (by kernel_rfl)
@[go_sem] theorem sz36:szOf qa 36=some 1:=eqS (by kernel_rfl)
@[go_sem] theorem ag36:qP qa 36=some false:=eqS (by kernel_rfl)
@[go_sem] theorem sl36:qp qa 36=some (79,1,24):=eqS (by kernel_rfl)
@[go_sem] theorem fl38_0:q7 qa 38 0=some (0,27,4):=eqS (by kernel_rfl)
@[go_sem] theorem fl38_1:q7 qa 38 1=some (4,30,2):=eqS (by kernel_rfl)
@[go_sem] theorem fl38_4:q7 qa 38 4=some (12,36,1):=eqS (by kernel_rfl)
@[go_sem] theorem fl38_5:q7 qa 38 5=some (13,5,1):=eqS (by kernel_rfl)
@[go_sem] theorem sl39:qp qa 39=none:=eqS (by kernel_rfl)
@[go_sem] theorem ar39:vD qa 39=some (2,5,1):=eqS (by kernel_rfl)
@[go_sem] theorem sz43:szOf qa 43=some 1:=eqS (by kernel_rfl)
@[go_sem] theorem ag43:qP qa 43=some false:=eqS (by kernel_rfl)
@[go_sem] theorem sl43:qp qa 43=some (58,1,24):=eqS (by kernel_rfl)
@[go_sem] theorem sz45:szOf qa 45=some 4:=eqS (by kernel_rfl)
@[go_sem] theorem ag45:qP qa 45=some true:=eqS (by kernel_rfl)
@[go_sem] theorem ze45:qn qa 45=some (.agg [.lst true [],.sc (.int .i64 0),.lst true [],.sc (.int .i64 0)]):=eqS (by kernel_rfl)
@[go_sem] theorem pl45:jE qa 45=some (plc [(0,2),(2,1),(3,1)]):=eqS (by kernel_rfl)
@[go_sem] theorem fl45_0:q7 qa 45 0=some (0,30,2):=eqS (by kernel_rfl)
@[go_sem] theorem fl45_1:q7 qa 45 1=some (2,43,1):=eqS (by kernel_rfl)
@[go_sem] theorem fl45_2:q7 qa 45 2=some (3,3,1):=eqS (by kernel_rfl)
@[go_sem] theorem zo45:jb qa 45=true:=eqS (by kernel_rfl)
@[go_sem] theorem sz50:szOf qa 50=some 1:=eqS (by kernel_rfl)
@[go_sem] theorem ag50:qP qa 50=some false:=eqS (by kernel_rfl)
@[go_sem] theorem sl50:qp qa 50=some (87,4,64):=eqS (by kernel_rfl)
@[go_sem] theorem sz53:szOf qa 53=some 1:=eqS (by kernel_rfl)
@[go_sem] theorem ag53:qP qa 53=some false:=eqS (by kernel_rfl)
@[go_sem] theorem ze53:qn qa 53=some (.sc (.int .i64 0)):=eqS (by kernel_rfl)
@[go_sem] theorem sz58:szOf qa 58=some 1:=eqS (by kernel_rfl)
@[go_sem] theorem ag58:qP qa 58=some false:=eqS (by kernel_rfl)
@[go_sem] theorem ze58:qn qa 58=some (.lst true []):=eqS (by kernel_rfl)
@[go_sem] theorem sl58:qp qa 58=some (60,2,32):=eqS (by kernel_rfl)
@[go_sem] theorem sz60:szOf qa 60=some 2:=eqS (by kernel_rfl)
@[go_sem] theorem ag60:qP qa 60=some true:=eqS (by kernel_rfl)
@[go_sem] theorem ze60:qn qa 60=some (.agg [.sc (.int .i64 0),.lst true []]):=eqS (by kernel_rfl)
@[go_sem] theorem pl60:jE qa 60=some (plc [(0,1),(1,1)]):=eqS (by kernel_rfl)
@[go_sem] theorem fl60_0:q7 qa 60 0=some (0,3,1):=eqS (by kernel_rfl)
@[go_sem] theorem fl60_1:q7 qa 60 1=some (1,28,1):=eqS (by kernel_rfl)
@[go_sem] theorem zo60:jb qa 60=true:=eqS (by kernel_rfl)
@[go_sem] theorem fl73_1:q7 qa 73 1=some (1,28,1):=eqS (by kernel_rfl)
@[go_sem] theorem fl73_2:q7 qa 73 2=some (2,4,1):=eqS (by kernel_rfl)
@[go_sem] theorem sz79:szOf qa 79=some 1:=eqS (by kernel_rfl)
@[go_sem] theorem ag79:qP qa 79=some false:=eqS (by kernel_rfl)
@[go_sem] theorem sl79:qp qa 79=some (4,1,1):=eqS (by kernel_rfl)
@[go_sem] theorem sz87:szOf qa 87=some 4:=eqS (by kernel_rfl)
@[go_sem] theorem ag87:qP qa 87=some true:=eqS (by kernel_rfl)
@[go_sem] theorem ze87:qn qa 87=some (.agg [.sc (.int .i64 0),.lst true [],.sc (.int .i64 0),.lst true []]):=eqS (by kernel_rfl)
@[go_sem] theorem pl87:jE qa 87=some (plc [(0,2),(2,2)]):=eqS (by kernel_rfl)
@[go_sem] theorem fl87_0:q7 qa 87 0=some (0,60,2):=eqS (by kernel_rfl)
@[go_sem] theorem fl87_1:q7 qa 87 1=some (2,60,2):=eqS (by kernel_rfl)
@[go_sem] theorem zo87:jb qa 87=true:=eqS (by kernel_rfl)
@[go_sem] theorem sz131:szOf qa 131=some 1:=eqS (by kernel_rfl)
@[go_sem] theorem ag131:qP qa 131=some false:=eqS (by kernel_rfl)
@[go_sem] theorem sz135:szOf qa 135=some 1:=eqS (by kernel_rfl)
@[go_sem] theorem ag135:qP qa 135=some false:=eqS (by kernel_rfl)
@[go_sem] theorem ze135:qn qa 135=some (.lst true []):=eqS (by kernel_rfl)
@[go_sem] theorem sl135:qp qa 135=some (45,4,64):=eqS (by kernel_rfl)
@[go_sem] theorem sz150:szOf qa 150=some 2:=eqS (by kernel_rfl)
@[go_sem] theorem ag150:qP qa 150=some true:=eqS (by kernel_rfl)
@[go_sem] theorem ze150:qn qa 150=some (.agg [.sc (.int .i64 0),.sc (.int .i64 0)]):=eqS (by kernel_rfl)
@[go_sem] theorem sz174:szOf qa 174=some 1:=eqS (by kernel_rfl)
@[go_sem] theorem ag174:qP qa 174=some false:=eqS (by kernel_rfl)
@[go_sem] theorem sl174:qp qa 174=some (200,3,24):=eqS (by kernel_rfl)
@[go_sem] theorem sz196:szOf qa 196=some 1:=eqS (by kernel_rfl)
@[go_sem] theorem ag196:qP qa 196=some false:=eqS (by kernel_rfl)
@[go_sem] theorem ze196:qn qa 196=some (.lst true []):=eqS (by kernel_rfl)
@[go_sem] theorem sl196:qp qa 196=some (198,2,16):=eqS (by kernel_rfl)
@[go_sem] theorem ze198:qn qa 198=some (.agg [.sc (.int .i64 0),.sc (.int .i64 0)]):=eqS (by kernel_rfl)
@[go_sem] theorem pl198:jE qa 198=some (plA 1):=eqS (by kernel_rfl)
@[go_sem] theorem zo198:jb qa 198=true:=eqS (by kernel_rfl)
@[go_sem] theorem sz200:szOf qa 200=some 3:=eqS (by kernel_rfl)
@[go_sem] theorem ag200:qP qa 200=some true:=eqS (by kernel_rfl)
@[go_sem] theorem ze200:qn qa 200=some (.agg [.sc (.int .i64 0),.sc (.int .i64 0),.sc (.int .i64 0)]):=eqS (by kernel_rfl)
@[go_sem] theorem sz201:szOf qa 201=some 1:=eqS (by kernel_rfl)
@[go_sem] theorem ag201:qP qa 201=some false:=eqS (by kernel_rfl)
@[go_sem] theorem sz202:szOf qa 202=some 1:=eqS (by kernel_rfl)
@[go_sem] theorem ag202:qP qa 202=some false:=eqS (by kernel_rfl)
@[go_sem] theorem ze202:qn qa 202=some (.sc .nilFunc):=eqS (by kernel_rfl)
@[go_sem] theorem sz216:szOf qa 216=some 1:=eqS (by kernel_rfl)
@[go_sem] theorem ag216:qP qa 216=some false:=eqS (by kernel_rfl)
@[go_sem] theorem sl216:qp qa 216=some (293,2,24):=eqS (by kernel_rfl)
@[go_sem] theorem ze223:qn qa 223=some (.agg [.sc (.int .i64 0),.lst true []]):=eqS (by kernel_rfl)
@[go_sem] theorem pl223:jE qa 223=some (plc [(0,1),(1,1)]):=eqS (by kernel_rfl)
@[go_sem] theorem zo223:jb qa 223=true:=eqS (by kernel_rfl)
end Ty
end Go.Proofs.YtccifccjhgdikaaGreatDoor
namespace Go.Ev
open Go
abbrev rI(n:Int):List AV:=[.sc (.int .i64 n)]
abbrev lI(xs:List Int):AV := .lst false (xs.map rI)
structure Rl where
 ar:Int
 ts:List Int
 deriving DecidableEq
structure Sc where
 atoms:List Int
 steps:Int
structure Fld where
 name:ByteArray
 sorts:List Int
 var:Bool
structure Bd where
 lo:Rl
 up:Rl
 deriving DecidableEq
abbrev cRel(r:Rl):List AV:=[aI r.ar,lI r.ts]
abbrev eRel(r:Rl):AV := .agg (cRel r)
abbrev lRel(rs:List Rl):AV := .lst false (rs.map cRel)
abbrev eSc(s:Sc):AV := .agg [lI s.atoms,aI s.steps]
abbrev u9(s:ByteArray×Bool):List AV:=[.sc (.string s.1),aB s.2]
abbrev wa(f:Fld):List AV:=[.sc (.string f.name),lI f.sorts,aB f.var]
abbrev cBd(b:Bd):List AV:=[aI b.lo.ar,lI b.lo.ts,aI b.up.ar,lI b.up.ts]
abbrev lBd(b:List Bd):AV := .lst false (b.map cBd)
theorem qT(xs:List Int):HF (lI xs):=HF.lst fun r hr c hc=>by
 obtain⟨n,_,rfl⟩:=qr.1 hr;simp at hc;subst hc;exact HF.sc _
theorem QK(r:Rl):∀ c,c∈cRel r->HF c:=by
 intro c hc;simp at hc;rcases hc with rfl|rfl
 .exact HF.sc _
 .exact qT _
theorem vo(r:Rl):HF (eRel r):=HF.agg (QK r)
theorem ju(rs:List Rl):HF (lRel rs):=HF.lst fun r hr c hc=>by
 obtain⟨n,_,rfl⟩:=qr.1 hr;exact QK n c hc
theorem qU(s:Sc):HF (eSc s):=HF.agg fun c hc=>by
 simp at hc;rcases hc with rfl|rfl
 .exact qT _
 .exact HF.sc _
theorem WB(f:Fld):∀ c,c∈wa f->HF c:=by
 intro c hc;simp at hc;rcases hc with rfl|rfl|rfl
 .exact HF.sc _
 .exact qT _
 .exact HF.sc _
theorem QL(b:List Bd):HF (lBd b):=HF.lst fun r hr c hc=>by
 obtain⟨n,_,rfl⟩:=qr.1 hr;simp at hc;rcases hc with rfl|rfl|rfl|rfl
 .exact HF.sc _
 .exact qT _
 .exact HF.sc _
 .exact qT _
@[go_sem] theorem ieq(a b:Int):(a == b)=decide (a=b):=eqS rfl
@[go_sem] theorem ine(a b:Int):(a != b)=!decide (a=b):=eqS rfl
@[go_sem] theorem natEq(a b:Nat):((a:Int)=(b:Int))=(a=b):=propext ⟨Int.ofNat_inj.1,fun h=>by rw[h]⟩
inductive Tag (p:St->Prop):Type where
 |mk:Tag p
def Keep(p:St->Prop)(_:Tag p)(st:St):Prop:=p st
theorem Keep.loop{p:Nat->St->Prop}{st:St}{n:Nat}(m:Nat)(hm:m<n)(h:p m st):∃ m,m<n/\Keep (p m) .mk st:=⟨m,hm,h⟩
theorem qx.keep{P:Program}{pl:Pol}{body:Code}{Q:qv->St->Prop}{st:St}(I:Nat->St->Prop)(n:Nat)(h:I n st)(k:∀ n st,I n st->awp P pl body (jt (fun n=>Keep (I n) .mk) n Q) st):qx P pl body Q st := .intro (fun n=>Keep (I n) .mk) n h k
theorem jf(xs:List Int):qK 1 (xs.map rI):=fun r hr=>by
 obtain⟨n,_,rfl⟩:=qr.1 hr;exact⟨rfl,rfl⟩
theorem vp(xs:List Rl):qK 2 (xs.map cRel):=fun r hr=>by
 obtain⟨n,_,rfl⟩:=qr.1 hr;exact⟨rfl,rfl⟩
def OwnF(lo:Nat)(mu:Mu)(sz:Nat)(av:AV)(xs:List (List AV)):Prop:=Own mu sz av xs/\(∀ b s o l,av = .sl b s o l->lo<=b)/\lo<=mu.length
theorem OwnF.one{lo:Nat}{mu:Mu}{sz:Nat}{av:AV}{xs:List (List AV)}(h:OwnF lo mu sz av xs):av.one=true:=by
 rcases h.1 with rfl|⟨b,rfl,_⟩<;>rfl
theorem OwnF.cells{lo:Nat}{mu:Mu}{sz:Nat}{av:AV}{xs:List (List AV)}(h:OwnF lo mu sz av xs):av.cells=[av]:=by
 rcases h.1 with rfl|⟨b,rfl,_⟩<;>rfl
theorem OwnF.nil{lo:Nat}{mu:Mu}{sz:Nat}(h:lo<=mu.length):OwnF lo mu sz (.lst true []) []:=⟨.inl rfl,fun _ _ _ _ e=>by simp at e,h⟩
theorem OwnF.lit{lo:Nat}{mu:Mu}{sz:Nat}(xs:List (List AV))(h:lo<=mu.length):OwnF lo mu sz (.lst true xs) xs:=⟨.inl rfl,fun _ _ _ _ e=>by simp at e,h⟩
theorem OwnF.set{lo:Nat}{mu:Mu}{sz:Nat}{av:AV}{xs:List (List AV)}{i:Nat}{c:Cell}(h:OwnF lo mu sz av xs)(hi:i<lo):OwnF lo (mu.set i c) sz av xs:=by
 obtain⟨ho,hb,hl⟩:=h;refine⟨?_,hb,by simpa using hl⟩;rcases ho with rfl|⟨b,rfl,hc⟩
 .exact .inl rfl
 .have:=hb _ _ _ _ rfl
  exact .inr ⟨b,rfl,by rw[q9 (by omega)];exact hc⟩
theorem OwnF.le{lo lo':Nat}{mu:Mu}{sz:Nat}{av:AV}{xs:List (List AV)}(h:OwnF lo mu sz av xs)(hi:lo'<=lo):OwnF lo' mu sz av xs:=
 ⟨h.1,fun b s o l e=>zt hi (h.2.1 b s o l e),zt hi h.2.2⟩
theorem zP.ownF{P:Program}{lo:Nat}{mu:Mu}{t t' e sz bt:Nat}{s x:AV}{xs ys:List (List AV)}{zv:AV}{K:AV->Mu->Prop}(hs:qp P t=some (e,sz,bt))(hs':(qp P t').isSome=true)(hz:qn P e=some zv)
  (hz1:zv.cells.length=sz) (hz2:zv.cells.all AV.one=true) (hz0:sz≠0) (hb:bt<=16384) (ho:OwnF lo mu sz s xs) (hx:qZ mu x=some ys) (wx:qK sz xs) (wy:qK sz ys) (hl:xs.length+ys.length<=4294967296)
  (k:∀ av mu',OwnF lo mu' sz av (xs++ys)->(∀ i,i<lo->mu'[i]?=mu[i]?)->K av mu'):zP P mu #[t,t'] s x K:=by
 obtain⟨ho,hlo,hlm⟩:=ho;refine⟨t,t',e,sz,bt,ys,rfl,hs,hs',⟨zv,hz,hz1,hz2⟩,hz0,hb,hx,wy,?_⟩;rcases ho with rfl|⟨b,rfl,hc⟩
 .refine .inl ⟨xs,rfl,wx,hl,fun h=>?_,fun h=>?_⟩
  .subst h
   exact k _ _ ⟨.inl (by simp),fun _ _ _ _ e=>by simp at e,hlm⟩ (fun _ _=>rfl)
  .refine k _ _ ⟨.inr ⟨mu.length,by simp,by simp⟩,fun b s o l e=>?_,by simp;omega⟩ (fun i hi=>?_)
   .injection e;omega
   .rw [qh (by omega)]
 .have hfl:=zd wx.ok
  have hbl:=hlo _ _ _ _ rfl;refine .inr ⟨b,xs.length,xs.flatten,rfl,hc,by omega,hl,?_⟩;have htk:xs.flatten.take (xs.length*sz)=xs.flatten:=zA (by omega);refine k _ _ ⟨.inr ⟨mu.length,by simp,?_⟩,fun b s o l e=>?_,by simp;omega⟩ (fun i hi=>?_)
  .rw [htk,qB (by simp)];simp
  .injection e;omega
  .rw [qh (by simp;omega)]
   rw[q9 (by omega)]
theorem qD.ownF{P:Program}{lo:Nat}{mu:Mu}{t t' e sz bt:Nat}{s x:AV}{xs ys:List (List AV)}{zv:AV}{K:AV->Mu->Prop}(hs:qp P t=some (e,sz,bt))(hs':(qp P t').isSome=true)(hz:qn P e=some zv)
  (hz1:zv.cells.length=sz) (hz2:zv.cells.all AV.one=true) (hz0:sz≠0) (hb:bt<=16384) (ho:OwnF lo mu sz s xs) (hx:qZ mu x=some ys) (wx:qK sz xs) (wy:qK sz ys) (hl:xs.length+ys.length<=4294967296)
  (k:∀ av mu',OwnF lo mu' sz av (xs++ys)->(∀ i,i<lo->mu'[i]?=mu[i]?)->K av mu'):qD P mu #[t,t'] s x K:=
 .inl (zP.ownF hs hs' hz hz1 hz2 hz0 hb ho hx wx wy hl k)
theorem qD.ints{P:Program}{lo:Nat}{mu:Mu}{t t' e bt:Nat}{s x:AV}{xs ys:List Int}{z:Int}{K:AV->Mu->Prop}(hs:qp P t=some (e,1,bt))(hs':(qp P t').isSome=true)(hz:qn P e=some (aI z))
  (hb:bt<=16384) (ho:OwnF lo mu 1 s (xs.map rI)) (hx:qZ mu x=some (ys.map rI)) (hl:xs.length+ys.length<=4294967296)
  (k:∀ av mu',OwnF lo mu' 1 av ((xs++ys).map rI)->(∀ i,i<lo->mu'[i]?=mu[i]?)->K av mu'):qD P mu #[t,t'] s x K:=
 qD.ownF hs hs' hz rfl rfl (by omega) hb ho hx (jf _) (jf _) (by simpa using hl) (fun av mu' h1 h2=>k av mu' (by rw[yC];exact h1) h2)
theorem WC{lo:Nat}{low rest mu':Mu}(hlo:low.length=lo)(hl:lo<=mu'.length)(h:∀ i,i<lo->mu'[i]?=(low++rest)[i]?):mu'=low++mu'.drop lo:=by
 have:mu'.take lo=low:=by
  apply ya;intro i;by_cases hi:i<lo
  .rw [List.getElem?_take_of_lt hi,h i hi,qh (by omega)]
  .rw [ym (by simp;omega),ym (by omega)]
 rw[<-this,List.take_append_drop]
theorem qD.intsL{P:Program}{low rest:Mu}{t t' e bt:Nat}{s x:AV}{xs ys:List Int}{z:Int}{K:AV->Mu->Prop}(hs:qp P t=some (e,1,bt))(hs':(qp P t').isSome=true)(hz:qn P e=some (aI z))
  (hb:bt<=16384) (ho:OwnF low.length (low++rest) 1 s (xs.map rI)) (hx:qZ (low++rest) x=some (ys.map rI)) (hl:xs.length+ys.length<=4294967296)
  (k:∀ av rest',OwnF low.length (low++rest') 1 av ((xs++ys).map rI)->K av (low++rest')):qD P (low++rest) #[t,t'] s x K:=
 qD.ints hs hs' hz hb ho hx hl fun av mu' h1 h2=>by
  have:=WC rfl h1.2.2 h2;rw[this]at h1⊢;exact k _ _ h1
theorem OwnF.low{low low' rest:Mu}{sz:Nat}{av:AV}{xs:List (List AV)}(h:OwnF low.length (low++rest) sz av xs)(hl:low'.length=low.length):OwnF low'.length (low'++rest) sz av xs:=by
 obtain⟨ho,hb,_⟩:=h;refine⟨?_,by rw[hl];exact hb,by simp⟩;rcases ho with rfl|⟨b,rfl,hc⟩
 .exact .inl rfl
 .have:=hb _ _ _ _ rfl
  refine .inr ⟨b,rfl,?_⟩;rw[qB (by omega)]at hc⊢;rw[hl];exact hc
theorem OwnF.rdI{lo:Nat}{mu:Mu}{av:AV}{xs:List Int}(h:OwnF lo mu 1 av (xs.map rI)):Rd mu av (lI xs):=
 h.1.rd (jf xs).ok fun r hr c hc=>by
  obtain⟨n,_,rfl⟩:=qr.1 hr;simp at hc;subst hc;exact HF.sc _
theorem Rd.rel{mu:Mu}{av:AV}{r:Rl}(h:Rd mu av (lI r.ts)):Rd mu (.agg [aI r.ar,av]) (eRel r):=by
 refine .agg _ _ rfl (fun k x y hx hy=>?_)
 match k with
 | 0=>simp at hx hy;subst hx;subst hy;exact .hf _ (HF.sc _)
 | 1=>simp at hx hy;subst hx;subst hy;exact h
 |k+2=>simp at hx
theorem QM(b:Nat)(mu:Mu):(cutM (fun j=>j == b) mu 0)[b]?=mu[b]?:=by
 rw[y9];cases mu[b]?<;>simp
theorem wb{b i:Nat}(h:i≠b)(mu:Mu):(cutM (fun j=>!(j == b)) mu 0)[i]?=mu[i]?:=by
 rw[y9];cases mu[i]?<;>simp[h]
theorem FzQ.own{Q:qv->St->Prop}{lo i d sz:Nat}{av:AV}{xs:List (List AV)}{st:St}(hd:st.tm d=av)(ho:OwnF lo st.mu sz av xs)(wf:qK sz xs)(hf:∀ r,r∈xs->∀ c,c∈r->HF c)
  (k:∀ mu' full,mu'.length=st.mu.length->(∀ j,j<lo->mu'[j]?=st.mu[j]?)->Q (.exit i) (st.put (some d) (.lst full xs) mu')):FzQ Q (.exit i) st:=by
 rcases ho.1 with h|⟨b,h,hc⟩
 .refine FzQ.one (b:=st.mu.length) (d:=d) (x := .lst true xs) ?_ (k _ _ (yG _ _ _) fun j hj=>wb (by have:=ho.2.2;omega) _)
  rw[hd,h];exact .hf _ (HF.lst hf)
 .refine FzQ.one (b:=b) (d:=d) (x := .lst false xs) ?_ (k _ _ (yG _ _ _) fun j hj=>wb (by have:=ho.2.1 _ _ _ _ h;omega) _)
  rw[hd];exact Own.rd (.inr ⟨b,h,by rw[QM];exact hc⟩) wf.ok hf
def allN(p:Nat->Bool):Nat->Bool
 | 0=>true
 |n+1=>allN p n&&p n
theorem Jr{p:Nat->Bool}{n:Nat}:allN p n=true↔∀ i,i<n->p i=true:=by
 induction n with
 |zero=>simp[allN]
 |succ n ih =>
  simp only[allN,qe,ih];refine⟨fun h i hi=>?_,fun h=>⟨fun i hi=>h i (by omega),h n (by omega)⟩⟩;rcases ZB.1 hi with h1|h1
  .exact h.1 i h1
  .subst h1;exact h.2
theorem WD{p:Nat->Bool}{n k:Nat}(hk:k<n)(h:p k=false):allN p n=false:=by
 rw[<-Bool.not_eq_true,Jr];intro h';have:=h' k hk;simp[h]at this
def gI(xs:List Int)(i:Nat):Int:=(xs[i]?).getD 0
theorem ug{xs:List Int}{i:Nat}(h:i<xs.length):gI xs i=xs[i]:=by simp[gI,h]
def sumI(xs:List Int):Int:=xs.foldr (·+·) 0
theorem WE(a b:List Int):sumI (a++b)=sumI a+sumI b:=by
 induction a with
 |nil=>simp[sumI]
 |cons x a ih=>simp only[sumI,List.cons_append,List.foldr_cons]at *;omega
theorem jg(l:List Int)(k:Nat)(h:k<l.length):sumI (l.take (k+1))=sumI (l.take k)+l[k]:=by
 rw[List.take_add_one,qs h,WE];simp[sumI]
theorem WG(l:List Int)(m:Int)(h:∀ a,a∈l->0<=a/\a<=m):0<=sumI l/\sumI l<=m*l.length:=by
 induction l with
 |nil=>simp[sumI]
 |cons x l ih =>
  have h1:=h x (by simp);have h2:=ih (fun a ha=>h a (by simp[ha]));simp only[sumI,List.foldr_cons,zN]at *
  have:m*((l.length+1:Nat):Int)=m*l.length+m:=by rw[Int.natCast_succ,Int.mul_add];simp
  omega
def GSc(s:Sc):Prop:=s.atoms.length<=4/\∀ a,a∈s.atoms->0<=a/\a<=5
theorem GSc.sum{s:Sc}(h:GSc s)(k:Nat):0<=sumI (s.atoms.take k)/\sumI (s.atoms.take k)<=20:=by
 have:=WG (s.atoms.take k) 5 (fun a ha=>h.2 a (List.mem_of_mem_take ha));have h1:=h.1;have h2:=List.length_take_le k s.atoms;simp only[List.length_take]at *
 omega
theorem GSc.get{s:Sc}(h:GSc s){k:Nat}(hk:k<s.atoms.length):0<=s.atoms[k]/\s.atoms[k]<=5:=h.2 _ (qY hk)
end Go.Ev
namespace Go.Ev
open Go Go.RowKit
end Go.Ev
namespace Go.Ev
open Go Go.RowKit
def MRel(G:Gh)(h:Array Obj):Option AV->FrameMode->Prop
 |none,u=>u = .returning
 |some x,u=>∃ v,u = .panicking [{ v,recovered:=false }]/\VRel G h x v
def zV(P:Program)(g:FuncId)(args:List AV)(mu:Mu)(m:Option AV)(R:Mu->Prop):Prop:=zn P g /\
 ∀(G:Gh) (w:World) (vs:Array Value) (u:FrameMode),Sim G mu w.heap->qM G w.heap args vs->MRel G w.heap m u ->
  CallsDIn Fence.wide 0 P g vs u w fun e u' w'=>∃ v G' mu',e = .returned v/\settle u' = .returning/\Stp G mu w G' mu' w'/\R mu'
def QN(P:Program)(rs:List ResultVar)(g:FuncId)(dargs:List AV)(R:AEnd->Mu->Prop):qv->St->Prop
 | .normal,st | .ret,st=>zV P g dargs st.mu none fun mu'=>OptK (zT P ⟨st.tm,mu'⟩ rs) fun r=>R (.ret r) mu'
 | .pan v,st=>zV P g dargs st.mu (some v) fun mu'=>OptK (zT P ⟨st.tm,mu'⟩ rs) fun r=>R (.ret r) mu'
 | .exit _,_=>False
def jQ(ops:Array Oper):Option (List Oper×Oper):=
 match ops.toList.reverse with
 |o :: r=>match o.op,o.guard,o.dst with | .defer _,none,none=>some (r.reverse,o)|_,_,_=>none
 | []=>none
theorem WH{ops:Array Oper}{pre:List Oper}{o:Oper}(h:jQ ops=some (pre,o)):ops.toList=pre++[o]/\o.guard=none/\o.dst=none:=by
 unfold jQ at h;split at h
 .rename_i o' r hr
  split at h
  .rename_i c h1 h2 h3
   simp only[qb,Prod.mk.injEq]at h;obtain⟨rfl,rfl⟩:=h;refine⟨?_,h2,h3⟩;have:=congrArg List.reverse hr;simpa using this
  .exact absurd h (by simp)
 .exact absurd h (by simp)
def jR(P:Program)(pl:Pol)(rs:List ResultVar)(R:AEnd->Mu->Prop)(o:Oper)(rest:Code)(st:St):Prop:=
 ∃ x args ats g first caps,o.op = .defer { callee := .value x,args,argTypes:=ats }/\st.ev x = .fn (.func g) first caps/\zn P g/\awp P pl rest (QN P rs g (first++evs st.ev args.toList++caps) R) st
def awpD(P:Program)(pl:Pol)(rs:List ResultVar)(R:AEnd->Mu->Prop):Code->St->Prop
 | .seq (.region _ ops false) rest,st=>match jQ ops with
  |some (pre,o)=>awpS P pl false ops pre (fun st=>jR P pl rs R o rest st) (fun v st=>R (.pan v) st.mu) st
  |none=>awpS P pl false ops ops.toList (fun st=>awpD P pl rs R rest st) (fun v st=>R (.pan v) st.mu) st
 |_,_=>False
def Ro.bare:Ro:=⟨none,[],false,[]⟩
theorem Rel.bare{G0:Gh}{mu0:Mu}{w0:World}{n:Nat}{G:Gh}{st:St}{a:Act}{w:World}(r:Rel Ro.bare G0 mu0 w0 n G st a w):a.defers=[]:=by
 obtain⟨Ds,⟨h1,h2⟩,_⟩:=r.df rfl;have:Ds=[]:=h2 rfl;subst this;simpa[Ro.bare] using h1
def REnd(G : Gh)(mu : Mu)(w : World)(R : AEnd->Mu->Prop)(e : Ending)(w' : World) : Prop := ∃ G' mu', Stp G mu w G' mu' w' /\
      ((∃ r v,R (.ret r) mu'/\e = .returned v/\VRel G' w'.heap r v)\/(∃ r v,R (.pan r) mu'/\e = .panicked [{ v,recovered:=false }]/\VRel G' w'.heap r v))
theorem WI{P:Program}{pl:Pol}{fn:Func}{R:AEnd->Mu->Prop}{G0:Gh}{mu0:Mu}{w0:World}(s0:Sim G0 mu0 w0.heap):∀(c:Code) (st:St) (a:Act) (w:World) (G:Gh),Rel Ro.bare G0 mu0 w0 fn.ntmps G st a w ->
  dOkC fn.ntmps c=true->awpD P pl fn.results.toList R c st->c.wpIn (WF Ro.bare) 0 P (bodyPostM Fence.wide 0 P fn (REnd G0 mu0 w0 R)) a w:=by
 intro c;induction c with
 |seq x y _ ih =>
  intro st a w G r hd h;cases x with
  |region id ops draw =>
   cases draw with
   |true=>exact h.elim
   |false =>
    simp only[dOkC,qe]at hd;have hdl:(ops.toList.all fun o=>dOk fn.ntmps o.dst)=true:=hd.1;have hpan:∀ v (st:St) a w G u,R (.pan v) st.mu->Rel Ro.bare G0 mu0 w0 fn.ntmps G st a w->VRel G w.heap v u->LeavesInM Fence.wide 0 P fn a.tmps (REnd G0 mu0 w0 R) a.defers (.panicking [{ v:=u,recovered:=false }]) w:=by
     intro v st a w G u hq r hv;rw[r.bare];exact⟨G,st.mu,r.stp,.inr ⟨v,u,hq,rfl,hv⟩⟩
    cases hl:jQ ops with
    |none =>
     simp only[awpD,hl]at h;refine wpIn_seq (wpIn_region_list ?_);refine Qg s0 ?_ ?_ ops.toList st a w G r hdl h
     .intro st a w G hq r
      exact ih st a w G r hd.2 hq
     .intro v st a w G u hq r hv
      exact hpan v st a w G u hq r hv
    |some q =>
     obtain⟨pre,o⟩:=q;simp only[awpD,hl]at h;obtain⟨ho,hg,hdst⟩:=WH hl;refine wpIn_seq (wpIn_region_list ?_);rw[ho]at hdl⊢;rw[List.all_append,qe]at hdl;refine Yr s0 ?_ ?_ pre st a w G r hdl.1 h
     .intro st a w G hq r
      obtain⟨xo,args,ats,g,first,caps,hop,hx,hcal,hrest⟩:=hq;obtain⟨od,oop,oty,opos,oaf,ogd⟩:=o;simp only at hop hg hdst;subst hop;subst hg;subst hdst;simp only[wpListIn,Region.wanted,if_true];have rf:=r.ev xo;rw[hx]at rf;generalize hq:a.eval xo=fv at rf;cases rf with
      |fn _ _ _ fvs cvs hn hm hv hw =>
      have ra:=qM.append3 ⟨hn,hv⟩ (jc r.ev args) ⟨hm,hw⟩;have hrun:((({ dst:=none,op := .defer { callee := .value xo,args,argTypes:=ats },type:=oty,pos:=opos,after:=oaf,guard:=none }:Oper).semAt (WF Ro.bare).round a.eval).run P w) =
        .ok (.defer { target := .fn (.func g) cvs,args:=fvs++args.map a.eval }) w:=by
       rw[show (WF Ro.bare).round=none from rfl,Oper.semAt_none];simp only[execOp,resolve,ql,qG,qm,hq,Deferred.ofValue]
      refine⟨fun _ _=>trivial,?_⟩;rw[hrun,Oper.uponIn_defer];rw[r.bare]
      let d:Deferred:={ target := .fn (.func g) cvs,args:=fvs++args.map a.eval }
      let dargs:=first++evs st.ev args.toList++caps
      let dvs:=fvs++args.map a.eval++cvs
      let ro:Ro:=⟨none,[d],true,dargs.zip dvs.toList⟩
      have hkp:∀{G:Gh} {h:Array Obj},(∀ p,p∈ro.kp->VRel G h p.1 p.2)↔qM G h dargs dvs:=by
       intro G h;constructor
       .intro hk
        refine⟨ra.1,fun k x hx=>?_⟩;have hlt:k<dvs.size:=by rw[ra.1];exact(qc.1 hx).1
        have hv:dvs.toList[k]?=some (dvs.getD k undef):=by simp[qi,hlt]
        have:(x,dvs.getD k undef)∈dargs.zip dvs.toList:=qC (i:=k) (by rw[List.getElem?_zip_eq_some];exact⟨hx,hv⟩);exact hk _ this
       .intro ha p hp
        obtain⟨k,hk⟩:=List.mem_iff_getElem?.1 hp;rw[List.getElem?_zip_eq_some]at hk;have:=ha.2 k p.1 hk.1;have e:dvs.getD k undef=p.2:=by
         have h2:=hk.2;rw[Array.getElem?_toList]at h2;simp[qi,h2]
        rwa[e]at this
      show y.wpIn (WF Ro.bare) 0 P _ _ _;refine Qt (pl:=pl) (n:=fn.ntmps) y (ro:=ro) s0 _ _ st _ w G ?_ ⟨r.tm,fun _=>Dfs.nil _ _ _ _ _ _,r.size,r.stp,hkp.2 ra⟩ hd.2 (.inl ⟨rfl,rfl⟩) hrest;intro ae e st a w' G' hq r he;obtain⟨Ds,g1,g2,g3,r',hv'⟩:=r.left rfl;have key:∀(m:Option AV) (u:FrameMode),u ≠ .run->MRel G' (yV Ds w').heap m u->zV P g dargs st.mu m (fun mu'=>OptK (zT P ⟨st.tm,mu'⟩ fn.results.toList) fun r=>R (.ret r) mu') ->
        LeavesInM Fence.wide 0 P fn a.tmps (REnd G0 mu0 w0 R) a.defers u w':=by
       intro m u hu hm hs;rw[g1];refine Qf hu Ds w' g2 g3 ?_;refine⟨hu,.inr ⟨fun h=>by simp[Fence.wide]at h,.func g,cvs,g,dvs,rfl,?_,fun _ _=>trivial,?_⟩⟩
       .simp only[invoke,d]
        exact hcal _ _
       .refine (hs.2 G' (yV Ds w') dvs u r'.stp.sim (hkp.1 r'.kp) hm).mono ?_
        intro e u' w'' ⟨v,G2,mu2,he,hset,hst,z,hz,hR⟩;subst he;simp only;rw[hset];have r2:=r'.put (d:=none) s0 hst (.any undef) rfl;obtain⟨u2,k1,k2⟩:=v9 (fn:=fn) r2 hz;exact⟨u2,k1,G2,mu2,r2.stp,.inl ⟨z,u2,hR,rfl,k2⟩⟩
      cases ae<;>cases e<;>simp only[ERel]at he
      .exact key none .returning (by simp) rfl hq
      .exact hq.elim
      .exact key none .returning (by simp) rfl hq
      .obtain ⟨v,rfl,hv⟩:=he
       exact key (some _) (.panicking _) (by simp) ⟨v,rfl,hv' _ _ hv⟩ hq
     .intro v st a w G u hq r hv
      exact hpan v st a w G u hq r hv
  |_=>exact h.elim
 |_=>intro st a w G r hd h;exact h.elim
theorem qE.of_awpD{P:Program}{f:FuncId}{fn:Func}{c:Code}{pl:Pol}{args:List AV}{mu:Mu}{R:AEnd->Mu->Prop}(hcal:zn P f)(hf:P.funcs[f]?=some fn)(hb:fn.body=some c)
  (hn:args.length<=fn.ntmps) (hd:dOkC fn.ntmps c=true) (h:awpD P pl fn.results.toList R c (st0 args mu)):qE P f args mu R:=by
 refine⟨hcal,fun G w vs s ra=>?_⟩;refine(callsIn_wide (n:=0)).1 (callsIn_of_wp_marks hf hb trivial ?_);refine WI (pl:=pl) s c (st0 args mu) _ w G ?_ hd h;exact Rel.start s ra hn
theorem zV.of_awp{P:Program}{f:FuncId}{fn:Func}{id:Nat}{o:Oper}{rest:Code}{pl:Pol}{args:List AV}{mu:Mu}{m:Option AV}{R:Mu->Prop}(hcal:zn P f)(hf:P.funcs[f]?=some fn)
  (hb:fn.body=some (.seq (.region id #[o] false) rest)) (ho:∃ d ty pos ats,o={ dst:=d,op := .call { callee := .builtin .recover,args:=#[],argTypes:=ats },type:=ty,pos:=pos,after:=#[],guard:=none })
  (hn:args.length<=fn.ntmps) (hd:dOkC fn.ntmps (.seq (.region id #[o] false) rest)=true) (hr:noRF rest=true)
  (h:awp P pl rest (vh P fn.results.toList fun e mu'=>∃ r,e = .ret r/\R mu') ((st0 args mu).put o.dst (m.getD (.sc .nilIface)) mu)):zV P f args mu m R:=by
 obtain⟨od,oty,opos,oats,rfl⟩:=ho;refine⟨hcal,fun G w vs u s ra hm=>?_⟩;refine callsDIn_of_wpSIn hf hb trivial fun c₀ cs hc=>?_
 have r0:Rel Ro.bare G mu w fn.ntmps G (st0 args mu) { tmps:=vs++Array.replicate (fn.ntmps-vs.size) undef,defers:=[] } w:=Rel.start s ra hn;simp only[dOkC,qe]at hd;have hdo:dOk fn.ntmps od=true:=by have:=hd.1;simpa using this
 refine wpSIn_seq (wpSIn_region ?_);have go:∀(cs':List Frame) (v:Value) (u':FrameMode),cs'={ c₀ with mode:=u' } :: cs->settle u' = .returning->VRel G w.heap (m.getD (.sc .nilIface)) v ->
   rest.wpSIn Fence.wide 0 P (bodyPostS P fn c₀ cs fun e u' w'=>∃ v G' mu',e = .returned v/\settle u' = .returning/\Stp G mu w G' mu' w'/\R mu')
    (({ tmps:=vs++Array.replicate (fn.ntmps-vs.size) undef,defers:=[] }:Act).put od v) cs' w:=by
  intro cs' v u' hcs hset hv;refine wpSIn_of_wpIn rfl ?_;refine Qt (pl:=pl) (n:=fn.ntmps) rest (ro:=Ro.bare) s _ _ _ _ w G ?_ (r0.put s (Stp.refl s) hv hdo) hd.2 (.inr hr) h;intro ae e st a w' G' hq r he;cases ae<;>cases e<;>simp only[ERel]at he
  .obtain ⟨z,hz,z',_,hR⟩:=hq
   obtain⟨u2,k1,k2⟩:=v9 (fn:=fn) r hz;exact⟨r.bare,u',hcs,u2,k1,u2,G',st.mu,rfl,hset,r.stp,hR⟩
  .exact hq.elim
  .obtain ⟨z,hz,z',_,hR⟩:=hq
   obtain⟨u2,k1,k2⟩:=v9 (fn:=fn) r hz;exact⟨r.bare,u',hcs,u2,k1,u2,G',st.mu,rfl,hset,r.stp,hR⟩
  .obtain ⟨z,hz,_⟩:=hq
   exact absurd hz (by simp)
 have hrun:∀ ev:Operand->Value,(execOp ev { dst:=od,op := .call { callee := .builtin .recover,args:=#[],argTypes:=oats },type:=oty,pos:=opos,after:=#[],guard:=none }).run P w = .ok .recover w:=by
  intro ev;simp[execOp,resolve,invoke,builtin]
 simp only[List.size_toArray,zN,List.length_nil,qg,qg.loop,wpOpsSIn];refine⟨fun _ _=>trivial,?_⟩;simp only[Region.wanted,if_true,hrun];cases m with
 |none =>
  have hu:u = .returning:=hm;have hrec:recoverD (c₀ :: cs)=none:=by simp[recoverD,hc,hu]
  rw[hrec];exact go _ .nilIface .returning (by rw[<-hu,<-hc]) rfl (.sc _ rfl)
 |some x =>
  obtain⟨v,hu,hv⟩:=hm;have hrec:recoverD (c₀ :: cs)=some (v,{ c₀ with mode := .panicking [{ v,recovered:=true }] } :: cs):=by simp[recoverD,hc,hu]
  rw[hrec];exact go _ v (.panicking [{ v,recovered:=true }]) rfl rfl hv
end Go.Ev
namespace Go.Ev
open Go Go.RowKit
def EndR(G:Gh)(h:Array Obj):AEnd->Ending->Prop
 | .ret r,e=>∃ v,e = .returned v/\VRel G h r v
 | .pan r,e=>∃ v,e = .panicked [{ v,recovered:=false }]/\VRel G h r v
def jh(P:Program)(f:FuncId)(args:List AV)(V:AEnd->Prop):Prop:=zn P f /\
 ∀(imm:Nat->Prop) (w:World) (vs:Array Value),Sim ⟨imm,[]⟩ [] w.heap->qM ⟨imm,[]⟩ w.heap args vs ->
  Calls P f vs w fun e w'=>∃ imm' a,V a/\EndR ⟨imm',[]⟩ w'.heap a e/\(∀ b,imm b->imm' b)/\(∀ b,imm' b->b<w'.heap.size/\(imm b\/w.heap.size<=b))/\j5 w.heap.size w w'
abbrev QO(P:Program)(f:FuncId)(args:List AV)(e:AEnd):Prop:=jh P f args (·=e)
theorem jh.mono{P:Program}{f:FuncId}{args:List AV}{V V':AEnd->Prop}(h:jh P f args V)(k:∀ e,V e->V' e):jh P f args V':=
 ⟨h.1,fun imm w vs hi ra=>(h.2 imm w vs hi ra).mono fun e w' ⟨imm',a,hv,hr⟩=>⟨imm',a,k a hv,hr⟩⟩
theorem QO.toP{P:Program}{f:FuncId}{args:List AV}{r:AV}(h:QO P f args (.ret r)):qf P f args r:=by
 refine⟨h.1,fun imm w vs hi ra=>(h.2 imm w vs hi ra).mono fun e w' ⟨imm',a,hv,hr,h1,h2,h3⟩=>?_⟩;subst hv;obtain⟨v,he,hv⟩:=hr;exact⟨imm',v,he,h1,h2,h3,hv⟩
theorem WJ{G : Gh}{mu : Mu}{w : World}(s : Sim G mu w.heap)(imm imm' : Nat->Prop)(w' : World)(h1 : ∀ b, G.imm b->imm b)(h2 : ∀ b, imm' b->b < w'.heap.size/\(imm b\/w.heap.size<=b))(hb : j5 w.heap.size w w')(h3 : ∀ b, imm b->G.imm b\/Live G mu b) :
      Stp G mu w ⟨fun b=>G.imm b\/(imm' b/\w.heap.size<=b),G.blk⟩ mu w':=by
    have hle:G.le ⟨fun b=>G.imm b\/(imm' b/\w.heap.size<=b),G.blk⟩:=⟨fun b h => .inl h,fun _ _ h=>h⟩;have he:Ext G w.heap w'.heap:=⟨hb.size,fun b hi=>hb.block b (s.imm b hi)⟩;have key:∀ b,Live G mu b->w'.heap[b]?=w.heap[b]?:=fun b hl=>hb.block b (s.livesize hl)
    refine⟨hle,⟨s.len,?_,?_,?_,s.inj,s.tab.mono hle.imm (fun b hi=>hb.block b (s.imm b hi))⟩,fun b hb' _=>hb.block b hb',hb.size,fun b h => .inl h,fun b h=>h.elim .inl (fun e => .inr (.inr e.2)),hb.tape,hb.os,hb.output,hb.drawn⟩
    · intro b hi
      rcases hi with hi|hi
      · exact Nat.lt_of_lt_of_le (s.imm b hi) hb.size
      · exact(h2 b hi.1).1
    · intro i c blk tot hc hd hk
      obtain⟨o',g1,g2⟩:=s.obj i c blk tot hc hd hk;exact⟨o',by rw[key blk ⟨i,_,tot,hc,hd,hk⟩];exact g1,g2.mono hle he⟩
    · intro i c blk tot hc hd hk hi
      rcases hi with hi|hi
      · exact s.live i c blk tot hc hd hk hi
      · have:=s.livesize ⟨i,c,tot,hc,hd,hk⟩;omega
theorem EndR.le{G G':Gh}{h:Array Obj}(hg:G.le G'){a:AEnd}{e:Ending}(r:EndR G h a e):EndR G' h a e:=by
 cases a with
 |ret x=>obtain⟨v,h1,h2⟩:=r;exact⟨v,h1,h2.le hg⟩
 |pan x=>obtain⟨v,h1,h2⟩:=r;exact⟨v,h1,h2.le hg⟩
theorem jh.toSound{P:Program}{f:FuncId}{args args':List AV}{V:AEnd->Prop}(mu:Mu)(h:jh P f args' V)(hw:WKs args args'):qE P f args mu fun e m=>V e/\m=mu:=by
 refine⟨h.1,fun G w vs s ra=>?_⟩;obtain⟨hl,hg⟩:=hw.get;have ra':qM ⟨G.imm,[]⟩ w.heap args' vs:=by
  refine⟨by rw[ra.1,hl],fun k y hy=>?_⟩;have hk:k<args'.length:=(qc.1 hy).1;have hx:args[k]?=some (args[k]'(by omega)):=by rw[qs]
  exact hg k _ y hx hy G w.heap _ (ra.2 k _ hx)
 refine(h.2 G.imm w vs s.bare ra').mono fun e w' ⟨imm',a,hv,hr,h1,h2,hb⟩=>?_
 have st:=WJ s G.imm imm' w' (fun b h=>h) h2 hb (fun b h => .inl h);have hr':EndR ⟨fun b=>G.imm b\/(imm' b/\w.heap.size<=b),G.blk⟩ w'.heap a e:=hr.le ⟨fun b hi=>by
  rcases (h2 b hi).2 with h|h
  .exact .inl h
  .exact .inr ⟨hi,h⟩,fun i x h=>by simp at h⟩
 refine⟨_,mu,st,?_⟩;cases a with
 |ret x=>obtain⟨v,h1,h2⟩:=hr';exact .inl ⟨x,v,⟨hv,rfl⟩,h1,h2⟩
 |pan x=>obtain⟨v,h1,h2⟩:=hr';exact .inr ⟨x,v,⟨hv,rfl⟩,h1,h2⟩
def RdE(mu:Mu):AEnd->AEnd->Prop
 | .ret x,.ret y=>Rd mu x y
 | .pan x,.pan y=>Rd mu x y
 |_,_=>False
theorem jh.of_sound{P:Program}{f:FuncId}{args:List AV}{V:AEnd->Prop}(h:qE P f args [] fun e mu'=>∃ e',V e'/\RdE mu' e e'):jh P f args V:=by
 obtain⟨hcal,h⟩:=h;refine⟨hcal,fun imm w vs hi ra=>?_⟩;refine(h ⟨imm,[]⟩ w vs hi ra).mono fun e w' ⟨G',mu',st,hR⟩=>?_
 have nolive:∀ b,¬Live ⟨imm,[]⟩ [] b:=fun b ⟨i,c,t,hc,_⟩=>by simp at hc
 have fin:∀ a,V a->EndR ⟨fun b=>G'.imm b\/Live G' mu' b,[]⟩ w'.heap a e->∃ imm' a,V a/\EndR ⟨imm',[]⟩ w'.heap a e/\(∀ b,imm b->imm' b)/\(∀ b,imm' b->b<w'.heap.size/\(imm b\/w.heap.size<=b))/\j5 w.heap.size w w':=by
  intro a hv hr;refine⟨fun b=>G'.imm b\/Live G' mu' b,a,hv,hr,fun b hb => .inl (st.le.imm b hb),fun b hb=>?_,⟨st.os,st.tape,st.output,st.size,fun k hk=>st.keep k hk (nolive k)⟩,st.drawn⟩;rcases hb with hb|hb
  .refine ⟨st.sim.imm b hb,?_⟩
   rcases st.inew b hb with h|h|h
   .exact .inl h
   .exact absurd h (nolive b)
   .exact .inr h
  .refine ⟨st.sim.livesize hb,?_⟩
   rcases st.live b hb with h|h
   .exact absurd h (nolive b)
   .exact .inr h
 rcases hR with ⟨r',v,⟨e',hv,hrd⟩,rfl,hu⟩|⟨r',v,⟨e',hv,hrd⟩,rfl,hu⟩
 .cases e' with
  |ret y=>exact fin _ hv ⟨v,rfl,hrd.sound st.sim hu⟩
  |pan y=>exact hrd.elim
 .cases e' with
  |ret y=>exact hrd.elim
  |pan y=>exact fin _ hv ⟨v,rfl,hrd.sound st.sim hu⟩
@[go_sem] theorem RdE_ret(mu:Mu)(x y:AV):RdE mu (.ret x) (.ret y)=Rd mu x y:=eqS rfl
theorem qd.eff0{P:Program}{mu:Mu}{g:FuncId}{args:List AV}{R:AEnd->Mu->Prop}{K Kp:AV->Mu->Prop}(hs:qE P g args mu R)(k:∀ r m,R (.ret r) m->K r m)(kp:∀ r m,R (.pan r) m->Kp r m) :
  qd P false mu (.fn (.func g) [] []) args K Kp:=
 .inr ⟨rfl,.inl ⟨g,[],[],R,rfl,by simpa using hs,k,kp⟩⟩
theorem qE.hid{P:Program}{f:FuncId}{args:List AV}{mu:Mu}{R:AEnd->Mu->Prop}{i:Nat}{c:Cell}(hc:mu[i]?=some c)(hd:c ≠ .dead)(h:qE P f args (mu.set i .dead) R) :
  qE P f args mu fun e m=>∃ m',R e m'/\m'[i]?=some .dead/\m=m'.set i c:=by
 refine⟨h.1,fun G w vs s ra=>?_⟩;have hj:i<G.blk.length:=by rw[s.len];exact(qc.1 hc).1
 refine(h.2 G w vs (s.hid i) ra).mono fun e w' ⟨G',m',t,hR⟩=>?_
 obtain⟨g1,g2,g3⟩:=t.unhid s hc hd (b:=(G.blk[i]'hj).1) (t:=(G.blk[i]'hj).2) (by simp[hj]);refine⟨G',m'.set i c,g3,?_⟩;rcases hR with ⟨r,v,hr,he,hv⟩|⟨r,v,hr,he,hv⟩
 .exact .inl ⟨r,v,⟨m',hr,g1,rfl⟩,he,hv⟩
 .exact .inr ⟨r,v,⟨m',hr,g1,rfl⟩,he,hv⟩
attribute [go_sem] jQ
def wc(P:Program)(pl:Pol)(rs:List ResultVar)(R:AEnd->Mu->Prop)(ops:Array Oper)(rest:Code)(st:St):Option (List Oper×Oper)->Prop
 |some (pre,o)=>awpS P pl false ops pre (fun st=>jR P pl rs R o rest st) (fun v st=>R (.pan v) st.mu) st
 |none=>awpS P pl false ops ops.toList (fun st=>awpD P pl rs R rest st) (fun v st=>R (.pan v) st.mu) st
@[go_sem ↓] theorem awpD_seq{P:Program}{pl:Pol}{rs:List ResultVar}{R:AEnd->Mu->Prop}{id:Nat}{ops:Array Oper}{rest:Code}{st:St} :
  awpD P pl rs R (.seq (.region id ops false) rest) st=wc P pl rs R ops rest st (jQ ops):=by
 cases h:jQ ops<;>simp only[awpD,wc,h]
@[go_sem] theorem kS{P:Program}{pl:Pol}{rs:List ResultVar}{R:AEnd->Mu->Prop}{ops:Array Oper}{rest:Code}{st:St}{pre:List Oper}{o:Oper} :
  wc P pl rs R ops rest st (some (pre,o))=awpS P pl false ops pre (fun st=>jR P pl rs R o rest st) (fun v st=>R (.pan v) st.mu) st:=eqS rfl
@[go_sem] theorem kT{P:Program}{pl:Pol}{rs:List ResultVar}{R:AEnd->Mu->Prop}{ops:Array Oper}{rest:Code}{st:St} :
  wc P pl rs R ops rest st none=awpS P pl false ops ops.toList (fun st=>awpD P pl rs R rest st) (fun v st=>R (.pan v) st.mu) st:=eqS rfl
theorem jR.intro{P:Program}{pl:Pol}{rs:List ResultVar}{R:AEnd->Mu->Prop}{x:Operand}{args:Array Operand}{ats:Array TypeId}{ty:TypeId}{pos:String}{af:Array Edge}{gd:Option (Nat×Bool)}{d:Option Tmp}{rest:Code}{st:St}{g:FuncId}{first caps:List AV}
  (hx:st.ev x = .fn (.func g) first caps) (hcal:zn P g) (h:awp P pl rest (QN P rs g (first++evs st.ev args.toList++caps) R) st) :
  jR P pl rs R { dst:=d,op := .defer { callee := .value x,args:=args,argTypes:=ats },type:=ty,pos:=pos,after:=af,guard:=gd } rest st:=
 ⟨x,args,ats,g,first,caps,rfl,hx,hcal,h⟩
@[go_sem] theorem PostD_ret{P:Program}{rs:List ResultVar}{g:FuncId}{dargs:List AV}{R:AEnd->Mu->Prop}{st:St}:QN P rs g dargs R .ret st=zV P g dargs st.mu none fun mu'=>OptK (zT P ⟨st.tm,mu'⟩ rs) fun r=>R (.ret r) mu':=eqS rfl
theorem zV.mono{P:Program}{g:FuncId}{args:List AV}{mu:Mu}{m:Option AV}{R R':Mu->Prop}(h:zV P g args mu m R)(k:∀ mu',R mu'->R' mu'):zV P g args mu m R':=
 ⟨h.1,fun G w vs u s ra hm=>(h.2 G w vs u s ra hm).mono fun e u' w' ⟨v,G',mu',h1,h2,h3,h4⟩=>⟨v,G',mu',h1,h2,h3,k _ h4⟩⟩
theorem Rd.aggs{mu:Mu}{xs ys:List AV}(h:Rds mu xs ys):Rd mu (.agg xs) (.agg ys) := .agg _ _ h.get.1 h.get.2
end Go.Ev
namespace Go.Proofs.YtccifccjhgdikaaGreatDoor
open Go Go.Ev Go.Proofs Tryz
namespace Y1
inductive Nd where
 |mk (op:Int) (name:ByteArray) (n:Int) (kids:List Nd) (pos:Int)
def Nd.op:Nd->Int | .mk o _ _ _ _=>o
def Nd.name:Nd->ByteArray | .mk _ s _ _ _=>s
def Nd.n:Nd->Int | .mk _ _ n _ _=>n
def Nd.kids:Nd->List Nd | .mk _ _ _ ks _=>ks
def Nd.pos:Nd->Int | .mk _ _ _ _ p=>p
abbrev aS(s:ByteArray):AV := .sc (.string s)
mutual
def cNd:Nd->List AV
 | .mk op nm n ks p=>[aI op,aS nm,aI n,.lst false (cNds ks),aI p]
def cNds:List Nd->List (List AV)
 | []=>[]
 |k :: ks=>cNd k :: cNds ks
end
theorem Js:∀ ks:List Nd,cNds ks=ks.map cNd
 | []=>by simp[cNds]
 |k :: ks=>by simp[cNds,Js ks]
theorem we(n:Nd):cNd n=[aI n.op,aS n.name,aI n.n,.lst false (n.kids.map cNd),aI n.pos]:=by
 obtain⟨op,nm,k,ks,p⟩:=n;simp[cNd,Js,Nd.op,Nd.name,Nd.n,Nd.kids,Nd.pos]
@[go_sem] theorem QP(n:Nd):(cNd n).length=5:=by rw[we];rfl
@[go_sem] theorem Jt(n:Nd):(cNd n).all AV.one=true:=by rw[we];rfl
abbrev eNd(n:Nd):AV := .agg (cNd n)
mutual
theorem QR:∀(n:Nd),∀ c,c∈cNd n->HF c
 | .mk op nm n ks p=>by
  intro c hc;simp only[cNd,qz,zz,or_false]at hc;rcases hc with rfl|rfl|rfl|rfl|rfl
  .exact HF.sc _
  .exact HF.sc _
  .exact HF.sc _
  .exact HF.lst (Ju ks)
  .exact HF.sc _
theorem Ju:∀(ks:List Nd),∀ r,r∈cNds ks->∀ c,c∈r->HF c
 | []=>by intro r hr;simp[cNds]at hr
 |k :: ks=>by
  intro r hr;simp only[cNds,qz]at hr;rcases hr with rfl|hr
  .exact QR k
  .exact Ju ks r hr
end
abbrev wh(e p:Int):AV := .ifc 244 (.agg [aI e,aI p])
theorem WL(mu:Mu)(b:Nat)(x y:AV)(hb:mu[b]?=some (.arr [x,y])):zV qa 179 [.ptr b 0] mu none fun mu'=>mu'=mu:=by
 refine zV.of_awp call179 func179 rfl ⟨_,_,_,_,rfl⟩ (ze (by kernel_rfl)) (by kernel_rfl) (by kernel_rfl) (pl:={}) ?_;simp[go_sem]
end Y1
namespace Y2
abbrev aT(t:List Int):AV := .agg (t.map fun x => .sc (.int .i8 x))
structure Kd where
 ar:Int
 ts:List (List Int)
abbrev mKd(ts:List (List Int)):AV := .ims (ts.map fun t=>(aT t,aB true))
abbrev cKd(k:Kd):List AV:=[aI k.ar,mKd k.ts]
end Y2
namespace Y3
end Y3
namespace Y4
end Y4
namespace P1
open Y1 Y2
abbrev Tp:=List Int
structure Pd where
 name:ByteArray
 params:List (ByteArray×Int)
 body:Nd
structure TS where
 sorts:List (ByteArray×Bool)
 fields:List Fld
 preds:List Pd
 facts:List (ByteArray×Nd)
def pairs(a b:List Tp):List (Tp×Tp):=a.flatMap fun x=>b.map fun y=>(x,y)
abbrev Dg:=Int×Int
abbrev Res:=Except Dg (Option Kd)
end P1
end Go.Proofs.YtccifccjhgdikaaGreatDoor
namespace Go.Ev
open Go
structure KeyT (P:Program) (kt:TypeId) {κ:Type} [DecidableEq κ] (kenc:κ->AV) (ok:κ->Prop):Prop where
 eq:∀ a b,ok a->ok b->zK P kt (kenc a) (kenc b)=some (decide (a=b))
 kok:∀ a,ok a->zo P kt (kenc a)=true
section
variable {κ α:Type} [DecidableEq κ]
def yL(k:κ):List (κ×α)->Nat->Option Nat
 | [],_=>none
 |e :: es,i=>if k=e.1 then some i else yL k es (i+1)
def getK(k:κ):List (κ×α)->Option α
 | []=>none
 |e :: es=>if k=e.1 then some e.2 else getK k es
def setK(k:κ)(v:α):List (κ×α)->List (κ×α)
 | []=>[(k,v)]
 |e :: es=>if k=e.1 then (k,v) :: es else e :: setK k v es
theorem Jv{k:κ}:∀{es:List (κ×α)} {i:Nat} {j:Nat},yL k es i=some j->∃ n v,j=i+n/\es[n]?=some (k,v)/\getK k es=some v
 | [],_,_,h=>by simp[yL]at h
 |e :: es,i,j,h=>by
  unfold yL at h;unfold getK;split at h
  .rename_i hk
   subst hk;simp only[qb]at h;subst h;exact⟨0,e.2,rfl,rfl,by simp⟩
  .rename_i hk
   obtain⟨n,v,rfl,h1,h2⟩:=Jv h;exact⟨n+1,v,by omega,by simpa using h1,by rw[if_neg hk];exact h2⟩
theorem wi{k x:κ}{v:α}:∀{es:List (κ×α)},getK x (setK k v es)=if x=k then some v else getK x es
 | []=>by simp[setK,getK]
 |e :: es=>by
  unfold setK;split
  .rename_i hk
   subst hk;by_cases hx:x=e.1
   .simp [getK,hx]
   .simp [getK,hx]
  .rename_i hk
   by_cases hx:x=e.1
   .have:x≠k:=fun h=>hk (by rw[<-h,hx])
    rw[if_neg this];simp[getK,hx]
   .simp only[getK,if_neg hx,wi]
theorem QS{k:κ}{v:α}:∀{es:List (κ×α)},(es.map Prod.fst).Nodup->(getK k es=some v↔(k,v)∈es)
 | [],_=>by simp[getK]
 |e :: es,h=>by
  rw[List.map_cons,yB]at h;unfold getK;by_cases hk:k=e.1
  .rw [if_pos hk]
   subst hk;refine⟨fun h=>?_,fun hm=>?_⟩
   .cases h;exact yz
   .rcases qz.1 hm with h1|h1
    .rw [<-h1]
    .exact absurd (qr.2 ⟨_,h1,rfl⟩) h.1
  .rw [if_neg hk,QS h.2,qz]
   exact⟨.inr,fun h=>h.elim (fun e=>absurd (congrArg Prod.fst e) hk) id⟩
def delK(k:κ):List (κ×α)->List (κ×α)
 | []=>[]
 |e :: es=>if k=e.1 then es else e :: delK k es
theorem Jw{k:κ}:∀{es:List (κ×α)} {i:Nat},(match yL k es i with|some j=>es.eraseIdx (j-i)|none=>es)=delK k es
 | [],i=>by simp[yL,delK]
 |e :: es,i=>by
  unfold yL delK;by_cases hk:k=e.1
  .simp [hk]
  .rw [if_neg hk,if_neg hk,<-Jw (i:=i+1)]
   cases hp:yL k es (i+1) with
   |none=>rfl
   |some j =>
    obtain⟨n,v,hj,_⟩:=Jv hp;simp only;rw[show j-i=(j-(i+1))+1 by omega,List.eraseIdx_cons_succ]
abbrev encK(kenc:κ->AV)(venc:α->AV)(es:List (κ×α)):List (AV×AV):=es.map fun e=>(kenc e.1,venc e.2)
variable {P:Program} {kt:TypeId} {kenc:κ->AV} {ok:κ->Prop} {venc:α->AV}
theorem KeyT.find(h:KeyT P kt kenc ok){k:κ}(hk:ok k):∀{es:List (κ×α)} {i:Nat},(∀ e,e∈es->ok e.1)->qA P kt (kenc k) (encK kenc venc es) i=some (yL k es i)
 | [],i,_=>rfl
 |e :: es,i,ho=>by
  simp only[encK,List.map_cons,qA,h.eq k e.1 hk (ho e (by simp)),yL];by_cases hx:k=e.1
  .simp [hx]
  .simp only[hx,decide_false,if_false]
   exact KeyT.find h hk (fun e he=>ho e (by simp[he]))
theorem Jx{β γ:Type}(f:β->γ):∀(l:List β) (i:Nat),(l.map f).eraseIdx i=(l.eraseIdx i).map f
 | [],_=>rfl
 |x :: l,0=>rfl
 |x :: l,i+1=>by simp[Jx f l i]
theorem KeyT.delete(h:KeyT P kt kenc ok){et:TypeId}{t t':TypeId}(ht:mapT P t=some (kt,et)){mu:Mu}{b:Nat}{es:List (κ×α)}(hm:mu[b]?=some (.mp (encK kenc venc es))){k:κ}(hk:ok k)(ho:∀ e,e∈es->ok e.1){K:AV->Mu->Prop}
  (kk:K (.tup []) (mu.set b (.md (encK kenc venc (delK k es))))):jI P mu .delete #[t,t'] [.mp b,kenc k] K:=by
 refine Wl ht hm (h.kok k hk) (h.find (venc:=venc) hk ho) ?_;have:=Jw (k:=k) (es:=es) (i:=0);rw[<-this]at kk;cases hp:yL k es 0 with
 |none=>simpa only[hp,delE] using kk
 |some j =>
  simp only[hp,Nat.sub_zero]at kk;have e:delE (encK kenc venc es) (some j)=encK kenc venc (es.eraseIdx j):=by simp only[delE,encK,Jx]
  rw[e];exact kk
end
section
variable (n:Nat) (J:List Nat->St->Prop) (seen:List Nat) (Q:qv->St->Prop) (st:St)
end
theorem qx.upK{P:Program}{pl:Pol}{body:Code}{Q:qv->St->Prop}{st:St}(N:Nat)(I:Nat->St->Prop)(h0:I 0 st)(h:∀ k st,k<=N->I k st->awp P pl body (upQ (fun k=>Keep (I k) .mk) N k Q) st):qx P pl body Q st:=
 qx.up N (fun k=>Keep (I k) .mk) h0 h
theorem Keep.mk'{p:St->Prop}{st:St}(h:p st):Keep p .mk st:=h
end Go.Ev
namespace Go.Proofs.YtccifccjhgdikaaGreatDoor
open Go Go.Ev Go.Proofs Tryz
namespace YM
end YM
namespace Y5
end Y5
namespace Y6
end Y6
namespace Y7
end Y7
namespace Y8
open Y2
structure ok2 (k:Kd):Prop where
 ar:k.ar=2
 nd:k.ts.Nodup
 ts:∀ t,t∈k.ts->∃ x y:Int,t=[x,y,0]/\0<=x/\x<4/\0<=y/\y<4
theorem ok2.len{k:Kd}(h:ok2 k):k.ts.length<=16:=by
 have hsub:∀ t,t∈k.ts->t∈(qg 4).flatMap fun (x:Nat)=>(qg 4).map fun (y:Nat)=>[(x:Int),(y:Int),0]:=by
  intro t ht;obtain⟨x,y,rfl,h1,h2,h3,h4⟩:=h.ts t ht;rw[List.mem_flatMap];refine⟨x.toNat,yD.2 (by omega),qr.2 ⟨y.toNat,yD.2 (by omega),?_⟩⟩;rw[show ((x.toNat:Nat):Int)=x by omega,show ((y.toNat:Nat):Int)=y by omega]
 have:=yQ h.nd hsub;exact zt this (by decide)
end Y8
end Go.Proofs.YtccifccjhgdikaaGreatDoor
namespace Go.Ev
open Go Go.RowKit
end Go.Ev
namespace Go.Proofs
open Go.Shelf
def Tryz.laysNm225_ren:Go.Shelf.Ren:=⟨fun|25=>48|31=>81|32=>82|37=>106|n=>n,fun|22=>28|3=>3|4=>4|40=>129|0=>0|n=>n,fun|n=>n⟩
theorem Tryz.laysNm225:Go.Proofs.Lays2.n25 qa Tryz.laysNm225_ren:={
 mixed:=by kernel_rfl
 f25:=func48.trans (congrArg some (by kernel_rfl))
 f31:=func81.trans (congrArg some (by kernel_rfl))
 f32:=func82.trans (congrArg some (by kernel_rfl))
 f37:=func106.trans (congrArg some (by kernel_rfl))
 t0:=Tryz.underlying0
 a0:=Tryz.isAgg0
 z0:=Tryz.sizeOf0
 v0:=Tryz.zeroValue0
 t3:=Tryz.underlying3
 a3:=Tryz.isAgg3
 z3:=Tryz.sizeOf3
 v3:=Tryz.zeroValue3
 t4:=Tryz.underlying4
 a4:=Tryz.isAgg4
 z4:=Tryz.sizeOf4
 v4:=Tryz.zeroValue4
 t22:=Tryz.underlying28
 a22:=Tryz.isAgg28
 z22:=Tryz.sizeOf28
 v22:=Tryz.zeroValue28
 t40:=Tryz.underlying129
 a40:=Tryz.isAgg129
 z40:=Tryz.sizeOf129
 v40:=Tryz.zeroValue129 }
open Go.RowKit Go.Lib in
theorem Tryz.slices_BinarySearch_int(b off n c:Nat)(zs:List Int)(x:Int)(w:World)(hz:n<=zs.length)(hbig:n<4611686018427387904)(hc:∀ j,j<zs.length->w.cell? ⟨b,off+j,none⟩=some (.int .i64 (zs.getD j 0)))(hs:(zs.take n).Pairwise (·<=·)) :
  Calls qa 48 #[.slice (some ⟨b,off,none⟩) n c,.int .i64 x] w fun e w'=>e = .returned (.tuple #[.int .i64 ((zs.take n).countP (·<x):Nat),.bool ((zs.take n).contains x)])/\∃ q,w'=w.drewN q:=Any.slices_BinarySearch_int Tryz.laysNm225 b off n c zs x w hz hbig hc hs
open Go.RowKit Go.Lib in
theorem Tryz.slices_BinarySearch_int_empty(a:Option Addr)(c:Nat)(x:Int)(w:World) :
  Calls qa 48 #[.slice a 0 c,.int .i64 x] w fun e w'=>e = .returned (.tuple #[.int .i64 0,.bool false])/\w'=w:=Any.slices_BinarySearch_int_empty Tryz.laysNm225 a c x w
end Go.Proofs
namespace Go.Proofs.YtccifccjhgdikaaGreatDoor
open Go Go.Ev Go.Proofs Tryz
namespace YS
theorem vq(xs:List Int):(xs.map rI).flatten=xs.map aI:=by
 induction xs with
 |nil=>rfl
 |cons x xs ih=>simp[ih]
end YS
namespace YF
open Y1 P1
abbrev cPm(p:ByteArray×Int):List AV:=[aS p.1,aI p.2]
abbrev lPm(l:List (ByteArray×Int)):AV := .lst false (l.map cPm)
abbrev cPd(p:Pd):List AV:=aS p.name :: lPm p.params :: cNd p.body
abbrev lPd(l:List Pd):AV := .lst false (l.map cPd)
abbrev cFa(f:ByteArray×Nd):List AV:=aS f.1 :: cNd f.2
abbrev lSo(l:List (ByteArray×Bool)):AV := .lst false (l.map u9)
abbrev lFl(l:List Fld):AV := .lst false (l.map wa)
abbrev lFa(l:List (ByteArray×Nd)):AV := .lst false (l.map cFa)
abbrev cTS(s:TS):List AV:=[lSo s.sorts,lFl s.fields,lPd s.preds,lFa s.facts]
abbrev eTS(s:TS):AV := .agg (cTS s)
theorem WM(p:ByteArray×Int):∀ c,c∈cPm p->HF c:=by
 intro c hc;simp at hc;rcases hc with rfl|rfl<;>exact HF.sc _
theorem WN(l:List (ByteArray×Int)):HF (lPm l):=HF.lst fun r hr c hc=>by
 obtain⟨p,_,rfl⟩:=qr.1 hr;exact WM p c hc
theorem WO(p:Pd):∀ c,c∈cPd p->HF c:=by
 intro c hc;simp only[cPd,qz]at hc;rcases hc with rfl|rfl|hc
 .exact HF.sc _
 .exact WN _
 .exact QR p.body c hc
theorem WP(l:List Pd):HF (lPd l):=HF.lst fun r hr c hc=>by
 obtain⟨p,_,rfl⟩:=qr.1 hr;exact WO p c hc
theorem WQ(p:ByteArray×Nd):∀ c,c∈cFa p->HF c:=by
 intro c hc;simp only[cFa,qz]at hc;rcases hc with rfl|hc
 .exact HF.sc _
 .exact QR p.2 c hc
theorem WR(l:List (ByteArray×Nd)):HF (lFa l):=HF.lst fun r hr c hc=>by
 obtain⟨p,_,rfl⟩:=qr.1 hr;exact WQ p c hc
theorem WS(p:ByteArray×Bool):∀ c,c∈u9 p->HF c:=by
 intro c hc;simp at hc;rcases hc with rfl|rfl<;>exact HF.sc _
theorem WT(l:List (ByteArray×Bool)):HF (lSo l):=HF.lst fun r hr c hc=>by
 obtain⟨p,_,rfl⟩:=qr.1 hr;exact WS p c hc
theorem WU(l:List Fld):HF (lFl l):=HF.lst fun r hr c hc=>by
 obtain⟨p,_,rfl⟩:=qr.1 hr;exact WB p c hc
theorem WV(s:TS):∀ c,c∈cTS s->HF c:=by
 intro c hc;simp only[cTS,qz,zz,or_false]at hc;rcases hc with rfl|rfl|rfl|rfl
 .exact WT _
 .exact WU _
 .exact WP _
 .exact WR _
theorem yM(s:TS):HF (eTS s):=HF.agg (WV s)
theorem WW(p:Pd):(cPd p).length=7/\(cPd p).all AV.one=true:=⟨by simp[cPd,QP],by simp only[cPd,List.all_cons,Jt];rfl⟩
theorem WX(p:ByteArray×Nd):(cFa p).length=6/\(cFa p).all AV.one=true:=⟨by simp[cFa,QP],by simp only[cFa,List.all_cons,Jt];rfl⟩
end YF
namespace JB
open Y1
def QT:zL:=fun F args mu=>match args with
 | [.fn (.func g) [] caps]=>match F g caps (mu++[.dead]) with
  |some (r,m)=>some (.agg [aI 0,aI 0],m.set mu.length (.arr [aI 0,aI 0]))
  |none=>none
 |_=>none
theorem WY:zU qa 155 QT:=by
 intro F hF args mu v m h;unfold QT at h;split at h
 .rename_i g caps
  split at h
  .rename_i r m' hr
   cases h;have hs:=hF _ _ _ _ _ hr;refine qE.of_awpD call155 func155 rfl (ze (by kernel_rfl)) (by kernel_rfl) (pl:={}) ?_;simp[go_sem];refine jR.intro (g:=179) (first:=[]) (caps:=[.ptr mu.length 0]) (by simp[go_sem]) call179 ?_;simp[go_sem];refine qd.eff (qE.hid (i:=mu.length) (c := .arr [aI 0,aI 0]) (by simp) (by simp) (by simpa using hs)) ?_ ?_
   .rintro r1 m1 ⟨m2,⟨hR,hm⟩,hd,rfl⟩
    subst hm;have hl:mu.length<m2.length:=(qc.1 hd).1;have hg:(m2.set mu.length (.arr [aI 0,aI 0]))[mu.length]?=some (.arr [aI 0,aI 0]):=zi hl;simp[go_sem,hg,hl];refine zV.mono (WL _ mu.length (aI 0) (aI 0) hg) ?_;rintro _ rfl;simp[go_sem,hg,hl]
   .rintro r1 m1 ⟨m2,⟨hR,hm⟩,hd,rfl⟩
    cases hR
  .cases h
 .cases h
def calL:List {f:FuncId // zn qa f}:=[⟨3,call3⟩,⟨4,call4⟩,⟨5,call5⟩,⟨6,call6⟩,⟨7,call7⟩,⟨8,call8⟩,⟨9,call9⟩,⟨10,call10⟩,⟨11,call11⟩,⟨12,call12⟩,⟨13,call13⟩,⟨14,call14⟩,⟨15,call15⟩,⟨16,call16⟩,⟨17,call17⟩,⟨18,call18⟩,⟨19,call19⟩,⟨20,call20⟩,⟨21,call21⟩,⟨22,call22⟩,⟨23,call23⟩,⟨24,call24⟩,⟨25,call25⟩,⟨26,call26⟩,⟨27,call27⟩,⟨28,call28⟩,⟨29,call29⟩,⟨30,call30⟩,⟨31,call31⟩,⟨32,call32⟩,⟨33,call33⟩,⟨34,call34⟩,⟨35,call35⟩,⟨36,call36⟩,⟨37,call37⟩,⟨38,call38⟩,⟨39,call39⟩,⟨40,call40⟩,⟨41,call41⟩,⟨42,call42⟩,⟨43,call43⟩,⟨44,call44⟩,⟨45,call45⟩,⟨46,call46⟩,⟨47,call47⟩,⟨48,call48⟩,⟨49,call49⟩,⟨50,call50⟩,⟨51,call51⟩,⟨52,call52⟩,⟨53,call53⟩,⟨54,call54⟩,⟨55,call55⟩,⟨56,call56⟩,⟨57,call57⟩,⟨58,call58⟩,⟨59,call59⟩,⟨60,call60⟩,⟨61,call61⟩,⟨62,call62⟩,⟨63,call63⟩,⟨64,call64⟩,⟨65,call65⟩,⟨66,call66⟩,⟨67,call67⟩,⟨68,call68⟩,⟨69,call69⟩,⟨70,call70⟩,⟨71,call71⟩,⟨72,call72⟩,⟨73,call73⟩,⟨74,call74⟩,⟨75,call75⟩,⟨76,call76⟩,⟨77,call77⟩,⟨78,call78⟩,⟨79,call79⟩,⟨80,call80⟩,⟨81,call81⟩,⟨82,call82⟩,⟨83,call83⟩,⟨84,call84⟩,⟨85,call85⟩,⟨86,call86⟩,⟨87,call87⟩,⟨88,call88⟩,⟨89,call89⟩,⟨90,call90⟩,⟨91,call91⟩,⟨92,call92⟩,⟨93,call93⟩,⟨94,call94⟩,⟨95,call95⟩,⟨96,call96⟩,⟨97,call97⟩,⟨98,call98⟩,⟨99,call99⟩,⟨100,call100⟩,⟨101,call101⟩,⟨102,call102⟩,⟨103,call103⟩,⟨105,call105⟩,⟨106,call106⟩,⟨107,call107⟩,⟨108,call108⟩,⟨109,call109⟩,⟨110,call110⟩,⟨111,call111⟩,⟨112,call112⟩,⟨113,call113⟩,⟨114,call114⟩,⟨115,call115⟩,⟨116,call116⟩,⟨117,call117⟩,⟨118,call118⟩,⟨119,call119⟩,⟨120,call120⟩,⟨121,call121⟩,⟨122,call122⟩,⟨123,call123⟩,⟨124,call124⟩,⟨125,call125⟩,⟨126,call126⟩,⟨127,call127⟩,⟨128,call128⟩,⟨129,call129⟩,⟨130,call130⟩,⟨131,call131⟩,⟨132,call132⟩,⟨133,call133⟩,⟨134,call134⟩,⟨135,call135⟩,⟨136,call136⟩,⟨137,call137⟩,⟨138,call138⟩,⟨139,call139⟩,⟨140,call140⟩,⟨141,call141⟩,⟨142,call142⟩,⟨143,call143⟩,⟨144,call144⟩,⟨145,call145⟩,⟨146,call146⟩,⟨147,call147⟩,⟨148,call148⟩,⟨149,call149⟩,⟨150,call150⟩,⟨151,call151⟩,⟨152,call152⟩,⟨153,call153⟩,⟨154,call154⟩,⟨155,call155⟩,⟨156,call156⟩,⟨157,call157⟩,⟨158,call158⟩,⟨159,call159⟩,⟨160,call160⟩,⟨161,call161⟩,⟨162,call162⟩,⟨163,call163⟩,⟨164,call164⟩,⟨165,call165⟩,⟨166,call166⟩,⟨167,call167⟩,⟨168,call168⟩,⟨169,call169⟩,⟨170,call170⟩,⟨171,call171⟩,⟨172,call172⟩,⟨173,call173⟩,⟨174,call174⟩,⟨175,call175⟩,⟨176,call176⟩,⟨177,call177⟩,⟨178,call178⟩,⟨179,call179⟩,⟨180,call180⟩,⟨181,call181⟩,⟨182,call182⟩,⟨183,call183⟩,⟨184,call184⟩,⟨185,call185⟩,⟨186,call186⟩,⟨187,call187⟩,⟨188,call188⟩,⟨189,call189⟩,⟨190,call190⟩,⟨191,call191⟩,⟨192,call192⟩,⟨193,call193⟩,⟨194,call194⟩,⟨195,call195⟩,⟨196,call196⟩,⟨197,call197⟩,⟨198,call198⟩,⟨199,call199⟩,⟨200,call200⟩,⟨201,call201⟩,⟨202,call202⟩,⟨203,call203⟩,⟨204,call204⟩,⟨205,call205⟩,⟨206,call206⟩,⟨207,call207⟩,⟨208,call208⟩,⟨209,call209⟩,⟨210,call210⟩,⟨211,call211⟩,⟨212,call212⟩,⟨213,call213⟩,⟨214,call214⟩,⟨215,call215⟩,⟨216,call216⟩,⟨217,call217⟩,⟨218,call218⟩,⟨219,call219⟩,⟨220,call220⟩,⟨221,call221⟩,⟨222,call222⟩,⟨223,call223⟩,⟨224,call224⟩,⟨225,call225⟩,⟨226,call226⟩,⟨227,call227⟩,⟨228,call228⟩,⟨229,call229⟩,⟨230,call230⟩,⟨231,call231⟩,⟨232,call232⟩,⟨233,call233⟩,⟨234,call234⟩,⟨235,call235⟩,⟨236,call236⟩,⟨237,call237⟩,⟨238,call238⟩,⟨239,call239⟩,⟨240,call240⟩,⟨242,call242⟩,⟨243,call243⟩,⟨244,call244⟩,⟨245,call245⟩,⟨246,call246⟩,⟨247,call247⟩,⟨248,call248⟩,⟨249,call249⟩,⟨250,call250⟩,⟨251,call251⟩,⟨252,call252⟩,⟨253,call253⟩,⟨254,call254⟩,⟨255,call255⟩,⟨256,call256⟩,⟨257,call257⟩,⟨258,call258⟩,⟨259,call259⟩,⟨260,call260⟩,⟨261,call261⟩,⟨262,call262⟩,⟨263,call263⟩,⟨264,call264⟩,⟨265,call265⟩,⟨266,call266⟩,⟨267,call267⟩,⟨268,call268⟩,⟨269,call269⟩,⟨270,call270⟩,⟨271,call271⟩,⟨272,call272⟩,⟨273,call273⟩,⟨275,call275⟩,⟨276,call276⟩,⟨277,call277⟩,⟨278,call278⟩,⟨279,call279⟩,⟨280,call280⟩,⟨281,call281⟩,⟨283,call283⟩,⟨284,call284⟩,⟨285,call285⟩,⟨286,call286⟩,⟨287,call287⟩,⟨288,call288⟩,⟨289,call289⟩,⟨290,call290⟩,⟨291,call291⟩,⟨292,call292⟩,⟨294,call294⟩,⟨295,call295⟩,⟨297,call297⟩]
end JB
namespace Y9
open Y1
inductive wj:Nd->Prop where
 |mk (n:Nd) (h:n.kids.length<=1000) (hk:∀ k,k∈n.kids->wj k):wj n
theorem wj.len{n:Nd}(h:wj n):n.kids.length<=1000:=by cases h;assumption
end Y9
namespace E1
theorem WZ{n:Int}(h0:0<=n)(h1:n<=20):∀ i:Nat,i<=3->0<=n ^ i/\n ^ i<=8000:=by
 have a1:0<=n*n:=Int.mul_nonneg h0 h0;have a2:n*n<=20*20:=Int.mul_le_mul h1 h1 h0 (by omega);have a3:0<=n*n*n:=Int.mul_nonneg a1 h0;have a4:n*n*n<=20*20*20:=Int.mul_le_mul a2 h1 h0 (by omega);intro i hi
 match i,hi with
 | 0,_=>rw[Int.pow_zero];omega
 | 1,_=>rw[Int.pow_succ,Int.pow_zero];omega
 | 2,_=>rw[Int.pow_succ,Int.pow_succ,Int.pow_zero,Int.one_mul];omega
 | 3,_=>rw[Int.pow_succ,Int.pow_succ,Int.pow_succ,Int.pow_zero,Int.one_mul];omega
def powN(k:Int):Nat:=(min k 3).toNat
def powI(n k:Int):Int:=n ^ powN k
def sorted(l:List Int):Prop:=l.Pairwise (·<·)
instance (l:List Int):Decidable (sorted l):=inferInstanceAs (Decidable (l.Pairwise (·<·)))
theorem QU{l:List Int}(h:sorted l){i j:Nat}(hij:i<j)(hj:j<l.length):l[i]'(by omega)<l[j]:=List.pairwise_iff_getElem.1 h i j (by omega) hj hij
def inOk(a b:Rl):Bool:=a.ts.all (fun t=>decide (t∈b.ts))
theorem W0{l:List Int}(h:sorted l):l.Nodup:=List.Pairwise.imp (fun h e=>by omega) h
structure GR (n:Int) (r:Rl):Prop where
 ar1:1<=r.ar
 ar3:r.ar<=3
 val:∀ t,t∈r.ts->0<=t/\t<powI n r.ar
 srt:sorted r.ts
theorem W3:sorted []:=List.Pairwise.nil
theorem W4{l:List Int}{m:Nat}(hs:sorted l)(h:∀ t,t∈l->0<=t/\t<(m:Int)):l.length<=m:=by
 have:=yQ (l₂:=(qg m).map fun x:Nat=>(x:Int)) (W0 hs) fun x hx=>by
  obtain⟨h1,h2⟩:=h x hx;exact qr.2 ⟨x.toNat,yD.2 (by omega),by omega⟩
 simpa using this
theorem W5{l:List Int}(p:Int->Bool)(h:sorted l):sorted (l.filter p):=List.Pairwise.filter p h
theorem W6{n:Int}(h0:0<=n)(h1:n<=20)(k:Int):0<=powI n k/\powI n k<=8000:=WZ h0 h1 _ (by unfold powN;omega)
theorem GR.len{n:Int}{r:Rl}(h0:0<=n)(h1:n<=20)(g:GR n r):r.ts.length<=8000:=by
 have hp:=W6 h0 h1 r.ar;have:=W4 (m:=(powI n r.ar).toNat) g.srt fun t ht=>by have:=g.val t ht;omega
 omega
theorem GR.filter{n:Int}{a:Rl}(ha:GR n a)(p:Int->Bool):GR n ⟨a.ar,a.ts.filter p⟩:=
 ⟨ha.ar1,ha.ar3,fun t ht=>ha.val t (List.mem_filter.1 ht).1,W5 p ha.srt⟩
end E1
namespace E3
open P1
structure Md where
 sc:Sc
 states:List (List Rl)
 loop:Int
abbrev cSt(s:List Rl):List AV:=[lRel s]
abbrev lSt(l:List (List Rl)):AV := .lst false (l.map cSt)
abbrev cMd(m:Md):List AV:=[lI m.sc.atoms,aI m.sc.steps,lSt m.states,aI m.loop]
abbrev eMd(m:Md):AV := .agg (cMd m)
abbrev XE(α:Type):=Except Int α
structure Pl where
 st:Nat
 env:List (ByteArray×Int)
structure Mo where
 ts:TS
 m:Md
def Mo.n(x:Mo):Int:=sumI x.m.sc.atoms
def Mo.nx(x:Mo)(s:Nat):Nat:=if s+1<x.m.states.length then s+1 else x.m.loop.toNat
end E3
namespace E5
open Y1 E3
variable (x:Mo) (p:Pl) (f g d e:Nd) (nm:ByteArray)
end E5
namespace E7
open E3
def it(x:Mo):Nat->Nat->Nat
 | 0,s=>s
 |k+1,s=>it x k (x.nx s)
end E7
namespace EL
end EL
namespace EJ
end EJ
namespace EM
end EM
end Go.Proofs.YtccifccjhgdikaaGreatDoor
namespace Go.Ev
open Go Go.RowKit
end Go.Ev
namespace Go.Proofs.YtccifccjhgdikaaGreatDoor
open Go Go.Ev Go.Proofs Tryz
namespace EN
end EN
namespace E4
open E1
theorem has06(r:Rl)(x:Int)(hl:r.ts.length<=1000000000)(hs:sorted r.ts):qf qa 21 [eRel r,aI x] (aB (decide (x∈r.ts))):=by
 refine qSQ call21 func21 rfl {} ?_;simp[go_sem];refine qx.keep (fun n st=>∃ lo hi:Nat,n=hi-lo/\st.tm 1=aI x/\st.tm 2 = .ip [aI r.ar,lI r.ts]/\st.tm 5=aI lo/\st.tm 6=aI hi/\st.mu=[]/\lo<=hi/\hi<=r.ts.length/\(∀(i:Nat) (h:i<r.ts.length),i<lo->r.ts[i]<x)/\(∀(i:Nat) (h:i<r.ts.length),hi<=i->x<=r.ts[i])) r.ts.length ?_ ?_
 .exact ⟨0,r.ts.length,by omega,by simp[go_sem],by simp[go_sem],by simp[go_sem],by simp[go_sem],by simp[go_sem],by omega,by omega,fun i h h'=>by omega,fun i h h'=>by omega⟩
 rintro n st ⟨lo,hi,hn,e1,e2,e5,e6,hm,hlh,hhl,hlo,hhi⟩;by_cases hlt:lo<hi
 .have hw:qJ.wrap (qJ.wrap ((lo:Int)+hi) / 2)=(((lo+hi) / 2:Nat):Int):=by
   rw[qo (n:=(lo:Int)+hi) (by omega) (by omega),qo (by omega) (by omega)];omega
  have htd:(qJ.wrap ((lo:Int)+hi)).tdiv 2=qJ.wrap ((lo:Int)+hi) / 2:=Int.tdiv_eq_ediv_of_nonneg (by rw[qo (by omega) (by omega)];omega);have hmid:(lo+hi) / 2<r.ts.length:=by omega
  generalize hmd:(lo+hi) / 2=mid at *
  by_cases hb:r.ts[mid]<x
  .simp [go_sem,e1,e2,e5,e6,hm,hlt,htd,hw,hmid,hb]
   refine Keep.loop (hi-(mid+1)) (by omega) ⟨mid+1,hi,rfl,by simp[go_sem,e1],by simp[go_sem,e2],?_,by simp[go_sem,e6],by simp[go_sem,hm],by omega,by omega,fun i h h'=>?_,hhi⟩
   .simp [go_sem]
    exact qo (by omega) (by omega)
   .rcases Nat.lt_or_ge i mid with h3|h3
    .exact Int.lt_trans (QU hs h3 hmid) hb
    .have:i=mid:=by omega
     subst this;exact hb
  .simp [go_sem,e1,e2,e5,e6,hm,hlt,htd,hw,hmid,hb]
   refine Keep.loop (mid-lo) (by omega) ⟨lo,mid,rfl,by simp[go_sem,e1],by simp[go_sem,e2],by simp[go_sem,e5],by simp[go_sem],by simp[go_sem,hm],by omega,by omega,hlo,fun i h h'=>?_⟩;rcases Nat.lt_or_ge mid i with h3|h3
   .have:=QU hs h3 h;omega
   .have:i=mid:=by omega
    subst this;omega
 .have hge:hi=lo:=by omega
  subst hge;by_cases hin:hi<r.ts.length
  .by_cases he:r.ts[hi]=x
   .simp [go_sem,e1,e2,e5,e6,hm,hin,he]
    have:x∈r.ts:=he ▸ qY hin;simp[this];exact .hf _ (HF.sc _)
   .simp [go_sem,e1,e2,e5,e6,hm,hin,he]
    have:¬x∈r.ts:=fun h=>by
     obtain⟨i,hi',rfl⟩:=wD h;rcases Nat.lt_or_ge i hi with h3|h3
     .have:=hlo i hi' h3;omega
     .rcases Nat.lt_or_ge hi i with h4|h4
      .have:=QU hs h4 hi'
       have:=hhi hi hin (by omega);omega
      .have:i=hi:=by omega
       subst this;exact he rfl
    simp[this];exact .hf _ (HF.sc _)
  .simp [go_sem,e1,e2,e5,e6,hm,hin]
   have:¬x∈r.ts:=fun h=>by
    obtain⟨i,hi',rfl⟩:=wD h;have:=hlo i hi' (by omega);omega
   simp[this];exact .hf _ (HF.sc _)
theorem W7(a b:Rl)(hl:a.ts.length<=1000000000)(hlb:b.ts.length<=1000000000)(hs:sorted b.ts):qf qa 96 [eRel a,eRel b] (eRel ⟨a.ar,a.ts.filter (fun t=>decide (¬t∈b.ts))⟩):=by
 refine qSQ call96 func96 rfl {} ?_;simp[go_sem];refine qx.keep (fun m st=>∃ k av rest,m=a.ts.length-k/\k<=a.ts.length/\st.tm 2 = .ip [aI a.ar,lI a.ts]/\st.tm 3 = .ip [aI b.ar,lI b.ts]/\st.tm 4 = .ptr 0 0/\st.tm 5 = .ptr 1 0/\st.tm 6=aI (k:Nat) /\
  st.mu=[.arr [aI 0,.lst true []],.arr [aI a.ar,av]]++rest/\OwnF 2 ([.dead,.dead]++rest) 1 av (((a.ts.take k).filter (fun t=>decide (¬t∈b.ts))).map rI)) a.ts.length ?_ ?_
 .exact ⟨0,.lst true [],[],by omega,by omega,by simp[go_sem],by simp[go_sem],by simp[go_sem],by simp[go_sem],by simp[go_sem],by simp[go_sem],by simpa using OwnF.nil (by simp)⟩
 rintro m st ⟨k,av,rest,rfl,hk,e2,e3,e4,e5,e6,hm,ho⟩;have ho:=ho.low (low:=[.dead,.dead]) (low':=[.arr [aI 0,.lst true []],.arr [aI a.ar,av]]) rfl;by_cases hlt:k<a.ts.length
 .simp [go_sem,e2,e3,e4,e5,e6,hlt]
  refine qI.intro (by kernel_rfl) ?_;simp[go_sem,e2,e3,e4,e5,e6,hlt];refine qd.pure (has06 b a.ts[k] hlb hs) (.cons (.hf (vo b)) (.cons (.hf (HF.sc _)) .nil)) ?_;have htk:a.ts.take (k+1)=a.ts.take k++[a.ts[k]]:=by rw[List.take_add_one,qs hlt];rfl
  by_cases hb:a.ts[k]∈b.ts
  .simp [go_sem,e2,e3,e4,e5,e6,hlt,hb]
   refine Keep.loop (a.ts.length-(k+1)) (by omega) ⟨k+1,av,rest,rfl,by omega,by simp[go_sem,e2],by simp[go_sem,e3],by simp[go_sem,e4],by simp[go_sem,e5],?_,by simp[go_sem,hm],?_⟩
   .simp [go_sem];exact qo (by omega) (by omega)
   .rw [htk,List.filter_append];simpa[go_sem,hb] using ho.low (low':=[.dead,.dead]) rfl
  .simp [go_sem,e2,e3,e4,e5,e6,hlt,hb]
   refine qI.intro (by kernel_rfl) ?_;simp[go_sem,e2,e3,e4,e5,e6,hlt,hb,hm];refine qD.intsL (low:=[.arr [aI 0,.lst true []],.arr [aI a.ar,av]]) (e:=3) (bt:=8) (z:=0) (xs:=(a.ts.take k).filter (fun t=>decide (¬t∈b.ts))) (ys:=[a.ts[k]]) (by simp[go_sem]) (by simp[go_sem]) (by simp[go_sem]) (by omega) ho (by simp[qZ]) ?_ ?_
   .have:=List.length_filter_le (fun t=>decide (¬t∈b.ts)) (a.ts.take k)
    have:=List.length_take_le k a.ts;have h3:[a.ts[k]].length=1:=rfl;omega
   intro av' rest' ho';simp[go_sem,e2,e3,e4,e5,e6,hlt,hb,ho'.cells,ho'.one];refine Keep.loop (a.ts.length-(k+1)) (by omega) ⟨k+1,av',rest',rfl,by omega,by simp[go_sem,e2],by simp[go_sem,e3],by simp[go_sem,e4],by simp[go_sem,e5],?_,by simp[go_sem],?_⟩
   .simp [go_sem];exact qo (by omega) (by omega)
   .rw [htk,List.filter_append]
    simpa[go_sem,hb] using ho'.low (low':=[.dead,.dead]) rfl
 .have hge:k=a.ts.length:=by omega
  subst hge;simp[go_sem,e2,e3,e4,e5,e6,hm,ho.one];rw[List.take_length]at ho;simp at ho;exact Rd.rel (r:=⟨a.ar,a.ts.filter (fun t=>!decide (t∈b.ts))⟩) (ho.low (low:=[.arr [aI 0,.lst true []],.arr [aI a.ar,av]]) (low':=[.arr [aI a.ar,av],.arr [aI a.ar,av]]) rfl).rdI
theorem in06(a b:Rl)(hl:a.ts.length<=1000000000)(hlb:b.ts.length<=1000000000)(hs:sorted b.ts):qf qa 67 [eRel a,eRel b] (aB (inOk a b)):=by
 refine qSQ call67 func67 rfl {} ?_;simp[go_sem];refine qd.pure (W7 a b hl hlb hs) (.cons (.hf (vo a)) (.cons (.hf (vo b)) .nil)) ?_;simp[go_sem];have e:inOk a b=decide (∀ t,t∈a.ts->t∈b.ts):=by
  rw[Bool.eq_iff_iff];simp[inOk]
 rw[e];exact .hf _ (HF.sc _)
theorem QV(a b:List Int)(ha:a.length<=9223372036854775807):qf qa 39 [lI a,lI b] (aB (decide (a=b))):=by
 refine qSQ call39 func39 rfl {} ?_;by_cases hn:a.length=b.length
 case neg =>
  simp[go_sem,hn];rw[decide_eq_false (by rintro rfl;exact hn rfl)];exact .hf _ (HF.sc _)
 simp[go_sem,hn];refine qx.up a.length (fun k st=>st.tm 0=lI a/\st.tm 1=lI b/\st.tm 12=aI a.length/\st.tm 13=aI k/\st.mu=[]/\∀(i:Nat) (h:i<a.length) (h':i<b.length),i<k->a[i]=b[i]) ?_ ?_
 .simp [go_sem,hn]
 rintro k st hk ⟨h0,h1,h12,h13,hm,he⟩;by_cases hlt:k<a.length
 .have hlt':k<b.length:=by omega
  simp[go_sem,h0,h1,h12,h13,hm,hlt]
  try refine qI.intro (by kernel_rfl) ?_
  by_cases hb:a[k]=b[k]
  .simp [go_sem,h0,h1,h12,h13,hm,hlt,hlt',hb]
   refine⟨qo (by omega) (by omega),fun i h h' hi=>?_⟩;rcases ZB.1 hi with h2|h2
   .exact he i h h' h2
   .subst h2;exact hb
  .simp [go_sem,h0,h1,h12,h13,hm,hlt,hlt',hb]
   rw[decide_eq_false (by rintro rfl;simp at hb)];exact .hf _ (HF.sc _)
 .have hge:k=a.length:=by omega
  subst hge;simp[go_sem,h0,h1,h12,h13,hm];rw[decide_eq_true (List.ext_getElem hn fun i h h'=>he i h h' h)];exact .hf _ (HF.sc _)
theorem W8(a b:Rl)(hl:a.ts.length<=9223372036854775807):qf qa 69 [eRel a,eRel b] (aB (decide (a=b))):=by
 have hab:(a=b)=(a.ar=b.ar/\a.ts=b.ts):=by cases a;cases b;simp
 refine qSQ call69 func69 rfl {} ?_;by_cases h1:a.ar=b.ar
 case neg =>
  simp[go_sem,h1,hab];exact .hf _ (HF.sc _)
 simp[go_sem,h1];refine qd.pure (QV a.ts b.ts hl) (.cons (.hf (qT _)) (.cons (.hf (qT _)) .nil)) ?_;simp[go_sem,h1,hab];exact .hf _ (HF.sc _)
theorem WK.ints{full:Bool}(l:List Int):WK (.lst full (l.map rI)) (lI l):=WK.lst fun r hr c hc=>by
 obtain⟨n,_,rfl⟩:=qr.1 hr;simp at hc;subst hc;exact HF.sc _
end E4
namespace EO
open YS
def FnOk(P:Program)(fv:AV){α:Type}(enc:α->AV)(ok:α->Prop)(g:α->AV):Prop:=
 HF fv/\∃ fid first caps,fv = .fn (.func fid) first caps/\∀ x,ok x->∃ args',WKs (first++[enc x]++caps) args'/\qf P fid args' (g x)
theorem FnOk.call{P:Program}{fv:AV}{α:Type}{enc:α->AV}{ok:α->Prop}{g:α->AV}(h:FnOk P fv enc ok g){x:α}(hx:ok x){det:Bool}{mu:Mu}{K Kp:AV->Mu->Prop}(k:K (g x) mu):qd P det mu fv [enc x] K Kp:=by
 obtain⟨_,fid,first,caps,rfl,h⟩:=h;obtain⟨args',h1,h2⟩:=h x hx;exact .inl ⟨g x,.inl ⟨fid,first,caps,args',rfl,h2,.inl h1⟩,k⟩
def qj:AV->Option Nat
 | .sl b _ _ _=>some b
 |_=>none
def OwnI(mu:Mu)(s:AV)(l:List Int):Prop:=(s = .lst true []/\l=[])\/∃ b,s = .sl b 1 0 l.length/\mu[b]?=some (.arr (l.map aI))
def OwnV(mu:Mu)(s:AV)(l:List Int):Prop:=(s = .lst true []/\l=[])\/∃ b cells,s = .sl b 1 0 l.length/\mu[b]?=some (.arr cells)/\l.length<=cells.length/\cells.take l.length=l.map aI
theorem OwnI.v{mu:Mu}{s:AV}{l:List Int}(h:OwnI mu s l):OwnV mu s l:=by
 rcases h with h|⟨b,h1,h2⟩
 .exact .inl h
 .exact .inr ⟨b,_,h1,h2,by simp,by rw[zA (by simp)]⟩
theorem OwnV.one{mu:Mu}{s:AV}{l:List Int}(h:OwnV mu s l):s.one=true:=by
 rcases h with ⟨rfl,_⟩|⟨b,c,rfl,_⟩<;>rfl
theorem OwnV.cells{mu:Mu}{s:AV}{l:List Int}(h:OwnV mu s l):s.cells=[s]:=by
 rcases h with ⟨rfl,_⟩|⟨b,c,rfl,_⟩<;>rfl
theorem OwnV.same{mu mu':Mu}{s:AV}{l:List Int}(h:OwnV mu s l)(hs:∀ b,qj s=some b->mu'[b]?=mu[b]?):OwnV mu' s l:=by
 rcases h with h|⟨b,c,rfl,hc,h1,h2⟩
 .exact .inl h
 .exact .inr ⟨b,c,rfl,by rw[hs b rfl];exact hc,h1,h2⟩
theorem OwnI.same{mu mu':Mu}{s:AV}{l:List Int}(h:OwnI mu s l)(hs:∀ b,qj s=some b->mu'[b]?=mu[b]?):OwnI mu' s l:=by
 rcases h with h|⟨b,rfl,hc⟩
 .exact .inl h
 .exact .inr ⟨b,rfl,by rw[hs b rfl];exact hc⟩
theorem OwnV.lt{mu:Mu}{s:AV}{l:List Int}(h:OwnV mu s l){b:Nat}(hb:qj s=some b):b<mu.length:=by
 rcases h with ⟨rfl,_⟩|⟨b',c,rfl,hc,_⟩
 .cases hb
 .cases hb;exact(qc.1 hc).1
theorem OwnV.rd{mu:Mu}{s:AV}{l:List Int}(h:OwnV mu s l):Rd mu s (lI l):=by
 rcases h with ⟨rfl,rfl⟩|⟨b,cells,rfl,hc,h1,h2⟩
 .exact .wk _ true _ (.hf _ (HF.lst fun r hr=>by simp at hr))
 .refine .sl b 1 0 _ cells _ hc (by simpa using h1) (by simp) (fun x hx=>by
   obtain⟨l,_,rfl⟩:=qr.1 hx;rfl) (fun k x y hx hy=>?_)
  rw[zX]at hx;rw[vq,<-h2,zu]at hy;split at hy
  .rw [hx]at hy;cases hy
   have:x∈cells.take l.length:=by
    refine qC (i:=k) ?_;rw[zu,if_pos (by assumption)];exact hx
   rw[h2]at this;obtain⟨z,_,rfl⟩:=qr.1 this;exact .hf _ (HF.sc _)
  .exact absurd hy (by simp)
theorem qD.ownVs{P:Program}{mu:Mu}{t t' e bt:Nat}{s x:AV}{l ys:List Int}{z:Int}{K:AV->Mu->Prop}(hs:qp P t=some (e,1,bt))(hs':(qp P t').isSome=true)(hz:qn P e=some (aI z))
  (hb:bt<=16384) (ho:OwnV mu s l) (hx:qZ mu x=some (ys.map rI)) (hl:l.length+ys.length<=4294967296)
  (k:∀ av mu',OwnI mu' av (l++ys)->(∀ i,i<mu.length->qj s≠some i->mu'[i]?=mu[i]?)->mu.length<=mu'.length->(∀ b,qj av=some b->b=mu.length)->K av mu'):qD P mu #[t,t'] s x K:=by
 refine .inl ⟨t,t',e,1,bt,ys.map rI,rfl,hs,hs',⟨_,hz,rfl,rfl⟩,by omega,hb,hx,jf ys,?_⟩;rcases ho with ⟨rfl,rfl⟩|⟨b,cells,rfl,hc,h1,h2⟩
 .refine .inl ⟨[],rfl,fun r hr=>by simp at hr,by simpa using hl,fun h=>?_,fun h=>?_⟩
  .have:ys=[]:=by simpa using h
   subst this;exact k _ _ (.inl ⟨rfl,rfl⟩) (fun _ _ _=>rfl) (qu _) (fun _ h=>by cases h)
  .refine k _ _ (.inr ⟨mu.length,by simp,by simp[vq]⟩) (fun i hi _=>?_) (by simp) (fun b h=>by cases h;rfl)
   rw[qh hi]
 .refine .inr ⟨b,l.length,cells,rfl,hc,by simpa using h1,by simpa using hl,?_⟩
  have e1:cells.take (l.length*1)++(ys.map rI).flatten=(l++ys).map aI:=by rw[Nat.mul_one,h2,yC,vq]
  have e2:l.length+(ys.map rI).length=(l++ys).length:=by simp
  rw[e1,e2];refine k _ _ (.inr ⟨mu.length,rfl,?_⟩) (fun i hi hne=>?_) (by simp) (fun b h=>by cases h;rfl)
  .rw [qB (by simp)];simp
  .rw [qh (by simpa using hi),q9 (fun h=>hne (by rw[h];rfl))]
theorem qD.ownV1{P:Program}{mu:Mu}{t t' e bt:Nat}{s:AV}{l:List Int}{x z:Int}{K:AV->Mu->Prop}(hs:qp P t=some (e,1,bt))(hs':(qp P t').isSome=true)(hz:qn P e=some (aI z))
  (hb:bt<=16384) (ho:OwnV mu s l) (hl:l.length+1<=4294967296)
  (k:∀ av mu',OwnI mu' av (l++[x])->(∀ i,i<mu.length->qj s≠some i->mu'[i]?=mu[i]?)->mu.length<=mu'.length->(∀ b,qj av=some b->b=mu.length)->K av mu'):qD P mu #[t,t'] s (.lst true [[aI x]]) K:=
 qD.ownVs (ys:=[x]) hs hs' hz hb ho rfl hl k
theorem sumG(l:List Int)(hl:l.length<=1000000)(hb:∀ k,0<=sumI (l.take k)/\sumI (l.take k)<=1000000):qf qa 109 [lI l] (aI (sumI l)):=by
 refine qSQ call109 func109 rfl {} ?_;simp[go_sem];refine qx.up l.length (fun k st=>st.tm 6=lI l/\st.tm 7=aI l.length/\st.tm 3=aI (sumI (l.take k))/\st.tm 8=aI k/\st.mu=[]) ?_ ?_
 .simp [go_sem,sumI]
 rintro k st hk ⟨e6,e7,e3,e8,hm⟩;by_cases hlt:k<l.length
 .have hs:=jg l k hlt
  have hb':=hb (k+1);rw[hs]at hb';simp[go_sem,e6,e7,e3,e8,hm,hlt];exact⟨by rw[hs,qo (by omega) (by omega)],qo (by omega) (by omega)⟩
 .have hge:k=l.length:=by omega
  subst hge;simp[go_sem,e6,e7,e3,e8,hm];exact .hf _ (HF.sc _)
theorem W9(sc:Sc)(g:GSc sc):qf qa 88 [eSc sc] (aI (sumI sc.atoms)):=by
 refine qSQ call88 func88 rfl {} ?_;simp[go_sem];refine qd.pure (sumG _ (zt g.1 (by omega)) fun k=>by have:=g.sum k;omega) (.cons (.hf (qT _)) .nil) ?_;simp[go_sem];exact .hf _ (HF.sc _)
theorem Xa(sc:Sc)(g:GSc sc)(s:Nat)(hs:s<=sc.atoms.length):qf qa 130 [eSc sc,aI s] (aI (sumI (sc.atoms.take s))):=by
 refine qSQ call130 func130 rfl {} ?_;have hw:WKs [.lst false ((sc.atoms.map rI).take s)] [lI (sc.atoms.take s)] := .cons (by rw[<-List.map_take];exact .hf (qT _)) .nil;simp[go_sem,hs];refine⟨⟨_,_,⟨rfl,rfl⟩,(jf sc.atoms).ok⟩,?_⟩;refine qd.pure (sumG (sc.atoms.take s) (by simp;have:=g.1;omega) fun k=>by rw[List.take_take];have:=g.sum (min k s);omega) hw ?_;simp[go_sem];exact .hf _ (HF.sc _)
abbrev lB(xs:List Bool):AV := .lst false (xs.map fun b=>[aB b])
theorem Jy(xs:List Bool):HF (lB xs):=HF.lst fun r hr c hc=>by
 obtain⟨n,_,rfl⟩:=qr.1 hr;simp at hc;subst hc;exact HF.sc _
end EO
end Go.Proofs.YtccifccjhgdikaaGreatDoor
