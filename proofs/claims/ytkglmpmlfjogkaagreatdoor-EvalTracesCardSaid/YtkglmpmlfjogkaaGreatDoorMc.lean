/-
  Own library, part 3: an abstract reading of values and a calculus over it; contracts of functions; plain lemmas.
-/
import Derived.Deep.LoopGhost
import Derived.Scope
import Derived.Sort.LoopGhostIn
import Derived.Test.YtkglmpmlfjogkaaGreatDoorProg
import Derived.KernelRfl
import Derived.RecoverIn
import Derived.Sort.Grow
import Derived.Test.YtkglmpmlfjogkaaGreatDoorMb
set_option linter.unusedVariables false
set_option linter.unusedSimpArgs false
set_option maxRecDepth 100000
open Go.Proofs.Tryz renaming prog->qd
open Go.IntKind renaming i64->qj
open List renaming getElem?_eq_some_iff->qk,getElem?_append_left->qp,range->qq,mem_map->qs,getElem_mem->qu,getElem?_eq_getElem->qv,all_eq_true->qy,mem_cons->qB,getElem?_set_ne->qK,mem_of_getElem?->qS,mem_append->qT,getElem?_append_right->qV,mem_singleton->qW,getElem?_set_self->zb,getElem?_map->zk,map_append->zm,not_mem_nil->zr,mem_range->zI,getElem?_eq_none->zQ,take_of_length_le->zU,length_cons->z6,map_cons->yd,cons_append->yB,ext_getElem?->jj,nodup_cons->jS,nodup_append->jY,getElem?_toArray->uf
open Option.some renaming injEq->qn
open Nat renaming le_refl->qr,zero_add->yC,le_of_ble_eq_true->jo,lt_of_lt_of_le->ZX
open Bool renaming and_eq_true->qx
open Array renaming getD_eq_getD_getElem?->qD,getElem?_eq_some_iff->zF,getElem?_eq_getElem->ug
open Go.Sem renaming run_bind->qN,run_pure->zu
open Go.Result renaming andThen_ok->qP
open Option renaming map_some->q8
open Go.World renaming putObj_heap_other->uh
namespace Go.Ev
open Go Go.RowKit
inductive qZ where
 |normal
 |exit (id:Nat)
 |ret
 |pan (v:AV)
def seqQ(n:St->Prop)(Q:qZ->St->Prop):qZ->St->Prop
 | .normal,st=>n st
 |e,st=>Q e st
def uR(id:Nat)(Q:qZ->St->Prop):qZ->St->Prop
 | .exit i,st=>if i=id then Q .normal st else Q (.exit i) st
 |e,st=>Q e st
def uS(I:Nat->St->Prop)(n:Nat)(Q:qZ->St->Prop):qZ->St->Prop
 | .normal,st=>∃ m,m<n/\I m st
 |e,st=>Q e st
def Frz(st st':St):Prop:=∃ give,st'.mu=cutM (fun i=>!give i) st.mu 0/\∀ i,Gv st.mu give (st.tm i) (st'.tm i)
inductive Fz:St->St->Prop where
 |refl (st:St):Fz st st
 |step {a b c:St} (f:Frz a b) (k:Fz b c):Fz a c
def FzQ(Q:qZ->St->Prop)(e:qZ)(st:St):Prop:=∃ st',Frz st st'/\(match e with | .pan _=>st'=st|_=>True)/\Q e st'
def fzQ:Bool->(qZ->St->Prop)->qZ->St->Prop
 |true,Q=>FzQ Q
 |false,Q=>Q
def Stb(I:Mu->Prop):Prop:=∀ mu,I mu->I (mu++[.dead])
def Yld(P:Program)(i:Nat)(rows:List (List AV))(I:Nat->Mu->Prop)(Ix:Mu->Prop):Prop:=
 ∀ k x mu,rows[k]?=some x->I k mu->Jz P i x mu fun b mu'=>(b=true/\I (k+1) mu')\/(b=false/\Ix mu')
def yY(P:Program)(f:FuncId)(caps:List AV)(rows:List (List AV)):Prop:=jb P f /\
 ∀(i:Nat) (I:Nat->Mu->Prop) (Ix:Mu->Prop),(∀ k,Stb (I k))->Stb Ix->Yld P i rows I Ix->∀ mu,I 0 mu ->
  qY P f (.yl i :: caps) mu fun e mu'=>∃ r,e = .ret r/\(I rows.length mu'\/Ix mu')
def vP(tm:Nat->AV):List Tmp->List AV->(Nat->AV)
 |t :: ts,x :: xs=>vP (fun i=>if i=t then x else tm i) ts xs
 |_,_=>tm
def asQ(n:St->Prop):qZ->St->Prop
 | .normal,st=>n st
 |_,_=>False
def rndQ(I:Nat->Mu->Prop)(Ix:qZ->Mu->Prop)(k:Nat):qZ->St->Prop
 | .normal,st=>I (k+1) st.mu
 | .pan _,_=>False
 |e,st=>Ix e st.mu
def awp(P:Program)(pl:Pol):Code->(qZ->St->Prop)->St->Prop
 | .skip,Q,st=>Q .normal st
 | .label _,Q,st=>Q .normal st
 | .region _ ops draw,Q,st=>(draw=false/\awpS P pl false ops ops.toList (Q .normal) (fun v st=>Q (.pan v) st) st)\/(draw=true/\∃ st',Fz st st'/\Un P pl ops (Q .normal) (fun v st=>Q (.pan v) st) st')
 | .seq a b,Q,st=>awp P pl a (seqQ (awp P pl b Q) Q) st
 | .cond c a b,Q,st=>∃ t,st.ev c = .sc (.bool t)/\Br t (awp P pl a Q st) (awp P pl b Q st)
 | .block id body,Q,st=>awp P pl body (uR id Q) st
 | .loop body,Q,st=>∃(z:Bool) (I:Nat->St->Prop) (n:Nat) (st':St),Fz st st'/\I n st'/\∀ n st,I n st->awp P pl body (uS I n (fzQ z Q)) st
 | .exit id,Q,st=>Q (.exit id) st
 | .ret,Q,st=>Q .ret st
 | .scope body,Q,st=>awp P pl body Q st
 | .rangeFunc g ps aas body,Q,st=>∃(z:Bool) (gf:FuncId) (caps:List AV) (rows:List (List AV)) (I:Nat->Mu->Prop) (Ix:qZ->Mu->Prop),
   st.ev g = .fn (.func gf) [] caps/\yY P gf caps rows/\I 0 (st.mu++[.dead])/\(∀ k,Stb (I k))/\(∀ e,Stb (Ix e)) /\
   (∀ k x mu,rows[k]?=some x->I k mu->x.length=ps.size/\awp P pl aas (asQ (fun st=>awp P pl body (rndQ I Ix k) st)) ⟨vP st.tm ps.toList x,mu⟩) /\
   (∀ mu,I rows.length mu->fzQ z Q .normal ⟨st.tm,mu⟩)/\(∀ e mu,Ix e mu->fzQ z Q e ⟨st.tm,mu⟩)
 |_,_,_=>False
def noRF:Code->Bool
 | .seq a b=>noRF a&&noRF b
 | .cond _ a b=>noRF a&&noRF b
 | .block _ b=>noRF b
 | .loop b=>noRF b
 | .scope b=>noRF b
 | .rangeFunc .. => false
 |_=>true
def dOkC(n:Nat):Code->Bool
 | .region _ ops _=>ops.toList.all fun o=>dOk n o.dst
 | .seq a b=>dOkC n a&&dOkC n b
 | .cond _ a b=>dOkC n a&&dOkC n b
 | .block _ b=>dOkC n b
 | .loop b=>dOkC n b
 | .scope b=>dOkC n b
 | .rangeFunc _ ps aas b=>(ps.toList.all fun t=>decide (t<n))&&dOkC n aas&&dOkC n b&&noRF aas&&noRF b
 |_=>true
def ERel(G:Gh)(w:World):qZ->Exit->Prop
 | .normal,.normal=>True
 | .exit i,.exit j=>i=j
 | .ret,.ret=>True
 | .pan x,.panic chain=>∃ v,chain=[{ v,recovered:=false }]/\VRel G w.heap x v
 |_,_=>False
def Fit(ro:Ro)(G0:Gh)(mu0:Mu)(w0:World)(n:Nat)(Q:qZ->St->Prop)(QQ:Exit->Act->World->Prop):Prop:=
 ∀ ae e st a w G,Q ae st->Rel ro G0 mu0 w0 n G st a w->ERel G w ae e->QQ e a w
theorem Rel.frz{ro:Ro}{G0:Gh}{mu0:Mu}{w0:World}{n:Nat}{G:Gh}{st st':St}{a:Act}{w:World}(s0:Sim G0 mu0 w0.heap)(r:Rel ro G0 mu0 w0 n G st a w)(f:Frz st st'):∃ G',Rel ro G0 mu0 w0 n G' st' a w:=by
 obtain⟨give,hm,ht⟩:=f;refine⟨Go.Ev.frz G give st.mu,fun i=>(ht i).sound r.stp.sim (r.tm i),?_,r.size,?_,fun p hp=>(wZ r.stp.sim give).vrel r.stp.sim (r.kp p hp)⟩
 .intro h
  have:=(r.df h).step (wZ r.stp.sim give);rw[hm];exact this
 rw[hm];exact r.stp.trans s0 (wZ r.stp.sim give)
theorem Rel.fz{ro:Ro}{G0:Gh}{mu0:Mu}{w0:World}{n:Nat}{G:Gh}{st st':St}{a:Act}{w:World}(s0:Sim G0 mu0 w0.heap)(r:Rel ro G0 mu0 w0 n G st a w)(f:Fz st st'):∃ G',Rel ro G0 mu0 w0 n G' st' a w:=by
 induction f generalizing G with
 |refl st=>exact⟨G,r⟩
 |step f k ih =>
  obtain⟨G1,r1⟩:=r.frz s0 f;exact ih r1
theorem Fit.fz{ro:Ro}{G0:Gh}{mu0:Mu}{w0:World}{n:Nat}{Q:qZ->St->Prop}{QQ:Exit->Act->World->Prop}(s0:Sim G0 mu0 w0.heap)(h:Fit ro G0 mu0 w0 n Q QQ)(z:Bool):Fit ro G0 mu0 w0 n (fzQ z Q) QQ:=by
 cases z with
 |false=>exact h
 |true =>
  intro ae e st a w G hq r he;obtain⟨st',f,hp,hq⟩:=hq;cases ae with
  |pan v =>
   simp only at hp;subst hp;exact h _ e _ a w G hq r he
  |normal =>
   obtain⟨G',r'⟩:=r.frz s0 f;exact h _ e _ a w G' hq r' (by cases e<;>exact he)
  |ret =>
   obtain⟨G',r'⟩:=r.frz s0 f;exact h _ e _ a w G' hq r' (by cases e<;>exact he)
  |exit i =>
   obtain⟨G',r'⟩:=r.frz s0 f;exact h _ e _ a w G' hq r' (by cases e<;>exact he)
section
variable {F:Fence} {rm:Nat} {P:Program} {b:Frame} {a:Act} {k:List Item} {cs:List Frame} {w:World} {Q:Exit->Act->World->Prop}
theorem Zq{c:Code}:step P (lone (b.atR a (.code (.scope c) :: k)) cs w) = .next (lone (b.atR a (.code c :: .inScope c :: k)) cs w):=
 step_lone_go (by simp[stepG,stepG.exec,Frame.atR])
theorem qcD{c:Code}:step P (lone (b.atR a (.inScope c :: k)) cs w) = .next (lone (b.atR a k) cs w):=
 step_lone_go (by simp[stepG,stepG.exec,Frame.atR])
theorem qcE{c:Code}(h:c.wpIn F rm P (Exit.noGoto Q) a w):(Code.scope c).wpIn F rm P Q a w:=by
 intro b k cs hro hb hr;have h0:(lone (b.atR a (.code (.scope c) :: k)) cs w).fenced P F:=fenced_calm hb hr rfl;obtain⟨e,a₁,w₁,hq,harr⟩:=h b (.inScope c :: k) cs hro hb hr;cases e with
 |normal=>exact⟨.normal,a₁,w₁,hq,.head h0 Zq (StepsIn.trans harr (.one (fenced_calm hb hr rfl) qcD))⟩
 |exit id=>exact⟨.exit id,a₁,w₁,hq,fun k' hk => .head h0 Zq (harr.1 k' (by simp[exitTo,hk])),
   fun hr' hk=>let ⟨k₁,h1,h2⟩:=harr.2 hr' (by simp[exitTo,hk]);⟨k₁,h1,.head h0 Zq h2⟩⟩
 |goto l=>exact hq.elim
 |ret=>exact⟨_,a₁,w₁,hq,.of_steps (.one h0 Zq) harr⟩
 |panic ch=>exact⟨_,a₁,w₁,hq,.of_steps (.one h0 Zq) harr⟩
 |outgrown=>exact⟨_,a₁,w₁,hq,.of_steps (.one h0 Zq) harr⟩
end
def Uo(P:Program)(pl:Pol)(n:Nat)(c:Code):Prop:=∀{ro:Ro} {G0:Gh} {mu0:Mu} {w0:World} (_:Sim G0 mu0 w0.heap) (Q:qZ->St->Prop) (QQ:Exit->Act->World->Prop) (st:St) (a:Act) (w:World) (G:Gh),
  Fit ro G0 mu0 w0 n Q QQ->Rel ro G0 mu0 w0 n G st a w->dOkC n c=true->((ro.rd=none/\ro.mks=true)\/noRF c=true)->awp P pl c Q st->c.wpIn (WF ro) 0 P QQ a w
def Yk:qZ->Option Code
 | .ret=>some .ret
 | .exit id=>some (.exit id)
 |_=>none
def JJ(n:Nat)(ps:Array Tmp)(aas body:Code)(tm:Nat->AV)(i0:Nat)(I:Nat->Mu->Prop)(k:Nat)(M:Mu):Prop:=
 ∃ fn tmps d,M[i0]?=some (.lp { state := .ready,pending:=none,fn,tmps,params:=ps,assign:=aas,body,defers:=d } tm)/\tmps.size=n/\I k (M.set i0 .dead)
def JX(ps:Array Tmp)(aas body:Code)(tm:Nat->AV)(i0:Nat)(Ix:qZ->Mu->Prop)(M:Mu):Prop:=
 ∃ fn tmps d e c,M[i0]?=some (.lp { state := .done,pending:=some c,fn,tmps,params:=ps,assign:=aas,body,defers:=d } tm)/\Yk e=some c/\Ix e (M.set i0 .dead)
theorem KG{G:Gh}{h:Array Obj}:∀(ts:List Tmp) (xs:List AV) (vs:List Value) (tm:Nat->AV) (tmps:Array Value),xs.length=ts.length->vs.length=ts.length ->
  (∀(k:Nat) x,xs[k]?=some x->VRel G h x (vs.getD k undef))->(∀ i,VRel G h (tm i) (tmps.getD i undef))->(∀ t,t∈ts->t<tmps.size) ->
  (∀ i,VRel G h (vP tm ts xs i) (((ts.zip vs).foldl (fun tmps (x:Tmp×Value)=>tmps.setIfInBounds x.1 x.2) tmps).getD i undef))/\((ts.zip vs).foldl (fun tmps (x:Tmp×Value)=>tmps.setIfInBounds x.1 x.2) tmps).size=tmps.size
 | [],xs,vs,tm,tmps,_,_,_,h2,_=>by
  refine⟨?_,rfl⟩;cases xs<;>exact h2
 |t :: ts,x :: xs,v :: vs,tm,tmps,hl,hl',h1,h2,h3=>by
  have hv:VRel G h x v:=by simpa using h1 0 x rfl
  obtain⟨r1,r2⟩:=KG ts xs vs (fun i=>if i=t then x else tm i) (tmps.setIfInBounds t v) (by simpa using hl) (by simpa using hl') (fun k y hy=>by simpa using h1 (k+1) y (by simpa using hy)) (fun i=>by
   by_cases hi:i=t
   .subst hi
    have hlt:=h3 i (by simp);simpa[qD,hlt] using hv
   .rw [if_neg hi]
    have:(tmps.setIfInBounds t v).getD i undef=tmps.getD i undef:=by
     simp only[qD];rw[Array.getElem?_setIfInBounds_ne (fun h=>hi h.symm)]
    rw[this];exact h2 i) (fun s hs=>by simpa using h3 s (by simp[hs]))
  exact⟨r1,by simpa using r2⟩
 |_ :: _,[],_,_,_,hl,_,_,_,_=>by simp at hl
 |_ :: _,_ :: _,[],_,_,_,hl',_,_,_=>by simp at hl'
theorem qcF{P:Program}{pl:Pol}{n:Nat}{ps:Array Tmp}{aas body:Code}{rows:List (List AV)}{I:Nat->Mu->Prop}{Ix:qZ->Mu->Prop}{tm:Nat->AV}{i0:Nat}
  (h1:Uo P pl n aas) (h2:Uo P pl n body) (hd1:dOkC n aas=true) (hd2:dOkC n body=true) (hn1:noRF aas=true) (hn2:noRF body=true) (hps:∀ t,t∈ps.toList->t<n)
  (hround:∀ k x mu,rows[k]?=some x->I k mu->x.length=ps.size/\awp P pl aas (asQ (fun st=>awp P pl body (rndQ I Ix k) st)) ⟨vP tm ps.toList x,mu⟩) :
  Yld P i0 rows (JJ n ps aas body tm i0 I) (JX ps aas body tm i0 Ix):=by
 rintro k x M hx ⟨fn,tmps,d,hM,hsz,hI⟩ G w vs s ra l tot hb;obtain⟨o,ho,hcr⟩:=s.obj i0 _ l tot hM (by simp) hb;obtain⟨rfl,htm⟩:=hcr;obtain⟨hlen,hawp⟩:=hround k x _ hx hI;have hvs:vs.size=ps.size:=by rw[ra.1,hlen]
 refine⟨_,_,_,_,run_yield ho hvs,?_⟩;refine roundIn_of_wpIn (F:=Fence.wide) trivial ?_;simp only;have hfold:(ps.zip vs).foldl (fun tmps (x:Tmp×Value)=>tmps.setIfInBounds x.1 x.2) tmps=(ps.toList.zip vs.toList).foldl (fun tmps (x:Tmp×Value)=>tmps.setIfInBounds x.1 x.2) tmps:=by
  rw[<-Array.foldl_toList,Array.toList_zip]
 have htm0:=KG (G:=G) (h:=w.heap) ps.toList x vs.toList tm tmps (by simpa using hlen) (by simpa using hvs) (fun k y hy=>by simpa[qD,List.getD_eq_getElem?_getD] using ra.2 k y hy) htm (fun t ht=>by rw[hsz];exact hps t ht);refine h1 (ro:=Ro.round l) (s.hid i0) _ _ ⟨vP tm ps.toList x,M.set i0 .dead⟩ _ w G ?_ ⟨?_,fun h=>absurd h (by simp[Ro.round]),?_,Stp.refl (s.hid i0),fun p hp=>by simp[Ro.round]at hp⟩ hd1 (.inr hn1) hawp
 rotate_left
 .intro i
  simp only;rw[hfold];exact htm0.1 i
 .simp only
  rw[hfold,htm0.2];exact hsz
 intro ae e st1 a1 w1 G1 hq r1 he;cases ae with
 |normal =>
  cases e<;>simp only[ERel]at he
  obtain⟨hm1,hk1,T1⟩:=r1.stp.unhid s hM (by simp) hb;have ho1:w1.heap[l]?=some (.loop { state := .ready,pending:=none,fn,tmps,params:=ps,assign:=aas,body,defers:=d }):=by rw[hk1];exact ho
  refine⟨_,run_beginRound ho1 rfl,?_⟩;simp only;have hi1:i0<st1.mu.length:=(qk.1 hm1).1;have hb1:G1.blk[i0]?=some (l,tot):=r1.stp.le.blk _ _ hb;have hl1:l<w1.heap.size:=(zF.1 ho1).1;have W1:=Stp.write (w:=w1) (w':=w1.putObj l (.loop { state := .busy,pending:=none,fn,tmps,params:=ps,assign:=aas,body,defers:=d })) T1.sim i0 _
   (.lp { state := .busy,pending:=none,fn,tmps,params:=ps,assign:=aas,body,defers:=d } tm) l tot _ (zb hi1) (by simp) (by simp) hb1 (by simp) (World.putObj_heap_same hl1)
   (fun b hbl=>uh hbl) rfl rfl rfl ⟨rfl,fun i=>((htm i).mono r1.stp.le (r1.stp.ext (s.hid i0)))⟩
  simp only[List.set_set]at W1;have hset:∀ c:Cell,(st1.mu.set i0 c).set i0 .dead=st1.mu:=by
   intro c;rw[List.set_set];apply jj;intro j;by_cases e:i0=j
   .subst e;rw[zb hi1,hm1]
   .rw [qK e]
  have s1:=W1.sim.hid i0;rw[hset]at s1;refine h2 (ro:=Ro.round l) s1 _ _ st1 a1 _ G1 ?_ ⟨fun i=>(r1.tm i).mono (.refl G1) (W1.ext T1.sim),fun h=>absurd h (by simp[Ro.round]),r1.size,Stp.refl s1,fun p hp=>by simp[Ro.round]at hp⟩ hd2 (.inr hn2) hq;intro ae2 e2 st2 a2 w2 G2 hq2 r2 he2;have T2':Stp G1 ((st1.mu.set i0 (.lp { state := .busy,pending:=none,fn,tmps,params:=ps,assign:=aas,body,defers:=d } tm)).set i0 .dead) (w1.putObj l (.loop { state := .busy,pending:=none,fn,tmps,params:=ps,assign:=aas,body,defers:=d })) G2 st2.mu w2:=by
   rw[hset];exact r2.stp
  obtain⟨hm2,hk2,T2⟩:=T2'.unhid W1.sim (zb hi1) (by simp) hb1;have ho2:w2.heap[l]?=some (.loop { state := .busy,pending:=none,fn,tmps,params:=ps,assign:=aas,body,defers:=d }):=by rw[hk2];exact World.putObj_heap_same hl1
  have hi2:i0<st2.mu.length:=(qk.1 hm2).1;have hb2:G2.blk[i0]?=some (l,tot):=T2.le.blk _ _ hb1;have hl2:l<w2.heap.size:=(zF.1 ho2).1;have T:Stp G M w G2 (st2.mu.set i0 (.lp { state := .busy,pending:=none,fn,tmps,params:=ps,assign:=aas,body,defers:=d } tm)) w2:=(T1.trans s W1).trans s T2;have hset2:∀ c:Cell,(st2.mu.set i0 c).set i0 .dead=st2.mu:=by
   intro c;rw[List.set_set];apply jj;intro j;by_cases e:i0=j
   .subst e;rw[zb hi2,hm2]
   .rw [qK e]
  have fin:∀(jump:Option Code),Stp G M w G2 (st2.mu.set i0 (.lp { state:=if jump.isNone then .ready else .done,pending:=jump,fn,tmps,params:=ps,assign:=aas,body,defers:=d } tm))
    (w2.putObj l (.loop { state:=if jump.isNone then .ready else .done,pending:=jump,fn,tmps,params:=ps,assign:=aas,body,defers:=d })):=by
   intro jump;have W2:=Stp.write (w:=w2) (w':=w2.putObj l (.loop { state:=if jump.isNone then .ready else .done,pending:=jump,fn,tmps,params:=ps,assign:=aas,body,defers:=d })) T2.sim i0 _
    (.lp { state:=if jump.isNone then .ready else .done,pending:=jump,fn,tmps,params:=ps,assign:=aas,body,defers:=d } tm) l tot _ (zb hi2) (by simp) (by simp) hb2 (by simp) (World.putObj_heap_same hl2)
    (fun b hbl=>uh hbl) rfl rfl rfl ⟨rfl,fun i=>((htm i).mono T.le (T.ext s))⟩
   simp only[List.set_set]at W2;exact T.trans s W2
  cases ae2 with
  |normal =>
   cases e2<;>simp only[ERel]at he2
   refine⟨_,_,run_endRound none ho2,true,G2,_,rfl,fin none,.inl ⟨rfl,fn,tmps,d,zb hi2,hsz,?_⟩⟩;rw[hset2];exact hq2
  |ret =>
   cases e2<;>simp only[ERel]at he2
   refine⟨_,_,run_endRound (some .ret) ho2,false,G2,_,rfl,fin (some .ret),.inr ⟨rfl,fn,tmps,d,.ret,.ret,zb hi2,rfl,?_⟩⟩;rw[hset2];exact hq2
  |exit id =>
   cases e2<;>simp only[ERel]at he2
   subst he2;refine⟨_,_,run_endRound (some (.exit id)) ho2,false,G2,_,rfl,fin (some (.exit id)),.inr ⟨rfl,fn,tmps,d,.exit id,.exit id,zb hi2,rfl,?_⟩⟩;rw[hset2];exact hq2
  |pan v=>exact hq2.elim
 |ret=>exact hq.elim
 |exit id=>exact hq.elim
 |pan v=>exact hq.elim
theorem Up{P:Program}{pl:Pol}{n:Nat}:∀(c:Code),Uo P pl n c:=by
 intro c;induction c with
 |skip=>intro ro G0 mu0 w0 s0 Q QQ st a w G hf r _ _ h;exact wpIn_skip (hf .normal .normal st a w G h r trivial)
 |label l=>intro ro G0 mu0 w0 s0 Q QQ st a w G hf r _ _ h;exact wpIn_label (hf .normal .normal st a w G h r trivial)
 |exit id=>intro ro G0 mu0 w0 s0 Q QQ st a w G hf r _ _ h;exact wpIn_exit (hf (.exit id) (.exit id) st a w G h r rfl)
 |ret=>intro ro G0 mu0 w0 s0 Q QQ st a w G hf r _ _ h;exact wpIn_ret (hf .ret .ret st a w G h r trivial)
 |region id ops draw =>
  intro ro G0 mu0 w0 s0 Q QQ st a w G hf r hd hn h;rcases h with ⟨rfl,h2⟩|⟨rfl,h2⟩
  .refine wpIn_region_list (Ub s0 (fun st a w G hq r=>hf .normal .normal st a w G hq r trivial) (fun v st a w G u hq r hv=>hf (.pan v) (.panic _) st a w G hq r ⟨u,rfl,hv⟩) _ st a w G r hd h2)
  .obtain ⟨st1,hf1,h2⟩:=h2
   obtain⟨G1,r1⟩:=r.fz s0 hf1;refine wpIn_region_draw fun t=>?_
   exact qcC s0 hd (fun st a w G hq r=>hf .normal .normal st a w G hq r trivial) (fun v st a w G u hq r hv=>hf (.pan v) (.panic _) st a w G hq r ⟨u,rfl,hv⟩) (r1.drew s0) h2 _ t
 |seq x y ihx ihy =>
  intro ro G0 mu0 w0 s0 Q QQ st a w G hf r hd hn h;simp only[dOkC,qx]at hd;simp only[noRF,qx]at hn;refine wpIn_seq (ihx s0 _ _ st a w G ?_ r hd.1 (hn.imp id And.left) h);intro ae e st' a' w' G' hq r' he;cases ae<;>cases e<;>simp only[ERel]at he
  .exact ihy s0 Q QQ st' a' w' G' hf r' hd.2 (hn.imp id And.right) hq
  .exact hf (.exit _) (.exit _) st' a' w' G' hq r' he
  .exact hf .ret .ret st' a' w' G' hq r' trivial
  .exact hf (.pan _) (.panic _) st' a' w' G' hq r' he
 |cond cnd x y ihx ihy =>
  intro ro G0 mu0 w0 s0 Q QQ st a w G hf r hd hn h;simp only[dOkC,qx]at hd;simp only[noRF,qx]at hn;obtain⟨t,ht,h1,h2⟩:=h;have rc:=r.ev cnd;rw[ht]at rc;have ec:a.eval cnd = .bool t:=by generalize a.eval cnd=v at rc;cases rc;rfl
  refine wpIn_cond_split ec (fun e=>ihx s0 Q QQ st a w G hf r hd.1 (hn.imp id And.left) (h1 e)) (fun e=>ihy s0 Q QQ st a w G hf r hd.2 (hn.imp id And.right) (h2 e))
 |block id body ih =>
  intro ro G0 mu0 w0 s0 Q QQ st a w G hf r hd hn h;refine wpIn_block (ih s0 _ _ st a w G ?_ r hd hn h);intro ae e st' a' w' G' hq r' he;cases ae<;>cases e<;>simp only[ERel]at he
  .exact hf .normal .normal st' a' w' G' hq r' trivial
  .subst he
   simp only[uR]at hq;simp only[Exit.inBlock];split at hq
   .rename_i hid;rw[if_pos hid];exact hf .normal .normal st' a' w' G' hq r' trivial
   .rename_i hid;rw[if_neg hid];exact hf (.exit _) (.exit _) st' a' w' G' hq r' rfl
  .exact hf .ret .ret st' a' w' G' hq r' trivial
  .exact hf (.pan _) (.panic _) st' a' w' G' hq r' he
 |loop body ih =>
  intro ro G0 mu0 w0 s0 Q QQ st a w G hf r hd hn h;obtain⟨z,I,n0,st1,hf1,hI,hround⟩:=h;obtain⟨G1,r1⟩:=r.fz s0 hf1;have hf:=hf.fz s0 z;refine wpIn_loop_ghost (fun k a w=>∃ st G,I k st/\Rel ro G0 mu0 w0 n G st a w) n0 ⟨st1,G1,hI,r1⟩ ?_;intro k a' w' ⟨st',G',hI',r'⟩;refine ih s0 _ _ st' a' w' G' ?_ r' hd hn (hround k st' hI');intro ae e st2 a2 w2 G2 hq r2 he;cases ae<;>cases e<;>simp only[ERel]at he
  .obtain ⟨m,hm,hI2⟩:=hq
   exact⟨m,hm,st2,G2,hI2,r2⟩
  .exact hf (.exit _) (.exit _) st2 a2 w2 G2 hq r2 he
  .exact hf .ret .ret st2 a2 w2 G2 hq r2 trivial
  .exact hf (.pan _) (.panic _) st2 a2 w2 G2 hq r2 he
 |scope body ih =>
  intro ro G0 mu0 w0 s0 Q QQ st a w G hf r hd hn h;refine qcE (ih s0 Q _ st a w G ?_ r hd hn h);intro ae e st' a' w' G' hq r' he;cases ae<;>cases e<;>simp only[ERel]at he
  .exact hf .normal .normal st' a' w' G' hq r' trivial
  .exact hf (.exit _) (.exit _) st' a' w' G' hq r' he
  .exact hf .ret .ret st' a' w' G' hq r' trivial
  .exact hf (.pan _) (.panic _) st' a' w' G' hq r' he
 |rangeFunc g ps aas body ih1 ih2 =>
  intro ro G0 mu0 w0 s0 Q QQ st a w G hf r hd hn h;have hrn:ro.rd=none/\ro.mks=true:=by
   rcases hn with hn|hn
   .exact hn
   .simp [noRF]at hn
  simp only[dOkC,qx,qy,decide_eq_true_eq]at hd;obtain⟨⟨⟨⟨hps,hd1⟩,hd2⟩,hn1⟩,hn2⟩:=hd;obtain⟨z,gf,caps,rows,I,Ix,hg,hit,h0,hS,hSx,hround,hend,hexit⟩:=h;have hf:=hf.fz s0 z;refine wpIn_rangeFunc fun fn _=>?_
  have eg:=r.ev g;rw[hg]at eg;generalize hq:a.eval g=gv at eg;cases eg with
  |fn _ _ _ fvs cvs hfn hm hv hw =>
  have e0:fvs=#[]:=Array.eq_empty_of_size_eq_zero (by simpa using hfn);subst e0;obtain⟨hcal,hit⟩:=hit;generalize hrec:(Loop.mk .ready none fn a.tmps ps aas body w.heap.size)=rec0;have hw1:∃ w1,w1=(w.alloc (.deferred (some []))).alloc (.loop rec0):=⟨_,rfl⟩;obtain⟨w1,hw1⟩:=hw1;have hsz1:w1.heap.size=w.heap.size+2:=by rw[hw1];simp
  have hold:∀ b,b<w.heap.size->w1.heap[b]?=w.heap[b]?:=by
   intro b hb;rw[hw1,Below.heap_alloc _ _ b (by simp;omega),Below.heap_alloc _ _ b hb]
  have hD1:w1.heap[w.heap.size]?=some (.deferred (some [])):=by
   rw[hw1,Below.heap_alloc _ _ _ (by simp)];exact World.alloc_heap_new w _
  have hl1:w1.heap[w.heap.size+1]?=some (.loop rec0):=by
   rw[hw1];have:=World.alloc_heap_new (w.alloc (.deferred (some []))) (.loop rec0);simpa using this
  have sG:=r.stp.sim;have hlive:∀ b,Live G st.mu b->b<w.heap.size:=fun b hb=>sG.livesize hb
  have hG1:∃ G1:Gh,G1=⟨G.imm,G.blk++[(w.heap.size+1,0)]⟩:=⟨_,rfl⟩;obtain⟨G1,hG1⟩:=hG1;have hle:G.le G1:=by
   rw[hG1];exact⟨fun _ h=>h,fun i x hx=>by simp only;rw[qp (qk.1 hx).1];exact hx⟩
  have hext:Ext G w.heap w1.heap:=⟨by omega,fun b hb=>hold b (sG.imm b hb)⟩;have hblk1:G1.blk[st.mu.length]?=some (w.heap.size+1,0):=by rw[hG1,<-sG.len];simp
  have hcases:∀(j:Nat) (c:Cell) (bt:Nat×Nat),(st.mu++[Cell.lp rec0 st.tm])[j]?=some c->G1.blk[j]?=some bt->(st.mu[j]?=some c/\G.blk[j]?=some bt)\/(j=st.mu.length/\c = .lp rec0 st.tm/\bt=(w.heap.size+1,0)):=by
   intro j c bt hj hbt;by_cases hlt:j<st.mu.length
   .rw [qp hlt]at hj
    rw[hG1]at hbt;simp only at hbt;rw[qp (by rw[sG.len];exact hlt)]at hbt;exact .inl ⟨hj,hbt⟩
   .have hj2:=(qk.1 hj).1
    simp at hj2;have:j=st.mu.length:=by omega
    subst this;rw[hblk1]at hbt;simp at hj hbt;exact .inr ⟨rfl,hj.symm,hbt.symm⟩
  have s1:Sim G1 (st.mu++[Cell.lp rec0 st.tm]) w1.heap:=by
   refine⟨by rw[hG1];simp[sG.len],fun b hb=>?_,?_,?_,?_,sG.tab.mono hle.imm hext.keep⟩
   .rw [hG1]at hb;have:=sG.imm b hb;omega
   .intro j c blk tot g1 g2 g3
    rcases hcases j c _ g1 g3 with ⟨q1,q2⟩|⟨rfl,rfl,q⟩
    .obtain ⟨o,k1,k2⟩:=sG.obj j c blk tot q1 g2 q2
     exact⟨o,by rw[hold _ (zF.1 k1).1];exact k1,k2.mono hle hext⟩
    .obtain ⟨rfl,rfl⟩:=Prod.mk.inj q
     refine⟨_,hl1,rfl,fun i=>?_⟩;rw[<-hrec];exact(r.tm i).mono hle hext
   .intro j c blk tot g1 g2 g3
    rcases hcases j c _ g1 g3 with ⟨q1,q2⟩|⟨rfl,rfl,q⟩
    .have:=sG.live j c blk tot q1 g2 q2
     rw[hG1];exact this
    .obtain ⟨rfl,rfl⟩:=Prod.mk.inj q
     rw[hG1];intro himm;have:=sG.imm _ himm;omega
   .intro i j ci cj b ti tj g1 g2 g3 g4 g5 g6
    rcases hcases i ci _ g1 g5 with ⟨q1,q2⟩|⟨rfl,rfl,q⟩<;>rcases hcases j cj _ g2 g6 with ⟨p1,p2⟩|⟨rfl,rfl,p⟩
    .exact sG.inj i j ci cj b ti tj q1 p1 g3 g4 q2 p2
    .obtain ⟨rfl,rfl⟩:=Prod.mk.inj p
     have:=hlive _ ⟨i,ci,ti,q1,g3,q2⟩;omega
    .obtain ⟨rfl,rfl⟩:=Prod.mk.inj q
     have:=hlive _ ⟨j,cj,tj,p1,g4,p2⟩;omega
    .rfl
  have hlive1:∀ b,Live G1 (st.mu++[Cell.lp rec0 st.tm]) b->Live G st.mu b\/b=w.heap.size+1:=by
   rintro b ⟨j,c,tot,g1,g2,g3⟩;rcases hcases j c _ g1 g3 with ⟨q1,q2⟩|⟨rfl,rfl,q⟩
   .exact .inl ⟨j,c,tot,q1,g2,q2⟩
   .exact .inr (Prod.mk.inj q).1
  have t1:Stp G st.mu w G1 (st.mu++[Cell.lp rec0 st.tm]) w1:=by
   refine⟨hle,s1,fun b hb _=>hold b hb,by omega,fun b hb=>?_,fun b hb=>?_,by rw[hw1];rfl,by rw[hw1];rfl,by rw[hw1];rfl,by rw[hw1];exact qr _⟩
   .rcases hlive1 b hb with h|h
    .exact .inl h
    .exact .inr (by omega)
   .rw [hG1]at hb;exact .inl hb
  have mk1:Mk G1 (st.mu++[Cell.lp rec0 st.tm]) w1.heap w.heap.size:=by
   refine⟨hD1,fun hb=>?_,fun hb=>?_⟩
   .rcases hlive1 _ hb with h|h
    .have:=hlive _ h;omega
    .omega
   .rw [hG1]at hb;have:=sG.imm _ hb;omega
  have hJ0:JJ n ps aas body st.tm st.mu.length I 0 (st.mu++[Cell.lp rec0 st.tm]):=by
   refine⟨fn,a.tmps,w.heap.size,by rw[hrec];simp,r.size,?_⟩;have:(st.mu++[Cell.lp rec0 st.tm]).set st.mu.length .dead=st.mu++[.dead]:=by simp
   rw[this];exact h0
  have stb:∀(X:Mu->Prop) (M:Mu) (c:Cell),Stb X->M[st.mu.length]?=some c->X (M.set st.mu.length .dead)->X ((M++[Cell.dead]).set st.mu.length Cell.dead):=by
   intro X M c hX hM hx;rw[List.set_append_left _ _ (qk.1 hM).1];exact hX _ hx
  have hso:=hit st.mu.length (JJ n ps aas body st.tm st.mu.length I) (JX ps aas body st.tm st.mu.length Ix)
   (fun k M ⟨f',t',d',q1,q2,q3⟩=>⟨f',t',d',by rw[qp (qk.1 q1).1];exact q1,q2,stb _ M _ (hS k) q1 q3⟩)
   (fun M ⟨f',t',d',e',c',q1,q2,q3⟩=>⟨f',t',d',e',c',by rw[qp (qk.1 q1).1];exact q1,q2,stb _ M _ (hSx e') q1 q3⟩)
   (qcF ih1 ih2 hd1 hd2 hn1 hn2 hps hround) _ hJ0
  have rargs:zE G1 w1.heap (.yl st.mu.length :: caps) (#[Value.func (.yield (w.heap.size+1)) #[] #[]]++cvs):=by
   refine⟨by simp[hm];omega,fun k x hx=>?_⟩;cases k with
   |zero =>
    simp at hx;subst hx;have e:(#[Value.func (.yield (w.heap.size+1)) #[] #[]]++cvs).getD 0 undef=Value.func (.yield (w.heap.size+1)) #[] #[]:=by
     simp only[qD];rw[Array.getElem?_append_left (by simp)];simp
    rw[e];exact VRel.yl _ _ 0 hblk1
   |succ k =>
    have:=(hw k x (by simpa using hx)).mono hle hext;have e:(#[Value.func (.yield (w.heap.size+1)) #[] #[]]++cvs).getD (k+1) undef=cvs.getD k undef:=by
     simp only[qD];rw[Array.getElem?_append_right (by simp)];simp
    rw[e];exact this
  refine⟨w.heap.size+1,[mkOf w.heap.size],w1,⟨.fn (.func gf) cvs,#[Value.func (.yield (w.heap.size+1)) #[] #[]]⟩,w1,gf,#[Value.func (.yield (w.heap.size+1)) #[] #[]]++cvs,w1,?_,?_,fun _ _=>trivial,?_,fun h=>by simp[WF,Fence.wide]at h,?_⟩
  .rw [hw1,<-hrec,show (WF ro).round=none from hrn.1];exact run_enterLoop_outer fn a.tmps ps aas body
  .simp only[resolve,rangeCall,qN,zu,qP,hq,Deferred.ofValue]
   simp[Act.eval]
  .simp only[invoke]
   exact hcal _ w1
  .have hcalls:=hso.2 G1 w1 _ s1 rargs
   have:=(callsIn_wide (n:=0)).2 (hcalls.mono (R':=rangePost (WF ro) 0 P (w.heap.size+1) QQ { a with defers:=mkOf w.heap.size :: a.defers }) ?_)
   .exact this
   rintro e w3 ⟨G3,mu3,t3,hR0⟩;have hR:(∃ v,e = .returned v)/\(JJ n ps aas body st.tm st.mu.length I rows.length mu3\/JX ps aas body st.tm st.mu.length Ix mu3):=by
    rcases hR0 with ⟨rv,v,⟨rv',he,hR⟩,rfl,hvv⟩|⟨rv,v,⟨rv',he,_⟩,_⟩
    .exact ⟨⟨v,rfl⟩,hR⟩
    .exact absurd he (by simp)
   clear hR0;obtain⟨⟨v,rfl⟩,hR⟩:=hR;have tt:Stp G st.mu w G3 mu3 w3:=t1.trans sG t3;have ttt:Stp G0 mu0 w0 G3 mu3 w3:=r.stp.trans s0 tt;have hb3:G3.blk[st.mu.length]?=some (w.heap.size+1,0):=t3.le.blk _ _ hblk1
   have fin:∀(rc:Loop) (e:qZ) (ee:Exit),mu3[st.mu.length]?=some (.lp rc st.tm)->fzQ z Q e ⟨st.tm,mu3.set st.mu.length .dead⟩->(∀ G w,ERel G w e ee)->QQ ee { a with defers:=mkOf w.heap.size :: a.defers } (w3.putObj (w.heap.size+1) (.loop { rc with state := .exhausted })):=by
    intro rc e ee hrc hqq hee;have hnl:=t3.sim.hid_not hrc (by simp) hb3;have hni:=t3.sim.live _ _ _ _ hrc (by simp) hb3;have td:Stp G0 mu0 w0 G3 (mu3.set st.mu.length .dead) w3:=ttt.trans s0 (Stp.drop t3.sim st.mu.length);have hbase:w0.heap.size<=w.heap.size:=r.stp.size;have tp:Stp G0 mu0 w0 G3 (mu3.set st.mu.length .dead) (w3.putObj (w.heap.size+1) (.loop { rc with state := .exhausted })):=by
     refine⟨td.le,td.sim.putOther hnl hni,fun b hb' hl=>?_,by simpa using td.size,td.live,td.inew,td.tape,td.os,td.output,td.drawn⟩;rw[uh (by omega)];exact td.keep b hb' hl
    have hext3:Ext G3 w3.heap (w3.putObj (w.heap.size+1) (.loop { rc with state := .exhausted })).heap:=
     ⟨by simp,fun b hb'=>uh (fun (e:b=_)=>hni (e ▸ hb'))⟩
    have mks:∀ D,Mk G1 (st.mu++[Cell.lp rec0 st.tm]) w1.heap D->D≠w.heap.size+1->Mk G3 (mu3.set st.mu.length .dead) (w3.putObj (w.heap.size+1) (.loop { rc with state := .exhausted })).heap D:=by
     intro D m hne;have m3:=m.step t3;exact⟨by rw[uh hne];exact m3.obj,fun h=>m3.nlive h.hid,m3.nimm⟩
    refine hf e ee ⟨st.tm,mu3.set st.mu.length .dead⟩ _ _ G3 hqq ⟨fun i=>?_,fun _=>?_,r.size,tp,fun p hp=>(tt.vrel sG (r.kp p hp)).mono (.refl G3) hext3⟩ (hee _ _)
    .exact (tt.vrel sG (r.tm i)).mono (.refl G3) hext3
    .obtain ⟨Ds,⟨hds,_⟩,hnd,hDs⟩:=r.df hrn.1
     have hDlt:∀ D,D∈Ds->D<w.heap.size:=fun D hD=>(zF.1 (hDs D hD).2.obj).1
     refine⟨w.heap.size :: Ds,⟨by simp[hds],fun h=>by rw[hrn.2]at h;cases h⟩,jS.2 ⟨fun h=>absurd (hDlt _ h) (by omega),hnd⟩,fun D hD=>?_⟩;rcases qB.1 hD with rfl|hD
     .exact ⟨hbase,mks _ mk1 (by omega)⟩
     .exact ⟨(hDs D hD).1,mks _ ((hDs D hD).2.step t1) (by have:=hDlt D hD;omega)⟩
   have hrec3:∀(rc:Loop),mu3[st.mu.length]?=some (.lp rc st.tm)->w3.heap[w.heap.size+1]?=some (.loop rc):=by
    intro rc hrc;obtain⟨o,ho,hcr⟩:=t3.sim.obj _ _ _ _ hrc (by simp) hb3;obtain⟨rfl,_⟩:=hcr;exact ho
   rcases hR with ⟨f',t',d',q1,q2,q3⟩|⟨f',t',d',e',c',q1,q2,q3⟩
   .refine ⟨_,_,run_endLoop (hrec3 _ q1) (by simp),?_⟩
    exact fin _ .normal .normal q1 (hend _ q3) (fun _ _=>trivial)
   .refine ⟨_,_,run_endLoop (hrec3 _ q1) (by simp),?_⟩
    cases e' with
    |ret =>
     simp only[Yk,qn]at q2;subst q2;exact wpIn_ret (fin _ .ret .ret q1 (hexit _ _ q3) (fun _ _=>trivial))
    |exit id =>
     simp only[Yk,qn]at q2;subst q2;exact wpIn_exit (fin _ (.exit id) (.exit id) q1 (hexit _ _ q3) (fun _ _=>rfl))
    |normal=>simp[Yk]at q2
    |pan v=>simp[Yk]at q2
 |goto l=>intro ro G0 mu0 w0 s0 Q QQ st a w G hf r hd hn h;exact h.elim
 |refuse why=>intro ro G0 mu0 w0 s0 Q QQ st a w G hf r hd hn h;exact h.elim
def resV(P:Program)(st:St):ResultVar->Option AV
 | .tmp t=>some (st.tm t)
 | .cell a t=>uG P st.mu t (st.tm a)
def resL(P:Program)(st:St):List ResultVar->Option (List AV)
 | []=>some []
 |r :: rs=>match resV P st r,resL P st rs with|some x,some xs=>some (x :: xs)|_,_=>none
def jL(P:Program)(st:St):List ResultVar->Option AV
 | [r]=>resV P st r
 |rs=>(resL P st rs).map .tup
def Yl(tmps:Array Value):ResultVar->Sem Value
 | .tmp t=>pure (tmps.getD t undef)
 | .cell a t=>do loadVar t (<-asAddr (tmps.getD a undef))
theorem KH{P:Program}{ro:Ro}{G0:Gh}{mu0:Mu}{w0:World}{n:Nat}{G:Gh}{st:St}{a:Act}{w:World}(r:Rel ro G0 mu0 w0 n G st a w){x:ResultVar}{z:AV}(h:resV P st x=some z) :
  ∃ u,(Yl a.tmps x).run P w = .ok u w/\VRel G w.heap z u:=by
 cases x with
 |tmp t=>simp only[resV,qn]at h;subst h;exact⟨_,rfl,r.tm t⟩
 |cell ad t =>
  obtain⟨b,u,h1,h2,h3⟩:=Xx (P:=P) r.stp.sim (r.tm ad) h;exact⟨u,by simp only[Yl,h1,asAddr,qN,zu,qP,h2],h3⟩
theorem qcG{P:Program}{ro:Ro}{G0:Gh}{mu0:Mu}{w0:World}{n:Nat}{G:Gh}{st:St}{a:Act}{w:World}(r:Rel ro G0 mu0 w0 n G st a w):∀(l:List ResultVar) (zs:List AV),resL P st l=some zs ->
  ∃ us:List Value,(l.mapM (Yl a.tmps)).run P w = .ok us w/\us.length=zs.length/\us.length=l.length/\∀(k:Nat) z,zs[k]?=some z->∃ u,us[k]?=some u/\VRel G w.heap z u:=by
 intro l;induction l with
 |nil=>intro zs h;simp only[resL,qn]at h;subst h;exact⟨[],by simp,rfl,rfl,by simp⟩
 |cons x l ih =>
  intro zs h;simp only[resL]at h;split at h
  .rename_i z zs' h1 h2
   simp only[qn]at h;subst h;obtain⟨u,g1,g2⟩:=KH r h1;obtain⟨us,k1,k2,k3,k4⟩:=ih zs' h2;refine⟨u :: us,by simp[List.mapM_cons,g1,k1],by simp[k2],by simp[k3],fun k z' hz=>?_⟩;cases k with
   |zero=>simp at hz;subst hz;exact⟨u,rfl,g2⟩
   |succ k=>exact k4 k z' (by simpa using hz)
  .exact absurd h (by simp)
theorem Ym{P:Program}{fn:Func}{ro:Ro}{G0:Gh}{mu0:Mu}{w0:World}{n:Nat}{G:Gh}{st:St}{a:Act}{w:World}(r:Rel ro G0 mu0 w0 n G st a w){z:AV}(h:jL P st fn.results.toList=some z) :
  ∃ u,(results fn a.tmps).run P w = .ok u w/\VRel G w.heap z u:=by
 have hrun:∀ us:List Value,(fn.results.toList.mapM (Yl a.tmps)).run P w = .ok us w->(results fn a.tmps).run P w = .ok (if h:us.toArray.size=1 then us.toArray[0] else .tuple us.toArray) w:=by
  intro us hus;have e:results fn a.tmps=(do let vs <-fn.results.mapM (Yl a.tmps);pure (if h:vs.size=1 then vs[0] else .tuple vs)):=rfl;rw[e];simp only[Array.mapM_eq_mapM_toList,qN,Sem.run_map,hus,qP,zu]
 unfold jL at h;split at h
 .rename_i x hx
  obtain⟨u,h1,h2⟩:=KH r h;refine⟨u,?_,h2⟩;rw[hrun [u] (by rw[hx];simp[List.mapM_cons,h1])];simp
 .rename_i rs hne
  cases hl:resL P st fn.results.toList with
  |none=>simp[hl]at h
  |some zs =>
   simp only[hl,q8,qn]at h;subst h;obtain⟨us,k1,k2,k3,k4⟩:=qcG r _ _ hl;have hn1:us.toArray.size≠1:=by
    intro h1;simp only[List.size_toArray]at h1;rw[k3]at h1;obtain⟨x,hx⟩:=List.length_eq_one_iff.1 h1;exact hne x hx
   refine⟨_,hrun us k1,?_⟩;rw[dif_neg hn1];refine .tup _ _ (by simp[k2]) (fun k z hz=>?_);obtain⟨u,hu,hv⟩:=k4 k z hz;have:us.toArray.getD k undef=u:=by simp[qD,hu]
   rw[this];exact hv
def st0(args:List AV)(mu:Mu):St:=⟨fun i=>(args[i]?).getD (.sc undef),mu⟩
def Qc(P:Program)(rs:List ResultVar)(R:AEnd->Mu->Prop):qZ->St->Prop
 | .normal,st | .ret,st=>OptK (jL P st rs) fun r=>R (.ret r) st.mu
 | .pan v,st=>R (.pan v) st.mu
 | .exit _,_=>False
theorem Rel.left{ro:Ro}(hro:ro.rd=none){G0:Gh}{mu0:Mu}{w0:World}{n:Nat}{G:Gh}{st:St}{a:Act}{w:World}(r:Rel ro G0 mu0 w0 n G st a w):∃(Ds:List Nat),a.defers=Ds.map mkOf++ro.dl/\Ds.Nodup/\(∀ D,D∈Ds->w.heap[D]?=some (.deferred (some []))) /\
  Rel ro G0 mu0 w0 n G st { a with defers:=ro.dl } (ul Ds w)/\∀ x v,VRel G w.heap x v->VRel G (ul Ds w).heap x v:=by
 obtain⟨Ds,⟨h1,_⟩,h2,h3⟩:=r.df hro;obtain⟨h4,h5⟩:=Kk Ds w h2 h3 r.stp;exact⟨Ds,h1,h2,fun D hD=>(h3 D hD).2.obj,⟨fun i=>(r.tm i).mono (.refl G) h5,fun _=>Dfs.nil _ _ _ _ _ _,r.size,h4,fun p hp=>(r.kp p hp).mono (.refl G) h5⟩,fun x v h=>h.mono (.refl G) h5⟩
theorem Rel.start{ro:Ro}{fn:Func}{args:List AV}{mu:Mu}{G:Gh}{w:World}{vs:Array Value}(s:Sim G mu w.heap)(ra:zE G w.heap args vs)(hn:args.length<=fn.ntmps)(hdl:ro.dl=[]:=by rfl)(hkp:ro.kp=[]:=by rfl) :
  Rel ro G mu w fn.ntmps G (st0 args mu) { tmps:=vs++Array.replicate (fn.ntmps-vs.size) undef,defers:=[] } w:=by
 have hvs:vs.size<=fn.ntmps:=by rw[ra.1];exact hn
 refine⟨fun i=>?_,fun _=>⟨[],⟨by simp[hdl],fun _=>rfl⟩,List.nodup_nil,by simp⟩,by simp;omega,Stp.refl s,fun p hp=>by rw[hkp]at hp;simp at hp⟩;simp only[st0];by_cases hi:i<args.length
 .have hx:args[i]?=some args[i]:=by simp[hi]
  have e:(vs++Array.replicate (fn.ntmps-vs.size) undef).getD i undef=vs.getD i undef:=by
   simp only[qD];rw[Array.getElem?_append_left (by rw[ra.1];exact hi)]
  rw[hx,e];exact ra.2 i _ hx
 .rw [zQ (by omega)]
  have e:(vs++Array.replicate (fn.ntmps-vs.size) undef).getD i undef=undef:=by
   simp only[qD];rw[Array.getElem?_append_right (by rw[ra.1];omega),Array.getElem?_replicate];split<;>rfl
  rw[e];exact .sc _ rfl
theorem qY.of_awp{P:Program}{f:FuncId}{fn:Func}{c:Code}{pl:Pol}{args:List AV}{mu:Mu}{R:AEnd->Mu->Prop}(hcal:jb P f)(hf:P.funcs[f]?=some fn)(hb:fn.body=some c)
  (hn:args.length<=fn.ntmps) (hd:dOkC fn.ntmps c=true) (h:awp P pl c (Qc P fn.results.toList R) (st0 args mu)):qY P f args mu R:=by
 refine⟨hcal,fun G w vs s ra=>?_⟩;refine(callsIn_wide (n:=0)).1 (callsIn_of_wp_marks hf hb trivial ?_);refine Up (n:=fn.ntmps) c (ro:=Ro.fn) s _ _ (st0 args mu) _ w G ?_ ?_ hd (.inl ⟨rfl,rfl⟩) h
 .intro ae e st a w' G' hq r he
  obtain⟨Ds,g1,g2,g3,r',hv'⟩:=r.left rfl;have key:∀(u:FrameMode) (R:Ending->World->Prop),u ≠ .run->LeavesIn Fence.wide 0 P fn a.tmps R [] u (ul Ds w')->LeavesInM Fence.wide 0 P fn a.tmps R a.defers u w':=by
   intro u R hu hl;rw[g1];exact Ua hu Ds w' g2 g3 hl
  cases ae<;>cases e<;>simp only[ERel]at he
  .obtain ⟨z,hz,hR⟩:=hq
   obtain⟨u,h1,h2⟩:=Ym r' hz;exact key .returning _ (by simp) ⟨u,h1,G',st.mu,r'.stp,.inl ⟨z,u,hR,rfl,h2⟩⟩
  .exact hq.elim
  .obtain ⟨z,hz,hR⟩:=hq
   obtain⟨u,h1,h2⟩:=Ym r' hz;exact key .returning _ (by simp) ⟨u,h1,G',st.mu,r'.stp,.inl ⟨z,u,hR,rfl,h2⟩⟩
  .obtain ⟨v,rfl,hv⟩:=he
   exact key (.panicking _) _ (by simp) ⟨G',st.mu,r'.stp,.inr ⟨_,v,hq,rfl,hv' _ _ hv⟩⟩
 .exact Rel.start s ra hn
theorem Sim.empty{imm:Nat->Prop}{h:Array Obj}(hi:∀ b,imm b->b<h.size)(ht:wU imm h):Sim ⟨imm,[]⟩ [] h:=
 ⟨rfl,hi,fun i c b t h=>by simp at h,fun i c b t h=>by simp at h,fun i j ci cj b t t' h=>by simp at h,ht⟩
theorem qi.of_sound{P:Program}{f:FuncId}{args:List AV}{r:AV}(h:qY P f args [] fun e mu'=>∃ r',e = .ret r'/\Rd mu' r' r):qi P f args r:=by
 obtain⟨hcal,h⟩:=h;refine⟨hcal,fun imm w vs hi ra=>?_⟩;refine(h ⟨imm,[]⟩ w vs hi ra).mono fun e w' ⟨G',mu',st,hR⟩=>?_
 have nolive:∀ b,¬Live ⟨imm,[]⟩ [] b:=fun b ⟨i,c,t,hc,_⟩=>by simp at hc
 rcases hR with ⟨r',v,⟨r'',e1,hrd⟩,rfl,hv⟩|⟨r',v,⟨r'',e1,_⟩,_⟩
 .cases e1
  refine⟨fun b=>G'.imm b\/Live G' mu' b,v,rfl,fun b hb => .inl (st.le.imm b hb),fun b hb=>?_,⟨⟨st.os,st.tape,st.output,st.size,fun k hk=>st.keep k hk (nolive k)⟩,st.drawn⟩,hrd.sound st.sim hv⟩;rcases hb with hb|hb
  .refine ⟨st.sim.imm b hb,?_⟩
   rcases st.inew b hb with h|h|h
   .exact .inl h
   .exact absurd h (nolive b)
   .exact .inr h
  .refine ⟨st.sim.livesize hb,?_⟩
   rcases st.live b hb with h|h
   .exact absurd h (nolive b)
   .exact .inr h
 .exact absurd e1 (by simp)
theorem qSW{P:Program}{f:FuncId}{fn:Func}{c:Code}{args:List AV}{mu:Mu}{R:AEnd->Mu->Prop}(hcal:jb P f)(hf:P.funcs[f]?=some fn)(hb:fn.body=some c)(pl:Pol)(h:awp P pl c (Qc P fn.results.toList R) (st0 args mu))(hn:Nat.ble args.length fn.ntmps=true:=by kernel_rfl)(hd:dOkC fn.ntmps c=true:=by kernel_rfl):qY P f args mu R:=qY.of_awp hcal hf hb (jo hn) hd h
theorem qSQ{P:Program}{f:FuncId}{fn:Func}{c:Code}{args:List AV}{r:AV}(hcal:jb P f)(hf:P.funcs[f]?=some fn)(hb:fn.body=some c)(pl:Pol)(h:awp P pl c (Qc P fn.results.toList fun e mu'=>∃ r',e = .ret r'/\Rd mu' r' r) (st0 args []))(hn:Nat.ble args.length fn.ntmps=true:=by kernel_rfl)(hd:dOkC fn.ntmps c=true:=by kernel_rfl):qi P f args r:=qi.of_sound (qSW hcal hf hb pl h hn hd)
end Go.Ev
namespace Go.Ev
open Go Go.RowKit
theorem eqS{α:Sort _}{a b:α}(h:a=b):a=b:=h
abbrev aI(n:Int):AV := .sc (.int .i64 n)
abbrev aB(b:Bool):AV := .sc (.bool b)
def panQ(Q:qZ->St->Prop):AV->St->Prop:=fun v st=>Q (.pan v) st
def retK(R:AEnd->Mu->Prop)(m:Mu):AV->Prop:=fun r=>R (.ret r) m
def qe(P:Program)(pl:Pol)(l:List Oper)(Q:St->Prop)(Qp:AV->St->Prop)(st:St):Prop:=∃ st',Fz st st'/\Un P pl l.toArray Q Qp st'
theorem qe.intro{P:Program}{pl:Pol}{l:List Oper}{Q:St->Prop}{Qp:AV->St->Prop}{st:St}(h:Yf pl l.toArray=true)(k:awpS P pl true l.toArray l Q Qp st):qe P pl l Q Qp st:=⟨st,.refl st,.inl (.inl (.inl ⟨h,k⟩))⟩
theorem qe.move{P:Program}{pl:Pol}{l:List Oper}{Q:St->Prop}{Qp:AV->St->Prop}{st:St}(a d:Nat)(h:JE pl l.toArray a (a+d)=true)(hl:(Nat.blt 0 d&&Nat.blt (a+d) l.length)=true)(k:awpS P pl true l.toArray l Q Qp st)(k2:awpS P pl true l.toArray (jd a d l) Q Qp st):qe P pl l Q Qp st:=by
 rw[qx]at hl;exact⟨st,.refl st,.inl (.inl (.inr (.inl ⟨a,d,h,jo hl.1,jo hl.2,k,k2⟩)))⟩
theorem qe.tail{P:Program}{pl:Pol}{l:List Oper}{Q:St->Prop}{Qp:AV->St->Prop}{st:St}(n:Nat)(h:Ui pl l.toArray n=true)(k:awpS P pl true l.toArray (l.take n) (fun st=>awpS P pl false l.toArray (l.drop n) Q Qp st) Qp st):qe P pl l Q Qp st:=
 ⟨st,.refl st,.inl (.inl (.inr (.inr ⟨n,h,k⟩)))⟩
theorem qe.floatY{P:Program}{pl:Pol}{l:List Oper}{Q:St->Prop}{Qp:AV->St->Prop}{st:St}(X Y F:List Nat)(T:List (Nat×Bool))(h:Zo pl l.toArray X=true)(hF:jv pl l.toArray X=F)(hT:((jJ pl l.toArray X l.toArray.size).map fun i=>(i,Yg l.toArray (butY (jv pl l.toArray X) Y) i))=T)
  (k:awpS P pl true l.toArray (pick l.toArray F) (anyQ P pl l.toArray Y (awpQ P pl (T.filterMap fun q=>(l.toArray[q.1]?).map fun o=>(q.2,o)) Q Qp)) (fun _ _=>False) st):qe P pl l Q Qp st:=by
 refine⟨st,.refl st,.inl (.inr ⟨X,Y,h,?_⟩)⟩;subst hF hT;rw[List.filterMap_map]at k;exact k
theorem qcH(F:List Nat):butY F []=F:=List.filter_eq_self.2 fun _ _=>rfl
theorem qe.float{P:Program}{pl:Pol}{l:List Oper}{Q:St->Prop}{Qp:AV->St->Prop}{st:St}(X F:List Nat)(T:List (Nat×Bool))(h:Zo pl l.toArray X=true)(hF:jv pl l.toArray X=F)(hT:((jJ pl l.toArray X l.toArray.size).map fun i=>(i,Yg l.toArray (jv pl l.toArray X) i))=T)
  (k:awpS P pl true l.toArray (pick l.toArray F) (anyQ P pl l.toArray [] (awpQ P pl (T.filterMap fun q=>(l.toArray[q.1]?).map fun o=>(q.2,o)) Q Qp)) (fun _ _=>False) st):qe P pl l Q Qp st:=
 .floatY X [] F T h hF (by rw[qcH];exact hT) k
@[go_sem ↓] theorem anyQ_eq(P:Program)(pl:Pol)(ops:Array Oper)(Y:List Nat)(K:St->Prop)(st:St):anyQ P pl ops Y K st=(anyY P pl ops Y st/\K st):=eqS rfl
@[go_sem ↓] theorem anyY_nil(P:Program)(pl:Pol)(ops:Array Oper)(st:St):anyY P pl ops [] st=True:=eqS rfl
@[go_sem ↓] theorem anyY_cons(P:Program)(pl:Pol)(l:List Oper)(i:Nat)(Y:List Nat)(st:St):anyY P pl l.toArray (i :: Y) st=((match l[i]? with|some o=>anyO P pl o st|none=>True)/\anyY P pl l.toArray Y st):=by
 show ((match l.toArray[i]? with|some o=>anyO P pl o st|none=>True)/\anyY P pl l.toArray Y st)=_;rw[uf]
@[go_sem ↓] theorem anyO_eq(P:Program)(pl:Pol)(d:Tmp)(op:Op)(ty:TypeId)(pos:String)(after:Array Edge)(g:Option (Nat×Bool))(st:St):anyO P pl ⟨some d,op,ty,pos,after,g⟩ st=∀ mu,qw P pl true (some d) op st.ev mu (uO st d mu) noK:=eqS rfl
@[go_sem ↓] theorem sameK_eq(st:St)(d:Tmp)(mu:Mu)(v:AV)(m:Mu):uO st d mu v m=(v=st.tm d/\m=mu):=eqS rfl
theorem qe.fz{P:Program}{pl:Pol}{l:List Oper}{Q:St->Prop}{Qp:AV->St->Prop}{st:St}(h:FzQ (fun _ st=>qe P pl l Q Qp st) (.exit 0) st):qe P pl l Q Qp st:=by
 obtain⟨st',f,_,st2,f2,h2⟩:=h;exact⟨st2,.step f f2,h2⟩
def KI(P:Program)(pl:Pol)(q:Bool)(l:List (Bool×Oper))(Q:St->Prop)(Qp:AV->St->Prop)(st:St)(dst:Option Tmp):AV->Mu->Prop:=fun v m=>(q=true->m=st.mu)/\awpQ P pl l Q Qp (st.put dst v m)
def panT(Qp:AV->St->Prop):AV->Mu->Prop:=fun v m=>∀ tm,Qp v ⟨tm,m⟩
@[go_sem ↓] theorem contQ_eq(P:Program)(pl:Pol)(q:Bool)(l:List (Bool×Oper))(Q:St->Prop)(Qp:AV->St->Prop)(st:St)(dst:Option Tmp)(v:AV)(m:Mu):KI P pl q l Q Qp st dst v m=((q=true->m=st.mu)/\awpQ P pl l Q Qp (st.put dst v m)):=eqS rfl
@[go_sem ↓] theorem panT_eq(Qp:AV->St->Prop)(v:AV)(m:Mu):panT Qp v m=∀ tm,Qp v ⟨tm,m⟩:=eqS rfl
@[go_sem ↓] theorem awpQ_nil(P:Program)(pl:Pol)(Q:St->Prop)(Qp:AV->St->Prop)(st:St):awpQ P pl [] Q Qp st=Q st:=eqS rfl
@[go_sem ↓] theorem awpQ_cons(P:Program)(pl:Pol)(q:Bool)(dst:Option Tmp)(op:Op)(ty:TypeId)(pos:String)(after:Array Edge)(g:Option (Nat×Bool))(l:List (Bool×Oper))(Q:St->Prop)(Qp:AV->St->Prop)(st:St) :
  awpQ P pl ((q,⟨dst,op,ty,pos,after,g⟩) :: l) Q Qp st=qw P pl false dst op st.ev st.mu (KI P pl q l Q Qp st dst) (panT Qp):=eqS rfl
theorem qe.seg{P:Program}{pl:Pol}{l:List Oper}{Q:St->Prop}{Qp:AV->St->Prop}{st:St}(O:List Nat)(T:List (Nat×Nat×List Nat))(h:Yi pl l.toArray O=true)(hT:plan pl l.toArray [] O=T)(hz:uQ P l.toArray T)(k:awpT P pl l.toArray Q Qp T st):qe P pl l Q Qp st:=by
 subst hT;exact⟨st,.refl st,.inr ⟨O,h,hz,k⟩⟩
def newO(P:Program):Nat->Option Oper->Prop
 | 2,some o=>(match o.op with | .alloc e=>OptK (qz P e) fun z=>z.cells.all AV.one=true|_=>False)
 |_,_=>True
@[go_sem ↓] theorem newOk_nil(P:Program)(ops:Array Oper):uQ P ops []=True:=eqS rfl
@[go_sem ↓] theorem qkQ(P:Program)(l:List Oper)(j k:Nat)(r:List Nat)(T:List (Nat×Nat×List Nat)):uQ P l.toArray ((j,k,r) :: T)=(newO P k l[j]?/\uQ P l.toArray T):=by
 show ((match k,l.toArray[j]? with|2,some o=>(match o.op with | .alloc e=>OptK (qz P e) fun z=>z.cells.all AV.one=true|_=>False)|_,_=>True)/\uQ P l.toArray T)=_;rw[uf];congr 1
@[go_sem ↓] theorem newO_0(P:Program)(o:Option Oper):newO P 0 o=True:=eqS rfl
@[go_sem ↓] theorem newO_1(P:Program)(o:Option Oper):newO P 1 o=True:=eqS rfl
@[go_sem ↓] theorem newO_2(P:Program)(dst:Option Tmp)(e:TypeId)(ty:TypeId)(pos:String)(after:Array Edge)(g:Option (Nat×Bool)):newO P 2 (some ⟨dst,.alloc e,ty,pos,after,g⟩)=OptK (qz P e) (fun z=>z.cells.all AV.one=true):=eqS rfl
def segK(P:Program)(pl:Pol)(l:List Oper)(Q:St->Prop)(Qp:AV->St->Prop)(r:List Nat)(T:List (Nat×Nat×List Nat))(dst:Option Tmp)(st:St):AV->Mu->Prop:=fun v m=>vO P pl l.toArray r (st.put dst v m)/\awpT P pl l.toArray Q Qp T (st.put dst v m)
def segP(Qp:AV->St->Prop)(k:Nat):AV->Mu->Prop:=fun v m=>k=1/\∀ tm,Qp v ⟨tm,m⟩
def segO(P:Program)(pl:Pol)(l:List Oper)(Q:St->Prop)(Qp:AV->St->Prop)(k:Nat)(r:List Nat)(T:List (Nat×Nat×List Nat))(st:St):Option Oper->Prop
 |none=>False
 |some o=>qw P pl (k != 1) o.dst o.op st.ev st.mu (segK P pl l Q Qp r T o.dst st) (segP Qp k)
@[go_sem ↓] theorem awpT_nil(P:Program)(pl:Pol)(ops:Array Oper)(Q:St->Prop)(Qp:AV->St->Prop)(st:St):awpT P pl ops Q Qp [] st=Q st:=eqS rfl
@[go_sem ↓] theorem awpT_cons(P:Program)(pl:Pol)(l:List Oper)(Q:St->Prop)(Qp:AV->St->Prop)(j k:Nat)(r:List Nat)(T:List (Nat×Nat×List Nat))(st:St):awpT P pl l.toArray Q Qp ((j,k,r) :: T) st=segO P pl l Q Qp k r T st l[j]?:=by
 show (match l.toArray[j]? with|none=>False|some o=>qw P pl (k != 1) o.dst o.op st.ev st.mu (fun v m=>vO P pl l.toArray r (st.put o.dst v m)/\awpT P pl l.toArray Q Qp T (st.put o.dst v m)) (fun v m=>k=1/\∀ tm,Qp v ⟨tm,m⟩))=_;rw[uf];cases l[j]?<;>rfl
@[go_sem ↓] theorem segO_0(P:Program)(pl:Pol)(l:List Oper)(Q:St->Prop)(Qp:AV->St->Prop)(r:List Nat)(T:List (Nat×Nat×List Nat))(st:St)(dst:Option Tmp)(op:Op)(ty:TypeId)(pos:String)(after:Array Edge)(g:Option (Nat×Bool)) :
  segO P pl l Q Qp 0 r T st (some ⟨dst,op,ty,pos,after,g⟩)=qw P pl true dst op st.ev st.mu (segK P pl l Q Qp r T dst st) noK:=by
 have:segP Qp 0=noK:=by funext v m;simp[segP,noK]
 show qw P pl true dst op st.ev st.mu (segK P pl l Q Qp r T dst st) (segP Qp 0)=_;rw[this]
@[go_sem ↓] theorem segO_1(P:Program)(pl:Pol)(l:List Oper)(Q:St->Prop)(Qp:AV->St->Prop)(r:List Nat)(T:List (Nat×Nat×List Nat))(st:St)(dst:Option Tmp)(op:Op)(ty:TypeId)(pos:String)(after:Array Edge)(g:Option (Nat×Bool)) :
  segO P pl l Q Qp 1 r T st (some ⟨dst,op,ty,pos,after,g⟩)=qw P pl false dst op st.ev st.mu (segK P pl l Q Qp r T dst st) (panT Qp):=by
 have:segP Qp 1=panT Qp:=by funext v m;simp[segP,panT]
 show qw P pl false dst op st.ev st.mu (segK P pl l Q Qp r T dst st) (segP Qp 1)=_;rw[this]
@[go_sem ↓] theorem segO_2(P:Program)(pl:Pol)(l:List Oper)(Q:St->Prop)(Qp:AV->St->Prop)(r:List Nat)(T:List (Nat×Nat×List Nat))(st:St)(dst:Option Tmp)(op:Op)(ty:TypeId)(pos:String)(after:Array Edge)(g:Option (Nat×Bool)) :
  segO P pl l Q Qp 2 r T st (some ⟨dst,op,ty,pos,after,g⟩)=qw P pl true dst op st.ev st.mu (segK P pl l Q Qp r T dst st) noK:=by
 have:segP Qp 2=noK:=by funext v m;simp[segP,noK]
 show qw P pl true dst op st.ev st.mu (segK P pl l Q Qp r T dst st) (segP Qp 2)=_;rw[this]
@[go_sem ↓] theorem segK_eq(P:Program)(pl:Pol)(l:List Oper)(Q:St->Prop)(Qp:AV->St->Prop)(r:List Nat)(T:List (Nat×Nat×List Nat))(dst:Option Tmp)(st:St)(v:AV)(m:Mu):segK P pl l Q Qp r T dst st v m=(vO P pl l.toArray r (st.put dst v m)/\awpT P pl l.toArray Q Qp T (st.put dst v m)):=eqS rfl
@[go_sem ↓] theorem qkR(P:Program)(pl:Pol)(ops:Array Oper)(st:St):vO P pl ops [] st=True:=eqS rfl
def KJ(P:Program)(pl:Pol)(st:St):Option Oper->Prop
 |some o=>Yj P pl o st
 |none=>True
@[go_sem ↓] theorem qkS(P:Program)(pl:Pol)(l:List Oper)(p:Nat)(r:List Nat)(st:St):vO P pl l.toArray (p :: r) st=(KJ P pl st l[p]?/\vO P pl l.toArray r st):=by
 show ((match l.toArray[p]? with|some o=>Yj P pl o st|none=>True)/\vO P pl l.toArray r st)=_;rw[uf];cases l[p]?<;>rfl
@[go_sem ↓] theorem qkT(P:Program)(pl:Pol)(st:St)(d:Tmp)(op:Op)(ty:TypeId)(pos:String)(after:Array Edge)(g:Option (Nat×Bool)):KJ P pl st (some ⟨some d,op,ty,pos,after,g⟩)=qw P pl true (some d) op st.ev st.mu (uO st d st.mu) noK:=eqS rfl
@[go_sem] theorem pick_nil(ops:Array Oper):pick ops []=[]:=eqS rfl
@[go_sem] theorem pick_list(l:List Oper)(i:Nat)(r:List Nat):pick l.toArray (i :: r)=(match l[i]? with|some o=>o :: pick l.toArray r|none=>pick l.toArray r):=by
 simp only[pick,List.filterMap_cons,uf];cases l[i]?<;>rfl
@[go_sem] theorem qkU(x:Oper)(l:List Oper):ju 0 x l=x :: l:=eqS (by cases l<;>rfl)
@[go_sem] theorem qkV(d:Nat)(x y:Oper)(l:List Oper):ju (d+1) x (y :: l)=y :: ju d x l:=eqS rfl
@[go_sem] theorem qkW(d:Nat)(x:Oper)(l:List Oper):jd 0 d (x :: l)=ju d x l:=eqS rfl
@[go_sem] theorem qkX(n d:Nat)(x:Oper)(l:List Oper):jd (n+1) d (x :: l)=x :: jd n d l:=eqS rfl
def ql(P:Program)(pl:Pol)(body:Code)(Q:qZ->St->Prop)(st:St):Prop:=∃(z:Bool) (I:Nat->St->Prop) (n:Nat) (st':St),Fz st st'/\I n st'/\∀ n st,I n st->awp P pl body (uS I n (fzQ z Q)) st
theorem ql.intro{P:Program}{pl:Pol}{body:Code}{Q:qZ->St->Prop}{st:St}(I:Nat->St->Prop)(n:Nat)(h:I n st)(k:∀ n st,I n st->awp P pl body (uS I n Q) st):ql P pl body Q st:=⟨false,I,n,st,.refl st,h,k⟩
theorem ql.introF{P:Program}{pl:Pol}{body:Code}{Q:qZ->St->Prop}{st:St}(I:Nat->St->Prop)(n:Nat)(h:I n st)(k:∀ n st,I n st->awp P pl body (uS I n (FzQ Q)) st):ql P pl body Q st:=⟨true,I,n,st,.refl st,h,k⟩
theorem ql.fz{P:Program}{pl:Pol}{body:Code}{Q:qZ->St->Prop}{st:St}(h:FzQ (fun _ st=>ql P pl body Q st) (.exit 0) st):ql P pl body Q st:=by
 obtain⟨st',f,_,z,I,n,st2,f2,h2⟩:=h;exact⟨z,I,n,st2,.step f f2,h2⟩
def j8(P:Program)(pl:Pol)(g:AV)(ps:Array Tmp)(aas body:Code)(Q:qZ->St->Prop)(st:St):Prop:=
 ∃(z:Bool) (gf:FuncId) (caps:List AV) (rows:List (List AV)) (I:Nat->Mu->Prop) (Ix:qZ->Mu->Prop),
   g = .fn (.func gf) [] caps/\yY P gf caps rows/\I 0 (st.mu++[.dead])/\(∀ k,Stb (I k))/\(∀ e,Stb (Ix e)) /\
   (∀ k x mu,rows[k]?=some x->I k mu->x.length=ps.size/\awp P pl aas (asQ (fun st=>awp P pl body (rndQ I Ix k) st)) ⟨vP st.tm ps.toList x,mu⟩) /\
   (∀ mu,I rows.length mu->fzQ z Q .normal ⟨st.tm,mu⟩)/\(∀ e mu,Ix e mu->fzQ z Q e ⟨st.tm,mu⟩)
theorem j8.intro{P:Program}{pl:Pol}{gf:FuncId}{caps:List AV}{ps:Array Tmp}{aas body:Code}{Q:qZ->St->Prop}{st:St}{rows:List (List AV)}(hit:yY P gf caps rows)(I:Nat->Mu->Prop)(Ix:qZ->Mu->Prop)
  (h0:I 0 (st.mu++[.dead])) (hS:∀ k mu,I k mu->I k (mu++[.dead])) (hX:∀ e mu,Ix e mu->Ix e (mu++[.dead]))
  (hr:∀ k x mu,rows[k]?=some x->I k mu->x.length=ps.size/\awp P pl aas (asQ (fun st=>awp P pl body (rndQ I Ix k) st)) ⟨vP st.tm ps.toList x,mu⟩)
  (he:∀ mu,I rows.length mu->Q .normal ⟨st.tm,mu⟩) (hx:∀ e mu,Ix e mu->Q e ⟨st.tm,mu⟩):j8 P pl (.fn (.func gf) [] caps) ps aas body Q st:=
 ⟨false,gf,caps,rows,I,Ix,rfl,hit,h0,hS,hX,hr,he,hx⟩
@[go_sem] theorem setPs_nil(tm:Nat->AV)(xs:List AV):vP tm [] xs=tm:=eqS (by cases xs<;>rfl)
@[go_sem] theorem qkY(tm:Nat->AV)(t:Tmp)(ts:List Tmp)(x:AV)(xs:List AV):vP tm (t :: ts) (x :: xs)=vP (fun i=>if i=t then x else tm i) ts xs:=eqS rfl
@[go_sem] theorem qkZ(n:St->Prop)(st:St):asQ n .normal st=n st:=eqS rfl
@[go_sem] theorem qk0(I:Nat->Mu->Prop)(Ix:qZ->Mu->Prop)(k:Nat)(st:St):rndQ I Ix k .normal st=I (k+1) st.mu:=eqS rfl
@[go_sem] theorem rndQ_ret(I:Nat->Mu->Prop)(Ix:qZ->Mu->Prop)(k:Nat)(st:St):rndQ I Ix k .ret st=Ix .ret st.mu:=eqS rfl
section
variable (P:Program) (pl:Pol) (Q:qZ->St->Prop) (st:St)
@[go_sem ↓] theorem awp_skip:awp P pl .skip Q st=Q .normal st:=eqS rfl
@[go_sem ↓] theorem awp_label(l:Nat):awp P pl (.label l) Q st=Q .normal st:=eqS rfl
@[go_sem ↓] theorem awp_exit(id:Nat):awp P pl (.exit id) Q st=Q (.exit id) st:=eqS rfl
@[go_sem ↓] theorem awp_ret:awp P pl .ret Q st=Q .ret st:=eqS rfl
@[go_sem ↓] theorem awp_seq(a b:Code):awp P pl (.seq a b) Q st=awp P pl a (seqQ (awp P pl b Q) Q) st:=eqS rfl
@[go_sem ↓] theorem awp_block(id:Nat)(b:Code):awp P pl (.block id b) Q st=awp P pl b (uR id Q) st:=eqS rfl
@[go_sem ↓] theorem awp_scope(b:Code):awp P pl (.scope b) Q st=awp P pl b Q st:=eqS rfl
@[go_sem ↓] theorem awp_loop(b:Code):awp P pl (.loop b) Q st=ql P pl b Q st:=eqS rfl
@[go_sem ↓] theorem qk1(g:Operand)(ps:Array Tmp)(aas body:Code):awp P pl (.rangeFunc g ps aas body) Q st=j8 P pl (st.ev g) ps aas body Q st:=eqS rfl
@[go_sem ↓] theorem qk2(id:Nat)(l:List Oper):awp P pl (.region id l.toArray false) Q st=awpS P pl false l.toArray l (Q .normal) (panQ Q) st:=
 propext ⟨fun h=>by rcases h with ⟨_,h⟩|⟨e,_⟩;exact h;exact absurd e (by simp),fun h => .inl ⟨rfl,h⟩⟩
@[go_sem ↓] theorem qk3(id:Nat)(l:List Oper):awp P pl (.region id l.toArray true) Q st=qe P pl l (Q .normal) (panQ Q) st:=
 propext ⟨fun h=>by rcases h with ⟨e,_⟩|⟨_,h⟩;exact absurd e (by simp);exact h,fun h => .inr ⟨rfl,h⟩⟩
def BrS(b:Bool)(p q:St->Prop)(st:St):Prop:=Br b (p st) (q st)
@[go_sem ↓] theorem BrS_true(p q:St->Prop):BrS true p q st=p st:=by simp[BrS,Br]
@[go_sem ↓] theorem BrS_false(p q:St->Prop):BrS false p q st=q st:=by simp[BrS,Br]
@[go_sem] theorem BrS_true'(p q:St->Prop):BrS true p q st=p st:=by simp[BrS,Br]
@[go_sem] theorem qk4(p q:St->Prop):BrS false p q st=q st:=by simp[BrS,Br]
theorem BrS.intro{b:Bool}{p q:St->Prop}{st:St}(h1:b=true->p st)(h2:b=false->q st):BrS b p q st:=⟨h1,h2⟩
def Uq(v:AV)(p q:St->Prop)(st:St):Prop:=∃ t,v = .sc (.bool t)/\Br t (p st) (q st)
@[go_sem ↓] theorem awp_cond(c:Operand)(a b:Code):awp P pl (.cond c a b) Q st=Uq (st.ev c) (awp P pl a Q) (awp P pl b Q) st:=eqS rfl
@[go_sem] theorem qk5(t:Bool)(p q:St->Prop):Uq (.sc (.bool t)) p q st=BrS t p q st:=by
 simp[Uq,BrS]
@[go_sem ↓] theorem qk6(n:St->Prop):seqQ n Q .normal st=n st:=eqS rfl
@[go_sem ↓] theorem seqQ_exit(n:St->Prop)(i:Nat):seqQ n Q (.exit i) st=Q (.exit i) st:=eqS rfl
@[go_sem ↓] theorem seqQ_ret(n:St->Prop):seqQ n Q .ret st=Q .ret st:=eqS rfl
@[go_sem ↓] theorem seqQ_pan(n:St->Prop)(v:AV):seqQ n Q (.pan v) st=Q (.pan v) st:=eqS rfl
@[go_sem ↓] theorem qk7(i:Nat):uR i Q .normal st=Q .normal st:=eqS rfl
@[go_sem ↓] theorem qk8(i j:Nat):uR j Q (.exit i) st=if i=j then Q .normal st else Q (.exit i) st:=eqS rfl
@[go_sem ↓] theorem qk9(i:Nat):uR i Q .ret st=Q .ret st:=eqS rfl
@[go_sem ↓] theorem qlA(i:Nat)(v:AV):uR i Q (.pan v) st=Q (.pan v) st:=eqS rfl
@[go_sem ↓] theorem qlB(I:Nat->St->Prop)(n:Nat):uS I n Q .normal st=∃ m,m<n/\I m st:=eqS rfl
@[go_sem ↓] theorem qlC(I:Nat->St->Prop)(n i:Nat):uS I n Q (.exit i) st=Q (.exit i) st:=eqS rfl
@[go_sem ↓] theorem loopQ_ret(I:Nat->St->Prop)(n:Nat):uS I n Q .ret st=Q .ret st:=eqS rfl
@[go_sem ↓] theorem panQ_eq(v:AV):panQ Q v st=Q (.pan v) st:=eqS rfl
@[go_sem ↓] theorem qlD(rs:List ResultVar)(R:AEnd->Mu->Prop):Qc P rs R .normal st=OptK (jL P st rs) (retK R st.mu):=eqS rfl
@[go_sem ↓] theorem PostQ_ret(rs:List ResultVar)(R:AEnd->Mu->Prop):Qc P rs R .ret st=OptK (jL P st rs) (retK R st.mu):=eqS rfl
@[go_sem ↓] theorem PostQ_pan(rs:List ResultVar)(R:AEnd->Mu->Prop)(v:AV):Qc P rs R (.pan v) st=R (.pan v) st.mu:=eqS rfl
@[go_sem ↓] theorem retK_eq(R:AEnd->Mu->Prop)(m:Mu)(r:AV):retK R m r=R (.ret r) m:=eqS rfl
@[go_sem] theorem qlE(r:ResultVar):jL P st [r]=resV P st r:=eqS rfl
@[go_sem] theorem qlF:jL P st []=some (.tup []):=eqS rfl
@[go_sem] theorem qlG(r s:ResultVar):jL P st [r,s]=(match resV P st r,resV P st s with|some x,some y=>some (.tup [x,y])|_,_=>none):=by
 simp only[jL,resL];cases resV P st r<;>cases resV P st s<;>rfl
@[go_sem] theorem resV_tmp(t:Tmp):resV P st (.tmp t)=some (st.tm t):=eqS rfl
@[go_sem] theorem resV_cell(a:Tmp)(t:TypeId):resV P st (.cell a t)=uG P st.mu t (st.tm a):=eqS rfl
end
section
variable {α:Type}
@[go_sem] theorem OptK_some(v:α)(k:α->Prop):OptK (some v) k=k v:=by simp[OptK]
theorem OptK.intro{o:Option α}{k:α->Prop}(v:α)(h:o=some v)(hk:k v):OptK o k:=⟨v,h,hk⟩
end
section
variable (P:Program) (pl:Pol) (det:Bool) (ops:Array Oper) (Q:St->Prop) (Qp:AV->St->Prop) (st:St)
def JM(P:Program)(pl:Pol)(det:Bool)(ops:Array Oper)(l:List Oper)(Q:St->Prop)(Qp:AV->St->Prop)(st:St)(dst:Option Tmp):AV->Mu->Prop:=fun v m=>awpS P pl det ops l Q Qp (st.put dst v m)
def panS(Qp:AV->St->Prop)(st:St):AV->Mu->Prop:=fun v m=>Qp v ⟨st.tm,m⟩
@[go_sem ↓] theorem contK_eq(l:List Oper)(dst:Option Tmp)(v:AV)(m:Mu):JM P pl det ops l Q Qp st dst v m=awpS P pl det ops l Q Qp (st.put dst v m):=eqS rfl
@[go_sem ↓] theorem panS_eq(v:AV)(m:Mu):panS Qp st v m=Qp v ⟨st.tm,m⟩:=eqS rfl
@[go_sem ↓] theorem awpS_nil:awpS P pl det ops [] Q Qp st=Q st:=eqS rfl
@[go_sem ↓] theorem qlH(dst:Option Tmp)(op:Op)(ty:TypeId)(pos:String)(after:Array Edge)(l:List Oper):awpS P pl det ops (⟨dst,op,ty,pos,after,none⟩ :: l) Q Qp st =
  qw P pl det dst op st.ev st.mu (JM P pl det ops l Q Qp st dst) (panS Qp st):=by
 simp[awpS,uN,OptK,Br];rfl
def runK(P:Program)(pl:Pol)(det:Bool)(ops:Array Oper)(dst:Option Tmp)(op:Op)(l:List Oper)(Q:St->Prop)(Qp:AV->St->Prop):St->Prop:=fun st=>qw P pl det dst op st.ev st.mu (JM P pl det ops l Q Qp st dst) (panS Qp st)
def KL(P:Program)(pl:Pol)(det:Bool)(ops:Array Oper)(dst:Option Tmp)(l:List Oper)(Q:St->Prop)(Qp:AV->St->Prop):St->Prop:=fun st=>awpS P pl det ops l Q Qp (st.put dst (.sc undef) st.mu)
@[go_sem ↓] theorem runK_eq(dst:Option Tmp)(op:Op)(l:List Oper):runK P pl det ops dst op l Q Qp st=qw P pl det dst op st.ev st.mu (JM P pl det ops l Q Qp st dst) (panS Qp st):=eqS rfl
@[go_sem ↓] theorem passK_eq(dst:Option Tmp)(l:List Oper):KL P pl det ops dst l Q Qp st=awpS P pl det ops l Q Qp (st.put dst (.sc undef) st.mu):=eqS rfl
def brK(p q:St->Prop)(st:St):Bool->Prop:=fun b=>BrS b p q st
@[go_sem ↓] theorem brK_eq(p q:St->Prop)(b:Bool):brK p q st b=BrS b p q st:=eqS rfl
def Ur(d:Option Tmp)(st:St)(want:Bool)(p q:St->Prop):Prop:=OptK (match d with|none=>some false|some d=>Zm (st.tm d) want) (brK p q st)
@[go_sem ↓] theorem qlI(dst:Option Tmp)(op:Op)(ty:TypeId)(pos:String)(after:Array Edge)(l:List Oper)(j:Nat)(want:Bool)(ol:List Oper) :
  awpS P pl det ol.toArray (⟨dst,op,ty,pos,after,some (j,want)⟩ :: l) Q Qp st=Ur ((ol[j]?).bind (·.dst)) st want (runK P pl det ol.toArray dst op l Q Qp) (KL P pl det ol.toArray dst l Q Qp):=by
 simp only[awpS,uN,Ur,uf];rfl
@[go_sem] theorem qlJ(d:Tmp)(want:Bool)(p q:St->Prop):Ur (some d) st want p q=OptK (Zm (st.tm d) want) (brK p q st):=eqS rfl
@[go_sem] theorem qlK(b want:Bool):Zm (.sc (.bool b)) want=some (b == want):=eqS rfl
@[go_sem] theorem qlL(want:Bool):Zm (.sc undef) want=some false:=eqS rfl
end
def plc(l:List (Nat×Nat)):Nat->Option (Nat×Nat):=fun i=>l.toArray[i]?
def plA(s:Nat):Nat->Option (Nat×Nat):=fun i=>some (i*s,s)
@[go_sem] theorem plc_zero(p:Nat×Nat)(l:List (Nat×Nat)):plc (p :: l) 0=some p:=by simp[plc]
@[go_sem] theorem plc_succ(p:Nat×Nat)(l:List (Nat×Nat))(i:Nat):plc (p :: l) (i+1)=plc l i:=by simp[plc]
@[go_sem] theorem plA_eq(s i:Nat):plA s i=some (i*s,s):=eqS rfl
section
variable (st:St) (v:AV) (m:Mu)
@[go_sem] theorem KM(d i:Tmp):(st.put (some d) v m).tm i=if i=d then v else st.tm i:=eqS rfl
@[go_sem] theorem qlM(i:Tmp):(st.put none v m).tm i=st.tm i:=eqS rfl
@[go_sem] theorem qL(d:Option Tmp):(st.put d v m).mu=m:=eqS rfl
@[go_sem] theorem st0_tm(args:List AV)(i:Tmp):(st0 args m).tm i=(args[i]?).getD (.sc undef):=eqS rfl
@[go_sem] theorem st0_mu(args:List AV):(st0 args m).mu=m:=eqS rfl
@[go_sem] theorem ev_tmp(t:Tmp):st.ev (.tmp t)=st.tm t:=eqS rfl
@[go_sem] theorem ev_const(c:Value):st.ev (.const c)=ofV c:=eqS rfl
@[go_sem] theorem ev_func(f:FuncId):st.ev (.func f) = .fn (.func f) [] []:=eqS rfl
@[go_sem] theorem ofV_int(k:IntKind)(n:Int):ofV (.int k n) = .sc (.int k n):=eqS rfl
@[go_sem] theorem ofV_bool(b:Bool):ofV (.bool b) = .sc (.bool b):=eqS rfl
@[go_sem] theorem qlN(s:ByteArray):ofV (.string s) = .sc (.string s):=eqS rfl
@[go_sem] theorem qlO:ofV (.slice none 0 0) = .lst true []:=eqS rfl
@[go_sem] theorem qlP:ofV .nilIface = .sc .nilIface:=eqS rfl
@[go_sem] theorem qlQ:ofV .nilFunc = .sc .nilFunc:=eqS rfl
end
section
variable (P:Program) (pl:Pol) (det:Bool) (dst:Option Tmp) (ev:Operand->AV) (mu:Mu) (K Kp:AV->Mu->Prop)
def km(K:AV->Mu->Prop)(mu:Mu):AV->Prop:=fun z=>K z mu
def ks(K:AV->Mu->Prop):Mu->Prop:=fun m=>K (.sc undef) m
def kp(K:AV->Mu->Prop):AV×Mu->Prop:=fun z=>K z.1 z.2
def KN(K:AV->Mu->Prop)(mu:Mu):AV->Prop:=fun z=>z.cells.all AV.one=true/\K (.ptr mu.length 0) (mu++[.arr z.cells])
@[go_sem ↓] theorem km_eq(z:AV):km K mu z=K z mu:=eqS rfl
@[go_sem ↓] theorem ks_eq(m:Mu):ks K m=K (.sc undef) m:=eqS rfl
@[go_sem ↓] theorem kp_eq(z:AV)(m:Mu):kp K (z,m)=K z m:=eqS rfl
@[go_sem ↓] theorem allocK_eq(z:AV):KN K mu z=(z.cells.all AV.one=true/\K (.ptr mu.length 0) (mu++[.arr z.cells])):=eqS rfl
@[go_sem ↓] theorem qlR(x:Operand):qw P pl det dst (.move x) ev mu K Kp=K (ev x) mu:=eqS rfl
@[go_sem ↓] theorem qlS(x:Operand):qw P pl det dst (.assign x) ev mu K Kp=K (ev x) mu:=eqS rfl
def Us(v a b:AV)(k:AV->Prop):Prop:=∃ t,v = .sc (.bool t)/\k (if t then a else b)
@[go_sem ↓] theorem qlT(c a b:Operand):qw P pl det dst (.pick c a b) ev mu K Kp=Us (ev c) (ev a) (ev b) (km K mu):=eqS rfl
@[go_sem] theorem qlU(t:Bool)(a b:AV)(k:AV->Prop):Us (.sc (.bool t)) a b k=k (if t then a else b):=by simp[Us]
@[go_sem ↓] theorem qlV(e:TypeId):qw P pl det dst (.alloc e) ev mu K Kp=OptK (qz P e) (KN K mu):=eqS rfl
@[go_sem ↓] theorem SStep_box(e:TypeId)(x:Operand):qw P pl det dst (.box e x) ev mu K Kp=((ev x).cells.all AV.one=true/\(if (dst.any pl.mt.contains)=true then K (.ptr mu.length 0) (mu++[.arr (ev x).cells]) else K (.ip (ev x).cells) mu)):=eqS rfl
@[go_sem ↓] theorem qlW(t:TypeId)(ps:List (Nat×Operand)):qw P pl det dst (.build t ps.toArray) ev mu K Kp=(yg P t=true/\OptK (Jr P t (ps.map fun p=>(p.1,ev p.2))) (km K mu)):=eqS rfl
@[go_sem ↓] theorem qlX(t:TypeId)(n:Nat)(ps:List (Nat×Operand)):qw P pl det dst (.buildSlice t n ps.toArray) ev mu K Kp=OptK (Js P t n (ps.map fun p=>(p.1,ev p.2))) (km K mu):=eqS rfl
@[go_sem ↓] theorem qlY(t:TypeId)(x:Operand):qw P pl det dst (.load t x) ev mu K Kp=OptK (uG P mu t (ev x)) (km K mu):=eqS rfl
@[go_sem ↓] theorem qlZ(t:TypeId)(a x:Operand):qw P pl det dst (.store t a x) ev mu K Kp=OptK (Jj P mu t (ev a) (ev x)) (ks K):=eqS rfl
@[go_sem ↓] theorem ql0(x:Operand):qw P pl det dst (.nilCheck x) ev mu K Kp=OptK (JA (ev x)) (km K mu):=eqS rfl
def j9(P:Program)(det:Bool)(op:BinOp)(t:TypeId)(x y:Operand)(ev:Operand->AV)(mu:Mu)(K:AV->Mu->Prop):Prop:=if uj y=true then jm P det op t (ev x) (km K mu) else OptK (uK P op t (ev x) (ev y)) (km K mu)
@[go_sem ↓] theorem ql1(op:BinOp)(t yt:TypeId)(x y:Operand):qw P pl det dst (.binOp op t x y yt) ev mu K Kp=j9 P det op t x y ev mu K:=eqS rfl
@[go_sem ↓] theorem BinGo_tmp(op:BinOp)(t:TypeId)(x:Operand)(u:Tmp):j9 P det op t x (.tmp u) ev mu K=OptK (uK P op t (ev x) (ev (.tmp u))) (km K mu):=by simp[j9,uj]
@[go_sem ↓] theorem BinGo_int(op:BinOp)(t:TypeId)(x:Operand)(k:IntKind)(n:Int):j9 P det op t x (.const (.int k n)) ev mu K=OptK (uK P op t (ev x) (ev (.const (.int k n)))) (km K mu):=by simp[j9,uj]
@[go_sem ↓] theorem ql2(op:BinOp)(t:TypeId)(x:Operand)(s:ByteArray):j9 P det op t x (.const (.string s)) ev mu K=OptK (uK P op t (ev x) (ev (.const (.string s)))) (km K mu):=by simp[j9,uj]
@[go_sem ↓] theorem ql3(op:BinOp)(t:TypeId)(x:Operand):j9 P det op t x (.const .nilIface) ev mu K=OptK (uK P op t (ev x) (ev (.const .nilIface))) (km K mu):=by simp[j9,uj]
@[go_sem ↓] theorem ql4(op:BinOp)(t:TypeId)(x:Operand):j9 P det op t x (.const (.pointer none)) ev mu K=OptK (uK P op t (ev x) (ev (.const (.pointer none)))) (km K mu):=by simp[j9,uj]
@[go_sem ↓] theorem BinGo_nil(op:BinOp)(t:TypeId)(x:Operand):j9 P det op t x (.const (.slice none 0 0)) ev mu K=jm P det op t (ev x) (km K mu):=by simp[j9,uj]
@[go_sem] theorem ql5(op:BinOp)(t:TypeId)(f:Bool)(r:List AV)(xs:List (List AV))(k:AV->Prop):jm P det op t (.lst f (r :: xs)) k=((qJ P t).isSome=true/\(op = .eql\/op = .neq)/\k (.sc (.bool (decide (op = .neq))))):=eqS rfl
@[go_sem] theorem NilGo_nil(op:BinOp)(t:TypeId)(f:Bool)(k:AV->Prop):jm P det op t (.lst f []) k=((qJ P t).isSome=true/\(op = .eql\/op = .neq)/\det=false/\k (.sc (.bool true))/\k (.sc (.bool false))):=eqS rfl
@[go_sem ↓] theorem ql6(op:UnOp)(t:TypeId)(x:Operand):qw P pl det dst (.unOp op t x) ev mu K Kp=OptK (aUn op (ev x)) (km K mu):=eqS rfl
@[go_sem ↓] theorem ql7(s t:TypeId)(x:Operand):qw P pl det dst (.convert s t x) ev mu K Kp=((P.underlying s).isSome=true/\OptK (Jk P s t (ev x)) (km K mu)):=eqS rfl
@[go_sem ↓] theorem ql8(t:TypeId)(x:Operand):qw P pl det dst (.makeInterface t x) ev mu K Kp=(Qa P t=true/\K (.ifc t (ev x)) mu):=eqS rfl
@[go_sem ↓] theorem ql9(f:Fn)(a b:List Operand):qw P pl det dst (.makeFunc f a.toArray b.toArray) ev mu K Kp=K (.fn f (evs ev a) (evs ev b)) mu:=eqS rfl
@[go_sem ↓] theorem qmA(t:TypeId)(l c:Operand):qw P pl det dst (.makeSlice t l c) ev mu K Kp=OptK (Z7 P mu t (ev l) (ev c)) (kp K):=eqS rfl
@[go_sem ↓] theorem qmB(t:TypeId)(x:Operand)(lo hi mx:Option Operand):qw P pl det dst (.slice t x lo hi mx) ev mu K Kp=(X6 P t (ev x)/\OptK (Jq P t (ev x) (lo.map ev) (hi.map ev) (mx.map ev)) (km K mu)):=eqS rfl
@[go_sem ↓] theorem qmC(t:TypeId)(x:Operand)(f:Nat):qw P pl det dst (.fieldAddr t x f) ev mu K Kp=OptK (Jl P t f (ev x)) (km K mu):=eqS rfl
@[go_sem ↓] theorem qmD(t:TypeId)(x:Operand)(f:Nat):qw P pl det dst (.field t x f) ev mu K Kp=OptK (Jo P t f (ev x)) (km K mu):=eqS rfl
@[go_sem ↓] theorem qmE(t:TypeId)(x i:Operand):qw P pl det dst (.indexAddr t x i) ev mu K Kp=OptK (Jm P t (ev x) (ev i)) (km K mu):=eqS rfl
@[go_sem ↓] theorem qmF(t:TypeId)(x i:Operand):qw P pl det dst (.index t x i) ev mu K Kp=OptK (Jp P t (ev x) (ev i)) (km K mu):=eqS rfl
@[go_sem ↓] theorem qmG(x:Operand)(i:Nat):qw P pl det dst (.extract x i) ev mu K Kp=OptK (V4 i (ev x)) (km K mu):=eqS rfl
@[go_sem ↓] theorem qmH(x:Operand)(xt t:TypeId)(ok:Bool):qw P pl det dst (.typeAssert x xt t ok) ev mu K Kp=OptK (JB P t ok (ev x)) (km K mu):=eqS rfl
@[go_sem ↓] theorem qmI(t:TypeId):qw P pl det dst (.makeMap t none) ev mu K Kp=K (.mp mu.length) (mu++[.mp []]):=by
 simp only[qw,true_and]
@[go_sem ↓] theorem qmJ(t:TypeId)(m k:Operand)(ok:Bool):qw P pl det dst (.lookup t m k ok) ev mu K Kp=OptK (z7 P mu t (ev m) (ev k) ok) (km K mu):=eqS rfl
@[go_sem ↓] theorem qmK(t:TypeId)(m k v:Operand):qw P pl det dst (.mapUpdate t m k v) ev mu K Kp=OptK (vw P mu t (ev m) (ev k) (ev v)) (ks K):=eqS rfl
@[go_sem ↓] theorem qmL(t:TypeId)(m k v:Operand):qw P pl det dst (.insert t m k v) ev mu K Kp=OptK (vw P mu t (ev m) (ev k) (ev v)) (ks K):=eqS rfl
@[go_sem ↓] theorem qmM(t:TypeId)(m:Operand):qw P pl det dst (.range t m) ev mu K Kp=OptK (Jy P mu t (ev m)) (kp K):=eqS rfl
@[go_sem ↓] theorem qmN(i:Operand):qw P pl false dst (.next i false) ev mu K Kp=V2 mu (ev i) K:=by
 simp only[qw,true_and]
@[go_sem ↓] theorem qmO(i:Operand):qw P pl det dst (.entry i) ev mu K Kp=OptK (w7 mu (ev i)) (km K mu):=eqS rfl
@[go_sem ↓] theorem qmP(x:Operand):qw P pl det dst (.panic x) ev mu K Kp=(det=false/\∃ t v,ev x = .ifc t v/\Kp (.ifc t v) mu):=eqS rfl
@[go_sem ↓] theorem qmQ(f:Operand)(aas:List Operand)(ats:Array TypeId):qw P pl det dst (.call ⟨.value f,aas.toArray,ats⟩) ev mu K Kp=qb P det mu (ev f) (evs ev aas) K Kp:=eqS rfl
def KO(P:Program)(mu:Mu)(ats:Array TypeId)(l:List AV)(K:AV->Mu->Prop):Prop:=∃ s x,l=[s,x]/\qF P mu ats s x K
@[go_sem ↓] theorem qmR(aas:List Operand)(ats:Array TypeId):qw P pl det dst (.call ⟨.builtin .append,aas.toArray,ats⟩) ev mu K Kp=KO P mu ats (evs ev aas) K:=eqS rfl
@[go_sem] theorem AppGo_eq(ats:Array TypeId)(s x:AV):KO P mu ats [s,x] K=qF P mu ats s x K:=
 propext ⟨fun⟨_,_,e,h⟩=>by cases e;exact h,fun h=>⟨s,x,rfl,h⟩⟩
@[go_sem ↓] theorem qmS(aas:List Operand)(ats:Array TypeId):qw P pl det dst (.call ⟨.builtin .copy,aas.toArray,ats⟩) ev mu K Kp=ww P mu .copy ats (evs ev aas) K:=eqS rfl
theorem Ut{P : Program}{mu : Mu}{K : AV->Mu->Prop}{t t' : TypeId}{sz sz0 b off len : Nat}{cells : List AV}{ys : List (List AV)}{x : AV}(hs : (qJ P t).map (fun x => x.2.1) = some sz)(hc : mu[b]? = some (.arr cells))(hl : off + len * sz<=cells.length)
      (hr:qG mu x=some ys) (hw:zh sz ys) (k:K (.sc (.int .i64 ((min ys.length len:Nat):Int))) (mu.set b (.arr (putCells cells off (ys.take len).flatten)))):ww P mu .copy #[t,t'] [.sl b sz0 off len,x] K:=by
  cases hq:qJ P t with
  |none=>simp[hq]at hs
  |some q =>
    obtain⟨e,sz',bt⟩:=q;simp only[hq,q8,qn]at hs;subst hs;exact⟨_,_,.copy hq hc hl hr hw,k⟩
@[go_sem ↓] theorem SStep_len(aas:List Operand)(ats:Array TypeId):qw P pl det dst (.call ⟨.builtin .len,aas.toArray,ats⟩) ev mu K Kp=OptK (vM P mu .len ats (evs ev aas)) (km K mu):=eqS rfl
@[go_sem ↓] theorem SStep_cap(aas:List Operand)(ats:Array TypeId):qw P pl det dst (.call ⟨.builtin .cap,aas.toArray,ats⟩) ev mu K Kp=OptK (vM P mu .cap ats (evs ev aas)) (km K mu):=eqS rfl
@[go_sem ↓] theorem SStep_min(aas:List Operand)(ats:Array TypeId):qw P pl det dst (.call ⟨.builtin .min,aas.toArray,ats⟩) ev mu K Kp=OptK (vM P mu .min ats (evs ev aas)) (km K mu):=eqS rfl
@[go_sem ↓] theorem SStep_max(aas:List Operand)(ats:Array TypeId):qw P pl det dst (.call ⟨.builtin .max,aas.toArray,ats⟩) ev mu K Kp=OptK (vM P mu .max ats (evs ev aas)) (km K mu):=eqS rfl
@[go_sem] theorem evs_nil:evs ev []=[]:=eqS rfl
@[go_sem] theorem evs_cons(x:Operand)(l:List Operand):evs ev (x :: l)=ev x :: evs ev l:=eqS rfl
end
@[go_sem] theorem cells_agg(cs:List AV):(AV.agg cs).cells=cs:=eqS rfl
@[go_sem] theorem cells_sc(v:Value):(AV.sc v).cells=[.sc v]:=eqS rfl
@[go_sem] theorem cells_lst(f:Bool)(xs:List (List AV)):(AV.lst f xs).cells=[.lst f xs]:=eqS rfl
@[go_sem] theorem cells_sl(b sz off len:Nat):(AV.sl b sz off len).cells=[.sl b sz off len]:=eqS rfl
@[go_sem] theorem cells_ip(cs:List AV):(AV.ip cs).cells=[.ip cs]:=eqS rfl
@[go_sem] theorem cells_ptr(b o:Nat):(AV.ptr b o).cells=[.ptr b o]:=eqS rfl
@[go_sem] theorem cells_mp(b:Nat):(AV.mp b).cells=[.mp b]:=eqS rfl
@[go_sem] theorem cells_fn(f:Fn)(a b:List AV):(AV.fn f a b).cells=[.fn f a b]:=eqS rfl
@[go_sem] theorem one_int(k:IntKind)(n:Int):(AV.sc (.int k n)).one=true:=eqS rfl
@[go_sem] theorem one_bool(b:Bool):(AV.sc (.bool b)).one=true:=eqS rfl
@[go_sem] theorem qmT(s:ByteArray):(AV.sc (.string s)).one=true:=eqS rfl
@[go_sem] theorem qmU:(AV.sc .nilFunc).one=true:=eqS rfl
@[go_sem] theorem qmV:(AV.sc (.pointer none)).one=true:=eqS rfl
@[go_sem] theorem qmW:(AV.sc (.map none)).one=true:=eqS rfl
@[go_sem] theorem one_lst(f:Bool)(xs:List (List AV)):(AV.lst f xs).one=true:=eqS rfl
@[go_sem] theorem one_sl(b sz off len:Nat):(AV.sl b sz off len).one=true:=eqS rfl
@[go_sem] theorem one_ip(cs:List AV):(AV.ip cs).one=true:=eqS rfl
@[go_sem] theorem one_ptr(b o:Nat):(AV.ptr b o).one=true:=eqS rfl
@[go_sem] theorem one_mp(b:Nat):(AV.mp b).one=true:=eqS rfl
@[go_sem] theorem one_ims(es:List (AV×AV)):(AV.ims es).one=true:=eqS rfl
@[go_sem] theorem one_fn(f:Fn)(a b:List AV):(AV.fn f a b).one=true:=eqS rfl
end Go.Ev
namespace Go.Ev
open Go Go.RowKit
theorem qw.mono{P:Program}{pl:Pol}{det:Bool}{dst:Option Tmp}{op:Op}{ev:Operand->AV}{mu:Mu}{K K' Kp Kp':AV->Mu->Prop}(h:qw P pl det dst op ev mu K Kp)
  (hK:∀ v m,K v m->K' v m) (hKp:∀ v m,Kp v m->Kp' v m):qw P pl det dst op ev mu K' Kp':=by
 cases op<;>simp only[qw]at h⊢<;>try (exact h.elim)
 case move=>exact hK _ _ h
 case assign=>exact hK _ _ h
 case makeFunc=>exact hK _ _ h
 case pick=>obtain⟨t,h1,h2⟩:=h;exact⟨t,h1,hK _ _ h2⟩
 case alloc=>obtain⟨z,h1,h2,h3⟩:=h;exact⟨z,h1,h2,hK _ _ h3⟩
 case box =>
  obtain⟨h1,h2⟩:=h;refine⟨h1,?_⟩;split at h2
  .rename_i hc;rw[if_pos hc];exact hK _ _ h2
  .rename_i hc;rw[if_neg hc];exact hK _ _ h2
 case build=>obtain⟨h0,z,h1,h2⟩:=h;exact⟨h0,z,h1,hK _ _ h2⟩
 case buildSlice=>obtain⟨z,h1,h2⟩:=h;exact⟨z,h1,hK _ _ h2⟩
 case load=>obtain⟨z,h1,h2⟩:=h;exact⟨z,h1,hK _ _ h2⟩
 case store=>obtain⟨z,h1,h2⟩:=h;exact⟨z,h1,hK _ _ h2⟩
 case nilCheck=>obtain⟨z,h1,h2⟩:=h;exact⟨z,h1,hK _ _ h2⟩
 case binOp =>
  split at h
  .rename_i hy
   simp only[if_pos hy];exact h.mono fun z hz=>hK _ _ hz
  .rename_i hy
   simp only[if_neg hy];obtain⟨z,h1,h2⟩:=h;exact⟨z,h1,hK _ _ h2⟩
 case unOp=>obtain⟨z,h1,h2⟩:=h;exact⟨z,h1,hK _ _ h2⟩
 case convert=>obtain⟨h0,z,h1,h2⟩:=h;exact⟨h0,z,h1,hK _ _ h2⟩
 case makeInterface=>obtain⟨h0,h2⟩:=h;exact⟨h0,hK _ _ h2⟩
 case makeSlice=>obtain⟨z,h1,h2⟩:=h;exact⟨z,h1,hK _ _ h2⟩
 case slice=>obtain⟨h0,z,h1,h2⟩:=h;exact⟨h0,z,h1,hK _ _ h2⟩
 case fieldAddr=>obtain⟨z,h1,h2⟩:=h;exact⟨z,h1,hK _ _ h2⟩
 case field=>obtain⟨z,h1,h2⟩:=h;exact⟨z,h1,hK _ _ h2⟩
 case indexAddr=>obtain⟨z,h1,h2⟩:=h;exact⟨z,h1,hK _ _ h2⟩
 case index=>obtain⟨z,h1,h2⟩:=h;exact⟨z,h1,hK _ _ h2⟩
 case extract=>obtain⟨z,h1,h2⟩:=h;exact⟨z,h1,hK _ _ h2⟩
 case typeAssert=>obtain⟨z,h1,h2⟩:=h;exact⟨z,h1,hK _ _ h2⟩
 case makeMap=>obtain⟨h0,h2⟩:=h;exact⟨h0,hK _ _ h2⟩
 case lookup=>obtain⟨z,h1,h2⟩:=h;exact⟨z,h1,hK _ _ h2⟩
 case mapUpdate=>obtain⟨z,h1,h2⟩:=h;exact⟨z,h1,hK _ _ h2⟩
 case insert=>obtain⟨z,h1,h2⟩:=h;exact⟨z,h1,hK _ _ h2⟩
 case mapEntry=>obtain⟨z,h1,h2⟩:=h;exact⟨z,h1,hK _ _ h2⟩
 case entryStore=>obtain⟨z,h1,h2⟩:=h;exact⟨z,h1,hK _ _ h2⟩
 case range=>obtain⟨z,h1,h2⟩:=h;exact⟨z,h1,hK _ _ h2⟩
 case next=>obtain⟨h0,h00,b,es,seen,h1,h2,h3,h4⟩:=h;exact⟨h0,h00,b,es,seen,h1,h2,fun i e a c=>hK _ _ (h3 i e a c),fun a=>hK _ _ (h4 a)⟩
 case entry=>obtain⟨z,h1,h2⟩:=h;exact⟨z,h1,hK _ _ h2⟩
 case panic=>obtain⟨h0,t,v,h1,h2⟩:=h;exact⟨h0,t,v,h1,hKp _ _ h2⟩
 case call c =>
  obtain⟨callee,args,ats⟩:=c;cases callee with
  |invoke r m=>exact h.elim
  |value f =>
   rcases h with ⟨v,h1,h2⟩|⟨h1,⟨g,fi,ca,R,h2,h3,h4,h5⟩|⟨i,R,h2,h3,h4⟩⟩
   .exact .inl ⟨v,h1,hK _ _ h2⟩
   .exact .inr ⟨h1,.inl ⟨g,fi,ca,R,h2,h3,fun r m h=>hK _ _ (h4 r m h),fun r m h=>hKp _ _ (h5 r m h)⟩⟩
   .exact .inr ⟨h1,.inr ⟨i,R,h2,h3,fun b m h=>hK _ _ (h4 b m h)⟩⟩
  |builtin b =>
   cases b<;>simp only at h⊢<;>try (first | (obtain⟨z,m,h1,h2⟩:=h;exact⟨z,m,h1,hK _ _ h2⟩) | (obtain⟨z,h1,h2⟩:=h;exact⟨z,h1,hK _ _ h2⟩))
   obtain⟨s,x,h1,h⟩:=h;exact⟨s,x,h1,h.mono hK⟩
theorem awpS.mono{P:Program}{pl:Pol}{det:Bool}{ops:Array Oper}{Q Q':St->Prop}{Qp Qp':AV->St->Prop}(hQ:∀ st,Q st->Q' st)(hQp:∀ v st,Qp v st->Qp' v st) :
  ∀(l:List Oper) (st:St),awpS P pl det ops l Q Qp st->awpS P pl det ops l Q' Qp' st:=by
 intro l;induction l with
 |nil=>intro st h;exact hQ st h
 |cons o l ih =>
  intro st ⟨b,h0,h1,h2⟩;exact⟨b,h0,fun e=>(h1 e).mono (fun v m h=>ih _ h) (fun v m h=>hQp _ _ h),fun e=>ih _ (h2 e)⟩
theorem awpT.mono{P:Program}{pl:Pol}{ops:Array Oper}{Q Q':St->Prop}{Qp Qp':AV->St->Prop}(hQ:∀ st,Q st->Q' st)(hQp:∀ v st,Qp v st->Qp' v st) :
  ∀(l:List (Nat×Nat×List Nat)) (st:St),awpT P pl ops Q Qp l st->awpT P pl ops Q' Qp' l st:=by
 intro l;induction l with
 |nil=>intro st h;exact hQ st h
 |cons e l ih =>
  obtain⟨j,k,r⟩:=e;intro st h;simp only[awpT]at h⊢;cases ho:ops[j]? with
  |none=>rw[ho]at h;exact h
  |some o =>
   rw[ho]at h;simp only at h⊢;exact qw.mono h (fun v m h=>⟨h.1,ih _ h.2⟩) (fun v m h=>⟨h.1,fun tm=>hQp _ _ (h.2 tm)⟩)
theorem awpQ.mono{P:Program}{pl:Pol}{Q Q':St->Prop}{Qp Qp':AV->St->Prop}(hQ:∀ st,Q st->Q' st)(hQp:∀ v st,Qp v st->Qp' v st) :
  ∀(l:List (Bool×Oper)) (st:St),awpQ P pl l Q Qp st->awpQ P pl l Q' Qp' st:=by
 intro l;induction l with
 |nil=>intro st h;exact hQ st h
 |cons o l ih =>
  intro st h;obtain⟨q,o⟩:=o;exact qw.mono h (fun v m h=>⟨h.1,ih _ h.2⟩) (fun v m h tm=>hQp _ _ (h tm))
theorem awp.mono{P:Program}{pl:Pol}:∀(c:Code) {Q Q':qZ->St->Prop} {st:St},awp P pl c Q st->(∀ e st,Q e st->Q' e st)->awp P pl c Q' st:=by
 intro c;induction c with
 |skip=>intro Q Q' st h hq;exact hq _ _ h
 |label l=>intro Q Q' st h hq;exact hq _ _ h
 |exit i=>intro Q Q' st h hq;exact hq _ _ h
 |ret=>intro Q Q' st h hq;exact hq _ _ h
 |region id ops draw =>
  intro Q Q' st h hq;rcases h with ⟨h1,h2⟩|⟨h1,h2⟩
  .exact .inl ⟨h1,awpS.mono (fun st h=>hq _ _ h) (fun v st h=>hq _ _ h) _ _ h2⟩
  .obtain ⟨st1,hf1,h2⟩:=h2
   refine .inr ⟨h1,st1,hf1,?_⟩;rcases h2 with ((⟨h3,h4⟩|⟨a,d,h3,hd,h4,h5,h6⟩|⟨n,h3,h4⟩)|⟨X,Y,h3,h4⟩)|⟨O,h3,h3z,h4⟩
   .exact .inl (.inl (.inl ⟨h3,awpS.mono (fun st h=>hq _ _ h) (fun v st h=>hq _ _ h) _ _ h4⟩))
   .exact .inl (.inl (.inr (.inl ⟨a,d,h3,hd,h4,awpS.mono (fun st h=>hq _ _ h) (fun v st h=>hq _ _ h) _ _ h5,awpS.mono (fun st h=>hq _ _ h) (fun v st h=>hq _ _ h) _ _ h6⟩)))
   .exact .inl (.inl (.inr (.inr ⟨n,h3,awpS.mono (fun st h=>awpS.mono (fun st h=>hq _ _ h) (fun v st h=>hq _ _ h) _ _ h) (fun v st h=>hq _ _ h) _ _ h4⟩)))
   .exact .inl (.inr ⟨X,Y,h3,awpS.mono (fun st h=>⟨h.1,awpQ.mono (fun st h=>hq _ _ h) (fun v st h=>hq _ _ h) _ _ h.2⟩) (fun _ _ h=>h) _ _ h4⟩)
   .exact .inr ⟨O,h3,h3z,awpT.mono (fun st h=>hq _ _ h) (fun v st h=>hq _ _ h) _ _ h4⟩
 |seq a b iha ihb =>
  intro Q Q' st h hq;refine iha (Q:=seqQ (awp P pl b Q) Q) h (fun e st h=>?_);cases e with
  |normal=>exact ihb h hq
  |exit i=>exact hq _ _ h
  |ret=>exact hq _ _ h
  |pan v=>exact hq _ _ h
 |cond cnd a b iha ihb=>intro Q Q' st ⟨t,h0,h1,h2⟩ hq;exact⟨t,h0,fun e=>iha (h1 e) hq,fun e=>ihb (h2 e) hq⟩
 |block id b ih =>
  intro Q Q' st h hq;refine ih (Q:=uR id Q) h (fun e st h=>?_);cases e with
  |normal=>exact hq _ _ h
  |exit i =>
   simp only[uR]at h⊢;split at h
   .rename_i hi;rw[if_pos hi];exact hq _ _ h
   .rename_i hi;rw[if_neg hi];exact hq _ _ h
  |ret=>exact hq _ _ h
  |pan v=>exact hq _ _ h
 |loop b ih =>
  intro Q Q' st ⟨z,I,n,st1,hf1,h0,h1⟩ hq;have hq:∀ e st,fzQ z Q e st->fzQ z Q' e st:=fun e st h=>by
   cases z with
   |false=>exact hq e st h
   |true=>exact⟨h.choose,h.choose_spec.1,h.choose_spec.2.1,hq e _ h.choose_spec.2.2⟩
  refine⟨z,I,n,st1,hf1,h0,fun n st hI=>ih (Q:=uS I n (fzQ z Q)) (h1 n st hI) (fun e st h=>?_)⟩;cases e with
  |normal=>exact h
  |exit i=>exact hq _ _ h
  |ret=>exact hq _ _ h
  |pan v=>exact hq _ _ h
 |scope b ih=>intro Q Q' st h hq;exact ih h hq
 |rangeFunc f ps aas b ih1 ih2 =>
  intro Q Q' st ⟨z,gf,caps,rows,I,Ix,h1,h2,h3,h4,h5,h6,h7,h8⟩ hq;have hq:∀ e st,fzQ z Q e st->fzQ z Q' e st:=fun e st h=>by
   cases z with
   |false=>exact hq e st h
   |true=>exact⟨h.choose,h.choose_spec.1,h.choose_spec.2.1,hq e _ h.choose_spec.2.2⟩
  exact⟨z,gf,caps,rows,I,Ix,h1,h2,h3,h4,h5,h6,fun mu h=>hq _ _ (h7 mu h),fun e mu h=>hq _ _ (h8 e mu h)⟩
 |goto l=>intro Q Q' st h hq;exact h.elim
 |refuse w=>intro Q Q' st h hq;exact h.elim
def upQ(I:Nat->St->Prop)(N k:Nat)(Q:qZ->St->Prop):qZ->St->Prop
 | .normal,st=>k<N/\I (k+1) st
 |e,st=>Q e st
section
variable (Q:qZ->St->Prop) (st:St) (I:Nat->St->Prop) (N k:Nat)
@[go_sem ↓] theorem qmX:upQ I N k Q .normal st=(k<N/\I (k+1) st):=eqS rfl
@[go_sem ↓] theorem upQ_exit(i:Nat):upQ I N k Q (.exit i) st=Q (.exit i) st:=eqS rfl
@[go_sem ↓] theorem upQ_ret:upQ I N k Q .ret st=Q .ret st:=eqS rfl
@[go_sem ↓] theorem upQ_pan(v:AV):upQ I N k Q (.pan v) st=Q (.pan v) st:=eqS rfl
end
theorem ql.up{P:Program}{pl:Pol}{body:Code}{Q:qZ->St->Prop}{st:St}(N:Nat)(I:Nat->St->Prop)(h0:I 0 st)(h:∀ k st,k<=N->I k st->awp P pl body (upQ I N k Q) st):ql P pl body Q st:=by
 refine ql.intro (fun n st=>∃ k,n=N-k/\k<=N/\I k st) N ⟨0,by omega,by omega,h0⟩ ?_;rintro n st ⟨k,rfl,hk,hI⟩;refine awp.mono body (h k st hk hI) (fun e st he=>?_);cases e with
 |normal=>exact⟨N-(k+1),by have:=he.1;omega,k+1,rfl,he.1,he.2⟩
 |exit i=>exact he
 |ret=>exact he
 |pan v=>exact he
theorem ql.upF{P:Program}{pl:Pol}{body:Code}{Q:qZ->St->Prop}{st:St}(N:Nat)(I:Nat->St->Prop)(h0:I 0 st)(h:∀ k st,k<=N->I k st->awp P pl body (upQ I N k (FzQ Q)) st):ql P pl body Q st:=by
 refine ql.introF (fun n st=>∃ k,n=N-k/\k<=N/\I k st) N ⟨0,by omega,by omega,h0⟩ ?_;rintro n st ⟨k,rfl,hk,hI⟩;refine awp.mono body (h k st hk hI) (fun e st he=>?_);cases e with
 |normal=>exact⟨N-(k+1),by have:=he.1;omega,k+1,rfl,he.1,he.2⟩
 |exit i=>exact he
 |ret=>exact he
 |pan v=>exact he
theorem FzQ.one{Q:qZ->St->Prop}{i d b:Nat}{x:AV}{st:St}(hr:Rd (cutM (fun j=>j == b) st.mu 0) (st.tm d) x)(k:Q (.exit i) (st.put (some d) x (cutM (fun j=>!(j == b)) st.mu 0))):FzQ Q (.exit i) st:=by
 refine⟨_,⟨fun j=>j == b,rfl,fun j=>?_⟩,trivial,k⟩;simp only[St.put];split
 .rename_i h;subst h;exact .rd _ _ hr
 .exact .same _
theorem qb.pure{P:Program}{det:Bool}{mu:Mu}{g:FuncId}{args args':List AV}{v:AV}{K Kp:AV->Mu->Prop}(hs:qi P g args' v)(hw:WKs args args')(k:K v mu) :
  qb P det mu (.fn (.func g) [] []) args K Kp:=
 .inl ⟨v,.inl ⟨g,[],[],args',rfl,hs,.inl (by simpa using hw)⟩,k⟩
theorem qb.clo{P:Program}{det:Bool}{mu:Mu}{g:FuncId}{caps args args':List AV}{v:AV}{K Kp:AV->Mu->Prop}(hs:qi P g args' v)(hw:WKs (args++caps) args')(k:K v mu) :
  qb P det mu (.fn (.func g) [] caps) args K Kp:=
 .inl ⟨v,.inl ⟨g,[],caps,args',rfl,hs,.inl (by simpa using hw)⟩,k⟩
theorem qb.lend{P:Program}{det:Bool}{mu:Mu}{g:FuncId}{args args':List AV}{v:AV}{K Kp:AV->Mu->Prop}(hs:qi P g args' v)(hw:Rds mu args args')(hf:FL v)(k:K v mu) :
  qb P det mu (.fn (.func g) [] []) args K Kp:=
 .inl ⟨v,.inl ⟨g,[],[],args',rfl,hs,.inr ⟨by simpa using hw,hf⟩⟩,k⟩
theorem qb.eff{P:Program}{mu:Mu}{g:FuncId}{caps args:List AV}{R:AEnd->Mu->Prop}{K Kp:AV->Mu->Prop}(hs:qY P g (args++caps) mu R)(k:∀ r m,R (.ret r) m->K r m)(kp:∀ r m,R (.pan r) m->Kp r m) :
  qb P false mu (.fn (.func g) [] caps) args K Kp:=
 .inr ⟨rfl,.inl ⟨g,[],caps,R,rfl,by simpa using hs,k,kp⟩⟩
theorem qb.yield{P:Program}{mu:Mu}{i:Nat}{args:List AV}{R:Bool->Mu->Prop}{K Kp:AV->Mu->Prop}(h:Jz P i args mu R)(k:∀ b m,R b m->K (.sc (.bool b)) m):qb P false mu (.yl i) args K Kp:=
 .inr ⟨rfl,.inr ⟨i,R,rfl,h,k⟩⟩
theorem yY.of{P:Program}{f:FuncId}{caps:List AV}{rows:List (List AV)}(hcal:jb P f)
  (h:∀(i:Nat) (I:Nat->Mu->Prop) (Ix:Mu->Prop),(∀ k mu,I k mu->I k (mu++[.dead]))->(∀ mu,Ix mu->Ix (mu++[.dead]))->Yld P i rows I Ix->∀ mu,I 0 mu ->
   qY P f (.yl i :: caps) mu fun e mu'=>∃ r,e = .ret r/\(I rows.length mu'\/Ix mu')):yY P f caps rows:=⟨hcal,h⟩
theorem WKs.nil:WKs [] []:=trivial
theorem WKs.cons{x y:AV}{xs ys:List AV}(h:WK x y)(t:WKs xs ys):WKs (x :: xs) (y :: ys):=⟨h,t⟩
def Own(mu:Mu)(sz:Nat)(av:AV)(xs:List (List AV)):Prop:=
 (av = .lst true xs)\/∃ b,av = .sl b sz 0 xs.length/\mu[b]?=some (.arr xs.flatten)
theorem Own.rows{mu:Mu}{sz:Nat}{av:AV}{xs:List (List AV)}(h:Own mu sz av xs)(w:jl sz xs):qG mu av=some xs:=by
 rcases h with rfl|⟨b,rfl,hc⟩
 .rfl
 .have hfl:=jk w
  simp only[qG,hc];rw[if_pos (by omega)];congr 1;apply jj;intro i;by_cases hi:i<xs.length
  .simp only[zk,List.getElem?_range hi,q8,yC]
   rw[qv hi];congr 1;have hr:=w _ (qu hi);rw[<-XD w i,List.drop_eq_getElem_cons hi,List.flatten_cons,List.take_append_of_le_length (by omega),zU (by omega)]
  .rw [zQ (by simp;omega),zQ (by omega)]
theorem Own.rd{mu:Mu}{sz:Nat}{av:AV}{xs:List (List AV)}(h:Own mu sz av xs)(w:jl sz xs)(hf:∀ r,r∈xs->∀ c,c∈r->HF c):Rd mu av (.lst false xs):=by
 rcases h with rfl|⟨b,rfl,hc⟩
 .exact .wk _ true _ (.hf _ (HF.lst hf))
 .have hfl:=jk w
  refine .sl b sz 0 xs.length xs.flatten xs hc (by omega) rfl w (fun k x y hx hy=>?_);rw[yC,hy]at hx;cases hx;obtain⟨r,hr,hxr⟩:=List.mem_flatten.1 (qS hy);exact .hf _ (hf r hr _ hxr)
end Go.Ev
namespace Go.Proofs.YtkglmpmlfjogkaaGreatDoor
open Go Go.Ev Go.Proofs Tryz
namespace Ty
@[go_sem] theorem sz3:szOf qd 3=some 1:=eqS (by kernel_rfl)
@[go_sem] theorem ag3:zc qd 3=some false:=eqS (by kernel_rfl)
@[go_sem] theorem ze3:qz qd 3=some (.sc (.int .i64 0)):=eqS (by kernel_rfl)
@[go_sem] theorem sz4:szOf qd 4=some 1:=eqS (by kernel_rfl)
@[go_sem] theorem ag4:zc qd 4=some false:=eqS (by kernel_rfl)
@[go_sem] theorem ze4:qz qd 4=some (.sc (.bool false)):=eqS (by kernel_rfl)
@[go_sem] theorem bo4:VJ qd 4=true:=eqS (by kernel_rfl)
@[go_sem] theorem sz9:szOf qd 9=some 1:=eqS (by kernel_rfl)
@[go_sem] theorem ag9:zc qd 9=some false:=eqS (by kernel_rfl)
@[go_sem] theorem ze9:qz qd 9=some (.sc (.string ⟨#[]⟩)):=eqS (by kernel_rfl)
@[go_sem] theorem if20:VL qd 20=true:=eqS (by kernel_rfl)
@[go_sem] theorem ay20:VM qd 20=true:=eqS (by kernel_rfl)
@[go_sem] theorem sz22:szOf qd 22=some 1:=eqS (by kernel_rfl)
@[go_sem] theorem ag22:zc qd 22=some false:=eqS (by kernel_rfl)
@[go_sem] theorem sl22:qJ qd 22=some (80,2,24):=eqS (by kernel_rfl)
@[go_sem] theorem sz23:szOf qd 23=some 1:=eqS (by kernel_rfl)
@[go_sem] theorem ag23:zc qd 23=some false:=eqS (by kernel_rfl)
@[go_sem] theorem sl23:qJ qd 23=some (82,3,48):=eqS (by kernel_rfl)
@[go_sem] theorem sz24:szOf qd 24=some 1:=eqS (by kernel_rfl)
@[go_sem] theorem ag24:zc qd 24=some false:=eqS (by kernel_rfl)
@[go_sem] theorem sl24:qJ qd 24=some (131,7,104):=eqS (by kernel_rfl)
@[go_sem] theorem sz25:szOf qd 25=some 1:=eqS (by kernel_rfl)
@[go_sem] theorem ag25:zc qd 25=some false:=eqS (by kernel_rfl)
@[go_sem] theorem sl25:qJ qd 25=some (109,6,80):=eqS (by kernel_rfl)
@[go_sem] theorem sz27:szOf qd 27=some 4:=eqS (by kernel_rfl)
@[go_sem] theorem ag27:zc qd 27=some true:=eqS (by kernel_rfl)
@[go_sem] theorem ze27:qz qd 27=some (.agg [.lst true [],.lst true [],.lst true [],.lst true []]):=eqS (by kernel_rfl)
@[go_sem] theorem pl27:yr qd 27=some (plc [(0,1),(1,1),(2,1),(3,1)]):=eqS (by kernel_rfl)
@[go_sem] theorem fl27_0:qU qd 27 0=some (0,22,1):=eqS (by kernel_rfl)
@[go_sem] theorem fl27_1:qU qd 27 1=some (1,23,1):=eqS (by kernel_rfl)
@[go_sem] theorem fl27_2:qU qd 27 2=some (2,24,1):=eqS (by kernel_rfl)
@[go_sem] theorem fl27_3:qU qd 27 3=some (3,25,1):=eqS (by kernel_rfl)
@[go_sem] theorem zo27:yg qd 27=true:=eqS (by kernel_rfl)
@[go_sem] theorem sz28:szOf qd 28=some 1:=eqS (by kernel_rfl)
@[go_sem] theorem ag28:zc qd 28=some false:=eqS (by kernel_rfl)
@[go_sem] theorem ze28:qz qd 28=some (.lst true []):=eqS (by kernel_rfl)
@[go_sem] theorem sl28:qJ qd 28=some (3,1,8):=eqS (by kernel_rfl)
@[go_sem] theorem sz30:szOf qd 30=some 2:=eqS (by kernel_rfl)
@[go_sem] theorem ag30:zc qd 30=some true:=eqS (by kernel_rfl)
@[go_sem] theorem ze30:qz qd 30=some (.agg [.lst true [],.sc (.int .i64 0)]):=eqS (by kernel_rfl)
@[go_sem] theorem pl30:yr qd 30=some (plc [(0,1),(1,1)]):=eqS (by kernel_rfl)
@[go_sem] theorem fl30_0:qU qd 30 0=some (0,28,1):=eqS (by kernel_rfl)
@[go_sem] theorem fl30_1:qU qd 30 1=some (1,3,1):=eqS (by kernel_rfl)
@[go_sem] theorem zo30:yg qd 30=true:=eqS (by kernel_rfl)
@[go_sem] theorem sz31:szOf qd 31=some 1:=eqS (by kernel_rfl)
@[go_sem] theorem ag31:zc qd 31=some false:=eqS (by kernel_rfl)
@[go_sem] theorem sl31:qJ qd 31=some (77,1,24):=eqS (by kernel_rfl)
@[go_sem] theorem sz33:szOf qd 33=some 4:=eqS (by kernel_rfl)
@[go_sem] theorem ag33:zc qd 33=some true:=eqS (by kernel_rfl)
@[go_sem] theorem ze33:qz qd 33=some (.agg [.lst true [],.sc (.int .i64 0),.lst true [],.sc (.int .i64 0)]):=eqS (by kernel_rfl)
@[go_sem] theorem pl33:yr qd 33=some (plc [(0,2),(2,1),(3,1)]):=eqS (by kernel_rfl)
@[go_sem] theorem fl33_0:qU qd 33 0=some (0,30,2):=eqS (by kernel_rfl)
@[go_sem] theorem fl33_1:qU qd 33 1=some (2,31,1):=eqS (by kernel_rfl)
@[go_sem] theorem fl33_2:qU qd 33 2=some (3,3,1):=eqS (by kernel_rfl)
@[go_sem] theorem zo33:yg qd 33=true:=eqS (by kernel_rfl)
@[go_sem] theorem sz34:szOf qd 34=some 1:=eqS (by kernel_rfl)
@[go_sem] theorem ag34:zc qd 34=some false:=eqS (by kernel_rfl)
@[go_sem] theorem sl34:qJ qd 34=some (68,2,24):=eqS (by kernel_rfl)
@[go_sem] theorem sz35:szOf qd 35=some 1:=eqS (by kernel_rfl)
@[go_sem] theorem ag35:zc qd 35=some false:=eqS (by kernel_rfl)
@[go_sem] theorem sl35:qJ qd 35=some (37,5,64):=eqS (by kernel_rfl)
@[go_sem] theorem sz37:szOf qd 37=some 5:=eqS (by kernel_rfl)
@[go_sem] theorem ag37:zc qd 37=some true:=eqS (by kernel_rfl)
@[go_sem] theorem ze37:qz qd 37=some (.agg [.sc (.int .i64 0),.sc (.string ⟨#[]⟩),.sc (.int .i64 0),.lst true [],.sc (.int .i64 0)]):=eqS (by kernel_rfl)
@[go_sem] theorem pl37:yr qd 37=some (plc [(0,1),(1,1),(2,1),(3,1),(4,1)]):=eqS (by kernel_rfl)
@[go_sem] theorem fl37_0:qU qd 37 0=some (0,3,1):=eqS (by kernel_rfl)
@[go_sem] theorem fl37_1:qU qd 37 1=some (1,9,1):=eqS (by kernel_rfl)
@[go_sem] theorem fl37_2:qU qd 37 2=some (2,3,1):=eqS (by kernel_rfl)
@[go_sem] theorem fl37_3:qU qd 37 3=some (3,35,1):=eqS (by kernel_rfl)
@[go_sem] theorem fl37_4:qU qd 37 4=some (4,3,1):=eqS (by kernel_rfl)
@[go_sem] theorem zo37:yg qd 37=true:=eqS (by kernel_rfl)
@[go_sem] theorem sz42:szOf qd 42=some 2:=eqS (by kernel_rfl)
@[go_sem] theorem ag42:zc qd 42=some true:=eqS (by kernel_rfl)
@[go_sem] theorem ze42:qz qd 42=some (.agg [.sc (.int .i64 0),.lst true []]):=eqS (by kernel_rfl)
@[go_sem] theorem pl42:yr qd 42=some (plc [(0,1),(1,1)]):=eqS (by kernel_rfl)
@[go_sem] theorem fl42_0:qU qd 42 0=some (0,3,1):=eqS (by kernel_rfl)
@[go_sem] theorem fl42_1:qU qd 42 1=some (1,28,1):=eqS (by kernel_rfl)
@[go_sem] theorem zo42:yg qd 42=true:=eqS (by kernel_rfl)
@[go_sem] theorem sz43:szOf qd 43=some 1:=eqS (by kernel_rfl)
@[go_sem] theorem ag43:zc qd 43=some false:=eqS (by kernel_rfl)
@[go_sem] theorem ze43:qz qd 43=some (.sc (.int .i64 0)):=eqS (by kernel_rfl)
@[go_sem] theorem co43:Qa qd 43=true:=eqS (by kernel_rfl)
@[go_sem] theorem sz68:szOf qd 68=some 2:=eqS (by kernel_rfl)
@[go_sem] theorem ag68:zc qd 68=some true:=eqS (by kernel_rfl)
@[go_sem] theorem ze68:qz qd 68=some (.agg [.sc (.string ⟨#[]⟩),.sc (.int .i64 0)]):=eqS (by kernel_rfl)
@[go_sem] theorem pl68:yr qd 68=some (plc [(0,1),(1,1)]):=eqS (by kernel_rfl)
@[go_sem] theorem fl68_0:qU qd 68 0=some (0,9,1):=eqS (by kernel_rfl)
@[go_sem] theorem fl68_1:qU qd 68 1=some (1,3,1):=eqS (by kernel_rfl)
@[go_sem] theorem zo68:yg qd 68=true:=eqS (by kernel_rfl)
@[go_sem] theorem sz77:szOf qd 77=some 1:=eqS (by kernel_rfl)
@[go_sem] theorem ag77:zc qd 77=some false:=eqS (by kernel_rfl)
@[go_sem] theorem ze77:qz qd 77=some (.lst true []):=eqS (by kernel_rfl)
@[go_sem] theorem sl77:qJ qd 77=some (42,2,32):=eqS (by kernel_rfl)
@[go_sem] theorem sz80:szOf qd 80=some 2:=eqS (by kernel_rfl)
@[go_sem] theorem ag80:zc qd 80=some true:=eqS (by kernel_rfl)
@[go_sem] theorem ze80:qz qd 80=some (.agg [.sc (.string ⟨#[]⟩),.sc (.bool false)]):=eqS (by kernel_rfl)
@[go_sem] theorem pl80:yr qd 80=some (plc [(0,1),(1,1)]):=eqS (by kernel_rfl)
@[go_sem] theorem fl80_0:qU qd 80 0=some (0,9,1):=eqS (by kernel_rfl)
@[go_sem] theorem fl80_1:qU qd 80 1=some (1,4,1):=eqS (by kernel_rfl)
@[go_sem] theorem zo80:yg qd 80=true:=eqS (by kernel_rfl)
@[go_sem] theorem sz82:szOf qd 82=some 3:=eqS (by kernel_rfl)
@[go_sem] theorem ag82:zc qd 82=some true:=eqS (by kernel_rfl)
@[go_sem] theorem ze82:qz qd 82=some (.agg [.sc (.string ⟨#[]⟩),.lst true [],.sc (.bool false)]):=eqS (by kernel_rfl)
@[go_sem] theorem pl82:yr qd 82=some (plc [(0,1),(1,1),(2,1)]):=eqS (by kernel_rfl)
@[go_sem] theorem fl82_0:qU qd 82 0=some (0,9,1):=eqS (by kernel_rfl)
@[go_sem] theorem fl82_1:qU qd 82 1=some (1,28,1):=eqS (by kernel_rfl)
@[go_sem] theorem fl82_2:qU qd 82 2=some (2,4,1):=eqS (by kernel_rfl)
@[go_sem] theorem zo82:yg qd 82=true:=eqS (by kernel_rfl)
@[go_sem] theorem sl85:qJ qd 85=some (134,2,16):=eqS (by kernel_rfl)
@[go_sem] theorem sz94:szOf qd 94=some 2:=eqS (by kernel_rfl)
@[go_sem] theorem ag94:zc qd 94=some true:=eqS (by kernel_rfl)
@[go_sem] theorem ze94:qz qd 94=some (.agg [.sc (.int .i64 0),.lst true []]):=eqS (by kernel_rfl)
@[go_sem] theorem pl94:yr qd 94=some (plc [(0,1),(1,1)]):=eqS (by kernel_rfl)
@[go_sem] theorem fl94_0:qU qd 94 0=some (0,3,1):=eqS (by kernel_rfl)
@[go_sem] theorem fl94_1:qU qd 94 1=some (1,34,1):=eqS (by kernel_rfl)
@[go_sem] theorem zo94:yg qd 94=true:=eqS (by kernel_rfl)
@[go_sem] theorem sz97:szOf qd 97=some 1:=eqS (by kernel_rfl)
@[go_sem] theorem ag97:zc qd 97=some false:=eqS (by kernel_rfl)
@[go_sem] theorem ze97:qz qd 97=some (.lst true []):=eqS (by kernel_rfl)
@[go_sem] theorem sl97:qJ qd 97=some (4,1,1):=eqS (by kernel_rfl)
@[go_sem] theorem sz109:szOf qd 109=some 6:=eqS (by kernel_rfl)
@[go_sem] theorem ag109:zc qd 109=some true:=eqS (by kernel_rfl)
@[go_sem] theorem ze109:qz qd 109=some (.agg [.sc (.string ⟨#[]⟩),.sc (.int .i64 0),.sc (.string ⟨#[]⟩),.sc (.int .i64 0),.lst true [],.sc (.int .i64 0)]):=eqS (by kernel_rfl)
@[go_sem] theorem fl109_0:qU qd 109 0=some (0,9,1):=eqS (by kernel_rfl)
@[go_sem] theorem fl109_1:qU qd 109 1=some (1,37,5):=eqS (by kernel_rfl)
@[go_sem] theorem sz129:szOf qd 129=some 1:=eqS (by kernel_rfl)
@[go_sem] theorem ag129:zc qd 129=some false:=eqS (by kernel_rfl)
@[go_sem] theorem sl129:qJ qd 129=some (183,2,24):=eqS (by kernel_rfl)
@[go_sem] theorem sz131:szOf qd 131=some 7:=eqS (by kernel_rfl)
@[go_sem] theorem ag131:zc qd 131=some true:=eqS (by kernel_rfl)
@[go_sem] theorem fl131_0:qU qd 131 0=some (0,9,1):=eqS (by kernel_rfl)
@[go_sem] theorem fl131_1:qU qd 131 1=some (1,129,1):=eqS (by kernel_rfl)
@[go_sem] theorem fl131_2:qU qd 131 2=some (2,37,5):=eqS (by kernel_rfl)
@[go_sem] theorem sz134:szOf qd 134=some 2:=eqS (by kernel_rfl)
@[go_sem] theorem ag134:zc qd 134=some true:=eqS (by kernel_rfl)
@[go_sem] theorem ze134:qz qd 134=some (.agg [.sc (.int .i64 0),.sc (.int .i64 0)]):=eqS (by kernel_rfl)
@[go_sem] theorem pl134:yr qd 134=some (plc [(0,1),(1,1)]):=eqS (by kernel_rfl)
@[go_sem] theorem fl134_0:qU qd 134 0=some (0,43,1):=eqS (by kernel_rfl)
@[go_sem] theorem zo134:yg qd 134=true:=eqS (by kernel_rfl)
@[go_sem] theorem ze138:qz qd 138=some (.agg [.lst true [],.sc (.int .i64 0),.lst true [],.sc (.int .i64 0),.lst true [],.lst true [],.lst true [],.lst true [],.sc (.int .i64 0)]):=eqS (by kernel_rfl)
@[go_sem] theorem pl138:yr qd 138=some (plc [(0,4),(4,4),(8,1)]):=eqS (by kernel_rfl)
@[go_sem] theorem fl138_0:qU qd 138 0=some (0,33,4):=eqS (by kernel_rfl)
@[go_sem] theorem fl138_1:qU qd 138 1=some (4,27,4):=eqS (by kernel_rfl)
@[go_sem] theorem fl138_2:qU qd 138 2=some (8,3,1):=eqS (by kernel_rfl)
@[go_sem] theorem zo138:yg qd 138=true:=eqS (by kernel_rfl)
@[go_sem] theorem ze139:qz qd 139=some (.sc .nilFunc):=eqS (by kernel_rfl)
@[go_sem] theorem mt140:mapT qd 140=some (3,139):=eqS (by kernel_rfl)
@[go_sem] theorem sl153:qJ qd 153=some (9,1,16):=eqS (by kernel_rfl)
@[go_sem] theorem sz159:szOf qd 159=some 1:=eqS (by kernel_rfl)
@[go_sem] theorem ag159:zc qd 159=some false:=eqS (by kernel_rfl)
@[go_sem] theorem ze159:qz qd 159=some (.sc (.pointer none)):=eqS (by kernel_rfl)
@[go_sem] theorem sz160:szOf qd 160=some 1:=eqS (by kernel_rfl)
@[go_sem] theorem ag160:zc qd 160=some false:=eqS (by kernel_rfl)
@[go_sem] theorem mt160:mapT qd 160=some (9,4):=eqS (by kernel_rfl)
@[go_sem] theorem ze162:qz qd 162=some (.agg [.lst true [],.lst true [],.lst true [],.lst true [],.sc (.map none),.sc (.int .i64 0),.sc (.int .i64 0)]):=eqS (by kernel_rfl)
@[go_sem] theorem pl162:yr qd 162=some (plc [(0,4),(4,1),(5,1),(6,1)]):=eqS (by kernel_rfl)
@[go_sem] theorem fl162_1:qU qd 162 1=some (4,160,1):=eqS (by kernel_rfl)
@[go_sem] theorem zo162:yg qd 162=true:=eqS (by kernel_rfl)
@[go_sem] theorem sz170:szOf qd 170=some 1:=eqS (by kernel_rfl)
@[go_sem] theorem ag170:zc qd 170=some false:=eqS (by kernel_rfl)
@[go_sem] theorem ze170:qz qd 170=some (.sc (.map none)):=eqS (by kernel_rfl)
@[go_sem] theorem mt170:mapT qd 170=some (3,28):=eqS (by kernel_rfl)
@[go_sem] theorem sz171:szOf qd 171=some 1:=eqS (by kernel_rfl)
@[go_sem] theorem ag171:zc qd 171=some false:=eqS (by kernel_rfl)
@[go_sem] theorem sl173:qJ qd 173=some (28,1,24):=eqS (by kernel_rfl)
@[go_sem] theorem sz175:szOf qd 175=some 1:=eqS (by kernel_rfl)
@[go_sem] theorem ag175:zc qd 175=some false:=eqS (by kernel_rfl)
@[go_sem] theorem ze175:qz qd 175=some (.sc (.map none)):=eqS (by kernel_rfl)
@[go_sem] theorem mt175:mapT qd 175=some (3,3):=eqS (by kernel_rfl)
@[go_sem] theorem sz177:szOf qd 177=some 1:=eqS (by kernel_rfl)
@[go_sem] theorem ag177:zc qd 177=some false:=eqS (by kernel_rfl)
@[go_sem] theorem ze177:qz qd 177=some (.sc .nilFunc):=eqS (by kernel_rfl)
@[go_sem] theorem sz183:szOf qd 183=some 2:=eqS (by kernel_rfl)
@[go_sem] theorem ag183:zc qd 183=some true:=eqS (by kernel_rfl)
@[go_sem] theorem ze183:qz qd 183=some (.agg [.sc (.string ⟨#[]⟩),.sc (.int .i64 0)]):=eqS (by kernel_rfl)
@[go_sem] theorem fl183_0:qU qd 183 0=some (0,9,1):=eqS (by kernel_rfl)
@[go_sem] theorem fl183_1:qU qd 183 1=some (1,3,1):=eqS (by kernel_rfl)
@[go_sem] theorem sl201:qJ qd 201=none:=eqS (by kernel_rfl)
@[go_sem] theorem ar201:Zb qd 201=some (64,4,1):=eqS (by kernel_rfl)
@[go_sem] theorem sz203:szOf qd 203=some 65:=eqS (by kernel_rfl)
@[go_sem] theorem ag203:zc qd 203=some true:=eqS (by kernel_rfl)
@[go_sem] theorem ze203:qz qd 203=some (.agg [.sc (.int .i64 0),.sc (.bool false),.sc (.bool false),.sc (.bool false),.sc (.bool false),.sc (.bool false),.sc (.bool false),.sc (.bool false),.sc (.bool false),.sc (.bool false),.sc (.bool false),.sc (.bool false),.sc (.bool false),.sc (.bool false),.sc (.bool false),.sc (.bool false),.sc (.bool false),.sc (.bool false),.sc (.bool false),.sc (.bool false),.sc (.bool false),.sc (.bool false),.sc (.bool false),.sc (.bool false),.sc (.bool false),.sc (.bool false),.sc (.bool false),.sc (.bool false),.sc (.bool false),.sc (.bool false),.sc (.bool false),.sc (.bool false),.sc (.bool false),.sc (.bool false),.sc (.bool false),.sc (.bool false),.sc (.bool false),.sc (.bool false),.sc (.bool false),.sc (.bool false),.sc (.bool false),.sc (.bool false),.sc (.bool false),.sc (.bool false),.sc (.bool false),.sc (.bool false),.sc (.bool false),.sc (.bool false),.sc (.bool false),.sc (.bool false),.sc (.bool false),.sc (.bool false),.sc (.bool false),.sc (.bool false),.sc (.bool false),.sc (.bool false),.sc (.bool false),.sc (.bool false),.sc (.bool false),.sc (.bool false),.sc (.bool false),.sc (.bool false),.sc (.bool false),.sc (.bool false),.sc (.bool false)]):=eqS (by kernel_rfl)
@[go_sem] theorem pl203:yr qd 203=some (plc [(0,1),(1,64)]):=eqS (by kernel_rfl)
@[go_sem] theorem fl203_0:qU qd 203 0=some (0,3,1):=eqS (by kernel_rfl)
@[go_sem] theorem fl203_1:qU qd 203 1=some (1,201,64):=eqS (by kernel_rfl)
@[go_sem] theorem zo203:yg qd 203=true:=eqS (by kernel_rfl)
@[go_sem] theorem sz211:szOf qd 211=some 1:=eqS (by kernel_rfl)
@[go_sem] theorem ag211:zc qd 211=some false:=eqS (by kernel_rfl)
@[go_sem] theorem sz215:szOf qd 215=some 2:=eqS (by kernel_rfl)
@[go_sem] theorem ze215:qz qd 215=some (.agg [.sc (.int .i64 0),.sc (.int .i64 0)]):=eqS (by kernel_rfl)
@[go_sem] theorem co215:Qa qd 215=true:=eqS (by kernel_rfl)
@[go_sem] theorem pl215:yr qd 215=some (plc [(0,2)]):=eqS (by kernel_rfl)
@[go_sem] theorem fl215_0:qU qd 215 0=some (0,134,2):=eqS (by kernel_rfl)
@[go_sem] theorem zo215:yg qd 215=true:=eqS (by kernel_rfl)
@[go_sem] theorem sz234:szOf qd 234=some 7:=eqS (by kernel_rfl)
@[go_sem] theorem ag234:zc qd 234=some true:=eqS (by kernel_rfl)
@[go_sem] theorem ze234:qz qd 234=some (.agg [.lst true [],.lst true [],.lst true [],.lst true [],.lst true [],.sc (.int .i64 0),.sc (.bool false)]):=eqS (by kernel_rfl)
@[go_sem] theorem pl234:yr qd 234=some (plc [(0,4),(4,1),(5,1),(6,1)]):=eqS (by kernel_rfl)
@[go_sem] theorem fl234_0:qU qd 234 0=some (0,27,4):=eqS (by kernel_rfl)
@[go_sem] theorem fl234_1:qU qd 234 1=some (4,97,1):=eqS (by kernel_rfl)
@[go_sem] theorem fl234_2:qU qd 234 2=some (5,3,1):=eqS (by kernel_rfl)
@[go_sem] theorem fl234_3:qU qd 234 3=some (6,4,1):=eqS (by kernel_rfl)
@[go_sem] theorem zo234:yg qd 234=true:=eqS (by kernel_rfl)
@[go_sem] theorem sl235:qJ qd 235=some (279,66,88):=eqS (by kernel_rfl)
@[go_sem] theorem ze248:qz qd 248=some (.agg [.lst true [],.lst true [],.lst true [],.lst true [],.sc (.int .i64 0),.lst true []]):=eqS (by kernel_rfl)
@[go_sem] theorem pl248:yr qd 248=some (plc [(0,4),(4,1),(5,1)]):=eqS (by kernel_rfl)
@[go_sem] theorem fl248_0:qU qd 248 0=some (0,27,4):=eqS (by kernel_rfl)
@[go_sem] theorem fl248_1:qU qd 248 1=some (4,3,1):=eqS (by kernel_rfl)
@[go_sem] theorem fl248_2:qU qd 248 2=some (5,97,1):=eqS (by kernel_rfl)
@[go_sem] theorem zo248:yg qd 248=true:=eqS (by kernel_rfl)
@[go_sem] theorem sz249:szOf qd 249=some 1:=eqS (by kernel_rfl)
@[go_sem] theorem ag249:zc qd 249=some false:=eqS (by kernel_rfl)
@[go_sem] theorem mt249:mapT qd 249=some (303,4):=eqS (by kernel_rfl)
@[go_sem] theorem sz251:szOf qd 251=some 2:=eqS (by kernel_rfl)
@[go_sem] theorem ag251:zc qd 251=some true:=eqS (by kernel_rfl)
@[go_sem] theorem ze251:qz qd 251=some (.agg [.sc (.int .i64 0),.sc (.map none)]):=eqS (by kernel_rfl)
@[go_sem] theorem pl251:yr qd 251=some (plc [(0,1),(1,1)]):=eqS (by kernel_rfl)
@[go_sem] theorem fl251_0:qU qd 251 0=some (0,3,1):=eqS (by kernel_rfl)
@[go_sem] theorem fl251_1:qU qd 251 1=some (1,249,1):=eqS (by kernel_rfl)
@[go_sem] theorem zo251:yg qd 251=true:=eqS (by kernel_rfl)
@[go_sem] theorem sz253:szOf qd 253=some 1:=eqS (by kernel_rfl)
@[go_sem] theorem ag253:zc qd 253=some false:=eqS (by kernel_rfl)
@[go_sem] theorem ptt253:wY qd 253=true:=eqS (by kernel_rfl)
@[go_sem] theorem sl256:qJ qd 256=some (251,2,16):=eqS (by kernel_rfl)
@[go_sem] theorem sl274:qJ qd 274=some (203,65,72):=eqS (by kernel_rfl)
@[go_sem] theorem ze279:qz qd 279=some (.agg [.sc (.string ⟨#[]⟩),.sc (.int .i64 0),.sc (.bool false),.sc (.bool false),.sc (.bool false),.sc (.bool false),.sc (.bool false),.sc (.bool false),.sc (.bool false),.sc (.bool false),.sc (.bool false),.sc (.bool false),.sc (.bool false),.sc (.bool false),.sc (.bool false),.sc (.bool false),.sc (.bool false),.sc (.bool false),.sc (.bool false),.sc (.bool false),.sc (.bool false),.sc (.bool false),.sc (.bool false),.sc (.bool false),.sc (.bool false),.sc (.bool false),.sc (.bool false),.sc (.bool false),.sc (.bool false),.sc (.bool false),.sc (.bool false),.sc (.bool false),.sc (.bool false),.sc (.bool false),.sc (.bool false),.sc (.bool false),.sc (.bool false),.sc (.bool false),.sc (.bool false),.sc (.bool false),.sc (.bool false),.sc (.bool false),.sc (.bool false),.sc (.bool false),.sc (.bool false),.sc (.bool false),.sc (.bool false),.sc (.bool false),.sc (.bool false),.sc (.bool false),.sc (.bool false),.sc (.bool false),.sc (.bool false),.sc (.bool false),.sc (.bool false),.sc (.bool false),.sc (.bool false),.sc (.bool false),.sc (.bool false),.sc (.bool false),.sc (.bool false),.sc (.bool false),.sc (.bool false),.sc (.bool false),.sc (.bool false),.sc (.bool false)]):=eqS (by kernel_rfl)
@[go_sem] theorem pl279:yr qd 279=some (plc [(0,1),(1,65)]):=eqS (by kernel_rfl)
@[go_sem] theorem fl279_0:qU qd 279 0=some (0,9,1):=eqS (by kernel_rfl)
@[go_sem] theorem fl279_1:qU qd 279 1=some (1,203,65):=eqS (by kernel_rfl)
@[go_sem] theorem zo279:yg qd 279=true:=eqS (by kernel_rfl)
@[go_sem] theorem ze285:qz qd 285=some (.agg [.sc (.string ⟨#[]⟩),.sc (.int .i64 0),.sc (.map none),.sc (.pointer none)]):=eqS (by kernel_rfl)
@[go_sem] theorem pl285:yr qd 285=some (plc [(0,1),(1,2),(3,1)]):=eqS (by kernel_rfl)
@[go_sem] theorem fl285_0:qU qd 285 0=some (0,9,1):=eqS (by kernel_rfl)
@[go_sem] theorem fl285_1:qU qd 285 1=some (1,251,2):=eqS (by kernel_rfl)
@[go_sem] theorem fl285_2:qU qd 285 2=some (3,253,1):=eqS (by kernel_rfl)
@[go_sem] theorem zo285:yg qd 285=true:=eqS (by kernel_rfl)
@[go_sem] theorem sz301:szOf qd 301=some 1:=eqS (by kernel_rfl)
@[go_sem] theorem ag301:zc qd 301=some false:=eqS (by kernel_rfl)
@[go_sem] theorem ze301:qz qd 301=some (.sc (.int .i8 0)):=eqS (by kernel_rfl)
@[go_sem] theorem sz303:szOf qd 303=some 3:=eqS (by kernel_rfl)
@[go_sem] theorem ag303:zc qd 303=some true:=eqS (by kernel_rfl)
@[go_sem] theorem ze303:qz qd 303=some (.agg [.sc (.int .i8 0),.sc (.int .i8 0),.sc (.int .i8 0)]):=eqS (by kernel_rfl)
@[go_sem] theorem sl303:qJ qd 303=none:=eqS (by kernel_rfl)
@[go_sem] theorem ar303:Zb qd 303=some (3,301,1):=eqS (by kernel_rfl)
@[go_sem] theorem pl303:yr qd 303=some (plA 1):=eqS (by kernel_rfl)
@[go_sem] theorem zo303:yg qd 303=true:=eqS (by kernel_rfl)
@[go_sem] theorem sl319:qJ qd 319=some (301,1,1):=eqS (by kernel_rfl)
end Ty
end Go.Proofs.YtkglmpmlfjogkaaGreatDoor
namespace Go.Ev
open Go Go.RowKit
def Yn(mu:Mu)(give:Nat->Bool):List AV->List AV->Prop
 | [],[]=>True
 |x :: xs,y :: ys=>(x=y\/Rd (cutM give mu 0) x y)/\Yn mu give xs ys
 |_,_=>False
theorem Yn.get{mu:Mu}{give:Nat->Bool}:∀{xs ys:List AV},Yn mu give xs ys->ys.length=xs.length/\∀(k:Nat) x y,xs[k]?=some x->ys[k]?=some y->x=y\/Rd (cutM give mu 0) x y
 | [],[],_=>⟨rfl,by simp⟩
 |x :: xs,y :: ys,⟨h,t⟩=>by
  obtain⟨h1,h2⟩:=Yn.get t;refine⟨by simp[h1],fun k a b ha hb=>?_⟩;cases k with
  |zero=>simp at ha hb;subst ha;subst hb;exact h
  |succ k=>exact h2 k a b (by simpa using ha) (by simpa using hb)
 | [],_ :: _,h=>h.elim
 |_ :: _,[],h=>h.elim
theorem qY.freeze{P:Program}{f:FuncId}{args args1:List AV}{mu:Mu}{R:AEnd->Mu->Prop}(give:Nat->Bool)(hg:Yn mu give args args1)(h:qY P f args1 (cutM (fun i=>!give i) mu 0) R):qY P f args mu R:=by
 obtain⟨hcal,h⟩:=h;obtain⟨hn,hg⟩:=hg.get;refine⟨hcal,fun G w vs s ra=>?_⟩;have ra1:zE (frz G give mu) w.heap args1 vs:=by
  refine⟨by rw[hn];exact ra.1,fun k y hy=>?_⟩;have hk:k<args.length:=by rw[<-hn];exact(qk.1 hy).1
  have hx:args[k]?=some args[k]:=qv hk;have rv:=ra.2 k _ hx;rcases hg k _ y hx hy with e|r
  .rw [<-e];exact rv.mono (wZ s give).le (Ext.refl _ _)
  .exact VR s give r rv
 refine(h (frz G give mu) w vs (Jv s give) ra1).mono fun e w' ⟨G',mu',st,hR⟩=>⟨G',mu',(wZ s give).trans s st,hR⟩
def Gvs(mu:Mu)(give:Nat->Bool):List AV->List AV->Prop
 | [],[]=>True
 |x :: xs,y :: ys=>Gv mu give x y/\Gvs mu give xs ys
 |_,_=>False
theorem Gvs.get{mu:Mu}{give:Nat->Bool}:∀{xs ys:List AV},Gvs mu give xs ys->ys.length=xs.length/\∀(k:Nat) x y,xs[k]?=some x->ys[k]?=some y->Gv mu give x y
 | [],[],_=>⟨rfl,by simp⟩
 |x :: xs,y :: ys,⟨h,t⟩=>by
  obtain⟨h1,h2⟩:=Gvs.get t;refine⟨by simp[h1],fun k a b ha hb=>?_⟩;cases k with
  |zero=>simp at ha hb;subst ha;subst hb;exact h
  |succ k=>exact h2 k a b (by simpa using ha) (by simpa using hb)
 | [],_ :: _,h=>h.elim
 |_ :: _,[],h=>h.elim
def FrzM(mu:Mu)(give:Nat->Bool)(mu':Mu):Prop:=mu'.length=mu.length/\∀(i:Nat) (c':Cell),mu'[i]?=some c'->c' ≠ .dead->give i=false/\∃ c,mu[i]?=some c/\c ≠ .dead /\
 (c'=c\/∃ xs ys,c = .arr xs/\c' = .arr ys/\Gvs mu give xs ys/\ys.all AV.one=true)
theorem FrzM.sim{G:Gh}{mu mu':Mu}{h:Array Obj}{give:Nat->Bool}(s:Sim G mu h)(f:FrzM mu give mu'):Sim (frz G give mu) mu' h:=by
 have hle:G.le (frz G give mu):=⟨fun b hb => .inl hb,fun _ _ h=>h⟩;have s0:=Jv s give;have kept:∀(i:Nat) (c':Cell),mu'[i]?=some c'->c' ≠ .dead->∃ c,(cutM (fun i=>!give i) mu 0)[i]?=some c/\c ≠ .dead:=by
  intro i c' h1 h2;obtain⟨hg,c,hc,hd,_⟩:=f.2 i c' h1 h2;exact⟨c,by rw[uI,hc];simp[hg],hd⟩
 refine⟨by rw[f.1];exact s.len,s0.imm,?_,?_,?_,s0.tab⟩
 .intro i c' blk tot h1 h2 h3
  obtain⟨hg,c,hc,hd,hr⟩:=f.2 i c' h1 h2;obtain⟨o,ho,hrel⟩:=s.obj i c blk tot hc hd h3;refine⟨o,ho,?_⟩;rcases hr with rfl|⟨xs,ys,rfl,rfl,hgv,hone⟩
  .exact hrel.mono hle (Ext.refl _ _)
  .obtain ⟨hyl,hgv⟩:=hgv.get
   obtain⟨cs,e,rfl,k1,k2,k3⟩:=hrel;refine⟨cs,e,rfl,k1,by omega,fun j y hy=>?_⟩;have hj:j<xs.length:=by rw[<-hyl];exact(qk.1 hy).1
   have hx:xs[j]?=some xs[j]:=qv hj;exact⟨by simpa using qy.1 hone y (qS hy),(hgv j _ y hx hy).sound s (k3 j _ hx).2⟩
 .intro i c' blk tot h1 h2 h3
  obtain⟨c,hc,hd⟩:=kept i c' h1 h2;exact s0.live i c blk tot hc hd h3
 .intro i j ci cj b ti tj h1 h2 h3 h4 h5 h6
  obtain⟨c,hc,hd⟩:=kept i ci h1 h3;obtain⟨c',hc',hd'⟩:=kept j cj h2 h4;exact s0.inj i j c c' b ti tj hc hc' hd hd' h5 h6
theorem FrzM.stp{G:Gh}{mu mu':Mu}{w:World}{give:Nat->Bool}(s:Sim G mu w.heap)(f:FrzM mu give mu'):Stp G mu w (frz G give mu) mu' w:=by
 refine⟨⟨fun b hb => .inl hb,fun _ _ h=>h⟩,f.sim s,fun _ _ _=>rfl,qr _,?_,?_,rfl,rfl,rfl,qr _⟩
 .rintro b ⟨i,c,tot,h1,h2,h3⟩
  obtain⟨_,c0,hc,hd,_⟩:=f.2 i c h1 h2;exact .inl ⟨i,c0,tot,hc,hd,h3⟩
 .rintro b (hb|hb)
  .exact .inl hb
  .exact .inr (.inl hb.cut)
theorem qY.freezeM{P:Program}{f:FuncId}{args args1:List AV}{mu mu':Mu}{R:AEnd->Mu->Prop}(give:Nat->Bool)(hg:Gvs mu give args args1)(hm:FrzM mu give mu')(h:qY P f args1 mu' R):qY P f args mu R:=by
 obtain⟨hcal,h⟩:=h;obtain⟨hn,hg⟩:=hg.get;refine⟨hcal,fun G w vs s ra=>?_⟩;have ra1:zE (frz G give mu) w.heap args1 vs:=by
  refine⟨by rw[hn];exact ra.1,fun k y hy=>?_⟩;have hk:k<args.length:=by rw[<-hn];exact(qk.1 hy).1
  have hx:args[k]?=some args[k]:=qv hk;exact(hg k _ y hx hy).sound s (ra.2 k _ hx)
 refine(h (frz G give mu) w vs (hm.sim s) ra1).mono fun e w' ⟨G',mu1,st,hR⟩=>⟨G',mu1,(hm.stp s).trans s st,hR⟩
theorem qi.toSound{P:Program}{f:FuncId}{args args':List AV}{v:AV}(mu:Mu)(h:qi P f args' v)(hw:WKs args args'):qY P f args mu fun e m=>e = .ret v/\m=mu:=by
 refine⟨h.1,fun G w vs s ra=>?_⟩;have fr:VRel G w.heap (.fn (.func f) [] []) (.func (.func f) #[] #[]) := .fn _ _ _ _ _ rfl rfl (fun k x hx=>by simp at hx) (fun k x hx=>by simp at hx);obtain⟨g,first,caps,e,_,hc⟩:=X8 s fr ra (.inl ⟨f,[],[],args',rfl,h,.inl (by simpa using hw)⟩);injection e with e1 e2 e3;injection e1 with e1;subst e1;subst e2;subst e3;simp at hc;refine hc.mono fun e w' ⟨G',u,he,st,hv⟩=>⟨G',mu,st,.inl ⟨v,u,⟨rfl,rfl⟩,he,hv⟩⟩
end Go.Ev
namespace Go.Ev
open Go
abbrev rI(n:Int):List AV:=[.sc (.int .i64 n)]
abbrev lI(xs:List Int):AV := .lst false (xs.map rI)
structure Rl where
 ar:Int
 ts:List Int
 deriving DecidableEq
structure Sc where
 atoms:List Int
 steps:Int
structure Fld where
 name:ByteArray
 sorts:List Int
 var:Bool
structure Sp where
 sorts:List (ByteArray×Bool)
 fields:List Fld
 preds:List (List AV)
 facts:List (List AV)
 hp:HF (.lst false preds)
 hf:HF (.lst false facts)
abbrev cRel(r:Rl):List AV:=[aI r.ar,lI r.ts]
abbrev eRel(r:Rl):AV := .agg (cRel r)
abbrev lRel(rs:List Rl):AV := .lst false (rs.map cRel)
abbrev eSc(s:Sc):AV := .agg [lI s.atoms,aI s.steps]
abbrev Zr(s:ByteArray×Bool):List AV:=[.sc (.string s.1),aB s.2]
abbrev uo(f:Fld):List AV:=[.sc (.string f.name),lI f.sorts,aB f.var]
abbrev KP(f:Fld):AV := .agg (uo f)
abbrev eSp(s:Sp):AV := .agg [.lst false (s.sorts.map Zr),.lst false (s.fields.map uo),.lst false s.preds,.lst false s.facts]
theorem zM(xs:List Int):HF (lI xs):=HF.lst fun r hr c hc=>by
 obtain⟨n,_,rfl⟩:=qs.1 hr;simp at hc;subst hc;exact HF.sc _
theorem Zs(r:Rl):∀ c,c∈cRel r->HF c:=by
 intro c hc;simp at hc;rcases hc with rfl|rfl
 .exact HF.sc _
 .exact zM _
theorem qM(r:Rl):HF (eRel r):=HF.agg (Zs r)
theorem wF(rs:List Rl):HF (lRel rs):=HF.lst fun r hr c hc=>by
 obtain⟨n,_,rfl⟩:=qs.1 hr;exact Zs n c hc
theorem yZ(s:Sc):HF (eSc s):=HF.agg fun c hc=>by
 simp at hc;rcases hc with rfl|rfl
 .exact zM _
 .exact HF.sc _
theorem Uu(f:Fld):∀ c,c∈uo f->HF c:=by
 intro c hc;simp at hc;rcases hc with rfl|rfl|rfl
 .exact HF.sc _
 .exact zM _
 .exact HF.sc _
theorem qcI(f:Fld):HF (KP f):=HF.agg (Uu f)
theorem KQ(s:Sp):HF (eSp s):=HF.agg fun c hc=>by
 simp at hc;rcases hc with rfl|rfl|rfl|rfl
 .refine HF.lst fun r hr c hc=>?_
  obtain⟨n,_,rfl⟩:=qs.1 hr;simp at hc;rcases hc with rfl|rfl<;>exact HF.sc _
 .refine HF.lst fun r hr c hc=>?_
  obtain⟨n,_,rfl⟩:=qs.1 hr;exact Uu n c hc
 .exact s.hp
 .exact s.hf
@[go_sem] theorem ieq(a b:Int):(a == b)=decide (a=b):=eqS rfl
@[go_sem] theorem ine(a b:Int):(a != b)=!decide (a=b):=eqS rfl
@[go_sem] theorem natEq(a b:Nat):((a:Int)=(b:Int))=(a=b):=propext ⟨Int.ofNat_inj.1,fun h=>by rw[h]⟩
inductive Tag (p:St->Prop):Type where
 |mk:Tag p
def Keep(p:St->Prop)(_:Tag p)(st:St):Prop:=p st
theorem Keep.loop{p:Nat->St->Prop}{st:St}{n:Nat}(m:Nat)(hm:m<n)(h:p m st):∃ m,m<n/\Keep (p m) .mk st:=⟨m,hm,h⟩
theorem ql.keep{P:Program}{pl:Pol}{body:Code}{Q:qZ->St->Prop}{st:St}(I:Nat->St->Prop)(n:Nat)(h:I n st)(k:∀ n st,I n st->awp P pl body (uS (fun n=>Keep (I n) .mk) n Q) st):ql P pl body Q st := .intro (fun n=>Keep (I n) .mk) n h k
theorem uT(xs:List Int):zh 1 (xs.map rI):=fun r hr=>by
 obtain⟨n,_,rfl⟩:=qs.1 hr;exact⟨rfl,rfl⟩
theorem uq(xs:List Rl):zh 2 (xs.map cRel):=fun r hr=>by
 obtain⟨n,_,rfl⟩:=qs.1 hr;exact⟨rfl,rfl⟩
def OwnF(lo:Nat)(mu:Mu)(sz:Nat)(av:AV)(xs:List (List AV)):Prop:=Own mu sz av xs/\(∀ b s o l,av = .sl b s o l->lo<=b)/\lo<=mu.length
theorem OwnF.one{lo:Nat}{mu:Mu}{sz:Nat}{av:AV}{xs:List (List AV)}(h:OwnF lo mu sz av xs):av.one=true:=by
 rcases h.1 with rfl|⟨b,rfl,_⟩<;>rfl
theorem OwnF.cells{lo:Nat}{mu:Mu}{sz:Nat}{av:AV}{xs:List (List AV)}(h:OwnF lo mu sz av xs):av.cells=[av]:=by
 rcases h.1 with rfl|⟨b,rfl,_⟩<;>rfl
theorem OwnF.nil{lo:Nat}{mu:Mu}{sz:Nat}(h:lo<=mu.length):OwnF lo mu sz (.lst true []) []:=⟨.inl rfl,fun _ _ _ _ e=>by simp at e,h⟩
theorem vu.ownF{P:Program}{lo:Nat}{mu:Mu}{t t' e sz bt:Nat}{s x:AV}{xs ys:List (List AV)}{zv:AV}{K:AV->Mu->Prop}(hs:qJ P t=some (e,sz,bt))(hs':(qJ P t').isSome=true)(hz:qz P e=some zv)
  (hz1:zv.cells.length=sz) (hz2:zv.cells.all AV.one=true) (hz0:sz≠0) (hb:bt<=16384) (ho:OwnF lo mu sz s xs) (hx:qG mu x=some ys) (wx:zh sz xs) (wy:zh sz ys) (hl:xs.length+ys.length<=4294967296)
  (k:∀ av mu',OwnF lo mu' sz av (xs++ys)->(∀ i,i<lo->mu'[i]?=mu[i]?)->K av mu'):vu P mu #[t,t'] s x K:=by
 obtain⟨ho,hlo,hlm⟩:=ho;refine⟨t,t',e,sz,bt,ys,rfl,hs,hs',⟨zv,hz,hz1,hz2⟩,hz0,hb,hx,wy,?_⟩;rcases ho with rfl|⟨b,rfl,hc⟩
 .refine .inl ⟨xs,rfl,wx,hl,fun h=>?_,fun h=>?_⟩
  .subst h
   exact k _ _ ⟨.inl (by simp),fun _ _ _ _ e=>by simp at e,hlm⟩ (fun _ _=>rfl)
  .refine k _ _ ⟨.inr ⟨mu.length,by simp,by simp⟩,fun b s o l e=>?_,by simp;omega⟩ (fun i hi=>?_)
   .injection e;omega
   .rw [qp (by omega)]
 .have hfl:=jk wx.ok
  have hbl:=hlo _ _ _ _ rfl;refine .inr ⟨b,xs.length,xs.flatten,rfl,hc,by omega,hl,?_⟩;have htk:xs.flatten.take (xs.length*sz)=xs.flatten:=zU (by omega);refine k _ _ ⟨.inr ⟨mu.length,by simp,?_⟩,fun b s o l e=>?_,by simp;omega⟩ (fun i hi=>?_)
  .rw [htk,qV (by simp)];simp
  .injection e;omega
  .rw [qp (by simp;omega)]
   rw[qK (by omega)]
theorem qF.ownF{P:Program}{lo:Nat}{mu:Mu}{t t' e sz bt:Nat}{s x:AV}{xs ys:List (List AV)}{zv:AV}{K:AV->Mu->Prop}(hs:qJ P t=some (e,sz,bt))(hs':(qJ P t').isSome=true)(hz:qz P e=some zv)
  (hz1:zv.cells.length=sz) (hz2:zv.cells.all AV.one=true) (hz0:sz≠0) (hb:bt<=16384) (ho:OwnF lo mu sz s xs) (hx:qG mu x=some ys) (wx:zh sz xs) (wy:zh sz ys) (hl:xs.length+ys.length<=4294967296)
  (k:∀ av mu',OwnF lo mu' sz av (xs++ys)->(∀ i,i<lo->mu'[i]?=mu[i]?)->K av mu'):qF P mu #[t,t'] s x K:=
 .inl (vu.ownF hs hs' hz hz1 hz2 hz0 hb ho hx wx wy hl k)
theorem qF.ints{P:Program}{lo:Nat}{mu:Mu}{t t' e bt:Nat}{s x:AV}{xs ys:List Int}{z:Int}{K:AV->Mu->Prop}(hs:qJ P t=some (e,1,bt))(hs':(qJ P t').isSome=true)(hz:qz P e=some (aI z))
  (hb:bt<=16384) (ho:OwnF lo mu 1 s (xs.map rI)) (hx:qG mu x=some (ys.map rI)) (hl:xs.length+ys.length<=4294967296)
  (k:∀ av mu',OwnF lo mu' 1 av ((xs++ys).map rI)->(∀ i,i<lo->mu'[i]?=mu[i]?)->K av mu'):qF P mu #[t,t'] s x K:=
 qF.ownF hs hs' hz rfl rfl (by omega) hb ho hx (uT _) (uT _) (by simpa using hl) (fun av mu' h1 h2=>k av mu' (by rw[zm];exact h1) h2)
theorem qcJ{lo:Nat}{low rest mu':Mu}(hlo:low.length=lo)(hl:lo<=mu'.length)(h:∀ i,i<lo->mu'[i]?=(low++rest)[i]?):mu'=low++mu'.drop lo:=by
 have:mu'.take lo=low:=by
  apply jj;intro i;by_cases hi:i<lo
  .rw [List.getElem?_take_of_lt hi,h i hi,qp (by omega)]
  .rw [zQ (by simp;omega),zQ (by omega)]
 rw[<-this,List.take_append_drop]
theorem qF.intsL{P:Program}{low rest:Mu}{t t' e bt:Nat}{s x:AV}{xs ys:List Int}{z:Int}{K:AV->Mu->Prop}(hs:qJ P t=some (e,1,bt))(hs':(qJ P t').isSome=true)(hz:qz P e=some (aI z))
  (hb:bt<=16384) (ho:OwnF low.length (low++rest) 1 s (xs.map rI)) (hx:qG (low++rest) x=some (ys.map rI)) (hl:xs.length+ys.length<=4294967296)
  (k:∀ av rest',OwnF low.length (low++rest') 1 av ((xs++ys).map rI)->K av (low++rest')):qF P (low++rest) #[t,t'] s x K:=
 qF.ints hs hs' hz hb ho hx hl fun av mu' h1 h2=>by
  have:=qcJ rfl h1.2.2 h2;rw[this]at h1⊢;exact k _ _ h1
theorem OwnF.low{low low' rest:Mu}{sz:Nat}{av:AV}{xs:List (List AV)}(h:OwnF low.length (low++rest) sz av xs)(hl:low'.length=low.length):OwnF low'.length (low'++rest) sz av xs:=by
 obtain⟨ho,hb,_⟩:=h;refine⟨?_,by rw[hl];exact hb,by simp⟩;rcases ho with rfl|⟨b,rfl,hc⟩
 .exact .inl rfl
 .have:=hb _ _ _ _ rfl
  refine .inr ⟨b,rfl,?_⟩;rw[qV (by omega)]at hc⊢;rw[hl];exact hc
theorem OwnF.rdI{lo:Nat}{mu:Mu}{av:AV}{xs:List Int}(h:OwnF lo mu 1 av (xs.map rI)):Rd mu av (lI xs):=
 h.1.rd (uT xs).ok fun r hr c hc=>by
  obtain⟨n,_,rfl⟩:=qs.1 hr;simp at hc;subst hc;exact HF.sc _
theorem Rd.rel{mu:Mu}{av:AV}{r:Rl}(h:Rd mu av (lI r.ts)):Rd mu (.agg [aI r.ar,av]) (eRel r):=by
 refine .agg _ _ rfl (fun k x y hx hy=>?_)
 match k with
 | 0=>simp at hx hy;subst hx;subst hy;exact .hf _ (HF.sc _)
 | 1=>simp at hx hy;subst hx;subst hy;exact h
 |k+2=>simp at hx
theorem qcK(b:Nat)(mu:Mu):(cutM (fun j=>j == b) mu 0)[b]?=mu[b]?:=by
 rw[uI];cases mu[b]?<;>simp
theorem KR{b i:Nat}(h:i≠b)(mu:Mu):(cutM (fun j=>!(j == b)) mu 0)[i]?=mu[i]?:=by
 rw[uI];cases mu[i]?<;>simp[h]
def gI(xs:List Int)(i:Nat):Int:=(xs[i]?).getD 0
theorem Qd{xs:List Int}{i:Nat}(h:i<xs.length):gI xs i=xs[i]:=by simp[gI,h]
def sumI(xs:List Int):Int:=xs.foldr (·+·) 0
theorem KS(a b:List Int):sumI (a++b)=sumI a+sumI b:=by
 induction a with
 |nil=>simp[sumI]
 |cons x a ih=>simp only[sumI,yB,List.foldr_cons]at *;omega
theorem Qe(l:List Int)(k:Nat)(h:k<l.length):sumI (l.take (k+1))=sumI (l.take k)+l[k]:=by
 rw[List.take_add_one,qv h,KS];simp[sumI]
theorem qcL(l:List Int)(m:Int)(h:∀ a,a∈l->0<=a/\a<=m):0<=sumI l/\sumI l<=m*l.length:=by
 induction l with
 |nil=>simp[sumI]
 |cons x l ih =>
  have h1:=h x (by simp);have h2:=ih (fun a ha=>h a (by simp[ha]));simp only[sumI,List.foldr_cons,z6]at *
  have:m*((l.length+1:Nat):Int)=m*l.length+m:=by rw[Int.natCast_succ,Int.mul_add];simp
  omega
def GSc(s:Sc):Prop:=s.atoms.length<=4/\∀ a,a∈s.atoms->0<=a/\a<=5
theorem GSc.sum{s:Sc}(h:GSc s)(k:Nat):0<=sumI (s.atoms.take k)/\sumI (s.atoms.take k)<=20:=by
 have:=qcL (s.atoms.take k) 5 (fun a ha=>h.2 a (List.mem_of_mem_take ha));have h1:=h.1;have h2:=List.length_take_le k s.atoms;simp only[List.length_take]at *
 omega
theorem GSc.get{s:Sc}(h:GSc s){k:Nat}(hk:k<s.atoms.length):0<=s.atoms[k]/\s.atoms[k]<=5:=h.2 _ (qu hk)
end Go.Ev
namespace Go.Ev
open Go Go.RowKit
theorem PIx.of_mem{α:Type}{es es':List α}(h1:es.Nodup)(h2:es'.Nodup)(h:∀ x,x∈es'↔x∈es):∃ σ τ,PIx σ τ es es':=by
 have hlen:es'.length=es.length:=((List.perm_ext_iff_of_nodup h2 h1).2 h).length_eq;have f:∀ k,∃ j,k<es.length->j<es.length/\es'[j]?=es[k]?:=by
  intro k;by_cases hk:k<es.length
  .obtain ⟨j,hj⟩:=List.mem_iff_getElem?.1 ((h es[k]).2 (by simp))
   exact⟨j,fun _=>⟨by have:=(qk.1 hj).1;omega,by rw[hj];simp[hk]⟩⟩
  .exact ⟨0,fun h=>absurd h hk⟩
 have g:∀ j,∃ k,j<es.length->k<es.length/\es[k]?=es'[j]?:=by
  intro j;by_cases hj:j<es.length
  .have hj':j<es'.length:=by omega
   obtain⟨k,hk⟩:=List.mem_iff_getElem?.1 ((h es'[j]).1 (by simp));exact⟨k,fun _=>⟨(qk.1 hk).1,by rw[hk];simp[hj']⟩⟩
  .exact ⟨0,fun h=>absurd h hj⟩
 refine⟨fun k=>Classical.choose (f k),fun k=>Classical.choose (g k),hlen,fun k hk=>?_⟩;obtain⟨a1,a2⟩:=Classical.choose_spec (f k) hk;obtain⟨b1,b2⟩:=Classical.choose_spec (g k) hk;obtain⟨c1,c2⟩:=Classical.choose_spec (g (Classical.choose (f k))) a1;obtain⟨d1,d2⟩:=Classical.choose_spec (f (Classical.choose (g k))) b1;refine⟨a1,b1,?_,?_,a2⟩
 .exact (List.getElem?_inj c1 h1).1 (c2.trans a2)
 .exact (List.getElem?_inj (by rw[hlen];exact d1) h2).1 (d2.trans b2)
theorem KT{es:List (AV×AV)}(h:(es.map Prod.fst).Nodup):es.Nodup:=(List.pairwise_map.1 h).imp (fun hne e=>hne (by rw[e]))
theorem Rd.mps{mu:Mu}{b:Nat}{es fs:List (AV×AV)}(hc:mu[b]?=some (.mp es))(h1:(es.map Prod.fst).Nodup)(h2:(fs.map Prod.fst).Nodup)(hm:∀ x,x∈es↔x∈fs)(hf:∀ x,x∈es->HF x.1/\HF x.2):Rd mu (.mp b) (.ims fs):=by
 obtain⟨σ,τ,hp⟩:=PIx.of_mem (KT h2) (KT h1) hm;refine .ims _ fs es σ τ hp h2 (.mp b es es hc rfl (fun k x y hx hy=>?_) (fun k x y hx hy=>?_))
 .rw [hx]at hy;cases hy;exact .hf _ (hf x (qS hx)).1
 .rw [hx]at hy;cases hy;exact .hf _ (hf x (qS hx)).2
end Go.Ev
namespace Go.Ev
open Go Go.RowKit
def MRel(G:Gh)(h:Array Obj):Option AV->FrameMode->Prop
 |none,u=>u = .returning
 |some x,u=>∃ v,u = .panicking [{ v,recovered:=false }]/\VRel G h x v
def zW(P:Program)(g:FuncId)(args:List AV)(mu:Mu)(m:Option AV)(R:Mu->Prop):Prop:=jb P g /\
 ∀(G:Gh) (w:World) (vs:Array Value) (u:FrameMode),Sim G mu w.heap->zE G w.heap args vs->MRel G w.heap m u ->
  CallsDIn Fence.wide 0 P g vs u w fun e u' w'=>∃ v G' mu',e = .returned v/\settle u' = .returning/\Stp G mu w G' mu' w'/\R mu'
def JN(P:Program)(rs:List ResultVar)(g:FuncId)(dargs:List AV)(R:AEnd->Mu->Prop):qZ->St->Prop
 | .normal,st | .ret,st=>zW P g dargs st.mu none fun mu'=>OptK (jL P ⟨st.tm,mu'⟩ rs) fun r=>R (.ret r) mu'
 | .pan v,st=>zW P g dargs st.mu (some v) fun mu'=>OptK (jL P ⟨st.tm,mu'⟩ rs) fun r=>R (.ret r) mu'
 | .exit _,_=>False
def Qf(ops:Array Oper):Option (List Oper×Oper):=
 match ops.toList.reverse with
 |o :: r=>match o.op,o.guard,o.dst with | .defer _,none,none=>some (r.reverse,o)|_,_,_=>none
 | []=>none
theorem qcM{ops:Array Oper}{pre:List Oper}{o:Oper}(h:Qf ops=some (pre,o)):ops.toList=pre++[o]/\o.guard=none/\o.dst=none:=by
 unfold Qf at h;split at h
 .rename_i o' r hr
  split at h
  .rename_i c h1 h2 h3
   simp only[qn,Prod.mk.injEq]at h;obtain⟨rfl,rfl⟩:=h;refine⟨?_,h2,h3⟩;have:=congrArg List.reverse hr;simpa using this
  .exact absurd h (by simp)
 .exact absurd h (by simp)
def uU(P:Program)(pl:Pol)(rs:List ResultVar)(R:AEnd->Mu->Prop)(o:Oper)(rest:Code)(st:St):Prop:=
 ∃ x args ats g first caps,o.op = .defer { callee := .value x,args,argTypes:=ats }/\st.ev x = .fn (.func g) first caps/\jb P g/\awp P pl rest (JN P rs g (first++evs st.ev args.toList++caps) R) st
def awpD(P:Program)(pl:Pol)(rs:List ResultVar)(R:AEnd->Mu->Prop):Code->St->Prop
 | .seq (.region _ ops false) rest,st=>match Qf ops with
  |some (pre,o)=>awpS P pl false ops pre (fun st=>uU P pl rs R o rest st) (fun v st=>R (.pan v) st.mu) st
  |none=>awpS P pl false ops ops.toList (fun st=>awpD P pl rs R rest st) (fun v st=>R (.pan v) st.mu) st
 |_,_=>False
def Ro.bare:Ro:=⟨none,[],false,[]⟩
theorem Rel.bare{G0:Gh}{mu0:Mu}{w0:World}{n:Nat}{G:Gh}{st:St}{a:Act}{w:World}(r:Rel Ro.bare G0 mu0 w0 n G st a w):a.defers=[]:=by
 obtain⟨Ds,⟨h1,h2⟩,_⟩:=r.df rfl;have:Ds=[]:=h2 rfl;subst this;simpa[Ro.bare] using h1
def REnd(G : Gh)(mu : Mu)(w : World)(R : AEnd->Mu->Prop)(e : Ending)(w' : World) : Prop := ∃ G' mu', Stp G mu w G' mu' w' /\
      ((∃ r v,R (.ret r) mu'/\e = .returned v/\VRel G' w'.heap r v)\/(∃ r v,R (.pan r) mu'/\e = .panicked [{ v,recovered:=false }]/\VRel G' w'.heap r v))
theorem qcN{P:Program}{pl:Pol}{fn:Func}{R:AEnd->Mu->Prop}{G0:Gh}{mu0:Mu}{w0:World}(s0:Sim G0 mu0 w0.heap):∀(c:Code) (st:St) (a:Act) (w:World) (G:Gh),Rel Ro.bare G0 mu0 w0 fn.ntmps G st a w ->
  dOkC fn.ntmps c=true->awpD P pl fn.results.toList R c st->c.wpIn (WF Ro.bare) 0 P (bodyPostM Fence.wide 0 P fn (REnd G0 mu0 w0 R)) a w:=by
 intro c;induction c with
 |seq x y _ ih =>
  intro st a w G r hd h;cases x with
  |region id ops draw =>
   cases draw with
   |true=>exact h.elim
   |false =>
    simp only[dOkC,qx]at hd;have hdl:(ops.toList.all fun o=>dOk fn.ntmps o.dst)=true:=hd.1;have hpan:∀ v (st:St) a w G u,R (.pan v) st.mu->Rel Ro.bare G0 mu0 w0 fn.ntmps G st a w->VRel G w.heap v u->LeavesInM Fence.wide 0 P fn a.tmps (REnd G0 mu0 w0 R) a.defers (.panicking [{ v:=u,recovered:=false }]) w:=by
     intro v st a w G u hq r hv;rw[r.bare];exact⟨G,st.mu,r.stp,.inr ⟨v,u,hq,rfl,hv⟩⟩
    cases hl:Qf ops with
    |none =>
     simp only[awpD,hl]at h;refine wpIn_seq (wpIn_region_list ?_);refine Ub s0 ?_ ?_ ops.toList st a w G r hdl h
     .intro st a w G hq r
      exact ih st a w G r hd.2 hq
     .intro v st a w G u hq r hv
      exact hpan v st a w G u hq r hv
    |some q =>
     obtain⟨pre,o⟩:=q;simp only[awpD,hl]at h;obtain⟨ho,hg,hdst⟩:=qcM hl;refine wpIn_seq (wpIn_region_list ?_);rw[ho]at hdl⊢;rw[List.all_append,qx]at hdl;refine Km s0 ?_ ?_ pre st a w G r hdl.1 h
     .intro st a w G hq r
      obtain⟨xo,args,ats,g,first,caps,hop,hx,hcal,hrest⟩:=hq;obtain⟨od,oop,oty,opos,oaf,ogd⟩:=o;simp only at hop hg hdst;subst hop;subst hg;subst hdst;simp only[wpListIn,Region.wanted,if_true];have rf:=r.ev xo;rw[hx]at rf;generalize hq:a.eval xo=fv at rf;cases rf with
      |fn _ _ _ fvs cvs hn hm hv hw =>
      have ra:=zE.append3 ⟨hn,hv⟩ (uL r.ev args) ⟨hm,hw⟩;have hrun:((({ dst:=none,op := .defer { callee := .value xo,args,argTypes:=ats },type:=oty,pos:=opos,after:=oaf,guard:=none }:Oper).semAt (WF Ro.bare).round a.eval).run P w) =
        .ok (.defer { target := .fn (.func g) cvs,args:=fvs++args.map a.eval }) w:=by
       rw[show (WF Ro.bare).round=none from rfl,Oper.semAt_none];simp only[execOp,resolve,qN,zu,qP,hq,Deferred.ofValue]
      refine⟨fun _ _=>trivial,?_⟩;rw[hrun,Oper.uponIn_defer];rw[r.bare]
      let d:Deferred:={ target := .fn (.func g) cvs,args:=fvs++args.map a.eval }
      let dargs:=first++evs st.ev args.toList++caps
      let dvs:=fvs++args.map a.eval++cvs
      let ro:Ro:=⟨none,[d],true,dargs.zip dvs.toList⟩
      have hkp:∀{G:Gh} {h:Array Obj},(∀ p,p∈ro.kp->VRel G h p.1 p.2)↔zE G h dargs dvs:=by
       intro G h;constructor
       .intro hk
        refine⟨ra.1,fun k x hx=>?_⟩;have hlt:k<dvs.size:=by rw[ra.1];exact(qk.1 hx).1
        have hv:dvs.toList[k]?=some (dvs.getD k undef):=by simp[qD,hlt]
        have:(x,dvs.getD k undef)∈dargs.zip dvs.toList:=qS (i:=k) (by rw[List.getElem?_zip_eq_some];exact⟨hx,hv⟩);exact hk _ this
       .intro ha p hp
        obtain⟨k,hk⟩:=List.mem_iff_getElem?.1 hp;rw[List.getElem?_zip_eq_some]at hk;have:=ha.2 k p.1 hk.1;have e:dvs.getD k undef=p.2:=by
         have h2:=hk.2;rw[Array.getElem?_toList]at h2;simp[qD,h2]
        rwa[e]at this
      show y.wpIn (WF Ro.bare) 0 P _ _ _;refine Up (pl:=pl) (n:=fn.ntmps) y (ro:=ro) s0 _ _ st _ w G ?_ ⟨r.tm,fun _=>Dfs.nil _ _ _ _ _ _,r.size,r.stp,hkp.2 ra⟩ hd.2 (.inl ⟨rfl,rfl⟩) hrest;intro ae e st a w' G' hq r he;obtain⟨Ds,g1,g2,g3,r',hv'⟩:=r.left rfl;have key:∀(m:Option AV) (u:FrameMode),u ≠ .run->MRel G' (ul Ds w').heap m u->zW P g dargs st.mu m (fun mu'=>OptK (jL P ⟨st.tm,mu'⟩ fn.results.toList) fun r=>R (.ret r) mu') ->
        LeavesInM Fence.wide 0 P fn a.tmps (REnd G0 mu0 w0 R) a.defers u w':=by
       intro m u hu hm hs;rw[g1];refine Ua hu Ds w' g2 g3 ?_;refine⟨hu,.inr ⟨fun h=>by simp[Fence.wide]at h,.func g,cvs,g,dvs,rfl,?_,fun _ _=>trivial,?_⟩⟩
       .simp only[invoke,d]
        exact hcal _ _
       .refine (hs.2 G' (ul Ds w') dvs u r'.stp.sim (hkp.1 r'.kp) hm).mono ?_
        intro e u' w'' ⟨v,G2,mu2,he,hset,hst,z,hz,hR⟩;subst he;simp only;rw[hset];have r2:=r'.put (d:=none) s0 hst (.any undef) rfl;obtain⟨u2,k1,k2⟩:=Ym (fn:=fn) r2 hz;exact⟨u2,k1,G2,mu2,r2.stp,.inl ⟨z,u2,hR,rfl,k2⟩⟩
      cases ae<;>cases e<;>simp only[ERel]at he
      .exact key none .returning (by simp) rfl hq
      .exact hq.elim
      .exact key none .returning (by simp) rfl hq
      .obtain ⟨v,rfl,hv⟩:=he
       exact key (some _) (.panicking _) (by simp) ⟨v,rfl,hv' _ _ hv⟩ hq
     .intro v st a w G u hq r hv
      exact hpan v st a w G u hq r hv
  |_=>exact h.elim
 |_=>intro st a w G r hd h;exact h.elim
theorem qY.of_awpD{P:Program}{f:FuncId}{fn:Func}{c:Code}{pl:Pol}{args:List AV}{mu:Mu}{R:AEnd->Mu->Prop}(hcal:jb P f)(hf:P.funcs[f]?=some fn)(hb:fn.body=some c)
  (hn:args.length<=fn.ntmps) (hd:dOkC fn.ntmps c=true) (h:awpD P pl fn.results.toList R c (st0 args mu)):qY P f args mu R:=by
 refine⟨hcal,fun G w vs s ra=>?_⟩;refine(callsIn_wide (n:=0)).1 (callsIn_of_wp_marks hf hb trivial ?_);refine qcN (pl:=pl) s c (st0 args mu) _ w G ?_ hd h;exact Rel.start s ra hn
theorem zW.of_awp{P:Program}{f:FuncId}{fn:Func}{id:Nat}{o:Oper}{rest:Code}{pl:Pol}{args:List AV}{mu:Mu}{m:Option AV}{R:Mu->Prop}(hcal:jb P f)(hf:P.funcs[f]?=some fn)
  (hb:fn.body=some (.seq (.region id #[o] false) rest)) (ho:∃ d ty pos ats,o={ dst:=d,op := .call { callee := .builtin .recover,args:=#[],argTypes:=ats },type:=ty,pos:=pos,after:=#[],guard:=none })
  (hn:args.length<=fn.ntmps) (hd:dOkC fn.ntmps (.seq (.region id #[o] false) rest)=true) (hr:noRF rest=true)
  (h:awp P pl rest (Qc P fn.results.toList fun e mu'=>∃ r,e = .ret r/\R mu') ((st0 args mu).put o.dst (m.getD (.sc .nilIface)) mu)):zW P f args mu m R:=by
 obtain⟨od,oty,opos,oats,rfl⟩:=ho;refine⟨hcal,fun G w vs u s ra hm=>?_⟩;refine callsDIn_of_wpSIn hf hb trivial fun c₀ cs hc=>?_
 have r0:Rel Ro.bare G mu w fn.ntmps G (st0 args mu) { tmps:=vs++Array.replicate (fn.ntmps-vs.size) undef,defers:=[] } w:=Rel.start s ra hn;simp only[dOkC,qx]at hd;have hdo:dOk fn.ntmps od=true:=by have:=hd.1;simpa using this
 refine wpSIn_seq (wpSIn_region ?_);have go:∀(cs':List Frame) (v:Value) (u':FrameMode),cs'={ c₀ with mode:=u' } :: cs->settle u' = .returning->VRel G w.heap (m.getD (.sc .nilIface)) v ->
   rest.wpSIn Fence.wide 0 P (bodyPostS P fn c₀ cs fun e u' w'=>∃ v G' mu',e = .returned v/\settle u' = .returning/\Stp G mu w G' mu' w'/\R mu')
    (({ tmps:=vs++Array.replicate (fn.ntmps-vs.size) undef,defers:=[] }:Act).put od v) cs' w:=by
  intro cs' v u' hcs hset hv;refine wpSIn_of_wpIn rfl ?_;refine Up (pl:=pl) (n:=fn.ntmps) rest (ro:=Ro.bare) s _ _ _ _ w G ?_ (r0.put s (Stp.refl s) hv hdo) hd.2 (.inr hr) h;intro ae e st a w' G' hq r he;cases ae<;>cases e<;>simp only[ERel]at he
  .obtain ⟨z,hz,z',_,hR⟩:=hq
   obtain⟨u2,k1,k2⟩:=Ym (fn:=fn) r hz;exact⟨r.bare,u',hcs,u2,k1,u2,G',st.mu,rfl,hset,r.stp,hR⟩
  .exact hq.elim
  .obtain ⟨z,hz,z',_,hR⟩:=hq
   obtain⟨u2,k1,k2⟩:=Ym (fn:=fn) r hz;exact⟨r.bare,u',hcs,u2,k1,u2,G',st.mu,rfl,hset,r.stp,hR⟩
  .obtain ⟨z,hz,_⟩:=hq
   exact absurd hz (by simp)
 have hrun:∀ ev:Operand->Value,(execOp ev { dst:=od,op := .call { callee := .builtin .recover,args:=#[],argTypes:=oats },type:=oty,pos:=opos,after:=#[],guard:=none }).run P w = .ok .recover w:=by
  intro ev;simp[execOp,resolve,invoke,builtin]
 simp only[List.size_toArray,z6,List.length_nil,qq,qq.loop,wpOpsSIn];refine⟨fun _ _=>trivial,?_⟩;simp only[Region.wanted,if_true,hrun];cases m with
 |none =>
  have hu:u = .returning:=hm;have hrec:recoverD (c₀ :: cs)=none:=by simp[recoverD,hc,hu]
  rw[hrec];exact go _ .nilIface .returning (by rw[<-hu,<-hc]) rfl (.sc _ rfl)
 |some x =>
  obtain⟨v,hu,hv⟩:=hm;have hrec:recoverD (c₀ :: cs)=some (v,{ c₀ with mode := .panicking [{ v,recovered:=true }] } :: cs):=by simp[recoverD,hc,hu]
  rw[hrec];exact go _ v (.panicking [{ v,recovered:=true }]) rfl rfl hv
end Go.Ev
namespace Go.Ev
open Go Go.RowKit
def EndR(G:Gh)(h:Array Obj):AEnd->Ending->Prop
 | .ret r,e=>∃ v,e = .returned v/\VRel G h r v
 | .pan r,e=>∃ v,e = .panicked [{ v,recovered:=false }]/\VRel G h r v
def qQ(P:Program)(f:FuncId)(args:List AV)(V:AEnd->Prop):Prop:=jb P f /\
 ∀(imm:Nat->Prop) (w:World) (vs:Array Value),Sim ⟨imm,[]⟩ [] w.heap->zE ⟨imm,[]⟩ w.heap args vs ->
  Calls P f vs w fun e w'=>∃ imm' a,V a/\EndR ⟨imm',[]⟩ w'.heap a e/\(∀ b,imm b->imm' b)/\(∀ b,imm' b->b<w'.heap.size/\(imm b\/w.heap.size<=b))/\Zf w.heap.size w w'
abbrev qH(P:Program)(f:FuncId)(args:List AV)(e:AEnd):Prop:=qQ P f args (·=e)
theorem qH.toP{P:Program}{f:FuncId}{args:List AV}{r:AV}(h:qH P f args (.ret r)):qi P f args r:=by
 refine⟨h.1,fun imm w vs hi ra=>(h.2 imm w vs hi ra).mono fun e w' ⟨imm',a,hv,hr,h1,h2,h3⟩=>?_⟩;subst hv;obtain⟨v,he,hv⟩:=hr;exact⟨imm',v,he,h1,h2,h3,hv⟩
theorem qcO{G : Gh}{mu : Mu}{w : World}(s : Sim G mu w.heap)(imm imm' : Nat->Prop)(w' : World)(h1 : ∀ b, G.imm b->imm b)(h2 : ∀ b, imm' b->b < w'.heap.size/\(imm b\/w.heap.size<=b))(hb : Zf w.heap.size w w')(h3 : ∀ b, imm b->G.imm b\/Live G mu b) :
      Stp G mu w ⟨fun b=>G.imm b\/(imm' b/\w.heap.size<=b),G.blk⟩ mu w':=by
    have hle:G.le ⟨fun b=>G.imm b\/(imm' b/\w.heap.size<=b),G.blk⟩:=⟨fun b h => .inl h,fun _ _ h=>h⟩;have he:Ext G w.heap w'.heap:=⟨hb.size,fun b hi=>hb.block b (s.imm b hi)⟩;have key:∀ b,Live G mu b->w'.heap[b]?=w.heap[b]?:=fun b hl=>hb.block b (s.livesize hl)
    refine⟨hle,⟨s.len,?_,?_,?_,s.inj,s.tab.mono hle.imm (fun b hi=>hb.block b (s.imm b hi))⟩,fun b hb' _=>hb.block b hb',hb.size,fun b h => .inl h,fun b h=>h.elim .inl (fun e => .inr (.inr e.2)),hb.tape,hb.os,hb.output,hb.drawn⟩
    · intro b hi
      rcases hi with hi|hi
      · exact ZX (s.imm b hi) hb.size
      · exact(h2 b hi.1).1
    · intro i c blk tot hc hd hk
      obtain⟨o',g1,g2⟩:=s.obj i c blk tot hc hd hk;exact⟨o',by rw[key blk ⟨i,_,tot,hc,hd,hk⟩];exact g1,g2.mono hle he⟩
    · intro i c blk tot hc hd hk hi
      rcases hi with hi|hi
      · exact s.live i c blk tot hc hd hk hi
      · have:=s.livesize ⟨i,c,tot,hc,hd,hk⟩;omega
theorem EndR.le{G G':Gh}{h:Array Obj}(hg:G.le G'){a:AEnd}{e:Ending}(r:EndR G h a e):EndR G' h a e:=by
 cases a with
 |ret x=>obtain⟨v,h1,h2⟩:=r;exact⟨v,h1,h2.le hg⟩
 |pan x=>obtain⟨v,h1,h2⟩:=r;exact⟨v,h1,h2.le hg⟩
theorem qQ.toSound{P:Program}{f:FuncId}{args args':List AV}{V:AEnd->Prop}(mu:Mu)(h:qQ P f args' V)(hw:WKs args args'):qY P f args mu fun e m=>V e/\m=mu:=by
 refine⟨h.1,fun G w vs s ra=>?_⟩;obtain⟨hl,hg⟩:=hw.get;have ra':zE ⟨G.imm,[]⟩ w.heap args' vs:=by
  refine⟨by rw[ra.1,hl],fun k y hy=>?_⟩;have hk:k<args'.length:=(qk.1 hy).1;have hx:args[k]?=some (args[k]'(by omega)):=by rw[qv]
  exact hg k _ y hx hy G w.heap _ (ra.2 k _ hx)
 refine(h.2 G.imm w vs s.bare ra').mono fun e w' ⟨imm',a,hv,hr,h1,h2,hb⟩=>?_
 have st:=qcO s G.imm imm' w' (fun b h=>h) h2 hb (fun b h => .inl h);have hr':EndR ⟨fun b=>G.imm b\/(imm' b/\w.heap.size<=b),G.blk⟩ w'.heap a e:=hr.le ⟨fun b hi=>by
  rcases (h2 b hi).2 with h|h
  .exact .inl h
  .exact .inr ⟨hi,h⟩,fun i x h=>by simp at h⟩
 refine⟨_,mu,st,?_⟩;cases a with
 |ret x=>obtain⟨v,h1,h2⟩:=hr';exact .inl ⟨x,v,⟨hv,rfl⟩,h1,h2⟩
 |pan x=>obtain⟨v,h1,h2⟩:=hr';exact .inr ⟨x,v,⟨hv,rfl⟩,h1,h2⟩
def RdE(mu:Mu):AEnd->AEnd->Prop
 | .ret x,.ret y=>Rd mu x y
 | .pan x,.pan y=>Rd mu x y
 |_,_=>False
theorem qQ.of_sound{P:Program}{f:FuncId}{args:List AV}{V:AEnd->Prop}(h:qY P f args [] fun e mu'=>∃ e',V e'/\RdE mu' e e'):qQ P f args V:=by
 obtain⟨hcal,h⟩:=h;refine⟨hcal,fun imm w vs hi ra=>?_⟩;refine(h ⟨imm,[]⟩ w vs hi ra).mono fun e w' ⟨G',mu',st,hR⟩=>?_
 have nolive:∀ b,¬Live ⟨imm,[]⟩ [] b:=fun b ⟨i,c,t,hc,_⟩=>by simp at hc
 have fin:∀ a,V a->EndR ⟨fun b=>G'.imm b\/Live G' mu' b,[]⟩ w'.heap a e->∃ imm' a,V a/\EndR ⟨imm',[]⟩ w'.heap a e/\(∀ b,imm b->imm' b)/\(∀ b,imm' b->b<w'.heap.size/\(imm b\/w.heap.size<=b))/\Zf w.heap.size w w':=by
  intro a hv hr;refine⟨fun b=>G'.imm b\/Live G' mu' b,a,hv,hr,fun b hb => .inl (st.le.imm b hb),fun b hb=>?_,⟨st.os,st.tape,st.output,st.size,fun k hk=>st.keep k hk (nolive k)⟩,st.drawn⟩;rcases hb with hb|hb
  .refine ⟨st.sim.imm b hb,?_⟩
   rcases st.inew b hb with h|h|h
   .exact .inl h
   .exact absurd h (nolive b)
   .exact .inr h
  .refine ⟨st.sim.livesize hb,?_⟩
   rcases st.live b hb with h|h
   .exact absurd h (nolive b)
   .exact .inr h
 rcases hR with ⟨r',v,⟨e',hv,hrd⟩,rfl,hu⟩|⟨r',v,⟨e',hv,hrd⟩,rfl,hu⟩
 .cases e' with
  |ret y=>exact fin _ hv ⟨v,rfl,hrd.sound st.sim hu⟩
  |pan y=>exact hrd.elim
 .cases e' with
  |ret y=>exact hrd.elim
  |pan y=>exact fin _ hv ⟨v,rfl,hrd.sound st.sim hu⟩
@[go_sem] theorem qcP(mu:Mu)(x y:AV):RdE mu (.ret x) (.ret y)=Rd mu x y:=eqS rfl
@[go_sem] theorem RdE_pan(mu:Mu)(x y:AV):RdE mu (.pan x) (.pan y)=Rd mu x y:=eqS rfl
theorem qb.gen{P:Program}{mu:Mu}{g:FuncId}{first caps args args':List AV}{V:AEnd->Prop}{K Kp:AV->Mu->Prop}(h:qQ P g args' V)(hw:WKs (first++args++caps) args')(kr:∀ r,V (.ret r)->K r mu)(kp:∀ r,V (.pan r)->Kp r mu) :
  qb P false mu (.fn (.func g) first caps) args K Kp:=
 .inr ⟨rfl,.inl ⟨g,first,caps,_,rfl,h.toSound mu hw,fun r m ⟨hv,hm⟩=>by subst hm;exact kr r hv,fun r m ⟨hv,hm⟩=>by subst hm;exact kp r hv⟩⟩
theorem qb.eff0{P:Program}{mu:Mu}{g:FuncId}{args:List AV}{R:AEnd->Mu->Prop}{K Kp:AV->Mu->Prop}(hs:qY P g args mu R)(k:∀ r m,R (.ret r) m->K r m)(kp:∀ r m,R (.pan r) m->Kp r m) :
  qb P false mu (.fn (.func g) [] []) args K Kp:=
 .inr ⟨rfl,.inl ⟨g,[],[],R,rfl,by simpa using hs,k,kp⟩⟩
theorem qb.pans{P:Program}{mu:Mu}{g:FuncId}{first caps args args':List AV}{v:AV}{K Kp:AV->Mu->Prop}(h:qH P g args' (.pan v))(hw:WKs (first++args++caps) args')(kp:Kp v mu) :
  qb P false mu (.fn (.func g) first caps) args K Kp := .gen h hw (fun r e=>by cases e) (fun r e=>by cases e;exact kp)
theorem qY.hid{P:Program}{f:FuncId}{args:List AV}{mu:Mu}{R:AEnd->Mu->Prop}{i:Nat}{c:Cell}(hc:mu[i]?=some c)(hd:c ≠ .dead)(h:qY P f args (mu.set i .dead) R) :
  qY P f args mu fun e m=>∃ m',R e m'/\m'[i]?=some .dead/\m=m'.set i c:=by
 refine⟨h.1,fun G w vs s ra=>?_⟩;have hj:i<G.blk.length:=by rw[s.len];exact(qk.1 hc).1
 refine(h.2 G w vs (s.hid i) ra).mono fun e w' ⟨G',m',t,hR⟩=>?_
 obtain⟨g1,g2,g3⟩:=t.unhid s hc hd (b:=(G.blk[i]'hj).1) (t:=(G.blk[i]'hj).2) (by simp[hj]);refine⟨G',m'.set i c,g3,?_⟩;rcases hR with ⟨r,v,hr,he,hv⟩|⟨r,v,hr,he,hv⟩
 .exact .inl ⟨r,v,⟨m',hr,g1,rfl⟩,he,hv⟩
 .exact .inr ⟨r,v,⟨m',hr,g1,rfl⟩,he,hv⟩
theorem qY.monoR{P:Program}{f:FuncId}{args:List AV}{mu:Mu}{R R':AEnd->Mu->Prop}(h:qY P f args mu R)(k:∀ e m,R e m->R' e m):qY P f args mu R':=by
 refine⟨h.1,fun G w vs s ra=>(h.2 G w vs s ra).mono fun e w' ⟨G',m',t,hR⟩=>⟨G',m',t,?_⟩⟩;rcases hR with ⟨r,v,hr,he,hv⟩|⟨r,v,hr,he,hv⟩
 .exact .inl ⟨r,v,k _ _ hr,he,hv⟩
 .exact .inr ⟨r,v,k _ _ hr,he,hv⟩
attribute [go_sem] Qf
def JO(P:Program)(pl:Pol)(rs:List ResultVar)(R:AEnd->Mu->Prop)(ops:Array Oper)(rest:Code)(st:St):Option (List Oper×Oper)->Prop
 |some (pre,o)=>awpS P pl false ops pre (fun st=>uU P pl rs R o rest st) (fun v st=>R (.pan v) st.mu) st
 |none=>awpS P pl false ops ops.toList (fun st=>awpD P pl rs R rest st) (fun v st=>R (.pan v) st.mu) st
@[go_sem ↓] theorem awpD_seq{P:Program}{pl:Pol}{rs:List ResultVar}{R:AEnd->Mu->Prop}{id:Nat}{ops:Array Oper}{rest:Code}{st:St} :
  awpD P pl rs R (.seq (.region id ops false) rest) st=JO P pl rs R ops rest st (Qf ops):=by
 cases h:Qf ops<;>simp only[awpD,JO,h]
@[go_sem] theorem qmY{P:Program}{pl:Pol}{rs:List ResultVar}{R:AEnd->Mu->Prop}{ops:Array Oper}{rest:Code}{st:St}{pre:List Oper}{o:Oper} :
  JO P pl rs R ops rest st (some (pre,o))=awpS P pl false ops pre (fun st=>uU P pl rs R o rest st) (fun v st=>R (.pan v) st.mu) st:=eqS rfl
@[go_sem] theorem qmZ{P:Program}{pl:Pol}{rs:List ResultVar}{R:AEnd->Mu->Prop}{ops:Array Oper}{rest:Code}{st:St} :
  JO P pl rs R ops rest st none=awpS P pl false ops ops.toList (fun st=>awpD P pl rs R rest st) (fun v st=>R (.pan v) st.mu) st:=eqS rfl
theorem uU.intro{P:Program}{pl:Pol}{rs:List ResultVar}{R:AEnd->Mu->Prop}{x:Operand}{args:Array Operand}{ats:Array TypeId}{ty:TypeId}{pos:String}{af:Array Edge}{gd:Option (Nat×Bool)}{d:Option Tmp}{rest:Code}{st:St}{g:FuncId}{first caps:List AV}
  (hx:st.ev x = .fn (.func g) first caps) (hcal:jb P g) (h:awp P pl rest (JN P rs g (first++evs st.ev args.toList++caps) R) st) :
  uU P pl rs R { dst:=d,op := .defer { callee := .value x,args:=args,argTypes:=ats },type:=ty,pos:=pos,after:=af,guard:=gd } rest st:=
 ⟨x,args,ats,g,first,caps,rfl,hx,hcal,h⟩
@[go_sem] theorem PostD_ret{P:Program}{rs:List ResultVar}{g:FuncId}{dargs:List AV}{R:AEnd->Mu->Prop}{st:St}:JN P rs g dargs R .ret st=zW P g dargs st.mu none fun mu'=>OptK (jL P ⟨st.tm,mu'⟩ rs) fun r=>R (.ret r) mu':=eqS rfl
@[go_sem] theorem PostD_pan{P:Program}{rs:List ResultVar}{g:FuncId}{dargs:List AV}{R:AEnd->Mu->Prop}{st:St}{v:AV}:JN P rs g dargs R (.pan v) st=zW P g dargs st.mu (some v) fun mu'=>OptK (jL P ⟨st.tm,mu'⟩ rs) fun r=>R (.ret r) mu':=eqS rfl
theorem zW.mono{P:Program}{g:FuncId}{args:List AV}{mu:Mu}{m:Option AV}{R R':Mu->Prop}(h:zW P g args mu m R)(k:∀ mu',R mu'->R' mu'):zW P g args mu m R':=
 ⟨h.1,fun G w vs u s ra hm=>(h.2 G w vs u s ra hm).mono fun e u' w' ⟨v,G',mu',h1,h2,h3,h4⟩=>⟨v,G',mu',h1,h2,h3,k _ h4⟩⟩
@[go_sem] theorem ofV_pnone:ofV (.pointer none) = .sc (.pointer none):=eqS rfl
@[go_sem] theorem ofV_mnone:ofV (.map none) = .sc (.map none):=eqS rfl
theorem Rd.aggs{mu:Mu}{xs ys:List AV}(h:Rds mu xs ys):Rd mu (.agg xs) (.agg ys) := .agg _ _ h.get.1 h.get.2
end Go.Ev
namespace Go.Proofs.YtkglmpmlfjogkaaGreatDoor
open Go Go.Ev Go.Proofs Tryz
namespace Y1
inductive Nd where
 |mk (op:Int) (name:ByteArray) (n:Int) (kids:List Nd) (pos:Int)
def Nd.op:Nd->Int | .mk o _ _ _ _=>o
def Nd.name:Nd->ByteArray | .mk _ s _ _ _=>s
def Nd.n:Nd->Int | .mk _ _ n _ _=>n
def Nd.kids:Nd->List Nd | .mk _ _ _ ks _=>ks
def Nd.pos:Nd->Int | .mk _ _ _ _ p=>p
abbrev aS(s:ByteArray):AV := .sc (.string s)
mutual
def cNd:Nd->List AV
 | .mk op nm n ks p=>[aI op,aS nm,aI n,.lst false (cNds ks),aI p]
def cNds:List Nd->List (List AV)
 | []=>[]
 |k :: ks=>cNd k :: cNds ks
end
theorem Uv:∀ ks:List Nd,cNds ks=ks.map cNd
 | []=>by simp[cNds]
 |k :: ks=>by simp[cNds,Uv ks]
theorem jM(n:Nd):cNd n=[aI n.op,aS n.name,aI n.n,.lst false (n.kids.map cNd),aI n.pos]:=by
 obtain⟨op,nm,k,ks,p⟩:=n;simp[cNd,Uv,Nd.op,Nd.name,Nd.n,Nd.kids,Nd.pos]
@[go_sem] theorem Zt(n:Nd):(cNd n).length=5:=by rw[jM];rfl
@[go_sem] theorem qcQ(n:Nd):(cNd n).take 5=cNd n:=zU (by rw[Zt];exact qr _)
@[go_sem] theorem Zu(n:Nd):(cNd n).all AV.one=true:=by rw[jM];rfl
@[go_sem] theorem qo(n:Nd):(∀ x,x∈cNd n->x.one=true)=True:=eq_true fun x hx=>by have:=qy.1 (Zu n) x hx;simpa using this
@[go_sem] theorem cNd_f0(n:Nd):(cNd n).take 1=[aI n.op]:=by rw[jM];rfl
@[go_sem] theorem cNd_f1t(n:Nd):(cNd n).tail.take 1=[aS n.name]:=by rw[jM];rfl
@[go_sem] theorem cNd_f2(n:Nd):((cNd n).drop 2).take 1=[aI n.n]:=by rw[jM];rfl
@[go_sem] theorem cNd_f3(n:Nd):((cNd n).drop 3).take 1=[.lst false (n.kids.map cNd)]:=by rw[jM];rfl
@[go_sem] theorem uV(n:Nd):((cNd n).drop 4).take 1=[aI n.pos]:=by rw[jM];rfl
@[go_sem high] theorem put_cNd(z:List AV)(o:Nat)(n:Nd):putCells z o (cNd n)=z.take o++(cNd n++z.drop (o+5)):=by
 rw[jM];simp[putCells]
abbrev eNd(n:Nd):AV := .agg (cNd n)
abbrev lNd(ks:List Nd):AV := .lst false (ks.map cNd)
mutual
theorem vz:∀(n:Nd),∀ c,c∈cNd n->HF c
 | .mk op nm n ks p=>by
  intro c hc;simp only[cNd,qB,zr,or_false]at hc;rcases hc with rfl|rfl|rfl|rfl|rfl
  .exact HF.sc _
  .exact HF.sc _
  .exact HF.sc _
  .exact HF.lst (Uw ks)
  .exact HF.sc _
theorem Uw:∀(ks:List Nd),∀ r,r∈cNds ks->∀ c,c∈r->HF c
 | []=>by intro r hr;simp[cNds]at hr
 |k :: ks=>by
  intro r hr;simp only[cNds,qB]at hr;rcases hr with rfl|hr
  .exact vz k
  .exact Uw ks r hr
end
theorem qI(n:Nd):HF (eNd n):=HF.agg (vz n)
theorem JP(ks:List Nd):HF (lNd ks):=HF.lst (by rw[<-Uv];exact Uw ks)
theorem Zv(ks:List Nd):zh 5 (ks.map cNd):=fun r hr=>by
 obtain⟨n,_,rfl⟩:=qs.1 hr;rw[jM];exact⟨rfl,rfl⟩
abbrev jw(e p:Int):AV := .ifc 215 (.agg [aI e,aI p])
theorem ya(e p:Int):HF (jw e p):=HF.ifc (HF.agg fun c hc=>by simp at hc;rcases hc with rfl|rfl<;>exact HF.sc _)
theorem failU(e:Int)(n:Nd):qH qd 191 [aI e,eNd n] (.pan (jw e n.pos)):=by
 refine qQ.of_sound ?_;refine qSW call191 func191 rfl {} ?_;simp only[eNd,jM];simp[go_sem];exact⟨_,_,⟨rfl,rfl⟩,.hf _ (ya _ _)⟩
theorem zN(ok:Bool)(e:Int)(n:Nd):qH qd 139 [aB ok,aI e,eNd n] (if ok then .ret (.tup []) else .pan (jw e n.pos)):=by
 refine qQ.of_sound ?_;refine qSW call139 func139 rfl {} ?_;simp only[eNd];cases ok
 .simp [go_sem]
  refine qb.pans (failU e n) (.cons (.hf (HF.sc _)) (.cons (.hf (qI n)) .nil)) ?_;simp[go_sem];exact .hf _ (ya _ _)
 .simp [go_sem]
  exact .hf _ (HF.tup (by simp))
theorem qcR(mu:Mu)(b:Nat)(x y:AV)(hb:mu[b]?=some (.arr [x,y])):zW qd 184 [.ptr b 0] mu none fun mu'=>mu'=mu:=by
 refine zW.of_awp call184 func184 rfl ⟨_,_,_,_,rfl⟩ (jo (by kernel_rfl)) (by kernel_rfl) (by kernel_rfl) (pl:={}) ?_;simp[go_sem]
theorem qcS(mu:Mu)(b:Nat)(x y:AV)(e p:Int)(hb:mu[b]?=some (.arr [x,y])):zW qd 184 [.ptr b 0] mu (some (jw e p)) fun mu'=>∃ c,mu'=mu.set b (.arr [aI e,aI p])++[c]:=by
 refine zW.of_awp call184 func184 rfl ⟨_,_,_,_,rfl⟩ (jo (by kernel_rfl)) (by kernel_rfl) (by kernel_rfl) (pl:={}) ?_;have hl:b<mu.length:=(qk.1 hb).1;have hg:∀ c:Cell,(mu++[c])[b]?=some (.arr [x,y]):=fun c=>by rw[qp hl,hb]
 have hs:∀ c d:Cell,(mu++[c]).set b d=mu.set b d++[c]:=fun c d=>List.set_append_left b d hl
 simp[go_sem,hg,hs]
theorem qcT{g:FuncId}{caps:List AV}{mu:Mu}{R:AEnd->Mu->Prop}(h:qY qd g caps (mu++[.dead]) R)(hp:∀ v m,R (.pan v) m->∃ e p,v=jw e p) :
  qY qd 136 [.fn (.func g) [] caps] mu fun e m=>∃ m' c,(∃ l,m=m'.set mu.length c++l)/\((∃ r,R (.ret r) m'/\e = .ret (.agg [aI 0,aI 0]))\/∃ er p,R (.pan (jw er p)) m'/\e = .ret (.agg [aI er,aI p])):=by
 refine qY.of_awpD call136 func136 rfl (jo (by kernel_rfl)) (by kernel_rfl) (pl:={}) ?_;simp[go_sem];refine uU.intro (g:=184) (first:=[]) (caps:=[.ptr mu.length 0]) (by simp[go_sem]) call184 ?_;simp[go_sem];refine qb.eff (qY.hid (i:=mu.length) (c := .arr [aI 0,aI 0]) (by simp) (by simp) (by simpa using h)) ?_ ?_
 .rintro r m ⟨m',hR,hd,rfl⟩
  have hl:mu.length<m'.length:=(qk.1 hd).1;have hg:(m'.set mu.length (.arr [aI 0,aI 0]))[mu.length]?=some (.arr [aI 0,aI 0]):=zb hl;simp[go_sem,hg,hl];refine zW.mono (qcR _ mu.length (aI 0) (aI 0) hg) ?_;rintro _ rfl;simp[go_sem,hg,hl];exact⟨m',⟨_,[],(List.append_nil _).symm⟩,.inl ⟨r,hR⟩⟩
 .rintro r m ⟨m',hR,hd,rfl⟩
  obtain⟨e,p,rfl⟩:=hp _ _ hR;have hl:mu.length<m'.length:=(qk.1 hd).1;have hg:(m'.set mu.length (.arr [aI 0,aI 0]))[mu.length]?=some (.arr [aI 0,aI 0]):=zb hl;simp[go_sem];refine zW.mono (qcS _ mu.length (aI 0) (aI 0) e p hg) ?_;rintro _ ⟨c,rfl⟩;simp[go_sem,hg,hl];exact⟨m',⟨_,[c],rfl⟩,.inr hR⟩
end Y1
namespace Y2
open Y1
abbrev aT(t:List Int):AV := .agg (t.map fun x => .sc (.int .i8 x))
structure Kd where
 ar:Int
 ts:List (List Int)
abbrev mKd(ts:List (List Int)):AV := .ims (ts.map fun t=>(aT t,aB true))
abbrev cKd(k:Kd):List AV:=[aI k.ar,mKd k.ts]
abbrev eKd(k:Kd):AV := .agg (cKd k)
theorem Ux(t:List Int):HF (aT t):=HF.agg fun c hc=>by
 obtain⟨x,_,rfl⟩:=qs.1 hc;exact HF.sc _
theorem Yo(ts:List (List Int)):HF (mKd ts):=HF.ims fun p hp=>by
 obtain⟨t,_,rfl⟩:=qs.1 hp;exact⟨Ux t,HF.sc _⟩
theorem zH(k:Kd):HF (eKd k):=HF.agg fun c hc=>by
 simp at hc;rcases hc with rfl|rfl
 .exact HF.sc _
 .exact Yo _
theorem KU(n:Int):qi qd 260 [aI n] (eKd ⟨n,[]⟩):=by
 refine qSQ call260 func260 rfl {} ?_;simp[go_sem];exact Rd.aggs ⟨.hf _ (HF.sc _),Rd.mps (es:=[]) (fs:=[]) rfl (by simp) (by simp) (by simp) (by simp),trivial⟩
theorem vd{a b:ByteArray}(h:¬a=b):(a.toList == b.toList)=false:=by
 cases hq:(a.toList == b.toList) with
 |false=>rfl
 |true=>exact absurd (VS (by rw[beq_toListBytes];exact hq)) h
def aSc:List (ByteArray×Kd)->AV
 | [] => .sc (.pointer none)
 |v :: s => .ip [aS v.1,aI v.2.ar,mKd v.2.ts,aSc s]
@[go_sem] theorem aSc_cells(s:List (ByteArray×Kd)):(aSc s).cells=[aSc s]:=by cases s<;>rfl
@[go_sem] theorem aSc_one(s:List (ByteArray×Kd)):(aSc s).one=true:=by cases s<;>rfl
theorem uW:∀ s,HF (aSc s)
 | []=>HF.sc _
 |v :: s=>HF.ip fun c hc=>by
  simp only[qB,zr,or_false]at hc;rcases hc with rfl|rfl|rfl|rfl
  .exact HF.sc _
  .exact HF.sc _
  .exact Yo _
  .exact uW s
def yT(name:ByteArray):List (ByteArray×Kd)->List (ByteArray×Kd)
 | []=>[]
 |v :: s=>if v.1=name then v :: s else yT name s
theorem findU(s:List (ByteArray×Kd))(name:ByteArray):qi qd 257 [aSc s,aS name] (aSc (yT name s)):=by
 refine qSQ call257 func257 rfl {} ?_;simp[go_sem];refine ql.intro (fun n st=>∃ r,n=r.length/\yT name r=yT name s/\st.tm 0=aSc r/\st.tm 1=aS name/\st.mu=[]) s.length ⟨s,rfl,rfl,rfl,rfl,rfl⟩ ?_;rintro n st ⟨r,rfl,hr,h0,h1,hm⟩;cases r with
 |nil =>
  simp[go_sem,aSc,h0,h1,hm];rw[<-hr];exact .hf _ (HF.sc _)
 |cons v r =>
  by_cases hv:v.1=name
  .simp [go_sem,aSc,h0,h1,hm,hv]
   rw[<-hr,yT,if_pos hv];have:=uW (v :: r);simp only[aSc,hv]at this⊢;exact .hf _ this
  .simp [go_sem,aSc,h0,h1,hm,hv,vd hv]
   rw[yT,if_neg hv]at hr;exact⟨_,Nat.lt_succ_self _,r,rfl,hr,rfl⟩
end Y2
namespace Y3
open Y2
def pad(l:List Int):List Int:=[l.getD 0 0,l.getD 1 0,l.getD 2 0]
abbrev i8s(l:List Int):List AV:=l.map fun x => .sc (.int .i8 x)
theorem qcU(l:List Int)(k:Nat)(hk:k<l.length)(h3:l.length<=3):(i8s (pad (l.take k))).set k (.sc (.int .i8 l[k]))=i8s (pad (l.take (k+1))):=by
 match l,h3 with
 | [],_=>simp at hk
 | [a],_=>match k,hk with|0,_=>rfl
 | [a,b],_=>match k,hk with|0,_=>rfl|1,_=>rfl
 | [a,b,c],_=>match k,hk with|0,_=>rfl|1,_=>rfl|2,_=>rfl
 |a :: b :: c :: d :: l,h=>simp at h
theorem KV(l:List Int):(pad l).length=3:=rfl
theorem KW(l:List Int):(i8s (pad l)).take 3=i8s (pad l):=rfl
theorem wrap8{x:Int}(h:0<=x/\x<128):IntKind.i8.wrap x=x:=by
 simp[IntKind.wrap,IntKind.signed,IntKind.bits];omega
@[go_sem] theorem findA_nil(P:Program)(kt:TypeId)(k:AV)(i:Nat):zd P kt k [] i=some none:=eqS rfl
theorem ofU(l:List Int)(hl:l.length<=3)(hr:∀ x,x∈l->0<=x/\x<128):qi qd 240 [lI l] (eKd ⟨l.length,[pad l]⟩):=by
 refine qSQ call240 func240 rfl {} ?_;simp[go_sem];refine ql.up l.length (fun k st=>st.tm 0=lI l/\st.tm 2 = .ptr 0 0/\st.tm 3 = .ptr 1 0/\st.tm 6=lI l/\st.tm 7=aI l.length/\st.tm 8=aI k/\st.mu=[.arr [aI 0,.sc (.map none)],.arr (i8s (pad (l.take k)))]) ?_ ?_
 .simp [go_sem,pad]
  done
 .rintro k st hk ⟨h0,h2,h3,h6,h7,h8,hm⟩
  by_cases he:k=l.length
  .subst he
   simp[go_sem,h0,h2,h3,h6,h7,h8,hm,KV,KW];exact Rd.aggs ⟨.hf _ (HF.sc _),Rd.mps (es:=[(aT (pad l),aB true)]) (fs:=[(aT (pad l),aB true)]) rfl (by simp) (by simp) (by simp) (fun x hx=>by simp at hx;subst hx;exact⟨Ux _,HF.sc _⟩),trivial⟩
  .have hlt:k<l.length:=by omega
   have h3':(k:Int)<3:=by omega
   have hw:=wrap8 (hr l[k] (by simp));have hst:=qcU l k hlt hl;simp[go_sem,h0,h2,h3,h6,h7,h8,hm,hlt,h3',hw,KV,KW,show k<=2 by omega,hst];simp[IntKind.wrap,IntKind.signed,IntKind.bits];omega
end Y3
namespace Y4
open Y1
def KX(op:Int):Bool:=decide (op=5)||(decide (48<=op)&&decide (op<=51))
theorem vA(op:Int):qi qd 225 [aI op] (aB (KX op)):=by
 refine qSQ call225 func225 rfl {} ?_;unfold KX;by_cases h1:op=5<;>by_cases h2:48<=op<;>by_cases h3:op<=51<;>simp[go_sem,h1,h2,h3]<;>first|exact .hf _ (HF.sc _)|omega
theorem KY(n:Nd):qi qd 195 [eNd n] (aB (decide (30<=n.op))):=by
 refine qSQ call195 func195 rfl {} ?_;simp[go_sem];exact .hf _ (HF.sc _)
end Y4
namespace P1
open Y1 Y2 Y3
abbrev Tp:=List Int
structure Pd where
 name:ByteArray
 params:List (ByteArray×Int)
 body:Nd
structure TS where
 sorts:List (ByteArray×Bool)
 fields:List Fld
 preds:List Pd
 facts:List (ByteArray×Nd)
def ins(l:List Tp)(t:Tp):List Tp:=if t∈l then l else l++[t]
def uni(a b:List Tp):List Tp:=b.foldl ins a
theorem vQ{l:List Tp}{t x:Tp}:x∈ins l t↔x∈l\/x=t:=by
 unfold ins;split
 .exact ⟨.inl,fun h=>h.elim id fun e=>by rw[e];assumption⟩
 .simp
theorem ve{a b:List Tp}{x:Tp}:x∈uni a b↔x∈a\/x∈b:=by
 unfold uni;induction b generalizing a with
 |nil=>simp
 |cons t b ih =>
  rw[List.foldl_cons,ih,vQ,qB,or_assoc]
theorem Zw{l:List Tp}{t:Tp}(h:l.Nodup):(ins l t).Nodup:=by
 unfold ins;split
 .exact h
 .rename_i hn
  rw[jY];exact⟨h,by simp,fun x hx y hy e=>by simp at hy;subst hy;subst e;exact hn hx⟩
theorem ur{a b:List Tp}(h:a.Nodup):(uni a b).Nodup:=by
 unfold uni;induction b generalizing a with
 |nil=>exact h
 |cons t b ih=>exact ih (Zw h)
def kOf(l:List Int):Kd:=⟨l.length,[pad l]⟩
def kSum(a b:Kd):Kd:=⟨a.ar,uni (uni [] a.ts) b.ts⟩
def conc(x:Tp)(n:Nat)(y:Tp)(m skip:Nat):Tp:=pad (x.take (n-skip)++(y.take m).drop skip)
def pairs(a b:List Tp):List (Tp×Tp):=a.flatMap fun x=>b.map fun y=>(x,y)
theorem Zx{a b:List Tp}{x y:Tp}:(x,y)∈pairs a b↔x∈a/\y∈b:=by
 simp[pairs]
def vR(n m:Nat)(a b:List Tp):List Tp:=uni [] ((pairs a b).filterMap fun q=>if q.1.getD (n-1) 0=q.2.getD 0 0 then some (conc q.1 n q.2 m 1) else none)
def zA(a b:Kd):Kd:=⟨a.ar+b.ar-2,vR a.ar.toNat b.ar.toNat a.ts b.ts⟩
def Qg(n m:Nat)(a b:List Tp):List Tp:=uni [] ((pairs a b).map fun q=>conc q.1 n q.2 m 0)
def Qh(a b:Kd):Kd:=⟨a.ar+b.ar,Qg a.ar.toNat b.ar.toNat a.ts b.ts⟩
def cloN:Nat->Nat->Kd->Kd
 | 0,_,a=>a
 |f+1,n,a=>if n<a.ts.length then cloN f a.ts.length (kSum a (zA a a)) else a
def kClo(a:Kd):Kd:=cloN 70 0 a
def zn(ns ar:Nat):Kd:=⟨ar,(qq ns).map fun (i:Nat)=>pad (List.replicate ar (i:Int))⟩
def Uy(a b:Kd):Kd:=⟨a.ar,a.ts.filter fun t=>decide (t∈b.ts)⟩
def kTr(a:Kd):Kd:=⟨2,uni [] (a.ts.map fun t=>[t.getD 1 0,t.getD 0 0,0])⟩
def je:ByteArray:=⟨#[95,102,105,114,115,116]⟩
def vB:ByteArray:=⟨#[95,110,101,120,116]⟩
def yu(fs:List Fld)(nm:ByteArray):List Kd:=fs.filterMap fun f=>if f.name=nm then some (kOf f.sorts) else none
def uu(i:Nat)(s:ByteArray×Bool)(nm:ByteArray):List Kd:=
 (if s.1=nm then [kOf [(i:Int)]] else [])++((if s.2=true/\s.1++je=nm then [kOf [(i:Int)]] else [])++(if s.2=true/\s.1++vB=nm then [kOf [(i:Int),(i:Int)]] else []))
def yv:Nat->List (ByteArray×Bool)->ByteArray->List Kd
 |_,[],_=>[]
 |i,s :: r,nm=>uu i s nm++yv (i+1) r nm
def jN(ts:TS)(nm:ByteArray):List Kd:=yu ts.fields nm++yv 0 ts.sorts nm
structure Ck where
 ts:TS
 calls:Nat
 timed:List Bool
def zD(c:Ck)(nm:ByteArray):Option Nat:=(c.ts.preds.take c.calls).findIdx? fun p=>decide (p.name=nm)
def zX(op:Int):Bool:=decide (op=5)||decide (op=48)||decide (op=49)||decide (op=50)||decide (op=51)
def yw(c:Ck)(op:Int)(nm:ByteArray):Bool:=zX op||(decide (op=47)&&(match zD c nm with|some p=>c.timed.getD p false|none=>false))
mutual
def yh(c:Ck):Nd->Bool
 | .mk op nm n ks p=>yw c op nm||JQ c ks
def JQ(c:Ck):List Nd->Bool
 | []=>false
 |k :: ks=>yh c k||JQ c ks
end
def tmsL(ts:TS):Nat->List Bool
 | 0=>[]
 |k+1=>tmsL ts k++(match ts.preds[k]? with|some p=>[yh ⟨ts,k,tmsL ts k⟩ p.body] | none=>[])
def mkCk(ts:TS)(calls:Nat):Ck:=⟨ts,calls,tmsL ts calls⟩
abbrev Scp:=List (ByteArray×Kd)
abbrev Dg:=Int×Int
abbrev Res:=Except Dg (Option Kd)
def yU(c:Ck)(s:Scp)(nm:ByteArray)(pos:Int):Res:=
 match yT nm s with
 |v :: _ => .ok (some v.2)
 | []=>match jN c.ts nm with
  | [] => .error (40,pos)
  | [k] => .ok (some k)
  |_ => .error (44,pos)
def uX(op:Int)(a b:Kd):Kd:=if op=6\/op=14 then kSum a b else if op=7 then Uy a b else a
def binK(ns:Nat)(op:Int)(a:Kd):Kd:=if op=12 then kClo a else if op=13 then kSum (kClo a) (zn ns 2) else kTr a
def yf(ns:Nat)(op n pos:Int)(l:List (Option Kd)):Res:=
 if op=2 then .ok (some ⟨n,[]⟩)
 else if op=3 then .ok (some (zn ns 1))
 else if op=4 then .ok (some (zn ns 2))
 else match l with
  | [a]=>if op=5 then .ok a else match a with
   |some a=>if op=11\/op=12\/op=13 then (if a.ar=2 then .ok (some (binK ns op a)) else .error (42,pos)) else .ok none
   |none => .ok none
  | [some a,some b] =>
   if op=6\/op=14\/op=7\/op=8\/op=32\/op=33 then (if a.ar=b.ar then .ok (some (uX op a b)) else .error (42,pos))
   else if op=9 then (if 1<=a.ar+b.ar-2/\a.ar+b.ar-2<=3 then .ok (some (zA a b)) else .error (42,pos))
   else if op=10 then (if a.ar+b.ar<=3 then .ok (some (Qh a b)) else .error (42,pos))
   else .ok none
  |_ => .ok none
def vS(i:Int)(k:Kd):Bool:=k.ts.all fun t=>decide (t.getD 0 0=i)
mutual
def exam(c:Ck)(s:Scp)(inn:Bool):Nd->Res
 | .mk op nm n ks pos =>
  if (inn&&yw c op nm)=true then .error (46,pos)
  else if op=1 then yU c s nm pos
  else if op=47 then
   if (c.ts.preds.any fun p=>decide (p.name=nm))=true then
    match zD c nm with
    |none => .error (45,pos)
    |some p=>match c.ts.preds[p]? with
     |none => .error (45,pos)
     |some pd=>if pd.params.length=ks.length then zP c s pos pd.params ks else .error (45,pos)
   else .error (40,pos)
  else if op=15\/op=45\/op=46 then yG c s (inn||decide (op=15)) nm pos ks
  else match zo c s (inn||decide (op=12)||decide (op=13)) ks with
   | .error e => .error e
   | .ok l=>yf c.ts.sorts.length op n pos l
def zo(c:Ck)(s:Scp)(inn:Bool):List Nd->Except Dg (List (Option Kd))
 | [] => .ok []
 |k :: ks=>match exam c s inn k with
  | .error e => .error e
  | .ok a=>match zo c s inn ks with
   | .error e => .error e
   | .ok l => .ok (a :: l)
def zP(c:Ck)(s:Scp)(pos:Int):List (ByteArray×Int)->List Nd->Res
 |_,[] => .ok none
 | [],_ => .ok none
 |p :: ps,k :: ks=>match exam c s true k with
  | .error e => .error e
  | .ok none => .error (42,pos)
  | .ok (some a)=>if a.ar=1 then (if vS p.2 a=true then zP c s pos ps ks else .error (43,pos)) else .error (42,pos)
def yG(c:Ck)(s:Scp)(inn:Bool)(nm:ByteArray)(pos:Int):List Nd->Res
 | [] => .ok none
 |k :: ks=>match exam c s inn k with
  | .error e => .error e
  | .ok none => .error (42,pos)
  | .ok (some a)=>if a.ar=1 then (match zo c ((nm,a) :: s) inn ks with
    | .error e => .error e
    | .ok _ => .ok (some a)) else .error (42,pos)
end
def y5(env:List (ByteArray×Int)):Scp:=env.foldl (fun s p=>(p.1,kOf [p.2]) :: s) []
def dgOf:Res->Dg
 | .ok _=>(0,0)
 | .error e=>e
def jx(c:Ck)(env:List (ByteArray×Int))(n:Nd):Dg:=if 30<=n.op then dgOf (exam c (y5 env) false n) else (43,n.pos)
def jO(ts:TS)(env:List (ByteArray×Int))(n:Nd):Dg:=jx (mkCk ts ts.preds.length) env n
end P1
end Go.Proofs.YtkglmpmlfjogkaaGreatDoor
namespace Go.Ev
open Go
structure KeyT (P:Program) (kt:TypeId) {κ:Type} [DecidableEq κ] (kenc:κ->AV) (ok:κ->Prop):Prop where
 eq:∀ a b,ok a->ok b->jc P kt (kenc a) (kenc b)=some (decide (a=b))
 kok:∀ a,ok a->yR P kt (kenc a)=true
section
variable {κ α:Type} [DecidableEq κ]
def jy(k:κ):List (κ×α)->Nat->Option Nat
 | [],_=>none
 |e :: es,i=>if k=e.1 then some i else jy k es (i+1)
def getK(k:κ):List (κ×α)->Option α
 | []=>none
 |e :: es=>if k=e.1 then some e.2 else getK k es
def setK(k:κ)(v:α):List (κ×α)->List (κ×α)
 | []=>[(k,v)]
 |e :: es=>if k=e.1 then (k,v) :: es else e :: setK k v es
theorem Uz{k:κ}:∀{es:List (κ×α)} {i:Nat} {j:Nat},jy k es i=some j->∃ n v,j=i+n/\es[n]?=some (k,v)/\getK k es=some v
 | [],_,_,h=>by simp[jy]at h
 |e :: es,i,j,h=>by
  unfold jy at h;unfold getK;split at h
  .rename_i hk
   subst hk;simp only[qn]at h;subst h;exact⟨0,e.2,rfl,rfl,by simp⟩
  .rename_i hk
   obtain⟨n,v,rfl,h1,h2⟩:=Uz h;exact⟨n+1,v,by omega,by simpa using h1,by rw[if_neg hk];exact h2⟩
theorem UA{k:κ}:∀{es:List (κ×α)} {i:Nat},jy k es i=none->getK k es=none/\∀ v,setK k v es=es++[(k,v)]
 | [],_,_=>⟨rfl,fun _=>rfl⟩
 |e :: es,i,h=>by
  unfold jy at h;split at h
  .exact absurd h (by simp)
  .rename_i hk
   obtain⟨h1,h2⟩:=UA h;refine⟨by unfold getK;rw[if_neg hk];exact h1,fun v=>?_⟩;simp only[setK,if_neg hk,h2 v,yB]
theorem KZ{k:κ}{v:α}:∀{es:List (κ×α)} {i n:Nat},jy k es i=some (i+n)->setK k v es=es.set n (k,v)
 | [],_,_,h=>by simp[jy]at h
 |e :: es,i,n,h=>by
  unfold jy at h;split at h
  .rename_i hk
   have:n=0:=by simp only[qn]at h;omega
   subst this;simp[setK,hk]
  .rename_i hk
   obtain⟨m,v',hm,_⟩:=Uz h;have:n=m+1:=by omega
   subst this;have h':jy k es (i+1)=some (i+1+m):=by rw[h,Nat.add_assoc,Nat.add_comm 1 m]
   simp only[setK,if_neg hk,KZ (v:=v) h',List.set_cons_succ]
theorem K0{k:κ}{v:α}:∀{es:List (κ×α)} {x:κ},x∈(setK k v es).map Prod.fst↔x=k\/x∈es.map Prod.fst
 | [],x=>by simp[setK]
 |e :: es,x=>by
  unfold setK;split
  .rename_i hk;subst hk;simp
  .simp only[yd,qB,K0]
   constructor
   .rintro (h|h|h)
    .exact .inr (.inl h)
    .exact .inl h
    .exact .inr (.inr h)
   .rintro (h|h|h)
    .exact .inr (.inl h)
    .exact .inl h
    .exact .inr (.inr h)
theorem K1{k:κ}{v:α}:∀{es:List (κ×α)},(es.map Prod.fst).Nodup->((setK k v es).map Prod.fst).Nodup
 | [],_=>by simp[setK]
 |e :: es,h=>by
  unfold setK;split
  .rename_i hk;subst hk;simpa using h
  .rename_i hk
   rw[yd,jS]at h⊢;exact⟨fun hm=>(K0.1 hm).elim (fun e=>hk e.symm) h.1,K1 h.2⟩
theorem Qi{k x:κ}{v:α}:∀{es:List (κ×α)},getK x (setK k v es)=if x=k then some v else getK x es
 | []=>by simp[setK,getK]
 |e :: es=>by
  unfold setK;split
  .rename_i hk
   subst hk;by_cases hx:x=e.1
   .simp [getK,hx]
   .simp [getK,hx]
  .rename_i hk
   by_cases hx:x=e.1
   .have:x≠k:=fun h=>hk (by rw[<-h,hx])
    rw[if_neg this];simp[getK,hx]
   .simp only[getK,if_neg hx,Qi]
theorem UB{k:κ}{v:α}:∀{es:List (κ×α)},(es.map Prod.fst).Nodup->(getK k es=some v↔(k,v)∈es)
 | [],_=>by simp[getK]
 |e :: es,h=>by
  rw[yd,jS]at h;unfold getK;by_cases hk:k=e.1
  .rw [if_pos hk]
   subst hk;refine⟨fun h=>?_,fun hm=>?_⟩
   .cases h;exact List.mem_cons_self
   .rcases qB.1 hm with h1|h1
    .rw [<-h1]
    .exact absurd (qs.2 ⟨_,h1,rfl⟩) h.1
  .rw [if_neg hk,UB h.2,qB]
   exact⟨.inr,fun h=>h.elim (fun e=>absurd (congrArg Prod.fst e) hk) id⟩
def delK(k:κ):List (κ×α)->List (κ×α)
 | []=>[]
 |e :: es=>if k=e.1 then es else e :: delK k es
abbrev encK(kenc:κ->AV)(venc:α->AV)(es:List (κ×α)):List (AV×AV):=es.map fun e=>(kenc e.1,venc e.2)
variable {P:Program} {kt:TypeId} {kenc:κ->AV} {ok:κ->Prop} {venc:α->AV}
theorem KeyT.find(h:KeyT P kt kenc ok){k:κ}(hk:ok k):∀{es:List (κ×α)} {i:Nat},(∀ e,e∈es->ok e.1)->zd P kt (kenc k) (encK kenc venc es) i=some (jy k es i)
 | [],i,_=>rfl
 |e :: es,i,ho=>by
  simp only[encK,yd,zd,h.eq k e.1 hk (ho e (by simp)),jy];by_cases hx:k=e.1
  .simp [hx]
  .simp only[hx,decide_false,if_false]
   exact KeyT.find h hk (fun e he=>ho e (by simp[he]))
theorem KeyT.update(h:KeyT P kt kenc ok){et:TypeId}{t:TypeId}(ht:mapT P t=some (kt,et)){mu:Mu}{b:Nat}{es:List (κ×α)}(hm:mu[b]?=some (.mp (encK kenc venc es))){k:κ}{v:α}(hk:ok k)(ho:∀ e,e∈es->ok e.1) :
  vw P mu t (.mp b) (kenc k) (venc v)=some (mu.set b (.mp (encK kenc venc (setK k v es)))):=by
 simp only[vw,ht,hm,h.kok k hk,if_true,h.find (venc:=venc) hk ho,q8];cases hp:jy k es 0 with
 |none=>simp only[Jw,(UA hp).2 v,encK,zm,yd,List.map_nil]
 |some j =>
  have h0:jy k es 0=some (0+j):=by rw[hp,yC]
  simp only[Jw,KZ (v:=v) h0,encK,List.map_set]
theorem KeyT.look(h:KeyT P kt kenc ok){et:TypeId}{t:TypeId}(ht:mapT P t=some (kt,et)){mu:Mu}{m:AV}{es:List (κ×α)}(hm:js mu m=some (encK kenc venc es)){k:κ}(hk:ok k)(ho:∀ e,e∈es->ok e.1){z:AV}(hz:qz P et=some z)(b:Bool) :
  yS P mu t m (kenc k) b=some (match getK k es with|some v=>if b then .tup [venc v,.sc (.bool true)] else venc v|none=>if b then .tup [z,.sc (.bool false)] else z):=by
 simp only[yS,ht,hm,h.kok k hk,if_true,h.find (venc:=venc) hk ho];cases hp:jy k es 0 with
 |none=>simp only[(UA hp).1,hz,q8]
 |some j =>
  obtain⟨n,v,hj,h1,h2⟩:=Uz hp;rw[yC]at hj;subst hj;simp only[h2,encK,zk,h1,q8]
theorem KeyT.lookS(h:KeyT P kt kenc ok){et:TypeId}{t:TypeId}(ht:mapT P t=some (kt,et)){mu:Mu}{es:List (κ×α)}{k:κ}(hk:ok k)(ho:∀ e,e∈es->ok e.1){z:AV}(hz:qz P et=some z)(b:Bool) :
  z7 P mu t (.ims (encK kenc venc es)) (kenc k) b=some (match getK k es with|some v=>if b then .tup [venc v,.sc (.bool true)] else venc v|none=>if b then .tup [z,.sc (.bool false)] else z):=by
 have ha:(encK kenc venc es).all (fun e=>yR P kt e.1)=true:=qy.2 fun e he=>by
  obtain⟨x,hx,rfl⟩:=qs.1 he;exact h.kok _ (ho x hx)
 simp only[z7,ht,ha,if_true];exact h.look ht (m := .im _) rfl hk ho hz b
end
def JR(n:Nat)(J:List Nat->St->Prop)(seen:List Nat)(Q:qZ->St->Prop):qZ->St->Prop
 | .normal,st=>∃ i,i<n/\i ∉ seen/\Keep (J (seen++[i])) .mk st
 |e,st=>Q e st
section
variable (n:Nat) (J:List Nat->St->Prop) (seen:List Nat) (Q:qZ->St->Prop) (st:St)
@[go_sem ↓] theorem qm0:JR n J seen Q .normal st=∃ i,i<n/\i ∉ seen/\Keep (J (seen++[i])) .mk st:=eqS rfl
@[go_sem ↓] theorem qm1(i:Nat):JR n J seen Q (.exit i) st=Q (.exit i) st:=eqS rfl
@[go_sem ↓] theorem seenQ_pan(v:AV):JR n J seen Q (.pan v) st=Q (.pan v) st:=eqS rfl
end
theorem UC:∀(n:Nat) (l:List Nat),l.Nodup->(∀ i,i∈l->i<n)->l.length<=n
 | 0,l,_,h=>by
  cases l with
  |nil=>simp
  |cons a l=>exact absurd (h a (by simp)) (by omega)
 |n+1,l,hn,h=>by
  have ih:=UC n (l.erase n) (hn.erase n) (fun i hi=>by
   have h1:=h i (List.mem_of_mem_erase hi);have h2:i≠n:=fun e=>by
    subst e;exact(List.Nodup.not_mem_erase hn) hi
   omega)
  by_cases hm:n∈l
  .rw [List.length_erase_of_mem hm]at ih;omega
  .rw [List.erase_of_not_mem hm]at ih;omega
theorem qcV{n i:Nat}{seen:List Nat}(hn:seen.Nodup)(hl:∀ j,j∈seen->j<n)(hi:i<n)(hs:i ∉ seen):(seen++[i]).Nodup/\(∀ j,j∈seen++[i]->j<n)/\n-(seen++[i]).length<n-seen.length:=by
 have h1:(seen++[i]).Nodup:=by
  rw[jY];refine⟨hn,by simp,fun x hx y hy=>?_⟩;rw[qW]at hy;subst hy;exact fun e=>hs (e ▸ hx)
 have h2:∀ j,j∈seen++[i]->j<n:=by
  intro j hj;rcases qT.1 hj with h|h
  .exact hl j h
  .rw [qW]at h;omega
 refine⟨h1,h2,?_⟩;have:=UC n _ h1 h2;simp at this⊢;omega
theorem ql.seen{P:Program}{pl:Pol}{body:Code}{Q:qZ->St->Prop}{st:St}(n:Nat)(J:List Nat->St->Prop)(h0:J [] st)(h:∀ seen st,seen.Nodup->(∀ i,i∈seen->i<n)->J seen st->awp P pl body (JR n J seen Q) st):ql P pl body Q st:=by
 refine ql.intro (fun m st=>∃ seen,m=n-seen.length/\seen.Nodup/\(∀ i,i∈seen->i<n)/\J seen st) n ⟨[],by simp,by simp,by simp,h0⟩ ?_;rintro m st ⟨seen,rfl,hn,hl,hJ⟩;refine awp.mono body (h seen st hn hl hJ) (fun e st he=>?_);cases e with
 |normal =>
  obtain⟨i,hi,hs,hk⟩:=he;obtain⟨h1,h2,h3⟩:=qcV hn hl hi hs;exact⟨_,h3,seen++[i],rfl,h1,h2,hk⟩
 |exit i=>exact he
 |ret=>exact he
 |pan v=>exact he
theorem ql.upK{P:Program}{pl:Pol}{body:Code}{Q:qZ->St->Prop}{st:St}(N:Nat)(I:Nat->St->Prop)(h0:I 0 st)(h:∀ k st,k<=N->I k st->awp P pl body (upQ (fun k=>Keep (I k) .mk) N k Q) st):ql P pl body Q st:=
 ql.up N (fun k=>Keep (I k) .mk) h0 h
theorem Keep.mk'{p:St->Prop}{st:St}(h:p st):Keep p .mk st:=h
theorem qcW{m:Mu}{a:Cell}(g0:m[0]?=some a):∃ rest,m=a :: rest:=by
 match m,g0 with
 |a :: rest,g0=>simp at g0;subst g0;exact⟨rest,rfl⟩
end Go.Ev
namespace Go.Proofs.YtkglmpmlfjogkaaGreatDoor
open Go Go.Ev Go.Proofs Tryz
namespace YM
open Y1 Y2 Y3 P1
def okT(t:Tp):Prop:=t.length=3
theorem K2:∀(a b:List Int),a.length=b.length->aEqs (i8s a) (i8s b)=some (decide (a=b))
 | [],[],_=>rfl
 |x :: a,y :: b,h=>by
  have ih:=K2 a b (by simpa using h);simp only[i8s,yd,aEqs]at ih⊢;simp only[ih];by_cases hx:x=y<;>simp[hx]
 | [],_ :: _,h=>by simp at h
 |_ :: _,[],h=>by simp at h
theorem keyT:KeyT qd 303 aT okT:=by
 refine⟨fun a b ha hb=>?_,fun a ha=>?_⟩
 .unfold okT at ha hb
  rw[<-K2 a b (by omega)];simp[go_sem,ha,hb]
 .unfold okT at ha
  simp[go_sem,ha]
theorem keyS:KeyT qd 9 aS (fun _=>True):=by
 refine⟨fun a b _ _=>?_,fun a _=>by simp[go_sem]⟩;simp[go_sem];by_cases h:a=b
 .subst h
  rw[decide_eq_true rfl];have:(a.data == a.data)=true:=beq_self_eq_true _;exact this
 .rw [decide_eq_false h]
  cases hq:(a == b) with
  |false=>rfl
  |true=>exact absurd (VS hq) h
abbrev eT(l:List Tp):List (AV×AV):=l.map fun t=>(aT t,aB true)
theorem UD(l:List Tp):eT l=encK aT aB (l.map fun t=>(t,true)):=by simp[eT,encK]
theorem qcX(l:List Tp)(t:Tp):setK t true (l.map fun t=>(t,true))=(ins l t).map fun t=>(t,true):=by
 unfold ins;induction l with
 |nil=>simp[setK]
 |cons x l ih =>
  by_cases h:t=x
  .subst h;simp[setK]
  .simp only[yd,setK,h,if_false,ih,qB,false_or]
   split<;>simp
theorem updT{mu:Mu}{b:Nat}{l:List Tp}(hm:mu[b]?=some (.mp (eT l))){t:Tp}(ht:okT t)(hl:∀ x,x∈l->okT x) :
  vw qd mu 249 (.mp b) (aT t) (aB true)=some (mu.set b (.mp (eT (ins l t)))):=by
 have:=keyT.update (et:=4) (t:=249) (by simp[go_sem]) (mu:=mu) (b:=b) (venc:=aB) (es:=l.map fun t=>(t,true)) (by rw[hm,UD]) (k:=t) (v:=true) ht (fun e he=>by
  obtain⟨x,hx,rfl⟩:=qs.1 he;exact hl x hx)
 rw[this,qcX,<-UD]
theorem qcY(l:List Tp)(t:Tp):getK t (l.map fun t=>(t,true))=if t∈l then some true else none:=by
 induction l with
 |nil=>rfl
 |cons x l ih =>
  by_cases h:t=x
  .subst h;simp[getK]
  .simp only[yd,getK,h,if_false,ih,qB,false_or]
theorem lookT{mu:Mu}{l:List Tp}{t:Tp}(ht:okT t)(hl:∀ x,x∈l->okT x) :
  z7 qd mu 249 (.ims (eT l)) (aT t) false=some (aB (decide (t∈l))):=by
 have:=keyT.lookS (et:=4) (t:=249) (by simp[go_sem]) (mu:=mu) (venc:=aB) (es:=l.map fun t=>(t,true)) (k:=t) ht (fun e he=>by
  obtain⟨x,hx,rfl⟩:=qs.1 he;exact hl x hx) (z:=aB false) (by simp[go_sem]) false
 rw[UD,this,qcY];by_cases h:t∈l<;>simp[h]
end YM
namespace Y5
open Y2 Y3 P1 YM
theorem Qj{l:List Tp}{i:Nat}{e:AV×AV}(h:(eT l)[i]?=some e):∃ x,l[i]?=some x/\e=(aT x,aB true):=by
 rw[zk,Option.map_eq_some_iff]at h;obtain⟨x,hx,rfl⟩:=h;exact⟨x,hx,rfl⟩
theorem K3(a b:Kd)(g:FuncId)(caps:List AV)(mu:Mu)(I:(Tp->Tp->Prop)->Mu->Prop)(h0:I (fun _ _=>False) mu)
  (hS:∀ S mu1 mu2,(∀ i,i<mu.length->mu2[i]?=mu1[i]?)->I S mu1->I S mu2) (ha:∀ x,x∈a.ts->okT x) (hb:∀ x,x∈b.ts->okT x)
  (hf:∀ S x y mu1,x∈a.ts->y∈b.ts->mu.length<=mu1.length->I S mu1->qY qd g ([aT x,aT y]++caps) mu1 fun e m=>e = .ret (.tup [])/\I (fun u v=>S u v\/(u=x/\v=y)) m/\mu1.length<=m.length/\∀ i,mu.length<=i->i<mu1.length->m[i]?=mu1[i]?) :
  qY qd 272 [eKd a,eKd b,.fn (.func g) [] caps] mu fun e m=>e = .ret (.tup [])/\I (fun u v=>u∈a.ts/\v∈b.ts) m/\mu.length<=m.length:=by
 refine qSW call272 func272 rfl {} ?_;simp[go_sem];refine ql.seen a.ts.length (fun seen st=>st.tm 2 = .fn (.func g) [] caps/\st.tm 4 = .ip (cKd b)/\st.tm 10 = .ptr mu.length 0/\mu.length<st.mu.length/\st.mu[mu.length]?=some (.it (eT a.ts) seen)/\I (fun u v=>(∃ i,i∈seen/\a.ts[i]?=some u)/\v∈b.ts) st.mu) ?_ ?_
 .simp [go_sem]
  exact hS _ mu _ (fun i hi=>qp hi) h0
 .rintro seen st hnd hlt ⟨e2,e4,e10,hl,hit,hI⟩
  simp[go_sem,e2,e4,e10];refine⟨mu.length,eT a.ts,seen,rfl,hit,fun i e hi hns=>?_,fun hall=>?_⟩
  .obtain ⟨x,hx,rfl⟩:=Qj hi
   have hxm:x∈a.ts:=qS hx;have hx3:x.length=3:=ha x hxm;have hil:i<a.ts.length:=(qk.1 hx).1;obtain⟨x0,x1,x2,rfl⟩:∃ x0 x1 x2,x=[x0,x1,x2]:=by
    match x,hx3 with
    | [x0,x1,x2],_=>exact⟨_,_,_,rfl⟩
   have hme:∀(k:Nat) (c:Cell),k<mu.length->(st.mu.set mu.length c)[k]?=st.mu[k]?:=fun k c hk=>qK (by omega)
   have hse:(st.mu.set mu.length (.it (eT a.ts) (seen++[i])))[mu.length]?=some (.it (eT a.ts) (seen++[i])):=zb hl;simp[go_sem,e2,e4,e10,hit,hi,hl,hns];refine ql.seen b.ts.length (fun sb st'=>st'.tm 2 = .fn (.func g) [] caps/\st'.tm 4 = .ip (cKd b)/\st'.tm 10 = .ptr mu.length 0/\st'.tm 6 = .ptr st.mu.length 0/\st'.tm 17 = .ptr (st.mu.length+1) 0/\st.mu.length+1<st'.mu.length /\
    st'.mu[mu.length]?=some (.it (eT a.ts) (seen++[i]))/\st'.mu[st.mu.length]?=some (.arr (i8s [x0,x1,x2]))/\st'.mu[st.mu.length+1]?=some (.it (eT b.ts) sb) /\
    I (fun u v=>((∃ i,i∈seen/\a.ts[i]?=some u)/\v∈b.ts)\/(u=[x0,x1,x2]/\∃ j,j∈sb/\b.ts[j]?=some v)) st'.mu) ?_ ?_
   .simp [go_sem,e2,e4,e10,hse,hl]
    refine⟨by rw[qp (by simpa using hl)];exact hse,hS _ st.mu _ (fun k hk=>?_) hI⟩;rw[qp (by simp;omega),hme k _ hk]
   .rintro sb st' hndb hltb ⟨f2,f4,f10,f6,f17,hl',g1,g2,g3,hI'⟩
    simp[go_sem,f2,f4,f10,f6,f17];refine⟨st.mu.length+1,eT b.ts,sb,rfl,g3,fun j e hj hnj=>?_,fun hallb=>?_⟩
    .obtain ⟨y,hy,rfl⟩:=Qj hj
     have hym:y∈b.ts:=qS hy;have hy3:y.length=3:=hb y hym;have hjl:j<b.ts.length:=(qk.1 hy).1;obtain⟨y0,y1,y2,rfl⟩:∃ y0 y1 y2,y=[y0,y1,y2]:=by
      match y,hy3 with
      | [y0,y1,y2],_=>exact⟨_,_,_,rfl⟩
     have hget:∀(c:Cell) (l:List Cell) (k:Nat),k<st'.mu.length->k≠st.mu.length+1->((st'.mu.set (st.mu.length+1) c)++l)[k]?=st'.mu[k]?:=fun c l k h1 h2=>by
      rw[qp (by simpa using h1),qK (by omega)]
     have hx1:=fun c l=>(hget c l st.mu.length (by omega) (by omega)).trans g2
     simp[go_sem,f2,f4,f10,f6,f17,hj,hl',hnj,g2,g3,hx1];refine qb.eff (hf _ [x0,x1,x2] [y0,y1,y2] _ hxm hym ?_ (hS _ st'.mu _ (fun k hk=>hget _ _ k (by omega) (by omega)) hI')) ?_ ?_
     .simp;omega
     .rintro r m ⟨e,hI2,hml,hmk⟩
      cases e;simp only[List.length_append,List.length_set,z6,List.length_nil]at hml hmk;simp[go_sem];refine⟨j,hjl,hnj,?_⟩;simp[Keep,go_sem,f2,f4,f10,f6,f17];refine⟨by omega,?_,?_,?_,?_⟩
      .rw [hmk _ (by omega) (by omega),hget _ _ _ (by omega) (by omega),g1]
      .rw [hmk _ (by omega) (by omega),hget _ _ _ (by omega) (by omega)];exact g2
      .rw [hmk _ (by omega) (by omega),qp (by simpa using hl'),zb hl']
      .refine cast (congrArg (fun S=>I S m) ?_) hI2
       funext u v;refine propext ⟨?_,?_⟩
       .rintro ((h|⟨rfl,k,hk,hv⟩)|⟨rfl,rfl⟩)
        .exact .inl h
        .exact .inr ⟨rfl,.inl ⟨k,hk,hv⟩⟩
        .exact .inr ⟨rfl,.inr hy⟩
       .rintro (h|⟨rfl,⟨k,hk,hv⟩|hv⟩)
        .exact .inl (.inl h)
        .exact .inl (.inr ⟨rfl,k,hk,hv⟩)
        .rw [hy]at hv;cases hv
         exact .inr ⟨rfl,rfl⟩
     .rintro r m ⟨e,_⟩;cases e
    .simp [go_sem]
     refine⟨i,hil,hns,?_⟩;simp[Keep,go_sem,f2,f4,f10];refine⟨by omega,g1,cast (congrArg (fun S=>I S st'.mu) ?_) hI'⟩;funext u v;refine propext ⟨?_,?_⟩
     .rintro (⟨⟨k,hk,hu⟩,hv⟩|⟨rfl,k,hk,hv⟩)
      .exact ⟨.inl ⟨k,hk,hu⟩,hv⟩
      .exact ⟨.inr hx,qS hv⟩
     .rintro ⟨⟨k,hk,hu⟩|hu,hv⟩
      .exact .inl ⟨⟨k,hk,hu⟩,hv⟩
      .rw [hx]at hu;cases hu
       obtain⟨j,hj⟩:=List.mem_iff_getElem?.1 hv;exact .inr ⟨rfl,j,hallb j (by simpa using (qk.1 hj).1),hj⟩
  .simp [go_sem]
   refine⟨cast (congrArg (fun S=>I S st.mu) ?_) hI,by omega⟩;funext u v;refine propext ⟨?_,?_⟩
   .rintro ⟨⟨k,hk,hu⟩,hv⟩
    exact⟨qS hu,hv⟩
   .rintro ⟨hu,hv⟩
    obtain⟨k,hk⟩:=List.mem_iff_getElem?.1 hu;exact⟨⟨k,hall k (by simpa using (qk.1 hk).1),hk⟩,hv⟩
end Y5
namespace Y6
open Y2 Y3 P1 YM Y5
abbrev r8(x:Int):List AV:=[.sc (.int .i8 x)]
theorem wG(xs:List Int):zh 1 (xs.map r8):=fun r hr=>by
 obtain⟨n,_,rfl⟩:=qs.1 hr;exact⟨rfl,rfl⟩
theorem qcZ(full:Bool)(xs:List Int)(hx:xs.length<=1000)(mu:Mu):qY qd 279 [.lst full (xs.map r8)] mu fun e m=>∃ av,e = .ret av/\OwnF mu.length m 1 av (xs.map r8)/\∀ i,i<mu.length->m[i]?=mu[i]?:=by
 refine qSW call279 func279 rfl {} ?_;cases xs with
 |nil =>
  simp[go_sem];refine⟨OwnF.nil (qr _),?_⟩;refine qF.ownF (lo:=mu.length) (e:=301) (sz:=1) (bt:=1) (zv := .sc (.int .i8 0)) (xs:=[]) (ys:=[]) (by simp[go_sem]) (by simp[go_sem]) (by simp[go_sem]) rfl rfl (by omega) (by omega) (OwnF.nil (qr _)) (by simp[qG]) (wG []) (wG []) (by simp) ?_;intro av mu' ho hk;simp[go_sem];exact⟨ho,hk⟩
 |cons x xs =>
  simp[go_sem];refine qF.ownF (lo:=mu.length) (e:=301) (sz:=1) (bt:=1) (zv := .sc (.int .i8 0)) (xs:=[]) (ys:=(x :: xs).map r8) (by simp[go_sem]) (by simp[go_sem]) (by simp[go_sem]) rfl rfl (by omega) (by omega) (OwnF.nil (qr _)) (by simp[qG]) (wG []) (wG _) (by simpa using (by simp at hx;omega)) ?_;intro av mu' ho hk;simp[go_sem];exact⟨ho,hk⟩
theorem put3(zs:List Int):putCells [.sc (.int .i8 0),.sc (.int .i8 0),.sc (.int .i8 0)] 0 ((zs.map r8).take 3).flatten=i8s (pad zs):=by
 match zs with
 | []=>rfl
 | [a]=>rfl
 | [a,b]=>rfl
 |a :: b :: c :: l=>simp[putCells,pad]
theorem K4(x y:Tp)(n m s:Nat)(hx:okT x)(hy:okT y)(hn:s<=n)(hn3:n-s<=3)(hm:s<=m)(hm3:m<=3)(hs:s<=1):qi qd 274 [aT x,aI n,aT y,aI m,aI s] (aT (conc x n y m s)):=by
 unfold okT at hx hy;refine qSQ call274 func274 rfl {} ?_;obtain⟨x0,x1,x2,rfl⟩:∃ x0 x1 x2,x=[x0,x1,x2]:=by
  match x,hx with
  | [x0,x1,x2],_=>exact⟨_,_,_,rfl⟩
 obtain⟨y0,y1,y2,rfl⟩:∃ y0 y1 y2,y=[y0,y1,y2]:=by
  match y,hy with
  | [y0,y1,y2],_=>exact⟨_,_,_,rfl⟩
 obtain⟨d,rfl⟩:∃ d,n=d+s:=⟨n-s,by omega⟩;have hd:d+s-s=d:=by omega
 rw[hd]at hn3;simp[go_sem];refine qe.float [] [0,1,2,3,4,6,7,8] [(5,false),(9,false),(10,false)] (by kernel_rfl) (by kernel_rfl) (by kernel_rfl) ?_;have w1:qj.wrap (d:Int)=(d:Int):=qg (by omega) (by omega);have hfx:(List.take d [[AV.sc (.int .i8 x0)],[.sc (.int .i8 x1)],[.sc (.int .i8 x2)]])=([x0,x1,x2].take d).map r8:=by rw[List.map_take];rfl
 have hfy:(List.drop s (List.take m [[AV.sc (.int .i8 y0)],[.sc (.int .i8 y1)],[.sc (.int .i8 y2)]]))=(([y0,y1,y2].take m).drop s).map r8:=by rw[List.map_drop,List.map_take];rfl
 have h3:((d:Int)<=3):=by omega
 have h4:((m:Int)<=3):=by omega
 have h5:((s:Int)<=m):=by omega
 have h6:((s:Int)<3):=by omega
 simp[go_sem,w1,h3,h4,h5,h6];rw[hfx];refine qb.eff0 (qcZ _ ([x0,x1,x2].take d) (by simp;omega) _) ?_ ?_
 .rintro r mm ⟨av,e,ho,hk⟩
  cases e;simp[go_sem];rw[hfy];refine qF.ownF (lo:=2) (e:=301) (sz:=1) (bt:=1) (zv := .sc (.int .i8 0)) (xs:=([x0,x1,x2].take d).map r8) (ys:=(([y0,y1,y2].take m).drop s).map r8) (by simp[go_sem]) (by simp[go_sem]) (by simp[go_sem]) rfl rfl (by omega) (by omega) ho (by simp[qG]) (wG _) (wG _) (by simp;omega) ?_;intro av m2 ho2 hk2;simp[go_sem];have g0:m2[0]?=some (.arr [.sc (.int .i8 0),.sc (.int .i8 0),.sc (.int .i8 0)]):=by rw[hk2 0 (by omega),hk 0 (by simp)];rfl
  have g1:m2[1]?=some (.arr [.sc (.int .i8 0),.sc (.int .i8 0),.sc (.int .i8 0)]):=by rw[hk2 1 (by omega),hk 1 (by simp)];rfl
  rw[<-zm]at ho2;have hrow:=ho2.1.rows (wG _).ok;refine Ut (sz:=1) (by simp[go_sem]) g1 (by simp) hrow (wG _) ?_;obtain⟨rest,rfl⟩:∃ rest,m2 = .arr [.sc (.int .i8 0),.sc (.int .i8 0),.sc (.int .i8 0)] :: .arr [.sc (.int .i8 0),.sc (.int .i8 0),.sc (.int .i8 0)] :: rest:=by
   match m2,g0,g1 with
   |a :: b :: rest,g0,g1=>simp at g0 g1;exact⟨rest,by rw[g0,g1]⟩
  rw[put3];simp[go_sem,pad,conc,hd];exact .hf _ (HF.agg fun c hc=>by simp at hc;rcases hc with rfl|rfl|rfl<;>exact HF.sc _)
 .rintro r mm ⟨av,e,_⟩;cases e
theorem Yp(n:Int)(mu:Mu):qY qd 260 [aI n] mu fun e m=>e = .ret (.agg [aI n,.mp (mu.length+1)])/\∃ c,m=mu++[c,.mp []]:=by
 refine qSW call260 func260 rfl {} ?_;simp[go_sem]
theorem hfA3(a b c:Value):HF (.agg [.sc a,.sc b,.sc c]):=HF.agg fun x hx=>by simp at hx;rcases hx with rfl|rfl|rfl<;>exact HF.sc _
theorem wr0:qj.wrap 0=0:=rfl
theorem wr1:qj.wrap 1=1:=rfl
theorem wr2:qj.wrap 2=2:=rfl
structure okK (k:Kd):Prop where
 ar:1<=k.ar/\k.ar<=3
 len:∀ t,t∈k.ts->okT t
 nd:k.ts.Nodup
theorem JS(x:Tp)(n:Nat)(y:Tp)(m s:Nat):okT (conc x n y m s):=rfl
theorem qc0(a b:Kd)(ha:okK a)(hb:okK b)(x y:Tp)(hx:okT x)(hy:okT y)(mu:Mu)(o m:Nat)(ar:Int)(l:List Tp)(ho:mu[o]?=some (.arr [aI ar,.mp m]))(hm:mu[m]?=some (.mp (eT l)))(hl:∀ t,t∈l->okT t) :
  qY qd 273 [aT x,aT y,.ip (cKd a),.ptr o 0,.ip (cKd b)] mu fun e m'=>e = .ret (.tup [])/\m'=if x.getD (a.ar.toNat-1) 0=y.getD 0 0 then mu.set m (.mp (eT (ins l (conc x a.ar.toNat y b.ar.toNat 1)))) else mu:=by
 refine qSW call273 func273 rfl {} ?_;obtain⟨ha1,ha2⟩:=ha.ar;obtain⟨hb1,hb2⟩:=hb.ar;obtain⟨n,hn⟩:∃ n:Nat,a.ar=n+1:=⟨(a.ar-1).toNat,by omega⟩;obtain⟨k,hk⟩:∃ k:Nat,b.ar=k:=⟨b.ar.toNat,by omega⟩;have hn3:n<3:=by omega
 have hcc:=K4 x y (n+1) k 1 hx hy (by omega) (by omega) (by omega) (by omega) (by omega);unfold okT at hx hy;obtain⟨x0,x1,x2,rfl⟩:∃ x0 x1 x2,x=[x0,x1,x2]:=by
  match x,hx with
  | [x0,x1,x2],_=>exact⟨_,_,_,rfl⟩
 obtain⟨y0,y1,y2,rfl⟩:∃ y0 y1 y2,y=[y0,y1,y2]:=by
  match y,hy with
  | [y0,y1,y2],_=>exact⟨_,_,_,rfl⟩
 have hup:=updT hm (JS [x0,x1,x2] (n+1) [y0,y1,y2] k 1) hl;have hcase:n=0\/n=1\/n=2:=by omega
 rcases hcase with rfl|rfl|rfl
 all_goals
  simp[go_sem];refine qe.intro (by kernel_rfl) ?_;simp[go_sem,hn,hk,wr0,wr1,wr2];refine BrS.intro (fun he=>?_) (fun he=>?_)
  .simp at he
   subst he;simp[go_sem];refine qe.intro (by kernel_rfl) ?_;simp[go_sem,ho,hk,hn];refine qb.pure hcc (.cons (.hf (hfA3 _ _ _)) (.cons (.hf (HF.sc _)) (.cons (.hf (hfA3 _ _ _)) (.cons (.hf (HF.sc _)) (.cons (.hf (HF.sc _)) .nil))))) ?_;simp[go_sem];refine OptK.intro _ hup ?_;simp[go_sem]
  .simp at he
   simp[go_sem,he]
theorem qc1(a b:Kd)(ha:okK a)(hb:okK b)(hab:a.ar+b.ar<=3)(x y:Tp)(hx:okT x)(hy:okT y)(mu:Mu)(o m:Nat)(ar:Int)(l:List Tp)(ho:mu[o]?=some (.arr [aI ar,.mp m]))(hm:mu[m]?=some (.mp (eT l)))(hl:∀ t,t∈l->okT t) :
  qY qd 275 [aT x,aT y,.ptr o 0,.ip (cKd a),.ip (cKd b)] mu fun e m'=>e = .ret (.tup [])/\m'=mu.set m (.mp (eT (ins l (conc x a.ar.toNat y b.ar.toNat 0)))):=by
 refine qSW call275 func275 rfl {} ?_;obtain⟨ha1,ha2⟩:=ha.ar;obtain⟨hb1,hb2⟩:=hb.ar;obtain⟨n,hn⟩:∃ n:Nat,a.ar=n:=⟨a.ar.toNat,by omega⟩;obtain⟨k,hk⟩:∃ k:Nat,b.ar=k:=⟨b.ar.toNat,by omega⟩;have hcc:=K4 x y n k 0 hx hy (by omega) (by omega) (by omega) (by omega) (by omega);unfold okT at hx hy;obtain⟨x0,x1,x2,rfl⟩:∃ x0 x1 x2,x=[x0,x1,x2]:=by
  match x,hx with
  | [x0,x1,x2],_=>exact⟨_,_,_,rfl⟩
 obtain⟨y0,y1,y2,rfl⟩:∃ y0 y1 y2,y=[y0,y1,y2]:=by
  match y,hy with
  | [y0,y1,y2],_=>exact⟨_,_,_,rfl⟩
 have hup:=updT hm (JS [x0,x1,x2] n [y0,y1,y2] k 0) hl;simp[go_sem];refine qe.intro (by kernel_rfl) ?_;simp[go_sem,ho,hk,hn];refine qb.pure hcc (.cons (.hf (hfA3 _ _ _)) (.cons (.hf (HF.sc _)) (.cons (.hf (hfA3 _ _ _)) (.cons (.hf (HF.sc _)) (.cons (.hf (HF.sc _)) .nil))))) ?_;simp[go_sem];refine OptK.intro _ hup ?_;simp[go_sem]
theorem K5{l:List Tp}(h:l.Nodup):((eT l).map Prod.fst).Nodup:=by
 have e:(eT l).map Prod.fst=l.map aT:=by simp[eT]
 rw[e];refine(List.pairwise_map (f:=aT)).2 (h.imp fun hne e=>hne ?_);have inj:∀(a b:List Int),i8s a=i8s b->a=b:=by
  intro a;induction a with
  |nil=>intro b h;cases b with
   |nil=>rfl
   |cons=>simp at h
  |cons x a ih=>intro b h;cases b with
   |nil=>simp at h
   |cons y b =>
    simp only[i8s,yd,List.cons.injEq,AV.sc.injEq,Value.int.injEq,true_and]at h;rw[h.1,ih b h.2]
 exact inj _ _ (AV.agg.inj e)
theorem Rd.setT{mu:Mu}{m:Nat}{l k:List Tp}(hm:mu[m]?=some (.mp (eT l)))(hl:l.Nodup)(hk:k.Nodup)(h:∀ t,t∈l↔t∈k):Rd mu (.mp m) (mKd k):=
 Rd.mps hm (K5 hl) (K5 hk) (fun x=>by
  simp only[eT,qs];constructor
  .rintro ⟨t,ht,rfl⟩;exact⟨t,(h t).1 ht,rfl⟩
  .rintro ⟨t,ht,rfl⟩;exact⟨t,(h t).2 ht,rfl⟩) (fun x hx=>by
  obtain⟨t,_,rfl⟩:=qs.1 hx;exact⟨Ux t,HF.sc _⟩)
def ColM(ar:Int)(z c:Cell)(f:Tp->Tp->Option Tp)(S:Tp->Tp->Prop)(m:Mu):Prop:=
 ∃ l,m[0]?=some z/\m[1]?=some c/\m[2]?=some (.mp (eT l))/\m[3]?=some (.arr [aI ar,.mp 2])/\l.Nodup/\(∀ t,t∈l->okT t)/\∀ t,t∈l↔∃ x y,S x y/\f x y=some t
theorem ColM.zero(ar:Int)(z c:Cell)(f:Tp->Tp->Option Tp):ColM ar z c f (fun _ _=>False) [z,c,.mp [],.arr [aI ar,.mp 2]]:=
 ⟨[],rfl,rfl,rfl,rfl,by simp,by simp,by simp⟩
theorem ColM.same{ar:Int}{z c:Cell}{f:Tp->Tp->Option Tp}{S:Tp->Tp->Prop}{m1 m2:Mu}(h:∀ i,i<4->m2[i]?=m1[i]?)(k:ColM ar z c f S m1):ColM ar z c f S m2:=by
 obtain⟨l,g0,g1,g2,g3,h1,h2,h3⟩:=k;exact⟨l,by rw[h 0 (by omega)];exact g0,by rw[h 1 (by omega)];exact g1,by rw[h 2 (by omega)];exact g2,by rw[h 3 (by omega)];exact g3,h1,h2,h3⟩
theorem ColM.step{ar:Int}{z c:Cell}{f:Tp->Tp->Option Tp}{S:Tp->Tp->Prop}{m:Mu}{l:List Tp}{x y t:Tp}(g0:m[0]?=some z)(g1:m[1]?=some c)(g2:m[2]?=some (.mp (eT l)))(g3:m[3]?=some (.arr [aI ar,.mp 2]))(h1:l.Nodup)(h2:∀ t,t∈l->okT t)(h3:∀ t,t∈l↔∃ x y,S x y/\f x y=some t)
  (hf:f x y=some t) (ht:okT t):ColM ar z c f (fun u v=>S u v\/(u=x/\v=y)) (m.set 2 (.mp (eT (ins l t)))):=by
 have hl:2<m.length:=(qk.1 g2).1;refine⟨ins l t,?_,?_,zb hl,?_,Zw h1,fun u hu=>?_,fun u=>?_⟩
 .rw [qK (by omega)];exact g0
 .rw [qK (by omega)];exact g1
 .rw [qK (by omega)];exact g3
 .rcases vQ.1 hu with h|rfl
  .exact h2 u h
  .exact ht
 .rw [vQ,h3]
  constructor
  .rintro (⟨p,q,hs,e⟩|rfl)
   .exact ⟨p,q,.inl hs,e⟩
   .exact ⟨x,y,.inr ⟨rfl,rfl⟩,hf⟩
  .rintro ⟨p,q,hs|⟨rfl,rfl⟩,e⟩
   .exact .inl ⟨p,q,hs,e⟩
   .rw [hf]at e;exact .inr (Option.some.inj e).symm
theorem ColM.skip{ar:Int}{z c:Cell}{f:Tp->Tp->Option Tp}{S:Tp->Tp->Prop}{m:Mu}{x y:Tp}(k:ColM ar z c f S m)(hf:f x y=none):ColM ar z c f (fun u v=>S u v\/(u=x/\v=y)) m:=by
 obtain⟨l,g0,g1,g2,g3,h1,h2,h3⟩:=k;refine⟨l,g0,g1,g2,g3,h1,h2,fun u=>?_⟩;rw[h3];constructor
 .rintro ⟨p,q,hs,e⟩;exact⟨p,q,.inl hs,e⟩
 .rintro ⟨p,q,hs|⟨rfl,rfl⟩,e⟩
  .exact ⟨p,q,hs,e⟩
  .rw [hf]at e;exact absurd e (by simp)
theorem four{m:Mu}{a b c d:Cell}(g0:m[0]?=some a)(g1:m[1]?=some b)(g2:m[2]?=some c)(g3:m[3]?=some d):∃ rest,m=a :: b :: c :: d :: rest:=by
 match m,g0,g1,g2,g3 with
 |a :: b :: c :: d :: rest,g0,g1,g2,g3 =>
  simp at g0 g1 g2 g3;subst g0;subst g1;subst g2;subst g3;exact⟨rest,rfl⟩
def Qk(n m:Nat)(x y:Tp):Option Tp:=if x.getD (n-1) 0=y.getD 0 0 then some (conc x n y m 1) else none
theorem uY{n m:Nat}{a b:List Tp}{t:Tp}:t∈vR n m a b↔∃ x y,(x∈a/\y∈b)/\Qk n m x y=some t:=by
 unfold vR Qk;rw[ve];simp only[zr,false_or,List.mem_filterMap];constructor
 .rintro ⟨⟨x,y⟩,h1,h2⟩;exact⟨x,y,Zx.1 h1,h2⟩
 .rintro ⟨x,y,h1,h2⟩;exact⟨(x,y),Zx.2 h1,h2⟩
theorem UE{n m:Nat}{a b:List Tp}:(vR n m a b).Nodup:=ur (by simp)
theorem vT(a b:Kd)(ha:okK a)(hb:okK b):qi qd 263 [eKd a,eKd b] (eKd (zA a b)):=by
 refine qSQ call263 func263 rfl {} ?_;have w1:qj.wrap (a.ar+b.ar)=a.ar+b.ar:=qg (by have:=ha.ar;have:=hb.ar;omega) (by have:=ha.ar;have:=hb.ar;omega);have w2:qj.wrap (a.ar+b.ar-2)=a.ar+b.ar-2:=qg (by have:=ha.ar;have:=hb.ar;omega) (by have:=ha.ar;have:=hb.ar;omega);simp[go_sem,w1,w2];refine qb.eff0 (Yp _ _) ?_ (by rintro r m ⟨e,_⟩;cases e);rintro r m ⟨e,c,rfl⟩;cases e;simp[go_sem];refine qb.eff0 (K3 a b 273 [.ip (cKd a),.ptr 3 0,.ip (cKd b)] _ (ColM (a.ar+b.ar-2) (.arr [aI 0,.sc (.map none)]) c (Qk a.ar.toNat b.ar.toNat)) (ColM.zero _ _ _ _) (fun S m1 m2 h k=>k.same h) ha.len hb.len ?_) ?_ (by rintro r m ⟨e,_⟩;cases e)
 .rintro S x y m1 hx hy hlm ⟨l,g0,g1,g2,g3,h1,h2,h3⟩
  refine qY.monoR (qc0 a b ha hb x y (ha.len x hx) (hb.len y hy) m1 3 2 _ l g3 g2 h2) ?_;rintro e m' ⟨rfl,rfl⟩;by_cases hc:x.getD (a.ar.toNat-1) 0=y.getD 0 0
  .rw [if_pos hc]
   refine⟨rfl,ColM.step g0 g1 g2 g3 h1 h2 h3 (by unfold Qk;rw[if_pos hc]) (JS _ _ _ _ _),by simp,fun i hi1 hi2=>?_⟩;simp at hi1;rw[qK (by omega)]
  .rw [if_neg hc]
   exact⟨rfl,ColM.skip ⟨l,g0,g1,g2,g3,h1,h2,h3⟩ (by unfold Qk;rw[if_neg hc]),qr _,fun _ _ _=>rfl⟩
 .rintro r m ⟨e,⟨l,g0,g1,g2,g3,h1,h2,h3⟩,hlm⟩
  cases e;obtain⟨rest,rfl⟩:=four g0 g1 g2 g3;simp[go_sem];exact Rd.aggs ⟨.hf _ (HF.sc _),Rd.setT rfl h1 UE (fun t=>(h3 t).trans uY.symm),trivial⟩
def uZ(n m:Nat)(x y:Tp):Option Tp:=some (conc x n y m 0)
theorem JU{n m:Nat}{a b:List Tp}{t:Tp}:t∈Qg n m a b↔∃ x y,(x∈a/\y∈b)/\uZ n m x y=some t:=by
 unfold Qg uZ;rw[ve];simp only[zr,false_or,qs];constructor
 .rintro ⟨⟨x,y⟩,h1,h2⟩;exact⟨x,y,Zx.1 h1,by rw[<-h2]⟩
 .rintro ⟨x,y,h1,h2⟩;exact⟨(x,y),Zx.2 h1,Option.some.inj h2⟩
theorem K6{n m:Nat}{a b:List Tp}:(Qg n m a b).Nodup:=ur (by simp)
theorem JV(a b:Kd)(ha:okK a)(hb:okK b)(hab:a.ar+b.ar<=3):qi qd 264 [eKd a,eKd b] (eKd (Qh a b)):=by
 refine qSQ call264 func264 rfl {} ?_;have w1:qj.wrap (a.ar+b.ar)=a.ar+b.ar:=qg (by have:=ha.ar;have:=hb.ar;omega) (by have:=ha.ar;have:=hb.ar;omega);simp[go_sem,w1];refine qb.eff0 (Yp _ _) ?_ (by rintro r m ⟨e,_⟩;cases e);rintro r m ⟨e,c,rfl⟩;cases e;simp[go_sem];refine qb.eff0 (K3 a b 275 [.ptr 3 0,.ip (cKd a),.ip (cKd b)] _ (ColM (a.ar+b.ar) (.arr [aI 0,.sc (.map none)]) c (uZ a.ar.toNat b.ar.toNat)) (ColM.zero _ _ _ _) (fun S m1 m2 h k=>k.same h) ha.len hb.len ?_) ?_ (by rintro r m ⟨e,_⟩;cases e)
 .rintro S x y m1 hx hy hlm ⟨l,g0,g1,g2,g3,h1,h2,h3⟩
  refine qY.monoR (qc1 a b ha hb hab x y (ha.len x hx) (hb.len y hy) m1 3 2 _ l g3 g2 h2) ?_;rintro e m' ⟨rfl,rfl⟩;refine⟨rfl,ColM.step g0 g1 g2 g3 h1 h2 h3 rfl (JS _ _ _ _ _),by simp,fun i hi1 hi2=>?_⟩;simp at hi1;rw[qK (by omega)]
 .rintro r m ⟨e,⟨l,g0,g1,g2,g3,h1,h2,h3⟩,hlm⟩
  cases e;obtain⟨rest,rfl⟩:=four g0 g1 g2 g3;simp[go_sem];exact Rd.aggs ⟨.hf _ (HF.sc _),Rd.setT rfl h1 K6 (fun t=>(h3 t).trans JU.symm),trivial⟩
end Y6
namespace Y7
open Y2 P1 YM Y5 Y6
theorem qF.lit{P:Program}{mu:Mu}{t t' e sz bt:Nat}{x:AV}{xs ys:List (List AV)}{zv:AV}{K:AV->Mu->Prop}(hs:qJ P t=some (e,sz,bt))(hs':(qJ P t').isSome=true)(hz:qz P e=some zv)
  (hz1:zv.cells.length=sz) (hz2:zv.cells.all AV.one=true) (hz0:sz≠0) (hb:bt<=16384) (hx:qG mu x=some ys) (wx:zh sz xs) (wy:zh sz ys) (hl:xs.length+ys.length<=4294967296) (hne:ys≠[])
  (k:K (.sl mu.length sz 0 (xs.length+ys.length)) (mu++[.arr (xs++ys).flatten])):qF P mu #[t,t'] (.lst true xs) x K:=
 .inl ⟨t,t',e,sz,bt,ys,rfl,hs,hs',⟨zv,hz,hz1,hz2⟩,hz0,hb,hx,wy,.inl ⟨xs,rfl,wx,hl,fun h=>absurd h hne,fun _=>k⟩⟩
theorem wH(l:List Kd):zh 2 (l.map cKd):=fun r hr=>by
 obtain⟨n,_,rfl⟩:=qs.1 hr;exact⟨rfl,rfl⟩
theorem Yq(full:Bool)(l:List Kd):HF (.lst full (l.map cKd)):=HF.lst fun r hr c hc=>by
 obtain⟨k,_,rfl⟩:=qs.1 hr;simp at hc;rcases hc with rfl|rfl
 .exact HF.sc _
 .exact Yo _
def ColS(ar:Int)(z c:Cell)(sl:Cell)(S:Tp->Prop)(m:Mu):Prop:=
 ∃ l,m[0]?=some z/\m[1]?=some c/\m[2]?=some (.mp (eT l))/\m[3]?=some (.arr [aI ar,.mp 2])/\m[4]?=some sl/\l.Nodup/\(∀ t,t∈l->okT t)/\∀ t,t∈l↔S t
theorem sumU(full:Bool)(a b:Kd)(ha:∀ t,t∈a.ts->okT t)(hb:∀ t,t∈b.ts->okT t):qi qd 270 [eKd a,.lst full [cKd b]] (eKd (kSum a b)):=by
 refine qSQ call270 func270 rfl {} ?_;simp[go_sem];refine qb.eff0 (Yp _ _) ?_ (by rintro r m ⟨e,_⟩;cases e);rintro r m ⟨e,c,rfl⟩;cases e;simp[go_sem];refine qF.lit (e:=251) (sz:=2) (bt:=16) (zv := .agg [aI 0,.sc (.map none)]) (xs:=[cKd a]) (ys:=[cKd b]) (by simp[go_sem]) (by simp[go_sem]) (by simp[go_sem]) rfl rfl (by omega) (by omega) (by simp[qG]) (wH [a]) (wH [b]) (by simp) (by simp) ?_;simp[go_sem];refine ql.up 2 (fun k st=>st.tm 4 = .ptr 0 0/\st.tm 5 = .ptr 3 0/\st.tm 15 = .sl 4 2 0 2/\st.tm 16=aI 2/\st.tm 17=aI k/\ColS a.ar (.arr [aI 0,.sc (.map none)]) c (.arr [aI a.ar,mKd a.ts,aI b.ar,mKd b.ts]) (fun t=>(0<k/\t∈a.ts)\/(1<k/\t∈b.ts)) st.mu) ?_ ?_
 .simp [go_sem]
  exact⟨[],rfl,rfl,rfl,rfl,rfl,by simp,by simp,by simp⟩
 .rintro k st hk ⟨e4,e5,e15,e16,e17,l,g0,g1,g2,g3,g4,h1,h2,h3⟩
  have hk2:k=2\/k=0\/k=1:=by omega
  obtain⟨rest,hm⟩:∃ rest,st.mu=[.arr [aI 0,.sc (.map none)],c,.mp (eT l),.arr [aI a.ar,.mp 2],.arr [aI a.ar,mKd a.ts,aI b.ar,mKd b.ts]]++rest:=by
   generalize st.mu=m at *
   match m,g0,g1,g2,g3,g4 with
   |a0 :: a1 :: a2 :: a3 :: a4 :: rest,g0,g1,g2,g3,g4 =>
    simp at g0 g1 g2 g3 g4;subst g0;subst g1;subst g2;subst g3;subst g4;exact⟨rest,rfl⟩
  rcases hk2 with rfl|rfl|rfl
  .simp [go_sem,e4,e5,e15,e16,e17,hm]
   refine Rd.aggs ⟨.hf _ (HF.sc _),Rd.setT rfl h1 (ur (ur (by simp))) (fun t=>?_),trivial⟩;rw[h3];show _↔t∈uni (uni [] a.ts) b.ts;simp[ve]
  .simp [go_sem,e4,e5,e15,e16,e17,hm]
   refine ql.seen a.ts.length (fun seen st'=>st'.tm 4 = .ptr 0 0/\st'.tm 5 = .ptr 3 0/\st'.tm 15 = .sl 4 2 0 2/\st'.tm 16=aI 2/\st'.tm 17=aI 0/\st'.tm 23 = .ptr (rest.length+6) 0/\st'.mu[rest.length+6]?=some (.it (eT a.ts) seen) /\
    ColS a.ar (.arr [aI 0,.sc (.map none)]) c (.arr [aI a.ar,mKd a.ts,aI b.ar,mKd b.ts]) (fun t=>t∈l\/∃ i,i∈seen/\a.ts[i]?=some t) st'.mu) ?_ ?_
   .simp [go_sem,e4,e5,e15,e16,e17]
    exact⟨l,rfl,rfl,rfl,rfl,rfl,h1,h2,by simp⟩
   .rintro seen st' hnd hlt ⟨f4,f5,f15,f16,f17,f23,hit,l',k0,k1,k2,k3,k4,p1,p2,p3⟩
    simp[go_sem,f4,f5,f15,f16,f17,f23];refine⟨rest.length+6,eT a.ts,seen,rfl,hit,fun i e hi hns=>?_,fun hall=>?_⟩
    .obtain ⟨x,hx,rfl⟩:=Qj hi
     have hxo:okT x:=ha x (qS hx);have hil:i<a.ts.length:=(qk.1 hx).1;have hlen:rest.length+6<st'.mu.length:=(qk.1 hit).1;have hx3:x.length=3:=hxo;have hget:∀(c:Cell) (l:List Cell) (j:Nat),j<5->((st'.mu.set (rest.length+6) c)++l)[j]?=st'.mu[j]?:=fun c l j hj=>by
      rw[qp (by simp;omega),qK (by omega)]
     have q2:=fun c l=>(hget c l 2 (by omega)).trans k2
     have q3:=fun c l=>(hget c l 3 (by omega)).trans k3
     obtain⟨x0,x1,x2,rfl⟩:∃ x0 x1 x2,x=[x0,x1,x2]:=by
      match x,hx3 with
      | [x0,x1,x2],_=>exact⟨_,_,_,rfl⟩
     simp[go_sem,f4,f5,f15,f16,f17,f23,hi,hlen,hns,hit,q3];refine OptK.intro _ (updT (q2 _ _) hxo p2) ?_;simp[go_sem];refine⟨i,hil,hns,?_⟩;show _/\_;refine⟨by simp[go_sem,f4],by simp[go_sem,f5],by simp[go_sem,f15],by simp[go_sem,f16],by simp[go_sem,f17],by simp[go_sem,f23],?_,ins l' [x0,x1,x2],?_,?_,?_,?_,?_,Zw p1,fun t ht=>?_,fun t=>?_⟩
     .simp only[qL]
      rw[qK (by omega),qp (by simpa using hlen),zb hlen]
     .simp only[qL]
      rw[qK (by omega),hget _ _ 0 (by omega),k0]
     .simp only[qL]
      rw[qK (by omega),hget _ _ 1 (by omega),k1]
     .simp only[qL]
      rw[zb (by simp;omega)]
     .simp only[qL]
      rw[qK (by omega),hget _ _ 3 (by omega),k3]
     .simp only[qL]
      rw[qK (by omega),hget _ _ 4 (by omega),k4]
     .rcases vQ.1 ht with h|rfl
      .exact p2 t h
      .exact hxo
     .rw [vQ,p3]
      constructor
      .rintro ((h|⟨j,hj,e⟩)|rfl)
       .exact .inl h
       .exact .inr ⟨j,by simp[hj],e⟩
       .exact .inr ⟨i,by simp,hx⟩
      .rintro (h|⟨j,hj,e⟩)
       .exact .inl (.inl h)
       .rcases qT.1 hj with hj|hj
        .exact .inl (.inr ⟨j,hj,e⟩)
        .rw [qW]at hj;subst hj
         rw[hx]at e;cases e;exact .inr rfl
    .have hend:∀ t,t∈l'↔(t∈l\/t∈a.ts):=fun t=>by
      rw[p3];constructor
      .rintro (h|⟨j,hj,e⟩)
       .exact .inl h
       .exact .inr (qS e)
      .rintro (h|h)
       .exact .inl h
       .obtain ⟨j,hj⟩:=List.mem_iff_getElem?.1 h
        exact .inr ⟨j,hall j (by simpa using (qk.1 hj).1),hj⟩
     simp[go_sem,f4,f5,f15,f16,f17,f23,wr1,wr2];refine⟨l',k0,k1,k2,k3,k4,p1,p2,fun t=>?_⟩;rw[hend t,h3];simp
  .simp [go_sem,e4,e5,e15,e16,e17,hm]
   refine ql.seen b.ts.length (fun seen st'=>st'.tm 4 = .ptr 0 0/\st'.tm 5 = .ptr 3 0/\st'.tm 15 = .sl 4 2 0 2/\st'.tm 16=aI 2/\st'.tm 17=aI 1/\st'.tm 23 = .ptr (rest.length+6) 0/\st'.mu[rest.length+6]?=some (.it (eT b.ts) seen) /\
    ColS a.ar (.arr [aI 0,.sc (.map none)]) c (.arr [aI a.ar,mKd a.ts,aI b.ar,mKd b.ts]) (fun t=>t∈l\/∃ i,i∈seen/\b.ts[i]?=some t) st'.mu) ?_ ?_
   .simp [go_sem,e4,e5,e15,e16,e17]
    exact⟨l,rfl,rfl,rfl,rfl,rfl,h1,h2,by simp⟩
   .rintro seen st' hnd hlt ⟨f4,f5,f15,f16,f17,f23,hit,l',k0,k1,k2,k3,k4,p1,p2,p3⟩
    simp[go_sem,f4,f5,f15,f16,f17,f23];refine⟨rest.length+6,eT b.ts,seen,rfl,hit,fun i e hi hns=>?_,fun hall=>?_⟩
    .obtain ⟨x,hx,rfl⟩:=Qj hi
     have hxo:okT x:=hb x (qS hx);have hil:i<b.ts.length:=(qk.1 hx).1;have hlen:rest.length+6<st'.mu.length:=(qk.1 hit).1;have hx3:x.length=3:=hxo;have hget:∀(c:Cell) (l:List Cell) (j:Nat),j<5->((st'.mu.set (rest.length+6) c)++l)[j]?=st'.mu[j]?:=fun c l j hj=>by
      rw[qp (by simp;omega),qK (by omega)]
     have q2:=fun c l=>(hget c l 2 (by omega)).trans k2
     have q3:=fun c l=>(hget c l 3 (by omega)).trans k3
     obtain⟨x0,x1,x2,rfl⟩:∃ x0 x1 x2,x=[x0,x1,x2]:=by
      match x,hx3 with
      | [x0,x1,x2],_=>exact⟨_,_,_,rfl⟩
     simp[go_sem,f4,f5,f15,f16,f17,f23,hi,hlen,hns,hit,q3];refine OptK.intro _ (updT (q2 _ _) hxo p2) ?_;simp[go_sem];refine⟨i,hil,hns,?_⟩;show _/\_;refine⟨by simp[go_sem,f4],by simp[go_sem,f5],by simp[go_sem,f15],by simp[go_sem,f16],by simp[go_sem,f17],by simp[go_sem,f23],?_,ins l' [x0,x1,x2],?_,?_,?_,?_,?_,Zw p1,fun t ht=>?_,fun t=>?_⟩
     .simp only[qL]
      rw[qK (by omega),qp (by simpa using hlen),zb hlen]
     .simp only[qL]
      rw[qK (by omega),hget _ _ 0 (by omega),k0]
     .simp only[qL]
      rw[qK (by omega),hget _ _ 1 (by omega),k1]
     .simp only[qL]
      rw[zb (by simp;omega)]
     .simp only[qL]
      rw[qK (by omega),hget _ _ 3 (by omega),k3]
     .simp only[qL]
      rw[qK (by omega),hget _ _ 4 (by omega),k4]
     .rcases vQ.1 ht with h|rfl
      .exact p2 t h
      .exact hxo
     .rw [vQ,p3]
      constructor
      .rintro ((h|⟨j,hj,e⟩)|rfl)
       .exact .inl h
       .exact .inr ⟨j,by simp[hj],e⟩
       .exact .inr ⟨i,by simp,hx⟩
      .rintro (h|⟨j,hj,e⟩)
       .exact .inl (.inl h)
       .rcases qT.1 hj with hj|hj
        .exact .inl (.inr ⟨j,hj,e⟩)
        .rw [qW]at hj;subst hj
         rw[hx]at e;cases e;exact .inr rfl
    .have hend:∀ t,t∈l'↔(t∈l\/t∈b.ts):=fun t=>by
      rw[p3];constructor
      .rintro (h|⟨j,hj,e⟩)
       .exact .inl h
       .exact .inr (qS e)
      .rintro (h|h)
       .exact .inl h
       .obtain ⟨j,hj⟩:=List.mem_iff_getElem?.1 h
        exact .inr ⟨j,hall j (by simpa using (qk.1 hj).1),hj⟩
     simp[go_sem,f4,f5,f15,f16,f17,f23,wr1,wr2];refine⟨l',k0,k1,k2,k3,k4,p1,p2,fun t=>?_⟩;rw[hend t,h3];simp
end Y7
namespace Y8
open Y2 Y3 P1 YM Y5 Y6 Y7
theorem UF{l:List Tp}{i:Nat}{x:Tp}(hx:l[i]?=some x){seen:List Nat}{t:Tp}:(∃ j,j∈seen++[i]/\l[j]?=some t)↔(∃ j,j∈seen/\l[j]?=some t)\/t=x:=by
 constructor
 .rintro ⟨j,hj,e⟩
  rcases qT.1 hj with hj|hj
  .exact .inl ⟨j,hj,e⟩
  .rw [qW]at hj;subst hj
   rw[hx]at e;cases e;exact .inr rfl
 .rintro (⟨j,hj,e⟩|rfl)
  .exact ⟨j,by simp[hj],e⟩
  .exact ⟨i,by simp,hx⟩
theorem UG{l:List Tp}{seen:List Nat}(hall:∀ i,i<l.length->i∈seen){t:Tp}:(∃ j,j∈seen/\l[j]?=some t)↔t∈l:=by
 constructor
 .rintro ⟨j,hj,e⟩;exact qS e
 .intro h
  obtain⟨j,hj⟩:=List.mem_iff_getElem?.1 h;exact⟨j,hall j (qk.1 hj).1,hj⟩
structure ok2 (k:Kd):Prop where
 ar:k.ar=2
 nd:k.ts.Nodup
 ts:∀ t,t∈k.ts->∃ x y:Int,t=[x,y,0]/\0<=x/\x<4/\0<=y/\y<4
theorem ok2.okK{k:Kd}(h:ok2 k):okK k:=⟨by rw[h.ar];omega,fun t ht=>by obtain⟨x,y,rfl,_⟩:=h.ts t ht;rfl,h.nd⟩
theorem ok2.join{k:Kd}(h:ok2 k):ok2 (zA k k):=by
 refine⟨by simp[zA,h.ar],UE,fun t ht=>?_⟩;have ht:t∈vR k.ar.toNat k.ar.toNat k.ts k.ts:=ht;rw[h.ar]at ht;obtain⟨x,y,⟨hx,hy⟩,hf⟩:=uY.1 ht;obtain⟨x0,x1,rfl,a1,a2,a3,a4⟩:=h.ts x hx;obtain⟨y0,y1,rfl,b1,b2,b3,b4⟩:=h.ts y hy;unfold Qk at hf;split at hf
 .simp [conc,pad]at hf
  exact⟨x0,y1,hf.symm,a1,a2,b3,b4⟩
 .exact absurd hf (by simp)
theorem ok2.sum{a b:Kd}(h:ok2 a)(k:ok2 b):ok2 (kSum a b):=by
 refine⟨h.ar,ur (ur (by simp)),fun t ht=>?_⟩;have ht:t∈uni (uni [] a.ts) b.ts:=ht;simp only[ve,zr,false_or]at ht;exact ht.elim (h.ts t) (k.ts t)
theorem ok2.len{k:Kd}(h:ok2 k):k.ts.length<=16:=by
 have hsub:∀ t,t∈k.ts->t∈(qq 4).flatMap fun (x:Nat)=>(qq 4).map fun (y:Nat)=>[(x:Int),(y:Int),0]:=by
  intro t ht;obtain⟨x,y,rfl,h1,h2,h3,h4⟩:=h.ts t ht;rw[List.mem_flatMap];refine⟨x.toNat,zI.2 (by omega),qs.2 ⟨y.toNat,zI.2 (by omega),?_⟩⟩;rw[show ((x.toNat:Nat):Int)=x by omega,show ((y.toNat:Nat):Int)=y by omega]
 have:=List.Nodup.length_le_of_subset h.nd hsub;exact Nat.le_trans this (by decide)
theorem qc2{f n:Nat}{a:Kd}(h:¬n<a.ts.length):cloN f n a=a:=by
 cases f with
 |zero=>rfl
 |succ f=>simp[cloN,h]
theorem JW(a:Kd)(ha:ok2 a):qi qd 276 [eKd a] (eKd (kClo a)):=by
 refine qSQ call276 func276 rfl { mt:=[1] } ?_;simp[go_sem];refine ql.keep (fun m st=>∃(n f:Nat) (cur:Kd),m=17-n/\cloN f n cur=kClo a/\70<=f+n/\ok2 cur/\st.tm 3=aI n/\st.tm 1 = .ptr 0 0/\st.tm 2 = .ptr 1 0/\st.mu=[.arr (cKd cur),.arr [aI 0,.sc (.map none)]]) 17 ?_ ?_
 .exact ⟨0,70,a,rfl,rfl,by omega,ha,by simp[go_sem],by simp[go_sem],by simp[go_sem],by simp[go_sem]⟩
 .rintro m st ⟨n,f,cur,rfl,hc,hf,hok,e3,e1,e2,hm⟩
  have hlen:=hok.len;by_cases hn:n<cur.ts.length
  .simp [go_sem,e1,e2,e3,hm,hn]
   refine qe.intro (by kernel_rfl) ?_;simp[go_sem,e1,e2,e3,hm,hn];refine qb.pure (vT cur cur hok.okK hok.okK) (.cons (.hf (zH _)) (.cons (.hf (zH _)) .nil)) ?_;simp[go_sem];refine qb.pure (sumU _ cur (zA cur cur) hok.okK.len hok.join.okK.len) (.cons (.hf (zH _)) (.cons (.hf (Yq _ [zA cur cur])) .nil)) ?_;simp[go_sem,e1];obtain⟨f,rfl⟩:∃ f',f=f'+1:=⟨f-1,by omega⟩;refine Keep.loop (17-cur.ts.length) (by omega) ⟨cur.ts.length,f,kSum cur (zA cur cur),rfl,?_,by omega,hok.sum hok.join,by simp[go_sem,hm,hn],by simp[go_sem,e1],by simp[go_sem,e2],by simp[go_sem]⟩;rw[<-hc,cloN,if_pos hn]
  .rw [qc2 hn]at hc
   subst hc;simp[go_sem,e1,e2,e3,hm,hn];exact .hf _ (zH _)
theorem qc3(op:Int)(a b:Kd)(ha:okK a)(hb:okK b):qi qd 262 [aI op,eKd a,eKd b] (eKd (uX op a b)):=by
 refine qSQ call262 func262 rfl {} ?_;unfold uX;by_cases h6:op=6
 .subst h6
  simp[go_sem];refine qb.pure (sumU _ a b ha.len hb.len) (.cons (.hf (zH _)) (.cons (.hf (Yq _ [b])) .nil)) ?_;simp[go_sem];exact .hf _ (zH _)
 by_cases h14:op=14
 .subst h14
  simp[go_sem];refine qb.pure (sumU _ a b ha.len hb.len) (.cons (.hf (zH _)) (.cons (.hf (Yq _ [b])) .nil)) ?_;simp[go_sem];exact .hf _ (zH _)
 by_cases h7:op=7
 .subst h7
  simp[go_sem];refine qb.eff0 (Yp _ _) ?_ (by rintro r m ⟨e,_⟩;cases e);rintro r m ⟨e,c,rfl⟩;cases e;simp[go_sem];obtain⟨B,hB⟩:∃ B,B=mKd b.ts:=⟨_,rfl⟩;refine ql.seen a.ts.length (fun seen st=>st.tm 4 = .ip (cKd a)/\st.tm 5 = .ip [aI b.ar,B]/\st.tm 6 = .ptr 0 0/\st.tm 7 = .ptr 3 0/\st.tm 24 = .ptr 4 0 /\
   ColS a.ar (.arr [aI 0,.sc (.map none)]) c (.it (eT a.ts) seen) (fun t=>(∃ i,i∈seen/\a.ts[i]?=some t)/\t∈b.ts) st.mu) ?_ ?_
  .exact ⟨by simp[go_sem],by simp[go_sem,hB],by simp[go_sem],by simp[go_sem],by simp[go_sem],[],rfl,rfl,rfl,rfl,rfl,by simp,by simp,by simp⟩
  .rintro seen st hnd hlt ⟨e4,e5,e6,e7,e24,l,k0,k1,k2,k3,k4,h1,h2,h3⟩
   simp[go_sem,e4,e5,e6,e7,e24];refine⟨4,eT a.ts,seen,rfl,k4,fun i e hi hns=>?_,fun hall=>?_⟩
   .obtain ⟨x,hx,rfl⟩:=Qj hi
    have hxo:okT x:=ha.len x (qS hx);have hil:i<a.ts.length:=(qk.1 hx).1;have hx3:x.length=3:=hxo;have hlk:∀ mu:Mu,z7 qd mu 249 B (aT x) false=some (aB (decide (x∈b.ts))):=fun mu=>by rw[hB];exact lookT hxo hb.len
    have hlen:4<st.mu.length:=(qk.1 k4).1;have hget:∀(c:Cell) (l:List Cell) (j:Nat),j<4->((st.mu.set 4 c)++l)[j]?=st.mu[j]?:=fun c l j hj=>by
     rw[qp (by simp;omega),qK (by omega)]
    have q2:=fun c l=>(hget c l 2 (by omega)).trans k2
    have q3:=fun c l=>(hget c l 3 (by omega)).trans k3
    obtain⟨x0,x1,x2,rfl⟩:∃ x0 x1 x2,x=[x0,x1,x2]:=by
     match x,hx3 with
     | [x0,x1,x2],_=>exact⟨_,_,_,rfl⟩
    have hlk':∀ mu:Mu,z7 qd mu 249 B (.agg [.sc (.int .i8 x0),.sc (.int .i8 x1),.sc (.int .i8 x2)]) false=some (aB (decide ([x0,x1,x2]∈b.ts))):=hlk;simp[go_sem,e4,e5,e6,e7,e24,k4,hi,hlen,hns,hlk'];by_cases hxb:[x0,x1,x2]∈b.ts
    .simp [go_sem,hxb,e4,e5,e6,e7,e24,q3]
     refine OptK.intro _ (updT (q2 _ _) hxo h2) ?_;simp[go_sem];refine⟨i,hil,hns,by simp[go_sem,e4],by simp[go_sem,e5],by simp[go_sem,e6],by simp[go_sem,e7],by simp[go_sem,e24],ins l [x0,x1,x2],?_,?_,?_,?_,?_,Zw h1,fun t ht=>?_,fun t=>?_⟩
     .simp only[qL]
      rw[qK (by omega),hget _ _ 0 (by omega),k0]
     .simp only[qL]
      rw[qK (by omega),hget _ _ 1 (by omega),k1]
     .simp only[qL]
      rw[zb (by simp;omega)]
     .simp only[qL]
      rw[qK (by omega),hget _ _ 3 (by omega),k3]
     .simp only[qL]
      rw[qK (by omega),qp (by simpa using hlen),zb hlen]
     .rcases vQ.1 ht with h|rfl
      .exact h2 t h
      .exact hxo
     .simp only[vQ,h3,UF hx]
      constructor
      .rintro (⟨h,hb⟩|rfl)
       .exact ⟨.inl h,hb⟩
       .exact ⟨.inr rfl,hxb⟩
      .rintro ⟨h|rfl,hb⟩
       .exact .inl ⟨h,hb⟩
       .exact .inr rfl
    .simp [go_sem,hxb,e4,e5,e6,e7,e24]
     refine⟨i,hil,hns,by simp[go_sem,e4],by simp[go_sem,e5],by simp[go_sem,e6],by simp[go_sem,e7],by simp[go_sem,e24],l,?_,?_,?_,?_,?_,h1,h2,fun t=>?_⟩
     .simp only[qL]
      rw[hget _ _ 0 (by omega),k0]
     .simp only[qL]
      rw[hget _ _ 1 (by omega),k1]
     .simp only[qL]
      rw[hget _ _ 2 (by omega),k2]
     .simp only[qL]
      rw[hget _ _ 3 (by omega),k3]
     .simp only[qL]
      rw[qp (by simpa using hlen),zb hlen]
     .simp only[h3,UF hx]
      constructor
      .rintro ⟨h,hb⟩;exact⟨.inl h,hb⟩
      .rintro ⟨h|rfl,hb⟩
       .exact ⟨h,hb⟩
       .exact absurd hb hxb
   .obtain ⟨rest,hm⟩:=four k0 k1 k2 k3
    simp[go_sem,e4,e5,e6,e7,e24,hm];refine Rd.aggs ⟨.hf _ (HF.sc _),Rd.setT rfl h1 (ha.nd.filter _) (fun t=>?_),trivial⟩;refine(h3 t).trans ?_;show (_/\_)↔t∈a.ts.filter fun t=>decide (t∈b.ts)
    rw[UG (by simpa using hall)];simp
 .simp [go_sem,h6,h14,h7]
  exact .hf _ (zH _)
end Y8
end Go.Proofs.YtkglmpmlfjogkaaGreatDoor
namespace Go.Ev
open Go Go.RowKit
theorem qi.of_still{P:Program}{f:FuncId}{args:List AV}{r:AV}{vs:Array Value}{v:Value}(hcal:jb P f)(hargs:∀(G:Gh) (h:Array Obj) (us:Array Value),zE G h args us->us=vs)
  (h:∀ w,Calls P f vs w fun e w'=>e = .returned v/\w'=w) (hv:∀(G:Gh) (h:Array Obj),VRel G h r v):qi P f args r:=by
 refine⟨hcal,fun imm w us hi ra=>?_⟩;rw[hargs _ _ _ ra];refine(h w).mono fun e w' ⟨he,hw⟩=>?_
 subst hw;exact⟨imm,v,he,fun _ hb=>hb,fun b hb=>⟨hi.imm b hb,.inl hb⟩,⟨Below.refl _ _,qr _⟩,hv _ _⟩
theorem qc4{G:Gh}{h:Array Obj}{a b:Value}{us:Array Value}(r:zE G h [.sc a,.sc b] us):us=#[a,b]:=by
 obtain⟨h1,h2⟩:=r;have r0:=h2 0 _ rfl;have r1:=h2 1 _ rfl;have hs:us.size=2:=by simpa using h1
 have e0:us.getD 0 undef=a:=by generalize us.getD 0 undef=x at r0;cases r0;rfl
 have e1:us.getD 1 undef=b:=by generalize us.getD 1 undef=x at r1;cases r1;rfl
 apply Array.ext
 .simpa using hs
 .intro i hi hi'
  have:i=0\/i=1:=by omega
  rcases this with rfl|rfl
  .simpa [qD,hi] using e0
  .simpa [qD,hi] using e1
theorem UH(w:World)(os:Array Obj)(b:Nat)(h:b<w.heap.size):(Sort.grow w os).heap[b]?=w.heap[b]?:=by
 show (w.heap++os)[b]?=_;rw[Array.getElem?_append_left h]
theorem Stp.grow{G:Gh}{mu:Mu}{w:World}(s:Sim G mu w.heap)(os:Array Obj):Stp G mu w G mu (Sort.grow w os):=by
 have hsz:w.heap.size<=(Sort.grow w os).heap.size:=by show _<=(w.heap++os).size;simp
 have he:Ext G w.heap (Sort.grow w os).heap:=⟨hsz,fun b hb=>UH w os b (s.imm b hb)⟩;refine⟨.refl G,⟨s.len,fun b hb=>ZX (s.imm b hb) hsz,?_,s.live,s.inj,s.tab.mono (fun _ h=>h) he.keep⟩,fun b hb _=>UH w os b hb,hsz,fun b h => .inl h,fun b h => .inl h,rfl,rfl,rfl,qr _⟩;intro i c blk tot hc hd hk;obtain⟨o,h1,h2⟩:=s.obj i c blk tot hc hd hk;exact⟨o,by rw[UH w os blk (zF.1 h1).1];exact h1,h2.mono (.refl G) he⟩
def srtI(zs:List Int):List Int:=zs.mergeSort fun x y=>decide (x<=y)
theorem Yr(zs:List Int):(srtI zs).length=zs.length:=List.length_mergeSort ..
theorem qc5{P:Program}{f:FuncId}(hcal:jb P f)
  (hsort:∀(blk off cap:Nat) (zs:List Int) (w:World),Sort.Holds (Value.int .i64) w blk off zs.toArray->blk<w.heap.size->zs.length<4611686018427387904 ->
   Calls P f #[.slice (some ⟨blk,off,none⟩) zs.length cap] w fun e w'=>e = .returned (.tuple #[])/\∃ n os,w'=Sort.grow (Sort.putRow (Value.int .i64) (Sort.ahead w n) blk off (zs.mergeSort fun x y=>decide (x<=y)).toArray) os)
  {mu:Mu} {b off:Nat} {cells:List AV} {zs:List Int} (hc:mu[b]?=some (.arr cells)) (hz:∀(k:Nat) (n:Int),zs[k]?=some n->cells[off+k]?=some (.sc (.int .i64 n))) (hl:zs.length<4611686018427387904) (hoff:off+zs.length<=cells.length) :
  qY P f [.sl b 1 off zs.length] mu fun e m=>e = .ret (.tup [])/\m=mu.set b (.arr (putCells cells off ((srtI zs).map fun n => .sc (.int .i64 n)))):=by
 refine⟨hcal,fun G w vs s ra=>?_⟩;obtain⟨v,rfl,rv⟩:=ra.one_inv;cases rv with
 |sl _ _ _ _ blk tot cap hb ht hlc =>
 obtain⟨arr,e0,h1,h2,h3,h4⟩:=s.arr b cells blk tot hc hb;have hcell:∀(k:Nat) (n:Int),zs[k]?=some n->arr[off+k]?=some (.int .i64 n):=by
  intro k n hk;have hx:=hz k n hk;have hr:=(h4 _ _ hx).2;have hlt:off+k<cells.length:=(qk.1 hx).1;have hlt':off+k<arr.size:=by omega
  have:arr.getD (off+k) undef = .int .i64 n:=by generalize arr.getD (off+k) undef=u at hr;cases hr;rfl
  rw[qD,ug hlt']at this;rw[ug hlt'];exact congrArg some this
 have hH:Sort.Holds (Value.int .i64) w blk off zs.toArray:=by
  intro j hj;have hj':j<zs.length:=by simpa using hj
  refine⟨?_,?_⟩
  .have:=hcell j zs[j] (qv hj')
   simp only[World.cell?,h1,Option.isSome_none,Bool.false_eq_true,if_false,this];rw[getElem!_pos zs.toArray j hj];rfl
  .simp only[World.frozen?,h1]
   simp
 have hblk:blk<w.heap.size:=(zF.1 h1).1;refine(hsort blk off cap zs w hH hblk hl).mono fun e w' ⟨he,n,os,hw⟩=>?_
 have hsl:=Yr zs
 have hput:(Sort.putRow (Value.int .i64) (Sort.ahead w n) blk off (srtI zs).toArray).heap[blk]?=some (.cells (Sort.putCells (Value.int .i64) off (srtI zs).toArray arr) e0 (0,0)):=by
  show (w.heap.modify blk (Sort.onCells _))[blk]?=_;rw[Array.getElem?_modify,if_pos rfl,h1];rfl
 have hoth:∀ k,k≠blk->(Sort.putRow (Value.int .i64) (Sort.ahead w n) blk off (srtI zs).toArray).heap[k]?=w.heap[k]?:=by
  intro k hk;show (w.heap.modify blk (Sort.onCells _))[k]?=_;rw[Array.getElem?_modify,if_neg (fun e=>hk e.symm)]
 have st1:Stp G mu w G (mu.set b (.arr (putCells cells off ((srtI zs).map fun n => .sc (.int .i64 n))))) (Sort.putRow (Value.int .i64) (Sort.ahead w n) blk off (srtI zs).toArray):=by
  refine Stp.write (hdr:=Nat.le_add_right _ _) s b (.arr cells) _ blk tot _ hc (by simp) (by simp) hb (by simp) hput hoth rfl rfl rfl ?_;have hfit:off+((srtI zs).map fun n=>AV.sc (.int .i64 n)).length<=cells.length:=by simp[hsl];exact hoff
  refine⟨_,e0,rfl,by simp[Sort.putCells,h2],by rw[yX _ _ _ hfit];simp;omega,fun j y hj=>?_⟩;rw[yX _ _ _ hfit,List.append_assoc]at hj;have hjl:j<arr.size:=by
   have:=(qk.1 hj).1;simp[hsl]at this;omega
  have hpc:(Sort.putCells (Value.int .i64) off (srtI zs).toArray arr).getD j undef=if off<=j/\j<off+(srtI zs).toArray.size then (Value.int .i64) (srtI zs).toArray[j-off]! else arr[j]:=by
   rw[qD,Sort.putCells,Array.getElem?_mapIdx,ug hjl];rfl
  rw[hpc];have hcl:(cells.take off).length=off:=by simp;omega
  by_cases hj1:j<off
  .rw [qp (by omega),List.getElem?_take,if_pos hj1]at hj
   rw[if_neg (by omega)];have:=h4 j y hj;rw[qD,ug hjl]at this;exact this
  .rw [qV (by omega),hcl]at hj
   by_cases hj2:j-off<(srtI zs).length
   .rw [qp (by simpa using hj2),zk,qv hj2]at hj
    simp only[q8,qn]at hj;subst hj;rw[if_pos (by simp;omega)];refine⟨rfl,?_⟩;rw[getElem!_pos (srtI zs).toArray (j-off) (by simpa using hj2)];exact .sc _ rfl
   .rw [qV (by simp;omega),List.getElem?_drop]at hj
    rw[if_neg (by simp;omega)];have e1:off+((srtI zs).map fun n=>AV.sc (.int .i64 n)).length+(j-off-((srtI zs).map fun n=>AV.sc (.int .i64 n)).length)=j:=by simp at hj2⊢;omega
    rw[e1]at hj;have:=h4 j y hj;rw[qD,ug hjl]at this;exact this
 have st2:=st1.trans s (Stp.grow st1.sim os);rw[show (srtI zs).toArray=(zs.mergeSort fun x y=>decide (x<=y)).toArray from rfl]at st2;rw[<-hw]at st2;exact⟨G,_,st2,.inl ⟨_,_,⟨rfl,rfl⟩,he,.tup [] #[] rfl (by simp)⟩⟩
end Go.Ev
