/-
  Own library, part 9: an abstract reading of values and a calculus over it; contracts of functions; plain lemmas.
-/
import Derived.Test.YtlnbdknjkmmgbaaGreatDoorRows
import Derived.LaidMore
import Derived.MakeChecks
import Derived.WalkKit
import Derived.JoinedCond
import Derived.Test.YtlnbdknjkmmgbaaGreatDoorMh
set_option linter.unusedVariables false
set_option linter.unusedSimpArgs false
set_option maxRecDepth 100000
set_option maxHeartbeats 1000000
open Go renaming Program->qb,FuncId->zZ,Oper->wg,Operand->zK,undef->uk,Value->qq,World->qf
open Go.Proofs.Tryz renaming prog->qc
open List renaming getElem?_eq_some_iff->qh,mem_map->qn,range->qs,getElem_mem->qt,getElem?_set_self->qz,getElem?_eq_getElem->qB,getElem?_append_left->qG,not_mem_nil->qK,mem_append->qO,mem_of_getElem?->qQ,mem_singleton->qS,all_eq_true->q8,drop_eq_getElem_cons->zg,length_append->zh,take_length->zi,map_append->zx,getElem?_map->zB,append_assoc->zG,getElem?_set_ne->zH,getD_eq_getElem?_getD->zT,drop_length->zU,getElem?_append_right->yd,append_nil->yg,length_cons->yh,length_map->yu,cons_append->yL,nil_append->jk,ext_getElem?->jZ,mem_iff_getElem->vY,length_take->ub,mem_of_mem_take->uo,getElem_map->Jk
open Nat renaming le_refl->qj,le_of_ble_eq_true->vX
open Go.IntKind renaming i64->ql
open Bool renaming and_eq_true->qD
open Int renaming tmod_eq_emod_of_nonneg->uq
namespace Go.Proofs.YtlnbdknjkmmgbaaGreatDoor
open Go Go.Ev Go.Proofs Tryz
namespace OC
open Go.RowKit Y1 Y9 P1 YF EO KA O0 KE KF O7 O9 OB
section
variable {args:List AV}
theorem tD{P f fn id o o2 g pl mu m R}(a5:yN P f)(hf:P.funcs[f]?=some fn)
  (hb:fn.body=some (.seq (.region id #[o,o2] false) g)) (ho:∃ d ty pos af,o={ dst:=d,op := .call { callee := .builtin .recover,args:=#[],argTypes:=af },type:=ty,pos:=pos,after:=#[],guard:=none })
  {x} (ag:∃ d ty pos ah,o2={ dst:=d,op := .assign x,type:=ty,pos:=pos,after:=ah,guard:=none })
  (hn:args.length<=fn.ntmps) (hd:dOkC fn.ntmps (.seq (.region id #[o,o2] false) g)=true) (hr:noRF g=true)
  (h:awp P pl g (uZ P fn.results.toList fun e l=>∃ r,e = .ret r/\R l) (((st0 args mu).put o.dst (m.getD (.sc .nilIface)) mu).put o2.dst (((st0 args mu).put o.dst (m.getD (.sc .nilIface)) mu).ev x) mu)):yG P f args mu m R:=by
 obtain⟨od,a6,T,a0,rfl⟩:=ho;obtain⟨pd,a7,a1,a8,rfl⟩:=ag;refine⟨a5,fun G w vs u s ra hm=>?_⟩;refine callsDIn_of_wpSIn hf hb trivial fun j cs hc=>?_
 have r0:Rel Ro.bare G mu w fn.ntmps G (st0 args mu) { tmps:=vs++Array.replicate (fn.ntmps-vs.size) uk,defers:=[] } w:=fM s ra hn;simp only[dOkC,qD]at hd;have ai:dOk fn.ntmps od=true:=by grind
 have aj:dOk fn.ntmps pd=true:=by grind
 refine wpSIn_seq (wpSIn_region ?_);have aa:∀ ev:zK->qq,(execOp ev { dst:=od,op := .call { callee := .builtin .recover,args:=#[],argTypes:=a0 },type:=a6,pos:=T,after:=#[],guard:=none }).run P w = .ok .recover w:=by
  simp_all[execOp,resolve,invoke,builtin]
 have a3:∀ ev:zK->qq,(execOp ev { dst:=pd,op := .assign x,type:=a7,pos:=a1,after:=a8,guard:=none }).run P w = .ok (.value (ev x)) w:=by
  intro ev;simp_all[execOp]
 have go:∀(a4:List Frame)(v:qq)(J:FrameMode),a4={ j with mode:=J } :: cs->settle J = .returning->VRel G w.heap (m.getD (.sc .nilIface)) v ->
   wpOpsSIn Fence.wide 0 P #[{ dst:=od,op := .call { callee := .builtin .recover,args:=#[],argTypes:=a0 },type:=a6,pos:=T,after:=#[],guard:=none },{ dst:=pd,op := .assign x,type:=a7,pos:=a1,after:=a8,guard:=none }] (Exit.thenS (g.wpSIn Fence.wide 0 P (bodyPostS P fn j cs fun e J w'=>∃ v G' l,e = .returned v/\settle J = .returning/\Stp G mu w G' l w'/\R l)) (bodyPostS P fn j cs fun e J w'=>∃ v G' l,e = .returned v/\settle J = .returning/\Stp G mu w G' l w'/\R l)) [1]
    (({ tmps:=vs++Array.replicate (fn.ntmps-vs.size) uk,defers:=[] }:Act).put od v) a4 w:=by
  intro a4 v J ad a2 hv;have r1:=r0.put s (Stp.refl s) hv ai;have ak:=r1.ev x;simp only[wpOpsSIn];refine⟨fun _ _=>trivial,?_⟩;simp only[Region.wanted,List.getElem_toArray,List.getElem_cons_succ,List.getElem_cons_zero,if_true];rw[a3];refine wpSIn_of_wpIn rfl ?_;refine V8 (pl:=pl) (n:=fn.ntmps) g (ro:=Ro.bare) s _ _ _ _ w G ?_ (r1.put s (Stp.refl s) ak aj) hd.2 (.inr hr) h;intro ae e U a w' G' hq r he;cases ae<;>cases e<;>simp only[ERel]at he
  .obtain ⟨z,hz,z',_,hR⟩:=hq
   obtain⟨u2,k1,k2⟩:=ZA (fn:=fn) r hz;exact⟨r.bare,J,ad,u2,k1,u2,G',U.mu,rfl,a2,r.stp,hR⟩
  .exact hq.elim
  .obtain ⟨z,hz,z',_,hR⟩:=hq
   obtain⟨u2,k1,k2⟩:=ZA (fn:=fn) r hz;exact⟨r.bare,J,ad,u2,k1,u2,G',U.mu,rfl,a2,r.stp,hR⟩
  .obtain ⟨z,hz,_⟩:=hq
   grind
 simp only[List.size_toArray,yh,List.length_nil,qs,qs.loop];rw[wpOpsSIn];refine⟨fun _ _=>trivial,?_⟩;simp only[Region.wanted,List.getElem_toArray,List.getElem_cons_succ,List.getElem_cons_zero,if_true];rw[aa];cases m with
 |none =>
  have hu:u = .returning:=hm;have C:recoverD (j :: cs)=none:=by simp[recoverD,hc,hu]
  rw[C];exact go _ .nilIface .returning (by rw[<-hu,<-hc]) rfl (.sc _ rfl)
 |some x =>
  obtain⟨v,hu,hv⟩:=hm;have C:recoverD (j :: cs)=some (v,{ j with mode := .panicking [{ v,recovered:=true }] } :: cs):=by simp[recoverD,hc,hu]
  rw[C];exact go _ v (.panicking [{ v,recovered:=true }]) rfl rfl hv
theorem tG{P f fn id ops c pl mu R}(g:yN P f)(hf:P.funcs[f]?=some fn)
  (I:fn.body=some (.seq (.region id ops false) (.scope c))) (J:args.length<=fn.ntmps) (j:dOkC fn.ntmps (.seq (.region id ops false) (.scope c))=true)
  (h:awpS P pl false ops ops.toList (fun st=>awpD P pl fn.results.toList R c st) (fun v st=>R (.pan v) st.mu) (st0 args mu)):qv P f args mu R:=by
 refine⟨g,fun G w t s T=>?_⟩;refine(callsIn_wide (n:=0)).1 (callsIn_of_wp_marks hf I trivial ?_);have U:Rel Ro.bare G mu w fn.ntmps G (st0 args mu) { tmps:=t++Array.replicate (fn.ntmps-t.size) uk,defers:=[] } w:=fM s T J;simp only[dOkC,qD]at j;have l:(ops.toList.all fun o=>dOk fn.ntmps o.dst)=true:=j.1;refine wpIn_seq (wpIn_region_list ?_);refine VY s ?_ ?_ ops.toList (st0 args mu) _ w G U l h
 .intro st a w G p r
  exact nt (wpIn_mono (nH (pl:=pl) s c st a w G r j.2 p) (fun e a w h=>by cases e<;>first|exact h|exact h.elim))
 .intro v st a w G u p r hv
  show LeavesInM _ _ _ _ _ _ _ _ _;rw[r.bare];exact⟨G,st.mu,r.stp,.inr ⟨v,u,p,rfl,hv⟩⟩
theorem cfN(mu b x)(i:mu[b]?=some (.arr [x])):yG qc 119 [.ptr b 0] mu none fun mu'=>mu'=mu:=by
 refine tD call119 func119 rfl ⟨_,_,_,_,rfl⟩ ⟨_,_,_,_,rfl⟩ (vX zKr) zKr zKr (pl:={}) ?_;simp[go_sem]
theorem cfP(mu b x)(i:mu[b]?=some (.arr [x])):yG qc 119 [.ptr b 0] mu (some cfV) fun mu'=>∃ c,mu'=mu.set b (.arr [aB false])++[c]:=by
 refine tD call119 func119 rfl ⟨_,_,_,_,rfl⟩ ⟨_,_,_,_,rfl⟩ (vX zKr) zKr zKr (pl:={}) ?_;have j:b<mu.length:=(qh.1 i).1;have l:∀ c:Cell,(mu++[c])[b]?=some (.arr [x]):=fun c=>by rw[qG j,i]
 have o:∀ c d:Cell,(mu++[c]).set b d=mu.set b d++[c]:=fun c d=>List.set_append_left b d j
 simp[go_sem,l,o]
inductive Al:Nd->Prop where
 |leaf {n:Nd}:n.op≠48->Al n
 |step {n k:Nd} {ks:List Nd}:n.op=48->n.sD=k :: ks->Al k->Al n
theorem qr8{n}(h:n.op≠48)(g):ya n g=(n,g):=by
 obtain⟨op,nm,i,ks,p⟩:=n;rw[ya];exact if_neg h
theorem qr9{n k ks}(h:n.op=48)(j:n.sD=k :: ks)(g):ya n g=ya k true:=by
 obtain⟨op,nm,i,l,p⟩:=n;cases j;rw[ya,Yv];exact if_pos h
structure EndF (p:Nat) (bv:AV) (ts:TS) (sc:Sc) (mu:Mu) (r:Option (List Bd)) (e:AEnd) (m:Mu):Prop where
 but:But2 p bv mu m
 fin:match r with
  |some bs=>e = .ret (aB true)/\∃ ch,NsW m p bv ts sc bs ch
  |none=>e = .ret (aB false)
variable {ts:TS} {sc:Sc}
structure FxO (ts:TS) (sc:Sc) (l:List Nd) (full:Bool) (p:Nat) (bv:AV) (mu:Mu) (R:Option (List Bd)) (bs1:List Bd) (ch1:Bool) (n:Nat) (st:St):Prop where
 e0:st.tm 0 = .ptr p 0
 e1:st.tm 1 = .lst full (l.map cNd)
 e4:st.tm 4 = .ptr mu.length 0
 hN:NsW st.mu p bv ts sc bs1 ch1
 hB:But2 p bv mu st.mu
 hz:st.mu[mu.length]?=some (.arr [aB false])
 hb:BdS ts (sumI sc.sC) bs1
 hg:gapL bs1<=n
 hR:fixN ts sc l (n+1) bs1=R
def FxOE(ts:TS)(sc:Sc)(l:List Nd)(full:Bool)(p:Nat)(bv:AV)(mu:Mu)(R:Option (List Bd))(n:Nat)(st:St):Prop:=∃ g i,FxO ts sc l full p bv mu R g i n st
structure FxM (ts:TS) (sc:Sc) (l:List Nd) (full:Bool) (p:Nat) (bv:AV) (mu:Mu) (R:Br) (k:Nat) (bs1:List Bd) (ch1:Bool) (n:Nat) (st:St):Prop where
 e0:st.tm 0 = .ptr p 0
 e1:st.tm 1 = .lst full (l.map cNd)
 e4:st.tm 4 = .ptr mu.length 0
 e12:st.tm 12 = .lst full (l.map cNd)
 e13:st.tm 13=aI l.length
 e14:st.tm 14=aI k
 hN:NsW st.mu p bv ts sc bs1 ch1
 hB:But2 p bv mu st.mu
 hz:st.mu[mu.length]?=some (.arr [aB false])
 hb:BdS ts (sumI sc.sC) bs1
 hk:n+k=l.length
 hR:yp ts sc (l.drop k) bs1 ch1=R
def FxME(ts:TS)(sc:Sc)(l:List Nd)(full:Bool)(p:Nat)(bv:AV)(mu:Mu)(R:Br)(n:Nat)(st:St):Prop:=∃ k g i,FxM ts sc l full p bv mu R k g i n st
structure FxS (l:List Nd) (full:Bool) (p:Nat) (b:Nat) (M:Mu) (n:Nd) (g:Bool) (k:Nat) (cur:Nd) (cg:Bool) (m:Nat) (st:St):Prop where
 e0:st.tm 0 = .ptr p 0
 e1:st.tm 1 = .lst full (l.map cNd)
 e4:st.tm 4 = .ptr b 0
 e6:st.tm 6 = .ptr M.length 0
 e7:st.tm 7=aB cg
 e12:st.tm 12 = .lst full (l.map cNd)
 e13:st.tm 13=aI l.length
 e14:st.tm 14=aI k
 hm:MuLe M st.mu
 hc:st.mu[M.length]?=some (.arr (cNd cur))
 ha:Al cur
 hs:ya cur cg=ya n g
 hn:szN cur<=m
def FxSE(l:List Nd)(full:Bool)(p b:Nat)(M:Mu)(n:Nd)(g:Bool)(k m:Nat)(st:St):Prop:=∃ cur i,FxS l full p b M n g k cur i m st
theorem fixM(C:NwC ts sc){l}(hl:TyL (arT ts) l)(ha:∀ n,n∈l->Al n)(bk:l.length<=1000000000){mu p bv bs ch full}(hN:NsW mu p bv ts sc bs ch)(hb:BdS ts (sumI sc.sC) bs) :
  qv qc 49 [.ptr p 0,.lst full (l.map cNd)] mu (EndF p bv ts sc mu (fixN ts sc l (gapL bs+1) bs)):=by
 generalize hR:fixN ts sc l (gapL bs+1) bs=R;have a5:mu.length≠p/\qu bv≠some mu.length:=by
  have hp:=(qh.1 hN.st).1;refine⟨zOm,fun e=>?_⟩;rcases hN.ow with ⟨rfl,_⟩|⟨q,rfl,hq,_⟩
  .cases e
  .cases e
   have:=(qh.1 hq).1;omega
 refine tG call49 func49 rfl (vX zKr) zKr (pl:={}) ?_;simp[go_sem];refine tJ (g:=119) (first:=[]) (caps:=[.ptr mu.length 0]) zSi call119 ?_;simp[go_sem];refine tW (FxOE ts sc l full p bv mu R) (gapL bs) ?_ ?_
 .exact ⟨bs,ch,⟨zSi,zSi,zSi,hN.le (MuLe.app (MuLe.refl _) _),tN (MuLe.app (MuLe.refl _) _),zSi,hb,qj _,hR⟩⟩
 rintro n U ⟨a4,bl,e0,e1,e4,aj,ak,al,ax,bm,o⟩;rw[fixN]at o;have I:=aj.st;have ay:=(qh.1 I).1;have aa:p≠mu.length:=fun e=>by rw[e,al]at I;simp at I
 have an:NsW (U.mu.set p (.arr (cNs ts sc bv (sumI sc.sC) false))) p bv ts sc a4 false:=by
  refine⟨qz ay,?_⟩;rcases aj.ow with h|⟨q,h1,h2,h3⟩
  .exact .inl h
  .exact .inr ⟨q,h1,by rw[zH (fun e=>h3 e.symm)];exact h2,h3⟩
 have ao:But2 p bv mu (U.mu.set p (.arr (cNs ts sc bv (sumI sc.sC) false))):=⟨by simp;exact ak.1,fun i hi h1 h2=>by rw[zH (fun e=>h1 e.symm)];exact ak.2 i hi h1 h2⟩;have aq:(U.mu.set p (.arr (cNs ts sc bv (sumI sc.sC) false)))[mu.length]?=some (.arr [aB false]):=by rw[zH aa];exact al
 generalize ar:yp ts sc l a4 false=RR at o;have step:=fun (b':List Bd) (c':Bool) (h:yp ts sc l a4 false=some (b',c'))=>ZP C.W l hl a4 b' false c' ax h
 simp[go_sem,e0,e1,e4,I];generalize b3:U.mu.set p (.arr [lSo ts.sS,lFl ts.sA,lPd ts.sT,lFa ts.sP,lI sc.sC,aI sc.sN,bv,aI (sumI sc.sC),AV.sc (Value.bool false)])=Mf;have b4:U.mu.set p (.arr (cNs ts sc bv (sumI sc.sC) false))=Mf:=b3;rw[b4]at an ao aq;refine tW (FxME ts sc l full p bv mu RR) l.length ?_ ?_
 .exact ⟨0,a4,false,⟨zS1 e0,zS1 e1,zS1 e4,zSi,zSi,zSi,zVs an,zVs ao,zVs aq,ax,zOm,zUs ar⟩⟩
 clear I ay aa an ao aq e0 e1 e4 aj ak al;rintro j st2 ⟨k,a0,a6,e0,e1,e4,J,P,T,a7,ab,a8,au,bn,t⟩;by_cases ad:k<l.length
 .rw [zg ad,yp]at t
  have I:=a7.st;have b5:=ha _ (qt ad);have b6:=hl _ (qt ad);generalize b7:l[k]=nn at *
  have az:MuLe st2.mu (st2.mu++[.arr (cNd nn)]):=MuLe.app (MuLe.refl _) _;have b0:=az _ _ I;simp[go_sem,e0,e1,e4,J,P,T,ad,b7,b0];refine tW (FxSE l full p mu.length st2.mu nn (decide (sc.sN=1)) k) (szN nn) ?_ ?_
  .exact ⟨nn,decide (sc.sN=1),⟨zS1 e0,zS1 e1,zS1 e4,zSi,zSi,zS1 J,zS1 P,zS1 T,zVs az,zSi,b5,rfl,qj _⟩⟩
  clear e0 e1 e4 J P T;rintro m st3 ⟨cur,cg,e0,e1,e4,e6,e7,J,P,T,ae,av,b8,af,bo⟩;by_cases a9:cur.op=48
  .cases b8 with
   |leaf h=>exact absurd a9 h
   | @step _ kk ks _ aw b9 =>
   have bq:szN kk<szN cur:=zf (by rw[aw];simp);have bb:=(qh.1 av).1;rw[qr9 a9 aw]at af;have hd:cNd kk++List.drop 5 (cNd cur)=cNd kk:=by cases cur;simp[cNd]
   simp[go_sem,e0,e1,e4,e6,e7,J,P,T,av,a9,aw,hd];refine⟨szN kk,zOm,⟨kk,true,⟨zS1 e0,zS1 e1,zS1 e4,zS1 e6,zSi,zS1 J,zS1 P,zS1 T,by simpa[go_sem] using MuLe.setN ae (qj _) _,zS1 bb,b9,af,qj _⟩⟩⟩
  .rw [qr8 a9]at af
   have bc:=a7.le ae;have w1:=zWk k;have ty:=b6 (decide (sc.sN=1));rw[<-af]at ty t;have ag:=ab.trans (tN (p:=p) (bv:=bv) ae);have ah:=ae _ _ a8;have c:=qr7 C ty cg bc au;have sp:=fun (b':List Bd) (c':Bool) (h:vg ts sc cg cur a0 a6=some (b',c'))=>UR C.W (Ks ty) cg a0 b' a6 c' au (by rw[<-Kr];exact h)
   simp only at t;simp[go_sem,e0,e1,e4,e6,e7,J,P,T,av,a9];refine fZ c (fun r m h=>?_) (fun r m h=>?_)
   .obtain ⟨b1,k1,a1,a2,a3,be⟩:=EndN.ret h
    subst a2;rw[a1]at t;have ai:m[mu.length]?=some (.arr [aB false]):=by
     rw[a3.2 _ (qh.1 ah).1 a5.1 a5.2];exact ah
    simp[go_sem,e0,e1,e4,e6,e7,J,P,T,w1];exact⟨l.length-(k+1),zOm,⟨k+1,b1,k1,⟨zS1 e0,zS1 e1,zS1 e4,zS1 J,zS1 P,zSi,zVs be,by simpa[go_sem] using ag.trans a3,zVs ai,(sp b1 k1 a1).v,zOm,t⟩⟩⟩
   .obtain ⟨a1,a2,a3⟩:=EndN.pan h
    rw[a1]at t;replace t:none=RR:=t;rw[<-t]at o;replace o:none=R:=o;subst o;subst a2;have ai:m[mu.length]?=some (.arr [aB false]):=by
     rw[a3.2 _ (qh.1 ah).1 a5.1 a5.2];exact ah
    have b2:=(qh.1 ai).1;simp[go_sem];refine yG.mono (cfP _ mu.length (aB false) ai) ?_;rintro _ ⟨c,rfl⟩;have hg:(m.set mu.length (.arr [aB false])++[c])[mu.length]?=some (.arr [aB false]):=by rw[qG (zUs b2)];exact qz b2
    rw[e4];simp[go_sem,hg];refine⟨⟨by have:=(ag.trans a3).1;simp;omega,fun i hi h1 h2=>?_⟩,rfl⟩;rw[qG (by have:=(ag.trans a3).1;simp;omega),zGl];exact(ag.trans a3).2 i hi h1 h2
 .have bg:k=l.length:=by omega
  subst bg;rw[zU]at t;replace t:some (a0,a6)=RR:=t;have I:=a7.st;have aa:p≠mu.length:=fun e=>by rw[e,a8]at I;simp at I
  have bh:=(qh.1 a8).1;rw[<-t]at o ar;have sp:=step a0 a6 ar;simp[go_sem,e0,e1,e4,J,P,T,I];cases a6 with
  |true =>
   replace o:fixN ts sc l n a0=R:=o;have bj:gapL a0<gapL a4:=by
    rcases sp.d rfl with h|h
    .cases h
    .exact h
   obtain⟨n',rfl⟩:∃ n',n=n'+1:=⟨n-1,zOm⟩;simp[go_sem];exact⟨n',zOm,a0,true,⟨zS1 e0,zS1 e1,zS1 e4,zVs a7,zVs ab,zVs a8,au,zOm,o⟩⟩
  |false =>
   replace o:some a0=R:=o;subst o;simp[go_sem,e0,e1,e4,a8];have hg:(st2.mu.set mu.length (.arr [aB true]))[mu.length]?=some (.arr [aB true]):=qz bh;refine yG.mono (cfN _ mu.length (aB true) hg) ?_;rintro _ rfl;simp[go_sem,hg];refine⟨⟨by simp;exact ab.1,fun i hi h1 h2=>?_⟩,rfl,false,?_,?_⟩
   .rw [zGl]
    exact ab.2 i hi h1 h2
   .rw [zH (fun e=>aa e.symm)]
    exact I
   .rcases a7.ow with h|⟨q,h1,h2,h3⟩
    .exact .inl h
    .exact .inr ⟨q,h1,by rw[zH (fun e=>a5.2 (by rw[h1,e];rfl))];exact h2,h3⟩
end
end OC
set_option maxHeartbeats 1000000
namespace OE
open Y1 Y9 P1 P2 PF YE YF E1 EO F4 GF GR KA O0 O8 OC OD IB YG Y16 Q4
theorem Vx:∀ m n,szN n<=m->WfN n->((conj n).length:Int)<=cntT n
 | 0,n,p,_=>by obtain⟨op,nm,i,ks,q⟩:=n;simp[szN]at p
 |m+1,n,p,j=>by
  by_cases l:n.op=41
  .obtain ⟨a,b,g⟩:=shp2 j l
   have t:=zf (n:=n) (k:=a) (by rw[g];simp);have I:=zf (n:=n) (k:=b) (by rw[g];simp);have C:=Vx m a zOm (j.kid (by rw[g];simp));have J:=Vx m b zOm (j.kid (by rw[g];simp));rw[OD.Wg l g,zh,Vb,g];simp only[yS];omega
  by_cases o:n.op=48
  .obtain ⟨a,g⟩:=shp1 j o
   have t:=zf (n:=n) (k:=a) (by rw[g];simp);have C:=Vx m a zOm (j.kid (by rw[g];simp));rw[ph o g,yu,Vb,g];simp only[yS];omega
  rw[pi l o];have:=UZ n;simpa using this
def Lst(mu:Mu)(i:Nat)(l:List Nd):Prop:=∃ g,mu[i]?=some (.arr [g])/\Own mu 5 g (l.map cNd)/\qu g≠some i
def addL(ts:TS)(n:Nd)(l:List Nd):List Nd:=if (qU ts n).2=0 then l++conj (qU ts n).1 else l
theorem addM{ts}(S:SpD ts)(hk:yY ts=[]){n}(hn:qT n=true){mu t l}(hl:l.length<=1000000000)(h:Lst mu t l) :
  qv qc 46 [eNd n,.ip (cTS ts),.ptr t 0] mu fun e m=>e = .ret (aI (qU ts n).2)/\Lst m t (addL ts n l):=by
 have ci:=inlC S hk hn;have hv:=fun I=>pf S hk hn I
 unfold addL;generalize qU ts n=q at *
 obtain⟨x,e⟩:=q;obtain⟨lv,hb,ho,J⟩:=h;have a0:=(qh.1 hb).1;refine qSW call46 func46 rfl {} ?_;simp[go_sem];refine tU ci (.zk (zw ts) (.zk (qE n) .nil)) ?_;have g:(mu++[Cell.arr (cNd x)])[t]?=some (.arr [lv]):=by rw[qG a0];exact hb
 have P:Own (mu++[Cell.arr (cNd x)]) 5 lv (l.map cNd):=by
  rcases ho with h|⟨b,h1,h2⟩
  .exact .inl h
  .exact .inr ⟨b,h1,by rw[qG (qh.1 h2).1];exact h2⟩
 by_cases I:e=0
 .have C:=hv I
  have hc:=Vx _ x (qj _) (jr C);have h4:cntT x<=400:=(uI.1 C).2.2.1;have cj:=Vw _ x (qj _) (jr C) zOm;simp only[I,if_true]at *
  simp[go_sem];refine fG [0,1,2,3,4] [(0,0,[]),(1,0,[]),(2,1,[0]),(3,1,[]),(4,1,[])] zKr zKr zSi ?_;simp[go_sem,g];refine tU cj (.zk (qE x) .nil) ?_;simp[go_sem,g];refine qw.ownB (sz:=5) (e:=34) (bt:=64) (zv := .agg [aI 0,aS ⟨#[]⟩,aI 0,.lst true [],aI 0]) (xs:=l.map cNd) (ys:=(conj x).map cNd) zSi zSi zSi rfl rfl zOm zOm P (by simp[qA]) (Y1.Yh _) (Y1.Yh _) zSo ?_;intro R o i a1 a2 a3;rw[<-zx]at i;have T:o[t]?=some (.arr [lv]):=by rw[a1 t zSo J];exact g
  have U:=(qh.1 T).1;have j:qu R≠some t:=fun e=>by have:=a2 _ e;simp at this;omega
  simp[go_sem,T,Own.one i,Own.cells i];refine⟨R,qz U,?_,j⟩;rcases i with h|⟨b,h1,h2⟩
  .exact .inl h
  .exact .inr ⟨b,h1,by rw[zH (fun e=>j (by rw[h1,e];rfl))];exact h2⟩
 .simp [go_sem,I]
  exact⟨lv,g,P,J⟩
end OE
set_option maxHeartbeats 1000000
namespace OF
open Y1 Y9 P1 P2 PF YE YF E1 E4 EO F4 GF GR KA KR O0 O7 O8 OC OD IB YG KE Y16 Q4 EQ ER O4 O9 OE
section
variable {ts:TS}
theorem tB{P mu}{t g e sz bt:Nat}{full ys zv K}(p:qH P t=some (e,sz,bt))(i:(qH P g).isSome=true)(C:qC P e=some zv)
  (j:zv.cells.length=sz) (l:zv.cells.all AV.one=true) (o:sz≠0) (I:bt<=16384) (J:qW sz ys) (R:ys.length<=4294967296) (T:ys=[]->K (.lst true []) mu) (k:ys≠[]->K (.sl mu.length sz 0 ys.length) (mu++[.arr ys.flatten])):qw P mu #[t,g] (.lst true []) (.lst full ys) K:=by
 refine .inl ⟨t,g,e,sz,bt,ys,rfl,p,i,⟨zv,C,j,l⟩,o,I,by simp[qA],J,.inl ⟨[],rfl,fun r U=>by simp at U,zUs R,fun h=>?_,fun h=>?_⟩⟩
 .exact T h
 .have:=k h
  simpa using this
def CloB(mu m:Mu)(bv:AV)(bs:List Bd):Prop:=MuLe mu m/\((bv = .lst true []/\bs=[])\/∃ q,bv = .sl q 4 0 bs.length/\m[q]?=some (.arr (bs.map cBd).flatten)/\mu.length<=q)
theorem qsA(mu bs)(i:bs.length<=1000000000):qv qc 48 [lBd bs] mu fun e m=>∃ bv,e = .ret bv/\CloB mu m bv bs:=by
 refine qSW call48 func48 rfl {} ?_;have g:=Qj bs;cases bs with
 |nil =>
  simp[go_sem,lBd];refine⟨⟨MuLe.refl _,.inl ⟨rfl,rfl⟩⟩,?_⟩;refine tB (sz:=4) (e:=42) (bt:=64) (zv := .agg cZ4) (ys:=[]) zSi zSi zSi rfl rfl zOm zOm g zSp (fun _=>?_) (fun h=>absurd rfl h);simp[go_sem];exact⟨MuLe.refl _,.inl ⟨rfl,rfl⟩⟩
 |cons x l =>
  simp[go_sem,lBd];refine tB (sz:=4) (e:=42) (bt:=64) (zv := .agg cZ4) (ys:=(x :: l).map cBd) zSi zSi zSi rfl rfl zOm zOm g (by simp at i⊢;omega) (fun h=>by cases h) (fun _=>?_);simp[go_sem];exact⟨MuLe.app (MuLe.refl _) _,.inr ⟨mu.length,zSp,zSp,qj _⟩⟩
def appR(l:List Nd):Except Int (List Nd)->Except Int (List Nd)
 | .ok r => .ok (l++r)
 | .error e => .error e
theorem qfC(x):appR [] x=x:=by cases x<;>rfl
theorem qfD(ts l n k):appR l (zM ts (n :: k))=if (qU ts n).2=0 then appR (OE.addL ts n l) (zM ts k) else .error (qU ts n).2:=by
 rw[zM];by_cases h:(qU ts n).2=0
 .rw [if_pos h,if_pos h]
  unfold OE.addL;rw[if_pos h];cases zM ts k with
  |ok r=>simp[appR]
  |error e=>rfl
 .rw [if_neg h,if_neg h];rfl
theorem Ut(S:SpD ts)(i:yY ts=[]){n}(j:qT n=true)(l):(OE.addL ts n l).length<=l.length+400:=by
 unfold OE.addL;split
 .rename_i o
  have g:=pf S i j o;have p:=Vx _ _ (qj _) (jr g);have t:cntT (qU ts n).1<=400:=(uI.1 g).2.2.1;rw[zh];omega
 .omega
theorem qfE:∀ m n,szN n<=m->WfN n->Al n
 | 0,n,j,_=>by obtain⟨op,nm,i,ks,q⟩:=n;simp[szN]at j
 |m+1,n,j,l=>by
  by_cases o:n.op=48
  .obtain ⟨a,g⟩:=shp1 l o
   have p:=zf (n:=n) (k:=a) (by rw[g];simp);exact .step o g (qfE m a zOm (l.kid (by rw[g];simp)))
  .exact .leaf o
theorem Wx:∀ m n,szN n<=m->WfN n->∀ y,y∈conj n->Al y
 | 0,n,t,_=>by obtain⟨op,nm,i,ks,q⟩:=n;simp[szN]at t
 |m+1,n,t,j=>fun y l=>by
  by_cases o:n.op=41
  .obtain ⟨a,b,g⟩:=shp2 j o
   have I:=zf (n:=n) (k:=a) (by rw[g];simp);have P:=zf (n:=n) (k:=b) (by rw[g];simp);rw[OD.Wg o g]at l;rcases qO.1 l with h|h
   .exact Wx m a zOm (j.kid (by rw[g];simp)) y h
   .exact Wx m b zOm (j.kid (by rw[g];simp)) y h
  by_cases p:n.op=48
  .obtain ⟨a,g⟩:=shp1 j p
   have I:=zf (n:=n) (k:=a) (by rw[g];simp);rw[ph p g]at l;obtain⟨z,J,rfl⟩:=qn.1 l;have C:=Wx m a zOm (j.kid (by rw[g];simp)) z J;unfold vf;split
   .exact C
   .exact .step rfl rfl C
  .rw [pi o p,qS]at l
   subst l;exact qfE _ _ (qj _) j
theorem qfF(h:okTS ts)(i:∀ p,p∈ts.sT->qT p.body=true)(j:yY ts=[]):∀(a){l},(∀ n,n∈a->qT n=true)->zM ts a = .ok l->∀ y,y∈l->Al y
 | [],l,_,e=>by cases e;exact fun n t=>absurd t qK
 |n :: a,l,o,e=>by
  rw[zM]at e;split at e
  .rename_i C
   split at e
   .rename_i r I
    cases e;have J:=qfF h i j a (fun x g=>o x (List.mem_cons_of_mem _ g)) I;obtain⟨P,R,_⟩:=qdO h i j (o n (List.mem_cons_self ..)) (Prod.ext rfl C:qU ts n=((qU ts n).1,0));exact fun x g=>(qO.1 g).elim (Wx _ _ (qj _) (jr P) x) (J x)
   .cases e
  .cases e
def outF:Except Int (List Bd)->AV
 | .ok x => .tup [lBd x,aI 0]
 | .error e => .tup [lBd [],aI e]
theorem Rd.tups{mu xs ys}(h:Rds mu xs ys):Rd mu (.tup xs) (.tup ys) := .tup _ _ h.get.1 h.get.2
theorem pw(mu e):Rd mu (.tup [.lst true [],aI e]) (outF (.error e)):=Rd.tups ⟨.wk _ true _ (.hf _ (HF.lst fun r g=>by simp at g)),.hf _ (HF.sc _),trivial⟩
theorem qsB{sc bs}(C:NwC ts sc)(F:FitK ts sc bs)(S:SpD ts){n}(hn:qT n=true):qg qc 16 [eTS ts,eSc sc,lBd bs,eNd n] (outF (fixL ts sc bs n)):=by
 have hF:fixL ts sc bs n=(match appR [] (zM ts (ts.sP.map Prod.snd++[n])) with
  | .error e => .error e
  | .ok l=>match fixN ts sc l (gapL bs+1) bs with
   |none => .error 100
   |some x => .ok x):=by rw[qfC];rfl
 have a6:appR [] (zM ts (ts.sP.map Prod.snd++[n]))=zM ts (ts.sP.map Prod.snd++[n]):=qfC _;rw[hF];generalize hR:appR [] (zM ts (ts.sP.map Prod.snd++[n]))=R;have aw:ts.sP.length<=1000000:=zW1 S.h.nfa;refine qSQ call16 func16 rfl { mt:=[46] } ?_;simp[go_sem];refine aA ts.sP.length (fun k U=>U.tm 2=lBd bs/\U.tm 4 = .ip (cTS ts)/\U.tm 5 = .ip [lI sc.sC,aI sc.sN]/\U.tm 7 = .ip (cNd n)/\U.tm 10 = .ptr 0 0/\U.tm 11 = .fn (.func 46) [] [.ip (cTS ts),.ptr 0 0]/\U.tm 19=lFa ts.sP/\U.tm 20=aI ts.sP.length/\U.tm 21=aI k
  /\ ∃ l,Lst U.mu 0 l/\l.length<=400*k/\appR l (zM ts ((ts.sP.map Prod.snd).drop k++[n]))=R) ?_ ?_
 .refine ⟨zSi,zSi,zSi,zSi,zSi,zSi,zSi,zSi,zSi,[],⟨.lst true [],zSi,.inl rfl,by simp[qu]⟩,zSp,hR⟩
 rintro k U ax ⟨e2,e4,e5,e7,p,J,T,a0,a1,l,hL,ay,j⟩;have ag:∀ c:Cell,Lst (U.mu++[c]) 0 l:=fun c=>by
  obtain⟨lv,o,I,h3⟩:=hL;refine⟨lv,by rw[qG (qh.1 o).1];exact o,?_,h3⟩;rcases I with h|⟨b,h4,h5⟩
  .exact .inl h
  .exact .inr ⟨b,h4,by rw[qG (qh.1 h5).1];exact h5⟩
 by_cases a2:k<ts.sP.length
 .have w1:=zWk k
  have a7:k<(ts.sP.map Prod.snd).length:=zUs a2;rw[zg a7,yL,qfD]at j;have hv:=F.f _ (qt a2);simp only[Jk]at j;generalize hf:ts.sP[k]=f at *
  obtain⟨fn,fb⟩:=f;simp only at hv j;have ca:=addM S F.k hv zOm (ag (.arr (cFa (fn,fb))));have al:=Ut S F.k hv l;simp[go_sem,e2,e4,e5,e7,p,J,T,a0,a1,a2,hf];refine fY ca (fun r m h=>?_) (fun r m h=>by cases h.1);obtain⟨o,I⟩:=h;cases o;by_cases he:(qU ts fb).2=0
  .rw [if_pos he]at j
   simp[go_sem,e2,e4,e5,e7,p,J,T,a0,a1,he,w1]
   try refine⟨a2,aC ?_⟩
   try refine aC ?_
   refine⟨zS1 e2,zS1 e4,zS1 e5,by simp[go_sem,e7],zS1 p,zS1 J,zS1 T,zS1 a0,zSi,OE.addL ts fb l,zVs I,zOm,j⟩
  .rw [if_neg he]at j
   subst j;simp[go_sem,he];exact pw _ _
 .have ah:k=ts.sP.length:=by omega
  subst ah;rw[List.drop_of_length_le zSp,jk,qfD]at j;have ca:=addM S F.k hn zOm hL;have al:=Ut S F.k hn l;simp[go_sem,e2,e4,e5,e7,p,J,T,a0,a1];refine fY ca (fun r m h=>?_) (fun r m h=>by cases h.1);obtain⟨o,I⟩:=h;cases o;by_cases he:(qU ts n).2=0
  .rw [if_pos he]at j
   rw[zM]at j;simp only[appR,yg]at j;subst j;simp[go_sem,e2,e4,e5,e7,p,J,T,a0,a1,he];have ty:=ZU F.h F.v F.k _ (ZV F hn) (a6.symm.trans hR);have ai:=qfF F.h F.v F.k _ (ZV F hn) (a6.symm.trans hR);generalize OE.addL ts n l=L at *
   refine fG [0,1,2,4,3,5,6,7,8] [(0,0,[]),(1,0,[]),(2,0,[]),(4,0,[]),(3,1,[0,1,4]),(5,1,[0,1]),(6,0,[]),(7,1,[]),(8,0,[])] zKr zKr zSi ?_;simp[go_sem,e2,e4,e5,e7,p];refine fZ (qsA m bs (zW2 C.nf F.b.b.1)) (fun r m3 h=>?_) (fun r m3 h=>by obtain⟨_,h,_⟩:=h;cases h);obtain⟨bv,o,a4,a3⟩:=h;cases o;simp[go_sem,e2,e4,e5,e7,p];refine tU (ZL sc C.W.s.g) (.zk (zD _) .nil) ?_;have aj:r.cells=[r]:=by rcases a3 with ⟨h,_⟩|⟨q,h,_⟩<;>rw[h]<;>rfl
   have ak:r.one=true:=by rcases a3 with ⟨h,_⟩|⟨q,h,_⟩<;>rw[h]<;>rfl
   obtain⟨lv,an,ho,az⟩:=I;have ao:=a4 _ _ an;have a5:∀ c:Cell,(m3++[c])[0]?=some (.arr [lv]):=fun c=>zA ao [c]
   have a8:∀(c:Cell)(h:0<(m3++[c]).length),(m3++[c])[0] = .arr [lv]:=fun c h=>by
    have:=a5 c;rw[qB h]at this;exact Option.some.inj this
   simp[go_sem,e2,e4,e5,e7,p,aj,ak,a5,a8];have hN:NsW (m3++[.arr (cNs ts sc r (sumI sc.sC) false)]) m3.length r ts sc bs false:=⟨zSp,by
    rcases a3 with h|⟨q,h,hq,hl⟩
    .exact .inl h
    .exact .inr ⟨q,h,zA hq _,by have:=(qh.1 hq).1;omega⟩⟩
   have a9:Own (m3++[.arr (cNs ts sc r (sumI sc.sC) false)]) 5 lv (L.map cNd):=by
    rcases ho with h|⟨b,o,I⟩
    .exact .inl h
    .exact .inr ⟨b,o,zA (a4 _ _ I) _⟩
   have aq:∀ b,qu lv=some b->b<m.length:=fun b e=>by
    rcases ho with h|⟨b',o,I⟩
    .rw [h]at e;cases e
    .rw [o]at e;cases e;exact(qh.1 I).1
   have ar:∀ b,qu r=some b->m.length<=b:=fun b e=>by
    rcases a3 with ⟨h,_⟩|⟨q,h,_,hl⟩
    .rw [h]at e;cases e
    .rw [h]at e;cases e;exact hl
   have b0:=MuLe.len a4;generalize aa:(m3++[Cell.arr [lSo ts.sS,lFl ts.sA,lPd ts.sT,lFa ts.sP,lI sc.sC,aI sc.sN,r,AV.sc (Value.int ql (sumI sc.sC)),AV.sc (Value.bool false)]])=M;have ab:m3++[Cell.arr (cNs ts sc r (sumI sc.sC) false)]=M:=aa;rw[ab]at hN a9;clear aa ab a5 a8;generalize m3.length=P at *
   let gv:Nat->Bool:=fun i=>!(decide (i=P)||decide (qu r=some i))
   have au:NsW (cutM (fun i=>!gv i) M 0) P r ts sc bs false:=by
    refine⟨?_,?_⟩
    .rw [j5,hN.st];simp[gv]
    .rcases hN.ow with h|⟨q,o,I,h3⟩
     .exact .inl h
     .exact .inr ⟨q,o,by rw[j5,I];simp[gv,o,qu],h3⟩
   have ad:Own (cutM gv M 0) 5 lv (L.map cNd):=by
    rcases a9 with h|⟨b,o,I⟩
    .exact .inl h
    .refine .inr ⟨b,o,?_⟩
     have b1:=aq b (by rw[o];rfl);rw[j5,I];have g1:b≠P:=zOm;have g2:qu r≠some b:=fun e=>zW1 (ar b e)
     simp[gv,g1,g2]
   have cf:=fixM C ty ai zOm (full:=false) au F.b;have cz:=qv.freeze (args:=[.ptr P 0,lv]) (args1:=[.ptr P 0,.lst false (L.map cNd)]) gv ⟨.inl rfl,.inr (Own.rd ad (Y1.Yh L).ok fun r hr c hc=>by
     obtain⟨x,_,rfl⟩:=qn.1 hr;exact y8 x c hc),trivial⟩ cf
   generalize fixN ts sc L (gapL bs+1) bs=FX at *
   refine fZ cz (fun r2 m4 h=>?_) (fun r2 m4 h=>?_)
   .obtain ⟨ae,t⟩:=h
    cases FX with
    |none =>
     cases t;simp[go_sem];exact pw _ _
    |some x =>
     obtain⟨o,ch,af⟩:=t;cases o;simp[go_sem,af.st];exact Rd.tups ⟨af.r.bv.rd,.hf _ (HF.sc _),trivial⟩
   .obtain ⟨ae,t⟩:=h
    cases FX with
    |none=>cases t
    |some x=>cases t.1
  .rw [if_neg he]at j
   subst j;simp[go_sem,he];exact pw _ _
end
end OF
namespace HE
end HE
namespace HF1
open GB
theorem qsC{a b:Ed}:a=b↔a.kind=b.kind/\a.state=b.state/\a.field=b.field/\a.tup=b.tup:=by
 cases a;cases b;simp
instance:DecidableEq Ed:=fun a b=>decidable_of_iff _ qsC.symm
end HF1
namespace HG
end HG
namespace HH
end HH
namespace HI
theorem qsD{J:Type}{p}{l:List J}{k}(h:k<l.length)(g:p l[k]=false):l.all p=false:=by
 cases e:l.all p with
 |false=>rfl
 |true=>rw[q8.1 e _ (qt h)]at g;cases g
theorem qsE{J:Type}{p}{l:List J}(h:∀(i)(g:i<l.length),p l[i]=true):l.all p=true:=q8.2 fun x j=>by
 obtain⟨i,g,rfl⟩:=vY.1 j;exact h i g
end HI
namespace HJ
open YF P1 E1 E4 G5 HI
theorem px{n r}(h:jz n r=true):zq r.ts:=by
 unfold jz at h;simp only[qD,decide_eq_true_eq]at h;exact h.2
def vB9(ts:TS)(sc:Sc)(f:Fld)(b:Bd):Bool:=decide (b.lo.ar=f.sS.length)&&(decide (b.up.ar=f.sS.length)&&(jz (sumI sc.sC) b.lo&&(jz (sumI sc.sC) b.up&&(inOk b.lo b.up&&inOk b.up ⟨f.sS.length,yJ sc f.sS⟩))))
theorem qsF(ts:TS)(sc bs)(g:GSc sc)(R:0<ts.sA.length->0<sumI sc.sC)(a2:ts.sA.length<=1000000)(hf:∀ f,f∈ts.sA->1<=f.sS.length/\f.sS.length<=3/\(∀ s,s∈f.sS->0<=s/\s<sc.sC.length)/\(yJ sc f.sS).length<=8000/\zq (yJ sc f.sS))
  (hb:∀ b,b∈bs->b.lo.ts.length<=1000000/\b.up.ts.length<=1000000):qg qc 34 [eTS ts,eSc sc,lBd bs] (aB (decide (bs.length=ts.sA.length)&&(ts.sA.zip bs).all fun p=>vB9 ts sc p.1 p.2)):=by
 refine qSV call34 func34 rfl ?_;by_cases T:bs.length=ts.sA.length
 case neg =>
  have a3:¬(bs.length:Int)=ts.sA.length:=zOm;simp[go_sem,T];exact .zsc _
 rw[decide_eq_true T,Bool.true_and];simp[go_sem,T];refine fR (Kg sc g) (.zk (zD _) .nil) ?_;refine aA bs.length (fun k U=>U.tm 2=lBd bs/\U.tm 3 = .ip (cTS ts)/\U.tm 4 = .ip [lI sc.sC,aI sc.sN]/\U.tm 7=aI (sumI sc.sC)/\U.tm 8=aI k/\∀(i:Nat)(h:i<k)(h1:i<ts.sA.length)(h2:i<bs.length),vB9 ts sc ts.sA[i] bs[i]=true) ?_ ?_
 .exact ⟨zSi,zSi,zSi,zSi,zSi,fun i h=>absurd h (Nat.not_lt_zero i)⟩
 rintro k U hk ⟨o,t,C,e7,I,P⟩;by_cases j:k<bs.length
 .have l:k<ts.sA.length:=by omega
  have hp:=R zOm;have w1:=zWk k;obtain⟨f1,f2,f3,f4,f5⟩:=hf _ (qt l);obtain⟨b1,b2⟩:=hb _ (qt j);have J:vB9 ts sc ts.sA[k] bs[k]=false->((ts.sA.zip bs).all fun p=>vB9 ts sc p.1 p.2)=false:=fun h=>qsD (k:=k) zSo (zUs h)
  by_cases c1:bs[k].lo.ar=ts.sA[k].sS.length
  case neg =>
   rw[J (by unfold vB9;rw[decide_eq_false c1];rfl)];simp[go_sem,o,t,C,e7,I,j,l,c1];exact .zsc _
  by_cases c2:bs[k].up.ar=ts.sA[k].sS.length
  case neg =>
   rw[J (by unfold vB9;rw[decide_eq_false c2];simp)];simp[go_sem,o,t,C,e7,I,j,l,c1,c2];exact .zsc _
  simp[go_sem,o,t,C,e7,I,j,l,c1,c2];refine tU (mJ (sumI sc.sC) bs[k].lo zOm) (.zs (.cons (by rw[<-c1];exact .hf (qx _)) .nil)) ?_;cases c3:jz (sumI sc.sC) bs[k].lo with
  |false =>
   rw[J (by unfold vB9;rw[c3];simp)];simp[go_sem,o,t,C,e7,I,j,l,c1,c2,c3];exact .zsc _
  |true =>
   simp[go_sem,o,t,C,e7,I,j,l,c1,c2,c3];refine tU (mJ (sumI sc.sC) bs[k].up zOm) (.zs (.cons (by rw[<-c2];exact .hf (qx _)) .nil)) ?_;cases c4:jz (sumI sc.sC) bs[k].up with
   |false =>
    rw[J (by unfold vB9;rw[c4];simp)];simp[go_sem,o,t,C,e7,I,j,l,c1,c2,c3,c4];exact .zsc _
   |true =>
    simp[go_sem,o,t,C,e7,I,j,l,c1,c2,c3,c4];refine tR zKr ?_;simp[go_sem,o,t,C,e7,I,j,l,c1,c2,c3,c4];refine tU (in06 bs[k].lo bs[k].up zOm zOm (px c4)) (.cons (by rw[<-c1];exact .hf (qx _)) (.cons (by rw[<-c2];exact .hf (qx _)) .nil)) ?_;cases c5:inOk bs[k].lo bs[k].up with
    |false =>
     rw[J (by unfold vB9;rw[c5];simp)];simp[go_sem,o,t,C,e7,I,j,l,c1,c2,c3,c4,c5];exact .zsc _
    |true =>
     simp[go_sem,o,t,C,e7,I,j,l,c1,c2,c3,c4,c5];refine tU (ql4 sc g hp ts.sA[k].sS f1 f2 f3) (.zk (zD _) (.zk (zC _) .nil)) ?_;simp[go_sem,o,t,C,e7,I,j,l,c1,c2,c3,c4,c5];refine tU (in06 bs[k].up ⟨ts.sA[k].sS.length,yJ sc ts.sA[k].sS⟩ zOm (by simp only;omega) f5) (.cons (by rw[<-c2];exact .hf (qx _)) (.zk (qx _) .nil)) ?_;cases c6:inOk bs[k].up ⟨ts.sA[k].sS.length,yJ sc ts.sA[k].sS⟩ with
     |false =>
      rw[J (by unfold vB9;rw[c6];simp)];simp[go_sem,o,t,C,e7,I,j,l,c1,c2,c3,c4,c5,c6];exact .zsc _
     |true =>
      have a0:vB9 ts sc ts.sA[k] bs[k]=true:=by unfold vB9;rw[c3,c4,c5,c6,decide_eq_true c1,decide_eq_true c2];rfl
      simp[go_sem,o,t,C,e7,I,j,l,c1,c2,c3,c4,c5,c6,w1]
      try refine⟨j,aC ?_⟩
      try refine aC ?_
      refine⟨zS1 o,zS1 t,zS1 C,by simp[go_sem,e7],zSi,fun i hi h1 h2=>?_⟩;by_cases h:i<k
      .exact P i h h1 h2
      .have:i=k:=by omega
       subst this;exact a0
 .have a1:((ts.sA.zip bs).all fun p=>vB9 ts sc p.1 p.2)=true:=qsE fun i hi=>by
   simp only[List.length_zip]at hi;simp only[List.getElem_zip];exact P i zOm zOm zOm
  rw[a1];simp[go_sem,o,I,show ¬k<bs.length from j];exact .zsc _
end HJ
set_option maxHeartbeats 1000000
namespace OK
open Y1 P1 YF E1 GR KR O0 IB E9 KE Y16 Q2 Q4 Q8 FE O9 G5 GQ GW HJ OJ KV OF IF
def vBs(ts:TS)(sc:Sc)(bs:List Bd):Bool:=decide (bs.length=ts.sA.length)&&(ts.sA.zip bs).all fun p=>vB9 ts sc p.1 p.2
theorem Jh{n}(h:vp n=true):qT n=true:=by
 unfold vp at h;simp only[qD]at h;exact h.2
theorem Vy{ts sc bs n}(P:wF ts sc bs n)(o:∀ x,x∈ts.sS->x.1.size<=4611686018427387904):SpD ts:=by
 have j:=P.sh;simp only[shpB,qD,q8]at j;have i:∀ p,p∈ts.sT->qT p.body=true/\p.params.length<=4:=fun p g=>by
  have:=P.tp p g;simp only[prT,qD,decide_eq_true_eq]at this;exact⟨Jh this.1,this.2⟩
 have l:∀ f,f∈ts.sP->qT f.2=true:=fun f hf=>Jh (P.tf f hf)
 refine⟨⟨P.so,zW1 P.fl,zW1 P.pr,zW1 P.fa,o,fun f hf=>?_,fun p g=>?_⟩,fun p g=>jr (i p g).1,fun f hf=>jr (l f hf),fun p g=>(i p g).1,l⟩
 .have:=j.1 f hf
  simp only[fldB,qD,decide_eq_true_eq,q8]at this;exact⟨this.1.1,this.1.2,this.2⟩
 .refine ⟨zW1 ((i p g).2),fun x t=>?_⟩
  have:=j.2 p g;simp only[prB,q8,srt1,qD,decide_eq_true_eq]at this;exact this x t
def f10(ts:TS)(sc:Sc)(bs:List Bd)(n:Nd):Bool:=Vv ts sc bs n (yY ts) (jI (spOf ts) sc) (vBs ts sc bs) (wkN 5 4 n) (qe5 ts 5 4 n)
theorem J3(ts)(i:∀ x,x∈ts.sS->x.1.size<=4611686018427387904)(sc bs n):qg qc 7 [eTS ts,eSc sc,lBd bs,eNd n] (aB (f10 ts sc bs n)):=by
 refine qrL ts sc bs n _ _ _ _ _ (fun P=>(Vy P i).chk) (fun P=>qk7 (spOf ts) sc (zW1 P.at4)) (fun h=>qaD sc (JZ h)) (fun P p l T C=>?_) (fun P=>k8 5 4 zOm zOm _ n (qj _) (jr (Jh P.tn)).small) (fun P p=>qrI (Vy P i) p 5 4 zOm zOm (Jh P.tn));have g:=JZ l;have S:=Vy P i;simp only[jI,qD,decide_eq_true_eq,q8]at l;obtain⟨⟨⟨⟨⟨j,U⟩,a3⟩,a4⟩,I⟩,a6⟩:=l;have j:sc.sC.length=ts.sS.length:=j;refine qsF ts sc bs g (fun t=>?_) (zW1 P.fl) (fun f hf=>?_) fun b J=>?_
 .have hf:=(S.h.fl _ (qt t)).2.2 _ (qt (n:=0) (zW1 ((S.h.fl _ (qt t)).1)))
  have o:sc.sC≠[]:=fun e=>by rw[e]at j;simp at j;omega
  have:=Kk o fun a R=>(I a R).1
  omega
 .obtain ⟨f1,f2,f3⟩:=S.h.fl f hf
  exact⟨f1,f2,fun s i=>zW1 (f3 s i),qbE sc g f.sS f2,qa6 _ _ _⟩
 .have:=q8.1 C b J
  simp only[sz1,qD,decide_eq_true_eq]at this;omega
structure F10 (ts:TS) (sc:Sc) (bs:List Bd) (n:Nd):Prop where
 P:wF ts sc bs n
 S:SpD ts
 k:yY ts=[]
 so:jI (spOf ts) sc=true
 a5:sumI sc.sC<=5
 vb:vBs ts sc bs=true
 hn:qT n=true
theorem py{ts sc bs n}(t:∀ x,x∈ts.sS->x.1.size<=4611686018427387904)(h:f10 ts sc bs n=true):F10 ts sc bs n:=by
 simp only[f10,Vv,qD,decide_eq_true_eq,q8]at h;obtain⟨C,I,J,R,T,U,p,h8,h9,g,i,j,l,a0,o,a1,a2⟩:=h;have P:wF ts sc bs n:=⟨C,I,J,R,T,U,p,h8,h9,g⟩;exact⟨P,Vy P t,List.length_eq_zero_iff.1 i,j,l,o,Jh p⟩
namespace F10
variable {ts:TS} {sc:Sc} {bs:List Bd} {n:Nd}
theorem sz(F:F10 ts sc bs n):UL sc=true/\ts.sS.length=sc.sC.length:=by
 have h:=F.so;simp only[jI,qD,decide_eq_true_eq,q8]at h;obtain⟨⟨⟨⟨⟨g,i⟩,j⟩,l⟩,o⟩,p⟩:=h;have g:sc.sC.length=ts.sS.length:=g;have i:ts.sS.length<=4:=i;refine⟨?_,g.symm⟩;simp only[UL,qD,decide_eq_true_eq,q8];exact⟨zOm,j,l,o,p⟩
theorem bnd(F:F10 ts sc bs n):BndV ts sc bs:=by
 have h:=F.vb;simp only[vBs,qD,decide_eq_true_eq,q8]at h;obtain⟨J,h⟩:=h;have p:∀(i:Nat)(g:i<bs.length)(l:i<ts.sA.length),vB9 ts sc ts.sA[i] bs[i]=true:=fun i g l=>by
  have P:i<(ts.sA.zip bs).length:=zSo;have:=h _ (qt P);simpa using this
 have I:∀ b,b∈bs->∃ f,f∈ts.sA/\vB9 ts sc f b=true:=fun b o=>by
  obtain⟨i,g,rfl⟩:=vY.1 o;exact⟨_,qt zOm,p i g zOm⟩
 refine⟨J,fun i g l=>?_,fun b o=>?_,fun b o t C=>?_,fun i g l t C=>?_⟩
 .have:=p i g l
  simp only[vB9,qD,decide_eq_true_eq]at this;exact⟨this.1,this.2.1⟩
 .obtain ⟨f,_,j⟩:=I b o
  simp only[vB9,qD,decide_eq_true_eq]at j;exact⟨px j.2.2.1,px j.2.2.2.1⟩
 .obtain ⟨f,_,j⟩:=I b o
  simp only[vB9,qD,decide_eq_true_eq]at j;have:=j.2.2.2.2.1;simp only[inOk,q8,decide_eq_true_eq]at this;exact this t C
 .have:=p i g l
  simp only[vB9,qD,decide_eq_true_eq]at this;have:=this.2.2.2.2.2;simp only[inOk,q8,decide_eq_true_eq]at this;exact this t C
theorem nws(F:F10 ts sc bs n):NwS ts sc:=by
 obtain⟨z,e⟩:=F.sz;have h:=F.so;simp only[jI,qD,decide_eq_true_eq,q8]at h;exact⟨⟨JZ F.so,e,fun a g=>(h.1.2 a g).1⟩,zW1 F.a5⟩
theorem nwc(F:F10 ts sc bs n):NwC ts sc:=⟨F.nws,zW1 F.P.fl,F.S.h.sl⟩
theorem fit9(F:F10 ts sc bs n)(i:0<ts.sA.length):Fit9 ts sc:=by
 obtain⟨z,e⟩:=F.sz;have h:=F.so;simp only[jI,qD,decide_eq_true_eq,q8]at h;obtain⟨⟨⟨⟨⟨C,I⟩,j⟩,l⟩,o⟩,J⟩:=h;have hf:=F.S.h.fl _ (qt i);have R:=hf.2.2 _ (qt (n:=0) zOm);have g:sc.sC≠[]:=fun q=>by
  rw[q]at e;have e:ts.sS.length=0:=e;omega
 have T:=Kk g fun a p=>(o a p).1
 exact⟨JZ F.so,zOm,zW1 F.P.fl,e,j,l,fun f hf=>⟨(F.S.h.fl f hf).1,(F.S.h.fl f hf).2.1⟩,fun f hf s t=>by rw[<-e];exact(F.S.h.fl f hf).2.2 s t⟩
theorem bds(F:F10 ts sc bs n):BdS ts (sumI sc.sC) bs:=by
 by_cases g:0<ts.sA.length
 .exact qpA (F.fit9 g) F.bnd
 .have j:=F.bnd.len
  have l:bs=[]:=List.length_eq_zero_iff.1 zOm;subst l;exact⟨⟨j,fun i h=>by simp at h⟩,fun x o=>by simp at o⟩
theorem fk(F:F10 ts sc bs n):FitK ts sc bs:=⟨F.S.h,F.S.hv,F.S.hf,F.k,F.nws,F.bds⟩
theorem fixU(F:F10 ts sc bs n){o}(g:qT o=true){b}(i:BdS ts (sumI sc.sC) b):qg qc 16 [eTS ts,eSc sc,lBd b,eNd o] (outF (fixL ts sc b o)):=
 qsB F.nwc ⟨F.S.h,F.S.hv,F.S.hf,F.k,F.nws,i⟩ F.S g
end F10
end OK
set_option maxHeartbeats 1000000
namespace OL
open Y1 P1 YF EO GF O0 OC E9 O9 GW OK
theorem qsG(ts sc bs)(g:GSc sc)(h0:ts.sA.length=0)(C:bs.length=ts.sA.length):qg qc 19 [eTS ts,eSc sc,lBd bs] (aB true):=by
 have T:ts.sA.length<=6:=zOm;have P:∀ i,i<ts.sA.length->False:=fun i h=>zOm
 have j:HF (.ip [lI sc.sC,aI sc.sN]):=HF.ip fun c o=>by simp at o;rcases o with rfl|rfl;exact zC _;exact HF.sc _
 have p:HF (.ip [aI (sumI sc.sC)]):=HF.ip fun c o=>by grind [HF.sc]
 have I:HF (.fn (.func 53) [] [.ip [aI (sumI sc.sC)],.ip [lI sc.sC,aI sc.sN]]):=HF.fn (fun c o=>by simp at o) (fun c o=>by simp at o;rcases o with rfl|rfl;exact p;exact j);have l:=qbF ts.sA bs C zOm _ _ _ rfl I fun i U h2=>⟨_,by simpa using WKs.zk (nF _) (.zk (z8 _) (.zk p (.zk j .nil))),(P i U).elim⟩
 refine qSU call19 func19 rfl ?_;refine fR (ZL sc g) (.zk (zD sc) .nil) ?_;refine fZ (qv.freeze (args1:=[.lst false (ts.sA.map jo),lBd bs,.fn (.func 53) [] [.ip [aI (sumI sc.sC)],.ip [lI sc.sC,aI sc.sN]]]) (fun _=>true) ⟨.inl rfl,.inl rfl,.inr ?_,trivial⟩ (qg.toSound _ l (.zk (ZH ts.sA) (.zk (jd _) (.zk I .nil))))) ?_ ?_
 .refine .fn _ _ _ _ _ rfl rfl (fun k x y t J=>by simp at t) (fun k x y t J=>?_)
  match k with
  | 0=>simp at t J;subst t;subst J;exact ER.Rd.ip1 (x:=aI (sumI sc.sC)) (by simp[cutM]) (.hf _ (HF.sc _))
  | 1=>simp at t J;subst t;subst J;exact .hf _ j
  |k+2=>simp at t
 .rintro r m ⟨h,rfl⟩
  cases h;simp[go_sem];exact .zsc _
 grind
theorem qsH{ts sc bs n}(F:F10 ts sc bs n){b}(g:BndV ts sc b):qg qc 19 [eTS ts,eSc sc,lBd b] (aB true):=by
 by_cases i:0<ts.sA.length
 .exact qmA ts sc b (F.fit9 i) (zW1 F.a5) g
 .exact qsG ts sc b (JZ F.so) zOm g.len
end OL
set_option maxHeartbeats 1000000
namespace OP
open E1 E4 EO F4 GF GR O0 O8 OC Y10 PD EQ ER O1 O9 OF
theorem qsI(a b)(hl:a.ts.length<=1000000000)(a1:b.ts.length<=1000000000)(hs:zq b.ts):qg qc 23 [eRel a,eRel b] (eRel (inR a b)):=by
 refine qSU call23 func23 rfl ?_;refine tV (fun m U=>∃ k j g,m=a.ts.length-k/\k<=a.ts.length/\U.tm 2 = .ip [aI a.ar,lI a.ts]/\U.tm 3 = .ip [aI b.ar,lI b.ts]/\U.tm 4 = .ptr 0 0/\U.tm 5 = .ptr 1 0/\U.tm 6=aI (k:Nat) /\
  U.mu=[.arr [aI 0,.lst true []],.arr [aI a.ar,j]]++g/\OwnF 2 ([.dead,.dead]++g) 1 j (((a.ts.take k).filter (fun t=>decide (t∈b.ts))).map rI)) a.ts.length ?_ ?_
 .exact ⟨0,.lst true [],[],zOm,zOm,zSi,zSi,zSi,zSi,zSi,zSi,by simpa using OwnF.nil zSp⟩
 rintro m U ⟨k,j,g,rfl,hk,P,e3,e4,e5,R,hm,C⟩;have C:=C.low (low:=[.dead,.dead]) (low':=[.arr [aI 0,.lst true []],.arr [aI a.ar,j]]) rfl;by_cases o:k<a.ts.length
 .simp [go_sem,P,R,o]
  refine tR zKr ?_;simp[go_sem,P,e3,R,o];refine tU (mK b a.ts[k] a1 hs) (.zk (qx b) (.zs .nil)) ?_;have a0:a.ts.take (k+1)=a.ts.take k++[a.ts[k]]:=by rw[List.take_add_one,qB o];rfl
  by_cases T:¬a.ts[k]∈b.ts
  .simp [go_sem,R,T]
   refine Keep.loop (a.ts.length-(k+1)) zOm ⟨k+1,j,g,rfl,zOm,zS1 P,zS1 e3,zS1 e4,zS1 e5,?_,zS1 hm,?_⟩
   .simp [go_sem];exact zWr
   .rw [a0,List.filter_append];simpa[go_sem,T] using C.low (low':=[.dead,.dead]) rfl
  .replace T:=Decidable.not_not.1 T
   simp[go_sem,T];refine tR zKr ?_;simp[go_sem,P,e5,R,o,hm];refine fU (low:=[.arr [aI 0,.lst true []],.arr [aI a.ar,j]]) (e:=3) (bt:=8) (z:=0) (xs:=(a.ts.take k).filter (fun t=>decide (t∈b.ts))) (ys:=[a.ts[k]]) zSi zSi zSi zOm C (by simp[qA]) ?_ ?_
   .have:=List.length_filter_le (fun t=>decide (t∈b.ts)) (a.ts.take k)
    have:=List.length_take_le k a.ts;have h3:[a.ts[k]].length=1:=rfl;omega
   intro a2 I J;simp[go_sem,e5,R,J.cells,J.one];refine Keep.loop (a.ts.length-(k+1)) zOm ⟨k+1,a2,I,rfl,zOm,zS1 P,zS1 e3,zS1 e4,zS1 e5,?_,zSi,?_⟩
   .simp [go_sem];exact zWr
   .rw [a0,List.filter_append]
    simpa[go_sem,T] using J.low (low':=[.dead,.dead]) rfl
 .have a3:k=a.ts.length:=by omega
  subst a3;simp[go_sem,P,e4,e5,R,hm,C.one];rw[zi]at C;simp at C;exact Rd.rel (r:=⟨a.ar,a.ts.filter (fun t=>decide (t∈b.ts))⟩) (C.low (low:=[.arr [aI 0,.lst true []],.arr [aI a.ar,j]]) (low':=[.arr [aI a.ar,j],.arr [aI a.ar,j]]) rfl).rdI
theorem qfG(a b)(hl:a.ts.length<=40000)(a0:b.ts.length<=40000):qg qc 24 [eRel a,eRel b] (eRel (unR a b)):=by
 refine qSU call24 func24 rfl ?_;refine qw.ints (lo:=1) (e:=3) (bt:=8) (z:=0) (xs:=[]) (ys:=a.ts) zSi zSi zSi zOm (OwnF.lit [] zSp) (by simp[qA]) zSo ?_;intro a1 a2 t C;have U:=C 0 zOm;simp at U;simp[go_sem];refine qw.ints (lo:=1) (e:=3) (bt:=8) (z:=0) (xs:=a.ts) (ys:=b.ts) zSi zSi zSi zOm (zUs t) (by simp[qA]) zOm ?_;intro j g o I;have J:=I 0 zOm;rw[U]at J;have a3:=(qh.1 J).1;simp[go_sem];have hB:∀ b,qu j=some b->1<=b:=fun b hb=>by
  cases j<;>simp[qu]at hb
  subst hb;exact o.2.1 _ _ _ _ rfl
 refine fZ (qv.freeze (args1:=[aI a.ar,lI (a.ts++b.ts)]) (fun i=>decide (1<=i)) ⟨.inl rfl,.inr (Own.rd (qa7 o.1 hB) (je _).ok fun r hr c hc=>by
  obtain⟨n,_,rfl⟩:=qn.1 hr;simp at hc;subst hc;exact HF.sc _),trivial⟩ (qg.toSound _ (of06 a.ar (a.ts++b.ts) zSo) (.zs (.zk (zC _) .nil)))) ?_ (by rintro r m ⟨h,_⟩;cases h)
 rintro r m ⟨h,rfl⟩;cases h;have zc:(cutM (fun i=>!decide (1<=i)) g 0)[0]?=some (.arr [aI 0,.lst true []]):=by rw[j5,J];simp
 have R:0<(cutM (fun i=>!decide (1<=i)) g 0).length:=(qh.1 zc).1;generalize a4:cutM (fun i=>!decide (1<=i)) g 0=CM at *
 have T:∀ c,(CM.set 0 c)[0]?=some c:=fun c=>qz R
 simp[go_sem,zc,T];exact .hf _ (qx (unR a b))
end OP
namespace I1
open EO EP EQ F4 GF GR
theorem qsJ(l x)(R:l.length<=1000000000):qg qc 124 [lI l,aI x] (aB (decide (x∈l))):=by
 refine qSU call124 func124 rfl ?_;refine qk.up l.length (fun k U=>U.tm 0=lI l/\U.tm 1=aI x/\U.tm 5=aI k/\U.mu=[]/\∀(i:Nat)(h:i<l.length),i<k->l[i]≠x) ?_ ?_
 .simp [go_sem]
 rintro k U T ⟨j,o,p,t,J⟩;by_cases g:k<l.length
 .by_cases C:l[k]=x
  .simp [go_sem,j,o,p,t,g,C]
   rw[decide_eq_true (by grind)];exact .zsc _
  .simp [go_sem,j,o,p,t,g,C]
   refine⟨zWr,fun i h P=>?_⟩;rcases Nat.lt_succ_iff_lt_or_eq.1 P with I|I
   .exact J i h I
   grind
 .simp [go_sem,j,o,p,t,g]
  rw[decide_eq_false (fun h=>by
   grind [vY])]
  exact .zsc _
def wG(k:Nat)(x:Bd)(j:Nat):List (Int×Int):=((x.up.ts.take j).filter fun t=>!decide (t∈x.lo.ts)).map fun t=>((k:Int),t)
theorem qsK(k x j h):wG k x (j+1)=wG k x j++(if x.up.ts[j]∈x.lo.ts then [] else [((k:Int),x.up.ts[j])]):=by
 unfold wG;rw[jg h,List.filter_append,zx];by_cases g:x.up.ts[j]∈x.lo.ts<;>simp[g]
theorem qsL(k x j):(wG k x j).length<=x.up.ts.length:=by
 grind [wG,yu,Nat.le_trans,List.length_filter_le,List.length_take_le']
theorem qsM(bs)(hl:bs.length<=1000)(T:∀ x,x∈bs->qa0 x):qg qc 56 [lBd bs] (lP (zt bs 0)):=by
 refine qSU call56 func56 rfl ?_;refine aA bs.length (fun k U=>U.tm 0=lBd bs/\U.tm 4=aI k/\Own U.mu 2 (U.tm 3) ((zt (bs.take k) 0).map rP)) ?_ ?_
 .exact ⟨zSi,zSi,.inl (by simp[go_sem,zt])⟩
 rintro k U hk ⟨i,t,C⟩;by_cases g:k<bs.length
 .have w1:=zWk k
  have hx:=T _ (qt g);have a1:=hx.up;have a2:=hx.lo;have a0:=Kc (bs.take k) 0 fun y hy=>T y (uo hy)
  have a3:(zt (bs.take k) 0).length<=1000000000:=by
   grind
  have I:=qlW bs k g;have J:wG k bs[k] bs[k].up.ts.length=Yt k bs[k]:=by unfold wG;rw[zi];rfl
  simp[go_sem,i,t,g];refine aA bs[k].up.ts.length (fun j st2=>st2.tm 0=lBd bs/\st2.tm 4=aI k/\st2.tm 5=aI j/\Own st2.mu 2 (st2.tm 3) ((zt (bs.take k) 0++wG k bs[k] j).map rP)) ?_ ?_
  .simp_all [go_sem,wG]
  clear i t C;rintro j st2 hj ⟨i,t,R,C⟩;by_cases o:j<bs[k].up.ts.length
  .have w2:=zWk j
   have hh:=qsJ bs[k].lo.ts bs[k].up.ts[j] zOm;have hs:=qsK k bs[k] j o;have a4:=qsL k bs[k] j;simp[go_sem,i,t,R,g,o];refine tR zKr ?_;simp[go_sem,i,t,R,g,o];refine tU hh (.zk (zC _) (.zs .nil)) ?_;by_cases hm:bs[k].up.ts[j]∈bs[k].lo.ts
   .simp_all [go_sem,if_pos,yg,aC]
   .rw [if_neg hm]at hs
    simp[go_sem,hm,i,t,R,g,o];refine qw.ownB (e:=115) (sz:=2) (bt:=16) (zv := .agg [aI 0,aI 0]) (xs:=(zt (bs.take k) 0++wG k bs[k] j).map rP) (ys:=[rP ((k:Int),bs[k].up.ts[j])]) zSi zSi zSi rfl rfl zOm zOm C (by simp[qA]) (Ka _) (Ka [_]) zSo ?_;simp_all[go_sem,aC,zG,zx]
  .have P:j=bs[k].up.ts.length:=by omega
   subst P;rw[J,<-I]at C;simp[go_sem,i,t,R,g,w1]
   try refine⟨g,aC ?_⟩
   try refine aC ?_
   exact⟨zS1 i,zSi,zVs C⟩
 .have P:k=bs.length:=by omega
  subst P;rw[zi]at C;simp[go_sem,i,t];exact cC C
end I1
namespace OS
open EP GF PD GS KX
theorem qfH(g):∀ l k st q,yz g (l++[q]) k st=if pkAt g (k+l.length)=true then put1 (yz g l k st) q else yz g l k st
 | [],k,st,q=>by simp[yz]
 |a :: l,k,st,q=>by
  rw[yL,yz,qfH g l (k+1) _ q,yz,yh,show k+1+l.length=k+(l.length+1) by omega]
theorem qsN(st q):(put1 st q).length=st.length:=by simp[put1]
theorem pz(g):∀ l k st,(yz g l k st).length=st.length
 | [],k,st=>rfl
 |a :: l,k,st=>by
  rw[yz,pz g l];split
  .exact qsN _ _
  .rfl
theorem qsO(i)(g:List (Int×Int))(k j st h):yz i (g.take (j+1)) k st=if pkAt i (k+j)=true then put1 (yz i (g.take j) k st) g[j] else yz i (g.take j) k st:=by
 rw[jg h,qfH,ub,Nat.min_eq_left zOm]
theorem qsP(i bs g){s}(h:s≠0):mdS i bs g s=fixS i (mdS i bs g 0) (yz g (zt bs 0) (s*(zt bs 0).length) (bs.map fun b=>b.lo)) bs.length:=by
 have j:=pz g (zt bs 0) (s*(zt bs 0).length) (bs.map fun b=>b.lo);rw[yu]at j;unfold mdS;rw[if_neg h,if_pos rfl];refine jZ fun f=>?_
 simp only[fixS,List.getElem?_mapIdx];cases l:(yz g (zt bs 0) (s*(zt bs 0).length) (bs.map fun b=>b.lo))[f]? with
 |none=>rfl
 |some r =>
  have o:=(qh.1 l).1;simp only[Option.map_some];congr 1;cases i.getD f true<;>simp[show f<bs.length by omega]
end OS
namespace W41
end W41
namespace I2
theorem Wy{sz}:∀{xs},ja sz xs->∀ i h j,j<sz->xs.flatten[i*sz+j]?=xs[i][j]?
 | [],_,i,h,j,l=>absurd h (Nat.not_lt_zero i)
 |r :: xs,w,i,h,j,l=>by
  have g:r.length=sz:=w r zSp;rw[List.flatten_cons];cases i with
  |zero=>grind
  |succ i =>
   rw[yd (by grind),g,show (i+1)*sz+j-sz=i*sz+j by rw[Nat.succ_mul];omega];exact Wy (fun r g=>w r (zP1 g)) i (zUs h) j l
end I2
set_option maxHeartbeats 1000000
namespace OG
open YM YF P1 P2 Y1 Y2 Y5 Y6 Y7 Y9 Y10 Y11 Y13 Y14 YV YW
theorem ins1(mu av i)(n:Nat)(t:n<=1):qv qc 214 [av,aI 0,aI n,i] mu fun e m=>e = .ret (.tup [])/\m=mu:=by
 refine qSW call214 func214 rfl {} ?_;have j:ql.wrap 1=1:=rfl;have g:¬(1:Int)<n:=zOm;simp[go_sem,j,g];refine tW (fun _ U=>U.tm 0=av/\U.tm 2=aI n/\U.tm 8=aI 1/\U.mu=mu) 0 ?_ ?_
 .simp [go_sem]
 rintro k U ⟨C,l,o,p⟩;simp[go_sem,l,o,g,p]
theorem pdq1(mu av g j)(n:Nat)(l:n<=1):qv qc 147 [av,aI 0,aI n,j,g] mu fun e m=>e = .ret (.tup [])/\m=mu:=by
 refine qSW call147 func147 rfl {} ?_;simp[go_sem];refine tW (fun _ U=>U.tm 0=av/\U.tm 1=aI 0/\U.tm 2=aI n/\U.tm 4=g/\U.mu=mu) 0 ?_ ?_
 .simp [go_sem]
 rintro k U ⟨o,p,t,C,I⟩;have J:ql.wrap (n:Int)=n:=zWr;have P:(n:Int)<=12:=zOm;simp[go_sem,o,p,t,C,J,P,I];refine fZ (ins1 mu av g n l) ?_ ?_
 .rintro r m ⟨i,rfl⟩
  cases i;simp[go_sem]
 .rintro r m ⟨i,_⟩
  cases i
theorem len64(n:Nat)(o:n<=1):qg qc 223 [.sc (.int .u64 n)] (aI n):=by
 refine qSV call223 func223 rfl ?_;have g:n=0\/n=1:=zOm;have i:Lib.len8tab.data[(IntKind.u8.wrap 0).toNat]?=some 0:=zKr;have q1:Lib.len8tab.data[(IntKind.u8.wrap 1).toNat]?=some 1:=zKr;have j:ql.wrap 0=0:=rfl;have l:ql.wrap 1=1:=rfl;rcases g with rfl|rfl
 .simp [go_sem,i,j]
  exact .zsc _
 .simp [go_sem,q1,l]
  exact .zsc _
theorem len1(n:Nat)(g:n<=1):qg qc 148 [.sc (.int .u64 n)] (aI n):=by
 refine qSU call148 func148 rfl ?_;refine fR (len64 n g) (.zs .nil) ?_;exact .zsc _
theorem qsQ(mu av j n)(i:n<=1)(o:(av = .lst true []/\n=0)\/∃ b,av = .sl b 1 0 n):qv qc 74 [av,j] mu fun e m=>e = .ret (.tup [])/\m=mu:=by
 have e:lenA qc mu 86 av=some (aI n):=by
  rcases o with ⟨rfl,rfl⟩|⟨b,rfl⟩<;>simp[go_sem]
 have p:IntKind.u64.wrap (n:Int)=n:=by
  have t:n=0\/n=1:=zOm;rcases t with rfl|rfl<;>rfl
 refine qSW call74 func74 rfl {} ?_;rcases o with ⟨rfl,rfl⟩|⟨b,rfl⟩
 .have l:IntKind.u64.wrap 0=0:=rfl
  simp[go_sem,l];refine fR (len1 0 i) (.zs .nil) ?_;refine fZ (pdq1 mu _ j _ 0 i) ?_ ?_
  .rintro r m ⟨g,rfl⟩
   cases g;simp[go_sem]
  .rintro r m ⟨g,_⟩
   cases g
 .simp [go_sem,p]
  refine fR (len1 n i) (.zs .nil) ?_;refine fZ (pdq1 mu _ j _ n i) ?_ ?_
  .rintro r m ⟨g,rfl⟩
   cases g;simp[go_sem]
  .rintro r m ⟨g,_⟩
   cases g
theorem qsR{mu av i L}(j:Own mu 1 av (L.map rL))(p:∀ zs,av = .lst true zs->zs=[])(l:L.length<=1) :
  qv qc 74 [av,i] mu fun e mu'=>e = .ret (.tup [])/\∃ L',L'.Perm L/\L'.Pairwise (fun x y=>¬cmpL y x<0)/\Rd mu' av (lL L'):=by
 have g:Rd mu av (lL L):=j.rd (qiR _).ok fun r g c o=>by
   obtain⟨q,_,rfl⟩:=qn.1 g;rw[qS]at o;subst o;exact zC q
 have t:L.Pairwise (fun x y=>¬cmpL y x<0):=by
  match L,l with
  | [],_=>exact .nil
  | [x],_=>exact List.pairwise_singleton _ _
 refine qv.monoR (qsQ mu av i L.length l ?_) ?_
 .rcases j with h|⟨b,h,_⟩
  .have:=p _ h
   have C:L=[]:=by simpa using this
   subst C;exact .inl ⟨h,rfl⟩
  .exact .inr ⟨b,zUs h⟩
 .rintro e m ⟨rfl,rfl⟩
  exact⟨rfl,L,.refl _,t,g⟩
theorem qsS(ts)(h:okTS ts)(hp:∀ p,p∈ts.sT->WfN p.body)(n)(hw:WfN n)(env)(he:Zb ts.sS.length env)(a7:∀ k,exam (mkCk ts ts.sT.length) (zz env) false n = .ok (some k)->k.ts.length<=1):qg qc 37 [eTS ts,lPm env,eNd n] (.tup [lL (Zc ts env n).1,aI (Zc ts env n).2]):=by
 refine qSV call37 func37 rfl ?_;by_cases a0:20<=n.op
 .simp [go_sem,a0,Zc]
  exact qaN [] 43
 .simp [go_sem,a0]
  have b0:WKs [.ip (cTS ts),.ip [lPm env],.ip (cNd n)] [.ip (cTS ts),.ip [lPm env],.ip (cNd n)] := .zk (HF.ip (Uo ts)) (.zk (HF.ip (by simp;exact wc env)) (.zk (HF.ip (y8 n)) .nil));have h1:=qlF ts h hp n hw env he (mu:=[.arr (cKo none)]++[.dead]) (b:=0) rfl;have ae:=jA (vu h (qj ts.sT.length)) (szN n) n (zz env) false;refine fZ (Xu (mu:=[.arr (cKo none)]) h1 ?_) ?_ ?_
  .intro v m I
   split at I
   .exact absurd I.1 zSp
   .cases I.1;exact⟨_,_,rfl⟩
  .rintro r m ⟨m',x,⟨l,rfl⟩,⟨r',I,hr⟩|⟨er,p,I,hr⟩⟩
   .cases hr
    split at I
    .rename_i ko hE
     obtain⟨_,rfl⟩:=I;have af:kd n.op=101:=qlE hw a0;obtain⟨k,rfl,hk⟩:=ae ko (qj _) hw (J2 he) hE af;have a2:Zc ts env n=(X7 k,0):=by
      unfold Zc;rw[if_neg a0,hE]
     rw[a2];simp[go_sem];refine qk.seen k.ts.length (fun seen U=>U.tm 8 = .ptr 0 0/\U.tm 27 = .ptr (l.length+3) 0/\U.mu[0]?=some (.arr (cKd k))/\U.mu[l.length+3]?=some (.it (eT k.ts) seen) /\
      OwnF (l.length+4) U.mu 1 (U.tm 10) (seen.map fun i=>rL (rowT k (k.ts.getD i [])))/\∀ zs,U.tm 10 = .lst true zs->zs=[]) ?_ ?_
     .refine ⟨zSi,zSi,zSi,zSi,?_,fun zs e=>?_⟩
      .simp [go_sem]
       exact OwnF.nil zSp
      .simp [go_sem]at e
       exact e
     .rintro seen U a8 g ⟨e8,a1,m0,mi,ho,ag⟩
      have a3:l.length+3<U.mu.length:=(qh.1 mi).1;have b2:seen.length<=k.ts.length:=Xz _ _ a8 g;have b3:=aZ hk h.ns;simp[go_sem,e8,a1];refine⟨l.length+3,eT k.ts,seen,rfl,mi,fun i e J a9=>?_,fun a4=>?_⟩
      .obtain ⟨t,ht,rfl⟩:=Qu J
       have ah:=hk.okK.len t (qQ ht);have ai:i<k.ts.length:=(qh.1 ht).1;have aa:∀(c:Cell)(lc:List Cell),((U.mu.set (l.length+3) c)++lc)[0]?=some (.arr (cKd k)):=fun c lc=>by
        rw[qG zSo,zGl];exact m0
       obtain⟨P,x1,x2,rfl⟩:∃ P x1 x2,t=[P,x1,x2]:=by
        match t,ah with
        | [P,x1,x2],_=>exact⟨_,_,_,rfl⟩
       have hq:∀(c c2:Cell),((U.mu.set (l.length+3) c)++[c2])[U.mu.length]?=some c2:=fun c c2=>by
        rw[yd zSp];simp
       simp[go_sem,-getElem?_pos,hq,List.getElem?_cons_zero,List.getElem?_cons_succ,e8,a1,J,a3,a9,mi,aa];have b4:=hk.ar;obtain⟨a,ha⟩:∃ a:Nat,k.ar=a:=⟨k.ar.toNat,zOm⟩;have b5:a<=3:=zOm;rw[ha,if_pos zOm];simp[go_sem];generalize hM:U.mu.set (l.length+3) (Cell.it (eT k.ts) (seen++[i]))++[Cell.arr [AV.sc (Value.int IntKind.i8 P),AV.sc (Value.int IntKind.i8 x1),AV.sc (Value.int IntKind.i8 x2)]]=M at *
       have b6:M.length=U.mu.length+1:=by rw[<-hM];simp
       have aj:M[U.mu.length]?=some (.arr [AV.sc (Value.int IntKind.i8 P),AV.sc (Value.int IntKind.i8 x1),AV.sc (Value.int IntKind.i8 x2)]):=by rw[<-hM];exact hq _ _
       refine aA a (fun j s=>s.tm 8 = .ptr 0 0/\s.tm 27 = .ptr (l.length+3) 0/\s.tm 10=U.tm 10/\s.tm 34 = .sl U.mu.length 0 0 a/\s.tm 35=aI a/\s.tm 36=aI j/\(∀ i,i<M.length->s.mu[i]?=M[i]?)/\OwnF M.length s.mu 1 (s.tm 12) (([P,x1,x2].take j).map rI)) ?_ ?_
       .refine ⟨zS1 e8,zS1 a1,zSi,zSi,zSi,zSi,zSi,?_⟩
        simp[go_sem];exact OwnF.nil (qj _)
       .rintro j s hj ⟨f8,f27,f10,f34,f35,f36,fm,fo⟩
        have fq:s.mu[U.mu.length]?=some (.arr [AV.sc (Value.int IntKind.i8 P),AV.sc (Value.int IntKind.i8 x1),AV.sc (Value.int IntKind.i8 x2)]):=by rw[fm _ zOm];exact aj
        by_cases ak:j=a
        .subst ak
         have g1:=fo.cells;have g2:=fo.one;simp[go_sem,f8,f27,f10,f34,f35,f36,g1,g2];have ab:(([P,x1,x2]:List Int).take j)=rowT k (k.ts.getD i []):=by
          rw[zT,ht];simp[rowT,ha]
         rw[ab]at fo;have R:∀ i,i<M.length->(cutM (fun i=>!decide (M.length<=i)) s.mu 0)[i]?=M[i]?:=fun i J=>by
          rw[j5,<-fm i J];simp only[Nat.zero_add,show ¬M.length<=i by omega,decide_false,Bool.not_false,if_true];cases s.mu[i]?<;>rfl
         have al:OwnF (l.length+4) (cutM (fun i=>!decide (M.length<=i)) s.mu 0) 1 (U.tm 10) (seen.map fun i=>rL (rowT k (k.ts.getD i []))):=by
          obtain⟨o1,o2,o3⟩:=ho;refine⟨?_,o2,by rw[jC];have:=fo.2.2;omega⟩;rcases o1 with o1|⟨b,o1,hc⟩
          .exact .inl o1
          .have b7:=o2 _ _ _ _ o1
           have an:=(qh.1 hc).1;refine .inr ⟨b,o1,?_⟩;rw[R b zOm,<-hM,qG (zUs an),zGl];exact hc
         have ao:Rd (cutM (fun i=>decide (M.length<=i)) s.mu 0) (s.tm 12) (lI (rowT k (k.ts.getD i []))):=UD fo (je _).ok fun r hr c hc=>by
          obtain⟨q,_,rfl⟩:=qn.1 hr;rw[qS]at hc;subst hc;exact HF.sc _
         refine qlG (x' := .lst true [[lI (rowT k (k.ts.getD i []))]]) (fun i=>decide (M.length<=i)) (lo:=l.length+4) (e:=28) (sz:=1) (bt:=24) (zv := .lst true []) (xs:=seen.map fun i=>rL (rowT k (k.ts.getD i []))) (ys:=[rL (rowT k (k.ts.getD i []))]) zSi zSi zSi rfl rfl zOm zOm (qlH ao) al (by simp[qA]) (qaO _ _) (qaO (fun i=>rowT k (k.ts.getD i [])) [i]) zSo zSp ?_;intro av o T C;simp[go_sem,f8,f27,f10,f34,f35,f36];refine⟨i,ai,a9,aC ?_⟩;refine⟨zS1 f8,zS1 f27,?_,?_,?_,fun zs e=>by simp[go_sem]at e⟩
         .simp only[qI]
          rw[C 0 zOm,R 0 zOm,<-hM];exact aa _ _
         .simp only[qI]
          rw[C _ zOm,R _ zOm,<-hM,qG (zUs a3),qz a3]
         .rw [zx]
          simpa[go_sem] using T
        .have g:j<a:=by omega
         have w1:=zWk j;have aq:j=0\/j=1\/j=2:=zOm;have z1:ql.wrap 1=1:=rfl;have z2:ql.wrap 2=2:=rfl;have z3:ql.wrap 3=3:=rfl;have a5:∀ x,x∈[P,x1,x2]->0<=x/\x<128:=cS hk h.ns (qQ ht);have v0:=a5 P zSp;have v1:=a5 x1 zSp;have v2:=a5 x2 zSp;have u0:ql.wrap P=P:=zWr;have u1:ql.wrap x1=x1:=zWr;have u2:ql.wrap x2=x2:=zWr;rcases aq with rfl|rfl|rfl
         .have c:(0:Int)<a:=by omega
          simp[go_sem,f8,f27,f10,f34,f35,f36,g,fq,w1,u0,u1,u2,c];refine qw.ints (lo:=M.length) (e:=3) (bt:=8) (z:=0) (xs:=[]) (ys:=[P]) zSi zSi zSi zOm (zUs fo) (by simp[qA]) zSp ?_;intro av o T C;simp[go_sem,f8,f27,f10,f34,f35,f36,z1,z2,z3];refine⟨g,aC ?_⟩;exact⟨zS1 f8,zS1 f27,by simp[go_sem,f10],zS1 f34,zS1 f35,zSi,fun i J=>by simp only[qI];rw[C i J];exact fm i J,zVs T⟩
         .have c:(1:Int)<a:=by omega
          simp[go_sem,f8,f27,f10,f34,f35,f36,g,fq,w1,u0,u1,u2,c];refine qw.ints (lo:=M.length) (e:=3) (bt:=8) (z:=0) (xs:=[P]) (ys:=[x1]) zSi zSi zSi zOm (zUs fo) (by simp[qA]) zSp ?_;intro av o T C;simp[go_sem,f8,f27,f10,f34,f35,f36,z1,z2,z3];refine⟨g,aC ?_⟩;exact⟨zS1 f8,zS1 f27,by simp[go_sem,f10],zS1 f34,zS1 f35,zSi,fun i J=>by simp only[qI];rw[C i J];exact fm i J,zVs T⟩
         .have c:(2:Int)<a:=by omega
          simp[go_sem,f8,f27,f10,f34,f35,f36,g,fq,w1,u0,u1,u2,c];refine qw.ints (lo:=M.length) (e:=3) (bt:=8) (z:=0) (xs:=[P,x1]) (ys:=[x2]) zSi zSi zSi zOm (zUs fo) (by simp[qA]) zSp ?_;intro av o T C;simp[go_sem,f8,f27,f10,f34,f35,f36,z1,z2,z3];refine⟨g,aC ?_⟩;exact⟨zS1 f8,zS1 f27,by simp[go_sem,f10],zS1 f34,zS1 f35,zSi,fun i J=>by simp only[qI];rw[C i J];exact fm i J,zVs T⟩
      .simp [go_sem,e8,a1]
       have a6:(seen.map fun i=>rowT k (k.ts.getD i [])).Perm (k.ts.map (rowT k)):=qlJ (rowT k) a8 g fun i J=>a4 i (zUs J)
       have b1:∀ x,x∈(seen.map fun i=>rowT k (k.ts.getD i []))->x.length<=3:=fun x hx=>by
        obtain⟨i,_,rfl⟩:=qn.1 hx;have:=hk.ar;simp only[rowT,ub];omega
       generalize hL:(seen.map fun i=>rowT k (k.ts.getD i []))=L at *
       have au:OwnF (l.length+4) U.mu 1 (U.tm 10) (L.map rL):=by
        rw[<-hL,List.map_map];exact ho
       have b8:L.length<=64:=by rw[<-hL,yu];omega
       refine fZ (qsR au.1 ag (by rw[<-hL,yu];have:=a7 k hE;omega)) ?_ ?_
       .rintro r m ⟨e,L',aw,ax,ad⟩
        cases e;have ay:L'=X7 k:=Us (aw.trans a6) ax;rw[ay]at ad;simp[go_sem];exact qlI ad 0
       .rintro r m ⟨e,_⟩;cases e
    .exact absurd I.1 zSp
   .cases hr
    split at I
    .exact absurd I.1 zSp
    .rename_i d hE
     obtain⟨I,rfl⟩:=I;cases I;have az:d.1≠0:=w7 _ (szN n) n _ _ _ (qj _) hE;have a2:Zc ts env n=([],d.1):=by
      unfold Zc;rw[if_neg a0,hE]
     rw[a2];simp[go_sem,az];refine fD ?_;exact qaN _ _
  .rintro r m ⟨m',x,⟨l,rfl⟩,⟨r',I,hr⟩|⟨er,p,I,hr⟩⟩<;>cases hr
end OG
set_option maxHeartbeats 1000000
namespace OH
open Y1 Y9 P1 YF E4 EO GF KA O0 KB KE Q6 ER O4 O9 Y6 OF
theorem qfI(p):∀ ks,vw p ks=ks.any (anyN p)
 | []=>rfl
 |k :: ks=>by rw[vw,qfI p ks];rfl
abbrev Qk:Nd->Bool:=anyN fun n=>decide (n.op=47)
theorem qfJ:∀ m n,szN n<=m->Small n->qg qc 38 [eNd n] (aB (Qk n))
 | 0,n,l,_=>by obtain⟨op,nm,i,ks,p⟩:=n;simp[szN]at l
 |m+1,n,l,o=>by
  have J:=o.len;have t:HF (.lst false (n.sD.map cNd)):=HF.lst fun r C c g=>by
   obtain⟨k,_,rfl⟩:=qn.1 C;exact y8 k c g
  have hf:HF (.fn (.func 38) [] []):=HF.fn (fun c g=>by simp at g) (fun c g=>by simp at g);have I:=nZ false n.sD (.fn (.func 38) [] []) Qk ⟨_,[],[],rfl,fun k j=>⟨[eNd k],qfJ m k (zW1 (zf j)) (o.kid j),.zk (qE k) .nil⟩⟩ hf t zOm;have e:Qk n=(decide (n.op=47)||n.sD.any Qk):=by
   rw[Qk,J4,qfI]
  rw[e];refine qSV call38 func38 rfl ?_;by_cases h:n.op=47
  .simp [go_sem,h]
   exact .zsc _
  .simp [go_sem,h]
   refine fR I (.zk t (.zk hf .nil)) ?_;exact .zsc _
def outU(e:Int)(c:Bool)(b:Bd):AV:=if e≠0 then .tup [eBd bd0,aI e] else if c=true then .tup [eBd bd0,aI 45] else .tup [eBd b,aI 0]
theorem qfK(mu e):Rd mu (.tup [.agg cZ4,aI e]) (.tup [eBd bd0,aI e]):=OF.Rd.tups ⟨Rd.aggs ⟨.hf _ (HF.sc _),.wk _ true _ (.hf _ (HF.lst fun r g=>by simp at g)),.hf _ (HF.sc _),.wk _ true _ (.hf _ (HF.lst fun r g=>by simp at g)),trivial⟩,.hf _ (HF.sc _),trivial⟩
variable {ts:TS} {sc:Sc} {bs:List Bd}
theorem qsT(C:NwC ts sc)(hb:BdS ts (sumI sc.sC) bs){n}(hs:Small n){X e}(hT:qg qc 37 [eTS ts,lPm [],eNd n] (.tup [X,aI e]))(ht:e=0->Qk n=false->∃ a,ArN (arT ts) n a) :
  qg qc 9 [eTS ts,eSc sc,lBd bs,lPm [],eNd n] (outU e (Qk n) (ivl ⟨ts,sc,bs⟩ [] n)):=by
 unfold outU;refine qSQ call9 func9 rfl { mt:=[58] } ?_;simp[go_sem];refine tU hT (.zk (zw ts) (.zk (wc _) (.zk (qE n) .nil))) ?_;by_cases t:e=0
 .subst t
  simp[go_sem];refine tU (qfJ _ n (qj _) hs) (.zk (qE n) .nil) ?_;cases hc:Qk n with
  |true =>
   simp[go_sem];exact qfK _ _
  |false =>
   obtain⟨a,ha⟩:=ht rfl hc;have cI:=C.iv hb ha;generalize hX:ivl ⟨ts,sc,bs⟩ [] n=Y at *
   simp[go_sem];refine tW (fun _ U=>U.tm 2=lBd bs/\U.tm 5 = .ip (cTS ts)/\U.tm 6 = .ip [lI sc.sC,aI sc.sN]/\U.tm 9 = .ip (cNd n)/\U.tm 10 = .ptr 0 0/\U.tm 14 = .lst true []/\U.tm 33=aI 0/\U.tm 34=aI 0/\U.mu=[.arr cZ4]) 0 ?_ ?_
   .simp [go_sem]
   rintro k U ⟨I,J,P,R,i,j,o,p,hm⟩;simp[go_sem,o,p];refine fG [0,1,2,3,4,5,6,7] [(0,0,[]),(1,0,[]),(2,0,[]),(3,0,[]),(4,1,[0,1]),(5,0,[]),(6,1,[]),(7,0,[])] zKr zKr zSi ?_;simp[go_sem,I,J,P,R,i,j];refine tU (ZL sc C.W.s.g) (.zk (zD _) .nil) ?_;simp[go_sem,I,J,P,R,i,j,hm];have l:=cI [.arr cZ4,.arr (cNs ts sc (lBd bs) (sumI sc.sC) false)] 1 false (lBd bs) true ⟨rfl,.inl rfl⟩;rw[hX]at l;refine qe.mem l fun m1 h1=>?_
   have hz:=h1 0 _ rfl;obtain⟨T,rfl⟩:=nO hz;simp[go_sem,i];exact OF.Rd.tups ⟨.hf _ (z8 Y),.hf _ (HF.sc _),trivial⟩
 .simp [go_sem,t]
  exact qfK _ _
end OH
namespace ID
end ID
namespace IE
end IE
namespace IK
open P1
namespace Cx
variable {ts:TS} {sc:Sc} {b:List Bd} {N:Nat}
end Cx
namespace Cx
variable {ts:TS} {sc:Sc} {b:List Bd} {N:Nat}
end Cx
namespace Cx
variable {ts:TS} {sc:Sc} {b:List Bd} {N:Nat}
end Cx
end IK
namespace IL
open P1
variable {ts:TS} {sc:Sc} {b:List Bd} {N:Nat}
end IL
namespace IM
open P1
variable {ts:TS} {sc:Sc} {b:List Bd} {N:Nat}
end IM
set_option maxHeartbeats 1000000
namespace ON
open YF P1 E4 EO EP EQ F4 G5 GF GP GR LA
theorem qsU(ts sc)(F:Fit9 ts sc):qg qc 26 [eTS ts,eSc sc] (lBd (defB ts sc)):=by
 have a0:=F.nf;refine qSU call26 func26 rfl ?_;refine aA ts.sA.length (fun k U=>U.tm 2 = .ip (cTS ts)/\U.tm 3 = .ip [lI sc.sC,aI sc.sN]/\U.tm 9 = .lst false (ts.sA.map jo)/\U.tm 10=aI ts.sA.length/\U.tm 11=aI k/\Own U.mu 4 (U.tm 5) ((ts.sA.take k).map (rowD sc))) ?_ ?_
 .exact ⟨zSi,zSi,zSi,zSi,zSi,.inl zSi⟩
 rintro k U hk ⟨e2,e3,e9,I,t,J⟩;by_cases i:k<ts.sA.length
 .have w1:=zWk k
  have j:=qt i;have C:=EW.X3 sc F.g (fun a ha=>(F.g.2 a ha).1) ts.sA[k].sS (F.fs _ j) (F.f1 _ j).1 (F.f1 _ j).2;rw[qmC sc F.g F.p _ (F.f1 _ j).2 (F.fs _ j)]at C;simp[go_sem,e9,I,t,i];refine tR zKr ?_;simp[go_sem,e2,e3,t,i];refine fR C (.zk (zD _) (.zk (zC _) .nil)) ?_;refine qw.ownB (e:=42) (sz:=4) (bt:=64) (zv := .agg [aI 0,.lst true [],aI 0,.lst true []]) (xs:=(ts.sA.take k).map (rowD sc)) (ys:=[rowD sc ts.sA[k]]) zSi zSi zSi rfl rfl zOm zOm (Own.push J _) (by simp[qA,rowD]) (Kl sc _) (Kl sc [_]) zSo ?_;intro a1 o P _ _ _;simp[go_sem,t,i,w1];refine aC ⟨zS1 e2,zS1 e3,zS1 e9,zS1 I,zSi,?_⟩;rw[jg i,zx];simpa[go_sem] using P
 .have R:k=ts.sA.length:=by omega
  subst R;rw[zi]at J;simp[go_sem,I,t];have:=cD (g:=fun f=>cBd ⟨⟨f.sS.length,[]⟩,⟨f.sS.length,yJ sc f.sS⟩⟩) J (Kl sc _).ok (fun r T=>by
   obtain⟨n,_,rfl⟩:=qn.1 T;rfl) fun f _=>⟨.hf _ (HF.sc _),.wk _ true _ (.hf _ (HF.lst fun r T=>by simp at T)),.hf _ (HF.sc _),.hf _ (zC _),trivial⟩
  show Rd _ _ (.lst false ((defB ts sc).map cBd));rw[defB,List.map_map];exact this
end ON
set_option maxHeartbeats 1000000
namespace OM
open Y1 P1 YF E4 GF KA KR O0 E9 Y16 Q4 PD QL ER F6 OI OJ OF OK Y6 Y11 YW QB
def tsN:TS:=⟨[(⟨#[65]⟩,false)],[⟨⟨#[102]⟩,[0],false⟩,⟨⟨#[103]⟩,[0],false⟩],[],[]⟩
def scN:Sc:=⟨[2],1⟩
abbrev rE:Rl:=⟨1,[]⟩
abbrev rF:Rl:=⟨1,[0,1]⟩
def bsN:List Bd:=[⟨rE,rF⟩,⟨rE,rF⟩]
def nm(b:tZ):Nd := .mk 1 b 0 [] 0
def nd(op:Int)(ks:List Nd):Nd := .mk op ⟨#[]⟩ 0 ks 0
abbrev fN:Nd:=nm ⟨#[102]⟩
abbrev gN:Nd:=nm ⟨#[103]⟩
abbrev aN:Nd:=nm ⟨#[65]⟩
def q1:Nd:=nd 35 [fN]
def q2:Nd:=nd 41 [nd 33 [fN,aN],nd 35 [nd 8 [gN,fN]]]
def q3:Nd:=nd 41 [nd 34 [fN],nd 35 [fN]]
def q4:Nd:=nd 34 [nm ⟨#[104]⟩]
def q5:Nd:=nd 32 [nd 6 [fN,gN],nd 8 [aN,gN]]
def q6:Nd:=nd 48 [nd 41 [nd 34 [fN],nd 48 [nd 35 [gN]]]]
def q7:Nd:=nd 6 [fN,aN]
theorem v1:fixL tsN scN bsN q1 = .ok [⟨rE,rE⟩,⟨rE,rF⟩]:=by kernel_rfl
theorem v2:fixL tsN scN bsN q2 = .ok [⟨rF,rF⟩,⟨rE,rF⟩]:=by kernel_rfl
theorem v3:fixL tsN scN bsN q3 = .error 100:=by kernel_rfl
theorem v4:fixL tsN scN bsN q4 = .error 40:=by kernel_rfl
theorem v5:fixL tsN scN bsN q5 = .ok bsN:=by kernel_rfl
theorem v6:conj q6=[nd 48 [nd 34 [fN]],nd 48 [nd 35 [gN]]]:=by kernel_rfl
theorem v7:ivl ⟨tsN,scN,bsN⟩ [] q7=⟨rF,rF⟩:=by kernel_rfl
theorem v8:[q1,q2,q3,q4,q5,q6,q7].all qT=true:=by kernel_rfl
theorem v9:yY tsN=[]:=by kernel_rfl
theorem v10:jI (spOf tsN) scN=true:=by kernel_rfl
theorem v11:vBs tsN scN bsN=true:=by kernel_rfl
theorem v12:vp q1=true/\shpB tsN=true:=⟨zKr,zKr⟩
theorem szN0:∀ x,x∈tsN.sS->x.1.size<=4611686018427387904:=by
 intro x g;simp only[tsN,qS]at g;subst g;decide
theorem qfL:wF tsN scN bsN q1:=⟨zDe,zDe,zDe,zDe,zDe,zDe,v12.1,fun p g=>by simp[tsN]at g,fun p g=>by simp[tsN]at g,v12.2⟩
theorem F0:F10 tsN scN bsN q1:=⟨qfL,Vy qfL szN0,v9,v10,zDe,v11,Jh v12.1⟩
theorem val{q}(h:q∈[q1,q2,q3,q4,q5,q6,q7]):qT q=true:=q8.1 v8 q h
theorem fix1:qg qc 16 [eTS tsN,eSc scN,lBd bsN,eNd q1] (.tup [lBd [⟨rE,rE⟩,⟨rE,rF⟩],aI 0]):=by
 have h:=F0.fixU (val (q:=q1) zSp) F0.bds
 rwa[v1]at h
theorem fix2:qg qc 16 [eTS tsN,eSc scN,lBd bsN,eNd q2] (.tup [lBd [⟨rF,rF⟩,⟨rE,rF⟩],aI 0]):=by
 have h:=F0.fixU (val (q:=q2) zSp) F0.bds
 rwa[v2]at h
theorem fix3:qg qc 16 [eTS tsN,eSc scN,lBd bsN,eNd q3] (.tup [lBd [],aI 100]):=by
 have h:=F0.fixU (val (q:=q3) zSp) F0.bds
 rwa[v3]at h
theorem fix4:qg qc 16 [eTS tsN,eSc scN,lBd bsN,eNd q4] (.tup [lBd [],aI 40]):=by
 have h:=F0.fixU (val (q:=q4) zSp) F0.bds
 rwa[v4]at h
theorem fix5:qg qc 16 [eTS tsN,eSc scN,lBd bsN,eNd q5] (.tup [lBd bsN,aI 0]):=by
 have h:=F0.fixU (val (q:=q5) zSp) F0.bds
 rwa[v5]at h
theorem con6:qg qc 13 [eNd q6] (lNd [nd 48 [nd 34 [fN]],nd 48 [nd 35 [gN]]]):=by
 have h:=OD.Vw _ q6 (qj _) (jr (val (q:=q6) zSp)) (by rw[v6];decide)
 rwa[v6]at h
theorem e7:exam (mkCk tsN tsN.sT.length) (zz []) false q7 = .ok (some ⟨1,[[0,0,0]]⟩):=by kernel_rfl
theorem up7:qg qc 9 [eTS tsN,eSc scN,lBd bsN,lPm [],eNd q7] (.tup [eBd ⟨rF,rF⟩,aI 0]):=by
 have i:=jr (val (q:=q7) zSp);have j:=OG.qsS tsN F0.S.h (fun p l=>by simp[tsN]at l) q7 i [] ⟨zSp,zSp⟩ (fun k g=>by rw[e7]at g;cases g;decide);have g:(Zc tsN [] q7).2=0:=zKr;rw[g]at j;have o:OH.Qk q7=false:=zKr;have h:=OH.qsT F0.nwc F0.bds i.small j (fun _ _=>⟨1,.alike (.inl rfl) rfl (.name rfl zKr) (.name rfl zKr)⟩);rw[o,v7]at h;exact h
theorem wo(b):qg qc 25 [aS b] (eNd (nm b)):=by
 refine qSU call25 func25 rfl ?_;exact Rd.aggs ⟨.hf _ (HF.sc _),.hf _ (HF.sc _),.hf _ (HF.sc _),.wk _ true _ (.hf _ (HF.lst fun r g=>by simp at g)),.hf _ (HF.sc _),trivial⟩
theorem js(op ks):qg qc 21 [aI op,lNd ks] (eNd (nd op ks)):=by
 refine qSU call21 func21 rfl ?_;have g:eNd (nd op ks) = .agg [aI op,aS ⟨#[]⟩,aI 0,lNd ks,aI 0]:=by rw[eNd,yP];rfl
 rw[g];exact Rd.aggs ⟨.hf _ (HF.sc _),.hf _ (HF.sc _),.hf _ (HF.sc _),.hf _ (JH ks),.hf _ (HF.sc _),trivial⟩
theorem wl{full}(ks):WK (.lst full (ks.map cNd)) (lNd ks):=WK.lst fun r g c i=>by
 obtain⟨k,_,rfl⟩:=qn.1 g;exact y8 k c i
theorem wts:WK (.agg [.lst true [[aS ⟨#[65]⟩,aB false]],.lst true [[aS ⟨#[102]⟩,.lst true [[aI 0]],aB false],[aS ⟨#[103]⟩,.lst true [[aI 0]],aB false]],.lst true [],.lst true []]) (eTS tsN):=
 WK.aggs (.cons (Zk ⟨.zs (.zs .nil),trivial⟩) (.cons (Zk ⟨.zs (.cons (WK.ints [0]) (.zs .nil)),.zs (.cons (WK.ints [0]) (.zs .nil)),trivial⟩) (.cons (Zk (by trivial)) (.cons (Zk (by trivial)) .nil))))
theorem wsc:WK (.agg [.lst true [[aI 2]],aI 1]) (eSc scN):=WK.aggs (.cons (WK.ints [2]) (.zs .nil))
theorem wrow:WKs [aI 1,.lst true [],aI 1,.lst true [[aI 0],[aI 1]]] (cBd ⟨rE,rF⟩) := .zs (.cons (WK.ints []) (.zs (.cons (WK.ints [0,1]) .nil)))
theorem wbs:WK (.lst true [[aI 1,.lst true [],aI 1,.lst true [[aI 0],[aI 1]]],[aI 1,.lst true [],aI 1,.lst true [[aI 0],[aI 1]]]]) (lBd bsN):=Zk ⟨wrow,wrow,trivial⟩
theorem w4(q):WKs [.agg [.lst true [[aS ⟨#[65]⟩,aB false]],.lst true [[aS ⟨#[102]⟩,.lst true [[aI 0]],aB false],[aS ⟨#[103]⟩,.lst true [[aI 0]],aB false]],.lst true [],.lst true []],.agg [.lst true [[aI 2]],aI 1],.lst true [[aI 1,.lst true [],aI 1,.lst true [[aI 0],[aI 1]]],[aI 1,.lst true [],aI 1,.lst true [[aI 0],[aI 1]]]],eNd q] [eTS tsN,eSc scN,lBd bsN,eNd q] := .cons wts (.cons wsc (.cons wbs (.zk (qE q) .nil)))
theorem w2{full}(op ks):WKs [aI op,.lst full (ks.map cNd)] [aI op,lNd ks] := .zs (.cons (wl ks) .nil)
theorem w5(q):WKs [.agg [.lst true [[aS ⟨#[65]⟩,aB false]],.lst true [[aS ⟨#[102]⟩,.lst true [[aI 0]],aB false],[aS ⟨#[103]⟩,.lst true [[aI 0]],aB false]],.lst true [],.lst true []],.agg [.lst true [[aI 2]],aI 1],.lst true [[aI 1,.lst true [],aI 1,.lst true [[aI 0],[aI 1]]],[aI 1,.lst true [],aI 1,.lst true [[aI 0],[aI 1]]]],.lst true [],eNd q] [eTS tsN,eSc scN,lBd bsN,lPm [],eNd q] := .cons wts (.cons wsc (.cons wbs (.cons (Zk (by trivial)) (.zk (qE q) .nil))))
theorem wrowE:WKs [aI 1,.lst true [],aI 1,.lst true []] (cBd ⟨rE,rE⟩) := .zs (.cons (WK.ints []) (.zs (.cons (WK.ints []) .nil)))
theorem qfM:WKs [aI 1,.lst true [[aI 0],[aI 1]],aI 1,.lst true [[aI 0],[aI 1]]] (cBd ⟨rF,rF⟩) := .zs (.cons (WK.ints [0,1]) (.zs (.cons (WK.ints [0,1]) .nil)))
theorem pA(a)(h:a.length<=10)(g:∀ x,x∈a->x.lo.ts.length<=10/\x.up.ts.length<=10):qg qc 18 [lBd a,lBd a] (aB true):=by
 have:=qq9 a a zOm (fun x i=>zW1 (g x i))
 rwa[decide_eq_true rfl]at this
theorem insF:qg qc 27 [eBd ⟨rF,rF⟩,eBd ⟨rF,rF⟩] (aB true):=
 qeT ⟨rF,rF⟩ ⟨rF,rF⟩ ⟨⟨zDe,zDe⟩,zDe,zDe⟩ ⟨⟨zDe,zDe⟩,zDe,zDe⟩
theorem headN(j:∃ b,b[0]?.map (fun x=>x.up.ar)=some 1/\qg qc 26 [eTS tsN,eSc scN] (lBd b)):qg qc 6 [] (aB true):=by
 refine qSU call6 func6 rfl ?_;refine fR (wo ⟨#[102]⟩) (.zs .nil) ?_;refine fR (wo ⟨#[103]⟩) (.zs .nil) ?_;refine fG [0,1,2,3,4,5,6,7,8,9,10,11] [(0,0,[]),(1,0,[]),(2,0,[]),(3,0,[]),(4,0,[]),(5,1,[0,1]),(6,1,[]),(7,0,[]),(8,0,[]),(9,0,[]),(10,0,[]),(11,0,[])] zKr zKr zSi ?_;simp[go_sem];refine fR (js 35 [fN]) (w2 35 [fN]) ?_;refine fR fix1 (w4 q1) ?_;refine fG [0,1,2,3,7,8,9,4,5,6,10,11,12,13,14,15,16,17,18,19,20] [(0,0,[]),(1,0,[]),(2,0,[]),(3,0,[]),(7,0,[]),(8,0,[]),(9,0,[]),(4,1,[0,1,3,7,8]),(5,0,[]),(6,1,[0,1,7,8]),(10,1,[0,1]),(11,0,[]),(12,1,[0,1]),(13,0,[]),(14,1,[0,1]),(15,1,[]),(16,0,[]),(17,0,[]),(18,0,[]),(19,0,[]),(20,0,[])] zKr zKr zSi ?_;simp[go_sem];refine fR (wo ⟨#[65]⟩) (.zs .nil) ?_;refine fR (js 33 [fN,aN]) (w2 33 [fN,aN]) ?_;refine fR (js 8 [gN,fN]) (w2 8 [gN,fN]) ?_;refine fR (js 35 [nd 8 [gN,fN]]) (w2 35 [nd 8 [gN,fN]]) ?_;refine fR (js 41 [nd 33 [fN,aN],nd 35 [nd 8 [gN,fN]]]) (w2 41 [nd 33 [fN,aN],nd 35 [nd 8 [gN,fN]]]) ?_;refine fR fix2 (w4 q2) ?_;refine fG [0,1,2,3,4,6,7,5,8,9,10,11,12,13,14,15,16] [(0,0,[]),(1,0,[]),(2,0,[]),(3,0,[]),(4,0,[]),(6,0,[]),(7,0,[]),(5,1,[0,1,6]),(8,1,[0,1]),(9,0,[]),(10,1,[0,1]),(11,1,[]),(12,0,[]),(13,0,[]),(14,0,[]),(15,0,[]),(16,0,[])] zKr zKr zSi ?_;simp[go_sem];refine fR (js 34 [fN]) (w2 34 [fN]) ?_;refine fR (js 35 [fN]) (w2 35 [fN]) ?_;refine fR (js 41 [nd 34 [fN],nd 35 [fN]]) (w2 41 [nd 34 [fN],nd 35 [fN]]) ?_;refine fR fix3 (w4 q3) ?_;refine fG [0,1,2,3,4,5,6,7,8,9,10,11] [(0,0,[]),(1,0,[]),(2,0,[]),(3,1,[0,1]),(4,0,[]),(5,1,[0,1]),(6,1,[]),(7,0,[]),(8,0,[]),(9,0,[]),(10,0,[]),(11,0,[])] zKr zKr zSi ?_;simp[go_sem];refine fR (wo ⟨#[104]⟩) (.zs .nil) ?_;refine fR (js 34 [nm ⟨#[104]⟩]) (w2 34 [nm ⟨#[104]⟩]) ?_;refine fR fix4 (w4 q4) ?_;refine fG [0,1,2,3,4,5,6,7,8,9,10,13,11,12] [(0,0,[]),(1,0,[]),(2,0,[]),(3,0,[]),(4,1,[0,1,3]),(5,0,[]),(6,1,[0,1]),(7,1,[]),(8,0,[]),(9,0,[]),(10,0,[]),(13,0,[]),(11,2,[0,1,3]),(12,1,[])] zKr zKr zSi ?_;simp[go_sem];refine fR (wo ⟨#[65]⟩) (.zs .nil) ?_;refine fR (js 6 [fN,aN]) (w2 6 [fN,aN]) ?_;refine fR up7 (w5 q7) ?_;refine fG [0,1,3,4,2,5,6,7,8,9,10,11,12,13] [(0,0,[]),(1,0,[]),(3,0,[]),(4,0,[]),(2,1,[3]),(5,1,[]),(6,0,[]),(7,1,[]),(8,0,[]),(9,1,[]),(10,0,[]),(11,1,[]),(12,1,[]),(13,0,[])] zKr zKr zSi ?_;simp[go_sem];refine fR (js 34 [fN]) (w2 34 [fN]) ?_;refine fR (js 35 [gN]) (w2 35 [gN]) ?_;refine fR (js 48 [nd 35 [gN]]) (w2 48 [nd 35 [gN]]) ?_;refine fR (js 41 [nd 34 [fN],nd 48 [nd 35 [gN]]]) (w2 41 [nd 34 [fN],nd 48 [nd 35 [gN]]]) ?_;refine fR (js 48 [nd 41 [nd 34 [fN],nd 48 [nd 35 [gN]]]]) (w2 48 [nd 41 [nd 34 [fN],nd 48 [nd 35 [gN]]]]) ?_;refine fR con6 (.zk (qE q6) .nil) ?_
 refine fG [0,1,2,3,4,5,8,6,7,9,10,11,12,13,14,15,16,17,18] [(0,0,[]),(1,0,[]),(2,0,[]),(3,0,[]),(4,0,[]),(5,0,[]),(8,0,[]),(6,1,[0,1,8]),(7,1,[0,1,8]),(9,0,[]),(10,1,[0,1]),(11,0,[]),(12,1,[0,1]),(13,1,[]),(14,0,[]),(15,0,[]),(16,0,[]),(17,0,[]),(18,0,[])] zKr zKr zSi ?_;simp[go_sem];refine fR (js 6 [fN,gN]) (w2 6 [fN,gN]) ?_;refine fR (wo ⟨#[65]⟩) (.zs .nil) ?_;refine fR (js 8 [aN,gN]) (w2 8 [aN,gN]) ?_;refine fR (js 32 [nd 6 [fN,gN],nd 8 [aN,gN]]) (w2 32 [nd 6 [fN,gN],nd 8 [aN,gN]]) ?_;refine fR fix5 (w4 q5) ?_;obtain⟨b,g,i⟩:=j
 match b,g with
 |x :: I,g =>
 have l:x.up.ar=1:=zUs g;refine tU i (.cons wts (.cons wsc .nil)) ?_;simp[go_sem,l];refine fD ?_;refine fR (pA [⟨rE,rE⟩,⟨rE,rF⟩] zDe zDe) (.zk (jd _) (.cons (Zk ⟨wrowE,wrow,trivial⟩) .nil)) ?_;refine fR (pA [⟨rF,rF⟩,⟨rE,rF⟩] zDe zDe) (.zk (jd _) (.cons (Zk ⟨qfM,wrow,trivial⟩) .nil)) ?_;refine tU insF (.zk (z8 ⟨rF,rF⟩) (.cons (WK.aggs qfM) .nil)) ?_;have o:(nd 48 [nd 34 [fN]]).op=48:=rfl;have p:(nd 48 [nd 35 [gN]]).op=48:=rfl;have t:(nd 48 [nd 35 [gN]]).sD=[nd 35 [gN]]:=rfl;have C:(nd 35 [gN]).op=35:=rfl;simp[go_sem,o,p,t,C];refine fR (pA bsN zDe zDe) (.zk (jd _) (.cons wbs .nil)) ?_;exact .zsc _
theorem headU:qg qc 6 [] (aB true):=
 headN ⟨GP.defB tsN scN,zKr,ON.qsU tsN scN (F0.fit9 zDe)⟩
end OM
set_option maxHeartbeats 1000000
namespace W71
open Y1 P1 E1 KR KD KE OI
section
variable {ts:TS}
theorem pB:∀(l){e},zM ts l = .error e->e≠0
 | [],e,h=>by cases h
 |n :: l,e,h=>by
  rw[zM]at h;split at h
  .split at h
   .cases h
   .rename_i j i
    cases h;exact pB l i
  .rename_i g
   cases h;exact g
theorem Ji{sc bs n e}(h:fixL ts sc bs n = .error e):e≠0:=by
 unfold fixL at h;split at h
 .rename_i i g
  cases h;exact pB _ g
 .split at h
  .cases h;decide
  .cases h
theorem Jj{n b}(g:BdS ts n b)(j:0<=n)(o:n<=12):∀ x,x∈b->BdOk x:=fun x p=>by
 obtain⟨i,l,rfl⟩:=vY.1 p;have:=g.b.2 i l (by rw[<-g.b.1];exact l);have t:=this.lo.len j zOm;have C:=this.up.len j zOm;exact⟨⟨zOm,this.lo.srt⟩,zOm,this.up.srt⟩
theorem qsV{a b}(h:Tg a b):OI.insB a b=true:=by
 simp only[OI.insB,qD,decide_eq_true_eq,inOk,q8];exact⟨h.la,fun t g=>h.lo t g,fun t g=>h.up t g⟩
theorem qsW{a b}(h:TgL a b):tigB a b=true:=by
 simp only[tigB,qD,decide_eq_true_eq,q8];refine⟨h.1,fun p g=>?_⟩;obtain⟨i,j,rfl⟩:=vY.1 g;simp only[List.length_zip]at j;rw[List.getElem_zip];exact qsV (h.2 i zOm zOm)
end
end W71
set_option maxHeartbeats 1000000
namespace OQ
open Y1 P1 YF E1 E3 E4 EO EP F4 GF GR O0 O8 PD EQ ER F6 GB GQ GS GW OF OK KX OP OS W71 I1 I2
structure MdO (ts:TS) (sc:Sc) (bs:List Bd) (pk:List Bool) (fr:List (Int×Int)) (N:Nat) (L:Int) (Q:Nat) (av:AV) (A:Nat->List Rl) (k:Nat) (st:St):Prop where
 e2:st.tm 2=lBd bs
 e3:st.tm 3=lB pk
 e5:st.tm 5 = .ip (cTS ts)
 e6:st.tm 6 = .ip [lI sc.sC,aI N]
 e10:st.tm 10 = .ptr 0 0
 e11:st.tm 11 = .ptr Q 0
 e12:st.tm 12=lP fr
 e13:st.tm 13=aI ((k*fr.length:Nat):Int)
 e14:st.tm 14=aI k
 h0:st.mu[0]?=some (.arr [.lst true [],aI 0,.lst true [],aI 0])
 ha:Own st.mu 1 av (sc.sC.map rI)
 hm:∃ s,st.mu[Q]?=some (.arr [av,aI N,s,aI L])/\Own st.mu 1 s (((qs k).map A).map fun r=>[lRel r])/\∀ b,qu s=some b->Q<b
structure MdI (ts:TS) (sc:Sc) (bs:List Bd) (pk:List Bool) (fr:List (Int×Int)) (N:Nat) (Q:Nat) (k:Nat) (M:Mu) (W:List Rl) (st:St):Prop where
 e2:st.tm 2=lBd bs
 e3:st.tm 3=lB pk
 e5:st.tm 5 = .ip (cTS ts)
 e6:st.tm 6 = .ip [lI sc.sC,aI N]
 e10:st.tm 10 = .ptr 0 0
 e11:st.tm 11 = .ptr Q 0
 e12:st.tm 12=lP fr
 e14:st.tm 14=aI k
 ho:Own st.mu 2 (st.tm 15) (W.map cRel)
 hb:∀ b,qu (st.tm 15)=some b->M.length<=b
 hM:∀ i,i<M.length->st.mu[i]?=M[i]?
theorem MdI.ml{ts sc bs g i N Q k M W st}(I:MdI ts sc bs g i N Q k M W st):M.length<=st.mu.length:=by
 by_cases h:0<M.length
 .have:=I.hM (M.length-1) zOm
  rw[qB (show M.length-1<M.length by omega)]at this;have:=(qh.1 this).1;omega
 .omega
theorem qsX{ts sc bs n}(F:F10 ts sc bs n)(pk lp)(cr:0<=lp/\lp<=255) :
  qg qc 22 [eTS ts,eSc sc,lBd bs,lB pk,.sc (.int .u8 lp)] (eMd (mdM sc (vsT ts) bs pk lp)):=by
 have cs:=F.sz.1;simp only[UL,qD,decide_eq_true_eq]at cs;have s1:1<=sc.sN:=zOm;have s4:sc.sN<=4:=zOm;have bg:=F.bnd.len;have dx:=F.P.fl;have ct:=F.nws.h12;have bh:=F.nws.s.n0;have ag:=Jj F.bds bh ct;have b4:=qsM bs zOm fun x hx=>⟨(ag x hx).2.1,(ag x hx).1.1,(ag x hx).1.2.imp fun h=>zOm⟩
 have dy:=Kc bs 0 fun x hx=>⟨(ag x hx).2.1,(ag x hx).1.1,(ag x hx).1.2.imp fun h=>zOm⟩
 have cu:=F.nws.s.g.1;have bi:=kE (bs:=bs) (fun b hb=>(F.bnd.so b hb).1) F.bnd.sub;have bj:=kF bs;have cv:=fun s:Nat=>qdR (bs:=bs) (fun b hb=>(F.bnd.so b hb).1) F.bnd.sub (vsT ts) pk s
 have cw:mdS (vsT ts) bs pk 0=yz pk (zt bs 0) (0*(zt bs 0).length) (bs.map fun b=>b.lo):=by rw[Nat.zero_mul];rfl
 have cx:=fun (k:Nat) (h:k≠0)=>qsP (vsT ts) bs pk h
 generalize dz:zt bs 0=fr at *
 have cy:=fun (l:List (Int×Int)) (h:∀ q,q∈l->q∈fr) (k:Nat)=>Wi pk l k (fun q hq=>bj q (h q hq)) bi
 generalize hS:sc.sN=S at *
 obtain⟨N,rfl⟩:=Int.eq_ofNat_of_zero_le (show 0<=S by omega);refine qSU call22 func22 rfl ?_;refine fG [0,1,2,4,5,7,8,9,10,11,3,6,12,13,14] [(0,0,[]),(1,0,[]),(2,0,[]),(4,0,[]),(5,0,[]),(7,0,[]),(8,0,[]),(9,0,[]),(10,0,[]),(11,0,[]),(3,1,[5,10]),(6,0,[]),(12,0,[]),(13,2,[2,5,10]),(14,1,[])] zKr zKr zSi ?_;have n1:¬(N:Int)<1:=zOm;have n0:¬(N:Int)=0:=zOm;have bl:¬N=0:=zOm;have wl:ql.wrap lp=lp:=zWr;have tm:lp.tmod (N:Int)=lp % (N:Int):=uq cr.1;simp[go_sem,hS,n1,bl,wl,tm];refine qw.ownB (e:=3) (sz:=1) (bt:=8) (zv:=aI 0) (xs:=[]) (ys:=sc.sC.map rI) zSi zSi zSi rfl rfl zOm zOm (.inl zSi) (by simp[qA]) (fun r hr=>absurd hr qK) (je _) zSo ?_;intro t a2 aa bm bn bo;simp only[jk]at aa;generalize hL:lp % (N:Int)=L at *
 have cz:mdM sc (vsT ts) bs pk lp=⟨sc,(qs N).map (mdS (vsT ts) bs pk),L⟩:=by rw[mdM,hS,hL];rfl
 rw[cz];generalize hA:mdS (vsT ts) bs pk=A at *
 have b5:=bm 0 zSp (by simp[qu]);simp at b5;simp[go_sem,hS,n1,bl,wl,tm,hL,Own.one aa,Own.cells aa];refine fR b4 (.zk (jd bs) .nil) ?_;have da:0<a2.length:=by simp at bo;omega
 refine aA N (MdO ts sc bs pk fr N L a2.length t A) ?_ ?_
 .refine ⟨zSi,zSi,zSi,zS1 hS,zSi,zSi,zSi,zSi,zSi,?_,?_,.lst true [],zSi,.inl zSp,by simp[qu]⟩
  .show (a2++_)[0]?=_
   rw[qG da];exact b5
  .simpa [go_sem] using Own.push aa _
 have bq:qu t≠some 0:=fun h=>by have:=bn _ h;simp at this
 clear b5 bm bn bo;rintro k U hk ⟨e2,e3,e5,e6,b6,b7,br,T,au,h0,ha,s,hm,ho,hb⟩;have b8:=(qh.1 h0).1;have bu:=(qh.1 hm).1;by_cases bv:k<N
 .have w1:=zWk k
  have n4:(k:Int)<4:=zOm;generalize hM:U.mu=M at *
  simp[go_sem,hS,e6,au,bv,n4,hM];refine aA bs.length (fun j st2=>MdI ts sc bs pk fr N a2.length k M ((bs.take j).map fun b=>b.lo) st2/\st2.tm 13=aI ((k*fr.length:Nat):Int)/\st2.tm 16=aI j/\(0<j->∃ b,qu (st2.tm 15)=some b)) ?_ ?_
  .exact ⟨⟨zS1 e2,zS1 e3,zS1 e5,zS2 e6 hS,zS1 b6,zS1 b7,zS1 br,zS1 au,.inl zSi,by simp[go_sem,qu],zS1 hM⟩,zS1 T,zSi,fun h=>absurd h zOm⟩
  clear e2 e3 e5 e6 b6 b7 br T au hM U;rintro j U hj ⟨I,T,aw,a1⟩;by_cases C:j<bs.length
  .have w2:=zWk j
   have ax:bs.take (j+1)=bs.take j++[bs[j]]:=jg C;simp[go_sem,I.e2,aw,C];refine .inl (jB.ownB (e:=40) (sz:=2) (bt:=32) (zv := .agg [aI 0,.lst true []]) (xs:=((bs.take j).map fun b=>b.lo).map cRel) (ys:=[cRel bs[j].lo]) zSi zSi zSi rfl rfl zOm zOm I.ho (by simp[qA]) (u3 _) (u3 [_]) zSo ?_);intro b9 o ab ah ay db bw;have dc:=I.ml;have dd:∀ i,i<M.length->o[i]?=M[i]?:=fun i hi=>by rw[ah i zOm (fun h=>zW1 (I.hb i h))];exact I.hM i hi
   simp[go_sem,aw,C,w2,Own.one ab,Own.cells ab]
   try refine⟨C,aC ?_⟩
   try refine aC ?_
   refine⟨⟨by simp[go_sem,I.e2],by simp[go_sem,I.e3],by simp[go_sem,I.e5],by simp[go_sem,I.e6],by simp[go_sem,I.e10],by simp[go_sem,I.e11],by simp[go_sem,I.e12],by simp[go_sem,I.e14],?_,fun b h=>zW1 (ay b (zVs h)),zVs dd⟩,zS1 T,zSi,fun _=>by simpa[go_sem] using bw zSp⟩;rw[ax,zx,zx];simpa[go_sem] using ab
  .have ai:j=bs.length:=by omega
   subst ai;rw[zi]at I;simp[go_sem,I.e2,aw];have e0:k*fr.length<=3*fr.length:=Nat.mul_le_mul_right _ zOm;refine aA fr.length (fun j st2=>MdI ts sc bs pk fr N a2.length k M (yz pk (fr.take j) (k*fr.length) (bs.map fun b=>b.lo)) st2/\st2.tm 13=aI ((k*fr.length+j:Nat):Int)/\st2.tm 17=aI j/\(0<bs.length->∃ b,qu (st2.tm 15)=some b)) ?_ ?_
   .exact ⟨⟨by simp[go_sem,I.e2],by simp[go_sem,I.e3],by simp[go_sem,I.e5],by simp[go_sem,I.e6],by simp[go_sem,I.e10],by simp[go_sem,I.e11],by simp[go_sem,I.e12],by simp[go_sem,I.e14],by simpa[go_sem,yz] using I.ho,by simpa[go_sem] using I.hb,by simpa[go_sem] using I.hM⟩,zS1 T,zSi,fun h=>by simpa[go_sem] using a1 h⟩
   clear I T aw a1 hj C U;rintro j U hj ⟨I,T,a6,a1⟩;by_cases C:j<fr.length
   .have w2:=zWk j
    have w3:ql.wrap (((k*fr.length+j:Nat):Int)+1)=((k*fr.length+(j+1):Nat):Int):=by rw[zWr];omega
    obtain⟨f,hf,ca,de⟩:=bj _ (qt C);have ad:=qsO pk fr (k*fr.length) j (bs.map fun b=>b.lo) C;have hW:=cy (fr.take j) (fun q hq=>uo hq) (k*fr.length);generalize hq:fr[j]=q at *
    obtain⟨q1,q2⟩:=q;simp only at ca de;subst ca;generalize e1:yz pk (fr.take j) (k*fr.length) (bs.map fun b=>b.lo)=W at *
    generalize cu:k*fr.length+j=a3 at *
    simp[go_sem,I.e12,a6,C,hq];by_cases hp:0<pk.length
    .have bc:a3 % pk.length<pk.length:=Nat.mod_lt _ hp
     have df:((a3:Nat):Int).tmod (pk.length:Int)=((a3 % pk.length:Nat):Int):=by rw[uq zOm];rfl
     have az:pkAt pk a3=pk[a3 % pk.length]:=by unfold pkAt;rw[zT,qB bc];simp[hp]
     have dh:¬pk.length=0:=zOm;simp[go_sem,I.e3,T,hp,dh,df,bc];have di:((a3:Int) % (pk.length:Int)).toNat=a3 % pk.length:=zOm;refine tH (.ip [aB pk[a3 % pk.length]]) (by rw[if_pos ⟨zOm,zOm⟩,di,qB bc];rfl) ?_;generalize e4:pk[a3 % pk.length]=bb at *
     cases bb with
     |true =>
      rw[if_pos az]at ad;obtain⟨bk,J⟩:=a1 zOm;have e8:W.length=bs.length:=hW.l;have a0:U.tm 15 = .sl bk 2 0 W.length/\U.mu[bk]?=some (.arr (W.map cRel).flatten):=by
       rcases I.ho with h|⟨b',h,hc⟩
       .rw [h]at J;cases J
       .rw [h]at J;cases J
        exact⟨by rw[h];simp,hc⟩
      obtain⟨a0,a7⟩:=a0;simp[go_sem];refine tR zKr ?_;have a4:f<W.length:=zOm;have b0:(W.map cRel).flatten.length=W.length*2:=by rw[ym (u3 W).ok];simp
      have bg:=(qh.1 a7).1;have be:W.getD f noR=W[f]:=by rw[zT,qB a4];rfl
      have cb:=hW.r f a4 hf;have e9:W[f].ts.length<=8000:=by
       have hu:=(F.bds.b.2 f hf zOm).up.len bh zOm;have:=UM cb.2.1 cb.2.2.2;omega
      have dj:=qfG W[f] ⟨W[f].ar,[q2]⟩ zOm zSp;have dk:put1 W (↑f,q2)=W.set f (unR W[f] ⟨W[f].ar,[q2]⟩):=by simp only[put1,Int.toNat_natCast,be]
      have ax:((W.map cRel).flatten.drop (f*2)).take 2=cRel W[f]:=by
       have q0:=Wy (u3 W).ok f (zUs a4) 0 zOm;have q1:=Wy (u3 W).ok f (zUs a4) 1 zOm;rw[Jk]at q0 q1;refine jZ fun i=>?_
       match i with
       | 0=>simpa using q0
       | 1=>simpa[Nat.add_comm] using q1
       |i+2=>rw[List.getElem?_eq_none (by rw[ub];omega)];rfl
      have ea:(W.map cRel).flatten[f*2]?=some (aI W[f].ar):=by
       have q0:=Wy (u3 W).ok f (zUs a4) 0 zOm;rw[Jk]at q0;simpa using q0
      rw[dk]at ad;have aj:=Jq (W.map cRel) f (cRel (unR W[f] ⟨W[f].ar,[q2]⟩)) (u3 W).ok rfl (zUs a4);rw[<-List.map_set]at aj;have ak:(W.set f (unR W[f] ⟨W[f].ar,[q2]⟩)).length=W.length:=List.length_set;generalize unR W[f] ⟨W[f].ar,[q2]⟩=RR at *
      generalize eb:W[f]=WF at *
      generalize ec:(W.map cRel).flatten=FL at *
      rw[y7 _ _ _ (by simp[cRel];omega)]at aj;have b1:FL.take (f*2)++aI RR.ar :: lI RR.ts :: FL.drop (f*2+2)=((W.set f RR).map cRel).flatten:=by rw[aj];simp[cRel]
      have wk2:WK (.agg [aI WF.ar,.lst true [[aI q2]]]) (eRel ⟨WF.ar,[q2]⟩):=WK.aggs (.zs (.cons (WK.ints [q2]) .nil));simp[go_sem,a0,a7,I.e12,a6,C,hq,a4,b0];refine tH (.agg [aI WF.ar,lI WF.ts]) (by rw[if_pos zOm,ax]) ?_;simp[go_sem,a0,a7,I.e12,a6,C,hq,a4,b0];refine tH (.sc (.int .i64 WF.ar)) (by rw[if_pos zOm,show (FL.drop (f*2)).take 1=((FL.drop (f*2)).take 2).take 1 by rw[List.take_take];rfl,ax];rfl) ?_;simp[go_sem,a0,a7,I.e12,a6,C,hq,a4,b0];refine tU dj (.zk (qx WF) (.cons wk2 .nil)) ?_;simp[go_sem,a0,a7,a4,b0];refine tH (U.mu.set bk (.arr ((W.set f RR).map cRel).flatten)) (by rw[if_pos zOm,b1]) ?_;simp[go_sem,T,a6,w2,w3,C]
      try refine⟨C,aC ?_⟩
      try refine aC ?_
      refine⟨⟨by simp[go_sem,I.e2],by simp[go_sem,I.e3],by simp[go_sem,I.e5],by simp[go_sem,I.e6],by simp[go_sem,I.e10],by simp[go_sem,I.e11],by simp[go_sem,I.e12],by simp[go_sem,I.e14],?_,by simpa[go_sem] using I.hb,fun i hi=>?_⟩,zSi,zSi,fun h=>by simpa[go_sem] using ⟨bk,J⟩⟩
      .rw [ad]
       simp[go_sem];exact .inr ⟨bk,by rw[a0];simp,qz bg⟩
      .simp only[qI]
       rw[zH (fun e=>zW1 (I.hb bk J))];exact I.hM i hi
     |false =>
      rw[az,if_neg zSp]at ad;simp[go_sem,T,a6,w2,w3]
      try refine⟨C,aC ?_⟩
      try refine aC ?_
      exact⟨⟨by simp[go_sem,I.e2],by simp[go_sem,I.e3],by simp[go_sem,I.e5],by simp[go_sem,I.e6],by simp[go_sem,I.e10],by simp[go_sem,I.e11],by simp[go_sem,I.e12],by simp[go_sem,I.e14],by rw[ad];simpa[go_sem] using I.ho,by simpa[go_sem] using I.hb,by simpa[go_sem] using I.hM⟩,zSi,zSi,fun h=>by simpa[go_sem] using a1 h⟩
    .have cc:pk=[]:=List.length_eq_zero_iff.1 zOm
     have az:pkAt pk a3=false:=by unfold pkAt;simp[hp]
     rw[az,if_neg zSp]at ad;simp[go_sem,I.e3,T,a6,cc,w2,w3];subst cc
     try refine⟨C,aC ?_⟩
     try refine aC ?_
     exact⟨⟨by simp[go_sem,I.e2],by simp[go_sem,I.e3],by simp[go_sem,I.e5],by simp[go_sem,I.e6],by simp[go_sem,I.e10],by simp[go_sem,I.e11],by simp[go_sem,I.e12],by simp[go_sem,I.e14],by rw[ad];simpa[go_sem] using I.ho,by simpa[go_sem] using I.hb,by simpa[go_sem] using I.hM⟩,zSi,zSi,fun h=>by simpa[go_sem] using a1 h⟩
   .have ai:j=fr.length:=by omega
    subst ai;rw[zi]at I;simp[go_sem,I.e12,a6];have cd:=pz pk fr (k*fr.length) (bs.map fun b=>b.lo);rw[yu]at cd;have cf:=cx k;have dw:(A 0).length=bs.length:=(cv 0).l;have cg:k=0->A k=yz pk fr (k*fr.length) (bs.map fun b=>b.lo):=fun h=>by subst h;exact cw
    have ch:k*fr.length+fr.length=(k+1)*fr.length:=by rw[Nat.succ_mul]
    rw[ch]at T;generalize ed:yz pk fr (k*fr.length) (bs.map fun b=>b.lo)=R at *
    refine aA bs.length (fun j st2=>MdI ts sc bs pk fr N a2.length k M (if k=0 then R else fixS (vsT ts) (A 0) R j) st2/\st2.tm 13=aI (((k+1)*fr.length:Nat):Int)/\st2.tm 19=aI j/\(0<bs.length->∃ b,qu (st2.tm 15)=some b)) ?_ ?_
    .exact ⟨⟨by simp[go_sem,I.e2],by simp[go_sem,I.e3],by simp[go_sem,I.e5],by simp[go_sem,I.e6],by simp[go_sem,I.e10],by simp[go_sem,I.e11],by simp[go_sem,I.e12],by simp[go_sem,I.e14],by simpa[go_sem,ql5] using I.ho,by simpa[go_sem] using I.hb,by simpa[go_sem] using I.hM⟩,zS1 T,zSi,fun h=>by simpa[go_sem] using a1 h⟩
    clear I T a6 a1 hj C U;rintro j U hj ⟨I,T,a8,a1⟩;have ak:(if k=0 then R else fixS (vsT ts) (A 0) R j).length=bs.length:=by split<;>simp[ql6,cd]
    have dm:k≠0->j<bs.length->(if k=0 then R else fixS (vsT ts) (A 0) R (j+1))=if (vsT ts).getD j true=false then (if k=0 then R else fixS (vsT ts) (A 0) R j).set j ((A 0).getD j noR) else (if k=0 then R else fixS (vsT ts) (A 0) R j):=fun h1 h2=>by rw[if_neg h1,if_neg h1,ql7 _ _ _ _ zOm]
    have dn:¬(j<bs.length/\k≠0)->(if k=0 then R else fixS (vsT ts) (A 0) R j)=A k:=fun h=>by
     by_cases h0:k=0
     .rw [if_pos h0,cg h0]
     .rw [if_neg h0,cf h0,show j=bs.length by omega]
    generalize hW:(if k=0 then R else fixS (vsT ts) (A 0) R j)=W at *
    have ae:U.mu[a2.length]?=some (.arr [t,aI N,s,aI L]):=by rw[I.hM _ bu];exact hm
    have dc:=I.ml;by_cases al:j<bs.length/\k≠0
    .obtain ⟨C,dp⟩:=al
     have dq:(vsT ts).getD j true=ts.sA[j].var:=by rw[zT,zB,qB (show j<ts.sA.length by omega)];rfl
     have w2:=zWk j;have a5:=dm dp C;rw[dq]at a5;simp[go_sem,I.e2,I.e5,I.e14,a8,C,show 0<k by omega,show j<ts.sA.length by omega];cases hv:ts.sA[j].var with
     |true =>
      rw[hv]at a5;replace a5:=a5.trans (if_neg zSp);simp[go_sem,a8,C,w2]
      try refine⟨C,aC ?_⟩
      try refine aC ?_
      exact⟨⟨by simp[go_sem,I.e2],by simp[go_sem,I.e3],by simp[go_sem,I.e5],by simp[go_sem,I.e6],by simp[go_sem,I.e10],by simp[go_sem,I.e11],by simp[go_sem,I.e12],by simp[go_sem,I.e14],by rw[a5];simpa[go_sem] using I.ho,by simpa[go_sem] using I.hb,by simpa[go_sem] using I.hM⟩,zS1 T,zSi,fun h=>by simpa[go_sem] using a1 h⟩
     |false =>
      rw[hv]at a5;replace a5:=a5.trans (if_pos rfl);obtain⟨bk,J⟩:=a1 zOm;have a0:U.tm 15 = .sl bk 2 0 W.length/\U.mu[bk]?=some (.arr (W.map cRel).flatten):=by
       rcases I.ho with h|⟨b',h,hc⟩
       .rw [h]at J;cases J
       .rw [h]at J;cases J
        exact⟨by rw[h];simp,hc⟩
      obtain⟨a0,a7⟩:=a0;have cj:=(qh.1 a7).1;have ee:=I.hb bk J;have an:(W.map cRel).flatten.length=W.length*2:=by rw[ym (u3 W).ok];simp
      have ao:j<(A 0).length:=zOm;have be:(A 0).getD j noR=(A 0)[j]:=by rw[zT,qB ao];rfl
      have ck:(((qs k).map A).map fun r=>[lRel r]).length=k:=zSp;have a9:(((qs k).map A).map fun r=>[lRel r]).flatten[0]?=some (lRel (A 0)):=by
       obtain⟨k',rfl⟩:∃ k',k=k'+1:=⟨k-1,zOm⟩;rw[List.range_succ_eq_map];simp
      generalize aq:(((qs k).map A).map fun r=>[lRel r])=rows at *
      have dr:rows[0]?=some [lRel (A 0)]:=by
       rw[<-aq];obtain⟨k',rfl⟩:∃ k',k=k'+1:=⟨k-1,zOm⟩;rw[List.range_succ_eq_map];rfl
      have cl:(rows.map List.length).sum=k:=by
       have:=ym (sz:=1) (xs:=rows) (by rw[<-aq];intro r hr;obtain⟨n,_,rfl⟩:=qn.1 hr;rfl);rw[List.length_flatten]at this;omega
      have cm:rows.flatten.take 1=[lRel (A 0)]:=by
       cases cn:rows.flatten with
       |nil=>rw[cn]at a9;cases a9
       |cons x l=>rw[cn]at a9;cases a9;rfl
      have b1:(W.map cRel).flatten.take (j*2)++aI (A 0)[j].ar :: lI (A 0)[j].ts :: (W.map cRel).flatten.drop (j*2+2)=((W.set j (A 0)[j]).map cRel).flatten:=by
       rw[List.map_set,Jq (W.map cRel) j _ (u3 W).ok rfl zSo,y7 _ _ _ (by simp only[an,cRel,yh,List.length_nil];omega)];simp
      rw[be]at a5;have af:MdI ts sc bs pk fr N a2.length k M (if k=0 then R else fixS (vsT ts) (A 0) R (j+1)) ⟨U.tm,U.mu.set bk (.arr ((W.set j (A 0)[j]).map cRel).flatten)⟩:=by
       refine⟨I.e2,I.e3,I.e5,I.e6,I.e10,I.e11,I.e12,I.e14,?_,I.hb,fun i hi=>?_⟩
       .rw [a5]
        exact .inr ⟨bk,by rw[a0];simp,qz cj⟩
       .show (U.mu.set bk _)[i]?=_
        rw[zGl];exact I.hM i hi
      rcases ho with rfl|⟨c,rfl,cp⟩
      .simp [go_sem,I.e11,a8,ae,a0,ak]
       refine tH (.ip [lRel (A 0)]) (by rw[dr];simp[ck];omega) ?_;simp[go_sem,a8,C,a7,an,ak,ao];refine tH (U.mu.set bk (.arr ((W.set j (A 0)[j]).map cRel).flatten)) (by rw[if_pos zOm,b1]) ?_;simp[go_sem,a8,C,w2]
       try refine⟨C,aC ?_⟩
       try refine aC ?_
       exact⟨⟨by simp[go_sem,I.e2],by simp[go_sem,I.e3],by simp[go_sem,I.e5],by simp[go_sem,I.e6],by simp[go_sem,I.e10],by simp[go_sem,I.e11],by simp[go_sem,I.e12],by simp[go_sem,I.e14],by simpa[go_sem] using af.ho,by simpa[go_sem] using I.hb,by simpa[go_sem] using af.hM⟩,zS1 T,zSi,fun h=>by simpa[go_sem] using ⟨bk,J⟩⟩
      .have ds:=(qh.1 cp).1
       have b3:=I.hM c ds;rw[cp]at b3;simp[go_sem,I.e11,a8,ae,b3,ck,show 0<k by omega,a0,ak];refine tH (lRel (A 0)) (by rw[cl,if_pos zOm,cm];rfl) ?_;simp[go_sem,a8,C,a7,an,ak,ao];refine tH (U.mu.set bk (.arr ((W.set j (A 0)[j]).map cRel).flatten)) (by rw[if_pos zOm,b1]) ?_;simp[go_sem,a8,C,w2]
       try refine⟨C,aC ?_⟩
       try refine aC ?_
       exact⟨⟨by simp[go_sem,I.e2],by simp[go_sem,I.e3],by simp[go_sem,I.e5],by simp[go_sem,I.e6],by simp[go_sem,I.e10],by simp[go_sem,I.e11],by simp[go_sem,I.e12],by simp[go_sem,I.e14],by simpa[go_sem] using af.ho,by simpa[go_sem] using I.hb,by simpa[go_sem] using af.hM⟩,zS1 T,zSi,fun h=>by simpa[go_sem] using ⟨bk,J⟩⟩
    .have dt:j<bs.length->¬ 0<k:=fun h=>by omega
     have b2:=I.ho;rw[dn al]at b2;by_cases C:j<bs.length<;>simp[go_sem,I.e2,I.e11,I.e14,a8,C,dt,ae,Own.one b2,Own.cells b2]
     all_goals
      refine cM (e:=62) (sz:=1) (bt:=24) (zv := .lst true []) (xs:=((qs k).map A).map fun r=>[lRel r]) [lRel (A k)] M.length zSi zSi zSi rfl rfl zOm zOm ?_ (fun b h=>Own.lt ho h) ?_ ?_ ?_ zSo ?_
      .rcases ho with h|⟨b,h,hc⟩
       .exact .inl h
       .exact .inr ⟨b,h,by rw[I.hM b (qh.1 hc).1];exact hc⟩
      .exact ⟨Own.rd (qa7 b2 I.hb) (u3 _).ok fun r hr c hc=>by
        obtain⟨n,_,rfl⟩:=qn.1 hr;exact Ua n c hc,trivial⟩
      .intro r hr
       obtain⟨n,_,rfl⟩:=qn.1 hr;exact⟨rfl,rfl⟩
      .intro r hr
       simp at hr;subst hr;exact⟨rfl,rfl⟩
      intro b9 o ab ah ay db bw;have g1:o[a2.length]?=some (.arr [t,aI N,s,aI L]):=by rw[ah _ zOm bu (fun h=>zW1 (hb _ h))];exact ae
      have g0:o[0]?=some (.arr [.lst true [],aI 0,.lst true [],aI 0]):=by rw[ah 0 zOm b8 (fun h=>zW1 (hb 0 h)),I.hM 0 b8];exact h0
      have l1:=(qh.1 g1).1;simp[go_sem,I.e11,I.e14,g1,w1,Own.one ab,Own.cells ab]
      try refine⟨bv,aC ?_⟩
      try refine aC ?_
      refine⟨by simp[go_sem,I.e2],by simp[go_sem,I.e3],by simp[go_sem,I.e5],by simp[go_sem,I.e6],by simp[go_sem,I.e10],by simp[go_sem,I.e11],by simp[go_sem,I.e12],zS1 T,zSi,?_,?_,b9,?_,?_,fun b h=>zW1 (ay b h)⟩
      .simp only[qI]
       rw[zGl];exact g0
      .simp only[qI]
       rcases ha with h|⟨b,h,hc⟩
       .exact .inl h
       .have ef:b<a2.length:=Own.lt aa (by rw[h];rfl)
        refine .inr ⟨b,h,?_⟩;rw[zGl,ah b zOm zOm (fun h=>zW1 (hb b h)),I.hM b zOm];exact hc
      .simp only[qI]
       exact qz l1
      .rw [List.range_succ,zx,zx]
       simpa[go_sem] using Own.set ab (.arr [t,aI N,b9,aI L]) (fun h=>zW1 (ay _ h))
 .have ai:k=N:=by omega
  subst ai;have cq:∀ c,(U.mu.set 0 c)[0]?=some c:=fun c=>qz b8
  simp[go_sem,hS,e6,b6,b7,au,h0,hm,Own.one ho,Own.cells ho,Own.one aa,Own.cells aa,cq];have du:=Own.set ho (i:=0) (.arr [t,aI k,s,aI L]) (fun h=>zW1 (hb 0 h));have dv:=Own.set ha (i:=0) (.arr [t,aI k,s,aI L]) bq;show Rd _ _ (.agg [lI sc.sC,aI sc.sN,lSt ((qs k).map A),aI L]);rw[hS];refine Rd.aggs ⟨?_,.hf _ (HF.sc _),?_,.hf _ (HF.sc _),trivial⟩
  .exact Own.rd dv (je _).ok fun r hr c hc=>by
    obtain⟨x,_,rfl⟩:=qn.1 hr;simp at hc;subst hc;exact HF.sc _
  .exact Own.rd du (fun r hr=>by
    obtain⟨n,_,rfl⟩:=qn.1 hr;rfl) fun r hr c hc=>by
    obtain⟨n,_,rfl⟩:=qn.1 hr;simp at hc;subst hc;exact qiQ n
end OQ
namespace OR
open Y1 P1 PA YE E1 KR YG KB KD KE Q4 PD Q9 W71 KX OM
section
variable {bs:List Bd}{ts:TS}
def mkT(a b:List Rl):List Bd:=(a.zip b).map fun p=>⟨inR p.1 p.2,unR p.1 p.2⟩
theorem qfN{a b}(h:a.length=b.length):(mkT a b).length=a.length:=by simp[mkT,h]
theorem pC{a b}(h:a.length=b.length)(i g)(j:i<a.length)(l:i<b.length):(mkT a b)[i]=⟨inR a[i] b[i],unR a[i] b[i]⟩:=by simp[mkT]
theorem pD{a b t}:t∈(inR a b).ts↔t∈a.ts/\t∈b.ts:=by simp[inR]
theorem pE{a b t}:t∈(unR a b).ts↔t∈a.ts\/t∈b.ts:=by simp[unR,(vO _).2]
theorem qfO{n}(B:BdS ts n bs){a b}(p:Fl bs a)(I:Fl bs b):BdS ts n (mkT a b)/\TgL (mkT a b) bs:=by
 have C:a.length=b.length:=p.l.trans I.l.symm;have J:=qfN C;have key:∀(i:Nat)(P:i<(mkT a b).length)(j:i<bs.length)(R:i<ts.sA.length),okI n ts.sA[i].sS.length (mkT a b)[i]/\Tg (mkT a b)[i] bs[i]:=fun i P j R=>by
  have T:i<a.length:=zOm;have U:i<b.length:=zOm;rw[pC C i P T U];obtain⟨a1,a2,a3,a4⟩:=p.r i T j;obtain⟨b1,b2,b3,b4⟩:=I.r i U j;have o:=B.b.2 i j R;have ea:=o.la;have eu:=o.ua;have l1:=o.lo.ar1;have l3:=o.lo.ar3;have hv:∀ t,t∈a[i].ts\/t∈b[i].ts->0<=t/\t<powI n a[i].ar:=fun t g=>by
   have hu:t∈bs[i].up.ts:=by rcases g with h|h;exact a4 t h;exact b4 t h
   have:=o.up.val t hu;rw[eu]at this;rw[a1,ea];exact this
  refine⟨⟨⟨by show 1<=a[i].ar;omega,by show a[i].ar<=3;omega,fun t g=>hv t (.inl (pD.1 g).1),a2.sublist List.filter_sublist⟩,⟨by show 1<=a[i].ar;omega,by show a[i].ar<=3;omega,fun t g=>hv t (pE.1 g),(vO _).1⟩,by show a[i].ar=_;omega,by show a[i].ar=_;omega⟩,⟨fun t g=>pD.2 ⟨a3 t g,b3 t g⟩,fun t g=>?_,by show a[i].ar=_;omega,by show a[i].ar=_;omega⟩⟩;rcases pE.1 g with h|h
  .exact a4 t h
  .exact b4 t h
 have a0:=p.l;have a5:=B.b.1;refine⟨⟨⟨zOm,fun i h j=>(key i h zOm j).1⟩,fun x hx=>?_⟩,zOm,fun i h j=>(key i h j zOm).2⟩;obtain⟨i,hi,rfl⟩:=vY.1 hx;rw[pC C i hi zOm zOm];exact fun t g=>pE.2 (.inl (pD.1 g).1)
theorem qsY{n o x}(l:30<=n.op)(p:30<=o.op)(h:qU ts (nd 41 [n,o])=(x,0)):(qU ts n).2≠100:=by
 have i:(zQ ts [] (nd 41 [n,o])).1=0:=by
  unfold qU at h;split at h
  .rename_i g
   have:=congrArg Prod.snd h;exact this
  .rename_i t;exact Decidable.not_not.1 t
 have j:=qm6 ts [] 41 zOm n o l p;have C:(zQ ts [] n).1=0:=Decidable.byContradiction fun g=>by
  rw[if_pos g]at j;rw[show zQ ts [] (nd 41 [n,o])=zQ ts [] (ndOp 41 [n,o]) from rfl,j]at i;exact g i
 unfold qU;rw[if_neg (zP1 C)];split
 .simp
 .split
  .rename_i d I
   have:=U2 I;simp[this]
  .simp
theorem qfP{n}:∀(l){e},zM ts (l++[n]) = .error e->(∃ r,zM ts l = .ok r)->(qU ts n).2=e
 | [],e,h,_=>by
  rw[jk,zM,zM]at h;split at h
  .cases h
  .cases h;rfl
 |a :: l,e,h,⟨r,g⟩=>by
  rw[yL,zM]at h;rw[zM]at g;split at h
  .rename_i i
   rw[if_pos i]at g;split at h
   .cases h
   .rename_i p j
    cases h;refine qfP l j ?_;split at g
    .rename_i q o;exact⟨q,o⟩
    .cases g
  .rename_i i
   rw[if_neg i]at g;cases g
theorem qsZ{sc bt}(F:FitK ts sc bs)(G:BdS ts (sumI sc.sC) bt)(g:TgL bt bs){n}(i:qT n=true) :
  (∃ y,fixL ts sc bt n = .ok y/\∃ x,fixL ts sc bs n = .ok x/\TgL y x)\/fixL ts sc bt n = .error 100\/∃ e,fixL ts sc bt n = .error e/\fixL ts sc bs n = .error e:=by
 cases h:fixL ts sc bt n with
 |ok y=>exact .inl ⟨y,rfl,qo7 F G g i h⟩
 |error e =>
  rcases qo8 (bs:=bs) h with rfl|j
  .exact .inr (.inl rfl)
  .exact .inr (.inr ⟨e,rfl,j⟩)
theorem qs0{sc z}(F:FitK ts sc bs){n o}(i:30<=n.op)(j:30<=o.op)(p:qT n=true)(t:qT (nd 41 [n,o])=true)(h:fixL ts sc bs (nd 41 [n,o]) = .ok z) :
  (∃ x,fixL ts sc bs n = .ok x/\TgL z x)\/∃ e,fixL ts sc bs n = .error e/\e≠0/\e≠100:=by
 cases g:zM ts (ts.sP.map Prod.snd++[n]) with
 |ok l=>exact .inl (qo9 F rfl rfl p t g h)
 |error e =>
  obtain⟨l,C,_⟩:=Vj h;obtain⟨P,R,c1,c2,_⟩:=Wh _ _ C;obtain⟨x,I,_⟩:=kC c2;have J:=qfP _ g ⟨_,c1⟩;refine .inr ⟨e,by unfold fixL;rw[g],pB _ g,?_⟩;rw[<-J];exact qsY i j I
end
end OR
set_option maxHeartbeats 1000000
namespace W72
open Y1 P1 P2 PA YF E1 E3 E4 EO EP F4 GF GR KR O0 KD KE KG Q2 Q4 F6 OI GQ GS GW KV OF OK OL W71 KX OM OP OQ OR
structure MoI (ts:TS) (sc:Sc) (bs:List Bd) (n o w:Nd) (Q:Nat) (av:AV) (X:List Bd) (A B:Md) (st:St):Prop where
 e2:st.tm 2=lBd bs
 e7:st.tm 7 = .ip (cTS ts)
 e8:st.tm 8 = .ip [lI sc.sC,aI sc.sN]
 e10:st.tm 10 = .ip (cNd n)
 e11:st.tm 11 = .ip (cNd o)
 e15:st.tm 15=aB true
 e16:st.tm 16 = .ptr 0 0
 e17:st.tm 17=av
 e18:st.tm 18 = .ptr Q 0
 e19:st.tm 19 = .ptr (Q+1) 0
 hw:st.mu[0]?=some (.arr (cNd w))
 hA:st.mu[Q]?=some (.arr (cMd A))
 hB:st.mu[Q+1]?=some (.arr (cMd B))
 ho:Own st.mu 4 av (X.map cBd)
theorem wkB{full}(b):WK (.lst full (b.map cBd)) (lBd b):=WK.lst fun r g c i=>by
 obtain⟨q,_,rfl⟩:=qn.1 g;exact UI q c i
theorem tigT{a b}(h:TgL a b)(g:a.length<=1000000)(i:∀ x,x∈a->BdOk x)(j:∀ x,x∈b->BdOk x):qg qc 20 [lBd a,lBd b] (aB true):=by
 have:=qq8 a b g i j
 rwa[qsW h]at this
theorem monoT(ts)(hs:∀ x,x∈ts.sS->x.1.size<=4611686018427387904)(sc bs n o pk pl)(hH:qg qc 6 [] (aB true)) :
  qg qc 5 [eTS ts,eSc sc,lBd bs,eNd n,eNd o,lB pk,lB pl] (aB true):=by
 refine qSU call5 func5 rfl ?_;refine fR hH .nil ?_;refine tU (OM.js 41 [n,o]) (OM.w2 41 [n,o]) ?_;generalize hw:nd 41 [n,o]=w;have wf:∀(b:List Bd)(q:Nd),WKs [eTS ts,eSc sc,lBd b,eNd q] [eTS ts,eSc sc,lBd b,eNd q]:=fun b q => .zk (zw ts) (.zk (zD sc) (.zk (jd b) (.zk (qE q) .nil)))
 simp[go_sem];refine tU (J3 ts hs sc bs n) (wf bs n) ?_;cases hf:f10 ts sc bs n with
 |false =>
  simp[go_sem];exact .zsc _
 |true =>
 have F:=py hs hf;simp[go_sem];refine tU (J3 ts hs sc bs o) (wf bs o) ?_;cases b6:f10 ts sc bs o with
 |false =>
  simp[go_sem];exact .zsc _
 |true =>
 have F2:=py hs b6;simp[go_sem];refine tU (J3 ts hs sc bs w) (wf bs w) ?_;cases b7:f10 ts sc bs w with
 |false =>
  simp[go_sem];exact .zsc _
 |true =>
 have F3:=py hs b7;have br:=F.bnd.len;have bu:=F.P.fl;have h0:=F.nws.s.n0;have a8:=F.nws.h12;have af:=fun q=>qsX F q 0 zOm
 have wm:∀ q:List Bool,WKs [eTS ts,eSc sc,lBd bs,lB q,.sc (.int .u8 0)] [eTS ts,eSc sc,lBd bs,lB q,.sc (.int .u8 0)]:=fun q => .zk (zw ts) (.zk (zD sc) (.zk (jd bs) (.zk (EO.hf_lB q) (.zs .nil))))
 simp[go_sem];refine .inl (jB.ownB (e:=42) (sz:=4) (bt:=64) (zv := .agg [aI 0,.lst true [],aI 0,.lst true []]) (xs:=[]) (ys:=bs.map cBd) zSi zSi zSi rfl rfl zOm zOm (.inl zSi) (by simp[qA]) (fun r hr=>absurd hr qK) (O0.Qj bs) zSo ?_);intro t aa a9 b8 b9 bb bc;simp only[jk]at a9;simp[go_sem,Own.one a9,Own.cells a9];have be:=F.sz.1;simp only[UL,qD,decide_eq_true_eq]at be;have fl:=fun q:List Bool=>qdR (bs:=bs) (fun b hb=>(F.bnd.so b hb).1) F.bnd.sub (vsT ts) q 0
 have e0:∀ q,(mdM sc (vsT ts) bs q 0).sK[0]?=some (mdS (vsT ts) bs q 0):=fun q=>by
  simp only[mdM,zB,List.getElem?_range (show 0<sc.sN.toNat by omega)];rfl
 have al:=b8 0 zSp (by simp[qu]);simp at al;have ca:=af pk;have cb:=af pl;have fa:=fl pk;have fb:=fl pl;have ea:=e0 pk;have eb:=e0 pl;generalize mdS (vsT ts) bs pk 0=a at fa ea;generalize mdS (vsT ts) bs pl 0=b at fb eb;generalize mdM sc (vsT ts) bs pk 0=A at ca ea;generalize mdM sc (vsT ts) bs pl 0=B at cb eb;have an:a.length=b.length:=fa.l.trans fb.l.symm;have bv:=fa.l;obtain⟨T,hT,TB,TG,bg⟩:∃ T:List Bd,T.length=a.length/\BdS ts (sumI sc.sC) T/\TgL T bs/\∀(i:Nat)(h:i<T.length)(h1:i<a.length)(C:i<b.length),T[i]=⟨inR a[i] b[i],unR a[i] b[i]⟩:=
  ⟨mkT a b,qfN an,(qfO F.bds fa fb).1,(qfO F.bds fa fb).2,fun i h h1 C=>pC an i h h1 C⟩
 refine fG [0,1,2,3,5,6,7,8,4,9,10,11,12,13] [(0,0,[]),(1,0,[]),(2,0,[]),(3,0,[]),(5,0,[]),(6,0,[]),(7,0,[]),(8,0,[]),(4,1,[5,6]),(9,1,[]),(10,2,[0,1,5,6]),(11,2,[0,1,5,6]),(12,1,[]),(13,1,[])] zKr zKr zSi ?_;simp[go_sem];refine fR ca (wm pk) ?_;refine fR cb (wm pl) ?_;generalize hQ:aa.length=Q at *
 have ag:qu t≠some 0:=fun h=>by have:=b9 _ h;simp at this
 have ao:∀ b,qu t=some b->b<Q:=fun b h=>zW1 (Own.lt a9 h)
 have bw:0<Q:=by simp at bb;omega
 have cA:∀ x:Md,cMd x=[lI x.sc.sC,aI x.sc.sN,lSt x.sK,aI x.loop]:=fun x=>rfl
 refine qk.upF bs.length (fun k U=>MoI ts sc bs n o w Q t (T.take k++bs.drop k) A B U/\U.tm 20=aI k) ?_ ?_
 .refine ⟨⟨zSi,zSi,zSi,zSi,zSi,zSi,zSi,zSi,zSi,zSi,?_,?_,?_,?_⟩,zSi⟩
  .simp only[qI]
   show (aa++_)[0]?=_;rw[zGa];exact al
  .simp only[qI]
   show (aa++_)[Q]?=_;rw[yd zOm,hQ,Nat.sub_self];rfl
  .simp only[qI]
   show (aa++_)[Q+1]?=_;rw[yd zOm,hQ,Nat.add_sub_cancel_left];rfl
  .simp only[qI]
   exact Own.push (zUs a9) _
 rintro k U hk ⟨I,a5⟩;have cc:(T.take k++bs.drop k).length=bs.length:=zSo;by_cases a0:k<bs.length
 .have w1:=zWk k
  have ka:k<a.length:=zOm;have kb:k<b.length:=zOm;have kT:k<T.length:=zOm;obtain⟨a1,a2,a3,a4⟩:=fa.r k ka a0;obtain⟨b1,b2,b3,b4⟩:=fb.r k kb a0;have lu:=(F.bds.b.2 k a0 zOm).up.len h0 zOm;have la:=UM a2 a4;have lb:=UM b2 b4;have bh:=qsI a[k] b[k] zOm zOm b2;have bi:=qfG a[k] b[k] zOm zOm;have bj:=bg k kT ka kb;have aq:(T.take k++bs.drop k).set k ⟨inR a[k] b[k],unR a[k] b[k]⟩=T.take (k+1)++bs.drop (k+1):=by
   have hl:(T.take k).length=k:=zSo;rw[<-bj,List.set_append_right _ _ zOm,hl,Nat.sub_self,zg a0,List.set_cons_zero,jg kT,zG];rfl
  obtain⟨bk,a6⟩:=bc (by intro h;have:=List.map_eq_nil_iff.1 h;subst this;simp at a0);generalize hX:T.take k++bs.drop k=X at *
  have a7:t = .sl bk 4 0 X.length/\U.mu[bk]?=some (.arr (X.map cBd).flatten):=by
   rcases I.ho with h|⟨b',h,hc⟩
   .rw [h]at a6;cases a6
   .rw [h]at a6;cases a6
    exact⟨by rw[h];simp,hc⟩
  obtain⟨a7,au⟩:=a7;have aw:(X.map cBd).flatten.length=X.length*4:=by rw[ym (O0.Qj X).ok];simp
  have ax:=(qh.1 au).1;have cd:=ao bk a6;have cf:bk≠0:=fun h=>ag (by rw[<-h];exact a6)
  have ai:=I.e17;have ah:=Jq (X.map cBd) k (cBd ⟨inR a[k] b[k],unR a[k] b[k]⟩) (O0.Qj X).ok rfl zSo;rw[<-List.map_set,aq,y7 _ _ _ (by simp only[aw,cBd,yh,List.length_nil];omega)]at ah;have ab:=I.hA;have ad:=I.hB;rw[cA]at ab ad;generalize aj:a[k]=ra at *
  generalize ak:b[k]=rb at *
  generalize cg:inR ra rb=ri at *
  generalize ch:unR ra rb=ru at *
  have bl:(X.map cBd).flatten.take (k*4)++aI ri.ar :: lI ri.ts :: aI ru.ar :: lI ru.ts :: (X.map cBd).flatten.drop (k*4+4)=((T.take (k+1)++bs.drop (k+1)).map cBd).flatten:=by rw[ah];simp[cBd]
  simp[go_sem,I.e2,a5,a0];refine tR zKr ?_;obtain⟨lA,ga⟩:=qh.1 ea;obtain⟨lB,gb⟩:=qh.1 eb;simp[go_sem,I.e18,I.e19,ai,a5,ab,ad,ga,gb,ka,kb,aj,ak,a7,lA,lB];refine tU bh (.zk (qx ra) (.zk (qx rb) .nil)) ?_;simp[go_sem,I.e18,I.e19,ai,a5,ab,ad,ga,gb,ka,kb,aj,ak,a7,lA,lB];refine tU bi (.zk (qx ra) (.zk (qx rb) .nil)) ?_;simp[go_sem,I.e18,I.e19,ai,a5,ab,ad,ga,gb,ka,kb,aj,ak,a7,lA,lB];refine tH (.ptr bk (k*4)) (if_pos zOm) ?_;simp[go_sem,au,aw];refine tH (U.mu.set bk (.arr ((T.take (k+1)++bs.drop (k+1)).map cBd).flatten)) (by rw[if_pos zOm,bl]) ?_;simp[go_sem,a5,w1,a0];refine⟨by simp[go_sem,I.e2],by simp[go_sem,I.e7],by simp[go_sem,I.e8],by simp[go_sem,I.e10],by simp[go_sem,I.e11],by simp[go_sem,I.e15],by simp[go_sem,I.e16],by simp[go_sem,I.e17,a7],by simp[go_sem,I.e18],by simp[go_sem,I.e19],?_,?_,?_,?_⟩
  .simp only[qI];rw[zGl];exact I.hw
  .simp only[qI];rw[zGl];exact I.hA
  .simp only[qI];rw[zGl];exact I.hB
  .simp only[qI]
   refine .inr ⟨bk,?_,by rw[qz ax];simp⟩;congr 1;have:=congrArg List.length aq;simp at this;simp;omega
 .have bm:k=bs.length:=by omega
  subst bm;rw[zU,yg,List.take_of_length_le zOm]at I;simp[go_sem,I.e2,a5,a0];refine FzQ.ownB (d:=17) (av:=t) (xs:=T.map cBd) I.e17 I.ho (O0.Qj _) (fun r hr c hc=>by obtain⟨q,_,rfl⟩:=qn.1 hr;exact UI q c hc) fun bn full hl hs=>?_
  have J:bn[0]?=some (.arr (cNd w)):=by rw[hs 0 ag];exact I.hw
  have bT:=Jj TB h0 a8;have bB:=Jj F.bds h0 a8;have cv:=qsH F (qpB F.bnd TB TG);have bo:T.length<=1000000:=zOm;simp[go_sem,I.e2];refine tU (tigT TG bo bT bB) (.cons (wkB T) (.zk (jd bs) .nil)) ?_;simp[go_sem,I.e7,I.e8];refine tU cv (.zk (zw ts) (.zk (zD sc) (.cons (wkB T) .nil))) ?_;have cn:=F.fixU F.hn F.bds;have cT:=F.fixU F.hn TB;have cw:=F.fixU F3.hn F.bds;have wT:∀ full,WKs [eTS ts,eSc sc,.lst full (T.map cBd),eNd n] [eTS ts,eSc sc,lBd T,eNd n]:=fun full => .zk (zw ts) (.zk (zD sc) (.cons (wkB T) (.zk (qE n) .nil)))
  have ae:=(jr F3.hn).shape;rw[<-hw,show (nd 41 [n,o]).op=41 from rfl,show (nd 41 [n,o]).sD=[n,o] from rfl,show shp 41 [n,o].length=some [102,102] from rfl]at ae;simp only[List.map_cons,List.map_nil,Option.some.injEq,List.cons.injEq,and_true]at ae;have ay:=kj ae.1.symm;have az:=kj ae.2.symm;have mf:=qsZ F.fk TB TG F.hn;have mg:=fun z (h:fixL ts sc bs w = .ok z)=>qs0 (o:=o) (z:=z) F.fk ay.1 az.1 F.hn (by rw[hw];exact F3.hn) (by rw[hw];exact h)
  have b0:∀(q:List Bd)(m:Nd),qT m=true->fixL ts sc bs m = .ok q->q.length<=1000000/\∀ y,y∈q->BdOk y:=fun q m hm hq=>by
   have:=(kD F.fk hm hq).1;have hl:=this.b.1;exact⟨zOm,Jj this h0 a8⟩
  have j:(cNd w).length=5:=ZD w;simp[go_sem,I.e2,I.e7,I.e8,I.e10];cases hx:fixL ts sc bs n with
  |error e =>
   have he:=Ji hx;rw[hx]at cn mf;obtain⟨f,R,hf⟩:∃ f,fixL ts sc T n = .error f/\(e=100->f=100):=by
    rcases mf with ⟨y,_,x,h,_⟩|h|⟨d,h1,C⟩
    .cases h
    .exact ⟨_,h,fun _=>rfl⟩
    .cases C
     exact⟨_,h1,fun h=>h⟩
   have b5:=Ji R;rw[R]at cT;refine tU cn (wf bs n) ?_;simp[go_sem,outF,I.e2,I.e7,I.e8,I.e10,I.e15,I.e16,J,j];refine tU cT (wT _) ?_;simp[go_sem,outF,I.e2,I.e7,I.e8,I.e10,I.e15,I.e16,J,j];cases hz:fixL ts sc bs w with
   |error g =>
    have hg:=Ji hz;rw[hz]at cw;refine tU cw (wf bs w) ?_;by_cases e1:e=100
    .by_cases g1:g=100
     .have bq:=hf e1
      simp[go_sem,outF,I.e2,I.e7,I.e8,I.e10,I.e15,I.e16,J,j,e1,g1,bq];exact .zsc _
     .simp [go_sem,outF,I.e2,I.e7,I.e8,I.e10,I.e15,I.e16,J,j,e1,g1,hg]
      exact .zsc _
    .simp [go_sem,outF,I.e2,I.e7,I.e8,I.e10,I.e15,I.e16,J,j,e1,he]
     exact .zsc _
   |ok z =>
    rw[hz]at cw;refine tU cw (wf bs w) ?_;have e1:e≠100:=by
     rcases mg z hz with ⟨x,h,_⟩|⟨d,h,_,C⟩
     .rw [hx]at h;cases h
     .rw [hx]at h;cases h;exact C
    simp[go_sem,outF,I.e2,I.e7,I.e8,I.e10,I.e15,I.e16,J,j,e1,he];exact .zsc _
  |ok x =>
   obtain⟨lx,bx⟩:=b0 x n F.hn hx;rw[hx]at cn;refine tU cn (wf bs n) ?_;simp[go_sem,outF,I.e2,I.e7,I.e8,I.e10,I.e15,I.e16,J,j];cases hz:fixL ts sc bs w with
   |error g =>
    have hg:=Ji hz;rw[hz]at cw;cases R:fixL ts sc T n with
    |error f =>
     have b5:=Ji R;have f1:f=100:=by
      rcases mf with ⟨y,h,_⟩|h|⟨d,_,C⟩
      .rw [R]at h;cases h
      .rw [R]at h;cases h;rfl
      .rw [hx]at C;cases C
     rw[R]at cT;refine tU cT (wT _) ?_;simp[go_sem,outF,I.e2,I.e7,I.e8,I.e10,I.e15,I.e16,J,j];refine tU cw (wf bs w) ?_;by_cases g1:g=100
     .simp [go_sem,outF,I.e2,I.e7,I.e8,I.e10,I.e15,I.e16,J,j,g1,f1]
      exact .zsc _
     .simp [go_sem,outF,I.e2,I.e7,I.e8,I.e10,I.e15,I.e16,J,j,g1,hg]
      exact .zsc _
    |ok y =>
     have ty:TgL y x:=by
      rcases mf with ⟨y',h,x',C,h3⟩|h|⟨d,_,C⟩
      .rw [R]at h;cases h;rw[hx]at C;cases C;exact h3
      .rw [R]at h;cases h
      .rw [hx]at C;cases C
     rw[R]at cT;refine tU cT (wT _) ?_;simp[go_sem,outF,I.e2,I.e7,I.e8,I.e10,I.e15,I.e16,J,j];refine tU cw (wf bs w) ?_;by_cases g1:g=100
     .simp [go_sem,outF,I.e2,I.e7,I.e8,I.e10,I.e15,I.e16,J,j,g1]
      refine tU (tigT ty (zW1 ty.1) (Jj (kD ⟨F.fk.h,F.fk.v,F.fk.f,F.fk.k,F.fk.w,TB⟩ F.hn R).1 h0 a8) bx) (.zk (jd y) (.zk (jd x) .nil)) ?_;simp[go_sem,outF,I.e2,I.e7,I.e8,I.e10,I.e15,I.e16,J,j,g1];exact .zsc _
     .simp [go_sem,outF,I.e2,I.e7,I.e8,I.e10,I.e15,I.e16,J,j,g1,hg]
      exact .zsc _
   |ok z =>
    have tz:TgL z x:=by
     rcases mg z hz with ⟨x',h,h3⟩|⟨d,h,_,C⟩
     .rw [hx]at h;cases h;exact h3
     .rw [hx]at h;cases h
    obtain⟨lz,bz⟩:=b0 z w F3.hn hz;rw[hz]at cw;cases R:fixL ts sc T n with
    |error f =>
     have b5:=Ji R;have f1:f=100:=by
      rcases mf with ⟨y,h,_⟩|h|⟨d,_,C⟩
      .rw [R]at h;cases h
      .rw [R]at h;cases h;rfl
      .rw [hx]at C;cases C
     rw[R]at cT;refine tU cT (wT _) ?_;simp[go_sem,outF,I.e2,I.e7,I.e8,I.e10,I.e15,I.e16,J,j];refine tU cw (wf bs w) ?_;simp[go_sem,outF,I.e2,I.e7,I.e8,I.e10,I.e15,I.e16,J,j,f1];refine tU (tigT tz lz bz bx) (.zk (jd z) (.zk (jd x) .nil)) ?_;simp[go_sem,outF,I.e2,I.e7,I.e8,I.e10,I.e15,I.e16,J,j,f1];exact .zsc _
    |ok y =>
     have ty:TgL y x:=by
      rcases mf with ⟨y',h,x',C,h3⟩|h|⟨d,_,C⟩
      .rw [R]at h;cases h;rw[hx]at C;cases C;exact h3
      .rw [R]at h;cases h
      .rw [hx]at C;cases C
     rw[R]at cT;refine tU cT (wT _) ?_;simp[go_sem,outF,I.e2,I.e7,I.e8,I.e10,I.e15,I.e16,J,j];refine tU cw (wf bs w) ?_;simp[go_sem,outF,I.e2,I.e7,I.e8,I.e10,I.e15,I.e16,J,j];refine tU (tigT ty (zW1 ty.1) (Jj (kD ⟨F.fk.h,F.fk.v,F.fk.f,F.fk.k,F.fk.w,TB⟩ F.hn R).1 h0 a8) bx) (.zk (jd y) (.zk (jd x) .nil)) ?_;simp[go_sem,outF,I.e2,I.e7,I.e8,I.e10,I.e15,I.e16,J,j];refine tU (tigT tz lz bz bx) (.zk (jd z) (.zk (jd x) .nil)) ?_;simp[go_sem,outF,I.e2,I.e7,I.e8,I.e10,I.e15,I.e16,J,j];exact .zsc _
theorem qs1(ts)(i:∀ x,x∈ts.sS->x.1.size<=4611686018427387904)(sc bs n o g pl):qg qc 5 [eTS ts,eSc sc,lBd bs,eNd n,eNd o,lB g,lB pl] (aB true):=monoT ts i sc bs n o g pl OM.headU
end W72
namespace DL
open Go.EvW Go.RowKit Go.ChangeShapes Go.WideShapes
theorem own:ownKnob qc.godebug=none:=by kernel_rfl
theorem laid:laidOutB qc=true:=by kernel_rfl
abbrev tabL : List (String × DataW Unit) := [("math/bits.deBruijn32tab", Rows.laid_math_bits_deBruijn32tab), ("math/bits.deBruijn64tab", Rows.laid_math_bits_deBruijn64tab), ("internal/strconv.uint64pow10", Rows.laid_internal_strconv_uint64pow10)]
def pows:List Int:=[1,10,100,1000,10000,100000,1000000,10000000,100000000,1000000000,10000000000,100000000000,1000000000000,10000000000000,100000000000000,1000000000000000,10000000000000000,100000000000000000,1000000000000000000,10000000000000000000]
theorem gPow : qc.globalNamed "internal/strconv.uint64pow10" = some 0 := by kernel_rfl
theorem tPow:(qc.globals[0]?).map (·.type)=some 336:=by kernel_rfl
theorem uPow:qc.underlying 336=some (.array 20 281):=by kernel_rfl
theorem uU64:qc.underlying 281=some (.int .u64):=by kernel_rfl
theorem qs2{W}(h:laidMetH qc tabL W):Zr (·<W.heap.size) W.heap:=by
  rw[MakeChecks.laidMetH_plain _ _ _ zKr]at h;obtain⟨ps,I,_⟩:=h
  obtain ⟨g, t, l, o, p, J, R, T, U⟩ := qcP I ("internal/strconv.uint64pow10", Rows.laid_internal_strconv_uint64pow10) zSp
  obtain rfl:=Option.some.inj (gPow.symm.trans J);obtain rfl:=Option.some.inj (tPow.symm.trans R);have hc:l.toList=pows.map fun i => .int .u64 i:=qnQ uPow uU64 zKr zKr (ns:=pows) U
  obtain⟨e,fr,C⟩:=qnR gPow T;intro x j;have j:x∈[(0,pows.map fun i=>Value.int .u64 i)]:=j;rw[qS]at j;subst j;refine⟨(Array.getElem?_eq_some_iff.1 C).1,e,fr,?_⟩;show W.heap[0]?=_;rw[C];have:l=(pows.map fun i=>Value.int .u64 i).toArray:=by rw[<-hc]
  rw[this]
theorem qs3(os args):laidMetH qc tabL ((World.doorLaid qc 4000 os).forCall (fun _ _=>0) ⟨#[],args,[]⟩).memory:=
 laidMetH_of_parts3 (fuel:=8) (laidMet_of_run' 8 zKr zKr) zKr zKr
end DL
namespace DM
open Go.EvW E3 DT
instance:Inhabited Rl:=⟨⟨0,[]⟩⟩
instance:Inhabited Sc:=⟨⟨[],0⟩⟩
instance:Inhabited Md:=⟨⟨default,[],0⟩⟩
theorem qfQ(N):ShU qc N 40 cRel (fun _=>True):=
 ((ShU.struct (fs:=[(3,0),(28,1)]) zKr (.cons' (o':=1) zKr (ZT N) (.cons' (o':=2) zKr (KZ N) (.nil 2))) zKr).map
  (fun x=>(⟨x.1,x.2.1⟩:Rl)) (fun _=>rfl) (fun x h=>trivial)).le zOm
theorem qs4(N):ShU qc N 30 (fun s:Sc=>[lI s.sC,aI s.sN]) (fun _=>True):=
 ((ShU.struct (fs:=[(28,0),(3,1)]) zKr (.cons' (o':=1) zKr (KZ N) (.cons' (o':=2) zKr (ZT N) (.nil 2))) zKr).map
  (fun x=>(⟨x.1,x.2.1⟩:Sc)) (fun _=>rfl) (fun x h=>trivial)).le zOm
end DM
namespace HX
open Go.EvW DM GB
instance:Inhabited Bd:=⟨⟨default,default⟩⟩
instance:Inhabited Ed:=⟨⟨0,0,0,0⟩⟩
theorem qfR:qc.underlying 31=some (.slice 42):=by kernel_rfl
theorem qs5(N):ShU qc N 42 cBd (fun _=>True):=
 ((ShU.struct (fs:=[(40,0),(40,2)]) zKr (.cons' (o':=2) zKr (qfQ N) (.cons' (o':=4) zKr (qfQ N) (.nil 4))) zKr).map
  (fun x=>(⟨x.1,x.2.1⟩:Bd)) (fun _=>rfl) (fun x h=>trivial)).le zOm
theorem qs6(N):ShU qc N 31 (fun b:List Bd=>[lBd b]) (fun _=>True):=
 ((ShU.slice qfR (qs5 N) (fun _ _=>zKr) (Nat.lt_of_lt_of_eq (show 0<4 by omega) zKr) zKr).le zOm).map (fun l=>l) (fun _=>rfl) fun _ _=>trivial
theorem qs7:vh qc 31 lBd (fun _=>True):=vh.slice qfR qs6
end HX
namespace DP
open Go.EvW DM
theorem qs8:vh qc 30 (fun s:Sc=>eSc s) (fun _=>True):=vh.struct zKr qs4
end DP
namespace DR
open Go.EvW EO DT
theorem unBl:qc.underlying 55=some (.slice 4):=by kernel_rfl
theorem shBl(N):ShU qc N 55 (fun l:List Bool=>[lB l]) (fun _=>True):=
 ((ShU.slice unBl (KY N) (fun _ _=>zKr) (Nat.lt_of_lt_of_eq Nat.zero_lt_one zKr) zKr).le zOm).map (fun l=>l) (fun _=>rfl) fun _ _=>trivial
theorem aBl:vh qc 55 (fun l:List Bool=>lB l) (fun _=>True):=vh.slice unBl shBl
end DR
end Go.Proofs.YtlnbdknjkmmgbaaGreatDoor
