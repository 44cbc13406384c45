/-
  Own library, part 9: an abstract reading of values and a calculus over it; contracts of functions; plain lemmas.
-/
import Derived.Test.YthflbhjlkgdafaaGreatDoorRows
import Derived.LaidMore
import Derived.MakeChecks
import Derived.WalkKit
import Derived.JoinedCond
import Derived.Test.YthflbhjlkgdafaaGreatDoorMh
set_option linter.unusedVariables false
set_option linter.unusedSimpArgs false
set_option maxRecDepth 100000
set_option maxHeartbeats 1000000
open Go renaming Program->qc,FuncId->zV,Oper->yj,Operand->qh,undef->z6,Value->qf,World->qe
open Go.Proofs.Tryz renaming prog->qg
open List renaming getElem?_eq_some_iff->ql,mem_map->qp,range->qu,getElem_mem->qv,getElem?_eq_getElem->qy,getElem?_set_self->qJ,getElem?_append_left->qL,not_mem_nil->qO,mem_append->qP,mem_singleton->qX,all_eq_true->qY,mem_cons_of_mem->q9,take_length->za,drop_eq_getElem_cons->ze,map_cons->zf,map_append->zi,length_append->zj,mem_cons_self->zo,getD_eq_getElem?_getD->zH,length_map->zT,append_nil->ye,cons_append->yq,length_cons->yy,getElem?_set_ne->yH,nil_append->y8,ext_getElem?->vg,mem_of_mem_take->vZ,length_take->ub,mem_iff_getElem->uA,getElem_map->Yd
open Nat renaming le_refl->qn,le_of_ble_eq_true->vd
open Go.IntKind renaming i64->qo
open Bool renaming and_eq_true->qD
open Int renaming tmod_eq_emod_of_nonneg->vJ
namespace Go.Proofs.YthflbhjlkgdafaaGreatDoor
open Go Go.Ev Go.Proofs Tryz
namespace OC
open Go.RowKit Y1 Y9 P1 YF EO KA O0 KE KF O7 O9 OB
section
variable {args:List AV}
theorem tH{P f fn id o o2 g pl mu m R}(a5:yT P f)(hf:P.funcs[f]?=some fn)
  (hb:fn.body=some (.seq (.region id #[o,o2] false) g)) (ho:∃ d ty pos af,o={ dst:=d,op := .call { callee := .builtin .recover,args:=#[],argTypes:=af },type:=ty,pos:=pos,after:=#[],guard:=none })
  {x} (ag:∃ d ty pos ah,o2={ dst:=d,op := .assign x,type:=ty,pos:=pos,after:=ah,guard:=none })
  (hn:args.length<=fn.ntmps) (hd:dOkC fn.ntmps (.seq (.region id #[o,o2] false) g)=true) (hr:noRF g=true)
  (h:awp P pl g (wF P fn.results.toList fun e l=>∃ r,e = .ret r/\R l) (((st0 args mu).put o.dst (m.getD (.sc .nilIface)) mu).put o2.dst (((st0 args mu).put o.dst (m.getD (.sc .nilIface)) mu).ev x) mu)):yo P f args mu m R:=by
 obtain⟨od,a6,T,a0,rfl⟩:=ho;obtain⟨pd,a7,a1,a8,rfl⟩:=ag;refine⟨a5,fun G w vs u s ra hm=>?_⟩;refine callsDIn_of_wpSIn hf hb trivial fun j cs hc=>?_
 have r0:Rel Ro.bare G mu w fn.ntmps G (st0 args mu) { tmps:=vs++Array.replicate (fn.ntmps-vs.size) z6,defers:=[] } w:=fM s ra hn;simp only[dOkC,qD]at hd;have ai:dOk fn.ntmps od=true:=by grind
 have aj:dOk fn.ntmps pd=true:=by grind
 refine wpSIn_seq (wpSIn_region ?_);have aa:∀ ev:qh->qf,(execOp ev { dst:=od,op := .call { callee := .builtin .recover,args:=#[],argTypes:=a0 },type:=a6,pos:=T,after:=#[],guard:=none }).run P w = .ok .recover w:=by
  simp_all[execOp,resolve,invoke,builtin]
 have a3:∀ ev:qh->qf,(execOp ev { dst:=pd,op := .assign x,type:=a7,pos:=a1,after:=a8,guard:=none }).run P w = .ok (.value (ev x)) w:=by
  simp_all[execOp]
 have go:∀(a4:List Frame)(v:qf)(J:FrameMode),a4={ j with mode:=J } :: cs->settle J = .returning->VRel G w.heap (m.getD (.sc .nilIface)) v ->
   wpOpsSIn Fence.wide 0 P #[{ dst:=od,op := .call { callee := .builtin .recover,args:=#[],argTypes:=a0 },type:=a6,pos:=T,after:=#[],guard:=none },{ dst:=pd,op := .assign x,type:=a7,pos:=a1,after:=a8,guard:=none }] (Exit.thenS (g.wpSIn Fence.wide 0 P (bodyPostS P fn j cs fun e J w'=>∃ v G' l,e = .returned v/\settle J = .returning/\Stp G mu w G' l w'/\R l)) (bodyPostS P fn j cs fun e J w'=>∃ v G' l,e = .returned v/\settle J = .returning/\Stp G mu w G' l w'/\R l)) [1]
    (({ tmps:=vs++Array.replicate (fn.ntmps-vs.size) z6,defers:=[] }:Act).put od v) a4 w:=by
  intro a4 v J ad a2 hv;have r1:=r0.put s (Stp.refl s) hv ai;have ak:=r1.ev x;simp only[wpOpsSIn];refine⟨fun _ _=>trivial,?_⟩;simp only[Region.wanted,List.getElem_toArray,List.getElem_cons_succ,List.getElem_cons_zero,if_true];rw[a3];refine wpSIn_of_wpIn rfl ?_;refine Ul (pl:=pl) (n:=fn.ntmps) g (ro:=Ro.bare) s _ _ _ _ w G ?_ (r1.put s (Stp.refl s) ak aj) hd.2 (.inr hr) h;intro ae e U a w' G' hq r he;cases ae<;>cases e<;>simp only[ERel]at he
  .obtain ⟨z,hz,z',_,hR⟩:=hq
   obtain⟨u2,k1,k2⟩:=ZP (fn:=fn) r hz;exact⟨r.bare,J,ad,u2,k1,u2,G',U.mu,rfl,a2,r.stp,hR⟩
  .exact hq.elim
  .obtain ⟨z,hz,z',_,hR⟩:=hq
   obtain⟨u2,k1,k2⟩:=ZP (fn:=fn) r hz;exact⟨r.bare,J,ad,u2,k1,u2,G',U.mu,rfl,a2,r.stp,hR⟩
  .obtain ⟨z,hz,_⟩:=hq
   grind
 simp only[List.size_toArray,yy,List.length_nil,qu,qu.loop];rw[wpOpsSIn];refine⟨fun _ _=>trivial,?_⟩;simp only[Region.wanted,List.getElem_toArray,List.getElem_cons_succ,List.getElem_cons_zero,if_true];rw[aa];cases m with
 |none =>
  have hu:u = .returning:=hm;have C:recoverD (j :: cs)=none:=by simp[recoverD,hc,hu]
  rw[C];exact go _ .nilIface .returning (by rw[<-hu,<-hc]) rfl (.sc _ rfl)
 |some x =>
  obtain⟨v,hu,hv⟩:=hm;have C:recoverD (j :: cs)=some (v,{ j with mode := .panicking [{ v,recovered:=true }] } :: cs):=by simp[recoverD,hc,hu]
  rw[C];exact go _ v (.panicking [{ v,recovered:=true }]) rfl rfl hv
theorem tU{P f fn id ops c pl mu R}(g:yT P f)(hf:P.funcs[f]?=some fn)
  (I:fn.body=some (.seq (.region id ops false) (.scope c))) (J:args.length<=fn.ntmps) (j:dOkC fn.ntmps (.seq (.region id ops false) (.scope c))=true)
  (h:awpS P pl false ops ops.toList (fun st=>awpD P pl fn.results.toList R c st) (fun v st=>R (.pan v) st.mu) (st0 args mu)):qC P f args mu R:=by
 refine⟨g,fun G w t s T=>?_⟩;refine(callsIn_wide (n:=0)).1 (callsIn_of_wp_marks hf I trivial ?_);have U:Rel Ro.bare G mu w fn.ntmps G (st0 args mu) { tmps:=t++Array.replicate (fn.ntmps-t.size) z6,defers:=[] } w:=fM s T J;simp only[dOkC,qD]at j;have l:(ops.toList.all fun o=>dOk fn.ntmps o.dst)=true:=j.1;refine wpIn_seq (wpIn_region_list ?_);refine Uc s ?_ ?_ ops.toList (st0 args mu) _ w G U l h
 .intro st a w G p r
  exact g8 (wpIn_mono (nA (pl:=pl) s c st a w G r j.2 p) (fun e a w h=>by cases e<;>first|exact h|exact h.elim))
 .intro v st a w G u p r hv
  show LeavesInM _ _ _ _ _ _ _ _ _;rw[r.bare];exact⟨G,st.mu,r.stp,.inr ⟨v,u,p,rfl,hv⟩⟩
theorem cfN(mu b x)(i:mu[b]?=some (.arr [x])):yo qg 143 [.ptr b 0] mu none fun mu'=>mu'=mu:=by
 refine tH call143 func143 rfl ⟨_,_,_,_,rfl⟩ ⟨_,_,_,_,rfl⟩ (vd zKr) zKr zKr (pl:={}) ?_;simp[go_sem]
theorem cfP(mu b x)(i:mu[b]?=some (.arr [x])):yo qg 143 [.ptr b 0] mu (some cfV) fun mu'=>∃ c,mu'=mu.set b (.arr [aB false])++[c]:=by
 refine tH call143 func143 rfl ⟨_,_,_,_,rfl⟩ ⟨_,_,_,_,rfl⟩ (vd zKr) zKr zKr (pl:={}) ?_;have j:b<mu.length:=(ql.1 i).1;simp_all[go_sem]
inductive Al:Nd->Prop where
 |leaf {n:Nd}:n.op≠48->Al n
 |step {n k:Nd} {ks:List Nd}:n.op=48->n.sD=k :: ks->Al k->Al n
theorem qsS{n}(h:n.op≠48)(g):jf n g=(n,g):=by
 obtain⟨op,nm,i,ks,p⟩:=n;rw[jf];exact if_neg h
theorem qsT{n k ks}(h:n.op=48)(j:n.sD=k :: ks)(g):jf n g=jf k true:=by
 obtain⟨op,nm,i,l,p⟩:=n;cases j;rw[jf,UV];exact if_pos h
structure EndF (p:Nat) (bv:AV) (ts:TS) (sc:Sc) (mu:Mu) (r:Option (List Bd)) (e:AEnd) (m:Mu):Prop where
 but:But2 p bv mu m
 fin:match r with
  |some bs=>e = .ret (aB true)/\∃ ch,NsW m p bv ts sc bs ch
  |none=>e = .ret (aB false)
variable {ts:TS} {sc:Sc}
structure FxO (ts:TS) (sc:Sc) (l:List Nd) (full:Bool) (p:Nat) (bv:AV) (mu:Mu) (R:Option (List Bd)) (bs1:List Bd) (ch1:Bool) (n:Nat) (st:St):Prop where
 e0:st.tm 0 = .ptr p 0
 e1:st.tm 1 = .lst full (l.map cNd)
 e4:st.tm 4 = .ptr mu.length 0
 hN:NsW st.mu p bv ts sc bs1 ch1
 hB:But2 p bv mu st.mu
 hz:st.mu[mu.length]?=some (.arr [aB false])
 hb:BdS ts (sumI sc.sC) bs1
 hg:gapL bs1<=n
 hR:fixN ts sc l (n+1) bs1=R
def FxOE(ts:TS)(sc:Sc)(l:List Nd)(full:Bool)(p:Nat)(bv:AV)(mu:Mu)(R:Option (List Bd))(n:Nat)(st:St):Prop:=∃ g i,FxO ts sc l full p bv mu R g i n st
structure FxM (ts:TS) (sc:Sc) (l:List Nd) (full:Bool) (p:Nat) (bv:AV) (mu:Mu) (R:Br) (k:Nat) (bs1:List Bd) (ch1:Bool) (n:Nat) (st:St):Prop where
 e0:st.tm 0 = .ptr p 0
 e1:st.tm 1 = .lst full (l.map cNd)
 e4:st.tm 4 = .ptr mu.length 0
 e12:st.tm 12 = .lst full (l.map cNd)
 e13:st.tm 13=aI l.length
 e14:st.tm 14=aI k
 hN:NsW st.mu p bv ts sc bs1 ch1
 hB:But2 p bv mu st.mu
 hz:st.mu[mu.length]?=some (.arr [aB false])
 hb:BdS ts (sumI sc.sC) bs1
 hk:n+k=l.length
 hR:Zu ts sc (l.drop k) bs1 ch1=R
def FxME(ts:TS)(sc:Sc)(l:List Nd)(full:Bool)(p:Nat)(bv:AV)(mu:Mu)(R:Br)(n:Nat)(st:St):Prop:=∃ k g i,FxM ts sc l full p bv mu R k g i n st
structure FxS (l:List Nd) (full:Bool) (p:Nat) (b:Nat) (M:Mu) (n:Nd) (g:Bool) (k:Nat) (cur:Nd) (cg:Bool) (m:Nat) (st:St):Prop where
 e0:st.tm 0 = .ptr p 0
 e1:st.tm 1 = .lst full (l.map cNd)
 e4:st.tm 4 = .ptr b 0
 e6:st.tm 6 = .ptr M.length 0
 e7:st.tm 7=aB cg
 e12:st.tm 12 = .lst full (l.map cNd)
 e13:st.tm 13=aI l.length
 e14:st.tm 14=aI k
 hm:MuLe M st.mu
 hc:st.mu[M.length]?=some (.arr (cNd cur))
 ha:Al cur
 hs:jf cur cg=jf n g
 hn:szN cur<=m
def FxSE(l:List Nd)(full:Bool)(p b:Nat)(M:Mu)(n:Nd)(g:Bool)(k m:Nat)(st:St):Prop:=∃ cur i,FxS l full p b M n g k cur i m st
theorem fixM(C:NwC ts sc){l}(hl:TyL (arT ts) l)(ha:∀ n,n∈l->Al n)(bj:l.length<=1000000000){mu p bv bs ch full}(hN:NsW mu p bv ts sc bs ch)(hb:BdS ts (sumI sc.sC) bs) :
  qC qg 63 [.ptr p 0,.lst full (l.map cNd)] mu (EndF p bv ts sc mu (fixN ts sc l (gapL bs+1) bs)):=by
 generalize hR:fixN ts sc l (gapL bs+1) bs=R;have a5:mu.length≠p/\qq bv≠some mu.length:=by
  have hp:=(ql.1 hN.st).1;refine⟨zOm,fun e=>?_⟩;rcases hN.ow with ⟨rfl,_⟩|⟨q,rfl,hq,_⟩
  .cases e
  .cases e
   have:=(ql.1 hq).1;omega
 refine tU call63 func63 rfl (vd zKr) zKr (pl:={}) ?_;simp[go_sem];refine dT (g:=143) (first:=[]) (caps:=[.ptr mu.length 0]) zSi call143 ?_;simp[go_sem];refine tL (FxOE ts sc l full p bv mu R) (gapL bs) ?_ ?_
 .exact ⟨bs,ch,⟨zSi,zSi,zSi,hN.le (MuLe.app (MuLe.refl _) _),tX (MuLe.app (MuLe.refl _) _),zSi,hb,qn _,hR⟩⟩
 rintro n U ⟨a4,bk,e0,e1,T,af,ag,b0,aq,bl,o⟩;rw[fixN]at o;have a3:=af.st;have ar:=(ql.1 a3).1;have au:p≠mu.length:=fun e=>zOm
 have av:NsW (U.mu.set p (.arr (cNs ts sc bv (sumI sc.sC) false))) p bv ts sc a4 false:=by
  refine⟨qJ ar,?_⟩;rcases af.ow with h|⟨q,h1,h2,h3⟩
  .exact .inl h
  grind
 have aw:But2 p bv mu (U.mu.set p (.arr (cNs ts sc bv (sumI sc.sC) false))):=⟨by simp;exact ag.1,fun i hi h1 h2=>by rw[yH (fun e=>h1 e.symm)];exact ag.2 i hi h1 h2⟩;have ax:(U.mu.set p (.arr (cNs ts sc bv (sumI sc.sC) false)))[mu.length]?=some (.arr [aB false]):=by grind
 generalize ah:Zu ts sc l a4 false=RR at o;have step:=fun (b':List Bd) (c':Bool) (h:Zu ts sc l a4 false=some (b',c'))=>qb9 C.W l hl a4 b' false c' aq h
 simp[go_sem,e0,e1,T,a3];generalize b2:U.mu.set p (.arr [lSo ts.sS,lFl ts.sA,lPd ts.sT,lFa ts.sP,lI sc.sC,aI sc.sN,bv,aI (sumI sc.sC),AV.sc (Value.bool false)])=Mf;have b3:U.mu.set p (.arr (cNs ts sc bv (sumI sc.sC) false))=Mf:=b2;rw[b3]at av aw ax;refine tL (FxME ts sc l full p bv mu RR) l.length ?_ ?_
 .exact ⟨0,a4,false,⟨zS1 e0,zS1 e1,zS1 T,zSi,zSi,zSi,by simp[go_sem, *],by simp[go_sem, *],by simp[go_sem, *],aq,zOm,zUs ah⟩⟩
 clear a3 ar au av aw ax e0 e1 T af ag b0;rintro j st2 ⟨k,a0,a6,e0,e1,T,I,J,P,a8,ai,a9,aj,bm,t⟩;by_cases aa:k<l.length
 .rw [ze aa,Zu]at t
  have a3:=a8.st;have b4:=ha _ (qv aa);have b5:=hl _ (qv aa);generalize b6:l[k]=nn at *
  have b7:MuLe st2.mu (st2.mu++[.arr (cNd nn)]):=MuLe.app (MuLe.refl _) _;have ay:=b7 _ _ a3;simp[go_sem,e0,e1,T,I,J,P,aa,b6,ay];refine tL (FxSE l full p mu.length st2.mu nn (decide (sc.sN=1)) k) (szN nn) ?_ ?_
  .exact ⟨nn,decide (sc.sN=1),⟨zS1 e0,zS1 e1,zS1 T,zSi,zSi,zS1 I,zS1 J,zS1 P,by simp[go_sem, *],zSi,b4,rfl,qn _⟩⟩
  clear e0 e1 T I J P;rintro m st3 ⟨cur,cg,e0,e1,T,e6,e7,I,J,P,ak,al,b8,ab,bn⟩;by_cases ad:cur.op=48
  .cases b8 with
   |leaf h=>omega
   | @step _ kk ks _ an b9 =>
   have bo:szN kk<szN cur:=zl (by rw[an];simp);have bb:=(ql.1 al).1;rw[qsT ad an]at ab;have hd:cNd kk++List.drop 5 (cNd cur)=cNd kk:=by cases cur;simp[cNd]
   simp[go_sem,e0,e1,T,e6,e7,I,J,P,al,ad,an,hd];refine⟨szN kk,zOm,⟨kk,true,⟨zS1 e0,zS1 e1,zS1 T,zS1 e6,zSi,zS1 I,zS1 J,zS1 P,by simp_all[go_sem,tB,qn],zS1 bb,b9,ab,qn _⟩⟩⟩
  .rw [qsS ad]at ab
   have bc:=a8.le ak;have w1:=zWk k;have ty:=b5 (decide (sc.sN=1));rw[<-ab]at ty t;have az:=ai.trans (tX (p:=p) (bv:=bv) ak);have ae:=ak _ _ a9;have c:=qsR C ty cg bc aj;have sp:=fun (b':List Bd) (c':Bool) (h:u4 ts sc cg cur a0 a6=some (b',c'))=>qb8 C.W (qb7 ty) cg a0 b' a6 c' aj (by grind [qb6])
   simp only at t;simp[go_sem,e0,e1,T,e6,e7,I,J,P,al,ad];refine aA c (fun r m h=>?_) (fun r m h=>?_)
   .obtain ⟨b1,k1,a1,a2,a7,bq⟩:=EndN.ret h
    subst a2;rw[a1]at t;have ao:m[mu.length]?=some (.arr [aB false]):=by
     rw[a7.2 _ (ql.1 ae).1 a5.1 a5.2];exact ae
    simp[go_sem,e0,e1,T,e6,e7,I,J,P,w1];exact⟨l.length-(k+1),zOm,⟨k+1,b1,k1,⟨zS1 e0,zS1 e1,zS1 T,zS1 I,zS1 J,zSi,by simp[go_sem, *],by simpa[go_sem] using az.trans a7,by simp[go_sem, *],(sp b1 k1 a1).v,zOm,t⟩⟩⟩
   .obtain ⟨a1,a2,a7⟩:=EndN.pan h
    rw[a1]at t;replace t:none=RR:=t;rw[<-t]at o;replace o:none=R:=o;subst o;subst a2;have ao:m[mu.length]?=some (.arr [aB false]):=by
     rw[a7.2 _ (ql.1 ae).1 a5.1 a5.2];exact ae
    have br:=(ql.1 ao).1;simp[go_sem];refine yo.mono (cfP _ mu.length (aB false) ao) ?_;rintro _ ⟨c,rfl⟩;have hg:(m.set mu.length (.arr [aB false])++[c])[mu.length]?=some (.arr [aB false]):=by grind
    rw[T];simp[go_sem,hg];refine⟨⟨by grind,fun i hi h1 h2=>?_⟩,rfl⟩;rw[qL (by grind),zGl];exact(az.trans a7).2 i hi h1 h2
 .have be:k=l.length:=by omega
  subst be;rw[List.drop_length]at t;replace t:some (a0,a6)=RR:=t;have a3:=a8.st;have au:p≠mu.length:=fun e=>zOm
  have bg:=(ql.1 a9).1;rw[<-t]at o ah;have sp:=step a0 a6 ah;simp[go_sem,e0,e1,T,I,J,P,a3];cases a6 with
  |true =>
   replace o:fixN ts sc l n a0=R:=o;have bi:gapL a0<gapL a4:=by
    rcases sp.d rfl with h|h
    .cases h
    .exact h
   obtain⟨n',rfl⟩:∃ n',n=n'+1:=⟨n-1,zOm⟩;simp[go_sem];exact⟨n',zOm,a0,true,⟨zS1 e0,zS1 e1,zS1 T,by simp[go_sem, *],by simp[go_sem, *],zVs a9,aj,zOm,o⟩⟩
  |false =>
   replace o:some a0=R:=o;subst o;simp[go_sem,e0,e1,T,a9];have hg:(st2.mu.set mu.length (.arr [aB true]))[mu.length]?=some (.arr [aB true]):=qJ bg;refine yo.mono (cfN _ mu.length (aB true) hg) ?_;rintro _ rfl;simp[go_sem,hg];refine⟨⟨by simp;exact ai.1,fun i hi h1 h2=>?_⟩,rfl,false,?_,?_⟩
   .rw [zGl]
    exact ai.2 i hi h1 h2
   .grind
   .rcases a8.ow with h|⟨q,h1,h2,h3⟩
    .exact .inl h
    .exact .inr ⟨q,h1,by rw[yH (fun e=>a5.2 (by rw[h1,e];rfl))];exact h2,h3⟩
end
end OC
set_option maxHeartbeats 1000000
namespace OE
open Y1 Y9 P1 P2 YE YF E1 EO F4 GF GR KA O0 O8 OC OD YG
theorem VJ:∀ m n,szN n<=m->WfN n->((conj n).length:Int)<=cntT n
 | 0,n,p,_=>by obtain⟨op,nm,i,ks,q⟩:=n;simp[szN]at p
 |m+1,n,p,j=>by
  by_cases l:n.op=41
  .obtain ⟨a,b,g⟩:=shp2 j l
   have t:=zl (n:=n) (k:=a) (by rw[g];simp);have I:=zl (n:=n) (k:=b) (by rw[g];simp);have C:=VJ m a zOm (j.kid (by rw[g];simp));have J:=VJ m b zOm (j.kid (by rw[g];simp));rw[OD.k8 l g,zj,Vn,g];simp only[y6];omega
  by_cases o:n.op=48
  .obtain ⟨a,g⟩:=shp1 j o
   have t:=zl (n:=n) (k:=a) (by rw[g];simp);have C:=VJ m a zOm (j.kid (by rw[g];simp));rw[k9 o g,zT,Vn,g];simp only[y6];omega
  rw[pb l o];have:=U2 n;simpa using this
def Lst(mu:Mu)(i:Nat)(l:List Nd):Prop:=∃ g,mu[i]?=some (.arr [g])/\Own mu 5 g (l.map cNd)/\qq g≠some i
def addL(ts:TS)(n:Nd)(l:List Nd):List Nd:=if (zm ts n).2=0 then l++conj (zm ts n).1 else l
theorem addM{ts n}(ci:qj qg 60 [eTS ts,eNd n] (.tup [eNd (zm ts n).1,aI (zm ts n).2]))(hv:(zm ts n).2=0->WfN (zm ts n).1/\cntT (zm ts n).1<=400){mu t l}(hl:l.length<=1000000000)(h:Lst mu t l) :
  qC qg 61 [eNd n,.ip (cTS ts),.ptr t 0] mu fun e m=>e = .ret (aI (zm ts n).2)/\Lst m t (addL ts n l):=by
 unfold addL;generalize zm ts n=q at *
 obtain⟨x,e⟩:=q;obtain⟨lv,hb,ho,C⟩:=h;have a0:=(ql.1 hb).1;refine qSW call61 func61 rfl {} ?_;simp[go_sem];refine t8 ci (.zk (zB ts) (.zk (qE n) .nil)) ?_;have g:(mu++[Cell.arr (cNd x)])[t]?=some (.arr [lv]):=by rw[qL a0];exact hb
 have I:Own (mu++[Cell.arr (cNd x)]) 5 lv (l.map cNd):=by
  rcases ho with h|⟨b,h1,h2⟩
  .exact .inl h
  .exact .inr ⟨b,h1,by rw[qL (ql.1 h2).1];exact h2⟩
 by_cases he:e=0
 .obtain ⟨J,h4⟩:WfN x/\cntT x<=400:=hv he
  have hc:=VJ _ x (qn _) J;have cj:=VH _ x (qn _) J zOm;simp only[he,if_true]at *
  simp[go_sem];refine fG [0,1,2,3,4] [(2,1,[0]),(3,1,[]),(4,1,[])] zKr zKr zSi ?_;simp[go_sem,g];refine t8 cj (.zk (qE x) .nil) ?_;simp[go_sem,g];refine qx.ownB (sz:=5) (e:=34) (bt:=64) (zv := .agg [aI 0,aS ⟨#[]⟩,aI 0,.lst true [],aI 0]) (xs:=l.map cNd) (ys:=(conj x).map cNd) zSi zSi zSi rfl rfl zOm zOm I (by simp[qA]) (Y1.Yv _) (Y1.Yv _) zSo ?_;intro P R i a1 a2 a3;rw[<-zi]at i;have T:R[t]?=some (.arr [lv]):=by rw[a1 t zSo C];exact g
  have U:=(ql.1 T).1;have o:qq P≠some t:=fun e=>by have:=a2 _ e;simp at this;omega
  simp[go_sem,T,Own.one i,Own.cells i];refine⟨P,qJ U,?_,o⟩;rcases i with h|⟨b,h1,h2⟩
  .exact .inl h
  .exact .inr ⟨b,h1,by rw[yH (fun e=>o (by rw[h1,e];rfl))];exact h2⟩
 .simp [go_sem,he]
  exact⟨lv,g,I,C⟩
end OE
set_option maxHeartbeats 1000000
namespace OF
open Y1 Y9 P1 P2 PA YE YF E1 E4 EO F4 GF GR KA KF KR O0 O7 O8 OC OD YG KE EQ ER F6 O4 O9 OE
section
variable {ts:TS}
theorem tV{P mu}{t g e sz bt:Nat}{full ys zv K}(p:qF P t=some (e,sz,bt))(i:(qF P g).isSome=true)(C:qB P e=some zv)
  (j:zv.cells.length=sz) (l:zv.cells.all AV.one=true) (o:sz≠0) (I:bt<=16384) (J:qV sz ys) (R:ys.length<=4294967296) (T:ys=[]->K (.lst true []) mu) (k:ys≠[]->K (.sl mu.length sz 0 ys.length) (mu++[.arr ys.flatten])):qx P mu #[t,g] (.lst true []) (.lst full ys) K:=by
 refine .inl ⟨t,g,e,sz,bt,ys,rfl,p,i,⟨zv,C,j,l⟩,o,I,by simp[qA],J,.inl ⟨[],rfl,fun r U=>by simp at U,zUs R,fun h=>?_,fun h=>?_⟩⟩
 .exact T h
 grind
def CloB(mu m:Mu)(bv:AV)(bs:List Bd):Prop:=MuLe mu m/\((bv = .lst true []/\bs=[])\/∃ q,bv = .sl q 4 0 bs.length/\m[q]?=some (.arr (bs.map cBd).flatten)/\mu.length<=q)
theorem qsU(mu bs)(p:bs.length<=1000000000):qC qg 62 [lBd bs] mu fun e m=>∃ bv,e = .ret bv/\CloB mu m bv bs:=by
 refine qSW call62 func62 rfl {} ?_;have g:=VI bs;cases bs with
 |nil =>
  simp[go_sem,lBd];refine⟨⟨MuLe.refl _,.inl ⟨rfl,rfl⟩⟩,?_⟩;refine tV (sz:=4) (e:=44) (bt:=64) (zv := .agg cZ4) (ys:=[]) zSi zSi zSi rfl rfl zOm zOm g zSp (fun _=>?_) (fun h=>absurd rfl h);simp[go_sem];exact⟨MuLe.refl _,.inl ⟨rfl,rfl⟩⟩
 |cons x l =>
  simp[go_sem,lBd];refine tV (sz:=4) (e:=44) (bt:=64) (zv := .agg cZ4) (ys:=(x :: l).map cBd) zSi zSi zSi rfl rfl zOm zOm g (by grind) (fun h=>by cases h) (fun _=>?_);simp[go_sem];exact⟨MuLe.app (MuLe.refl _) _,.inr ⟨mu.length,zSp,zSp,qn _⟩⟩
def appR(l:List Nd):Except Int (List Nd)->Except Int (List Nd)
 | .ok r => .ok (l++r)
 | .error e => .error e
theorem qfM(x):appR [] x=x:=by cases x<;>rfl
theorem qfN(ts l n k):appR l (j9 ts (n :: k))=if (zm ts n).2=0 then appR (OE.addL ts n l) (j9 ts k) else .error (zm ts n).2:=by
 rw[j9];by_cases h:(zm ts n).2=0
 .rw [if_pos h,if_pos h]
  unfold OE.addL;rw[if_pos h]
  grind [j9,appR]
 .rw [if_neg h,if_neg h];rfl
structure InlI (ts:TS) (n:Nd):Prop where
 ci:qj qg 60 [eTS ts,eNd n] (.tup [eNd (zm ts n).1,aI (zm ts n).2])
 wf:(zm ts n).2=0->WfN (zm ts n).1/\cntT (zm ts n).1<=400
 ty:(zm ts n).2=0->TyL (arT ts) (conj (zm ts n).1)
theorem UC{n}(g:InlI ts n)(l):(OE.addL ts n l).length<=l.length+400:=by
 unfold OE.addL;split
 .rename_i i
  obtain⟨j,o⟩:=g.wf i;have p:=VJ _ _ (qn _) j;rw[zj];omega
 .omega
theorem qfO:∀ m n,szN n<=m->WfN n->Al n
 | 0,n,j,_=>by obtain⟨op,nm,i,ks,q⟩:=n;simp[szN]at j
 |m+1,n,j,l=>by
  by_cases o:n.op=48
  .obtain ⟨a,g⟩:=shp1 l o
   have p:=zl (n:=n) (k:=a) (by rw[g];simp);exact .step o g (qfO m a zOm (l.kid (by rw[g];simp)))
  .exact .leaf o
theorem Wu:∀ m n,szN n<=m->WfN n->∀ y,y∈conj n->Al y
 | 0,n,t,_=>by obtain⟨op,nm,i,ks,q⟩:=n;simp[szN]at t
 |m+1,n,t,j=>fun y l=>by
  by_cases o:n.op=41
  .obtain ⟨a,b,g⟩:=shp2 j o
   have I:=zl (n:=n) (k:=a) (by rw[g];simp);have P:=zl (n:=n) (k:=b) (by rw[g];simp);rw[OD.k8 o g]at l;rcases qP.1 l with h|h
   .exact Wu m a zOm (j.kid (by rw[g];simp)) y h
   .exact Wu m b zOm (j.kid (by rw[g];simp)) y h
  by_cases p:n.op=48
  .obtain ⟨a,g⟩:=shp1 j p
   have I:=zl (n:=n) (k:=a) (by rw[g];simp);rw[k9 p g]at l;obtain⟨z,J,rfl⟩:=qp.1 l;have C:=Wu m a zOm (j.kid (by rw[g];simp)) z J;unfold uF;split
   .exact C
   .exact .step rfl rfl C
  .rw [pb o p,qX]at l
   subst l;exact qfO _ _ (qn _) j
theorem qfP:∀(a){l},(∀ n,n∈a->InlI ts n)->j9 ts a = .ok l->∀ y,y∈l->Al y
 | [],l,_,e=>by cases e;simp
 |n :: a,l,i,e=>by
  rw[j9]at e;split at e
  .rename_i j
   split at e
   .rename_i r o
    cases e;have p:=qfP a (fun x g=>i x (q9 _ g)) o;have t:=((i n (zo ..)).wf j).1;exact fun x g=>(qP.1 g).elim (Wu _ _ (qn _) t x) (p x)
   .cases e
  .cases e
theorem qfQ:∀(a){l},(∀ n,n∈a->InlI ts n)->j9 ts a = .ok l->TyL (arT ts) l
 | [],l,_,e=>by cases e;exact fun n j=>absurd j qO
 |n :: a,l,i,e=>by
  rw[j9]at e;split at e
  .rename_i o
   split at e
   .rename_i r p
    cases e;have t:=qfQ a (fun x g=>i x (q9 _ g)) p;have C:=(i n (zo ..)).ty o;exact fun x g=>(qP.1 g).elim (C x) (t x)
   .cases e
  .cases e
def outF:Except Int (List Bd)->AV
 | .ok x => .tup [lBd x,aI 0]
 | .error e => .tup [lBd [],aI e]
theorem Rd.tups{mu xs ys}(h:Rds mu xs ys):Rd mu (.tup xs) (.tup ys) := .tup _ _ h.get.1 h.get.2
theorem pt(mu e):Rd mu (.tup [.lst true [],aI e]) (outF (.error e)):=Rd.tups ⟨.wk _ true _ (.hf _ (HF.lst fun r g=>by simp at g)),.hf _ (HF.sc _),trivial⟩
theorem qsV{sc bs}(C:NwC ts sc)(aw:ts.sP.length<=1000000)(hB:BdS ts (sumI sc.sC) bs){n}(hI:∀ m,m∈ts.sP.map Prod.snd++[n]->InlI ts m):qj qg 21 [eTS ts,eSc sc,lBd bs,eNd n] (outF (fixL ts sc bs n)):=by
 have hn:=hI n zSp;have hF:fixL ts sc bs n=(match appR [] (j9 ts (ts.sP.map Prod.snd++[n])) with
  | .error e => .error e
  | .ok l=>match fixN ts sc l (gapL bs+1) bs with
   |none => .error 100
   |some x => .ok x):=by rw[qfM];rfl
 have a6:appR [] (j9 ts (ts.sP.map Prod.snd++[n]))=j9 ts (ts.sP.map Prod.snd++[n]):=qfM _;rw[hF];generalize hR:appR [] (j9 ts (ts.sP.map Prod.snd++[n]))=R;refine qSQ call21 func21 rfl { mt:=[46] } ?_;simp[go_sem];refine aP ts.sP.length (fun k U=>U.tm 2=lBd bs/\U.tm 4 = .ip (cTS ts)/\U.tm 5 = .ip [lI sc.sC,aI sc.sN]/\U.tm 7 = .ip (cNd n)/\U.tm 10 = .ptr 0 0/\U.tm 11 = .fn (.func 61) [] [.ip (cTS ts),.ptr 0 0]/\U.tm 19=lFa ts.sP/\U.tm 20=aI ts.sP.length/\U.tm 21=aI k
  /\ ∃ l,Lst U.mu 0 l/\l.length<=400*k/\appR l (j9 ts ((ts.sP.map Prod.snd).drop k++[n]))=R) ?_ ?_
 .refine ⟨zSi,zSi,zSi,zSi,zSi,zSi,zSi,zSi,zSi,[],⟨.lst true [],zSi,.inl rfl,by simp[qq]⟩,zSp,hR⟩
 rintro k U ax ⟨e2,e4,e5,e7,p,J,T,a0,a1,l,hL,ay,j⟩;have ag:∀ c:Cell,Lst (U.mu++[c]) 0 l:=fun c=>by
  obtain⟨lv,o,I,h3⟩:=hL;refine⟨lv,by rw[qL (ql.1 o).1];exact o,?_,h3⟩;rcases I with h|⟨b,h4,h5⟩
  .exact .inl h
  .exact .inr ⟨b,h4,by rw[qL (ql.1 h5).1];exact h5⟩
 by_cases a2:k<ts.sP.length
 .have w1:=zWk k
  have a7:k<(ts.sP.map Prod.snd).length:=zUs a2;rw[ze a7,yq,qfN]at j;have hv:=hI _ (List.mem_append_left _ (List.mem_map_of_mem (qv a2)));simp only[Yd]at j;generalize hf:ts.sP[k]=f at *
  obtain⟨fn,fb⟩:=f;simp only at hv j;have ca:=addM hv.ci hv.wf zOm (ag (.arr (cFa (fn,fb))));have al:=UC hv l;simp[go_sem,e2,e4,e5,e7,p,J,T,a0,a1,a2,hf];refine fH ca (fun r m h=>?_) (fun r m h=>by cases h.1);obtain⟨o,I⟩:=h;cases o;by_cases he:(zm ts fb).2=0
  .rw [if_pos he]at j
   simp[go_sem,e2,e4,e5,e7,p,J,T,a0,a1,he,w1]
   try refine⟨a2,aM ?_⟩
   try refine aM ?_
   refine⟨zS1 e2,zS1 e4,zS1 e5,by simp[go_sem,e7],zS1 p,zS1 J,zS1 T,zS1 a0,zSi,OE.addL ts fb l,zVs I,zOm,j⟩
  .rw [if_neg he]at j
   subst j;simp[go_sem,he];exact pt _ _
 .have ah:k=ts.sP.length:=by omega
  subst ah;rw[List.drop_of_length_le zSp,y8,qfN]at j;have ca:=addM hn.ci hn.wf zOm hL;have al:=UC hn l;simp[go_sem,e2,e4,e5,e7,p,J,T,a0,a1];refine fH ca (fun r m h=>?_) (fun r m h=>by cases h.1);obtain⟨o,I⟩:=h;cases o;by_cases he:(zm ts n).2=0
  .rw [if_pos he]at j
   rw[j9]at j;simp only[appR,ye]at j;subst j;simp[go_sem,e2,e4,e5,e7,p,J,T,a0,a1,he];have ty:=qfQ _ hI (a6.symm.trans hR);have ai:=qfP _ hI (a6.symm.trans hR);generalize OE.addL ts n l=L at *
   refine fG [0,1,2,4,3,5,6,7,8] [(3,1,[0,1,4]),(5,1,[0,1]),(7,1,[])] zKr zKr zSi ?_;simp[go_sem,e2,e4,e5,e7,p];refine aA (qsU m bs (zW2 C.nf hB.b.1)) (fun r m3 h=>?_) (fun r m3 h=>by obtain⟨_,h,_⟩:=h;cases h);obtain⟨bv,o,a4,a3⟩:=h;cases o;simp[go_sem,e2,e4,e5,e7,p];refine t8 (YP sc C.W.s.g) (.zk (zD _) .nil) ?_;have aj:r.cells=[r]:=by rcases a3 with ⟨h,_⟩|⟨q,h,_⟩<;>rw[h]<;>rfl
   have ak:r.one=true:=by rcases a3 with ⟨h,_⟩|⟨q,h,_⟩<;>rw[h]<;>rfl
   obtain⟨lv,an,ho,az⟩:=I;have ao:=a4 _ _ an;have a5:∀ c:Cell,(m3++[c])[0]?=some (.arr [lv]):=fun c=>zx ao [c]
   have a8:∀(c:Cell)(h:0<(m3++[c]).length),(m3++[c])[0] = .arr [lv]:=fun c h=>by
    have:=a5 c;rw[qy h]at this;exact Option.some.inj this
   simp[go_sem,e2,e4,e5,e7,p,aj,ak,a5,a8];have hN:NsW (m3++[.arr (cNs ts sc r (sumI sc.sC) false)]) m3.length r ts sc bs false:=⟨zSp,by
    rcases a3 with h|⟨q,h,hq,hl⟩
    .exact .inl h
    .exact .inr ⟨q,h,zx hq _,by have:=(ql.1 hq).1;omega⟩⟩
   have a9:Own (m3++[.arr (cNs ts sc r (sumI sc.sC) false)]) 5 lv (L.map cNd):=by
    rcases ho with h|⟨b,o,I⟩
    .exact .inl h
    .exact .inr ⟨b,o,zx (a4 _ _ I) _⟩
   have aq:∀ b,qq lv=some b->b<m.length:=fun b e=>by
    rcases ho with h|⟨b',o,I⟩
    .rw [h]at e;cases e
    .rw [o]at e;cases e;exact(ql.1 I).1
   have ar:∀ b,qq r=some b->m.length<=b:=fun b e=>by
    rcases a3 with ⟨h,_⟩|⟨q,h,_,hl⟩
    .rw [h]at e;cases e
    .rw [h]at e;cases e;exact hl
   have b0:=MuLe.len a4;generalize aa:(m3++[Cell.arr [lSo ts.sS,lFl ts.sA,lPd ts.sT,lFa ts.sP,lI sc.sC,aI sc.sN,r,AV.sc (Value.int qo (sumI sc.sC)),AV.sc (Value.bool false)]])=M;have ab:m3++[Cell.arr (cNs ts sc r (sumI sc.sC) false)]=M:=aa;rw[ab]at hN a9;clear aa ab a5 a8;generalize m3.length=P at *
   let gv:Nat->Bool:=fun i=>!(decide (i=P)||decide (qq r=some i))
   have au:NsW (cutM (fun i=>!gv i) M 0) P r ts sc bs false:=by
    refine⟨?_,?_⟩
    .rw [jA,hN.st];simp[gv]
    .rcases hN.ow with h|⟨q,o,I,h3⟩
     .exact .inl h
     .exact .inr ⟨q,o,by rw[jA,I];simp[gv,o,qq],h3⟩
   have ad:Own (cutM gv M 0) 5 lv (L.map cNd):=by
    rcases a9 with h|⟨b,o,I⟩
    .exact .inl h
    .refine .inr ⟨b,o,?_⟩
     have b1:=aq b (by rw[o];rfl);rw[jA,I];have g1:b≠P:=zOm;have g2:qq r≠some b:=fun e=>zW1 (ar b e)
     simp[gv,g1,g2]
   have cf:=fixM C ty ai zOm (full:=false) au hB;have cz:=fU (args:=[.ptr P 0,lv]) (args1:=[.ptr P 0,.lst false (L.map cNd)]) gv ⟨.inl rfl,.inr (Own.rd ad (Y1.Yv L).ok fun r hr c hc=>by
     obtain⟨x,_,rfl⟩:=qp.1 hr;exact jQ x c hc),trivial⟩ cf
   generalize fixN ts sc L (gapL bs+1) bs=FX at *
   refine aA cz (fun r2 m4 h=>?_) (fun r2 m4 h=>?_)
   .obtain ⟨ae,t⟩:=h
    cases FX with
    |none =>
     cases t;simp[go_sem];exact pt _ _
    |some x =>
     obtain⟨o,ch,af⟩:=t;cases o;simp[go_sem,af.st];exact Rd.tups ⟨af.r.bv.rd,.hf _ (HF.sc _),trivial⟩
   .obtain ⟨ae,t⟩:=h
    cases FX with
    |none=>cases t
    |some x=>cases t.1
  .rw [if_neg he]at j
   subst j;simp[go_sem,he];exact pt _ _
end
end OF
namespace HE
end HE
namespace HF1
open GB
theorem qsW{a b:Ed}:a=b↔a.kind=b.kind/\a.state=b.state/\a.field=b.field/\a.tup=b.tup:=by
 cases a;cases b;simp
instance:DecidableEq Ed:=fun a b=>decidable_of_iff _ qsW.symm
end HF1
namespace HG
end HG
namespace HH
end HH
namespace HI
theorem Kc{C:Type}{p}{l:List C}{k}(h:k<l.length)(g:p l[k]=false):l.all p=false:=by
 cases e:l.all p with
 |false=>rfl
 |true=>rw[qY.1 e _ (qv h)]at g;cases g
theorem qsX{C:Type}{p}{l:List C}(h:∀(i)(g:i<l.length),p l[i]=true):l.all p=true:=qY.2 fun x j=>by
 obtain⟨i,g,rfl⟩:=uA.1 j;exact h i g
end HI
namespace HJ
open YF P1 E1 E4 G5 HI
theorem pu{n r}(h:jF n r=true):zp r.ts:=by
 unfold jF at h;simp only[qD,decide_eq_true_eq]at h;exact h.2
def vB9(ts:TS)(sc:Sc)(f:Fld)(b:Bd):Bool:=decide (b.lo.ar=f.sS.length)&&(decide (b.up.ar=f.sS.length)&&(jF (sumI sc.sC) b.lo&&(jF (sumI sc.sC) b.up&&(inOk b.lo b.up&&inOk b.up ⟨f.sS.length,yR sc f.sS⟩))))
theorem qsY(ts:TS)(sc bs)(g:GSc sc)(R:0<ts.sA.length->0<sumI sc.sC)(a2:ts.sA.length<=1000000)(hf:∀ f,f∈ts.sA->1<=f.sS.length/\f.sS.length<=3/\(∀ s,s∈f.sS->0<=s/\s<sc.sC.length)/\(yR sc f.sS).length<=8000/\zp (yR sc f.sS))
  (hb:∀ b,b∈bs->b.lo.ts.length<=1000000/\b.up.ts.length<=1000000):qj qg 33 [eTS ts,eSc sc,lBd bs] (aB (decide (bs.length=ts.sA.length)&&(ts.sA.zip bs).all fun p=>vB9 ts sc p.1 p.2)):=by
 refine qSV call33 func33 rfl ?_;by_cases T:bs.length=ts.sA.length
 case neg =>
  have a3:¬(bs.length:Int)=ts.sA.length:=zOm;simp[go_sem,T];exact .zsc _
 rw[decide_eq_true T,Bool.true_and];simp[go_sem,T];refine fW (Kw sc g) (.zk (zD _) .nil) ?_;refine aP bs.length (fun k U=>U.tm 2=lBd bs/\U.tm 3 = .ip (cTS ts)/\U.tm 4 = .ip [lI sc.sC,aI sc.sN]/\U.tm 7=aI (sumI sc.sC)/\U.tm 8=aI k/\∀(i:Nat)(h:i<k)(h1:i<ts.sA.length)(h2:i<bs.length),vB9 ts sc ts.sA[i] bs[i]=true) ?_ ?_
 .exact ⟨zSi,zSi,zSi,zSi,zSi,fun i h=>absurd h (Nat.not_lt_zero i)⟩
 rintro k U hk ⟨o,t,C,e7,I,P⟩;by_cases j:k<bs.length
 .have l:k<ts.sA.length:=by omega
  have hp:=R zOm;have w1:=zWk k;obtain⟨f1,f2,f3,f4,f5⟩:=hf _ (qv l);obtain⟨b1,b2⟩:=hb _ (qv j);have J:vB9 ts sc ts.sA[k] bs[k]=false->((ts.sA.zip bs).all fun p=>vB9 ts sc p.1 p.2)=false:=fun h=>Kc (k:=k) zSo (zUs h)
  by_cases c1:bs[k].lo.ar=ts.sA[k].sS.length
  case neg =>
   rw[J (by unfold vB9;rw[decide_eq_false c1];rfl)];simp[go_sem,o,t,C,e7,I,j,l,c1];exact .zsc _
  by_cases c2:bs[k].up.ar=ts.sA[k].sS.length
  case neg =>
   rw[J (by unfold vB9;rw[decide_eq_false c2];simp)];simp[go_sem,o,t,C,e7,I,j,l,c1,c2];exact .zsc _
  simp[go_sem,o,t,C,e7,I,j,l,c1,c2];refine t8 (mJ (sumI sc.sC) bs[k].lo zOm) (.zs (.cons (by rw[<-c1];exact .hf (qr _)) .nil)) ?_;cases c3:jF (sumI sc.sC) bs[k].lo with
  |false =>
   rw[J (by unfold vB9;rw[c3];simp)];simp[go_sem,o,t,C,e7,I,j,l,c1,c2,c3];exact .zsc _
  |true =>
   simp[go_sem,o,t,C,e7,I,j,l,c1,c2,c3];refine t8 (mJ (sumI sc.sC) bs[k].up zOm) (.zs (.cons (by rw[<-c2];exact .hf (qr _)) .nil)) ?_;cases c4:jF (sumI sc.sC) bs[k].up with
   |false =>
    rw[J (by unfold vB9;rw[c4];simp)];simp[go_sem,o,t,C,e7,I,j,l,c1,c2,c3,c4];exact .zsc _
   |true =>
    simp[go_sem,o,t,C,e7,I,j,l,c1,c2,c3,c4];refine tJ zKr ?_;simp[go_sem,o,t,C,e7,I,j,l,c1,c2,c3,c4];refine t8 (in06 bs[k].lo bs[k].up zOm zOm (pu c4)) (.cons (by rw[<-c1];exact .hf (qr _)) (.cons (by rw[<-c2];exact .hf (qr _)) .nil)) ?_;cases c5:inOk bs[k].lo bs[k].up with
    |false =>
     rw[J (by unfold vB9;rw[c5];simp)];simp[go_sem,o,t,C,e7,I,j,l,c1,c2,c3,c4,c5];exact .zsc _
    |true =>
     simp[go_sem,o,t,C,e7,I,j,l,c1,c2,c3,c4,c5];refine t8 (qnM sc g hp ts.sA[k].sS f1 f2 f3) (.zk (zD _) (.zk (zy _) .nil)) ?_;simp[go_sem,o,t,C,e7,I,j,l,c1,c2,c3,c4,c5];refine t8 (in06 bs[k].up ⟨ts.sA[k].sS.length,yR sc ts.sA[k].sS⟩ zOm (by simp only;omega) f5) (.cons (by rw[<-c2];exact .hf (qr _)) (.zk (qr _) .nil)) ?_;cases c6:inOk bs[k].up ⟨ts.sA[k].sS.length,yR sc ts.sA[k].sS⟩ with
     |false =>
      rw[J (by unfold vB9;rw[c6];simp)];simp[go_sem,o,t,C,e7,I,j,l,c1,c2,c3,c4,c5,c6];exact .zsc _
     |true =>
      have a0:vB9 ts sc ts.sA[k] bs[k]=true:=by unfold vB9;rw[c3,c4,c5,c6,decide_eq_true c1,decide_eq_true c2];rfl
      simp[go_sem,o,t,C,e7,I,j,l,c1,c2,c3,c4,c5,c6,w1]
      try refine⟨j,aM ?_⟩
      try refine aM ?_
      refine⟨zS1 o,zS1 t,zS1 C,by simp[go_sem,e7],zSi,fun i hi h1 h2=>?_⟩;by_cases h:i<k
      .exact P i h h1 h2
      .have:i=k:=by omega
       subst this;exact a0
 .have a1:((ts.sA.zip bs).all fun p=>vB9 ts sc p.1 p.2)=true:=qsX fun i hi=>by
   simp only[List.length_zip]at hi;simp only[List.getElem_zip];exact P i zOm zOm zOm
  rw[a1];simp[go_sem,o,I,show ¬k<bs.length from j];exact .zsc _
end HJ
set_option maxHeartbeats 1000000
namespace OK
open Y1 P1 YF E1 GR O0 IB E9 KE Y16 Q2 Q4 Q8 FE O9 G5 GQ GW HJ OJ KV IF
def vBs(ts:TS)(sc:Sc)(bs:List Bd):Bool:=decide (bs.length=ts.sA.length)&&(ts.sA.zip bs).all fun p=>vB9 ts sc p.1 p.2
theorem Jy{n}(h:vV n=true):yb n=true:=by
 unfold vV at h;simp only[qD]at h;exact h.2
theorem VK{ts sc bs n}(P:wX ts sc bs n)(o:∀ x,x∈ts.sS->x.1.size<=4611686018427387904):SpD ts:=by
 have j:=P.sh;simp only[shpB,qD,qY]at j;have i:∀ p,p∈ts.sT->yb p.body=true/\p.params.length<=4:=fun p g=>by
  have:=P.tp p g;simp only[prT,qD,decide_eq_true_eq]at this;exact⟨Jy this.1,this.2⟩
 have l:∀ f,f∈ts.sP->yb f.2=true:=fun f hf=>Jy (P.tf f hf)
 refine⟨⟨P.so,zW1 P.fl,zW1 P.pr,zW1 P.fa,o,fun f hf=>?_,fun p g=>?_⟩,fun p g=>ux (i p g).1,fun f hf=>ux (l f hf),fun p g=>(i p g).1,l⟩
 .have:=j.1 f hf
  simp only[fldB,qD,decide_eq_true_eq,qY]at this;exact⟨this.1.1,this.1.2,this.2⟩
 .refine ⟨zW1 ((i p g).2),fun x t=>?_⟩
  have:=j.2 p g;simp only[prB,qY,srt1,qD,decide_eq_true_eq]at this;exact this x t
def f10(ts:TS)(sc:Sc)(bs:List Bd)(n:Nd):Bool:=VG ts sc bs n (vT ts) (jI (spOf ts) sc) (vBs ts sc bs) (wkN 5 4 n) (qfE ts 5 4 n)
theorem Kl(ts)(i:∀ x,x∈ts.sS->x.1.size<=4611686018427387904)(sc bs n):qj qg 7 [eTS ts,eSc sc,lBd bs,eNd n] (aB (f10 ts sc bs n)):=by
 refine qr1 ts sc bs n _ _ _ _ _ (fun P=>(VK P i).chk) (fun P=>qmF (spOf ts) sc (zW1 P.at4)) (fun h=>qaM sc (UR h)) (fun P p l T C=>?_) (fun P=>kZ 5 4 zOm zOm _ n (qn _) (ux (Jy P.tn)).small) (fun P p=>qrY (VK P i) p 5 4 zOm zOm (Jy P.tn));have g:=UR l;have S:=VK P i;simp only[jI,qD,decide_eq_true_eq,qY]at l;obtain⟨⟨⟨⟨⟨j,U⟩,a3⟩,a4⟩,I⟩,a6⟩:=l;have j:sc.sC.length=ts.sS.length:=j;refine qsY ts sc bs g (fun t=>?_) (zW1 P.fl) (fun f hf=>?_) fun b J=>?_
 .have hf:=(S.h.fl _ (qv t)).2.2 _ (qv (n:=0) (zW1 ((S.h.fl _ (qv t)).1)))
  have o:sc.sC≠[]:=fun e=>by rw[e]at j;simp at j;omega
  have:=Vj o fun a R=>(I a R).1
  omega
 .obtain ⟨f1,f2,f3⟩:=S.h.fl f hf
  exact⟨f1,f2,fun s i=>zW1 (f3 s i),qnR sc g f.sS f2,Kz _ _ _⟩
 .have:=qY.1 C b J
  simp only[sz1,qD,decide_eq_true_eq]at this;omega
structure F10 (ts:TS) (sc:Sc) (bs:List Bd) (n:Nd):Prop where
 P:wX ts sc bs n
 S:SpD ts
 k:vT ts=[]
 so:jI (spOf ts) sc=true
 a5:sumI sc.sC<=5
 vb:vBs ts sc bs=true
 hn:yb n=true
theorem qsZ{ts sc bs n}(t:∀ x,x∈ts.sS->x.1.size<=4611686018427387904)(h:f10 ts sc bs n=true):F10 ts sc bs n:=by
 simp only[f10,VG,qD,decide_eq_true_eq,qY]at h;obtain⟨C,I,J,R,T,U,p,h8,h9,g,i,j,l,a0,o,a1,a2⟩:=h;have P:wX ts sc bs n:=⟨C,I,J,R,T,U,p,h8,h9,g⟩;exact⟨P,VK P t,List.length_eq_zero_iff.1 i,j,l,o,Jy p⟩
namespace F10
variable {ts:TS} {sc:Sc} {bs:List Bd} {n:Nd}
theorem sz(F:F10 ts sc bs n):u5 sc=true/\ts.sS.length=sc.sC.length:=by
 have h:=F.so;simp only[jI,qD,decide_eq_true_eq,qY]at h;obtain⟨⟨⟨⟨⟨g,i⟩,j⟩,l⟩,o⟩,p⟩:=h;have g:sc.sC.length=ts.sS.length:=g;have i:ts.sS.length<=4:=i;refine⟨?_,g.symm⟩;simp only[u5,qD,decide_eq_true_eq,qY];exact⟨zOm,j,l,o,p⟩
theorem bnd(F:F10 ts sc bs n):BndV ts sc bs:=by
 have h:=F.vb;simp only[vBs,qD,decide_eq_true_eq,qY]at h;obtain⟨J,h⟩:=h;have p:∀(i:Nat)(g:i<bs.length)(l:i<ts.sA.length),vB9 ts sc ts.sA[i] bs[i]=true:=fun i g l=>by
  have P:i<(ts.sA.zip bs).length:=zSo;have:=h _ (qv P);simpa using this
 have I:∀ b,b∈bs->∃ f,f∈ts.sA/\vB9 ts sc f b=true:=fun b o=>by
  obtain⟨i,g,rfl⟩:=uA.1 o;exact⟨_,qv zOm,p i g zOm⟩
 refine⟨J,fun i g l=>?_,fun b o=>?_,fun b o t C=>?_,fun i g l t C=>?_⟩
 .have:=p i g l
  simp only[vB9,qD,decide_eq_true_eq]at this;exact⟨this.1,this.2.1⟩
 .obtain ⟨f,_,j⟩:=I b o
  simp only[vB9,qD,decide_eq_true_eq]at j;exact⟨pu j.2.2.1,pu j.2.2.2.1⟩
 .obtain ⟨f,_,j⟩:=I b o
  simp only[vB9,qD,decide_eq_true_eq]at j;have:=j.2.2.2.2.1;simp only[inOk,qY,decide_eq_true_eq]at this;exact this t C
 .have:=p i g l
  simp only[vB9,qD,decide_eq_true_eq]at this;have:=this.2.2.2.2.2;simp only[inOk,qY,decide_eq_true_eq]at this;exact this t C
theorem nws(F:F10 ts sc bs n):NwS ts sc:=by
 obtain⟨z,e⟩:=F.sz;have h:=F.so;simp only[jI,qD,decide_eq_true_eq,qY]at h;exact⟨⟨UR F.so,e,fun a g=>(h.1.2 a g).1⟩,zW1 F.a5⟩
theorem nwc(F:F10 ts sc bs n):NwC ts sc:=⟨F.nws,zW1 F.P.fl,F.S.h.sl⟩
theorem fit9(F:F10 ts sc bs n):Fit9 ts sc:=by
 obtain⟨z,e⟩:=F.sz;have h:=F.so;simp only[jI,qD,decide_eq_true_eq,qY]at h;obtain⟨⟨⟨⟨⟨J,R⟩,i⟩,j⟩,l⟩,T⟩:=h;have o:ts.sA≠[]->0<sumI sc.sC:=fun p=>by
  have t:0<ts.sA.length:=List.length_pos_iff.2 p;have hf:=F.S.h.fl _ (qv t);have U:=hf.2.2 _ (qv (n:=0) zOm);have g:sc.sC≠[]:=fun q=>by
   rw[q]at e;have e:ts.sS.length=0:=e;omega
  have:=Vj g fun a C=>(l a C).1
  omega
 exact⟨UR F.so,o,zW1 F.P.fl,e,i,j,fun f hf=>⟨(F.S.h.fl f hf).1,(F.S.h.fl f hf).2.1⟩,fun f hf s I=>by rw[<-e];exact(F.S.h.fl f hf).2.2 s I⟩
theorem bds(F:F10 ts sc bs n):BdS ts (sumI sc.sC) bs:=by
 exact qpL F.fit9 F.bnd
end F10
end OK
set_option maxHeartbeats 1000000
namespace OL
end OL
set_option maxHeartbeats 1000000
namespace OP
open E1 E4 EO F4 GF GR O0 O8 OC Y10 EQ O1 O9 OF
theorem qs0(a b)(hl:a.ts.length<=40000)(a0:b.ts.length<=40000):qj qg 42 [eRel a,eRel b] (eRel (unR a b)):=by
 refine qSU call42 func42 rfl ?_;refine qx.ints (lo:=1) (e:=3) (bt:=8) (z:=0) (xs:=[]) (ys:=a.ts) zSi zSi zSi zOm (OwnF.lit [] zSp) (by simp[qA]) zSo ?_;intro a1 a2 t C;have U:=C 0 zOm;simp at U;simp[go_sem];refine qx.ints (lo:=1) (e:=3) (bt:=8) (z:=0) (xs:=a.ts) (ys:=b.ts) zSi zSi zSi zOm (zUs t) (by simp[qA]) zOm ?_;intro l g o I;have J:=I 0 zOm;rw[U]at J;have a3:=(ql.1 J).1;simp[go_sem];have hB:∀ b,qq l=some b->1<=b:=fun b hb=>by
  cases l<;>simp[qq]at hb
  subst hb;exact o.2.1 _ _ _ _ rfl
 refine aA (fU (args1:=[aI a.ar,lI (a.ts++b.ts)]) (fun i=>decide (1<=i)) ⟨.inl rfl,.inr (Own.rd (KS o.1 hB) (jD _).ok fun r hr c hc=>by
  obtain⟨n,_,rfl⟩:=qp.1 hr;simp at hc;subst hc;exact HF.sc _),trivial⟩ (qj.toSound _ (of06 a.ar (a.ts++b.ts) zSo) (.zs (.zk (zy _) .nil)))) ?_ (by rintro r m ⟨h,_⟩;cases h)
 rintro r m ⟨h,rfl⟩;cases h;have zc:(cutM (fun i=>!decide (1<=i)) g 0)[0]?=some (.arr [aI 0,.lst true []]):=by rw[jA,J];simp
 have R:0<(cutM (fun i=>!decide (1<=i)) g 0).length:=(ql.1 zc).1;generalize a4:cutM (fun i=>!decide (1<=i)) g 0=CM at *
 have T:∀ c,(CM.set 0 c)[0]?=some c:=fun c=>qJ R
 simp[go_sem,zc,T];exact .hf _ (qr (unR a b))
end OP
namespace I1
open EO EP EQ F4 GF GR
theorem qs1(l x)(R:l.length<=1000000000):qj qg 104 [lI l,aI x] (aB (decide (x∈l))):=by
 refine qSU call104 func104 rfl ?_;refine qm.up l.length (fun k U=>U.tm 0=lI l/\U.tm 1=aI x/\U.tm 5=aI k/\U.mu=[]/\∀(i:Nat)(h:i<l.length),i<k->l[i]≠x) ?_ ?_
 .simp [go_sem]
 rintro k U T ⟨j,o,p,t,J⟩;by_cases g:k<l.length
 .by_cases C:l[k]=x
  .simp [go_sem,j,o,p,t,g,C]
   rw[decide_eq_true (by grind)];exact .zsc _
  .simp [go_sem,j,o,p,t,g,C]
   refine⟨zWr,fun i h P=>?_⟩;rcases Nat.lt_succ_iff_lt_or_eq.1 P with I|I
   .exact J i h I
   grind
 .simp [go_sem,j,o,p,t,g]
  rw[decide_eq_false (fun h=>by
   grind [uA])]
  exact .zsc _
def wY(k:Nat)(x:Bd)(j:Nat):List (Int×Int):=((x.up.ts.take j).filter fun t=>!decide (t∈x.lo.ts)).map fun t=>((k:Int),t)
theorem qs2(k x j h):wY k x (j+1)=wY k x j++(if x.up.ts[j]∈x.lo.ts then [] else [((k:Int),x.up.ts[j])]):=by
 unfold wY;rw[ya h,List.filter_append,zi];by_cases g:x.up.ts[j]∈x.lo.ts<;>simp[g]
theorem qs3(k x j):(wY k x j).length<=x.up.ts.length:=by
 grind [wY,zT,Nat.le_trans,List.length_filter_le,List.length_take_le']
theorem qs4(bs)(hl:bs.length<=1000)(R:∀ x,x∈bs->qbD x):qj qg 41 [lBd bs] (lP (zu bs 0)):=by
 refine qSU call41 func41 rfl ?_;refine aP bs.length (fun k U=>U.tm 0=lBd bs/\U.tm 4=aI k/\Own U.mu 2 (U.tm 3) ((zu (bs.take k) 0).map rP)) ?_ ?_
 .exact ⟨zSi,zSi,.inl (by simp[go_sem,zu])⟩
 rintro k U hk ⟨i,o,t⟩;by_cases g:k<bs.length
 .have w1:=zWk k
  have T:=R _ (qv g);have a1:=T.up;have a2:=T.lo;have a0:=Kt (bs.take k) 0 fun y hy=>R y (vZ hy)
  have a3:(zu (bs.take k) 0).length<=1000000000:=by
   grind
  have C:=qnD bs k g;have I:wY k bs[k] bs[k].up.ts.length=Ja k bs[k]:=by unfold wY;rw[za];rfl
  simp[go_sem,i,o,g];refine aP bs[k].up.ts.length (fun j st2=>st2.tm 0=lBd bs/\st2.tm 4=aI k/\st2.tm 5=aI j/\Own st2.mu 2 (st2.tm 3) ((zu (bs.take k) 0++wY k bs[k] j).map rP)) ?_ ?_
  .simp_all [go_sem,wY]
  clear i o t;rintro j st2 hj ⟨i,o,P,t⟩;by_cases l:j<bs[k].up.ts.length
  .have w2:=zWk j
   have hh:=qs1 bs[k].lo.ts bs[k].up.ts[j] zOm;have hs:=qs2 k bs[k] j l;have a4:=qs3 k bs[k] j;simp[go_sem,i,o,P,g,l];refine tJ zKr ?_;simp[go_sem,i,o,P,g,l];refine t8 hh (.zk (zy _) (.zs .nil)) ?_;by_cases hm:bs[k].up.ts[j]∈bs[k].lo.ts
   .simp_all [go_sem,if_pos,ye,aM]
   .rw [if_neg hm]at hs
    simp[go_sem,hm,i,o,P,g,l];refine qx.ownB (e:=110) (sz:=2) (bt:=16) (zv := .agg [aI 0,aI 0]) (xs:=(zu (bs.take k) 0++wY k bs[k] j).map rP) (ys:=[rP ((k:Int),bs[k].up.ts[j])]) zSi zSi zSi rfl rfl zOm zOm t (by simp[qA]) (Kr _) (Kr [_]) zSo ?_;simp_all[go_sem,aM,List.append_assoc,zi]
  .have J:j=bs[k].up.ts.length:=by omega
   subst J;rw[I,<-C]at t;simp[go_sem,i,o,P,g,w1]
   try refine⟨g,aM ?_⟩
   try refine aM ?_
   exact⟨zS1 i,zSi,zVs t⟩
 .have J:k=bs.length:=by omega
  subst J;rw[za]at t;simp[go_sem,i,o];exact cU t
end I1
namespace OS
open EP GF GS KX
theorem qfR(g):∀ l k st q,yF g (l++[q]) k st=if pkAt g (k+l.length)=true then put1 (yF g l k st) q else yF g l k st
 | [],k,st,q=>by simp[yF]
 |a :: l,k,st,q=>by
  rw[yq,yF,qfR g l (k+1) _ q,yF,yy,show k+1+l.length=k+(l.length+1) by omega]
theorem qs5(st q):(put1 st q).length=st.length:=by simp[put1]
theorem pv(g):∀ l k st,(yF g l k st).length=st.length
 | [],k,st=>rfl
 |a :: l,k,st=>by
  rw[yF,pv g l];split
  .exact qs5 _ _
  .rfl
theorem qs6(i)(g:List (Int×Int))(k j st h):yF i (g.take (j+1)) k st=if pkAt i (k+j)=true then put1 (yF i (g.take j) k st) g[j] else yF i (g.take j) k st:=by
 rw[ya h,qfR,ub,Nat.min_eq_left zOm]
theorem qs7(i bs g){s}(h:s≠0):mdS i bs g s=fixS i (mdS i bs g 0) (yF g (zu bs 0) (s*(zu bs 0).length) (bs.map fun b=>b.lo)) bs.length:=by
 have j:=pv g (zu bs 0) (s*(zu bs 0).length) (bs.map fun b=>b.lo);rw[zT]at j;unfold mdS;rw[if_neg h,if_pos rfl];refine vg fun f=>?_
 simp only[fixS,List.getElem?_mapIdx];cases l:(yF g (zu bs 0) (s*(zu bs 0).length) (bs.map fun b=>b.lo))[f]? with
 |none=>rfl
 |some r =>
  have o:=(ql.1 l).1;simp only[Option.map_some];congr 1;cases i.getD f true<;>simp[show f<bs.length by omega]
end OS
namespace W41
end W41
namespace I2
theorem Wv{sz}:∀{xs},jn sz xs->∀ i h j,j<sz->xs.flatten[i*sz+j]?=xs[i][j]?
 | [],_,i,h,j,l=>absurd h (Nat.not_lt_zero i)
 |r :: xs,w,i,h,j,l=>by
  have g:r.length=sz:=w r zSp;rw[List.flatten_cons];cases i with
  |zero=>grind
  |succ i =>
   rw[List.getElem?_append_right (by grind),g,show (i+1)*sz+j-sz=i*sz+j by rw[Nat.succ_mul];omega];exact Wv (fun r g=>w r (zP1 g)) i (zUs h) j l
end I2
set_option maxHeartbeats 1000000
namespace OG
end OG
set_option maxHeartbeats 1000000
namespace OH
open Y1 Y9 P1 YF E4 GF KA O0 Q6 ER O4 Y6 OF
theorem qfS(p):∀ ks,vB p ks=ks.any (anyN p)
 | []=>rfl
 |k :: ks=>by rw[vB,qfS p ks];rfl
abbrev wZ:Nd->Bool:=anyN fun n=>decide (n.op=47)
theorem qfT:∀ m n,szN n<=m->Small n->qj qg 37 [eNd n] (aB (wZ n))
 | 0,n,l,_=>by obtain⟨op,nm,i,ks,p⟩:=n;simp[szN]at l
 |m+1,n,l,o=>by
  have J:=o.len;have t:HF (.lst false (n.sD.map cNd)):=HF.lst fun r C c g=>by
   obtain⟨k,_,rfl⟩:=qp.1 C;exact jQ k c g
  have hf:HF (.fn (.func 37) [] []):=HF.fn (fun c g=>by simp at g) (fun c g=>by simp at g);have I:=nT false n.sD (.fn (.func 37) [] []) wZ ⟨_,[],[],rfl,fun k j=>⟨[eNd k],qfT m k (zW1 (zl j)) (o.kid j),.zk (qE k) .nil⟩⟩ hf t zOm;have e:wZ n=(decide (n.op=47)||n.sD.any wZ):=by
   rw[wZ,Kq,qfS]
  rw[e];refine qSV call37 func37 rfl ?_;by_cases h:n.op=47
  .simp [go_sem,h]
   exact .zsc _
  .simp [go_sem,h]
   refine fW I (.zk t (.zk hf .nil)) ?_;exact .zsc _
def outU(e:Int)(c:Bool)(b:Bd):AV:=if e≠0 then .tup [eBd bd0,aI e] else if c=true then .tup [eBd bd0,aI 45] else .tup [eBd b,aI 0]
theorem qfU(mu e):Rd mu (.tup [.agg cZ4,aI e]) (.tup [eBd bd0,aI e]):=OF.Rd.tups ⟨Rd.aggs ⟨.hf _ (HF.sc _),.wk _ true _ (.hf _ (HF.lst fun r g=>by simp at g)),.hf _ (HF.sc _),.wk _ true _ (.hf _ (HF.lst fun r g=>by simp at g)),trivial⟩,.hf _ (HF.sc _),trivial⟩
variable {ts:TS} {sc:Sc} {bs:List Bd}
end OH
namespace FH
open YF P1 P2 Y1 Y9 Y14 YZ YG Q6 YH
theorem qs8(ts)(h:okTS ts)(J:∀ p,p∈ts.sT->WfN p.body)(n)(T:WfN n)(g:anyN (fun n=>decide (n.op=47)) n=false):qj qg 60 [eTS ts,eNd n] (.tup [eNd (zm ts n).1,aI (zm ts n).2]):=by
 generalize o:zm ts n=R;unfold zm at o;refine qSQ call60 func60 rfl { mt:=[25] } ?_;simp[go_sem];refine fW (qmK ts h J n T [] ⟨zSp,zSp⟩) (.zk (zB ts) (.cons (WK.lst fun r hr=>absurd hr qO) (.zk (qE n) .nil))) ?_;by_cases j:(jE ts [] n).1=0
 case neg =>
  rw[if_pos j]at o;subst o;simp[go_sem,j];refine fG [0,1,2,4,3] [(3,1,[2])] zKr zKr zSi ?_
  all_goals
   simp[go_sem,j];exact Vp _ _
 case pos =>
  rw[if_neg (zUs j)]at o;simp[go_sem,j];have P:∀(v:List Nd)(k:Nd)(I:Mu),InM ts (putN [] v) (v.any fun n=>decide (n.op=47)) I->qC qg 138 (eNd k :: [.ptr 4 0,.ptr 5 0]) I fun e m=>e = .ret (.tup [])/\InM ts (putN [] (v++[k])) ((v++[k]).any fun n=>decide (n.op=47)) m:=fun v k I i=>by
   refine(qn7 ts ⟨0,0⟩ 2 _ _ k i.p i.x i.c i.t).monoR ?_;rintro e m ⟨rfl,rfl⟩;refine⟨rfl,?_⟩;rw[List.any_append];simp only[putN,List.foldl_append,List.foldl_cons,List.foldl_nil,List.any_cons,List.any_nil,Bool.or_false];exact i.setT.setC
  refine aA (qcB (caps:=[.ptr 4 0,.ptr 5 0]) (fun v I=>InM ts (putN [] v) (v.any fun n=>decide (n.op=47)) I) (fun v I l h=>h.push l) P (szN n) n (qn _) T.small [] _ ⟨rfl,rfl,rfl,rfl,rfl⟩) ?_ (by rintro r m ⟨e,_⟩;cases e);rintro r m ⟨e,i⟩;cases e;rw[y8,<-qcY _ (szN n) n (qn _),g]at i;have a0:=i.len;have C:∀ c,(m.set 0 c)[0]?=some c:=fun c=>qJ zOm
  rw[if_pos g]at o;subst o;simp[go_sem,i.c,i.r,C,qZ];exact .hf _ (HF.tup fun c j=>by simp at j;rcases j with rfl|rfl;exact qE n;exact HF.sc _)
end FH
namespace ID
end ID
namespace IE
end IE
namespace IK
open P1
namespace Cx
variable {ts:TS} {sc:Sc} {b:List Bd} {N:Nat}
end Cx
namespace Cx
variable {ts:TS} {sc:Sc} {b:List Bd} {N:Nat}
end Cx
namespace Cx
variable {ts:TS} {sc:Sc} {b:List Bd} {N:Nat}
end Cx
end IK
namespace IL
open P1
variable {ts:TS} {sc:Sc} {b:List Bd} {N:Nat}
end IL
namespace IM
open P1
variable {ts:TS} {sc:Sc} {b:List Bd} {N:Nat}
end IM
set_option maxHeartbeats 1000000
namespace ON
open YF P1 E4 EO EP EQ F4 G5 GF GP GR LA
theorem qs9(ts sc)(F:Fit9 ts sc):qj qg 24 [eTS ts,eSc sc] (lBd (defB ts sc)):=by
 have a0:=F.nf;refine qSU call24 func24 rfl ?_;refine aP ts.sA.length (fun k U=>U.tm 2 = .ip (cTS ts)/\U.tm 3 = .ip [lI sc.sC,aI sc.sN]/\U.tm 9 = .lst false (ts.sA.map vL)/\U.tm 10=aI ts.sA.length/\U.tm 11=aI k/\Own U.mu 4 (U.tm 5) ((ts.sA.take k).map (rowD sc))) ?_ ?_
 .exact ⟨zSi,zSi,zSi,zSi,zSi,.inl zSi⟩
 rintro k U hk ⟨e2,e3,e9,C,o,I⟩;by_cases l:k<ts.sA.length
 .have w1:=zWk k
  have i:=qv l;have t:=EW.UL sc F.g (fun a ha=>(F.g.2 a ha).1) ts.sA[k].sS (F.fs _ i) (F.f1 _ i).1 (F.f1 _ i).2;rw[K0 sc F.g (F.pf i) _ (F.f1 _ i).2 (F.fs _ i)]at t;simp[go_sem,e9,C,o,l];refine tJ zKr ?_;simp[go_sem,e2,e3,o,l];refine fW t (.zk (zD _) (.zk (zy _) .nil)) ?_;refine qx.ownB (e:=44) (sz:=4) (bt:=64) (zv := .agg [aI 0,.lst true [],aI 0,.lst true []]) (xs:=(ts.sA.take k).map (rowD sc)) (ys:=[rowD sc ts.sA[k]]) zSi zSi zSi rfl rfl zOm zOm (Own.push I _) (by simp[qA,rowD]) (KQ sc _) (KQ sc [_]) zSo ?_;intro a1 R J _ _ _;simp[go_sem,o,l,w1];refine aM ⟨zS1 e2,zS1 e3,zS1 e9,zS1 C,zSi,?_⟩;rw[ya l,zi];simpa[go_sem] using J
 .have P:k=ts.sA.length:=by omega
  subst P;rw[za]at I;simp[go_sem,C,o];have:=cZ (g:=fun f=>cBd ⟨⟨f.sS.length,[]⟩,⟨f.sS.length,yR sc f.sS⟩⟩) I (KQ sc _).ok (fun r T=>by
   obtain⟨n,_,rfl⟩:=qp.1 T;rfl) fun f _=>⟨.hf _ (HF.sc _),.wk _ true _ (.hf _ (HF.lst fun r T=>by simp at T)),.hf _ (HF.sc _),.hf _ (zy _),trivial⟩
  show Rd _ _ (.lst false ((defB ts sc).map cBd));rw[defB,List.map_map];exact this
end ON
set_option maxHeartbeats 1000000
namespace OM
open Y1 P1 PF YF E4 GF KA KR O0 IB YG E9 KG Y16 Q4 Q6 QL ER F6 OI OJ OF OK Y6 Y11 QB
def tsN:TS:=⟨[(⟨#[65]⟩,false)],[⟨⟨#[102]⟩,[0],false⟩,⟨⟨#[103]⟩,[0],false⟩],[],[]⟩
def scN:Sc:=⟨[2],1⟩
abbrev rE:Rl:=⟨1,[]⟩
abbrev rF:Rl:=⟨1,[0,1]⟩
def bsN:List Bd:=[⟨rE,rF⟩,⟨rE,rF⟩]
def nm(b:dC):Nd := .mk 1 b 0 [] 0
def nd(op:Int)(ks:List Nd):Nd := .mk op ⟨#[]⟩ 0 ks 0
abbrev fN:Nd:=nm ⟨#[102]⟩
abbrev gN:Nd:=nm ⟨#[103]⟩
abbrev aN:Nd:=nm ⟨#[65]⟩
def q1:Nd:=nd 35 [fN]
def q2:Nd:=nd 41 [nd 33 [fN,aN],nd 35 [nd 8 [gN,fN]]]
def q3:Nd:=nd 41 [nd 34 [fN],nd 35 [fN]]
def q4:Nd:=nd 34 [nm ⟨#[104]⟩]
def q5:Nd:=nd 32 [nd 6 [fN,gN],nd 8 [aN,gN]]
def q6:Nd:=nd 48 [nd 41 [nd 34 [fN],nd 48 [nd 35 [gN]]]]
def q7:Nd:=nd 6 [fN,aN]
theorem v1:fixL tsN scN bsN q1 = .ok [⟨rE,rE⟩,⟨rE,rF⟩]:=by kernel_rfl
theorem v2:fixL tsN scN bsN q2 = .ok [⟨rF,rF⟩,⟨rE,rF⟩]:=by kernel_rfl
theorem v3:fixL tsN scN bsN q3 = .error 100:=by kernel_rfl
theorem v4:fixL tsN scN bsN q4 = .error 40:=by kernel_rfl
theorem v5:fixL tsN scN bsN q5 = .ok bsN:=by kernel_rfl
theorem v6:conj q6=[nd 48 [nd 34 [fN]],nd 48 [nd 35 [gN]]]:=by kernel_rfl
theorem v7:ivl ⟨tsN,scN,bsN⟩ [] q7=⟨rF,rF⟩:=by kernel_rfl
theorem v8:[q1,q2,q3,q4,q5,q6,q7].all yb=true:=by kernel_rfl
theorem v9:vT tsN=[]:=by kernel_rfl
theorem v10:jI (spOf tsN) scN=true:=by kernel_rfl
theorem v11:vBs tsN scN bsN=true:=by kernel_rfl
theorem v12:vV q1=true/\shpB tsN=true:=⟨zKr,zKr⟩
theorem szN0:∀ x,x∈tsN.sS->x.1.size<=4611686018427387904:=by
 intro x g;simp only[tsN,qX]at g;subst g;decide
theorem qfV:wX tsN scN bsN q1:=⟨zDe,zDe,zDe,zDe,zDe,zDe,v12.1,fun p g=>by simp[tsN]at g,fun p g=>by simp[tsN]at g,v12.2⟩
theorem F0:F10 tsN scN bsN q1:=⟨qfV,VK qfV szN0,v9,v10,zDe,v11,Jy v12.1⟩
theorem val{q}(h:q∈[q1,q2,q3,q4,q5,q6,q7]):yb q=true:=qY.1 v8 q h
theorem inlI0{ts}(S:SpD ts){n}(i:yb n=true)(j:anyN (fun n=>decide (n.op=47)) n=false):InlI ts n:=by
 have e:(zm ts n).2=0->(zm ts n).1=n/\(jE ts [] n).1=0:=fun g=>by
  unfold zm at g⊢;by_cases h:(jE ts [] n).1=0
  .rw [if_neg (zP1 h),if_pos j];exact⟨rfl,h⟩
  .rw [if_pos h]at g;exact absurd g h
 refine⟨FH.qs8 ts S.h S.wp n (ux i) j,fun g=>?_,fun g=>?_⟩
 .rw [(e g).1];exact⟨ux i,(Z9.1 i).2.2.1⟩
 .rw [(e g).1];exact qpF S.h (ux i) (e g).2
theorem v13:[q1,q2,q3,q4,q5,q6,q7].all (fun q=>!anyN (fun n=>decide (n.op=47)) q)=true:=by kernel_rfl
theorem fixH{q}(h:q∈[q1,q2,q3,q4,q5,q6,q7]):qj qg 21 [eTS tsN,eSc scN,lBd bsN,eNd q] (outF (fixL tsN scN bsN q)):=
 qsV F0.nwc zDe F0.bds fun m g=>by
  have e:m=q:=by simpa[tsN] using g
  subst e;exact inlI0 F0.S (val h) (by simpa using qY.1 v13 _ h)
theorem fix1:qj qg 21 [eTS tsN,eSc scN,lBd bsN,eNd q1] (.tup [lBd [⟨rE,rE⟩,⟨rE,rF⟩],aI 0]):=by
 have h:=fixH (q:=q1) zSp
 rwa[v1]at h
theorem fix2:qj qg 21 [eTS tsN,eSc scN,lBd bsN,eNd q2] (.tup [lBd [⟨rF,rF⟩,⟨rE,rF⟩],aI 0]):=by
 have h:=fixH (q:=q2) zSp
 rwa[v2]at h
theorem fix3:qj qg 21 [eTS tsN,eSc scN,lBd bsN,eNd q3] (.tup [lBd [],aI 100]):=by
 have h:=fixH (q:=q3) zSp
 rwa[v3]at h
theorem fix4:qj qg 21 [eTS tsN,eSc scN,lBd bsN,eNd q4] (.tup [lBd [],aI 40]):=by
 have h:=fixH (q:=q4) zSp
 rwa[v4]at h
theorem fix5:qj qg 21 [eTS tsN,eSc scN,lBd bsN,eNd q5] (.tup [lBd bsN,aI 0]):=by
 have h:=fixH (q:=q5) zSp
 rwa[v5]at h
theorem con6:qj qg 17 [eNd q6] (lNd [nd 48 [nd 34 [fN]],nd 48 [nd 35 [gN]]]):=by
 have h:=OD.VH _ q6 (qn _) (ux (val (q:=q6) zSp)) (by rw[v6];decide)
 rwa[v6]at h
theorem e7:exam (mkCk tsN tsN.sT.length) (zO []) false q7 = .ok (some ⟨1,[[0,0,0]]⟩):=by kernel_rfl
theorem wO(b):qj qg 22 [aS b] (eNd (nm b)):=by
 refine qSU call22 func22 rfl ?_;exact Rd.aggs ⟨.hf _ (HF.sc _),.hf _ (HF.sc _),.hf _ (HF.sc _),.wk _ true _ (.hf _ (HF.lst fun r g=>by simp at g)),.hf _ (HF.sc _),trivial⟩
theorem jK(op ks):qj qg 23 [aI op,lNd ks] (eNd (nd op ks)):=by
 refine qSU call23 func23 rfl ?_;have g:eNd (nd op ks) = .agg [aI op,aS ⟨#[]⟩,aI 0,lNd ks,aI 0]:=by rw[eNd,jp];rfl
 rw[g];exact Rd.aggs ⟨.hf _ (HF.sc _),.hf _ (HF.sc _),.hf _ (HF.sc _),.hf _ (JV ks),.hf _ (HF.sc _),trivial⟩
theorem wl{full}(ks):WK (.lst full (ks.map cNd)) (lNd ks):=WK.lst fun r g c i=>by
 obtain⟨k,_,rfl⟩:=qp.1 g;exact jQ k c i
theorem wts:WK (.agg [.lst true [[aS ⟨#[65]⟩,aB false]],.lst true [[aS ⟨#[102]⟩,.lst true [[aI 0]],aB false],[aS ⟨#[103]⟩,.lst true [[aI 0]],aB false]],.lst true [],.lst true []]) (eTS tsN):=
 WK.aggs (.cons (Zz ⟨.zs (.zs .nil),trivial⟩) (.cons (Zz ⟨.zs (.cons (WK.ints [0]) (.zs .nil)),.zs (.cons (WK.ints [0]) (.zs .nil)),trivial⟩) (.cons (Zz (by trivial)) (.cons (Zz (by trivial)) .nil))))
theorem wsc:WK (.agg [.lst true [[aI 2]],aI 1]) (eSc scN):=WK.aggs (.cons (WK.ints [2]) (.zs .nil))
theorem wrow:WKs [aI 1,.lst true [],aI 1,.lst true [[aI 0],[aI 1]]] (cBd ⟨rE,rF⟩) := .zs (.cons (WK.ints []) (.zs (.cons (WK.ints [0,1]) .nil)))
theorem wbs:WK (.lst true [[aI 1,.lst true [],aI 1,.lst true [[aI 0],[aI 1]]],[aI 1,.lst true [],aI 1,.lst true [[aI 0],[aI 1]]]]) (lBd bsN):=Zz ⟨wrow,wrow,trivial⟩
theorem w4(q):WKs [.agg [.lst true [[aS ⟨#[65]⟩,aB false]],.lst true [[aS ⟨#[102]⟩,.lst true [[aI 0]],aB false],[aS ⟨#[103]⟩,.lst true [[aI 0]],aB false]],.lst true [],.lst true []],.agg [.lst true [[aI 2]],aI 1],.lst true [[aI 1,.lst true [],aI 1,.lst true [[aI 0],[aI 1]]],[aI 1,.lst true [],aI 1,.lst true [[aI 0],[aI 1]]]],eNd q] [eTS tsN,eSc scN,lBd bsN,eNd q] := .cons wts (.cons wsc (.cons wbs (.zk (qE q) .nil)))
theorem w2{full}(op ks):WKs [aI op,.lst full (ks.map cNd)] [aI op,lNd ks] := .zs (.cons (wl ks) .nil)
theorem w5(q):WKs [.agg [.lst true [[aS ⟨#[65]⟩,aB false]],.lst true [[aS ⟨#[102]⟩,.lst true [[aI 0]],aB false],[aS ⟨#[103]⟩,.lst true [[aI 0]],aB false]],.lst true [],.lst true []],.agg [.lst true [[aI 2]],aI 1],.lst true [[aI 1,.lst true [],aI 1,.lst true [[aI 0],[aI 1]]],[aI 1,.lst true [],aI 1,.lst true [[aI 0],[aI 1]]]],.lst true [],eNd q] [eTS tsN,eSc scN,lBd bsN,lPm [],eNd q] := .cons wts (.cons wsc (.cons wbs (.cons (Zz (by trivial)) (.zk (qE q) .nil))))
theorem wrowE:WKs [aI 1,.lst true [],aI 1,.lst true []] (cBd ⟨rE,rE⟩) := .zs (.cons (WK.ints []) (.zs (.cons (WK.ints []) .nil)))
theorem qfW:WKs [aI 1,.lst true [[aI 0],[aI 1]],aI 1,.lst true [[aI 0],[aI 1]]] (cBd ⟨rF,rF⟩) := .zs (.cons (WK.ints [0,1]) (.zs (.cons (WK.ints [0,1]) .nil)))
theorem pw(a)(h:a.length<=10)(g:∀ x,x∈a->x.lo.ts.length<=10/\x.up.ts.length<=10):qj qg 25 [lBd a,lBd a] (aB true):=by
 have:=qrN a a zOm (fun x i=>zW1 (g x i))
 rwa[decide_eq_true rfl]at this
theorem insF:qj qg 26 [eBd ⟨rF,rF⟩,eBd ⟨rF,rF⟩] (aB true):=
 qrM ⟨rF,rF⟩ ⟨rF,rF⟩ ⟨⟨zDe,zDe⟩,zDe,zDe⟩ ⟨⟨zDe,zDe⟩,zDe,zDe⟩
theorem headN(i:qj qg 10 [eTS tsN,eSc scN,lBd bsN,lPm [],eNd q7] (.tup [eBd ⟨rF,rF⟩,aI 0]))(l:∃ b,b[0]?.map (fun x=>x.up.ar)=some 1/\qj qg 24 [eTS tsN,eSc scN] (lBd b)):qj qg 6 [] (aB true):=by
 refine qSU call6 func6 rfl ?_;refine fW (wO ⟨#[102]⟩) (.zs .nil) ?_;refine fW (wO ⟨#[103]⟩) (.zs .nil) ?_;refine fG [0,1,2,3,4,5,6,7,8,9,10,11] [(5,1,[0,1]),(6,1,[])] zKr zKr zSi ?_;simp[go_sem];refine fW (jK 35 [fN]) (w2 35 [fN]) ?_;refine fW fix1 (w4 q1) ?_;refine fG [0,1,2,3,7,8,9,4,5,6,10,11,12,13,14,15,16,17,18,19,20] [(4,1,[0,1,3,7,8]),(6,1,[0,1,7,8]),(10,1,[0,1]),(12,1,[0,1]),(14,1,[0,1]),(15,1,[])] zKr zKr zSi ?_;simp[go_sem];refine fW (wO ⟨#[65]⟩) (.zs .nil) ?_;refine fW (jK 33 [fN,aN]) (w2 33 [fN,aN]) ?_;refine fW (jK 8 [gN,fN]) (w2 8 [gN,fN]) ?_;refine fW (jK 35 [nd 8 [gN,fN]]) (w2 35 [nd 8 [gN,fN]]) ?_;refine fW (jK 41 [nd 33 [fN,aN],nd 35 [nd 8 [gN,fN]]]) (w2 41 [nd 33 [fN,aN],nd 35 [nd 8 [gN,fN]]]) ?_;refine fW fix2 (w4 q2) ?_;refine fG [0,1,2,3,4,6,7,5,8,9,10,11,12,13,14,15,16] [(5,1,[0,1,6]),(8,1,[0,1]),(10,1,[0,1]),(11,1,[])] zKr zKr zSi ?_;simp[go_sem];refine fW (jK 34 [fN]) (w2 34 [fN]) ?_;refine fW (jK 35 [fN]) (w2 35 [fN]) ?_;refine fW (jK 41 [nd 34 [fN],nd 35 [fN]]) (w2 41 [nd 34 [fN],nd 35 [fN]]) ?_;refine fW fix3 (w4 q3) ?_;refine fG [0,1,2,3,4,5,6,7,8,9,10,11] [(3,1,[0,1]),(5,1,[0,1]),(6,1,[])] zKr zKr zSi ?_;simp[go_sem];refine fW (wO ⟨#[104]⟩) (.zs .nil) ?_;refine fW (jK 34 [nm ⟨#[104]⟩]) (w2 34 [nm ⟨#[104]⟩]) ?_;refine fW fix4 (w4 q4) ?_;refine fG [0,1,2,3,4,5,6,7,8,9,10,13,11,12] [(4,1,[0,1,3]),(6,1,[0,1]),(7,1,[]),(11,2,[0,1,3]),(12,1,[])] zKr zKr zSi ?_;simp[go_sem];refine fW (wO ⟨#[65]⟩) (.zs .nil) ?_;refine fW (jK 6 [fN,aN]) (w2 6 [fN,aN]) ?_;refine fW i (w5 q7) ?_;refine fG [0,1,3,4,2,5,6,7,8,9,10,11,12,13] [(2,1,[3]),(5,1,[]),(7,1,[]),(9,1,[]),(11,1,[]),(12,1,[])] zKr zKr zSi ?_;simp[go_sem];refine fW (jK 34 [fN]) (w2 34 [fN]) ?_;refine fW (jK 35 [gN]) (w2 35 [gN]) ?_;refine fW (jK 48 [nd 35 [gN]]) (w2 48 [nd 35 [gN]]) ?_;refine fW (jK 41 [nd 34 [fN],nd 48 [nd 35 [gN]]]) (w2 41 [nd 34 [fN],nd 48 [nd 35 [gN]]]) ?_;refine fW (jK 48 [nd 41 [nd 34 [fN],nd 48 [nd 35 [gN]]]]) (w2 48 [nd 41 [nd 34 [fN],nd 48 [nd 35 [gN]]]]) ?_;refine fW con6 (.zk (qE q6) .nil) ?_;refine fG [0,1,2,3,4,5,8,6,7,9,10,11,12,13,14,15,16,17,18] [(6,1,[0,1,8]),(7,1,[0,1,8]),(10,1,[0,1]),(12,1,[0,1]),(13,1,[])] zKr zKr zSi ?_;simp[go_sem];refine fW (jK 6 [fN,gN]) (w2 6 [fN,gN]) ?_;refine fW (wO ⟨#[65]⟩) (.zs .nil) ?_;refine fW (jK 8 [aN,gN]) (w2 8 [aN,gN]) ?_;refine fW (jK 32 [nd 6 [fN,gN],nd 8 [aN,gN]]) (w2 32 [nd 6 [fN,gN],nd 8 [aN,gN]]) ?_;refine fW fix5 (w4 q5) ?_;obtain⟨b,g,j⟩:=l
 match b,g with
 |x :: J,g =>
 have o:x.up.ar=1:=zUs g;refine t8 j (.cons wts (.cons wsc .nil)) ?_;simp[go_sem,o];refine fD ?_;refine fW (pw [⟨rE,rE⟩,⟨rE,rF⟩] zDe zDe) (.zk (wG _) (.cons (Zz ⟨wrowE,wrow,trivial⟩) .nil)) ?_;refine fW (pw [⟨rF,rF⟩,⟨rE,rF⟩] zDe zDe) (.zk (wG _) (.cons (Zz ⟨qfW,wrow,trivial⟩) .nil)) ?_;refine t8 insF (.zk (yD ⟨rF,rF⟩) (.cons (WK.aggs qfW) .nil)) ?_;have p:(nd 48 [nd 34 [fN]]).op=48:=rfl;have t:(nd 48 [nd 35 [gN]]).op=48:=rfl;have C:(nd 48 [nd 35 [gN]]).sD=[nd 35 [gN]]:=rfl;have I:(nd 35 [gN]).op=35:=rfl;simp[go_sem,p,t,C,I];refine fW (pw bsN zDe zDe) (.zk (wG _) (.cons wbs .nil)) ?_;exact .zsc _
end OM
set_option maxHeartbeats 1000000
namespace W71
open P1 KE OI
theorem bd_ok{ts n b}(g:BdS ts n b)(j:0<=n)(o:n<=12):∀ x,x∈b->BdOk x:=fun x p=>by
 obtain⟨i,l,rfl⟩:=uA.1 p;have:=g.b.2 i l (by rw[<-g.b.1];exact l);have t:=this.lo.len j zOm;have C:=this.up.len j zOm;exact⟨⟨zOm,this.lo.srt⟩,zOm,this.up.srt⟩
end W71
set_option maxHeartbeats 1000000
namespace OQ
open Y1 P1 YF E1 E3 E4 EO EP F4 GF GR O0 O8 EQ ER F6 GB GQ GS GW OF OK KX OP OS W71 I1 I2
structure MdO (ts:TS) (sc:Sc) (bs:List Bd) (pk:List Bool) (fr:List (Int×Int)) (N:Nat) (L:Int) (Q:Nat) (av:AV) (A:Nat->List Rl) (k:Nat) (st:St):Prop where
 e2:st.tm 2=lBd bs
 e3:st.tm 3=lB pk
 e5:st.tm 5 = .ip (cTS ts)
 e6:st.tm 6 = .ip [lI sc.sC,aI N]
 e10:st.tm 10 = .ptr 0 0
 e11:st.tm 11 = .ptr Q 0
 e12:st.tm 12=lP fr
 e13:st.tm 13=aI ((k*fr.length:Nat):Int)
 e14:st.tm 14=aI k
 h0:st.mu[0]?=some (.arr [.lst true [],aI 0,.lst true [],aI 0])
 ha:Own st.mu 1 av (sc.sC.map rI)
 hm:∃ s,st.mu[Q]?=some (.arr [av,aI N,s,aI L])/\Own st.mu 1 s (((qu k).map A).map fun r=>[lRel r])/\∀ b,qq s=some b->Q<b
structure MdI (ts:TS) (sc:Sc) (bs:List Bd) (pk:List Bool) (fr:List (Int×Int)) (N:Nat) (Q:Nat) (k:Nat) (M:Mu) (W:List Rl) (st:St):Prop where
 e2:st.tm 2=lBd bs
 e3:st.tm 3=lB pk
 e5:st.tm 5 = .ip (cTS ts)
 e6:st.tm 6 = .ip [lI sc.sC,aI N]
 e10:st.tm 10 = .ptr 0 0
 e11:st.tm 11 = .ptr Q 0
 e12:st.tm 12=lP fr
 e14:st.tm 14=aI k
 ho:Own st.mu 2 (st.tm 15) (W.map cRel)
 hb:∀ b,qq (st.tm 15)=some b->M.length<=b
 hM:∀ i,i<M.length->st.mu[i]?=M[i]?
theorem MdI.ml{ts sc bs g i N Q k M W st}(I:MdI ts sc bs g i N Q k M W st):M.length<=st.mu.length:=by
 by_cases h:0<M.length
 .have:=I.hM (M.length-1) zOm
  grind
 .omega
theorem qtA{ts sc bs n}(F:F10 ts sc bs n)(T lp)(cs:0<=lp/\lp<=255) :
  qj qg 11 [eTS ts,eSc sc,lBd bs,lB T,.sc (.int .u8 lp)] (eMd (mdM sc (vsT ts) bs T lp)):=by
 have ct:=F.sz.1;simp only[u5,qD,decide_eq_true_eq]at ct;have s1:1<=sc.sN:=zOm;have s4:sc.sN<=4:=zOm;have bh:=F.bnd.len;have dy:=F.P.fl;have cu:=F.nws.h12;have bi:=F.nws.s.n0;have ag:=bd_ok F.bds bi cu;have b5:=qs4 bs zOm fun x hx=>⟨(ag x hx).2.1,(ag x hx).1.1,(ag x hx).1.2.imp fun h=>zOm⟩
 have dz:=Kt bs 0 fun x hx=>⟨(ag x hx).2.1,(ag x hx).1.1,(ag x hx).1.2.imp fun h=>zOm⟩
 have cv:=F.nws.s.g.1;have bj:=Wc (bs:=bs) (fun b hb=>(F.bnd.so b hb).1) F.bnd.sub;have bl:=Wd bs;have cw:=fun s:Nat=>We (bs:=bs) (fun b hb=>(F.bnd.so b hb).1) F.bnd.sub (vsT ts) T s
 have cx:mdS (vsT ts) bs T 0=yF T (zu bs 0) (0*(zu bs 0).length) (bs.map fun b=>b.lo):=by rw[Nat.zero_mul];rfl
 have cy:=fun (k:Nat) (h:k≠0)=>qs7 (vsT ts) bs T h
 generalize e0:zu bs 0=fr at *
 have cz:=fun (l:List (Int×Int)) (h:∀ q,q∈l->q∈fr) (k:Nat)=>Vu T l k (fun q hq=>bl q (h q hq)) bj
 generalize hS:sc.sN=S at *
 obtain⟨N,rfl⟩:=Int.eq_ofNat_of_zero_le (show 0<=S by omega);refine qSU call11 func11 rfl ?_;refine fG [0,1,2,4,5,7,8,9,10,11,3,6,12,13,14] [(3,1,[5,10]),(13,2,[2,5,10]),(14,1,[])] zKr zKr zSi ?_;have n1:¬(N:Int)<1:=zOm;have n0:¬(N:Int)=0:=zOm;have bm:¬N=0:=zOm;have wl:qo.wrap lp=lp:=zWr;have tm:lp.tmod (N:Int)=lp % (N:Int):=vJ cs.1;simp[go_sem,hS,n1,bm,wl,tm];refine qx.ownB (e:=3) (sz:=1) (bt:=8) (zv:=aI 0) (xs:=[]) (ys:=sc.sC.map rI) zSi zSi zSi rfl rfl zOm zOm (.inl zSi) (by simp[qA]) (fun r hr=>absurd hr qO) (jD _) zSo ?_;intro t a2 aa bn bo bq;simp only[y8]at aa;generalize hL:lp % (N:Int)=L at *
 have da:mdM sc (vsT ts) bs T lp=⟨sc,(qu N).map (mdS (vsT ts) bs T),L⟩:=by rw[mdM,hS,hL];rfl
 rw[da];generalize hA:mdS (vsT ts) bs T=A at *
 have b6:=bn 0 zSp (by simp[qq]);simp at b6;simp[go_sem,hS,n1,bm,wl,tm,hL,Own.one aa,Own.cells aa];refine fW b5 (.zk (wG bs) .nil) ?_;have db:0<a2.length:=by simp at bq;omega
 refine aP N (MdO ts sc bs T fr N L a2.length t A) ?_ ?_
 .refine ⟨zSi,zSi,zSi,zS1 hS,zSi,zSi,zSi,zSi,zSi,?_,?_,.lst true [],zSi,.inl zSp,by simp[qq]⟩
  .show (a2++_)[0]?=_
   rw[qL db];exact b6
  .simpa [go_sem] using Own.push aa _
 have br:qq t≠some 0:=fun h=>by have:=bo _ h;simp at this
 clear b6 bn bo bq;rintro k U hk ⟨e2,e3,e5,e6,b7,b8,bu,J,au,h0,ha,s,hm,ho,hb⟩;have b9:=(ql.1 h0).1;have bv:=(ql.1 hm).1;by_cases bw:k<N
 .have w1:=zWk k
  have n4:(k:Int)<4:=zOm;generalize hM:U.mu=M at *
  simp[go_sem,hS,e6,au,bw,n4,hM];refine aP bs.length (fun j st2=>MdI ts sc bs T fr N a2.length k M ((bs.take j).map fun b=>b.lo) st2/\st2.tm 13=aI ((k*fr.length:Nat):Int)/\st2.tm 16=aI j/\(0<j->∃ b,qq (st2.tm 15)=some b)) ?_ ?_
  .exact ⟨⟨zS1 e2,zS1 e3,zS1 e5,zS2 e6 hS,zS1 b7,zS1 b8,zS1 bu,zS1 au,.inl zSi,by simp[go_sem,qq],zS1 hM⟩,zS1 J,zSi,fun h=>absurd h zOm⟩
  clear e2 e3 e5 e6 b7 b8 bu J au hM U;rintro j U hj ⟨I,J,aw,a1⟩;by_cases o:j<bs.length
  .have w2:=zWk j
   have ax:bs.take (j+1)=bs.take j++[bs[j]]:=ya o;simp[go_sem,I.e2,aw,o];refine .inl (jV.ownB (e:=42) (sz:=2) (bt:=32) (zv := .agg [aI 0,.lst true []]) (xs:=((bs.take j).map fun b=>b.lo).map cRel) (ys:=[cRel bs[j].lo]) zSi zSi zSi rfl rfl zOm zOm I.ho (by simp[qA]) (jP _) (jP [_]) zSo ?_);intro bc ay ab ah az dc ca;have dd:=I.ml;have de:∀ i,i<M.length->ay[i]?=M[i]?:=fun i hi=>by rw[ah i zOm (fun h=>zW1 (I.hb i h))];exact I.hM i hi
   simp[go_sem,aw,o,w2,Own.one ab,Own.cells ab]
   try refine⟨o,aM ?_⟩
   try refine aM ?_
   refine⟨⟨by simp[go_sem,I.e2],by simp[go_sem,I.e3],by simp[go_sem,I.e5],by simp[go_sem,I.e6],by simp[go_sem,I.e10],by simp[go_sem,I.e11],by simp[go_sem,I.e12],by simp[go_sem,I.e14],?_,fun b h=>zW1 (az b (zVs h)),zVs de⟩,zS1 J,zSi,fun _=>by simpa[go_sem] using ca zSp⟩;rw[ax,zi,zi];simpa[go_sem] using ab
  .have ai:j=bs.length:=by omega
   subst ai;rw[za]at I;simp[go_sem,I.e2,aw];have e1:k*fr.length<=3*fr.length:=Nat.mul_le_mul_right _ zOm;refine aP fr.length (fun j st2=>MdI ts sc bs T fr N a2.length k M (yF T (fr.take j) (k*fr.length) (bs.map fun b=>b.lo)) st2/\st2.tm 13=aI ((k*fr.length+j:Nat):Int)/\st2.tm 17=aI j/\(0<bs.length->∃ b,qq (st2.tm 15)=some b)) ?_ ?_
   .exact ⟨⟨by simp[go_sem,I.e2],by simp[go_sem,I.e3],by simp[go_sem,I.e5],by simp[go_sem,I.e6],by simp[go_sem,I.e10],by simp[go_sem,I.e11],by simp[go_sem,I.e12],by simp[go_sem,I.e14],by simpa[go_sem,yF] using I.ho,by simpa[go_sem] using I.hb,by simpa[go_sem] using I.hM⟩,zS1 J,zSi,fun h=>by simpa[go_sem] using a1 h⟩
   clear I J aw a1 hj o U;rintro j U hj ⟨I,J,a6,a1⟩;by_cases o:j<fr.length
   .have w2:=zWk j
    have w3:qo.wrap (((k*fr.length+j:Nat):Int)+1)=((k*fr.length+(j+1):Nat):Int):=by rw[zWr];omega
    obtain⟨f,hf,cb,df⟩:=bl _ (qv o);have ad:=qs6 T fr (k*fr.length) j (bs.map fun b=>b.lo) o;have hW:=cz (fr.take j) (fun q hq=>vZ hq) (k*fr.length);generalize hq:fr[j]=q at *
    obtain⟨q1,q2⟩:=q;simp only at cb df;subst cb;generalize e4:yF T (fr.take j) (k*fr.length) (bs.map fun b=>b.lo)=W at *
    generalize cv:k*fr.length+j=a3 at *
    simp[go_sem,I.e12,a6,o,hq];by_cases hp:0<T.length
    .have be:a3 % T.length<T.length:=Nat.mod_lt _ hp
     have dh:((a3:Nat):Int).tmod (T.length:Int)=((a3 % T.length:Nat):Int):=by rw[vJ zOm];rfl
     have b0:pkAt T a3=T[a3 % T.length]:=by unfold pkAt;rw[zH,qy be];simp[hp]
     have di:¬T.length=0:=zOm;simp[go_sem,I.e3,J,hp,di,dh,be];have dj:((a3:Int) % (T.length:Int)).toNat=a3 % T.length:=zOm;refine t7 (.ip [aB T[a3 % T.length]]) (by rw[if_pos ⟨zOm,zOm⟩,dj,qy be];rfl) ?_;generalize e8:T[a3 % T.length]=bb at *
     cases bb with
     |true =>
      rw[if_pos b0]at ad;obtain⟨bk,C⟩:=a1 zOm;have e9:W.length=bs.length:=hW.l;have a0:U.tm 15 = .sl bk 2 0 W.length/\U.mu[bk]?=some (.arr (W.map cRel).flatten):=by
       rcases I.ho with h|⟨b',h,hc⟩
       .rw [h]at C;cases C
       .rw [h]at C;cases C
        exact⟨by rw[h];simp,hc⟩
      obtain⟨a0,a7⟩:=a0;simp[go_sem];refine tJ zKr ?_;have a4:f<W.length:=zOm;have b1:(W.map cRel).flatten.length=W.length*2:=by rw[yK (jP W).ok];simp
      have bh:=(ql.1 a7).1;have bg:W.getD f noR=W[f]:=by rw[zH,qy a4];rfl
      have cc:=hW.r f a4 hf;have eb:W[f].ts.length<=8000:=by
       have hu:=(F.bds.b.2 f hf zOm).up.len bi zOm;have:=qnS cc.2.1 cc.2.2.2;omega
      have dk:=qs0 W[f] ⟨W[f].ar,[q2]⟩ zOm zSp;have dm:put1 W (↑f,q2)=W.set f (unR W[f] ⟨W[f].ar,[q2]⟩):=by simp only[put1,Int.toNat_natCast,bg]
      have ax:((W.map cRel).flatten.drop (f*2)).take 2=cRel W[f]:=by
       have q0:=Wv (jP W).ok f (zUs a4) 0 zOm;have q1:=Wv (jP W).ok f (zUs a4) 1 zOm;rw[Yd]at q0 q1;refine vg fun i=>?_
       match i with
       | 0=>simpa using q0
       | 1=>simpa[Nat.add_comm] using q1
       |i+2=>rw[List.getElem?_eq_none (by rw[ub];omega)];rfl
      have ec:(W.map cRel).flatten[f*2]?=some (aI W[f].ar):=by
       have q0:=Wv (jP W).ok f (zUs a4) 0 zOm;rw[Yd]at q0;simpa using q0
      rw[dm]at ad;have aj:=VW (W.map cRel) f (cRel (unR W[f] ⟨W[f].ar,[q2]⟩)) (jP W).ok rfl (zUs a4);rw[<-List.map_set]at aj;have ak:(W.set f (unR W[f] ⟨W[f].ar,[q2]⟩)).length=W.length:=List.length_set;generalize unR W[f] ⟨W[f].ar,[q2]⟩=RR at *
      generalize ed:W[f]=WF at *
      generalize ee:(W.map cRel).flatten=FL at *
      rw[jm _ _ _ (by simp[cRel];omega)]at aj;have b2:FL.take (f*2)++aI RR.ar :: lI RR.ts :: FL.drop (f*2+2)=((W.set f RR).map cRel).flatten:=by rw[aj];simp[cRel]
      have wk2:WK (.agg [aI WF.ar,.lst true [[aI q2]]]) (eRel ⟨WF.ar,[q2]⟩):=WK.aggs (.zs (.cons (WK.ints [q2]) .nil));simp[go_sem,a0,a7,I.e12,a6,o,hq,a4,b1];refine t7 (.agg [aI WF.ar,lI WF.ts]) (by rw[if_pos zOm,ax]) ?_;simp[go_sem,a0,a7,I.e12,a6,o,hq,a4,b1];refine t7 (.sc (.int .i64 WF.ar)) (by rw[if_pos zOm,show (FL.drop (f*2)).take 1=((FL.drop (f*2)).take 2).take 1 by rw[List.take_take];rfl,ax];rfl) ?_;simp[go_sem,a0,a7,I.e12,a6,o,hq,a4,b1];refine t8 dk (.zk (qr WF) (.cons wk2 .nil)) ?_;simp[go_sem,a0,a7,a4,b1];refine t7 (U.mu.set bk (.arr ((W.set f RR).map cRel).flatten)) (by rw[if_pos zOm,b2]) ?_;simp[go_sem,J,a6,w2,w3,o]
      try refine⟨o,aM ?_⟩
      try refine aM ?_
      refine⟨⟨by simp[go_sem,I.e2],by simp[go_sem,I.e3],by simp[go_sem,I.e5],by simp[go_sem,I.e6],by simp[go_sem,I.e10],by simp[go_sem,I.e11],by simp[go_sem,I.e12],by simp[go_sem,I.e14],?_,by simpa[go_sem] using I.hb,fun i hi=>?_⟩,zSi,zSi,fun h=>by simpa[go_sem] using ⟨bk,C⟩⟩
      .rw [ad]
       simp[go_sem];exact .inr ⟨bk,by rw[a0];simp,qJ bh⟩
      .simp only[qK]
       rw[yH (fun e=>zW1 (I.hb bk C))];exact I.hM i hi
     |false =>
      rw[b0,if_neg zSp]at ad;simp[go_sem,J,a6,w2,w3]
      try refine⟨o,aM ?_⟩
      try refine aM ?_
      exact⟨⟨by simp[go_sem,I.e2],by simp[go_sem,I.e3],by simp[go_sem,I.e5],by simp[go_sem,I.e6],by simp[go_sem,I.e10],by simp[go_sem,I.e11],by simp[go_sem,I.e12],by simp[go_sem,I.e14],by rw[ad];simpa[go_sem] using I.ho,by simpa[go_sem] using I.hb,by simpa[go_sem] using I.hM⟩,zSi,zSi,fun h=>by simpa[go_sem] using a1 h⟩
    .have cd:T=[]:=List.length_eq_zero_iff.1 zOm
     have b0:pkAt T a3=false:=by unfold pkAt;simp[hp]
     rw[b0,if_neg zSp]at ad;simp[go_sem,I.e3,J,a6,cd,w2,w3];subst cd
     try refine⟨o,aM ?_⟩
     try refine aM ?_
     exact⟨⟨by simp[go_sem,I.e2],by simp[go_sem,I.e3],by simp[go_sem,I.e5],by simp[go_sem,I.e6],by simp[go_sem,I.e10],by simp[go_sem,I.e11],by simp[go_sem,I.e12],by simp[go_sem,I.e14],by rw[ad];simpa[go_sem] using I.ho,by simpa[go_sem] using I.hb,by simpa[go_sem] using I.hM⟩,zSi,zSi,fun h=>by simpa[go_sem] using a1 h⟩
   .have ai:j=fr.length:=by omega
    subst ai;rw[za]at I;simp[go_sem,I.e12,a6];have cf:=pv T fr (k*fr.length) (bs.map fun b=>b.lo);rw[zT]at cf;have cg:=cy k;have dx:(A 0).length=bs.length:=(cw 0).l;have ch:k=0->A k=yF T fr (k*fr.length) (bs.map fun b=>b.lo):=fun h=>by subst h;exact cx
    have cj:k*fr.length+fr.length=(k+1)*fr.length:=by rw[Nat.succ_mul]
    rw[cj]at J;generalize ef:yF T fr (k*fr.length) (bs.map fun b=>b.lo)=R at *
    refine aP bs.length (fun j st2=>MdI ts sc bs T fr N a2.length k M (if k=0 then R else fixS (vsT ts) (A 0) R j) st2/\st2.tm 13=aI (((k+1)*fr.length:Nat):Int)/\st2.tm 19=aI j/\(0<bs.length->∃ b,qq (st2.tm 15)=some b)) ?_ ?_
    .exact ⟨⟨by simp[go_sem,I.e2],by simp[go_sem,I.e3],by simp[go_sem,I.e5],by simp[go_sem,I.e6],by simp[go_sem,I.e10],by simp[go_sem,I.e11],by simp[go_sem,I.e12],by simp[go_sem,I.e14],by simpa[go_sem,qnN] using I.ho,by simpa[go_sem] using I.hb,by simpa[go_sem] using I.hM⟩,zS1 J,zSi,fun h=>by simpa[go_sem] using a1 h⟩
    clear I J a6 a1 hj o U;rintro j U hj ⟨I,J,a8,a1⟩;have ak:(if k=0 then R else fixS (vsT ts) (A 0) R j).length=bs.length:=by split<;>simp[qnO,cf]
    have dn:k≠0->j<bs.length->(if k=0 then R else fixS (vsT ts) (A 0) R (j+1))=if (vsT ts).getD j true=false then (if k=0 then R else fixS (vsT ts) (A 0) R j).set j ((A 0).getD j noR) else (if k=0 then R else fixS (vsT ts) (A 0) R j):=fun h1 h2=>by rw[if_neg h1,if_neg h1,qnP _ _ _ _ zOm]
    have dp:¬(j<bs.length/\k≠0)->(if k=0 then R else fixS (vsT ts) (A 0) R j)=A k:=fun h=>by
     by_cases h0:k=0
     .rw [if_pos h0,ch h0]
     .rw [if_neg h0,cg h0,show j=bs.length by omega]
    generalize hW:(if k=0 then R else fixS (vsT ts) (A 0) R j)=W at *
    have ae:U.mu[a2.length]?=some (.arr [t,aI N,s,aI L]):=by rw[I.hM _ bv];exact hm
    have dd:=I.ml;by_cases al:j<bs.length/\k≠0
    .obtain ⟨o,dq⟩:=al
     have dr:(vsT ts).getD j true=ts.sA[j].var:=by rw[zH,List.getElem?_map,qy (show j<ts.sA.length by omega)];rfl
     have w2:=zWk j;have a5:=dn dq o;rw[dr]at a5;simp[go_sem,I.e2,I.e5,I.e14,a8,o,show 0<k by omega,show j<ts.sA.length by omega];cases hv:ts.sA[j].var with
     |true =>
      rw[hv]at a5;replace a5:=a5.trans (if_neg zSp);simp[go_sem,a8,o,w2]
      try refine⟨o,aM ?_⟩
      try refine aM ?_
      exact⟨⟨by simp[go_sem,I.e2],by simp[go_sem,I.e3],by simp[go_sem,I.e5],by simp[go_sem,I.e6],by simp[go_sem,I.e10],by simp[go_sem,I.e11],by simp[go_sem,I.e12],by simp[go_sem,I.e14],by rw[a5];simpa[go_sem] using I.ho,by simpa[go_sem] using I.hb,by simpa[go_sem] using I.hM⟩,zS1 J,zSi,fun h=>by simpa[go_sem] using a1 h⟩
     |false =>
      rw[hv]at a5;replace a5:=a5.trans (if_pos rfl);obtain⟨bk,C⟩:=a1 zOm;have a0:U.tm 15 = .sl bk 2 0 W.length/\U.mu[bk]?=some (.arr (W.map cRel).flatten):=by
       rcases I.ho with h|⟨b',h,hc⟩
       .rw [h]at C;cases C
       .rw [h]at C;cases C
        exact⟨by rw[h];simp,hc⟩
      obtain⟨a0,a7⟩:=a0;have ck:=(ql.1 a7).1;have eg:=I.hb bk C;have an:(W.map cRel).flatten.length=W.length*2:=by rw[yK (jP W).ok];simp
      have ao:j<(A 0).length:=zOm;have bg:(A 0).getD j noR=(A 0)[j]:=by rw[zH,qy ao];rfl
      have cl:(((qu k).map A).map fun r=>[lRel r]).length=k:=zSp;have a9:(((qu k).map A).map fun r=>[lRel r]).flatten[0]?=some (lRel (A 0)):=by
       obtain⟨k',rfl⟩:∃ k',k=k'+1:=⟨k-1,zOm⟩;rw[List.range_succ_eq_map];simp
      generalize aq:(((qu k).map A).map fun r=>[lRel r])=rows at *
      have ds:rows[0]?=some [lRel (A 0)]:=by
       rw[<-aq];obtain⟨k',rfl⟩:∃ k',k=k'+1:=⟨k-1,zOm⟩;rw[List.range_succ_eq_map];rfl
      have cm:(rows.map List.length).sum=k:=by
       have:=yK (sz:=1) (xs:=rows) (by rw[<-aq];intro r hr;obtain⟨n,_,rfl⟩:=qp.1 hr;rfl);rw[List.length_flatten]at this;omega
      have cn:rows.flatten.take 1=[lRel (A 0)]:=by
       cases cp:rows.flatten with
       |nil=>rw[cp]at a9;cases a9
       |cons x l=>rw[cp]at a9;cases a9;rfl
      have b2:(W.map cRel).flatten.take (j*2)++aI (A 0)[j].ar :: lI (A 0)[j].ts :: (W.map cRel).flatten.drop (j*2+2)=((W.set j (A 0)[j]).map cRel).flatten:=by
       rw[List.map_set,VW (W.map cRel) j _ (jP W).ok rfl zSo,jm _ _ _ (by simp only[an,cRel,yy,List.length_nil];omega)];simp
      rw[bg]at a5;have af:MdI ts sc bs T fr N a2.length k M (if k=0 then R else fixS (vsT ts) (A 0) R (j+1)) ⟨U.tm,U.mu.set bk (.arr ((W.set j (A 0)[j]).map cRel).flatten)⟩:=by
       refine⟨I.e2,I.e3,I.e5,I.e6,I.e10,I.e11,I.e12,I.e14,?_,I.hb,fun i hi=>?_⟩
       .rw [a5]
        exact .inr ⟨bk,by rw[a0];simp,qJ ck⟩
       .show (U.mu.set bk _)[i]?=_
        rw[zGl];exact I.hM i hi
      rcases ho with rfl|⟨c,rfl,cq⟩
      .simp [go_sem,I.e11,a8,ae,a0,ak]
       refine t7 (.ip [lRel (A 0)]) (by rw[ds];simp[cl];omega) ?_;simp[go_sem,a8,o,a7,an,ak,ao];refine t7 (U.mu.set bk (.arr ((W.set j (A 0)[j]).map cRel).flatten)) (by rw[if_pos zOm,b2]) ?_;simp[go_sem,a8,o,w2]
       try refine⟨o,aM ?_⟩
       try refine aM ?_
       exact⟨⟨by simp[go_sem,I.e2],by simp[go_sem,I.e3],by simp[go_sem,I.e5],by simp[go_sem,I.e6],by simp[go_sem,I.e10],by simp[go_sem,I.e11],by simp[go_sem,I.e12],by simp[go_sem,I.e14],by simpa[go_sem] using af.ho,by simpa[go_sem] using I.hb,by simpa[go_sem] using af.hM⟩,zS1 J,zSi,fun h=>by simpa[go_sem] using ⟨bk,C⟩⟩
      .have dt:=(ql.1 cq).1
       have b4:=I.hM c dt;rw[cq]at b4;simp[go_sem,I.e11,a8,ae,b4,cl,show 0<k by omega,a0,ak];refine t7 (lRel (A 0)) (by rw[cm,if_pos zOm,cn];rfl) ?_;simp[go_sem,a8,o,a7,an,ak,ao];refine t7 (U.mu.set bk (.arr ((W.set j (A 0)[j]).map cRel).flatten)) (by rw[if_pos zOm,b2]) ?_;simp[go_sem,a8,o,w2]
       try refine⟨o,aM ?_⟩
       try refine aM ?_
       exact⟨⟨by simp[go_sem,I.e2],by simp[go_sem,I.e3],by simp[go_sem,I.e5],by simp[go_sem,I.e6],by simp[go_sem,I.e10],by simp[go_sem,I.e11],by simp[go_sem,I.e12],by simp[go_sem,I.e14],by simpa[go_sem] using af.ho,by simpa[go_sem] using I.hb,by simpa[go_sem] using af.hM⟩,zS1 J,zSi,fun h=>by simpa[go_sem] using ⟨bk,C⟩⟩
    .have du:j<bs.length->¬ 0<k:=fun h=>by omega
     have b3:=I.ho;rw[dp al]at b3;by_cases o:j<bs.length<;>simp[go_sem,I.e2,I.e11,I.e14,a8,o,du,ae,Own.one b3,Own.cells b3]
     all_goals
      refine cL (e:=109) (sz:=1) (bt:=24) (zv := .lst true []) (xs:=((qu k).map A).map fun r=>[lRel r]) [lRel (A k)] M.length zSi zSi zSi rfl rfl zOm zOm ?_ (fun b h=>Own.lt ho h) ?_ ?_ ?_ zSo ?_
      .rcases ho with h|⟨b,h,hc⟩
       .exact .inl h
       .exact .inr ⟨b,h,by rw[I.hM b (ql.1 hc).1];exact hc⟩
      .exact ⟨Own.rd (KS b3 I.hb) (jP _).ok fun r hr c hc=>by
        obtain⟨n,_,rfl⟩:=qp.1 hr;exact Yt n c hc,trivial⟩
      .intro r hr
       obtain⟨n,_,rfl⟩:=qp.1 hr;exact⟨rfl,rfl⟩
      .intro r hr
       simp at hr;subst hr;exact⟨rfl,rfl⟩
      intro bc ay ab ah az dc ca;have g1:ay[a2.length]?=some (.arr [t,aI N,s,aI L]):=by rw[ah _ zOm bv (fun h=>zW1 (hb _ h))];exact ae
      have g0:ay[0]?=some (.arr [.lst true [],aI 0,.lst true [],aI 0]):=by rw[ah 0 zOm b9 (fun h=>zW1 (hb 0 h)),I.hM 0 b9];exact h0
      have l1:=(ql.1 g1).1;simp[go_sem,I.e11,I.e14,g1,w1,Own.one ab,Own.cells ab]
      try refine⟨bw,aM ?_⟩
      try refine aM ?_
      refine⟨by simp[go_sem,I.e2],by simp[go_sem,I.e3],by simp[go_sem,I.e5],by simp[go_sem,I.e6],by simp[go_sem,I.e10],by simp[go_sem,I.e11],by simp[go_sem,I.e12],zS1 J,zSi,?_,?_,bc,?_,?_,fun b h=>zW1 (az b h)⟩
      .simp only[qK]
       rw[zGl];exact g0
      .simp only[qK]
       rcases ha with h|⟨b,h,hc⟩
       .exact .inl h
       .have eh:b<a2.length:=Own.lt aa (by rw[h];rfl)
        refine .inr ⟨b,h,?_⟩;rw[zGl,ah b zOm zOm (fun h=>zW1 (hb b h)),I.hM b zOm];exact hc
      .simp only[qK]
       exact qJ l1
      .rw [List.range_succ,zi,zi]
       simpa[go_sem] using Own.set ab (.arr [t,aI N,bc,aI L]) (fun h=>zW1 (az _ h))
 .have ai:k=N:=by omega
  subst ai;have cr:∀ c,(U.mu.set 0 c)[0]?=some c:=fun c=>qJ b9
  simp[go_sem,hS,e6,b7,b8,au,h0,hm,Own.one ho,Own.cells ho,Own.one aa,Own.cells aa,cr];have dv:=Own.set ho (i:=0) (.arr [t,aI k,s,aI L]) (fun h=>zW1 (hb 0 h));have dw:=Own.set ha (i:=0) (.arr [t,aI k,s,aI L]) br;show Rd _ _ (.agg [lI sc.sC,aI sc.sN,lSt ((qu k).map A),aI L]);rw[hS];refine Rd.aggs ⟨?_,.hf _ (HF.sc _),?_,.hf _ (HF.sc _),trivial⟩
  .exact Own.rd dw (jD _).ok fun r hr c hc=>by
    obtain⟨x,_,rfl⟩:=qp.1 hr;simp at hc;subst hc;exact HF.sc _
  .exact Own.rd dv (fun r hr=>by
    obtain⟨n,_,rfl⟩:=qp.1 hr;rfl) fun r hr c hc=>by
    obtain⟨n,_,rfl⟩:=qp.1 hr;simp at hc;subst hc;exact nu n
end OQ
namespace I4
end I4
namespace KW
open P1 E3 GX KT
variable {x:Mo} {N:Nat}
theorem qtB{ts m}(V:MdV ts m):ArM ⟨ts,m⟩ m.sK.length:=fun s g i j l=>by
 have e:m.sK.getD s []=m.sK[s]:=by simp[zH,qy g]
 simp only[e]at j⊢;exact(V.ar _ (qv g) i j l).1
end KW
set_option maxHeartbeats 1000000
namespace OT
open Y1 P1 E3 GQ GS GX OK KX IC
structure MadeF (ts:TS) (sc:Sc) (bs:List Bd) (N:Nat) (m:Md):Prop where
 hN:sc.sN=N
 h1:1<=N
 h4:N<=4
 B:Betw sc (vsT ts) bs N m
 V:MdV ts m
theorem qtC{ts sc bs n}(F:F10 ts sc bs n)(j lp):MadeF ts sc bs sc.sN.toNat (mdM sc (vsT ts) bs j lp):=by
 have g:=F.sz.1;simp only[u5,qD,decide_eq_true_eq]at g;have i:sc.sN=(sc.sN.toNat:Int):=zOm;have B:=qpR F.bnd i zOm (vsT ts) j lp;exact⟨i,zOm,zOm,B,qpS F.fit9 F.sz.1 F.bnd i B⟩
end OT
set_option maxHeartbeats 1000000
namespace OV
end OV
set_option maxHeartbeats 1000000
namespace OU
open Y1 Y9 P1 YF E4 EO EP F4 GF GR KA O0 O8 KB KC KE Q3 EQ ER F6 O4 O6 O9 G5 OF OM OH LA
def rV(sc:Sc)(p:dC×Int):List AV:=[aS p.1,aI 1,.lst true [],aI 1,lI (yR sc [p.2])]
theorem px(sc)(l:List (dC×Int)):qV 5 (l.map (rV sc)):=fun r g=>by
 obtain⟨n,_,rfl⟩:=qp.1 g;exact⟨rfl,rfl⟩
variable {ts:TS} {sc:Sc} {bs:List Bd}
theorem qfX(C:NwC ts sc)(P:∀ a,a∈sc.sC->1<=a)(hb:BdS ts (sumI sc.sC) bs){n}(o:Small n)(env:List (dC×Int))(ak:env.length<=1000)(hE:∀ p,p∈env->0<=p.2/\p.2<sc.sC.length){X e}(hT:qj qg 36 [eTS ts,lPm env,eNd n] (.tup [X,aI e])){A}(hA:∀ nm a,A nm=some a->okI (sumI sc.sC) a (zG ⟨ts,sc,bs⟩ (env.map (varB sc)) nm))(ht:e=0->wZ n=false->∃ a,ArN A n a) :
  qj qg 10 [eTS ts,eSc sc,lBd bs,lPm env,eNd n] (outU e (wZ n) (ivl ⟨ts,sc,bs⟩ (env.map (varB sc)) n)):=by
 unfold outU;refine qSQ call10 func10 rfl { mt:=[58] } ?_;simp[go_sem];refine t8 hT (.zk (zB ts) (.zk (j5 _) (.zk (qE n) .nil))) ?_;by_cases he:e=0
 .subst he
  simp[go_sem];refine t8 (qfT _ n (qn _) o) (.zk (qE n) .nil) ?_;cases hc:wZ n with
  |true =>
   simp[go_sem];exact qfU _ _
  |false =>
   obtain⟨a,ha⟩:=ht rfl hc;have cI:=qfK (C.nm hb) (env.map (varB sc)) zSo hA ha;generalize hX:ivl ⟨ts,sc,bs⟩ (env.map (varB sc)) n=Y at *
   simp[go_sem];refine fR env.length (fun k U=>U.tm 2=lBd bs/\U.tm 5 = .ip (cTS ts)/\U.tm 6 = .ip [lI sc.sC,aI sc.sN]/\U.tm 9 = .ip (cNd n)/\U.tm 10 = .ptr 0 0/\U.tm 32=lPm env/\U.tm 33=aI env.length/\U.tm 34=aI k/\U.mu[0]?=some (.arr cZ4)/\Own U.mu 5 (U.tm 14) ((env.take k).map (rV sc))/\∀ b,qq (U.tm 14)=some b->1<=b) ?_ ?_
   .exact ⟨zSi,zSi,zSi,zSi,zSi,zSi,zSi,zSi,zSi,.inl zSi,by simp[go_sem,qq]⟩
   rintro k U hk ⟨e2,e5,e6,e9,i,T,t,I,hm,ho,a0⟩;by_cases l:k<env.length
   .have w1:=zWk k
    have hp:=hE _ (qv l);have a4:=(ql.1 hm).1;have a5:0<sumI sc.sC:=by
     have a6:sc.sC≠[]:=fun q=>by rw[q]at hp;simp at hp;omega
     have:=Vj a6 P;omega
    have hg:=C.W.s.g;have a1:=EW.UL sc hg (fun a ha=>zW1 (P a ha)) [env[k].2] (fun s o=>by simp at o;subst o;exact hp) zSp zSp;rw[K0 sc hg a5 [env[k].2] zSp (fun s o=>by simp at o;subst o;exact hp)]at a1;have a7:env.take (k+1)=env.take k++[env[k]]:=ya l;generalize a8:env[k]=pp at *
    simp[go_sem,T,t,I,l,a8];refine tJ zKr ?_;simp[go_sem,e6];have hx:=i;refine fW a1 (.zk (zD _) (.cons (WK.ints [pp.2]) .nil)) ?_;refine qx.ownB (e:=102) (sz:=5) (bt:=80) (zv := .agg [aS ⟨#[]⟩,aI 0,.lst true [],aI 0,.lst true []]) (xs:=(env.take k).map (rV sc)) (ys:=[rV sc pp]) zSi zSi zSi rfl rfl zOm zOm (Own.push ho _) (by simp[qA,rV]) (px sc _) (px sc [_]) zSo ?_;intro al R J a9 aa an;have ab:R[0]?=some (.arr cZ4):=by rw[a9 0 zSp (fun h=>zW1 (a0 0 h)),qL a4];exact hm
    simp[go_sem,t,I,l,w1,Own.one J,Own.cells J];refine⟨e2,e5,e6,e9,i,T,ab,?_,fun b h=>by have:=aa b h;simp at this;omega⟩;rw[<-List.map_take,a7,zi];exact J
   .have ad:k=env.length:=by omega
    subst ad;rw[za]at ho;simp[go_sem,t,I];have hz:∀ c,(cutM (fun j=>!decide (1<=j)) U.mu 0)[0]?=c->c=some (.arr cZ4):=fun c h=>by rw[<-h,jA,hm];simp
    have a2:(cutM (fun j=>!decide (1<=j)) U.mu 0)[0]?=some (.arr cZ4):=hz _ rfl;have ae:Rd (cutM (fun j=>decide (1<=j)) U.mu 0) (U.tm 14) (.lst false (env.map fun p=>cVb (varB sc p))):=cZ (f:=rV sc) (g:=fun p=>cVb (varB sc p)) (KS ho a0) (px sc env).ok (fun r hr=>by obtain⟨p,_,rfl⟩:=qp.1 hr;rfl) fun p _=>⟨.hf _ (HF.sc _),.hf _ (HF.sc _),.wk _ true _ (.hf _ (HF.lst fun r hr=>by simp at hr)),.hf _ (HF.sc _),.hf _ (zy _),trivial⟩
    refine cM (d:=14) (L:=1) (x := .lst false (env.map fun p=>cVb (varB sc p))) (zVs ae) ?_;have af:(env.map fun p=>cVb (varB sc p))=(env.map (varB sc)).map cVb:=by rw[List.map_map];rfl
    rw[af];simp only[qK];generalize cutM (fun j=>!decide (1<=j)) U.mu 0=R at a2;generalize env.map (varB sc)=VB at *
    simp[go_sem];refine fG [0,1,2,3,4,5,6,7] [(4,1,[0,1]),(6,1,[])] zKr zKr zSi ?_;simp[go_sem,e2,e5,e6,e9,i];refine t8 (YP sc C.W.s.g) (.zk (zD _) .nil) ?_;simp[go_sem,e2,e5,e6,e9,i];have ag:NsR (R++[.arr (cNs ts sc (lBd bs) (sumI sc.sC) false)]) R.length ts sc bs false (lBd bs):=⟨zSp,.inl rfl⟩;have a3:=cI _ _ false (lBd bs) false ag;rw[hX]at a3;refine qi.mem a3 fun m1 ah=>?_
    have ai:=ah 0 _ (zx a2 _);obtain⟨aj,rfl⟩:=nI ai;simp[go_sem,i];exact OF.Rd.tups ⟨.hf _ (yD Y),.hf _ (HF.sc _),trivial⟩
 .simp [go_sem,he]
  exact qfU _ _
end OU
set_option maxHeartbeats 1000000
namespace OW
open Y1 P1 YF E3 E4 EA EO EP F4 GF GR O0 O8 Y2 KC EQ ER EW G5 KH OF OM LA KT KH
def pr2(k a:Int):Int:=(a.tmod k+k).tmod k
def parN(ts:TS)(l:List (dC×Int)):List (dC×Int):=if ts.sS.length=0 then [] else (l.take 3).map fun p=>(p.1,pr2 ts.sS.length p.2)
theorem qfY{a k:Int}(g:0<k) : -k<a.tmod k/\a.tmod k<k:=by
 have i:=Int.tmod_lt_of_pos a g;have j:=Int.lt_tmod_of_pos a g;exact⟨j,i⟩
theorem qtD{a k:Int}(g:0<k):0<=(a.tmod k+k).tmod k/\(a.tmod k+k).tmod k<k:=by
 obtain⟨i,j⟩:=qfY (a:=a) g;rw[vJ zOm];exact⟨Int.emod_nonneg _ zOm,Int.emod_lt_of_pos _ g⟩
theorem qtE(ts l):(parN ts l).length<=3/\∀ p,p∈parN ts l->0<=p.2/\p.2<(ts.sS.length:Int):=by
 unfold parN;split
 .simp
 .rename_i h
  refine⟨zSo,fun p g=>?_⟩;obtain⟨q,_,rfl⟩:=qp.1 g;exact qtD (a:=q.2) (k:=ts.sS.length) zOm
theorem qfZ{mu av l}(h:Own mu 2 av (l.map cPm)):Rd mu av (lPm l):=Own.rd h (F5.Qr l).ok fun r g c i=>by
 obtain⟨q,_,rfl⟩:=qp.1 g;exact ZV q c i
theorem qtF(ts)(hl:ts.sS.length<=1000)(l):qj qg 9 [eTS ts,lPm l] (lPm (parN ts l)):=by
 refine qSV call9 func9 rfl ?_;generalize hR:parN ts l=R;simp[go_sem];by_cases T:ts.sS.length=0
 .have a0:R=[]:=by rw[<-hR];unfold parN;rw[if_pos T]
  subst a0;refine aP 0 (fun k U=>U.tm 1=lPm l/\U.tm 2 = .ip (cTS ts)/\U.tm 5 = .lst true []/\U.tm 6=aI 0) ?_ ?_
  .simp [go_sem]
  rintro k U hk ⟨i,o,e5,t⟩;by_cases h0:0<l.length<;>simp[go_sem,i,o,e5,t,T,h0]
  all_goals exact .wk _ true _ (.hf _ (HF.lst fun r hr=>by simp at hr))
 .have a1:0<ts.sS.length:=by omega
  have J:R=(l.take 3).map fun p=>(p.1,pr2 ts.sS.length p.2):=by rw[<-hR];unfold parN;rw[if_neg T]
  have a6:R.length=min 3 l.length:=by rw[J];simp
  refine aP R.length (fun k U=>U.tm 1=lPm l/\U.tm 2 = .ip (cTS ts)/\U.tm 6=aI k/\Own U.mu 2 (U.tm 5) ((R.take k).map cPm)) ?_ ?_
  .exact ⟨zSi,zSi,zSi,.inl zSi⟩
  rintro k U hk ⟨i,o,t,ho⟩;by_cases P:k<R.length
  .have w1:=zWk k
   have g:k<l.length:=zOm;have C:(k:Int)<3:=zOm;have a2:R.take (k+1)=R.take k++[R[k]]:=ya P;have a3:R[k]=(l[k].1,pr2 ts.sS.length l[k].2):=zP1 J;obtain⟨h1,h2⟩:=qfY (a:=l[k].2) (k:=ts.sS.length) zOm;have wp:qo.wrap (l[k].2.tmod ts.sS.length)=l[k].2.tmod ts.sS.length:=zWr;have wq:qo.wrap (l[k].2.tmod ts.sS.length+ts.sS.length)=l[k].2.tmod ts.sS.length+ts.sS.length:=zWr;generalize a4:l[k]=pk at *
   simp[go_sem,i,o,t,g,C,a1];refine tJ zKr ?_;simp[go_sem,i,o,t,g,T,a4,wp,wq];refine qx.ownB (e:=54) (sz:=2) (bt:=24) (zv := .agg [aS ⟨#[]⟩,aI 0]) (xs:=(R.take k).map cPm) (ys:=[cPm R[k]]) zSi zSi zSi rfl rfl zOm zOm ho (by rw[a3];simp[qA,pr2]) (F5.Qr _) (F5.Qr [_]) zSo ?_;intro a7 a8 I a9 aa ab;simp[go_sem,t,P,w1,Own.one I,Own.cells I];refine aM ⟨zS1 i,zS1 o,zSi,?_⟩;rw[a2,zi];simpa[go_sem] using I
  .have a5:k=R.length:=by omega
   subst a5;rw[za]at ho;by_cases g:R.length<l.length
   .have C:¬(R.length:Int)<3:=by omega
    simp[go_sem,i,o,t,g,C];exact qfZ ho
   .simp [go_sem,i,o,t,g]
    exact qfZ ho
abbrev Zl:=List (dC×Int×Int)
abbrev ez(z:dC×Int×Int):dC×Int:=(z.1,z.2.1)
abbrev ea(z:dC×Int×Int):dC×Int:=(z.1,z.2.2)
def zN(sc:Sc)(at0:Int)(env:List (dC×Int)):Zl:=env.mapIdx fun i p=>(p.1,p.2,sumI (sc.sC.take p.2.toNat)+(at0+i) % gI sc.sC p.2.toNat)
theorem zN_ez(sc at0 env):(zN sc at0 env).map ez=env:=by
 refine List.ext_getElem (by simp[zN]) fun i g j=>by simp[zN]
def ZOk(sc:Sc)(zs:Zl):Prop:=∀ z,z∈zs->∃ s j:Nat,z.2.1=s/\s<sc.sC.length/\z.2.2=sumI (sc.sC.take s)+j/\(j:Int)<gI sc.sC s
theorem zN_ok{sc}(j:∀ a,a∈sc.sC->1<=a){at0 env}(l:∀ p,p∈env->0<=p.2/\p.2<sc.sC.length):ZOk sc (zN sc at0 env):=fun z o=>by
 obtain⟨i,t,rfl⟩:=uA.1 o;have C:i<env.length:=by simpa[zN] using t
 have J:=l _ (qv C);have e:(zN sc at0 env)[i]=(env[i].1,env[i].2,sumI (sc.sC.take env[i].2.toNat)+(at0+i) % gI sc.sC env[i].2.toNat):=by simp[zN]
 rw[e];have g:env[i].2.toNat<sc.sC.length:=zOm;have I:=j _ (qv g);rw[<-ji g]at I;have a:=Int.emod_nonneg (at0+i) (b:=gI sc.sC env[i].2.toNat) zOm;have b:=Int.emod_lt_of_pos (at0+i) (b:=gI sc.sC env[i].2.toNat) zOm;exact⟨env[i].2.toNat,((at0+i) % gI sc.sC env[i].2.toNat).toNat,by show env[i].2=_;omega,g,by show _+_=_;omega,zOm⟩
theorem qf0(nm):∀(zs:Zl)(s:Scp)(r),((zK nm s=[]/\r=none)\/∃ v t a,zK nm s=v :: t/\v.2.ar=1/\r=some a) ->
  (zK nm ((zs.map ez).foldl (fun s p=>(p.1,kOf [p.2]) :: s) s)=[]/\(zs.map ea).foldl (fun r e=>if e.1=nm then some e.2 else r) r=none)\/∃ v t a,zK nm ((zs.map ez).foldl (fun s p=>(p.1,kOf [p.2]) :: s) s)=v :: t/\v.2.ar=1/\(zs.map ea).foldl (fun r e=>if e.1=nm then some e.2 else r) r=some a
 | [],s,r,h=>h
 |z :: zs,s,r,h=>by
  rw[zf,zf,List.foldl_cons,List.foldl_cons];refine qf0 nm zs _ _ ?_;by_cases g:z.1=nm
  .exact .inr ⟨(z.1,kOf [z.2.1]),s,z.2.2,by simp[zK,g],rfl,zP1 g⟩
  .simpa [zK,g] using h
theorem qtG(zs:Zl):EnvR (zO (zs.map ez)) (zs.map ea):=fun nm=>qf0 nm zs [] none (.inl ⟨rfl,rfl⟩)
theorem qf1(sc nm)(g:Zl):∀(zs:Zl)(r q),(∀ z,z∈zs->z∈g)->((r=none/\q=none)\/∃ z,z∈g/\r=some (varB sc (ez z)).2/\q=some z.2.2) ->
  (((zs.map ez).map (varB sc)).foldl (fun r e=>if e.1=nm then some e.2 else r) r=none/\(zs.map ea).foldl (fun r e=>if e.1=nm then some e.2 else r) q=none)\/∃ z,z∈g/\((zs.map ez).map (varB sc)).foldl (fun r e=>if e.1=nm then some e.2 else r) r=some (varB sc (ez z)).2/\(zs.map ea).foldl (fun r e=>if e.1=nm then some e.2 else r) q=some z.2.2
 | [],r,q,_,h=>h
 |z :: zs,r,q,j,h=>by
  rw[zf,zf,zf,List.foldl_cons,List.foldl_cons];refine qf1 sc nm g zs _ _ (fun x l=>j x (q9 _ l)) ?_;by_cases i:z.1=nm
  .exact .inr ⟨z,j z (zo ..),by simp[varB,i],zP1 i⟩
  .simpa [varB,i] using h
theorem qtH{sc}(g:GSc sc)(C:∀ a,a∈sc.sC->1<=a){zs}(I:ZOk sc zs):EnvV ((zs.map ez).map (varB sc)) (zs.map ea):=fun nm=>by
 rcases qf1 sc nm zs zs none none (fun _ h=>h) (.inl ⟨rfl,rfl⟩) with h|⟨z,J,a,b⟩
 .exact .inl h
 .refine .inr ⟨_,_,a,b,rfl,(fun t i=>by exact absurd i qO),fun t i=>?_⟩
  obtain⟨s,j,P,o,R,U⟩:=I z J;have l:sc.sC≠[]:=fun q=>by rw[q]at o;simp at o
  have T:=Vj l C;simp only[qX]at i;subst i;show _∈yR sc [z.2.1];rw[<-K0 sc g zOm [z.2.1] zSp (fun x p=>by simp at p;subst p;omega),P,tupR,List.mem_flatMap];refine⟨j,List.mem_range.2 (by rw[Int.toNat_natCast];omega),?_⟩;simp[tupR,R]
theorem ea_in{x N}(g:OkM x N)(p:x.ts.sS.length=x.m.sc.sC.length){zs}(i:ZOk x.m.sc zs):∀ e,e∈zs.map ea->0<=e.2/\e.2<x.n:=fun e l=>by
 obtain⟨z,o,rfl⟩:=qp.1 l;obtain⟨s,j,t,C,I,J⟩:=i z o;obtain⟨a,b,c⟩:=g.at0 s zOm;show 0<=z.2.2/\z.2.2<_;omega
end OW
set_option maxHeartbeats 1000000
namespace OY
open Y1 YF GF O0 KE Q4 OM OH OU YW OM
theorem up7V:qj qg 10 [eTS tsN,eSc scN,lBd bsN,lPm [],eNd q7] (.tup [eBd ⟨rF,rF⟩,aI 0]):=by
 have g:=ux (val (q:=q7) zSp);have i:=qaZ tsN F0.S.h F0.S.wp q7 g [] ⟨zSp,zSp⟩;have j:(uY tsN [] q7).2=0:=zKr;rw[j]at i;have l:wZ q7=false:=zKr;have h:=qfX F0.nwc (fun a o=>by simp[scN]at o;omega) F0.bds g.small [] zSp (fun p t=>absurd t qO) i (A:=arT tsN) (F0.nwc.W.nm F0.bds) (fun _ _=>⟨1,.alike (.inl rfl) rfl (.name rfl zKr) (.name rfl zKr)⟩);rw[l,List.map_nil,v7]at h;exact h
theorem headV:qj qg 6 [] (aB true):=
 headN up7V ⟨GP.defB tsN scN,zKr,ON.qs9 tsN scN F0.fit9⟩
end OY
set_option maxHeartbeats 1000000
namespace W74
open Y1 Y9 P1 P2 PA YF E1 E3 E4 EA EO EP F1 F4 GF GR KA O0 O8 Y10 E9 KB KC Y14 Q1 Q2 Q3 Q4 F2 FB FD EQ F6 GS KH KV OF OK KX OM OQ IC KW OT OH OU KT KH YW OW
structure InI (ts:TS) (sc:Sc) (n:Nd) (m:Md) (env:List (dC×Int)) (Y:Bd) (sv av:Int) (pe:List (dC×Int)) (k:Nat) (st:St):Prop where
 e6:st.tm 6 = .sc (.int .u8 sv)
 e7:st.tm 7 = .sc (.int .u8 av)
 e8:st.tm 8 = .ip (cTS ts)
 e9:st.tm 9 = .ip [lI sc.sC,aI sc.sN]
 e11:st.tm 11 = .ip (cNd n)
 e17:st.tm 17=aB true
 e18:st.tm 18=lPm env
 e19:st.tm 19 = .ptr 0 0
 e21:st.tm 21 = .ptr 1 0
 e23:st.tm 23=aI k
 m0:st.mu[0]?=some (.arr (cBd Y))
 m1:st.mu[1]?=some (.arr (cMd m))
 ho:Own st.mu 2 (st.tm 22) ((pe.take k).map cPm)
 hb:∀ b,qq (st.tm 22)=some b->2<=b
theorem qtI(ts)(hs:∀ x,x∈ts.sS->x.1.size<=4611686018427387904)(sc bs n T pk i av)(ad:0<=i/\i<=255)(bu:0<=av/\av<=255)(hH:qj qg 6 [] (aB true)) :
  qj qg 3 [eTS ts,eSc sc,lBd bs,eNd n,lPm T,lB pk,.sc (.int .u8 i),.sc (.int .u8 av)] (aB true):=by
 refine qSU call3 func3 rfl ?_;refine fW hH .nil ?_;have wf:∀(b:List Bd)(q:Nd),WKs [eTS ts,eSc sc,lBd b,eNd q] [eTS ts,eSc sc,lBd b,eNd q]:=fun b q => .zk (zB ts) (.zk (zD sc) (.zk (wG b) (.zk (qE q) .nil)))
 refine t8 (Kl ts hs sc bs n) (wf bs n) ?_;cases hf:f10 ts sc bs n with
 |false =>
  simp[go_sem];exact .zsc _
 |true =>
 have F:=qsZ hs hf;have hw:=ux F.hn;simp[go_sem];refine t8 (qa0 n.op) (.zs .nil) ?_;by_cases hk:kd n.op=101
 case neg =>
  simp[go_sem,hk];exact .zsc _
 simp[go_sem,hk];have bv:=F.P.so;refine t8 (qtF ts zOm T) (.zk (zB ts) (.zk (j5 T) .nil)) ?_;obtain⟨bw,ae⟩:=qtE ts T;generalize parN ts T=env at *
 have ca:=F.sz.2;have hE:∀ p,p∈env->0<=p.2/\p.2<sc.sC.length:=fun p hp=>zW1 (ae p hp)
 have a1:∀ a,a∈sc.sC->1<=a:=fun a ha=>by
  have h:=F.so;simp only[jI,qD,decide_eq_true_eq,qY]at h;exact(h.1.2 a ha).1
 have af:Qs ts.sS.length env:=⟨zOm,ae⟩;have b4:=qaZ ts F.S.h F.S.wp n hw env af;have a2:=uD F.S.h (qn ts.sT.length);have a3:=Vh af;have hA:∀ nm a,arS (mkCk ts ts.sT.length) (zO env) nm=some a->okI (sumI sc.sC) a (zG ⟨ts,sc,bs⟩ (env.map (varB sc)) nm):=qnX F.nws.s F.bds.b rfl;have ag:(uY ts env n).2=0->∃ k,exam (mkCk ts ts.sT.length) (zO env) false n = .ok (some k):=fun h=>by
  unfold uY at h;split at h
  .cases h
  .split at h
   .rename_i d hd
    have:=YW.Qw _ _ n _ _ d (qn _) hd;exact absurd h this
   .rename_i k he;exact⟨k,he⟩
   .rename_i he
    obtain⟨k,ah,_⟩:=jH a2 (szN n) n (zO env) false none (qn _) hw a3 he hk;cases ah
 have hu:=qfX F.nwc a1 F.bds hw.small env zOm hE b4 hA fun e0 _=>by
  obtain⟨k,he⟩:=ag e0;exact⟨_,Jc a2 _ n _ _ k (qn _) hw a3 he hk⟩
 simp[go_sem];refine t8 hu (.zk (zB ts) (.zk (zD sc) (.zk (wG bs) (.zk (j5 env) (.zk (qE n) .nil))))) ?_;unfold outU;by_cases he:(uY ts env n).2=0
 case neg =>
  simp[go_sem,he];exact .zsc _
 rw[if_neg (zP1 he)];cases b5:wZ n with
 |true =>
  simp[go_sem];exact .zsc _
 |false =>
 obtain⟨ko,ai⟩:=ag he;have aj:=Jc a2 _ n _ _ ko (qn _) hw a3 ai hk;have hI:=UW (σ:=⟨ts,sc,bs⟩) F.nws.s.n0 hA aj;generalize hY:ivl ⟨ts,sc,bs⟩ (env.map (varB sc)) n=Y at *
 have b6:cBd Y=[aI Y.lo.ar,lI Y.lo.ts,aI Y.up.ar,lI Y.up.ts]:=rfl;simp[go_sem];have b7:0<=i.tdiv 4/\i.tdiv 4<=255:=by
  rw[Int.tdiv_eq_ediv_of_nonneg ad.1];omega
 have wq:IntKind.u8.wrap (i.tdiv 4)=i.tdiv 4:=by
  simp only[IntKind.wrap,IntKind.bits,IntKind.signed,Bool.false_and];rw[if_neg Bool.false_ne_true];omega
 rw[wq];have cm:=qtA F pk (i.tdiv 4) b7;have M:=qtC F pk (i.tdiv 4);generalize i.tdiv 4=lq at *
 generalize mdM sc (vsT ts) bs pk lq=m at cm M;generalize sc.sN.toNat=N at M;have b8:=M.B.ns;have h1:=M.h1;have h4:=M.h4;have a0:=M.hN;have o:=qpP F.S.h M.V;have X:=qpN M.V;have ak:=qtB M.V;rw[b8]at X ak o;have b9:=qpT (ts:=ts) M.B;have J:(⟨ts,m⟩:Mo).m.sc=sc:=M.B.sc;have en:(⟨ts,m⟩:Mo).n=sumI sc.sC:=by show sumI m.sc.sC=_;rw[M.B.sc]
 have al:(i % (N:Int)).toNat<N:=by
  have a:=Int.emod_nonneg i (b:=(N:Int)) zOm;have b:=Int.emod_lt_of_pos i (b:=(N:Int)) zOm;omega
 have a6:i % (N:Int)=(((i % (N:Int)).toNat:Nat):Int):=by
  have a:=Int.emod_nonneg i (b:=(N:Int)) zOm;omega
 have an:i.tmod (N:Int)=i % (N:Int):=vJ ad.1;generalize (i % (N:Int)).toNat=s0 at al a6;have hz:=zN_ok a1 (at0:=av) hE;have bb:=zN_ez sc av env;have bc:(zN sc av env).length=env.length:=by simp[zN]
 have be:∀(k:Nat)(h:k<env.length)(h2:k<(zN sc av env).length),(zN sc av env)[k]=(env[k].1,env[k].2,sumI (sc.sC.take env[k].2.toNat)+(av+k) % gI sc.sC env[k].2.toNat):=fun k h h2=>by simp[zN]
 have eR:=qtG (zN sc av env);have eV:=qtH F.nws.s.g a1 hz;have eI:=ea_in o.toOkM (by show ts.sS.length=m.sc.sC.length;rw[M.B.sc];omega) (zs:=zN sc av env) (by show ZOk m.sc _;rw[M.B.sc];exact hz);rw[bb]at eR eV;generalize ao:(zN sc av env).map ea=pe at *
 have cb:pe.length=env.length:=by rw[<-ao];simp[bc]
 have bg:∀(k:Nat)(h:k<env.length)(h2:k<pe.length),pe[k]=(env[k].1,sumI (sc.sC.take env[k].2.toNat)+(av+k) % gI sc.sC env[k].2.toNat):=fun k h h2=>by
  subst ao;rw[Yd,be k h zOm]
 have hp:OkP ⟨ts,m⟩ N ⟨s0,pe⟩:=⟨al,eI⟩;have dn:=qa9 F.hn;have cx:=exprP ⟨ts,m⟩ N n hw o ⟨s0,pe⟩ hp (by show pe.length+dN n<=_;omega);obtain⟨r,kr,a7,bh,aq⟩:=(qdS o.toOkM ak a2 rfl _ n _ false _ ⟨s0,pe⟩ (qn _) hw b5 a3 hp eR ai).1 hk;cases bh;rw[a7,show outE (.ok r) = .tup [eRel r,aI 0] from rfl]at cx;have vi:=qpJ o.toOkM (by rw[J];exact F.nws.s) (bs:=bs) (by show bs.length=ts.sA.length;exact F.bnd.len) b9 (env:=env.map (varB sc)) (A:=arS (mkCk ts ts.sT.length) (zO env)) (by intro nm a ha;rw[en];unfold nsOf;rw[J];exact hA nm a ha) aj hw ⟨s0,pe⟩ r hp eV a7;unfold nsOf at vi;rw[J]at vi;rw[hY]at vi;obtain⟨va,vl,vu⟩:=vi;refine fW cm (.zk (zB ts) (.zk (zD sc) (.zk (wG bs) (.zk (EO.UE pk) (.zs .nil))))) ?_;refine fR env.length (fun k U=>InI ts sc n m env Y i av pe k U) ?_ ?_
 .exact ⟨zSi,zSi,zSi,zSi,zSi,zSi,zSi,zSi,zSi,zSi,zSi,zSi,.inl zSi,by simp[go_sem,qq]⟩
 rintro k U ah I;by_cases t:k<env.length
 .have w1:=zWk k
  have bi:=hE _ (qv t);have a5:=bg k t zOm;have bj:pe.take (k+1)=pe.take k++[pe[k]]:=ya zOm;have a8:=fun j:Nat=>F.nws.s.g.sum j
  have hg:=F.nws.s.g;generalize a9:env[k]=pp at *
  obtain⟨s,aa⟩:=Int.eq_ofNat_of_zero_le bi.1;have a4:s<sc.sC.length:=zOm;have bk:pp.2.toNat=s:=zOm;simp[go_sem,I.e18,I.e23,t];refine aP s (fun j st2=>InI ts sc n m env Y i av pe k st2/\st2.tm 24=aI (sumI (sc.sC.take j))/\st2.tm 25=aI j) ?_ ?_
  .exact ⟨⟨by simp[go_sem,I.e6],by simp[go_sem,I.e7],by simp[go_sem,I.e8],by simp[go_sem,I.e9],by simp[go_sem,I.e11],by simp[go_sem,I.e17],by simp[go_sem,I.e18],by simp[go_sem,I.e19],by simp[go_sem,I.e21],by simp[go_sem,I.e23],by simp only[qK];exact I.m0,by simp only[qK];exact I.m1,by simpa[go_sem] using I.ho,by simpa[go_sem] using I.hb⟩,by simp[go_sem,sumI],zSi⟩
  clear I U;rintro j U hj ⟨I,au,aw⟩;by_cases ax:j<s
  .have w2:=zWk j
   have ay:j<sc.sC.length:=zOm;have bl:sumI (sc.sC.take (j+1))=sumI (sc.sC.take j)+sc.sC[j]:=by rw[ya ay,Xm];simp[sumI]
   have g1:=a8 j;have g2:=a8 (j+1);have w3:qo.wrap (sumI (sc.sC.take j)+sc.sC[j])=sumI (sc.sC.take (j+1)):=by rw[<-bl];exact zWr
   simp[go_sem,I.e9,I.e18,I.e23,au,aw,t,a9,aa,ax,ay,w2,w3]
   try refine⟨ax,aM ?_⟩
   try refine aM ?_
   exact⟨⟨by simp[go_sem,I.e6],by simp[go_sem,I.e7],by simp[go_sem,I.e8],by simp[go_sem,I.e9],by simp[go_sem,I.e11],by simp[go_sem,I.e17],by simp[go_sem,I.e18],by simp[go_sem,I.e19],by simp[go_sem,I.e21],by simp[go_sem,I.e23],by simp only[qK];exact I.m0,by simp only[qK];exact I.m1,by simpa[go_sem] using I.ho,by simpa[go_sem] using I.hb⟩,zSi,zSi⟩
  .have bm:j=s:=by omega
   subst bm;simp[go_sem,I.e18,I.e23,aw,t,a9,aa];refine tJ zKr ?_;have cc:=a1 _ (qv a4);have cd:=(hg.2 _ (qv a4)).2;have g1:=a8 j;rw[bk,ji a4]at a5;generalize bn:sc.sC[j]=C at *
   have wa:qo.wrap av=av:=zWr;have wb:qo.wrap (av+k)=av+k:=zWr;have bo:(av+(k:Int)).tmod C=(av+k) % C:=vJ zOm;have cf:=Int.emod_nonneg (av+(k:Int)) (b:=C) zOm;have cg:=Int.emod_lt_of_pos (av+(k:Int)) (b:=C) zOm;have at0:¬C=0:=zOm;have wc:qo.wrap (sumI (sc.sC.take j)+(av+k) % C)=sumI (sc.sC.take j)+(av+k) % C:=zWr;simp[go_sem,I.e7,I.e9,I.e18,I.e23,au,t,a9,aa,a4,bn,wa,wb,bo,at0,wc];refine qx.ownB (e:=56) (sz:=2) (bt:=24) (zv := .agg [aS ⟨#[]⟩,aI 0]) (xs:=(pe.take k).map cPm) (ys:=[cPm pe[k]]) zSi zSi zSi rfl rfl zOm zOm I.ho (by rw[a5];simp[qA]) (F5.Qr _) (F5.Qr [_]) zSo ?_;intro ch R ab az bq cj;have l0:=(ql.1 I.m0).1;have l1:=(ql.1 I.m1).1;have n0:R[0]?=some (.arr (cBd Y)):=by rw[az 0 l0 (fun h=>zW1 (I.hb 0 h))];exact I.m0
   have n1:R[1]?=some (.arr (cMd m)):=by rw[az 1 l1 (fun h=>zW1 (I.hb 1 h))];exact I.m1
   simp[go_sem,I.e23,w1,t,Own.one ab,Own.cells ab]
   try refine⟨t,aM ?_⟩
   try refine aM ?_
   refine⟨by simp[go_sem,I.e6],by simp[go_sem,I.e7],by simp[go_sem,I.e8],by simp[go_sem,I.e9],by simp[go_sem,I.e11],by simp[go_sem,I.e17],by simp[go_sem,I.e18],by simp[go_sem,I.e19],by simp[go_sem,I.e21],zSi,by simp only[qK];exact n0,by simp only[qK];exact n1,?_,fun b h=>zW1 (bq b (zVs h))⟩;rw[bj,zi];simpa[go_sem] using ab
 .have br:k=env.length:=by omega
  subst br;simp[go_sem,I.e18,I.e23];have ho:=I.ho;rw[List.take_of_length_le zOm]at ho;refine FzQ.ownB (d:=22) (av:=U.tm 22) (xs:=pe.map cPm) zSi ho (F5.Qr _) (fun r hr c hc=>by obtain⟨q,_,rfl⟩:=qp.1 hr;exact ZV q c hc) fun R full ck b0=>?_
  have m0:R[0]?=some (.arr (cBd Y)):=by rw[b0 0 (fun h=>zW1 (I.hb 0 h))];exact I.m0
  have m1:R[1]?=some (.arr (cMd m)):=by rw[b0 1 (fun h=>zW1 (I.hb 1 h))];exact I.m1
  rw[b6]at m0;rw[show cMd m=[lI m.sc.sC,aI m.sc.sN,lSt m.sK,aI m.loop] from rfl]at m1;simp[go_sem];refine fG [0,1,2,3,4,5,6,7,8,9,10,11,12,15,13,14] [(9,1,[]),(13,2,[0,1,5,8]),(14,1,[])] zKr zKr zSi ?_;have b1:¬N=0:=zOm;have wl:qo.wrap i=i:=zWr;have wx:∀ full,WKs [eTS ts,eMd m,aI s0,.lst full (pe.map cPm),eNd n] [eTS ts,eMd m,aI s0,lPm pe,eNd n]:=fun full => .zk (zB ts) (.zk (Vf m) (.zs (.cons (WK.lst fun r hr c hc=>by obtain⟨q,_,rfl⟩:=qp.1 hr;exact ZV q c hc) (.zk (qE n) .nil))))
  have cl:=(ql.1 m1).1;have cn:=hI.lo.len (by exact F.nws.s.n0) (by have:=F.nws.h12;show sumI sc.sC<=20;omega);have cp:=hI.up.len (by exact F.nws.s.n0) (by have:=F.nws.h12;show sumI sc.sC<=20;omega);have b2:=YO o.toOkM _ n (qn _) hw _ r hp a7;have rl:=b2.len o.n0 (zW1 o.n12);have i1:=in06 Y.lo r zOm zOm b2.srt;have i2:=in06 r Y.up zOm zOm hI.up.srt;rw[show inOk Y.lo r=true by simp only[inOk,qY,decide_eq_true_eq];exact vl]at i1;rw[show inOk r Y.up=true by simp only[inOk,qY,decide_eq_true_eq];exact vu]at i2;have q1:r.ar=Y.lo.ar:=by rw[aq,hI.la]
  have q2:r.ar=Y.up.ar:=by rw[aq,hI.ua]
  simp[go_sem,I.e6,I.e8,I.e9,I.e11,I.e21,m1,a0,b1,wl,an,a6];refine t8 cx (wx _) ?_;have p0:=fun l=>zx m0 l
  have p1:=fun l=>zx m1 l
  have b3:∀(l:List Cell)(h:0<(R++l).length),(R++l)[0] = .arr [aI Y.lo.ar,lI Y.lo.ts,aI Y.up.ar,lI Y.up.ts]:=fun l h=>by
   have:=p0 l;rw[qy h]at this;exact Option.some.inj this
  have d1:decide (r.ar=Y.lo.ar)=true:=decide_eq_true q1;have d2:decide (r.ar=Y.up.ar)=true:=decide_eq_true q2;simp[go_sem,I.e6,I.e8,I.e9,I.e11,I.e17,I.e19,I.e21,p0,p1,b3,a0,b1,wl,an,a6,d1,d2];refine t8 i1 (.zk (qr _) (.zk (qr _) .nil)) ?_;simp[go_sem,I.e19,p0,b3];refine fW i2 (.zk (qr _) (.zk (qr _) .nil)) ?_;exact .zsc _
theorem qtJ(ts)(p:∀ x,x∈ts.sS->x.1.size<=4611686018427387904)(sc bs n g o i)(j:0<=i/\i<=255)(av)(l:0<=av/\av<=255) :
  qj qg 3 [eTS ts,eSc sc,lBd bs,eNd n,lPm g,lB o,.sc (.int .u8 i),.sc (.int .u8 av)] (aB true):=qtI ts p sc bs n g o i av j l OY.headV
end W74
namespace DL
open Go.EvW Go.RowKit Go.ChangeShapes Go.WideShapes
theorem own:ownKnob qg.godebug=none:=by kernel_rfl
theorem laid:laidOutB qg=true:=by kernel_rfl
abbrev tabL : List (String × DataW Unit) := [("math/bits.deBruijn32tab", Rows.laid_math_bits_deBruijn32tab), ("math/bits.deBruijn64tab", Rows.laid_math_bits_deBruijn64tab), ("internal/strconv.uint64pow10", Rows.laid_internal_strconv_uint64pow10)]
def pows:List Int:=[1,10,100,1000,10000,100000,1000000,10000000,100000000,1000000000,10000000000,100000000000,1000000000000,10000000000000,100000000000000,1000000000000000,10000000000000000,100000000000000000,1000000000000000000,10000000000000000000]
theorem gPow : qg.globalNamed "internal/strconv.uint64pow10" = some 0 := by kernel_rfl
theorem tPow:(qg.globals[0]?).map (·.type)=some 367:=by kernel_rfl
theorem uPow:qg.underlying 367=some (.array 20 302):=by kernel_rfl
theorem uU64:qg.underlying 302=some (.int .u64):=by kernel_rfl
theorem qtK{W}(h:laidMetH qg tabL W):ZF (·<W.heap.size) W.heap:=by
  rw[MakeChecks.laidMetH_plain _ _ _ zKr]at h;obtain⟨ps,I,_⟩:=h
  obtain ⟨g, t, l, o, p, J, R, T, U⟩ := qc2 I ("internal/strconv.uint64pow10", Rows.laid_internal_strconv_uint64pow10) zSp
  obtain rfl:=Option.some.inj (gPow.symm.trans J);obtain rfl:=Option.some.inj (tPow.symm.trans R);have hc:l.toList=pows.map fun i => .int .u64 i:=qoS uPow uU64 zKr zKr (ns:=pows) U
  obtain⟨e,fr,C⟩:=qoT gPow T;intro x j;have j:x∈[(0,pows.map fun i=>Value.int .u64 i)]:=j;rw[qX]at j;subst j;refine⟨(Array.getElem?_eq_some_iff.1 C).1,e,fr,?_⟩;show W.heap[0]?=_;rw[C];have:l=(pows.map fun i=>Value.int .u64 i).toArray:=by rw[<-hc]
  rw[this]
theorem qtL(os args):laidMetH qg tabL ((World.doorLaid qg 4000 os).forCall (fun _ _=>0) ⟨#[],args,[]⟩).memory:=
 laidMetH_of_parts3 (fuel:=8) (laidMet_of_run' 8 zKr zKr) zKr zKr
end DL
namespace DM
open Go.EvW E3 DT
instance:Inhabited Rl:=⟨⟨0,[]⟩⟩
instance:Inhabited Sc:=⟨⟨[],0⟩⟩
instance:Inhabited Md:=⟨⟨default,[],0⟩⟩
theorem qf2(N):ShU qg N 42 cRel (fun _=>True):=
 ((ShU.struct (fs:=[(3,0),(28,1)]) zKr (.cons' (o':=1) zKr (Z8 N) (.cons' (o':=2) zKr (kc N) (.nil 2))) zKr).map
  (fun x=>(⟨x.1,x.2.1⟩:Rl)) (fun _=>rfl) (fun x h=>trivial)).le zOm
theorem qtM(N):ShU qg N 30 (fun s:Sc=>[lI s.sC,aI s.sN]) (fun _=>True):=
 ((ShU.struct (fs:=[(28,0),(3,1)]) zKr (.cons' (o':=1) zKr (kc N) (.cons' (o':=2) zKr (Z8 N) (.nil 2))) zKr).map
  (fun x=>(⟨x.1,x.2.1⟩:Sc)) (fun _=>rfl) (fun x h=>trivial)).le zOm
end DM
namespace HX
open Go.EvW DM GB
instance:Inhabited Bd:=⟨⟨default,default⟩⟩
instance:Inhabited Ed:=⟨⟨0,0,0,0⟩⟩
theorem qf3:qg.underlying 31=some (.slice 44):=by kernel_rfl
theorem qtN(N):ShU qg N 44 cBd (fun _=>True):=
 ((ShU.struct (fs:=[(42,0),(42,2)]) zKr (.cons' (o':=2) zKr (qf2 N) (.cons' (o':=4) zKr (qf2 N) (.nil 4))) zKr).map
  (fun x=>(⟨x.1,x.2.1⟩:Bd)) (fun _=>rfl) (fun x h=>trivial)).le zOm
theorem qtO(N):ShU qg N 31 (fun b:List Bd=>[lBd b]) (fun _=>True):=
 ((ShU.slice qf3 (qtN N) (fun _ _=>zKr) (Nat.lt_of_lt_of_eq (show 0<4 by omega) zKr) zKr).le zOm).map (fun l=>l) (fun _=>rfl) fun _ _=>trivial
theorem qtP:jk qg 31 lBd (fun _=>True):=jk.slice qf3 qtO
end HX
namespace DP
open Go.EvW DM
theorem qtQ:jk qg 30 (fun s:Sc=>eSc s) (fun _=>True):=jk.struct zKr qtM
end DP
namespace DR
open Go.EvW EO DT
theorem unBl:qg.underlying 36=some (.slice 4):=by kernel_rfl
theorem shBl(N):ShU qg N 36 (fun l:List Bool=>[lB l]) (fun _=>True):=
 ((ShU.slice unBl (K9 N) (fun _ _=>zKr) (Nat.lt_of_lt_of_eq Nat.zero_lt_one zKr) zKr).le zOm).map (fun l=>l) (fun _=>rfl) fun _ _=>trivial
theorem aBl:jk qg 36 (fun l:List Bool=>lB l) (fun _=>True):=jk.slice unBl shBl
end DR
end Go.Proofs.YthflbhjlkgdafaaGreatDoor
