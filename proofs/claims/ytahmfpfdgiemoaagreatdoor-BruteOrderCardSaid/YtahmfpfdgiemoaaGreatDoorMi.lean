/-
  Own library, part 9: an abstract reading of values and a calculus over it; contracts of functions; plain lemmas.
-/
import Derived.Test.YtahmfpfdgiemoaaGreatDoorRows
import Derived.LaidMore
import Derived.MakeChecks
import Derived.WalkKit
import Derived.JoinedCond
import Derived.Test.YtahmfpfdgiemoaaGreatDoorMh
set_option linter.unusedVariables false
set_option linter.unusedSimpArgs false
set_option maxRecDepth 100000
set_option maxHeartbeats 1000000
open Go renaming World->qd,Value->qe,Program->qb,TypeId->qc,undef->zw
open Go.Proofs.Tryz renaming prog->qg
open List renaming getElem?_eq_some_iff->qm,mem_map->qo,getElem_mem->qs,range->qv,getElem?_eq_getElem->qy,getElem?_set_self->qL,not_mem_nil->qN,length_append->q8,map_append->za,getD_eq_getElem?_getD->zH,getElem?_set_ne->yb,cons_append->yH
open Go.IntKind renaming i64->qq
open Bool renaming and_eq_true->qK
namespace Go.Proofs.YtahmfpfdgiemoaaGreatDoor
open Go Go.Ev Go.Proofs Tryz
namespace IJ
open YF P1 E3 EO EQ F4 GB GP GR GS
theorem anyB(ts:TS)(sc:Sc)(F:Fit9 ts sc)(D:List Bd)(bv:D.length=ts.sA.length)(hd:∀ b,b∈D->UH b)(o:List (List Bool))(lp:Int)(b6:0<=lp/\lp<=255) :
  qj qg 10 [eTS ts,eSc sc,lBd D,lBB o,.sc (.int .u8 lp)] (eMd (anyM sc (vsT ts) D o (lp % sc.sN))):=by
 have bw:=F.nf;have s1:=F.s1;have s4:=F.s4;generalize hS:sc.sN=S at *
 obtain⟨N,rfl⟩:=Int.eq_ofNat_of_zero_le (show 0<=S by omega);refine qSU call10 func10 rfl ?_;refine cJ zKr ?_;have n1:¬(N:Int)<1:=zOm;have n0:¬(N:Int)=0:=zOm;have b7:¬N=0:=zOm;have wl:qq.wrap lp=lp:=zWr;have tm:lp.tmod (N:Int)=lp % (N:Int):=Int.tmod_eq_emod_of_nonneg b6.1;simp[go_sem,hS,n1,b7,wl,tm];generalize hL:lp % (N:Int)=L at *
 have b8:anyM sc (vsT ts) D o L=⟨sc,(qv N).map (anyS (vsT ts) D o),L⟩:=by rw[anyM,hS];rfl
 rw[b8];generalize hA:anyS (vsT ts) D o=A at *
 refine kM N (fun k U=>U.tm 3=lBB o/\U.tm 5 = .ip (cTS ts)/\U.tm 6 = .ip [lI sc.sC,aI sc.sN]/\U.tm 10 = .ptr 0 0/\U.tm 11 = .ptr 1 0/\U.tm 2=lBd D/\U.tm 12=aI k /\
  ∃ s,U.mu[0]?=some (.arr [.lst true [],aI 0,.lst true [],aI 0])/\U.mu[1]?=some (.arr [lI sc.sC,aI N,s,aI L])/\Own U.mu 1 s (((qv k).map A).map fun r=>[lRel r])/\∀ b,qp s=some b->2<=b) ?_ ?_
 .exact ⟨zSi,zSi,zS1 hS,zSi,zSi,zSi,zSi,.lst true [],zSi,zSi,.inl zSp,by simp[qp]⟩
 rintro k U hk ⟨e2,e4,e5,e8,e9,b9,aa,s,h0,h1,ho,hb⟩;have ab:=(qm.1 h0).1;have ai:=(qm.1 h1).1;by_cases aj:k<N
 .have w1:=zWk k
  have n4:(k:Int)<4:=zOm;have a8:=fun fl:Bool=>qlY fl D (o.getD k []) U.mu zOm hd
  have ca:=Yu D (o.getD k []);have br:=Yu D (o.getD 0 []);have bb:A 0=yM D (o.getD 0 []):=by rw[<-hA,anyS,if_pos rfl]
  have bc:k≠0->A k=fixS (vsT ts) (A 0) (yM D (o.getD k [])) D.length:=fun h=>by rw[bb,<-hA,ql2 _ _ _ _ h]
  have ak:k=0->A k=yM D (o.getD k []):=fun h=>by grind
  generalize cb:yM D (o.getD k [])=R at *
  have bs:(A 0).length=D.length:=by grind
  simp[go_sem,hS,e2,e5,aa,aj,n4];by_cases ad:k<o.length
  all_goals simp[go_sem,e2,b9,aa,ad]
  all_goals first
   | (rw[show lB o[k] = .lst false ((o.getD k []).map rB) by rw[zH,qy ad];rfl];refine fQ (a8 false) ?_ (by grind))
   | (have hi:=a8 true;rw[show (o.getD k []).map rB=[] by grind]at hi;refine fQ hi ?_ (by grind))
  all_goals
   rintro r m ⟨t,h,cc,cd,al,cf,be⟩;cases h;simp[go_sem,ad];refine kM D.length (fun j st2=>st2.tm 3=lBB o/\st2.tm 5 = .ip (cTS ts)/\st2.tm 6 = .ip [lI sc.sC,aI N]/\st2.tm 10 = .ptr 0 0/\st2.tm 11 = .ptr 1 0/\st2.tm 2=lBd D/\st2.tm 12=aI k/\st2.tm 14=r/\st2.tm 15=aI j /\
    Own st2.mu 2 r ((if k=0 then R else fixS (vsT ts) (A 0) R j).map cRel)/\∀ i,i<m.length->qp r≠some i->st2.mu[i]?=m[i]?) ?_ ?_
   .simp_all [go_sem,qlZ]
   rintro j st2 hj ⟨f2,f4,f5,f8,f9,f10,f11,f13,f14,a0,ae⟩;have J:∀ i,i<U.mu.length->st2.mu[i]?=U.mu[i]?:=fun i hi=>by grind
   have a2:(if k=0 then R else fixS (vsT ts) (A 0) R j).length=D.length:=by grind [ql0]
   have an:k≠0->j<D.length->(if k=0 then R else fixS (vsT ts) (A 0) R (j+1))=if (vsT ts).getD j true=false then (if k=0 then R else fixS (vsT ts) (A 0) R j).set j ((A 0).getD j noR) else (if k=0 then R else fixS (vsT ts) (A 0) R j):=fun h1 h2=>by simp_all[if_neg,ql1]
   have bg:¬(j<D.length/\k≠0)->(if k=0 then R else fixS (vsT ts) (A 0) R j)=A k:=fun h=>by
    by_cases h0:k=0
    .rw [if_pos h0,ak h0]
    .rw [if_neg h0,bc h0,show j=D.length by omega]
   generalize hW:(if k=0 then R else fixS (vsT ts) (A 0) R j)=W at *
   simp[go_sem,f13,f14];refine tS (aI D.length) (by rcases a0 with h|⟨b,h,_⟩<;>rw[h]<;>simp[a2]) ?_;by_cases a3:j<D.length/\k≠0
   .obtain ⟨C,ao⟩:=a3
    have aq:(vsT ts).getD j true=ts.sA[j].var:=by grind
    have w2:=zWk j;have P:st2.mu[1]?=some (.arr [lI sc.sC,aI N,s,aI L]):=by grind
    simp[go_sem,f4,f11,f14,C,show 0<k by omega,show j<ts.sA.length by omega];cases hv:ts.sA[j].var with
    |true =>
     simp[go_sem,f14,C,w2]
     try refine⟨C,aK ?_⟩
     try refine aK ?_
     refine⟨zS1 f2,zS1 f4,zS1 f5,zS1 f8,zS1 f9,zS1 f10,zS1 f11,zS1 f13,zSi,?_,zVs ae⟩;rw[an ao C,aq,hv,if_neg zSp];simp[go_sem, *]
    |false =>
     obtain⟨b,T⟩:=be zOm;have a1:r = .sl b 2 0 W.length/\st2.mu[b]?=some (.arr (W.map cRel).flatten):=by
      rcases a0 with h|⟨b',h,hc⟩
      .rw [h]at T;cases T
      .rw [h]at T;cases T
       exact⟨by rw[h];simp,hc⟩
     obtain⟨a1,a7⟩:=a1;have bh:=(qm.1 a7).1;have cg:=al b T;have af:(W.map cRel).flatten.length=W.length*2:=by rw[yP (vF W).ok];simp
     have bu:=Own.put (av:=r) (xs:=W.map cRel) (by rw[a1];simp) a7 (vF W).ok (i:=j) (r:=cRel ((A 0).getD j noR)) rfl zSo;have a4:j<(A 0).length:=zOm;have bi:(A 0).getD j noR=(A 0)[j]:=by rw[zH,qy a4];rfl
     have I:(((qv k).map A).map fun r=>[lRel r]).flatten[0]?=some (lRel (A 0)):=by
      obtain⟨k',rfl⟩:∃ k',k=k'+1:=⟨k-1,zOm⟩;rw[List.range_succ_eq_map];simp
     have au:(((qv k).map A).map fun r=>[lRel r]).length=k:=zSp;generalize a5:(((qv k).map A).map fun r=>[lRel r])=rows at *
     have bj:rows[0]?=some [lRel (A 0)]:=by
      rw[<-a5];obtain⟨k',rfl⟩:∃ k',k=k'+1:=⟨k-1,zOm⟩;simp
     have aw:(rows.map List.length).sum=k:=by
      have:=yP (sz:=1) (xs:=rows) (by rw[<-a5];intro r hr;obtain⟨n,_,rfl⟩:=qo.1 hr;rfl);rw[List.length_flatten]at this;omega
     have ax:rows.flatten.take 1=[lRel (A 0)]:=by
      cases ay:rows.flatten with
      |nil=>rw[ay]at I;cases I
      |cons x l=>rw[ay]at I;cases I;rfl
     have az:(W.map cRel).flatten.take (j*2)++aI (A 0)[j].ar :: lI (A 0)[j].ts :: (W.map cRel).flatten.drop (j*2+2)=((W.set j (A 0)[j]).map cRel).flatten:=by
      rw[List.map_set,Jk (W.map cRel) j _ (vF W).ok rfl zSo,je _ _ _ (by simp only[af,cRel,List.length_cons,List.length_nil];omega)];simp
     have a6:Own (st2.mu.set b (.arr ((W.set j (A 0)[j]).map cRel).flatten)) 2 r ((W.set j (A 0)[j]).map cRel) := .inr ⟨b,by rw[a1];simp,qL bh⟩;have ag:=an ao C;rw[aq,hv,if_pos rfl,bi]at ag;rcases ho with rfl|⟨c,rfl,b0⟩
     .simp [go_sem,f9,f13,f14,P,a1,a2]
      refine tS (.ip [lRel (A 0)]) (by rw[bj];simp[au];omega) ?_;simp[go_sem,f14,C,a7,af,a2,a4];refine tS (st2.mu.set b (.arr ((W.set j (A 0)[j]).map cRel).flatten)) (by rw[if_pos zOm,az]) ?_;simp[go_sem,f14,C,w2]
      try refine⟨C,aK ?_⟩
      try refine aK ?_
      refine⟨zS1 f2,zS1 f4,zS1 f5,zS1 f8,zS1 f9,zS1 f10,zS1 f11,zS1 f13,zSi,by rw[ag];simpa[go_sem] using a6,fun i hi hn=>?_⟩;simp only[qE];rw[yb (fun e=>hn (by rw[<-e];exact T))];exact ae i hi hn
     .have bk:=(qm.1 b0).1
      have a9:=J c bk;rw[b0]at a9;simp[go_sem,f9,f13,f14,P,a9,au,show 0<k by omega,a1,a2];refine tS (lRel (A 0)) (by rw[aw,if_pos zOm,ax];rfl) ?_;simp[go_sem,f14,C,a7,af,a2,a4];refine tS (st2.mu.set b (.arr ((W.set j (A 0)[j]).map cRel).flatten)) (by rw[if_pos zOm,az]) ?_;simp[go_sem,f14,C,w2]
      try refine⟨C,aK ?_⟩
      try refine aK ?_
      refine⟨zS1 f2,zS1 f4,zS1 f5,zS1 f8,zS1 f9,zS1 f10,zS1 f11,zS1 f13,zSi,by rw[ag];simpa[go_sem] using a6,fun i hi hn=>?_⟩;simp only[qE];rw[yb (fun e=>hn (by rw[<-e];exact T))];exact ae i hi hn
   .have bm:j<D.length->¬ 0<k:=fun h=>by omega
    rw[bg a3]at a0;have P:st2.mu[1]?=some (.arr [lI sc.sC,aI N,s,aI L]):=by rw[J 1 ai];exact h1
    by_cases C:j<D.length<;>simp[go_sem,f9,f11,f13,C,bm,P,Own.one a0,Own.cells a0]
    all_goals
     refine aQ (e:=87) (sz:=1) (bt:=24) (zv := .lst true []) (xs:=((qv k).map A).map fun r=>[lRel r]) [lRel (A k)] U.mu.length zSi zSi zSi rfl rfl zOm zOm ?_ (fun b h=>Own.lt ho h) ?_ ?_ ?_ zSo ?_
     .rcases ho with h|⟨b,h,hc⟩
      .exact .inl h
      .exact .inr ⟨b,h,by rw[J b (qm.1 hc).1];exact hc⟩
     .exact ⟨Own.rd (Yz a0 al) (vF _).ok fun r hr c hc=>by
       obtain⟨n,_,rfl⟩:=qo.1 hr;exact ZE n c hc,trivial⟩
     .intro r hr
      obtain⟨n,_,rfl⟩:=qo.1 hr;exact⟨rfl,rfl⟩
     .intro r hr
      simp at hr;subst hr;exact⟨rfl,rfl⟩
     intro b1 b2 ah b3 b4 ch cj;have ck:U.mu.length<=st2.mu.length:=by
      have:=J (U.mu.length-1) zOm;rw[qy (show U.mu.length-1<U.mu.length by omega)]at this;have:=(qm.1 this).1;omega
     have g1:b2[1]?=some (.arr [lI sc.sC,aI N,s,aI L]):=by rw[b3 1 zOm ai (fun h=>zW1 (hb 1 h))];exact P
     have g0:b2[0]?=some (.arr [.lst true [],aI 0,.lst true [],aI 0]):=by rw[b3 0 zOm ab (fun h=>zW1 (hb 0 h)),J 0 ab];exact h0
     have l1:=(qm.1 g1).1;simp[go_sem,f9,f11,g1,w1,Own.one ah,Own.cells ah]
     try refine⟨aj,aK ?_⟩
     try refine aK ?_
     refine⟨zS1 f2,zS1 f4,zS2 f5 hS,zS1 f8,zS1 f9,zS1 f10,zSi,b1,zS1 g0,zS1 l1,?_,fun b h=>zW1 (b4 b h)⟩;rw[List.range_succ,za,za];simpa[go_sem] using Own.set ah (.arr [lI sc.sC,aI N,b1,aI L]) (fun h=>zW1 (b4 1 h))
 .have bn:k=N:=by omega
  subst bn;have bo:s.one=true:=Own.one ho;have cl:s.cells=[s]:=Own.cells ho;have b5:∀ c,(U.mu.set 0 c)[0]?=some c:=fun c=>qL ab
  simp[go_sem,hS,e5,e8,e9,aa,h0,h1,bo,b5];have bq:=Own.set ho (i:=0) (.arr [lI sc.sC,aI k,s,aI L]) (fun h=>zW1 (hb 0 h));show Rd _ _ (.agg [lI sc.sC,aI sc.sN,lSt ((qv k).map A),aI L]);rw[hS];refine Rd.aggs ⟨.hf _ (zm _),.hf _ (HF.sc _),?_,.hf _ (HF.sc _),trivial⟩;exact Own.rd bq (fun r hr=>by
   obtain⟨n,_,rfl⟩:=qo.1 hr;rfl) fun r hr c hc=>by
   obtain⟨n,_,rfl⟩:=qo.1 hr;simp at hc;subst hc;exact W9 n
end IJ
set_option maxHeartbeats 1000000
namespace I5
open Y1 Y16 YF P1 Q4 Q8 E1 E3 E4 E9 F1 GD G5 GF GP GQ GR GS GU GV GW HE HH IB IF IJ IK I1 I2 W41
theorem qeH(raw:List (List Int)):HF (lRaw raw):=HF.lst fun r i c g=>by
 obtain⟨l,_,rfl⟩:=qo.1 i;simp at g;subst g;exact HF.lst fun r i c g=>by
  obtain⟨x,_,rfl⟩:=qo.1 i;simp at g;subst g;exact HF.sc _
def tiny(m:Md):Prop:=SmS m.sK/\m.sc.sC.length<=1000
theorem eq07(a b:Md)(h:tiny a):qj qg 12 [eMd a,eMd b] (aB (decide (a=b))):=
 qr6 a b (zW1 h.2) (zW1 h.1.n) fun s g=>⟨zW1 (h.1.f s g),fun r i=>zW1 ((h.1.t s g r i).1)⟩
theorem Qr(mu:Mu):Rd mu (.tup [.lst true [],.agg [.lst true [],aI 0,.lst true [],aI 0],aB false]) (.tup [lBd [],eMd mdZ,aB false]):=by
 refine .tup _ _ rfl fun j u v g i=>?_
 match j with
 | 0=>simp at g i;subst g;subst i;exact .wk _ true _ (.hf _ (HF.lst fun r l=>by simp at l))
 | 1=>grind [qm3]
 | 2=>simp at g i;subst g;subst i;exact .zsc _
 |j+3=>simp at g
theorem qsK(b:List Bd)(m:Md):HF (.tup [lBd b,eMd m,aB true]):=HF.tup (by simp only[List.mem_cons,qN,or_false,forall_eq_or_imp,forall_eq];grind [yR,zt,HF.sc])
abbrev tupM(ts:TS)(sc:Sc)(raw:List (List Int))(g:List (List Bool))(lp:Int)(ok:Bool):AV:=if ok=true then .tup [lBd (yj ts sc raw),eMd (anyM sc (vsT ts) (defB ts sc) g (lp % sc.sN)),aB true] else .tup [lBd [],eMd mdZ,aB false]
def ok25(ts:TS)(sc:Sc)(raw:List (List Int))(n:Nd):Bool:=yY ts&&(jC ts sc&&(decide (sumI sc.sC<=5)&&(zj n&&(decide (jB ts=[])&&(decide (yE ts [] n=(0,0))&&(kB ts (sumI sc.sC) sc.sN n&&(decide ((chs (vsT ts) (qB (yj ts sc raw) 0) sc.sN.toNat).length<=8))))))))
theorem qeI{ts:TS}(g:bigT ts){sc:Sc}{raw:List (List Int)}{n:Nd}(h:ok25 ts sc raw n=true):Cx ts sc (yj ts sc raw) sc.sN.toNat/\zj n=true/\(yE ts [] n).1=0:=by
 simp only[ok25,qK,decide_eq_true_eq]at h;obtain⟨i,j,l,o,p,r,I,J⟩:=h;have F:=ZR j;have t:=F.s1;have C:jd sc=true:=by
  simp_all[jC,qK]
 refine⟨⟨kA i g,p,F,C,l,qeD ts sc raw fun f hf=>Uz _ _ _,zOm,?_⟩,o,by rw[r]⟩;omega
theorem qsL(ts:TS)(hs:bigT ts)(sc:Sc)(raw:List (List Int))(hr:∀ l,l∈raw->∀ x,x∈l->0<=x/\x<=255)(n:Nd)(J:List (List Bool))(lp:Int)(a3:0<=lp/\lp<=255) :
  qj qg 9 [.agg (uu ts sc raw n J lp)] (tupM ts sc raw J lp (ok25 ts sc raw n)):=by
 generalize p:ok25 ts sc raw n=R;have C:=fun h=>qeI (ts:=ts) hs (sc:=sc) (raw:=raw) (n:=n) h
 unfold ok25 at p C;obtain⟨op,o,i,ks,q⟩:=n;have a4:uu ts sc raw (.mk op o i ks q) J lp=[.lst false (ts.sS.map Q0),.lst false (ts.sA.map vU),lPd ts.sT,lFa ts.sP,lI sc.sC,aI sc.sN,lRaw raw,aI op,aS o,aI i,.lst false (ks.map cNd),aI q,lBB J,u8 lp]:=by unfold uu;rw[yI];rfl
 have a5:eNd (.mk op o i ks q) = .agg [aI op,aS o,aI i,.lst false (ks.map cNd),aI q]:=by rw[eNd,yI];rfl
 rw[a4];generalize hn:Nd.mk op o i ks q=n at *
 have wn:WK (.agg [aI op,aS o,aI i,.lst false (ks.map cNd),aI q]) (eNd n):=by rw[<-a5];exact .hf (qO n)
 have t:WK (.agg [.lst false (ts.sS.map Q0),.lst false (ts.sA.map vU),lPd ts.sT,lFa ts.sP]) (eTS ts) := .hf (zo ts);have I:WK (.agg [lI sc.sC,aI sc.sN]) (eSc sc) := .hf (zF sc);refine qSU call9 func9 rfl ?_;refine fM ?_;refine tT (qk5 ts) (.cons t .nil) ?_;cases h1:yY ts with
 |false =>
  rw[h1]at p;replace p:false=R:=p;subst p;simp[go_sem];exact Qr _
 |true =>
 have S:=kA h1 hs;rw[h1,Bool.true_and]at p C;simp[go_sem];refine tT (qlD ts sc) (.cons t (.cons I .nil)) ?_;cases h2:jC ts sc with
 |false =>
  rw[h2]at p;replace p:false=R:=p;subst p;simp[go_sem];exact Qr _
 |true =>
 have F:=ZR h2;rw[h2,Bool.true_and]at p C;simp[go_sem];refine tT (nQ sc F.g) (.cons I .nil) ?_;by_cases h3:sumI sc.sC<=5
 case neg =>
  have T:5<sumI sc.sC:=zOm;rw[decide_eq_false h3]at p;replace p:false=R:=p;subst p;simp[go_sem,T];exact Qr _
 have T:¬ 5<sumI sc.sC:=zOm;rw[decide_eq_true h3,Bool.true_and]at p C;simp[go_sem,T];refine tT (X3 n) (.cons wn .nil) ?_;cases h4:zj n with
 |false =>
  rw[h4]at p;replace p:false=R:=p;subst p;simp[go_sem];exact Qr _
 |true =>
 rw[h4,Bool.true_and]at p C;simp[go_sem];refine tT S.chk (.cons t .nil) ?_;by_cases h5:jB ts=[]
 case neg =>
  have U:0<(jB ts).length:=List.length_pos_iff.2 h5;rw[decide_eq_false h5]at p;replace p:false=R:=p;subst p;simp[go_sem,U];exact Qr _
 have U:(jB ts).length=0:=by rw[h5];rfl
 rw[decide_eq_true h5,Bool.true_and]at p C;simp[go_sem,U];refine tT (S.chkF h4) (.cons t (.cons (WK.lst fun r hr=>absurd hr qN) (.cons wn .nil))) ?_;by_cases h6:yE ts [] n=(0,0)
 case neg =>
  rw[decide_eq_false h6]at p;replace p:false=R:=p;subst p;generalize yE ts [] n=D at *
  obtain⟨d1,d2⟩:=D;by_cases g1:d1=0
  .have g2:¬d2=0:=fun e=>h6 (by rw[g1,e])
   simp[go_sem,g1,g2];exact Qr _
  .simp [go_sem,g1]
   exact Qr _
 rw[decide_eq_true h6,Bool.true_and]at p C;rw[h6];simp[go_sem];have a1:=F.g.sum sc.sC.length;rw[List.take_length]at a1;have a7:=F.s1;have a8:=F.s4;refine fR (nQ sc F.g) (.cons I .nil) ?_;refine tT (qrJ S h5 (sumI sc.sC) sc.sN zOm zOm h4) (.cons t (.zs (.zs (.cons wn .nil)))) ?_;cases h7:kB ts (sumI sc.sC) sc.sN n with
 |false =>
  rw[h7]at p;replace p:false=R:=p;subst p;simp[go_sem];exact Qr _
 |true =>
 rw[h7,Bool.true_and]at p C;simp[go_sem];have hB:=qeD ts sc raw fun f hf=>Uz _ _ _
 have a9:(yj ts sc raw).length=ts.sA.length:=Qq ts sc raw;have aa:=F.nf;have a2:∀ x,x∈yj ts sc raw->x.up.ts.length<=1000/\x.lo.ts.length<=1000/\sorted x.lo.ts:=fun x C=>by
  obtain⟨j,hj,rfl⟩:=List.getElem_of_mem C;have h2:j<ts.sA.length:=zOm;have h:=qeF F h3 (qs h2);obtain⟨s1,s2⟩:=hB.so _ C;have h4:=YL s2 (hB.full j hj h2);have h5:=YL s1 (hB.sub _ C);exact⟨zOm,zOm,s1⟩
 have a0:∀ x,x∈yj ts sc raw->Qk x:=fun x C=>by
  obtain⟨a,b,c⟩:=a2 x C;exact⟨zOm,zOm,c.imp fun h=>zOm⟩
 have a6:(qB (yj ts sc raw) 0).length<=100000:=by
  have:=kI 1000 (yj ts sc raw) 0 fun x C=>(a2 x C).1
  omega
 have cM:=qsJ ts sc F raw hr;have cC:=qsD ts sc (yj ts sc raw) sc.sN.toNat zOm zOm zOm a0 zOm a6;refine fR cM (.cons t (.cons I (.zk (qeH raw) .nil))) ?_;refine tT cC (.cons t (.cons I (.zk (yR _) .nil))) ?_;by_cases h8:(chs (vsT ts) (qB (yj ts sc raw) 0) sc.sN.toNat).length<=8
 case neg =>
  have P:(8:Int)<(chs (vsT ts) (qB (yj ts sc raw) 0) sc.sN.toNat).length:=zOm;rw[decide_eq_false h8]at p;subst p
  try simp only[q8,Int.natCast_add]at P
  simp[go_sem,P];exact Qr _
 have P:¬(8:Int)<(chs (vsT ts) (qB (yj ts sc raw) 0) sc.sN.toNat).length:=zOm;rw[decide_eq_true h8]at p;subst p
 try simp only[q8,Int.natCast_add]at P
 simp[go_sem,P];refine fM ?_;refine fR (X8 ts sc F) (.cons t (.cons I .nil)) ?_;refine fR (anyB ts sc F (defB ts sc) (by simp[defB]) (fun b hb=>(mW F h3 b hb).2.2) J lp a3) (.cons t (.cons I (.zk (yR _) (.zk (J2 _) (.zs .nil))))) ?_;exact .hf _ (qsK _ _)
end I5
namespace IM
open P1 G5 GP GR GW
variable {ts:TS} {sc:Sc} {b:List Bd} {N:Nat}
theorem qeJ(F:Fit9 ts sc):BndV ts sc (defB ts sc):=by
 refine⟨by simp[defB],fun i h l=>?_,fun x g=>?_,fun x g t j=>?_,fun i h l t j=>?_⟩
 .simp [defB]
 .obtain ⟨f,hf,rfl⟩:=qo.1 g
  exact⟨List.Pairwise.nil,Uz _ _ _⟩
 .obtain ⟨f,hf,rfl⟩:=qo.1 g
  exact absurd j qN
 grind [defB]
end IM
namespace IG
open E3 F1 GB GD GF GU HB HC
def rowB(g:List (Int×Int))(m:Md)(s:Nat):List Bool:=g.map fun p=>bit m ((s:Int),p.1,p.2)
def wN(g:List (Int×Int))(m:Md)(k n:Nat):List Bool:=(List.range' k n).flatMap (rowB g m)
theorem qeK(g:List (Int×Int))(N:Nat)(m:Md):wN g m 0 N=Z0 g N m:=by
 simp only[wN,Z0,posF,List.range_eq_range',List.map_flatMap];congr 1;funext s;simp[rowB]
theorem qeL(g:List (Int×Int))(m:Md)(k n:Nat):wN g m k (n+1)=rowB g m k++wN g m (k+1) n:=by
 simp[wN,List.range'_succ]
theorem qeM(g:List (Int×Int))(m:Md)(s j:Nat)(h:j<g.length):(rowB g m s).drop j=bit m ((s:Int),g[j].1,g[j].2) :: (rowB g m s).drop (j+1):=by
 grind [List.drop_eq_getElem_cons,rowB]
theorem qeN(m:Md)(s f:Nat)(t:Int)(g:s<m.sK.length)(hf:f<m.sK[s].length):bit m ((s:Int),(f:Int),t)=decide (t∈m.sK[s][f].ts):=by
 have e:(m.sK.getD s []).getD f noR=m.sK[s][f]:=by
  rw[zH (l:=m.sK),qy g];show (m.sK[s]).getD f noR=_;rw[zH,qy hf];rfl
 simp only[bit,Int.toNat_natCast,e]
structure LsM (n N:Nat) (m:Md):Prop where
 ns:m.sK.length=N
 len:∀ s,s∈m.sK->s.length=n
 so:∀ s,s∈m.sK->∀ r,r∈s->r.ts.length<=1000000000/\r.ts.Pairwise (·<·)
theorem qeO(m:Md)(s f:Nat)(t:Int)(g:s<m.sK.length)(hf:f<m.sK[s].length)(i:m.sK[s][f].ts.length<=1000000000)(j:m.sK[s][f].ts.Pairwise (·<·)):qj qg 33 [eMd m,aI s,.agg [aI f,aI t]] (aB (decide (t∈m.sK[s][f].ts))):=by
 have l:=binU m.sK[s][f].ts t i (j.imp fun h=>zOm);refine qSU call33 func33 rfl ?_;refine cJ zKr ?_;simp[go_sem,g,hf];refine fR l (.zk (zm _) (.zs .nil)) ?_;exact .zsc _
theorem qeP(g:List Bd)(a c:Md)(N:Nat)(ga:LsM g.length N a)(gc:LsM g.length N c)(hl:g.length<=1000)(hb:∀ x,x∈g->Qk x)(hN:N<=1000):qj qg 11 [lBd g,eMd a,eMd c] (aB (yp (qB g 0) N a c)):=by
 have t:=qaC g hl hb;have C:=J7 g 0;have a0:=J5 g 0 hb;have a7:(qB g 0).length<=1000000000:=Nat.le_trans a0 zOm;generalize hF:qB g 0=F at *
 generalize hR:yp F N a c=R;unfold yp at hR;refine qSV call11 func11 rfl ?_;by_cases i:a.loop=c.loop
 case neg =>
  rw[if_neg i]at hR;subst hR;simp[go_sem,i];exact .zsc _
 rw[if_pos i,<-qeK,<-qeK]at hR;have na:=ga.ns;have nc:=gc.ns;simp[go_sem,i];refine fR t (.zk (yR _) .nil) ?_;refine kM N (fun k U=>U.tm 4 = .ip (cMd a)/\U.tm 5 = .ip (cMd c)/\U.tm 7 = .fn (.func 33) [] []/\U.tm 8=lP F/\U.tm 9=aB false/\U.tm 29=aI N/\U.tm 30=aI k/\lexB (wN F a k (N-k)) (wN F c k (N-k))=R) ?_ ?_
 .simp [go_sem, *]
 rintro k U hk ⟨e4,e5,e7,e8,e9,l,o,p⟩;by_cases a3:k<N
 .have w1:=zWk k
  rw[show N-k=(N-(k+1))+1 by omega,qeL,qeL]at p;simp[go_sem,e8,l,o,a3];refine kM F.length (fun j st2=>st2.tm 4 = .ip (cMd a)/\st2.tm 5 = .ip (cMd c)/\st2.tm 7 = .fn (.func 33) [] []/\st2.tm 8=lP F/\st2.tm 9=aB false/\st2.tm 10=aI k/\st2.tm 29=aI N/\st2.tm 30=aI k/\st2.tm 33=lP F/\st2.tm 34=aI F.length/\st2.tm 35=aI j/\lexB ((rowB F a k).drop j++wN F a (k+1) (N-(k+1))) ((rowB F c k).drop j++wN F c (k+1) (N-(k+1)))=R) ?_ ?_
  .simp [go_sem, *]
  clear e4 e5 e7 e8 e9 l o p;rintro j st2 hj ⟨e4,e5,e7,e8,e9,I,l,o,a4,a5,a6,p⟩;by_cases r:j<F.length
  .have w2:=zWk j
   rw[qeM F a k j r,qeM F c k j r,yH,yH,lexB]at p;have hm:=C _ (qs r);obtain⟨f,hf⟩:=Int.eq_ofNat_of_zero_le (show 0<=F[j].1 by omega);have a8:f<g.length:=zOm;have ka:k<a.sK.length:=zOm;have kc:k<c.sK.length:=zOm;have la:=ga.len _ (qs ka);have lc:=gc.len _ (qs kc);have fa:f<a.sK[k].length:=zOm;have fc:f<c.sK[k].length:=zOm;obtain⟨a1,a2⟩:=ga.so _ (qs ka) _ (qs fa);obtain⟨c1,c2⟩:=gc.so _ (qs kc) _ (qs fc);have ca:=qeO a k f F[j].2 ka fa a1 a2;have cc:=qeO c k f F[j].2 kc fc c1 c2;rw[hf,qeN a k f _ ka fa,qeN c k f _ kc fc]at p;generalize decide (F[j].2∈a.sK[k][f].ts)=x at *
   generalize decide (F[j].2∈c.sK[k][f].ts)=y at *
   have a9:rP F[j]=[aI f,aI F[j].2]:=by rw[rP,hf]
   have wk:∀ m:Md,WKs [eMd m,aI k,.agg [aI f,aI F[j].2]] [eMd m,aI k,.agg [aI f,aI F[j].2]]:=fun m => .zk (zt m) (.zs (.zk (HF.agg fun c hc=>by simp at hc;rcases hc with rfl|rfl<;>exact HF.sc _) .nil))
   simp[go_sem,a4,a5,a6,r];refine cJ zKr ?_;simp[go_sem,e4,e7,I,hf];refine tT ca (wk a) ?_;simp[go_sem,e5,e7,I,hf];refine tT cc (wk c) ?_;by_cases J:x=y
   .simp_all [go_sem,if_pos,aK]
   .rw [if_neg J]at p
    subst p;have P:(x == y)=false:=zUs J;simp[go_sem,P];exact .zsc _
  .have T:j=F.length:=by omega
   simp_all[go_sem,rowB,List.drop_eq_nil_of_le,List.nil_append,aK]
 .have T:k=N:=by omega
  subst T;simp[wN,lexB]at p;subst p;simp[go_sem,e9,l,o];exact .zsc _
end IG
namespace I4
end I4
set_option maxHeartbeats 1000000
namespace JK
open Y1 YF P1 E3 E4 F1 GF GP GQ GR GS GU GW HC IB IG IK IM I5 IT IM IG QB
def tsB:TS:=⟨[(⟨#[65]⟩,false)],[⟨⟨#[102]⟩,[0],true⟩],[],[]⟩
def scB(a s:Int):Sc:=⟨[a],s⟩
def bsB(l:List Int):List Bd:=[⟨⟨1,[]⟩,⟨1,l⟩⟩]
def kL:Nd := .mk 34 ⟨#[]⟩ 0 [.mk 1 ⟨#[102]⟩ 0 [] 0] 0
def mkM(sc:Sc)(l:List Int):Md:=⟨sc,[[⟨1,l⟩]],0⟩
theorem of25(sc:Sc)(l:List Int):qj qg 25 [eSc sc,lI l] (eMd (mkM sc l)):=by
 refine qSU call25 func25 rfl ?_;refine .agg _ _ rfl fun k x y g i=>?_
 match k with
 | 0=>simp[mkM]at g i;subst g;subst i;exact .hf _ (zm _)
 | 1=>simp[mkM]at g i;subst g;subst i;exact .zsc _
 | 2 =>
  simp[mkM]at g i;subst g;subst i;refine .wk _ true _ (.lst true _ _ rfl (fun k x y g i=>?_) fun k x y g i=>?_)
  .match k with
   | 0=>simp at g i;subst g;subst i;rfl
   |k+1=>simp at g
  .match k with
   | 0=>simp at g i;subst g;subst i;exact .wk _ true _ (.hf _ (HF.lst fun r j c o=>by simp at j;subst j;simp at o;rcases o with rfl|rfl;exact HF.sc _;exact zm l))
   |k+1=>simp at g
 | 3=>simp[mkM]at g i;subst g;subst i;exact .zsc _
 |k+4=>simp at g
theorem wtsB:WK (.agg [.lst true [[aS ⟨#[65]⟩,aB false]],.lst true [[aS ⟨#[102]⟩,.lst true [[aI 0]],aB true]],.lst true [],.lst true []]) (eTS tsB):=
 WK.aggs (.cons (YT ⟨.zs (.zs .nil),trivial⟩) (.cons (YT ⟨.zs (.cons (WK.ints [0]) (.zs .nil)),trivial⟩) (.cons (YT (by trivial)) (.cons (YT (by trivial)) .nil))))
theorem wscB(a s:Int):WK (.agg [.lst true [[aI a]],aI s]) (eSc (scB a s)):=WK.aggs (.cons (WK.ints [a]) (.zs .nil))
theorem wnB:WK (.agg [aI 34,aS ⟨#[]⟩,aI 0,.lst true [[aI 1,aS ⟨#[102]⟩,aI 0,.lst true [],aI 0]],aI 0]) (eNd kL):=qoP 34 ⟨#[]⟩ 0 0 (YT ⟨qbO 1 ⟨#[102]⟩ 0 0 (YT (by trivial)),trivial⟩)
theorem cxB(s:Int)(N:Nat)(j:s=N)(g:jC tsB (scB 2 s)=true)(l:jd (scB 2 s)=true)(o:defB tsB (scB 2 s)=bsB [0,1])(p:(chs (vsT tsB) (qB (bsB [0,1]) 0) N).length<=9):Cx tsB (scB 2 s) (bsB [0,1]) N:=
 ⟨kA (by decide +kernel) (by intro x i;simp[tsB]at i;subst i;decide),by decide +kernel,ZR g,l,by show sumI [2]<=5;decide,by rw[<-o];exact qeJ (ZR g),j,p⟩
theorem cx1:Cx tsB (scB 2 1) (bsB [0,1]) 1:=cxB 1 1 rfl (by decide +kernel) (by decide +kernel) (by decide +kernel) (by decide +kernel)
theorem cx2:Cx tsB (scB 2 2) (bsB [0,1]) 2:=cxB 2 2 rfl (by decide +kernel) (by decide +kernel) (by decide +kernel) (by decide +kernel)
theorem llB:LL tsB (scB 2 1) (bsB [0,1]) 1=[mkM (scB 2 1) [],mkM (scB 2 1) [1],mkM (scB 2 1) [0],mkM (scB 2 1) [0,1]]:=by decide +kernel
theorem mvB:MV tsB (scB 2 1) (bsB [0,1]) 1 kL=([mkM (scB 2 1) [1],mkM (scB 2 1) [0],mkM (scB 2 1) [0,1]],0):=by decide +kernel
theorem ll2:(LL tsB (scB 2 2) (bsB [0,1]) 2).length=32/\((LL tsB (scB 2 2) (bsB [0,1]) 2)[0]?.map Md.loop)=some 0/\((LL tsB (scB 2 2) (bsB [0,1]) 2)[16]?.map Md.loop)=some 1:=by decide +kernel
theorem memB(l:List Int)(h:l=[]\/l=[1]\/l=[0]\/l=[0,1]):mkM (scB 2 1) l∈LL tsB (scB 2 1) (bsB [0,1]) 1:=by
 rw[llB];rcases h with rfl|rfl|rfl|rfl<;>simp
theorem tinyB(l:List Int)(h:l=[]\/l=[1]\/l=[0]\/l=[0,1]):tiny (mkM (scB 2 1) l):=⟨cx1.sms (cx1.betw (memB l h)),by show [2].length<=_;decide⟩
theorem eqB(l:List Int)(h:l=[]\/l=[1]\/l=[0]\/l=[0,1]):qj qg 12 [eMd (mkM (scB 2 1) l),eMd (mkM (scB 2 1) l)] (aB true):=by
 have:=eq07 (mkM (scB 2 1) l) (mkM (scB 2 1) l) (tinyB l h)
 rwa[decide_eq_true rfl]at this
theorem lsB(l:List Int)(h:l=[]\/l=[1]\/l=[0]\/l=[0,1]):LsM (bsB [0,1]).length 1 (mkM (scB 2 1) l):=by
 have g:=cx1.betw (memB l h);have i:=cx1.sms g;exact⟨g.ns,g.len,fun s j r o=>⟨zW1 ((i.t s j r o).1),(i.t s j r o).2⟩⟩
theorem leB(l k:List Int)(g:l=[]\/l=[1]\/l=[0]\/l=[0,1])(i:k=[]\/k=[1]\/k=[0]\/k=[0,1]):qj qg 11 [lBd (bsB [0,1]),eMd (mkM (scB 2 1) l),eMd (mkM (scB 2 1) k)] (aB (yp (qB (bsB [0,1]) 0) 1 (mkM (scB 2 1) l) (mkM (scB 2 1) k))):=
 qeP _ _ _ 1 (lsB l g) (lsB k i) zDe cx1.okf zOm
theorem defB1:qj qg 24 [eTS tsB,eSc (scB 2 1)] (lBd (bsB [0,1])):=by
 have:=X8 tsB (scB 2 1) (ZR (by decide +kernel))
 rwa[show defB tsB (scB 2 1)=bsB [0,1] by decide +kernel]at this
theorem defB2:qj qg 24 [eTS tsB,eSc (scB 5 3)] (lBd (bsB [0,1,2,3,4])):=by
 have:=X8 tsB (scB 5 3) (ZR (by decide +kernel))
 rwa[show defB tsB (scB 5 3)=bsB [0,1,2,3,4] by decide +kernel]at this
theorem headK:qj qg 8 [] (aB true):=by
 have C:=cx1.inst;rw[llB]at C;have T:=cx2.inst;obtain⟨g,I,J⟩:=ll2;generalize LL tsB (scB 2 2) (bsB [0,1]) 2=l at *
 have o:∀ h:0<l.length,l[0].loop=0:=fun h=>by
  rw[qy h]at I;simpa using I
 have i:∀ h:16<l.length,l[16].loop=1:=fun h=>by
  rw[qy h]at J;simpa using J
 have o:=o zOm;have i:=i zOm;have P:=cx1.models (n:=kL) (by decide +kernel);rw[mvB]at P;have f5:Fit9 tsB (scB 5 3):=ZR (by decide +kernel);have U:=Kr tsB (scB 2 1) cx1.F cx1.z;have i3:=qnA tsB (scB 2 1) [] U (qm9 tsB (scB 2 1) cx1.F [] zDe);have d5:defB tsB (scB 5 3)=bsB [0,1,2,3,4]:=by decide +kernel
 have B5:BndV tsB (scB 5 3) (bsB [0,1,2,3,4]):=by rw[<-d5];exact qeJ f5
 have c5:=qaE tsB (scB 5 3) (bsB [0,1,2,3,4]) 3 rfl zOm zDe (by intro x R;simp[bsB]at R;subst R;exact⟨zDe,zDe,zDe⟩) zDe (by decide +kernel);have i4:=qnB tsB (scB 5 3) (bsB [0,1,2,3,4]) _ (by decide +kernel) (Kr tsB (scB 5 3) f5 (by decide +kernel)) (qaR tsB (scB 5 3) _ f5 zDe B5) c5;have p:=leB [1] [0] zSp zSp;rw[show yp (qB (bsB [0,1]) 0) 1 (mkM (scB 2 1) [1]) (mkM (scB 2 1) [0])=true by decide +kernel]at p;have t:=leB [1] [1] zSp zSp;rw[show yp (qB (bsB [0,1]) 0) 1 (mkM (scB 2 1) [1]) (mkM (scB 2 1) [1])=false by decide +kernel]at t;refine qSU call8 func8 rfl ?_;refine fR defB1 (.cons wtsB (.cons (wscB 2 1) .nil)) ?_;refine fR C (.cons wtsB (.cons (wscB 2 1) (.zk (yR _) .nil))) ?_;refine fR P (.cons wtsB (.cons (wscB 2 1) (.zk (yR _) (.cons wnB .nil)))) ?_;refine fR T (.cons wtsB (.cons (wscB 2 2) (.zk (yR _) .nil))) ?_;refine fR i3 (.cons wtsB (.cons (wscB 2 1) (.cons (WK.lst fun r j=>absurd j qN) .nil))) ?_;refine fM ?_;refine fR defB2 (.cons wtsB (.cons (wscB 5 3) .nil)) ?_;refine tT i4 (.cons wtsB (.cons (wscB 5 3) (.zk (yR _) .nil))) ?_;simp[go_sem,g]
 first|refine tT (of25 (scB 2 1) []) (.cons (wscB 2 1) (.cons (WK.lst fun r j=>absurd j qN) .nil)) ?_ | (refine cJ zKr ?_;simp[go_sem,g];refine tT (of25 (scB 2 1) []) (.cons (wscB 2 1) (.cons (WK.lst fun r j=>absurd j qN) .nil)) ?_)
 simp[go_sem,g]
 first|refine tT (eqB [] zSp) (.zk (zt _) (.zk (zt _) .nil)) ?_ | (refine cJ zKr ?_;simp[go_sem,g];refine tT (eqB [] zSp) (.zk (zt _) (.zk (zt _) .nil)) ?_)
 simp[go_sem,g]
 first|refine tT (of25 (scB 2 1) [1]) (.cons (wscB 2 1) (.cons (WK.ints [1]) .nil)) ?_ | (refine cJ zKr ?_;simp[go_sem,g];refine tT (of25 (scB 2 1) [1]) (.cons (wscB 2 1) (.cons (WK.ints [1]) .nil)) ?_)
 simp[go_sem,g]
 first|refine tT (eqB [1] zSp) (.zk (zt _) (.zk (zt _) .nil)) ?_ | (refine cJ zKr ?_;simp[go_sem,g];refine tT (eqB [1] zSp) (.zk (zt _) (.zk (zt _) .nil)) ?_)
 simp[go_sem,g]
 first|refine tT (of25 (scB 2 1) [0]) (.cons (wscB 2 1) (.cons (WK.ints [0]) .nil)) ?_ | (refine cJ zKr ?_;simp[go_sem,g];refine tT (of25 (scB 2 1) [0]) (.cons (wscB 2 1) (.cons (WK.ints [0]) .nil)) ?_)
 simp[go_sem,g]
 first|refine tT (eqB [0] zSp) (.zk (zt _) (.zk (zt _) .nil)) ?_ | (refine cJ zKr ?_;simp[go_sem,g];refine tT (eqB [0] zSp) (.zk (zt _) (.zk (zt _) .nil)) ?_)
 simp[go_sem,g]
 first|refine tT (eqB [1] zSp) (.zk (zt _) (.zk (zt _) .nil)) ?_ | (refine cJ zKr ?_;simp[go_sem,g];refine tT (eqB [1] zSp) (.zk (zt _) (.zk (zt _) .nil)) ?_)
 simp[go_sem,g]
 first|refine tT (of25 (scB 2 1) [0,1]) (.cons (wscB 2 1) (.cons (WK.ints [0,1]) .nil)) ?_ | (refine cJ zKr ?_;simp[go_sem,g];refine tT (of25 (scB 2 1) [0,1]) (.cons (wscB 2 1) (.cons (WK.ints [0,1]) .nil)) ?_)
 simp[go_sem,g]
 first|refine tT (eqB [0,1] zSp) (.zk (zt _) (.zk (zt _) .nil)) ?_ | (refine cJ zKr ?_;simp[go_sem,g];refine tT (eqB [0,1] zSp) (.zk (zt _) (.zk (zt _) .nil)) ?_)
 simp[go_sem,g]
 first|refine tT (p) (.zk (yR _) (.zk (zt _) (.zk (zt _) .nil))) ?_ | (refine cJ zKr ?_;simp[go_sem,g];refine tT (p) (.zk (yR _) (.zk (zt _) (.zk (zt _) .nil))) ?_)
 simp[go_sem,g]
 first|refine tT (t) (.zk (yR _) (.zk (zt _) (.zk (zt _) .nil))) ?_ | (refine cJ zKr ?_;simp[go_sem,g];refine tT (t) (.zk (yR _) (.zk (zt _) (.zk (zt _) .nil))) ?_)
 simp[go_sem,g,o,i];exact .zsc _
end JK
set_option maxHeartbeats 1000000
namespace W42
open Y1 YF P1 E3 GS IC IK I5 W41
theorem qsM(ts:TS)(sc:Sc)(raw:List (List Int))(n:Nd)(g:List (List Bool))(lp:Int):HF (.agg (uu ts sc raw n g lp)):=HF.agg fun c i=>by
 unfold uu at i;simp only[List.mem_append,List.mem_cons,qN,or_false]at i;rcases i with h | (rfl|rfl|rfl)|h|rfl|rfl
 .exact Um ts c (by simpa[cTS] using h)
 .exact zm _
 .exact HF.sc _
 .exact qeH raw
 .exact vG n c h
 .exact J2 _
 .exact HF.sc _
theorem _root_.Go.Proofs.YtahmfpfdgiemoaaGreatDoor.IK.Cx.tiny{ts:TS}{sc:Sc}{b:List Bd}{N:Nat}(X:Cx ts sc b N){m:Md}(h:Betw sc (vsT ts) b N m):tiny m:=
 ⟨X.sms h,by rw[h.sc];have:=X.F.g.1;have:=X.F.ns;have:=X.S.h.ns;omega⟩
end W42
set_option maxHeartbeats 1000000
namespace W43
open Y1 YF P1 E3 E4 F1 GF GH GP GR GS HC HD HE IB IG IJ IK IL I5 W41 W42
theorem qeQ{ts:TS}{sc:Sc}{b:List Bd}{N:Nat}(X:Cx ts sc b N){m:Md}(h:m∈LL ts sc b N):LsM b.length N m:=by
 have g:=X.betw h;have i:=X.sms g;exact⟨g.ns,g.len,fun s j r l=>⟨zW1 ((i.t s j r l).1),(i.t s j r l).2⟩⟩
theorem Vq{ts:TS}{sc:Sc}{b:List Bd}{N:Nat}(X:Cx ts sc b N){x y:Md}(g:x∈LL ts sc b N)(i:y∈LL ts sc b N):qj qg 11 [lBd b,eMd x,eMd y] (aB (yp (qB b 0) N x y)):=
 qeP b x y N (qeQ X g) (qeQ X i) (zW1 X.bl) X.okf (zW1 X.N4)
theorem qsN(ts:TS)(hs:bigT ts)(sc:Sc)(raw:List (List Int))(hr:∀ l,l∈raw->∀ x,x∈l->0<=x/\x<=255)(n:Nd)(a0:List (List Bool))(lp:Int)(ad:0<=lp/\lp<=255)(a1 a4:List (List Bool))(l0 l1:Int)(h0:0<=l0/\l0<=255)(h1:0<=l1/\l1<=255) :
  qj qg 3 [.agg (uu ts sc raw n a0 lp),lBB a1,lBB a4,.agg [u8 l0,u8 l1]] (aB true):=by
 have a8:=qsL ts hs sc raw hr n a0 lp ad;have hx:=fun h=>qeI (ts:=ts) hs (sc:=sc) (raw:=raw) (n:=n) h
 obtain⟨op,o,i,ks,q⟩:=n;have ag:uu ts sc raw (.mk op o i ks q) a0 lp=[.lst false (ts.sS.map Q0),.lst false (ts.sA.map vU),lPd ts.sT,lFa ts.sP,lI sc.sC,aI sc.sN,lRaw raw,aI op,aS o,aI i,.lst false (ks.map cNd),aI q,lBB a0,u8 lp]:=by unfold uu;rw[yI];rfl
 have ah:eNd (.mk op o i ks q) = .agg [aI op,aS o,aI i,.lst false (ks.map cNd),aI q]:=by rw[eNd,yI];rfl
 have wc:WK (.agg (uu ts sc raw (.mk op o i ks q) a0 lp)) (.agg (uu ts sc raw (.mk op o i ks q) a0 lp)) := .hf (qsM ts sc raw _ a0 lp);rw[ag]at wc⊢;rw[ag]at a8;generalize hn:Nd.mk op o i ks q=n at *
 have wn:WK (.agg [aI op,aS o,aI i,.lst false (ks.map cNd),aI q]) (eNd n):=by rw[<-ah];exact .hf (qO n)
 have a2:WK (.agg [.lst false (ts.sS.map Q0),.lst false (ts.sA.map vU),lPd ts.sT,lFa ts.sP]) (eTS ts) := .hf (zo ts);have a3:WK (.agg [lI sc.sC,aI sc.sN]) (eSc sc) := .hf (zF sc);refine qSU call3 func3 rfl ?_;refine fR JK.headK .nil ?_;refine tT a8 (.cons wc .nil) ?_;cases ai:ok25 ts sc raw n with
 |false =>
  simp[go_sem,tupM];exact .zsc _
 |true =>
 simp only[tupM,reduceIte];obtain⟨X,aj,ax⟩:=hx ai;generalize hb:yj ts sc raw=b at *
 generalize hN:sc.sN.toNat=N at *
 have ay:=X.hS;have wb:WK (lBd b) (lBd b) := .hf (yR b);have ae:∀ m,m∈LL ts sc b N->tiny m:=fun m hm=>X.tiny (X.betw hm)
 have ak:=X.len;have hd:∀ x,x∈b->UH x:=fun x hx=>by obtain⟨h1,h2,h3,h4⟩:=X.bts x hx;exact⟨zOm,zOm,h4⟩
 have cA:=anyB ts sc X.F b X.B.len hd a0 lp ad;have cB:=anyB ts sc X.F b X.B.len hd a1 l0 h0;have cC:=anyB ts sc X.F b X.B.len hd a4 l1 h1;have mA:=kJ X a0 lp ad.1;have mB:=kJ X a1 l0 h0.1;have mC:=kJ X a4 l1 h1.1;generalize anyM sc (vsT ts) b a0 (lp % sc.sN)=A at *
 generalize anyM sc (vsT ts) b a1 (l0 % sc.sN)=B at *
 generalize anyM sc (vsT ts) b a4 (l1 % sc.sN)=C at *
 have al:=Vq X mA mB;have an:=Vq X mB mA;have ao:=Vq X mB mC;have aq:=Vq X mA mC;have a7:=eq07 A B (ae A mA);have hI:=X.inst;have hM:=X.models aj;have a9:=qr7 X n;have aa:=qr8 X;have ab:=(Cx.qeG (ts:=ts) (sc:=sc) (b:=b) (N:=N) (n:=n));have az:=ab.length_le;have a5:∀ x y,x∈LL ts sc b N->y∈LL ts sc b N->qj qg 11 [lBd b,eMd x,eMd y] (aB (yp (qB b 0) N x y)):=fun x y hx hy=>Vq X hx hy
 have ar:=qrV sc (vsT ts) b N (fun z hz=>(X.B.so z hz).2) A B mA mB;have b0:=qrT (qB b 0) N A B;have b1:=qd6 (qB b 0) N A;have au:=qrU (qB b 0) N A B C;have wA:WKs (.agg [.lst false (ts.sS.map Q0),.lst false (ts.sA.map vU),lPd ts.sT,lFa ts.sP] :: .agg [lI sc.sC,aI sc.sN] :: lBd b :: lBB a0 :: [u8 lp]) [eTS ts,eSc sc,lBd b,lBB a0,u8 lp] := .cons a2 (.cons a3 (.cons wb (.zk (J2 _) (.zs .nil))));have w3:∀ x y:Md,WKs [lBd b,eMd x,eMd y] [lBd b,eMd x,eMd y]:=fun x y => .cons wb (.zk (zt x) (.zk (zt y) .nil))
 have T:∀ x,x∈(MV ts sc b N n).1->x∈LL ts sc b N:=fun x hx=>ab.subset hx
 generalize (MV ts sc b N n).2=er at *
 generalize (MV ts sc b N n).1=K at *
 generalize hL:LL ts sc b N=L at *
 generalize b2:yp (qB b 0) N A B=xy at *
 generalize b3:yp (qB b 0) N B A=yx at *
 generalize b4:yp (qB b 0) N B C=yz at *
 generalize b5:yp (qB b 0) N A C=xz at *
 simp[go_sem];refine fR cA wA ?_;refine fR cB (.cons a2 (.cons a3 (.cons wb (.zk (J2 _) (.zs .nil))))) ?_;refine fR cC (.cons a2 (.cons a3 (.cons wb (.zk (J2 _) (.zs .nil))))) ?_;refine fR al (w3 A B) ?_;refine tT an (w3 B A) ?_;have af:(xy=true/\yx=false/\¬A=B)\/(xy=false/\yx=true/\¬A=B)\/(xy=false/\yx=false/\A=B):=by
  by_cases a6:A=B
  .grind
  .rw [decide_eq_false a6]at ar
   cases hx:xy with
   |true=>grind
   |false =>
    grind
 rcases af with ⟨ex,ey,a6⟩|⟨ex,ey,a6⟩|⟨ex,ey,a6⟩
 .subst ex;subst ey
  rw[decide_eq_false a6]at a7;simp[go_sem];refine fR a7 (.zk (zt _) (.zk (zt _) .nil)) ?_;refine tT ao (w3 B C) ?_;cases av:yz with
  |false =>
   simp[go_sem];refine fR hI (.cons a2 (.cons a3 (.cons wb .nil))) ?_;refine fR hM (.cons a2 (.cons a3 (.cons wb (.cons wn .nil)))) ?_;refine kM L.length (fun k U=>U.tm 9=aB true/\U.tm 10=lBd b/\U.tm 18=lMd L/\U.tm 20=lMd K/\U.tm 22=aI ((k+1:Nat):Int)) ?_ ?_
   .exact ⟨zSi,zSi,zSi,zSi,zSi⟩
   rintro k U hk ⟨e9,t,I,j,J⟩;by_cases p:k+1<L.length
   .have w1:qq.wrap ((k:Int)+1+1)=(k:Int)+1+1:=zWr
    have w2:qq.wrap (k:Int)=(k:Int):=zWr;have g:k<L.length:=zOm;have r:(k:Int)+1<L.length:=zOm;have w0:(0:Int)<=(k:Int)+1:=zOm;have c:=a5 L[k] L[k+1] (qs g) (qs p);rw[List.pairwise_iff_getElem.1 aa k (k+1) g p zOm]at c;simp[go_sem,I,J,r];refine cJ zKr ?_;simp[go_sem,t,I,J,p,r,g,w2,w0];refine tT c (w3 _ _) ?_;simp[go_sem,J,w1]
    try refine⟨g,aK ?_⟩
    try refine aK ?_
    exact⟨zS1 e9,zS1 t,zS1 I,zS1 j,zSi⟩
   have P:¬(k:Int)+1<L.length:=zOm;simp[go_sem,I,J,P];refine kM K.length (fun k U=>U.tm 9=aB true/\U.tm 10=lBd b/\U.tm 20=lMd K/\U.tm 23=aI ((k+1:Nat):Int)) ?_ ?_
   .exact ⟨zS1 e9,zS1 t,zS1 j,zSi⟩
   clear e9 t I j J hk p P;rintro k U hk ⟨e9,t,j,R⟩;by_cases p:k+1<K.length
   .have w1:qq.wrap ((k:Int)+1+1)=(k:Int)+1+1:=zWr
    have w2:qq.wrap (k:Int)=(k:Int):=zWr;have g:k<K.length:=zOm;have r:(k:Int)+1<K.length:=zOm;have w0:(0:Int)<=(k:Int)+1:=zOm;have c:=a5 K[k] K[k+1] (T _ (qs g)) (T _ (qs p));rw[List.pairwise_iff_getElem.1 a9 k (k+1) g p zOm]at c;simp[go_sem,j,R,r];refine cJ zKr ?_;simp[go_sem,t,j,R,p,r,g,w2,w0];refine tT c (w3 _ _) ?_;simp[go_sem,R,w1]
    try refine⟨g,aK ?_⟩
    try refine aK ?_
    exact⟨zS1 e9,zS1 t,zS1 j,zSi⟩
   have P:¬(k:Int)+1<K.length:=zOm;simp[go_sem,e9,j,R,P];exact .zsc _
  |true =>
   have aw:xz=true:=au rfl av;subst aw;simp[go_sem];refine fR aq (w3 A C) ?_;refine fR hI (.cons a2 (.cons a3 (.cons wb .nil))) ?_;refine fR hM (.cons a2 (.cons a3 (.cons wb (.cons wn .nil)))) ?_;refine kM L.length (fun k U=>U.tm 9=aB true/\U.tm 10=lBd b/\U.tm 18=lMd L/\U.tm 20=lMd K/\U.tm 22=aI ((k+1:Nat):Int)) ?_ ?_
   .exact ⟨zSi,zSi,zSi,zSi,zSi⟩
   rintro k U hk ⟨e9,t,I,j,J⟩;by_cases p:k+1<L.length
   .have w1:qq.wrap ((k:Int)+1+1)=(k:Int)+1+1:=zWr
    have w2:qq.wrap (k:Int)=(k:Int):=zWr;have g:k<L.length:=zOm;have r:(k:Int)+1<L.length:=zOm;have w0:(0:Int)<=(k:Int)+1:=zOm;have c:=a5 L[k] L[k+1] (qs g) (qs p);rw[List.pairwise_iff_getElem.1 aa k (k+1) g p zOm]at c;simp[go_sem,I,J,r];refine cJ zKr ?_;simp[go_sem,t,I,J,p,r,g,w2,w0];refine tT c (w3 _ _) ?_;simp[go_sem,J,w1]
    try refine⟨g,aK ?_⟩
    try refine aK ?_
    exact⟨zS1 e9,zS1 t,zS1 I,zS1 j,zSi⟩
   have P:¬(k:Int)+1<L.length:=zOm;simp[go_sem,I,J,P];refine kM K.length (fun k U=>U.tm 9=aB true/\U.tm 10=lBd b/\U.tm 20=lMd K/\U.tm 23=aI ((k+1:Nat):Int)) ?_ ?_
   .exact ⟨zS1 e9,zS1 t,zS1 j,zSi⟩
   clear e9 t I j J hk p P;rintro k U hk ⟨e9,t,j,R⟩;by_cases p:k+1<K.length
   .have w1:qq.wrap ((k:Int)+1+1)=(k:Int)+1+1:=zWr
    have w2:qq.wrap (k:Int)=(k:Int):=zWr;have g:k<K.length:=zOm;have r:(k:Int)+1<K.length:=zOm;have w0:(0:Int)<=(k:Int)+1:=zOm;have c:=a5 K[k] K[k+1] (T _ (qs g)) (T _ (qs p));rw[List.pairwise_iff_getElem.1 a9 k (k+1) g p zOm]at c;simp[go_sem,j,R,r];refine cJ zKr ?_;simp[go_sem,t,j,R,p,r,g,w2,w0];refine tT c (w3 _ _) ?_;simp[go_sem,R,w1]
    try refine⟨g,aK ?_⟩
    try refine aK ?_
    exact⟨zS1 e9,zS1 t,zS1 j,zSi⟩
   have P:¬(k:Int)+1<K.length:=zOm;simp[go_sem,e9,j,R,P];exact .zsc _
 .subst ex;subst ey
  rw[decide_eq_false a6]at a7;simp[go_sem];refine fR a7 (.zk (zt _) (.zk (zt _) .nil)) ?_;refine fR hI (.cons a2 (.cons a3 (.cons wb .nil))) ?_;refine fR hM (.cons a2 (.cons a3 (.cons wb (.cons wn .nil)))) ?_;refine kM L.length (fun k U=>U.tm 9=aB true/\U.tm 10=lBd b/\U.tm 18=lMd L/\U.tm 20=lMd K/\U.tm 22=aI ((k+1:Nat):Int)) ?_ ?_
  .exact ⟨zSi,zSi,zSi,zSi,zSi⟩
  rintro k U hk ⟨e9,t,I,j,J⟩;by_cases p:k+1<L.length
  .have w1:qq.wrap ((k:Int)+1+1)=(k:Int)+1+1:=zWr
   have w2:qq.wrap (k:Int)=(k:Int):=zWr;have g:k<L.length:=zOm;have r:(k:Int)+1<L.length:=zOm;have w0:(0:Int)<=(k:Int)+1:=zOm;have c:=a5 L[k] L[k+1] (qs g) (qs p);rw[List.pairwise_iff_getElem.1 aa k (k+1) g p zOm]at c;simp[go_sem,I,J,r];refine cJ zKr ?_;simp[go_sem,t,I,J,p,r,g,w2,w0];refine tT c (w3 _ _) ?_;simp[go_sem,J,w1]
   try refine⟨g,aK ?_⟩
   try refine aK ?_
   exact⟨zS1 e9,zS1 t,zS1 I,zS1 j,zSi⟩
  have P:¬(k:Int)+1<L.length:=zOm;simp[go_sem,I,J,P];refine kM K.length (fun k U=>U.tm 9=aB true/\U.tm 10=lBd b/\U.tm 20=lMd K/\U.tm 23=aI ((k+1:Nat):Int)) ?_ ?_
  .exact ⟨zS1 e9,zS1 t,zS1 j,zSi⟩
  clear e9 t I j J hk p P;rintro k U hk ⟨e9,t,j,R⟩;by_cases p:k+1<K.length
  .have w1:qq.wrap ((k:Int)+1+1)=(k:Int)+1+1:=zWr
   have w2:qq.wrap (k:Int)=(k:Int):=zWr;have g:k<K.length:=zOm;have r:(k:Int)+1<K.length:=zOm;have w0:(0:Int)<=(k:Int)+1:=zOm;have c:=a5 K[k] K[k+1] (T _ (qs g)) (T _ (qs p));rw[List.pairwise_iff_getElem.1 a9 k (k+1) g p zOm]at c;simp[go_sem,j,R,r];refine cJ zKr ?_;simp[go_sem,t,j,R,p,r,g,w2,w0];refine tT c (w3 _ _) ?_;simp[go_sem,R,w1]
   try refine⟨g,aK ?_⟩
   try refine aK ?_
   exact⟨zS1 e9,zS1 t,zS1 j,zSi⟩
  have P:¬(k:Int)+1<K.length:=zOm;simp[go_sem,e9,j,R,P];exact .zsc _
 .subst ex;subst ey
  rw[decide_eq_true a6]at a7;simp[go_sem];refine fR a7 (.zk (zt _) (.zk (zt _) .nil)) ?_;refine fR hI (.cons a2 (.cons a3 (.cons wb .nil))) ?_;refine fR hM (.cons a2 (.cons a3 (.cons wb (.cons wn .nil)))) ?_;refine kM L.length (fun k U=>U.tm 9=aB true/\U.tm 10=lBd b/\U.tm 18=lMd L/\U.tm 20=lMd K/\U.tm 22=aI ((k+1:Nat):Int)) ?_ ?_
  .exact ⟨zSi,zSi,zSi,zSi,zSi⟩
  rintro k U hk ⟨e9,t,I,j,J⟩;by_cases p:k+1<L.length
  .have w1:qq.wrap ((k:Int)+1+1)=(k:Int)+1+1:=zWr
   have w2:qq.wrap (k:Int)=(k:Int):=zWr;have g:k<L.length:=zOm;have r:(k:Int)+1<L.length:=zOm;have w0:(0:Int)<=(k:Int)+1:=zOm;have c:=a5 L[k] L[k+1] (qs g) (qs p);rw[List.pairwise_iff_getElem.1 aa k (k+1) g p zOm]at c;simp[go_sem,I,J,r];refine cJ zKr ?_;simp[go_sem,t,I,J,p,r,g,w2,w0];refine tT c (w3 _ _) ?_;simp[go_sem,J,w1]
   try refine⟨g,aK ?_⟩
   try refine aK ?_
   exact⟨zS1 e9,zS1 t,zS1 I,zS1 j,zSi⟩
  have P:¬(k:Int)+1<L.length:=zOm;simp[go_sem,I,J,P];refine kM K.length (fun k U=>U.tm 9=aB true/\U.tm 10=lBd b/\U.tm 20=lMd K/\U.tm 23=aI ((k+1:Nat):Int)) ?_ ?_
  .exact ⟨zS1 e9,zS1 t,zS1 j,zSi⟩
  clear e9 t I j J hk p P;rintro k U hk ⟨e9,t,j,R⟩;by_cases p:k+1<K.length
  .have w1:qq.wrap ((k:Int)+1+1)=(k:Int)+1+1:=zWr
   have w2:qq.wrap (k:Int)=(k:Int):=zWr;have g:k<K.length:=zOm;have r:(k:Int)+1<K.length:=zOm;have w0:(0:Int)<=(k:Int)+1:=zOm;have c:=a5 K[k] K[k+1] (T _ (qs g)) (T _ (qs p));rw[List.pairwise_iff_getElem.1 a9 k (k+1) g p zOm]at c;simp[go_sem,j,R,r];refine cJ zKr ?_;simp[go_sem,t,j,R,p,r,g,w2,w0];refine tT c (w3 _ _) ?_;simp[go_sem,R,w1]
   try refine⟨g,aK ?_⟩
   try refine aK ?_
   exact⟨zS1 e9,zS1 t,zS1 j,zSi⟩
  have P:¬(k:Int)+1<K.length:=zOm;simp[go_sem,e9,j,R,P];exact .zsc _
end W43
namespace DL
open Go.EvW Go.RowKit Go.ChangeShapes Go.WideShapes
theorem own:ownKnob qg.godebug=none:=by kernel_rfl
theorem laid:laidOutB qg=true:=by kernel_rfl
abbrev tabL : List (String × DataW Unit) := [("math/bits.deBruijn32tab", Rows.laid_math_bits_deBruijn32tab), ("math/bits.deBruijn64tab", Rows.laid_math_bits_deBruijn64tab), ("internal/strconv.uint64pow10", Rows.laid_internal_strconv_uint64pow10)]
def pows:List Int:=[1,10,100,1000,10000,100000,1000000,10000000,100000000,1000000000,10000000000,100000000000,1000000000000,10000000000000,100000000000000,1000000000000000,10000000000000000,100000000000000000,1000000000000000000,10000000000000000000]
theorem gPow : qg.globalNamed "internal/strconv.uint64pow10" = some 0 := by kernel_rfl
theorem tPow:(qg.globals[0]?).map (·.type)=some 360:=by kernel_rfl
theorem uPow:qg.underlying 360=some (.array 20 317):=by kernel_rfl
theorem uU64:qg.underlying 317=some (.int .u64):=by kernel_rfl
theorem qsO{W:qd}(h:laidMetH qg tabL W):Zu (·<W.heap.size) W.heap:=by
  rw[MakeChecks.laidMetH_plain _ _ _ zKr]at h;obtain⟨ps,I,_⟩:=h
  obtain ⟨g, t, l, o, p, J, P, R, T⟩ := qbK I ("internal/strconv.uint64pow10", Rows.laid_internal_strconv_uint64pow10) zSp
  obtain rfl:=Option.some.inj (gPow.symm.trans J);obtain rfl:=Option.some.inj (tPow.symm.trans P);have U:l.toList=pows.map fun i => .int .u64 i:=qn7 uPow uU64 zKr zKr (ns:=pows) T
  obtain⟨e,fr,C⟩:=qn8 gPow R;intro x j;have j:x∈[(0,pows.map fun i=>Value.int .u64 i)]:=j;rw[List.mem_singleton]at j;subst j;refine⟨(Array.getElem?_eq_some_iff.1 C).1,e,fr,?_⟩;show W.heap[0]?=_;rw[C];have:l=(pows.map fun i=>Value.int .u64 i).toArray:=by rw[<-U]
  rw[this]
theorem qsP(os:Os)(args:Array qe):laidMetH qg tabL ((World.doorLaid qg 4000 os).forCall (fun _ _=>0) ⟨#[],args,[]⟩).memory:=
 laidMetH_of_parts3 (fuel:=8) (laidMet_of_run' 8 zKr zKr) zKr zKr
end DL
namespace DM
open Go.EvW E3 DT
instance:Inhabited Rl:=⟨⟨0,[]⟩⟩
instance:Inhabited Sc:=⟨⟨[],0⟩⟩
instance:Inhabited Md:=⟨⟨default,[],0⟩⟩
theorem shRel(N:Nat):ShU qg N 90 cRel (fun _=>True):=
 ((ShU.struct (fs:=[(3,0),(28,1)]) zKr (.cons' (o':=1) zKr (ZX N) (.cons' (o':=2) zKr (KH N) (.nil 2))) zKr).map
  (fun x=>(⟨x.1,x.2.1⟩:Rl)) (fun _=>rfl) (fun x h=>trivial)).le zOm
theorem qsQ(N:Nat):ShU qg N 30 (fun s:Sc=>[lI s.sC,aI s.sN]) (fun _=>True):=
 ((ShU.struct (fs:=[(28,0),(3,1)]) zKr (.cons' (o':=1) zKr (KH N) (.cons' (o':=2) zKr (ZX N) (.nil 2))) zKr).map
  (fun x=>(⟨x.1,x.2.1⟩:Sc)) (fun _=>rfl) (fun x h=>trivial)).le zOm
end DM
namespace DN
open Go.EvW P1 Y1 EO DT GS W41
theorem qsR:qg.underlying 86=some (.slice 4):=by kernel_rfl
theorem unBB:qg.underlying 36=some (.slice 86):=by kernel_rfl
theorem unU8s:qg.underlying 114=some (.slice 5):=by kernel_rfl
theorem unRaw:qg.underlying 32=some (.slice 114):=by kernel_rfl
theorem unTwo:qg.underlying 39=some (.array 2 5):=by kernel_rfl
theorem qsS(N:Nat):ShU qg N 86 (fun l:List Bool=>[lB l]) (fun _=>True):=
 ((ShU.slice qsR (KG N) (fun _ _=>zKr) (Nat.lt_of_lt_of_eq Nat.zero_lt_one zKr) zKr).le zOm).map (fun l=>l) (fun _=>rfl) fun _ _=>trivial
theorem shBB(N:Nat):ShU qg N 36 (fun l:List (List Bool)=>[lBB l]) (fun _=>True):=
 ((ShU.slice unBB (qsS N) (fun _ _=>zKr) (Nat.lt_of_lt_of_eq Nat.zero_lt_one zKr) zKr).le zOm).map (fun l=>l) (fun _=>rfl) fun _ _=>trivial
abbrev Wh:=TS×Sc×List (List Int)×Nd×List (List Bool)×Int
abbrev cCs(x:Wh):List AV:=uu x.1 x.2.1 x.2.2.1 x.2.2.2.1 x.2.2.2.2.1 x.2.2.2.2.2
theorem aBB:uS qg 36 lBB (fun _=>True):=uS.slice unBB shBB
theorem qsT{P:qb}{t e:qc}{J:Type}{c:J->AV}{ok:J->Prop}(o:P.underlying t=some (.array 2 e))(h1:P.cellsOf e=1)(h2:P.cellsOf t=2)(h:∀ N,ShU P N e (fun a=>[c a]) ok):uS P t (fun x:J×J => .agg [c x.1,c x.2]) (fun x=>ok x.1/\ok x.2):=by
 intro H C w r b v d ps g I R;obtain⟨n,hn⟩:=I;obtain⟨p,m,rfl,hx,T,a2,hg⟩:=DataW.trod_array o hn;have I:d = .agg (p.map (·.1)):=by injection hx
 subst I;have U:(DataW.weightsAll P e (p.map (·.1))).all (·<=reachBytes)=true:=by
  unfold jD at R;simp only[DataW.weights,o]at R;exact R
 unfold Value.okWide at g;rw[o]at g;obtain⟨cs,rfl,a3,_⟩:=g;rw[h2]at T;simp only[Value.cells]at T hg;have key:∀ i,i<2->∃ a,ok a/\VRel ⟨(·<w.heap.size),[]⟩ w.heap (c a) (cs.getD i zw):=fun i hi=>by
  have h3:=hg i hi;have j:i<p.length:=zOm;rw[qy j]at h3;obtain⟨a,ha,hr⟩:=h (m+1) m zOm H C w _ _ h3 (jD.all U i _ (by rw[List.getElem?_map,qy j];rfl));have:=hr.2 0 (c a) rfl;refine⟨a,ha,?_⟩;rw[h1]at this;rw[Nat.mul_one]at this;have e2:((cs.toList.drop i).take 1).getD 0 zw=cs.getD i zw:=by
   rw[zH,List.getElem?_take,if_pos zOm,List.getElem?_drop,Array.getD_eq_getD_getElem?];simp
  rw[e2]at this;exact this
 obtain⟨a0,o0,r0⟩:=key 0 zOm;obtain⟨a1,o1,r1⟩:=key 1 zOm;refine⟨(a0,a1),⟨o0,o1⟩,.agg _ _ (zUs T) (fun k x l=>?_)⟩
 match k with
 | 0=>simp at l;subst l;exact r0
 | 1=>simp at l;subst l;exact r1
 |k+2=>simp at l
theorem aTwo:uS qg 39 (fun x:Int×Int => .agg [u8 x.1,u8 x.2]) (fun x=>(0<=x.1/\x.1<=255)/\(0<=x.2/\x.2<=255)):=qsT unTwo zKr zKr shU8
end DN
namespace DO
open Go.EvW DT DM DN W41
def qeR(l:List Int):Prop:=∀ x,x∈l->0<=x/\x<=255
def qeS(r:List (List Int)):Prop:=∀ l,l∈r->qeR l
theorem shU8r(N:Nat):ShU qg N 114 (fun l:List Int=>[.lst false (l.map fun x=>[u8 x])]) qeR:=
 ((ShU.slice unU8s (shU8 N) (fun _ _=>zKr) (Nat.lt_of_lt_of_eq Nat.zero_lt_one zKr) zKr).le zOm).map (fun l=>l) (fun _=>rfl) fun _ h=>h.2
theorem qsU(N:Nat):ShU qg N 32 (fun l:List (List Int)=>[lRaw l]) qeS:=
 ((ShU.slice unRaw (shU8r N) (fun _ _=>zKr) (Nat.lt_of_lt_of_eq Nat.zero_lt_one zKr) zKr).le zOm).map (fun l=>l) (fun _=>rfl) fun _ h=>h.2
def okCs(x:Wh):Prop:=okTA x.1/\qeS x.2.2.1/\(0<=x.2.2.2.2.2/\x.2.2.2.2.2<=255)
theorem qsV(N:Nat):ShU qg N 38 cCs okCs:=
 ((ShU.struct (fs:=[(27,0),(30,4),(32,6),(35,7),(36,12),(5,13)]) zKr
  (.cons' (o':=4) zKr (qoO N) (.cons' (o':=6) zKr (qsQ N) (.cons' (o':=7) zKr (qsU N) (.cons' (o':=12) zKr (UV N) (.cons' (o':=13) zKr (shBB N) (.cons' (o':=14) zKr (shU8 N) (.nil 14))))))) zKr).map
  (fun x=>((x.1,x.2.1,x.2.2.1,x.2.2.2.1,x.2.2.2.2.1,x.2.2.2.2.2.1):Wh)) (fun x=>by simp[cCs,uu]) (fun x h=>⟨h.1,h.2.2.1,h.2.2.2.2.2.1⟩)).le zOm
theorem qsW:uS qg 38 (fun x => .agg (cCs x)) okCs:=uS.struct zKr qsV
end DO
end Go.Proofs.YtahmfpfdgiemoaaGreatDoor
