/-
  Own library, part 9: an abstract reading of values and a calculus over it; contracts of functions; plain lemmas.
-/
import Derived.Test.YtfednihcpihlgaaGreatDoorRows
import Derived.LaidMore
import Derived.MakeChecks
import Derived.WalkKit
import Derived.JoinedCond
import Derived.Test.YtfednihcpihlgaaGreatDoorMh
set_option linter.unusedVariables false
set_option linter.unusedSimpArgs false
set_option maxRecDepth 100000
set_option maxHeartbeats 1000000
open Go renaming World->j2,Value->j3
open Go.Proofs.Tryz renaming prog->qb
open List renaming getElem?_eq_some_iff->qg,mem_map->qi,getElem_mem->qn,range->qq,getElem?_eq_getElem->qw,not_mem_nil->qF,getElem?_set_self->qI,take_length->qO,length_append->qX,map_append->q9,all_eq_true->zb,getD_eq_getElem?_getD->zC,getElem?_set_ne->yu,cons_append->yw,getElem_of_mem->wC
open Bool renaming and_eq_true->qD
open Nat renaming le_trans->zt
namespace Go.Proofs.YtfednihcpihlgaaGreatDoor
open Go Go.Ev Go.Proofs Tryz
namespace IJ
open YF P1 E3 EO EQ F4 GB GP GR GS
theorem anyB(ts sc)(F:Fit9 ts sc)(D)(bv:D.length=ts.sA.length)(hd:∀ b,b∈D->Kb b)(o lp)(b6:0<=lp/\lp<=255) :
  qd qb 28 [eTS ts,eSc sc,lBd D,lBB o,.sc (.int .u8 lp)] (eMd (anyM sc (vsT ts) D o (lp % sc.sN))):=by
 have bw:=F.nf;have s1:=F.s1;have s4:=F.s4;generalize hS:sc.sN=S at *
 obtain⟨N,rfl⟩:=Int.eq_ofNat_of_zero_le (show 0<=S by omega);refine qSU call28 func28 rfl ?_;refine cZ zKr ?_;have n1:¬(N:Int)<1:=zOm;have n0:¬(N:Int)=0:=zOm;have b7:¬N=0:=zOm;have wl:IntKind.i64.wrap lp=lp:=zWr;have tm:lp.tmod (N:Int)=lp % (N:Int):=Int.tmod_eq_emod_of_nonneg b6.1;simp[go_sem,hS,n1,b7,wl,tm];generalize hL:lp % (N:Int)=L at *
 have b8:anyM sc (vsT ts) D o L=⟨sc,(qq N).map (anyS (vsT ts) D o),L⟩:=by rw[anyM,hS];rfl
 rw[b8];generalize hA:anyS (vsT ts) D o=A at *
 refine kT N (fun k U=>U.tm 3=lBB o/\U.tm 5 = .ip (cTS ts)/\U.tm 6 = .ip [lI sc.sC,aI sc.sN]/\U.tm 10 = .ptr 0 0/\U.tm 11 = .ptr 1 0/\U.tm 2=lBd D/\U.tm 12=aI k /\
  ∃ s,U.mu[0]?=some (.arr [.lst true [],aI 0,.lst true [],aI 0])/\U.mu[1]?=some (.arr [lI sc.sC,aI N,s,aI L])/\Own U.mu 1 s (((qq k).map A).map fun r=>[lRel r])/\∀ b,qj s=some b->2<=b) ?_ ?_
 .exact ⟨zSi,zSi,zS1 hS,zSi,zSi,zSi,zSi,.lst true [],zSi,zSi,.inl zSp,by simp[qj]⟩
 rintro k U hk ⟨e2,e4,e5,e8,e9,b9,aa,s,h0,h1,ho,hb⟩;have ab:=(qg.1 h0).1;have ai:=(qg.1 h1).1;by_cases aj:k<N
 .have w1:=zWk k
  have n4:(k:Int)<4:=zOm;have a8:=fun fl:Bool=>qlY fl D (o.getD k []) U.mu zOm hd
  have ca:=XQ D (o.getD k []);have br:=XQ D (o.getD 0 []);have bb:A 0=vp D (o.getD 0 []):=by rw[<-hA,anyS,if_pos rfl]
  have bc:k≠0->A k=fixS (vsT ts) (A 0) (vp D (o.getD k [])) D.length:=fun h=>by rw[bb,<-hA,ql2 _ _ _ _ h]
  have ak:k=0->A k=vp D (o.getD k []):=fun h=>by grind
  generalize cb:vp D (o.getD k [])=R at *
  have bs:(A 0).length=D.length:=by grind
  simp[go_sem,hS,e2,e5,aa,aj,n4];by_cases ad:k<o.length
  all_goals simp[go_sem,e2,b9,aa,ad]
  all_goals first
   | (rw[show lB o[k] = .lst false ((o.getD k []).map rB) by rw[zC,qw ad];rfl];refine fQ (a8 false) ?_ (by grind))
   | (have hi:=a8 true;rw[show (o.getD k []).map rB=[] by grind]at hi;refine fQ hi ?_ (by grind))
  all_goals
   rintro r m ⟨t,h,cc,cd,al,cf,be⟩;cases h;simp[go_sem,ad];refine kT D.length (fun j st2=>st2.tm 3=lBB o/\st2.tm 5 = .ip (cTS ts)/\st2.tm 6 = .ip [lI sc.sC,aI N]/\st2.tm 10 = .ptr 0 0/\st2.tm 11 = .ptr 1 0/\st2.tm 2=lBd D/\st2.tm 12=aI k/\st2.tm 14=r/\st2.tm 15=aI j /\
    Own st2.mu 2 r ((if k=0 then R else fixS (vsT ts) (A 0) R j).map cRel)/\∀ i,i<m.length->qj r≠some i->st2.mu[i]?=m[i]?) ?_ ?_
   .simp_all [go_sem,qlZ]
   rintro j st2 hj ⟨f2,f4,f5,f8,f9,f10,f11,f13,f14,a0,ae⟩;have J:∀ i,i<U.mu.length->st2.mu[i]?=U.mu[i]?:=fun i hi=>by grind
   have a2:(if k=0 then R else fixS (vsT ts) (A 0) R j).length=D.length:=by grind [ql0]
   have an:k≠0->j<D.length->(if k=0 then R else fixS (vsT ts) (A 0) R (j+1))=if (vsT ts).getD j true=false then (if k=0 then R else fixS (vsT ts) (A 0) R j).set j ((A 0).getD j noR) else (if k=0 then R else fixS (vsT ts) (A 0) R j):=fun h1 h2=>by simp_all[if_neg,ql1]
   have bg:¬(j<D.length/\k≠0)->(if k=0 then R else fixS (vsT ts) (A 0) R j)=A k:=fun h=>by
    by_cases h0:k=0
    .rw [if_pos h0,ak h0]
    .rw [if_neg h0,bc h0,show j=D.length by omega]
   generalize hW:(if k=0 then R else fixS (vsT ts) (A 0) R j)=W at *
   simp[go_sem,f13,f14];refine tA (aI D.length) (by rcases a0 with h|⟨b,h,_⟩<;>rw[h]<;>simp[a2]) ?_;by_cases a3:j<D.length/\k≠0
   .obtain ⟨C,ao⟩:=a3
    have aq:(vsT ts).getD j true=ts.sA[j].var:=by grind
    have w2:=zWk j;have P:st2.mu[1]?=some (.arr [lI sc.sC,aI N,s,aI L]):=by grind
    simp[go_sem,f4,f11,f14,C,show 0<k by omega,show j<ts.sA.length by omega];cases hv:ts.sA[j].var with
    |true =>
     simp[go_sem,f14,C,w2]
     try refine⟨C,aK ?_⟩
     try refine aK ?_
     refine⟨zS1 f2,zS1 f4,zS1 f5,zS1 f8,zS1 f9,zS1 f10,zS1 f11,zS1 f13,zSi,?_,zVs ae⟩;rw[an ao C,aq,hv,if_neg zSp];simp[go_sem, *]
    |false =>
     obtain⟨b,T⟩:=be zOm;have a1:r = .sl b 2 0 W.length/\st2.mu[b]?=some (.arr (W.map cRel).flatten):=by
      rcases a0 with h|⟨b',h,hc⟩
      .rw [h]at T;cases T
      .rw [h]at T;cases T
       exact⟨by rw[h];simp,hc⟩
     obtain⟨a1,a7⟩:=a1;have bh:=(qg.1 a7).1;have cg:=al b T;have af:(W.map cRel).flatten.length=W.length*2:=by rw[yD (vh W).ok];simp
     have bu:=Own.put (av:=r) (xs:=W.map cRel) (by rw[a1];simp) a7 (vh W).ok (i:=j) (r:=cRel ((A 0).getD j noR)) rfl zSo;have a4:j<(A 0).length:=zOm;have bi:(A 0).getD j noR=(A 0)[j]:=by rw[zC,qw a4];rfl
     have I:(((qq k).map A).map fun r=>[lRel r]).flatten[0]?=some (lRel (A 0)):=by
      obtain⟨k',rfl⟩:∃ k',k=k'+1:=⟨k-1,zOm⟩;rw[List.range_succ_eq_map];simp
     have au:(((qq k).map A).map fun r=>[lRel r]).length=k:=zSp;generalize a5:(((qq k).map A).map fun r=>[lRel r])=rows at *
     have bj:rows[0]?=some [lRel (A 0)]:=by
      rw[<-a5];obtain⟨k',rfl⟩:∃ k',k=k'+1:=⟨k-1,zOm⟩;simp
     have aw:(rows.map List.length).sum=k:=by
      have:=yD (sz:=1) (xs:=rows) (by rw[<-a5];intro r hr;obtain⟨n,_,rfl⟩:=qi.1 hr;rfl);rw[List.length_flatten]at this;omega
     have ax:rows.flatten.take 1=[lRel (A 0)]:=by
      cases ay:rows.flatten with
      |nil=>rw[ay]at I;cases I
      |cons x l=>rw[ay]at I;cases I;rfl
     have az:(W.map cRel).flatten.take (j*2)++aI (A 0)[j].ar :: lI (A 0)[j].ts :: (W.map cRel).flatten.drop (j*2+2)=((W.set j (A 0)[j]).map cRel).flatten:=by
      rw[List.map_set,Je (W.map cRel) j _ (vh W).ok rfl zSo,yY _ _ _ (by simp only[af,cRel,List.length_cons,List.length_nil];omega)];simp
     have a6:Own (st2.mu.set b (.arr ((W.set j (A 0)[j]).map cRel).flatten)) 2 r ((W.set j (A 0)[j]).map cRel) := .inr ⟨b,by rw[a1];simp,qI bh⟩;have ag:=an ao C;rw[aq,hv,if_pos rfl,bi]at ag;rcases ho with rfl|⟨c,rfl,b0⟩
     .simp [go_sem,f9,f13,f14,P,a1,a2]
      refine tA (.ip [lRel (A 0)]) (by rw[bj];simp[au];omega) ?_;simp[go_sem,f14,C,a7,af,a2,a4];refine tA (st2.mu.set b (.arr ((W.set j (A 0)[j]).map cRel).flatten)) (by rw[if_pos zOm,az]) ?_;simp[go_sem,f14,C,w2]
      try refine⟨C,aK ?_⟩
      try refine aK ?_
      refine⟨zS1 f2,zS1 f4,zS1 f5,zS1 f8,zS1 f9,zS1 f10,zS1 f11,zS1 f13,zSi,by rw[ag];simpa[go_sem] using a6,fun i hi hn=>?_⟩;simp only[qA];rw[yu (fun e=>hn (by rw[<-e];exact T))];exact ae i hi hn
     .have bk:=(qg.1 b0).1
      have a9:=J c bk;rw[b0]at a9;simp[go_sem,f9,f13,f14,P,a9,au,show 0<k by omega,a1,a2];refine tA (lRel (A 0)) (by rw[aw,if_pos zOm,ax];rfl) ?_;simp[go_sem,f14,C,a7,af,a2,a4];refine tA (st2.mu.set b (.arr ((W.set j (A 0)[j]).map cRel).flatten)) (by rw[if_pos zOm,az]) ?_;simp[go_sem,f14,C,w2]
      try refine⟨C,aK ?_⟩
      try refine aK ?_
      refine⟨zS1 f2,zS1 f4,zS1 f5,zS1 f8,zS1 f9,zS1 f10,zS1 f11,zS1 f13,zSi,by rw[ag];simpa[go_sem] using a6,fun i hi hn=>?_⟩;simp only[qA];rw[yu (fun e=>hn (by rw[<-e];exact T))];exact ae i hi hn
   .have bm:j<D.length->¬ 0<k:=fun h=>by omega
    rw[bg a3]at a0;have P:st2.mu[1]?=some (.arr [lI sc.sC,aI N,s,aI L]):=by rw[J 1 ai];exact h1
    by_cases C:j<D.length<;>simp[go_sem,f9,f11,f13,C,bm,P,Own.one a0,Own.cells a0]
    all_goals
     refine aQ (e:=98) (sz:=1) (bt:=24) (zv := .lst true []) (xs:=((qq k).map A).map fun r=>[lRel r]) [lRel (A k)] U.mu.length zSi zSi zSi rfl rfl zOm zOm ?_ (fun b h=>Own.lt ho h) ?_ ?_ ?_ zSo ?_
     .rcases ho with h|⟨b,h,hc⟩
      .exact .inl h
      .exact .inr ⟨b,h,by rw[J b (qg.1 hc).1];exact hc⟩
     .exact ⟨Own.rd (Ys a0 al) (vh _).ok fun r hr c hc=>by
       obtain⟨n,_,rfl⟩:=qi.1 hr;exact Zy n c hc,trivial⟩
     .intro r hr
      obtain⟨n,_,rfl⟩:=qi.1 hr;exact⟨rfl,rfl⟩
     .intro r hr
      simp at hr;subst hr;exact⟨rfl,rfl⟩
     intro b1 b2 ah b3 b4 ch cj;have ck:U.mu.length<=st2.mu.length:=by
      have:=J (U.mu.length-1) zOm;rw[qw (show U.mu.length-1<U.mu.length by omega)]at this;have:=(qg.1 this).1;omega
     have g1:b2[1]?=some (.arr [lI sc.sC,aI N,s,aI L]):=by rw[b3 1 zOm ai (fun h=>zW1 (hb 1 h))];exact P
     have g0:b2[0]?=some (.arr [.lst true [],aI 0,.lst true [],aI 0]):=by rw[b3 0 zOm ab (fun h=>zW1 (hb 0 h)),J 0 ab];exact h0
     have l1:=(qg.1 g1).1;simp[go_sem,f9,f11,g1,w1,Own.one ah,Own.cells ah]
     try refine⟨aj,aK ?_⟩
     try refine aK ?_
     refine⟨zS1 f2,zS1 f4,zS2 f5 hS,zS1 f8,zS1 f9,zS1 f10,zSi,b1,zS1 g0,zS1 l1,?_,fun b h=>zW1 (b4 b h)⟩;rw[List.range_succ,q9,q9];simpa[go_sem] using Own.set ah (.arr [lI sc.sC,aI N,b1,aI L]) (fun h=>zW1 (b4 1 h))
 .have bn:k=N:=by omega
  subst bn;have bo:s.one=true:=Own.one ho;have cl:s.cells=[s]:=Own.cells ho;have b5:∀ c,(U.mu.set 0 c)[0]?=some c:=fun c=>qI ab
  simp[go_sem,hS,e5,e8,e9,aa,h0,h1,bo,b5];have bq:=Own.set ho (i:=0) (.arr [lI sc.sC,aI k,s,aI L]) (fun h=>zW1 (hb 0 h));show Rd _ _ (.agg [lI sc.sC,aI sc.sN,lSt ((qq k).map A),aI L]);rw[hS];refine Rd.aggs ⟨.hf _ (zh _),.hf _ (HF.sc _),?_,.hf _ (HF.sc _),trivial⟩;exact Own.rd bq (fun r hr=>by
   obtain⟨n,_,rfl⟩:=qi.1 hr;rfl) fun r hr c hc=>by
   obtain⟨n,_,rfl⟩:=qi.1 hr;simp at hc;subst hc;exact Jt n
end IJ
set_option maxHeartbeats 1000000
namespace I5
open GH Y1 Y16 YF P1 Q4 Q8 E1 E3 E4 E9 F1 GD G5 GF GP GQ GR GS GU GV GW HE HH IB IF IJ IK IL I1 I2 W41
theorem kQ(raw):HF (lRaw raw):=HF.lst fun r i c g=>by
 obtain⟨l,_,rfl⟩:=qi.1 i;simp at g;subst g;exact HF.lst fun r i c g=>by
  obtain⟨x,_,rfl⟩:=qi.1 i;simp at g;subst g;exact HF.sc _
def tiny(m:Md):Prop:=SmS m.sK/\m.sc.sC.length<=1000
theorem eq07(a b)(h:tiny a):qd qb 12 [eMd a,eMd b] (aB (decide (a=b))):=
 qrY a b (zW1 h.2) (zW1 h.1.n) fun s g=>⟨zW1 (h.1.f s g),fun r i=>zW1 ((h.1.t s g r i).1)⟩
theorem has25(l m)(P:l.length<=1000000)(h:∀ x,x∈l->tiny x):qd qb 13 [lMd l,eMd m] (aB (decide (m∈l))):=by
 refine qSU call13 func13 rfl ?_;refine kT l.length (fun k U=>U.tm 0=lMd l/\U.tm 3 = .ip (cMd m)/\U.tm 5=aI k/\∀(i:Nat)(h:i<l.length),i<k->l[i]≠m) ?_ ?_
 .simp [go_sem, *]
 rintro k U R ⟨j,r,o,T⟩;by_cases g:k<l.length
 .have C:=zWk k
  have I:=h _ (qn g);have J:=eq07 l[k] m I;simp[go_sem,j,o,g];refine cZ zKr ?_;simp[go_sem,j,r,o,g];refine tC J (.zk (zr _) (.zk (zr _) .nil)) ?_;by_cases t:l[k]=m
  .simp [go_sem,t]
   rw[decide_eq_true (by grind)];exact .zsc _
  .simp [go_sem,t,o,g,C]
   try refine⟨g,aK ?_⟩
   try refine aK ?_
   refine⟨zS1 j,zS1 r,zSi,fun i h hi=>?_⟩
   grind
 .have p:k=l.length:=by omega
  subst p;simp[go_sem,j,o];rw[decide_eq_false (fun h=>by
   grind [List.mem_iff_getElem])]
  exact .zsc _
theorem qsH(a b)(hl:a.length<=1000000)(h:∀ x,x∈a->tiny x):qd qb 17 [lMd a,lMd b] (aB (decide (a=b))):=by
 refine qSV call17 func17 rfl ?_;by_cases j:a.length=b.length
 case neg =>
  rw[decide_eq_false (fun e=>j (by rw[e]))];simp[go_sem,j];exact .zsc _
 simp[go_sem,j];refine kT a.length (fun k U=>U.tm 0=lMd a/\U.tm 1=lMd b/\U.tm 5=aI k/\∀(i:Nat)(h:i<a.length)(p:i<b.length),i<k->a[i]=b[i]) ?_ ?_
 .simp [go_sem, *]
 rintro k U hk ⟨l,I,o,P⟩;by_cases g:k<a.length
 .have R:=zWk k
  have r:k<b.length:=zOm;have T:=h _ (qn g);have hq:=eq07 a[k] b[k] T;simp[go_sem,l,o,g];refine cZ zKr ?_;simp[go_sem,l,I,o,g,r];refine tC hq (.zk (zr _) (.zk (zr _) .nil)) ?_;by_cases t:a[k]=b[k]
  .simp [go_sem,t,o,g,R]
   try refine⟨g,aK ?_⟩
   try refine aK ?_
   refine⟨zS1 l,zS1 I,zSi,fun i h p hi=>?_⟩
   grind
  .simp [go_sem,t]
   rw[decide_eq_false (fun e=>t (by simp only[e]))];exact .zsc _
 .have C:k=a.length:=by omega
  subst C;simp[go_sem,l,o];rw[decide_eq_true (List.ext_getElem j fun i J p=>P i J p J)];exact .zsc _
theorem Qh(mu):Rd mu (.tup [.lst true [],.agg [.lst true [],aI 0,.lst true [],aI 0],aB false]) (.tup [lBd [],eMd mdZ,aB false]):=by
 refine .tup _ _ rfl fun j u v g i=>?_
 match j with
 | 0=>simp at g i;subst g;subst i;exact .wk _ true _ (.hf _ (HF.lst fun r l=>by simp at l))
 | 1=>grind [qm1]
 | 2=>simp at g i;subst g;subst i;exact .zsc _
 |j+3=>simp at g
theorem qsI(b m):HF (.tup [lBd b,eMd m,aB true]):=HF.tup (by simp only[List.mem_cons,qF,or_false,forall_eq_or_imp,forall_eq];grind [zZ,zr,HF.sc])
abbrev tupM(ts:TS)(sc:Sc)(raw:List (List Int))(g:List (List Bool))(lp:Int)(ok:Bool):AV:=if ok=true then .tup [lBd (zU ts sc raw),eMd (anyM sc (vsT ts) (defB ts sc) g (lp % sc.sN)),aB true] else .tup [lBd [],eMd mdZ,aB false]
def ok25(ts:TS)(sc:Sc)(raw:List (List Int))(n:Nd):Bool:=yM ts&&(jp ts sc&&(decide (sumI sc.sC<=5)&&(ze n&&(decide (jo ts=[])&&(decide (yr ts [] n=(0,0))&&(kE ts (sumI sc.sC) sc.sN n&&(decide ((chs (vsT ts) (qv (zU ts sc raw) 0) sc.sN.toNat).length<=8))))))))
theorem qeJ{ts}(g:bigT ts){sc raw n}(h:ok25 ts sc raw n=true):Cx ts sc (zU ts sc raw) sc.sN.toNat/\ze n=true/\(yr ts [] n).1=0:=by
 simp only[ok25,qD,decide_eq_true_eq]at h;obtain⟨i,j,l,o,p,r,I,J⟩:=h;have F:=ZK j;have t:=F.s1;have C:yW sc=true:=by
  simp_all[jp,qD]
 refine⟨⟨kC i g,p,F,C,l,kJ ts sc raw fun f hf=>JQ _ _ _,zOm,?_⟩,o,by rw[r]⟩;omega
theorem qsJ(ts)(hs:bigT ts)(sc raw)(hr:∀ l,l∈raw->∀ x,x∈l->0<=x/\x<=255)(n J lp)(a3:0<=lp/\lp<=255) :
  qd qb 7 [.agg (uf ts sc raw n J lp)] (tupM ts sc raw J lp (ok25 ts sc raw n)):=by
 generalize p:ok25 ts sc raw n=R;have C:=fun h=>qeJ (ts:=ts) hs (sc:=sc) (raw:=raw) (n:=n) h
 unfold ok25 at p C;obtain⟨op,o,i,ks,q⟩:=n;have a4:uf ts sc raw (.mk op o i ks q) J lp=[.lst false (ts.sS.map Qo),.lst false (ts.sA.map vG),lPd ts.sT,lFa ts.sP,lI sc.sC,aI sc.sN,lRaw raw,aI op,aS o,aI i,.lst false (ks.map cNd),aI q,lBB J,u8 lp]:=by unfold uf;rw[yx];rfl
 have a5:eNd (.mk op o i ks q) = .agg [aI op,aS o,aI i,.lst false (ks.map cNd),aI q]:=by rw[eNd,yx];rfl
 rw[a4];generalize hn:Nd.mk op o i ks q=n at *
 have wn:WK (.agg [aI op,aS o,aI i,.lst false (ks.map cNd),aI q]) (eNd n):=by rw[<-a5];exact .hf (qJ n)
 have t:WK (.agg [.lst false (ts.sS.map Qo),.lst false (ts.sA.map vG),lPd ts.sT,lFa ts.sP]) (eTS ts) := .hf (zl ts);have I:WK (.agg [lI sc.sC,aI sc.sN]) (eSc sc) := .hf (zA sc);refine qSU call7 func7 rfl ?_;refine fM ?_;refine tC (qk9 ts) (.cons t .nil) ?_;cases h1:yM ts with
 |false =>
  rw[h1]at p;replace p:false=R:=p;subst p;simp[go_sem];exact Qh _
 |true =>
 have S:=kC h1 hs;rw[h1,Bool.true_and]at p C;simp[go_sem];refine tC (qlE ts sc) (.cons t (.cons I .nil)) ?_;cases h2:jp ts sc with
 |false =>
  rw[h2]at p;replace p:false=R:=p;subst p;simp[go_sem];exact Qh _
 |true =>
 have F:=ZK h2;rw[h2,Bool.true_and]at p C;simp[go_sem];refine tC (nU sc F.g) (.cons I .nil) ?_;by_cases h3:sumI sc.sC<=5
 case neg =>
  have T:5<sumI sc.sC:=zOm;rw[decide_eq_false h3]at p;replace p:false=R:=p;subst p;simp[go_sem,T];exact Qh _
 have T:¬ 5<sumI sc.sC:=zOm;rw[decide_eq_true h3,Bool.true_and]at p C;simp[go_sem,T];refine tC (X5 n) (.cons wn .nil) ?_;cases h4:ze n with
 |false =>
  rw[h4]at p;replace p:false=R:=p;subst p;simp[go_sem];exact Qh _
 |true =>
 rw[h4,Bool.true_and]at p C;simp[go_sem];refine tC S.chk (.cons t .nil) ?_;by_cases h5:jo ts=[]
 case neg =>
  have U:0<(jo ts).length:=List.length_pos_iff.2 h5;rw[decide_eq_false h5]at p;replace p:false=R:=p;subst p;simp[go_sem,U];exact Qh _
 have U:(jo ts).length=0:=by rw[h5];rfl
 rw[decide_eq_true h5,Bool.true_and]at p C;simp[go_sem,U];refine tC (S.chkF h4) (.cons t (.cons (WK.lst fun r hr=>absurd hr qF) (.cons wn .nil))) ?_;by_cases h6:yr ts [] n=(0,0)
 case neg =>
  rw[decide_eq_false h6]at p;replace p:false=R:=p;subst p;generalize yr ts [] n=D at *
  obtain⟨d1,d2⟩:=D;by_cases g1:d1=0
  .have g2:¬d2=0:=fun e=>h6 (by rw[g1,e])
   simp[go_sem,g1,g2];exact Qh _
  .simp [go_sem,g1]
   exact Qh _
 rw[decide_eq_true h6,Bool.true_and]at p C;rw[h6];simp[go_sem];have a1:=F.g.sum sc.sC.length;rw[qO]at a1;have a7:=F.s1;have a8:=F.s4;refine fR (nU sc F.g) (.cons I .nil) ?_;refine tC (qrH S h5 (sumI sc.sC) sc.sN zOm zOm h4) (.cons t (.zs (.zs (.cons wn .nil)))) ?_;cases h7:kE ts (sumI sc.sC) sc.sN n with
 |false =>
  rw[h7]at p;replace p:false=R:=p;subst p;simp[go_sem];exact Qh _
 |true =>
 rw[h7,Bool.true_and]at p C;simp[go_sem];have hB:=kJ ts sc raw fun f hf=>JQ _ _ _
 have a9:(zU ts sc raw).length=ts.sA.length:=Qg ts sc raw;have aa:=F.nf;have a2:∀ x,x∈zU ts sc raw->x.up.ts.length<=1000/\x.lo.ts.length<=1000/\sorted x.lo.ts:=fun x C=>by
  obtain⟨j,hj,rfl⟩:=wC C;have h2:j<ts.sA.length:=zOm;have h:=kN F h3 (qn h2);obtain⟨s1,s2⟩:=hB.so _ C;have h4:=Zd s2 (hB.full j hj h2);have h5:=Zd s1 (hB.sub _ C);exact⟨zOm,zOm,s1⟩
 have a0:∀ x,x∈zU ts sc raw->Qa x:=fun x C=>by
  obtain⟨a,b,c⟩:=a2 x C;exact⟨zOm,zOm,c.imp fun h=>zOm⟩
 have a6:(qv (zU ts sc raw) 0).length<=100000:=by
  have:=kO 1000 (zU ts sc raw) 0 fun x C=>(a2 x C).1
  omega
 have cM:=qeI ts sc F raw hr;have cC:=qsB ts sc (zU ts sc raw) sc.sN.toNat zOm zOm zOm a0 zOm a6;refine fR cM (.cons t (.cons I (.zk (kQ raw) .nil))) ?_;refine tC cC (.cons t (.cons I (.zk (zZ _) .nil))) ?_;by_cases h8:(chs (vsT ts) (qv (zU ts sc raw) 0) sc.sN.toNat).length<=8
 case neg =>
  have P:(8:Int)<(chs (vsT ts) (qv (zU ts sc raw) 0) sc.sN.toNat).length:=zOm;rw[decide_eq_false h8]at p;subst p
  try simp only[qX,Int.natCast_add]at P
  simp[go_sem,P];exact Qh _
 have P:¬(8:Int)<(chs (vsT ts) (qv (zU ts sc raw) 0) sc.sN.toNat).length:=zOm;rw[decide_eq_true h8]at p;subst p
 try simp only[qX,Int.natCast_add]at P
 simp[go_sem,P];refine fM ?_;refine fR (Ka ts sc F) (.cons t (.cons I .nil)) ?_;refine fR (anyB ts sc F (defB ts sc) (by simp[defB]) (fun b hb=>(mW F h3 b hb).2.2) J lp a3) (.cons t (.cons I (.zk (zZ _) (.zk (mV _) (.zs .nil))))) ?_;exact .hf _ (qsI _ _)
end I5
namespace IM
open P1 G5 GP GR GW
variable {ts:TS} {sc:Sc} {b:List Bd} {N:Nat}
theorem qeK(F:Fit9 ts sc):BndV ts sc (defB ts sc):=by
 refine⟨by simp[defB],fun i h l=>?_,fun x g=>?_,fun x g t j=>?_,fun i h l t j=>?_⟩
 .simp [defB]
 .obtain ⟨f,hf,rfl⟩:=qi.1 g
  exact⟨List.Pairwise.nil,JQ _ _ _⟩
 .obtain ⟨f,hf,rfl⟩:=qi.1 g
  exact absurd j qF
 grind [defB]
end IM
namespace IG
open E3 F1 GB GD GF GU HB HC
def rowB(g:List (Int×Int))(m:Md)(s:Nat):List Bool:=g.map fun p=>bit m ((s:Int),p.1,p.2)
def wA(g:List (Int×Int))(m:Md)(k n:Nat):List Bool:=(List.range' k n).flatMap (rowB g m)
theorem qeL(g N m):wA g m 0 N=Zk g N m:=by
 simp only[wA,Zk,posF,List.range_eq_range',List.map_flatMap];congr 1;funext s;simp[rowB]
theorem qeM(g m k n):wA g m k (n+1)=rowB g m k++wA g m (k+1) n:=by
 simp[wA,List.range'_succ]
theorem qeN(g m s j h):(rowB g m s).drop j=bit m ((s:Int),g[j].1,g[j].2) :: (rowB g m s).drop (j+1):=by
 grind [List.drop_eq_getElem_cons,rowB]
theorem qeO(m)(s f:Nat)(t g)(hf:f<m.sK[s].length):bit m ((s:Int),(f:Int),t)=decide (t∈m.sK[s][f].ts):=by
 have e:(m.sK.getD s []).getD f noR=m.sK[s][f]:=by
  rw[zC (l:=m.sK),qw g];show (m.sK[s]).getD f noR=_;rw[zC,qw hf];rfl
 simp only[bit,Int.toNat_natCast,e]
structure LsM (n N:Nat) (m:Md):Prop where
 ns:m.sK.length=N
 len:∀ s,s∈m.sK->s.length=n
 so:∀ s,s∈m.sK->∀ r,r∈s->r.ts.length<=1000000000/\r.ts.Pairwise (·<·)
theorem qeP(m)(s f:Nat)(t g)(hf:f<m.sK[s].length)(i:m.sK[s][f].ts.length<=1000000000)(j:m.sK[s][f].ts.Pairwise (·<·)):qd qb 50 [eMd m,aI s,.agg [aI f,aI t]] (aB (decide (t∈m.sK[s][f].ts))):=by
 have l:=binU m.sK[s][f].ts t i (j.imp fun h=>zOm);refine qSU call50 func50 rfl ?_;refine cZ zKr ?_;simp[go_sem,g,hf];refine fR l (.zk (zh _) (.zs .nil)) ?_;exact .zsc _
theorem lessU(g a c N)(ga:LsM g.length N a)(gc:LsM g.length N c)(hl:g.length<=1000)(hb:∀ x,x∈g->Qa x)(hN:N<=1000):qd qb 20 [lBd g,eMd a,eMd c] (aB (jV (qv g 0) N a c)):=by
 have t:=qaB g hl hb;have C:=J5 g 0;have a0:=J3 g 0 hb;have a7:(qv g 0).length<=1000000000:=zt a0 zOm;generalize hF:qv g 0=F at *
 generalize hR:jV F N a c=R;unfold jV at hR;refine qSV call20 func20 rfl ?_;by_cases i:a.loop=c.loop
 case neg =>
  rw[if_neg i]at hR;subst hR;simp[go_sem,i];exact .zsc _
 rw[if_pos i,<-qeL,<-qeL]at hR;have na:=ga.ns;have nc:=gc.ns;simp[go_sem,i];refine fR t (.zk (zZ _) .nil) ?_;refine kT N (fun k U=>U.tm 4 = .ip (cMd a)/\U.tm 5 = .ip (cMd c)/\U.tm 7 = .fn (.func 50) [] []/\U.tm 8=lP F/\U.tm 9=aB false/\U.tm 29=aI N/\U.tm 30=aI k/\lexB (wA F a k (N-k)) (wA F c k (N-k))=R) ?_ ?_
 .simp [go_sem, *]
 rintro k U hk ⟨e4,e5,e7,e8,e9,l,o,p⟩;by_cases a3:k<N
 .have w1:=zWk k
  rw[show N-k=(N-(k+1))+1 by omega,qeM,qeM]at p;simp[go_sem,e8,l,o,a3];refine kT F.length (fun j st2=>st2.tm 4 = .ip (cMd a)/\st2.tm 5 = .ip (cMd c)/\st2.tm 7 = .fn (.func 50) [] []/\st2.tm 8=lP F/\st2.tm 9=aB false/\st2.tm 10=aI k/\st2.tm 29=aI N/\st2.tm 30=aI k/\st2.tm 33=lP F/\st2.tm 34=aI F.length/\st2.tm 35=aI j/\lexB ((rowB F a k).drop j++wA F a (k+1) (N-(k+1))) ((rowB F c k).drop j++wA F c (k+1) (N-(k+1)))=R) ?_ ?_
  .simp [go_sem, *]
  clear e4 e5 e7 e8 e9 l o p;rintro j st2 hj ⟨e4,e5,e7,e8,e9,I,l,o,a4,a5,a6,p⟩;by_cases r:j<F.length
  .have w2:=zWk j
   rw[qeN F a k j r,qeN F c k j r,yw,yw,lexB]at p;have hm:=C _ (qn r);obtain⟨f,hf⟩:=Int.eq_ofNat_of_zero_le (show 0<=F[j].1 by omega);have a8:f<g.length:=zOm;have ka:k<a.sK.length:=zOm;have kc:k<c.sK.length:=zOm;have la:=ga.len _ (qn ka);have lc:=gc.len _ (qn kc);have fa:f<a.sK[k].length:=zOm;have fc:f<c.sK[k].length:=zOm;obtain⟨a1,a2⟩:=ga.so _ (qn ka) _ (qn fa);obtain⟨c1,c2⟩:=gc.so _ (qn kc) _ (qn fc);have ca:=qeP a k f F[j].2 ka fa a1 a2;have cc:=qeP c k f F[j].2 kc fc c1 c2;rw[hf,qeO a k f _ ka fa,qeO c k f _ kc fc]at p;generalize decide (F[j].2∈a.sK[k][f].ts)=x at *
   generalize decide (F[j].2∈c.sK[k][f].ts)=y at *
   have a9:rP F[j]=[aI f,aI F[j].2]:=by rw[rP,hf]
   have wk:∀ m:Md,WKs [eMd m,aI k,.agg [aI f,aI F[j].2]] [eMd m,aI k,.agg [aI f,aI F[j].2]]:=fun m => .zk (zr m) (.zs (.zk (HF.agg fun c hc=>by simp at hc;rcases hc with rfl|rfl<;>exact HF.sc _) .nil))
   simp[go_sem,a4,a5,a6,r];refine cZ zKr ?_;simp[go_sem,e4,e7,I,hf];refine tC ca (wk a) ?_;simp[go_sem,e5,e7,I,hf];refine tC cc (wk c) ?_;by_cases J:x=y
   .simp_all [go_sem,if_pos,aK]
   .rw [if_neg J]at p
    subst p;have P:(x == y)=false:=zUs J;simp[go_sem,P];exact .zsc _
  .have T:j=F.length:=by omega
   simp_all[go_sem,rowB,List.drop_eq_nil_of_le,List.nil_append,aK]
 .have T:k=N:=by omega
  subst T;simp[wA,lexB]at p;subst p;simp[go_sem,e9,l,o];exact .zsc _
end IG
namespace I4
open E1 E3 EO ER EW F1 GD GF HI
theorem in_eq(a b):decide ((diR a b).ts=[])=inOk a b:=by
 rw[Bool.eq_iff_iff,decide_eq_true_eq]
 grind [diR,List.filter_eq_nil_iff,inOk,zb]
theorem Yl(b r)(l:b.lo.ts.length<=1000000)(o:b.up.ts.length<=1000000)(g:r.ts.length<=1000000):qd qb 42 [eBd b,eRel r] (aB (wthB b r)):=by
 have i:=inU b.lo r l g;have j:=inU r b.up g o;rw[in_eq]at i j;refine qSV call42 func42 rfl ?_;unfold wthB;by_cases c1:b.lo.ar=r.ar
 .by_cases c2:b.up.ar=r.ar
  .simp [go_sem,c1,c2]
   refine tC i (.cons (by rw[<-c1];exact .hf (qK _)) (.zk (qK _) .nil)) ?_;cases c3:inOk b.lo r with
   |false =>
    simp[go_sem,c1,c2,c3];exact .zsc _
   |true =>
    simp[go_sem,c1,c2,c3];refine tC j (.zk (qK _) (.cons (by rw[<-c2];exact .hf (qK _)) .nil)) ?_;simp[go_sem,c1,c2,c3];exact .zsc _
  .simp [go_sem,c1,c2]
   exact .zsc _
 .simp [go_sem,c1]
  exact .zsc _
theorem qsK(g s)(hl:g.length<=1000000)(hb:∀ b,b∈g->b.lo.ts.length<=1000000/\b.up.ts.length<=1000000)(hs:∀ r,r∈s->r.ts.length<=1000000) :
  qd qb 41 [lBd g,lRel s,.fn (.func 42) [] []] (aB (wthS g s)):=by
 refine qSV call41 func41 rfl ?_;by_cases p:s.length=g.length
 case neg =>
  have C:¬g.length=s.length:=fun e=>p e.symm
  have hf:wthS g s=false:=by grind [wthS,decide_eq_false]
  rw[hf];simp[go_sem,C];exact .zsc _
 simp[go_sem,p];refine kT g.length (fun k U=>U.tm 0=lBd g/\U.tm 1=lRel s/\U.tm 2 = .fn (.func 42) [] []/\U.tm 14=aI g.length/\U.tm 15=aI k/\∀(i:Nat)(h:i<k)(h1:i<g.length)(C:i<s.length),wthB g[i] s[i]=true) ?_ ?_
 .simp [go_sem, *]
 rintro k U hk ⟨J,P,R,l,o,T⟩;by_cases j:k<g.length
 .have w1:=zWk k
  have t:k<s.length:=zOm;obtain⟨b1,b2⟩:=hb _ (qn j);have hw:=Yl g[k] s[k] b1 b2 (hs _ (qn t));simp[go_sem,l,o,j];refine cZ zKr ?_;simp[go_sem,J,P,R,j,t];refine tC hw (.zk (J2 _) (.zk (qK _) .nil)) ?_;cases hq:wthB g[k] s[k] with
  |false =>
   have hf:wthS g s=false:=by
    unfold wthS;rw[Km (k:=k) zSo (zUs hq),Bool.and_false]
   rw[hf];simp[go_sem];exact .zsc _
  |true =>
   simp[go_sem,o,j,w1]
   try refine⟨j,aK ?_⟩
   try refine aK ?_
   refine⟨zS1 J,zS1 P,zS1 R,zS1 l,zSi,fun i h h1 C=>?_⟩
   grind
 .have I:k=g.length:=by omega
  have hf:wthS g s=true:=by
   simp_all[wthS,decide_eq_true,Bool.true_and,We,List.length_zip]
  rw[hf];simp[go_sem,l,o,I];exact .zsc _
theorem qsL(g s)(i:g.length<=1000000)(j:∀ b,b∈g->b.lo.ts.length<=1000000/\b.up.ts.length<=1000000)(l:∀ r,r∈s->r.ts.length<=1000000):qd qb 40 [lRel s,.ip [lBd g]] (aB (!wthS g s)):=by
 refine qSU call40 func40 rfl ?_;refine fR (qsK g s i j l) (.zk (zZ _) (.zk (Jt _) (.zk (nT _) .nil))) ?_;exact .zsc _
theorem qsM(xs l p)(hf:EO.FnOk qb l lRel (·∈xs) (fun x=>aB (p x)))(R:xs.length<=1000000000):qd qb 86 [lSt xs,l] (aI (jw p xs 0)):=by
 refine qSU call86 func86 rfl ?_;refine qh.up xs.length (fun k U=>U.tm 0=lSt xs/\U.tm 1=l/\U.tm 7=aI xs.length/\U.tm 8=aI k/\U.mu=[]/\jw p (xs.drop k) k=jw p xs 0) ?_ ?_
 .simp [go_sem]
 rintro k U T ⟨C,I,o,r,J,i⟩;by_cases g:k<xs.length
 .rw [Xy _ _ _ _ g]at i
  simp[go_sem,C,I,o,r,J,g];refine FnOk.call (enc:=lRel) hf (qn g) ?_;by_cases j:p xs[k]=true
  .rw [if_pos j]at i
   simp[go_sem,j];rw[<-i];exact .zsc _
  .rw [if_neg j]at i
   simp only[Bool.not_eq_true]at j;simp[go_sem,C,I,o,r,g,j]
   grind [zL]
 .have t:k=xs.length:=by omega
  subst t;rw[List.drop_length]at i;simp[go_sem,o,r,J];rw[<-i];exact .zsc _
theorem qsN(xs g p)(hf:EO.FnOk qb g lRel (·∈xs) (fun x=>aB (p x)))(i:xs.length<=1000000000):qd qb 43 [lSt xs,g] (aB (xs.any p)):=by
 refine qSU call43 func43 rfl ?_;refine tC (qsM xs g p hf i) (.zk (JM _) (.cons (.hf hf.1) .nil)) ?_;rw[<-Uo p xs 0 zOm];simp[go_sem];exact .zsc _
theorem qsO(g m)(p:g.length<=1000000)(C:m.sK.length<=1000000)(t:∀ b,b∈g->b.lo.ts.length<=1000000/\b.up.ts.length<=1000000)(os:∀ s,s∈m.sK->∀ r,r∈s->r.ts.length<=1000000):qd qb 15 [lBd g,eMd m] (aB (cntB g m)):=by
 have l:HF (.ip [lBd g]):=yU (zZ g);have i:HF (.fn (.func 40) [] [.ip [lBd g]]):=HF.fn (fun c j=>by simp at j) (fun c j=>by grind);have j:=qsN m.sK (.fn (.func 40) [] [.ip [lBd g]]) (fun s=>!wthS g s) ⟨i,_,[],[.ip [lBd g]],rfl,fun s o=>⟨[lRel s,.ip [lBd g]],by simpa using WKs.zk (Jt s) (.zk l .nil),qsL g s p t (os s o)⟩⟩ zOm;have e:(!m.sK.any fun s=>!wthS g s)=cntB g m:=by
  grind [cntB,List.not_any_eq_all_not]
 refine qSU call15 func15 rfl ?_;refine tC j (.zk (JM _) (.zk i .nil)) ?_;rw[<-e];simp[go_sem];exact .zsc _
end I4
set_option maxHeartbeats 1000000
namespace JK
open Y1 YF P1 E3 E4 F1 GF GP GQ GR GS GU GW HC IB IG IK IL IM I5 IT IM IG QB
def tsB:TS:=⟨[(⟨#[65]⟩,false)],[⟨⟨#[102]⟩,[0],true⟩],[],[]⟩
def scB(a s:Int):Sc:=⟨[a],s⟩
def bsB(l:List Int):List Bd:=[⟨⟨1,[]⟩,⟨1,l⟩⟩]
def kR:Nd := .mk 34 ⟨#[]⟩ 0 [.mk 1 ⟨#[102]⟩ 0 [] 0] 0
def mkM(sc:Sc)(l:List Int):Md:=⟨sc,[[⟨1,l⟩]],0⟩
theorem of25(sc l):qd qb 19 [eSc sc,lI l] (eMd (mkM sc l)):=by
 refine qSU call19 func19 rfl ?_;refine .agg _ _ rfl fun k x y g i=>?_
 match k with
 | 0=>simp[mkM]at g i;subst g;subst i;exact .hf _ (zh _)
 | 1=>simp[mkM]at g i;subst g;subst i;exact .zsc _
 | 2 =>
  simp[mkM]at g i;subst g;subst i;refine .wk _ true _ (.lst true _ _ rfl (fun k x y g i=>?_) fun k x y g i=>?_)
  .grind
  .match k with
   | 0=>simp at g i;subst g;subst i;exact .wk _ true _ (.hf _ (HF.lst fun r j c o=>by simp at j;subst j;simp at o;rcases o with rfl|rfl;exact HF.sc _;exact zh l))
   |k+1=>simp at g
 | 3=>simp[mkM]at g i;subst g;subst i;exact .zsc _
 |k+4=>simp at g
theorem wtsB:WK (.agg [.lst true [[aS ⟨#[65]⟩,aB false]],.lst true [[aS ⟨#[102]⟩,.lst true [[aI 0]],aB true]],.lst true [],.lst true []]) (eTS tsB):=
 WK.aggs (.cons (YJ ⟨.zs (.zs .nil),trivial⟩) (.cons (YJ ⟨.zs (.cons (WK.ints [0]) (.zs .nil)),trivial⟩) (.cons (YJ (by trivial)) (.cons (YJ (by trivial)) .nil))))
theorem wscB(a s):WK (.agg [.lst true [[aI a]],aI s]) (eSc (scB a s)):=WK.aggs (.cons (WK.ints [a]) (.zs .nil))
theorem wnB:WK (.agg [aI 34,aS ⟨#[]⟩,aI 0,.lst true [[aI 1,aS ⟨#[102]⟩,aI 0,.lst true [],aI 0]],aI 0]) (eNd kR):=qoN 34 ⟨#[]⟩ 0 0 (YJ ⟨qbO 1 ⟨#[102]⟩ 0 0 (YJ (by trivial)),trivial⟩)
theorem cxB(s:Int)(N:Nat)(i:s=N)(j:jp tsB (scB 2 s)=true)(l:yW (scB 2 s)=true)(p:defB tsB (scB 2 s)=bsB [0,1])(o:(chs (vsT tsB) (qv (bsB [0,1]) 0) N).length<=9):Cx tsB (scB 2 s) (bsB [0,1]) N:=
 ⟨kC (by decide +kernel) (by intro x g;simp[tsB]at g;subst g;decide),by decide +kernel,ZK j,l,by show sumI [2]<=5;decide,by grind [qeK,ZK],i,o⟩
theorem cx1:Cx tsB (scB 2 1) (bsB [0,1]) 1:=cxB 1 1 rfl (by decide +kernel) (by decide +kernel) (by decide +kernel) (by decide +kernel)
theorem cx2:Cx tsB (scB 2 2) (bsB [0,1]) 2:=cxB 2 2 rfl (by decide +kernel) (by decide +kernel) (by decide +kernel) (by decide +kernel)
theorem llB:LL tsB (scB 2 1) (bsB [0,1]) 1=[mkM (scB 2 1) [],mkM (scB 2 1) [1],mkM (scB 2 1) [0],mkM (scB 2 1) [0,1]]:=by decide +kernel
theorem mvB:MV tsB (scB 2 1) (bsB [0,1]) 1 kR=([mkM (scB 2 1) [1],mkM (scB 2 1) [0],mkM (scB 2 1) [0,1]],0):=by decide +kernel
theorem ll2:(LL tsB (scB 2 2) (bsB [0,1]) 2).length=32/\((LL tsB (scB 2 2) (bsB [0,1]) 2)[0]?.map Md.loop)=some 0/\((LL tsB (scB 2 2) (bsB [0,1]) 2)[16]?.map Md.loop)=some 1:=by decide +kernel
theorem memB(l)(h:l=[]\/l=[1]\/l=[0]\/l=[0,1]):mkM (scB 2 1) l∈LL tsB (scB 2 1) (bsB [0,1]) 1:=by
 rw[llB];rcases h with rfl|rfl|rfl|rfl<;>simp
theorem tinyB(l)(h:l=[]\/l=[1]\/l=[0]\/l=[0,1]):tiny (mkM (scB 2 1) l):=⟨cx1.sms (cx1.betw (memB l h)),by show [2].length<=_;decide⟩
theorem eqB(l)(h:l=[]\/l=[1]\/l=[0]\/l=[0,1]):qd qb 12 [eMd (mkM (scB 2 1) l),eMd (mkM (scB 2 1) l)] (aB true):=by
 have:=eq07 (mkM (scB 2 1) l) (mkM (scB 2 1) l) (tinyB l h)
 rwa[decide_eq_true rfl]at this
theorem lsB(l)(h:l=[]\/l=[1]\/l=[0]\/l=[0,1]):LsM (bsB [0,1]).length 1 (mkM (scB 2 1) l):=by
 have g:=cx1.betw (memB l h);have i:=cx1.sms g;exact⟨g.ns,g.len,fun s j r o=>⟨zW1 ((i.t s j r o).1),(i.t s j r o).2⟩⟩
theorem leB(l k)(g:l=[]\/l=[1]\/l=[0]\/l=[0,1])(i:k=[]\/k=[1]\/k=[0]\/k=[0,1]):qd qb 20 [lBd (bsB [0,1]),eMd (mkM (scB 2 1) l),eMd (mkM (scB 2 1) k)] (aB (jV (qv (bsB [0,1]) 0) 1 (mkM (scB 2 1) l) (mkM (scB 2 1) k))):=
 lessU _ _ _ 1 (lsB l g) (lsB k i) zDe cx1.okf zOm
theorem defB1:qd qb 18 [eTS tsB,eSc (scB 2 1)] (lBd (bsB [0,1])):=by
 have:=Ka tsB (scB 2 1) (ZK (by decide +kernel))
 rwa[show defB tsB (scB 2 1)=bsB [0,1] by decide +kernel]at this
theorem defB2:qd qb 18 [eTS tsB,eSc (scB 5 3)] (lBd (bsB [0,1,2,3,4])):=by
 have:=Ka tsB (scB 5 3) (ZK (by decide +kernel))
 rwa[show defB tsB (scB 5 3)=bsB [0,1,2,3,4] by decide +kernel]at this
theorem headK:qd qb 6 [] (aB true):=by
 have C:=cx1.inst;rw[llB]at C;have P:=cx2.inst;obtain⟨g,q2,q3⟩:=ll2;generalize LL tsB (scB 2 2) (bsB [0,1]) 2=l at *
 have o:∀ h:0<l.length,l[0].loop=0:=fun h=>by
  grind
 have i:∀ h:16<l.length,l[16].loop=1:=fun h=>by
  grind
 have o:=o zOm;have i:=i zOm;have I:=cx1.models (n:=kR) (by decide +kernel);rw[mvB]at I;have f5:Fit9 tsB (scB 5 3):=ZK (by decide +kernel);have R:=Kt tsB (scB 2 1) cx1.F cx1.z;have T:=qm8 tsB (scB 2 1) [] R (qm7 tsB (scB 2 1) cx1.F [] zDe);have d5:defB tsB (scB 5 3)=bsB [0,1,2,3,4]:=by decide +kernel
 have U:BndV tsB (scB 5 3) (bsB [0,1,2,3,4]):=by grind [qeK]
 have c5:=qaE tsB (scB 5 3) (bsB [0,1,2,3,4]) 3 rfl zOm zDe (by intro x J;simp[bsB]at J;subst J;exact⟨zDe,zDe,zDe⟩) zDe (by decide +kernel);have i4:=qm9 tsB (scB 5 3) (bsB [0,1,2,3,4]) _ (by decide +kernel) (Kt tsB (scB 5 3) f5 (by decide +kernel)) (qaS tsB (scB 5 3) _ f5 zDe U) c5;have p:=leB [1] [0] zSp zSp;rw[show jV (qv (bsB [0,1]) 0) 1 (mkM (scB 2 1) [1]) (mkM (scB 2 1) [0])=true by decide +kernel]at p;have t:=leB [1] [1] zSp zSp;rw[show jV (qv (bsB [0,1]) 0) 1 (mkM (scB 2 1) [1]) (mkM (scB 2 1) [1])=false by decide +kernel]at t;refine qSU call6 func6 rfl ?_;refine fR defB1 (.cons wtsB (.cons (wscB 2 1) .nil)) ?_;refine fR C (.cons wtsB (.cons (wscB 2 1) (.zk (zZ _) .nil))) ?_;refine fR I (.cons wtsB (.cons (wscB 2 1) (.zk (zZ _) (.cons wnB .nil)))) ?_;refine fR P (.cons wtsB (.cons (wscB 2 2) (.zk (zZ _) .nil))) ?_;refine fR T (.cons wtsB (.cons (wscB 2 1) (.cons (WK.lst fun r j=>absurd j qF) .nil))) ?_;refine fM ?_;refine fR defB2 (.cons wtsB (.cons (wscB 5 3) .nil)) ?_;refine tC i4 (.cons wtsB (.cons (wscB 5 3) (.zk (zZ _) .nil))) ?_;simp[go_sem,g]
 first|refine tC (of25 (scB 2 1) []) (.cons (wscB 2 1) (.cons (WK.lst fun r j=>absurd j qF) .nil)) ?_ | (refine cZ zKr ?_;simp[go_sem,g];refine tC (of25 (scB 2 1) []) (.cons (wscB 2 1) (.cons (WK.lst fun r j=>absurd j qF) .nil)) ?_)
 simp[go_sem,g]
 first|refine tC (eqB [] zSp) (.zk (zr _) (.zk (zr _) .nil)) ?_ | (refine cZ zKr ?_;simp[go_sem,g];refine tC (eqB [] zSp) (.zk (zr _) (.zk (zr _) .nil)) ?_)
 simp[go_sem,g]
 first|refine tC (of25 (scB 2 1) [1]) (.cons (wscB 2 1) (.cons (WK.ints [1]) .nil)) ?_ | (refine cZ zKr ?_;simp[go_sem,g];refine tC (of25 (scB 2 1) [1]) (.cons (wscB 2 1) (.cons (WK.ints [1]) .nil)) ?_)
 simp[go_sem,g]
 first|refine tC (eqB [1] zSp) (.zk (zr _) (.zk (zr _) .nil)) ?_ | (refine cZ zKr ?_;simp[go_sem,g];refine tC (eqB [1] zSp) (.zk (zr _) (.zk (zr _) .nil)) ?_)
 simp[go_sem,g]
 first|refine tC (of25 (scB 2 1) [0]) (.cons (wscB 2 1) (.cons (WK.ints [0]) .nil)) ?_ | (refine cZ zKr ?_;simp[go_sem,g];refine tC (of25 (scB 2 1) [0]) (.cons (wscB 2 1) (.cons (WK.ints [0]) .nil)) ?_)
 simp[go_sem,g]
 first|refine tC (eqB [0] zSp) (.zk (zr _) (.zk (zr _) .nil)) ?_ | (refine cZ zKr ?_;simp[go_sem,g];refine tC (eqB [0] zSp) (.zk (zr _) (.zk (zr _) .nil)) ?_)
 simp[go_sem,g]
 first|refine tC (eqB [1] zSp) (.zk (zr _) (.zk (zr _) .nil)) ?_ | (refine cZ zKr ?_;simp[go_sem,g];refine tC (eqB [1] zSp) (.zk (zr _) (.zk (zr _) .nil)) ?_)
 simp[go_sem,g]
 first|refine tC (of25 (scB 2 1) [0,1]) (.cons (wscB 2 1) (.cons (WK.ints [0,1]) .nil)) ?_ | (refine cZ zKr ?_;simp[go_sem,g];refine tC (of25 (scB 2 1) [0,1]) (.cons (wscB 2 1) (.cons (WK.ints [0,1]) .nil)) ?_)
 simp[go_sem,g]
 first|refine tC (eqB [0,1] zSp) (.zk (zr _) (.zk (zr _) .nil)) ?_ | (refine cZ zKr ?_;simp[go_sem,g];refine tC (eqB [0,1] zSp) (.zk (zr _) (.zk (zr _) .nil)) ?_)
 simp[go_sem,g]
 first|refine tC (p) (.zk (zZ _) (.zk (zr _) (.zk (zr _) .nil))) ?_ | (refine cZ zKr ?_;simp[go_sem,g];refine tC (p) (.zk (zZ _) (.zk (zr _) (.zk (zr _) .nil))) ?_)
 simp[go_sem,g]
 first|refine tC (t) (.zk (zZ _) (.zk (zr _) (.zk (zr _) .nil))) ?_ | (refine cZ zKr ?_;simp[go_sem,g];refine tC (t) (.zk (zZ _) (.zk (zr _) (.zk (zr _) .nil))) ?_)
 simp[go_sem,g,o,i];exact .zsc _
end JK
set_option maxHeartbeats 1000000
namespace W42
open Y1 YF P1 E3 GS HI IC IK IL I4 I5 W41
theorem qsP(ts sc raw n g lp):HF (.agg (uf ts sc raw n g lp)):=HF.agg fun c i=>by
 unfold uf at i;simp only[List.mem_append,List.mem_cons,qF,or_false]at i;rcases i with h | (rfl|rfl|rfl)|h|rfl|rfl
 .exact Uk ts c (by simpa[cTS] using h)
 .exact zh _
 .exact HF.sc _
 .exact kQ raw
 .exact vj n c h
 .exact mV _
 .exact HF.sc _
theorem _root_.Go.Proofs.YtfednihcpihlgaaGreatDoor.IK.Cx.tiny{ts sc b N}(X:Cx ts sc b N){m}(h:Betw sc (vsT ts) b N m):tiny m:=
 ⟨X.sms h,by rw[h.sc];have:=X.F.g.1;have:=X.F.ns;have:=X.S.h.ns;omega⟩
theorem _root_.Go.Proofs.YtfednihcpihlgaaGreatDoor.IK.Cx.cnt{ts sc b c N}(X:Cx ts sc b N)(p:c.length<=6)(i:∀ x,x∈c->x.up.ts.length<=1000/\x.lo.ts.length<=1000){m}(h:m∈LL ts sc b N):qd qb 15 [lBd c,eMd m] (aB (cntB c m)):=by
 have g:=X.sms (X.betw h);exact qsO c m zOm (zW1 g.n) (fun x j=>zW1 (i x j)) fun s l r o=>zW1 ((g.t s l r o).1)
end W42
namespace I6
open E1 EO EP EQ ER F4 GD GF GR GS HI ID
theorem qsQ(x y)(g:x.up.ar=x.lo.ar)(i:y.lo.ar=x.lo.ar)(j:y.up.ar=x.lo.ar):qd qb 44 [eBd x,eBd y] (aB true):=by
 refine qSV call44 func44 rfl ?_;simp[go_sem,g,i,j];exact .zsc _
theorem qsR(b c)(r:b.length=c.length)(hm:b.length<=1000000)(J:∀(i h1)(h2:i<c.length),b[i].up.ar=b[i].lo.ar/\c[i].lo.ar=b[i].lo.ar/\c[i].up.ar=b[i].lo.ar) :
  qd qb 45 [lBd b,lBd c,.fn (.func 44) [] []] (aB true):=by
 refine qSV call45 func45 rfl ?_;simp[go_sem,r];refine kT b.length (fun k U=>U.tm 0=lBd b/\U.tm 1=lBd c/\U.tm 2 = .fn (.func 44) [] []/\U.tm 14=aI b.length/\U.tm 15=aI k) ?_ ?_
 .exact ⟨zSi,zSi,zSi,zS1 r,zSi⟩
 rintro k U hk ⟨t,C,I,j,l⟩;by_cases g:k<b.length
 .have P:=zWk k
  have o:k<c.length:=zOm;obtain⟨R,T,a3⟩:=J k g o;simp[go_sem,j,l,g];refine cZ zKr ?_;simp[go_sem,t,C,I,g,o];refine tC (qsQ b[k] c[k] R T a3) (.zk (J2 _) (.zk (J2 _) .nil)) ?_;simp[go_sem,l,g,P]
  try refine⟨g,aK ?_⟩
  try refine aK ?_
  exact⟨zS1 t,zS1 C,zS1 I,zS1 j,zSi⟩
 .have p:k=b.length:=by omega
  simp[go_sem,j,l,p];exact .zsc _
theorem qeQ{mu a b x y}(j:Rd mu a x)(l:Rd mu b y):Rd mu (.tup [a,b]) (.tup [x,y]):=by
 refine .tup _ _ rfl (fun k u v g i=>?_)
 match k with
 | 0=>simp at g i;subst g;subst i;exact j
 | 1=>simp at g i;subst g;subst i;exact l
 |k+2=>simp at g
def Vp(b c:List Bd):List Bd×Int:=if (zi b c).all fitZ=true then (zi b c,0) else ([],100)
theorem kS(l:List Bd):zc 4 (l.map cBd):=fun r g=>by
 obtain⟨n,_,rfl⟩:=qi.1 g;exact⟨rfl,rfl⟩
theorem meetU(b c)(hl:b.length=c.length)(hm:b.length<=1000)(ha:∀(i h1)(h2:i<c.length),b[i].up.ar=b[i].lo.ar/\c[i].lo.ar=b[i].lo.ar/\c[i].up.ar=b[i].lo.ar)
  (hb:∀ x,x∈b->x.lo.ts.length<=10000/\x.up.ts.length<=10000) (hc:∀ x,x∈c->x.lo.ts.length<=10000/\x.up.ts.length<=10000) :
  qd qb 16 [lBd b,lBd c] (.tup [lBd (Vp b c).1,aI (Vp b c).2]):=by
 have hp:=qsR b c hl zOm ha;have a7:=Zl hl;generalize hR:Vp b c=R;unfold Vp at hR;have a1:HF (.fn (.func 44) [] []):=nT _;refine qSU call16 func16 rfl ?_;refine fR hp (.zk (zZ _) (.zk (zZ _) (.zk a1 .nil))) ?_;refine kT b.length (fun k I=>I.tm 1=lBd c/\I.tm 16=lBd b/\I.tm 17=aI b.length/\I.tm 18=aI k/\Own I.mu 4 (I.tm 7) (((zi b c).take k).map cBd)/\∀(i:Nat)(h:i<(zi b c).length),i<k->fitZ (zi b c)[i]=true) ?_ ?_
 .exact ⟨zSi,zSi,zSi,zSi,.inl zSi,fun i h hi=>absurd hi (Nat.not_lt_zero i)⟩
 rintro k I hk ⟨e1,a0,J,P,ho,C⟩;by_cases l:k<b.length
 .have w1:=zWk k
  have t:k<c.length:=zOm;have T:k<(zi b c).length:=zOm;have hz:=wu T l t;obtain⟨b1,b2⟩:=hb _ (qn l);obtain⟨c1,c2⟩:=hc _ (qn t);have cU:=jT b[k].lo c[k].lo zOm zOm;have cI:=JN b[k].up c[k].up zOm zOm;have lU:(unR b[k].lo c[k].lo).ts.length<=20000:=by
   have:=nt (b[k].lo.ts++c[k].lo.ts) (b[k].lo.ts++c[k].lo.ts).length;rw[qO]at this;show (ofL _).length<=_;simp only[qX]at this;omega
  have a8:(inR b[k].up c[k].up).ts.length<=10000:=zt (List.length_filter_le _ _) b2;have cN:=inU (unR b[k].lo c[k].lo) (inR b[k].up c[k].up) zOm zOm;have a2:decide ((diR (unR b[k].lo c[k].lo) (inR b[k].up c[k].up)).ts=[])=fitZ (zi b c)[k]:=by rw[hz];rfl
  rw[a2]at cN;have a3:cBd (zi b c)[k]=[aI (unR b[k].lo c[k].lo).ar,lI (unR b[k].lo c[k].lo).ts,aI (inR b[k].up c[k].up).ar,lI (inR b[k].up c[k].up).ts]:=by rw[hz];rfl
  have wR:∀ r s:Rl,WKs [eRel r,eRel s] [eRel r,eRel s]:=fun r s => .zk (qK r) (.zk (qK s) .nil)
  generalize unR b[k].lo c[k].lo=U at *
  generalize inR b[k].up c[k].up=V at *
  simp[go_sem,a0,J,P,l];refine cZ zKr ?_;simp[go_sem,e1,t];refine tC cU (wR _ _) ?_;simp[go_sem,e1,t];refine fR cI (wR _ _) ?_;refine tC cN (wR _ _) ?_;cases hq:fitZ (zi b c)[k] with
  |false =>
   have o:¬(zi b c).all fitZ=true:=fun h=>by
    have:=zb.1 h _ (qn T);rw[hq]at this;cases this
   rw[if_neg o]at hR;subst hR;simp[go_sem];exact qeQ (.wk _ true _ (.hf _ (HF.lst fun r hr=>absurd hr qF))) (.hf _ (HF.sc _))
  |true =>
   simp[go_sem];refine qu.ownB (e:=102) (sz:=4) (bt:=64) (zv := .agg [aI 0,.lst true [],aI 0,.lst true []]) (xs:=((zi b c).take k).map cBd) (ys:=[cBd (zi b c)[k]]) zSi zSi zSi rfl rfl zOm zOm (Own.push ho _) (by rw[a3];simp[qz]) (kS _) (kS [_]) zSo ?_;intro a9 j a4 _ _ _;simp[go_sem,P,l,w1]
   try refine⟨l,aK ?_⟩
   try refine aK ?_
   refine⟨zS1 e1,zS1 a0,zS1 J,zSi,?_,fun i h hi=>?_⟩
   .rw [yb T,q9]
    simpa[go_sem] using a4
   .by_cases a5:i<k
    .exact C i h a5
    .obtain rfl:i=k:=by omega
     exact hq
 .have a6:k=b.length:=by omega
  have o:(zi b c).all fitZ=true:=We fun i hi=>C i hi zOm
  rw[if_pos o]at hR;subst hR;rw[List.take_of_length_le zOm]at ho;simp[go_sem,J,P,a6];refine qeQ (Own.rd ho (kS _).ok fun r hr=>?_) (.hf _ (HF.sc _));obtain⟨x,_,rfl⟩:=qi.1 hr;exact UE x
end I6
set_option maxHeartbeats 1000000
namespace W46
open Y1 YF P1 E3 E4 EO EP EQ F1 F4 G5 GF GH GR GS GV GW HE HI IB ID IK IL I2 I5 W41 W42 I6
theorem qeR{ts sc b c N}(X:Cx ts sc b N)(C:BndV ts sc c):∀ x,x∈c->x.up.ts.length<=1000/\x.lo.ts.length<=1000:=fun x g=>by
 obtain⟨i,j,rfl⟩:=wC g;have l:i<ts.sA.length:=by rw[<-C.len];exact j
 obtain⟨s1,o⟩:=C.so _ g;have h:=kN X.F X.h5 (qn l);have p:=Zd o (C.full i j l);have r:=Zd s1 (C.sub _ g);exact⟨zOm,zOm⟩
theorem qsS(ts)(hs:bigT ts)(sc raw)(hr:∀ l,l∈raw->∀ x,x∈l->0<=x/\x<=255)(n I lp)(ak:0<=lp/\lp<=255)(t)(al:∀ l,l∈t->∀ x,x∈l->0<=x/\x<=255) :
  qd qb 5 [.agg (uf ts sc raw n I lp),lRaw t] (aB true):=by
 have a0:=qsJ ts hs sc raw hr n I lp ak;have hx:=fun h=>qeJ (ts:=ts) hs (sc:=sc) (raw:=raw) (n:=n) h
 obtain⟨op,o,i,ks,q⟩:=n;have a7:uf ts sc raw (.mk op o i ks q) I lp=[.lst false (ts.sS.map Qo),.lst false (ts.sA.map vG),lPd ts.sT,lFa ts.sP,lI sc.sC,aI sc.sN,lRaw raw,aI op,aS o,aI i,.lst false (ks.map cNd),aI q,lBB I,u8 lp]:=by unfold uf;rw[yx];rfl
 have an:eNd (.mk op o i ks q) = .agg [aI op,aS o,aI i,.lst false (ks.map cNd),aI q]:=by rw[eNd,yx];rfl
 have wc:WK (.agg (uf ts sc raw (.mk op o i ks q) I lp)) (.agg (uf ts sc raw (.mk op o i ks q) I lp)) := .hf (qsP ts sc raw _ I lp);rw[a7]at wc⊢;rw[a7]at a0;generalize hn:Nd.mk op o i ks q=n at *
 have wn:WK (.agg [aI op,aS o,aI i,.lst false (ks.map cNd),aI q]) (eNd n):=by rw[<-an];exact .hf (qJ n)
 have a9:WK (.agg [.lst false (ts.sS.map Qo),.lst false (ts.sA.map vG),lPd ts.sT,lFa ts.sP]) (eTS ts) := .hf (zl ts);have aa:WK (.agg [lI sc.sC,aI sc.sN]) (eSc sc) := .hf (zA sc);refine qSU call5 func5 rfl ?_;refine fR JK.headK .nil ?_;refine tC a0 (.cons wc .nil) ?_;cases ao:ok25 ts sc raw n with
 |false =>
  simp[go_sem,tupM];exact .zsc _
 |true =>
 simp only[tupM,reduceIte];obtain⟨X,af,b1⟩:=hx ao;generalize hb:zU ts sc raw=b at *
 generalize hN:sc.sN.toNat=N at *
 have b2:=X.hS;have wb:WK (lBd b) (lBd b) := .hf (zZ b);have ab:∀ m,m∈LL ts sc b N->tiny m:=fun m hm=>X.tiny (X.betw hm)
 have aq:=X.len;have cM:=qeI ts sc X.F t al;have C:BndV ts sc (zU ts sc t):=kJ ts sc t fun f hf=>JQ _ _ _
 generalize b3:zU ts sc t=c at *
 have ar:c.length<=6:=by rw[C.len];exact X.F.nf
 have au:b.length=c.length:=by rw[X.B.len,C.len]
 have ag:=qeR X C;have av:=qeR X X.B;have cT:=meetU b c au (zW1 X.bl) (fun i h1 h2=>by
  have hf:i<ts.sA.length:=by rw[<-C.len];exact h2
  obtain⟨a1,a2⟩:=X.B.lo i h1 hf;obtain⟨a3,a4⟩:=C.lo i h2 hf;exact⟨by rw[a1,a2],by rw[a1,a3],by rw[a1,a4]⟩) (fun x hx=>zW1 (av x hx)) (fun x hx=>zW1 (ag x hx))
 have hM:=X.models af;have R:=(Cx.qr5 (ts:=ts) (sc:=sc) (b:=b) (N:=N) (n:=n));have b4:=R.length_le;have a7:∀ m,m∈(MV ts sc b N n).1->qd qb 15 [lBd c,eMd m] (aB (cntB c m)):=fun m hm=>X.cnt (c:=c) ar ag (R.subset hm)
 have ah:∀ m,m∈(MV ts sc b N n).1->cntB c m=true->∀ z,z∈zi b c->fitZ z=true:=fun m hm hc=>qrZ X.B C X.N1 (X.betw (R.subset hm)) hc
 have ad:(MV ts sc b N n).2=0->(∀ z,z∈zi b c->fitZ z=true)->qd qb 10 [eTS ts,eSc sc,lBd (zi b c),eNd n] (.tup [lMd ((MV ts sc b N n).1.filter fun m=>cntB c m),aI 0]):=fun h1 hz=>by
  have h:=(IL.Cx.meet X C hz).models af
  rwa[qr6 X C hz h1]at h
 have ae:∀ m,m∈(MV ts sc b N n).1->tiny m:=fun m hm=>ab m (R.subset hm)
 have ai:WK (lBd c) (lBd c) := .hf (zZ c);have aw:WK (lBd (zi b c)) (lBd (zi b c)) := .hf (zZ _);generalize (MV ts sc b N n).2=er at *
 generalize (MV ts sc b N n).1=P at *
 generalize hL:LL ts sc b N=L at *
 simp[go_sem];refine fR cM (.cons a9 (.cons aa (.zk (kQ t) .nil))) ?_
 try(refine cZ zKr ?_;simp[go_sem])
 refine tC hM (.cons a9 (.cons aa (.cons wb (.cons wn .nil)))) ?_;by_cases he:er=0
 case neg =>
  simp[go_sem,he];exact .zsc _
 subst he;simp[go_sem];refine kT P.length (fun k U=>U.tm 2 = .ip [.lst false (ts.sS.map Qo),.lst false (ts.sA.map vG),lPd ts.sT,lFa ts.sP,lI sc.sC,aI sc.sN,lRaw raw,aI op,aS o,aI i,.lst false (ks.map cNd),aI q,lBB I,u8 lp]/\U.tm 5=aB true/\U.tm 6=lBd b/\U.tm 9=lBd c/\U.tm 10=lMd P/\U.tm 13=aI k/\Own U.mu 4 (U.tm 12) (((P.take k).filter fun m=>cntB c m).map cMd)) ?_ ?_
 .exact ⟨zSi,zSi,zSi,zSi,zSi,zSi,.inl zSi⟩
 rintro k U hk ⟨e2,e5,e6,e9,a5,a6,ho⟩;by_cases J:k<P.length
 .have w1:=zWk k
  have hm:=qn J;have cC:=a7 _ hm;have b5:((P.take k).filter fun m=>cntB c m).length<=P.length:=zt (List.length_filter_le _ _) (List.length_take_le' _ _);have a8:(P.take (k+1)).filter (fun m=>cntB c m)=(P.take k).filter (fun m=>cntB c m)++(if cntB c P[k]=true then [P[k]] else []):=by
   rw[yb J,List.filter_append];congr 1;cases h:cntB c P[k]<;>simp[h]
  simp[go_sem,e9,a5,a6,J];refine tC cC (.cons ai (.zk (zr _) .nil)) ?_;cases hc:cntB c P[k] with
  |false =>
   rw[hc]at a8;simp[go_sem,a6,J,w1]
   try refine⟨J,aK ?_⟩
   try refine aK ?_
   refine⟨zS1 e2,zS1 e5,zS1 e6,zS1 e9,zS1 a5,zSi,?_⟩;rw[a8];simpa[go_sem] using ho
  |true =>
   rw[hc]at a8;simp[go_sem]
   first|skip | (refine cZ zKr ?_;simp[go_sem])
   simp[go_sem,a5,a6,J];refine qu.ownB (e:=43) (sz:=4) (bt:=64) (zv := .agg [.lst true [],aI 0,.lst true [],aI 0]) (xs:=((P.take k).filter fun m=>cntB c m).map cMd) (ys:=[cMd P[k]]) zSi zSi zSi rfl rfl zOm zOm ho (by simp[qz]) (Zc _) (Zc [_]) zSo ?_;intro b6 j ax _ _ _;simp[go_sem,a6,J,w1]
   try refine⟨J,aK ?_⟩
   try refine aK ?_
   refine⟨zS1 e2,zS1 e5,zS1 e6,zS1 e9,zS1 a5,zSi,?_⟩;rw[a8,q9];simpa[go_sem] using ax
 have ay:k=P.length:=zOm;subst ay;rw[qO]at ho;simp[go_sem,a5,a6]
 first|skip | (refine cZ zKr ?_;simp[go_sem])
 simp[go_sem,e6,e9];refine tC cT (.cons wb (.cons ai .nil)) ?_;unfold Vp;by_cases hz:(zi b c).all fitZ=true
 case neg =>
  have aj:P.filter (fun m=>cntB c m)=[]:=by
   rw[List.filter_eq_nil_iff];intro m hm az;exact hz (zb.2 (ah m hm az))
  rw[aj]at ho;simp only[List.map_nil]at ho;rw[if_neg hz];simp[go_sem,e5];refine tA (aI 0) (by rcases ho with h|⟨b',h,_⟩<;>rw[h]<;>simp) ?_;simp[go_sem];exact .zsc _
 rw[if_pos hz];have cG:=ad rfl (zb.1 hz);have cS:=qsH (P.filter fun m=>cntB c m) (P.filter fun m=>cntB c m) (zt (List.length_filter_le _ _) zOm) fun m hm=>ae m (List.mem_filter.1 hm).1
 rw[decide_eq_true rfl]at cS;generalize P.filter (fun m=>cntB c m)=T at *
 simp[go_sem,e2];refine tC cG (.cons a9 (.cons aa (.cons aw (.cons wn .nil)))) ?_;simp[go_sem,e5];refine fX (args':=[lMd T,lMd T]) cS ⟨.hf _ (qaL T),Own.rd ho (Zc _).ok (fun r hr=>?_),trivial⟩ (FL.sc _) ?_
 .obtain ⟨x,_,rfl⟩:=qi.1 hr;exact Xz x
 simp[go_sem];exact .zsc _
end W46
namespace DL
open Go.EvW Go.RowKit Go.ChangeShapes Go.WideShapes
theorem own:ownKnob qb.godebug=none:=by kernel_rfl
theorem laid:laidOutB qb=true:=by kernel_rfl
abbrev tabL : List (String × DataW Unit) := [("math/bits.deBruijn32tab", Rows.laid_math_bits_deBruijn32tab), ("math/bits.deBruijn64tab", Rows.laid_math_bits_deBruijn64tab), ("internal/strconv.uint64pow10", Rows.laid_internal_strconv_uint64pow10)]
def pows:List Int:=[1,10,100,1000,10000,100000,1000000,10000000,100000000,1000000000,10000000000,100000000000,1000000000000,10000000000000,100000000000000,1000000000000000,10000000000000000,100000000000000000,1000000000000000000,10000000000000000000]
theorem gPow : qb.globalNamed "internal/strconv.uint64pow10" = some 0 := by kernel_rfl
theorem tPow:(qb.globals[0]?).map (·.type)=some 354:=by kernel_rfl
theorem uPow:qb.underlying 354=some (.array 20 311):=by kernel_rfl
theorem uU64:qb.underlying 311=some (.int .u64):=by kernel_rfl
theorem qsT{W}(h:laidMetH qb tabL W):Zn (·<W.heap.size) W.heap:=by
  rw[MakeChecks.laidMetH_plain _ _ _ zKr]at h;obtain⟨ps,I,_⟩:=h
  obtain ⟨g, t, l, o, p, J, P, R, T⟩ := qbK I ("internal/strconv.uint64pow10", Rows.laid_internal_strconv_uint64pow10) zSp
  obtain rfl:=Option.some.inj (gPow.symm.trans J);obtain rfl:=Option.some.inj (tPow.symm.trans P);have U:l.toList=pows.map fun i => .int .u64 i:=qn6 uPow uU64 zKr zKr (ns:=pows) T
  obtain⟨e,fr,C⟩:=qn7 gPow R;intro x j;have j:x∈[(0,pows.map fun i=>Value.int .u64 i)]:=j;rw[List.mem_singleton]at j;subst j;refine⟨(Array.getElem?_eq_some_iff.1 C).1,e,fr,?_⟩;show W.heap[0]?=_;rw[C];have:l=(pows.map fun i=>Value.int .u64 i).toArray:=by rw[<-U]
  rw[this]
theorem qsU(os args):laidMetH qb tabL ((World.doorLaid qb 4000 os).forCall (fun _ _=>0) ⟨#[],args,[]⟩).memory:=
 laidMetH_of_parts3 (fuel:=8) (laidMet_of_run' 8 zKr zKr) zKr zKr
end DL
namespace DM
open Go.EvW E3 DT
instance:Inhabited Rl:=⟨⟨0,[]⟩⟩
instance:Inhabited Sc:=⟨⟨[],0⟩⟩
instance:Inhabited Md:=⟨⟨default,[],0⟩⟩
theorem shRel(N):ShU qb N 100 cRel (fun _=>True):=
 ((ShU.struct (fs:=[(3,0),(28,1)]) zKr (.cons' (o':=1) zKr (ZR N) (.cons' (o':=2) zKr (KJ N) (.nil 2))) zKr).map
  (fun x=>(⟨x.1,x.2.1⟩:Rl)) (fun _=>rfl) (fun x h=>trivial)).le zOm
theorem qsV(N):ShU qb N 30 (fun s:Sc=>[lI s.sC,aI s.sN]) (fun _=>True):=
 ((ShU.struct (fs:=[(28,0),(3,1)]) zKr (.cons' (o':=1) zKr (KJ N) (.cons' (o':=2) zKr (ZR N) (.nil 2))) zKr).map
  (fun x=>(⟨x.1,x.2.1⟩:Sc)) (fun _=>rfl) (fun x h=>trivial)).le zOm
end DM
namespace DN
open Go.EvW P1 Y1 EO DT GS W41
theorem qsW:qb.underlying 128=some (.slice 4):=by kernel_rfl
theorem unBB:qb.underlying 36=some (.slice 128):=by kernel_rfl
theorem unU8s:qb.underlying 103=some (.slice 5):=by kernel_rfl
theorem qeS:qb.underlying 32=some (.slice 103):=by kernel_rfl
theorem qsX(N):ShU qb N 128 (fun l:List Bool=>[lB l]) (fun _=>True):=
 ((ShU.slice qsW (KI N) (fun _ _=>zKr) (Nat.lt_of_lt_of_eq Nat.zero_lt_one zKr) zKr).le zOm).map (fun l=>l) (fun _=>rfl) fun _ _=>trivial
theorem shBB(N):ShU qb N 36 (fun l:List (List Bool)=>[lBB l]) (fun _=>True):=
 ((ShU.slice unBB (qsX N) (fun _ _=>zKr) (Nat.lt_of_lt_of_eq Nat.zero_lt_one zKr) zKr).le zOm).map (fun l=>l) (fun _=>rfl) fun _ _=>trivial
abbrev Wh:=TS×Sc×List (List Int)×Nd×List (List Bool)×Int
abbrev cCs(x:Wh):List AV:=uf x.1 x.2.1 x.2.2.1 x.2.2.2.1 x.2.2.2.2.1 x.2.2.2.2.2
end DN
namespace DO
open Go.EvW DT DM DN W41
def qeT(l:List Int):Prop:=∀ x,x∈l->0<=x/\x<=255
def Wi(r:List (List Int)):Prop:=∀ l,l∈r->qeT l
theorem shU8r(N):ShU qb N 103 (fun l:List Int=>[.lst false (l.map fun x=>[u8 x])]) qeT:=
 ((ShU.slice unU8s (shU8 N) (fun _ _=>zKr) (Nat.lt_of_lt_of_eq Nat.zero_lt_one zKr) zKr).le zOm).map (fun l=>l) (fun _=>rfl) fun _ h=>h.2
theorem qeU(N):ShU qb N 32 (fun l:List (List Int)=>[lRaw l]) Wi:=
 ((ShU.slice qeS (shU8r N) (fun _ _=>zKr) (Nat.lt_of_lt_of_eq Nat.zero_lt_one zKr) zKr).le zOm).map (fun l=>l) (fun _=>rfl) fun _ h=>h.2
theorem aRaw:Qc qb 32 lRaw Wi:=Qc.slice qeS qeU
def okCs(x:Wh):Prop:=okTA x.1/\Wi x.2.2.1/\(0<=x.2.2.2.2.2/\x.2.2.2.2.2<=255)
theorem qsY(N):ShU qb N 38 cCs okCs:=
 ((ShU.struct (fs:=[(27,0),(30,4),(32,6),(35,7),(36,12),(5,13)]) zKr
  (.cons' (o':=4) zKr (qoM N) (.cons' (o':=6) zKr (qsV N) (.cons' (o':=7) zKr (qeU N) (.cons' (o':=12) zKr (UP N) (.cons' (o':=13) zKr (shBB N) (.cons' (o':=14) zKr (shU8 N) (.nil 14))))))) zKr).map
  (fun x=>((x.1,x.2.1,x.2.2.1,x.2.2.2.1,x.2.2.2.2.1,x.2.2.2.2.2.1):Wh)) (fun x=>by simp[cCs,uf]) (fun x h=>⟨h.1,h.2.2.1,h.2.2.2.2.2.1⟩)).le zOm
theorem qsZ:Qc qb 38 (fun x => .agg (cCs x)) okCs:=Qc.struct zKr qsY
end DO
end Go.Proofs.YtfednihcpihlgaaGreatDoor
