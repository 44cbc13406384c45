/-
  Own library, part 8: an abstract reading of values and a calculus over it; contracts of functions; plain lemmas.
-/
import Derived.KernelRfl
import Derived.Test.YtfednihcpihlgaaGreatDoorMg
set_option linter.unusedVariables false
set_option linter.unusedSimpArgs false
set_option maxRecDepth 100000
open Go renaming Program->qf
open Go.Proofs.Tryz renaming prog->qb
open List renaming getElem?_eq_some_iff->qg,mem_map->qi,getElem_mem->qn,range->qq,mem_cons->qt,getElem?_eq_getElem->qw,not_mem_nil->qF,getElem?_append_left->qG,mem_append->qH,getElem?_set_self->qI,take_length->qO,mem_singleton->qT,mem_cons_of_mem->qW,length_append->qX,map_append->q9,all_eq_true->zb,mem_cons_self->zd,getElem?_map->zf,drop_eq_getElem_cons->zm,append_assoc->zy,length_cons->zz,getD_eq_getElem?_getD->zC,getElem?_append_right->zE,append_nil->zF,length_map->zK,take_of_length_le->zO,map_cons->zT,mem_range->zW,drop_length->yh,cons_append->yw,mem_filter->yX,nodup_cons->jx,nil_append->vg,take_succ_eq_append_getElem->vu,getElem?_cons_succ->vw,mem_iff_getElem->ug,mem_flatMap->uK,flatMap_cons->wB,getElem_of_mem->wC,nodup_append->wF,getElem_map->Ja,drop_eq_nil_of_le->Vu
open Go.IntKind renaming i64->qm
open Nat renaming le_refl->qo,le_trans->zt
open Bool renaming and_eq_true->qD,or_eq_true->uM
open Int renaming mul_le_mul->jq,le_refl->vf
open Prod.mk renaming injEq->vU
open Classical renaming byContradiction->uh
namespace Go.Proofs.YtfednihcpihlgaaGreatDoor
open Go Go.Ev Go.Proofs Tryz
namespace QT
open YF Y9 Y10 Y1 Y2 Y14 Y15 Y16 YZ P1 P2 PA Q5 QD QE QI QJ QL QM QO QS
section
variable {ts:TS}
def ckR(ts:TS)(i:Nat):Ck:=⟨ts,i,tmsL ts ts.sT.length⟩
theorem U3(h:okTS ts){i}(g:i<=ts.sT.length):okCk (ckR ts i):=⟨h,g,by show i<=(tmsL ts ts.sT.length).length;rw[ZH ts _ (qo _)];exact g⟩
theorem qc6{c c'}(g:c'.ts=c.ts)(l:∀ nm,zn c' nm=zn c nm)(o:∀ op nm,zS c' op nm=zS c op nm):∀ m n s inn,szN n<=m->exam c s inn n=exam c' s inn n
 | 0,n,_,_,t=>by obtain⟨op,nm,i,ks,p⟩:=n;simp[szN]at t
 |m+1,n,s,inn,t=>by
  have r:∀ k,k∈n.sD->∀(s:Scp)(inn:Bool),exam c s inn k=exam c' s inn k:=fun k r s inn=>qc6 g l o m k s inn (zW1 (ym r))
  refine qaZ rfl rfl rfl rfl (o _ _) (fun _=>?_) (by rw[g]) (l _) (by rw[g]) rfl (fun _ I=>qa2 fun k j=>r k j s true) (fun _ inn=>?_) (fun _ _ _ inn=>UH fun k j=>r k j s inn)
  .grind [ZO]
  .cases C:n.sD with
   |nil=>rfl
   |cons k ks =>
    grind [ks,yd,zd,qY,UH,qW]
theorem qqQ(h:okTS ts){i}(l:i<=ts.sT.length)(n s inn):exam (ckR ts i) s inn n=exam (mkCk ts i) s inn n:=by
 refine(qc6 (c:=mkCk ts i) (c':=ckR ts i) rfl (fun o=>rfl) (fun op o=>?_) (szN n) n s inn (qo _)).symm;unfold zS;have e:zn (ckR ts i) o=zn (mkCk ts i) o:=rfl;rw[e];cases r:zn (mkCk ts i) o with
 |none=>rfl
 |some p =>
  obtain⟨j,g⟩:=Qx (uD h l) r;have j:p<i:=j;have g:p<ts.sT.length:=g;simp only;have t:=PC.US ts p ts.sT.length g (qo _) g;have C:=PC.US ts p i j l g;show (yp op||(decide (op=47)&&(tmsL ts ts.sT.length).getD p false))=(yp op||(decide (op=47)&&(tmsL ts i).getD p false));rw[t,C]
theorem qqR(h:okTS ts){i}(g:i<=ts.sT.length)(env n):jv (mkCk ts i) env n=if 30<=n.op then dgOf (exam (ckR ts i) (ye env) false n) else (43,n.pos):=by
 grind [jv,qqQ]
theorem qc7(ts)(h:okTS ts)(J:∀ p,p∈ts.sT->WfN p.body)(i)(o:i<=ts.sT.length)(env)(t:Yo ts.sS.length env)(j:env.length<=1000)(n)(R:WfN n)(T:depN n<=24) :
  qd qb 57 [eTS ts,aI i,lPm env,eNd n] (eDg (jv (mkCk ts i) env n)):=by
 rw[qqR h o];have U:=h.ns;have hs:=X1 t;have a0:(ye env).length=env.length:=by
  have:=congrArg List.length (qcX env)
  grind [U1,envV]
 obtain⟨S,ce,_⟩:=qc5 (ckR ts i) (U3 h o) 24 n T R (ye env) hs zOm false;have C:=envU env j (fun p hp=>zW1 (t.r p hp));rw[qcX]at C;have c1:=qp6 n;have c2:=qp3 ts h J;refine qSU call57 func57 rfl ?_;refine tC c1 (.zk (qJ n) .nil) ?_;by_cases g:30<=n.op
 .rw [if_pos g]
  generalize dgOf (exam (ckR ts i) (ye env) false n)=D at *
  simp[go_sem,g];refine fD [0,1,3,5,7,2,4,6,8,9,10,11,12,13,14,15] [(0,0,[]),(1,0,[]),(3,0,[]),(5,0,[]),(7,0,[]),(2,1,[0,7]),(4,0,[]),(6,1,[0,7]),(8,1,[]),(9,0,[]),(10,0,[]),(11,0,[]),(12,2,[0,1,7]),(13,2,[0,1,7]),(14,1,[]),(15,1,[])] zKr zKr zSi ?_;simp[go_sem];refine fR c2 (.zk (zl ts) .nil) ?_;refine fR C (.zk (vZ env) .nil) ?_;refine tC ce (wkE (ckR ts i) false _ n) ?_;simp[go_sem,qs];rw[if_pos (q8 _)];generalize I:putCells _ 0 (cRS S)=P;have l:P=cRS S:=by rw[<-I];exact pc (aI 0) _ (fun _=>false) _
  subst l;clear I;simp[go_sem];exact .hf _ (wm D)
 .rw [if_neg g]
  simp[go_sem,g];exact .hf _ (wm (43,n.pos))
theorem kq(ts)(h:okTS ts)(i:∀ p,p∈ts.sT->WfN p.body)(env)(j:Yo ts.sS.length env)(g:env.length<=1000)(n)(l:WfN n)(o:depN n<=24) :
  qd qb 25 [eTS ts,lPm env,eNd n] (eDg (yr ts env n)):=by
 have c1:=qc7 ts h i ts.sT.length (qo _) env j g n l o;have e:jv (mkCk ts ts.sT.length) env n=yr ts env n:=rfl;rw[e]at c1;generalize yr ts env n=D at *
 refine qSU call25 func25 rfl ?_;refine fR c1 (.zk (zl ts) (.zs (.zk (vZ env) (.zk (qJ n) .nil)))) ?_;exact .hf _ (wm D)
theorem YQ(a b):dups (a++b)=dups a++dups b:=by simp[dups]
theorem wo(b):dups [b]=if b=true then [(41,0)] else []:=by cases b<;>rfl
theorem w6(l):(dups l).length<=l.length:=by
 grind [dups,zK,List.length_filter_le]
theorem ku{J}(g)(l:List J)(k h):(repL g l).take (k+1)=(repL g l).take k++[(l.take k).any fun y=>g l[k] y]:=by
 grind [repL,wY,vu,mr,qw,Option.some.inj]
theorem U4{J:Type}(p)(l:List J)(k h):(l.take (k+1)).any p=((l.take k).any p||p l[k]):=by
 rw[vu h,List.any_append];simp only[List.any_cons,List.any_nil,Bool.or_false]
abbrev eS:tG×Bool->tG×Bool->Bool:=fun x y=>decide (x.1=y.1)
abbrev eF:Fld->Fld->Bool:=fun x y=>decide (x.name=y.name)&&decide (x.sS=y.sS)
abbrev eP:Pd->Pd->Bool:=fun x y=>decide (x.name=y.name)
abbrev eM:tG×Int->tG×Int->Bool:=fun x y=>decide (x.1=y.1)
abbrev eA:tG×Nd->tG×Nd->Bool:=fun x y=>decide (x.1=y.1)
theorem Qe{mu lo s x}{xs ys:List Dg}{K}(o:OwnF lo mu 2 s (xs.map cDg))(p:qz mu x=some (ys.map cDg))(C:xs.length+ys.length<=100000)(I:∀ av mu',OwnF lo mu' 2 av ((xs++ys).map cDg)->(∀ i,i<lo->mu'[i]?=mu[i]?)->K av mu') :
  qu qb mu #[76,76] s x K:=by
 have j:∀ l:List Dg,zc 2 (l.map cDg):=fun l r t=>by
  obtain⟨n,_,rfl⟩:=qi.1 t;exact⟨rfl,rfl⟩
 refine qu.ownF (lo:=lo) (e:=72) (sz:=2) (bt:=16) (zv := .agg [aI 0,aI 0]) (xs:=xs.map cDg) (ys:=ys.map cDg) zSi zSi zSi rfl rfl zOm zOm o p (j xs) (j ys) zSo ?_
 grind
theorem qqS(ts)(h:okTS ts)(mu):qy qb 55 [eTS ts] mu fun e m=>∃ av,e = .ret av/\OwnF mu.length m 2 av ((dups (repL eS ts.sS)++dups (repL eF ts.sA)).map cDg)/\∀ i,i<mu.length->m[i]?=mu[i]?:=by
 refine qSW call55 func55 rfl {} ?_;have a6:=h.ns;have ab:=h.nf;simp[go_sem];refine kT ts.sS.length (fun i U=>U.tm 1 = .ip (cTS ts)/\U.tm 4=aI i/\OwnF mu.length U.mu 2 (U.tm 3) ((dups ((repL eS ts.sS).take i)).map cDg)/\∀ i,i<mu.length->U.mu[i]?=mu[i]?) ?_ ?_
 .simp_all [go_sem,dups,OwnF.nil,qo]
 rintro i U J ⟨P,e4,C,R⟩;have a0:(dups ((repL eS ts.sS).take i)).length<=i:=zt (w6 _) (List.length_take_le ..);generalize h3:U.tm 3=av at *
 by_cases l:i<ts.sS.length
 .have o:=ku eS ts.sS i l
  have wi:=zWk i;simp[go_sem,P,e4,l];refine kT i (fun k st2=>st2.tm 1 = .ip (cTS ts)/\st2.tm 4=aI i/\st2.tm 3=av/\st2.tm 6=aI k/\st2.tm 5=aB ((ts.sS.take k).any fun y=>eS ts.sS[i] y)/\st2.mu=U.mu) ?_ ?_
  .simp [go_sem, *]
  rintro k st2 hk ⟨f1,f4,f3,f6,f5,t⟩;generalize hT:(ts.sS.take k).any (fun y=>eS ts.sS[i] y)=T at *
  by_cases p:k<i
  .have r:k<ts.sS.length:=by omega
   have wk:=zWk k;have g:=U4 (fun y=>eS ts.sS[i] y) ts.sS k r;rw[hT]at g;simp[go_sem,f4,f6,p];refine cZ zKr ?_;cases T with
   |true =>
    simp_all[go_sem,Bool.true_or,aK]
   |false =>
    rw[Bool.false_or]at g;by_cases hq:ts.sS[k].1=ts.sS[i].1
    .simp_all [go_sem,eS,decide_eq_true,aK]
    .have j:(ts.sS.take (k+1)).any (fun y=>eS ts.sS[i] y)=false:=by rw[g];exact decide_eq_false fun e=>hq e.symm
     simp_all[go_sem,jF,aK]
  .have a1:k=i:=by omega
   subst a1;rw[hT]at o;cases T with
   |true =>
    simp[go_sem,f4,f3,f6,f5,t];refine Qe (ys:=[(41,0)]) C (by simp[qz]) zSo fun a7 m' a2 a3=>?_
    simp[go_sem,f4,wi];exact⟨l,aK ⟨zS1 f1,zSi,by rw[o,YQ,wo,if_pos rfl];simpa[go_sem] using a2,by simp only[qA];exact fun i J=>(a3 i J).trans (R i J)⟩⟩
   |false =>
    simp[go_sem,f4,f6,f5,t,wi];exact⟨l,aK ⟨zS1 f1,zSi,by rw[o,YQ,wo,if_neg zSp,zF];simpa[go_sem,f3,t] using C,by simp only[qA];exact R⟩⟩
 .have a4:i=ts.sS.length:=by omega
  subst a4;rw[zO (by rw[wY];exact qo _)]at C;simp[go_sem,P,e4];generalize a8:dups (repL eS ts.sS)=a5 at *
  have ad:a5.length<=4:=by rw[<-a8];exact zt (w6 _) (by rw[wY];exact a6)
  refine kT ts.sA.length (fun i U=>U.tm 1 = .ip (cTS ts)/\U.tm 7=aI i/\OwnF mu.length U.mu 2 (U.tm 3) ((a5++dups ((repL eF ts.sA).take i)).map cDg)/\∀ i,i<mu.length->U.mu[i]?=mu[i]?) ?_ ?_
  .exact ⟨zS1 P,zSi,by simpa[go_sem,dups,h3] using C,zVs R⟩
  clear a0 C R P e4 h3 l J U;rintro i U J ⟨P,e4,C,R⟩;have a0:(dups ((repL eF ts.sA).take i)).length<=i:=zt (w6 _) (List.length_take_le ..);generalize h3:U.tm 3=a9 at *
  by_cases l:i<ts.sA.length
  .have o:=ku eF ts.sA i l
   have wi:=zWk i;simp[go_sem,P,e4,l];refine kT i (fun k st2=>st2.tm 1 = .ip (cTS ts)/\st2.tm 7=aI i/\st2.tm 3=a9/\st2.tm 9=aI k/\st2.tm 8=aB ((ts.sA.take k).any fun y=>eF ts.sA[i] y)/\st2.mu=U.mu) ?_ ?_
   .exact ⟨zS1 P,zS1 e4,zS1 h3,zSi,zSi,zSi⟩
   rintro k st2 hk ⟨f1,f4,f3,f6,f5,t⟩;generalize hT:(ts.sA.take k).any (fun y=>eF ts.sA[i] y)=T at *
   by_cases p:k<i
   .have r:k<ts.sA.length:=by omega
    have wk:=zWk k;have g:=U4 (fun y=>eF ts.sA[i] y) ts.sA k r;rw[hT]at g;have ae:=h.fl _ (qn r);have aa:=qk6 ts.sA[k].sS ts.sA[i].sS zOm;simp[go_sem,f4,f6,p];refine cZ zKr ?_;cases T with
    |true =>
     rw[Bool.true_or]at g;simp[go_sem,f6,f5,p,wk];exact aK ⟨zS1 f1,zS1 f4,zS1 f3,zSi,by rw[g];simp[go_sem],zS1 t⟩
    |false =>
     rw[Bool.false_or]at g;by_cases hq:ts.sA[k].name=ts.sA[i].name
     .simp [go_sem,f1,f4,f6,f5,r,l,hq]
      refine tC aa (.zk (zh _) (.zk (zh _) .nil)) ?_;by_cases I:ts.sA[k].sS=ts.sA[i].sS
      .have j:(ts.sA.take (k+1)).any (fun y=>eF ts.sA[i] y)=true:=by rw[g];simp[eF,hq.symm,I.symm]
       simp[go_sem,f6,p,wk,I];exact aK ⟨zS1 f1,zS1 f4,zS1 f3,zSi,by rw[j];simp[go_sem],zS1 t⟩
      .have j:(ts.sA.take (k+1)).any (fun y=>eF ts.sA[i] y)=false:=by rw[g];simp[eF,hq.symm];exact fun e=>I e.symm
       simp[go_sem,f6,p,wk,I];exact aK ⟨zS1 f1,zS1 f4,zS1 f3,zSi,by rw[j];simp[go_sem],zS1 t⟩
     .have j:(ts.sA.take (k+1)).any (fun y=>eF ts.sA[i] y)=false:=by rw[g];simp[eF];exact fun e=>absurd e.symm hq
      simp[go_sem,f1,f4,f6,f5,p,r,l,wk,jF hq];exact aK ⟨zS1 f1,zS1 f4,zS1 f3,zSi,by rw[j];simp[go_sem],zS1 t⟩
   .have a1:k=i:=by omega
    subst a1;rw[hT]at o;cases T with
    |true =>
     simp[go_sem,f4,f3,f6,f5,t];refine Qe (ys:=[(41,0)]) C (by simp[qz]) zSo fun a7 m' a2 a3=>?_
     simp[go_sem,f4,wi];exact⟨l,aK ⟨zS1 f1,zSi,by rw[o,YQ,wo,if_pos rfl,<-zy];simpa[go_sem] using a2,by simp only[qA];exact fun i J=>(a3 i J).trans (R i J)⟩⟩
    |false =>
     simp[go_sem,f4,f6,f5,t,wi];exact⟨l,aK ⟨zS1 f1,zSi,by rw[o,YQ,wo,if_neg zSp,zF];simpa[go_sem,f3,t] using C,by simp only[qA];exact R⟩⟩
  .have a4:i=ts.sA.length:=by omega
   subst a4;rw[zO (by rw[wY];exact qo _)]at C;simp[go_sem,P,e4,h3];exact⟨zUs C,R⟩
end
end QT
namespace QU
open YF Y9 Y10 Y1 Y2 Y15 Y16 YZ P1 P2 PA QD QI QK QT
theorem qqT{ts i}(l):(∃ p,zn (ckR ts i) ts.sT[i].name=some p/\(ts.sT.take i).any (fun y=>eP ts.sT[i] y)=true)\/(zn (ckR ts i) ts.sT[i].name=none/\(ts.sT.take i).any (fun y=>eP ts.sT[i] y)=false):=by
 cases h:zn (ckR ts i) ts.sT[i].name with
 |some p =>
  left;refine⟨p,rfl,?_⟩;unfold zn at h;rw[List.findIdx?_eq_some_iff_getElem]at h;obtain⟨g,o,_⟩:=h;refine List.any_eq_true.2 ⟨_,qn g,?_⟩
  grind
 |none =>
  right;refine⟨rfl,?_⟩;unfold zn at h;rw[List.findIdx?_eq_none_iff]at h;rw[List.any_eq_false];intro x j;have:=h x j
  grind
theorem rdDg{lo mu av xs}(h:OwnF lo mu 2 av (xs.map cDg)):Rd mu av (lDg xs):=by
 refine h.1.rd (zc.ok fun r g=>?_) fun r g c i=>?_
 .obtain ⟨n,_,rfl⟩:=qi.1 g
  exact⟨rfl,rfl⟩
 .obtain ⟨n,_,rfl⟩:=qi.1 g
  rcases qt.1 i with rfl|i
  .exact HF.sc _
  grind [qT,HF.sc]
theorem YR{lo sz mu av xs}(h:OwnF lo mu sz av xs)(c):OwnF lo (mu++[c]) sz av xs:=⟨JR h.1 c,h.2.1,by have:=h.2.2;simp;omega⟩
theorem qqU(ts)(h:okTS ts)(wp:∀ p,p∈ts.sT->WfN p.body)(i)(J:i<ts.sT.length)(hd:depN ts.sT[i].body<=24):qd qb 56 [eTS ts,aI i] (lDg (vJ ts i)):=by
 have a5:=h.pl _ (qn J);have af:=h.np;have c1:=qc7 ts h wp i zOm ts.sT[i].params ⟨zOm,a5.2⟩ zOm ts.sT[i].body (wp _ (qn J)) hd;have c2:=Vj (ckR ts i) (U3 h zOm) ts.sT[i].name;have a6:=qqT J;have hp:vJ ts i=dups [(ts.sT.take i).any (fun y=>eP ts.sT[i] y)]++(dups (repL eM ts.sT[i].params)++rp (jv (mkCk ts i) ts.sT[i].params ts.sT[i].body)):=by
  grind [vJ,qw,qa4]
 rw[hp];generalize hD:jv (mkCk ts i) ts.sT[i].params ts.sT[i].body=D at *
 generalize hb:(ts.sT.take i).any (fun y=>eP ts.sT[i] y)=b at *
 have ag:(dups [b]).length<=1:=by grind [dups]
 refine qSU call56 func56 rfl ?_;refine cZ zKr ?_;simp[go_sem,J];refine tC c2 (.zk (zl _) (.zs (.zs .nil))) ?_;have wk:WKs [eTS ts,aI i,lPm ts.sT[i].params,eNd ts.sT[i].body] [eTS ts,aI i,lPm ts.sT[i].params,eNd ts.sT[i].body] := .zk (zl _) (.zs (.zk (vZ _) (.zk (qJ _) .nil)));have ae:=Qw;have fin:∀ U:St,True:=fun _=>trivial
 rcases a6 with ⟨p,hc,R⟩|⟨hc,R⟩
 case' inl =>
  subst R;rw[hc];have a7:(0:Int)<=(p:Int):=zOm;simp[go_sem,idxO,a7];refine Qe (lo:=0) (xs:=[]) (ys:=[(41,0)]) (OwnF.nil zSp) (by simp[qz]) zSp fun ah m0 ai _=>?_
  simp[go_sem,J]
 case' inr =>
  subst R;rw[hc];simp[go_sem,idxO,J]
 all_goals
  generalize a8:ts.sT[i]=g at *
 case' inl =>
  refine kT g.params.length (fun k U=>U.tm 2 = .ip (cTS ts)/\U.tm 1=aI i/\U.tm 6=lPm g.params/\U.tm 7=aI k/\OwnF 0 U.mu 2 (U.tm 5) ((dups [true]++dups ((repL eM g.params).take k)).map cDg)) ?_ ?_
  .simp_all [go_sem,dups]
 case' inr =>
  refine kT g.params.length (fun k U=>U.tm 2 = .ip (cTS ts)/\U.tm 1=aI i/\U.tm 6=lPm g.params/\U.tm 7=aI k/\OwnF 0 U.mu 2 (U.tm 5) ((dups [false]++dups ((repL eM g.params).take k)).map cDg)) ?_ ?_
  .simp_all [go_sem,dups,OwnF.nil]
 all_goals
  rintro k U hk ⟨e2,e1,e6,e7,ho⟩;have a4:(dups ((repL eM g.params).take k)).length<=k:=zt (Y16.w6 _) (List.length_take_le ..);generalize h5:U.tm 5=t at *
  by_cases r:k<g.params.length
  .have a0:=ku eM g.params k r
   have wi:=zWk k;simp[go_sem,e6,e7,r];refine kT k (fun j st2=>st2.tm 2 = .ip (cTS ts)/\st2.tm 1=aI i/\st2.tm 6=lPm g.params/\st2.tm 7=aI k/\st2.tm 5=t/\st2.tm 9=aI j/\st2.tm 8=aB ((g.params.take j).any fun y=>eM g.params[k] y)/\st2.mu=U.mu) ?_ ?_
   .simp [go_sem, *]
   rintro j st2 hj ⟨f2,f1,f6,f7,f5,f9,f8,fm⟩;generalize hT:(g.params.take j).any (fun y=>eM g.params[k] y)=T at *
   by_cases a1:j<k
   .have a2:j<g.params.length:=by omega
    have wj:=zWk j;have o:=U4 (fun y=>eM g.params[k] y) g.params j a2;rw[hT]at o;simp[go_sem,f7,f9,a1];refine cZ zKr ?_;cases T with
    |true =>
     simp_all[go_sem,Bool.true_or,aK]
    |false =>
     rw[Bool.false_or]at o;by_cases hq:g.params[j].1=g.params[k].1
     .have l:(g.params.take (j+1)).any (fun y=>eM g.params[k] y)=true:=by rw[o];exact decide_eq_true hq.symm
      simp[go_sem,f6,f7,f9,f8,a1,a2,r,wj,hq];exact aK ⟨zS1 f2,zS1 f1,zS1 f6,zS1 f7,zS1 f5,zSi,by rw[l];simp[go_sem],zS1 fm⟩
     .have l:(g.params.take (j+1)).any (fun y=>eM g.params[k] y)=false:=by rw[o];exact decide_eq_false fun e=>hq e.symm
      simp[go_sem,f6,f7,f9,f8,a1,a2,r,wj,jF hq];exact aK ⟨zS1 f2,zS1 f1,zS1 f6,zS1 f7,zS1 f5,zSi,by rw[l];simp[go_sem],zS1 fm⟩
   .have a9:j=k:=by omega
    subst a9;rw[hT]at a0;cases T with
    |true =>
     simp[go_sem,f7,f5,f9,f8,fm];refine Qe (ys:=[(41,0)]) ho (by simp[qz]) zSo fun aa m' C ab=>?_
     simp[go_sem,f7,wi];exact⟨r,aK ⟨zS1 f2,zS1 f1,zS1 f6,zSi,by rw[a0,YQ,<-zy];simpa[go_sem,wo] using C⟩⟩
    |false =>
     simp[go_sem,f7,f9,f8,fm,wi];exact⟨r,aK ⟨zS1 f2,zS1 f1,zS1 f6,zSi,by rw[a0,YQ];simpa[go_sem,wo,f5,fm] using ho⟩⟩
  .have ad:k=g.params.length:=by omega
   subst ad;rw[zO (by rw[wY];exact qo _)]at ho a4;simp[go_sem,e6,e7];refine cZ zKr ?_;simp[go_sem,e2,e1,e6,J,a8];refine tC c1 wk ?_;by_cases I:D.1=0
   .have a3:rp D=[]:=if_pos I
    rw[a3];simp[go_sem,h5,I];exact rdDg (YR ho _)
   .have a3:rp D=[D]:=if_neg I
    rw[a3];simp[go_sem,h5,I];refine Qe (ys:=[D]) (YR ho _) (by simp[qz]) (by simp only[qX,List.length_singleton];omega) fun aa m' C ab=>?_
    simp[go_sem];rw[zy]at C;exact rdDg C
theorem JP(f:Nat->List Dg)(n):(qq (n+1)).flatMap f=(qq n).flatMap f++f n:=by
 rw[List.range_succ,List.flatMap_append];simp only[wB,List.flatMap_nil,zF]
theorem qqV(ts)(h:okTS ts)(wp:∀ p,p∈ts.sT->WfN p.body)(wf:∀ f,f∈ts.sP->WfN f.2)(dp:∀ p,p∈ts.sT->depN p.body<=24)(df:∀ f,f∈ts.sP->depN f.2<=24):qd qb 24 [eTS ts] (lDg (jo ts)):=by
 have aj:=h.np;have ak:=h.nfa;have hD:(dups (repL eS ts.sS)++dups (repL eF ts.sA)).length<=10:=by
  have a1:=Y16.w6 (repL eS ts.sS);have a2:=Y16.w6 (repL eF ts.sA);rw[wY]at a1 a2;have:=h.ns;have:=h.nf;rw[qX];omega
 have hC:jo ts=(dups (repL eS ts.sS)++dups (repL eF ts.sA))++((qq ts.sT.length).flatMap (vJ ts)++(qq ts.sP.length).flatMap (wZ ts ts.sP)):=by
  unfold jo;rw[zy]
 rw[hC];have a8:=qqS ts h [];generalize dups (repL eS ts.sS)++dups (repL eF ts.sA)=D0 at *
 refine qSU call24 func24 rfl ?_;refine fQ a8 (fun r m hr=>?_) (fun r m hr=>?_)
 case refine_2 =>
  grind
 obtain⟨al,e,an,_⟩:=hr;cases e;simp[go_sem];refine kT ts.sT.length (fun i U=>U.tm 1 = .ip (cTS ts)/\U.tm 4=aI i/\OwnF 0 U.mu 2 (U.tm 3) ((D0++(qq i).flatMap (vJ ts)).map cDg)) ?_ ?_
 .simp_all [go_sem]
 rintro i U hi ⟨e1,e4,P⟩;have ai:=Y16.X2 (vJ ts) (Y16.my h) i;generalize h3:U.tm 3=t at *
 by_cases g:i<ts.sT.length
 .have j:=JP (vJ ts) i
  have ao:=Y16.my h i;have a9:=qqU ts h wp i g (dp _ (qn g));have wi:=zWk i;generalize vJ ts i=PD at *
  simp[go_sem,e1,e4,h3,g];refine fR a9 (.zk (zl ts) (.zs .nil)) ?_;refine Qe (ys:=PD) P (by simp[qz]) (by simp only[qX];omega) fun aa m' a0 ab=>?_
  simp_all[go_sem,aK,zy]
 .have a3:i=ts.sT.length:=by omega
  subst a3;simp[go_sem,e1,e4];generalize (qq ts.sT.length).flatMap (vJ ts)=P0 at *
  refine kT ts.sP.length (fun i U=>U.tm 1 = .ip (cTS ts)/\U.tm 5=aI i/\OwnF 0 U.mu 2 (U.tm 3) (((D0++P0)++(qq i).flatMap (wZ ts ts.sP)).map cDg)) ?_ ?_
  .exact ⟨zS1 e1,zSi,by simpa[go_sem,h3] using P⟩
  clear P e1 e4 h3 g hi U;rintro i U hi ⟨e1,e4,P⟩;have ad:=Y16.X2 (wZ ts ts.sP) (Y16.qkV ts ts.sP) i;generalize h3:U.tm 3=ae at *
  by_cases g:i<ts.sP.length
  .have j:=JP (wZ ts ts.sP) i
   have af:wZ ts ts.sP i=dups [(ts.sP.take i).any (fun y=>eA ts.sP[i] y)]++rp (yr ts [] ts.sP[i].2):=by
    unfold wZ;rw[qw g];simp only;rw[qa4,qw g]
   rw[af]at j;have cf:=kq ts h wp [] ⟨zSp,zSp⟩ zSp ts.sP[i].2 (wf _ (qn g)) (df _ (qn g));have wi:=zWk i;generalize yr ts [] ts.sP[i].2=D at *
   simp[go_sem,e1,e4,g];refine kT i (fun k st2=>st2.tm 1 = .ip (cTS ts)/\st2.tm 5=aI i/\st2.tm 3=ae/\st2.tm 7=aI k/\st2.tm 6=aB ((ts.sP.take k).any fun y=>eA ts.sP[i] y)/\st2.mu=U.mu) ?_ ?_
   .exact ⟨zS1 e1,zS1 e4,zS1 h3,zSi,zSi,zSi⟩
   rintro k st2 hk ⟨f1,f4,f3,f6,f5,fm⟩;generalize hT:(ts.sP.take k).any (fun y=>eA ts.sP[i] y)=T at *
   by_cases R:k<i
   .have a4:k<ts.sP.length:=by omega
    have wk:=zWk k;have l:=U4 (fun y=>eA ts.sP[i] y) ts.sP k a4;rw[hT]at l;simp[go_sem,f4,f6,R];refine cZ zKr ?_;cases T with
    |true =>
     rw[Bool.true_or]at l;simp[go_sem,f6,f5,R,wk];exact aK ⟨zS1 f1,zS1 f4,zS1 f3,zSi,by rw[l];simp[go_sem],zS1 fm⟩
    |false =>
     rw[Bool.false_or]at l;by_cases hq:ts.sP[k].1=ts.sP[i].1
     .have C:(ts.sP.take (k+1)).any (fun y=>eA ts.sP[i] y)=true:=by rw[l];exact decide_eq_true hq.symm
      simp[go_sem,f1,f4,f6,f5,R,a4,g,wk,hq];exact aK ⟨zS1 f1,zS1 f4,zS1 f3,zSi,by rw[C];simp[go_sem],zS1 fm⟩
     .have C:(ts.sP.take (k+1)).any (fun y=>eA ts.sP[i] y)=false:=by rw[l];exact decide_eq_false fun e=>hq e.symm
      simp[go_sem,f1,f4,f6,f5,R,a4,g,wk,jF hq];exact aK ⟨zS1 f1,zS1 f4,zS1 f3,zSi,by rw[C];simp[go_sem],zS1 fm⟩
   .have ag:k=i:=by omega
    subst ag;rw[hT]at j;have a5:WKs [eTS ts,.lst true [],eNd ts.sP[k].2] [eTS ts,lPm [],eNd ts.sP[k].2] := .zk (zl ts) (.cons (WK.lst fun r hr=>absurd hr qF) (.zk (qJ _) .nil));have aq:=gY;cases T with
    |true =>
     simp[go_sem,f4,f3,f6,f5,fm];refine Qe (ys:=[(41,0)]) P (by simp[qz]) (by simp only[qX,List.length_singleton];omega) fun aa m' a0 ab=>?_
     simp[go_sem];refine cZ zKr ?_;simp[go_sem,f1,f4,g];refine tC cf a5 ?_;by_cases o:D.1=0
     .have I:rp D=[]:=if_pos o
      rw[I,zF]at j;simp[go_sem,f4,wi,o];exact⟨g,aK ⟨zS1 f1,zSi,by rw[j,<-zy];simpa[go_sem,wo] using YR a0 (.arr [aI 0,aI D.2])⟩⟩
     .have I:rp D=[D]:=if_neg o
      rw[I]at j;simp[go_sem,o];refine Qe (ys:=[D]) (YR a0 _) (by simp[qz]) (by simp only[qX,List.length_singleton];omega) fun a6 ah J a7=>?_
      simp[go_sem,f4,wi];exact⟨g,aK ⟨zS1 f1,zSi,by rw[j,<-zy];simpa[go_sem,wo,zy] using J⟩⟩
    |false =>
     simp[go_sem,f4,f6,f5,fm];refine cZ zKr ?_;simp[go_sem,f1,f4,g];refine tC cf a5 ?_;by_cases o:D.1=0
     .have I:rp D=[]:=if_pos o
      rw[I,zF]at j;simp[go_sem,f4,wi,o];exact⟨g,aK ⟨zS1 f1,zSi,by rw[j,<-zy];simpa[go_sem,wo,f3] using YR P (.arr [aI 0,aI D.2])⟩⟩
     .have I:rp D=[D]:=if_neg o
      rw[I]at j;simp[go_sem,f3,o];refine Qe (ys:=[D]) (YR P _) (by simp[qz]) (by simp only[qX,List.length_singleton];omega) fun a6 ah J a7=>?_
      simp[go_sem,f4,wi];exact⟨g,aK ⟨zS1 f1,zSi,by rw[j,<-zy];simpa[go_sem,wo,zy] using J⟩⟩
  .have a3:i=ts.sP.length:=by omega
   subst a3;simp[go_sem,e1,e4,h3];rw[zy]at P;exact rdDg P
end QU
namespace QP
end QP
namespace QV
end QV
namespace QW
open YS YF Y9 Y10 Y1 Y2 YZ YA P1 P2
section
variable {nm:tG}{l:List tG}
abbrev rNm(b:tG):List AV:=[aS b]
abbrev lNm(l:List tG):AV := .lst false (l.map rNm)
def namL(n:Nd):List tG:=((preN n).filter fun x=>decide (x.name≠⟨#[]⟩)).map Nd.name
def ve(l:List Nd):List tG:=((zp l).filter fun x=>decide (x.name≠⟨#[]⟩)).map Nd.name
theorem qqW(n):namL n=(if n.name=⟨#[]⟩ then [] else [n.name])++ve n.sD:=by
 unfold namL ve;rw[u9,List.filter_cons];by_cases h:n.name=⟨#[]⟩
 .simp [h]
 .simp [h]
theorem Yw:∀ a b,zp (a++b)=zp a++zp b
 | [],b=>rfl
 |x :: a,b=>by rw[yw];simp only[zp];rw[Yw a b,zy]
theorem qqX(a k):ve (a++[k])=ve a++namL k:=by
 grind [ve,namL,Yw,zp]
theorem qqY(l):(ve l).length<=(zp l).length:=by
 grind [ve,zK,List.length_filter_le]
theorem U5(n):(namL n).length<=(preN n).length:=by
 grind [namL,zK,List.length_filter_le]
theorem kv(l:List tG):zc 1 (l.map rNm):=fun r g=>by
 obtain⟨x,_,rfl⟩:=qi.1 g;exact⟨rfl,rfl⟩
theorem qc8(l):HF (lNm l):=HF.lst fun r g c i=>by
 obtain⟨x,_,rfl⟩:=qi.1 g
 grind [qT,HF.sc]
theorem rdNm{lo mu av}(h:OwnF lo mu 1 av (l.map rNm)):Rd mu av (lNm l):=
 h.1.rd (kv l).ok fun r g c i=>by
  obtain⟨x,_,rfl⟩:=qi.1 g
  grind [qT,HF.sc]
theorem appNm{mu lo s x}{xs ys:List tG}{K}(j:OwnF lo mu 1 s (xs.map rNm))(l:qz mu x=some (ys.map rNm))(o:xs.length+ys.length<=1000000)(p:∀ av mu',OwnF lo mu' 1 av ((xs++ys).map rNm)->(∀ i,i<lo->mu'[i]?=mu[i]?)->K av mu') :
  qu qb mu #[189,189] s x K:=by
 refine qu.ownF (lo:=lo) (e:=9) (sz:=1) (bt:=16) (zv:=aS ⟨#[]⟩) (xs:=xs.map rNm) (ys:=ys.map rNm) zSi zSi zSi rfl rfl zOm zOm j l (kv xs) (kv ys) zSo ?_
 grind
theorem qqZ(l k):(zp (l.take k)).length<=(zp l).length:=by
 grind [zp,Yw,List.take_append_drop,qX]
theorem kw:∀ m n,szN n<=m->Small n->∀ lo mu av xs,OwnF lo mu 1 av (xs.map rNm)->xs.length+(preN n).length<=500000 ->
  qy qb 160 [av,eNd n] mu fun e t=>∃ g,e = .ret g/\OwnF lo t 1 g ((xs++namL n).map rNm)/\∀ i,i<lo->t[i]?=mu[i]?
 | 0,n,I,_=>by obtain⟨op,nm,i,ks,p⟩:=n;simp[szN]at I
 |m+1,n,I,hs=>by
  intro lo mu av xs C hl;have ih:∀ k,k∈n.sD->∀(lo:Nat)(mu:Mu)(av:AV)(xs:List tG),OwnF lo mu 1 av (xs.map rNm)->xs.length+(preN k).length<=500000->qy qb 160 [av,eNd k] mu fun e t=>∃ g,e = .ret g/\OwnF lo t 1 g ((xs++namL k).map rNm)/\∀ i,i<lo->t[i]?=mu[i]?:=fun k P =>
   kw m k (zW1 (ym P)) (hs.kid P)
  have a2:=hs.len;have l:=qqW n;have a3:(preN n).length=1+(zp n.sD).length:=by rw[u9,zz];omega
  refine qSW call160 func160 rfl {} ?_;by_cases J:n.name=⟨#[]⟩
  case' pos =>
   rw[if_pos J,vg]at l;simp[go_sem,J];refine kT n.sD.length (fun k U=>U.tm 3 = .ip (cNd n)/\U.tm 5=aI k/\OwnF lo U.mu 1 (U.tm 0) ((xs++ve (n.sD.take k)).map rNm)/\∀ i,i<lo->U.mu[i]?=mu[i]?) ?_ ?_
   .simp_all [go_sem,ve,zp]
   generalize hX:xs=X at *
   have R:X.length+(zp n.sD).length<=500000:=zOm;have j:X++ve n.sD=X++namL n:=by rw[l]
  case' neg =>
   rw[if_neg J]at l;have T:n.name.toList.isEmpty=false:=by simpa using jF J
   simp[go_sem,T];refine appNm (ys:=[n.name]) C (by simp[qz]) (by grind) fun g t a4 a5=>?_
   simp[go_sem];refine kT n.sD.length (fun k U=>U.tm 3 = .ip (cNd n)/\U.tm 5=aI k/\OwnF lo U.mu 1 (U.tm 0) (((xs++[n.name])++ve (n.sD.take k)).map rNm)/\∀ i,i<lo->U.mu[i]?=mu[i]?) ?_ ?_
   .simp_all [go_sem,ve,zp]
   generalize hX:xs++[n.name]=X at *
   have R:X.length+(zp n.sD).length<=500000:=by grind
   have j:X++ve n.sD=xs++namL n:=by grind
  all_goals
   rintro k U P ⟨e3,e5,C,I⟩;generalize h0:U.tm 0=a0 at *
   by_cases o:k<n.sD.length
   .have w1:=zWk k
    have a6:ve (n.sD.take (k+1))=ve (n.sD.take k)++namL n.sD[k]:=by rw[vu o,qqX]
    have a7:(zp (n.sD.take (k+1))).length=(zp (n.sD.take k)).length+(preN n.sD[k]).length:=by grind [vu,Yw,zp]
    have h1:=qqZ n.sD (k+1);have h2:=qqY (n.sD.take k);simp[go_sem,e3,e5,h0,o,qZ];refine fQ (ih n.sD[k] (qn o) lo U.mu a0 _ C (by rw[qX];omega)) (fun r m2 hr=>?_) (fun r m2 hr=>?_)
    .simp_all [go_sem,aK,zy,qA,trans]
    grind
   .have a1:k=n.sD.length:=by omega
    subst a1;rw[qO,j]at C;simp[go_sem,e3,e5,h0];exact⟨zUs C,I⟩
def takL(ts:TS)(n:Nd):List tG:=namL n++ts.sT.flatMap fun p=>namL p.body
theorem qq0(ts)(h:okTS ts)(wp:∀ p,p∈ts.sT->WfN p.body)(n)(hw:WfN n)(hl:(preN n).length<=400)(hp:∀ p,p∈ts.sT->(preN p.body).length<=400):qd qb 109 [eTS ts,eNd n] (lNm (takL ts n)):=by
 have a3:=h.np;have hk:∀ i (o:i<ts.sT.length),ts.sT.take (i+1)=ts.sT.take i++[ts.sT[i]]:=fun i o=>vu o
 have I:∀ i,((ts.sT.take i).flatMap fun p=>namL p.body).length<=400*i:=by
  intro i;induction i with
  |zero=>simp
  |succ i ih =>
   by_cases o:i<ts.sT.length
   .rw [hk i o,List.flatMap_append,qX]
    have h1:=U5 ts.sT[i].body;have h2:=hp _ (qn o);simp only[wB,List.flatMap_nil,zF];omega
   .have e1:ts.sT.take (i+1)=ts.sT:=zO zOm
    have l:ts.sT.take i=ts.sT:=zO zOm;rw[e1];rw[l]at ih;omega
 have hn:=U5 n;refine qSU call109 func109 rfl ?_;refine fQ (kw (szN n) n (qo _) hw.small 0 [] (.lst true []) [] (OwnF.nil zSp) zSo) (fun r J j=>?_) (fun r J j=>?_)
 case refine_2 =>
  obtain⟨t,e,_⟩:=j;cases e
 obtain⟨a4,e,C,_⟩:=j;cases e;rw[vg]at C;simp[go_sem];refine kT ts.sT.length (fun k U=>U.tm 2 = .ip (cTS ts)/\U.tm 6=aI k/\OwnF 0 U.mu 1 (U.tm 5) ((namL n++(ts.sT.take k).flatMap fun p=>namL p.body).map rNm)) ?_ ?_
 .exact ⟨zSi,zSi,zVs C⟩
 rintro k U a5 ⟨l,P,R⟩;generalize h5:U.tm 5=T at *
 by_cases g:k<ts.sT.length
 .have w1:=zWk k
  have a0:(ts.sT.take (k+1)).flatMap (fun p=>namL p.body)=(ts.sT.take k).flatMap (fun p=>namL p.body)++namL ts.sT[k].body:=by
   rw[hk k g,List.flatMap_append];simp only[wB,List.flatMap_nil,zF]
  have h1:=I k;have h2:=hp _ (qn g);simp[go_sem,l,P,h5,g,Qw];refine fQ (kw (szN ts.sT[k].body) ts.sT[k].body (qo _) (wp _ (qn g)).small 0 U.mu T _ R (by rw[qX];omega)) (fun r J j=>?_) (fun r J j=>?_)
  .obtain ⟨t,e,a1,_⟩:=j
   cases e;simp[go_sem,l,P,w1];exact⟨g,aK ⟨zS1 l,zSi,by rw[a0,<-zy];simpa[go_sem] using a1⟩⟩
  .obtain ⟨t,e,_⟩:=j
   cases e
 .have a2:k=ts.sT.length:=by omega
  subst a2;rw[qO]at R;simp[go_sem,l,P,h5];exact rdNm R
def inL(nm:tG)(l:List tG):Bool:=l.any fun x=>decide (x=nm)
theorem kx:inL nm l=true↔nm∈l:=by
 unfold inL;simp
theorem qc9(h:¬nm∈l):inL nm l=false:=by
 grind [inL,absurd,kx]
theorem hasU(l nm)(P:l.length<=1000000):qd qb 200 [lNm l,aS nm] (aB (inL nm l)):=by
 refine qSU call200 func200 rfl ?_;refine kT l.length (fun k U=>U.tm 0=lNm l/\U.tm 1=aS nm/\U.tm 5=aI k/\∀ x,x∈l.take k->x≠nm) ?_ ?_
 .simp [go_sem, *]
 rintro k U R ⟨i,j,r,t⟩;by_cases g:k<l.length
 .have J:=zWk k
  by_cases o:l[k]=nm
  .have C:inL nm l=true:=kx.2 (o ▸ qn g)
   rw[C];simp[go_sem,i,j,r,g,o];exact .zsc _
  .simp [go_sem,i,j,r,g,jF o,J]
   refine aK ⟨zS1 i,zS1 j,zSi,fun x p=>?_⟩;rw[vu g,qH,qT]at p;rcases p with p|rfl
   .exact t x p
   .exact o
 .have I:k=l.length:=by omega
  subst I;rw[qO]at t;have C:inL nm l=false:=qc9 fun h=>t nm h rfl
  rw[C];simp[go_sem,i,j,r];exact .zsc _
theorem qq1(u:Nat)(h:u<10):ByteArray.empty.push (UInt8.ofNat ((48:Int)+(u:Int)).toNat)=jm u:=by
 unfold jm;rw[Lib.itoa_nonneg,Lib.decDigits_one h,show ((48:Int)+(u:Int)).toNat=48+u by omega];rfl
theorem qq2(u)(h:¬u<10):jm ((u / 10:Nat):Int)++ByteArray.empty.push (UInt8.ofNat ((48:Int)+((u % 10:Nat):Int)).toNat)=jm u:=by
 unfold jm;rw[Lib.itoa_nonneg,Lib.itoa_nonneg,Lib.decDigits.eq_1 u,dif_neg h,show ((48:Int)+((u % 10:Nat):Int)).toNat=48+u % 10 by omega];apply ByteArray.ext;simp
theorem digU:∀(m u:Nat),u<=m->u<=1000000000->qd qb 199 [aI u] (aS (jm u))
 |m,u,J,P=>by
  have r:qm.wrap (48+(u:Int))=48+(u:Int):=zWr;refine qSV call199 func199 rfl ?_;by_cases h:u<10
  .have i:(u:Int)<10:=by omega
   have t:IntKind.u8.wrap (48+(u:Int))=48+(u:Int):=IntWalk.u8_in _ ⟨zOm,zOm⟩;have g:=qq1 u h;simp[go_sem,i,r,t,g];exact .zsc _
  .have i:¬(u:Int)<10:=by omega
   have C:=digU (u / 10) (u / 10) (qo _) zOm;have g:=qq2 u h;simp[go_sem,i];refine cZ zKr ?_;have I:qm.wrap ((u:Int) / 10)=((u / 10:Nat):Int):=by rw[show ((u:Int) / 10)=((u / 10:Nat):Int) from rfl];grind [zL]
   have t3:(u:Int).tmod 10=((u % 10:Nat):Int):=rfl;have o:qm.wrap (48+((u % 10:Nat):Int))=48+((u % 10:Nat):Int):=zWr;have p:IntKind.u8.wrap (48+((u % 10:Nat):Int))=48+((u % 10:Nat):Int):=IntWalk.u8_in _ ⟨zOm,zOm⟩;have j:=Kv ((u / 10:Nat):Int) zOm zOm;simp[go_sem,I];refine tC C (.zs .nil) ?_;have c1:((u / 10:Nat):Int)=(u:Int) / 10:=rfl;have c2:((u % 10:Nat):Int)=(u:Int) % 10:=rfl;rw[c1]at j g;rw[c2]at o p g;have l:(jm ((u:Int) / 10)).size<=9223372036854775806:=zOm;simp[go_sem,t3,o,p,l,g];exact .zsc _
end
end QW
namespace QX
open YS YF Y9 Y1 Y2 YX YZ YA YB P1 QD QK QW
abbrev cWk(ts:TS)(l:List tG)(s:ISt):List AV:=cTS ts++[lNm l,aI s.last,aI s.sM]
abbrev eWk(ts:TS)(l:List tG)(s:ISt):AV := .agg (cWk ts l s)
theorem qq3(ts l s):∀ c,c∈cWk ts l s->HF c:=fun c g=>by
 rcases qH.1 g with g|g
 .exact Uk ts c g
 .simp only[qt,qF,or_false]at g
  rcases g with rfl|rfl|rfl
  .exact qc8 l
  .exact HF.sc _
  .exact HF.sc _
theorem wq(ts l s):HF (eWk ts l s):=HF.agg (qq3 ts l s)
structure Tn (l:List tG) (es:List (tG×Bool)):Prop where
 mem:∀ nm:tG,nm≠⟨#[]⟩->(nm∈l↔getK nm es=some true)
 len:es.length<=l.length+1
theorem vN_ne(k):vN k≠⟨#[]⟩:=fun e=>by
 have:=congrArg ByteArray.size e;unfold vN at this;rw[ByteArray.size_append]at this;have g:(⟨#[118]⟩:tG).size=1:=rfl;have i:(⟨#[]⟩:tG).size=0:=rfl;omega
theorem qq4{ts l es}(t:Tn l es)(k):yB ts es (vN k)=(decide ((means ts (vN k)).length=0)&&!inL (vN k) l):=by
 unfold yB;have i:=t.mem (vN k) (vN_ne k);have g:decide (means ts (vN k)=[])=decide ((means ts (vN k)).length=0):=by
  simp[List.length_eq_zero_iff]
 rw[g,Bool.and_comm];congr 1;by_cases j:vN k∈l
 .grind [kx]
 simp_all[qc9,Bool.not_false,decide_eq_true_eq]
theorem two{J:Type}{l}{a b:J}(g:l[0]?=some a)(i:l[1]?=some b):∃ r,l=a :: b :: r:=by
 match l,g,i with
 |_ :: _ :: r,g,i =>
  grind
abbrev zWc:List AV:=[.lst true [],.lst true [],.lst true [],.lst true [],.lst true [],aI 0,aI 0]
theorem qq5(ts)(h:okTS ts)(l es)(t:Tn l es)(hl:l.length<=400000)(s:ISt)(hs:0<=s.last/\s.last+(qk ts es:Nat)<=1000000000)(a4:∃ j,1<=j/\j<=qk ts es/\yB ts es (vN (s.last+j))=true) :
  qd qb 159 [eWk ts l s] (.tup [eWk ts l ⟨zq ts es (qk ts es) s.last,s.sM⟩,aS (vN (zq ts es (qk ts es) s.last))]):=by
 have a8:=h.ns;have a9:=h.nf;have hF:qk ts es<=l.length+40:=by have:=t.len;unfold qk;omega
 have a5:okNm ts:=⟨h.sl,zOm,zOm,fun f hf=>zW1 (h.fl f hf)⟩;generalize aa:qk ts es=F at *
 generalize hR:zq ts es F s.last=R;refine qSQ call159 func159 rfl { mt:=[1] } ?_;simp[go_sem];refine tP (fun m U=>∃(i:Nat) (k:Int),i+m=F/\0<=k/\k+m<=1000000000/\U.tm 1 = .ptr 0 0/\U.tm 2 = .ptr 1 0/\U.tm 4=aI i/\U.mu[0]?=some (.arr (cWk ts l ⟨k,s.sM⟩))/\U.mu[1]?=some (.arr zWc)/\zq ts es m k=R/\∃ j:Nat,1<=j/\j<=m/\yB ts es (vN (k+j))=true) F ?_ ?_
 .exact ⟨0,s.last,zOm,hs.1,zOm,zSi,zSi,zSi,zSi,zSi,hR,a4⟩
 rintro m U ⟨i,k,ab,ad,ae,I,J,e4,m0,m1,hI,j,af,ag,ah⟩;obtain⟨m,rfl⟩:∃ m',m=m'+1:=⟨m-1,zOm⟩;obtain⟨rr,o⟩:=two m0 m1;have w1:qm.wrap (k+1)=k+1:=zWr;have w2:qm.wrap ((l.length:Int)+40)=(l.length:Int)+40:=zWr;have w3:=zWk i;have g:(i:Int)<=(l.length:Int)+40:=zOm;obtain⟨u,hu⟩:∃ u:Nat,k+1=(u:Int):=⟨(k+1).toNat,zOm⟩;have cd:=digU u u (qo _) zOm;have ai:=Kv (u:Int) zOm zOm;have a2:1+(jm (u:Int)).size<=9223372036854775807:=zOm;have hv:(⟨#[118]⟩:tG)++jm (u:Int)=vN (k+1):=by rw[hu];rfl
 have p:=qq4 (ts:=ts) t (k+1);have cn:=K1 ts a5 (vN (k+1));have T:=K0 ts (vN (k+1));have hk:(named ts (vN (k+1))).2=(means ts (vN (k+1))).length:=by rw[kj h]
 rw[hk]at cn;generalize (named ts (vN (k+1))).1=C at *
 have ch:=hasU l (vN (k+1)) zOm;clear m0 m1;simp[go_sem,I,J,e4,o,w1,w2,g];refine tC cd (.cons (by rw[hu];exact .hf (HF.sc _)) .nil) ?_;simp[go_sem,I,J,e4,o,w1,w2,g,a2,hv];refine tC cn (.zk (zl ts) (.zs .nil)) ?_;simp[go_sem,I,J,e4,o,w1,w2,g,T.len];rw[if_pos T.one];generalize putCells _ 0 C=PC;have next:yB ts es (vN (k+1))=false->∃ k':Int,k'=k+1/\zq ts es m k'=R/\∃ j:Nat,1<=j/\j<=m/\yB ts es (vN (k'+j))=true:=fun hn=>by
  refine⟨k+1,rfl,?_,j-1,?_,zOm,?_⟩
  .simp_all [zq,if_neg]
  .have:j≠1:=fun e=>by grind
   omega
  grind
 by_cases P:means ts (vN (k+1))=[]
 .rw [P]at p
  simp[go_sem,I,J,e4,o,w1,w2,g,P];refine tC ch (.zk (qc8 l) (.zs .nil)) ?_;cases a3:inL (vN (k+1)) l with
  |true =>
   rw[a3]at p;obtain⟨k',r,a0,a1⟩:=next p;simp[go_sem,I,J,e4,o,w1,w2,w3,g];exact⟨m,zOm,aK ⟨i+1,k+1,zOm,zOm,zOm,zS1 I,zS1 J,zSi,zSi,zSi,by rw[<-r];exact a0,by rw[<-r];exact a1⟩⟩
  |false =>
   rw[a3]at p;have a6:R=k+1:=by rw[<-hI];simp only[zq];rw[if_pos (by rw[p];rfl)]
   simp[go_sem,I,J,e4,o,w1,w2,g];rw[a6];exact .hf _ (HF.tup fun x hx=>by
    simp only[qt,qF,or_false]at hx;rcases hx with rfl|rfl
    .exact wq ts l ⟨k+1,s.sM⟩
    .exact HF.sc _)
 .have a7:¬(means ts (vN (k+1))).length=0:=fun e=>P (List.length_eq_zero_iff.1 e)
  rw[decide_eq_false a7]at p;obtain⟨k',r,a0,a1⟩:=next p;simp[go_sem,I,J,e4,o,w1,w2,w3,g,P];exact⟨m,zOm,aK ⟨i+1,k+1,zOm,zOm,zOm,zS1 I,zS1 J,zSi,zSi,zSi,by rw[<-r];exact a0,by rw[<-r];exact a1⟩⟩
abbrev Sb:=tG×IV
def cAr:Option Nd->List AV
 |some a=>cNd a
 |none=>[aI 0,aS ⟨#[]⟩,aI 0,.lst true [],aI 0]
@[go_sem] theorem cAr_some(a):cAr (some a)=cNd a:=rfl
@[go_sem] theorem cAr_none:cAr none=[aI 0,aS ⟨#[]⟩,aI 0,.lst true [],aI 0]:=rfl
@[go_sem] theorem qq6(o):(cAr o).length=5:=by cases o<;>simp[go_sem,yx]
theorem qq7(o):∀ c,c∈cAr o->HF c:=by
 cases o with
 |some a=>exact vj a
 |none =>
  intro c g;simp only[cAr,qt,qF,or_false]at g;rcases g with rfl|rfl|rfl|rfl|rfl
  .exact HF.sc _
  .exact HF.sc _
  .exact HF.sc _
  .exact HF.lst fun r i=>absurd i qF
  .exact HF.sc _
abbrev cSb(x:Sb):List AV:=[aS x.1,aS x.2.name,aB x.2.arg.isSome]++cAr x.2.arg++[aI x.2.size]
abbrev lSb(l:List Sb):AV := .lst false (l.map cSb)
def uI(nm:tG)(l:List Sb):Option IV:=l.foldl (fun r e=>if e.1=nm then some e.2 else r) none
theorem U6(nm l e):uI nm (l++[e])=if e.1=nm then some e.2 else uI nm l:=by
 unfold uI;rw[List.foldl_append];rfl
theorem ky{mu}(ts l s n z):Rd mu (.tup [eWk ts l s,eNd n,aI z]) (.tup [eWk ts l s,eNd n,aI z]) := .hf _ (HF.tup fun x g=>by
 simp only[qt,qF,or_false]at g;rcases g with rfl|rfl|rfl
 .exact wq ts l s
 .exact qJ n
 .exact HF.sc _)
def Qf(sc:List Sb)(n:Nd)(s:ISt):(Nd×Int)×ISt:=match uI n.name sc with
 |none=>((n,1),s)
 |some v=>match v.arg with
  |none=>((.mk n.op v.name n.n n.sD n.pos,1),s)
  |some a=>((a,v.size),payS v.size s)
theorem leafU(ts l sc)(hl:sc.length<=1000000)(n s)(hs:0<=s.sM/\s.sM<=1000000)(hz:∀ e,e∈sc->0<=e.2.size/\e.2.size<=1000000) :
  qd qb 156 [eWk ts l s,lSb sc,eNd n] (.tup [eWk ts l (Qf sc n s).2,eNd (Qf sc n s).1.1,aI (Qf sc n s).1.2]):=by
 unfold Qf;generalize hR:uI n.name sc=R;have wl:qm.wrap ((sc.length:Int)-1)=(sc.length:Int)-1:=zWr;refine qSQ call156 func156 rfl { mt:=[3,5] } ?_;simp[go_sem,wl,qZ];refine tP (fun m U=>m<=sc.length/\U.tm 1=lSb sc/\U.tm 3 = .ptr 0 0/\U.tm 5 = .ptr 1 0/\U.tm 6 = .ptr 2 0/\U.tm 7 = .ptr 3 0/\U.tm 9=aI ((m:Int)-1)/\U.mu=[.arr (cWk ts l s),.arr (cNd n),.arr zWc,.arr [aI 0,aS ⟨#[]⟩,aI 0,.lst true [],aI 0]]/\uI n.name (sc.take m)=R) sc.length ?_ ?_
 .simp [go_sem, *]
 rintro m U ⟨a2,j,o,p,r,t,C,I,P⟩;cases m with
 |zero =>
  have a1:R=none:=by rw[<-P];rfl
  subst a1;simp[go_sem,j,o,p,r,t,C,I,qZ];refine fD [0,1,4,2,3] [(0,0,[]),(1,0,[]),(4,0,[]),(2,1,[1]),(3,1,[])] zKr zKr zSi ?_;simp[go_sem,j,o,p,r,t,C,I,qZ]
  grind [ky]
 |succ m =>
  have g:m<sc.length:=zOm;have a3:(0:Int)<=((m+1:Nat):Int)-1:=zOm;have T:((m+1:Nat):Int)-1=(m:Int):=zOm;rw[T]at C;rw[vu g,U6]at P;have w1:qm.wrap ((m:Int)-1)=(m:Int)-1:=zWr;have a4:=hz _ (qn g);generalize i:sc[m]=e at *
  by_cases J:e.1=n.name
  .rw [if_pos J]at P
   subst P;have w2:qm.wrap (s.sM+e.2.size)=s.sM+e.2.size:=zWr;simp[go_sem,j,o,p,r,t,C,I,qZ,g];refine cZ zKr ?_;simp[go_sem,j,o,p,r,t,C,I,qZ,g,i,J];cases ha:e.2.arg with
   |none =>
    simp[go_sem,j,o,p,r,t,C,I,qZ,g,i,J,ha];refine fD [0,1,4,2,3] [(0,0,[]),(1,0,[]),(4,0,[]),(2,1,[1]),(3,1,[])] zKr zKr zSi ?_;have a0:(cNd n).set 1 (AV.sc (.string e.2.name))=cNd (.mk n.op e.2.name n.n n.sD n.pos):=by rw[yx n,yx];rfl
    rw[a0];simp[go_sem,j,o,p,r,t,C,I,qZ]
    grind [ky]
   |some a =>
    simp[go_sem,j,o,p,r,t,C,I,qZ,g,i,J,ha];refine fD [0,1,2,3,4,5,6,7,8,9] [(0,0,[]),(1,0,[]),(2,0,[]),(3,0,[]),(4,0,[]),(5,0,[]),(6,0,[]),(7,0,[]),(8,0,[]),(9,1,[])] zKr zKr zSi ?_;simp[go_sem,j,o,p,r,t,C,I,qZ,g,i,J,ha,w2];refine fD [0,1,2,3,4,5,6,7,8,9,10,13,11,12] [(0,0,[]),(1,0,[]),(2,0,[]),(3,0,[]),(4,0,[]),(5,0,[]),(6,0,[]),(7,0,[]),(8,0,[]),(9,0,[]),(10,0,[]),(13,0,[]),(11,1,[5,10]),(12,1,[10])] zKr zKr zSi ?_;simp[go_sem,j,o,p,r,t,C,I,qZ,g,i,J,ha,w2]
    grind [ky,payS]
  .rw [if_neg J]at P
   simp[go_sem,j,o,p,r,t,C,I,qZ,g];refine cZ zKr ?_;simp[go_sem,j,o,p,r,t,C,I,qZ,g,i,jF J,w1];exact⟨m,zOm,aK ⟨zOm,zS1 j,zS1 o,zS1 p,zS1 r,zS1 t,zSi,zS1 I,P⟩⟩
theorem kz:∀ m n,szN n<=m->Small n->depN n<=1000000->qd qb 110 [eNd n] (aI (depN n))
 | 0,n,J,_,_=>by obtain⟨op,nm,i,ks,p⟩:=n;simp[szN]at J
 |m+1,n,J,P,R=>by
  have ih:∀ k,k∈n.sD->qd qb 110 [eNd k] (aI (depN k)):=fun k j =>
   kz m k (zW1 (ym j)) (P.kid j) (by rw[Ze]at R;have:=qaT j;omega)
  rw[Ze]at R⊢;have T:=P.len;have a0:=UG n.sD;generalize hD:yn n.sD=D at *
  refine qSU call110 func110 rfl ?_;refine kT n.sD.length (fun k U=>∃ d,U.tm 3=aI d/\U.tm 1 = .ip (cNd n)/\U.tm 4=aI k/\0<=d/\max d (yn (n.sD.drop k))=D) ?_ ?_
  .exact ⟨0,zSi,zSi,zSi,zOm,by grind⟩
  .rintro k U j ⟨d,r,l,t,a1,o⟩
   by_cases C:k=n.sD.length
   .subst C
    rw[yh]at o;simp only[yn]at o;have I:d=D:=zOm;subst I;have w:qm.wrap (d+1)=d+1:=zWr;simp[go_sem,r,l,t,w];exact .zsc _
   .have g:k<n.sD.length:=by omega
    have w1:=zWk k;rw[zm g]at o;simp only[yn]at o;simp[go_sem,r,l,t,g,qZ];refine tC (ih n.sD[k] (qn g)) (.zk (qJ _) .nil) ?_;simp[go_sem,r,l,t,w1];refine⟨g,aK ?_⟩;refine⟨if d<depN n.sD[k] then depN n.sD[k] else d,zSi,zS1 l,zSi,?_,?_⟩
    .omega
    omega
end QX
namespace QY
open Y1 YX YA YB YC P1 P2 PA QE QX
section
variable {es:List (tG×Bool)}
structure ScOf (ts:TS) (body:Bool) (sc:List Sb) (env:IEnv):Prop where
 look:∀ nm,uI nm sc=getK nm env
 own:body=false->∀ nm v,getK nm env=some v->means ts nm≠[]
 sz:∀ e,e∈sc->0<=e.2.size/\e.2.size<=4000
def OutR(r:XR (Nd×Int))(s':ISt)(n':Nd)(z:Int):Prop:=match r with
 | .ok ((m,y),t)=>n'=m/\z=y/\s'=t
 | .error _=>4000<s'.sM/\s'.sM<=9000/\0<=z/\z<=4000
def renR(ts:TS)(es:List (tG×Bool))(sc:List Sb)(nm:tG)(body:Bool)(s:ISt):(List Sb×tG)×ISt:=
 if body=true\/means ts nm≠[] then
  ((sc++[(nm,⟨none,0,vN (zq ts es (qk ts es) s.last)⟩)],vN (zq ts es (qk ts es) s.last)),⟨zq ts es (qk ts es) s.last,s.sM⟩)
 else ((sc,nm),s)
abbrev XO:=ISt×Nd×Int
def vQ(E:Nd->ISt->XO):List (tG×Int)->List Nd->List Sb->ISt->Except ISt (List Sb×ISt)
 |p :: g,k :: ks,own,s=>if 4000<(E k s).1.sM then .error (E k s).1 else vQ E g ks (own++[(p.1,⟨some (E k s).2.1,(E k s).2.2,⟨#[]⟩⟩)]) (E k s).1
 |_,_,own,s => .ok (own,s)
def ue(E:List Sb->Nd->ISt->XO)(R:List Sb->tG->ISt->(List Sb×tG)×ISt)(bin:Bool):Nat->List Sb->tG->List Nd->ISt->Except ISt ((tG×List Nd×Int)×ISt)
 |_,_,o,[],s => .ok ((o,[],0),s)
 |i,sc,o,k :: ks,s =>
  let r:=if bin=true/\i=1 then R sc o s else ((sc,o),s)
  let q:=E r.1.1 k r.2
  if 4000<q.1.sM then .error q.1 else match ue E R bin (i+1) r.1.1 r.1.2 ks q.1 with
   | .error e => .error e
   | .ok ((g,j,p),l) => .ok ((g,q.2.1 :: j,q.2.2+p),l)
def expR(ts:TS)(es:List (tG×Bool)):Nat->List Sb->Nd->Bool->ISt->XO
 | 0,_,n,_,s=>(s,n,0)
 |f+1,sc,n,g,s =>
  if s.sM+1<=4000 then
   if n.op=1 then ((Qf sc n (payS 1 s)).2,(Qf sc n (payS 1 s)).1.1,(Qf sc n (payS 1 s)).1.2)
   else if n.op=47 then match ts.sT.find? fun p=>decide (p.name=n.name) with
    |none=>(payS 1 s,n,1)
    |some p=>match vQ (fun k s=>expR ts es f sc k g s) p.params n.sD [] (payS 1 s) with
     | .error i=>(i,nd0,0)
     | .ok (own,i)=>expR ts es f own p.body true i
   else match ue (fun sc k s=>expR ts es f sc k g s) (fun sc o s=>renR ts es sc o g s) (binB n.op) 0 sc n.name n.sD (payS 1 s) with
    | .error i=>(i,nd0,0)
    | .ok ((o,ks,m),i)=>(i,.mk n.op o n.n ks n.pos,1+m)
  else (payS 1 s,nd0,0)
theorem U7{F s s' z}(g:Gos F s s' z)(h:StOk F s):StOk F s'/\s.sM<=s'.sM/\z<=4000:=⟨g.ok h,zW2 g.cz g.z0,by have:=g.cz;have:=g.c1;have:=h.c0;omega⟩
theorem qdA{F f:Nat}{E E'}:∀ ps ks own i s,
  (∀ k,k∈ks->∀ s,StOk F s->4000<s.sM+(f:Int)->OutR (E k s) (E' k s).1 (E' k s).2.1 (E' k s).2.2)->(∀ k n' z s s',k∈ks->StOk F s->E k s = .ok ((n',z),s')->Gos F s s' z) ->
  StOk F s->4000<s.sM+(f:Int)->zo own->(∀ nm,uI nm i=getK nm own)->(∀ e,e∈i->0<=e.2.size/\e.2.size<=4000) ->
  match ji E ps ks own s with
  | .error _=>∃ t,vQ E' ps ks i s = .error t/\4000<t.sM/\t.sM<=9000
  | .ok (l,s')=>∃ j,vQ E' ps ks i s = .ok (j,s')/\zo l/\(∀ nm,uI nm j=getK nm l)/\(∀ e,e∈j->0<=e.2.size/\e.2.size<=4000)/\StOk F s'/\s.sM<=s'.sM
 | [],ks,own,i,s,_,_,o,_,J,P,R=>by simp only[ji,vQ];exact⟨i,rfl,J,P,R,o,vf _⟩
 |p :: ps,[],own,i,s,_,_,o,_,J,P,R=>by simp only[ji,vQ];exact⟨i,rfl,J,P,R,o,vf _⟩
 |p :: ps,k :: ks,own,i,s,hE,hG,o,hf,J,P,R=>by
  simp only[ji,vQ];have C:=hE k (zd ..) s o hf;have h2:=fun n' z s'=>hG k n' z s s' (zd ..) o
  generalize E' k s=Q at *
  cases T:E k s with
  |error d =>
   rw[T]at C;simp only;rw[if_pos C.1];exact⟨_,rfl,C.1,C.2.1⟩
  |ok r =>
   obtain⟨⟨m,y⟩,t⟩:=r;rw[T]at C;obtain⟨e1,e2,e3⟩:=C;have g:=h2 m y t T;obtain⟨g1,g2,g3⟩:=U7 g o;have hc:=g.c1;simp only;rw[if_neg (by rw[e3];omega),e1,e2,e3];have ih:=qdA (F:=F) (f:=f) ps ks (setK p.1 ⟨some m,y,⟨#[]⟩⟩ own) (i++[(p.1,⟨some m,y,⟨#[]⟩⟩)]) t (fun k U=>hE k (qW _ U)) (fun k n' z s s' U=>hG k n' z s s' (qW _ U)) g1 zOm (J.set ⟨g.z0,g3⟩) (fun nm=>by
    rw[U6,j7,P];by_cases e:p.1=nm
    .grind
    .rw [if_neg e,if_neg fun x=>e x.symm]) (fun e I=>by
    rcases qH.1 I with I|I
    .exact R e I
    .rw [qT]at I;subst I;exact⟨g.z0,g3⟩)
   grind
theorem qdB{ts env sc nm body s}(j:zo env)(h:ScOf ts body sc env) :
  ScOf ts body (renR ts es sc nm body s).1.1 (renI ts es env nm body s).1.1/\(renR ts es sc nm body s).1.2=(renI ts es env nm body s).1.2/\(renR ts es sc nm body s).2=(renI ts es env nm body s).2:=by
 unfold renR renI;by_cases l:body=true\/means ts nm≠[]
 .rw [if_pos l,if_pos l]
  refine⟨⟨fun x=>?_,fun i x v g=>?_,fun e o=>?_⟩,rfl,rfl⟩
  .simp only
   rw[U6,j7,Qr j.nd,h.look];by_cases e:nm=x
   .grind
   .rw [if_neg e,if_neg fun y=>e y.symm,if_neg fun y=>e y.symm]
  .simp only at g
   rw[j7,Qr j.nd]at g;by_cases e:x=nm
   .grind
   .rw [if_neg e,if_neg e]at g
    exact h.own i x v g
  .rcases qH.1 o with o|o
   .exact h.sz e o
   grind
 .rw [if_neg l,if_neg l]
  refine⟨⟨fun x=>?_,fun i x v g=>?_,h.sz⟩,rfl,rfl⟩
  .simp only
   rw[Qr j.nd,h.look];by_cases e:x=nm
   .rw [if_pos e]
    cases p:getK x env with
    |none=>rfl
    |some v =>
     have i:body=false:=by grind
     exact absurd (h.own i x v p) (by grind)
   .rw [if_neg e]
  .simp only at g
   rw[Qr j.nd]at g;split at g
   .cases g
   .exact h.own i x v g
theorem qdC{ts es}(C:Free ts es){f:Nat}{body E E' bin}:∀ ks i env sc nm s,
  (∀ k,k∈ks->∀ env sc s,StOk (qk ts es) s->4000<s.sM+(f:Int)->zo env->ScOf ts body sc env->OutR (E env k s) (E' sc k s).1 (E' sc k s).2.1 (E' sc k s).2.2) ->
  (∀ env k n' z s s',k∈ks->StOk (qk ts es) s->zo env->E env k s = .ok ((n',z),s')->Gos (qk ts es) s s' z) ->
  0<=s.last->0<=s.sM->s.sM<=4000->dueN (qk ts es) bin i<=pot (qk ts es) s->4000<s.sM+(f:Int)->zo env->ScOf ts body sc env ->
  match yJ E (fun env nm s=>renI ts es env nm body s) bin i env nm ks s with
  | .error _=>∃ t,ue E' (fun sc nm s=>renR ts es sc nm body s) bin i sc nm ks s = .error t/\4000<t.sM/\t.sM<=9000
  | .ok r=>ue E' (fun sc nm s=>renR ts es sc nm body s) bin i sc nm ks s = .ok r
 | [],i,env,sc,nm,s,_,_,_,_,_,_,_,_,_=>by simp only[yJ,ue]
 |k :: ks,i,env,sc,nm,s,hE,hG,l0,c0,c1,hp,hf,R,I=>by
  simp only[yJ,ue];obtain⟨r,J⟩:∃ r,(if bin=true/\i=1 then renI ts es env nm body s else ((env,nm),s))=r:=⟨_,rfl⟩;obtain⟨l,j⟩:∃ l,(if bin=true/\i=1 then renR ts es sc nm body s else ((sc,nm),s))=l:=⟨_,rfl⟩;have hR:ScOf ts body l.1.1 r.1.1/\l.1.2=r.1.2/\l.2=r.2/\zo r.1.1/\StOk (qk ts es) r.2/\r.2.sM=s.sM/\dueN (qk ts es) bin (i+1)<=pot (qk ts es) r.2:=by
   by_cases hb:bin=true/\i=1
   .rw [if_pos hb]at J j
    subst J;subst j;obtain⟨a1,a2,a3⟩:=qdB (es:=es) (nm:=nm) (s:=s) R I;have a4:=J7 (ts:=ts) (es:=es) (nm:=nm) (body:=body) (s:=s) R;obtain⟨b1,b2,T⟩:=J8 (body:=body) (nm:=nm) (env:=env) C l0;have hd:dueN (qk ts es) bin i=(qk ts es:Int):=by simp_all[dueN,if_pos]
    have a0:dueN (qk ts es) bin (i+1)=0:=by simp_all[dueN,if_neg]
    rw[hd]at hp;have P:0<=pot (qk ts es) (renI ts es env nm body s).2:=by
     grind [pot]
    exact⟨a1,a2,a3,a4,⟨b1,by rw[T];exact c0,by rw[T];exact c1,P⟩,T,zOm⟩
   .rw [if_neg hb]at J j
    subst J;subst j;have hd:dueN (qk ts es) bin (i+1)<=dueN (qk ts es) bin i:=by
     unfold dueN;split
     .grind
     omega
    have a5:0<=dueN (qk ts es) bin i:=by grind [dueN]
    exact⟨I,rfl,rfl,R,⟨l0,c0,c1,by grind⟩,rfl,by grind⟩
  rw[J,j];obtain⟨q1,q2,q3,U,q5,q6,q7⟩:=hR;rw[q2,q3];have o:=hE k (zd ..) r.1.1 l.1.1 r.2 q5 zOm U q1;have h2:=fun n' z s'=>hG r.1.1 k n' z r.2 s' (zd ..) q5 U
  generalize E' l.1.1 k r.2=Q at *
  cases hq:E r.1.1 k r.2 with
  |error d =>
   rw[hq]at o;simp only;rw[if_pos o.1];exact⟨_,rfl,o.1,o.2.1⟩
  |ok x =>
   obtain⟨⟨m,y⟩,t⟩:=x;rw[hq]at o;obtain⟨e1,e2,e3⟩:=o;have g:=h2 m y t hq;obtain⟨g1,g2,g3⟩:=U7 g q5;have hc:=g.c1;have a6:=g.p;simp only;rw[if_neg (by rw[e3];omega),e1,e2,e3];have ih:=qdC C (f:=f) (body:=body) (E:=E) (E':=E') (bin:=bin) ks (i+1) r.1.1 l.1.1 r.1.2 t (fun k hk=>hE k (qW _ hk)) (fun env k n' z s s' hk=>hG env k n' z s s' (qW _ hk)) g1.l0 g1.c0 g1.c1 zOm zOm U q1;cases hx:yJ E (fun env nm s=>renI ts es env nm body s) bin (i+1) r.1.1 r.1.2 ks t with
   |error d =>
    rw[hx]at ih;obtain⟨t',a1,a2,a3⟩:=ih
    grind
   |ok x =>
    grind
theorem YT(ts es)(i:Free ts es)(hb:∀ p,p∈ts.sT->WfN p.body/\yK ts p.body):∀(f:Nat)(env sc n body s),
  4000<s.sM+(f:Int)->StOk (qk ts es) s->zo env->WfN n->yK ts n->ScOf ts body sc env->OutR (expI ts es f env n body s) (expR ts es f sc n body s).1 (expR ts es f sc n body s).2.1 (expR ts es f sc n body s).2.2
 | 0,env,sc,n,body,s,hf,g,_,_,_,_=>zW1 g.c1
 |f+1,env,sc,n,body,s,hf,g,r,hw,I,l=>by
  have a8:=g.c0;have a9:=g.c1;have p1:(payS 1 s).sM=s.sM+1:=rfl;simp only[expI,expR];by_cases J:s.sM+1<=4000
  case neg =>
   rw[if_neg J,if_neg J];exact⟨by rw[p1];omega,by rw[p1];omega,zSp,zSp⟩
  rw[if_pos J,if_pos J];have C:=(Qb g (n:=1) zOm J).ok g;by_cases h1:n.op=1
  .rw [if_pos h1,if_pos h1]
   unfold Qf vK;rw[l.look];cases hg:getK n.name env with
   |none=>exact⟨rfl,rfl,rfl⟩
   |some v =>
    have hv:=r.sz _ ((Qq r.nd).1 hg);have hv:0<=v.size/\v.size<=4000:=hv;simp only;cases P:v.arg with
    |none=>exact⟨rfl,rfl,rfl⟩
    |some a =>
     simp only;have e2:(payS v.size (payS 1 s)).sM=(payS 1 s).sM+v.size:=rfl;by_cases R:(payS 1 s).sM+v.size<=4000
     .rw [if_pos R];exact⟨rfl,rfl,rfl⟩
     .rw [if_neg R]
      exact⟨by rw[e2];omega,by rw[e2];omega,hv.1,hv.2⟩
  rw[if_neg h1,if_neg h1];by_cases h47:n.op=47
  .rw [if_pos h47,if_pos h47]
   obtain⟨p,T,a7⟩:=I n (ud n) h47;have a0:=List.mem_of_find?_eq_some T;rw[T];simp only;have P:=qdA (F:=qk ts es) (f:=f) (E:=fun k s=>expI ts es f env k body s) (E':=fun k s=>expR ts es f sc k body s) p.params n.sD [] [] (payS 1 s)
    (fun k j s g hf=>YT ts es i hb f env sc k body s hf g r (hw.kid j) (I.kid j) l)
    (fun k n' z s s' j g e=>jG ts i f g r e) C (by rw[p1];omega) .nil (fun o=>rfl) (fun e hm=>absurd hm qF)
   cases U:ji (fun k s=>expI ts es f env k body s) p.params n.sD [] (payS 1 s) with
   |error d =>
    rw[U]at P;obtain⟨t,a1,a2,a3⟩:=P;rw[a1];exact⟨a2,a3,zSp,zSp⟩
   |ok x =>
    obtain⟨own,s'⟩:=x;rw[U]at P;obtain⟨L,a1,a2,a3,a4,a5,a6⟩:=P;rw[a1];obtain⟨b1,b2⟩:=hb p a0;exact YT ts es i hb f own L p.body true s' zOm a5 a2 b1 b2 ⟨a3,fun h=>absurd h zSp,a4⟩
  .rw [if_neg h47,if_neg h47]
   have j:=qdC i (f:=f) (body:=body) (E:=fun env k s=>expI ts es f env k body s) (E':=fun sc k s=>expR ts es f sc k body s) (bin:=binB n.op) n.sD 0 env sc n.name (payS 1 s)
    (fun k j env sc s g hf r l=>YT ts es i hb f env sc k body s hf g r (hw.kid j) (I.kid j) l)
    (fun env k n' z s s' j g r e=>jG ts i f g r e) C.l0 C.c0 C.c1 (by
     rw[ZP];have:=g.p
     grind [dueN]) (by rw[p1];omega) r l
   cases U:yJ (fun env k s=>expI ts es f env k body s) (fun env o s=>renI ts es env o body s) (binB n.op) 0 env n.name n.sD (payS 1 s) with
   |error d =>
    rw[U]at j;obtain⟨t,a1,a2,a3⟩:=j;rw[a1];exact⟨a2,a3,zSp,zSp⟩
   |ok x =>
    obtain⟨⟨o,ks,m⟩,s'⟩:=x;rw[U]at j;rw[j];exact⟨rfl,rfl,rfl⟩
end
end QY
namespace QZ
open YF Y9 Y10 Y1 YX YB YC P1 P2 PA QE QI QS QT QX QY
section
variable {mu:Mu}
abbrev eXO(ts:TS)(l:List tG)(q:XO):AV := .tup [eWk ts l q.1,eNd q.2.1,aI q.2.2]
theorem U8(x):∀ c,c∈cSb x->HF c:=fun c g=>by
 rcases qH.1 g with g|g
 .rcases qH.1 g with g|g
  .simp only[qt,qF,or_false]at g
   rcases g with rfl|rfl|rfl<;>exact HF.sc _
  grind [qq7]
 grind [qT,HF.sc]
theorem qq8(x):(cSb x).length=9:=by simp[qq6]
theorem YY(l:List Sb):zc 9 (l.map cSb):=fun r g=>by
 obtain⟨x,_,rfl⟩:=qi.1 g;refine⟨qq8 x,?_⟩;obtain⟨o,⟨a,z,w⟩⟩:=x;cases a<;>simp[yx,go_sem]
theorem qdD(l):HF (lSb l):=HF.lst fun r g c i=>by
 obtain⟨x,_,rfl⟩:=qi.1 g;exact U8 x c i
theorem wkX(ts l s sc n b):WKs [eWk ts l s,lSb sc,eNd n,aB b] [eWk ts l s,lSb sc,eNd n,aB b] := .zk (wq ts l s) (.zk (qdD sc) (.zk (qJ n) (.zs .nil)))
theorem kA(ts l q):HF (eXO ts l q):=HF.tup fun x g=>by
 simp only[qt,qF,or_false]at g;rcases g with rfl|rfl|rfl
 .exact wq ts l _
 .exact qJ _
 .exact HF.sc _
structure Pre (ts:TS) (es:List (tG×Bool)) (f:Nat) (env:IEnv) (sc:List Sb) (n:Nd) (body:Bool) (s:ISt):Prop where
 fu:4000<s.sM+(f:Int)
 st:StOk (qk ts es) s
 en:zo env
 wf:WfN n
 cl:yK ts n
 so:ScOf ts body sc env
 le:(sc.length:Int)<=s.sM+8
theorem rd0:Rd mu (.agg [aI 0,aS ⟨#[]⟩,aI 0,.lst true [],aI 0]) (eNd nd0) := .agg _ _ rfl fun k x y g i=>by
 match k,g,i with
 | 0,g,i=>cases g;cases i;exact .zsc _
 | 1,g,i=>cases g;cases i;exact .zsc _
 | 2,g,i=>cases g;cases i;exact .zsc _
 | 3,g,i=>cases g;cases i;exact .wk _ true _ (.hf _ (HF.lst fun r j=>absurd j qF))
 | 4,g,i=>cases g;cases i;exact .zsc _
 |k+5,g,i=>cases g
theorem rdZ(ts l s):Rd mu (.tup [eWk ts l s,.agg [aI 0,aS ⟨#[]⟩,aI 0,.lst true [],aI 0],aI 0]) (eXO ts l (s,nd0,0)) := .tup _ _ rfl fun k x y g i=>by
 match k,g,i with
 | 0,g,i=>cases g;cases i;exact .hf _ (wq ts l s)
 | 1,g,i=>grind [rd0]
 | 2,g,i=>cases g;cases i;exact .zsc _
 |k+3,g,i=>cases g
theorem qdE{lo s xs y K}(j:OwnF lo mu 9 s (xs.map cSb))(l:xs.length<=100000)(o:∀ av mu',OwnF lo mu' 9 av ((xs++[y]).map cSb)->(∀ i,i<lo->mu'[i]?=mu[i]?)->K av mu') :
  qu qb mu #[245,245] s (.lst true [cSb y]) K:=by
 refine qu.ownF (lo:=lo) (e:=252) (sz:=9) (bt:=112) (zv := .agg [aS ⟨#[]⟩,aS ⟨#[]⟩,aB false,aI 0,aS ⟨#[]⟩,aI 0,.lst true [],aI 0,aI 0]) (xs:=xs.map cSb) (ys:=[cSb y]) zSi zSi zSi rfl rfl zOm zOm j (by simp[qz]) (YY xs) (YY [y]) zSo ?_
 grind
abbrev ExpW(ts:TS)(l:List tG)(es:List (tG×Bool))(f:Nat)(sc:List Sb)(n:Nd)(body:Bool)(s:ISt):Prop:=
 qd qb 108 [eWk ts l s,lSb sc,eNd n,aB body] (eXO ts l (expR ts es f sc n body s))
theorem expN(ts l es f env sc n body s)(p:Pre ts es (f+1) env sc n body s)(j:s.sM+1<=4000)(i:n.op=1):ExpW ts l es (f+1) sc n body s:=by
 have o:=p.st.c0;have I:=p.le;have r:=leafU ts l sc zOm n (payS 1 s) ⟨by show 0<=s.sM+1;omega,by show s.sM+1<=_;omega⟩ (fun e t=>zW1 (p.so.sz e t));unfold ExpW;simp only[expR];rw[if_pos j,if_pos i];have C:qm.wrap (s.sM+1)=s.sM+1:=zWr;have g:¬ 4000<s.sM+1:=zOm;generalize Qf sc n (payS 1 s)=Q at *
 refine qSQ call108 func108 rfl { mt:=[4] } ?_;simp[go_sem,C,g,i,qZ];refine tC r (.zk (wq ts l (payS 1 s)) (.zk (qdD sc) (.zk (qJ n) .nil))) ?_;simp[go_sem,qZ];exact .hf _ (kA ts l (Q.2,Q.1.1,Q.1.2))
theorem expZ(ts l es f env sc n body s)(p:Pre ts es (f+1) env sc n body s)(i:¬s.sM+1<=4000):ExpW ts l es (f+1) sc n body s:=by
 have j:=p.st.c0;have o:=p.st.c1;unfold ExpW;simp only[expR];rw[if_neg i];have r:qm.wrap (s.sM+1)=s.sM+1:=zWr;have g:4000<s.sM+1:=zOm;refine qSQ call108 func108 rfl { mt:=[4] } ?_;simp[go_sem,r,g,qZ]
 grind [rdZ,payS]
def repR(ts : TS)(es : List (tG × Bool))(f : Nat)(sc : List Sb)(n : Nd)(body : Bool)(s : ISt)(p : Pd) : XO := match vQ (fun k s => expR ts es f sc k body s) p.params n.sD [] s with
          | .error g=>(g,nd0,0)
          | .ok (own,g)=>expR ts es f own p.body true g
theorem expC(ts l es f env sc n body s)(p:Pre ts es (f+1) env sc n body s)(j:s.sM+1<=4000)(h47:n.op=47)(g)(o:(ts.sT.find? fun p=>decide (p.name=n.name))=some g)
  (r:qd qb 157 [eWk ts l (payS 1 s),lSb sc,eNd n,aB body] (eXO ts l (repR ts es f sc n body (payS 1 s) g))):ExpW ts l es (f+1) sc n body s:=by
 have t:=p.st.c0;unfold ExpW;simp only[expR];rw[if_pos j,zIn,if_pos h47,o];simp only;have C:qm.wrap (s.sM+1)=s.sM+1:=zWr;have i:¬ 4000<s.sM+1:=zOm;show qd qb 108 [eWk ts l s,lSb sc,eNd n,aB body] (eXO ts l (repR ts es f sc n body (payS 1 s) g));generalize repR ts es f sc n body (payS 1 s) g=Q at *
 refine qSQ call108 func108 rfl { mt:=[4] } ?_;simp[go_sem,C,i,h47,qZ];refine tC r (wkX ts l (payS 1 s) sc n body) ?_;simp[go_sem,qZ];exact .hf _ (kA ts l Q)
theorem replW(ts)(h:okTS ts)(l es)(ai:Free ts es)(hb:∀ p,p∈ts.sT->WfN p.body/\yK ts p.body)(f)(ih:∀ env sc n body s,Pre ts es f env sc n body s->ExpW ts l es f sc n body s)(env sc n body s)(p:Pre ts es f env sc n body s)(h47:n.op=47)
  (T) (hp:(ts.sT.find? fun p=>decide (p.name=n.name))=some T) (az:T.params.length=n.sD.length):qd qb 157 [eWk ts l s,lSb sc,eNd n,aB body] (eXO ts l (repR ts es f sc n body s T)):=by
 have a9:=List.mem_of_find?_eq_some hp;have b1:=(h.pl T a9).1;have b2:=h.np;obtain⟨i,hi,a3,aj⟩:∃ i,∃ hi:i<ts.sT.length,ts.sT[i]=T/\zn (ckR ts ts.sT.length) n.name=some i:=by
  cases hc:zn (ckR ts ts.sT.length) n.name with
  |none =>
   unfold zn at hc;rw[List.findIdx?_eq_none_iff]at hc;have:=hc T (by show T∈ts.sT.take ts.sT.length;rw[qO];exact a9);have h2:=List.find?_some hp;rw[h2]at this;cases this
  |some i =>
   obtain⟨h1,h2⟩:=Qx (U3 h (qo _)) hc;have h2:i<ts.sT.length:=h2;have h3:=PF.qb9 hc h2;have h3:(ts.sT.find? fun p=>decide (p.name=n.name))=some ts.sT[i]:=h3;rw[hp]at h3;exact⟨i,h2,(Option.some.inj h3).symm,rfl⟩
 have cp:=Vj (ckR ts ts.sT.length) (U3 h (qo _)) n.name;rw[aj]at cp;have I:=Qw;have aa:¬(i:Int)<0:=zOm;obtain⟨E',hE⟩:∃ E':Nd->ISt->XO,E'=fun k s=>expR ts es f sc k body s:=⟨_,rfl⟩
 obtain⟨a7,a8⟩:∃ a7,a7=repR ts es f sc n body s T:=⟨_,rfl⟩;have an:∀ k,k∈n.sD->∀ C,StOk (qk ts es) C->s.sM<=C.sM->qd qb 108 [eWk ts l C,lSb sc,eNd k,aB body] (eXO ts l (E' k C)):=fun k hk C J aa=>by
  rw[hE];exact ih env sc k body C ⟨zW1 p.fu,J,p.en,p.wf.kid hk,p.cl.kid hk,p.so,zW1 p.le⟩
 have ao:∀ k,k∈n.sD->∀ C,StOk (qk ts es) C->s.sM<=C.sM->4000<(E' k C).1.sM\/(¬ 4000<(E' k C).1.sM/\Gos (qk ts es) C (E' k C).1 (E' k C).2.2):=fun k hk C J aa=>by
  have ho:=YT ts es ai hb f env sc k body C (zW1 p.fu) J p.en (p.wf.kid hk) (p.cl.kid hk) p.so;have aq:E' k C=expR ts es f sc k body C:=by rw[hE]
  rw[aq];cases hx:expI ts es f env k body C with
  |error d=>rw[hx]at ho;exact .inl ho.1
  |ok r =>
   obtain⟨⟨m,y⟩,t⟩:=r;rw[hx]at ho;obtain⟨e1,e2,e3⟩:=ho;have g:=jG ts ai f J p.en hx;rw[e2,e3];exact .inr ⟨zW1 g.c1,g⟩
 have ar:∀ t,vQ E' T.params n.sD [] s = .error t->a7=(t,nd0,0):=fun t ht=>by
  rw[a8];unfold repR;rw[<-hE,ht]
 have au:∀ own t O,vQ E' T.params n.sD [] s = .ok (own,t)->StOk (qk ts es) t->s.sM<=t.sM->zo O->(∀ o,uI o own=getK o O)->(∀ e,e∈own->0<=e.2.size/\e.2.size<=4000)->own.length<=8->qd qb 108 [eWk ts l t,lSb own,eNd T.body,aB true] (eXO ts l a7):=fun own t O ht J aa hO ab ad h8=>by
  have e:a7=expR ts es f own T.body true t:=by rw[a8];unfold repR;rw[<-hE,ht]
  rw[e];have b3:=J.c0;exact ih O own T.body true t ⟨zW1 p.fu,J,hO,(hb T a9).1,(hb T a9).2,⟨ab,fun h=>absurd h zSp,ad⟩,zOm⟩
 rw[<-a8];have ak:=p.st;clear a8 hE ih;refine qSQ call157 func157 rfl { mt:=[4] } ?_;simp[go_sem,qZ];refine tC cp (.zk (zl ts) (.zs (.zs .nil))) ?_;simp[go_sem,qZ,idxO,aa];refine kT n.sD.length (fun k U=>∃(C:ISt) (L:List Sb) (O:IEnv),U.tm 1=lSb sc/\U.tm 3=aB body/\U.tm 4 = .ptr 0 0/\U.tm 6 = .ip (cNd n)/\U.tm 8 = .ptr 1 0/\U.tm 9 = .ptr 2 0/\U.tm 12=aI i/\U.tm 14=aI k/\U.mu[0]?=some (.arr (cWk ts l C))/\U.mu[1]?=some (.arr zWc)/\U.mu[2]?=some (.arr [aI 0,aS ⟨#[]⟩,aI 0,.lst true [],aI 0])/\OwnF 3 U.mu 9 (U.tm 13) (L.map cSb)/\vQ E' T.params n.sD [] s=vQ E' (T.params.drop k) (n.sD.drop k) L C/\StOk (qk ts es) C/\s.sM<=C.sM/\zo O/\(∀ o,uI o L=getK o O)/\(∀ e,e∈L->0<=e.2.size/\e.2.size<=4000)/\L.length=k) ?_ ?_
 .exact ⟨s,[],[],zSi,zSi,zSi,zSi,zSi,zSi,zSi,zSi,zSi,zSi,zSi,by simp[go_sem];exact OwnF.nil zSp,rfl,ak,vf _,.nil,fun o=>rfl,fun e he=>absurd he qF,rfl⟩
 rintro k U hk ⟨C,L,O,e1,e3,e4,e6,e8,e9,a2,a4,m0,m1,m2,ho,hI,J,ae,hO,ab,ad,aw⟩;generalize a5:U.tm 13=av at *
 obtain⟨rr,a0⟩:=kn m0 m1 m2;have b4:U.mu.length=rr.length+3:=by rw[a0];rfl
 have b0:n.sD.length<=8:=zOm;by_cases R:k<n.sD.length
 .have a6:k<T.params.length:=by omega
  have w1:=zWk k;rw[zm R,zm a6]at hI;simp only[vQ]at hI;have x1:=an n.sD[k] (qn R) C J ae;have x2:=ao n.sD[k] (qn R) C J ae;generalize E' n.sD[k] C=q at *
  clear m0 m1 m2;simp[go_sem,e1,e3,e4,e6,e8,e9,a2,a4,a5,a0,R,a6,hi,a3,I,qZ];refine fD [0,1,2,3,4,5,6,7,8,9,10,11,12,17,13,14,15,16] [(0,0,[]),(1,0,[]),(2,0,[]),(3,0,[]),(4,0,[]),(5,0,[]),(6,0,[]),(7,0,[]),(8,1,[]),(9,0,[]),(10,0,[]),(11,0,[]),(12,0,[]),(17,0,[]),(13,2,[0,3,6]),(14,2,[0,3,6]),(15,1,[]),(16,1,[])] zKr zKr zSi ?_;simp[go_sem,e1,e3,e4,e6,e8,e9,a2,a4,a5,a0,R,a6,hi,a3,I,qZ];refine tC x1 (wkX ts l C sc n.sD[k] body) ?_;simp[go_sem,e1,e3,e4,e6,e8,e9,a2,a4,a5,a0,R,a6,hi,a3,I,qZ];by_cases a1:4000<q.1.sM
  .have ax:a7=(q.1,nd0,0):=ar _ (by rw[hI,if_pos a1])
   simp[go_sem,e1,e3,e4,e6,e8,e9,a2,a4,a5,a0,R,a6,hi,a3,I,qZ,a1];rw[ax];exact rdZ ts l q.1
  .rcases x2 with x2|⟨_,g⟩
   .exact absurd x2 a1
   rw[if_neg a1]at hI;simp[go_sem,e1,e3,e4,e6,e8,e9,a2,a4,a5,a0,R,a6,hi,a3,I,qZ,a1];refine cZ zKr ?_;simp[go_sem,e1,e3,e4,e6,e8,e9,a2,a4,a5,a0,R,a6,hi,a3,I,qZ,a1];obtain⟨g1,g2,g3⟩:=U7 g J;have gz:=g.z0;have hy:(AV.sc (.string T.params[k].1) :: AV.sc (.string ⟨#[]⟩) :: AV.sc (.bool true) :: (cNd q.2.1++[AV.sc (.int .i64 q.2.2)]))=cSb (T.params[k].1,⟨some q.2.1,q.2.2,⟨#[]⟩⟩):=zSi;rw[hy];generalize af:(T.params[k].1,(⟨some q.2.1,q.2.2,⟨#[]⟩⟩:IV))=en at *
   refine qdE (lo:=3) (xs:=L) (y:=en) ?_ zOm ?_
   .have h1:OwnF 3 (U.mu++[Cell.arr (cWk ts l q.1),Cell.arr (cNd q.2.1)]) 9 av (L.map cSb):=YD.Zh ho zSo fun i _ hi=>qG hi
    rw[a0]at h1;have h2:=OwnF.set (i:=0) (c:=Cell.arr (cWk ts l q.1)) h1 zOm;simpa using h2
   intro b5 b6 ag ah;have n0:=ah 0 zOm;have n1:=ah 1 zOm;have n2:=ah 2 zOm;simp at n0 n1 n2;obtain⟨r2,al⟩:=kn n0 n1 n2;simp[go_sem,e1,e3,e4,e6,e8,e9,a2,a4,a5,al,R,a6,hi,a3,I,qZ,a1,w1];refine aK ⟨q.1,L++[en],setK en.1 en.2 O,zS1 e1,zS1 e3,zS1 e4,zS1 e6,zS1 e8,zS1 e9,zS1 a2,zSi,zSi,zSi,zSi,?_,?_,g1,?_,?_,?_,?_,?_⟩
   .have h2:=OwnF.set (i:=0) (c:=Cell.arr (cWk ts l q.1)) ag zOm
    simp[go_sem];rw[al]at ag;simpa using ag
   .rw [hI,<-af]
   .omega
   .rw [<-af];exact hO.set ⟨gz,g3⟩
   .intro o
    rw[U6,j7,ab];by_cases e:en.1=o
    .rw [if_pos e,if_pos e.symm]
    .rw [if_neg e,if_neg fun x=>e x.symm]
   .intro e he
    rcases qH.1 he with he|he
    .exact ad e he
    .rw [qT]at he;subst he;rw[<-af];exact⟨gz,g3⟩
   .simp [aw]
 .simp [go_sem,e1,e3,e4,e6,e8,e9,a2,a4,a5,a0,R,hi,a3,I,qZ]
  refine fD [0,1,2,3,4,5,6,7,8,9,10,11,12,15,13,14] [(0,0,[]),(1,0,[]),(2,0,[]),(3,0,[]),(4,0,[]),(5,0,[]),(6,0,[]),(7,0,[]),(8,0,[]),(9,1,[]),(10,0,[]),(11,0,[]),(12,0,[]),(15,0,[]),(13,1,[]),(14,1,[])] zKr zKr zSi ?_;simp[go_sem,e1,e3,e4,e6,e8,e9,a2,a4,a5,a0,R,hi,a3,I,qZ];refine fQ (qy.freeze (args1:=[eWk ts l C,lSb L,eNd T.body,aB true]) (fun j=>decide (3<=j)) ⟨.inl rfl,.inr ?_,.inl rfl,.inl rfl,trivial⟩ (qd.toSound _ (au L C O ?_ J ae hO ab ad zOm) (wkX ts l C L T.body true))) ?_ ?_
  .have h1:=Y13.X0 ho (YY L).ok fun r hr c hc=>by
    obtain⟨x,_,rfl⟩:=qi.1 hr;exact U8 x c hc
   rw[a0]at h1;exact h1
  .rw [hI,Vu zOm,Vu zOm];rfl
  .rintro r m ⟨hv,rfl⟩
   cases hv;simp[go_sem,cutM,qZ,e1,e3,e4,e6,e8,e9];exact .hf _ (kA ts l a7)
  .rintro r m ⟨hv,rfl⟩
   cases hv
end
end QZ
end Go.Proofs.YtfednihcpihlgaaGreatDoor
set_option maxHeartbeats 1000000
namespace Go.Ev
theorem awp.cut{P pl l j g C i Q st}(J)
  (h:awp P pl l (seqQ (awp P pl j (seqQ (Keep J .mk) (vE i (seqQ (awp P pl C Q) Q)))) Q) st)
  (o:∀ st,J st->awp P pl g (vE i (seqQ (awp P pl C Q) Q)) st):awp P pl (.seq l (.seq (.block i (.seq j g)) C)) Q st:=by
 refine awp.mono l (Q:=seqQ (awp P pl j (seqQ (Keep J .mk) (vE i (seqQ (awp P pl C Q) Q)))) Q) h (fun e st h=>?_);cases e with
 |normal =>
  refine awp.mono j (Q:=seqQ (Keep J .mk) (vE i (seqQ (awp P pl C Q) Q))) h (fun e st h=>?_);cases e with
  |normal=>exact o st h
  |exit i=>exact h
  |ret=>exact h
  |pan v=>exact h
 |exit i=>exact h
 |ret=>exact h
 |pan v=>exact h
theorem qq9{K:St->Prop}(J){st}(h:FzQ (fun _=>J) (.exit 0) st)(k:∀ st2,J st2->K st2):FzQ (fun _ st=>K st) (.exit 0) st:=by
 obtain⟨g,f,q,j⟩:=h;exact⟨g,f,q,k _ j⟩
end Go.Ev
namespace Go.Proofs.YtfednihcpihlgaaGreatDoor
open Go Go.Ev Go.Proofs Tryz
namespace RA
open YF Y9 Y10 Y1 YX YA YB YC P1 P2 PA QD QE QK QX QY QZ
section
variable {av:AV}{es:List (tG×Bool)}{l:List tG}
theorem four{J:Type}{l}{a b c d:J}(g:l[0]?=some a)(i:l[1]?=some b)(j:l[2]?=some c)(o:l[3]?=some d):∃ r,l=a :: b :: c :: d :: r:=by
 match l,g,i,j,o with
 |_ :: _ :: _ :: _ :: r,g,i,j,o =>
  grind
def resK(n:Nd)(acc:List Nd)(z:Int):Except ISt ((tG×List Nd×Int)×ISt)->XO
 | .error s=>(s,nd0,0)
 | .ok ((o,ks,m),s)=>(s,.mk n.op o n.n (acc++ks) n.pos,z+m)
structure AtK (ts:TS) (l:List tG) (es:List (tG×Bool)) (n:Nd) (body:Bool) (s:ISt) (k:Nat) (sc2:List Sb) (env2:IEnv) (nm2:tG) (s3:ISt) (acc:List Nd) (av:AV) (z:Int) (st:St):Prop where
 e3:st.tm 3=aB body
 e4:st.tm 4 = .ptr 0 0
 e6:st.tm 6 = .ip (cNd n)
 e8:st.tm 8 = .ptr 1 0
 e9:st.tm 9 = .ptr 2 0
 e11:st.tm 11 = .ptr 3 0
 e12:st.tm 12=aI z
 e13:st.tm 13=aI k
 m0:st.mu[0]?=some (.arr (cWk ts l s3))
 m1:st.mu[1]?=some (.arr zWc)
 m2:st.mu[2]?=some (.arr [aI 0,aS ⟨#[]⟩,aI 0,.lst true [],aI 0])
 m3:st.mu[3]?=some (.arr [aI n.op,aS nm2,aI n.n,av,aI n.pos])
 ho:OwnF 4 st.mu 5 av (acc.map cNd)
 so:ScOf ts body sc2 env2
 en:zo env2
 al:acc.length=k
 l0:0<=s3.last
 c0:s.sM+1<=s3.sM
 c1:s3.sM<=4000
 z1:0<=z
 z2:z<=1+4000*(k:Int)
theorem AtK.same{ts n body s k j i o C acc z st g}(A:AtK ts l es n body s k j i o C acc av z st)
  (I:g.tm 3=aB body) (J:g.tm 4 = .ptr 0 0) (P:g.tm 6 = .ip (cNd n)) (R:g.tm 8 = .ptr 1 0) (T:g.tm 9 = .ptr 2 0) (p:g.tm 11 = .ptr 3 0) (r:g.tm 12=aI z) (t:g.tm 13=aI k) (em:g.mu=st.mu):AtK ts l es n body s k j i o C acc av z g:=
 ⟨I,J,P,R,T,p,r,t,by rw[em];exact A.m0,by rw[em];exact A.m1,by rw[em];exact A.m2,by rw[em];exact A.m3,by rw[em];exact A.ho,A.so,A.en,A.al,A.l0,A.c0,A.c1,A.z1,A.z2⟩
theorem qdF{g lo sz mu mu' xs}(h:OwnF g mu sz av xs)(i:∀ b s o q,av = .sl b s o q->b<lo)(p:g<=mu'.length)(r:∀ j,g<=j->j<lo->mu'[j]?=mu[j]?):OwnF g mu' sz av xs:=by
 obtain⟨t,l,_⟩:=h;refine⟨?_,l,p⟩;rcases t with rfl|⟨b,rfl,C⟩
 .exact .inl rfl
 .exact .inr ⟨b,rfl,by rw[r b (l b _ _ _ rfl) (i b _ _ _ rfl)];exact C⟩
theorem AtK.keep{ts n body s k p i r R acc z st g}(A:AtK ts l es n body s k p i r R acc av z st)
  (T:g.tm 3=aB body) (U:g.tm 4 = .ptr 0 0) (e6:g.tm 6 = .ip (cNd n)) (e8:g.tm 8 = .ptr 1 0) (e9:g.tm 9 = .ptr 2 0) (C:g.tm 11 = .ptr 3 0) (I:g.tm 12=aI z) (J:g.tm 13=aI k) (lo) (h4:4<=lo) (P:∀ b s o q,av = .sl b s o q->b<lo) (hl:4<=g.mu.length) (t:∀ j,j<lo->g.mu[j]?=st.mu[j]?):AtK ts l es n body s k p i r R acc av z g:=
 ⟨T,U,e6,e8,e9,C,I,J,by rw[t 0 zOm];exact A.m0,by rw[t 1 zOm];exact A.m1,by rw[t 2 zOm];exact A.m2,by rw[t 3 zOm];exact A.m3,qdF A.ho P hl (fun j _=>t j),A.so,A.en,A.al,A.l0,A.c0,A.c1,A.z1,A.z2⟩
theorem qrA{mu lo s x}{xs ys:List Sb}{K}(j:OwnF lo mu 9 s (xs.map cSb))(l:qz mu x=some (ys.map cSb))(r:xs.length+ys.length<=100000)(o:∀ av mu',OwnF lo mu' 9 av ((xs++ys).map cSb)->(∀ i,i<lo->mu'[i]?=mu[i]?)->K av mu') :
  qu qb mu #[245,245] s x K:=by
 refine qu.ownF (lo:=lo) (e:=252) (sz:=9) (bt:=112) (zv := .agg [aS ⟨#[]⟩,aS ⟨#[]⟩,aB false,aI 0,aS ⟨#[]⟩,aI 0,.lst true [],aI 0,aI 0]) (xs:=xs.map cSb) (ys:=ys.map cSb) zSi zSi zSi rfl rfl zOm zOm j l (YY xs) (YY ys) zSo ?_;intro av mu' h p;exact o av mu' (by rw[q9];exact h) p
theorem expK(ts)(h:okTS ts)(l es)(t:Tn l es)(hl:l.length<=400000)(hF:qk ts es<=200000)(b5:Free ts es)(hb:∀ p,p∈ts.sT->WfN p.body/\yK ts p.body)(f)(ih:∀ env sc n body s,Pre ts es f env sc n body s->ExpW ts l es f sc n body s)
  (env) (sc) (n) (body) (s) (p:Pre ts es (f+1) env sc n body s) (hc:s.sM+1<=4000) (h1:¬n.op=1) (h47:¬n.op=47):ExpW ts l es (f+1) sc n body s:=by
 have dj:=p.st.c0;have dk:=p.st.c1;have dm:=p.wf.len;obtain⟨E',hE⟩:∃ E':List Sb->Nd->ISt->XO,E'=fun sc k s=>expR ts es f sc k body s:=⟨_,rfl⟩
 obtain⟨R',bh⟩:∃ R':List Sb->tG->ISt->(List Sb×tG)×ISt,R'=fun sc nm s=>renR ts es sc nm body s:=⟨_,rfl⟩
 have bi:∀ k,k∈n.sD->∀ T I sk,StOk (qk ts es) sk->s.sM+1<=sk.sM->zo T->ScOf ts body I T->(I.length:Int)<=sk.sM+8->qd qb 108 [eWk ts l sk,lSb I,eNd k,aB body] (eXO ts l (E' I k sk)):=fun k hk T I sk b6 ck b7 bj bk=>by
  rw[hE];exact ih T I k body sk ⟨zW1 p.fu,b6,b7,p.wf.kid hk,p.cl.kid hk,bj,bk⟩
 have bm:∀ k,k∈n.sD->∀ T I sk,StOk (qk ts es) sk->s.sM+1<=sk.sM->zo T->ScOf ts body I T->4000<(E' I k sk).1.sM\/(¬ 4000<(E' I k sk).1.sM/\Gos (qk ts es) sk (E' I k sk).1 (E' I k sk).2.2):=fun k hk T I sk b6 ck b7 bj=>by
  have ho:=YT ts es b5 hb f T I k body sk (zW1 p.fu) b6 b7 (p.wf.kid hk) (p.cl.kid hk) bj;have cm:E' I k sk=expR ts es f I k body sk:=by rw[hE]
  rw[cm];cases hx:expI ts es f T k body sk with
  |error d=>rw[hx]at ho;exact .inl ho.1
  |ok r =>
   obtain⟨⟨m,y⟩,t⟩:=r;rw[hx]at ho;obtain⟨e1,e2,e3⟩:=ho;have g:=jG ts b5 f b6 b7 hx;rw[e2,e3];exact .inr ⟨zW1 g.c1,g⟩
 obtain⟨ay,bb⟩:∃ ay,ay=resK n [] 1 (ue E' R' (binB n.op) 0 sc n.name n.sD (payS 1 s)):=⟨_,rfl⟩;have bc:expR ts es (f+1) sc n body s=ay:=by
  simp only[expR];rw[if_pos hc,if_neg h1,if_neg h47,bb,hE,bh];cases ue (fun sc k s=>expR ts es f sc k body s) (fun sc nm s=>renR ts es sc nm body s) (binB n.op) 0 sc n.name n.sD (payS 1 s) with
  |error e=>rfl
  |ok r=>rfl
 unfold ExpW;rw[bc];clear hE bc ih;have be:StOk (qk ts es) (payS 1 s):=(Qb p.st zOm hc).ok p.st;have w1:qm.wrap (s.sM+1)=s.sM+1:=zWr;have bk:¬ 4000<s.sM+1:=zOm;have cp:=yx n;refine qSQ call108 func108 rfl { mt:=[4] } ?_;simp[go_sem,w1,bk,h1,h47,cp];refine kT n.sD.length (fun k U=>∃(full:Bool) (I:List Sb) (T:IEnv) (aa:tG) (s2:ISt) (ae:List Nd) (av:AV) (z:Int),U.tm 1 = .lst full (I.map cSb)/\AtK ts l es n body s k I T aa s2 ae av z U/\(I.length:Int)+(if k<=1 then 1 else 0)<=s2.sM+8/\dueN (qk ts es) (binB n.op) k<=pot (qk ts es) s2/\(k<=1->aa=n.name)/\resK n ae z (ue E' R' (binB n.op) k I aa (n.sD.drop k) s2)=ay) ?_ ?_
 .refine ⟨false,sc,env,n.name,payS 1 s,[],.lst true [],1,zSi,⟨zSi,zSi,by simp[go_sem,yx n],zSi,zSi,zSi,zSi,zSi,by simp[go_sem];exact⟨rfl,rfl⟩,zSi,zSi,zSi,by simp[go_sem];exact OwnF.nil zSp,p.so,p.en,rfl,be.l0,by show _<=s.sM+1;omega,be.c1,zOm,zOm⟩,by show _<=s.sM+1+8;have:=p.le;simp;omega,?_,fun _=>rfl,bb.symm⟩
  rw[ZP];have:=p.st.p;unfold dueN;split<;>omega
 .rintro k U hk ⟨full,I,T,aa,s2,ae,av,z,J,A,ag,ao,b8,hI⟩
  obtain⟨rr,a0⟩:=four A.m0 A.m1 A.m2 A.m3;have e3:=A.e3;have e4:=A.e4;have e6:=A.e6;have e8:=A.e8;have e9:=A.e9;have a5:=A.e11;have a6:=A.e12;have a7:=A.e13;have aj:=A.ho.one;have ak:=A.ho.cells;by_cases a8:k<n.sD.length
  .have w2:=zWk k
   rw[zm a8]at hI;simp only[ue]at hI;refine awp.cut (fun U=>∃(full:Bool) (P:Nat) (sl:AV) (ad:List Sb) (ah:IEnv) (au:tG) (s3:ISt) (av:AV),(if binB n.op=true/\k=1 then R' I aa s2 else ((I,aa),s2))=((ad,au),s3)/\U.tm 1=sl/\(sl = .lst full (ad.map cSb)\/(OwnF P U.mu 9 sl (ad.map cSb)/\(∀ b s o q,av = .sl b s o q->b<P)/\4<=P))/\AtK ts l es n body s k ad ah au s3 ae av z U/\(ad.length:Int)+(if k+1<=1 then 1 else 0)<=s3.sM+8/\dueN (qk ts es) (binB n.op) (k+1)<=pot (qk ts es) s3/\(k+1<=1->au=n.name)) ?_ ?_
   .clear bi bm
    by_cases ar:k=1
    .subst ar
     have bg:=b8 (qo _);have dh:U.mu.length=rr.length+4:=by rw[a0];rfl
     have b0:∀ b s o q,av = .sl b s o q->b<rr.length+4:=fun b s o q e=>by
      rcases A.ho.1 with h|⟨c,h,hc⟩
      .rw [h]at e;cases e
      .rw [h]at e;cases e;have:=(qg.1 hc).1;omega
     have ab:(1:Int)<n.sD.length:=zOm;have cq:=A.c0;have b9:=A.l0;have cr:=A.c1;by_cases an:binB n.op=true
     .have a9:n.op=15\/n.op=45\/n.op=46:=by simpa[binB,or_assoc] using an
      have dn:=h.ns;have dp:=h.nf;have dq:qk ts es<=l.length+40:=by have:=t.len;unfold qk;omega
      have cs:okNm ts:=⟨h.sl,zOm,zOm,fun f hf=>zW1 (h.fl f hf)⟩;have cn:=K1 ts cs n.name;have ax:=K0 ts n.name;have ct:(named ts n.name).2=(means ts n.name).length:=by rw[kj h]
      rw[ct]at cn;generalize (named ts n.name).1=C at *
      have bv:StOk (qk ts es) s2:=⟨b9,zOm,cr,zW1 (ZQ (qk ts es) (binB n.op) 1)⟩;have cu:=bv.last;have cf:=qq5 ts h l es t hl s2 ⟨b9,zOm⟩ (b5 s2.last b9);by_cases af:body=true\/means ts n.name≠[]
      .have hq:(if binB n.op=true/\1=1 then R' I aa s2 else ((I,aa),s2))=((I++[(n.name,⟨none,0,vN (zq ts es (qk ts es) s2.last)⟩)],vN (zq ts es (qk ts es) s2.last)),⟨zq ts es (qk ts es) s2.last,s2.sM⟩):=by
        rw[if_pos ⟨an,rfl⟩,bh,bg];show renR ts es I n.name body s2=_;unfold renR;rw[if_pos af]
       have cv:body=true\/(body=false/\0<(means ts n.name).length):=by
        cases body with
        |true=>exact .inl rfl
        |false=>exact .inr ⟨rfl,List.length_pos_iff.2 (af.resolve_left zSp)⟩
       clear hI;have bw:renR ts es I n.name body s2=((I++[(n.name,⟨none,0,vN (zq ts es (qk ts es) s2.last)⟩)],vN (zq ts es (qk ts es) s2.last)),⟨zq ts es (qk ts es) s2.last,s2.sM⟩):=by
        unfold renR;rw[if_pos af]
       obtain⟨a1,a2,a3⟩:=qdB (es:=es) (nm:=n.name) (s:=s2) A.en A.so;have a4:=J7 (ts:=ts) (es:=es) (nm:=n.name) (body:=body) (s:=s2) A.en;obtain⟨b1,b2,b3⟩:=J8 (body:=body) (nm:=n.name) (env:=T) b5 b9;rw[bw]at a1 a3;rw[<-a3]at b1 b2;simp only at b1 b2 a1;have bn:dueN (qk ts es) (binB n.op) 1=(qk ts es:Int):=by unfold dueN;rw[if_pos ⟨an,zOm⟩]
       have bo:dueN (qk ts es) (binB n.op) 2=0:=by unfold dueN;rw[zIn]
       rw[bn]at ao;unfold pot at ao;generalize (renI ts es T n.name body s2).1.1=ah at *
       clear a2 a3 b3;generalize dr:zq ts es (qk ts es) s2.last=R at *
       rcases a9 with a9|a9|a9<;>rcases cv with aw|⟨aw,cw⟩
       all_goals
        simp[go_sem,e3,e4,e6,e8,e9,a5,a6,a7,J,a0,a8,ab,a9,qZ];refine tC cn (.zk (zl ts) (.zs .nil)) ?_;simp[go_sem,e3,e4,e6,e8,e9,a5,a6,a7,J,a0,a8,ab,a9,qZ,ax.len];rw[if_pos ax.one];generalize putCells _ 0 C=PC
        first
        |simp[go_sem,e3,e4,e6,e8,e9,a5,a6,a7,J,a0,a8,ab,a9,qZ,aw,cw]
        |simp[go_sem,e3,e4,e6,e8,e9,a5,a6,a7,J,a0,a8,ab,a9,qZ,aw]
        refine tC cf (.zk (wq ts l s2) .nil) ?_;simp[go_sem,e3,e4,e6,e8,e9,a5,a6,a7,J,a0,a8,ab,a9,qZ,aw];refine qe.move 2 2 zKr zKr ?_ ?_
        all_goals
         simp[go_sem,e3,e4,e6,e8,e9,a5,a6,a7,J,a0,a8,ab,a9,qZ,aw];refine qrA (lo:=rr.length+6) (xs:=[]) (ys:=I) (OwnF.nil zSp) (by simp[qz]) (by simp at ag⊢;omega) ?_;intro ds dt cx ar;simp[go_sem,e3,e4,e6,e8,e9,a5,a6,a7,J,a0,a8,ab,a9,qZ,aw];refine qdE (y:=(n.name,⟨none,0,vN R⟩)) cx (by simp at ag⊢;omega) ?_;intro cy du az ai;have n0:=(ai 0 zOm).trans (ar 0 zOm);have n1:=(ai 1 zOm).trans (ar 1 zOm);have n2:=(ai 2 zOm).trans (ar 2 zOm);have n3:=(ai 3 zOm).trans (ar 3 zOm);simp at n0 n1 n2 n3;simp[go_sem,e3,e4,e6,e8,e9,a5,a6,a7,J,a8,ab,a9,qZ,aw];refine aK ⟨false,rr.length+6,cy,I++[(n.name,⟨none,0,vN R⟩)],ah,vN R,⟨R,s2.sM⟩,av,hq,zSi,.inr ⟨zVs az,?_,zOm⟩,⟨zS2 e3 aw,zS1 e4,zS1 e6,zS1 e8,zS1 e9,zS1 a5,zS1 a6,zS1 a7,zS1 n0,zS1 n1,zS1 n2,zS2 n3 a9,?_,a1,a4,A.al,b1,A.c0,A.c1,A.z1,A.z2⟩,?_,?_,fun h=>zOm⟩
         .intro b s o q e;have:=b0 b s o q e;omega
         .simp only[qA]
          refine qdF A.ho b0 (zW1 az.2.2) fun j h4 hj=>?_
          obtain⟨i,rfl⟩:∃ i,j=i+4:=⟨j-4,zOm⟩;rw[ai _ zOm,ar _ zOm,a0];simp only[vw];rw[zGa]
         .simp at ag⊢;omega
         .rw [bo];unfold pot;simp only;omega
      .have ca:body=false:=by cases body with
        |true=>exact absurd (.inl rfl) af
        |false=>rfl
       have da:means ts n.name=[]:=uh fun x=>af (.inr x)
       have hq:(if binB n.op=true/\1=1 then R' I aa s2 else ((I,aa),s2))=((I,aa),s2):=by
        rw[if_pos ⟨an,rfl⟩,bh,bg];show renR ts es I n.name body s2=_;unfold renR;rw[if_neg af]
       rcases a9 with a9|a9|a9
       all_goals
        simp[go_sem,e3,e4,e6,e8,e9,a5,a6,a7,J,a0,a8,ab,a9,qZ];refine tC cn (.zk (zl ts) (.zs .nil)) ?_;simp[go_sem,e3,e4,e6,e8,e9,a5,a6,a7,J,a0,a8,ab,a9,qZ,ax.len];rw[if_pos ax.one];generalize putCells _ 0 C=PC;simp[go_sem,e3,e4,e6,e8,e9,a5,a6,a7,J,a0,a8,ab,a9,qZ,ca,da];refine aK ⟨full,rr.length+5,.lst full (I.map cSb),I,T,aa,s2,av,hq,zS1 J,.inl rfl,A.keep (zS2 e3 ca) (zS1 e4) (zS1 e6) (zS1 e8) (zS1 e9) (zS1 a5) (zS1 a6) (zS1 a7) (rr.length+4) zOm ?_ zSi (fun j hj=>?_),?_,?_,fun h=>zOm⟩
        .exact b0
        .simp only[qA]
         rw[a0]
         match j,hj with
         | 0,_=>rfl
         | 1,_=>rfl
         | 2,_=>rfl
         | 3,_=>simp[a9]
         |i+4,hj =>
          simp only[vw];rw[zGa]
        .simp at ag⊢;omega
        .have bn:dueN (qk ts es) (binB n.op) 1=(qk ts es:Int):=by unfold dueN;rw[if_pos ⟨an,zOm⟩]
         have bo:dueN (qk ts es) (binB n.op) 2=0:=by unfold dueN;rw[zIn]
         rw[bn]at ao;rw[bo];omega
     .have cb:¬n.op=15:=fun e=>an (by simp[binB,e])
      have cc:¬n.op=45:=fun e=>an (by simp[binB,e])
      have cd:¬n.op=46:=fun e=>an (by simp[binB,e])
      simp[go_sem,e3,e4,e6,e8,e9,a5,a6,a7,J,a0,a8,ab,cb,cc,cd,qZ];refine aK ⟨full,4,.lst full (I.map cSb),I,T,aa,s2,av,by rw[if_neg (fun x=>an x.1)],zS1 J,.inl rfl,A.same (zS1 e3) (zS1 e4) (zS1 e6) (zS1 e8) (zS1 e9) (zS1 a5) (zS1 a6) (zS1 a7) (zS1 a0),?_,?_,fun h=>zOm⟩
      .simp at ag⊢;omega
      .rw [<-UI (fun x=>an x.1)];exact ao
    .have cg:¬(k:Int)=1:=by omega
     simp[go_sem,e3,e4,e6,e8,e9,a5,a6,a7,J,a0,a8,cg,qZ];refine aK ⟨full,4,.lst full (I.map cSb),I,T,aa,s2,av,by rw[if_neg (fun x=>ar x.2)],zS1 J,.inl rfl,A.same (zS1 e3) (zS1 e4) (zS1 e6) (zS1 e8) (zS1 e9) (zS1 a5) (zS1 a6) (zS1 a7) (zS1 a0),?_,?_,fun h=>b8 zOm⟩
     .split at ag<;>split<;>omega
     .rw [<-UI (fun x=>ar x.2)];exact ao
   .rintro U ⟨full,P,sl,ad,ah,au,s3,av,hq,J,bq,A,ag,ao,b8⟩
    rw[hq]at hI;simp only at hI;have b4:StOk (qk ts es) s3:=⟨A.l0,zW1 A.c0,A.c1,zW1 (ZQ (qk ts es) (binB n.op) (k+1))⟩;have br:(ad.length:Int)<=s3.sM+8:=by split at ag<;>omega
    have x1:=bi n.sD[k] (qn a8) ah ad s3 b4 A.c0 A.en A.so br;have x2:=bm n.sD[k] (qn a8) ah ad s3 b4 A.c0 A.en A.so;generalize E' ad n.sD[k] s3=q at *
    clear bi bm;rw[qhQ,qhR];refine qe.fz (qq9 (fun U=>∃ full,U.tm 1 = .lst full (ad.map cSb)/\AtK ts l es n body s k ad ah au s3 ae av z U) ?_ ?_)
    .rcases bq with bq|⟨db,b0,h4⟩
     .exact FzQ.skip ⟨full,by rw[J,bq],A⟩
     .refine FzQ.own (d:=1) J db (YY ad) (fun r hr c hc=>by obtain⟨x,_,rfl⟩:=qi.1 hr;exact U8 x c hc) ?_
      intro dc bs dv ai;refine⟨bs,zSi,A.keep (by simp[go_sem,A.e3]) (by simp[go_sem,A.e4]) (by simp[go_sem,A.e6]) (by simp[go_sem,A.e8]) (by simp[go_sem,A.e9]) (by simp[go_sem,A.e11]) (by simp[go_sem,A.e12]) (by simp[go_sem,A.e13]) P h4 b0 ?_ ?_⟩
      .have:=A.ho.2.2;simp only[qA];omega
      .intro j hj;simp only[qA];exact ai j hj
    rintro U ⟨full,J,A⟩;obtain⟨rr,a0⟩:=four A.m0 A.m1 A.m2 A.m3;have e3:=A.e3;have e4:=A.e4;have e6:=A.e6;have e8:=A.e8;have e9:=A.e9;have a5:=A.e11;have a6:=A.e12;have a7:=A.e13;have aj:=A.ho.one;have ak:=A.ho.cells;refine fD [0,1,2,3,4,5,6,7,8,9,10,11,12,17,13,14,15,16] [(0,0,[]),(1,0,[]),(2,0,[]),(3,0,[]),(4,0,[]),(5,0,[]),(6,0,[]),(7,0,[]),(8,1,[]),(9,0,[]),(10,0,[]),(11,0,[]),(12,0,[]),(17,0,[]),(13,2,[0,3,6]),(14,2,[0,3,6]),(15,1,[]),(16,1,[])] zKr zKr zSi ?_;simp[go_sem,e3,e4,e6,e8,e9,a5,a6,a7,J,a0,a8,qZ,aj,ak];refine tC x1 (.zk (wq ts l s3) (.cons (WK.lst fun r hr c hc=>by
     obtain⟨x,_,rfl⟩:=qi.1 hr;exact U8 x c hc) (.zk (qJ _) (.zs .nil)))) ?_
    simp[go_sem,e3,e4,e6,e8,e9,a5,a6,a7,J,a0,a8,qZ,aj,ak];by_cases aq:4000<q.1.sM
    .rw [if_pos aq]at hI
     have hI:ay=(q.1,nd0,0):=hI.symm;simp[go_sem,e3,e4,e6,e8,e9,a5,a6,a7,J,a0,a8,qZ,aj,ak,aq];rw[hI];exact rdZ ts l q.1
    .rcases x2 with x2|⟨_,g⟩
     .exact absurd x2 aq
     rw[if_neg aq]at hI;simp[go_sem,e3,e4,e6,e8,e9,a5,a6,a7,J,a0,a8,qZ,aj,ak,aq];obtain⟨g1,g2,g3⟩:=U7 g b4;have gz:=g.z0;have dw:=g.cz;have dd:=g.c1;have gp:=g.p;have dx:=A.z1;have dy:=A.z2;have cq:=A.c0;have de:=A.al;have di:=A.ho.2.2;refine YD.UK (lo:=4) (xs:=ae) ?_ zOm ?_
     .have h1:OwnF 4 (U.mu++[Cell.arr (cWk ts l q.1),Cell.arr (cNd q.2.1)]) 5 av (ae.map cNd):=YD.Zh A.ho zSo fun i _ hi=>qG hi
      rw[a0]at h1;have h2:=OwnF.set (i:=0) (c:=Cell.arr (cWk ts l q.1)) h1 zOm;simpa using h2
     intro ch dc az ai;have n0:=ai 0 zOm;have n1:=ai 1 zOm;have n2:=ai 2 zOm;have n3:=ai 3 zOm;simp at n0 n1 n2 n3;obtain⟨r2,cj⟩:=four n0 n1 n2 n3;have bt:=az.one;have bu:=az.cells;have w3:qm.wrap (z+q.2.2)=z+q.2.2:=zWr;simp[go_sem,e3,e4,e6,e8,e9,a5,a6,a7,J,cj,a8,qZ,bt,bu,aq,w2,w3];refine aK ⟨full,ad,ah,au,q.1,ae++[q.2.1],ch,z+q.2.2,zS1 J,⟨zS1 e3,zS1 e4,zS1 e6,zS1 e8,zS1 e9,zS1 a5,zSi,zSi,zSi,zSi,zSi,zSi,?_,A.so,A.en,zP1 de,g1.l0,zOm,dd,zOm,zOm⟩,zOm,zOm,b8,?_⟩
     .have h2:=OwnF.set (i:=3) (c:=Cell.arr [aI n.op,aS au,aI n.n,ch,aI n.pos]) az zOm
      rw[cj]at h2;simpa[go_sem] using h2
     .rw [<-hI]
      generalize ue E' R' (binB n.op) (k+1) ad au (List.drop (k+1) n.sD) q.1=X;cases X with
      |error e=>rfl
      |ok r =>
       obtain⟨⟨a,b,c⟩,d⟩:=r;simp[resK];omega
  .simp [go_sem,e3,e4,e6,e8,e9,a5,a6,a7,J,a0,a8,qZ,aj,ak]
   refine fD [0,1,2,5,3,4] [(0,0,[]),(1,0,[]),(2,0,[]),(5,0,[]),(3,1,[1]),(4,1,[])] zKr zKr zSi ?_;simp[go_sem,e3,e4,e6,e8,e9,a5,a6,a7,J,a0,a8,qZ,aj,ak];rw[Vu zOm]at hI;have hI:ay=(s2,.mk n.op aa n.n ae n.pos,z):=by rw[<-hI];simp[ue,resK]
   rw[hI];refine .tup _ _ rfl fun k x y hx hy=>?_
   match k,hx,hy with
   | 0,hx,hy=>cases hx;cases hy;exact .hf _ (wq ts l s2)
   | 1,hx,hy =>
    cases hx;cases hy;have df:eNd (.mk n.op aa n.n ae n.pos) = .agg [aI n.op,aS aa,aI n.n,.lst false (ae.map cNd),aI n.pos]:=by
     show AV.agg (cNd _)=_;rw[yx];rfl
    show Rd _ _ (eNd (.mk n.op aa n.n ae n.pos));rw[df];refine .agg _ _ rfl fun k x y hx hy=>?_
    match k,hx,hy with
    | 0,hx,hy=>cases hx;cases hy;exact .zsc _
    | 1,hx,hy=>cases hx;cases hy;exact .zsc _
    | 2,hx,hy=>cases hx;cases hy;exact .zsc _
    | 3,hx,hy =>
     cases hx;cases hy;have h1:=OwnF.set (i:=1) (c:=Cell.arr (cWk ts l s2)) A.ho zOm;have h2:=OwnF.set (i:=2) (c:=Cell.arr [aI n.op,aS aa,aI n.n,av,aI n.pos]) h1 zOm;rw[a0]at h2;exact h2.1.rd (YD.UJ ae).ok fun r hr c hc=>by
      obtain⟨x,_,rfl⟩:=qi.1 hr;exact vj x c hc
    | 4,hx,hy=>cases hx;cases hy;exact .zsc _
    |k+5,hx,hy=>cases hx
   | 2,hx,hy=>cases hx;cases hy;exact .zsc _
   |k+3,hx,hy=>cases hx
end
end RA
namespace RB
open YF Y9 Y1 YX YZ YB YC YE YG YH P1 P2 Q4 Q6 PF QE QT QW QX QY QZ RA
theorem qdG(l):∀ es nm,getK nm (putN es l)=some true↔(getK nm es=some true\/∃ x,x∈l/\x.name=nm):=by
 induction l with
 |nil=>intro es nm;exact⟨fun h => .inl h,fun h=>h.elim id fun⟨x,g,_⟩=>absurd g qF⟩
 |cons a l i =>
  intro es nm;have e:putN es (a :: l)=putN (setK a.name true es) l:=rfl;rw[e,i,j7];by_cases e:nm=a.name
  .grind
  .rw [if_neg e]
   constructor
   .grind
   .rintro (h|⟨x,g,j⟩)
    .exact .inl h
    .rcases qt.1 g with rfl|g
     .grind
     grind
theorem qrB(l:List Pd):∀ es nm,getK nm (l.foldl (fun es p=>putN es (preN p.body)) es)=some true↔(getK nm es=some true\/∃ p,p∈l/\∃ x,x∈preN p.body/\x.name=nm):=by
 induction l with
 |nil=>simp
 |cons a l i =>
  intro es nm;rw[List.foldl_cons,i,qdG];constructor
  .grind
  .rintro (h|⟨p,g,h⟩)
   .grind
   .rcases qt.1 g with rfl|g
    .grind
    grind
structure Ti (es:List (tG×Bool)):Prop where
 nd:(es.map Prod.fst).Nodup
 tr:∀ e,e∈es->e.2=true
theorem Ti.put(l):∀{es},Ti es->Ti (putN es l):=by
 induction l with
 |nil=>intro es h;exact h
 |cons a l i =>
  intro es h;refine i (es:=setK a.name true es) ⟨uW h.nd,fun e g=>?_⟩;rcases UM g with rfl|g
  .rfl
  .exact h.tr e g
theorem cL(l:List Pd):∀{es},Ti es->Ti (l.foldl (fun es p=>putN es (preN p.body)) es):=by
 induction l with
 |nil=>grind
 |cons a l g=>intro es h;exact g (h.put _)
theorem kB{nm}(n)(i:nm≠⟨#[]⟩):nm∈namL n↔∃ x,x∈preN n/\x.name=nm:=by
 unfold namL;rw[qi];constructor
 .rintro ⟨x,g,e⟩
  exact⟨x,(yX.1 g).1,e⟩
 .rintro ⟨x,g,e⟩
  exact⟨x,yX.2 ⟨g,by rw[e];simpa using i⟩,e⟩
theorem takTn(ts n):Tn (takL ts n) (yO ts n):=by
 have i:∀ o:tG,o≠⟨#[]⟩->(o∈takL ts n↔getK o (yO ts n)=some true):=fun o r=>by
  unfold takL yO;rw[qrB,qdG,qH,kB n r,uK];constructor
  .grind [kB]
  .rintro ((h|h)|⟨p,P,h⟩)
   .cases h
   .exact .inl h
   grind [kB]
 refine⟨i,?_⟩;have g:Ti (yO ts n):=cL _ (Ti.put _ ⟨.nil,fun e t=>absurd t qF⟩);have:=List.Nodup.length_le_of_subset (l₂:=⟨#[]⟩ :: takL ts n) g.nd fun x C=>by
  by_cases e:x=⟨#[]⟩
  .grind
  .refine qW _ ((i x e).2 ?_)
   obtain⟨q,l,rfl⟩:=qi.1 C;have I:=g.tr q l;have J:=(Qq g.nd (k:=q.1) (v:=q.2)).2 l;rw[J,I]
 grind
theorem qdH(ts)(h:okTS ts)(l es)(t:Tn l es)(I:l.length<=400000)(J:qk ts es<=200000)(g:Free ts es)(j:∀ p,p∈ts.sT->WfN p.body/\yK ts p.body):∀ f env sc n body s,Pre ts es f env sc n body s->ExpW ts l es f sc n body s
 | 0,env,sc,n,body,s,p=>zW2 p.fu p.st.c1
 |f+1,env,sc,n,body,s,p=>by
  have P:=qdH ts h l es t I J g j f;by_cases o:s.sM+1<=4000
  case neg=>grind [expZ]
  by_cases R:n.op=1
  .grind [expN]
  by_cases h47:n.op=47
  .obtain ⟨r,C,i⟩:=p.cl n (ud n) h47
   have T:(payS 1 s).sM=s.sM+1:=rfl;exact expC ts l es f env sc n body s p o h47 r C (replW ts h l es g j f P env sc n body (payS 1 s) ⟨zW1 p.fu,(Qb p.st zOm o).ok p.st,p.en,p.wf,p.cl,p.so,zW1 p.le⟩ h47 r C i)
  grind [expK]
theorem inlRU(ts)(h:okTS ts)(hv:∀ p,p∈ts.sT->ze p.body=true)(hb:∀ p,p∈ts.sT->WfN p.body/\yK ts p.body)(n)(hn:ze n=true)(a7:(yr ts [] n).1=0->yK ts n):qd qb 58 [eTS ts,eNd n] (.tup [eNd (yg ts n).1,aI (yg ts n).2]):=by
 have hw:=v8 hn;have a8:=wh.1 hn;have J:∀ p,p∈ts.sT->WfN p.body:=fun p hp=>(hb p hp).1
 have a9:∀ p,p∈ts.sT->(preN p.body).length<=400:=fun p hp=>by grind [wh,Vc]
 have aa:(preN n).length<=400:=by grind [Vc]
 have hF:=KZ h hv hn;have hT:=takTn ts n;have af:=h.np;have ab:(takL ts n).length<=400000:=by
  have h1:∀ L:List Pd,(∀ p,p∈L->(preN p.body).length<=400)->(L.flatMap fun p=>namL p.body).length<=400*L.length:=by
   intro L;induction L with
   |nil=>intro _;simp
   |cons a L ih =>
    intro hL;have a1:=ih fun p hp=>hL p (qW _ hp)
    have a2:=U5 a.body;have a3:=hL a (zd ..);rw[wB,qX,zz];omega
  grind [U5,takL,qX]
 have P:=KH ts (yO ts n);have T:StOk (qk ts (yO ts n)) ⟨0,0⟩:=⟨zSp,zSp,zSp,by simp[pot]⟩;have cf:=kq ts h J [] ⟨zSp,zSp⟩ zSp n hw a8.2.2.2;have l:=mI (szN n) n (qo _) hw.small;have ct:=qq0 ts h J n hw aa a9;have U:WKs [eTS ts,.lst true [],eNd n] [eTS ts,lPm [],eNd n] := .zk (zl ts) (.cons (WK.lst fun r hr=>absurd hr qF) (.zk (qJ n) .nil));have ad:WKs [eTS ts,eNd n] [eTS ts,eNd n] := .zk (zl ts) (.zk (qJ n) .nil);generalize i:yg ts n=R;unfold yg at i;by_cases j:(yr ts [] n).1=0
 case neg =>
  rw[if_pos j]at i;subst i;refine qSU call58 func58 rfl ?_;refine tC cf U ?_;simp[go_sem,j];refine fD [0,1,2,4,3] [(0,0,[]),(1,0,[]),(2,0,[]),(4,0,[]),(3,1,[2])] zKr zKr zSi ?_;simp_all[go_sem,Yz]
 rw[if_neg (zUs j)]at i;cases ha:anyN (fun n=>decide (n.op=47)) n with
 |false =>
  rw[ha]at i l;rw[if_pos rfl]at i;subst i;refine qSU call58 func58 rfl ?_;refine tC cf U ?_;simp[go_sem,j];refine tC l (.zk (qJ n) .nil) ?_;simp[go_sem,j];exact .hf _ (HF.tup fun x hx=>by
   simp only[qt,qF,or_false]at hx;rcases hx with rfl|rfl
   .exact qJ n
   .exact HF.sc _)
 |true =>
  rw[ha]at i l;rw[if_neg zSp]at i;have a0:=a7 j;have cx:=qdH ts h (takL ts n) (yO ts n) hT ab hF P hb 4001 [] [] n false ⟨0,0⟩ ⟨zSp,T,.nil,hw,a0,⟨fun o=>rfl,fun _ o v hv=>(by cases hv),fun e he=>absurd he qF⟩,zSp⟩;have ho:=YT ts (yO ts n) P hb 4001 [] [] n false ⟨0,0⟩ zSp T .nil hw a0 ⟨fun o=>rfl,fun _ o v hv=>(by cases hv),fun e he=>absurd he qF⟩;have a4:=fun {n' z s'}=>Yy ts J (yO ts n) 4001 (env:=[]) (n:=n) (n':=n') (body:=false) (s:=⟨0,0⟩) (s':=s') (z:=z) (fun e he=>absurd he qF) hw
  have a5:=fun {n' z s'}=>jG ts P 4001 (env:=[]) (n:=n) (n':=n') (body:=false) (s':=s') (z:=z) T .nil
  have a6:=fun {d}=>J9 ts (yO ts n) 4001 (env:=[]) (n:=n) (body:=false) (s:=⟨0,0⟩) (d:=d)
  unfold outI at i;unfold ExpW at cx;generalize expR ts (yO ts n) 4001 [] n false ⟨0,0⟩=q at *
  generalize expI ts (yO ts n) 4001 [] n false ⟨0,0⟩=E at *
  have ae:(4000<q.1.sM/\R=(nd0,2))\/(¬ 4000<q.1.sM/\Small q.2.1/\depN q.2.1<=1000000/\((400<q.2.2/\R=(nd0,2))\/(¬ 400<q.2.2/\24<depN q.2.1/\R=(nd0,2))\/(¬ 400<q.2.2/\¬ 24<depN q.2.1/\R=(q.2.1,0)))):=by
   cases E with
   |error d =>
    have:=a6 rfl;subst this;exact .inl ⟨ho.1,i.symm⟩
   |ok r =>
    obtain⟨⟨m,y⟩,t⟩:=r;obtain⟨o1,o2,o3⟩:=ho;obtain⟨s1,s2⟩:=a4 rfl;have g:=a5 rfl;have gc:=g.c1;have gz:=g.cz;have dl:=KF m;rw[o1,o2,o3];have gz:0+y<=t.sM:=gz;refine .inr ⟨zOm,s2,zOm,?_⟩;simp only at i;by_cases z1:y<=400
    .by_cases z2:depN m<=24
     .grind
     grind
    .rw [if_neg (fun x=>z1 x.1)]at i
     grind
  clear i ho a4 a5 a6;refine qSU call58 func58 rfl ?_;refine tC cf U ?_;simp[go_sem,j];refine tC l (.zk (qJ n) .nil) ?_;simp[go_sem,j];refine fD [0,1,2,5,3,4,6,7,8,9,10,15,11,12,13,14] [(0,0,[]),(1,0,[]),(2,0,[]),(5,0,[]),(3,1,[0,5]),(4,0,[]),(6,1,[]),(7,0,[]),(8,0,[]),(9,0,[]),(10,0,[]),(15,0,[]),(11,2,[0,1,2,5]),(12,2,[0,1,2,5]),(13,1,[]),(14,1,[])] zKr zKr zSi ?_;simp[go_sem,j];refine tC ct ad ?_;simp[go_sem,j];refine tC cx ?_ ?_
  .exact .zk (wq ts (takL ts n) ⟨0,0⟩) (.cons (WK.lst fun r hr=>absurd hr qF) (.zk (qJ n) (.zs .nil)))
  simp[go_sem,j];have ag:∀ C:Mu,Rd C (.tup [eNd q.2.1,aI 0]) (.tup [eNd q.2.1,aI 0]):=fun C => .hf _ (HF.tup fun x hx=>by
   simp only[qt,qF,or_false]at hx;rcases hx with rfl|rfl
   .exact qJ _
   .exact HF.sc _)
  rcases ae with ⟨g1,g2⟩|⟨g1,gs,gd,⟨g2,g3⟩|⟨g2,g3,g4⟩|⟨g2,g3,g4⟩⟩
  .simp_all [go_sem,g1,Yz]
  .rw [g3]
   simp[go_sem,j,g1,g2];exact Yz _ _
  .rw [g4]
   simp[go_sem,j,g1,g2];refine tC (kz (szN q.2.1) q.2.1 (qo _) gs gd) (.zk (qJ _) .nil) ?_;simp_all[go_sem,g1,Yz]
  .rw [g4]
   simp[go_sem,j,g1,g2];refine tC (kz (szN q.2.1) q.2.1 (qo _) gs gd) (.zk (qJ _) .nil) ?_;simp[go_sem, *]
end RB
namespace FE
open Y1 Y9
def yc(op a s:Int)(i:Nat)(k:Int):Int:=if op=48\/op=49\/op=51 then k*s else if i=1/\(op=45\/op=46\/op=15) then k*a else k
def minW(v:Int):Int:=if 1000000<v then 1000000 else v
mutual
def wkN(a s:Int):Nd->Int
 | .mk op _ _ ks _=>wkNs a s op 0 ks 1
def wkNs(a s op:Int):Nat->List Nd->Int->Int
 |_,[],sum=>sum
 |i,k :: ks,sum=>wkNs a s op (i+1) ks (minW (sum+yc op a s i (wkN a s k)))
end
theorem qrC(a s n):wkN a s n=wkNs a s n.op 0 n.sD 1:=by
 obtain⟨op,o,i,ks,q⟩:=n;rw[wkN];rfl
theorem qdI{op a s i k}(j:0<=a/\a<=100)(l:0<=s/\s<=100)(g:0<=k/\k<=1000000):0<=yc op a s i k/\yc op a s i k<=100000000:=by
 unfold yc;have o:=Int.mul_nonneg g.1 j.1;have p:=Int.mul_nonneg g.1 l.1;have r:k*a<=1000000*100:=jq g.2 j.2 j.1 zOm;have t:k*s<=1000000*100:=jq g.2 l.2 l.1 zOm;split
 .omega
 omega
theorem qdJ{v}(h:0<=v):0<=minW v/\minW v<=1000000:=by unfold minW;split<;>omega
mutual
theorem qdK(a s:Int)(g:0<=a/\a<=100)(i:0<=s/\s<=100):∀ n:Nd,0<=wkN a s n/\wkN a s n<=1000000
 | .mk op _ _ ks _=>by rw[wkN];exact qdL a s g i op ks 0 1 zOm
theorem qdL(a s:Int)(g:0<=a/\a<=100)(j:0<=s/\s<=100)(op:Int):∀(ks:List Nd)(i:Nat)(sum:Int),0<=sum/\sum<=1000000->0<=wkNs a s op i ks sum/\wkNs a s op i ks sum<=1000000
 | [],_,sum,h=>by rw[wkNs];exact h
 |k :: ks,i,sum,h=>by
  rw[wkNs];have l:=qdK a s g j k;have o:=qdI (op:=op) (i:=i) g j l;exact qdL a s g j op ks (i+1) _ (qdJ zOm)
end
theorem qdM(a s)(ha:0<=a/\a<=100)(hs:0<=s/\s<=100):∀ m n,szN n<=m->Small n->qd qb 59 [eNd n,aI a,aI s] (aI (wkN a s n))
 | 0,n,hm,_=>by obtain⟨op,nm,i,ks,p⟩:=n;simp[szN]at hm
 |m+1,n,hm,a7=>by
  have ih:∀ k,k∈n.sD->qd qb 59 [eNd k,aI a,aI s] (aI (wkN a s k)):=fun k hk=>qdM a s ha hs m k (zW1 (ym hk)) (a7.kid hk)
  rw[qrC];have a9:=a7.len;generalize hR:wkNs a s n.op 0 n.sD 1=R;refine qSU call59 func59 rfl ?_;refine kT n.sD.length (fun k U=>∃ sum:Int,U.tm 1=aI a/\U.tm 2=aI s/\U.tm 3 = .ip (cNd n)/\U.tm 7=aI sum/\U.tm 8=aI k/\(0<=sum/\sum<=1000000)/\wkNs a s n.op k (n.sD.drop k) sum=R) ?_ ?_
  .simp [go_sem, *]
  .rintro k U hk ⟨sum,r,t,C,e7,e8,aa,o⟩
   by_cases a8:k=n.sD.length
   .subst a8
    rw[yh,wkNs]at o;subst o;simp[go_sem,r,t,C,e7,e8];exact .zsc _
   .have l:k<n.sD.length:=by omega
    rw[zm l,wkNs]at o;have w1:=zWk k;have a3:=qdK a s ha hs n.sD[k];have ab:=qdI (op:=n.op) (i:=k) ha hs a3;have j:=qdJ (v:=sum+yc n.op a s k (wkN a s n.sD[k])) zOm;have m1:=Int.mul_nonneg a3.1 ha.1;have m2:=Int.mul_nonneg a3.1 hs.1;have m3:wkN a s n.sD[k] * a<=1000000*100:=jq a3.2 ha.2 ha.1 zOm;have m4:wkN a s n.sD[k] * s<=1000000*100:=jq a3.2 hs.2 hs.1 zOm;simp[go_sem,r,t,C,e7,e8,l,qZ];refine tC (ih n.sD[k] (qn l)) (.zk (qJ _) (.zs (.zs .nil))) ?_;generalize wkN a s n.sD[k]=K at *
    by_cases I:k=1
    .have g:(k:Int)=1:=by omega
     by_cases a0:n.op=48
     .have J:yc n.op a s k K=K*s:=by simp[yc,a0,I,g]
      rw[J]at o j;have P:qm.wrap (K*s)=K*s:=zWr;have T:qm.wrap (sum+K*s)=sum+K*s:=zWr;simp[go_sem,r,t,C,e7,e8,w1,P,T,l,a0,eq_true I,eq_true g];simp_all[go_sem,aK,minW]
     by_cases a1:n.op=49
     .have J:yc n.op a s k K=K*s:=by simp[yc,a1,I,g]
      rw[J]at o j;have P:qm.wrap (K*s)=K*s:=zWr;have T:qm.wrap (sum+K*s)=sum+K*s:=zWr;simp[go_sem,r,t,C,e7,e8,w1,P,T,l,a1,eq_true I,eq_true g];exact aK ⟨_,zS1 r,zS1 t,zS1 C,by simp[go_sem,minW],zSi,j,o⟩
     by_cases a2:n.op=51
     .have J:yc n.op a s k K=K*s:=by simp[yc,a2,I,g]
      rw[J]at o j;have P:qm.wrap (K*s)=K*s:=zWr;have T:qm.wrap (sum+K*s)=sum+K*s:=zWr;simp[go_sem,r,t,C,e7,e8,w1,P,T,l,a2,eq_true I,eq_true g];exact aK ⟨_,zS1 r,zS1 t,zS1 C,by simp[go_sem,minW],zSi,j,o⟩
     by_cases a4:n.op=45
     .have J:yc n.op a s k K=K*a:=by simp[yc,a4,I,g]
      rw[J]at o j;have P:qm.wrap (K*a)=K*a:=zWr;have T:qm.wrap (sum+K*a)=sum+K*a:=zWr;simp[go_sem,r,t,C,e7,e8,w1,P,T,l,a4,eq_true I,eq_true g];exact aK ⟨_,zS1 r,zS1 t,zS1 C,by simp[go_sem,minW],zSi,j,o⟩
     by_cases a5:n.op=46
     .have J:yc n.op a s k K=K*a:=by simp[yc,a5,I,g]
      rw[J]at o j;have P:qm.wrap (K*a)=K*a:=zWr;have T:qm.wrap (sum+K*a)=sum+K*a:=zWr;simp[go_sem,r,t,C,e7,e8,w1,P,T,l,a5,eq_true I,eq_true g];exact aK ⟨_,zS1 r,zS1 t,zS1 C,by simp[go_sem,minW],zSi,j,o⟩
     by_cases a6:n.op=15
     .have J:yc n.op a s k K=K*a:=by simp[yc,a6,I,g]
      rw[J]at o j;have P:qm.wrap (K*a)=K*a:=zWr;have T:qm.wrap (sum+K*a)=sum+K*a:=zWr;simp[go_sem,r,t,C,e7,e8,w1,P,T,l,a6,eq_true I,eq_true g];exact aK ⟨_,zS1 r,zS1 t,zS1 C,by simp[go_sem,minW],zSi,j,o⟩
     have J:yc n.op a s k K=K:=by simp[yc,a0,a1,a2,a4,a5,a6,I,g]
     rw[J]at o j;have P:=w1;have T:qm.wrap (sum+K)=sum+K:=zWr;simp[go_sem,r,t,C,e7,e8,w1,P,T,l,a0,a1,a2,a4,a5,a6,eq_true I,eq_true g];simp_all[go_sem,aK,minW]
    .have g:¬(k:Int)=1:=by omega
     by_cases a0:n.op=48
     .have J:yc n.op a s k K=K*s:=by simp[yc,a0,I,g]
      rw[J]at o j;have P:qm.wrap (K*s)=K*s:=zWr;have T:qm.wrap (sum+K*s)=sum+K*s:=zWr;simp[go_sem,r,t,C,e7,e8,w1,P,T,l,a0,I,g];exact aK ⟨_,zS1 r,zS1 t,zS1 C,by simp[go_sem,minW],zSi,j,o⟩
     by_cases a1:n.op=49
     .have J:yc n.op a s k K=K*s:=by simp[yc,a1,I,g]
      rw[J]at o j;have P:qm.wrap (K*s)=K*s:=zWr;have T:qm.wrap (sum+K*s)=sum+K*s:=zWr;simp[go_sem,r,t,C,e7,e8,w1,P,T,l,a1,I,g];exact aK ⟨_,zS1 r,zS1 t,zS1 C,by simp[go_sem,minW],zSi,j,o⟩
     by_cases a2:n.op=51
     .have J:yc n.op a s k K=K*s:=by simp[yc,a2,I,g]
      rw[J]at o j;have P:qm.wrap (K*s)=K*s:=zWr;have T:qm.wrap (sum+K*s)=sum+K*s:=zWr;simp[go_sem,r,t,C,e7,e8,w1,P,T,l,a2,I,g];exact aK ⟨_,zS1 r,zS1 t,zS1 C,by simp[go_sem,minW],zSi,j,o⟩
     have J:yc n.op a s k K=K:=by simp[yc,a0,a1,a2,I,g]
     rw[J]at o j;have P:=w1;have T:qm.wrap (sum+K)=sum+K:=zWr;simp[go_sem,r,t,C,e7,e8,w1,P,T,l,a0,a1,a2,I,g];exact aK ⟨_,zS1 r,zS1 t,zS1 C,by simp[go_sem,minW],zSi,j,o⟩
end FE
namespace FF
end FF
namespace IB
open QU P1 P2 Y1 YF Y9 Y10 Y16 PA YC YG YH Q4 Q6 Q8 PF QT RB QL E3 F2 FC FD FE IA
section
variable {ts:TS}
abbrev bigT(ts:TS):Prop:=∀ x,x∈ts.sS->x.1.size<=4611686018427387904
structure SpD (ts:TS):Prop where
 h:okTS ts
 wp:∀ p,p∈ts.sT->WfN p.body
 wf:∀ f,f∈ts.sP->WfN f.2
 hv:∀ p,p∈ts.sT->ze p.body=true
 hf:∀ f,f∈ts.sP->ze f.2=true
theorem kC(h:yM ts=true)(i:bigT ts):SpD ts:=by
 obtain⟨ok,j,wf⟩:=qlA h i;simp only[yM,limB,fldB,qD,decide_eq_true_eq,zb]at h;obtain⟨⟨⟨⟨r,t⟩,C⟩,I⟩,hf,l,o⟩:=h;exact⟨ok,j,wf,fun p g=>(l p g).2,fun f g=>o f g⟩
theorem SpD.chk(S:SpD ts):qd qb 24 [eTS ts] (lDg (jo ts)):=
 qqV ts S.h S.wp S.wf (fun p g=>(wh.1 (S.hv p g)).2.2.2) (fun f hf=>(wh.1 (S.hf f hf)).2.2.2)
theorem SpD.chkF(S:SpD ts){n}(g:ze n=true):qd qb 25 [eTS ts,lPm [],eNd n] (eDg (yr ts [] n)):=
 kq ts S.h S.wp [] ⟨zSp,zSp⟩ zSp n (v8 g) (wh.1 g).2.2.2
theorem qdN(S:SpD ts)(j:jo ts=[]):∀ p,p∈ts.sT->WfN p.body/\yK ts p.body:=fun p g=>⟨S.wp p g,by
 obtain⟨i,l,rfl⟩:=ug.1 g;obtain⟨_,r,o⟩:=UX (qcB j i l);exact KX (uD S.h zOm) (szN ts.sT[i].body) _ _ _ _ (qo _) o (S.wp _ g)⟩
theorem qdO(S:SpD ts){n}(g:ze n=true)(i:(yr ts [] n).1=0):yK ts n:=by
 obtain⟨_,l,j⟩:=UX i;exact KX (uD S.h (qo _)) (szN n) _ _ _ _ (qo _) j (v8 g)
theorem inlC(S:SpD ts)(i:jo ts=[]){n}(g:ze n=true):qd qb 36 [eTS ts,eNd n] (.tup [eNd (yg ts n).1,aI (yg ts n).2]):=
 qn2 ts S.h (qdN S i) n (v8 g) (qdO S g) (KZ S.h S.hv g)
theorem inlR(S:SpD ts)(i:jo ts=[]){n}(g:ze n=true):qd qb 58 [eTS ts,eNd n] (.tup [eNd (yg ts n).1,aI (yg ts n).2]):=
 inlRU ts S.h S.hv (qdN S i) n g (qdO S g)
theorem qdP(S:SpD ts)(o:jo ts=[]){n}(j:ze n=true)(g:(yg ts n).2=0):ze (yg ts n).1=true:=by
 by_cases i:(yr ts [] n).1=0
 .cases l:anyN (fun n=>decide (n.op=47)) n with
  |false =>
   have:yg ts n=(n,0):=by unfold yg;rw[if_neg (zUs i),if_pos l]
   rw[this];exact j
  |true=>exact(qpI S.h S.hv o j i l (Prod.ext rfl g)).1
 .unfold yg at g
  rw[if_pos i]at g;exact absurd g i
theorem qrD(S:SpD ts)(g:jo ts=[]){m}(j:OkMa ⟨ts,m⟩ m.sK.length)(l:0<m.sK.length){n}(o:ze n=true):qd qb 11 [eTS ts,eMd m,eNd n] (.tup [aB (hV ⟨ts,m⟩ n).1,aI (hV ⟨ts,m⟩ n).2]):=by
 refine qmK ⟨ts,m⟩ m.sK.length j l (yg ts) n (by have:=S.h.nfa;show ts.sP.length<=_;omega) fun b p=>?_
 have i:ze b=true:=by
  rcases qH.1 p with h|h
  .obtain ⟨f,hf,rfl⟩:=qi.1 h
   exact S.hf f hf
  .rw [qT]at h;subst h;exact o
 refine⟨inlC S g i,fun r=>?_⟩;have:=qdP S g i r;exact⟨v8 this,zW1 (qmM this)⟩
def qrE(ts:TS)(a s:Int)(l:List Nd):Bool:=l.all fun b=>!(decide ((yg ts b).2=0)&&decide (3000<wkN a s (yg ts b).1))
def kE(ts:TS)(a s:Int)(n:Nd):Bool:=qrE ts a s (ts.sP.map Prod.snd++[n])
theorem qrF(S:SpD ts)(g:jo ts=[]){n}(i:ze n=true)(j:(yg ts n).2=0):Small (yg ts n).1:=(v8 (qdP S g i j)).small
end
end IB
namespace IN
open Y1 P1 YF
def Zj(I:Nd->Nd×Int)(W:Nd->Int)(l:List Nd):Bool:=l.all fun b=>!(decide ((I b).2=0)&&decide (3000<W (I b).1))
theorem qrG(ts I W)(a3:ts.sP.length<=1000)(a s n)(step:∀ b,b∈ts.sP.map Prod.snd++[n]->qd qb 58 [eTS ts,eNd b] (.tup [eNd (I b).1,aI (I b).2]))(yc:∀ b,b∈ts.sP.map Prod.snd++[n]->(I b).2=0->qd qb 59 [eNd (I b).1,aI a,aI s] (aI (W (I b).1))):qd qb 26 [eTS ts,aI a,aI s,eNd n] (aB (Zj I W (ts.sP.map Prod.snd++[n]))):=by
 have a4:(ts.sP.map Prod.snd++[n]).length=ts.sP.length+1:=zSp;have t:∀(k:Nat)(h:k<ts.sP.length)(h2:k<(ts.sP.map Prod.snd++[n]).length),(ts.sP.map Prod.snd++[n])[k]=ts.sP[k].2:=fun k h h2=>by grind
 have C:∀(h2:ts.sP.length<(ts.sP.map Prod.snd++[n]).length),(ts.sP.map Prod.snd++[n])[ts.sP.length]=n:=fun h2=>zSp
 generalize ts.sP.map Prod.snd++[n]=L at *
 generalize hR:Zj I W L=R;refine qSU call26 func26 rfl ?_;refine kT (ts.sP.length+1) (fun k U=>U.tm 1=aI a/\U.tm 2=aI s/\U.tm 4 = .ip (cTS ts)/\U.tm 7 = .ip (cNd n)/\U.tm 9=aI k/\Zj I W (L.drop k)=R) ?_ ?_
 .simp [go_sem, *]
 rintro k U a5 ⟨J,P,p,T,r,g⟩;have wi:∀ b:Nd,WKs [eTS ts,eNd b] [eTS ts,eNd b]:=fun b => .zk (zl ts) (.zk (qJ b) .nil)
 have ww:∀ b:Nd,WKs [eNd b,aI a,aI s] [eNd b,aI a,aI s]:=fun b => .zk (qJ b) (.zs (.zs .nil))
 have w1:=zWk k;by_cases l:k<ts.sP.length+1
 .have i:k<L.length:=by omega
  have a1:k<=ts.sP.length:=zOm;have a0:(k:Int)<=ts.sP.length:=zOm;have c1:=step _ (qn i);have c2:=yc _ (qn i);rw[zm i,Zj,List.all_cons]at g;by_cases hf:k<ts.sP.length
  .rw [t k hf i]at g c1 c2
   generalize I ts.sP[k].2=ib at *
   obtain⟨b',e'⟩:=ib;simp only at g c1 c2;simp[go_sem,p,T,r,hf,a1,a0];refine fR c1 (wi _) ?_;by_cases he:e'=0
   .subst he
    have c3:=c2 rfl;simp[go_sem,J,P];refine tC c3 (ww b') ?_;generalize W b'=w at *
    by_cases j:3000<w
    .simp [j]at g
     subst g;simp[go_sem,j];exact .zsc _
    .simp [j]at g
     simp[go_sem,j,r,w1,l];exact aK ⟨zS1 J,zS1 P,zS1 p,zS1 T,zSi,by simpa[Zj] using g⟩
   simp_all[go_sem,aK,Zj]
  .have o:k=ts.sP.length:=by omega
   subst o;rw[C i]at g c1 c2;generalize I n=ib at *
   obtain⟨b',e'⟩:=ib;simp only at g c1 c2;simp[go_sem,p,T,r];refine fR c1 (wi _) ?_;by_cases he:e'=0
   .subst he
    have c3:=c2 rfl;simp[go_sem,J,P];refine tC c3 (ww b') ?_;generalize W b'=w at *
    by_cases j:3000<w
    .simp [j]at g
     subst g;simp[go_sem,j];exact .zsc _
    .simp [j]at g
     simp[go_sem,j,r,w1,l];exact aK ⟨zS1 J,zS1 P,zS1 p,zS1 T,zSi,by simpa[Zj] using g⟩
   .simp [he]at g
    simp[go_sem,he,r,w1,l];exact aK ⟨zS1 J,zS1 P,zS1 p,zS1 T,zSi,by simpa[Zj] using g⟩
 .have o:k=ts.sP.length+1:=by omega
  subst o;rw[Vu zOm]at g;have a2:R=true:=by rw[<-g];rfl
  subst a2;simp[go_sem,p,r,show ¬((ts.sP.length:Int)+1<=ts.sP.length) by omega];exact .zsc _
end IN
namespace IF
open P1 Y1 YF Y16 YG Q4 FE IB IN
theorem qrH{ts}(S:SpD ts)(i:jo ts=[])(a s)(l:0<=a/\a<=100)(o:0<=s/\s<=100){n}(p:ze n=true):qd qb 26 [eTS ts,aI a,aI s,eNd n] (aB (kE ts a s n)):=by
 have j:∀ b,b∈ts.sP.map Prod.snd++[n]->ze b=true:=fun b g=>by
  rcases qH.1 g with h|h
  .obtain ⟨f,hf,rfl⟩:=qi.1 h
   exact S.hf f hf
  .rw [qT]at h;subst h;exact p
 exact qrG ts (yg ts) (wkN a s) (zW1 S.h.nfa) a s n (fun b g=>inlR S i (j b g)) (fun b g r=>qdM a s l o _ _ (qo _) (qrF S i (j b g) r))
end IF
namespace GZ
open GF GU
theorem qrI(g s f t):t∈selT g s f↔((s:Int),(f:Int),t)∈g:=by
 simp only[selT,qi,yX,qD,decide_eq_true_eq];constructor
 .rintro ⟨⟨a,b,c⟩,⟨h,i,j⟩,rfl⟩
  simp only at i j;subst i j;exact h
 .intro h
  exact⟨_,⟨h,rfl,rfl⟩,rfl⟩
theorem Vn:∀ g k p t,(p,t)∈qv g k↔∃(f:Nat) (h:f<g.length),p=((k+f:Nat):Int)/\t∈vb g[f]
 | [],k,p,t=>by simp[qv]
 |b :: g,k,p,t=>by
  simp only[qv,qH,yH,qi,vU,Vn g (k+1)];constructor
  .rintro (⟨a,j,rfl,rfl⟩|⟨f,hf,rfl,i⟩)
   .exact ⟨0,zSp,zSp,zUs j⟩
   .exact ⟨f+1,by simpa using hf,zOm,zUs i⟩
  .rintro ⟨f,hf,rfl,i⟩
   cases f with
   |zero=>grind
   |succ f=>grind
theorem qdQ(i g)(N s f:Nat)(t):((s:Int),(f:Int),t)∈chs i (qv g 0) N↔s<N/\(s=0\/i.getD f true=true)/\∃ h,t∈vb g[f]:=by
 simp only[chs,uK,zW,chA,qi,yX,uM,decide_eq_true_eq,vU,Prod.exists];constructor
 .rintro ⟨C,l,p,I,⟨J,j⟩,P,rfl,rfl⟩
  grind [Vn]
 .rintro ⟨o,j,hf,r⟩
  exact⟨s,o,f,t,⟨(Vn _ _ _ _).2 ⟨f,hf,zSp,r⟩,zUs j⟩,rfl,rfl,rfl⟩
theorem U9(b t):t∈vb b↔t∈b.up.ts/\¬t∈b.lo.ts:=by simp[vb]
end GZ
namespace GX
open P1 E3 G5 GQ GR
structure MdV (ts:TS) (m:Md):Prop where
 f:Fit9 ts m.sc
 z:yW m.sc=true
 ns:(m.sK.length:Int)=m.sc.sN
 l0:0<=m.loop
 l1:m.loop<m.sK.length
 len:∀ s,s∈m.sK->s.length=ts.sA.length
 ar:∀ s,s∈m.sK->∀(i:Nat)(h:i<s.length)(h2:i<ts.sA.length),s[i].ar=ts.sA[i].sS.length/\s[i].ts.Pairwise (·<·)/\∀ t,t∈s[i].ts->t∈yA m.sc ts.sA[i].sS
 fix:∀(k:Nat)(h:k<m.sK.length)(h0:0<m.sK.length)(i:Nat)(h1:i<m.sK[k].length)(h3:i<m.sK[0].length)(h2:i<ts.sA.length),ts.sA[i].var=false->m.sK[k][i]=m.sK[0][i]
theorem qdR{sc}(h:yW sc=true):sumI sc.sC<=12:=by
 simp_all[yW,qD,decide_eq_true_eq]
end GX
namespace HA
open P1 E1 GF GQ GR GS GU GW GX GZ
section
variable {g:List Bd}{ts:TS}
theorem Wa(c s f b t):t∈(vr c s f b).ts↔t∈b.lo.ts\/((s:Int),(f:Int),t)∈c:=by
 unfold vr unR;rw[(Qy _).2,qH,qrI]
theorem kF(c s f b):sorted (vr c s f b).ts:=(Qy _).1
theorem qdS{sc}(B:BndV ts sc g){i N c}(j:c.Sublist (chs i (qv g 0) N))(s f hf) :
  (∀ t,t∈g[f].lo.ts->t∈(vr c s f g[f]).ts)/\∀ t,t∈(vr c s f g[f]).ts->t∈g[f].up.ts:=by
 refine⟨fun t h=>(Wa ..).2 (.inl h),fun t h=>?_⟩;rcases (Wa ..).1 h with h|h
 .exact B.sub _ (qn hf) t h
 .obtain ⟨_,_,_,h⟩:=(qdQ ..).1 (j.subset h)
  exact((U9 ..).1 h).1
theorem qdT{sc}(B:BndV ts sc g){i N c}(j:c.Sublist (chs i (qv g 0) N))(s f hf)(l:f<(jb i g c s).length) :
  (jb i g c s)[f].ar=g[f].lo.ar/\sorted (jb i g c s)[f].ts/\(∀ t,t∈g[f].lo.ts->t∈(jb i g c s)[f].ts)/\∀ t,t∈(jb i g c s)[f].ts->t∈g[f].up.ts:=by
 rw[Yu _ _ _ _ _ hf];split
 .exact ⟨rfl,kF ..,qdS B j _ _ hf⟩
 .exact ⟨rfl,kF ..,qdS B j _ _ hf⟩
theorem qrJ{sc}(F:Fit9 ts sc)(z:yW sc=true)(B:BndV ts sc g){N k:Nat}(J:sc.sN=N)(hk:k<N){c}(P:c.Sublist (chs (vsT ts) (qv g 0) N)):MdV ts (yI sc (vsT ts) g c N k):=by
 have l:∀ s,s∈(yI sc (vsT ts) g c N k).sK->∃ j,s=jb (vsT ts) g c j:=fun s o=>by
  obtain⟨j,_,rfl⟩:=qi.1 o;exact⟨j,rfl⟩
 have C:(yI sc (vsT ts) g c N k).sK.length=N:=by simp[yI]
 refine⟨F,z,by rw[C];exact J.symm,by simp[yI],by rw[C];simp only[yI];omega,fun s o=>?_,fun s o i h p=>?_,fun j h h0 i h1 h3 p R=>?_⟩
 .obtain ⟨j,rfl⟩:=l s o
  rw[ZM];exact B.len
 .obtain ⟨j,rfl⟩:=l s o
  have hf:i<g.length:=by rw[ZM]at h;exact h
  obtain⟨T,U,a3,a4⟩:=qdT B P j i hf h;exact⟨T.trans (B.lo i hf p).1,U,fun t ht=>B.full i hf p t (a4 t ht)⟩
 .have hf:i<g.length:=by rw[B.len];exact p
  have r:(vsT ts).getD i true=false:=by
   rw[zC];simp[p,R]
  simp only[yI,Ja,List.getElem_range,Yu _ _ _ _ _ hf];by_cases I:j=0
  .subst I;rfl
  .rw [if_pos ⟨I,r⟩,if_neg zSp]
end
end HA
namespace HB
open GY
section
variable {J:Type}
def lexB:List Bool->List Bool->Bool
 |x :: l,y :: m=>if x=y then lexB l m else y
 |_,_=>false
theorem qdU:∀ l m,lexB l m=true->lexB m l=false
 | [],m,h=>by simp[lexB]at h
 |x :: l,[],h=>by simp[lexB]at h
 |x :: l,y :: m,h=>by
  rw[lexB]at h⊢;by_cases e:x=y
  .simp_all [if_pos,qdU]
  grind
def lexC(g x y:List J):Prop:=∃ p a q,g=p++a :: q/\(∀ z,z∈p->(z∈x↔z∈y))/\a ∉ x/\a∈y
theorem kG:∀(r c p:List J),(p++r).Nodup->c.Sublist p->(subs c r).Pairwise (lexC (p++r))
 | [],c,p,_,_=>by rw[subs];exact List.pairwise_singleton ..
 |a :: r,c,p,g,l=>by
  have R:p++a :: r=(p++[a])++r:=zSp;rw[subs,List.pairwise_append];refine⟨?_,?_,fun x U y hy=>?_⟩
  .rw [R]at g⊢
   exact kG r c (p++[a]) g (l.trans (List.sublist_append_left ..))
  .rw [R]at g⊢
   exact kG r (c++[a]) (p++[a]) g (l.append (List.Sublist.refl _))
  .obtain ⟨x,i,rfl⟩:=(ZN _ _ _).1 U
   obtain⟨y,o,rfl⟩:=(ZN _ _ _).1 hy;obtain⟨n1,n2,t⟩:=wF.1 g;have na:=jx.1 n2;refine⟨p,a,r,rfl,fun z T=>?_,fun h=>?_,zSp⟩
   .have j:z ∉ r:=fun h=>t z T z (qW _ h) rfl
    have C:z≠a:=fun h=>t z T a (zd ..) h
    have I:z ∉ x:=fun h=>j (i.subset h)
    have P:z ∉ y:=fun h=>j (o.subset h)
    simp[I,P,C]
   .rcases qH.1 h with h|h
    .exact t a (l.subset h) a (zd ..) rfl
    .exact na.1 (i.subset h)
theorem qrK(g:List J)(i:g.Nodup):(subs [] g).Pairwise (lexC g):=by
 have:=kG g [] [] (zUs i) (List.Sublist.refl _)
 grind
end
end HB
namespace HC
open E3 GB GF GU GZ HA HB
theorem qdV{J:Type}(f g a Q)(hf:f a=false)(i:g a=true):∀(P:List J),(∀ z,z∈P->f z=g z)->lexB ((P++a :: Q).map f) ((P++a :: Q).map g)=true
 | [],_=>by simp[lexB,hf,i]
 |z :: P,h=>by
  rw[yw,zT,zT,lexB,if_pos (h z (zd ..))];exact qdV f g a Q hf i P fun w j=>h w (qW _ j)
def posF(g:List (Int×Int))(N:Nat):List Ch:=(qq N).flatMap fun s:Nat=>g.map fun p=>((s:Int),p.1,p.2)
def bit(m:Md)(c:Ch):Bool:=decide (c.2.2∈((m.sK.getD c.1.toNat []).getD c.2.1.toNat noR).ts)
def Zk(g:List (Int×Int))(N:Nat)(m:Md):List Bool:=(posF g N).map (bit m)
def jV(g:List (Int×Int))(N:Nat)(a b:Md):Bool:=if a.loop=b.loop then lexB (Zk g N a) (Zk g N b) else decide (a.loop<b.loop)
theorem qdW(g i N):chs g i N=(posF i N).filter fun c=>decide (c.1=0)||g.getD c.2.1.toNat true:=by
 unfold chs posF;rw[List.filter_flatMap];congr 1;funext s;rw[chA,List.filter_map];congr 1;refine List.filter_congr fun p _=>?_
 simp
theorem qrL(g N):(posF g N).Pairwise fun a b=>a.1<=b.1:=by
 unfold posF;rw[List.pairwise_flatMap];refine⟨fun s _=>?_,?_⟩
 .simp_all [List.pairwise_map,List.pairwise_of_forall,vf]
 .refine (List.pairwise_lt_range).imp fun {a b} h x i y j=>?_
  obtain⟨p,_,rfl⟩:=qi.1 i;obtain⟨q,_,rfl⟩:=qi.1 j;omega
theorem Vo(g N c):c∈posF (qv g 0) N↔∃(s f:Nat) (h:f<g.length),s<N/\c=((s:Int),(f:Int),c.2.2)/\c.2.2∈vb g[f]:=by
 obtain⟨c1,c2,t⟩:=c;simp only[posF,uK,zW,qi,vU,Prod.exists];constructor
 .rintro ⟨s,i,p,o,l,rfl,rfl,rfl⟩
  obtain⟨f,hf,rfl,j⟩:=(Vn _ _ _ _).1 l;exact⟨s,f,hf,i,⟨rfl,zSp⟩,j⟩
 .rintro ⟨s,f,hf,i,⟨rfl,rfl,_⟩,j⟩
  exact⟨s,i,f,t,(Vn _ _ _ _).2 ⟨f,hf,zSp,j⟩,rfl,rfl,rfl⟩
theorem qdX(sc i g x)(N s f:Nat)(k t)(j:s<N)(hf)(p:t∈vb g[f]) :
  bit (yI sc i g x N k) ((s:Int),(f:Int),t)=decide ((((if s≠0/\i.getD f true=false then 0 else s:Nat):Int),(f:Int),t)∈x):=by
 have l:f<(jb i g x s).length:=by rw[ZM];exact hf
 have o:((qq N).map (jb i g x)).getD s []=jb i g x s:=by
  rw[zC,zf,List.getElem?_range j];rfl
 have r:(jb i g x s).getD f noR=(jb i g x s)[f]:=by rw[zC,qw l];rfl
 grind [U9,bit,yI,Int.toNat_natCast,Yu,Wa]
theorem qrM(sc j g N k x y)(h:lexC (chs j (qv g 0) N) x y):lexB (Zk (qv g 0) N (yI sc j g x N k)) (Zk (qv g 0) N (yI sc j g y N k))=true:=by
 obtain⟨p,a,q,e,hp,hx,hy⟩:=h;rw[qdW,List.filter_eq_append_iff]at e;obtain⟨A,R,e1,eA,e2⟩:=e;rw[List.filter_eq_cons_iff]at e2;obtain⟨B,C,rfl,hB,T,_⟩:=e2;have i:posF (qv g 0) N=(A++B)++a :: C:=by rw[e1,zy]
 have o:∀ z,z∈A++B->(decide (z.1=0)||j.getD z.2.1.toNat true)=true->z∈p:=fun z r l=>by
  grind
 have t:=qrL (qv g 0) N;rw[i,List.pairwise_append]at t;have U:∀ z,z∈posF (qv g 0) N↔z∈A++B\/z∈a :: C:=fun z=>by rw[i,qH]
 have I:∀ z,z∈A++B->∃ w,w∈p/\∀ u:List Ch,bit (yI sc j g u N k) z=decide (w∈u):=fun z r=>by
  obtain⟨s,f,hf,hs,J,P⟩:=(Vo g N z).1 ((U z).2 (.inl r));rw[J];refine⟨_,?_,fun u=>qdX sc j g u N s f k z.2.2 hs hf P⟩;by_cases l:s≠0/\j.getD f true=false
  .rw [if_pos l]
   have hm:(((0:Nat):Int),(f:Int),z.2.2)∈posF (qv g 0) N:=(Vo g N _).2 ⟨0,f,hf,zOm,rfl,P⟩;rcases (U _).1 hm with h|h
   .grind
   grind
  .rw [if_neg l]
   refine o _ (J ▸ r) ?_;simp only[Int.toNat_natCast,uM,decide_eq_true_eq]
   grind
 unfold Zk;rw[i];have a0:∀ u:List Ch,bit (yI sc j g u N k) a=decide (a∈u):=fun u=>by
  obtain⟨s,f,hf,hs,J,P⟩:=(Vo g N a).1 ((U a).2 (.inr (zd ..)));rw[J,qdX sc j g u N s f k a.2.2 hs hf P];have l:¬(s≠0/\j.getD f true=false):=fun l=>by
   rw[J]at T;simp only[Int.toNat_natCast,uM,decide_eq_true_eq]at T;rcases T with h|h
   .omega
   grind
  rw[if_neg l]
 refine qdV _ _ a C (by grind) (by grind) _ fun z r=>?_
 obtain⟨w,hw,hu⟩:=I z r
 grind
end HC
namespace HD
open E1 E3 GF GU GY HB HC
theorem kH:∀ g k,(∀ b,b∈g->sorted b.up.ts)->(qv g k).Nodup
 | [],k,_=>List.nodup_nil
 |b :: g,k,h=>by
  rw[qv,wF];refine⟨?_,kH g (k+1) fun x j=>h x (qW _ j),fun p l q o e=>?_⟩
  .unfold yH
   have r:(vb b).Nodup:=JA (Xs _ (h b (zd ..)));exact List.Pairwise.map _ (fun x y i e=>i (Prod.mk.inj e).2) r
  .subst e
   obtain⟨t,_,rfl⟩:=qi.1 l;have:=(J5 g (k+1) _ o).1;simp only at this;omega
theorem qdY(i N)(h:i.Nodup):(posF i N).Nodup:=by
 unfold posF List.Nodup;rw[List.pairwise_flatMap];refine⟨fun s _=>List.Pairwise.map _ (fun x y g e=>g (by have:=Prod.mk.inj (Prod.mk.inj e).2;exact Prod.ext this.1 this.2)) h,?_⟩;refine(List.pairwise_lt_range).imp fun {a b} h x j y l e=>?_
 subst e;obtain⟨p,_,rfl⟩:=qi.1 j;obtain⟨q,_,e⟩:=qi.1 l;have:=(Prod.mk.inj e).1;omega
theorem qrN(i g N)(h:∀ b,b∈g->sorted b.up.ts):(chs i (qv g 0) N).Nodup:=by
 grind [qdW,qdY,kH]
theorem qdZ(sc i g N)(h:∀ b,b∈g->sorted b.up.ts):(vM sc i g (chs i (qv g 0) N) N).Pairwise fun a b=>jV (qv g 0) N a b=true:=by
 unfold vM;rw[List.pairwise_flatMap];refine⟨fun k _=>?_,?_⟩
 .refine List.Pairwise.map _ (fun x y j=>?_) (qrK _ (qrN i g N h))
  unfold jV;exact(if_pos rfl).trans (qrM sc i g N k x y j)
 .refine (List.pairwise_lt_range).imp fun {a b} h x l y o=>?_
  obtain⟨p,_,rfl⟩:=qi.1 l;obtain⟨q,_,rfl⟩:=qi.1 o;unfold jV;exact(if_neg (show ¬((a:Nat):Int)=(b:Nat) by omega)).trans (decide_eq_true (show ((a:Nat):Int)<(b:Nat) by omega))
theorem qrO(g N a b)(h:jV g N a b=true):jV g N b a=false:=by
 unfold jV at h⊢;by_cases e:a.loop=b.loop
 .simp_all [if_pos,qdU]
 .rw [if_neg e]at h;rw[if_neg (Ne.symm e)]
  have:=of_decide_eq_true h
  grind
end HD
namespace IC
open Y9 P1 E1 E3 F2 FD GA GB GF GS GU GV GW GX GY GZ HA HC
section
variable {L:List Md}{g:Md->Bool×Int}{ts:TS}
theorem qrP(n)(k:Nat)(g:k<=3):powI n k=n ^ k:=by
 unfold powI powN;congr 1;omega
theorem qrQ{m}(h:okTS ts)(V:MdV ts m):OkMa ⟨ts,m⟩ m.sK.length:=by
 have F:=V.f;have j:=F.g;have l:=qdR V.z;have hp:=F.p;refine { len:=rfl,nx:=?_,n0:=by show 0<=sumI m.sc.sC;omega,n12:=l,st:=?_,at0:=?_,gsc:=j,pos:=fun a o=>(j.2 a o).1,al:=F.ns.symm,loop:=V.l0,N1:=zW2 V.ns F.s4,ts:=h }
 .intro t J
  have:=V.l1;have:=V.l0;show (if t+1<m.sK.length then t+1 else m.loop.toNat)<m.sK.length
  grind
 .intro s P
  have hd:m.sK.getD s []=m.sK[s]:=by rw[zC,qw P];rfl
  show (m.sK.getD s []).length=ts.sA.length/\∀ r,r∈m.sK.getD s []->GR (sumI m.sc.sC) r;rw[hd];have R:=qn P;have hl:=V.len _ R;refine⟨hl,fun r hr=>?_⟩;obtain⟨i,C,rfl⟩:=wC hr;obtain⟨a1,a2,a3⟩:=V.ar _ R i C zOm;have f1:=F.f1 _ (qn (show i<ts.sA.length by omega));refine⟨zOm,zOm,fun t J=>?_,a2⟩;have:=qaQ _ _ t (a3 t J)
  grind [qrP,sumI,Int.pow_nonneg]
 .intro i C
  have I:i<m.sc.sC.length:=by rw[<-F.ns];exact C
  exact qmN m.sc.sC i (fun a o=>(j.2 a o).1) I
theorem kI(g):∀ L acc,(∀ m,m∈L->(g m).2=0)->modG g acc L=(acc++L.filter fun m=>(g m).1,0)
 | [],acc,_=>by simp[modG]
 |m :: L,acc,h=>by
  rw[modG,if_neg (by grind),kI g L _ fun x i=>h x (zP1 i)]
  grind
theorem qd0(i):∀ L acc,(modG i acc L).2=0->∀ m,m∈L->(i m).2=0
 | [],acc,_,m,g=>absurd g qF
 |x :: L,acc,h,m,g=>by
  rw[modG]at h;by_cases j:(i x).2=0
  .rw [if_neg (zUs j)]at h
   rcases qt.1 g with rfl|g
   .exact j
   .exact qd0 i L _ h m g
  grind
theorem qd1(g):∀ L acc,(modG g acc L).2≠0->(modG g acc L).1=[]/\∃ m,m∈L/\(g m).2=(modG g acc L).2
 | [],acc,h=>absurd rfl h
 |x :: L,acc,h=>by
  rw[modG]at h⊢;by_cases i:(g x).2=0
  .simp_all [if_neg,qd1]
  grind
theorem qd2(h:(modV g L 0).2=0):(∀ m,m∈L->(g m).2=0)/\(modV g L 0).1=L.filter fun m=>(g m).1:=by
 grind [modV,modG,qd0,kI]
theorem qrR(h:∀ m,m∈L->(g m).2=0):modV g L 0=(L.filter fun m=>(g m).1,0):=by
 grind [modV,modG,kI]
theorem qrS(h:(modV g L 0).2≠0):(modV g L 0).1=[]/\∃ m,m∈L/\(g m).2=(modV g L 0).2:=by
 grind [modV,modG,qd1]
theorem qrT(g L):(modV g L 0).1.Sublist L:=by
 by_cases h:(modV g L 0).2=0
 .rw [(qd2 h).2];exact List.filter_sublist
 .rw [(qrS h).1];exact List.nil_sublist _
theorem qd3{J:Type}(r)(o:∀ x y,r x y->r y x->False):∀(l m:List J),l.Pairwise r->m.Pairwise r->(∀ x,x∈l↔x∈m)->l=m
 | [],[],_,_,_=>rfl
 | [],y :: m,_,_,h=>absurd ((h y).2 zSp) qF
 |x :: l,[],_,_,h=>absurd ((h x).1 zSp) qF
 |x :: l,y :: m,i,j,h=>by
  rw[List.pairwise_cons]at i j;have p:x=y:=by
   rcases qt.1 ((h x).1 zSp) with e|e
   .exact e
   .rcases qt.1 ((h y).2 zSp) with t|t
    .exact t.symm
    .exact (o x y (i.1 y t) (j.1 x e)).elim
  subst p;have C:∀ z,r x z->z≠x:=fun z g e=>by subst e;exact o z z g g
  rw[qd3 r o l m i.2 j.2 fun z=>?_];constructor
  .intro g
   rcases qt.1 ((h z).1 (zP1 g)) with e|e
   .exact absurd e (C z (i.1 z g))
   .exact e
  .intro g
   rcases qt.1 ((h z).2 (zP1 g)) with e|e
   .exact absurd e (C z (j.1 z g))
   .exact e
theorem qd4{s:List Rl}{f}(h):s.getD f noR=s[f]:=by rw[zC,qw h];rfl
structure Betw (sc:Sc) (vs:List Bool) (bs:List Bd) (N:Nat) (m:Md):Prop where
 sc:m.sc=sc
 lp:∃ k:Nat,k<N/\m.loop=k
 ns:m.sK.length=N
 len:∀ s,s∈m.sK->s.length=bs.length
 rel:∀(k f:Nat)(hk:k<m.sK.length)(hf:f<bs.length)(h2:f<m.sK[k].length),m.sK[k][f].ar=bs[f].lo.ar/\sorted m.sK[k][f].ts/\(∀ t,t∈bs[f].lo.ts->t∈m.sK[k][f].ts)/\∀ t,t∈m.sK[k][f].ts->t∈bs[f].up.ts
 fix:∀(k f:Nat)(hk:k<m.sK.length)(h0:0<m.sK.length)(h2:f<m.sK[k].length)(h3:f<m.sK[0].length),vs.getD f true=false->m.sK[k][f]=m.sK[0][f]
theorem Wb{sc g}(B:BndV ts sc g){N}(T:1<=N){m}(h:m∈vM sc (vsT ts) g (chs (vsT ts) (qv g 0) N) N):Betw sc (vsT ts) g N m:=by
 obtain⟨k,c,p,r,rfl⟩:=Ks.1 h;have t:(yI sc (vsT ts) g c N k).sK.length=N:=by simp[yI]
 have i:∀ s,s∈(yI sc (vsT ts) g c N k).sK->∃ j,s=jb (vsT ts) g c j:=fun s l=>by
  obtain⟨j,_,rfl⟩:=qi.1 l;exact⟨j,rfl⟩
 refine⟨rfl,⟨k,p,rfl⟩,t,fun s l=>?_,fun j f C hf o=>?_,fun j f C U o h3 hv=>?_⟩
 .obtain ⟨j,rfl⟩:=i s l
  rw[ZM]
 .simp only[yI,Ja,List.getElem_range]at o⊢
  obtain⟨I,J,P,R⟩:=qdT B r j f hf o;exact⟨I,J,P,R⟩
 simp_all[yI,vsT,jb,ZM,Ja,List.getElem_range,Yu]
theorem qd5{sc g}(B:BndV ts sc g){N m}(h:Betw sc (vsT ts) g N m):m∈vM sc (vsT ts) g (chs (vsT ts) (qv g 0) N) N:=by
 obtain⟨k,hk,j⟩:=h.lp;refine Ks.2 ⟨k,(chs (vsT ts) (qv g 0) N).filter (bit m),hk,List.filter_sublist,?_⟩;have U:=h.ns;have key:∀(s f:Nat)(P:s<m.sK.length)(hf:f<g.length)(J:f<m.sK[s].length),(s=0\/(vsT ts).getD f true=true) ->
   m.sK[s][f]=vr ((chs (vsT ts) (qv g 0) N).filter (bit m)) s f g[f]:=fun s f P hf J hc=>by
  obtain⟨a1,a2,a3,a4⟩:=h.rel s f P hf J;have o:∀ t,bit m ((s:Int),(f:Int),t)=decide (t∈m.sK[s][f].ts):=fun t=>by
   have e:(m.sK.getD s []).getD f noR=m.sK[s][f]:=by
    rw[zC (l:=m.sK),qw P];exact qd4 J
   simp only[bit,Int.toNat_natCast,e]
  have e:m.sK[s][f].ts=(vr ((chs (vsT ts) (qv g 0) N).filter (bit m)) s f g[f]).ts:=by
   refine ny a2 (kF ..) fun t=>?_
   rw[Wa,yX,qdQ,o];simp only[decide_eq_true_eq]
   grind [U9]
  have e2:m.sK[s][f].ar=(vr ((chs (vsT ts) (qv g 0) N).filter (bit m)) s f g[f]).ar:=a1;generalize m.sK[s][f]=r at *
  generalize vr ((chs (vsT ts) (qv g 0) N).filter (bit m)) s f g[f]=q at *
  obtain⟨ra,rt⟩:=r;simp_all
 obtain⟨a0,i,a5⟩:=m;have p:=h.sc;simp only at p j U key;unfold yI;rw[p,j];congr 1;refine List.ext_getElem (zP1 U) fun s R J=>?_
 rw[Ja,List.getElem_range];have a6:=h.len i[s] (qn R);refine List.ext_getElem (by grind [ZM]) fun f h3 h4=>?_
 have hf:f<g.length:=zOm;rw[Yu _ _ _ _ _ hf];by_cases T:s≠0/\(vsT ts).getD f true=false
 .rw [if_pos T]
  have C:0<i.length:=zOm;have I:f<i[0].length:=zW1 (h.len i[0] (qn C));rw[h.fix s f R C h3 I T.2];exact key 0 f C hf I (.inl rfl)
 .rw [if_neg T]
  refine key s f R hf h3 ?_;by_cases C:s=0
  .exact .inl C
  grind
end
end IC
namespace HE
open P1 E1 G5 GP GW
def wtR(rw:List Int)(k:Nat):Int:=if k<rw.length then rw.getD k 0 % 4 else 1
def selW(p:Int->Bool)(rw:List Int):List Int->Nat->List Int
 | [],_=>[]
 |t :: R,k=>(if p (wtR rw k)=true then [t] else [])++selW p rw R (k+1)
theorem qd6(p rw):∀ ts g k,selW p rw (ts++g) k=selW p rw ts k++selW p rw g (k+ts.length)
 | [],g,k=>by simp[selW]
 |t :: ts,g,k=>by
  rw[yw,selW,selW,qd6 p rw ts g (k+1),zy,zz,show k+1+ts.length=k+(ts.length+1) by omega]
theorem qd7(p rw)(ts:List Int)(k h):selW p rw (ts.take (k+1)) 0=selW p rw (ts.take k) 0++(if p (wtR rw k)=true then [ts[k]] else []):=by
 grind [vu,qd6,selW]
theorem wt(p rw):∀ ts k,(selW p rw ts k).Sublist ts
 | [],k=>List.Sublist.refl _
 |t :: ts,k=>by
  rw[selW];split
  .exact (wt p rw ts (k+1)).cons_cons t
  .exact (wt p rw ts (k+1)).cons t
theorem qd8{p q}(h:∀ x,p x=true->q x=true)(rw):∀ ts k t,t∈selW p rw ts k->t∈selW q rw ts k
 | [],k,t,g=>g
 |a :: ts,k,t,g=>by
  rw[selW,qH]at g⊢;rcases g with g|g
  .grind
  .exact .inr (qd8 h rw ts (k+1) t g)
def Wc(rw:List Int)(b:Bd):Bd:=⟨⟨b.up.ar,selW (fun x=>decide (1<x)) rw b.up.ts 0⟩,⟨b.up.ar,selW (fun x=>decide (0<x)) rw b.up.ts 0⟩⟩
def zU(ts:TS)(sc:Sc)(raw:List (List Int)):List Bd:=(defB ts sc).mapIdx fun i b=>Wc (raw.getD i []) b
theorem Qg(ts sc raw):(zU ts sc raw).length=ts.sA.length:=by simp[zU,defB]
theorem Wd(ts sc raw i h)(g:i<ts.sA.length):(zU ts sc raw)[i]=Wc (raw.getD i []) ⟨⟨ts.sA[i].sS.length,[]⟩,⟨ts.sA[i].sS.length,yA sc ts.sA[i].sS⟩⟩:=by
 simp[zU,defB]
theorem kJ(ts sc raw)(hf:∀ f,f∈ts.sA->sorted (yA sc f.sS)):BndV ts sc (zU ts sc raw):=by
 have key:∀ b,b∈zU ts sc raw->∃(i:Nat) (g:i<ts.sA.length),b=Wc (raw.getD i []) ⟨⟨ts.sA[i].sS.length,[]⟩,⟨ts.sA[i].sS.length,yA sc ts.sA[i].sS⟩⟩:=fun b j=>by
  obtain⟨i,p,rfl⟩:=ug.1 j
  grind [Qg,Wd]
 refine⟨Qg ..,fun i h g=>?_,fun b j=>?_,fun b j t l=>?_,fun i h g t l=>?_⟩
 .rw [Wd _ _ _ _ h g];exact⟨rfl,rfl⟩
 .obtain ⟨i,g,rfl⟩:=key b j
  have:=hf _ (qn g);exact⟨this.sublist (wt ..),this.sublist (wt ..)⟩
 .obtain ⟨i,g,rfl⟩:=key b j
  exact qd8 (fun x o=>by have:=of_decide_eq_true o;grind) _ _ _ t l
 .rw [Wd _ _ _ _ h g]at l
  exact(wt ..).subset l
end HE
namespace HF1
open GB
theorem qrU{a b:Ed}:a=b↔a.kind=b.kind/\a.state=b.state/\a.field=b.field/\a.tup=b.tup:=by
 cases a;cases b;simp
instance:DecidableEq Ed:=fun a b=>decidable_of_iff _ qrU.symm
end HF1
namespace HG
end HG
namespace HH
open E3 E4
theorem qrV(a b)(P:a.length<=1000000):qd qb 38 [lI a,lI b] (aB (decide (a=b))):=by
 refine qSV call38 func38 rfl ?_;by_cases C:a.length=b.length
 .have I:(a.length:Int)=b.length:=by omega
  simp[go_sem,C];refine qh.up a.length (fun k U=>U.tm 0=lI a/\U.tm 1=lI b/\U.tm 5=aI k/\∀(i:Nat)(h:i<k)(P:i<a.length)(hb:i<b.length),a[i]=b[i]) ?_ ?_
  .simp [go_sem, *]
  rintro k U hk ⟨o,p,r,t⟩;by_cases j:k<a.length
  .have g:k<b.length:=by omega
   have R:=zWk k;simp[go_sem,o,p,r,j,g];refine cZ zKr ?_;simp[go_sem,o,p,r,j,g];by_cases J:a[k]=b[k]
   .simp [go_sem,o,p,r,j,g,J,R]
    grind
   .have l:¬a=b:=fun e=>J (by simp only[e])
    simp[go_sem,o,p,r,j,g,J];rw[decide_eq_false l];exact .zsc _
  .have T:a=b:=List.ext_getElem C fun i h h'=>t i zOm h h'
   simp[go_sem,o,p,r,show ¬k<a.length from j];rw[decide_eq_true T];exact .zsc _
 .have I:¬(a.length:Int)=b.length:=by omega
  have l:¬a=b:=fun e=>C (by rw[e])
  simp[go_sem,C,l];exact .zsc _
theorem qrW(a b)(R:a.length<=1000000)(T:∀ r,r∈a->r.ts.length<=4611686018427387904):qd qb 39 [lRel a,lRel b] (aB (decide (a=b))):=by
 refine qSV call39 func39 rfl ?_;by_cases I:a.length=b.length
 .have J:(a.length:Int)=b.length:=by omega
  simp[go_sem,I];refine qh.up a.length (fun k U=>U.tm 0=lRel a/\U.tm 1=lRel b/\U.tm 5=aI k/\∀(i:Nat)(h:i<k)(R:i<a.length)(hb:i<b.length),a[i]=b[i]) ?_ ?_
  .simp [go_sem, *]
  rintro k U hk ⟨o,p,t,C⟩;by_cases j:k<a.length
  .have g:k<b.length:=by omega
   have w1:=zWk k;simp[go_sem,o,p,t,j,g];refine cZ zKr ?_;simp[go_sem,o,p,t,j,g];refine tC (qi5 a[k] b[k] (T _ (qn j))) (.zk (qK _) (.zk (qK _) .nil)) ?_;by_cases P:a[k]=b[k]
   .simp [go_sem,o,p,t,j,g,P,w1]
    grind
   .have l:¬a=b:=fun e=>P (by simp only[e])
    simp[go_sem,o,p,t,j,g,P];rw[decide_eq_false l];exact .zsc _
  .have he:a=b:=List.ext_getElem I fun i h h'=>C i zOm h h'
   simp[go_sem,o,p,t,show ¬k<a.length from j];rw[decide_eq_true he];exact .zsc _
 .have J:¬(a.length:Int)=b.length:=by omega
  have l:¬a=b:=fun e=>I (by rw[e])
  simp[go_sem,I,l];exact .zsc _
theorem qd9(l):HF (lRel l):=HF.lst fun r i c g=>by
 obtain⟨n,_,rfl⟩:=qi.1 i;simp at g;rcases g with rfl|rfl
 .exact HF.sc _
 .exact zh _
theorem qrX{a b:Md}:a=b↔a.sc.sC=b.sc.sC/\a.sc.sN=b.sc.sN/\a.loop=b.loop/\a.sK=b.sK:=by
 obtain⟨⟨_,_⟩,_,_⟩:=a;obtain⟨⟨_,_⟩,_,_⟩:=b
 grind
theorem qrY(a b)(P:a.sc.sC.length<=1000000)(hs:a.sK.length<=1000000)(R:∀ s,s∈a.sK->s.length<=1000000/\∀ r,r∈s->r.ts.length<=4611686018427387904):qd qb 12 [eMd a,eMd b] (aB (decide (a=b))):=by
 refine qSU call12 func12 rfl ?_;refine tC (qrV a.sc.sC b.sc.sC P) (.zk (zh _) (.zk (zh _) .nil)) ?_;by_cases c0:a.sc.sC=b.sc.sC
 case neg =>
  have g:¬a=b:=fun e=>c0 (by rw[e])
  simp[go_sem,c0,g];exact .zsc _
 by_cases c1:a.sc.sN=b.sc.sN
 case neg =>
  have g:¬a=b:=fun e=>c1 (by rw[e])
  simp[go_sem,c0,c1,g];exact .zsc _
 by_cases c2:a.loop=b.loop
 case neg =>
  have g:¬a=b:=fun e=>c2 (by rw[e])
  simp[go_sem,c0,c1,c2,g];exact .zsc _
 by_cases c3:a.sK.length=b.sK.length
 case neg =>
  have g:¬a=b:=fun e=>c3 (by rw[e])
  have T:¬(a.sK.length:Int)=b.sK.length:=zOm;simp[go_sem,c0,c1,c2,c3,g];exact .zsc _
 simp[go_sem,c0,c1,c2,c3];refine qh.up a.sK.length (fun k U=>U.tm 2 = .ip (cMd a)/\U.tm 3 = .ip (cMd b)/\U.tm 5=aI k/\∀(i:Nat)(h:i<k)(P:i<a.sK.length)(hb:i<b.sK.length),a.sK[i]=b.sK[i]) ?_ ?_
 .simp [go_sem, *]
 rintro k U hk ⟨o,p,t,C⟩;by_cases l:k<a.sK.length
 .have j:k<b.sK.length:=by omega
  have w1:=zWk k;have I:=R _ (qn l);simp[go_sem,o,p,t,l,j];refine cZ zKr ?_;simp[go_sem,o,p,t,l,j];refine tC (qrW a.sK[k] b.sK[k] I.1 I.2) (.zk (qd9 _) (.zk (qd9 _) .nil)) ?_;by_cases J:a.sK[k]=b.sK[k]
  .simp [go_sem,o,p,t,l,j,J,w1]
   grind
  .have g:¬a=b:=fun e=>J (by simp only[e])
   simp[go_sem,o,p,t,l,j,J];rw[decide_eq_false g];exact .zsc _
 .have he:a=b:=qrX.2 ⟨c0,c1,c2,List.ext_getElem c3 fun i h h'=>C i zOm h h'⟩
  simp[go_sem,o,p,t,show ¬k<a.sK.length from l];rw[decide_eq_true he];exact .zsc _
end HH
namespace HI
open E1 E3
def wthB(b:Bd)(r:Rl):Bool:=decide (b.lo.ar=r.ar)&&(decide (b.up.ar=r.ar)&&(inOk b.lo r&&inOk r b.up))
def wthS(g:List Bd)(s:List Rl):Bool:=decide (s.length=g.length)&&(g.zip s).all fun p=>wthB p.1 p.2
def cntB(g:List Bd)(m:Md):Bool:=m.sK.all (wthS g)
theorem Km{J:Type}{p}{l:List J}{k}(h:k<l.length)(g:p l[k]=false):l.all p=false:=by
 cases e:l.all p with
 |false=>rfl
 |true=>rw[zb.1 e _ (qn h)]at g;cases g
theorem We{J:Type}{p}{l:List J}(h:∀(i)(g:i<l.length),p l[i]=true):l.all p=true:=zb.2 fun x j=>by
 obtain⟨i,g,rfl⟩:=ug.1 j;exact h i g
end HI
namespace ID
open P1 E1 E3 GB GF GS GU GW GY GZ HB HC HD HI IC
section
variable {b c:List Bd}{ts:TS}
def Y0(x y:Bd):Bd:=⟨unR x.lo y.lo,inR x.up y.up⟩
def zi(b c:List Bd):List Bd:=List.zipWith Y0 b c
def fitZ(z:Bd):Bool:=decide ((diR z.lo z.up).ts=[])
theorem qeA{z}:fitZ z=true↔∀ t,t∈z.lo.ts->t∈z.up.ts:=by
 simp_all[fitZ,decide_eq_true_eq,diR,List.filter_eq_nil_iff]
theorem Zl(h:b.length=c.length):(zi b c).length=b.length:=by simp[zi,h]
theorem wu{i}(h)(g:i<b.length)(j:i<c.length):(zi b c)[i]=Y0 b[i] c[i]:=by simp[zi]
theorem Wf(a b t):t∈(unR a b).ts↔t∈a.ts\/t∈b.ts:=by
 show t∈ofL (a.ts++b.ts)↔_;rw[(Qy _).2,qH]
theorem Wg(a b t):t∈(inR a b).ts↔t∈a.ts/\t∈b.ts:=by
 show t∈a.ts.filter _↔_;simp[yX]
theorem qeB(h:b.length=c.length){z}(g:z∈zi b c):∃(i:Nat) (j:i<b.length) (l:i<c.length),z=Y0 b[i] c[i]:=by
 obtain⟨i,o,rfl⟩:=wC g
 grind [Zl,wu]
theorem qeC{sc}(B:BndV ts sc b)(C:BndV ts sc c)(p:∀ z,z∈zi b c->fitZ z=true):BndV ts sc (zi b c):=by
 have j:b.length=c.length:=by rw[B.len,C.len]
 refine⟨by rw[Zl j];exact B.len,fun i h l=>?_,fun z g=>?_,fun z g=>qeA.1 (p z g),fun i h l t o=>?_⟩
 .rw [Zl j]at h
  rw[wu _ h zOm];exact B.lo i h l
 .obtain ⟨i,r,l,rfl⟩:=qeB j g
  exact⟨(Qy _).1,Xs _ (B.so _ (qn r)).2⟩
 .rw [Zl j]at h
  rw[wu _ h zOm]at o;exact B.full i h l t ((Wg _ _ _).1 o).1
theorem qeD{a b}:inOk a b=true↔∀ t,t∈a.ts->t∈b.ts:=by simp[inOk,zb]
theorem qeE{sc}(B:BndV ts sc b)(C:BndV ts sc c){N m}(h:Betw sc (vsT ts) b N m) :
  cntB c m=true↔∀(k f)(g:k<m.sK.length)(hf:f<c.length)(r:f<m.sK[k].length),(∀ t,t∈c[f].lo.ts->t∈m.sK[k][f].ts)/\∀ t,t∈m.sK[k][f].ts->t∈c[f].up.ts:=by
 have J:b.length=c.length:=by rw[B.len,C.len]
 constructor
 .intro l k f g hf r
  have o:=zb.1 l _ (qn g);simp only[wthS,qD,decide_eq_true_eq,zb]at o;have p:=o.2 (c[f],m.sK[k][f]) (by
   grind [ug])
  simp only[wthB,qD,decide_eq_true_eq,qeD]at p;exact p.2.2
 .intro l
  refine We fun k g=>?_
  have I:=h.len _ (qn g);simp only[wthS,qD,decide_eq_true_eq];refine⟨zOm,We fun f hf=>?_⟩;simp only[List.length_zip]at hf;have i:f<c.length:=zOm;have j:f<m.sK[k].length:=zOm;obtain⟨c1,c2⟩:=l k f g i j;have P:=(h.rel k f g zOm j).1;have R:=B.lo f zOm (by rw[<-B.len];omega);have T:=C.lo f i (by grind);simp_all[List.getElem_zip,wthB,qD,decide_eq_true_eq,qeD]
theorem kK{sc}(B:BndV ts sc b)(C:BndV ts sc c){N m}:Betw sc (vsT ts) (zi b c) N m↔Betw sc (vsT ts) b N m/\cntB c m=true:=by
 have T:b.length=c.length:=by rw[B.len,C.len]
 have P:=Zl T;constructor
 .intro h
  have R:Betw sc (vsT ts) b N m:=by
   refine⟨h.sc,h.lp,h.ns,fun s I=>by rw[h.len s I,P],fun k f l hf o=>?_,h.fix⟩;obtain⟨p,r,i,j⟩:=h.rel k f l zOm o;rw[wu _ hf zOm]at p i j;exact⟨p,r,fun t g=>i t ((Wf _ _ _).2 (.inl g)),fun t g=>((Wg _ _ _).1 (j t g)).1⟩
  refine⟨R,(qeE B C R).2 fun k f l hf o=>?_⟩;obtain⟨p,r,i,j⟩:=h.rel k f l zOm o;rw[wu _ zOm hf]at i j;exact⟨fun t g=>i t ((Wf _ _ _).2 (.inr g)),fun t g=>((Wg _ _ _).1 (j t g)).2⟩
 .rintro ⟨h,J⟩
  have J:=(qeE B C h).1 J;refine⟨h.sc,h.lp,h.ns,fun s I=>by rw[h.len s I,P],fun k f l hf o=>?_,h.fix⟩;obtain⟨p,r,i,j⟩:=h.rel k f l zOm o;obtain⟨c1,c2⟩:=J k f l zOm o;rw[wu _ zOm zOm];exact⟨p,r,fun t g=>by rcases (Wf _ _ _).1 g with h|h;exact i t h;exact c1 t h,fun t g=>(Wg _ _ _).2 ⟨j t g,c2 t g⟩⟩
theorem qrZ{sc}(B:BndV ts sc b)(C:BndV ts sc c){N}(t:1<=N){m}(h:Betw sc (vsT ts) b N m)(l:cntB c m=true):∀ z,z∈zi b c->fitZ z=true:=fun z o=>by
 have g:b.length=c.length:=by rw[B.len,C.len]
 obtain⟨i,I,J,rfl⟩:=qeB g o;have p:=(kK B C).2 ⟨h,l⟩;have r:=h.ns;have j:0<m.sK.length:=zOm;have P:=h.len _ (qn j);have R:=Zl g;obtain⟨T,U,a3,a4⟩:=p.rel 0 i j zOm zOm
 grind [wu,qeA]
theorem qr0{J:Type}(p q)(h:∀ x,p x=true->q x=true)(l:List J):(l.filter p).Sublist (l.filter q):=by
 have e:l.filter p=(l.filter q).filter p:=by
  rw[List.filter_filter];refine List.filter_congr fun x _=>?_
  cases g:p x with
  |false=>rfl
  |true=>rw[h x g];rfl
 rw[e];exact List.filter_sublist
theorem qr1(x y):(vb (Y0 x y)).Sublist (vb x):=by
 show ((x.up.ts.filter _).filter _).Sublist _;rw[List.filter_filter];refine qr0 _ _ (fun t h=>?_) _;simp only[qD,Bool.not_eq_true',decide_eq_false_iff_not,decide_eq_true_eq]at h⊢;exact fun g=>h.1 ((Wf _ _ _).2 (.inl g))
theorem kL:∀ b c k,(qv (zi b c) k).Sublist (qv b k)
 | [],c,k=>by simp[zi,qv]
 |x :: b,[],k=>by simp[zi,qv]
 |x :: b,y :: c,k=>by
  show (yH k (Y0 x y)++qv (zi b c) (k+1)).Sublist (yH k x++qv b (k+1));exact List.Sublist.append ((qr1 x y).map _) (kL b c (k+1))
theorem qr2(i s){f g}(h:f.Sublist g):(chA i s f).Sublist (chA i s g):=(h.filter _).map _
theorem qeF(i){f g}(h:f.Sublist g):∀ N,(chs i f N).Sublist (chs i g N)
 | 0=>by simp[chs]
 | N+1=>by rw[J4,J4];exact List.Sublist.append (qeF i h N) (qr2 i N h)
theorem qeG(g N):posF g (N+1)=posF g N++g.map fun p=>((N:Int),p.1,p.2):=by
 simp[posF,List.range_succ]
theorem qeH{f g}(h:f.Sublist g):∀ N,(posF f N).Sublist (posF g N)
 | 0=>by simp[posF]
 | N+1=>by rw[qeG,qeG];exact List.Sublist.append (qeH h N) (h.map _)
theorem kM{J:Type}(f g):∀{P Q:List J},P.Sublist Q->Q.Nodup->(∀ z,z∈Q->¬z∈P->f z=g z)->lexB (P.map f) (P.map g)=lexB (Q.map f) (Q.map g)
 |_,_,.slnil,_,_=>rfl
 | P,_,.cons (l₂:=Q) a h,i,l=>by
  rw[jx]at i;have r:f a=g a:=l a zSp fun j=>i.1 (h.subset j)
  rw[kM f g h i.2 fun z o j=>l z (zP1 o) j];simp[lexB,r]
 |_,_,.cons_cons (l₁:=P) (l₂:=Q) a h,i,l=>by
  rw[jx]at i;have t:=kM f g h i.2 fun z o j=>l z (zP1 o) (by
   intro C;rcases qt.1 C with e|e
   .subst e;exact i.1 o
   .exact j e)
  simp only[zT,lexB,t]
theorem qr3{sc}(B:BndV ts sc b)(C:BndV ts sc c){N x y}(hx:Betw sc (vsT ts) (zi b c) N x)(hy:Betw sc (vsT ts) (zi b c) N y) :
  jV (qv (zi b c) 0) N x y=jV (qv b 0) N x y:=by
 have t:b.length=c.length:=by rw[B.len,C.len]
 have hm:=Zl t;unfold jV;split
 .unfold Zk
  refine kM (bit x) (bit y) (qeH (kL b c 0) N) (qdY _ N (kH b 0 fun z i=>(B.so z i).2)) fun z i I=>?_
  obtain⟨s,f,hf,J,e,ht⟩:=(Vo b N z).1 i;rw[e];have key:∀ w:Md,Betw sc (vsT ts) (zi b c) N w->bit w ((s:Int),(f:Int),z.2.2)=decide (z.2.2∈(Y0 b[f] (c[f]' zOm)).lo.ts):=fun w j=>by
   have P:=j.ns;have o:s<w.sK.length:=zOm;have R:=j.len _ (qn o);have g:f<w.sK[s].length:=zOm;obtain⟨a1,a2,p,r⟩:=j.rel s f o zOm g;rw[wu _ hf zOm]at p r;have T:(w.sK.getD s []).getD f noR=w.sK[s][f]:=by
    rw[zC (l:=w.sK),qw o];exact qd4 g
   simp only[bit,Int.toNat_natCast,T];rw[decide_eq_decide];refine⟨fun h=>?_,p _⟩;refine uh fun U=>I ?_
   exact(Vo (zi b c) N z).2 ⟨s,f,zOm,J,e,by rw[wu _ hf zOm];exact(U9 _ _).2 ⟨r _ h,U⟩⟩
  grind
 .rfl
theorem qr4{sc}(B:BndV ts sc b)(C:BndV ts sc c)(o:∀ z,z∈zi b c->fitZ z=true){N}(l:1<=N) :
  vM sc (vsT ts) (zi b c) (chs (vsT ts) (qv (zi b c) 0) N) N=(vM sc (vsT ts) b (chs (vsT ts) (qv b 0) N) N).filter fun m=>cntB c m:=by
 have D:=qeC B C o;refine qd3 (fun x y=>jV (qv b 0) N x y=true) (fun x y i j=>by grind [qrO]) _ _ ?_ ?_ fun m=>?_
 .have h:=qdZ sc (vsT ts) (zi b c) N fun z g=>(D.so z g).2
  grind [List.Pairwise.imp_of_mem,qr3,Wb]
 .exact (qdZ sc (vsT ts) b N fun z g=>(B.so z g).2).filter _
 .rw [yX]
  constructor
  .intro h
   obtain⟨i,j⟩:=(kK B C).1 (Wb D l h);exact⟨qd5 B i,j⟩
  .rintro ⟨i,j⟩
   exact qd5 D ((kK B C).2 ⟨Wb B l i,j⟩)
end
end ID
namespace IE
end IE
namespace IK
open GH Y1 P1 Q4 E1 E3 GD G5 GF GQ GR GS GU GV GW GX GY HA IA IB IC YF Y16
structure Cx (ts:TS) (sc:Sc) (b:List Bd) (N:Nat):Prop where
 S:SpD ts
 hk:jo ts=[]
 F:Fit9 ts sc
 z:yW sc=true
 h5:sumI sc.sC<=5
 B:BndV ts sc b
 hS:sc.sN=N
 c9:(chs (vsT ts) (qv b 0) N).length<=9
theorem kN{ts sc}(F:Fit9 ts sc)(g:sumI sc.sC<=5){f}(hf:f∈ts.sA):(yA sc f.sS).length<=1000/\sorted (yA sc f.sS):=by
 obtain⟨a,b,_⟩:=mW F g _ (List.mem_map_of_mem (f:=fun f:Fld=>(⟨⟨f.sS.length,[]⟩,⟨f.sS.length,yA sc f.sS⟩⟩:Bd)) hf);exact⟨a,b⟩
theorem kO(M):∀ l k,(∀ x,x∈l->x.up.ts.length<=M)->(qv l k).length<=l.length*M
 | [],k,_=>by simp[qv]
 |x :: l,k,h=>by
  have i:=h x zSp;have j:(yH k x).length<=x.up.ts.length:=by rw[yH,zK];exact List.length_filter_le _ _
  have o:=kO M l (k+1) fun y g=>h y (zP1 g)
  simp only[qv,qX,zz,Nat.add_mul,Nat.one_mul];omega
namespace Cx
variable {ts:TS} {sc:Sc} {b:List Bd} {N:Nat}
theorem N1(X:Cx ts sc b N):1<=N:=by have:=X.F.s1;have:=X.hS;omega
theorem N4(X:Cx ts sc b N):N<=4:=by have:=X.F.s4;have:=X.hS;omega
theorem bl(X:Cx ts sc b N):b.length<=6:=by rw[X.B.len];exact X.F.nf
theorem bts(X:Cx ts sc b N):∀ x,x∈b->x.up.ts.length<=1000/\x.lo.ts.length<=1000/\sorted x.up.ts/\sorted x.lo.ts:=fun x g=>by
 obtain⟨i,j,rfl⟩:=wC g;have l:i<ts.sA.length:=by rw[<-X.B.len];exact j
 obtain⟨s1,o⟩:=X.B.so _ g;have h:=kN X.F X.h5 (qn l);have p:=Zd o (X.B.full i j l);have r:=Zd s1 (X.B.sub _ g);exact⟨zOm,zOm,o,s1⟩
theorem okf(X:Cx ts sc b N):∀ x,x∈b->Qa x:=fun x g=>by
 obtain⟨j,l,o,i⟩:=X.bts x g;exact⟨zOm,zOm,i.imp fun h=>zOm⟩
theorem fl(X:Cx ts sc b N):(qv b 0).length<=100000:=by
 have:=kO 1000 b 0 fun x g=>(X.bts x g).1
 have:=X.bl;omega
end Cx
abbrev LL(ts:TS)(sc:Sc)(b:List Bd)(N:Nat):List Md:=vM sc (vsT ts) b (chs (vsT ts) (qv b 0) N) N
namespace Cx
variable {ts:TS} {sc:Sc} {b:List Bd} {N:Nat}
theorem len(X:Cx ts sc b N):(LL ts sc b N).length<=10000:=by
 rw[qmX];have g:2 ^ (chs (vsT ts) (qv b 0) N).length<=2 ^ 9:=Nat.pow_le_pow_right zOm X.c9;have:=Nat.mul_le_mul X.N4 g;omega
theorem inst(X:Cx ts sc b N):qd qb 9 [eTS ts,eSc sc,lBd b] (.tup [lMd (LL ts sc b N),aI 0]):=by
 have g:2 ^ (chs (vsT ts) (qv b 0) N).length<=2 ^ 9:=Nat.pow_le_pow_right zOm X.c9;have j:=Nat.mul_le_mul X.N4 g;exact qmZ ts sc b N X.hS X.N4 (zW1 X.bl) X.okf (fun x i=>⟨zW1 ((X.bts x i).2.1)⟩) (by rw[X.B.len];omega) X.fl (zW1 X.c9) zOm (Kt ts sc X.F X.z) (qaS ts sc b X.F (qdR X.z) X.B)
theorem mdv(X:Cx ts sc b N){m}(h:m∈LL ts sc b N):MdV ts m:=by
 obtain⟨k,c,g,i,rfl⟩:=Ks.1 h;exact qrJ X.F X.z X.B X.hS g i
theorem sms(X:Cx ts sc b N){m}(h:Betw sc (vsT ts) b N m):SmS m.sK:=by
 have t:=X.N4;have l:=h.ns;have C:=X.bl;refine⟨zOm,fun s g=>by rw[h.len s g];omega,fun s g r o=>?_⟩;obtain⟨k,i,rfl⟩:=wC g;obtain⟨f,hf,rfl⟩:=wC o;have I:=h.len _ (qn i);obtain⟨J,j,P,p⟩:=h.rel k f i zOm hf;have:=Zd j p;have:=(X.bts _ (qn (show f<b.length by omega))).1;exact⟨zOm,j⟩
theorem betw(X:Cx ts sc b N){m}(h:m∈LL ts sc b N):Betw sc (vsT ts) b N m:=Wb X.B X.N1 h
theorem holds(X:Cx ts sc b N){m}(h:m∈LL ts sc b N){n}(g:ze n=true):qd qb 11 [eTS ts,eMd m,eNd n] (.tup [aB (hV ⟨ts,m⟩ n).1,aI (hV ⟨ts,m⟩ n).2]):=
 qrD X.S X.hk (qrQ X.S.h (X.mdv h)) (by rw[(X.betw h).ns];exact X.N1) g
end Cx
def MV(ts:TS)(sc:Sc)(b:List Bd)(N:Nat)(n:Nd):List Md×Int:=modV (fun m=>hV ⟨ts,m⟩ n) (LL ts sc b N) 0
namespace Cx
variable {ts:TS} {sc:Sc} {b:List Bd} {N:Nat}
theorem models(X:Cx ts sc b N){n}(g:ze n=true):qd qb 10 [eTS ts,eSc sc,lBd b,eNd n] (.tup [lMd (MV ts sc b N n).1,aI (MV ts sc b N n).2]):=
 qm0 ts sc b n (LL ts sc b N) 0 _ (zW1 X.len) X.inst fun m i=>X.holds i g
theorem qr5{n}:(MV ts sc b N n).1.Sublist (LL ts sc b N):=qrT _ _
end Cx
end IK
namespace IL
open Y1 P1 GS GW HI IA IC ID IK
variable {ts:TS} {sc:Sc} {b:List Bd} {N:Nat}
theorem mv_ok{n}(h:(MV ts sc b N n).2=0):(∀ m,m∈LL ts sc b N->(hV ⟨ts,m⟩ n).2=0)/\(MV ts sc b N n).1=(LL ts sc b N).filter fun m=>(hV ⟨ts,m⟩ n).1:=qd2 h
theorem mv_of{n}(h:∀ m,m∈LL ts sc b N->(hV ⟨ts,m⟩ n).2=0):MV ts sc b N n=((LL ts sc b N).filter fun m=>(hV ⟨ts,m⟩ n).1,0):=qrR h
theorem qr6{c}(X:Cx ts sc b N)(C:BndV ts sc c)(j:∀ z,z∈zi b c->fitZ z=true){n}(l:(MV ts sc b N n).2=0) :
  MV ts sc (zi b c) N n=((MV ts sc b N n).1.filter fun m=>cntB c m,0):=by
 obtain⟨o,p⟩:=mv_ok l;have g:LL ts sc (zi b c) N=(LL ts sc b N).filter fun m=>cntB c m:=qr4 X.B C j X.N1
 have r:=mv_of (n:=n) (ts:=ts) (sc:=sc) (b:=zi b c) (N:=N) fun m i=>o m (by rw[g]at i;exact(yX.1 i).1)
 rw[r,g,p,List.filter_filter,List.filter_filter];congr 1;refine List.filter_congr fun m _=>?_
 rw[Bool.and_comm]
theorem Cx.meet{c}(X:Cx ts sc b N)(C:BndV ts sc c)(g:∀ z,z∈zi b c->fitZ z=true):Cx ts sc (zi b c) N:=
 ⟨X.S,X.hk,X.F,X.z,X.h5,qeC X.B C g,X.hS,zt (qeF (vsT ts) (kL b c 0) N).length_le X.c9⟩
end IL
namespace I1
open YF P1 EO EP EQ F4 GF GR GS GU
theorem qr7(l x)(P:l.length<=1000000000):qd qb 111 [lI l,aI x] (aB (decide (x∈l))):=by
 refine qSU call111 func111 rfl ?_;refine qh.up l.length (fun k U=>U.tm 0=lI l/\U.tm 1=aI x/\U.tm 5=aI k/\U.mu=[]/\∀(i:Nat)(h:i<l.length),i<k->l[i]≠x) ?_ ?_
 .simp [go_sem]
 rintro k U R ⟨j,o,p,r,I⟩;by_cases g:k<l.length
 .by_cases t:l[k]=x
  .simp [go_sem,j,o,p,r,g,t]
   rw[decide_eq_true (by grind)];exact .zsc _
  .simp [go_sem,j,o,p,r,g,t]
   refine⟨zWr,fun i h J=>?_⟩;rcases Nat.lt_succ_iff_lt_or_eq.1 J with C|C
   .exact I i h C
   grind
 .simp [go_sem,j,o,p,r,g]
  rw[decide_eq_false (fun h=>by
   grind [ug])]
  exact .zsc _
def wv(k:Nat)(x:Bd)(j:Nat):List (Int×Int):=((x.up.ts.take j).filter fun t=>!decide (t∈x.lo.ts)).map fun t=>((k:Int),t)
theorem qr8(k x j h):wv k x (j+1)=wv k x j++(if x.up.ts[j]∈x.lo.ts then [] else [((k:Int),x.up.ts[j])]):=by
 unfold wv;rw[yb h,List.filter_append,q9];by_cases g:x.up.ts[j]∈x.lo.ts<;>simp[g]
theorem qr9(k x j):(wv k x j).length<=x.up.ts.length:=by
 grind [wv,zK,zt,List.length_filter_le,List.length_take_le']
theorem qsA(l)(hl:l.length<=1000)(hb:∀ x,x∈l->Qa x):qd qb 60 [lBd l] (lP (qv l 0)):=by
 refine qSU call60 func60 rfl ?_;refine kT l.length (fun k U=>U.tm 0=lBd l/\U.tm 4=aI k/\Own U.mu 2 (U.tm 3) ((qv (l.take k) 0).map rP)) ?_ ?_
 .exact ⟨zSi,zSi,.inl (by simp[go_sem,qv])⟩
 rintro k U hk ⟨r,C,I⟩;by_cases o:k<l.length
 .have w1:=zWk k
  have hx:=hb _ (qn o);have a1:=hx.up;have a2:=hx.lo;have a0:=J3 (l.take k) 0 fun y hy=>hb y (List.mem_of_mem_take hy)
  have a3:(qv (l.take k) 0).length<=1000000000:=by
   grind
  have J:=qaA l k o;have P:wv k l[k] l[k].up.ts.length=yH k l[k]:=by unfold wv;rw[qO];rfl
  simp[go_sem,r,C,o];refine kT l[k].up.ts.length (fun j st2=>st2.tm 0=lBd l/\st2.tm 4=aI k/\st2.tm 5=aI j/\Own st2.mu 2 (st2.tm 3) ((qv (l.take k) 0++wv k l[k] j).map rP)) ?_ ?_
  .simp_all [go_sem,wv]
  clear r C I;rintro j st2 hj ⟨r,C,T,I⟩;by_cases t:j<l[k].up.ts.length
  .have w2:=zWk j
   have hh:=qr7 l[k].lo.ts l[k].up.ts[j] zOm;have hs:=qr8 k l[k] j t;have a4:=qr9 k l[k] j;simp[go_sem,r,C,T,o,t];refine cZ zKr ?_;simp[go_sem,r,C,T,o,t];refine tC hh (.zk (zh _) (.zs .nil)) ?_;by_cases hm:l[k].up.ts[j]∈l[k].lo.ts
   .simp_all [go_sem,if_pos,zF,aK]
   .rw [if_neg hm]at hs
    simp[go_sem,hm,r,C,T,o,t];refine qu.ownB (e:=113) (sz:=2) (bt:=16) (zv := .agg [aI 0,aI 0]) (xs:=(qv (l.take k) 0++wv k l[k] j).map rP) (ys:=[rP ((k:Int),l[k].up.ts[j])]) zSi zSi zSi rfl rfl zOm zOm I (by simp[qz]) (J1 _) (J1 [_]) zSo ?_;simp_all[go_sem,aK,zy,q9]
  .have R:j=l[k].up.ts.length:=by omega
   subst R;rw[P,<-J]at I;simp[go_sem,r,C,T,o,w1]
   try refine⟨o,aK ?_⟩
   try refine aK ?_
   exact⟨zS1 r,zSi,zVs I⟩
 .have R:k=l.length:=by omega
  subst R;rw[qO]at I;simp[go_sem,r,C];exact cD I
theorem qsB(ts)(sc:Sc)(R)(N:Nat)(hS:sc.sN=N)(hN:N<=4)(hl:R.length<=1000)(hb:∀ x,x∈R->Qa x)(ad:R.length<=ts.sA.length)(a8:(qv R 0).length<=100000) :
  qd qb 27 [eTS ts,eSc sc,lBd R] (lCh (chs (vsT ts) (qv R 0) N)):=by
 have a2:=qsA R hl hb;have a4:=J5 R 0;generalize hF:qv R 0=F at *
 refine qSU call27 func27 rfl ?_;refine fR a2 (.zk (zZ _) .nil) ?_;refine kT N (fun k U=>U.tm 3 = .ip (cTS ts)/\U.tm 4 = .ip [lI sc.sC,aI sc.sN]/\U.tm 8=lP F/\U.tm 9=aI k/\Own U.mu 3 (U.tm 7) ((chs (vsT ts) F k).map rC)) ?_ ?_
 .exact ⟨zSi,zSi,zSi,zSi,.inl (by simp[go_sem,chs])⟩
 rintro k U hk ⟨e3,e4,J,P,ho⟩;by_cases a5:k<N
 .have w1:=zWk k
  have n4:(k:Int)<4:=zOm;have ae:=Kr (vsT ts) F k;have aa:k*F.length<=4*100000:=Nat.mul_le_mul zOm a8;simp[go_sem,e4,J,P,hS,a5,n4];refine kT F.length (fun j st2=>st2.tm 3 = .ip (cTS ts)/\st2.tm 4 = .ip [lI sc.sC,aI sc.sN]/\st2.tm 8=lP F/\st2.tm 9=aI k/\st2.tm 10=aI j/\Own st2.mu 3 (st2.tm 7) ((chs (vsT ts) F k++chA (vsT ts) k (F.take j)).map rC)) ?_ ?_
  .simp_all [go_sem,chA]
  clear e3 e4 J P ho;rintro j st2 hj ⟨e3,e4,J,P,t,T⟩;by_cases l:j<F.length
  .have w2:=zWk j
   have hm:=a4 _ (qn l);obtain⟨f,hf⟩:=Int.eq_ofNat_of_zero_le (show 0<=F[j].1 by omega);have C:f<ts.sA.length:=zOm;have a0:0<=F[j].1:=zOm;have a1:F[j].1.toNat=f:=zOm;have I:F[j].1<ts.sA.length:=zOm;have a9:(vsT ts).getD F[j].1.toNat true=ts.sA[f].var:=by grind
   have af:=Kq (vsT ts) k (F.take j);have ag:=List.length_take_le j F;have hs:=qaD (vsT ts) k F j l;rw[a9]at hs;have ab:∀(K:AV->Mu->Prop),(∀ a6 a7,Own a7 3 a6 ((chs (vsT ts) F k++(chA (vsT ts) k (F.take j)++[((k:Int),F[j].1,F[j].2)])).map rC)->K a6 a7)->qu qb st2.mu #[80,80] (st2.tm 7) (.lst true [[aI k,aI F[j].1,aI F[j].2]]) K:=fun K hK=>by
    refine qu.ownB (e:=127) (sz:=3) (bt:=24) (zv := .agg [aI 0,aI 0,aI 0]) (xs:=(chs (vsT ts) F k++chA (vsT ts) k (F.take j)).map rC) (ys:=[rC ((k:Int),F[j].1,F[j].2)]) zSi zSi zSi rfl rfl zOm zOm T (by simp[qz]) (Yt _) (Yt [_]) zSo ?_
    grind
   by_cases hc:(decide (k=0)||ts.sA[f].var)=true
   .rw [if_pos hc]at hs
    by_cases o:k=0
    .subst o
     simp[go_sem,J,P,t,l];refine cZ zKr ?_;simp[go_sem,J,P,t,l];refine cZ zKr ?_;simp_all[go_sem,aK]
    .have hv:ts.sA[f].var=true:=by simpa[o] using hc
     simp[go_sem,e3,J,P,t,l,o,a0,a1,I,C,hv];refine cZ zKr ?_;simp[go_sem,e3,J,P,t,l,o,a0,a1,I,C,hv];refine cZ zKr ?_;simp_all[go_sem,aK]
   .rw [if_neg hc,zF]at hs
    have o:¬k=0:=fun h=>hc (zP1 h)
    have hv:ts.sA[f].var=false:=by simpa[o] using hc
    simp[go_sem,e3,J,P,t,l,o,a0,a1,I,C,hv,w2];refine cZ zKr ?_;simp[go_sem,e3,J,P,t,l,o,a0,a1,I,C,hv,w2]
    try refine⟨l,aK ?_⟩
    try refine aK ?_
    refine⟨zS1 e3,zS1 e4,zS1 J,zS1 P,zSi,?_⟩;rw[hs];simpa[go_sem] using T
  .have a3:j=F.length:=by omega
   subst a3;rw[qO]at T;simp[go_sem,J,P,t,w1]
   try refine⟨a5,aK ?_⟩
   try refine aK ?_
   refine⟨zS1 e3,zS1 e4,zS1 J,zSi,?_⟩;rw[J4];simpa[go_sem] using T
 .have a3:k=N:=by omega
  subst a3;simp[go_sem,e4,P,hS];exact Own.rd ho (Yt _).ok fun r hr c hc=>by
   obtain⟨n,_,rfl⟩:=qi.1 hr;simp at hc;rcases hc with rfl|rfl|rfl<;>exact HF.sc _
end I1
end Go.Proofs.YtfednihcpihlgaaGreatDoor
namespace Go.Ev
open Go Go.RowKit
section
variable {β:Type}
end
end Go.Ev
namespace Go.Proofs.YtfednihcpihlgaaGreatDoor
open Go Go.Ev Go.Proofs Tryz
namespace JB
end JB
namespace JC
end JC
namespace JE
end JE
namespace JF
end JF
namespace JG
end JG
namespace W41
open Y1 YF P1 GS
abbrev u8(x:Int):AV := .sc (.int .u8 x)
abbrev lRaw(r:List (List Int)):AV := .lst false (r.map fun l=>[.lst false (l.map fun x=>[u8 x])])
abbrev uf(ts:TS)(sc:Sc)(raw:List (List Int))(n:Nd)(g:List (List Bool))(lp:Int):List AV:=cTS ts++([lI sc.sC,aI sc.sN,lRaw raw]++(cNd n++[lBB g,u8 lp]))
end W41
namespace I2
open YF P1 EO EP EQ F4 GF G5 GR GS GW HE W41
theorem qsC(ts sc)(F:Fit9 ts sc):qy qb 18 [eTS ts,eSc sc] [] (fun e m=>∃ av,e = .ret av/\Own m 4 av (ts.sA.map (rowD sc))/\(0<ts.sA.length->∃ b,qj av=some b)):=by
 have a0:=F.nf;refine qSW call18 func18 rfl {} ?_;simp[go_sem];refine kT ts.sA.length (fun k U=>U.tm 2 = .ip (cTS ts)/\U.tm 3 = .ip [lI sc.sC,aI sc.sN]/\U.tm 6=aI k/\Own U.mu 4 (U.tm 5) ((ts.sA.take k).map (rowD sc))/\(0<k->∃ b,qj (U.tm 5)=some b)) ?_ ?_
 .exact ⟨zSi,zSi,zSi,.inl zSi,fun h=>absurd h zOm⟩
 rintro k U hk ⟨t,e3,C,I,J⟩;by_cases l:k<ts.sA.length
 .have w1:=zWk k
  have o:=qn l;have r:=n7 sc F.g F.p ts.sA[k].sS (F.f1 _ o).1 (F.f1 _ o).2 (F.fs _ o);simp[go_sem,t,C,l];refine cZ zKr ?_;simp[go_sem,t,e3,C,l];refine fR r (.zk (zA _) (.zk (zh _) .nil)) ?_;refine .inl (jM.ownB (e:=102) (sz:=4) (bt:=64) (zv := .agg [aI 0,.lst true [],aI 0,.lst true []]) (xs:=(ts.sA.take k).map (rowD sc)) (ys:=[rowD sc ts.sA[k]]) zSi zSi zSi rfl rfl zOm zOm I (by simp[qz,rowD]) (JZ sc _) (JZ sc [_]) zSo ?_);intro a1 j P _ _ _ R;simp[go_sem,C,l,w1];refine aK ⟨zS1 t,zS1 e3,zSi,?_,fun _=>by simp[go_sem];exact R zSp⟩;rw[yb l,q9];simpa[go_sem] using P
 .have T:k=ts.sA.length:=by omega
  subst T;rw[qO]at I;simp[go_sem,t,C];exact⟨I,J⟩
def jJ(ts:TS)(sc:Sc)(raw:List (List Int))(k:Nat):List (List AV):=((zU ts sc raw).take k).map cBd++(ts.sA.drop k).map (rowD sc)
theorem qsD(ts sc raw k)(h:k<=ts.sA.length):(jJ ts sc raw k).length=ts.sA.length:=by
 simp[jJ,Qg];omega
theorem qsE(ts sc raw k):yE 4 (jJ ts sc raw k):=fun r g=>by
 rcases qH.1 g with h|h
 .obtain ⟨x,_,rfl⟩:=qi.1 h;rfl
 .obtain ⟨x,_,rfl⟩:=qi.1 h;rfl
theorem qsF(ts sc raw k h):(jJ ts sc raw k)[k]?=some (rowD sc ts.sA[k]):=by
 have g:(((zU ts sc raw).take k).map cBd).length=k:=by simp[Qg];omega
 simp_all[jJ,zE,Nat.sub_self,zf,List.getElem?_drop,Nat.add_zero,qw]
theorem qsG(ts sc raw k h):(jJ ts sc raw k).set k (cBd ((zU ts sc raw)[k]'(by rw[Qg];exact h)))=jJ ts sc raw (k+1):=by
 have g:(((zU ts sc raw).take k).map cBd).length=k:=by simp[Qg];omega
 have i:k<(zU ts sc raw).length:=by rw[Qg];exact h
 unfold jJ;rw[List.set_append_right _ _ zOm,g,Nat.sub_self,zm h,zT,List.set_cons_zero,yb i,q9,zy];rfl
theorem cQ{Q i d d' L x x' st}(o:d≠d')(l:Rd (cutM (fun j=>decide (L<=j)) st.mu 0) (st.tm d) x)(g:Rd (cutM (fun j=>decide (L<=j)) st.mu 0) (st.tm d') x')
  (k:Q (.exit i) ((st.put (some d) x st.mu).put (some d') x' (cutM (fun j=>!decide (L<=j)) st.mu 0))):FzQ Q (.exit i) st:=by
 refine⟨_,⟨fun j=>decide (L<=j),rfl,fun j=>?_⟩,trivial,k⟩;simp only[St.put];split
 .rename_i h;subst h;exact .rd _ _ g
 .split
  .rename_i h;subst h;exact .rd _ _ l
  .exact .same _
theorem kP{sz}:∀{xs},yE sz xs->∀ i h j,j<sz->xs.flatten[i*sz+j]?=xs[i][j]?
 | [],_,i,h,j,l=>absurd h (Nat.not_lt_zero i)
 |r :: xs,w,i,h,j,l=>by
  have g:r.length=sz:=w r zSp;rw[List.flatten_cons];cases i with
  |zero=>grind
  |succ i =>
   rw[zE (by grind),g,show (i+1)*sz+j-sz=i*sz+j by rw[Nat.succ_mul];omega];exact kP (fun r g=>w r (zP1 g)) i (zUs h) j l
theorem Own.same{sz mu mu' av xs}(h:Own mu sz av xs)(g:∀ b,qj av=some b->mu'[b]?=mu[b]?):Own mu' sz av xs:=by
 rcases h with rfl|⟨b,rfl,i⟩
 .exact .inl rfl
 .exact .inr ⟨b,rfl,by rw[g b rfl];exact i⟩
theorem qeI(ts sc)(F:Fit9 ts sc)(raw)(hr:∀ l,l∈raw->∀ x,x∈l->0<=x/\x<=255):qd qb 14 [eTS ts,eSc sc,lRaw raw] (lBd (zU ts sc raw)):=by
 have cg:=F.nf;have b3:=qsC ts sc F;have an:=Qg ts sc raw;refine qSU call14 func14 rfl ?_;refine fQ b3 ?_ (by grind);rintro r m ⟨t,h,ch,bc⟩;cases h;simp[go_sem];refine kT ts.sA.length (fun k st=>st.tm 2=lRaw raw/\st.tm 7=r/\st.tm 8=aI k/\Own st.mu 4 r (jJ ts sc raw k)) ?_ ?_
 .simp_all [go_sem,jJ]
 rintro k st hk ⟨e2,e7,e8,ho⟩;have b4:=qsD ts sc raw k hk;have ag:=qsE ts sc raw k;by_cases a9:k<ts.sA.length
 .have w1:=zWk k
  have ao:=qsF ts sc raw k a9;obtain⟨BK,cj,be⟩:∃ BK,(zU ts sc raw)[k]?=some BK/\BK=Wc (raw.getD k []) ⟨⟨ts.sA[k].sS.length,[]⟩,⟨ts.sA[k].sS.length,yA sc ts.sA[k].sS⟩⟩:=⟨_,qw zOm,Wd ts sc raw k zOm a9⟩;have ai:(jJ ts sc raw k).set k (cBd BK)=jJ ts sc raw (k+1):=by
   grind [qsG,qg]
  have ck:=qaR sc F.g ts.sA[k].sS (F.f1 _ (qn a9)).2;generalize hW:jJ ts sc raw k=W at ho b4 ag ao ai;obtain⟨B,hB⟩:=bc zOm;rcases ho with h|⟨B',h,hc⟩
  .rw [h]at hB;cases hB
  .rw [h]at hB;cases hB
   have bg:W.flatten.length=W.length*4:=by rw[yD ag]
   have bi:=(qg.1 hc).1;have cl:W.flatten[k*4+2]?=some (aI ts.sA[k].sS.length):=by
    have:=kP ag k zOm 2 zOm;rw[this,(qg.1 ao).2];rfl
   have cm:W.flatten[k*4+3]?=some (lI (yA sc ts.sA[k].sS)):=by
    have:=kP ag k zOm 3 zOm;rw[this,(qg.1 ao).2];rfl
   have b5:=fun x:List AV=>Je W k x ag
   have cn:=bg;generalize cp:(ts.sA[k].sS.length:Int)=o at *
   generalize cq:yA sc ts.sA[k].sS=U at *
   generalize bj:raw.getD k []=rw at *
   generalize cr:W.flatten=FL at *
   have bk:(FL.drop (k*4+2)).take 2=[aI o,lI U]:=by
    grind [qg,zm]
   simp[go_sem,e7,e8,h,b4,a9,hc];refine tA (.agg [aI o,lI U]) (by rw[if_pos zOm,bk]) ?_;simp[go_sem];generalize hR:st.mu.length=R at *
   refine fB U.length (fun j=>Keep (fun st2=>st2.tm 2=lRaw raw/\st2.tm 7=r/\st2.tm 8=aI k/\st2.tm 9 = .ptr R 0/\st2.tm 10 = .ptr (R+1) 0/\st2.tm 11 = .ptr (R+2) 0/\st2.tm 12=aI j/\∃ C a0,st2.mu[R]?=some (.arr [aI o,lI U])/\st2.mu[R+1]?=some (.arr [aI o,C])/\st2.mu[R+2]?=some (.arr [aI o,a0]) /\
    Own st2.mu 1 C ((selW (fun x=>decide (1<x)) rw (U.take j) 0).map rI)/\Own st2.mu 1 a0 ((selW (fun x=>decide (0<x)) rw (U.take j) 0).map rI)/\(∀ b,qj C=some b->R+3<=b)/\(∀ b,qj a0=some b->R+3<=b)/\(∀ b,qj C=some b->qj a0≠some b)/\∀ i,i<R->st2.mu[i]?=st.mu[i]?) .mk) ?_ ?_
   .exact aK ⟨zS1 e2,zS1 e7,zS1 e8,zSi,zSi,zSi,zSi,.lst true [],.lst true [],zS1 hR,zS1 hR,zS1 hR,.inl (by simp[selW]),.inl (by simp[selW]),by simp[qj],by simp[qj],by simp[qj],fun i hi=>by simp_all[go_sem,qG]⟩
   rintro j st2 hj ⟨f2,f7,f8,f9,f10,f11,f12,C,a0,c9,c10,c11,ol,oh,bl,bh,nb,low⟩;by_cases J:j<U.length
   .skip
    have w2:=zWk j;have aq:=qd7 (fun x=>decide (1<x)) rw U j J;have au:=qd7 (fun x=>decide (0<x)) rw U j J;by_cases aa:k<raw.length
    .have bm:rw=raw[k]:=by grind
     by_cases ab:j<raw[k].length
     .have cs:=hr _ (qn aa) _ (qn ab)
      have hx:(raw[k][j]).tmod 4=wtR rw j:=by
       simp_all[Int.tmod_eq_emod_of_nonneg,wtR,if_pos,zC,qw]
      have ct:0<=wtR rw j/\wtR rw j<4:=by grind
      generalize hw:wtR rw j=w at *
      rcases (show w=0\/w=1\/1<w by omega) with bn|a5|aw
      .rw [bn]at hx
       have sl:selW (fun x=>decide (1<x)) rw (U.take (j+1)) 0=selW (fun x=>decide (1<x)) rw (U.take j) 0:=by grind
       have sh:selW (fun x=>decide (0<x)) rw (U.take (j+1)) 0=selW (fun x=>decide (0<x)) rw (U.take j) 0:=by grind
       simp[go_sem,f2,f8,f9,f12,c9,J,w2,aa,ab,hx];simp_all[go_sem,aK]
      .rw [a5]at hx
       have sl:selW (fun x=>decide (1<x)) rw (U.take (j+1)) 0=selW (fun x=>decide (1<x)) rw (U.take j) 0:=by grind
       have sh:selW (fun x=>decide (0<x)) rw (U.take (j+1)) 0=selW (fun x=>decide (0<x)) rw (U.take j) 0++[U[j]]:=by grind
       simp[go_sem,f2,f8,f9,f12,c9,J,aa,ab,hx];refine cZ zKr ?_;simp[go_sem,f9,f11,f12,c9,c11,J];refine qu.ownB (e:=3) (sz:=1) (bt:=8) (zv:=aI 0) (xs:=(selW (fun x=>decide (0<x)) rw (U.take j) 0).map rI) (ys:=[rI U[j]]) zSi zSi zSi rfl rfl zOm zOm oh (by simp[qz]) (yk _) (yk [_]) (by grind [wt,decide,List.length_take_le]) ?_;intro P mh T I a1 ax;have d9:mh[R]?=some (.arr [aI o,lI U]):=by grind
       have d10:mh[R+1]?=some (.arr [aI o,C]):=by grind
       have d11:mh[R+2]?=some (.arr [aI o,a0]):=by grind
       have ad:=(qg.1 d11).1;have aj:=(qg.1 c11).1;have a6:Own mh 1 C ((selW (fun x=>decide (1<x)) rw (U.take j) 0).map rI):=Own.same ol fun b hb=>I b (Own.lt ol hb) (nb b hb)
       have ae:=Own.set a6 (i:=R+2) (.arr [aI o,P]) (fun h=>by grind);have a4:=Own.set T (i:=R+2) (.arr [aI o,P]) (fun h=>by grind);have a7:∀ b,qj P=some b->R+3<=b:=fun b h=>by grind
       have af:∀ b,qj C=some b->qj P≠some b:=fun b h h2=>by grind [Own.lt]
       have a2:∀ i,i<R->(mh.set (R+2) (.arr [aI o,P]))[i]?=st.mu[i]?:=fun i hi=>by
        rw[zGl,I i zOm (fun h=>zW1 (bh i h))];exact low i hi
       simp[go_sem,f11,f12,d11,J,w2,Own.one T,Own.cells T];simp_all[go_sem,aK,q9]
      .skip
       have ay:0<w:=zOm;have sl:selW (fun x=>decide (1<x)) rw (U.take (j+1)) 0=selW (fun x=>decide (1<x)) rw (U.take j) 0++[U[j]]:=by simpa[aw] using aq
       have sh:selW (fun x=>decide (0<x)) rw (U.take (j+1)) 0=selW (fun x=>decide (0<x)) rw (U.take j) 0++[U[j]]:=by simpa[ay] using au
       simp[go_sem,f2,f8,f9,f12,c9,J,ay,aw,aa,ab,hx];refine cZ zKr ?_;simp[go_sem,f9,f11,f12,c9,c11,J];refine qu.ownB (e:=3) (sz:=1) (bt:=8) (zv:=aI 0) (xs:=(selW (fun x=>decide (0<x)) rw (U.take j) 0).map rI) (ys:=[rI U[j]]) zSi zSi zSi rfl rfl zOm zOm oh (by simp[qz]) (yk _) (yk [_]) (by have:=(wt (fun x=>decide (0<x)) rw (U.take j) 0).length_le;have:=List.length_take_le j U;simp;omega) ?_;intro P mh T I a1 ax;have d9:mh[R]?=some (.arr [aI o,lI U]):=by rw[I R (qg.1 c9).1 (fun h=>zW1 (bh R h))];exact c9
       have d10:mh[R+1]?=some (.arr [aI o,C]):=by rw[I (R+1) (qg.1 c10).1 (fun h=>zW1 (bh _ h))];exact c10
       have d11:mh[R+2]?=some (.arr [aI o,a0]):=by rw[I (R+2) (qg.1 c11).1 (fun h=>zW1 (bh _ h))];exact c11
       have ad:=(qg.1 d11).1;have aj:=(qg.1 c11).1;have a6:Own mh 1 C ((selW (fun x=>decide (1<x)) rw (U.take j) 0).map rI):=Own.same ol fun b hb=>I b (Own.lt ol hb) (nb b hb)
       have ae:=Own.set a6 (i:=R+2) (.arr [aI o,P]) (fun h=>zW1 (bl _ h));have a4:=Own.set T (i:=R+2) (.arr [aI o,P]) (fun h=>zW1 (a1 _ h));have a7:∀ b,qj P=some b->R+3<=b:=fun b h=>zW1 (a1 b h)
       have af:∀ b,qj C=some b->qj P≠some b:=fun b h h2=>zW2 (a1 b h2) (Own.lt ol h)
       have a2:∀ i,i<R->(mh.set (R+2) (.arr [aI o,P]))[i]?=st.mu[i]?:=fun i hi=>by
        rw[zGl,I i zOm (fun h=>zW1 (bh i h))];exact low i hi
       simp[go_sem,f11,d11,ay,aw,Own.one T,Own.cells T];refine cZ zKr ?_;have e9:(mh.set (R+2) (.arr [aI o,P]))[R]?=some (.arr [aI o,lI U]):=by rw[zGl];exact d9
       have az:(mh.set (R+2) (.arr [aI o,P]))[R+1]?=some (.arr [aI o,C]):=by rw[zGl];exact d10
       have b0:(mh.set (R+2) (.arr [aI o,P]))[R+2]?=some (.arr [aI o,P]):=qI ad;generalize cu:mh.set (R+2) (.arr [aI o,P])=M2 at *
       simp[go_sem,f9,f10,f12,e9,az,J];refine qu.ownB (e:=3) (sz:=1) (bt:=8) (zv:=aI 0) (xs:=(selW (fun x=>decide (1<x)) rw (U.take j) 0).map rI) (ys:=[rI U[j]]) zSi zSi zSi rfl rfl zOm zOm ae (by simp[qz]) (yk _) (yk [_]) (by have:=(wt (fun x=>decide (1<x)) rw (U.take j) 0).length_le;have:=List.length_take_le j U;simp;omega) ?_;intro al ml b1 ak b2 cv;have g9:ml[R]?=some (.arr [aI o,lI U]):=by rw[ak R (qg.1 e9).1 (fun h=>zW1 (bl R h))];exact e9
       have b6:ml[R+1]?=some (.arr [aI o,C]):=by rw[ak (R+1) (qg.1 az).1 (fun h=>zW1 (bl _ h))];exact az
       have bo:ml[R+2]?=some (.arr [aI o,P]):=by rw[ak (R+2) (qg.1 b0).1 (fun h=>zW1 (bl _ h))];exact b0
       have l10:=(qg.1 b6).1;have cf:=(qg.1 b0).1;have bq:Own ml 1 P ((selW (fun x=>decide (0<x)) rw (U.take j) 0++[U[j]]).map rI):=by
        rw[q9];exact Own.same a4 fun b hb=>ak b (Own.lt a4 hb) (fun h=>af b h hb)
       have br:=Own.set b1 (i:=R+1) (.arr [aI o,al]) (fun h=>zW1 (b2 _ h));have bs:=Own.set bq (i:=R+1) (.arr [aI o,al]) (fun h=>zW1 (a7 _ h));simp[go_sem,f10,f12,b6,J,w2,Own.one b1,Own.cells b1]
       try refine⟨J,aK ?_⟩
       try refine aK ?_
       refine⟨zS1 f2,zS1 f7,zS1 f8,zS1 f9,zS1 f10,zS1 f11,zSi,al,P,by simp[go_sem];exact g9,zS1 l10,by simp[go_sem];exact bo,by rw[sl,q9];simpa[go_sem] using br,by rw[sh];simpa[go_sem] using bs,fun b h=>zW1 (b2 b h),a7,fun b h h2=>zW2 (b2 b h) (Own.lt a4 h2),fun i hi=>?_⟩;simp[go_sem];rw[zGl,ak i zOm (fun h=>zW1 (bl i h))];exact a2 i hi
     .have a5:wtR rw j=1:=by rw[wtR,bm,if_neg ab]
      have sl:selW (fun x=>decide (1<x)) rw (U.take (j+1)) 0=selW (fun x=>decide (1<x)) rw (U.take j) 0:=by simpa[a5] using aq
      have sh:selW (fun x=>decide (0<x)) rw (U.take (j+1)) 0=selW (fun x=>decide (0<x)) rw (U.take j) 0++[U[j]]:=by simpa[a5] using au
      simp[go_sem,f2,f8,f9,f12,c9,J,aa,ab];refine cZ zKr ?_;simp[go_sem,f9,f11,f12,c9,c11,J];refine qu.ownB (e:=3) (sz:=1) (bt:=8) (zv:=aI 0) (xs:=(selW (fun x=>decide (0<x)) rw (U.take j) 0).map rI) (ys:=[rI U[j]]) zSi zSi zSi rfl rfl zOm zOm oh (by simp[qz]) (yk _) (yk [_]) (by have:=(wt (fun x=>decide (0<x)) rw (U.take j) 0).length_le;have:=List.length_take_le j U;simp;omega) ?_;intro P mh T I a1 ax;have d9:mh[R]?=some (.arr [aI o,lI U]):=by rw[I R (qg.1 c9).1 (fun h=>zW1 (bh R h))];exact c9
      have d10:mh[R+1]?=some (.arr [aI o,C]):=by rw[I (R+1) (qg.1 c10).1 (fun h=>zW1 (bh _ h))];exact c10
      have d11:mh[R+2]?=some (.arr [aI o,a0]):=by rw[I (R+2) (qg.1 c11).1 (fun h=>zW1 (bh _ h))];exact c11
      have ad:=(qg.1 d11).1;have aj:=(qg.1 c11).1;have a6:Own mh 1 C ((selW (fun x=>decide (1<x)) rw (U.take j) 0).map rI):=Own.same ol fun b hb=>I b (Own.lt ol hb) (nb b hb)
      have ae:=Own.set a6 (i:=R+2) (.arr [aI o,P]) (fun h=>zW1 (bl _ h));have a4:=Own.set T (i:=R+2) (.arr [aI o,P]) (fun h=>zW1 (a1 _ h));have a7:∀ b,qj P=some b->R+3<=b:=fun b h=>zW1 (a1 b h)
      have af:∀ b,qj C=some b->qj P≠some b:=fun b h h2=>zW2 (a1 b h2) (Own.lt ol h)
      have a2:∀ i,i<R->(mh.set (R+2) (.arr [aI o,P]))[i]?=st.mu[i]?:=fun i hi=>by
       rw[zGl,I i zOm (fun h=>zW1 (bh i h))];exact low i hi
      simp[go_sem,f11,f12,d11,J,w2,Own.one T,Own.cells T]
      try refine⟨J,aK ?_⟩
      try refine aK ?_
      refine⟨zS1 f2,zS1 f7,zS1 f8,zS1 f9,zS1 f10,zS1 f11,zSi,C,P,by simp[go_sem];exact d9,by simp[go_sem];exact d10,zS1 ad,by rw[sl];simpa[go_sem] using ae,by rw[sh,q9];simpa[go_sem] using a4,bl,a7,af,by simpa[go_sem] using a2⟩
    .have a5:wtR rw j=1:=by
      have:rw=[]:=by rw[<-bj,zC,List.getElem?_eq_none zOm];rfl
      rw[wtR,this];rfl
     have sl:selW (fun x=>decide (1<x)) rw (U.take (j+1)) 0=selW (fun x=>decide (1<x)) rw (U.take j) 0:=by simpa[a5] using aq
     have sh:selW (fun x=>decide (0<x)) rw (U.take (j+1)) 0=selW (fun x=>decide (0<x)) rw (U.take j) 0++[U[j]]:=by simpa[a5] using au
     simp[go_sem,f2,f8,f9,f12,c9,J,aa];refine cZ zKr ?_;simp[go_sem,f9,f11,f12,c9,c11,J];refine qu.ownB (e:=3) (sz:=1) (bt:=8) (zv:=aI 0) (xs:=(selW (fun x=>decide (0<x)) rw (U.take j) 0).map rI) (ys:=[rI U[j]]) zSi zSi zSi rfl rfl zOm zOm oh (by simp[qz]) (yk _) (yk [_]) (by have:=(wt (fun x=>decide (0<x)) rw (U.take j) 0).length_le;have:=List.length_take_le j U;simp;omega) ?_;intro P mh T I a1 ax;have d9:mh[R]?=some (.arr [aI o,lI U]):=by rw[I R (qg.1 c9).1 (fun h=>zW1 (bh R h))];exact c9
     have d10:mh[R+1]?=some (.arr [aI o,C]):=by rw[I (R+1) (qg.1 c10).1 (fun h=>zW1 (bh _ h))];exact c10
     have d11:mh[R+2]?=some (.arr [aI o,a0]):=by rw[I (R+2) (qg.1 c11).1 (fun h=>zW1 (bh _ h))];exact c11
     have ad:=(qg.1 d11).1;have aj:=(qg.1 c11).1;have a6:Own mh 1 C ((selW (fun x=>decide (1<x)) rw (U.take j) 0).map rI):=Own.same ol fun b hb=>I b (Own.lt ol hb) (nb b hb)
     have ae:=Own.set a6 (i:=R+2) (.arr [aI o,P]) (fun h=>zW1 (bl _ h));have a4:=Own.set T (i:=R+2) (.arr [aI o,P]) (fun h=>zW1 (a1 _ h));have a7:∀ b,qj P=some b->R+3<=b:=fun b h=>zW1 (a1 b h)
     have af:∀ b,qj C=some b->qj P≠some b:=fun b h h2=>zW2 (a1 b h2) (Own.lt ol h)
     have a2:∀ i,i<R->(mh.set (R+2) (.arr [aI o,P]))[i]?=st.mu[i]?:=fun i hi=>by
      rw[zGl,I i zOm (fun h=>zW1 (bh i h))];exact low i hi
     simp[go_sem,f11,f12,d11,J,w2,Own.one T,Own.cells T]
     try refine⟨J,aK ?_⟩
     try refine aK ?_
     refine⟨zS1 f2,zS1 f7,zS1 f8,zS1 f9,zS1 f10,zS1 f11,zSi,C,P,by simp[go_sem];exact d9,by simp[go_sem];exact d10,zS1 ad,by rw[sl];simpa[go_sem] using ae,by rw[sh,q9];simpa[go_sem] using a4,bl,a7,af,by simpa[go_sem] using a2⟩
   .skip
    obtain rfl:U.length=j:=zOm;rw[qO]at ol oh;have cw:R+2<st2.mu.length:=(qg.1 c11).1;have bu:(cutM (fun j=>decide (R<=j)) st2.mu 0)[R+1]?=some (.arr [aI o,C]):=by rw[js,c10];simp
    have bv:(cutM (fun j=>decide (R<=j)) st2.mu 0)[R+2]?=some (.arr [aI o,a0]):=by rw[js,c11];simp
    have b7:∀ l:List Int,∀ r,r∈l.map rI->∀ c,c∈r->HF c:=fun l r hr c hc=>by
     obtain⟨x,_,rfl⟩:=qi.1 hr;simp at hc;subst hc;exact HF.sc _
    have bw:Rd (cutM (fun j=>decide (R<=j)) st2.mu 0) C (lI (selW (fun x=>decide (1<x)) rw U 0)):=Own.rd (Ys ol fun b hb=>zW1 (bl b hb)) (yk _).ok (b7 _);have ca:Rd (cutM (fun j=>decide (R<=j)) st2.mu 0) a0 (lI (selW (fun x=>decide (0<x)) rw U 0)):=Own.rd (Ys oh fun b hb=>zW1 (bh b hb)) (yk _).ok (b7 _);simp[go_sem,f9,f12,c9];refine cQ (d:=10) (d':=11) (L:=R) (x := .ip [aI o,lI (selW (fun x=>decide (1<x)) rw U 0)]) (x' := .ip [aI o,lI (selW (fun x=>decide (0<x)) rw U 0)]) zDe ?_ ?_ ?_
    .simp [go_sem,f10]
     refine .ptr (R+1) 0 [aI o,C] _ bu zSp fun k u v hu hv=>?_
     match k with
     | 0=>simp at hu hv;subst hu;subst hv;exact .zsc _
     | 1=>simp at hu hv;subst hu;subst hv;exact bw
     |k+2=>simp at hv
    .simp [go_sem,f11]
     refine .ptr (R+2) 0 [aI o,a0] _ bv zSp fun k u v hu hv=>?_
     match k with
     | 0=>simp at hu hv;subst hu;subst hv;exact .zsc _
     | 1=>simp at hu hv;subst hu;subst hv;exact ca
     |k+2=>simp at hv
    have a8:(cutM (fun j=>!decide (R<=j)) st2.mu 0)[B]?=some (.arr FL):=by
     rw[js,low B bi,hc];simp[show ¬R<=B by omega]
    have b8:B<(cutM (fun j=>!decide (R<=j)) st2.mu 0).length:=(qg.1 a8).1;generalize b9:cutM (fun j=>!decide (R<=j)) st2.mu 0=CM at *
    simp[go_sem,f7,f8,h,a9,a8,b9];refine tA (.ptr B (k*4)) (if_pos zOm) ?_;have a3:=b5 (cBd BK) rfl zOm;rw[ai,yY _ _ _ zSo]at a3;have cb:cBd BK=[aI o,lI (selW (fun x=>decide (1<x)) rw U 0),aI o,lI (selW (fun x=>decide (0<x)) rw U 0)]:=by rw[be];rfl
    rw[cb]at a3;simp only[zy,yw,vg,zz,List.length_nil]at a3;have bb:(jJ ts sc raw (k+1)).length=W.length:=by rw[<-ai,List.length_set]
    simp[go_sem,a8,b9];refine tA (CM.set B (.arr (jJ ts sc raw (k+1)).flatten)) (by rw[if_pos zOm,a3]) ?_;simp[go_sem,f2,f7,f8,w1,a9,h];refine aK ⟨zS1 f2,zS1 f7,zSi,.inr ⟨B,?_,?_⟩⟩
    .simp [go_sem,f7,h,bb]
    .simp [go_sem]
     rw[qI b8]
 .have cc:k=ts.sA.length:=by omega
  subst cc;have cd:jJ ts sc raw ts.sA.length=(zU ts sc raw).map cBd:=by
   rw[jJ,<-an,qO,an,yh,List.map_nil,zF]
  rw[cd]at ho;simp[go_sem,e7,e8];refine tA (aI (zU ts sc raw).length) (by rcases ho with h|⟨b,h,_⟩<;>rw[h]<;>simp) ?_;simp[go_sem,an,e7,Own.one ho,Own.cells ho];refine Own.rd ho (fun r hr=>?_) fun r hr=>?_
  .obtain ⟨x,_,rfl⟩:=qi.1 hr;rfl
  .obtain ⟨x,_,rfl⟩:=qi.1 hr;exact UE x
end I2
end Go.Proofs.YtfednihcpihlgaaGreatDoor
